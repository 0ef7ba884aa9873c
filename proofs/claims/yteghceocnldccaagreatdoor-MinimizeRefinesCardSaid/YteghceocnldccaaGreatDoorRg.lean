/- Part Rg of the proof: an abstract machine over the model, and what the functions of the program hand back in its terms. No condition. -/
import Derived.Test.YteghceocnldccaaGreatDoorRf
import Derived.Test.YteghceocnldccaaGreatDoorRe
set_option linter.all false
open List renaming mem_map→zT,mem_of_getElem?→zJ,getElem?_set_ne→zE,getElem?_set_self→zO,getElem?_append_right→zH,getElem?_append_left→zF,getElem_mem→zL,getElem?_eq_getElem→zK,getElem?_eq_some_iff→zB,any_eq_false→vD,take_succ_eq_append_getElem→zU,length_cons→yS,length_take→wn,mem_append→zW,mem_of_mem_take→xS,foldl_append→wL,append_assoc→xT,take_of_length_le→zR,mem_singleton→zQ,getElem?_eq_none→xL,findIdx?_eq_some_iff_getElem→xG,findIdx?_eq_none_iff→wY,getElem_of_mem→xH,range→yO,take_length→yW,range_succ→wH,foldl_cons→xY,length_append→zZ,mem_or_eq_of_mem_set→vK,getD→yX,mem_cons→yE,not_mem_nil→u6,map_append→yP,length_map→yB,append_nil→xB,mem_append_left→xA,pairwise_iff_getElem→yU,pairwise_append→yF,perm_middle→vI,take_append_drop→xU,mem_iff_getElem?→yJ,pairwise_cons→yT,mem_filter→xW,pairwise_map→wP,nodup_append→vv,mem_range→y_,map_cons→yZ,sum_cons→ur,all_eq_true→zX,drop_eq_getElem_cons→xV,drop_length→xF
open Nat renaming le_refl→zP,lt_trichotomy→vV,zero_le→xD
open Prod renaming ext→uB
open Option renaming getD_some→wO
set_option maxHeartbeats 8000000
set_option linter.unusedSimpArgs false
set_option maxRecDepth 100000
namespace Go.Abs
open Go Go.Proofs Go.Maps
attribute [simp] T94 T88
abbrev LQ (Q:List (List Int)):List AV:=Q.map fun l=>LI l
structure TB (r p m:Nat) (a:Aut) (cl:List Prd) (Q:List (List Int)) (H:List AObj):Prop where
 t:H[r]? =some (.vars [.i a.types,.list (a.fin.map .bool),.list (a.mv.map encMv),LP cl,.sl p 1 0 Q.length,.mref m])
 s:H[p]? =some (.arr 40 1 (LQ Q))
 n:H[m]? =some (mpT (Q.map Tl))
def Sk(x:List Int):Prop:=x≠[]∧x.length≤256∧∀z∈x,0≤z∧z≤1000000
def u0n(Q:List (List Int))(x:List Int):List (List Int):=if x∈Q then Q else Q++[x]
theorem TB.keep{r p m:Nat}{a:Aut}{cl:List Prd}{Q:List (List Int)}{H H':List AObj}(h:TB r p m a cl Q H)(hk:∀j,(j=r∨j=p∨j=m)→H'[j]? =H[j]?):TB r p m a cl Q H':=
 ⟨(hk r (.inl rfl)).trans h.t,(hk p (.inr (.inl rfl))).trans h.s,(hk m (.inr (.inr rfl))).trans h.n⟩
theorem TB.ne{r p m:Nat}{a:Aut}{cl:List Prd}{Q:List (List Int)}{H:List AObj}(h:TB r p m a cl Q H):r≠p∧r≠m∧p≠m:=by
 refine⟨fun e=> ?_,fun e=> ?_,fun e=> ?_⟩
 ·have h1:=h.t;rw[e,h.s]at h1;simp at h1
 ·have h1:=h.t;rw[e,h.n,Rk]at h1;simp at h1
 ·have h1:=h.s;rw[e,h.n,Rk]at h1;simp at h1
theorem Sk.rng{x:List Int}(h:Sk x):∀z∈x,-9223372036854775808≤z∧z≤9223372036854775807:=fun z hz=>by have:=h.2.2 z hz;omega
theorem Hc{x:List Int}(h:Sk x):(Tl x).length≤1000000:=by have:=w0a h.rng;have:=h.2.1;omega
theorem q25{x:List Int}{Q:List (List Int)}(hQ:∀l∈Q,Sk l)(hx:Sk x):Tl x∈Q.map Tl↔x∈Q:=by refine⟨fun h=> ?_,fun h=>zT.2 ⟨x,h,rfl⟩⟩;obtain⟨l,hl,e⟩:=zT.1 h;rw[←Zj (fun z hz=>((hQ l hl).2.2 z hz).1) (fun z hz=>(hx.2.2 z hz).1) e];exact hl
attribute [local irreducible] mpT Tl
theorem Nt(H:List AObj)(r p m:Nat)(a:Aut)(cl:List Prd)(Q:List (List Int))(x:List Int)(h:TB r p m a cl Q H)(hx:Sk x)(hQ:∀l∈Q,Sk l)(zg:Q.length≤100000):
  FC Tryz.prog 57 [.vptr r 0,LI x] H (fun res H'=>∃(j p':Nat),res= .i j∧(u0n Q x)[j]? =some x∧TB r p' m a cl (u0n Q x) H'∧(p'=p∨H.length≤p')∧H.length≤H'.length∧(x∈Q→H'=H)∧∀i,i<H.length→i≠r→i≠p→i≠m→H'[i]? =H[i]?):=by
 refine W6 tOk Tryz.func57 rfl Tryz.results57 rfl (by simp[Tryz.ntmps57]) ?_;rw[Tryz.ntmps57];simp only[Qg];repeat first|(refine r_ ?_;simp)|refine q_ ?_
 refine Qe rfl rfl (by simp) (g1h x hx.rng (by have:=hx.2.1;omega) hx.1) rfl ?_;rintro _ rfl;simp;have ht:=h.t;have hn:=h.n;have hs:=h.s;obtain⟨n1,n2,n3⟩:=h.ne;repeat first|(refine r_ ?_;simp[ht])|refine q_ ?_
 have z8:∀k∈Q.map Tl,k.length≤1000000:=fun k hk=>by obtain⟨l,hl,rfl⟩:=zT.1 hk;exact Hc (hQ l hl)
 refine Jf (n:=Tl x) rfl rfl rfl rfl rfl hn z8 (Hc hx) (fun j hj=> ?_) (fun za=> ?_)
 ·have zb:Q[j]? =some x:=by rw[List.getElem?_map]at hj;obtain⟨l,hl,e⟩:=Option.map_eq_some_iff.1 hj;rw[←Zj (fun z hz=>((hQ l (zJ hl)).2.2 z hz).1) (fun z hz=>(hx.2.2 z hz).1) e];exact hl
  have z1:u0n Q x=Q:=by rw[u0n,if_pos (zJ zb)]
  rw[z1];simp;repeat first|(refine r_ ?_;simp)|refine q_ ?_
  refine Ql rfl ?_;simp;repeat first|(refine r_ ?_;simp)|refine q_ ?_
  exact⟨j,rfl,zb,p,h,.inl rfl⟩
 ·have zc:x∉Q:=fun hm=>za ((q25 hQ hx).2 hm);have z1:u0n Q x=Q++[x]:=by rw[u0n,if_neg zc]
  rw[z1];have ze:(Q.map Tl).length=Q.length:=by simp
  simp;repeat first|(refine r_ ?_;simp)|refine q_ ?_
  refine Ql rfl ?_;simp;repeat first|(refine r_ ?_;simp[ht])|refine q_ ?_
  refine La (n:=Tl x) rfl rfl rfl rfl rfl (ks:=Q.map Tl) (by rw[ze];rfl) hn z8 (Hc hx) za ?_;simp;have z6:=Qd (Ne.symm n2) ht (mpT (Q.map Tl++[Tl x]));have z7:=Qd (Ne.symm n3) hs (mpT (Q.map Tl++[Tl x]));have zd:=Qi hn (mpT (Q.map Tl++[Tl x]));have zf:∀i,i≠m→(H.set m (mpT (Q.map Tl++[Tl x])))[i]? =H[i]? :=fun i hi=>zE (Ne.symm hi);have zh:(H.set m (mpT (Q.map Tl++[Tl x]))).length=H.length:=by simp
  generalize H.set m (mpT (Q.map Tl++[Tl x]))=G at *
  repeat first|(refine r_ ?_;simp[z6])|refine q_ ?_
  have g1:∀L,(G.set p .dead++L)[r]? =some (.vars [.i a.types,.list (a.fin.map .bool),.list (a.mv.map encMv),LP cl,.sl p 1 0 Q.length,.mref m]):=fun L=>Qb (Qd (Ne.symm n1) z6 _) L;refine Qf tOk rfl rfl T28 rfl T40 rfl (by decide) (by decide) rfl rfl rfl ?_;simp[Qb z7,Qj z7,Qb z6,g1];refine⟨by simp[Wi,Qb z7,Qj z7,Qb z6,g1]<;>omega,?_⟩;repeat first|(refine r_ ?_;simp[g1])|refine q_ ?_
  have zi:=Qh z6;have zj:=Qh z7;have zk:=Qh zd;refine⟨Q.length,rfl,by simp,G.length+1,⟨?_,?_,?_⟩,.inr (by omega),by omega,fun h=>absurd h zc,fun i hi h1 h2 h3=> ?_⟩
  ·rw[zO (by simp;omega)];simp
  ·rw[zE (by omega),zH (by simp)];simp[LQ]
  ·rw[zE n2,zF (by simp;omega),zE n3,zd];simp
  ·rw[zE (Ne.symm h1),zF (by simp;omega),zE (Ne.symm h2)];exact zf i h3
end Go.Abs
namespace Go.Abs
open Go Go.Proofs Go.Maps
theorem Ar(H:List AObj)(r:Nat)(x:List Int):FC Tryz.prog 56 [.vptr r 0,LI x] H (fun res H'=>res= .fn (.func 120) [] [.vptr H.length 0,.vptr (H.length+1) 0]∧H'=H++[.vars [.vptr r 0],.vars [LI x]]):=by refine W6 tOk Tryz.func56 rfl Tryz.results56 rfl (by simp[Tryz.ntmps56]) ?_;rw[Tryz.ntmps56];simp only[Qg];repeat first|(refine r_ ?_;simp)|refine q_ ?_
attribute [local irreducible] Wh Qp
theorem w06 (a:Aut) (ha:OkA a) (cl:List Prd) (set:List Int) (zg:∀c∈cl,Jm [c]=0∧Wf c=false∧Rm a (Qp c)) (zn:cl.length≤256) (q c1 c2 r:Nat) {z7:Nat} {sl':List (Nat×AV)} {ps:List Tmp} {asg body:Code} (zh:ps.length=2) (zi:(ps.all fun p=>decide (p<z7))=true)
  (Inv:Nat→List AObj→Prop)
  (hI:∀k H,Inv k H→H[q]? =some (.lp true none z7 sl' ps asg body)∧H[c1]? =some (.vars [.vptr r 0])∧H[c2]? =some (.vars [LI set])∧∃rest,H[r]? =some (.vars (.i a.types:: .list (a.fin.map .bool):: .list (a.mv.map encMv)::LP cl::rest)))
  (z8:∀k H L,Inv k H→Inv k (H++L))
  (za:∀k c H,cl[k]? =some c→Wh a set (Qp c)=[]→Inv k H→Inv (k+1) H)
  (z1:∀k c H,cl[k]? =some c→Wh a set (Qp c)≠[]→Inv k H→AWP Tryz.prog z7 H.length asg (P4 (AWP Tryz.prog z7 H.length body (w04 q (fun jm K2=>jm=none∧Inv (k+1) (K2.set q (.lp true none z7 sl' ps asg body))))) (fun _ _=>False)) ⟨Tn sl' ps [encP c,LI (Wh a set (Qp c))],H.set q .dead⟩)
  (H0:List AObj) (h0:Inv 0 H0):FC Tryz.prog 120 [.yld q,.vptr c1 0,.vptr c2 0] H0 (fun _ H'=>Inv cl.length H'):=by
 refine W6 tOk Tryz.func120 rfl Tryz.results120 rfl (by simp[Tryz.ntmps120]) ?_;rw[Tryz.ntmps120];simp only[Qg];obtain⟨i1,i2,i3,rest,i4⟩:=hI 0 H0 h0;repeat first|(refine r_ ?_;simp[i2,i4])|refine q_ ?_
 refine Qo (Qc (sl':=[(0,.yld q),(1,.vptr c1 0),(2,.vptr c2 0),(12,LP cl),(13,.i cl.length),(14,.i (0:Nat))]) ?_ (by simp));clear i1 i2 i3 i4;clear rest;refine Qn (F:=fun(u:Nat×List AObj)=>⟨[(0,.yld q),(1,.vptr c1 0),(2,.vptr c2 0),(12,LP cl),(13,.i cl.length),(14,.i u.1)],u.2⟩)
  (fun u=>u.1≤cl.length∧Inv u.1 u.2) (fun u=>cl.length - u.1) ?_ (0,H0) ⟨by simp,h0⟩
 rintro⟨k,H⟩ ⟨hk,hv⟩ ih;simp only at hk hv ih ⊢;repeat first|(refine r_ ?_;simp)|refine q_ ?_
 refine Qa rfl (fun zj=> ?_) (fun zk=> ?_)
 ·have z6:k<cl.length:=by simpa using zj
  have hw:IntKind.i64.wrap ((k:Int)+1)=k+1:=wrap_i64 _ (by omega) (by omega);have zc:=zg _ (zL z6);have zb:cl[k]? =some cl[k]:=zK z6;repeat first|(refine r_ ?_;simp[z6])|refine q_ ?_
  generalize cl[k]=c at *;refine Qe rfl rfl (by simp) (x08 c zc.1 zc.2.1) rfl ?_
  rintro _ rfl;simp;repeat first|(refine r_ ?_;simp)|refine q_ ?_
  have zd:=z8 k H [.vars [.list (c.map encL)],.vars [.i (Qp c).ty,.i (Qp c).num]] hv;obtain⟨i1,i2,i3,rest,i4⟩:=hI k _ zd;have h6:(H++[AObj.vars [.list (c.map encL)],.vars [.i (Qp c).ty,.i (Qp c).num]])[H.length+1]? =some (.vars [.i (Qp c).ty,.i (Qp c).num]):=by rw[zH (by omega)];simp
  have h5:(H++[AObj.vars [.list (c.map encL)],.vars [.i (Qp c).ty,.i (Qp c).num]])[H.length]? =some (.vars [.list (c.map encL)]):=by rw[zH (by omega)];simp
  generalize H++[AObj.vars [.list (c.map encL)],.vars [.i (Qp c).ty,.i (Qp c).num]]=G at *;refine Qm tOk mixed [] (.val 0 (.val 1 (.val 2 (.val 3 (.val 4 (.val 5 (.one 6 (.val 7 (.done))))))))) rfl (by kernel_rfl) ?_
  simp[i2,i3,i4,h6];refine Qe rfl rfl (by simp) (Bq a ha set (Qp c) zc.2.2) rfl ?_;rintro _ rfl;simp;have hlen:=Zm ha set (Qp c);have zl:=za k c G zb;have zm:=z1 k c G zb;generalize Wh a set (Qp c)=nx at *
  by_cases hnx:nx=[]
  ·subst hnx;repeat first|(refine r_ ?_;simp[h5])|refine q_ ?_
   refine Q9 rfl rfl ?_;simp;repeat first|(refine r_ ?_;simp)|refine q_ ?_
   refine Qa rfl (fun h=>by cases h) (fun _=> ?_);repeat first|(refine r_ ?_;simp[hw])|refine q_ ?_
   refine Qc (sl':=[(0,.yld q),(1,.vptr c1 0),(2,.vptr c2 0),(12,LP cl),(13,.i cl.length),(14,.i (k+1:Nat))]) ?_ (by simp);exact ih (k+1,G) ⟨by omega,zl rfl zd⟩ (by omega)
  ·have ze:0<nx.length:=List.length_pos_iff.2 hnx;repeat first|(refine r_ ?_;simp[h5,ze])|refine q_ ?_
   refine Uu rfl rfl (q:=q) rfl rfl i1 zh zi rfl (fun jm K2=>jm=none∧Inv (k+1) (K2.set q (.lp true none z7 sl' ps asg body))) ?_ ?_
   ·exact zm hnx zd
   ·rintro jm K2 ⟨rfl,hK⟩;simp;repeat first|(refine r_ ?_;simp)|refine q_ ?_
    refine Qa rfl (fun h=>by cases h) (fun _=> ?_);repeat first|(refine r_ ?_;simp[hw])|refine q_ ?_
    refine Qc (sl':=[(0,.yld q),(1,.vptr c1 0),(2,.vptr c2 0),(12,LP cl),(13,.i cl.length),(14,.i (k+1:Nat))]) ?_ (by simp);exact ih (k+1,_) ⟨by omega,hK⟩ (by omega)
 ·have zf:k=cl.length:=by simp at zk;omega
  subst zf;repeat first|(refine r_ ?_;simp)|refine q_ ?_
  exact hv
end Go.Abs
namespace Go.Abs
open Go Go.Proofs Go.Maps Go.RowKit
section
variable {P:Program} [Env P] {T:TT} {nt k:Nat} {S:AS} {ops:Array Oper} {o:Oper} {R:AS→Prop} {Q:Exit→AS→Prop}
theorem Xh {wr:Bool} {sl:List (Nat×AV)} {H:List AObj} (i j e sz:Nat) {xs:List AV} (hi:H[i]? =some (.vars xs)) (hj:xs[j]? =some .nils)
  (h:Wn P nt k wr ops o ⟨sl,(H++[AObj.arr e sz []]).set i (.vars (xs.set j (.sl H.length sz 0 0)))⟩ R):Wn P nt k wr ops o ⟨sl,H⟩ R:=fun C a w K Q' hs=>by
 obtain⟨I,m,hw,z1,hk,hf⟩:=hs;obtain⟨g1,g2⟩:=hw.push (Below.refl _ _) none (fun b e=>by cases e) (.arr e sz []) (fun m' _ _=> .inl ⟨rfl,rfl⟩);have z8:i<H.length:=(zB.1 hi).1;have z6:(H++[AObj.arr e sz []])[i]? =some (.vars xs):=by rw[zF z8];exact hi
 obtain⟨b,t,vs,hb,hh,za,hr⟩:=g1.obj i _ z6;obtain⟨g3,g4⟩:=g1.set (w':=w) (o':= .vars (xs.set j (.sl H.length sz 0 0))) z6 rfl hb (World.grownBy.refl _ _) (fun _ h=>h) (fun m' z7=>⟨b,t,vs,rfl,hh,by simp[za],fun q v x hv hx=>by
  by_cases hq:j=q
  ·subst hq;rw[zO (zB.1 hj).1]at hx;cases hx;have:=(hr j v _ hv hj).nils_inv;subst this;exact .slnone H.length sz (by simp) (by rw[z7.ids _ (by simp)];exact We ..)
  ·rw[zE hq]at hx;exact(hr q v x hv hx).mono z7 (zP _)⟩)
 have hlen:((H++[AObj.arr e sz []]).set i (.vars (xs.set j (.sl H.length sz 0 0)))).length=H.length+1:=by simp
 refine h C a w K Q' ⟨I,upd m H.length none,g3,⟨z1.1,z1.2.1,fun s x hx=> ?_⟩,by simp at hk ⊢;omega,hf.trans hk g2⟩;obtain⟨v,hv,zb⟩:=z1.2.2 s x hx;refine⟨v,hv,?_⟩;have:=zb.mono (n':=H.length+1) g2 (by simp);rw[hlen];exact this
end
theorem Cc{a:Aut}(h:OkA a)(hm:(Tm a.types (onA a)).1=0):∃cl,Tm a.types (onA a)=(0,cl)∧Cls a cl∧cl.length≤256∧∀c∈cl,Jm [c]=0∧Wf c=false∧Rm a (Qp c)∧PWf a.types.toNat c∧∀s∈c,s.length≤256:=by
 have hc:=u1n h;have za:a.mv.map (·.on)=onA a:=rfl;rw[za]at hc;have z7:=Kr h;have zb:=j0t a.types (onA a);rcases k0t h.types z7 with h5|h5
 ·omega
 ·refine⟨_,h5,hc,?_⟩;have hb:S3 (Q5 a.types.toNat (onA a))=false:=by
   cases hb:S3 (Q5 a.types.toNat (onA a))with
   |false=>rfl
   |true=>
    rw[←zb,j0m]at hm;rw[if_neg (by have:=h.types;omega)]at hm;have hl:(onA a).length≤256:=by
     by_cases hl:256<(onA a).length
     ·rw[if_pos hl]at hm;simp at hm
     ·omega
    rw[if_neg (by omega),if_neg (fun k=>k ((It _).2 fun p hp=>(Ec _ p).2 ⟨h.types,z7 p hp⟩)),hb]at hm;simp at hm
  simp only[S3,Bool.or_eq_false_iff,decide_eq_false_iff_not,vD,decide_eq_true_eq]at hb;refine⟨by omega,fun c z1=> ?_⟩;have hw:=hc.wf c z1;have z8:∀s∈c,s.length≤256:=fun s hs=>by have:=hb.2 c z1;simp only[Bool.not_eq_true,vD,decide_eq_true_eq]at this;have:=this s hs;omega
  have z6:E5 a.types c=0:=(Ec _ c).2 ⟨h.types,hw.1.1,fun s hs=>Ga (hw.1.2 s hs).1 (q0k (hw.1.2 s hs).1 (hw.1.2 s hs).2) (by have:=z8 s hs;omega)⟩;refine⟨(v15 z6).1,?_,x1c hc z1,hw.1,z8⟩;rw[Bool.eq_false_iff];intro hv;obtain⟨ty,y,hy⟩:=hw.2;exact(Rz hw.1).1 hv ty y hy
theorem x14(a:Aut)(k:Nat)(h:k<a.mv.length):(onA a).take (k+1)=(onA a).take k++[a.mv[k].on]:=by rw[zU (by simpa[onA]using h)];simp[onA]
theorem Zc(a:Aut):(onA a).length=a.mv.length:=by simp[onA]
theorem V5:∀(xs:List (List Int)) (Q:List (List Int)),(Ea Q xs).length≤Q.length+xs.length
 |[],Q=>by simp[Ea]
 |x::xs,Q=>by
  have h:=V5 xs (Jk Q x);have e:Ea Q (x::xs)=Ea (Jk Q x) xs:=rfl;have h2:(Jk Q x).length≤Q.length+1:=by unfold Jk;split<;>simp
  rw[e,yS];omega
theorem w0s{a:Aut}(z1:OkA a){Q:List (List Int)}(hQ:∀l∈Q,Sk l)(z8:Q.length≤256){cl:List Prd}(za:cl.length≤256){l:List Int}(k:Nat):
  (∀y∈Ea Q ((Tu a cl l).take k),Sk y)∧(Ea Q ((Tu a cl l).take k)).length≤600:=by
 have hlen:=V5 ((Tu a cl l).take k) Q;have z6:(Tu a cl l).length=cl.length:=by simp[Tu]
 rw[wn,z6]at hlen;refine⟨fun y hy=> ?_,by omega⟩;obtain⟨R,hR,z7⟩:=Ud ((Tu a cl l).take k) Q;rw[hR]at hy;rcases zW.1 hy with hy|hy
 ·exact hQ y hy
 ·obtain⟨h1,h2⟩:=z7 y hy;obtain⟨c,_,rfl⟩:=zT.1 (xS h1);have:=z1.fin;exact⟨h2,Zm z1 _ _,fun z hz=>by have:=Ae z hz;omega⟩
theorem Lk(Q xs:List (List Int))(x:List Int):Ea Q (xs++[x])=Jk (Ea Q xs) x:=by unfold Ea;rw[wL];rfl
theorem f0k{Q:List (List Int)}{x:List Int}(h:x≠[]):Jk Q x=u0n Q x:=by
 unfold Jk u0n;by_cases hx:x∈Q
 ·rw[if_pos (.inr hx),if_pos hx]
 ·rw[if_neg (by simp[h,hx]),if_neg hx]
theorem v1g(Q:List (List Int)):Jk Q []=Q:=by unfold Jk;simp
attribute [local irreducible] Wh Qp Tm onA mpT Tl
theorem v0j(H:List AObj)(a:Aut):FC Tryz.prog 50 [encA a] H (fun res H'=>(∀j,j<H.length→H'[j]? =H[j]?)∧(((O5 a).1≠0∧res= .tup [.nilp,.i (O5 a).1])∨
  ((O5 a).1=0∧∃r p m,res= .tup [.vptr r 0,.i 0]∧TB r p m a (O5 a).2.1 (O5 a).2.2 H'∧H.length≤r∧H.length≤p∧H.length≤m))):=by
 refine W6 tOk Tryz.func50 rfl Tryz.results50 rfl (by simp[Tryz.ntmps50]) ?_;rw[Tryz.ntmps50];simp only[Qg];simp only[encA];repeat first|(refine r_ ?_;simp)|refine q_ ?_
 have b0:∀L,(H++[AObj.vars (Q4 a)]++L)[H.length]? =some (.vars (Q4 a)):=fun L=>by rw[xT,zH (by omega)];simp
 refine Qe rfl rfl (by simp) (I9 a) rfl ?_;rintro _ rfl;simp;repeat first|(refine r_ ?_;simp)|refine q_ ?_
 refine Qa rfl (fun h=> ?_) (fun h=> ?_)
 ·have h':Wx a≠0:=by simpa using h
  have hs:O5 a=(Wx a,[],[]):=Mk h';rw[hs];repeat first|(refine r_ ?_;simp)|refine q_ ?_
  exact⟨fun j hj=>zF hj,h'⟩
 have h0:Wx a=0:=by simpa using h
 have z7:=(A8 a).1 h0;have ym:=z7.fin;have yn:=z7.mvs;repeat first|(refine r_ ?_;simp)|refine q_ ?_
 refine Q8 5 76 1 rfl ?_;simp;obtain⟨G0,zg⟩:∃G0,G0=H++[AObj.vars (Q4 a)]:=⟨_,rfl⟩
 have y4:G0[H.length]? =some (.vars (Q4 a)):=by rw[zg];simp
 have zh:G0.length=H.length+1:=by rw[zg];simp
 have y5:∀j,j<H.length→G0[j]? =H[j]? :=fun j hj=>by rw[zg];exact zF hj
 have y6:=SL.start G0 76 1;refine Qo (Qc (sl':=[(1,.vptr H.length 0),(5,.sl G0.length 1 0 (0:Nat)),(20,.list (a.mv.map encMv)),(21,.i a.mv.length),(22,.i (0:Nat))]) ?_ (by simp[zh]));refine Qn (F:=fun(u:Nat×Nat×List AObj)=>⟨[(1,.vptr H.length 0),(5,.sl u.2.1 1 0 u.1),(20,.list (a.mv.map encMv)),(21,.i a.mv.length),(22,.i u.1)],u.2.2⟩)
  (fun u=>u.1≤a.mv.length∧SL G0 u.2.2 u.2.1 76 1 (((onA a).take u.1).map encP)) (fun u=>a.mv.length - u.1) ?_ (0,G0.length,_) ⟨by simp,by simp only[List.take_zero,List.map_nil];rw[zg]at y6 ⊢;simpa using y6⟩
 rintro⟨j,q,E⟩ ⟨hj,s1⟩ ih;simp only at hj s1 ih ⊢;repeat first|(refine r_ ?_;simp)|refine q_ ?_
 refine Qa rfl (fun zq=> ?_) (fun zr=> ?_)
 ·have z1:j<a.mv.length:=by simpa using zq
  have hw:IntKind.i64.wrap ((j:Int)+1)=j+1:=wrap_i64 _ (by omega) (by omega);have za:=x14 a j z1;have y7:((onA a).take j).length=j:=by rw[wn,Zc];omega
  have y8:=fun q' E'=>ih (j+1,q',E');simp only[za]at y8;clear za;generalize (onA a).take j=acc at *
  repeat first|(refine r_ ?_;simp[z1])|refine q_ ?_
  generalize a.mv[j]=mm at *;refine Qf tOk rfl rfl T91 rfl T76 rfl (by decide) (by decide) rfl rfl rfl ?_
  simp[Qb s1.arr,Qj s1.arr,y7];refine⟨by simp[Wi,Qb s1.arr,Qj s1.arr,y7]<;>omega,?_⟩;repeat first|(refine r_ ?_;simp[hw])|refine q_ ?_
  refine Qc (sl':=[(1,.vptr H.length 0),(5,.sl (E.length+2) 1 0 (j+1)),(20,.list (a.mv.map encMv)),(21,.i a.mv.length),(22,.i (j+1:Nat))]) ?_ (by simp);have:=y8 (E.length+2) _ ⟨by omega,s1.put [AObj.vars [AV.i mm.src,AV.i mm.dst,AV.list (mm.on.map encL)],AObj.arr 76 1 [encP mm.on]] ((acc++[mm.on]).map encP) rfl⟩ (by omega);simpa using this
 ·have zi:j=a.mv.length:=by simp at zr;omega
  subst zi;rw[zR (by rw[Zc];omega)]at s1;refine Wp q s1.arr ?_;simp[Zc];rw[zR (by simp[Zc])];have yo:=s1.ge;have yp:=s1.le;have zj:(E.set q .dead)[H.length]? =some (.vars (Q4 a)):=by rw[zE (by omega),s1.keep _ (by omega)];exact y4
  have zu:∀i,i<H.length→(E.set q .dead)[i]? =H[i]? :=fun i hi=>by rw[zE (by omega),s1.keep _ (by omega)];exact y5 i hi
  have y9:H.length<(E.set q .dead).length:=Qh zj;generalize E.set q .dead=E1 at *;clear s1 yp yo ih
  repeat first|(refine r_ ?_;simp[zj])|refine q_ ?_
  refine Qe rfl rfl (by simp) (Me a.types (onA a)) rfl ?_;rintro _ rfl;simp;repeat first|(refine r_ ?_;simp)|refine q_ ?_
  refine Qa rfl (fun h3=> ?_) (fun h3=> ?_)
  ·have zm:(Tm a.types (onA a)).1≠0:=by simpa using h3
   have hs:O5 a=((Tm a.types (onA a)).1,[],[]):=by rw[O5,if_neg (fun k=>k h0),if_pos zm]
   rw[hs];repeat first|(refine r_ ?_;simp)|refine q_ ?_
   exact⟨zu,zm⟩
  have zm:(Tm a.types (onA a)).1=0:=by simpa using h3
  obtain⟨cl,ya,yq,zc,zv⟩:=Cc z7 zm;rw[ya];repeat first|(refine r_ ?_;simp[zj])|refine q_ ?_
  refine Rn rfl rfl rfl ?_;simp;repeat first|(refine r_ ?_;simp)|refine q_ ?_
  refine Rp (E1.length+3) (e:=3) (c:=1) (xs:=[.i 0]) (by rw[zH (by omega)];simp) ?_;simp;refine Xh (E1.length+1) 4 40 1 (xs:=[.i a.types,.list (a.fin.map .bool),.list (a.mv.map encMv),LP cl,.nils,.mref E1.length]) (by rw[zH (by omega)];simp) rfl ?_;refine Tz fun Z hZ=> ?_;have yr:Z.length=E1.length+5:=by rw[hZ];simp
  have z0:Z[H.length]? =some (.vars (Q4 a)):=by rw[hZ,zE (by omega),xT,zF y9];exact zj
  have zk:∀i,i<H.length→Z[i]? =H[i]? :=fun i hi=>by rw[hZ,zE (by omega),xT,zF (by omega)];exact zu i hi
  have zt:TB (E1.length+1) (E1.length+4) E1.length a cl [] Z:=by
   refine⟨?_,?_,?_⟩
   ·rw[hZ,zO (by simp)];simp
   ·rw[hZ,zE (by omega),zH (by simp)];simp[LQ]
   ·rw[hZ,zE (by omega),xT,zH (by omega)];simp[Rk]
  have zb:Z[E1.length+2]? =some (.vars [.vptr (E1.length+1) 0]):=by rw[hZ,zE (by omega),xT,zH (by omega)];simp
  clear hZ;have yc:Sk [0]:=⟨by simp,by simp,fun z hz=>by simp at hz;omega⟩
  refine Q7 rfl rfl (Nt Z _ _ _ a cl [] [0] zt yc (fun l hl=>by simp at hl) (by simp)) rfl ?_;rintro res Y ⟨j0,p,rfl,yd,ht,yt,yu,-,zn⟩;have zw:u0n [] [0]=[[0]]:=by simp[u0n]
  rw[zw]at ht;simp;repeat first|(refine r_ ?_;simp)|refine q_ ?_
  have y0:=(zn H.length (by omega) (by omega) (by omega) (by omega)).trans z0;have yk:∀i,i<H.length→Y[i]? =H[i]? :=fun i hi=>(zn i (by omega) (by omega) (by omega) (by omega)).trans (zk i hi);have yb:=(zn _ (by omega) (by omega) (by omega) (by omega)).trans zb;have ze:H.length≤p:=by omega
  have yv:H.length≤E1.length+1:=by omega
  have xh:H.length≤E1.length+2:=by omega
  have yw:H.length≤E1.length:=by omega
  refine Qz (sl':=[(10,.vptr (E1.length+2) 0),(11,.i (0:Nat))]) ?_ (by simp);clear zt z0 zk zb zn yr yu yd yt zj zu y9 y4 zh y5 zg;generalize E1.length+1=r at *;generalize E1.length+2=b at *;generalize E1.length=m at *
  have z6:O5 a=match x0e a cl 257 0 [[0]]with
    |none=>(5,[],[])
    |some Q=>(0,cl,Q):=by
   rw[O5,if_neg (fun k=>k h0),ya];rfl
  refine Qo (Qc (sl':=[(10,.vptr b 0),(11,.i (0:Nat))]) ?_ (by simp));refine Qn (F:=fun(u:Nat×Nat×List (List Int)×List AObj)=>⟨[(10,.vptr b 0),(11,.i u.1)],u.2.2.2⟩)
   (fun u=>u.1≤u.2.2.1.length∧u.2.2.1.length≤256∧TB r u.2.1 m a cl u.2.2.1 u.2.2.2∧H.length≤u.2.1∧u.2.2.2[b]? =some (.vars [.vptr r 0])∧(∀i,i<H.length→u.2.2.2[i]? =H[i]?)∧(∀l∈u.2.2.1,Sk l)∧x0e a cl 257 0 [[0]]=x0e a cl (257 - u.1) u.1 u.2.2.1) (fun u=>257 - u.1) ?_ (0,p,[[0]],Y) ⟨by simp,by simp,ht,ze,yb,yk,fun l hl=>by rw[zQ.1 hl];exact yc,rfl⟩
  clear ht ze yb yk y0;clear Y;rintro⟨i,p,Q,Y⟩ ⟨hi,zx,ht,ze,yb,yk,hQ,z8⟩ ih;simp only at hi zx ht ze yb yk hQ z8 ih ⊢;have ye:=ht.t;repeat first|(refine r_ ?_;simp[yb,ye])|refine q_ ?_
  refine Qa rfl (fun zq=> ?_) (fun zr=> ?_)
  ·have z1:i<Q.length:=by simpa using zq
   have hw:IntKind.i64.wrap ((i:Int)+1)=i+1:=wrap_i64 _ (by omega) (by omega);have yx:=ht.s;have hlo:=hQ _ (zL z1);repeat first|(refine r_ ?_;simp)|refine q_ ?_
   refine Qm tOk mixed [8] (.val 0 (.val 1 (.val 2 (.val 3 (.val 4 (.val 5 (.val 6 (.val 7 (.one 8 (.done)))))))))) rfl (by kernel_rfl) ?_;simp[yb,ye,yx,z1];refine Q7 rfl rfl (Ar Y r Q[i]) rfl ?_;rintro _ _ ⟨rfl,rfl⟩;simp;repeat first|(refine r_ ?_;simp)|refine q_ ?_
   have zo:x0e a cl (257 - i) i Q=if 256<(Ea Q (Tu a cl Q[i])).length then none else x0e a cl (257 - (i+1)) (i+1) (Ea Q (Tu a cl Q[i])):=by
    have:257 - i=(257 - (i+1))+1:=by omega
    rw[this,x0e,zK z1]
   rw[zo]at z8;clear zo;generalize Q[i]=l at *
   have yy:(Tu a cl l).length=cl.length:=by simp[Tu]
   have yf:∀(k:Nat) (c:Prd),cl[k]? =some c→(Tu a cl l).take (k+1)=(Tu a cl l).take k++[Wh a l (Qp c)]:=fun k c hc=>by
    have hk:=F4 hc;have yz:cl[k]=c:=by rw[zK hk]at hc;exact Option.some.inj hc
    rw[zU (by rw[yy];exact hk)];simp[Tu,yz]
   have x0:∀k,(∀y∈Ea Q ((Tu a cl l).take k),Sk y)∧(Ea Q ((Tu a cl l).take k)).length≤600:=fun k=>w0s z7 hQ zx zc k;have x1:=Qh yb;refine Eo rfl (Rf:=fun _ H'=>∃p',TB r p' m a cl (Ea Q (Tu a cl l)) H'∧H.length≤p'∧H'[b]? =some (.vars [.vptr r 0])∧(∃sl' zy a' b',H'[Y.length+2]? =some (.lp true none 80 sl' zy a' b'))∧∀i,i<H.length→H'[i]? =H[i]?) ?_ ?_
   ·simp;refine Ha fun H1 zd=> ?_;have ft:TB r p m a cl Q H1:=ht.keep fun j hj=>by
     have:j<Y.length:=by
      rcases hj with rfl|rfl|rfl
      ·exact Qh ht.t
      ·exact Qh ht.s
      ·exact Qh ht.n
     rw[zd,zF this]
    have fb:H1[b]? =some (.vars [.vptr r 0]):=by rw[zd,zF x1];exact yb
    have x2:H1[Y.length]? =some (.vars [.vptr r 0]):=by rw[zd,zH (by omega)];simp
    have x3:H1[Y.length+1]? =some (.vars [LI l]):=by rw[zd,zH (by omega)];simp
    have fk:∀i,i<H.length→H1[i]? =H[i]? :=fun i hi=>by rw[zd,zF (by have:=Qh ht.t;omega)];exact yk i hi
    have fq:=congrArg (fun h:List AObj=>h[Y.length+2]?) zd;simp at fq;clear zd;refine FC.mono (w06 a z7 cl l (fun c hc=>⟨(zv c hc).1,(zv c hc).2.1,(zv c hc).2.2.1⟩) zc (Y.length+2) Y.length (Y.length+1) r (by rfl) (by rfl)
     (fun k H'=>∃p',TB r p' m a cl (Ea Q ((Tu a cl l).take k)) H'∧H.length≤p'∧H'[b]? =some (.vars [.vptr r 0])∧H'[Y.length]? =some (.vars [.vptr r 0])∧H'[Y.length+1]? =some (.vars [LI l])∧H'[Y.length+2]? =H1[Y.length+2]? ∧∀i,i<H.length→H'[i]? =H[i]?)
     (fun k H' ⟨p',h1,h2,h3,h4,h5,h6,h7⟩=>⟨h6.trans fq,h4,h5,_,h1.t⟩) ?_ ?_ ?_ H1 ⟨p,ft,ze,fb,x2,x3,rfl,fk⟩) ?_
    ·rintro k H' L ⟨p',h1,h2,h3,h4,h5,h6,h7⟩;refine⟨p',h1.keep fun j hj=> ?_,h2,Qb h3 _,Qb h4 _,Qb h5 _,by rw[←h6,zF (by rw[fq]at h6;exact Qh h6)],fun i hi=>by rw[zF (by have:=Qh h1.t;omega)];exact h7 i hi⟩;have:j<H'.length:=by
      rcases hj with rfl|rfl|rfl
      ·exact Qh h1.t
      ·exact Qh h1.s
      ·exact Qh h1.n
     exact zF this
    ·rintro k c H' hc za ⟨p',h1,h⟩;refine⟨p',?_,h⟩;rw[yf k c hc,za,Lk,v1g];exact h1
    ·rintro k c H' hc za ⟨p',h1,h2,h3,h4,h5,h6,h7⟩;have zz:Sk (Wh a l (Qp c)):=by have:=z7.fin;exact⟨za,Zm z7 _ _,fun z hz=>by have:=Ae z hz;omega⟩
     have y1:=yf k c hc;have zl:=x0 k;rw[y1,Lk,f0k za];generalize Wh a l (Qp c)=nx at *;generalize Ea Q ((Tu a cl l).take k)=Q2 at *
     simp[Tn];have h8:=h6.trans fq;have yg:Y.length+2≠r:=fun e=>by have:=h1.t;rw[←e,h8]at this;simp at this
     have yh:Y.length+2≠p':=fun e=>by have:=h1.s;rw[←e,h8]at this;simp at this
     have yi:Y.length+2≠m:=fun e=>by have:=h1.n;rw[←e,h8,Rk]at this;simp at this
     have zp:Y.length+2≠b:=fun e=>by rw[←e,h8]at h3;simp at h3
     have x4:b≠r:=fun e=>by have:=h1.t;rw[←e,h3]at this;simp at this
     have x5:b≠p':=fun e=>by have:=h1.s;rw[←e,h3]at this;simp at this
     have x6:b≠m:=fun e=>by have:=h1.n;rw[←e,h3,Rk]at this;simp at this
     have x7:Y.length≠r:=fun e=>by have:=h1.t;rw[←e,h4]at this;simp at this
     have x8:Y.length≠p':=fun e=>by have:=h1.s;rw[←e,h4]at this;simp at this
     have x9:Y.length≠m:=fun e=>by have:=h1.n;rw[←e,h4,Rk]at this;simp at this
     have xa:Y.length+1≠r:=fun e=>by have:=h1.t;rw[←e,h5]at this;simp at this
     have xb:Y.length+1≠p':=fun e=>by have:=h1.s;rw[←e,h5]at this;simp at this
     have xc:Y.length+1≠m:=fun e=>by have:=h1.n;rw[←e,h5,Rk]at this;simp at this
     have d1:TB r p' m a cl Q2 (H'.set (Y.length+2) .dead):=h1.keep fun j hj=>by rw[zE (by rcases hj with rfl|rfl|rfl<;>assumption)]
     have d3:=Qd zp h3 .dead;have d4:=Qd (j:=Y.length+2) (by omega) h4 .dead;have d5:=Qd (j:=Y.length+2) (by omega) h5 .dead;have d6:=Qi h8 .dead;have d7:∀i,i<H.length→(H'.set (Y.length+2) .dead)[i]? =H[i]? :=fun i hi=>by rw[zE (by have:=Qh yb;omega)];exact h7 i hi
     have dl:(H'.set (Y.length+2) .dead).length=H'.length:=by simp
     generalize H'.set (Y.length+2) .dead=Z at *
     repeat first|(refine r_ ?_;simp[d3])|refine q_ ?_
     refine Q7 rfl rfl (Nt Z r p' m a cl Q2 nx d1 zz zl.1 (by have:=zl.2;omega)) rfl ?_;rintro res Z2 ⟨j0,p2,rfl,yd,yj,xi,xj,-,zf⟩;simp;repeat first|(refine r_ ?_;simp)|refine q_ ?_
     have hz:∀i,i<Z.length→i≠r→i≠p'→i≠m→Z2[i]? =Z[i]? :=zf;have e3:=(zf b (Qh d3) x4 x5 x6).trans d3;have e4:=(zf _ (Qh d4) x7 x8 x9).trans d4;have e5:=(zf _ (Qh d5) xa xb xc).trans d5;have e6:=(zf _ (Qh d6) yg yh yi).trans d6;have xd:Y.length+2≠p2:=fun e=>by have:=yj.s;rw[←e,e6]at this;simp at this
     refine⟨e6,rfl,p2,yj.keep (fun j hj=>by rw[zE (by rcases hj with rfl|rfl|rfl<;>assumption)]),by have:=Qh d6;omega,Qd zp e3 _,e4,e5,?_,fun i hi=> ?_⟩
     ·rw[fq];exact Qi e6 _
     ·rw[zE (by have:=Qh yb;omega),zf i (by have:=Qh d6;omega) (by omega) (by omega) (by omega)];exact d7 i hi
    ·rintro _ H' ⟨p',h1,h2,h3,h4,h5,h6,h7⟩;rw[zR (by omega)]at h1;exact⟨p',h1,h2,h3,⟨_,_,_,_,h6.trans fq⟩,h7⟩
   ·rintro res H' ⟨p',h1,h2,h3,⟨sl',zy,a',b',h6⟩,h7⟩;refine⟨true,none,80,sl',zy,a',b',by simpa using h6,?_⟩;simp;have yg:Y.length+2≠r:=fun e=>by have:=h1.t;rw[←e,h6]at this;simp at this
    have yh:Y.length+2≠p':=fun e=>by have:=h1.s;rw[←e,h6]at this;simp at this
    have yi:Y.length+2≠m:=fun e=>by have:=h1.n;rw[←e,h6,Rk]at this;simp at this
    have zp:Y.length+2≠b:=fun e=>by rw[←e,h6]at h3;simp at h3
    have d1:TB r p' m a cl (Ea Q (Tu a cl l)) (H'.set (Y.length+2) .dead):=h1.keep fun j hj=>by rw[zE (by rcases hj with rfl|rfl|rfl<;>assumption)]
    have d3:=Qd zp h3 .dead;have d7:∀i,i<H.length→(H'.set (Y.length+2) .dead)[i]? =H[i]? :=fun i hi=>by rw[zE (by have:=Qh yb;omega)];exact h7 i hi
    have yl:=w0s z7 hQ zx zc (l:=l) cl.length;rw[zR (by omega)]at yl;have xe:=x0n Q (Tu a cl l);generalize H'.set (Y.length+2) .dead=Z at *;generalize Ea Q (Tu a cl l)=Q2 at *
    have d0:=d1.t;repeat first|(refine r_ ?_;simp[d3,d0])|refine q_ ?_
    refine Qa rfl (fun y2=> ?_) (fun xf=> ?_)
    ·have xg:256<Q2.length:=by simp at y2;omega
     rw[if_pos xg]at z8;rw[z8]at z6;rw[z6];repeat first|(refine r_ ?_;simp)|refine q_ ?_
     exact d7
    ·have y3:¬256<Q2.length:=by simp at xf;omega
     rw[if_neg y3]at z8;repeat first|(refine r_ ?_;simp[hw])|refine q_ ?_
     refine Qc (sl':=[(10,.vptr b 0),(11,.i (i+1:Nat))]) ?_ (by simp);exact ih (i+1,p',Q2,Z) ⟨by show i+1≤Q2.length;omega,by show Q2.length≤256;omega,d1,h2,d3,d7,yl.1,z8⟩ (by omega)
  ·have zi:i=Q.length:=by simp at zr;omega
   have zo:x0e a cl (257 - i) i Q=some Q:=by
    have:257 - i=(256 - i)+1:=by omega
    rw[this,x0e,xL (by omega)]
   rw[zo]at z8;rw[z8]at z6;rw[z6];repeat first|(refine r_ ?_;simp[yb])|refine q_ ?_
   exact⟨yk,p,m,ht,yv,ze,yw⟩
end Go.Abs
namespace Go.Abs
open Go Go.Proofs Go.Maps Go.RowKit
attribute [local irreducible] O5
end Go.Abs
namespace Go.Abs
open Go Go.Proofs Go.Maps Go.RowKit
def Fx(fx:List (Nat×AObj))(H:List AObj):Prop:=∀p∈fx,H[p.1]? =some p.2
theorem Fx.app{fx:List (Nat×AObj)}{H:List AObj}(h:Fx fx H)(L:List AObj):Fx fx (H++L):=fun p hp=>Qb (h p hp) L
theorem Fx.set{fx:List (Nat×AObj)}{H:List AObj}(h:Fx fx H){x:Nat}{o:AObj}(hx:H[x]? =some o)(hn:∀p∈fx,p.2≠o)(y:AObj):Fx fx (H.set x y):=fun p hp=>by
 have z1:x≠p.1:=fun e=>by have:=h p hp;rw[←e,hx]at this;exact hn p hp (Option.some.inj this).symm
 rw[zE z1];exact h p hp
def j0a(g:List Mv)(to:Nat):Int:=match g.findIdx? fun m:Mv=>decide (m.dst=(to:Int))with
 |some i=>i
 |none=> -1
theorem f1q(H:List AObj)(id to:Nat)(hid:H[id]? =some (.vars [.i to]))(m:Mv):FC Tryz.prog 59 [encMv m,.vptr id 0] H (fun r H'=>r= .bool (decide (m.dst=(to:Int)))∧H'=H++[.vars [.i m.src,.i m.dst,.list (m.on.map encL)]]):=by
 refine W6 tOk Tryz.func59 rfl Tryz.results59 rfl (by simp[Tryz.ntmps59]) ?_;rw[Tryz.ntmps59];simp only[Qg];simp only[encMv];repeat first|(refine r_ ?_;simp[Qb hid])|refine q_ ?_
 rfl
theorem w10{g:List Mv}{to j:Nat}(h:j<g.length)(h1:g[j].dst=(to:Int))(h2:∀i,∀hi:i<g.length,i<j→¬g[i].dst=(to:Int)):j0a g to=j:=by
 have:g.findIdx? (fun m:Mv=>decide (m.dst=(to:Int)))=some j:=by rw[xG];exact⟨h,by simpa using h1,fun i hi=>by simpa using h2 i (by omega) hi⟩
 rw[j0a,this]
theorem u0s{g:List Mv}{to:Nat}(h2:∀i,∀hi:i<g.length,¬g[i].dst=(to:Int)):j0a g to= -1:=by
 have:g.findIdx? (fun m:Mv=>decide (m.dst=(to:Int)))=none:=by rw[wY];intro m hm;obtain⟨i,hi,rfl⟩:=xH hm;simpa using h2 i hi
 rw[j0a,this]
theorem k0l(H:List AObj)(v first to id:Nat)(pre g:List Mv)(hid:H[id]? =some (.vars [.i to]))(hv:H[v]? =some (.arr 78 3 ((pre++g).map encMv)))(hl:pre.length+g.length≤1000000000)(hf:first=pre.length):
  FC Tryz.prog 58 [.sl v 3 first g.length,.fn (.func 59) [] [.vptr id 0]] H (fun r H'=>r= .i (j0a g to)∧∃L,H'=H++L):=by
 subst hf;refine W6 tOk Tryz.func58 rfl Tryz.results58 rfl (by simp[Tryz.ntmps58]) ?_;rw[Tryz.ntmps58];simp only[Qg];repeat first|(refine r_ ?_;simp)|refine q_ ?_
 refine Qo (Qc (sl':=[(0,.sl v 3 pre.length g.length),(1,.fn (.func 59) [] [.vptr id 0]),(7,.i g.length),(8,.i (0:Nat))]) ?_ (by simp));refine Qn (F:=fun(u:Nat×List AObj)=>⟨[(0,.sl v 3 pre.length g.length),(1,.fn (.func 59) [] [.vptr id 0]),(7,.i g.length),(8,.i u.1)],u.2⟩)
  (fun u=>u.1≤g.length∧(∃L,u.2=H++L)∧∀i,∀hi:i<g.length,i<u.1→¬g[i].dst=(to:Int)) (fun u=>g.length - u.1) ?_ (0,H) ⟨by simp,⟨[],by simp⟩,by simp⟩
 rintro⟨j,E⟩ ⟨hj,⟨L,hL⟩,hI⟩ ih;simp only at hj hI hL ih ⊢;subst hL;repeat first|(refine r_ ?_;simp)|refine q_ ?_
 refine Qa rfl (fun za=> ?_) (fun zb=> ?_)
 ·have z1:j<g.length:=by simpa using za
  have hw:IntKind.i64.wrap ((j:Int)+1)=j+1:=wrap_i64 _ (by omega) (by omega);have zc:((pre++g).map encMv)[pre.length+j]? =some (encMv g[j]):=by simp[z1]
  have zd:=Qb hv L;have z6:=Qb hid L;repeat first|(refine r_ ?_;simp[z1,zd,zc])|refine q_ ?_
  generalize z8:g[j]=m at *;refine Q7 rfl rfl (f1q (H++L) id to z6 m) rfl ?_
  rintro _ _ ⟨rfl,rfl⟩;simp;repeat first|(refine r_ ?_;simp)|refine q_ ?_
  refine Qa rfl (fun h=> ?_) (fun h=> ?_)
  ·repeat first|(refine r_ ?_;simp)|refine q_ ?_
   exact(w10 z1 (by rw[z8];simpa using h) hI).symm
  ·repeat first|(refine r_ ?_;simp[hw])|refine q_ ?_
   refine Qc (sl':=[(0,.sl v 3 pre.length g.length),(1,.fn (.func 59) [] [.vptr id 0]),(7,.i g.length),(8,.i (j+1:Nat))]) ?_ (by simp);refine ih (j+1,_) ⟨by omega,⟨L++[.vars [.i m.src,.i m.dst,.list (m.on.map encL)]],by simp⟩,fun i hi ze=> ?_⟩ (by omega);by_cases e:i=j
   ·subst e;rw[z8];simpa using h
   ·exact hI i hi (by omega)
 ·have z7:j=g.length:=by simp at zb;omega
  subst z7;repeat first|(refine r_ ?_;simp)|refine q_ ?_
  exact(u0s fun i hi=>hI i hi hi).symm
end Go.Abs
namespace Go.Abs
open Go Go.Proofs Go.Maps Go.RowKit
theorem Vm{a:Aut}(h:(O5 a).1=0):OkA a∧∃cl Q,O5 a=(0,cl,Q)∧Lu a cl=some Q∧Cls a cl∧Sub a cl Q∧cl.length≤256∧∀c∈cl,Jm [c]=0∧Wf c=false∧Rm a (Qp c)∧PWf a.types.toNat c∧∀s∈c,s.length≤256:=by
 have h0:Wx a=0:=by
  by_cases h0:Wx a=0
  ·exact h0
  ·rw[Mk h0]at h;exact absurd h h0
 have z1:=(A8 a).1 h0;have hm:(Tm a.types (onA a)).1=0:=by
  by_cases hm:(Tm a.types (onA a)).1=0
  ·exact hm
  ·rw[O5,if_neg (fun k=>k h0),if_pos hm]at h;exact absurd h hm
 obtain⟨cl,h1,h2,h3,h4⟩:=Cc z1 hm;refine⟨z1,cl,?_⟩;rcases X3 z1 with h5|⟨Q,h5,h6,h7,h8⟩
 ·rw[h5]at h;simp at h
 ·have z6:Q5 a.types.toNat (onA a)=cl:=by
   have h9:(O5 a).2.1=cl:=by
    rw[O5,if_neg (fun k=>k h0),if_neg (fun k=>k hm),h1];split
    ·rename_i hn;rw[O5,if_neg (fun k=>k h0),if_neg (fun k=>k hm),h1]at h;simp only[hn]at h;simp at h
    ·rfl
   rw[h5]at h9;exact h9
  rw[z6]at h5 h6 h7 h8;exact⟨Q,h5,h6,h2,h7,h3,h4⟩
theorem k19(H:List AObj)(id:Nat)(a:Aut)(hid:H[id]? =some (.vars (Q4 a)))(s:Int)(h0:0≤s)(h1:s<a.fin.length):FC Tryz.prog 55 [.i s,.vptr id 0] H (fun r H'=>r= .bool (a.fin.getD s.toNat false)∧H'=H):=by
 refine W6 tOk Tryz.func55 rfl Tryz.results55 rfl (by simp[Tryz.ntmps55]) ?_;rw[Tryz.ntmps55];simp only[Qg];have h2:s.toNat<a.fin.length:=by omega
 repeat first|(refine r_ ?_;simp[hid,h0,h1,h2])|refine q_ ?_
def stepG(a:Aut)(Q:List (List Int))(n:Nat)(l:List Int)(g:List Mv)(c:Prd):List Mv:=match u0l Q (Wh a l (Qp c))with|some t=>Yb n g t c|none=>g
def Rl(a:Aut)(cl:List Prd)(Q:List (List Int))(n:Nat)(l:List Int)(k:Nat):List Mv:=(cl.take k).foldl (stepG a Q n l) []
def Fc(a:Aut)(cl:List Prd)(Q:List (List Int))(n:Nat):List Mv:=(yO n).flatMap fun n=>Vj a cl Q n (Q.getD n [])
theorem F5(a:Aut)(cl:List Prd)(Q:List (List Int))(n:Nat)(l:List Int):Rl a cl Q n l cl.length=Vj a cl Q n l:=by rw[Rl,yW];rfl
theorem Nf(a:Aut)(cl:List Prd)(Q:List (List Int))(n:Nat)(l:List Int){k:Nat}{c:Prd}(h:cl[k]? =some c):Rl a cl Q n l (k+1)=stepG a Q n l (Rl a cl Q n l k) c:=by
 have hk:=F4 h;have hc:cl[k]=c:=by rw[zK hk]at h;exact Option.some.inj h
 rw[Rl,zU hk,wL,hc];rfl
theorem Cr(a:Aut)(cl:List Prd)(Q:List (List Int))(n:Nat):Fc a cl Q (n+1)=Fc a cl Q n++Vj a cl Q n (Q.getD n []):=by simp[Fc,wH]
theorem q1q(n:Nat)(g:List Mv)(to:Nat)(c:Prd):(Yb n g to c).length≤g.length+1:=by
 unfold Yb;split
 ·simp
 ·split<;>simp
theorem Cb(a:Aut)(Q:List (List Int))(n:Nat)(l:List Int):∀(cl:List Prd) (g:List Mv),(cl.foldl (stepG a Q n l) g).length≤g.length+cl.length
 |[],g=>by simp
 |c::cl,g=>by
  have h1:=Cb a Q n l cl (stepG a Q n l g c);have h2:(stepG a Q n l g c).length≤g.length+1:=by
   unfold stepG;split
   ·exact q1q _ _ _ _
   ·omega
  rw[xY,yS];omega
theorem Hf(a:Aut)(cl:List Prd)(Q:List (List Int))(n:Nat)(l:List Int)(hc:cl.length≤256)(k:Nat):(Rl a cl Q n l k).length≤256:=by have:=Cb a Q n l (cl.take k) [];rw[wn]at this;rw[Rl];simp at this;omega
theorem y1e(a:Aut)(cl:List Prd)(Q:List (List Int))(hq:Q.length≤256)(hc:cl.length≤256):∀n,n<Q.length→(Fc a cl Q n).length≤n * 256∧(Fc a cl Q n).length≤65536:=by
 have:∀n,(Fc a cl Q n).length≤n * 256:=fun n=>by
  induction n with
  |zero=>simp[Fc]
  |succ n ih=>
   have h:=Hf a cl Q n (Q.getD n []) hc cl.length;rw[F5]at h;have:Fc a cl Q (n+1)=Fc a cl Q n++Vj a cl Q n (Q.getD n []):=by simp[Fc,wH]
   rw[this,zZ];omega
 exact fun n hn=>⟨this n,by have:=this n;omega⟩
theorem x0a(a:Aut)(cl:List Prd)(Q:List (List Int))(n:Nat)(l:List Int):Rl a cl Q n l 0=[]:=rfl
theorem y1a{a:Aut}{Q:List (List Int)}(z1:∀l∈Q,l≠[]){n:Nat}{l:List Int}{g:List Mv}{c:Prd}(h:Wh a l (Qp c)=[]):stepG a Q n l g c=g:=by
 unfold stepG;rw[h];cases hq:u0l Q []with
 |none=>rfl
 |some t=>exact absurd rfl (z1 _ (zJ (Gv hq)))
theorem j0j{a:Aut}{Q:List (List Int)}(hn:Q.Nodup){n t:Nat}{l:List Int}{g:List Mv}{c:Prd}(h:Q[t]? =some (Wh a l (Qp c))):stepG a Q n l g c=Yb n g t c:=by unfold stepG;rw[j0f hn h]
theorem y16{T n to:Nat}{g:List Mv}{c:Prd}(hg:∀m∈g,PWf T m.on)(hc:PWf T c):∀m∈Yb n g to c,PWf T m.on:=by
 intro m hm;unfold Yb at hm;split at hm
 ·rcases zW.1 hm with hm|hm
  ·exact hg m hm
  ·rw[zQ.1 hm];exact hc
 ·split at hm
  ·rename_i m2 z1;rcases vK hm with hm|rfl
   ·exact hg m hm
   ·exact Hu (hg _ (zJ z1)) hc
  ·exact hg m hm
theorem y19{a:Aut}{T:Nat}{Q:List (List Int)}{n:Nat}{l:List Int}{cl:List Prd}(z1:∀c∈cl,PWf T c):∀k,∀m∈Rl a cl Q n l k,PWf T m.on:=by
 have:∀(cl:List Prd) (g:List Mv),(∀c∈cl,PWf T c)→(∀m∈g,PWf T m.on)→∀m∈cl.foldl (stepG a Q n l) g,PWf T m.on:=by
  intro cl;induction cl with
  |nil=>intro g _ hg;exact hg
  |cons c cl ih=>
   intro g hc hg;refine ih _ (fun x hx=>hc x (by simp[hx])) fun m hm=> ?_;unfold stepG at hm;split at hm
   ·exact y16 hg (hc c (by simp)) m hm
   ·exact hg m hm
 exact fun k=>this _ _ (fun c hc=>z1 c (xS hc)) (fun m hm=>by simp at hm)
def AObj.isLp:AObj→Bool
 | .lp .. =>true
 |_=>false
theorem k1x{T:Nat}{c:Prd}(hw:PWf T c)(hz:∀s∈c,s.length≤256){i:Nat}(hi:i<T):(Qw [c] i).length≤1000000:=by
 have h:i<c.length:=by rw[hw.1];exact hi
 have:Qw [c] i=c[i]:=by simp[Qw,yX,h]
 rw[this];have:=hz _ (zL h);omega
theorem g1w{T:Nat}{p c:Prd}(hp:PWf T p)(hw:PWf T c)(h1:∀s∈p,s.length≤65536)(hz:∀s∈c,s.length≤256){i:Nat}(hi:i<T):(Qw [p,c] i).length≤1000000:=by
 have h:i<c.length:=by rw[hw.1];exact hi
 have h2:i<p.length:=by rw[hp.1];exact hi
 have:Qw [p,c] i=p[i]++c[i]:=by simp[Qw,yX,h,h2]
 rw[this,zZ];have:=hz _ (zL h);have:=h1 _ (zL h2);omega
theorem x1q(a:Aut)(cl:List Prd)(Q:List (List Int)):Fc a cl Q Q.length=(Um a cl Q).mv:=rfl
theorem q07(a:Aut)(cl:List Prd)(Q:List (List Int)):(Um a cl Q).fin=Q.map (H7 a):=rfl
theorem u0k(a:Aut)(cl:List Prd)(Q:List (List Int)):(Um a cl Q).types=a.types:=rfl
theorem q09(d:Aut):Xr d=if N1 d then(5,U0)else(0,d):=rfl
theorem f0w(a:Aut)(cl:List Prd)(Q:List (List Int))(hq:Q.length≤256)(hc:cl.length≤256):(Fc a cl Q Q.length).length≤65536:=by
 have:∀n,(Fc a cl Q n).length≤n * 256:=fun n=>by
  induction n with
  |zero=>simp[Fc]
  |succ n ih=>have h:=Hf a cl Q n (Q.getD n []) hc cl.length;rw[F5]at h;rw[Cr,zZ];omega
 have:=this Q.length;omega
theorem j0s{p c:Prd}{A B:Nat}(hp:∀s∈p,s.length≤A)(hc:∀s∈c,s.length≤B):∀s∈R5 p c,s.length≤A+B:=by intro s hs;obtain⟨i,hi,rfl⟩:=xH hs;simp only[R5,List.length_zipWith]at hi;simp only[R5,List.getElem_zipWith];refine Nat.le_trans (q0r _) ?_;rw[zZ];have h1:=hp _ (zL (by omega:i<p.length));have h2:=hc _ (zL (by omega:i<c.length));omega
theorem v1p{a:Aut}{Q:List (List Int)}{n:Nat}{l:List Int}{cl:List Prd}(z6:∀c∈cl,∀s∈c,s.length≤256)(z8:cl.length≤256):∀k,∀m∈Rl a cl Q n l k,∀s∈m.on,s.length≤65536:=by
 have key:∀(cl:List Prd) (g:List Mv) (B:Nat),(∀c∈cl,∀s∈c,s.length≤256)→(∀m∈g,∀s∈m.on,s.length≤B)→∀m∈cl.foldl (stepG a Q n l) g,∀s∈m.on,s.length≤B+cl.length * 256:=by
  intro cl;induction cl with
  |nil=>intro g B _ hg m hm s hs;have:=hg m hm s hs;simp;omega
  |cons c cl ih=>
   intro g B hc hg m hm s hs;have h1:∀m∈stepG a Q n l g c,∀s∈m.on,s.length≤B+256:=by
    intro m hm s hs;have z1:=hc c (by simp);unfold stepG Yb at hm;split at hm
    ·split at hm
     ·rcases zW.1 hm with hm|hm
      ·have:=hg m hm s hs;omega
      ·rw[zQ.1 hm]at hs;have:=z1 s hs;omega
     ·split at hm
      ·rename_i m2 z7;rcases vK hm with hm|rfl
       ·have:=hg m hm s hs;omega
       ·exact j0s (hg _ (zJ z7)) z1 s hs
      ·have:=hg m hm s hs;omega
    ·have:=hg m hm s hs;omega
   have:=ih (stepG a Q n l g c) (B+256) (fun x hx=>hc x (by simp[hx])) h1 m hm s hs;rw[yS];omega
 intro k m hm s hs;have:=key (cl.take k) [] 0 (fun c hc=>z6 c (xS hc)) (fun m hm=>by simp at hm) m hm s hs;rw[wn]at this;have:min k cl.length≤256:=by omega
 omega
theorem V1(a:Aut)(cl:List Prd)(Q:List (List Int)):Fc a cl Q 0=[]:=rfl
attribute [local irreducible] O5 Wh Qp mpT Tl Xr Um Fc Rl stepG H7 N1
theorem Jq(a:Aut):PC Tryz.prog 18 [encA a] (fun r=>r= .tup [encA (T6 a).2,.i (T6 a).1]):=by
 refine Qk tOk Tryz.func18 rfl Tryz.results18 rfl (by simp[Tryz.ntmps18]) ?_;rw[Tryz.ntmps18];simp only[Qg];simp only[encA];repeat first|(refine r_ ?_;simp)|refine q_ ?_
 have yd:=v0j [.vars (Q4 a),.vars [.i 0,.nils,.nils]] a;refine Q7 rfl rfl yd rfl ?_;rintro res H' ⟨hk,⟨he,rfl⟩|⟨he,r,p,m,rfl,ht,hr,hp,hm⟩⟩
 ·have hd:T6 a=((O5 a).1,U0):=by rw[T6,if_pos he]
  rw[hd];have k0:=hk 0 (by simp);have k1:=hk 1 (by simp);simp at k0 k1;simp;repeat first|(refine r_ ?_;simp[Qb k1])|refine q_ ?_
  refine Qa rfl (fun _=> ?_) (fun h=>by simp at h;exact absurd h he);have k2:∀L Y,((H'++L).set 1 Y)[1]? =some Y:=fun L Y=>Qi (Qb k1 L) Y;repeat first|(refine r_ ?_;simp[Qb k1,k2])|refine q_ ?_
  exact⟨rfl,rfl,rfl⟩
 ·obtain⟨zn,cl,Q,x6,vq,xx,z8,zd,zo⟩:=Vm he;have hd:T6 a=Xr (Um a cl Q):=by rw[T6,x6];simp
  rw[hd];rw[x6]at ht;simp only at ht;have k0:=hk 0 (by simp);have k1:=hk 1 (by simp);simp at k0 k1;have xy:=ht.t;have vr:=ht.s;simp;repeat first|(refine r_ ?_;simp[Qb k1])|refine q_ ?_
  refine Qa rfl (fun h=>by simp[he]at h) (fun _=> ?_);have k0a:∀(L:List AObj) hh,(H'++L)[0]'hh= .vars (Q4 a):=fun L hh=>by have:=Qb k0 L;rw[zK hh]at this;exact Option.some.inj this
  have ye:=fun L=>Qb (G:=L) xy;repeat first|(refine r_ ?_;simp[Qb k0,k0a,ye])|refine q_ ?_
  have xz:=Qh ht.t;have w8:=Qh ht.s;have wa:=Qh ht.n;refine Qz (sl':=[(1,.vptr 0 0),(2,.vptr 1 0),(3,.i 0),(4,.vptr H'.length 0),(6,.vptr (H'.length+1) 0),(30,.sl p 1 0 Q.length),(31,.i Q.length),(32,.i (0:Nat))]) ?_ (by simp);refine Eg (H'.length+1) 1 4 1 (xs:=[.i a.types,.nils,.nils]) (by rw[zH (by omega)];simp) rfl ?_;refine Wb fun Z1 zp=> ?_;have z1l:Z1.length=H'.length+3:=by rw[zp];simp
  have z1c:Z1[H'.length+1]? =some (.vars [.i a.types,.sl (H'.length+2) 1 0 0,.nils]):=by rw[zp,zO (by simp)];simp
  have z1f:Z1[H'.length+2]? =some (.arr 4 1 []):=by rw[zp,zE (by omega),zH (by simp)];simp
  have z1b:Z1[H'.length]? =some (.vars [.vptr r 0]):=by rw[zp,zE (by omega),xT,zH (by omega)];simp
  have z1k:∀i,i<H'.length→Z1[i]? =H'[i]? :=fun i hi=>by rw[zp,zE (by omega),xT,zF hi]
  clear zp;refine Eg (H'.length+1) 2 78 3 z1c rfl ?_;refine Wb fun Z2 y6=> ?_;have z2c:Z2[H'.length+1]? =some (.vars [.i a.types,.sl (H'.length+2) 1 0 0,.sl (H'.length+3) 3 0 0]):=by rw[y6,zO (by simp;omega)];simp[z1l]
  have z2v:Z2[H'.length+3]? =some (.arr 78 3 []):=by rw[y6,zE (by omega),zH (by omega)];simp[z1l]
  have z2k:∀i,i<Z1.length→i≠H'.length+1→Z2[i]? =Z1[i]? :=fun i hi wb=>by rw[y6,zE (Ne.symm wb),zF hi]
  clear y6;have hb:=(z2k _ (by omega) (by omega)).trans z1b;have x7:=(z2k _ (by omega) (by omega)).trans z1f;have hold:∀i,i<H'.length→Z2[i]? =H'[i]? :=fun i hi=>(z2k i (by omega) (by omega)).trans (z1k i hi);have x8:=(hold 0 (Qh k0)).trans k0;have x9:=(hold 1 (Qh k1)).trans k1;obtain⟨zh,z7⟩:∃zh:List (Nat×AObj),zh=[(0,.vars (Q4 a)),(1,.vars [.i 0,.nils,.nils]),(H'.length,.vars [.vptr r 0]),(r,.vars [.i a.types,.list (a.fin.map .bool),.list (a.mv.map encMv),LP cl,.sl p 1 0 Q.length,.mref m]),(p,.arr 40 1 (LQ Q)),(m,mpT (Q.map Tl))]:=⟨_,rfl⟩
  have xa:Fx zh Z2:=by
   rw[z7];intro x hx;simp only[yE,u6,or_false]at hx;rcases hx with rfl|rfl|rfl|rfl|rfl|rfl
   ·exact x8
   ·exact x9
   ·exact hb
   ·exact(hold r xz).trans ht.t
   ·exact(hold p w8).trans ht.s
   ·exact(hold m wa).trans ht.n
  have we:=z8.lim;have xb:∀x∈Q,Sk x:=fun x hx=>by have he:=z8.elem x hx;have:=N0 he.1 he.2;have:=zn.fin;exact⟨z8.ne x hx,by omega,fun z hz=>by have:=he.2 z hz;omega⟩
  have wg:=zn.fin;generalize H'.length+1=c at *;generalize H'.length=b at *;refine Qo (Qc (sl':=[(1,.vptr 0 0),(2,.vptr 1 0),(3,.i 0),(4,.vptr b 0),(6,.vptr c 0),(30,.sl p 1 0 Q.length),(31,.i Q.length),(32,.i (0:Nat))]) ?_ (by simp))
  refine Qn (F:=fun(u:Nat×Nat×Nat×List AObj)=>⟨[(1,.vptr 0 0),(2,.vptr 1 0),(3,.i 0),(4,.vptr b 0),(6,.vptr c 0),(30,.sl p 1 0 Q.length),(31,.i Q.length),(32,.i u.1)],u.2.2.2⟩)
   (fun u=>u.1≤Q.length∧Fx zh u.2.2.2∧u.2.2.2[c]? =some (.vars [.i a.types,.sl u.2.1 1 0 u.1,.sl u.2.2.1 3 0 (Fc a cl Q u.1).length])∧u.2.2.2[u.2.1]? =some (.arr 4 1 (((Q.take u.1).map (H7 a)).map .bool))∧u.2.2.2[u.2.2.1]? =some (.arr 78 3 ((Fc a cl Q u.1).map encMv))) (fun u=>Q.length - u.1) ?_ (0,_,_,Z2) ⟨by simp,xa,by rw[V1];exact z2c,by simpa using x7,by rw[V1];exact z2v⟩
  clear xa z2c x7 z2v hb x8 x9 hold z2k z1k z1b z1f z1c z1l;clear Z2 Z1;rintro⟨n,f,v,G⟩ ⟨hn,hF,gc,gf,gv⟩ ih;simp only at hn hF gc gf gv ih ⊢;repeat first|(refine r_ ?_;simp)|refine q_ ?_
  refine Qa rfl (fun wh=> ?_) (fun y8=> ?_)
  ·have ze:n<Q.length:=by simpa using wh
   have hw:IntKind.i64.wrap ((n:Int)+1)=n+1:=wrap_i64 _ (by omega) (by omega);have gs:G[p]? =some (.arr 40 1 (LQ Q)):=hF (p,_) (by rw[z7];simp);repeat first|(refine r_ ?_;simp[gs,ze])|refine q_ ?_
   have xc:=zL ze;have hle:=z8.elem _ xc;have wi:Q.getD n []=Q[n]:=by simp[yX,ze]
   have xd:=Cr a cl Q n;have wj:(Q.take (n+1)).map (H7 a)=(Q.take n).map (H7 a)++[H7 a Q[n]]:=by rw[zU ze,yP];rfl
   rw[wi]at xd;have wk:=(y1e a cl Q (z8.lim) zd n ze).2;have zq:=z8.closed _ xc;have vt:=N0 hle.1 hle.2;have wm:=fun L=>Qb (G:=L) gc;have g0:∀L,(G++L)[0]? =some (.vars (Q4 a)):=fun L=>Qb (hF (0,_) (by rw[z7];simp)) L;have wo:((Q.take n).map (H7 a)).length=n:=by simp;omega
   generalize Q[n]=l at *
   have wF:=hF.app [.vars [.i n]];have wc:=Qb gc [.vars [.i n]];have wf:=Qb gf [.vars [.i n]];have wv:=Qb gv [.vars [.i n]];have w7:(G++[AObj.vars [.i n]])[G.length]? =some (.vars [.i n]):=by simp
   have w0:=g0 [.vars [.i n]];refine Qz (sl':=[(1,.vptr 0 0),(2,.vptr 1 0),(3,.i 0),(4,.vptr b 0),(6,.vptr c 0),(7,.vptr G.length 0),(8,LI l),(30,.sl p 1 0 Q.length),(31,.i Q.length),(32,.i n)]) ?_ (by simp);generalize G.length=n7 at *;generalize G++[AObj.vars [.i n]]=W at *;clear g0 wm gs gc gf gv hF;clear G
   have yf:((Q.take (n+1)).map (H7 a)).map AV.bool=((Q.take n).map (H7 a)).map AV.bool++[.bool (H7 a l)]:=by rw[wj];simp
   have xe:(((Q.take n).map (H7 a)).map AV.bool).length=n:=by rw[yB];exact wo
   generalize ((Q.take n).map (H7 a)).map AV.bool=xs at *
   have zr:c≠f:=fun e=>by rw[e,wf]at wc;simp at wc
   have yg:c≠v:=fun e=>by rw[e,wv]at wc;simp at wc
   have zt:f≠v:=fun e=>by rw[e,wv]at wf;simp at wf
   have xf:c≠n7:=fun e=>by rw[e,w7]at wc;simp at wc
   have xg:f≠n7:=fun e=>by rw[e,w7]at wf;simp at wf
   have z6:∀p∈zh,p.2≠ .vars [.i a.types,.sl f 1 0 n,.sl v 3 0 (Fc a cl Q n).length]:=by rw[z7];simp[Rk]
   have zu:∀p∈zh,p.2≠ .arr 4 1 xs:=by rw[z7];simp[Rk]
   have wq:=Qh wc;have wu:=Qh wf;have zv:=Qh wv;have xh:=Qh w7;have xi:=wF.set wf zu .dead;have ya:∀L,(W.set f .dead++L)[c]? =some (.vars [.i a.types,.sl f 1 0 n,.sl v 3 0 (Fc a cl Q n).length]):=fun L=>Qb (Qd (Ne.symm zr) wc _) L;refine Vn (P:=Tryz.prog) tOk mixed [4,6,8] (.val 0 (.val 2 (.val 3 (.two 1 (.one 4 (.one 5 (.one 6 (.val 7 (.one 8 (.done)))))) 4 (.val 1 (.one 5 (.one 6 (.val 7 (.one 8 (.done)))))))))) (fun S'=>∃f',Fx zh S'.hp∧S'.hp[n7]? =some (.vars [.i n])∧S'.hp[c]? =some (.vars [.i a.types,.sl f' 1 0 (n+1),.sl v 3 0 (Fc a cl Q n).length])∧S'.hp[f']? =some (.arr 4 1 (xs++[.bool (H7 a l)]))∧S'.hp[v]? =some (.arr 78 3 ((Fc a cl Q n).map encMv))∧look S'.sl 1=some (.vptr 0 0)∧look S'.sl 2=some (.vptr 1 0)∧look S'.sl 3=some (.i 0)∧look S'.sl 4=some (.vptr b 0)∧look S'.sl 6=some (.vptr c 0)∧look S'.sl 7=some (.vptr n7 0)∧look S'.sl 8=some (LI l)∧look S'.sl 30=some (.sl p 1 0 Q.length)∧look S'.sl 31=some (.i Q.length)∧look S'.sl 32=some (.i n)) rfl (by kernel_rfl) ?_ ?_
   ·simp[wc];refine⟨?_,?_⟩;all_goals
     refine Q7 rfl rfl (Va W l 55 (.vptr 0 0) (fun s=>a.fin.getD s.toNat false) (by omega) (fun z hz=>k19 W 0 a w0 z (hle.2 z hz).1 (hle.2 z hz).2)) rfl ?_;rintro _ H2 ⟨rfl,wx⟩;rw[wx];have wy:l.any (fun s=>a.fin.getD s.toNat false)=H7 a l:=by unfold H7;rfl
     rw[wy];simp[wc];refine Qf tOk rfl rfl T22 rfl T4 rfl (by decide) (by decide) rfl rfl rfl ?_;simp[Qb wf,Qj wf,xe,ya,Qb wc];refine⟨by simp[Wi,Qb wf,Qj wf,xe,ya,Qb wc]<;>omega,?_⟩;refine⟨?_,?_,W.length+1,?_,?_,?_⟩
     ·exact(xi.app _).set (ya _) z6 _
     ·rw[zE xf,zF (by simpa using xh),zE xg];exact w7
     ·rw[zO (by simp;omega)]
     ·rw[zE (by omega),zH (by simp)];simp
     ·rw[zE yg,zF (by simpa using zv),zE zt];exact wv
   ·rintro⟨sl,E⟩ ⟨f',eF,e7,ec,ef,ev,s1,s2,s3,s4,s6,s7,s8,s30,s31,s32⟩;simp only at eF e7 ec ef ev s1 s2 s3 s4 s6 s7 s8 s30 s31 s32;refine Qz (sl':=[(1,.vptr 0 0),(2,.vptr 1 0),(3,.i 0),(4,.vptr b 0),(6,.vptr c 0),(7,.vptr n7 0),(8,LI l),(30,.sl p 1 0 Q.length),(31,.i Q.length),(32,.i n)]) ?_ (by simp[s1,s2,s3,s4,s6,s7,s8,s30,s31,s32]);clear s1 s2 s3 s4 s6 s7 s8 s30 s31 s32 xi ya z6 zu wq wu zv xh zr yg zt xf xg w0 w7 wv wf wc wF;have eb:E[b]? =some (.vars [.vptr r 0]):=eF (b,_) (by rw[z7];simp);repeat first|(refine r_ ?_;simp[ec,Qb eb])|refine q_ ?_
    have yh:∀g c,Wh a l (Qp c)=[]→stepG a Q n l g c=g:=fun g c hx=>y1a z8.ne hx;have yi:∀g c t,Q[t]? =some (Wh a l (Qp c))→stepG a Q n l g c=Yb n g t c:=fun g c t hx=>j0j z8.nd hx;have xj:=fun k c hc=>Nf a cl Q n l (k:=k) (c:=c) hc;have wz:=fun k=>Hf a cl Q n l zd k;have xk:Rl a cl Q n l 0=[]:=x0a a cl Q n l;have v7:=F5 a cl Q n l;have v8:∀k,∀m∈Rl a cl Q n l k,PWf a.types.toNat m.on:=y19 (fun c hc=>(zo c hc).2.2.2.1);have vb:∀k,∀m∈Rl a cl Q n l k,∀s∈m.on,s.length≤65536:=v1p (fun c hc=>(zo c hc).2.2.2.2) zd;have xl:=fun f v G=>ih (n+1,f,v,G);simp only[xd,←v7,yf]at xl;clear ih;generalize Fc a cl Q n=pre at *;refine Q7 rfl rfl (Ar _ r l) rfl ?_
    rintro _ _ ⟨rfl,rfl⟩;simp;repeat first|(refine r_ ?_;simp)|refine q_ ?_
    obtain⟨zg,z6⟩:∃zg:List (Nat×AObj),zg=zh++[(n7,.vars [.i n]),(E.length,.vars [.i pre.length]),(E.length+1,.vars [.vptr r 0]),(E.length+2,.vars [LI l]),(f',.arr 4 1 (xs++[.bool (H7 a l)]))]:=⟨_,rfl⟩
    refine Eo rfl (Rf:=fun _ H'=>∃v,Fx zg H'∧H'[c]? =some (.vars [.i a.types,.sl f' 1 0 (n+1),.sl v 3 0 (pre++Rl a cl Q n l cl.length).length])∧H'[v]? =some (.arr 78 3 ((pre++Rl a cl Q n l cl.length).map encMv))∧∃sl' yj a' b',H'[E.length+3]? =some (.lp true none 100 sl' yj a' b')) ?_ ?_
    ·simp;refine Ha fun H1 zw=> ?_;have vc:Fx zg H1:=by
      rw[z6,zw];intro x hx;rcases zW.1 hx with hx|hx
      ·exact(eF.app _) x hx
      ·simp only[yE,u6,or_false]at hx;rcases hx with rfl|rfl|rfl|rfl|rfl
       ·exact Qb e7 _
       ·rw[zH (by simp)];simp
       ·rw[zH (by simp)];simp
       ·rw[zH (by simp)];simp
       ·exact Qb ef _
     have fc:H1[c]? =some (.vars [.i a.types,.sl f' 1 0 (n+1),.sl v 3 0 pre.length]):=by rw[zw];exact Qb ec _
     have fv:H1[v]? =some (.arr 78 3 (pre.map encMv)):=by rw[zw];exact Qb ev _
     have fq:=congrArg (fun h:List AObj=>h[E.length+3]?) zw;simp at fq;clear zw;refine FC.mono (w06 a zn cl l (fun c hc=>⟨(zo c hc).1,(zo c hc).2.1,(zo c hc).2.2.1⟩) zd (E.length+3) (E.length+1) (E.length+2) r (by rfl) (by rfl)
      (fun k H'=>∃v,Fx zg H'∧H'[c]? =some (.vars [.i a.types,.sl f' 1 0 (n+1),.sl v 3 0 (pre++Rl a cl Q n l k).length])∧H'[v]? =some (.arr 78 3 ((pre++Rl a cl Q n l k).map encMv))∧H'[E.length+3]? =H1[E.length+3]?)
      (fun k H' ⟨v',h1,h2,h3,h4⟩=>⟨h4.trans fq,h1 (E.length+1,_) (by rw[z6];simp),h1 (E.length+2,_) (by rw[z6];simp),[.sl p 1 0 Q.length,.mref m],h1 (r,_) (by rw[z6,z7];simp)⟩) ?_ ?_ ?_ H1 ⟨v,vc,by rw[xk,xB];exact fc,by rw[xk,xB];exact fv,rfl⟩) ?_
     ·rintro k H' L ⟨v',h1,h2,h3,h4⟩;exact⟨v',h1.app L,Qb h2 L,Qb h3 L,by rw[←h4,zF (by rw[fq]at h4;exact Qh h4)]⟩
     ·rintro k cc H' hc yk ⟨v',h1,h2,h3,h4⟩;have:=yh (Rl a cl Q n l k) cc yk;rw[←xj k cc hc]at this;exact⟨v',h1,by rw[this];exact h2,by rw[this];exact h3,h4⟩
     ·rintro k cc H' hc yk ⟨v',h1,h2,h3,h4⟩;rw[xj k cc hc];have zx:=zJ hc;have yl:Wh a l (Qp cc)∈Q:=(zq cc zx).resolve_left yk;have ym:=yi (Rl a cl Q n l k) cc;have vd:=wz k;have zj:=v8 k;have yn:=vb k;have zi:=zo cc zx;generalize Wh a l (Qp cc)=nx at *;generalize stepG a Q n l (Rl a cl Q n l k) cc=g2 at *;generalize Rl a cl Q n l k=g at *
      simp[Tn];have h8:=h4.trans fq;obtain⟨LP0,zk⟩:∃LP0,H1[E.length+3]? =some LP0:=⟨_,fq⟩
      have za:LP0.isLp=true:=by rw[fq]at zk;injection zk with e;rw[←e];rfl
      have zb:H'[E.length+3]? =some LP0:=h4.trans zk;have yo:∀p∈zg,p.2≠LP0:=fun p hp e=>by rw[←e]at za;rw[z6,z7]at hp;simp only[zW,yE,u6,or_false]at hp;rcases hp with(rfl|rfl|rfl|rfl|rfl|rfl)|(rfl|rfl|rfl|rfl|rfl)<;>simp[AObj.isLp,Rk]at za
      have y1:=h1.set zb yo .dead;have yp:E.length+3≠c:=fun e=>by rw[e,h2]at zb;injection zb with e2;rw[←e2]at za;simp[AObj.isLp]at za
      have yq:E.length+3≠v':=fun e=>by rw[e,h3]at zb;injection zb with e2;rw[←e2]at za;simp[AObj.isLp]at za
      have y2:=Qd yp h2 .dead;have y3:=Qd yq h3 .dead;have y4:=Qi zb .dead;generalize H'.set (E.length+3) .dead=Y at *
      have yb:Y[b]? =some (.vars [.vptr r 0]):=y1 (b,_) (by rw[z6,z7];simp);have y0:Y[0]? =some (.vars (Q4 a)):=y1 (0,_) (by rw[z6,z7];simp);have y7:Y[n7]? =some (.vars [.i n]):=y1 (n7,_) (by rw[z6];simp);have y9:Y[E.length]? =some (.vars [.i pre.length]):=y1 (E.length,_) (by rw[z6];simp);have yt:TB r p m a cl Q Y:=⟨y1 (r,_) (by rw[z6,z7];simp),y1 (p,_) (by rw[z6,z7];simp),y1 (m,_) (by rw[z6,z7];simp)⟩
      repeat first|(refine r_ ?_;simp[Qb yb])|refine q_ ?_
      refine Q7 rfl rfl (Nt _ r p m a cl Q nx (yt.keep fun j hj=> ?_) (xb nx yl) xb (by omega)) rfl ?_
      ·have:j<Y.length:=by
        rcases hj with rfl|rfl|rfl
        ·exact Qh yt.t
        ·exact Qh yt.s
        ·exact Qh yt.n
       exact zF this
      rintro res Z ⟨t,p2,rfl,xm,-,-,-,hZ,-⟩;rw[hZ yl];have yr:u0n Q nx=Q:=by rw[u0n,if_pos yl]
      rw[yr]at xm;rw[ym t xm];clear hZ;simp;repeat first|(refine r_ ?_;simp[Qb y2,Qb y9])|refine q_ ?_
      have xn:∀M,(Y++M)[v']? =some (.arr 78 3 ((pre++g).map encMv)):=fun M=>Qb y3 M;refine Q7 rfl rfl (k0l (Y++[AObj.vars [.list (cc.map encL)],.vars [.i t]]) v' pre.length t (Y.length+1) pre g (by rw[zH (by omega)];simp) (xn _) (by omega) rfl) rfl ?_;rintro _ _ ⟨rfl,L,rfl⟩;simp;repeat first|(refine r_ ?_;simp)|refine q_ ?_
      have w1:=y1.app ([AObj.vars [.list (cc.map encL)],.vars [.i t]]++L);have w2:=Qb y2 ([AObj.vars [.list (cc.map encL)],.vars [.i t]]++L);have w3:=xn ([AObj.vars [.list (cc.map encL)],.vars [.i t]]++L);have w4:=Qb y4 ([AObj.vars [.list (cc.map encL)],.vars [.i t]]++L);have w5:(Y++([AObj.vars [.list (cc.map encL)],.vars [.i t]]++L))[Y.length]? =some (.vars [.list (cc.map encL)]):=by rw[zH (by omega)];simp
      have w6:(Y++([AObj.vars [.list (cc.map encL)],.vars [.i t]]++L))[Y.length+1]? =some (.vars [.i t]):=by rw[zH (by omega)];simp
      have w7:=Qb y7 ([AObj.vars [.list (cc.map encL)],.vars [.i t]]++L);have w0:=Qb y0 ([AObj.vars [.list (cc.map encL)],.vars [.i t]]++L);have w9:=Qb y9 ([AObj.vars [.list (cc.map encL)],.vars [.i t]]++L);have xo:((a.types.toNat:Nat):Int)=a.types:=by have:=zn.types;omega
      simp only[List.cons_append,List.nil_append]at w0 w1 w2 w3 w4 w5 w6 w7 w9;generalize Y++AObj.vars [.list (cc.map encL)]::AObj.vars [.i t]::L=W at *;generalize Y.length+1=i12 at *;generalize Y.length=i10 at *
      have xp:∀p∈zg,p.2≠ .dead:=by rw[z6,z7];simp[Rk]
      have yu:∀p∈zg,p.2≠ .vars [.i a.types,.sl f' 1 0 (n+1),.sl v' 3 0 (pre.length+g.length)]:=by rw[z6,z7];simp[Rk]
      have zy:∀p∈zg,p.2≠ .arr 78 3 ((pre++g).map encMv):=by rw[z6,z7];simp[Rk]
      rw[zZ]at w2;have xq:v'≠c:=fun e=>by rw[e,w2]at w3;simp at w3
      have yv:v'≠E.length+3:=fun e=>by rw[e,w4]at w3;simp at w3
      have yw:c≠E.length+3:=fun e=>by rw[e,w4]at w2;simp at w2
      have lc:=Qh w2;have lv:=Qh w3;have lq:=Qh w4;refine Qz (sl':=[(1,.vptr 0 0),(6,.vptr c 0),(7,.vptr n7 0),(9,.vptr E.length 0),(10,.vptr i10 0),(12,.vptr i12 0),(13,.i (j0a g t)),(63,.bool (decide (j0a g t<0)))]) ?_ (by simp);cases hfi:g.findIdx? fun m:Mv=>decide (m.dst=(t:Int))with
      |none=>
       have yx:j0a g t= -1:=by rw[j0a,hfi]
       have zl:Yb n g t cc=g++[⟨n,t,cc⟩]:=by rw[Yb,hfi]
       rw[yx,zl];refine Ql rfl ?_;simp;repeat first|(refine r_ ?_;simp)|refine q_ ?_
       refine Qm tOk mixed [11,13] (.val 0 (.val 1 (.val 2 (.val 3 (.val 4 (.val 5 (.val 6 (.one 7 (.one 8 (.val 9 (.one 10 (.one 11 (.val 12 (.one 13 (.done))))))))))))))) rfl (by kernel_rfl) ?_;simp[w0,w2,w5,w6,w7];refine Rp W.length (e:=76) (c:=1) (xs:=[encP cc]) (by simp) ?_;simp;have xr:=Zt a.types.toNat [cc] (by have:=zn.types;omega) (fun p hp=>by rw[zQ.1 hp];exact zi.2.2.2.1) (fun j hj=>k1x zi.2.2.2.1 zi.2.2.2.2 hj) (by simp);rw[xo,j1h zi.2.2.2.1]at xr;refine Qe rfl rfl (by simp) (xr) rfl ?_;rintro _ rfl;simp;have w2b:∀M,(W++M)[c]? =some (.vars [.i a.types,.sl f' 1 0 (n+1),.sl v' 3 0 (pre.length+g.length)]):=fun M=>Qb w2 M;have w2c:∀M,(W.set v' .dead++M)[c]? =some (.vars [.i a.types,.sl f' 1 0 (n+1),.sl v' 3 0 (pre.length+g.length)]):=fun M=>Qb (Qd xq w2 _) M;have zv:((pre++g).map encMv).length=pre.length+g.length:=by simp
       have ve:=(w1.set w3 zy .dead)
       generalize yy:(pre++g).map encMv=mm at *;refine Qf tOk rfl rfl T23 rfl T78 rfl (by decide) (by decide) rfl rfl rfl ?_
       simp[Qb w3,Qj w3,w2b,w2c,zv];refine⟨by simp[Wi,Qb w3,Qj w3,w2b,w2c,zv]<;>omega,?_⟩;repeat first|(refine r_ ?_;simp)|refine q_ ?_
       have zm:((W.set v' AObj.dead++[AObj.dead,AObj.arr 78 3 [.agg [.i n,.i t,.list (cc.map encL)]],AObj.arr 78 3 (mm++[.agg [.i n,.i t,.list (cc.map encL)]])]).set c (AObj.vars [.i a.types,.sl f' 1 0 (n+1),.sl (W.length+2) 3 0 (pre.length+g.length+1)]))[E.length+3]? =some .dead:=by rw[zE yw,zF (by simpa using lq),zE yv];exact w4
       refine⟨zm,rfl,((ve.app _).set (w2c _) yu _).set zm xp _,W.length+2,?_,?_,?_⟩
       ·rw[zE (Ne.symm yw),zO (by simp;omega)];simp[Nat.add_assoc]
       ·rw[zE (by omega),zE (by omega),zH (by simp)];rw[←yy];simp
       ·rw[fq,zO (Qh zm)]
      |some i=>
       have yx:j0a g t=i:=by rw[j0a,hfi]
       obtain⟨xt,hid,-⟩:=xG.1 hfi;have xu:g[i]? =some g[i]:=zK xt;have zl:Yb n g t cc=g.set i { g[i]with on:=R5 g[i].on cc }:=by rw[Yb,hfi];simp[xu]
       rw[yx,zl];refine Qa rfl (fun h=>by simp at h;omega) (fun _=> ?_);have vf:IntKind.i64.wrap ((pre.length:Int)+i)=pre.length+i:=wrap_i64 _ (by omega) (by omega);have yz:(pre.length:Int)+i<pre.length+g.length:=by omega
       have vg:(0:Int)≤(pre.length:Int)+i:=by omega
       have vh:((pre.length:Int)+i).toNat=pre.length+i:=by omega
       repeat first|(refine r_ ?_;simp[w2,w9,vf,yz,vg,vh])|refine q_ ?_
       have y8:((pre++g).map encMv)[pre.length+i]? =some (.agg [.i g[i].src,.i g[i].dst,.list (g[i].on.map encL)]):=by rw[yP,zH (by simp)];simp[xu]
       have x0:((pre++g).map encMv).length=pre.length+g.length:=by simp
       generalize yy:(pre++g).map encMv=mm at *
       have x2:yO 2=[0,1]:=rfl;refine Qm tOk mixed [12] (.val 0 (.val 1 (.val 2 (.val 3 (.val 4 (.val 5 (.val 6 (.val 7 (.one 8 (.one 9 (.val 10 (.val 11 (.one 12 (.done)))))))))))))) rfl (by kernel_rfl) ?_;simp[w0,w3,w5,y8,x0,x2];refine Rp W.length (e:=76) (c:=1) (xs:=[encP g[i].on,encP cc]) (by simp) ?_;simp;have yc:=zL xt;have xv:=Zt a.types.toNat [g[i].on,cc] (by have:=zn.types;omega) (fun p hp=>by
        simp only[yE,u6,or_false]at hp;rcases hp with rfl|rfl
        ·exact zj _ yc
        ·exact zi.2.2.2.1) (fun j hj=>g1w (zj _ yc) zi.2.2.2.1 (yn _ yc) zi.2.2.2.2 hj) (by simp)
       rw[xo,k15 (zj _ yc) zi.2.2.2.1]at xv;have w3b:∀M,(W++M)[v']? =some (.arr 78 3 mm):=fun M=>Qb w3 M;refine Qe rfl rfl (by simp) (xv) rfl ?_;rintro _ rfl;simp[w3b,y8,Qj w3];repeat first|(refine r_ ?_;simp)|refine q_ ?_
       have zm:(W.set v' (AObj.arr 78 3 (mm.set (pre.length+i) (.agg [.i g[i].src,.i g[i].dst,.list ((R5 g[i].on cc).map encL)])))++[AObj.dead])[E.length+3]? =some .dead:=by rw[zF (by simpa using lq),zE yv];exact w4
       refine⟨zm,rfl,(((w1.set w3 zy _).app _).set zm xp _),v',?_,?_,?_⟩
       ·rw[zE (Ne.symm yw),zF (by simpa using lc),zE xq];rw[w2]
       ·rw[zE (Ne.symm yv),zF (by simpa using lv),zO lv];rw[←yy,yP,List.set_append_right _ _ (by simp)];simp[List.map_set]
       ·rw[fq,zO (Qh zm)]
     ·rintro _ H' ⟨v',h1,h2,h3,h4⟩;exact⟨h1,v',by simpa using h2,by simpa using h3,_,_,_,_,h4.trans fq⟩
    ·rintro res H' ⟨v',h1,h2,h3,⟨sl',yj,a',b',h6⟩⟩;refine⟨true,none,100,sl',yj,a',b',by simpa using h6,?_⟩;simp;have yp:E.length+3≠c:=fun e=>by rw[e,h2]at h6;simp at h6
     have yq:E.length+3≠v':=fun e=>by rw[e,h3]at h6;simp at h6
     have y1:=h1.set h6 (by rw[z6,z7];simp[Rk]) .dead;have y2:=Qd yp h2 .dead;have y3:=Qd yq h3 .dead;generalize H'.set (E.length+3) .dead=Y at *
     repeat first|(refine r_ ?_;simp[hw])|refine q_ ?_
     refine Qc (sl':=[(1,.vptr 0 0),(2,.vptr 1 0),(3,.i 0),(4,.vptr b 0),(6,.vptr c 0),(30,.sl p 1 0 Q.length),(31,.i Q.length),(32,.i (n+1:Nat))]) ?_ (by simp);refine xl f' v' Y ⟨by omega,fun x hx=>y1 x (by rw[z6];exact xA _ hx),y2,y1 (f',_) (by rw[z6];simp),y3⟩ (by omega)
  ·have x3:n=Q.length:=by simp at y8;omega
   subst x3;have zz:Fc a cl Q Q.length=(Um a cl Q).mv:=x1q a cl Q;have x4:(Q.take Q.length).map (H7 a)=(Um a cl Q).fin:=by rw[yW];exact(q07 a cl Q).symm
   have vi:(Um a cl Q).fin.length=Q.length:=by rw[q07];simp
   have vj:(Um a cl Q).mv.length≤65536:=by rw[←zz];exact f0w a cl Q we zd
   rw[zz]at gc gv;rw[x4]at gf;rw[←vi]at gc;have vk:(Um a cl Q).types=a.types:=u0k a cl Q;have yz:Xr (Um a cl Q)=if N1 (Um a cl Q)then(5,U0)else(0,Um a cl Q):=q09 _
   rw[yz];generalize Um a cl Q=d at *
   have g1:G[1]? =some (.vars [.i 0,.nils,.nils]):=hF (1,_) (by rw[z7];simp);have yg:v≠c:=fun e=>by rw[e,gc]at gv;simp at gv
   have zt:f≠v:=fun e=>by rw[e,gv]at gf;simp at gf
   have yd:f≠c:=fun e=>by rw[e,gc]at gf;simp at gf
   have vl:f≠1:=fun e=>by rw[e,g1]at gf;simp at gf
   have vm:v≠1:=fun e=>by rw[e,g1]at gv;simp at gv
   have vn:c≠1:=fun e=>by rw[e,g1]at gc;simp at gc
   refine Qz (sl':=[(2,.vptr 1 0),(3,.i 0),(6,.vptr c 0)]) ?_ (by simp);refine Wg v gv c gc ?_;simp[zt];rw[zR (by simp)];have x5:=Qh gc;have vo:=Qh gf;refine Wb fun Z hZ=> ?_;have zc:Z[c]? =some (.vars [.i d.types,.sl f 1 0 d.fin.length,.list (d.mv.map encMv)]):=by rw[hZ,vk];exact zO (by simpa using x5)
   have zf:Z[f]? =some (.arr 4 1 (d.fin.map .bool)):=by rw[hZ,zE (Ne.symm yd),zE (Ne.symm zt)];exact gf
   have z1:Z[1]? =some (.vars [.i 0,.nils,.nils]):=by rw[hZ,zE vn,zE vm];exact g1
   clear hZ;repeat first|(refine r_ ?_;simp[zc])|refine q_ ?_
   refine Q7 rfl rfl (G5 Z f d zf (by omega) (by omega)) rfl ?_;rintro res Y ⟨hr,xw⟩;have y5:=(xw 1 (Qh z1)).trans z1;have vp:=(xw f (Qh zf)).trans zf;have x2:∀X,(Y.set 1 X)[1]? =some X:=fun X=>Qi y5 X;rcases hr with⟨hb,rfl⟩|⟨hb,rfl⟩
   ·rw[hb];simp[y5];repeat first|(refine r_ ?_;simp[x2])|refine q_ ?_
    exact⟨rfl,rfl,rfl⟩
   ·rw[hb];simp[y5];refine Qz (sl':=[(2,.vptr 1 0),(3,.i 0)]) ?_ (by simp);refine Wg f (Qd (Ne.symm vl) vp _) 1 (Qi y5 _) ?_;simp;rw[zR (by simp)];refine Wb fun X hX=> ?_;have x1:X[1]? =some (.vars [.i d.types,.list (d.fin.map .bool),.list (d.mv.map encMv)]):=by rw[hX];exact zO (by have:=Qh y5;simpa using this)
    repeat first|(refine r_ ?_;simp[x1])|refine q_ ?_
end Go.Abs
namespace Go.Abs
open Go Go.Proofs Go.Maps Go.RowKit
theorem c1g{a:Aut}(h:(T6 a).1=0):OkA (T6 a).2:=by
 have h0:(O5 a).1=0:=by
  by_cases hs:(O5 a).1=0
  ·exact hs
  ·rw[T6,if_pos hs]at h;exact absurd h hs
 obtain⟨z8,cl,Q,z7,za,z1,z6,_,_⟩:=Vm h0;have hd:T6 a=Xr (Um a cl Q):=by rw[T6,z7];simp
 rw[hd]at h ⊢;have hw:=u1o z1 z6;have e:Xr (Um a cl Q)=(0,(Xr (Um a cl Q)).2):=uB h rfl;have h2:=k0e hw e;rw[h2.1];exact h2.1▸h2.2
def y22(l:List Bool)(i:Nat):List Bool:=l.mapIdx fun k b=>if k<i then !b else b
attribute [local irreducible] T6 Sd y22
end Go.Abs
namespace Go.Abs
open Go Go.Proofs Go.Maps Go.RowKit
theorem y1n(a:Aut):PC Tryz.prog 22 [encA a,encA a] (fun r=>r= .bool true):=by
 refine Qk tOk Tryz.func22 rfl Tryz.results22 rfl (by simp[Tryz.ntmps22]) ?_;rw[Tryz.ntmps22];simp only[Qg];simp only[encA];refine W2 0 1 rfl rfl (fun hlen=> ?_);rw[yB]at hlen;refine W2 0 2 rfl rfl (fun z6=> ?_);rw[yB]at z6;repeat first|(refine r_ ?_;simp)|refine q_ ?_
 refine Qa rfl (fun h=>by simp at h) (fun _=> ?_);repeat first|(refine r_ ?_;simp)|refine q_ ?_
 refine Qt a.fin.length (fun _=>True) (fun j=>[(2,.vptr 0 0),(3,.vptr 1 0),(5,.i j)]) (fun _=>[.vars (Q4 a),.vars (Q4 a)]) rfl (by simp) (by simp) (by simp) (by simp) trivial ?_;intro j hj _ ih;repeat first|(refine r_ ?_;simp)|refine q_ ?_
 refine Qa rfl (fun z7=> ?_) (fun z8=> ?_)
 ·have z1:j<a.fin.length:=by simpa using z7
  have hw:IntKind.i64.wrap ((j:Int)+1)=j+1:=wrap_i64 _ (by omega) (by omega);repeat first|(refine r_ ?_;simp)|refine q_ ?_
  refine Qm tOk mixed [] (.val 0 (.val 1 (.val 2 (.val 3 (.val 4 (.val 5 (.val 6 (.val 7 (.val 8 (.val 9 (.val 10 (.done)))))))))))) rfl (by kernel_rfl) ?_;simp[z1];refine Qa rfl (fun h=>by simp at h) (fun _=> ?_);repeat first|(refine r_ ?_;simp[hw])|refine q_ ?_
  refine Qr _ (ih z1 trivial) rfl (by simp) ?_ (by simp) (by simp);simp
 repeat first|(refine r_ ?_;simp)|refine q_ ?_
 refine Qt a.mv.length (fun _=>True) (fun j=>[(2,.vptr 0 0),(3,.vptr 1 0),(6,.i j)]) (fun _=>[.vars (Q4 a),.vars (Q4 a)]) rfl (by simp) (by simp) (by simp) (by simp) trivial ?_;intro j2 zb _ za;repeat first|(refine r_ ?_;simp)|refine q_ ?_
 refine Qa rfl (fun z7=> ?_) (fun z8=> ?_)
 ·have z1:j2<a.mv.length:=by simpa using z7
  have hw:IntKind.i64.wrap ((j2:Int)+1)=j2+1:=wrap_i64 _ (by omega) (by omega);repeat first|(refine r_ ?_;simp)|refine q_ ?_
  obtain⟨m,hm⟩:∃m,a.mv[j2]=m:=⟨_,rfl⟩
  refine d0a tOk mixed [12,13] (.val 0 (.val 1 (.val 2 (.val 3 (.val 4 (.val 5 (.val 7 (.three 6 (.val 8 (.three 9 (.two 10 (.one 11 (.one 12 (.one 13 (.done)))) 11 (.one 10 (.one 12 (.one 13 (.done))))) 10 (.two 9 (.one 11 (.one 12 (.one 13 (.done)))) 11 (.two 9 (.one 12 (.one 13 (.done))) 12 (.val 9 (.one 13 (.done))))) 11 (.two 9 (.one 10 (.one 12 (.one 13 (.done)))) 10 (.two 9 (.one 12 (.one 13 (.done))) 12 (.val 9 (.one 13 (.done))))))) 10 (.two 6 (.val 8 (.two 9 (.one 11 (.one 12 (.one 13 (.done)))) 11 (.two 9 (.one 12 (.one 13 (.done))) 12 (.val 9 (.one 13 (.done)))))) 11 (.two 6 (.val 8 (.two 9 (.one 12 (.one 13 (.done))) 12 (.val 9 (.one 13 (.done))))) 12 (.val 6 (.val 8 (.val 9 (.one 13 (.done))))))) 11 (.two 6 (.val 8 (.two 9 (.one 10 (.one 12 (.one 13 (.done)))) 10 (.two 9 (.one 12 (.one 13 (.done))) 12 (.val 9 (.one 13 (.done)))))) 10 (.two 6 (.val 8 (.two 9 (.one 12 (.one 13 (.done))) 12 (.val 9 (.one 13 (.done))))) 12 (.val 6 (.val 8 (.val 9 (.one 13 (.done))))))))))))))) (⟨[(2,.vptr 0 0),(3,.vptr 1 0),(6,.i j2),(7,.vptr 2 0),(8,.vptr 3 0)],[.vars (Q4 a),.vars (Q4 a),.vars [.i m.src,.i m.dst,.list (m.on.map encL)],.vars [.i m.src,.i m.dst,.list (m.on.map encL)]]⟩) rfl (by kernel_rfl) ?_ ?_;simp[z1,hm]
  ·repeat' apply And.intro
   all_goals first|(refine y05 ?_;simp;done)|exact d0d [0,1,3,2] (by simp) (by decide) (by simp) rfl (by simp) (by simp) (by simp)
  repeat first|(refine r_ ?_;simp)|refine q_ ?_
  refine Qe rfl rfl (by simp) (c0o m.on m.on) rfl ?_;rintro _ rfl;simp;repeat first|(refine r_ ?_;simp)|refine q_ ?_
  refine Qa rfl (fun h=>by simp at h) (fun _=> ?_);repeat first|(refine r_ ?_;simp[hw])|refine q_ ?_
  refine Qr _ (za z1 trivial) rfl (by simp) ?_ (by simp) (by simp);simp
 repeat first|(refine r_ ?_;simp)|refine q_ ?_
def Jv(lo hi:Int):Prd:=[[⟨lo,hi⟩]]
def exA:Aut:=⟨1,[false,false,true],[⟨0,0,Jv (-1099511627776) 1099511627776⟩,⟨0,1,Jv 5 1099511627776⟩,⟨1,2,Jv (-1099511627776) 7⟩]⟩
def y2o(l:List Int):List Sy:=l.map fun n=>⟨0,n⟩
def x2k(a:Aut)(w:List Sy):Bool:=u1v a && decide (w.length≤12) && (x2f a w).2==0
end Go.Abs
namespace Go.Abs
open Go Go.Proofs
def exC:List Prd:=[[[⟨-1099511627776,4⟩]],[[⟨5,7⟩]],[[⟨8,1099511627776⟩]]]
def exQ:List (List Int):=[[0],[0,1],[0,2],[0,1,2]]
def exD:Aut:=Um exA exC exQ
end Go.Abs
namespace Go.Abs
open Go Go.Proofs Go.Maps Go.RowKit
attribute [simp] T84 T86
attribute [local irreducible] exA exD T6 O5 x26 S6 Sd x2f x1i y2o c16 exQ
end Go.Abs
namespace Go.Abs
structure EqvB (n:Nat) (E:Nat→Nat→Bool):Prop where
 refl:∀i,i<n→E i i=true
 symm:∀i k,i<n→k<n→E i k=true→E k i=true
 trans:∀i k j,i<n→k<n→j<n→E i k=true→E k j=true→E i j=true
def Lw(E:Nat→Nat→Bool)(st:List Nat×List Nat)(i:Nat):List Nat×List Nat:=
 match st.1.findIdx? (E i)with
 |some t=>(st.1,st.2++[t])
 |none=>(st.1++[i],st.2++[st.1.length])
def P7(E:Nat→Nat→Bool)(n:Nat):List Nat×List Nat:=(yO n).foldl (Lw E) ([],[])
def f1s(E:Nat→Nat→Bool)(st:Nat×List Nat)(i:Nat):Nat×List Nat:=
 match (yO i).find? (E i)with
 |some k=>(st.1,st.2++[st.2.getD k 0])
 |none=>(st.1+1,st.2++[st.1])
def x2t(E:Nat→Nat→Bool)(n:Nat):Nat×List Nat:=(yO n).foldl (f1s E) (0,[])
theorem Ca(E:Nat→Nat→Bool)(n:Nat):P7 E (n+1)=Lw E (P7 E n) n:=by rw[P7,wH,wL];rfl
structure ClsS (E:Nat→Nat→Bool) (n:Nat) (fs out:List Nat):Prop where
 len:out.length=n
 asc:fs.Pairwise (·<·)
 lt:∀r∈fs,r<n
 apart:fs.Pairwise (fun r s=>E r s=false)
 num:∀i,i<n→∃t r,out[i]? =some t∧fs[t]? =some r∧r≤i∧E i r=true
theorem Ex{α:Type}{l:List α}{i:Nat}{x:α}(h:l[i]? =some x):i<l.length:=(zB.1 h).1
theorem v03{α:Type}{l:List α}{f:α→Bool}{t:Nat}{x:α}(ht:l[t]? =some x)(hx:f x=true)(hu:∀(i j:Nat) (a b:α),l[i]? =some a→l[j]? =some b→f a=true→f b=true→i=j):l.findIdx? f=some t:=by
 cases hf:l.findIdx? f with
 |none=>rw[wY]at hf;have:=hf x (zJ ht);rw[hx]at this;cases this
 |some u=>obtain⟨z1,z6,_⟩:=xG.1 hf;rw[hu u t l[u] x (zK z1) ht z6 hx]
theorem ClsS.uniq{E:Nat→Nat→Bool}{N n:Nat}(hE:EqvB N E)(hn:n≤N){fs out:List Nat}(h:ClsS E n fs out){i:Nat}(hi:i<N){u v r s:Nat}(hr:fs[u]? =some r)(hs:fs[v]? =some s)(e1:E i r=true)(e2:E i s=true):u=v:=by
 have z7:=zJ hr;have z8:=zJ hs;have za:=h.lt r z7;have zb:=h.lt s z8;have z1:E r s=true:=hE.trans r i s (by omega) hi (by omega) (hE.symm i r hi (by omega) e1) e2;have z6:E s r=true:=hE.symm r s (by omega) (by omega) z1;obtain⟨hu,rfl⟩:=zB.1 hr;obtain⟨hv,rfl⟩:=zB.1 hs;rcases vV u v with k|k|k
 ·have:=(yU.1 h.apart) u v hu hv k;rw[this]at z1;cases z1
 ·exact k
 ·have:=(yU.1 h.apart) v u hv hu k;rw[this]at z6;cases z6
theorem Ng{E:Nat→Nat→Bool}{N:Nat}(hE:EqvB N E):∀n,n≤N→ClsS E n (P7 E n).1 (P7 E n).2
 |0,_=>⟨rfl,by simp[P7],by simp[P7],by simp[P7],fun i hi=>by omega⟩
 |n+1,hn=>by
  have h:=Ng hE n (by omega);rw[Ca];generalize P7 E n=st at *
  obtain⟨fs,out⟩:=st;simp only at h;unfold Lw;simp only;cases hf:fs.findIdx? (E n)with
  |some t=>
   obtain⟨h1,h2,_⟩:=xG.1 hf;simp only;refine⟨by simp[h.len],h.asc,fun r hr=>by have:=h.lt r hr;omega,h.apart,fun i hi=> ?_⟩;by_cases e:i=n
   ·subst e;exact⟨t,fs[t],by rw[zH (by rw[h.len];omega)];simp[h.len],zK h1,by have:=h.lt _ (zL h1);omega,h2⟩
   ·obtain⟨t',r,a1,a2,a3,a4⟩:=h.num i (by omega);exact⟨t',r,by rw[zF (by rw[h.len];omega)];exact a1,a2,a3,a4⟩
  |none=>
   rw[wY]at hf;simp only;refine⟨by simp[h.len],yF.2 ⟨h.asc,by simp,fun r hr s hs=>by rw[zQ.1 hs];exact h.lt r hr⟩,fun r hr=> ?_,yF.2 ⟨h.apart,by simp,fun r hr s hs=> ?_⟩,fun i hi=> ?_⟩
   ·rcases zW.1 hr with hr|hr
    ·have:=h.lt r hr;omega
    ·rw[zQ.1 hr];omega
   ·rw[zQ.1 hs];have z1:=h.lt r hr;have:=hf r hr;cases hc:E r n
    ·rfl
    ·rw[hE.symm r n (by omega) (by omega) hc]at this;cases this
   ·by_cases e:i=n
    ·subst e;exact⟨fs.length,i,by rw[zH (by rw[h.len];omega)];simp[h.len],by rw[zH (by omega)];simp,by omega,hE.refl i (by omega)⟩
    ·obtain⟨t',r,a1,a2,a3,a4⟩:=h.num i (by omega);exact⟨t',r,by rw[zF (by rw[h.len];omega)];exact a1,by rw[zF (Ex a2)];exact a2,a3,a4⟩
theorem ClsS.first{E:Nat→Nat→Bool}{n:Nat}(hE:EqvB n E){fs out:List Nat}(h:ClsS E n fs out){t r:Nat}(ht:fs[t]? =some r):out.findIdx? (fun c=>decide (c=t))=some r:=by
 have hr:=h.lt r (zJ ht);rw[xG];refine⟨by rw[h.len];exact hr,?_,fun j hj=> ?_⟩
 ·obtain⟨u,s,a1,a2,a3,a4⟩:=h.num r hr;have hu:u=t:=h.uniq hE (zP n) hr a2 ht a4 (hE.refl r hr);obtain⟨hl,e⟩:=zB.1 a1;rw[e,hu];simp
 ·obtain⟨u,s,a1,a2,a3,a4⟩:=h.num j (by omega);obtain⟨hl,e⟩:=zB.1 a1;rw[e];have:u≠t:=fun e'=>by subst e';rw[ht]at a2;cases a2;omega
  simpa using this
theorem ClsS.lt_fs{E:Nat→Nat→Bool}{n:Nat}{fs out:List Nat}(h:ClsS E n fs out){i:Nat}(hi:i<n):out.getD i 0<fs.length:=by obtain⟨t,r,a1,a2,_,_⟩:=h.num i hi;simp only[yX,a1,wO];exact Ex a2
def eqW(a b:Aut)(p q:Int):Prop:=∀w,(∀x∈w,Rm a x)→z13 a p w=z13 b q w
def eqS(a:Aut)(i k:Nat):Bool:=(lkN (Es a) ((i:Int),(k:Int))).isNone
theorem Pq{a:Aut}{i:Nat}(h:i<a.fin.length):inS a (i:Int):=⟨by omega,by omega⟩
theorem k0m{a b:Aut}(ha:Dfa a)(hb:Dfa b)(ht:b.types=a.types){p q:Int}(hp:inS a p)(hq:inS b q):(I8 a b p q).1=none↔eqW a b p q:=by
 rcases Cj ha hb ht hp hq with⟨w,h1,h2⟩|⟨h1,h2⟩
 ·rw[h1];exact⟨fun h=>(by cases h),fun h=>absurd (h w h2.okw) ((Zk a b p q w).1 h2.goodw)⟩
 ·exact⟨fun _=>h2,fun _=>h1⟩
theorem Dk{a:Aut}(ha:Dfa a){i k:Nat}(hi:i<a.fin.length)(hk:k<a.fin.length):eqS a i k=true↔eqW a a i k:=by rw[←k0m ha ha rfl (Pq hi) (Pq hk),Nj ha (Pq hi) (Pq hk),eqS];cases lkN (Es a) ((i:Int),(k:Int))<;>simp
theorem f1d{a:Aut}(ha:Dfa a):EqvB a.fin.length (eqS a):=
 ⟨fun i hi=>(Dk ha hi hi).2 fun _ _=>rfl,fun i k hi hk h=>(Dk ha hk hi).2 fun w hw=>((Dk ha hi hk).1 h w hw).symm,
  fun i k j hi hk hj h h'=>(Dk ha hi hj).2 fun w hw=>((Dk ha hi hk).1 h w hw).trans ((Dk ha hk hj).1 h' w hw)⟩
def fsA(a:Aut):List Nat:=(P7 (eqS a) a.fin.length).1
def clA(a:Aut):List Nat:=(P7 (eqS a) a.fin.length).2
theorem q2g{a:Aut}(ha:Dfa a):ClsS (eqS a) a.fin.length (fsA a) (clA a):=Ng (f1d ha) _ (zP _)
end Go.Abs
namespace Go.Abs
section
variable {α:Type} (key:α→Nat×Int)
def Xo(s:List α)(x:α):Nat→Nat
 |0=>0
 |j+1=>match s[j]? with
  |some y=>if Z8 (key x) (key y)=true then Xo s x j else j+1
  |none=>j+1
def q1v(s:List α)(x:α):List α:=s.take (Xo key s x s.length)++x::s.drop (Xo key s x s.length)
def q16(L:List α):List α:=L.foldl (q1v key) []
def ltG(p q:α):Prop:=Ib (key p).1 (key p).2 (key q).1 (key q).2
theorem J9(s:List α)(x:α):∀j,j≤s.length→Xo key s x j≤j∧(∀i,Xo key s x j≤i→i<j→∀h:i<s.length,Z8 (key x) (key s[i])=true)∧(∀i,i+1=Xo key s x j→∀h:i<s.length,Z8 (key x) (key s[i])=false)
 |0,_=>⟨zP _,fun i _ h=>by omega,fun i h=>by simp[Xo]at h⟩
 |j+1,hj=>by
  have z1:j<s.length:=by omega
  rw[Xo,zK z1];simp only;by_cases hb:Z8 (key x) (key s[j])=true
  ·rw[if_pos hb];obtain⟨h1,h2,h3⟩:=J9 s x j (by omega);refine⟨by omega,fun i hi z6 hl=> ?_,h3⟩;by_cases hij:i=j
   ·subst hij;exact hb
   ·exact h2 i hi (by omega) hl
  ·rw[if_neg hb];refine⟨zP _,fun i hi z6=>by omega,fun i hi hl=> ?_⟩;have:i=j:=by omega
   subst this;simpa using hb
theorem f0j(s:List α)(x:α):(q1v key s x).Perm (x::s):=by unfold q1v;refine vI.trans ?_;rw[xU]
theorem Nd{s:List α}{x:α}(hs:s.Pairwise (ltG key))(hd:∀y∈s,key y≠key x):(q1v key s x).Pairwise (ltG key):=by
 obtain⟨h1,h2,h3⟩:=J9 key s x s.length (zP _);unfold q1v;generalize Xo key s x s.length=k at *
 have z1:=hs;rw[←xU k s]at z1;obtain⟨p1,p2,p3⟩:=yF.1 z1;have z7:∀y∈s.drop k,ltG key x y:=fun y hy=>by obtain⟨i,hi⟩:=yJ.1 hy;rw[List.getElem?_drop]at hi;obtain⟨hl,e⟩:=zB.1 hi;have:=h2 (k+i) (by omega) hl hl;rw[e]at this;exact(Th _ _).1 this
 have z8:∀i,i+1=k→∀h:i<s.length,ltG key s[i] x:=fun i hi hl=>by
  have h4:=h3 i hi hl;have zc:=hd s[i] (zL hl);unfold ltG;rcases vV (key s[i]).1 (key x).1 with a|a|a
  ·exact .inl a
  ·rcases Int.lt_trichotomy (key s[i]).2 (key x).2 with b|b|b
   ·exact .inr ⟨a,b⟩
   ·exact absurd (uB a b) zc
   ·have:Z8 (key x) (key s[i])=true:=(Th _ _).2 (.inr ⟨a.symm,b⟩);rw[this]at h4;cases h4
  ·have:Z8 (key x) (key s[i])=true:=(Th _ _).2 (.inl a);rw[this]at h4;cases h4
 have z6:∀y∈s.take k,ltG key y x:=fun y hy=>by
  obtain⟨i,hi⟩:=yJ.1 hy;rw[List.getElem?_take]at hi;split at hi
  ·rename_i zd;obtain⟨hl,e⟩:=zB.1 hi;obtain⟨k',rfl⟩:∃k',k=k'+1:=⟨k - 1,by omega⟩
   have za:k'<s.length:=by omega
   have zb:=z8 k' rfl za;by_cases hij:i=k'
   ·subst hij;rw[←e];exact zb
   ·have:=yU.1 hs i k' hl za (by omega);rw[e]at this;exact Ib.trans this zb
  ·cases hi
 refine yF.2 ⟨p1,yT.2 ⟨z7,p2⟩,fun y hy z hz=> ?_⟩;rcases yE.1 hz with rfl|hz
 ·exact z6 y hy
 ·exact p3 y hy z hz
theorem Kn(L:List α)(hd:L.Pairwise (fun p q=>key p≠key q)):(q16 key L).Perm L∧(q16 key L).Pairwise (ltG key):=by
 have go:∀(r s:List α),s.Pairwise (ltG key)→(s++r).Pairwise (fun p q=>key p≠key q)→(r.foldl (q1v key) s).Perm (s++r)∧(r.foldl (q1v key) s).Pairwise (ltG key):=by
  intro r;induction r with
  |nil=>intro s h _;simpa using h
  |cons x r ih=>intro s h hd;obtain⟨d1,d2,d3⟩:=yF.1 hd;have hi:=Nd key h (fun y hy=>d3 y hy x (by simp));have hp:=f0j key s x;have z1:(q1v key s x++r).Perm (s++x::r):=(hp.append_right r).trans (vI (l₁:=s) (a:=x) (l₂:=r)).symm;have z6:(q1v key s x++r).Pairwise (fun p q=>key p≠key q):=(z1.pairwise_iff (fun h=>Ne.symm h)).2 hd;obtain⟨i1,i2⟩:=ih (q1v key s x) hi z6;rw[xY];exact⟨i1.trans z1,i2⟩
 have h:=go L [] List.Pairwise.nil (by simpa using hd);unfold q16;simpa using h
theorem d1v{l l':List α}(hs:l.Pairwise (ltG key))(z1:l'.Pairwise (ltG key))(hp:∀x,x∈l↔x∈l'):l=l':=by have z6:∀ {X:List α},X.Pairwise (ltG key)→X.Nodup:=fun hx=>hx.imp (fun h e=>by subst e;exact Ib.irr h);refine List.Perm.eq_of_pairwise (le:=ltG key) (fun a b _ _ h k=>(Ib.irr (h.trans k)).elim) hs z1 ?_;exact(List.perm_ext_iff_of_nodup (z6 hs) (z6 z1)).2 hp
end
def clD(cl:List Nat)(m:Mv):Nat:=cl.getD m.dst.toNat 0
def kyM(m:Mv):Nat×Int:=Qy m.on 0
def f1z(a:Aut)(cl:List Nat)(s:Int):List Mv:=(Q1 a s).foldl (fun g m=>Yb 0 g (clD cl m) m.on) []
def y1r(a:Aut)(cl:List Nat)(s:Int):List Mv:=q16 kyM (f1z a cl s)
def Jr(a:Aut)(cl:List Nat)(s:Int)(t:Nat)(ty:Nat)(y:Int):Prop:=∃m∈Q1 a s,clD cl m=t∧PM m.on ty y
structure MrgS (T:Nat) (D:Nat→Nat→Int→Prop) (g:List Mv):Prop where
 wf:∀m∈g,PWf T m.on
 src:∀m∈g,m.src=0
 dst:∀m∈g,∃t:Nat,m.dst=t
 nd:g.Pairwise (fun m k=>m.dst≠k.dst)
 mem:∀m∈g,∀t:Nat,m.dst=t→∀ty y,PM m.on ty y↔D t ty y
 all:∀t ty y,D t ty y→∃m∈g,m.dst=(t:Int)
 ne:∀m∈g,∃ty y,PM m.on ty y
theorem q19{n to:Nat}{g:List Mv}{c:Prd}{T:Nat}(hg:∀m∈g,∃ty y,PM m.on ty y)(hw:∀m∈g,PWf T m.on)(hc:PWf T c)(z1:∃ty y,PM c ty y):∀m∈Yb n g to c,∃ty y,PM m.on ty y:=by
 intro m hm;unfold Yb at hm;split at hm
 ·rcases zW.1 hm with hm|hm
  ·exact hg m hm
  ·rw[zQ.1 hm];exact z1
 ·split at hm
  ·rename_i m2 z6;rcases vK hm with hm|rfl
   ·exact hg m hm
   ·obtain⟨ty,y,h⟩:=z1;exact⟨ty,y,(Aw (hw _ (zJ z6)) hc ty y).2 (.inr h)⟩
  ·exact hg m hm
theorem j1b{a:Aut}(h:WfA a){s:Int}{m:Mv}(hm:m∈Q1 a s):PWf a.types.toNat m.on∧∃ty y,PM m.on ty y:=by obtain⟨h1,h2,h3⟩:=En.1 hm;exact⟨h.on m h1,(Yp (h.on m h1)).1 h3⟩
theorem C2{a:Aut}(ha:Dfa a)(cl:List Nat)(s:Int):MrgS a.types.toNat (Jr a cl s) (f1z a cl s):=by
 obtain⟨N,hN⟩:∃N,∀m∈Q1 a s,clD cl m<N:=by
  refine⟨(cl.foldl max 0)+1,fun m _=> ?_⟩;have key:∀(l:List Nat) (b:Nat),b≤l.foldl max b∧∀x∈l,x≤l.foldl max b:=by
   intro l;induction l with
   |nil=>intro b;simp
   |cons x l ih=>
    intro b;obtain⟨h1,h2⟩:=ih (max b x);rw[xY];refine⟨by omega,fun y hy=> ?_⟩;rcases yE.1 hy with rfl|hy
    ·omega
    ·exact h2 y hy
  unfold clD;by_cases hl:m.dst.toNat<cl.length
  ·have:=(key cl 0).2 _ (zL hl);simp only[yX,zK hl,wO];omega
  ·simp[yX,xL (by omega:cl.length≤m.dst.toNat)]
 have key:∀(r:List Mv) (D:Nat→Nat→Int→Prop) (g:List Mv),MInv a.types.toNat N 0 D g→(∀m∈g,∃ty y,PM m.on ty y)→(∀m∈r,m∈Q1 a s)→
   MInv a.types.toNat N 0 (fun t ty y=>D t ty y∨∃m∈r,clD cl m=t∧PM m.on ty y) (r.foldl (fun g m=>Yb 0 g (clD cl m) m.on) g)∧∀m∈r.foldl (fun g m=>Yb 0 g (clD cl m) m.on) g,∃ty y,PM m.on ty y:=by
  intro r;induction r with
  |nil=>intro D g h hn _;exact⟨h.congr (fun t ty y=>by simp),hn⟩
  |cons c r ih=>
   intro D g h hn hr;rw[xY];have hc:=j1b ha.ok.wfA (hr c (by simp));obtain⟨i1,i2⟩:=ih _ _ (h.add (hN c (hr c (by simp))) hc.1 hc.2) (q19 hn h.wf hc.1 hc.2) (fun d hd=>hr d (by simp[hd]));refine⟨i1.congr (fun t ty y=> ?_),i2⟩;simp only[yE,exists_eq_or_imp,or_assoc];constructor
   ·rintro(h|⟨e,h⟩|h)
    ·exact .inl h
    ·exact .inr (.inl ⟨e.symm,h⟩)
    ·exact .inr (.inr h)
   ·rintro(h|⟨e,h⟩|h)
    ·exact .inl h
    ·exact .inr (.inl ⟨e.symm,h⟩)
    ·exact .inr (.inr h)
 have h0:MInv a.types.toNat N 0 (fun _ _ _=>False) []:=⟨by simp,by simp,by simp,by simp,by simp,fun _ _ _ h=>h.elim⟩
 obtain⟨h1,h2⟩:=key (Q1 a s) _ [] h0 (by simp) (fun m hm=>hm);have h3:=h1.congr (D':=Jr a cl s) (fun t ty y=>by simp[Jr]);exact⟨h3.wf,h3.src,fun m hm=>by obtain⟨t,_,e⟩:=h3.dst m hm;exact⟨t,e⟩,h3.nd,h3.mem,h3.all,h2⟩
theorem MrgS.perm{T:Nat}{D:Nat→Nat→Int→Prop}{g g':List Mv}(h:MrgS T D g)(hp:g.Perm g'):MrgS T D g':=
 ⟨fun m hm=>h.wf m (hp.mem_iff.2 hm),fun m hm=>h.src m (hp.mem_iff.2 hm),fun m hm=>h.dst m (hp.mem_iff.2 hm),(hp.pairwise_iff (fun h=>Ne.symm h)).1 h.nd,fun m hm=>h.mem m (hp.mem_iff.2 hm),
  fun t ty y hd=>by obtain⟨m,hm,e⟩:=h.all t ty y hd;exact⟨m,hp.mem_iff.1 hm,e⟩,fun m hm=>h.ne m (hp.mem_iff.2 hm)⟩
theorem MrgS.sub{T:Nat}{D:Nat→Nat→Int→Prop}{g g':List Mv}(h:MrgS T D g)(h':MrgS T D g'){m:Mv}(hm:m∈g):m∈g':=by
 obtain⟨t,ht⟩:=h.dst m hm;obtain⟨ty,y,hy⟩:=h.ne m hm;obtain⟨k,hk,z1⟩:=h'.all t ty y ((h.mem m hm t ht ty y).1 hy);have z6:m.on=k.on:=Pv (h.wf m hm) (h'.wf k hk) fun t' n'=>by rw[h.mem m hm t ht,h'.mem k hk t z1]
 have:m=k:=by cases m;cases k;simp only at ht z1 z6;have e1:=h.src _ hm;have e2:=h'.src _ hk;simp only at e1 e2;subst z6;rw[e1,e2,ht,z1]
 rw[this];exact hk
theorem MrgS.apart{T:Nat}{D:Nat→Nat→Int→Prop}{g:List Mv}(h:MrgS T D g)(hD:∀t t' ty y,D t ty y→D t' ty y→t=t'):g.Pairwise (fun p q=>kyM p≠kyM q):=
 h.nd.imp_of_mem fun {p q} hp hq z1 e=>by obtain⟨t,ht⟩:=h.dst p hp;obtain⟨u,hu⟩:=h.dst q hq;have h1:=(Wz (h.wf p hp) (h.ne p hp)).1;have h2:=(Wz (h.wf q hq) (h.ne q hq)).1;unfold kyM at e;rw[e]at h1;have:=hD t u _ _ ((h.mem p hp t ht _ _).1 h1) ((h.mem q hq u hu _ _).1 h2);rw[ht,hu,this]at z1;exact z1 rfl
theorem MrgS.uniq{T:Nat}{D:Nat→Nat→Int→Prop}{g g':List Mv}(h:MrgS T D g)(h':MrgS T D g')(s:g.Pairwise (ltG kyM))(s':g'.Pairwise (ltG kyM)):g=g':=
 d1v kyM s s' fun _=>⟨h.sub h',h'.sub h⟩
theorem Dfa.dom{a:Aut}(ha:Dfa a){cl:List Nat}{s:Int}{t ty:Nat}{y:Int}:Jr a cl s t ty y↔(∃x:Sy,Rm a x∧x.ty.toNat=ty∧x.num=y∧∃m∈a.mv,m.src=s∧R7 m.on x=true∧cl.getD m.dst.toNat 0=t):=by
 constructor
 ·rintro⟨m,hm,h1,h2⟩;obtain⟨g1,g2,g3⟩:=En.1 hm;obtain⟨z6,z1⟩:=(ha.ok.wfA.on m g1).lt h2;have hx:Rm a ⟨ty,y⟩:=⟨⟨by simp,by have:=ha.ok.types;simp;omega⟩,z1⟩
  exact⟨⟨ty,y⟩,hx,by simp,rfl,m,g1,g2,(Tq ha.ok.wfA g1 hx).2 (by simpa using h2),h1⟩
 ·rintro⟨x,hx,rfl,rfl,m,hm,h1,h2,h3⟩;have hp:=(Tq ha.ok.wfA hm hx).1 h2;exact⟨m,En.2 ⟨hm,h1,(Yp (ha.ok.wfA.on m hm)).2 ⟨_,_,hp⟩⟩,h3,hp⟩
theorem f0q{a:Aut}(ha:Dfa a){cl:List Nat}{s:Int}(hs:inS a s){t ty:Nat}{y:Int}:Jr a cl s t ty y↔∃x:Sy,Rm a x∧x.ty.toNat=ty∧x.num=y∧cl.getD (toL a s x).toNat 0=t:=by
 rw[ha.dom];constructor
 ·rintro⟨x,hx,h1,h2,m,hm,rfl,h4,h5⟩;exact⟨x,hx,h1,h2,by rw[ha.to_of hm hx h4];exact h5⟩
 ·rintro⟨x,hx,h1,h2,h3⟩;obtain⟨m,hm,e1,e2,e3⟩:=ha.move hs hx;exact⟨x,hx,h1,h2,m,hm,e1,e2,by rw[e3];exact h3⟩
theorem y2p{x y:Sy}{a:Aut}(hx:Rm a x)(hy:Rm a y)(h:x.ty.toNat=y.ty.toNat)(h2:x.num=y.num):x=y:=by
 have:=hx.1.1;have:=hy.1.1;cases x;cases y;simp only at *
 have:∀ {a b:Int},0≤a→0≤b→a.toNat=b.toNat→a=b:=fun h0 h1 h=>by omega
 simp only[Sy.mk.injEq];exact⟨this ‹_› ‹_› h,h2⟩
theorem Nr{a:Aut}(ha:Dfa a){cl:List Nat}{s:Int}(hs:inS a s){t t' ty:Nat}{y:Int}(h:Jr a cl s t ty y)(h':Jr a cl s t' ty y):t=t':=by obtain⟨x,hx,h1,h2,h3⟩:=(f0q ha hs).1 h;obtain⟨x',z1,z6,z7,z8⟩:=(f0q ha hs).1 h';have:x=x':=y2p hx z1 (h1.trans z6.symm) (h2.trans z7.symm);subst this;exact h3.symm.trans z8
theorem Hd{a:Aut}(ha:Dfa a)(cl:List Nat){s:Int}(hs:inS a s):MrgS a.types.toNat (Jr a cl s) (y1r a cl s)∧(y1r a cl s).Pairwise (ltG kyM):=by have h:=C2 ha cl s;obtain⟨h1,h2⟩:=Kn kyM (f1z a cl s) (h.apart fun t t' ty y=>Nr ha hs);exact⟨h.perm h1.symm,h2⟩
def Pa(a:Aut)(cl:List Nat)(s:Int)(t:Nat):List Prd:=((Q1 a s).filter fun m=>decide (clD cl m=t)).map (·.on)
theorem j0o{a:Aut}(ha:Dfa a)(cl:List Nat)(s:Int){ks:List Nat}(z7:ks.Nodup)(hk:∀t,t∈ks↔∃m∈Q1 a s,clD cl m=t):
  MrgS a.types.toNat (Jr a cl s) (ks.map fun t:Nat=>(⟨0,(t:Int),U8 a.types.toNat (Pa a cl s t)⟩:Mv)):=by
 have z1:∀t,∀p∈Pa a cl s t,PWf a.types.toNat p:=fun t p hp=>by obtain⟨m,hm,rfl⟩:=zT.1 hp;exact(j1b ha.ok.wfA (xW.1 hm).1).1
 have z6:∀t ty y,PM (U8 a.types.toNat (Pa a cl s t)) ty y↔Jr a cl s t ty y:=fun t ty y=>by
  rw[Bo (z1 t)];constructor
  ·rintro⟨p,hp,h⟩;obtain⟨m,hm,rfl⟩:=zT.1 hp;obtain⟨h1,h2⟩:=xW.1 hm;exact⟨m,h1,by simpa using h2,h⟩
  ·rintro⟨m,hm,h1,h2⟩;exact⟨m.on,zT.2 ⟨m,xW.2 ⟨hm,by simpa using h1⟩,rfl⟩,h2⟩
 refine⟨fun m hm=> ?_,fun m hm=> ?_,fun m hm=> ?_,?_,fun m hm t e ty y=> ?_,fun t ty y hd=> ?_,fun m hm=> ?_⟩
 ·obtain⟨t,_,rfl⟩:=zT.1 hm;exact K7 (z1 t)
 ·obtain⟨t,_,rfl⟩:=zT.1 hm;rfl
 ·obtain⟨t,_,rfl⟩:=zT.1 hm;exact⟨t,rfl⟩
 ·exact wP.2 (z7.imp fun h e=>h (Int.ofNat.inj e))
 ·obtain⟨u,_,rfl⟩:=zT.1 hm;have:u=t:=Int.ofNat.inj e;subst this;exact z6 u ty y
 ·obtain⟨m,hm,h1,h2⟩:=hd;exact⟨_,zT.2 ⟨t,(hk t).2 ⟨m,hm,h1⟩,rfl⟩,rfl⟩
 ·obtain⟨t,ht,rfl⟩:=zT.1 hm;obtain⟨m,hm,h1⟩:=(hk t).1 ht;obtain⟨ty,y,hp⟩:=(j1b ha.ok.wfA hm).2;exact⟨ty,y,(z6 t ty y).2 ⟨m,hm,h1,hp⟩⟩
end Go.Abs
namespace Go.Abs
def u1g(cl:List Nat)(t:Nat):Nat:=(cl.findIdx? fun c=>decide (c=t)).getD 0
def Lq(a:Aut)(t:Nat):Prop:=t<(fsA a).length
def Yk(a:Aut)(s:Int):Nat:=(clA a).getD s.toNat 0
def Ii(a:Aut)(t:Nat):Nat:=u1g (clA a) t
theorem Ab{a:Aut}{s:Int}(h:inS a s):s.toNat<a.fin.length∧((s.toNat:Nat):Int)=s:=by unfold inS at h;omega
theorem Aj{a:Aut}(ha:Dfa a){t:Nat}(ht:Lq a t):Ii a t<a.fin.length∧Yk a (Ii a t)=t:=by
 have h:=q2g ha;have hf:=h.first (f1d ha) (zK ht);have hr:Ii a t=(fsA a)[t]:=by rw[Ii,u1g,hf];rfl
 rw[xG]at hf;obtain⟨h1,h2,_⟩:=hf;rw[hr];refine⟨by rw[h.len]at h1;exact h1,?_⟩;simp only[Yk,Int.toNat_natCast,yX,zK h1,wO];simpa using h2
theorem q0u{a:Aut}(ha:Dfa a){t:Nat}(ht:Lq a t):inS a (Ii a t:Int):=Pq (Aj ha ht).1
theorem q0m{a:Aut}(ha:Dfa a){s:Int}(hs:inS a s):Lq a (Yk a s):=(q2g ha).lt_fs (Ab hs).1
def Fs(o:List Nat)(c:Nat):List Nat:=if c∈o then o else o++[c]
def Wq(o:List Nat)(l:List Mv):List Nat:=l.foldl (fun o m=>Fs o m.dst.toNat) o
def Pn(a:Aut)(t:Nat):List Mv:=y1r a (clA a) (Ii a t:Int)
def Gp(a:Aut):Nat→Nat→List Nat→List Nat
 |0,_,o=>o
 |f+1,n,o=>match o[n]? with
  |none=>o
  |some c=>Gp a f (n+1) (Wq o (Pn a c))
def u0p(a:Aut):List Nat:=Gp a (a.fin.length+1) 0 [Yk a 0]
def Xm(o:List Nat)(c:Nat):Nat:=(o.findIdx? fun d=>decide (d=c)).getD 0
def mvN(a:Aut)(o:List Nat)(n:Nat):List Mv:=(Pn a (o.getD n 0)).map fun m=>⟨n,(Xm o m.dst.toNat:Int),m.on⟩
def G9(a:Aut)(o:List Nat):Aut:=⟨a.types,o.map fun c=>a.fin.getD (Ii a c) false,(yO o.length).flatMap (mvN a o)⟩
def E2(a:Aut):Aut:=G9 a (u0p a)
theorem Fm(o:List Nat)(c:Nat):∃r,Fs o c=o++r∧∀x∈r,x=c:=by
 unfold Fs;split
 ·exact⟨[],by simp,by simp⟩
 ·exact⟨[c],rfl,fun x hx=>zQ.1 hx⟩
theorem M6(o:List Nat)(c:Nat):c∈Fs o c:=by
 unfold Fs;split
 ·assumption
 ·simp
theorem y0o{o:List Nat}(h:o.Nodup)(c:Nat):(Fs o c).Nodup:=by
 unfold Fs;split
 ·exact h
 ·rename_i hc;exact vv.2 ⟨h,by simp,fun x hx y hy e=>by rw[zQ.1 hy]at e;exact hc (e▸hx)⟩
theorem Pr:∀(l:List Mv) (o:List Nat),o.Nodup→(∃r,Wq o l=o++r∧∀x∈r,∃m∈l,x=m.dst.toNat)∧(Wq o l).Nodup∧∀m∈l,m.dst.toNat∈Wq o l
 |[],o,h=>⟨⟨[],by simp[Wq],by simp⟩,h,by simp⟩
 |m::l,o,h=>by
  obtain⟨⟨r,h1,h2⟩,h3,h4⟩:=Pr l (Fs o m.dst.toNat) (y0o h _);obtain⟨r',h5,h6⟩:=Fm o m.dst.toNat;have he:Wq o (m::l)=Wq (Fs o m.dst.toNat) l:=rfl;rw[he];refine⟨⟨r'++r,by rw[h1,h5,xT],fun x hx=> ?_⟩,h3,fun k hk=> ?_⟩
  ·rcases zW.1 hx with hx|hx
   ·exact⟨m,by simp,h6 x hx⟩
   ·obtain⟨k,hk,e⟩:=h2 x hx;exact⟨k,by simp[hk],e⟩
  ·rcases yE.1 hk with rfl|hk
   ·rw[h1];exact xA _ (M6 _ _)
   ·exact h4 k hk
theorem Xa{a:Aut}(ha:Dfa a){t:Nat}(ht:Lq a t){m:Mv}(hm:m∈Pn a t):∃x,Rm a x∧m.dst=(Yk a (toL a (Ii a t) x):Nat)∧inS a (toL a (Ii a t) x)∧Lq a (Yk a (toL a (Ii a t) x))∧PM m.on x.ty.toNat x.num:=by have hs:=q0u ha ht;have h:=(Hd ha (clA a) hs).1;obtain⟨u,hu⟩:=h.dst m hm;obtain⟨ty,y,hy⟩:=h.ne m hm;obtain⟨x,hx,rfl,rfl,h3⟩:=(f0q ha hs).1 ((h.mem m hm u hu ty y).1 hy);have z1:=(ha.next hs hx).1;exact⟨x,hx,by rw[hu,←h3];rfl,z1,q0m ha z1,hy⟩
structure OrdS (a:Aut) (o:List Nat):Prop where
 first:o[0]? =some (Yk a 0)
 nd:o.Nodup
 cl:∀c∈o,Lq a c
 closed:∀c∈o,∀m∈Pn a c,m.dst.toNat∈o
theorem c0f{a:Aut}(ha:Dfa a):(fsA a).length≤a.fin.length:=by
 have h:=q2g ha;have z1:(fsA a).Nodup:=h.asc.imp fun h e=>by omega
 have:=z1.length_le_of_subset (l₂:=yO a.fin.length) fun r hr=>y_.2 (h.lt r hr);simpa using this
theorem d04{a:Aut}(ha:Dfa a){o:List Nat}(hn:o.Nodup)(hc:∀c∈o,Lq a c):o.length≤a.fin.length:=by have:=hn.length_le_of_subset (l₂:=yO (fsA a).length) fun c hx=>y_.2 (hc c hx);have h2:=c0f ha;simp at this;omega
theorem C0{a:Aut}(ha:Dfa a):∀(f n:Nat) (o:List Nat),a.fin.length+1≤n+f→n≤o.length→o[0]? =some (Yk a 0)→o.Nodup→(∀c∈o,Lq a c)→(∀i c,i<n→o[i]? =some c→∀m∈Pn a c,m.dst.toNat∈o)→OrdS a (Gp a f n o)
 |0,n,o,hf,hn,h0,z6,z1,hc=>by have:=d04 ha z6 z1;omega
 |f+1,n,o,hf,hn,h0,z6,z1,hc=>by
  unfold Gp;cases hon:o[n]? with
  |none=>
   simp only;have hl:o.length≤n:=by simpa using hon
   refine⟨h0,z6,z1,fun c hx m hm=> ?_⟩;obtain⟨i,hi⟩:=yJ.1 hx;exact hc i c (by have:=Ex hi;omega) hi m hm
  |some c=>
   simp only;have z8:=Ex hon;obtain⟨⟨r,h1,h2⟩,h3,h4⟩:=Pr (Pn a c) o z6;have z7:=z1 c (zJ hon);refine C0 ha f (n+1) _ (by omega) (by rw[h1,zZ];omega) ?_ h3 (fun d hd=> ?_) fun i d hi hd m hm=> ?_
   ·rw[h1,zF (by omega)];exact h0
   ·rw[h1]at hd;rcases zW.1 hd with hd|hd
    ·exact z1 d hd
    ·obtain⟨m,hm,e⟩:=h2 d hd;obtain⟨x,_,e2,_,e4,_⟩:=Xa ha z7 hm;rw[e,e2];simpa using e4
   ·rw[h1,zF (by omega)]at hd;by_cases e:i=n
    ·subst e;rw[hon]at hd;cases hd;exact h4 m hm
    ·rw[h1];exact xA _ (hc i d (by omega) hd m hm)
theorem X5{a:Aut}(ha:Dfa a):OrdS a (u0p a):=
 C0 ha _ 0 _ (by omega) (by simp) rfl (by simp) (fun c hc=>by rw[zQ.1 hc];exact q0m ha ha.zero) (fun i c hi=>by omega)
section
variable {a b:Aut} (ha:Dfa a) (hb:Dfa b) (ht:b.types=a.types)
def x27(a b:Aut)(c d:Nat):Prop:=Lq a c∧Lq b d∧eqW a b (Ii a c) (Ii b d)
structure LkO (a b:Aut) (o o':List Nat):Prop where
 len:o.length=o'.length
 k:∀(i c d:Nat),o[i]? =some c→o'[i]? =some d→x27 a b c d
end
end Go.Abs
namespace Go.Abs
theorem c1w{α:Type}{l:List α}(h:l.Nodup){i j:Nat}(hi:i<l.length)(hj:j<l.length)(e:l[i]=l[j]):i=j:=by
 rcases vV i j with k|k|k
 ·exact absurd e (yU.1 h i j hi hj k)
 ·exact k
 ·exact absurd e.symm (yU.1 h j i hj hi k)
theorem f0p{o:List Nat}(hn:o.Nodup){i c:Nat}(h:o[i]? =some c):Xm o c=i:=by
 unfold Xm;have:(o.findIdx? fun d=>decide (d=c))=some i:=v03 h (by simp) fun i j x y hx hy e1 e2=>by
  have e3:x=c:=by simpa using e1
  have e4:y=c:=by simpa using e2
  subst e3 e4;obtain⟨hi,e5⟩:=zB.1 hx;obtain⟨hj,e6⟩:=zB.1 hy;exact c1w hn hi hj (e5.trans e6.symm)
 rw[this];rfl
theorem q12{o:List Nat}(hn:o.Nodup){c:Nat}(h:c∈o):o[Xm o c]? =some c:=by obtain⟨i,hi⟩:=yJ.1 h;rw[f0p hn hi];exact hi
theorem H8{a:Aut}{o:List Nat}{m:Mv}:m∈(G9 a o).mv↔∃(n c:Nat),o[n]? =some c∧∃k∈Pn a c,m=⟨n,(Xm o k.dst.toNat:Int),k.on⟩:=by
 unfold G9 mvN;simp only[List.mem_flatMap,y_,zT];constructor
 ·rintro⟨n,hn,k,hk,rfl⟩;have e:o.getD n 0=o[n]:=by simp[yX,hn]
  rw[e]at hk;exact⟨n,_,zK hn,k,hk,rfl⟩
 ·rintro⟨n,c,hn,k,hk,rfl⟩;have e:o.getD n 0=c:=by simp[yX,hn]
  exact⟨n,Ex hn,k,by rw[e];exact hk,rfl⟩
theorem q1o{a:Aut}(o:List Nat):(G9 a o).fin.length=o.length:=by simp[G9]
theorem Ns(a:Aut):(E2 a).types=a.types:=rfl
theorem w1w{a:Aut}(ha:Dfa a):WfA (E2 a):=by
 have ho:=X5 ha;have z1:(E2 a).fin.length=(u0p a).length:=q1o _;have z6:=Ex ho.first;refine⟨ha.ok.types,by omega,fun m hm=> ?_,fun m hm=> ?_,fun m hm=> ?_⟩
 ·obtain⟨n,c,hn,k,hk,rfl⟩:=H8.1 hm;have:=Ex hn;rw[z1];exact⟨by simp,by simpa using this⟩
 ·obtain⟨n,c,hn,k,hk,rfl⟩:=H8.1 hm;have:=Ex (q12 ho.nd (ho.closed c (zJ hn) k hk));rw[z1];exact⟨by simp,by simpa using this⟩
 ·obtain⟨n,c,hn,k,hk,rfl⟩:=H8.1 hm;exact(Hd ha (clA a) (q0u ha (ho.cl c (zJ hn)))).1.wf k hk
theorem Sf{α β:Type}(rs:List β)(hn:rs.Nodup)(p:β→α→Bool)(hp:∀s t x,p s x=true→p t x=true→s=t):∀l:List α,(rs.map fun s=>(l.filter (p s)).length).sum≤l.length
 |[]=>by have:(rs.map fun s=>(([]:List α).filter (p s)).length)=rs.map fun _=>0:=List.map_congr_left fun s _=>rfl;rw[this,List.map_const'];simp
 |x::l=>by
  have ih:=Sf rs hn p hp l;have key:∀(rs:List β),rs.Nodup→(rs.map fun s=>((x::l).filter (p s)).length).sum≤(rs.map fun s=>(l.filter (p s)).length).sum+(bif rs.any (fun s=>p s x)then 1 else 0):=by
   intro rs;induction rs with
   |nil=>intro _;simp
   |cons s rs ih2=>
    intro z1;obtain⟨z6,z7⟩:=List.nodup_cons.1 z1;have:=ih2 z7;simp only[yZ,ur,List.any_cons];by_cases hps:p s x=true
    ·have z8:rs.any (fun s=>p s x)=false:=by rw[vD];intro t ht za;exact z6 (hp s t x hps za▸ht)
     rw[z8]at this;rw[List.filter_cons_of_pos hps,hps];simp only[Bool.true_or,cond_true,cond_false,yS]at this ⊢;omega
    ·rw[List.filter_cons_of_neg hps,show p s x=false by simpa using hps];simp only[Bool.false_or];omega
  have:=key rs hn;rw[yS];cases hc:rs.any (fun s=>p s x)<;>rw[hc]at this<;>simp only[cond_true,cond_false]at this<;>omega
theorem x1u(a:Aut)(cl:List Nat)(s:Int):(f1z a cl s).length≤(Q1 a s).length:=by
 have h1:∀(n:Nat) (g:List Mv) (to:Nat) (c:Prd),(Yb n g to c).length≤g.length+1:=fun n g to c=>by
  unfold Yb;split
  ·simp
  ·split<;>simp
 have h2:∀(r g:List Mv),(r.foldl (fun g m=>Yb 0 g (clD cl m) m.on) g).length≤g.length+r.length:=by
  intro r;induction r with
  |nil=>intro g;simp
  |cons m r ih=>intro g;have e:=ih (Yb 0 g (clD cl m) m.on);have e2:=h1 0 g (clD cl m) m.on;rw[xY,yS];omega
 have:=h2 (Q1 a s) [];simpa[f1z]using this
theorem Zu{a:Aut}(ha:Dfa a){t:Nat}(ht:Lq a t):(Pn a t).length≤(Q1 a (Ii a t)).length:=by have h:=C2 ha (clA a) (Ii a t);have hp:=(Kn kyM (f1z a (clA a) (Ii a t)) (h.apart fun t' t'' ty y=>Nr ha (q0u ha ht))).1.length_eq;have:=x1u a (clA a) (Ii a t);unfold Pn y1r;omega
theorem g0u{a:Aut}(ha:Dfa a):(E2 a).mv.length≤a.mv.length:=by
 have ho:=X5 ha;have z1:∀c∈u0p a,∀d∈u0p a,Ii a c=Ii a d→c=d:=fun c hc d hd e=>by have e1:=(Aj ha (ho.cl c hc)).2;have e2:=(Aj ha (ho.cl d hd)).2;rw[←e1,←e2,e]
 have hlen:(E2 a).mv.length=((u0p a).map fun c=>(Pn a c).length).sum:=by
  unfold E2 G9;simp only[List.length_flatMap]
  congr 1
  refine List.ext_getElem (by simp) fun i h1 h2=> ?_;have hi:i<(u0p a).length:=by simpa using h1
  simp[mvN,yX,hi]
 have hle:((u0p a).map fun c=>(Pn a c).length).sum≤(((u0p a).map fun c=>((Ii a c:Nat):Int)).map fun s=>(Q1 a s).length).sum:=by
  rw[List.map_map];have key:∀l:List Nat,(∀c∈l,Lq a c)→(l.map fun c=>(Pn a c).length).sum≤(l.map ((fun s=>(Q1 a s).length)∘fun c=>((Ii a c:Nat):Int))).sum:=by
   intro l;induction l with
   |nil=>intro _;simp
   |cons c l ih=>intro hc;have h1:=ih fun d hd=>hc d (by simp[hd]);have h2:=Zu ha (hc c (by simp));simp only[yZ,ur,Function.comp_apply];omega
  exact key _ ho.cl
 have z6:((u0p a).map fun c=>((Ii a c:Nat):Int)).Nodup:=by refine wP.2 ?_;refine List.Pairwise.imp_of_mem ?_ ho.nd;intro c d hc hd z7 e;exact z7 (z1 c hc d hd (by omega))
 have:=Sf _ z6 (fun s (m:Mv)=>decide (m.src=s) && !Wf m.on) (fun s t x h1 h2=>by
  simp only[Bool.and_eq_true,decide_eq_true_eq]at h1 h2;rw[←h1.1,←h2.1]) a.mv
 rw[hlen];unfold Q1 at hle;omega
def Ms(m:Aut):Bool:=m.mv.any fun k=>k.on.any fun s=>decide (256<s.length)
section
variable {a:Aut} (ha:Dfa a) (hb:Ms (E2 a)=false)
include ha hb
end
def w09(a:Aut):Int×Aut:=if(T6 a).1≠0 then((T6 a).1,U0)else if(Sd (T6 a).2).1≠0 then((Sd (T6 a).2).1,U0)else
 if Ms (E2 (Sd (T6 a).2).2)then(5,U0)else(0,E2 (Sd (T6 a).2).2)
theorem g1o{a d c:Aut}(h:OkA a)(hd:T6 a=(0,d))(hc:Sd d=(0,c)):Dfa c∧c.types=a.types∧∀w,(∀x∈w,Rm a x)→N2 c w=N2 a w:=by obtain⟨Q,_,_,_,_,_,z1,ddet,z6,dacc⟩:=w1e h hd;obtain⟨z7,z8,cfull,cdet,cacc⟩:=y1y z1 hc;exact⟨⟨z7,cdet ddet,cfull⟩,z8.trans z6,fun w hw=>(cacc w).trans (dacc w hw)⟩
end Go.Abs
namespace Go.Abs
def addI(o:List Int)(c:Int):List Int:=if c∈o then o else o++[c]
def Wk(o:List Int)(l:List Int):List Int:=l.foldl addI o
def Pb(sc:Int→List Int):Nat→Nat→List Int→List Int
 |0,_,o=>o
 |f+1,n,o=>match o[n]? with
  |none=>o
  |some c=>Pb sc f (n+1) (Wk o (sc c))
theorem z1p(o:List Int)(c:Int):∃r,addI o c=o++r∧∀x∈r,x=c:=by
 unfold addI;split
 ·exact⟨[],by simp,by simp⟩
 ·exact⟨[c],rfl,fun x hx=>zQ.1 hx⟩
theorem w14(o:List Int)(c:Int):c∈addI o c:=by
 unfold addI;split
 ·assumption
 ·simp
theorem y04{o:List Int}(h:o.Nodup)(c:Int):(addI o c).Nodup:=by
 unfold addI;split
 ·exact h
 ·rename_i hc;exact vv.2 ⟨h,by simp,fun x hx y hy e=>by rw[zQ.1 hy]at e;exact hc (e▸hx)⟩
theorem Tp:∀(l:List Int) (o:List Int),o.Nodup→(∃r,Wk o l=o++r∧∀x∈r,x∈l)∧(Wk o l).Nodup∧∀m∈l,m∈Wk o l
 |[],o,h=>⟨⟨[],by simp[Wk],by simp⟩,h,by simp⟩
 |m::l,o,h=>by
  obtain⟨⟨r,h1,h2⟩,h3,h4⟩:=Tp l (addI o m) (y04 h _);obtain⟨r',h5,h6⟩:=z1p o m;have he:Wk o (m::l)=Wk (addI o m) l:=rfl;rw[he];refine⟨⟨r'++r,by rw[h1,h5,xT],fun x hx=> ?_⟩,h3,fun k hk=> ?_⟩
  ·rcases zW.1 hx with hx|hx
   ·rw[h6 x hx];simp
   ·simp[h2 x hx]
  ·rcases yE.1 hk with rfl|hk
   ·rw[h1];exact xA _ (w14 _ _)
   ·exact h4 k hk
structure SrchS (sc:Int→List Int) (o:List Int):Prop where
 nd:o.Nodup
 zero:(0:Int)∈o
 closed:∀c∈o,∀d∈sc c,d∈o
 least:∀S:Int→Prop,S 0→(∀c d,S c→d∈sc c→S d)→∀c∈o,S c
theorem V0{sc:Int→List Int}{N:Nat}(z7:∀c:Int,0≤c∧c<N→∀d∈sc c,0≤d∧d<N):∀(f n:Nat) (o:List Int),N+1≤n+f→n≤o.length→(0:Int)∈o→o.Nodup→(∀c∈o,0≤c∧c<N)→
  (∀(i:Nat) (c:Int),i<n→o[i]? =some c→∀d∈sc c,d∈o)→(∀S:Int→Prop,S 0→(∀c d,S c→d∈sc c→S d)→∀c∈o,S c)→SrchS sc (Pb sc f n o)
 |0,n,o,hf,hn,h0,z1,z6,hc,hl=>by
  have:o.length≤N:=by have:=z1.length_le_of_subset (l₂:=Ey N) fun c hx=>Ew.2 (z6 c hx);simpa[Ey]using this
  omega
 |f+1,n,o,hf,hn,h0,z1,z6,hc,hl=>by
  unfold Pb;cases hon:o[n]? with
  |none=>
   have hlen:o.length≤n:=by simpa using hon
   refine⟨z1,h0,fun c hx d hd=> ?_,hl⟩;obtain⟨i,hi⟩:=yJ.1 hx;have za:i<o.length:=Ex hi;exact hc i c (by omega) hi d hd
  |some c=>
   simp only;have zb:=Ex hon;have z8:=zJ hon;obtain⟨⟨r,h1,h2⟩,h3,h4⟩:=Tp (sc c) o z1;refine V0 z7 f (n+1) _ (by omega) (by rw[h1,zZ];omega) (by rw[h1];exact xA _ h0) h3 (fun d hd=> ?_) (fun i d hi hd m hm=> ?_) (fun S s0 s1 d hd=> ?_)
   ·rw[h1]at hd;rcases zW.1 hd with hd|hd
    ·exact z6 d hd
    ·exact z7 c (z6 c z8) d (h2 d hd)
   ·rw[h1,zF (by omega)]at hd;by_cases e:i=n
    ·subst e;rw[hon]at hd;cases hd;exact h4 m hm
    ·rw[h1];exact xA _ (hc i d (by omega) hd m hm)
   ·rw[h1]at hd;rcases zW.1 hd with hd|hd
    ·exact hl S s0 s1 d hd
    ·exact s1 c d (hl S s0 s1 c z8) (h2 d hd)
theorem K1{sc:Int→List Int}{N:Nat}(hN:0<N)(z1:∀c:Int,0≤c∧c<N→∀d∈sc c,0≤d∧d<N):SrchS sc (Pb sc (N+1) 0 [0]):=
 V0 z1 (N+1) 0 [0] (by omega) (by simp) (by simp) (by simp) (fun c hc=>by rw[zQ.1 hc];omega) (fun i c hi=>by omega) (fun S s0 _ c hc=>by rw[zQ.1 hc];exact s0)
theorem SrchS.len{sc sc':Int→List Int}{o o':List Int}(h:SrchS sc o)(h':SrchS sc' o')(e:∀c∈o,∀d,d∈sc c↔d∈sc' c):o.length=o'.length:=by have h1:∀c∈o,c∈o':=fun c hc=>(h.least (fun c=>c∈o'∧c∈o) ⟨h'.zero,h.zero⟩ (fun c d hs hd=>⟨h'.closed c hs.1 d ((e c hs.2 d).1 hd),h.closed c hs.2 d hd⟩) c hc).1;have h2:∀c∈o',c∈o:=fun c hc=>h'.least (fun c=>c∈o) h.zero (fun c d hs hd=>h.closed c hs d ((e c hs d).2 hd)) c hc;exact Nat.le_antisymm (h.nd.length_le_of_subset h1) (h'.nd.length_le_of_subset h2)
def H9(a:Aut)(c:Int):List Int:=(Q1 a c).map (·.dst)
def Gr(a:Aut)(c:Int):List Int:=(Eb a a).map (toL a c)
def Pw(a:Aut):Bool:=(Pb (H9 a) (a.fin.length+1) 0 [0]).length==a.fin.length
def Jp(a:Aut):Bool:=(Pb (Gr a) (a.fin.length+1) 0 [0]).length==a.fin.length
theorem q0o{a:Aut}(ha:Dfa a){c:Int}(hc:inS a c){d:Int}:d∈H9 a c↔∃x,Rm a x∧toL a c x=d:=by
 unfold H9;rw[zT];constructor
 ·rintro⟨m,hm,rfl⟩;obtain⟨h1,rfl,h3⟩:=En.1 hm;obtain⟨t,n,hp⟩:=(Yp (ha.ok.wfA.on m h1)).1 h3;obtain⟨z6,z1⟩:=(ha.ok.wfA.on m h1).lt hp;have hx:Rm a ⟨t,n⟩:=⟨⟨by simp,by have:=ha.ok.types;simp;omega⟩,z1⟩
  exact⟨⟨t,n⟩,hx,ha.to_of h1 hx ((Tq ha.ok.wfA h1 hx).2 (by simpa using hp))⟩
 ·rintro⟨x,hx,rfl⟩;obtain⟨m,hm,h1,h2,h3⟩:=ha.move hc hx;exact⟨m,En.2 ⟨hm,h1,(Yp (ha.ok.wfA.on m hm)).2 ⟨_,_,(Tq ha.ok.wfA hm hx).1 h2⟩⟩,h3⟩
theorem q0j{a:Aut}(ha:Dfa a){c:Int}{d:Int}:d∈Gr a c↔∃x,Rm a x∧toL a c x=d:=by
 have hs:=Z4 ha.ok ha.ok rfl (c,c);unfold Gr;rw[zT];constructor
 ·rintro⟨x,hx,rfl⟩;exact⟨x,(hs.mem (x,Ts a a (c,c) x) (zT.2 ⟨x,hx,rfl⟩)).1,rfl⟩
 ·rintro⟨y,hy,rfl⟩;obtain⟨e,he,h1,_⟩:=hs.cov y hy;obtain⟨x,hx,rfl⟩:=zT.1 he;simp only[Ts,Prod.mk.injEq]at h1;exact⟨x,hx,h1.1⟩
theorem Jb{a:Aut}(ha:Dfa a):∀c,0≤c∧c<(a.fin.length:Int)→∀d∈H9 a c,0≤d∧d<(a.fin.length:Int):=fun c hc d hd=>by obtain⟨x,hx,rfl⟩:=(q0o ha hc).1 hd;exact(ha.next hc hx).1
theorem Nw{a:Aut}(ha:Dfa a):∀c,0≤c∧c<(a.fin.length:Int)→∀d∈Gr a c,0≤d∧d<(a.fin.length:Int):=fun c hc d hd=>by obtain⟨x,hx,rfl⟩:=(q0j ha).1 hd;exact(ha.next hc hx).1
theorem d0u{a:Aut}(ha:Dfa a):Pw a=Jp a:=by have h1:=K1 (sc:=H9 a) ha.ok.fin.1 (Jb ha);have h2:=K1 (sc:=Gr a) ha.ok.fin.1 (Nw ha);have h3:∀c∈Pb (H9 a) (a.fin.length+1) 0 [0],inS a c:=fun c hc=>h1.least (inS a) ha.zero (fun c d hs hd=>Jb ha c hs d hd) c hc;unfold Pw Jp;rw[h1.len h2 fun c hc d=>by rw[q0o ha (h3 c hc),q0j ha]]
end Go.Abs
namespace Go.Abs
structure Dta (a:Aut):Prop where
 ok:OkA a
 det:S7 a
def wkS(a:Aut)(s:Int):List Sy→Option Int
 |[]=>some s
 |x::w=>if toL a s x<0 then none else wkS a (toL a s x) w
def fAt(f:List Int)(s:Int):Int:=f.getD s.toNat (-1)
structure IsoT (a b:Aut) (f:List Int):Prop where
 len:f.length=a.fin.length
 zero:fAt f 0=0
 low:∀q∈f,-1≤q
 fin:∀s,inS a s→0≤fAt f s→a.fin.getD s.toNat false=b.fin.getD (fAt f s).toNat false
 step:∀s,inS a s→0≤fAt f s→∀x,Rm a x→(toL a s x<0↔toL b (fAt f s) x<0)∧(0≤toL a s x→fAt f (toL a s x)=toL b (fAt f s) x)
 inj:∀s t,inS a s→inS a t→0≤fAt f s→fAt f s=fAt f t→s=t
 reach:∀s,inS a s→0≤fAt f s→∃w,(∀x∈w,Rm a x)∧wkS a 0 w=some s∧wkS b 0 w=some (fAt f s)
def j19(st:List Int×List Int)(e:Int×Int):Option (List Int×List Int):=
 if fAt st.1 e.1=e.2 then some st else if 0≤fAt st.1 e.1∨e.2∈st.1 then none else some (st.1.set e.1.toNat e.2,st.2++[e.1])
def f0d:List (Int×Int)→List Int×List Int→Option (List Int×List Int)
 |[],st=>some st
 |e::es,st=>(j19 st e).bind (f0d es)
def x29(chk:Int→Int→Bool)(ps:Int→Int→List (Int×Int)):Nat→Nat→List Int×List Int→Option (List Int)
 |0,_,st=>some st.1
 |f+1,n,st=>match st.2[n]? with
  |none=>some st.1
  |some p=>if chk p (fAt st.1 p)then(f0d (ps p (fAt st.1 p)) st).bind (x29 chk ps f (n+1))else none
def v2j(a:Aut):List Int×List Int:=((List.replicate a.fin.length (-1)).set 0 0,[0])
structure IsoI (a b:Aut) (st:List Int×List Int):Prop where
 len:st.1.length=a.fin.length
 zero:fAt st.1 0=0
 low:∀q∈st.1,-1≤q
 mem:∀s,s∈st.2↔inS a s∧0≤fAt st.1 s
 nd:st.2.Nodup
 inj:∀s t,inS a s→inS a t→0≤fAt st.1 s→fAt st.1 s=fAt st.1 t→s=t
 reach:∀s,inS a s→0≤fAt st.1 s→∃w,(∀x∈w,Rm a x)∧wkS a 0 w=some s∧wkS b 0 w=some (fAt st.1 s)
 rng:∀s,inS a s→0≤fAt st.1 s→inS b (fAt st.1 s)
structure PsOk (a b:Aut) (chk:Int→Int→Bool) (ps:Int→Int→List (Int×Int)):Prop where
 chk:∀p q,inS a p→inS b q→(chk p q=true↔a.fin.getD p.toNat false=b.fin.getD q.toNat false∧∀x,Rm a x→(toL a p x<0↔toL b q x<0))
 from_:∀p q,inS a p→inS b q→∀e∈ps p q,∃x,Rm a x∧toL a p x=e.1∧toL b q x=e.2∧0≤e.1∧0≤e.2
 all:∀p q,inS a p→inS b q→∀x,Rm a x→0≤toL a p x→0≤toL b q x→(toL a p x,toL b q x)∈ps p q
end Go.Abs
namespace Go.Abs
def Jw:List Iv→List Iv→Option Int
 |x::l,y::m=>if max x.lo y.lo≤min x.hi y.hi then some (max x.lo y.lo)else if x.hi<y.hi then Jw l (y::m)else Jw (x::l) m
 |_,_=>none
termination_by l m=>l.length+m.length
theorem w0w(m:List Iv):Jw [] m=none:=by simp[Jw]
theorem Ct(x:Iv)(l:List Iv):Jw (x::l) []=none:=by simp[Jw]
theorem c0p(x y:Iv)(l m:List Iv):Jw (x::l) (y::m)=if max x.lo y.lo≤min x.hi y.hi then some (max x.lo y.lo)else if x.hi<y.hi then Jw l (y::m)else Jw (x::l) m:=by rw[Jw]
theorem u1b{x:Iv}{l:List Iv}(h:Sep (x::l)):∀n,M l n→x.hi<n:=by rintro n ⟨y,hy,h1,h2⟩;have:=(yT.1 h.2).1 y hy;omega
theorem Yd{x:Iv}{l:List Iv}{n:Int}:M (x::l) n↔(x.lo≤n∧n≤x.hi)∨M l n:=by
 constructor
 ·rintro⟨y,hy,h⟩;rcases yE.1 hy with rfl|hy
  ·exact .inl h
  ·exact .inr ⟨y,hy,h⟩
 ·rintro(h|⟨y,hy,h⟩)
  ·exact⟨x,by simp,h⟩
  ·exact⟨y,by simp[hy],h⟩
theorem d0n{n:Int}:¬M [] n:=by rintro⟨y,hy,_⟩;cases hy
theorem z0c{x:Iv}{l:List Iv}(h:Sep (x::l)):Sep l:=⟨fun y hy=>h.1 y (by simp[hy]),(yT.1 h.2).2⟩
theorem Hm(l m:List Iv)(hl:Sep l)(hm:Sep m):match Jw l m with|some n=>M l n∧M m n∧∀k,M l k→M m k→n≤k|none=>∀k,M l k→¬M m k:=by
 match l,m with
 |[],m=>rw[w0w];exact fun k h=>absurd h d0n
 |x::l,[]=>rw[Ct];exact fun k _ h=>absurd h d0n
 |x::l,y::m=>
  have hx:=hl.1 x (by simp);have hy:=hm.1 y (by simp);have sx:=u1b hl;have sy:=u1b hm;rw[Jw];by_cases h1:max x.lo y.lo≤min x.hi y.hi
  ·rw[if_pos h1];refine⟨Yd.2 (.inl (by omega)),Yd.2 (.inl (by omega)),fun k k1 k2=> ?_⟩;have:x.lo≤k:=by
    rcases Yd.1 k1 with h|h
    ·exact h.1
    ·have:=sx k h;omega
   have:y.lo≤k:=by
    rcases Yd.1 k2 with h|h
    ·exact h.1
    ·have:=sy k h;omega
   omega
  ·rw[if_neg h1];by_cases h2:x.hi<y.hi
   ·rw[if_pos h2];have ih:=Hm l (y::m) (z0c hl) hm;have z1:∀k,(x.lo≤k∧k≤x.hi)→¬M (y::m) k:=fun k h hk=>by
     rcases Yd.1 hk with h'|h'
     ·omega
     ·have:=sy k h';omega
    cases hc:Jw l (y::m)with
    |some n=>
     rw[hc]at ih;obtain⟨i1,i2,i3⟩:=ih;refine⟨Yd.2 (.inr i1),i2,fun k k1 k2=> ?_⟩;rcases Yd.1 k1 with h|h
     ·exact absurd k2 (z1 k h)
     ·exact i3 k h k2
    |none=>
     rw[hc]at ih;intro k k1 k2;rcases Yd.1 k1 with h|h
     ·exact z1 k h k2
     ·exact ih k h k2
   ·rw[if_neg h2];have ih:=Hm (x::l) m hl (z0c hm);have z1:∀k,(y.lo≤k∧k≤y.hi)→¬M (x::l) k:=fun k h hk=>by
     rcases Yd.1 hk with h'|h'
     ·omega
     ·have:=sx k h';omega
    cases hc:Jw (x::l) m with
    |some n=>
     rw[hc]at ih;obtain⟨i1,i2,i3⟩:=ih;refine⟨i1,Yd.2 (.inr i2),fun k k1 k2=> ?_⟩;rcases Yd.1 k2 with h|h
     ·exact absurd k1 (z1 k h)
     ·exact i3 k k1 h
    |none=>
     rw[hc]at ih;intro k k1 k2;rcases Yd.1 k2 with h|h
     ·exact z1 k h k1
     ·exact ih k k1 h
termination_by l.length+m.length
def lqB(p q:Prd):Nat→Nat→Option Sy
 |0,_=>none
 |f+1,t=>match Jw (p.getD t []) (q.getD t [])with
  |some n=>some ⟨t,n⟩
  |none=>lqB p q f (t+1)
def Eh(p q:Prd):Option Sy:=if Wf (Wc p q)then none else some (Qp (Wc p q))
theorem z0l{T:Nat}{p:Prd}(h:PWf T p)(t:Nat):Sep (p.getD t []):=by
 by_cases ht:t<p.length
 ·rw[Wu ht];exact(h.2 _ (zL ht)).1
 ·rw[show p.getD t []=[] by simp[yX,xL (by omega:p.length≤t)]];exact⟨by simp,by simp⟩
theorem Df{p:Prd}{t:Nat}{n:Int}:PM p t n↔M (p.getD t []) n:=by
 constructor
 ·rintro⟨s,hs,h⟩;simpa[yX,hs]using h
 ·intro h;by_cases ht:t<p.length
  ·rw[Wu ht]at h;exact⟨_,zK ht,h⟩
  ·rw[show p.getD t []=[] by simp[yX,xL (by omega:p.length≤t)]]at h;exact absurd h d0n
theorem y2r{T:Nat}{p q:Prd}(hp:PWf T p)(hq:PWf T q):lqB p q T 0=Eh p q:=by
 have hw:=Ya hp hq.1;have key:∀(f t:Nat),t+f=T→(∀t' n,t'<t→¬PM (Wc p q) t' n)→lqB p q f t=Eh p q:=by
  intro f;induction f with
  |zero=>intro t ht z1;have:Wf (Wc p q)=true:=(Rz hw).2 fun t' n hm=>z1 t' n (by have:=(hw.lt hm).1;omega) hm;rw[lqB,Eh,if_pos this]
  |succ f ih=>
   intro t ht z1;have hs:=Hm _ _ (z0l hp t) (z0l hq t);rw[lqB];cases hc:Jw (p.getD t []) (q.getD t [])with
   |some n=>
    rw[hc]at hs;obtain⟨h1,h2,h3⟩:=hs;have hm:PM (Wc p q) t n:=(Em hp.1 hq.1 t n).2 ⟨Df.2 h1,Df.2 h2⟩;have hv:Wf (Wc p q)=false:=(Yp hw).2 ⟨t,n,hm⟩;rw[Eh,if_neg (by rw[hv];simp)];obtain⟨g1,g2,g3⟩:=Pu hw ⟨t,n,hm⟩;have z6:=hw.lt hm;show some (⟨(t:Int),n⟩:Sy)=some (Qp (Wc p q))
    congr 1
    rcases g3 ⟨t,n⟩ ⟨by simp,by simpa using z6.1,z6.2⟩ (by simpa using hm)with e|e
    ·exact e.symm
    ·exfalso;unfold sLt at e;simp only at e;have z8:=g1.1;by_cases hle:(Qp (Wc p q)).ty.toNat<t
     ·exact z1 _ _ hle g2
     ·have z7:(Qp (Wc p q)).ty=t:=by omega
      rw[z7]at g2;have:=(Em hp.1 hq.1 t (Qp (Wc p q)).num).1 (by simpa using g2);have:=h3 _ (Df.1 this.1) (Df.1 this.2);omega
   |none=>
    rw[hc]at hs;refine ih (t+1) (by omega) fun t' n za hm=> ?_;by_cases e:t'=t
    ·subst e;have:=(Em hp.1 hq.1 t' n).1 hm;exact hs n (Df.1 this.1) (Df.1 this.2)
    ·exact z1 t' n (by omega) hm
 exact key T 0 (by omega) (fun t' n h=>by omega)
theorem k0g{T:Nat}{p:Prd}(hp:PWf T p):Wc p p=p:=Pv (Ya hp hp.1) hp fun t n=>by rw[Em hp.1 hp.1];simp
theorem Nn{T:Nat}{p:Prd}(hp:PWf T p):Eh p p=if Wf p then none else some (Qp p):=by rw[Eh,k0g hp]
theorem w1h(a b:Aut)(s:Int×Int):Wo a b s=(Q1 a s.1).flatMap fun m=>(Q1 b s.2).filterMap fun n=>(Eh m.on n.on).map fun x=>(x,(m.dst,n.dst)):=by
 unfold Wo Eh
 congr 1
 funext m
 congr 1
 funext n;split<;>simp
end Go.Abs
namespace Go.Abs
def Tf(a:Aut):Int:=if Wx a≠0 then Wx a else if Ny a=false∨Y6 a=false then 3 else 0
theorem O6(a:Aut):Tf a=0↔Dfa a:=by
 unfold Tf;by_cases h:Wx a=0
 ·have z1:=(A8 a).1 h;rw[if_neg (fun k=>k h)];have h1:=k18 z1.wfA;have h2:Y6 a=true↔x0f a:=by rw[←z0u z1.wfA,Gi];unfold Y6;rw[zX];simp only[y_];exact forall_congr' fun s=>forall_congr' fun _=>by rw[c08 z1.wfA]
  constructor
  ·intro k;split at k
   ·cases k
   ·rename_i hn;refine⟨z1,h1.1 ?_,h2.1 ?_⟩
    ·cases hs:Ny a
     ·exact absurd (.inl hs) hn
     ·rfl
    ·cases hs:Y6 a
     ·exact absurd (.inr hs) hn
     ·rfl
  ·intro k;rw[if_neg];rintro(hs|hs)
   ·rw[h1.2 k.det]at hs;cases hs
   ·rw[h2.2 k.full]at hs;cases hs
 ·rw[if_pos h];exact⟨fun k=>absurd k h,fun k=>absurd ((A8 a).2 k.ok) h⟩
theorem g1a{a:Aut}(h:OkA a):((S6 a).1=0∧(S6 a).2.fin.length=a.fin.length)↔Y6 a=true:=by
 have z1:Wx a=0:=(A8 a).2 h;have hc:S6 a=Sd a:=by unfold S6;rw[if_neg (fun k=>k z1)]
 have h2:Y6 a=true↔R3 a (Wy a)=[]:=by rw[Gi];unfold Y6;rw[zX];simp only[y_];exact forall_congr' fun s=>forall_congr' fun _=>by rw[c08 h.wfA]
 rw[hc,h2,Sd];cases hn:R3 a (Wy a)with
 |nil=>simp
 |cons m l=>
  rw[if_neg (by simp)];unfold Xr;split
  ·simp
  ·simp[Uq]
end Go.Abs
namespace Go.Abs
open Go Go.Proofs Go.Maps Go.RowKit
theorem c1z(x y:Int):(if x<y then y else x)=max x y:=by omega
def f1h:Option Int→AV
 |some n=> .tup [.i n,.bool true]
 |none=> .tup [.i 0,.bool false]
theorem y0z(l m:List Iv)(hl:l.length≤1000000000)(hm:m.length≤1000000000):PC Tryz.prog 188 [LIv l,LIv m] (fun r=>r=f1h (Jw l m)):=by
 refine Qk tOk Tryz.func188 rfl Tryz.results188 rfl (by simp[Tryz.ntmps188]) ?_;rw[Tryz.ntmps188];simp only[Qg];obtain⟨R,hR⟩:∃R,Jw l m=R:=⟨_,rfl⟩
 rw[hR];repeat first|(refine r_ ?_;simp)|refine q_ ?_
 refine Qo (Qc (sl':=[(0,LIv l),(1,LIv m),(6,.i (0:Nat)),(7,.i (0:Nat))]) ?_ (by simp));refine Qn (F:=fun(u:Nat×Nat)=>⟨[(0,LIv l),(1,LIv m),(6,.i u.1),(7,.i u.2)],[]⟩)
  (fun u=>u.1≤l.length∧u.2≤m.length∧Jw (l.drop u.1) (m.drop u.2)=R) (fun u=>(l.length - u.1)+(m.length - u.2)) ?_ (0,0) ⟨xD _,xD _,by simpa using hR⟩
 rintro⟨i,k⟩ ⟨hi,hk,hI⟩ ih;simp only at hi hk hI ih ⊢;by_cases h1:i<l.length
 ·by_cases h2:k<m.length
  ·have hw:IntKind.i64.wrap ((i:Int)+1)=i+1:=wrap_i64 _ (by omega) (by omega);have z1:IntKind.i64.wrap ((k:Int)+1)=k+1:=wrap_i64 _ (by omega) (by omega);rw[xV h1,xV h2,c0p]at hI;have e1:l[i]? =some l[i]:=zK h1;have e2:m[k]? =some m[k]:=zK h2;repeat first|(refine r_ ?_;simp[h1,h2])|refine q_ ?_
   refine Qa rfl (fun _=> ?_) (fun h=>by simp[h1,h2]at h);repeat first|(refine r_ ?_;simp)|refine q_ ?_
   refine Qm tOk mixed [] (.val 0 (.val 1 (.val 2 (.val 3 (.val 4 (.val 5 (.val 6 (.val 7 (.val 8 (.val 9 (.val 10 (.val 11 (.done))))))))))))) rfl (by kernel_rfl) ?_;simp[h1,h2];repeat first|(refine r_ ?_;simp)|refine q_ ?_
   refine Qm tOk mixed [] (.val 0 (.val 1 (.val 2 (.val 3 (.val 4 (.val 5 (.val 6 (.val 7 (.val 8 (.val 9 (.val 10 (.val 11 (.val 12 (.done)))))))))))))) rfl (by kernel_rfl) ?_;simp[h1,h2];refine Qa rfl (fun h=> ?_) (fun h=> ?_)
   ·have hle:max l[i].lo m[k].lo≤min l[i].hi m[k].hi:=by simp at h;omega
    rw[if_pos hle]at hI;rw[←hI];repeat first|(refine r_ ?_;simp)|refine q_ ?_
    rw[c1z];rfl
   ·have hle:¬max l[i].lo m[k].lo≤min l[i].hi m[k].hi:=by simp at h;omega
    rw[if_neg hle]at hI;repeat first|(refine r_ ?_;simp)|refine q_ ?_
    refine Qm tOk mixed [] (.val 0 (.val 1 (.val 2 (.val 3 (.val 4 (.val 5 (.val 6 (.val 7 (.val 8 (.val 9 (.val 10 (.done)))))))))))) rfl (by kernel_rfl) ?_;simp[h1,h2];refine Qa rfl (fun h=> ?_) (fun h=> ?_)
    ·rw[if_pos (by simpa using h)]at hI;repeat first|(refine r_ ?_;simp[hw])|refine q_ ?_
     refine Qc (sl':=[(0,LIv l),(1,LIv m),(6,.i (i+1:Nat)),(7,.i k)]) ?_ (by simp);exact ih (i+1,k) ⟨by omega,hk,by rw[xV h2];exact hI⟩ (by simp;omega)
    ·rw[if_neg (by simpa using h)]at hI;repeat first|(refine r_ ?_;simp[z1])|refine q_ ?_
     refine Qc (sl':=[(0,LIv l),(1,LIv m),(6,.i i),(7,.i (k+1:Nat))]) ?_ (by simp);exact ih (i,k+1) ⟨hi,by omega,by rw[xV h1];exact hI⟩ (by simp;omega)
  ·have h3:k=m.length:=by omega
   subst h3;repeat first|(refine r_ ?_;simp[h1])|refine q_ ?_
   refine Qa rfl (fun h=>by simp at h) (fun _=> ?_);repeat first|(refine r_ ?_;simp)|refine q_ ?_
   rw[xF,xV h1,Ct]at hI;rw[←hI];rfl
 ·have h3:i=l.length:=by omega
  subst h3;repeat first|(refine r_ ?_;simp)|refine q_ ?_
  refine Qa rfl (fun h=>by simp at h) (fun _=> ?_);repeat first|(refine r_ ?_;simp)|refine q_ ?_
  rw[xF,w0w]at hI;rw[←hI];rfl
def N5:Option Sy→AV
 |some x=> .tup [encSy x,.bool true]
 |none=> .tup [encSy ⟨0,0⟩,.bool false]
theorem q18(p q:Prd)(f t:Nat):lqB p q (f+1) t=match Jw (p.getD t []) (q.getD t [])with|some n=>some ⟨t,n⟩|none=>lqB p q f (t+1):=rfl
attribute [local irreducible] lqB Eh
theorem Sa(T:Nat)(p q:Prd)(hp:PWf T p)(hq:PWf T q)(z7:∀s∈p,s.length≤1000000000)(z8:∀s∈q,s.length≤1000000000)(hT:T≤1000):PC Tryz.prog 139 [encP p,encP q] (fun r=>r=N5 (Eh p q)):=by
 refine Qk tOk Tryz.func139 rfl Tryz.results139 rfl (by simp[Tryz.ntmps139]) ?_;rw[Tryz.ntmps139];simp only[Qg];simp only[encP];have zd:=hp.1;have ze:=hq.1;obtain⟨R,hR⟩:∃R,Eh p q=R:=⟨_,rfl⟩
 rw[hR];rw[←y2r hp hq]at hR;repeat first|(refine r_ ?_;simp)|refine q_ ?_
 refine Qt p.length (fun i=>lqB p q (T - i) i=R) (fun i=>[(2,.vptr 0 0),(3,.vptr 1 0),(4,.vptr 2 0),(11,.i p.length),(12,.i i)]) (fun _=>[.vars [.list (p.map encL)],.vars [.list (q.map encL)],.vars [.i 0,.i 0]]) rfl (by simp) (by simp) (by simp) (by simp) (by simpa using hR) ?_;intro i hi hI ih;repeat first|(refine r_ ?_;simp)|refine q_ ?_
 refine Qa rfl (fun za=> ?_) (fun zb=> ?_)
 ·have z1:i<p.length:=by simpa using za
  have z6:i<q.length:=by omega
  have hw:IntKind.i64.wrap ((i:Int)+1)=i+1:=wrap_i64 _ (by omega) (by omega);rw[show T - i=(T - (i+1))+1 by omega,q18,Wu z1,Wu z6]at hI;repeat first|(refine r_ ?_;simp)|refine q_ ?_
  refine Qm tOk mixed [] (.val 0 (.val 1 (.val 2 (.val 3 (.val 4 (.val 5 (.val 6 (.val 7 (.val 8 (.val 9 (.one 10 (.val 11 (.val 12 (.val 13 (.val 14 (.val 15 (.done))))))))))))))))) rfl (by kernel_rfl) ?_;simp[z1,z6];refine Qe rfl rfl (by simp) (y0z p[i] q[i] (z7 _ (zL z1)) (z8 _ (zL z6))) rfl ?_;rintro _ rfl;simp;cases hc:Jw p[i] q[i]with
  |some n=>
   rw[hc]at hI;simp[f1h];repeat first|(refine r_ ?_;simp)|refine q_ ?_
   refine Ql rfl ?_;repeat first|(refine r_ ?_;simp)|refine q_ ?_
   rw[←hI];rfl
  |none=>
   rw[hc]at hI;simp[f1h];repeat first|(refine r_ ?_;simp)|refine q_ ?_
   refine Ql rfl ?_;repeat first|(refine r_ ?_;simp[hw])|refine q_ ?_
   refine Qr _ (ih z1 hI) rfl (by simp) ?_ (by simp) (by simp);simp
 ·have zc:i=p.length:=by simp at zb;omega
  subst zc;repeat first|(refine r_ ?_;simp)|refine q_ ?_
  rw[show T - p.length=0 by omega]at hI;rw[←hI];unfold lqB;rfl
theorem Kp(x y:Sy):PC Tryz.prog 148 [encSy x,encSy y] (fun r=>r= .bool (Zg x y)):=by
 refine Qk tOk Tryz.func148 rfl Tryz.results148 rfl (by simp[Tryz.ntmps148]) ?_;rw[Tryz.ntmps148];simp only[Qg];simp only[encSy,Zg];by_cases h1:x.ty<y.ty
 ·repeat first|(refine r_ ?_;simp[h1])|refine q_ ?_
 ·by_cases h2:x.ty=y.ty
  ·repeat first|(refine r_ ?_;simp[h1,h2])|refine q_ ?_
  ·have hb:(x.ty==y.ty)=false:=by simpa using h2
   repeat first|(refine r_ ?_;simp[h1,h2,hb])|refine q_ ?_
theorem d0p(a:Aut)(i:Int):PC Tryz.prog 88 [encA a,.i i] (fun r=>r= .bool (decide (0≤i) && decide (i<a.fin.length))):=by
 refine Qk tOk Tryz.func88 rfl Tryz.results88 rfl (by simp[Tryz.ntmps88]) ?_;rw[Tryz.ntmps88];simp only[Qg];simp only[encA];by_cases h1:0≤i
 ·repeat first|(refine r_ ?_;simp[h1])|refine q_ ?_
 ·repeat first|(refine r_ ?_;simp[h1])|refine q_ ?_
end Go.Abs
namespace Go.Abs
open Go Go.Proofs Go.Maps Go.RowKit
attribute [local irreducible] Y6 Ny Wx S6 x1i
theorem F2(a:Aut):PC Tryz.prog 84 [encA a] (fun r=>r= .i (Tf a)):=by
 refine Qk tOk Tryz.func84 rfl Tryz.results84 rfl (by simp[Tryz.ntmps84]) ?_;rw[Tryz.ntmps84];simp only[Qg];simp only[encA];repeat first|(refine r_ ?_;simp)|refine q_ ?_
 refine Qe rfl rfl (by simp) (I9 a) rfl ?_;rintro _ rfl;simp;repeat first|(refine r_ ?_;simp)|refine q_ ?_
 refine Qa rfl (fun h=> ?_) (fun h=> ?_)
 ·repeat first|(refine r_ ?_;simp)|refine q_ ?_
  rw[Tf,if_pos (by simpa using h)]
 have h0:Wx a=0:=by simpa using h
 have z6:=(A8 a).1 h0;rw[Tf,if_neg (fun k=>k h0)];have hd:x1i a=(Ny a,0):=by unfold x1i;rw[if_pos h0]
 repeat first|(refine r_ ?_;simp)|refine q_ ?_
 refine Qe rfl rfl (by simp) (c1h a) rfl ?_;rintro _ rfl;simp[hd];cases hs:Ny a with
 |false=>
  repeat first|(refine r_ ?_;simp[hs])|refine q_ ?_
  refine Ql rfl ?_;repeat (first|(refine r_ ?_;simp)|refine q_ ?_)
 |true=>
  repeat first|(refine r_ ?_;simp[hs])|refine q_ ?_
  refine Ql rfl ?_;repeat first|(refine r_ ?_;simp)|refine q_ ?_
  refine Qe rfl rfl (by simp) (F6 a) rfl ?_;rintro _ rfl;simp;have z1:=g1a z6;generalize S6 a=c at *
  by_cases he:c.1=0
  ·by_cases hl:c.2.fin.length=a.fin.length
   ·rw[z1.1 ⟨he,hl⟩];repeat first|(refine r_ ?_;simp[he,hl])|refine q_ ?_
    refine Ql rfl ?_;repeat first|(refine r_ ?_;simp)|refine q_ ?_
   ·have hf:Y6 a=false:=by
     cases hf:Y6 a
     ·rfl
     ·exact absurd (z1.2 hf).2 hl
    have z7:((c.2.fin.length:Int) != a.fin.length)=true:=by simp;omega
    have z8:¬(c.2.fin.length:Int)=a.fin.length:=by omega
    rw[hf];repeat first|(refine r_ ?_;simp[he,z7,z8,hl])|refine q_ ?_
    refine Ql rfl ?_;repeat first|(refine r_ ?_;simp)|refine q_ ?_
  ·have hf:Y6 a=false:=by
    cases hf:Y6 a
    ·rfl
    ·exact absurd (z1.2 hf).1 he
   have za:(c.1 != 0)=true:=by simpa using he
   rw[hf];repeat first|(refine r_ ?_;simp[za])|refine q_ ?_
   refine Ql rfl ?_;repeat first|(refine r_ ?_;simp)|refine q_ ?_
end Go.Abs
