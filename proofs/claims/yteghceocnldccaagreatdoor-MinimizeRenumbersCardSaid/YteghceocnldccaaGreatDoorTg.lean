/- Part Tg of the proof: an abstract machine over the model, and what the functions of the program hand back in its terms. No condition. -/
import Derived.Test.YteghceocnldccaaGreatDoorTf
import Derived.Test.YteghceocnldccaaGreatDoorTe
set_option linter.all false
open List renaming mem_map→zX,mem_of_getElem?→zL,getElem?_set_ne→zH,getElem?_set_self→zU,getElem?_append_right→zO,getElem?_append_left→zI,getElem_mem→zT,getElem?_eq_getElem→zP,getElem?_eq_some_iff→zE,any_eq_false→vM,take_succ_eq_append_getElem→z_,length_cons→y_,length_take→wD,mem_append→yE,mem_of_mem_take→ww,foldl_append→vz,append_assoc→xZ,take_of_length_le→zZ,mem_singleton→zW,getElem?_eq_none→xA,findIdx?_eq_some_iff_getElem→xO,findIdx?_eq_none_iff→vE,getElem_of_mem→xG,range→yW,take_length→xD,range_succ→wT,foldl_cons→xY,length_append→yS,mem_or_eq_of_mem_set→wJ,getD→yV,mem_cons→yL,not_mem_nil→uh,map_append→xF,length_map→yP,append_nil→xS,cons_append→uv,mem_append_left→xL,pairwise_iff_getElem→yU,pairwise_append→yR,perm_middle→vQ,take_append_drop→wd,mem_iff_getElem?→yQ,pairwise_cons→yX,mem_filter→xV,pairwise_map→wS,nodup_append→vT,mem_range→xH,map_cons→xI,sum_cons→uE,ext_getElem→wN,find?_eq_none→ue,find?_some→tU,mem_of_find?_eq_some→ug,replicate→yB,all_eq_true→yH,drop_eq_getElem_cons→vA,drop_length→wn
open Nat renaming le_refl→zV,lt_trichotomy→vS,zero_le→wK
open Prod renaming ext→t8
open Option renaming getD_some→wH,bind_some→wG
open Bool renaming and_eq_true→yT
open Int renaming le_refl→xB,lt_or_le→sm
set_option maxHeartbeats 8000000
set_option linter.unusedSimpArgs false
set_option maxRecDepth 100000
namespace Go.Abs
open Go Go.Proofs Go.Maps
attribute [simp] T94 T88
abbrev LQ (Q:List (List Int)):List AV:=Q.map fun l=>LI l
structure TB (r p m:Nat) (a:Aut) (cl:List Prd) (Q:List (List Int)) (H:List AObj):Prop where
 t:H[r]? =some (.vars [.i a.types,.list (a.fin.map .bool),.list (a.mv.map encMv),LP cl,.sl p 1 0 Q.length,.mref m])
 s:H[p]? =some (.arr 40 1 (LQ Q))
 n:H[m]? =some (mpT (Q.map Ry))
def Aw(x:List Int):Prop:=x≠[]∧x.length≤256∧∀z∈x,0≤z∧z≤1000000
def x00(Q:List (List Int))(x:List Int):List (List Int):=if x∈Q then Q else Q++[x]
theorem TB.keep{r p m:Nat}{a:Aut}{cl:List Prd}{Q:List (List Int)}{H H':List AObj}(h:TB r p m a cl Q H)(hk:∀j,(j=r∨j=p∨j=m)→H'[j]? =H[j]?):TB r p m a cl Q H':=
 ⟨(hk r (.inl rfl)).trans h.t,(hk p (.inr (.inl rfl))).trans h.s,(hk m (.inr (.inr rfl))).trans h.n⟩
theorem TB.ne{r p m:Nat}{a:Aut}{cl:List Prd}{Q:List (List Int)}{H:List AObj}(h:TB r p m a cl Q H):r≠p∧r≠m∧p≠m:=by
 refine⟨fun e=> ?_,fun e=> ?_,fun e=> ?_⟩
 ·have h1:=h.t;rw[e,h.s]at h1;simp at h1
 ·have h1:=h.t;rw[e,h.n,E4]at h1;simp at h1
 ·have h1:=h.s;rw[e,h.n,E4]at h1;simp at h1
theorem Aw.rng{x:List Int}(h:Aw x):∀z∈x,-9223372036854775808≤z∧z≤9223372036854775807:=fun z hz=>by have:=h.2.2 z hz;omega
theorem Ft{x:List Int}(h:Aw x):(Ry x).length≤1000000:=by have:=Ma h.rng;have:=h.2.1;omega
theorem d1q{x:List Int}{Q:List (List Int)}(hQ:∀l∈Q,Aw l)(hx:Aw x):Ry x∈Q.map Ry↔x∈Q:=by refine⟨fun h=> ?_,fun h=>zX.2 ⟨x,h,rfl⟩⟩;obtain⟨l,hl,e⟩:=zX.1 h;rw[←Zd (fun z hz=>((hQ l hl).2.2 z hz).1) (fun z hz=>(hx.2.2 z hz).1) e];exact hl
attribute [local irreducible] mpT Ry
theorem Bo(H:List AObj)(r p m:Nat)(a:Aut)(cl:List Prd)(Q:List (List Int))(x:List Int)(h:TB r p m a cl Q H)(hx:Aw x)(hQ:∀l∈Q,Aw l)(zg:Q.length≤100000):
  FC Tryz.prog 57 [.vptr r 0,LI x] H (fun res H'=>∃(j p':Nat),res= .i j∧(x00 Q x)[j]? =some x∧TB r p' m a cl (x00 Q x) H'∧(p'=p∨H.length≤p')∧H.length≤H'.length∧(x∈Q→H'=H)∧∀i,i<H.length→i≠r→i≠p→i≠m→H'[i]? =H[i]?):=by
 refine W5 tOk Tryz.func57 rfl Tryz.results57 rfl (by simp[Tryz.ntmps57]) ?_;rw[Tryz.ntmps57];simp only[Qf];repeat first|(refine r_ ?_;simp)|refine q_ ?_
 refine Qe rfl rfl (by simp) (k1u x hx.rng (by have:=hx.2.1;omega) hx.1) rfl ?_;rintro _ rfl;simp;have ht:=h.t;have hn:=h.n;have hs:=h.s;obtain⟨n1,n2,n3⟩:=h.ne;repeat first|(refine r_ ?_;simp[ht])|refine q_ ?_
 have z8:∀k∈Q.map Ry,k.length≤1000000:=fun k hk=>by obtain⟨l,hl,rfl⟩:=zX.1 hk;exact Ft (hQ l hl)
 refine Fh (n:=Ry x) rfl rfl rfl rfl rfl hn z8 (Ft hx) (fun j hj=> ?_) (fun za=> ?_)
 ·have zb:Q[j]? =some x:=by rw[List.getElem?_map]at hj;obtain⟨l,hl,e⟩:=Option.map_eq_some_iff.1 hj;rw[←Zd (fun z hz=>((hQ l (zL hl)).2.2 z hz).1) (fun z hz=>(hx.2.2 z hz).1) e];exact hl
  have z1:x00 Q x=Q:=by rw[x00,if_pos (zL zb)]
  rw[z1];simp;repeat first|(refine r_ ?_;simp)|refine q_ ?_
  refine Qm rfl ?_;simp;repeat first|(refine r_ ?_;simp)|refine q_ ?_
  exact⟨j,rfl,zb,p,h,.inl rfl⟩
 ·have zc:x∉Q:=fun hm=>za ((d1q hQ hx).2 hm);have z1:x00 Q x=Q++[x]:=by rw[x00,if_neg zc]
  rw[z1];have ze:(Q.map Ry).length=Q.length:=by simp
  simp;repeat first|(refine r_ ?_;simp)|refine q_ ?_
  refine Qm rfl ?_;simp;repeat first|(refine r_ ?_;simp[ht])|refine q_ ?_
  refine Jx (n:=Ry x) rfl rfl rfl rfl rfl (ks:=Q.map Ry) (by rw[ze];rfl) hn z8 (Ft hx) za ?_;simp;have z6:=Qc (Ne.symm n2) ht (mpT (Q.map Ry++[Ry x]));have z7:=Qc (Ne.symm n3) hs (mpT (Q.map Ry++[Ry x]));have zd:=Qg hn (mpT (Q.map Ry++[Ry x]));have zf:∀i,i≠m→(H.set m (mpT (Q.map Ry++[Ry x])))[i]? =H[i]? :=fun i hi=>zH (Ne.symm hi);have zh:(H.set m (mpT (Q.map Ry++[Ry x]))).length=H.length:=by simp
  generalize H.set m (mpT (Q.map Ry++[Ry x]))=G at *
  repeat first|(refine r_ ?_;simp[z6])|refine q_ ?_
  have g1:∀L,(G.set p .dead++L)[r]? =some (.vars [.i a.types,.list (a.fin.map .bool),.list (a.mv.map encMv),LP cl,.sl p 1 0 Q.length,.mref m]):=fun L=>Qb (Qc (Ne.symm n1) z6 _) L;refine Qh tOk rfl rfl T28 rfl T40 rfl (by decide) (by decide) rfl rfl rfl ?_;simp[Qb z7,Qj z7,Qb z6,g1];refine⟨by simp[Wp,Qb z7,Qj z7,Qb z6,g1]<;>omega,?_⟩;repeat first|(refine r_ ?_;simp[g1])|refine q_ ?_
  have zi:=Qi z6;have zj:=Qi z7;have zk:=Qi zd;refine⟨Q.length,rfl,by simp,G.length+1,⟨?_,?_,?_⟩,.inr (by omega),by omega,fun h=>absurd h zc,fun i hi h1 h2 h3=> ?_⟩
  ·rw[zU (by simp;omega)];simp
  ·rw[zH (by omega),zO (by simp)];simp[LQ]
  ·rw[zH n2,zI (by simp;omega),zH n3,zd];simp
  ·rw[zH (Ne.symm h1),zI (by simp;omega),zH (Ne.symm h2)];exact zf i h3
end Go.Abs
namespace Go.Abs
open Go Go.Proofs Go.Maps
theorem Aa(H:List AObj)(r:Nat)(x:List Int):FC Tryz.prog 56 [.vptr r 0,LI x] H (fun res H'=>res= .fn (.func 120) [] [.vptr H.length 0,.vptr (H.length+1) 0]∧H'=H++[.vars [.vptr r 0],.vars [LI x]]):=by refine W5 tOk Tryz.func56 rfl Tryz.results56 rfl (by simp[Tryz.ntmps56]) ?_;rw[Tryz.ntmps56];simp only[Qf];repeat first|(refine r_ ?_;simp)|refine q_ ?_
attribute [local irreducible] Wa Qo
theorem Mc (a:Aut) (ha:OkA a) (cl:List Prd) (set:List Int) (zg:∀c∈cl,Hq [c]=0∧Wo c=false∧Eo a (Qo c)) (zn:cl.length≤256) (q c1 c2 r:Nat) {z7:Nat} {sl':List (Nat×AV)} {ps:List Tmp} {asg body:Code} (zh:ps.length=2) (zi:(ps.all fun p=>decide (p<z7))=true)
  (Inv:Nat→List AObj→Prop)
  (hI:∀k H,Inv k H→H[q]? =some (.lp true none z7 sl' ps asg body)∧H[c1]? =some (.vars [.vptr r 0])∧H[c2]? =some (.vars [LI set])∧∃rest,H[r]? =some (.vars (.i a.types:: .list (a.fin.map .bool):: .list (a.mv.map encMv)::LP cl::rest)))
  (z8:∀k H L,Inv k H→Inv k (H++L))
  (za:∀k c H,cl[k]? =some c→Wa a set (Qo c)=[]→Inv k H→Inv (k+1) H)
  (z1:∀k c H,cl[k]? =some c→Wa a set (Qo c)≠[]→Inv k H→AWP Tryz.prog z7 H.length asg (Ah (AWP Tryz.prog z7 H.length body (v0j q (fun jm K2=>jm=none∧Inv (k+1) (K2.set q (.lp true none z7 sl' ps asg body))))) (fun _ _=>False)) ⟨Ty sl' ps [encP c,LI (Wa a set (Qo c))],H.set q .dead⟩)
  (H0:List AObj) (h0:Inv 0 H0):FC Tryz.prog 120 [.yld q,.vptr c1 0,.vptr c2 0] H0 (fun _ H'=>Inv cl.length H'):=by
 refine W5 tOk Tryz.func120 rfl Tryz.results120 rfl (by simp[Tryz.ntmps120]) ?_;rw[Tryz.ntmps120];simp only[Qf];obtain⟨i1,i2,i3,rest,i4⟩:=hI 0 H0 h0;repeat first|(refine r_ ?_;simp[i2,i4])|refine q_ ?_
 refine Qr (Qd (sl':=[(0,.yld q),(1,.vptr c1 0),(2,.vptr c2 0),(12,LP cl),(13,.i cl.length),(14,.i (0:Nat))]) ?_ (by simp));clear i1 i2 i3 i4;clear rest;refine Qq (F:=fun(u:Nat×List AObj)=>⟨[(0,.yld q),(1,.vptr c1 0),(2,.vptr c2 0),(12,LP cl),(13,.i cl.length),(14,.i u.1)],u.2⟩)
  (fun u=>u.1≤cl.length∧Inv u.1 u.2) (fun u=>cl.length - u.1) ?_ (0,H0) ⟨by simp,h0⟩
 rintro⟨k,H⟩ ⟨hk,hv⟩ ih;simp only at hk hv ih ⊢;repeat first|(refine r_ ?_;simp)|refine q_ ?_
 refine Qa rfl (fun zj=> ?_) (fun zk=> ?_)
 ·have z6:k<cl.length:=by simpa using zj
  have hw:IntKind.i64.wrap ((k:Int)+1)=k+1:=wrap_i64 _ (by omega) (by omega);have zc:=zg _ (zT z6);have zb:cl[k]? =some cl[k]:=zP z6;repeat first|(refine r_ ?_;simp[z6])|refine q_ ?_
  generalize cl[k]=c at *;refine Qe rfl rfl (by simp) (z0i c zc.1 zc.2.1) rfl ?_
  rintro _ rfl;simp;repeat first|(refine r_ ?_;simp)|refine q_ ?_
  have zd:=z8 k H [.vars [.list (c.map encL)],.vars [.i (Qo c).ty,.i (Qo c).num]] hv;obtain⟨i1,i2,i3,rest,i4⟩:=hI k _ zd;have h6:(H++[AObj.vars [.list (c.map encL)],.vars [.i (Qo c).ty,.i (Qo c).num]])[H.length+1]? =some (.vars [.i (Qo c).ty,.i (Qo c).num]):=by rw[zO (by omega)];simp
  have h5:(H++[AObj.vars [.list (c.map encL)],.vars [.i (Qo c).ty,.i (Qo c).num]])[H.length]? =some (.vars [.list (c.map encL)]):=by rw[zO (by omega)];simp
  generalize H++[AObj.vars [.list (c.map encL)],.vars [.i (Qo c).ty,.i (Qo c).num]]=G at *;refine Qk tOk mixed [] (.val 0 (.val 1 (.val 2 (.val 3 (.val 4 (.val 5 (.one 6 (.val 7 (.done))))))))) rfl (by kernel_rfl) ?_
  simp[i2,i3,i4,h6];refine Qe rfl rfl (by simp) (Cu a ha set (Qo c) zc.2.2) rfl ?_;rintro _ rfl;simp;have hlen:=Zf ha set (Qo c);have zl:=za k c G zb;have zm:=z1 k c G zb;generalize Wa a set (Qo c)=nx at *
  by_cases hnx:nx=[]
  ·subst hnx;repeat first|(refine r_ ?_;simp[h5])|refine q_ ?_
   refine Q6 rfl rfl ?_;simp;repeat first|(refine r_ ?_;simp)|refine q_ ?_
   refine Qa rfl (fun h=>by cases h) (fun _=> ?_);repeat first|(refine r_ ?_;simp[hw])|refine q_ ?_
   refine Qd (sl':=[(0,.yld q),(1,.vptr c1 0),(2,.vptr c2 0),(12,LP cl),(13,.i cl.length),(14,.i (k+1:Nat))]) ?_ (by simp);exact ih (k+1,G) ⟨by omega,zl rfl zd⟩ (by omega)
  ·have ze:0<nx.length:=List.length_pos_iff.2 hnx;repeat first|(refine r_ ?_;simp[h5,ze])|refine q_ ?_
   refine Pf rfl rfl (q:=q) rfl rfl i1 zh zi rfl (fun jm K2=>jm=none∧Inv (k+1) (K2.set q (.lp true none z7 sl' ps asg body))) ?_ ?_
   ·exact zm hnx zd
   ·rintro jm K2 ⟨rfl,hK⟩;simp;repeat first|(refine r_ ?_;simp)|refine q_ ?_
    refine Qa rfl (fun h=>by cases h) (fun _=> ?_);repeat first|(refine r_ ?_;simp[hw])|refine q_ ?_
    refine Qd (sl':=[(0,.yld q),(1,.vptr c1 0),(2,.vptr c2 0),(12,LP cl),(13,.i cl.length),(14,.i (k+1:Nat))]) ?_ (by simp);exact ih (k+1,_) ⟨by omega,hK⟩ (by omega)
 ·have zf:k=cl.length:=by simp at zk;omega
  subst zf;repeat first|(refine r_ ?_;simp)|refine q_ ?_
  exact hv
end Go.Abs
namespace Go.Abs
open Go Go.Proofs Go.Maps Go.RowKit
section
variable {P:Program} [Env P] {T:TT} {nt k:Nat} {S:AS} {ops:Array Oper} {o:Oper} {R:AS→Prop} {Q:Exit→AS→Prop}
theorem Kw {wr:Bool} {sl:List (Nat×AV)} {H:List AObj} (i j e sz:Nat) {xs:List AV} (hi:H[i]? =some (.vars xs)) (hj:xs[j]? =some .nils)
  (h:Wq P nt k wr ops o ⟨sl,(H++[AObj.arr e sz []]).set i (.vars (xs.set j (.sl H.length sz 0 0)))⟩ R):Wq P nt k wr ops o ⟨sl,H⟩ R:=fun C a w K Q' hs=>by
 obtain⟨I,m,hw,z1,hk,hf⟩:=hs;obtain⟨g1,g2⟩:=hw.push (Below.refl _ _) none (fun b e=>by cases e) (.arr e sz []) (fun m' _ _=> .inl ⟨rfl,rfl⟩);have z8:i<H.length:=(zE.1 hi).1;have z6:(H++[AObj.arr e sz []])[i]? =some (.vars xs):=by rw[zI z8];exact hi
 obtain⟨b,t,vs,hb,hh,za,hr⟩:=g1.obj i _ z6;obtain⟨g3,g4⟩:=g1.set (w':=w) (o':= .vars (xs.set j (.sl H.length sz 0 0))) z6 rfl hb (World.grownBy.refl _ _) (fun _ h=>h) (fun m' z7=>⟨b,t,vs,rfl,hh,by simp[za],fun q v x hv hx=>by
  by_cases hq:j=q
  ·subst hq;rw[zU (zE.1 hj).1]at hx;cases hx;have:=(hr j v _ hv hj).nils_inv;subst this;exact .slnone H.length sz (by simp) (by rw[z7.ids _ (by simp)];exact Wc ..)
  ·rw[zH hq]at hx;exact(hr q v x hv hx).mono z7 (zV _)⟩)
 have hlen:((H++[AObj.arr e sz []]).set i (.vars (xs.set j (.sl H.length sz 0 0)))).length=H.length+1:=by simp
 refine h C a w K Q' ⟨I,upd m H.length none,g3,⟨z1.1,z1.2.1,fun s x hx=> ?_⟩,by simp at hk ⊢;omega,hf.trans hk g2⟩;obtain⟨v,hv,zb⟩:=z1.2.2 s x hx;refine⟨v,hv,?_⟩;have:=zb.mono (n':=H.length+1) g2 (by simp);rw[hlen];exact this
end
theorem Cc{a:Aut}(h:OkA a)(hm:(Ee a.types (onA a)).1=0):∃cl,Ee a.types (onA a)=(0,cl)∧Cls a cl∧cl.length≤256∧∀c∈cl,Hq [c]=0∧Wo c=false∧Eo a (Qo c)∧PWf a.types.toNat c∧∀s∈c,s.length≤256:=by
 have hc:=x1c h;have za:a.mv.map (·.on)=onA a:=rfl;rw[za]at hc;have z7:=Jt h;have zb:=f0p a.types (onA a);rcases x08 h.types z7 with h5|h5
 ·omega
 ·refine⟨_,h5,hc,?_⟩;have hb:Sf (Q5 a.types.toNat (onA a))=false:=by
   cases hb:Sf (Q5 a.types.toNat (onA a))with
   |false=>rfl
   |true=>
    rw[←zb,f0t]at hm;rw[if_neg (by have:=h.types;omega)]at hm;have hl:(onA a).length≤256:=by
     by_cases hl:256<(onA a).length
     ·rw[if_pos hl]at hm;simp at hm
     ·omega
    rw[if_neg (by omega),if_neg (fun k=>k ((Yk _).2 fun p hp=>(W6 _ p).2 ⟨h.types,z7 p hp⟩)),hb]at hm;simp at hm
  simp only[Sf,Bool.or_eq_false_iff,decide_eq_false_iff_not,vM,decide_eq_true_eq]at hb;refine⟨by omega,fun c z1=> ?_⟩;have hw:=hc.wf c z1;have z8:∀s∈c,s.length≤256:=fun s hs=>by have:=hb.2 c z1;simp only[Bool.not_eq_true,vM,decide_eq_true_eq]at this;have:=this s hs;omega
  have z6:E2 a.types c=0:=(W6 _ c).2 ⟨h.types,hw.1.1,fun s hs=>Fu (hw.1.2 s hs).1 (q0t (hw.1.2 s hs).1 (hw.1.2 s hs).2) (by have:=z8 s hs;omega)⟩;refine⟨(x1n z6).1,?_,z1g hc z1,hw.1,z8⟩;rw[Bool.eq_false_iff];intro hv;obtain⟨ty,y,hy⟩:=hw.2;exact(Tr hw.1).1 hv ty y hy
theorem w1p(a:Aut)(k:Nat)(h:k<a.mv.length):(onA a).take (k+1)=(onA a).take k++[a.mv[k].on]:=by rw[z_ (by simpa[onA]using h)];simp[onA]
theorem Ld(a:Aut):(onA a).length=a.mv.length:=by simp[onA]
theorem C9:∀(xs:List (List Int)) (Q:List (List Int)),(roundS Q xs).length≤Q.length+xs.length
 |[],Q=>by simp[roundS]
 |x::xs,Q=>by
  have h:=C9 xs (addS Q x);have e:roundS Q (x::xs)=roundS (addS Q x) xs:=rfl;have h2:(addS Q x).length≤Q.length+1:=by unfold addS;split<;>simp
  rw[e,y_];omega
theorem q0d{a:Aut}(z1:OkA a){Q:List (List Int)}(hQ:∀l∈Q,Aw l)(z8:Q.length≤256){cl:List Prd}(za:cl.length≤256){l:List Int}(k:Nat):
  (∀y∈roundS Q ((succS a cl l).take k),Aw y)∧(roundS Q ((succS a cl l).take k)).length≤600:=by
 have hlen:=C9 ((succS a cl l).take k) Q;have z6:(succS a cl l).length=cl.length:=by simp[succS]
 rw[wD,z6]at hlen;refine⟨fun y hy=> ?_,by omega⟩;obtain⟨R,hR,z7⟩:=Yi ((succS a cl l).take k) Q;rw[hR]at hy;rcases yE.1 hy with hy|hy
 ·exact hQ y hy
 ·obtain⟨h1,h2⟩:=z7 y hy;obtain⟨c,_,rfl⟩:=zX.1 (ww h1);have:=z1.fin;exact⟨h2,Zf z1 _ _,fun z hz=>by have:=U7 z hz;omega⟩
theorem Kd(Q xs:List (List Int))(x:List Int):roundS Q (xs++[x])=addS (roundS Q xs) x:=by unfold roundS;rw[vz];rfl
theorem j0d{Q:List (List Int)}{x:List Int}(h:x≠[]):addS Q x=x00 Q x:=by
 unfold addS x00;by_cases hx:x∈Q
 ·rw[if_pos (.inr hx),if_pos hx]
 ·rw[if_neg (by simp[h,hx]),if_neg hx]
theorem w1z(Q:List (List Int)):addS Q []=Q:=by unfold addS;simp
attribute [local irreducible] Wa Qo Ee onA mpT Ry
theorem y0l(H:List AObj)(a:Aut):FC Tryz.prog 50 [encA a] H (fun res H'=>(∀j,j<H.length→H'[j]? =H[j]?)∧(((Yz a).1≠0∧res= .tup [.nilp,.i (Yz a).1])∨
  ((Yz a).1=0∧∃r p m,res= .tup [.vptr r 0,.i 0]∧TB r p m a (Yz a).2.1 (Yz a).2.2 H'∧H.length≤r∧H.length≤p∧H.length≤m))):=by
 refine W5 tOk Tryz.func50 rfl Tryz.results50 rfl (by simp[Tryz.ntmps50]) ?_;rw[Tryz.ntmps50];simp only[Qf];simp only[encA];repeat first|(refine r_ ?_;simp)|refine q_ ?_
 have b0:∀L,(H++[AObj.vars (Wb a)]++L)[H.length]? =some (.vars (Wb a)):=fun L=>by rw[xZ,zO (by omega)];simp
 refine Qe rfl rfl (by simp) (Yt a) rfl ?_;rintro _ rfl;simp;repeat first|(refine r_ ?_;simp)|refine q_ ?_
 refine Qa rfl (fun h=> ?_) (fun h=> ?_)
 ·have h':Wf a≠0:=by simpa using h
  have hs:Yz a=(Wf a,[],[]):=B0 h';rw[hs];repeat first|(refine r_ ?_;simp)|refine q_ ?_
  exact⟨fun j hj=>zI hj,h'⟩
 have h0:Wf a=0:=by simpa using h
 have z7:=(Yy a).1 h0;have ym:=z7.fin;have yn:=z7.mvs;repeat first|(refine r_ ?_;simp)|refine q_ ?_
 refine Wg 5 76 1 rfl ?_;simp;obtain⟨G0,zg⟩:∃G0,G0=H++[AObj.vars (Wb a)]:=⟨_,rfl⟩
 have y4:G0[H.length]? =some (.vars (Wb a)):=by rw[zg];simp
 have zh:G0.length=H.length+1:=by rw[zg];simp
 have y5:∀j,j<H.length→G0[j]? =H[j]? :=fun j hj=>by rw[zg];exact zI hj
 have y6:=SL.start G0 76 1;refine Qr (Qd (sl':=[(1,.vptr H.length 0),(5,.sl G0.length 1 0 (0:Nat)),(20,.list (a.mv.map encMv)),(21,.i a.mv.length),(22,.i (0:Nat))]) ?_ (by simp[zh]));refine Qq (F:=fun(u:Nat×Nat×List AObj)=>⟨[(1,.vptr H.length 0),(5,.sl u.2.1 1 0 u.1),(20,.list (a.mv.map encMv)),(21,.i a.mv.length),(22,.i u.1)],u.2.2⟩)
  (fun u=>u.1≤a.mv.length∧SL G0 u.2.2 u.2.1 76 1 (((onA a).take u.1).map encP)) (fun u=>a.mv.length - u.1) ?_ (0,G0.length,_) ⟨by simp,by simp only[List.take_zero,List.map_nil];rw[zg]at y6 ⊢;simpa using y6⟩
 rintro⟨j,q,E⟩ ⟨hj,s1⟩ ih;simp only at hj s1 ih ⊢;repeat first|(refine r_ ?_;simp)|refine q_ ?_
 refine Qa rfl (fun zq=> ?_) (fun zr=> ?_)
 ·have z1:j<a.mv.length:=by simpa using zq
  have hw:IntKind.i64.wrap ((j:Int)+1)=j+1:=wrap_i64 _ (by omega) (by omega);have za:=w1p a j z1;have y7:((onA a).take j).length=j:=by rw[wD,Ld];omega
  have y8:=fun q' E'=>ih (j+1,q',E');simp only[za]at y8;clear za;generalize (onA a).take j=acc at *
  repeat first|(refine r_ ?_;simp[z1])|refine q_ ?_
  generalize a.mv[j]=mm at *;refine Qh tOk rfl rfl T91 rfl T76 rfl (by decide) (by decide) rfl rfl rfl ?_
  simp[Qb s1.arr,Qj s1.arr,y7];refine⟨by simp[Wp,Qb s1.arr,Qj s1.arr,y7]<;>omega,?_⟩;repeat first|(refine r_ ?_;simp[hw])|refine q_ ?_
  refine Qd (sl':=[(1,.vptr H.length 0),(5,.sl (E.length+2) 1 0 (j+1)),(20,.list (a.mv.map encMv)),(21,.i a.mv.length),(22,.i (j+1:Nat))]) ?_ (by simp);have:=y8 (E.length+2) _ ⟨by omega,s1.put [AObj.vars [AV.i mm.src,AV.i mm.dst,AV.list (mm.on.map encL)],AObj.arr 76 1 [encP mm.on]] ((acc++[mm.on]).map encP) rfl⟩ (by omega);simpa using this
 ·have zi:j=a.mv.length:=by simp at zr;omega
  subst zi;rw[zZ (by rw[Ld];omega)]at s1;refine Wl q s1.arr ?_;simp[Ld];rw[zZ (by simp[Ld])];have yo:=s1.ge;have yp:=s1.le;have zj:(E.set q .dead)[H.length]? =some (.vars (Wb a)):=by rw[zH (by omega),s1.keep _ (by omega)];exact y4
  have zu:∀i,i<H.length→(E.set q .dead)[i]? =H[i]? :=fun i hi=>by rw[zH (by omega),s1.keep _ (by omega)];exact y5 i hi
  have y9:H.length<(E.set q .dead).length:=Qi zj;generalize E.set q .dead=E1 at *;clear s1 yp yo ih
  repeat first|(refine r_ ?_;simp[zj])|refine q_ ?_
  refine Qe rfl rfl (by simp) (Np a.types (onA a)) rfl ?_;rintro _ rfl;simp;repeat first|(refine r_ ?_;simp)|refine q_ ?_
  refine Qa rfl (fun h3=> ?_) (fun h3=> ?_)
  ·have zm:(Ee a.types (onA a)).1≠0:=by simpa using h3
   have hs:Yz a=((Ee a.types (onA a)).1,[],[]):=by rw[Yz,if_neg (fun k=>k h0),if_pos zm]
   rw[hs];repeat first|(refine r_ ?_;simp)|refine q_ ?_
   exact⟨zu,zm⟩
  have zm:(Ee a.types (onA a)).1=0:=by simpa using h3
  obtain⟨cl,ya,yq,zc,zv⟩:=Cc z7 zm;rw[ya];repeat first|(refine r_ ?_;simp[zj])|refine q_ ?_
  refine Rv rfl rfl rfl ?_;simp;repeat first|(refine r_ ?_;simp)|refine q_ ?_
  refine Ek (E1.length+3) (e:=3) (c:=1) (xs:=[.i 0]) (by rw[zO (by omega)];simp) ?_;simp;refine Kw (E1.length+1) 4 40 1 (xs:=[.i a.types,.list (a.fin.map .bool),.list (a.mv.map encMv),LP cl,.nils,.mref E1.length]) (by rw[zO (by omega)];simp) rfl ?_;refine Hc fun Z hZ=> ?_;have yr:Z.length=E1.length+5:=by rw[hZ];simp
  have z0:Z[H.length]? =some (.vars (Wb a)):=by rw[hZ,zH (by omega),xZ,zI y9];exact zj
  have zk:∀i,i<H.length→Z[i]? =H[i]? :=fun i hi=>by rw[hZ,zH (by omega),xZ,zI (by omega)];exact zu i hi
  have zt:TB (E1.length+1) (E1.length+4) E1.length a cl [] Z:=by
   refine⟨?_,?_,?_⟩
   ·rw[hZ,zU (by simp)];simp
   ·rw[hZ,zH (by omega),zO (by simp)];simp[LQ]
   ·rw[hZ,zH (by omega),xZ,zO (by omega)];simp[E4]
  have zb:Z[E1.length+2]? =some (.vars [.vptr (E1.length+1) 0]):=by rw[hZ,zH (by omega),xZ,zO (by omega)];simp
  clear hZ;have yc:Aw [0]:=⟨by simp,by simp,fun z hz=>by simp at hz;omega⟩
  refine Q4 rfl rfl (Bo Z _ _ _ a cl [] [0] zt yc (fun l hl=>by simp at hl) (by simp)) rfl ?_;rintro res Y ⟨j0,p,rfl,yd,ht,yt,yu,-,zn⟩;have zw:x00 [] [0]=[[0]]:=by simp[x00]
  rw[zw]at ht;simp;repeat first|(refine r_ ?_;simp)|refine q_ ?_
  have y0:=(zn H.length (by omega) (by omega) (by omega) (by omega)).trans z0;have yk:∀i,i<H.length→Y[i]? =H[i]? :=fun i hi=>(zn i (by omega) (by omega) (by omega) (by omega)).trans (zk i hi);have yb:=(zn _ (by omega) (by omega) (by omega) (by omega)).trans zb;have ze:H.length≤p:=by omega
  have yv:H.length≤E1.length+1:=by omega
  have xh:H.length≤E1.length+2:=by omega
  have yw:H.length≤E1.length:=by omega
  refine Qx (sl':=[(10,.vptr (E1.length+2) 0),(11,.i (0:Nat))]) ?_ (by simp);clear zt z0 zk zb zn yr yu yd yt zj zu y9 y4 zh y5 zg;generalize E1.length+1=r at *;generalize E1.length+2=b at *;generalize E1.length=m at *
  have z6:Yz a=match Zx a cl 257 0 [[0]]with
    |none=>(5,[],[])
    |some Q=>(0,cl,Q):=by
   rw[Yz,if_neg (fun k=>k h0),ya];rfl
  refine Qr (Qd (sl':=[(10,.vptr b 0),(11,.i (0:Nat))]) ?_ (by simp));refine Qq (F:=fun(u:Nat×Nat×List (List Int)×List AObj)=>⟨[(10,.vptr b 0),(11,.i u.1)],u.2.2.2⟩)
   (fun u=>u.1≤u.2.2.1.length∧u.2.2.1.length≤256∧TB r u.2.1 m a cl u.2.2.1 u.2.2.2∧H.length≤u.2.1∧u.2.2.2[b]? =some (.vars [.vptr r 0])∧(∀i,i<H.length→u.2.2.2[i]? =H[i]?)∧(∀l∈u.2.2.1,Aw l)∧Zx a cl 257 0 [[0]]=Zx a cl (257 - u.1) u.1 u.2.2.1) (fun u=>257 - u.1) ?_ (0,p,[[0]],Y) ⟨by simp,by simp,ht,ze,yb,yk,fun l hl=>by rw[zW.1 hl];exact yc,rfl⟩
  clear ht ze yb yk y0;clear Y;rintro⟨i,p,Q,Y⟩ ⟨hi,zx,ht,ze,yb,yk,hQ,z8⟩ ih;simp only at hi zx ht ze yb yk hQ z8 ih ⊢;have ye:=ht.t;repeat first|(refine r_ ?_;simp[yb,ye])|refine q_ ?_
  refine Qa rfl (fun zq=> ?_) (fun zr=> ?_)
  ·have z1:i<Q.length:=by simpa using zq
   have hw:IntKind.i64.wrap ((i:Int)+1)=i+1:=wrap_i64 _ (by omega) (by omega);have yx:=ht.s;have hlo:=hQ _ (zT z1);repeat first|(refine r_ ?_;simp)|refine q_ ?_
   refine Qk tOk mixed [8] (.val 0 (.val 1 (.val 2 (.val 3 (.val 4 (.val 5 (.val 6 (.val 7 (.one 8 (.done)))))))))) rfl (by kernel_rfl) ?_;simp[yb,ye,yx,z1];refine Q4 rfl rfl (Aa Y r Q[i]) rfl ?_;rintro _ _ ⟨rfl,rfl⟩;simp;repeat first|(refine r_ ?_;simp)|refine q_ ?_
   have zo:Zx a cl (257 - i) i Q=if 256<(roundS Q (succS a cl Q[i])).length then none else Zx a cl (257 - (i+1)) (i+1) (roundS Q (succS a cl Q[i])):=by
    have:257 - i=(257 - (i+1))+1:=by omega
    rw[this,Zx,zP z1]
   rw[zo]at z8;clear zo;generalize Q[i]=l at *
   have yy:(succS a cl l).length=cl.length:=by simp[succS]
   have yf:∀(k:Nat) (c:Prd),cl[k]? =some c→(succS a cl l).take (k+1)=(succS a cl l).take k++[Wa a l (Qo c)]:=fun k c hc=>by
    have hk:=Ga hc;have yz:cl[k]=c:=by rw[zP hk]at hc;exact Option.some.inj hc
    rw[z_ (by rw[yy];exact hk)];simp[succS,yz]
   have x0:∀k,(∀y∈roundS Q ((succS a cl l).take k),Aw y)∧(roundS Q ((succS a cl l).take k)).length≤600:=fun k=>q0d z7 hQ zx zc k;have x1:=Qi yb;refine E6 rfl (Rf:=fun _ H'=>∃p',TB r p' m a cl (roundS Q (succS a cl l)) H'∧H.length≤p'∧H'[b]? =some (.vars [.vptr r 0])∧(∃sl' zy a' b',H'[Y.length+2]? =some (.lp true none 80 sl' zy a' b'))∧∀i,i<H.length→H'[i]? =H[i]?) ?_ ?_
   ·simp;refine Jy fun H1 zd=> ?_;have ft:TB r p m a cl Q H1:=ht.keep fun j hj=>by
     have:j<Y.length:=by
      rcases hj with rfl|rfl|rfl
      ·exact Qi ht.t
      ·exact Qi ht.s
      ·exact Qi ht.n
     rw[zd,zI this]
    have fb:H1[b]? =some (.vars [.vptr r 0]):=by rw[zd,zI x1];exact yb
    have x2:H1[Y.length]? =some (.vars [.vptr r 0]):=by rw[zd,zO (by omega)];simp
    have x3:H1[Y.length+1]? =some (.vars [LI l]):=by rw[zd,zO (by omega)];simp
    have fk:∀i,i<H.length→H1[i]? =H[i]? :=fun i hi=>by rw[zd,zI (by have:=Qi ht.t;omega)];exact yk i hi
    have fq:=congrArg (fun h:List AObj=>h[Y.length+2]?) zd;simp at fq;clear zd;refine FC.mono (Mc a z7 cl l (fun c hc=>⟨(zv c hc).1,(zv c hc).2.1,(zv c hc).2.2.1⟩) zc (Y.length+2) Y.length (Y.length+1) r (by rfl) (by rfl)
     (fun k H'=>∃p',TB r p' m a cl (roundS Q ((succS a cl l).take k)) H'∧H.length≤p'∧H'[b]? =some (.vars [.vptr r 0])∧H'[Y.length]? =some (.vars [.vptr r 0])∧H'[Y.length+1]? =some (.vars [LI l])∧H'[Y.length+2]? =H1[Y.length+2]? ∧∀i,i<H.length→H'[i]? =H[i]?)
     (fun k H' ⟨p',h1,h2,h3,h4,h5,h6,h7⟩=>⟨h6.trans fq,h4,h5,_,h1.t⟩) ?_ ?_ ?_ H1 ⟨p,ft,ze,fb,x2,x3,rfl,fk⟩) ?_
    ·rintro k H' L ⟨p',h1,h2,h3,h4,h5,h6,h7⟩;refine⟨p',h1.keep fun j hj=> ?_,h2,Qb h3 _,Qb h4 _,Qb h5 _,by rw[←h6,zI (by rw[fq]at h6;exact Qi h6)],fun i hi=>by rw[zI (by have:=Qi h1.t;omega)];exact h7 i hi⟩;have:j<H'.length:=by
      rcases hj with rfl|rfl|rfl
      ·exact Qi h1.t
      ·exact Qi h1.s
      ·exact Qi h1.n
     exact zI this
    ·rintro k c H' hc za ⟨p',h1,h⟩;refine⟨p',?_,h⟩;rw[yf k c hc,za,Kd,w1z];exact h1
    ·rintro k c H' hc za ⟨p',h1,h2,h3,h4,h5,h6,h7⟩;have zz:Aw (Wa a l (Qo c)):=by have:=z7.fin;exact⟨za,Zf z7 _ _,fun z hz=>by have:=U7 z hz;omega⟩
     have y1:=yf k c hc;have zl:=x0 k;rw[y1,Kd,j0d za];generalize Wa a l (Qo c)=nx at *;generalize roundS Q ((succS a cl l).take k)=Q2 at *
     simp[Ty];have h8:=h6.trans fq;have yg:Y.length+2≠r:=fun e=>by have:=h1.t;rw[←e,h8]at this;simp at this
     have yh:Y.length+2≠p':=fun e=>by have:=h1.s;rw[←e,h8]at this;simp at this
     have yi:Y.length+2≠m:=fun e=>by have:=h1.n;rw[←e,h8,E4]at this;simp at this
     have zp:Y.length+2≠b:=fun e=>by rw[←e,h8]at h3;simp at h3
     have x4:b≠r:=fun e=>by have:=h1.t;rw[←e,h3]at this;simp at this
     have x5:b≠p':=fun e=>by have:=h1.s;rw[←e,h3]at this;simp at this
     have x6:b≠m:=fun e=>by have:=h1.n;rw[←e,h3,E4]at this;simp at this
     have x7:Y.length≠r:=fun e=>by have:=h1.t;rw[←e,h4]at this;simp at this
     have x8:Y.length≠p':=fun e=>by have:=h1.s;rw[←e,h4]at this;simp at this
     have x9:Y.length≠m:=fun e=>by have:=h1.n;rw[←e,h4,E4]at this;simp at this
     have xa:Y.length+1≠r:=fun e=>by have:=h1.t;rw[←e,h5]at this;simp at this
     have xb:Y.length+1≠p':=fun e=>by have:=h1.s;rw[←e,h5]at this;simp at this
     have xc:Y.length+1≠m:=fun e=>by have:=h1.n;rw[←e,h5,E4]at this;simp at this
     have d1:TB r p' m a cl Q2 (H'.set (Y.length+2) .dead):=h1.keep fun j hj=>by rw[zH (by rcases hj with rfl|rfl|rfl<;>assumption)]
     have d3:=Qc zp h3 .dead;have d4:=Qc (j:=Y.length+2) (by omega) h4 .dead;have d5:=Qc (j:=Y.length+2) (by omega) h5 .dead;have d6:=Qg h8 .dead;have d7:∀i,i<H.length→(H'.set (Y.length+2) .dead)[i]? =H[i]? :=fun i hi=>by rw[zH (by have:=Qi yb;omega)];exact h7 i hi
     have dl:(H'.set (Y.length+2) .dead).length=H'.length:=by simp
     generalize H'.set (Y.length+2) .dead=Z at *
     repeat first|(refine r_ ?_;simp[d3])|refine q_ ?_
     refine Q4 rfl rfl (Bo Z r p' m a cl Q2 nx d1 zz zl.1 (by have:=zl.2;omega)) rfl ?_;rintro res Z2 ⟨j0,p2,rfl,yd,yj,xi,xj,-,zf⟩;simp;repeat first|(refine r_ ?_;simp)|refine q_ ?_
     have hz:∀i,i<Z.length→i≠r→i≠p'→i≠m→Z2[i]? =Z[i]? :=zf;have e3:=(zf b (Qi d3) x4 x5 x6).trans d3;have e4:=(zf _ (Qi d4) x7 x8 x9).trans d4;have e5:=(zf _ (Qi d5) xa xb xc).trans d5;have e6:=(zf _ (Qi d6) yg yh yi).trans d6;have xd:Y.length+2≠p2:=fun e=>by have:=yj.s;rw[←e,e6]at this;simp at this
     refine⟨e6,rfl,p2,yj.keep (fun j hj=>by rw[zH (by rcases hj with rfl|rfl|rfl<;>assumption)]),by have:=Qi d6;omega,Qc zp e3 _,e4,e5,?_,fun i hi=> ?_⟩
     ·rw[fq];exact Qg e6 _
     ·rw[zH (by have:=Qi yb;omega),zf i (by have:=Qi d6;omega) (by omega) (by omega) (by omega)];exact d7 i hi
    ·rintro _ H' ⟨p',h1,h2,h3,h4,h5,h6,h7⟩;rw[zZ (by omega)]at h1;exact⟨p',h1,h2,h3,⟨_,_,_,_,h6.trans fq⟩,h7⟩
   ·rintro res H' ⟨p',h1,h2,h3,⟨sl',zy,a',b',h6⟩,h7⟩;refine⟨true,none,80,sl',zy,a',b',by simpa using h6,?_⟩;simp;have yg:Y.length+2≠r:=fun e=>by have:=h1.t;rw[←e,h6]at this;simp at this
    have yh:Y.length+2≠p':=fun e=>by have:=h1.s;rw[←e,h6]at this;simp at this
    have yi:Y.length+2≠m:=fun e=>by have:=h1.n;rw[←e,h6,E4]at this;simp at this
    have zp:Y.length+2≠b:=fun e=>by rw[←e,h6]at h3;simp at h3
    have d1:TB r p' m a cl (roundS Q (succS a cl l)) (H'.set (Y.length+2) .dead):=h1.keep fun j hj=>by rw[zH (by rcases hj with rfl|rfl|rfl<;>assumption)]
    have d3:=Qc zp h3 .dead;have d7:∀i,i<H.length→(H'.set (Y.length+2) .dead)[i]? =H[i]? :=fun i hi=>by rw[zH (by have:=Qi yb;omega)];exact h7 i hi
    have yl:=q0d z7 hQ zx zc (l:=l) cl.length;rw[zZ (by omega)]at yl;have xe:=x0i Q (succS a cl l);generalize H'.set (Y.length+2) .dead=Z at *;generalize roundS Q (succS a cl l)=Q2 at *
    have d0:=d1.t;repeat first|(refine r_ ?_;simp[d3,d0])|refine q_ ?_
    refine Qa rfl (fun y2=> ?_) (fun xf=> ?_)
    ·have xg:256<Q2.length:=by simp at y2;omega
     rw[if_pos xg]at z8;rw[z8]at z6;rw[z6];repeat first|(refine r_ ?_;simp)|refine q_ ?_
     exact d7
    ·have y3:¬256<Q2.length:=by simp at xf;omega
     rw[if_neg y3]at z8;repeat first|(refine r_ ?_;simp[hw])|refine q_ ?_
     refine Qd (sl':=[(10,.vptr b 0),(11,.i (i+1:Nat))]) ?_ (by simp);exact ih (i+1,p',Q2,Z) ⟨by show i+1≤Q2.length;omega,by show Q2.length≤256;omega,d1,h2,d3,d7,yl.1,z8⟩ (by omega)
  ·have zi:i=Q.length:=by simp at zr;omega
   have zo:Zx a cl (257 - i) i Q=some Q:=by
    have:257 - i=(256 - i)+1:=by omega
    rw[this,Zx,xA (by omega)]
   rw[zo]at z8;rw[z8]at z6;rw[z6];repeat first|(refine r_ ?_;simp[yb])|refine q_ ?_
   exact⟨yk,p,m,ht,yv,ze,yw⟩
end Go.Abs
namespace Go.Abs
open Go Go.Proofs Go.Maps Go.RowKit
attribute [local irreducible] Yz
end Go.Abs
namespace Go.Abs
open Go Go.Proofs Go.Maps Go.RowKit
def Fx(fx:List (Nat×AObj))(H:List AObj):Prop:=∀p∈fx,H[p.1]? =some p.2
theorem Fx.app{fx:List (Nat×AObj)}{H:List AObj}(h:Fx fx H)(L:List AObj):Fx fx (H++L):=fun p hp=>Qb (h p hp) L
theorem Fx.set{fx:List (Nat×AObj)}{H:List AObj}(h:Fx fx H){x:Nat}{o:AObj}(hx:H[x]? =some o)(hn:∀p∈fx,p.2≠o)(y:AObj):Fx fx (H.set x y):=fun p hp=>by
 have z1:x≠p.1:=fun e=>by have:=h p hp;rw[←e,hx]at this;exact hn p hp (Option.some.inj this).symm
 rw[zH z1];exact h p hp
def g0g(g:List Mv)(to:Nat):Int:=match g.findIdx? fun m:Mv=>decide (m.dst=(to:Int))with
 |some i=>i
 |none=> -1
theorem v1f(H:List AObj)(id to:Nat)(hid:H[id]? =some (.vars [.i to]))(m:Mv):FC Tryz.prog 59 [encMv m,.vptr id 0] H (fun r H'=>r= .bool (decide (m.dst=(to:Int)))∧H'=H++[.vars [.i m.src,.i m.dst,.list (m.on.map encL)]]):=by
 refine W5 tOk Tryz.func59 rfl Tryz.results59 rfl (by simp[Tryz.ntmps59]) ?_;rw[Tryz.ntmps59];simp only[Qf];simp only[encMv];repeat first|(refine r_ ?_;simp[Qb hid])|refine q_ ?_
 rfl
theorem q17{g:List Mv}{to j:Nat}(h:j<g.length)(h1:g[j].dst=(to:Int))(h2:∀i,∀hi:i<g.length,i<j→¬g[i].dst=(to:Int)):g0g g to=j:=by
 have:g.findIdx? (fun m:Mv=>decide (m.dst=(to:Int)))=some j:=by rw[xO];exact⟨h,by simpa using h1,fun i hi=>by simpa using h2 i (by omega) hi⟩
 rw[g0g,this]
theorem d0q{g:List Mv}{to:Nat}(h2:∀i,∀hi:i<g.length,¬g[i].dst=(to:Int)):g0g g to= -1:=by
 have:g.findIdx? (fun m:Mv=>decide (m.dst=(to:Int)))=none:=by rw[vE];intro m hm;obtain⟨i,hi,rfl⟩:=xG hm;simpa using h2 i hi
 rw[g0g,this]
theorem g0p(H:List AObj)(v first to id:Nat)(pre g:List Mv)(hid:H[id]? =some (.vars [.i to]))(hv:H[v]? =some (.arr 78 3 ((pre++g).map encMv)))(hl:pre.length+g.length≤1000000000)(hf:first=pre.length):
  FC Tryz.prog 58 [.sl v 3 first g.length,.fn (.func 59) [] [.vptr id 0]] H (fun r H'=>r= .i (g0g g to)∧∃L,H'=H++L):=by
 subst hf;refine W5 tOk Tryz.func58 rfl Tryz.results58 rfl (by simp[Tryz.ntmps58]) ?_;rw[Tryz.ntmps58];simp only[Qf];repeat first|(refine r_ ?_;simp)|refine q_ ?_
 refine Qr (Qd (sl':=[(0,.sl v 3 pre.length g.length),(1,.fn (.func 59) [] [.vptr id 0]),(7,.i g.length),(8,.i (0:Nat))]) ?_ (by simp));refine Qq (F:=fun(u:Nat×List AObj)=>⟨[(0,.sl v 3 pre.length g.length),(1,.fn (.func 59) [] [.vptr id 0]),(7,.i g.length),(8,.i u.1)],u.2⟩)
  (fun u=>u.1≤g.length∧(∃L,u.2=H++L)∧∀i,∀hi:i<g.length,i<u.1→¬g[i].dst=(to:Int)) (fun u=>g.length - u.1) ?_ (0,H) ⟨by simp,⟨[],by simp⟩,by simp⟩
 rintro⟨j,E⟩ ⟨hj,⟨L,hL⟩,hI⟩ ih;simp only at hj hI hL ih ⊢;subst hL;repeat first|(refine r_ ?_;simp)|refine q_ ?_
 refine Qa rfl (fun za=> ?_) (fun zb=> ?_)
 ·have z1:j<g.length:=by simpa using za
  have hw:IntKind.i64.wrap ((j:Int)+1)=j+1:=wrap_i64 _ (by omega) (by omega);have zc:((pre++g).map encMv)[pre.length+j]? =some (encMv g[j]):=by simp[z1]
  have zd:=Qb hv L;have z6:=Qb hid L;repeat first|(refine r_ ?_;simp[z1,zd,zc])|refine q_ ?_
  generalize z8:g[j]=m at *;refine Q4 rfl rfl (v1f (H++L) id to z6 m) rfl ?_
  rintro _ _ ⟨rfl,rfl⟩;simp;repeat first|(refine r_ ?_;simp)|refine q_ ?_
  refine Qa rfl (fun h=> ?_) (fun h=> ?_)
  ·repeat first|(refine r_ ?_;simp)|refine q_ ?_
   exact(q17 z1 (by rw[z8];simpa using h) hI).symm
  ·repeat first|(refine r_ ?_;simp[hw])|refine q_ ?_
   refine Qd (sl':=[(0,.sl v 3 pre.length g.length),(1,.fn (.func 59) [] [.vptr id 0]),(7,.i g.length),(8,.i (j+1:Nat))]) ?_ (by simp);refine ih (j+1,_) ⟨by omega,⟨L++[.vars [.i m.src,.i m.dst,.list (m.on.map encL)]],by simp⟩,fun i hi ze=> ?_⟩ (by omega);by_cases e:i=j
   ·subst e;rw[z8];simpa using h
   ·exact hI i hi (by omega)
 ·have z7:j=g.length:=by simp at zb;omega
  subst z7;repeat first|(refine r_ ?_;simp)|refine q_ ?_
  exact(d0q fun i hi=>hI i hi hi).symm
end Go.Abs
namespace Go.Abs
open Go Go.Proofs Go.Maps Go.RowKit
theorem Xc{a:Aut}(h:(Yz a).1=0):OkA a∧∃cl Q,Yz a=(0,cl,Q)∧Az a cl=some Q∧Cls a cl∧Sub a cl Q∧cl.length≤256∧∀c∈cl,Hq [c]=0∧Wo c=false∧Eo a (Qo c)∧PWf a.types.toNat c∧∀s∈c,s.length≤256:=by
 have h0:Wf a=0:=by
  by_cases h0:Wf a=0
  ·exact h0
  ·rw[B0 h0]at h;exact absurd h h0
 have z1:=(Yy a).1 h0;have hm:(Ee a.types (onA a)).1=0:=by
  by_cases hm:(Ee a.types (onA a)).1=0
  ·exact hm
  ·rw[Yz,if_neg (fun k=>k h0),if_pos hm]at h;exact absurd h hm
 obtain⟨cl,h1,h2,h3,h4⟩:=Cc z1 hm;refine⟨z1,cl,?_⟩;rcases C2 z1 with h5|⟨Q,h5,h6,h7,h8⟩
 ·rw[h5]at h;simp at h
 ·have z6:Q5 a.types.toNat (onA a)=cl:=by
   have h9:(Yz a).2.1=cl:=by
    rw[Yz,if_neg (fun k=>k h0),if_neg (fun k=>k hm),h1];split
    ·rename_i hn;rw[Yz,if_neg (fun k=>k h0),if_neg (fun k=>k hm),h1]at h;simp only[hn]at h;simp at h
    ·rfl
   rw[h5]at h9;exact h9
  rw[z6]at h5 h6 h7 h8;exact⟨Q,h5,h6,h2,h7,h3,h4⟩
theorem u11(H:List AObj)(id:Nat)(a:Aut)(hid:H[id]? =some (.vars (Wb a)))(s:Int)(h0:0≤s)(h1:s<a.fin.length):FC Tryz.prog 55 [.i s,.vptr id 0] H (fun r H'=>r= .bool (a.fin.getD s.toNat false)∧H'=H):=by
 refine W5 tOk Tryz.func55 rfl Tryz.results55 rfl (by simp[Tryz.ntmps55]) ?_;rw[Tryz.ntmps55];simp only[Qf];have h2:s.toNat<a.fin.length:=by omega
 repeat first|(refine r_ ?_;simp[hid,h0,h1,h2])|refine q_ ?_
def stepG(a:Aut)(Q:List (List Int))(n:Nat)(l:List Int)(g:List Mv)(c:Prd):List Mv:=match Bm Q (Wa a l (Qo c))with|some t=>T6 n g t c|none=>g
def Ez(a:Aut)(cl:List Prd)(Q:List (List Int))(n:Nat)(l:List Int)(k:Nat):List Mv:=(cl.take k).foldl (stepG a Q n l) []
def Dm(a:Aut)(cl:List Prd)(Q:List (List Int))(n:Nat):List Mv:=(yW n).flatMap fun n=>Gj a cl Q n (Q.getD n [])
theorem Fa(a:Aut)(cl:List Prd)(Q:List (List Int))(n:Nat)(l:List Int):Ez a cl Q n l cl.length=Gj a cl Q n l:=by rw[Ez,xD];rfl
theorem Nj(a:Aut)(cl:List Prd)(Q:List (List Int))(n:Nat)(l:List Int){k:Nat}{c:Prd}(h:cl[k]? =some c):Ez a cl Q n l (k+1)=stepG a Q n l (Ez a cl Q n l k) c:=by
 have hk:=Ga h;have hc:cl[k]=c:=by rw[zP hk]at h;exact Option.some.inj h
 rw[Ez,z_ hk,vz,hc];rfl
theorem Z3(a:Aut)(cl:List Prd)(Q:List (List Int))(n:Nat):Dm a cl Q (n+1)=Dm a cl Q n++Gj a cl Q n (Q.getD n []):=by simp[Dm,wT]
theorem f0y(n:Nat)(g:List Mv)(to:Nat)(c:Prd):(T6 n g to c).length≤g.length+1:=by
 unfold T6;split
 ·simp
 ·split<;>simp
theorem C4(a:Aut)(Q:List (List Int))(n:Nat)(l:List Int):∀(cl:List Prd) (g:List Mv),(cl.foldl (stepG a Q n l) g).length≤g.length+cl.length
 |[],g=>by simp
 |c::cl,g=>by
  have h1:=C4 a Q n l cl (stepG a Q n l g c);have h2:(stepG a Q n l g c).length≤g.length+1:=by
   unfold stepG;split
   ·exact f0y _ _ _ _
   ·omega
  rw[xY,y_];omega
theorem Fe(a:Aut)(cl:List Prd)(Q:List (List Int))(n:Nat)(l:List Int)(hc:cl.length≤256)(k:Nat):(Ez a cl Q n l k).length≤256:=by have:=C4 a Q n l (cl.take k) [];rw[wD]at this;rw[Ez];simp at this;omega
theorem w10(a:Aut)(cl:List Prd)(Q:List (List Int))(hq:Q.length≤256)(hc:cl.length≤256):∀n,n<Q.length→(Dm a cl Q n).length≤n * 256∧(Dm a cl Q n).length≤65536:=by
 have:∀n,(Dm a cl Q n).length≤n * 256:=fun n=>by
  induction n with
  |zero=>simp[Dm]
  |succ n ih=>
   have h:=Fe a cl Q n (Q.getD n []) hc cl.length;rw[Fa]at h;have:Dm a cl Q (n+1)=Dm a cl Q n++Gj a cl Q n (Q.getD n []):=by simp[Dm,wT]
   rw[this,yS];omega
 exact fun n hn=>⟨this n,by have:=this n;omega⟩
theorem z0m(a:Aut)(cl:List Prd)(Q:List (List Int))(n:Nat)(l:List Int):Ez a cl Q n l 0=[]:=rfl
theorem w1b{a:Aut}{Q:List (List Int)}(z1:∀l∈Q,l≠[]){n:Nat}{l:List Int}{g:List Mv}{c:Prd}(h:Wa a l (Qo c)=[]):stepG a Q n l g c=g:=by
 unfold stepG;rw[h];cases hq:Bm Q []with
 |none=>rfl
 |some t=>exact absurd rfl (z1 _ (zL (Gq hq)))
theorem u0q{a:Aut}{Q:List (List Int)}(hn:Q.Nodup){n t:Nat}{l:List Int}{g:List Mv}{c:Prd}(h:Q[t]? =some (Wa a l (Qo c))):stepG a Q n l g c=T6 n g t c:=by unfold stepG;rw[x06 hn h]
theorem c0f{T n to:Nat}{g:List Mv}{c:Prd}(hg:∀m∈g,PWf T m.on)(hc:PWf T c):∀m∈T6 n g to c,PWf T m.on:=by
 intro m hm;unfold T6 at hm;split at hm
 ·rcases yE.1 hm with hm|hm
  ·exact hg m hm
  ·rw[zW.1 hm];exact hc
 ·split at hm
  ·rename_i m2 z1;rcases wJ hm with hm|rfl
   ·exact hg m hm
   ·exact G9 (hg _ (zL z1)) hc
  ·exact hg m hm
theorem y1k{a:Aut}{T:Nat}{Q:List (List Int)}{n:Nat}{l:List Int}{cl:List Prd}(z1:∀c∈cl,PWf T c):∀k,∀m∈Ez a cl Q n l k,PWf T m.on:=by
 have:∀(cl:List Prd) (g:List Mv),(∀c∈cl,PWf T c)→(∀m∈g,PWf T m.on)→∀m∈cl.foldl (stepG a Q n l) g,PWf T m.on:=by
  intro cl;induction cl with
  |nil=>intro g _ hg;exact hg
  |cons c cl ih=>
   intro g hc hg;refine ih _ (fun x hx=>hc x (by simp[hx])) fun m hm=> ?_;unfold stepG at hm;split at hm
   ·exact c0f hg (hc c (by simp)) m hm
   ·exact hg m hm
 exact fun k=>this _ _ (fun c hc=>z1 c (ww hc)) (fun m hm=>by simp at hm)
def AObj.isLp:AObj→Bool
 | .lp .. =>true
 |_=>false
theorem v1h{T:Nat}{c:Prd}(hw:PWf T c)(hz:∀s∈c,s.length≤256){i:Nat}(hi:i<T):(Qw [c] i).length≤1000000:=by
 have h:i<c.length:=by rw[hw.1];exact hi
 have:Qw [c] i=c[i]:=by simp[Qw,yV,h]
 rw[this];have:=hz _ (zT h);omega
theorem v19{T:Nat}{p c:Prd}(hp:PWf T p)(hw:PWf T c)(h1:∀s∈p,s.length≤65536)(hz:∀s∈c,s.length≤256){i:Nat}(hi:i<T):(Qw [p,c] i).length≤1000000:=by
 have h:i<c.length:=by rw[hw.1];exact hi
 have h2:i<p.length:=by rw[hp.1];exact hi
 have:Qw [p,c] i=p[i]++c[i]:=by simp[Qw,yV,h,h2]
 rw[this,yS];have:=hz _ (zT h);have:=h1 _ (zT h2);omega
theorem w1o(a:Aut)(cl:List Prd)(Q:List (List Int)):Dm a cl Q Q.length=(detA a cl Q).mv:=rfl
theorem Me(a:Aut)(cl:List Prd)(Q:List (List Int)):(detA a cl Q).fin=Q.map (finB a):=rfl
theorem w0s(a:Aut)(cl:List Prd)(Q:List (List Int)):(detA a cl Q).types=a.types:=rfl
theorem Mt(d:Aut):Zq d=if Bn d then(5,Uv)else(0,d):=rfl
theorem j0p(a:Aut)(cl:List Prd)(Q:List (List Int))(hq:Q.length≤256)(hc:cl.length≤256):(Dm a cl Q Q.length).length≤65536:=by
 have:∀n,(Dm a cl Q n).length≤n * 256:=fun n=>by
  induction n with
  |zero=>simp[Dm]
  |succ n ih=>have h:=Fe a cl Q n (Q.getD n []) hc cl.length;rw[Fa]at h;rw[Z3,yS];omega
 have:=this Q.length;omega
theorem k0e{p c:Prd}{A B:Nat}(hp:∀s∈p,s.length≤A)(hc:∀s∈c,s.length≤B):∀s∈Rk p c,s.length≤A+B:=by intro s hs;obtain⟨i,hi,rfl⟩:=xG hs;simp only[Rk,List.length_zipWith]at hi;simp only[Rk,List.getElem_zipWith];refine Nat.le_trans (N5 _) ?_;rw[yS];have h1:=hp _ (zT (by omega:i<p.length));have h2:=hc _ (zT (by omega:i<c.length));omega
theorem c0z{a:Aut}{Q:List (List Int)}{n:Nat}{l:List Int}{cl:List Prd}(z6:∀c∈cl,∀s∈c,s.length≤256)(z8:cl.length≤256):∀k,∀m∈Ez a cl Q n l k,∀s∈m.on,s.length≤65536:=by
 have key:∀(cl:List Prd) (g:List Mv) (B:Nat),(∀c∈cl,∀s∈c,s.length≤256)→(∀m∈g,∀s∈m.on,s.length≤B)→∀m∈cl.foldl (stepG a Q n l) g,∀s∈m.on,s.length≤B+cl.length * 256:=by
  intro cl;induction cl with
  |nil=>intro g B _ hg m hm s hs;have:=hg m hm s hs;simp;omega
  |cons c cl ih=>
   intro g B hc hg m hm s hs;have h1:∀m∈stepG a Q n l g c,∀s∈m.on,s.length≤B+256:=by
    intro m hm s hs;have z1:=hc c (by simp);unfold stepG T6 at hm;split at hm
    ·split at hm
     ·rcases yE.1 hm with hm|hm
      ·have:=hg m hm s hs;omega
      ·rw[zW.1 hm]at hs;have:=z1 s hs;omega
     ·split at hm
      ·rename_i m2 z7;rcases wJ hm with hm|rfl
       ·have:=hg m hm s hs;omega
       ·exact k0e (hg _ (zL z7)) z1 s hs
      ·have:=hg m hm s hs;omega
    ·have:=hg m hm s hs;omega
   have:=ih (stepG a Q n l g c) (B+256) (fun x hx=>hc x (by simp[hx])) h1 m hm s hs;rw[y_];omega
 intro k m hm s hs;have:=key (cl.take k) [] 0 (fun c hc=>z6 c (ww hc)) (fun m hm=>by simp at hm) m hm s hs;rw[wD]at this;have:min k cl.length≤256:=by omega
 omega
theorem Cq(a:Aut)(cl:List Prd)(Q:List (List Int)):Dm a cl Q 0=[]:=rfl
attribute [local irreducible] Yz Wa Qo mpT Ry Zq detA Dm Ez stepG finB Bn
theorem Hx(a:Aut):PC Tryz.prog 18 [encA a] (fun r=>r= .tup [encA (R4 a).2,.i (R4 a).1]):=by
 refine Ql tOk Tryz.func18 rfl Tryz.results18 rfl (by simp[Tryz.ntmps18]) ?_;rw[Tryz.ntmps18];simp only[Qf];simp only[encA];repeat first|(refine r_ ?_;simp)|refine q_ ?_
 have yd:=y0l [.vars (Wb a),.vars [.i 0,.nils,.nils]] a;refine Q4 rfl rfl yd rfl ?_;rintro res H' ⟨hk,⟨he,rfl⟩|⟨he,r,p,m,rfl,ht,hr,hp,hm⟩⟩
 ·have hd:R4 a=((Yz a).1,Uv):=by rw[R4,if_pos he]
  rw[hd];have k0:=hk 0 (by simp);have k1:=hk 1 (by simp);simp at k0 k1;simp;repeat first|(refine r_ ?_;simp[Qb k1])|refine q_ ?_
  refine Qa rfl (fun _=> ?_) (fun h=>by simp at h;exact absurd h he);have k2:∀L Y,((H'++L).set 1 Y)[1]? =some Y:=fun L Y=>Qg (Qb k1 L) Y;repeat first|(refine r_ ?_;simp[Qb k1,k2])|refine q_ ?_
  exact⟨rfl,rfl,rfl⟩
 ·obtain⟨zn,cl,Q,x6,vp,xw,z8,zd,zo⟩:=Xc he;have hd:R4 a=Zq (detA a cl Q):=by rw[R4,x6];simp
  rw[hd];rw[x6]at ht;simp only at ht;have k0:=hk 0 (by simp);have k1:=hk 1 (by simp);simp at k0 k1;have xx:=ht.t;have vq:=ht.s;simp;repeat first|(refine r_ ?_;simp[Qb k1])|refine q_ ?_
  refine Qa rfl (fun h=>by simp[he]at h) (fun _=> ?_);have k0a:∀(L:List AObj) hh,(H'++L)[0]'hh= .vars (Wb a):=fun L hh=>by have:=Qb k0 L;rw[zP hh]at this;exact Option.some.inj this
  have ye:=fun L=>Qb (G:=L) xx;repeat first|(refine r_ ?_;simp[Qb k0,k0a,ye])|refine q_ ?_
  have xy:=Qi ht.t;have xz:=Qi ht.s;have w8:=Qi ht.n;refine Qx (sl':=[(1,.vptr 0 0),(2,.vptr 1 0),(3,.i 0),(4,.vptr H'.length 0),(6,.vptr (H'.length+1) 0),(30,.sl p 1 0 Q.length),(31,.i Q.length),(32,.i (0:Nat))]) ?_ (by simp);refine Ex (H'.length+1) 1 4 1 (xs:=[.i a.types,.nils,.nils]) (by rw[zO (by omega)];simp) rfl ?_;refine Q9 fun Z1 zp=> ?_;have z1l:Z1.length=H'.length+3:=by rw[zp];simp
  have z1c:Z1[H'.length+1]? =some (.vars [.i a.types,.sl (H'.length+2) 1 0 0,.nils]):=by rw[zp,zU (by simp)];simp
  have z1f:Z1[H'.length+2]? =some (.arr 4 1 []):=by rw[zp,zH (by omega),zO (by simp)];simp
  have z1b:Z1[H'.length]? =some (.vars [.vptr r 0]):=by rw[zp,zH (by omega),xZ,zO (by omega)];simp
  have z1k:∀i,i<H'.length→Z1[i]? =H'[i]? :=fun i hi=>by rw[zp,zH (by omega),xZ,zI hi]
  clear zp;refine Ex (H'.length+1) 2 78 3 z1c rfl ?_;refine Q9 fun Z2 y6=> ?_;have z2c:Z2[H'.length+1]? =some (.vars [.i a.types,.sl (H'.length+2) 1 0 0,.sl (H'.length+3) 3 0 0]):=by rw[y6,zU (by simp;omega)];simp[z1l]
  have z2v:Z2[H'.length+3]? =some (.arr 78 3 []):=by rw[y6,zH (by omega),zO (by omega)];simp[z1l]
  have z2k:∀i,i<Z1.length→i≠H'.length+1→Z2[i]? =Z1[i]? :=fun i hi wa=>by rw[y6,zH (Ne.symm wa),zI hi]
  clear y6;have hb:=(z2k _ (by omega) (by omega)).trans z1b;have x7:=(z2k _ (by omega) (by omega)).trans z1f;have hold:∀i,i<H'.length→Z2[i]? =H'[i]? :=fun i hi=>(z2k i (by omega) (by omega)).trans (z1k i hi);have x8:=(hold 0 (Qi k0)).trans k0;have x9:=(hold 1 (Qi k1)).trans k1;obtain⟨zh,z7⟩:∃zh:List (Nat×AObj),zh=[(0,.vars (Wb a)),(1,.vars [.i 0,.nils,.nils]),(H'.length,.vars [.vptr r 0]),(r,.vars [.i a.types,.list (a.fin.map .bool),.list (a.mv.map encMv),LP cl,.sl p 1 0 Q.length,.mref m]),(p,.arr 40 1 (LQ Q)),(m,mpT (Q.map Ry))]:=⟨_,rfl⟩
  have xa:Fx zh Z2:=by
   rw[z7];intro x hx;simp only[yL,uh,or_false]at hx;rcases hx with rfl|rfl|rfl|rfl|rfl|rfl
   ·exact x8
   ·exact x9
   ·exact hb
   ·exact(hold r xy).trans ht.t
   ·exact(hold p xz).trans ht.s
   ·exact(hold m w8).trans ht.n
  have wb:=z8.lim;have xb:∀x∈Q,Aw x:=fun x hx=>by have he:=z8.elem x hx;have:=Vw he.1 he.2;have:=zn.fin;exact⟨z8.ne x hx,by omega,fun z hz=>by have:=he.2 z hz;omega⟩
  have we:=zn.fin;generalize H'.length+1=c at *;generalize H'.length=b at *;refine Qr (Qd (sl':=[(1,.vptr 0 0),(2,.vptr 1 0),(3,.i 0),(4,.vptr b 0),(6,.vptr c 0),(30,.sl p 1 0 Q.length),(31,.i Q.length),(32,.i (0:Nat))]) ?_ (by simp))
  refine Qq (F:=fun(u:Nat×Nat×Nat×List AObj)=>⟨[(1,.vptr 0 0),(2,.vptr 1 0),(3,.i 0),(4,.vptr b 0),(6,.vptr c 0),(30,.sl p 1 0 Q.length),(31,.i Q.length),(32,.i u.1)],u.2.2.2⟩)
   (fun u=>u.1≤Q.length∧Fx zh u.2.2.2∧u.2.2.2[c]? =some (.vars [.i a.types,.sl u.2.1 1 0 u.1,.sl u.2.2.1 3 0 (Dm a cl Q u.1).length])∧u.2.2.2[u.2.1]? =some (.arr 4 1 (((Q.take u.1).map (finB a)).map .bool))∧u.2.2.2[u.2.2.1]? =some (.arr 78 3 ((Dm a cl Q u.1).map encMv))) (fun u=>Q.length - u.1) ?_ (0,_,_,Z2) ⟨by simp,xa,by rw[Cq];exact z2c,by simpa using x7,by rw[Cq];exact z2v⟩
  clear xa z2c x7 z2v hb x8 x9 hold z2k z1k z1b z1f z1c z1l;clear Z2 Z1;rintro⟨n,f,v,G⟩ ⟨hn,hF,gc,gf,gv⟩ ih;simp only at hn hF gc gf gv ih ⊢;repeat first|(refine r_ ?_;simp)|refine q_ ?_
  refine Qa rfl (fun wg=> ?_) (fun y8=> ?_)
  ·have ze:n<Q.length:=by simpa using wg
   have hw:IntKind.i64.wrap ((n:Int)+1)=n+1:=wrap_i64 _ (by omega) (by omega);have gs:G[p]? =some (.arr 40 1 (LQ Q)):=hF (p,_) (by rw[z7];simp);repeat first|(refine r_ ?_;simp[gs,ze])|refine q_ ?_
   have xc:=zT ze;have hle:=z8.elem _ xc;have wh:Q.getD n []=Q[n]:=by simp[yV,ze]
   have xd:=Z3 a cl Q n;have wi:(Q.take (n+1)).map (finB a)=(Q.take n).map (finB a)++[finB a Q[n]]:=by rw[z_ ze,xF];rfl
   rw[wh]at xd;have wj:=(w10 a cl Q (z8.lim) zd n ze).2;have zq:=z8.closed _ xc;have vr:=Vw hle.1 hle.2;have wk:=fun L=>Qb (G:=L) gc;have g0:∀L,(G++L)[0]? =some (.vars (Wb a)):=fun L=>Qb (hF (0,_) (by rw[z7];simp)) L;have wm:((Q.take n).map (finB a)).length=n:=by simp;omega
   generalize Q[n]=l at *
   have wF:=hF.app [.vars [.i n]];have wc:=Qb gc [.vars [.i n]];have wf:=Qb gf [.vars [.i n]];have wv:=Qb gv [.vars [.i n]];have w7:(G++[AObj.vars [.i n]])[G.length]? =some (.vars [.i n]):=by simp
   have w0:=g0 [.vars [.i n]];refine Qx (sl':=[(1,.vptr 0 0),(2,.vptr 1 0),(3,.i 0),(4,.vptr b 0),(6,.vptr c 0),(7,.vptr G.length 0),(8,LI l),(30,.sl p 1 0 Q.length),(31,.i Q.length),(32,.i n)]) ?_ (by simp);generalize G.length=n7 at *;generalize G++[AObj.vars [.i n]]=W at *;clear g0 wk gs gc gf gv hF;clear G
   have yf:((Q.take (n+1)).map (finB a)).map AV.bool=((Q.take n).map (finB a)).map AV.bool++[.bool (finB a l)]:=by rw[wi];simp
   have xe:(((Q.take n).map (finB a)).map AV.bool).length=n:=by rw[yP];exact wm
   generalize ((Q.take n).map (finB a)).map AV.bool=xs at *
   have zr:c≠f:=fun e=>by rw[e,wf]at wc;simp at wc
   have yg:c≠v:=fun e=>by rw[e,wv]at wc;simp at wc
   have zt:f≠v:=fun e=>by rw[e,wv]at wf;simp at wf
   have hc7:c≠n7:=fun e=>by rw[e,w7]at wc;simp at wc
   have xf:f≠n7:=fun e=>by rw[e,w7]at wf;simp at wf
   have z6:∀p∈zh,p.2≠ .vars [.i a.types,.sl f 1 0 n,.sl v 3 0 (Dm a cl Q n).length]:=by rw[z7];simp[E4]
   have zu:∀p∈zh,p.2≠ .arr 4 1 xs:=by rw[z7];simp[E4]
   have wo:=Qi wc;have wq:=Qi wf;have zv:=Qi wv;have xg:=Qi w7;have xh:=wF.set wf zu .dead;have ya:∀L,(W.set f .dead++L)[c]? =some (.vars [.i a.types,.sl f 1 0 n,.sl v 3 0 (Dm a cl Q n).length]):=fun L=>Qb (Qc (Ne.symm zr) wc _) L;refine Is (P:=Tryz.prog) tOk mixed [4,6,8] (.val 0 (.val 2 (.val 3 (.two 1 (.one 4 (.one 5 (.one 6 (.val 7 (.one 8 (.done)))))) 4 (.val 1 (.one 5 (.one 6 (.val 7 (.one 8 (.done)))))))))) (fun S'=>∃f',Fx zh S'.hp∧S'.hp[n7]? =some (.vars [.i n])∧S'.hp[c]? =some (.vars [.i a.types,.sl f' 1 0 (n+1),.sl v 3 0 (Dm a cl Q n).length])∧S'.hp[f']? =some (.arr 4 1 (xs++[.bool (finB a l)]))∧S'.hp[v]? =some (.arr 78 3 ((Dm a cl Q n).map encMv))∧look S'.sl 1=some (.vptr 0 0)∧look S'.sl 2=some (.vptr 1 0)∧look S'.sl 3=some (.i 0)∧look S'.sl 4=some (.vptr b 0)∧look S'.sl 6=some (.vptr c 0)∧look S'.sl 7=some (.vptr n7 0)∧look S'.sl 8=some (LI l)∧look S'.sl 30=some (.sl p 1 0 Q.length)∧look S'.sl 31=some (.i Q.length)∧look S'.sl 32=some (.i n)) rfl (by kernel_rfl) ?_ ?_
   ·simp[wc];refine⟨?_,?_⟩;all_goals
     refine Q4 rfl rfl (Vg W l 55 (.vptr 0 0) (fun s=>a.fin.getD s.toNat false) (by omega) (fun z hz=>u11 W 0 a w0 z (hle.2 z hz).1 (hle.2 z hz).2)) rfl ?_;rintro _ H2 ⟨rfl,wu⟩;rw[wu];have wx:l.any (fun s=>a.fin.getD s.toNat false)=finB a l:=by unfold finB;rfl
     rw[wx];simp[wc];refine Qh tOk rfl rfl T22 rfl T4 rfl (by decide) (by decide) rfl rfl rfl ?_;simp[Qb wf,Qj wf,xe,ya,Qb wc];refine⟨by simp[Wp,Qb wf,Qj wf,xe,ya,Qb wc]<;>omega,?_⟩;refine⟨?_,?_,W.length+1,?_,?_,?_⟩
     ·exact(xh.app _).set (ya _) z6 _
     ·rw[zH hc7,zI (by simpa using xg),zH xf];exact w7
     ·rw[zU (by simp;omega)]
     ·rw[zH (by omega),zO (by simp)];simp
     ·rw[zH yg,zI (by simpa using zv),zH zt];exact wv
   ·rintro⟨sl,E⟩ ⟨f',eF,e7,ec,ef,ev,s1,s2,s3,s4,s6,s7,s8,s30,s31,s32⟩;simp only at eF e7 ec ef ev s1 s2 s3 s4 s6 s7 s8 s30 s31 s32;refine Qx (sl':=[(1,.vptr 0 0),(2,.vptr 1 0),(3,.i 0),(4,.vptr b 0),(6,.vptr c 0),(7,.vptr n7 0),(8,LI l),(30,.sl p 1 0 Q.length),(31,.i Q.length),(32,.i n)]) ?_ (by simp[s1,s2,s3,s4,s6,s7,s8,s30,s31,s32]);clear s1 s2 s3 s4 s6 s7 s8 s30 s31 s32 xh ya z6 zu wo wq zv xg zr yg zt hc7 xf w0 w7 wv wf wc wF;have eb:E[b]? =some (.vars [.vptr r 0]):=eF (b,_) (by rw[z7];simp);repeat first|(refine r_ ?_;simp[ec,Qb eb])|refine q_ ?_
    have yh:∀g c,Wa a l (Qo c)=[]→stepG a Q n l g c=g:=fun g c hx=>w1b z8.ne hx;have yi:∀g c t,Q[t]? =some (Wa a l (Qo c))→stepG a Q n l g c=T6 n g t c:=fun g c t hx=>u0q z8.nd hx;have xi:=fun k c hc=>Nj a cl Q n l (k:=k) (c:=c) hc;have wy:=fun k=>Fe a cl Q n l zd k;have xj:Ez a cl Q n l 0=[]:=z0m a cl Q n l;have wz:=Fa a cl Q n l;have v7:∀k,∀m∈Ez a cl Q n l k,PWf a.types.toNat m.on:=y1k (fun c hc=>(zo c hc).2.2.2.1);have v8:∀k,∀m∈Ez a cl Q n l k,∀s∈m.on,s.length≤65536:=c0z (fun c hc=>(zo c hc).2.2.2.2) zd;have xk:=fun f v G=>ih (n+1,f,v,G);simp only[xd,←wz,yf]at xk;clear ih;generalize Dm a cl Q n=pre at *;refine Q4 rfl rfl (Aa _ r l) rfl ?_
    rintro _ _ ⟨rfl,rfl⟩;simp;repeat first|(refine r_ ?_;simp)|refine q_ ?_
    obtain⟨zg,z6⟩:∃zg:List (Nat×AObj),zg=zh++[(n7,.vars [.i n]),(E.length,.vars [.i pre.length]),(E.length+1,.vars [.vptr r 0]),(E.length+2,.vars [LI l]),(f',.arr 4 1 (xs++[.bool (finB a l)]))]:=⟨_,rfl⟩
    refine E6 rfl (Rf:=fun _ H'=>∃v,Fx zg H'∧H'[c]? =some (.vars [.i a.types,.sl f' 1 0 (n+1),.sl v 3 0 (pre++Ez a cl Q n l cl.length).length])∧H'[v]? =some (.arr 78 3 ((pre++Ez a cl Q n l cl.length).map encMv))∧∃sl' yj a' b',H'[E.length+3]? =some (.lp true none 100 sl' yj a' b')) ?_ ?_
    ·simp;refine Jy fun H1 zw=> ?_;have vb:Fx zg H1:=by
      rw[z6,zw];intro x hx;rcases yE.1 hx with hx|hx
      ·exact(eF.app _) x hx
      ·simp only[yL,uh,or_false]at hx;rcases hx with rfl|rfl|rfl|rfl|rfl
       ·exact Qb e7 _
       ·rw[zO (by simp)];simp
       ·rw[zO (by simp)];simp
       ·rw[zO (by simp)];simp
       ·exact Qb ef _
     have fc:H1[c]? =some (.vars [.i a.types,.sl f' 1 0 (n+1),.sl v 3 0 pre.length]):=by rw[zw];exact Qb ec _
     have fv:H1[v]? =some (.arr 78 3 (pre.map encMv)):=by rw[zw];exact Qb ev _
     have fq:=congrArg (fun h:List AObj=>h[E.length+3]?) zw;simp at fq;clear zw;refine FC.mono (Mc a zn cl l (fun c hc=>⟨(zo c hc).1,(zo c hc).2.1,(zo c hc).2.2.1⟩) zd (E.length+3) (E.length+1) (E.length+2) r (by rfl) (by rfl)
      (fun k H'=>∃v,Fx zg H'∧H'[c]? =some (.vars [.i a.types,.sl f' 1 0 (n+1),.sl v 3 0 (pre++Ez a cl Q n l k).length])∧H'[v]? =some (.arr 78 3 ((pre++Ez a cl Q n l k).map encMv))∧H'[E.length+3]? =H1[E.length+3]?)
      (fun k H' ⟨v',h1,h2,h3,h4⟩=>⟨h4.trans fq,h1 (E.length+1,_) (by rw[z6];simp),h1 (E.length+2,_) (by rw[z6];simp),[.sl p 1 0 Q.length,.mref m],h1 (r,_) (by rw[z6,z7];simp)⟩) ?_ ?_ ?_ H1 ⟨v,vb,by rw[xj,xS];exact fc,by rw[xj,xS];exact fv,rfl⟩) ?_
     ·rintro k H' L ⟨v',h1,h2,h3,h4⟩;exact⟨v',h1.app L,Qb h2 L,Qb h3 L,by rw[←h4,zI (by rw[fq]at h4;exact Qi h4)]⟩
     ·rintro k cc H' hc yk ⟨v',h1,h2,h3,h4⟩;have:=yh (Ez a cl Q n l k) cc yk;rw[←xi k cc hc]at this;exact⟨v',h1,by rw[this];exact h2,by rw[this];exact h3,h4⟩
     ·rintro k cc H' hc yk ⟨v',h1,h2,h3,h4⟩;rw[xi k cc hc];have zx:=zL hc;have yl:Wa a l (Qo cc)∈Q:=(zq cc zx).resolve_left yk;have ym:=yi (Ez a cl Q n l k) cc;have vc:=wy k;have zj:=v7 k;have yn:=v8 k;have zi:=zo cc zx;generalize Wa a l (Qo cc)=nx at *;generalize stepG a Q n l (Ez a cl Q n l k) cc=g2 at *;generalize Ez a cl Q n l k=g at *
      simp[Ty];have h8:=h4.trans fq;obtain⟨LP0,zk⟩:∃LP0,H1[E.length+3]? =some LP0:=⟨_,fq⟩
      have za:LP0.isLp=true:=by rw[fq]at zk;injection zk with e;rw[←e];rfl
      have zb:H'[E.length+3]? =some LP0:=h4.trans zk;have yo:∀p∈zg,p.2≠LP0:=fun p hp e=>by rw[←e]at za;rw[z6,z7]at hp;simp only[yE,yL,uh,or_false]at hp;rcases hp with(rfl|rfl|rfl|rfl|rfl|rfl)|(rfl|rfl|rfl|rfl|rfl)<;>simp[AObj.isLp,E4]at za
      have y1:=h1.set zb yo .dead;have yp:E.length+3≠c:=fun e=>by rw[e,h2]at zb;injection zb with e2;rw[←e2]at za;simp[AObj.isLp]at za
      have yq:E.length+3≠v':=fun e=>by rw[e,h3]at zb;injection zb with e2;rw[←e2]at za;simp[AObj.isLp]at za
      have y2:=Qc yp h2 .dead;have y3:=Qc yq h3 .dead;have y4:=Qg zb .dead;generalize H'.set (E.length+3) .dead=Y at *
      have yb:Y[b]? =some (.vars [.vptr r 0]):=y1 (b,_) (by rw[z6,z7];simp);have y0:Y[0]? =some (.vars (Wb a)):=y1 (0,_) (by rw[z6,z7];simp);have y7:Y[n7]? =some (.vars [.i n]):=y1 (n7,_) (by rw[z6];simp);have y9:Y[E.length]? =some (.vars [.i pre.length]):=y1 (E.length,_) (by rw[z6];simp);have yt:TB r p m a cl Q Y:=⟨y1 (r,_) (by rw[z6,z7];simp),y1 (p,_) (by rw[z6,z7];simp),y1 (m,_) (by rw[z6,z7];simp)⟩
      repeat first|(refine r_ ?_;simp[Qb yb])|refine q_ ?_
      refine Q4 rfl rfl (Bo _ r p m a cl Q nx (yt.keep fun j hj=> ?_) (xb nx yl) xb (by omega)) rfl ?_
      ·have:j<Y.length:=by
        rcases hj with rfl|rfl|rfl
        ·exact Qi yt.t
        ·exact Qi yt.s
        ·exact Qi yt.n
       exact zI this
      rintro res Z ⟨t,p2,rfl,xl,-,-,-,hZ,-⟩;rw[hZ yl];have yr:x00 Q nx=Q:=by rw[x00,if_pos yl]
      rw[yr]at xl;rw[ym t xl];clear hZ;simp;repeat first|(refine r_ ?_;simp[Qb y2,Qb y9])|refine q_ ?_
      have xm:∀M,(Y++M)[v']? =some (.arr 78 3 ((pre++g).map encMv)):=fun M=>Qb y3 M;refine Q4 rfl rfl (g0p (Y++[AObj.vars [.list (cc.map encL)],.vars [.i t]]) v' pre.length t (Y.length+1) pre g (by rw[zO (by omega)];simp) (xm _) (by omega) rfl) rfl ?_;rintro _ _ ⟨rfl,L,rfl⟩;simp;repeat first|(refine r_ ?_;simp)|refine q_ ?_
      have w1:=y1.app ([AObj.vars [.list (cc.map encL)],.vars [.i t]]++L);have w2:=Qb y2 ([AObj.vars [.list (cc.map encL)],.vars [.i t]]++L);have w3:=xm ([AObj.vars [.list (cc.map encL)],.vars [.i t]]++L);have w4:=Qb y4 ([AObj.vars [.list (cc.map encL)],.vars [.i t]]++L);have w5:(Y++([AObj.vars [.list (cc.map encL)],.vars [.i t]]++L))[Y.length]? =some (.vars [.list (cc.map encL)]):=by rw[zO (by omega)];simp
      have w6:(Y++([AObj.vars [.list (cc.map encL)],.vars [.i t]]++L))[Y.length+1]? =some (.vars [.i t]):=by rw[zO (by omega)];simp
      have w7:=Qb y7 ([AObj.vars [.list (cc.map encL)],.vars [.i t]]++L);have w0:=Qb y0 ([AObj.vars [.list (cc.map encL)],.vars [.i t]]++L);have w9:=Qb y9 ([AObj.vars [.list (cc.map encL)],.vars [.i t]]++L);have xn:((a.types.toNat:Nat):Int)=a.types:=by have:=zn.types;omega
      simp only[uv,List.nil_append]at w0 w1 w2 w3 w4 w5 w6 w7 w9;generalize Y++AObj.vars [.list (cc.map encL)]::AObj.vars [.i t]::L=W at *;generalize Y.length+1=i12 at *;generalize Y.length=i10 at *
      have xo:∀p∈zg,p.2≠ .dead:=by rw[z6,z7];simp[E4]
      have yu:∀p∈zg,p.2≠ .vars [.i a.types,.sl f' 1 0 (n+1),.sl v' 3 0 (pre.length+g.length)]:=by rw[z6,z7];simp[E4]
      have zy:∀p∈zg,p.2≠ .arr 78 3 ((pre++g).map encMv):=by rw[z6,z7];simp[E4]
      rw[yS]at w2;have xp:v'≠c:=fun e=>by rw[e,w2]at w3;simp at w3
      have yv:v'≠E.length+3:=fun e=>by rw[e,w4]at w3;simp at w3
      have yw:c≠E.length+3:=fun e=>by rw[e,w4]at w2;simp at w2
      have lc:=Qi w2;have lv:=Qi w3;have lq:=Qi w4;refine Qx (sl':=[(1,.vptr 0 0),(6,.vptr c 0),(7,.vptr n7 0),(9,.vptr E.length 0),(10,.vptr i10 0),(12,.vptr i12 0),(13,.i (g0g g t)),(63,.bool (decide (g0g g t<0)))]) ?_ (by simp);cases hfi:g.findIdx? fun m:Mv=>decide (m.dst=(t:Int))with
      |none=>
       have yx:g0g g t= -1:=by rw[g0g,hfi]
       have zl:T6 n g t cc=g++[⟨n,t,cc⟩]:=by rw[T6,hfi]
       rw[yx,zl];refine Qm rfl ?_;simp;repeat first|(refine r_ ?_;simp)|refine q_ ?_
       refine Qk tOk mixed [11,13] (.val 0 (.val 1 (.val 2 (.val 3 (.val 4 (.val 5 (.val 6 (.one 7 (.one 8 (.val 9 (.one 10 (.one 11 (.val 12 (.one 13 (.done))))))))))))))) rfl (by kernel_rfl) ?_;simp[w0,w2,w5,w6,w7];refine Ek W.length (e:=76) (c:=1) (xs:=[encP cc]) (by simp) ?_;simp;have xq:=Lr a.types.toNat [cc] (by have:=zn.types;omega) (fun p hp=>by rw[zW.1 hp];exact zi.2.2.2.1) (fun j hj=>v1h zi.2.2.2.1 zi.2.2.2.2 hj) (by simp);rw[xn,u1z zi.2.2.2.1]at xq;refine Qe rfl rfl (by simp) (xq) rfl ?_;rintro _ rfl;simp;have w2b:∀M,(W++M)[c]? =some (.vars [.i a.types,.sl f' 1 0 (n+1),.sl v' 3 0 (pre.length+g.length)]):=fun M=>Qb w2 M;have w2c:∀M,(W.set v' .dead++M)[c]? =some (.vars [.i a.types,.sl f' 1 0 (n+1),.sl v' 3 0 (pre.length+g.length)]):=fun M=>Qb (Qc xp w2 _) M;have zv:((pre++g).map encMv).length=pre.length+g.length:=by simp
       have vd:=(w1.set w3 zy .dead)
       generalize yy:(pre++g).map encMv=mm at *;refine Qh tOk rfl rfl T23 rfl T78 rfl (by decide) (by decide) rfl rfl rfl ?_
       simp[Qb w3,Qj w3,w2b,w2c,zv];refine⟨by simp[Wp,Qb w3,Qj w3,w2b,w2c,zv]<;>omega,?_⟩;repeat first|(refine r_ ?_;simp)|refine q_ ?_
       have zm:((W.set v' AObj.dead++[AObj.dead,AObj.arr 78 3 [.agg [.i n,.i t,.list (cc.map encL)]],AObj.arr 78 3 (mm++[.agg [.i n,.i t,.list (cc.map encL)]])]).set c (AObj.vars [.i a.types,.sl f' 1 0 (n+1),.sl (W.length+2) 3 0 (pre.length+g.length+1)]))[E.length+3]? =some .dead:=by rw[zH yw,zI (by simpa using lq),zH yv];exact w4
       refine⟨zm,rfl,((vd.app _).set (w2c _) yu _).set zm xo _,W.length+2,?_,?_,?_⟩
       ·rw[zH (Ne.symm yw),zU (by simp;omega)];simp[Nat.add_assoc]
       ·rw[zH (by omega),zH (by omega),zO (by simp)];rw[←yy];simp
       ·rw[fq,zU (Qi zm)]
      |some i=>
       have yx:g0g g t=i:=by rw[g0g,hfi]
       obtain⟨xr,hid,-⟩:=xO.1 hfi;have xt:g[i]? =some g[i]:=zP xr;have zl:T6 n g t cc=g.set i { g[i]with on:=Rk g[i].on cc }:=by rw[T6,hfi];simp[xt]
       rw[yx,zl];refine Qa rfl (fun h=>by simp at h;omega) (fun _=> ?_);have ve:IntKind.i64.wrap ((pre.length:Int)+i)=pre.length+i:=wrap_i64 _ (by omega) (by omega);have yz:(pre.length:Int)+i<pre.length+g.length:=by omega
       have vf:(0:Int)≤(pre.length:Int)+i:=by omega
       have vg:((pre.length:Int)+i).toNat=pre.length+i:=by omega
       repeat first|(refine r_ ?_;simp[w2,w9,ve,yz,vf,vg])|refine q_ ?_
       have y8:((pre++g).map encMv)[pre.length+i]? =some (.agg [.i g[i].src,.i g[i].dst,.list (g[i].on.map encL)]):=by rw[xF,zO (by simp)];simp[xt]
       have x0:((pre++g).map encMv).length=pre.length+g.length:=by simp
       generalize yy:(pre++g).map encMv=mm at *
       have x2:yW 2=[0,1]:=rfl;refine Qk tOk mixed [12] (.val 0 (.val 1 (.val 2 (.val 3 (.val 4 (.val 5 (.val 6 (.val 7 (.one 8 (.one 9 (.val 10 (.val 11 (.one 12 (.done)))))))))))))) rfl (by kernel_rfl) ?_;simp[w0,w3,w5,y8,x0,x2];refine Ek W.length (e:=76) (c:=1) (xs:=[encP g[i].on,encP cc]) (by simp) ?_;simp;have yc:=zT xr;have xu:=Lr a.types.toNat [g[i].on,cc] (by have:=zn.types;omega) (fun p hp=>by
        simp only[yL,uh,or_false]at hp;rcases hp with rfl|rfl
        ·exact zj _ yc
        ·exact zi.2.2.2.1) (fun j hj=>v19 (zj _ yc) zi.2.2.2.1 (yn _ yc) zi.2.2.2.2 hj) (by simp)
       rw[xn,x10 (zj _ yc) zi.2.2.2.1]at xu;have w3b:∀M,(W++M)[v']? =some (.arr 78 3 mm):=fun M=>Qb w3 M;refine Qe rfl rfl (by simp) (xu) rfl ?_;rintro _ rfl;simp[w3b,y8,Qj w3];repeat first|(refine r_ ?_;simp)|refine q_ ?_
       have zm:(W.set v' (AObj.arr 78 3 (mm.set (pre.length+i) (.agg [.i g[i].src,.i g[i].dst,.list ((Rk g[i].on cc).map encL)])))++[AObj.dead])[E.length+3]? =some .dead:=by rw[zI (by simpa using lq),zH yv];exact w4
       refine⟨zm,rfl,(((w1.set w3 zy _).app _).set zm xo _),v',?_,?_,?_⟩
       ·rw[zH (Ne.symm yw),zI (by simpa using lc),zH xp];rw[w2]
       ·rw[zH (Ne.symm yv),zI (by simpa using lv),zU lv];rw[←yy,xF,List.set_append_right _ _ (by simp)];simp[List.map_set]
       ·rw[fq,zU (Qi zm)]
     ·rintro _ H' ⟨v',h1,h2,h3,h4⟩;exact⟨h1,v',by simpa using h2,by simpa using h3,_,_,_,_,h4.trans fq⟩
    ·rintro res H' ⟨v',h1,h2,h3,⟨sl',yj,a',b',h6⟩⟩;refine⟨true,none,100,sl',yj,a',b',by simpa using h6,?_⟩;simp;have yp:E.length+3≠c:=fun e=>by rw[e,h2]at h6;simp at h6
     have yq:E.length+3≠v':=fun e=>by rw[e,h3]at h6;simp at h6
     have y1:=h1.set h6 (by rw[z6,z7];simp[E4]) .dead;have y2:=Qc yp h2 .dead;have y3:=Qc yq h3 .dead;generalize H'.set (E.length+3) .dead=Y at *
     repeat first|(refine r_ ?_;simp[hw])|refine q_ ?_
     refine Qd (sl':=[(1,.vptr 0 0),(2,.vptr 1 0),(3,.i 0),(4,.vptr b 0),(6,.vptr c 0),(30,.sl p 1 0 Q.length),(31,.i Q.length),(32,.i (n+1:Nat))]) ?_ (by simp);refine xk f' v' Y ⟨by omega,fun x hx=>y1 x (by rw[z6];exact xL _ hx),y2,y1 (f',_) (by rw[z6];simp),y3⟩ (by omega)
  ·have x3:n=Q.length:=by simp at y8;omega
   subst x3;have zz:Dm a cl Q Q.length=(detA a cl Q).mv:=w1o a cl Q;have x4:(Q.take Q.length).map (finB a)=(detA a cl Q).fin:=by rw[xD];exact(Me a cl Q).symm
   have vh:(detA a cl Q).fin.length=Q.length:=by rw[Me];simp
   have vi:(detA a cl Q).mv.length≤65536:=by rw[←zz];exact j0p a cl Q wb zd
   rw[zz]at gc gv;rw[x4]at gf;rw[←vh]at gc;have vj:(detA a cl Q).types=a.types:=w0s a cl Q;have yz:Zq (detA a cl Q)=if Bn (detA a cl Q)then(5,Uv)else(0,detA a cl Q):=Mt _
   rw[yz];generalize detA a cl Q=d at *
   have g1:G[1]? =some (.vars [.i 0,.nils,.nils]):=hF (1,_) (by rw[z7];simp);have yg:v≠c:=fun e=>by rw[e,gc]at gv;simp at gv
   have zt:f≠v:=fun e=>by rw[e,gv]at gf;simp at gf
   have yd:f≠c:=fun e=>by rw[e,gc]at gf;simp at gf
   have vk:f≠1:=fun e=>by rw[e,g1]at gf;simp at gf
   have vl:v≠1:=fun e=>by rw[e,g1]at gv;simp at gv
   have vm:c≠1:=fun e=>by rw[e,g1]at gc;simp at gc
   refine Qx (sl':=[(2,.vptr 1 0),(3,.i 0),(6,.vptr c 0)]) ?_ (by simp);refine We v gv c gc ?_;simp[zt];rw[zZ (by simp)];have x5:=Qi gc;have vn:=Qi gf;refine Q9 fun Z hZ=> ?_;have zc:Z[c]? =some (.vars [.i d.types,.sl f 1 0 d.fin.length,.list (d.mv.map encMv)]):=by rw[hZ,vj];exact zU (by simpa using x5)
   have zf:Z[f]? =some (.arr 4 1 (d.fin.map .bool)):=by rw[hZ,zH (Ne.symm yd),zH (Ne.symm zt)];exact gf
   have z1:Z[1]? =some (.vars [.i 0,.nils,.nils]):=by rw[hZ,zH vm,zH vl];exact g1
   clear hZ;repeat first|(refine r_ ?_;simp[zc])|refine q_ ?_
   refine Q4 rfl rfl (Gx Z f d zf (by omega) (by omega)) rfl ?_;rintro res Y ⟨hr,xv⟩;have y5:=(xv 1 (Qi z1)).trans z1;have vo:=(xv f (Qi zf)).trans zf;have x2:∀X,(Y.set 1 X)[1]? =some X:=fun X=>Qg y5 X;rcases hr with⟨hb,rfl⟩|⟨hb,rfl⟩
   ·rw[hb];simp[y5];repeat first|(refine r_ ?_;simp[x2])|refine q_ ?_
    exact⟨rfl,rfl,rfl⟩
   ·rw[hb];simp[y5];refine Qx (sl':=[(2,.vptr 1 0),(3,.i 0)]) ?_ (by simp);refine We f (Qc (Ne.symm vk) vo _) 1 (Qg y5 _) ?_;simp;rw[zZ (by simp)];refine Q9 fun X hX=> ?_;have x1:X[1]? =some (.vars [.i d.types,.list (d.fin.map .bool),.list (d.mv.map encMv)]):=by rw[hX];exact zU (by have:=Qi y5;simpa using this)
    repeat first|(refine r_ ?_;simp[x1])|refine q_ ?_
end Go.Abs
namespace Go.Abs
open Go Go.Proofs Go.Maps Go.RowKit
theorem c1j{a:Aut}(h:(R4 a).1=0):OkA (R4 a).2:=by
 have h0:(Yz a).1=0:=by
  by_cases hs:(Yz a).1=0
  ·exact hs
  ·rw[R4,if_pos hs]at h;exact absurd h hs
 obtain⟨z8,cl,Q,z7,za,z1,z6,_,_⟩:=Xc h0;have hd:R4 a=Zq (detA a cl Q):=by rw[R4,z7];simp
 rw[hd]at h ⊢;have hw:=y17 z1 z6;have e:Zq (detA a cl Q)=(0,(Zq (detA a cl Q)).2):=t8 h rfl;have h2:=g0k hw e;rw[h2.1];exact h2.1▸h2.2
def q29(l:List Bool)(i:Nat):List Bool:=l.mapIdx fun k b=>if k<i then !b else b
attribute [local irreducible] R4 A0 q29
end Go.Abs
namespace Go.Abs
open Go Go.Proofs Go.Maps Go.RowKit
theorem Mb(a:Aut):PC Tryz.prog 22 [encA a,encA a] (fun r=>r= .bool true):=by
 refine Ql tOk Tryz.func22 rfl Tryz.results22 rfl (by simp[Tryz.ntmps22]) ?_;rw[Tryz.ntmps22];simp only[Qf];simp only[encA];refine W3 0 1 rfl rfl (fun hlen=> ?_);rw[yP]at hlen;refine W3 0 2 rfl rfl (fun z6=> ?_);rw[yP]at z6;repeat first|(refine r_ ?_;simp)|refine q_ ?_
 refine Qa rfl (fun h=>by simp at h) (fun _=> ?_);repeat first|(refine r_ ?_;simp)|refine q_ ?_
 refine Qu a.fin.length (fun _=>True) (fun j=>[(2,.vptr 0 0),(3,.vptr 1 0),(5,.i j)]) (fun _=>[.vars (Wb a),.vars (Wb a)]) rfl (by simp) (by simp) (by simp) (by simp) trivial ?_;intro j hj _ ih;repeat first|(refine r_ ?_;simp)|refine q_ ?_
 refine Qa rfl (fun z7=> ?_) (fun z8=> ?_)
 ·have z1:j<a.fin.length:=by simpa using z7
  have hw:IntKind.i64.wrap ((j:Int)+1)=j+1:=wrap_i64 _ (by omega) (by omega);repeat first|(refine r_ ?_;simp)|refine q_ ?_
  refine Qk tOk mixed [] (.val 0 (.val 1 (.val 2 (.val 3 (.val 4 (.val 5 (.val 6 (.val 7 (.val 8 (.val 9 (.val 10 (.done)))))))))))) rfl (by kernel_rfl) ?_;simp[z1];refine Qa rfl (fun h=>by simp at h) (fun _=> ?_);repeat first|(refine r_ ?_;simp[hw])|refine q_ ?_
  refine Qs _ (ih z1 trivial) rfl (by simp) ?_ (by simp) (by simp);simp
 repeat first|(refine r_ ?_;simp)|refine q_ ?_
 refine Qu a.mv.length (fun _=>True) (fun j=>[(2,.vptr 0 0),(3,.vptr 1 0),(6,.i j)]) (fun _=>[.vars (Wb a),.vars (Wb a)]) rfl (by simp) (by simp) (by simp) (by simp) trivial ?_;intro j2 zb _ za;repeat first|(refine r_ ?_;simp)|refine q_ ?_
 refine Qa rfl (fun z7=> ?_) (fun z8=> ?_)
 ·have z1:j2<a.mv.length:=by simpa using z7
  have hw:IntKind.i64.wrap ((j2:Int)+1)=j2+1:=wrap_i64 _ (by omega) (by omega);repeat first|(refine r_ ?_;simp)|refine q_ ?_
  obtain⟨m,hm⟩:∃m,a.mv[j2]=m:=⟨_,rfl⟩
  refine Xb tOk mixed [12,13] (.val 0 (.val 1 (.val 2 (.val 3 (.val 4 (.val 5 (.val 7 (.three 6 (.val 8 (.three 9 (.two 10 (.one 11 (.one 12 (.one 13 (.done)))) 11 (.one 10 (.one 12 (.one 13 (.done))))) 10 (.two 9 (.one 11 (.one 12 (.one 13 (.done)))) 11 (.two 9 (.one 12 (.one 13 (.done))) 12 (.val 9 (.one 13 (.done))))) 11 (.two 9 (.one 10 (.one 12 (.one 13 (.done)))) 10 (.two 9 (.one 12 (.one 13 (.done))) 12 (.val 9 (.one 13 (.done))))))) 10 (.two 6 (.val 8 (.two 9 (.one 11 (.one 12 (.one 13 (.done)))) 11 (.two 9 (.one 12 (.one 13 (.done))) 12 (.val 9 (.one 13 (.done)))))) 11 (.two 6 (.val 8 (.two 9 (.one 12 (.one 13 (.done))) 12 (.val 9 (.one 13 (.done))))) 12 (.val 6 (.val 8 (.val 9 (.one 13 (.done))))))) 11 (.two 6 (.val 8 (.two 9 (.one 10 (.one 12 (.one 13 (.done)))) 10 (.two 9 (.one 12 (.one 13 (.done))) 12 (.val 9 (.one 13 (.done)))))) 10 (.two 6 (.val 8 (.two 9 (.one 12 (.one 13 (.done))) 12 (.val 9 (.one 13 (.done))))) 12 (.val 6 (.val 8 (.val 9 (.one 13 (.done))))))))))))))) (⟨[(2,.vptr 0 0),(3,.vptr 1 0),(6,.i j2),(7,.vptr 2 0),(8,.vptr 3 0)],[.vars (Wb a),.vars (Wb a),.vars [.i m.src,.i m.dst,.list (m.on.map encL)],.vars [.i m.src,.i m.dst,.list (m.on.map encL)]]⟩) rfl (by kernel_rfl) ?_ ?_;simp[z1,hm]
  ·repeat' apply And.intro
   all_goals first|(refine Ko ?_;simp;done)|exact Cs [0,1,3,2] (by simp) (by decide) (by simp) rfl (by simp) (by simp) (by simp)
  repeat first|(refine r_ ?_;simp)|refine q_ ?_
  refine Qe rfl rfl (by simp) (g0j m.on m.on) rfl ?_;rintro _ rfl;simp;repeat first|(refine r_ ?_;simp)|refine q_ ?_
  refine Qa rfl (fun h=>by simp at h) (fun _=> ?_);repeat first|(refine r_ ?_;simp[hw])|refine q_ ?_
  refine Qs _ (za z1 trivial) rfl (by simp) ?_ (by simp) (by simp);simp
 repeat first|(refine r_ ?_;simp)|refine q_ ?_
def Hw(lo hi:Int):Prd:=[[⟨lo,hi⟩]]
def exA:Aut:=⟨1,[false,false,true],[⟨0,0,Hw (-1099511627776) 1099511627776⟩,⟨0,1,Hw 5 1099511627776⟩,⟨1,2,Hw (-1099511627776) 7⟩]⟩
def w2y(l:List Int):List Sy:=l.map fun n=>⟨0,n⟩
def Xn(a:Aut)(w:List Sy):Bool:=y1z a && decide (w.length≤12) && (d00 a w).2==0
end Go.Abs
namespace Go.Abs
open Go Go.Proofs
def exC:List Prd:=[[[⟨-1099511627776,4⟩]],[[⟨5,7⟩]],[[⟨8,1099511627776⟩]]]
def exQ:List (List Int):=[[0],[0,1],[0,2],[0,1,2]]
def exD:Aut:=detA exA exC exQ
end Go.Abs
namespace Go.Abs
open Go Go.Proofs Go.Maps Go.RowKit
attribute [simp] T84 T86
attribute [local irreducible] exA exD R4 Yz z2w A4 A0 d00 d02 w2y j17 exQ
end Go.Abs
namespace Go.Abs
structure EqvB (n:Nat) (E:Nat→Nat→Bool):Prop where
 refl:∀i,i<n→E i i=true
 symm:∀i k,i<n→k<n→E i k=true→E k i=true
 trans:∀i k j,i<n→k<n→j<n→E i k=true→E k j=true→E i j=true
def Zn(E:Nat→Nat→Bool)(st:List Nat×List Nat)(i:Nat):List Nat×List Nat:=
 match st.1.findIdx? (E i)with
 |some t=>(st.1,st.2++[t])
 |none=>(st.1++[i],st.2++[st.1.length])
def Ai(E:Nat→Nat→Bool)(n:Nat):List Nat×List Nat:=(yW n).foldl (Zn E) ([],[])
def j1c(E:Nat→Nat→Bool)(st:Nat×List Nat)(i:Nat):Nat×List Nat:=
 match (yW i).find? (E i)with
 |some k=>(st.1,st.2++[st.2.getD k 0])
 |none=>(st.1+1,st.2++[st.1])
def y2o(E:Nat→Nat→Bool)(n:Nat):Nat×List Nat:=(yW n).foldl (j1c E) (0,[])
theorem Ci(E:Nat→Nat→Bool)(n:Nat):Ai E (n+1)=Zn E (Ai E n) n:=by rw[Ai,wT,vz];rfl
structure ClsS (E:Nat→Nat→Bool) (n:Nat) (fs out:List Nat):Prop where
 len:out.length=n
 asc:fs.Pairwise (·<·)
 lt:∀r∈fs,r<n
 apart:fs.Pairwise (fun r s=>E r s=false)
 num:∀i,i<n→∃t r,out[i]? =some t∧fs[t]? =some r∧r≤i∧E i r=true
theorem Es{α:Type}{l:List α}{i:Nat}{x:α}(h:l[i]? =some x):i<l.length:=(zE.1 h).1
theorem w0p{α:Type}{l:List α}{f:α→Bool}{t:Nat}{x:α}(ht:l[t]? =some x)(hx:f x=true)(hu:∀(i j:Nat) (a b:α),l[i]? =some a→l[j]? =some b→f a=true→f b=true→i=j):l.findIdx? f=some t:=by
 cases hf:l.findIdx? f with
 |none=>rw[vE]at hf;have:=hf x (zL ht);rw[hx]at this;cases this
 |some u=>obtain⟨z1,z6,_⟩:=xO.1 hf;rw[hu u t l[u] x (zP z1) ht z6 hx]
theorem ClsS.uniq{E:Nat→Nat→Bool}{N n:Nat}(hE:EqvB N E)(hn:n≤N){fs out:List Nat}(h:ClsS E n fs out){i:Nat}(hi:i<N){u v r s:Nat}(hr:fs[u]? =some r)(hs:fs[v]? =some s)(e1:E i r=true)(e2:E i s=true):u=v:=by
 have z7:=zL hr;have z8:=zL hs;have za:=h.lt r z7;have zb:=h.lt s z8;have z1:E r s=true:=hE.trans r i s (by omega) hi (by omega) (hE.symm i r hi (by omega) e1) e2;have z6:E s r=true:=hE.symm r s (by omega) (by omega) z1;obtain⟨hu,rfl⟩:=zE.1 hr;obtain⟨hv,rfl⟩:=zE.1 hs;rcases vS u v with k|k|k
 ·have:=(yU.1 h.apart) u v hu hv k;rw[this]at z1;cases z1
 ·exact k
 ·have:=(yU.1 h.apart) v u hv hu k;rw[this]at z6;cases z6
theorem Br{E:Nat→Nat→Bool}{N:Nat}(hE:EqvB N E):∀n,n≤N→ClsS E n (Ai E n).1 (Ai E n).2
 |0,_=>⟨rfl,by simp[Ai],by simp[Ai],by simp[Ai],fun i hi=>by omega⟩
 |n+1,hn=>by
  have h:=Br hE n (by omega);rw[Ci];generalize Ai E n=st at *
  obtain⟨fs,out⟩:=st;simp only at h;unfold Zn;simp only;cases hf:fs.findIdx? (E n)with
  |some t=>
   obtain⟨h1,h2,_⟩:=xO.1 hf;simp only;refine⟨by simp[h.len],h.asc,fun r hr=>by have:=h.lt r hr;omega,h.apart,fun i hi=> ?_⟩;by_cases e:i=n
   ·subst e;exact⟨t,fs[t],by rw[zO (by rw[h.len];omega)];simp[h.len],zP h1,by have:=h.lt _ (zT h1);omega,h2⟩
   ·obtain⟨t',r,a1,a2,a3,a4⟩:=h.num i (by omega);exact⟨t',r,by rw[zI (by rw[h.len];omega)];exact a1,a2,a3,a4⟩
  |none=>
   rw[vE]at hf;simp only;refine⟨by simp[h.len],yR.2 ⟨h.asc,by simp,fun r hr s hs=>by rw[zW.1 hs];exact h.lt r hr⟩,fun r hr=> ?_,yR.2 ⟨h.apart,by simp,fun r hr s hs=> ?_⟩,fun i hi=> ?_⟩
   ·rcases yE.1 hr with hr|hr
    ·have:=h.lt r hr;omega
    ·rw[zW.1 hr];omega
   ·rw[zW.1 hs];have z1:=h.lt r hr;have:=hf r hr;cases hc:E r n
    ·rfl
    ·rw[hE.symm r n (by omega) (by omega) hc]at this;cases this
   ·by_cases e:i=n
    ·subst e;exact⟨fs.length,i,by rw[zO (by rw[h.len];omega)];simp[h.len],by rw[zO (by omega)];simp,by omega,hE.refl i (by omega)⟩
    ·obtain⟨t',r,a1,a2,a3,a4⟩:=h.num i (by omega);exact⟨t',r,by rw[zI (by rw[h.len];omega)];exact a1,by rw[zI (Es a2)];exact a2,a3,a4⟩
theorem ClsS.first{E:Nat→Nat→Bool}{n:Nat}(hE:EqvB n E){fs out:List Nat}(h:ClsS E n fs out){t r:Nat}(ht:fs[t]? =some r):out.findIdx? (fun c=>decide (c=t))=some r:=by
 have hr:=h.lt r (zL ht);rw[xO];refine⟨by rw[h.len];exact hr,?_,fun j hj=> ?_⟩
 ·obtain⟨u,s,a1,a2,a3,a4⟩:=h.num r hr;have hu:u=t:=h.uniq hE (zV n) hr a2 ht a4 (hE.refl r hr);obtain⟨hl,e⟩:=zE.1 a1;rw[e,hu];simp
 ·obtain⟨u,s,a1,a2,a3,a4⟩:=h.num j (by omega);obtain⟨hl,e⟩:=zE.1 a1;rw[e];have:u≠t:=fun e'=>by subst e';rw[ht]at a2;cases a2;omega
  simpa using this
theorem ClsS.lt_fs{E:Nat→Nat→Bool}{n:Nat}{fs out:List Nat}(h:ClsS E n fs out){i:Nat}(hi:i<n):out.getD i 0<fs.length:=by obtain⟨t,r,a1,a2,_,_⟩:=h.num i hi;simp only[yV,a1,wH];exact Es a2
def eqW(a b:Aut)(p q:Int):Prop:=∀w,(∀x∈w,Eo a x)→q1o a p w=q1o b q w
def eqS(a:Aut)(i k:Nat):Bool:=(lkN (Yd a) ((i:Int),(k:Int))).isNone
theorem Rp{a:Aut}{i:Nat}(h:i<a.fin.length):inS a (i:Int):=⟨by omega,by omega⟩
theorem d0g{a b:Aut}(ha:Dfa a)(hb:Dfa b)(ht:b.types=a.types){p q:Int}(hp:inS a p)(hq:inS b q):(Dk a b p q).1=none↔eqW a b p q:=by
 rcases C8 ha hb ht hp hq with⟨w,h1,h2⟩|⟨h1,h2⟩
 ·rw[h1];exact⟨fun h=>(by cases h),fun h=>absurd (h w h2.okw) ((Ze a b p q w).1 h2.goodw)⟩
 ·exact⟨fun _=>h2,fun _=>h1⟩
theorem Sn{a:Aut}(ha:Dfa a){i k:Nat}(hi:i<a.fin.length)(hk:k<a.fin.length):eqS a i k=true↔eqW a a i k:=by rw[←d0g ha ha rfl (Rp hi) (Rp hk),v0u ha (Rp hi) (Rp hk),eqS];cases lkN (Yd a) ((i:Int),(k:Int))<;>simp
theorem v15{a:Aut}(ha:Dfa a):EqvB a.fin.length (eqS a):=
 ⟨fun i hi=>(Sn ha hi hi).2 fun _ _=>rfl,fun i k hi hk h=>(Sn ha hk hi).2 fun w hw=>((Sn ha hi hk).1 h w hw).symm,
  fun i k j hi hk hj h h'=>(Sn ha hi hj).2 fun w hw=>((Sn ha hi hk).1 h w hw).trans ((Sn ha hk hj).1 h' w hw)⟩
def fsA(a:Aut):List Nat:=(Ai (eqS a) a.fin.length).1
def clA(a:Aut):List Nat:=(Ai (eqS a) a.fin.length).2
theorem g1y{a:Aut}(ha:Dfa a):ClsS (eqS a) a.fin.length (fsA a) (clA a):=Br (v15 ha) _ (zV _)
end Go.Abs
namespace Go.Abs
section
variable {α:Type} (key:α→Nat×Int)
def Ly(s:List α)(x:α):Nat→Nat
 |0=>0
 |j+1=>match s[j]? with
  |some y=>if Vh (key x) (key y)=true then Ly s x j else j+1
  |none=>j+1
def d0y(s:List α)(x:α):List α:=s.take (Ly key s x s.length)++x::s.drop (Ly key s x s.length)
def c0t(L:List α):List α:=L.foldl (d0y key) []
def ltG(p q:α):Prop:=Ii (key p).1 (key p).2 (key q).1 (key q).2
theorem Je(s:List α)(x:α):∀j,j≤s.length→Ly key s x j≤j∧(∀i,Ly key s x j≤i→i<j→∀h:i<s.length,Vh (key x) (key s[i])=true)∧(∀i,i+1=Ly key s x j→∀h:i<s.length,Vh (key x) (key s[i])=false)
 |0,_=>⟨zV _,fun i _ h=>by omega,fun i h=>by simp[Ly]at h⟩
 |j+1,hj=>by
  have z1:j<s.length:=by omega
  rw[Ly,zP z1];simp only;by_cases hb:Vh (key x) (key s[j])=true
  ·rw[if_pos hb];obtain⟨h1,h2,h3⟩:=Je s x j (by omega);refine⟨by omega,fun i hi z6 hl=> ?_,h3⟩;by_cases hij:i=j
   ·subst hij;exact hb
   ·exact h2 i hi (by omega) hl
  ·rw[if_neg hb];refine⟨zV _,fun i hi z6=>by omega,fun i hi hl=> ?_⟩;have:i=j:=by omega
   subst this;simpa using hb
theorem j0l(s:List α)(x:α):(d0y key s x).Perm (x::s):=by unfold d0y;refine vQ.trans ?_;rw[wd]
theorem Bw{s:List α}{x:α}(hs:s.Pairwise (ltG key))(hd:∀y∈s,key y≠key x):(d0y key s x).Pairwise (ltG key):=by
 obtain⟨h1,h2,h3⟩:=Je key s x s.length (zV _);unfold d0y;generalize Ly key s x s.length=k at *
 have z1:=hs;rw[←wd k s]at z1;obtain⟨p1,p2,p3⟩:=yR.1 z1;have z7:∀y∈s.drop k,ltG key x y:=fun y hy=>by obtain⟨i,hi⟩:=yQ.1 hy;rw[List.getElem?_drop]at hi;obtain⟨hl,e⟩:=zE.1 hi;have:=h2 (k+i) (by omega) hl hl;rw[e]at this;exact(Rs _ _).1 this
 have z8:∀i,i+1=k→∀h:i<s.length,ltG key s[i] x:=fun i hi hl=>by
  have h4:=h3 i hi hl;have zc:=hd s[i] (zT hl);unfold ltG;rcases vS (key s[i]).1 (key x).1 with a|a|a
  ·exact .inl a
  ·rcases Int.lt_trichotomy (key s[i]).2 (key x).2 with b|b|b
   ·exact .inr ⟨a,b⟩
   ·exact absurd (t8 a b) zc
   ·have:Vh (key x) (key s[i])=true:=(Rs _ _).2 (.inr ⟨a.symm,b⟩);rw[this]at h4;cases h4
  ·have:Vh (key x) (key s[i])=true:=(Rs _ _).2 (.inl a);rw[this]at h4;cases h4
 have z6:∀y∈s.take k,ltG key y x:=fun y hy=>by
  obtain⟨i,hi⟩:=yQ.1 hy;rw[List.getElem?_take]at hi;split at hi
  ·rename_i zd;obtain⟨hl,e⟩:=zE.1 hi;obtain⟨k',rfl⟩:∃k',k=k'+1:=⟨k - 1,by omega⟩
   have za:k'<s.length:=by omega
   have zb:=z8 k' rfl za;by_cases hij:i=k'
   ·subst hij;rw[←e];exact zb
   ·have:=yU.1 hs i k' hl za (by omega);rw[e]at this;exact Ii.trans this zb
  ·cases hi
 refine yR.2 ⟨p1,yX.2 ⟨z7,p2⟩,fun y hy z hz=> ?_⟩;rcases yL.1 hz with rfl|hz
 ·exact z6 y hy
 ·exact p3 y hy z hz
theorem Kf(L:List α)(hd:L.Pairwise (fun p q=>key p≠key q)):(c0t key L).Perm L∧(c0t key L).Pairwise (ltG key):=by
 have go:∀(r s:List α),s.Pairwise (ltG key)→(s++r).Pairwise (fun p q=>key p≠key q)→(r.foldl (d0y key) s).Perm (s++r)∧(r.foldl (d0y key) s).Pairwise (ltG key):=by
  intro r;induction r with
  |nil=>intro s h _;simpa using h
  |cons x r ih=>intro s h hd;obtain⟨d1,d2,d3⟩:=yR.1 hd;have hi:=Bw key h (fun y hy=>d3 y hy x (by simp));have hp:=j0l key s x;have z1:(d0y key s x++r).Perm (s++x::r):=(hp.append_right r).trans (vQ (l₁:=s) (a:=x) (l₂:=r)).symm;have z6:(d0y key s x++r).Pairwise (fun p q=>key p≠key q):=(z1.pairwise_iff (fun h=>Ne.symm h)).2 hd;obtain⟨i1,i2⟩:=ih (d0y key s x) hi z6;rw[xY];exact⟨i1.trans z1,i2⟩
 have h:=go L [] List.Pairwise.nil (by simpa using hd);unfold c0t;simpa using h
theorem c1l{l l':List α}(hs:l.Pairwise (ltG key))(z1:l'.Pairwise (ltG key))(hp:∀x,x∈l↔x∈l'):l=l':=by have z6:∀ {X:List α},X.Pairwise (ltG key)→X.Nodup:=fun hx=>hx.imp (fun h e=>by subst e;exact Ii.irr h);refine List.Perm.eq_of_pairwise (le:=ltG key) (fun a b _ _ h k=>(Ii.irr (h.trans k)).elim) hs z1 ?_;exact(List.perm_ext_iff_of_nodup (z6 hs) (z6 z1)).2 hp
end
def clD(cl:List Nat)(m:Mv):Nat:=cl.getD m.dst.toNat 0
def kyM(m:Mv):Nat×Int:=Q1 m.on 0
def j1w(a:Aut)(cl:List Nat)(s:Int):List Mv:=(Q8 a s).foldl (fun g m=>T6 0 g (clD cl m) m.on) []
def c0g(a:Aut)(cl:List Nat)(s:Int):List Mv:=c0t kyM (j1w a cl s)
def Hy(a:Aut)(cl:List Nat)(s:Int)(t:Nat)(ty:Nat)(y:Int):Prop:=∃m∈Q8 a s,clD cl m=t∧PM m.on ty y
structure MrgS (T:Nat) (D:Nat→Nat→Int→Prop) (g:List Mv):Prop where
 wf:∀m∈g,PWf T m.on
 src:∀m∈g,m.src=0
 dst:∀m∈g,∃t:Nat,m.dst=t
 nd:g.Pairwise (fun m k=>m.dst≠k.dst)
 mem:∀m∈g,∀t:Nat,m.dst=t→∀ty y,PM m.on ty y↔D t ty y
 all:∀t ty y,D t ty y→∃m∈g,m.dst=(t:Int)
 ne:∀m∈g,∃ty y,PM m.on ty y
theorem w1v{n to:Nat}{g:List Mv}{c:Prd}{T:Nat}(hg:∀m∈g,∃ty y,PM m.on ty y)(hw:∀m∈g,PWf T m.on)(hc:PWf T c)(z1:∃ty y,PM c ty y):∀m∈T6 n g to c,∃ty y,PM m.on ty y:=by
 intro m hm;unfold T6 at hm;split at hm
 ·rcases yE.1 hm with hm|hm
  ·exact hg m hm
  ·rw[zW.1 hm];exact z1
 ·split at hm
  ·rename_i m2 z6;rcases wJ hm with hm|rfl
   ·exact hg m hm
   ·obtain⟨ty,y,h⟩:=z1;exact⟨ty,y,(Ad (hw _ (zL z6)) hc ty y).2 (.inr h)⟩
  ·exact hg m hm
theorem k1d{a:Aut}(h:WfA a){s:Int}{m:Mv}(hm:m∈Q8 a s):PWf a.types.toNat m.on∧∃ty y,PM m.on ty y:=by obtain⟨h1,h2,h3⟩:=Wu.1 hm;exact⟨h.on m h1,(R8 (h.on m h1)).1 h3⟩
theorem Xq{a:Aut}(ha:Dfa a)(cl:List Nat)(s:Int):MrgS a.types.toNat (Hy a cl s) (j1w a cl s):=by
 obtain⟨N,hN⟩:∃N,∀m∈Q8 a s,clD cl m<N:=by
  refine⟨(cl.foldl max 0)+1,fun m _=> ?_⟩;have key:∀(l:List Nat) (b:Nat),b≤l.foldl max b∧∀x∈l,x≤l.foldl max b:=by
   intro l;induction l with
   |nil=>intro b;simp
   |cons x l ih=>
    intro b;obtain⟨h1,h2⟩:=ih (max b x);rw[xY];refine⟨by omega,fun y hy=> ?_⟩;rcases yL.1 hy with rfl|hy
    ·omega
    ·exact h2 y hy
  unfold clD;by_cases hl:m.dst.toNat<cl.length
  ·have:=(key cl 0).2 _ (zT hl);simp only[yV,zP hl,wH];omega
  ·simp[yV,xA (by omega:cl.length≤m.dst.toNat)]
 have key:∀(r:List Mv) (D:Nat→Nat→Int→Prop) (g:List Mv),MInv a.types.toNat N 0 D g→(∀m∈g,∃ty y,PM m.on ty y)→(∀m∈r,m∈Q8 a s)→
   MInv a.types.toNat N 0 (fun t ty y=>D t ty y∨∃m∈r,clD cl m=t∧PM m.on ty y) (r.foldl (fun g m=>T6 0 g (clD cl m) m.on) g)∧∀m∈r.foldl (fun g m=>T6 0 g (clD cl m) m.on) g,∃ty y,PM m.on ty y:=by
  intro r;induction r with
  |nil=>intro D g h hn _;exact⟨h.congr (fun t ty y=>by simp),hn⟩
  |cons c r ih=>
   intro D g h hn hr;rw[xY];have hc:=k1d ha.ok.wfA (hr c (by simp));obtain⟨i1,i2⟩:=ih _ _ (h.add (hN c (hr c (by simp))) hc.1 hc.2) (w1v hn h.wf hc.1 hc.2) (fun d hd=>hr d (by simp[hd]));refine⟨i1.congr (fun t ty y=> ?_),i2⟩;simp only[yL,exists_eq_or_imp,or_assoc];constructor
   ·rintro(h|⟨e,h⟩|h)
    ·exact .inl h
    ·exact .inr (.inl ⟨e.symm,h⟩)
    ·exact .inr (.inr h)
   ·rintro(h|⟨e,h⟩|h)
    ·exact .inl h
    ·exact .inr (.inl ⟨e.symm,h⟩)
    ·exact .inr (.inr h)
 have h0:MInv a.types.toNat N 0 (fun _ _ _=>False) []:=⟨by simp,by simp,by simp,by simp,by simp,fun _ _ _ h=>h.elim⟩
 obtain⟨h1,h2⟩:=key (Q8 a s) _ [] h0 (by simp) (fun m hm=>hm);have h3:=h1.congr (D':=Hy a cl s) (fun t ty y=>by simp[Hy]);exact⟨h3.wf,h3.src,fun m hm=>by obtain⟨t,_,e⟩:=h3.dst m hm;exact⟨t,e⟩,h3.nd,h3.mem,h3.all,h2⟩
theorem MrgS.perm{T:Nat}{D:Nat→Nat→Int→Prop}{g g':List Mv}(h:MrgS T D g)(hp:g.Perm g'):MrgS T D g':=
 ⟨fun m hm=>h.wf m (hp.mem_iff.2 hm),fun m hm=>h.src m (hp.mem_iff.2 hm),fun m hm=>h.dst m (hp.mem_iff.2 hm),(hp.pairwise_iff (fun h=>Ne.symm h)).1 h.nd,fun m hm=>h.mem m (hp.mem_iff.2 hm),
  fun t ty y hd=>by obtain⟨m,hm,e⟩:=h.all t ty y hd;exact⟨m,hp.mem_iff.1 hm,e⟩,fun m hm=>h.ne m (hp.mem_iff.2 hm)⟩
theorem MrgS.sub{T:Nat}{D:Nat→Nat→Int→Prop}{g g':List Mv}(h:MrgS T D g)(h':MrgS T D g'){m:Mv}(hm:m∈g):m∈g':=by
 obtain⟨t,ht⟩:=h.dst m hm;obtain⟨ty,y,hy⟩:=h.ne m hm;obtain⟨k,hk,z1⟩:=h'.all t ty y ((h.mem m hm t ht ty y).1 hy);have z6:m.on=k.on:=I1 (h.wf m hm) (h'.wf k hk) fun t' n'=>by rw[h.mem m hm t ht,h'.mem k hk t z1]
 have:m=k:=by cases m;cases k;simp only at ht z1 z6;have e1:=h.src _ hm;have e2:=h'.src _ hk;simp only at e1 e2;subst z6;rw[e1,e2,ht,z1]
 rw[this];exact hk
theorem MrgS.apart{T:Nat}{D:Nat→Nat→Int→Prop}{g:List Mv}(h:MrgS T D g)(hD:∀t t' ty y,D t ty y→D t' ty y→t=t'):g.Pairwise (fun p q=>kyM p≠kyM q):=
 h.nd.imp_of_mem fun {p q} hp hq z1 e=>by obtain⟨t,ht⟩:=h.dst p hp;obtain⟨u,hu⟩:=h.dst q hq;have h1:=(W2 (h.wf p hp) (h.ne p hp)).1;have h2:=(W2 (h.wf q hq) (h.ne q hq)).1;unfold kyM at e;rw[e]at h1;have:=hD t u _ _ ((h.mem p hp t ht _ _).1 h1) ((h.mem q hq u hu _ _).1 h2);rw[ht,hu,this]at z1;exact z1 rfl
theorem MrgS.uniq{T:Nat}{D:Nat→Nat→Int→Prop}{g g':List Mv}(h:MrgS T D g)(h':MrgS T D g')(s:g.Pairwise (ltG kyM))(s':g'.Pairwise (ltG kyM)):g=g':=
 c1l kyM s s' fun _=>⟨h.sub h',h'.sub h⟩
theorem Dfa.dom{a:Aut}(ha:Dfa a){cl:List Nat}{s:Int}{t ty:Nat}{y:Int}:Hy a cl s t ty y↔(∃x:Sy,Eo a x∧x.ty.toNat=ty∧x.num=y∧∃m∈a.mv,m.src=s∧Tv m.on x=true∧cl.getD m.dst.toNat 0=t):=by
 constructor
 ·rintro⟨m,hm,h1,h2⟩;obtain⟨g1,g2,g3⟩:=Wu.1 hm;obtain⟨z6,z1⟩:=(ha.ok.wfA.on m g1).lt h2;have hx:Eo a ⟨ty,y⟩:=⟨⟨by simp,by have:=ha.ok.types;simp;omega⟩,z1⟩
  exact⟨⟨ty,y⟩,hx,by simp,rfl,m,g1,g2,(Tw ha.ok.wfA g1 hx).2 (by simpa using h2),h1⟩
 ·rintro⟨x,hx,rfl,rfl,m,hm,h1,h2,h3⟩;have hp:=(Tw ha.ok.wfA hm hx).1 h2;exact⟨m,Wu.2 ⟨hm,h1,(R8 (ha.ok.wfA.on m hm)).2 ⟨_,_,hp⟩⟩,h3,hp⟩
theorem v0m{a:Aut}(ha:Dfa a){cl:List Nat}{s:Int}(hs:inS a s){t ty:Nat}{y:Int}:Hy a cl s t ty y↔∃x:Sy,Eo a x∧x.ty.toNat=ty∧x.num=y∧cl.getD (toL a s x).toNat 0=t:=by
 rw[ha.dom];constructor
 ·rintro⟨x,hx,h1,h2,m,hm,rfl,h4,h5⟩;exact⟨x,hx,h1,h2,by rw[ha.to_of hm hx h4];exact h5⟩
 ·rintro⟨x,hx,h1,h2,h3⟩;obtain⟨m,hm,e1,e2,e3⟩:=ha.move hs hx;exact⟨x,hx,h1,h2,m,hm,e1,e2,by rw[e3];exact h3⟩
theorem z2b{x y:Sy}{a:Aut}(hx:Eo a x)(hy:Eo a y)(h:x.ty.toNat=y.ty.toNat)(h2:x.num=y.num):x=y:=by
 have:=hx.1.1;have:=hy.1.1;cases x;cases y;simp only at *
 have:∀ {a b:Int},0≤a→0≤b→a.toNat=b.toNat→a=b:=fun h0 h1 h=>by omega
 simp only[Sy.mk.injEq];exact⟨this ‹_› ‹_› h,h2⟩
theorem V8{a:Aut}(ha:Dfa a){cl:List Nat}{s:Int}(hs:inS a s){t t' ty:Nat}{y:Int}(h:Hy a cl s t ty y)(h':Hy a cl s t' ty y):t=t':=by obtain⟨x,hx,h1,h2,h3⟩:=(v0m ha hs).1 h;obtain⟨x',z1,z6,z7,z8⟩:=(v0m ha hs).1 h';have:x=x':=z2b hx z1 (h1.trans z6.symm) (h2.trans z7.symm);subst this;exact h3.symm.trans z8
theorem Gk{a:Aut}(ha:Dfa a)(cl:List Nat){s:Int}(hs:inS a s):MrgS a.types.toNat (Hy a cl s) (c0g a cl s)∧(c0g a cl s).Pairwise (ltG kyM):=by have h:=Xq ha cl s;obtain⟨h1,h2⟩:=Kf kyM (j1w a cl s) (h.apart fun t t' ty y=>V8 ha hs);exact⟨h.perm h1.symm,h2⟩
def O4(a:Aut)(cl:List Nat)(s:Int)(t:Nat):List Prd:=((Q8 a s).filter fun m=>decide (clD cl m=t)).map (·.on)
theorem u03{a:Aut}(ha:Dfa a)(cl:List Nat)(s:Int){ks:List Nat}(z7:ks.Nodup)(hk:∀t,t∈ks↔∃m∈Q8 a s,clD cl m=t):
  MrgS a.types.toNat (Hy a cl s) (ks.map fun t:Nat=>(⟨0,(t:Int),Uh a.types.toNat (O4 a cl s t)⟩:Mv)):=by
 have z1:∀t,∀p∈O4 a cl s t,PWf a.types.toNat p:=fun t p hp=>by obtain⟨m,hm,rfl⟩:=zX.1 hp;exact(k1d ha.ok.wfA (xV.1 hm).1).1
 have z6:∀t ty y,PM (Uh a.types.toNat (O4 a cl s t)) ty y↔Hy a cl s t ty y:=fun t ty y=>by
  rw[J7 (z1 t)];constructor
  ·rintro⟨p,hp,h⟩;obtain⟨m,hm,rfl⟩:=zX.1 hp;obtain⟨h1,h2⟩:=xV.1 hm;exact⟨m,h1,by simpa using h2,h⟩
  ·rintro⟨m,hm,h1,h2⟩;exact⟨m.on,zX.2 ⟨m,xV.2 ⟨hm,by simpa using h1⟩,rfl⟩,h2⟩
 refine⟨fun m hm=> ?_,fun m hm=> ?_,fun m hm=> ?_,?_,fun m hm t e ty y=> ?_,fun t ty y hd=> ?_,fun m hm=> ?_⟩
 ·obtain⟨t,_,rfl⟩:=zX.1 hm;exact Fv (z1 t)
 ·obtain⟨t,_,rfl⟩:=zX.1 hm;rfl
 ·obtain⟨t,_,rfl⟩:=zX.1 hm;exact⟨t,rfl⟩
 ·exact wS.2 (z7.imp fun h e=>h (Int.ofNat.inj e))
 ·obtain⟨u,_,rfl⟩:=zX.1 hm;have:u=t:=Int.ofNat.inj e;subst this;exact z6 u ty y
 ·obtain⟨m,hm,h1,h2⟩:=hd;exact⟨_,zX.2 ⟨t,(hk t).2 ⟨m,hm,h1⟩,rfl⟩,rfl⟩
 ·obtain⟨t,ht,rfl⟩:=zX.1 hm;obtain⟨m,hm,h1⟩:=(hk t).1 ht;obtain⟨ty,y,hp⟩:=(k1d ha.ok.wfA hm).2;exact⟨ty,y,(z6 t ty y).2 ⟨m,hm,h1,hp⟩⟩
end Go.Abs
namespace Go.Abs
def x1m(cl:List Nat)(t:Nat):Nat:=(cl.findIdx? fun c=>decide (c=t)).getD 0
def Za(a:Aut)(t:Nat):Prop:=t<(fsA a).length
def Yb(a:Aut)(s:Int):Nat:=(clA a).getD s.toNat 0
def Iz(a:Aut)(t:Nat):Nat:=x1m (clA a) t
theorem Fk{a:Aut}{s:Int}(h:inS a s):s.toNat<a.fin.length∧((s.toNat:Nat):Int)=s:=by unfold inS at h;omega
theorem P7{a:Aut}(ha:Dfa a){t:Nat}(ht:Za a t):Iz a t<a.fin.length∧Yb a (Iz a t)=t:=by
 have h:=g1y ha;have hf:=h.first (v15 ha) (zP ht);have hr:Iz a t=(fsA a)[t]:=by rw[Iz,x1m,hf];rfl
 rw[xO]at hf;obtain⟨h1,h2,_⟩:=hf;rw[hr];refine⟨by rw[h.len]at h1;exact h1,?_⟩;simp only[Yb,Int.toNat_natCast,yV,zP h1,wH];simpa using h2
theorem q06{a:Aut}(ha:Dfa a){t:Nat}(ht:Za a t):inS a (Iz a t:Int):=Rp (P7 ha ht).1
theorem N8{a:Aut}(ha:Dfa a){s:Int}(hs:inS a s):Za a (Yb a s):=(g1y ha).lt_fs (Fk hs).1
def Dv(o:List Nat)(c:Nat):List Nat:=if c∈o then o else o++[c]
def Wk(o:List Nat)(l:List Mv):List Nat:=l.foldl (fun o m=>Dv o m.dst.toNat) o
def Ps(a:Aut)(t:Nat):List Mv:=c0g a (clA a) (Iz a t:Int)
def Gu(a:Aut):Nat→Nat→List Nat→List Nat
 |0,_,o=>o
 |f+1,n,o=>match o[n]? with
  |none=>o
  |some c=>Gu a f (n+1) (Wk o (Ps a c))
def x0z(a:Aut):List Nat:=Gu a (a.fin.length+1) 0 [Yb a 0]
def Zg(o:List Nat)(c:Nat):Nat:=(o.findIdx? fun d=>decide (d=c)).getD 0
def mvN(a:Aut)(o:List Nat)(n:Nat):List Mv:=(Ps a (o.getD n 0)).map fun m=>⟨n,(Zg o m.dst.toNat:Int),m.on⟩
def Hi(a:Aut)(o:List Nat):Aut:=⟨a.types,o.map fun c=>a.fin.getD (Iz a c) false,(yW o.length).flatMap (mvN a o)⟩
def Ev(a:Aut):Aut:=Hi a (x0z a)
theorem D0(o:List Nat)(c:Nat):∃r,Dv o c=o++r∧∀x∈r,x=c:=by
 unfold Dv;split
 ·exact⟨[],by simp,by simp⟩
 ·exact⟨[c],rfl,fun x hx=>zW.1 hx⟩
theorem w0b(o:List Nat)(c:Nat):c∈Dv o c:=by
 unfold Dv;split
 ·assumption
 ·simp
theorem z02{o:List Nat}(h:o.Nodup)(c:Nat):(Dv o c).Nodup:=by
 unfold Dv;split
 ·exact h
 ·rename_i hc;exact vT.2 ⟨h,by simp,fun x hx y hy e=>by rw[zW.1 hy]at e;exact hc (e▸hx)⟩
theorem Pm:∀(l:List Mv) (o:List Nat),o.Nodup→(∃r,Wk o l=o++r∧∀x∈r,∃m∈l,x=m.dst.toNat)∧(Wk o l).Nodup∧∀m∈l,m.dst.toNat∈Wk o l
 |[],o,h=>⟨⟨[],by simp[Wk],by simp⟩,h,by simp⟩
 |m::l,o,h=>by
  obtain⟨⟨r,h1,h2⟩,h3,h4⟩:=Pm l (Dv o m.dst.toNat) (z02 h _);obtain⟨r',h5,h6⟩:=D0 o m.dst.toNat;have he:Wk o (m::l)=Wk (Dv o m.dst.toNat) l:=rfl;rw[he];refine⟨⟨r'++r,by rw[h1,h5,xZ],fun x hx=> ?_⟩,h3,fun k hk=> ?_⟩
  ·rcases yE.1 hx with hx|hx
   ·exact⟨m,by simp,h6 x hx⟩
   ·obtain⟨k,hk,e⟩:=h2 x hx;exact⟨k,by simp[hk],e⟩
  ·rcases yL.1 hk with rfl|hk
   ·rw[h1];exact xL _ (w0b _ _)
   ·exact h4 k hk
theorem Zp{a:Aut}(ha:Dfa a){t:Nat}(ht:Za a t){m:Mv}(hm:m∈Ps a t):∃x,Eo a x∧m.dst=(Yb a (toL a (Iz a t) x):Nat)∧inS a (toL a (Iz a t) x)∧Za a (Yb a (toL a (Iz a t) x))∧PM m.on x.ty.toNat x.num:=by have hs:=q06 ha ht;have h:=(Gk ha (clA a) hs).1;obtain⟨u,hu⟩:=h.dst m hm;obtain⟨ty,y,hy⟩:=h.ne m hm;obtain⟨x,hx,rfl,rfl,h3⟩:=(v0m ha hs).1 ((h.mem m hm u hu ty y).1 hy);have z1:=(ha.next hs hx).1;exact⟨x,hx,by rw[hu,←h3];rfl,z1,N8 ha z1,hy⟩
structure OrdS (a:Aut) (o:List Nat):Prop where
 first:o[0]? =some (Yb a 0)
 nd:o.Nodup
 cl:∀c∈o,Za a c
 closed:∀c∈o,∀m∈Ps a c,m.dst.toNat∈o
theorem g0t{a:Aut}(ha:Dfa a):(fsA a).length≤a.fin.length:=by
 have h:=g1y ha;have z1:(fsA a).Nodup:=h.asc.imp fun h e=>by omega
 have:=z1.length_le_of_subset (l₂:=yW a.fin.length) fun r hr=>xH.2 (h.lt r hr);simpa using this
theorem j03{a:Aut}(ha:Dfa a){o:List Nat}(hn:o.Nodup)(hc:∀c∈o,Za a c):o.length≤a.fin.length:=by have:=hn.length_le_of_subset (l₂:=yW (fsA a).length) fun c hx=>xH.2 (hc c hx);have h2:=g0t ha;simp at this;omega
theorem Zz{a:Aut}(ha:Dfa a):∀(f n:Nat) (o:List Nat),a.fin.length+1≤n+f→n≤o.length→o[0]? =some (Yb a 0)→o.Nodup→(∀c∈o,Za a c)→(∀i c,i<n→o[i]? =some c→∀m∈Ps a c,m.dst.toNat∈o)→OrdS a (Gu a f n o)
 |0,n,o,hf,hn,h0,z6,z1,hc=>by have:=j03 ha z6 z1;omega
 |f+1,n,o,hf,hn,h0,z6,z1,hc=>by
  unfold Gu;cases hon:o[n]? with
  |none=>
   simp only;have hl:o.length≤n:=by simpa using hon
   refine⟨h0,z6,z1,fun c hx m hm=> ?_⟩;obtain⟨i,hi⟩:=yQ.1 hx;exact hc i c (by have:=Es hi;omega) hi m hm
  |some c=>
   simp only;have z8:=Es hon;obtain⟨⟨r,h1,h2⟩,h3,h4⟩:=Pm (Ps a c) o z6;have z7:=z1 c (zL hon);refine Zz ha f (n+1) _ (by omega) (by rw[h1,yS];omega) ?_ h3 (fun d hd=> ?_) fun i d hi hd m hm=> ?_
   ·rw[h1,zI (by omega)];exact h0
   ·rw[h1]at hd;rcases yE.1 hd with hd|hd
    ·exact z1 d hd
    ·obtain⟨m,hm,e⟩:=h2 d hd;obtain⟨x,_,e2,_,e4,_⟩:=Zp ha z7 hm;rw[e,e2];simpa using e4
   ·rw[h1,zI (by omega)]at hd;by_cases e:i=n
    ·subst e;rw[hon]at hd;cases hd;exact h4 m hm
    ·rw[h1];exact xL _ (hc i d (by omega) hd m hm)
theorem C3{a:Aut}(ha:Dfa a):OrdS a (x0z a):=
 Zz ha _ 0 _ (by omega) (by simp) rfl (by simp) (fun c hc=>by rw[zW.1 hc];exact N8 ha ha.zero) (fun i c hi=>by omega)
section
variable {a b:Aut} (ha:Dfa a) (hb:Dfa b) (ht:b.types=a.types)
def y2b(a b:Aut)(c d:Nat):Prop:=Za a c∧Za b d∧eqW a b (Iz a c) (Iz b d)
structure LkO (a b:Aut) (o o':List Nat):Prop where
 len:o.length=o'.length
 k:∀(i c d:Nat),o[i]? =some c→o'[i]? =some d→y2b a b c d
theorem Bj{a b:Aut}(ht:b.types=a.types){x:Sy}:Eo b x↔Eo a x:=by unfold Eo;rw[ht]
include ha hb ht
end
end Go.Abs
namespace Go.Abs
theorem j16{α:Type}{l:List α}(h:l.Nodup){i j:Nat}(hi:i<l.length)(hj:j<l.length)(e:l[i]=l[j]):i=j:=by
 rcases vS i j with k|k|k
 ·exact absurd e (yU.1 h i j hi hj k)
 ·exact k
 ·exact absurd e.symm (yU.1 h j i hj hi k)
theorem u0c{o:List Nat}(hn:o.Nodup){i c:Nat}(h:o[i]? =some c):Zg o c=i:=by
 unfold Zg;have:(o.findIdx? fun d=>decide (d=c))=some i:=w0p h (by simp) fun i j x y hx hy e1 e2=>by
  have e3:x=c:=by simpa using e1
  have e4:y=c:=by simpa using e2
  subst e3 e4;obtain⟨hi,e5⟩:=zE.1 hx;obtain⟨hj,e6⟩:=zE.1 hy;exact j16 hn hi hj (e5.trans e6.symm)
 rw[this];rfl
theorem c05{o:List Nat}(hn:o.Nodup){c:Nat}(h:c∈o):o[Zg o c]? =some c:=by obtain⟨i,hi⟩:=yQ.1 h;rw[u0c hn hi];exact hi
theorem Hd{a:Aut}{o:List Nat}{m:Mv}:m∈(Hi a o).mv↔∃(n c:Nat),o[n]? =some c∧∃k∈Ps a c,m=⟨n,(Zg o k.dst.toNat:Int),k.on⟩:=by
 unfold Hi mvN;simp only[List.mem_flatMap,xH,zX];constructor
 ·rintro⟨n,hn,k,hk,rfl⟩;have e:o.getD n 0=o[n]:=by simp[yV,hn]
  rw[e]at hk;exact⟨n,_,zP hn,k,hk,rfl⟩
 ·rintro⟨n,c,hn,k,hk,rfl⟩;have e:o.getD n 0=c:=by simp[yV,hn]
  exact⟨n,Es hn,k,by rw[e];exact hk,rfl⟩
theorem f0g{a:Aut}(o:List Nat):(Hi a o).fin.length=o.length:=by simp[Hi]
theorem Bs(a:Aut):(Ev a).types=a.types:=rfl
theorem y1i{a:Aut}(ha:Dfa a):WfA (Ev a):=by
 have ho:=C3 ha;have z1:(Ev a).fin.length=(x0z a).length:=f0g _;have z6:=Es ho.first;refine⟨ha.ok.types,by omega,fun m hm=> ?_,fun m hm=> ?_,fun m hm=> ?_⟩
 ·obtain⟨n,c,hn,k,hk,rfl⟩:=Hd.1 hm;have:=Es hn;rw[z1];exact⟨by simp,by simpa using this⟩
 ·obtain⟨n,c,hn,k,hk,rfl⟩:=Hd.1 hm;have:=Es (c05 ho.nd (ho.closed c (zL hn) k hk));rw[z1];exact⟨by simp,by simpa using this⟩
 ·obtain⟨n,c,hn,k,hk,rfl⟩:=Hd.1 hm;exact(Gk ha (clA a) (q06 ha (ho.cl c (zL hn)))).1.wf k hk
theorem P8{α β:Type}(rs:List β)(hn:rs.Nodup)(p:β→α→Bool)(hp:∀s t x,p s x=true→p t x=true→s=t):∀l:List α,(rs.map fun s=>(l.filter (p s)).length).sum≤l.length
 |[]=>by have:(rs.map fun s=>(([]:List α).filter (p s)).length)=rs.map fun _=>0:=List.map_congr_left fun s _=>rfl;rw[this,List.map_const'];simp
 |x::l=>by
  have ih:=P8 rs hn p hp l;have key:∀(rs:List β),rs.Nodup→(rs.map fun s=>((x::l).filter (p s)).length).sum≤(rs.map fun s=>(l.filter (p s)).length).sum+(bif rs.any (fun s=>p s x)then 1 else 0):=by
   intro rs;induction rs with
   |nil=>intro _;simp
   |cons s rs ih2=>
    intro z1;obtain⟨z6,z7⟩:=List.nodup_cons.1 z1;have:=ih2 z7;simp only[xI,uE,List.any_cons];by_cases hps:p s x=true
    ·have z8:rs.any (fun s=>p s x)=false:=by rw[vM];intro t ht za;exact z6 (hp s t x hps za▸ht)
     rw[z8]at this;rw[List.filter_cons_of_pos hps,hps];simp only[Bool.true_or,cond_true,cond_false,y_]at this ⊢;omega
    ·rw[List.filter_cons_of_neg hps,show p s x=false by simpa using hps];simp only[Bool.false_or];omega
  have:=key rs hn;rw[y_];cases hc:rs.any (fun s=>p s x)<;>rw[hc]at this<;>simp only[cond_true,cond_false]at this<;>omega
theorem q1v(a:Aut)(cl:List Nat)(s:Int):(j1w a cl s).length≤(Q8 a s).length:=by
 have h1:∀(n:Nat) (g:List Mv) (to:Nat) (c:Prd),(T6 n g to c).length≤g.length+1:=fun n g to c=>by
  unfold T6;split
  ·simp
  ·split<;>simp
 have h2:∀(r g:List Mv),(r.foldl (fun g m=>T6 0 g (clD cl m) m.on) g).length≤g.length+r.length:=by
  intro r;induction r with
  |nil=>intro g;simp
  |cons m r ih=>intro g;have e:=ih (T6 0 g (clD cl m) m.on);have e2:=h1 0 g (clD cl m) m.on;rw[xY,y_];omega
 have:=h2 (Q8 a s) [];simpa[j1w]using this
theorem Lt{a:Aut}(ha:Dfa a){t:Nat}(ht:Za a t):(Ps a t).length≤(Q8 a (Iz a t)).length:=by have h:=Xq ha (clA a) (Iz a t);have hp:=(Kf kyM (j1w a (clA a) (Iz a t)) (h.apart fun t' t'' ty y=>V8 ha (q06 ha ht))).1.length_eq;have:=q1v a (clA a) (Iz a t);unfold Ps c0g;omega
theorem v0z{a:Aut}(ha:Dfa a):(Ev a).mv.length≤a.mv.length:=by
 have ho:=C3 ha;have z1:∀c∈x0z a,∀d∈x0z a,Iz a c=Iz a d→c=d:=fun c hc d hd e=>by have e1:=(P7 ha (ho.cl c hc)).2;have e2:=(P7 ha (ho.cl d hd)).2;rw[←e1,←e2,e]
 have hlen:(Ev a).mv.length=((x0z a).map fun c=>(Ps a c).length).sum:=by
  unfold Ev Hi;simp only[List.length_flatMap]
  congr 1
  refine wN (by simp) fun i h1 h2=> ?_;have hi:i<(x0z a).length:=by simpa using h1
  simp[mvN,yV,hi]
 have hle:((x0z a).map fun c=>(Ps a c).length).sum≤(((x0z a).map fun c=>((Iz a c:Nat):Int)).map fun s=>(Q8 a s).length).sum:=by
  rw[List.map_map];have key:∀l:List Nat,(∀c∈l,Za a c)→(l.map fun c=>(Ps a c).length).sum≤(l.map ((fun s=>(Q8 a s).length)∘fun c=>((Iz a c:Nat):Int))).sum:=by
   intro l;induction l with
   |nil=>intro _;simp
   |cons c l ih=>intro hc;have h1:=ih fun d hd=>hc d (by simp[hd]);have h2:=Lt ha (hc c (by simp));simp only[xI,uE,Function.comp_apply];omega
  exact key _ ho.cl
 have z6:((x0z a).map fun c=>((Iz a c:Nat):Int)).Nodup:=by refine wS.2 ?_;refine List.Pairwise.imp_of_mem ?_ ho.nd;intro c d hc hd z7 e;exact z7 (z1 c hc d hd (by omega))
 have:=P8 _ z6 (fun s (m:Mv)=>decide (m.src=s) && !Wo m.on) (fun s t x h1 h2=>by
  simp only[yT,decide_eq_true_eq]at h1 h2;rw[←h1.1,←h2.1]) a.mv
 rw[hlen];unfold Q8 at hle;omega
def Bf(m:Aut):Bool:=m.mv.any fun k=>k.on.any fun s=>decide (256<s.length)
section
variable {a:Aut} (ha:Dfa a) (hb:Bf (Ev a)=false)
include ha hb
end
def Jp(a:Aut):Int×Aut:=if(R4 a).1≠0 then((R4 a).1,Uv)else if(A0 (R4 a).2).1≠0 then((A0 (R4 a).2).1,Uv)else
 if Bf (Ev (A0 (R4 a).2).2)then(5,Uv)else(0,Ev (A0 (R4 a).2).2)
theorem u1b{a d c:Aut}(h:OkA a)(hd:R4 a=(0,d))(hc:A0 d=(0,c)):Dfa c∧c.types=a.types∧∀w,(∀x∈w,Eo a x)→J0 c w=J0 a w:=by obtain⟨Q,_,_,_,_,_,z1,ddet,z6,dacc⟩:=w1q h hd;obtain⟨z7,z8,cfull,cdet,cacc⟩:=w15 z1 hc;exact⟨⟨z7,cdet ddet,cfull⟩,z8.trans z6,fun w hw=>(cacc w).trans (dacc w hw)⟩
end Go.Abs
namespace Go.Abs
def addI(o:List Int)(c:Int):List Int:=if c∈o then o else o++[c]
def d0v(o:List Int)(l:List Int):List Int:=l.foldl addI o
def k05(sc:Int→List Int):Nat→Nat→List Int→List Int
 |0,_,o=>o
 |f+1,n,o=>match o[n]? with
  |none=>o
  |some c=>k05 sc f (n+1) (d0v o (sc c))
structure SrchS (sc:Int→List Int) (o:List Int):Prop where
 nd:o.Nodup
 zero:(0:Int)∈o
 closed:∀c∈o,∀d∈sc c,d∈o
 least:∀S:Int→Prop,S 0→(∀c d,S c→d∈sc c→S d)→∀c∈o,S c
def z2l(a:Aut)(c:Int):List Int:=(Q8 a c).map (·.dst)
def y2k(a:Aut)(c:Int):List Int:=(Ab a a).map (toL a c)
def f1e(a:Aut):Bool:=(k05 (z2l a) (a.fin.length+1) 0 [0]).length==a.fin.length
def y2j(a:Aut):Bool:=(k05 (y2k a) (a.fin.length+1) 0 [0]).length==a.fin.length
end Go.Abs
namespace Go.Abs
structure Dta (a:Aut):Prop where
 ok:OkA a
 det:U2 a
theorem q22{α:Type}{R:α→α→Prop}{l:List α}(h:l.Pairwise R){x y:α}(hx:x∈l)(hy:y∈l)(h1:¬R x y)(h2:¬R y x):x=y:=by
 obtain⟨i,hi,rfl⟩:=xG hx;obtain⟨j,hj,rfl⟩:=xG hy;rcases vS i j with k|k|k
 ·exact absurd (yU.1 h i j hi hj k) h1
 ·subst k;rfl
 ·exact absurd (yU.1 h j i hj hi k) h2
theorem Dta.one{a:Aut}(h:Dta a){m k:Mv}(hm:m∈a.mv)(hk:k∈a.mv)(hs:m.src=k.src){x:Sy}(hx:Eo a x)(h1:Tv m.on x=true)(h2:Tv k.on x=true):m=k:=
 q22 h.det hm hk (fun hr=>hr hs x hx ⟨h1,h2⟩) (fun hr=>hr hs.symm x hx ⟨h2,h1⟩)
theorem Dta.to_of{a:Aut}(h:Dta a){m:Mv}(hm:m∈a.mv){x:Sy}(hx:Eo a x)(hh:Tv m.on x=true):toL a m.src x=m.dst:=by
 unfold toL;cases hf:a.mv.find? (fun k=>decide (k.src=m.src) && Tv k.on x)with
 |none=>rw[ue]at hf;have:=hf m hm;simp[hh]at this
 |some k=>have h1:=tU hf;simp only[yT,decide_eq_true_eq]at h1;rw[h.one (ug hf) hm h1.1 hx h1.2 hh]
theorem Ur{a:Aut}(s:Int)(x:Sy):(toL a s x= -1∧∀m∈a.mv,m.src=s→Tv m.on x=false)∨∃m∈a.mv,m.src=s∧Tv m.on x=true∧toL a s x=m.dst:=by
 unfold toL;cases hf:a.mv.find? (fun k=>decide (k.src=s) && Tv k.on x)with
 |none=>rw[ue]at hf;refine .inl ⟨rfl,fun m hm e=> ?_⟩;have:=hf m hm;simpa[e]using this
 |some k=>have h1:=tU hf;simp only[yT,decide_eq_true_eq]at h1;exact .inr ⟨k,ug hf,h1.1,h1.2,rfl⟩
theorem V0{a:Aut}(h:OkA a)(s:Int)(x:Sy):toL a s x= -1∨inS a (toL a s x):=by
 rcases Ur (a:=a) s x with⟨h1,_⟩|⟨m,hm,_,_,e⟩
 ·exact .inl h1
 ·rw[e];exact .inr (h.mv m hm).dst
def wkS(a:Aut)(s:Int):List Sy→Option Int
 |[]=>some s
 |x::w=>if toL a s x<0 then none else wkS a (toL a s x) w
theorem L1(a:Aut):∀(w:List Sy) (s:Int) (x:Sy),wkS a s (w++[x])=(wkS a s w).bind fun t=>if toL a t x<0 then none else some (toL a t x)
 |[],s,x=>by simp[wkS]
 |y::w,s,x=>by
  rw[uv,wkS,wkS];split
  ·rfl
  ·exact L1 a w _ x
def fAt(f:List Int)(s:Int):Int:=f.getD s.toNat (-1)
structure IsoT (a b:Aut) (f:List Int):Prop where
 len:f.length=a.fin.length
 zero:fAt f 0=0
 low:∀q∈f,-1≤q
 fin:∀s,inS a s→0≤fAt f s→a.fin.getD s.toNat false=b.fin.getD (fAt f s).toNat false
 step:∀s,inS a s→0≤fAt f s→∀x,Eo a x→(toL a s x<0↔toL b (fAt f s) x<0)∧(0≤toL a s x→fAt f (toL a s x)=toL b (fAt f s) x)
 inj:∀s t,inS a s→inS a t→0≤fAt f s→fAt f s=fAt f t→s=t
 reach:∀s,inS a s→0≤fAt f s→∃w,(∀x∈w,Eo a x)∧wkS a 0 w=some s∧wkS b 0 w=some (fAt f s)
theorem IsoT.walk{a b:Aut}(ha:OkA a){f:List Int}(h:IsoT a b f):∀(w:List Sy) (s t:Int),(∀x∈w,Eo a x)→inS a s→0≤fAt f s→wkS a s w=some t→inS a t∧0≤fAt f t∧wkS b (fAt f s) w=some (fAt f t)
 |[],s,t,_,hs,h0,e=>by simp only[wkS,Option.some.injEq]at e;subst e;exact⟨hs,h0,rfl⟩
 |x::w,s,t,hw,hs,h0,e=>by
  rw[wkS]at e;split at e
  ·cases e
  ·rename_i z1;have hx:=hw x (by simp);obtain⟨h1,h2⟩:=h.step s hs h0 x hx;have hb:¬toL b (fAt f s) x<0:=fun k=>z1 (h1.2 k);have h3:=h2 (by omega);have z6:inS a (toL a s x):=(V0 ha s x).resolve_left (by omega);have:=h.walk ha w (toL a s x) t (fun y hy=>hw y (by simp[hy])) z6 (by omega) e;rw[wkS,if_neg hb,←h3];exact this
theorem j1o{f g:List Int}(hl:f.length=g.length)(h:∀i:Nat,i<f.length→fAt f i=fAt g i):f=g:=by refine wN hl fun i h1 h2=> ?_;have:=h i h1;simpa[fAt,yV,h1,h2]using this
theorem x05{f:List Int}(h:∀q∈f,-1≤q)(s:Int): -1≤fAt f s:=by
 unfold fAt;by_cases hl:s.toNat<f.length
 ·simp only[yV,zP hl,wH];exact h _ (zT hl)
 ·simp[yV,xA (by omega:f.length≤s.toNat)]
theorem IsoT.uniq{a b:Aut}(ha:OkA a){f g:List Int}(hf:IsoT a b f)(hg:IsoT a b g):f=g:=by
 have key:∀ {f g:List Int},IsoT a b f→IsoT a b g→∀s,inS a s→0≤fAt f s→fAt g s=fAt f s:=fun {f g} hf hg s hs h0=>by
  obtain⟨w,hw,e1,e2⟩:=hf.reach s hs h0;have hz:inS a 0:=⟨xB _,by have:=ha.fin;omega⟩
  have:=(hg.walk ha w 0 s hw hz (by rw[hg.zero];omega) e1).2.2;rw[hg.zero,e2]at this;exact(Option.some.inj this).symm
 refine j1o (by rw[hf.len,hg.len]) fun i hi=> ?_;have hs:inS a (i:Int):=Rp (by rw[←hf.len];exact hi);by_cases h1:0≤fAt f i
 ·exact(key hf hg i hs h1).symm
 ·by_cases h2:0≤fAt g i
  ·exact key hg hf i hs h2
  ·have:=x05 hf.low i;have:=x05 hg.low i;omega
def Ej(st:List Int×List Int)(e:Int×Int):Option (List Int×List Int):=
 if fAt st.1 e.1=e.2 then some st else if 0≤fAt st.1 e.1∨e.2∈st.1 then none else some (st.1.set e.1.toNat e.2,st.2++[e.1])
def Wx:List (Int×Int)→List Int×List Int→Option (List Int×List Int)
 |[],st=>some st
 |e::es,st=>(Ej st e).bind (Wx es)
def M1(chk:Int→Int→Bool)(ps:Int→Int→List (Int×Int)):Nat→Nat→List Int×List Int→Option (List Int)
 |0,_,st=>some st.1
 |f+1,n,st=>match st.2[n]? with
  |none=>some st.1
  |some p=>if chk p (fAt st.1 p)then(Wx (ps p (fAt st.1 p)) st).bind (M1 chk ps f (n+1))else none
def Lf(a:Aut):List Int×List Int:=((yB a.fin.length (-1)).set 0 0,[0])
structure IsoI (a b:Aut) (st:List Int×List Int):Prop where
 len:st.1.length=a.fin.length
 zero:fAt st.1 0=0
 low:∀q∈st.1,-1≤q
 mem:∀s,s∈st.2↔inS a s∧0≤fAt st.1 s
 nd:st.2.Nodup
 inj:∀s t,inS a s→inS a t→0≤fAt st.1 s→fAt st.1 s=fAt st.1 t→s=t
 reach:∀s,inS a s→0≤fAt st.1 s→∃w,(∀x∈w,Eo a x)∧wkS a 0 w=some s∧wkS b 0 w=some (fAt st.1 s)
 rng:∀s,inS a s→0≤fAt st.1 s→inS b (fAt st.1 s)
theorem IsoI.agree{a b:Aut}(ha:OkA a){st:List Int×List Int}(h:IsoI a b st){g:List Int}(hg:IsoT a b g){s:Int}(hs:inS a s)(h0:0≤fAt st.1 s):fAt g s=fAt st.1 s:=by
 obtain⟨w,hw,e1,e2⟩:=h.reach s hs h0;have hz:inS a 0:=⟨xB _,by have:=ha.fin;omega⟩
 have:=(hg.walk ha w 0 s hw hz (by rw[hg.zero];omega) e1).2.2;rw[hg.zero,e2]at this;exact(Option.some.inj this).symm
theorem Ba{f:List Int}{s t q:Int}(hs:0≤s)(ht:0≤t)(hl:s.toNat<f.length):fAt (f.set s.toNat q) t=if t=s then q else fAt f t:=by
 unfold fAt;by_cases e:t=s
 ·subst e;rw[if_pos rfl];simp[yV,zU hl]
 ·rw[if_neg e];simp only[yV];rw[zH (by omega)]
theorem IsoI.one{a b:Aut}(ha:OkA a)(hb:OkA b){st:List Int×List Int}(h:IsoI a b st){p:Int}(hp:p∈st.2){x:Sy}(hx:Eo a x){s t:Int}(hs:toL a p x=s)(ht:toL b (fAt st.1 p) x=t)(s0:0≤s)(t0:0≤t):
  (∃st',Ej st (s,t)=some st'∧IsoI a b st'∧(∀u,inS a u→0≤fAt st.1 u→fAt st'.1 u=fAt st.1 u)∧(∃r,st'.2=st.2++r)∧fAt st'.1 s=t)∨(Ej st (s,t)=none∧¬ ∃g,IsoT a b g):=by
 obtain⟨za,zb⟩:=(h.mem p).1 hp;have z7:inS a s:=(V0 ha p x).elim (fun k=>by omega) (fun k=>by rw[←hs];exact k)
 have zg:inS b t:=(V0 hb (fAt st.1 p) x).elim (fun k=>by omega) (fun k=>by rw[←ht];exact k)
 have zh:s.toNat<st.1.length:=by rw[h.len];have:=z7;unfold inS at this;omega
 have hg:∀g,IsoT a b g→fAt g s=t:=fun g hg=>by have e:=h.agree ha hg za zb;have:=(hg.step p za (by rw[e];exact zb) x hx).2 (by rw[hs];exact s0);rw[hs,e,ht]at this;exact this
 unfold Ej;simp only;by_cases h1:fAt st.1 s=t
 ·rw[if_pos h1];exact .inl ⟨st,rfl,h,fun _ _ _=>rfl,⟨[],by simp⟩,h1⟩
 ·rw[if_neg h1];by_cases h2:0≤fAt st.1 s∨t∈st.1
  ·rw[if_pos h2];refine .inr ⟨rfl,?_⟩;rintro⟨g,z8⟩;have e1:=hg g z8;rcases h2 with h2|h2
   ·have:=h.agree ha z8 z7 h2;exact h1 (this.symm.trans e1)
   ·obtain⟨i,hi,e2⟩:=xG h2;have zd:inS a (i:Int):=Rp (by rw[←h.len];exact hi);have e3:fAt st.1 (i:Int)=t:=by simpa[fAt,yV,hi]using e2
    have e4:=h.agree ha z8 zd (by rw[e3];exact t0);have e5:=z8.inj s i z7 zd (by rw[e1];exact t0) (by rw[e1,e4,e3]);rw[←e5]at e3;exact h1 e3
  ·rw[if_neg h2];have ze:∀u,inS a u→fAt st.1 u≠t:=fun u hu e=>by
    refine h2 (.inr ?_);have zf:u.toNat<st.1.length:=by rw[h.len];unfold inS at hu;omega
    unfold fAt at e;simp only[yV,zP zf,wH]at e;rw[←e];exact zT zf
   have zc:fAt st.1 s<0:=by
    rcases sm (fAt st.1 s) 0 with k|k
    ·exact k
    ·exact absurd (.inl k) h2
   have z1:∀u,0≤u→fAt (st.1.set s.toNat t) u=if u=s then t else fAt st.1 u:=fun u hu=>Ba s0 hu zh
   have zi:∀u,inS a u→0≤u:=fun u hu=>hu.1;refine .inl ⟨_,rfl,⟨by simpa using h.len,?_,fun q hq=> ?_,fun u=> ?_,?_,fun u v hu hv z6 e=> ?_,fun u hu z6=> ?_,fun u hu z6=> ?_⟩,fun u hu z6=> ?_,⟨[s],rfl⟩,?_⟩
   ·rw[z1 0 (xB _)];split
    ·rename_i e;exfalso;rw[←e,h.zero]at zc;omega
    ·exact h.zero
   ·rcases wJ hq with hq|rfl
    ·exact h.low q hq
    ·omega
   ·simp only[yE,zW];rw[h.mem];constructor
    ·rintro(⟨k1,k2⟩|rfl)
     ·refine⟨k1,?_⟩;rw[z1 u k1.1];split
      ·exact t0
      ·exact k2
     ·exact⟨z7,by rw[z1 u s0,if_pos rfl];exact t0⟩
    ·rintro⟨k1,k2⟩;rw[z1 u k1.1]at k2;by_cases e:u=s
     ·exact .inr e
     ·rw[if_neg e]at k2;exact .inl ⟨k1,k2⟩
   ·exact vT.2 ⟨h.nd,by simp,fun u hu v hv e=>by
     rw[zW.1 hv]at e;subst e;have:=((h.mem u).1 hu).2;omega⟩
   ·rw[z1 u hu.1]at z6 e;rw[z1 v hv.1]at e;by_cases e1:u=s
    ·by_cases e2:v=s
     ·rw[e1,e2]
     ·rw[if_pos e1,if_neg e2]at e;exact absurd e.symm (ze v hv)
    ·rw[if_neg e1]at e z6;by_cases e2:v=s
     ·rw[if_pos e2]at e;exact absurd e (ze u hu)
     ·rw[if_neg e2]at e;exact h.inj u v hu hv z6 e
   ·rw[z1 u hu.1]at z6;by_cases e1:u=s
    ·obtain⟨w,hw,f1,f2⟩:=h.reach p za zb;refine⟨w++[x],fun y hy=> ?_,?_,?_⟩
     ·rcases yE.1 hy with hy|hy
      ·exact hw y hy
      ·rw[zW.1 hy];exact hx
     ·rw[L1,f1];simp only[wG];rw[hs,if_neg (by omega),e1]
     ·rw[L1,f2];simp only[wG];rw[ht,if_neg (by omega),z1 u hu.1,if_pos e1]
    ·rw[if_neg e1]at z6;obtain⟨w,hw,f1,f2⟩:=h.reach u hu z6;exact⟨w,hw,f1,by rw[z1 u hu.1,if_neg e1];exact f2⟩
   ·rw[z1 u hu.1]at z6 ⊢;by_cases e1:u=s
    ·rw[if_pos e1];exact zg
    ·rw[if_neg e1]at z6 ⊢;exact h.rng u hu z6
   ·rw[z1 u hu.1,if_neg];intro e;subst e;omega
   ·rw[z1 s s0,if_pos rfl]
structure PsOk (a b:Aut) (chk:Int→Int→Bool) (ps:Int→Int→List (Int×Int)):Prop where
 chk:∀p q,inS a p→inS b q→(chk p q=true↔a.fin.getD p.toNat false=b.fin.getD q.toNat false∧∀x,Eo a x→(toL a p x<0↔toL b q x<0))
 from_:∀p q,inS a p→inS b q→∀e∈ps p q,∃x,Eo a x∧toL a p x=e.1∧toL b q x=e.2∧0≤e.1∧0≤e.2
 all:∀p q,inS a p→inS b q→∀x,Eo a x→0≤toL a p x→0≤toL b q x→(toL a p x,toL b q x)∈ps p q
theorem N9{a b:Aut}(ha:OkA a)(hb:OkA b){p:Int}:∀(es:List (Int×Int)) (st:List Int×List Int) (q:Int),IsoI a b st→p∈st.2→fAt st.1 p=q→(∀e∈es,∃x,Eo a x∧toL a p x=e.1∧toL b q x=e.2∧0≤e.1∧0≤e.2)→
  (∃st',Wx es st=some st'∧IsoI a b st'∧(∀u,inS a u→0≤fAt st.1 u→fAt st'.1 u=fAt st.1 u)∧(∃r,st'.2=st.2++r)∧∀e∈es,fAt st'.1 e.1=e.2)∨(Wx es st=none∧¬ ∃g,IsoT a b g)
 |[],st,q,h,_,_,_=> .inl ⟨st,rfl,h,fun _ _ _=>rfl,⟨[],by simp⟩,by simp⟩
 |e::es,st,q,h,hp,hq,hes=>by
  obtain⟨x,hx,e1,e2,e3,e4⟩:=hes e (by simp);rcases h.one ha hb hp hx e1 (by rw[hq];exact e2) e3 e4 with⟨st1,g1,g2,g3,⟨r,g4⟩,g5⟩|⟨g1,g2⟩
  ·have z1:=(h.mem p).1 hp;have z6:p∈st1.2:=by rw[g4];exact xL _ hp
   have z7:fAt st1.1 p=q:=by rw[g3 p z1.1 z1.2];exact hq
   have z8:inS a e.1:=(V0 ha p x).elim (fun k=>by omega) (fun k=>by rw[←e1];exact k)
   rcases N9 ha hb es st1 q g2 z6 z7 (fun d hd=>hes d (by simp[hd]))with⟨st2,k1,k2,k3,⟨r2,k4⟩,k5⟩|⟨k1,k2⟩
   ·refine .inl ⟨st2,by rw[Wx];simp[g1,k1],k2,fun u hu h0=> ?_,⟨r++r2,by rw[k4,g4,xZ]⟩,fun d hd=> ?_⟩
    ·have:=g3 u hu h0;rw[k3 u hu (by rw[this];exact h0),this]
    ·rcases yL.1 hd with rfl|hd
     ·rw[k3 d.1 z8 (by rw[g5];exact e4),g5]
     ·exact k5 d hd
   ·exact .inr ⟨by rw[Wx];simp[g1,k1],k2⟩
  ·exact .inr ⟨by rw[Wx];simp[g1],g2⟩
theorem x1r{a b:Aut}(ha:OkA a)(hb:OkA b){chk:Int→Int→Bool}{ps:Int→Int→List (Int×Int)}(z1:PsOk a b chk ps):∀(f n:Nat) (st:List Int×List Int),a.fin.length+1≤n+f→n≤st.2.length→IsoI a b st→
  (∀(i:Nat) (p:Int),i<n→st.2[i]? =some p→chk p (fAt st.1 p)=true∧∀e∈ps p (fAt st.1 p),fAt st.1 e.1=e.2)→
  (∃g,M1 chk ps f n st=some g∧IsoT a b g)∨(M1 chk ps f n st=none∧¬ ∃g,IsoT a b g)
 |0,n,st,hf,hn,h,hp=>by
  have:st.2.length≤a.fin.length:=by have:=h.nd.length_le_of_subset (l₂:=E3 a.fin.length) fun c hc=>Ep.2 ((h.mem c).1 hc).1;simpa[E3]using this
  omega
 |f+1,n,st,hf,hn,h,hp=>by
  unfold M1;cases hon:st.2[n]? with
  |none=>
   have hlen:st.2.length≤n:=by simpa using hon
   have z6:∀s,inS a s→0≤fAt st.1 s→chk s (fAt st.1 s)=true∧∀e∈ps s (fAt st.1 s),fAt st.1 e.1=e.2:=fun s hs h0=>by obtain⟨i,hi⟩:=yQ.1 ((h.mem s).2 ⟨hs,h0⟩);exact hp i s (by have:=Es hi;omega) hi
   refine .inl ⟨st.1,rfl,h.len,h.zero,h.low,fun s hs h0=> ?_,fun s hs h0 x hx=> ?_,h.inj,h.reach⟩
   ·exact((z1.chk s _ hs (h.rng s hs h0)).1 (z6 s hs h0).1).1
   ·have h1:=((z1.chk s _ hs (h.rng s hs h0)).1 (z6 s hs h0).1).2 x hx;refine⟨h1,fun ze=> ?_⟩;have zb:0≤toL b (fAt st.1 s) x:=by
     rcases sm (toL b (fAt st.1 s) x) 0 with k|k
     ·have:=h1.2 k;omega
     ·exact k
    exact(z6 s hs h0).2 _ (z1.all s _ hs (h.rng s hs h0) x hx ze zb)
  |some p=>
   simp only;have zc:=zL hon;obtain⟨z7,za⟩:=(h.mem p).1 zc;have zd:=h.rng p z7 za;cases hc:chk p (fAt st.1 p)with
   |false=>rw[if_neg (by simp)];refine .inr ⟨rfl,?_⟩;rintro⟨g,hg⟩;have e:=h.agree ha hg z7 za;have h1:=hg.fin p z7 (by rw[e];exact za);have h2:=fun x hx=>(hg.step p z7 (by rw[e];exact za) x hx).1;rw[e]at h1 h2;rw[(z1.chk p _ z7 zd).2 ⟨h1,h2⟩]at hc;cases hc
   |true=>
    rw[if_pos rfl];rcases N9 ha hb (ps p (fAt st.1 p)) st _ h zc rfl (z1.from_ p _ z7 zd)with⟨st',g1,g2,g3,⟨r,g4⟩,g5⟩|⟨g1,g2⟩
    ·rw[g1];simp only[wG];have zh:=Es hon;refine x1r ha hb z1 f (n+1) st' (by omega) (by rw[g4,yS];omega) g2 fun i u hi hu=> ?_;rw[g4,zI (by omega)]at hu;have z8:=(h.mem u).1 (zL hu);rw[g3 u z8.1 z8.2];by_cases e:i=n
     ·subst e;rw[hon]at hu;cases hu;exact⟨hc,g5⟩
     ·obtain⟨k1,k2⟩:=hp i u (by omega) hu;refine⟨k1,fun d hd=> ?_⟩;have zf:=h.rng u z8.1 z8.2;obtain⟨x,_,e1,_,e3,e4⟩:=z1.from_ u _ z8.1 zf d hd;have zg:inS a d.1:=(V0 ha u x).elim (fun k=>by omega) (fun k=>by rw[←e1];exact k)
      have:=k2 d hd;rw[g3 d.1 zg (by rw[this];exact e4),this]
    ·rw[g1];exact .inr ⟨rfl,g2⟩
theorem Jr{a b:Aut}(ha:OkA a)(hb:OkA b):IsoI a b (Lf a):=by
 have hf:=ha.fin;have hz:inS a 0:=⟨xB _,by omega⟩
 have z1:∀u,0≤u→fAt (Lf a).1 u=if u=0 then 0 else -1:=fun u hu=>by
  have:=Ba (f:=yB a.fin.length (-1)) (s:=0) (t:=u) (q:=0) (xB _) hu (by simp;omega);simp only[Lf];rw[show(0:Int).toNat=0 from rfl]at this;rw[this];split
  ·rfl
  ·unfold fAt;simp only[yV,List.getElem?_replicate];split<;>rfl
 refine⟨by simp[Lf],by rw[z1 0 (xB _),if_pos rfl],fun q hq=> ?_,fun s=> ?_,by simp[Lf],fun s t hs ht h0 e=> ?_,fun s hs h0=> ?_,fun s hs h0=> ?_⟩
 ·rcases wJ hq with hq|rfl
  ·rw[List.eq_of_mem_replicate hq];omega
  ·omega
 ·simp only[Lf,zW];constructor
  ·rintro rfl;exact⟨hz,by have:=z1 0 (xB _);simp only[Lf]at this;rw[this];simp⟩
  ·rintro⟨h1,h2⟩;have:=z1 s h1.1;simp only[Lf]at this;rw[this]at h2;split at h2
   ·assumption
   ·omega
 ·rw[z1 s hs.1]at h0 e;rw[z1 t ht.1]at e;split at h0
  ·rename_i e1;rw[if_pos e1]at e;split at e
   ·rename_i e2;rw[e1,e2]
   ·omega
  ·omega
 ·rw[z1 s hs.1]at h0;split at h0
  ·rename_i e1;exact⟨[],by simp,by rw[e1];rfl,by rw[z1 s hs.1,if_pos e1];rfl⟩
  ·omega
 ·rw[z1 s hs.1]at h0 ⊢;split at h0
  ·rename_i e1;rw[if_pos e1];exact⟨xB _,by have:=hb.fin;omega⟩
  ·omega
theorem z1s{a b:Aut}(ha:OkA a)(hb:OkA b){chk:Int→Int→Bool}{ps:Int→Int→List (Int×Int)}(h:PsOk a b chk ps){f:List Int}(hf:IsoT a b f):M1 chk ps (a.fin.length+1) 0 (Lf a)=some f:=by
 rcases x1r ha hb h (a.fin.length+1) 0 (Lf a) (by omega) (by simp) (Jr ha hb) (fun i p hi=>by omega)with⟨g,e1,k1⟩|⟨e1,k1⟩
 ·rw[e1,k1.uniq ha hf]
 ·exact absurd ⟨f,hf⟩ k1
end Go.Abs
namespace Go.Abs
def H6:List Iv→List Iv→Option Int
 |x::l,y::m=>if max x.lo y.lo≤min x.hi y.hi then some (max x.lo y.lo)else if x.hi<y.hi then H6 l (y::m)else H6 (x::l) m
 |_,_=>none
termination_by l m=>l.length+m.length
theorem q0y(m:List Iv):H6 [] m=none:=by simp[H6]
theorem Vc(x:Iv)(l:List Iv):H6 (x::l) []=none:=by simp[H6]
theorem v0e(x y:Iv)(l m:List Iv):H6 (x::l) (y::m)=if max x.lo y.lo≤min x.hi y.hi then some (max x.lo y.lo)else if x.hi<y.hi then H6 l (y::m)else H6 (x::l) m:=by rw[H6]
theorem y18{x:Iv}{l:List Iv}(h:Sep (x::l)):∀n,M l n→x.hi<n:=by rintro n ⟨y,hy,h1,h2⟩;have:=(yX.1 h.2).1 y hy;omega
theorem Tx{x:Iv}{l:List Iv}{n:Int}:M (x::l) n↔(x.lo≤n∧n≤x.hi)∨M l n:=by
 constructor
 ·rintro⟨y,hy,h⟩;rcases yL.1 hy with rfl|hy
  ·exact .inl h
  ·exact .inr ⟨y,hy,h⟩
 ·rintro(h|⟨y,hy,h⟩)
  ·exact⟨x,by simp,h⟩
  ·exact⟨y,by simp[hy],h⟩
theorem f0n{n:Int}:¬M [] n:=by rintro⟨y,hy,_⟩;cases hy
theorem Mn{x:Iv}{l:List Iv}(h:Sep (x::l)):Sep l:=⟨fun y hy=>h.1 y (by simp[hy]),(yX.1 h.2).2⟩
theorem F6(l m:List Iv)(hl:Sep l)(hm:Sep m):match H6 l m with|some n=>M l n∧M m n∧∀k,M l k→M m k→n≤k|none=>∀k,M l k→¬M m k:=by
 match l,m with
 |[],m=>rw[q0y];exact fun k h=>absurd h f0n
 |x::l,[]=>rw[Vc];exact fun k _ h=>absurd h f0n
 |x::l,y::m=>
  have hx:=hl.1 x (by simp);have hy:=hm.1 y (by simp);have sx:=y18 hl;have sy:=y18 hm;rw[H6];by_cases h1:max x.lo y.lo≤min x.hi y.hi
  ·rw[if_pos h1];refine⟨Tx.2 (.inl (by omega)),Tx.2 (.inl (by omega)),fun k k1 k2=> ?_⟩;have:x.lo≤k:=by
    rcases Tx.1 k1 with h|h
    ·exact h.1
    ·have:=sx k h;omega
   have:y.lo≤k:=by
    rcases Tx.1 k2 with h|h
    ·exact h.1
    ·have:=sy k h;omega
   omega
  ·rw[if_neg h1];by_cases h2:x.hi<y.hi
   ·rw[if_pos h2];have ih:=F6 l (y::m) (Mn hl) hm;have z1:∀k,(x.lo≤k∧k≤x.hi)→¬M (y::m) k:=fun k h hk=>by
     rcases Tx.1 hk with h'|h'
     ·omega
     ·have:=sy k h';omega
    cases hc:H6 l (y::m)with
    |some n=>
     rw[hc]at ih;obtain⟨i1,i2,i3⟩:=ih;refine⟨Tx.2 (.inr i1),i2,fun k k1 k2=> ?_⟩;rcases Tx.1 k1 with h|h
     ·exact absurd k2 (z1 k h)
     ·exact i3 k h k2
    |none=>
     rw[hc]at ih;intro k k1 k2;rcases Tx.1 k1 with h|h
     ·exact z1 k h k2
     ·exact ih k h k2
   ·rw[if_neg h2];have ih:=F6 (x::l) m hl (Mn hm);have z1:∀k,(y.lo≤k∧k≤y.hi)→¬M (x::l) k:=fun k h hk=>by
     rcases Tx.1 hk with h'|h'
     ·omega
     ·have:=sx k h';omega
    cases hc:H6 (x::l) m with
    |some n=>
     rw[hc]at ih;obtain⟨i1,i2,i3⟩:=ih;refine⟨i1,Tx.2 (.inr i2),fun k k1 k2=> ?_⟩;rcases Tx.1 k2 with h|h
     ·exact absurd k1 (z1 k h)
     ·exact i3 k k1 h
    |none=>
     rw[hc]at ih;intro k k1 k2;rcases Tx.1 k2 with h|h
     ·exact z1 k h k1
     ·exact ih k k1 h
termination_by l.length+m.length
def lqB(p q:Prd):Nat→Nat→Option Sy
 |0,_=>none
 |f+1,t=>match H6 (p.getD t []) (q.getD t [])with
  |some n=>some ⟨t,n⟩
  |none=>lqB p q f (t+1)
def En(p q:Prd):Option Sy:=if Wo (Wz p q)then none else some (Qo (Wz p q))
theorem q02{T:Nat}{p:Prd}(h:PWf T p)(t:Nat):Sep (p.getD t []):=by
 by_cases ht:t<p.length
 ·rw[Wt ht];exact(h.2 _ (zT ht)).1
 ·rw[show p.getD t []=[] by simp[yV,xA (by omega:p.length≤t)]];exact⟨by simp,by simp⟩
theorem Sq{p:Prd}{t:Nat}{n:Int}:PM p t n↔M (p.getD t []) n:=by
 constructor
 ·rintro⟨s,hs,h⟩;simpa[yV,hs]using h
 ·intro h;by_cases ht:t<p.length
  ·rw[Wt ht]at h;exact⟨_,zP ht,h⟩
  ·rw[show p.getD t []=[] by simp[yV,xA (by omega:p.length≤t)]]at h;exact absurd h f0n
theorem z2a{T:Nat}{p q:Prd}(hp:PWf T p)(hq:PWf T q):lqB p q T 0=En p q:=by
 have hw:=R6 hp hq.1;have key:∀(f t:Nat),t+f=T→(∀t' n,t'<t→¬PM (Wz p q) t' n)→lqB p q f t=En p q:=by
  intro f;induction f with
  |zero=>intro t ht z1;have:Wo (Wz p q)=true:=(Tr hw).2 fun t' n hm=>z1 t' n (by have:=(hw.lt hm).1;omega) hm;rw[lqB,En,if_pos this]
  |succ f ih=>
   intro t ht z1;have hs:=F6 _ _ (q02 hp t) (q02 hq t);rw[lqB];cases hc:H6 (p.getD t []) (q.getD t [])with
   |some n=>
    rw[hc]at hs;obtain⟨h1,h2,h3⟩:=hs;have hm:PM (Wz p q) t n:=(Ec hp.1 hq.1 t n).2 ⟨Sq.2 h1,Sq.2 h2⟩;have hv:Wo (Wz p q)=false:=(R8 hw).2 ⟨t,n,hm⟩;rw[En,if_neg (by rw[hv];simp)];obtain⟨g1,g2,g3⟩:=Uz hw ⟨t,n,hm⟩;have z6:=hw.lt hm;show some (⟨(t:Int),n⟩:Sy)=some (Qo (Wz p q))
    congr 1
    rcases g3 ⟨t,n⟩ ⟨by simp,by simpa using z6.1,z6.2⟩ (by simpa using hm)with e|e
    ·exact e.symm
    ·exfalso;unfold sLt at e;simp only at e;have z8:=g1.1;by_cases hle:(Qo (Wz p q)).ty.toNat<t
     ·exact z1 _ _ hle g2
     ·have z7:(Qo (Wz p q)).ty=t:=by omega
      rw[z7]at g2;have:=(Ec hp.1 hq.1 t (Qo (Wz p q)).num).1 (by simpa using g2);have:=h3 _ (Sq.1 this.1) (Sq.1 this.2);omega
   |none=>
    rw[hc]at hs;refine ih (t+1) (by omega) fun t' n za hm=> ?_;by_cases e:t'=t
    ·subst e;have:=(Ec hp.1 hq.1 t' n).1 hm;exact hs n (Sq.1 this.1) (Sq.1 this.2)
    ·exact z1 t' n (by omega) hm
 exact key T 0 (by omega) (fun t' n h=>by omega)
theorem j0c{T:Nat}{p:Prd}(hp:PWf T p):Wz p p=p:=I1 (R6 hp hp.1) hp fun t n=>by rw[Ec hp.1 hp.1];simp
theorem Nf{T:Nat}{p:Prd}(hp:PWf T p):En p p=if Wo p then none else some (Qo p):=by rw[En,j0c hp]
theorem q1g(a b:Aut)(s:Int×Int):Wh a b s=(Q8 a s.1).flatMap fun m=>(Q8 b s.2).filterMap fun n=>(En m.on n.on).map fun x=>(x,(m.dst,n.dst)):=by
 unfold Wh En
 congr 1
 funext m
 congr 1
 funext n;split<;>simp
end Go.Abs
namespace Go.Abs
def Ak(a:Aut):Int:=if Wf a≠0 then Wf a else if Fb a=false∨Pp a=false then 3 else 0
theorem Ms(a:Aut):Ak a=0↔Dfa a:=by
 unfold Ak;by_cases h:Wf a=0
 ·have z1:=(Yy a).1 h;rw[if_neg (fun k=>k h)];have h1:=A6 z1.wfA;have h2:Pp a=true↔w04 a:=by rw[←q0n z1.wfA,Hf];unfold Pp;rw[yH];simp only[xH];exact forall_congr' fun s=>forall_congr' fun _=>by rw[v0q z1.wfA]
  constructor
  ·intro k;split at k
   ·cases k
   ·rename_i hn;refine⟨z1,h1.1 ?_,h2.1 ?_⟩
    ·cases hs:Fb a
     ·exact absurd (.inl hs) hn
     ·rfl
    ·cases hs:Pp a
     ·exact absurd (.inr hs) hn
     ·rfl
  ·intro k;rw[if_neg];rintro(hs|hs)
   ·rw[h1.2 k.det]at hs;cases hs
   ·rw[h2.2 k.full]at hs;cases hs
 ·rw[if_pos h];exact⟨fun k=>absurd k h,fun k=>absurd ((Yy a).2 k.ok) h⟩
theorem v13{a:Aut}(h:OkA a):((A4 a).1=0∧(A4 a).2.fin.length=a.fin.length)↔Pp a=true:=by
 have z1:Wf a=0:=(Yy a).2 h;have hc:A4 a=A0 a:=by unfold A4;rw[if_neg (fun k=>k z1)]
 have h2:Pp a=true↔Rj a (Wv a)=[]:=by rw[Hf];unfold Pp;rw[yH];simp only[xH];exact forall_congr' fun s=>forall_congr' fun _=>by rw[v0q h.wfA]
 rw[hc,h2,A0];cases hn:Rj a (Wv a)with
 |nil=>simp
 |cons m l=>
  rw[if_neg (by simp)];unfold Zq;split
  ·simp
  ·simp[Up]
end Go.Abs
namespace Go.Abs
open Go Go.Proofs Go.Maps Go.RowKit
theorem f1n(x y:Int):(if x<y then y else x)=max x y:=by omega
def k1t:Option Int→AV
 |some n=> .tup [.i n,.bool true]
 |none=> .tup [.i 0,.bool false]
theorem x0n(l m:List Iv)(hl:l.length≤1000000000)(hm:m.length≤1000000000):PC Tryz.prog 188 [LIv l,LIv m] (fun r=>r=k1t (H6 l m)):=by
 refine Ql tOk Tryz.func188 rfl Tryz.results188 rfl (by simp[Tryz.ntmps188]) ?_;rw[Tryz.ntmps188];simp only[Qf];obtain⟨R,hR⟩:∃R,H6 l m=R:=⟨_,rfl⟩
 rw[hR];repeat first|(refine r_ ?_;simp)|refine q_ ?_
 refine Qr (Qd (sl':=[(0,LIv l),(1,LIv m),(6,.i (0:Nat)),(7,.i (0:Nat))]) ?_ (by simp));refine Qq (F:=fun(u:Nat×Nat)=>⟨[(0,LIv l),(1,LIv m),(6,.i u.1),(7,.i u.2)],[]⟩)
  (fun u=>u.1≤l.length∧u.2≤m.length∧H6 (l.drop u.1) (m.drop u.2)=R) (fun u=>(l.length - u.1)+(m.length - u.2)) ?_ (0,0) ⟨wK _,wK _,by simpa using hR⟩
 rintro⟨i,k⟩ ⟨hi,hk,hI⟩ ih;simp only at hi hk hI ih ⊢;by_cases h1:i<l.length
 ·by_cases h2:k<m.length
  ·have hw:IntKind.i64.wrap ((i:Int)+1)=i+1:=wrap_i64 _ (by omega) (by omega);have z1:IntKind.i64.wrap ((k:Int)+1)=k+1:=wrap_i64 _ (by omega) (by omega);rw[vA h1,vA h2,v0e]at hI;have e1:l[i]? =some l[i]:=zP h1;have e2:m[k]? =some m[k]:=zP h2;repeat first|(refine r_ ?_;simp[h1,h2])|refine q_ ?_
   refine Qa rfl (fun _=> ?_) (fun h=>by simp[h1,h2]at h);repeat first|(refine r_ ?_;simp)|refine q_ ?_
   refine Qk tOk mixed [] (.val 0 (.val 1 (.val 2 (.val 3 (.val 4 (.val 5 (.val 6 (.val 7 (.val 8 (.val 9 (.val 10 (.val 11 (.done))))))))))))) rfl (by kernel_rfl) ?_;simp[h1,h2];repeat first|(refine r_ ?_;simp)|refine q_ ?_
   refine Qk tOk mixed [] (.val 0 (.val 1 (.val 2 (.val 3 (.val 4 (.val 5 (.val 6 (.val 7 (.val 8 (.val 9 (.val 10 (.val 11 (.val 12 (.done)))))))))))))) rfl (by kernel_rfl) ?_;simp[h1,h2];refine Qa rfl (fun h=> ?_) (fun h=> ?_)
   ·have hle:max l[i].lo m[k].lo≤min l[i].hi m[k].hi:=by simp at h;omega
    rw[if_pos hle]at hI;rw[←hI];repeat first|(refine r_ ?_;simp)|refine q_ ?_
    rw[f1n];rfl
   ·have hle:¬max l[i].lo m[k].lo≤min l[i].hi m[k].hi:=by simp at h;omega
    rw[if_neg hle]at hI;repeat first|(refine r_ ?_;simp)|refine q_ ?_
    refine Qk tOk mixed [] (.val 0 (.val 1 (.val 2 (.val 3 (.val 4 (.val 5 (.val 6 (.val 7 (.val 8 (.val 9 (.val 10 (.done)))))))))))) rfl (by kernel_rfl) ?_;simp[h1,h2];refine Qa rfl (fun h=> ?_) (fun h=> ?_)
    ·rw[if_pos (by simpa using h)]at hI;repeat first|(refine r_ ?_;simp[hw])|refine q_ ?_
     refine Qd (sl':=[(0,LIv l),(1,LIv m),(6,.i (i+1:Nat)),(7,.i k)]) ?_ (by simp);exact ih (i+1,k) ⟨by omega,hk,by rw[vA h2];exact hI⟩ (by simp;omega)
    ·rw[if_neg (by simpa using h)]at hI;repeat first|(refine r_ ?_;simp[z1])|refine q_ ?_
     refine Qd (sl':=[(0,LIv l),(1,LIv m),(6,.i i),(7,.i (k+1:Nat))]) ?_ (by simp);exact ih (i,k+1) ⟨hi,by omega,by rw[vA h1];exact hI⟩ (by simp;omega)
  ·have h3:k=m.length:=by omega
   subst h3;repeat first|(refine r_ ?_;simp[h1])|refine q_ ?_
   refine Qa rfl (fun h=>by simp at h) (fun _=> ?_);repeat first|(refine r_ ?_;simp)|refine q_ ?_
   rw[wn,vA h1,Vc]at hI;rw[←hI];rfl
 ·have h3:i=l.length:=by omega
  subst h3;repeat first|(refine r_ ?_;simp)|refine q_ ?_
  refine Qa rfl (fun h=>by simp at h) (fun _=> ?_);repeat first|(refine r_ ?_;simp)|refine q_ ?_
  rw[wn,q0y]at hI;rw[←hI];rfl
def Nc:Option Sy→AV
 |some x=> .tup [encSy x,.bool true]
 |none=> .tup [encSy ⟨0,0⟩,.bool false]
theorem z16(p q:Prd)(f t:Nat):lqB p q (f+1) t=match H6 (p.getD t []) (q.getD t [])with|some n=>some ⟨t,n⟩|none=>lqB p q f (t+1):=rfl
attribute [local irreducible] lqB En
theorem Ay(T:Nat)(p q:Prd)(hp:PWf T p)(hq:PWf T q)(z7:∀s∈p,s.length≤1000000000)(z8:∀s∈q,s.length≤1000000000)(hT:T≤1000):PC Tryz.prog 139 [encP p,encP q] (fun r=>r=Nc (En p q)):=by
 refine Ql tOk Tryz.func139 rfl Tryz.results139 rfl (by simp[Tryz.ntmps139]) ?_;rw[Tryz.ntmps139];simp only[Qf];simp only[encP];have zd:=hp.1;have ze:=hq.1;obtain⟨R,hR⟩:∃R,En p q=R:=⟨_,rfl⟩
 rw[hR];rw[←z2a hp hq]at hR;repeat first|(refine r_ ?_;simp)|refine q_ ?_
 refine Qu p.length (fun i=>lqB p q (T - i) i=R) (fun i=>[(2,.vptr 0 0),(3,.vptr 1 0),(4,.vptr 2 0),(11,.i p.length),(12,.i i)]) (fun _=>[.vars [.list (p.map encL)],.vars [.list (q.map encL)],.vars [.i 0,.i 0]]) rfl (by simp) (by simp) (by simp) (by simp) (by simpa using hR) ?_;intro i hi hI ih;repeat first|(refine r_ ?_;simp)|refine q_ ?_
 refine Qa rfl (fun za=> ?_) (fun zb=> ?_)
 ·have z1:i<p.length:=by simpa using za
  have z6:i<q.length:=by omega
  have hw:IntKind.i64.wrap ((i:Int)+1)=i+1:=wrap_i64 _ (by omega) (by omega);rw[show T - i=(T - (i+1))+1 by omega,z16,Wt z1,Wt z6]at hI;repeat first|(refine r_ ?_;simp)|refine q_ ?_
  refine Qk tOk mixed [] (.val 0 (.val 1 (.val 2 (.val 3 (.val 4 (.val 5 (.val 6 (.val 7 (.val 8 (.val 9 (.one 10 (.val 11 (.val 12 (.val 13 (.val 14 (.val 15 (.done))))))))))))))))) rfl (by kernel_rfl) ?_;simp[z1,z6];refine Qe rfl rfl (by simp) (x0n p[i] q[i] (z7 _ (zT z1)) (z8 _ (zT z6))) rfl ?_;rintro _ rfl;simp;cases hc:H6 p[i] q[i]with
  |some n=>
   rw[hc]at hI;simp[k1t];repeat first|(refine r_ ?_;simp)|refine q_ ?_
   refine Qm rfl ?_;repeat first|(refine r_ ?_;simp)|refine q_ ?_
   rw[←hI];rfl
  |none=>
   rw[hc]at hI;simp[k1t];repeat first|(refine r_ ?_;simp)|refine q_ ?_
   refine Qm rfl ?_;repeat first|(refine r_ ?_;simp[hw])|refine q_ ?_
   refine Qs _ (ih z1 hI) rfl (by simp) ?_ (by simp) (by simp);simp
 ·have zc:i=p.length:=by simp at zb;omega
  subst zc;repeat first|(refine r_ ?_;simp)|refine q_ ?_
  rw[show T - p.length=0 by omega]at hI;rw[←hI];unfold lqB;rfl
theorem Jo(x y:Sy):PC Tryz.prog 148 [encSy x,encSy y] (fun r=>r= .bool (X6 x y)):=by
 refine Ql tOk Tryz.func148 rfl Tryz.results148 rfl (by simp[Tryz.ntmps148]) ?_;rw[Tryz.ntmps148];simp only[Qf];simp only[encSy,X6];by_cases h1:x.ty<y.ty
 ·repeat first|(refine r_ ?_;simp[h1])|refine q_ ?_
 ·by_cases h2:x.ty=y.ty
  ·repeat first|(refine r_ ?_;simp[h1,h2])|refine q_ ?_
  ·have hb:(x.ty==y.ty)=false:=by simpa using h2
   repeat first|(refine r_ ?_;simp[h1,h2,hb])|refine q_ ?_
theorem j0k(a:Aut)(i:Int):PC Tryz.prog 88 [encA a,.i i] (fun r=>r= .bool (decide (0≤i) && decide (i<a.fin.length))):=by
 refine Ql tOk Tryz.func88 rfl Tryz.results88 rfl (by simp[Tryz.ntmps88]) ?_;rw[Tryz.ntmps88];simp only[Qf];simp only[encA];by_cases h1:0≤i
 ·repeat first|(refine r_ ?_;simp[h1])|refine q_ ?_
 ·repeat first|(refine r_ ?_;simp[h1])|refine q_ ?_
end Go.Abs
namespace Go.Abs
open Go Go.Proofs Go.Maps Go.RowKit
attribute [local irreducible] Pp Fb Wf A4 d02
theorem q0i(a:Aut):PC Tryz.prog 84 [encA a] (fun r=>r= .i (Ak a)):=by
 refine Ql tOk Tryz.func84 rfl Tryz.results84 rfl (by simp[Tryz.ntmps84]) ?_;rw[Tryz.ntmps84];simp only[Qf];simp only[encA];repeat first|(refine r_ ?_;simp)|refine q_ ?_
 refine Qe rfl rfl (by simp) (Yt a) rfl ?_;rintro _ rfl;simp;repeat first|(refine r_ ?_;simp)|refine q_ ?_
 refine Qa rfl (fun h=> ?_) (fun h=> ?_)
 ·repeat first|(refine r_ ?_;simp)|refine q_ ?_
  rw[Ak,if_pos (by simpa using h)]
 have h0:Wf a=0:=by simpa using h
 have z6:=(Yy a).1 h0;rw[Ak,if_neg (fun k=>k h0)];have hd:d02 a=(Fb a,0):=by unfold d02;rw[if_pos h0]
 repeat first|(refine r_ ?_;simp)|refine q_ ?_
 refine Qe rfl rfl (by simp) (x09 a) rfl ?_;rintro _ rfl;simp[hd];cases hs:Fb a with
 |false=>
  repeat first|(refine r_ ?_;simp[hs])|refine q_ ?_
  refine Qm rfl ?_;repeat (first|(refine r_ ?_;simp)|refine q_ ?_)
 |true=>
  repeat first|(refine r_ ?_;simp[hs])|refine q_ ?_
  refine Qm rfl ?_;repeat first|(refine r_ ?_;simp)|refine q_ ?_
  refine Qe rfl rfl (by simp) (F0 a) rfl ?_;rintro _ rfl;simp;have z1:=v13 z6;generalize A4 a=c at *
  by_cases he:c.1=0
  ·by_cases hl:c.2.fin.length=a.fin.length
   ·rw[z1.1 ⟨he,hl⟩];repeat first|(refine r_ ?_;simp[he,hl])|refine q_ ?_
    refine Qm rfl ?_;repeat first|(refine r_ ?_;simp)|refine q_ ?_
   ·have hf:Pp a=false:=by
     cases hf:Pp a
     ·rfl
     ·exact absurd (z1.2 hf).2 hl
    have z7:((c.2.fin.length:Int) != a.fin.length)=true:=by simp;omega
    have z8:¬(c.2.fin.length:Int)=a.fin.length:=by omega
    rw[hf];repeat first|(refine r_ ?_;simp[he,z7,z8,hl])|refine q_ ?_
    refine Qm rfl ?_;repeat first|(refine r_ ?_;simp)|refine q_ ?_
  ·have hf:Pp a=false:=by
    cases hf:Pp a
    ·rfl
    ·exact absurd (z1.2 hf).1 he
   have za:(c.1 != 0)=true:=by simpa using he
   rw[hf];repeat first|(refine r_ ?_;simp[za])|refine q_ ?_
   refine Qm rfl ?_;repeat first|(refine r_ ?_;simp)|refine q_ ?_
end Go.Abs
