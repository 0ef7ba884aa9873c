/- Part Kg of the proof: an abstract machine over the model, and what the functions of the program hand back in its terms. No condition. -/
import Derived.Test.YteghceocnldccaaGreatDoorKf
import Derived.Test.YteghceocnldccaaGreatDoorKe
set_option linter.all false
open List renaming mem_map→zR,mem_of_getElem?→zJ,getElem?_set_ne→zB,getElem?_set_self→zL,getElem?_append_right→zH,getElem?_append_left→zF,getElem_mem→zK,getElem?_eq_getElem→zI,getElem?_eq_some_iff→zE,any_eq_false→wQ,take_succ_eq_append_getElem→zP,length_cons→yS,length_take→xN,mem_append→zV,mem_of_mem_take→xK,foldl_append→wG,append_assoc→xW,take_of_length_le→zO,mem_singleton→zT,getElem?_eq_none→yZ,findIdx?_eq_some_iff_getElem→xA,findIdx?_eq_none_iff→wL,getElem_of_mem→y_,range→yJ,take_length→yP,range_succ→wp,foldl_cons→xZ,length_append→yB,mem_or_eq_of_mem_set→vF,getD→yV,mem_cons→yE,not_mem_nil→vX,map_append→yF,length_map→zZ,append_nil→xD,mem_append_left→xE,pairwise_iff_getElem→yR,pairwise_append→yI,mem_range→yW,perm_middle→vD,take_append_drop→xP,mem_iff_getElem?→yK,pairwise_cons→yQ,mem_filter→xL,pairwise_map→wJ,map_cons→yY,sum_cons→ul,all_eq_true→zW,drop_eq_getElem_cons→ws,drop_length→xX
open Nat renaming le_refl→zQ,lt_trichotomy→vP,zero_le→wn
open Prod renaming ext→uv
open Option renaming getD_some→wH
set_option maxHeartbeats 8000000
set_option linter.unusedSimpArgs false
set_option maxRecDepth 100000
namespace Go.Abs
open Go Go.Proofs Go.Maps
attribute [simp] T94 T88
abbrev LQ (Q:List (List Int)):List AV:=Q.map fun l=>LI l
structure TB (r p m:Nat) (a:Aut) (cl:List Prd) (Q:List (List Int)) (H:List AObj):Prop where
 t:H[r]? =some (.vars [.i a.types,.list (a.fin.map .bool),.list (a.mv.map encMv),LP cl,.sl p 1 0 Q.length,.mref m])
 s:H[p]? =some (.arr 40 1 (LQ Q))
 n:H[m]? =some (mpT (Q.map R9))
def Ax(x:List Int):Prop:=x≠[]∧x.length≤256∧∀z∈x,0≤z∧z≤1000000
def k0o(Q:List (List Int))(x:List Int):List (List Int):=if x∈Q then Q else Q++[x]
theorem TB.keep{r p m:Nat}{a:Aut}{cl:List Prd}{Q:List (List Int)}{H H':List AObj}(h:TB r p m a cl Q H)(hk:∀j,(j=r∨j=p∨j=m)→H'[j]? =H[j]?):TB r p m a cl Q H':=
 ⟨(hk r (.inl rfl)).trans h.t,(hk p (.inr (.inl rfl))).trans h.s,(hk m (.inr (.inr rfl))).trans h.n⟩
theorem TB.ne{r p m:Nat}{a:Aut}{cl:List Prd}{Q:List (List Int)}{H:List AObj}(h:TB r p m a cl Q H):r≠p∧r≠m∧p≠m:=by
 refine⟨fun e=> ?_,fun e=> ?_,fun e=> ?_⟩
 ·have h1:=h.t;rw[e,h.s]at h1;simp at h1
 ·have h1:=h.t;rw[e,h.n,E7]at h1;simp at h1
 ·have h1:=h.s;rw[e,h.n,E7]at h1;simp at h1
theorem Ax.rng{x:List Int}(h:Ax x):∀z∈x,-9223372036854775808≤z∧z≤9223372036854775807:=fun z hz=>by have:=h.2.2 z hz;omega
theorem Gd{x:List Int}(h:Ax x):(R9 x).length≤1000000:=by have:=q08 h.rng;have:=h.2.1;omega
theorem q2y{x:List Int}{Q:List (List Int)}(hQ:∀l∈Q,Ax l)(hx:Ax x):R9 x∈Q.map R9↔x∈Q:=by refine⟨fun h=> ?_,fun h=>zR.2 ⟨x,h,rfl⟩⟩;obtain⟨l,hl,e⟩:=zR.1 h;rw[←X0 (fun z hz=>((hQ l hl).2.2 z hz).1) (fun z hz=>(hx.2.2 z hz).1) e];exact hl
attribute [local irreducible] mpT R9
theorem Mq(H:List AObj)(r p m:Nat)(a:Aut)(cl:List Prd)(Q:List (List Int))(x:List Int)(h:TB r p m a cl Q H)(hx:Ax x)(hQ:∀l∈Q,Ax l)(zg:Q.length≤100000):
  FC Tryz.prog 57 [.vptr r 0,LI x] H (fun res H'=>∃(j p':Nat),res= .i j∧(k0o Q x)[j]? =some x∧TB r p' m a cl (k0o Q x) H'∧(p'=p∨H.length≤p')∧H.length≤H'.length∧(x∈Q→H'=H)∧∀i,i<H.length→i≠r→i≠p→i≠m→H'[i]? =H[i]?):=by
 refine Ea tOk Tryz.func57 rfl Tryz.results57 rfl (by simp[Tryz.ntmps57]) ?_;rw[Tryz.ntmps57];simp only[Qg];repeat first|(refine r_ ?_;simp)|refine q_ ?_
 refine Qf rfl rfl (by simp) (g1u x hx.rng (by have:=hx.2.1;omega) hx.1) rfl ?_;rintro _ rfl;simp;have ht:=h.t;have hn:=h.n;have hs:=h.s;obtain⟨n1,n2,n3⟩:=h.ne;repeat first|(refine r_ ?_;simp[ht])|refine q_ ?_
 have z8:∀k∈Q.map R9,k.length≤1000000:=fun k hk=>by obtain⟨l,hl,rfl⟩:=zR.1 hk;exact Gd (hQ l hl)
 refine Ge (n:=R9 x) rfl rfl rfl rfl rfl hn z8 (Gd hx) (fun j hj=> ?_) (fun za=> ?_)
 ·have zb:Q[j]? =some x:=by rw[List.getElem?_map]at hj;obtain⟨l,hl,e⟩:=Option.map_eq_some_iff.1 hj;rw[←X0 (fun z hz=>((hQ l (zJ hl)).2.2 z hz).1) (fun z hz=>(hx.2.2 z hz).1) e];exact hl
  have z1:k0o Q x=Q:=by rw[k0o,if_pos (zJ zb)]
  rw[z1];simp;repeat first|(refine r_ ?_;simp)|refine q_ ?_
  refine Qk rfl ?_;simp;repeat first|(refine r_ ?_;simp)|refine q_ ?_
  exact⟨j,rfl,zb,p,h,.inl rfl⟩
 ·have zc:x∉Q:=fun hm=>za ((q2y hQ hx).2 hm);have z1:k0o Q x=Q++[x]:=by rw[k0o,if_neg zc]
  rw[z1];have ze:(Q.map R9).length=Q.length:=by simp
  simp;repeat first|(refine r_ ?_;simp)|refine q_ ?_
  refine Qk rfl ?_;simp;repeat first|(refine r_ ?_;simp[ht])|refine q_ ?_
  refine L3 (n:=R9 x) rfl rfl rfl rfl rfl (ks:=Q.map R9) (by rw[ze];rfl) hn z8 (Gd hx) za ?_;simp;have z6:=Qd (Ne.symm n2) ht (mpT (Q.map R9++[R9 x]));have z7:=Qd (Ne.symm n3) hs (mpT (Q.map R9++[R9 x]));have zd:=Qj hn (mpT (Q.map R9++[R9 x]));have zf:∀i,i≠m→(H.set m (mpT (Q.map R9++[R9 x])))[i]? =H[i]? :=fun i hi=>zB (Ne.symm hi);have zh:(H.set m (mpT (Q.map R9++[R9 x]))).length=H.length:=by simp
  generalize H.set m (mpT (Q.map R9++[R9 x]))=G at *
  repeat first|(refine r_ ?_;simp[z6])|refine q_ ?_
  have g1:∀L,(G.set p .dead++L)[r]? =some (.vars [.i a.types,.list (a.fin.map .bool),.list (a.mv.map encMv),LP cl,.sl p 1 0 Q.length,.mref m]):=fun L=>Qa (Qd (Ne.symm n1) z6 _) L;refine Qe tOk rfl rfl T28 rfl T40 rfl (by decide) (by decide) rfl rfl rfl ?_;simp[Qa z7,Qi z7,Qa z6,g1];refine⟨by simp[Wa,Qa z7,Qi z7,Qa z6,g1]<;>omega,?_⟩;repeat first|(refine r_ ?_;simp[g1])|refine q_ ?_
  have zi:=Qh z6;have zj:=Qh z7;have zk:=Qh zd;refine⟨Q.length,rfl,by simp,G.length+1,⟨?_,?_,?_⟩,.inr (by omega),by omega,fun h=>absurd h zc,fun i hi h1 h2 h3=> ?_⟩
  ·rw[zL (by simp;omega)];simp
  ·rw[zB (by omega),zH (by simp)];simp[LQ]
  ·rw[zB n2,zF (by simp;omega),zB n3,zd];simp
  ·rw[zB (Ne.symm h1),zF (by simp;omega),zB (Ne.symm h2)];exact zf i h3
end Go.Abs
namespace Go.Abs
open Go Go.Proofs Go.Maps
theorem An(H:List AObj)(r:Nat)(x:List Int):FC Tryz.prog 56 [.vptr r 0,LI x] H (fun res H'=>res= .fn (.func 120) [] [.vptr H.length 0,.vptr (H.length+1) 0]∧H'=H++[.vars [.vptr r 0],.vars [LI x]]):=by refine Ea tOk Tryz.func56 rfl Tryz.results56 rfl (by simp[Tryz.ntmps56]) ?_;rw[Tryz.ntmps56];simp only[Qg];repeat first|(refine r_ ?_;simp)|refine q_ ?_
attribute [local irreducible] Wb Qm
theorem y0r (a:Aut) (ha:OkA a) (cl:List Prd) (set:List Int) (zg:∀c∈cl,J0 [c]=0∧Wd c=false∧Ru a (Qm c)) (zn:cl.length≤256) (q c1 c2 r:Nat) {z7:Nat} {sl':List (Nat×AV)} {ps:List Tmp} {asg body:Code} (zh:ps.length=2) (zi:(ps.all fun p=>decide (p<z7))=true)
  (Inv:Nat→List AObj→Prop)
  (hI:∀k H,Inv k H→H[q]? =some (.lp true none z7 sl' ps asg body)∧H[c1]? =some (.vars [.vptr r 0])∧H[c2]? =some (.vars [LI set])∧∃rest,H[r]? =some (.vars (.i a.types:: .list (a.fin.map .bool):: .list (a.mv.map encMv)::LP cl::rest)))
  (z8:∀k H L,Inv k H→Inv k (H++L))
  (za:∀k c H,cl[k]? =some c→Wb a set (Qm c)=[]→Inv k H→Inv (k+1) H)
  (z1:∀k c H,cl[k]? =some c→Wb a set (Qm c)≠[]→Inv k H→AWP Tryz.prog z7 H.length asg (A3 (AWP Tryz.prog z7 H.length body (w1g q (fun jm K2=>jm=none∧Inv (k+1) (K2.set q (.lp true none z7 sl' ps asg body))))) (fun _ _=>False)) ⟨T6 sl' ps [encP c,LI (Wb a set (Qm c))],H.set q .dead⟩)
  (H0:List AObj) (h0:Inv 0 H0):FC Tryz.prog 120 [.yld q,.vptr c1 0,.vptr c2 0] H0 (fun _ H'=>Inv cl.length H'):=by
 refine Ea tOk Tryz.func120 rfl Tryz.results120 rfl (by simp[Tryz.ntmps120]) ?_;rw[Tryz.ntmps120];simp only[Qg];obtain⟨i1,i2,i3,rest,i4⟩:=hI 0 H0 h0;repeat first|(refine r_ ?_;simp[i2,i4])|refine q_ ?_
 refine Qp (Qc (sl':=[(0,.yld q),(1,.vptr c1 0),(2,.vptr c2 0),(12,LP cl),(13,.i cl.length),(14,.i (0:Nat))]) ?_ (by simp));clear i1 i2 i3 i4;clear rest;refine Qo (F:=fun(u:Nat×List AObj)=>⟨[(0,.yld q),(1,.vptr c1 0),(2,.vptr c2 0),(12,LP cl),(13,.i cl.length),(14,.i u.1)],u.2⟩)
  (fun u=>u.1≤cl.length∧Inv u.1 u.2) (fun u=>cl.length - u.1) ?_ (0,H0) ⟨by simp,h0⟩
 rintro⟨k,H⟩ ⟨hk,hv⟩ ih;simp only at hk hv ih ⊢;repeat first|(refine r_ ?_;simp)|refine q_ ?_
 refine Qb rfl (fun zj=> ?_) (fun zk=> ?_)
 ·have z6:k<cl.length:=by simpa using zj
  have hw:IntKind.i64.wrap ((k:Int)+1)=k+1:=wrap_i64 _ (by omega) (by omega);have zc:=zg _ (zK z6);have zb:cl[k]? =some cl[k]:=zI z6;repeat first|(refine r_ ?_;simp[z6])|refine q_ ?_
  generalize cl[k]=c at *;refine Qf rfl rfl (by simp) (y09 c zc.1 zc.2.1) rfl ?_
  rintro _ rfl;simp;repeat first|(refine r_ ?_;simp)|refine q_ ?_
  have zd:=z8 k H [.vars [.list (c.map encL)],.vars [.i (Qm c).ty,.i (Qm c).num]] hv;obtain⟨i1,i2,i3,rest,i4⟩:=hI k _ zd;have h6:(H++[AObj.vars [.list (c.map encL)],.vars [.i (Qm c).ty,.i (Qm c).num]])[H.length+1]? =some (.vars [.i (Qm c).ty,.i (Qm c).num]):=by rw[zH (by omega)];simp
  have h5:(H++[AObj.vars [.list (c.map encL)],.vars [.i (Qm c).ty,.i (Qm c).num]])[H.length]? =some (.vars [.list (c.map encL)]):=by rw[zH (by omega)];simp
  generalize H++[AObj.vars [.list (c.map encL)],.vars [.i (Qm c).ty,.i (Qm c).num]]=G at *;refine Qn tOk mixed [] (.val 0 (.val 1 (.val 2 (.val 3 (.val 4 (.val 5 (.one 6 (.val 7 (.done))))))))) rfl (by kernel_rfl) ?_
  simp[i2,i3,i4,h6];refine Qf rfl rfl (by simp) (Ba a ha set (Qm c) zc.2.2) rfl ?_;rintro _ rfl;simp;have hlen:=Fk ha set (Qm c);have zl:=za k c G zb;have zm:=z1 k c G zb;generalize Wb a set (Qm c)=nx at *
  by_cases hnx:nx=[]
  ·subst hnx;repeat first|(refine r_ ?_;simp[h5])|refine q_ ?_
   refine Q6 rfl rfl ?_;simp;repeat first|(refine r_ ?_;simp)|refine q_ ?_
   refine Qb rfl (fun h=>by cases h) (fun _=> ?_);repeat first|(refine r_ ?_;simp[hw])|refine q_ ?_
   refine Qc (sl':=[(0,.yld q),(1,.vptr c1 0),(2,.vptr c2 0),(12,LP cl),(13,.i cl.length),(14,.i (k+1:Nat))]) ?_ (by simp);exact ih (k+1,G) ⟨by omega,zl rfl zd⟩ (by omega)
  ·have ze:0<nx.length:=List.length_pos_iff.2 hnx;repeat first|(refine r_ ?_;simp[h5,ze])|refine q_ ?_
   refine Pt rfl rfl (q:=q) rfl rfl i1 zh zi rfl (fun jm K2=>jm=none∧Inv (k+1) (K2.set q (.lp true none z7 sl' ps asg body))) ?_ ?_
   ·exact zm hnx zd
   ·rintro jm K2 ⟨rfl,hK⟩;simp;repeat first|(refine r_ ?_;simp)|refine q_ ?_
    refine Qb rfl (fun h=>by cases h) (fun _=> ?_);repeat first|(refine r_ ?_;simp[hw])|refine q_ ?_
    refine Qc (sl':=[(0,.yld q),(1,.vptr c1 0),(2,.vptr c2 0),(12,LP cl),(13,.i cl.length),(14,.i (k+1:Nat))]) ?_ (by simp);exact ih (k+1,_) ⟨by omega,hK⟩ (by omega)
 ·have zf:k=cl.length:=by simp at zk;omega
  subst zf;repeat first|(refine r_ ?_;simp)|refine q_ ?_
  exact hv
end Go.Abs
namespace Go.Abs
open Go Go.Proofs Go.Maps Go.RowKit
section
variable {P:Program} [Env P] {T:TT} {nt k:Nat} {S:AS} {ops:Array Oper} {o:Oper} {R:AS→Prop} {Q:Exit→AS→Prop}
theorem Z4 {wr:Bool} {sl:List (Nat×AV)} {H:List AObj} (i j e sz:Nat) {xs:List AV} (hi:H[i]? =some (.vars xs)) (hj:xs[j]? =some .nils)
  (h:Wv P nt k wr ops o ⟨sl,(H++[AObj.arr e sz []]).set i (.vars (xs.set j (.sl H.length sz 0 0)))⟩ R):Wv P nt k wr ops o ⟨sl,H⟩ R:=fun C a w K Q' hs=>by
 obtain⟨I,m,hw,z1,hk,hf⟩:=hs;obtain⟨g1,g2⟩:=hw.push (Below.refl _ _) none (fun b e=>by cases e) (.arr e sz []) (fun m' _ _=> .inl ⟨rfl,rfl⟩);have z8:i<H.length:=(zE.1 hi).1;have z6:(H++[AObj.arr e sz []])[i]? =some (.vars xs):=by rw[zF z8];exact hi
 obtain⟨b,t,vs,hb,hh,za,hr⟩:=g1.obj i _ z6;obtain⟨g3,g4⟩:=g1.set (w':=w) (o':= .vars (xs.set j (.sl H.length sz 0 0))) z6 rfl hb (World.grownBy.refl _ _) (fun _ h=>h) (fun m' z7=>⟨b,t,vs,rfl,hh,by simp[za],fun q v x hv hx=>by
  by_cases hq:j=q
  ·subst hq;rw[zL (zE.1 hj).1]at hx;cases hx;have:=(hr j v _ hv hj).nils_inv;subst this;exact .slnone H.length sz (by simp) (by rw[z7.ids _ (by simp)];exact Wi ..)
  ·rw[zB hq]at hx;exact(hr q v x hv hx).mono z7 (zQ _)⟩)
 have hlen:((H++[AObj.arr e sz []]).set i (.vars (xs.set j (.sl H.length sz 0 0)))).length=H.length+1:=by simp
 refine h C a w K Q' ⟨I,upd m H.length none,g3,⟨z1.1,z1.2.1,fun s x hx=> ?_⟩,by simp at hk ⊢;omega,hf.trans hk g2⟩;obtain⟨v,hv,zb⟩:=z1.2.2 s x hx;refine⟨v,hv,?_⟩;have:=zb.mono (n':=H.length+1) g2 (by simp);rw[hlen];exact this
end
theorem B5{a:Aut}(h:OkA a)(hm:(Rk a.types (onA a)).1=0):∃cl,Rk a.types (onA a)=(0,cl)∧Cls a cl∧cl.length≤256∧∀c∈cl,J0 [c]=0∧Wd c=false∧Ru a (Qm c)∧PWf a.types.toNat c∧∀s∈c,s.length≤256:=by
 have hc:=u1v h;have za:a.mv.map (·.on)=onA a:=rfl;rw[za]at hc;have z7:=Dq h;have zb:=Ml a.types (onA a);rcases Mr h.types z7 with h5|h5
 ·omega
 ·refine⟨_,h5,hc,?_⟩;have hb:Az (Q0 a.types.toNat (onA a))=false:=by
   cases hb:Az (Q0 a.types.toNat (onA a))with
   |false=>rfl
   |true=>
    rw[←zb,Nv]at hm;rw[if_neg (by have:=h.types;omega)]at hm;have hl:(onA a).length≤256:=by
     by_cases hl:256<(onA a).length
     ·rw[if_pos hl]at hm;simp at hm
     ·omega
    rw[if_neg (by omega),if_neg (fun k=>k ((Yc _).2 fun p hp=>(Ek _ p).2 ⟨h.types,z7 p hp⟩)),hb]at hm;simp at hm
  simp only[Az,Bool.or_eq_false_iff,decide_eq_false_iff_not,wQ,decide_eq_true_eq]at hb;refine⟨by omega,fun c z1=> ?_⟩;have hw:=hc.wf c z1;have z8:∀s∈c,s.length≤256:=fun s hs=>by have:=hb.2 c z1;simp only[Bool.not_eq_true,wQ,decide_eq_true_eq]at this;have:=this s hs;omega
  have z6:Ej a.types c=0:=(Ek _ c).2 ⟨h.types,hw.1.1,fun s hs=>Hz (hw.1.2 s hs).1 (z0e (hw.1.2 s hs).1 (hw.1.2 s hs).2) (by have:=z8 s hs;omega)⟩;refine⟨(u14 z6).1,?_,y14 hc z1,hw.1,z8⟩;rw[Bool.eq_false_iff];intro hv;obtain⟨ty,y,hy⟩:=hw.2;exact(Rn hw.1).1 hv ty y hy
theorem v1c(a:Aut)(k:Nat)(h:k<a.mv.length):(onA a).take (k+1)=(onA a).take k++[a.mv[k].on]:=by rw[zP (by simpa[onA]using h)];simp[onA]
theorem Xy(a:Aut):(onA a).length=a.mv.length:=by simp[onA]
theorem Vs:∀(xs:List (List Int)) (Q:List (List Int)),(W5 Q xs).length≤Q.length+xs.length
 |[],Q=>by simp[W5]
 |x::xs,Q=>by
  have h:=Vs xs (Se Q x);have e:W5 Q (x::xs)=W5 (Se Q x) xs:=rfl;have h2:(Se Q x).length≤Q.length+1:=by unfold Se;split<;>simp
  rw[e,yS];omega
theorem w0m{a:Aut}(z1:OkA a){Q:List (List Int)}(hQ:∀l∈Q,Ax l)(z8:Q.length≤256){cl:List Prd}(za:cl.length≤256){l:List Int}(k:Nat):
  (∀y∈W5 Q ((Ey a cl l).take k),Ax y)∧(W5 Q ((Ey a cl l).take k)).length≤600:=by
 have hlen:=Vs ((Ey a cl l).take k) Q;have z6:(Ey a cl l).length=cl.length:=by simp[Ey]
 rw[xN,z6]at hlen;refine⟨fun y hy=> ?_,by omega⟩;obtain⟨R,hR,z7⟩:=Ul ((Ey a cl l).take k) Q;rw[hR]at hy;rcases zV.1 hy with hy|hy
 ·exact hQ y hy
 ·obtain⟨h1,h2⟩:=z7 y hy;obtain⟨c,_,rfl⟩:=zR.1 (xK h1);have:=z1.fin;exact⟨h2,Fk z1 _ _,fun z hz=>by have:=Ow z hz;omega⟩
theorem Kw(Q xs:List (List Int))(x:List Int):W5 Q (xs++[x])=Se (W5 Q xs) x:=by unfold W5;rw[wG];rfl
theorem j0j{Q:List (List Int)}{x:List Int}(h:x≠[]):Se Q x=k0o Q x:=by
 unfold Se k0o;by_cases hx:x∈Q
 ·rw[if_pos (.inr hx),if_pos hx]
 ·rw[if_neg (by simp[h,hx]),if_neg hx]
theorem x12(Q:List (List Int)):Se Q []=Q:=by unfold Se;simp
attribute [local irreducible] Wb Qm Rk onA mpT R9
theorem x0o(H:List AObj)(a:Aut):FC Tryz.prog 50 [encA a] H (fun res H'=>(∀j,j<H.length→H'[j]? =H[j]?)∧(((Ud a).1≠0∧res= .tup [.nilp,.i (Ud a).1])∨
  ((Ud a).1=0∧∃r p m,res= .tup [.vptr r 0,.i 0]∧TB r p m a (Ud a).2.1 (Ud a).2.2 H'∧H.length≤r∧H.length≤p∧H.length≤m))):=by
 refine Ea tOk Tryz.func50 rfl Tryz.results50 rfl (by simp[Tryz.ntmps50]) ?_;rw[Tryz.ntmps50];simp only[Qg];simp only[encA];repeat first|(refine r_ ?_;simp)|refine q_ ?_
 have b0:∀L,(H++[AObj.vars (Qu a)]++L)[H.length]? =some (.vars (Qu a)):=fun L=>by rw[xW,zH (by omega)];simp
 refine Qf rfl rfl (by simp) (Is a) rfl ?_;rintro _ rfl;simp;repeat first|(refine r_ ?_;simp)|refine q_ ?_
 refine Qb rfl (fun h=> ?_) (fun h=> ?_)
 ·have h':Wq a≠0:=by simpa using h
  have hs:Ud a=(Wq a,[],[]):=Z9 h';rw[hs];repeat first|(refine r_ ?_;simp)|refine q_ ?_
  exact⟨fun j hj=>zF hj,h'⟩
 have h0:Wq a=0:=by simpa using h
 have z7:=(O5 a).1 h0;have ym:=z7.fin;have yn:=z7.mvs;repeat first|(refine r_ ?_;simp)|refine q_ ?_
 refine Q3 5 76 1 rfl ?_;simp;obtain⟨G0,zg⟩:∃G0,G0=H++[AObj.vars (Qu a)]:=⟨_,rfl⟩
 have y4:G0[H.length]? =some (.vars (Qu a)):=by rw[zg];simp
 have zh:G0.length=H.length+1:=by rw[zg];simp
 have y5:∀j,j<H.length→G0[j]? =H[j]? :=fun j hj=>by rw[zg];exact zF hj
 have y6:=SL.start G0 76 1;refine Qp (Qc (sl':=[(1,.vptr H.length 0),(5,.sl G0.length 1 0 (0:Nat)),(20,.list (a.mv.map encMv)),(21,.i a.mv.length),(22,.i (0:Nat))]) ?_ (by simp[zh]));refine Qo (F:=fun(u:Nat×Nat×List AObj)=>⟨[(1,.vptr H.length 0),(5,.sl u.2.1 1 0 u.1),(20,.list (a.mv.map encMv)),(21,.i a.mv.length),(22,.i u.1)],u.2.2⟩)
  (fun u=>u.1≤a.mv.length∧SL G0 u.2.2 u.2.1 76 1 (((onA a).take u.1).map encP)) (fun u=>a.mv.length - u.1) ?_ (0,G0.length,_) ⟨by simp,by simp only[List.take_zero,List.map_nil];rw[zg]at y6 ⊢;simpa using y6⟩
 rintro⟨j,q,E⟩ ⟨hj,s1⟩ ih;simp only at hj s1 ih ⊢;repeat first|(refine r_ ?_;simp)|refine q_ ?_
 refine Qb rfl (fun zq=> ?_) (fun zr=> ?_)
 ·have z1:j<a.mv.length:=by simpa using zq
  have hw:IntKind.i64.wrap ((j:Int)+1)=j+1:=wrap_i64 _ (by omega) (by omega);have za:=v1c a j z1;have y7:((onA a).take j).length=j:=by rw[xN,Xy];omega
  have y8:=fun q' E'=>ih (j+1,q',E');simp only[za]at y8;clear za;generalize (onA a).take j=acc at *
  repeat first|(refine r_ ?_;simp[z1])|refine q_ ?_
  generalize a.mv[j]=mm at *;refine Qe tOk rfl rfl T91 rfl T76 rfl (by decide) (by decide) rfl rfl rfl ?_
  simp[Qa s1.arr,Qi s1.arr,y7];refine⟨by simp[Wa,Qa s1.arr,Qi s1.arr,y7]<;>omega,?_⟩;repeat first|(refine r_ ?_;simp[hw])|refine q_ ?_
  refine Qc (sl':=[(1,.vptr H.length 0),(5,.sl (E.length+2) 1 0 (j+1)),(20,.list (a.mv.map encMv)),(21,.i a.mv.length),(22,.i (j+1:Nat))]) ?_ (by simp);have:=y8 (E.length+2) _ ⟨by omega,s1.put [AObj.vars [AV.i mm.src,AV.i mm.dst,AV.list (mm.on.map encL)],AObj.arr 76 1 [encP mm.on]] ((acc++[mm.on]).map encP) rfl⟩ (by omega);simpa using this
 ·have zi:j=a.mv.length:=by simp at zr;omega
  subst zi;rw[zO (by rw[Xy];omega)]at s1;refine Wh q s1.arr ?_;simp[Xy];rw[zO (by simp[Xy])];have yo:=s1.ge;have yp:=s1.le;have zj:(E.set q .dead)[H.length]? =some (.vars (Qu a)):=by rw[zB (by omega),s1.keep _ (by omega)];exact y4
  have zu:∀i,i<H.length→(E.set q .dead)[i]? =H[i]? :=fun i hi=>by rw[zB (by omega),s1.keep _ (by omega)];exact y5 i hi
  have y9:H.length<(E.set q .dead).length:=Qh zj;generalize E.set q .dead=E1 at *;clear s1 yp yo ih
  repeat first|(refine r_ ?_;simp[zj])|refine q_ ?_
  refine Qf rfl rfl (by simp) (q0b a.types (onA a)) rfl ?_;rintro _ rfl;simp;repeat first|(refine r_ ?_;simp)|refine q_ ?_
  refine Qb rfl (fun h3=> ?_) (fun h3=> ?_)
  ·have zm:(Rk a.types (onA a)).1≠0:=by simpa using h3
   have hs:Ud a=((Rk a.types (onA a)).1,[],[]):=by rw[Ud,if_neg (fun k=>k h0),if_pos zm]
   rw[hs];repeat first|(refine r_ ?_;simp)|refine q_ ?_
   exact⟨zu,zm⟩
  have zm:(Rk a.types (onA a)).1=0:=by simpa using h3
  obtain⟨cl,ya,yq,zc,zv⟩:=B5 z7 zm;rw[ya];repeat first|(refine r_ ?_;simp[zj])|refine q_ ?_
  refine Rz rfl rfl rfl ?_;simp;repeat first|(refine r_ ?_;simp)|refine q_ ?_
  refine Ep (E1.length+3) (e:=3) (c:=1) (xs:=[.i 0]) (by rw[zH (by omega)];simp) ?_;simp;refine Z4 (E1.length+1) 4 40 1 (xs:=[.i a.types,.list (a.fin.map .bool),.list (a.mv.map encMv),LP cl,.nils,.mref E1.length]) (by rw[zH (by omega)];simp) rfl ?_;refine Rv fun Z hZ=> ?_;have yr:Z.length=E1.length+5:=by rw[hZ];simp
  have z0:Z[H.length]? =some (.vars (Qu a)):=by rw[hZ,zB (by omega),xW,zF y9];exact zj
  have zk:∀i,i<H.length→Z[i]? =H[i]? :=fun i hi=>by rw[hZ,zB (by omega),xW,zF (by omega)];exact zu i hi
  have zt:TB (E1.length+1) (E1.length+4) E1.length a cl [] Z:=by
   refine⟨?_,?_,?_⟩
   ·rw[hZ,zL (by simp)];simp
   ·rw[hZ,zB (by omega),zH (by simp)];simp[LQ]
   ·rw[hZ,zB (by omega),xW,zH (by omega)];simp[E7]
  have zb:Z[E1.length+2]? =some (.vars [.vptr (E1.length+1) 0]):=by rw[hZ,zB (by omega),xW,zH (by omega)];simp
  clear hZ;have yc:Ax [0]:=⟨by simp,by simp,fun z hz=>by simp at hz;omega⟩
  refine Q9 rfl rfl (Mq Z _ _ _ a cl [] [0] zt yc (fun l hl=>by simp at hl) (by simp)) rfl ?_;rintro res Y ⟨j0,p,rfl,yd,ht,yt,yu,-,zn⟩;have zw:k0o [] [0]=[[0]]:=by simp[k0o]
  rw[zw]at ht;simp;repeat first|(refine r_ ?_;simp)|refine q_ ?_
  have y0:=(zn H.length (by omega) (by omega) (by omega) (by omega)).trans z0;have yk:∀i,i<H.length→Y[i]? =H[i]? :=fun i hi=>(zn i (by omega) (by omega) (by omega) (by omega)).trans (zk i hi);have yb:=(zn _ (by omega) (by omega) (by omega) (by omega)).trans zb;have ze:H.length≤p:=by omega
  have yv:H.length≤E1.length+1:=by omega
  have xh:H.length≤E1.length+2:=by omega
  have yw:H.length≤E1.length:=by omega
  refine Qs (sl':=[(10,.vptr (E1.length+2) 0),(11,.i (0:Nat))]) ?_ (by simp);clear zt z0 zk zb zn yr yu yd yt zj zu y9 y4 zh y5 zg;generalize E1.length+1=r at *;generalize E1.length+2=b at *;generalize E1.length=m at *
  have z6:Ud a=match Xa a cl 257 0 [[0]]with
    |none=>(5,[],[])
    |some Q=>(0,cl,Q):=by
   rw[Ud,if_neg (fun k=>k h0),ya];rfl
  refine Qp (Qc (sl':=[(10,.vptr b 0),(11,.i (0:Nat))]) ?_ (by simp));refine Qo (F:=fun(u:Nat×Nat×List (List Int)×List AObj)=>⟨[(10,.vptr b 0),(11,.i u.1)],u.2.2.2⟩)
   (fun u=>u.1≤u.2.2.1.length∧u.2.2.1.length≤256∧TB r u.2.1 m a cl u.2.2.1 u.2.2.2∧H.length≤u.2.1∧u.2.2.2[b]? =some (.vars [.vptr r 0])∧(∀i,i<H.length→u.2.2.2[i]? =H[i]?)∧(∀l∈u.2.2.1,Ax l)∧Xa a cl 257 0 [[0]]=Xa a cl (257 - u.1) u.1 u.2.2.1) (fun u=>257 - u.1) ?_ (0,p,[[0]],Y) ⟨by simp,by simp,ht,ze,yb,yk,fun l hl=>by rw[zT.1 hl];exact yc,rfl⟩
  clear ht ze yb yk y0;clear Y;rintro⟨i,p,Q,Y⟩ ⟨hi,zx,ht,ze,yb,yk,hQ,z8⟩ ih;simp only at hi zx ht ze yb yk hQ z8 ih ⊢;have ye:=ht.t;repeat first|(refine r_ ?_;simp[yb,ye])|refine q_ ?_
  refine Qb rfl (fun zq=> ?_) (fun zr=> ?_)
  ·have z1:i<Q.length:=by simpa using zq
   have hw:IntKind.i64.wrap ((i:Int)+1)=i+1:=wrap_i64 _ (by omega) (by omega);have yx:=ht.s;have hlo:=hQ _ (zK z1);repeat first|(refine r_ ?_;simp)|refine q_ ?_
   refine Qn tOk mixed [8] (.val 0 (.val 1 (.val 2 (.val 3 (.val 4 (.val 5 (.val 6 (.val 7 (.one 8 (.done)))))))))) rfl (by kernel_rfl) ?_;simp[yb,ye,yx,z1];refine Q9 rfl rfl (An Y r Q[i]) rfl ?_;rintro _ _ ⟨rfl,rfl⟩;simp;repeat first|(refine r_ ?_;simp)|refine q_ ?_
   have zo:Xa a cl (257 - i) i Q=if 256<(W5 Q (Ey a cl Q[i])).length then none else Xa a cl (257 - (i+1)) (i+1) (W5 Q (Ey a cl Q[i])):=by
    have:257 - i=(257 - (i+1))+1:=by omega
    rw[this,Xa,zI z1]
   rw[zo]at z8;clear zo;generalize Q[i]=l at *
   have yy:(Ey a cl l).length=cl.length:=by simp[Ey]
   have yf:∀(k:Nat) (c:Prd),cl[k]? =some c→(Ey a cl l).take (k+1)=(Ey a cl l).take k++[Wb a l (Qm c)]:=fun k c hc=>by
    have hk:=H7 hc;have yz:cl[k]=c:=by rw[zI hk]at hc;exact Option.some.inj hc
    rw[zP (by rw[yy];exact hk)];simp[Ey,yz]
   have x0:∀k,(∀y∈W5 Q ((Ey a cl l).take k),Ax y)∧(W5 Q ((Ey a cl l).take k)).length≤600:=fun k=>w0m z7 hQ zx zc k;have x1:=Qh yb;refine R7 rfl (Rf:=fun _ H'=>∃p',TB r p' m a cl (W5 Q (Ey a cl l)) H'∧H.length≤p'∧H'[b]? =some (.vars [.vptr r 0])∧(∃sl' zy a' b',H'[Y.length+2]? =some (.lp true none 80 sl' zy a' b'))∧∀i,i<H.length→H'[i]? =H[i]?) ?_ ?_
   ·simp;refine B1 fun H1 zd=> ?_;have ft:TB r p m a cl Q H1:=ht.keep fun j hj=>by
     have:j<Y.length:=by
      rcases hj with rfl|rfl|rfl
      ·exact Qh ht.t
      ·exact Qh ht.s
      ·exact Qh ht.n
     rw[zd,zF this]
    have fb:H1[b]? =some (.vars [.vptr r 0]):=by rw[zd,zF x1];exact yb
    have x2:H1[Y.length]? =some (.vars [.vptr r 0]):=by rw[zd,zH (by omega)];simp
    have x3:H1[Y.length+1]? =some (.vars [LI l]):=by rw[zd,zH (by omega)];simp
    have fk:∀i,i<H.length→H1[i]? =H[i]? :=fun i hi=>by rw[zd,zF (by have:=Qh ht.t;omega)];exact yk i hi
    have fq:=congrArg (fun h:List AObj=>h[Y.length+2]?) zd;simp at fq;clear zd;refine FC.mono (y0r a z7 cl l (fun c hc=>⟨(zv c hc).1,(zv c hc).2.1,(zv c hc).2.2.1⟩) zc (Y.length+2) Y.length (Y.length+1) r (by rfl) (by rfl)
     (fun k H'=>∃p',TB r p' m a cl (W5 Q ((Ey a cl l).take k)) H'∧H.length≤p'∧H'[b]? =some (.vars [.vptr r 0])∧H'[Y.length]? =some (.vars [.vptr r 0])∧H'[Y.length+1]? =some (.vars [LI l])∧H'[Y.length+2]? =H1[Y.length+2]? ∧∀i,i<H.length→H'[i]? =H[i]?)
     (fun k H' ⟨p',h1,h2,h3,h4,h5,h6,h7⟩=>⟨h6.trans fq,h4,h5,_,h1.t⟩) ?_ ?_ ?_ H1 ⟨p,ft,ze,fb,x2,x3,rfl,fk⟩) ?_
    ·rintro k H' L ⟨p',h1,h2,h3,h4,h5,h6,h7⟩;refine⟨p',h1.keep fun j hj=> ?_,h2,Qa h3 _,Qa h4 _,Qa h5 _,by rw[←h6,zF (by rw[fq]at h6;exact Qh h6)],fun i hi=>by rw[zF (by have:=Qh h1.t;omega)];exact h7 i hi⟩;have:j<H'.length:=by
      rcases hj with rfl|rfl|rfl
      ·exact Qh h1.t
      ·exact Qh h1.s
      ·exact Qh h1.n
     exact zF this
    ·rintro k c H' hc za ⟨p',h1,h⟩;refine⟨p',?_,h⟩;rw[yf k c hc,za,Kw,x12];exact h1
    ·rintro k c H' hc za ⟨p',h1,h2,h3,h4,h5,h6,h7⟩;have zz:Ax (Wb a l (Qm c)):=by have:=z7.fin;exact⟨za,Fk z7 _ _,fun z hz=>by have:=Ow z hz;omega⟩
     have y1:=yf k c hc;have zl:=x0 k;rw[y1,Kw,j0j za];generalize Wb a l (Qm c)=nx at *;generalize W5 Q ((Ey a cl l).take k)=Q2 at *
     simp[T6];have h8:=h6.trans fq;have yg:Y.length+2≠r:=fun e=>by have:=h1.t;rw[←e,h8]at this;simp at this
     have yh:Y.length+2≠p':=fun e=>by have:=h1.s;rw[←e,h8]at this;simp at this
     have yi:Y.length+2≠m:=fun e=>by have:=h1.n;rw[←e,h8,E7]at this;simp at this
     have zp:Y.length+2≠b:=fun e=>by rw[←e,h8]at h3;simp at h3
     have x4:b≠r:=fun e=>by have:=h1.t;rw[←e,h3]at this;simp at this
     have x5:b≠p':=fun e=>by have:=h1.s;rw[←e,h3]at this;simp at this
     have x6:b≠m:=fun e=>by have:=h1.n;rw[←e,h3,E7]at this;simp at this
     have x7:Y.length≠r:=fun e=>by have:=h1.t;rw[←e,h4]at this;simp at this
     have x8:Y.length≠p':=fun e=>by have:=h1.s;rw[←e,h4]at this;simp at this
     have x9:Y.length≠m:=fun e=>by have:=h1.n;rw[←e,h4,E7]at this;simp at this
     have xa:Y.length+1≠r:=fun e=>by have:=h1.t;rw[←e,h5]at this;simp at this
     have xb:Y.length+1≠p':=fun e=>by have:=h1.s;rw[←e,h5]at this;simp at this
     have xc:Y.length+1≠m:=fun e=>by have:=h1.n;rw[←e,h5,E7]at this;simp at this
     have d1:TB r p' m a cl Q2 (H'.set (Y.length+2) .dead):=h1.keep fun j hj=>by rw[zB (by rcases hj with rfl|rfl|rfl<;>assumption)]
     have d3:=Qd zp h3 .dead;have d4:=Qd (j:=Y.length+2) (by omega) h4 .dead;have d5:=Qd (j:=Y.length+2) (by omega) h5 .dead;have d6:=Qj h8 .dead;have d7:∀i,i<H.length→(H'.set (Y.length+2) .dead)[i]? =H[i]? :=fun i hi=>by rw[zB (by have:=Qh yb;omega)];exact h7 i hi
     have dl:(H'.set (Y.length+2) .dead).length=H'.length:=by simp
     generalize H'.set (Y.length+2) .dead=Z at *
     repeat first|(refine r_ ?_;simp[d3])|refine q_ ?_
     refine Q9 rfl rfl (Mq Z r p' m a cl Q2 nx d1 zz zl.1 (by have:=zl.2;omega)) rfl ?_;rintro res Z2 ⟨j0,p2,rfl,yd,yj,xi,xj,-,zf⟩;simp;repeat first|(refine r_ ?_;simp)|refine q_ ?_
     have hz:∀i,i<Z.length→i≠r→i≠p'→i≠m→Z2[i]? =Z[i]? :=zf;have e3:=(zf b (Qh d3) x4 x5 x6).trans d3;have e4:=(zf _ (Qh d4) x7 x8 x9).trans d4;have e5:=(zf _ (Qh d5) xa xb xc).trans d5;have e6:=(zf _ (Qh d6) yg yh yi).trans d6;have xd:Y.length+2≠p2:=fun e=>by have:=yj.s;rw[←e,e6]at this;simp at this
     refine⟨e6,rfl,p2,yj.keep (fun j hj=>by rw[zB (by rcases hj with rfl|rfl|rfl<;>assumption)]),by have:=Qh d6;omega,Qd zp e3 _,e4,e5,?_,fun i hi=> ?_⟩
     ·rw[fq];exact Qj e6 _
     ·rw[zB (by have:=Qh yb;omega),zf i (by have:=Qh d6;omega) (by omega) (by omega) (by omega)];exact d7 i hi
    ·rintro _ H' ⟨p',h1,h2,h3,h4,h5,h6,h7⟩;rw[zO (by omega)]at h1;exact⟨p',h1,h2,h3,⟨_,_,_,_,h6.trans fq⟩,h7⟩
   ·rintro res H' ⟨p',h1,h2,h3,⟨sl',zy,a',b',h6⟩,h7⟩;refine⟨true,none,80,sl',zy,a',b',by simpa using h6,?_⟩;simp;have yg:Y.length+2≠r:=fun e=>by have:=h1.t;rw[←e,h6]at this;simp at this
    have yh:Y.length+2≠p':=fun e=>by have:=h1.s;rw[←e,h6]at this;simp at this
    have yi:Y.length+2≠m:=fun e=>by have:=h1.n;rw[←e,h6,E7]at this;simp at this
    have zp:Y.length+2≠b:=fun e=>by rw[←e,h6]at h3;simp at h3
    have d1:TB r p' m a cl (W5 Q (Ey a cl l)) (H'.set (Y.length+2) .dead):=h1.keep fun j hj=>by rw[zB (by rcases hj with rfl|rfl|rfl<;>assumption)]
    have d3:=Qd zp h3 .dead;have d7:∀i,i<H.length→(H'.set (Y.length+2) .dead)[i]? =H[i]? :=fun i hi=>by rw[zB (by have:=Qh yb;omega)];exact h7 i hi
    have yl:=w0m z7 hQ zx zc (l:=l) cl.length;rw[zO (by omega)]at yl;have xe:=Lp Q (Ey a cl l);generalize H'.set (Y.length+2) .dead=Z at *;generalize W5 Q (Ey a cl l)=Q2 at *
    have d0:=d1.t;repeat first|(refine r_ ?_;simp[d3,d0])|refine q_ ?_
    refine Qb rfl (fun y2=> ?_) (fun xf=> ?_)
    ·have xg:256<Q2.length:=by simp at y2;omega
     rw[if_pos xg]at z8;rw[z8]at z6;rw[z6];repeat first|(refine r_ ?_;simp)|refine q_ ?_
     exact d7
    ·have y3:¬256<Q2.length:=by simp at xf;omega
     rw[if_neg y3]at z8;repeat first|(refine r_ ?_;simp[hw])|refine q_ ?_
     refine Qc (sl':=[(10,.vptr b 0),(11,.i (i+1:Nat))]) ?_ (by simp);exact ih (i+1,p',Q2,Z) ⟨by show i+1≤Q2.length;omega,by show Q2.length≤256;omega,d1,h2,d3,d7,yl.1,z8⟩ (by omega)
  ·have zi:i=Q.length:=by simp at zr;omega
   have zo:Xa a cl (257 - i) i Q=some Q:=by
    have:257 - i=(256 - i)+1:=by omega
    rw[this,Xa,yZ (by omega)]
   rw[zo]at z8;rw[z8]at z6;rw[z6];repeat first|(refine r_ ?_;simp[yb])|refine q_ ?_
   exact⟨yk,p,m,ht,yv,ze,yw⟩
end Go.Abs
namespace Go.Abs
open Go Go.Proofs Go.Maps Go.RowKit
attribute [local irreducible] Ud
end Go.Abs
namespace Go.Abs
open Go Go.Proofs Go.Maps Go.RowKit
def Fx(fx:List (Nat×AObj))(H:List AObj):Prop:=∀p∈fx,H[p.1]? =some p.2
theorem Fx.app{fx:List (Nat×AObj)}{H:List AObj}(h:Fx fx H)(L:List AObj):Fx fx (H++L):=fun p hp=>Qa (h p hp) L
theorem Fx.set{fx:List (Nat×AObj)}{H:List AObj}(h:Fx fx H){x:Nat}{o:AObj}(hx:H[x]? =some o)(hn:∀p∈fx,p.2≠o)(y:AObj):Fx fx (H.set x y):=fun p hp=>by
 have z1:x≠p.1:=fun e=>by have:=h p hp;rw[←e,hx]at this;exact hn p hp (Option.some.inj this).symm
 rw[zB z1];exact h p hp
def g0b(g:List Mv)(to:Nat):Int:=match g.findIdx? fun m:Mv=>decide (m.dst=(to:Int))with
 |some i=>i
 |none=> -1
theorem f1i(H:List AObj)(id to:Nat)(hid:H[id]? =some (.vars [.i to]))(m:Mv):FC Tryz.prog 59 [encMv m,.vptr id 0] H (fun r H'=>r= .bool (decide (m.dst=(to:Int)))∧H'=H++[.vars [.i m.src,.i m.dst,.list (m.on.map encL)]]):=by
 refine Ea tOk Tryz.func59 rfl Tryz.results59 rfl (by simp[Tryz.ntmps59]) ?_;rw[Tryz.ntmps59];simp only[Qg];simp only[encMv];repeat first|(refine r_ ?_;simp[Qa hid])|refine q_ ?_
 rfl
theorem y1a{g:List Mv}{to j:Nat}(h:j<g.length)(h1:g[j].dst=(to:Int))(h2:∀i,∀hi:i<g.length,i<j→¬g[i].dst=(to:Int)):g0b g to=j:=by
 have:g.findIdx? (fun m:Mv=>decide (m.dst=(to:Int)))=some j:=by rw[xA];exact⟨h,by simpa using h1,fun i hi=>by simpa using h2 i (by omega) hi⟩
 rw[g0b,this]
theorem d0p{g:List Mv}{to:Nat}(h2:∀i,∀hi:i<g.length,¬g[i].dst=(to:Int)):g0b g to= -1:=by
 have:g.findIdx? (fun m:Mv=>decide (m.dst=(to:Int)))=none:=by rw[wL];intro m hm;obtain⟨i,hi,rfl⟩:=y_ hm;simpa using h2 i hi
 rw[g0b,this]
theorem j0q(H:List AObj)(v first to id:Nat)(pre g:List Mv)(hid:H[id]? =some (.vars [.i to]))(hv:H[v]? =some (.arr 78 3 ((pre++g).map encMv)))(hl:pre.length+g.length≤1000000000)(hf:first=pre.length):
  FC Tryz.prog 58 [.sl v 3 first g.length,.fn (.func 59) [] [.vptr id 0]] H (fun r H'=>r= .i (g0b g to)∧∃L,H'=H++L):=by
 subst hf;refine Ea tOk Tryz.func58 rfl Tryz.results58 rfl (by simp[Tryz.ntmps58]) ?_;rw[Tryz.ntmps58];simp only[Qg];repeat first|(refine r_ ?_;simp)|refine q_ ?_
 refine Qp (Qc (sl':=[(0,.sl v 3 pre.length g.length),(1,.fn (.func 59) [] [.vptr id 0]),(7,.i g.length),(8,.i (0:Nat))]) ?_ (by simp));refine Qo (F:=fun(u:Nat×List AObj)=>⟨[(0,.sl v 3 pre.length g.length),(1,.fn (.func 59) [] [.vptr id 0]),(7,.i g.length),(8,.i u.1)],u.2⟩)
  (fun u=>u.1≤g.length∧(∃L,u.2=H++L)∧∀i,∀hi:i<g.length,i<u.1→¬g[i].dst=(to:Int)) (fun u=>g.length - u.1) ?_ (0,H) ⟨by simp,⟨[],by simp⟩,by simp⟩
 rintro⟨j,E⟩ ⟨hj,⟨L,hL⟩,hI⟩ ih;simp only at hj hI hL ih ⊢;subst hL;repeat first|(refine r_ ?_;simp)|refine q_ ?_
 refine Qb rfl (fun za=> ?_) (fun zb=> ?_)
 ·have z1:j<g.length:=by simpa using za
  have hw:IntKind.i64.wrap ((j:Int)+1)=j+1:=wrap_i64 _ (by omega) (by omega);have zc:((pre++g).map encMv)[pre.length+j]? =some (encMv g[j]):=by simp[z1]
  have zd:=Qa hv L;have z6:=Qa hid L;repeat first|(refine r_ ?_;simp[z1,zd,zc])|refine q_ ?_
  generalize z8:g[j]=m at *;refine Q9 rfl rfl (f1i (H++L) id to z6 m) rfl ?_
  rintro _ _ ⟨rfl,rfl⟩;simp;repeat first|(refine r_ ?_;simp)|refine q_ ?_
  refine Qb rfl (fun h=> ?_) (fun h=> ?_)
  ·repeat first|(refine r_ ?_;simp)|refine q_ ?_
   exact(y1a z1 (by rw[z8];simpa using h) hI).symm
  ·repeat first|(refine r_ ?_;simp[hw])|refine q_ ?_
   refine Qc (sl':=[(0,.sl v 3 pre.length g.length),(1,.fn (.func 59) [] [.vptr id 0]),(7,.i g.length),(8,.i (j+1:Nat))]) ?_ (by simp);refine ih (j+1,_) ⟨by omega,⟨L++[.vars [.i m.src,.i m.dst,.list (m.on.map encL)]],by simp⟩,fun i hi ze=> ?_⟩ (by omega);by_cases e:i=j
   ·subst e;rw[z8];simpa using h
   ·exact hI i hi (by omega)
 ·have z7:j=g.length:=by simp at zb;omega
  subst z7;repeat first|(refine r_ ?_;simp)|refine q_ ?_
  exact(d0p fun i hi=>hI i hi hi).symm
end Go.Abs
namespace Go.Abs
open Go Go.Proofs Go.Maps Go.RowKit
theorem Gf{a:Aut}(h:(Ud a).1=0):OkA a∧∃cl Q,Ud a=(0,cl,Q)∧Kq a cl=some Q∧Cls a cl∧Sub a cl Q∧cl.length≤256∧∀c∈cl,J0 [c]=0∧Wd c=false∧Ru a (Qm c)∧PWf a.types.toNat c∧∀s∈c,s.length≤256:=by
 have h0:Wq a=0:=by
  by_cases h0:Wq a=0
  ·exact h0
  ·rw[Z9 h0]at h;exact absurd h h0
 have z1:=(O5 a).1 h0;have hm:(Rk a.types (onA a)).1=0:=by
  by_cases hm:(Rk a.types (onA a)).1=0
  ·exact hm
  ·rw[Ud,if_neg (fun k=>k h0),if_pos hm]at h;exact absurd h hm
 obtain⟨cl,h1,h2,h3,h4⟩:=B5 z1 hm;refine⟨z1,cl,?_⟩;rcases Np z1 with h5|⟨Q,h5,h6,h7,h8⟩
 ·rw[h5]at h;simp at h
 ·have z6:Q0 a.types.toNat (onA a)=cl:=by
   have h9:(Ud a).2.1=cl:=by
    rw[Ud,if_neg (fun k=>k h0),if_neg (fun k=>k hm),h1];split
    ·rename_i hn;rw[Ud,if_neg (fun k=>k h0),if_neg (fun k=>k hm),h1]at h;simp only[hn]at h;simp at h
    ·rfl
   rw[h5]at h9;exact h9
  rw[z6]at h5 h6 h7 h8;exact⟨Q,h5,h6,h2,h7,h3,h4⟩
theorem k1l(H:List AObj)(id:Nat)(a:Aut)(hid:H[id]? =some (.vars (Qu a)))(s:Int)(h0:0≤s)(h1:s<a.fin.length):FC Tryz.prog 55 [.i s,.vptr id 0] H (fun r H'=>r= .bool (a.fin.getD s.toNat false)∧H'=H):=by
 refine Ea tOk Tryz.func55 rfl Tryz.results55 rfl (by simp[Tryz.ntmps55]) ?_;rw[Tryz.ntmps55];simp only[Qg];have h2:s.toNat<a.fin.length:=by omega
 repeat first|(refine r_ ?_;simp[hid,h0,h1,h2])|refine q_ ?_
def stepG(a:Aut)(Q:List (List Int))(n:Nat)(l:List Int)(g:List Mv)(c:Prd):List Mv:=match Nq Q (Wb a l (Qm c))with|some t=>Et n g t c|none=>g
def Ef(a:Aut)(cl:List Prd)(Q:List (List Int))(n:Nat)(l:List Int)(k:Nat):List Mv:=(cl.take k).foldl (stepG a Q n l) []
def Y8(a:Aut)(cl:List Prd)(Q:List (List Int))(n:Nat):List Mv:=(yJ n).flatMap fun n=>J6 a cl Q n (Q.getD n [])
theorem P6(a:Aut)(cl:List Prd)(Q:List (List Int))(n:Nat)(l:List Int):Ef a cl Q n l cl.length=J6 a cl Q n l:=by rw[Ef,yP];rfl
theorem Hl(a:Aut)(cl:List Prd)(Q:List (List Int))(n:Nat)(l:List Int){k:Nat}{c:Prd}(h:cl[k]? =some c):Ef a cl Q n l (k+1)=stepG a Q n l (Ef a cl Q n l k) c:=by
 have hk:=H7 h;have hc:cl[k]=c:=by rw[zI hk]at h;exact Option.some.inj h
 rw[Ef,zP hk,wG,hc];rfl
theorem Gy(a:Aut)(cl:List Prd)(Q:List (List Int))(n:Nat):Y8 a cl Q (n+1)=Y8 a cl Q n++J6 a cl Q n (Q.getD n []):=by simp[Y8,wp]
theorem Vm(n:Nat)(g:List Mv)(to:Nat)(c:Prd):(Et n g to c).length≤g.length+1:=by
 unfold Et;split
 ·simp
 ·split<;>simp
theorem C9(a:Aut)(Q:List (List Int))(n:Nat)(l:List Int):∀(cl:List Prd) (g:List Mv),(cl.foldl (stepG a Q n l) g).length≤g.length+cl.length
 |[],g=>by simp
 |c::cl,g=>by
  have h1:=C9 a Q n l cl (stepG a Q n l g c);have h2:(stepG a Q n l g c).length≤g.length+1:=by
   unfold stepG;split
   ·exact Vm _ _ _ _
   ·omega
  rw[xZ,yS];omega
theorem Sf(a:Aut)(cl:List Prd)(Q:List (List Int))(n:Nat)(l:List Int)(hc:cl.length≤256)(k:Nat):(Ef a cl Q n l k).length≤256:=by have:=C9 a Q n l (cl.take k) [];rw[xN]at this;rw[Ef];simp at this;omega
theorem q06(a:Aut)(cl:List Prd)(Q:List (List Int))(hq:Q.length≤256)(hc:cl.length≤256):∀n,n<Q.length→(Y8 a cl Q n).length≤n * 256∧(Y8 a cl Q n).length≤65536:=by
 have:∀n,(Y8 a cl Q n).length≤n * 256:=fun n=>by
  induction n with
  |zero=>simp[Y8]
  |succ n ih=>
   have h:=Sf a cl Q n (Q.getD n []) hc cl.length;rw[P6]at h;have:Y8 a cl Q (n+1)=Y8 a cl Q n++J6 a cl Q n (Q.getD n []):=by simp[Y8,wp]
   rw[this,yB];omega
 exact fun n hn=>⟨this n,by have:=this n;omega⟩
theorem Dl(a:Aut)(cl:List Prd)(Q:List (List Int))(n:Nat)(l:List Int):Ef a cl Q n l 0=[]:=rfl
theorem z1y{a:Aut}{Q:List (List Int)}(z1:∀l∈Q,l≠[]){n:Nat}{l:List Int}{g:List Mv}{c:Prd}(h:Wb a l (Qm c)=[]):stepG a Q n l g c=g:=by
 unfold stepG;rw[h];cases hq:Nq Q []with
 |none=>rfl
 |some t=>exact absurd rfl (z1 _ (zJ (H4 hq)))
theorem d0q{a:Aut}{Q:List (List Int)}(hn:Q.Nodup){n t:Nat}{l:List Int}{g:List Mv}{c:Prd}(h:Q[t]? =some (Wb a l (Qm c))):stepG a Q n l g c=Et n g t c:=by unfold stepG;rw[w1k hn h]
theorem q07{T n to:Nat}{g:List Mv}{c:Prd}(hg:∀m∈g,PWf T m.on)(hc:PWf T c):∀m∈Et n g to c,PWf T m.on:=by
 intro m hm;unfold Et at hm;split at hm
 ·rcases zV.1 hm with hm|hm
  ·exact hg m hm
  ·rw[zT.1 hm];exact hc
 ·split at hm
  ·rename_i m2 z1;rcases vF hm with hm|rfl
   ·exact hg m hm
   ·exact Jn (hg _ (zJ z1)) hc
  ·exact hg m hm
theorem w05{a:Aut}{T:Nat}{Q:List (List Int)}{n:Nat}{l:List Int}{cl:List Prd}(z1:∀c∈cl,PWf T c):∀k,∀m∈Ef a cl Q n l k,PWf T m.on:=by
 have:∀(cl:List Prd) (g:List Mv),(∀c∈cl,PWf T c)→(∀m∈g,PWf T m.on)→∀m∈cl.foldl (stepG a Q n l) g,PWf T m.on:=by
  intro cl;induction cl with
  |nil=>intro g _ hg;exact hg
  |cons c cl ih=>
   intro g hc hg;refine ih _ (fun x hx=>hc x (by simp[hx])) fun m hm=> ?_;unfold stepG at hm;split at hm
   ·exact q07 hg (hc c (by simp)) m hm
   ·exact hg m hm
 exact fun k=>this _ _ (fun c hc=>z1 c (xK hc)) (fun m hm=>by simp at hm)
def AObj.isLp:AObj→Bool
 | .lp .. =>true
 |_=>false
theorem f1j{T:Nat}{c:Prd}(hw:PWf T c)(hz:∀s∈c,s.length≤256){i:Nat}(hi:i<T):(Qv [c] i).length≤1000000:=by
 have h:i<c.length:=by rw[hw.1];exact hi
 have:Qv [c] i=c[i]:=by simp[Qv,yV,h]
 rw[this];have:=hz _ (zK h);omega
theorem d1a{T:Nat}{p c:Prd}(hp:PWf T p)(hw:PWf T c)(h1:∀s∈p,s.length≤65536)(hz:∀s∈c,s.length≤256){i:Nat}(hi:i<T):(Qv [p,c] i).length≤1000000:=by
 have h:i<c.length:=by rw[hw.1];exact hi
 have h2:i<p.length:=by rw[hp.1];exact hi
 have:Qv [p,c] i=p[i]++c[i]:=by simp[Qv,yV,h,h2]
 rw[this,yB];have:=hz _ (zK h);have:=h1 _ (zK h2);omega
theorem w0g(a:Aut)(cl:List Prd)(Q:List (List Int)):Y8 a cl Q Q.length=(Yq a cl Q).mv:=rfl
theorem F7(a:Aut)(cl:List Prd)(Q:List (List Int)):(Yq a cl Q).fin=Q.map (Ib a):=rfl
theorem Ly(a:Aut)(cl:List Prd)(Q:List (List Int)):(Yq a cl Q).types=a.types:=rfl
theorem w0v(d:Aut):Zc d=if Ch d then(5,Ys)else(0,d):=rfl
theorem c0h(a:Aut)(cl:List Prd)(Q:List (List Int))(hq:Q.length≤256)(hc:cl.length≤256):(Y8 a cl Q Q.length).length≤65536:=by
 have:∀n,(Y8 a cl Q n).length≤n * 256:=fun n=>by
  induction n with
  |zero=>simp[Y8]
  |succ n ih=>have h:=Sf a cl Q n (Q.getD n []) hc cl.length;rw[P6]at h;rw[Gy,yB];omega
 have:=this Q.length;omega
theorem V2{p c:Prd}{A B:Nat}(hp:∀s∈p,s.length≤A)(hc:∀s∈c,s.length≤B):∀s∈Wp p c,s.length≤A+B:=by intro s hs;obtain⟨i,hi,rfl⟩:=y_ hs;simp only[Wp,List.length_zipWith]at hi;simp only[Wp,List.getElem_zipWith];refine Nat.le_trans (w0f _) ?_;rw[yB];have h1:=hp _ (zK (by omega:i<p.length));have h2:=hc _ (zK (by omega:i<c.length));omega
theorem y0a{a:Aut}{Q:List (List Int)}{n:Nat}{l:List Int}{cl:List Prd}(z6:∀c∈cl,∀s∈c,s.length≤256)(z8:cl.length≤256):∀k,∀m∈Ef a cl Q n l k,∀s∈m.on,s.length≤65536:=by
 have key:∀(cl:List Prd) (g:List Mv) (B:Nat),(∀c∈cl,∀s∈c,s.length≤256)→(∀m∈g,∀s∈m.on,s.length≤B)→∀m∈cl.foldl (stepG a Q n l) g,∀s∈m.on,s.length≤B+cl.length * 256:=by
  intro cl;induction cl with
  |nil=>intro g B _ hg m hm s hs;have:=hg m hm s hs;simp;omega
  |cons c cl ih=>
   intro g B hc hg m hm s hs;have h1:∀m∈stepG a Q n l g c,∀s∈m.on,s.length≤B+256:=by
    intro m hm s hs;have z1:=hc c (by simp);unfold stepG Et at hm;split at hm
    ·split at hm
     ·rcases zV.1 hm with hm|hm
      ·have:=hg m hm s hs;omega
      ·rw[zT.1 hm]at hs;have:=z1 s hs;omega
     ·split at hm
      ·rename_i m2 z7;rcases vF hm with hm|rfl
       ·have:=hg m hm s hs;omega
       ·exact V2 (hg _ (zJ z7)) z1 s hs
      ·have:=hg m hm s hs;omega
    ·have:=hg m hm s hs;omega
   have:=ih (stepG a Q n l g c) (B+256) (fun x hx=>hc x (by simp[hx])) h1 m hm s hs;rw[yS];omega
 intro k m hm s hs;have:=key (cl.take k) [] 0 (fun c hc=>z6 c (xK hc)) (fun m hm=>by simp at hm) m hm s hs;rw[xN]at this;have:min k cl.length≤256:=by omega
 omega
theorem Sk(a:Aut)(cl:List Prd)(Q:List (List Int)):Y8 a cl Q 0=[]:=rfl
attribute [local irreducible] Ud Wb Qm mpT R9 Zc Yq Y8 Ef stepG Ib Ch
theorem J7(a:Aut):PC Tryz.prog 18 [encA a] (fun r=>r= .tup [encA (Rt a).2,.i (Rt a).1]):=by
 refine Ql tOk Tryz.func18 rfl Tryz.results18 rfl (by simp[Tryz.ntmps18]) ?_;rw[Tryz.ntmps18];simp only[Qg];simp only[encA];repeat first|(refine r_ ?_;simp)|refine q_ ?_
 have yd:=x0o [.vars (Qu a),.vars [.i 0,.nils,.nils]] a;refine Q9 rfl rfl yd rfl ?_;rintro res H' ⟨hk,⟨he,rfl⟩|⟨he,r,p,m,rfl,ht,hr,hp,hm⟩⟩
 ·have hd:Rt a=((Ud a).1,Ys):=by rw[Rt,if_pos he]
  rw[hd];have k0:=hk 0 (by simp);have k1:=hk 1 (by simp);simp at k0 k1;simp;repeat first|(refine r_ ?_;simp[Qa k1])|refine q_ ?_
  refine Qb rfl (fun _=> ?_) (fun h=>by simp at h;exact absurd h he);have k2:∀L Y,((H'++L).set 1 Y)[1]? =some Y:=fun L Y=>Qj (Qa k1 L) Y;repeat first|(refine r_ ?_;simp[Qa k1,k2])|refine q_ ?_
  exact⟨rfl,rfl,rfl⟩
 ·obtain⟨zn,cl,Q,x6,vq,xx,z8,zd,zo⟩:=Gf he;have hd:Rt a=Zc (Yq a cl Q):=by rw[Rt,x6];simp
  rw[hd];rw[x6]at ht;simp only at ht;have k0:=hk 0 (by simp);have k1:=hk 1 (by simp);simp at k0 k1;have xy:=ht.t;have vr:=ht.s;simp;repeat first|(refine r_ ?_;simp[Qa k1])|refine q_ ?_
  refine Qb rfl (fun h=>by simp[he]at h) (fun _=> ?_);have k0a:∀(L:List AObj) hh,(H'++L)[0]'hh= .vars (Qu a):=fun L hh=>by have:=Qa k0 L;rw[zI hh]at this;exact Option.some.inj this
  have ye:=fun L=>Qa (G:=L) xy;repeat first|(refine r_ ?_;simp[Qa k0,k0a,ye])|refine q_ ?_
  have xz:=Qh ht.t;have w8:=Qh ht.s;have wa:=Qh ht.n;refine Qs (sl':=[(1,.vptr 0 0),(2,.vptr 1 0),(3,.i 0),(4,.vptr H'.length 0),(6,.vptr (H'.length+1) 0),(30,.sl p 1 0 Q.length),(31,.i Q.length),(32,.i (0:Nat))]) ?_ (by simp);refine Wt (H'.length+1) 1 4 1 (xs:=[.i a.types,.nils,.nils]) (by rw[zH (by omega)];simp) rfl ?_;refine Q4 fun Z1 zp=> ?_;have z1l:Z1.length=H'.length+3:=by rw[zp];simp
  have z1c:Z1[H'.length+1]? =some (.vars [.i a.types,.sl (H'.length+2) 1 0 0,.nils]):=by rw[zp,zL (by simp)];simp
  have z1f:Z1[H'.length+2]? =some (.arr 4 1 []):=by rw[zp,zB (by omega),zH (by simp)];simp
  have z1b:Z1[H'.length]? =some (.vars [.vptr r 0]):=by rw[zp,zB (by omega),xW,zH (by omega)];simp
  have z1k:∀i,i<H'.length→Z1[i]? =H'[i]? :=fun i hi=>by rw[zp,zB (by omega),xW,zF hi]
  clear zp;refine Wt (H'.length+1) 2 78 3 z1c rfl ?_;refine Q4 fun Z2 y6=> ?_;have z2c:Z2[H'.length+1]? =some (.vars [.i a.types,.sl (H'.length+2) 1 0 0,.sl (H'.length+3) 3 0 0]):=by rw[y6,zL (by simp;omega)];simp[z1l]
  have z2v:Z2[H'.length+3]? =some (.arr 78 3 []):=by rw[y6,zB (by omega),zH (by omega)];simp[z1l]
  have z2k:∀i,i<Z1.length→i≠H'.length+1→Z2[i]? =Z1[i]? :=fun i hi wb=>by rw[y6,zB (Ne.symm wb),zF hi]
  clear y6;have hb:=(z2k _ (by omega) (by omega)).trans z1b;have x7:=(z2k _ (by omega) (by omega)).trans z1f;have hold:∀i,i<H'.length→Z2[i]? =H'[i]? :=fun i hi=>(z2k i (by omega) (by omega)).trans (z1k i hi);have x8:=(hold 0 (Qh k0)).trans k0;have x9:=(hold 1 (Qh k1)).trans k1;obtain⟨zh,z7⟩:∃zh:List (Nat×AObj),zh=[(0,.vars (Qu a)),(1,.vars [.i 0,.nils,.nils]),(H'.length,.vars [.vptr r 0]),(r,.vars [.i a.types,.list (a.fin.map .bool),.list (a.mv.map encMv),LP cl,.sl p 1 0 Q.length,.mref m]),(p,.arr 40 1 (LQ Q)),(m,mpT (Q.map R9))]:=⟨_,rfl⟩
  have xa:Fx zh Z2:=by
   rw[z7];intro x hx;simp only[yE,vX,or_false]at hx;rcases hx with rfl|rfl|rfl|rfl|rfl|rfl
   ·exact x8
   ·exact x9
   ·exact hb
   ·exact(hold r xz).trans ht.t
   ·exact(hold p w8).trans ht.s
   ·exact(hold m wa).trans ht.n
  have we:=z8.lim;have xb:∀x∈Q,Ax x:=fun x hx=>by have he:=z8.elem x hx;have:=X9 he.1 he.2;have:=zn.fin;exact⟨z8.ne x hx,by omega,fun z hz=>by have:=he.2 z hz;omega⟩
  have wg:=zn.fin;generalize H'.length+1=c at *;generalize H'.length=b at *;refine Qp (Qc (sl':=[(1,.vptr 0 0),(2,.vptr 1 0),(3,.i 0),(4,.vptr b 0),(6,.vptr c 0),(30,.sl p 1 0 Q.length),(31,.i Q.length),(32,.i (0:Nat))]) ?_ (by simp))
  refine Qo (F:=fun(u:Nat×Nat×Nat×List AObj)=>⟨[(1,.vptr 0 0),(2,.vptr 1 0),(3,.i 0),(4,.vptr b 0),(6,.vptr c 0),(30,.sl p 1 0 Q.length),(31,.i Q.length),(32,.i u.1)],u.2.2.2⟩)
   (fun u=>u.1≤Q.length∧Fx zh u.2.2.2∧u.2.2.2[c]? =some (.vars [.i a.types,.sl u.2.1 1 0 u.1,.sl u.2.2.1 3 0 (Y8 a cl Q u.1).length])∧u.2.2.2[u.2.1]? =some (.arr 4 1 (((Q.take u.1).map (Ib a)).map .bool))∧u.2.2.2[u.2.2.1]? =some (.arr 78 3 ((Y8 a cl Q u.1).map encMv))) (fun u=>Q.length - u.1) ?_ (0,_,_,Z2) ⟨by simp,xa,by rw[Sk];exact z2c,by simpa using x7,by rw[Sk];exact z2v⟩
  clear xa z2c x7 z2v hb x8 x9 hold z2k z1k z1b z1f z1c z1l;clear Z2 Z1;rintro⟨n,f,v,G⟩ ⟨hn,hF,gc,gf,gv⟩ ih;simp only at hn hF gc gf gv ih ⊢;repeat first|(refine r_ ?_;simp)|refine q_ ?_
  refine Qb rfl (fun wh=> ?_) (fun y8=> ?_)
  ·have ze:n<Q.length:=by simpa using wh
   have hw:IntKind.i64.wrap ((n:Int)+1)=n+1:=wrap_i64 _ (by omega) (by omega);have gs:G[p]? =some (.arr 40 1 (LQ Q)):=hF (p,_) (by rw[z7];simp);repeat first|(refine r_ ?_;simp[gs,ze])|refine q_ ?_
   have xc:=zK ze;have hle:=z8.elem _ xc;have wi:Q.getD n []=Q[n]:=by simp[yV,ze]
   have xd:=Gy a cl Q n;have wj:(Q.take (n+1)).map (Ib a)=(Q.take n).map (Ib a)++[Ib a Q[n]]:=by rw[zP ze,yF];rfl
   rw[wi]at xd;have wk:=(q06 a cl Q (z8.lim) zd n ze).2;have zq:=z8.closed _ xc;have vt:=X9 hle.1 hle.2;have wm:=fun L=>Qa (G:=L) gc;have g0:∀L,(G++L)[0]? =some (.vars (Qu a)):=fun L=>Qa (hF (0,_) (by rw[z7];simp)) L;have wo:((Q.take n).map (Ib a)).length=n:=by simp;omega
   generalize Q[n]=l at *
   have wF:=hF.app [.vars [.i n]];have wc:=Qa gc [.vars [.i n]];have wf:=Qa gf [.vars [.i n]];have wv:=Qa gv [.vars [.i n]];have w7:(G++[AObj.vars [.i n]])[G.length]? =some (.vars [.i n]):=by simp
   have w0:=g0 [.vars [.i n]];refine Qs (sl':=[(1,.vptr 0 0),(2,.vptr 1 0),(3,.i 0),(4,.vptr b 0),(6,.vptr c 0),(7,.vptr G.length 0),(8,LI l),(30,.sl p 1 0 Q.length),(31,.i Q.length),(32,.i n)]) ?_ (by simp);generalize G.length=n7 at *;generalize G++[AObj.vars [.i n]]=W at *;clear g0 wm gs gc gf gv hF;clear G
   have yf:((Q.take (n+1)).map (Ib a)).map AV.bool=((Q.take n).map (Ib a)).map AV.bool++[.bool (Ib a l)]:=by rw[wj];simp
   have xe:(((Q.take n).map (Ib a)).map AV.bool).length=n:=by rw[zZ];exact wo
   generalize ((Q.take n).map (Ib a)).map AV.bool=xs at *
   have zr:c≠f:=fun e=>by rw[e,wf]at wc;simp at wc
   have yg:c≠v:=fun e=>by rw[e,wv]at wc;simp at wc
   have zt:f≠v:=fun e=>by rw[e,wv]at wf;simp at wf
   have xf:c≠n7:=fun e=>by rw[e,w7]at wc;simp at wc
   have xg:f≠n7:=fun e=>by rw[e,w7]at wf;simp at wf
   have z6:∀p∈zh,p.2≠ .vars [.i a.types,.sl f 1 0 n,.sl v 3 0 (Y8 a cl Q n).length]:=by rw[z7];simp[E7]
   have zu:∀p∈zh,p.2≠ .arr 4 1 xs:=by rw[z7];simp[E7]
   have wq:=Qh wc;have wu:=Qh wf;have zv:=Qh wv;have xh:=Qh w7;have xi:=wF.set wf zu .dead;have ya:∀L,(W.set f .dead++L)[c]? =some (.vars [.i a.types,.sl f 1 0 n,.sl v 3 0 (Y8 a cl Q n).length]):=fun L=>Qa (Qd (Ne.symm zr) wc _) L;refine Vp (P:=Tryz.prog) tOk mixed [4,6,8] (.val 0 (.val 2 (.val 3 (.two 1 (.one 4 (.one 5 (.one 6 (.val 7 (.one 8 (.done)))))) 4 (.val 1 (.one 5 (.one 6 (.val 7 (.one 8 (.done)))))))))) (fun S'=>∃f',Fx zh S'.hp∧S'.hp[n7]? =some (.vars [.i n])∧S'.hp[c]? =some (.vars [.i a.types,.sl f' 1 0 (n+1),.sl v 3 0 (Y8 a cl Q n).length])∧S'.hp[f']? =some (.arr 4 1 (xs++[.bool (Ib a l)]))∧S'.hp[v]? =some (.arr 78 3 ((Y8 a cl Q n).map encMv))∧look S'.sl 1=some (.vptr 0 0)∧look S'.sl 2=some (.vptr 1 0)∧look S'.sl 3=some (.i 0)∧look S'.sl 4=some (.vptr b 0)∧look S'.sl 6=some (.vptr c 0)∧look S'.sl 7=some (.vptr n7 0)∧look S'.sl 8=some (LI l)∧look S'.sl 30=some (.sl p 1 0 Q.length)∧look S'.sl 31=some (.i Q.length)∧look S'.sl 32=some (.i n)) rfl (by kernel_rfl) ?_ ?_
   ·simp[wc];refine⟨?_,?_⟩;all_goals
     refine Q9 rfl rfl (Vz W l 55 (.vptr 0 0) (fun s=>a.fin.getD s.toNat false) (by omega) (fun z hz=>k1l W 0 a w0 z (hle.2 z hz).1 (hle.2 z hz).2)) rfl ?_;rintro _ H2 ⟨rfl,wx⟩;rw[wx];have wy:l.any (fun s=>a.fin.getD s.toNat false)=Ib a l:=by unfold Ib;rfl
     rw[wy];simp[wc];refine Qe tOk rfl rfl T22 rfl T4 rfl (by decide) (by decide) rfl rfl rfl ?_;simp[Qa wf,Qi wf,xe,ya,Qa wc];refine⟨by simp[Wa,Qa wf,Qi wf,xe,ya,Qa wc]<;>omega,?_⟩;refine⟨?_,?_,W.length+1,?_,?_,?_⟩
     ·exact(xi.app _).set (ya _) z6 _
     ·rw[zB xf,zF (by simpa using xh),zB xg];exact w7
     ·rw[zL (by simp;omega)]
     ·rw[zB (by omega),zH (by simp)];simp
     ·rw[zB yg,zF (by simpa using zv),zB zt];exact wv
   ·rintro⟨sl,E⟩ ⟨f',eF,e7,ec,ef,ev,s1,s2,s3,s4,s6,s7,s8,s30,s31,s32⟩;simp only at eF e7 ec ef ev s1 s2 s3 s4 s6 s7 s8 s30 s31 s32;refine Qs (sl':=[(1,.vptr 0 0),(2,.vptr 1 0),(3,.i 0),(4,.vptr b 0),(6,.vptr c 0),(7,.vptr n7 0),(8,LI l),(30,.sl p 1 0 Q.length),(31,.i Q.length),(32,.i n)]) ?_ (by simp[s1,s2,s3,s4,s6,s7,s8,s30,s31,s32]);clear s1 s2 s3 s4 s6 s7 s8 s30 s31 s32 xi ya z6 zu wq wu zv xh zr yg zt xf xg w0 w7 wv wf wc wF;have eb:E[b]? =some (.vars [.vptr r 0]):=eF (b,_) (by rw[z7];simp);repeat first|(refine r_ ?_;simp[ec,Qa eb])|refine q_ ?_
    have yh:∀g c,Wb a l (Qm c)=[]→stepG a Q n l g c=g:=fun g c hx=>z1y z8.ne hx;have yi:∀g c t,Q[t]? =some (Wb a l (Qm c))→stepG a Q n l g c=Et n g t c:=fun g c t hx=>d0q z8.nd hx;have xj:=fun k c hc=>Hl a cl Q n l (k:=k) (c:=c) hc;have wz:=fun k=>Sf a cl Q n l zd k;have xk:Ef a cl Q n l 0=[]:=Dl a cl Q n l;have v7:=P6 a cl Q n l;have v8:∀k,∀m∈Ef a cl Q n l k,PWf a.types.toNat m.on:=w05 (fun c hc=>(zo c hc).2.2.2.1);have vb:∀k,∀m∈Ef a cl Q n l k,∀s∈m.on,s.length≤65536:=y0a (fun c hc=>(zo c hc).2.2.2.2) zd;have xl:=fun f v G=>ih (n+1,f,v,G);simp only[xd,←v7,yf]at xl;clear ih;generalize Y8 a cl Q n=pre at *;refine Q9 rfl rfl (An _ r l) rfl ?_
    rintro _ _ ⟨rfl,rfl⟩;simp;repeat first|(refine r_ ?_;simp)|refine q_ ?_
    obtain⟨zg,z6⟩:∃zg:List (Nat×AObj),zg=zh++[(n7,.vars [.i n]),(E.length,.vars [.i pre.length]),(E.length+1,.vars [.vptr r 0]),(E.length+2,.vars [LI l]),(f',.arr 4 1 (xs++[.bool (Ib a l)]))]:=⟨_,rfl⟩
    refine R7 rfl (Rf:=fun _ H'=>∃v,Fx zg H'∧H'[c]? =some (.vars [.i a.types,.sl f' 1 0 (n+1),.sl v 3 0 (pre++Ef a cl Q n l cl.length).length])∧H'[v]? =some (.arr 78 3 ((pre++Ef a cl Q n l cl.length).map encMv))∧∃sl' yj a' b',H'[E.length+3]? =some (.lp true none 100 sl' yj a' b')) ?_ ?_
    ·simp;refine B1 fun H1 zw=> ?_;have vc:Fx zg H1:=by
      rw[z6,zw];intro x hx;rcases zV.1 hx with hx|hx
      ·exact(eF.app _) x hx
      ·simp only[yE,vX,or_false]at hx;rcases hx with rfl|rfl|rfl|rfl|rfl
       ·exact Qa e7 _
       ·rw[zH (by simp)];simp
       ·rw[zH (by simp)];simp
       ·rw[zH (by simp)];simp
       ·exact Qa ef _
     have fc:H1[c]? =some (.vars [.i a.types,.sl f' 1 0 (n+1),.sl v 3 0 pre.length]):=by rw[zw];exact Qa ec _
     have fv:H1[v]? =some (.arr 78 3 (pre.map encMv)):=by rw[zw];exact Qa ev _
     have fq:=congrArg (fun h:List AObj=>h[E.length+3]?) zw;simp at fq;clear zw;refine FC.mono (y0r a zn cl l (fun c hc=>⟨(zo c hc).1,(zo c hc).2.1,(zo c hc).2.2.1⟩) zd (E.length+3) (E.length+1) (E.length+2) r (by rfl) (by rfl)
      (fun k H'=>∃v,Fx zg H'∧H'[c]? =some (.vars [.i a.types,.sl f' 1 0 (n+1),.sl v 3 0 (pre++Ef a cl Q n l k).length])∧H'[v]? =some (.arr 78 3 ((pre++Ef a cl Q n l k).map encMv))∧H'[E.length+3]? =H1[E.length+3]?)
      (fun k H' ⟨v',h1,h2,h3,h4⟩=>⟨h4.trans fq,h1 (E.length+1,_) (by rw[z6];simp),h1 (E.length+2,_) (by rw[z6];simp),[.sl p 1 0 Q.length,.mref m],h1 (r,_) (by rw[z6,z7];simp)⟩) ?_ ?_ ?_ H1 ⟨v,vc,by rw[xk,xD];exact fc,by rw[xk,xD];exact fv,rfl⟩) ?_
     ·rintro k H' L ⟨v',h1,h2,h3,h4⟩;exact⟨v',h1.app L,Qa h2 L,Qa h3 L,by rw[←h4,zF (by rw[fq]at h4;exact Qh h4)]⟩
     ·rintro k cc H' hc yk ⟨v',h1,h2,h3,h4⟩;have:=yh (Ef a cl Q n l k) cc yk;rw[←xj k cc hc]at this;exact⟨v',h1,by rw[this];exact h2,by rw[this];exact h3,h4⟩
     ·rintro k cc H' hc yk ⟨v',h1,h2,h3,h4⟩;rw[xj k cc hc];have zx:=zJ hc;have yl:Wb a l (Qm cc)∈Q:=(zq cc zx).resolve_left yk;have ym:=yi (Ef a cl Q n l k) cc;have vd:=wz k;have zj:=v8 k;have yn:=vb k;have zi:=zo cc zx;generalize Wb a l (Qm cc)=nx at *;generalize stepG a Q n l (Ef a cl Q n l k) cc=g2 at *;generalize Ef a cl Q n l k=g at *
      simp[T6];have h8:=h4.trans fq;obtain⟨LP0,zk⟩:∃LP0,H1[E.length+3]? =some LP0:=⟨_,fq⟩
      have za:LP0.isLp=true:=by rw[fq]at zk;injection zk with e;rw[←e];rfl
      have zb:H'[E.length+3]? =some LP0:=h4.trans zk;have yo:∀p∈zg,p.2≠LP0:=fun p hp e=>by rw[←e]at za;rw[z6,z7]at hp;simp only[zV,yE,vX,or_false]at hp;rcases hp with(rfl|rfl|rfl|rfl|rfl|rfl)|(rfl|rfl|rfl|rfl|rfl)<;>simp[AObj.isLp,E7]at za
      have y1:=h1.set zb yo .dead;have yp:E.length+3≠c:=fun e=>by rw[e,h2]at zb;injection zb with e2;rw[←e2]at za;simp[AObj.isLp]at za
      have yq:E.length+3≠v':=fun e=>by rw[e,h3]at zb;injection zb with e2;rw[←e2]at za;simp[AObj.isLp]at za
      have y2:=Qd yp h2 .dead;have y3:=Qd yq h3 .dead;have y4:=Qj zb .dead;generalize H'.set (E.length+3) .dead=Y at *
      have yb:Y[b]? =some (.vars [.vptr r 0]):=y1 (b,_) (by rw[z6,z7];simp);have y0:Y[0]? =some (.vars (Qu a)):=y1 (0,_) (by rw[z6,z7];simp);have y7:Y[n7]? =some (.vars [.i n]):=y1 (n7,_) (by rw[z6];simp);have y9:Y[E.length]? =some (.vars [.i pre.length]):=y1 (E.length,_) (by rw[z6];simp);have yt:TB r p m a cl Q Y:=⟨y1 (r,_) (by rw[z6,z7];simp),y1 (p,_) (by rw[z6,z7];simp),y1 (m,_) (by rw[z6,z7];simp)⟩
      repeat first|(refine r_ ?_;simp[Qa yb])|refine q_ ?_
      refine Q9 rfl rfl (Mq _ r p m a cl Q nx (yt.keep fun j hj=> ?_) (xb nx yl) xb (by omega)) rfl ?_
      ·have:j<Y.length:=by
        rcases hj with rfl|rfl|rfl
        ·exact Qh yt.t
        ·exact Qh yt.s
        ·exact Qh yt.n
       exact zF this
      rintro res Z ⟨t,p2,rfl,xm,-,-,-,hZ,-⟩;rw[hZ yl];have yr:k0o Q nx=Q:=by rw[k0o,if_pos yl]
      rw[yr]at xm;rw[ym t xm];clear hZ;simp;repeat first|(refine r_ ?_;simp[Qa y2,Qa y9])|refine q_ ?_
      have xn:∀M,(Y++M)[v']? =some (.arr 78 3 ((pre++g).map encMv)):=fun M=>Qa y3 M;refine Q9 rfl rfl (j0q (Y++[AObj.vars [.list (cc.map encL)],.vars [.i t]]) v' pre.length t (Y.length+1) pre g (by rw[zH (by omega)];simp) (xn _) (by omega) rfl) rfl ?_;rintro _ _ ⟨rfl,L,rfl⟩;simp;repeat first|(refine r_ ?_;simp)|refine q_ ?_
      have w1:=y1.app ([AObj.vars [.list (cc.map encL)],.vars [.i t]]++L);have w2:=Qa y2 ([AObj.vars [.list (cc.map encL)],.vars [.i t]]++L);have w3:=xn ([AObj.vars [.list (cc.map encL)],.vars [.i t]]++L);have w4:=Qa y4 ([AObj.vars [.list (cc.map encL)],.vars [.i t]]++L);have w5:(Y++([AObj.vars [.list (cc.map encL)],.vars [.i t]]++L))[Y.length]? =some (.vars [.list (cc.map encL)]):=by rw[zH (by omega)];simp
      have w6:(Y++([AObj.vars [.list (cc.map encL)],.vars [.i t]]++L))[Y.length+1]? =some (.vars [.i t]):=by rw[zH (by omega)];simp
      have w7:=Qa y7 ([AObj.vars [.list (cc.map encL)],.vars [.i t]]++L);have w0:=Qa y0 ([AObj.vars [.list (cc.map encL)],.vars [.i t]]++L);have w9:=Qa y9 ([AObj.vars [.list (cc.map encL)],.vars [.i t]]++L);have xo:((a.types.toNat:Nat):Int)=a.types:=by have:=zn.types;omega
      simp only[List.cons_append,List.nil_append]at w0 w1 w2 w3 w4 w5 w6 w7 w9;generalize Y++AObj.vars [.list (cc.map encL)]::AObj.vars [.i t]::L=W at *;generalize Y.length+1=i12 at *;generalize Y.length=i10 at *
      have xp:∀p∈zg,p.2≠ .dead:=by rw[z6,z7];simp[E7]
      have yu:∀p∈zg,p.2≠ .vars [.i a.types,.sl f' 1 0 (n+1),.sl v' 3 0 (pre.length+g.length)]:=by rw[z6,z7];simp[E7]
      have zy:∀p∈zg,p.2≠ .arr 78 3 ((pre++g).map encMv):=by rw[z6,z7];simp[E7]
      rw[yB]at w2;have xq:v'≠c:=fun e=>by rw[e,w2]at w3;simp at w3
      have yv:v'≠E.length+3:=fun e=>by rw[e,w4]at w3;simp at w3
      have yw:c≠E.length+3:=fun e=>by rw[e,w4]at w2;simp at w2
      have lc:=Qh w2;have lv:=Qh w3;have lq:=Qh w4;refine Qs (sl':=[(1,.vptr 0 0),(6,.vptr c 0),(7,.vptr n7 0),(9,.vptr E.length 0),(10,.vptr i10 0),(12,.vptr i12 0),(13,.i (g0b g t)),(63,.bool (decide (g0b g t<0)))]) ?_ (by simp);cases hfi:g.findIdx? fun m:Mv=>decide (m.dst=(t:Int))with
      |none=>
       have yx:g0b g t= -1:=by rw[g0b,hfi]
       have zl:Et n g t cc=g++[⟨n,t,cc⟩]:=by rw[Et,hfi]
       rw[yx,zl];refine Qk rfl ?_;simp;repeat first|(refine r_ ?_;simp)|refine q_ ?_
       refine Qn tOk mixed [11,13] (.val 0 (.val 1 (.val 2 (.val 3 (.val 4 (.val 5 (.val 6 (.one 7 (.one 8 (.val 9 (.one 10 (.one 11 (.val 12 (.one 13 (.done))))))))))))))) rfl (by kernel_rfl) ?_;simp[w0,w2,w5,w6,w7];refine Ep W.length (e:=76) (c:=1) (xs:=[encP cc]) (by simp) ?_;simp;have xr:=Z8 a.types.toNat [cc] (by have:=zn.types;omega) (fun p hp=>by rw[zT.1 hp];exact zi.2.2.2.1) (fun j hj=>f1j zi.2.2.2.1 zi.2.2.2.2 hj) (by simp);rw[xo,k11 zi.2.2.2.1]at xr;refine Qf rfl rfl (by simp) (xr) rfl ?_;rintro _ rfl;simp;have w2b:∀M,(W++M)[c]? =some (.vars [.i a.types,.sl f' 1 0 (n+1),.sl v' 3 0 (pre.length+g.length)]):=fun M=>Qa w2 M;have w2c:∀M,(W.set v' .dead++M)[c]? =some (.vars [.i a.types,.sl f' 1 0 (n+1),.sl v' 3 0 (pre.length+g.length)]):=fun M=>Qa (Qd xq w2 _) M;have zv:((pre++g).map encMv).length=pre.length+g.length:=by simp
       have ve:=(w1.set w3 zy .dead)
       generalize yy:(pre++g).map encMv=mm at *;refine Qe tOk rfl rfl T23 rfl T78 rfl (by decide) (by decide) rfl rfl rfl ?_
       simp[Qa w3,Qi w3,w2b,w2c,zv];refine⟨by simp[Wa,Qa w3,Qi w3,w2b,w2c,zv]<;>omega,?_⟩;repeat first|(refine r_ ?_;simp)|refine q_ ?_
       have zm:((W.set v' AObj.dead++[AObj.dead,AObj.arr 78 3 [.agg [.i n,.i t,.list (cc.map encL)]],AObj.arr 78 3 (mm++[.agg [.i n,.i t,.list (cc.map encL)]])]).set c (AObj.vars [.i a.types,.sl f' 1 0 (n+1),.sl (W.length+2) 3 0 (pre.length+g.length+1)]))[E.length+3]? =some .dead:=by rw[zB yw,zF (by simpa using lq),zB yv];exact w4
       refine⟨zm,rfl,((ve.app _).set (w2c _) yu _).set zm xp _,W.length+2,?_,?_,?_⟩
       ·rw[zB (Ne.symm yw),zL (by simp;omega)];simp[Nat.add_assoc]
       ·rw[zB (by omega),zB (by omega),zH (by simp)];rw[←yy];simp
       ·rw[fq,zL (Qh zm)]
      |some i=>
       have yx:g0b g t=i:=by rw[g0b,hfi]
       obtain⟨xt,hid,-⟩:=xA.1 hfi;have xu:g[i]? =some g[i]:=zI xt;have zl:Et n g t cc=g.set i { g[i]with on:=Wp g[i].on cc }:=by rw[Et,hfi];simp[xu]
       rw[yx,zl];refine Qb rfl (fun h=>by simp at h;omega) (fun _=> ?_);have vf:IntKind.i64.wrap ((pre.length:Int)+i)=pre.length+i:=wrap_i64 _ (by omega) (by omega);have yz:(pre.length:Int)+i<pre.length+g.length:=by omega
       have vg:(0:Int)≤(pre.length:Int)+i:=by omega
       have vh:((pre.length:Int)+i).toNat=pre.length+i:=by omega
       repeat first|(refine r_ ?_;simp[w2,w9,vf,yz,vg,vh])|refine q_ ?_
       have y8:((pre++g).map encMv)[pre.length+i]? =some (.agg [.i g[i].src,.i g[i].dst,.list (g[i].on.map encL)]):=by rw[yF,zH (by simp)];simp[xu]
       have x0:((pre++g).map encMv).length=pre.length+g.length:=by simp
       generalize yy:(pre++g).map encMv=mm at *
       have x2:yJ 2=[0,1]:=rfl;refine Qn tOk mixed [12] (.val 0 (.val 1 (.val 2 (.val 3 (.val 4 (.val 5 (.val 6 (.val 7 (.one 8 (.one 9 (.val 10 (.val 11 (.one 12 (.done)))))))))))))) rfl (by kernel_rfl) ?_;simp[w0,w3,w5,y8,x0,x2];refine Ep W.length (e:=76) (c:=1) (xs:=[encP g[i].on,encP cc]) (by simp) ?_;simp;have yc:=zK xt;have xv:=Z8 a.types.toNat [g[i].on,cc] (by have:=zn.types;omega) (fun p hp=>by
        simp only[yE,vX,or_false]at hp;rcases hp with rfl|rfl
        ·exact zj _ yc
        ·exact zi.2.2.2.1) (fun j hj=>d1a (zj _ yc) zi.2.2.2.1 (yn _ yc) zi.2.2.2.2 hj) (by simp)
       rw[xo,k14 (zj _ yc) zi.2.2.2.1]at xv;have w3b:∀M,(W++M)[v']? =some (.arr 78 3 mm):=fun M=>Qa w3 M;refine Qf rfl rfl (by simp) (xv) rfl ?_;rintro _ rfl;simp[w3b,y8,Qi w3];repeat first|(refine r_ ?_;simp)|refine q_ ?_
       have zm:(W.set v' (AObj.arr 78 3 (mm.set (pre.length+i) (.agg [.i g[i].src,.i g[i].dst,.list ((Wp g[i].on cc).map encL)])))++[AObj.dead])[E.length+3]? =some .dead:=by rw[zF (by simpa using lq),zB yv];exact w4
       refine⟨zm,rfl,(((w1.set w3 zy _).app _).set zm xp _),v',?_,?_,?_⟩
       ·rw[zB (Ne.symm yw),zF (by simpa using lc),zB xq];rw[w2]
       ·rw[zB (Ne.symm yv),zF (by simpa using lv),zL lv];rw[←yy,yF,List.set_append_right _ _ (by simp)];simp[List.map_set]
       ·rw[fq,zL (Qh zm)]
     ·rintro _ H' ⟨v',h1,h2,h3,h4⟩;exact⟨h1,v',by simpa using h2,by simpa using h3,_,_,_,_,h4.trans fq⟩
    ·rintro res H' ⟨v',h1,h2,h3,⟨sl',yj,a',b',h6⟩⟩;refine⟨true,none,100,sl',yj,a',b',by simpa using h6,?_⟩;simp;have yp:E.length+3≠c:=fun e=>by rw[e,h2]at h6;simp at h6
     have yq:E.length+3≠v':=fun e=>by rw[e,h3]at h6;simp at h6
     have y1:=h1.set h6 (by rw[z6,z7];simp[E7]) .dead;have y2:=Qd yp h2 .dead;have y3:=Qd yq h3 .dead;generalize H'.set (E.length+3) .dead=Y at *
     repeat first|(refine r_ ?_;simp[hw])|refine q_ ?_
     refine Qc (sl':=[(1,.vptr 0 0),(2,.vptr 1 0),(3,.i 0),(4,.vptr b 0),(6,.vptr c 0),(30,.sl p 1 0 Q.length),(31,.i Q.length),(32,.i (n+1:Nat))]) ?_ (by simp);refine xl f' v' Y ⟨by omega,fun x hx=>y1 x (by rw[z6];exact xE _ hx),y2,y1 (f',_) (by rw[z6];simp),y3⟩ (by omega)
  ·have x3:n=Q.length:=by simp at y8;omega
   subst x3;have zz:Y8 a cl Q Q.length=(Yq a cl Q).mv:=w0g a cl Q;have x4:(Q.take Q.length).map (Ib a)=(Yq a cl Q).fin:=by rw[yP];exact(F7 a cl Q).symm
   have vi:(Yq a cl Q).fin.length=Q.length:=by rw[F7];simp
   have vj:(Yq a cl Q).mv.length≤65536:=by rw[←zz];exact c0h a cl Q we zd
   rw[zz]at gc gv;rw[x4]at gf;rw[←vi]at gc;have vk:(Yq a cl Q).types=a.types:=Ly a cl Q;have yz:Zc (Yq a cl Q)=if Ch (Yq a cl Q)then(5,Ys)else(0,Yq a cl Q):=w0v _
   rw[yz];generalize Yq a cl Q=d at *
   have g1:G[1]? =some (.vars [.i 0,.nils,.nils]):=hF (1,_) (by rw[z7];simp);have yg:v≠c:=fun e=>by rw[e,gc]at gv;simp at gv
   have zt:f≠v:=fun e=>by rw[e,gv]at gf;simp at gf
   have yd:f≠c:=fun e=>by rw[e,gc]at gf;simp at gf
   have vl:f≠1:=fun e=>by rw[e,g1]at gf;simp at gf
   have vm:v≠1:=fun e=>by rw[e,g1]at gv;simp at gv
   have vn:c≠1:=fun e=>by rw[e,g1]at gc;simp at gc
   refine Qs (sl':=[(2,.vptr 1 0),(3,.i 0),(6,.vptr c 0)]) ?_ (by simp);refine Q1 v gv c gc ?_;simp[zt];rw[zO (by simp)];have x5:=Qh gc;have vo:=Qh gf;refine Q4 fun Z hZ=> ?_;have zc:Z[c]? =some (.vars [.i d.types,.sl f 1 0 d.fin.length,.list (d.mv.map encMv)]):=by rw[hZ,vk];exact zL (by simpa using x5)
   have zf:Z[f]? =some (.arr 4 1 (d.fin.map .bool)):=by rw[hZ,zB (Ne.symm yd),zB (Ne.symm zt)];exact gf
   have z1:Z[1]? =some (.vars [.i 0,.nils,.nils]):=by rw[hZ,zB vn,zB vm];exact g1
   clear hZ;repeat first|(refine r_ ?_;simp[zc])|refine q_ ?_
   refine Q9 rfl rfl (Jo Z f d zf (by omega) (by omega)) rfl ?_;rintro res Y ⟨hr,xw⟩;have y5:=(xw 1 (Qh z1)).trans z1;have vp:=(xw f (Qh zf)).trans zf;have x2:∀X,(Y.set 1 X)[1]? =some X:=fun X=>Qj y5 X;rcases hr with⟨hb,rfl⟩|⟨hb,rfl⟩
   ·rw[hb];simp[y5];repeat first|(refine r_ ?_;simp[x2])|refine q_ ?_
    exact⟨rfl,rfl,rfl⟩
   ·rw[hb];simp[y5];refine Qs (sl':=[(2,.vptr 1 0),(3,.i 0)]) ?_ (by simp);refine Q1 f (Qd (Ne.symm vl) vp _) 1 (Qj y5 _) ?_;simp;rw[zO (by simp)];refine Q4 fun X hX=> ?_;have x1:X[1]? =some (.vars [.i d.types,.list (d.fin.map .bool),.list (d.mv.map encMv)]):=by rw[hX];exact zL (by have:=Qh y5;simpa using this)
    repeat first|(refine r_ ?_;simp[x1])|refine q_ ?_
end Go.Abs
namespace Go.Abs
open Go Go.Proofs Go.Maps Go.RowKit
theorem d1w{a:Aut}(h:(Rt a).1=0):OkA (Rt a).2:=by
 have h0:(Ud a).1=0:=by
  by_cases hs:(Ud a).1=0
  ·exact hs
  ·rw[Rt,if_pos hs]at h;exact absurd h hs
 obtain⟨z8,cl,Q,z7,za,z1,z6,_,_⟩:=Gf h0;have hd:Rt a=Zc (Yq a cl Q):=by rw[Rt,z7];simp
 rw[hd]at h ⊢;have hw:=c0r z1 z6;have e:Zc (Yq a cl Q)=(0,(Zc (Yq a cl Q)).2):=uv h rfl;have h2:=d0k hw e;rw[h2.1];exact h2.1▸h2.2
def z2y(l:List Bool)(i:Nat):List Bool:=l.mapIdx fun k b=>if k<i then !b else b
attribute [local irreducible] Rt Pg z2y
end Go.Abs
namespace Go.Abs
open Go Go.Proofs Go.Maps Go.RowKit
theorem z0i(a:Aut):PC Tryz.prog 22 [encA a,encA a] (fun r=>r= .bool true):=by
 refine Ql tOk Tryz.func22 rfl Tryz.results22 rfl (by simp[Tryz.ntmps22]) ?_;rw[Tryz.ntmps22];simp only[Qg];simp only[encA];refine W1 0 1 rfl rfl (fun hlen=> ?_);rw[zZ]at hlen;refine W1 0 2 rfl rfl (fun z6=> ?_);rw[zZ]at z6;repeat first|(refine r_ ?_;simp)|refine q_ ?_
 refine Qb rfl (fun h=>by simp at h) (fun _=> ?_);repeat first|(refine r_ ?_;simp)|refine q_ ?_
 refine Qr a.fin.length (fun _=>True) (fun j=>[(2,.vptr 0 0),(3,.vptr 1 0),(5,.i j)]) (fun _=>[.vars (Qu a),.vars (Qu a)]) rfl (by simp) (by simp) (by simp) (by simp) trivial ?_;intro j hj _ ih;repeat first|(refine r_ ?_;simp)|refine q_ ?_
 refine Qb rfl (fun z7=> ?_) (fun z8=> ?_)
 ·have z1:j<a.fin.length:=by simpa using z7
  have hw:IntKind.i64.wrap ((j:Int)+1)=j+1:=wrap_i64 _ (by omega) (by omega);repeat first|(refine r_ ?_;simp)|refine q_ ?_
  refine Qn tOk mixed [] (.val 0 (.val 1 (.val 2 (.val 3 (.val 4 (.val 5 (.val 6 (.val 7 (.val 8 (.val 9 (.val 10 (.done)))))))))))) rfl (by kernel_rfl) ?_;simp[z1];refine Qb rfl (fun h=>by simp at h) (fun _=> ?_);repeat first|(refine r_ ?_;simp[hw])|refine q_ ?_
  refine Qq _ (ih z1 trivial) rfl (by simp) ?_ (by simp) (by simp);simp
 repeat first|(refine r_ ?_;simp)|refine q_ ?_
 refine Qr a.mv.length (fun _=>True) (fun j=>[(2,.vptr 0 0),(3,.vptr 1 0),(6,.i j)]) (fun _=>[.vars (Qu a),.vars (Qu a)]) rfl (by simp) (by simp) (by simp) (by simp) trivial ?_;intro j2 zb _ za;repeat first|(refine r_ ?_;simp)|refine q_ ?_
 refine Qb rfl (fun z7=> ?_) (fun z8=> ?_)
 ·have z1:j2<a.mv.length:=by simpa using z7
  have hw:IntKind.i64.wrap ((j2:Int)+1)=j2+1:=wrap_i64 _ (by omega) (by omega);repeat first|(refine r_ ?_;simp)|refine q_ ?_
  obtain⟨m,hm⟩:∃m,a.mv[j2]=m:=⟨_,rfl⟩
  refine g08 tOk mixed [12,13] (.val 0 (.val 1 (.val 2 (.val 3 (.val 4 (.val 5 (.val 7 (.three 6 (.val 8 (.three 9 (.two 10 (.one 11 (.one 12 (.one 13 (.done)))) 11 (.one 10 (.one 12 (.one 13 (.done))))) 10 (.two 9 (.one 11 (.one 12 (.one 13 (.done)))) 11 (.two 9 (.one 12 (.one 13 (.done))) 12 (.val 9 (.one 13 (.done))))) 11 (.two 9 (.one 10 (.one 12 (.one 13 (.done)))) 10 (.two 9 (.one 12 (.one 13 (.done))) 12 (.val 9 (.one 13 (.done))))))) 10 (.two 6 (.val 8 (.two 9 (.one 11 (.one 12 (.one 13 (.done)))) 11 (.two 9 (.one 12 (.one 13 (.done))) 12 (.val 9 (.one 13 (.done)))))) 11 (.two 6 (.val 8 (.two 9 (.one 12 (.one 13 (.done))) 12 (.val 9 (.one 13 (.done))))) 12 (.val 6 (.val 8 (.val 9 (.one 13 (.done))))))) 11 (.two 6 (.val 8 (.two 9 (.one 10 (.one 12 (.one 13 (.done)))) 10 (.two 9 (.one 12 (.one 13 (.done))) 12 (.val 9 (.one 13 (.done)))))) 10 (.two 6 (.val 8 (.two 9 (.one 12 (.one 13 (.done))) 12 (.val 9 (.one 13 (.done))))) 12 (.val 6 (.val 8 (.val 9 (.one 13 (.done))))))))))))))) (⟨[(2,.vptr 0 0),(3,.vptr 1 0),(6,.i j2),(7,.vptr 2 0),(8,.vptr 3 0)],[.vars (Qu a),.vars (Qu a),.vars [.i m.src,.i m.dst,.list (m.on.map encL)],.vars [.i m.src,.i m.dst,.list (m.on.map encL)]]⟩) rfl (by kernel_rfl) ?_ ?_;simp[z1,hm]
  ·repeat' apply And.intro
   all_goals first|(refine v01 ?_;simp;done)|exact f0l [0,1,3,2] (by simp) (by decide) (by simp) rfl (by simp) (by simp) (by simp)
  repeat first|(refine r_ ?_;simp)|refine q_ ?_
  refine Qf rfl rfl (by simp) (f0b m.on m.on) rfl ?_;rintro _ rfl;simp;repeat first|(refine r_ ?_;simp)|refine q_ ?_
  refine Qb rfl (fun h=>by simp at h) (fun _=> ?_);repeat first|(refine r_ ?_;simp[hw])|refine q_ ?_
  refine Qq _ (za z1 trivial) rfl (by simp) ?_ (by simp) (by simp);simp
 repeat first|(refine r_ ?_;simp)|refine q_ ?_
def J9(lo hi:Int):Prd:=[[⟨lo,hi⟩]]
def exA:Aut:=⟨1,[false,false,true],[⟨0,0,J9 (-1099511627776) 1099511627776⟩,⟨0,1,J9 5 1099511627776⟩,⟨1,2,J9 (-1099511627776) 7⟩]⟩
def z2w(l:List Int):List Sy:=l.map fun n=>⟨0,n⟩
def x2n(a:Aut)(w:List Sy):Bool:=k17 a && decide (w.length≤12) && (x2s a w).2==0
end Go.Abs
namespace Go.Abs
open Go Go.Proofs
def exC:List Prd:=[[[⟨-1099511627776,4⟩]],[[⟨5,7⟩]],[[⟨8,1099511627776⟩]]]
def exQ:List (List Int):=[[0],[0,1],[0,2],[0,1,2]]
def exD:Aut:=Yq exA exC exQ
end Go.Abs
namespace Go.Abs
open Go Go.Proofs Go.Maps Go.RowKit
attribute [simp] T84 T86
attribute [local irreducible] exA exD Rt Ud v2m Ie Pg x2s w12 z2w c18 exQ
end Go.Abs
namespace Go.Abs
structure EqvB (n:Nat) (E:Nat→Nat→Bool):Prop where
 refl:∀i,i<n→E i i=true
 symm:∀i k,i<n→k<n→E i k=true→E k i=true
 trans:∀i k j,i<n→k<n→j<n→E i k=true→E k j=true→E i j=true
def Hy(E:Nat→Nat→Bool)(st:List Nat×List Nat)(i:Nat):List Nat×List Nat:=
 match st.1.findIdx? (E i)with
 |some t=>(st.1,st.2++[t])
 |none=>(st.1++[i],st.2++[st.1.length])
def O4(E:Nat→Nat→Bool)(n:Nat):List Nat×List Nat:=(yJ n).foldl (Hy E) ([],[])
def Cc(E:Nat→Nat→Bool)(st:Nat×List Nat)(i:Nat):Nat×List Nat:=
 match (yJ i).find? (E i)with
 |some k=>(st.1,st.2++[st.2.getD k 0])
 |none=>(st.1+1,st.2++[st.1])
def X7(E:Nat→Nat→Bool)(n:Nat):Nat×List Nat:=(yJ n).foldl (Cc E) (0,[])
theorem Gw(E:Nat→Nat→Bool)(n:Nat):O4 E (n+1)=Hy E (O4 E n) n:=by rw[O4,wp,wG];rfl
theorem Br(E:Nat→Nat→Bool)(n:Nat):X7 E (n+1)=Cc E (X7 E n) n:=by rw[X7,wp,wG];rfl
structure ClsS (E:Nat→Nat→Bool) (n:Nat) (fs out:List Nat):Prop where
 len:out.length=n
 asc:fs.Pairwise (·<·)
 lt:∀r∈fs,r<n
 apart:fs.Pairwise (fun r s=>E r s=false)
 num:∀i,i<n→∃t r,out[i]? =some t∧fs[t]? =some r∧r≤i∧E i r=true
theorem Rc{α:Type}{l:List α}{i:Nat}{x:α}(h:l[i]? =some x):i<l.length:=(zE.1 h).1
theorem L6{α:Type}{l:List α}{f:α→Bool}{t:Nat}{x:α}(ht:l[t]? =some x)(hx:f x=true)(hu:∀(i j:Nat) (a b:α),l[i]? =some a→l[j]? =some b→f a=true→f b=true→i=j):l.findIdx? f=some t:=by
 cases hf:l.findIdx? f with
 |none=>rw[wL]at hf;have:=hf x (zJ ht);rw[hx]at this;cases this
 |some u=>obtain⟨z1,z6,_⟩:=xA.1 hf;rw[hu u t l[u] x (zI z1) ht z6 hx]
theorem ClsS.uniq{E:Nat→Nat→Bool}{N n:Nat}(hE:EqvB N E)(hn:n≤N){fs out:List Nat}(h:ClsS E n fs out){i:Nat}(hi:i<N){u v r s:Nat}(hr:fs[u]? =some r)(hs:fs[v]? =some s)(e1:E i r=true)(e2:E i s=true):u=v:=by
 have z7:=zJ hr;have z8:=zJ hs;have za:=h.lt r z7;have zb:=h.lt s z8;have z1:E r s=true:=hE.trans r i s (by omega) hi (by omega) (hE.symm i r hi (by omega) e1) e2;have z6:E s r=true:=hE.symm r s (by omega) (by omega) z1;obtain⟨hu,rfl⟩:=zE.1 hr;obtain⟨hv,rfl⟩:=zE.1 hs;rcases vP u v with k|k|k
 ·have:=(yR.1 h.apart) u v hu hv k;rw[this]at z1;cases z1
 ·exact k
 ·have:=(yR.1 h.apart) v u hv hu k;rw[this]at z6;cases z6
theorem Ga{E:Nat→Nat→Bool}{N:Nat}(hE:EqvB N E):∀n,n≤N→ClsS E n (O4 E n).1 (O4 E n).2
 |0,_=>⟨rfl,by simp[O4],by simp[O4],by simp[O4],fun i hi=>by omega⟩
 |n+1,hn=>by
  have h:=Ga hE n (by omega);rw[Gw];generalize O4 E n=st at *
  obtain⟨fs,out⟩:=st;simp only at h;unfold Hy;simp only;cases hf:fs.findIdx? (E n)with
  |some t=>
   obtain⟨h1,h2,_⟩:=xA.1 hf;simp only;refine⟨by simp[h.len],h.asc,fun r hr=>by have:=h.lt r hr;omega,h.apart,fun i hi=> ?_⟩;by_cases e:i=n
   ·subst e;exact⟨t,fs[t],by rw[zH (by rw[h.len];omega)];simp[h.len],zI h1,by have:=h.lt _ (zK h1);omega,h2⟩
   ·obtain⟨t',r,a1,a2,a3,a4⟩:=h.num i (by omega);exact⟨t',r,by rw[zF (by rw[h.len];omega)];exact a1,a2,a3,a4⟩
  |none=>
   rw[wL]at hf;simp only;refine⟨by simp[h.len],yI.2 ⟨h.asc,by simp,fun r hr s hs=>by rw[zT.1 hs];exact h.lt r hr⟩,fun r hr=> ?_,yI.2 ⟨h.apart,by simp,fun r hr s hs=> ?_⟩,fun i hi=> ?_⟩
   ·rcases zV.1 hr with hr|hr
    ·have:=h.lt r hr;omega
    ·rw[zT.1 hr];omega
   ·rw[zT.1 hs];have z1:=h.lt r hr;have:=hf r hr;cases hc:E r n
    ·rfl
    ·rw[hE.symm r n (by omega) (by omega) hc]at this;cases this
   ·by_cases e:i=n
    ·subst e;exact⟨fs.length,i,by rw[zH (by rw[h.len];omega)];simp[h.len],by rw[zH (by omega)];simp,by omega,hE.refl i (by omega)⟩
    ·obtain⟨t',r,a1,a2,a3,a4⟩:=h.num i (by omega);exact⟨t',r,by rw[zF (by rw[h.len];omega)];exact a1,by rw[zF (Rc a2)];exact a2,a3,a4⟩
theorem N8{E:Nat→Nat→Bool}{N:Nat}(hE:EqvB N E):∀n,n≤N→X7 E n=((O4 E n).1.length,(O4 E n).2)
 |0,_=>rfl
 |n+1,hn=>by
  have ih:=N8 hE n (by omega);have h:=Ga hE n (by omega);rw[Br,Gw,ih];generalize O4 E n=st at *
  obtain⟨fs,out⟩:=st;simp only at h ih ⊢;unfold Cc Hy;simp only;cases hk:(yJ n).find? (E n)with
  |some k=>have z6:k<n:=yW.1 (List.mem_of_find?_eq_some hk);have z7:E n k=true:=List.find?_some hk;obtain⟨t,r,a1,a2,a3,a4⟩:=h.num k z6;have z8:E n r=true:=hE.trans n k r (by omega) (by omega) (by omega) z7 a4;have z1:fs.findIdx? (E n)=some t:=L6 a2 z8 fun i j a b ha hb e1 e2=>h.uniq hE (by omega) (i:=n) (by omega) ha hb e1 e2;rw[z1];simp[yV,a1]
  |none=>
   rw[List.find?_eq_none]at hk;have z1:fs.findIdx? (E n)=none:=by rw[wL];intro r hr;have:=hk r (yW.2 (h.lt r hr));simpa using this
   rw[z1];simp
theorem ClsS.first{E:Nat→Nat→Bool}{n:Nat}(hE:EqvB n E){fs out:List Nat}(h:ClsS E n fs out){t r:Nat}(ht:fs[t]? =some r):out.findIdx? (fun c=>decide (c=t))=some r:=by
 have hr:=h.lt r (zJ ht);rw[xA];refine⟨by rw[h.len];exact hr,?_,fun j hj=> ?_⟩
 ·obtain⟨u,s,a1,a2,a3,a4⟩:=h.num r hr;have hu:u=t:=h.uniq hE (zQ n) hr a2 ht a4 (hE.refl r hr);obtain⟨hl,e⟩:=zE.1 a1;rw[e,hu];simp
 ·obtain⟨u,s,a1,a2,a3,a4⟩:=h.num j (by omega);obtain⟨hl,e⟩:=zE.1 a1;rw[e];have:u≠t:=fun e'=>by subst e';rw[ht]at a2;cases a2;omega
  simpa using this
theorem ClsS.lt_fs{E:Nat→Nat→Bool}{n:Nat}{fs out:List Nat}(h:ClsS E n fs out){i:Nat}(hi:i<n):out.getD i 0<fs.length:=by obtain⟨t,r,a1,a2,_,_⟩:=h.num i hi;simp only[yV,a1,wH];exact Rc a2
def eqW(a b:Aut)(p q:Int):Prop:=∀w,(∀x∈w,Ru a x)→y1k a p w=y1k b q w
def eqS(a:Aut)(i k:Nat):Bool:=(lkN (Ts a) ((i:Int),(k:Int))).isNone
theorem Ye{a:Aut}{i:Nat}(h:i<a.fin.length):inS a (i:Int):=⟨by omega,by omega⟩
theorem f03{a b:Aut}(ha:Dfa a)(hb:Dfa b)(ht:b.types=a.types){p q:Int}(hp:inS a p)(hq:inS b q):(Pb a b p q).1=none↔eqW a b p q:=by
 rcases B2 ha hb ht hp hq with⟨w,h1,h2⟩|⟨h1,h2⟩
 ·rw[h1];exact⟨fun h=>(by cases h),fun h=>absurd (h w h2.okw) ((Xw a b p q w).1 h2.goodw)⟩
 ·exact⟨fun _=>h2,fun _=>h1⟩
theorem Ss{a:Aut}(ha:Dfa a){i k:Nat}(hi:i<a.fin.length)(hk:k<a.fin.length):eqS a i k=true↔eqW a a i k:=by rw[←f03 ha ha rfl (Ye hi) (Ye hk),q0o ha (Ye hi) (Ye hk),eqS];cases lkN (Ts a) ((i:Int),(k:Int))<;>simp
theorem x1i{a:Aut}(ha:Dfa a){i k:Nat}(hi:i<a.fin.length)(hk:k<a.fin.length):eqS a i k=(Pb a a i k).1.isNone:=by rw[q0o ha (Ye hi) (Ye hk),eqS];cases lkN (Ts a) ((i:Int),(k:Int))<;>simp
theorem v0k{a:Aut}(ha:Dfa a):EqvB a.fin.length (eqS a):=
 ⟨fun i hi=>(Ss ha hi hi).2 fun _ _=>rfl,fun i k hi hk h=>(Ss ha hk hi).2 fun w hw=>((Ss ha hi hk).1 h w hw).symm,
  fun i k j hi hk hj h h'=>(Ss ha hi hj).2 fun w hw=>((Ss ha hi hk).1 h w hw).trans ((Ss ha hk hj).1 h' w hw)⟩
def fsA(a:Aut):List Nat:=(O4 (eqS a) a.fin.length).1
def clA(a:Aut):List Nat:=(O4 (eqS a) a.fin.length).2
theorem c1i{a:Aut}(ha:Dfa a):ClsS (eqS a) a.fin.length (fsA a) (clA a):=Ga (v0k ha) _ (zQ _)
end Go.Abs
namespace Go.Abs
section
variable {α:Type} (key:α→Nat×Int)
def Ic(s:List α)(x:α):Nat→Nat
 |0=>0
 |j+1=>match s[j]? with
  |some y=>if J1 (key x) (key y)=true then Ic s x j else j+1
  |none=>j+1
def Nt(s:List α)(x:α):List α:=s.take (Ic key s x s.length)++x::s.drop (Ic key s x s.length)
def Bc(L:List α):List α:=L.foldl (Nt key) []
def ltG(p q:α):Prop:=Ii (key p).1 (key p).2 (key q).1 (key q).2
theorem Lo(s:List α)(x:α):∀j,j≤s.length→Ic key s x j≤j∧(∀i,Ic key s x j≤i→i<j→∀h:i<s.length,J1 (key x) (key s[i])=true)∧(∀i,i+1=Ic key s x j→∀h:i<s.length,J1 (key x) (key s[i])=false)
 |0,_=>⟨zQ _,fun i _ h=>by omega,fun i h=>by simp[Ic]at h⟩
 |j+1,hj=>by
  have z1:j<s.length:=by omega
  rw[Ic,zI z1];simp only;by_cases hb:J1 (key x) (key s[j])=true
  ·rw[if_pos hb];obtain⟨h1,h2,h3⟩:=Lo s x j (by omega);refine⟨by omega,fun i hi z6 hl=> ?_,h3⟩;by_cases hij:i=j
   ·subst hij;exact hb
   ·exact h2 i hi (by omega) hl
  ·rw[if_neg hb];refine⟨zQ _,fun i hi z6=>by omega,fun i hi hl=> ?_⟩;have:i=j:=by omega
   subst this;simpa using hb
theorem Hs(s:List α)(x:α):(Nt key s x).Perm (x::s):=by unfold Nt;refine vD.trans ?_;rw[xP]
theorem q0f{s:List α}{x:α}(hs:s.Pairwise (ltG key))(hd:∀y∈s,key y≠key x):(Nt key s x).Pairwise (ltG key):=by
 obtain⟨h1,h2,h3⟩:=Lo key s x s.length (zQ _);unfold Nt;generalize Ic key s x s.length=k at *
 have z1:=hs;rw[←xP k s]at z1;obtain⟨p1,p2,p3⟩:=yI.1 z1;have z7:∀y∈s.drop k,ltG key x y:=fun y hy=>by obtain⟨i,hi⟩:=yK.1 hy;rw[List.getElem?_drop]at hi;obtain⟨hl,e⟩:=zE.1 hi;have:=h2 (k+i) (by omega) hl hl;rw[e]at this;exact(R6 _ _).1 this
 have z8:∀i,i+1=k→∀h:i<s.length,ltG key s[i] x:=fun i hi hl=>by
  have h4:=h3 i hi hl;have zc:=hd s[i] (zK hl);unfold ltG;rcases vP (key s[i]).1 (key x).1 with a|a|a
  ·exact .inl a
  ·rcases Int.lt_trichotomy (key s[i]).2 (key x).2 with b|b|b
   ·exact .inr ⟨a,b⟩
   ·exact absurd (uv a b) zc
   ·have:J1 (key x) (key s[i])=true:=(R6 _ _).2 (.inr ⟨a.symm,b⟩);rw[this]at h4;cases h4
  ·have:J1 (key x) (key s[i])=true:=(R6 _ _).2 (.inl a);rw[this]at h4;cases h4
 have z6:∀y∈s.take k,ltG key y x:=fun y hy=>by
  obtain⟨i,hi⟩:=yK.1 hy;rw[List.getElem?_take]at hi;split at hi
  ·rename_i zd;obtain⟨hl,e⟩:=zE.1 hi;obtain⟨k',rfl⟩:∃k',k=k'+1:=⟨k - 1,by omega⟩
   have za:k'<s.length:=by omega
   have zb:=z8 k' rfl za;by_cases hij:i=k'
   ·subst hij;rw[←e];exact zb
   ·have:=yR.1 hs i k' hl za (by omega);rw[e]at this;exact Ii.trans this zb
  ·cases hi
 refine yI.2 ⟨p1,yQ.2 ⟨z7,p2⟩,fun y hy z hz=> ?_⟩;rcases yE.1 hz with rfl|hz
 ·exact z6 y hy
 ·exact p3 y hy z hz
theorem K5(L:List α)(hd:L.Pairwise (fun p q=>key p≠key q)):(Bc key L).Perm L∧(Bc key L).Pairwise (ltG key):=by
 have go:∀(r s:List α),s.Pairwise (ltG key)→(s++r).Pairwise (fun p q=>key p≠key q)→(r.foldl (Nt key) s).Perm (s++r)∧(r.foldl (Nt key) s).Pairwise (ltG key):=by
  intro r;induction r with
  |nil=>intro s h _;simpa using h
  |cons x r ih=>intro s h hd;obtain⟨d1,d2,d3⟩:=yI.1 hd;have hi:=q0f key h (fun y hy=>d3 y hy x (by simp));have hp:=Hs key s x;have z1:(Nt key s x++r).Perm (s++x::r):=(hp.append_right r).trans (vD (l₁:=s) (a:=x) (l₂:=r)).symm;have z6:(Nt key s x++r).Pairwise (fun p q=>key p≠key q):=(z1.pairwise_iff (fun h=>Ne.symm h)).2 hd;obtain⟨i1,i2⟩:=ih (Nt key s x) hi z6;rw[xZ];exact⟨i1.trans z1,i2⟩
 have h:=go L [] List.Pairwise.nil (by simpa using hd);unfold Bc;simpa using h
theorem w22{l l':List α}(hs:l.Pairwise (ltG key))(z1:l'.Pairwise (ltG key))(hp:∀x,x∈l↔x∈l'):l=l':=by have z6:∀ {X:List α},X.Pairwise (ltG key)→X.Nodup:=fun hx=>hx.imp (fun h e=>by subst e;exact Ii.irr h);refine List.Perm.eq_of_pairwise (le:=ltG key) (fun a b _ _ h k=>(Ii.irr (h.trans k)).elim) hs z1 ?_;exact(List.perm_ext_iff_of_nodup (z6 hs) (z6 z1)).2 hp
end
def clD(cl:List Nat)(m:Mv):Nat:=cl.getD m.dst.toNat 0
def kyM(m:Mv):Nat×Int:=Qw m.on 0
def w1o(a:Aut)(cl:List Nat)(s:Int):List Mv:=(Wk a s).foldl (fun g m=>Et 0 g (clD cl m) m.on) []
def v0q(a:Aut)(cl:List Nat)(s:Int):List Mv:=Bc kyM (w1o a cl s)
def Kl(a:Aut)(cl:List Nat)(s:Int)(t:Nat)(ty:Nat)(y:Int):Prop:=∃m∈Wk a s,clD cl m=t∧PM m.on ty y
structure MrgS (T:Nat) (D:Nat→Nat→Int→Prop) (g:List Mv):Prop where
 wf:∀m∈g,PWf T m.on
 src:∀m∈g,m.src=0
 dst:∀m∈g,∃t:Nat,m.dst=t
 nd:g.Pairwise (fun m k=>m.dst≠k.dst)
 mem:∀m∈g,∀t:Nat,m.dst=t→∀ty y,PM m.on ty y↔D t ty y
 all:∀t ty y,D t ty y→∃m∈g,m.dst=(t:Int)
 ne:∀m∈g,∃ty y,PM m.on ty y
theorem x1y{n to:Nat}{g:List Mv}{c:Prd}{T:Nat}(hg:∀m∈g,∃ty y,PM m.on ty y)(hw:∀m∈g,PWf T m.on)(hc:PWf T c)(z1:∃ty y,PM c ty y):∀m∈Et n g to c,∃ty y,PM m.on ty y:=by
 intro m hm;unfold Et at hm;split at hm
 ·rcases zV.1 hm with hm|hm
  ·exact hg m hm
  ·rw[zT.1 hm];exact z1
 ·split at hm
  ·rename_i m2 z6;rcases vF hm with hm|rfl
   ·exact hg m hm
   ·obtain⟨ty,y,h⟩:=z1;exact⟨ty,y,(Aj (hw _ (zJ z6)) hc ty y).2 (.inr h)⟩
  ·exact hg m hm
theorem f1c{a:Aut}(h:WfA a){s:Int}{m:Mv}(hm:m∈Wk a s):PWf a.types.toNat m.on∧∃ty y,PM m.on ty y:=by obtain⟨h1,h2,h3⟩:=Rm.1 hm;exact⟨h.on m h1,(Ut (h.on m h1)).1 h3⟩
theorem Gr{a:Aut}(ha:Dfa a)(cl:List Nat)(s:Int):MrgS a.types.toNat (Kl a cl s) (w1o a cl s):=by
 obtain⟨N,hN⟩:∃N,∀m∈Wk a s,clD cl m<N:=by
  refine⟨(cl.foldl max 0)+1,fun m _=> ?_⟩;have key:∀(l:List Nat) (b:Nat),b≤l.foldl max b∧∀x∈l,x≤l.foldl max b:=by
   intro l;induction l with
   |nil=>intro b;simp
   |cons x l ih=>
    intro b;obtain⟨h1,h2⟩:=ih (max b x);rw[xZ];refine⟨by omega,fun y hy=> ?_⟩;rcases yE.1 hy with rfl|hy
    ·omega
    ·exact h2 y hy
  unfold clD;by_cases hl:m.dst.toNat<cl.length
  ·have:=(key cl 0).2 _ (zK hl);simp only[yV,zI hl,wH];omega
  ·simp[yV,yZ (by omega:cl.length≤m.dst.toNat)]
 have key:∀(r:List Mv) (D:Nat→Nat→Int→Prop) (g:List Mv),MInv a.types.toNat N 0 D g→(∀m∈g,∃ty y,PM m.on ty y)→(∀m∈r,m∈Wk a s)→
   MInv a.types.toNat N 0 (fun t ty y=>D t ty y∨∃m∈r,clD cl m=t∧PM m.on ty y) (r.foldl (fun g m=>Et 0 g (clD cl m) m.on) g)∧∀m∈r.foldl (fun g m=>Et 0 g (clD cl m) m.on) g,∃ty y,PM m.on ty y:=by
  intro r;induction r with
  |nil=>intro D g h hn _;exact⟨h.congr (fun t ty y=>by simp),hn⟩
  |cons c r ih=>
   intro D g h hn hr;rw[xZ];have hc:=f1c ha.ok.wfA (hr c (by simp));obtain⟨i1,i2⟩:=ih _ _ (h.add (hN c (hr c (by simp))) hc.1 hc.2) (x1y hn h.wf hc.1 hc.2) (fun d hd=>hr d (by simp[hd]));refine⟨i1.congr (fun t ty y=> ?_),i2⟩;simp only[yE,exists_eq_or_imp,or_assoc];constructor
   ·rintro(h|⟨e,h⟩|h)
    ·exact .inl h
    ·exact .inr (.inl ⟨e.symm,h⟩)
    ·exact .inr (.inr h)
   ·rintro(h|⟨e,h⟩|h)
    ·exact .inl h
    ·exact .inr (.inl ⟨e.symm,h⟩)
    ·exact .inr (.inr h)
 have h0:MInv a.types.toNat N 0 (fun _ _ _=>False) []:=⟨by simp,by simp,by simp,by simp,by simp,fun _ _ _ h=>h.elim⟩
 obtain⟨h1,h2⟩:=key (Wk a s) _ [] h0 (by simp) (fun m hm=>hm);have h3:=h1.congr (D':=Kl a cl s) (fun t ty y=>by simp[Kl]);exact⟨h3.wf,h3.src,fun m hm=>by obtain⟨t,_,e⟩:=h3.dst m hm;exact⟨t,e⟩,h3.nd,h3.mem,h3.all,h2⟩
theorem MrgS.perm{T:Nat}{D:Nat→Nat→Int→Prop}{g g':List Mv}(h:MrgS T D g)(hp:g.Perm g'):MrgS T D g':=
 ⟨fun m hm=>h.wf m (hp.mem_iff.2 hm),fun m hm=>h.src m (hp.mem_iff.2 hm),fun m hm=>h.dst m (hp.mem_iff.2 hm),(hp.pairwise_iff (fun h=>Ne.symm h)).1 h.nd,fun m hm=>h.mem m (hp.mem_iff.2 hm),
  fun t ty y hd=>by obtain⟨m,hm,e⟩:=h.all t ty y hd;exact⟨m,hp.mem_iff.1 hm,e⟩,fun m hm=>h.ne m (hp.mem_iff.2 hm)⟩
theorem MrgS.sub{T:Nat}{D:Nat→Nat→Int→Prop}{g g':List Mv}(h:MrgS T D g)(h':MrgS T D g'){m:Mv}(hm:m∈g):m∈g':=by
 obtain⟨t,ht⟩:=h.dst m hm;obtain⟨ty,y,hy⟩:=h.ne m hm;obtain⟨k,hk,z1⟩:=h'.all t ty y ((h.mem m hm t ht ty y).1 hy);have z6:m.on=k.on:=Pp (h.wf m hm) (h'.wf k hk) fun t' n'=>by rw[h.mem m hm t ht,h'.mem k hk t z1]
 have:m=k:=by cases m;cases k;simp only at ht z1 z6;have e1:=h.src _ hm;have e2:=h'.src _ hk;simp only at e1 e2;subst z6;rw[e1,e2,ht,z1]
 rw[this];exact hk
theorem MrgS.apart{T:Nat}{D:Nat→Nat→Int→Prop}{g:List Mv}(h:MrgS T D g)(hD:∀t t' ty y,D t ty y→D t' ty y→t=t'):g.Pairwise (fun p q=>kyM p≠kyM q):=
 h.nd.imp_of_mem fun {p q} hp hq z1 e=>by obtain⟨t,ht⟩:=h.dst p hp;obtain⟨u,hu⟩:=h.dst q hq;have h1:=(Wz (h.wf p hp) (h.ne p hp)).1;have h2:=(Wz (h.wf q hq) (h.ne q hq)).1;unfold kyM at e;rw[e]at h1;have:=hD t u _ _ ((h.mem p hp t ht _ _).1 h1) ((h.mem q hq u hu _ _).1 h2);rw[ht,hu,this]at z1;exact z1 rfl
theorem MrgS.uniq{T:Nat}{D:Nat→Nat→Int→Prop}{g g':List Mv}(h:MrgS T D g)(h':MrgS T D g')(s:g.Pairwise (ltG kyM))(s':g'.Pairwise (ltG kyM)):g=g':=
 w22 kyM s s' fun _=>⟨h.sub h',h'.sub h⟩
theorem Dfa.dom{a:Aut}(ha:Dfa a){cl:List Nat}{s:Int}{t ty:Nat}{y:Int}:Kl a cl s t ty y↔(∃x:Sy,Ru a x∧x.ty.toNat=ty∧x.num=y∧∃m∈a.mv,m.src=s∧T0 m.on x=true∧cl.getD m.dst.toNat 0=t):=by
 constructor
 ·rintro⟨m,hm,h1,h2⟩;obtain⟨g1,g2,g3⟩:=Rm.1 hm;obtain⟨z6,z1⟩:=(ha.ok.wfA.on m g1).lt h2;have hx:Ru a ⟨ty,y⟩:=⟨⟨by simp,by have:=ha.ok.types;simp;omega⟩,z1⟩
  exact⟨⟨ty,y⟩,hx,by simp,rfl,m,g1,g2,(Y1 ha.ok.wfA g1 hx).2 (by simpa using h2),h1⟩
 ·rintro⟨x,hx,rfl,rfl,m,hm,h1,h2,h3⟩;have hp:=(Y1 ha.ok.wfA hm hx).1 h2;exact⟨m,Rm.2 ⟨hm,h1,(Ut (ha.ok.wfA.on m hm)).2 ⟨_,_,hp⟩⟩,h3,hp⟩
theorem j0z{a:Aut}(ha:Dfa a){cl:List Nat}{s:Int}(hs:inS a s){t ty:Nat}{y:Int}:Kl a cl s t ty y↔∃x:Sy,Ru a x∧x.ty.toNat=ty∧x.num=y∧cl.getD (toL a s x).toNat 0=t:=by
 rw[ha.dom];constructor
 ·rintro⟨x,hx,h1,h2,m,hm,rfl,h4,h5⟩;exact⟨x,hx,h1,h2,by rw[ha.to_of hm hx h4];exact h5⟩
 ·rintro⟨x,hx,h1,h2,h3⟩;obtain⟨m,hm,e1,e2,e3⟩:=ha.move hs hx;exact⟨x,hx,h1,h2,m,hm,e1,e2,by rw[e3];exact h3⟩
theorem y2j{x y:Sy}{a:Aut}(hx:Ru a x)(hy:Ru a y)(h:x.ty.toNat=y.ty.toNat)(h2:x.num=y.num):x=y:=by
 have:=hx.1.1;have:=hy.1.1;cases x;cases y;simp only at *
 have:∀ {a b:Int},0≤a→0≤b→a.toNat=b.toNat→a=b:=fun h0 h1 h=>by omega
 simp only[Sy.mk.injEq];exact⟨this ‹_› ‹_› h,h2⟩
theorem Mz{a:Aut}(ha:Dfa a){cl:List Nat}{s:Int}(hs:inS a s){t t' ty:Nat}{y:Int}(h:Kl a cl s t ty y)(h':Kl a cl s t' ty y):t=t':=by obtain⟨x,hx,h1,h2,h3⟩:=(j0z ha hs).1 h;obtain⟨x',z1,z6,z7,z8⟩:=(j0z ha hs).1 h';have:x=x':=y2j hx z1 (h1.trans z6.symm) (h2.trans z7.symm);subst this;exact h3.symm.trans z8
theorem Hj{a:Aut}(ha:Dfa a)(cl:List Nat){s:Int}(hs:inS a s):MrgS a.types.toNat (Kl a cl s) (v0q a cl s)∧(v0q a cl s).Pairwise (ltG kyM):=by have h:=Gr ha cl s;obtain⟨h1,h2⟩:=K5 kyM (w1o a cl s) (h.apart fun t t' ty y=>Mz ha hs);exact⟨h.perm h1.symm,h2⟩
def O9(a:Aut)(cl:List Nat)(s:Int)(t:Nat):List Prd:=((Wk a s).filter fun m=>decide (clD cl m=t)).map (·.on)
theorem g0z{a:Aut}(ha:Dfa a)(cl:List Nat)(s:Int){ks:List Nat}(z7:ks.Nodup)(hk:∀t,t∈ks↔∃m∈Wk a s,clD cl m=t):
  MrgS a.types.toNat (Kl a cl s) (ks.map fun t:Nat=>(⟨0,(t:Int),U5 a.types.toNat (O9 a cl s t)⟩:Mv)):=by
 have z1:∀t,∀p∈O9 a cl s t,PWf a.types.toNat p:=fun t p hp=>by obtain⟨m,hm,rfl⟩:=zR.1 hp;exact(f1c ha.ok.wfA (xL.1 hm).1).1
 have z6:∀t ty y,PM (U5 a.types.toNat (O9 a cl s t)) ty y↔Kl a cl s t ty y:=fun t ty y=>by
  rw[Cv (z1 t)];constructor
  ·rintro⟨p,hp,h⟩;obtain⟨m,hm,rfl⟩:=zR.1 hp;obtain⟨h1,h2⟩:=xL.1 hm;exact⟨m,h1,by simpa using h2,h⟩
  ·rintro⟨m,hm,h1,h2⟩;exact⟨m.on,zR.2 ⟨m,xL.2 ⟨hm,by simpa using h1⟩,rfl⟩,h2⟩
 refine⟨fun m hm=> ?_,fun m hm=> ?_,fun m hm=> ?_,?_,fun m hm t e ty y=> ?_,fun t ty y hd=> ?_,fun m hm=> ?_⟩
 ·obtain⟨t,_,rfl⟩:=zR.1 hm;exact Zd (z1 t)
 ·obtain⟨t,_,rfl⟩:=zR.1 hm;rfl
 ·obtain⟨t,_,rfl⟩:=zR.1 hm;exact⟨t,rfl⟩
 ·exact wJ.2 (z7.imp fun h e=>h (Int.ofNat.inj e))
 ·obtain⟨u,_,rfl⟩:=zR.1 hm;have:u=t:=Int.ofNat.inj e;subst this;exact z6 u ty y
 ·obtain⟨m,hm,h1,h2⟩:=hd;exact⟨_,zR.2 ⟨t,(hk t).2 ⟨m,hm,h1⟩,rfl⟩,rfl⟩
 ·obtain⟨t,ht,rfl⟩:=zR.1 hm;obtain⟨m,hm,h1⟩:=(hk t).1 ht;obtain⟨ty,y,hp⟩:=(f1c ha.ok.wfA hm).2;exact⟨ty,y,(z6 t ty y).2 ⟨m,hm,h1,hp⟩⟩
end Go.Abs
namespace Go.Abs
def q03(cl:List Nat)(t:Nat):Nat:=(cl.findIdx? fun c=>decide (c=t)).getD 0
def Kv(a:Aut)(t:Nat):Prop:=t<(fsA a).length
def Rj(a:Aut)(s:Int):Nat:=(clA a).getD s.toNat 0
def Y5(a:Aut)(t:Nat):Nat:=q03 (clA a) t
theorem Sg{a:Aut}{s:Int}(h:inS a s):s.toNat<a.fin.length∧((s.toNat:Nat):Int)=s:=by unfold inS at h;omega
theorem O2{a:Aut}(ha:Dfa a){t:Nat}(ht:Kv a t):Y5 a t<a.fin.length∧Rj a (Y5 a t)=t:=by
 have h:=c1i ha;have hf:=h.first (v0k ha) (zI ht);have hr:Y5 a t=(fsA a)[t]:=by rw[Y5,q03,hf];rfl
 rw[xA]at hf;obtain⟨h1,h2,_⟩:=hf;rw[hr];refine⟨by rw[h.len]at h1;exact h1,?_⟩;simp only[Rj,Int.toNat_natCast,yV,zI h1,wH];simpa using h2
theorem B9{a:Aut}(ha:Dfa a){t:Nat}(ht:Kv a t):inS a (Y5 a t:Int):=Ye (O2 ha ht).1
theorem y0i{a:Aut}(ha:Dfa a){s:Int}(hs:inS a s):Kv a (Rj a s):=(c1i ha).lt_fs (Sg hs).1
def O3(o:List Nat)(c:Nat):List Nat:=if c∈o then o else o++[c]
def Wj(o:List Nat)(l:List Mv):List Nat:=l.foldl (fun o m=>O3 o m.dst.toNat) o
def Ih(a:Aut)(t:Nat):List Mv:=v0q a (clA a) (Y5 a t:Int)
def Jc(a:Aut):Nat→Nat→List Nat→List Nat
 |0,_,o=>o
 |f+1,n,o=>match o[n]? with
  |none=>o
  |some c=>Jc a f (n+1) (Wj o (Ih a c))
def k0p(a:Aut):List Nat:=Jc a (a.fin.length+1) 0 [Rj a 0]
def Jx(o:List Nat)(c:Nat):Nat:=(o.findIdx? fun d=>decide (d=c)).getD 0
def mvN(a:Aut)(o:List Nat)(n:Nat):List Mv:=(Ih a (o.getD n 0)).map fun m=>⟨n,(Jx o m.dst.toNat:Int),m.on⟩
def Gq(a:Aut)(o:List Nat):Aut:=⟨a.types,o.map fun c=>a.fin.getD (Y5 a c) false,(yJ o.length).flatMap (mvN a o)⟩
def Ww(a:Aut):Aut:=Gq a (k0p a)
theorem Fq(o:List Nat)(c:Nat):∃r,O3 o c=o++r∧∀x∈r,x=c:=by
 unfold O3;split
 ·exact⟨[],by simp,by simp⟩
 ·exact⟨[c],rfl,fun x hx=>zT.1 hx⟩
theorem X1(o:List Nat)(c:Nat):c∈O3 o c:=by
 unfold O3;split
 ·assumption
 ·simp
theorem x0z{o:List Nat}(h:o.Nodup)(c:Nat):(O3 o c).Nodup:=by
 unfold O3;split
 ·exact h
 ·rename_i hc;exact List.nodup_append.2 ⟨h,by simp,fun x hx y hy e=>by rw[zT.1 hy]at e;exact hc (e▸hx)⟩
theorem Pq:∀(l:List Mv) (o:List Nat),o.Nodup→(∃r,Wj o l=o++r∧∀x∈r,∃m∈l,x=m.dst.toNat)∧(Wj o l).Nodup∧∀m∈l,m.dst.toNat∈Wj o l
 |[],o,h=>⟨⟨[],by simp[Wj],by simp⟩,h,by simp⟩
 |m::l,o,h=>by
  obtain⟨⟨r,h1,h2⟩,h3,h4⟩:=Pq l (O3 o m.dst.toNat) (x0z h _);obtain⟨r',h5,h6⟩:=Fq o m.dst.toNat;have he:Wj o (m::l)=Wj (O3 o m.dst.toNat) l:=rfl;rw[he];refine⟨⟨r'++r,by rw[h1,h5,xW],fun x hx=> ?_⟩,h3,fun k hk=> ?_⟩
  ·rcases zV.1 hx with hx|hx
   ·exact⟨m,by simp,h6 x hx⟩
   ·obtain⟨k,hk,e⟩:=h2 x hx;exact⟨k,by simp[hk],e⟩
  ·rcases yE.1 hk with rfl|hk
   ·rw[h1];exact xE _ (X1 _ _)
   ·exact h4 k hk
theorem Fj{a:Aut}(ha:Dfa a){t:Nat}(ht:Kv a t){m:Mv}(hm:m∈Ih a t):∃x,Ru a x∧m.dst=(Rj a (toL a (Y5 a t) x):Nat)∧inS a (toL a (Y5 a t) x)∧Kv a (Rj a (toL a (Y5 a t) x))∧PM m.on x.ty.toNat x.num:=by have hs:=B9 ha ht;have h:=(Hj ha (clA a) hs).1;obtain⟨u,hu⟩:=h.dst m hm;obtain⟨ty,y,hy⟩:=h.ne m hm;obtain⟨x,hx,rfl,rfl,h3⟩:=(j0z ha hs).1 ((h.mem m hm u hu ty y).1 hy);have z1:=(ha.next hs hx).1;exact⟨x,hx,by rw[hu,←h3];rfl,z1,y0i ha z1,hy⟩
structure OrdS (a:Aut) (o:List Nat):Prop where
 first:o[0]? =some (Rj a 0)
 nd:o.Nodup
 cl:∀c∈o,Kv a c
 closed:∀c∈o,∀m∈Ih a c,m.dst.toNat∈o
theorem j04{a:Aut}(ha:Dfa a):(fsA a).length≤a.fin.length:=by
 have h:=c1i ha;have z1:(fsA a).Nodup:=h.asc.imp fun h e=>by omega
 have:=z1.length_le_of_subset (l₂:=yJ a.fin.length) fun r hr=>yW.2 (h.lt r hr);simpa using this
theorem q0p{a:Aut}(ha:Dfa a){o:List Nat}(hn:o.Nodup)(hc:∀c∈o,Kv a c):o.length≤a.fin.length:=by have:=hn.length_le_of_subset (l₂:=yJ (fsA a).length) fun c hx=>yW.2 (hc c hx);have h2:=j04 ha;simp at this;omega
theorem Bp{a:Aut}(ha:Dfa a):∀(f n:Nat) (o:List Nat),a.fin.length+1≤n+f→n≤o.length→o[0]? =some (Rj a 0)→o.Nodup→(∀c∈o,Kv a c)→(∀i c,i<n→o[i]? =some c→∀m∈Ih a c,m.dst.toNat∈o)→OrdS a (Jc a f n o)
 |0,n,o,hf,hn,h0,z6,z1,hc=>by have:=q0p ha z6 z1;omega
 |f+1,n,o,hf,hn,h0,z6,z1,hc=>by
  unfold Jc;cases hon:o[n]? with
  |none=>
   simp only;have hl:o.length≤n:=by simpa using hon
   refine⟨h0,z6,z1,fun c hx m hm=> ?_⟩;obtain⟨i,hi⟩:=yK.1 hx;exact hc i c (by have:=Rc hi;omega) hi m hm
  |some c=>
   simp only;have z8:=Rc hon;obtain⟨⟨r,h1,h2⟩,h3,h4⟩:=Pq (Ih a c) o z6;have z7:=z1 c (zJ hon);refine Bp ha f (n+1) _ (by omega) (by rw[h1,yB];omega) ?_ h3 (fun d hd=> ?_) fun i d hi hd m hm=> ?_
   ·rw[h1,zF (by omega)];exact h0
   ·rw[h1]at hd;rcases zV.1 hd with hd|hd
    ·exact z1 d hd
    ·obtain⟨m,hm,e⟩:=h2 d hd;obtain⟨x,_,e2,_,e4,_⟩:=Fj ha z7 hm;rw[e,e2];simpa using e4
   ·rw[h1,zF (by omega)]at hd;by_cases e:i=n
    ·subst e;rw[hon]at hd;cases hd;exact h4 m hm
    ·rw[h1];exact xE _ (hc i d (by omega) hd m hm)
theorem Jr{a:Aut}(ha:Dfa a):OrdS a (k0p a):=
 Bp ha _ 0 _ (by omega) (by simp) rfl (by simp) (fun c hc=>by rw[zT.1 hc];exact y0i ha ha.zero) (fun i c hi=>by omega)
section
variable {a b:Aut} (ha:Dfa a) (hb:Dfa b) (ht:b.types=a.types)
def x22(a b:Aut)(c d:Nat):Prop:=Kv a c∧Kv b d∧eqW a b (Y5 a c) (Y5 b d)
structure LkO (a b:Aut) (o o':List Nat):Prop where
 len:o.length=o'.length
 k:∀(i c d:Nat),o[i]? =some c→o'[i]? =some d→x22 a b c d
end
end Go.Abs
namespace Go.Abs
theorem q2k{α:Type}{l:List α}(h:l.Nodup){i j:Nat}(hi:i<l.length)(hj:j<l.length)(e:l[i]=l[j]):i=j:=by
 rcases vP i j with k|k|k
 ·exact absurd e (yR.1 h i j hi hj k)
 ·exact k
 ·exact absurd e.symm (yR.1 h j i hj hi k)
theorem q18{o:List Nat}(hn:o.Nodup){i c:Nat}(h:o[i]? =some c):Jx o c=i:=by
 unfold Jx;have:(o.findIdx? fun d=>decide (d=c))=some i:=L6 h (by simp) fun i j x y hx hy e1 e2=>by
  have e3:x=c:=by simpa using e1
  have e4:y=c:=by simpa using e2
  subst e3 e4;obtain⟨hi,e5⟩:=zE.1 hx;obtain⟨hj,e6⟩:=zE.1 hy;exact q2k hn hi hj (e5.trans e6.symm)
 rw[this];rfl
theorem v1g{o:List Nat}(hn:o.Nodup){c:Nat}(h:c∈o):o[Jx o c]? =some c:=by obtain⟨i,hi⟩:=yK.1 h;rw[q18 hn hi];exact hi
theorem Gg{a:Aut}{o:List Nat}{m:Mv}:m∈(Gq a o).mv↔∃(n c:Nat),o[n]? =some c∧∃k∈Ih a c,m=⟨n,(Jx o k.dst.toNat:Int),k.on⟩:=by
 unfold Gq mvN;simp only[List.mem_flatMap,yW,zR];constructor
 ·rintro⟨n,hn,k,hk,rfl⟩;have e:o.getD n 0=o[n]:=by simp[yV,hn]
  rw[e]at hk;exact⟨n,_,zI hn,k,hk,rfl⟩
 ·rintro⟨n,c,hn,k,hk,rfl⟩;have e:o.getD n 0=c:=by simp[yV,hn]
  exact⟨n,Rc hn,k,by rw[e];exact hk,rfl⟩
theorem V3{a:Aut}(o:List Nat):(Gq a o).fin.length=o.length:=by simp[Gq]
theorem M5(a:Aut):(Ww a).types=a.types:=rfl
theorem z0f{a:Aut}(ha:Dfa a):WfA (Ww a):=by
 have ho:=Jr ha;have z1:(Ww a).fin.length=(k0p a).length:=V3 _;have z6:=Rc ho.first;refine⟨ha.ok.types,by omega,fun m hm=> ?_,fun m hm=> ?_,fun m hm=> ?_⟩
 ·obtain⟨n,c,hn,k,hk,rfl⟩:=Gg.1 hm;have:=Rc hn;rw[z1];exact⟨by simp,by simpa using this⟩
 ·obtain⟨n,c,hn,k,hk,rfl⟩:=Gg.1 hm;have:=Rc (v1g ho.nd (ho.closed c (zJ hn) k hk));rw[z1];exact⟨by simp,by simpa using this⟩
 ·obtain⟨n,c,hn,k,hk,rfl⟩:=Gg.1 hm;exact(Hj ha (clA a) (B9 ha (ho.cl c (zJ hn)))).1.wf k hk
theorem Si{α β:Type}(rs:List β)(hn:rs.Nodup)(p:β→α→Bool)(hp:∀s t x,p s x=true→p t x=true→s=t):∀l:List α,(rs.map fun s=>(l.filter (p s)).length).sum≤l.length
 |[]=>by have:(rs.map fun s=>(([]:List α).filter (p s)).length)=rs.map fun _=>0:=List.map_congr_left fun s _=>rfl;rw[this,List.map_const'];simp
 |x::l=>by
  have ih:=Si rs hn p hp l;have key:∀(rs:List β),rs.Nodup→(rs.map fun s=>((x::l).filter (p s)).length).sum≤(rs.map fun s=>(l.filter (p s)).length).sum+(bif rs.any (fun s=>p s x)then 1 else 0):=by
   intro rs;induction rs with
   |nil=>intro _;simp
   |cons s rs ih2=>
    intro z1;obtain⟨z6,z7⟩:=List.nodup_cons.1 z1;have:=ih2 z7;simp only[yY,ul,List.any_cons];by_cases hps:p s x=true
    ·have z8:rs.any (fun s=>p s x)=false:=by rw[wQ];intro t ht za;exact z6 (hp s t x hps za▸ht)
     rw[z8]at this;rw[List.filter_cons_of_pos hps,hps];simp only[Bool.true_or,cond_true,cond_false,yS]at this ⊢;omega
    ·rw[List.filter_cons_of_neg hps,show p s x=false by simpa using hps];simp only[Bool.false_or];omega
  have:=key rs hn;rw[yS];cases hc:rs.any (fun s=>p s x)<;>rw[hc]at this<;>simp only[cond_true,cond_false]at this<;>omega
theorem u1c(a:Aut)(cl:List Nat)(s:Int):(w1o a cl s).length≤(Wk a s).length:=by
 have h1:∀(n:Nat) (g:List Mv) (to:Nat) (c:Prd),(Et n g to c).length≤g.length+1:=fun n g to c=>by
  unfold Et;split
  ·simp
  ·split<;>simp
 have h2:∀(r g:List Mv),(r.foldl (fun g m=>Et 0 g (clD cl m) m.on) g).length≤g.length+r.length:=by
  intro r;induction r with
  |nil=>intro g;simp
  |cons m r ih=>intro g;have e:=ih (Et 0 g (clD cl m) m.on);have e2:=h1 0 g (clD cl m) m.on;rw[xZ,yS];omega
 have:=h2 (Wk a s) [];simpa[w1o]using this
theorem Fp{a:Aut}(ha:Dfa a){t:Nat}(ht:Kv a t):(Ih a t).length≤(Wk a (Y5 a t)).length:=by have h:=Gr ha (clA a) (Y5 a t);have hp:=(K5 kyM (w1o a (clA a) (Y5 a t)) (h.apart fun t' t'' ty y=>Mz ha (B9 ha ht))).1.length_eq;have:=u1c a (clA a) (Y5 a t);unfold Ih v0q;omega
theorem B7{a:Aut}(ha:Dfa a):(Ww a).mv.length≤a.mv.length:=by
 have ho:=Jr ha;have z1:∀c∈k0p a,∀d∈k0p a,Y5 a c=Y5 a d→c=d:=fun c hc d hd e=>by have e1:=(O2 ha (ho.cl c hc)).2;have e2:=(O2 ha (ho.cl d hd)).2;rw[←e1,←e2,e]
 have hlen:(Ww a).mv.length=((k0p a).map fun c=>(Ih a c).length).sum:=by
  unfold Ww Gq;simp only[List.length_flatMap]
  congr 1
  refine List.ext_getElem (by simp) fun i h1 h2=> ?_;have hi:i<(k0p a).length:=by simpa using h1
  simp[mvN,yV,hi]
 have hle:((k0p a).map fun c=>(Ih a c).length).sum≤(((k0p a).map fun c=>((Y5 a c:Nat):Int)).map fun s=>(Wk a s).length).sum:=by
  rw[List.map_map];have key:∀l:List Nat,(∀c∈l,Kv a c)→(l.map fun c=>(Ih a c).length).sum≤(l.map ((fun s=>(Wk a s).length)∘fun c=>((Y5 a c:Nat):Int))).sum:=by
   intro l;induction l with
   |nil=>intro _;simp
   |cons c l ih=>intro hc;have h1:=ih fun d hd=>hc d (by simp[hd]);have h2:=Fp ha (hc c (by simp));simp only[yY,ul,Function.comp_apply];omega
  exact key _ ho.cl
 have z6:((k0p a).map fun c=>((Y5 a c:Nat):Int)).Nodup:=by refine wJ.2 ?_;refine List.Pairwise.imp_of_mem ?_ ho.nd;intro c d hc hd z7 e;exact z7 (z1 c hc d hd (by omega))
 have:=Si _ z6 (fun s (m:Mv)=>decide (m.src=s) && !Wd m.on) (fun s t x h1 h2=>by
  simp only[Bool.and_eq_true,decide_eq_true_eq]at h1 h2;rw[←h1.1,←h2.1]) a.mv
 rw[hlen];unfold Wk at hle;omega
theorem v0r{a:Aut}(ha:Dfa a):(Ww a).fin.length≤a.fin.length:=by have ho:=Jr ha;rw[Ww,V3];exact q0p ha ho.nd ho.cl
def Su(m:Aut):Bool:=m.mv.any fun k=>k.on.any fun s=>decide (256<s.length)
theorem u00{a:Aut}(ha:Dfa a):Ch (Ww a)=Su (Ww a):=by have h1:=v0r ha;have h2:=B7 ha;have h3:=ha.ok.fin;have h4:=ha.ok.mvs;unfold Ch Su;rw[decide_eq_false (by omega),decide_eq_false (by omega)];simp
section
variable {a:Aut} (ha:Dfa a) (hb:Su (Ww a)=false)
include ha hb
end
def Ls(a:Aut):Int×Aut:=if(Rt a).1≠0 then((Rt a).1,Ys)else if(Pg (Rt a).2).1≠0 then((Pg (Rt a).2).1,Ys)else
 if Su (Ww (Pg (Rt a).2).2)then(5,Ys)else(0,Ww (Pg (Rt a).2).2)
theorem k1f{a d c:Aut}(h:OkA a)(hd:Rt a=(0,d))(hc:Pg d=(0,c)):Dfa c∧c.types=a.types∧∀w,(∀x∈w,Ru a x)→M4 c w=M4 a w:=by obtain⟨Q,_,_,_,_,_,z1,ddet,z6,dacc⟩:=x16 h hd;obtain⟨z7,z8,cfull,cdet,cacc⟩:=y11 z1 hc;exact⟨⟨z7,cdet ddet,cfull⟩,z8.trans z6,fun w hw=>(cacc w).trans (dacc w hw)⟩
end Go.Abs
namespace Go.Abs
def addI(o:List Int)(c:Int):List Int:=if c∈o then o else o++[c]
def g1q(o:List Int)(l:List Int):List Int:=l.foldl addI o
def j19(sc:Int→List Int):Nat→Nat→List Int→List Int
 |0,_,o=>o
 |f+1,n,o=>match o[n]? with
  |none=>o
  |some c=>j19 sc f (n+1) (g1q o (sc c))
structure SrchS (sc:Int→List Int) (o:List Int):Prop where
 nd:o.Nodup
 zero:(0:Int)∈o
 closed:∀c∈o,∀d∈sc c,d∈o
 least:∀S:Int→Prop,S 0→(∀c d,S c→d∈sc c→S d)→∀c∈o,S c
def v2b(a:Aut)(c:Int):List Int:=(Wk a c).map (·.dst)
def x24(a:Aut)(c:Int):List Int:=(E2 a a).map (toL a c)
def x21(a:Aut):Bool:=(j19 (v2b a) (a.fin.length+1) 0 [0]).length==a.fin.length
def v2j(a:Aut):Bool:=(j19 (x24 a) (a.fin.length+1) 0 [0]).length==a.fin.length
end Go.Abs
namespace Go.Abs
structure Dta (a:Aut):Prop where
 ok:OkA a
 det:Dk a
def wkS(a:Aut)(s:Int):List Sy→Option Int
 |[]=>some s
 |x::w=>if toL a s x<0 then none else wkS a (toL a s x) w
def fAt(f:List Int)(s:Int):Int:=f.getD s.toNat (-1)
structure IsoT (a b:Aut) (f:List Int):Prop where
 len:f.length=a.fin.length
 zero:fAt f 0=0
 low:∀q∈f,-1≤q
 fin:∀s,inS a s→0≤fAt f s→a.fin.getD s.toNat false=b.fin.getD (fAt f s).toNat false
 step:∀s,inS a s→0≤fAt f s→∀x,Ru a x→(toL a s x<0↔toL b (fAt f s) x<0)∧(0≤toL a s x→fAt f (toL a s x)=toL b (fAt f s) x)
 inj:∀s t,inS a s→inS a t→0≤fAt f s→fAt f s=fAt f t→s=t
 reach:∀s,inS a s→0≤fAt f s→∃w,(∀x∈w,Ru a x)∧wkS a 0 w=some s∧wkS b 0 w=some (fAt f s)
def j1y(st:List Int×List Int)(e:Int×Int):Option (List Int×List Int):=
 if fAt st.1 e.1=e.2 then some st else if 0≤fAt st.1 e.1∨e.2∈st.1 then none else some (st.1.set e.1.toNat e.2,st.2++[e.1])
def q1x:List (Int×Int)→List Int×List Int→Option (List Int×List Int)
 |[],st=>some st
 |e::es,st=>(j1y st e).bind (q1x es)
def x2z(chk:Int→Int→Bool)(ps:Int→Int→List (Int×Int)):Nat→Nat→List Int×List Int→Option (List Int)
 |0,_,st=>some st.1
 |f+1,n,st=>match st.2[n]? with
  |none=>some st.1
  |some p=>if chk p (fAt st.1 p)then(q1x (ps p (fAt st.1 p)) st).bind (x2z chk ps f (n+1))else none
def v2o(a:Aut):List Int×List Int:=((List.replicate a.fin.length (-1)).set 0 0,[0])
structure IsoI (a b:Aut) (st:List Int×List Int):Prop where
 len:st.1.length=a.fin.length
 zero:fAt st.1 0=0
 low:∀q∈st.1,-1≤q
 mem:∀s,s∈st.2↔inS a s∧0≤fAt st.1 s
 nd:st.2.Nodup
 inj:∀s t,inS a s→inS a t→0≤fAt st.1 s→fAt st.1 s=fAt st.1 t→s=t
 reach:∀s,inS a s→0≤fAt st.1 s→∃w,(∀x∈w,Ru a x)∧wkS a 0 w=some s∧wkS b 0 w=some (fAt st.1 s)
 rng:∀s,inS a s→0≤fAt st.1 s→inS b (fAt st.1 s)
structure PsOk (a b:Aut) (chk:Int→Int→Bool) (ps:Int→Int→List (Int×Int)):Prop where
 chk:∀p q,inS a p→inS b q→(chk p q=true↔a.fin.getD p.toNat false=b.fin.getD q.toNat false∧∀x,Ru a x→(toL a p x<0↔toL b q x<0))
 from_:∀p q,inS a p→inS b q→∀e∈ps p q,∃x,Ru a x∧toL a p x=e.1∧toL b q x=e.2∧0≤e.1∧0≤e.2
 all:∀p q,inS a p→inS b q→∀x,Ru a x→0≤toL a p x→0≤toL b q x→(toL a p x,toL b q x)∈ps p q
end Go.Abs
namespace Go.Abs
def J4:List Iv→List Iv→Option Int
 |x::l,y::m=>if max x.lo y.lo≤min x.hi y.hi then some (max x.lo y.lo)else if x.hi<y.hi then J4 l (y::m)else J4 (x::l) m
 |_,_=>none
termination_by l m=>l.length+m.length
theorem y0c(m:List Iv):J4 [] m=none:=by simp[J4]
theorem Na(x:Iv)(l:List Iv):J4 (x::l) []=none:=by simp[J4]
theorem q1q(x y:Iv)(l m:List Iv):J4 (x::l) (y::m)=if max x.lo y.lo≤min x.hi y.hi then some (max x.lo y.lo)else if x.hi<y.hi then J4 l (y::m)else J4 (x::l) m:=by rw[J4]
theorem u1w{x:Iv}{l:List Iv}(h:Sep (x::l)):∀n,M l n→x.hi<n:=by rintro n ⟨y,hy,h1,h2⟩;have:=(yQ.1 h.2).1 y hy;omega
theorem Tr{x:Iv}{l:List Iv}{n:Int}:M (x::l) n↔(x.lo≤n∧n≤x.hi)∨M l n:=by
 constructor
 ·rintro⟨y,hy,h⟩;rcases yE.1 hy with rfl|hy
  ·exact .inl h
  ·exact .inr ⟨y,hy,h⟩
 ·rintro(h|⟨y,hy,h⟩)
  ·exact⟨x,by simp,h⟩
  ·exact⟨y,by simp[hy],h⟩
theorem j0b{n:Int}:¬M [] n:=by rintro⟨y,hy,_⟩;cases hy
theorem y0v{x:Iv}{l:List Iv}(h:Sep (x::l)):Sep l:=⟨fun y hy=>h.1 y (by simp[hy]),(yQ.1 h.2).2⟩
theorem Gb(l m:List Iv)(hl:Sep l)(hm:Sep m):match J4 l m with|some n=>M l n∧M m n∧∀k,M l k→M m k→n≤k|none=>∀k,M l k→¬M m k:=by
 match l,m with
 |[],m=>rw[y0c];exact fun k h=>absurd h j0b
 |x::l,[]=>rw[Na];exact fun k _ h=>absurd h j0b
 |x::l,y::m=>
  have hx:=hl.1 x (by simp);have hy:=hm.1 y (by simp);have sx:=u1w hl;have sy:=u1w hm;rw[J4];by_cases h1:max x.lo y.lo≤min x.hi y.hi
  ·rw[if_pos h1];refine⟨Tr.2 (.inl (by omega)),Tr.2 (.inl (by omega)),fun k k1 k2=> ?_⟩;have:x.lo≤k:=by
    rcases Tr.1 k1 with h|h
    ·exact h.1
    ·have:=sx k h;omega
   have:y.lo≤k:=by
    rcases Tr.1 k2 with h|h
    ·exact h.1
    ·have:=sy k h;omega
   omega
  ·rw[if_neg h1];by_cases h2:x.hi<y.hi
   ·rw[if_pos h2];have ih:=Gb l (y::m) (y0v hl) hm;have z1:∀k,(x.lo≤k∧k≤x.hi)→¬M (y::m) k:=fun k h hk=>by
     rcases Tr.1 hk with h'|h'
     ·omega
     ·have:=sy k h';omega
    cases hc:J4 l (y::m)with
    |some n=>
     rw[hc]at ih;obtain⟨i1,i2,i3⟩:=ih;refine⟨Tr.2 (.inr i1),i2,fun k k1 k2=> ?_⟩;rcases Tr.1 k1 with h|h
     ·exact absurd k2 (z1 k h)
     ·exact i3 k h k2
    |none=>
     rw[hc]at ih;intro k k1 k2;rcases Tr.1 k1 with h|h
     ·exact z1 k h k2
     ·exact ih k h k2
   ·rw[if_neg h2];have ih:=Gb (x::l) m hl (y0v hm);have z1:∀k,(y.lo≤k∧k≤y.hi)→¬M (x::l) k:=fun k h hk=>by
     rcases Tr.1 hk with h'|h'
     ·omega
     ·have:=sx k h';omega
    cases hc:J4 (x::l) m with
    |some n=>
     rw[hc]at ih;obtain⟨i1,i2,i3⟩:=ih;refine⟨i1,Tr.2 (.inr i2),fun k k1 k2=> ?_⟩;rcases Tr.1 k2 with h|h
     ·exact absurd k1 (z1 k h)
     ·exact i3 k k1 h
    |none=>
     rw[hc]at ih;intro k k1 k2;rcases Tr.1 k2 with h|h
     ·exact z1 k h k1
     ·exact ih k k1 h
termination_by l.length+m.length
def lqB(p q:Prd):Nat→Nat→Option Sy
 |0,_=>none
 |f+1,t=>match J4 (p.getD t []) (q.getD t [])with
  |some n=>some ⟨t,n⟩
  |none=>lqB p q f (t+1)
def Ev(p q:Prd):Option Sy:=if Wd (Wg p q)then none else some (Qm (Wg p q))
theorem y0e{T:Nat}{p:Prd}(h:PWf T p)(t:Nat):Sep (p.getD t []):=by
 by_cases ht:t<p.length
 ·rw[Wo ht];exact(h.2 _ (zK ht)).1
 ·rw[show p.getD t []=[] by simp[yV,yZ (by omega:p.length≤t)]];exact⟨by simp,by simp⟩
theorem S1{p:Prd}{t:Nat}{n:Int}:PM p t n↔M (p.getD t []) n:=by
 constructor
 ·rintro⟨s,hs,h⟩;simpa[yV,hs]using h
 ·intro h;by_cases ht:t<p.length
  ·rw[Wo ht]at h;exact⟨_,zI ht,h⟩
  ·rw[show p.getD t []=[] by simp[yV,yZ (by omega:p.length≤t)]]at h;exact absurd h j0b
theorem x2e{T:Nat}{p q:Prd}(hp:PWf T p)(hq:PWf T q):lqB p q T 0=Ev p q:=by
 have hw:=Tp hp hq.1;have key:∀(f t:Nat),t+f=T→(∀t' n,t'<t→¬PM (Wg p q) t' n)→lqB p q f t=Ev p q:=by
  intro f;induction f with
  |zero=>intro t ht z1;have:Wd (Wg p q)=true:=(Rn hw).2 fun t' n hm=>z1 t' n (by have:=(hw.lt hm).1;omega) hm;rw[lqB,Ev,if_pos this]
  |succ f ih=>
   intro t ht z1;have hs:=Gb _ _ (y0e hp t) (y0e hq t);rw[lqB];cases hc:J4 (p.getD t []) (q.getD t [])with
   |some n=>
    rw[hc]at hs;obtain⟨h1,h2,h3⟩:=hs;have hm:PM (Wg p q) t n:=(Er hp.1 hq.1 t n).2 ⟨S1.2 h1,S1.2 h2⟩;have hv:Wd (Wg p q)=false:=(Ut hw).2 ⟨t,n,hm⟩;rw[Ev,if_neg (by rw[hv];simp)];obtain⟨g1,g2,g3⟩:=Px hw ⟨t,n,hm⟩;have z6:=hw.lt hm;show some (⟨(t:Int),n⟩:Sy)=some (Qm (Wg p q))
    congr 1
    rcases g3 ⟨t,n⟩ ⟨by simp,by simpa using z6.1,z6.2⟩ (by simpa using hm)with e|e
    ·exact e.symm
    ·exfalso;unfold sLt at e;simp only at e;have z8:=g1.1;by_cases hle:(Qm (Wg p q)).ty.toNat<t
     ·exact z1 _ _ hle g2
     ·have z7:(Qm (Wg p q)).ty=t:=by omega
      rw[z7]at g2;have:=(Er hp.1 hq.1 t (Qm (Wg p q)).num).1 (by simpa using g2);have:=h3 _ (S1.1 this.1) (S1.1 this.2);omega
   |none=>
    rw[hc]at hs;refine ih (t+1) (by omega) fun t' n za hm=> ?_;by_cases e:t'=t
    ·subst e;have:=(Er hp.1 hq.1 t' n).1 hm;exact hs n (S1.1 this.1) (S1.1 this.2)
    ·exact z1 t' n (by omega) hm
 exact key T 0 (by omega) (fun t' n h=>by omega)
theorem g0i{T:Nat}{p:Prd}(hp:PWf T p):Wg p p=p:=Pp (Tp hp hp.1) hp fun t n=>by rw[Er hp.1 hp.1];simp
theorem q0i{T:Nat}{p:Prd}(hp:PWf T p):Ev p p=if Wd p then none else some (Qm p):=by rw[Ev,g0i hp]
theorem v1s(a b:Aut)(s:Int×Int):Ws a b s=(Wk a s.1).flatMap fun m=>(Wk b s.2).filterMap fun n=>(Ev m.on n.on).map fun x=>(x,(m.dst,n.dst)):=by
 unfold Ws Ev
 congr 1
 funext m
 congr 1
 funext n;split<;>simp
end Go.Abs
namespace Go.Abs
def A1(a:Aut):Int:=if Wq a≠0 then Wq a else if x00 a=false∨Yt a=false then 3 else 0
theorem w0r(a:Aut):A1 a=0↔Dfa a:=by
 unfold A1;by_cases h:Wq a=0
 ·have z1:=(O5 a).1 h;rw[if_neg (fun k=>k h)];have h1:=g1n z1.wfA;have h2:Yt a=true↔u06 a:=by rw[←w08 z1.wfA,Ao];unfold Yt;rw[zW];simp only[yW];exact forall_congr' fun s=>forall_congr' fun _=>by rw[Hw z1.wfA]
  constructor
  ·intro k;split at k
   ·cases k
   ·rename_i hn;refine⟨z1,h1.1 ?_,h2.1 ?_⟩
    ·cases hs:x00 a
     ·exact absurd (.inl hs) hn
     ·rfl
    ·cases hs:Yt a
     ·exact absurd (.inr hs) hn
     ·rfl
  ·intro k;rw[if_neg];rintro(hs|hs)
   ·rw[h1.2 k.det]at hs;cases hs
   ·rw[h2.2 k.full]at hs;cases hs
 ·rw[if_pos h];exact⟨fun k=>absurd k h,fun k=>absurd ((O5 a).2 k.ok) h⟩
theorem j10{a:Aut}(h:OkA a):((Ie a).1=0∧(Ie a).2.fin.length=a.fin.length)↔Yt a=true:=by
 have z1:Wq a=0:=(O5 a).2 h;have hc:Ie a=Pg a:=by unfold Ie;rw[if_neg (fun k=>k z1)]
 have h2:Yt a=true↔Es a (Wl a)=[]:=by rw[Ao];unfold Yt;rw[zW];simp only[yW];exact forall_congr' fun s=>forall_congr' fun _=>by rw[Hw h.wfA]
 rw[hc,h2,Pg];cases hn:Es a (Wl a)with
 |nil=>simp
 |cons m l=>
  rw[if_neg (by simp)];unfold Zc;split
  ·simp
  ·simp[Ta]
end Go.Abs
namespace Go.Abs
open Go Go.Proofs Go.Maps Go.RowKit
theorem w2t(x y:Int):(if x<y then y else x)=max x y:=by omega
def f1e:Option Int→AV
 |some n=> .tup [.i n,.bool true]
 |none=> .tup [.i 0,.bool false]
theorem v0j(l m:List Iv)(hl:l.length≤1000000000)(hm:m.length≤1000000000):PC Tryz.prog 188 [LIv l,LIv m] (fun r=>r=f1e (J4 l m)):=by
 refine Ql tOk Tryz.func188 rfl Tryz.results188 rfl (by simp[Tryz.ntmps188]) ?_;rw[Tryz.ntmps188];simp only[Qg];obtain⟨R,hR⟩:∃R,J4 l m=R:=⟨_,rfl⟩
 rw[hR];repeat first|(refine r_ ?_;simp)|refine q_ ?_
 refine Qp (Qc (sl':=[(0,LIv l),(1,LIv m),(6,.i (0:Nat)),(7,.i (0:Nat))]) ?_ (by simp));refine Qo (F:=fun(u:Nat×Nat)=>⟨[(0,LIv l),(1,LIv m),(6,.i u.1),(7,.i u.2)],[]⟩)
  (fun u=>u.1≤l.length∧u.2≤m.length∧J4 (l.drop u.1) (m.drop u.2)=R) (fun u=>(l.length - u.1)+(m.length - u.2)) ?_ (0,0) ⟨wn _,wn _,by simpa using hR⟩
 rintro⟨i,k⟩ ⟨hi,hk,hI⟩ ih;simp only at hi hk hI ih ⊢;by_cases h1:i<l.length
 ·by_cases h2:k<m.length
  ·have hw:IntKind.i64.wrap ((i:Int)+1)=i+1:=wrap_i64 _ (by omega) (by omega);have z1:IntKind.i64.wrap ((k:Int)+1)=k+1:=wrap_i64 _ (by omega) (by omega);rw[ws h1,ws h2,q1q]at hI;have e1:l[i]? =some l[i]:=zI h1;have e2:m[k]? =some m[k]:=zI h2;repeat first|(refine r_ ?_;simp[h1,h2])|refine q_ ?_
   refine Qb rfl (fun _=> ?_) (fun h=>by simp[h1,h2]at h);repeat first|(refine r_ ?_;simp)|refine q_ ?_
   refine Qn tOk mixed [] (.val 0 (.val 1 (.val 2 (.val 3 (.val 4 (.val 5 (.val 6 (.val 7 (.val 8 (.val 9 (.val 10 (.val 11 (.done))))))))))))) rfl (by kernel_rfl) ?_;simp[h1,h2];repeat first|(refine r_ ?_;simp)|refine q_ ?_
   refine Qn tOk mixed [] (.val 0 (.val 1 (.val 2 (.val 3 (.val 4 (.val 5 (.val 6 (.val 7 (.val 8 (.val 9 (.val 10 (.val 11 (.val 12 (.done)))))))))))))) rfl (by kernel_rfl) ?_;simp[h1,h2];refine Qb rfl (fun h=> ?_) (fun h=> ?_)
   ·have hle:max l[i].lo m[k].lo≤min l[i].hi m[k].hi:=by simp at h;omega
    rw[if_pos hle]at hI;rw[←hI];repeat first|(refine r_ ?_;simp)|refine q_ ?_
    rw[w2t];rfl
   ·have hle:¬max l[i].lo m[k].lo≤min l[i].hi m[k].hi:=by simp at h;omega
    rw[if_neg hle]at hI;repeat first|(refine r_ ?_;simp)|refine q_ ?_
    refine Qn tOk mixed [] (.val 0 (.val 1 (.val 2 (.val 3 (.val 4 (.val 5 (.val 6 (.val 7 (.val 8 (.val 9 (.val 10 (.done)))))))))))) rfl (by kernel_rfl) ?_;simp[h1,h2];refine Qb rfl (fun h=> ?_) (fun h=> ?_)
    ·rw[if_pos (by simpa using h)]at hI;repeat first|(refine r_ ?_;simp[hw])|refine q_ ?_
     refine Qc (sl':=[(0,LIv l),(1,LIv m),(6,.i (i+1:Nat)),(7,.i k)]) ?_ (by simp);exact ih (i+1,k) ⟨by omega,hk,by rw[ws h2];exact hI⟩ (by simp;omega)
    ·rw[if_neg (by simpa using h)]at hI;repeat first|(refine r_ ?_;simp[z1])|refine q_ ?_
     refine Qc (sl':=[(0,LIv l),(1,LIv m),(6,.i i),(7,.i (k+1:Nat))]) ?_ (by simp);exact ih (i,k+1) ⟨hi,by omega,by rw[ws h1];exact hI⟩ (by simp;omega)
  ·have h3:k=m.length:=by omega
   subst h3;repeat first|(refine r_ ?_;simp[h1])|refine q_ ?_
   refine Qb rfl (fun h=>by simp at h) (fun _=> ?_);repeat first|(refine r_ ?_;simp)|refine q_ ?_
   rw[xX,ws h1,Na]at hI;rw[←hI];rfl
 ·have h3:i=l.length:=by omega
  subst h3;repeat first|(refine r_ ?_;simp)|refine q_ ?_
  refine Qb rfl (fun h=>by simp at h) (fun _=> ?_);repeat first|(refine r_ ?_;simp)|refine q_ ?_
  rw[xX,y0c]at hI;rw[←hI];rfl
def Mp:Option Sy→AV
 |some x=> .tup [encSy x,.bool true]
 |none=> .tup [encSy ⟨0,0⟩,.bool false]
theorem v19(p q:Prd)(f t:Nat):lqB p q (f+1) t=match J4 (p.getD t []) (q.getD t [])with|some n=>some ⟨t,n⟩|none=>lqB p q f (t+1):=rfl
attribute [local irreducible] lqB Ev
theorem P8(T:Nat)(p q:Prd)(hp:PWf T p)(hq:PWf T q)(z7:∀s∈p,s.length≤1000000000)(z8:∀s∈q,s.length≤1000000000)(hT:T≤1000):PC Tryz.prog 139 [encP p,encP q] (fun r=>r=Mp (Ev p q)):=by
 refine Ql tOk Tryz.func139 rfl Tryz.results139 rfl (by simp[Tryz.ntmps139]) ?_;rw[Tryz.ntmps139];simp only[Qg];simp only[encP];have zd:=hp.1;have ze:=hq.1;obtain⟨R,hR⟩:∃R,Ev p q=R:=⟨_,rfl⟩
 rw[hR];rw[←x2e hp hq]at hR;repeat first|(refine r_ ?_;simp)|refine q_ ?_
 refine Qr p.length (fun i=>lqB p q (T - i) i=R) (fun i=>[(2,.vptr 0 0),(3,.vptr 1 0),(4,.vptr 2 0),(11,.i p.length),(12,.i i)]) (fun _=>[.vars [.list (p.map encL)],.vars [.list (q.map encL)],.vars [.i 0,.i 0]]) rfl (by simp) (by simp) (by simp) (by simp) (by simpa using hR) ?_;intro i hi hI ih;repeat first|(refine r_ ?_;simp)|refine q_ ?_
 refine Qb rfl (fun za=> ?_) (fun zb=> ?_)
 ·have z1:i<p.length:=by simpa using za
  have z6:i<q.length:=by omega
  have hw:IntKind.i64.wrap ((i:Int)+1)=i+1:=wrap_i64 _ (by omega) (by omega);rw[show T - i=(T - (i+1))+1 by omega,v19,Wo z1,Wo z6]at hI;repeat first|(refine r_ ?_;simp)|refine q_ ?_
  refine Qn tOk mixed [] (.val 0 (.val 1 (.val 2 (.val 3 (.val 4 (.val 5 (.val 6 (.val 7 (.val 8 (.val 9 (.one 10 (.val 11 (.val 12 (.val 13 (.val 14 (.val 15 (.done))))))))))))))))) rfl (by kernel_rfl) ?_;simp[z1,z6];refine Qf rfl rfl (by simp) (v0j p[i] q[i] (z7 _ (zK z1)) (z8 _ (zK z6))) rfl ?_;rintro _ rfl;simp;cases hc:J4 p[i] q[i]with
  |some n=>
   rw[hc]at hI;simp[f1e];repeat first|(refine r_ ?_;simp)|refine q_ ?_
   refine Qk rfl ?_;repeat first|(refine r_ ?_;simp)|refine q_ ?_
   rw[←hI];rfl
  |none=>
   rw[hc]at hI;simp[f1e];repeat first|(refine r_ ?_;simp)|refine q_ ?_
   refine Qk rfl ?_;repeat first|(refine r_ ?_;simp[hw])|refine q_ ?_
   refine Qq _ (ih z1 hI) rfl (by simp) ?_ (by simp) (by simp);simp
 ·have zc:i=p.length:=by simp at zb;omega
  subst zc;repeat first|(refine r_ ?_;simp)|refine q_ ?_
  rw[show T - p.length=0 by omega]at hI;rw[←hI];unfold lqB;rfl
theorem L0(x y:Sy):PC Tryz.prog 148 [encSy x,encSy y] (fun r=>r= .bool (Kz x y)):=by
 refine Ql tOk Tryz.func148 rfl Tryz.results148 rfl (by simp[Tryz.ntmps148]) ?_;rw[Tryz.ntmps148];simp only[Qg];simp only[encSy,Kz];by_cases h1:x.ty<y.ty
 ·repeat first|(refine r_ ?_;simp[h1])|refine q_ ?_
 ·by_cases h2:x.ty=y.ty
  ·repeat first|(refine r_ ?_;simp[h1,h2])|refine q_ ?_
  ·have hb:(x.ty==y.ty)=false:=by simpa using h2
   repeat first|(refine r_ ?_;simp[h1,h2,hb])|refine q_ ?_
theorem c07(a:Aut)(i:Int):PC Tryz.prog 88 [encA a,.i i] (fun r=>r= .bool (decide (0≤i) && decide (i<a.fin.length))):=by
 refine Ql tOk Tryz.func88 rfl Tryz.results88 rfl (by simp[Tryz.ntmps88]) ?_;rw[Tryz.ntmps88];simp only[Qg];simp only[encA];by_cases h1:0≤i
 ·repeat first|(refine r_ ?_;simp[h1])|refine q_ ?_
 ·repeat first|(refine r_ ?_;simp[h1])|refine q_ ?_
end Go.Abs
namespace Go.Abs
open Go Go.Proofs Go.Maps Go.RowKit
attribute [local irreducible] Yt x00 Wq Ie w12
theorem w0c(a:Aut):PC Tryz.prog 84 [encA a] (fun r=>r= .i (A1 a)):=by
 refine Ql tOk Tryz.func84 rfl Tryz.results84 rfl (by simp[Tryz.ntmps84]) ?_;rw[Tryz.ntmps84];simp only[Qg];simp only[encA];repeat first|(refine r_ ?_;simp)|refine q_ ?_
 refine Qf rfl rfl (by simp) (Is a) rfl ?_;rintro _ rfl;simp;repeat first|(refine r_ ?_;simp)|refine q_ ?_
 refine Qb rfl (fun h=> ?_) (fun h=> ?_)
 ·repeat first|(refine r_ ?_;simp)|refine q_ ?_
  rw[A1,if_pos (by simpa using h)]
 have h0:Wq a=0:=by simpa using h
 have z6:=(O5 a).1 h0;rw[A1,if_neg (fun k=>k h0)];have hd:w12 a=(x00 a,0):=by unfold w12;rw[if_pos h0]
 repeat first|(refine r_ ?_;simp)|refine q_ ?_
 refine Qf rfl rfl (by simp) (q2g a) rfl ?_;rintro _ rfl;simp[hd];cases hs:x00 a with
 |false=>
  repeat first|(refine r_ ?_;simp[hs])|refine q_ ?_
  refine Qk rfl ?_;repeat (first|(refine r_ ?_;simp)|refine q_ ?_)
 |true=>
  repeat first|(refine r_ ?_;simp[hs])|refine q_ ?_
  refine Qk rfl ?_;repeat first|(refine r_ ?_;simp)|refine q_ ?_
  refine Qf rfl rfl (by simp) (Hp a) rfl ?_;rintro _ rfl;simp;have z1:=j10 z6;generalize Ie a=c at *
  by_cases he:c.1=0
  ·by_cases hl:c.2.fin.length=a.fin.length
   ·rw[z1.1 ⟨he,hl⟩];repeat first|(refine r_ ?_;simp[he,hl])|refine q_ ?_
    refine Qk rfl ?_;repeat first|(refine r_ ?_;simp)|refine q_ ?_
   ·have hf:Yt a=false:=by
     cases hf:Yt a
     ·rfl
     ·exact absurd (z1.2 hf).2 hl
    have z7:((c.2.fin.length:Int) != a.fin.length)=true:=by simp;omega
    have z8:¬(c.2.fin.length:Int)=a.fin.length:=by omega
    rw[hf];repeat first|(refine r_ ?_;simp[he,z7,z8,hl])|refine q_ ?_
    refine Qk rfl ?_;repeat first|(refine r_ ?_;simp)|refine q_ ?_
  ·have hf:Yt a=false:=by
    cases hf:Yt a
    ·rfl
    ·exact absurd (z1.2 hf).1 he
   have za:(c.1 != 0)=true:=by simpa using he
   rw[hf];repeat first|(refine r_ ?_;simp[za])|refine q_ ?_
   refine Qk rfl ?_;repeat first|(refine r_ ?_;simp)|refine q_ ?_
end Go.Abs
