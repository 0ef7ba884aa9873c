/- Part Ng of the proof: an abstract machine over the model, and what the functions of the program hand back in its terms. No condition. -/
import Derived.Test.YteghceocnldccaaGreatDoorNf
import Derived.Test.YteghceocnldccaaGreatDoorNe
set_option linter.all false
open List renaming mem_map→zX,mem_of_getElem?→zO,getElem?_set_ne→zH,getElem?_set_self→zU,getElem?_append_right→zL,getElem?_append_left→zI,getElem_mem→zT,getElem?_eq_getElem→zP,getElem?_eq_some_iff→zE,any_eq_false→vN,take_succ_eq_append_getElem→zY,length_cons→yY,length_take→wp,mem_append→yH,mem_of_mem_take→xV,foldl_append→vA,append_assoc→wd,take_of_length_le→zV,mem_singleton→z_,getElem?_eq_none→xI,findIdx?_eq_some_iff_getElem→xP,findIdx?_eq_none_iff→vD,getElem_of_mem→xE,range→yV,take_length→xB,range_succ→wQ,foldl_cons→x_,length_append→yL,mem_or_eq_of_mem_set→wJ,getD→y_,mem_cons→yP,not_mem_nil→uk,map_append→yX,length_map→yO,append_nil→xO,cons_append→vZ,mem_append_left→xL,pairwise_iff_getElem→yU,pairwise_append→yS,perm_middle→vR,take_append_drop→xY,mem_iff_getElem?→yR,pairwise_cons→yZ,mem_filter→xU,pairwise_map→wU,nodup_append→vT,mem_range→xJ,map_cons→xH,sum_cons→uG,ext_getElem→wP,find?_eq_none→uh,find?_some→tS,mem_of_find?_eq_some→uj,replicate→yB,all_eq_true→yE,drop_eq_getElem_cons→wR,drop_length→ws
open Nat renaming le_refl→zW,lt_trichotomy→vS,zero_le→wD
open Prod renaming ext→ta
open Option renaming getD_some→wH,bind_some→wB
open Bool renaming and_eq_true→yT
open Int renaming le_refl→xF,lt_or_le→sk
set_option maxHeartbeats 8000000
set_option linter.unusedSimpArgs false
set_option maxRecDepth 100000
namespace Go.Abs
open Go Go.Proofs Go.Maps
attribute [simp] T94 T88
abbrev LQ (Q:List (List Int)):List AV:=Q.map fun l=>LI l
structure TB (r p m:Nat) (a:Aut) (cl:List Prd) (Q:List (List Int)) (H:List AObj):Prop where
 t:H[r]? =some (.vars [.i a.types,.list (a.fin.map .bool),.list (a.mv.map encMv),LP cl,.sl p 1 0 Q.length,.mref m])
 s:H[p]? =some (.arr 40 1 (LQ Q))
 n:H[m]? =some (mpT (Q.map Ry))
def Af(x:List Int):Prop:=x≠[]∧x.length≤256∧∀z∈x,0≤z∧z≤1000000
def v0o(Q:List (List Int))(x:List Int):List (List Int):=if x∈Q then Q else Q++[x]
theorem TB.keep{r p m:Nat}{a:Aut}{cl:List Prd}{Q:List (List Int)}{H H':List AObj}(h:TB r p m a cl Q H)(hk:∀j,(j=r∨j=p∨j=m)→H'[j]? =H[j]?):TB r p m a cl Q H':=
 ⟨(hk r (.inl rfl)).trans h.t,(hk p (.inr (.inl rfl))).trans h.s,(hk m (.inr (.inr rfl))).trans h.n⟩
theorem TB.ne{r p m:Nat}{a:Aut}{cl:List Prd}{Q:List (List Int)}{H:List AObj}(h:TB r p m a cl Q H):r≠p∧r≠m∧p≠m:=by
 refine⟨fun e=> ?_,fun e=> ?_,fun e=> ?_⟩
 ·have h1:=h.t;rw[e,h.s]at h1;simp at h1
 ·have h1:=h.t;rw[e,h.n,E9]at h1;simp at h1
 ·have h1:=h.s;rw[e,h.n,E9]at h1;simp at h1
theorem Af.rng{x:List Int}(h:Af x):∀z∈x,-9223372036854775808≤z∧z≤9223372036854775807:=fun z hz=>by have:=h.2.2 z hz;omega
theorem G9{x:List Int}(h:Af x):(Ry x).length≤1000000:=by have:=q06 h.rng;have:=h.2.1;omega
theorem d1n{x:List Int}{Q:List (List Int)}(hQ:∀l∈Q,Af l)(hx:Af x):Ry x∈Q.map Ry↔x∈Q:=by refine⟨fun h=> ?_,fun h=>zX.2 ⟨x,h,rfl⟩⟩;obtain⟨l,hl,e⟩:=zX.1 h;rw[←Zn (fun z hz=>((hQ l hl).2.2 z hz).1) (fun z hz=>(hx.2.2 z hz).1) e];exact hl
attribute [local irreducible] mpT Ry
theorem Bo(H:List AObj)(r p m:Nat)(a:Aut)(cl:List Prd)(Q:List (List Int))(x:List Int)(h:TB r p m a cl Q H)(hx:Af x)(hQ:∀l∈Q,Af l)(zg:Q.length≤100000):
  FC Tryz.prog 57 [.vptr r 0,LI x] H (fun res H'=>∃(j p':Nat),res= .i j∧(v0o Q x)[j]? =some x∧TB r p' m a cl (v0o Q x) H'∧(p'=p∨H.length≤p')∧H.length≤H'.length∧(x∈Q→H'=H)∧∀i,i<H.length→i≠r→i≠p→i≠m→H'[i]? =H[i]?):=by
 refine W9 tOk Tryz.func57 rfl Tryz.results57 rfl (by simp[Tryz.ntmps57]) ?_;rw[Tryz.ntmps57];simp only[Qg];repeat first|(refine r_ ?_;simp)|refine q_ ?_
 refine Qe rfl rfl (by simp) (k19 x hx.rng (by have:=hx.2.1;omega) hx.1) rfl ?_;rintro _ rfl;simp;have ht:=h.t;have hn:=h.n;have hs:=h.s;obtain⟨n1,n2,n3⟩:=h.ne;repeat first|(refine r_ ?_;simp[ht])|refine q_ ?_
 have z8:∀k∈Q.map Ry,k.length≤1000000:=fun k hk=>by obtain⟨l,hl,rfl⟩:=zX.1 hk;exact G9 (hQ l hl)
 refine Fw (n:=Ry x) rfl rfl rfl rfl rfl hn z8 (G9 hx) (fun j hj=> ?_) (fun za=> ?_)
 ·have zb:Q[j]? =some x:=by rw[List.getElem?_map]at hj;obtain⟨l,hl,e⟩:=Option.map_eq_some_iff.1 hj;rw[←Zn (fun z hz=>((hQ l (zO hl)).2.2 z hz).1) (fun z hz=>(hx.2.2 z hz).1) e];exact hl
  have z1:v0o Q x=Q:=by rw[v0o,if_pos (zO zb)]
  rw[z1];simp;repeat first|(refine r_ ?_;simp)|refine q_ ?_
  refine Qm rfl ?_;simp;repeat first|(refine r_ ?_;simp)|refine q_ ?_
  exact⟨j,rfl,zb,p,h,.inl rfl⟩
 ·have zc:x∉Q:=fun hm=>za ((d1n hQ hx).2 hm);have z1:v0o Q x=Q++[x]:=by rw[v0o,if_neg zc]
  rw[z1];have ze:(Q.map Ry).length=Q.length:=by simp
  simp;repeat first|(refine r_ ?_;simp)|refine q_ ?_
  refine Qm rfl ?_;simp;repeat first|(refine r_ ?_;simp[ht])|refine q_ ?_
  refine Jw (n:=Ry x) rfl rfl rfl rfl rfl (ks:=Q.map Ry) (by rw[ze];rfl) hn z8 (G9 hx) za ?_;simp;have z6:=Qd (Ne.symm n2) ht (mpT (Q.map Ry++[Ry x]));have z7:=Qd (Ne.symm n3) hs (mpT (Q.map Ry++[Ry x]));have zd:=Qh hn (mpT (Q.map Ry++[Ry x]));have zf:∀i,i≠m→(H.set m (mpT (Q.map Ry++[Ry x])))[i]? =H[i]? :=fun i hi=>zH (Ne.symm hi);have zh:(H.set m (mpT (Q.map Ry++[Ry x]))).length=H.length:=by simp
  generalize H.set m (mpT (Q.map Ry++[Ry x]))=G at *
  repeat first|(refine r_ ?_;simp[z6])|refine q_ ?_
  have g1:∀L,(G.set p .dead++L)[r]? =some (.vars [.i a.types,.list (a.fin.map .bool),.list (a.mv.map encMv),LP cl,.sl p 1 0 Q.length,.mref m]):=fun L=>Qb (Qd (Ne.symm n1) z6 _) L;refine Qf tOk rfl rfl T28 rfl T40 rfl (by decide) (by decide) rfl rfl rfl ?_;simp[Qb z7,Qj z7,Qb z6,g1];refine⟨by simp[Wk,Qb z7,Qj z7,Qb z6,g1]<;>omega,?_⟩;repeat first|(refine r_ ?_;simp[g1])|refine q_ ?_
  have zi:=Qi z6;have zj:=Qi z7;have zk:=Qi zd;refine⟨Q.length,rfl,by simp,G.length+1,⟨?_,?_,?_⟩,.inr (by omega),by omega,fun h=>absurd h zc,fun i hi h1 h2 h3=> ?_⟩
  ·rw[zU (by simp;omega)];simp
  ·rw[zH (by omega),zL (by simp)];simp[LQ]
  ·rw[zH n2,zI (by simp;omega),zH n3,zd];simp
  ·rw[zH (Ne.symm h1),zI (by simp;omega),zH (Ne.symm h2)];exact zf i h3
end Go.Abs
namespace Go.Abs
open Go Go.Proofs Go.Maps
theorem Ad(H:List AObj)(r:Nat)(x:List Int):FC Tryz.prog 56 [.vptr r 0,LI x] H (fun res H'=>res= .fn (.func 120) [] [.vptr H.length 0,.vptr (H.length+1) 0]∧H'=H++[.vars [.vptr r 0],.vars [LI x]]):=by refine W9 tOk Tryz.func56 rfl Tryz.results56 rfl (by simp[Tryz.ntmps56]) ?_;rw[Tryz.ntmps56];simp only[Qg];repeat first|(refine r_ ?_;simp)|refine q_ ?_
attribute [local irreducible] Wh Qn
theorem w0t (a:Aut) (ha:OkA a) (cl:List Prd) (set:List Int) (zg:∀c∈cl,Hz [c]=0∧Wi c=false∧Ew a (Qn c)) (zn:cl.length≤256) (q c1 c2 r:Nat) {z7:Nat} {sl':List (Nat×AV)} {ps:List Tmp} {asg body:Code} (zh:ps.length=2) (zi:(ps.all fun p=>decide (p<z7))=true)
  (Inv:Nat→List AObj→Prop)
  (hI:∀k H,Inv k H→H[q]? =some (.lp true none z7 sl' ps asg body)∧H[c1]? =some (.vars [.vptr r 0])∧H[c2]? =some (.vars [LI set])∧∃rest,H[r]? =some (.vars (.i a.types:: .list (a.fin.map .bool):: .list (a.mv.map encMv)::LP cl::rest)))
  (z8:∀k H L,Inv k H→Inv k (H++L))
  (za:∀k c H,cl[k]? =some c→Wh a set (Qn c)=[]→Inv k H→Inv (k+1) H)
  (z1:∀k c H,cl[k]? =some c→Wh a set (Qn c)≠[]→Inv k H→AWP Tryz.prog z7 H.length asg (Ac (AWP Tryz.prog z7 H.length body (g0y q (fun jm K2=>jm=none∧Inv (k+1) (K2.set q (.lp true none z7 sl' ps asg body))))) (fun _ _=>False)) ⟨Tq sl' ps [encP c,LI (Wh a set (Qn c))],H.set q .dead⟩)
  (H0:List AObj) (h0:Inv 0 H0):FC Tryz.prog 120 [.yld q,.vptr c1 0,.vptr c2 0] H0 (fun _ H'=>Inv cl.length H'):=by
 refine W9 tOk Tryz.func120 rfl Tryz.results120 rfl (by simp[Tryz.ntmps120]) ?_;rw[Tryz.ntmps120];simp only[Qg];obtain⟨i1,i2,i3,rest,i4⟩:=hI 0 H0 h0;repeat first|(refine r_ ?_;simp[i2,i4])|refine q_ ?_
 refine Qo (Qc (sl':=[(0,.yld q),(1,.vptr c1 0),(2,.vptr c2 0),(12,LP cl),(13,.i cl.length),(14,.i (0:Nat))]) ?_ (by simp));clear i1 i2 i3 i4;clear rest;refine Qp (F:=fun(u:Nat×List AObj)=>⟨[(0,.yld q),(1,.vptr c1 0),(2,.vptr c2 0),(12,LP cl),(13,.i cl.length),(14,.i u.1)],u.2⟩)
  (fun u=>u.1≤cl.length∧Inv u.1 u.2) (fun u=>cl.length - u.1) ?_ (0,H0) ⟨by simp,h0⟩
 rintro⟨k,H⟩ ⟨hk,hv⟩ ih;simp only at hk hv ih ⊢;repeat first|(refine r_ ?_;simp)|refine q_ ?_
 refine Qa rfl (fun zj=> ?_) (fun zk=> ?_)
 ·have z6:k<cl.length:=by simpa using zj
  have hw:IntKind.i64.wrap ((k:Int)+1)=k+1:=wrap_i64 _ (by omega) (by omega);have zc:=zg _ (zT z6);have zb:cl[k]? =some cl[k]:=zP z6;repeat first|(refine r_ ?_;simp[z6])|refine q_ ?_
  generalize cl[k]=c at *;refine Qe rfl rfl (by simp) (x0y c zc.1 zc.2.1) rfl ?_
  rintro _ rfl;simp;repeat first|(refine r_ ?_;simp)|refine q_ ?_
  have zd:=z8 k H [.vars [.list (c.map encL)],.vars [.i (Qn c).ty,.i (Qn c).num]] hv;obtain⟨i1,i2,i3,rest,i4⟩:=hI k _ zd;have h6:(H++[AObj.vars [.list (c.map encL)],.vars [.i (Qn c).ty,.i (Qn c).num]])[H.length+1]? =some (.vars [.i (Qn c).ty,.i (Qn c).num]):=by rw[zL (by omega)];simp
  have h5:(H++[AObj.vars [.list (c.map encL)],.vars [.i (Qn c).ty,.i (Qn c).num]])[H.length]? =some (.vars [.list (c.map encL)]):=by rw[zL (by omega)];simp
  generalize H++[AObj.vars [.list (c.map encL)],.vars [.i (Qn c).ty,.i (Qn c).num]]=G at *;refine Qk tOk mixed [] (.val 0 (.val 1 (.val 2 (.val 3 (.val 4 (.val 5 (.one 6 (.val 7 (.done))))))))) rfl (by kernel_rfl) ?_
  simp[i2,i3,i4,h6];refine Qe rfl rfl (by simp) (Xb a ha set (Qn c) zc.2.2) rfl ?_;rintro _ rfl;simp;have hlen:=Lp ha set (Qn c);have zl:=za k c G zb;have zm:=z1 k c G zb;generalize Wh a set (Qn c)=nx at *
  by_cases hnx:nx=[]
  ·subst hnx;repeat first|(refine r_ ?_;simp[h5])|refine q_ ?_
   refine Q4 rfl rfl ?_;simp;repeat first|(refine r_ ?_;simp)|refine q_ ?_
   refine Qa rfl (fun h=>by cases h) (fun _=> ?_);repeat first|(refine r_ ?_;simp[hw])|refine q_ ?_
   refine Qc (sl':=[(0,.yld q),(1,.vptr c1 0),(2,.vptr c2 0),(12,LP cl),(13,.i cl.length),(14,.i (k+1:Nat))]) ?_ (by simp);exact ih (k+1,G) ⟨by omega,zl rfl zd⟩ (by omega)
  ·have ze:0<nx.length:=List.length_pos_iff.2 hnx;repeat first|(refine r_ ?_;simp[h5,ze])|refine q_ ?_
   refine O6 rfl rfl (q:=q) rfl rfl i1 zh zi rfl (fun jm K2=>jm=none∧Inv (k+1) (K2.set q (.lp true none z7 sl' ps asg body))) ?_ ?_
   ·exact zm hnx zd
   ·rintro jm K2 ⟨rfl,hK⟩;simp;repeat first|(refine r_ ?_;simp)|refine q_ ?_
    refine Qa rfl (fun h=>by cases h) (fun _=> ?_);repeat first|(refine r_ ?_;simp[hw])|refine q_ ?_
    refine Qc (sl':=[(0,.yld q),(1,.vptr c1 0),(2,.vptr c2 0),(12,LP cl),(13,.i cl.length),(14,.i (k+1:Nat))]) ?_ (by simp);exact ih (k+1,_) ⟨by omega,hK⟩ (by omega)
 ·have zf:k=cl.length:=by simp at zk;omega
  subst zf;repeat first|(refine r_ ?_;simp)|refine q_ ?_
  exact hv
end Go.Abs
namespace Go.Abs
open Go Go.Proofs Go.Maps Go.RowKit
section
variable {P:Program} [Env P] {T:TT} {nt k:Nat} {S:AS} {ops:Array Oper} {o:Oper} {R:AS→Prop} {Q:Exit→AS→Prop}
theorem K5 {wr:Bool} {sl:List (Nat×AV)} {H:List AObj} (i j e sz:Nat) {xs:List AV} (hi:H[i]? =some (.vars xs)) (hj:xs[j]? =some .nils)
  (h:Wt P nt k wr ops o ⟨sl,(H++[AObj.arr e sz []]).set i (.vars (xs.set j (.sl H.length sz 0 0)))⟩ R):Wt P nt k wr ops o ⟨sl,H⟩ R:=fun C a w K Q' hs=>by
 obtain⟨I,m,hw,z1,hk,hf⟩:=hs;obtain⟨g1,g2⟩:=hw.push (Below.refl _ _) none (fun b e=>by cases e) (.arr e sz []) (fun m' _ _=> .inl ⟨rfl,rfl⟩);have z8:i<H.length:=(zE.1 hi).1;have z6:(H++[AObj.arr e sz []])[i]? =some (.vars xs):=by rw[zI z8];exact hi
 obtain⟨b,t,vs,hb,hh,za,hr⟩:=g1.obj i _ z6;obtain⟨g3,g4⟩:=g1.set (w':=w) (o':= .vars (xs.set j (.sl H.length sz 0 0))) z6 rfl hb (World.grownBy.refl _ _) (fun _ h=>h) (fun m' z7=>⟨b,t,vs,rfl,hh,by simp[za],fun q v x hv hx=>by
  by_cases hq:j=q
  ·subst hq;rw[zU (zE.1 hj).1]at hx;cases hx;have:=(hr j v _ hv hj).nils_inv;subst this;exact .slnone H.length sz (by simp) (by rw[z7.ids _ (by simp)];exact Wd ..)
  ·rw[zH hq]at hx;exact(hr q v x hv hx).mono z7 (zW _)⟩)
 have hlen:((H++[AObj.arr e sz []]).set i (.vars (xs.set j (.sl H.length sz 0 0)))).length=H.length+1:=by simp
 refine h C a w K Q' ⟨I,upd m H.length none,g3,⟨z1.1,z1.2.1,fun s x hx=> ?_⟩,by simp at hk ⊢;omega,hf.trans hk g2⟩;obtain⟨v,hv,zb⟩:=z1.2.2 s x hx;refine⟨v,hv,?_⟩;have:=zb.mono (n':=H.length+1) g2 (by simp);rw[hlen];exact this
end
theorem Cp{a:Aut}(h:OkA a)(hm:(R3 a.types (onA a)).1=0):∃cl,R3 a.types (onA a)=(0,cl)∧Cls a cl∧cl.length≤256∧∀c∈cl,Hz [c]=0∧Wi c=false∧Ew a (Qn c)∧PWf a.types.toNat c∧∀s∈c,s.length≤256:=by
 have hc:=x10 h;have za:a.mv.map (·.on)=onA a:=rfl;rw[za]at hc;have z7:=Jz h;have zb:=j04 a.types (onA a);rcases d0v h.types z7 with h5|h5
 ·omega
 ·refine⟨_,h5,hc,?_⟩;have hb:Sd (Q3 a.types.toNat (onA a))=false:=by
   cases hb:Sd (Q3 a.types.toNat (onA a))with
   |false=>rfl
   |true=>
    rw[←zb,f0a]at hm;rw[if_neg (by have:=h.types;omega)]at hm;have hl:(onA a).length≤256:=by
     by_cases hl:256<(onA a).length
     ·rw[if_pos hl]at hm;simp at hm
     ·omega
    rw[if_neg (by omega),if_neg (fun k=>k ((I1 _).2 fun p hp=>(Es _ p).2 ⟨h.types,z7 p hp⟩)),hb]at hm;simp at hm
  simp only[Sd,Bool.or_eq_false_iff,decide_eq_false_iff_not,vN,decide_eq_true_eq]at hb;refine⟨by omega,fun c z1=> ?_⟩;have hw:=hc.wf c z1;have z8:∀s∈c,s.length≤256:=fun s hs=>by have:=hb.2 c z1;simp only[Bool.not_eq_true,vN,decide_eq_true_eq]at this;have:=this s hs;omega
  have z6:E8 a.types c=0:=(Es _ c).2 ⟨h.types,hw.1.1,fun s hs=>Gv (hw.1.2 s hs).1 (w02 (hw.1.2 s hs).1 (hw.1.2 s hs).2) (by have:=z8 s hs;omega)⟩;refine⟨(v1k z6).1,?_,q1s hc z1,hw.1,z8⟩;rw[Bool.eq_false_iff];intro hv;obtain⟨ty,y,hy⟩:=hw.2;exact(Ro hw.1).1 hv ty y hy
theorem y12(a:Aut)(k:Nat)(h:k<a.mv.length):(onA a).take (k+1)=(onA a).take k++[a.mv[k].on]:=by rw[zY (by simpa[onA]using h)];simp[onA]
theorem L0(a:Aut):(onA a).length=a.mv.length:=by simp[onA]
theorem Cb:∀(xs:List (List Int)) (Q:List (List Int)),(Ec Q xs).length≤Q.length+xs.length
 |[],Q=>by simp[Ec]
 |x::xs,Q=>by
  have h:=Cb xs (Hx Q x);have e:Ec Q (x::xs)=Ec (Hx Q x) xs:=rfl;have h2:(Hx Q x).length≤Q.length+1:=by unfold Hx;split<;>simp
  rw[e,yY];omega
theorem q0y{a:Aut}(z1:OkA a){Q:List (List Int)}(hQ:∀l∈Q,Af l)(z8:Q.length≤256){cl:List Prd}(za:cl.length≤256){l:List Int}(k:Nat):
  (∀y∈Ec Q ((Ta a cl l).take k),Af y)∧(Ec Q ((Ta a cl l).take k)).length≤600:=by
 have hlen:=Cb ((Ta a cl l).take k) Q;have z6:(Ta a cl l).length=cl.length:=by simp[Ta]
 rw[wp,z6]at hlen;refine⟨fun y hy=> ?_,by omega⟩;obtain⟨R,hR,z7⟩:=Y2 ((Ta a cl l).take k) Q;rw[hR]at hy;rcases yH.1 hy with hy|hy
 ·exact hQ y hy
 ·obtain⟨h1,h2⟩:=z7 y hy;obtain⟨c,_,rfl⟩:=zX.1 (xV h1);have:=z1.fin;exact⟨h2,Lp z1 _ _,fun z hz=>by have:=Pz z hz;omega⟩
theorem Kv(Q xs:List (List Int))(x:List Int):Ec Q (xs++[x])=Hx (Ec Q xs) x:=by unfold Ec;rw[vA];rfl
theorem u0b{Q:List (List Int)}{x:List Int}(h:x≠[]):Hx Q x=v0o Q x:=by
 unfold Hx v0o;by_cases hx:x∈Q
 ·rw[if_pos (.inr hx),if_pos hx]
 ·rw[if_neg (by simp[h,hx]),if_neg hx]
theorem y1d(Q:List (List Int)):Hx Q []=Q:=by unfold Hx;simp
attribute [local irreducible] Wh Qn R3 onA mpT Ry
theorem v0j(H:List AObj)(a:Aut):FC Tryz.prog 50 [encA a] H (fun res H'=>(∀j,j<H.length→H'[j]? =H[j]?)∧(((Oo a).1≠0∧res= .tup [.nilp,.i (Oo a).1])∨
  ((Oo a).1=0∧∃r p m,res= .tup [.vptr r 0,.i 0]∧TB r p m a (Oo a).2.1 (Oo a).2.2 H'∧H.length≤r∧H.length≤p∧H.length≤m))):=by
 refine W9 tOk Tryz.func50 rfl Tryz.results50 rfl (by simp[Tryz.ntmps50]) ?_;rw[Tryz.ntmps50];simp only[Qg];simp only[encA];repeat first|(refine r_ ?_;simp)|refine q_ ?_
 have b0:∀L,(H++[AObj.vars (Q7 a)]++L)[H.length]? =some (.vars (Q7 a)):=fun L=>by rw[wd,zL (by omega)];simp
 refine Qe rfl rfl (by simp) (Yh a) rfl ?_;rintro _ rfl;simp;repeat first|(refine r_ ?_;simp)|refine q_ ?_
 refine Qa rfl (fun h=> ?_) (fun h=> ?_)
 ·have h':Wg a≠0:=by simpa using h
  have hs:Oo a=(Wg a,[],[]):=Be h';rw[hs];repeat first|(refine r_ ?_;simp)|refine q_ ?_
  exact⟨fun j hj=>zI hj,h'⟩
 have h0:Wg a=0:=by simpa using h
 have z7:=(Ut a).1 h0;have ym:=z7.fin;have yn:=z7.mvs;repeat first|(refine r_ ?_;simp)|refine q_ ?_
 refine Q6 5 76 1 rfl ?_;simp;obtain⟨G0,zg⟩:∃G0,G0=H++[AObj.vars (Q7 a)]:=⟨_,rfl⟩
 have y4:G0[H.length]? =some (.vars (Q7 a)):=by rw[zg];simp
 have zh:G0.length=H.length+1:=by rw[zg];simp
 have y5:∀j,j<H.length→G0[j]? =H[j]? :=fun j hj=>by rw[zg];exact zI hj
 have y6:=SL.start G0 76 1;refine Qo (Qc (sl':=[(1,.vptr H.length 0),(5,.sl G0.length 1 0 (0:Nat)),(20,.list (a.mv.map encMv)),(21,.i a.mv.length),(22,.i (0:Nat))]) ?_ (by simp[zh]));refine Qp (F:=fun(u:Nat×Nat×List AObj)=>⟨[(1,.vptr H.length 0),(5,.sl u.2.1 1 0 u.1),(20,.list (a.mv.map encMv)),(21,.i a.mv.length),(22,.i u.1)],u.2.2⟩)
  (fun u=>u.1≤a.mv.length∧SL G0 u.2.2 u.2.1 76 1 (((onA a).take u.1).map encP)) (fun u=>a.mv.length - u.1) ?_ (0,G0.length,_) ⟨by simp,by simp only[List.take_zero,List.map_nil];rw[zg]at y6 ⊢;simpa using y6⟩
 rintro⟨j,q,E⟩ ⟨hj,s1⟩ ih;simp only at hj s1 ih ⊢;repeat first|(refine r_ ?_;simp)|refine q_ ?_
 refine Qa rfl (fun zq=> ?_) (fun zr=> ?_)
 ·have z1:j<a.mv.length:=by simpa using zq
  have hw:IntKind.i64.wrap ((j:Int)+1)=j+1:=wrap_i64 _ (by omega) (by omega);have za:=y12 a j z1;have y7:((onA a).take j).length=j:=by rw[wp,L0];omega
  have y8:=fun q' E'=>ih (j+1,q',E');simp only[za]at y8;clear za;generalize (onA a).take j=acc at *
  repeat first|(refine r_ ?_;simp[z1])|refine q_ ?_
  generalize a.mv[j]=mm at *;refine Qf tOk rfl rfl T91 rfl T76 rfl (by decide) (by decide) rfl rfl rfl ?_
  simp[Qb s1.arr,Qj s1.arr,y7];refine⟨by simp[Wk,Qb s1.arr,Qj s1.arr,y7]<;>omega,?_⟩;repeat first|(refine r_ ?_;simp[hw])|refine q_ ?_
  refine Qc (sl':=[(1,.vptr H.length 0),(5,.sl (E.length+2) 1 0 (j+1)),(20,.list (a.mv.map encMv)),(21,.i a.mv.length),(22,.i (j+1:Nat))]) ?_ (by simp);have:=y8 (E.length+2) _ ⟨by omega,s1.put [AObj.vars [AV.i mm.src,AV.i mm.dst,AV.list (mm.on.map encL)],AObj.arr 76 1 [encP mm.on]] ((acc++[mm.on]).map encP) rfl⟩ (by omega);simpa using this
 ·have zi:j=a.mv.length:=by simp at zr;omega
  subst zi;rw[zV (by rw[L0];omega)]at s1;refine Wl q s1.arr ?_;simp[L0];rw[zV (by simp[L0])];have yo:=s1.ge;have yp:=s1.le;have zj:(E.set q .dead)[H.length]? =some (.vars (Q7 a)):=by rw[zH (by omega),s1.keep _ (by omega)];exact y4
  have zu:∀i,i<H.length→(E.set q .dead)[i]? =H[i]? :=fun i hi=>by rw[zH (by omega),s1.keep _ (by omega)];exact y5 i hi
  have y9:H.length<(E.set q .dead).length:=Qi zj;generalize E.set q .dead=E1 at *;clear s1 yp yo ih
  repeat first|(refine r_ ?_;simp[zj])|refine q_ ?_
  refine Qe rfl rfl (by simp) (B7 a.types (onA a)) rfl ?_;rintro _ rfl;simp;repeat first|(refine r_ ?_;simp)|refine q_ ?_
  refine Qa rfl (fun h3=> ?_) (fun h3=> ?_)
  ·have zm:(R3 a.types (onA a)).1≠0:=by simpa using h3
   have hs:Oo a=((R3 a.types (onA a)).1,[],[]):=by rw[Oo,if_neg (fun k=>k h0),if_pos zm]
   rw[hs];repeat first|(refine r_ ?_;simp)|refine q_ ?_
   exact⟨zu,zm⟩
  have zm:(R3 a.types (onA a)).1=0:=by simpa using h3
  obtain⟨cl,ya,yq,zc,zv⟩:=Cp z7 zm;rw[ya];repeat first|(refine r_ ?_;simp[zj])|refine q_ ?_
  refine R7 rfl rfl rfl ?_;simp;repeat first|(refine r_ ?_;simp)|refine q_ ?_
  refine Eb (E1.length+3) (e:=3) (c:=1) (xs:=[.i 0]) (by rw[zL (by omega)];simp) ?_;simp;refine K5 (E1.length+1) 4 40 1 (xs:=[.i a.types,.list (a.fin.map .bool),.list (a.mv.map encMv),LP cl,.nils,.mref E1.length]) (by rw[zL (by omega)];simp) rfl ?_;refine Yc fun Z hZ=> ?_;have yr:Z.length=E1.length+5:=by rw[hZ];simp
  have z0:Z[H.length]? =some (.vars (Q7 a)):=by rw[hZ,zH (by omega),wd,zI y9];exact zj
  have zk:∀i,i<H.length→Z[i]? =H[i]? :=fun i hi=>by rw[hZ,zH (by omega),wd,zI (by omega)];exact zu i hi
  have zt:TB (E1.length+1) (E1.length+4) E1.length a cl [] Z:=by
   refine⟨?_,?_,?_⟩
   ·rw[hZ,zU (by simp)];simp
   ·rw[hZ,zH (by omega),zL (by simp)];simp[LQ]
   ·rw[hZ,zH (by omega),wd,zL (by omega)];simp[E9]
  have zb:Z[E1.length+2]? =some (.vars [.vptr (E1.length+1) 0]):=by rw[hZ,zH (by omega),wd,zL (by omega)];simp
  clear hZ;have yc:Af [0]:=⟨by simp,by simp,fun z hz=>by simp at hz;omega⟩
  refine Q8 rfl rfl (Bo Z _ _ _ a cl [] [0] zt yc (fun l hl=>by simp at hl) (by simp)) rfl ?_;rintro res Y ⟨j0,p,rfl,yd,ht,yt,yu,-,zn⟩;have zw:v0o [] [0]=[[0]]:=by simp[v0o]
  rw[zw]at ht;simp;repeat first|(refine r_ ?_;simp)|refine q_ ?_
  have y0:=(zn H.length (by omega) (by omega) (by omega) (by omega)).trans z0;have yk:∀i,i<H.length→Y[i]? =H[i]? :=fun i hi=>(zn i (by omega) (by omega) (by omega) (by omega)).trans (zk i hi);have yb:=(zn _ (by omega) (by omega) (by omega) (by omega)).trans zb;have ze:H.length≤p:=by omega
  have yv:H.length≤E1.length+1:=by omega
  have xh:H.length≤E1.length+2:=by omega
  have yw:H.length≤E1.length:=by omega
  refine Qw (sl':=[(10,.vptr (E1.length+2) 0),(11,.i (0:Nat))]) ?_ (by simp);clear zt z0 zk zb zn yr yu yd yt zj zu y9 y4 zh y5 zg;generalize E1.length+1=r at *;generalize E1.length+2=b at *;generalize E1.length=m at *
  have z6:Oo a=match x08 a cl 257 0 [[0]]with
    |none=>(5,[],[])
    |some Q=>(0,cl,Q):=by
   rw[Oo,if_neg (fun k=>k h0),ya];rfl
  refine Qo (Qc (sl':=[(10,.vptr b 0),(11,.i (0:Nat))]) ?_ (by simp));refine Qp (F:=fun(u:Nat×Nat×List (List Int)×List AObj)=>⟨[(10,.vptr b 0),(11,.i u.1)],u.2.2.2⟩)
   (fun u=>u.1≤u.2.2.1.length∧u.2.2.1.length≤256∧TB r u.2.1 m a cl u.2.2.1 u.2.2.2∧H.length≤u.2.1∧u.2.2.2[b]? =some (.vars [.vptr r 0])∧(∀i,i<H.length→u.2.2.2[i]? =H[i]?)∧(∀l∈u.2.2.1,Af l)∧x08 a cl 257 0 [[0]]=x08 a cl (257 - u.1) u.1 u.2.2.1) (fun u=>257 - u.1) ?_ (0,p,[[0]],Y) ⟨by simp,by simp,ht,ze,yb,yk,fun l hl=>by rw[z_.1 hl];exact yc,rfl⟩
  clear ht ze yb yk y0;clear Y;rintro⟨i,p,Q,Y⟩ ⟨hi,zx,ht,ze,yb,yk,hQ,z8⟩ ih;simp only at hi zx ht ze yb yk hQ z8 ih ⊢;have ye:=ht.t;repeat first|(refine r_ ?_;simp[yb,ye])|refine q_ ?_
  refine Qa rfl (fun zq=> ?_) (fun zr=> ?_)
  ·have z1:i<Q.length:=by simpa using zq
   have hw:IntKind.i64.wrap ((i:Int)+1)=i+1:=wrap_i64 _ (by omega) (by omega);have yx:=ht.s;have hlo:=hQ _ (zT z1);repeat first|(refine r_ ?_;simp)|refine q_ ?_
   refine Qk tOk mixed [8] (.val 0 (.val 1 (.val 2 (.val 3 (.val 4 (.val 5 (.val 6 (.val 7 (.one 8 (.done)))))))))) rfl (by kernel_rfl) ?_;simp[yb,ye,yx,z1];refine Q8 rfl rfl (Ad Y r Q[i]) rfl ?_;rintro _ _ ⟨rfl,rfl⟩;simp;repeat first|(refine r_ ?_;simp)|refine q_ ?_
   have zo:x08 a cl (257 - i) i Q=if 256<(Ec Q (Ta a cl Q[i])).length then none else x08 a cl (257 - (i+1)) (i+1) (Ec Q (Ta a cl Q[i])):=by
    have:257 - i=(257 - (i+1))+1:=by omega
    rw[this,x08,zP z1]
   rw[zo]at z8;clear zo;generalize Q[i]=l at *
   have yy:(Ta a cl l).length=cl.length:=by simp[Ta]
   have yf:∀(k:Nat) (c:Prd),cl[k]? =some c→(Ta a cl l).take (k+1)=(Ta a cl l).take k++[Wh a l (Qn c)]:=fun k c hc=>by
    have hk:=Gq hc;have yz:cl[k]=c:=by rw[zP hk]at hc;exact Option.some.inj hc
    rw[zY (by rw[yy];exact hk)];simp[Ta,yz]
   have x0:∀k,(∀y∈Ec Q ((Ta a cl l).take k),Af y)∧(Ec Q ((Ta a cl l).take k)).length≤600:=fun k=>q0y z7 hQ zx zc k;have x1:=Qi yb;refine Rg rfl (Rf:=fun _ H'=>∃p',TB r p' m a cl (Ec Q (Ta a cl l)) H'∧H.length≤p'∧H'[b]? =some (.vars [.vptr r 0])∧(∃sl' zy a' b',H'[Y.length+2]? =some (.lp true none 80 sl' zy a' b'))∧∀i,i<H.length→H'[i]? =H[i]?) ?_ ?_
   ·simp;refine Jh fun H1 zd=> ?_;have ft:TB r p m a cl Q H1:=ht.keep fun j hj=>by
     have:j<Y.length:=by
      rcases hj with rfl|rfl|rfl
      ·exact Qi ht.t
      ·exact Qi ht.s
      ·exact Qi ht.n
     rw[zd,zI this]
    have fb:H1[b]? =some (.vars [.vptr r 0]):=by rw[zd,zI x1];exact yb
    have x2:H1[Y.length]? =some (.vars [.vptr r 0]):=by rw[zd,zL (by omega)];simp
    have x3:H1[Y.length+1]? =some (.vars [LI l]):=by rw[zd,zL (by omega)];simp
    have fk:∀i,i<H.length→H1[i]? =H[i]? :=fun i hi=>by rw[zd,zI (by have:=Qi ht.t;omega)];exact yk i hi
    have fq:=congrArg (fun h:List AObj=>h[Y.length+2]?) zd;simp at fq;clear zd;refine FC.mono (w0t a z7 cl l (fun c hc=>⟨(zv c hc).1,(zv c hc).2.1,(zv c hc).2.2.1⟩) zc (Y.length+2) Y.length (Y.length+1) r (by rfl) (by rfl)
     (fun k H'=>∃p',TB r p' m a cl (Ec Q ((Ta a cl l).take k)) H'∧H.length≤p'∧H'[b]? =some (.vars [.vptr r 0])∧H'[Y.length]? =some (.vars [.vptr r 0])∧H'[Y.length+1]? =some (.vars [LI l])∧H'[Y.length+2]? =H1[Y.length+2]? ∧∀i,i<H.length→H'[i]? =H[i]?)
     (fun k H' ⟨p',h1,h2,h3,h4,h5,h6,h7⟩=>⟨h6.trans fq,h4,h5,_,h1.t⟩) ?_ ?_ ?_ H1 ⟨p,ft,ze,fb,x2,x3,rfl,fk⟩) ?_
    ·rintro k H' L ⟨p',h1,h2,h3,h4,h5,h6,h7⟩;refine⟨p',h1.keep fun j hj=> ?_,h2,Qb h3 _,Qb h4 _,Qb h5 _,by rw[←h6,zI (by rw[fq]at h6;exact Qi h6)],fun i hi=>by rw[zI (by have:=Qi h1.t;omega)];exact h7 i hi⟩;have:j<H'.length:=by
      rcases hj with rfl|rfl|rfl
      ·exact Qi h1.t
      ·exact Qi h1.s
      ·exact Qi h1.n
     exact zI this
    ·rintro k c H' hc za ⟨p',h1,h⟩;refine⟨p',?_,h⟩;rw[yf k c hc,za,Kv,y1d];exact h1
    ·rintro k c H' hc za ⟨p',h1,h2,h3,h4,h5,h6,h7⟩;have zz:Af (Wh a l (Qn c)):=by have:=z7.fin;exact⟨za,Lp z7 _ _,fun z hz=>by have:=Pz z hz;omega⟩
     have y1:=yf k c hc;have zl:=x0 k;rw[y1,Kv,u0b za];generalize Wh a l (Qn c)=nx at *;generalize Ec Q ((Ta a cl l).take k)=Q2 at *
     simp[Tq];have h8:=h6.trans fq;have yg:Y.length+2≠r:=fun e=>by have:=h1.t;rw[←e,h8]at this;simp at this
     have yh:Y.length+2≠p':=fun e=>by have:=h1.s;rw[←e,h8]at this;simp at this
     have yi:Y.length+2≠m:=fun e=>by have:=h1.n;rw[←e,h8,E9]at this;simp at this
     have zp:Y.length+2≠b:=fun e=>by rw[←e,h8]at h3;simp at h3
     have x4:b≠r:=fun e=>by have:=h1.t;rw[←e,h3]at this;simp at this
     have x5:b≠p':=fun e=>by have:=h1.s;rw[←e,h3]at this;simp at this
     have x6:b≠m:=fun e=>by have:=h1.n;rw[←e,h3,E9]at this;simp at this
     have x7:Y.length≠r:=fun e=>by have:=h1.t;rw[←e,h4]at this;simp at this
     have x8:Y.length≠p':=fun e=>by have:=h1.s;rw[←e,h4]at this;simp at this
     have x9:Y.length≠m:=fun e=>by have:=h1.n;rw[←e,h4,E9]at this;simp at this
     have xa:Y.length+1≠r:=fun e=>by have:=h1.t;rw[←e,h5]at this;simp at this
     have xb:Y.length+1≠p':=fun e=>by have:=h1.s;rw[←e,h5]at this;simp at this
     have xc:Y.length+1≠m:=fun e=>by have:=h1.n;rw[←e,h5,E9]at this;simp at this
     have d1:TB r p' m a cl Q2 (H'.set (Y.length+2) .dead):=h1.keep fun j hj=>by rw[zH (by rcases hj with rfl|rfl|rfl<;>assumption)]
     have d3:=Qd zp h3 .dead;have d4:=Qd (j:=Y.length+2) (by omega) h4 .dead;have d5:=Qd (j:=Y.length+2) (by omega) h5 .dead;have d6:=Qh h8 .dead;have d7:∀i,i<H.length→(H'.set (Y.length+2) .dead)[i]? =H[i]? :=fun i hi=>by rw[zH (by have:=Qi yb;omega)];exact h7 i hi
     have dl:(H'.set (Y.length+2) .dead).length=H'.length:=by simp
     generalize H'.set (Y.length+2) .dead=Z at *
     repeat first|(refine r_ ?_;simp[d3])|refine q_ ?_
     refine Q8 rfl rfl (Bo Z r p' m a cl Q2 nx d1 zz zl.1 (by have:=zl.2;omega)) rfl ?_;rintro res Z2 ⟨j0,p2,rfl,yd,yj,xi,xj,-,zf⟩;simp;repeat first|(refine r_ ?_;simp)|refine q_ ?_
     have hz:∀i,i<Z.length→i≠r→i≠p'→i≠m→Z2[i]? =Z[i]? :=zf;have e3:=(zf b (Qi d3) x4 x5 x6).trans d3;have e4:=(zf _ (Qi d4) x7 x8 x9).trans d4;have e5:=(zf _ (Qi d5) xa xb xc).trans d5;have e6:=(zf _ (Qi d6) yg yh yi).trans d6;have xd:Y.length+2≠p2:=fun e=>by have:=yj.s;rw[←e,e6]at this;simp at this
     refine⟨e6,rfl,p2,yj.keep (fun j hj=>by rw[zH (by rcases hj with rfl|rfl|rfl<;>assumption)]),by have:=Qi d6;omega,Qd zp e3 _,e4,e5,?_,fun i hi=> ?_⟩
     ·rw[fq];exact Qh e6 _
     ·rw[zH (by have:=Qi yb;omega),zf i (by have:=Qi d6;omega) (by omega) (by omega) (by omega)];exact d7 i hi
    ·rintro _ H' ⟨p',h1,h2,h3,h4,h5,h6,h7⟩;rw[zV (by omega)]at h1;exact⟨p',h1,h2,h3,⟨_,_,_,_,h6.trans fq⟩,h7⟩
   ·rintro res H' ⟨p',h1,h2,h3,⟨sl',zy,a',b',h6⟩,h7⟩;refine⟨true,none,80,sl',zy,a',b',by simpa using h6,?_⟩;simp;have yg:Y.length+2≠r:=fun e=>by have:=h1.t;rw[←e,h6]at this;simp at this
    have yh:Y.length+2≠p':=fun e=>by have:=h1.s;rw[←e,h6]at this;simp at this
    have yi:Y.length+2≠m:=fun e=>by have:=h1.n;rw[←e,h6,E9]at this;simp at this
    have zp:Y.length+2≠b:=fun e=>by rw[←e,h6]at h3;simp at h3
    have d1:TB r p' m a cl (Ec Q (Ta a cl l)) (H'.set (Y.length+2) .dead):=h1.keep fun j hj=>by rw[zH (by rcases hj with rfl|rfl|rfl<;>assumption)]
    have d3:=Qd zp h3 .dead;have d7:∀i,i<H.length→(H'.set (Y.length+2) .dead)[i]? =H[i]? :=fun i hi=>by rw[zH (by have:=Qi yb;omega)];exact h7 i hi
    have yl:=q0y z7 hQ zx zc (l:=l) cl.length;rw[zV (by omega)]at yl;have xe:=y0x Q (Ta a cl l);generalize H'.set (Y.length+2) .dead=Z at *;generalize Ec Q (Ta a cl l)=Q2 at *
    have d0:=d1.t;repeat first|(refine r_ ?_;simp[d3,d0])|refine q_ ?_
    refine Qa rfl (fun y2=> ?_) (fun xf=> ?_)
    ·have xg:256<Q2.length:=by simp at y2;omega
     rw[if_pos xg]at z8;rw[z8]at z6;rw[z6];repeat first|(refine r_ ?_;simp)|refine q_ ?_
     exact d7
    ·have y3:¬256<Q2.length:=by simp at xf;omega
     rw[if_neg y3]at z8;repeat first|(refine r_ ?_;simp[hw])|refine q_ ?_
     refine Qc (sl':=[(10,.vptr b 0),(11,.i (i+1:Nat))]) ?_ (by simp);exact ih (i+1,p',Q2,Z) ⟨by show i+1≤Q2.length;omega,by show Q2.length≤256;omega,d1,h2,d3,d7,yl.1,z8⟩ (by omega)
  ·have zi:i=Q.length:=by simp at zr;omega
   have zo:x08 a cl (257 - i) i Q=some Q:=by
    have:257 - i=(256 - i)+1:=by omega
    rw[this,x08,xI (by omega)]
   rw[zo]at z8;rw[z8]at z6;rw[z6];repeat first|(refine r_ ?_;simp[yb])|refine q_ ?_
   exact⟨yk,p,m,ht,yv,ze,yw⟩
end Go.Abs
namespace Go.Abs
open Go Go.Proofs Go.Maps Go.RowKit
attribute [local irreducible] Oo
end Go.Abs
namespace Go.Abs
open Go Go.Proofs Go.Maps Go.RowKit
def Fx(fx:List (Nat×AObj))(H:List AObj):Prop:=∀p∈fx,H[p.1]? =some p.2
theorem Fx.app{fx:List (Nat×AObj)}{H:List AObj}(h:Fx fx H)(L:List AObj):Fx fx (H++L):=fun p hp=>Qb (h p hp) L
theorem Fx.set{fx:List (Nat×AObj)}{H:List AObj}(h:Fx fx H){x:Nat}{o:AObj}(hx:H[x]? =some o)(hn:∀p∈fx,p.2≠o)(y:AObj):Fx fx (H.set x y):=fun p hp=>by
 have z1:x≠p.1:=fun e=>by have:=h p hp;rw[←e,hx]at this;exact hn p hp (Option.some.inj this).symm
 rw[zH z1];exact h p hp
def v04(g:List Mv)(to:Nat):Int:=match g.findIdx? fun m:Mv=>decide (m.dst=(to:Int))with
 |some i=>i
 |none=> -1
theorem k1r(H:List AObj)(id to:Nat)(hid:H[id]? =some (.vars [.i to]))(m:Mv):FC Tryz.prog 59 [encMv m,.vptr id 0] H (fun r H'=>r= .bool (decide (m.dst=(to:Int)))∧H'=H++[.vars [.i m.src,.i m.dst,.list (m.on.map encL)]]):=by
 refine W9 tOk Tryz.func59 rfl Tryz.results59 rfl (by simp[Tryz.ntmps59]) ?_;rw[Tryz.ntmps59];simp only[Qg];simp only[encMv];repeat first|(refine r_ ?_;simp[Qb hid])|refine q_ ?_
 rfl
theorem q1p{g:List Mv}{to j:Nat}(h:j<g.length)(h1:g[j].dst=(to:Int))(h2:∀i,∀hi:i<g.length,i<j→¬g[i].dst=(to:Int)):v04 g to=j:=by
 have:g.findIdx? (fun m:Mv=>decide (m.dst=(to:Int)))=some j:=by rw[xP];exact⟨h,by simpa using h1,fun i hi=>by simpa using h2 i (by omega) hi⟩
 rw[v04,this]
theorem v0t{g:List Mv}{to:Nat}(h2:∀i,∀hi:i<g.length,¬g[i].dst=(to:Int)):v04 g to= -1:=by
 have:g.findIdx? (fun m:Mv=>decide (m.dst=(to:Int)))=none:=by rw[vD];intro m hm;obtain⟨i,hi,rfl⟩:=xE hm;simpa using h2 i hi
 rw[v04,this]
theorem d00(H:List AObj)(v first to id:Nat)(pre g:List Mv)(hid:H[id]? =some (.vars [.i to]))(hv:H[v]? =some (.arr 78 3 ((pre++g).map encMv)))(hl:pre.length+g.length≤1000000000)(hf:first=pre.length):
  FC Tryz.prog 58 [.sl v 3 first g.length,.fn (.func 59) [] [.vptr id 0]] H (fun r H'=>r= .i (v04 g to)∧∃L,H'=H++L):=by
 subst hf;refine W9 tOk Tryz.func58 rfl Tryz.results58 rfl (by simp[Tryz.ntmps58]) ?_;rw[Tryz.ntmps58];simp only[Qg];repeat first|(refine r_ ?_;simp)|refine q_ ?_
 refine Qo (Qc (sl':=[(0,.sl v 3 pre.length g.length),(1,.fn (.func 59) [] [.vptr id 0]),(7,.i g.length),(8,.i (0:Nat))]) ?_ (by simp));refine Qp (F:=fun(u:Nat×List AObj)=>⟨[(0,.sl v 3 pre.length g.length),(1,.fn (.func 59) [] [.vptr id 0]),(7,.i g.length),(8,.i u.1)],u.2⟩)
  (fun u=>u.1≤g.length∧(∃L,u.2=H++L)∧∀i,∀hi:i<g.length,i<u.1→¬g[i].dst=(to:Int)) (fun u=>g.length - u.1) ?_ (0,H) ⟨by simp,⟨[],by simp⟩,by simp⟩
 rintro⟨j,E⟩ ⟨hj,⟨L,hL⟩,hI⟩ ih;simp only at hj hI hL ih ⊢;subst hL;repeat first|(refine r_ ?_;simp)|refine q_ ?_
 refine Qa rfl (fun za=> ?_) (fun zb=> ?_)
 ·have z1:j<g.length:=by simpa using za
  have hw:IntKind.i64.wrap ((j:Int)+1)=j+1:=wrap_i64 _ (by omega) (by omega);have zc:((pre++g).map encMv)[pre.length+j]? =some (encMv g[j]):=by simp[z1]
  have zd:=Qb hv L;have z6:=Qb hid L;repeat first|(refine r_ ?_;simp[z1,zd,zc])|refine q_ ?_
  generalize z8:g[j]=m at *;refine Q8 rfl rfl (k1r (H++L) id to z6 m) rfl ?_
  rintro _ _ ⟨rfl,rfl⟩;simp;repeat first|(refine r_ ?_;simp)|refine q_ ?_
  refine Qa rfl (fun h=> ?_) (fun h=> ?_)
  ·repeat first|(refine r_ ?_;simp)|refine q_ ?_
   exact(q1p z1 (by rw[z8];simpa using h) hI).symm
  ·repeat first|(refine r_ ?_;simp[hw])|refine q_ ?_
   refine Qc (sl':=[(0,.sl v 3 pre.length g.length),(1,.fn (.func 59) [] [.vptr id 0]),(7,.i g.length),(8,.i (j+1:Nat))]) ?_ (by simp);refine ih (j+1,_) ⟨by omega,⟨L++[.vars [.i m.src,.i m.dst,.list (m.on.map encL)]],by simp⟩,fun i hi ze=> ?_⟩ (by omega);by_cases e:i=j
   ·subst e;rw[z8];simpa using h
   ·exact hI i hi (by omega)
 ·have z7:j=g.length:=by simp at zb;omega
  subst z7;repeat first|(refine r_ ?_;simp)|refine q_ ?_
  exact(v0t fun i hi=>hI i hi hi).symm
end Go.Abs
namespace Go.Abs
open Go Go.Proofs Go.Maps Go.RowKit
theorem Xk{a:Aut}(h:(Oo a).1=0):OkA a∧∃cl Q,Oo a=(0,cl,Q)∧Zq a cl=some Q∧Cls a cl∧Sub a cl Q∧cl.length≤256∧∀c∈cl,Hz [c]=0∧Wi c=false∧Ew a (Qn c)∧PWf a.types.toNat c∧∀s∈c,s.length≤256:=by
 have h0:Wg a=0:=by
  by_cases h0:Wg a=0
  ·exact h0
  ·rw[Be h0]at h;exact absurd h h0
 have z1:=(Ut a).1 h0;have hm:(R3 a.types (onA a)).1=0:=by
  by_cases hm:(R3 a.types (onA a)).1=0
  ·exact hm
  ·rw[Oo,if_neg (fun k=>k h0),if_pos hm]at h;exact absurd h hm
 obtain⟨cl,h1,h2,h3,h4⟩:=Cp z1 hm;refine⟨z1,cl,?_⟩;rcases Xi z1 with h5|⟨Q,h5,h6,h7,h8⟩
 ·rw[h5]at h;simp at h
 ·have z6:Q3 a.types.toNat (onA a)=cl:=by
   have h9:(Oo a).2.1=cl:=by
    rw[Oo,if_neg (fun k=>k h0),if_neg (fun k=>k hm),h1];split
    ·rename_i hn;rw[Oo,if_neg (fun k=>k h0),if_neg (fun k=>k hm),h1]at h;simp only[hn]at h;simp at h
    ·rfl
   rw[h5]at h9;exact h9
  rw[z6]at h5 h6 h7 h8;exact⟨Q,h5,h6,h2,h7,h3,h4⟩
theorem u1j(H:List AObj)(id:Nat)(a:Aut)(hid:H[id]? =some (.vars (Q7 a)))(s:Int)(h0:0≤s)(h1:s<a.fin.length):FC Tryz.prog 55 [.i s,.vptr id 0] H (fun r H'=>r= .bool (a.fin.getD s.toNat false)∧H'=H):=by
 refine W9 tOk Tryz.func55 rfl Tryz.results55 rfl (by simp[Tryz.ntmps55]) ?_;rw[Tryz.ntmps55];simp only[Qg];have h2:s.toNat<a.fin.length:=by omega
 repeat first|(refine r_ ?_;simp[hid,h0,h1,h2])|refine q_ ?_
def stepG(a:Aut)(Q:List (List Int))(n:Nat)(l:List Int)(g:List Mv)(c:Prd):List Mv:=match v0m Q (Wh a l (Qn c))with|some t=>Tp n g t c|none=>g
def E6(a:Aut)(cl:List Prd)(Q:List (List Int))(n:Nat)(l:List Int)(k:Nat):List Mv:=(cl.take k).foldl (stepG a Q n l) []
def Dq(a:Aut)(cl:List Prd)(Q:List (List Int))(n:Nat):List Mv:=(yV n).flatMap fun n=>Xz a cl Q n (Q.getD n [])
theorem Gc(a:Aut)(cl:List Prd)(Q:List (List Int))(n:Nat)(l:List Int):E6 a cl Q n l cl.length=Xz a cl Q n l:=by rw[E6,xB];rfl
theorem Bw(a:Aut)(cl:List Prd)(Q:List (List Int))(n:Nat)(l:List Int){k:Nat}{c:Prd}(h:cl[k]? =some c):E6 a cl Q n l (k+1)=stepG a Q n l (E6 a cl Q n l k) c:=by
 have hk:=Gq h;have hc:cl[k]=c:=by rw[zP hk]at h;exact Option.some.inj h
 rw[E6,zY hk,vA,hc];rfl
theorem Vo(a:Aut)(cl:List Prd)(Q:List (List Int))(n:Nat):Dq a cl Q (n+1)=Dq a cl Q n++Xz a cl Q n (Q.getD n []):=by simp[Dq,wQ]
theorem u0l(n:Nat)(g:List Mv)(to:Nat)(c:Prd):(Tp n g to c).length≤g.length+1:=by
 unfold Tp;split
 ·simp
 ·split<;>simp
theorem Cu(a:Aut)(Q:List (List Int))(n:Nat)(l:List Int):∀(cl:List Prd) (g:List Mv),(cl.foldl (stepG a Q n l) g).length≤g.length+cl.length
 |[],g=>by simp
 |c::cl,g=>by
  have h1:=Cu a Q n l cl (stepG a Q n l g c);have h2:(stepG a Q n l g c).length≤g.length+1:=by
   unfold stepG;split
   ·exact u0l _ _ _ _
   ·omega
  rw[x_,yY];omega
theorem F0(a:Aut)(cl:List Prd)(Q:List (List Int))(n:Nat)(l:List Int)(hc:cl.length≤256)(k:Nat):(E6 a cl Q n l k).length≤256:=by have:=Cu a Q n l (cl.take k) [];rw[wp]at this;rw[E6];simp at this;omega
theorem q1u(a:Aut)(cl:List Prd)(Q:List (List Int))(hq:Q.length≤256)(hc:cl.length≤256):∀n,n<Q.length→(Dq a cl Q n).length≤n * 256∧(Dq a cl Q n).length≤65536:=by
 have:∀n,(Dq a cl Q n).length≤n * 256:=fun n=>by
  induction n with
  |zero=>simp[Dq]
  |succ n ih=>
   have h:=F0 a cl Q n (Q.getD n []) hc cl.length;rw[Gc]at h;have:Dq a cl Q (n+1)=Dq a cl Q n++Xz a cl Q n (Q.getD n []):=by simp[Dq,wQ]
   rw[this,yL];omega
 exact fun n hn=>⟨this n,by have:=this n;omega⟩
theorem z07(a:Aut)(cl:List Prd)(Q:List (List Int))(n:Nat)(l:List Int):E6 a cl Q n l 0=[]:=rfl
theorem y1r{a:Aut}{Q:List (List Int)}(z1:∀l∈Q,l≠[]){n:Nat}{l:List Int}{g:List Mv}{c:Prd}(h:Wh a l (Qn c)=[]):stepG a Q n l g c=g:=by
 unfold stepG;rw[h];cases hq:v0m Q []with
 |none=>rfl
 |some t=>exact absurd rfl (z1 _ (zO (Gx hq)))
theorem f0i{a:Aut}{Q:List (List Int)}(hn:Q.Nodup){n t:Nat}{l:List Int}{g:List Mv}{c:Prd}(h:Q[t]? =some (Wh a l (Qn c))):stepG a Q n l g c=Tp n g t c:=by unfold stepG;rw[k0u hn h]
theorem c0v{T n to:Nat}{g:List Mv}{c:Prd}(hg:∀m∈g,PWf T m.on)(hc:PWf T c):∀m∈Tp n g to c,PWf T m.on:=by
 intro m hm;unfold Tp at hm;split at hm
 ·rcases yH.1 hm with hm|hm
  ·exact hg m hm
  ·rw[z_.1 hm];exact hc
 ·split at hm
  ·rename_i m2 z1;rcases wJ hm with hm|rfl
   ·exact hg m hm
   ·exact Fk (hg _ (zO z1)) hc
  ·exact hg m hm
theorem y10{a:Aut}{T:Nat}{Q:List (List Int)}{n:Nat}{l:List Int}{cl:List Prd}(z1:∀c∈cl,PWf T c):∀k,∀m∈E6 a cl Q n l k,PWf T m.on:=by
 have:∀(cl:List Prd) (g:List Mv),(∀c∈cl,PWf T c)→(∀m∈g,PWf T m.on)→∀m∈cl.foldl (stepG a Q n l) g,PWf T m.on:=by
  intro cl;induction cl with
  |nil=>intro g _ hg;exact hg
  |cons c cl ih=>
   intro g hc hg;refine ih _ (fun x hx=>hc x (by simp[hx])) fun m hm=> ?_;unfold stepG at hm;split at hm
   ·exact c0v hg (hc c (by simp)) m hm
   ·exact hg m hm
 exact fun k=>this _ _ (fun c hc=>z1 c (xV hc)) (fun m hm=>by simp at hm)
def AObj.isLp:AObj→Bool
 | .lp .. =>true
 |_=>false
theorem v1t{T:Nat}{c:Prd}(hw:PWf T c)(hz:∀s∈c,s.length≤256){i:Nat}(hi:i<T):(Qx [c] i).length≤1000000:=by
 have h:i<c.length:=by rw[hw.1];exact hi
 have:Qx [c] i=c[i]:=by simp[Qx,y_,h]
 rw[this];have:=hz _ (zT h);omega
theorem u14{T:Nat}{p c:Prd}(hp:PWf T p)(hw:PWf T c)(h1:∀s∈p,s.length≤65536)(hz:∀s∈c,s.length≤256){i:Nat}(hi:i<T):(Qx [p,c] i).length≤1000000:=by
 have h:i<c.length:=by rw[hw.1];exact hi
 have h2:i<p.length:=by rw[hp.1];exact hi
 have:Qx [p,c] i=p[i]++c[i]:=by simp[Qx,y_,h,h2]
 rw[this,yL];have:=hz _ (zT h);have:=h1 _ (zT h2);omega
theorem w1c(a:Aut)(cl:List Prd)(Q:List (List Int)):Dq a cl Q Q.length=(Y1 a cl Q).mv:=rfl
theorem q0t(a:Aut)(cl:List Prd)(Q:List (List Int)):(Y1 a cl Q).fin=Q.map (Hs a):=rfl
theorem z0f(a:Aut)(cl:List Prd)(Q:List (List Int)):(Y1 a cl Q).types=a.types:=rfl
theorem q0g(d:Aut):Z5 d=if Mf d then(5,Ul)else(0,d):=rfl
theorem u0p(a:Aut)(cl:List Prd)(Q:List (List Int))(hq:Q.length≤256)(hc:cl.length≤256):(Dq a cl Q Q.length).length≤65536:=by
 have:∀n,(Dq a cl Q n).length≤n * 256:=fun n=>by
  induction n with
  |zero=>simp[Dq]
  |succ n ih=>have h:=F0 a cl Q n (Q.getD n []) hc cl.length;rw[Gc]at h;rw[Vo,yL];omega
 have:=this Q.length;omega
theorem g0w{p c:Prd}{A B:Nat}(hp:∀s∈p,s.length≤A)(hc:∀s∈c,s.length≤B):∀s∈Rq p c,s.length≤A+B:=by intro s hs;obtain⟨i,hi,rfl⟩:=xE hs;simp only[Rq,List.length_zipWith]at hi;simp only[Rq,List.getElem_zipWith];refine Nat.le_trans (q0h _) ?_;rw[yL];have h1:=hp _ (zT (by omega:i<p.length));have h2:=hc _ (zT (by omega:i<c.length));omega
theorem z1x{a:Aut}{Q:List (List Int)}{n:Nat}{l:List Int}{cl:List Prd}(z6:∀c∈cl,∀s∈c,s.length≤256)(z8:cl.length≤256):∀k,∀m∈E6 a cl Q n l k,∀s∈m.on,s.length≤65536:=by
 have key:∀(cl:List Prd) (g:List Mv) (B:Nat),(∀c∈cl,∀s∈c,s.length≤256)→(∀m∈g,∀s∈m.on,s.length≤B)→∀m∈cl.foldl (stepG a Q n l) g,∀s∈m.on,s.length≤B+cl.length * 256:=by
  intro cl;induction cl with
  |nil=>intro g B _ hg m hm s hs;have:=hg m hm s hs;simp;omega
  |cons c cl ih=>
   intro g B hc hg m hm s hs;have h1:∀m∈stepG a Q n l g c,∀s∈m.on,s.length≤B+256:=by
    intro m hm s hs;have z1:=hc c (by simp);unfold stepG Tp at hm;split at hm
    ·split at hm
     ·rcases yH.1 hm with hm|hm
      ·have:=hg m hm s hs;omega
      ·rw[z_.1 hm]at hs;have:=z1 s hs;omega
     ·split at hm
      ·rename_i m2 z7;rcases wJ hm with hm|rfl
       ·have:=hg m hm s hs;omega
       ·exact g0w (hg _ (zO z7)) z1 s hs
      ·have:=hg m hm s hs;omega
    ·have:=hg m hm s hs;omega
   have:=ih (stepG a Q n l g c) (B+256) (fun x hx=>hc x (by simp[hx])) h1 m hm s hs;rw[yY];omega
 intro k m hm s hs;have:=key (cl.take k) [] 0 (fun c hc=>z6 c (xV hc)) (fun m hm=>by simp at hm) m hm s hs;rw[wp]at this;have:min k cl.length≤256:=by omega
 omega
theorem V2(a:Aut)(cl:List Prd)(Q:List (List Int)):Dq a cl Q 0=[]:=rfl
attribute [local irreducible] Oo Wh Qn mpT Ry Z5 Y1 Dq E6 stepG Hs Mf
theorem Ja(a:Aut):PC Tryz.prog 18 [encA a] (fun r=>r= .tup [encA (Tk a).2,.i (Tk a).1]):=by
 refine Ql tOk Tryz.func18 rfl Tryz.results18 rfl (by simp[Tryz.ntmps18]) ?_;rw[Tryz.ntmps18];simp only[Qg];simp only[encA];repeat first|(refine r_ ?_;simp)|refine q_ ?_
 have yd:=v0j [.vars (Q7 a),.vars [.i 0,.nils,.nils]] a;refine Q8 rfl rfl yd rfl ?_;rintro res H' ⟨hk,⟨he,rfl⟩|⟨he,r,p,m,rfl,ht,hr,hp,hm⟩⟩
 ·have hd:Tk a=((Oo a).1,Ul):=by rw[Tk,if_pos he]
  rw[hd];have k0:=hk 0 (by simp);have k1:=hk 1 (by simp);simp at k0 k1;simp;repeat first|(refine r_ ?_;simp[Qb k1])|refine q_ ?_
  refine Qa rfl (fun _=> ?_) (fun h=>by simp at h;exact absurd h he);have k2:∀L Y,((H'++L).set 1 Y)[1]? =some Y:=fun L Y=>Qh (Qb k1 L) Y;repeat first|(refine r_ ?_;simp[Qb k1,k2])|refine q_ ?_
  exact⟨rfl,rfl,rfl⟩
 ·obtain⟨zn,cl,Q,x6,vp,xw,z8,zd,zo⟩:=Xk he;have hd:Tk a=Z5 (Y1 a cl Q):=by rw[Tk,x6];simp
  rw[hd];rw[x6]at ht;simp only at ht;have k0:=hk 0 (by simp);have k1:=hk 1 (by simp);simp at k0 k1;have xx:=ht.t;have vq:=ht.s;simp;repeat first|(refine r_ ?_;simp[Qb k1])|refine q_ ?_
  refine Qa rfl (fun h=>by simp[he]at h) (fun _=> ?_);have k0a:∀(L:List AObj) hh,(H'++L)[0]'hh= .vars (Q7 a):=fun L hh=>by have:=Qb k0 L;rw[zP hh]at this;exact Option.some.inj this
  have ye:=fun L=>Qb (G:=L) xx;repeat first|(refine r_ ?_;simp[Qb k0,k0a,ye])|refine q_ ?_
  have xy:=Qi ht.t;have xz:=Qi ht.s;have w8:=Qi ht.n;refine Qw (sl':=[(1,.vptr 0 0),(2,.vptr 1 0),(3,.i 0),(4,.vptr H'.length 0),(6,.vptr (H'.length+1) 0),(30,.sl p 1 0 Q.length),(31,.i Q.length),(32,.i (0:Nat))]) ?_ (by simp);refine Eo (H'.length+1) 1 4 1 (xs:=[.i a.types,.nils,.nils]) (by rw[zL (by omega)];simp) rfl ?_;refine Wf fun Z1 zp=> ?_;have z1l:Z1.length=H'.length+3:=by rw[zp];simp
  have z1c:Z1[H'.length+1]? =some (.vars [.i a.types,.sl (H'.length+2) 1 0 0,.nils]):=by rw[zp,zU (by simp)];simp
  have z1f:Z1[H'.length+2]? =some (.arr 4 1 []):=by rw[zp,zH (by omega),zL (by simp)];simp
  have z1b:Z1[H'.length]? =some (.vars [.vptr r 0]):=by rw[zp,zH (by omega),wd,zL (by omega)];simp
  have z1k:∀i,i<H'.length→Z1[i]? =H'[i]? :=fun i hi=>by rw[zp,zH (by omega),wd,zI hi]
  clear zp;refine Eo (H'.length+1) 2 78 3 z1c rfl ?_;refine Wf fun Z2 y6=> ?_;have z2c:Z2[H'.length+1]? =some (.vars [.i a.types,.sl (H'.length+2) 1 0 0,.sl (H'.length+3) 3 0 0]):=by rw[y6,zU (by simp;omega)];simp[z1l]
  have z2v:Z2[H'.length+3]? =some (.arr 78 3 []):=by rw[y6,zH (by omega),zL (by omega)];simp[z1l]
  have z2k:∀i,i<Z1.length→i≠H'.length+1→Z2[i]? =Z1[i]? :=fun i hi wa=>by rw[y6,zH (Ne.symm wa),zI hi]
  clear y6;have hb:=(z2k _ (by omega) (by omega)).trans z1b;have x7:=(z2k _ (by omega) (by omega)).trans z1f;have hold:∀i,i<H'.length→Z2[i]? =H'[i]? :=fun i hi=>(z2k i (by omega) (by omega)).trans (z1k i hi);have x8:=(hold 0 (Qi k0)).trans k0;have x9:=(hold 1 (Qi k1)).trans k1;obtain⟨zh,z7⟩:∃zh:List (Nat×AObj),zh=[(0,.vars (Q7 a)),(1,.vars [.i 0,.nils,.nils]),(H'.length,.vars [.vptr r 0]),(r,.vars [.i a.types,.list (a.fin.map .bool),.list (a.mv.map encMv),LP cl,.sl p 1 0 Q.length,.mref m]),(p,.arr 40 1 (LQ Q)),(m,mpT (Q.map Ry))]:=⟨_,rfl⟩
  have xa:Fx zh Z2:=by
   rw[z7];intro x hx;simp only[yP,uk,or_false]at hx;rcases hx with rfl|rfl|rfl|rfl|rfl|rfl
   ·exact x8
   ·exact x9
   ·exact hb
   ·exact(hold r xy).trans ht.t
   ·exact(hold p xz).trans ht.s
   ·exact(hold m w8).trans ht.n
  have wb:=z8.lim;have xb:∀x∈Q,Af x:=fun x hx=>by have he:=z8.elem x hx;have:=V8 he.1 he.2;have:=zn.fin;exact⟨z8.ne x hx,by omega,fun z hz=>by have:=he.2 z hz;omega⟩
  have we:=zn.fin;generalize H'.length+1=c at *;generalize H'.length=b at *;refine Qo (Qc (sl':=[(1,.vptr 0 0),(2,.vptr 1 0),(3,.i 0),(4,.vptr b 0),(6,.vptr c 0),(30,.sl p 1 0 Q.length),(31,.i Q.length),(32,.i (0:Nat))]) ?_ (by simp))
  refine Qp (F:=fun(u:Nat×Nat×Nat×List AObj)=>⟨[(1,.vptr 0 0),(2,.vptr 1 0),(3,.i 0),(4,.vptr b 0),(6,.vptr c 0),(30,.sl p 1 0 Q.length),(31,.i Q.length),(32,.i u.1)],u.2.2.2⟩)
   (fun u=>u.1≤Q.length∧Fx zh u.2.2.2∧u.2.2.2[c]? =some (.vars [.i a.types,.sl u.2.1 1 0 u.1,.sl u.2.2.1 3 0 (Dq a cl Q u.1).length])∧u.2.2.2[u.2.1]? =some (.arr 4 1 (((Q.take u.1).map (Hs a)).map .bool))∧u.2.2.2[u.2.2.1]? =some (.arr 78 3 ((Dq a cl Q u.1).map encMv))) (fun u=>Q.length - u.1) ?_ (0,_,_,Z2) ⟨by simp,xa,by rw[V2];exact z2c,by simpa using x7,by rw[V2];exact z2v⟩
  clear xa z2c x7 z2v hb x8 x9 hold z2k z1k z1b z1f z1c z1l;clear Z2 Z1;rintro⟨n,f,v,G⟩ ⟨hn,hF,gc,gf,gv⟩ ih;simp only at hn hF gc gf gv ih ⊢;repeat first|(refine r_ ?_;simp)|refine q_ ?_
  refine Qa rfl (fun wg=> ?_) (fun y8=> ?_)
  ·have ze:n<Q.length:=by simpa using wg
   have hw:IntKind.i64.wrap ((n:Int)+1)=n+1:=wrap_i64 _ (by omega) (by omega);have gs:G[p]? =some (.arr 40 1 (LQ Q)):=hF (p,_) (by rw[z7];simp);repeat first|(refine r_ ?_;simp[gs,ze])|refine q_ ?_
   have xc:=zT ze;have hle:=z8.elem _ xc;have wh:Q.getD n []=Q[n]:=by simp[y_,ze]
   have xd:=Vo a cl Q n;have wi:(Q.take (n+1)).map (Hs a)=(Q.take n).map (Hs a)++[Hs a Q[n]]:=by rw[zY ze,yX];rfl
   rw[wh]at xd;have wj:=(q1u a cl Q (z8.lim) zd n ze).2;have zq:=z8.closed _ xc;have vr:=V8 hle.1 hle.2;have wk:=fun L=>Qb (G:=L) gc;have g0:∀L,(G++L)[0]? =some (.vars (Q7 a)):=fun L=>Qb (hF (0,_) (by rw[z7];simp)) L;have wm:((Q.take n).map (Hs a)).length=n:=by simp;omega
   generalize Q[n]=l at *
   have wF:=hF.app [.vars [.i n]];have wc:=Qb gc [.vars [.i n]];have wf:=Qb gf [.vars [.i n]];have wv:=Qb gv [.vars [.i n]];have w7:(G++[AObj.vars [.i n]])[G.length]? =some (.vars [.i n]):=by simp
   have w0:=g0 [.vars [.i n]];refine Qw (sl':=[(1,.vptr 0 0),(2,.vptr 1 0),(3,.i 0),(4,.vptr b 0),(6,.vptr c 0),(7,.vptr G.length 0),(8,LI l),(30,.sl p 1 0 Q.length),(31,.i Q.length),(32,.i n)]) ?_ (by simp);generalize G.length=n7 at *;generalize G++[AObj.vars [.i n]]=W at *;clear g0 wk gs gc gf gv hF;clear G
   have yf:((Q.take (n+1)).map (Hs a)).map AV.bool=((Q.take n).map (Hs a)).map AV.bool++[.bool (Hs a l)]:=by rw[wi];simp
   have xe:(((Q.take n).map (Hs a)).map AV.bool).length=n:=by rw[yO];exact wm
   generalize ((Q.take n).map (Hs a)).map AV.bool=xs at *
   have zr:c≠f:=fun e=>by rw[e,wf]at wc;simp at wc
   have yg:c≠v:=fun e=>by rw[e,wv]at wc;simp at wc
   have zt:f≠v:=fun e=>by rw[e,wv]at wf;simp at wf
   have hc7:c≠n7:=fun e=>by rw[e,w7]at wc;simp at wc
   have xf:f≠n7:=fun e=>by rw[e,w7]at wf;simp at wf
   have z6:∀p∈zh,p.2≠ .vars [.i a.types,.sl f 1 0 n,.sl v 3 0 (Dq a cl Q n).length]:=by rw[z7];simp[E9]
   have zu:∀p∈zh,p.2≠ .arr 4 1 xs:=by rw[z7];simp[E9]
   have wo:=Qi wc;have wq:=Qi wf;have zv:=Qi wv;have xg:=Qi w7;have xh:=wF.set wf zu .dead;have ya:∀L,(W.set f .dead++L)[c]? =some (.vars [.i a.types,.sl f 1 0 n,.sl v 3 0 (Dq a cl Q n).length]):=fun L=>Qb (Qd (Ne.symm zr) wc _) L;refine Av (P:=Tryz.prog) tOk mixed [4,6,8] (.val 0 (.val 2 (.val 3 (.two 1 (.one 4 (.one 5 (.one 6 (.val 7 (.one 8 (.done)))))) 4 (.val 1 (.one 5 (.one 6 (.val 7 (.one 8 (.done)))))))))) (fun S'=>∃f',Fx zh S'.hp∧S'.hp[n7]? =some (.vars [.i n])∧S'.hp[c]? =some (.vars [.i a.types,.sl f' 1 0 (n+1),.sl v 3 0 (Dq a cl Q n).length])∧S'.hp[f']? =some (.arr 4 1 (xs++[.bool (Hs a l)]))∧S'.hp[v]? =some (.arr 78 3 ((Dq a cl Q n).map encMv))∧look S'.sl 1=some (.vptr 0 0)∧look S'.sl 2=some (.vptr 1 0)∧look S'.sl 3=some (.i 0)∧look S'.sl 4=some (.vptr b 0)∧look S'.sl 6=some (.vptr c 0)∧look S'.sl 7=some (.vptr n7 0)∧look S'.sl 8=some (LI l)∧look S'.sl 30=some (.sl p 1 0 Q.length)∧look S'.sl 31=some (.i Q.length)∧look S'.sl 32=some (.i n)) rfl (by kernel_rfl) ?_ ?_
   ·simp[wc];refine⟨?_,?_⟩;all_goals
     refine Q8 rfl rfl (X7 W l 55 (.vptr 0 0) (fun s=>a.fin.getD s.toNat false) (by omega) (fun z hz=>u1j W 0 a w0 z (hle.2 z hz).1 (hle.2 z hz).2)) rfl ?_;rintro _ H2 ⟨rfl,wu⟩;rw[wu];have wx:l.any (fun s=>a.fin.getD s.toNat false)=Hs a l:=by unfold Hs;rfl
     rw[wx];simp[wc];refine Qf tOk rfl rfl T22 rfl T4 rfl (by decide) (by decide) rfl rfl rfl ?_;simp[Qb wf,Qj wf,xe,ya,Qb wc];refine⟨by simp[Wk,Qb wf,Qj wf,xe,ya,Qb wc]<;>omega,?_⟩;refine⟨?_,?_,W.length+1,?_,?_,?_⟩
     ·exact(xh.app _).set (ya _) z6 _
     ·rw[zH hc7,zI (by simpa using xg),zH xf];exact w7
     ·rw[zU (by simp;omega)]
     ·rw[zH (by omega),zL (by simp)];simp
     ·rw[zH yg,zI (by simpa using zv),zH zt];exact wv
   ·rintro⟨sl,E⟩ ⟨f',eF,e7,ec,ef,ev,s1,s2,s3,s4,s6,s7,s8,s30,s31,s32⟩;simp only at eF e7 ec ef ev s1 s2 s3 s4 s6 s7 s8 s30 s31 s32;refine Qw (sl':=[(1,.vptr 0 0),(2,.vptr 1 0),(3,.i 0),(4,.vptr b 0),(6,.vptr c 0),(7,.vptr n7 0),(8,LI l),(30,.sl p 1 0 Q.length),(31,.i Q.length),(32,.i n)]) ?_ (by simp[s1,s2,s3,s4,s6,s7,s8,s30,s31,s32]);clear s1 s2 s3 s4 s6 s7 s8 s30 s31 s32 xh ya z6 zu wo wq zv xg zr yg zt hc7 xf w0 w7 wv wf wc wF;have eb:E[b]? =some (.vars [.vptr r 0]):=eF (b,_) (by rw[z7];simp);repeat first|(refine r_ ?_;simp[ec,Qb eb])|refine q_ ?_
    have yh:∀g c,Wh a l (Qn c)=[]→stepG a Q n l g c=g:=fun g c hx=>y1r z8.ne hx;have yi:∀g c t,Q[t]? =some (Wh a l (Qn c))→stepG a Q n l g c=Tp n g t c:=fun g c t hx=>f0i z8.nd hx;have xi:=fun k c hc=>Bw a cl Q n l (k:=k) (c:=c) hc;have wy:=fun k=>F0 a cl Q n l zd k;have xj:E6 a cl Q n l 0=[]:=z07 a cl Q n l;have wz:=Gc a cl Q n l;have v7:∀k,∀m∈E6 a cl Q n l k,PWf a.types.toNat m.on:=y10 (fun c hc=>(zo c hc).2.2.2.1);have v8:∀k,∀m∈E6 a cl Q n l k,∀s∈m.on,s.length≤65536:=z1x (fun c hc=>(zo c hc).2.2.2.2) zd;have xk:=fun f v G=>ih (n+1,f,v,G);simp only[xd,←wz,yf]at xk;clear ih;generalize Dq a cl Q n=pre at *;refine Q8 rfl rfl (Ad _ r l) rfl ?_
    rintro _ _ ⟨rfl,rfl⟩;simp;repeat first|(refine r_ ?_;simp)|refine q_ ?_
    obtain⟨zg,z6⟩:∃zg:List (Nat×AObj),zg=zh++[(n7,.vars [.i n]),(E.length,.vars [.i pre.length]),(E.length+1,.vars [.vptr r 0]),(E.length+2,.vars [LI l]),(f',.arr 4 1 (xs++[.bool (Hs a l)]))]:=⟨_,rfl⟩
    refine Rg rfl (Rf:=fun _ H'=>∃v,Fx zg H'∧H'[c]? =some (.vars [.i a.types,.sl f' 1 0 (n+1),.sl v 3 0 (pre++E6 a cl Q n l cl.length).length])∧H'[v]? =some (.arr 78 3 ((pre++E6 a cl Q n l cl.length).map encMv))∧∃sl' yj a' b',H'[E.length+3]? =some (.lp true none 100 sl' yj a' b')) ?_ ?_
    ·simp;refine Jh fun H1 zw=> ?_;have vb:Fx zg H1:=by
      rw[z6,zw];intro x hx;rcases yH.1 hx with hx|hx
      ·exact(eF.app _) x hx
      ·simp only[yP,uk,or_false]at hx;rcases hx with rfl|rfl|rfl|rfl|rfl
       ·exact Qb e7 _
       ·rw[zL (by simp)];simp
       ·rw[zL (by simp)];simp
       ·rw[zL (by simp)];simp
       ·exact Qb ef _
     have fc:H1[c]? =some (.vars [.i a.types,.sl f' 1 0 (n+1),.sl v 3 0 pre.length]):=by rw[zw];exact Qb ec _
     have fv:H1[v]? =some (.arr 78 3 (pre.map encMv)):=by rw[zw];exact Qb ev _
     have fq:=congrArg (fun h:List AObj=>h[E.length+3]?) zw;simp at fq;clear zw;refine FC.mono (w0t a zn cl l (fun c hc=>⟨(zo c hc).1,(zo c hc).2.1,(zo c hc).2.2.1⟩) zd (E.length+3) (E.length+1) (E.length+2) r (by rfl) (by rfl)
      (fun k H'=>∃v,Fx zg H'∧H'[c]? =some (.vars [.i a.types,.sl f' 1 0 (n+1),.sl v 3 0 (pre++E6 a cl Q n l k).length])∧H'[v]? =some (.arr 78 3 ((pre++E6 a cl Q n l k).map encMv))∧H'[E.length+3]? =H1[E.length+3]?)
      (fun k H' ⟨v',h1,h2,h3,h4⟩=>⟨h4.trans fq,h1 (E.length+1,_) (by rw[z6];simp),h1 (E.length+2,_) (by rw[z6];simp),[.sl p 1 0 Q.length,.mref m],h1 (r,_) (by rw[z6,z7];simp)⟩) ?_ ?_ ?_ H1 ⟨v,vb,by rw[xj,xO];exact fc,by rw[xj,xO];exact fv,rfl⟩) ?_
     ·rintro k H' L ⟨v',h1,h2,h3,h4⟩;exact⟨v',h1.app L,Qb h2 L,Qb h3 L,by rw[←h4,zI (by rw[fq]at h4;exact Qi h4)]⟩
     ·rintro k cc H' hc yk ⟨v',h1,h2,h3,h4⟩;have:=yh (E6 a cl Q n l k) cc yk;rw[←xi k cc hc]at this;exact⟨v',h1,by rw[this];exact h2,by rw[this];exact h3,h4⟩
     ·rintro k cc H' hc yk ⟨v',h1,h2,h3,h4⟩;rw[xi k cc hc];have zx:=zO hc;have yl:Wh a l (Qn cc)∈Q:=(zq cc zx).resolve_left yk;have ym:=yi (E6 a cl Q n l k) cc;have vc:=wy k;have zj:=v7 k;have yn:=v8 k;have zi:=zo cc zx;generalize Wh a l (Qn cc)=nx at *;generalize stepG a Q n l (E6 a cl Q n l k) cc=g2 at *;generalize E6 a cl Q n l k=g at *
      simp[Tq];have h8:=h4.trans fq;obtain⟨LP0,zk⟩:∃LP0,H1[E.length+3]? =some LP0:=⟨_,fq⟩
      have za:LP0.isLp=true:=by rw[fq]at zk;injection zk with e;rw[←e];rfl
      have zb:H'[E.length+3]? =some LP0:=h4.trans zk;have yo:∀p∈zg,p.2≠LP0:=fun p hp e=>by rw[←e]at za;rw[z6,z7]at hp;simp only[yH,yP,uk,or_false]at hp;rcases hp with(rfl|rfl|rfl|rfl|rfl|rfl)|(rfl|rfl|rfl|rfl|rfl)<;>simp[AObj.isLp,E9]at za
      have y1:=h1.set zb yo .dead;have yp:E.length+3≠c:=fun e=>by rw[e,h2]at zb;injection zb with e2;rw[←e2]at za;simp[AObj.isLp]at za
      have yq:E.length+3≠v':=fun e=>by rw[e,h3]at zb;injection zb with e2;rw[←e2]at za;simp[AObj.isLp]at za
      have y2:=Qd yp h2 .dead;have y3:=Qd yq h3 .dead;have y4:=Qh zb .dead;generalize H'.set (E.length+3) .dead=Y at *
      have yb:Y[b]? =some (.vars [.vptr r 0]):=y1 (b,_) (by rw[z6,z7];simp);have y0:Y[0]? =some (.vars (Q7 a)):=y1 (0,_) (by rw[z6,z7];simp);have y7:Y[n7]? =some (.vars [.i n]):=y1 (n7,_) (by rw[z6];simp);have y9:Y[E.length]? =some (.vars [.i pre.length]):=y1 (E.length,_) (by rw[z6];simp);have yt:TB r p m a cl Q Y:=⟨y1 (r,_) (by rw[z6,z7];simp),y1 (p,_) (by rw[z6,z7];simp),y1 (m,_) (by rw[z6,z7];simp)⟩
      repeat first|(refine r_ ?_;simp[Qb yb])|refine q_ ?_
      refine Q8 rfl rfl (Bo _ r p m a cl Q nx (yt.keep fun j hj=> ?_) (xb nx yl) xb (by omega)) rfl ?_
      ·have:j<Y.length:=by
        rcases hj with rfl|rfl|rfl
        ·exact Qi yt.t
        ·exact Qi yt.s
        ·exact Qi yt.n
       exact zI this
      rintro res Z ⟨t,p2,rfl,xl,-,-,-,hZ,-⟩;rw[hZ yl];have yr:v0o Q nx=Q:=by rw[v0o,if_pos yl]
      rw[yr]at xl;rw[ym t xl];clear hZ;simp;repeat first|(refine r_ ?_;simp[Qb y2,Qb y9])|refine q_ ?_
      have xm:∀M,(Y++M)[v']? =some (.arr 78 3 ((pre++g).map encMv)):=fun M=>Qb y3 M;refine Q8 rfl rfl (d00 (Y++[AObj.vars [.list (cc.map encL)],.vars [.i t]]) v' pre.length t (Y.length+1) pre g (by rw[zL (by omega)];simp) (xm _) (by omega) rfl) rfl ?_;rintro _ _ ⟨rfl,L,rfl⟩;simp;repeat first|(refine r_ ?_;simp)|refine q_ ?_
      have w1:=y1.app ([AObj.vars [.list (cc.map encL)],.vars [.i t]]++L);have w2:=Qb y2 ([AObj.vars [.list (cc.map encL)],.vars [.i t]]++L);have w3:=xm ([AObj.vars [.list (cc.map encL)],.vars [.i t]]++L);have w4:=Qb y4 ([AObj.vars [.list (cc.map encL)],.vars [.i t]]++L);have w5:(Y++([AObj.vars [.list (cc.map encL)],.vars [.i t]]++L))[Y.length]? =some (.vars [.list (cc.map encL)]):=by rw[zL (by omega)];simp
      have w6:(Y++([AObj.vars [.list (cc.map encL)],.vars [.i t]]++L))[Y.length+1]? =some (.vars [.i t]):=by rw[zL (by omega)];simp
      have w7:=Qb y7 ([AObj.vars [.list (cc.map encL)],.vars [.i t]]++L);have w0:=Qb y0 ([AObj.vars [.list (cc.map encL)],.vars [.i t]]++L);have w9:=Qb y9 ([AObj.vars [.list (cc.map encL)],.vars [.i t]]++L);have xn:((a.types.toNat:Nat):Int)=a.types:=by have:=zn.types;omega
      simp only[vZ,List.nil_append]at w0 w1 w2 w3 w4 w5 w6 w7 w9;generalize Y++AObj.vars [.list (cc.map encL)]::AObj.vars [.i t]::L=W at *;generalize Y.length+1=i12 at *;generalize Y.length=i10 at *
      have xo:∀p∈zg,p.2≠ .dead:=by rw[z6,z7];simp[E9]
      have yu:∀p∈zg,p.2≠ .vars [.i a.types,.sl f' 1 0 (n+1),.sl v' 3 0 (pre.length+g.length)]:=by rw[z6,z7];simp[E9]
      have zy:∀p∈zg,p.2≠ .arr 78 3 ((pre++g).map encMv):=by rw[z6,z7];simp[E9]
      rw[yL]at w2;have xp:v'≠c:=fun e=>by rw[e,w2]at w3;simp at w3
      have yv:v'≠E.length+3:=fun e=>by rw[e,w4]at w3;simp at w3
      have yw:c≠E.length+3:=fun e=>by rw[e,w4]at w2;simp at w2
      have lc:=Qi w2;have lv:=Qi w3;have lq:=Qi w4;refine Qw (sl':=[(1,.vptr 0 0),(6,.vptr c 0),(7,.vptr n7 0),(9,.vptr E.length 0),(10,.vptr i10 0),(12,.vptr i12 0),(13,.i (v04 g t)),(63,.bool (decide (v04 g t<0)))]) ?_ (by simp);cases hfi:g.findIdx? fun m:Mv=>decide (m.dst=(t:Int))with
      |none=>
       have yx:v04 g t= -1:=by rw[v04,hfi]
       have zl:Tp n g t cc=g++[⟨n,t,cc⟩]:=by rw[Tp,hfi]
       rw[yx,zl];refine Qm rfl ?_;simp;repeat first|(refine r_ ?_;simp)|refine q_ ?_
       refine Qk tOk mixed [11,13] (.val 0 (.val 1 (.val 2 (.val 3 (.val 4 (.val 5 (.val 6 (.one 7 (.one 8 (.val 9 (.one 10 (.one 11 (.val 12 (.one 13 (.done))))))))))))))) rfl (by kernel_rfl) ?_;simp[w0,w2,w5,w6,w7];refine Eb W.length (e:=76) (c:=1) (xs:=[encP cc]) (by simp) ?_;simp;have xq:=L3 a.types.toNat [cc] (by have:=zn.types;omega) (fun p hp=>by rw[z_.1 hp];exact zi.2.2.2.1) (fun j hj=>v1t zi.2.2.2.1 zi.2.2.2.2 hj) (by simp);rw[xn,g1a zi.2.2.2.1]at xq;refine Qe rfl rfl (by simp) (xq) rfl ?_;rintro _ rfl;simp;have w2b:∀M,(W++M)[c]? =some (.vars [.i a.types,.sl f' 1 0 (n+1),.sl v' 3 0 (pre.length+g.length)]):=fun M=>Qb w2 M;have w2c:∀M,(W.set v' .dead++M)[c]? =some (.vars [.i a.types,.sl f' 1 0 (n+1),.sl v' 3 0 (pre.length+g.length)]):=fun M=>Qb (Qd xp w2 _) M;have zv:((pre++g).map encMv).length=pre.length+g.length:=by simp
       have vd:=(w1.set w3 zy .dead)
       generalize yy:(pre++g).map encMv=mm at *;refine Qf tOk rfl rfl T23 rfl T78 rfl (by decide) (by decide) rfl rfl rfl ?_
       simp[Qb w3,Qj w3,w2b,w2c,zv];refine⟨by simp[Wk,Qb w3,Qj w3,w2b,w2c,zv]<;>omega,?_⟩;repeat first|(refine r_ ?_;simp)|refine q_ ?_
       have zm:((W.set v' AObj.dead++[AObj.dead,AObj.arr 78 3 [.agg [.i n,.i t,.list (cc.map encL)]],AObj.arr 78 3 (mm++[.agg [.i n,.i t,.list (cc.map encL)]])]).set c (AObj.vars [.i a.types,.sl f' 1 0 (n+1),.sl (W.length+2) 3 0 (pre.length+g.length+1)]))[E.length+3]? =some .dead:=by rw[zH yw,zI (by simpa using lq),zH yv];exact w4
       refine⟨zm,rfl,((vd.app _).set (w2c _) yu _).set zm xo _,W.length+2,?_,?_,?_⟩
       ·rw[zH (Ne.symm yw),zU (by simp;omega)];simp[Nat.add_assoc]
       ·rw[zH (by omega),zH (by omega),zL (by simp)];rw[←yy];simp
       ·rw[fq,zU (Qi zm)]
      |some i=>
       have yx:v04 g t=i:=by rw[v04,hfi]
       obtain⟨xr,hid,-⟩:=xP.1 hfi;have xt:g[i]? =some g[i]:=zP xr;have zl:Tp n g t cc=g.set i { g[i]with on:=Rq g[i].on cc }:=by rw[Tp,hfi];simp[xt]
       rw[yx,zl];refine Qa rfl (fun h=>by simp at h;omega) (fun _=> ?_);have ve:IntKind.i64.wrap ((pre.length:Int)+i)=pre.length+i:=wrap_i64 _ (by omega) (by omega);have yz:(pre.length:Int)+i<pre.length+g.length:=by omega
       have vf:(0:Int)≤(pre.length:Int)+i:=by omega
       have vg:((pre.length:Int)+i).toNat=pre.length+i:=by omega
       repeat first|(refine r_ ?_;simp[w2,w9,ve,yz,vf,vg])|refine q_ ?_
       have y8:((pre++g).map encMv)[pre.length+i]? =some (.agg [.i g[i].src,.i g[i].dst,.list (g[i].on.map encL)]):=by rw[yX,zL (by simp)];simp[xt]
       have x0:((pre++g).map encMv).length=pre.length+g.length:=by simp
       generalize yy:(pre++g).map encMv=mm at *
       have x2:yV 2=[0,1]:=rfl;refine Qk tOk mixed [12] (.val 0 (.val 1 (.val 2 (.val 3 (.val 4 (.val 5 (.val 6 (.val 7 (.one 8 (.one 9 (.val 10 (.val 11 (.one 12 (.done)))))))))))))) rfl (by kernel_rfl) ?_;simp[w0,w3,w5,y8,x0,x2];refine Eb W.length (e:=76) (c:=1) (xs:=[encP g[i].on,encP cc]) (by simp) ?_;simp;have yc:=zT xr;have xu:=L3 a.types.toNat [g[i].on,cc] (by have:=zn.types;omega) (fun p hp=>by
        simp only[yP,uk,or_false]at hp;rcases hp with rfl|rfl
        ·exact zj _ yc
        ·exact zi.2.2.2.1) (fun j hj=>u14 (zj _ yc) zi.2.2.2.1 (yn _ yc) zi.2.2.2.2 hj) (by simp)
       rw[xn,k1z (zj _ yc) zi.2.2.2.1]at xu;have w3b:∀M,(W++M)[v']? =some (.arr 78 3 mm):=fun M=>Qb w3 M;refine Qe rfl rfl (by simp) (xu) rfl ?_;rintro _ rfl;simp[w3b,y8,Qj w3];repeat first|(refine r_ ?_;simp)|refine q_ ?_
       have zm:(W.set v' (AObj.arr 78 3 (mm.set (pre.length+i) (.agg [.i g[i].src,.i g[i].dst,.list ((Rq g[i].on cc).map encL)])))++[AObj.dead])[E.length+3]? =some .dead:=by rw[zI (by simpa using lq),zH yv];exact w4
       refine⟨zm,rfl,(((w1.set w3 zy _).app _).set zm xo _),v',?_,?_,?_⟩
       ·rw[zH (Ne.symm yw),zI (by simpa using lc),zH xp];rw[w2]
       ·rw[zH (Ne.symm yv),zI (by simpa using lv),zU lv];rw[←yy,yX,List.set_append_right _ _ (by simp)];simp[List.map_set]
       ·rw[fq,zU (Qi zm)]
     ·rintro _ H' ⟨v',h1,h2,h3,h4⟩;exact⟨h1,v',by simpa using h2,by simpa using h3,_,_,_,_,h4.trans fq⟩
    ·rintro res H' ⟨v',h1,h2,h3,⟨sl',yj,a',b',h6⟩⟩;refine⟨true,none,100,sl',yj,a',b',by simpa using h6,?_⟩;simp;have yp:E.length+3≠c:=fun e=>by rw[e,h2]at h6;simp at h6
     have yq:E.length+3≠v':=fun e=>by rw[e,h3]at h6;simp at h6
     have y1:=h1.set h6 (by rw[z6,z7];simp[E9]) .dead;have y2:=Qd yp h2 .dead;have y3:=Qd yq h3 .dead;generalize H'.set (E.length+3) .dead=Y at *
     repeat first|(refine r_ ?_;simp[hw])|refine q_ ?_
     refine Qc (sl':=[(1,.vptr 0 0),(2,.vptr 1 0),(3,.i 0),(4,.vptr b 0),(6,.vptr c 0),(30,.sl p 1 0 Q.length),(31,.i Q.length),(32,.i (n+1:Nat))]) ?_ (by simp);refine xk f' v' Y ⟨by omega,fun x hx=>y1 x (by rw[z6];exact xL _ hx),y2,y1 (f',_) (by rw[z6];simp),y3⟩ (by omega)
  ·have x3:n=Q.length:=by simp at y8;omega
   subst x3;have zz:Dq a cl Q Q.length=(Y1 a cl Q).mv:=w1c a cl Q;have x4:(Q.take Q.length).map (Hs a)=(Y1 a cl Q).fin:=by rw[xB];exact(q0t a cl Q).symm
   have vh:(Y1 a cl Q).fin.length=Q.length:=by rw[q0t];simp
   have vi:(Y1 a cl Q).mv.length≤65536:=by rw[←zz];exact u0p a cl Q wb zd
   rw[zz]at gc gv;rw[x4]at gf;rw[←vh]at gc;have vj:(Y1 a cl Q).types=a.types:=z0f a cl Q;have yz:Z5 (Y1 a cl Q)=if Mf (Y1 a cl Q)then(5,Ul)else(0,Y1 a cl Q):=q0g _
   rw[yz];generalize Y1 a cl Q=d at *
   have g1:G[1]? =some (.vars [.i 0,.nils,.nils]):=hF (1,_) (by rw[z7];simp);have yg:v≠c:=fun e=>by rw[e,gc]at gv;simp at gv
   have zt:f≠v:=fun e=>by rw[e,gv]at gf;simp at gf
   have yd:f≠c:=fun e=>by rw[e,gc]at gf;simp at gf
   have vk:f≠1:=fun e=>by rw[e,g1]at gf;simp at gf
   have vl:v≠1:=fun e=>by rw[e,g1]at gv;simp at gv
   have vm:c≠1:=fun e=>by rw[e,g1]at gc;simp at gc
   refine Qw (sl':=[(2,.vptr 1 0),(3,.i 0),(6,.vptr c 0)]) ?_ (by simp);refine We v gv c gc ?_;simp[zt];rw[zV (by simp)];have x5:=Qi gc;have vn:=Qi gf;refine Wf fun Z hZ=> ?_;have zc:Z[c]? =some (.vars [.i d.types,.sl f 1 0 d.fin.length,.list (d.mv.map encMv)]):=by rw[hZ,vj];exact zU (by simpa using x5)
   have zf:Z[f]? =some (.arr 4 1 (d.fin.map .bool)):=by rw[hZ,zH (Ne.symm yd),zH (Ne.symm zt)];exact gf
   have z1:Z[1]? =some (.vars [.i 0,.nils,.nils]):=by rw[hZ,zH vm,zH vl];exact g1
   clear hZ;repeat first|(refine r_ ?_;simp[zc])|refine q_ ?_
   refine Q8 rfl rfl (Gt Z f d zf (by omega) (by omega)) rfl ?_;rintro res Y ⟨hr,xv⟩;have y5:=(xv 1 (Qi z1)).trans z1;have vo:=(xv f (Qi zf)).trans zf;have x2:∀X,(Y.set 1 X)[1]? =some X:=fun X=>Qh y5 X;rcases hr with⟨hb,rfl⟩|⟨hb,rfl⟩
   ·rw[hb];simp[y5];repeat first|(refine r_ ?_;simp[x2])|refine q_ ?_
    exact⟨rfl,rfl,rfl⟩
   ·rw[hb];simp[y5];refine Qw (sl':=[(2,.vptr 1 0),(3,.i 0)]) ?_ (by simp);refine We f (Qd (Ne.symm vk) vo _) 1 (Qh y5 _) ?_;simp;rw[zV (by simp)];refine Wf fun X hX=> ?_;have x1:X[1]? =some (.vars [.i d.types,.list (d.fin.map .bool),.list (d.mv.map encMv)]):=by rw[hX];exact zU (by have:=Qi y5;simpa using this)
    repeat first|(refine r_ ?_;simp[x1])|refine q_ ?_
end Go.Abs
namespace Go.Abs
open Go Go.Proofs Go.Maps Go.RowKit
theorem d1i{a:Aut}(h:(Tk a).1=0):OkA (Tk a).2:=by
 have h0:(Oo a).1=0:=by
  by_cases hs:(Oo a).1=0
  ·exact hs
  ·rw[Tk,if_pos hs]at h;exact absurd h hs
 obtain⟨z8,cl,Q,z7,za,z1,z6,_,_⟩:=Xk h0;have hd:Tk a=Z5 (Y1 a cl Q):=by rw[Tk,z7];simp
 rw[hd]at h ⊢;have hw:=x1y z1 z6;have e:Z5 (Y1 a cl Q)=(0,(Z5 (Y1 a cl Q)).2):=ta h rfl;have h2:=k01 hw e;rw[h2.1];exact h2.1▸h2.2
def w22(l:List Bool)(i:Nat):List Bool:=l.mapIdx fun k b=>if k<i then !b else b
attribute [local irreducible] Tk P2 w22
end Go.Abs
namespace Go.Abs
open Go Go.Proofs Go.Maps Go.RowKit
theorem q19(a:Aut):PC Tryz.prog 22 [encA a,encA a] (fun r=>r= .bool true):=by
 refine Ql tOk Tryz.func22 rfl Tryz.results22 rfl (by simp[Tryz.ntmps22]) ?_;rw[Tryz.ntmps22];simp only[Qg];simp only[encA];refine W1 0 1 rfl rfl (fun hlen=> ?_);rw[yO]at hlen;refine W1 0 2 rfl rfl (fun z6=> ?_);rw[yO]at z6;repeat first|(refine r_ ?_;simp)|refine q_ ?_
 refine Qa rfl (fun h=>by simp at h) (fun _=> ?_);repeat first|(refine r_ ?_;simp)|refine q_ ?_
 refine Qu a.fin.length (fun _=>True) (fun j=>[(2,.vptr 0 0),(3,.vptr 1 0),(5,.i j)]) (fun _=>[.vars (Q7 a),.vars (Q7 a)]) rfl (by simp) (by simp) (by simp) (by simp) trivial ?_;intro j hj _ ih;repeat first|(refine r_ ?_;simp)|refine q_ ?_
 refine Qa rfl (fun z7=> ?_) (fun z8=> ?_)
 ·have z1:j<a.fin.length:=by simpa using z7
  have hw:IntKind.i64.wrap ((j:Int)+1)=j+1:=wrap_i64 _ (by omega) (by omega);repeat first|(refine r_ ?_;simp)|refine q_ ?_
  refine Qk tOk mixed [] (.val 0 (.val 1 (.val 2 (.val 3 (.val 4 (.val 5 (.val 6 (.val 7 (.val 8 (.val 9 (.val 10 (.done)))))))))))) rfl (by kernel_rfl) ?_;simp[z1];refine Qa rfl (fun h=>by simp at h) (fun _=> ?_);repeat first|(refine r_ ?_;simp[hw])|refine q_ ?_
  refine Qs _ (ih z1 trivial) rfl (by simp) ?_ (by simp) (by simp);simp
 repeat first|(refine r_ ?_;simp)|refine q_ ?_
 refine Qu a.mv.length (fun _=>True) (fun j=>[(2,.vptr 0 0),(3,.vptr 1 0),(6,.i j)]) (fun _=>[.vars (Q7 a),.vars (Q7 a)]) rfl (by simp) (by simp) (by simp) (by simp) trivial ?_;intro j2 zb _ za;repeat first|(refine r_ ?_;simp)|refine q_ ?_
 refine Qa rfl (fun z7=> ?_) (fun z8=> ?_)
 ·have z1:j2<a.mv.length:=by simpa using z7
  have hw:IntKind.i64.wrap ((j2:Int)+1)=j2+1:=wrap_i64 _ (by omega) (by omega);repeat first|(refine r_ ?_;simp)|refine q_ ?_
  obtain⟨m,hm⟩:∃m,a.mv[j2]=m:=⟨_,rfl⟩
  refine Va tOk mixed [12,13] (.val 0 (.val 1 (.val 2 (.val 3 (.val 4 (.val 5 (.val 7 (.three 6 (.val 8 (.three 9 (.two 10 (.one 11 (.one 12 (.one 13 (.done)))) 11 (.one 10 (.one 12 (.one 13 (.done))))) 10 (.two 9 (.one 11 (.one 12 (.one 13 (.done)))) 11 (.two 9 (.one 12 (.one 13 (.done))) 12 (.val 9 (.one 13 (.done))))) 11 (.two 9 (.one 10 (.one 12 (.one 13 (.done)))) 10 (.two 9 (.one 12 (.one 13 (.done))) 12 (.val 9 (.one 13 (.done))))))) 10 (.two 6 (.val 8 (.two 9 (.one 11 (.one 12 (.one 13 (.done)))) 11 (.two 9 (.one 12 (.one 13 (.done))) 12 (.val 9 (.one 13 (.done)))))) 11 (.two 6 (.val 8 (.two 9 (.one 12 (.one 13 (.done))) 12 (.val 9 (.one 13 (.done))))) 12 (.val 6 (.val 8 (.val 9 (.one 13 (.done))))))) 11 (.two 6 (.val 8 (.two 9 (.one 10 (.one 12 (.one 13 (.done)))) 10 (.two 9 (.one 12 (.one 13 (.done))) 12 (.val 9 (.one 13 (.done)))))) 10 (.two 6 (.val 8 (.two 9 (.one 12 (.one 13 (.done))) 12 (.val 9 (.one 13 (.done))))) 12 (.val 6 (.val 8 (.val 9 (.one 13 (.done))))))))))))))) (⟨[(2,.vptr 0 0),(3,.vptr 1 0),(6,.i j2),(7,.vptr 2 0),(8,.vptr 3 0)],[.vars (Q7 a),.vars (Q7 a),.vars [.i m.src,.i m.dst,.list (m.on.map encL)],.vars [.i m.src,.i m.dst,.list (m.on.map encL)]]⟩) rfl (by kernel_rfl) ?_ ?_;simp[z1,hm]
  ·repeat' apply And.intro
   all_goals first|(refine Jg ?_;simp;done)|exact Cf [0,1,3,2] (by simp) (by decide) (by simp) rfl (by simp) (by simp) (by simp)
  repeat first|(refine r_ ?_;simp)|refine q_ ?_
  refine Qe rfl rfl (by simp) (j0v m.on m.on) rfl ?_;rintro _ rfl;simp;repeat first|(refine r_ ?_;simp)|refine q_ ?_
  refine Qa rfl (fun h=>by simp at h) (fun _=> ?_);repeat first|(refine r_ ?_;simp[hw])|refine q_ ?_
  refine Qs _ (za z1 trivial) rfl (by simp) ?_ (by simp) (by simp);simp
 repeat first|(refine r_ ?_;simp)|refine q_ ?_
def Jc(lo hi:Int):Prd:=[[⟨lo,hi⟩]]
def exA:Aut:=⟨1,[false,false,true],[⟨0,0,Jc (-1099511627776) 1099511627776⟩,⟨0,1,Jc 5 1099511627776⟩,⟨1,2,Jc (-1099511627776) 7⟩]⟩
def y2b(l:List Int):List Sy:=l.map fun n=>⟨0,n⟩
def y2q(a:Aut)(w:List Sy):Bool:=x17 a && decide (w.length≤12) && (y22 a w).2==0
end Go.Abs
namespace Go.Abs
open Go Go.Proofs
def exC:List Prd:=[[[⟨-1099511627776,4⟩]],[[⟨5,7⟩]],[[⟨8,1099511627776⟩]]]
def exQ:List (List Int):=[[0],[0,1],[0,2],[0,1,2]]
def exD:Aut:=Y1 exA exC exQ
end Go.Abs
namespace Go.Abs
open Go Go.Proofs Go.Maps Go.RowKit
attribute [simp] T84 T86
attribute [local irreducible] exA exD Tk Oo y25 A5 P2 y22 c0p y2b q2l exQ
end Go.Abs
namespace Go.Abs
structure EqvB (n:Nat) (E:Nat→Nat→Bool):Prop where
 refl:∀i,i<n→E i i=true
 symm:∀i k,i<n→k<n→E i k=true→E k i=true
 trans:∀i k j,i<n→k<n→j<n→E i k=true→E k j=true→E i j=true
def K8(E:Nat→Nat→Bool)(st:List Nat×List Nat)(i:Nat):List Nat×List Nat:=
 match st.1.findIdx? (E i)with
 |some t=>(st.1,st.2++[t])
 |none=>(st.1++[i],st.2++[st.1.length])
def Pn(E:Nat→Nat→Bool)(n:Nat):List Nat×List Nat:=(yV n).foldl (K8 E) ([],[])
def u1n(E:Nat→Nat→Bool)(st:Nat×List Nat)(i:Nat):Nat×List Nat:=
 match (yV i).find? (E i)with
 |some k=>(st.1,st.2++[st.2.getD k 0])
 |none=>(st.1+1,st.2++[st.1])
def x2v(E:Nat→Nat→Bool)(n:Nat):Nat×List Nat:=(yV n).foldl (u1n E) (0,[])
theorem Ci(E:Nat→Nat→Bool)(n:Nat):Pn E (n+1)=K8 E (Pn E n) n:=by rw[Pn,wQ,vA];rfl
structure ClsS (E:Nat→Nat→Bool) (n:Nat) (fs out:List Nat):Prop where
 len:out.length=n
 asc:fs.Pairwise (·<·)
 lt:∀r∈fs,r<n
 apart:fs.Pairwise (fun r s=>E r s=false)
 num:∀i,i<n→∃t r,out[i]? =some t∧fs[t]? =some r∧r≤i∧E i r=true
theorem Ey{α:Type}{l:List α}{i:Nat}{x:α}(h:l[i]? =some x):i<l.length:=(zE.1 h).1
theorem y0n{α:Type}{l:List α}{f:α→Bool}{t:Nat}{x:α}(ht:l[t]? =some x)(hx:f x=true)(hu:∀(i j:Nat) (a b:α),l[i]? =some a→l[j]? =some b→f a=true→f b=true→i=j):l.findIdx? f=some t:=by
 cases hf:l.findIdx? f with
 |none=>rw[vD]at hf;have:=hf x (zO ht);rw[hx]at this;cases this
 |some u=>obtain⟨z1,z6,_⟩:=xP.1 hf;rw[hu u t l[u] x (zP z1) ht z6 hx]
theorem ClsS.uniq{E:Nat→Nat→Bool}{N n:Nat}(hE:EqvB N E)(hn:n≤N){fs out:List Nat}(h:ClsS E n fs out){i:Nat}(hi:i<N){u v r s:Nat}(hr:fs[u]? =some r)(hs:fs[v]? =some s)(e1:E i r=true)(e2:E i s=true):u=v:=by
 have z7:=zO hr;have z8:=zO hs;have za:=h.lt r z7;have zb:=h.lt s z8;have z1:E r s=true:=hE.trans r i s (by omega) hi (by omega) (hE.symm i r hi (by omega) e1) e2;have z6:E s r=true:=hE.symm r s (by omega) (by omega) z1;obtain⟨hu,rfl⟩:=zE.1 hr;obtain⟨hv,rfl⟩:=zE.1 hs;rcases vS u v with k|k|k
 ·have:=(yU.1 h.apart) u v hu hv k;rw[this]at z1;cases z1
 ·exact k
 ·have:=(yU.1 h.apart) v u hv hu k;rw[this]at z6;cases z6
theorem N5{E:Nat→Nat→Bool}{N:Nat}(hE:EqvB N E):∀n,n≤N→ClsS E n (Pn E n).1 (Pn E n).2
 |0,_=>⟨rfl,by simp[Pn],by simp[Pn],by simp[Pn],fun i hi=>by omega⟩
 |n+1,hn=>by
  have h:=N5 hE n (by omega);rw[Ci];generalize Pn E n=st at *
  obtain⟨fs,out⟩:=st;simp only at h;unfold K8;simp only;cases hf:fs.findIdx? (E n)with
  |some t=>
   obtain⟨h1,h2,_⟩:=xP.1 hf;simp only;refine⟨by simp[h.len],h.asc,fun r hr=>by have:=h.lt r hr;omega,h.apart,fun i hi=> ?_⟩;by_cases e:i=n
   ·subst e;exact⟨t,fs[t],by rw[zL (by rw[h.len];omega)];simp[h.len],zP h1,by have:=h.lt _ (zT h1);omega,h2⟩
   ·obtain⟨t',r,a1,a2,a3,a4⟩:=h.num i (by omega);exact⟨t',r,by rw[zI (by rw[h.len];omega)];exact a1,a2,a3,a4⟩
  |none=>
   rw[vD]at hf;simp only;refine⟨by simp[h.len],yS.2 ⟨h.asc,by simp,fun r hr s hs=>by rw[z_.1 hs];exact h.lt r hr⟩,fun r hr=> ?_,yS.2 ⟨h.apart,by simp,fun r hr s hs=> ?_⟩,fun i hi=> ?_⟩
   ·rcases yH.1 hr with hr|hr
    ·have:=h.lt r hr;omega
    ·rw[z_.1 hr];omega
   ·rw[z_.1 hs];have z1:=h.lt r hr;have:=hf r hr;cases hc:E r n
    ·rfl
    ·rw[hE.symm r n (by omega) (by omega) hc]at this;cases this
   ·by_cases e:i=n
    ·subst e;exact⟨fs.length,i,by rw[zL (by rw[h.len];omega)];simp[h.len],by rw[zL (by omega)];simp,by omega,hE.refl i (by omega)⟩
    ·obtain⟨t',r,a1,a2,a3,a4⟩:=h.num i (by omega);exact⟨t',r,by rw[zI (by rw[h.len];omega)];exact a1,by rw[zI (Ey a2)];exact a2,a3,a4⟩
theorem ClsS.first{E:Nat→Nat→Bool}{n:Nat}(hE:EqvB n E){fs out:List Nat}(h:ClsS E n fs out){t r:Nat}(ht:fs[t]? =some r):out.findIdx? (fun c=>decide (c=t))=some r:=by
 have hr:=h.lt r (zO ht);rw[xP];refine⟨by rw[h.len];exact hr,?_,fun j hj=> ?_⟩
 ·obtain⟨u,s,a1,a2,a3,a4⟩:=h.num r hr;have hu:u=t:=h.uniq hE (zW n) hr a2 ht a4 (hE.refl r hr);obtain⟨hl,e⟩:=zE.1 a1;rw[e,hu];simp
 ·obtain⟨u,s,a1,a2,a3,a4⟩:=h.num j (by omega);obtain⟨hl,e⟩:=zE.1 a1;rw[e];have:u≠t:=fun e'=>by subst e';rw[ht]at a2;cases a2;omega
  simpa using this
theorem ClsS.lt_fs{E:Nat→Nat→Bool}{n:Nat}{fs out:List Nat}(h:ClsS E n fs out){i:Nat}(hi:i<n):out.getD i 0<fs.length:=by obtain⟨t,r,a1,a2,_,_⟩:=h.num i hi;simp only[y_,a1,wH];exact Ey a2
def eqW(a b:Aut)(p q:Int):Prop:=∀w,(∀x∈w,Ew a x)→w1o a p w=w1o b q w
def eqS(a:Aut)(i k:Nat):Bool:=(lkN (Rn a) ((i:Int),(k:Int))).isNone
theorem Um{a:Aut}{i:Nat}(h:i<a.fin.length):inS a (i:Int):=⟨by omega,by omega⟩
theorem j0p{a b:Aut}(ha:Dfa a)(hb:Dfa b)(ht:b.types=a.types){p q:Int}(hp:inS a p)(hq:inS b q):(Ao a b p q).1=none↔eqW a b p q:=by
 rcases Ch ha hb ht hp hq with⟨w,h1,h2⟩|⟨h1,h2⟩
 ·rw[h1];exact⟨fun h=>(by cases h),fun h=>absurd (h w h2.okw) ((Ld a b p q w).1 h2.goodw)⟩
 ·exact⟨fun _=>h2,fun _=>h1⟩
theorem Sm{a:Aut}(ha:Dfa a){i k:Nat}(hi:i<a.fin.length)(hk:k<a.fin.length):eqS a i k=true↔eqW a a i k:=by rw[←j0p ha ha rfl (Um hi) (Um hk),j00 ha (Um hi) (Um hk),eqS];cases lkN (Rn a) ((i:Int),(k:Int))<;>simp
theorem v13{a:Aut}(ha:Dfa a):EqvB a.fin.length (eqS a):=
 ⟨fun i hi=>(Sm ha hi hi).2 fun _ _=>rfl,fun i k hi hk h=>(Sm ha hk hi).2 fun w hw=>((Sm ha hi hk).1 h w hw).symm,
  fun i k j hi hk hj h h'=>(Sm ha hi hj).2 fun w hw=>((Sm ha hi hk).1 h w hw).trans ((Sm ha hk hj).1 h' w hw)⟩
def fsA(a:Aut):List Nat:=(Pn (eqS a) a.fin.length).1
def clA(a:Aut):List Nat:=(Pn (eqS a) a.fin.length).2
theorem c16{a:Aut}(ha:Dfa a):ClsS (eqS a) a.fin.length (fsA a) (clA a):=N5 (v13 ha) _ (zW _)
end Go.Abs
namespace Go.Abs
section
variable {α:Type} (key:α→Nat×Int)
def Zd(s:List α)(x:α):Nat→Nat
 |0=>0
 |j+1=>match s[j]? with
  |some y=>if Ln (key x) (key y)=true then Zd s x j else j+1
  |none=>j+1
def c0q(s:List α)(x:α):List α:=s.take (Zd key s x s.length)++x::s.drop (Zd key s x s.length)
def w16(L:List α):List α:=L.foldl (c0q key) []
def ltG(p q:α):Prop:=U4 (key p).1 (key p).2 (key q).1 (key q).2
theorem J1(s:List α)(x:α):∀j,j≤s.length→Zd key s x j≤j∧(∀i,Zd key s x j≤i→i<j→∀h:i<s.length,Ln (key x) (key s[i])=true)∧(∀i,i+1=Zd key s x j→∀h:i<s.length,Ln (key x) (key s[i])=false)
 |0,_=>⟨zW _,fun i _ h=>by omega,fun i h=>by simp[Zd]at h⟩
 |j+1,hj=>by
  have z1:j<s.length:=by omega
  rw[Zd,zP z1];simp only;by_cases hb:Ln (key x) (key s[j])=true
  ·rw[if_pos hb];obtain⟨h1,h2,h3⟩:=J1 s x j (by omega);refine⟨by omega,fun i hi z6 hl=> ?_,h3⟩;by_cases hij:i=j
   ·subst hij;exact hb
   ·exact h2 i hi (by omega) hl
  ·rw[if_neg hb];refine⟨zW _,fun i hi z6=>by omega,fun i hi hl=> ?_⟩;have:i=j:=by omega
   subst this;simpa using hb
theorem j0q(s:List α)(x:α):(c0q key s x).Perm (x::s):=by unfold c0q;refine vR.trans ?_;rw[xY]
theorem By{s:List α}{x:α}(hs:s.Pairwise (ltG key))(hd:∀y∈s,key y≠key x):(c0q key s x).Pairwise (ltG key):=by
 obtain⟨h1,h2,h3⟩:=J1 key s x s.length (zW _);unfold c0q;generalize Zd key s x s.length=k at *
 have z1:=hs;rw[←xY k s]at z1;obtain⟨p1,p2,p3⟩:=yS.1 z1;have z7:∀y∈s.drop k,ltG key x y:=fun y hy=>by obtain⟨i,hi⟩:=yR.1 hy;rw[List.getElem?_drop]at hi;obtain⟨hl,e⟩:=zE.1 hi;have:=h2 (k+i) (by omega) hl hl;rw[e]at this;exact(R0 _ _).1 this
 have z8:∀i,i+1=k→∀h:i<s.length,ltG key s[i] x:=fun i hi hl=>by
  have h4:=h3 i hi hl;have zc:=hd s[i] (zT hl);unfold ltG;rcases vS (key s[i]).1 (key x).1 with a|a|a
  ·exact .inl a
  ·rcases Int.lt_trichotomy (key s[i]).2 (key x).2 with b|b|b
   ·exact .inr ⟨a,b⟩
   ·exact absurd (ta a b) zc
   ·have:Ln (key x) (key s[i])=true:=(R0 _ _).2 (.inr ⟨a.symm,b⟩);rw[this]at h4;cases h4
  ·have:Ln (key x) (key s[i])=true:=(R0 _ _).2 (.inl a);rw[this]at h4;cases h4
 have z6:∀y∈s.take k,ltG key y x:=fun y hy=>by
  obtain⟨i,hi⟩:=yR.1 hy;rw[List.getElem?_take]at hi;split at hi
  ·rename_i zd;obtain⟨hl,e⟩:=zE.1 hi;obtain⟨k',rfl⟩:∃k',k=k'+1:=⟨k - 1,by omega⟩
   have za:k'<s.length:=by omega
   have zb:=z8 k' rfl za;by_cases hij:i=k'
   ·subst hij;rw[←e];exact zb
   ·have:=yU.1 hs i k' hl za (by omega);rw[e]at this;exact U4.trans this zb
  ·cases hi
 refine yS.2 ⟨p1,yZ.2 ⟨z7,p2⟩,fun y hy z hz=> ?_⟩;rcases yP.1 hz with rfl|hz
 ·exact z6 y hy
 ·exact p3 y hy z hz
theorem J5(L:List α)(hd:L.Pairwise (fun p q=>key p≠key q)):(w16 key L).Perm L∧(w16 key L).Pairwise (ltG key):=by
 have go:∀(r s:List α),s.Pairwise (ltG key)→(s++r).Pairwise (fun p q=>key p≠key q)→(r.foldl (c0q key) s).Perm (s++r)∧(r.foldl (c0q key) s).Pairwise (ltG key):=by
  intro r;induction r with
  |nil=>intro s h _;simpa using h
  |cons x r ih=>intro s h hd;obtain⟨d1,d2,d3⟩:=yS.1 hd;have hi:=By key h (fun y hy=>d3 y hy x (by simp));have hp:=j0q key s x;have z1:(c0q key s x++r).Perm (s++x::r):=(hp.append_right r).trans (vR (l₁:=s) (a:=x) (l₂:=r)).symm;have z6:(c0q key s x++r).Pairwise (fun p q=>key p≠key q):=(z1.pairwise_iff (fun h=>Ne.symm h)).2 hd;obtain⟨i1,i2⟩:=ih (c0q key s x) hi z6;rw[x_];exact⟨i1.trans z1,i2⟩
 have h:=go L [] List.Pairwise.nil (by simpa using hd);unfold w16;simpa using h
theorem f1m{l l':List α}(hs:l.Pairwise (ltG key))(z1:l'.Pairwise (ltG key))(hp:∀x,x∈l↔x∈l'):l=l':=by have z6:∀ {X:List α},X.Pairwise (ltG key)→X.Nodup:=fun hx=>hx.imp (fun h e=>by subst e;exact U4.irr h);refine List.Perm.eq_of_pairwise (le:=ltG key) (fun a b _ _ h k=>(U4.irr (h.trans k)).elim) hs z1 ?_;exact(List.perm_ext_iff_of_nodup (z6 hs) (z6 z1)).2 hp
end
def clD(cl:List Nat)(m:Mv):Nat:=cl.getD m.dst.toNat 0
def kyM(m:Mv):Nat×Int:=Qz m.on 0
def g1s(a:Aut)(cl:List Nat)(s:Int):List Mv:=(Wa a s).foldl (fun g m=>Tp 0 g (clD cl m) m.on) []
def z1g(a:Aut)(cl:List Nat)(s:Int):List Mv:=w16 kyM (g1s a cl s)
def H8(a:Aut)(cl:List Nat)(s:Int)(t:Nat)(ty:Nat)(y:Int):Prop:=∃m∈Wa a s,clD cl m=t∧PM m.on ty y
structure MrgS (T:Nat) (D:Nat→Nat→Int→Prop) (g:List Mv):Prop where
 wf:∀m∈g,PWf T m.on
 src:∀m∈g,m.src=0
 dst:∀m∈g,∃t:Nat,m.dst=t
 nd:g.Pairwise (fun m k=>m.dst≠k.dst)
 mem:∀m∈g,∀t:Nat,m.dst=t→∀ty y,PM m.on ty y↔D t ty y
 all:∀t ty y,D t ty y→∃m∈g,m.dst=(t:Int)
 ne:∀m∈g,∃ty y,PM m.on ty y
theorem w1i{n to:Nat}{g:List Mv}{c:Prd}{T:Nat}(hg:∀m∈g,∃ty y,PM m.on ty y)(hw:∀m∈g,PWf T m.on)(hc:PWf T c)(z1:∃ty y,PM c ty y):∀m∈Tp n g to c,∃ty y,PM m.on ty y:=by
 intro m hm;unfold Tp at hm;split at hm
 ·rcases yH.1 hm with hm|hm
  ·exact hg m hm
  ·rw[z_.1 hm];exact z1
 ·split at hm
  ·rename_i m2 z6;rcases wJ hm with hm|rfl
   ·exact hg m hm
   ·obtain⟨ty,y,h⟩:=z1;exact⟨ty,y,(P4 (hw _ (zO z6)) hc ty y).2 (.inr h)⟩
  ·exact hg m hm
theorem u1o{a:Aut}(h:WfA a){s:Int}{m:Mv}(hm:m∈Wa a s):PWf a.types.toNat m.on∧∃ty y,PM m.on ty y:=by obtain⟨h1,h2,h3⟩:=Wu.1 hm;exact⟨h.on m h1,(Tc (h.on m h1)).1 h3⟩
theorem Xu{a:Aut}(ha:Dfa a)(cl:List Nat)(s:Int):MrgS a.types.toNat (H8 a cl s) (g1s a cl s):=by
 obtain⟨N,hN⟩:∃N,∀m∈Wa a s,clD cl m<N:=by
  refine⟨(cl.foldl max 0)+1,fun m _=> ?_⟩;have key:∀(l:List Nat) (b:Nat),b≤l.foldl max b∧∀x∈l,x≤l.foldl max b:=by
   intro l;induction l with
   |nil=>intro b;simp
   |cons x l ih=>
    intro b;obtain⟨h1,h2⟩:=ih (max b x);rw[x_];refine⟨by omega,fun y hy=> ?_⟩;rcases yP.1 hy with rfl|hy
    ·omega
    ·exact h2 y hy
  unfold clD;by_cases hl:m.dst.toNat<cl.length
  ·have:=(key cl 0).2 _ (zT hl);simp only[y_,zP hl,wH];omega
  ·simp[y_,xI (by omega:cl.length≤m.dst.toNat)]
 have key:∀(r:List Mv) (D:Nat→Nat→Int→Prop) (g:List Mv),MInv a.types.toNat N 0 D g→(∀m∈g,∃ty y,PM m.on ty y)→(∀m∈r,m∈Wa a s)→
   MInv a.types.toNat N 0 (fun t ty y=>D t ty y∨∃m∈r,clD cl m=t∧PM m.on ty y) (r.foldl (fun g m=>Tp 0 g (clD cl m) m.on) g)∧∀m∈r.foldl (fun g m=>Tp 0 g (clD cl m) m.on) g,∃ty y,PM m.on ty y:=by
  intro r;induction r with
  |nil=>intro D g h hn _;exact⟨h.congr (fun t ty y=>by simp),hn⟩
  |cons c r ih=>
   intro D g h hn hr;rw[x_];have hc:=u1o ha.ok.wfA (hr c (by simp));obtain⟨i1,i2⟩:=ih _ _ (h.add (hN c (hr c (by simp))) hc.1 hc.2) (w1i hn h.wf hc.1 hc.2) (fun d hd=>hr d (by simp[hd]));refine⟨i1.congr (fun t ty y=> ?_),i2⟩;simp only[yP,exists_eq_or_imp,or_assoc];constructor
   ·rintro(h|⟨e,h⟩|h)
    ·exact .inl h
    ·exact .inr (.inl ⟨e.symm,h⟩)
    ·exact .inr (.inr h)
   ·rintro(h|⟨e,h⟩|h)
    ·exact .inl h
    ·exact .inr (.inl ⟨e.symm,h⟩)
    ·exact .inr (.inr h)
 have h0:MInv a.types.toNat N 0 (fun _ _ _=>False) []:=⟨by simp,by simp,by simp,by simp,by simp,fun _ _ _ h=>h.elim⟩
 obtain⟨h1,h2⟩:=key (Wa a s) _ [] h0 (by simp) (fun m hm=>hm);have h3:=h1.congr (D':=H8 a cl s) (fun t ty y=>by simp[H8]);exact⟨h3.wf,h3.src,fun m hm=>by obtain⟨t,_,e⟩:=h3.dst m hm;exact⟨t,e⟩,h3.nd,h3.mem,h3.all,h2⟩
theorem MrgS.perm{T:Nat}{D:Nat→Nat→Int→Prop}{g g':List Mv}(h:MrgS T D g)(hp:g.Perm g'):MrgS T D g':=
 ⟨fun m hm=>h.wf m (hp.mem_iff.2 hm),fun m hm=>h.src m (hp.mem_iff.2 hm),fun m hm=>h.dst m (hp.mem_iff.2 hm),(hp.pairwise_iff (fun h=>Ne.symm h)).1 h.nd,fun m hm=>h.mem m (hp.mem_iff.2 hm),
  fun t ty y hd=>by obtain⟨m,hm,e⟩:=h.all t ty y hd;exact⟨m,hp.mem_iff.1 hm,e⟩,fun m hm=>h.ne m (hp.mem_iff.2 hm)⟩
theorem MrgS.sub{T:Nat}{D:Nat→Nat→Int→Prop}{g g':List Mv}(h:MrgS T D g)(h':MrgS T D g'){m:Mv}(hm:m∈g):m∈g':=by
 obtain⟨t,ht⟩:=h.dst m hm;obtain⟨ty,y,hy⟩:=h.ne m hm;obtain⟨k,hk,z1⟩:=h'.all t ty y ((h.mem m hm t ht ty y).1 hy);have z6:m.on=k.on:=Ig (h.wf m hm) (h'.wf k hk) fun t' n'=>by rw[h.mem m hm t ht,h'.mem k hk t z1]
 have:m=k:=by cases m;cases k;simp only at ht z1 z6;have e1:=h.src _ hm;have e2:=h'.src _ hk;simp only at e1 e2;subst z6;rw[e1,e2,ht,z1]
 rw[this];exact hk
theorem MrgS.apart{T:Nat}{D:Nat→Nat→Int→Prop}{g:List Mv}(h:MrgS T D g)(hD:∀t t' ty y,D t ty y→D t' ty y→t=t'):g.Pairwise (fun p q=>kyM p≠kyM q):=
 h.nd.imp_of_mem fun {p q} hp hq z1 e=>by obtain⟨t,ht⟩:=h.dst p hp;obtain⟨u,hu⟩:=h.dst q hq;have h1:=(Ww (h.wf p hp) (h.ne p hp)).1;have h2:=(Ww (h.wf q hq) (h.ne q hq)).1;unfold kyM at e;rw[e]at h1;have:=hD t u _ _ ((h.mem p hp t ht _ _).1 h1) ((h.mem q hq u hu _ _).1 h2);rw[ht,hu,this]at z1;exact z1 rfl
theorem MrgS.uniq{T:Nat}{D:Nat→Nat→Int→Prop}{g g':List Mv}(h:MrgS T D g)(h':MrgS T D g')(s:g.Pairwise (ltG kyM))(s':g'.Pairwise (ltG kyM)):g=g':=
 f1m kyM s s' fun _=>⟨h.sub h',h'.sub h⟩
theorem Dfa.dom{a:Aut}(ha:Dfa a){cl:List Nat}{s:Int}{t ty:Nat}{y:Int}:H8 a cl s t ty y↔(∃x:Sy,Ew a x∧x.ty.toNat=ty∧x.num=y∧∃m∈a.mv,m.src=s∧Tn m.on x=true∧cl.getD m.dst.toNat 0=t):=by
 constructor
 ·rintro⟨m,hm,h1,h2⟩;obtain⟨g1,g2,g3⟩:=Wu.1 hm;obtain⟨z6,z1⟩:=(ha.ok.wfA.on m g1).lt h2;have hx:Ew a ⟨ty,y⟩:=⟨⟨by simp,by have:=ha.ok.types;simp;omega⟩,z1⟩
  exact⟨⟨ty,y⟩,hx,by simp,rfl,m,g1,g2,(Tv ha.ok.wfA g1 hx).2 (by simpa using h2),h1⟩
 ·rintro⟨x,hx,rfl,rfl,m,hm,h1,h2,h3⟩;have hp:=(Tv ha.ok.wfA hm hx).1 h2;exact⟨m,Wu.2 ⟨hm,h1,(Tc (ha.ok.wfA.on m hm)).2 ⟨_,_,hp⟩⟩,h3,hp⟩
theorem g0j{a:Aut}(ha:Dfa a){cl:List Nat}{s:Int}(hs:inS a s){t ty:Nat}{y:Int}:H8 a cl s t ty y↔∃x:Sy,Ew a x∧x.ty.toNat=ty∧x.num=y∧cl.getD (toL a s x).toNat 0=t:=by
 rw[ha.dom];constructor
 ·rintro⟨x,hx,h1,h2,m,hm,rfl,h4,h5⟩;exact⟨x,hx,h1,h2,by rw[ha.to_of hm hx h4];exact h5⟩
 ·rintro⟨x,hx,h1,h2,h3⟩;obtain⟨m,hm,e1,e2,e3⟩:=ha.move hs hx;exact⟨x,hx,h1,h2,m,hm,e1,e2,by rw[e3];exact h3⟩
theorem w2o{x y:Sy}{a:Aut}(hx:Ew a x)(hy:Ew a y)(h:x.ty.toNat=y.ty.toNat)(h2:x.num=y.num):x=y:=by
 have:=hx.1.1;have:=hy.1.1;cases x;cases y;simp only at *
 have:∀ {a b:Int},0≤a→0≤b→a.toNat=b.toNat→a=b:=fun h0 h1 h=>by omega
 simp only[Sy.mk.injEq];exact⟨this ‹_› ‹_› h,h2⟩
theorem Bf{a:Aut}(ha:Dfa a){cl:List Nat}{s:Int}(hs:inS a s){t t' ty:Nat}{y:Int}(h:H8 a cl s t ty y)(h':H8 a cl s t' ty y):t=t':=by obtain⟨x,hx,h1,h2,h3⟩:=(g0j ha hs).1 h;obtain⟨x',z1,z6,z7,z8⟩:=(g0j ha hs).1 h';have:x=x':=w2o hx z1 (h1.trans z6.symm) (h2.trans z7.symm);subst this;exact h3.symm.trans z8
theorem F5{a:Aut}(ha:Dfa a)(cl:List Nat){s:Int}(hs:inS a s):MrgS a.types.toNat (H8 a cl s) (z1g a cl s)∧(z1g a cl s).Pairwise (ltG kyM):=by have h:=Xu ha cl s;obtain⟨h1,h2⟩:=J5 kyM (g1s a cl s) (h.apart fun t t' ty y=>Bf ha hs);exact⟨h.perm h1.symm,h2⟩
def Ow(a:Aut)(cl:List Nat)(s:Int)(t:Nat):List Prd:=((Wa a s).filter fun m=>decide (clD cl m=t)).map (·.on)
theorem f06{a:Aut}(ha:Dfa a)(cl:List Nat)(s:Int){ks:List Nat}(z7:ks.Nodup)(hk:∀t,t∈ks↔∃m∈Wa a s,clD cl m=t):
  MrgS a.types.toNat (H8 a cl s) (ks.map fun t:Nat=>(⟨0,(t:Int),Ud a.types.toNat (Ow a cl s t)⟩:Mv)):=by
 have z1:∀t,∀p∈Ow a cl s t,PWf a.types.toNat p:=fun t p hp=>by obtain⟨m,hm,rfl⟩:=zX.1 hp;exact(u1o ha.ok.wfA (xU.1 hm).1).1
 have z6:∀t ty y,PM (Ud a.types.toNat (Ow a cl s t)) ty y↔H8 a cl s t ty y:=fun t ty y=>by
  rw[Kb (z1 t)];constructor
  ·rintro⟨p,hp,h⟩;obtain⟨m,hm,rfl⟩:=zX.1 hp;obtain⟨h1,h2⟩:=xU.1 hm;exact⟨m,h1,by simpa using h2,h⟩
  ·rintro⟨m,hm,h1,h2⟩;exact⟨m.on,zX.2 ⟨m,xU.2 ⟨hm,by simpa using h1⟩,rfl⟩,h2⟩
 refine⟨fun m hm=> ?_,fun m hm=> ?_,fun m hm=> ?_,?_,fun m hm t e ty y=> ?_,fun t ty y hd=> ?_,fun m hm=> ?_⟩
 ·obtain⟨t,_,rfl⟩:=zX.1 hm;exact Gg (z1 t)
 ·obtain⟨t,_,rfl⟩:=zX.1 hm;rfl
 ·obtain⟨t,_,rfl⟩:=zX.1 hm;exact⟨t,rfl⟩
 ·exact wU.2 (z7.imp fun h e=>h (Int.ofNat.inj e))
 ·obtain⟨u,_,rfl⟩:=zX.1 hm;have:u=t:=Int.ofNat.inj e;subst this;exact z6 u ty y
 ·obtain⟨m,hm,h1,h2⟩:=hd;exact⟨_,zX.2 ⟨t,(hk t).2 ⟨m,hm,h1⟩,rfl⟩,rfl⟩
 ·obtain⟨t,ht,rfl⟩:=zX.1 hm;obtain⟨m,hm,h1⟩:=(hk t).1 ht;obtain⟨ty,y,hp⟩:=(u1o ha.ok.wfA hm).2;exact⟨ty,y,(z6 t ty y).2 ⟨m,hm,h1,hp⟩⟩
end Go.Abs
namespace Go.Abs
def x12(cl:List Nat)(t:Nat):Nat:=(cl.findIdx? fun c=>decide (c=t)).getD 0
def Zr(a:Aut)(t:Nat):Prop:=t<(fsA a).length
def Tx(a:Aut)(s:Int):Nat:=(clA a).getD s.toNat 0
def Ih(a:Aut)(t:Nat):Nat:=x12 (clA a) t
theorem Fm{a:Aut}{s:Int}(h:inS a s):s.toNat<a.fin.length∧((s.toNat:Nat):Int)=s:=by unfold inS at h;omega
theorem Aq{a:Aut}(ha:Dfa a){t:Nat}(ht:Zr a t):Ih a t<a.fin.length∧Tx a (Ih a t)=t:=by
 have h:=c16 ha;have hf:=h.first (v13 ha) (zP ht);have hr:Ih a t=(fsA a)[t]:=by rw[Ih,x12,hf];rfl
 rw[xP]at hf;obtain⟨h1,h2,_⟩:=hf;rw[hr];refine⟨by rw[h.len]at h1;exact h1,?_⟩;simp only[Tx,Int.toNat_natCast,y_,zP h1,wH];simpa using h2
theorem q0f{a:Aut}(ha:Dfa a){t:Nat}(ht:Zr a t):inS a (Ih a t:Int):=Um (Aq ha ht).1
theorem w0i{a:Aut}(ha:Dfa a){s:Int}(hs:inS a s):Zr a (Tx a s):=(c16 ha).lt_fs (Fm hs).1
def D3(o:List Nat)(c:Nat):List Nat:=if c∈o then o else o++[c]
def Wo(o:List Nat)(l:List Mv):List Nat:=l.foldl (fun o m=>D3 o m.dst.toNat) o
def Pl(a:Aut)(t:Nat):List Mv:=z1g a (clA a) (Ih a t:Int)
def Fi(a:Aut):Nat→Nat→List Nat→List Nat
 |0,_,o=>o
 |f+1,n,o=>match o[n]? with
  |none=>o
  |some c=>Fi a f (n+1) (Wo o (Pl a c))
def v0p(a:Aut):List Nat:=Fi a (a.fin.length+1) 0 [Tx a 0]
def La(o:List Nat)(c:Nat):Nat:=(o.findIdx? fun d=>decide (d=c)).getD 0
def mvN(a:Aut)(o:List Nat)(n:Nat):List Mv:=(Pl a (o.getD n 0)).map fun m=>⟨n,(La o m.dst.toNat:Int),m.on⟩
def Gp(a:Aut)(o:List Nat):Aut:=⟨a.types,o.map fun c=>a.fin.getD (Ih a c) false,(yV o.length).flatMap (mvN a o)⟩
def E2(a:Aut):Aut:=Gp a (v0p a)
theorem D6(o:List Nat)(c:Nat):∃r,D3 o c=o++r∧∀x∈r,x=c:=by
 unfold D3;split
 ·exact⟨[],by simp,by simp⟩
 ·exact⟨[c],rfl,fun x hx=>z_.1 hx⟩
theorem My(o:List Nat)(c:Nat):c∈D3 o c:=by
 unfold D3;split
 ·assumption
 ·simp
theorem z0e{o:List Nat}(h:o.Nodup)(c:Nat):(D3 o c).Nodup:=by
 unfold D3;split
 ·exact h
 ·rename_i hc;exact vT.2 ⟨h,by simp,fun x hx y hy e=>by rw[z_.1 hy]at e;exact hc (e▸hx)⟩
theorem Pm:∀(l:List Mv) (o:List Nat),o.Nodup→(∃r,Wo o l=o++r∧∀x∈r,∃m∈l,x=m.dst.toNat)∧(Wo o l).Nodup∧∀m∈l,m.dst.toNat∈Wo o l
 |[],o,h=>⟨⟨[],by simp[Wo],by simp⟩,h,by simp⟩
 |m::l,o,h=>by
  obtain⟨⟨r,h1,h2⟩,h3,h4⟩:=Pm l (D3 o m.dst.toNat) (z0e h _);obtain⟨r',h5,h6⟩:=D6 o m.dst.toNat;have he:Wo o (m::l)=Wo (D3 o m.dst.toNat) l:=rfl;rw[he];refine⟨⟨r'++r,by rw[h1,h5,wd],fun x hx=> ?_⟩,h3,fun k hk=> ?_⟩
  ·rcases yH.1 hx with hx|hx
   ·exact⟨m,by simp,h6 x hx⟩
   ·obtain⟨k,hk,e⟩:=h2 x hx;exact⟨k,by simp[hk],e⟩
  ·rcases yP.1 hk with rfl|hk
   ·rw[h1];exact xL _ (My _ _)
   ·exact h4 k hk
theorem K3{a:Aut}(ha:Dfa a){t:Nat}(ht:Zr a t){m:Mv}(hm:m∈Pl a t):∃x,Ew a x∧m.dst=(Tx a (toL a (Ih a t) x):Nat)∧inS a (toL a (Ih a t) x)∧Zr a (Tx a (toL a (Ih a t) x))∧PM m.on x.ty.toNat x.num:=by have hs:=q0f ha ht;have h:=(F5 ha (clA a) hs).1;obtain⟨u,hu⟩:=h.dst m hm;obtain⟨ty,y,hy⟩:=h.ne m hm;obtain⟨x,hx,rfl,rfl,h3⟩:=(g0j ha hs).1 ((h.mem m hm u hu ty y).1 hy);have z1:=(ha.next hs hx).1;exact⟨x,hx,by rw[hu,←h3];rfl,z1,w0i ha z1,hy⟩
structure OrdS (a:Aut) (o:List Nat):Prop where
 first:o[0]? =some (Tx a 0)
 nd:o.Nodup
 cl:∀c∈o,Zr a c
 closed:∀c∈o,∀m∈Pl a c,m.dst.toNat∈o
theorem d0d{a:Aut}(ha:Dfa a):(fsA a).length≤a.fin.length:=by
 have h:=c16 ha;have z1:(fsA a).Nodup:=h.asc.imp fun h e=>by omega
 have:=z1.length_le_of_subset (l₂:=yV a.fin.length) fun r hr=>xJ.2 (h.lt r hr);simpa using this
theorem u0t{a:Aut}(ha:Dfa a){o:List Nat}(hn:o.Nodup)(hc:∀c∈o,Zr a c):o.length≤a.fin.length:=by have:=hn.length_le_of_subset (l₂:=yV (fsA a).length) fun c hx=>xJ.2 (hc c hx);have h2:=d0d ha;simp at this;omega
theorem Vr{a:Aut}(ha:Dfa a):∀(f n:Nat) (o:List Nat),a.fin.length+1≤n+f→n≤o.length→o[0]? =some (Tx a 0)→o.Nodup→(∀c∈o,Zr a c)→(∀i c,i<n→o[i]? =some c→∀m∈Pl a c,m.dst.toNat∈o)→OrdS a (Fi a f n o)
 |0,n,o,hf,hn,h0,z6,z1,hc=>by have:=u0t ha z6 z1;omega
 |f+1,n,o,hf,hn,h0,z6,z1,hc=>by
  unfold Fi;cases hon:o[n]? with
  |none=>
   simp only;have hl:o.length≤n:=by simpa using hon
   refine⟨h0,z6,z1,fun c hx m hm=> ?_⟩;obtain⟨i,hi⟩:=yR.1 hx;exact hc i c (by have:=Ey hi;omega) hi m hm
  |some c=>
   simp only;have z8:=Ey hon;obtain⟨⟨r,h1,h2⟩,h3,h4⟩:=Pm (Pl a c) o z6;have z7:=z1 c (zO hon);refine Vr ha f (n+1) _ (by omega) (by rw[h1,yL];omega) ?_ h3 (fun d hd=> ?_) fun i d hi hd m hm=> ?_
   ·rw[h1,zI (by omega)];exact h0
   ·rw[h1]at hd;rcases yH.1 hd with hd|hd
    ·exact z1 d hd
    ·obtain⟨m,hm,e⟩:=h2 d hd;obtain⟨x,_,e2,_,e4,_⟩:=K3 ha z7 hm;rw[e,e2];simpa using e4
   ·rw[h1,zI (by omega)]at hd;by_cases e:i=n
    ·subst e;rw[hon]at hd;cases hd;exact h4 m hm
    ·rw[h1];exact xL _ (hc i d (by omega) hd m hm)
theorem Ve{a:Aut}(ha:Dfa a):OrdS a (v0p a):=
 Vr ha _ 0 _ (by omega) (by simp) rfl (by simp) (fun c hc=>by rw[z_.1 hc];exact w0i ha ha.zero) (fun i c hi=>by omega)
section
variable {a b:Aut} (ha:Dfa a) (hb:Dfa b) (ht:b.types=a.types)
def x2t(a b:Aut)(c d:Nat):Prop:=Zr a c∧Zr b d∧eqW a b (Ih a c) (Ih b d)
structure LkO (a b:Aut) (o o':List Nat):Prop where
 len:o.length=o'.length
 k:∀(i c d:Nat),o[i]? =some c→o'[i]? =some d→x2t a b c d
theorem k1o{a b:Aut}(ht:b.types=a.types){x:Sy}:Ew b x↔Ew a x:=by unfold Ew;rw[ht]
include ha hb ht
end
end Go.Abs
namespace Go.Abs
theorem g1x{α:Type}{l:List α}(h:l.Nodup){i j:Nat}(hi:i<l.length)(hj:j<l.length)(e:l[i]=l[j]):i=j:=by
 rcases vS i j with k|k|k
 ·exact absurd e (yU.1 h i j hi hj k)
 ·exact k
 ·exact absurd e.symm (yU.1 h j i hj hi k)
theorem g0b{o:List Nat}(hn:o.Nodup){i c:Nat}(h:o[i]? =some c):La o c=i:=by
 unfold La;have:(o.findIdx? fun d=>decide (d=c))=some i:=y0n h (by simp) fun i j x y hx hy e1 e2=>by
  have e3:x=c:=by simpa using e1
  have e4:y=c:=by simpa using e2
  subst e3 e4;obtain⟨hi,e5⟩:=zE.1 hx;obtain⟨hj,e6⟩:=zE.1 hy;exact g1x hn hi hj (e5.trans e6.symm)
 rw[this];rfl
theorem y1l{o:List Nat}(hn:o.Nodup){c:Nat}(h:c∈o):o[La o c]? =some c:=by obtain⟨i,hi⟩:=yR.1 h;rw[g0b hn hi];exact hi
theorem Fz{a:Aut}{o:List Nat}{m:Mv}:m∈(Gp a o).mv↔∃(n c:Nat),o[n]? =some c∧∃k∈Pl a c,m=⟨n,(La o k.dst.toNat:Int),k.on⟩:=by
 unfold Gp mvN;simp only[List.mem_flatMap,xJ,zX];constructor
 ·rintro⟨n,hn,k,hk,rfl⟩;have e:o.getD n 0=o[n]:=by simp[y_,hn]
  rw[e]at hk;exact⟨n,_,zP hn,k,hk,rfl⟩
 ·rintro⟨n,c,hn,k,hk,rfl⟩;have e:o.getD n 0=c:=by simp[y_,hn]
  exact⟨n,Ey hn,k,by rw[e];exact hk,rfl⟩
theorem k0x{a:Aut}(o:List Nat):(Gp a o).fin.length=o.length:=by simp[Gp]
theorem Bb(a:Aut):(E2 a).types=a.types:=rfl
theorem c08{a:Aut}(ha:Dfa a):WfA (E2 a):=by
 have ho:=Ve ha;have z1:(E2 a).fin.length=(v0p a).length:=k0x _;have z6:=Ey ho.first;refine⟨ha.ok.types,by omega,fun m hm=> ?_,fun m hm=> ?_,fun m hm=> ?_⟩
 ·obtain⟨n,c,hn,k,hk,rfl⟩:=Fz.1 hm;have:=Ey hn;rw[z1];exact⟨by simp,by simpa using this⟩
 ·obtain⟨n,c,hn,k,hk,rfl⟩:=Fz.1 hm;have:=Ey (y1l ho.nd (ho.closed c (zO hn) k hk));rw[z1];exact⟨by simp,by simpa using this⟩
 ·obtain⟨n,c,hn,k,hk,rfl⟩:=Fz.1 hm;exact(F5 ha (clA a) (q0f ha (ho.cl c (zO hn)))).1.wf k hk
theorem Ab{α β:Type}(rs:List β)(hn:rs.Nodup)(p:β→α→Bool)(hp:∀s t x,p s x=true→p t x=true→s=t):∀l:List α,(rs.map fun s=>(l.filter (p s)).length).sum≤l.length
 |[]=>by have:(rs.map fun s=>(([]:List α).filter (p s)).length)=rs.map fun _=>0:=List.map_congr_left fun s _=>rfl;rw[this,List.map_const'];simp
 |x::l=>by
  have ih:=Ab rs hn p hp l;have key:∀(rs:List β),rs.Nodup→(rs.map fun s=>((x::l).filter (p s)).length).sum≤(rs.map fun s=>(l.filter (p s)).length).sum+(bif rs.any (fun s=>p s x)then 1 else 0):=by
   intro rs;induction rs with
   |nil=>intro _;simp
   |cons s rs ih2=>
    intro z1;obtain⟨z6,z7⟩:=List.nodup_cons.1 z1;have:=ih2 z7;simp only[xH,uG,List.any_cons];by_cases hps:p s x=true
    ·have z8:rs.any (fun s=>p s x)=false:=by rw[vN];intro t ht za;exact z6 (hp s t x hps za▸ht)
     rw[z8]at this;rw[List.filter_cons_of_pos hps,hps];simp only[Bool.true_or,cond_true,cond_false,yY]at this ⊢;omega
    ·rw[List.filter_cons_of_neg hps,show p s x=false by simpa using hps];simp only[Bool.false_or];omega
  have:=key rs hn;rw[yY];cases hc:rs.any (fun s=>p s x)<;>rw[hc]at this<;>simp only[cond_true,cond_false]at this<;>omega
theorem y1b(a:Aut)(cl:List Nat)(s:Int):(g1s a cl s).length≤(Wa a s).length:=by
 have h1:∀(n:Nat) (g:List Mv) (to:Nat) (c:Prd),(Tp n g to c).length≤g.length+1:=fun n g to c=>by
  unfold Tp;split
  ·simp
  ·split<;>simp
 have h2:∀(r g:List Mv),(r.foldl (fun g m=>Tp 0 g (clD cl m) m.on) g).length≤g.length+r.length:=by
  intro r;induction r with
  |nil=>intro g;simp
  |cons m r ih=>intro g;have e:=ih (Tp 0 g (clD cl m) m.on);have e2:=h1 0 g (clD cl m) m.on;rw[x_,yY];omega
 have:=h2 (Wa a s) [];simpa[g1s]using this
theorem L1{a:Aut}(ha:Dfa a){t:Nat}(ht:Zr a t):(Pl a t).length≤(Wa a (Ih a t)).length:=by have h:=Xu ha (clA a) (Ih a t);have hp:=(J5 kyM (g1s a (clA a) (Ih a t)) (h.apart fun t' t'' ty y=>Bf ha (q0f ha ht))).1.length_eq;have:=y1b a (clA a) (Ih a t);unfold Pl z1g;omega
theorem j0d{a:Aut}(ha:Dfa a):(E2 a).mv.length≤a.mv.length:=by
 have ho:=Ve ha;have z1:∀c∈v0p a,∀d∈v0p a,Ih a c=Ih a d→c=d:=fun c hc d hd e=>by have e1:=(Aq ha (ho.cl c hc)).2;have e2:=(Aq ha (ho.cl d hd)).2;rw[←e1,←e2,e]
 have hlen:(E2 a).mv.length=((v0p a).map fun c=>(Pl a c).length).sum:=by
  unfold E2 Gp;simp only[List.length_flatMap]
  congr 1
  refine wP (by simp) fun i h1 h2=> ?_;have hi:i<(v0p a).length:=by simpa using h1
  simp[mvN,y_,hi]
 have hle:((v0p a).map fun c=>(Pl a c).length).sum≤(((v0p a).map fun c=>((Ih a c:Nat):Int)).map fun s=>(Wa a s).length).sum:=by
  rw[List.map_map];have key:∀l:List Nat,(∀c∈l,Zr a c)→(l.map fun c=>(Pl a c).length).sum≤(l.map ((fun s=>(Wa a s).length)∘fun c=>((Ih a c:Nat):Int))).sum:=by
   intro l;induction l with
   |nil=>intro _;simp
   |cons c l ih=>intro hc;have h1:=ih fun d hd=>hc d (by simp[hd]);have h2:=L1 ha (hc c (by simp));simp only[xH,uG,Function.comp_apply];omega
  exact key _ ho.cl
 have z6:((v0p a).map fun c=>((Ih a c:Nat):Int)).Nodup:=by refine wU.2 ?_;refine List.Pairwise.imp_of_mem ?_ ho.nd;intro c d hc hd z7 e;exact z7 (z1 c hc d hd (by omega))
 have:=Ab _ z6 (fun s (m:Mv)=>decide (m.src=s) && !Wi m.on) (fun s t x h1 h2=>by
  simp only[yT,decide_eq_true_eq]at h1 h2;rw[←h1.1,←h2.1]) a.mv
 rw[hlen];unfold Wa at hle;omega
def Bz(m:Aut):Bool:=m.mv.any fun k=>k.on.any fun s=>decide (256<s.length)
section
variable {a:Aut} (ha:Dfa a) (hb:Bz (E2 a)=false)
include ha hb
end
def w0v(a:Aut):Int×Aut:=if(Tk a).1≠0 then((Tk a).1,Ul)else if(P2 (Tk a).2).1≠0 then((P2 (Tk a).2).1,Ul)else
 if Bz (E2 (P2 (Tk a).2).2)then(5,Ul)else(0,E2 (P2 (Tk a).2).2)
theorem u1i{a d c:Aut}(h:OkA a)(hd:Tk a=(0,d))(hc:P2 d=(0,c)):Dfa c∧c.types=a.types∧∀w,(∀x∈w,Ew a x)→Bp c w=Bp a w:=by obtain⟨Q,_,_,_,_,_,z1,ddet,z6,dacc⟩:=y18 h hd;obtain⟨z7,z8,cfull,cdet,cacc⟩:=z1w z1 hc;exact⟨⟨z7,cdet ddet,cfull⟩,z8.trans z6,fun w hw=>(cacc w).trans (dacc w hw)⟩
end Go.Abs
namespace Go.Abs
def addI(o:List Int)(c:Int):List Int:=if c∈o then o else o++[c]
def k0t(o:List Int)(l:List Int):List Int:=l.foldl addI o
def z0l(sc:Int→List Int):Nat→Nat→List Int→List Int
 |0,_,o=>o
 |f+1,n,o=>match o[n]? with
  |none=>o
  |some c=>z0l sc f (n+1) (k0t o (sc c))
structure SrchS (sc:Int→List Int) (o:List Int):Prop where
 nd:o.Nodup
 zero:(0:Int)∈o
 closed:∀c∈o,∀d∈sc c,d∈o
 least:∀S:Int→Prop,S 0→(∀c d,S c→d∈sc c→S d)→∀c∈o,S c
def y2z(a:Aut)(c:Int):List Int:=(Wa a c).map (·.dst)
def y2p(a:Aut)(c:Int):List Int:=(Ep a a).map (toL a c)
def x0v(a:Aut):Bool:=(z0l (y2z a) (a.fin.length+1) 0 [0]).length==a.fin.length
def w2t(a:Aut):Bool:=(z0l (y2p a) (a.fin.length+1) 0 [0]).length==a.fin.length
end Go.Abs
namespace Go.Abs
structure Dta (a:Aut):Prop where
 ok:OkA a
 det:Su a
theorem w28{α:Type}{R:α→α→Prop}{l:List α}(h:l.Pairwise R){x y:α}(hx:x∈l)(hy:y∈l)(h1:¬R x y)(h2:¬R y x):x=y:=by
 obtain⟨i,hi,rfl⟩:=xE hx;obtain⟨j,hj,rfl⟩:=xE hy;rcases vS i j with k|k|k
 ·exact absurd (yU.1 h i j hi hj k) h1
 ·subst k;rfl
 ·exact absurd (yU.1 h j i hj hi k) h2
theorem Dta.one{a:Aut}(h:Dta a){m k:Mv}(hm:m∈a.mv)(hk:k∈a.mv)(hs:m.src=k.src){x:Sy}(hx:Ew a x)(h1:Tn m.on x=true)(h2:Tn k.on x=true):m=k:=
 w28 h.det hm hk (fun hr=>hr hs x hx ⟨h1,h2⟩) (fun hr=>hr hs.symm x hx ⟨h2,h1⟩)
theorem Dta.to_of{a:Aut}(h:Dta a){m:Mv}(hm:m∈a.mv){x:Sy}(hx:Ew a x)(hh:Tn m.on x=true):toL a m.src x=m.dst:=by
 unfold toL;cases hf:a.mv.find? (fun k=>decide (k.src=m.src) && Tn k.on x)with
 |none=>rw[uh]at hf;have:=hf m hm;simp[hh]at this
 |some k=>have h1:=tS hf;simp only[yT,decide_eq_true_eq]at h1;rw[h.one (uj hf) hm h1.1 hx h1.2 hh]
theorem P5{a:Aut}(s:Int)(x:Sy):(toL a s x= -1∧∀m∈a.mv,m.src=s→Tn m.on x=false)∨∃m∈a.mv,m.src=s∧Tn m.on x=true∧toL a s x=m.dst:=by
 unfold toL;cases hf:a.mv.find? (fun k=>decide (k.src=s) && Tn k.on x)with
 |none=>rw[uh]at hf;refine .inl ⟨rfl,fun m hm e=> ?_⟩;have:=hf m hm;simpa[e]using this
 |some k=>have h1:=tS hf;simp only[yT,decide_eq_true_eq]at h1;exact .inr ⟨k,uj hf,h1.1,h1.2,rfl⟩
theorem N0{a:Aut}(h:OkA a)(s:Int)(x:Sy):toL a s x= -1∨inS a (toL a s x):=by
 rcases P5 (a:=a) s x with⟨h1,_⟩|⟨m,hm,_,_,e⟩
 ·exact .inl h1
 ·rw[e];exact .inr (h.mv m hm).dst
def wkS(a:Aut)(s:Int):List Sy→Option Int
 |[]=>some s
 |x::w=>if toL a s x<0 then none else wkS a (toL a s x) w
theorem Mh(a:Aut):∀(w:List Sy) (s:Int) (x:Sy),wkS a s (w++[x])=(wkS a s w).bind fun t=>if toL a t x<0 then none else some (toL a t x)
 |[],s,x=>by simp[wkS]
 |y::w,s,x=>by
  rw[vZ,wkS,wkS];split
  ·rfl
  ·exact Mh a w _ x
def fAt(f:List Int)(s:Int):Int:=f.getD s.toNat (-1)
structure IsoT (a b:Aut) (f:List Int):Prop where
 len:f.length=a.fin.length
 zero:fAt f 0=0
 low:∀q∈f,-1≤q
 fin:∀s,inS a s→0≤fAt f s→a.fin.getD s.toNat false=b.fin.getD (fAt f s).toNat false
 step:∀s,inS a s→0≤fAt f s→∀x,Ew a x→(toL a s x<0↔toL b (fAt f s) x<0)∧(0≤toL a s x→fAt f (toL a s x)=toL b (fAt f s) x)
 inj:∀s t,inS a s→inS a t→0≤fAt f s→fAt f s=fAt f t→s=t
 reach:∀s,inS a s→0≤fAt f s→∃w,(∀x∈w,Ew a x)∧wkS a 0 w=some s∧wkS b 0 w=some (fAt f s)
theorem IsoT.walk{a b:Aut}(ha:OkA a){f:List Int}(h:IsoT a b f):∀(w:List Sy) (s t:Int),(∀x∈w,Ew a x)→inS a s→0≤fAt f s→wkS a s w=some t→inS a t∧0≤fAt f t∧wkS b (fAt f s) w=some (fAt f t)
 |[],s,t,_,hs,h0,e=>by simp only[wkS,Option.some.injEq]at e;subst e;exact⟨hs,h0,rfl⟩
 |x::w,s,t,hw,hs,h0,e=>by
  rw[wkS]at e;split at e
  ·cases e
  ·rename_i z1;have hx:=hw x (by simp);obtain⟨h1,h2⟩:=h.step s hs h0 x hx;have hb:¬toL b (fAt f s) x<0:=fun k=>z1 (h1.2 k);have h3:=h2 (by omega);have z6:inS a (toL a s x):=(N0 ha s x).resolve_left (by omega);have:=h.walk ha w (toL a s x) t (fun y hy=>hw y (by simp[hy])) z6 (by omega) e;rw[wkS,if_neg hb,←h3];exact this
theorem v1z{f g:List Int}(hl:f.length=g.length)(h:∀i:Nat,i<f.length→fAt f i=fAt g i):f=g:=by refine wP hl fun i h1 h2=> ?_;have:=h i h1;simpa[fAt,y_,h1,h2]using this
theorem f08{f:List Int}(h:∀q∈f,-1≤q)(s:Int): -1≤fAt f s:=by
 unfold fAt;by_cases hl:s.toNat<f.length
 ·simp only[y_,zP hl,wH];exact h _ (zT hl)
 ·simp[y_,xI (by omega:f.length≤s.toNat)]
theorem IsoT.uniq{a b:Aut}(ha:OkA a){f g:List Int}(hf:IsoT a b f)(hg:IsoT a b g):f=g:=by
 have key:∀ {f g:List Int},IsoT a b f→IsoT a b g→∀s,inS a s→0≤fAt f s→fAt g s=fAt f s:=fun {f g} hf hg s hs h0=>by
  obtain⟨w,hw,e1,e2⟩:=hf.reach s hs h0;have hz:inS a 0:=⟨xF _,by have:=ha.fin;omega⟩
  have:=(hg.walk ha w 0 s hw hz (by rw[hg.zero];omega) e1).2.2;rw[hg.zero,e2]at this;exact(Option.some.inj this).symm
 refine v1z (by rw[hf.len,hg.len]) fun i hi=> ?_;have hs:inS a (i:Int):=Um (by rw[←hf.len];exact hi);by_cases h1:0≤fAt f i
 ·exact(key hf hg i hs h1).symm
 ·by_cases h2:0≤fAt g i
  ·exact key hg hf i hs h2
  ·have:=f08 hf.low i;have:=f08 hg.low i;omega
def W4(st:List Int×List Int)(e:Int×Int):Option (List Int×List Int):=
 if fAt st.1 e.1=e.2 then some st else if 0≤fAt st.1 e.1∨e.2∈st.1 then none else some (st.1.set e.1.toNat e.2,st.2++[e.1])
def Wy:List (Int×Int)→List Int×List Int→Option (List Int×List Int)
 |[],st=>some st
 |e::es,st=>(W4 st e).bind (Wy es)
def Hy(chk:Int→Int→Bool)(ps:Int→Int→List (Int×Int)):Nat→Nat→List Int×List Int→Option (List Int)
 |0,_,st=>some st.1
 |f+1,n,st=>match st.2[n]? with
  |none=>some st.1
  |some p=>if chk p (fAt st.1 p)then(Wy (ps p (fAt st.1 p)) st).bind (Hy chk ps f (n+1))else none
def A0(a:Aut):List Int×List Int:=((yB a.fin.length (-1)).set 0 0,[0])
structure IsoI (a b:Aut) (st:List Int×List Int):Prop where
 len:st.1.length=a.fin.length
 zero:fAt st.1 0=0
 low:∀q∈st.1,-1≤q
 mem:∀s,s∈st.2↔inS a s∧0≤fAt st.1 s
 nd:st.2.Nodup
 inj:∀s t,inS a s→inS a t→0≤fAt st.1 s→fAt st.1 s=fAt st.1 t→s=t
 reach:∀s,inS a s→0≤fAt st.1 s→∃w,(∀x∈w,Ew a x)∧wkS a 0 w=some s∧wkS b 0 w=some (fAt st.1 s)
 rng:∀s,inS a s→0≤fAt st.1 s→inS b (fAt st.1 s)
theorem IsoI.agree{a b:Aut}(ha:OkA a){st:List Int×List Int}(h:IsoI a b st){g:List Int}(hg:IsoT a b g){s:Int}(hs:inS a s)(h0:0≤fAt st.1 s):fAt g s=fAt st.1 s:=by
 obtain⟨w,hw,e1,e2⟩:=h.reach s hs h0;have hz:inS a 0:=⟨xF _,by have:=ha.fin;omega⟩
 have:=(hg.walk ha w 0 s hw hz (by rw[hg.zero];omega) e1).2.2;rw[hg.zero,e2]at this;exact(Option.some.inj this).symm
theorem Mg{f:List Int}{s t q:Int}(hs:0≤s)(ht:0≤t)(hl:s.toNat<f.length):fAt (f.set s.toNat q) t=if t=s then q else fAt f t:=by
 unfold fAt;by_cases e:t=s
 ·subst e;rw[if_pos rfl];simp[y_,zU hl]
 ·rw[if_neg e];simp only[y_];rw[zH (by omega)]
theorem IsoI.one{a b:Aut}(ha:OkA a)(hb:OkA b){st:List Int×List Int}(h:IsoI a b st){p:Int}(hp:p∈st.2){x:Sy}(hx:Ew a x){s t:Int}(hs:toL a p x=s)(ht:toL b (fAt st.1 p) x=t)(s0:0≤s)(t0:0≤t):
  (∃st',W4 st (s,t)=some st'∧IsoI a b st'∧(∀u,inS a u→0≤fAt st.1 u→fAt st'.1 u=fAt st.1 u)∧(∃r,st'.2=st.2++r)∧fAt st'.1 s=t)∨(W4 st (s,t)=none∧¬ ∃g,IsoT a b g):=by
 obtain⟨za,zb⟩:=(h.mem p).1 hp;have z7:inS a s:=(N0 ha p x).elim (fun k=>by omega) (fun k=>by rw[←hs];exact k)
 have zg:inS b t:=(N0 hb (fAt st.1 p) x).elim (fun k=>by omega) (fun k=>by rw[←ht];exact k)
 have zh:s.toNat<st.1.length:=by rw[h.len];have:=z7;unfold inS at this;omega
 have hg:∀g,IsoT a b g→fAt g s=t:=fun g hg=>by have e:=h.agree ha hg za zb;have:=(hg.step p za (by rw[e];exact zb) x hx).2 (by rw[hs];exact s0);rw[hs,e,ht]at this;exact this
 unfold W4;simp only;by_cases h1:fAt st.1 s=t
 ·rw[if_pos h1];exact .inl ⟨st,rfl,h,fun _ _ _=>rfl,⟨[],by simp⟩,h1⟩
 ·rw[if_neg h1];by_cases h2:0≤fAt st.1 s∨t∈st.1
  ·rw[if_pos h2];refine .inr ⟨rfl,?_⟩;rintro⟨g,z8⟩;have e1:=hg g z8;rcases h2 with h2|h2
   ·have:=h.agree ha z8 z7 h2;exact h1 (this.symm.trans e1)
   ·obtain⟨i,hi,e2⟩:=xE h2;have zd:inS a (i:Int):=Um (by rw[←h.len];exact hi);have e3:fAt st.1 (i:Int)=t:=by simpa[fAt,y_,hi]using e2
    have e4:=h.agree ha z8 zd (by rw[e3];exact t0);have e5:=z8.inj s i z7 zd (by rw[e1];exact t0) (by rw[e1,e4,e3]);rw[←e5]at e3;exact h1 e3
  ·rw[if_neg h2];have ze:∀u,inS a u→fAt st.1 u≠t:=fun u hu e=>by
    refine h2 (.inr ?_);have zf:u.toNat<st.1.length:=by rw[h.len];unfold inS at hu;omega
    unfold fAt at e;simp only[y_,zP zf,wH]at e;rw[←e];exact zT zf
   have zc:fAt st.1 s<0:=by
    rcases sk (fAt st.1 s) 0 with k|k
    ·exact k
    ·exact absurd (.inl k) h2
   have z1:∀u,0≤u→fAt (st.1.set s.toNat t) u=if u=s then t else fAt st.1 u:=fun u hu=>Mg s0 hu zh
   have zi:∀u,inS a u→0≤u:=fun u hu=>hu.1;refine .inl ⟨_,rfl,⟨by simpa using h.len,?_,fun q hq=> ?_,fun u=> ?_,?_,fun u v hu hv z6 e=> ?_,fun u hu z6=> ?_,fun u hu z6=> ?_⟩,fun u hu z6=> ?_,⟨[s],rfl⟩,?_⟩
   ·rw[z1 0 (xF _)];split
    ·rename_i e;exfalso;rw[←e,h.zero]at zc;omega
    ·exact h.zero
   ·rcases wJ hq with hq|rfl
    ·exact h.low q hq
    ·omega
   ·simp only[yH,z_];rw[h.mem];constructor
    ·rintro(⟨k1,k2⟩|rfl)
     ·refine⟨k1,?_⟩;rw[z1 u k1.1];split
      ·exact t0
      ·exact k2
     ·exact⟨z7,by rw[z1 u s0,if_pos rfl];exact t0⟩
    ·rintro⟨k1,k2⟩;rw[z1 u k1.1]at k2;by_cases e:u=s
     ·exact .inr e
     ·rw[if_neg e]at k2;exact .inl ⟨k1,k2⟩
   ·exact vT.2 ⟨h.nd,by simp,fun u hu v hv e=>by
     rw[z_.1 hv]at e;subst e;have:=((h.mem u).1 hu).2;omega⟩
   ·rw[z1 u hu.1]at z6 e;rw[z1 v hv.1]at e;by_cases e1:u=s
    ·by_cases e2:v=s
     ·rw[e1,e2]
     ·rw[if_pos e1,if_neg e2]at e;exact absurd e.symm (ze v hv)
    ·rw[if_neg e1]at e z6;by_cases e2:v=s
     ·rw[if_pos e2]at e;exact absurd e (ze u hu)
     ·rw[if_neg e2]at e;exact h.inj u v hu hv z6 e
   ·rw[z1 u hu.1]at z6;by_cases e1:u=s
    ·obtain⟨w,hw,f1,f2⟩:=h.reach p za zb;refine⟨w++[x],fun y hy=> ?_,?_,?_⟩
     ·rcases yH.1 hy with hy|hy
      ·exact hw y hy
      ·rw[z_.1 hy];exact hx
     ·rw[Mh,f1];simp only[wB];rw[hs,if_neg (by omega),e1]
     ·rw[Mh,f2];simp only[wB];rw[ht,if_neg (by omega),z1 u hu.1,if_pos e1]
    ·rw[if_neg e1]at z6;obtain⟨w,hw,f1,f2⟩:=h.reach u hu z6;exact⟨w,hw,f1,by rw[z1 u hu.1,if_neg e1];exact f2⟩
   ·rw[z1 u hu.1]at z6 ⊢;by_cases e1:u=s
    ·rw[if_pos e1];exact zg
    ·rw[if_neg e1]at z6 ⊢;exact h.rng u hu z6
   ·rw[z1 u hu.1,if_neg];intro e;subst e;omega
   ·rw[z1 s s0,if_pos rfl]
structure PsOk (a b:Aut) (chk:Int→Int→Bool) (ps:Int→Int→List (Int×Int)):Prop where
 chk:∀p q,inS a p→inS b q→(chk p q=true↔a.fin.getD p.toNat false=b.fin.getD q.toNat false∧∀x,Ew a x→(toL a p x<0↔toL b q x<0))
 from_:∀p q,inS a p→inS b q→∀e∈ps p q,∃x,Ew a x∧toL a p x=e.1∧toL b q x=e.2∧0≤e.1∧0≤e.2
 all:∀p q,inS a p→inS b q→∀x,Ew a x→0≤toL a p x→0≤toL b q x→(toL a p x,toL b q x)∈ps p q
theorem q0n{a b:Aut}(ha:OkA a)(hb:OkA b){p:Int}:∀(es:List (Int×Int)) (st:List Int×List Int) (q:Int),IsoI a b st→p∈st.2→fAt st.1 p=q→(∀e∈es,∃x,Ew a x∧toL a p x=e.1∧toL b q x=e.2∧0≤e.1∧0≤e.2)→
  (∃st',Wy es st=some st'∧IsoI a b st'∧(∀u,inS a u→0≤fAt st.1 u→fAt st'.1 u=fAt st.1 u)∧(∃r,st'.2=st.2++r)∧∀e∈es,fAt st'.1 e.1=e.2)∨(Wy es st=none∧¬ ∃g,IsoT a b g)
 |[],st,q,h,_,_,_=> .inl ⟨st,rfl,h,fun _ _ _=>rfl,⟨[],by simp⟩,by simp⟩
 |e::es,st,q,h,hp,hq,hes=>by
  obtain⟨x,hx,e1,e2,e3,e4⟩:=hes e (by simp);rcases h.one ha hb hp hx e1 (by rw[hq];exact e2) e3 e4 with⟨st1,g1,g2,g3,⟨r,g4⟩,g5⟩|⟨g1,g2⟩
  ·have z1:=(h.mem p).1 hp;have z6:p∈st1.2:=by rw[g4];exact xL _ hp
   have z7:fAt st1.1 p=q:=by rw[g3 p z1.1 z1.2];exact hq
   have z8:inS a e.1:=(N0 ha p x).elim (fun k=>by omega) (fun k=>by rw[←e1];exact k)
   rcases q0n ha hb es st1 q g2 z6 z7 (fun d hd=>hes d (by simp[hd]))with⟨st2,k1,k2,k3,⟨r2,k4⟩,k5⟩|⟨k1,k2⟩
   ·refine .inl ⟨st2,by rw[Wy];simp[g1,k1],k2,fun u hu h0=> ?_,⟨r++r2,by rw[k4,g4,wd]⟩,fun d hd=> ?_⟩
    ·have:=g3 u hu h0;rw[k3 u hu (by rw[this];exact h0),this]
    ·rcases yP.1 hd with rfl|hd
     ·rw[k3 d.1 z8 (by rw[g5];exact e4),g5]
     ·exact k5 d hd
   ·exact .inr ⟨by rw[Wy];simp[g1,k1],k2⟩
  ·exact .inr ⟨by rw[Wy];simp[g1],g2⟩
theorem g09{a b:Aut}(ha:OkA a)(hb:OkA b){chk:Int→Int→Bool}{ps:Int→Int→List (Int×Int)}(z1:PsOk a b chk ps):∀(f n:Nat) (st:List Int×List Int),a.fin.length+1≤n+f→n≤st.2.length→IsoI a b st→
  (∀(i:Nat) (p:Int),i<n→st.2[i]? =some p→chk p (fAt st.1 p)=true∧∀e∈ps p (fAt st.1 p),fAt st.1 e.1=e.2)→
  (∃g,Hy chk ps f n st=some g∧IsoT a b g)∨(Hy chk ps f n st=none∧¬ ∃g,IsoT a b g)
 |0,n,st,hf,hn,h,hp=>by
  have:st.2.length≤a.fin.length:=by have:=h.nd.length_le_of_subset (l₂:=Rt a.fin.length) fun c hc=>Ru.2 ((h.mem c).1 hc).1;simpa[Rt]using this
  omega
 |f+1,n,st,hf,hn,h,hp=>by
  unfold Hy;cases hon:st.2[n]? with
  |none=>
   have hlen:st.2.length≤n:=by simpa using hon
   have z6:∀s,inS a s→0≤fAt st.1 s→chk s (fAt st.1 s)=true∧∀e∈ps s (fAt st.1 s),fAt st.1 e.1=e.2:=fun s hs h0=>by obtain⟨i,hi⟩:=yR.1 ((h.mem s).2 ⟨hs,h0⟩);exact hp i s (by have:=Ey hi;omega) hi
   refine .inl ⟨st.1,rfl,h.len,h.zero,h.low,fun s hs h0=> ?_,fun s hs h0 x hx=> ?_,h.inj,h.reach⟩
   ·exact((z1.chk s _ hs (h.rng s hs h0)).1 (z6 s hs h0).1).1
   ·have h1:=((z1.chk s _ hs (h.rng s hs h0)).1 (z6 s hs h0).1).2 x hx;refine⟨h1,fun ze=> ?_⟩;have zb:0≤toL b (fAt st.1 s) x:=by
     rcases sk (toL b (fAt st.1 s) x) 0 with k|k
     ·have:=h1.2 k;omega
     ·exact k
    exact(z6 s hs h0).2 _ (z1.all s _ hs (h.rng s hs h0) x hx ze zb)
  |some p=>
   simp only;have zc:=zO hon;obtain⟨z7,za⟩:=(h.mem p).1 zc;have zd:=h.rng p z7 za;cases hc:chk p (fAt st.1 p)with
   |false=>rw[if_neg (by simp)];refine .inr ⟨rfl,?_⟩;rintro⟨g,hg⟩;have e:=h.agree ha hg z7 za;have h1:=hg.fin p z7 (by rw[e];exact za);have h2:=fun x hx=>(hg.step p z7 (by rw[e];exact za) x hx).1;rw[e]at h1 h2;rw[(z1.chk p _ z7 zd).2 ⟨h1,h2⟩]at hc;cases hc
   |true=>
    rw[if_pos rfl];rcases q0n ha hb (ps p (fAt st.1 p)) st _ h zc rfl (z1.from_ p _ z7 zd)with⟨st',g1,g2,g3,⟨r,g4⟩,g5⟩|⟨g1,g2⟩
    ·rw[g1];simp only[wB];have zh:=Ey hon;refine g09 ha hb z1 f (n+1) st' (by omega) (by rw[g4,yL];omega) g2 fun i u hi hu=> ?_;rw[g4,zI (by omega)]at hu;have z8:=(h.mem u).1 (zO hu);rw[g3 u z8.1 z8.2];by_cases e:i=n
     ·subst e;rw[hon]at hu;cases hu;exact⟨hc,g5⟩
     ·obtain⟨k1,k2⟩:=hp i u (by omega) hu;refine⟨k1,fun d hd=> ?_⟩;have zf:=h.rng u z8.1 z8.2;obtain⟨x,_,e1,_,e3,e4⟩:=z1.from_ u _ z8.1 zf d hd;have zg:inS a d.1:=(N0 ha u x).elim (fun k=>by omega) (fun k=>by rw[←e1];exact k)
      have:=k2 d hd;rw[g3 d.1 zg (by rw[this];exact e4),this]
    ·rw[g1];exact .inr ⟨rfl,g2⟩
theorem A9{a b:Aut}(ha:OkA a)(hb:OkA b):IsoI a b (A0 a):=by
 have hf:=ha.fin;have hz:inS a 0:=⟨xF _,by omega⟩
 have z1:∀u,0≤u→fAt (A0 a).1 u=if u=0 then 0 else -1:=fun u hu=>by
  have:=Mg (f:=yB a.fin.length (-1)) (s:=0) (t:=u) (q:=0) (xF _) hu (by simp;omega);simp only[A0];rw[show(0:Int).toNat=0 from rfl]at this;rw[this];split
  ·rfl
  ·unfold fAt;simp only[y_,List.getElem?_replicate];split<;>rfl
 refine⟨by simp[A0],by rw[z1 0 (xF _),if_pos rfl],fun q hq=> ?_,fun s=> ?_,by simp[A0],fun s t hs ht h0 e=> ?_,fun s hs h0=> ?_,fun s hs h0=> ?_⟩
 ·rcases wJ hq with hq|rfl
  ·rw[List.eq_of_mem_replicate hq];omega
  ·omega
 ·simp only[A0,z_];constructor
  ·rintro rfl;exact⟨hz,by have:=z1 0 (xF _);simp only[A0]at this;rw[this];simp⟩
  ·rintro⟨h1,h2⟩;have:=z1 s h1.1;simp only[A0]at this;rw[this]at h2;split at h2
   ·assumption
   ·omega
 ·rw[z1 s hs.1]at h0 e;rw[z1 t ht.1]at e;split at h0
  ·rename_i e1;rw[if_pos e1]at e;split at e
   ·rename_i e2;rw[e1,e2]
   ·omega
  ·omega
 ·rw[z1 s hs.1]at h0;split at h0
  ·rename_i e1;exact⟨[],by simp,by rw[e1];rfl,by rw[z1 s hs.1,if_pos e1];rfl⟩
  ·omega
 ·rw[z1 s hs.1]at h0 ⊢;split at h0
  ·rename_i e1;rw[if_pos e1];exact⟨xF _,by have:=hb.fin;omega⟩
  ·omega
theorem w13{a b:Aut}(ha:OkA a)(hb:OkA b){chk chk':Int→Int→Bool}{ps ps':Int→Int→List (Int×Int)}(h:PsOk a b chk ps)(h':PsOk a b chk' ps'):
  Hy chk ps (a.fin.length+1) 0 (A0 a)=Hy chk' ps' (a.fin.length+1) 0 (A0 a):=by
 have hi:=A9 ha hb;have h1:=g09 ha hb h (a.fin.length+1) 0 (A0 a) (by omega) (by simp) hi (fun i p hi=>by omega);have h2:=g09 ha hb h' (a.fin.length+1) 0 (A0 a) (by omega) (by simp) hi (fun i p hi=>by omega);rcases h1 with⟨f,e1,k1⟩|⟨e1,k1⟩
 ·rcases h2 with⟨g,e2,k2⟩|⟨e2,k2⟩
  ·rw[e1,e2,k1.uniq ha k2]
  ·exact absurd ⟨f,k1⟩ k2
 ·rcases h2 with⟨g,e2,k2⟩|⟨e2,k2⟩
  ·exact absurd ⟨g,k2⟩ k1
  ·rw[e1,e2]
end Go.Abs
namespace Go.Abs
def Jd:List Iv→List Iv→Option Int
 |x::l,y::m=>if max x.lo y.lo≤min x.hi y.hi then some (max x.lo y.lo)else if x.hi<y.hi then Jd l (y::m)else Jd (x::l) m
 |_,_=>none
termination_by l m=>l.length+m.length
theorem w0m(m:List Iv):Jd [] m=none:=by simp[Jd]
theorem Cw(x:Iv)(l:List Iv):Jd (x::l) []=none:=by simp[Jd]
theorem k02(x y:Iv)(l m:List Iv):Jd (x::l) (y::m)=if max x.lo y.lo≤min x.hi y.hi then some (max x.lo y.lo)else if x.hi<y.hi then Jd l (y::m)else Jd (x::l) m:=by rw[Jd]
theorem x15{x:Iv}{l:List Iv}(h:Sep (x::l)):∀n,M l n→x.hi<n:=by rintro n ⟨y,hy,h1,h2⟩;have:=(yZ.1 h.2).1 y hy;omega
theorem Ts{x:Iv}{l:List Iv}{n:Int}:M (x::l) n↔(x.lo≤n∧n≤x.hi)∨M l n:=by
 constructor
 ·rintro⟨y,hy,h⟩;rcases yP.1 hy with rfl|hy
  ·exact .inl h
  ·exact .inr ⟨y,hy,h⟩
 ·rintro(h|⟨y,hy,h⟩)
  ·exact⟨x,by simp,h⟩
  ·exact⟨y,by simp[hy],h⟩
theorem j0b{n:Int}:¬M [] n:=by rintro⟨y,hy,_⟩;cases hy
theorem q0e{x:Iv}{l:List Iv}(h:Sep (x::l)):Sep l:=⟨fun y hy=>h.1 y (by simp[hy]),(yZ.1 h.2).2⟩
theorem Gb(l m:List Iv)(hl:Sep l)(hm:Sep m):match Jd l m with|some n=>M l n∧M m n∧∀k,M l k→M m k→n≤k|none=>∀k,M l k→¬M m k:=by
 match l,m with
 |[],m=>rw[w0m];exact fun k h=>absurd h j0b
 |x::l,[]=>rw[Cw];exact fun k _ h=>absurd h j0b
 |x::l,y::m=>
  have hx:=hl.1 x (by simp);have hy:=hm.1 y (by simp);have sx:=x15 hl;have sy:=x15 hm;rw[Jd];by_cases h1:max x.lo y.lo≤min x.hi y.hi
  ·rw[if_pos h1];refine⟨Ts.2 (.inl (by omega)),Ts.2 (.inl (by omega)),fun k k1 k2=> ?_⟩;have:x.lo≤k:=by
    rcases Ts.1 k1 with h|h
    ·exact h.1
    ·have:=sx k h;omega
   have:y.lo≤k:=by
    rcases Ts.1 k2 with h|h
    ·exact h.1
    ·have:=sy k h;omega
   omega
  ·rw[if_neg h1];by_cases h2:x.hi<y.hi
   ·rw[if_pos h2];have ih:=Gb l (y::m) (q0e hl) hm;have z1:∀k,(x.lo≤k∧k≤x.hi)→¬M (y::m) k:=fun k h hk=>by
     rcases Ts.1 hk with h'|h'
     ·omega
     ·have:=sy k h';omega
    cases hc:Jd l (y::m)with
    |some n=>
     rw[hc]at ih;obtain⟨i1,i2,i3⟩:=ih;refine⟨Ts.2 (.inr i1),i2,fun k k1 k2=> ?_⟩;rcases Ts.1 k1 with h|h
     ·exact absurd k2 (z1 k h)
     ·exact i3 k h k2
    |none=>
     rw[hc]at ih;intro k k1 k2;rcases Ts.1 k1 with h|h
     ·exact z1 k h k2
     ·exact ih k h k2
   ·rw[if_neg h2];have ih:=Gb (x::l) m hl (q0e hm);have z1:∀k,(y.lo≤k∧k≤y.hi)→¬M (x::l) k:=fun k h hk=>by
     rcases Ts.1 hk with h'|h'
     ·omega
     ·have:=sx k h';omega
    cases hc:Jd (x::l) m with
    |some n=>
     rw[hc]at ih;obtain⟨i1,i2,i3⟩:=ih;refine⟨i1,Ts.2 (.inr i2),fun k k1 k2=> ?_⟩;rcases Ts.1 k2 with h|h
     ·exact absurd k1 (z1 k h)
     ·exact i3 k k1 h
    |none=>
     rw[hc]at ih;intro k k1 k2;rcases Ts.1 k2 with h|h
     ·exact z1 k h k1
     ·exact ih k k1 h
termination_by l.length+m.length
def lqB(p q:Prd):Nat→Nat→Option Sy
 |0,_=>none
 |f+1,t=>match Jd (p.getD t []) (q.getD t [])with
  |some n=>some ⟨t,n⟩
  |none=>lqB p q f (t+1)
def Ei(p q:Prd):Option Sy:=if Wi (Wc p q)then none else some (Qn (Wc p q))
theorem q0j{T:Nat}{p:Prd}(h:PWf T p)(t:Nat):Sep (p.getD t []):=by
 by_cases ht:t<p.length
 ·rw[Wq ht];exact(h.2 _ (zT ht)).1
 ·rw[show p.getD t []=[] by simp[y_,xI (by omega:p.length≤t)]];exact⟨by simp,by simp⟩
theorem A2{p:Prd}{t:Nat}{n:Int}:PM p t n↔M (p.getD t []) n:=by
 constructor
 ·rintro⟨s,hs,h⟩;simpa[y_,hs]using h
 ·intro h;by_cases ht:t<p.length
  ·rw[Wq ht]at h;exact⟨_,zP ht,h⟩
  ·rw[show p.getD t []=[] by simp[y_,xI (by omega:p.length≤t)]]at h;exact absurd h j0b
theorem w27{T:Nat}{p q:Prd}(hp:PWf T p)(hq:PWf T q):lqB p q T 0=Ei p q:=by
 have hw:=Tb hp hq.1;have key:∀(f t:Nat),t+f=T→(∀t' n,t'<t→¬PM (Wc p q) t' n)→lqB p q f t=Ei p q:=by
  intro f;induction f with
  |zero=>intro t ht z1;have:Wi (Wc p q)=true:=(Ro hw).2 fun t' n hm=>z1 t' n (by have:=(hw.lt hm).1;omega) hm;rw[lqB,Ei,if_pos this]
  |succ f ih=>
   intro t ht z1;have hs:=Gb _ _ (q0j hp t) (q0j hq t);rw[lqB];cases hc:Jd (p.getD t []) (q.getD t [])with
   |some n=>
    rw[hc]at hs;obtain⟨h1,h2,h3⟩:=hs;have hm:PM (Wc p q) t n:=(Ef hp.1 hq.1 t n).2 ⟨A2.2 h1,A2.2 h2⟩;have hv:Wi (Wc p q)=false:=(Tc hw).2 ⟨t,n,hm⟩;rw[Ei,if_neg (by rw[hv];simp)];obtain⟨g1,g2,g3⟩:=Un hw ⟨t,n,hm⟩;have z6:=hw.lt hm;show some (⟨(t:Int),n⟩:Sy)=some (Qn (Wc p q))
    congr 1
    rcases g3 ⟨t,n⟩ ⟨by simp,by simpa using z6.1,z6.2⟩ (by simpa using hm)with e|e
    ·exact e.symm
    ·exfalso;unfold sLt at e;simp only at e;have z8:=g1.1;by_cases hle:(Qn (Wc p q)).ty.toNat<t
     ·exact z1 _ _ hle g2
     ·have z7:(Qn (Wc p q)).ty=t:=by omega
      rw[z7]at g2;have:=(Ef hp.1 hq.1 t (Qn (Wc p q)).num).1 (by simpa using g2);have:=h3 _ (A2.1 this.1) (A2.1 this.2);omega
   |none=>
    rw[hc]at hs;refine ih (t+1) (by omega) fun t' n za hm=> ?_;by_cases e:t'=t
    ·subst e;have:=(Ef hp.1 hq.1 t' n).1 hm;exact hs n (A2.1 this.1) (A2.1 this.2)
    ·exact z1 t' n (by omega) hm
 exact key T 0 (by omega) (fun t' n h=>by omega)
theorem v0w{T:Nat}{p:Prd}(hp:PWf T p):Wc p p=p:=Ig (Tb hp hp.1) hp fun t n=>by rw[Ef hp.1 hp.1];simp
theorem B3{T:Nat}{p:Prd}(hp:PWf T p):Ei p p=if Wi p then none else some (Qn p):=by rw[Ei,v0w hp]
theorem w11(a b:Aut)(s:Int×Int):Wj a b s=(Wa a s.1).flatMap fun m=>(Wa b s.2).filterMap fun n=>(Ei m.on n.on).map fun x=>(x,(m.dst,n.dst)):=by
 unfold Wj Ei
 congr 1
 funext m
 congr 1
 funext n;split<;>simp
end Go.Abs
namespace Go.Abs
def Y6(a:Aut):Int:=if Wg a≠0 then Wg a else if O3 a=false∨Pd a=false then 3 else 0
theorem q0k(a:Aut):Y6 a=0↔Dfa a:=by
 unfold Y6;by_cases h:Wg a=0
 ·have z1:=(Ut a).1 h;rw[if_neg (fun k=>k h)];have h1:=Gd z1.wfA;have h2:Pd a=true↔v0g a:=by rw[←w0q z1.wfA,G8];unfold Pd;rw[yE];simp only[xJ];exact forall_congr' fun s=>forall_congr' fun _=>by rw[c0d z1.wfA]
  constructor
  ·intro k;split at k
   ·cases k
   ·rename_i hn;refine⟨z1,h1.1 ?_,h2.1 ?_⟩
    ·cases hs:O3 a
     ·exact absurd (.inl hs) hn
     ·rfl
    ·cases hs:Pd a
     ·exact absurd (.inr hs) hn
     ·rfl
  ·intro k;rw[if_neg];rintro(hs|hs)
   ·rw[h1.2 k.det]at hs;cases hs
   ·rw[h2.2 k.full]at hs;cases hs
 ·rw[if_pos h];exact⟨fun k=>absurd k h,fun k=>absurd ((Ut a).2 k.ok) h⟩
theorem v15{a:Aut}(h:OkA a):((A5 a).1=0∧(A5 a).2.fin.length=a.fin.length)↔Pd a=true:=by
 have z1:Wg a=0:=(Ut a).2 h;have hc:A5 a=P2 a:=by unfold A5;rw[if_neg (fun k=>k z1)]
 have h2:Pd a=true↔Rp a (Wx a)=[]:=by rw[G8];unfold Pd;rw[yE];simp only[xJ];exact forall_congr' fun s=>forall_congr' fun _=>by rw[c0d h.wfA]
 rw[hc,h2,P2];cases hn:Rp a (Wx a)with
 |nil=>simp
 |cons m l=>
  rw[if_neg (by simp)];unfold Z5;split
  ·simp
  ·simp[Ug]
end Go.Abs
namespace Go.Abs
open Go Go.Proofs Go.Maps Go.RowKit
theorem q2p(x y:Int):(if x<y then y else x)=max x y:=by omega
def u15:Option Int→AV
 |some n=> .tup [.i n,.bool true]
 |none=> .tup [.i 0,.bool false]
theorem y04(l m:List Iv)(hl:l.length≤1000000000)(hm:m.length≤1000000000):PC Tryz.prog 188 [LIv l,LIv m] (fun r=>r=u15 (Jd l m)):=by
 refine Ql tOk Tryz.func188 rfl Tryz.results188 rfl (by simp[Tryz.ntmps188]) ?_;rw[Tryz.ntmps188];simp only[Qg];obtain⟨R,hR⟩:∃R,Jd l m=R:=⟨_,rfl⟩
 rw[hR];repeat first|(refine r_ ?_;simp)|refine q_ ?_
 refine Qo (Qc (sl':=[(0,LIv l),(1,LIv m),(6,.i (0:Nat)),(7,.i (0:Nat))]) ?_ (by simp));refine Qp (F:=fun(u:Nat×Nat)=>⟨[(0,LIv l),(1,LIv m),(6,.i u.1),(7,.i u.2)],[]⟩)
  (fun u=>u.1≤l.length∧u.2≤m.length∧Jd (l.drop u.1) (m.drop u.2)=R) (fun u=>(l.length - u.1)+(m.length - u.2)) ?_ (0,0) ⟨wD _,wD _,by simpa using hR⟩
 rintro⟨i,k⟩ ⟨hi,hk,hI⟩ ih;simp only at hi hk hI ih ⊢;by_cases h1:i<l.length
 ·by_cases h2:k<m.length
  ·have hw:IntKind.i64.wrap ((i:Int)+1)=i+1:=wrap_i64 _ (by omega) (by omega);have z1:IntKind.i64.wrap ((k:Int)+1)=k+1:=wrap_i64 _ (by omega) (by omega);rw[wR h1,wR h2,k02]at hI;have e1:l[i]? =some l[i]:=zP h1;have e2:m[k]? =some m[k]:=zP h2;repeat first|(refine r_ ?_;simp[h1,h2])|refine q_ ?_
   refine Qa rfl (fun _=> ?_) (fun h=>by simp[h1,h2]at h);repeat first|(refine r_ ?_;simp)|refine q_ ?_
   refine Qk tOk mixed [] (.val 0 (.val 1 (.val 2 (.val 3 (.val 4 (.val 5 (.val 6 (.val 7 (.val 8 (.val 9 (.val 10 (.val 11 (.done))))))))))))) rfl (by kernel_rfl) ?_;simp[h1,h2];repeat first|(refine r_ ?_;simp)|refine q_ ?_
   refine Qk tOk mixed [] (.val 0 (.val 1 (.val 2 (.val 3 (.val 4 (.val 5 (.val 6 (.val 7 (.val 8 (.val 9 (.val 10 (.val 11 (.val 12 (.done)))))))))))))) rfl (by kernel_rfl) ?_;simp[h1,h2];refine Qa rfl (fun h=> ?_) (fun h=> ?_)
   ·have hle:max l[i].lo m[k].lo≤min l[i].hi m[k].hi:=by simp at h;omega
    rw[if_pos hle]at hI;rw[←hI];repeat first|(refine r_ ?_;simp)|refine q_ ?_
    rw[q2p];rfl
   ·have hle:¬max l[i].lo m[k].lo≤min l[i].hi m[k].hi:=by simp at h;omega
    rw[if_neg hle]at hI;repeat first|(refine r_ ?_;simp)|refine q_ ?_
    refine Qk tOk mixed [] (.val 0 (.val 1 (.val 2 (.val 3 (.val 4 (.val 5 (.val 6 (.val 7 (.val 8 (.val 9 (.val 10 (.done)))))))))))) rfl (by kernel_rfl) ?_;simp[h1,h2];refine Qa rfl (fun h=> ?_) (fun h=> ?_)
    ·rw[if_pos (by simpa using h)]at hI;repeat first|(refine r_ ?_;simp[hw])|refine q_ ?_
     refine Qc (sl':=[(0,LIv l),(1,LIv m),(6,.i (i+1:Nat)),(7,.i k)]) ?_ (by simp);exact ih (i+1,k) ⟨by omega,hk,by rw[wR h2];exact hI⟩ (by simp;omega)
    ·rw[if_neg (by simpa using h)]at hI;repeat first|(refine r_ ?_;simp[z1])|refine q_ ?_
     refine Qc (sl':=[(0,LIv l),(1,LIv m),(6,.i i),(7,.i (k+1:Nat))]) ?_ (by simp);exact ih (i,k+1) ⟨hi,by omega,by rw[wR h1];exact hI⟩ (by simp;omega)
  ·have h3:k=m.length:=by omega
   subst h3;repeat first|(refine r_ ?_;simp[h1])|refine q_ ?_
   refine Qa rfl (fun h=>by simp at h) (fun _=> ?_);repeat first|(refine r_ ?_;simp)|refine q_ ?_
   rw[ws,wR h1,Cw]at hI;rw[←hI];rfl
 ·have h3:i=l.length:=by omega
  subst h3;repeat first|(refine r_ ?_;simp)|refine q_ ?_
  refine Qa rfl (fun h=>by simp at h) (fun _=> ?_);repeat first|(refine r_ ?_;simp)|refine q_ ?_
  rw[ws,w0m]at hI;rw[←hI];rfl
def Nr:Option Sy→AV
 |some x=> .tup [encSy x,.bool true]
 |none=> .tup [encSy ⟨0,0⟩,.bool false]
theorem q1l(p q:Prd)(f t:Nat):lqB p q (f+1) t=match Jd (p.getD t []) (q.getD t [])with|some n=>some ⟨t,n⟩|none=>lqB p q f (t+1):=rfl
attribute [local irreducible] lqB Ei
theorem Ah(T:Nat)(p q:Prd)(hp:PWf T p)(hq:PWf T q)(z7:∀s∈p,s.length≤1000000000)(z8:∀s∈q,s.length≤1000000000)(hT:T≤1000):PC Tryz.prog 139 [encP p,encP q] (fun r=>r=Nr (Ei p q)):=by
 refine Ql tOk Tryz.func139 rfl Tryz.results139 rfl (by simp[Tryz.ntmps139]) ?_;rw[Tryz.ntmps139];simp only[Qg];simp only[encP];have zd:=hp.1;have ze:=hq.1;obtain⟨R,hR⟩:∃R,Ei p q=R:=⟨_,rfl⟩
 rw[hR];rw[←w27 hp hq]at hR;repeat first|(refine r_ ?_;simp)|refine q_ ?_
 refine Qu p.length (fun i=>lqB p q (T - i) i=R) (fun i=>[(2,.vptr 0 0),(3,.vptr 1 0),(4,.vptr 2 0),(11,.i p.length),(12,.i i)]) (fun _=>[.vars [.list (p.map encL)],.vars [.list (q.map encL)],.vars [.i 0,.i 0]]) rfl (by simp) (by simp) (by simp) (by simp) (by simpa using hR) ?_;intro i hi hI ih;repeat first|(refine r_ ?_;simp)|refine q_ ?_
 refine Qa rfl (fun za=> ?_) (fun zb=> ?_)
 ·have z1:i<p.length:=by simpa using za
  have z6:i<q.length:=by omega
  have hw:IntKind.i64.wrap ((i:Int)+1)=i+1:=wrap_i64 _ (by omega) (by omega);rw[show T - i=(T - (i+1))+1 by omega,q1l,Wq z1,Wq z6]at hI;repeat first|(refine r_ ?_;simp)|refine q_ ?_
  refine Qk tOk mixed [] (.val 0 (.val 1 (.val 2 (.val 3 (.val 4 (.val 5 (.val 6 (.val 7 (.val 8 (.val 9 (.one 10 (.val 11 (.val 12 (.val 13 (.val 14 (.val 15 (.done))))))))))))))))) rfl (by kernel_rfl) ?_;simp[z1,z6];refine Qe rfl rfl (by simp) (y04 p[i] q[i] (z7 _ (zT z1)) (z8 _ (zT z6))) rfl ?_;rintro _ rfl;simp;cases hc:Jd p[i] q[i]with
  |some n=>
   rw[hc]at hI;simp[u15];repeat first|(refine r_ ?_;simp)|refine q_ ?_
   refine Qm rfl ?_;repeat first|(refine r_ ?_;simp)|refine q_ ?_
   rw[←hI];rfl
  |none=>
   rw[hc]at hI;simp[u15];repeat first|(refine r_ ?_;simp)|refine q_ ?_
   refine Qm rfl ?_;repeat first|(refine r_ ?_;simp[hw])|refine q_ ?_
   refine Qs _ (ih z1 hI) rfl (by simp) ?_ (by simp) (by simp);simp
 ·have zc:i=p.length:=by simp at zb;omega
  subst zc;repeat first|(refine r_ ?_;simp)|refine q_ ?_
  rw[show T - p.length=0 by omega]at hI;rw[←hI];unfold lqB;rfl
theorem Jy(x y:Sy):PC Tryz.prog 148 [encSy x,encSy y] (fun r=>r= .bool (Zl x y)):=by
 refine Ql tOk Tryz.func148 rfl Tryz.results148 rfl (by simp[Tryz.ntmps148]) ?_;rw[Tryz.ntmps148];simp only[Qg];simp only[encSy,Zl];by_cases h1:x.ty<y.ty
 ·repeat first|(refine r_ ?_;simp[h1])|refine q_ ?_
 ·by_cases h2:x.ty=y.ty
  ·repeat first|(refine r_ ?_;simp[h1,h2])|refine q_ ?_
  ·have hb:(x.ty==y.ty)=false:=by simpa using h2
   repeat first|(refine r_ ?_;simp[h1,h2,hb])|refine q_ ?_
theorem u0a(a:Aut)(i:Int):PC Tryz.prog 88 [encA a,.i i] (fun r=>r= .bool (decide (0≤i) && decide (i<a.fin.length))):=by
 refine Ql tOk Tryz.func88 rfl Tryz.results88 rfl (by simp[Tryz.ntmps88]) ?_;rw[Tryz.ntmps88];simp only[Qg];simp only[encA];by_cases h1:0≤i
 ·repeat first|(refine r_ ?_;simp[h1])|refine q_ ?_
 ·repeat first|(refine r_ ?_;simp[h1])|refine q_ ?_
end Go.Abs
namespace Go.Abs
open Go Go.Proofs Go.Maps Go.RowKit
attribute [local irreducible] Pd O3 Wg A5 c0p
theorem q0u(a:Aut):PC Tryz.prog 84 [encA a] (fun r=>r= .i (Y6 a)):=by
 refine Ql tOk Tryz.func84 rfl Tryz.results84 rfl (by simp[Tryz.ntmps84]) ?_;rw[Tryz.ntmps84];simp only[Qg];simp only[encA];repeat first|(refine r_ ?_;simp)|refine q_ ?_
 refine Qe rfl rfl (by simp) (Yh a) rfl ?_;rintro _ rfl;simp;repeat first|(refine r_ ?_;simp)|refine q_ ?_
 refine Qa rfl (fun h=> ?_) (fun h=> ?_)
 ·repeat first|(refine r_ ?_;simp)|refine q_ ?_
  rw[Y6,if_pos (by simpa using h)]
 have h0:Wg a=0:=by simpa using h
 have z6:=(Ut a).1 h0;rw[Y6,if_neg (fun k=>k h0)];have hd:c0p a=(O3 a,0):=by unfold c0p;rw[if_pos h0]
 repeat first|(refine r_ ?_;simp)|refine q_ ?_
 refine Qe rfl rfl (by simp) (j0y a) rfl ?_;rintro _ rfl;simp[hd];cases hs:O3 a with
 |false=>
  repeat first|(refine r_ ?_;simp[hs])|refine q_ ?_
  refine Qm rfl ?_;repeat (first|(refine r_ ?_;simp)|refine q_ ?_)
 |true=>
  repeat first|(refine r_ ?_;simp[hs])|refine q_ ?_
  refine Qm rfl ?_;repeat first|(refine r_ ?_;simp)|refine q_ ?_
  refine Qe rfl rfl (by simp) (F2 a) rfl ?_;rintro _ rfl;simp;have z1:=v15 z6;generalize A5 a=c at *
  by_cases he:c.1=0
  ·by_cases hl:c.2.fin.length=a.fin.length
   ·rw[z1.1 ⟨he,hl⟩];repeat first|(refine r_ ?_;simp[he,hl])|refine q_ ?_
    refine Qm rfl ?_;repeat first|(refine r_ ?_;simp)|refine q_ ?_
   ·have hf:Pd a=false:=by
     cases hf:Pd a
     ·rfl
     ·exact absurd (z1.2 hf).2 hl
    have z7:((c.2.fin.length:Int) != a.fin.length)=true:=by simp;omega
    have z8:¬(c.2.fin.length:Int)=a.fin.length:=by omega
    rw[hf];repeat first|(refine r_ ?_;simp[he,z7,z8,hl])|refine q_ ?_
    refine Qm rfl ?_;repeat first|(refine r_ ?_;simp)|refine q_ ?_
  ·have hf:Pd a=false:=by
    cases hf:Pd a
    ·rfl
    ·exact absurd (z1.2 hf).1 he
   have za:(c.1 != 0)=true:=by simpa using he
   rw[hf];repeat first|(refine r_ ?_;simp[za])|refine q_ ?_
   refine Qm rfl ?_;repeat first|(refine r_ ?_;simp)|refine q_ ?_
end Go.Abs
