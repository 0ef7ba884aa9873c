/- Part Pg of the proof: an abstract machine over the model, and what the functions of the program hand back in its terms. No condition. -/
import Derived.Test.YteghceocnldccaaGreatDoorPf
import Derived.Test.YteghceocnldccaaGreatDoorPe
set_option linter.all false
set_option linter.unusedSimpArgs false
set_option maxRecDepth 100000
namespace Go.Abs
open Go Go.Proofs Go.Maps
attribute [simp] T94 T88
abbrev LQ (Q:List (List Int)):List AV:=Q.map fun l=>LI l
structure TB (r p m:Nat) (a:Aut) (cl:List Prd) (Q:List (List Int)) (H:List AObj):Prop where
 t:H[r]? =some (.vars [.i a.types,.list (a.fin.map .bool),.list (a.mv.map encMv),LP cl,.sl p 1 0 Q.length,.mref m])
 s:H[p]? =some (.arr 40 1 (LQ Q))
 n:H[m]? =some (mpT (Q.map Ra))
def Pp (x:List Int):Prop:=x≠[]∧x.length≤256∧∀z∈x,0≤z∧z≤1000000
def y0o (Q:List (List Int)) (x:List Int):List (List Int):=if x∈Q then Q else Q++[x]
theorem TB.keep {r p m:Nat} {a:Aut} {cl:List Prd} {Q:List (List Int)} {H H':List AObj} (h:TB r p m a cl Q H) (hk:∀j,(j=r∨j=p∨j=m)→H'[j]? =H[j]?):TB r p m a cl Q H':=
 ⟨(hk r (.inl rfl)).trans h.t,(hk p (.inr (.inl rfl))).trans h.s,(hk m (.inr (.inr rfl))).trans h.n⟩
theorem TB.ne {r p m:Nat} {a:Aut} {cl:List Prd} {Q:List (List Int)} {H:List AObj} (h:TB r p m a cl Q H):r≠p∧r≠m∧p≠m:=by
 refine ⟨fun e=> ?_,fun e=> ?_,fun e=> ?_⟩
 ·have h1:=h.t;rw [e,h.s] at h1;simp at h1
 ·have h1:=h.t;rw [e,h.n,Ej] at h1;simp at h1
 ·have h1:=h.s;rw [e,h.n,Ej] at h1;simp at h1
theorem Pp.rng {x:List Int} (h:Pp x):∀z∈x,-9223372036854775808≤z∧z≤9223372036854775807:=fun z hz=>by have:=h.2.2 z hz;omega
theorem D4 {x:List Int} (h:Pp x):(Ra x).length≤1000000:=by
 have:=Bq h.rng
 have:=h.2.1
 omega
theorem g1l {x:List Int} {Q:List (List Int)} (hQ:∀l∈Q,Pp l) (hx:Pp x):Ra x∈Q.map Ra↔x∈Q:=by
 refine ⟨fun h=> ?_,fun h=>List.mem_map.2 ⟨x,h,rfl⟩⟩
 obtain ⟨l,hl,e⟩:=List.mem_map.1 h
 rw [←Kp (fun z hz=>((hQ l hl).2.2 z hz).1) (fun z hz=>(hx.2.2 z hz).1) e]
 exact hl
attribute [local irreducible] mpT Ra
set_option maxHeartbeats 4000000 in
theorem Vm (H:List AObj) (r p m:Nat) (a:Aut) (cl:List Prd) (Q:List (List Int)) (x:List Int) (h:TB r p m a cl Q H) (hx:Pp x) (hQ:∀l∈Q,Pp l) (zg:Q.length≤100000):
  FC Tryz.prog 57 [.vptr r 0,LI x] H (fun res H'=>∃(j p':Nat),res= .i j∧(y0o Q x)[j]? =some x∧TB r p' m a cl (y0o Q x) H'∧(p'=p∨H.length≤p')∧H.length≤H'.length∧(x∈Q→H'=H)∧∀i,i<H.length→i≠r→i≠p→i≠m→H'[i]? =H[i]?):=by
 refine Wt tOk Tryz.func57 rfl Tryz.results57 rfl (by simp [Tryz.ntmps57]) ?_
 rw [Tryz.ntmps57];simp only [Qf]
 repeat first|((first|refine ra ?_|refine rb ?_|refine rh ?_);simp)|refine qf ?_|refine qg ?_
 refine Qe rfl rfl (by simp) (v14 x hx.rng (by have:=hx.2.1;omega) hx.1) rfl ?_
 rintro _ rfl
 simp
 have ht:=h.t
 have hn:=h.n
 have hs:=h.s
 obtain ⟨n1,n2,n3⟩:=h.ne
 repeat first|((first|refine ra ?_|refine rb ?_|refine rh ?_);simp [ht])|refine qf ?_|refine qg ?_
 have z8:∀k∈Q.map Ra,k.length≤1000000:=fun k hk=>by
  obtain ⟨l,hl,rfl⟩:=List.mem_map.1 hk
  exact D4 (hQ l hl)
 refine Gv (n:=Ra x) rfl rfl rfl rfl rfl hn z8 (D4 hx) (fun j hj=> ?_) (fun za=> ?_)
 ·have zb:Q[j]? =some x:=by
   rw [List.getElem?_map] at hj
   obtain ⟨l,hl,e⟩:=Option.map_eq_some_iff.1 hj
   rw [←Kp (fun z hz=>((hQ l (List.mem_of_getElem? hl)).2.2 z hz).1) (fun z hz=>(hx.2.2 z hz).1) e]
   exact hl
  have z1:y0o Q x=Q:=by rw [y0o,if_pos (List.mem_of_getElem? zb)]
  rw [z1]
  simp
  repeat first|((first|refine ra ?_|refine rb ?_|refine rh ?_);simp)|refine qf ?_|refine qg ?_
  refine Qj rfl ?_
  simp
  repeat first|((first|refine ra ?_|refine rb ?_|refine rh ?_);simp)|refine qf ?_|refine qg ?_
  exact ⟨j,rfl,zb,p,h,.inl rfl⟩
 ·have zc:x∉Q:=fun hm=>za ((g1l hQ hx).2 hm)
  have z1:y0o Q x=Q++[x]:=by rw [y0o,if_neg zc]
  rw [z1]
  have ze:(Q.map Ra).length=Q.length:=by simp
  simp
  repeat first|((first|refine ra ?_|refine rb ?_|refine rh ?_);simp)|refine qf ?_|refine qg ?_
  refine Qj rfl ?_
  simp
  repeat first|((first|refine ra ?_|refine rb ?_|refine rh ?_);simp [ht])|refine qf ?_|refine qg ?_
  refine Jz (n:=Ra x) rfl rfl rfl rfl rfl (ks:=Q.map Ra) (by rw [ze];rfl) hn z8 (D4 hx) za ?_
  simp
  have z6:=Qd (Ne.symm n2) ht (mpT (Q.map Ra++[Ra x]))
  have z7:=Qd (Ne.symm n3) hs (mpT (Q.map Ra++[Ra x]))
  have zd:=Qi hn (mpT (Q.map Ra++[Ra x]))
  have zf:∀i,i≠m→(H.set m (mpT (Q.map Ra++[Ra x])))[i]? =H[i]? :=fun i hi=>List.getElem?_set_ne (Ne.symm hi)
  have zh:(H.set m (mpT (Q.map Ra++[Ra x]))).length=H.length:=by simp
  generalize H.set m (mpT (Q.map Ra++[Ra x]))=G at *
  repeat first|((first|refine ra ?_|refine rb ?_|refine rh ?_);simp [z6])|refine qf ?_|refine qg ?_
  have g1:∀L,(G.set p .dead++L)[r]? =some (.vars [.i a.types,.list (a.fin.map .bool),.list (a.mv.map encMv),LP cl,.sl p 1 0 Q.length,.mref m]):=fun L=>Qa (Qd (Ne.symm n1) z6 _) L
  refine Qh tOk rfl rfl T28 rfl T40 rfl (by decide) (by decide) rfl rfl rfl ?_
  simp [Qa z7,Qk z7,Qa z6,g1]
  refine ⟨by simp [W2,Qa z7,Qk z7,Qa z6,g1]<;>omega,?_⟩
  repeat first|((first|refine ra ?_|refine rb ?_|refine rh ?_);simp [g1])|refine qf ?_|refine qg ?_
  have zi:=Qg z6
  have zj:=Qg z7
  have zk:=Qg zd
  refine ⟨Q.length,rfl,by simp,G.length+1,⟨?_,?_,?_⟩,.inr (by omega),by omega,fun h=>absurd h zc,fun i hi h1 h2 h3=> ?_⟩
  ·rw [List.getElem?_set_self (by simp;omega)];simp
  ·rw [List.getElem?_set_ne (by omega),List.getElem?_append_right (by simp)];simp [LQ]
  ·rw [List.getElem?_set_ne n2,List.getElem?_append_left (by simp;omega),List.getElem?_set_ne n3,zd];simp
  ·rw [List.getElem?_set_ne (Ne.symm h1),List.getElem?_append_left (by simp;omega),List.getElem?_set_ne (Ne.symm h2)]
   exact zf i h3
end Go.Abs
namespace Go.Abs
open Go Go.Proofs Go.Maps
theorem O6 (H:List AObj) (r:Nat) (x:List Int):FC Tryz.prog 56 [.vptr r 0,LI x] H (fun res H'=>res= .fn (.func 120) [] [.vptr H.length 0,.vptr (H.length+1) 0]∧H'=H++[.vars [.vptr r 0],.vars [LI x]]):=by
 refine Wt tOk Tryz.func56 rfl Tryz.results56 rfl (by simp [Tryz.ntmps56]) ?_
 rw [Tryz.ntmps56];simp only [Qf]
 repeat first|((first|refine ra ?_|refine rb ?_|refine rh ?_);simp)|refine qf ?_|refine qg ?_
attribute [local irreducible] Q5 Ql
set_option maxHeartbeats 4000000 in
theorem N8 (a:Aut) (ha:OkA a) (cl:List Prd) (set:List Int) (zg:∀c∈cl,Gz [c]=0∧Wp c=false∧Eg a (Ql c)) (zn:cl.length≤256) (q c1 c2 r:Nat) {z7:Nat} {sl':List (Nat×AV)} {ps:List Tmp} {asg body:Code} (zh:ps.length=2) (zi:(ps.all fun p=>decide (p<z7))=true)
  (Inv:Nat→List AObj→Prop)
  (hI:∀k H,Inv k H→H[q]? =some (.lp true none z7 sl' ps asg body)∧H[c1]? =some (.vars [.vptr r 0])∧H[c2]? =some (.vars [LI set])∧∃rest,H[r]? =some (.vars (.i a.types:: .list (a.fin.map .bool):: .list (a.mv.map encMv)::LP cl::rest)))
  (z8:∀k H L,Inv k H→Inv k (H++L))
  (za:∀k c H,cl[k]? =some c→Q5 a set (Ql c)=[]→Inv k H→Inv (k+1) H)
  (z1:∀k c H,cl[k]? =some c→Q5 a set (Ql c)≠[]→Inv k H→AWP Tryz.prog z7 H.length asg (Ap (AWP Tryz.prog z7 H.length body (v0w q (fun jm K2=>jm=none∧Inv (k+1) (K2.set q (.lp true none z7 sl' ps asg body))))) (fun _ _=>False)) ⟨Tj sl' ps [encP c,LI (Q5 a set (Ql c))],H.set q .dead⟩)
  (H0:List AObj) (h0:Inv 0 H0):FC Tryz.prog 120 [.yld q,.vptr c1 0,.vptr c2 0] H0 (fun _ H'=>Inv cl.length H'):=by
 refine Wt tOk Tryz.func120 rfl Tryz.results120 rfl (by simp [Tryz.ntmps120]) ?_
 rw [Tryz.ntmps120];simp only [Qf]
 obtain ⟨i1,i2,i3,rest,i4⟩:=hI 0 H0 h0
 repeat first|((first|refine ra ?_|refine rb ?_|refine rh ?_);simp [i2,i4])|refine qf ?_|refine qg ?_
 refine Qq (Qc (sl':=[(0,.yld q),(1,.vptr c1 0),(2,.vptr c2 0),(12,LP cl),(13,.i cl.length),(14,.i (0:Nat))]) ?_ (by simp))
 clear i1 i2 i3 i4;clear rest;refine Qp (F:=fun (u:Nat×List AObj)=>⟨[(0,.yld q),(1,.vptr c1 0),(2,.vptr c2 0),(12,LP cl),(13,.i cl.length),(14,.i u.1)],u.2⟩)
  (fun u=>u.1≤cl.length∧Inv u.1 u.2) (fun u=>cl.length - u.1) ?_ (0,H0) ⟨by simp,h0⟩
 rintro ⟨k,H⟩ ⟨hk,hv⟩ ih
 simp only at hk hv ih ⊢
 repeat first|((first|refine ra ?_|refine rb ?_|refine rh ?_);simp)|refine qf ?_|refine qg ?_
 refine Qb rfl (fun zj=> ?_) (fun zk=> ?_)
 ·have z6:k<cl.length:=by simpa using zj
  have hw:IntKind.i64.wrap ((k:Int)+1)=k+1:=wrap_i64 _ (by omega) (by omega)
  have zc:=zg _ (List.getElem_mem z6)
  have zb:cl[k]? =some cl[k]:=List.getElem?_eq_getElem z6
  repeat first|((first|refine ra ?_|refine rb ?_|refine rh ?_);simp [z6])|refine qf ?_|refine qg ?_
  generalize cl[k]=c at *;refine Qe rfl rfl (by simp) (w0y c zc.1 zc.2.1) rfl ?_
  rintro _ rfl
  simp
  repeat first|((first|refine ra ?_|refine rb ?_|refine rh ?_);simp)|refine qf ?_|refine qg ?_
  have zd:=z8 k H [.vars [.list (c.map encL)],.vars [.i (Ql c).ty,.i (Ql c).num]] hv
  obtain ⟨i1,i2,i3,rest,i4⟩:=hI k _ zd
  have h6:(H++[AObj.vars [.list (c.map encL)],.vars [.i (Ql c).ty,.i (Ql c).num]])[H.length+1]? =some (.vars [.i (Ql c).ty,.i (Ql c).num]):=by rw [List.getElem?_append_right (by omega)];simp
  have h5:(H++[AObj.vars [.list (c.map encL)],.vars [.i (Ql c).ty,.i (Ql c).num]])[H.length]? =some (.vars [.list (c.map encL)]):=by rw [List.getElem?_append_right (by omega)];simp
  generalize H++[AObj.vars [.list (c.map encL)],.vars [.i (Ql c).ty,.i (Ql c).num]]=G at *;refine Qo tOk mixed [] (.val 0 (.val 1 (.val 2 (.val 3 (.val 4 (.val 5 (.one 6 (.val 7 (.done))))))))) rfl (by kernel_rfl) ?_
  simp [i2,i3,i4,h6]
  refine Qe rfl rfl (by simp) (Sj a ha set (Ql c) zc.2.2) rfl ?_
  rintro _ rfl
  simp
  have hlen:=J9 ha set (Ql c)
  have zl:=za k c G zb
  have zm:=z1 k c G zb
  generalize Q5 a set (Ql c)=nx at *
  by_cases hnx:nx=[]
  ·subst hnx
   repeat first|((first|refine ra ?_|refine rb ?_|refine rh ?_);simp [h5])|refine qf ?_|refine qg ?_
   refine Wd rfl rfl ?_
   simp
   repeat first|((first|refine ra ?_|refine rb ?_|refine rh ?_);simp)|refine qf ?_|refine qg ?_
   refine Qb rfl (fun h=>by cases h) (fun _=> ?_)
   repeat first|((first|refine ra ?_|refine rb ?_|refine rh ?_);simp [hw])|refine qf ?_|refine qg ?_
   refine Qc (sl':=[(0,.yld q),(1,.vptr c1 0),(2,.vptr c2 0),(12,LP cl),(13,.i cl.length),(14,.i (k+1:Nat))]) ?_ (by simp)
   exact ih (k+1,G) ⟨by omega,zl rfl zd⟩ (by omega)
  ·have ze:0<nx.length:=List.length_pos_iff.2 hnx
   repeat first|((first|refine ra ?_|refine rb ?_|refine rh ?_);simp [h5,ze])|refine qf ?_|refine qg ?_
   refine Oz rfl rfl (q:=q) rfl rfl i1 zh zi rfl (fun jm K2=>jm=none∧Inv (k+1) (K2.set q (.lp true none z7 sl' ps asg body))) ?_ ?_
   ·exact zm hnx zd
   ·rintro jm K2 ⟨rfl,hK⟩
    simp
    repeat first|((first|refine ra ?_|refine rb ?_|refine rh ?_);simp)|refine qf ?_|refine qg ?_
    refine Qb rfl (fun h=>by cases h) (fun _=> ?_)
    repeat first|((first|refine ra ?_|refine rb ?_|refine rh ?_);simp [hw])|refine qf ?_|refine qg ?_
    refine Qc (sl':=[(0,.yld q),(1,.vptr c1 0),(2,.vptr c2 0),(12,LP cl),(13,.i cl.length),(14,.i (k+1:Nat))]) ?_ (by simp)
    exact ih (k+1,_) ⟨by omega,hK⟩ (by omega)
 ·have zf:k=cl.length:=by simp at zk;omega
  subst zf
  repeat first|((first|refine ra ?_|refine rb ?_|refine rh ?_);simp)|refine qf ?_|refine qg ?_
  exact hv
end Go.Abs
namespace Go.Abs
open Go Go.Proofs Go.Maps Go.RowKit
section
variable {P:Program} [Env P] {T:TT} {nt k:Nat} {S:AS} {ops:Array Oper} {o:Oper} {R:AS→Prop} {Q:Exit→AS→Prop}
theorem Lw {wr:Bool} {sl:List (Nat×AV)} {H:List AObj} (i j e sz:Nat) {xs:List AV} (hi:H[i]? =some (.vars xs)) (hj:xs[j]? =some .nils)
  (h:Wq P nt k wr ops o ⟨sl,(H++[AObj.arr e sz []]).set i (.vars (xs.set j (.sl H.length sz 0 0)))⟩ R):Wq P nt k wr ops o ⟨sl,H⟩ R:=fun C a w K Q' hs=>by
 obtain ⟨I,m,hw,z1,hk,hf⟩:=hs
 obtain ⟨g1,g2⟩:=hw.push (Below.refl _ _) none (fun b e=>by cases e) (.arr e sz []) (fun m' _ _=> .inl ⟨rfl,rfl⟩)
 have z8:i<H.length:=(List.getElem?_eq_some_iff.1 hi).1
 have z6:(H++[AObj.arr e sz []])[i]? =some (.vars xs):=by rw [List.getElem?_append_left z8];exact hi
 obtain ⟨b,t,vs,hb,hh,za,hr⟩:=g1.obj i _ z6
 obtain ⟨g3,g4⟩:=g1.set (w':=w) (o':= .vars (xs.set j (.sl H.length sz 0 0))) z6 rfl hb (World.grownBy.refl _ _) (fun _ h=>h) (fun m' z7=>⟨b,t,vs,rfl,hh,by simp [za],fun q v x hv hx=>by
  by_cases hq:j=q
  ·subst hq;rw [List.getElem?_set_self (List.getElem?_eq_some_iff.1 hj).1] at hx
   cases hx
   have:=(hr j v _ hv hj).nils_inv
   subst this;exact .slnone H.length sz (by simp) (by rw [z7.ids _ (by simp)];exact Wa ..)
  ·rw [List.getElem?_set_ne hq] at hx;exact (hr q v x hv hx).mono z7 (Nat.le_refl _)⟩)
 have hlen:((H++[AObj.arr e sz []]).set i (.vars (xs.set j (.sl H.length sz 0 0)))).length=H.length+1:=by simp
 refine h C a w K Q' ⟨I,upd m H.length none,g3,⟨z1.1,z1.2.1,fun s x hx=> ?_⟩,by simp at hk ⊢;omega,hf.trans hk g2⟩
 obtain ⟨v,hv,zb⟩:=z1.2.2 s x hx
 refine ⟨v,hv,?_⟩
 have:=zb.mono (n':=H.length+1) g2 (by simp)
 rw [hlen];exact this
end
theorem L8 {a:Aut} (h:OkA a) (hm:(Rb a.types (onA a)).1=0):∃cl,Rb a.types (onA a)=(0,cl)∧Cls a cl∧cl.length≤256∧∀c∈cl,Gz [c]=0∧Wp c=false∧Eg a (Ql c)∧PWf a.types.toNat c∧∀s∈c,s.length≤256:=by
 have hc:=z19 h
 have za:a.mv.map (·.on)=onA a:=rfl
 rw [za] at hc
 have z7:=N5 h
 have zb:=x0i a.types (onA a)
 rcases f0e h.types z7 with h5|h5
 ·omega
 ·refine ⟨_,h5,hc,?_⟩
  have hb:A5 (Q8 a.types.toNat (onA a))=false:=by
   cases hb:A5 (Q8 a.types.toNat (onA a)) with
   |false=>rfl
   |true=>
    rw [←zb,x0m] at hm;rw [if_neg (by have:=h.types;omega)] at hm
    have hl:(onA a).length≤256:=by
     by_cases hl:256<(onA a).length
     ·rw [if_pos hl] at hm;simp at hm
     ·omega
    rw [if_neg (by omega),if_neg (fun k=>k ((U1 _).2 fun p hp=>(Ec _ p).2 ⟨h.types,z7 p hp⟩)),hb] at hm
    simp at hm
  simp only [A5,Bool.or_eq_false_iff,decide_eq_false_iff_not,List.any_eq_false,decide_eq_true_eq] at hb;refine ⟨by omega,fun c z1=> ?_⟩
  have hw:=hc.wf c z1
  have z8:∀s∈c,s.length≤256:=fun s hs=>by
   have:=hb.2 c z1
   simp only [Bool.not_eq_true,List.any_eq_false,decide_eq_true_eq] at this
   have:=this s hs;omega
  have z6:El a.types c=0:=(Ec _ c).2 ⟨h.types,hw.1.1,fun s hs=>F3 (hw.1.2 s hs).1 (N9 (hw.1.2 s hs).1 (hw.1.2 s hs).2) (by have:=z8 s hs;omega)⟩
  refine ⟨(z1q z6).1,?_,c0z hc z1,hw.1,z8⟩;rw [Bool.eq_false_iff];intro hv
  obtain ⟨ty,y,hy⟩:=hw.2
  exact (Rs hw.1).1 hv ty y hy
theorem c0d (a:Aut) (k:Nat) (h:k<a.mv.length):(onA a).take (k+1)=(onA a).take k++[a.mv[k].on]:=by
 rw [List.take_succ_eq_append_getElem (by simpa [onA] using h)];simp [onA]
theorem Kl (a:Aut):(onA a).length=a.mv.length:=by simp [onA]
theorem Za:∀(xs:List (List Int)) (Q:List (List Int)),(Wz Q xs).length≤Q.length+xs.length
 |[],Q=>by simp [Wz]
 |x::xs,Q=>by
  have h:=Za xs (G5 Q x)
  have e:Wz Q (x::xs)=Wz (G5 Q x) xs:=rfl
  have h2:(G5 Q x).length≤Q.length+1:=by
   unfold G5;split<;>simp
  rw [e,List.length_cons];omega
theorem M3 {a:Aut} (z1:OkA a) {Q:List (List Int)} (hQ:∀l∈Q,Pp l) (z8:Q.length≤256) {cl:List Prd} (za:cl.length≤256) {l:List Int} (k:Nat):
  (∀y∈Wz Q ((Rm a cl l).take k),Pp y)∧(Wz Q ((Rm a cl l).take k)).length≤600:=by
 have hlen:=Za ((Rm a cl l).take k) Q
 have z6:(Rm a cl l).length=cl.length:=by simp [Rm]
 rw [List.length_take,z6] at hlen;refine ⟨fun y hy=> ?_,by omega⟩
 obtain ⟨R,hR,z7⟩:=Yq ((Rm a cl l).take k) Q
 rw [hR] at hy
 rcases List.mem_append.1 hy with hy|hy
 ·exact hQ y hy
 ·obtain ⟨h1,h2⟩:=z7 y hy
  obtain ⟨c,_,rfl⟩:=List.mem_map.1 (List.mem_of_mem_take h1)
  have:=z1.fin
  exact ⟨h2,J9 z1 _ _,fun z hz=>by have:=Po z hz;omega⟩
theorem Jx (Q xs:List (List Int)) (x:List Int):Wz Q (xs++[x])=G5 (Wz Q xs) x:=by unfold Wz;rw [List.foldl_append];rfl
theorem g02 {Q:List (List Int)} {x:List Int} (h:x≠[]):G5 Q x=y0o Q x:=by
 unfold G5 y0o
 by_cases hx:x∈Q
 ·rw [if_pos (.inr hx),if_pos hx]
 ·rw [if_neg (by simp [h,hx]),if_neg hx]
theorem w10 (Q:List (List Int)):G5 Q []=Q:=by unfold G5;simp
attribute [local irreducible] Q5 Ql Rb onA mpT Ra
set_option maxHeartbeats 8000000 in
theorem q0x (H:List AObj) (a:Aut):FC Tryz.prog 50 [encA a] H (fun res H'=>(∀j,j<H.length→H'[j]? =H[j]?)∧(((Iw a).1≠0∧res= .tup [.nilp,.i (Iw a).1])∨
  ((Iw a).1=0∧∃r p m,res= .tup [.vptr r 0,.i 0]∧TB r p m a (Iw a).2.1 (Iw a).2.2 H'∧H.length≤r∧H.length≤p∧H.length≤m))):=by
 refine Wt tOk Tryz.func50 rfl Tryz.results50 rfl (by simp [Tryz.ntmps50]) ?_
 rw [Tryz.ntmps50];simp only [Qf];simp only [encA]
 repeat first|((first|refine ra ?_|refine rb ?_|refine rh ?_);simp)|refine qf ?_|refine qg ?_
 have b0:∀L,(H++[AObj.vars (Q4 a)]++L)[H.length]? =some (.vars (Q4 a)):=fun L=>by rw [List.append_assoc,List.getElem?_append_right (by omega)];simp
 refine Qe rfl rfl (by simp) (Yw a) rfl ?_
 rintro _ rfl
 simp
 repeat first|((first|refine ra ?_|refine rb ?_|refine rh ?_);simp)|refine qf ?_|refine qg ?_
 refine Qb rfl (fun h=> ?_) (fun h=> ?_)
 ·have h':Wk a≠0:=by simpa using h
  have hs:Iw a=(Wk a,[],[]):=Vo h'
  rw [hs]
  repeat first|((first|refine ra ?_|refine rb ?_|refine rh ?_);simp)|refine qf ?_|refine qg ?_
  exact ⟨fun j hj=>List.getElem?_append_left hj,h'⟩
 have h0:Wk a=0:=by simpa using h
 have z7:=(Ui a).1 h0
 have ym:=z7.fin
 have yn:=z7.mvs
 repeat first|((first|refine ra ?_|refine rb ?_|refine rh ?_);simp)|refine qf ?_|refine qg ?_
 refine Wm 5 76 1 rfl ?_
 simp
 obtain ⟨G0,zg⟩:∃G0,G0=H++[AObj.vars (Q4 a)]:=⟨_,rfl⟩
 have y4:G0[H.length]? =some (.vars (Q4 a)):=by rw [zg];simp
 have zh:G0.length=H.length+1:=by rw [zg];simp
 have y5:∀j,j<H.length→G0[j]? =H[j]? :=fun j hj=>by rw [zg];exact List.getElem?_append_left hj
 have y6:=SL.start G0 76 1
 refine Qq (Qc (sl':=[(1,.vptr H.length 0),(5,.sl G0.length 1 0 (0:Nat)),(20,.list (a.mv.map encMv)),(21,.i a.mv.length),(22,.i (0:Nat))]) ?_ (by simp [zh]))
 refine Qp (F:=fun (u:Nat×Nat×List AObj)=>⟨[(1,.vptr H.length 0),(5,.sl u.2.1 1 0 u.1),(20,.list (a.mv.map encMv)),(21,.i a.mv.length),(22,.i u.1)],u.2.2⟩)
  (fun u=>u.1≤a.mv.length∧SL G0 u.2.2 u.2.1 76 1 (((onA a).take u.1).map encP)) (fun u=>a.mv.length - u.1) ?_ (0,G0.length,_) ⟨by simp,by simp only [List.take_zero,List.map_nil];rw [zg] at y6 ⊢;simpa using y6⟩
 rintro ⟨j,q,E⟩ ⟨hj,s1⟩ ih
 simp only at hj s1 ih ⊢
 repeat first|((first|refine ra ?_|refine rb ?_|refine rh ?_);simp)|refine qf ?_|refine qg ?_
 refine Qb rfl (fun zq=> ?_) (fun zr=> ?_)
 ·have z1:j<a.mv.length:=by simpa using zq
  have hw:IntKind.i64.wrap ((j:Int)+1)=j+1:=wrap_i64 _ (by omega) (by omega)
  have za:=c0d a j z1
  have y7:((onA a).take j).length=j:=by rw [List.length_take,Kl];omega
  have y8:=fun q' E'=>ih (j+1,q',E')
  simp only [za] at y8;clear za;generalize (onA a).take j=acc at *
  repeat first|((first|refine ra ?_|refine rb ?_|refine rh ?_);simp [z1])|refine qf ?_|refine qg ?_
  generalize a.mv[j]=mm at *;refine Qh tOk rfl rfl T91 rfl T76 rfl (by decide) (by decide) rfl rfl rfl ?_
  simp [Qa s1.arr,Qk s1.arr,y7]
  refine ⟨by simp [W2,Qa s1.arr,Qk s1.arr,y7]<;>omega,?_⟩
  repeat first|((first|refine ra ?_|refine rb ?_|refine rh ?_);simp [hw])|refine qf ?_|refine qg ?_
  refine Qc (sl':=[(1,.vptr H.length 0),(5,.sl (E.length+2) 1 0 (j+1)),(20,.list (a.mv.map encMv)),(21,.i a.mv.length),(22,.i (j+1:Nat))]) ?_ (by simp)
  have:=y8 (E.length+2) _ ⟨by omega,s1.put [AObj.vars [AV.i mm.src,AV.i mm.dst,AV.list (mm.on.map encL)],AObj.arr 76 1 [encP mm.on]] ((acc++[mm.on]).map encP) rfl⟩ (by omega)
  simpa using this
 ·have zi:j=a.mv.length:=by simp at zr;omega
  subst zi;rw [List.take_of_length_le (by rw [Kl];omega)] at s1
  refine Wn q s1.arr ?_
  simp [Kl]
  rw [List.take_of_length_le (by simp [Kl])]
  have yo:=s1.ge
  have yp:=s1.le
  have zj:(E.set q .dead)[H.length]? =some (.vars (Q4 a)):=by rw [List.getElem?_set_ne (by omega),s1.keep _ (by omega)];exact y4
  have zu:∀i,i<H.length→(E.set q .dead)[i]? =H[i]? :=fun i hi=>by rw [List.getElem?_set_ne (by omega),s1.keep _ (by omega)];exact y5 i hi
  have y9:H.length<(E.set q .dead).length:=Qg zj
  generalize E.set q .dead=E1 at *;clear s1 yp yo ih
  repeat first|((first|refine ra ?_|refine rb ?_|refine rh ?_);simp [zj])|refine qf ?_|refine qg ?_
  refine Qe rfl rfl (by simp) (Bb a.types (onA a)) rfl ?_
  rintro _ rfl
  simp
  repeat first|((first|refine ra ?_|refine rb ?_|refine rh ?_);simp)|refine qf ?_|refine qg ?_
  refine Qb rfl (fun h3=> ?_) (fun h3=> ?_)
  ·have zm:(Rb a.types (onA a)).1≠0:=by simpa using h3
   have hs:Iw a=((Rb a.types (onA a)).1,[],[]):=by rw [Iw,if_neg (fun k=>k h0),if_pos zm]
   rw [hs]
   repeat first|((first|refine ra ?_|refine rb ?_|refine rh ?_);simp)|refine qf ?_|refine qg ?_
   exact ⟨zu,zm⟩
  have zm:(Rb a.types (onA a)).1=0:=by simpa using h3
  obtain ⟨cl,ya,yq,zc,zv⟩:=L8 z7 zm
  rw [ya]
  repeat first|((first|refine ra ?_|refine rb ?_|refine rh ?_);simp [zj])|refine qf ?_|refine qg ?_
  refine E7 rfl rfl rfl ?_
  simp
  repeat first|((first|refine ra ?_|refine rb ?_|refine rh ?_);simp)|refine qf ?_|refine qg ?_
  refine W7 (E1.length+3) (e:=3) (c:=1) (xs:=[.i 0]) (by rw [List.getElem?_append_right (by omega)];simp) ?_
  simp
  refine Lw (E1.length+1) 4 40 1 (xs:=[.i a.types,.list (a.fin.map .bool),.list (a.mv.map encMv),LP cl,.nils,.mref E1.length]) (by rw [List.getElem?_append_right (by omega)];simp) rfl ?_
  refine Tu fun Z hZ=> ?_
  have yr:Z.length=E1.length+5:=by rw [hZ];simp
  have z0:Z[H.length]? =some (.vars (Q4 a)):=by rw [hZ,List.getElem?_set_ne (by omega),List.append_assoc,List.getElem?_append_left y9];exact zj
  have zk:∀i,i<H.length→Z[i]? =H[i]? :=fun i hi=>by rw [hZ,List.getElem?_set_ne (by omega),List.append_assoc,List.getElem?_append_left (by omega)];exact zu i hi
  have zt:TB (E1.length+1) (E1.length+4) E1.length a cl [] Z:=by
   refine ⟨?_,?_,?_⟩
   ·rw [hZ,List.getElem?_set_self (by simp)];simp
   ·rw [hZ,List.getElem?_set_ne (by omega),List.getElem?_append_right (by simp)];simp [LQ]
   ·rw [hZ,List.getElem?_set_ne (by omega),List.append_assoc,List.getElem?_append_right (by omega)];simp [Ej]
  have zb:Z[E1.length+2]? =some (.vars [.vptr (E1.length+1) 0]):=by rw [hZ,List.getElem?_set_ne (by omega),List.append_assoc,List.getElem?_append_right (by omega)];simp
  clear hZ
  have yc:Pp [0]:=⟨by simp,by simp,fun z hz=>by simp at hz;omega⟩
  refine Qz rfl rfl (Vm Z _ _ _ a cl [] [0] zt yc (fun l hl=>by simp at hl) (by simp)) rfl ?_
  rintro res Y ⟨j0,p,rfl,yd,ht,yt,yu,-,zn⟩
  have zw:y0o [] [0]=[[0]]:=by simp [y0o]
  rw [zw] at ht
  simp
  repeat first|((first|refine ra ?_|refine rb ?_|refine rh ?_);simp)|refine qf ?_|refine qg ?_
  have y0:=(zn H.length (by omega) (by omega) (by omega) (by omega)).trans z0
  have yk:∀i,i<H.length→Y[i]? =H[i]? :=fun i hi=>(zn i (by omega) (by omega) (by omega) (by omega)).trans (zk i hi)
  have yb:=(zn _ (by omega) (by omega) (by omega) (by omega)).trans zb
  have ze:H.length≤p:=by omega
  have yv:H.length≤E1.length+1:=by omega
  have xh:H.length≤E1.length+2:=by omega
  have yw:H.length≤E1.length:=by omega
  refine Q0 (sl':=[(10,.vptr (E1.length+2) 0),(11,.i (0:Nat))]) ?_ (by simp)
  clear zt z0 zk zb zn yr yu yd yt zj zu y9 y4 zh y5 zg;generalize E1.length+1=r at *;generalize E1.length+2=b at *;generalize E1.length=m at *
  have z6:Iw a=match z05 a cl 257 0 [[0]] with
    |none=>(5,[],[])
    |some Q=>(0,cl,Q):=by
   rw [Iw,if_neg (fun k=>k h0),ya];rfl
  refine Qq (Qc (sl':=[(10,.vptr b 0),(11,.i (0:Nat))]) ?_ (by simp))
  refine Qp (F:=fun (u:Nat×Nat×List (List Int)×List AObj)=>⟨[(10,.vptr b 0),(11,.i u.1)],u.2.2.2⟩)
   (fun u=>u.1≤u.2.2.1.length∧u.2.2.1.length≤256∧TB r u.2.1 m a cl u.2.2.1 u.2.2.2∧H.length≤u.2.1∧u.2.2.2[b]? =some (.vars [.vptr r 0])∧(∀i,i<H.length→u.2.2.2[i]? =H[i]?)∧(∀l∈u.2.2.1,Pp l)∧z05 a cl 257 0 [[0]]=z05 a cl (257 - u.1) u.1 u.2.2.1) (fun u=>257 - u.1) ?_ (0,p,[[0]],Y) ⟨by simp,by simp,ht,ze,yb,yk,fun l hl=>by rw [List.mem_singleton.1 hl];exact yc,rfl⟩
  clear ht ze yb yk y0;clear Y
  rintro ⟨i,p,Q,Y⟩ ⟨hi,zx,ht,ze,yb,yk,hQ,z8⟩ ih
  simp only at hi zx ht ze yb yk hQ z8 ih ⊢
  have ye:=ht.t
  repeat first|((first|refine ra ?_|refine rb ?_|refine rh ?_);simp [yb,ye])|refine qf ?_|refine qg ?_
  refine Qb rfl (fun zq=> ?_) (fun zr=> ?_)
  ·have z1:i<Q.length:=by simpa using zq
   have hw:IntKind.i64.wrap ((i:Int)+1)=i+1:=wrap_i64 _ (by omega) (by omega)
   have yx:=ht.s
   have hlo:=hQ _ (List.getElem_mem z1)
   repeat first|((first|refine ra ?_|refine rb ?_|refine rh ?_);simp)|refine qf ?_|refine qg ?_
   refine Qo tOk mixed [8] (.val 0 (.val 1 (.val 2 (.val 3 (.val 4 (.val 5 (.val 6 (.val 7 (.one 8 (.done)))))))))) rfl (by kernel_rfl) ?_
   simp [yb,ye,yx,z1]
   refine Qz rfl rfl (O6 Y r Q[i]) rfl ?_
   rintro _ _ ⟨rfl,rfl⟩
   simp
   repeat first|((first|refine ra ?_|refine rb ?_|refine rh ?_);simp)|refine qf ?_|refine qg ?_
   have zo:z05 a cl (257 - i) i Q=if 256<(Wz Q (Rm a cl Q[i])).length then none else z05 a cl (257 - (i+1)) (i+1) (Wz Q (Rm a cl Q[i])):=by
    have:257 - i=(257 - (i+1))+1:=by omega
    rw [this,z05,List.getElem?_eq_getElem z1]
   rw [zo] at z8;clear zo;generalize Q[i]=l at *
   have yy:(Rm a cl l).length=cl.length:=by simp [Rm]
   have yf:∀(k:Nat) (c:Prd),cl[k]? =some c→(Rm a cl l).take (k+1)=(Rm a cl l).take k++[Q5 a l (Ql c)]:=fun k c hc=>by
    have hk:=Fm hc
    have yz:cl[k]=c:=by rw [List.getElem?_eq_getElem hk] at hc;exact Option.some.inj hc
    rw [List.take_succ_eq_append_getElem (by rw [yy];exact hk)]
    simp [Rm,yz]
   have x0:∀k,(∀y∈Wz Q ((Rm a cl l).take k),Pp y)∧(Wz Q ((Rm a cl l).take k)).length≤600:=fun k=>M3 z7 hQ zx zc k
   have x1:=Qg yb
   refine Rc rfl (Rf:=fun _ H'=>∃p',TB r p' m a cl (Wz Q (Rm a cl l)) H'∧H.length≤p'∧H'[b]? =some (.vars [.vptr r 0])∧(∃sl' zy a' b',H'[Y.length+2]? =some (.lp true none 80 sl' zy a' b'))∧∀i,i<H.length→H'[i]? =H[i]?) ?_ ?_
   ·simp
    refine Cp fun H1 zd=> ?_
    have ft:TB r p m a cl Q H1:=ht.keep fun j hj=>by
     have:j<Y.length:=by
      rcases hj with rfl|rfl|rfl
      ·exact Qg ht.t
      ·exact Qg ht.s
      ·exact Qg ht.n
     rw [zd,List.getElem?_append_left this]
    have fb:H1[b]? =some (.vars [.vptr r 0]):=by rw [zd,List.getElem?_append_left x1];exact yb
    have x2:H1[Y.length]? =some (.vars [.vptr r 0]):=by rw [zd,List.getElem?_append_right (by omega)];simp
    have x3:H1[Y.length+1]? =some (.vars [LI l]):=by rw [zd,List.getElem?_append_right (by omega)];simp
    have fk:∀i,i<H.length→H1[i]? =H[i]? :=fun i hi=>by
     rw [zd,List.getElem?_append_left (by have:=Qg ht.t;omega)];exact yk i hi
    have fq:=congrArg (fun h:List AObj=>h[Y.length+2]?) zd
    simp at fq;clear zd;refine FC.mono (N8 a z7 cl l (fun c hc=>⟨(zv c hc).1,(zv c hc).2.1,(zv c hc).2.2.1⟩) zc (Y.length+2) Y.length (Y.length+1) r (by rfl) (by rfl)
     (fun k H'=>∃p',TB r p' m a cl (Wz Q ((Rm a cl l).take k)) H'∧H.length≤p'∧H'[b]? =some (.vars [.vptr r 0])∧H'[Y.length]? =some (.vars [.vptr r 0])∧H'[Y.length+1]? =some (.vars [LI l])∧H'[Y.length+2]? =H1[Y.length+2]? ∧∀i,i<H.length→H'[i]? =H[i]?)
     (fun k H' ⟨p',h1,h2,h3,h4,h5,h6,h7⟩=>⟨h6.trans fq,h4,h5,_,h1.t⟩) ?_ ?_ ?_ H1 ⟨p,ft,ze,fb,x2,x3,rfl,fk⟩) ?_
    ·rintro k H' L ⟨p',h1,h2,h3,h4,h5,h6,h7⟩
     refine ⟨p',h1.keep fun j hj=> ?_,h2,Qa h3 _,Qa h4 _,Qa h5 _,by rw [←h6,List.getElem?_append_left (by rw [fq] at h6;exact Qg h6)],fun i hi=>by rw [List.getElem?_append_left (by have:=Qg h1.t;omega)];exact h7 i hi⟩
     have:j<H'.length:=by
      rcases hj with rfl|rfl|rfl
      ·exact Qg h1.t
      ·exact Qg h1.s
      ·exact Qg h1.n
     exact List.getElem?_append_left this
    ·rintro k c H' hc za ⟨p',h1,h⟩
     refine ⟨p',?_,h⟩;rw [yf k c hc,za,Jx,w10];exact h1
    ·rintro k c H' hc za ⟨p',h1,h2,h3,h4,h5,h6,h7⟩
     have zz:Pp (Q5 a l (Ql c)):=by
      have:=z7.fin
      exact ⟨za,J9 z7 _ _,fun z hz=>by have:=Po z hz;omega⟩
     have y1:=yf k c hc
     have zl:=x0 k
     rw [y1,Jx,g02 za];generalize Q5 a l (Ql c)=nx at *;generalize Wz Q ((Rm a cl l).take k)=Q2 at *
     simp [Tj]
     have h8:=h6.trans fq
     have yg:Y.length+2≠r:=fun e=>by have:=h1.t;rw [←e,h8] at this;simp at this
     have yh:Y.length+2≠p':=fun e=>by have:=h1.s;rw [←e,h8] at this;simp at this
     have yi:Y.length+2≠m:=fun e=>by have:=h1.n;rw [←e,h8,Ej] at this;simp at this
     have zp:Y.length+2≠b:=fun e=>by rw [←e,h8] at h3;simp at h3
     have x4:b≠r:=fun e=>by have:=h1.t;rw [←e,h3] at this;simp at this
     have x5:b≠p':=fun e=>by have:=h1.s;rw [←e,h3] at this;simp at this
     have x6:b≠m:=fun e=>by have:=h1.n;rw [←e,h3,Ej] at this;simp at this
     have x7:Y.length≠r:=fun e=>by have:=h1.t;rw [←e,h4] at this;simp at this
     have x8:Y.length≠p':=fun e=>by have:=h1.s;rw [←e,h4] at this;simp at this
     have x9:Y.length≠m:=fun e=>by have:=h1.n;rw [←e,h4,Ej] at this;simp at this
     have xa:Y.length+1≠r:=fun e=>by have:=h1.t;rw [←e,h5] at this;simp at this
     have xb:Y.length+1≠p':=fun e=>by have:=h1.s;rw [←e,h5] at this;simp at this
     have xc:Y.length+1≠m:=fun e=>by have:=h1.n;rw [←e,h5,Ej] at this;simp at this
     have d1:TB r p' m a cl Q2 (H'.set (Y.length+2) .dead):=h1.keep fun j hj=>by
      rw [List.getElem?_set_ne (by rcases hj with rfl|rfl|rfl<;>assumption)]
     have d3:=Qd zp h3 .dead
     have d4:=Qd (j:=Y.length+2) (by omega) h4 .dead
     have d5:=Qd (j:=Y.length+2) (by omega) h5 .dead
     have d6:=Qi h8 .dead
     have d7:∀i,i<H.length→(H'.set (Y.length+2) .dead)[i]? =H[i]? :=fun i hi=>by
      rw [List.getElem?_set_ne (by have:=Qg yb;omega)];exact h7 i hi
     have dl:(H'.set (Y.length+2) .dead).length=H'.length:=by simp
     generalize H'.set (Y.length+2) .dead=Z at *
     repeat first|((first|refine ra ?_|refine rb ?_|refine rh ?_);simp [d3])|refine qf ?_|refine qg ?_
     refine Qz rfl rfl (Vm Z r p' m a cl Q2 nx d1 zz zl.1 (by have:=zl.2;omega)) rfl ?_
     rintro res Z2 ⟨j0,p2,rfl,yd,yj,xi,xj,-,zf⟩
     simp
     repeat first|((first|refine ra ?_|refine rb ?_|refine rh ?_);simp)|refine qf ?_|refine qg ?_
     have hz:∀i,i<Z.length→i≠r→i≠p'→i≠m→Z2[i]? =Z[i]? :=zf
     have e3:=(zf b (Qg d3) x4 x5 x6).trans d3
     have e4:=(zf _ (Qg d4) x7 x8 x9).trans d4
     have e5:=(zf _ (Qg d5) xa xb xc).trans d5
     have e6:=(zf _ (Qg d6) yg yh yi).trans d6
     have xd:Y.length+2≠p2:=fun e=>by have:=yj.s;rw [←e,e6] at this;simp at this
     refine ⟨e6,rfl,p2,yj.keep (fun j hj=>by rw [List.getElem?_set_ne (by rcases hj with rfl|rfl|rfl<;>assumption)]),by have:=Qg d6;omega,Qd zp e3 _,e4,e5,?_,fun i hi=> ?_⟩
     ·rw [fq];exact Qi e6 _
     ·rw [List.getElem?_set_ne (by have:=Qg yb;omega),zf i (by have:=Qg d6;omega) (by omega) (by omega) (by omega)];exact d7 i hi
    ·rintro _ H' ⟨p',h1,h2,h3,h4,h5,h6,h7⟩
     rw [List.take_of_length_le (by omega)] at h1
     exact ⟨p',h1,h2,h3,⟨_,_,_,_,h6.trans fq⟩,h7⟩
   ·rintro res H' ⟨p',h1,h2,h3,⟨sl',zy,a',b',h6⟩,h7⟩
    refine ⟨true,none,80,sl',zy,a',b',by simpa using h6,?_⟩
    simp
    have yg:Y.length+2≠r:=fun e=>by have:=h1.t;rw [←e,h6] at this;simp at this
    have yh:Y.length+2≠p':=fun e=>by have:=h1.s;rw [←e,h6] at this;simp at this
    have yi:Y.length+2≠m:=fun e=>by have:=h1.n;rw [←e,h6,Ej] at this;simp at this
    have zp:Y.length+2≠b:=fun e=>by rw [←e,h6] at h3;simp at h3
    have d1:TB r p' m a cl (Wz Q (Rm a cl l)) (H'.set (Y.length+2) .dead):=h1.keep fun j hj=>by
     rw [List.getElem?_set_ne (by rcases hj with rfl|rfl|rfl<;>assumption)]
    have d3:=Qd zp h3 .dead
    have d7:∀i,i<H.length→(H'.set (Y.length+2) .dead)[i]? =H[i]? :=fun i hi=>by
     rw [List.getElem?_set_ne (by have:=Qg yb;omega)];exact h7 i hi
    have yl:=M3 z7 hQ zx zc (l:=l) cl.length
    rw [List.take_of_length_le (by omega)] at yl
    have xe:=w03 Q (Rm a cl l)
    generalize H'.set (Y.length+2) .dead=Z at *;generalize Wz Q (Rm a cl l)=Q2 at *
    have d0:=d1.t
    repeat first|((first|refine ra ?_|refine rb ?_|refine rh ?_);simp [d3,d0])|refine qf ?_|refine qg ?_
    refine Qb rfl (fun y2=> ?_) (fun xf=> ?_)
    ·have xg:256<Q2.length:=by simp at y2;omega
     rw [if_pos xg] at z8;rw [z8] at z6;rw [z6]
     repeat first|((first|refine ra ?_|refine rb ?_|refine rh ?_);simp)|refine qf ?_|refine qg ?_
     exact d7
    ·have y3:¬256<Q2.length:=by simp at xf;omega
     rw [if_neg y3] at z8
     repeat first|((first|refine ra ?_|refine rb ?_|refine rh ?_);simp [hw])|refine qf ?_|refine qg ?_
     refine Qc (sl':=[(10,.vptr b 0),(11,.i (i+1:Nat))]) ?_ (by simp)
     exact ih (i+1,p',Q2,Z) ⟨by show i+1≤Q2.length;omega,by show Q2.length≤256;omega,d1,h2,d3,d7,yl.1,z8⟩ (by omega)
  ·have zi:i=Q.length:=by simp at zr;omega
   have zo:z05 a cl (257 - i) i Q=some Q:=by
    have:257 - i=(256 - i)+1:=by omega
    rw [this,z05,List.getElem?_eq_none (by omega)]
   rw [zo] at z8;rw [z8] at z6;rw [z6]
   repeat first|((first|refine ra ?_|refine rb ?_|refine rh ?_);simp [yb])|refine qf ?_|refine qg ?_
   exact ⟨yk,p,m,ht,yv,ze,yw⟩
end Go.Abs
namespace Go.Abs
open Go Go.Proofs Go.Maps Go.RowKit
attribute [local irreducible] Iw
end Go.Abs
namespace Go.Abs
open Go Go.Proofs Go.Maps Go.RowKit
def Fx (fx:List (Nat×AObj)) (H:List AObj):Prop:=∀p∈fx,H[p.1]? =some p.2
theorem Fx.app {fx:List (Nat×AObj)} {H:List AObj} (h:Fx fx H) (L:List AObj):Fx fx (H++L):=fun p hp=>Qa (h p hp) L
theorem Fx.set {fx:List (Nat×AObj)} {H:List AObj} (h:Fx fx H) {x:Nat} {o:AObj} (hx:H[x]? =some o) (hn:∀p∈fx,p.2≠o) (y:AObj):Fx fx (H.set x y):=fun p hp=>by
 have z1:x≠p.1:=fun e=>by
  have:=h p hp
  rw [←e,hx] at this;exact hn p hp (Option.some.inj this).symm
 rw [List.getElem?_set_ne z1];exact h p hp
def j0u (g:List Mv) (to:Nat):Int:=match g.findIdx? fun m:Mv=>decide (m.dst=(to:Int)) with
 |some i=>i
 |none=> -1
theorem v13 (H:List AObj) (id to:Nat) (hid:H[id]? =some (.vars [.i to])) (m:Mv):FC Tryz.prog 59 [encMv m,.vptr id 0] H (fun r H'=>r= .bool (decide (m.dst=(to:Int)))∧H'=H++[.vars [.i m.src,.i m.dst,.list (m.on.map encL)]]):=by
 refine Wt tOk Tryz.func59 rfl Tryz.results59 rfl (by simp [Tryz.ntmps59]) ?_
 rw [Tryz.ntmps59];simp only [Qf];simp only [encMv]
 repeat first|((first|refine ra ?_|refine rb ?_|refine rh ?_);simp [Qa hid])|refine qf ?_|refine qg ?_
 rfl
theorem c0y {g:List Mv} {to j:Nat} (h:j<g.length) (h1:g[j].dst=(to:Int)) (h2:∀i,∀hi:i<g.length,i<j→¬g[i].dst=(to:Int)):j0u g to=j:=by
 have:g.findIdx? (fun m:Mv=>decide (m.dst=(to:Int)))=some j:=by
  rw [List.findIdx?_eq_some_iff_getElem];exact ⟨h,by simpa using h1,fun i hi=>by simpa using h2 i (by omega) hi⟩
 rw [j0u,this]
theorem u0l {g:List Mv} {to:Nat} (h2:∀i,∀hi:i<g.length,¬g[i].dst=(to:Int)):j0u g to= -1:=by
 have:g.findIdx? (fun m:Mv=>decide (m.dst=(to:Int)))=none:=by
  rw [List.findIdx?_eq_none_iff];intro m hm
  obtain ⟨i,hi,rfl⟩:=List.getElem_of_mem hm
  simpa using h2 i hi
 rw [j0u,this]
set_option maxHeartbeats 2000000 in
theorem k03 (H:List AObj) (v first to id:Nat) (pre g:List Mv) (hid:H[id]? =some (.vars [.i to])) (hv:H[v]? =some (.arr 78 3 ((pre++g).map encMv))) (hl:pre.length+g.length≤1000000000) (hf:first=pre.length):
  FC Tryz.prog 58 [.sl v 3 first g.length,.fn (.func 59) [] [.vptr id 0]] H (fun r H'=>r= .i (j0u g to)∧∃L,H'=H++L):=by
 subst hf;refine Wt tOk Tryz.func58 rfl Tryz.results58 rfl (by simp [Tryz.ntmps58]) ?_
 rw [Tryz.ntmps58];simp only [Qf]
 repeat first|((first|refine ra ?_|refine rb ?_|refine rh ?_);simp)|refine qf ?_|refine qg ?_
 refine Qq (Qc (sl':=[(0,.sl v 3 pre.length g.length),(1,.fn (.func 59) [] [.vptr id 0]),(7,.i g.length),(8,.i (0:Nat))]) ?_ (by simp))
 refine Qp (F:=fun (u:Nat×List AObj)=>⟨[(0,.sl v 3 pre.length g.length),(1,.fn (.func 59) [] [.vptr id 0]),(7,.i g.length),(8,.i u.1)],u.2⟩)
  (fun u=>u.1≤g.length∧(∃L,u.2=H++L)∧∀i,∀hi:i<g.length,i<u.1→¬g[i].dst=(to:Int)) (fun u=>g.length - u.1) ?_ (0,H) ⟨by simp,⟨[],by simp⟩,by simp⟩
 rintro ⟨j,E⟩ ⟨hj,⟨L,hL⟩,hI⟩ ih
 simp only at hj hI hL ih ⊢;subst hL
 repeat first|((first|refine ra ?_|refine rb ?_|refine rh ?_);simp)|refine qf ?_|refine qg ?_
 refine Qb rfl (fun za=> ?_) (fun zb=> ?_)
 ·have z1:j<g.length:=by simpa using za
  have hw:IntKind.i64.wrap ((j:Int)+1)=j+1:=wrap_i64 _ (by omega) (by omega)
  have zc:((pre++g).map encMv)[pre.length+j]? =some (encMv g[j]):=by simp [z1]
  have zd:=Qa hv L
  have z6:=Qa hid L
  repeat first|((first|refine ra ?_|refine rb ?_|refine rh ?_);simp [z1,zd,zc])|refine qf ?_|refine qg ?_
  generalize z8:g[j]=m at *;refine Qz rfl rfl (v13 (H++L) id to z6 m) rfl ?_
  rintro _ _ ⟨rfl,rfl⟩
  simp
  repeat first|((first|refine ra ?_|refine rb ?_|refine rh ?_);simp)|refine qf ?_|refine qg ?_
  refine Qb rfl (fun h=> ?_) (fun h=> ?_)
  ·repeat first|((first|refine ra ?_|refine rb ?_|refine rh ?_);simp)|refine qf ?_|refine qg ?_
   exact (c0y z1 (by rw [z8];simpa using h) hI).symm
  ·repeat first|((first|refine ra ?_|refine rb ?_|refine rh ?_);simp [hw])|refine qf ?_|refine qg ?_
   refine Qc (sl':=[(0,.sl v 3 pre.length g.length),(1,.fn (.func 59) [] [.vptr id 0]),(7,.i g.length),(8,.i (j+1:Nat))]) ?_ (by simp)
   refine ih (j+1,_) ⟨by omega,⟨L++[.vars [.i m.src,.i m.dst,.list (m.on.map encL)]],by simp⟩,fun i hi ze=> ?_⟩ (by omega)
   by_cases e:i=j
   ·subst e;rw [z8];simpa using h
   ·exact hI i hi (by omega)
 ·have z7:j=g.length:=by simp at zb;omega
  subst z7
  repeat first|((first|refine ra ?_|refine rb ?_|refine rh ?_);simp)|refine qf ?_|refine qg ?_
  exact (u0l fun i hi=>hI i hi hi).symm
end Go.Abs
namespace Go.Abs
open Go Go.Proofs Go.Maps Go.RowKit
theorem Zz {a:Aut} (h:(Iw a).1=0):OkA a∧∃cl Q,Iw a=(0,cl,Q)∧Kn a cl=some Q∧Cls a cl∧Sub a cl Q∧cl.length≤256∧∀c∈cl,Gz [c]=0∧Wp c=false∧Eg a (Ql c)∧PWf a.types.toNat c∧∀s∈c,s.length≤256:=by
 have h0:Wk a=0:=by
  by_cases h0:Wk a=0
  ·exact h0
  ·rw [Vo h0] at h;exact absurd h h0
 have z1:=(Ui a).1 h0
 have hm:(Rb a.types (onA a)).1=0:=by
  by_cases hm:(Rb a.types (onA a)).1=0
  ·exact hm
  ·rw [Iw,if_neg (fun k=>k h0),if_pos hm] at h;exact absurd h hm
 obtain ⟨cl,h1,h2,h3,h4⟩:=L8 z1 hm
 refine ⟨z1,cl,?_⟩
 rcases Fi z1 with h5|⟨Q,h5,h6,h7,h8⟩
 ·rw [h5] at h;simp at h
 ·have z6:Q8 a.types.toNat (onA a)=cl:=by
   have h9:(Iw a).2.1=cl:=by
    rw [Iw,if_neg (fun k=>k h0),if_neg (fun k=>k hm),h1]
    split
    ·rename_i hn
     rw [Iw,if_neg (fun k=>k h0),if_neg (fun k=>k hm),h1] at h
     simp only [hn] at h;simp at h
    ·rfl
   rw [h5] at h9;exact h9
  rw [z6] at h5 h6 h7 h8;exact ⟨Q,h5,h6,h2,h7,h3,h4⟩
theorem x1a (H:List AObj) (id:Nat) (a:Aut) (hid:H[id]? =some (.vars (Q4 a))) (s:Int) (h0:0≤s) (h1:s<a.fin.length):FC Tryz.prog 55 [.i s,.vptr id 0] H (fun r H'=>r= .bool (a.fin.getD s.toNat false)∧H'=H):=by
 refine Wt tOk Tryz.func55 rfl Tryz.results55 rfl (by simp [Tryz.ntmps55]) ?_
 rw [Tryz.ntmps55];simp only [Qf]
 have h2:s.toNat<a.fin.length:=by omega
 repeat first|((first|refine ra ?_|refine rb ?_|refine rh ?_);simp [hid,h0,h1,h2])|refine qf ?_|refine qg ?_
def stepG (a:Aut) (Q:List (List Int)) (n:Nat) (l:List Int) (g:List Mv) (c:Prd):List Mv:=match y0m Q (Q5 a l (Ql c)) with|some t=>R4 n g t c|none=>g
def En (a:Aut) (cl:List Prd) (Q:List (List Int)) (n:Nat) (l:List Int) (k:Nat):List Mv:=(cl.take k).foldl (stepG a Q n l) []
def S6 (a:Aut) (cl:List Prd) (Q:List (List Int)) (n:Nat):List Mv:=(List.range n).flatMap fun n=>Cj a cl Q n (Q.getD n [])
theorem D3 (a:Aut) (cl:List Prd) (Q:List (List Int)) (n:Nat) (l:List Int):En a cl Q n l cl.length=Cj a cl Q n l:=by rw [En,List.take_length];rfl
theorem Cy (a:Aut) (cl:List Prd) (Q:List (List Int)) (n:Nat) (l:List Int) {k:Nat} {c:Prd} (h:cl[k]? =some c):En a cl Q n l (k+1)=stepG a Q n l (En a cl Q n l k) c:=by
 have hk:=Fm h
 have hc:cl[k]=c:=by rw [List.getElem?_eq_getElem hk] at h;exact Option.some.inj h
 rw [En,List.take_succ_eq_append_getElem hk,List.foldl_append,hc];rfl
theorem X0 (a:Aut) (cl:List Prd) (Q:List (List Int)) (n:Nat):S6 a cl Q (n+1)=S6 a cl Q n++Cj a cl Q n (Q.getD n []):=by simp [S6,List.range_succ]
theorem v0x (n:Nat) (g:List Mv) (to:Nat) (c:Prd):(R4 n g to c).length≤g.length+1:=by
 unfold R4;split
 ·simp
 ·split<;>simp
theorem Xw (a:Aut) (Q:List (List Int)) (n:Nat) (l:List Int):∀(cl:List Prd) (g:List Mv),(cl.foldl (stepG a Q n l) g).length≤g.length+cl.length
 |[],g=>by simp
 |c::cl,g=>by
  have h1:=Xw a Q n l cl (stepG a Q n l g c)
  have h2:(stepG a Q n l g c).length≤g.length+1:=by
   unfold stepG;split
   ·exact v0x _ _ _ _
   ·omega
  rw [List.foldl_cons,List.length_cons];omega
theorem Gx (a:Aut) (cl:List Prd) (Q:List (List Int)) (n:Nat) (l:List Int) (hc:cl.length≤256) (k:Nat):(En a cl Q n l k).length≤256:=by
 have:=Xw a Q n l (cl.take k) []
 rw [List.length_take] at this;rw [En];simp at this;omega
theorem d0t (a:Aut) (cl:List Prd) (Q:List (List Int)) (hq:Q.length≤256) (hc:cl.length≤256):∀n,n<Q.length→(S6 a cl Q n).length≤n * 256∧(S6 a cl Q n).length≤65536:=by
 have:∀n,(S6 a cl Q n).length≤n * 256:=fun n=>by
  induction n with
  |zero=>simp [S6]
  |succ n ih=>
   have h:=Gx a cl Q n (Q.getD n []) hc cl.length
   rw [D3] at h
   have:S6 a cl Q (n+1)=S6 a cl Q n++Cj a cl Q n (Q.getD n []):=by simp [S6,List.range_succ]
   rw [this,List.length_append];omega
 exact fun n hn=>⟨this n,by have:=this n;omega⟩
theorem q0e (a:Aut) (cl:List Prd) (Q:List (List Int)) (n:Nat) (l:List Int):En a cl Q n l 0=[]:=rfl
theorem f03 {a:Aut} {Q:List (List Int)} (z1:∀l∈Q,l≠[]) {n:Nat} {l:List Int} {g:List Mv} {c:Prd} (h:Q5 a l (Ql c)=[]):stepG a Q n l g c=g:=by
 unfold stepG;rw [h]
 cases hq:y0m Q [] with
 |none=>rfl
 |some t=>exact absurd rfl (z1 _ (List.mem_of_getElem? (Fb hq)))
theorem g0f {a:Aut} {Q:List (List Int)} (hn:Q.Nodup) {n t:Nat} {l:List Int} {g:List Mv} {c:Prd} (h:Q[t]? =some (Q5 a l (Ql c))):stepG a Q n l g c=R4 n g t c:=by
 unfold stepG;rw [u05 hn h]
theorem c0f {T n to:Nat} {g:List Mv} {c:Prd} (hg:∀m∈g,PWf T m.on) (hc:PWf T c):∀m∈R4 n g to c,PWf T m.on:=by
 intro m hm;unfold R4 at hm;split at hm
 ·rcases List.mem_append.1 hm with hm|hm
  ·exact hg m hm
  ·rw [List.mem_singleton.1 hm];exact hc
 ·split at hm
  ·rename_i m2 z1
   rcases List.mem_or_eq_of_mem_set hm with hm|rfl
   ·exact hg m hm
   ·exact Fh (hg _ (List.mem_of_getElem? z1)) hc
  ·exact hg m hm
theorem w1f {a:Aut} {T:Nat} {Q:List (List Int)} {n:Nat} {l:List Int} {cl:List Prd} (z1:∀c∈cl,PWf T c):∀k,∀m∈En a cl Q n l k,PWf T m.on:=by
 have:∀(cl:List Prd) (g:List Mv),(∀c∈cl,PWf T c)→(∀m∈g,PWf T m.on)→∀m∈cl.foldl (stepG a Q n l) g,PWf T m.on:=by
  intro cl
  induction cl with
  |nil=>intro g _ hg;exact hg
  |cons c cl ih=>
   intro g hc hg;refine ih _ (fun x hx=>hc x (by simp [hx])) fun m hm=> ?_
   unfold stepG at hm;split at hm
   ·exact c0f hg (hc c (by simp)) m hm
   ·exact hg m hm
 exact fun k=>this _ _ (fun c hc=>z1 c (List.mem_of_mem_take hc)) (fun m hm=>by simp at hm)
def AObj.isLp:AObj→Bool
 | .lp .. =>true
 |_=>false
theorem x13 {T:Nat} {c:Prd} (hw:PWf T c) (hz:∀s∈c,s.length≤256) {i:Nat} (hi:i<T):(Qs [c] i).length≤1000000:=by
 have h:i<c.length:=by rw [hw.1];exact hi
 have:Qs [c] i=c[i]:=by simp [Qs,List.getD,h]
 rw [this]
 have:=hz _ (List.getElem_mem h)
 omega
theorem u1b {T:Nat} {p c:Prd} (hp:PWf T p) (hw:PWf T c) (h1:∀s∈p,s.length≤65536) (hz:∀s∈c,s.length≤256) {i:Nat} (hi:i<T):(Qs [p,c] i).length≤1000000:=by
 have h:i<c.length:=by rw [hw.1];exact hi
 have h2:i<p.length:=by rw [hp.1];exact hi
 have:Qs [p,c] i=p[i]++c[i]:=by simp [Qs,List.getD,h,h2]
 rw [this,List.length_append]
 have:=hz _ (List.getElem_mem h)
 have:=h1 _ (List.getElem_mem h2)
 omega
theorem d0o (a:Aut) (cl:List Prd) (Q:List (List Int)):S6 a cl Q Q.length=(Yo a cl Q).mv:=rfl
theorem Mg (a:Aut) (cl:List Prd) (Q:List (List Int)):(Yo a cl Q).fin=Q.map (Dd a):=rfl
theorem w05 (a:Aut) (cl:List Prd) (Q:List (List Int)):(Yo a cl Q).types=a.types:=rfl
theorem Nu (d:Aut):Hi d=if Bc d then (5,Ye) else (0,d):=rfl
theorem x0l (a:Aut) (cl:List Prd) (Q:List (List Int)) (hq:Q.length≤256) (hc:cl.length≤256):(S6 a cl Q Q.length).length≤65536:=by
 have:∀n,(S6 a cl Q n).length≤n * 256:=fun n=>by
  induction n with
  |zero=>simp [S6]
  |succ n ih=>
   have h:=Gx a cl Q n (Q.getD n []) hc cl.length
   rw [D3] at h;rw [X0,List.length_append];omega
 have:=this Q.length
 omega
theorem k0j {p c:Prd} {A B:Nat} (hp:∀s∈p,s.length≤A) (hc:∀s∈c,s.length≤B):∀s∈E0 p c,s.length≤A+B:=by
 intro s hs
 obtain ⟨i,hi,rfl⟩:=List.getElem_of_mem hs
 simp only [E0,List.length_zipWith] at hi;simp only [E0,List.getElem_zipWith];refine Nat.le_trans (Ma _) ?_;rw [List.length_append]
 have h1:=hp _ (List.getElem_mem (by omega:i<p.length))
 have h2:=hc _ (List.getElem_mem (by omega:i<c.length))
 omega
theorem q1r {a:Aut} {Q:List (List Int)} {n:Nat} {l:List Int} {cl:List Prd} (z6:∀c∈cl,∀s∈c,s.length≤256) (z8:cl.length≤256):∀k,∀m∈En a cl Q n l k,∀s∈m.on,s.length≤65536:=by
 have key:∀(cl:List Prd) (g:List Mv) (B:Nat),(∀c∈cl,∀s∈c,s.length≤256)→(∀m∈g,∀s∈m.on,s.length≤B)→∀m∈cl.foldl (stepG a Q n l) g,∀s∈m.on,s.length≤B+cl.length * 256:=by
  intro cl
  induction cl with
  |nil=>intro g B _ hg m hm s hs;have:=hg m hm s hs;simp;omega
  |cons c cl ih=>
   intro g B hc hg m hm s hs
   have h1:∀m∈stepG a Q n l g c,∀s∈m.on,s.length≤B+256:=by
    intro m hm s hs
    have z1:=hc c (by simp)
    unfold stepG R4 at hm;split at hm
    ·split at hm
     ·rcases List.mem_append.1 hm with hm|hm
      ·have:=hg m hm s hs;omega
      ·rw [List.mem_singleton.1 hm] at hs
       have:=z1 s hs;omega
     ·split at hm
      ·rename_i m2 z7
       rcases List.mem_or_eq_of_mem_set hm with hm|rfl
       ·have:=hg m hm s hs;omega
       ·exact k0j (hg _ (List.mem_of_getElem? z7)) z1 s hs
      ·have:=hg m hm s hs;omega
    ·have:=hg m hm s hs;omega
   have:=ih (stepG a Q n l g c) (B+256) (fun x hx=>hc x (by simp [hx])) h1 m hm s hs
   rw [List.length_cons];omega
 intro k m hm s hs
 have:=key (cl.take k) [] 0 (fun c hc=>z6 c (List.mem_of_mem_take hc)) (fun m hm=>by simp at hm) m hm s hs
 rw [List.length_take] at this
 have:min k cl.length≤256:=by omega
 omega
theorem Cd (a:Aut) (cl:List Prd) (Q:List (List Int)):S6 a cl Q 0=[]:=rfl
attribute [local irreducible] Iw Q5 Ql mpT Ra Hi Yo S6 En stepG Dd Bc
set_option maxHeartbeats 8000000 in
theorem Oa (a:Aut):PC Tryz.prog 18 [encA a] (fun r=>r= .tup [encA (Er a).2,.i (Er a).1]):=by
 refine Qm tOk Tryz.func18 rfl Tryz.results18 rfl (by simp [Tryz.ntmps18]) ?_
 rw [Tryz.ntmps18];simp only [Qf];simp only [encA]
 repeat first|((first|refine ra ?_|refine rb ?_|refine rh ?_);simp)|refine qf ?_|refine qg ?_
 have yd:=q0x [.vars (Q4 a),.vars [.i 0,.nils,.nils]] a
 refine Qz rfl rfl yd rfl ?_
 rintro res H' ⟨hk,⟨he,rfl⟩|⟨he,r,p,m,rfl,ht,hr,hp,hm⟩⟩
 ·have hd:Er a=((Iw a).1,Ye):=by rw [Er,if_pos he]
  rw [hd]
  have k0:=hk 0 (by simp)
  have k1:=hk 1 (by simp)
  simp at k0 k1
  simp
  repeat first|((first|refine ra ?_|refine rb ?_|refine rh ?_);simp [Qa k1])|refine qf ?_|refine qg ?_
  refine Qb rfl (fun _=> ?_) (fun h=>by simp at h;exact absurd h he)
  have k2:∀L Y,((H'++L).set 1 Y)[1]? =some Y:=fun L Y=>Qi (Qa k1 L) Y
  repeat first|((first|refine ra ?_|refine rb ?_|refine rh ?_);simp [Qa k1,k2])|refine qf ?_|refine qg ?_
  exact ⟨rfl,rfl,rfl⟩
 ·obtain ⟨zn,cl,Q,x6,vq,xx,z8,zd,zo⟩:=Zz he
  have hd:Er a=Hi (Yo a cl Q):=by rw [Er,x6];simp
  rw [hd];rw [x6] at ht;simp only at ht
  have k0:=hk 0 (by simp)
  have k1:=hk 1 (by simp)
  simp at k0 k1
  have xy:=ht.t
  have vr:=ht.s
  simp
  repeat first|((first|refine ra ?_|refine rb ?_|refine rh ?_);simp [Qa k1])|refine qf ?_|refine qg ?_
  refine Qb rfl (fun h=>by simp [he] at h) (fun _=> ?_)
  have k0a:∀(L:List AObj) hh,(H'++L)[0]'hh= .vars (Q4 a):=fun L hh=>by have:=Qa k0 L;rw [List.getElem?_eq_getElem hh] at this;exact Option.some.inj this
  have ye:=fun L=>Qa (G:=L) xy
  repeat first|((first|refine ra ?_|refine rb ?_|refine rh ?_);simp [Qa k0,k0a,ye])|refine qf ?_|refine qg ?_
  have xz:=Qg ht.t
  have w8:=Qg ht.s
  have wa:=Qg ht.n
  refine Q0 (sl':=[(1,.vptr 0 0),(2,.vptr 1 0),(3,.i 0),(4,.vptr H'.length 0),(6,.vptr (H'.length+1) 0),(30,.sl p 1 0 Q.length),(31,.i Q.length),(32,.i (0:Nat))]) ?_ (by simp)
  refine Rl (H'.length+1) 1 4 1 (xs:=[.i a.types,.nils,.nils]) (by rw [List.getElem?_append_right (by omega)];simp) rfl ?_
  refine Wh fun Z1 zp=> ?_
  have z1l:Z1.length=H'.length+3:=by rw [zp];simp
  have z1c:Z1[H'.length+1]? =some (.vars [.i a.types,.sl (H'.length+2) 1 0 0,.nils]):=by rw [zp,List.getElem?_set_self (by simp)];simp
  have z1f:Z1[H'.length+2]? =some (.arr 4 1 []):=by rw [zp,List.getElem?_set_ne (by omega),List.getElem?_append_right (by simp)];simp
  have z1b:Z1[H'.length]? =some (.vars [.vptr r 0]):=by rw [zp,List.getElem?_set_ne (by omega),List.append_assoc,List.getElem?_append_right (by omega)];simp
  have z1k:∀i,i<H'.length→Z1[i]? =H'[i]? :=fun i hi=>by rw [zp,List.getElem?_set_ne (by omega),List.append_assoc,List.getElem?_append_left hi]
  clear zp;refine Rl (H'.length+1) 2 78 3 z1c rfl ?_;refine Wh fun Z2 y6=> ?_
  have z2c:Z2[H'.length+1]? =some (.vars [.i a.types,.sl (H'.length+2) 1 0 0,.sl (H'.length+3) 3 0 0]):=by rw [y6,List.getElem?_set_self (by simp;omega)];simp [z1l]
  have z2v:Z2[H'.length+3]? =some (.arr 78 3 []):=by rw [y6,List.getElem?_set_ne (by omega),List.getElem?_append_right (by omega)];simp [z1l]
  have z2k:∀i,i<Z1.length→i≠H'.length+1→Z2[i]? =Z1[i]? :=fun i hi wb=>by rw [y6,List.getElem?_set_ne (Ne.symm wb),List.getElem?_append_left hi]
  clear y6
  have hb:=(z2k _ (by omega) (by omega)).trans z1b
  have x7:=(z2k _ (by omega) (by omega)).trans z1f
  have hold:∀i,i<H'.length→Z2[i]? =H'[i]? :=fun i hi=>(z2k i (by omega) (by omega)).trans (z1k i hi)
  have x8:=(hold 0 (Qg k0)).trans k0
  have x9:=(hold 1 (Qg k1)).trans k1
  obtain ⟨zh,z7⟩:∃zh:List (Nat×AObj),zh=[(0,.vars (Q4 a)),(1,.vars [.i 0,.nils,.nils]),(H'.length,.vars [.vptr r 0]),(r,.vars [.i a.types,.list (a.fin.map .bool),.list (a.mv.map encMv),LP cl,.sl p 1 0 Q.length,.mref m]),(p,.arr 40 1 (LQ Q)),(m,mpT (Q.map Ra))]:=⟨_,rfl⟩
  have xa:Fx zh Z2:=by
   rw [z7];intro x hx;simp only [List.mem_cons,List.not_mem_nil,or_false] at hx
   rcases hx with rfl|rfl|rfl|rfl|rfl|rfl
   ·exact x8
   ·exact x9
   ·exact hb
   ·exact (hold r xz).trans ht.t
   ·exact (hold p w8).trans ht.s
   ·exact (hold m wa).trans ht.n
  have we:=z8.lim
  have xb:∀x∈Q,Pp x:=fun x hx=>by
   have he:=z8.elem x hx
   have:=C7 he.1 he.2
   have:=zn.fin
   exact ⟨z8.ne x hx,by omega,fun z hz=>by have:=he.2 z hz;omega⟩
  have wg:=zn.fin
  generalize H'.length+1=c at *;generalize H'.length=b at *;refine Qq (Qc (sl':=[(1,.vptr 0 0),(2,.vptr 1 0),(3,.i 0),(4,.vptr b 0),(6,.vptr c 0),(30,.sl p 1 0 Q.length),(31,.i Q.length),(32,.i (0:Nat))]) ?_ (by simp))
  refine Qp (F:=fun (u:Nat×Nat×Nat×List AObj)=>⟨[(1,.vptr 0 0),(2,.vptr 1 0),(3,.i 0),(4,.vptr b 0),(6,.vptr c 0),(30,.sl p 1 0 Q.length),(31,.i Q.length),(32,.i u.1)],u.2.2.2⟩)
   (fun u=>u.1≤Q.length∧Fx zh u.2.2.2∧u.2.2.2[c]? =some (.vars [.i a.types,.sl u.2.1 1 0 u.1,.sl u.2.2.1 3 0 (S6 a cl Q u.1).length])∧u.2.2.2[u.2.1]? =some (.arr 4 1 (((Q.take u.1).map (Dd a)).map .bool))∧u.2.2.2[u.2.2.1]? =some (.arr 78 3 ((S6 a cl Q u.1).map encMv))) (fun u=>Q.length - u.1) ?_ (0,_,_,Z2) ⟨by simp,xa,by rw [Cd];exact z2c,by simpa using x7,by rw [Cd];exact z2v⟩
  clear xa z2c x7 z2v hb x8 x9 hold z2k z1k z1b z1f z1c z1l;clear Z2 Z1
  rintro ⟨n,f,v,G⟩ ⟨hn,hF,gc,gf,gv⟩ ih
  simp only at hn hF gc gf gv ih ⊢
  repeat first|((first|refine ra ?_|refine rb ?_|refine rh ?_);simp)|refine qf ?_|refine qg ?_
  refine Qb rfl (fun wh=> ?_) (fun y8=> ?_)
  ·have ze:n<Q.length:=by simpa using wh
   have hw:IntKind.i64.wrap ((n:Int)+1)=n+1:=wrap_i64 _ (by omega) (by omega)
   have gs:G[p]? =some (.arr 40 1 (LQ Q)):=hF (p,_) (by rw [z7];simp)
   repeat first|((first|refine ra ?_|refine rb ?_|refine rh ?_);simp [gs,ze])|refine qf ?_|refine qg ?_
   have xc:=List.getElem_mem ze
   have hle:=z8.elem _ xc
   have wi:Q.getD n []=Q[n]:=by simp [List.getD,ze]
   have xd:=X0 a cl Q n
   have wj:(Q.take (n+1)).map (Dd a)=(Q.take n).map (Dd a)++[Dd a Q[n]]:=by rw [List.take_succ_eq_append_getElem ze,List.map_append];rfl
   rw [wi] at xd
   have wk:=(d0t a cl Q (z8.lim) zd n ze).2
   have zq:=z8.closed _ xc
   have vt:=C7 hle.1 hle.2
   have wm:=fun L=>Qa (G:=L) gc
   have g0:∀L,(G++L)[0]? =some (.vars (Q4 a)):=fun L=>Qa (hF (0,_) (by rw [z7];simp)) L
   have wo:((Q.take n).map (Dd a)).length=n:=by simp;omega
   generalize Q[n]=l at *
   have wF:=hF.app [.vars [.i n]]
   have wc:=Qa gc [.vars [.i n]]
   have wf:=Qa gf [.vars [.i n]]
   have wv:=Qa gv [.vars [.i n]]
   have w7:(G++[AObj.vars [.i n]])[G.length]? =some (.vars [.i n]):=by simp
   have w0:=g0 [.vars [.i n]]
   refine Q0 (sl':=[(1,.vptr 0 0),(2,.vptr 1 0),(3,.i 0),(4,.vptr b 0),(6,.vptr c 0),(7,.vptr G.length 0),(8,LI l),(30,.sl p 1 0 Q.length),(31,.i Q.length),(32,.i n)]) ?_ (by simp)
   generalize G.length=n7 at *;generalize G++[AObj.vars [.i n]]=W at *;clear g0 wm gs gc gf gv hF;clear G
   have yf:((Q.take (n+1)).map (Dd a)).map AV.bool=((Q.take n).map (Dd a)).map AV.bool++[.bool (Dd a l)]:=by rw [wj];simp
   have xe:(((Q.take n).map (Dd a)).map AV.bool).length=n:=by rw [List.length_map];exact wo
   generalize ((Q.take n).map (Dd a)).map AV.bool=xs at *
   have zr:c≠f:=fun e=>by rw [e,wf] at wc;simp at wc
   have yg:c≠v:=fun e=>by rw [e,wv] at wc;simp at wc
   have zt:f≠v:=fun e=>by rw [e,wv] at wf;simp at wf
   have xf:c≠n7:=fun e=>by rw [e,w7] at wc;simp at wc
   have xg:f≠n7:=fun e=>by rw [e,w7] at wf;simp at wf
   have z6:∀p∈zh,p.2≠ .vars [.i a.types,.sl f 1 0 n,.sl v 3 0 (S6 a cl Q n).length]:=by rw [z7];simp [Ej]
   have zu:∀p∈zh,p.2≠ .arr 4 1 xs:=by rw [z7];simp [Ej]
   have wq:=Qg wc
   have wu:=Qg wf
   have zv:=Qg wv
   have xh:=Qg w7
   have xi:=wF.set wf zu .dead
   have ya:∀L,(W.set f .dead++L)[c]? =some (.vars [.i a.types,.sl f 1 0 n,.sl v 3 0 (S6 a cl Q n).length]):=fun L=>Qa (Qd (Ne.symm zr) wc _) L
   refine Zq (P:=Tryz.prog) tOk mixed [4,6,8] (.val 0 (.val 2 (.val 3 (.two 1 (.one 4 (.one 5 (.one 6 (.val 7 (.one 8 (.done)))))) 4 (.val 1 (.one 5 (.one 6 (.val 7 (.one 8 (.done)))))))))) (fun S'=>∃f',Fx zh S'.hp∧S'.hp[n7]? =some (.vars [.i n])∧S'.hp[c]? =some (.vars [.i a.types,.sl f' 1 0 (n+1),.sl v 3 0 (S6 a cl Q n).length])∧S'.hp[f']? =some (.arr 4 1 (xs++[.bool (Dd a l)]))∧S'.hp[v]? =some (.arr 78 3 ((S6 a cl Q n).map encMv))∧look S'.sl 1=some (.vptr 0 0)∧look S'.sl 2=some (.vptr 1 0)∧look S'.sl 3=some (.i 0)∧look S'.sl 4=some (.vptr b 0)∧look S'.sl 6=some (.vptr c 0)∧look S'.sl 7=some (.vptr n7 0)∧look S'.sl 8=some (LI l)∧look S'.sl 30=some (.sl p 1 0 Q.length)∧look S'.sl 31=some (.i Q.length)∧look S'.sl 32=some (.i n)) rfl (by kernel_rfl) ?_ ?_
   ·simp [wc]
    refine ⟨?_,?_⟩
    all_goals
     refine Qz rfl rfl (Sl W l 55 (.vptr 0 0) (fun s=>a.fin.getD s.toNat false) (by omega) (fun z hz=>x1a W 0 a w0 z (hle.2 z hz).1 (hle.2 z hz).2)) rfl ?_
     rintro _ H2 ⟨rfl,wx⟩
     rw [wx]
     have wy:l.any (fun s=>a.fin.getD s.toNat false)=Dd a l:=by unfold Dd;rfl
     rw [wy]
     simp [wc]
     refine Qh tOk rfl rfl T22 rfl T4 rfl (by decide) (by decide) rfl rfl rfl ?_
     simp [Qa wf,Qk wf,xe,ya,Qa wc]
     refine ⟨by simp [W2,Qa wf,Qk wf,xe,ya,Qa wc]<;>omega,?_⟩
     refine ⟨?_,?_,W.length+1,?_,?_,?_⟩
     ·exact (xi.app _).set (ya _) z6 _
     ·rw [List.getElem?_set_ne xf,List.getElem?_append_left (by simpa using xh),List.getElem?_set_ne xg];exact w7
     ·rw [List.getElem?_set_self (by simp;omega)]
     ·rw [List.getElem?_set_ne (by omega),List.getElem?_append_right (by simp)];simp
     ·rw [List.getElem?_set_ne yg,List.getElem?_append_left (by simpa using zv),List.getElem?_set_ne zt];exact wv
   ·rintro ⟨sl,E⟩ ⟨f',eF,e7,ec,ef,ev,s1,s2,s3,s4,s6,s7,s8,s30,s31,s32⟩
    simp only at eF e7 ec ef ev s1 s2 s3 s4 s6 s7 s8 s30 s31 s32;refine Q0 (sl':=[(1,.vptr 0 0),(2,.vptr 1 0),(3,.i 0),(4,.vptr b 0),(6,.vptr c 0),(7,.vptr n7 0),(8,LI l),(30,.sl p 1 0 Q.length),(31,.i Q.length),(32,.i n)]) ?_ (by simp [s1,s2,s3,s4,s6,s7,s8,s30,s31,s32])
    clear s1 s2 s3 s4 s6 s7 s8 s30 s31 s32 xi ya z6 zu wq wu zv xh zr yg zt xf xg w0 w7 wv wf wc wF
    have eb:E[b]? =some (.vars [.vptr r 0]):=eF (b,_) (by rw [z7];simp)
    repeat first|((first|refine ra ?_|refine rb ?_|refine rh ?_);simp [ec,Qa eb])|refine qf ?_|refine qg ?_
    have yh:∀g c,Q5 a l (Ql c)=[]→stepG a Q n l g c=g:=fun g c hx=>f03 z8.ne hx
    have yi:∀g c t,Q[t]? =some (Q5 a l (Ql c))→stepG a Q n l g c=R4 n g t c:=fun g c t hx=>g0f z8.nd hx
    have xj:=fun k c hc=>Cy a cl Q n l (k:=k) (c:=c) hc
    have wz:=fun k=>Gx a cl Q n l zd k
    have xk:En a cl Q n l 0=[]:=q0e a cl Q n l
    have v7:=D3 a cl Q n l
    have v8:∀k,∀m∈En a cl Q n l k,PWf a.types.toNat m.on:=w1f (fun c hc=>(zo c hc).2.2.2.1)
    have vb:∀k,∀m∈En a cl Q n l k,∀s∈m.on,s.length≤65536:=q1r (fun c hc=>(zo c hc).2.2.2.2) zd
    have xl:=fun f v G=>ih (n+1,f,v,G)
    simp only [xd,←v7,yf] at xl;clear ih;generalize S6 a cl Q n=pre at *;refine Qz rfl rfl (O6 _ r l) rfl ?_
    rintro _ _ ⟨rfl,rfl⟩
    simp
    repeat first|((first|refine ra ?_|refine rb ?_|refine rh ?_);simp)|refine qf ?_|refine qg ?_
    obtain ⟨zg,z6⟩:∃zg:List (Nat×AObj),zg=zh++[(n7,.vars [.i n]),(E.length,.vars [.i pre.length]),(E.length+1,.vars [.vptr r 0]),(E.length+2,.vars [LI l]),(f',.arr 4 1 (xs++[.bool (Dd a l)]))]:=⟨_,rfl⟩
    refine Rc rfl (Rf:=fun _ H'=>∃v,Fx zg H'∧H'[c]? =some (.vars [.i a.types,.sl f' 1 0 (n+1),.sl v 3 0 (pre++En a cl Q n l cl.length).length])∧H'[v]? =some (.arr 78 3 ((pre++En a cl Q n l cl.length).map encMv))∧∃sl' yj a' b',H'[E.length+3]? =some (.lp true none 100 sl' yj a' b')) ?_ ?_
    ·simp
     refine Cp fun H1 zw=> ?_
     have vc:Fx zg H1:=by
      rw [z6,zw];intro x hx
      rcases List.mem_append.1 hx with hx|hx
      ·exact (eF.app _) x hx
      ·simp only [List.mem_cons,List.not_mem_nil,or_false] at hx
       rcases hx with rfl|rfl|rfl|rfl|rfl
       ·exact Qa e7 _
       ·rw [List.getElem?_append_right (by simp)];simp
       ·rw [List.getElem?_append_right (by simp)];simp
       ·rw [List.getElem?_append_right (by simp)];simp
       ·exact Qa ef _
     have fc:H1[c]? =some (.vars [.i a.types,.sl f' 1 0 (n+1),.sl v 3 0 pre.length]):=by rw [zw];exact Qa ec _
     have fv:H1[v]? =some (.arr 78 3 (pre.map encMv)):=by rw [zw];exact Qa ev _
     have fq:=congrArg (fun h:List AObj=>h[E.length+3]?) zw
     simp at fq;clear zw;refine FC.mono (N8 a zn cl l (fun c hc=>⟨(zo c hc).1,(zo c hc).2.1,(zo c hc).2.2.1⟩) zd (E.length+3) (E.length+1) (E.length+2) r (by rfl) (by rfl)
      (fun k H'=>∃v,Fx zg H'∧H'[c]? =some (.vars [.i a.types,.sl f' 1 0 (n+1),.sl v 3 0 (pre++En a cl Q n l k).length])∧H'[v]? =some (.arr 78 3 ((pre++En a cl Q n l k).map encMv))∧H'[E.length+3]? =H1[E.length+3]?)
      (fun k H' ⟨v',h1,h2,h3,h4⟩=>⟨h4.trans fq,h1 (E.length+1,_) (by rw [z6];simp),h1 (E.length+2,_) (by rw [z6];simp),[.sl p 1 0 Q.length,.mref m],h1 (r,_) (by rw [z6,z7];simp)⟩) ?_ ?_ ?_ H1 ⟨v,vc,by rw [xk,List.append_nil];exact fc,by rw [xk,List.append_nil];exact fv,rfl⟩) ?_
     ·rintro k H' L ⟨v',h1,h2,h3,h4⟩
      exact ⟨v',h1.app L,Qa h2 L,Qa h3 L,by rw [←h4,List.getElem?_append_left (by rw [fq] at h4;exact Qg h4)]⟩
     ·rintro k cc H' hc yk ⟨v',h1,h2,h3,h4⟩
      have:=yh (En a cl Q n l k) cc yk
      rw [←xj k cc hc] at this;exact ⟨v',h1,by rw [this];exact h2,by rw [this];exact h3,h4⟩
     ·rintro k cc H' hc yk ⟨v',h1,h2,h3,h4⟩
      rw [xj k cc hc]
      have zx:=List.mem_of_getElem? hc
      have yl:Q5 a l (Ql cc)∈Q:=(zq cc zx).resolve_left yk
      have ym:=yi (En a cl Q n l k) cc
      have vd:=wz k
      have zj:=v8 k
      have yn:=vb k
      have zi:=zo cc zx
      generalize Q5 a l (Ql cc)=nx at *;generalize stepG a Q n l (En a cl Q n l k) cc=g2 at *;generalize En a cl Q n l k=g at *
      simp [Tj]
      have h8:=h4.trans fq
      obtain ⟨LP0,zk⟩:∃LP0,H1[E.length+3]? =some LP0:=⟨_,fq⟩
      have za:LP0.isLp=true:=by rw [fq] at zk;injection zk with e;rw [←e];rfl
      have zb:H'[E.length+3]? =some LP0:=h4.trans zk
      have yo:∀p∈zg,p.2≠LP0:=fun p hp e=>by
       rw [←e] at za;rw [z6,z7] at hp;simp only [List.mem_append,List.mem_cons,List.not_mem_nil,or_false] at hp
       rcases hp with (rfl|rfl|rfl|rfl|rfl|rfl)|(rfl|rfl|rfl|rfl|rfl)<;>simp [AObj.isLp,Ej] at za
      have y1:=h1.set zb yo .dead
      have yp:E.length+3≠c:=fun e=>by rw [e,h2] at zb;injection zb with e2;rw [←e2] at za;simp [AObj.isLp] at za
      have yq:E.length+3≠v':=fun e=>by rw [e,h3] at zb;injection zb with e2;rw [←e2] at za;simp [AObj.isLp] at za
      have y2:=Qd yp h2 .dead
      have y3:=Qd yq h3 .dead
      have y4:=Qi zb .dead
      generalize H'.set (E.length+3) .dead=Y at *
      have yb:Y[b]? =some (.vars [.vptr r 0]):=y1 (b,_) (by rw [z6,z7];simp)
      have y0:Y[0]? =some (.vars (Q4 a)):=y1 (0,_) (by rw [z6,z7];simp)
      have y7:Y[n7]? =some (.vars [.i n]):=y1 (n7,_) (by rw [z6];simp)
      have y9:Y[E.length]? =some (.vars [.i pre.length]):=y1 (E.length,_) (by rw [z6];simp)
      have yt:TB r p m a cl Q Y:=⟨y1 (r,_) (by rw [z6,z7];simp),y1 (p,_) (by rw [z6,z7];simp),y1 (m,_) (by rw [z6,z7];simp)⟩
      repeat first|((first|refine ra ?_|refine rb ?_|refine rh ?_);simp [Qa yb])|refine qf ?_|refine qg ?_
      refine Qz rfl rfl (Vm _ r p m a cl Q nx (yt.keep fun j hj=> ?_) (xb nx yl) xb (by omega)) rfl ?_
      ·have:j<Y.length:=by
        rcases hj with rfl|rfl|rfl
        ·exact Qg yt.t
        ·exact Qg yt.s
        ·exact Qg yt.n
       exact List.getElem?_append_left this
      rintro res Z ⟨t,p2,rfl,xm,-,-,-,hZ,-⟩
      rw [hZ yl]
      have yr:y0o Q nx=Q:=by rw [y0o,if_pos yl]
      rw [yr] at xm;rw [ym t xm];clear hZ
      simp
      repeat first|((first|refine ra ?_|refine rb ?_|refine rh ?_);simp [Qa y2,Qa y9])|refine qf ?_|refine qg ?_
      have xn:∀M,(Y++M)[v']? =some (.arr 78 3 ((pre++g).map encMv)):=fun M=>Qa y3 M
      refine Qz rfl rfl (k03 (Y++[AObj.vars [.list (cc.map encL)],.vars [.i t]]) v' pre.length t (Y.length+1) pre g (by rw [List.getElem?_append_right (by omega)];simp) (xn _) (by omega) rfl) rfl ?_
      rintro _ _ ⟨rfl,L,rfl⟩
      simp
      repeat first|((first|refine ra ?_|refine rb ?_|refine rh ?_);simp)|refine qf ?_|refine qg ?_
      have w1:=y1.app ([AObj.vars [.list (cc.map encL)],.vars [.i t]]++L)
      have w2:=Qa y2 ([AObj.vars [.list (cc.map encL)],.vars [.i t]]++L)
      have w3:=xn ([AObj.vars [.list (cc.map encL)],.vars [.i t]]++L)
      have w4:=Qa y4 ([AObj.vars [.list (cc.map encL)],.vars [.i t]]++L)
      have w5:(Y++([AObj.vars [.list (cc.map encL)],.vars [.i t]]++L))[Y.length]? =some (.vars [.list (cc.map encL)]):=by rw [List.getElem?_append_right (by omega)];simp
      have w6:(Y++([AObj.vars [.list (cc.map encL)],.vars [.i t]]++L))[Y.length+1]? =some (.vars [.i t]):=by rw [List.getElem?_append_right (by omega)];simp
      have w7:=Qa y7 ([AObj.vars [.list (cc.map encL)],.vars [.i t]]++L)
      have w0:=Qa y0 ([AObj.vars [.list (cc.map encL)],.vars [.i t]]++L)
      have w9:=Qa y9 ([AObj.vars [.list (cc.map encL)],.vars [.i t]]++L)
      have xo:((a.types.toNat:Nat):Int)=a.types:=by have:=zn.types;omega
      simp only [List.cons_append,List.nil_append] at w0 w1 w2 w3 w4 w5 w6 w7 w9;generalize Y++AObj.vars [.list (cc.map encL)]::AObj.vars [.i t]::L=W at *;generalize Y.length+1=i12 at *;generalize Y.length=i10 at *
      have xp:∀p∈zg,p.2≠ .dead:=by rw [z6,z7];simp [Ej]
      have yu:∀p∈zg,p.2≠ .vars [.i a.types,.sl f' 1 0 (n+1),.sl v' 3 0 (pre.length+g.length)]:=by rw [z6,z7];simp [Ej]
      have zy:∀p∈zg,p.2≠ .arr 78 3 ((pre++g).map encMv):=by rw [z6,z7];simp [Ej]
      rw [List.length_append] at w2
      have xq:v'≠c:=fun e=>by rw [e,w2] at w3;simp at w3
      have yv:v'≠E.length+3:=fun e=>by rw [e,w4] at w3;simp at w3
      have yw:c≠E.length+3:=fun e=>by rw [e,w4] at w2;simp at w2
      have lc:=Qg w2
      have lv:=Qg w3
      have lq:=Qg w4
      refine Q0 (sl':=[(1,.vptr 0 0),(6,.vptr c 0),(7,.vptr n7 0),(9,.vptr E.length 0),(10,.vptr i10 0),(12,.vptr i12 0),(13,.i (j0u g t)),(63,.bool (decide (j0u g t<0)))]) ?_ (by simp)
      cases hfi:g.findIdx? fun m:Mv=>decide (m.dst=(t:Int)) with
      |none=>
       have yx:j0u g t= -1:=by rw [j0u,hfi]
       have zl:R4 n g t cc=g++[⟨n,t,cc⟩]:=by rw [R4,hfi]
       rw [yx,zl];refine Qj rfl ?_
       simp
       repeat first|((first|refine ra ?_|refine rb ?_|refine rh ?_);simp)|refine qf ?_|refine qg ?_
       refine Qo tOk mixed [11,13] (.val 0 (.val 1 (.val 2 (.val 3 (.val 4 (.val 5 (.val 6 (.one 7 (.one 8 (.val 9 (.one 10 (.one 11 (.val 12 (.one 13 (.done))))))))))))))) rfl (by kernel_rfl) ?_
       simp [w0,w2,w5,w6,w7]
       refine W7 W.length (e:=76) (c:=1) (xs:=[encP cc]) (by simp) ?_
       simp
       have xr:=K9 a.types.toNat [cc] (by have:=zn.types;omega) (fun p hp=>by rw [List.mem_singleton.1 hp];exact zi.2.2.2.1) (fun j hj=>x13 zi.2.2.2.1 zi.2.2.2.2 hj) (by simp)
       rw [xo,v1o zi.2.2.2.1] at xr;refine Qe rfl rfl (by simp) (xr) rfl ?_
       rintro _ rfl
       simp
       have w2b:∀M,(W++M)[c]? =some (.vars [.i a.types,.sl f' 1 0 (n+1),.sl v' 3 0 (pre.length+g.length)]):=fun M=>Qa w2 M
       have w2c:∀M,(W.set v' .dead++M)[c]? =some (.vars [.i a.types,.sl f' 1 0 (n+1),.sl v' 3 0 (pre.length+g.length)]):=fun M=>Qa (Qd xq w2 _) M
       have zv:((pre++g).map encMv).length=pre.length+g.length:=by simp
       have ve:=(w1.set w3 zy .dead)
       generalize yy:(pre++g).map encMv=mm at *;refine Qh tOk rfl rfl T23 rfl T78 rfl (by decide) (by decide) rfl rfl rfl ?_
       simp [Qa w3,Qk w3,w2b,w2c,zv]
       refine ⟨by simp [W2,Qa w3,Qk w3,w2b,w2c,zv]<;>omega,?_⟩
       repeat first|((first|refine ra ?_|refine rb ?_|refine rh ?_);simp)|refine qf ?_|refine qg ?_
       have zm:((W.set v' AObj.dead++[AObj.dead,AObj.arr 78 3 [.agg [.i n,.i t,.list (cc.map encL)]],AObj.arr 78 3 (mm++[.agg [.i n,.i t,.list (cc.map encL)]])]).set c (AObj.vars [.i a.types,.sl f' 1 0 (n+1),.sl (W.length+2) 3 0 (pre.length+g.length+1)]))[E.length+3]? =some .dead:=by
        rw [List.getElem?_set_ne yw,List.getElem?_append_left (by simpa using lq),List.getElem?_set_ne yv];exact w4
       refine ⟨zm,rfl,((ve.app _).set (w2c _) yu _).set zm xp _,W.length+2,?_,?_,?_⟩
       ·rw [List.getElem?_set_ne (Ne.symm yw),List.getElem?_set_self (by simp;omega)]
        simp [Nat.add_assoc]
       ·rw [List.getElem?_set_ne (by omega),List.getElem?_set_ne (by omega),List.getElem?_append_right (by simp)]
        rw [←yy];simp
       ·rw [fq,List.getElem?_set_self (Qg zm)]
      |some i=>
       have yx:j0u g t=i:=by rw [j0u,hfi]
       obtain ⟨xt,hid,-⟩:=List.findIdx?_eq_some_iff_getElem.1 hfi
       have xu:g[i]? =some g[i]:=List.getElem?_eq_getElem xt
       have zl:R4 n g t cc=g.set i { g[i] with on:=E0 g[i].on cc }:=by rw [R4,hfi];simp [xu]
       rw [yx,zl];refine Qb rfl (fun h=>by simp at h;omega) (fun _=> ?_)
       have vf:IntKind.i64.wrap ((pre.length:Int)+i)=pre.length+i:=wrap_i64 _ (by omega) (by omega)
       have yz:(pre.length:Int)+i<pre.length+g.length:=by omega
       have vg:(0:Int)≤(pre.length:Int)+i:=by omega
       have vh:((pre.length:Int)+i).toNat=pre.length+i:=by omega
       repeat first|((first|refine ra ?_|refine rb ?_|refine rh ?_);simp [w2,w9,vf,yz,vg,vh])|refine qf ?_|refine qg ?_
       have y8:((pre++g).map encMv)[pre.length+i]? =some (.agg [.i g[i].src,.i g[i].dst,.list (g[i].on.map encL)]):=by rw [List.map_append,List.getElem?_append_right (by simp)];simp [xu]
       have x0:((pre++g).map encMv).length=pre.length+g.length:=by simp
       generalize yy:(pre++g).map encMv=mm at *
       have x2:List.range 2=[0,1]:=rfl
       refine Qo tOk mixed [12] (.val 0 (.val 1 (.val 2 (.val 3 (.val 4 (.val 5 (.val 6 (.val 7 (.one 8 (.one 9 (.val 10 (.val 11 (.one 12 (.done)))))))))))))) rfl (by kernel_rfl) ?_
       simp [w0,w3,w5,y8,x0,x2]
       refine W7 W.length (e:=76) (c:=1) (xs:=[encP g[i].on,encP cc]) (by simp) ?_
       simp
       have yc:=List.getElem_mem xt
       have xv:=K9 a.types.toNat [g[i].on,cc] (by have:=zn.types;omega) (fun p hp=>by
        simp only [List.mem_cons,List.not_mem_nil,or_false] at hp
        rcases hp with rfl|rfl
        ·exact zj _ yc
        ·exact zi.2.2.2.1) (fun j hj=>u1b (zj _ yc) zi.2.2.2.1 (yn _ yc) zi.2.2.2.2 hj) (by simp)
       rw [xo,v1j (zj _ yc) zi.2.2.2.1] at xv
       have w3b:∀M,(W++M)[v']? =some (.arr 78 3 mm):=fun M=>Qa w3 M
       refine Qe rfl rfl (by simp) (xv) rfl ?_
       rintro _ rfl
       simp [w3b,y8,Qk w3]
       repeat first|((first|refine ra ?_|refine rb ?_|refine rh ?_);simp)|refine qf ?_|refine qg ?_
       have zm:(W.set v' (AObj.arr 78 3 (mm.set (pre.length+i) (.agg [.i g[i].src,.i g[i].dst,.list ((E0 g[i].on cc).map encL)])))++[AObj.dead])[E.length+3]? =some .dead:=by
        rw [List.getElem?_append_left (by simpa using lq),List.getElem?_set_ne yv];exact w4
       refine ⟨zm,rfl,(((w1.set w3 zy _).app _).set zm xp _),v',?_,?_,?_⟩
       ·rw [List.getElem?_set_ne (Ne.symm yw),List.getElem?_append_left (by simpa using lc),List.getElem?_set_ne xq]
        rw [w2]
       ·rw [List.getElem?_set_ne (Ne.symm yv),List.getElem?_append_left (by simpa using lv),List.getElem?_set_self lv]
        rw [←yy,List.map_append,List.set_append_right _ _ (by simp)]
        simp [List.map_set]
       ·rw [fq,List.getElem?_set_self (Qg zm)]
     ·rintro _ H' ⟨v',h1,h2,h3,h4⟩
      exact ⟨h1,v',by simpa using h2,by simpa using h3,_,_,_,_,h4.trans fq⟩
    ·rintro res H' ⟨v',h1,h2,h3,⟨sl',yj,a',b',h6⟩⟩
     refine ⟨true,none,100,sl',yj,a',b',by simpa using h6,?_⟩
     simp
     have yp:E.length+3≠c:=fun e=>by rw [e,h2] at h6;simp at h6
     have yq:E.length+3≠v':=fun e=>by rw [e,h3] at h6;simp at h6
     have y1:=h1.set h6 (by rw [z6,z7];simp [Ej]) .dead
     have y2:=Qd yp h2 .dead
     have y3:=Qd yq h3 .dead
     generalize H'.set (E.length+3) .dead=Y at *
     repeat first|((first|refine ra ?_|refine rb ?_|refine rh ?_);simp [hw])|refine qf ?_|refine qg ?_
     refine Qc (sl':=[(1,.vptr 0 0),(2,.vptr 1 0),(3,.i 0),(4,.vptr b 0),(6,.vptr c 0),(30,.sl p 1 0 Q.length),(31,.i Q.length),(32,.i (n+1:Nat))]) ?_ (by simp)
     refine xl f' v' Y ⟨by omega,fun x hx=>y1 x (by rw [z6];exact List.mem_append_left _ hx),y2,y1 (f',_) (by rw [z6];simp),y3⟩ (by omega)
  ·have x3:n=Q.length:=by simp at y8;omega
   subst x3
   have zz:S6 a cl Q Q.length=(Yo a cl Q).mv:=d0o a cl Q
   have x4:(Q.take Q.length).map (Dd a)=(Yo a cl Q).fin:=by rw [List.take_length];exact (Mg a cl Q).symm
   have vi:(Yo a cl Q).fin.length=Q.length:=by rw [Mg];simp
   have vj:(Yo a cl Q).mv.length≤65536:=by rw [←zz];exact x0l a cl Q we zd
   rw [zz] at gc gv;rw [x4] at gf;rw [←vi] at gc
   have vk:(Yo a cl Q).types=a.types:=w05 a cl Q
   have yz:Hi (Yo a cl Q)=if Bc (Yo a cl Q) then (5,Ye) else (0,Yo a cl Q):=Nu _
   rw [yz];generalize Yo a cl Q=d at *
   have g1:G[1]? =some (.vars [.i 0,.nils,.nils]):=hF (1,_) (by rw [z7];simp)
   have yg:v≠c:=fun e=>by rw [e,gc] at gv;simp at gv
   have zt:f≠v:=fun e=>by rw [e,gv] at gf;simp at gf
   have yd:f≠c:=fun e=>by rw [e,gc] at gf;simp at gf
   have vl:f≠1:=fun e=>by rw [e,g1] at gf;simp at gf
   have vm:v≠1:=fun e=>by rw [e,g1] at gv;simp at gv
   have vn:c≠1:=fun e=>by rw [e,g1] at gc;simp at gc
   refine Q0 (sl':=[(2,.vptr 1 0),(3,.i 0),(6,.vptr c 0)]) ?_ (by simp)
   refine Wc v gv c gc ?_
   simp [zt]
   rw [List.take_of_length_le (by simp)]
   have x5:=Qg gc
   have vo:=Qg gf
   refine Wh fun Z hZ=> ?_
   have zc:Z[c]? =some (.vars [.i d.types,.sl f 1 0 d.fin.length,.list (d.mv.map encMv)]):=by rw [hZ,vk];exact List.getElem?_set_self (by simpa using x5)
   have zf:Z[f]? =some (.arr 4 1 (d.fin.map .bool)):=by rw [hZ,List.getElem?_set_ne (Ne.symm yd),List.getElem?_set_ne (Ne.symm zt)];exact gf
   have z1:Z[1]? =some (.vars [.i 0,.nils,.nils]):=by rw [hZ,List.getElem?_set_ne vn,List.getElem?_set_ne vm];exact g1
   clear hZ
   repeat first|((first|refine ra ?_|refine rb ?_|refine rh ?_);simp [zc])|refine qf ?_|refine qg ?_
   refine Qz rfl rfl (Gq Z f d zf (by omega) (by omega)) rfl ?_
   rintro res Y ⟨hr,xw⟩
   have y5:=(xw 1 (Qg z1)).trans z1
   have vp:=(xw f (Qg zf)).trans zf
   have x2:∀X,(Y.set 1 X)[1]? =some X:=fun X=>Qi y5 X
   rcases hr with ⟨hb,rfl⟩|⟨hb,rfl⟩
   ·rw [hb]
    simp [y5]
    repeat first|((first|refine ra ?_|refine rb ?_|refine rh ?_);simp [x2])|refine qf ?_|refine qg ?_
    exact ⟨rfl,rfl,rfl⟩
   ·rw [hb]
    simp [y5]
    refine Q0 (sl':=[(2,.vptr 1 0),(3,.i 0)]) ?_ (by simp)
    refine Wc f (Qd (Ne.symm vl) vp _) 1 (Qi y5 _) ?_
    simp
    rw [List.take_of_length_le (by simp)]
    refine Wh fun X hX=> ?_
    have x1:X[1]? =some (.vars [.i d.types,.list (d.fin.map .bool),.list (d.mv.map encMv)]):=by
     rw [hX];exact List.getElem?_set_self (by have:=Qg y5;simpa using this)
    repeat first|((first|refine ra ?_|refine rb ?_|refine rh ?_);simp [x1])|refine qf ?_|refine qg ?_
end Go.Abs
namespace Go.Abs
open Go Go.Proofs Go.Maps Go.RowKit
theorem z1n {a:Aut} (h:(Er a).1=0):OkA (Er a).2:=by
 have h0:(Iw a).1=0:=by
  by_cases hs:(Iw a).1=0
  ·exact hs
  ·rw [Er,if_pos hs] at h;exact absurd h hs
 obtain ⟨z8,cl,Q,z7,za,z1,z6,_,_⟩:=Zz h0
 have hd:Er a=Hi (Yo a cl Q):=by rw [Er,z7];simp
 rw [hd] at h ⊢
 have hw:=z1d z1 z6
 have e:Hi (Yo a cl Q)=(0,(Hi (Yo a cl Q)).2):=Prod.ext h rfl
 have h2:=f0m hw e
 rw [h2.1];exact h2.1▸h2.2
def Yd (l:List Bool) (i:Nat):List Bool:=l.mapIdx fun k b=>if k<i then !b else b
theorem z08 (l:List Bool):Yd l 0=l:=by
 refine List.ext_getElem (by simp [Yd]) fun k h1 h2=>by simp [Yd]
theorem u0c (l:List Bool):Yd l l.length=l.map (!·):=by
 refine List.ext_getElem (by simp [Yd]) fun k h1 h2=> ?_
 have:k<l.length:=by simpa [Yd] using h1
 simp [Yd,this]
theorem k04 (l:List Bool) (i:Nat):(Yd l i).length=l.length:=by simp [Yd]
theorem g08 {l:List Bool} {i:Nat} (h:i<l.length):((Yd l i).map AV.bool)[i]? =some (.bool l[i]):=by
 simp [Yd,h]
theorem x0f {l:List Bool} {i:Nat} (h:i<l.length):((Yd l i).map AV.bool).set i (.bool (!l[i]))=(Yd l (i+1)).map AV.bool:=by
 refine List.ext_getElem (by simp [Yd]) fun k h1 h2=> ?_
 have hk:k<l.length:=by simpa [Yd] using h2
 rw [List.getElem_set]
 by_cases e:i=k
 ·subst e;simp [Yd]
 ·rw [if_neg e];simp only [Yd,List.getElem_map,List.getElem_mapIdx]
  by_cases h3:k<i
  ·rw [if_pos h3,if_pos (by omega)]
  ·rw [if_neg h3,if_neg (by omega)]
attribute [local irreducible] Er Ud Yd
set_option maxHeartbeats 4000000 in
theorem Lx (a:Aut):PC Tryz.prog 20 [encA a] (fun r=>r= .tup [encA (J3 a).2,.i (J3 a).1]):=by
 refine Qm tOk Tryz.func20 rfl Tryz.results20 rfl (by simp [Tryz.ntmps20]) ?_
 rw [Tryz.ntmps20];simp only [Qf];simp only [encA]
 repeat first|((first|refine ra ?_|refine rb ?_|refine rh ?_);simp)|refine qf ?_|refine qg ?_
 refine Qe rfl rfl (by simp) (Oa a) rfl ?_
 rintro _ rfl
 simp
 repeat first|((first|refine ra ?_|refine rb ?_|refine rh ?_);simp)|refine qf ?_|refine qg ?_
 refine Qb rfl (fun h=> ?_) (fun h=> ?_)
 ·have h':(Er a).1≠0:=by simpa using h
  have hc:J3 a=((Er a).1,Ye):=by rw [J3,if_pos h']
  rw [hc]
  repeat first|((first|refine ra ?_|refine rb ?_|refine rh ?_);simp)|refine qf ?_|refine qg ?_
  exact ⟨rfl,rfl,rfl⟩
 have h':(Er a).1=0:=by simpa using h
 have z7:=z1n h'
 have zi:J3 a=if (Ud (Er a).2).1≠0 then ((Ud (Er a).2).1,Ye) else (0,Ul (Ud (Er a).2).2):=by rw [J3,if_neg (fun k=>k h')]
 rw [zi];generalize (Er a).2=d at *
 repeat first|((first|refine ra ?_|refine rb ?_|refine rh ?_);simp)|refine qf ?_|refine qg ?_
 refine Qz rfl rfl (S0 _ d z7) rfl ?_
 rintro r H' ⟨hr,hk⟩
 have z8:=hk 1 (by simp)
 simp at z8
 rcases hr with ⟨e,he,ze,rfl⟩|⟨bb,f,he,rfl,hf,zj⟩
 ·rw [he]
  simp
  repeat first|((first|refine ra ?_|refine rb ?_|refine rh ?_);simp)|refine qf ?_|refine qg ?_
  refine Qb rfl (fun _=> ?_) (fun h=>by simp at h;exact absurd h ze)
  have k2:∀L Y,((H'++L).set 1 Y)[1]? =some Y:=fun L Y=>Qi (Qa z8 L) Y
  repeat first|((first|refine ra ?_|refine rb ?_|refine rh ?_);simp [Qa z8,k2])|refine qf ?_|refine qg ?_
  rw [if_neg ze];exact ⟨⟨rfl,rfl,rfl⟩,rfl⟩
 ·rw [he]
  have zp:bb.fin.length≤256:=by
   have:=(Ki z7 he).1.fin;omega
  simp
  repeat first|((first|refine ra ?_|refine rb ?_|refine rh ?_);simp)|refine qf ?_|refine qg ?_
  refine Qj rfl ?_
  simp
  repeat first|((first|refine ra ?_|refine rb ?_|refine rh ?_);simp)|refine qf ?_|refine qg ?_
  have zf:f≠1:=by simp at zj;omega
  have zq:=Qg hf
  refine Q0 (sl':=[(2,.vptr 1 0),(3,.i 0),(6,.vptr H'.length 0),(28,.i bb.fin.length),(29,.i (0:Nat))]) ?_ (by simp)
  have q6:(H'++[AObj.vars [.i bb.types,.sl f 1 0 bb.fin.length,.list (bb.mv.map encMv)]])[H'.length]? =some (.vars [.i bb.types,.sl f 1 0 bb.fin.length,.list (bb.mv.map encMv)]):=by simp
  have qf:=Qa hf [AObj.vars [.i bb.types,.sl f 1 0 bb.fin.length,.list (bb.mv.map encMv)]]
  have q1:=Qa z8 [AObj.vars [.i bb.types,.sl f 1 0 bb.fin.length,.list (bb.mv.map encMv)]]
  generalize H'++[AObj.vars [.i bb.types,.sl f 1 0 bb.fin.length,.list (bb.mv.map encMv)]]=G at *
  have zk:f≠H'.length:=by omega
  have zl:H'.length≠1:=by have:=Qg z8;omega
  generalize H'.length=c at *;refine Qq (Qc (sl':=[(2,.vptr 1 0),(3,.i 0),(6,.vptr c 0),(28,.i bb.fin.length),(29,.i (0:Nat))]) ?_ (by simp))
  refine Qp (F:=fun (u:Nat×List AObj)=>⟨[(2,.vptr 1 0),(3,.i 0),(6,.vptr c 0),(28,.i bb.fin.length),(29,.i u.1)],u.2⟩)
   (fun u=>u.1≤bb.fin.length∧u.2[c]? =some (.vars [.i bb.types,.sl f 1 0 bb.fin.length,.list (bb.mv.map encMv)])∧u.2[f]? =some (.arr 4 1 ((Yd bb.fin u.1).map .bool))∧u.2[1]? =some (.vars [.i 0,.nils,.nils])) (fun u=>bb.fin.length - u.1) ?_ (0,G) ⟨by simp,q6,by rw [z08];exact qf,q1⟩
  clear q6 qf q1;clear G
  rintro ⟨i,G⟩ ⟨hi,gc,gf,g1⟩ ih
  simp only at hi gc gf g1 ih ⊢
  repeat first|((first|refine ra ?_|refine rb ?_|refine rh ?_);simp)|refine qf ?_|refine qg ?_
  refine Qb rfl (fun zm=> ?_) (fun zn=> ?_)
  ·have z6:i<bb.fin.length:=by simpa using zm
   have hw:IntKind.i64.wrap ((i:Int)+1)=i+1:=wrap_i64 _ (by omega) (by omega)
   have za:=g08 z6
   have zg:=x0f z6
   have zo:((Yd bb.fin i).map AV.bool).length=bb.fin.length:=by rw [List.length_map,k04]
   have zh:=fun G'=>ih (i+1,G')
   simp only [←zg] at zh;clear zg;generalize (Yd bb.fin i).map AV.bool=xs at *
   have zb:∀hh,xs[i]'hh= .bool bb.fin[i]:=fun hh=>by rw [List.getElem?_eq_getElem hh] at za;exact Option.some.inj za
   repeat first|((first|refine ra ?_|refine rb ?_|refine rh ?_);simp)|refine qf ?_|refine qg ?_
   refine Qo tOk mixed [10] (.val 0 (.val 1 (.val 2 (.val 3 (.val 4 (.val 5 (.val 6 (.val 7 (.val 8 (.val 9 (.one 10 (.done)))))))))))) rfl (by kernel_rfl) ?_
   simp [gc,gf,za,zb,zo,z6]
   repeat first|((first|refine ra ?_|refine rb ?_|refine rh ?_);simp [hw])|refine qf ?_|refine qg ?_
   refine Qc (sl':=[(2,.vptr 1 0),(3,.i 0),(6,.vptr c 0),(28,.i bb.fin.length),(29,.i (i+1:Nat))]) ?_ (by simp)
   exact zh _ ⟨by omega,Qd zk gc _,Qi gf _,Qd zf g1 _⟩ (by omega)
  ·have zd:i=bb.fin.length:=by simp at zn;omega
   subst zd;rw [u0c] at gf;refine Wc f gf c gc ?_
   simp
   rw [List.take_of_length_le (by simp)]
   refine Wh fun Z hZ=> ?_
   have zc:Z[c]? =some (.vars [.i bb.types,.list ((bb.fin.map (!·)).map .bool),.list (bb.mv.map encMv)]):=by rw [hZ,List.getElem?_set_self (by have:=Qg gc;simpa using this)];simp
   have z1:Z[1]? =some (.vars [.i 0,.nils,.nils]):=by rw [hZ,List.getElem?_set_ne zl,List.getElem?_set_ne zf];exact g1
   clear hZ
   have z2:∀X,(Z.set 1 X)[1]? =some X:=fun X=>Qi z1 X
   repeat first|((first|refine ra ?_|refine rb ?_|refine rh ?_);simp [zc,z1,z2])|refine qf ?_|refine qg ?_
   refine ⟨rfl,?_,rfl⟩
   simp [Ul]
end Go.Abs
namespace Go.Abs
open Go Go.Proofs Go.Maps Go.RowKit
set_option maxHeartbeats 4000000 in
theorem w11 (a:Aut):PC Tryz.prog 22 [encA a,encA a] (fun r=>r= .bool true):=by
 refine Qm tOk Tryz.func22 rfl Tryz.results22 rfl (by simp [Tryz.ntmps22]) ?_
 rw [Tryz.ntmps22];simp only [Qf];simp only [encA];refine Wy 0 1 rfl rfl (fun hlen=> ?_)
 rw [List.length_map] at hlen;refine Wy 0 2 rfl rfl (fun z6=> ?_)
 rw [List.length_map] at z6
 repeat first|((first|refine ra ?_|refine rb ?_|refine rh ?_);simp)|refine qf ?_|refine qg ?_
 refine Qb rfl (fun h=>by simp at h) (fun _=> ?_)
 repeat first|((first|refine ra ?_|refine rb ?_|refine rh ?_);simp)|refine qf ?_|refine qg ?_
 refine Qy a.fin.length (fun _=>True) (fun j=>[(2,.vptr 0 0),(3,.vptr 1 0),(5,.i j)]) (fun _=>[.vars (Q4 a),.vars (Q4 a)]) rfl (by simp) (by simp) (by simp) (by simp) trivial ?_
 intro j hj _ ih
 repeat first|((first|refine ra ?_|refine rb ?_|refine rh ?_);simp)|refine qf ?_|refine qg ?_
 refine Qb rfl (fun z7=> ?_) (fun z8=> ?_)
 ·have z1:j<a.fin.length:=by simpa using z7
  have hw:IntKind.i64.wrap ((j:Int)+1)=j+1:=wrap_i64 _ (by omega) (by omega)
  repeat first|((first|refine ra ?_|refine rb ?_|refine rh ?_);simp)|refine qf ?_|refine qg ?_
  refine Qo tOk mixed [] (.val 0 (.val 1 (.val 2 (.val 3 (.val 4 (.val 5 (.val 6 (.val 7 (.val 8 (.val 9 (.val 10 (.done)))))))))))) rfl (by kernel_rfl) ?_
  simp [z1]
  refine Qb rfl (fun h=>by simp at h) (fun _=> ?_)
  repeat first|((first|refine ra ?_|refine rb ?_|refine rh ?_);simp [hw])|refine qf ?_|refine qg ?_
  refine Qx _ (ih z1 trivial) rfl (by simp) ?_ (by simp) (by simp)
  simp
 repeat first|((first|refine ra ?_|refine rb ?_|refine rh ?_);simp)|refine qf ?_|refine qg ?_
 refine Qy a.mv.length (fun _=>True) (fun j=>[(2,.vptr 0 0),(3,.vptr 1 0),(6,.i j)]) (fun _=>[.vars (Q4 a),.vars (Q4 a)]) rfl (by simp) (by simp) (by simp) (by simp) trivial ?_
 intro j2 zb _ za
 repeat first|((first|refine ra ?_|refine rb ?_|refine rh ?_);simp)|refine qf ?_|refine qg ?_
 refine Qb rfl (fun z7=> ?_) (fun z8=> ?_)
 ·have z1:j2<a.mv.length:=by simpa using z7
  have hw:IntKind.i64.wrap ((j2:Int)+1)=j2+1:=wrap_i64 _ (by omega) (by omega)
  repeat first|((first|refine ra ?_|refine rb ?_|refine rh ?_);simp)|refine qf ?_|refine qg ?_
  obtain ⟨m,hm⟩:∃m,a.mv[j2]=m:=⟨_,rfl⟩
  refine j0d tOk mixed [12,13] (.val 0 (.val 1 (.val 2 (.val 3 (.val 4 (.val 5 (.val 7 (.three 6 (.val 8 (.three 9 (.two 10 (.one 11 (.one 12 (.one 13 (.done)))) 11 (.one 10 (.one 12 (.one 13 (.done))))) 10 (.two 9 (.one 11 (.one 12 (.one 13 (.done)))) 11 (.two 9 (.one 12 (.one 13 (.done))) 12 (.val 9 (.one 13 (.done))))) 11 (.two 9 (.one 10 (.one 12 (.one 13 (.done)))) 10 (.two 9 (.one 12 (.one 13 (.done))) 12 (.val 9 (.one 13 (.done))))))) 10 (.two 6 (.val 8 (.two 9 (.one 11 (.one 12 (.one 13 (.done)))) 11 (.two 9 (.one 12 (.one 13 (.done))) 12 (.val 9 (.one 13 (.done)))))) 11 (.two 6 (.val 8 (.two 9 (.one 12 (.one 13 (.done))) 12 (.val 9 (.one 13 (.done))))) 12 (.val 6 (.val 8 (.val 9 (.one 13 (.done))))))) 11 (.two 6 (.val 8 (.two 9 (.one 10 (.one 12 (.one 13 (.done)))) 10 (.two 9 (.one 12 (.one 13 (.done))) 12 (.val 9 (.one 13 (.done)))))) 10 (.two 6 (.val 8 (.two 9 (.one 12 (.one 13 (.done))) 12 (.val 9 (.one 13 (.done))))) 12 (.val 6 (.val 8 (.val 9 (.one 13 (.done))))))))))))))) (⟨[(2,.vptr 0 0),(3,.vptr 1 0),(6,.i j2),(7,.vptr 2 0),(8,.vptr 3 0)],[.vars (Q4 a),.vars (Q4 a),.vars [.i m.src,.i m.dst,.list (m.on.map encL)],.vars [.i m.src,.i m.dst,.list (m.on.map encL)]]⟩) rfl (by kernel_rfl) ?_ ?_
  simp [z1,hm]
  ·repeat' apply And.intro
   all_goals first|(refine z06 ?_;simp;done)|exact k02 [0,1,3,2] (by simp) (by decide) (by simp) rfl (by simp) (by simp) (by simp)
  repeat first|((first|refine ra ?_|refine rb ?_|refine rh ?_);simp)|refine qf ?_|refine qg ?_
  refine Qe rfl rfl (by simp) (x09 m.on m.on) rfl ?_
  rintro _ rfl
  simp
  repeat first|((first|refine ra ?_|refine rb ?_|refine rh ?_);simp)|refine qf ?_|refine qg ?_
  refine Qb rfl (fun h=>by simp at h) (fun _=> ?_)
  repeat first|((first|refine ra ?_|refine rb ?_|refine rh ?_);simp [hw])|refine qf ?_|refine qg ?_
  refine Qx _ (za z1 trivial) rfl (by simp) ?_ (by simp) (by simp)
  simp
 repeat first|((first|refine ra ?_|refine rb ?_|refine rh ?_);simp)|refine qf ?_|refine qg ?_
def G9 (lo hi:Int):Prd:=[[⟨lo,hi⟩]]
def exA:Aut:=⟨1,[false,false,true],[⟨0,0,G9 (-1099511627776) 1099511627776⟩,⟨0,1,G9 5 1099511627776⟩,⟨1,2,G9 (-1099511627776) 7⟩]⟩
def d1w (l:List Int):List Sy:=l.map fun n=>⟨0,n⟩
def Zp (a:Aut) (w:List Sy):Bool:=z1i a && decide (w.length≤12) && (f0q a w).2==0
end Go.Abs
namespace Go.Abs
open Go Go.Proofs
def exC:List Prd:=[[[⟨-1099511627776,4⟩]],[[⟨5,7⟩]],[[⟨8,1099511627776⟩]]]
def exQ:List (List Int):=[[0],[0,1],[0,2],[0,1,2]]
def exD:Aut:=Yo exA exC exQ
end Go.Abs
namespace Go.Abs
open Go Go.Proofs Go.Maps Go.RowKit
attribute [simp] T84 T86
attribute [local irreducible] exA exD Er Iw J3 A1 Ud f0q q16 d1w Ul exQ
end Go.Abs
namespace Go.Abs
structure EqvB (n:Nat) (E:Nat→Nat→Bool):Prop where
 refl:∀i,i<n→E i i=true
 symm:∀i k,i<n→k<n→E i k=true→E k i=true
 trans:∀i k j,i<n→k<n→j<n→E i k=true→E k j=true→E i j=true
def J7 (E:Nat→Nat→Bool) (st:List Nat×List Nat) (i:Nat):List Nat×List Nat:=
 match st.1.findIdx? (E i) with
 |some t=>(st.1,st.2++[t])
 |none=>(st.1++[i],st.2++[st.1.length])
def O9 (E:Nat→Nat→Bool) (n:Nat):List Nat×List Nat:=(List.range n).foldl (J7 E) ([],[])
def y1q (E:Nat→Nat→Bool) (st:Nat×List Nat) (i:Nat):Nat×List Nat:=
 match (List.range i).find? (E i) with
 |some k=>(st.1,st.2++[st.2.getD k 0])
 |none=>(st.1+1,st.2++[st.1])
def q2y (E:Nat→Nat→Bool) (n:Nat):Nat×List Nat:=(List.range n).foldl (y1q E) (0,[])
theorem Cg (E:Nat→Nat→Bool) (n:Nat):O9 E (n+1)=J7 E (O9 E n) n:=by rw [O9,List.range_succ,List.foldl_append];rfl
structure ClsS (E:Nat→Nat→Bool) (n:Nat) (fs out:List Nat):Prop where
 len:out.length=n
 asc:fs.Pairwise (·<·)
 lt:∀r∈fs,r<n
 apart:fs.Pairwise (fun r s=>E r s=false)
 num:∀i,i<n→∃t r,out[i]? =some t∧fs[t]? =some r∧r≤i∧E i r=true
theorem Es {α:Type} {l:List α} {i:Nat} {x:α} (h:l[i]? =some x):i<l.length:=(List.getElem?_eq_some_iff.1 h).1
theorem y0a {α:Type} {l:List α} {f:α→Bool} {t:Nat} {x:α} (ht:l[t]? =some x) (hx:f x=true) (hu:∀(i j:Nat) (a b:α),l[i]? =some a→l[j]? =some b→f a=true→f b=true→i=j):l.findIdx? f=some t:=by
 cases hf:l.findIdx? f with
 |none=>
  rw [List.findIdx?_eq_none_iff] at hf
  have:=hf x (List.mem_of_getElem? ht)
  rw [hx] at this;cases this
 |some u=>
  obtain ⟨z1,z6,_⟩:=List.findIdx?_eq_some_iff_getElem.1 hf
  rw [hu u t l[u] x (List.getElem?_eq_getElem z1) ht z6 hx]
theorem ClsS.uniq {E:Nat→Nat→Bool} {N n:Nat} (hE:EqvB N E) (hn:n≤N) {fs out:List Nat} (h:ClsS E n fs out) {i:Nat} (hi:i<N) {u v r s:Nat} (hr:fs[u]? =some r) (hs:fs[v]? =some s) (e1:E i r=true) (e2:E i s=true):u=v:=by
 have z7:=List.mem_of_getElem? hr
 have z8:=List.mem_of_getElem? hs
 have za:=h.lt r z7
 have zb:=h.lt s z8
 have z1:E r s=true:=hE.trans r i s (by omega) hi (by omega) (hE.symm i r hi (by omega) e1) e2
 have z6:E s r=true:=hE.symm r s (by omega) (by omega) z1
 obtain ⟨hu,rfl⟩:=List.getElem?_eq_some_iff.1 hr
 obtain ⟨hv,rfl⟩:=List.getElem?_eq_some_iff.1 hs
 rcases Nat.lt_trichotomy u v with k|k|k
 ·have:=(List.pairwise_iff_getElem.1 h.apart) u v hu hv k
  rw [this] at z1;cases z1
 ·exact k
 ·have:=(List.pairwise_iff_getElem.1 h.apart) v u hv hu k
  rw [this] at z6;cases z6
theorem Vf {E:Nat→Nat→Bool} {N:Nat} (hE:EqvB N E):∀n,n≤N→ClsS E n (O9 E n).1 (O9 E n).2
 |0,_=>⟨rfl,by simp [O9],by simp [O9],by simp [O9],fun i hi=>by omega⟩
 |n+1,hn=>by
  have h:=Vf hE n (by omega)
  rw [Cg];generalize O9 E n=st at *
  obtain ⟨fs,out⟩:=st
  simp only at h;unfold J7;simp only
  cases hf:fs.findIdx? (E n) with
  |some t=>
   obtain ⟨h1,h2,_⟩:=List.findIdx?_eq_some_iff_getElem.1 hf
   simp only;refine ⟨by simp [h.len],h.asc,fun r hr=>by have:=h.lt r hr;omega,h.apart,fun i hi=> ?_⟩
   by_cases e:i=n
   ·subst e;exact ⟨t,fs[t],by rw [List.getElem?_append_right (by rw [h.len];omega)];simp [h.len],List.getElem?_eq_getElem h1,by have:=h.lt _ (List.getElem_mem h1);omega,h2⟩
   ·obtain ⟨t',r,a1,a2,a3,a4⟩:=h.num i (by omega)
    exact ⟨t',r,by rw [List.getElem?_append_left (by rw [h.len];omega)];exact a1,a2,a3,a4⟩
  |none=>
   rw [List.findIdx?_eq_none_iff] at hf;simp only;refine ⟨by simp [h.len],List.pairwise_append.2 ⟨h.asc,by simp,fun r hr s hs=>by rw [List.mem_singleton.1 hs];exact h.lt r hr⟩,fun r hr=> ?_,List.pairwise_append.2 ⟨h.apart,by simp,fun r hr s hs=> ?_⟩,fun i hi=> ?_⟩
   ·rcases List.mem_append.1 hr with hr|hr
    ·have:=h.lt r hr;omega
    ·rw [List.mem_singleton.1 hr];omega
   ·rw [List.mem_singleton.1 hs]
    have z1:=h.lt r hr
    have:=hf r hr
    cases hc:E r n
    ·rfl
    ·rw [hE.symm r n (by omega) (by omega) hc] at this;cases this
   ·by_cases e:i=n
    ·subst e;exact ⟨fs.length,i,by rw [List.getElem?_append_right (by rw [h.len];omega)];simp [h.len],by rw [List.getElem?_append_right (by omega)];simp,by omega,hE.refl i (by omega)⟩
    ·obtain ⟨t',r,a1,a2,a3,a4⟩:=h.num i (by omega)
     exact ⟨t',r,by rw [List.getElem?_append_left (by rw [h.len];omega)];exact a1,by rw [List.getElem?_append_left (Es a2)];exact a2,a3,a4⟩
theorem ClsS.same {E:Nat→Nat→Bool} {n:Nat} (hE:EqvB n E) {fs out:List Nat} (h:ClsS E n fs out) {i k:Nat} (hi:i<n) (hk:k<n):out.getD i 0=out.getD k 0↔E i k=true:=by
 obtain ⟨t,r,a1,a2,a3,a4⟩:=h.num i hi
 obtain ⟨u,s,b1,b2,b3,b4⟩:=h.num k hk
 simp only [List.getD,a1,b1,Option.getD_some];constructor
 ·intro e;subst e;rw [a2] at b2
  cases b2
  exact hE.trans i r k hi (by omega) hk a4 (hE.symm k r hk (by omega) b4)
 ·intro e;refine h.uniq hE (Nat.le_refl n) hi a2 b2 a4 ?_;exact hE.trans i k s hi hk (by omega) e b4
theorem ClsS.first {E:Nat→Nat→Bool} {n:Nat} (hE:EqvB n E) {fs out:List Nat} (h:ClsS E n fs out) {t r:Nat} (ht:fs[t]? =some r):out.findIdx? (fun c=>decide (c=t))=some r:=by
 have hr:=h.lt r (List.mem_of_getElem? ht)
 rw [List.findIdx?_eq_some_iff_getElem];refine ⟨by rw [h.len];exact hr,?_,fun j hj=> ?_⟩
 ·obtain ⟨u,s,a1,a2,a3,a4⟩:=h.num r hr
  have hu:u=t:=h.uniq hE (Nat.le_refl n) hr a2 ht a4 (hE.refl r hr)
  obtain ⟨hl,e⟩:=List.getElem?_eq_some_iff.1 a1
  rw [e,hu];simp
 ·obtain ⟨u,s,a1,a2,a3,a4⟩:=h.num j (by omega)
  obtain ⟨hl,e⟩:=List.getElem?_eq_some_iff.1 a1
  rw [e]
  have:u≠t:=fun e'=>by
   subst e';rw [ht] at a2
   cases a2
   omega
  simpa using this
theorem ClsS.lt_fs {E:Nat→Nat→Bool} {n:Nat} {fs out:List Nat} (h:ClsS E n fs out) {i:Nat} (hi:i<n):out.getD i 0<fs.length:=by
 obtain ⟨t,r,a1,a2,_,_⟩:=h.num i hi
 simp only [List.getD,a1,Option.getD_some];exact Es a2
def eqW (a b:Aut) (p q:Int):Prop:=∀w,(∀x∈w,Eg a x)→H8 a p w=H8 b q w
def eqS (a:Aut) (i k:Nat):Bool:=(lkN (R9 a) ((i:Int),(k:Int))).isNone
theorem Og {a:Aut} {i:Nat} (h:i<a.fin.length):inS a (i:Int):=⟨by omega,by omega⟩
theorem j0m {a b:Aut} (ha:Dfa a) (hb:Dfa b) (ht:b.types=a.types) {p q:Int} (hp:inS a p) (hq:inS b q):(T0 a b p q).1=none↔eqW a b p q:=by
 rcases P8 ha hb ht hp hq with ⟨w,h1,h2⟩|⟨h1,h2⟩
 ·rw [h1];exact ⟨fun h=>(by cases h),fun h=>absurd (h w h2.okw) ((Io a b p q w).1 h2.goodw)⟩
 ·exact ⟨fun _=>h2,fun _=>h1⟩
theorem Ov {a:Aut} (ha:Dfa a) {i k:Nat} (hi:i<a.fin.length) (hk:k<a.fin.length):eqS a i k=true↔eqW a a i k:=by
 rw [←j0m ha ha rfl (Og hi) (Og hk),y09 ha (Og hi) (Og hk),eqS]
 cases lkN (R9 a) ((i:Int),(k:Int))<;>simp
theorem q12 {a:Aut} (ha:Dfa a):EqvB a.fin.length (eqS a):=
 ⟨fun i hi=>(Ov ha hi hi).2 fun _ _=>rfl,fun i k hi hk h=>(Ov ha hk hi).2 fun w hw=>((Ov ha hi hk).1 h w hw).symm,
  fun i k j hi hk hj h h'=>(Ov ha hi hj).2 fun w hw=>((Ov ha hi hk).1 h w hw).trans ((Ov ha hk hj).1 h' w hw)⟩
def fsA (a:Aut):List Nat:=(O9 (eqS a) a.fin.length).1
def clA (a:Aut):List Nat:=(O9 (eqS a) a.fin.length).2
theorem k1a {a:Aut} (ha:Dfa a):ClsS (eqS a) a.fin.length (fsA a) (clA a):=Vf (q12 ha) _ (Nat.le_refl _)
theorem d0g {a:Aut} (ha:Dfa a) {i k:Nat} (hi:i<a.fin.length) (hk:k<a.fin.length):(clA a).getD i 0=(clA a).getD k 0↔eqW a a i k:=by
 rw [(k1a ha).same (q12 ha) hi hk,Ov ha hi hk]
end Go.Abs
namespace Go.Abs
section
variable {α:Type} (key:α→Nat×Int)
def Le (s:List α) (x:α):Nat→Nat
 |0=>0
 |j+1=>match s[j]? with
  |some y=>if Z7 (key x) (key y)=true then Le s x j else j+1
  |none=>j+1
def f0u (s:List α) (x:α):List α:=s.take (Le key s x s.length)++x::s.drop (Le key s x s.length)
def w1s (L:List α):List α:=L.foldl (f0u key) []
def ltG (p q:α):Prop:=Ue (key p).1 (key p).2 (key q).1 (key q).2
theorem Hr (s:List α) (x:α):∀j,j≤s.length→Le key s x j≤j∧(∀i,Le key s x j≤i→i<j→∀h:i<s.length,Z7 (key x) (key s[i])=true)∧(∀i,i+1=Le key s x j→∀h:i<s.length,Z7 (key x) (key s[i])=false)
 |0,_=>⟨Nat.le_refl _,fun i _ h=>by omega,fun i h=>by simp [Le] at h⟩
 |j+1,hj=>by
  have z1:j<s.length:=by omega
  rw [Le,List.getElem?_eq_getElem z1];simp only
  by_cases hb:Z7 (key x) (key s[j])=true
  ·rw [if_pos hb]
   obtain ⟨h1,h2,h3⟩:=Hr s x j (by omega)
   refine ⟨by omega,fun i hi z6 hl=> ?_,h3⟩
   by_cases hij:i=j
   ·subst hij;exact hb
   ·exact h2 i hi (by omega) hl
  ·rw [if_neg hb];refine ⟨Nat.le_refl _,fun i hi z6=>by omega,fun i hi hl=> ?_⟩
   have:i=j:=by omega
   subst this
   simpa using hb
theorem x02 (s:List α) (x:α):(f0u key s x).Perm (x::s):=by
 unfold f0u;refine List.perm_middle.trans ?_;rw [List.take_append_drop]
theorem Vi {s:List α} {x:α} (hs:s.Pairwise (ltG key)) (hd:∀y∈s,key y≠key x):(f0u key s x).Pairwise (ltG key):=by
 obtain ⟨h1,h2,h3⟩:=Hr key s x s.length (Nat.le_refl _)
 unfold f0u;generalize Le key s x s.length=k at *
 have z1:=hs
 rw [←List.take_append_drop k s] at z1
 obtain ⟨p1,p2,p3⟩:=List.pairwise_append.1 z1
 have z7:∀y∈s.drop k,ltG key x y:=fun y hy=>by
  obtain ⟨i,hi⟩:=List.mem_iff_getElem?.1 hy
  rw [List.getElem?_drop] at hi
  obtain ⟨hl,e⟩:=List.getElem?_eq_some_iff.1 hi
  have:=h2 (k+i) (by omega) hl hl
  rw [e] at this;exact (E6 _ _).1 this
 have z8:∀i,i+1=k→∀h:i<s.length,ltG key s[i] x:=fun i hi hl=>by
  have h4:=h3 i hi hl
  have zc:=hd s[i] (List.getElem_mem hl)
  unfold ltG
  rcases Nat.lt_trichotomy (key s[i]).1 (key x).1 with a|a|a
  ·exact .inl a
  ·rcases Int.lt_trichotomy (key s[i]).2 (key x).2 with b|b|b
   ·exact .inr ⟨a,b⟩
   ·exact absurd (Prod.ext a b) zc
   ·have:Z7 (key x) (key s[i])=true:=(E6 _ _).2 (.inr ⟨a.symm,b⟩)
    rw [this] at h4;cases h4
  ·have:Z7 (key x) (key s[i])=true:=(E6 _ _).2 (.inl a)
   rw [this] at h4;cases h4
 have z6:∀y∈s.take k,ltG key y x:=fun y hy=>by
  obtain ⟨i,hi⟩:=List.mem_iff_getElem?.1 hy
  rw [List.getElem?_take] at hi;split at hi
  ·rename_i zd
   obtain ⟨hl,e⟩:=List.getElem?_eq_some_iff.1 hi
   obtain ⟨k',rfl⟩:∃k',k=k'+1:=⟨k - 1,by omega⟩
   have za:k'<s.length:=by omega
   have zb:=z8 k' rfl za
   by_cases hij:i=k'
   ·subst hij;rw [←e];exact zb
   ·have:=List.pairwise_iff_getElem.1 hs i k' hl za (by omega)
    rw [e] at this;exact Ue.trans this zb
  ·cases hi
 refine List.pairwise_append.2 ⟨p1,List.pairwise_cons.2 ⟨z7,p2⟩,fun y hy z hz=> ?_⟩
 rcases List.mem_cons.1 hz with rfl|hz
 ·exact z6 y hy
 ·exact p3 y hy z hz
theorem Hs (L:List α) (hd:L.Pairwise (fun p q=>key p≠key q)):(w1s key L).Perm L∧(w1s key L).Pairwise (ltG key):=by
 have go:∀(r s:List α),s.Pairwise (ltG key)→(s++r).Pairwise (fun p q=>key p≠key q)→(r.foldl (f0u key) s).Perm (s++r)∧(r.foldl (f0u key) s).Pairwise (ltG key):=by
  intro r
  induction r with
  |nil=>intro s h _;simpa using h
  |cons x r ih=>
   intro s h hd
   obtain ⟨d1,d2,d3⟩:=List.pairwise_append.1 hd
   have hi:=Vi key h (fun y hy=>d3 y hy x (by simp))
   have hp:=x02 key s x
   have z1:(f0u key s x++r).Perm (s++x::r):=(hp.append_right r).trans (List.perm_middle (l₁:=s) (a:=x) (l₂:=r)).symm
   have z6:(f0u key s x++r).Pairwise (fun p q=>key p≠key q):=(z1.pairwise_iff (fun h=>Ne.symm h)).2 hd
   obtain ⟨i1,i2⟩:=ih (f0u key s x) hi z6
   rw [List.foldl_cons];exact ⟨i1.trans z1,i2⟩
 have h:=go L [] List.Pairwise.nil (by simpa using hd)
 unfold w1s
 simpa using h
theorem g1g {l l':List α} (hs:l.Pairwise (ltG key)) (z1:l'.Pairwise (ltG key)) (hp:∀x,x∈l↔x∈l'):l=l':=by
 have z6:∀ {X:List α},X.Pairwise (ltG key)→X.Nodup:=fun hx=>hx.imp (fun h e=>by subst e;exact Ue.irr h)
 refine List.Perm.eq_of_pairwise (le:=ltG key) (fun a b _ _ h k=>(Ue.irr (h.trans k)).elim) hs z1 ?_
 exact (List.perm_ext_iff_of_nodup (z6 hs) (z6 z1)).2 hp
end
def clD (cl:List Nat) (m:Mv):Nat:=cl.getD m.dst.toNat 0
def kyM (m:Mv):Nat×Int:=Qu m.on 0
def k1g (a:Aut) (cl:List Nat) (s:Int):List Mv:=(Wb a s).foldl (fun g m=>R4 0 g (clD cl m) m.on) []
def w1y (a:Aut) (cl:List Nat) (s:Int):List Mv:=w1s kyM (k1g a cl s)
def Hc (a:Aut) (cl:List Nat) (s:Int) (t:Nat) (ty:Nat) (y:Int):Prop:=∃m∈Wb a s,clD cl m=t∧PM m.on ty y
structure MrgS (T:Nat) (D:Nat→Nat→Int→Prop) (g:List Mv):Prop where
 wf:∀m∈g,PWf T m.on
 src:∀m∈g,m.src=0
 dst:∀m∈g,∃t:Nat,m.dst=t
 nd:g.Pairwise (fun m k=>m.dst≠k.dst)
 mem:∀m∈g,∀t:Nat,m.dst=t→∀ty y,PM m.on ty y↔D t ty y
 all:∀t ty y,D t ty y→∃m∈g,m.dst=(t:Int)
 ne:∀m∈g,∃ty y,PM m.on ty y
theorem q1o {n to:Nat} {g:List Mv} {c:Prd} {T:Nat} (hg:∀m∈g,∃ty y,PM m.on ty y) (hw:∀m∈g,PWf T m.on) (hc:PWf T c) (z1:∃ty y,PM c ty y):∀m∈R4 n g to c,∃ty y,PM m.on ty y:=by
 intro m hm;unfold R4 at hm;split at hm
 ·rcases List.mem_append.1 hm with hm|hm
  ·exact hg m hm
  ·rw [List.mem_singleton.1 hm];exact z1
 ·split at hm
  ·rename_i m2 z6
   rcases List.mem_or_eq_of_mem_set hm with hm|rfl
   ·exact hg m hm
   ·obtain ⟨ty,y,h⟩:=z1
    exact ⟨ty,y,(Pr (hw _ (List.mem_of_getElem? z6)) hc ty y).2 (.inr h)⟩
  ·exact hg m hm
theorem u1v {a:Aut} (h:WfA a) {s:Int} {m:Mv} (hm:m∈Wb a s):PWf a.types.toNat m.on∧∃ty y,PM m.on ty y:=by
 obtain ⟨h1,h2,h3⟩:=Ey.1 hm
 exact ⟨h.on m h1,(U7 (h.on m h1)).1 h3⟩
theorem Zh {a:Aut} (ha:Dfa a) (cl:List Nat) (s:Int):MrgS a.types.toNat (Hc a cl s) (k1g a cl s):=by
 obtain ⟨N,hN⟩:∃N,∀m∈Wb a s,clD cl m<N:=by
  refine ⟨(cl.foldl max 0)+1,fun m _=> ?_⟩
  have key:∀(l:List Nat) (b:Nat),b≤l.foldl max b∧∀x∈l,x≤l.foldl max b:=by
   intro l
   induction l with
   |nil=>intro b;simp
   |cons x l ih=>
    intro b
    obtain ⟨h1,h2⟩:=ih (max b x)
    rw [List.foldl_cons];refine ⟨by omega,fun y hy=> ?_⟩
    rcases List.mem_cons.1 hy with rfl|hy
    ·omega
    ·exact h2 y hy
  unfold clD
  by_cases hl:m.dst.toNat<cl.length
  ·have:=(key cl 0).2 _ (List.getElem_mem hl)
   simp only [List.getD,List.getElem?_eq_getElem hl,Option.getD_some];omega
  ·simp [List.getD,List.getElem?_eq_none (by omega:cl.length≤m.dst.toNat)]
 have key:∀(r:List Mv) (D:Nat→Nat→Int→Prop) (g:List Mv),MInv a.types.toNat N 0 D g→(∀m∈g,∃ty y,PM m.on ty y)→(∀m∈r,m∈Wb a s)→
   MInv a.types.toNat N 0 (fun t ty y=>D t ty y∨∃m∈r,clD cl m=t∧PM m.on ty y) (r.foldl (fun g m=>R4 0 g (clD cl m) m.on) g)∧∀m∈r.foldl (fun g m=>R4 0 g (clD cl m) m.on) g,∃ty y,PM m.on ty y:=by
  intro r
  induction r with
  |nil=>intro D g h hn _;exact ⟨h.congr (fun t ty y=>by simp),hn⟩
  |cons c r ih=>
   intro D g h hn hr;rw [List.foldl_cons]
   have hc:=u1v ha.ok.wfA (hr c (by simp))
   obtain ⟨i1,i2⟩:=ih _ _ (h.add (hN c (hr c (by simp))) hc.1 hc.2) (q1o hn h.wf hc.1 hc.2) (fun d hd=>hr d (by simp [hd]))
   refine ⟨i1.congr (fun t ty y=> ?_),i2⟩
   simp only [List.mem_cons,exists_eq_or_imp,or_assoc];constructor
   ·rintro (h|⟨e,h⟩|h)
    ·exact .inl h
    ·exact .inr (.inl ⟨e.symm,h⟩)
    ·exact .inr (.inr h)
   ·rintro (h|⟨e,h⟩|h)
    ·exact .inl h
    ·exact .inr (.inl ⟨e.symm,h⟩)
    ·exact .inr (.inr h)
 have h0:MInv a.types.toNat N 0 (fun _ _ _=>False) []:=⟨by simp,by simp,by simp,by simp,by simp,fun _ _ _ h=>h.elim⟩
 obtain ⟨h1,h2⟩:=key (Wb a s) _ [] h0 (by simp) (fun m hm=>hm)
 have h3:=h1.congr (D':=Hc a cl s) (fun t ty y=>by simp [Hc])
 exact ⟨h3.wf,h3.src,fun m hm=>by obtain ⟨t,_,e⟩:=h3.dst m hm;exact ⟨t,e⟩,h3.nd,h3.mem,h3.all,h2⟩
theorem MrgS.perm {T:Nat} {D:Nat→Nat→Int→Prop} {g g':List Mv} (h:MrgS T D g) (hp:g.Perm g'):MrgS T D g':=
 ⟨fun m hm=>h.wf m (hp.mem_iff.2 hm),fun m hm=>h.src m (hp.mem_iff.2 hm),fun m hm=>h.dst m (hp.mem_iff.2 hm),(hp.pairwise_iff (fun h=>Ne.symm h)).1 h.nd,fun m hm=>h.mem m (hp.mem_iff.2 hm),
  fun t ty y hd=>by obtain ⟨m,hm,e⟩:=h.all t ty y hd;exact ⟨m,hp.mem_iff.1 hm,e⟩,fun m hm=>h.ne m (hp.mem_iff.2 hm)⟩
theorem MrgS.sub {T:Nat} {D:Nat→Nat→Int→Prop} {g g':List Mv} (h:MrgS T D g) (h':MrgS T D g') {m:Mv} (hm:m∈g):m∈g':=by
 obtain ⟨t,ht⟩:=h.dst m hm
 obtain ⟨ty,y,hy⟩:=h.ne m hm
 obtain ⟨k,hk,z1⟩:=h'.all t ty y ((h.mem m hm t ht ty y).1 hy)
 have z6:m.on=k.on:=Ox (h.wf m hm) (h'.wf k hk) fun t' n'=>by rw [h.mem m hm t ht,h'.mem k hk t z1]
 have:m=k:=by
  cases m;cases k
  simp only at ht z1 z6
  have e1:=h.src _ hm
  have e2:=h'.src _ hk
  simp only at e1 e2;subst z6;rw [e1,e2,ht,z1]
 rw [this];exact hk
theorem MrgS.apart {T:Nat} {D:Nat→Nat→Int→Prop} {g:List Mv} (h:MrgS T D g) (hD:∀t t' ty y,D t ty y→D t' ty y→t=t'):g.Pairwise (fun p q=>kyM p≠kyM q):=
 h.nd.imp_of_mem fun {p q} hp hq z1 e=>by
  obtain ⟨t,ht⟩:=h.dst p hp
  obtain ⟨u,hu⟩:=h.dst q hq
  have h1:=(Wu (h.wf p hp) (h.ne p hp)).1
  have h2:=(Wu (h.wf q hq) (h.ne q hq)).1
  unfold kyM at e;rw [e] at h1
  have:=hD t u _ _ ((h.mem p hp t ht _ _).1 h1) ((h.mem q hq u hu _ _).1 h2)
  rw [ht,hu,this] at z1;exact z1 rfl
theorem MrgS.uniq {T:Nat} {D:Nat→Nat→Int→Prop} {g g':List Mv} (h:MrgS T D g) (h':MrgS T D g') (s:g.Pairwise (ltG kyM)) (s':g'.Pairwise (ltG kyM)):g=g':=
 g1g kyM s s' fun _=>⟨h.sub h',h'.sub h⟩
theorem Dfa.dom {a:Aut} (ha:Dfa a) {cl:List Nat} {s:Int} {t ty:Nat} {y:Int}:Hc a cl s t ty y↔(∃x:Sy,Eg a x∧x.ty.toNat=ty∧x.num=y∧∃m∈a.mv,m.src=s∧Tz m.on x=true∧cl.getD m.dst.toNat 0=t):=by
 constructor
 ·rintro ⟨m,hm,h1,h2⟩
  obtain ⟨g1,g2,g3⟩:=Ey.1 hm
  obtain ⟨z6,z1⟩:=(ha.ok.wfA.on m g1).lt h2
  have hx:Eg a ⟨ty,y⟩:=⟨⟨by simp,by have:=ha.ok.types;simp;omega⟩,z1⟩
  exact ⟨⟨ty,y⟩,hx,by simp,rfl,m,g1,g2,(Yj ha.ok.wfA g1 hx).2 (by simpa using h2),h1⟩
 ·rintro ⟨x,hx,rfl,rfl,m,hm,h1,h2,h3⟩
  have hp:=(Yj ha.ok.wfA hm hx).1 h2
  exact ⟨m,Ey.2 ⟨hm,h1,(U7 (ha.ok.wfA.on m hm)).2 ⟨_,_,hp⟩⟩,h3,hp⟩
theorem k0f {a:Aut} (ha:Dfa a) {cl:List Nat} {s:Int} (hs:inS a s) {t ty:Nat} {y:Int}:Hc a cl s t ty y↔∃x:Sy,Eg a x∧x.ty.toNat=ty∧x.num=y∧cl.getD (toL a s x).toNat 0=t:=by
 rw [ha.dom];constructor
 ·rintro ⟨x,hx,h1,h2,m,hm,rfl,h4,h5⟩
  exact ⟨x,hx,h1,h2,by rw [ha.to_of hm hx h4];exact h5⟩
 ·rintro ⟨x,hx,h1,h2,h3⟩
  obtain ⟨m,hm,e1,e2,e3⟩:=ha.move hs hx
  exact ⟨x,hx,h1,h2,m,hm,e1,e2,by rw [e3];exact h3⟩
theorem c1r {x y:Sy} {a:Aut} (hx:Eg a x) (hy:Eg a y) (h:x.ty.toNat=y.ty.toNat) (h2:x.num=y.num):x=y:=by
 have:=hx.1.1;have:=hy.1.1
 cases x;cases y
 simp only at *
 have:∀ {a b:Int},0≤a→0≤b→a.toNat=b.toNat→a=b:=fun h0 h1 h=>by omega
 simp only [Sy.mk.injEq];exact ⟨this ‹_› ‹_› h,h2⟩
theorem Cs {a:Aut} (ha:Dfa a) {cl:List Nat} {s:Int} (hs:inS a s) {t t' ty:Nat} {y:Int} (h:Hc a cl s t ty y) (h':Hc a cl s t' ty y):t=t':=by
 obtain ⟨x,hx,h1,h2,h3⟩:=(k0f ha hs).1 h
 obtain ⟨x',z1,z6,z7,z8⟩:=(k0f ha hs).1 h'
 have:x=x':=c1r hx z1 (h1.trans z6.symm) (h2.trans z7.symm)
 subst this;exact h3.symm.trans z8
theorem Gj {a:Aut} (ha:Dfa a) (cl:List Nat) {s:Int} (hs:inS a s):MrgS a.types.toNat (Hc a cl s) (w1y a cl s)∧(w1y a cl s).Pairwise (ltG kyM):=by
 have h:=Zh ha cl s
 obtain ⟨h1,h2⟩:=Hs kyM (k1g a cl s) (h.apart fun t t' ty y=>Cs ha hs)
 exact ⟨h.perm h1.symm,h2⟩
def I1 (a:Aut) (cl:List Nat) (s:Int) (t:Nat):List Prd:=((Wb a s).filter fun m=>decide (clD cl m=t)).map (·.on)
theorem u0s {a:Aut} (ha:Dfa a) (cl:List Nat) (s:Int) {ks:List Nat} (z7:ks.Nodup) (hk:∀t,t∈ks↔∃m∈Wb a s,clD cl m=t):
  MrgS a.types.toNat (Hc a cl s) (ks.map fun t:Nat=>(⟨0,(t:Int),Uc a.types.toNat (I1 a cl s t)⟩:Mv)):=by
 have z1:∀t,∀p∈I1 a cl s t,PWf a.types.toNat p:=fun t p hp=>by
  obtain ⟨m,hm,rfl⟩:=List.mem_map.1 hp
  exact (u1v ha.ok.wfA (List.mem_filter.1 hm).1).1
 have z6:∀t ty y,PM (Uc a.types.toNat (I1 a cl s t)) ty y↔Hc a cl s t ty y:=fun t ty y=>by
  rw [Zi (z1 t)];constructor
  ·rintro ⟨p,hp,h⟩
   obtain ⟨m,hm,rfl⟩:=List.mem_map.1 hp
   obtain ⟨h1,h2⟩:=List.mem_filter.1 hm
   exact ⟨m,h1,by simpa using h2,h⟩
  ·rintro ⟨m,hm,h1,h2⟩
   exact ⟨m.on,List.mem_map.2 ⟨m,List.mem_filter.2 ⟨hm,by simpa using h1⟩,rfl⟩,h2⟩
 refine ⟨fun m hm=> ?_,fun m hm=> ?_,fun m hm=> ?_,?_,fun m hm t e ty y=> ?_,fun t ty y hd=> ?_,fun m hm=> ?_⟩
 ·obtain ⟨t,_,rfl⟩:=List.mem_map.1 hm;exact Hx (z1 t)
 ·obtain ⟨t,_,rfl⟩:=List.mem_map.1 hm;rfl
 ·obtain ⟨t,_,rfl⟩:=List.mem_map.1 hm;exact ⟨t,rfl⟩
 ·exact List.pairwise_map.2 (z7.imp fun h e=>h (Int.ofNat.inj e))
 ·obtain ⟨u,_,rfl⟩:=List.mem_map.1 hm
  have:u=t:=Int.ofNat.inj e
  subst this;exact z6 u ty y
 ·obtain ⟨m,hm,h1,h2⟩:=hd
  exact ⟨_,List.mem_map.2 ⟨t,(hk t).2 ⟨m,hm,h1⟩,rfl⟩,rfl⟩
 ·obtain ⟨t,ht,rfl⟩:=List.mem_map.1 hm
  obtain ⟨m,hm,h1⟩:=(hk t).1 ht
  obtain ⟨ty,y,hp⟩:=(u1v ha.ok.wfA hm).2
  exact ⟨ty,y,(z6 t ty y).2 ⟨m,hm,h1,hp⟩⟩
end Go.Abs
namespace Go.Abs
def z1a (cl:List Nat) (t:Nat):Nat:=(cl.findIdx? fun c=>decide (c=t)).getD 0
def Ke (a:Aut) (t:Nat):Prop:=t<(fsA a).length
def E9 (a:Aut) (s:Int):Nat:=(clA a).getD s.toNat 0
def Un (a:Aut) (t:Nat):Nat:=z1a (clA a) t
theorem Yp {a:Aut} {s:Int} (h:inS a s):s.toNat<a.fin.length∧((s.toNat:Nat):Int)=s:=by unfold inS at h;omega
theorem Al {a:Aut} (ha:Dfa a) {t:Nat} (ht:Ke a t):Un a t<a.fin.length∧E9 a (Un a t)=t:=by
 have h:=k1a ha
 have hf:=h.first (q12 ha) (List.getElem?_eq_getElem ht)
 have hr:Un a t=(fsA a)[t]:=by rw [Un,z1a,hf];rfl
 rw [List.findIdx?_eq_some_iff_getElem] at hf
 obtain ⟨h1,h2,_⟩:=hf
 rw [hr];refine ⟨by rw [h.len] at h1;exact h1,?_⟩
 simp only [E9,Int.toNat_natCast,List.getD,List.getElem?_eq_getElem h1,Option.getD_some]
 simpa using h2
theorem Mj {a:Aut} (ha:Dfa a) {t:Nat} (ht:Ke a t):inS a (Un a t:Int):=Og (Al ha ht).1
theorem Ml {a:Aut} (ha:Dfa a) {s:Int} (hs:inS a s):Ke a (E9 a s):=(k1a ha).lt_fs (Yp hs).1
theorem v1c {a:Aut} (ha:Dfa a) {s t:Int} (hs:inS a s) (ht:inS a t):E9 a s=E9 a t↔eqW a a s t:=by
 have h1:=Yp hs
 have h2:=Yp ht
 rw [E9,E9,d0g ha h1.1 h2.1,h1.2,h2.2]
def Df (o:List Nat) (c:Nat):List Nat:=if c∈o then o else o++[c]
def Wg (o:List Nat) (l:List Mv):List Nat:=l.foldl (fun o m=>Df o m.dst.toNat) o
def O1 (a:Aut) (t:Nat):List Mv:=w1y a (clA a) (Un a t:Int)
def Fo (a:Aut):Nat→Nat→List Nat→List Nat
 |0,_,o=>o
 |f+1,n,o=>match o[n]? with
  |none=>o
  |some c=>Fo a f (n+1) (Wg o (O1 a c))
def y0l (a:Aut):List Nat:=Fo a (a.fin.length+1) 0 [E9 a 0]
def Lj (o:List Nat) (c:Nat):Nat:=(o.findIdx? fun d=>decide (d=c)).getD 0
def mvN (a:Aut) (o:List Nat) (n:Nat):List Mv:=(O1 a (o.getD n 0)).map fun m=>⟨n,(Lj o m.dst.toNat:Int),m.on⟩
def Gl (a:Aut) (o:List Nat):Aut:=⟨a.types,o.map fun c=>a.fin.getD (Un a c) false,(List.range o.length).flatMap (mvN a o)⟩
def Ee (a:Aut):Aut:=Gl a (y0l a)
theorem Dn (o:List Nat) (c:Nat):∃r,Df o c=o++r∧∀x∈r,x=c:=by
 unfold Df;split
 ·exact ⟨[],by simp,by simp⟩
 ·exact ⟨[c],rfl,fun x hx=>List.mem_singleton.1 hx⟩
theorem Bk (o:List Nat) (c:Nat):c∈Df o c:=by
 unfold Df;split
 ·assumption
 ·simp
theorem q0f {o:List Nat} (h:o.Nodup) (c:Nat):(Df o c).Nodup:=by
 unfold Df;split
 ·exact h
 ·rename_i hc
  exact List.nodup_append.2 ⟨h,by simp,fun x hx y hy e=>by rw [List.mem_singleton.1 hy] at e;exact hc (e▸hx)⟩
theorem Of:∀(l:List Mv) (o:List Nat),o.Nodup→(∃r,Wg o l=o++r∧∀x∈r,∃m∈l,x=m.dst.toNat)∧(Wg o l).Nodup∧∀m∈l,m.dst.toNat∈Wg o l
 |[],o,h=>⟨⟨[],by simp [Wg],by simp⟩,h,by simp⟩
 |m::l,o,h=>by
  obtain ⟨⟨r,h1,h2⟩,h3,h4⟩:=Of l (Df o m.dst.toNat) (q0f h _)
  obtain ⟨r',h5,h6⟩:=Dn o m.dst.toNat
  have he:Wg o (m::l)=Wg (Df o m.dst.toNat) l:=rfl
  rw [he];refine ⟨⟨r'++r,by rw [h1,h5,List.append_assoc],fun x hx=> ?_⟩,h3,fun k hk=> ?_⟩
  ·rcases List.mem_append.1 hx with hx|hx
   ·exact ⟨m,by simp,h6 x hx⟩
   ·obtain ⟨k,hk,e⟩:=h2 x hx
    exact ⟨k,by simp [hk],e⟩
  ·rcases List.mem_cons.1 hk with rfl|hk
   ·rw [h1];exact List.mem_append_left _ (Bk _ _)
   ·exact h4 k hk
theorem Ko {a:Aut} (ha:Dfa a) {t:Nat} (ht:Ke a t) {m:Mv} (hm:m∈O1 a t):∃x,Eg a x∧m.dst=(E9 a (toL a (Un a t) x):Nat)∧inS a (toL a (Un a t) x)∧Ke a (E9 a (toL a (Un a t) x))∧PM m.on x.ty.toNat x.num:=by
 have hs:=Mj ha ht
 have h:=(Gj ha (clA a) hs).1
 obtain ⟨u,hu⟩:=h.dst m hm
 obtain ⟨ty,y,hy⟩:=h.ne m hm
 obtain ⟨x,hx,rfl,rfl,h3⟩:=(k0f ha hs).1 ((h.mem m hm u hu ty y).1 hy)
 have z1:=(ha.next hs hx).1
 exact ⟨x,hx,by rw [hu,←h3];rfl,z1,Ml ha z1,hy⟩
structure OrdS (a:Aut) (o:List Nat):Prop where
 first:o[0]? =some (E9 a 0)
 nd:o.Nodup
 cl:∀c∈o,Ke a c
 closed:∀c∈o,∀m∈O1 a c,m.dst.toNat∈o
theorem v0c {a:Aut} (ha:Dfa a):(fsA a).length≤a.fin.length:=by
 have h:=k1a ha
 have z1:(fsA a).Nodup:=h.asc.imp fun h e=>by omega
 have:=z1.length_le_of_subset (l₂:=List.range a.fin.length) fun r hr=>List.mem_range.2 (h.lt r hr)
 simpa using this
theorem j0j {a:Aut} (ha:Dfa a) {o:List Nat} (hn:o.Nodup) (hc:∀c∈o,Ke a c):o.length≤a.fin.length:=by
 have:=hn.length_le_of_subset (l₂:=List.range (fsA a).length) fun c hx=>List.mem_range.2 (hc c hx)
 have h2:=v0c ha
 simp at this;omega
theorem Xr {a:Aut} (ha:Dfa a):∀(f n:Nat) (o:List Nat),a.fin.length+1≤n+f→n≤o.length→o[0]? =some (E9 a 0)→o.Nodup→(∀c∈o,Ke a c)→(∀i c,i<n→o[i]? =some c→∀m∈O1 a c,m.dst.toNat∈o)→OrdS a (Fo a f n o)
 |0,n,o,hf,hn,h0,z6,z1,hc=>by
  have:=j0j ha z6 z1
  omega
 |f+1,n,o,hf,hn,h0,z6,z1,hc=>by
  unfold Fo
  cases hon:o[n]? with
  |none=>
   simp only
   have hl:o.length≤n:=by simpa using hon
   refine ⟨h0,z6,z1,fun c hx m hm=> ?_⟩
   obtain ⟨i,hi⟩:=List.mem_iff_getElem?.1 hx
   exact hc i c (by have:=Es hi;omega) hi m hm
  |some c=>
   simp only
   have z8:=Es hon
   obtain ⟨⟨r,h1,h2⟩,h3,h4⟩:=Of (O1 a c) o z6
   have z7:=z1 c (List.mem_of_getElem? hon)
   refine Xr ha f (n+1) _ (by omega) (by rw [h1,List.length_append];omega) ?_ h3 (fun d hd=> ?_) fun i d hi hd m hm=> ?_
   ·rw [h1,List.getElem?_append_left (by omega)];exact h0
   ·rw [h1] at hd
    rcases List.mem_append.1 hd with hd|hd
    ·exact z1 d hd
    ·obtain ⟨m,hm,e⟩:=h2 d hd
     obtain ⟨x,_,e2,_,e4,_⟩:=Ko ha z7 hm
     rw [e,e2];simpa using e4
   ·rw [h1,List.getElem?_append_left (by omega)] at hd
    by_cases e:i=n
    ·subst e;rw [hon] at hd
     cases hd
     exact h4 m hm
    ·rw [h1];exact List.mem_append_left _ (hc i d (by omega) hd m hm)
theorem Zo {a:Aut} (ha:Dfa a):OrdS a (y0l a):=
 Xr ha _ 0 _ (by omega) (by simp) rfl (by simp) (fun c hc=>by rw [List.mem_singleton.1 hc];exact Ml ha ha.zero) (fun i c hi=>by omega)
section
variable {a b:Aut} (ha:Dfa a) (hb:Dfa b) (ht:b.types=a.types)
def q2u (a b:Aut) (c d:Nat):Prop:=Ke a c∧Ke b d∧eqW a b (Un a c) (Un b d)
structure LkO (a b:Aut) (o o':List Nat):Prop where
 len:o.length=o'.length
 k:∀(i c d:Nat),o[i]? =some c→o'[i]? =some d→q2u a b c d
theorem v1g {a b:Aut} (ht:b.types=a.types) {x:Sy}:Eg b x↔Eg a x:=by unfold Eg;rw [ht]
include ha hb ht
end
end Go.Abs
namespace Go.Abs
theorem g1c {α:Type} {l:List α} (h:l.Nodup) {i j:Nat} (hi:i<l.length) (hj:j<l.length) (e:l[i]=l[j]):i=j:=by
 rcases Nat.lt_trichotomy i j with k|k|k
 ·exact absurd e (List.pairwise_iff_getElem.1 h i j hi hj k)
 ·exact k
 ·exact absurd e.symm (List.pairwise_iff_getElem.1 h j i hj hi k)
theorem j0e {o:List Nat} (hn:o.Nodup) {i c:Nat} (h:o[i]? =some c):Lj o c=i:=by
 unfold Lj
 have:(o.findIdx? fun d=>decide (d=c))=some i:=y0a h (by simp) fun i j x y hx hy e1 e2=>by
  have e3:x=c:=by simpa using e1
  have e4:y=c:=by simpa using e2
  subst e3 e4
  obtain ⟨hi,e5⟩:=List.getElem?_eq_some_iff.1 hx
  obtain ⟨hj,e6⟩:=List.getElem?_eq_some_iff.1 hy
  exact g1c hn hi hj (e5.trans e6.symm)
 rw [this];rfl
theorem c0h {o:List Nat} (hn:o.Nodup) {c:Nat} (h:c∈o):o[Lj o c]? =some c:=by
 obtain ⟨i,hi⟩:=List.mem_iff_getElem?.1 h
 rw [j0e hn hi];exact hi
theorem Fu {a:Aut} {o:List Nat} {m:Mv}:m∈(Gl a o).mv↔∃(n c:Nat),o[n]? =some c∧∃k∈O1 a c,m=⟨n,(Lj o k.dst.toNat:Int),k.on⟩:=by
 unfold Gl mvN;simp only [List.mem_flatMap,List.mem_range,List.mem_map];constructor
 ·rintro ⟨n,hn,k,hk,rfl⟩
  have e:o.getD n 0=o[n]:=by simp [List.getD,hn]
  rw [e] at hk;exact ⟨n,_,List.getElem?_eq_getElem hn,k,hk,rfl⟩
 ·rintro ⟨n,c,hn,k,hk,rfl⟩
  have e:o.getD n 0=c:=by simp [List.getD,hn]
  exact ⟨n,Es hn,k,by rw [e];exact hk,rfl⟩
theorem g06 {a:Aut} (o:List Nat):(Gl a o).fin.length=o.length:=by simp [Gl]
theorem Vq (a:Aut):(Ee a).types=a.types:=rfl
theorem w1b {a:Aut} (ha:Dfa a):WfA (Ee a):=by
 have ho:=Zo ha
 have z1:(Ee a).fin.length=(y0l a).length:=g06 _
 have z6:=Es ho.first
 refine ⟨ha.ok.types,by omega,fun m hm=> ?_,fun m hm=> ?_,fun m hm=> ?_⟩
 ·obtain ⟨n,c,hn,k,hk,rfl⟩:=Fu.1 hm
  have:=Es hn
  rw [z1];exact ⟨by simp,by simpa using this⟩
 ·obtain ⟨n,c,hn,k,hk,rfl⟩:=Fu.1 hm
  have:=Es (c0h ho.nd (ho.closed c (List.mem_of_getElem? hn) k hk))
  rw [z1];exact ⟨by simp,by simpa using this⟩
 ·obtain ⟨n,c,hn,k,hk,rfl⟩:=Fu.1 hm
  exact (Gj ha (clA a) (Mj ha (ho.cl c (List.mem_of_getElem? hn)))).1.wf k hk
theorem Pm {α β:Type} (rs:List β) (hn:rs.Nodup) (p:β→α→Bool) (hp:∀s t x,p s x=true→p t x=true→s=t):∀l:List α,(rs.map fun s=>(l.filter (p s)).length).sum≤l.length
 |[]=>by
  have:(rs.map fun s=>(([]:List α).filter (p s)).length)=rs.map fun _=>0:=List.map_congr_left fun s _=>rfl
  rw [this,List.map_const']
  simp
 |x::l=>by
  have ih:=Pm rs hn p hp l
  have key:∀(rs:List β),rs.Nodup→(rs.map fun s=>((x::l).filter (p s)).length).sum≤(rs.map fun s=>(l.filter (p s)).length).sum+(bif rs.any (fun s=>p s x) then 1 else 0):=by
   intro rs
   induction rs with
   |nil=>intro _;simp
   |cons s rs ih2=>
    intro z1
    obtain ⟨z6,z7⟩:=List.nodup_cons.1 z1
    have:=ih2 z7
    simp only [List.map_cons,List.sum_cons,List.any_cons]
    by_cases hps:p s x=true
    ·have z8:rs.any (fun s=>p s x)=false:=by
      rw [List.any_eq_false];intro t ht za;exact z6 (hp s t x hps za▸ht)
     rw [z8] at this;rw [List.filter_cons_of_pos hps,hps];simp only [Bool.true_or,cond_true,cond_false,List.length_cons] at this ⊢;omega
    ·rw [List.filter_cons_of_neg hps,show p s x=false by simpa using hps]
     simp only [Bool.false_or];omega
  have:=key rs hn
  rw [List.length_cons]
  cases hc:rs.any (fun s=>p s x)<;>rw [hc] at this<;>simp only [cond_true,cond_false] at this<;>omega
theorem d0l (a:Aut) (cl:List Nat) (s:Int):(k1g a cl s).length≤(Wb a s).length:=by
 have h1:∀(n:Nat) (g:List Mv) (to:Nat) (c:Prd),(R4 n g to c).length≤g.length+1:=fun n g to c=>by
  unfold R4;split
  ·simp
  ·split<;>simp
 have h2:∀(r g:List Mv),(r.foldl (fun g m=>R4 0 g (clD cl m) m.on) g).length≤g.length+r.length:=by
  intro r
  induction r with
  |nil=>intro g;simp
  |cons m r ih=>
   intro g
   have e:=ih (R4 0 g (clD cl m) m.on)
   have e2:=h1 0 g (clD cl m) m.on
   rw [List.foldl_cons,List.length_cons];omega
 have:=h2 (Wb a s) []
 simpa [k1g] using this
theorem Lq {a:Aut} (ha:Dfa a) {t:Nat} (ht:Ke a t):(O1 a t).length≤(Wb a (Un a t)).length:=by
 have h:=Zh ha (clA a) (Un a t)
 have hp:=(Hs kyM (k1g a (clA a) (Un a t)) (h.apart fun t' t'' ty y=>Cs ha (Mj ha ht))).1.length_eq
 have:=d0l a (clA a) (Un a t)
 unfold O1 w1y;omega
theorem j0r {a:Aut} (ha:Dfa a):(Ee a).mv.length≤a.mv.length:=by
 have ho:=Zo ha
 have z1:∀c∈y0l a,∀d∈y0l a,Un a c=Un a d→c=d:=fun c hc d hd e=>by
  have e1:=(Al ha (ho.cl c hc)).2
  have e2:=(Al ha (ho.cl d hd)).2
  rw [←e1,←e2,e]
 have hlen:(Ee a).mv.length=((y0l a).map fun c=>(O1 a c).length).sum:=by
  unfold Ee Gl;simp only [List.length_flatMap]
  congr 1
  refine List.ext_getElem (by simp) fun i h1 h2=> ?_
  have hi:i<(y0l a).length:=by simpa using h1
  simp [mvN,List.getD,hi]
 have hle:((y0l a).map fun c=>(O1 a c).length).sum≤(((y0l a).map fun c=>((Un a c:Nat):Int)).map fun s=>(Wb a s).length).sum:=by
  rw [List.map_map]
  have key:∀l:List Nat,(∀c∈l,Ke a c)→(l.map fun c=>(O1 a c).length).sum≤(l.map ((fun s=>(Wb a s).length)∘fun c=>((Un a c:Nat):Int))).sum:=by
   intro l
   induction l with
   |nil=>intro _;simp
   |cons c l ih=>
    intro hc
    have h1:=ih fun d hd=>hc d (by simp [hd])
    have h2:=Lq ha (hc c (by simp))
    simp only [List.map_cons,List.sum_cons,Function.comp_apply];omega
  exact key _ ho.cl
 have z6:((y0l a).map fun c=>((Un a c:Nat):Int)).Nodup:=by
  refine List.pairwise_map.2 ?_;refine List.Pairwise.imp_of_mem ?_ ho.nd;intro c d hc hd z7 e;exact z7 (z1 c hc d hd (by omega))
 have:=Pm _ z6 (fun s (m:Mv)=>decide (m.src=s) && !Wp m.on) (fun s t x h1 h2=>by
  simp only [Bool.and_eq_true,decide_eq_true_eq] at h1 h2;rw [←h1.1,←h2.1]) a.mv
 rw [hlen];unfold Wb at hle;omega
def Vd (m:Aut):Bool:=m.mv.any fun k=>k.on.any fun s=>decide (256<s.length)
section
variable {a:Aut} (ha:Dfa a) (hb:Vd (Ee a)=false)
include ha hb
end
def Nv (a:Aut):Int×Aut:=if (Er a).1≠0 then ((Er a).1,Ye) else if (Ud (Er a).2).1≠0 then ((Ud (Er a).2).1,Ye) else
 if Vd (Ee (Ud (Er a).2).2) then (5,Ye) else (0,Ee (Ud (Er a).2).2)
theorem y1n {a d c:Aut} (h:OkA a) (hd:Er a=(0,d)) (hc:Ud d=(0,c)):Dfa c∧c.types=a.types∧∀w,(∀x∈w,Eg a x)→S3 c w=S3 a w:=by
 obtain ⟨Q,_,_,_,_,_,z1,ddet,z6,dacc⟩:=B2 h hd
 obtain ⟨z7,z8,cfull,cdet,cacc⟩:=Ki z1 hc
 exact ⟨⟨z7,cdet ddet,cfull⟩,z8.trans z6,fun w hw=>(cacc w).trans (dacc w hw)⟩
end Go.Abs
namespace Go.Abs
def addI (o:List Int) (c:Int):List Int:=if c∈o then o else o++[c]
def u1h (o:List Int) (l:List Int):List Int:=l.foldl addI o
def u1y (sc:Int→List Int):Nat→Nat→List Int→List Int
 |0,_,o=>o
 |f+1,n,o=>match o[n]? with
  |none=>o
  |some c=>u1y sc f (n+1) (u1h o (sc c))
structure SrchS (sc:Int→List Int) (o:List Int):Prop where
 nd:o.Nodup
 zero:(0:Int)∈o
 closed:∀c∈o,∀d∈sc c,d∈o
 least:∀S:Int→Prop,S 0→(∀c d,S c→d∈sc c→S d)→∀c∈o,S c
def w2e (a:Aut) (c:Int):List Int:=(Wb a c).map (·.dst)
def w2g (a:Aut) (c:Int):List Int:=(Ld a a).map (toL a c)
def w2q (a:Aut):Bool:=(u1y (w2e a) (a.fin.length+1) 0 [0]).length==a.fin.length
def q26 (a:Aut):Bool:=(u1y (w2g a) (a.fin.length+1) 0 [0]).length==a.fin.length
end Go.Abs
namespace Go.Abs
structure Dta (a:Aut):Prop where
 ok:OkA a
 det:Uh a
def wkS (a:Aut) (s:Int):List Sy→Option Int
 |[]=>some s
 |x::w=>if toL a s x<0 then none else wkS a (toL a s x) w
def fAt (f:List Int) (s:Int):Int:=f.getD s.toNat (-1)
structure IsoT (a b:Aut) (f:List Int):Prop where
 len:f.length=a.fin.length
 zero:fAt f 0=0
 low:∀q∈f,-1≤q
 fin:∀s,inS a s→0≤fAt f s→a.fin.getD s.toNat false=b.fin.getD (fAt f s).toNat false
 step:∀s,inS a s→0≤fAt f s→∀x,Eg a x→(toL a s x<0↔toL b (fAt f s) x<0)∧(0≤toL a s x→fAt f (toL a s x)=toL b (fAt f s) x)
 inj:∀s t,inS a s→inS a t→0≤fAt f s→fAt f s=fAt f t→s=t
 reach:∀s,inS a s→0≤fAt f s→∃w,(∀x∈w,Eg a x)∧wkS a 0 w=some s∧wkS b 0 w=some (fAt f s)
def y11 (st:List Int×List Int) (e:Int×Int):Option (List Int×List Int):=
 if fAt st.1 e.1=e.2 then some st else if 0≤fAt st.1 e.1∨e.2∈st.1 then none else some (st.1.set e.1.toNat e.2,st.2++[e.1])
def g0n:List (Int×Int)→List Int×List Int→Option (List Int×List Int)
 |[],st=>some st
 |e::es,st=>(y11 st e).bind (g0n es)
def q2v (chk:Int→Int→Bool) (ps:Int→Int→List (Int×Int)):Nat→Nat→List Int×List Int→Option (List Int)
 |0,_,st=>some st.1
 |f+1,n,st=>match st.2[n]? with
  |none=>some st.1
  |some p=>if chk p (fAt st.1 p) then (g0n (ps p (fAt st.1 p)) st).bind (q2v chk ps f (n+1)) else none
def w2u (a:Aut):List Int×List Int:=((List.replicate a.fin.length (-1)).set 0 0,[0])
structure IsoI (a b:Aut) (st:List Int×List Int):Prop where
 len:st.1.length=a.fin.length
 zero:fAt st.1 0=0
 low:∀q∈st.1,-1≤q
 mem:∀s,s∈st.2↔inS a s∧0≤fAt st.1 s
 nd:st.2.Nodup
 inj:∀s t,inS a s→inS a t→0≤fAt st.1 s→fAt st.1 s=fAt st.1 t→s=t
 reach:∀s,inS a s→0≤fAt st.1 s→∃w,(∀x∈w,Eg a x)∧wkS a 0 w=some s∧wkS b 0 w=some (fAt st.1 s)
 rng:∀s,inS a s→0≤fAt st.1 s→inS b (fAt st.1 s)
structure PsOk (a b:Aut) (chk:Int→Int→Bool) (ps:Int→Int→List (Int×Int)):Prop where
 chk:∀p q,inS a p→inS b q→(chk p q=true↔a.fin.getD p.toNat false=b.fin.getD q.toNat false∧∀x,Eg a x→(toL a p x<0↔toL b q x<0))
 from_:∀p q,inS a p→inS b q→∀e∈ps p q,∃x,Eg a x∧toL a p x=e.1∧toL b q x=e.2∧0≤e.1∧0≤e.2
 all:∀p q,inS a p→inS b q→∀x,Eg a x→0≤toL a p x→0≤toL b q x→(toL a p x,toL b q x)∈ps p q
end Go.Abs
namespace Go.Abs
def Hd:List Iv→List Iv→Option Int
 |x::l,y::m=>if max x.lo y.lo≤min x.hi y.hi then some (max x.lo y.lo) else if x.hi<y.hi then Hd l (y::m) else Hd (x::l) m
 |_,_=>none
termination_by l m=>l.length+m.length
theorem By (m:List Iv):Hd [] m=none:=by simp [Hd]
theorem Zj (x:Iv) (l:List Iv):Hd (x::l) []=none:=by simp [Hd]
theorem f0c (x y:Iv) (l m:List Iv):Hd (x::l) (y::m)=if max x.lo y.lo≤min x.hi y.hi then some (max x.lo y.lo) else if x.hi<y.hi then Hd l (y::m) else Hd (x::l) m:=by rw [Hd]
theorem z1h {x:Iv} {l:List Iv} (h:Sep (x::l)):∀n,M l n→x.hi<n:=by
 rintro n ⟨y,hy,h1,h2⟩
 have:=(List.pairwise_cons.1 h.2).1 y hy
 omega
theorem R5 {x:Iv} {l:List Iv} {n:Int}:M (x::l) n↔(x.lo≤n∧n≤x.hi)∨M l n:=by
 constructor
 ·rintro ⟨y,hy,h⟩
  rcases List.mem_cons.1 hy with rfl|hy
  ·exact .inl h
  ·exact .inr ⟨y,hy,h⟩
 ·rintro (h|⟨y,hy,h⟩)
  ·exact ⟨x,by simp,h⟩
  ·exact ⟨y,by simp [hy],h⟩
theorem j0v {n:Int}:¬M [] n:=by rintro ⟨y,hy,_⟩;cases hy
theorem Nf {x:Iv} {l:List Iv} (h:Sep (x::l)):Sep l:=⟨fun y hy=>h.1 y (by simp [hy]),(List.pairwise_cons.1 h.2).2⟩
theorem Gw (l m:List Iv) (hl:Sep l) (hm:Sep m):match Hd l m with|some n=>M l n∧M m n∧∀k,M l k→M m k→n≤k|none=>∀k,M l k→¬M m k:=by
 match l,m with
 |[],m=>
  rw [By];exact fun k h=>absurd h j0v
 |x::l,[]=>
  rw [Zj];exact fun k _ h=>absurd h j0v
 |x::l,y::m=>
  have hx:=hl.1 x (by simp)
  have hy:=hm.1 y (by simp)
  have sx:=z1h hl
  have sy:=z1h hm
  rw [Hd]
  by_cases h1:max x.lo y.lo≤min x.hi y.hi
  ·rw [if_pos h1];refine ⟨R5.2 (.inl (by omega)),R5.2 (.inl (by omega)),fun k k1 k2=> ?_⟩
   have:x.lo≤k:=by
    rcases R5.1 k1 with h|h
    ·exact h.1
    ·have:=sx k h;omega
   have:y.lo≤k:=by
    rcases R5.1 k2 with h|h
    ·exact h.1
    ·have:=sy k h;omega
   omega
  ·rw [if_neg h1]
   by_cases h2:x.hi<y.hi
   ·rw [if_pos h2]
    have ih:=Gw l (y::m) (Nf hl) hm
    have z1:∀k,(x.lo≤k∧k≤x.hi)→¬M (y::m) k:=fun k h hk=>by
     rcases R5.1 hk with h'|h'
     ·omega
     ·have:=sy k h';omega
    cases hc:Hd l (y::m) with
    |some n=>
     rw [hc] at ih
     obtain ⟨i1,i2,i3⟩:=ih
     refine ⟨R5.2 (.inr i1),i2,fun k k1 k2=> ?_⟩
     rcases R5.1 k1 with h|h
     ·exact absurd k2 (z1 k h)
     ·exact i3 k h k2
    |none=>
     rw [hc] at ih;intro k k1 k2
     rcases R5.1 k1 with h|h
     ·exact z1 k h k2
     ·exact ih k h k2
   ·rw [if_neg h2]
    have ih:=Gw (x::l) m hl (Nf hm)
    have z1:∀k,(y.lo≤k∧k≤y.hi)→¬M (x::l) k:=fun k h hk=>by
     rcases R5.1 hk with h'|h'
     ·omega
     ·have:=sx k h';omega
    cases hc:Hd (x::l) m with
    |some n=>
     rw [hc] at ih
     obtain ⟨i1,i2,i3⟩:=ih
     refine ⟨i1,R5.2 (.inr i2),fun k k1 k2=> ?_⟩
     rcases R5.1 k2 with h|h
     ·exact absurd k1 (z1 k h)
     ·exact i3 k k1 h
    |none=>
     rw [hc] at ih;intro k k1 k2
     rcases R5.1 k2 with h|h
     ·exact z1 k h k1
     ·exact ih k k1 h
termination_by l.length+m.length
def lqB (p q:Prd):Nat→Nat→Option Sy
 |0,_=>none
 |f+1,t=>match Hd (p.getD t []) (q.getD t []) with
  |some n=>some ⟨t,n⟩
  |none=>lqB p q f (t+1)
def Ea (p q:Prd):Option Sy:=if Wp (W3 p q) then none else some (Ql (W3 p q))
theorem M6 {T:Nat} {p:Prd} (h:PWf T p) (t:Nat):Sep (p.getD t []):=by
 by_cases ht:t<p.length
 ·rw [Ws ht];exact (h.2 _ (List.getElem_mem ht)).1
 ·rw [show p.getD t []=[] by simp [List.getD,List.getElem?_eq_none (by omega:p.length≤t)]]
  exact ⟨by simp,by simp⟩
theorem As {p:Prd} {t:Nat} {n:Int}:PM p t n↔M (p.getD t []) n:=by
 constructor
 ·rintro ⟨s,hs,h⟩
  simpa [List.getD,hs] using h
 ·intro h
  by_cases ht:t<p.length
  ·rw [Ws ht] at h;exact ⟨_,List.getElem?_eq_getElem ht,h⟩
  ·rw [show p.getD t []=[] by simp [List.getD,List.getElem?_eq_none (by omega:p.length≤t)]] at h
   exact absurd h j0v
theorem q2a {T:Nat} {p q:Prd} (hp:PWf T p) (hq:PWf T q):lqB p q T 0=Ea p q:=by
 have hw:=Tt hp hq.1
 have key:∀(f t:Nat),t+f=T→(∀t' n,t'<t→¬PM (W3 p q) t' n)→lqB p q f t=Ea p q:=by
  intro f
  induction f with
  |zero=>
   intro t ht z1
   have:Wp (W3 p q)=true:=(Rs hw).2 fun t' n hm=>z1 t' n (by have:=(hw.lt hm).1;omega) hm
   rw [lqB,Ea,if_pos this]
  |succ f ih=>
   intro t ht z1
   have hs:=Gw _ _ (M6 hp t) (M6 hq t)
   rw [lqB]
   cases hc:Hd (p.getD t []) (q.getD t []) with
   |some n=>
    rw [hc] at hs
    obtain ⟨h1,h2,h3⟩:=hs
    have hm:PM (W3 p q) t n:=(W6 hp.1 hq.1 t n).2 ⟨As.2 h1,As.2 h2⟩
    have hv:Wp (W3 p q)=false:=(U7 hw).2 ⟨t,n,hm⟩
    rw [Ea,if_neg (by rw [hv];simp)]
    obtain ⟨g1,g2,g3⟩:=Oy hw ⟨t,n,hm⟩
    have z6:=hw.lt hm
    show some (⟨(t:Int),n⟩:Sy)=some (Ql (W3 p q))
    congr 1
    rcases g3 ⟨t,n⟩ ⟨by simp,by simpa using z6.1,z6.2⟩ (by simpa using hm) with e|e
    ·exact e.symm
    ·exfalso;unfold sLt at e;simp only at e
     have z8:=g1.1
     by_cases hle:(Ql (W3 p q)).ty.toNat<t
     ·exact z1 _ _ hle g2
     ·have z7:(Ql (W3 p q)).ty=t:=by omega
      rw [z7] at g2
      have:=(W6 hp.1 hq.1 t (Ql (W3 p q)).num).1 (by simpa using g2)
      have:=h3 _ (As.1 this.1) (As.1 this.2)
      omega
   |none=>
    rw [hc] at hs;refine ih (t+1) (by omega) fun t' n za hm=> ?_
    by_cases e:t'=t
    ·subst e
     have:=(W6 hp.1 hq.1 t' n).1 hm
     exact hs n (As.1 this.1) (As.1 this.2)
    ·exact z1 t' n (by omega) hm
 exact key T 0 (by omega) (fun t' n h=>by omega)
theorem u0a {T:Nat} {p:Prd} (hp:PWf T p):W3 p p=p:=Ox (Tt hp hp.1) hp fun t n=>by rw [W6 hp.1 hp.1];simp
theorem Bf {T:Nat} {p:Prd} (hp:PWf T p):Ea p p=if Wp p then none else some (Ql p):=by rw [Ea,u0a hp]
theorem q1e (a b:Aut) (s:Int×Int):Wi a b s=(Wb a s.1).flatMap fun m=>(Wb b s.2).filterMap fun n=>(Ea m.on n.on).map fun x=>(x,(m.dst,n.dst)):=by
 unfold Wi Ea
 congr 1
 funext m
 congr 1
 funext n
 split<;>simp
end Go.Abs
namespace Go.Abs
def P9 (a:Aut):Int:=if Wk a≠0 then Wk a else if q09 a=false∨O0 a=false then 3 else 0
theorem Kg (a:Aut):P9 a=0↔Dfa a:=by
 unfold P9
 by_cases h:Wk a=0
 ·have z1:=(Ui a).1 h
  rw [if_neg (fun k=>k h)]
  have h1:=v1u z1.wfA
  have h2:O0 a=true↔D2 a:=by
   rw [←Ny z1.wfA,Fa];unfold O0;rw [List.all_eq_true];simp only [List.mem_range];exact forall_congr' fun s=>forall_congr' fun _=>by rw [u0z z1.wfA]
  constructor
  ·intro k;split at k
   ·cases k
   ·rename_i hn
    refine ⟨z1,h1.1 ?_,h2.1 ?_⟩
    ·cases hs:q09 a
     ·exact absurd (.inl hs) hn
     ·rfl
    ·cases hs:O0 a
     ·exact absurd (.inr hs) hn
     ·rfl
  ·intro k;rw [if_neg]
   rintro (hs|hs)
   ·rw [h1.2 k.det] at hs;cases hs
   ·rw [h2.2 k.full] at hs;cases hs
 ·rw [if_pos h];exact ⟨fun k=>absurd k h,fun k=>absurd ((Ui a).2 k.ok) h⟩
theorem u1o {a:Aut} (h:OkA a):((A1 a).1=0∧(A1 a).2.fin.length=a.fin.length)↔O0 a=true:=by
 have z1:Wk a=0:=(Ui a).2 h
 have hc:A1 a=Ud a:=by unfold A1;rw [if_neg (fun k=>k z1)]
 have h2:O0 a=true↔E2 a (Wo a)=[]:=by
  rw [Fa];unfold O0;rw [List.all_eq_true];simp only [List.mem_range];exact forall_congr' fun s=>forall_congr' fun _=>by rw [u0z h.wfA]
 rw [hc,h2,Ud]
 cases hn:E2 a (Wo a) with
 |nil=>simp
 |cons m l=>
  rw [if_neg (by simp)]
  unfold Hi;split
  ·simp
  ·simp [Yz]
end Go.Abs
namespace Go.Abs
open Go Go.Proofs Go.Maps Go.RowKit
theorem j1j (x y:Int):(if x<y then y else x)=max x y:=by omega
def y14:Option Int→AV
 |some n=> .tup [.i n,.bool true]
 |none=> .tup [.i 0,.bool false]
set_option maxHeartbeats 4000000 in
theorem z03 (l m:List Iv) (hl:l.length≤1000000000) (hm:m.length≤1000000000):PC Tryz.prog 188 [LIv l,LIv m] (fun r=>r=y14 (Hd l m)):=by
 refine Qm tOk Tryz.func188 rfl Tryz.results188 rfl (by simp [Tryz.ntmps188]) ?_
 rw [Tryz.ntmps188];simp only [Qf]
 obtain ⟨R,hR⟩:∃R,Hd l m=R:=⟨_,rfl⟩
 rw [hR]
 repeat first|((first|refine ra ?_|refine rb ?_|refine rh ?_);simp)|refine qf ?_|refine qg ?_
 refine Qq (Qc (sl':=[(0,LIv l),(1,LIv m),(6,.i (0:Nat)),(7,.i (0:Nat))]) ?_ (by simp))
 refine Qp (F:=fun (u:Nat×Nat)=>⟨[(0,LIv l),(1,LIv m),(6,.i u.1),(7,.i u.2)],[]⟩)
  (fun u=>u.1≤l.length∧u.2≤m.length∧Hd (l.drop u.1) (m.drop u.2)=R) (fun u=>(l.length - u.1)+(m.length - u.2)) ?_ (0,0) ⟨Nat.zero_le _,Nat.zero_le _,by simpa using hR⟩
 rintro ⟨i,k⟩ ⟨hi,hk,hI⟩ ih
 simp only at hi hk hI ih ⊢
 by_cases h1:i<l.length
 ·by_cases h2:k<m.length
  ·have hw:IntKind.i64.wrap ((i:Int)+1)=i+1:=wrap_i64 _ (by omega) (by omega)
   have z1:IntKind.i64.wrap ((k:Int)+1)=k+1:=wrap_i64 _ (by omega) (by omega)
   rw [List.drop_eq_getElem_cons h1,List.drop_eq_getElem_cons h2,f0c] at hI
   have e1:l[i]? =some l[i]:=List.getElem?_eq_getElem h1
   have e2:m[k]? =some m[k]:=List.getElem?_eq_getElem h2
   repeat first|((first|refine ra ?_|refine rb ?_|refine rh ?_);simp [h1,h2])|refine qf ?_|refine qg ?_
   refine Qb rfl (fun _=> ?_) (fun h=>by simp [h1,h2] at h)
   repeat first|((first|refine ra ?_|refine rb ?_|refine rh ?_);simp)|refine qf ?_|refine qg ?_
   refine Qo tOk mixed [] (.val 0 (.val 1 (.val 2 (.val 3 (.val 4 (.val 5 (.val 6 (.val 7 (.val 8 (.val 9 (.val 10 (.val 11 (.done))))))))))))) rfl (by kernel_rfl) ?_
   simp [h1,h2]
   repeat first|((first|refine ra ?_|refine rb ?_|refine rh ?_);simp)|refine qf ?_|refine qg ?_
   refine Qo tOk mixed [] (.val 0 (.val 1 (.val 2 (.val 3 (.val 4 (.val 5 (.val 6 (.val 7 (.val 8 (.val 9 (.val 10 (.val 11 (.val 12 (.done)))))))))))))) rfl (by kernel_rfl) ?_
   simp [h1,h2]
   refine Qb rfl (fun h=> ?_) (fun h=> ?_)
   ·have hle:max l[i].lo m[k].lo≤min l[i].hi m[k].hi:=by simp at h;omega
    rw [if_pos hle] at hI;rw [←hI]
    repeat first|((first|refine ra ?_|refine rb ?_|refine rh ?_);simp)|refine qf ?_|refine qg ?_
    rw [j1j];rfl
   ·have hle:¬max l[i].lo m[k].lo≤min l[i].hi m[k].hi:=by simp at h;omega
    rw [if_neg hle] at hI
    repeat first|((first|refine ra ?_|refine rb ?_|refine rh ?_);simp)|refine qf ?_|refine qg ?_
    refine Qo tOk mixed [] (.val 0 (.val 1 (.val 2 (.val 3 (.val 4 (.val 5 (.val 6 (.val 7 (.val 8 (.val 9 (.val 10 (.done)))))))))))) rfl (by kernel_rfl) ?_
    simp [h1,h2]
    refine Qb rfl (fun h=> ?_) (fun h=> ?_)
    ·rw [if_pos (by simpa using h)] at hI
     repeat first|((first|refine ra ?_|refine rb ?_|refine rh ?_);simp [hw])|refine qf ?_|refine qg ?_
     refine Qc (sl':=[(0,LIv l),(1,LIv m),(6,.i (i+1:Nat)),(7,.i k)]) ?_ (by simp)
     exact ih (i+1,k) ⟨by omega,hk,by rw [List.drop_eq_getElem_cons h2];exact hI⟩ (by simp;omega)
    ·rw [if_neg (by simpa using h)] at hI
     repeat first|((first|refine ra ?_|refine rb ?_|refine rh ?_);simp [z1])|refine qf ?_|refine qg ?_
     refine Qc (sl':=[(0,LIv l),(1,LIv m),(6,.i i),(7,.i (k+1:Nat))]) ?_ (by simp)
     exact ih (i,k+1) ⟨hi,by omega,by rw [List.drop_eq_getElem_cons h1];exact hI⟩ (by simp;omega)
  ·have h3:k=m.length:=by omega
   subst h3
   repeat first|((first|refine ra ?_|refine rb ?_|refine rh ?_);simp [h1])|refine qf ?_|refine qg ?_
   refine Qb rfl (fun h=>by simp at h) (fun _=> ?_)
   repeat first|((first|refine ra ?_|refine rb ?_|refine rh ?_);simp)|refine qf ?_|refine qg ?_
   rw [List.drop_length,List.drop_eq_getElem_cons h1,Zj] at hI;rw [←hI];rfl
 ·have h3:i=l.length:=by omega
  subst h3
  repeat first|((first|refine ra ?_|refine rb ?_|refine rh ?_);simp)|refine qf ?_|refine qg ?_
  refine Qb rfl (fun h=>by simp at h) (fun _=> ?_)
  repeat first|((first|refine ra ?_|refine rb ?_|refine rh ?_);simp)|refine qf ?_|refine qg ?_
  rw [List.drop_length,By] at hI;rw [←hI];rfl
def C8:Option Sy→AV
 |some x=> .tup [encSy x,.bool true]
 |none=> .tup [encSy ⟨0,0⟩,.bool false]
theorem w1h (p q:Prd) (f t:Nat):lqB p q (f+1) t=match Hd (p.getD t []) (q.getD t []) with|some n=>some ⟨t,n⟩|none=>lqB p q f (t+1):=rfl
attribute [local irreducible] lqB Ea
set_option maxHeartbeats 4000000 in
theorem Pk (T:Nat) (p q:Prd) (hp:PWf T p) (hq:PWf T q) (z7:∀s∈p,s.length≤1000000000) (z8:∀s∈q,s.length≤1000000000) (hT:T≤1000):PC Tryz.prog 139 [encP p,encP q] (fun r=>r=C8 (Ea p q)):=by
 refine Qm tOk Tryz.func139 rfl Tryz.results139 rfl (by simp [Tryz.ntmps139]) ?_
 rw [Tryz.ntmps139];simp only [Qf];simp only [encP]
 have zd:=hp.1
 have ze:=hq.1
 obtain ⟨R,hR⟩:∃R,Ea p q=R:=⟨_,rfl⟩
 rw [hR];rw [←q2a hp hq] at hR
 repeat first|((first|refine ra ?_|refine rb ?_|refine rh ?_);simp)|refine qf ?_|refine qg ?_
 refine Qy p.length (fun i=>lqB p q (T - i) i=R) (fun i=>[(2,.vptr 0 0),(3,.vptr 1 0),(4,.vptr 2 0),(11,.i p.length),(12,.i i)]) (fun _=>[.vars [.list (p.map encL)],.vars [.list (q.map encL)],.vars [.i 0,.i 0]]) rfl (by simp) (by simp) (by simp) (by simp) (by simpa using hR) ?_
 intro i hi hI ih
 repeat first|((first|refine ra ?_|refine rb ?_|refine rh ?_);simp)|refine qf ?_|refine qg ?_
 refine Qb rfl (fun za=> ?_) (fun zb=> ?_)
 ·have z1:i<p.length:=by simpa using za
  have z6:i<q.length:=by omega
  have hw:IntKind.i64.wrap ((i:Int)+1)=i+1:=wrap_i64 _ (by omega) (by omega)
  rw [show T - i=(T - (i+1))+1 by omega,w1h,Ws z1,Ws z6] at hI
  repeat first|((first|refine ra ?_|refine rb ?_|refine rh ?_);simp)|refine qf ?_|refine qg ?_
  refine Qo tOk mixed [] (.val 0 (.val 1 (.val 2 (.val 3 (.val 4 (.val 5 (.val 6 (.val 7 (.val 8 (.val 9 (.one 10 (.val 11 (.val 12 (.val 13 (.val 14 (.val 15 (.done))))))))))))))))) rfl (by kernel_rfl) ?_
  simp [z1,z6]
  refine Qe rfl rfl (by simp) (z03 p[i] q[i] (z7 _ (List.getElem_mem z1)) (z8 _ (List.getElem_mem z6))) rfl ?_
  rintro _ rfl
  simp
  cases hc:Hd p[i] q[i] with
  |some n=>
   rw [hc] at hI
   simp [y14]
   repeat first|((first|refine ra ?_|refine rb ?_|refine rh ?_);simp)|refine qf ?_|refine qg ?_
   refine Qj rfl ?_
   repeat first|((first|refine ra ?_|refine rb ?_|refine rh ?_);simp)|refine qf ?_|refine qg ?_
   rw [←hI];rfl
  |none=>
   rw [hc] at hI
   simp [y14]
   repeat first|((first|refine ra ?_|refine rb ?_|refine rh ?_);simp)|refine qf ?_|refine qg ?_
   refine Qj rfl ?_
   repeat first|((first|refine ra ?_|refine rb ?_|refine rh ?_);simp [hw])|refine qf ?_|refine qg ?_
   refine Qx _ (ih z1 hI) rfl (by simp) ?_ (by simp) (by simp)
   simp
 ·have zc:i=p.length:=by simp at zb;omega
  subst zc
  repeat first|((first|refine ra ?_|refine rb ?_|refine rh ?_);simp)|refine qf ?_|refine qg ?_
  rw [show T - p.length=0 by omega] at hI
  rw [←hI];unfold lqB;rfl
set_option maxHeartbeats 1000000 in
theorem Jm (x y:Sy):PC Tryz.prog 148 [encSy x,encSy y] (fun r=>r= .bool (Zg x y)):=by
 refine Qm tOk Tryz.func148 rfl Tryz.results148 rfl (by simp [Tryz.ntmps148]) ?_
 rw [Tryz.ntmps148];simp only [Qf];simp only [encSy,Zg]
 by_cases h1:x.ty<y.ty
 ·repeat first|((first|refine ra ?_|refine rb ?_|refine rh ?_);simp [h1])|refine qf ?_|refine qg ?_
 ·by_cases h2:x.ty=y.ty
  ·repeat first|((first|refine ra ?_|refine rb ?_|refine rh ?_);simp [h1,h2])|refine qf ?_|refine qg ?_
  ·have hb:(x.ty==y.ty)=false:=by simpa using h2
   repeat first|((first|refine ra ?_|refine rb ?_|refine rh ?_);simp [h1,h2,hb])|refine qf ?_|refine qg ?_
theorem v09 (a:Aut) (i:Int):PC Tryz.prog 88 [encA a,.i i] (fun r=>r= .bool (decide (0≤i) && decide (i<a.fin.length))):=by
 refine Qm tOk Tryz.func88 rfl Tryz.results88 rfl (by simp [Tryz.ntmps88]) ?_
 rw [Tryz.ntmps88];simp only [Qf];simp only [encA]
 by_cases h1:0≤i
 ·repeat first|((first|refine ra ?_|refine rb ?_|refine rh ?_);simp [h1])|refine qf ?_|refine qg ?_
 ·repeat first|((first|refine ra ?_|refine rb ?_|refine rh ?_);simp [h1])|refine qf ?_|refine qg ?_
end Go.Abs
namespace Go.Abs
open Go Go.Proofs Go.Maps Go.RowKit
attribute [local irreducible] O0 q09 Wk A1 q16
set_option maxHeartbeats 2000000 in
theorem M5 (a:Aut):PC Tryz.prog 84 [encA a] (fun r=>r= .i (P9 a)):=by
 refine Qm tOk Tryz.func84 rfl Tryz.results84 rfl (by simp [Tryz.ntmps84]) ?_
 rw [Tryz.ntmps84];simp only [Qf];simp only [encA]
 repeat first|((first|refine ra ?_|refine rb ?_|refine rh ?_);simp)|refine qf ?_|refine qg ?_
 refine Qe rfl rfl (by simp) (Yw a) rfl ?_
 rintro _ rfl
 simp
 repeat first|((first|refine ra ?_|refine rb ?_|refine rh ?_);simp)|refine qf ?_|refine qg ?_
 refine Qb rfl (fun h=> ?_) (fun h=> ?_)
 ·repeat first|((first|refine ra ?_|refine rb ?_|refine rh ?_);simp)|refine qf ?_|refine qg ?_
  rw [P9,if_pos (by simpa using h)]
 have h0:Wk a=0:=by simpa using h
 have z6:=(Ui a).1 h0
 rw [P9,if_neg (fun k=>k h0)]
 have hd:q16 a=(q09 a,0):=by unfold q16;rw [if_pos h0]
 repeat first|((first|refine ra ?_|refine rb ?_|refine rh ?_);simp)|refine qf ?_|refine qg ?_
 refine Qe rfl rfl (by simp) (f1y a) rfl ?_
 rintro _ rfl
 simp [hd]
 cases hs:q09 a with
 |false=>
  repeat first|((first|refine ra ?_|refine rb ?_|refine rh ?_);simp [hs])|refine qf ?_|refine qg ?_
  refine Qj rfl ?_
  repeat (first|((first|refine ra ?_|refine rb ?_|refine rh ?_);simp)|refine qf ?_|refine qg ?_)
 |true=>
  repeat first|((first|refine ra ?_|refine rb ?_|refine rh ?_);simp [hs])|refine qf ?_|refine qg ?_
  refine Qj rfl ?_
  repeat first|((first|refine ra ?_|refine rb ?_|refine rh ?_);simp)|refine qf ?_|refine qg ?_
  refine Qe rfl rfl (by simp) (Fl a) rfl ?_
  rintro _ rfl
  simp
  have z1:=u1o z6
  generalize A1 a=c at *
  by_cases he:c.1=0
  ·by_cases hl:c.2.fin.length=a.fin.length
   ·rw [z1.1 ⟨he,hl⟩]
    repeat first|((first|refine ra ?_|refine rb ?_|refine rh ?_);simp [he,hl])|refine qf ?_|refine qg ?_
    refine Qj rfl ?_
    repeat first|((first|refine ra ?_|refine rb ?_|refine rh ?_);simp)|refine qf ?_|refine qg ?_
   ·have hf:O0 a=false:=by
     cases hf:O0 a
     ·rfl
     ·exact absurd (z1.2 hf).2 hl
    have z7:((c.2.fin.length:Int) != a.fin.length)=true:=by simp;omega
    have z8:¬(c.2.fin.length:Int)=a.fin.length:=by omega
    rw [hf]
    repeat first|((first|refine ra ?_|refine rb ?_|refine rh ?_);simp [he,z7,z8,hl])|refine qf ?_|refine qg ?_
    refine Qj rfl ?_
    repeat first|((first|refine ra ?_|refine rb ?_|refine rh ?_);simp)|refine qf ?_|refine qg ?_
  ·have hf:O0 a=false:=by
    cases hf:O0 a
    ·rfl
    ·exact absurd (z1.2 hf).1 he
   have za:(c.1 != 0)=true:=by simpa using he
   rw [hf]
   repeat first|((first|refine ra ?_|refine rb ?_|refine rh ?_);simp [za])|refine qf ?_|refine qg ?_
   refine Qj rfl ?_
   repeat first|((first|refine ra ?_|refine rb ?_|refine rh ?_);simp)|refine qf ?_|refine qg ?_
end Go.Abs
