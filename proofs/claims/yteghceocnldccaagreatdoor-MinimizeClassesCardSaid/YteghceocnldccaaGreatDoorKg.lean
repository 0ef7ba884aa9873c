/- Part Kg of the proof: an abstract machine over the model, and what the functions of the program hand back in its terms. No condition. -/
import Derived.Test.YteghceocnldccaaGreatDoorKf
import Derived.Test.YteghceocnldccaaGreatDoorKe
set_option linter.all false
set_option linter.unusedSimpArgs false
set_option maxRecDepth 100000
namespace Go.Abs
open Go Go.Proofs Go.Maps
attribute [simp] T94 T88
abbrev LQ (Q:List (List Int)):List AV:=Q.map fun l=>LI l
structure TB (r p m:Nat) (a:Aut) (cl:List Prd) (Q:List (List Int)) (H:List AObj):Prop where
 t:H[r]? =some (.vars [.i a.types,.list (a.fin.map .bool),.list (a.mv.map encMv),LP cl,.sl p 1 0 Q.length,.mref m])
 s:H[p]? =some (.arr 40 1 (LQ Q))
 n:H[m]? =some (mpT (Q.map Ru))
def Pr (x:List Int):Prop:=x≠[]∧x.length≤256∧∀z∈x,0≤z∧z≤1000000
def v0c (Q:List (List Int)) (x:List Int):List (List Int):=if x∈Q then Q else Q++[x]
theorem TB.keep {r p m:Nat} {a:Aut} {cl:List Prd} {Q:List (List Int)} {H H':List AObj} (h:TB r p m a cl Q H) (hk:∀j,(j=r∨j=p∨j=m)→H'[j]? =H[j]?):TB r p m a cl Q H':=
 ⟨(hk r (.inl rfl)).trans h.t,(hk p (.inr (.inl rfl))).trans h.s,(hk m (.inr (.inr rfl))).trans h.n⟩
theorem TB.ne {r p m:Nat} {a:Aut} {cl:List Prd} {Q:List (List Int)} {H:List AObj} (h:TB r p m a cl Q H):r≠p∧r≠m∧p≠m:=by
 refine ⟨fun e=> ?_,fun e=> ?_,fun e=> ?_⟩
 ·have h1:=h.t;rw [e,h.s] at h1;simp at h1
 ·have h1:=h.t;rw [e,h.n,Er] at h1;simp at h1
 ·have h1:=h.s;rw [e,h.n,Er] at h1;simp at h1
theorem Pr.rng {x:List Int} (h:Pr x):∀z∈x,-9223372036854775808≤z∧z≤9223372036854775807:=fun z hz=>by have:=h.2.2 z hz;omega
theorem Gs {x:List Int} (h:Pr x):(Ru x).length≤1000000:=by
 have:=M7 h.rng
 have:=h.2.1
 omega
theorem f1b {x:List Int} {Q:List (List Int)} (hQ:∀l∈Q,Pr l) (hx:Pr x):Ru x∈Q.map Ru↔x∈Q:=by
 refine ⟨fun h=> ?_,fun h=>List.mem_map.2 ⟨x,h,rfl⟩⟩
 obtain ⟨l,hl,e⟩:=List.mem_map.1 h
 rw [←Zt (fun z hz=>((hQ l hl).2.2 z hz).1) (fun z hz=>(hx.2.2 z hz).1) e]
 exact hl
attribute [local irreducible] mpT Ru
set_option maxHeartbeats 4000000 in
theorem N1 (H:List AObj) (r p m:Nat) (a:Aut) (cl:List Prd) (Q:List (List Int)) (x:List Int) (h:TB r p m a cl Q H) (hx:Pr x) (hQ:∀l∈Q,Pr l) (zg:Q.length≤100000):
  FC Tryz.prog 57 [.vptr r 0,LI x] H (fun res H'=>∃(j p':Nat),res= .i j∧(v0c Q x)[j]? =some x∧TB r p' m a cl (v0c Q x) H'∧(p'=p∨H.length≤p')∧H.length≤H'.length∧(x∈Q→H'=H)∧∀i,i<H.length→i≠r→i≠p→i≠m→H'[i]? =H[i]?):=by
 refine W4 tOk Tryz.func57 rfl Tryz.results57 rfl (by simp [Tryz.ntmps57]) ?_
 rw [Tryz.ntmps57];simp only [Qg]
 repeat first|((first|refine ra ?_|refine rb ?_|refine rh ?_);simp)|refine qf ?_|refine qg ?_
 refine Qe rfl rfl (by simp) (v1p x hx.rng (by have:=hx.2.1;omega) hx.1) rfl ?_
 rintro _ rfl
 simp
 have ht:=h.t
 have hn:=h.n
 have hs:=h.s
 obtain ⟨n1,n2,n3⟩:=h.ne
 repeat first|((first|refine ra ?_|refine rb ?_|refine rh ?_);simp [ht])|refine qf ?_|refine qg ?_
 have z8:∀k∈Q.map Ru,k.length≤1000000:=fun k hk=>by
  obtain ⟨l,hl,rfl⟩:=List.mem_map.1 hk
  exact Gs (hQ l hl)
 refine Ga (n:=Ru x) rfl rfl rfl rfl rfl hn z8 (Gs hx) (fun j hj=> ?_) (fun za=> ?_)
 ·have zb:Q[j]? =some x:=by
   rw [List.getElem?_map] at hj
   obtain ⟨l,hl,e⟩:=Option.map_eq_some_iff.1 hj
   rw [←Zt (fun z hz=>((hQ l (List.mem_of_getElem? hl)).2.2 z hz).1) (fun z hz=>(hx.2.2 z hz).1) e]
   exact hl
  have z1:v0c Q x=Q:=by rw [v0c,if_pos (List.mem_of_getElem? zb)]
  rw [z1]
  simp
  repeat first|((first|refine ra ?_|refine rb ?_|refine rh ?_);simp)|refine qf ?_|refine qg ?_
  refine Qk rfl ?_
  simp
  repeat first|((first|refine ra ?_|refine rb ?_|refine rh ?_);simp)|refine qf ?_|refine qg ?_
  exact ⟨j,rfl,zb,p,h,.inl rfl⟩
 ·have zc:x∉Q:=fun hm=>za ((f1b hQ hx).2 hm)
  have z1:v0c Q x=Q++[x]:=by rw [v0c,if_neg zc]
  rw [z1]
  have ze:(Q.map Ru).length=Q.length:=by simp
  simp
  repeat first|((first|refine ra ?_|refine rb ?_|refine rh ?_);simp)|refine qf ?_|refine qg ?_
  refine Qk rfl ?_
  simp
  repeat first|((first|refine ra ?_|refine rb ?_|refine rh ?_);simp [ht])|refine qf ?_|refine qg ?_
  refine Jz (n:=Ru x) rfl rfl rfl rfl rfl (ks:=Q.map Ru) (by rw [ze];rfl) hn z8 (Gs hx) za ?_
  simp
  have z6:=Qf (Ne.symm n2) ht (mpT (Q.map Ru++[Ru x]))
  have z7:=Qf (Ne.symm n3) hs (mpT (Q.map Ru++[Ru x]))
  have zd:=Qj hn (mpT (Q.map Ru++[Ru x]))
  have zf:∀i,i≠m→(H.set m (mpT (Q.map Ru++[Ru x])))[i]? =H[i]? :=fun i hi=>List.getElem?_set_ne (Ne.symm hi)
  have zh:(H.set m (mpT (Q.map Ru++[Ru x]))).length=H.length:=by simp
  generalize H.set m (mpT (Q.map Ru++[Ru x]))=G at *
  repeat first|((first|refine ra ?_|refine rb ?_|refine rh ?_);simp [z6])|refine qf ?_|refine qg ?_
  have g1:∀L,(G.set p .dead++L)[r]? =some (.vars [.i a.types,.list (a.fin.map .bool),.list (a.mv.map encMv),LP cl,.sl p 1 0 Q.length,.mref m]):=fun L=>Qa (Qf (Ne.symm n1) z6 _) L
  refine Qd tOk rfl rfl T28 rfl T40 rfl (by decide) (by decide) rfl rfl rfl ?_
  simp [Qa z7,Qi z7,Qa z6,g1]
  refine ⟨by simp [Wh,Qa z7,Qi z7,Qa z6,g1]<;>omega,?_⟩
  repeat first|((first|refine ra ?_|refine rb ?_|refine rh ?_);simp [g1])|refine qf ?_|refine qg ?_
  have zi:=Qh z6
  have zj:=Qh z7
  have zk:=Qh zd
  refine ⟨Q.length,rfl,by simp,G.length+1,⟨?_,?_,?_⟩,.inr (by omega),by omega,fun h=>absurd h zc,fun i hi h1 h2 h3=> ?_⟩
  ·rw [List.getElem?_set_self (by simp;omega)];simp
  ·rw [List.getElem?_set_ne (by omega),List.getElem?_append_right (by simp)];simp [LQ]
  ·rw [List.getElem?_set_ne n2,List.getElem?_append_left (by simp;omega),List.getElem?_set_ne n3,zd];simp
  ·rw [List.getElem?_set_ne (Ne.symm h1),List.getElem?_append_left (by simp;omega),List.getElem?_set_ne (Ne.symm h2)]
   exact zf i h3
end Go.Abs
namespace Go.Abs
open Go Go.Proofs Go.Maps
theorem P4 (H:List AObj) (r:Nat) (x:List Int):FC Tryz.prog 56 [.vptr r 0,LI x] H (fun res H'=>res= .fn (.func 120) [] [.vptr H.length 0,.vptr (H.length+1) 0]∧H'=H++[.vars [.vptr r 0],.vars [LI x]]):=by
 refine W4 tOk Tryz.func56 rfl Tryz.results56 rfl (by simp [Tryz.ntmps56]) ?_
 rw [Tryz.ntmps56];simp only [Qg]
 repeat first|((first|refine ra ?_|refine rb ?_|refine rh ?_);simp)|refine qf ?_|refine qg ?_
attribute [local irreducible] Wg Qm
set_option maxHeartbeats 4000000 in
theorem My (a:Aut) (ha:OkA a) (cl:List Prd) (set:List Int) (zg:∀c∈cl,Hm [c]=0∧We c=false∧Rj a (Qm c)) (zn:cl.length≤256) (q c1 c2 r:Nat) {z7:Nat} {sl':List (Nat×AV)} {ps:List Tmp} {asg body:Code} (zh:ps.length=2) (zi:(ps.all fun p=>decide (p<z7))=true)
  (Inv:Nat→List AObj→Prop)
  (hI:∀k H,Inv k H→H[q]? =some (.lp true none z7 sl' ps asg body)∧H[c1]? =some (.vars [.vptr r 0])∧H[c2]? =some (.vars [LI set])∧∃rest,H[r]? =some (.vars (.i a.types:: .list (a.fin.map .bool):: .list (a.mv.map encMv)::LP cl::rest)))
  (z8:∀k H L,Inv k H→Inv k (H++L))
  (za:∀k c H,cl[k]? =some c→Wg a set (Qm c)=[]→Inv k H→Inv (k+1) H)
  (z1:∀k c H,cl[k]? =some c→Wg a set (Qm c)≠[]→Inv k H→AWP Tryz.prog z7 H.length asg (Ay (AWP Tryz.prog z7 H.length body (u0f q (fun jm K2=>jm=none∧Inv (k+1) (K2.set q (.lp true none z7 sl' ps asg body))))) (fun _ _=>False)) ⟨Yb sl' ps [encP c,LI (Wg a set (Qm c))],H.set q .dead⟩)
  (H0:List AObj) (h0:Inv 0 H0):FC Tryz.prog 120 [.yld q,.vptr c1 0,.vptr c2 0] H0 (fun _ H'=>Inv cl.length H'):=by
 refine W4 tOk Tryz.func120 rfl Tryz.results120 rfl (by simp [Tryz.ntmps120]) ?_
 rw [Tryz.ntmps120];simp only [Qg]
 obtain ⟨i1,i2,i3,rest,i4⟩:=hI 0 H0 h0
 repeat first|((first|refine ra ?_|refine rb ?_|refine rh ?_);simp [i2,i4])|refine qf ?_|refine qg ?_
 refine Qp (Qc (sl':=[(0,.yld q),(1,.vptr c1 0),(2,.vptr c2 0),(12,LP cl),(13,.i cl.length),(14,.i (0:Nat))]) ?_ (by simp))
 clear i1 i2 i3 i4;clear rest;refine Qo (F:=fun (u:Nat×List AObj)=>⟨[(0,.yld q),(1,.vptr c1 0),(2,.vptr c2 0),(12,LP cl),(13,.i cl.length),(14,.i u.1)],u.2⟩)
  (fun u=>u.1≤cl.length∧Inv u.1 u.2) (fun u=>cl.length - u.1) ?_ (0,H0) ⟨by simp,h0⟩
 rintro ⟨k,H⟩ ⟨hk,hv⟩ ih
 simp only at hk hv ih ⊢
 repeat first|((first|refine ra ?_|refine rb ?_|refine rh ?_);simp)|refine qf ?_|refine qg ?_
 refine Qb rfl (fun zj=> ?_) (fun zk=> ?_)
 ·have z6:k<cl.length:=by simpa using zj
  have hw:IntKind.i64.wrap ((k:Int)+1)=k+1:=wrap_i64 _ (by omega) (by omega)
  have zc:=zg _ (List.getElem_mem z6)
  have zb:cl[k]? =some cl[k]:=List.getElem?_eq_getElem z6
  repeat first|((first|refine ra ?_|refine rb ?_|refine rh ?_);simp [z6])|refine qf ?_|refine qg ?_
  generalize cl[k]=c at *;refine Qe rfl rfl (by simp) (z0u c zc.1 zc.2.1) rfl ?_
  rintro _ rfl
  simp
  repeat first|((first|refine ra ?_|refine rb ?_|refine rh ?_);simp)|refine qf ?_|refine qg ?_
  have zd:=z8 k H [.vars [.list (c.map encL)],.vars [.i (Qm c).ty,.i (Qm c).num]] hv
  obtain ⟨i1,i2,i3,rest,i4⟩:=hI k _ zd
  have h6:(H++[AObj.vars [.list (c.map encL)],.vars [.i (Qm c).ty,.i (Qm c).num]])[H.length+1]? =some (.vars [.i (Qm c).ty,.i (Qm c).num]):=by rw [List.getElem?_append_right (by omega)];simp
  have h5:(H++[AObj.vars [.list (c.map encL)],.vars [.i (Qm c).ty,.i (Qm c).num]])[H.length]? =some (.vars [.list (c.map encL)]):=by rw [List.getElem?_append_right (by omega)];simp
  generalize H++[AObj.vars [.list (c.map encL)],.vars [.i (Qm c).ty,.i (Qm c).num]]=G at *;refine Qn tOk mixed [] (.val 0 (.val 1 (.val 2 (.val 3 (.val 4 (.val 5 (.one 6 (.val 7 (.done))))))))) rfl (by kernel_rfl) ?_
  simp [i2,i3,i4,h6]
  refine Qe rfl rfl (by simp) (Vm a ha set (Qm c) zc.2.2) rfl ?_
  rintro _ rfl
  simp
  have hlen:=Lt ha set (Qm c)
  have zl:=za k c G zb
  have zm:=z1 k c G zb
  generalize Wg a set (Qm c)=nx at *
  by_cases hnx:nx=[]
  ·subst hnx
   repeat first|((first|refine ra ?_|refine rb ?_|refine rh ?_);simp [h5])|refine qf ?_|refine qg ?_
   refine Q7 rfl rfl ?_
   simp
   repeat first|((first|refine ra ?_|refine rb ?_|refine rh ?_);simp)|refine qf ?_|refine qg ?_
   refine Qb rfl (fun h=>by cases h) (fun _=> ?_)
   repeat first|((first|refine ra ?_|refine rb ?_|refine rh ?_);simp [hw])|refine qf ?_|refine qg ?_
   refine Qc (sl':=[(0,.yld q),(1,.vptr c1 0),(2,.vptr c2 0),(12,LP cl),(13,.i cl.length),(14,.i (k+1:Nat))]) ?_ (by simp)
   exact ih (k+1,G) ⟨by omega,zl rfl zd⟩ (by omega)
  ·have ze:0<nx.length:=List.length_pos_iff.2 hnx
   repeat first|((first|refine ra ?_|refine rb ?_|refine rh ?_);simp [h5,ze])|refine qf ?_|refine qg ?_
   refine Oy rfl rfl (q:=q) rfl rfl i1 zh zi rfl (fun jm K2=>jm=none∧Inv (k+1) (K2.set q (.lp true none z7 sl' ps asg body))) ?_ ?_
   ·exact zm hnx zd
   ·rintro jm K2 ⟨rfl,hK⟩
    simp
    repeat first|((first|refine ra ?_|refine rb ?_|refine rh ?_);simp)|refine qf ?_|refine qg ?_
    refine Qb rfl (fun h=>by cases h) (fun _=> ?_)
    repeat first|((first|refine ra ?_|refine rb ?_|refine rh ?_);simp [hw])|refine qf ?_|refine qg ?_
    refine Qc (sl':=[(0,.yld q),(1,.vptr c1 0),(2,.vptr c2 0),(12,LP cl),(13,.i cl.length),(14,.i (k+1:Nat))]) ?_ (by simp)
    exact ih (k+1,_) ⟨by omega,hK⟩ (by omega)
 ·have zf:k=cl.length:=by simp at zk;omega
  subst zf
  repeat first|((first|refine ra ?_|refine rb ?_|refine rh ?_);simp)|refine qf ?_|refine qg ?_
  exact hv
end Go.Abs
namespace Go.Abs
open Go Go.Proofs Go.Maps Go.RowKit
section
variable {P:Program} [Env P] {T:TT} {nt k:Nat} {S:AS} {ops:Array Oper} {o:Oper} {R:AS→Prop} {Q:Exit→AS→Prop}
theorem L5 {wr:Bool} {sl:List (Nat×AV)} {H:List AObj} (i j e sz:Nat) {xs:List AV} (hi:H[i]? =some (.vars xs)) (hj:xs[j]? =some .nils)
  (h:Wp P nt k wr ops o ⟨sl,(H++[AObj.arr e sz []]).set i (.vars (xs.set j (.sl H.length sz 0 0)))⟩ R):Wp P nt k wr ops o ⟨sl,H⟩ R:=fun C a w K Q' hs=>by
 obtain ⟨I,m,hw,z1,hk,hf⟩:=hs
 obtain ⟨g1,g2⟩:=hw.push (Below.refl _ _) none (fun b e=>by cases e) (.arr e sz []) (fun m' _ _=> .inl ⟨rfl,rfl⟩)
 have z8:i<H.length:=(List.getElem?_eq_some_iff.1 hi).1
 have z6:(H++[AObj.arr e sz []])[i]? =some (.vars xs):=by rw [List.getElem?_append_left z8];exact hi
 obtain ⟨b,t,vs,hb,hh,za,hr⟩:=g1.obj i _ z6
 obtain ⟨g3,g4⟩:=g1.set (w':=w) (o':= .vars (xs.set j (.sl H.length sz 0 0))) z6 rfl hb (World.grownBy.refl _ _) (fun _ h=>h) (fun m' z7=>⟨b,t,vs,rfl,hh,by simp [za],fun q v x hv hx=>by
  by_cases hq:j=q
  ·subst hq;rw [List.getElem?_set_self (List.getElem?_eq_some_iff.1 hj).1] at hx
   cases hx
   have:=(hr j v _ hv hj).nils_inv
   subst this;exact .slnone H.length sz (by simp) (by rw [z7.ids _ (by simp)];exact Wd ..)
  ·rw [List.getElem?_set_ne hq] at hx;exact (hr q v x hv hx).mono z7 (Nat.le_refl _)⟩)
 have hlen:((H++[AObj.arr e sz []]).set i (.vars (xs.set j (.sl H.length sz 0 0)))).length=H.length+1:=by simp
 refine h C a w K Q' ⟨I,upd m H.length none,g3,⟨z1.1,z1.2.1,fun s x hx=> ?_⟩,by simp at hk ⊢;omega,hf.trans hk g2⟩
 obtain ⟨v,hv,zb⟩:=z1.2.2 s x hx
 refine ⟨v,hv,?_⟩
 have:=zb.mono (n':=H.length+1) g2 (by simp)
 rw [hlen];exact this
end
theorem Cs {a:Aut} (h:OkA a) (hm:(Rm a.types (onA a)).1=0):∃cl,Rm a.types (onA a)=(0,cl)∧Cls a cl∧cl.length≤256∧∀c∈cl,Hm [c]=0∧We c=false∧Rj a (Qm c)∧PWf a.types.toNat c∧∀s∈c,s.length≤256:=by
 have hc:=x1d h
 have za:a.mv.map (·.on)=onA a:=rfl
 rw [za] at hc
 have z7:=Jq h
 have zb:=d0j a.types (onA a)
 rcases f0b h.types z7 with h5|h5
 ·omega
 ·refine ⟨_,h5,hc,?_⟩
  have hb:A5 (Q0 a.types.toNat (onA a))=false:=by
   cases hb:A5 (Q0 a.types.toNat (onA a)) with
   |false=>rfl
   |true=>
    rw [←zb,g0z] at hm;rw [if_neg (by have:=h.types;omega)] at hm
    have hl:(onA a).length≤256:=by
     by_cases hl:256<(onA a).length
     ·rw [if_pos hl] at hm;simp at hm
     ·omega
    rw [if_neg (by omega),if_neg (fun k=>k ((Ie _).2 fun p hp=>(Eh _ p).2 ⟨h.types,z7 p hp⟩)),hb] at hm
    simp at hm
  simp only [A5,Bool.or_eq_false_iff,decide_eq_false_iff_not,List.any_eq_false,decide_eq_true_eq] at hb;refine ⟨by omega,fun c z1=> ?_⟩
  have hw:=hc.wf c z1
  have z8:∀s∈c,s.length≤256:=fun s hs=>by
   have:=hb.2 c z1
   simp only [Bool.not_eq_true,List.any_eq_false,decide_eq_true_eq] at this
   have:=this s hs;omega
  have z6:Ev a.types c=0:=(Eh _ c).2 ⟨h.types,hw.1.1,fun s hs=>Fg (hw.1.2 s hs).1 (q0v (hw.1.2 s hs).1 (hw.1.2 s hs).2) (by have:=z8 s hs;omega)⟩
  refine ⟨(y17 z6).1,?_,z1j hc z1,hw.1,z8⟩;rw [Bool.eq_false_iff];intro hv
  obtain ⟨ty,y,hy⟩:=hw.2
  exact (E9 hw.1).1 hv ty y hy
theorem q1g (a:Aut) (k:Nat) (h:k<a.mv.length):(onA a).take (k+1)=(onA a).take k++[a.mv[k].on]:=by
 rw [List.take_succ_eq_append_getElem (by simpa [onA] using h)];simp [onA]
theorem K5 (a:Aut):(onA a).length=a.mv.length:=by simp [onA]
theorem V0:∀(xs:List (List Int)) (Q:List (List Int)),(W8 Q xs).length≤Q.length+xs.length
 |[],Q=>by simp [W8]
 |x::xs,Q=>by
  have h:=V0 xs (Hl Q x)
  have e:W8 Q (x::xs)=W8 (Hl Q x) xs:=rfl
  have h2:(Hl Q x).length≤Q.length+1:=by
   unfold Hl;split<;>simp
  rw [e,List.length_cons];omega
theorem q0o {a:Aut} (z1:OkA a) {Q:List (List Int)} (hQ:∀l∈Q,Pr l) (z8:Q.length≤256) {cl:List Prd} (za:cl.length≤256) {l:List Int} (k:Nat):
  (∀y∈W8 Q ((Rv a cl l).take k),Pr y)∧(W8 Q ((Rv a cl l).take k)).length≤600:=by
 have hlen:=V0 ((Rv a cl l).take k) Q
 have z6:(Rv a cl l).length=cl.length:=by simp [Rv]
 rw [List.length_take,z6] at hlen;refine ⟨fun y hy=> ?_,by omega⟩
 obtain ⟨R,hR,z7⟩:=Y1 ((Rv a cl l).take k) Q
 rw [hR] at hy
 rcases List.mem_append.1 hy with hy|hy
 ·exact hQ y hy
 ·obtain ⟨h1,h2⟩:=z7 y hy
  obtain ⟨c,_,rfl⟩:=List.mem_map.1 (List.mem_of_mem_take h1)
  have:=z1.fin
  exact ⟨h2,Lt z1 _ _,fun z hz=>by have:=Pu z hz;omega⟩
theorem J3 (Q xs:List (List Int)) (x:List Int):W8 Q (xs++[x])=Hl (W8 Q xs) x:=by unfold W8;rw [List.foldl_append];rfl
theorem g02 {Q:List (List Int)} {x:List Int} (h:x≠[]):Hl Q x=v0c Q x:=by
 unfold Hl v0c
 by_cases hx:x∈Q
 ·rw [if_pos (.inr hx),if_pos hx]
 ·rw [if_neg (by simp [h,hx]),if_neg hx]
theorem y1l (Q:List (List Int)):Hl Q []=Q:=by unfold Hl;simp
attribute [local irreducible] Wg Qm Rm onA mpT Ru
set_option maxHeartbeats 8000000 in
theorem y0n (H:List AObj) (a:Aut):FC Tryz.prog 50 [encA a] H (fun res H'=>(∀j,j<H.length→H'[j]? =H[j]?)∧(((Oc a).1≠0∧res= .tup [.nilp,.i (Oc a).1])∨
  ((Oc a).1=0∧∃r p m,res= .tup [.vptr r 0,.i 0]∧TB r p m a (Oc a).2.1 (Oc a).2.2 H'∧H.length≤r∧H.length≤p∧H.length≤m))):=by
 refine W4 tOk Tryz.func50 rfl Tryz.results50 rfl (by simp [Tryz.ntmps50]) ?_
 rw [Tryz.ntmps50];simp only [Qg];simp only [encA]
 repeat first|((first|refine ra ?_|refine rb ?_|refine rh ?_);simp)|refine qf ?_|refine qg ?_
 have b0:∀L,(H++[AObj.vars (Q3 a)]++L)[H.length]? =some (.vars (Q3 a)):=fun L=>by rw [List.append_assoc,List.getElem?_append_right (by omega)];simp
 refine Qe rfl rfl (by simp) (Iu a) rfl ?_
 rintro _ rfl
 simp
 repeat first|((first|refine ra ?_|refine rb ?_|refine rh ?_);simp)|refine qf ?_|refine qg ?_
 refine Qb rfl (fun h=> ?_) (fun h=> ?_)
 ·have h':Wt a≠0:=by simpa using h
  have hs:Oc a=(Wt a,[],[]):=Br h'
  rw [hs]
  repeat first|((first|refine ra ?_|refine rb ?_|refine rh ?_);simp)|refine qf ?_|refine qg ?_
  exact ⟨fun j hj=>List.getElem?_append_left hj,h'⟩
 have h0:Wt a=0:=by simpa using h
 have z7:=(P7 a).1 h0
 have ym:=z7.fin
 have yn:=z7.mvs
 repeat first|((first|refine ra ?_|refine rb ?_|refine rh ?_);simp)|refine qf ?_|refine qg ?_
 refine Q6 5 76 1 rfl ?_
 simp
 obtain ⟨G0,zg⟩:∃G0,G0=H++[AObj.vars (Q3 a)]:=⟨_,rfl⟩
 have y4:G0[H.length]? =some (.vars (Q3 a)):=by rw [zg];simp
 have zh:G0.length=H.length+1:=by rw [zg];simp
 have y5:∀j,j<H.length→G0[j]? =H[j]? :=fun j hj=>by rw [zg];exact List.getElem?_append_left hj
 have y6:=SL.start G0 76 1
 refine Qp (Qc (sl':=[(1,.vptr H.length 0),(5,.sl G0.length 1 0 (0:Nat)),(20,.list (a.mv.map encMv)),(21,.i a.mv.length),(22,.i (0:Nat))]) ?_ (by simp [zh]))
 refine Qo (F:=fun (u:Nat×Nat×List AObj)=>⟨[(1,.vptr H.length 0),(5,.sl u.2.1 1 0 u.1),(20,.list (a.mv.map encMv)),(21,.i a.mv.length),(22,.i u.1)],u.2.2⟩)
  (fun u=>u.1≤a.mv.length∧SL G0 u.2.2 u.2.1 76 1 (((onA a).take u.1).map encP)) (fun u=>a.mv.length - u.1) ?_ (0,G0.length,_) ⟨by simp,by simp only [List.take_zero,List.map_nil];rw [zg] at y6 ⊢;simpa using y6⟩
 rintro ⟨j,q,E⟩ ⟨hj,s1⟩ ih
 simp only at hj s1 ih ⊢
 repeat first|((first|refine ra ?_|refine rb ?_|refine rh ?_);simp)|refine qf ?_|refine qg ?_
 refine Qb rfl (fun zq=> ?_) (fun zr=> ?_)
 ·have z1:j<a.mv.length:=by simpa using zq
  have hw:IntKind.i64.wrap ((j:Int)+1)=j+1:=wrap_i64 _ (by omega) (by omega)
  have za:=q1g a j z1
  have y7:((onA a).take j).length=j:=by rw [List.length_take,K5];omega
  have y8:=fun q' E'=>ih (j+1,q',E')
  simp only [za] at y8;clear za;generalize (onA a).take j=acc at *
  repeat first|((first|refine ra ?_|refine rb ?_|refine rh ?_);simp [z1])|refine qf ?_|refine qg ?_
  generalize a.mv[j]=mm at *;refine Qd tOk rfl rfl T91 rfl T76 rfl (by decide) (by decide) rfl rfl rfl ?_
  simp [Qa s1.arr,Qi s1.arr,y7]
  refine ⟨by simp [Wh,Qa s1.arr,Qi s1.arr,y7]<;>omega,?_⟩
  repeat first|((first|refine ra ?_|refine rb ?_|refine rh ?_);simp [hw])|refine qf ?_|refine qg ?_
  refine Qc (sl':=[(1,.vptr H.length 0),(5,.sl (E.length+2) 1 0 (j+1)),(20,.list (a.mv.map encMv)),(21,.i a.mv.length),(22,.i (j+1:Nat))]) ?_ (by simp)
  have:=y8 (E.length+2) _ ⟨by omega,s1.put [AObj.vars [AV.i mm.src,AV.i mm.dst,AV.list (mm.on.map encL)],AObj.arr 76 1 [encP mm.on]] ((acc++[mm.on]).map encP) rfl⟩ (by omega)
  simpa using this
 ·have zi:j=a.mv.length:=by simp at zr;omega
  subst zi;rw [List.take_of_length_le (by rw [K5];omega)] at s1
  refine Wl q s1.arr ?_
  simp [K5]
  rw [List.take_of_length_le (by simp [K5])]
  have yo:=s1.ge
  have yp:=s1.le
  have zj:(E.set q .dead)[H.length]? =some (.vars (Q3 a)):=by rw [List.getElem?_set_ne (by omega),s1.keep _ (by omega)];exact y4
  have zu:∀i,i<H.length→(E.set q .dead)[i]? =H[i]? :=fun i hi=>by rw [List.getElem?_set_ne (by omega),s1.keep _ (by omega)];exact y5 i hi
  have y9:H.length<(E.set q .dead).length:=Qh zj
  generalize E.set q .dead=E1 at *;clear s1 yp yo ih
  repeat first|((first|refine ra ?_|refine rb ?_|refine rh ?_);simp [zj])|refine qf ?_|refine qg ?_
  refine Qe rfl rfl (by simp) (B5 a.types (onA a)) rfl ?_
  rintro _ rfl
  simp
  repeat first|((first|refine ra ?_|refine rb ?_|refine rh ?_);simp)|refine qf ?_|refine qg ?_
  refine Qb rfl (fun h3=> ?_) (fun h3=> ?_)
  ·have zm:(Rm a.types (onA a)).1≠0:=by simpa using h3
   have hs:Oc a=((Rm a.types (onA a)).1,[],[]):=by rw [Oc,if_neg (fun k=>k h0),if_pos zm]
   rw [hs]
   repeat first|((first|refine ra ?_|refine rb ?_|refine rh ?_);simp)|refine qf ?_|refine qg ?_
   exact ⟨zu,zm⟩
  have zm:(Rm a.types (onA a)).1=0:=by simpa using h3
  obtain ⟨cl,ya,yq,zc,zv⟩:=Cs z7 zm
  rw [ya]
  repeat first|((first|refine ra ?_|refine rb ?_|refine rh ?_);simp [zj])|refine qf ?_|refine qg ?_
  refine Rs rfl rfl rfl ?_
  simp
  repeat first|((first|refine ra ?_|refine rb ?_|refine rh ?_);simp)|refine qf ?_|refine qg ?_
  refine Ew (E1.length+3) (e:=3) (c:=1) (xs:=[.i 0]) (by rw [List.getElem?_append_right (by omega)];simp) ?_
  simp
  refine L5 (E1.length+1) 4 40 1 (xs:=[.i a.types,.list (a.fin.map .bool),.list (a.mv.map encMv),LP cl,.nils,.mref E1.length]) (by rw [List.getElem?_append_right (by omega)];simp) rfl ?_
  refine R8 fun Z hZ=> ?_
  have yr:Z.length=E1.length+5:=by rw [hZ];simp
  have z0:Z[H.length]? =some (.vars (Q3 a)):=by rw [hZ,List.getElem?_set_ne (by omega),List.append_assoc,List.getElem?_append_left y9];exact zj
  have zk:∀i,i<H.length→Z[i]? =H[i]? :=fun i hi=>by rw [hZ,List.getElem?_set_ne (by omega),List.append_assoc,List.getElem?_append_left (by omega)];exact zu i hi
  have zt:TB (E1.length+1) (E1.length+4) E1.length a cl [] Z:=by
   refine ⟨?_,?_,?_⟩
   ·rw [hZ,List.getElem?_set_self (by simp)];simp
   ·rw [hZ,List.getElem?_set_ne (by omega),List.getElem?_append_right (by simp)];simp [LQ]
   ·rw [hZ,List.getElem?_set_ne (by omega),List.append_assoc,List.getElem?_append_right (by omega)];simp [Er]
  have zb:Z[E1.length+2]? =some (.vars [.vptr (E1.length+1) 0]):=by rw [hZ,List.getElem?_set_ne (by omega),List.append_assoc,List.getElem?_append_right (by omega)];simp
  clear hZ
  have yc:Pr [0]:=⟨by simp,by simp,fun z hz=>by simp at hz;omega⟩
  refine Q5 rfl rfl (N1 Z _ _ _ a cl [] [0] zt yc (fun l hl=>by simp at hl) (by simp)) rfl ?_
  rintro res Y ⟨j0,p,rfl,yd,ht,yt,yu,-,zn⟩
  have zw:v0c [] [0]=[[0]]:=by simp [v0c]
  rw [zw] at ht
  simp
  repeat first|((first|refine ra ?_|refine rb ?_|refine rh ?_);simp)|refine qf ?_|refine qg ?_
  have y0:=(zn H.length (by omega) (by omega) (by omega) (by omega)).trans z0
  have yk:∀i,i<H.length→Y[i]? =H[i]? :=fun i hi=>(zn i (by omega) (by omega) (by omega) (by omega)).trans (zk i hi)
  have yb:=(zn _ (by omega) (by omega) (by omega) (by omega)).trans zb
  have ze:H.length≤p:=by omega
  have yv:H.length≤E1.length+1:=by omega
  have xh:H.length≤E1.length+2:=by omega
  have yw:H.length≤E1.length:=by omega
  refine Qy (sl':=[(10,.vptr (E1.length+2) 0),(11,.i (0:Nat))]) ?_ (by simp)
  clear zt z0 zk zb zn yr yu yd yt zj zu y9 y4 zh y5 zg;generalize E1.length+1=r at *;generalize E1.length+2=b at *;generalize E1.length=m at *
  have z6:Oc a=match y00 a cl 257 0 [[0]] with
    |none=>(5,[],[])
    |some Q=>(0,cl,Q):=by
   rw [Oc,if_neg (fun k=>k h0),ya];rfl
  refine Qp (Qc (sl':=[(10,.vptr b 0),(11,.i (0:Nat))]) ?_ (by simp))
  refine Qo (F:=fun (u:Nat×Nat×List (List Int)×List AObj)=>⟨[(10,.vptr b 0),(11,.i u.1)],u.2.2.2⟩)
   (fun u=>u.1≤u.2.2.1.length∧u.2.2.1.length≤256∧TB r u.2.1 m a cl u.2.2.1 u.2.2.2∧H.length≤u.2.1∧u.2.2.2[b]? =some (.vars [.vptr r 0])∧(∀i,i<H.length→u.2.2.2[i]? =H[i]?)∧(∀l∈u.2.2.1,Pr l)∧y00 a cl 257 0 [[0]]=y00 a cl (257 - u.1) u.1 u.2.2.1) (fun u=>257 - u.1) ?_ (0,p,[[0]],Y) ⟨by simp,by simp,ht,ze,yb,yk,fun l hl=>by rw [List.mem_singleton.1 hl];exact yc,rfl⟩
  clear ht ze yb yk y0;clear Y
  rintro ⟨i,p,Q,Y⟩ ⟨hi,zx,ht,ze,yb,yk,hQ,z8⟩ ih
  simp only at hi zx ht ze yb yk hQ z8 ih ⊢
  have ye:=ht.t
  repeat first|((first|refine ra ?_|refine rb ?_|refine rh ?_);simp [yb,ye])|refine qf ?_|refine qg ?_
  refine Qb rfl (fun zq=> ?_) (fun zr=> ?_)
  ·have z1:i<Q.length:=by simpa using zq
   have hw:IntKind.i64.wrap ((i:Int)+1)=i+1:=wrap_i64 _ (by omega) (by omega)
   have yx:=ht.s
   have hlo:=hQ _ (List.getElem_mem z1)
   repeat first|((first|refine ra ?_|refine rb ?_|refine rh ?_);simp)|refine qf ?_|refine qg ?_
   refine Qn tOk mixed [8] (.val 0 (.val 1 (.val 2 (.val 3 (.val 4 (.val 5 (.val 6 (.val 7 (.one 8 (.done)))))))))) rfl (by kernel_rfl) ?_
   simp [yb,ye,yx,z1]
   refine Q5 rfl rfl (P4 Y r Q[i]) rfl ?_
   rintro _ _ ⟨rfl,rfl⟩
   simp
   repeat first|((first|refine ra ?_|refine rb ?_|refine rh ?_);simp)|refine qf ?_|refine qg ?_
   have zo:y00 a cl (257 - i) i Q=if 256<(W8 Q (Rv a cl Q[i])).length then none else y00 a cl (257 - (i+1)) (i+1) (W8 Q (Rv a cl Q[i])):=by
    have:257 - i=(257 - (i+1))+1:=by omega
    rw [this,y00,List.getElem?_eq_getElem z1]
   rw [zo] at z8;clear zo;generalize Q[i]=l at *
   have yy:(Rv a cl l).length=cl.length:=by simp [Rv]
   have yf:∀(k:Nat) (c:Prd),cl[k]? =some c→(Rv a cl l).take (k+1)=(Rv a cl l).take k++[Wg a l (Qm c)]:=fun k c hc=>by
    have hk:=D9 hc
    have yz:cl[k]=c:=by rw [List.getElem?_eq_getElem hk] at hc;exact Option.some.inj hc
    rw [List.take_succ_eq_append_getElem (by rw [yy];exact hk)]
    simp [Rv,yz]
   have x0:∀k,(∀y∈W8 Q ((Rv a cl l).take k),Pr y)∧(W8 Q ((Rv a cl l).take k)).length≤600:=fun k=>q0o z7 hQ zx zc k
   have x1:=Qh yb
   refine Rn rfl (Rf:=fun _ H'=>∃p',TB r p' m a cl (W8 Q (Rv a cl l)) H'∧H.length≤p'∧H'[b]? =some (.vars [.vptr r 0])∧(∃sl' zy a' b',H'[Y.length+2]? =some (.lp true none 80 sl' zy a' b'))∧∀i,i<H.length→H'[i]? =H[i]?) ?_ ?_
   ·simp
    refine X7 fun H1 zd=> ?_
    have ft:TB r p m a cl Q H1:=ht.keep fun j hj=>by
     have:j<Y.length:=by
      rcases hj with rfl|rfl|rfl
      ·exact Qh ht.t
      ·exact Qh ht.s
      ·exact Qh ht.n
     rw [zd,List.getElem?_append_left this]
    have fb:H1[b]? =some (.vars [.vptr r 0]):=by rw [zd,List.getElem?_append_left x1];exact yb
    have x2:H1[Y.length]? =some (.vars [.vptr r 0]):=by rw [zd,List.getElem?_append_right (by omega)];simp
    have x3:H1[Y.length+1]? =some (.vars [LI l]):=by rw [zd,List.getElem?_append_right (by omega)];simp
    have fk:∀i,i<H.length→H1[i]? =H[i]? :=fun i hi=>by
     rw [zd,List.getElem?_append_left (by have:=Qh ht.t;omega)];exact yk i hi
    have fq:=congrArg (fun h:List AObj=>h[Y.length+2]?) zd
    simp at fq;clear zd;refine FC.mono (My a z7 cl l (fun c hc=>⟨(zv c hc).1,(zv c hc).2.1,(zv c hc).2.2.1⟩) zc (Y.length+2) Y.length (Y.length+1) r (by rfl) (by rfl)
     (fun k H'=>∃p',TB r p' m a cl (W8 Q ((Rv a cl l).take k)) H'∧H.length≤p'∧H'[b]? =some (.vars [.vptr r 0])∧H'[Y.length]? =some (.vars [.vptr r 0])∧H'[Y.length+1]? =some (.vars [LI l])∧H'[Y.length+2]? =H1[Y.length+2]? ∧∀i,i<H.length→H'[i]? =H[i]?)
     (fun k H' ⟨p',h1,h2,h3,h4,h5,h6,h7⟩=>⟨h6.trans fq,h4,h5,_,h1.t⟩) ?_ ?_ ?_ H1 ⟨p,ft,ze,fb,x2,x3,rfl,fk⟩) ?_
    ·rintro k H' L ⟨p',h1,h2,h3,h4,h5,h6,h7⟩
     refine ⟨p',h1.keep fun j hj=> ?_,h2,Qa h3 _,Qa h4 _,Qa h5 _,by rw [←h6,List.getElem?_append_left (by rw [fq] at h6;exact Qh h6)],fun i hi=>by rw [List.getElem?_append_left (by have:=Qh h1.t;omega)];exact h7 i hi⟩
     have:j<H'.length:=by
      rcases hj with rfl|rfl|rfl
      ·exact Qh h1.t
      ·exact Qh h1.s
      ·exact Qh h1.n
     exact List.getElem?_append_left this
    ·rintro k c H' hc za ⟨p',h1,h⟩
     refine ⟨p',?_,h⟩;rw [yf k c hc,za,J3,y1l];exact h1
    ·rintro k c H' hc za ⟨p',h1,h2,h3,h4,h5,h6,h7⟩
     have zz:Pr (Wg a l (Qm c)):=by
      have:=z7.fin
      exact ⟨za,Lt z7 _ _,fun z hz=>by have:=Pu z hz;omega⟩
     have y1:=yf k c hc
     have zl:=x0 k
     rw [y1,J3,g02 za];generalize Wg a l (Qm c)=nx at *;generalize W8 Q ((Rv a cl l).take k)=Q2 at *
     simp [Yb]
     have h8:=h6.trans fq
     have yg:Y.length+2≠r:=fun e=>by have:=h1.t;rw [←e,h8] at this;simp at this
     have yh:Y.length+2≠p':=fun e=>by have:=h1.s;rw [←e,h8] at this;simp at this
     have yi:Y.length+2≠m:=fun e=>by have:=h1.n;rw [←e,h8,Er] at this;simp at this
     have zp:Y.length+2≠b:=fun e=>by rw [←e,h8] at h3;simp at h3
     have x4:b≠r:=fun e=>by have:=h1.t;rw [←e,h3] at this;simp at this
     have x5:b≠p':=fun e=>by have:=h1.s;rw [←e,h3] at this;simp at this
     have x6:b≠m:=fun e=>by have:=h1.n;rw [←e,h3,Er] at this;simp at this
     have x7:Y.length≠r:=fun e=>by have:=h1.t;rw [←e,h4] at this;simp at this
     have x8:Y.length≠p':=fun e=>by have:=h1.s;rw [←e,h4] at this;simp at this
     have x9:Y.length≠m:=fun e=>by have:=h1.n;rw [←e,h4,Er] at this;simp at this
     have xa:Y.length+1≠r:=fun e=>by have:=h1.t;rw [←e,h5] at this;simp at this
     have xb:Y.length+1≠p':=fun e=>by have:=h1.s;rw [←e,h5] at this;simp at this
     have xc:Y.length+1≠m:=fun e=>by have:=h1.n;rw [←e,h5,Er] at this;simp at this
     have d1:TB r p' m a cl Q2 (H'.set (Y.length+2) .dead):=h1.keep fun j hj=>by
      rw [List.getElem?_set_ne (by rcases hj with rfl|rfl|rfl<;>assumption)]
     have d3:=Qf zp h3 .dead
     have d4:=Qf (j:=Y.length+2) (by omega) h4 .dead
     have d5:=Qf (j:=Y.length+2) (by omega) h5 .dead
     have d6:=Qj h8 .dead
     have d7:∀i,i<H.length→(H'.set (Y.length+2) .dead)[i]? =H[i]? :=fun i hi=>by
      rw [List.getElem?_set_ne (by have:=Qh yb;omega)];exact h7 i hi
     have dl:(H'.set (Y.length+2) .dead).length=H'.length:=by simp
     generalize H'.set (Y.length+2) .dead=Z at *
     repeat first|((first|refine ra ?_|refine rb ?_|refine rh ?_);simp [d3])|refine qf ?_|refine qg ?_
     refine Q5 rfl rfl (N1 Z r p' m a cl Q2 nx d1 zz zl.1 (by have:=zl.2;omega)) rfl ?_
     rintro res Z2 ⟨j0,p2,rfl,yd,yj,xi,xj,-,zf⟩
     simp
     repeat first|((first|refine ra ?_|refine rb ?_|refine rh ?_);simp)|refine qf ?_|refine qg ?_
     have hz:∀i,i<Z.length→i≠r→i≠p'→i≠m→Z2[i]? =Z[i]? :=zf
     have e3:=(zf b (Qh d3) x4 x5 x6).trans d3
     have e4:=(zf _ (Qh d4) x7 x8 x9).trans d4
     have e5:=(zf _ (Qh d5) xa xb xc).trans d5
     have e6:=(zf _ (Qh d6) yg yh yi).trans d6
     have xd:Y.length+2≠p2:=fun e=>by have:=yj.s;rw [←e,e6] at this;simp at this
     refine ⟨e6,rfl,p2,yj.keep (fun j hj=>by rw [List.getElem?_set_ne (by rcases hj with rfl|rfl|rfl<;>assumption)]),by have:=Qh d6;omega,Qf zp e3 _,e4,e5,?_,fun i hi=> ?_⟩
     ·rw [fq];exact Qj e6 _
     ·rw [List.getElem?_set_ne (by have:=Qh yb;omega),zf i (by have:=Qh d6;omega) (by omega) (by omega) (by omega)];exact d7 i hi
    ·rintro _ H' ⟨p',h1,h2,h3,h4,h5,h6,h7⟩
     rw [List.take_of_length_le (by omega)] at h1
     exact ⟨p',h1,h2,h3,⟨_,_,_,_,h6.trans fq⟩,h7⟩
   ·rintro res H' ⟨p',h1,h2,h3,⟨sl',zy,a',b',h6⟩,h7⟩
    refine ⟨true,none,80,sl',zy,a',b',by simpa using h6,?_⟩
    simp
    have yg:Y.length+2≠r:=fun e=>by have:=h1.t;rw [←e,h6] at this;simp at this
    have yh:Y.length+2≠p':=fun e=>by have:=h1.s;rw [←e,h6] at this;simp at this
    have yi:Y.length+2≠m:=fun e=>by have:=h1.n;rw [←e,h6,Er] at this;simp at this
    have zp:Y.length+2≠b:=fun e=>by rw [←e,h6] at h3;simp at h3
    have d1:TB r p' m a cl (W8 Q (Rv a cl l)) (H'.set (Y.length+2) .dead):=h1.keep fun j hj=>by
     rw [List.getElem?_set_ne (by rcases hj with rfl|rfl|rfl<;>assumption)]
    have d3:=Qf zp h3 .dead
    have d7:∀i,i<H.length→(H'.set (Y.length+2) .dead)[i]? =H[i]? :=fun i hi=>by
     rw [List.getElem?_set_ne (by have:=Qh yb;omega)];exact h7 i hi
    have yl:=q0o z7 hQ zx zc (l:=l) cl.length
    rw [List.take_of_length_le (by omega)] at yl
    have xe:=z0h Q (Rv a cl l)
    generalize H'.set (Y.length+2) .dead=Z at *;generalize W8 Q (Rv a cl l)=Q2 at *
    have d0:=d1.t
    repeat first|((first|refine ra ?_|refine rb ?_|refine rh ?_);simp [d3,d0])|refine qf ?_|refine qg ?_
    refine Qb rfl (fun y2=> ?_) (fun xf=> ?_)
    ·have xg:256<Q2.length:=by simp at y2;omega
     rw [if_pos xg] at z8;rw [z8] at z6;rw [z6]
     repeat first|((first|refine ra ?_|refine rb ?_|refine rh ?_);simp)|refine qf ?_|refine qg ?_
     exact d7
    ·have y3:¬256<Q2.length:=by simp at xf;omega
     rw [if_neg y3] at z8
     repeat first|((first|refine ra ?_|refine rb ?_|refine rh ?_);simp [hw])|refine qf ?_|refine qg ?_
     refine Qc (sl':=[(10,.vptr b 0),(11,.i (i+1:Nat))]) ?_ (by simp)
     exact ih (i+1,p',Q2,Z) ⟨by show i+1≤Q2.length;omega,by show Q2.length≤256;omega,d1,h2,d3,d7,yl.1,z8⟩ (by omega)
  ·have zi:i=Q.length:=by simp at zr;omega
   have zo:y00 a cl (257 - i) i Q=some Q:=by
    have:257 - i=(256 - i)+1:=by omega
    rw [this,y00,List.getElem?_eq_none (by omega)]
   rw [zo] at z8;rw [z8] at z6;rw [z6]
   repeat first|((first|refine ra ?_|refine rb ?_|refine rh ?_);simp [yb])|refine qf ?_|refine qg ?_
   exact ⟨yk,p,m,ht,yv,ze,yw⟩
end Go.Abs
namespace Go.Abs
open Go Go.Proofs Go.Maps Go.RowKit
attribute [local irreducible] Oc
end Go.Abs
namespace Go.Abs
open Go Go.Proofs Go.Maps Go.RowKit
def Fx (fx:List (Nat×AObj)) (H:List AObj):Prop:=∀p∈fx,H[p.1]? =some p.2
theorem Fx.app {fx:List (Nat×AObj)} {H:List AObj} (h:Fx fx H) (L:List AObj):Fx fx (H++L):=fun p hp=>Qa (h p hp) L
theorem Fx.set {fx:List (Nat×AObj)} {H:List AObj} (h:Fx fx H) {x:Nat} {o:AObj} (hx:H[x]? =some o) (hn:∀p∈fx,p.2≠o) (y:AObj):Fx fx (H.set x y):=fun p hp=>by
 have z1:x≠p.1:=fun e=>by
  have:=h p hp
  rw [←e,hx] at this;exact hn p hp (Option.some.inj this).symm
 rw [List.getElem?_set_ne z1];exact h p hp
def j02 (g:List Mv) (to:Nat):Int:=match g.findIdx? fun m:Mv=>decide (m.dst=(to:Int)) with
 |some i=>i
 |none=> -1
theorem u1z (H:List AObj) (id to:Nat) (hid:H[id]? =some (.vars [.i to])) (m:Mv):FC Tryz.prog 59 [encMv m,.vptr id 0] H (fun r H'=>r= .bool (decide (m.dst=(to:Int)))∧H'=H++[.vars [.i m.src,.i m.dst,.list (m.on.map encL)]]):=by
 refine W4 tOk Tryz.func59 rfl Tryz.results59 rfl (by simp [Tryz.ntmps59]) ?_
 rw [Tryz.ntmps59];simp only [Qg];simp only [encMv]
 repeat first|((first|refine ra ?_|refine rb ?_|refine rh ?_);simp [Qa hid])|refine qf ?_|refine qg ?_
 rfl
theorem y1q {g:List Mv} {to j:Nat} (h:j<g.length) (h1:g[j].dst=(to:Int)) (h2:∀i,∀hi:i<g.length,i<j→¬g[i].dst=(to:Int)):j02 g to=j:=by
 have:g.findIdx? (fun m:Mv=>decide (m.dst=(to:Int)))=some j:=by
  rw [List.findIdx?_eq_some_iff_getElem];exact ⟨h,by simpa using h1,fun i hi=>by simpa using h2 i (by omega) hi⟩
 rw [j02,this]
theorem f0h {g:List Mv} {to:Nat} (h2:∀i,∀hi:i<g.length,¬g[i].dst=(to:Int)):j02 g to= -1:=by
 have:g.findIdx? (fun m:Mv=>decide (m.dst=(to:Int)))=none:=by
  rw [List.findIdx?_eq_none_iff];intro m hm
  obtain ⟨i,hi,rfl⟩:=List.getElem_of_mem hm
  simpa using h2 i hi
 rw [j02,this]
set_option maxHeartbeats 2000000 in
theorem v01 (H:List AObj) (v first to id:Nat) (pre g:List Mv) (hid:H[id]? =some (.vars [.i to])) (hv:H[v]? =some (.arr 78 3 ((pre++g).map encMv))) (hl:pre.length+g.length≤1000000000) (hf:first=pre.length):
  FC Tryz.prog 58 [.sl v 3 first g.length,.fn (.func 59) [] [.vptr id 0]] H (fun r H'=>r= .i (j02 g to)∧∃L,H'=H++L):=by
 subst hf;refine W4 tOk Tryz.func58 rfl Tryz.results58 rfl (by simp [Tryz.ntmps58]) ?_
 rw [Tryz.ntmps58];simp only [Qg]
 repeat first|((first|refine ra ?_|refine rb ?_|refine rh ?_);simp)|refine qf ?_|refine qg ?_
 refine Qp (Qc (sl':=[(0,.sl v 3 pre.length g.length),(1,.fn (.func 59) [] [.vptr id 0]),(7,.i g.length),(8,.i (0:Nat))]) ?_ (by simp))
 refine Qo (F:=fun (u:Nat×List AObj)=>⟨[(0,.sl v 3 pre.length g.length),(1,.fn (.func 59) [] [.vptr id 0]),(7,.i g.length),(8,.i u.1)],u.2⟩)
  (fun u=>u.1≤g.length∧(∃L,u.2=H++L)∧∀i,∀hi:i<g.length,i<u.1→¬g[i].dst=(to:Int)) (fun u=>g.length - u.1) ?_ (0,H) ⟨by simp,⟨[],by simp⟩,by simp⟩
 rintro ⟨j,E⟩ ⟨hj,⟨L,hL⟩,hI⟩ ih
 simp only at hj hI hL ih ⊢;subst hL
 repeat first|((first|refine ra ?_|refine rb ?_|refine rh ?_);simp)|refine qf ?_|refine qg ?_
 refine Qb rfl (fun za=> ?_) (fun zb=> ?_)
 ·have z1:j<g.length:=by simpa using za
  have hw:IntKind.i64.wrap ((j:Int)+1)=j+1:=wrap_i64 _ (by omega) (by omega)
  have zc:((pre++g).map encMv)[pre.length+j]? =some (encMv g[j]):=by simp [z1]
  have zd:=Qa hv L
  have z6:=Qa hid L
  repeat first|((first|refine ra ?_|refine rb ?_|refine rh ?_);simp [z1,zd,zc])|refine qf ?_|refine qg ?_
  generalize z8:g[j]=m at *;refine Q5 rfl rfl (u1z (H++L) id to z6 m) rfl ?_
  rintro _ _ ⟨rfl,rfl⟩
  simp
  repeat first|((first|refine ra ?_|refine rb ?_|refine rh ?_);simp)|refine qf ?_|refine qg ?_
  refine Qb rfl (fun h=> ?_) (fun h=> ?_)
  ·repeat first|((first|refine ra ?_|refine rb ?_|refine rh ?_);simp)|refine qf ?_|refine qg ?_
   exact (y1q z1 (by rw [z8];simpa using h) hI).symm
  ·repeat first|((first|refine ra ?_|refine rb ?_|refine rh ?_);simp [hw])|refine qf ?_|refine qg ?_
   refine Qc (sl':=[(0,.sl v 3 pre.length g.length),(1,.fn (.func 59) [] [.vptr id 0]),(7,.i g.length),(8,.i (j+1:Nat))]) ?_ (by simp)
   refine ih (j+1,_) ⟨by omega,⟨L++[.vars [.i m.src,.i m.dst,.list (m.on.map encL)]],by simp⟩,fun i hi ze=> ?_⟩ (by omega)
   by_cases e:i=j
   ·subst e;rw [z8];simpa using h
   ·exact hI i hi (by omega)
 ·have z7:j=g.length:=by simp at zb;omega
  subst z7
  repeat first|((first|refine ra ?_|refine rb ?_|refine rh ?_);simp)|refine qf ?_|refine qg ?_
  exact (f0h fun i hi=>hI i hi hi).symm
end Go.Abs
namespace Go.Abs
open Go Go.Proofs Go.Maps Go.RowKit
theorem C2 {a:Aut} (h:(Oc a).1=0):OkA a∧∃cl Q,Oc a=(0,cl,Q)∧Zh a cl=some Q∧Cls a cl∧Sub a cl Q∧cl.length≤256∧∀c∈cl,Hm [c]=0∧We c=false∧Rj a (Qm c)∧PWf a.types.toNat c∧∀s∈c,s.length≤256:=by
 have h0:Wt a=0:=by
  by_cases h0:Wt a=0
  ·exact h0
  ·rw [Br h0] at h;exact absurd h h0
 have z1:=(P7 a).1 h0
 have hm:(Rm a.types (onA a)).1=0:=by
  by_cases hm:(Rm a.types (onA a)).1=0
  ·exact hm
  ·rw [Oc,if_neg (fun k=>k h0),if_pos hm] at h;exact absurd h hm
 obtain ⟨cl,h1,h2,h3,h4⟩:=Cs z1 hm
 refine ⟨z1,cl,?_⟩
 rcases C9 z1 with h5|⟨Q,h5,h6,h7,h8⟩
 ·rw [h5] at h;simp at h
 ·have z6:Q0 a.types.toNat (onA a)=cl:=by
   have h9:(Oc a).2.1=cl:=by
    rw [Oc,if_neg (fun k=>k h0),if_neg (fun k=>k hm),h1]
    split
    ·rename_i hn
     rw [Oc,if_neg (fun k=>k h0),if_neg (fun k=>k hm),h1] at h
     simp only [hn] at h;simp at h
    ·rfl
   rw [h5] at h9;exact h9
  rw [z6] at h5 h6 h7 h8;exact ⟨Q,h5,h6,h2,h7,h3,h4⟩
theorem k1c (H:List AObj) (id:Nat) (a:Aut) (hid:H[id]? =some (.vars (Q3 a))) (s:Int) (h0:0≤s) (h1:s<a.fin.length):FC Tryz.prog 55 [.i s,.vptr id 0] H (fun r H'=>r= .bool (a.fin.getD s.toNat false)∧H'=H):=by
 refine W4 tOk Tryz.func55 rfl Tryz.results55 rfl (by simp [Tryz.ntmps55]) ?_
 rw [Tryz.ntmps55];simp only [Qg]
 have h2:s.toNat<a.fin.length:=by omega
 repeat first|((first|refine ra ?_|refine rb ?_|refine rh ?_);simp [hid,h0,h1,h2])|refine qf ?_|refine qg ?_
def stepG (a:Aut) (Q:List (List Int)) (n:Nat) (l:List Int) (g:List Mv) (c:Prd):List Mv:=match v0g Q (Wg a l (Qm c)) with|some t=>Te n g t c|none=>g
def Eo (a:Aut) (cl:List Prd) (Q:List (List Int)) (n:Nat) (l:List Int) (k:Nat):List Mv:=(cl.take k).foldl (stepG a Q n l) []
def Dh (a:Aut) (cl:List Prd) (Q:List (List Int)) (n:Nat):List Mv:=(List.range n).flatMap fun n=>Vo a cl Q n (Q.getD n [])
theorem Fv (a:Aut) (cl:List Prd) (Q:List (List Int)) (n:Nat) (l:List Int):Eo a cl Q n l cl.length=Vo a cl Q n l:=by rw [Eo,List.take_length];rfl
theorem Nn (a:Aut) (cl:List Prd) (Q:List (List Int)) (n:Nat) (l:List Int) {k:Nat} {c:Prd} (h:cl[k]? =some c):Eo a cl Q n l (k+1)=stepG a Q n l (Eo a cl Q n l k) c:=by
 have hk:=D9 h
 have hc:cl[k]=c:=by rw [List.getElem?_eq_getElem hk] at h;exact Option.some.inj h
 rw [Eo,List.take_succ_eq_append_getElem hk,List.foldl_append,hc];rfl
theorem Va (a:Aut) (cl:List Prd) (Q:List (List Int)) (n:Nat):Dh a cl Q (n+1)=Dh a cl Q n++Vo a cl Q n (Q.getD n []):=by simp [Dh,List.range_succ]
theorem d0k (n:Nat) (g:List Mv) (to:Nat) (c:Prd):(Te n g to c).length≤g.length+1:=by
 unfold Te;split
 ·simp
 ·split<;>simp
theorem Vt (a:Aut) (Q:List (List Int)) (n:Nat) (l:List Int):∀(cl:List Prd) (g:List Mv),(cl.foldl (stepG a Q n l) g).length≤g.length+cl.length
 |[],g=>by simp
 |c::cl,g=>by
  have h1:=Vt a Q n l cl (stepG a Q n l g c)
  have h2:(stepG a Q n l g c).length≤g.length+1:=by
   unfold stepG;split
   ·exact d0k _ _ _ _
   ·omega
  rw [List.foldl_cons,List.length_cons];omega
theorem Gg (a:Aut) (cl:List Prd) (Q:List (List Int)) (n:Nat) (l:List Int) (hc:cl.length≤256) (k:Nat):(Eo a cl Q n l k).length≤256:=by
 have:=Vt a Q n l (cl.take k) []
 rw [List.length_take] at this;rw [Eo];simp at this;omega
theorem c0h (a:Aut) (cl:List Prd) (Q:List (List Int)) (hq:Q.length≤256) (hc:cl.length≤256):∀n,n<Q.length→(Dh a cl Q n).length≤n * 256∧(Dh a cl Q n).length≤65536:=by
 have:∀n,(Dh a cl Q n).length≤n * 256:=fun n=>by
  induction n with
  |zero=>simp [Dh]
  |succ n ih=>
   have h:=Gg a cl Q n (Q.getD n []) hc cl.length
   rw [Fv] at h
   have:Dh a cl Q (n+1)=Dh a cl Q n++Vo a cl Q n (Q.getD n []):=by simp [Dh,List.range_succ]
   rw [this,List.length_append];omega
 exact fun n hn=>⟨this n,by have:=this n;omega⟩
theorem y01 (a:Aut) (cl:List Prd) (Q:List (List Int)) (n:Nat) (l:List Int):Eo a cl Q n l 0=[]:=rfl
theorem z1x {a:Aut} {Q:List (List Int)} (z1:∀l∈Q,l≠[]) {n:Nat} {l:List Int} {g:List Mv} {c:Prd} (h:Wg a l (Qm c)=[]):stepG a Q n l g c=g:=by
 unfold stepG;rw [h]
 cases hq:v0g Q [] with
 |none=>rfl
 |some t=>exact absurd rfl (z1 _ (List.mem_of_getElem? (G9 hq)))
theorem u0w {a:Aut} {Q:List (List Int)} (hn:Q.Nodup) {n t:Nat} {l:List Int} {g:List Mv} {c:Prd} (h:Q[t]? =some (Wg a l (Qm c))):stepG a Q n l g c=Te n g t c:=by
 unfold stepG;rw [u06 hn h]
theorem y1v {T n to:Nat} {g:List Mv} {c:Prd} (hg:∀m∈g,PWf T m.on) (hc:PWf T c):∀m∈Te n g to c,PWf T m.on:=by
 intro m hm;unfold Te at hm;split at hm
 ·rcases List.mem_append.1 hm with hm|hm
  ·exact hg m hm
  ·rw [List.mem_singleton.1 hm];exact hc
 ·split at hm
  ·rename_i m2 z1
   rcases List.mem_or_eq_of_mem_set hm with hm|rfl
   ·exact hg m hm
   ·exact G4 (hg _ (List.mem_of_getElem? z1)) hc
  ·exact hg m hm
theorem q1s {a:Aut} {T:Nat} {Q:List (List Int)} {n:Nat} {l:List Int} {cl:List Prd} (z1:∀c∈cl,PWf T c):∀k,∀m∈Eo a cl Q n l k,PWf T m.on:=by
 have:∀(cl:List Prd) (g:List Mv),(∀c∈cl,PWf T c)→(∀m∈g,PWf T m.on)→∀m∈cl.foldl (stepG a Q n l) g,PWf T m.on:=by
  intro cl
  induction cl with
  |nil=>intro g _ hg;exact hg
  |cons c cl ih=>
   intro g hc hg;refine ih _ (fun x hx=>hc x (by simp [hx])) fun m hm=> ?_
   unfold stepG at hm;split at hm
   ·exact y1v hg (hc c (by simp)) m hm
   ·exact hg m hm
 exact fun k=>this _ _ (fun c hc=>z1 c (List.mem_of_mem_take hc)) (fun m hm=>by simp at hm)
def AObj.isLp:AObj→Bool
 | .lp .. =>true
 |_=>false
theorem v1l {T:Nat} {c:Prd} (hw:PWf T c) (hz:∀s∈c,s.length≤256) {i:Nat} (hi:i<T):(Qt [c] i).length≤1000000:=by
 have h:i<c.length:=by rw [hw.1];exact hi
 have:Qt [c] i=c[i]:=by simp [Qt,List.getD,h]
 rw [this]
 have:=hz _ (List.getElem_mem h)
 omega
theorem j1b {T:Nat} {p c:Prd} (hp:PWf T p) (hw:PWf T c) (h1:∀s∈p,s.length≤65536) (hz:∀s∈c,s.length≤256) {i:Nat} (hi:i<T):(Qt [p,c] i).length≤1000000:=by
 have h:i<c.length:=by rw [hw.1];exact hi
 have h2:i<p.length:=by rw [hp.1];exact hi
 have:Qt [p,c] i=p[i]++c[i]:=by simp [Qt,List.getD,h,h2]
 rw [this,List.length_append]
 have:=hz _ (List.getElem_mem h)
 have:=h1 _ (List.getElem_mem h2)
 omega
theorem y1j (a:Aut) (cl:List Prd) (Q:List (List Int)):Dh a cl Q Q.length=(Y3 a cl Q).mv:=rfl
theorem w0j (a:Aut) (cl:List Prd) (Q:List (List Int)):(Y3 a cl Q).fin=Q.map (Fq a):=rfl
theorem x0i (a:Aut) (cl:List Prd) (Q:List (List Int)):(Y3 a cl Q).types=a.types:=rfl
theorem Mj (d:Aut):Z0 d=if Bw d then (5,Ud) else (0,d):=rfl
theorem g0l (a:Aut) (cl:List Prd) (Q:List (List Int)) (hq:Q.length≤256) (hc:cl.length≤256):(Dh a cl Q Q.length).length≤65536:=by
 have:∀n,(Dh a cl Q n).length≤n * 256:=fun n=>by
  induction n with
  |zero=>simp [Dh]
  |succ n ih=>
   have h:=Gg a cl Q n (Q.getD n []) hc cl.length
   rw [Fv] at h;rw [Va,List.length_append];omega
 have:=this Q.length
 omega
theorem k0y {p c:Prd} {A B:Nat} (hp:∀s∈p,s.length≤A) (hc:∀s∈c,s.length≤B):∀s∈Rb p c,s.length≤A+B:=by
 intro s hs
 obtain ⟨i,hi,rfl⟩:=List.getElem_of_mem hs
 simp only [Rb,List.length_zipWith] at hi;simp only [Rb,List.getElem_zipWith];refine Nat.le_trans (q0p _) ?_;rw [List.length_append]
 have h1:=hp _ (List.getElem_mem (by omega:i<p.length))
 have h2:=hc _ (List.getElem_mem (by omega:i<c.length))
 omega
theorem q10 {a:Aut} {Q:List (List Int)} {n:Nat} {l:List Int} {cl:List Prd} (z6:∀c∈cl,∀s∈c,s.length≤256) (z8:cl.length≤256):∀k,∀m∈Eo a cl Q n l k,∀s∈m.on,s.length≤65536:=by
 have key:∀(cl:List Prd) (g:List Mv) (B:Nat),(∀c∈cl,∀s∈c,s.length≤256)→(∀m∈g,∀s∈m.on,s.length≤B)→∀m∈cl.foldl (stepG a Q n l) g,∀s∈m.on,s.length≤B+cl.length * 256:=by
  intro cl
  induction cl with
  |nil=>intro g B _ hg m hm s hs;have:=hg m hm s hs;simp;omega
  |cons c cl ih=>
   intro g B hc hg m hm s hs
   have h1:∀m∈stepG a Q n l g c,∀s∈m.on,s.length≤B+256:=by
    intro m hm s hs
    have z1:=hc c (by simp)
    unfold stepG Te at hm;split at hm
    ·split at hm
     ·rcases List.mem_append.1 hm with hm|hm
      ·have:=hg m hm s hs;omega
      ·rw [List.mem_singleton.1 hm] at hs
       have:=z1 s hs;omega
     ·split at hm
      ·rename_i m2 z7
       rcases List.mem_or_eq_of_mem_set hm with hm|rfl
       ·have:=hg m hm s hs;omega
       ·exact k0y (hg _ (List.mem_of_getElem? z7)) z1 s hs
      ·have:=hg m hm s hs;omega
    ·have:=hg m hm s hs;omega
   have:=ih (stepG a Q n l g c) (B+256) (fun x hx=>hc x (by simp [hx])) h1 m hm s hs
   rw [List.length_cons];omega
 intro k m hm s hs
 have:=key (cl.take k) [] 0 (fun c hc=>z6 c (List.mem_of_mem_take hc)) (fun m hm=>by simp at hm) m hm s hs
 rw [List.length_take] at this
 have:min k cl.length≤256:=by omega
 omega
theorem V3 (a:Aut) (cl:List Prd) (Q:List (List Int)):Dh a cl Q 0=[]:=rfl
attribute [local irreducible] Oc Wg Qm mpT Ru Z0 Y3 Dh Eo stepG Fq Bw
set_option maxHeartbeats 8000000 in
theorem Hw (a:Aut):PC Tryz.prog 18 [encA a] (fun r=>r= .tup [encA (R9 a).2,.i (R9 a).1]):=by
 refine Ql tOk Tryz.func18 rfl Tryz.results18 rfl (by simp [Tryz.ntmps18]) ?_
 rw [Tryz.ntmps18];simp only [Qg];simp only [encA]
 repeat first|((first|refine ra ?_|refine rb ?_|refine rh ?_);simp)|refine qf ?_|refine qg ?_
 have yd:=y0n [.vars (Q3 a),.vars [.i 0,.nils,.nils]] a
 refine Q5 rfl rfl yd rfl ?_
 rintro res H' ⟨hk,⟨he,rfl⟩|⟨he,r,p,m,rfl,ht,hr,hp,hm⟩⟩
 ·have hd:R9 a=((Oc a).1,Ud):=by rw [R9,if_pos he]
  rw [hd]
  have k0:=hk 0 (by simp)
  have k1:=hk 1 (by simp)
  simp at k0 k1
  simp
  repeat first|((first|refine ra ?_|refine rb ?_|refine rh ?_);simp [Qa k1])|refine qf ?_|refine qg ?_
  refine Qb rfl (fun _=> ?_) (fun h=>by simp at h;exact absurd h he)
  have k2:∀L Y,((H'++L).set 1 Y)[1]? =some Y:=fun L Y=>Qj (Qa k1 L) Y
  repeat first|((first|refine ra ?_|refine rb ?_|refine rh ?_);simp [Qa k1,k2])|refine qf ?_|refine qg ?_
  exact ⟨rfl,rfl,rfl⟩
 ·obtain ⟨zn,cl,Q,x6,vq,xx,z8,zd,zo⟩:=C2 he
  have hd:R9 a=Z0 (Y3 a cl Q):=by rw [R9,x6];simp
  rw [hd];rw [x6] at ht;simp only at ht
  have k0:=hk 0 (by simp)
  have k1:=hk 1 (by simp)
  simp at k0 k1
  have xy:=ht.t
  have vr:=ht.s
  simp
  repeat first|((first|refine ra ?_|refine rb ?_|refine rh ?_);simp [Qa k1])|refine qf ?_|refine qg ?_
  refine Qb rfl (fun h=>by simp [he] at h) (fun _=> ?_)
  have k0a:∀(L:List AObj) hh,(H'++L)[0]'hh= .vars (Q3 a):=fun L hh=>by have:=Qa k0 L;rw [List.getElem?_eq_getElem hh] at this;exact Option.some.inj this
  have ye:=fun L=>Qa (G:=L) xy
  repeat first|((first|refine ra ?_|refine rb ?_|refine rh ?_);simp [Qa k0,k0a,ye])|refine qf ?_|refine qg ?_
  have xz:=Qh ht.t
  have w8:=Qh ht.s
  have wa:=Qh ht.n
  refine Qy (sl':=[(1,.vptr 0 0),(2,.vptr 1 0),(3,.i 0),(4,.vptr H'.length 0),(6,.vptr (H'.length+1) 0),(30,.sl p 1 0 Q.length),(31,.i Q.length),(32,.i (0:Nat))]) ?_ (by simp)
  refine Ee (H'.length+1) 1 4 1 (xs:=[.i a.types,.nils,.nils]) (by rw [List.getElem?_append_right (by omega)];simp) rfl ?_
  refine Wj fun Z1 zp=> ?_
  have z1l:Z1.length=H'.length+3:=by rw [zp];simp
  have z1c:Z1[H'.length+1]? =some (.vars [.i a.types,.sl (H'.length+2) 1 0 0,.nils]):=by rw [zp,List.getElem?_set_self (by simp)];simp
  have z1f:Z1[H'.length+2]? =some (.arr 4 1 []):=by rw [zp,List.getElem?_set_ne (by omega),List.getElem?_append_right (by simp)];simp
  have z1b:Z1[H'.length]? =some (.vars [.vptr r 0]):=by rw [zp,List.getElem?_set_ne (by omega),List.append_assoc,List.getElem?_append_right (by omega)];simp
  have z1k:∀i,i<H'.length→Z1[i]? =H'[i]? :=fun i hi=>by rw [zp,List.getElem?_set_ne (by omega),List.append_assoc,List.getElem?_append_left hi]
  clear zp;refine Ee (H'.length+1) 2 78 3 z1c rfl ?_;refine Wj fun Z2 y6=> ?_
  have z2c:Z2[H'.length+1]? =some (.vars [.i a.types,.sl (H'.length+2) 1 0 0,.sl (H'.length+3) 3 0 0]):=by rw [y6,List.getElem?_set_self (by simp;omega)];simp [z1l]
  have z2v:Z2[H'.length+3]? =some (.arr 78 3 []):=by rw [y6,List.getElem?_set_ne (by omega),List.getElem?_append_right (by omega)];simp [z1l]
  have z2k:∀i,i<Z1.length→i≠H'.length+1→Z2[i]? =Z1[i]? :=fun i hi wb=>by rw [y6,List.getElem?_set_ne (Ne.symm wb),List.getElem?_append_left hi]
  clear y6
  have hb:=(z2k _ (by omega) (by omega)).trans z1b
  have x7:=(z2k _ (by omega) (by omega)).trans z1f
  have hold:∀i,i<H'.length→Z2[i]? =H'[i]? :=fun i hi=>(z2k i (by omega) (by omega)).trans (z1k i hi)
  have x8:=(hold 0 (Qh k0)).trans k0
  have x9:=(hold 1 (Qh k1)).trans k1
  obtain ⟨zh,z7⟩:∃zh:List (Nat×AObj),zh=[(0,.vars (Q3 a)),(1,.vars [.i 0,.nils,.nils]),(H'.length,.vars [.vptr r 0]),(r,.vars [.i a.types,.list (a.fin.map .bool),.list (a.mv.map encMv),LP cl,.sl p 1 0 Q.length,.mref m]),(p,.arr 40 1 (LQ Q)),(m,mpT (Q.map Ru))]:=⟨_,rfl⟩
  have xa:Fx zh Z2:=by
   rw [z7];intro x hx;simp only [List.mem_cons,List.not_mem_nil,or_false] at hx
   rcases hx with rfl|rfl|rfl|rfl|rfl|rfl
   ·exact x8
   ·exact x9
   ·exact hb
   ·exact (hold r xz).trans ht.t
   ·exact (hold p w8).trans ht.s
   ·exact (hold m wa).trans ht.n
  have we:=z8.lim
  have xb:∀x∈Q,Pr x:=fun x hx=>by
   have he:=z8.elem x hx
   have:=Nd he.1 he.2
   have:=zn.fin
   exact ⟨z8.ne x hx,by omega,fun z hz=>by have:=he.2 z hz;omega⟩
  have wg:=zn.fin
  generalize H'.length+1=c at *;generalize H'.length=b at *;refine Qp (Qc (sl':=[(1,.vptr 0 0),(2,.vptr 1 0),(3,.i 0),(4,.vptr b 0),(6,.vptr c 0),(30,.sl p 1 0 Q.length),(31,.i Q.length),(32,.i (0:Nat))]) ?_ (by simp))
  refine Qo (F:=fun (u:Nat×Nat×Nat×List AObj)=>⟨[(1,.vptr 0 0),(2,.vptr 1 0),(3,.i 0),(4,.vptr b 0),(6,.vptr c 0),(30,.sl p 1 0 Q.length),(31,.i Q.length),(32,.i u.1)],u.2.2.2⟩)
   (fun u=>u.1≤Q.length∧Fx zh u.2.2.2∧u.2.2.2[c]? =some (.vars [.i a.types,.sl u.2.1 1 0 u.1,.sl u.2.2.1 3 0 (Dh a cl Q u.1).length])∧u.2.2.2[u.2.1]? =some (.arr 4 1 (((Q.take u.1).map (Fq a)).map .bool))∧u.2.2.2[u.2.2.1]? =some (.arr 78 3 ((Dh a cl Q u.1).map encMv))) (fun u=>Q.length - u.1) ?_ (0,_,_,Z2) ⟨by simp,xa,by rw [V3];exact z2c,by simpa using x7,by rw [V3];exact z2v⟩
  clear xa z2c x7 z2v hb x8 x9 hold z2k z1k z1b z1f z1c z1l;clear Z2 Z1
  rintro ⟨n,f,v,G⟩ ⟨hn,hF,gc,gf,gv⟩ ih
  simp only at hn hF gc gf gv ih ⊢
  repeat first|((first|refine ra ?_|refine rb ?_|refine rh ?_);simp)|refine qf ?_|refine qg ?_
  refine Qb rfl (fun wh=> ?_) (fun y8=> ?_)
  ·have ze:n<Q.length:=by simpa using wh
   have hw:IntKind.i64.wrap ((n:Int)+1)=n+1:=wrap_i64 _ (by omega) (by omega)
   have gs:G[p]? =some (.arr 40 1 (LQ Q)):=hF (p,_) (by rw [z7];simp)
   repeat first|((first|refine ra ?_|refine rb ?_|refine rh ?_);simp [gs,ze])|refine qf ?_|refine qg ?_
   have xc:=List.getElem_mem ze
   have hle:=z8.elem _ xc
   have wi:Q.getD n []=Q[n]:=by simp [List.getD,ze]
   have xd:=Va a cl Q n
   have wj:(Q.take (n+1)).map (Fq a)=(Q.take n).map (Fq a)++[Fq a Q[n]]:=by rw [List.take_succ_eq_append_getElem ze,List.map_append];rfl
   rw [wi] at xd
   have wk:=(c0h a cl Q (z8.lim) zd n ze).2
   have zq:=z8.closed _ xc
   have vt:=Nd hle.1 hle.2
   have wm:=fun L=>Qa (G:=L) gc
   have g0:∀L,(G++L)[0]? =some (.vars (Q3 a)):=fun L=>Qa (hF (0,_) (by rw [z7];simp)) L
   have wo:((Q.take n).map (Fq a)).length=n:=by simp;omega
   generalize Q[n]=l at *
   have wF:=hF.app [.vars [.i n]]
   have wc:=Qa gc [.vars [.i n]]
   have wf:=Qa gf [.vars [.i n]]
   have wv:=Qa gv [.vars [.i n]]
   have w7:(G++[AObj.vars [.i n]])[G.length]? =some (.vars [.i n]):=by simp
   have w0:=g0 [.vars [.i n]]
   refine Qy (sl':=[(1,.vptr 0 0),(2,.vptr 1 0),(3,.i 0),(4,.vptr b 0),(6,.vptr c 0),(7,.vptr G.length 0),(8,LI l),(30,.sl p 1 0 Q.length),(31,.i Q.length),(32,.i n)]) ?_ (by simp)
   generalize G.length=n7 at *;generalize G++[AObj.vars [.i n]]=W at *;clear g0 wm gs gc gf gv hF;clear G
   have yf:((Q.take (n+1)).map (Fq a)).map AV.bool=((Q.take n).map (Fq a)).map AV.bool++[.bool (Fq a l)]:=by rw [wj];simp
   have xe:(((Q.take n).map (Fq a)).map AV.bool).length=n:=by rw [List.length_map];exact wo
   generalize ((Q.take n).map (Fq a)).map AV.bool=xs at *
   have zr:c≠f:=fun e=>by rw [e,wf] at wc;simp at wc
   have yg:c≠v:=fun e=>by rw [e,wv] at wc;simp at wc
   have zt:f≠v:=fun e=>by rw [e,wv] at wf;simp at wf
   have xf:c≠n7:=fun e=>by rw [e,w7] at wc;simp at wc
   have xg:f≠n7:=fun e=>by rw [e,w7] at wf;simp at wf
   have z6:∀p∈zh,p.2≠ .vars [.i a.types,.sl f 1 0 n,.sl v 3 0 (Dh a cl Q n).length]:=by rw [z7];simp [Er]
   have zu:∀p∈zh,p.2≠ .arr 4 1 xs:=by rw [z7];simp [Er]
   have wq:=Qh wc
   have wu:=Qh wf
   have zv:=Qh wv
   have xh:=Qh w7
   have xi:=wF.set wf zu .dead
   have ya:∀L,(W.set f .dead++L)[c]? =some (.vars [.i a.types,.sl f 1 0 n,.sl v 3 0 (Dh a cl Q n).length]):=fun L=>Qa (Qf (Ne.symm zr) wc _) L
   refine Ca (P:=Tryz.prog) tOk mixed [4,6,8] (.val 0 (.val 2 (.val 3 (.two 1 (.one 4 (.one 5 (.one 6 (.val 7 (.one 8 (.done)))))) 4 (.val 1 (.one 5 (.one 6 (.val 7 (.one 8 (.done)))))))))) (fun S'=>∃f',Fx zh S'.hp∧S'.hp[n7]? =some (.vars [.i n])∧S'.hp[c]? =some (.vars [.i a.types,.sl f' 1 0 (n+1),.sl v 3 0 (Dh a cl Q n).length])∧S'.hp[f']? =some (.arr 4 1 (xs++[.bool (Fq a l)]))∧S'.hp[v]? =some (.arr 78 3 ((Dh a cl Q n).map encMv))∧look S'.sl 1=some (.vptr 0 0)∧look S'.sl 2=some (.vptr 1 0)∧look S'.sl 3=some (.i 0)∧look S'.sl 4=some (.vptr b 0)∧look S'.sl 6=some (.vptr c 0)∧look S'.sl 7=some (.vptr n7 0)∧look S'.sl 8=some (LI l)∧look S'.sl 30=some (.sl p 1 0 Q.length)∧look S'.sl 31=some (.i Q.length)∧look S'.sl 32=some (.i n)) rfl (by kernel_rfl) ?_ ?_
   ·simp [wc]
    refine ⟨?_,?_⟩
    all_goals
     refine Q5 rfl rfl (Vu W l 55 (.vptr 0 0) (fun s=>a.fin.getD s.toNat false) (by omega) (fun z hz=>k1c W 0 a w0 z (hle.2 z hz).1 (hle.2 z hz).2)) rfl ?_
     rintro _ H2 ⟨rfl,wx⟩
     rw [wx]
     have wy:l.any (fun s=>a.fin.getD s.toNat false)=Fq a l:=by unfold Fq;rfl
     rw [wy]
     simp [wc]
     refine Qd tOk rfl rfl T22 rfl T4 rfl (by decide) (by decide) rfl rfl rfl ?_
     simp [Qa wf,Qi wf,xe,ya,Qa wc]
     refine ⟨by simp [Wh,Qa wf,Qi wf,xe,ya,Qa wc]<;>omega,?_⟩
     refine ⟨?_,?_,W.length+1,?_,?_,?_⟩
     ·exact (xi.app _).set (ya _) z6 _
     ·rw [List.getElem?_set_ne xf,List.getElem?_append_left (by simpa using xh),List.getElem?_set_ne xg];exact w7
     ·rw [List.getElem?_set_self (by simp;omega)]
     ·rw [List.getElem?_set_ne (by omega),List.getElem?_append_right (by simp)];simp
     ·rw [List.getElem?_set_ne yg,List.getElem?_append_left (by simpa using zv),List.getElem?_set_ne zt];exact wv
   ·rintro ⟨sl,E⟩ ⟨f',eF,e7,ec,ef,ev,s1,s2,s3,s4,s6,s7,s8,s30,s31,s32⟩
    simp only at eF e7 ec ef ev s1 s2 s3 s4 s6 s7 s8 s30 s31 s32;refine Qy (sl':=[(1,.vptr 0 0),(2,.vptr 1 0),(3,.i 0),(4,.vptr b 0),(6,.vptr c 0),(7,.vptr n7 0),(8,LI l),(30,.sl p 1 0 Q.length),(31,.i Q.length),(32,.i n)]) ?_ (by simp [s1,s2,s3,s4,s6,s7,s8,s30,s31,s32])
    clear s1 s2 s3 s4 s6 s7 s8 s30 s31 s32 xi ya z6 zu wq wu zv xh zr yg zt xf xg w0 w7 wv wf wc wF
    have eb:E[b]? =some (.vars [.vptr r 0]):=eF (b,_) (by rw [z7];simp)
    repeat first|((first|refine ra ?_|refine rb ?_|refine rh ?_);simp [ec,Qa eb])|refine qf ?_|refine qg ?_
    have yh:∀g c,Wg a l (Qm c)=[]→stepG a Q n l g c=g:=fun g c hx=>z1x z8.ne hx
    have yi:∀g c t,Q[t]? =some (Wg a l (Qm c))→stepG a Q n l g c=Te n g t c:=fun g c t hx=>u0w z8.nd hx
    have xj:=fun k c hc=>Nn a cl Q n l (k:=k) (c:=c) hc
    have wz:=fun k=>Gg a cl Q n l zd k
    have xk:Eo a cl Q n l 0=[]:=y01 a cl Q n l
    have v7:=Fv a cl Q n l
    have v8:∀k,∀m∈Eo a cl Q n l k,PWf a.types.toNat m.on:=q1s (fun c hc=>(zo c hc).2.2.2.1)
    have vb:∀k,∀m∈Eo a cl Q n l k,∀s∈m.on,s.length≤65536:=q10 (fun c hc=>(zo c hc).2.2.2.2) zd
    have xl:=fun f v G=>ih (n+1,f,v,G)
    simp only [xd,←v7,yf] at xl;clear ih;generalize Dh a cl Q n=pre at *;refine Q5 rfl rfl (P4 _ r l) rfl ?_
    rintro _ _ ⟨rfl,rfl⟩
    simp
    repeat first|((first|refine ra ?_|refine rb ?_|refine rh ?_);simp)|refine qf ?_|refine qg ?_
    obtain ⟨zg,z6⟩:∃zg:List (Nat×AObj),zg=zh++[(n7,.vars [.i n]),(E.length,.vars [.i pre.length]),(E.length+1,.vars [.vptr r 0]),(E.length+2,.vars [LI l]),(f',.arr 4 1 (xs++[.bool (Fq a l)]))]:=⟨_,rfl⟩
    refine Rn rfl (Rf:=fun _ H'=>∃v,Fx zg H'∧H'[c]? =some (.vars [.i a.types,.sl f' 1 0 (n+1),.sl v 3 0 (pre++Eo a cl Q n l cl.length).length])∧H'[v]? =some (.arr 78 3 ((pre++Eo a cl Q n l cl.length).map encMv))∧∃sl' yj a' b',H'[E.length+3]? =some (.lp true none 100 sl' yj a' b')) ?_ ?_
    ·simp
     refine X7 fun H1 zw=> ?_
     have vc:Fx zg H1:=by
      rw [z6,zw];intro x hx
      rcases List.mem_append.1 hx with hx|hx
      ·exact (eF.app _) x hx
      ·simp only [List.mem_cons,List.not_mem_nil,or_false] at hx
       rcases hx with rfl|rfl|rfl|rfl|rfl
       ·exact Qa e7 _
       ·rw [List.getElem?_append_right (by simp)];simp
       ·rw [List.getElem?_append_right (by simp)];simp
       ·rw [List.getElem?_append_right (by simp)];simp
       ·exact Qa ef _
     have fc:H1[c]? =some (.vars [.i a.types,.sl f' 1 0 (n+1),.sl v 3 0 pre.length]):=by rw [zw];exact Qa ec _
     have fv:H1[v]? =some (.arr 78 3 (pre.map encMv)):=by rw [zw];exact Qa ev _
     have fq:=congrArg (fun h:List AObj=>h[E.length+3]?) zw
     simp at fq;clear zw;refine FC.mono (My a zn cl l (fun c hc=>⟨(zo c hc).1,(zo c hc).2.1,(zo c hc).2.2.1⟩) zd (E.length+3) (E.length+1) (E.length+2) r (by rfl) (by rfl)
      (fun k H'=>∃v,Fx zg H'∧H'[c]? =some (.vars [.i a.types,.sl f' 1 0 (n+1),.sl v 3 0 (pre++Eo a cl Q n l k).length])∧H'[v]? =some (.arr 78 3 ((pre++Eo a cl Q n l k).map encMv))∧H'[E.length+3]? =H1[E.length+3]?)
      (fun k H' ⟨v',h1,h2,h3,h4⟩=>⟨h4.trans fq,h1 (E.length+1,_) (by rw [z6];simp),h1 (E.length+2,_) (by rw [z6];simp),[.sl p 1 0 Q.length,.mref m],h1 (r,_) (by rw [z6,z7];simp)⟩) ?_ ?_ ?_ H1 ⟨v,vc,by rw [xk,List.append_nil];exact fc,by rw [xk,List.append_nil];exact fv,rfl⟩) ?_
     ·rintro k H' L ⟨v',h1,h2,h3,h4⟩
      exact ⟨v',h1.app L,Qa h2 L,Qa h3 L,by rw [←h4,List.getElem?_append_left (by rw [fq] at h4;exact Qh h4)]⟩
     ·rintro k cc H' hc yk ⟨v',h1,h2,h3,h4⟩
      have:=yh (Eo a cl Q n l k) cc yk
      rw [←xj k cc hc] at this;exact ⟨v',h1,by rw [this];exact h2,by rw [this];exact h3,h4⟩
     ·rintro k cc H' hc yk ⟨v',h1,h2,h3,h4⟩
      rw [xj k cc hc]
      have zx:=List.mem_of_getElem? hc
      have yl:Wg a l (Qm cc)∈Q:=(zq cc zx).resolve_left yk
      have ym:=yi (Eo a cl Q n l k) cc
      have vd:=wz k
      have zj:=v8 k
      have yn:=vb k
      have zi:=zo cc zx
      generalize Wg a l (Qm cc)=nx at *;generalize stepG a Q n l (Eo a cl Q n l k) cc=g2 at *;generalize Eo a cl Q n l k=g at *
      simp [Yb]
      have h8:=h4.trans fq
      obtain ⟨LP0,zk⟩:∃LP0,H1[E.length+3]? =some LP0:=⟨_,fq⟩
      have za:LP0.isLp=true:=by rw [fq] at zk;injection zk with e;rw [←e];rfl
      have zb:H'[E.length+3]? =some LP0:=h4.trans zk
      have yo:∀p∈zg,p.2≠LP0:=fun p hp e=>by
       rw [←e] at za;rw [z6,z7] at hp;simp only [List.mem_append,List.mem_cons,List.not_mem_nil,or_false] at hp
       rcases hp with (rfl|rfl|rfl|rfl|rfl|rfl)|(rfl|rfl|rfl|rfl|rfl)<;>simp [AObj.isLp,Er] at za
      have y1:=h1.set zb yo .dead
      have yp:E.length+3≠c:=fun e=>by rw [e,h2] at zb;injection zb with e2;rw [←e2] at za;simp [AObj.isLp] at za
      have yq:E.length+3≠v':=fun e=>by rw [e,h3] at zb;injection zb with e2;rw [←e2] at za;simp [AObj.isLp] at za
      have y2:=Qf yp h2 .dead
      have y3:=Qf yq h3 .dead
      have y4:=Qj zb .dead
      generalize H'.set (E.length+3) .dead=Y at *
      have yb:Y[b]? =some (.vars [.vptr r 0]):=y1 (b,_) (by rw [z6,z7];simp)
      have y0:Y[0]? =some (.vars (Q3 a)):=y1 (0,_) (by rw [z6,z7];simp)
      have y7:Y[n7]? =some (.vars [.i n]):=y1 (n7,_) (by rw [z6];simp)
      have y9:Y[E.length]? =some (.vars [.i pre.length]):=y1 (E.length,_) (by rw [z6];simp)
      have yt:TB r p m a cl Q Y:=⟨y1 (r,_) (by rw [z6,z7];simp),y1 (p,_) (by rw [z6,z7];simp),y1 (m,_) (by rw [z6,z7];simp)⟩
      repeat first|((first|refine ra ?_|refine rb ?_|refine rh ?_);simp [Qa yb])|refine qf ?_|refine qg ?_
      refine Q5 rfl rfl (N1 _ r p m a cl Q nx (yt.keep fun j hj=> ?_) (xb nx yl) xb (by omega)) rfl ?_
      ·have:j<Y.length:=by
        rcases hj with rfl|rfl|rfl
        ·exact Qh yt.t
        ·exact Qh yt.s
        ·exact Qh yt.n
       exact List.getElem?_append_left this
      rintro res Z ⟨t,p2,rfl,xm,-,-,-,hZ,-⟩
      rw [hZ yl]
      have yr:v0c Q nx=Q:=by rw [v0c,if_pos yl]
      rw [yr] at xm;rw [ym t xm];clear hZ
      simp
      repeat first|((first|refine ra ?_|refine rb ?_|refine rh ?_);simp [Qa y2,Qa y9])|refine qf ?_|refine qg ?_
      have xn:∀M,(Y++M)[v']? =some (.arr 78 3 ((pre++g).map encMv)):=fun M=>Qa y3 M
      refine Q5 rfl rfl (v01 (Y++[AObj.vars [.list (cc.map encL)],.vars [.i t]]) v' pre.length t (Y.length+1) pre g (by rw [List.getElem?_append_right (by omega)];simp) (xn _) (by omega) rfl) rfl ?_
      rintro _ _ ⟨rfl,L,rfl⟩
      simp
      repeat first|((first|refine ra ?_|refine rb ?_|refine rh ?_);simp)|refine qf ?_|refine qg ?_
      have w1:=y1.app ([AObj.vars [.list (cc.map encL)],.vars [.i t]]++L)
      have w2:=Qa y2 ([AObj.vars [.list (cc.map encL)],.vars [.i t]]++L)
      have w3:=xn ([AObj.vars [.list (cc.map encL)],.vars [.i t]]++L)
      have w4:=Qa y4 ([AObj.vars [.list (cc.map encL)],.vars [.i t]]++L)
      have w5:(Y++([AObj.vars [.list (cc.map encL)],.vars [.i t]]++L))[Y.length]? =some (.vars [.list (cc.map encL)]):=by rw [List.getElem?_append_right (by omega)];simp
      have w6:(Y++([AObj.vars [.list (cc.map encL)],.vars [.i t]]++L))[Y.length+1]? =some (.vars [.i t]):=by rw [List.getElem?_append_right (by omega)];simp
      have w7:=Qa y7 ([AObj.vars [.list (cc.map encL)],.vars [.i t]]++L)
      have w0:=Qa y0 ([AObj.vars [.list (cc.map encL)],.vars [.i t]]++L)
      have w9:=Qa y9 ([AObj.vars [.list (cc.map encL)],.vars [.i t]]++L)
      have xo:((a.types.toNat:Nat):Int)=a.types:=by have:=zn.types;omega
      simp only [List.cons_append,List.nil_append] at w0 w1 w2 w3 w4 w5 w6 w7 w9;generalize Y++AObj.vars [.list (cc.map encL)]::AObj.vars [.i t]::L=W at *;generalize Y.length+1=i12 at *;generalize Y.length=i10 at *
      have xp:∀p∈zg,p.2≠ .dead:=by rw [z6,z7];simp [Er]
      have yu:∀p∈zg,p.2≠ .vars [.i a.types,.sl f' 1 0 (n+1),.sl v' 3 0 (pre.length+g.length)]:=by rw [z6,z7];simp [Er]
      have zy:∀p∈zg,p.2≠ .arr 78 3 ((pre++g).map encMv):=by rw [z6,z7];simp [Er]
      rw [List.length_append] at w2
      have xq:v'≠c:=fun e=>by rw [e,w2] at w3;simp at w3
      have yv:v'≠E.length+3:=fun e=>by rw [e,w4] at w3;simp at w3
      have yw:c≠E.length+3:=fun e=>by rw [e,w4] at w2;simp at w2
      have lc:=Qh w2
      have lv:=Qh w3
      have lq:=Qh w4
      refine Qy (sl':=[(1,.vptr 0 0),(6,.vptr c 0),(7,.vptr n7 0),(9,.vptr E.length 0),(10,.vptr i10 0),(12,.vptr i12 0),(13,.i (j02 g t)),(63,.bool (decide (j02 g t<0)))]) ?_ (by simp)
      cases hfi:g.findIdx? fun m:Mv=>decide (m.dst=(t:Int)) with
      |none=>
       have yx:j02 g t= -1:=by rw [j02,hfi]
       have zl:Te n g t cc=g++[⟨n,t,cc⟩]:=by rw [Te,hfi]
       rw [yx,zl];refine Qk rfl ?_
       simp
       repeat first|((first|refine ra ?_|refine rb ?_|refine rh ?_);simp)|refine qf ?_|refine qg ?_
       refine Qn tOk mixed [11,13] (.val 0 (.val 1 (.val 2 (.val 3 (.val 4 (.val 5 (.val 6 (.one 7 (.one 8 (.val 9 (.one 10 (.one 11 (.val 12 (.one 13 (.done))))))))))))))) rfl (by kernel_rfl) ?_
       simp [w0,w2,w5,w6,w7]
       refine Ew W.length (e:=76) (c:=1) (xs:=[encP cc]) (by simp) ?_
       simp
       have xr:=Lr a.types.toNat [cc] (by have:=zn.types;omega) (fun p hp=>by rw [List.mem_singleton.1 hp];exact zi.2.2.2.1) (fun j hj=>v1l zi.2.2.2.1 zi.2.2.2.2 hj) (by simp)
       rw [xo,k1s zi.2.2.2.1] at xr;refine Qe rfl rfl (by simp) (xr) rfl ?_
       rintro _ rfl
       simp
       have w2b:∀M,(W++M)[c]? =some (.vars [.i a.types,.sl f' 1 0 (n+1),.sl v' 3 0 (pre.length+g.length)]):=fun M=>Qa w2 M
       have w2c:∀M,(W.set v' .dead++M)[c]? =some (.vars [.i a.types,.sl f' 1 0 (n+1),.sl v' 3 0 (pre.length+g.length)]):=fun M=>Qa (Qf xq w2 _) M
       have zv:((pre++g).map encMv).length=pre.length+g.length:=by simp
       have ve:=(w1.set w3 zy .dead)
       generalize yy:(pre++g).map encMv=mm at *;refine Qd tOk rfl rfl T23 rfl T78 rfl (by decide) (by decide) rfl rfl rfl ?_
       simp [Qa w3,Qi w3,w2b,w2c,zv]
       refine ⟨by simp [Wh,Qa w3,Qi w3,w2b,w2c,zv]<;>omega,?_⟩
       repeat first|((first|refine ra ?_|refine rb ?_|refine rh ?_);simp)|refine qf ?_|refine qg ?_
       have zm:((W.set v' AObj.dead++[AObj.dead,AObj.arr 78 3 [.agg [.i n,.i t,.list (cc.map encL)]],AObj.arr 78 3 (mm++[.agg [.i n,.i t,.list (cc.map encL)]])]).set c (AObj.vars [.i a.types,.sl f' 1 0 (n+1),.sl (W.length+2) 3 0 (pre.length+g.length+1)]))[E.length+3]? =some .dead:=by
        rw [List.getElem?_set_ne yw,List.getElem?_append_left (by simpa using lq),List.getElem?_set_ne yv];exact w4
       refine ⟨zm,rfl,((ve.app _).set (w2c _) yu _).set zm xp _,W.length+2,?_,?_,?_⟩
       ·rw [List.getElem?_set_ne (Ne.symm yw),List.getElem?_set_self (by simp;omega)]
        simp [Nat.add_assoc]
       ·rw [List.getElem?_set_ne (by omega),List.getElem?_set_ne (by omega),List.getElem?_append_right (by simp)]
        rw [←yy];simp
       ·rw [fq,List.getElem?_set_self (Qh zm)]
      |some i=>
       have yx:j02 g t=i:=by rw [j02,hfi]
       obtain ⟨xt,hid,-⟩:=List.findIdx?_eq_some_iff_getElem.1 hfi
       have xu:g[i]? =some g[i]:=List.getElem?_eq_getElem xt
       have zl:Te n g t cc=g.set i { g[i] with on:=Rb g[i].on cc }:=by rw [Te,hfi];simp [xu]
       rw [yx,zl];refine Qb rfl (fun h=>by simp at h;omega) (fun _=> ?_)
       have vf:IntKind.i64.wrap ((pre.length:Int)+i)=pre.length+i:=wrap_i64 _ (by omega) (by omega)
       have yz:(pre.length:Int)+i<pre.length+g.length:=by omega
       have vg:(0:Int)≤(pre.length:Int)+i:=by omega
       have vh:((pre.length:Int)+i).toNat=pre.length+i:=by omega
       repeat first|((first|refine ra ?_|refine rb ?_|refine rh ?_);simp [w2,w9,vf,yz,vg,vh])|refine qf ?_|refine qg ?_
       have y8:((pre++g).map encMv)[pre.length+i]? =some (.agg [.i g[i].src,.i g[i].dst,.list (g[i].on.map encL)]):=by rw [List.map_append,List.getElem?_append_right (by simp)];simp [xu]
       have x0:((pre++g).map encMv).length=pre.length+g.length:=by simp
       generalize yy:(pre++g).map encMv=mm at *
       have x2:List.range 2=[0,1]:=rfl
       refine Qn tOk mixed [12] (.val 0 (.val 1 (.val 2 (.val 3 (.val 4 (.val 5 (.val 6 (.val 7 (.one 8 (.one 9 (.val 10 (.val 11 (.one 12 (.done)))))))))))))) rfl (by kernel_rfl) ?_
       simp [w0,w3,w5,y8,x0,x2]
       refine Ew W.length (e:=76) (c:=1) (xs:=[encP g[i].on,encP cc]) (by simp) ?_
       simp
       have yc:=List.getElem_mem xt
       have xv:=Lr a.types.toNat [g[i].on,cc] (by have:=zn.types;omega) (fun p hp=>by
        simp only [List.mem_cons,List.not_mem_nil,or_false] at hp
        rcases hp with rfl|rfl
        ·exact zj _ yc
        ·exact zi.2.2.2.1) (fun j hj=>j1b (zj _ yc) zi.2.2.2.1 (yn _ yc) zi.2.2.2.2 hj) (by simp)
       rw [xo,j1r (zj _ yc) zi.2.2.2.1] at xv
       have w3b:∀M,(W++M)[v']? =some (.arr 78 3 mm):=fun M=>Qa w3 M
       refine Qe rfl rfl (by simp) (xv) rfl ?_
       rintro _ rfl
       simp [w3b,y8,Qi w3]
       repeat first|((first|refine ra ?_|refine rb ?_|refine rh ?_);simp)|refine qf ?_|refine qg ?_
       have zm:(W.set v' (AObj.arr 78 3 (mm.set (pre.length+i) (.agg [.i g[i].src,.i g[i].dst,.list ((Rb g[i].on cc).map encL)])))++[AObj.dead])[E.length+3]? =some .dead:=by
        rw [List.getElem?_append_left (by simpa using lq),List.getElem?_set_ne yv];exact w4
       refine ⟨zm,rfl,(((w1.set w3 zy _).app _).set zm xp _),v',?_,?_,?_⟩
       ·rw [List.getElem?_set_ne (Ne.symm yw),List.getElem?_append_left (by simpa using lc),List.getElem?_set_ne xq]
        rw [w2]
       ·rw [List.getElem?_set_ne (Ne.symm yv),List.getElem?_append_left (by simpa using lv),List.getElem?_set_self lv]
        rw [←yy,List.map_append,List.set_append_right _ _ (by simp)]
        simp [List.map_set]
       ·rw [fq,List.getElem?_set_self (Qh zm)]
     ·rintro _ H' ⟨v',h1,h2,h3,h4⟩
      exact ⟨h1,v',by simpa using h2,by simpa using h3,_,_,_,_,h4.trans fq⟩
    ·rintro res H' ⟨v',h1,h2,h3,⟨sl',yj,a',b',h6⟩⟩
     refine ⟨true,none,100,sl',yj,a',b',by simpa using h6,?_⟩
     simp
     have yp:E.length+3≠c:=fun e=>by rw [e,h2] at h6;simp at h6
     have yq:E.length+3≠v':=fun e=>by rw [e,h3] at h6;simp at h6
     have y1:=h1.set h6 (by rw [z6,z7];simp [Er]) .dead
     have y2:=Qf yp h2 .dead
     have y3:=Qf yq h3 .dead
     generalize H'.set (E.length+3) .dead=Y at *
     repeat first|((first|refine ra ?_|refine rb ?_|refine rh ?_);simp [hw])|refine qf ?_|refine qg ?_
     refine Qc (sl':=[(1,.vptr 0 0),(2,.vptr 1 0),(3,.i 0),(4,.vptr b 0),(6,.vptr c 0),(30,.sl p 1 0 Q.length),(31,.i Q.length),(32,.i (n+1:Nat))]) ?_ (by simp)
     refine xl f' v' Y ⟨by omega,fun x hx=>y1 x (by rw [z6];exact List.mem_append_left _ hx),y2,y1 (f',_) (by rw [z6];simp),y3⟩ (by omega)
  ·have x3:n=Q.length:=by simp at y8;omega
   subst x3
   have zz:Dh a cl Q Q.length=(Y3 a cl Q).mv:=y1j a cl Q
   have x4:(Q.take Q.length).map (Fq a)=(Y3 a cl Q).fin:=by rw [List.take_length];exact (w0j a cl Q).symm
   have vi:(Y3 a cl Q).fin.length=Q.length:=by rw [w0j];simp
   have vj:(Y3 a cl Q).mv.length≤65536:=by rw [←zz];exact g0l a cl Q we zd
   rw [zz] at gc gv;rw [x4] at gf;rw [←vi] at gc
   have vk:(Y3 a cl Q).types=a.types:=x0i a cl Q
   have yz:Z0 (Y3 a cl Q)=if Bw (Y3 a cl Q) then (5,Ud) else (0,Y3 a cl Q):=Mj _
   rw [yz];generalize Y3 a cl Q=d at *
   have g1:G[1]? =some (.vars [.i 0,.nils,.nils]):=hF (1,_) (by rw [z7];simp)
   have yg:v≠c:=fun e=>by rw [e,gc] at gv;simp at gv
   have zt:f≠v:=fun e=>by rw [e,gv] at gf;simp at gf
   have yd:f≠c:=fun e=>by rw [e,gc] at gf;simp at gf
   have vl:f≠1:=fun e=>by rw [e,g1] at gf;simp at gf
   have vm:v≠1:=fun e=>by rw [e,g1] at gv;simp at gv
   have vn:c≠1:=fun e=>by rw [e,g1] at gc;simp at gc
   refine Qy (sl':=[(2,.vptr 1 0),(3,.i 0),(6,.vptr c 0)]) ?_ (by simp)
   refine Wc v gv c gc ?_
   simp [zt]
   rw [List.take_of_length_le (by simp)]
   have x5:=Qh gc
   have vo:=Qh gf
   refine Wj fun Z hZ=> ?_
   have zc:Z[c]? =some (.vars [.i d.types,.sl f 1 0 d.fin.length,.list (d.mv.map encMv)]):=by rw [hZ,vk];exact List.getElem?_set_self (by simpa using x5)
   have zf:Z[f]? =some (.arr 4 1 (d.fin.map .bool)):=by rw [hZ,List.getElem?_set_ne (Ne.symm yd),List.getElem?_set_ne (Ne.symm zt)];exact gf
   have z1:Z[1]? =some (.vars [.i 0,.nils,.nils]):=by rw [hZ,List.getElem?_set_ne vn,List.getElem?_set_ne vm];exact g1
   clear hZ
   repeat first|((first|refine ra ?_|refine rb ?_|refine rh ?_);simp [zc])|refine qf ?_|refine qg ?_
   refine Q5 rfl rfl (F9 Z f d zf (by omega) (by omega)) rfl ?_
   rintro res Y ⟨hr,xw⟩
   have y5:=(xw 1 (Qh z1)).trans z1
   have vp:=(xw f (Qh zf)).trans zf
   have x2:∀X,(Y.set 1 X)[1]? =some X:=fun X=>Qj y5 X
   rcases hr with ⟨hb,rfl⟩|⟨hb,rfl⟩
   ·rw [hb]
    simp [y5]
    repeat first|((first|refine ra ?_|refine rb ?_|refine rh ?_);simp [x2])|refine qf ?_|refine qg ?_
    exact ⟨rfl,rfl,rfl⟩
   ·rw [hb]
    simp [y5]
    refine Qy (sl':=[(2,.vptr 1 0),(3,.i 0)]) ?_ (by simp)
    refine Wc f (Qf (Ne.symm vl) vp _) 1 (Qj y5 _) ?_
    simp
    rw [List.take_of_length_le (by simp)]
    refine Wj fun X hX=> ?_
    have x1:X[1]? =some (.vars [.i d.types,.list (d.fin.map .bool),.list (d.mv.map encMv)]):=by
     rw [hX];exact List.getElem?_set_self (by have:=Qh y5;simpa using this)
    repeat first|((first|refine ra ?_|refine rb ?_|refine rh ?_);simp [x1])|refine qf ?_|refine qg ?_
end Go.Abs
namespace Go.Abs
open Go Go.Proofs Go.Maps Go.RowKit
theorem f1o {a:Aut} (h:(R9 a).1=0):OkA (R9 a).2:=by
 have h0:(Oc a).1=0:=by
  by_cases hs:(Oc a).1=0
  ·exact hs
  ·rw [R9,if_pos hs] at h;exact absurd h hs
 obtain ⟨z8,cl,Q,z7,za,z1,z6,_,_⟩:=C2 h0
 have hd:R9 a=Z0 (Y3 a cl Q):=by rw [R9,z7];simp
 rw [hd] at h ⊢
 have hw:=x1h z1 z6
 have e:Z0 (Y3 a cl Q)=(0,(Z0 (Y3 a cl Q)).2):=Prod.ext h rfl
 have h2:=g0x hw e
 rw [h2.1];exact h2.1▸h2.2
def w2s (l:List Bool) (i:Nat):List Bool:=l.mapIdx fun k b=>if k<i then !b else b
attribute [local irreducible] R9 Px w2s
end Go.Abs
namespace Go.Abs
open Go Go.Proofs Go.Maps Go.RowKit
set_option maxHeartbeats 4000000 in
theorem z1s (a:Aut):PC Tryz.prog 22 [encA a,encA a] (fun r=>r= .bool true):=by
 refine Ql tOk Tryz.func22 rfl Tryz.results22 rfl (by simp [Tryz.ntmps22]) ?_
 rw [Tryz.ntmps22];simp only [Qg];simp only [encA];refine Wx 0 1 rfl rfl (fun hlen=> ?_)
 rw [List.length_map] at hlen;refine Wx 0 2 rfl rfl (fun z6=> ?_)
 rw [List.length_map] at z6
 repeat first|((first|refine ra ?_|refine rb ?_|refine rh ?_);simp)|refine qf ?_|refine qg ?_
 refine Qb rfl (fun h=>by simp at h) (fun _=> ?_)
 repeat first|((first|refine ra ?_|refine rb ?_|refine rh ?_);simp)|refine qf ?_|refine qg ?_
 refine Qs a.fin.length (fun _=>True) (fun j=>[(2,.vptr 0 0),(3,.vptr 1 0),(5,.i j)]) (fun _=>[.vars (Q3 a),.vars (Q3 a)]) rfl (by simp) (by simp) (by simp) (by simp) trivial ?_
 intro j hj _ ih
 repeat first|((first|refine ra ?_|refine rb ?_|refine rh ?_);simp)|refine qf ?_|refine qg ?_
 refine Qb rfl (fun z7=> ?_) (fun z8=> ?_)
 ·have z1:j<a.fin.length:=by simpa using z7
  have hw:IntKind.i64.wrap ((j:Int)+1)=j+1:=wrap_i64 _ (by omega) (by omega)
  repeat first|((first|refine ra ?_|refine rb ?_|refine rh ?_);simp)|refine qf ?_|refine qg ?_
  refine Qn tOk mixed [] (.val 0 (.val 1 (.val 2 (.val 3 (.val 4 (.val 5 (.val 6 (.val 7 (.val 8 (.val 9 (.val 10 (.done)))))))))))) rfl (by kernel_rfl) ?_
  simp [z1]
  refine Qb rfl (fun h=>by simp at h) (fun _=> ?_)
  repeat first|((first|refine ra ?_|refine rb ?_|refine rh ?_);simp [hw])|refine qf ?_|refine qg ?_
  refine Qr _ (ih z1 trivial) rfl (by simp) ?_ (by simp) (by simp)
  simp
 repeat first|((first|refine ra ?_|refine rb ?_|refine rh ?_);simp)|refine qf ?_|refine qg ?_
 refine Qs a.mv.length (fun _=>True) (fun j=>[(2,.vptr 0 0),(3,.vptr 1 0),(6,.i j)]) (fun _=>[.vars (Q3 a),.vars (Q3 a)]) rfl (by simp) (by simp) (by simp) (by simp) trivial ?_
 intro j2 zb _ za
 repeat first|((first|refine ra ?_|refine rb ?_|refine rh ?_);simp)|refine qf ?_|refine qg ?_
 refine Qb rfl (fun z7=> ?_) (fun z8=> ?_)
 ·have z1:j2<a.mv.length:=by simpa using z7
  have hw:IntKind.i64.wrap ((j2:Int)+1)=j2+1:=wrap_i64 _ (by omega) (by omega)
  repeat first|((first|refine ra ?_|refine rb ?_|refine rh ?_);simp)|refine qf ?_|refine qg ?_
  obtain ⟨m,hm⟩:∃m,a.mv[j2]=m:=⟨_,rfl⟩
  refine d0f tOk mixed [12,13] (.val 0 (.val 1 (.val 2 (.val 3 (.val 4 (.val 5 (.val 7 (.three 6 (.val 8 (.three 9 (.two 10 (.one 11 (.one 12 (.one 13 (.done)))) 11 (.one 10 (.one 12 (.one 13 (.done))))) 10 (.two 9 (.one 11 (.one 12 (.one 13 (.done)))) 11 (.two 9 (.one 12 (.one 13 (.done))) 12 (.val 9 (.one 13 (.done))))) 11 (.two 9 (.one 10 (.one 12 (.one 13 (.done)))) 10 (.two 9 (.one 12 (.one 13 (.done))) 12 (.val 9 (.one 13 (.done))))))) 10 (.two 6 (.val 8 (.two 9 (.one 11 (.one 12 (.one 13 (.done)))) 11 (.two 9 (.one 12 (.one 13 (.done))) 12 (.val 9 (.one 13 (.done)))))) 11 (.two 6 (.val 8 (.two 9 (.one 12 (.one 13 (.done))) 12 (.val 9 (.one 13 (.done))))) 12 (.val 6 (.val 8 (.val 9 (.one 13 (.done))))))) 11 (.two 6 (.val 8 (.two 9 (.one 10 (.one 12 (.one 13 (.done)))) 10 (.two 9 (.one 12 (.one 13 (.done))) 12 (.val 9 (.one 13 (.done)))))) 10 (.two 6 (.val 8 (.two 9 (.one 12 (.one 13 (.done))) 12 (.val 9 (.one 13 (.done))))) 12 (.val 6 (.val 8 (.val 9 (.one 13 (.done))))))))))))))) (⟨[(2,.vptr 0 0),(3,.vptr 1 0),(6,.i j2),(7,.vptr 2 0),(8,.vptr 3 0)],[.vars (Q3 a),.vars (Q3 a),.vars [.i m.src,.i m.dst,.list (m.on.map encL)],.vars [.i m.src,.i m.dst,.list (m.on.map encL)]]⟩) rfl (by kernel_rfl) ?_ ?_
  simp [z1,hm]
  ·repeat' apply And.intro
   all_goals first|(refine y0s ?_;simp;done)|exact d0g [0,1,3,2] (by simp) (by decide) (by simp) rfl (by simp) (by simp) (by simp)
  repeat first|((first|refine ra ?_|refine rb ?_|refine rh ?_);simp)|refine qf ?_|refine qg ?_
  refine Qe rfl rfl (by simp) (v04 m.on m.on) rfl ?_
  rintro _ rfl
  simp
  repeat first|((first|refine ra ?_|refine rb ?_|refine rh ?_);simp)|refine qf ?_|refine qg ?_
  refine Qb rfl (fun h=>by simp at h) (fun _=> ?_)
  repeat first|((first|refine ra ?_|refine rb ?_|refine rh ?_);simp [hw])|refine qf ?_|refine qg ?_
  refine Qr _ (za z1 trivial) rfl (by simp) ?_ (by simp) (by simp)
  simp
 repeat first|((first|refine ra ?_|refine rb ?_|refine rh ?_);simp)|refine qf ?_|refine qg ?_
def Hy (lo hi:Int):Prd:=[[⟨lo,hi⟩]]
def exA:Aut:=⟨1,[false,false,true],[⟨0,0,Hy (-1099511627776) 1099511627776⟩,⟨0,1,Hy 5 1099511627776⟩,⟨1,2,Hy (-1099511627776) 7⟩]⟩
def q2q (l:List Int):List Sy:=l.map fun n=>⟨0,n⟩
def w24 (a:Aut) (w:List Sy):Bool:=u1s a && decide (w.length≤12) && (z2a a w).2==0
end Go.Abs
namespace Go.Abs
open Go Go.Proofs
def exC:List Prd:=[[[⟨-1099511627776,4⟩]],[[⟨5,7⟩]],[[⟨8,1099511627776⟩]]]
def exQ:List (List Int):=[[0],[0,1],[0,2],[0,1,2]]
def exD:Aut:=Y3 exA exC exQ
end Go.Abs
namespace Go.Abs
open Go Go.Proofs Go.Maps Go.RowKit
attribute [simp] T84 T86
attribute [local irreducible] exA exD R9 Oc z2x Sk Px z2a y1t q2q c1v exQ
end Go.Abs
namespace Go.Abs
structure EqvB (n:Nat) (E:Nat→Nat→Bool):Prop where
 refl:∀i,i<n→E i i=true
 symm:∀i k,i<n→k<n→E i k=true→E k i=true
 trans:∀i k j,i<n→k<n→j<n→E i k=true→E k j=true→E i j=true
def Hf (E:Nat→Nat→Bool) (st:List Nat×List Nat) (i:Nat):List Nat×List Nat:=
 match st.1.findIdx? (E i) with
 |some t=>(st.1,st.2++[t])
 |none=>(st.1++[i],st.2++[st.1.length])
def Ol (E:Nat→Nat→Bool) (n:Nat):List Nat×List Nat:=(List.range n).foldl (Hf E) ([],[])
def Lm (E:Nat→Nat→Bool) (st:Nat×List Nat) (i:Nat):Nat×List Nat:=
 match (List.range i).find? (E i) with
 |some k=>(st.1,st.2++[st.2.getD k 0])
 |none=>(st.1+1,st.2++[st.1])
def Lb (E:Nat→Nat→Bool) (n:Nat):Nat×List Nat:=(List.range n).foldl (Lm E) (0,[])
theorem F1 (E:Nat→Nat→Bool) (n:Nat):Ol E (n+1)=Hf E (Ol E n) n:=by rw [Ol,List.range_succ,List.foldl_append];rfl
theorem Cf (E:Nat→Nat→Bool) (n:Nat):Lb E (n+1)=Lm E (Lb E n) n:=by rw [Lb,List.range_succ,List.foldl_append];rfl
structure ClsS (E:Nat→Nat→Bool) (n:Nat) (fs out:List Nat):Prop where
 len:out.length=n
 asc:fs.Pairwise (·<·)
 lt:∀r∈fs,r<n
 apart:fs.Pairwise (fun r s=>E r s=false)
 num:∀i,i<n→∃t r,out[i]? =some t∧fs[t]? =some r∧r≤i∧E i r=true
theorem E2 {α:Type} {l:List α} {i:Nat} {x:α} (h:l[i]? =some x):i<l.length:=(List.getElem?_eq_some_iff.1 h).1
theorem J4 {α:Type} {l:List α} {f:α→Bool} {t:Nat} {x:α} (ht:l[t]? =some x) (hx:f x=true) (hu:∀(i j:Nat) (a b:α),l[i]? =some a→l[j]? =some b→f a=true→f b=true→i=j):l.findIdx? f=some t:=by
 cases hf:l.findIdx? f with
 |none=>
  rw [List.findIdx?_eq_none_iff] at hf
  have:=hf x (List.mem_of_getElem? ht)
  rw [hx] at this;cases this
 |some u=>
  obtain ⟨z1,z6,_⟩:=List.findIdx?_eq_some_iff_getElem.1 hf
  rw [hu u t l[u] x (List.getElem?_eq_getElem z1) ht z6 hx]
theorem ClsS.uniq {E:Nat→Nat→Bool} {N n:Nat} (hE:EqvB N E) (hn:n≤N) {fs out:List Nat} (h:ClsS E n fs out) {i:Nat} (hi:i<N) {u v r s:Nat} (hr:fs[u]? =some r) (hs:fs[v]? =some s) (e1:E i r=true) (e2:E i s=true):u=v:=by
 have z7:=List.mem_of_getElem? hr
 have z8:=List.mem_of_getElem? hs
 have za:=h.lt r z7
 have zb:=h.lt s z8
 have z1:E r s=true:=hE.trans r i s (by omega) hi (by omega) (hE.symm i r hi (by omega) e1) e2
 have z6:E s r=true:=hE.symm r s (by omega) (by omega) z1
 obtain ⟨hu,rfl⟩:=List.getElem?_eq_some_iff.1 hr
 obtain ⟨hv,rfl⟩:=List.getElem?_eq_some_iff.1 hs
 rcases Nat.lt_trichotomy u v with k|k|k
 ·have:=(List.pairwise_iff_getElem.1 h.apart) u v hu hv k
  rw [this] at z1;cases z1
 ·exact k
 ·have:=(List.pairwise_iff_getElem.1 h.apart) v u hv hu k
  rw [this] at z6;cases z6
theorem Gy {E:Nat→Nat→Bool} {N:Nat} (hE:EqvB N E):∀n,n≤N→ClsS E n (Ol E n).1 (Ol E n).2
 |0,_=>⟨rfl,by simp [Ol],by simp [Ol],by simp [Ol],fun i hi=>by omega⟩
 |n+1,hn=>by
  have h:=Gy hE n (by omega)
  rw [F1];generalize Ol E n=st at *
  obtain ⟨fs,out⟩:=st
  simp only at h;unfold Hf;simp only
  cases hf:fs.findIdx? (E n) with
  |some t=>
   obtain ⟨h1,h2,_⟩:=List.findIdx?_eq_some_iff_getElem.1 hf
   simp only;refine ⟨by simp [h.len],h.asc,fun r hr=>by have:=h.lt r hr;omega,h.apart,fun i hi=> ?_⟩
   by_cases e:i=n
   ·subst e;exact ⟨t,fs[t],by rw [List.getElem?_append_right (by rw [h.len];omega)];simp [h.len],List.getElem?_eq_getElem h1,by have:=h.lt _ (List.getElem_mem h1);omega,h2⟩
   ·obtain ⟨t',r,a1,a2,a3,a4⟩:=h.num i (by omega)
    exact ⟨t',r,by rw [List.getElem?_append_left (by rw [h.len];omega)];exact a1,a2,a3,a4⟩
  |none=>
   rw [List.findIdx?_eq_none_iff] at hf;simp only;refine ⟨by simp [h.len],List.pairwise_append.2 ⟨h.asc,by simp,fun r hr s hs=>by rw [List.mem_singleton.1 hs];exact h.lt r hr⟩,fun r hr=> ?_,List.pairwise_append.2 ⟨h.apart,by simp,fun r hr s hs=> ?_⟩,fun i hi=> ?_⟩
   ·rcases List.mem_append.1 hr with hr|hr
    ·have:=h.lt r hr;omega
    ·rw [List.mem_singleton.1 hr];omega
   ·rw [List.mem_singleton.1 hs]
    have z1:=h.lt r hr
    have:=hf r hr
    cases hc:E r n
    ·rfl
    ·rw [hE.symm r n (by omega) (by omega) hc] at this;cases this
   ·by_cases e:i=n
    ·subst e;exact ⟨fs.length,i,by rw [List.getElem?_append_right (by rw [h.len];omega)];simp [h.len],by rw [List.getElem?_append_right (by omega)];simp,by omega,hE.refl i (by omega)⟩
    ·obtain ⟨t',r,a1,a2,a3,a4⟩:=h.num i (by omega)
     exact ⟨t',r,by rw [List.getElem?_append_left (by rw [h.len];omega)];exact a1,by rw [List.getElem?_append_left (E2 a2)];exact a2,a3,a4⟩
theorem N9 {E:Nat→Nat→Bool} {N:Nat} (hE:EqvB N E):∀n,n≤N→Lb E n=((Ol E n).1.length,(Ol E n).2)
 |0,_=>rfl
 |n+1,hn=>by
  have ih:=N9 hE n (by omega)
  have h:=Gy hE n (by omega)
  rw [Cf,F1,ih];generalize Ol E n=st at *
  obtain ⟨fs,out⟩:=st
  simp only at h ih ⊢;unfold Lm Hf;simp only
  cases hk:(List.range n).find? (E n) with
  |some k=>
   have z6:k<n:=List.mem_range.1 (List.mem_of_find?_eq_some hk)
   have z7:E n k=true:=List.find?_some hk
   obtain ⟨t,r,a1,a2,a3,a4⟩:=h.num k z6
   have z8:E n r=true:=hE.trans n k r (by omega) (by omega) (by omega) z7 a4
   have z1:fs.findIdx? (E n)=some t:=J4 a2 z8 fun i j a b ha hb e1 e2=>h.uniq hE (by omega) (i:=n) (by omega) ha hb e1 e2
   rw [z1]
   simp [List.getD,a1]
  |none=>
   rw [List.find?_eq_none] at hk
   have z1:fs.findIdx? (E n)=none:=by
    rw [List.findIdx?_eq_none_iff];intro r hr
    have:=hk r (List.mem_range.2 (h.lt r hr))
    simpa using this
   rw [z1]
   simp
theorem ClsS.first {E:Nat→Nat→Bool} {n:Nat} (hE:EqvB n E) {fs out:List Nat} (h:ClsS E n fs out) {t r:Nat} (ht:fs[t]? =some r):out.findIdx? (fun c=>decide (c=t))=some r:=by
 have hr:=h.lt r (List.mem_of_getElem? ht)
 rw [List.findIdx?_eq_some_iff_getElem];refine ⟨by rw [h.len];exact hr,?_,fun j hj=> ?_⟩
 ·obtain ⟨u,s,a1,a2,a3,a4⟩:=h.num r hr
  have hu:u=t:=h.uniq hE (Nat.le_refl n) hr a2 ht a4 (hE.refl r hr)
  obtain ⟨hl,e⟩:=List.getElem?_eq_some_iff.1 a1
  rw [e,hu];simp
 ·obtain ⟨u,s,a1,a2,a3,a4⟩:=h.num j (by omega)
  obtain ⟨hl,e⟩:=List.getElem?_eq_some_iff.1 a1
  rw [e]
  have:u≠t:=fun e'=>by
   subst e';rw [ht] at a2
   cases a2
   omega
  simpa using this
theorem ClsS.lt_fs {E:Nat→Nat→Bool} {n:Nat} {fs out:List Nat} (h:ClsS E n fs out) {i:Nat} (hi:i<n):out.getD i 0<fs.length:=by
 obtain ⟨t,r,a1,a2,_,_⟩:=h.num i hi
 simp only [List.getD,a1,Option.getD_some];exact E2 a2
def eqW (a b:Aut) (p q:Int):Prop:=∀w,(∀x∈w,Rj a x)→w16 a p w=w16 b q w
def eqS (a:Aut) (i k:Nat):Bool:=(lkN (Tc a) ((i:Int),(k:Int))).isNone
theorem T7 {a:Aut} {i:Nat} (h:i<a.fin.length):inS a (i:Int):=⟨by omega,by omega⟩
theorem g0n {a b:Aut} (ha:Dfa a) (hb:Dfa b) (ht:b.types=a.types) {p q:Int} (hp:inS a p) (hq:inS b q):(Og a b p q).1=none↔eqW a b p q:=by
 rcases Cb ha hb ht hp hq with ⟨w,h1,h2⟩|⟨h1,h2⟩
 ·rw [h1];exact ⟨fun h=>(by cases h),fun h=>absurd (h w h2.okw) ((Lp a b p q w).1 h2.goodw)⟩
 ·exact ⟨fun _=>h2,fun _=>h1⟩
theorem Sp {a:Aut} (ha:Dfa a) {i k:Nat} (hi:i<a.fin.length) (hk:k<a.fin.length):eqS a i k=true↔eqW a a i k:=by
 rw [←g0n ha ha rfl (T7 hi) (T7 hk),Nk ha (T7 hi) (T7 hk),eqS]
 cases lkN (Tc a) ((i:Int),(k:Int))<;>simp
theorem c0g {a:Aut} (ha:Dfa a) {i k:Nat} (hi:i<a.fin.length) (hk:k<a.fin.length):eqS a i k=(Og a a i k).1.isNone:=by
 rw [Nk ha (T7 hi) (T7 hk),eqS]
 cases lkN (Tc a) ((i:Int),(k:Int))<;>simp
theorem z0n {a:Aut} (ha:Dfa a):EqvB a.fin.length (eqS a):=
 ⟨fun i hi=>(Sp ha hi hi).2 fun _ _=>rfl,fun i k hi hk h=>(Sp ha hk hi).2 fun w hw=>((Sp ha hi hk).1 h w hw).symm,
  fun i k j hi hk hj h h'=>(Sp ha hi hj).2 fun w hw=>((Sp ha hi hk).1 h w hw).trans ((Sp ha hk hj).1 h' w hw)⟩
def fsA (a:Aut):List Nat:=(Ol (eqS a) a.fin.length).1
def clA (a:Aut):List Nat:=(Ol (eqS a) a.fin.length).2
theorem d1c {a:Aut} (ha:Dfa a):ClsS (eqS a) a.fin.length (fsA a) (clA a):=Gy (z0n ha) _ (Nat.le_refl _)
end Go.Abs
namespace Go.Abs
section
variable {α:Type} (key:α→Nat×Int)
def K3 (s:List α) (x:α):Nat→Nat
 |0=>0
 |j+1=>match s[j]? with
  |some y=>if K0 (key x) (key y)=true then K3 s x j else j+1
  |none=>j+1
def c0c (s:List α) (x:α):List α:=s.take (K3 key s x s.length)++x::s.drop (K3 key s x s.length)
def z19 (L:List α):List α:=L.foldl (c0c key) []
def ltG (p q:α):Prop:=Uq (key p).1 (key p).2 (key q).1 (key q).2
theorem Kt (s:List α) (x:α):∀j,j≤s.length→K3 key s x j≤j∧(∀i,K3 key s x j≤i→i<j→∀h:i<s.length,K0 (key x) (key s[i])=true)∧(∀i,i+1=K3 key s x j→∀h:i<s.length,K0 (key x) (key s[i])=false)
 |0,_=>⟨Nat.le_refl _,fun i _ h=>by omega,fun i h=>by simp [K3] at h⟩
 |j+1,hj=>by
  have z1:j<s.length:=by omega
  rw [K3,List.getElem?_eq_getElem z1];simp only
  by_cases hb:K0 (key x) (key s[j])=true
  ·rw [if_pos hb]
   obtain ⟨h1,h2,h3⟩:=Kt s x j (by omega)
   refine ⟨by omega,fun i hi z6 hl=> ?_,h3⟩
   by_cases hij:i=j
   ·subst hij;exact hb
   ·exact h2 i hi (by omega) hl
  ·rw [if_neg hb];refine ⟨Nat.le_refl _,fun i hi z6=>by omega,fun i hi hl=> ?_⟩
   have:i=j:=by omega
   subst this
   simpa using hb
theorem v03 (s:List α) (x:α):(c0c key s x).Perm (x::s):=by
 unfold c0c;refine List.perm_middle.trans ?_;rw [List.take_append_drop]
theorem Ng {s:List α} {x:α} (hs:s.Pairwise (ltG key)) (hd:∀y∈s,key y≠key x):(c0c key s x).Pairwise (ltG key):=by
 obtain ⟨h1,h2,h3⟩:=Kt key s x s.length (Nat.le_refl _)
 unfold c0c;generalize K3 key s x s.length=k at *
 have z1:=hs
 rw [←List.take_append_drop k s] at z1
 obtain ⟨p1,p2,p3⟩:=List.pairwise_append.1 z1
 have z7:∀y∈s.drop k,ltG key x y:=fun y hy=>by
  obtain ⟨i,hi⟩:=List.mem_iff_getElem?.1 hy
  rw [List.getElem?_drop] at hi
  obtain ⟨hl,e⟩:=List.getElem?_eq_some_iff.1 hi
  have:=h2 (k+i) (by omega) hl hl
  rw [e] at this;exact (Rp _ _).1 this
 have z8:∀i,i+1=k→∀h:i<s.length,ltG key s[i] x:=fun i hi hl=>by
  have h4:=h3 i hi hl
  have zc:=hd s[i] (List.getElem_mem hl)
  unfold ltG
  rcases Nat.lt_trichotomy (key s[i]).1 (key x).1 with a|a|a
  ·exact .inl a
  ·rcases Int.lt_trichotomy (key s[i]).2 (key x).2 with b|b|b
   ·exact .inr ⟨a,b⟩
   ·exact absurd (Prod.ext a b) zc
   ·have:K0 (key x) (key s[i])=true:=(Rp _ _).2 (.inr ⟨a.symm,b⟩)
    rw [this] at h4;cases h4
  ·have:K0 (key x) (key s[i])=true:=(Rp _ _).2 (.inl a)
   rw [this] at h4;cases h4
 have z6:∀y∈s.take k,ltG key y x:=fun y hy=>by
  obtain ⟨i,hi⟩:=List.mem_iff_getElem?.1 hy
  rw [List.getElem?_take] at hi;split at hi
  ·rename_i zd
   obtain ⟨hl,e⟩:=List.getElem?_eq_some_iff.1 hi
   obtain ⟨k',rfl⟩:∃k',k=k'+1:=⟨k - 1,by omega⟩
   have za:k'<s.length:=by omega
   have zb:=z8 k' rfl za
   by_cases hij:i=k'
   ·subst hij;rw [←e];exact zb
   ·have:=List.pairwise_iff_getElem.1 hs i k' hl za (by omega)
    rw [e] at this;exact Uq.trans this zb
  ·cases hi
 refine List.pairwise_append.2 ⟨p1,List.pairwise_cons.2 ⟨z7,p2⟩,fun y hy z hz=> ?_⟩
 rcases List.mem_cons.1 hz with rfl|hz
 ·exact z6 y hy
 ·exact p3 y hy z hz
theorem Kq (L:List α) (hd:L.Pairwise (fun p q=>key p≠key q)):(z19 key L).Perm L∧(z19 key L).Pairwise (ltG key):=by
 have go:∀(r s:List α),s.Pairwise (ltG key)→(s++r).Pairwise (fun p q=>key p≠key q)→(r.foldl (c0c key) s).Perm (s++r)∧(r.foldl (c0c key) s).Pairwise (ltG key):=by
  intro r
  induction r with
  |nil=>intro s h _;simpa using h
  |cons x r ih=>
   intro s h hd
   obtain ⟨d1,d2,d3⟩:=List.pairwise_append.1 hd
   have hi:=Ng key h (fun y hy=>d3 y hy x (by simp))
   have hp:=v03 key s x
   have z1:(c0c key s x++r).Perm (s++x::r):=(hp.append_right r).trans (List.perm_middle (l₁:=s) (a:=x) (l₂:=r)).symm
   have z6:(c0c key s x++r).Pairwise (fun p q=>key p≠key q):=(z1.pairwise_iff (fun h=>Ne.symm h)).2 hd
   obtain ⟨i1,i2⟩:=ih (c0c key s x) hi z6
   rw [List.foldl_cons];exact ⟨i1.trans z1,i2⟩
 have h:=go L [] List.Pairwise.nil (by simpa using hd)
 unfold z19
 simpa using h
theorem c1e {l l':List α} (hs:l.Pairwise (ltG key)) (z1:l'.Pairwise (ltG key)) (hp:∀x,x∈l↔x∈l'):l=l':=by
 have z6:∀ {X:List α},X.Pairwise (ltG key)→X.Nodup:=fun hx=>hx.imp (fun h e=>by subst e;exact Uq.irr h)
 refine List.Perm.eq_of_pairwise (le:=ltG key) (fun a b _ _ h k=>(Uq.irr (h.trans k)).elim) hs z1 ?_
 exact (List.perm_ext_iff_of_nodup (z6 hs) (z6 z1)).2 hp
end
def clD (cl:List Nat) (m:Mv):Nat:=cl.getD m.dst.toNat 0
def kyM (m:Mv):Nat×Int:=Qw m.on 0
def j1s (a:Aut) (cl:List Nat) (s:Int):List Mv:=(Wf a s).foldl (fun g m=>Te 0 g (clD cl m) m.on) []
def c0i (a:Aut) (cl:List Nat) (s:Int):List Mv:=z19 kyM (j1s a cl s)
def Hu (a:Aut) (cl:List Nat) (s:Int) (t:Nat) (ty:Nat) (y:Int):Prop:=∃m∈Wf a s,clD cl m=t∧PM m.on ty y
structure MrgS (T:Nat) (D:Nat→Nat→Int→Prop) (g:List Mv):Prop where
 wf:∀m∈g,PWf T m.on
 src:∀m∈g,m.src=0
 dst:∀m∈g,∃t:Nat,m.dst=t
 nd:g.Pairwise (fun m k=>m.dst≠k.dst)
 mem:∀m∈g,∀t:Nat,m.dst=t→∀ty y,PM m.on ty y↔D t ty y
 all:∀t ty y,D t ty y→∃m∈g,m.dst=(t:Int)
 ne:∀m∈g,∃ty y,PM m.on ty y
theorem q16 {n to:Nat} {g:List Mv} {c:Prd} {T:Nat} (hg:∀m∈g,∃ty y,PM m.on ty y) (hw:∀m∈g,PWf T m.on) (hc:PWf T c) (z1:∃ty y,PM c ty y):∀m∈Te n g to c,∃ty y,PM m.on ty y:=by
 intro m hm;unfold Te at hm;split at hm
 ·rcases List.mem_append.1 hm with hm|hm
  ·exact hg m hm
  ·rw [List.mem_singleton.1 hm];exact z1
 ·split at hm
  ·rename_i m2 z6
   rcases List.mem_or_eq_of_mem_set hm with hm|rfl
   ·exact hg m hm
   ·obtain ⟨ty,y,h⟩:=z1
    exact ⟨ty,y,(Pf (hw _ (List.mem_of_getElem? z6)) hc ty y).2 (.inr h)⟩
  ·exact hg m hm
theorem j1m {a:Aut} (h:WfA a) {s:Int} {m:Mv} (hm:m∈Wf a s):PWf a.types.toNat m.on∧∃ty y,PM m.on ty y:=by
 obtain ⟨h1,h2,h3⟩:=Ra.1 hm
 exact ⟨h.on m h1,(Ib (h.on m h1)).1 h3⟩
theorem Vs {a:Aut} (ha:Dfa a) (cl:List Nat) (s:Int):MrgS a.types.toNat (Hu a cl s) (j1s a cl s):=by
 obtain ⟨N,hN⟩:∃N,∀m∈Wf a s,clD cl m<N:=by
  refine ⟨(cl.foldl max 0)+1,fun m _=> ?_⟩
  have key:∀(l:List Nat) (b:Nat),b≤l.foldl max b∧∀x∈l,x≤l.foldl max b:=by
   intro l
   induction l with
   |nil=>intro b;simp
   |cons x l ih=>
    intro b
    obtain ⟨h1,h2⟩:=ih (max b x)
    rw [List.foldl_cons];refine ⟨by omega,fun y hy=> ?_⟩
    rcases List.mem_cons.1 hy with rfl|hy
    ·omega
    ·exact h2 y hy
  unfold clD
  by_cases hl:m.dst.toNat<cl.length
  ·have:=(key cl 0).2 _ (List.getElem_mem hl)
   simp only [List.getD,List.getElem?_eq_getElem hl,Option.getD_some];omega
  ·simp [List.getD,List.getElem?_eq_none (by omega:cl.length≤m.dst.toNat)]
 have key:∀(r:List Mv) (D:Nat→Nat→Int→Prop) (g:List Mv),MInv a.types.toNat N 0 D g→(∀m∈g,∃ty y,PM m.on ty y)→(∀m∈r,m∈Wf a s)→
   MInv a.types.toNat N 0 (fun t ty y=>D t ty y∨∃m∈r,clD cl m=t∧PM m.on ty y) (r.foldl (fun g m=>Te 0 g (clD cl m) m.on) g)∧∀m∈r.foldl (fun g m=>Te 0 g (clD cl m) m.on) g,∃ty y,PM m.on ty y:=by
  intro r
  induction r with
  |nil=>intro D g h hn _;exact ⟨h.congr (fun t ty y=>by simp),hn⟩
  |cons c r ih=>
   intro D g h hn hr;rw [List.foldl_cons]
   have hc:=j1m ha.ok.wfA (hr c (by simp))
   obtain ⟨i1,i2⟩:=ih _ _ (h.add (hN c (hr c (by simp))) hc.1 hc.2) (q16 hn h.wf hc.1 hc.2) (fun d hd=>hr d (by simp [hd]))
   refine ⟨i1.congr (fun t ty y=> ?_),i2⟩
   simp only [List.mem_cons,exists_eq_or_imp,or_assoc];constructor
   ·rintro (h|⟨e,h⟩|h)
    ·exact .inl h
    ·exact .inr (.inl ⟨e.symm,h⟩)
    ·exact .inr (.inr h)
   ·rintro (h|⟨e,h⟩|h)
    ·exact .inl h
    ·exact .inr (.inl ⟨e.symm,h⟩)
    ·exact .inr (.inr h)
 have h0:MInv a.types.toNat N 0 (fun _ _ _=>False) []:=⟨by simp,by simp,by simp,by simp,by simp,fun _ _ _ h=>h.elim⟩
 obtain ⟨h1,h2⟩:=key (Wf a s) _ [] h0 (by simp) (fun m hm=>hm)
 have h3:=h1.congr (D':=Hu a cl s) (fun t ty y=>by simp [Hu])
 exact ⟨h3.wf,h3.src,fun m hm=>by obtain ⟨t,_,e⟩:=h3.dst m hm;exact ⟨t,e⟩,h3.nd,h3.mem,h3.all,h2⟩
theorem MrgS.perm {T:Nat} {D:Nat→Nat→Int→Prop} {g g':List Mv} (h:MrgS T D g) (hp:g.Perm g'):MrgS T D g':=
 ⟨fun m hm=>h.wf m (hp.mem_iff.2 hm),fun m hm=>h.src m (hp.mem_iff.2 hm),fun m hm=>h.dst m (hp.mem_iff.2 hm),(hp.pairwise_iff (fun h=>Ne.symm h)).1 h.nd,fun m hm=>h.mem m (hp.mem_iff.2 hm),
  fun t ty y hd=>by obtain ⟨m,hm,e⟩:=h.all t ty y hd;exact ⟨m,hp.mem_iff.1 hm,e⟩,fun m hm=>h.ne m (hp.mem_iff.2 hm)⟩
theorem MrgS.sub {T:Nat} {D:Nat→Nat→Int→Prop} {g g':List Mv} (h:MrgS T D g) (h':MrgS T D g') {m:Mv} (hm:m∈g):m∈g':=by
 obtain ⟨t,ht⟩:=h.dst m hm
 obtain ⟨ty,y,hy⟩:=h.ne m hm
 obtain ⟨k,hk,z1⟩:=h'.all t ty y ((h.mem m hm t ht ty y).1 hy)
 have z6:m.on=k.on:=O8 (h.wf m hm) (h'.wf k hk) fun t' n'=>by rw [h.mem m hm t ht,h'.mem k hk t z1]
 have:m=k:=by
  cases m;cases k
  simp only at ht z1 z6
  have e1:=h.src _ hm
  have e2:=h'.src _ hk
  simp only at e1 e2;subst z6;rw [e1,e2,ht,z1]
 rw [this];exact hk
theorem MrgS.apart {T:Nat} {D:Nat→Nat→Int→Prop} {g:List Mv} (h:MrgS T D g) (hD:∀t t' ty y,D t ty y→D t' ty y→t=t'):g.Pairwise (fun p q=>kyM p≠kyM q):=
 h.nd.imp_of_mem fun {p q} hp hq z1 e=>by
  obtain ⟨t,ht⟩:=h.dst p hp
  obtain ⟨u,hu⟩:=h.dst q hq
  have h1:=(Wv (h.wf p hp) (h.ne p hp)).1
  have h2:=(Wv (h.wf q hq) (h.ne q hq)).1
  unfold kyM at e;rw [e] at h1
  have:=hD t u _ _ ((h.mem p hp t ht _ _).1 h1) ((h.mem q hq u hu _ _).1 h2)
  rw [ht,hu,this] at z1;exact z1 rfl
theorem MrgS.uniq {T:Nat} {D:Nat→Nat→Int→Prop} {g g':List Mv} (h:MrgS T D g) (h':MrgS T D g') (s:g.Pairwise (ltG kyM)) (s':g'.Pairwise (ltG kyM)):g=g':=
 c1e kyM s s' fun _=>⟨h.sub h',h'.sub h⟩
theorem Dfa.dom {a:Aut} (ha:Dfa a) {cl:List Nat} {s:Int} {t ty:Nat} {y:Int}:Hu a cl s t ty y↔(∃x:Sy,Rj a x∧x.ty.toNat=ty∧x.num=y∧∃m∈a.mv,m.src=s∧Yl m.on x=true∧cl.getD m.dst.toNat 0=t):=by
 constructor
 ·rintro ⟨m,hm,h1,h2⟩
  obtain ⟨g1,g2,g3⟩:=Ra.1 hm
  obtain ⟨z6,z1⟩:=(ha.ok.wfA.on m g1).lt h2
  have hx:Rj a ⟨ty,y⟩:=⟨⟨by simp,by have:=ha.ok.types;simp;omega⟩,z1⟩
  exact ⟨⟨ty,y⟩,hx,by simp,rfl,m,g1,g2,(Yr ha.ok.wfA g1 hx).2 (by simpa using h2),h1⟩
 ·rintro ⟨x,hx,rfl,rfl,m,hm,h1,h2,h3⟩
  have hp:=(Yr ha.ok.wfA hm hx).1 h2
  exact ⟨m,Ra.2 ⟨hm,h1,(Ib (ha.ok.wfA.on m hm)).2 ⟨_,_,hp⟩⟩,h3,hp⟩
theorem k0p {a:Aut} (ha:Dfa a) {cl:List Nat} {s:Int} (hs:inS a s) {t ty:Nat} {y:Int}:Hu a cl s t ty y↔∃x:Sy,Rj a x∧x.ty.toNat=ty∧x.num=y∧cl.getD (toL a s x).toNat 0=t:=by
 rw [ha.dom];constructor
 ·rintro ⟨x,hx,h1,h2,m,hm,rfl,h4,h5⟩
  exact ⟨x,hx,h1,h2,by rw [ha.to_of hm hx h4];exact h5⟩
 ·rintro ⟨x,hx,h1,h2,h3⟩
  obtain ⟨m,hm,e1,e2,e3⟩:=ha.move hs hx
  exact ⟨x,hx,h1,h2,m,hm,e1,e2,by rw [e3];exact h3⟩
theorem w2w {x y:Sy} {a:Aut} (hx:Rj a x) (hy:Rj a y) (h:x.ty.toNat=y.ty.toNat) (h2:x.num=y.num):x=y:=by
 have:=hx.1.1;have:=hy.1.1
 cases x;cases y
 simp only at *
 have:∀ {a b:Int},0≤a→0≤b→a.toNat=b.toNat→a=b:=fun h0 h1 h=>by omega
 simp only [Sy.mk.injEq];exact ⟨this ‹_› ‹_› h,h2⟩
theorem Bj {a:Aut} (ha:Dfa a) {cl:List Nat} {s:Int} (hs:inS a s) {t t' ty:Nat} {y:Int} (h:Hu a cl s t ty y) (h':Hu a cl s t' ty y):t=t':=by
 obtain ⟨x,hx,h1,h2,h3⟩:=(k0p ha hs).1 h
 obtain ⟨x',z1,z6,z7,z8⟩:=(k0p ha hs).1 h'
 have:x=x':=w2w hx z1 (h1.trans z6.symm) (h2.trans z7.symm)
 subst this;exact h3.symm.trans z8
theorem F0 {a:Aut} (ha:Dfa a) (cl:List Nat) {s:Int} (hs:inS a s):MrgS a.types.toNat (Hu a cl s) (c0i a cl s)∧(c0i a cl s).Pairwise (ltG kyM):=by
 have h:=Vs ha cl s
 obtain ⟨h1,h2⟩:=Kq kyM (j1s a cl s) (h.apart fun t t' ty y=>Bj ha hs)
 exact ⟨h.perm h1.symm,h2⟩
def Om (a:Aut) (cl:List Nat) (s:Int) (t:Nat):List Prd:=((Wf a s).filter fun m=>decide (clD cl m=t)).map (·.on)
theorem g0f {a:Aut} (ha:Dfa a) (cl:List Nat) (s:Int) {ks:List Nat} (z7:ks.Nodup) (hk:∀t,t∈ks↔∃m∈Wf a s,clD cl m=t):
  MrgS a.types.toNat (Hu a cl s) (ks.map fun t:Nat=>(⟨0,(t:Int),Up a.types.toNat (Om a cl s t)⟩:Mv)):=by
 have z1:∀t,∀p∈Om a cl s t,PWf a.types.toNat p:=fun t p hp=>by
  obtain ⟨m,hm,rfl⟩:=List.mem_map.1 hp
  exact (j1m ha.ok.wfA (List.mem_filter.1 hm).1).1
 have z6:∀t ty y,PM (Up a.types.toNat (Om a cl s t)) ty y↔Hu a cl s t ty y:=fun t ty y=>by
  rw [Vp (z1 t)];constructor
  ·rintro ⟨p,hp,h⟩
   obtain ⟨m,hm,rfl⟩:=List.mem_map.1 hp
   obtain ⟨h1,h2⟩:=List.mem_filter.1 hm
   exact ⟨m,h1,by simpa using h2,h⟩
  ·rintro ⟨m,hm,h1,h2⟩
   exact ⟨m.on,List.mem_map.2 ⟨m,List.mem_filter.2 ⟨hm,by simpa using h1⟩,rfl⟩,h2⟩
 refine ⟨fun m hm=> ?_,fun m hm=> ?_,fun m hm=> ?_,?_,fun m hm t e ty y=> ?_,fun t ty y hd=> ?_,fun m hm=> ?_⟩
 ·obtain ⟨t,_,rfl⟩:=List.mem_map.1 hm;exact Kn (z1 t)
 ·obtain ⟨t,_,rfl⟩:=List.mem_map.1 hm;rfl
 ·obtain ⟨t,_,rfl⟩:=List.mem_map.1 hm;exact ⟨t,rfl⟩
 ·exact List.pairwise_map.2 (z7.imp fun h e=>h (Int.ofNat.inj e))
 ·obtain ⟨u,_,rfl⟩:=List.mem_map.1 hm
  have:u=t:=Int.ofNat.inj e
  subst this;exact z6 u ty y
 ·obtain ⟨m,hm,h1,h2⟩:=hd
  exact ⟨_,List.mem_map.2 ⟨t,(hk t).2 ⟨m,hm,h1⟩,rfl⟩,rfl⟩
 ·obtain ⟨t,ht,rfl⟩:=List.mem_map.1 hm
  obtain ⟨m,hm,h1⟩:=(hk t).1 ht
  obtain ⟨ty,y,hp⟩:=(j1m ha.ok.wfA hm).2
  exact ⟨ty,y,(z6 t ty y).2 ⟨m,hm,h1,hp⟩⟩
end Go.Abs
namespace Go.Abs
def y16 (cl:List Nat) (t:Nat):Nat:=(cl.findIdx? fun c=>decide (c=t)).getD 0
def Zc (a:Aut) (t:Nat):Prop:=t<(fsA a).length
def Tp (a:Aut) (s:Int):Nat:=(clA a).getD s.toNat 0
def Ig (a:Aut) (t:Nat):Nat:=y16 (clA a) t
theorem Pg {a:Aut} {s:Int} (h:inS a s):s.toNat<a.fin.length∧((s.toNat:Nat):Int)=s:=by unfold inS at h;omega
theorem Pj {a:Aut} (ha:Dfa a) {t:Nat} (ht:Zc a t):Ig a t<a.fin.length∧Tp a (Ig a t)=t:=by
 have h:=d1c ha
 have hf:=h.first (z0n ha) (List.getElem?_eq_getElem ht)
 have hr:Ig a t=(fsA a)[t]:=by rw [Ig,y16,hf];rfl
 rw [List.findIdx?_eq_some_iff_getElem] at hf
 obtain ⟨h1,h2,_⟩:=hf
 rw [hr];refine ⟨by rw [h.len] at h1;exact h1,?_⟩
 simp only [Tp,Int.toNat_natCast,List.getD,List.getElem?_eq_getElem h1,Option.getD_some]
 simpa using h2
theorem w0u {a:Aut} (ha:Dfa a) {t:Nat} (ht:Zc a t):inS a (Ig a t:Int):=T7 (Pj ha ht).1
theorem Mr {a:Aut} (ha:Dfa a) {s:Int} (hs:inS a s):Zc a (Tp a s):=(d1c ha).lt_fs (Pg hs).1
def D1 (o:List Nat) (c:Nat):List Nat:=if c∈o then o else o++[c]
def Wm (o:List Nat) (l:List Mv):List Nat:=l.foldl (fun o m=>D1 o m.dst.toNat) o
def O6 (a:Aut) (t:Nat):List Mv:=c0i a (clA a) (Ig a t:Int)
def Gq (a:Aut):Nat→Nat→List Nat→List Nat
 |0,_,o=>o
 |f+1,n,o=>match o[n]? with
  |none=>o
  |some c=>Gq a f (n+1) (Wm o (O6 a c))
def v0f (a:Aut):List Nat:=Gq a (a.fin.length+1) 0 [Tp a 0]
def Zf (o:List Nat) (c:Nat):Nat:=(o.findIdx? fun d=>decide (d=c)).getD 0
def mvN (a:Aut) (o:List Nat) (n:Nat):List Mv:=(O6 a (o.getD n 0)).map fun m=>⟨n,(Zf o m.dst.toNat:Int),m.on⟩
def Fa (a:Aut) (o:List Nat):Aut:=⟨a.types,o.map fun c=>a.fin.getD (Ig a c) false,(List.range o.length).flatMap (mvN a o)⟩
def Ej (a:Aut):Aut:=Fa a (v0f a)
theorem Ds (o:List Nat) (c:Nat):∃r,D1 o c=o++r∧∀x∈r,x=c:=by
 unfold D1;split
 ·exact ⟨[],by simp,by simp⟩
 ·exact ⟨[c],rfl,fun x hx=>List.mem_singleton.1 hx⟩
theorem Mz (o:List Nat) (c:Nat):c∈D1 o c:=by
 unfold D1;split
 ·assumption
 ·simp
theorem z0q {o:List Nat} (h:o.Nodup) (c:Nat):(D1 o c).Nodup:=by
 unfold D1;split
 ·exact h
 ·rename_i hc
  exact List.nodup_append.2 ⟨h,by simp,fun x hx y hy e=>by rw [List.mem_singleton.1 hy] at e;exact hc (e▸hx)⟩
theorem Pc:∀(l:List Mv) (o:List Nat),o.Nodup→(∃r,Wm o l=o++r∧∀x∈r,∃m∈l,x=m.dst.toNat)∧(Wm o l).Nodup∧∀m∈l,m.dst.toNat∈Wm o l
 |[],o,h=>⟨⟨[],by simp [Wm],by simp⟩,h,by simp⟩
 |m::l,o,h=>by
  obtain ⟨⟨r,h1,h2⟩,h3,h4⟩:=Pc l (D1 o m.dst.toNat) (z0q h _)
  obtain ⟨r',h5,h6⟩:=Ds o m.dst.toNat
  have he:Wm o (m::l)=Wm (D1 o m.dst.toNat) l:=rfl
  rw [he];refine ⟨⟨r'++r,by rw [h1,h5,List.append_assoc],fun x hx=> ?_⟩,h3,fun k hk=> ?_⟩
  ·rcases List.mem_append.1 hx with hx|hx
   ·exact ⟨m,by simp,h6 x hx⟩
   ·obtain ⟨k,hk,e⟩:=h2 x hx
    exact ⟨k,by simp [hk],e⟩
  ·rcases List.mem_cons.1 hk with rfl|hk
   ·rw [h1];exact List.mem_append_left _ (Mz _ _)
   ·exact h4 k hk
theorem L6 {a:Aut} (ha:Dfa a) {t:Nat} (ht:Zc a t) {m:Mv} (hm:m∈O6 a t):∃x,Rj a x∧m.dst=(Tp a (toL a (Ig a t) x):Nat)∧inS a (toL a (Ig a t) x)∧Zc a (Tp a (toL a (Ig a t) x))∧PM m.on x.ty.toNat x.num:=by
 have hs:=w0u ha ht
 have h:=(F0 ha (clA a) hs).1
 obtain ⟨u,hu⟩:=h.dst m hm
 obtain ⟨ty,y,hy⟩:=h.ne m hm
 obtain ⟨x,hx,rfl,rfl,h3⟩:=(k0p ha hs).1 ((h.mem m hm u hu ty y).1 hy)
 have z1:=(ha.next hs hx).1
 exact ⟨x,hx,by rw [hu,←h3];rfl,z1,Mr ha z1,hy⟩
structure OrdS (a:Aut) (o:List Nat):Prop where
 first:o[0]? =some (Tp a 0)
 nd:o.Nodup
 cl:∀c∈o,Zc a c
 closed:∀c∈o,∀m∈O6 a c,m.dst.toNat∈o
theorem j0p {a:Aut} (ha:Dfa a):(fsA a).length≤a.fin.length:=by
 have h:=d1c ha
 have z1:(fsA a).Nodup:=h.asc.imp fun h e=>by omega
 have:=z1.length_le_of_subset (l₂:=List.range a.fin.length) fun r hr=>List.mem_range.2 (h.lt r hr)
 simpa using this
theorem d0h {a:Aut} (ha:Dfa a) {o:List Nat} (hn:o.Nodup) (hc:∀c∈o,Zc a c):o.length≤a.fin.length:=by
 have:=hn.length_le_of_subset (l₂:=List.range (fsA a).length) fun c hx=>List.mem_range.2 (hc c hx)
 have h2:=j0p ha
 simp at this;omega
theorem X3 {a:Aut} (ha:Dfa a):∀(f n:Nat) (o:List Nat),a.fin.length+1≤n+f→n≤o.length→o[0]? =some (Tp a 0)→o.Nodup→(∀c∈o,Zc a c)→(∀i c,i<n→o[i]? =some c→∀m∈O6 a c,m.dst.toNat∈o)→OrdS a (Gq a f n o)
 |0,n,o,hf,hn,h0,z6,z1,hc=>by
  have:=d0h ha z6 z1
  omega
 |f+1,n,o,hf,hn,h0,z6,z1,hc=>by
  unfold Gq
  cases hon:o[n]? with
  |none=>
   simp only
   have hl:o.length≤n:=by simpa using hon
   refine ⟨h0,z6,z1,fun c hx m hm=> ?_⟩
   obtain ⟨i,hi⟩:=List.mem_iff_getElem?.1 hx
   exact hc i c (by have:=E2 hi;omega) hi m hm
  |some c=>
   simp only
   have z8:=E2 hon
   obtain ⟨⟨r,h1,h2⟩,h3,h4⟩:=Pc (O6 a c) o z6
   have z7:=z1 c (List.mem_of_getElem? hon)
   refine X3 ha f (n+1) _ (by omega) (by rw [h1,List.length_append];omega) ?_ h3 (fun d hd=> ?_) fun i d hi hd m hm=> ?_
   ·rw [h1,List.getElem?_append_left (by omega)];exact h0
   ·rw [h1] at hd
    rcases List.mem_append.1 hd with hd|hd
    ·exact z1 d hd
    ·obtain ⟨m,hm,e⟩:=h2 d hd
     obtain ⟨x,_,e2,_,e4,_⟩:=L6 ha z7 hm
     rw [e,e2];simpa using e4
   ·rw [h1,List.getElem?_append_left (by omega)] at hd
    by_cases e:i=n
    ·subst e;rw [hon] at hd
     cases hd
     exact h4 m hm
    ·rw [h1];exact List.mem_append_left _ (hc i d (by omega) hd m hm)
theorem Cn {a:Aut} (ha:Dfa a):OrdS a (v0f a):=
 X3 ha _ 0 _ (by omega) (by simp) rfl (by simp) (fun c hc=>by rw [List.mem_singleton.1 hc];exact Mr ha ha.zero) (fun i c hi=>by omega)
section
variable {a b:Aut} (ha:Dfa a) (hb:Dfa b) (ht:b.types=a.types)
def z2q (a b:Aut) (c d:Nat):Prop:=Zc a c∧Zc b d∧eqW a b (Ig a c) (Ig b d)
structure LkO (a b:Aut) (o o':List Nat):Prop where
 len:o.length=o'.length
 k:∀(i c d:Nat),o[i]? =some c→o'[i]? =some d→z2q a b c d
end
end Go.Abs
namespace Go.Abs
theorem c1o {α:Type} {l:List α} (h:l.Nodup) {i j:Nat} (hi:i<l.length) (hj:j<l.length) (e:l[i]=l[j]):i=j:=by
 rcases Nat.lt_trichotomy i j with k|k|k
 ·exact absurd e (List.pairwise_iff_getElem.1 h i j hi hj k)
 ·exact k
 ·exact absurd e.symm (List.pairwise_iff_getElem.1 h j i hj hi k)
theorem u0s {o:List Nat} (hn:o.Nodup) {i c:Nat} (h:o[i]? =some c):Zf o c=i:=by
 unfold Zf
 have:(o.findIdx? fun d=>decide (d=c))=some i:=J4 h (by simp) fun i j x y hx hy e1 e2=>by
  have e3:x=c:=by simpa using e1
  have e4:y=c:=by simpa using e2
  subst e3 e4
  obtain ⟨hi,e5⟩:=List.getElem?_eq_some_iff.1 hx
  obtain ⟨hj,e6⟩:=List.getElem?_eq_some_iff.1 hy
  exact c1o hn hi hj (e5.trans e6.symm)
 rw [this];rfl
theorem z1w {o:List Nat} (hn:o.Nodup) {c:Nat} (h:c∈o):o[Zf o c]? =some c:=by
 obtain ⟨i,hi⟩:=List.mem_iff_getElem?.1 h
 rw [u0s hn hi];exact hi
theorem F6 {a:Aut} {o:List Nat} {m:Mv}:m∈(Fa a o).mv↔∃(n c:Nat),o[n]? =some c∧∃k∈O6 a c,m=⟨n,(Zf o k.dst.toNat:Int),k.on⟩:=by
 unfold Fa mvN;simp only [List.mem_flatMap,List.mem_range,List.mem_map];constructor
 ·rintro ⟨n,hn,k,hk,rfl⟩
  have e:o.getD n 0=o[n]:=by simp [List.getD,hn]
  rw [e] at hk;exact ⟨n,_,List.getElem?_eq_getElem hn,k,hk,rfl⟩
 ·rintro ⟨n,c,hn,k,hk,rfl⟩
  have e:o.getD n 0=c:=by simp [List.getD,hn]
  exact ⟨n,E2 hn,k,by rw [e];exact hk,rfl⟩
theorem d0m {a:Aut} (o:List Nat):(Fa a o).fin.length=o.length:=by simp [Fa]
theorem N7 (a:Aut):(Ej a).types=a.types:=rfl
theorem w14 {a:Aut} (ha:Dfa a):WfA (Ej a):=by
 have ho:=Cn ha
 have z1:(Ej a).fin.length=(v0f a).length:=d0m _
 have z6:=E2 ho.first
 refine ⟨ha.ok.types,by omega,fun m hm=> ?_,fun m hm=> ?_,fun m hm=> ?_⟩
 ·obtain ⟨n,c,hn,k,hk,rfl⟩:=F6.1 hm
  have:=E2 hn
  rw [z1];exact ⟨by simp,by simpa using this⟩
 ·obtain ⟨n,c,hn,k,hk,rfl⟩:=F6.1 hm
  have:=E2 (z1w ho.nd (ho.closed c (List.mem_of_getElem? hn) k hk))
  rw [z1];exact ⟨by simp,by simpa using this⟩
 ·obtain ⟨n,c,hn,k,hk,rfl⟩:=F6.1 hm
  exact (F0 ha (clA a) (w0u ha (ho.cl c (List.mem_of_getElem? hn)))).1.wf k hk
theorem Pn {α β:Type} (rs:List β) (hn:rs.Nodup) (p:β→α→Bool) (hp:∀s t x,p s x=true→p t x=true→s=t):∀l:List α,(rs.map fun s=>(l.filter (p s)).length).sum≤l.length
 |[]=>by
  have:(rs.map fun s=>(([]:List α).filter (p s)).length)=rs.map fun _=>0:=List.map_congr_left fun s _=>rfl
  rw [this,List.map_const']
  simp
 |x::l=>by
  have ih:=Pn rs hn p hp l
  have key:∀(rs:List β),rs.Nodup→(rs.map fun s=>((x::l).filter (p s)).length).sum≤(rs.map fun s=>(l.filter (p s)).length).sum+(bif rs.any (fun s=>p s x) then 1 else 0):=by
   intro rs
   induction rs with
   |nil=>intro _;simp
   |cons s rs ih2=>
    intro z1
    obtain ⟨z6,z7⟩:=List.nodup_cons.1 z1
    have:=ih2 z7
    simp only [List.map_cons,List.sum_cons,List.any_cons]
    by_cases hps:p s x=true
    ·have z8:rs.any (fun s=>p s x)=false:=by
      rw [List.any_eq_false];intro t ht za;exact z6 (hp s t x hps za▸ht)
     rw [z8] at this;rw [List.filter_cons_of_pos hps,hps];simp only [Bool.true_or,cond_true,cond_false,List.length_cons] at this ⊢;omega
    ·rw [List.filter_cons_of_neg hps,show p s x=false by simpa using hps]
     simp only [Bool.false_or];omega
  have:=key rs hn
  rw [List.length_cons]
  cases hc:rs.any (fun s=>p s x)<;>rw [hc] at this<;>simp only [cond_true,cond_false] at this<;>omega
theorem c0r (a:Aut) (cl:List Nat) (s:Int):(j1s a cl s).length≤(Wf a s).length:=by
 have h1:∀(n:Nat) (g:List Mv) (to:Nat) (c:Prd),(Te n g to c).length≤g.length+1:=fun n g to c=>by
  unfold Te;split
  ·simp
  ·split<;>simp
 have h2:∀(r g:List Mv),(r.foldl (fun g m=>Te 0 g (clD cl m) m.on) g).length≤g.length+r.length:=by
  intro r
  induction r with
  |nil=>intro g;simp
  |cons m r ih=>
   intro g
   have e:=ih (Te 0 g (clD cl m) m.on)
   have e2:=h1 0 g (clD cl m) m.on
   rw [List.foldl_cons,List.length_cons];omega
 have:=h2 (Wf a s) []
 simpa [j1s] using this
theorem Lk {a:Aut} (ha:Dfa a) {t:Nat} (ht:Zc a t):(O6 a t).length≤(Wf a (Ig a t)).length:=by
 have h:=Vs ha (clA a) (Ig a t)
 have hp:=(Kq kyM (j1s a (clA a) (Ig a t)) (h.apart fun t' t'' ty y=>Bj ha (w0u ha ht))).1.length_eq
 have:=c0r a (clA a) (Ig a t)
 unfold O6 c0i;omega
theorem f0t {a:Aut} (ha:Dfa a):(Ej a).mv.length≤a.mv.length:=by
 have ho:=Cn ha
 have z1:∀c∈v0f a,∀d∈v0f a,Ig a c=Ig a d→c=d:=fun c hc d hd e=>by
  have e1:=(Pj ha (ho.cl c hc)).2
  have e2:=(Pj ha (ho.cl d hd)).2
  rw [←e1,←e2,e]
 have hlen:(Ej a).mv.length=((v0f a).map fun c=>(O6 a c).length).sum:=by
  unfold Ej Fa;simp only [List.length_flatMap]
  congr 1
  refine List.ext_getElem (by simp) fun i h1 h2=> ?_
  have hi:i<(v0f a).length:=by simpa using h1
  simp [mvN,List.getD,hi]
 have hle:((v0f a).map fun c=>(O6 a c).length).sum≤(((v0f a).map fun c=>((Ig a c:Nat):Int)).map fun s=>(Wf a s).length).sum:=by
  rw [List.map_map]
  have key:∀l:List Nat,(∀c∈l,Zc a c)→(l.map fun c=>(O6 a c).length).sum≤(l.map ((fun s=>(Wf a s).length)∘fun c=>((Ig a c:Nat):Int))).sum:=by
   intro l
   induction l with
   |nil=>intro _;simp
   |cons c l ih=>
    intro hc
    have h1:=ih fun d hd=>hc d (by simp [hd])
    have h2:=Lk ha (hc c (by simp))
    simp only [List.map_cons,List.sum_cons,Function.comp_apply];omega
  exact key _ ho.cl
 have z6:((v0f a).map fun c=>((Ig a c:Nat):Int)).Nodup:=by
  refine List.pairwise_map.2 ?_;refine List.Pairwise.imp_of_mem ?_ ho.nd;intro c d hc hd z7 e;exact z7 (z1 c hc d hd (by omega))
 have:=Pn _ z6 (fun s (m:Mv)=>decide (m.src=s) && !We m.on) (fun s t x h1 h2=>by
  simp only [Bool.and_eq_true,decide_eq_true_eq] at h1 h2;rw [←h1.1,←h2.1]) a.mv
 rw [hlen];unfold Wf at hle;omega
def B9 (m:Aut):Bool:=m.mv.any fun k=>k.on.any fun s=>decide (256<s.length)
section
variable {a:Aut} (ha:Dfa a) (hb:B9 (Ej a)=false)
include ha hb
end
def B8 (a:Aut):Int×Aut:=if (R9 a).1≠0 then ((R9 a).1,Ud) else if (Px (R9 a).2).1≠0 then ((Px (R9 a).2).1,Ud) else
 if B9 (Ej (Px (R9 a).2).2) then (5,Ud) else (0,Ej (Px (R9 a).2).2)
theorem v1a {a d c:Aut} (h:OkA a) (hd:R9 a=(0,d)) (hc:Px d=(0,c)):Dfa c∧c.types=a.types∧∀w,(∀x∈w,Rj a x)→Nu c w=Nu a w:=by
 obtain ⟨Q,_,_,_,_,_,z1,ddet,z6,dacc⟩:=z1a h hd
 obtain ⟨z7,z8,cfull,cdet,cacc⟩:=q1o z1 hc
 exact ⟨⟨z7,cdet ddet,cfull⟩,z8.trans z6,fun w hw=>(cacc w).trans (dacc w hw)⟩
end Go.Abs
namespace Go.Abs
def addI (o:List Int) (c:Int):List Int:=if c∈o then o else o++[c]
def k1y (o:List Int) (l:List Int):List Int:=l.foldl addI o
def x13 (sc:Int→List Int):Nat→Nat→List Int→List Int
 |0,_,o=>o
 |f+1,n,o=>match o[n]? with
  |none=>o
  |some c=>x13 sc f (n+1) (k1y o (sc c))
structure SrchS (sc:Int→List Int) (o:List Int):Prop where
 nd:o.Nodup
 zero:(0:Int)∈o
 closed:∀c∈o,∀d∈sc c,d∈o
 least:∀S:Int→Prop,S 0→(∀c d,S c→d∈sc c→S d)→∀c∈o,S c
def z2w (a:Aut) (c:Int):List Int:=(Wf a c).map (·.dst)
def y2c (a:Aut) (c:Int):List Int:=(En a a).map (toL a c)
def y2k (a:Aut):Bool:=(x13 (z2w a) (a.fin.length+1) 0 [0]).length==a.fin.length
def y2j (a:Aut):Bool:=(x13 (y2c a) (a.fin.length+1) 0 [0]).length==a.fin.length
end Go.Abs
namespace Go.Abs
structure Dta (a:Aut):Prop where
 ok:OkA a
 det:Sj a
def wkS (a:Aut) (s:Int):List Sy→Option Int
 |[]=>some s
 |x::w=>if toL a s x<0 then none else wkS a (toL a s x) w
def fAt (f:List Int) (s:Int):Int:=f.getD s.toNat (-1)
structure IsoT (a b:Aut) (f:List Int):Prop where
 len:f.length=a.fin.length
 zero:fAt f 0=0
 low:∀q∈f,-1≤q
 fin:∀s,inS a s→0≤fAt f s→a.fin.getD s.toNat false=b.fin.getD (fAt f s).toNat false
 step:∀s,inS a s→0≤fAt f s→∀x,Rj a x→(toL a s x<0↔toL b (fAt f s) x<0)∧(0≤toL a s x→fAt f (toL a s x)=toL b (fAt f s) x)
 inj:∀s t,inS a s→inS a t→0≤fAt f s→fAt f s=fAt f t→s=t
 reach:∀s,inS a s→0≤fAt f s→∃w,(∀x∈w,Rj a x)∧wkS a 0 w=some s∧wkS b 0 w=some (fAt f s)
def k1i (st:List Int×List Int) (e:Int×Int):Option (List Int×List Int):=
 if fAt st.1 e.1=e.2 then some st else if 0≤fAt st.1 e.1∨e.2∈st.1 then none else some (st.1.set e.1.toNat e.2,st.2++[e.1])
def f0m:List (Int×Int)→List Int×List Int→Option (List Int×List Int)
 |[],st=>some st
 |e::es,st=>(k1i st e).bind (f0m es)
def z2n (chk:Int→Int→Bool) (ps:Int→Int→List (Int×Int)):Nat→Nat→List Int×List Int→Option (List Int)
 |0,_,st=>some st.1
 |f+1,n,st=>match st.2[n]? with
  |none=>some st.1
  |some p=>if chk p (fAt st.1 p) then (f0m (ps p (fAt st.1 p)) st).bind (z2n chk ps f (n+1)) else none
def y2q (a:Aut):List Int×List Int:=((List.replicate a.fin.length (-1)).set 0 0,[0])
structure IsoI (a b:Aut) (st:List Int×List Int):Prop where
 len:st.1.length=a.fin.length
 zero:fAt st.1 0=0
 low:∀q∈st.1,-1≤q
 mem:∀s,s∈st.2↔inS a s∧0≤fAt st.1 s
 nd:st.2.Nodup
 inj:∀s t,inS a s→inS a t→0≤fAt st.1 s→fAt st.1 s=fAt st.1 t→s=t
 reach:∀s,inS a s→0≤fAt st.1 s→∃w,(∀x∈w,Rj a x)∧wkS a 0 w=some s∧wkS b 0 w=some (fAt st.1 s)
 rng:∀s,inS a s→0≤fAt st.1 s→inS b (fAt st.1 s)
structure PsOk (a b:Aut) (chk:Int→Int→Bool) (ps:Int→Int→List (Int×Int)):Prop where
 chk:∀p q,inS a p→inS b q→(chk p q=true↔a.fin.getD p.toNat false=b.fin.getD q.toNat false∧∀x,Rj a x→(toL a p x<0↔toL b q x<0))
 from_:∀p q,inS a p→inS b q→∀e∈ps p q,∃x,Rj a x∧toL a p x=e.1∧toL b q x=e.2∧0≤e.1∧0≤e.2
 all:∀p q,inS a p→inS b q→∀x,Rj a x→0≤toL a p x→0≤toL b q x→(toL a p x,toL b q x)∈ps p q
end Go.Abs
namespace Go.Abs
def Hz:List Iv→List Iv→Option Int
 |x::l,y::m=>if max x.lo y.lo≤min x.hi y.hi then some (max x.lo y.lo) else if x.hi<y.hi then Hz l (y::m) else Hz (x::l) m
 |_,_=>none
termination_by l m=>l.length+m.length
theorem q05 (m:List Iv):Hz [] m=none:=by simp [Hz]
theorem Xp (x:Iv) (l:List Iv):Hz (x::l) []=none:=by simp [Hz]
theorem d01 (x y:Iv) (l m:List Iv):Hz (x::l) (y::m)=if max x.lo y.lo≤min x.hi y.hi then some (max x.lo y.lo) else if x.hi<y.hi then Hz l (y::m) else Hz (x::l) m:=by rw [Hz]
theorem x10 {x:Iv} {l:List Iv} (h:Sep (x::l)):∀n,M l n→x.hi<n:=by
 rintro n ⟨y,hy,h1,h2⟩
 have:=(List.pairwise_cons.1 h.2).1 y hy
 omega
theorem Tg {x:Iv} {l:List Iv} {n:Int}:M (x::l) n↔(x.lo≤n∧n≤x.hi)∨M l n:=by
 constructor
 ·rintro ⟨y,hy,h⟩
  rcases List.mem_cons.1 hy with rfl|hy
  ·exact .inl h
  ·exact .inr ⟨y,hy,h⟩
 ·rintro (h|⟨y,hy,h⟩)
  ·exact ⟨x,by simp,h⟩
  ·exact ⟨y,by simp [hy],h⟩
theorem u0j {n:Int}:¬M [] n:=by rintro ⟨y,hy,_⟩;cases hy
theorem q0j {x:Iv} {l:List Iv} (h:Sep (x::l)):Sep l:=⟨fun y hy=>h.1 y (by simp [hy]),(List.pairwise_cons.1 h.2).2⟩
theorem Gz (l m:List Iv) (hl:Sep l) (hm:Sep m):match Hz l m with|some n=>M l n∧M m n∧∀k,M l k→M m k→n≤k|none=>∀k,M l k→¬M m k:=by
 match l,m with
 |[],m=>
  rw [q05];exact fun k h=>absurd h u0j
 |x::l,[]=>
  rw [Xp];exact fun k _ h=>absurd h u0j
 |x::l,y::m=>
  have hx:=hl.1 x (by simp)
  have hy:=hm.1 y (by simp)
  have sx:=x10 hl
  have sy:=x10 hm
  rw [Hz]
  by_cases h1:max x.lo y.lo≤min x.hi y.hi
  ·rw [if_pos h1];refine ⟨Tg.2 (.inl (by omega)),Tg.2 (.inl (by omega)),fun k k1 k2=> ?_⟩
   have:x.lo≤k:=by
    rcases Tg.1 k1 with h|h
    ·exact h.1
    ·have:=sx k h;omega
   have:y.lo≤k:=by
    rcases Tg.1 k2 with h|h
    ·exact h.1
    ·have:=sy k h;omega
   omega
  ·rw [if_neg h1]
   by_cases h2:x.hi<y.hi
   ·rw [if_pos h2]
    have ih:=Gz l (y::m) (q0j hl) hm
    have z1:∀k,(x.lo≤k∧k≤x.hi)→¬M (y::m) k:=fun k h hk=>by
     rcases Tg.1 hk with h'|h'
     ·omega
     ·have:=sy k h';omega
    cases hc:Hz l (y::m) with
    |some n=>
     rw [hc] at ih
     obtain ⟨i1,i2,i3⟩:=ih
     refine ⟨Tg.2 (.inr i1),i2,fun k k1 k2=> ?_⟩
     rcases Tg.1 k1 with h|h
     ·exact absurd k2 (z1 k h)
     ·exact i3 k h k2
    |none=>
     rw [hc] at ih;intro k k1 k2
     rcases Tg.1 k1 with h|h
     ·exact z1 k h k2
     ·exact ih k h k2
   ·rw [if_neg h2]
    have ih:=Gz (x::l) m hl (q0j hm)
    have z1:∀k,(y.lo≤k∧k≤y.hi)→¬M (x::l) k:=fun k h hk=>by
     rcases Tg.1 hk with h'|h'
     ·omega
     ·have:=sx k h';omega
    cases hc:Hz (x::l) m with
    |some n=>
     rw [hc] at ih
     obtain ⟨i1,i2,i3⟩:=ih
     refine ⟨i1,Tg.2 (.inr i2),fun k k1 k2=> ?_⟩
     rcases Tg.1 k2 with h|h
     ·exact absurd k1 (z1 k h)
     ·exact i3 k k1 h
    |none=>
     rw [hc] at ih;intro k k1 k2
     rcases Tg.1 k2 with h|h
     ·exact z1 k h k1
     ·exact ih k k1 h
termination_by l.length+m.length
def lqB (p q:Prd):Nat→Nat→Option Sy
 |0,_=>none
 |f+1,t=>match Hz (p.getD t []) (q.getD t []) with
  |some n=>some ⟨t,n⟩
  |none=>lqB p q f (t+1)
def Ei (p q:Prd):Option Sy:=if We (Wa p q) then none else some (Qm (Wa p q))
theorem Mb {T:Nat} {p:Prd} (h:PWf T p) (t:Nat):Sep (p.getD t []):=by
 by_cases ht:t<p.length
 ·rw [Wo ht];exact (h.2 _ (List.getElem_mem ht)).1
 ·rw [show p.getD t []=[] by simp [List.getD,List.getElem?_eq_none (by omega:p.length≤t)]]
  exact ⟨by simp,by simp⟩
theorem Sa {p:Prd} {t:Nat} {n:Int}:PM p t n↔M (p.getD t []) n:=by
 constructor
 ·rintro ⟨s,hs,h⟩
  simpa [List.getD,hs] using h
 ·intro h
  by_cases ht:t<p.length
  ·rw [Wo ht] at h;exact ⟨_,List.getElem?_eq_getElem ht,h⟩
  ·rw [show p.getD t []=[] by simp [List.getD,List.getElem?_eq_none (by omega:p.length≤t)]] at h
   exact absurd h u0j
theorem w2g {T:Nat} {p q:Prd} (hp:PWf T p) (hq:PWf T q):lqB p q T 0=Ei p q:=by
 have hw:=Td hp hq.1
 have key:∀(f t:Nat),t+f=T→(∀t' n,t'<t→¬PM (Wa p q) t' n)→lqB p q f t=Ei p q:=by
  intro f
  induction f with
  |zero=>
   intro t ht z1
   have:We (Wa p q)=true:=(E9 hw).2 fun t' n hm=>z1 t' n (by have:=(hw.lt hm).1;omega) hm
   rw [lqB,Ei,if_pos this]
  |succ f ih=>
   intro t ht z1
   have hs:=Gz _ _ (Mb hp t) (Mb hq t)
   rw [lqB]
   cases hc:Hz (p.getD t []) (q.getD t []) with
   |some n=>
    rw [hc] at hs
    obtain ⟨h1,h2,h3⟩:=hs
    have hm:PM (Wa p q) t n:=(Ec hp.1 hq.1 t n).2 ⟨Sa.2 h1,Sa.2 h2⟩
    have hv:We (Wa p q)=false:=(Ib hw).2 ⟨t,n,hm⟩
    rw [Ei,if_neg (by rw [hv];simp)]
    obtain ⟨g1,g2,g3⟩:=O1 hw ⟨t,n,hm⟩
    have z6:=hw.lt hm
    show some (⟨(t:Int),n⟩:Sy)=some (Qm (Wa p q))
    congr 1
    rcases g3 ⟨t,n⟩ ⟨by simp,by simpa using z6.1,z6.2⟩ (by simpa using hm) with e|e
    ·exact e.symm
    ·exfalso;unfold sLt at e;simp only at e
     have z8:=g1.1
     by_cases hle:(Qm (Wa p q)).ty.toNat<t
     ·exact z1 _ _ hle g2
     ·have z7:(Qm (Wa p q)).ty=t:=by omega
      rw [z7] at g2
      have:=(Ec hp.1 hq.1 t (Qm (Wa p q)).num).1 (by simpa using g2)
      have:=h3 _ (Sa.1 this.1) (Sa.1 this.2)
      omega
   |none=>
    rw [hc] at hs;refine ih (t+1) (by omega) fun t' n za hm=> ?_
    by_cases e:t'=t
    ·subst e
     have:=(Ec hp.1 hq.1 t' n).1 hm
     exact hs n (Sa.1 this.1) (Sa.1 this.2)
    ·exact z1 t' n (by omega) hm
 exact key T 0 (by omega) (fun t' n h=>by omega)
theorem v09 {T:Nat} {p:Prd} (hp:PWf T p):Wa p p=p:=O8 (Td hp hp.1) hp fun t n=>by rw [Ec hp.1 hp.1];simp
theorem Bm {T:Nat} {p:Prd} (hp:PWf T p):Ei p p=if We p then none else some (Qm p):=by rw [Ei,v09 hp]
theorem q1z (a b:Aut) (s:Int×Int):Wn a b s=(Wf a s.1).flatMap fun m=>(Wf b s.2).filterMap fun n=>(Ei m.on n.on).map fun x=>(x,(m.dst,n.dst)):=by
 unfold Wn Ei
 congr 1
 funext m
 congr 1
 funext n
 split<;>simp
end Go.Abs
namespace Go.Abs
def Uk (a:Aut):Int:=if Wt a≠0 then Wt a else if Be a=false∨Yp a=false then 3 else 0
theorem D8 (a:Aut):Uk a=0↔Dfa a:=by
 unfold Uk
 by_cases h:Wt a=0
 ·have z1:=(P7 a).1 h
  rw [if_neg (fun k=>k h)]
  have h1:=k1q z1.wfA
  have h2:Yp a=true↔v0a a:=by
   rw [←Mn z1.wfA,Gm];unfold Yp;rw [List.all_eq_true];simp only [List.mem_range];exact forall_congr' fun s=>forall_congr' fun _=>by rw [f05 z1.wfA]
  constructor
  ·intro k;split at k
   ·cases k
   ·rename_i hn
    refine ⟨z1,h1.1 ?_,h2.1 ?_⟩
    ·cases hs:Be a
     ·exact absurd (.inl hs) hn
     ·rfl
    ·cases hs:Yp a
     ·exact absurd (.inr hs) hn
     ·rfl
  ·intro k;rw [if_neg]
   rintro (hs|hs)
   ·rw [h1.2 k.det] at hs;cases hs
   ·rw [h2.2 k.full] at hs;cases hs
 ·rw [if_pos h];exact ⟨fun k=>absurd k h,fun k=>absurd ((P7 a).2 k.ok) h⟩
theorem u1f {a:Aut} (h:OkA a):((Sk a).1=0∧(Sk a).2.fin.length=a.fin.length)↔Yp a=true:=by
 have z1:Wt a=0:=(P7 a).2 h
 have hc:Sk a=Px a:=by unfold Sk;rw [if_neg (fun k=>k z1)]
 have h2:Yp a=true↔Re a (Ww a)=[]:=by
  rw [Gm];unfold Yp;rw [List.all_eq_true];simp only [List.mem_range];exact forall_congr' fun s=>forall_congr' fun _=>by rw [f05 h.wfA]
 rw [hc,h2,Px]
 cases hn:Re a (Ww a) with
 |nil=>simp
 |cons m l=>
  rw [if_neg (by simp)]
  unfold Z0;split
  ·simp
  ·simp [Y7]
end Go.Abs
namespace Go.Abs
open Go Go.Proofs Go.Maps Go.RowKit
theorem g1e (x y:Int):(if x<y then y else x)=max x y:=by omega
def j1f:Option Int→AV
 |some n=> .tup [.i n,.bool true]
 |none=> .tup [.i 0,.bool false]
set_option maxHeartbeats 4000000 in
theorem x0z (l m:List Iv) (hl:l.length≤1000000000) (hm:m.length≤1000000000):PC Tryz.prog 188 [LIv l,LIv m] (fun r=>r=j1f (Hz l m)):=by
 refine Ql tOk Tryz.func188 rfl Tryz.results188 rfl (by simp [Tryz.ntmps188]) ?_
 rw [Tryz.ntmps188];simp only [Qg]
 obtain ⟨R,hR⟩:∃R,Hz l m=R:=⟨_,rfl⟩
 rw [hR]
 repeat first|((first|refine ra ?_|refine rb ?_|refine rh ?_);simp)|refine qf ?_|refine qg ?_
 refine Qp (Qc (sl':=[(0,LIv l),(1,LIv m),(6,.i (0:Nat)),(7,.i (0:Nat))]) ?_ (by simp))
 refine Qo (F:=fun (u:Nat×Nat)=>⟨[(0,LIv l),(1,LIv m),(6,.i u.1),(7,.i u.2)],[]⟩)
  (fun u=>u.1≤l.length∧u.2≤m.length∧Hz (l.drop u.1) (m.drop u.2)=R) (fun u=>(l.length - u.1)+(m.length - u.2)) ?_ (0,0) ⟨Nat.zero_le _,Nat.zero_le _,by simpa using hR⟩
 rintro ⟨i,k⟩ ⟨hi,hk,hI⟩ ih
 simp only at hi hk hI ih ⊢
 by_cases h1:i<l.length
 ·by_cases h2:k<m.length
  ·have hw:IntKind.i64.wrap ((i:Int)+1)=i+1:=wrap_i64 _ (by omega) (by omega)
   have z1:IntKind.i64.wrap ((k:Int)+1)=k+1:=wrap_i64 _ (by omega) (by omega)
   rw [List.drop_eq_getElem_cons h1,List.drop_eq_getElem_cons h2,d01] at hI
   have e1:l[i]? =some l[i]:=List.getElem?_eq_getElem h1
   have e2:m[k]? =some m[k]:=List.getElem?_eq_getElem h2
   repeat first|((first|refine ra ?_|refine rb ?_|refine rh ?_);simp [h1,h2])|refine qf ?_|refine qg ?_
   refine Qb rfl (fun _=> ?_) (fun h=>by simp [h1,h2] at h)
   repeat first|((first|refine ra ?_|refine rb ?_|refine rh ?_);simp)|refine qf ?_|refine qg ?_
   refine Qn tOk mixed [] (.val 0 (.val 1 (.val 2 (.val 3 (.val 4 (.val 5 (.val 6 (.val 7 (.val 8 (.val 9 (.val 10 (.val 11 (.done))))))))))))) rfl (by kernel_rfl) ?_
   simp [h1,h2]
   repeat first|((first|refine ra ?_|refine rb ?_|refine rh ?_);simp)|refine qf ?_|refine qg ?_
   refine Qn tOk mixed [] (.val 0 (.val 1 (.val 2 (.val 3 (.val 4 (.val 5 (.val 6 (.val 7 (.val 8 (.val 9 (.val 10 (.val 11 (.val 12 (.done)))))))))))))) rfl (by kernel_rfl) ?_
   simp [h1,h2]
   refine Qb rfl (fun h=> ?_) (fun h=> ?_)
   ·have hle:max l[i].lo m[k].lo≤min l[i].hi m[k].hi:=by simp at h;omega
    rw [if_pos hle] at hI;rw [←hI]
    repeat first|((first|refine ra ?_|refine rb ?_|refine rh ?_);simp)|refine qf ?_|refine qg ?_
    rw [g1e];rfl
   ·have hle:¬max l[i].lo m[k].lo≤min l[i].hi m[k].hi:=by simp at h;omega
    rw [if_neg hle] at hI
    repeat first|((first|refine ra ?_|refine rb ?_|refine rh ?_);simp)|refine qf ?_|refine qg ?_
    refine Qn tOk mixed [] (.val 0 (.val 1 (.val 2 (.val 3 (.val 4 (.val 5 (.val 6 (.val 7 (.val 8 (.val 9 (.val 10 (.done)))))))))))) rfl (by kernel_rfl) ?_
    simp [h1,h2]
    refine Qb rfl (fun h=> ?_) (fun h=> ?_)
    ·rw [if_pos (by simpa using h)] at hI
     repeat first|((first|refine ra ?_|refine rb ?_|refine rh ?_);simp [hw])|refine qf ?_|refine qg ?_
     refine Qc (sl':=[(0,LIv l),(1,LIv m),(6,.i (i+1:Nat)),(7,.i k)]) ?_ (by simp)
     exact ih (i+1,k) ⟨by omega,hk,by rw [List.drop_eq_getElem_cons h2];exact hI⟩ (by simp;omega)
    ·rw [if_neg (by simpa using h)] at hI
     repeat first|((first|refine ra ?_|refine rb ?_|refine rh ?_);simp [z1])|refine qf ?_|refine qg ?_
     refine Qc (sl':=[(0,LIv l),(1,LIv m),(6,.i i),(7,.i (k+1:Nat))]) ?_ (by simp)
     exact ih (i,k+1) ⟨hi,by omega,by rw [List.drop_eq_getElem_cons h1];exact hI⟩ (by simp;omega)
  ·have h3:k=m.length:=by omega
   subst h3
   repeat first|((first|refine ra ?_|refine rb ?_|refine rh ?_);simp [h1])|refine qf ?_|refine qg ?_
   refine Qb rfl (fun h=>by simp at h) (fun _=> ?_)
   repeat first|((first|refine ra ?_|refine rb ?_|refine rh ?_);simp)|refine qf ?_|refine qg ?_
   rw [List.drop_length,List.drop_eq_getElem_cons h1,Xp] at hI;rw [←hI];rfl
 ·have h3:i=l.length:=by omega
  subst h3
  repeat first|((first|refine ra ?_|refine rb ?_|refine rh ?_);simp)|refine qf ?_|refine qg ?_
  refine Qb rfl (fun h=>by simp at h) (fun _=> ?_)
  repeat first|((first|refine ra ?_|refine rb ?_|refine rh ?_);simp)|refine qf ?_|refine qg ?_
  rw [List.drop_length,q05] at hI;rw [←hI];rfl
def Bl:Option Sy→AV
 |some x=> .tup [encSy x,.bool true]
 |none=> .tup [encSy ⟨0,0⟩,.bool false]
theorem q1b (p q:Prd) (f t:Nat):lqB p q (f+1) t=match Hz (p.getD t []) (q.getD t []) with|some n=>some ⟨t,n⟩|none=>lqB p q f (t+1):=rfl
attribute [local irreducible] lqB Ei
set_option maxHeartbeats 4000000 in
theorem Aq (T:Nat) (p q:Prd) (hp:PWf T p) (hq:PWf T q) (z7:∀s∈p,s.length≤1000000000) (z8:∀s∈q,s.length≤1000000000) (hT:T≤1000):PC Tryz.prog 139 [encP p,encP q] (fun r=>r=Bl (Ei p q)):=by
 refine Ql tOk Tryz.func139 rfl Tryz.results139 rfl (by simp [Tryz.ntmps139]) ?_
 rw [Tryz.ntmps139];simp only [Qg];simp only [encP]
 have zd:=hp.1
 have ze:=hq.1
 obtain ⟨R,hR⟩:∃R,Ei p q=R:=⟨_,rfl⟩
 rw [hR];rw [←w2g hp hq] at hR
 repeat first|((first|refine ra ?_|refine rb ?_|refine rh ?_);simp)|refine qf ?_|refine qg ?_
 refine Qs p.length (fun i=>lqB p q (T - i) i=R) (fun i=>[(2,.vptr 0 0),(3,.vptr 1 0),(4,.vptr 2 0),(11,.i p.length),(12,.i i)]) (fun _=>[.vars [.list (p.map encL)],.vars [.list (q.map encL)],.vars [.i 0,.i 0]]) rfl (by simp) (by simp) (by simp) (by simp) (by simpa using hR) ?_
 intro i hi hI ih
 repeat first|((first|refine ra ?_|refine rb ?_|refine rh ?_);simp)|refine qf ?_|refine qg ?_
 refine Qb rfl (fun za=> ?_) (fun zb=> ?_)
 ·have z1:i<p.length:=by simpa using za
  have z6:i<q.length:=by omega
  have hw:IntKind.i64.wrap ((i:Int)+1)=i+1:=wrap_i64 _ (by omega) (by omega)
  rw [show T - i=(T - (i+1))+1 by omega,q1b,Wo z1,Wo z6] at hI
  repeat first|((first|refine ra ?_|refine rb ?_|refine rh ?_);simp)|refine qf ?_|refine qg ?_
  refine Qn tOk mixed [] (.val 0 (.val 1 (.val 2 (.val 3 (.val 4 (.val 5 (.val 6 (.val 7 (.val 8 (.val 9 (.one 10 (.val 11 (.val 12 (.val 13 (.val 14 (.val 15 (.done))))))))))))))))) rfl (by kernel_rfl) ?_
  simp [z1,z6]
  refine Qe rfl rfl (by simp) (x0z p[i] q[i] (z7 _ (List.getElem_mem z1)) (z8 _ (List.getElem_mem z6))) rfl ?_
  rintro _ rfl
  simp
  cases hc:Hz p[i] q[i] with
  |some n=>
   rw [hc] at hI
   simp [j1f]
   repeat first|((first|refine ra ?_|refine rb ?_|refine rh ?_);simp)|refine qf ?_|refine qg ?_
   refine Qk rfl ?_
   repeat first|((first|refine ra ?_|refine rb ?_|refine rh ?_);simp)|refine qf ?_|refine qg ?_
   rw [←hI];rfl
  |none=>
   rw [hc] at hI
   simp [j1f]
   repeat first|((first|refine ra ?_|refine rb ?_|refine rh ?_);simp)|refine qf ?_|refine qg ?_
   refine Qk rfl ?_
   repeat first|((first|refine ra ?_|refine rb ?_|refine rh ?_);simp [hw])|refine qf ?_|refine qg ?_
   refine Qr _ (ih z1 hI) rfl (by simp) ?_ (by simp) (by simp)
   simp
 ·have zc:i=p.length:=by simp at zb;omega
  subst zc
  repeat first|((first|refine ra ?_|refine rb ?_|refine rh ?_);simp)|refine qf ?_|refine qg ?_
  rw [show T - p.length=0 by omega] at hI
  rw [←hI];unfold lqB;rfl
set_option maxHeartbeats 1000000 in
theorem Jv (x y:Sy):PC Tryz.prog 148 [encSy x,encSy y] (fun r=>r= .bool (La x y)):=by
 refine Ql tOk Tryz.func148 rfl Tryz.results148 rfl (by simp [Tryz.ntmps148]) ?_
 rw [Tryz.ntmps148];simp only [Qg];simp only [encSy,La]
 by_cases h1:x.ty<y.ty
 ·repeat first|((first|refine ra ?_|refine rb ?_|refine rh ?_);simp [h1])|refine qf ?_|refine qg ?_
 ·by_cases h2:x.ty=y.ty
  ·repeat first|((first|refine ra ?_|refine rb ?_|refine rh ?_);simp [h1,h2])|refine qf ?_|refine qg ?_
  ·have hb:(x.ty==y.ty)=false:=by simpa using h2
   repeat first|((first|refine ra ?_|refine rb ?_|refine rh ?_);simp [h1,h2,hb])|refine qf ?_|refine qg ?_
theorem g06 (a:Aut) (i:Int):PC Tryz.prog 88 [encA a,.i i] (fun r=>r= .bool (decide (0≤i) && decide (i<a.fin.length))):=by
 refine Ql tOk Tryz.func88 rfl Tryz.results88 rfl (by simp [Tryz.ntmps88]) ?_
 rw [Tryz.ntmps88];simp only [Qg];simp only [encA]
 by_cases h1:0≤i
 ·repeat first|((first|refine ra ?_|refine rb ?_|refine rh ?_);simp [h1])|refine qf ?_|refine qg ?_
 ·repeat first|((first|refine ra ?_|refine rb ?_|refine rh ?_);simp [h1])|refine qf ?_|refine qg ?_
end Go.Abs
namespace Go.Abs
open Go Go.Proofs Go.Maps Go.RowKit
attribute [local irreducible] Yp Be Wt Sk y1t
set_option maxHeartbeats 2000000 in
theorem w0e (a:Aut):PC Tryz.prog 84 [encA a] (fun r=>r= .i (Uk a)):=by
 refine Ql tOk Tryz.func84 rfl Tryz.results84 rfl (by simp [Tryz.ntmps84]) ?_
 rw [Tryz.ntmps84];simp only [Qg];simp only [encA]
 repeat first|((first|refine ra ?_|refine rb ?_|refine rh ?_);simp)|refine qf ?_|refine qg ?_
 refine Qe rfl rfl (by simp) (Iu a) rfl ?_
 rintro _ rfl
 simp
 repeat first|((first|refine ra ?_|refine rb ?_|refine rh ?_);simp)|refine qf ?_|refine qg ?_
 refine Qb rfl (fun h=> ?_) (fun h=> ?_)
 ·repeat first|((first|refine ra ?_|refine rb ?_|refine rh ?_);simp)|refine qf ?_|refine qg ?_
  rw [Uk,if_pos (by simpa using h)]
 have h0:Wt a=0:=by simpa using h
 have z6:=(P7 a).1 h0
 rw [Uk,if_neg (fun k=>k h0)]
 have hd:y1t a=(Be a,0):=by unfold y1t;rw [if_pos h0]
 repeat first|((first|refine ra ?_|refine rb ?_|refine rh ?_);simp)|refine qf ?_|refine qg ?_
 refine Qe rfl rfl (by simp) (f1k a) rfl ?_
 rintro _ rfl
 simp [hd]
 cases hs:Be a with
 |false=>
  repeat first|((first|refine ra ?_|refine rb ?_|refine rh ?_);simp [hs])|refine qf ?_|refine qg ?_
  refine Qk rfl ?_
  repeat (first|((first|refine ra ?_|refine rb ?_|refine rh ?_);simp)|refine qf ?_|refine qg ?_)
 |true=>
  repeat first|((first|refine ra ?_|refine rb ?_|refine rh ?_);simp [hs])|refine qf ?_|refine qg ?_
  refine Qk rfl ?_
  repeat first|((first|refine ra ?_|refine rb ?_|refine rh ?_);simp)|refine qf ?_|refine qg ?_
  refine Qe rfl rfl (by simp) (Gc a) rfl ?_
  rintro _ rfl
  simp
  have z1:=u1f z6
  generalize Sk a=c at *
  by_cases he:c.1=0
  ·by_cases hl:c.2.fin.length=a.fin.length
   ·rw [z1.1 ⟨he,hl⟩]
    repeat first|((first|refine ra ?_|refine rb ?_|refine rh ?_);simp [he,hl])|refine qf ?_|refine qg ?_
    refine Qk rfl ?_
    repeat first|((first|refine ra ?_|refine rb ?_|refine rh ?_);simp)|refine qf ?_|refine qg ?_
   ·have hf:Yp a=false:=by
     cases hf:Yp a
     ·rfl
     ·exact absurd (z1.2 hf).2 hl
    have z7:((c.2.fin.length:Int) != a.fin.length)=true:=by simp;omega
    have z8:¬(c.2.fin.length:Int)=a.fin.length:=by omega
    rw [hf]
    repeat first|((first|refine ra ?_|refine rb ?_|refine rh ?_);simp [he,z7,z8,hl])|refine qf ?_|refine qg ?_
    refine Qk rfl ?_
    repeat first|((first|refine ra ?_|refine rb ?_|refine rh ?_);simp)|refine qf ?_|refine qg ?_
  ·have hf:Yp a=false:=by
    cases hf:Yp a
    ·rfl
    ·exact absurd (z1.2 hf).1 he
   have za:(c.1 != 0)=true:=by simpa using he
   rw [hf]
   repeat first|((first|refine ra ?_|refine rb ?_|refine rh ?_);simp [za])|refine qf ?_|refine qg ?_
   refine Qk rfl ?_
   repeat first|((first|refine ra ?_|refine rb ?_|refine rh ?_);simp)|refine qf ?_|refine qg ?_
end Go.Abs
