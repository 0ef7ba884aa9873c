/- Part Ph of the proof: an abstract machine over the model, and what the functions of the program hand back in its terms. No condition. -/
import Derived.Test.YteghceocnldccaaGreatDoorPg
import Derived.Test.YteghceocnldccaaGreatDoorPc
import Derived.Test.YteghceocnldccaaGreatDoorPf
import Derived.DeepKeys4
import Derived.Test.YteghceocnldccaaGreatDoorPd
import Derived.Test.YteghceocnldccaaGreatDoorPe
set_option linter.all false
set_option linter.unusedSimpArgs false
set_option maxRecDepth 100000
namespace Go.Abs
open Go Go.Proofs Go.Maps Go.RowKit
attribute [local irreducible] Wk
attribute [local irreducible] Ud O0 q0b Wo y0z c1l W4
end Go.Abs
namespace Go.Abs
open Go Go.Proofs Go.Maps Go.RowKit
section
variable {P:Program} [Env P] {T:TT} {nt k:Nat} {S:AS}
theorem Us (hT:TOk P T) (hm:P.follows .mixedOrders=true) {Q:Exit→AS→Prop} {id:Nat} {l:List Oper} (Wr:List Nat) (p:PlanM) (Ph:AS→Prop) (hd:Tg nt l=true)
  (hp:(Region.noSelect l.toArray && p.size==l.length && Uq l.toArray (Yr l []) Wr p (Array.replicate l.length false))=true)
  (h:I5 P T nt k l.toArray Wr.contains Ph p S) (hn:∀S',Ph S'→Q .normal S'):AWP P nt k (.region id l.toArray true) Q S:=
 (F1 (Q:=fun e S=>e= .normal∧Ph S) hT hm Wr p hd hp (Eu (fun _ h=>⟨rfl,h⟩) p S h)).mono fun e S ⟨he,hr⟩=>by
  subst he;exact hn S hr
end
attribute [local irreducible] Eb upL
end Go.Abs
namespace Go.Abs
open Go Go.Proofs Go.Maps Go.RowKit
attribute [simp] q23 q2s q24 d1j q2n q2t
def R3 (a:Aut) (j k:Nat):List Mv:=(a.mv.take j).filter fun m=>decide (m.src=(k:Int)) && !Wp m.on
theorem y0v (a:Aut) (k:Nat):R3 a a.mv.length k=Wb a k:=by simp [R3,Wb]
theorem Yn (a:Aut) (k:Nat):R3 a 0 k=[]:=by simp [R3]
theorem y0e (a:Aut) {j:Nat} (h:j<a.mv.length) (k:Nat):R3 a (j+1) k=R3 a j k++(if decide (a.mv[j].src=(k:Int)) && !Wp a.mv[j].on then [a.mv[j]] else []):=by
 unfold R3;rw [List.take_succ_eq_append_getElem h,List.filter_append]
 congr 1
 rw [List.filter_cons,List.filter_nil]
theorem f0d (a:Aut) (j k:Nat):(R3 a j k).length≤a.mv.length:=by
 unfold R3;refine Nat.le_trans (List.length_filter_le _ _) ?_;rw [List.length_take];omega
def Tf (l:List Mv):AV:= .list (l.map encMv)
def Tp (a:Aut):List AV:=(List.range a.fin.length).map fun k:Nat=>Tf (Wb a k)
def Q6 (a:Aut):List AV:=[.i a.types,.list (a.fin.map .bool),.list (a.mv.map encMv),.list (Tp a)]
def E4 (a:Aut):AV:= .agg (Q6 a)
def A4 (p:Nat) (xs:List Mv):AV:=if xs=[] then .nils else .sl p 3 0 xs.length
def Gb (n:Nat) (L:Nat→Nat) (rs:Nat→List Mv):List AV:=(List.range n).map fun k=>A4 (L k) (rs k)
theorem U0 (n:Nat) (L:Nat→Nat) (rs:Nat→List Mv):(Gb n L rs).length=n:=by simp [Gb]
theorem Fy {n:Nat} (L:Nat→Nat) (rs:Nat→List Mv) {k:Nat} (h:k<n):(Gb n L rs)[k]? =some (A4 (L k) (rs k)):=by simp [Gb,h]
structure MR (K:List AObj) (n o:Nat) (rs:Nat→List Mv) (L:Nat→Nat) (H:List AObj):Prop where
 out:H[o]? =some (.va 23 1 (Gb n L rs))
 leaf:∀k,k<n→rs k≠[]→H[L k]? =some (.arr 78 3 ((rs k).map encMv))
 inj:∀k k',k<n→k'<n→rs k≠[]→rs k'≠[]→L k=L k'→k=k'
 ne:∀k,k<n→rs k≠[]→L k≠o
 geo:K.length≤o
 geL:∀k,k<n→rs k≠[]→K.length≤L k
 keep:∀j,j<K.length→H[j]? =K[j]?
theorem MR.grow {K:List AObj} {n o:Nat} {rs:Nat→List Mv} {L:Nat→Nat} {H:List AObj} (h:MR K n o rs L H) (E:List AObj):MR K n o rs L (H++E):=by
 have z1:=h.geo
 have ho:=Qg h.out
 exact ⟨Qa h.out E,fun k hk hn=>Qa (h.leaf k hk hn) E,h.inj,h.ne,h.geo,h.geL,fun j hj=>by rw [List.getElem?_append_left (by omega)];exact h.keep j hj⟩
theorem MR.put {K:List AObj} {n o:Nat} {rs:Nat→List Mv} {L:Nat→Nat} {H H':List AObj} (h:MR K n o rs L H) {i:Nat} (hi:i<n) {m:Mv} {np:Nat} (zc:H.length≤np)
  (za:H'[o]? =some (.va 23 1 ((Gb n L rs).set i (.sl np 3 0 ((rs i).length+1))))) (z6:H'[np]? =some (.arr 78 3 ((rs i++[m]).map encMv)))
  (hk:∀j,j<H.length→j≠o→(rs i≠[]→j≠L i)→H'[j]? =H[j]?):MR K n o (fun k=>if k=i then rs i++[m] else rs k) (fun k=>if k=i then np else L k) H':=by
 have lo:=Qg h.out
 have lL:=fun k hk hn=>Qg (h.leaf k hk hn)
 refine ⟨?_,fun k z1 hn=> ?_,fun k k' z1 z7 hn z8 e=> ?_,fun k z1 hn=> ?_,h.geo,fun k z1 hn=> ?_,fun j hj=> ?_⟩
 ·rw [za]
  congr 2
  refine List.ext_getElem? fun k=> ?_
  by_cases z1:k<n
  ·rw [Fy _ _ z1]
   by_cases e:k=i
   ·subst e;rw [List.getElem?_set_self (by rw [U0];exact z1)]
    simp [A4]
   ·rw [List.getElem?_set_ne (fun e'=>e e'.symm),Fy _ _ z1]
    simp [e]
  ·rw [List.getElem?_eq_none (by rw [List.length_set,U0];omega),List.getElem?_eq_none (by rw [U0];omega)]
 ·by_cases e:k=i
  ·subst e;simpa using z6
  ·simp only [e,if_false] at hn ⊢;rw [hk _ (lL k z1 hn) (h.ne k z1 hn) (fun zb e'=>e (h.inj k i z1 hi hn zb e'))]
   exact h.leaf k z1 hn
 ·by_cases e1:k=i
  ·by_cases e2:k'=i
   ·rw [e1,e2]
   ·simp only [e1,e2,if_true,if_false] at e z8
    have:=lL k' z7 z8
    omega
  ·by_cases e2:k'=i
   ·simp only [e1,e2,if_true,if_false] at e hn
    have:=lL k z1 hn
    omega
   ·simp only [e1,e2,if_false] at e hn z8;exact h.inj k k' z1 z7 hn z8 e
 ·by_cases e:k=i
  ·simp only [e,if_true];omega
  ·simp only [e,if_false] at hn ⊢;exact h.ne k z1 hn
 ·have zd:=h.geo
  by_cases e:k=i
  ·simp only [e,if_true];omega
  ·simp only [e,if_false] at hn ⊢;exact h.geL k z1 hn
 ·have ze:=h.geo
  rw [hk j (by omega) (by omega) (fun zb e=>by have:=h.geL i hi zb;omega)]
  exact h.keep j hj
def Ct (n:Nat) (L:Nat→Nat) (rs:Nat→List Mv) (k:Nat):List AV:=(List.range n).map fun i=>if i<k∧rs i≠[] then Tf (rs i) else A4 (L i) (rs i)
section
variable {P:Program} [Env P] {nt kk:Nat} {cd:Code} {Q:Exit→AS→Prop}
theorem v0a (n:Nat) (L:Nat→Nat) (rs:Nat→List Mv):Ct n L rs 0=Gb n L rs:=by
 unfold Ct Gb;exact List.map_congr_left fun i _=>by rw [if_neg (by omega)]
theorem d0d {n:Nat} {L:Nat→Nat} {rs:Nat→List Mv} {k:Nat} (h:rs k=[]):Ct n L rs (k+1)=Ct n L rs k:=by
 unfold Ct;refine List.map_congr_left fun i _=> ?_
 by_cases e:i=k
 ·subst e;simp [h]
 ·by_cases h2:i<k
  ·simp [h2,show i<k+1 by omega]
  ·simp [h2,show ¬i<k+1 by omega]
theorem c09 {i c:Nat} {ys:List AV} {xs:List Mv} {p:Nat} (h:xs=[]∨p≠i):(A4 p xs).fz i c ys=A4 p xs:=by
 unfold A4;split
 ·simp [AV.fz]
 ·rw [AV.fz,if_neg]
  rintro ⟨e,_⟩
  rcases h with h|h
  ·contradiction
  ·exact h e
theorem v0f {n:Nat} {L:Nat→Nat} {rs:Nat→List Mv} (z1:∀k k',k<n→k'<n→rs k≠[]→rs k'≠[]→L k=L k'→k=k') {k:Nat} (hk:k<n) (h:rs k≠[]):
  (Ct n L rs k).map (AV.fz (L k) 3 ((rs k).map encMv))=Ct n L rs (k+1):=by
 unfold Ct;rw [List.map_map];refine List.map_congr_left fun i hi=> ?_
 have z6:=List.mem_range.1 hi
 simp only [Function.comp_apply]
 by_cases e:i=k
 ·subst e;simp only [Nat.lt_irrefl,false_and,if_false];rw [if_pos ⟨by omega,h⟩,A4,if_neg h,AV.fz,if_pos ⟨rfl,rfl,by simp⟩]
  simp [Tf,List.take_of_length_le]
 ·by_cases h2:i<k∧rs i≠[]
  ·rw [if_pos h2,if_pos ⟨by omega,h2.2⟩]
   simp [Tf,AV.fz]
  ·rw [if_neg h2,if_neg (fun h3=>h2 ⟨by omega,h3.2⟩)]
   refine c09 ?_
   by_cases hr:rs i=[]
   ·exact .inl hr
   ·exact .inr fun e2=>e (z1 i k z6 hk hr h e2)
theorem MR.freeze {n o:Nat} {rs:Nat→List Mv} {L:Nat→Nat} {sl:List (Nat×AV)} (z1:∀k k',k<n→k'<n→rs k≠[]→rs k'≠[]→L k=L k'→k=k') (z7:∀k,k<n→rs k≠[]→L k≠o)
  (zb:∀k,k<n→rs k≠[]→sl.map (fun p=>(p.1,p.2.fz (L k) 3 ((rs k).map encMv)))=sl):∀(d k:Nat) (H:List AObj),k+d=n→H[o]? =some (.va 23 1 (Ct n L rs k))→(∀i,k≤i→i<n→rs i≠[]→H[L i]? =some (.arr 78 3 ((rs i).map encMv)))→
  (∀H',H'[o]? =some (.va 23 1 (Ct n L rs n))→(∀j,j<H.length→j≠o→(∀i,k≤i→i<n→rs i≠[]→j≠L i)→H'[j]? =H[j]?)→AWP P nt kk cd Q ⟨sl,H'⟩)→AWP P nt kk cd Q ⟨sl,H⟩
 |0,k,H,hd,ho,hl,h=>by
  have:k=n:=by omega
  subst this;exact h H ho fun _ _ _ _=>rfl
 |d+1,k,H,hd,ho,hl,h=>by
  by_cases hr:rs k=[]
  ·refine MR.freeze z1 z7 zb d (k+1) H (by omega) (by rw [d0d hr];exact ho) (fun i hi=>hl i (by omega)) fun H' zc zd=>h H' zc fun j hj z8 za=>zd j hj z8 fun i hi=>za i (by omega)
  ·have z6:k<n:=by omega
   have zg:=z7 k z6 hr
   have zh:=hl k (Nat.le_refl _) z6 hr
   refine Y3 (L k) zh o ho (Ne.symm zg) rfl ?_;rw [zb k z6 hr]
   have zi:=Qg ho
   have e:AObj.fz (L k) 3 ((rs k).map encMv) (.va 23 1 (Ct n L rs k))= .va 23 1 (Ct n L rs (k+1)):=by rw [AObj.fz,v0f z1 z6 hr]
   rw [e];refine MR.freeze z1 z7 zb d (k+1) _ (by omega) (List.getElem?_set_self (by simpa using zi)) (fun i hi ze zf=> ?_) fun H' zc zd=>h H' zc fun j hj z8 za=> ?_
   ·rw [List.getElem?_set_ne (Ne.symm (z7 i ze zf)),List.getElem?_set_ne (fun e2=>by have:=z1 k i z6 ze hr zf e2;omega)]
    exact hl i (by omega) ze zf
   ·rw [zd j (by simpa using hj) z8 fun i hi=>za i (by omega),List.getElem?_set_ne (Ne.symm z8),List.getElem?_set_ne (Ne.symm (za k (Nat.le_refl _) z6 hr))]
end
theorem y1i (n:Nat) (L:Nat→Nat) (rs:Nat→List Mv):(Ct n L rs n).all (fun x=>x.cells.all AV.pure)=true∧(Ct n L rs n).map AV.nrm=(List.range n).map fun k=>Tf (rs k):=by
 have hc:∀i,i<n→(if i<n∧rs i≠[] then Tf (rs i) else A4 (L i) (rs i))=if rs i=[] then .nils else Tf (rs i):=fun i hi=>by
  by_cases hr:rs i=[]
  ·rw [if_neg (fun h=>h.2 hr),if_pos hr,A4,if_pos hr]
  ·rw [if_pos ⟨hi,hr⟩,if_neg hr]
 have e:Ct n L rs n=(List.range n).map fun i=>if rs i=[] then .nils else Tf (rs i):=List.map_congr_left fun i hi=>hc i (List.mem_range.1 hi)
 rw [e];constructor
 ·rw [List.all_map,List.all_eq_true];intro i _;simp only [Function.comp_apply];split
  ·simp [AV.cells,AV.pure]
  ·simp [Tf,AV.cells,AV.pure]
 ·rw [List.map_map];refine List.map_congr_left fun i _=> ?_
  simp only [Function.comp_apply];split
  ·rename_i h;rw [h];simp [Tf,AV.nrm]
  ·simp [Tf,AV.nrm]
attribute [local irreducible] R3 Ea Wb
set_option maxHeartbeats 8000000 in
theorem Y9 (a:Aut) (ha:OkA a):PC Tryz.prog 81 [encA a] (fun r=>r=E4 a):=by
 refine Qm tOk Tryz.func81 rfl Tryz.results81 rfl (by simp [Tryz.ntmps81]) ?_
 rw [Tryz.ntmps81];simp only [Qf];simp only [encA]
 have y4:=ha.fin
 have yf:=ha.mvs
 repeat first|((first|refine ra ?_|refine rb ?_|refine rh ?_);simp)|refine qf ?_|refine qg ?_
 refine Us (P:=Tryz.prog) tOk mixed [7] (.val 0 (.val 1 (.val 2 (.val 3 (.two 4 (.val 5 (.one 6 (.one 7 (.done)))) 6 (.one 4 (.val 5 (.one 7 (.done))))))))) (fun S'=>∃o c:Nat,o≠c∧2≤o∧2≤c∧S'.hp[0]? =some (.vars (Q4 a))∧S'.hp[1]? =some (.vars [.i 0,.nils,.nils,.nils])∧S'.hp[o]? =some (.arr 23 1 (List.replicate a.fin.length .nils))∧S'.hp[c]? =some (.vars [.i a.types,.list (a.fin.map .bool),.list (a.mv.map encMv),.sl o 1 0 a.fin.length])∧look S'.sl 1=some (.vptr 0 0)∧look S'.sl 2=some (.vptr 1 0)∧look S'.sl 3=some (.vptr c 0)) rfl (by kernel_rfl) ?_ ?_
 ·simp
  repeat' (first
   |refine And.intro ?_ ?_
   |(refine Wx tOk rfl rfl rfl q2s rfl T23 rfl rfl rfl (n:=a.fin.length) (by simp;omega) (by unfold maxLen;omega) .nils rfl ?_;simp))
  ·exact ⟨2,3,by simp [Q4]⟩
  ·exact ⟨3,2,by simp [Q4]⟩
 rintro ⟨sl,H⟩ ⟨o,c,zq,y5,yg,h0,h1,ho,hc,s1,s2,s3⟩
 simp only at h0 h1 ho hc s1 s2 s3
 simp
 refine Q0 (sl':=[(1,.vptr 0 0),(2,.vptr 1 0),(3,.vptr c 0)]) ?_ (by simp [s1,s2,s3])
 refine Dm o ho ?_;refine Wh fun Z hZ=> ?_
 have z0:Z[0]? =some (.vars (Q4 a)):=by rw [hZ,List.getElem?_set_ne (by omega)];exact h0
 have zc:Z[c]? =some (.vars [.i a.types,.list (a.fin.map .bool),.list (a.mv.map encMv),.sl o 1 0 a.fin.length]):=by rw [hZ,List.getElem?_set_ne zq];exact hc
 have zM:MR [.vars (Q4 a),.vars [.i 0,.nils,.nils,.nils]] a.fin.length o (R3 a 0) (fun _=>0) Z:=by
  refine ⟨?_,fun k _ hn=>absurd (Yn a k) hn,fun k _ _ _ hn=>absurd (Yn a k) hn,fun k _ hn=>absurd (Yn a k) hn,by simpa using y5,fun k _ hn=>absurd (Yn a k) hn,fun j hj=> ?_⟩
  ·rw [hZ,List.getElem?_set_self (Qg ho)]
   congr 2
   rw [eq_comm,List.eq_replicate_iff];refine ⟨U0 _ _ _,fun x hx=> ?_⟩
   obtain ⟨k,_,rfl⟩:=List.mem_map.1 hx
   simp [A4,Yn]
  ·simp only [List.length_cons,List.length_nil] at hj;rw [hZ,List.getElem?_set_ne (by omega)]
   rcases j with _|_|j
   ·exact h0
   ·exact h1
   ·omega
 clear hZ h0 h1 ho hc;clear H
 repeat first|((first|refine ra ?_|refine rb ?_|refine rh ?_);simp [z0])|refine qf ?_|refine qg ?_
 refine Qq (Qc (sl':=[(1,.vptr 0 0),(2,.vptr 1 0),(3,.vptr c 0),(15,.list (a.mv.map encMv)),(16,.i a.mv.length),(17,.i (0:Nat))]) ?_ (by simp))
 refine Qp (F:=fun (u:Nat×(Nat→Nat)×List AObj)=>⟨[(1,.vptr 0 0),(2,.vptr 1 0),(3,.vptr c 0),(15,.list (a.mv.map encMv)),(16,.i a.mv.length),(17,.i u.1)],u.2.2⟩)
  (fun u=>u.1≤a.mv.length∧u.2.2[c]? =some (.vars [.i a.types,.list (a.fin.map .bool),.list (a.mv.map encMv),.sl o 1 0 a.fin.length])∧MR [.vars (Q4 a),.vars [.i 0,.nils,.nils,.nils]] a.fin.length o (R3 a u.1) u.2.1 u.2.2) (fun u=>a.mv.length - u.1) ?_ (0,fun _=>0,Z) ⟨Nat.zero_le _,zc,zM⟩
 clear z0 zc zM;clear Z
 rintro ⟨j,L,G⟩ ⟨hj,gc,gM⟩ ih
 simp only at hj gc gM ih ⊢
 repeat first|((first|refine ra ?_|refine rb ?_|refine rh ?_);simp)|refine qf ?_|refine qg ?_
 refine Qb rfl (fun y6=> ?_) (fun y7=> ?_)
 ·have zd:j<a.mv.length:=by simpa using y6
  have hw:IntKind.i64.wrap ((j:Int)+1)=j+1:=wrap_i64 _ (by omega) (by omega)
  have y0:=y0e a zd
  have y8:=f0d a j
  have zr:=ha.mv _ (List.getElem_mem zd)
  have zt:=Xx ha (List.getElem_mem zd)
  have zo:=fun L' G'=>ih (j+1,L',G')
  simp only at zo
  repeat first|((first|refine ra ?_|refine rb ?_|refine rh ?_);simp [zd])|refine qf ?_|refine qg ?_
  generalize a.mv[j]=m at *;refine Qe rfl rfl (by simp) (Pk a.types.toNat m.on m.on zr.on.wf zr.on.wf (fun s hs=>by have:=zt s hs;omega) (fun s hs=>by have:=zt s hs;omega) (by have:=ha.types;omega)) rfl ?_
  rintro _ rfl
  simp
  rw [Bf zr.on.wf]
  cases hv:Wp m.on with
  |true=>
   have ze:R3 a (j+1)=R3 a j:=funext fun k=>by rw [y0 k,hv];simp
   rw [ze] at zo
   simp [C8,encSy]
   repeat first|((first|refine ra ?_|refine rb ?_|refine rh ?_);simp)|refine qf ?_|refine qg ?_
   refine Qj rfl ?_
   repeat first|((first|refine ra ?_|refine rb ?_|refine rh ?_);simp [hw])|refine qf ?_|refine qg ?_
   refine Qc (sl':=[(1,.vptr 0 0),(2,.vptr 1 0),(3,.vptr c 0),(15,.list (a.mv.map encMv)),(16,.i a.mv.length),(17,.i (j+1:Nat))]) ?_ (by simp)
   exact zo L _ ⟨by omega,Qa gc _,gM.grow _⟩ (by omega)
  |false=>
   obtain ⟨k,hk⟩:∃k:Nat,m.src=k:=⟨m.src.toNat,by have:=zr.src.1;omega⟩
   have z7:k<a.fin.length:=by have:=zr.src.2;omega
   have ze:R3 a (j+1)=fun k'=>if k'=k then R3 a j k++[m] else R3 a j k':=funext fun k'=>by
    rw [y0 k',hv]
    by_cases e:k'=k
    ·subst e;simp [hk]
    ·have:¬m.src=(k':Int):=by omega
     simp [e,this]
   rw [ze] at zo
   simp [C8,encSy]
   repeat first|((first|refine ra ?_|refine rb ?_|refine rh ?_);simp)|refine qf ?_|refine qg ?_
   refine Qj rfl ?_;refine Wh fun Z hZ=> ?_
   have zc:Z[c]? =some (.vars [.i a.types,.list (a.fin.map .bool),.list (a.mv.map encMv),.sl o 1 0 a.fin.length]):=by rw [hZ];exact Qa gc _
   have zM:MR [.vars (Q4 a),.vars [.i 0,.nils,.nils,.nils]] a.fin.length o (R3 a j) L Z:=by rw [hZ];exact gM.grow _
   have zm:Z[G.length]? =some (.vars [.i m.src,.i m.dst,.list (m.on.map encL)]):=by rw [hZ,List.getElem?_append_right (by simp)];simp
   clear hZ gc gM y0 ze;generalize G.length=g at *;clear G
   have z6:=Fy L (R3 a j) z7
   have zj:=U0 a.fin.length L (R3 a j)
   have z8:=zM.out
   have zu:=zM.leaf k z7
   rw [hk] at zm
   have zb:∀M,(Z++M)[c]? =some (.vars [.i a.types,.list (a.fin.map .bool),.list (a.mv.map encMv),.sl o 1 0 a.fin.length]):=fun M=>Qa zc M
   have outA:∀M,(Z++M)[o]? =some (.va 23 1 (Gb a.fin.length L (R3 a j))):=fun M=>Qa z8 M
   have zf:∀M,(Z++M)[g]? =some (.vars [.i k,.i m.dst,.list (m.on.map encL)]):=fun M=>Qa zm M
   have zk:∀M hh,(Z++M)[c]'hh= .vars [.i a.types,.list (a.fin.map .bool),.list (a.mv.map encMv),.sl o 1 0 a.fin.length]:=fun M hh=>(List.getElem_eq_iff hh).2 (zb M)
   have outH:∀M hh,(Z++M)[o]'hh= .va 23 1 (Gb a.fin.length L (R3 a j)):=fun M hh=>(List.getElem_eq_iff hh).2 (outA M)
   have zl:∀M hh,(Z++M)[g]'hh= .vars [.i k,.i m.dst,.list (m.on.map encL)]:=fun M hh=>(List.getElem_eq_iff hh).2 (zf M)
   repeat first|((first|refine ra ?_|refine rb ?_|refine rh ?_);simp)|refine qf ?_|refine qg ?_
   generalize zv:Gb a.fin.length L (R3 a j)=RC at *
   have yh:=y8 k
   generalize zh:R3 a j k=rs at *
   by_cases hr0:rs=[]
   ·rw [A4,if_pos hr0] at z6
    have zi:∀hh,RC[k]'hh= .nils:=fun hh=>by rw [List.getElem?_eq_getElem hh] at z6;exact Option.some.inj z6
    refine Us (P:=Tryz.prog) tOk mixed [12,14] (.val 0 (.val 2 (.val 4 (.val 5 (.val 6 (.val 7 (.val 8 (.val 9 (.val 10 (.three 1 (.two 3 (.one 11 (.one 12 (.val 13 (.one 14 (.done))))) 11 (.two 3 (.one 12 (.val 13 (.one 14 (.done)))) 12 (.val 3 (.val 13 (.one 14 (.done)))))) 3 (.two 1 (.one 11 (.one 12 (.val 13 (.one 14 (.done))))) 11 (.two 1 (.one 12 (.val 13 (.one 14 (.done)))) 12 (.val 1 (.val 13 (.one 14 (.done)))))) 11 (.three 1 (.two 3 (.one 12 (.val 13 (.one 14 (.done)))) 12 (.val 3 (.val 13 (.one 14 (.done))))) 3 (.two 1 (.one 12 (.val 13 (.one 14 (.done)))) 12 (.val 1 (.val 13 (.one 14 (.done))))) 12 (.val 1 (.val 3 (.val 13 (.one 14 (.done)))))))))))))))) (fun S'=>S'.hp=(Z++[AObj.arr 78 3 [.agg [.i k,.i m.dst,.list (m.on.map encL)]],AObj.arr 78 3 [.agg [.i k,.i m.dst,.list (m.on.map encL)]]]).set o (.va 23 1 (RC.set k (.sl (Z.length+1) 3 0 1)))∧look S'.sl 1=some (.vptr 0 0)∧look S'.sl 2=some (.vptr 1 0)∧look S'.sl 3=some (.vptr c 0)∧look S'.sl 15=some (.list (a.mv.map encMv))∧look S'.sl 16=some (.i a.mv.length)∧look S'.sl 17=some (.i j)) rfl (by kernel_rfl) ?_ ?_
    ·simp [zc,z8,zm,z6,zi,z7,zj,zb,outA,zf,zk,outH,zl]
     repeat' (first
      |refine And.intro ?_ ?_
      |(refine Qh tOk rfl rfl T23 rfl T78 rfl (by decide) (by decide) rfl rfl rfl ?_;simp [zb,outA,zf,zk,outH,zl,z6,zi,z7,zj];refine ⟨by simp [W2]<;>omega,?_⟩;simp [zb,outA,zf,zk,outH,zl,z6,zi,z7,zj]))
    ·rintro ⟨sl,E⟩ ⟨rfl,s1,s2,s3,s15,s16,s17⟩
     simp only at s1 s2 s3 s15 s16 s17
     simp
     refine Q0 (sl':=[(1,.vptr 0 0),(2,.vptr 1 0),(3,.vptr c 0),(15,.list (a.mv.map encMv)),(16,.i a.mv.length),(17,.i j)]) ?_ (by simp [s1,s2,s3,s15,s16,s17])
     repeat first|((first|refine ra ?_|refine rb ?_|refine rh ?_);simp [hw])|refine qf ?_|refine qg ?_
     refine Qc (sl':=[(1,.vptr 0 0),(2,.vptr 1 0),(3,.vptr c 0),(15,.list (a.mv.map encMv)),(16,.i a.mv.length),(17,.i (j+1:Nat))]) ?_ (by simp)
     have zx:=Qg z8
     have za:=zM.put z7 (m:=m) (np:=Z.length+1) (H':=(Z++[AObj.arr 78 3 [.agg [.i k,.i m.dst,.list (m.on.map encL)]],AObj.arr 78 3 [.agg [.i k,.i m.dst,.list (m.on.map encL)]]]).set o (.va 23 1 (RC.set k (.sl (Z.length+1) 3 0 1)))) (by omega)
      (by rw [List.getElem?_set_self (by simp;omega),zv,zh,hr0];rfl) (by rw [List.getElem?_set_ne (by omega),List.getElem?_append_right (by omega),zh,hr0];simp [hk]) (fun jj h1 h2 _=>by rw [List.getElem?_set_ne (Ne.symm h2),List.getElem?_append_left h1])
     rw [zh] at za;exact zo _ _ ⟨by omega,by rw [List.getElem?_set_ne zq];exact zb _,za⟩ (by omega)
   ·rw [A4,if_neg hr0] at z6
    have zi:∀hh,RC[k]'hh= .sl (L k) 3 0 rs.length:=fun hh=>by rw [List.getElem?_eq_getElem hh] at z6;exact Option.some.inj z6
    have zp:=zu hr0
    have hlo:=zM.ne k z7 (by rw [zh];exact hr0)
    have y9:L k≠c:=fun e=>by rw [e,zc] at zp;simp at zp
    have ya:L k≠g:=fun e=>by rw [e,zm] at zp;simp at zp
    have yi:=Qg zp
    have zg:∀M,(Z++M)[L k]? =some (.arr 78 3 (rs.map encMv)):=fun M=>Qa zp M
    have zn:∀M hh,(Z++M)[L k]'hh= .arr 78 3 (rs.map encMv):=fun M hh=>(List.getElem_eq_iff hh).2 (zg M)
    generalize yb:L k=p at *
    have outS:∀M M',((Z++M).set p .dead++M')[o]? =some (.va 23 1 RC):=fun M M'=>Qa (Qd hlo (outA M) _) M'
    have outSH:∀M M' hh,((Z++M).set p .dead++M')[o]'hh= .va 23 1 RC:=fun M M' hh=>(List.getElem_eq_iff hh).2 (outS M M')
    have zw:∀M M',((Z++M).set p .dead++M')[c]? =some (.vars [.i a.types,.list (a.fin.map .bool),.list (a.mv.map encMv),.sl o 1 0 a.fin.length]):=fun M M'=>Qa (Qd y9 (zb M) _) M'
    have zcSH:∀M M' hh,((Z++M).set p .dead++M')[c]'hh= .vars [.i a.types,.list (a.fin.map .bool),.list (a.mv.map encMv),.sl o 1 0 a.fin.length]:=fun M M' hh=>(List.getElem_eq_iff hh).2 (zw M M')
    have zy:∀M M',((Z++M).set p .dead++M')[g]? =some (.vars [.i k,.i m.dst,.list (m.on.map encL)]):=fun M M'=>Qa (Qd ya (zf M) _) M'
    have zmSH:∀M M' hh,((Z++M).set p .dead++M')[g]'hh= .vars [.i k,.i m.dst,.list (m.on.map encL)]:=fun M M' hh=>(List.getElem_eq_iff hh).2 (zy M M')
    refine Us (P:=Tryz.prog) tOk mixed [12,14] (.val 0 (.val 2 (.val 4 (.val 5 (.val 6 (.val 7 (.val 8 (.val 9 (.val 10 (.three 1 (.two 3 (.one 11 (.one 12 (.val 13 (.one 14 (.done))))) 11 (.two 3 (.one 12 (.val 13 (.one 14 (.done)))) 12 (.val 3 (.val 13 (.one 14 (.done)))))) 3 (.two 1 (.one 11 (.one 12 (.val 13 (.one 14 (.done))))) 11 (.two 1 (.one 12 (.val 13 (.one 14 (.done)))) 12 (.val 1 (.val 13 (.one 14 (.done)))))) 11 (.three 1 (.two 3 (.one 12 (.val 13 (.one 14 (.done)))) 12 (.val 3 (.val 13 (.one 14 (.done))))) 3 (.two 1 (.one 12 (.val 13 (.one 14 (.done)))) 12 (.val 1 (.val 13 (.one 14 (.done))))) 12 (.val 1 (.val 3 (.val 13 (.one 14 (.done)))))))))))))))) (fun S'=>S'.hp=((Z++[AObj.arr 78 3 [.agg [.i k,.i m.dst,.list (m.on.map encL)]]]).set p .dead++[AObj.arr 78 3 (rs.map encMv++[.agg [.i k,.i m.dst,.list (m.on.map encL)]])]).set o (.va 23 1 (RC.set k (.sl (Z.length+1) 3 0 (rs.length+1))))∧look S'.sl 1=some (.vptr 0 0)∧look S'.sl 2=some (.vptr 1 0)∧look S'.sl 3=some (.vptr c 0)∧look S'.sl 15=some (.list (a.mv.map encMv))∧look S'.sl 16=some (.i a.mv.length)∧look S'.sl 17=some (.i j)) rfl (by kernel_rfl) ?_ ?_
    ·simp [zc,z8,zm,z6,zi,z7,zj,zb,outA,zf,zk,outH,zl,zg,zn]
     repeat' (first
      |refine And.intro ?_ ?_
      |(refine Qh tOk rfl rfl T23 rfl T78 rfl (by decide) (by decide) rfl rfl rfl ?_;simp [zb,outA,zf,zk,outH,zl,z6,zi,z7,zj,zg,zn,outS,outSH,zw,zcSH,zy,zmSH];refine ⟨by simp [W2]<;>omega,?_⟩;simp [zb,outA,zf,zk,outH,zl,z6,zi,z7,zj,outS,outSH,zw,zcSH,zy,zmSH])
      |(refine Qh tOk rfl rfl T23 rfl T78 rfl (by decide) (by decide) rfl rfl rfl ?_;simp [zb,outA,zf,zk,outH,zl,z6,zi,z7,zj,zg,zn,outS,outSH,zw,zcSH,zy,zmSH];simp [W2]<;>omega)
      |omega)
    ·rintro ⟨sl,E⟩ ⟨rfl,s1,s2,s3,s15,s16,s17⟩
     simp only at s1 s2 s3 s15 s16 s17
     simp
     refine Q0 (sl':=[(1,.vptr 0 0),(2,.vptr 1 0),(3,.vptr c 0),(15,.list (a.mv.map encMv)),(16,.i a.mv.length),(17,.i j)]) ?_ (by simp [s1,s2,s3,s15,s16,s17])
     repeat first|((first|refine ra ?_|refine rb ?_|refine rh ?_);simp [hw])|refine qf ?_|refine qg ?_
     refine Qc (sl':=[(1,.vptr 0 0),(2,.vptr 1 0),(3,.vptr c 0),(15,.list (a.mv.map encMv)),(16,.i a.mv.length),(17,.i (j+1:Nat))]) ?_ (by simp)
     have zx:=Qg z8
     have za:=zM.put z7 (m:=m) (np:=Z.length+1) (H':=((Z++[AObj.arr 78 3 [.agg [.i k,.i m.dst,.list (m.on.map encL)]]]).set p .dead++[AObj.arr 78 3 (rs.map encMv++[.agg [.i k,.i m.dst,.list (m.on.map encL)]])]).set o (.va 23 1 (RC.set k (.sl (Z.length+1) 3 0 (rs.length+1))))) (by omega)
      (by rw [List.getElem?_set_self (by simp;omega),zv,zh]) (by rw [List.getElem?_set_ne (by omega),List.getElem?_append_right (by simp),zh];simp [hk]) (fun jj h1 h2 h3=>by
       have h4:p≠jj:=fun e=>h3 (by rw [zh];exact hr0) (by rw [yb];exact e.symm)
       rw [List.getElem?_set_ne (Ne.symm h2),List.getElem?_append_left (by simp;omega),List.getElem?_set_ne h4,List.getElem?_append_left h1])
     rw [zh] at za;exact zo _ _ ⟨by omega,by rw [List.getElem?_set_ne zq];exact zw _ _,za⟩ (by omega)
 ·have y1:j=a.mv.length:=by simp at y7;omega
  subst y1;refine Q0 (sl':=[(1,.vptr 0 0),(2,.vptr 1 0),(3,.vptr c 0)]) ?_ (by simp)
  refine MR.freeze (n:=a.fin.length) (o:=o) gM.inj gM.ne (fun k hk hn=>by simp [AV.fz]) a.fin.length 0 G (by omega) (by rw [v0a];exact gM.out) (fun k _ hk hn=>gM.leaf k hk hn) fun H' y2 zz=> ?_
  obtain ⟨yc,yd⟩:=y1i a.fin.length L (R3 a a.mv.length)
  have y3:H'[c]? =some (.vars [.i a.types,.list (a.fin.map .bool),.list (a.mv.map encMv),.sl o 1 0 a.fin.length]):=by
   rw [zz c (Qg gc) (Ne.symm zq) (fun i _ hi hr e=>by have:=gM.leaf i hi hr;rw [←e,gc] at this;simp at this)];exact gc
  have yj:H'[0]? =some (.vars (Q4 a)):=by
   rw [zz 0 (by have:=Qg gM.out;omega) (by omega) (fun i _ hi hr e=>by have:=gM.geL i hi hr;simp at this;omega)];exact gM.keep 0 (by simp)
  have ye:H'[1]? =some (.vars [.i 0,.nils,.nils,.nils]):=by
   rw [zz 1 (by have:=Qg gM.out;omega) (by omega) (fun i _ hi hr e=>by have:=gM.geL i hi hr;simp at this;omega)];exact gM.keep 1 (by simp)
  have zx:=Qg y2
  clear zz ih gM gc;refine Uy o y2 yc ?_;refine z0s o (List.getElem?_set_self zx) ?_;rw [yd,List.set_set];refine Wc o (List.getElem?_set_self zx) c (by rw [List.getElem?_set_ne zq];exact y3) ?_
  refine Wh fun Z hZ=> ?_
  have zc:Z[c]? =some (.vars (Q6 a)):=by
   rw [hZ,List.getElem?_set_self (by simpa using Qg y3)]
   simp [AV.fz,Q6,Tp,y0v]
   rw [List.take_of_length_le (by simp)]
  have z1:Z[1]? =some (.vars [.i 0,.nils,.nils,.nils]):=by
   rw [hZ,List.getElem?_set_ne (by omega),List.getElem?_set_ne (by omega),List.getElem?_set_ne (by omega)];exact ye
  clear hZ
  simp [AV.fz]
  unfold E4 Q6;unfold Q6 at zc
  repeat first|((first|refine ra ?_|refine rb ?_|refine rh ?_);simp [zc,z1,Qi z1])|refine qf ?_|refine qg ?_
end Go.Abs
namespace Go.Abs
open Go Go.Proofs Go.Maps Go.RowKit
abbrev Stp:=Sy×(Int×Int)
def y1y (e:Stp):AV:= .agg [.i e.1.ty,.i e.1.num,.i e.2.1,.i e.2.2]
theorem Nc (a b:Aut) (p q:Int):PC Tryz.prog 105 [E4 a,E4 b,.i p,.i q] (fun r=>r= .fn (.func 164) [] [.iptr (Q6 a),.iptr [.i p],.iptr (Q6 b),.iptr [.i q]]):=by
 refine Qm tOk Tryz.func105 rfl Tryz.results105 rfl (by simp [Tryz.ntmps105]) ?_
 rw [Tryz.ntmps105];simp only [Qf];simp only [E4,Q6]
 repeat first|((first|refine ra ?_|refine rb ?_|refine rh ?_);simp)|refine qf ?_|refine qg ?_
def L0 (b:Aut) (q:Int) (m:Mv) (j:Nat):List Stp:=((Wb b q).take j).filterMap fun n=>(Ea m.on n.on).map fun x=>(x,(m.dst,n.dst))
def U2 (a b:Aut) (s:Int×Int) (i:Nat):List Stp:=((Wb a s.1).take i).flatMap fun m=>L0 b s.2 m (Wb b s.2).length
theorem Z6 (a b:Aut) (s:Int×Int):U2 a b s (Wb a s.1).length=Wi a b s:=by
 rw [q1e,U2,List.take_length];unfold L0;rw [List.take_length]
theorem z0u (a b:Aut) (s:Int×Int):U2 a b s 0=[]:=by simp [U2]
theorem g0p (b:Aut) (q:Int) (m:Mv):L0 b q m 0=[]:=by simp [L0]
theorem q0y (a b:Aut) (s:Int×Int) {i:Nat} (h:i<(Wb a s.1).length):U2 a b s (i+1)=U2 a b s i++L0 b s.2 (Wb a s.1)[i] (Wb b s.2).length:=by
 unfold U2;rw [List.take_succ_eq_append_getElem h,List.flatMap_append];simp
theorem x0a (b:Aut) (q:Int) (m:Mv) {j:Nat} (h:j<(Wb b q).length):L0 b q m (j+1)=L0 b q m j++(match Ea m.on (Wb b q)[j].on with|some x=>[(x,(m.dst,(Wb b q)[j].dst))]|none=>[]):=by
 unfold L0;rw [List.take_succ_eq_append_getElem h,List.filterMap_append]
 congr 1
 cases hx:Ea m.on (Wb b q)[j].on<;>simp [hx]
theorem w1l (b:Aut) (q:Int) (m:Mv) (j:Nat):∃r,L0 b q m (Wb b q).length=L0 b q m j++r:=by
 refine ⟨((Wb b q).drop j).filterMap fun n=>(Ea m.on n.on).map fun x=>(x,(m.dst,n.dst)),?_⟩
 unfold L0;rw [←List.filterMap_append,List.take_append_drop,List.take_length]
theorem f0n (a b:Aut) (s:Int×Int) (i:Nat):∃r,Wi a b s=U2 a b s i++r:=by
 refine ⟨((Wb a s.1).drop i).flatMap fun m=>L0 b s.2 m (Wb b s.2).length,?_⟩
 rw [←Z6];unfold U2;rw [←List.flatMap_append,List.take_append_drop,List.take_length]
theorem Ks {a:Aut} {s:Int} (h:inS a s):(Tp a)[s.toNat]? =some (Tf (Wb a s)):=by
 have:=Yp h
 unfold Tp;rw [List.getElem?_map,List.getElem?_range this.1]
 simp [this.2]
theorem Ba {a:Aut} (ha:OkA a) {s:Int} {m:Mv} (hm:m∈Wb a s):PWf a.types.toNat m.on∧∀t∈m.on,t.length≤256:=by
 have:=(Ey.1 hm).1
 exact ⟨ha.wfA.on m this,Xx ha this⟩
theorem Dl (a:Aut) (s:Int):(Wb a s).length≤a.mv.length:=List.length_filter_le _ _
attribute [local irreducible] Wb Ea L0 U2 Tp Wi
set_option maxHeartbeats 8000000 in
theorem Ze (a b:Aut) (ha:OkA a) (hb:OkA b) (ht:b.types=a.types) (p q:Int) (hp:inS a p) (hq:inS b q) (l:Nat) {z8:Nat} {sl':List (Nat×AV)} {ps:List Tmp} {asg body:Code} (y4:ps.length=1) (y5:(ps.all fun p=>decide (p<z8))=true)
  (Inv:List Stp→List AObj→Prop) (Done:Code→List AObj→Prop) (H0:List AObj)
  (hI:∀k H,Inv k H→H[l]? =some (.lp true none z8 sl' ps asg body))
  (z7:∀k H L,Inv k H→Inv k (H++L))
  (zb:∀pre e post H,Wi a b (p,q)=pre++e::post→Inv pre H→H0.length≤H.length→AWP Tryz.prog z8 H.length asg (Ap (AWP Tryz.prog z8 H.length body (v0w l (fun jm K2=>(jm=none∧Inv (pre++[e]) (K2.set l (.lp true none z8 sl' ps asg body))∧∀i cs,H0.length≤i→H[i]? =some (.vars cs)→(K2.set l (.lp true none z8 sl' ps asg body))[i]? =some (.vars cs))∨∃c,jm=some c∧Done c (K2.set l (.lp false (some c) z8 sl' ps asg body))))) (fun _ _=>False)) ⟨Tj sl' ps [y1y e],H.set l .dead⟩)
  (h0:Inv [] H0):FC Tryz.prog 164 [.yld l,.iptr (Q6 a),.iptr [.i p],.iptr (Q6 b),.iptr [.i q]] H0 (fun _ H'=>Inv (Wi a b (p,q)) H'∨∃c,Done c H'):=by
 refine Wt tOk Tryz.func164 rfl Tryz.results164 rfl (by simp [Tryz.ntmps164]) ?_
 rw [Tryz.ntmps164];simp only [Qf]
 have zk:=Ks hp
 have zl:=Ks hq
 have yv:=Yp hp
 have yw:=Yp hq
 have y6:=Dl a p
 have y7:=Dl b q
 have yx:=ha.mvs
 have yy:=hb.mvs
 have y8:=hp.1
 have y9:=hq.1
 have ya:(Tp a).length=a.fin.length:=by unfold Tp;simp
 have yb:(Tp b).length=b.fin.length:=by unfold Tp;simp
 have yc:=hp.2
 have yd:=hq.2
 simp only [Q6,Tf] at zk zl ⊢
 have zn:∀hh,(Tp a)[p.toNat]'hh= .list ((Wb a p).map encMv):=fun hh=>by rw [List.getElem?_eq_getElem hh] at zk;exact Option.some.inj zk
 have zo:∀hh,(Tp b)[q.toNat]'hh= .list ((Wb b q).map encMv):=fun hh=>by rw [List.getElem?_eq_getElem hh] at zl;exact Option.some.inj zl
 repeat first|((first|refine ra ?_|refine rb ?_|refine rh ?_);simp [zk,zn,y8,yc,ya])|refine qf ?_|refine qg ?_
 have ye:(b.types).toNat=a.types.toNat:=by rw [ht]
 refine Qq (Qc (sl':=[(0,.yld l),(1,.iptr [.i a.types,.list (a.fin.map .bool),.list (a.mv.map encMv),.list (Tp a)]),(2,.iptr [.i p]),(3,.iptr [.i b.types,.list (b.fin.map .bool),.list (b.mv.map encMv),.list (Tp b)]),(4,.iptr [.i q]),(16,.list ((Wb a p).map encMv)),(17,.i (Wb a p).length),(18,.i (0:Nat))]) ?_ (by simp))
 have zp:U2 a b (p,q) (Wb a p).length=Wi a b (p,q):=Z6 a b (p,q)
 have zg:=fun i h=>q0y a b (p,q) (i:=i) h
 have zc:=fun m j h=>x0a b q m (j:=j) h
 have zh:=fun m j=>w1l b q m j
 have zi:=fun i=>f0n a b (p,q) i
 have hz:U2 a b (p,q) 0=[]:=z0u a b (p,q)
 have yf:∀m,L0 b q m 0=[]:=fun m=>g0p b q m
 refine Qp (F:=fun (u:Nat×List AObj)=>⟨[(0,.yld l),(1,.iptr [.i a.types,.list (a.fin.map .bool),.list (a.mv.map encMv),.list (Tp a)]),(2,.iptr [.i p]),(3,.iptr [.i b.types,.list (b.fin.map .bool),.list (b.mv.map encMv),.list (Tp b)]),(4,.iptr [.i q]),(16,.list ((Wb a p).map encMv)),(17,.i (Wb a p).length),(18,.i u.1)],u.2⟩)
  (fun u=>u.1≤(Wb a p).length∧Inv (U2 a b (p,q) u.1) u.2∧H0.length≤u.2.length) (fun u=>(Wb a p).length - u.1) ?_ (0,H0) ⟨by simp,by rw [hz];exact h0,Nat.le_refl _⟩
 rintro ⟨i,H⟩ ⟨hi,hv,zw⟩ ih
 simp only at hi hv zw ih ⊢
 repeat first|((first|refine ra ?_|refine rb ?_|refine rh ?_);simp)|refine qf ?_|refine qg ?_
 refine Qb rfl (fun yg=> ?_) (fun yh=> ?_)
 ·have za:i<(Wb a p).length:=by simpa using yg
  have hw:IntKind.i64.wrap ((i:Int)+1)=i+1:=wrap_i64 _ (by omega) (by omega)
  have zy:=zg i za
  obtain ⟨yi,yj⟩:=Ba ha (List.getElem_mem za)
  have yk:∃r,Wi a b (p,q)=(U2 a b (p,q) i++L0 b q (Wb a p)[i] (Wb b q).length)++r:=by
   obtain ⟨r,hr⟩:=zi (i+1)
   exact ⟨r,by rw [hr,zy]⟩
  have zd:((Wb a p).map encMv)[i]? =some (encMv (Wb a p)[i]):=by simp [za]
  have ze:∀hh,((Wb a p).map encMv)[i]'hh=encMv (Wb a p)[i]:=fun hh=>by simp
  have zz:=fun H'=>ih (i+1,H')
  simp only [zy] at zz;generalize (Wb a p)[i]=m at *
  have yl:=zc m
  have ym:=zh m
  have yn:=yf m
  simp only [encMv] at zd ze
  have zq:=z7 _ H [.vars [.i m.src,.i m.dst,.list (m.on.map encL)]] hv
  repeat first|((first|refine ra ?_|refine rb ?_|refine rh ?_);simp [zl,zo,y9,yd,yb,zd,ze,za])|refine qf ?_|refine qg ?_
  refine Wh fun Z hZ=> ?_
  have zx:Z[H.length]? =some (.vars [.i m.src,.i m.dst,.list (m.on.map encL)]):=by rw [hZ,List.getElem?_append_right (by simp)];simp
  rw [←hZ] at zq;clear hZ hv zd ze;generalize H.length=x at *;clear H;refine Qq (Qc (sl':=[(0,.yld l),(1,.iptr [.i a.types,.list (a.fin.map .bool),.list (a.mv.map encMv),.list (Tp a)]),(2,.iptr [.i p]),(3,.iptr [.i b.types,.list (b.fin.map .bool),.list (b.mv.map encMv),.list (Tp b)]),(4,.iptr [.i q]),(7,.vptr x 0),(16,.list ((Wb a p).map encMv)),(17,.i (Wb a p).length),(18,.i i),(26,.list ((Wb b q).map encMv)),(27,.i (Wb b q).length),(28,.i (0:Nat))]) ?_ (by simp))
  refine Qp (F:=fun (u:Nat×List AObj)=>⟨[(0,.yld l),(1,.iptr [.i a.types,.list (a.fin.map .bool),.list (a.mv.map encMv),.list (Tp a)]),(2,.iptr [.i p]),(3,.iptr [.i b.types,.list (b.fin.map .bool),.list (b.mv.map encMv),.list (Tp b)]),(4,.iptr [.i q]),(7,.vptr x 0),(16,.list ((Wb a p).map encMv)),(17,.i (Wb a p).length),(18,.i i),(26,.list ((Wb b q).map encMv)),(27,.i (Wb b q).length),(28,.i u.1)],u.2⟩)
   (fun u=>u.1≤(Wb b q).length∧Inv (U2 a b (p,q) i++L0 b q m u.1) u.2∧u.2[x]? =some (.vars [.i m.src,.i m.dst,.list (m.on.map encL)])) (fun u=>(Wb b q).length - u.1) ?_ (0,Z) ⟨by simp,by rw [yn,List.append_nil];exact zq,zx⟩
  clear zx zq;clear Z
  rintro ⟨j,G⟩ ⟨hj,gv,gx⟩ ih2
  simp only at hj gv gx ih2 ⊢
  repeat first|((first|refine ra ?_|refine rb ?_|refine rh ?_);simp)|refine qf ?_|refine qg ?_
  refine Qb rfl (fun zr=> ?_) (fun zt=> ?_)
  ·have z1:j<(Wb b q).length:=by simpa using zr
   have y0:IntKind.i64.wrap ((j:Int)+1)=j+1:=wrap_i64 _ (by omega) (by omega)
   have y1:=yl j z1
   obtain ⟨yo,yp⟩:=Ba hb (List.getElem_mem z1)
   obtain ⟨r1,zm⟩:=ym (j+1)
   obtain ⟨r2,yq⟩:=yk
   have zd:((Wb b q).map encMv)[j]? =some (encMv (Wb b q)[j]):=by simp [z1]
   have ze:∀hh,((Wb b q).map encMv)[j]'hh=encMv (Wb b q)[j]:=fun hh=>by simp
   have z6:=fun H'=>ih2 (j+1,H')
   rw [y1] at zm;simp only [y1] at z6;generalize (Wb b q)[j]=n at *;simp only [encMv] at zd ze
   have zf:∀M,(G++M)[x]? =some (.vars [.i m.src,.i m.dst,.list (m.on.map encL)]):=fun M=>Qa gx M
   have zu:∀M hh,(G++M)[x]'hh= .vars [.i m.src,.i m.dst,.list (m.on.map encL)]:=fun M hh=>(List.getElem_eq_iff hh).2 (zf M)
   repeat first|((first|refine ra ?_|refine rb ?_|refine rh ?_);simp [zd,ze,z1,zf,zu])|refine qf ?_|refine qg ?_
   refine Qe rfl rfl (by simp) (Pk a.types.toNat m.on n.on yi (by rw [←ye];exact yo) (fun s hs=>by have:=yj s hs;omega) (fun s hs=>by have:=yp s hs;omega) (by have:=ha.types;omega)) rfl ?_
   rintro _ rfl
   simp
   cases hx:Ea m.on n.on with
   |none=>
    rw [hx] at zm z6;simp only [List.append_nil] at z6
    simp [C8,encSy]
    repeat first|((first|refine ra ?_|refine rb ?_|refine rh ?_);simp [zf,zu])|refine qf ?_|refine qg ?_
    refine Wd rfl rfl ?_
    simp
    repeat first|((first|refine ra ?_|refine rb ?_|refine rh ?_);simp)|refine qf ?_|refine qg ?_
    refine Qb rfl (fun h=>by cases h) (fun _=> ?_)
    repeat first|((first|refine ra ?_|refine rb ?_|refine rh ?_);simp [y0])|refine qf ?_|refine qg ?_
    refine Qc (sl':=[(0,.yld l),(1,.iptr [.i a.types,.list (a.fin.map .bool),.list (a.mv.map encMv),.list (Tp a)]),(2,.iptr [.i p]),(3,.iptr [.i b.types,.list (b.fin.map .bool),.list (b.mv.map encMv),.list (Tp b)]),(4,.iptr [.i q]),(7,.vptr x 0),(16,.list ((Wb a p).map encMv)),(17,.i (Wb a p).length),(18,.i i),(26,.list ((Wb b q).map encMv)),(27,.i (Wb b q).length),(28,.i (j+1:Nat))]) ?_ (by simp)
    exact z6 _ ⟨by omega,z7 _ _ _ gv,zf _⟩ (by omega)
   |some y=>
    rw [hx] at zm z6
    simp [C8,encSy]
    repeat first|((first|refine ra ?_|refine rb ?_|refine rh ?_);simp [zf,zu])|refine qf ?_|refine qg ?_
    have y2:=z7 _ G [.vars [.i n.src,.i n.dst,.list (n.on.map encL)],.vars [.i y.ty,.i y.num]] gv
    have y3:=zf [.vars [.i n.src,.i n.dst,.list (n.on.map encL)],.vars [.i y.ty,.i y.num]]
    have yr:H0.length≤(G++[AObj.vars [.i n.src,.i n.dst,.list (n.on.map encL)],AObj.vars [.i y.ty,.i y.num]]).length:=by have:=Qg y3;omega
    have i1:=hI _ _ y2
    have yt:=zb (U2 a b (p,q) i++L0 b q m j) (y,(m.dst,n.dst)) (r1++r2) _ (by rw [yq,zm];simp) y2 yr
    generalize G++[AObj.vars [.i n.src,.i n.dst,.list (n.on.map encL)],AObj.vars [.i y.ty,.i y.num]]=Y at *;refine Oz rfl rfl (q:=l) rfl rfl i1 y4 y5 rfl (fun jm K2=>(jm=none∧Inv (U2 a b (p,q) i++L0 b q m j++[(y,(m.dst,n.dst))]) (K2.set l (.lp true none z8 sl' ps asg body))∧∀i cs,H0.length≤i→Y[i]? =some (.vars cs)→(K2.set l (.lp true none z8 sl' ps asg body))[i]? =some (.vars cs))∨∃c,jm=some c∧Done c (K2.set l (.lp false (some c) z8 sl' ps asg body))) ?_ ?_
    ·exact yt
    ·rintro jm K2 (⟨rfl,hK,yu⟩|⟨c,rfl,hD⟩)
     ·simp
      repeat first|((first|refine ra ?_|refine rb ?_|refine rh ?_);simp)|refine qf ?_|refine qg ?_
      refine Qb rfl (fun h=>by cases h) (fun _=> ?_)
      repeat first|((first|refine ra ?_|refine rb ?_|refine rh ?_);simp [y0])|refine qf ?_|refine qg ?_
      refine Qc (sl':=[(0,.yld l),(1,.iptr [.i a.types,.list (a.fin.map .bool),.list (a.mv.map encMv),.list (Tp a)]),(2,.iptr [.i p]),(3,.iptr [.i b.types,.list (b.fin.map .bool),.list (b.mv.map encMv),.list (Tp b)]),(4,.iptr [.i q]),(7,.vptr x 0),(16,.list ((Wb a p).map encMv)),(17,.i (Wb a p).length),(18,.i i),(26,.list ((Wb b q).map encMv)),(27,.i (Wb b q).length),(28,.i (j+1:Nat))]) ?_ (by simp)
      exact z6 _ ⟨by omega,by rw [←List.append_assoc];exact hK,yu x _ zw y3⟩ (by omega)
     ·simp
      repeat first|((first|refine ra ?_|refine rb ?_|refine rh ?_);simp)|refine qf ?_|refine qg ?_
      refine Qb rfl (fun _=> ?_) (fun h=>by cases h)
      repeat first|((first|refine ra ?_|refine rb ?_|refine rh ?_);simp)|refine qf ?_|refine qg ?_
      exact .inr ⟨c,hD⟩
  ·have zj:j=(Wb b q).length:=by simp at zt;omega
   subst zj
   repeat first|((first|refine ra ?_|refine rb ?_|refine rh ?_);simp [hw])|refine qf ?_|refine qg ?_
   refine Qc (sl':=[(0,.yld l),(1,.iptr [.i a.types,.list (a.fin.map .bool),.list (a.mv.map encMv),.list (Tp a)]),(2,.iptr [.i p]),(3,.iptr [.i b.types,.list (b.fin.map .bool),.list (b.mv.map encMv),.list (Tp b)]),(4,.iptr [.i q]),(16,.list ((Wb a p).map encMv)),(17,.i (Wb a p).length),(18,.i (i+1:Nat))]) ?_ (by simp)
   exact zz G ⟨by omega,gv,by have:=Qg gx;omega⟩ (by omega)
 ·have zv:i=(Wb a p).length:=by simp at yh;omega
  subst zv;rw [zp] at hv
  repeat first|((first|refine ra ?_|refine rb ?_|refine rh ?_);simp)|refine qf ?_|refine qg ?_
  exact .inl hv
end Go.Abs
namespace Go.Abs
open Go Go.Proofs Go.Maps Go.RowKit
theorem Mx:(Tryz.prog).underlying 135=some (.array 2 3):=by kernel_rfl
theorem x1m:(Tryz.prog).underlying 3=some (.int .i64):=by kernel_rfl
theorem Nr:(Tryz.prog).cellsOf 135=2:=by kernel_rfl
theorem y00:(Tryz.prog).cellsOf 3=1:=by kernel_rfl
theorem x1h:(Tryz.prog).keyType 135=true:=by kernel_rfl
theorem k08:laidOutB Tryz.prog=true:=by kernel_rfl
theorem v1w:(Tryz.prog).keyTypeAt 3 135=true:=by kernel_rfl
theorem y1c:135<(Tryz.prog).types.size:=of_decide_eq_true (by kernel_rfl)
theorem Lm:Keyed Tryz.prog 135:=Keyed.of_law (deep_law_laid k08 (m:=3) (by decide) y1c v1w (by rw [Mx]))
def kyP (s:Int×Int):AV:= .agg [.i s.1,.i s.2]
def okK (s:Int×Int):Prop:=(0≤s.1∧s.1≤1000000)∧(0≤s.2∧s.2≤1000000)
theorem C0 {s t:Int×Int} (h:kyP s=kyP t):s=t:=by
 unfold kyP at h;simp at h;exact Prod.ext h.1 h.2
theorem keyLits_int (d:Nat) {z:Int} (h:0≤z∧z≤1000000):(Tryz.prog).keyLits (d+1) 3 [.int .i64 z]=some [.int .i64 z]:=by
 unfold Program.keyLits;rw [x1m]
 simp [z1p h]
theorem q0k (d:Nat) {s:Int×Int} (h:okK s):(Tryz.prog).keyLits (d+2) 135 [.int .i64 s.1,.int .i64 s.2]=some [.int .i64 s.1,.int .i64 s.2]:=by
 unfold Program.keyLits;rw [Mx];simp only [Nr,y00,List.length_cons,List.length_nil,if_true]
 have h1:=keyLits_int d h.1
 have h2:=keyLits_int d h.2
 simp [List.range_succ,h1,h2]
theorem types_size:∃d,(Tryz.prog).types.size+1=d+2:=⟨(Tryz.prog).types.size - 1,by have:=y1c;omega⟩
theorem Du {s:Int×Int} (h:okK s):isKey Tryz.prog 135 (kyP s):=by
 refine ⟨.agg #[.int .i64 s.1,.int .i64 s.2],.string (keyBytes [.int .i64 s.1,.int .i64 s.2]),rfl,?_⟩
 obtain ⟨d,hd⟩:=types_size
 unfold keyOf;rw [Mx];simp only
 have hf:Value.formed Tryz.prog 135 (.agg #[.int .i64 s.1,.int .i64 s.2])=true:=by
  unfold Value.formed;rw [Mx,Nr];rfl
 rw [x1h,hf,hd]
 have:(Value.agg #[.int .i64 s.1,.int .i64 s.2]).cells.toList=[.int .i64 s.1,.int .i64 s.2]:=rfl
 rw [this,q0k d h];rfl
abbrev Ut:=List ((Int×Int)×Nat)
def kvN (near:Ut):List (AV×AV):=near.map fun e=>(kyP e.1,.i e.2)
def mpN (near:Ut):AObj:= .mp (kvN near)
structure NK (near:Ut):Prop where
 nd:(near.map (·.1)).Nodup
 ok:∀e∈near,okK e.1
theorem v0l {near:Ut} (h:NK near) {j:Nat} {e:(Int×Int)×Nat} (he:near[j]? =some e):lkN near e.1=some e.2:=by
 unfold lkN
 cases hf:near.find? (fun e'=>decide (e'.1=e.1)) with
 |none=>
  rw [List.find?_eq_none] at hf
  have:=hf e (List.mem_of_getElem? he)
  simp at this
 |some e'=>
  have h1:e'.1=e.1:=by simpa using List.find?_some hf
  have h2:=List.mem_of_find?_eq_some hf
  obtain ⟨i,hi,rfl⟩:=List.getElem_of_mem h2
  obtain ⟨hj,rfl⟩:=List.getElem?_eq_some_iff.1 he
  have h3:i=j:=by
   have:=(List.getElem_inj (h₀:=by simpa using hi) (h₁:=by simpa using hj) h.nd).1 (by simpa using h1)
   exact this
  subst h3;rfl
theorem Vw {near:Ut} (h:NK near):∀p∈kvN near,isKey Tryz.prog 135 p.1:=fun p hp=>by
 obtain ⟨e,he,rfl⟩:=List.mem_map.1 hp
 exact Du (h.ok e he)
section
variable {nt k:Nat} {S:AS} {ops:Array Oper} {o:Oper} {R:AS→Prop}
theorem Te {wr:Bool} (hw:Q1 ops S o=some true) (hd:Wv nt o=true) {x ix:Operand} (ho:o.op= .lookup 132 x ix true) {id:Nat} (hx:rho S.sl x=some (.mref id)) {s:Int×Int} (z1:rho S.sl ix=some (.agg [.i s.1,.i s.2])) {near:Ut} (z6:S.hp[id]? =some (mpN near)) (hn:NK near) (hs:okK s)
  (hR:R (S.putD o.dst (.tup [.i ((lkN near s).getD 0:Nat),.bool (lkN near s).isSome]))):Wq Tryz.prog nt k wr ops o S R:=by
 refine Yc tOk hw hd ho d1j rfl T3 Lm hx z1 z6 (Du hs) (Vw hn) (z:= .i 0) rfl (fun j p hp he=> ?_) (fun z7=> ?_)
 ·unfold kvN at hp;rw [List.getElem?_map] at hp
  obtain ⟨e,z8,rfl⟩:=Option.map_eq_some_iff.1 hp
  have za:e.1=s:=C0 he
  rw [←za,v0l hn z8] at hR;exact hR
 ·have:lkN near s=none:=by
   rw [Dj];intro hm
   obtain ⟨e,he,rfl⟩:=List.mem_map.1 hm
   exact z7 _ (List.mem_map.2 ⟨e,he,rfl⟩) rfl
  rw [this] at hR;exact hR
theorem L4 {wr:Bool} (hw:Q1 ops S o=some true) (hd:Wv nt o=true) {x ix:Operand} (ho:o.op= .lookup 132 x ix false) {id:Nat} (hx:rho S.sl x=some (.mref id)) {s:Int×Int} (z1:rho S.sl ix=some (.agg [.i s.1,.i s.2])) {near:Ut} (z6:S.hp[id]? =some (mpN near)) (hn:NK near) (hs:okK s)
  (hR:R (S.putD o.dst (.i ((lkN near s).getD 0:Nat)))):Wq Tryz.prog nt k wr ops o S R:=by
 refine Ce tOk hw hd ho d1j rfl T3 Lm hx z1 z6 (Du hs) (Vw hn) (z:= .i 0) rfl (fun j p hp he=> ?_) (fun z7=> ?_)
 ·unfold kvN at hp;rw [List.getElem?_map] at hp
  obtain ⟨e,z8,rfl⟩:=Option.map_eq_some_iff.1 hp
  have za:e.1=s:=C0 he
  rw [←za,v0l hn z8] at hR;exact hR
 ·have:lkN near s=none:=by
   rw [Dj];intro hm
   obtain ⟨e,he,rfl⟩:=List.mem_map.1 hm
   exact z7 _ (List.mem_map.2 ⟨e,he,rfl⟩) rfl
  rw [this] at hR;exact hR
theorem w0s (hw:Q1 ops S o=some true) (hd:Wv nt o=true) {x ix y:Operand} (ho:o.op= .mapUpdate 132 x ix y) {id:Nat} (hx:rho S.sl x=some (.mref id)) {s:Int×Int} (z1:rho S.sl ix=some (.agg [.i s.1,.i s.2])) {d:Nat} (hy:rho S.sl y=some (.i d)) {near:Ut} (z6:S.hp[id]? =some (mpN near)) (hn:NK near) (hs:okK s)
  (z7:s∉near.map (·.1)) (hR:R (({ S with hp:=S.hp.set id (mpN (near++[(s,d)])) }:AS).putD o.dst (.tup []))):Wq Tryz.prog nt k true ops o S R:=by
 refine Tl tOk hw hd ho d1j rfl Lm hx z1 hy (by simp [AV.pure]) z6 (Du hs) (Vw hn) (fun j p hp he=> ?_) (fun zb=> ?_)
 ·unfold kvN at hp;rw [List.getElem?_map] at hp
  obtain ⟨e,z8,rfl⟩:=Option.map_eq_some_iff.1 hp
  have za:e.1=s:=C0 he
  exact absurd (List.mem_map.2 ⟨e,List.mem_of_getElem? z8,za⟩) z7
 ·have:kvN near++[(kyP s,.i d)]=kvN (near++[(s,d)]):=by simp [kvN]
  unfold mpN at hR;rw [←this] at hR;exact hR
end
end Go.Abs
namespace Go.Abs
open Go Go.Proofs Go.Maps Go.RowKit
theorem f0k {a b:Aut} {i j:Nat} (hi:i<a.fin.length) (hj:j<b.fin.length):R7 a b ((i:Int),(j:Int))=(a.fin[i] != b.fin[j]):=by unfold R7;simp [List.getD,hi,hj]
theorem Kf {a b:Aut} (ha:OkA a) (hb:OkA b) {s:Int×Int} {e:Sy×(Int×Int)} (he:e∈Wi a b s):inS a e.2.1∧inS b e.2.2:=by
 obtain ⟨m,hm,n,hn,_,rfl⟩:=Sb.1 he
 have h1:=(ha.mv m (Ey.1 hm).1).dst
 have h2:=(hb.mv n (Ey.1 hn).1).dst
 exact ⟨⟨h1.1,h1.2⟩,⟨h2.1,h2.2⟩⟩
theorem Sq {a b:Aut} (ha:OkA a) (hb:OkA b) {s:Int×Int} (h:inS a s.1∧inS b s.2):okK s:=by
 have h1:=ha.fin
 have h2:=hb.fin
 obtain ⟨⟨_,_⟩,⟨_,_⟩⟩:=h
 unfold okK;omega
attribute [local irreducible] Wb Ea Tp Wi R7 lkN
set_option maxHeartbeats 4000000 in
theorem c0k (a:Aut) (ha:OkA a) (H:List AObj) (A:Nat) (hA:H[A]? =some (.vars (Q6 a))) (p q:Int) (hp:inS a p) (hq:inS a q):
  FC Tryz.prog 146 [.i p,.i q,.vptr A 0] H (fun r H'=>r= .bool (R7 a a (p,q))∧H'=H):=by
 refine Wt tOk Tryz.func146 rfl Tryz.results146 rfl (by simp [Tryz.ntmps146]) ?_
 rw [Tryz.ntmps146];simp only [Qf]
 obtain ⟨i,rfl⟩:∃i:Nat,p=i:=⟨p.toNat,(Yp hp).2.symm⟩
 obtain ⟨j,rfl⟩:∃j:Nat,q=j:=⟨q.toNat,(Yp hq).2.symm⟩
 have hi:i<a.fin.length:=by have:=hp.2;omega
 have hj:j<a.fin.length:=by have:=hq.2;omega
 rw [f0k hi hj];simp only [Q6] at hA
 repeat first|((first|refine ra ?_|refine rb ?_|refine rh ?_);simp)|refine qf ?_|refine qg ?_
 refine Qo tOk mixed [] (.val 0 (.val 1 (.val 2 (.val 3 (.val 4 (.val 5 (.val 6 (.val 7 (.val 8 (.val 9 (.val 10 (.val 11 (.val 12 (.val 13 (.done))))))))))))))) rfl (by kernel_rfl) ?_
 simp [hA,hi,hj]
 repeat first|((first|refine ra ?_|refine rb ?_|refine rh ?_);simp)|refine qf ?_|refine qg ?_
 generalize a.fin[i]=x;generalize a.fin[j]=y
 cases x<;>cases y<;>rfl
def L1 (near:Ut) (d:Int) (es:List (Sy×(Int×Int))):Bool:=es.any fun e=>(lkN near e.2).isSome && decide (((lkN near e.2).getD 0:Nat)=d)
theorem v0k (near:Ut) (d:Int) (pre:List (Sy×(Int×Int))) (e:Sy×(Int×Int)):L1 near d (pre++[e])=(L1 near d pre || ((lkN near e.2).isSome && decide (((lkN near e.2).getD 0:Nat)=d))):=by simp [L1]
theorem g0g {near:Ut} {d:Int} {pre post:List (Sy×(Int×Int))} {e:Sy×(Int×Int)} (h:((lkN near e.2).isSome && decide (((lkN near e.2).getD 0:Nat)=d))=true):L1 near d (pre++e::post)=true:=by
 unfold L1;rw [List.any_append,List.any_cons,h];simp
theorem d01 (near:Ut) (d:Int):L1 near d []=false:=rfl
attribute [local irreducible] L1
set_option maxHeartbeats 8000000 in
theorem c0t (a:Aut) (ha:OkA a) (H:List AObj) (A N M D:Nat) (near:Ut) (d:Nat) (hA:H[A]? =some (.vars (Q6 a))) (hN:H[N]? =some (.vars [.mref M])) (hM:H[M]? =some (mpN near)) (hD:H[D]? =some (.vars [.i d])) (hd:1≤d∧d≤1000000) (zd:NK near) (p q:Int) (hp:inS a p) (hq:inS a q):
  FC Tryz.prog 147 [.i p,.i q,.vptr A 0,.vptr N 0,.vptr D 0] H (fun r H'=>r= .bool (L1 near ((d:Int) - 1) (Wi a a (p,q)))∧∀i,i<H.length→H'[i]? =H[i]?):=by
 refine Wt tOk Tryz.func147 rfl Tryz.results147 rfl (by simp [Tryz.ntmps147]) ?_
 rw [Tryz.ntmps147];simp only [Qf]
 have zb:=hA
 simp only [Q6] at zb
 have zn:=Qg hA
 have ze:=Qg hN
 have zf:=Qg hM
 have zg:=Qg hD
 have zh:∀L,(H++L)[A]? =some (.vars [.i a.types,.list (a.fin.map .bool),.list (a.mv.map encMv),.list (Tp a)]):=fun L=>Qa zb L
 repeat first|((first|refine ra ?_|refine rb ?_|refine rh ?_);simp [zh])|refine qf ?_|refine qg ?_
 refine Qe rfl rfl (by simp) (Nc a a p q) rfl ?_
 rintro _ rfl
 simp
 repeat first|((first|refine ra ?_|refine rb ?_|refine rh ?_);simp)|refine qf ?_|refine qg ?_
 refine Rc rfl (Rf:=fun _ H'=>(L1 near ((d:Int) - 1) (Wi a a (p,q))=false∧(∃sl' z1 a' b',H'[H.length+1]? =some (.lp true none 34 sl' z1 a' b'))∧H'[H.length]? =some (.vars [.bool false])∧∀i,i<H.length→H'[i]? =H[i]?)∨
  (L1 near ((d:Int) - 1) (Wi a a (p,q))=true∧(∃sl' z1 a' b',H'[H.length+1]? =some (.lp false (some .ret) 34 sl' z1 a' b'))∧H'[H.length]? =some (.vars [.bool true])∧∀i,i<H.length→H'[i]? =H[i]?)) ?_ ?_
 ·simp
  refine Cp fun H1 z6=> ?_
  have f0:H1[H.length]? =some (.vars [.bool false]):=by rw [z6,List.getElem?_append_right (by omega)];simp
  have fk:∀i,i<H.length→H1[i]? =H[i]? :=fun i hi=>by rw [z6,List.getElem?_append_left hi]
  have fl:=congrArg (fun h:List AObj=>h[H.length+1]?) z6
  have zo:H1.length=H.length+2:=by rw [z6];simp
  simp at fl;clear z6;refine FC.mono (Ze a a ha ha rfl p q hp hq (H.length+1) (by rfl) (by rfl)
   (fun pre H'=>L1 near ((d:Int) - 1) pre=false∧H'[H.length+1]? =H1[H.length+1]? ∧H'[H.length]? =some (.vars [.bool false])∧∀i,i<H.length→H'[i]? =H[i]?)
   (fun c H'=>c= .ret∧L1 near ((d:Int) - 1) (Wi a a (p,q))=true∧(∃sl' z1 a' b',H'[H.length+1]? =some (.lp false (some .ret) 34 sl' z1 a' b'))∧H'[H.length]? =some (.vars [.bool true])∧∀i,i<H.length→H'[i]? =H[i]?) H1
   (fun k H' ⟨_,h2,_,_⟩=>h2.trans fl) ?_ ?_ ⟨d01 _ _,rfl,f0,fk⟩) ?_
  ·rintro k H' L ⟨h1,h2,h3,h4⟩
   exact ⟨h1,by rw [←h2,List.getElem?_append_left (by rw [fl] at h2;exact Qg h2)],Qa h3 _,fun i hi=>by rw [List.getElem?_append_left (by have:=Qg h3;omega)];exact h4 i hi⟩
  ·rintro pre e post H' zc ⟨h1,h2,h3,h4⟩ hlen
   simp [Tj]
   have zi:=Kf ha ha (show e∈Wi a a (p,q) by rw [zc];simp)
   have zj:=Sq ha ha zi
   have zp:=Qg (h2.trans fl)
   have z7:=v0k near ((d:Int) - 1) pre e
   have z8:=fun h=>g0g (near:=near) (d:=(d:Int) - 1) (pre:=pre) (post:=post) (e:=e) h
   rw [←zc] at z8;rw [h1,Bool.false_or] at z7
   have zz:=Qi (h2.trans fl) .dead
   have z0:(H'.set (H.length+1) .dead)[H.length]? =some (.vars [.bool false]):=Qd (by omega) h3 _
   have zk:∀i,i<H.length→(H'.set (H.length+1) .dead)[i]? =H[i]? :=fun i hi=>by rw [List.getElem?_set_ne (by omega)];exact h4 i hi
   have zv:∀i cs,H1.length≤i→H'[i]? =some (.vars cs)→(H'.set (H.length+1) .dead)[i]? =some (.vars cs):=fun i cs hi hc=>by rw [List.getElem?_set_ne (by omega)];exact hc
   have zl:(H'.set (H.length+1) .dead).length=H'.length:=by simp
   rw [←zl];generalize H'.set (H.length+1) .dead=Z at *
   have zN:=(zk N ze).trans hN
   have zM:=(zk M zf).trans hM
   have zD:=(zk D zg).trans hD
   have zNA:∀L,(Z++L)[N]? =some (.vars [.mref M]):=fun L=>Qa zN L
   have zMA:∀L,(Z++L)[M]? =some (mpN near):=fun L=>Qa zM L
   have zDA:∀L,(Z++L)[D]? =some (.vars [.i d]):=fun L=>Qa zD L
   have z0A:∀L,(Z++L)[H.length]? =some (.vars [.bool false]):=fun L=>Qa z0 L
   have z0H:∀L hh,(Z++L)[H.length]'hh= .vars [.bool false]:=fun L hh=>(List.getElem_eq_iff hh).2 (z0A L)
   have zm:IntKind.i64.wrap ((d:Int) - 1)=d - 1:=wrap_i64 _ (by omega) (by omega)
   simp only [y1y]
   repeat first|((first|refine ra ?_|refine rb ?_|refine rh ?_);simp [zNA,zDA])|refine qf ?_|refine qg ?_
   refine Te rfl rfl rfl rfl (s:=e.2) rfl (near:=near) (zMA _) zd zj ?_
   simp
   generalize lkN near e.2=lk at *
   cases lk with
   |none=>
    simp at z7
    repeat first|((first|refine ra ?_|refine rb ?_|refine rh ?_);simp [zDA])|refine qf ?_|refine qg ?_
    refine Qb rfl (fun h=>by simp at h) (fun _=> ?_)
    repeat first|((first|refine ra ?_|refine rb ?_|refine rh ?_);simp)|refine qf ?_|refine qg ?_
    refine ⟨Qa zz _,.inl ⟨rfl,⟨z7,?_,?_,fun i hi=> ?_⟩,fun i cs hi hc=> ?_⟩⟩
    ·rw [fl];exact Qi (Qa zz _) _
    ·exact z0A _
    ·rw [List.getElem?_set_ne (by omega),List.getElem?_append_left (by omega)];exact zk i hi
    ·exact Qd (j:=H.length+1) (by omega) (Qa (zv i cs hi hc) _) _
   |some kd=>
    simp at z7 z8
    repeat first|((first|refine ra ?_|refine rb ?_|refine rh ?_);simp [zDA,zm])|refine qf ?_|refine qg ?_
    refine Qb rfl (fun h=> ?_) (fun h=> ?_)
    ·have za:(kd:Int)=d - 1:=by simpa using h
     repeat first|((first|refine ra ?_|refine rb ?_|refine rh ?_);simp [z0A,z0H])|refine qf ?_|refine qg ?_
     refine ⟨Qd (j:=H.length) (by omega) (Qa zz _) _,.inr ⟨.ret,rfl,rfl,z8 za,?_,?_,fun i hi=> ?_⟩⟩
     ·exact ⟨_,_,_,_,Qi (Qd (j:=H.length) (by omega) (Qa zz _) _) _⟩
     ·exact Qi (z0A _) _
     ·rw [List.getElem?_set_ne (by omega),List.getElem?_set_ne (by omega),List.getElem?_append_left (by omega)];exact zk i hi
    ·have za:¬(kd:Int)=d - 1:=by simpa using h
     repeat first|((first|refine ra ?_|refine rb ?_|refine rh ?_);simp)|refine qf ?_|refine qg ?_
     refine ⟨Qa zz _,.inl ⟨rfl,⟨by rw [z7,decide_eq_false za],?_,?_,fun i hi=> ?_⟩,fun i cs hi hc=> ?_⟩⟩
     ·rw [fl];exact Qi (Qa zz _) _
     ·exact z0A _
     ·rw [List.getElem?_set_ne (by omega),List.getElem?_append_left (by omega)];exact zk i hi
     ·exact Qd (j:=H.length+1) (by omega) (Qa (zv i cs hi hc) _) _
  ·rintro _ H' (⟨h1,h2,h3,h4⟩|⟨c,rfl,h1,h2,h3,h4⟩)
   ·exact .inl ⟨h1,⟨_,_,_,_,h2.trans fl⟩,h3,h4⟩
   ·exact .inr ⟨h1,h2,h3,h4⟩
 ·rintro _ H' (⟨h1,⟨sl',z1,a',b',h2⟩,h3,h4⟩|⟨h1,⟨sl',z1,a',b',h2⟩,h3,h4⟩)
  ·refine ⟨true,none,34,sl',z1,a',b',by simpa using h2,?_⟩
   simp
   have z0:=Qd (j:=H.length+1) (by omega) h3 .dead
   have z0H:∀hh,(H'.set (H.length+1) .dead)[H.length]'hh= .vars [.bool false]:=fun hh=>(List.getElem_eq_iff hh).2 z0
   rw [h1]
   have zk:∀i,i<H.length→(H'.set (H.length+1) .dead)[i]? =H[i]? :=fun i hi=>by rw [List.getElem?_set_ne (by omega)];exact h4 i hi
   generalize H'.set (H.length+1) .dead=Z at *
   repeat first|((first|refine ra ?_|refine rb ?_|refine rh ?_);simp [z0,z0H,Qi z0])|refine qf ?_|refine qg ?_
   exact fun i hi=>by rw [List.getElem?_set_ne (by omega)];exact zk i hi
  ·refine ⟨false,some .ret,34,sl',z1,a',b',by simpa using h2,?_⟩
   simp
   have z0:=Qd (j:=H.length+1) (by omega) h3 .dead
   rw [h1]
   have zk:∀i,i<H.length→(H'.set (H.length+1) .dead)[i]? =H[i]? :=fun i hi=>by rw [List.getElem?_set_ne (by omega)];exact h4 i hi
   generalize H'.set (H.length+1) .dead=Z at *
   repeat first|((first|refine ra ?_|refine rb ?_|refine rh ?_);simp [z0])|refine qf ?_|refine qg ?_
   exact zk
end Go.Abs
namespace Go.Abs
open Go Go.Proofs Go.Maps Go.RowKit
theorem x1r {G K:List AObj} (h:∀i,i<G.length→K[i]? =G[i]?):∃E,K=G++E:=by
 refine ⟨K.drop G.length,?_⟩
 have hl:G.length≤K.length:=by
  by_cases h0:G.length=0
  ·omega
  ·have:=h (G.length - 1) (by omega)
   have h2:G[G.length - 1]? =some (G[G.length - 1]'(by omega)):=List.getElem?_eq_getElem (by omega)
   rw [h2] at this
   have:=Qg this
   omega
 refine List.ext_getElem? fun i=> ?_
 by_cases hi:i<G.length
 ·rw [List.getElem?_append_left hi];exact h i hi
 ·rw [List.getElem?_append_right (by omega),List.getElem?_drop]
  congr 1;omega
def fdR (n:Nat) (g:Int×Int→Bool) (i:Nat):List (Int×Int):=((List.range i).flatMap fun x:Nat=>(List.range n).map fun y:Nat=>((x:Int),(y:Int))).filter g
def fdC (g:Int×Int→Bool) (i j:Nat):List (Int×Int):=((List.range j).map fun y:Nat=>((i:Int),(y:Int))).filter g
theorem Mn (n:Nat) (g:Int×Int→Bool):fdR n g 0=[]:=by simp [fdR]
theorem Mf (g:Int×Int→Bool) (i:Nat):fdC g i 0=[]:=by simp [fdC]
theorem w1p (n:Nat) (g:Int×Int→Bool) (i:Nat):fdR n g (i+1)=fdR n g i++fdC g i n:=by
 unfold fdR fdC;rw [List.range_succ,List.flatMap_append,List.filter_append];simp
theorem d0k (g:Int×Int→Bool) (i j:Nat):fdC g i (j+1)=fdC g i j++(if g ((i:Int),(j:Int))=true then [((i:Int),(j:Int))] else []):=by
 unfold fdC;rw [List.range_succ,List.map_append,List.filter_append]
 congr 1
 rw [List.map_cons,List.map_nil,List.filter_cons,List.filter_nil]
theorem f1c (a:Aut) (g:Int×Int→Bool):fdR a.fin.length g a.fin.length=(Oi a a).filter g:=by
 unfold fdR Oi Ri
 congr 1
 rw [List.flatMap_map]
 simp [List.map_map,Function.comp_def]
theorem Z0 (n:Nat):∀i:Nat,((List.range i).map fun _:Nat=>n).sum=i * n
 |0=>by simp
 |i+1=>by rw [List.range_succ,List.map_append,List.sum_append,Z0 n i];simp [Nat.succ_mul]
theorem k1q (n:Nat) (g:Int×Int→Bool) (i j:Nat) (hi:i≤n) (hj:j≤n):(fdR n g i++fdC g i j).length≤n * n+n:=by
 rw [List.length_append]
 have h1:(fdR n g i).length≤i * n:=by
  unfold fdR;refine Nat.le_trans (List.length_filter_le _ _) ?_;rw [List.length_flatMap]
  have:((List.range i).map fun x:Nat=>((List.range n).map fun y:Nat=>((x:Int),(y:Int))).length).sum=i * n:=by simpa using Z0 n i
  omega
 have h2:(fdC g i j).length≤j:=by
  unfold fdC;refine Nat.le_trans (List.length_filter_le _ _) ?_
  simp
 have:=Nat.mul_le_mul_right n hi
 omega
def S9 (a:Aut) (near:Ut) (pf:Int×Int→Bool) (s:Int×Int):Bool:=(lkN near s).isNone && pf s
def L2 (a:Aut) (near:Ut) (pf:Int×Int→Bool):List (Int×Int):=(Oi a a).filter (S9 a near pf)
theorem J8 {a:Aut} {near:Ut} {pf:Int×Int→Bool} {s:Int×Int} (h:s∈L2 a near pf):inP a s∧s∉near.map (·.1):=by
 obtain ⟨h1,h2⟩:=List.mem_filter.1 h
 refine ⟨j01 h1,Dj.1 ?_⟩;unfold S9 at h2;simp only [Bool.and_eq_true,Option.isNone_iff_eq_none] at h2;exact h2.1
theorem x0j (a:Aut) (near:Ut) (pf:Int×Int→Bool):(L2 a near pf).Nodup:=(Jn a).filter _
theorem NK.round {a:Aut} (ha:OkA a) {near:Ut} (h:NK near) (pf:Int×Int→Bool) (d:Nat) {l r:List (Int×Int)} (he:L2 a near pf=l++r):NK (near++l.map fun s=>(s,d)):=by
 have hl:∀s∈l,s∈L2 a near pf:=fun s hs=>by rw [he];simp [hs]
 refine ⟨?_,fun e hm=> ?_⟩
 ·rw [List.map_append,List.nodup_append];refine ⟨h.nd,?_,fun x hx y hy e=> ?_⟩
  ·have:=x0j a near pf
   rw [he,List.nodup_append] at this
   simpa [Function.comp_def] using this.1
  ·simp only [List.map_map,Function.comp_def,List.map_id'] at hy;subst e;exact (J8 (hl _ hy)).2 hx
 ·rcases List.mem_append.1 hm with hm|hm
  ·exact h.ok e hm
  ·obtain ⟨s,hs,rfl⟩:=List.mem_map.1 hm
   exact Sq ha ha (J8 (hl s hs)).1
attribute [local irreducible] lkN S9 fdR fdC
set_option maxHeartbeats 8000000 in
theorem B5 (a:Aut) (ha:OkA a) (H:List AObj) (nC N M:Nat) (near:Ut) (d:Nat) (pf:Int×Int→Bool) (f:FuncId) (cs:List AV) (hn:H[nC]? =some (.vars [.i a.fin.length])) (hN:H[N]? =some (.vars [.mref M])) (hM:H[M]? =some (mpN near)) (zv:NK near)
  (zf:∀(p q:Int) (H':List AObj),inS a p→inS a q→(∀i,i<H.length→H'[i]? =H[i]?)→FC Tryz.prog f ([]++[.i p,.i q]++cs) H' (fun r K=>r= .bool (pf (p,q))∧∀i,i<H'.length→K[i]? =H'[i]?)):
  FC Tryz.prog 145 [.i d,.fn (.func f) [] cs,.vptr nC 0,.vptr N 0] H (fun r H'=>r= .bool (decide (0<(L2 a near pf).length))∧H'[M]? =some (mpN (near++(L2 a near pf).map fun s=>(s,d)))∧∀i,i<H.length→i≠M→H'[i]? =H[i]?):=by
 refine Wt tOk Tryz.func145 rfl Tryz.results145 rfl (by simp [Tryz.ntmps145]) ?_
 rw [Tryz.ntmps145];simp only [Qf]
 have za:=ha.fin
 have ym:=Qg hn
 have y7:=Qg hN
 have y8:=Qg hM
 have y9:=f1c a (S9 a near pf)
 have ya:=k1q a.fin.length (S9 a near pf)
 have yb:a.fin.length * a.fin.length≤65536:=Nat.le_trans (Nat.mul_le_mul za.2 za.2) (by decide)
 repeat first|((first|refine ra ?_|refine rb ?_|refine rh ?_);simp [hn])|refine qf ?_|refine qg ?_
 refine Wm 7 135 2 rfl ?_
 simp
 have yc:=SL.start H 135 2
 refine Qq (Qc (sl':=[(0,.i d),(1,.fn (.func f) [] cs),(2,.vptr nC 0),(3,.vptr N 0),(6,.bool false),(7,.sl H.length 2 0 (fdR a.fin.length (S9 a near pf) 0).length),(14,.i a.fin.length),(15,.i (0:Nat))]) ?_ (by simp [Mn]))
 refine Qp (F:=fun (u:Nat×Nat×List AObj)=>⟨[(0,.i d),(1,.fn (.func f) [] cs),(2,.vptr nC 0),(3,.vptr N 0),(6,.bool false),(7,.sl u.2.1 2 0 (fdR a.fin.length (S9 a near pf) u.1).length),(14,.i a.fin.length),(15,.i u.1)],u.2.2⟩)
  (fun u=>u.1≤a.fin.length∧SL H u.2.2 u.2.1 135 2 ((fdR a.fin.length (S9 a near pf) u.1).map kyP)) (fun u=>a.fin.length - u.1) ?_ (0,H.length,_) ⟨Nat.zero_le _,by rw [Mn];exact yc⟩
 rintro ⟨i,q,G⟩ ⟨hi,hs⟩ ih
 simp only at hi hs ih ⊢
 repeat first|((first|refine ra ?_|refine rb ?_|refine rh ?_);simp)|refine qf ?_|refine qg ?_
 refine Qb rfl (fun yd=> ?_) (fun ye=> ?_)
 ·have yf:i<a.fin.length:=by simpa using yd
  have hw:IntKind.i64.wrap ((i:Int)+1)=i+1:=wrap_i64 _ (by omega) (by omega)
  have zw:=fun q' G'=>ih (i+1,q',G')
  simp only [w1p] at zw
  have gn:=hs.kp hn
  repeat first|((first|refine ra ?_|refine rb ?_|refine rh ?_);simp [gn])|refine qf ?_|refine qg ?_
  refine Qq (Qc (sl':=[(0,.i d),(1,.fn (.func f) [] cs),(2,.vptr nC 0),(3,.vptr N 0),(6,.bool false),(7,.sl q 2 0 (fdR a.fin.length (S9 a near pf) i++fdC (S9 a near pf) i 0).length),(8,.i i),(14,.i a.fin.length),(15,.i i),(18,.i a.fin.length),(19,.i (0:Nat))]) ?_ (by simp [Mf]))
  refine Qp (F:=fun (u:Nat×Nat×List AObj)=>⟨[(0,.i d),(1,.fn (.func f) [] cs),(2,.vptr nC 0),(3,.vptr N 0),(6,.bool false),(7,.sl u.2.1 2 0 (fdR a.fin.length (S9 a near pf) i++fdC (S9 a near pf) i u.1).length),(8,.i i),(14,.i a.fin.length),(15,.i i),(18,.i a.fin.length),(19,.i u.1)],u.2.2⟩)
   (fun u=>u.1≤a.fin.length∧SL H u.2.2 u.2.1 135 2 ((fdR a.fin.length (S9 a near pf) i++fdC (S9 a near pf) i u.1).map kyP)) (fun u=>a.fin.length - u.1) ?_ (0,q,G) ⟨Nat.zero_le _,by rw [Mf,List.append_nil];exact hs⟩
  clear hs gn;clear G q
  rintro ⟨j,q,G⟩ ⟨hj,hs⟩ ih2
  simp only at hj hs ih2 ⊢
  repeat first|((first|refine ra ?_|refine rb ?_|refine rh ?_);simp)|refine qf ?_|refine qg ?_
  refine Qb rfl (fun zg=> ?_) (fun zh=> ?_)
  ·have zx:j<a.fin.length:=by simpa using zg
   have zi:IntKind.i64.wrap ((j:Int)+1)=j+1:=wrap_i64 _ (by omega) (by omega)
   have z1:=fun q' G'=>ih2 (j+1,q',G')
   simp only [d0k] at z1
   have gN:=hs.kp hN
   have gM:=hs.kp hM
   have zy:inS a (i:Int):=⟨by omega,by omega⟩
   have zz:inS a (j:Int):=⟨by omega,by omega⟩
   have zj:okK ((i:Int),(j:Int)):=Sq ha ha ⟨zy,zz⟩
   have yn:=ya i j hi hj
   have yg:=hs.le
   have zk:∀x,x<H.length→G[x]? =H[x]? :=fun x hx=>by
    have h1:H[x]? =some H[x]:=List.getElem?_eq_getElem hx
    rw [h1];exact hs.kp h1
   have z7:S9 a near pf ((i:Int),(j:Int))=((lkN near ((i:Int),(j:Int))).isNone && pf ((i:Int),(j:Int))):=by unfold S9;rfl
   repeat first|((first|refine ra ?_|refine rb ?_|refine rh ?_);simp [gN])|refine qf ?_|refine qg ?_
   refine Te rfl rfl rfl rfl (s:=((i:Int),(j:Int))) rfl (near:=near) gM zv zj ?_
   simp
   generalize hL:fdR a.fin.length (S9 a near pf) i++fdC (S9 a near pf) i j=L at *;simp only [←List.append_assoc,hL] at z1
   have zb:(fdR a.fin.length (S9 a near pf) i).length+(fdC (S9 a near pf) i j).length=L.length:=by rw [←hL,List.length_append]
   cases hlk:lkN near ((i:Int),(j:Int)) with
   |some kd=>
    rw [hlk] at z7;simp at z7;simp only [z7,Bool.false_eq_true,if_false,List.append_nil] at z1
    repeat first|((first|refine ra ?_|refine rb ?_|refine rh ?_);simp)|refine qf ?_|refine qg ?_
    refine Wd rfl rfl ?_
    simp
    refine Qj rfl ?_
    repeat first|((first|refine ra ?_|refine rb ?_|refine rh ?_);simp [zi])|refine qf ?_|refine qg ?_
    refine Qc (sl':=[(0,.i d),(1,.fn (.func f) [] cs),(2,.vptr nC 0),(3,.vptr N 0),(6,.bool false),(7,.sl q 2 0 L.length),(8,.i i),(14,.i a.fin.length),(15,.i i),(18,.i a.fin.length),(19,.i (j+1:Nat))]) ?_ (by simp [zb])
    exact z1 q G ⟨by omega,hs⟩ (by omega)
   |none=>
    rw [hlk] at z7;simp at z7
    repeat first|((first|refine ra ?_|refine rb ?_|refine rh ?_);simp)|refine qf ?_|refine qg ?_
    refine Qz rfl rfl (zf i j G zy zz zk) rfl ?_
    rintro _ K ⟨rfl,hK⟩
    obtain ⟨E,rfl⟩:=x1r hK
    have z8:=hs.add E
    generalize G++E=G2 at *
    simp
    cases hpf:pf ((i:Int),(j:Int)) with
    |true=>
     rw [hpf] at z7;simp only [z7,if_true] at z1
     have y0:(L.map kyP).length=L.length:=by simp
     generalize zl:L.map kyP=acc at *;refine Qj rfl ?_
     repeat first|((first|refine ra ?_|refine rb ?_|refine rh ?_);simp)|refine qf ?_|refine qg ?_
     refine Qh tOk rfl rfl q2t rfl q2n rfl (by decide) (by decide) rfl rfl rfl ?_
     simp [Qa z8.arr,Qk z8.arr,y0,zb]
     refine ⟨by simp [W2,Qa z8.arr,Qk z8.arr,y0,zb]<;>omega,?_⟩
     repeat first|((first|refine ra ?_|refine rb ?_|refine rh ?_);simp [zi])|refine qf ?_|refine qg ?_
     refine Qc (sl':=[(0,.i d),(1,.fn (.func f) [] cs),(2,.vptr nC 0),(3,.vptr N 0),(6,.bool false),(7,.sl (G2.length+1) 2 0 (L++[((i:Int),(j:Int))]).length),(8,.i i),(14,.i a.fin.length),(15,.i i),(18,.i a.fin.length),(19,.i (j+1:Nat))]) ?_ (by simp [zb])
     refine z1 (G2.length+1) _ ⟨by omega,?_⟩ (by omega)
     have:=z8.put [AObj.arr 135 2 [kyP ((i:Int),(j:Int))]] (acc++[kyP ((i:Int),(j:Int))]) rfl
     rw [show (L++[((i:Int),(j:Int))]).map kyP=acc++[kyP ((i:Int),(j:Int))] by rw [←zl];simp]
     exact this
    |false=>
     rw [hpf] at z7;simp only [z7,Bool.false_eq_true,if_false,List.append_nil] at z1;refine Qj rfl ?_
     repeat first|((first|refine ra ?_|refine rb ?_|refine rh ?_);simp [zi])|refine qf ?_|refine qg ?_
     refine Qc (sl':=[(0,.i d),(1,.fn (.func f) [] cs),(2,.vptr nC 0),(3,.vptr N 0),(6,.bool false),(7,.sl q 2 0 L.length),(8,.i i),(14,.i a.fin.length),(15,.i i),(18,.i a.fin.length),(19,.i (j+1:Nat))]) ?_ (by simp [zb])
     exact z1 q G2 ⟨by omega,z8⟩ (by omega)
  ·have zc:j=a.fin.length:=by simp at zh;omega
   subst zc
   repeat first|((first|refine ra ?_|refine rb ?_|refine rh ?_);simp [hw])|refine qf ?_|refine qg ?_
   refine Qc (sl':=[(0,.i d),(1,.fn (.func f) [] cs),(2,.vptr nC 0),(3,.vptr N 0),(6,.bool false),(7,.sl q 2 0 (fdR a.fin.length (S9 a near pf) i++fdC (S9 a near pf) i a.fin.length).length),(14,.i a.fin.length),(15,.i (i+1:Nat))]) ?_ (by simp)
   exact zw q G ⟨by omega,hs⟩ (by omega)
 ·have zm:i=a.fin.length:=by simp at ye;omega
  subst zm;rw [y9] at hs ⊢
  have yh:(Oi a a).filter (S9 a near pf)=L2 a near pf:=rfl
  rw [yh] at hs ⊢
  have yo:(L2 a near pf).length≤65536:=by
   refine Nat.le_trans (List.length_filter_le _ _) ?_;rw [U9];exact yb
  have y1:=fun l r h=>zv.round ha pf d (l:=l) (r:=r) h
  have y2:=fun s h=>J8 (a:=a) (near:=near) (pf:=pf) (s:=s) h
  have zn:=x0j a near pf
  generalize L2 a near pf=L at *
  have zk:∀x,x<H.length→G[x]? =H[x]? :=fun x hx=>by
   have h1:H[x]? =some H[x]:=List.getElem?_eq_getElem hx
   rw [h1];exact hs.kp h1
  have yg:=hs.le
  have yp:H.length≤q:=hs.ge
  refine Q0 (sl':=[(0,.i d),(3,.vptr N 0),(6,.bool false),(7,.sl q 2 0 L.length)]) ?_ (by simp)
  refine Wn q hs.arr ?_
  simp [AV.fz]
  rw [List.take_of_length_le (by simp)]
  have yk:∀x,x<H.length→(G.set q .dead)[x]? =H[x]? :=fun x hx=>by rw [List.getElem?_set_ne (by omega)];exact zk x hx
  generalize G.set q .dead=Y at *
  repeat first|((first|refine ra ?_|refine rb ?_|refine rh ?_);simp)|refine qf ?_|refine qg ?_
  refine Qq (Qc (sl':=[(0,.i d),(3,.vptr N 0),(6,.bool false),(7,.list (L.map kyP)),(46,.list (L.map kyP)),(47,.i L.length),(48,.i (0:Nat))]) ?_ (by simp))
  refine Qp (F:=fun (u:Nat×List AObj)=>⟨[(0,.i d),(3,.vptr N 0),(6,.bool false),(7,.list (L.map kyP)),(46,.list (L.map kyP)),(47,.i L.length),(48,.i u.1)],u.2⟩)
   (fun u=>u.1≤L.length∧u.2[M]? =some (mpN (near++(L.take u.1).map fun s=>(s,d)))∧∀i,i<H.length→i≠M→u.2[i]? =H[i]?) (fun u=>L.length - u.1) ?_ (0,Y) ⟨Nat.zero_le _,by simpa using (yk M y8).trans hM,fun i hi _=>yk i hi⟩
  clear yk;clear Y
  rintro ⟨k,Y⟩ ⟨hk,yM,yk⟩ ih3
  simp only at hk yM yk ih3 ⊢
  repeat first|((first|refine ra ?_|refine rb ?_|refine rh ?_);simp)|refine qf ?_|refine qg ?_
  refine Qb rfl (fun zo=> ?_) (fun zp=> ?_)
  ·have z6:k<L.length:=by simpa using zo
   have yi:IntKind.i64.wrap ((k:Int)+1)=k+1:=wrap_i64 _ (by omega) (by omega)
   have yj:N≠M:=fun e=>by rw [e,hM] at hN;simp [mpN] at hN
   have y3:(L.map kyP)[k]? =some (kyP L[k]):=by simp [z6]
   have y4:∀hh,(L.map kyP)[k]'hh=kyP L[k]:=fun hh=>by simp
   have zq:L.take k++L[k]::L.drop (k+1)=L:=by rw [←List.drop_eq_getElem_cons z6,List.take_append_drop]
   have zr:=y1 (L.take k) (L[k]::L.drop (k+1)) zq.symm
   have y5:=y2 L[k] (List.getElem_mem z6)
   have zj:=Sq ha ha y5.1
   have zt:L[k]∉(near++(L.take k).map fun s=>(s,d)).map (·.1):=by
    rw [List.map_append,List.mem_append,not_or];refine ⟨y5.2,fun h=> ?_⟩
    simp only [List.map_map,Function.comp_def,List.map_id'] at h;rw [←zq,List.nodup_append] at zn;exact zn.2.2 _ h _ List.mem_cons_self rfl
   have y6:(L.take (k+1)).map (fun s=>(s,d))=(L.take k).map (fun s=>(s,d))++[(L[k],d)]:=by rw [List.take_succ_eq_append_getElem z6,List.map_append];rfl
   have zd:=fun G'=>ih3 (k+1,G')
   simp only [y6,←List.append_assoc] at zd;generalize L[k]=s at *;clear zq y6 zn y2 y1;generalize near++(L.take k).map (fun s=>(s,d))=nr at *
   have yN:=(yk N y7 yj).trans hN
   have yNA:∀E,(Y++E)[N]? =some (.vars [.mref M]):=fun E=>Qa yN E
   simp only [kyP] at y3 y4
   repeat first|((first|refine ra ?_|refine rb ?_|refine rh ?_);simp [y3,y4,z6,yNA])|refine qf ?_|refine qg ?_
   refine w0s rfl rfl rfl rfl (s:=s) rfl (d:=d) rfl (near:=nr) (Qa yM _) zr zj zt ?_
   simp
   repeat first|((first|refine ra ?_|refine rb ?_|refine rh ?_);simp [yi])|refine qf ?_|refine qg ?_
   refine Qc (sl':=[(0,.i d),(3,.vptr N 0),(6,.bool false),(7,.list (L.map kyP)),(46,.list (L.map kyP)),(47,.i L.length),(48,.i (k+1:Nat))]) ?_ (by simp)
   refine zd _ ⟨by omega,Qi (Qa yM _) _,fun i hi zu=> ?_⟩ (by omega)
   have yl:i<Y.length:=Qg ((yk i hi zu).trans (List.getElem?_eq_getElem hi))
   rw [List.getElem?_set_ne (Ne.symm zu),List.getElem?_append_left yl];exact yk i hi zu
  ·have ze:k=L.length:=by simp at zp;omega
   subst ze;rw [List.take_length] at yM
   repeat first|((first|refine ra ?_|refine rb ?_|refine rh ?_);simp)|refine qf ?_|refine qg ?_
   exact ⟨yM,yk⟩
end Go.Abs
namespace Go.Abs
open Go Go.Proofs Go.Maps Go.RowKit
section
variable {P:Program} [Env P] {nt k:Nat} {S:AS} {ops:Array Oper} {o:Oper} {R:AS→Prop}
theorem L5 {wr:Bool} (hw:Q1 ops S o=some true) (hd:Wv nt o=true) (ho:o.op= .assign (.const (.map none))) (hR:R (S.putD o.dst .top)):Wq P nt k wr ops o S R:=
 v01 hw hd (fun W0 I0 w I m a z1 z6=>⟨.map none,by simp [execOp,ho,Act.eval],.pure (.top _)⟩) hR
end
theorem q0q (a:Aut) (near:Ut):Ry a near 0=L2 a near (R7 a a):=by
 unfold Ry L2;refine List.filter_congr fun s _=> ?_
 unfold S9 Gr
 cases lkN near s<;>simp
theorem z0g (a:Aut) (near:Ut) (d:Nat):Ry a near (d+1)=L2 a near (fun s=>L1 near (d:Int) (Wi a a s)):=by
 unfold Ry L2;refine List.filter_congr fun s _=> ?_
 unfold S9 Gr L1
 congr 1
 ·cases lkN near s<;>simp
 ·show (Wi a a s).any _=(Wi a a s).any _
  congr 1
  funext e
  cases lkN near e.2 with
  |none=>simp
  |some k=>
   simp
   omega
structure NB (a:Aut) (near:Ut):Prop where
 nk:NK near
 inn:∀e∈near,inP a e.1
 bd:∀e∈near,e.2≤1000000
theorem NB.len {a:Aut} {near:Ut} (h:NB a near):near.length≤a.fin.length * a.fin.length:=by
 have e:near.length=(near.map (·.1)).length:=by rw [List.length_map]
 rw [←U9,e];refine Yv _ _ h.nk.nd fun x hx=> ?_
 obtain ⟨e,he,rfl⟩:=List.mem_map.1 hx
 exact Pl (h.inn e he).1 (h.inn e he).2
theorem NB.add {a:Aut} (ha:OkA a) {near:Ut} (h:NB a near) (pf:Int×Int→Bool) (d:Nat) (hd:d≤1000000):NB a (near++(L2 a near pf).map fun s=>(s,d)):=by
 refine ⟨h.nk.round ha pf d (l:=L2 a near pf) (r:=[]) (by simp),fun e he=> ?_,fun e he=> ?_⟩
 rcases List.mem_append.1 he with he|he
 ·exact h.inn e he
 ·obtain ⟨s,hs,rfl⟩:=List.mem_map.1 he
  exact (J8 hs).1
 ·rcases List.mem_append.1 he with he|he
  ·exact h.bd e he
  ·obtain ⟨s,hs,rfl⟩:=List.mem_map.1 he
   exact hd
theorem w17 (a:Aut):NB a []:=⟨⟨by simp,by simp⟩,by simp,by simp⟩
theorem q0h (a:Aut) (f d:Nat) (near:Ut):Hf a (f+1) d near=if Ry a near d=[] then near else Hf a f (d+1) (near++(Ry a near d).map fun s=>(s,d)):=by rw [Hf]
theorem k0m (a:Aut):R9 a=Hf a (a.fin.length * a.fin.length+1) 1 ((Ry a [] 0).map fun s=>(s,0)):=rfl
attribute [local irreducible] Wb Ea Tp Wi R7 lkN L1 L2 Hf R9
set_option maxHeartbeats 8000000 in
theorem Sg (a:Aut) (ha:OkA a) (H:List AObj):FC Tryz.prog 89 [E4 a] H (fun r H'=>∃M,r= .mref M∧H.length≤M∧H'[M]? =some (mpN (R9 a))∧NB a (R9 a)∧∀i,i<H.length→H'[i]? =H[i]?):=by
 refine Wt tOk Tryz.func89 rfl Tryz.results89 rfl (by simp [Tryz.ntmps89]) ?_
 rw [Tryz.ntmps89];simp only [Qf];simp only [E4,Q6]
 have z6:=ha.fin
 repeat first|((first|refine ra ?_|refine rb ?_|refine rh ?_);simp)|refine qf ?_|refine qg ?_
 refine L5 rfl rfl rfl ?_
 simp
 repeat first|((first|refine ra ?_|refine rb ?_|refine rh ?_);simp)|refine qf ?_|refine qg ?_
 refine E7 rfl rfl rfl ?_
 simp
 repeat first|((first|refine ra ?_|refine rb ?_|refine rh ?_);simp)|refine qf ?_|refine qg ?_
 refine Tu fun Z hZ=> ?_
 have zA:Z[H.length]? =some (.vars (Q6 a)):=by rw [hZ,List.getElem?_append_right (by omega)];simp [Q6]
 have zM:Z[H.length+1]? =some (mpN []):=by rw [hZ,List.getElem?_append_right (by omega)];simp [mpN,kvN]
 have zN:Z[H.length+2]? =some (.vars [.mref (H.length+1)]):=by rw [hZ,List.getElem?_append_right (by omega)];simp
 have zC:Z[H.length+3]? =some (.vars [.i a.fin.length]):=by rw [hZ,List.getElem?_append_right (by omega)];simp
 have zk:∀i,i<H.length→Z[i]? =H[i]? :=fun i hi=>by rw [hZ,List.getElem?_append_left hi]
 clear hZ;refine Qz rfl rfl (B5 a ha Z (H.length+3) (H.length+2) (H.length+1) [] 0 (R7 a a) 146 [.vptr H.length 0] zC zN zM (w17 a).nk (fun p q H' hp hq hk=>FC.mono (c0k a ha H' H.length ((hk _ (Qg zA)).trans zA) p q hp hq) (fun r K ⟨h1,h2⟩=>⟨h1,fun i _=>by rw [h2]⟩))) rfl ?_
 rintro _ Y ⟨rfl,yM,yk⟩
 simp
 have yA:=(yk _ (Qg zA) (by omega)).trans zA
 have yN:=(yk _ (Qg zN) (by omega)).trans zN
 have yC:=(yk _ (Qg zC) (by omega)).trans zC
 have zc:=Qg zC
 have z7:∀i,i<H.length→Y[i]? =H[i]? :=fun i hi=>(yk i (by omega) (by omega)).trans (zk i hi)
 clear zA zM zN zC zk yk zc;clear Z
 have z8:=k0m a
 rw [q0q] at z8
 have za:=(w17 a).add ha (R7 a a) 0 (by omega)
 rw [List.nil_append] at yM za;generalize zd:(L2 a [] (R7 a a)).map (fun s=>(s,0))=near1 at *
 obtain ⟨R,hR⟩:∃R,R9 a=R:=⟨_,rfl⟩
 rw [hR] at z8 ⊢
 have zb:=Qg yC
 repeat first|((first|refine ra ?_|refine rb ?_|refine rh ?_);simp)|refine qf ?_|refine qg ?_
 refine Qq (Qc (sl':=[(1,.vptr H.length 0),(2,.top),(3,.vptr (H.length+2) 0),(4,.vptr (H.length+3) 0),(5,.fn (.func 145) [] [.vptr (H.length+3) 0,.vptr (H.length+2) 0]),(6,.vptr Y.length 0)]) ?_ (by simp))
 refine Qp (P:=Tryz.prog) (F:=fun (u:Nat×Nat×Ut×Nat×List AObj)=>⟨[(1,.vptr H.length 0),(2,.top),(3,.vptr (H.length+2) 0),(4,.vptr (H.length+3) 0),(5,.fn (.func 145) [] [.vptr (H.length+3) 0,.vptr (H.length+2) 0]),(6,.vptr u.1 0)],u.2.2.2.2⟩)
  (fun u=>NB a u.2.2.1∧1≤u.2.1∧u.2.1≤u.2.2.1.length+1∧a.fin.length * a.fin.length+1≤u.2.2.1.length+u.2.2.2.1∧R=Hf a u.2.2.2.1 u.2.1 u.2.2.1∧u.2.2.2.2[H.length]? =some (.vars (Q6 a))∧u.2.2.2.2[H.length+1]? =some (mpN u.2.2.1)∧u.2.2.2.2[H.length+2]? =some (.vars [.mref (H.length+1)])∧u.2.2.2.2[H.length+3]? =some (.vars [.i a.fin.length])∧u.2.2.2.2[u.1]? =some (.vars [.i u.2.1])∧∀i,i<H.length→u.2.2.2.2[i]? =H[i]?)
  (fun u=>u.2.2.2.1) ?_ (Y.length,1,near1,a.fin.length * a.fin.length+1,Y++[.vars [.i 1]]) ⟨za,Nat.le_refl _,by simp,by simp,z8,Qa yA _,Qa yM _,Qa yN _,Qa yC _,by simp,fun i hi=>by rw [List.getElem?_append_left (by omega)];exact z7 i hi⟩
 clear z8 za zd yA yM yN yC z7 zb;clear Y
 rintro ⟨D,d,near,F,G⟩ ⟨hb,ze,zf,hF,z1,gA,gM,gN,gC,gD,gk⟩ ih
 simp only at hb ze zf hF z1 gA gM gN gC gD gk ih ⊢
 have zi:=hb.len
 have zj:a.fin.length * a.fin.length≤65536:=Nat.le_trans (Nat.mul_le_mul z6.2 z6.2) (by decide)
 obtain ⟨e,rfl⟩:∃e,d=e+1:=⟨d - 1,by omega⟩
 obtain ⟨F,rfl⟩:∃f,F=f+1:=⟨F - 1,by omega⟩
 rw [q0h,z0g] at z1
 repeat first|((first|refine ra ?_|refine rb ?_|refine rh ?_);simp [gD])|refine qf ?_|refine qg ?_
 refine Qz rfl rfl (B5 a ha G (H.length+3) (H.length+2) (H.length+1) near (e+1) (fun s=>L1 near (e:Int) (Wi a a s)) 147 [.vptr H.length 0,.vptr (H.length+2) 0,.vptr D 0] gC gN gM hb.nk (fun p q H' hp hq hk=>FC.mono (c0t a ha H' H.length (H.length+2) (H.length+1) D near (e+1) ((hk _ (Qg gA)).trans gA) ((hk _ (Qg gN)).trans gN) ((hk _ (Qg gM)).trans gM) ((hk _ (Qg gD)).trans gD) (by omega) hb.nk p q hp hq) (fun r K ⟨h1,h2⟩=>⟨by rw [h1];congr 2;omega,h2⟩))) rfl ?_
 rintro _ Y ⟨rfl,yM,yk⟩
 simp
 have zg:D≠H.length+1:=fun e=>by rw [e,gM] at gD;simp [mpN] at gD
 have yD:=(yk _ (Qg gD) zg).trans gD
 have yA:=(yk _ (Qg gA) (by omega)).trans gA
 have yN:=(yk _ (Qg gN) (by omega)).trans gN
 have yC:=(yk _ (Qg gC) (by omega)).trans gC
 have zl:=Qg gC
 have z7:∀i,i<H.length→Y[i]? =H[i]? :=fun i hi=>(yk i (by omega) (by omega)).trans (gk i hi)
 have zh:=hb.add ha (fun s=>L1 near (e:Int) (Wi a a s)) (e+1) (by omega)
 generalize L2 a near (fun s=>L1 near (e:Int) (Wi a a s))=L at *
 refine Qb rfl (fun h=> ?_) (fun h=> ?_)
 ·have hL:0<L.length:=by simpa using h
  rw [if_neg (fun k=>by rw [k] at hL;simp at hL)] at z1
  have hw:IntKind.i64.wrap ((e:Int)+1+1)=e+1+1:=wrap_i64 _ (by omega) (by omega)
  repeat first|((first|refine ra ?_|refine rb ?_|refine rh ?_);simp [yD,hw])|refine qf ?_|refine qg ?_
  refine Qc (sl':=[(1,.vptr H.length 0),(2,.top),(3,.vptr (H.length+2) 0),(4,.vptr (H.length+3) 0),(5,.fn (.func 145) [] [.vptr (H.length+3) 0,.vptr (H.length+2) 0]),(6,.vptr Y.length 0)]) ?_ (by simp)
  have zb:=Qg yC
  refine ih (Y.length,e+1+1,near++L.map (fun s=>(s,e+1)),F,_) ⟨zh,by simp only;omega,by simp;omega,by simp;omega,z1,?_,?_,?_,?_,?_,fun i hi=> ?_⟩ (by simp only;omega)
  ·exact Qa yA _
  ·exact Qa yM _
  ·exact Qa yN _
  ·exact Qa yC _
  ·simp
  ·simp only;rw [List.getElem?_append_left (by omega)];exact z7 i hi
 ·have hL:L=[]:=by
   cases L with
   |nil=>rfl
   |cons x l=>simp at h
  subst hL;rw [if_pos rfl] at z1;subst z1
  repeat first|((first|refine ra ?_|refine rb ?_|refine rh ?_);simp [yN])|refine qf ?_|refine qg ?_
  refine ⟨by simpa using yM,hb,z7⟩
end Go.Abs
namespace Go.Abs
open Go Go.Proofs Go.Maps
end Go.Abs
namespace Go.Abs
open Go Go.Proofs Go.Maps Go.RowKit
theorem j1v (p q:Prd):Zg (Ql p) (Ql q)=Z7 (Qu p 0) (Qu q 0):=by
 have h1:decide (((Qu p 0).1:Int)<(Qu q 0).1)=decide ((Qu p 0).1<(Qu q 0).1):=by rw [decide_eq_decide];omega
 have h2:decide (((Qu p 0).1:Int)=(Qu q 0).1)=decide ((Qu p 0).1=(Qu q 0).1):=by rw [decide_eq_decide];omega
 unfold Zg Z7 Ql;simp only [h1,h2]
def c1u (p:Prd) (L:List Prd) (k:Nat):List Prd:=Tw p (L.take k)
def c11 (T:Nat) (l:List Prd) (i:Nat):List Prd:=Y1 T (l.take i)
def d1q (L:List Prd) (i:Nat):List Prd:=(L.take i).foldl y0u []
attribute [local irreducible] c1u c11 d1q W4 W3 Rg Wp f0v Y1 Tw Qu
end Go.Abs
namespace Go.Abs
open Go Go.Proofs Go.Maps Go.RowKit
def q2q (p:Prd):Bool:=p.any fun s=>decide (256<s.length)
def q2z (p:Prd):Int×Prd:=if q2q p then (5,[]) else (0,p)
attribute [local irreducible] Q8 El q2q
attribute [local irreducible] Yb q2z
end Go.Abs
namespace Go.Abs
open Go Go.Proofs Go.Maps Go.RowKit
attribute [local irreducible] Q5 Ql z05 z1t Rm Rb d0n nxB Yg K0 Wk
end Go.Abs
namespace Go.Abs
open Go Go.Proofs Go.Maps Go.RowKit
attribute [local irreducible] Iw Q5 Ql Hi Yo S6 En stepG Dd Bc K0 d0n nxB Yg c1l Wk
end Go.Abs
namespace Go.Abs
open Go Go.Proofs Go.Maps Go.RowKit
attribute [local irreducible] Er A1 Ud
end Go.Abs
namespace Go.Abs
open Go Go.Proofs Go.Maps Go.RowKit
attribute [local irreducible] O0 q09 Wk
attribute [local irreducible] Tz
def toD (a:Aut) (s:Int) (x:Sy) (j:Nat):Int:=match (a.mv.drop j).find? (fun m=>decide (m.src=s) && Tz m.on x) with|some m=>m.dst|none=> -1
attribute [local irreducible] toD toL
end Go.Abs
namespace Go.Abs
open Go Go.Proofs Go.Maps Go.RowKit
attribute [local irreducible] Ql Q8
end Go.Abs
