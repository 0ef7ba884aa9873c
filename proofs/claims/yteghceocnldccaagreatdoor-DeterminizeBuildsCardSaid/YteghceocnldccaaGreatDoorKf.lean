/- Part Kf of the proof: an abstract machine over the model, and what the functions of the program hand back in its terms. No condition. -/
import Derived.Test.YteghceocnldccaaGreatDoorKe
import Derived.Test.YteghceocnldccaaGreatDoorKc
import Derived.Shelf.Small.Bits
import Derived.Shelf.Strconv.Itoa0
import Derived.Shelf.Strconv.Itoa1
import Derived.Shelf.LaysM
import Derived.Shelf.Strconv.Itoa2
import Derived.Shelf.Strconv.AppendUint10
import Derived.Shelf.Strconv.AppendInt10
import Derived.Shelf.Strconv.AppendIntPublic10
import Derived.Test.YteghceocnldccaaGreatDoorProg
import Derived.Lib.AppendIntMem
import Derived.Lib.ItoaLen
import Derived.Lib.Slices
import Derived.Lib.Hide
import Derived.Laws.IdiomStrings
import Derived.OwnWalk
import Derived.WalkKit
import Derived.BigCall
set_option linter.all false
set_option maxRecDepth 100000
namespace Go.Abs
open Go Go.Proofs
set_option linter.unusedSimpArgs false
theorem fr_CloneB (l : List Bool) (hb : l.length ≤ 1000000) : FR Tryz.prog 129 [.list (l.map .bool)] 4 1 (fun r => r = l.map .bool) := by
 refine FR_body tOk Tryz.func129 rfl Tryz.results129 rfl (by simp [Tryz.ntmps129]) ?_
 rw [Tryz.ntmps129]
 simp only [argSlots]
 repeat first|((first|refine qa tOk rfl ?_|refine qb tOk rfl ?_|refine qh rfl ?_);simp)|refine qf ?_|refine qg ?_
 refine AStep_isnil tOk rfl rfl T22 rfl rfl rfl (fun b hb2 => ?_)
 simp
 refine AWP_cond2 rfl (fun h => ?_) (fun h => ?_)
 ·subst h
  have : l = [] := by
   cases hx : l
   ·rfl
   ·have := hb2 (by simp [hx]); cases this
  rw [this]
  repeat first|((first|refine qa tOk rfl ?_|refine qb tOk rfl ?_|refine qh rfl ?_);simp)|refine qf ?_|refine qg ?_
 ·repeat first|((first|refine qa tOk rfl ?_|refine qb tOk rfl ?_|refine qh rfl ?_);simp)|refine qf ?_|refine qg ?_
  refine AStep_appendS tOk rfl rfl T22 rfl T4 rfl (by decide) (by decide) rfl rfl rfl ?_
  simp
  refine ⟨⟨?_, by simp; omega⟩, ?_⟩
  ·intro y hy
   obtain ⟨x, _, rfl⟩ := List.mem_map.1 hy
   exact ⟨rfl, by simp [AV.cells, AV.leaf]⟩
  repeat first|((first|refine qa tOk rfl ?_|refine qb tOk rfl ?_|refine qh rfl ?_);simp)|refine qf ?_|refine qg ?_
theorem fr_CloneM (l : List Mv) (hb : l.length ≤ 1000000) : FR Tryz.prog 130 [.list (l.map encMv)] 78 3 (fun r => r = l.map encMv) := by
 refine FR_body tOk Tryz.func130 rfl Tryz.results130 rfl (by simp [Tryz.ntmps130]) ?_
 rw [Tryz.ntmps130]
 simp only [argSlots]
 repeat first|((first|refine qa tOk rfl ?_|refine qb tOk rfl ?_|refine qh rfl ?_);simp)|refine qf ?_|refine qg ?_
 refine AStep_isnil tOk rfl rfl T23 rfl rfl rfl (fun b hb2 => ?_)
 simp
 refine AWP_cond2 rfl (fun h => ?_) (fun h => ?_)
 ·subst h
  have : l = [] := by
   cases hx : l
   ·rfl
   ·have := hb2 (by simp [hx]); cases this
  rw [this]
  repeat first|((first|refine qa tOk rfl ?_|refine qb tOk rfl ?_|refine qh rfl ?_);simp)|refine qf ?_|refine qg ?_
 ·repeat first|((first|refine qa tOk rfl ?_|refine qb tOk rfl ?_|refine qh rfl ?_);simp)|refine qf ?_|refine qg ?_
  refine AStep_appendS tOk rfl rfl T23 rfl T78 rfl (by decide) (by decide) rfl rfl rfl ?_
  simp
  refine ⟨⟨?_, by simp; omega⟩, ?_⟩
  ·intro y hy
   obtain ⟨x, _, rfl⟩ := List.mem_map.1 hy
   exact ⟨rfl, by simp [AV.cells, AV.leaf]⟩
  repeat first|((first|refine qa tOk rfl ?_|refine qb tOk rfl ?_|refine qh rfl ?_);simp)|refine qf ?_|refine qg ?_
attribute [local irreducible] bigM
set_option maxHeartbeats 2000000 in
theorem fc_dlimited (H : List AObj) (f : Nat) (a : Aut) (hf : H[f]? = some (.arr 4 1 (a.fin.map .bool))) (hfl : a.fin.length ≤ 1000000) (hml : a.mv.length ≤ 1000000) :
  FC Tryz.prog 61 [.agg [.i a.types, .sl f 1 0 a.fin.length, .list (a.mv.map encMv)]] H
   (fun r H' => ((bigA a = true ∧ r = .tup [.agg [.i 0, .nils, .nils], .i 5]) ∨ (bigA a = false ∧ r = .tup [.agg [.i a.types, .sl f 1 0 a.fin.length, .list (a.mv.map encMv)], .i 0])) ∧ ∀ i, i < H.length → H'[i]? = H[i]?) := by
 refine FC_body tOk Tryz.func61 rfl Tryz.results61 rfl (by simp [Tryz.ntmps61]) ?_
 rw [Tryz.ntmps61]
 simp only [argSlots]
 repeat first|((first|refine qa tOk rfl ?_|refine qb tOk rfl ?_|refine qh rfl ?_);simp)|refine qf ?_|refine qg ?_
 refine AWP_cond2 rfl (fun h => ?_) (fun h => ?_)
 ·repeat first|((first|refine qa tOk rfl ?_|refine qb tOk rfl ?_|refine qh rfl ?_);simp)|refine qf ?_|refine qg ?_
  have hb : bigA a = true := by rw [bigA_eq, Bool.or_eq_true]; left; simp at h ⊢; omega
  exact ⟨hb, fun i hi => List.getElem?_append_left hi⟩
 have hb : (decide (256 < a.fin.length) || decide (2048 < a.mv.length)) = false := by simp at h ⊢; omega
 repeat first|((first|refine qa tOk rfl ?_|refine qb tOk rfl ?_|refine qh rfl ?_);simp)|refine qf ?_|refine qg ?_
 refine AWP_loop (ALoop_keep (sl' := [(1, .vptr H.length 0), (2, .vptr (H.length + 1) 0), (18, .list (a.mv.map encMv)), (19, .i a.mv.length), (20, .i (0 : Nat))]) ?_ (by simp))
 refine ALoop_wf (F := fun (u : Nat × List AObj) => ⟨[(1, .vptr H.length 0), (2, .vptr (H.length + 1) 0), (18, .list (a.mv.map encMv)), (19, .i a.mv.length), (20, .i u.1)], u.2⟩)
  (fun u => u.1 ≤ a.mv.length ∧ H.length + 2 ≤ u.2.length ∧ (∀ i, i < H.length → u.2[i]? = H[i]?) ∧ u.2[H.length]? = some (.vars [.i a.types, .sl f 1 0 a.fin.length, .list (a.mv.map encMv)]) ∧ u.2[H.length + 1]? = some (.vars [.i 0, .nils, .nils]) ∧ ∀ i, ∀ hi : i < a.mv.length, i < u.1 → bigM a.mv[i] = false) (fun u => a.mv.length - u.1) ?_ (0, _)
  ⟨by simp, by simp, fun i hi => List.getElem?_append_left hi, by simp, by simp, fun i hi h => by omega⟩
 rintro ⟨j, G⟩ ⟨hj, hG, k0, k1, k2, hI⟩ ih
 simp only at hj hG k0 k1 k2 hI ih ⊢
 repeat first|((first|refine qa tOk rfl ?_|refine qb tOk rfl ?_|refine qh rfl ?_);simp)|refine qf ?_|refine qg ?_
 refine AWP_cond2 rfl (fun hlt => ?_) (fun hge => ?_)
 ·have hlt' : j < a.mv.length := by simpa using hlt
  have hw : IntKind.i64.wrap ((j : Int) + 1) = j + 1 := wrap_i64 _ (by omega) (by omega)
  repeat first|((first|refine qa tOk rfl ?_|refine qb tOk rfl ?_|refine qh rfl ?_);simp [hlt'])|refine qf ?_|refine qg ?_
  refine AStep_PC rfl rfl (by simp) (pc_ContainsP a.mv[j].on 126 (fun s => decide (256 < s.length)) pc_big1) rfl ?_
  rintro _ rfl
  simp
  repeat first|((first|refine qa tOk rfl ?_|refine qb tOk rfl ?_|refine qh rfl ?_);simp)|refine qf ?_|refine qg ?_
  have k2' : ∀ L, (G ++ L)[H.length + 1]? = some (.vars [.i 0, .nils, .nils]) := fun L => get_app k2 L
  refine AWP_cond2 rfl (fun h => ?_) (fun h => ?_)
  ·have k3 : ∀ L Y, ((G ++ L).set (H.length + 1) Y)[H.length + 1]? = some Y := fun L Y => get_self (k2' L) Y
   repeat first|((first|refine qa tOk rfl ?_|refine qb tOk rfl ?_|refine qh rfl ?_);simp [k2', k3])|refine qf ?_|refine qg ?_
   have hm : bigM a.mv[j] = true := by unfold bigM; exact h
   have hb2 : bigA a = true := by rw [bigA_eq, Bool.or_eq_true]; right; exact List.any_eq_true.2 ⟨_, List.getElem_mem hlt', hm⟩
   exact ⟨hb2, fun i hi => by rw [List.getElem?_set_ne (by omega), List.getElem?_append_left (by omega)]; exact k0 i hi⟩
  ·have hm : bigM a.mv[j] = false := by unfold bigM; exact h
   repeat first|((first|refine qa tOk rfl ?_|refine qb tOk rfl ?_|refine qh rfl ?_);simp [hw])|refine qf ?_|refine qg ?_
   refine ALoop_keep (sl' := [(1, .vptr H.length 0), (2, .vptr (H.length + 1) 0), (18, .list (a.mv.map encMv)), (19, .i a.mv.length), (20, .i (j + 1 : Nat))]) ?_ (by simp)
   refine ih (j + 1, _) ⟨by simp only; omega, by simp; omega, fun i hi => (List.getElem?_append_left (by omega)).trans (k0 i hi), get_app k1 _, get_app k2 _, fun i hi hij => ?_⟩ (by simp only; omega)
   by_cases e : i = j
   ·subst e; exact hm
   ·exact hI i hi (by simp only at hij; omega)
 ·have hge' : j = a.mv.length := by simp at hge; omega
  subst hge'
  have hb2 : bigA a = false := by
   rw [bigA_eq, hb, Bool.false_or, List.any_eq_false]
   intro m hm
   obtain ⟨i, hi, rfl⟩ := List.getElem_of_mem hm
   rw [hI i hi hi]; simp
  have k3 : ∀ Y, (G.set (H.length + 1) Y)[H.length + 1]? = some Y := fun Y => get_self k2 Y
  repeat first|((first|refine qa tOk rfl ?_|refine qb tOk rfl ?_|refine qh rfl ?_);simp [k1, k2, k3])|refine qf ?_|refine qg ?_
  exact ⟨hb2, fun i hi => by rw [List.getElem?_set_ne (by omega)]; exact k0 i hi⟩
end Go.Abs
set_option maxRecDepth 100000
namespace Go.Abs
open Go Go.Proofs
set_option linter.unusedSimpArgs false
structure CM (H : List AObj) (a : Aut) (G : List AObj) (f p c : Nat) (xs : List AV) : Prop where
 b : G[H.length]? = some (.vars (cellsA a))
 r : G[H.length + 1]? = some (.vars [.i 0, .nils, .nils])
 k : ∀ i, i < H.length → G[i]? = H[i]?
 ce : G[c]? = some (.vars [.i a.types, .sl f 1 0 a.fin.length, .sl p 3 0 xs.length])
 fe : G[f]? = some (.arr 4 1 (a.fin.map .bool))
 m : G[p]? = some (.arr 78 3 xs)
 hf : H.length + 2 ≤ f
 hc : H.length + 2 ≤ c
 hp : H.length + 2 ≤ p
theorem CM.keepAll {H : List AObj} {a : Aut} {G G' : List AObj} {f p c : Nat} {xs : List AV} (h : CM H a G f p c xs) (hk : ∀ j, j < G.length → G'[j]? = G[j]?) : CM H a G' f p c xs := by
 have l1 := (List.getElem?_eq_some_iff.1 h.b).1
 have l2 := (List.getElem?_eq_some_iff.1 h.r).1
 have l3 := (List.getElem?_eq_some_iff.1 h.ce).1
 have l4 := (List.getElem?_eq_some_iff.1 h.fe).1
 have l5 := (List.getElem?_eq_some_iff.1 h.m).1
 exact ⟨(hk _ l1).trans h.b, (hk _ l2).trans h.r, fun i hi => (hk i (by omega)).trans (h.k i hi), (hk _ l3).trans h.ce, (hk _ l4).trans h.fe, (hk _ l5).trans h.m, h.hf, h.hc, h.hp⟩
theorem CM.ne1 {H : List AObj} {a : Aut} {G : List AObj} {f p c : Nat} {xs : List AV} (h : CM H a G f p c xs) : p ≠ c ∧ p ≠ f ∧ c ≠ f := by
 refine ⟨fun e => ?_, fun e => ?_, fun e => ?_⟩
 ·have h1 := h.ce; have h2 := h.m; subst e; rw [h1] at h2; simp at h2
 ·have h1 := h.fe; have h2 := h.m; subst e; rw [h1] at h2; simp at h2
 ·have h1 := h.fe; have h2 := h.ce; subst e; rw [h1] at h2; simp at h2
theorem CM.put {H : List AObj} {a : Aut} {G : List AObj} {f p c : Nat} {xs : List AV} (h : CM H a G f p c xs) (A : AObj) (ys : List AV) :
  CM H a ((G.set p .dead ++ [A, .arr 78 3 ys]).set c (.vars [.i a.types, .sl f 1 0 a.fin.length, .sl (G.length + 1) 3 0 ys.length])) f (G.length + 1) c ys := by
 obtain ⟨n1, n2, n3⟩ := h.ne1
 have l3 := (List.getElem?_eq_some_iff.1 h.ce).1
 have l5 := (List.getElem?_eq_some_iff.1 h.m).1
 have hp := h.hp
 have hc := h.hc
 have hf := h.hf
 have low : ∀ i x, i ≠ p → i ≠ c → G[i]? = some x → ((G.set p .dead ++ [A, .arr 78 3 ys]).set c (.vars [.i a.types, .sl f 1 0 a.fin.length, .sl (G.length + 1) 3 0 ys.length]))[i]? = some x := fun i x e1 e2 hx => by
  rw [List.getElem?_set_ne (fun e => e2 e.symm), List.getElem?_append_left (by have := (List.getElem?_eq_some_iff.1 hx).1; simpa using this), List.getElem?_set_ne (fun e => e1 e.symm)]; exact hx
 refine ⟨low _ _ (by omega) (by omega) h.b, low _ _ (by omega) (by omega) h.r, fun i hi => ?_, List.getElem?_set_self (by simp; omega), low _ _ (by omega) (by omega) h.fe, ?_, hf, hc, by omega⟩
 ·have hg := h.k i hi
  have hlt : i < G.length := by omega
  rw [List.getElem?_eq_getElem hlt] at hg
  rw [low i _ (by omega) (by omega) (List.getElem?_eq_getElem hlt)]; exact hg
 ·rw [List.getElem?_set_ne (by omega), List.getElem?_append_right (by simp)]; simp
theorem CM.cell {H : List AObj} {a : Aut} {G : List AObj} {f p c : Nat} {xs : List AV} (h : CM H a G f p c xs) (L : List AObj) : (G.set p .dead ++ L)[c]? = some (.vars [.i a.types, .sl f 1 0 a.fin.length, .sl p 3 0 xs.length]) :=
 get_app (get_set h.ne1.1 h.ce _) L
theorem CM.frz {H : List AObj} {a : Aut} {G : List AObj} {f p c : Nat} {xs : List AV} (h : CM H a G f p c xs) (X : AObj) :
  ((G.set p .dead).set c X)[H.length]? = some (.vars (cellsA a)) ∧ ((G.set p .dead).set c X)[H.length + 1]? = some (.vars [.i 0, .nils, .nils]) ∧ ((G.set p .dead).set c X)[c]? = some X ∧ ((G.set p .dead).set c X)[f]? = some (.arr 4 1 (a.fin.map .bool)) ∧ ∀ i, i < H.length → ((G.set p .dead).set c X)[i]? = H[i]? := by
 obtain ⟨n1, n2, n3⟩ := h.ne1
 have hp := h.hp
 have hc := h.hc
 have hf := h.hf
 refine ⟨get_set (by omega) (get_set (by omega) h.b _) _, get_set (by omega) (get_set (by omega) h.r _) _, get_self (get_set n1 h.ce _) _, get_set n3 (get_set n2 h.fe _) _, fun i hi => ?_⟩
 rw [List.getElem?_set_ne (by omega), List.getElem?_set_ne (by omega)]; exact h.k i hi
theorem norm_le' (l : List Iv) : (normR l).length ≤ l.length := by
 unfold normR
 have := pushes_len (isortR l) []
 rw [isort_len] at this
 simpa using this
theorem uni_le' {T : Nat} {l : List Prd} {k : Nat} (h : ∀ i, i < T → (setsAt l i).length ≤ k) : ∀ s ∈ uniP T l, s.length ≤ k := by
 intro s hs
 obtain ⟨i, hi, rfl⟩ := List.mem_map.1 hs
 exact Nat.le_trans (norm_le' _) (h i (List.mem_range.1 hi))
theorem ons_sets {a : Aut} (h : OkA a) (s : Int) (i : Nat) : (setsAt (onsA a s) i).length ≤ 1000000 := by
 have h1 : (onsA a s).length ≤ 2048 := by
  unfold onsA
  rw [List.length_map]
  exact Nat.le_trans (List.length_filter_le _ _) h.mvs
 have h2 : ∀ p ∈ onsA a s, PCk a.types.toNat p := fun p hp => by
  obtain ⟨m, hm, rfl⟩ := List.mem_map.1 hp
  exact (h.mv m (List.mem_filter.1 hm).1).on
 have := setsAt_le h2 i
 omega
def newU (a : Aut) (k : Nat) : List Mv := (List.range k).filterMap fun s : Nat => if voidP (lackP a s) then none else some ⟨s, a.fin.length, lackP a s⟩
theorem newU_all (a : Aut) : newU a a.fin.length = newMv a (lackP a) := rfl
theorem newU_snoc (a : Aut) (k : Nat) : newU a (k + 1) = newU a k ++ (if voidP (lackP a k) then [] else [⟨k, a.fin.length, lackP a k⟩]) := by
 unfold newU
 rw [List.range_succ, List.filterMap_append]
 cases h : voidP (lackP a k) <;> simp [h]
theorem newU_len (a : Aut) (k : Nat) : (newU a k).length ≤ k := by
 unfold newU
 exact Nat.le_trans (List.length_filterMap_le _ _) (by simp)
theorem newU_zero (a : Aut) : newU a 0 = [] := rfl
def onsU (a : Aut) (s : Int) (k : Nat) : List Prd := ((a.mv.take k).filter fun m => decide (m.src = s)).map (·.on)
theorem onsU_all (a : Aut) (s : Int) : onsU a s a.mv.length = onsA a s := by rw [onsU, List.take_length]; rfl
theorem onsU_snoc (a : Aut) (s : Int) (k : Nat) (h : k < a.mv.length) : onsU a s (k + 1) = onsU a s k ++ (if a.mv[k].src = s then [a.mv[k].on] else []) := by
 unfold onsU
 rw [List.take_succ_eq_append_getElem h, List.filter_append, List.map_append]
 by_cases hb : a.mv[k].src = s <;> simp [hb]
theorem onsU_len (a : Aut) (s : Int) (k : Nat) : (onsU a s k).length ≤ a.mv.length := by
 unfold onsU
 rw [List.length_map]
 exact Nat.le_trans (List.length_filter_le _ _) (by simp; omega)
attribute [local irreducible] newU lackP voidP uniP restP onsA
set_option maxHeartbeats 4000000 in
theorem fc_completed (H : List AObj) (a : Aut) (ha : OkA a) : FC Tryz.prog 71 [encA a] H
  (fun r H' => ((∃ e, cplP a = (e, zeroA) ∧ e ≠ 0 ∧ r = .tup [.agg [.i 0, .nils, .nils], .i e]) ∨
   (∃ b f, cplP a = (0, b) ∧ r = .tup [.agg [.i b.types, .sl f 1 0 b.fin.length, .list (b.mv.map encMv)], .i 0] ∧ H'[f]? = some (.arr 4 1 (b.fin.map .bool)) ∧ H.length ≤ f)) ∧ ∀ i, i < H.length → H'[i]? = H[i]?) := by
 have hfin := ha.fin
 have hmvs := ha.mvs
 refine FC_body tOk Tryz.func71 rfl Tryz.results71 rfl (by simp [Tryz.ntmps71]) ?_
 rw [Tryz.ntmps71]
 simp only [argSlots]
 simp only [encA]
 repeat first|((first|refine qa tOk rfl ?_|refine qb tOk rfl ?_|refine qh rfl ?_);simp)|refine qf ?_|refine qg ?_
 refine AWP_drawF (P := Tryz.prog) tOk mixed [10] (.val 0 (.val 1 (.val 2 (.val 3 (.val 5 (.val 6 (.two 4 (.two 7 (.val 8 (.one 9 (.one 10 (.done)))) 9 (.one 7 (.val 8 (.one 10 (.done))))) 9 (.one 4 (.one 7 (.val 8 (.one 10 (.done)))))))))))) (fun S' => ∃ f p c, CM H a S'.hp f p c (a.mv.map encMv) ∧ look S'.sl 1 = some (.vptr H.length 0) ∧ look S'.sl 2 = some (.vptr (H.length + 1) 0) ∧ look S'.sl 3 = some (.i 0) ∧ look S'.sl 4 = some (.vptr c 0)) rfl (by kernel_rfl) ?_ ?_
 ·simp
  refine ⟨?_, ?_⟩
  ·refine AStep_FR rfl rfl (by simp) (fr_CloneB a.fin (by omega)) rfl ?_
   rintro _ rfl
   simp
   refine ⟨?_, ?_⟩
   ·refine AStep_FR rfl rfl (by simp) (fr_CloneM a.mv (by omega)) rfl ?_
    rintro _ rfl
    simp
    exact ⟨H.length + 2, H.length + 3, by simp, by simp, fun i hi => List.getElem?_append_left hi, by simp, by simp, by simp, by omega, by omega, by omega⟩
   ·refine AStep_FR rfl rfl (by simp) (fr_CloneM a.mv (by omega)) rfl ?_
    rintro _ rfl
    simp
    exact ⟨H.length + 2, H.length + 4, by simp, by simp, fun i hi => List.getElem?_append_left hi, by simp, by simp, by simp, by omega, by omega, by omega⟩
  ·refine AStep_FR rfl rfl (by simp) (fr_CloneB a.fin (by omega)) rfl ?_
   rintro _ rfl
   simp
   refine AStep_FR rfl rfl (by simp) (fr_CloneM a.mv (by omega)) rfl ?_
   rintro _ rfl
   simp
   exact ⟨H.length + 3, H.length + 4, by simp, by simp, fun i hi => List.getElem?_append_left hi, by simp, by simp, by simp, by omega, by omega, by omega⟩
 ·rintro ⟨sl, G⟩ ⟨f, p, c, g, e1, e2, e3, e4⟩
  simp only at g e1 e2 e3 e4
  refine AWP_keep (sl' := [(1, .vptr H.length 0), (2, .vptr (H.length + 1) 0), (3, .i 0), (4, .vptr c 0)]) ?_ (by simp [e1, e2, e3, e4])
  have g1 := g.b
  repeat first|((first|refine qa tOk rfl ?_|refine qb tOk rfl ?_|refine qh rfl ?_);simp [g1])|refine qf ?_|refine qg ?_
  refine AWP_loop (ALoop_keep (sl' := [(1, .vptr H.length 0), (2, .vptr (H.length + 1) 0), (3, .i 0), (4, .vptr c 0), (5, .i a.fin.length), (27, .i a.fin.length), (28, .i (0 : Nat))]) ?_ (by simp))
  refine ALoop_wf (F := fun (u : Nat × Nat × List AObj) => ⟨[(1, .vptr H.length 0), (2, .vptr (H.length + 1) 0), (3, .i 0), (4, .vptr c 0), (5, .i a.fin.length), (27, .i a.fin.length), (28, .i u.1)], u.2.2⟩)
   (fun u => u.1 ≤ a.fin.length ∧ CM H a u.2.2 f u.2.1 c ((a.mv ++ newU a u.1).map encMv)) (fun u => a.fin.length - u.1) ?_ (0, p, G) ⟨by simp, by rw [newU_zero, List.append_nil]; exact g⟩
  clear g g1
  rintro ⟨s, p, G⟩ ⟨hs, g⟩ ih
  simp only at hs g ih ⊢
  repeat first|((first|refine qa tOk rfl ?_|refine qb tOk rfl ?_|refine qh rfl ?_);simp)|refine qf ?_|refine qg ?_
  refine AWP_cond2 rfl (fun hlt => ?_) (fun hge => ?_)
  ·have hlt' : s < a.fin.length := by simpa using hlt
   have hw : IntKind.i64.wrap ((s : Int) + 1) = s + 1 := wrap_i64 _ (by omega) (by omega)
   have g1 : ∀ L, (G ++ L)[H.length]? = some (.vars (cellsA a)) := fun L => get_app g.b L
   repeat first|((first|refine qa tOk rfl ?_|refine qb tOk rfl ?_|refine qh rfl ?_);simp [g1])|refine qf ?_|refine qg ?_
   have hst := SL.start G 76 1
   refine AWP_loop (ALoop_keep (sl' := [(1, .vptr H.length 0), (2, .vptr (H.length + 1) 0), (3, .i 0), (4, .vptr c 0), (5, .i a.fin.length), (6, .i s), (7, .sl G.length 1 0 0), (27, .i a.fin.length), (28, .i s), (33, .list (a.mv.map encMv)), (34, .i a.mv.length), (35, .i (0 : Nat))]) ?_ (by simp))
   refine ALoop_wf (F := fun (u : Nat × Nat × List AObj) => ⟨[(1, .vptr H.length 0), (2, .vptr (H.length + 1) 0), (3, .i 0), (4, .vptr c 0), (5, .i a.fin.length), (6, .i s), (7, .sl u.2.1 1 0 (onsU a s u.1).length), (27, .i a.fin.length), (28, .i s), (33, .list (a.mv.map encMv)), (34, .i a.mv.length), (35, .i u.1)], u.2.2⟩)
    (fun u => u.1 ≤ a.mv.length ∧ SL G u.2.2 u.2.1 76 1 ((onsU a s u.1).map encP)) (fun u => a.mv.length - u.1) ?_ (0, G.length, _) ⟨by simp, hst⟩
   rintro ⟨k, q, E⟩ ⟨hk, s1⟩ ih2
   simp only at hk s1 ih2 ⊢
   repeat first|((first|refine qa tOk rfl ?_|refine qb tOk rfl ?_|refine qh rfl ?_);simp)|refine qf ?_|refine qg ?_
   refine AWP_cond2 rfl (fun hlt2 => ?_) (fun hge2 => ?_)
   ·have hlt2' : k < a.mv.length := by simpa using hlt2
    have hw2 : IntKind.i64.wrap ((k : Int) + 1) = k + 1 := wrap_i64 _ (by omega) (by omega)
    have hnx := onsU_snoc a s k hlt2'
    have hol := onsU_len a s k
    have ih2' := fun q' E' => ih2 (k + 1, q', E')
    simp only [hnx] at ih2'
    clear hnx
    generalize onsU a s k = acc at *
    repeat first|((first|refine qa tOk rfl ?_|refine qb tOk rfl ?_|refine qh rfl ?_);simp [hlt2'])|refine qf ?_|refine qg ?_
    by_cases hb : a.mv[k].src = s
    ·rw [if_pos hb] at ih2'
     refine AWP_cond2 rfl (fun _ => ?_) (fun h => by simp [hb] at h)
     repeat first|((first|refine qa tOk rfl ?_|refine qb tOk rfl ?_|refine qh rfl ?_);simp)|refine qf ?_|refine qg ?_
     refine AStep_appendS tOk rfl rfl T91 rfl T76 rfl (by decide) (by decide) rfl rfl rfl ?_
     simp [get_app s1.arr, set_app s1.arr]
     refine ⟨by simp [appOk, get_app s1.arr, set_app s1.arr] <;> omega, ?_⟩
     repeat first|((first|refine qa tOk rfl ?_|refine qb tOk rfl ?_|refine qh rfl ?_);simp [hw2])|refine qf ?_|refine qg ?_
     refine ALoop_keep (sl' := [(1, .vptr H.length 0), (2, .vptr (H.length + 1) 0), (3, .i 0), (4, .vptr c 0), (5, .i a.fin.length), (6, .i s), (7, .sl (E.length + 2) 1 0 (acc.length + 1)), (27, .i a.fin.length), (28, .i s), (33, .list (a.mv.map encMv)), (34, .i a.mv.length), (35, .i (k + 1 : Nat))]) ?_ (by simp)
     have := ih2' (E.length + 2) _ ⟨by omega, s1.put [AObj.vars [AV.i a.mv[k].src, AV.i a.mv[k].dst, AV.list (a.mv[k].on.map encL)], .arr 76 1 [encP a.mv[k].on]] ((acc ++ [a.mv[k].on]).map encP) rfl⟩ (by omega)
     simpa using this
    ·rw [if_neg hb, List.append_nil] at ih2'
     refine AWP_cond2 rfl (fun h => by simp [hb] at h) (fun _ => ?_)
     repeat first|((first|refine qa tOk rfl ?_|refine qb tOk rfl ?_|refine qh rfl ?_);simp [hw2])|refine qf ?_|refine qg ?_
     refine ALoop_keep (sl' := [(1, .vptr H.length 0), (2, .vptr (H.length + 1) 0), (3, .i 0), (4, .vptr c 0), (5, .i a.fin.length), (6, .i s), (7, .sl q 1 0 acc.length), (27, .i a.fin.length), (28, .i s), (33, .list (a.mv.map encMv)), (34, .i a.mv.length), (35, .i (k + 1 : Nat))]) ?_ (by simp)
     have := ih2' q _ ⟨by omega, s1.add [AObj.vars [AV.i a.mv[k].src, AV.i a.mv[k].dst, AV.list (a.mv[k].on.map encL)]]⟩ (by omega)
     simpa using this
   ·have hge2' : k = a.mv.length := by simp at hge2; omega
    subst hge2'
    rw [onsU_all] at s1 ⊢
    refine AWP_freeze1 q s1.arr ?_
    simp
    rw [List.take_of_length_le (by simp)]
    have hqg := s1.ge
    have hql := s1.le
    have g' := g.keepAll (G' := E.set q .dead) (fun j hj => by rw [List.getElem?_set_ne (by omega)]; exact s1.keep j hj)
    generalize E.set q .dead = G2 at *
    clear s1 hst g1
    have g1 := g'.b
    repeat first|((first|refine qa tOk rfl ?_|refine qb tOk rfl ?_|refine qh rfl ?_);simp [g1])|refine qf ?_|refine qg ?_
    have hTn : ((a.types.toNat : Nat) : Int) = a.types := by have := ha.types; omega
    have hcu := pc_union a.types.toNat (onsA a s) (by have := ha.types; omega) (ons_wf ha.wfA s) (fun i _ => ons_sets ha s i) (by have := onsU_len a s a.mv.length; rw [onsU_all] at this; omega)
    rw [hTn] at hcu
    refine AStep_PC rfl rfl (by simp) (hcu) rfl ?_
    rintro _ rfl
    simp
    refine AStep_PC rfl rfl (by simp) (pc_drest a.types.toNat (uniP a.types.toNat (onsA a s)) (wf_uni (ons_wf ha.wfA s)) (uni_le' (fun i _ => ons_sets ha s i)) (by have := ha.types; omega)) rfl ?_
    rintro _ rfl
    simp
    have hlk : restP (uniP a.types.toNat (onsA a s)) = lackP a s := by unfold lackP; rfl
    rw [hlk]
    repeat first|((first|refine qa tOk rfl ?_|refine qb tOk rfl ?_|refine qh rfl ?_);simp)|refine qf ?_|refine qg ?_
    refine AStep_PC rfl rfl (by simp) (pc_dvoid (lackP a s)) rfl ?_
    rintro _ rfl
    simp
    repeat first|((first|refine qa tOk rfl ?_|refine qb tOk rfl ?_|refine qh rfl ?_);simp)|refine qf ?_|refine qg ?_
    have g3 := g'.keepAll (G' := G2 ++ [AObj.vars [AV.list ((lackP a s).map encL)]]) (fun j hj => List.getElem?_append_left hj)
    have h10 : (G2 ++ [AObj.vars [AV.list ((lackP a s).map encL)]])[G2.length]? = some (AObj.vars [AV.list ((lackP a s).map encL)]) := by simp
    generalize G2 ++ [AObj.vars [AV.list ((lackP a s).map encL)]] = G3 at *
    have hnx := newU_snoc a s
    have hnl := newU_len a s
    have ihn := fun p' G' => ih (s + 1, p', G')
    simp only [hnx] at ihn
    clear hnx g'
    generalize newU a s = new at *
    have hxl : (a.mv ++ new).length = a.mv.length + new.length := by simp
    obtain ⟨d1, d2, d3⟩ := g3.ne1
    have g3c := g3.ce
    have g3m := g3.m
    have g3cc := g3.cell
    rw [List.length_map, hxl] at g3c g3cc
    cases hv : voidP (lackP a s) with
    | true =>
     rw [hv] at ihn
     refine AWP_cond rfl ?_
     simp [hv]
     repeat first|((first|refine qa tOk rfl ?_|refine qb tOk rfl ?_|refine qh rfl ?_);simp [hw])|refine qf ?_|refine qg ?_
     refine ALoop_keep (sl' := [(1, .vptr H.length 0), (2, .vptr (H.length + 1) 0), (3, .i 0), (4, .vptr c 0), (5, .i a.fin.length), (27, .i a.fin.length), (28, .i (s + 1 : Nat))]) ?_ (by simp)
     have := ihn p G3 ⟨by omega, by simpa using g3⟩ (by omega)
     exact this
    | false =>
     rw [hv] at ihn
     refine AWP_cond rfl ?_
     simp [hv]
     repeat first|((first|refine qa tOk rfl ?_|refine qb tOk rfl ?_|refine qh rfl ?_);simp [g3c, h10])|refine qf ?_|refine qg ?_
     refine AStep_appendS tOk rfl rfl T23 rfl T78 rfl (by decide) (by decide) rfl rfl rfl ?_
     simp [get_app g3m, set_app g3m, g3cc, get_app g3c]
     refine ⟨by simp [appOk, get_app g3m, set_app g3m, g3cc, get_app g3c] <;> omega, ?_⟩
     repeat first|((first|refine qa tOk rfl ?_|refine qb tOk rfl ?_|refine qh rfl ?_);simp [hw, g3cc])|refine qf ?_|refine qg ?_
     refine ALoop_keep (sl' := [(1, .vptr H.length 0), (2, .vptr (H.length + 1) 0), (3, .i 0), (4, .vptr c 0), (5, .i a.fin.length), (27, .i a.fin.length), (28, .i (s + 1 : Nat))]) ?_ (by simp)
     have hp3 := g3.put (.arr 78 3 [encMv (⟨s, a.fin.length, lackP a s⟩ : Mv)]) ((a.mv ++ (new ++ [(⟨s, a.fin.length, lackP a s⟩ : Mv)])).map encMv)
     have := ihn (G3.length + 1) _ ⟨by omega, hp3⟩ (by omega)
     simpa [Nat.add_assoc] using this
  ·have hge' : s = a.fin.length := by simp at hge; omega
   subst hge'
   rw [newU_all] at g
   have hcp : cplP a = if (newMv a (lackP a)).isEmpty then (0, a) else limA (comA a) := rfl
   obtain ⟨d1, d2, d3⟩ := g.ne1
   have hgf := g.hf
   have hgc := g.hc
   have hgp := g.hp
   have hnl : (newMv a (lackP a)).length ≤ a.fin.length := by rw [← newU_all]; exact newU_len a _
   by_cases hn : newMv a (lackP a) = []
   ·rw [hn] at hcp
    rw [hn, List.append_nil] at g
    have gz := g.frz (.vars [.i a.types, .sl f 1 0 a.fin.length, .list (a.mv.map encMv)])
    refine AWP_freezeC p g.m c g.ce ?_
    simp [d2.symm]
    rw [List.take_of_length_le (by simp)]
    generalize (G.set p AObj.dead).set c (.vars [.i a.types, .sl f 1 0 a.fin.length, .list (a.mv.map encMv)]) = E at *
    obtain ⟨q1, q2, q3, q4, q5⟩ := gz
    have q6 : ∀ Y, (E.set (H.length + 1) Y)[H.length + 1]? = some Y := fun Y => get_self q2 Y
    repeat first|((first|refine qa tOk rfl ?_|refine qb tOk rfl ?_|refine qh rfl ?_);simp [q1, q2, q3])|refine qf ?_|refine qg ?_
    refine AWP_cond rfl ?_
    simp
    repeat first|((first|refine qa tOk rfl ?_|refine qb tOk rfl ?_|refine qh rfl ?_);simp [q1, q2, q3, q6])|refine qf ?_|refine qg ?_
    exact ⟨⟨a, by simpa using hcp, f, ⟨rfl, ⟨rfl, rfl⟩, rfl⟩, get_set (by omega) q4 _, by omega⟩, fun i hi => by rw [List.getElem?_set_ne (by omega)]; exact q5 i hi⟩
   ·have hcp2 : cplP a = limA (comA a) := by rw [hcp, if_neg (by simpa using hn)]
    have gm := g.ce
    rw [List.length_map, List.length_append] at gm
    have gb := g.b
    repeat first|((first|refine qa tOk rfl ?_|refine qb tOk rfl ?_|refine qh rfl ?_);simp [gb, gm])|refine qf ?_|refine qg ?_
    have hne : (newMv a (lackP a)).length ≠ 0 := by simpa using hn
    refine AWP_cond2 rfl (fun h => by simp at h; omega) (fun h => ?_)
    repeat first|((first|refine qa tOk rfl ?_|refine qb tOk rfl ?_|refine qh rfl ?_);simp [gb])|refine qf ?_|refine qg ?_
    refine AStep_PC rfl rfl (by simp) (pc_All a.types ha.types.1 ha.types.2) rfl ?_
    rintro _ rfl
    simp
    repeat first|((first|refine qa tOk rfl ?_|refine qb tOk rfl ?_|refine qh rfl ?_);simp)|refine qf ?_|refine qg ?_
    refine AWP_cond2 rfl (fun h => by simp at h) (fun _ => ?_)
    have g3 := g.keepAll (G' := G ++ [AObj.vars [AV.list ((wholeP a.types.toNat).map encL)]]) (fun j hj => List.getElem?_append_left hj)
    have h11 : (G ++ [AObj.vars [AV.list ((wholeP a.types.toNat).map encL)]])[G.length]? = some (AObj.vars [AV.list ((wholeP a.types.toNat).map encL)]) := by simp
    generalize G ++ [AObj.vars [AV.list ((wholeP a.types.toNat).map encL)]] = G1 at *
    have k1 := g3.ce
    rw [List.length_map, List.length_append] at k1
    have k2 := g3.fe
    have k3 : ∀ L, (G1.set f .dead ++ L)[c]? = some (.vars [.i a.types, .sl f 1 0 a.fin.length, .sl p 3 0 (a.mv.length + (newMv a (lackP a)).length)]) := fun L => get_app (get_set d3.symm k1 _) L
    repeat first|((first|refine qa tOk rfl ?_|refine qb tOk rfl ?_|refine qh rfl ?_);simp [k1])|refine qf ?_|refine qg ?_
    refine AStep_appendS tOk rfl rfl T22 rfl T4 rfl (by decide) (by decide) rfl rfl rfl ?_
    simp [get_app k2, set_app k2, get_app k1, k3]
    refine ⟨by simp [appOk, get_app k2, set_app k2, get_app k1, k3] <;> omega, ?_⟩
    have lf := (List.getElem?_eq_some_iff.1 k2).1
    have lc := (List.getElem?_eq_some_iff.1 k1).1
    have lp := (List.getElem?_eq_some_iff.1 g3.m).1
    have low : ∀ (X : AObj) i x, i ≠ f → i ≠ c → G1[i]? = some x → ((G1.set f .dead ++ [AObj.arr 4 1 [AV.bool false], AObj.arr 4 1 (a.fin.map AV.bool ++ [AV.bool false])]).set c X)[i]? = some x := fun X i x e1 e2 hx => by
     rw [List.getElem?_set_ne (fun e => e2 e.symm), List.getElem?_append_left (by have := (List.getElem?_eq_some_iff.1 hx).1; simpa using this), List.getElem?_set_ne (fun e => e1 e.symm)]; exact hx
    have hG1 := (List.getElem?_eq_some_iff.1 h11).1
    have r2 := low (.vars [.i a.types, .sl (G1.length + 1) 1 0 (a.fin.length + 1), .sl p 3 0 (a.mv.length + (newMv a (lackP a)).length)]) _ _ (by omega) (by omega) g3.r
    have m2 := low (.vars [.i a.types, .sl (G1.length + 1) 1 0 (a.fin.length + 1), .sl p 3 0 (a.mv.length + (newMv a (lackP a)).length)]) _ _ d2 d1 g3.m
    have w2 := low (.vars [.i a.types, .sl (G1.length + 1) 1 0 (a.fin.length + 1), .sl p 3 0 (a.mv.length + (newMv a (lackP a)).length)]) _ _ (fun e => by rw [e, k2] at h11; simp at h11) (fun e => by rw [e, k1] at h11; simp at h11) h11
    have c2 : ((G1.set f .dead ++ [AObj.arr 4 1 [AV.bool false], AObj.arr 4 1 (a.fin.map AV.bool ++ [AV.bool false])]).set c (.vars [.i a.types, .sl (G1.length + 1) 1 0 (a.fin.length + 1), .sl p 3 0 (a.mv.length + (newMv a (lackP a)).length)]))[c]? = some (.vars [.i a.types, .sl (G1.length + 1) 1 0 (a.fin.length + 1), .sl p 3 0 (a.mv.length + (newMv a (lackP a)).length)]) := get_self (k3 _) _
    have f2 : ((G1.set f .dead ++ [AObj.arr 4 1 [AV.bool false], AObj.arr 4 1 (a.fin.map AV.bool ++ [AV.bool false])]).set c (.vars [.i a.types, .sl (G1.length + 1) 1 0 (a.fin.length + 1), .sl p 3 0 (a.mv.length + (newMv a (lackP a)).length)]))[G1.length + 1]? = some (.arr 4 1 ((comA a).fin.map AV.bool)) := by
     rw [List.getElem?_set_ne (by omega), List.getElem?_append_right (by simp)]; simp [comA]
    have q2 : ∀ i, i < H.length → ((G1.set f .dead ++ [AObj.arr 4 1 [AV.bool false], AObj.arr 4 1 (a.fin.map AV.bool ++ [AV.bool false])]).set c (.vars [.i a.types, .sl (G1.length + 1) 1 0 (a.fin.length + 1), .sl p 3 0 (a.mv.length + (newMv a (lackP a)).length)]))[i]? = H[i]? := fun i hi => by
     rw [List.getElem?_set_ne (by omega), List.getElem?_append_left (by simp; omega), List.getElem?_set_ne (by omega)]; exact g3.k i hi
    generalize (G1.set f .dead ++ [AObj.arr 4 1 [AV.bool false], AObj.arr 4 1 (a.fin.map AV.bool ++ [AV.bool false])]).set c (.vars [.i a.types, .sl (G1.length + 1) 1 0 (a.fin.length + 1), .sl p 3 0 (a.mv.length + (newMv a (lackP a)).length)]) = E at *
    have k4 : ∀ L, (E.set p .dead ++ L)[c]? = some (.vars [.i a.types, .sl (G1.length + 1) 1 0 (a.fin.length + 1), .sl p 3 0 (a.mv.length + (newMv a (lackP a)).length)]) := fun L => get_app (get_set d1 c2 _) L
    have hml : (comA a).mv.length = a.mv.length + (newMv a (lackP a)).length + 1 := by simp [comA]; omega
    have hfl : (comA a).fin.length = a.fin.length + 1 := by simp [comA]
    have hmm : (a.mv ++ newMv a (lackP a)).map encMv ++ [encMv ⟨a.fin.length, a.fin.length, wholeP a.types.toNat⟩] = (comA a).mv.map encMv := by simp [comA]
    have lcE := (List.getElem?_eq_some_iff.1 c2).1
    have lpE := (List.getElem?_eq_some_iff.1 m2).1
    have lfE := (List.getElem?_eq_some_iff.1 f2).1
    repeat first|((first|refine qa tOk rfl ?_|refine qb tOk rfl ?_|refine qh rfl ?_);simp [c2, w2])|refine qf ?_|refine qg ?_
    refine AStep_appendS tOk rfl rfl T23 rfl T78 rfl (by decide) (by decide) rfl rfl rfl ?_
    simp [get_app m2, set_app m2, get_app c2, k4]
    refine ⟨by simp [appOk, get_app m2, set_app m2, get_app c2, k4] <;> omega, ?_⟩
    have hB : a.mv.map encMv ++ ((newMv a (lackP a)).map encMv ++ [AV.agg [AV.int IntKind.i64 ↑a.fin.length, AV.int IntKind.i64 ↑a.fin.length, AV.list ((wholeP a.types.toNat).map encL)]]) = (comA a).mv.map encMv := by simp [comA]
    rw [hB]
    refine AWP_abs fun Z hZ => ?_
    have z1 : Z[E.length + 1]? = some (.arr 78 3 ((comA a).mv.map encMv)) := by
     rw [hZ, List.getElem?_set_ne (by omega), List.getElem?_append_right (by simp)]; simp
    have z2 : Z[c]? = some (.vars [.i a.types, .sl (G1.length + 1) 1 0 (a.fin.length + 1), .sl (E.length + 1) 3 0 (a.mv.length + (newMv a (lackP a)).length + 1)]) := by
     rw [hZ, List.getElem?_set_self (by simp; omega)]
    have zr : Z[H.length + 1]? = some (.vars [.i 0, .nils, .nils]) := by
     rw [hZ, List.getElem?_set_ne (by omega), List.getElem?_append_left (by simp; omega), List.getElem?_set_ne (by omega)]; exact r2
    have zf : Z[G1.length + 1]? = some (.arr 4 1 ((comA a).fin.map AV.bool)) := by
     rw [hZ, List.getElem?_set_ne (by omega), List.getElem?_append_left (by simp; omega), List.getElem?_set_ne (by omega)]; exact f2
    have zk : ∀ i, i < H.length → Z[i]? = H[i]? := fun i hi => by
     rw [hZ, List.getElem?_set_ne (by omega), List.getElem?_append_left (by simp; omega), List.getElem?_set_ne (by omega)]; exact q2 i hi
    have zl : E.length + 2 = Z.length := by rw [hZ]; simp
    clear hZ
    refine AWP_keep (sl' := [(2, .vptr (H.length + 1) 0), (4, .vptr c 0)]) ?_ (by simp)
    refine AWP_freezeC (E.length + 1) z1 c z2 ?_
    have hgne : G1.length + 1 ≠ E.length + 1 := by omega
    simp [hgne, hml]
    rw [List.take_of_length_le (by simp [hml])]
    refine AWP_abs fun Y hY => ?_
    have y2 : Y[c]? = some (.vars [.i a.types, .sl (G1.length + 1) 1 0 (a.fin.length + 1), .list ((comA a).mv.map encMv)]) := by
     rw [hY, List.getElem?_set_self (by simp; omega)]
    have yr : Y[H.length + 1]? = some (.vars [.i 0, .nils, .nils]) := by
     rw [hY, List.getElem?_set_ne (by omega), List.getElem?_set_ne (by omega)]; exact zr
    have yf : Y[G1.length + 1]? = some (.arr 4 1 ((comA a).fin.map AV.bool)) := by
     rw [hY, List.getElem?_set_ne (by omega), List.getElem?_set_ne (by omega)]; exact zf
    have yk : ∀ i, i < H.length → Y[i]? = H[i]? := fun i hi => by
     rw [hY, List.getElem?_set_ne (by omega), List.getElem?_set_ne (by omega)]; exact zk i hi
    have yl : Y.length = Z.length := by rw [hY]; simp
    clear hY
    repeat first|((first|refine qa tOk rfl ?_|refine qb tOk rfl ?_|refine qh rfl ?_);simp [y2])|refine qf ?_|refine qg ?_
    rw [← hfl]
    refine AStep_FC rfl rfl (fc_dlimited Y (G1.length + 1) (comA a) yf (by omega) (by omega)) rfl ?_
    rintro r H' ⟨hr, hk'⟩
    have hr1 := (hk' (H.length + 1) (by omega)).trans yr
    have hr2 : ∀ X, (H'.set (H.length + 1) X)[H.length + 1]? = some X := fun X => get_self hr1 X
    rcases hr with ⟨hb, rfl⟩ | ⟨hb, rfl⟩
    ·have hcp3 : cplP a = (5, zeroA) := by rw [hcp2, limA, if_pos hb]
     simp [hr1]
     repeat first|((first|refine qa tOk rfl ?_|refine qb tOk rfl ?_|refine qh rfl ?_);simp [hr2])|refine qf ?_|refine qg ?_
     refine ⟨hcp3, fun i hi => ?_⟩
     rw [List.getElem?_set_ne (by omega), hk' i (by omega)]; exact yk i hi
    ·have hcp3 : cplP a = (0, comA a) := by rw [hcp2, limA, hb, if_neg (by simp)]
     have hct : (comA a).types = a.types := rfl
     simp [hr1]
     repeat first|((first|refine qa tOk rfl ?_|refine qb tOk rfl ?_|refine qh rfl ?_);simp [hr2])|refine qf ?_|refine qg ?_
     refine ⟨⟨comA a, hcp3, G1.length + 1, ⟨by rw [hct], ⟨rfl, rfl⟩, rfl⟩, ?_, by omega⟩, fun i hi => ?_⟩
     ·rw [List.getElem?_set_ne (by omega), hk' _ (by omega)]; exact yf
     ·rw [List.getElem?_set_ne (by omega), hk' i (by omega)]; exact yk i hi
end Go.Abs
set_option maxRecDepth 100000
namespace Go.Abs
open Go Go.Proofs
set_option linter.unusedSimpArgs false
attribute [local irreducible] cplP ckAut
set_option maxHeartbeats 2000000 in
theorem pc_Complete (a : Aut) : PC Tryz.prog 23 [encA a] (fun r => r = .tup [encA (comF a).2, .i (comF a).1]) := by
 refine PC_body tOk Tryz.func23 rfl Tryz.results23 rfl (by simp [Tryz.ntmps23]) ?_
 rw [Tryz.ntmps23]
 simp only [argSlots]
 simp only [encA]
 repeat first|((first|refine qa tOk rfl ?_|refine qb tOk rfl ?_|refine qh rfl ?_);simp)|refine qf ?_|refine qg ?_
 refine AStep_PC rfl rfl (by simp) (pc_sCheck a) rfl ?_
 rintro _ rfl
 simp
 repeat first|((first|refine qa tOk rfl ?_|refine qb tOk rfl ?_|refine qh rfl ?_);simp)|refine qf ?_|refine qg ?_
 refine AWP_cond2 rfl (fun h => ?_) (fun h => ?_)
 ·have h' : ckAut a ≠ 0 := by simpa using h
  have hc : comF a = (ckAut a, zeroA) := by rw [comF, if_pos h']
  rw [hc]
  repeat first|((first|refine qa tOk rfl ?_|refine qb tOk rfl ?_|refine qh rfl ?_);simp)|refine qf ?_|refine qg ?_
  exact ⟨rfl, rfl, rfl⟩
 ·have h' : ckAut a = 0 := by simpa using h
  have hc : comF a = cplP a := by rw [comF, if_neg (by simp [h'])]
  rw [hc]
  repeat first|((first|refine qa tOk rfl ?_|refine qb tOk rfl ?_|refine qh rfl ?_);simp)|refine qf ?_|refine qg ?_
  refine AStep_FC rfl rfl (fc_completed _ a ((ck_ok a).1 h')) rfl ?_
  rintro r H' ⟨hr, hk⟩
  have hk0 := hk 1 (by simp)
  simp at hk0
  have hk2 : ∀ X, (H'.set 1 X)[1]? = some X := fun X => get_self hk0 X
  rcases hr with ⟨e, he, hne, rfl⟩ | ⟨b, f, he, rfl, hf, hfl⟩
  ·rw [he]
   simp [hk0]
   repeat first|((first|refine qa tOk rfl ?_|refine qb tOk rfl ?_|refine qh rfl ?_);simp [hk2])|refine qf ?_|refine qg ?_
   exact ⟨rfl, rfl, rfl⟩
  ·rw [he]
   simp [hk0]
   have hf1 : f ≠ 1 := by simp at hfl; omega
   refine AWP_keep (sl' := [(2, .vptr 1 0), (3, .i 0)]) ?_ (by simp)
   refine AWP_freezeC f (get_set (Ne.symm hf1) hf _) 1 (get_self hk0 _) ?_
   simp
   rw [List.take_of_length_le (by simp)]
   have hk3 : ∀ X, ((H'.set f X).set 1 X)[1]? = some X := fun X => get_self (get_set hf1 hk0 _) X
   refine AWP_abs fun Z hZ => ?_
   have z1 : Z[1]? = some (.vars [.i b.types, .list (b.fin.map AV.bool), .list (b.mv.map encMv)]) := by
    rw [hZ]
    exact List.getElem?_set_self (by have := (List.getElem?_eq_some_iff.1 hk0).1; simpa using this)
   repeat first|((first|refine qa tOk rfl ?_|refine qb tOk rfl ?_|refine qh rfl ?_);simp [z1])|refine qf ?_|refine qg ?_
end Go.Abs
set_option maxRecDepth 100000
namespace Go.Abs
open Go Go.Proofs
set_option linter.unusedSimpArgs false
def cellL (p : Nat) (xs : List Iv) : AV := if xs = [] then .nils else .sl p 2 0 xs.length
def rowC (L : Nat → Nat) (T : Nat) (p : Prd) : List AV := (List.range T).map fun k => cellL (L k) (p.getD k [])
def outC (Q : Nat → Nat) (T n : Nat) : List AV := (List.range n).map fun c => .agg [.sl (Q c) 1 0 T]
theorem rowC_len (L : Nat → Nat) (T : Nat) (p : Prd) : (rowC L T p).length = T := by simp [rowC]
theorem outC_len (Q : Nat → Nat) (T n : Nat) : (outC Q T n).length = n := by simp [outC]
theorem rowC_get (L : Nat → Nat) {T k : Nat} (p : Prd) (h : k < T) : (rowC L T p)[k]? = some (cellL (L k) (p.getD k [])) := by simp [rowC, h]
theorem outC_get (Q : Nat → Nat) (T : Nat) {n c : Nat} (h : c < n) : (outC Q T n)[c]? = some (.agg [.sl (Q c) 1 0 T]) := by simp [outC, h]
theorem getD_set_self {p : Prd} {i : Nat} (h : i < p.length) (y : List Iv) : (p.set i y).getD i [] = y := by simp [List.getD, h]
theorem getD_set_ne {p : Prd} {i k : Nat} (h : i ≠ k) (y : List Iv) : (p.set i y).getD k [] = p.getD k [] := by
 simp only [List.getD]; rw [List.getElem?_set_ne h]
structure Rows (K : List AObj) (T o : Nat) (st : List Prd) (Q : Nat → Nat) (L : Nat → Nat → Nat) (tag : Nat → Nat × Nat) (H : List AObj) : Prop where
 out : H[o]? = some (.va 76 1 (outC Q T st.length))
 row : ∀ c p, st[c]? = some p → H[Q c]? = some (.va 171 1 (rowC (L c) T p))
 leaf : ∀ c p k, st[c]? = some p → k < T → p.getD k [] ≠ [] → H[L c k]? = some (.arr 187 2 ((p.getD k []).map encIv))
 tQ : ∀ c, c < st.length → tag (Q c) = (c + 1, 0)
 tL : ∀ c p k, st[c]? = some p → k < T → p.getD k [] ≠ [] → tag (L c k) = (c + 1, k + 1)
 to : tag o = (0, 0)
 geo : K.length ≤ o
 geQ : ∀ c, c < st.length → K.length ≤ Q c
 geL : ∀ c p k, st[c]? = some p → k < T → p.getD k [] ≠ [] → K.length ≤ L c k
 keep : ∀ i, i < K.length → H[i]? = K[i]?
 len : K.length ≤ H.length
 tK : ∀ i, i < K.length → tag i = (0, 0)
section
variable {K : List AObj} {T o : Nat} {st : List Prd} {Q : Nat → Nat} {L : Nat → Nat → Nat} {tag : Nat → Nat × Nat} {H H' : List AObj}
theorem get_ltI {α : Type} {l : List α} {i : Nat} {x : α} (h : l[i]? = some x) : i < l.length := (List.getElem?_eq_some_iff.1 h).1
theorem get_lt {H : List AObj} {i : Nat} {x : AObj} (h : H[i]? = some x) : i < H.length := (List.getElem?_eq_some_iff.1 h).1
theorem Rows.grow (h : Rows K T o st Q L tag H) (hk : ∀ j, j < H.length → H'[j]? = H[j]?) : Rows K T o st Q L tag H' := by
 have hl : H.length ≤ H'.length := by
  by_cases e : H.length = 0
  ·omega
  ·have h1 := hk (H.length - 1) (by omega)
   have hlt : H.length - 1 < H.length := by omega
   rw [List.getElem?_eq_getElem hlt] at h1
   have := get_lt h1
   omega
 exact ⟨(hk _ (get_lt h.out)).trans h.out, fun c p hc => (hk _ (get_lt (h.row c p hc))).trans (h.row c p hc), fun c p k hc hk' hn => (hk _ (get_lt (h.leaf c p k hc hk' hn))).trans (h.leaf c p k hc hk' hn),
  h.tQ, h.tL, h.to, h.geo, h.geQ, h.geL, fun i hi => (hk i (by have := h.len; omega)).trans (h.keep i hi), by have := h.len; omega, h.tK⟩
theorem Rows.other (h : Rows K T o st Q L tag H) (hk : ∀ j, j < H.length → tag j ≠ (0, 1) → H'[j]? = H[j]?) (hl : H.length ≤ H'.length) (hK : K = [] := by rfl) : Rows K T o st Q L tag H' := by
 subst hK
 exact ⟨(hk _ (get_lt h.out) (by rw [h.to]; simp)).trans h.out, fun c p hc => (hk _ (get_lt (h.row c p hc)) (by rw [h.tQ c (get_ltI hc)]; simp)).trans (h.row c p hc), fun c p k hc hk' hn => (hk _ (get_lt (h.leaf c p k hc hk' hn)) (by rw [h.tL c p k hc hk' hn]; simp)).trans (h.leaf c p k hc hk' hn),
  h.tQ, h.tL, h.to, h.geo, h.geQ, h.geL, fun i hi => by simp at hi, by simp, h.tK⟩
theorem set_same {l : List AV} {i : Nat} {x : AV} (h : l[i]? = some x) : l.set i x = l := by
 refine List.ext_getElem? fun j => ?_
 by_cases e : i = j
 ·subst e; rw [h, List.getElem?_set_self (get_ltI h)]
 ·rw [List.getElem?_set_ne e]
theorem Rows.put (h : Rows K T o st Q L tag H) {c : Nat} {p : Prd} (hc : st[c]? = some p) (hpl : p.length = T) {i : Nat} (hi : i < T) {x : Iv} {np : Nat} (hnp : H.length ≤ np)
  (hrow : H'[Q c]? = some (.va 171 1 ((rowC (L c) T p).set i (.sl np 2 0 ((p.getD i []).length + 1)))))
  (hleaf : H'[np]? = some (.arr 187 2 ((p.getD i [] ++ [x]).map encIv)))
  (hk : ∀ j, j < H.length → j ≠ Q c → tag j ≠ (c + 1, i + 1) → H'[j]? = H[j]?) :
  Rows K T o (st.set c (putP p i x)) Q (fun c' k' => if c' = c ∧ k' = i then np else L c' k') (fun j => if j = np then (c + 1, i + 1) else tag j) H' := by
 have hcl := (List.getElem?_eq_some_iff.1 hc).1
 have hlt : ∀ c' p', (st.set c (putP p i x))[c']? = some p' → (c' = c ∧ p' = putP p i x) ∨ (c' ≠ c ∧ st[c']? = some p') := fun c' p' e => by
  by_cases hcc : c' = c
  ·subst hcc
   rw [List.getElem?_set_self hcl] at e
   exact .inl ⟨rfl, (Option.some.inj e).symm⟩
  ·rw [List.getElem?_set_ne (fun e => hcc e.symm)] at e
   exact .inr ⟨hcc, e⟩
 have hself : (putP p i x).getD i [] = p.getD i [] ++ [x] := getD_set_self (by omega) _
 have hoth : ∀ k, k ≠ i → (putP p i x).getD k [] = p.getD k [] := fun k hk => getD_set_ne (fun e => hk e.symm) _
 have hQo : o ≠ Q c := fun e => by have h1 := h.to; have h2 := h.tQ c hcl; rw [e, h2] at h1; simp at h1
 have lo := get_lt h.out
 have lQ : ∀ c', c' < st.length → Q c' < H.length := fun c' hc' => get_lt (h.row c' _ (List.getElem?_eq_getElem hc'))
 have geQ := h.geQ
 refine ⟨?_, fun c' p' e => ?_, fun c' p' k e hk' hn => ?_, fun c' hc' => ?_, fun c' p' k e hk' hn => ?_, ?_, h.geo, fun c' hc' => ?_, fun c' p' k e hk' hn => ?_, fun j hj => ?_, ?_, fun j hj => ?_⟩
 ·rw [List.length_set, hk o lo hQo (by rw [h.to]; simp)]; exact h.out
 ·rcases hlt c' p' e with ⟨rfl, rfl⟩ | ⟨hne, e'⟩
  ·rw [hrow]
   congr 2
   refine List.ext_getElem? fun k => ?_
   by_cases hkT : k < T
   ·rw [rowC_get _ _ hkT]
    by_cases hki : k = i
    ·subst hki
     rw [List.getElem?_set_self (by rw [rowC_len]; exact hkT), hself]
     simp [cellL]
    ·rw [List.getElem?_set_ne (fun e => hki e.symm), rowC_get _ _ hkT, hoth k hki]
     simp [hki]
   ·rw [List.getElem?_eq_none (by rw [List.length_set, rowC_len]; omega), List.getElem?_eq_none (by rw [rowC_len]; omega)]
  ·have hcl' := (List.getElem?_eq_some_iff.1 e').1
   rw [hk _ (lQ c' hcl') (fun e => by have h1 := h.tQ c hcl; have h2 := h.tQ c' hcl'; rw [e, h1] at h2; simp at h2; omega) (by rw [h.tQ c' hcl']; simp), h.row c' p' e']
   simp [hne]
 ·rcases hlt c' p' e with ⟨rfl, rfl⟩ | ⟨hne, e'⟩
  ·by_cases hki : k = i
   ·subst hki
    rw [hself, if_pos ⟨rfl, rfl⟩]; exact hleaf
   ·rw [hoth k hki] at hn ⊢
    rw [if_neg (fun a => hki a.2), hk _ (get_lt (h.leaf _ _ k hc hk' hn)) (fun e => by have h1 := h.tQ c' hcl; have h2 := h.tL c' p k hc hk' hn; rw [e, h1] at h2; simp at h2) (by rw [h.tL c' p k hc hk' hn]; simp; omega)]
    exact h.leaf _ _ k hc hk' hn
  ·have hcl' := (List.getElem?_eq_some_iff.1 e').1
   rw [if_neg (fun a => hne a.1), hk _ (get_lt (h.leaf _ _ k e' hk' hn)) (fun e => by have h1 := h.tQ c hcl; have h2 := h.tL c' p' k e' hk' hn; rw [e, h1] at h2; simp at h2) (by rw [h.tL c' p' k e' hk' hn]; simp; omega)]
   exact h.leaf _ _ k e' hk' hn
 ·rw [List.length_set] at hc'
  have := lQ c' hc'
  rw [if_neg (by omega)]; exact h.tQ c' hc'
 ·rcases hlt c' p' e with ⟨rfl, rfl⟩ | ⟨hne, e'⟩
  ·by_cases hki : k = i
   ·subst hki
    simp only [and_self, if_true]
   ·rw [hoth k hki] at hn
    have := get_lt (h.leaf _ _ k hc hk' hn)
    simp only [hki, and_false, if_false]
    rw [if_neg (by omega)]; exact h.tL _ _ k hc hk' hn
  ·have := get_lt (h.leaf _ _ k e' hk' hn)
   simp only [hne, false_and, if_false]
   rw [if_neg (by omega)]; exact h.tL _ _ k e' hk' hn
 ·rw [if_neg (by omega)]; exact h.to
 ·rw [List.length_set] at hc'; exact h.geQ c' hc'
 ·rcases hlt c' p' e with ⟨rfl, rfl⟩ | ⟨hne, e'⟩
  ·by_cases hki : k = i
   ·subst hki
    have := h.len
    rw [if_pos ⟨rfl, rfl⟩]; omega
   ·rw [hoth k hki] at hn
    rw [if_neg (fun a => hki a.2)]; exact h.geL _ _ k hc hk' hn
  ·rw [if_neg (fun a => hne a.1)]; exact h.geL _ _ k e' hk' hn
 ·have h1 := h.len
  have h2 := geQ c hcl
  rw [hk j (by omega) (by omega) (by rw [h.tK j hj]; simp)]; exact h.keep j hj
 ·have := get_lt hleaf
  have := h.len
  omega
 ·have := h.len
  rw [if_neg (by omega)]; exact h.tK j hj
theorem Rows.new (h : Rows K T o st Q L tag H) {q o' : Nat} (hq : H.length ≤ q) (ho : H.length ≤ o') (hne : q ≠ o')
  (hrow : H'[q]? = some (.va 171 1 (List.replicate T .nils))) (hout : H'[o']? = some (.va 76 1 (outC Q T st.length ++ [.agg [.sl q 1 0 T]])))
  (hk : ∀ j, j < H.length → j ≠ o → H'[j]? = H[j]?) :
  Rows K T o' (st ++ [List.replicate T []]) (fun c => if c = st.length then q else Q c) L (fun j => if j = q then (st.length + 1, 0) else if j = o' then (0, 0) else tag j) H' := by
 have hlt : ∀ c' p', (st ++ [List.replicate T []])[c']? = some p' → (c' = st.length ∧ p' = List.replicate T []) ∨ (c' < st.length ∧ st[c']? = some p') := fun c' p' e => by
  by_cases hcc : c' < st.length
  ·rw [List.getElem?_append_left hcc] at e
   exact .inr ⟨hcc, e⟩
  ·rw [List.getElem?_append_right (by omega)] at e
   have h0 : c' - st.length = 0 := by
    have := (List.getElem?_eq_some_iff.1 e).1
    simpa using this
   rw [h0] at e
   exact .inl ⟨by omega, (Option.some.inj e).symm⟩
 have hnil : ∀ k, (List.replicate T ([] : List Iv)).getD k [] = [] := fun k => by
  by_cases hk : k < T <;> simp [List.getD, hk]
 have lQ : ∀ c', c' < st.length → Q c' < H.length := fun c' hc' => get_lt (h.row c' _ (List.getElem?_eq_getElem hc'))
 have lo := get_lt h.out
 have hlen := h.len
 have hQo : ∀ c', c' < st.length → Q c' ≠ o := fun c' hc' e => by have h1 := h.to; have h2 := h.tQ c' hc'; rw [← e, h2] at h1; simp at h1
 refine ⟨?_, fun c' p' e => ?_, fun c' p' k e hk' hn => ?_, fun c' hc' => ?_, fun c' p' k e hk' hn => ?_, ?_, by omega, fun c' hc' => ?_, fun c' p' k e hk' hn => ?_, fun j hj => ?_, by have := get_lt hout; omega, fun j hj => ?_⟩
 ·rw [hout]
  congr 2
  rw [List.length_append, List.length_singleton, outC, outC, List.range_succ, List.map_append]
  congr 1
  ·exact List.map_congr_left fun c hc => by rw [if_neg (by have := List.mem_range.1 hc; omega)]
  ·simp
 ·rcases hlt c' p' e with ⟨rfl, rfl⟩ | ⟨hc, e'⟩
  ·rw [if_pos rfl, hrow]
   congr 2
   refine List.ext_getElem? fun k => ?_
   by_cases hkT : k < T
   ·rw [rowC_get _ _ hkT, hnil]; simp [cellL, hkT]
   ·rw [List.getElem?_eq_none (by simp; omega), List.getElem?_eq_none (by rw [rowC_len]; omega)]
  ·rw [if_neg (by omega), hk _ (lQ c' hc) (hQo c' hc)]; exact h.row _ _ e'
 ·rcases hlt c' p' e with ⟨rfl, rfl⟩ | ⟨hc, e'⟩
  ·exact absurd (hnil k) hn
  ·have hl := h.leaf _ _ k e' hk' hn
   rw [hk _ (get_lt hl) (fun e => by have h1 := h.to; have h2 := h.tL _ _ k e' hk' hn; rw [e, h1] at h2; simp at h2)]; exact hl
 ·rw [List.length_append, List.length_singleton] at hc'
  by_cases hcc : c' = st.length
  ·rw [if_pos hcc, if_pos rfl, hcc]
  ·have := lQ c' (by omega)
   rw [if_neg hcc, if_neg (by omega), if_neg (by omega)]; exact h.tQ c' (by omega)
 ·rcases hlt c' p' e with ⟨rfl, rfl⟩ | ⟨hc, e'⟩
  ·exact absurd (hnil k) hn
  ·have := get_lt (h.leaf _ _ k e' hk' hn)
   rw [if_neg (by omega), if_neg (by omega)]; exact h.tL _ _ k e' hk' hn
 ·rw [if_neg (fun e => hne e.symm), if_pos rfl]
 ·rw [List.length_append, List.length_singleton] at hc'
  by_cases hcc : c' = st.length
  ·rw [if_pos hcc]; omega
  ·rw [if_neg hcc]; exact h.geQ c' (by omega)
 ·rcases hlt c' p' e with ⟨rfl, rfl⟩ | ⟨hc, e'⟩
  ·exact absurd (hnil k) hn
  ·exact h.geL _ _ k e' hk' hn
 ·have hgo := h.geo
  rw [hk j (by omega) (by omega)]; exact h.keep j hj
 ·rw [if_neg (by omega), if_neg (by omega)]; exact h.tK j hj
theorem Rows.start (K : List AObj) (T : Nat) : Rows K T K.length [] (fun _ => 0) (fun _ _ => 0) (fun _ => (0, 0)) (K ++ [.va 76 1 []]) := by
 refine ⟨by simp [outC], fun c p hc => by simp at hc, fun c p k hc => by simp at hc, fun c hc => by simp at hc, fun c p k hc => by simp at hc, rfl, Nat.le_refl _, fun c hc => by simp at hc, fun c p k hc => by simp at hc, fun i hi => List.getElem?_append_left hi, by simp, fun _ _ => rfl⟩
theorem Rows.start0 (T o : Nat) (H : List AObj) (ho : H[o]? = some (.va 76 1 [])) (tag : Nat → Nat × Nat) (ht : tag o = (0, 0)) : Rows [] T o [] (fun _ => 0) (fun _ _ => 0) tag H := by
 refine ⟨by simpa [outC] using ho, fun c p hc => by simp at hc, fun c p k hc => by simp at hc, fun c hc => by simp at hc, fun c p k hc => by simp at hc, ht, by simp, fun c hc => by simp at hc, fun c p k hc => by simp at hc, fun i hi => by simp at hi, by simp, fun i hi => by simp at hi⟩
end
end Go.Abs
set_option maxRecDepth 100000
namespace Go.Abs
open Go Go.Proofs
set_option linter.unusedSimpArgs false
def ascS (s : List Iv) : Prop := (∀ x ∈ s, x.lo ≤ x.hi) ∧ s.Pairwise (fun x y => x.hi < y.lo)
theorem ascS.take {s : List Iv} (h : ascS s) (k : Nat) : ascS (s.take k) := ⟨fun x hx => h.1 x (List.mem_of_mem_take hx), h.2.take⟩
theorem pushes_last {s ini : List Iv} {y x : Iv} {m : Nat} (h : ascS s) (hm : m < s.length) (hx : s[m] = x) (e : pushes [] (s.take m) = ini ++ [y]) : y.hi < x.lo := by
 have h1 := pushes_asc (h.take m)
 have hy : y ∈ pushes [] (s.take m) := by rw [e]; simp
 have hyl : y.lo ≤ y.hi := h1.1.1 y hy
 obtain ⟨z, hz, z1, z2⟩ := (h1.2 y.hi).1 ⟨y, hy, hyl, Int.le_refl _⟩
 obtain ⟨i, hi, hzi⟩ := List.getElem_of_mem hz
 rw [List.length_take] at hi
 rw [List.getElem_take] at hzi
 have := List.pairwise_iff_getElem.1 h.2 i m (by omega) hm (by omega)
 rw [hzi, hx] at this
 omega
theorem push_eq {ini : List Iv} {y x : Iv} (h1 : y.hi < x.lo) (h2 : x.lo ≤ x.hi) : pushR (ini ++ [y]) x = if y.hi + 1 = x.lo then ini ++ [⟨y.lo, x.hi⟩] else ini ++ [y] ++ [x] := by
 rw [pushR_concat]
 by_cases e : y.hi + 1 = x.lo
 ·rw [if_pos e, if_pos (by omega), if_pos (by omega)]
 ·rw [if_neg e, if_neg (by omega)]
theorem big_of {L : List Prd} {p : Prd} {s : List Iv} (hp : p ∈ L) (hs : s ∈ p) (h : 256 < s.length) : bigCl L = true := by
 simp only [bigCl, Bool.or_eq_true, List.any_eq_true]
 exact .inr ⟨p, hp, s, hs, by simpa using h⟩
theorem not_big {L : List Prd} (hl : L.length ≤ 256) (h : ∀ p ∈ L, ∀ s ∈ p, s.length ≤ 256) : bigCl L = false := by
 rw [Bool.eq_false_iff]
 intro hb
 simp only [bigCl, Bool.or_eq_true, List.any_eq_true, decide_eq_true_eq] at hb
 rcases hb with hb | ⟨p, hp, s, hs, hb⟩
 ·omega
 ·have := h p hp s hs; omega
def rowD (L : Nat → Nat) (T : Nat) (p : Prd) (k : Nat) : List AV := (List.range T).map fun i => if i < k then encL (pushes [] (p.getD i [])) else cellL (L i) (p.getD i [])
theorem rowD_len (L : Nat → Nat) (T : Nat) (p : Prd) (k : Nat) : (rowD L T p k).length = T := by simp [rowD]
theorem rowD_zero (L : Nat → Nat) (T : Nat) (p : Prd) : rowD L T p 0 = rowC L T p := List.map_congr_left fun i _ => by simp
theorem rowD_get (L : Nat → Nat) {T k : Nat} (p : Prd) (h : k < T) : (rowD L T p k)[k]? = some (cellL (L k) (p.getD k [])) := by simp [rowD, h]
theorem rowD_set (L : Nat → Nat) {T k : Nat} (p : Prd) (h : k < T) : (rowD L T p k).set k (encL (pushes [] (p.getD k []))) = rowD L T p (k + 1) := by
 refine List.ext_getElem (by simp [rowD]) fun j h1 h2 => ?_
 have hj : j < T := by simpa [rowD] using h2
 rw [List.getElem_set]
 by_cases e : k = j
 ·subst e; simp [rowD]
 ·rw [if_neg e]
  simp only [rowD, List.getElem_map, List.getElem_range]
  by_cases h3 : j < k
  ·rw [if_pos h3, if_pos (by omega)]
  ·rw [if_neg h3, if_neg (by omega)]
theorem range_getD' {p : Prd} {T : Nat} (h : p.length = T) (f : List Iv → AV) : (List.range T).map (fun i => f (p.getD i [])) = p.map f := by
 subst h
 refine List.ext_getElem (by simp) fun j h1 h2 => ?_
 have hj : j < p.length := by simpa using h1
 simp [hj]
theorem rowD_all (L : Nat → Nat) {T : Nat} {p : Prd} (h : p.length = T) : rowD L T p T = (tidyP p).map encL := by
 have : rowD L T p T = (List.range T).map (fun i => (fun s => encL (pushes [] s)) (p.getD i [])) := List.map_congr_left fun i hi => by rw [if_pos (List.mem_range.1 hi)]
 rw [this, range_getD' h (fun s => encL (pushes [] s)), tidyP, List.map_map]; rfl
theorem list_pure (l : List (List Iv)) : (l.map encL).all (fun x => x.cells.all AV.pure) = true := by
 rw [List.all_eq_true]
 intro x hx
 obtain ⟨s, _, rfl⟩ := List.mem_map.1 hx
 simp [AV.cells, AV.pure]
def outD (Q : Nat → Nat) (T : Nat) (st : List Prd) (c : Nat) : List AV := (List.range st.length).map fun j => if j < c then encP (tidyP (st.getD j [])) else .agg [.sl (Q j) 1 0 T]
theorem outD_len (Q : Nat → Nat) (T : Nat) (st : List Prd) (c : Nat) : (outD Q T st c).length = st.length := by simp [outD]
theorem outD_zero (Q : Nat → Nat) (T : Nat) (st : List Prd) : outD Q T st 0 = outC Q T st.length := List.map_congr_left fun i _ => by simp
theorem outD_get (Q : Nat → Nat) (T : Nat) {st : List Prd} {c : Nat} (h : c < st.length) : (outD Q T st c)[c]? = some (.agg [.sl (Q c) 1 0 T]) := by simp [outD, h]
theorem outD_fz {Q : Nat → Nat} {T : Nat} {st : List Prd} {c : Nat} (h : c < st.length) (hne : ∀ j, j < st.length → j ≠ c → Q j ≠ Q c) (hT : st[c].length = T) :
  (outD Q T st c).map (AV.fz (Q c) 1 ((tidyP st[c]).map encL)) = outD Q T st (c + 1) := by
 refine List.ext_getElem (by simp [outD]) fun j h1 h2 => ?_
 have hj : j < st.length := by simpa [outD] using h2
 have htl : (tidyP st[c]).length = T := by simp [tidyP, hT]
 simp only [outD, List.getElem_map, List.getElem_range]
 by_cases h3 : j < c
 ·rw [if_pos h3, if_pos (by omega)]
  simp [fz_agg, fz_list]
 ·rw [if_neg h3]
  by_cases e : j = c
  ·subst e
   rw [if_pos (by omega), fz_agg]
   have : st.getD j [] = st[j] := by simp [List.getD, hj]
   rw [this]
   simp only [List.map_cons, List.map_nil, AV.fz, encP]
   rw [if_pos (by simp [htl]), List.drop_zero, List.take_of_length_le (by simp [htl])]
  ·rw [if_neg (by omega), fz_agg]
   simp only [List.map_cons, List.map_nil, AV.fz]
   rw [if_neg (fun a => hne j hj e a.1)]
theorem outD_all (Q : Nat → Nat) (T : Nat) (st : List Prd) : outD Q T st st.length = (st.map tidyP).map encP := by
 refine List.ext_getElem (by simp [outD]) fun j h1 h2 => ?_
 have hj : j < st.length := by simpa [outD] using h1
 simp [outD, hj]
theorem prds_pure (l : List Prd) : (l.map encP).all (fun x => x.cells.all AV.pure) = true := by
 rw [List.all_eq_true]
 intro x hx
 obtain ⟨s, _, rfl⟩ := List.mem_map.1 hx
 simp [AV.cells, AV.pure]
theorem get_lt' {l : List AV} {i : Nat} {x : AV} (h : l[i]? = some x) : i < l.length := (List.getElem?_eq_some_iff.1 h).1
theorem AWP_via {P : Program} [Env P] {nt k : Nat} {cd : Code} {Q : Exit → AS → Prop} {sl : List (Nat × AV)} {H : List AObj} (F : List AObj → Prop) (h1 : (∀ H1, F H1 → AWP P nt k cd Q ⟨sl, H1⟩) → AWP P nt k cd Q ⟨sl, H⟩) (h2 : ∀ H1, F H1 → AWP P nt k cd Q ⟨sl, H1⟩) : AWP P nt k cd Q ⟨sl, H⟩ := h1 h2
attribute [local irreducible] pushR pushes normR rowC rowD outC outD
set_option maxHeartbeats 8000000 in
theorem fc_tidy (T o : Nat) (st : List Prd) (Q : Nat → Nat) (L : Nat → Nat → Nat) (tag : Nat → Nat × Nat) (H : List AObj) (h : Rows [] T o st Q L tag H) (hT : T ≤ 16) (hw : ∀ p ∈ st, p.length = T ∧ ∀ s ∈ p, ascS s ∧ s.length ≤ 10000000 ∧ ∀ x ∈ s, ivIn x) :
  FC Tryz.prog 170 [.sl o 1 0 st.length] H (fun r _ => (r = .tup [.nils, .i 5] ∧ bigCl (st.map tidyP) = true) ∨ (r = .tup [LP (st.map tidyP), .i 0] ∧ bigCl (st.map tidyP) = false)) := by
 refine FC_body tOk Tryz.func170 rfl Tryz.results170 rfl (by simp [Tryz.ntmps170]) ?_
 rw [Tryz.ntmps170]
 simp only [argSlots]
 repeat first|((first|refine qa tOk rfl ?_|refine qb tOk rfl ?_|refine qh rfl ?_);simp)|refine qf ?_|refine qg ?_
 refine AWP_cond2 rfl (fun hbig => ?_) (fun hsm => ?_)
 ·have hb : 256 < st.length := by simp at hbig; omega
  repeat first|((first|refine qa tOk rfl ?_|refine qb tOk rfl ?_|refine qh rfl ?_);simp)|refine qf ?_|refine qg ?_
  simp [bigCl]; omega
 have hn : st.length ≤ 256 := by simp at hsm; omega
 repeat first|((first|refine qa tOk rfl ?_|refine qb tOk rfl ?_|refine qh rfl ?_);simp)|refine qf ?_|refine qg ?_
 have hgo := get_lt h.out
 have tagne : ∀ c c', c < st.length → c' < st.length → c ≠ c' → Q c ≠ Q c' := fun c c' h1 h2 hne e => by have a := h.tQ c h1; have b := h.tQ c' h2; rw [e, b] at a; simp at a; omega
 have hQo : ∀ c, c < st.length → Q c ≠ o := fun c hc e => by have h1 := h.to; have h2 := h.tQ c hc; rw [← e, h2] at h1; simp at h1
 refine AWP_loop (ALoop_keep (sl' := [(0, .sl o 1 0 st.length), (15, .sl o 1 0 st.length), (16, .i st.length), (17, .i (0 : Nat))]) ?_ (by simp))
 refine ALoop_wf (F := fun (u : Nat × List AObj) => ⟨[(0, .sl o 1 0 st.length), (15, .sl o 1 0 st.length), (16, .i st.length), (17, .i u.1)], u.2⟩)
  (fun u => u.1 ≤ st.length ∧ H.length ≤ u.2.length ∧ u.2[o]? = some (.va 76 1 (outD Q T st u.1)) ∧ (∀ j, j < H.length → j ≠ o → (∀ c, c < u.1 → j ≠ Q c) → u.2[j]? = H[j]?) ∧ ∀ p ∈ (st.map tidyP).take u.1, ∀ s ∈ p, s.length ≤ 256) (fun u => st.length - u.1) ?_ (0, H) ⟨by simp, by simp, by rw [outD_zero]; exact h.out, fun _ _ _ _ => rfl, by simp⟩
 rintro ⟨c, G⟩ ⟨hc, hG, go, gk, gs⟩ ih
 simp only at hc hG go gk gs ih ⊢
 repeat first|((first|refine qa tOk rfl ?_|refine qb tOk rfl ?_|refine qh rfl ?_);simp)|refine qf ?_|refine qg ?_
 refine AWP_cond2 rfl (fun hlt => ?_) (fun hge => ?_)
 ·have hlt' : c < st.length := by simpa using hlt
  have hw1 : IntKind.i64.wrap ((c : Int) + 1) = c + 1 := wrap_i64 _ (by omega) (by omega)
  have hog := outD_get Q T hlt'
  have hol := outD_len Q T st c
  have hp := hw _ (List.getElem_mem hlt')
  have hfz := outD_fz hlt' (fun j hj hne => tagne j c hj hlt' hne) hp.1
  have hQc := (gk (Q c) (get_lt (h.row c _ (List.getElem?_eq_getElem hlt'))) (hQo c hlt') (fun c' hc' => tagne c c' hlt' (by omega) (by omega))).trans (h.row c _ (List.getElem?_eq_getElem hlt'))
  have hle : ∀ k, k < T → st[c].getD k [] ≠ [] → G[L c k]? = some (.arr 187 2 ((st[c].getD k []).map encIv)) ∧ L c k ≠ Q c ∧ L c k ≠ o ∧ L c k < H.length := fun k hk hne => by
   have hl := h.leaf c _ k (List.getElem?_eq_getElem hlt') hk hne
   have ht := h.tL c _ k (List.getElem?_eq_getElem hlt') hk hne
   have h1 : L c k ≠ o := fun e => by have := h.to; rw [← e, ht] at this; simp at this
   have h2 : ∀ c', c' < st.length → L c k ≠ Q c' := fun c' hc' e => by have := h.tQ c' hc'; rw [← e, ht] at this; simp at this
   exact ⟨(gk _ (get_lt hl) h1 (fun c' hc' => h2 c' (by omega))).trans hl, h2 c hlt', h1, get_lt hl⟩
  have hlq := get_lt (h.row c _ (List.getElem?_eq_getElem hlt'))
  have hqo := hQo c hlt'
  have htk : (st.map tidyP).take (c + 1) = (st.map tidyP).take c ++ [tidyP st[c]] := by rw [List.take_succ_eq_append_getElem (by simpa using hlt')]; simp
  have hin : tidyP st[c] ∈ st.map tidyP := List.mem_map.2 ⟨_, List.getElem_mem hlt', rfl⟩
  generalize hpp : st[c] = p at *
  generalize outD Q T st c = od at *
  have hog' : ∀ hh, od[c]'hh = .agg [.sl (Q c) 1 0 T] := fun hh => by rw [List.getElem?_eq_getElem hh] at hog; exact Option.some.inj hog
  repeat first|((first|refine qa tOk rfl ?_|refine qb tOk rfl ?_|refine qh rfl ?_);simp [go, hog, hog', hol, hlt'])|refine qf ?_|refine qg ?_
  have hG0 : 0 < G.length := by omega
  refine AWP_loop (ALoop_keep (sl' := [(0, .sl o 1 0 st.length), (5, .vptr G.length 0), (15, .sl o 1 0 st.length), (16, .i st.length), (17, .i c), (22, .sl (Q c) 1 0 T), (23, .i T), (24, .i (0 : Nat))]) ?_ (by simp))
  refine ALoop_wf (F := fun (u : Nat × List AObj) => ⟨[(0, .sl o 1 0 st.length), (5, .vptr G.length 0), (15, .sl o 1 0 st.length), (16, .i st.length), (17, .i c), (22, .sl (Q c) 1 0 T), (23, .i T), (24, .i u.1)], u.2⟩)
   (fun u => u.1 ≤ T ∧ G.length + 1 ≤ u.2.length ∧ u.2[Q c]? = some (.va 171 1 (rowD (L c) T p u.1)) ∧ (∀ j, j < G.length → j ≠ Q c → u.2[j]? = G[j]?) ∧ u.2[G.length]? = some (.vars [.sl (Q c) 1 0 T]) ∧ ∀ s ∈ (tidyP p).take u.1, s.length ≤ 256) (fun u => T - u.1) ?_ (0, _) ⟨by simp, by simp, by rw [rowD_zero]; exact get_app hQc _, fun j hj _ => List.getElem?_append_left hj, by simp, by simp⟩
  rintro ⟨k, E⟩ ⟨hk, hE, eq, ek, e5, es⟩ ih2
  simp only at hk hE eq ek e5 es ih2 ⊢
  repeat first|((first|refine qa tOk rfl ?_|refine qb tOk rfl ?_|refine qh rfl ?_);simp)|refine qf ?_|refine qg ?_
  refine AWP_cond2 rfl (fun hlt2 => ?_) (fun hge2 => ?_)
  ·have hlt2' : k < T := by simpa using hlt2
   have hw2 : IntKind.i64.wrap ((k : Int) + 1) = k + 1 := wrap_i64 _ (by omega) (by omega)
   have hrg := rowD_get (L c) p hlt2'
   have hrl := rowD_len (L c) T p k
   have hrs := rowD_set (L c) p hlt2'
   have hkp : k < p.length := by rw [hp.1]; exact hlt2'
   have hgd : p.getD k [] = p[k] := getD_len hkp
   have hts : (tidyP p).take (k + 1) = (tidyP p).take k ++ [pushes [] p[k]] := by rw [List.take_succ_eq_append_getElem (by simpa [tidyP] using hkp)]; simp [tidyP]
   have hpm : pushes [] p[k] ∈ tidyP p := List.mem_map.2 ⟨_, List.getElem_mem hkp, rfl⟩
   have hpk := hp.2 _ (List.getElem_mem hkp)
   have hlk := hle k hlt2'
   have ih2' := fun E' => ih2 (k + 1, E')
   rw [hgd] at hrg hlk hrs
   simp only [← hrs, hts] at ih2'
   clear hrs hts hgd
   generalize rowD (L c) T p k = rd at *
   generalize p[k] = s at *
   have hEo : E[Q c]? = some (.va 171 1 rd) := eq
   refine AWP_via (fun E1 => ∃ z, E1[Q c]? = some (.va 171 1 (rd.set k (.sl z 2 0 s.length))) ∧ E1[z]? = some (.arr 187 2 (s.map encIv)) ∧ (∀ j, j < G.length + 1 → j ≠ Q c → E1[j]? = E[j]?) ∧ E.length ≤ E1.length ∧ z ≠ Q c) (fun hm => ?_) ?_
   ·by_cases hs0 : s = []
    ·subst hs0
     simp only [cellL, if_true] at hrg
     refine AWP_nilVa (Q c) k 187 2 eq hrg ?_
     have hl := get_lt eq
     refine hm _ ⟨E.length, get_self (get_app eq _) _, ?_, fun j hj hne => ?_, by simp, by omega⟩
     ·rw [List.getElem?_set_ne (by omega)]; simp
     ·rw [List.getElem?_set_ne (Ne.symm hne), List.getElem?_append_left (by omega)]
    ·simp only [cellL, if_neg hs0] at hrg
     obtain ⟨k1, k2, k3, k4⟩ := hlk hs0
     have hset : rd.set k (.sl (L c k) 2 0 s.length) = rd := by
      refine List.ext_getElem? fun j => ?_
      by_cases e : k = j
      ·subst e; rw [hrg, List.getElem?_set_self (get_lt' hrg)]
      ·rw [List.getElem?_set_ne e]
     refine hm E ⟨L c k, by rw [hset]; exact eq, ?_, fun _ _ _ => rfl, Nat.le_refl _, k2⟩
     rw [ek _ (by omega) k2]; exact k1
   ·rintro E1 ⟨z, f1, f2, f3, f4, f5⟩
    have f1' : ∀ hh, (rd.set k (.sl z 2 0 s.length))[k]'hh = .sl z 2 0 s.length := fun hh => by simp
    have f6 := f3 G.length (by omega) (by omega)
    rw [e5] at f6
    have hsl := hpk.2.1
    repeat first|((first|refine qa tOk rfl ?_|refine qb tOk rfl ?_|refine qh rfl ?_);simp [f1, f1', hrl, hlt2'])|refine qf ?_|refine qg ?_
    refine AWP_nilSlot 8 187 2 rfl ?_
    simp
    have hst := SL.start E1 187 2
    refine AWP_loop (ALoop_keep (sl' := [(0, .sl o 1 0 st.length), (5, .vptr G.length 0), (6, .i k), (8, .sl E1.length 2 0 (pushes [] (s.take 0)).length), (15, .sl o 1 0 st.length), (16, .i st.length), (17, .i c), (22, .sl (Q c) 1 0 T), (23, .i T), (24, .i k), (29, .sl z 2 0 s.length), (30, .i s.length), (31, .i (0 : Nat))]) ?_ (by simp [pushes]))
    refine ALoop_wf (F := fun (u : Nat × Nat × List AObj) => ⟨[(0, .sl o 1 0 st.length), (5, .vptr G.length 0), (6, .i k), (8, .sl u.2.1 2 0 (pushes [] (s.take u.1)).length), (15, .sl o 1 0 st.length), (16, .i st.length), (17, .i c), (22, .sl (Q c) 1 0 T), (23, .i T), (24, .i k), (29, .sl z 2 0 s.length), (30, .i s.length), (31, .i u.1)], u.2.2⟩)
     (fun u => u.1 ≤ s.length ∧ SL E1 u.2.2 u.2.1 187 2 ((pushes [] (s.take u.1)).map encIv)) (fun u => s.length - u.1) ?_ (0, E1.length, _) ⟨by simp, by rw [List.take_zero, pushes, List.foldl_nil]; exact hst⟩
    rintro ⟨j, p2, W⟩ ⟨hj, g⟩ ih3
    simp only at hj g ih3 ⊢
    repeat first|((first|refine qa tOk rfl ?_|refine qb tOk rfl ?_|refine qh rfl ?_);simp)|refine qf ?_|refine qg ?_
    refine AWP_cond2 rfl (fun hlt3 => ?_) (fun hge3 => ?_)
    ·have hlt3' : j < s.length := by simpa using hlt3
     have hw3 : IntKind.i64.wrap ((j : Int) + 1) = j + 1 := wrap_i64 _ (by omega) (by omega)
     have hnx : pushes [] (s.take (j + 1)) = pushR (pushes [] (s.take j)) s[j] := by rw [List.take_succ_eq_append_getElem hlt3', pushes_snoc]
     have hpl : (pushes [] (s.take j)).length ≤ j := Nat.le_trans (pushes_len _ _) (by simp; omega)
     have hpin : ∀ y ∈ pushes [] (s.take j), ivIn y := pushes_in _ _ (by simp) (fun y hy => hpk.2.2 y (List.mem_of_mem_take hy))
     have hlast := fun ini y => pushes_last (ini := ini) (y := y) (x := s[j]) hpk.1 hlt3' rfl
     have hxl := hpk.1.1 _ (List.getElem_mem hlt3')
     have hxi := (inB_iff _).1 (hpk.2.2 _ (List.getElem_mem hlt3')).2
     have gz := (g.keep z (get_lt f2)).trans f2
     have ih3' := fun p' G' => ih3 (j + 1, p', G')
     simp only [hnx] at ih3'
     clear hnx
     generalize pushes [] (s.take j) = acc at *
     repeat first|((first|refine qa tOk rfl ?_|refine qb tOk rfl ?_|refine qh rfl ?_);simp [gz, hlt3'])|refine qf ?_|refine qg ?_
     generalize s[j] = x at *
     rcases List.eq_nil_or_concat acc with rfl | ⟨ini, y, rfl⟩
     ·refine AWP_drawT tOk mixed [] (.val 0 (.val 1 (.val 2 (.val 3 (.val 4 (.val 5 (.val 6 (.val 7 (.val 8 (.val 9 (.val 10 (.val 11 (.val 12 (.val 13 (.done))))))))))))))) rfl (by kernel_rfl) ?_
      simp [(by decide : IntKind.i64.wrap (-1) = -1)]
      refine AWP_cond rfl ?_
      simp
      repeat first|((first|refine qa tOk rfl ?_|refine qb tOk rfl ?_|refine qh rfl ?_);simp)|refine qf ?_|refine qg ?_
      refine AStep_appendS tOk rfl rfl T171 rfl T187 rfl (by decide) (by decide) rfl rfl rfl ?_
      simp [get_app g.arr, set_app g.arr]
      refine ⟨by simp [appOk, get_app g.arr, set_app g.arr] <;> omega, ?_⟩
      repeat first|((first|refine qa tOk rfl ?_|refine qb tOk rfl ?_|refine qh rfl ?_);simp [hw3])|refine qf ?_|refine qg ?_
      refine ALoop_keep (sl' := [(0, .sl o 1 0 st.length), (5, .vptr G.length 0), (6, .i k), (8, .sl (W.length + 2) 2 0 1), (15, .sl o 1 0 st.length), (16, .i st.length), (17, .i c), (22, .sl (Q c) 1 0 T), (23, .i T), (24, .i k), (29, .sl z 2 0 s.length), (30, .i s.length), (31, .i (j + 1 : Nat))]) ?_ (by simp)
      have := ih3' (W.length + 2) _ ⟨by omega, by rw [pushR]; exact g.put [AObj.vars [AV.i x.lo, AV.i x.hi], AObj.arr 187 2 [encIv x]] _ rfl⟩ (by omega)
      rw [pushR] at this
      simpa using this
     ·have hy1 := (inB_iff _).1 (hpin y (by simp)).2
      have hwy : IntKind.i64.wrap (y.hi + 1) = y.hi + 1 := wrap_i64 _ (by omega) (by omega)
      have gA := g.arr
      rw [List.concat_eq_append] at g gA ih3' hpl hlast ⊢
      have hlen : (ini ++ [y]).length = ini.length + 1 := by simp
      rw [hlen] at hpl ⊢
      have hwn : IntKind.i64.wrap (ini.length : Int) = ini.length := wrap_i64 _ (by omega) (by omega)
      have hg : ((ini ++ [y]).map encIv)[ini.length]? = some (encIv y) := by simp
      have hlt4 : (ini.length : Int) < ini.length + 1 := by omega
      have hpe := push_eq (ini := ini) (hlast ini y rfl) hxl
      refine AWP_drawT tOk mixed [] (.val 0 (.val 1 (.val 2 (.val 3 (.val 4 (.val 5 (.val 6 (.val 7 (.val 8 (.val 9 (.val 10 (.val 11 (.val 12 (.val 13 (.done))))))))))))))) rfl (by kernel_rfl) ?_
      simp [get_app gA, hwn, hg, hwy, hlt4]
      refine AWP_cond2 rfl (fun h1 => ?_) (fun h1 => ?_)
      ·repeat first|((first|refine qa tOk rfl ?_|refine qb tOk rfl ?_|refine qh rfl ?_);simp [get_app gA, hwn, hg, hwy, hlt4, set_app gA, hw3])|refine qf ?_|refine qg ?_
       have h1' : y.hi + 1 = x.lo := by simpa using h1
       rw [if_pos h1'] at hpe
       rw [hpe] at ih3'
       refine ALoop_keep (sl' := [(0, .sl o 1 0 st.length), (5, .vptr G.length 0), (6, .i k), (8, .sl p2 2 0 (ini.length + 1)), (15, .sl o 1 0 st.length), (16, .i st.length), (17, .i c), (22, .sl (Q c) 1 0 T), (23, .i T), (24, .i k), (29, .sl z 2 0 s.length), (30, .i s.length), (31, .i (j + 1 : Nat))]) ?_ (by simp)
       have := ih3' p2 _ ⟨by omega, g.upd [AObj.vars [AV.i x.lo, AV.i x.hi]] _⟩ (by omega)
       simpa using this
      ·repeat first|((first|refine qa tOk rfl ?_|refine qb tOk rfl ?_|refine qh rfl ?_);simp)|refine qf ?_|refine qg ?_
       refine AStep_appendS tOk rfl rfl T171 rfl T187 rfl (by decide) (by decide) rfl rfl rfl ?_
       simp [get_app gA, set_app gA]
       refine ⟨by simp [appOk, get_app gA, set_app gA] <;> omega, ?_⟩
       repeat first|((first|refine qa tOk rfl ?_|refine qb tOk rfl ?_|refine qh rfl ?_);simp [hw3])|refine qf ?_|refine qg ?_
       have h1' : ¬ y.hi + 1 = x.lo := by simpa using h1
       rw [if_neg h1'] at hpe
       rw [hpe] at ih3'
       refine ALoop_keep (sl' := [(0, .sl o 1 0 st.length), (5, .vptr G.length 0), (6, .i k), (8, .sl (W.length + 2) 2 0 (ini.length + 2)), (15, .sl o 1 0 st.length), (16, .i st.length), (17, .i c), (22, .sl (Q c) 1 0 T), (23, .i T), (24, .i k), (29, .sl z 2 0 s.length), (30, .i s.length), (31, .i (j + 1 : Nat))]) ?_ (by simp)
       have := ih3' (W.length + 2) _ ⟨by omega, g.put [AObj.vars [AV.i x.lo, AV.i x.hi], AObj.arr 187 2 [encIv x]] _ rfl⟩ (by omega)
       simpa using this
    ·have hge3' : j = s.length := by simp at hge3; omega
     subst hge3'
     rw [List.take_length] at g ⊢
     have hpl : (pushes [] s).length ≤ s.length := Nat.le_trans (pushes_len _ _) (by simp)
     repeat first|((first|refine qa tOk rfl ?_|refine qb tOk rfl ?_|refine qh rfl ?_);simp)|refine qf ?_|refine qg ?_
     refine AWP_freeze1 p2 g.arr ?_
     simp
     rw [List.take_of_length_le (by simp)]
     have hwl := (get_lt g.arr)
     have hwg := g.ge
     have w1 : ∀ j, j < E1.length → (W.set p2 .dead)[j]? = E1[j]? := fun j hj => by rw [List.getElem?_set_ne (by omega)]; exact g.keep j hj
     have w2 : (W.set p2 .dead).length = W.length := by simp
     generalize W.set p2 .dead = V at *
     refine AWP_cond2 rfl (fun hbig => ?_) (fun hsm2 => ?_)
     ·repeat first|((first|refine qa tOk rfl ?_|refine qb tOk rfl ?_|refine qh rfl ?_);simp)|refine qf ?_|refine qg ?_
      exact big_of hin hpm (by simp at hbig; omega)
     ·have v1 := (w1 _ (get_lt f1)).trans f1
      have v2 := (w1 _ (get_lt f6)).trans f6
      have v0 : ∀ j, j < G.length + 1 → j ≠ Q c → V[j]? = E[j]? := fun j hj hne => (w1 j (by omega)).trans (f3 j hj hne)
      repeat first|((first|refine qa tOk rfl ?_|refine qb tOk rfl ?_|refine qh rfl ?_);simp [v1, v2, hrl, hlt2', hw2])|refine qf ?_|refine qg ?_
      refine ALoop_keep (sl' := [(0, .sl o 1 0 st.length), (5, .vptr G.length 0), (15, .sl o 1 0 st.length), (16, .i st.length), (17, .i c), (22, .sl (Q c) 1 0 T), (23, .i T), (24, .i (k + 1 : Nat))]) ?_ (by simp)
      refine ih2' _ ⟨by omega, by simp; omega, get_self v1 _, fun j hj hne => ?_, ?_, fun t ht => ?_⟩ (by omega)
      ·rw [List.getElem?_set_ne (Ne.symm hne), v0 j (by omega) hne]; exact ek j hj hne
      ·rw [List.getElem?_set_ne (by omega)]; exact v2
      ·rcases List.mem_append.1 ht with ht | ht
       ·exact es t ht
       ·rw [List.mem_singleton.1 ht]; simp at hsm2; omega
  ·have hge2' : k = T := by simp at hge2; omega
   subst hge2'
   rw [rowD_all (L c) hp.1] at eq
   have htl : (tidyP p).length = k := by simp [tidyP, hp.1]
   have eo := (ek o (get_lt go) (Ne.symm hqo)).trans go
   refine AWP_toArr (Q c) eq (list_pure _) ?_
   refine AWP_freezeO (Q c) (get_self eq _) (o0 := .va 76 1 od) o (get_set hqo eo _) (Ne.symm hqo) rfl ?_
   have hqo' : ¬ o = Q c := Ne.symm hqo
   simp [AObj.fz, hfz, hqo']
   repeat first|((first|refine qa tOk rfl ?_|refine qb tOk rfl ?_|refine qh rfl ?_);simp [hw1])|refine qf ?_|refine qg ?_
   refine ALoop_keep (sl' := [(0, .sl o 1 0 st.length), (15, .sl o 1 0 st.length), (16, .i st.length), (17, .i (c + 1 : Nat))]) ?_ (by simp)
   have hEl := get_lt eo
   refine ih (c + 1, _) ⟨by omega, by simp; omega, List.getElem?_set_self (by simpa using hEl), fun j hj h1 h2 => ?_, fun P hP => ?_⟩ (by omega)
   ·have h3 := h2 c (by omega)
    rw [List.getElem?_set_ne (Ne.symm h1), List.getElem?_set_ne (Ne.symm h3), ek j (by omega) h3]
    exact gk j hj h1 (fun c' hc' => h2 c' (by omega))
   ·rw [htk] at hP
    rcases List.mem_append.1 hP with hP | hP
    ·exact gs P hP
    ·rw [List.mem_singleton.1 hP]
     rw [List.take_of_length_le (by omega)] at es
     exact es
 ·have hge' : c = st.length := by simp at hge; omega
  subst hge'
  rw [outD_all] at go
  rw [List.take_of_length_le (by simp)] at gs
  refine AWP_toArr o go (prds_pure _) ?_
  refine AWP_freeze1 o (get_self go _) ?_
  simp
  rw [List.take_of_length_le (by simp)]
  repeat first|((first|refine qa tOk rfl ?_|refine qb tOk rfl ?_|refine qh rfl ?_);simp)|refine qf ?_|refine qg ?_
  exact not_big (by simpa using hn) gs
end Go.Abs
set_option maxRecDepth 100000
namespace Go.Abs
open Go Go.Proofs Go.Maps
set_option linter.unusedSimpArgs false
attribute [simp] T165 T92
def stM (l : List Int) : AObj := .mp (l.map fun z => (.i z, .bool true))
theorem intKeyed : Keyed Tryz.prog 3 := int_keyed (q := .i64) (by kernel_rfl)
theorem int_wf {z : Int} (h : 0 ≤ z ∧ z ≤ 1000000) : (Lit.int .i64 z).wf = true := by
 have h1 : IntKind.i64.min = -9223372036854775808 := by decide
 have h2 : IntKind.i64.max = 9223372036854775807 := by decide
 simp only [Lit.wf, h1, h2, Bool.and_eq_true, decide_eq_true_eq]
 omega
theorem int_isKey {z : Int} (h : 0 ≤ z ∧ z ≤ 1000000) : isKey Tryz.prog 3 (.i z) :=
 ⟨.int .i64 z, .int .i64 z, rfl, keyOf_int_mk (q := .i64) (by kernel_rfl) (int_wf h)⟩
section
variable {nt k : Nat} {S : AS} {ops : Array Oper} {o : Oper} {R : AS → Prop}
theorem AStep_seenI {wr : Bool} (hw : wantedA ops S o = some true) (hd : dstOk nt o = true) {x ix : Operand} (ho : o.op = .lookup 165 x ix false) {id : Nat} (hx : rho S.sl x = some (.mref id)) {z : Int} (hix : rho S.sl ix = some (.i z))
  {l : List Int} (hob : S.hp[id]? = some (stM l)) (hl : ∀ m ∈ l, 0 ≤ m ∧ m ≤ 1000000) (hn : 0 ≤ z ∧ z ≤ 1000000) (hR : R (S.putD o.dst (.bool (decide (z ∈ l))))) : AStep Tryz.prog nt k wr ops o S R := by
 refine AStep_lookup tOk hw hd ho T165 rfl T4 intKeyed hx hix hob (int_isKey hn) (fun p hp => ?_) (z := .bool false) rfl (fun j p hp he => ?_) (fun hne => ?_)
 ·obtain ⟨m, hm, rfl⟩ := List.mem_map.1 hp
  exact int_isKey (hl m hm)
 ·rw [List.getElem?_map] at hp
  obtain ⟨m, hm, rfl⟩ := Option.map_eq_some_iff.1 hp
  have hmn : m = z := by simpa using he
  rw [decide_eq_true (by rw [← hmn]; exact List.mem_of_getElem? hm)] at hR
  exact hR
 ·rw [decide_eq_false (fun h => hne (.i z, .bool true) (List.mem_map.2 ⟨z, h, rfl⟩) rfl)] at hR
  exact hR
theorem AStep_seeI (hw : wantedA ops S o = some true) (hd : dstOk nt o = true) {x ix y : Operand} (ho : o.op = .mapUpdate 165 x ix y) {id : Nat} (hx : rho S.sl x = some (.mref id)) {z : Int} (hix : rho S.sl ix = some (.i z)) (hy : rho S.sl y = some (.bool true))
  {l : List Int} (hob : S.hp[id]? = some (stM l)) (hl : ∀ m ∈ l, 0 ≤ m ∧ m ≤ 1000000) (hn : 0 ≤ z ∧ z ≤ 1000000) (hnl : z ∉ l) (hR : R (({ S with hp := S.hp.set id (stM (l ++ [z])) } : AS).putD o.dst (.tup []))) : AStep Tryz.prog nt k true ops o S R := by
 refine AStep_mapUpdate tOk hw hd ho T165 rfl intKeyed hx hix hy (by simp [AV.pure]) hob (int_isKey hn) (fun p hp => ?_) (fun j p hp he => ?_) (fun hne => ?_)
 ·obtain ⟨m, hm, rfl⟩ := List.mem_map.1 hp
  exact int_isKey (hl m hm)
 ·rw [List.getElem?_map] at hp
  obtain ⟨m, hm, rfl⟩ := Option.map_eq_some_iff.1 hp
  have hmn : m = z := by simpa using he
  exact absurd (by rw [← hmn]; exact List.mem_of_getElem? hm) hnl
 ·have : l.map (fun z => (AV.i z, AV.bool true)) ++ [(.i z, .bool true)] = (l ++ [z]).map fun z => (.i z, .bool true) := by simp
  rw [this]; exact hR
theorem AStep_insI (hw : wantedA ops S o = some true) (hd : dstOk nt o = true) {x ix y : Operand} (ho : o.op = .insert 165 x ix y) {id : Nat} (hx : rho S.sl x = some (.mref id)) {z : Int} (hix : rho S.sl ix = some (.i z)) (hy : rho S.sl y = some (.bool true))
  (hob : S.hp[id]? = some (.mp [])) (hn : 0 ≤ z ∧ z ≤ 1000000) (hR : R (({ S with hp := S.hp.set id (stM [z]) } : AS).putD o.dst (.tup []))) : AStep Tryz.prog nt k true ops o S R := by
 refine AStep_insert tOk hw hd ho T165 rfl intKeyed hx hix hy (by simp [AV.pure]) hob (int_isKey hn) (fun p hp => by cases hp) (fun j p hp he => by cases hp) (fun hne => ?_)
 exact hR
end
end Go.Abs
set_option maxRecDepth 100000
namespace Go.Abs
open Go Go.Proofs Go.Maps
set_option linter.unusedSimpArgs false
theorem strKeyed1 : Keyed Tryz.prog 9 := string_keyed (by kernel_rfl)
theorem str_isKey1 (s : List UInt8) (h : s.length ≤ 1000000) : isKey Tryz.prog 9 (.str s) :=
 ⟨.string ⟨s.toArray⟩, .string s, rfl, by
  have := Go.WideMaps.keyOf_string_mk (P := Tryz.prog) (k := 9) (s := ⟨s.toArray⟩) (by kernel_rfl) (by show s.toArray.size ≤ maxLen; unfold maxLen; simp; omega)
  exact this⟩
def mpT (ks : List (List UInt8)) : AObj := .mp (ks.mapIdx fun c k => (.str k, .i c))
section
variable {nt k : Nat} {S : AS} {ops : Array Oper} {o : Oper} {R : AS → Prop}
theorem mpT_key {ks : List (List UInt8)} (hl : ∀ m ∈ ks, m.length ≤ 1000000) : ∀ p ∈ ks.mapIdx (fun c k => (AV.str k, AV.i (c : Nat))), isKey Tryz.prog 9 p.1 := fun p hp => by
 obtain ⟨i, h, rfl⟩ := List.mem_mapIdx.1 hp
 exact str_isKey1 _ (hl _ (List.getElem_mem h))
theorem AStep_lookK {wr : Bool} (hw : wantedA ops S o = some true) (hd : dstOk nt o = true) {x ix : Operand} (ho : o.op = .lookup 92 x ix true) {id : Nat} (hx : rho S.sl x = some (.mref id)) {n : List UInt8} (hix : rho S.sl ix = some (.str n))
  {ks : List (List UInt8)} (hob : S.hp[id]? = some (mpT ks)) (hl : ∀ m ∈ ks, m.length ≤ 1000000) (hn : n.length ≤ 1000000) (hR1 : ∀ j : Nat, ks[j]? = some n → R (S.putD o.dst (.tup [.i j, .bool true]))) (hR2 : n ∉ ks → R (S.putD o.dst (.tup [.i 0, .bool false]))) : AStep Tryz.prog nt k wr ops o S R := by
 refine AStep_lookupOk tOk hw hd ho T92 rfl T3 strKeyed1 hx hix hob (str_isKey1 n hn) (mpT_key hl) (z := .i 0) rfl (fun j p hp he => ?_) (fun hne => ?_)
 ·rw [List.getElem?_mapIdx] at hp
  obtain ⟨m, hm, rfl⟩ := Option.map_eq_some_iff.1 hp
  have hmn : m = n := by simpa using he
  rw [hmn] at hm
  exact hR1 j hm
 ·refine hR2 fun h => ?_
  obtain ⟨i, hi, rfl⟩ := List.getElem_of_mem h
  exact hne _ (List.mem_mapIdx.2 ⟨i, hi, rfl⟩) rfl
theorem AStep_updK (hw : wantedA ops S o = some true) (hd : dstOk nt o = true) {x ix y : Operand} (ho : o.op = .mapUpdate 92 x ix y) {id : Nat} (hx : rho S.sl x = some (.mref id)) {n : List UInt8} (hix : rho S.sl ix = some (.str n))
  {ks : List (List UInt8)} (hy : rho S.sl y = some (.i ks.length)) (hob : S.hp[id]? = some (mpT ks)) (hl : ∀ m ∈ ks, m.length ≤ 1000000) (hn : n.length ≤ 1000000) (hnl : n ∉ ks) (hR : R (({ S with hp := S.hp.set id (mpT (ks ++ [n])) } : AS).putD o.dst (.tup []))) : AStep Tryz.prog nt k true ops o S R := by
 refine AStep_mapUpdate tOk hw hd ho T92 rfl strKeyed1 hx hix hy (by simp [AV.pure]) hob (str_isKey1 n hn) (mpT_key hl) (fun j p hp he => ?_) (fun hne => ?_)
 ·rw [List.getElem?_mapIdx] at hp
  obtain ⟨m, hm, rfl⟩ := Option.map_eq_some_iff.1 hp
  have hmn : m = n := by simpa using he
  exact absurd (by rw [← hmn]; exact List.mem_of_getElem? hm) hnl
 ·have : ks.mapIdx (fun c k => (AV.str k, AV.i (c : Nat))) ++ [(.str n, .i ks.length)] = (ks ++ [n]).mapIdx (fun c k => (AV.str k, AV.i (c : Nat))) := by simp
  rw [this]; exact hR
end
theorem segs_len : ∀ cs : List Int, (segsI cs).length = cs.length - 1
 | [] => rfl
 | [_] => rfl
 | a :: b :: r => by rw [segsI, List.length_cons, segs_len (b :: r)]; simp
theorem segs_get : ∀ (cs : List Int) (k : Nat) (h : k + 1 < cs.length), (segsI cs)[k]? = some ⟨cs[k], cs[k + 1] - 1⟩
 | [], k, h => by simp at h
 | [_], k, h => by simp at h
 | a :: b :: r, 0, h => rfl
 | a :: b :: r, k + 1, h => by
  have h' : k + 1 < (b :: r).length := by simp at h ⊢; omega
  rw [segsI, List.getElem?_cons_succ, segs_get (b :: r) k h']
  rfl
theorem grpPut_at {T i : Nat} {sg : List Bool} {x : Iv} : ∀ {st : List (List Bool × Prd)} {j : Nat} {p : Prd}, (st.map (·.1)).Nodup → st[j]? = some (sg, p) → grpPut T i sg x st = st.set j (sg, putP p i x)
 | [], j, p, _, h => by simp at h
 | (s, q) :: r, 0, p, hn, h => by
  simp at h
  obtain ⟨rfl, rfl⟩ := h
  rw [grpPut, if_pos rfl]; rfl
 | (s, q) :: r, j + 1, p, hn, h => by
  rw [List.map_cons, List.nodup_cons] at hn
  rw [List.getElem?_cons_succ] at h
  rw [grpPut, if_neg (fun e => hn.1 (by subst e; exact List.mem_map.2 ⟨_, List.mem_of_getElem? h, rfl⟩)), grpPut_at hn.2 h]; rfl
structure GB (T N n : Nat) (st : List (List Bool × Prd)) : Prop where
 nd : (st.map (·.1)).Nodup
 le : st.length ≤ n
 len : ∀ g ∈ st, g.2.length = T
 sz : ∀ g ∈ st, ∀ s ∈ g.2, s.length ≤ n
 kl : ∀ g ∈ st, g.1.length = N
theorem putP_sz {T n : Nat} {p : Prd} (hp : p.length = T) (h : ∀ s ∈ p, s.length ≤ n) (i : Nat) (x : Iv) : (putP p i x).length = T ∧ ∀ s ∈ putP p i x, s.length ≤ n + 1 := by
 refine ⟨by simp [putP, hp], fun s hs => ?_⟩
 rcases List.mem_or_eq_of_mem_set hs with hs | rfl
 ·have := h s hs; omega
 ·rw [List.length_append]
  by_cases hi : i < p.length
  ·rw [getD_len hi]
   have := h _ (List.getElem_mem hi)
   simp; omega
  ·simp [List.getD, hi]
theorem GB.put {T N n : Nat} {st : List (List Bool × Prd)} (h : GB T N n st) {sg : List Bool} (hs : sg.length = N) (i : Nat) (x : Iv) : GB T N (n + 1) (grpPut T i sg x st) := by
 by_cases hm : ∃ g ∈ st, g.1 = sg
 ·obtain ⟨a, p, b, h1, h2, h3⟩ := grpPut_hit (T := T) (i := i) (x := x) hm
  rw [h3]
  subst h1
  have hp := putP_sz (h.len (sg, p) (by simp)) (h.sz (sg, p) (by simp)) i x
  have hcase : ∀ g ∈ a ++ (sg, putP p i x) :: b, g = (sg, putP p i x) ∨ g ∈ a ++ (sg, p) :: b := fun g hg => by
   rcases List.mem_append.1 hg with hg | hg
   ·exact .inr (List.mem_append_left _ hg)
   ·rcases List.mem_cons.1 hg with rfl | hg
    ·exact .inl rfl
    ·exact .inr (List.mem_append_right _ (List.mem_cons_of_mem _ hg))
  refine ⟨by simpa using h.nd, by have := h.le; simp at this ⊢; omega, fun g hg => ?_, fun g hg s hs' => ?_, fun g hg => ?_⟩
  ·rcases hcase g hg with rfl | hg
   ·exact hp.1
   ·exact h.len g hg
  ·rcases hcase g hg with rfl | hg
   ·exact hp.2 s hs'
   ·have := h.sz g hg s hs'; omega
  ·rcases hcase g hg with rfl | hg
   ·exact hs
   ·exact h.kl g hg
 ·have hne : ∀ g ∈ st, g.1 ≠ sg := fun g hg e => hm ⟨g, hg, e⟩
  rw [grpPut_mem hne]
  have hp := putP_sz (T := T) (p := List.replicate T []) (n := n) (by simp) (fun s hs' => by rw [(List.mem_replicate.1 hs').2]; simp) i x
  have hcase : ∀ g ∈ st ++ [(sg, putP (List.replicate T []) i x)], g = (sg, putP (List.replicate T []) i x) ∨ g ∈ st := fun g hg => by
   rcases List.mem_append.1 hg with hg | hg
   ·exact .inr hg
   ·exact .inl (List.mem_singleton.1 hg)
  refine ⟨?_, by have := h.le; simp; omega, fun g hg => ?_, fun g hg s hs' => ?_, fun g hg => ?_⟩
  ·rw [List.map_append, List.nodup_append]
   refine ⟨h.nd, by simp, fun a ha b hb e => ?_⟩
   obtain ⟨g, hg, rfl⟩ := List.mem_map.1 ha
   simp at hb
   exact hne g hg (e.trans hb)
  ·rcases hcase g hg with rfl | hg
   ·exact hp.1
   ·exact h.len g hg
  ·rcases hcase g hg with rfl | hg
   ·exact hp.2 s hs'
   ·have := h.sz g hg s hs'; omega
  ·rcases hcase g hg with rfl | hg
   ·exact hs
   ·exact h.kl g hg
end Go.Abs
/-
 DERIVED: THE SHELF's CONTRACTS AT THIS DUMP, IN PLAIN WORDS (tools/lay-plain.mjs out of 'TryzShelf.lean', which tools/lay-shelf.mjs wrote): THE SAME DECLARATIONS UNDER THE SAME NAMES: 'import', 'namespace', 'open', 'def', 'theorem' AND NOTHING ELSE: no command of the shelf's: FOR A HAND-IN. Each laying: the table of numbers ('.._ren') and one theorem, a field a fact of the dump's own or the kernel's comparison; each contract: ONE APPLICATION.
-/
namespace Go.Proofs
open Go.Shelf
def Tryz.laysM176_ren : Go.Shelf.Ren := ⟨fun | 176 => 178 | 249 => 200 | 288 => 218 | 283 => 240 | 284 => 241 | 285 => 242 | 286 => 243 | 129 => 217 | 317 => 251 | 318 => 252 | 319 => 253 | 320 => 254 | 337 => 257 | 338 => 258 | n => n, fun | 37 => 234 | 2 => 2 | 3 => 3 | 53 => 250 | 4 => 4 | 9 => 9 | 171 => 288 | 0 => 0 | 173 => 290 | 212 => 300 | 51 => 247 | 5 => 5 | 20 => 20 | 213 => 301 | 46 => 213 | 232 => 304 | 233 => 305 | n => n, fun | 17 => 0 | 18 => 1 | 19 => 2 | n => n⟩
theorem Tryz.laysM176 : Go.Proofs.LaysM.n176 Tryz.prog Tryz.laysM176_ren := {
 mixed := by kernel_rfl
 f129 := Tryz.func217.trans (congrArg some (by kernel_rfl))
 f176 := Tryz.func178.trans (congrArg some (by kernel_rfl))
 f249 := Tryz.func200.trans (congrArg some (by kernel_rfl))
 f283 := Tryz.func240.trans (congrArg some (by kernel_rfl))
 f284 := Tryz.func241.trans (congrArg some (by kernel_rfl))
 f285 := Tryz.func242.trans (congrArg some (by kernel_rfl))
 f286 := Tryz.func243.trans (congrArg some (by kernel_rfl))
 f288 := Tryz.func218.trans (congrArg some (by kernel_rfl))
 f317 := Tryz.func251.trans (congrArg some (by kernel_rfl))
 f318 := Tryz.func252.trans (congrArg some (by kernel_rfl))
 f319 := Tryz.func253.trans (congrArg some (by kernel_rfl))
 f320 := Tryz.func254.trans (congrArg some (by kernel_rfl))
 f337 := Tryz.func257.trans (congrArg some (by kernel_rfl))
 f338 := Tryz.func258.trans (congrArg some (by kernel_rfl))
 t0 := Tryz.underlying0
 a0 := Tryz.isAgg0
 z0 := Tryz.sizeOf0
 v0 := Tryz.zeroValue0
 t2 := Tryz.underlying2
 a2 := Tryz.isAgg2
 z2 := Tryz.sizeOf2
 v2 := Tryz.zeroValue2
 t3 := Tryz.underlying3
 a3 := Tryz.isAgg3
 z3 := Tryz.sizeOf3
 v3 := Tryz.zeroValue3
 t4 := Tryz.underlying4
 a4 := Tryz.isAgg4
 z4 := Tryz.sizeOf4
 v4 := Tryz.zeroValue4
 t5 := Tryz.underlying5
 a5 := Tryz.isAgg5
 z5 := Tryz.sizeOf5
 v5 := Tryz.zeroValue5
 t9 := Tryz.underlying9
 a9 := Tryz.isAgg9
 z9 := Tryz.sizeOf9
 v9 := Tryz.zeroValue9
 t20 := Tryz.underlying20
 a20 := Tryz.isAgg20
 z20 := Tryz.sizeOf20
 v20 := Tryz.zeroValue20
 t37 := Tryz.underlying234
 a37 := Tryz.isAgg234
 z37 := Tryz.sizeOf234
 v37 := Tryz.zeroValue234
 t46 := Tryz.underlying213
 a46 := Tryz.isAgg213
 z46 := Tryz.sizeOf213
 v46 := Tryz.zeroValue213
 t51 := Tryz.underlying247
 a51 := Tryz.isAgg247
 z51 := Tryz.sizeOf247
 v51 := Tryz.zeroValue247
 t53 := Tryz.underlying250
 a53 := Tryz.isAgg250
 z53 := Tryz.sizeOf250
 v53 := Tryz.zeroValue250
 t171 := Tryz.underlying288
 a171 := Tryz.isAgg288
 z171 := Tryz.sizeOf288
 v171 := Tryz.zeroValue288
 t173 := Tryz.underlying290
 a173 := Tryz.isAgg290
 z173 := Tryz.sizeOf290
 v173 := Tryz.zeroValue290
 t212 := Tryz.underlying300
 a212 := Tryz.isAgg300
 z212 := Tryz.sizeOf300
 v212 := Tryz.zeroValue300
 t213 := Tryz.underlying301
 a213 := Tryz.isAgg301
 z213 := Tryz.sizeOf301
 t232 := Tryz.underlying304
 a232 := Tryz.isAgg304
 z232 := Tryz.sizeOf304
 v232 := Tryz.zeroValue304
 t233 := Tryz.underlying305
 a233 := Tryz.isAgg305
 z233 := Tryz.sizeOf305
 v233 := Tryz.zeroValue305
 g17 := by kernel_rfl
 g18 := by kernel_rfl
 g19 := by kernel_rfl
 i0 := by kernel_rfl
 i2 := by kernel_rfl
 i3 := by kernel_rfl
 i4 := by kernel_rfl
 i5 := by kernel_rfl
 i9 := by kernel_rfl
 i20 := by kernel_rfl
 i37 := by kernel_rfl
 i46 := by kernel_rfl
 i51 := by kernel_rfl
 i53 := by kernel_rfl
 i171 := by kernel_rfl
 i173 := by kernel_rfl
 i212 := by kernel_rfl
 i232 := by kernel_rfl
 i233 := by kernel_rfl
 m17 := by kernel_rfl
 m18 := by kernel_rfl
 m19 := by kernel_rfl }
open Go.RowKit Go.Sort Go.Lib in
theorem Tryz.strconv_AppendInt_10 (B n : Nat) (i : Int) (h0 : -9223372036854775808 ≤ i) (h1 : i ≤ 9223372036854775807) (sv : Value) (xs : List Value) (w : World) (hown : w.ownsRow B 5 1 sv n xs) (hBw : B ≤ w.heap.size) (hlim : n + 21 ≤ 140737488355328) (htab : Lib.TabBelow Tryz.prog B w "internal/strconv.uint64pow10" .u64 Lib.pow10Tab) :
  Calls Tryz.prog 178 #[sv, .int .i64 i, .int .i64 10] w fun e w' => ∃ v', e = .returned v' ∧ w'.ownsRow B 5 1 v' (n + (Lib.itoa i).length) (xs ++ Lib.byteCells (Lib.itoa i)) ∧ Below B w w' ∧ Lib.OthersKept 5 none w w' := Any.strconv_AppendInt_10 Tryz.laysM176 B n i h0 h1 sv xs w hown hBw hlim htab
end Go.Proofs
set_option maxRecDepth 100000
namespace Go.Proofs
open Go.Shelf Go.RowKit
def txtS (zs : List Int) : List UInt8 := zs.flatMap fun z => 32 :: Lib.itoa z
theorem txtS_snoc (zs : List Int) {k : Nat} (h : k < zs.length) : txtS (zs.take (k + 1)) = txtS (zs.take k) ++ 32 :: Lib.itoa (zs.getD k 0) := by
 have : zs.getD k 0 = zs[k] := by simp [List.getD, h]
 rw [List.take_succ_eq_append_getElem h, this, txtS, List.flatMap_append]
 simp [txtS]
theorem txtS_len {zs : List Int} (hz : ∀ z ∈ zs, -9223372036854775808 ≤ z ∧ z ≤ 9223372036854775807) : (txtS zs).length ≤ zs.length * 22 := by
 induction zs with
 | nil => simp [txtS]
 | cons z r ih =>
  have h1 := Lib.itoa_length_le z (hz z (by simp)).1 (hz z (by simp)).2
  have h2 := ih (fun y hy => hz y (by simp [hy]))
  have e : txtS (z :: r) = 32 :: (Lib.itoa z ++ txtS r) := by simp [txtS]
  rw [e, List.length_cons, List.length_append, List.length_cons]
  omega
theorem infoByte1 : (Tryz.prog.info? 5).map (fun i => (i.zero, i.size, i.bytes)) = some (some (.int .u8 0), 1, 1) := by kernel_rfl
set_option maxHeartbeats 6400000 in
theorem text_any (ad : Addr) (cap : Nat) (zs : List Int) (w : World) (hb : ad.block < w.heap.size) (hz : ∀ z ∈ zs, -9223372036854775808 ≤ z ∧ z ≤ 9223372036854775807) (hl : zs.length ≤ 1000) (hne : 0 < zs.length)
  (hc : ∀ j, j < zs.length → w.cell? (ad.add j) = some (.int .i64 (zs.getD j 0))) (htab : Lib.TabIs Tryz.prog w "internal/strconv.uint64pow10" .u64 Lib.pow10Tab) :
  Calls Tryz.prog 123 #[.slice (some ad) zs.length cap] w fun e w' => e = .returned (.string ⟨(txtS zs).toArray⟩) ∧ Below w.heap.size w w' := by
 obtain ⟨i0, hi, hz0, hz1, hz2⟩ := info_parts infoByte1
 have hT := Lib.tabBelow_of_tabIs htab
 have hbd : ∀ k, (txtS (zs.take k)).length ≤ 22000 := fun k => by
  have := txtS_len (zs := zs.take k) (fun z hz' => hz z (List.mem_of_mem_take hz'))
  rw [List.length_take] at this
  have : min k zs.length ≤ 1000 := by omega
  omega
 go_enter Tryz.func123, Tryz.ntmps123
 go_wp2
 go_loopw [3, 8] (fun v i wr => ∃ k : Nat, k ≤ zs.length ∧ i = .int .i64 k ∧ wr.ownsRow w.heap.size 5 1 v (txtS (zs.take k)).length (Lib.byteCells (txtS (zs.take k))) ∧ Below w.heap.size w wr)
  (fun _ i _ => zs.length - (intOf i).toNat)
 case atStart => exact ⟨0, Nat.zero_le _, rfl, World.ownsRow_nil _ _ _ _, Below.refl _ _⟩
 case round =>
  obtain ⟨k, hk, rfl, hown, hnx⟩ := hrel
  have hcx : k < zs.length → wr.cell? (ad.add k) = some (.int .i64 (zs.getD k 0)) := fun h => (hnx.cell (by unfold Addr.add; split <;> exact hb)).trans (hc k h)
  go_wp2_with (first
   | (at_builtin; refine wpList_append_own _ rfl _ _ 234 rfl w.heap.size 5 i0 (.int .u8 0) 1 1 Tryz.underlying234 hi hz0 hz1 hz2 rfl (by decide) _ _ _ rfl (hown.alloc _) ⟨wr.heap.size, 0, none⟩ 1 1 [.int .u8 32] rfl rfl ?c1 ?c2 ?c3 ?c4 ?c5 ?_)
   | go_in)
  case c1 =>
   intro j u hj
   match j, hj with
   | 0, hj => simp at hj; subst hj; simp [Addr.add]
  case c2 => intro u hu; simp at hu; subst hu; rfl
  case c3 => have := hbd k; unfold maxLen; omega
  case c4 => have := hbd k; omega
  case c5 => have := hnx.size; simp; omega
  ·intro v' w1 hown' hgrow _
   have hlt : k < zs.length := by assumption
   have hnx2 : Below w.heap.size w w1 := (hnx.alloc (by have := hnx.size; omega) _).grown hgrow (by have := hnx.size; simp; omega) (fun k hk => (hown.lt k hk).1)
   have hzk := hz _ (List.getElem_mem hlt)
   have hgd : zs.getD k 0 = zs[k] := by simp [List.getD, hlt]
   have hsn := txtS_snoc zs hlt
   rw [hgd] at hsn
   go_wp2_with (go_at_call 178; refine (Tryz.strconv_AppendInt_10 w.heap.size _ zs[k] hzk.1 hzk.2 v' _ w1 hown' (by have := hnx2.size; omega) (by have := hbd k; omega) (hT.on hnx2)).mono ?_; rintro e w3 ⟨v3, rfl, hown3, hnx3, -⟩; refine Hid.out ?_)
   have hown4 : w3.ownsRow w.heap.size 5 1 v3 (txtS (zs.take (k + 1))).length (Lib.byteCells (txtS (zs.take (k + 1)))) := by
    have e1 : Lib.byteCells (txtS (zs.take k)) ++ [Value.int .u8 32] ++ Lib.byteCells (Lib.itoa zs[k]) = Lib.byteCells (txtS (zs.take (k + 1))) := by rw [hsn]; simp [Lib.byteCells]
    have e2 : (txtS (zs.take k)).length + 1 + (Lib.itoa zs[k]).length = (txtS (zs.take (k + 1))).length := by rw [hsn]; simp; omega
    rw [e1, e2] at hown3
    exact hown3
   have hnx4 := hnx2.trans hnx3
   clear hown3 hown' hgrow hown hnx hnx2 hcx hsn
   refine Lib.hid ?_
   go_wp2
   go_roundw
   case rel => exact ⟨k + 1, by omega, by simp, hown4, hnx4⟩
   case measure => simp [intOf]; omega
  ·have hge : ¬ k < zs.length := by assumption
   have hkl : k = zs.length := by omega
   subst hkl
   rw [List.take_length] at hown
   have hpos : 0 < (txtS zs).length := by
    obtain ⟨z, r, rfl⟩ : ∃ z r, zs = z :: r := by cases zs with
     | nil => simp at hne
     | cons z r => exact ⟨z, r, rfl⟩
    simp [txtS]
   obtain ⟨l, hlt⟩ : ∃ l, l = txtS zs := ⟨_, rfl⟩
   rw [← hlt] at hown hpos
   have HL := Lib.hid hlt
   clear hlt
   rcases hown.2 with ⟨-, h0⟩ | ⟨g, cap2, cur, rfl, -, -, -, -, -, -⟩
   ·omega
   ·have hcv := run_convert_bytes_back (P := Tryz.prog) wr 234 9 5 ⟨g, 0, none⟩ cap2 l Tryz.underlying234 Tryz.underlying5 Tryz.underlying9 (fun j hj => hown.cells (g := g) rfl j _ (by simp [Lib.byteCells, hj]))
    rw [hcv]
    go_wp2
    go_ret
    have hl2 := HL.out
    subst hl2
    exact ⟨rfl, hnx⟩
end Go.Proofs
namespace Go.Abs
open Go Go.Proofs Go.RowKit
theorem pc_text (zs : List Int) (hz : ∀ z ∈ zs, -9223372036854775808 ≤ z ∧ z ≤ 9223372036854775807) (hl : zs.length ≤ 1000) (hne : zs ≠ []) : PC Tryz.prog 123 [.list (zs.map .i)] (fun r => r = .str (txtS zs)) := by
 refine ⟨callable Tryz.func123 rfl rfl, fun w I vals hE hI hl' hv => ?_⟩
 rcases vals with ⟨vals⟩
 match vals, hl' with
 | [v], _ =>
  have hv0 := hv 0 v _ rfl rfl
  obtain ⟨a, cap, c, u, rfl, hcap, hmax, hc, ha, hu⟩ := hv0.list_inv
  have hpos : 0 < zs.length := List.length_pos_iff.2 hne
  have hc1 : c = 1 := by
   have := hc (.i zs[0]) (List.mem_map.2 ⟨_, List.getElem_mem hpos, rfl⟩)
   simpa [AV.cells] using this.symm
  subst hc1
  obtain ⟨ad, rfl, hIb, hcell⟩ := ha (by simpa using hpos)
  have hcl : ∀ j, j < zs.length → w.cell? (ad.add j) = some (.int .i64 (zs.getD j 0)) := fun j hj => by
   have h1 := hcell j 0 (by simpa using hj) (by omega)
   have h2 := hu j (.i zs[j]) (by simp [hj]) 0 (.i zs[j]) rfl
   have h3 := h2.val (u := .int .i64 zs[j]) rfl
   rw [Nat.mul_one, Nat.add_zero, h3] at h1
   rw [h1]
   simp [List.getD, hj]
  have := text_any ad cap zs w (hI _ (hIb (by omega))) hz hl hpos hcl (pow10_tab hE)
  rw [List.length_map]
  refine this.mono ?_
  rintro e w' ⟨rfl, hb⟩
  exact ⟨_, I, _, rfl, rfl, hb, fun _ h => h, fun b hb' => ⟨Nat.lt_of_lt_of_le (hI b hb') hb.size, .inl hb'⟩, .str _⟩
end Go.Abs
set_option maxRecDepth 100000
namespace Go.Proofs
open Go.Shelf Go.RowKit
def decV (l : List UInt8) : Nat := l.foldl (fun v c => v * 10 + (c.toNat - 48)) 0
theorem decV_snoc (l : List UInt8) (c : UInt8) : decV (l ++ [c]) = decV l * 10 + (c.toNat - 48) := by simp [decV, List.foldl_append]
theorem ofNat_dig {k : Nat} (h : k < 10) : (UInt8.ofNat (48 + k)).toNat = 48 + k := by
 rw [UInt8.toNat_ofNat']; omega
theorem decV_dec (u : Nat) : decV (Lib.decDigits u) = u ∧ ∀ c ∈ Lib.decDigits u, c ≠ 32 := by
 induction u using Nat.strongRecOn with
 | _ u ih =>
  rw [Lib.decDigits]
  by_cases h : u < 10
  ·rw [dif_pos h]
   refine ⟨?_, fun c hc e => ?_⟩
   ·have := ofNat_dig h
    simp only [decV, List.foldl_cons, List.foldl_nil, this]; omega
   ·rw [List.mem_singleton.1 hc] at e
    have := ofNat_dig h
    rw [e] at this; simp at this; omega
  ·rw [dif_neg h]
   obtain ⟨h1, h2⟩ := ih (u / 10) (by omega)
   have hd := ofNat_dig (Nat.mod_lt u (by decide : 0 < 10))
   refine ⟨?_, fun c hc e => ?_⟩
   ·rw [decV_snoc, h1, hd]; omega
   ·rcases List.mem_append.1 hc with hc | hc
    ·exact h2 c hc e
    ·rw [List.mem_singleton.1 hc] at e
     rw [e] at hd; simp at hd; omega
theorem itoa_nn {z : Int} (h : 0 ≤ z) : Lib.itoa z = Lib.decDigits z.toNat := by
 unfold Lib.itoa; rw [if_neg (by omega)]
theorem sp_inj : ∀ {a b r s : List UInt8}, (∀ c ∈ a, c ≠ 32) → (∀ c ∈ b, c ≠ 32) → (r = [] ∨ ∃ t, r = 32 :: t) → (s = [] ∨ ∃ t, s = 32 :: t) → a ++ r = b ++ s → a = b ∧ r = s
 | [], [], r, s, _, _, _, _, h => ⟨rfl, h⟩
 | [], y :: b, r, s, _, hb, hr, _, h => by
  rcases hr with rfl | ⟨t, rfl⟩
  ·simp at h
  ·simp at h
   exact absurd h.1.symm (hb y (by simp))
 | x :: a, [], r, s, ha, _, _, hs, h => by
  rcases hs with rfl | ⟨t, rfl⟩
  ·simp at h
  ·simp at h
   exact absurd h.1 (ha x (by simp))
 | x :: a, y :: b, r, s, ha, hb, hr, hs, h => by
  simp only [List.cons_append, List.cons.injEq] at h
  obtain ⟨h1, h2⟩ := sp_inj (fun c hc => ha c (by simp [hc])) (fun c hc => hb c (by simp [hc])) hr hs h.2
  exact ⟨by rw [h.1, h1], h2⟩
theorem txtS_head (zs : List Int) : txtS zs = [] ∨ ∃ t, txtS zs = 32 :: t := by
 cases zs with
 | nil => exact .inl rfl
 | cons z r => exact .inr ⟨Lib.itoa z ++ txtS r, by simp [txtS]⟩
theorem txtS_inj : ∀ {a b : List Int}, (∀ z ∈ a, 0 ≤ z) → (∀ z ∈ b, 0 ≤ z) → txtS a = txtS b → a = b
 | [], [], _, _, _ => rfl
 | [], y :: b, _, _, h => by simp [txtS] at h
 | x :: a, [], _, _, h => by simp [txtS] at h
 | x :: a, y :: b, ha, hb, h => by
  have e1 : ∀ (z : Int) (r : List Int), txtS (z :: r) = 32 :: (Lib.itoa z ++ txtS r) := fun z r => by simp [txtS]
  rw [e1, e1, List.cons.injEq] at h
  have hx := ha x (by simp)
  have hy := hb y (by simp)
  rw [itoa_nn hx, itoa_nn hy] at h
  obtain ⟨h1, h2⟩ := sp_inj (decV_dec _).2 (decV_dec _).2 (txtS_head a) (txtS_head b) h.2
  have h3 := congrArg decV h1
  rw [(decV_dec _).1, (decV_dec _).1] at h3
  have h4 := txtS_inj (fun z hz => ha z (by simp [hz])) (fun z hz => hb z (by simp [hz])) h2
  rw [h4, show x = y by omega]
end Go.Proofs
set_option maxRecDepth 100000
namespace Go.Abs
open Go Go.Proofs Go.Maps
set_option linter.unusedSimpArgs false
theorem pc_from (a : Aut) (s : Int) : PC Tryz.prog 110 [encA a, .i s] (fun r => r = .fn (.func 167) [] [.iptr (cellsA a), .iptr [.i s]]) := by
 refine PC_body tOk Tryz.func110 rfl Tryz.results110 rfl (by simp [Tryz.ntmps110]) ?_
 rw [Tryz.ntmps110]
 simp only [argSlots]
 simp only [encA]
 repeat first|((first|refine qa tOk rfl ?_|refine qb tOk rfl ?_|refine qh rfl ?_);simp)|refine qf ?_|refine qg ?_
theorem ck_whole (T : Int) (hT : 1 ≤ T ∧ T ≤ 16) : ckPrd T (wholeP T.toNat) = 0 :=
 (ckPrd_iff T _).2 ⟨hT, by simp [wholeP], fun s hs => by
  have : s = gapsR [] := (List.mem_replicate.1 hs).2
  rw [this, show gapsR [] = [(⟨-1099511627776, 1099511627776⟩ : Iv)] from rfl]
  exact ⟨by simp, fun x hx => by simp at hx; subst hx; decide, fun j h => by simp at h⟩⟩
theorem hasF_whole (T : Int) (hT : 1 ≤ T ∧ T ≤ 16) (x : Sy) : (hasF (wholeP T.toNat) x).2 = ckSy T x := by
 rw [hasF_ok (ck_whole T hT)]
 by_cases h : ckSy T x = 0
 ·rw [if_neg (fun k => k h), h]
 ·rw [if_pos h]
structure Nx (a : Aut) (R : List Int) (x : Sy) (dn : Int → Prop) (nx : List Int) : Prop where
 sub : ∀ z ∈ nx, z ∈ nextL a R x
 all : ∀ i, dn i → ∀ m ∈ a.mv, m.src = i → hasS m.on x = true → m.dst ∈ nx
theorem runL_nil (a : Aut) (l : List Int) : runL a l [] = l := rfl
theorem runL_snoc (a : Aut) (l : List Int) (w : List Sy) (x : Sy) : runL a l (w ++ [x]) = nextL a (runL a l w) x := by unfold runL; rw [List.foldl_append]; rfl
theorem accL_iff (a : Aut) (w : List Sy) : accL a w = true ↔ ∃ s ∈ runL a [0] w, a.fin.getD s.toNat false = true := by unfold accL; exact finB_iff
theorem mem_erase {α : Type} {l : List α} {j : Nat} {p q : α} (h : l[j]? = some p) (hq : q ∈ l) (hn : q ∉ l.eraseIdx j) : q = p := by
 obtain ⟨i, hi, rfl⟩ := List.getElem_of_mem hq
 by_cases e : i = j
 ·subst e
  rw [List.getElem?_eq_getElem hi] at h
  exact Option.some.inj h
 ·exact absurd (List.mem_eraseIdx_iff_getElem?.2 ⟨i, e, List.getElem?_eq_getElem hi⟩) hn
theorem erase_map {α β : Type} (f : α → β) (l : List α) (j : Nat) : (l.map f).eraseIdx j = (l.eraseIdx j).map f := by
 induction l generalizing j with
 | nil => simp
 | cons x l ih => cases j <;> simp [ih]
attribute [local irreducible] hasF ckSy accL wholeP runL nextL
set_option maxHeartbeats 8000000 in
theorem pc_Accepts (a : Aut) (w : List Sy) : PC Tryz.prog 45 [encA a, LSy w] (fun r => r = .tup [.bool (accF a w).1, .i (accF a w).2]) := by
 refine PC_body tOk Tryz.func45 rfl Tryz.results45 rfl (by simp [Tryz.ntmps45]) ?_
 rw [Tryz.ntmps45]
 simp only [argSlots]
 simp only [encA]
 repeat first|((first|refine qa tOk rfl ?_|refine qb tOk rfl ?_|refine qh rfl ?_);simp)|refine qf ?_|refine qg ?_
 refine AStep_PC rfl rfl (by simp) (pc_sCheck a) rfl ?_
 rintro _ rfl
 simp
 repeat first|((first|refine qa tOk rfl ?_|refine qb tOk rfl ?_|refine qh rfl ?_);simp)|refine qf ?_|refine qg ?_
 refine AWP_cond2 rfl (fun h => ?_) (fun h => ?_)
 ·repeat first|((first|refine qa tOk rfl ?_|refine qb tOk rfl ?_|refine qh rfl ?_);simp)|refine qf ?_|refine qg ?_
  have hE : accE a w = ckAut a := by rw [accE, if_pos (by simpa using h)]
  rw [accF, hE, if_pos (by simpa using h)]; exact ⟨rfl, rfl⟩
 have h0 : ckAut a = 0 := by simpa using h
 have hok := (ck_ok a).1 h0
 repeat first|((first|refine qa tOk rfl ?_|refine qb tOk rfl ?_|refine qh rfl ?_);simp)|refine qf ?_|refine qg ?_
 refine AWP_cond2 rfl (fun h => ?_) (fun h => ?_)
 ·repeat first|((first|refine qa tOk rfl ?_|refine qb tOk rfl ?_|refine qh rfl ?_);simp)|refine qf ?_|refine qg ?_
  have hE : accE a w = 5 := by rw [accE, if_neg (fun k => k h0), if_pos (by simp at h; omega)]
  rw [accF, hE]; exact ⟨rfl, rfl⟩
 have hl : w.length ≤ 4096 := by simp at h; omega
 have hE : accE a w = ckWd a.types w := by rw [accE, if_neg (fun k => k h0), if_neg (by omega)]
 repeat first|((first|refine qa tOk rfl ?_|refine qb tOk rfl ?_|refine qh rfl ?_);simp)|refine qf ?_|refine qg ?_
 refine AStep_PC rfl rfl (by simp) (pc_All a.types hok.types.1 hok.types.2) rfl ?_
 rintro _ rfl
 simp
 repeat first|((first|refine qa tOk rfl ?_|refine qb tOk rfl ?_|refine qh rfl ?_);simp)|refine qf ?_|refine qg ?_
 refine AWP_countI w.length (fun j => ckWd a.types w = ckWd a.types (w.drop j)) (fun j => [(1, LSy w), (2, .vptr 0 0), (7, .vptr 1 0), (34, LSy w), (35, .i w.length), (36, .i j)]) (fun _ => [.vars (cellsA a), .vars [.list ((wholeP a.types.toNat).map encL)]]) rfl (by simp) (by simp) (by simp) (by simp) (by simp) ?_
 intro j hj hI ih
 repeat first|((first|refine qa tOk rfl ?_|refine qb tOk rfl ?_|refine qh rfl ?_);simp)|refine qf ?_|refine qg ?_
 refine AWP_cond2 rfl (fun hlt => ?_) (fun hge => ?_)
 ·have hlt' : j < w.length := by simpa using hlt
  have hw : IntKind.i64.wrap ((j : Int) + 1) = j + 1 := wrap_i64 _ (by omega) (by omega)
  rw [drop_get hlt', ckWd] at hI
  repeat first|((first|refine qa tOk rfl ?_|refine qb tOk rfl ?_|refine qh rfl ?_);simp [hlt'])|refine qf ?_|refine qg ?_
  refine AStep_PC rfl rfl (by simp) (pc_pContains (wholeP a.types.toNat) w[j]) rfl ?_
  rintro _ rfl
  simp [hasF_whole a.types hok.types]
  repeat first|((first|refine qa tOk rfl ?_|refine qb tOk rfl ?_|refine qh rfl ?_);simp)|refine qf ?_|refine qg ?_
  refine AWP_cond2 rfl (fun h3 => ?_) (fun h3 => ?_)
  ·repeat first|((first|refine qa tOk rfl ?_|refine qb tOk rfl ?_|refine qh rfl ?_);simp)|refine qf ?_|refine qg ?_
   rw [if_pos (by simpa using h3)] at hI
   rw [accF, hE, hI, if_pos (by simpa using h3)]; exact ⟨rfl, rfl⟩
  ·rw [if_neg (by simpa using h3)] at hI
   repeat first|((first|refine qa tOk rfl ?_|refine qb tOk rfl ?_|refine qh rfl ?_);simp [hw])|refine qf ?_|refine qg ?_
   refine ALoop_end _ (ih hlt' hI) rfl (by simp) ?_ (by simp) (by simp)
   simp
 ·have hge' : j = w.length := by simp at hge; omega
  subst hge'
  rw [List.drop_length] at hI
  have hW : ∀ x ∈ w, okSy a x := fun x hx => (ckSy_iff _ _).1 ((ckWd_iff w).1 hI x hx)
  have hR : accF a w = (accL a w, 0) := by rw [accF, hE, hI]; rfl
  rw [hR]
  repeat first|((first|refine qa tOk rfl ?_|refine qb tOk rfl ?_|refine qh rfl ?_);simp)|refine qf ?_|refine qg ?_
  refine AStep_makeMap rfl rfl rfl ?_
  simp
  refine AStep_insI rfl rfl rfl rfl rfl rfl rfl (by decide) ?_
  simp
  repeat first|((first|refine qa tOk rfl ?_|refine qb tOk rfl ?_|refine qh rfl ?_);simp)|refine qf ?_|refine qg ?_
  refine AWP_loop (ALoop_keep (sl' := [(1, LSy w), (2, .vptr 0 0), (13, .mref 2), (52, LSy w), (53, .i w.length), (54, .i (0 : Nat))]) ?_ (by simp))
  refine ALoop_wf (F := fun (u : Nat × Nat × List Int × List AObj) => ⟨[(1, LSy w), (2, .vptr 0 0), (13, .mref u.2.1), (52, LSy w), (53, .i w.length), (54, .i u.1)], u.2.2.2⟩)
   (fun u => u.1 ≤ w.length ∧ u.2.2.2[0]? = some (.vars (cellsA a)) ∧ u.2.2.2[u.2.1]? = some (stM u.2.2.1) ∧ ∀ z, z ∈ u.2.2.1 ↔ z ∈ runL a [0] (w.take u.1)) (fun u => w.length - u.1) ?_ (0, 2, [0], _) ⟨by simp, rfl, rfl, by simp [runL_nil]⟩
  rintro ⟨j, q, l, G⟩ ⟨hj, g0, gq, hl⟩ ih
  simp only at hj g0 gq hl ih ⊢
  repeat first|((first|refine qa tOk rfl ?_|refine qb tOk rfl ?_|refine qh rfl ?_);simp)|refine qf ?_|refine qg ?_
  have hin : ∀ z ∈ l, 0 ≤ z ∧ z < a.fin.length := fun z hz => runIn _ _ (zero_in hok.wfA) z ((hl z).1 hz)
  have hfl := hok.fin
  refine AWP_cond2 rfl (fun hlt => ?_) (fun hge => ?_)
  ·have hlt' : j < w.length := by simpa using hlt
   have hw : IntKind.i64.wrap ((j : Int) + 1) = j + 1 := wrap_i64 _ (by omega) (by omega)
   have hx := hW _ (List.getElem_mem hlt')
   have hnx : runL a [0] (w.take (j + 1)) = nextL a (runL a [0] (w.take j)) w[j] := by rw [List.take_succ_eq_append_getElem hlt', runL_snoc]
   have ih' := fun q' l' G' => ih (j + 1, q', l', G')
   simp only [hnx] at ih'
   clear hnx
   generalize runL a [0] (w.take j) = R at *
   repeat first|((first|refine qa tOk rfl ?_|refine qb tOk rfl ?_|refine qh rfl ?_);simp [hlt'])|refine qf ?_|refine qg ?_
   generalize w[j] = x at *
   refine AStep_makeMap rfl rfl rfl ?_
   simp
   repeat first|((first|refine qa tOk rfl ?_|refine qb tOk rfl ?_|refine qh rfl ?_);simp [g0, gq])|refine qf ?_|refine qg ?_
   refine AStep_range tOk rfl rfl rfl T165 rfl rfl (get_app gq _) ?_
   simp
   repeat first|((first|refine qa tOk rfl ?_|refine qb tOk rfl ?_|refine qh rfl ?_);simp)|refine qf ?_|refine qg ?_
   have hql := get_lt gq
   have hG0 := get_lt g0
   have hq0 : q ≠ 0 := fun e => by subst e; rw [g0] at gq; unfold stM at gq; simp at gq
   refine AWP_abs fun E hE => ?_
   have e0 : E[0]? = some (.vars (cellsA a)) := by rw [hE]; exact get_app (get_set hq0 (get_app g0 _) _) _
   have ex : E[G.length]? = some (.vars [.i x.ty, .i x.num]) := by rw [hE]; exact get_app (get_set (by omega) (by simp) _) _
   have em : E[G.length + 1]? = some (stM []) := by rw [hE]; exact get_app (get_set (by omega) (by simp [stM]) _) _
   have ec : E[G.length + 2]? = some (.vars [.mref (G.length + 1)]) := by rw [hE]; exact get_app (get_set (by omega) (by simp) _) _
   have ei : E[G.length + 3]? = some (.it (l.map fun z => (.i z, .bool true)) none) := by rw [hE]; rw [List.getElem?_append_right (by simp)]; simp
   have hEl : E.length = G.length + 4 := by rw [hE]; simp
   clear hE
   refine AWP_loop (ALoop_keep (sl' := [(1, LSy w), (2, .vptr 0 0), (15, .vptr G.length 0), (16, .vptr (G.length + 2) 0), (52, LSy w), (53, .i w.length), (54, .i j), (60, .vptr (G.length + 3) 0)]) ?_ (by simp))
   refine ALoop_wf (F := fun (u : List Int × Option (AV × AV) × List Int × List AObj) => ⟨[(1, LSy w), (2, .vptr 0 0), (15, .vptr G.length 0), (16, .vptr (G.length + 2) 0), (52, LSy w), (53, .i w.length), (54, .i j), (60, .vptr (G.length + 3) 0)], u.2.2.2⟩)
    (fun u => u.2.2.2[0]? = some (.vars (cellsA a)) ∧ u.2.2.2[G.length]? = some (.vars [.i x.ty, .i x.num]) ∧ u.2.2.2[G.length + 1]? = some (stM u.2.2.1) ∧ u.2.2.2[G.length + 2]? = some (.vars [.mref (G.length + 1)]) ∧ u.2.2.2[G.length + 3]? = some (.it (u.1.map fun z => (.i z, .bool true)) u.2.1) ∧ G.length + 4 ≤ u.2.2.2.length ∧
     (∀ z ∈ u.1, z ∈ l) ∧ Nx a R x (fun i => i ∈ l ∧ i ∉ u.1) u.2.2.1) (fun u => u.1.length) ?_ (l, none, [], E) ⟨e0, ex, em, ec, ei, by simp [hEl], fun z hz => hz, ⟨fun z hz => by simp at hz, fun i hi => absurd hi.1 hi.2⟩⟩
   clear e0 ex em ec ei hEl
   clear E
   rintro ⟨left, cur, nx, E⟩ ⟨e0, ex, em, ec, ei, hEl, hsub, hnx⟩ ih2
   simp only at e0 ex em ec ei hEl hsub hnx ih2 ⊢
   repeat first|((first|refine qa tOk rfl ?_|refine qb tOk rfl ?_|refine qh rfl ?_);simp)|refine qf ?_|refine qg ?_
   refine AStep_next rfl rfl rfl rfl ei (fun hl0 => ?_) (fun i p hp => ?_)
   ·simp
    have hl1 : left = [] := by simpa using hl0
    subst hl1
    repeat first|((first|refine qa tOk rfl ?_|refine qb tOk rfl ?_|refine qh rfl ?_);simp)|refine qf ?_|refine qg ?_
    refine AWP_cond rfl ?_
    simp
    repeat first|((first|refine qa tOk rfl ?_|refine qb tOk rfl ?_|refine qh rfl ?_);simp [ec, hw])|refine qf ?_|refine qg ?_
    refine ALoop_keep (sl' := [(1, LSy w), (2, .vptr 0 0), (13, .mref (G.length + 1)), (52, LSy w), (53, .i w.length), (54, .i (j + 1 : Nat))]) ?_ (by simp)
    refine ih' (G.length + 1) nx E ⟨by omega, e0, em, fun z => ⟨fun hz => hnx.sub z hz, fun hz => ?_⟩⟩ (by omega)
    obtain ⟨_, m, hm, h1, h2, h3⟩ := mem_nextL.1 hz
    rw [← h3]
    exact hnx.all m.src ⟨(hl _).2 h1, by simp⟩ m hm rfl h2
   ·simp
    rw [List.getElem?_map] at hp
    obtain ⟨s, hs, rfl⟩ := Option.map_eq_some_iff.1 hp
    rw [erase_map]
    have hsl : s ∈ l := hsub s (List.mem_of_getElem? hs)
    have hsin := hin s hsl
    have hsub' : ∀ z ∈ left.eraseIdx i, z ∈ l := fun z hz => hsub z (List.mem_of_mem_eraseIdx hz)
    have hnl : (left.eraseIdx i).length < left.length := by rw [List.length_eraseIdx, if_pos (get_ltI hs)]; have := get_ltI hs; omega
    have hdn : ∀ z, z ∈ l ∧ z ∉ left.eraseIdx i → (z ∈ l ∧ z ∉ left) ∨ z = s := fun z hz => by
     by_cases hzl : z ∈ left
     ·exact .inr (mem_erase hs hzl hz.2)
     ·exact .inl ⟨hz.1, hzl⟩
    generalize left.eraseIdx i = left' at *
    have k0 := get_set (j := G.length + 3) (by omega) e0 (.it (left'.map fun z => (.i z, .bool true)) (some (.i s, .bool true)))
    have kx := get_set (j := G.length + 3) (by omega) ex (.it (left'.map fun z => (.i z, .bool true)) (some (.i s, .bool true)))
    have km := get_set (j := G.length + 3) (by omega) em (.it (left'.map fun z => (.i z, .bool true)) (some (.i s, .bool true)))
    have kc := get_set (j := G.length + 3) (by omega) ec (.it (left'.map fun z => (.i z, .bool true)) (some (.i s, .bool true)))
    have ki := get_self ei (.it (left'.map fun z => (.i z, .bool true)) (some (.i s, .bool true)))
    have kl : (E.set (G.length + 3) (.it (left'.map fun z => (.i z, .bool true)) (some (.i s, .bool true)))).length = E.length := by simp
    generalize E.set (G.length + 3) (.it (left'.map fun z => (.i z, .bool true)) (some (.i s, .bool true))) = E1 at *
    repeat first|((first|refine qa tOk rfl ?_|refine qb tOk rfl ?_|refine qh rfl ?_);simp)|refine qf ?_|refine qg ?_
    refine AWP_cond rfl ?_
    simp
    repeat first|((first|refine qa tOk rfl ?_|refine qb tOk rfl ?_|refine qh rfl ?_);simp)|refine qf ?_|refine qg ?_
    refine AStep_entry rfl rfl rfl rfl ki ?_
    simp
    repeat first|((first|refine qa tOk rfl ?_|refine qb tOk rfl ?_|refine qh rfl ?_);simp [k0])|refine qf ?_|refine qg ?_
    refine AStep_PC rfl rfl (by simp) (pc_from a s) rfl ?_
    rintro _ rfl
    simp
    repeat first|((first|refine qa tOk rfl ?_|refine qb tOk rfl ?_|refine qh rfl ?_);simp)|refine qf ?_|refine qg ?_
    have hsv : ∀ z ∈ nextL a R x, 0 ≤ z ∧ z < a.fin.length := nextL_in
    refine AWP_rangeFunc rfl (Rf := fun _ H' => ∃ nx', E1.length < H'.length ∧ (∃ sl' ps' a' b', H'[E1.length]? = some (.lp true none 96 sl' ps' a' b')) ∧ H'[0]? = some (.vars (cellsA a)) ∧ H'[G.length]? = some (.vars [.i x.ty, .i x.num]) ∧ H'[G.length + 1]? = some (stM nx') ∧ H'[G.length + 2]? = some (.vars [.mref (G.length + 1)]) ∧ H'[G.length + 3]? = some (.it (left'.map fun z => (.i z, .bool true)) (some (.i s, .bool true))) ∧
     Nx a R x (fun i => i ∈ l ∧ i ∉ left') nx') ?_ ?_
    ·simp
     refine gen_FC fun H1 hH1 => ?_
     have f0 : H1[0]? = some (.vars (cellsA a)) := by rw [hH1]; exact get_app k0 _
     have fx : H1[G.length]? = some (.vars [.i x.ty, .i x.num]) := by rw [hH1]; exact get_app kx _
     have fm : H1[G.length + 1]? = some (stM nx) := by rw [hH1]; exact get_app km _
     have fc : H1[G.length + 2]? = some (.vars [.mref (G.length + 1)]) := by rw [hH1]; exact get_app kc _
     have fi : H1[G.length + 3]? = some (.it (left'.map fun z => (.i z, .bool true)) (some (.i s, .bool true))) := by rw [hH1]; exact get_app ki _
     have fq := congrArg (fun h : List AObj => h[E1.length]?) hH1
     simp at fq
     have hl1 : H1.length = E1.length + 1 := by rw [hH1]; simp
     clear hH1
     refine FC_body tOk Tryz.func167 rfl Tryz.results167 rfl (by simp [Tryz.ntmps167]) ?_
     rw [Tryz.ntmps167]
     simp only [argSlots]
     repeat first|((first|refine qa tOk rfl ?_|refine qb tOk rfl ?_|refine qh rfl ?_);simp)|refine qf ?_|refine qg ?_
     obtain ⟨LP0, hLP0, hfq⟩ : ∃ X, X = _ ∧ H1[E1.length]? = some X := ⟨_, rfl, fq⟩
     have hE1l := get_lt ki
     refine AWP_loop (ALoop_keep (sl' := [(0, .yld E1.length), (1, .iptr (cellsA a)), (2, .iptr [.i s]), (7, .list (a.mv.map encMv)), (8, .i a.mv.length), (9, .i (0 : Nat))]) ?_ (by simp))
     refine ALoop_wf (F := fun (u : Nat × List Int × List AObj) => ⟨[(0, .yld E1.length), (1, .iptr (cellsA a)), (2, .iptr [.i s]), (7, .list (a.mv.map encMv)), (8, .i a.mv.length), (9, .i u.1)], u.2.2⟩)
      (fun u => u.1 ≤ a.mv.length ∧ u.2.2[0]? = some (.vars (cellsA a)) ∧ u.2.2[G.length]? = some (.vars [.i x.ty, .i x.num]) ∧ u.2.2[G.length + 1]? = some (stM u.2.1) ∧ u.2.2[G.length + 2]? = some (.vars [.mref (G.length + 1)]) ∧ u.2.2[G.length + 3]? = some (.it (left'.map fun z => (.i z, .bool true)) (some (.i s, .bool true))) ∧ u.2.2[E1.length]? = some LP0 ∧
       (∀ z ∈ nx, z ∈ u.2.1) ∧ (∀ z ∈ u.2.1, z ∈ nextL a R x) ∧ (∀ m ∈ a.mv.take u.1, m.src = s → hasS m.on x = true → m.dst ∈ u.2.1)) (fun u => a.mv.length - u.1) ?_ (0, nx, H1) ⟨by simp, f0, fx, fm, fc, fi, hfq, fun z hz => hz, hnx.sub, by simp⟩
     clear f0 fx fm fc fi hfq fq
     rintro ⟨k, ny, J⟩ ⟨hk, f0, fx, fm, fc, fi, fq, hn1, hn2, hn3⟩ ih3
     simp only at hk f0 fx fm fc fi fq hn1 hn2 hn3 ih3 ⊢
     repeat first|((first|refine qa tOk rfl ?_|refine qb tOk rfl ?_|refine qh rfl ?_);simp)|refine qf ?_|refine qg ?_
     refine AWP_cond2 rfl (fun hlt3 => ?_) (fun hge3 => ?_)
     ·have hlt3' : k < a.mv.length := by simpa using hlt3
      have hw3 : IntKind.i64.wrap ((k : Int) + 1) = k + 1 := wrap_i64 _ (by have := hok.mvs; omega) (by have := hok.mvs; omega)
      have htk : ∀ m ∈ a.mv.take (k + 1), m ∈ a.mv.take k ∨ m = a.mv[k] := fun m hm => by
       rw [List.take_succ_eq_append_getElem hlt3'] at hm
       rcases List.mem_append.1 hm with h | h
       ·exact .inl h
       ·exact .inr (List.mem_singleton.1 h)
      have hmm := List.getElem_mem hlt3'
      have hmo := hok.mv _ hmm
      repeat first|((first|refine qa tOk rfl ?_|refine qb tOk rfl ?_|refine qh rfl ?_);simp [hlt3'])|refine qf ?_|refine qg ?_
      generalize a.mv[k] = m at *
      have hhF : hasF m.on x = (hasS m.on x, 0) := by
       rw [hasF_ok ((ckPrd_iff a.types m.on).2 ⟨hok.types, hmo.on⟩), if_neg (fun k => k ((ckSy_iff _ _).2 hx))]
      have j0 := get_app f0 [AObj.vars [.i m.src, .i m.dst, .list (m.on.map encL)]]
      have jx := get_app fx [AObj.vars [.i m.src, .i m.dst, .list (m.on.map encL)]]
      have jm := get_app fm [AObj.vars [.i m.src, .i m.dst, .list (m.on.map encL)]]
      have jc := get_app fc [AObj.vars [.i m.src, .i m.dst, .list (m.on.map encL)]]
      have ji := get_app fi [AObj.vars [.i m.src, .i m.dst, .list (m.on.map encL)]]
      have jq := get_app fq [AObj.vars [.i m.src, .i m.dst, .list (m.on.map encL)]]
      have jl : (J ++ [AObj.vars [.i m.src, .i m.dst, .list (m.on.map encL)]]).length = J.length + 1 := by simp
      have hJ5 : E1.length < J.length := get_lt fq
      generalize J ++ [AObj.vars [.i m.src, .i m.dst, .list (m.on.map encL)]] = J1 at *
      have hdst := hmo.dst
      by_cases hms : m.src = s
      ·have hb : (m.src == s) = true := by simpa using hms
       obtain ⟨ny', hny', hp1, hp2, hp3⟩ : ∃ ny', ny' = (if m.dst ∈ ny then ny else if hasS m.on x then ny ++ [m.dst] else ny) ∧ (∀ z ∈ ny, z ∈ ny') ∧ (∀ z ∈ ny', z ∈ nextL a R x) ∧ (hasS m.on x = true → m.dst ∈ ny') := by
        refine ⟨_, rfl, fun z hz => ?_, fun z hz => ?_, fun h2 => ?_⟩
        ·split
         ·exact hz
         ·split
          ·exact List.mem_append_left _ hz
          ·exact hz
        ·split at hz
         ·exact hn2 z hz
         ·split at hz
          ·rename_i hh
           rcases List.mem_append.1 hz with hz | hz
           ·exact hn2 z hz
           ·rw [List.mem_singleton.1 hz]
            exact mem_nextL.2 ⟨hdst, m, hmm, by rw [hms]; exact (hl s).1 hsl, hh, rfl⟩
          ·exact hn2 z hz
        ·split
         ·assumption
         ·simp [h2]
       simp only [hb]
       refine AStep_yield rfl rfl (q := E1.length) rfl rfl (by rw [← hLP0]; exact jq) rfl rfl rfl (fun jm K2 => jm = none ∧ K2[0]? = some (.vars (cellsA a)) ∧ K2[G.length]? = some (.vars [.i x.ty, .i x.num]) ∧ K2[G.length + 1]? = some (stM ny') ∧ K2[G.length + 2]? = some (.vars [.mref (G.length + 1)]) ∧ K2[G.length + 3]? = some (.it (left'.map fun z => (.i z, .bool true)) (some (.i s, .bool true))) ∧ E1.length < K2.length) ?_ ?_
       ·simp [putMany]
        have r0 := get_set (j := E1.length) (by omega) j0 .dead
        have rx := get_set (j := E1.length) (by omega) jx .dead
        have rm := get_set (j := E1.length) (by omega) jm .dead
        have rc := get_set (j := E1.length) (by omega) jc .dead
        have ri := get_set (j := E1.length) (by omega) ji .dead
        have rd := get_self jq .dead
        have rl : (J1.set E1.length .dead).length = J.length + 1 := by simp [jl]
        generalize J1.set E1.length .dead = Y at *
        have q0 := get_app r0 [AObj.vars [.i m.src, .i m.dst, .list (m.on.map encL)]]
        have qx := get_app rx [AObj.vars [.i m.src, .i m.dst, .list (m.on.map encL)]]
        have qm := get_app rm [AObj.vars [.i m.src, .i m.dst, .list (m.on.map encL)]]
        have uqc := get_app rc [AObj.vars [.i m.src, .i m.dst, .list (m.on.map encL)]]
        have qi := get_app ri [AObj.vars [.i m.src, .i m.dst, .list (m.on.map encL)]]
        have uqd := get_app rd [AObj.vars [.i m.src, .i m.dst, .list (m.on.map encL)]]
        have ql : (Y ++ [AObj.vars [.i m.src, .i m.dst, .list (m.on.map encL)]]).length = J.length + 2 := by simp [rl]
        have q5 : (Y ++ [AObj.vars [.i m.src, .i m.dst, .list (m.on.map encL)]])[Y.length]? = some (.vars [.i m.src, .i m.dst, .list (m.on.map encL)]) := by simp
        repeat first|((first|refine qa tOk rfl ?_|refine qb tOk rfl ?_|refine qh rfl ?_);simp [uqc])|refine qf ?_|refine qg ?_
        generalize Y ++ [AObj.vars [.i m.src, .i m.dst, .list (m.on.map encL)]] = Z at *
        refine AStep_seenI (z := m.dst) rfl rfl rfl rfl rfl qm (fun z hz => by have := hsv z (hn2 z hz); omega) (by omega) ?_
        by_cases hmem : m.dst ∈ ny
        ·have hny2 : ny' = ny := by rw [hny', if_pos hmem]
         subst hny2
         simp [hmem, q5, qx]
         refine AStep_skip rfl rfl ?_
         simp
         repeat first|((first|refine qa tOk rfl ?_|refine qb tOk rfl ?_|refine qh rfl ?_);simp)|refine qf ?_|refine qg ?_
         refine AWP_cond2 rfl (fun h => by cases h) (fun _ => ?_)
         repeat first|((first|refine qa tOk rfl ?_|refine qb tOk rfl ?_|refine qh rfl ?_);simp)|refine qf ?_|refine qg ?_
         exact ⟨uqd, rfl, q0, qx, qm, uqc, qi, get_lt uqd⟩
        ·simp [hmem, q5, qx]
         refine AStep_PC rfl rfl (by simp) (pc_scontains m.on x) rfl ?_
         rintro _ rfl
         simp [hhF]
         repeat first|((first|refine qa tOk rfl ?_|refine qb tOk rfl ?_|refine qh rfl ?_);simp)|refine qf ?_|refine qg ?_
         refine AWP_cond2 rfl (fun hh => ?_) (fun hh => ?_)
         ·have hny2 : ny' = ny ++ [m.dst] := by rw [hny', if_neg hmem, if_pos (by simpa using hh)]
          repeat first|((first|refine qa tOk rfl ?_|refine qb tOk rfl ?_|refine qh rfl ?_);simp [uqc, q5])|refine qf ?_|refine qg ?_
          refine AStep_seeI (z := m.dst) rfl rfl rfl rfl rfl rfl qm (fun z hz => by have := hsv z (hn2 z hz); omega) (by omega) hmem ?_
          simp
          repeat first|((first|refine qa tOk rfl ?_|refine qb tOk rfl ?_|refine qh rfl ?_);simp)|refine qf ?_|refine qg ?_
          rw [← hny2]
          refine ⟨get_set (by omega) uqd _, rfl, get_set (by omega) q0 _, get_set (by omega) qx _, get_self qm _, get_set (by omega) uqc _, get_set (by omega) qi _, by simpa using get_lt uqd⟩
         ·have hny2 : ny' = ny := by rw [hny', if_neg hmem, if_neg (by simpa using hh)]
          subst hny2
          repeat first|((first|refine qa tOk rfl ?_|refine qb tOk rfl ?_|refine qh rfl ?_);simp)|refine qf ?_|refine qg ?_
          exact ⟨uqd, rfl, q0, qx, qm, uqc, qi, get_lt uqd⟩
       ·rintro jm K2 ⟨rfl, v0, vx, vm, vc, vi, vl⟩
        simp
        repeat first|((first|refine qa tOk rfl ?_|refine qb tOk rfl ?_|refine qh rfl ?_);simp)|refine qf ?_|refine qg ?_
        refine AWP_cond2 rfl (fun h => by cases h) (fun _ => ?_)
        repeat first|((first|refine qa tOk rfl ?_|refine qb tOk rfl ?_|refine qh rfl ?_);simp [hw3])|refine qf ?_|refine qg ?_
        have u0 := get_set (j := E1.length) (by omega) v0 LP0
        have ux := get_set (j := E1.length) (by omega) vx LP0
        have um := get_set (j := E1.length) (by omega) vm LP0
        have uc := get_set (j := E1.length) (by omega) vc LP0
        have ui := get_set (j := E1.length) (by omega) vi LP0
        have uq : (K2.set E1.length LP0)[E1.length]? = some LP0 := List.getElem?_set_self vl
        rw [← hLP0]
        refine ALoop_keep (sl' := [(0, .yld E1.length), (1, .iptr (cellsA a)), (2, .iptr [.i s]), (7, .list (a.mv.map encMv)), (8, .i a.mv.length), (9, .i (k + 1 : Nat))]) ?_ (by simp)
        refine ih3 (k + 1, ny', _) ⟨by omega, u0, ux, um, uc, ui, uq, fun z hz => hp1 z (hn1 z hz), hp2, fun m' hm' h1 h2 => ?_⟩ (by omega)
        rcases htk m' hm' with h3 | rfl
        ·exact hp1 _ (hn3 m' h3 h1 h2)
        ·exact hp3 h2
      ·have hb : (m.src == s) = false := by simpa using hms
       simp only [hb]
       refine AStep_skip rfl rfl ?_
       simp
       repeat first|((first|refine qa tOk rfl ?_|refine qb tOk rfl ?_|refine qh rfl ?_);simp)|refine qf ?_|refine qg ?_
       refine AWP_cond2 rfl (fun h => by cases h) (fun _ => ?_)
       repeat first|((first|refine qa tOk rfl ?_|refine qb tOk rfl ?_|refine qh rfl ?_);simp [hw3])|refine qf ?_|refine qg ?_
       refine ALoop_keep (sl' := [(0, .yld E1.length), (1, .iptr (cellsA a)), (2, .iptr [.i s]), (7, .list (a.mv.map encMv)), (8, .i a.mv.length), (9, .i (k + 1 : Nat))]) ?_ (by simp)
       refine ih3 (k + 1, ny, J1) ⟨by omega, j0, jx, jm, jc, ji, jq, hn1, hn2, fun m' hm' h1 h2 => ?_⟩ (by omega)
       rcases htk m' hm' with h3 | rfl
       ·exact hn3 m' h3 h1 h2
       ·exact absurd h1 hms
     ·have hge3' : k = a.mv.length := by simp at hge3; omega
      subst hge3'
      repeat first|((first|refine qa tOk rfl ?_|refine qb tOk rfl ?_|refine qh rfl ?_);simp)|refine qf ?_|refine qg ?_
      rw [List.take_length] at hn3
      refine ⟨get_lt fq, ⟨_, _, _, _, by rw [fq, hLP0]⟩, f0, fx, ny, fm, fc, fi, ⟨hn2, fun i hi m hm h1 h2 => ?_⟩⟩
      rcases hdn i hi with h3 | rfl
      ·exact hn1 _ (hnx.all i h3 m hm h1 h2)
      ·exact hn3 m hm h1 h2
    ·rintro r H' ⟨nx', hl', ⟨sl', ps', a', b', k4⟩, v0, vx, vm, vc, vi, hnx'⟩
     refine ⟨_, _, _, _, _, _, _, k4, ?_⟩
     simp
     have w0 := get_set (j := E1.length) (by have := get_lt k0; have := get_lt ki; omega) v0 .dead
     have wx := get_set (j := E1.length) (by have := get_lt ki; omega) vx .dead
     have wm := get_set (j := E1.length) (by have := get_lt ki; omega) vm .dead
     have wc := get_set (j := E1.length) (by have := get_lt ki; omega) vc .dead
     have wi := get_set (j := E1.length) (by have := get_lt ki; omega) vi .dead
     have wl : (H'.set E1.length .dead).length = H'.length := by simp
     generalize H'.set E1.length .dead = Y at *
     repeat first|((first|refine qa tOk rfl ?_|refine qb tOk rfl ?_|refine qh rfl ?_);simp)|refine qf ?_|refine qg ?_
     refine ALoop_keep (sl' := [(1, LSy w), (2, .vptr 0 0), (15, .vptr G.length 0), (16, .vptr (G.length + 2) 0), (52, LSy w), (53, .i w.length), (54, .i j), (60, .vptr (G.length + 3) 0)]) ?_ (by simp)
     exact ih2 (left', some (.i s, .bool true), nx', Y) ⟨w0, wx, wm, wc, wi, by show G.length + 4 ≤ Y.length; have := get_lt wi; omega, hsub', hnx'⟩ hnl
  ·have hge' : j = w.length := by simp at hge; omega
   subst hge'
   rw [List.take_length] at hl
   repeat first|((first|refine qa tOk rfl ?_|refine qb tOk rfl ?_|refine qh rfl ?_);simp)|refine qf ?_|refine qg ?_
   refine AStep_range tOk rfl rfl rfl T165 rfl rfl gq ?_
   simp
   repeat first|((first|refine qa tOk rfl ?_|refine qb tOk rfl ?_|refine qh rfl ?_);simp)|refine qf ?_|refine qg ?_
   have hq0 : q ≠ 0 := fun e => by subst e; rw [g0] at gq; unfold stM at gq; simp at gq
   refine AWP_abs fun E hE => ?_
   have e0 : E[0]? = some (.vars (cellsA a)) := by rw [hE]; exact get_app (get_set hq0 g0 _) _
   have ei : E[G.length]? = some (.it (l.map fun z => (.i z, .bool true)) none) := by rw [hE]; rw [List.getElem?_append_right (by simp)]; simp
   clear hE
   refine AWP_loop (ALoop_keep (sl' := [(2, .vptr 0 0), (86, .vptr G.length 0)]) ?_ (by simp))
   refine ALoop_wf (F := fun (u : List Int × Option (AV × AV) × List AObj) => ⟨[(2, .vptr 0 0), (86, .vptr G.length 0)], u.2.2⟩)
    (fun u => u.2.2[0]? = some (.vars (cellsA a)) ∧ u.2.2[G.length]? = some (.it (u.1.map fun z => (.i z, .bool true)) u.2.1) ∧ (∀ z ∈ u.1, z ∈ l) ∧ ∀ z ∈ l, z ∉ u.1 → a.fin.getD z.toNat false = false) (fun u => u.1.length) ?_ (l, none, E) ⟨e0, ei, fun z hz => hz, fun z hz hn => absurd hz hn⟩
   clear e0 ei
   clear E
   rintro ⟨left, cur, E⟩ ⟨e0, ei, hsub, hno⟩ ih2
   simp only at e0 ei hsub hno ih2 ⊢
   repeat first|((first|refine qa tOk rfl ?_|refine qb tOk rfl ?_|refine qh rfl ?_);simp)|refine qf ?_|refine qg ?_
   refine AStep_next rfl rfl rfl rfl ei (fun hl0 => ?_) (fun i p hp => ?_)
   ·simp
    have hl1 : left = [] := by simpa using hl0
    subst hl1
    repeat first|((first|refine qa tOk rfl ?_|refine qb tOk rfl ?_|refine qh rfl ?_);simp)|refine qf ?_|refine qg ?_
    refine AWP_cond rfl ?_
    simp
    repeat first|((first|refine qa tOk rfl ?_|refine qb tOk rfl ?_|refine qh rfl ?_);simp)|refine qf ?_|refine qg ?_
    have : accL a w = false := by
     rw [Bool.eq_false_iff, Ne, accL_iff]
     rintro ⟨s, hs, hf⟩
     rw [hno s ((hl s).2 hs) (by simp)] at hf
     cases hf
    rw [this]
   ·simp
    rw [List.getElem?_map] at hp
    obtain ⟨s, hs, rfl⟩ := Option.map_eq_some_iff.1 hp
    rw [erase_map]
    have hsl : s ∈ l := hsub s (List.mem_of_getElem? hs)
    have hsin := hin s hsl
    have hsub' : ∀ z ∈ left.eraseIdx i, z ∈ l := fun z hz => hsub z (List.mem_of_mem_eraseIdx hz)
    have hnl : (left.eraseIdx i).length < left.length := by rw [List.length_eraseIdx, if_pos (get_ltI hs)]; have := get_ltI hs; omega
    have hdn : ∀ z, z ∈ l → z ∉ left.eraseIdx i → (z ∈ l ∧ z ∉ left) ∨ z = s := fun z hz hz2 => by
     by_cases hzl : z ∈ left
     ·exact .inr (mem_erase hs hzl hz2)
     ·exact .inl ⟨hz, hzl⟩
    generalize left.eraseIdx i = left' at *
    have hG0 := get_lt g0
    have k0 := get_set (j := G.length) (by omega) e0 (.it (left'.map fun z => (.i z, .bool true)) (some (.i s, .bool true)))
    have ki := get_self ei (.it (left'.map fun z => (.i z, .bool true)) (some (.i s, .bool true)))
    generalize E.set G.length (.it (left'.map fun z => (.i z, .bool true)) (some (.i s, .bool true))) = E1 at *
    repeat first|((first|refine qa tOk rfl ?_|refine qb tOk rfl ?_|refine qh rfl ?_);simp)|refine qf ?_|refine qg ?_
    refine AWP_cond rfl ?_
    simp
    repeat first|((first|refine qa tOk rfl ?_|refine qb tOk rfl ?_|refine qh rfl ?_);simp)|refine qf ?_|refine qg ?_
    refine AStep_entry rfl rfl rfl rfl ki ?_
    simp
    have hs2 : s.toNat < a.fin.length := by omega
    repeat first|((first|refine qa tOk rfl ?_|refine qb tOk rfl ?_|refine qh rfl ?_);simp [k0, hsin, hs2])|refine qf ?_|refine qg ?_
    refine AWP_cond2 rfl (fun hh => ?_) (fun hh => ?_)
    ·repeat first|((first|refine qa tOk rfl ?_|refine qb tOk rfl ?_|refine qh rfl ?_);simp)|refine qf ?_|refine qg ?_
     have : accL a w = true := (accL_iff a w).2 ⟨s, (hl s).1 hsl, by simp [List.getD, hs2, hh]⟩
     rw [this]
    ·repeat first|((first|refine qa tOk rfl ?_|refine qb tOk rfl ?_|refine qh rfl ?_);simp)|refine qf ?_|refine qg ?_
     refine ALoop_keep (sl' := [(2, .vptr 0 0), (86, .vptr G.length 0)]) ?_ (by simp)
     refine ih2 (left', some (.i s, .bool true), E1) ⟨k0, ki, hsub', fun z hz hz2 => ?_⟩ hnl
     rcases hdn z hz hz2 with h3 | rfl
     ·exact hno z h3.1 h3.2
     ·simp [List.getD, hs2, hh]
end Go.Abs
set_option maxRecDepth 100000
namespace Go.Abs
open Go Go.Proofs Go.Maps
set_option linter.unusedSimpArgs false
def ksG (st : List (List Bool × Prd)) : List (List UInt8) := st.map fun g => sgB g.1
def prG (st : List (List Bool × Prd)) : List Prd := st.map (·.2)
def grpTo (T : Nat) (l : List Prd) (A : List (Nat × Iv)) : List (List Bool × Prd) := A.foldl (fun st a => grpPut T a.1 (sigP l a.1 a.2.lo) a.2 st) []
theorem grpTo_snoc (T : Nat) (l : List Prd) (A : List (Nat × Iv)) (a : Nat × Iv) : grpTo T l (A ++ [a]) = grpPut T a.1 (sigP l a.1 a.2.lo) a.2 (grpTo T l A) := by unfold grpTo; rw [List.foldl_append]; rfl
theorem grpTo_bnd (T : Nat) (l : List Prd) (A : List (Nat × Iv)) : GB T l.length A.length (grpTo T l A) := by
 suffices h : ∀ n, ∀ A : List (Nat × Iv), A.length = n → GB T l.length n (grpTo T l A) from h _ A rfl
 intro n
 induction n with
 | zero =>
  intro A hA
  have := List.eq_nil_of_length_eq_zero hA
  subst this
  exact ⟨by simp [grpTo], by simp [grpTo], fun g hg => by simp [grpTo] at hg, fun g hg => by simp [grpTo] at hg, fun g hg => by simp [grpTo] at hg⟩
 | succ n ih =>
  intro A hA
  rcases List.eq_nil_or_concat A with rfl | ⟨B, a, rfl⟩
  ·simp at hA
  ·rw [List.concat_eq_append] at hA ⊢
   rw [grpTo_snoc]
   exact (ih B (by simp at hA; omega)).put (by simp [sigP]) _ _
def prsTo (l : List Prd) (i : Nat) : List (Nat × Iv) := (List.range i).flatMap fun i => (segsI (cutsP l i)).map fun x => (i, x)
def prsIn (l : List Prd) (i k : Nat) : List (Nat × Iv) := prsTo l i ++ ((segsI (cutsP l i)).take k).map fun x => (i, x)
theorem prsIn_zero (l : List Prd) (i : Nat) : prsIn l i 0 = prsTo l i := by simp [prsIn]
theorem prsIn_all (l : List Prd) (i : Nat) : prsIn l i (segsI (cutsP l i)).length = prsTo l (i + 1) := by
 simp [prsIn, prsTo, List.range_succ, List.take_length]
theorem prsIn_succ (l : List Prd) (i k : Nat) (h : k + 1 < (cutsP l i).length) : prsIn l i (k + 1) = prsIn l i k ++ [(i, (⟨(cutsP l i)[k], (cutsP l i)[k + 1] - 1⟩ : Iv))] := by
 have h1 := segs_get (cutsP l i) k h
 obtain ⟨h2, h3⟩ := List.getElem?_eq_some_iff.1 h1
 rw [prsIn, prsIn, List.take_succ_eq_append_getElem h2, h3, List.map_append, List.append_assoc]; rfl
theorem cuts_le {T : Nat} {l : List Prd} (hl : ∀ p ∈ l, PCk T p) (hn : l.length ≤ 256) (i : Nat) : (cutsP l i).length ≤ 131074 := by
 rw [← cutA_all]
 have h1 := compact_len (sortI (cutA (setsAt l i)))
 have h2 := cutA_len (setsAt l i)
 rw [sortI_len, h2] at h1
 have := setsAt_le hl i
 omega
end Go.Abs
set_option maxRecDepth 100000
namespace Go.Abs
open Go Go.Proofs Go.Maps
set_option linter.unusedSimpArgs false
theorem GInv.iv {T : Nat} {sig : Nat → Int → List Bool} {st : List (List Bool × Prd)} (h : GInv T sig (fun t n => t < T ∧ inR n) st) {g : List Bool × Prd} (hg : g ∈ st) {s : List Iv} (hs : s ∈ g.2) : ascS s ∧ ∀ x ∈ s, ivIn x := by
 have ha := h.asc g hg s hs
 refine ⟨ha, fun x hx => ?_⟩
 obtain ⟨t, ht, rfl⟩ := List.getElem_of_mem hs
 have h1 := ((h.mem g hg t x.lo).1 ⟨_, List.getElem?_eq_getElem ht, x, hx, Int.le_refl _, ha.1 x hx⟩).1.2
 have h2 := ((h.mem g hg t x.hi).1 ⟨_, List.getElem?_eq_getElem ht, x, hx, ha.1 x hx, Int.le_refl _⟩).1.2
 unfold inR at h1 h2
 exact ⟨(inB_iff _).2 h1, (inB_iff _).2 h2⟩
theorem prsTo_len {T : Nat} {l : List Prd} (hl : ∀ p ∈ l, PCk T p) (hn : l.length ≤ 256) : ∀ i, (prsTo l i).length ≤ i * 131073
 | 0 => by simp [prsTo]
 | i + 1 => by
  have := prsTo_len hl hn i
  have h2 := cuts_le hl hn i
  have h3 := segs_len (cutsP l i)
  rw [prsTo, List.range_succ, List.flatMap_append, List.length_append]
  have h4 : ((List.range i).flatMap fun i => (segsI (cutsP l i)).map fun x => (i, x)).length = (prsTo l i).length := rfl
  rw [h4]
  simp only [List.flatMap_cons, List.flatMap_nil, List.append_nil, List.length_map]
  omega
theorem prsIn_len {T : Nat} {l : List Prd} (hl : ∀ p ∈ l, PCk T p) (hn : l.length ≤ 256) {i k : Nat} (hi : i < 16) : (prsIn l i k).length ≤ 2097168 := by
 have := prsTo_len hl hn i
 have h2 := cuts_le hl hn i
 have h3 := segs_len (cutsP l i)
 rw [prsIn, List.length_append, List.length_map, List.length_take]
 omega
theorem sigP_len (l : List Prd) (i : Nat) (n : Int) : (sigP l i n).length = l.length := by simp [sigP]
theorem rfl_grp (T : Nat) (l : List Prd) : grpTo T l (prsTo l T) = grpAll T l := rfl
theorem prsTo_zero (l : List Prd) : prsTo l 0 = [] := rfl
theorem grpTo_nil (T : Nat) (l : List Prd) : grpTo T l [] = [] := rfl
theorem mpT_def (ks : List (List UInt8)) : mpT ks = .mp (ks.mapIdx fun c k => (.str k, .i c)) := rfl
theorem cuts_rng {T : Nat} {l : List Prd} (hl : ∀ p ∈ l, PCk T p) (i : Nat) : ∀ z ∈ cutsP l i, -1099511627776 ≤ z ∧ z ≤ 1099511627777 := (cutsP_spec hl i).2.2.2.1
attribute [local irreducible] rowC outC cutsP sigP grpTo prsTo prsIn mpT
set_option maxHeartbeats 8000000 in
theorem pc_Minterms (T : Int) (l : List Prd) : PC Tryz.prog 115 [.i T, LP l] (fun r => r = .tup [LP (mintF T l).2, .i (mintF T l).1]) := by
 refine PC_body tOk Tryz.func115 rfl Tryz.results115 rfl (by simp [Tryz.ntmps115]) ?_
 rw [Tryz.ntmps115]
 simp only [argSlots]
 repeat first|((first|refine qa tOk rfl ?_|refine qb tOk rfl ?_|refine qh rfl ?_);simp)|refine qf ?_|refine qg ?_
 refine AWP_cond2 rfl (fun hc => ?_) (fun hc => ?_)
 ·have hc' : T < 1 ∨ 16 < T := by simpa using hc
  have hm : mintF T l = (2, []) := by rw [mintF, if_pos hc']
  rw [hm]
  repeat first|((first|refine qa tOk rfl ?_|refine qb tOk rfl ?_|refine qh rfl ?_);simp)|refine qf ?_|refine qg ?_
 have hc' : ¬ (T < 1 ∨ 16 < T) := by simpa using hc
 have hT1 : ¬ T < 1 := fun h => hc' (.inl h)
 have hT2 : ¬ 16 < T := fun h => hc' (.inr h)
 repeat first|((first|refine qa tOk rfl ?_|refine qb tOk rfl ?_|refine qh rfl ?_);simp)|refine qf ?_|refine qg ?_
 refine AWP_cond2 rfl (fun h => ?_) (fun h => ?_)
 ·have hm : mintF T l = (5, []) := by rw [mintF, if_neg (by omega), if_pos (by simp at h; omega)]
  rw [hm]
  repeat first|((first|refine qa tOk rfl ?_|refine qb tOk rfl ?_|refine qh rfl ?_);simp)|refine qf ?_|refine qg ?_
 have hn : l.length ≤ 256 := by simp at h; omega
 repeat first|((first|refine qa tOk rfl ?_|refine qb tOk rfl ?_|refine qh rfl ?_);simp)|refine qf ?_|refine qg ?_
 refine AWP_countI l.length (fun j => ckAllP T l = ckAllP T (l.drop j)) (fun j => [(0, .i T), (1, LP l), (28, LP l), (29, .i l.length), (30, .i j)]) (fun _ => []) rfl (by simp) (by simp) (by simp) (by simp) (by simp) ?_
 intro j hj hI ih
 repeat first|((first|refine qa tOk rfl ?_|refine qb tOk rfl ?_|refine qh rfl ?_);simp)|refine qf ?_|refine qg ?_
 refine AWP_cond2 rfl (fun hlt => ?_) (fun hge => ?_)
 ·have hlt' : j < l.length := by simpa using hlt
  have hw : IntKind.i64.wrap ((j : Int) + 1) = j + 1 := wrap_i64 _ (by omega) (by omega)
  rw [drop_get hlt', ckAllP] at hI
  repeat first|((first|refine qa tOk rfl ?_|refine qb tOk rfl ?_|refine qh rfl ?_);simp [hlt'])|refine qf ?_|refine qg ?_
  refine AStep_PC rfl rfl (by simp) (pc_pCheck T l[j]) rfl ?_
  rintro _ rfl
  simp
  repeat first|((first|refine qa tOk rfl ?_|refine qb tOk rfl ?_|refine qh rfl ?_);simp)|refine qf ?_|refine qg ?_
  refine AWP_cond2 rfl (fun h3 => ?_) (fun h3 => ?_)
  ·repeat first|((first|refine qa tOk rfl ?_|refine qb tOk rfl ?_|refine qh rfl ?_);simp)|refine qf ?_|refine qg ?_
   rw [if_pos (by simpa using h3)] at hI
   have hm : mintF T l = (ckPrd T l[j], []) := by rw [mintF, if_neg (by omega), if_neg (by omega), hI, if_pos (by simpa using h3)]
   rw [hm]
   exact ⟨rfl, rfl⟩
  ·rw [if_neg (by simpa using h3)] at hI
   repeat first|((first|refine qa tOk rfl ?_|refine qb tOk rfl ?_|refine qh rfl ?_);simp [hw])|refine qf ?_|refine qg ?_
   refine ALoop_end _ (ih hlt' hI) rfl (by simp) ?_ (by simp) (by simp)
   simp
 ·have hge' : j = l.length := by simp at hge; omega
  subst hge'
  rw [List.drop_length] at hI
  obtain ⟨N, hN⟩ : ∃ N : Nat, T = N := ⟨T.toNat, by omega⟩
  subst hN
  have hck : ∀ p ∈ l, PCk N p := fun p hp => by simpa using ((ckPrd_iff (N : Int) p).1 ((ckAll_iff l).1 hI p hp)).2
  have hm : mintF N l = if bigCl (pClassesP N l) then (5, []) else (0, pClassesP N l) := by
   rw [mintF, if_neg (by omega), if_neg (by omega), hI, if_neg (by simp [ckAllP])]; simp
  repeat first|((first|refine qa tOk rfl ?_|refine qb tOk rfl ?_|refine qh rfl ?_);simp)|refine qf ?_|refine qg ?_
  refine AStep_makeMap rfl rfl rfl ?_
  simp
  repeat first|((first|refine qa tOk rfl ?_|refine qb tOk rfl ?_|refine qh rfl ?_);simp)|refine qf ?_|refine qg ?_
  refine AWP_nilSlot 9 76 1 rfl ?_
  simp
  refine AWP_toVa 1 rfl ?_
  simp
  have hst := Rows.start0 N 1 [.mp [], AObj.va 76 1 []] rfl (fun j => if j = 0 then (0, 1) else (0, 0)) rfl
  refine AWP_loop (ALoop_keep (sl' := [(0, .i N), (1, LP l), (9, .sl 1 1 0 (grpTo N l (prsTo l 0)).length), (10, .mref 0), (42, .i N), (43, .i (0 : Nat))]) ?_ (by simp [prsTo_zero, grpTo_nil]))
  refine ALoop_wf (F := fun (u : Nat × Nat × (Nat → Nat) × (Nat → Nat → Nat) × (Nat → Nat × Nat) × List AObj) => ⟨[(0, .i N), (1, LP l), (9, .sl u.2.1 1 0 (grpTo N l (prsTo l u.1)).length), (10, .mref 0), (42, .i N), (43, .i u.1)], u.2.2.2.2.2⟩)
   (fun u => u.1 ≤ N ∧ Rows [] N u.2.1 (prG (grpTo N l (prsTo l u.1))) u.2.2.1 u.2.2.2.1 u.2.2.2.2.1 u.2.2.2.2.2 ∧ u.2.2.2.2.2[0]? = some (mpT (ksG (grpTo N l (prsTo l u.1)))) ∧ u.2.2.2.2.1 0 = (0, 1)) (fun u => N - u.1) ?_ (0, 1, fun _ => 0, fun _ _ => 0, fun j => if j = 0 then (0, 1) else (0, 0), [.mp [], AObj.va 76 1 []]) ⟨by simp, by rw [prsTo_zero, grpTo_nil]; exact hst, by rw [prsTo_zero, grpTo_nil, ksG, mpT_def]; rfl, rfl⟩
  rintro ⟨i, o, Q, L, tag, G⟩ ⟨hi, hR, hm0, ht0⟩ ih
  simp only at hi hR hm0 ht0 ih ⊢
  repeat first|((first|refine qa tOk rfl ?_|refine qb tOk rfl ?_|refine qh rfl ?_);simp)|refine qf ?_|refine qg ?_
  refine AWP_cond2 rfl (fun hlt => ?_) (fun hge => ?_)
  ·have hlt' : i < N := by simpa using hlt
   have hw : IntKind.i64.wrap ((i : Int) + 1) = i + 1 := wrap_i64 _ (by omega) (by omega)
   repeat first|((first|refine qa tOk rfl ?_|refine qb tOk rfl ?_|refine qh rfl ?_);simp)|refine qf ?_|refine qg ?_
   refine AStep_PC rfl rfl (by simp) (pc_cuts N l i hlt' (by omega) hck hn) rfl ?_
   rintro _ rfl
   simp
   repeat first|((first|refine qa tOk rfl ?_|refine qb tOk rfl ?_|refine qh rfl ?_);simp)|refine qf ?_|refine qg ?_
   have hcl := cuts_le hck hn i
   have hne : 0 < (cutsP l i).length := by
    have h1 := (cutsP_spec hck i).2.1
    exact List.length_pos_of_mem h1
   refine AWP_loop (ALoop_keep (sl' := [(0, .i N), (1, LP l), (9, .sl o 1 0 (grpTo N l (prsIn l i 0)).length), (10, .mref 0), (11, .i i), (12, LI (cutsP l i)), (13, .i (0 : Nat)), (42, .i N), (43, .i i)]) ?_ (by simp [prsIn_zero]))
   refine ALoop_wf (F := fun (u : Nat × Nat × (Nat → Nat) × (Nat → Nat → Nat) × (Nat → Nat × Nat) × List AObj) => ⟨[(0, .i N), (1, LP l), (9, .sl u.2.1 1 0 (grpTo N l (prsIn l i u.1)).length), (10, .mref 0), (11, .i i), (12, LI (cutsP l i)), (13, .i u.1), (42, .i N), (43, .i i)], u.2.2.2.2.2⟩)
    (fun u => u.1 < (cutsP l i).length ∧ Rows [] N u.2.1 (prG (grpTo N l (prsIn l i u.1))) u.2.2.1 u.2.2.2.1 u.2.2.2.2.1 u.2.2.2.2.2 ∧ u.2.2.2.2.2[0]? = some (mpT (ksG (grpTo N l (prsIn l i u.1)))) ∧ u.2.2.2.2.1 0 = (0, 1)) (fun u => (cutsP l i).length - u.1) ?_ (0, o, Q, L, tag, G) ⟨hne, by rw [prsIn_zero]; exact hR, by rw [prsIn_zero]; exact hm0, ht0⟩
   clear hR hm0 ht0
   clear o Q L tag G
   rintro ⟨k, o, Q, L, tag, G⟩ ⟨hk, hR, hm0, ht0⟩ ih2
   simp only at hk hR hm0 ht0 ih2 ⊢
   have hwk : IntKind.i64.wrap ((k : Int) + 1) = k + 1 := wrap_i64 _ (by omega) (by omega)
   repeat first|((first|refine qa tOk rfl ?_|refine qb tOk rfl ?_|refine qh rfl ?_);simp [hwk])|refine qf ?_|refine qg ?_
   refine AWP_cond2 rfl (fun hlt2 => ?_) (fun hge2 => ?_)
   ·have hlt2' : k + 1 < (cutsP l i).length := by simp at hlt2; omega
    have hlt3 : k < (cutsP l i).length := hk
    have hsuc := prsIn_succ l i k hlt2'
    have hbn := grpTo_bnd N l (prsIn l i k)
    have hpl := prsIn_len (k := k) hck hn (by omega : i < 16)
    have hgs := fun x => grpTo_snoc N l (prsIn l i k) x
    have ih2' := fun o' Q' L' tag' G' => ih2 (k + 1, o', Q', L', tag', G')
    simp only [hsuc, hgs] at ih2'
    clear hsuc hgs
    have hcv : ∀ z ∈ cutsP l i, -1099511627776 ≤ z ∧ z ≤ 1099511627777 := cuts_rng hck i
    have hc1 := hcv _ (List.getElem_mem hlt2')
    generalize grpTo N l (prsIn l i k) = st at *
    repeat first|((first|refine qa tOk rfl ?_|refine qb tOk rfl ?_|refine qh rfl ?_);simp [hlt3])|refine qf ?_|refine qg ?_
    refine AStep_PC rfl rfl (by simp) (pc_signature N l i (cutsP l i)[k] hlt' (by omega) hck hn) rfl ?_
    rintro _ rfl
    simp
    repeat first|((first|refine qa tOk rfl ?_|refine qb tOk rfl ?_|refine qh rfl ?_);simp)|refine qf ?_|refine qg ?_
    have hsl : (sigP l i (cutsP l i)[k]).length = l.length := by rw [sigP_len]
    have hx1 : IntKind.i64.wrap ((cutsP l i)[k + 1] - 1) = (cutsP l i)[k + 1] - 1 := wrap_i64 _ (by omega) (by omega)
    generalize hsg : sigP l i (cutsP l i)[k] = sg at *
    have hkl : ∀ m ∈ ksG st, m.length ≤ 1000000 := fun m hm => by
     obtain ⟨g, hg, rfl⟩ := List.mem_map.1 hm
     rw [sgB_len, hbn.kl g hg]; omega
    refine AStep_lookK (n := sgB sg) rfl rfl rfl rfl rfl hm0 hkl (by rw [sgB_len]; omega) (fun c hc => ?_) (fun hno => ?_)
    ·obtain ⟨p, hp⟩ : ∃ p, st[c]? = some (sg, p) := by
      rw [ksG, List.getElem?_map] at hc
      obtain ⟨g, hg, he⟩ := Option.map_eq_some_iff.1 hc
      have := sgB_inj he
      exact ⟨g.2, by rw [hg, ← this]⟩
     simp
     repeat first|((first|refine qa tOk rfl ?_|refine qb tOk rfl ?_|refine qh rfl ?_);simp)|refine qf ?_|refine qg ?_
     refine AWP_cond rfl ?_
     simp
     repeat first|((first|refine qa tOk rfl ?_|refine qb tOk rfl ?_|refine qh rfl ?_);simp)|refine qf ?_|refine qg ?_
     have hgp := grpPut_at (T := N) (i := i) (x := ⟨(cutsP l i)[k], (cutsP l i)[k + 1] - 1⟩) hbn.nd hp
     rw [hgp] at ih2'
     have hcl := get_ltI hp
     have hpl : p.length = N := hbn.len _ (List.mem_of_getElem? hp)
     have hps : ∀ s ∈ p, s.length ≤ 2097168 := fun s hs => by have := hbn.sz _ (List.mem_of_getElem? hp) s hs; omega
     have hpr : (prG st)[c]? = some p := by rw [prG, List.getElem?_map, hp]; rfl
     have hset1 : prG (st.set c (sg, putP p i ⟨(cutsP l i)[k], (cutsP l i)[k + 1] - 1⟩)) = (prG st).set c (putP p i ⟨(cutsP l i)[k], (cutsP l i)[k + 1] - 1⟩) := by rw [prG, List.map_set]; rfl
     have hset2 : ksG (st.set c (sg, putP p i ⟨(cutsP l i)[k], (cutsP l i)[k + 1] - 1⟩)) = ksG st := by
      rw [ksG, List.map_set]
      refine List.ext_getElem? fun j => ?_
      by_cases e : c = j
      ·subst e
       rw [List.getElem?_set_self (by simpa using hcl)]; exact hc.symm
      ·rw [List.getElem?_set_ne e]; rfl
     have hlen1 : (st.set c (sg, putP p i ⟨(cutsP l i)[k], (cutsP l i)[k + 1] - 1⟩)).length = st.length := by simp
     generalize st.set c (sg, putP p i ⟨(cutsP l i)[k], (cutsP l i)[k + 1] - 1⟩) = st' at *
     refine AWP_keep (sl' := [(0, .i N), (1, LP l), (9, .sl o 1 0 st.length), (10, .mref 0), (11, .i i), (12, LI (cutsP l i)), (13, .i k), (15, .i c), (42, .i N), (43, .i i)]) ?_ (by simp)
     have hprl : (prG st).length = st.length := by simp [prG]
     generalize st.length = n at *
     generalize ksG st = ks at *
     generalize prG st = pr at *
     have hrow := hR.row c p hpr
     have hout := hR.out
     rw [hprl] at hout
     have hcl' : c < pr.length := by omega
     have hgl0 := get_lt hm0
     have hQl := get_lt hrow
     have hol3 := get_lt hout
     have htq := hR.tQ c hcl'
     have hto := hR.to
     have hQo : Q c ≠ o := fun e => by rw [← e, htq] at hto; simp at hto
     have hQ0 : Q c ≠ 0 := fun e => by rw [e, ht0] at htq; simp at htq
     have ho00 : o ≠ 0 := fun e => by rw [e, ht0] at hto; simp at hto
     have hlf := fun hn => hR.leaf c p i hpr hlt' hn
     have htl := fun hn => hR.tL c p i hpr hlt' hn
     have hrl := rowC_len (L c) N p
     have hrg := rowC_get (L c) p hlt'
     have hog := outC_get Q N hcl
     have hoc := outC_len Q N n
     have hip : i < p.length := by omega
     have hsz : (p.getD i []).length ≤ 2097168 := by rw [getD_len hip]; exact hps _ (List.getElem_mem hip)
     obtain ⟨s, hs⟩ : ∃ s, p.getD i [] = s := ⟨_, rfl⟩
     rw [hs] at hrg hsz hlf htl
     obtain ⟨row, hrw⟩ : ∃ row, rowC (L c) N p = row := ⟨_, rfl⟩
     rw [hrw] at hrow hrl hrg
     refine AWP_via (fun E1 => ∃ z, E1[Q c]? = some (.va 171 1 (row.set i (.sl z 2 0 s.length))) ∧ E1[z]? = some (.arr 187 2 (s.map encIv)) ∧ (∀ j, j < G.length → j ≠ Q c → E1[j]? = G[j]?) ∧ G.length ≤ E1.length ∧ (tag z = (c + 1, i + 1) ∨ G.length ≤ z)) (fun hm => ?_) ?_
     ·by_cases hs0 : s = []
      ·rw [cellL, if_pos hs0] at hrg
       refine AWP_nilVa (Q c) i 187 2 hrow hrg ?_
       refine hm _ ⟨G.length, by rw [hs0]; exact get_self (get_app hrow _) _, ?_, fun j hj hne => ?_, by simp, .inr (Nat.le_refl _)⟩
       ·rw [List.getElem?_set_ne (by omega), hs0]; simp
       ·rw [List.getElem?_set_ne (Ne.symm hne), List.getElem?_append_left hj]
      ·rw [cellL, if_neg hs0] at hrg
       have hset : row.set i (.sl (L c i) 2 0 s.length) = row := set_same hrg
       exact hm G ⟨L c i, by rw [hset]; exact hrow, hlf hs0, fun _ _ _ => rfl, Nat.le_refl _, .inl (htl hs0)⟩
     ·rintro E1 ⟨z, f1, f2, f3, f4, f5⟩
      have hzQ : z ≠ Q c := fun e => by
       rcases f5 with h | h
       ·rw [e, htq] at h; simp at h
       ·omega
      have hzo : z ≠ o := fun e => by
       rcases f5 with h | h
       ·rw [e, hto] at h; simp at h
       ·omega
      have hz0 : z ≠ 0 := fun e => by
       rcases f5 with h | h
       ·rw [e, ht0] at h; simp at h
       ·omega
      have g1 := (f3 o hol3 (Ne.symm hQo)).trans hout
      have g0 := (f3 0 hgl0 (Ne.symm hQ0)).trans hm0
      have hog' : ∀ hh, (outC Q N n)[c]'hh = .agg [.sl (Q c) 1 0 N] := fun hh => by rw [List.getElem?_eq_getElem hh] at hog; exact Option.some.inj hog
      have f1' : ∀ hh, (row.set i (.sl z 2 0 s.length))[i]'hh = .sl z 2 0 s.length := fun hh => by simp
      have d1 : ∀ M, (E1.set z .dead ++ M)[Q c]? = some (.va 171 1 (row.set i (.sl z 2 0 s.length))) := fun M => get_app (get_set hzQ f1 _) M
      have hfin : ∀ M, M = (E1.set z .dead ++ [AObj.arr 187 2 [encIv ⟨(cutsP l i)[k], (cutsP l i)[k + 1] - 1⟩], .arr 187 2 (s.map encIv ++ [encIv ⟨(cutsP l i)[k], (cutsP l i)[k + 1] - 1⟩])]).set (Q c) (.va 171 1 (row.set i (.sl (E1.length + 1) 2 0 (s.length + 1)))) →
        Rows [] N o (prG st') Q (fun c' k' => if c' = c ∧ k' = i then E1.length + 1 else L c' k') (fun j => if j = E1.length + 1 then (c + 1, i + 1) else tag j) M ∧ M[0]? = some (mpT (ksG st')) ∧ (if 0 = E1.length + 1 then (c + 1, i + 1) else tag 0) = (0, 1) := fun M hM => by
       rw [hset1, hset2]
       have hEl := get_lt g0
       have hQE := get_lt f1
       refine ⟨hR.put hpr hpl hlt' (by omega) ?_ ?_ (fun j hj h1 h2 => ?_), ?_, by rw [if_neg (by omega)]; exact ht0⟩
       ·rw [hM, hrw, hs]; exact List.getElem?_set_self (by simp; omega)
       ·rw [hM, hs, List.getElem?_set_ne (by omega), List.getElem?_append_right (by simp)]; simp
       ·have hjz : z ≠ j := fun e => by
         rcases f5 with h | h
         ·rw [e] at h; exact h2 h
         ·omega
        rw [hM, List.getElem?_set_ne (Ne.symm h1), List.getElem?_append_left (by simp; omega), List.getElem?_set_ne hjz]
        exact f3 j hj h1
       ·rw [hM, List.getElem?_set_ne hQ0, List.getElem?_append_left (by simp; omega), List.getElem?_set_ne hz0]; exact g0
      have hk1 : (0 : Int) ≤ (k : Int) + 1 := by omega
      have hk2 : (k : Int) + 1 < (cutsP l i).length := by omega
      have dI : ∀ M, (E1 ++ M)[z]? = some (.arr 187 2 (s.map encIv)) := fun M => get_app f2 M
      have d2 : ∀ M, (E1 ++ M)[Q c]? = some (.va 171 1 (row.set i (.sl z 2 0 s.length))) := fun M => get_app f1 M
      have d1' : ∀ M hh, (E1.set z .dead ++ M)[Q c]'hh = .va 171 1 (row.set i (.sl z 2 0 s.length)) := fun M hh => by have := d1 M; rw [List.getElem?_eq_getElem hh] at this; exact Option.some.inj this
      have d3 : ∀ M, (E1.set z .dead ++ M)[o]? = some (.va 76 1 (outC Q N n)) := fun M => get_app (get_set hzo g1 _) M
      have d4 : ∀ M, (E1 ++ M)[o]? = some (.va 76 1 (outC Q N n)) := fun M => get_app g1 M
      refine AWP_drawT tOk mixed [26, 28] (.val 0 (.val 1 (.val 2 (.val 3 (.val 5 (.val 6 (.val 7 (.val 8 (.val 9 (.val 10 (.val 11 (.val 12 (.val 13 (.val 14 (.val 15 (.val 16 (.val 17 (.val 18 (.val 19 (.val 20 (.val 21 (.val 22 (.val 23 (.val 24 (.two 4 (.one 25 (.one 26 (.val 27 (.one 28 (.done))))) 25 (.two 4 (.one 26 (.val 27 (.one 28 (.done)))) 26 (.val 4 (.val 27 (.one 28 (.done)))))))))))))))))))))))))))))) rfl (by kernel_rfl) ?_
      simp [g1, hog, hog', hoc, hcl, f1, f1', hrl, hlt', hlt3, hlt2', hwk, hx1, hk1, hk2, d4]
      refine ⟨?_, ?_⟩
      all_goals
       refine AStep_appendS tOk rfl rfl T171 rfl T187 rfl (by decide) (by decide) rfl rfl rfl ?_
       simp [dI, set_app f2, d1, d1', d2, d3, d4, hlt', hrl, hog, hog', hoc, hcl]
       refine ⟨by simp [appOk, dI, set_app f2, d1, d1', d2, d3, d4, hlt', hrl, hog, hog', hoc, hcl] <;> omega, ?_⟩
       repeat first|((first|refine qa tOk rfl ?_|refine qb tOk rfl ?_|refine qh rfl ?_);simp [hwk])|refine qf ?_|refine qg ?_
       refine ALoop_keep (sl' := [(0, .i N), (1, LP l), (9, .sl o 1 0 n), (10, .mref 0), (11, .i i), (12, LI (cutsP l i)), (13, .i (k + 1 : Nat)), (42, .i N), (43, .i i)]) ?_ (by simp)
       obtain ⟨q1, q2, q3⟩ := hfin _ rfl
       rw [← hlen1]
       have := ih2' o Q _ _ _ ⟨hlt2', q1, q2, q3⟩ (by omega)
       simpa [hlen1] using this
    ·simp
     repeat first|((first|refine qa tOk rfl ?_|refine qb tOk rfl ?_|refine qh rfl ?_);simp)|refine qf ?_|refine qg ?_
     refine AWP_cond rfl ?_
     simp
     repeat first|((first|refine qa tOk rfl ?_|refine qb tOk rfl ?_|refine qh rfl ?_);simp)|refine qf ?_|refine qg ?_
     have hkn : (ksG st).length = st.length := by simp [ksG]
     have hprl : (prG st).length = st.length := by simp [prG]
     refine AStep_updK (n := sgB sg) rfl rfl rfl rfl rfl (ks := ksG st) (by rw [hkn]; rfl) hm0 hkl (by rw [sgB_len]; omega) hno ?_
     simp
     repeat first|((first|refine qa tOk rfl ?_|refine qb tOk rfl ?_|refine qh rfl ?_);simp)|refine qf ?_|refine qg ?_
     refine AStep_makeSlice tOk rfl rfl rfl T74 rfl T171 rfl rfl rfl (n := N) (by simp; omega) (by unfold maxLen; omega) .nils rfl ?_
     simp
     have ho0 : (0 : Nat) ≠ o := fun e => by subst e; rw [hR.out] at hm0; rw [mpT_def] at hm0; simp at hm0
     have hoe := get_set ho0 hR.out (mpT (ksG st ++ [sgB sg]))
     have hm1 := get_self hm0 (mpT (ksG st ++ [sgB sg]))
     have hgk : ∀ j, j ≠ 0 → (G.set 0 (mpT (ksG st ++ [sgB sg])))[j]? = G[j]? := fun j hj => List.getElem?_set_ne (Ne.symm hj)
     have hgl : (G.set 0 (mpT (ksG st ++ [sgB sg]))).length = G.length := by simp
     have hol2 := outC_len Q N st.length
     rw [← hgl]
     generalize G.set 0 (mpT (ksG st ++ [sgB sg])) = G1 at *
     have hle := hbn.le
     refine AStep_appendVS tOk rfl rfl T91 rfl T76 rfl (by decide) (by decide) rfl rfl rfl ?_
     simp [appBaseV, contV, get_app hoe, hol2, hprl]
     refine ⟨by simp [appOk, hol2, hprl] <;> omega, ?_⟩
     repeat first|((first|refine qa tOk rfl ?_|refine qb tOk rfl ?_|refine qh rfl ?_);simp)|refine qf ?_|refine qg ?_
     refine AWP_toVa (e := 171) (c := 1) (xs := List.replicate N .nils) G1.length (by rw [List.getElem?_append_left (by simp), List.getElem?_set_ne (by have := get_lt hoe; omega)]; simp) ?_
     have hoel := get_lt hoe
     have hne : ∀ g ∈ st, g.1 ≠ sg := fun g hg e => hno (List.mem_map.2 ⟨g, hg, by rw [e]⟩)
     rw [grpPut_mem hne] at ih2'
     have hR1 : Rows [] N o (prG st) Q L tag G1 := hR.other (fun j hj ht => hgk j (fun e => by subst e; exact ht ht0)) (by omega)
     refine AWP_abs fun Z hZ => ?_
     have hnew := hR1.new (H' := Z) (q := G1.length) (o' := G1.length + 2) (Nat.le_refl _) (by omega) (by omega) (by rw [hZ]; exact List.getElem?_set_self (by simp; omega)) (by rw [hZ, hprl, List.getElem?_set_ne (by omega), List.getElem?_append_right (by simp)]; simp) (fun j hj hjo => by rw [hZ, List.getElem?_set_ne (by omega), List.getElem?_append_left (by simp; omega), List.getElem?_set_ne (Ne.symm hjo), List.getElem?_append_left hj])
     have hZ0 : Z[0]? = some (mpT (ksG st ++ [sgB sg])) := by rw [hZ, List.getElem?_set_ne (by omega), List.getElem?_append_left (by simp), List.getElem?_set_ne (Ne.symm ho0), List.getElem?_append_left (by omega)]; exact hm1
     clear hZ
     have ht1 : (fun j => if j = G1.length then (st.length + 1, 0) else if j = G1.length + 2 then (0, 0) else tag j) 0 = ((0, 1) : Nat × Nat) := by
      show (if 0 = G1.length then (st.length + 1, 0) else if 0 = G1.length + 2 then (0, 0) else tag 0) = ((0, 1) : Nat × Nat)
      rw [if_neg (by omega), if_neg (by omega)]; exact ht0
     rw [hprl] at hnew
     clear hR hm0 ht0 hR1
     have hcl : st.length < st.length + 1 := by omega
     have hpr : (prG st ++ [List.replicate N []])[st.length]? = some (List.replicate N ([] : List Iv)) := by rw [← hprl]; simp
     have hprl2 : (prG st ++ [List.replicate N []]).length = st.length + 1 := by simp [hprl]
     have hpl2 : (List.replicate N ([] : List Iv)).length = N := by simp
     have hps : ∀ s ∈ List.replicate N ([] : List Iv), s.length ≤ 2097168 := fun s hs => by rw [(List.mem_replicate.1 hs).2]; simp
     have hset1 : prG (st ++ [(sg, putP (List.replicate N []) i ⟨(cutsP l i)[k], (cutsP l i)[k + 1] - 1⟩)]) = (prG st ++ [List.replicate N []]).set st.length (putP (List.replicate N []) i ⟨(cutsP l i)[k], (cutsP l i)[k + 1] - 1⟩) := by
      rw [List.set_append_right _ _ (by omega), hprl, Nat.sub_self, prG, List.map_append]; rfl
     have hset2 : ksG (st ++ [(sg, putP (List.replicate N []) i ⟨(cutsP l i)[k], (cutsP l i)[k + 1] - 1⟩)]) = ksG st ++ [sgB sg] := by simp [ksG]
     have hlen1 : (st ++ [(sg, putP (List.replicate N []) i ⟨(cutsP l i)[k], (cutsP l i)[k + 1] - 1⟩)]).length = st.length + 1 := by simp
     generalize st ++ [(sg, putP (List.replicate N []) i ⟨(cutsP l i)[k], (cutsP l i)[k + 1] - 1⟩)] = st' at *
     refine AWP_keep (sl' := [(0, .i N), (1, LP l), (9, .sl (G1.length + 2) 1 0 (st.length + 1)), (10, .mref 0), (11, .i i), (12, LI (cutsP l i)), (13, .i k), (15, .i st.length), (42, .i N), (43, .i i)]) ?_ (by simp)
     generalize prG st ++ [List.replicate N []] = pr at *
     generalize List.replicate N ([] : List Iv) = p at *
     generalize ksG st ++ [sgB sg] = ks at *
     generalize (fun c => if c = st.length then G1.length else Q c) = Q at *
     generalize (fun j => if j = G1.length then (st.length + 1, 0) else if j = G1.length + 2 then (0, 0) else tag j) = tag at *
     generalize st.length + 1 = n at *
     generalize st.length = c at *
     generalize G1.length + 2 = o at *
     have hR := hnew
     have hm0 := hZ0
     have hprl := hprl2
     have hpl := hpl2
     have ht0 := ht1
     clear hnew hZ0 hprl2 hpl2 ht1
     generalize hG2 : Z = G at *
     have hrow := hR.row c p hpr
     have hout := hR.out
     rw [hprl] at hout
     have hcl' : c < pr.length := by omega
     have hgl0 := get_lt hm0
     have hQl := get_lt hrow
     have hol3 := get_lt hout
     have htq := hR.tQ c hcl'
     have hto := hR.to
     have hQo : Q c ≠ o := fun e => by rw [← e, htq] at hto; simp at hto
     have hQ0 : Q c ≠ 0 := fun e => by rw [e, ht0] at htq; simp at htq
     have ho00 : o ≠ 0 := fun e => by rw [e, ht0] at hto; simp at hto
     have hlf := fun hn => hR.leaf c p i hpr hlt' hn
     have htl := fun hn => hR.tL c p i hpr hlt' hn
     have hrl := rowC_len (L c) N p
     have hrg := rowC_get (L c) p hlt'
     have hog := outC_get Q N hcl
     have hoc := outC_len Q N n
     have hip : i < p.length := by omega
     have hsz : (p.getD i []).length ≤ 2097168 := by rw [getD_len hip]; exact hps _ (List.getElem_mem hip)
     obtain ⟨s, hs⟩ : ∃ s, p.getD i [] = s := ⟨_, rfl⟩
     rw [hs] at hrg hsz hlf htl
     obtain ⟨row, hrw⟩ : ∃ row, rowC (L c) N p = row := ⟨_, rfl⟩
     rw [hrw] at hrow hrl hrg
     refine AWP_via (fun E1 => ∃ z, E1[Q c]? = some (.va 171 1 (row.set i (.sl z 2 0 s.length))) ∧ E1[z]? = some (.arr 187 2 (s.map encIv)) ∧ (∀ j, j < G.length → j ≠ Q c → E1[j]? = G[j]?) ∧ G.length ≤ E1.length ∧ (tag z = (c + 1, i + 1) ∨ G.length ≤ z)) (fun hm => ?_) ?_
     ·by_cases hs0 : s = []
      ·rw [cellL, if_pos hs0] at hrg
       refine AWP_nilVa (Q c) i 187 2 hrow hrg ?_
       refine hm _ ⟨G.length, by rw [hs0]; exact get_self (get_app hrow _) _, ?_, fun j hj hne => ?_, by simp, .inr (Nat.le_refl _)⟩
       ·rw [List.getElem?_set_ne (by omega), hs0]; simp
       ·rw [List.getElem?_set_ne (Ne.symm hne), List.getElem?_append_left hj]
      ·rw [cellL, if_neg hs0] at hrg
       have hset : row.set i (.sl (L c i) 2 0 s.length) = row := set_same hrg
       exact hm G ⟨L c i, by rw [hset]; exact hrow, hlf hs0, fun _ _ _ => rfl, Nat.le_refl _, .inl (htl hs0)⟩
     ·rintro E1 ⟨z, f1, f2, f3, f4, f5⟩
      have hzQ : z ≠ Q c := fun e => by
       rcases f5 with h | h
       ·rw [e, htq] at h; simp at h
       ·omega
      have hzo : z ≠ o := fun e => by
       rcases f5 with h | h
       ·rw [e, hto] at h; simp at h
       ·omega
      have hz0 : z ≠ 0 := fun e => by
       rcases f5 with h | h
       ·rw [e, ht0] at h; simp at h
       ·omega
      have g1 := (f3 o hol3 (Ne.symm hQo)).trans hout
      have g0 := (f3 0 hgl0 (Ne.symm hQ0)).trans hm0
      have hog' : ∀ hh, (outC Q N n)[c]'hh = .agg [.sl (Q c) 1 0 N] := fun hh => by rw [List.getElem?_eq_getElem hh] at hog; exact Option.some.inj hog
      have f1' : ∀ hh, (row.set i (.sl z 2 0 s.length))[i]'hh = .sl z 2 0 s.length := fun hh => by simp
      have d1 : ∀ M, (E1.set z .dead ++ M)[Q c]? = some (.va 171 1 (row.set i (.sl z 2 0 s.length))) := fun M => get_app (get_set hzQ f1 _) M
      have hfin : ∀ M, M = (E1.set z .dead ++ [AObj.arr 187 2 [encIv ⟨(cutsP l i)[k], (cutsP l i)[k + 1] - 1⟩], .arr 187 2 (s.map encIv ++ [encIv ⟨(cutsP l i)[k], (cutsP l i)[k + 1] - 1⟩])]).set (Q c) (.va 171 1 (row.set i (.sl (E1.length + 1) 2 0 (s.length + 1)))) →
        Rows [] N o (prG st') Q (fun c' k' => if c' = c ∧ k' = i then E1.length + 1 else L c' k') (fun j => if j = E1.length + 1 then (c + 1, i + 1) else tag j) M ∧ M[0]? = some (mpT (ksG st')) ∧ (if 0 = E1.length + 1 then (c + 1, i + 1) else tag 0) = (0, 1) := fun M hM => by
       rw [hset1, hset2]
       have hEl := get_lt g0
       have hQE := get_lt f1
       refine ⟨hR.put hpr hpl hlt' (by omega) ?_ ?_ (fun j hj h1 h2 => ?_), ?_, by rw [if_neg (by omega)]; exact ht0⟩
       ·rw [hM, hrw, hs]; exact List.getElem?_set_self (by simp; omega)
       ·rw [hM, hs, List.getElem?_set_ne (by omega), List.getElem?_append_right (by simp)]; simp
       ·have hjz : z ≠ j := fun e => by
         rcases f5 with h | h
         ·rw [e] at h; exact h2 h
         ·omega
        rw [hM, List.getElem?_set_ne (Ne.symm h1), List.getElem?_append_left (by simp; omega), List.getElem?_set_ne hjz]
        exact f3 j hj h1
       ·rw [hM, List.getElem?_set_ne hQ0, List.getElem?_append_left (by simp; omega), List.getElem?_set_ne hz0]; exact g0
      have hk1 : (0 : Int) ≤ (k : Int) + 1 := by omega
      have hk2 : (k : Int) + 1 < (cutsP l i).length := by omega
      have dI : ∀ M, (E1 ++ M)[z]? = some (.arr 187 2 (s.map encIv)) := fun M => get_app f2 M
      have d2 : ∀ M, (E1 ++ M)[Q c]? = some (.va 171 1 (row.set i (.sl z 2 0 s.length))) := fun M => get_app f1 M
      have d1' : ∀ M hh, (E1.set z .dead ++ M)[Q c]'hh = .va 171 1 (row.set i (.sl z 2 0 s.length)) := fun M hh => by have := d1 M; rw [List.getElem?_eq_getElem hh] at this; exact Option.some.inj this
      have d3 : ∀ M, (E1.set z .dead ++ M)[o]? = some (.va 76 1 (outC Q N n)) := fun M => get_app (get_set hzo g1 _) M
      have d4 : ∀ M, (E1 ++ M)[o]? = some (.va 76 1 (outC Q N n)) := fun M => get_app g1 M
      refine AWP_drawT tOk mixed [26, 28] (.val 0 (.val 1 (.val 2 (.val 3 (.val 5 (.val 6 (.val 7 (.val 8 (.val 9 (.val 10 (.val 11 (.val 12 (.val 13 (.val 14 (.val 15 (.val 16 (.val 17 (.val 18 (.val 19 (.val 20 (.val 21 (.val 22 (.val 23 (.val 24 (.two 4 (.one 25 (.one 26 (.val 27 (.one 28 (.done))))) 25 (.two 4 (.one 26 (.val 27 (.one 28 (.done)))) 26 (.val 4 (.val 27 (.one 28 (.done)))))))))))))))))))))))))))))) rfl (by kernel_rfl) ?_
      simp [g1, hog, hog', hoc, hcl, f1, f1', hrl, hlt', hlt3, hlt2', hwk, hx1, hk1, hk2, d4]
      refine ⟨?_, ?_⟩
      all_goals
       refine AStep_appendS tOk rfl rfl T171 rfl T187 rfl (by decide) (by decide) rfl rfl rfl ?_
       simp [dI, set_app f2, d1, d1', d2, d3, d4, hlt', hrl, hog, hog', hoc, hcl]
       refine ⟨by simp [appOk, dI, set_app f2, d1, d1', d2, d3, d4, hlt', hrl, hog, hog', hoc, hcl] <;> omega, ?_⟩
       repeat first|((first|refine qa tOk rfl ?_|refine qb tOk rfl ?_|refine qh rfl ?_);simp [hwk])|refine qf ?_|refine qg ?_
       refine ALoop_keep (sl' := [(0, .i N), (1, LP l), (9, .sl o 1 0 n), (10, .mref 0), (11, .i i), (12, LI (cutsP l i)), (13, .i (k + 1 : Nat)), (42, .i N), (43, .i i)]) ?_ (by simp)
       obtain ⟨q1, q2, q3⟩ := hfin _ rfl
       rw [← hlen1]
       have := ih2' o Q _ _ _ ⟨hlt2', q1, q2, q3⟩ (by omega)
       simpa [hlen1] using this
   ·have hge2' : k = (segsI (cutsP l i)).length := by
     rw [segs_len]
     simp at hge2; omega
    subst hge2'
    rw [prsIn_all] at hR hm0 ⊢
    repeat first|((first|refine qa tOk rfl ?_|refine qb tOk rfl ?_|refine qh rfl ?_);simp [hw])|refine qf ?_|refine qg ?_
    refine ALoop_keep (sl' := [(0, .i N), (1, LP l), (9, .sl o 1 0 (grpTo N l (prsTo l (i + 1))).length), (10, .mref 0), (42, .i N), (43, .i (i + 1 : Nat))]) ?_ (by simp)
    exact ih (i + 1, o, Q, L, tag, G) ⟨by omega, hR, hm0, ht0⟩ (by omega)
  ·have hge' : i = N := by simp at hge; omega
   subst hge'
   have hga : grpTo i l (prsTo l i) = grpAll i l := rfl_grp i l
   rw [hga] at hR ⊢
   have hgi := grp_inv hck
   have hgb := grpTo_bnd i l (prsTo l i)
   rw [hga] at hgb
   have hpl := prsTo_len hck hn i
   have hpc : pClassesP i l = (prG (grpAll i l)).map tidyP := by rw [pClassesP, prG, List.map_map]; rfl
   rw [hpc] at hm
   have hprl : (prG (grpAll i l)).length = (grpAll i l).length := by simp [prG]
   repeat first|((first|refine qa tOk rfl ?_|refine qb tOk rfl ?_|refine qh rfl ?_);simp)|refine qf ?_|refine qg ?_
   have hfc := fc_tidy i o (prG (grpAll i l)) Q L tag G hR (by omega) (fun p hp => by
    obtain ⟨g, hg, rfl⟩ := List.mem_map.1 hp
    exact ⟨hgb.len g hg, fun s hs => ⟨(hgi.iv hg hs).1, by have := hgb.sz g hg s hs; omega, (hgi.iv hg hs).2⟩⟩)
   rw [hprl] at hfc
   refine AStep_FC rfl rfl hfc rfl ?_
   rintro r H' (⟨rfl, hb⟩ | ⟨rfl, hb⟩)
   ·rw [if_pos hb] at hm
    rw [hm]
    simp
    repeat first|((first|refine qa tOk rfl ?_|refine qb tOk rfl ?_|refine qh rfl ?_);simp)|refine qf ?_|refine qg ?_
   ·rw [if_neg (by simp [hb])] at hm
    rw [hm]
    simp
    repeat first|((first|refine qa tOk rfl ?_|refine qb tOk rfl ?_|refine qh rfl ?_);simp)|refine qf ?_|refine qg ?_
end Go.Abs
set_option maxRecDepth 100000
namespace Go.Abs
open Go Go.Proofs Go.Maps
set_option linter.unusedSimpArgs false
attribute [simp] T94 T88
abbrev LQ (Q : List (List Int)) : List AV := Q.map fun l => LI l
structure TB (r p m : Nat) (a : Aut) (cl : List Prd) (Q : List (List Int)) (H : List AObj) : Prop where
 t : H[r]? = some (.vars [.i a.types, .list (a.fin.map .bool), .list (a.mv.map encMv), LP cl, .sl p 1 0 Q.length, .mref m])
 s : H[p]? = some (.arr 40 1 (LQ Q))
 n : H[m]? = some (mpT (Q.map txtS))
def okSet (x : List Int) : Prop := x ≠ [] ∧ x.length ≤ 256 ∧ ∀ z ∈ x, 0 ≤ z ∧ z ≤ 1000000
def addQ (Q : List (List Int)) (x : List Int) : List (List Int) := if x ∈ Q then Q else Q ++ [x]
theorem TB.keep {r p m : Nat} {a : Aut} {cl : List Prd} {Q : List (List Int)} {H H' : List AObj} (h : TB r p m a cl Q H) (hk : ∀ j, (j = r ∨ j = p ∨ j = m) → H'[j]? = H[j]?) : TB r p m a cl Q H' :=
 ⟨(hk r (.inl rfl)).trans h.t, (hk p (.inr (.inl rfl))).trans h.s, (hk m (.inr (.inr rfl))).trans h.n⟩
theorem TB.ne {r p m : Nat} {a : Aut} {cl : List Prd} {Q : List (List Int)} {H : List AObj} (h : TB r p m a cl Q H) : r ≠ p ∧ r ≠ m ∧ p ≠ m := by
 refine ⟨fun e => ?_, fun e => ?_, fun e => ?_⟩
 ·have h1 := h.t; rw [e, h.s] at h1; simp at h1
 ·have h1 := h.t; rw [e, h.n, mpT_def] at h1; simp at h1
 ·have h1 := h.s; rw [e, h.n, mpT_def] at h1; simp at h1
theorem okSet.rng {x : List Int} (h : okSet x) : ∀ z ∈ x, -9223372036854775808 ≤ z ∧ z ≤ 9223372036854775807 := fun z hz => by have := h.2.2 z hz; omega
theorem txt_small {x : List Int} (h : okSet x) : (txtS x).length ≤ 1000000 := by
 have := txtS_len h.rng
 have := h.2.1
 omega
theorem txt_in {x : List Int} {Q : List (List Int)} (hQ : ∀ l ∈ Q, okSet l) (hx : okSet x) : txtS x ∈ Q.map txtS ↔ x ∈ Q := by
 refine ⟨fun h => ?_, fun h => List.mem_map.2 ⟨x, h, rfl⟩⟩
 obtain ⟨l, hl, e⟩ := List.mem_map.1 h
 rw [← txtS_inj (fun z hz => ((hQ l hl).2.2 z hz).1) (fun z hz => (hx.2.2 z hz).1) e]
 exact hl
attribute [local irreducible] mpT txtS
set_option maxHeartbeats 4000000 in
theorem fc_find (H : List AObj) (r p m : Nat) (a : Aut) (cl : List Prd) (Q : List (List Int)) (x : List Int) (h : TB r p m a cl Q H) (hx : okSet x) (hQ : ∀ l ∈ Q, okSet l) (hQl : Q.length ≤ 100000) :
  FC Tryz.prog 57 [.vptr r 0, LI x] H (fun res H' => ∃ (j p' : Nat), res = .i j ∧ (addQ Q x)[j]? = some x ∧ TB r p' m a cl (addQ Q x) H' ∧ (p' = p ∨ H.length ≤ p') ∧ H.length ≤ H'.length ∧ (x ∈ Q → H' = H) ∧ ∀ i, i < H.length → i ≠ r → i ≠ p → i ≠ m → H'[i]? = H[i]?) := by
 refine FC_body tOk Tryz.func57 rfl Tryz.results57 rfl (by simp [Tryz.ntmps57]) ?_
 rw [Tryz.ntmps57]
 simp only [argSlots]
 repeat first|((first|refine qa tOk rfl ?_|refine qb tOk rfl ?_|refine qh rfl ?_);simp)|refine qf ?_|refine qg ?_
 refine AStep_PC rfl rfl (by simp) (pc_text x hx.rng (by have := hx.2.1; omega) hx.1) rfl ?_
 rintro _ rfl
 simp
 have ht := h.t
 have hn := h.n
 have hs := h.s
 obtain ⟨n1, n2, n3⟩ := h.ne
 repeat first|((first|refine qa tOk rfl ?_|refine qb tOk rfl ?_|refine qh rfl ?_);simp [ht])|refine qf ?_|refine qg ?_
 have hks : ∀ k ∈ Q.map txtS, k.length ≤ 1000000 := fun k hk => by
  obtain ⟨l, hl, rfl⟩ := List.mem_map.1 hk
  exact txt_small (hQ l hl)
 refine AStep_lookK (n := txtS x) rfl rfl rfl rfl rfl hn hks (txt_small hx) (fun j hj => ?_) (fun hno => ?_)
 ·have hjx : Q[j]? = some x := by
   rw [List.getElem?_map] at hj
   obtain ⟨l, hl, e⟩ := Option.map_eq_some_iff.1 hj
   rw [← txtS_inj (fun z hz => ((hQ l (List.mem_of_getElem? hl)).2.2 z hz).1) (fun z hz => (hx.2.2 z hz).1) e]
   exact hl
  have hadd : addQ Q x = Q := by rw [addQ, if_pos (List.mem_of_getElem? hjx)]
  rw [hadd]
  simp
  repeat first|((first|refine qa tOk rfl ?_|refine qb tOk rfl ?_|refine qh rfl ?_);simp)|refine qf ?_|refine qg ?_
  refine AWP_cond rfl ?_
  simp
  repeat first|((first|refine qa tOk rfl ?_|refine qb tOk rfl ?_|refine qh rfl ?_);simp)|refine qf ?_|refine qg ?_
  exact ⟨j, rfl, hjx, p, h, .inl rfl⟩
 ·have hxn : x ∉ Q := fun hm => hno ((txt_in hQ hx).2 hm)
  have hadd : addQ Q x = Q ++ [x] := by rw [addQ, if_neg hxn]
  rw [hadd]
  have hkn : (Q.map txtS).length = Q.length := by simp
  simp
  repeat first|((first|refine qa tOk rfl ?_|refine qb tOk rfl ?_|refine qh rfl ?_);simp)|refine qf ?_|refine qg ?_
  refine AWP_cond rfl ?_
  simp
  repeat first|((first|refine qa tOk rfl ?_|refine qb tOk rfl ?_|refine qh rfl ?_);simp [ht])|refine qf ?_|refine qg ?_
  refine AStep_updK (n := txtS x) rfl rfl rfl rfl rfl (ks := Q.map txtS) (by rw [hkn]; rfl) hn hks (txt_small hx) hno ?_
  simp
  have ht2 := get_set (Ne.symm n2) ht (mpT (Q.map txtS ++ [txtS x]))
  have hs2 := get_set (Ne.symm n3) hs (mpT (Q.map txtS ++ [txtS x]))
  have hn2 := get_self hn (mpT (Q.map txtS ++ [txtS x]))
  have hk2 : ∀ i, i ≠ m → (H.set m (mpT (Q.map txtS ++ [txtS x])))[i]? = H[i]? := fun i hi => List.getElem?_set_ne (Ne.symm hi)
  have hl2 : (H.set m (mpT (Q.map txtS ++ [txtS x]))).length = H.length := by simp
  generalize H.set m (mpT (Q.map txtS ++ [txtS x])) = G at *
  repeat first|((first|refine qa tOk rfl ?_|refine qb tOk rfl ?_|refine qh rfl ?_);simp [ht2])|refine qf ?_|refine qg ?_
  have g1 : ∀ L, (G.set p .dead ++ L)[r]? = some (.vars [.i a.types, .list (a.fin.map .bool), .list (a.mv.map encMv), LP cl, .sl p 1 0 Q.length, .mref m]) := fun L => get_app (get_set (Ne.symm n1) ht2 _) L
  refine AStep_appendS tOk rfl rfl T28 rfl T40 rfl (by decide) (by decide) rfl rfl rfl ?_
  simp [get_app hs2, set_app hs2, get_app ht2, g1]
  refine ⟨by simp [appOk, get_app hs2, set_app hs2, get_app ht2, g1] <;> omega, ?_⟩
  repeat first|((first|refine qa tOk rfl ?_|refine qb tOk rfl ?_|refine qh rfl ?_);simp [g1])|refine qf ?_|refine qg ?_
  have hrl := get_lt ht2
  have hpl := get_lt hs2
  have hml := get_lt hn2
  refine ⟨Q.length, rfl, by simp, G.length + 1, ⟨?_, ?_, ?_⟩, .inr (by omega), by omega, fun h => absurd h hxn, fun i hi h1 h2 h3 => ?_⟩
  ·rw [List.getElem?_set_self (by simp; omega)]; simp
  ·rw [List.getElem?_set_ne (by omega), List.getElem?_append_right (by simp)]; simp [LQ]
  ·rw [List.getElem?_set_ne n2, List.getElem?_append_left (by simp; omega), List.getElem?_set_ne n3, hn2]; simp
  ·rw [List.getElem?_set_ne (Ne.symm h1), List.getElem?_append_left (by simp; omega), List.getElem?_set_ne (Ne.symm h2)]
   exact hk2 i h3
end Go.Abs
set_option maxRecDepth 100000
namespace Go.Abs
open Go Go.Proofs Go.Maps
set_option linter.unusedSimpArgs false
theorem fc_successors (H : List AObj) (r : Nat) (x : List Int) : FC Tryz.prog 56 [.vptr r 0, LI x] H (fun res H' => res = .fn (.func 120) [] [.vptr H.length 0, .vptr (H.length + 1) 0] ∧ H' = H ++ [.vars [.vptr r 0], .vars [LI x]]) := by
 refine FC_body tOk Tryz.func56 rfl Tryz.results56 rfl (by simp [Tryz.ntmps56]) ?_
 rw [Tryz.ntmps56]
 simp only [argSlots]
 repeat first|((first|refine qa tOk rfl ?_|refine qb tOk rfl ?_|refine qh rfl ?_);simp)|refine qf ?_|refine qg ?_
attribute [local irreducible] nextL leastS
set_option maxHeartbeats 4000000 in
theorem fc_succ1 (a : Aut) (ha : OkA a) (cl : List Prd) (set : List Int) (hcl : ∀ c ∈ cl, ownE [c] = 0 ∧ voidP c = false ∧ okSy a (leastS c)) (hln : cl.length ≤ 256) (q c1 c2 r : Nat) {nt' : Nat} {sl' : List (Nat × AV)} {ps : List Tmp} {asg body : Code} (hps : ps.length = 2) (hpa : (ps.all fun p => decide (p < nt')) = true)
  (Inv : Nat → List AObj → Prop)
  (hI : ∀ k H, Inv k H → H[q]? = some (.lp true none nt' sl' ps asg body) ∧ H[c1]? = some (.vars [.vptr r 0]) ∧ H[c2]? = some (.vars [LI set]) ∧ ∃ rest, H[r]? = some (.vars (.i a.types :: .list (a.fin.map .bool) :: .list (a.mv.map encMv) :: LP cl :: rest)))
  (hgrow : ∀ k H L, Inv k H → Inv k (H ++ L))
  (hskip : ∀ k c H, cl[k]? = some c → nextL a set (leastS c) = [] → Inv k H → Inv (k + 1) H)
  (hround : ∀ k c H, cl[k]? = some c → nextL a set (leastS c) ≠ [] → Inv k H → AWP Tryz.prog nt' H.length asg (thenQ (AWP Tryz.prog nt' H.length body (RoundQ q (fun jm K2 => jm = none ∧ Inv (k + 1) (K2.set q (.lp true none nt' sl' ps asg body))))) (fun _ _ => False)) ⟨putMany sl' ps [encP c, LI (nextL a set (leastS c))], H.set q .dead⟩)
  (H0 : List AObj) (h0 : Inv 0 H0) : FC Tryz.prog 120 [.yld q, .vptr c1 0, .vptr c2 0] H0 (fun _ H' => Inv cl.length H') := by
 refine FC_body tOk Tryz.func120 rfl Tryz.results120 rfl (by simp [Tryz.ntmps120]) ?_
 rw [Tryz.ntmps120]
 simp only [argSlots]
 obtain ⟨i1, i2, i3, rest, i4⟩ := hI 0 H0 h0
 repeat first|((first|refine qa tOk rfl ?_|refine qb tOk rfl ?_|refine qh rfl ?_);simp [i2, i4])|refine qf ?_|refine qg ?_
 refine AWP_loop (ALoop_keep (sl' := [(0, .yld q), (1, .vptr c1 0), (2, .vptr c2 0), (12, LP cl), (13, .i cl.length), (14, .i (0 : Nat))]) ?_ (by simp))
 clear i1 i2 i3 i4
 clear rest
 refine ALoop_wf (F := fun (u : Nat × List AObj) => ⟨[(0, .yld q), (1, .vptr c1 0), (2, .vptr c2 0), (12, LP cl), (13, .i cl.length), (14, .i u.1)], u.2⟩)
  (fun u => u.1 ≤ cl.length ∧ Inv u.1 u.2) (fun u => cl.length - u.1) ?_ (0, H0) ⟨by simp, h0⟩
 rintro ⟨k, H⟩ ⟨hk, hv⟩ ih
 simp only at hk hv ih ⊢
 repeat first|((first|refine qa tOk rfl ?_|refine qb tOk rfl ?_|refine qh rfl ?_);simp)|refine qf ?_|refine qg ?_
 refine AWP_cond2 rfl (fun hlt => ?_) (fun hge => ?_)
 ·have hlt' : k < cl.length := by simpa using hlt
  have hw : IntKind.i64.wrap ((k : Int) + 1) = k + 1 := wrap_i64 _ (by omega) (by omega)
  have hck := hcl _ (List.getElem_mem hlt')
  have hget : cl[k]? = some cl[k] := List.getElem?_eq_getElem hlt'
  repeat first|((first|refine qa tOk rfl ?_|refine qb tOk rfl ?_|refine qh rfl ?_);simp [hlt'])|refine qf ?_|refine qg ?_
  generalize cl[k] = c at *
  refine AStep_PC rfl rfl (by simp) (pc_Witness c hck.1 hck.2.1) rfl ?_
  rintro _ rfl
  simp
  repeat first|((first|refine qa tOk rfl ?_|refine qb tOk rfl ?_|refine qh rfl ?_);simp)|refine qf ?_|refine qg ?_
  have hv2 := hgrow k H [.vars [.list (c.map encL)], .vars [.i (leastS c).ty, .i (leastS c).num]] hv
  obtain ⟨i1, i2, i3, rest, i4⟩ := hI k _ hv2
  have h6 : (H ++ [AObj.vars [.list (c.map encL)], .vars [.i (leastS c).ty, .i (leastS c).num]])[H.length + 1]? = some (.vars [.i (leastS c).ty, .i (leastS c).num]) := by rw [List.getElem?_append_right (by omega)]; simp
  have h5 : (H ++ [AObj.vars [.list (c.map encL)], .vars [.i (leastS c).ty, .i (leastS c).num]])[H.length]? = some (.vars [.list (c.map encL)]) := by rw [List.getElem?_append_right (by omega)]; simp
  generalize H ++ [AObj.vars [.list (c.map encL)], .vars [.i (leastS c).ty, .i (leastS c).num]] = G at *
  refine AWP_drawT tOk mixed [] (.val 0 (.val 1 (.val 2 (.val 3 (.val 4 (.val 5 (.one 6 (.val 7 (.done))))))))) rfl (by kernel_rfl) ?_
  simp [i2, i3, i4, h6]
  refine AStep_PC rfl rfl (by simp) (pc_successor a ha set (leastS c) hck.2.2) rfl ?_
  rintro _ rfl
  simp
  have hlen := next_len ha set (leastS c)
  have hsk := hskip k c G hget
  have hrd := hround k c G hget
  generalize nextL a set (leastS c) = nx at *
  by_cases hnx : nx = []
  ·subst hnx
   repeat first|((first|refine qa tOk rfl ?_|refine qb tOk rfl ?_|refine qh rfl ?_);simp [h5])|refine qf ?_|refine qg ?_
   refine AStep_skip rfl rfl ?_
   simp
   repeat first|((first|refine qa tOk rfl ?_|refine qb tOk rfl ?_|refine qh rfl ?_);simp)|refine qf ?_|refine qg ?_
   refine AWP_cond2 rfl (fun h => by cases h) (fun _ => ?_)
   repeat first|((first|refine qa tOk rfl ?_|refine qb tOk rfl ?_|refine qh rfl ?_);simp [hw])|refine qf ?_|refine qg ?_
   refine ALoop_keep (sl' := [(0, .yld q), (1, .vptr c1 0), (2, .vptr c2 0), (12, LP cl), (13, .i cl.length), (14, .i (k + 1 : Nat))]) ?_ (by simp)
   exact ih (k + 1, G) ⟨by omega, hsk rfl hv2⟩ (by omega)
  ·have hpos : 0 < nx.length := List.length_pos_iff.2 hnx
   repeat first|((first|refine qa tOk rfl ?_|refine qb tOk rfl ?_|refine qh rfl ?_);simp [h5, hpos])|refine qf ?_|refine qg ?_
   refine AStep_yield rfl rfl (q := q) rfl rfl i1 hps hpa rfl (fun jm K2 => jm = none ∧ Inv (k + 1) (K2.set q (.lp true none nt' sl' ps asg body))) ?_ ?_
   ·exact hrd hnx hv2
   ·rintro jm K2 ⟨rfl, hK⟩
    simp
    repeat first|((first|refine qa tOk rfl ?_|refine qb tOk rfl ?_|refine qh rfl ?_);simp)|refine qf ?_|refine qg ?_
    refine AWP_cond2 rfl (fun h => by cases h) (fun _ => ?_)
    repeat first|((first|refine qa tOk rfl ?_|refine qb tOk rfl ?_|refine qh rfl ?_);simp [hw])|refine qf ?_|refine qg ?_
    refine ALoop_keep (sl' := [(0, .yld q), (1, .vptr c1 0), (2, .vptr c2 0), (12, LP cl), (13, .i cl.length), (14, .i (k + 1 : Nat))]) ?_ (by simp)
    exact ih (k + 1, _) ⟨by omega, hK⟩ (by omega)
 ·have hge' : k = cl.length := by simp at hge; omega
  subst hge'
  repeat first|((first|refine qa tOk rfl ?_|refine qb tOk rfl ?_|refine qh rfl ?_);simp)|refine qf ?_|refine qg ?_
  exact hv
end Go.Abs
set_option maxRecDepth 100000
namespace Go.Abs
open Go Go.Proofs Go.Maps Go.RowKit
set_option linter.unusedSimpArgs false
section
variable {P : Program} [Env P] {T : TT} {nt k : Nat} {S : AS} {ops : Array Oper} {o : Oper} {R : AS → Prop} {Q : Exit → AS → Prop}
theorem AStep_nilCell {wr : Bool} {sl : List (Nat × AV)} {H : List AObj} (i j e sz : Nat) {xs : List AV} (hi : H[i]? = some (.vars xs)) (hj : xs[j]? = some .nils)
  (h : AStep P nt k wr ops o ⟨sl, (H ++ [AObj.arr e sz []]).set i (.vars (xs.set j (.sl H.length sz 0 0)))⟩ R) : AStep P nt k wr ops o ⟨sl, H⟩ R := fun C a w K Q' hs => by
 obtain ⟨I, m, hw, hsl, hk, hf⟩ := hs
 obtain ⟨g1, g2⟩ := hw.push (Below.refl _ _) none (fun b e => by cases e) (.arr e sz []) (fun m' _ _ => .inl ⟨rfl, rfl⟩)
 have hil : i < H.length := (List.getElem?_eq_some_iff.1 hi).1
 have hi' : (H ++ [AObj.arr e sz []])[i]? = some (.vars xs) := by rw [List.getElem?_append_left hil]; exact hi
 obtain ⟨b, t, vs, hb, hh, hsz, hr⟩ := g1.obj i _ hi'
 obtain ⟨g3, g4⟩ := g1.set (w' := w) (o' := .vars (xs.set j (.sl H.length sz 0 0))) hi' rfl hb (World.grownBy.refl _ _) (fun _ h => h) (fun m' hf' => ⟨b, t, vs, rfl, hh, by simp [hsz], fun q v x hv hx => by
  by_cases hq : j = q
  ·subst hq
   rw [List.getElem?_set_self (List.getElem?_eq_some_iff.1 hj).1] at hx
   cases hx
   have := (hr j v _ hv hj).nils_inv
   subst this
   exact .slnone H.length sz (by simp) (by rw [hf'.ids _ (by simp)]; exact upd_same ..)
  ·rw [List.getElem?_set_ne hq] at hx
   exact (hr q v x hv hx).mono hf' (Nat.le_refl _)⟩)
 have hlen : ((H ++ [AObj.arr e sz []]).set i (.vars (xs.set j (.sl H.length sz 0 0)))).length = H.length + 1 := by simp
 refine h C a w K Q' ⟨I, upd m H.length none, g3, ⟨hsl.1, hsl.2.1, fun s x hx => ?_⟩, by simp at hk ⊢; omega, hf.trans hk g2⟩
 obtain ⟨v, hv, hr'⟩ := hsl.2.2 s x hx
 refine ⟨v, hv, ?_⟩
 have := hr'.mono (n' := H.length + 1) g2 (by simp)
 rw [hlen]
 exact this
end
theorem cls_facts {a : Aut} (h : OkA a) (hm : (mintF a.types (onA a)).1 = 0) : ∃ cl, mintF a.types (onA a) = (0, cl) ∧ Cls a cl ∧ cl.length ≤ 256 ∧ ∀ c ∈ cl, ownE [c] = 0 ∧ voidP c = false ∧ okSy a (leastS c) ∧ PWf a.types.toNat c ∧ ∀ s ∈ c, s.length ≤ 256 := by
 have hc := cls_of h
 have hon : a.mv.map (·.on) = onA a := rfl
 rw [hon] at hc
 have hck := onA_ck h
 have hme := mint_eq a.types (onA a)
 rcases mint_ok h.types hck with h5 | h5
 ·omega
 ·refine ⟨_, h5, hc, ?_⟩
  have hb : bigCl (rClassesP a.types.toNat (onA a)) = false := by
   cases hb : bigCl (rClassesP a.types.toNat (onA a)) with
   | false => rfl
   | true =>
    rw [← hme, mintR] at hm
    rw [if_neg (by have := h.types; omega)] at hm
    have hl : (onA a).length ≤ 256 := by
     by_cases hl : 256 < (onA a).length
     ·rw [if_pos hl] at hm; simp at hm
     ·omega
    rw [if_neg (by omega), if_neg (fun k => k ((ckAll_iff _).2 fun p hp => (ckPrd_iff _ p).2 ⟨h.types, hck p hp⟩)), hb] at hm
    simp at hm
  simp only [bigCl, Bool.or_eq_false_iff, decide_eq_false_iff_not, List.any_eq_false, decide_eq_true_eq] at hb
  refine ⟨by omega, fun c hcm => ?_⟩
  have hw := hc.wf c hcm
  have hsz : ∀ s ∈ c, s.length ≤ 256 := fun s hs => by
   have := hb.2 c hcm
   simp only [Bool.not_eq_true, List.any_eq_false, decide_eq_true_eq] at this
   have := this s hs; omega
  have hck2 : ckPrd a.types c = 0 := (ckPrd_iff _ c).2 ⟨h.types, hw.1.1, fun s hs => sep_canon (hw.1.2 s hs).1 (sep_in (hw.1.2 s hs).1 (hw.1.2 s hs).2) (by have := hsz s hs; omega)⟩
  refine ⟨(own_ok hck2).1, ?_, least_ok hc hcm, hw.1, hsz⟩
  rw [Bool.eq_false_iff]
  intro hv
  obtain ⟨ty, y, hy⟩ := hw.2
  exact (void_iff hw.1).1 hv ty y hy
theorem sub_nil {a : Aut} (h : (subF a).1 ≠ 0) : (subF a).2.2 = [] := by
 unfold subF at h ⊢
 split
 ·rfl
 ·rename_i h1
  rw [if_neg h1] at h
  split
  ·rfl
  ·rename_i h2
   rw [if_neg h2] at h
   split
   ·rfl
   ·rename_i Q hQ
    rw [hQ] at h
    exact absurd rfl h
theorem onA_take (a : Aut) (k : Nat) (h : k < a.mv.length) : (onA a).take (k + 1) = (onA a).take k ++ [a.mv[k].on] := by
 rw [List.take_succ_eq_append_getElem (by simpa [onA] using h)]; simp [onA]
theorem onA_len (a : Aut) : (onA a).length = a.mv.length := by simp [onA]
theorem roundS_le : ∀ (xs : List (List Int)) (Q : List (List Int)), (roundS Q xs).length ≤ Q.length + xs.length
 | [], Q => by simp [roundS]
 | x :: xs, Q => by
  have h := roundS_le xs (addS Q x)
  have e : roundS Q (x :: xs) = roundS (addS Q x) xs := rfl
  have h2 : (addS Q x).length ≤ Q.length + 1 := by
   unfold addS; split <;> simp
  rw [e, List.length_cons]; omega
theorem round_ok {a : Aut} (hok : OkA a) {Q : List (List Int)} (hQ : ∀ l ∈ Q, okSet l) (hQl : Q.length ≤ 256) {cl : List Prd} (hcl : cl.length ≤ 256) {l : List Int} (k : Nat) :
  (∀ y ∈ roundS Q ((succS a cl l).take k), okSet y) ∧ (roundS Q ((succS a cl l).take k)).length ≤ 600 := by
 have hlen := roundS_le ((succS a cl l).take k) Q
 have hsl : (succS a cl l).length = cl.length := by simp [succS]
 rw [List.length_take, hsl] at hlen
 refine ⟨fun y hy => ?_, by omega⟩
 obtain ⟨R, hR, hRm⟩ := roundS_pre ((succS a cl l).take k) Q
 rw [hR] at hy
 rcases List.mem_append.1 hy with hy | hy
 ·exact hQ y hy
 ·obtain ⟨h1, h2⟩ := hRm y hy
  obtain ⟨c, _, rfl⟩ := List.mem_map.1 (List.mem_of_mem_take h1)
  have := hok.fin
  exact ⟨h2, next_len hok _ _, fun z hz => by have := nextL_in z hz; omega⟩
theorem round_snoc (Q xs : List (List Int)) (x : List Int) : roundS Q (xs ++ [x]) = addS (roundS Q xs) x := by unfold roundS; rw [List.foldl_append]; rfl
theorem addS_addQ {Q : List (List Int)} {x : List Int} (h : x ≠ []) : addS Q x = addQ Q x := by
 unfold addS addQ
 by_cases hx : x ∈ Q
 ·rw [if_pos (.inr hx), if_pos hx]
 ·rw [if_neg (by simp [h, hx]), if_neg hx]
theorem addS_nil (Q : List (List Int)) : addS Q [] = Q := by unfold addS; simp
attribute [local irreducible] nextL leastS mintF onA mpT txtS
set_option maxHeartbeats 8000000 in
theorem fc_subsets (H : List AObj) (a : Aut) : FC Tryz.prog 50 [encA a] H (fun res H' => (∀ j, j < H.length → H'[j]? = H[j]?) ∧ (((subF a).1 ≠ 0 ∧ res = .tup [.nilp, .i (subF a).1]) ∨
  ((subF a).1 = 0 ∧ ∃ r p m, res = .tup [.vptr r 0, .i 0] ∧ TB r p m a (subF a).2.1 (subF a).2.2 H' ∧ H.length ≤ r ∧ H.length ≤ p ∧ H.length ≤ m))) := by
 refine FC_body tOk Tryz.func50 rfl Tryz.results50 rfl (by simp [Tryz.ntmps50]) ?_
 rw [Tryz.ntmps50]
 simp only [argSlots]
 simp only [encA]
 repeat first|((first|refine qa tOk rfl ?_|refine qb tOk rfl ?_|refine qh rfl ?_);simp)|refine qf ?_|refine qg ?_
 have b0 : ∀ L, (H ++ [AObj.vars (cellsA a)] ++ L)[H.length]? = some (.vars (cellsA a)) := fun L => by rw [List.append_assoc, List.getElem?_append_right (by omega)]; simp
 refine AStep_PC rfl rfl (by simp) (pc_sCheck a) rfl ?_
 rintro _ rfl
 simp
 repeat first|((first|refine qa tOk rfl ?_|refine qb tOk rfl ?_|refine qh rfl ?_);simp)|refine qf ?_|refine qg ?_
 refine AWP_cond2 rfl (fun h => ?_) (fun h => ?_)
 ·have h' : ckAut a ≠ 0 := by simpa using h
  have hs : subF a = (ckAut a, [], []) := sub_bad h'
  rw [hs]
  repeat first|((first|refine qa tOk rfl ?_|refine qb tOk rfl ?_|refine qh rfl ?_);simp)|refine qf ?_|refine qg ?_
  exact ⟨fun j hj => List.getElem?_append_left hj, h'⟩
 have h0 : ckAut a = 0 := by simpa using h
 have hok := (ck_ok a).1 h0
 have hfin := hok.fin
 have hmvs := hok.mvs
 repeat first|((first|refine qa tOk rfl ?_|refine qb tOk rfl ?_|refine qh rfl ?_);simp)|refine qf ?_|refine qg ?_
 refine AWP_nilSlot 5 76 1 rfl ?_
 simp
 obtain ⟨G0, hG0⟩ : ∃ G0, G0 = H ++ [AObj.vars (cellsA a)] := ⟨_, rfl⟩
 have hg0 : G0[H.length]? = some (.vars (cellsA a)) := by rw [hG0]; simp
 have hg0l : G0.length = H.length + 1 := by rw [hG0]; simp
 have hgk : ∀ j, j < H.length → G0[j]? = H[j]? := fun j hj => by rw [hG0]; exact List.getElem?_append_left hj
 have hst := SL.start G0 76 1
 refine AWP_loop (ALoop_keep (sl' := [(1, .vptr H.length 0), (5, .sl G0.length 1 0 (0 : Nat)), (20, .list (a.mv.map encMv)), (21, .i a.mv.length), (22, .i (0 : Nat))]) ?_ (by simp [hg0l]))
 refine ALoop_wf (F := fun (u : Nat × Nat × List AObj) => ⟨[(1, .vptr H.length 0), (5, .sl u.2.1 1 0 u.1), (20, .list (a.mv.map encMv)), (21, .i a.mv.length), (22, .i u.1)], u.2.2⟩)
  (fun u => u.1 ≤ a.mv.length ∧ SL G0 u.2.2 u.2.1 76 1 (((onA a).take u.1).map encP)) (fun u => a.mv.length - u.1) ?_ (0, G0.length, _) ⟨by simp, by simp only [List.take_zero, List.map_nil]; rw [hG0] at hst ⊢; simpa using hst⟩
 rintro ⟨j, q, E⟩ ⟨hj, s1⟩ ih
 simp only at hj s1 ih ⊢
 repeat first|((first|refine qa tOk rfl ?_|refine qb tOk rfl ?_|refine qh rfl ?_);simp)|refine qf ?_|refine qg ?_
 refine AWP_cond2 rfl (fun hlt => ?_) (fun hge => ?_)
 ·have hlt' : j < a.mv.length := by simpa using hlt
  have hw : IntKind.i64.wrap ((j : Int) + 1) = j + 1 := wrap_i64 _ (by omega) (by omega)
  have hnx := onA_take a j hlt'
  have hal : ((onA a).take j).length = j := by rw [List.length_take, onA_len]; omega
  have ih' := fun q' E' => ih (j + 1, q', E')
  simp only [hnx] at ih'
  clear hnx
  generalize (onA a).take j = acc at *
  repeat first|((first|refine qa tOk rfl ?_|refine qb tOk rfl ?_|refine qh rfl ?_);simp [hlt'])|refine qf ?_|refine qg ?_
  generalize a.mv[j] = mm at *
  refine AStep_appendS tOk rfl rfl T91 rfl T76 rfl (by decide) (by decide) rfl rfl rfl ?_
  simp [get_app s1.arr, set_app s1.arr, hal]
  refine ⟨by simp [appOk, get_app s1.arr, set_app s1.arr, hal] <;> omega, ?_⟩
  repeat first|((first|refine qa tOk rfl ?_|refine qb tOk rfl ?_|refine qh rfl ?_);simp [hw])|refine qf ?_|refine qg ?_
  refine ALoop_keep (sl' := [(1, .vptr H.length 0), (5, .sl (E.length + 2) 1 0 (j + 1)), (20, .list (a.mv.map encMv)), (21, .i a.mv.length), (22, .i (j + 1 : Nat))]) ?_ (by simp)
  have := ih' (E.length + 2) _ ⟨by omega, s1.put [AObj.vars [AV.i mm.src, AV.i mm.dst, AV.list (mm.on.map encL)], AObj.arr 76 1 [encP mm.on]] ((acc ++ [mm.on]).map encP) rfl⟩ (by omega)
  simpa using this
 ·have hge' : j = a.mv.length := by simp at hge; omega
  subst hge'
  rw [List.take_of_length_le (by rw [onA_len]; omega)] at s1
  refine AWP_freeze1 q s1.arr ?_
  simp [onA_len]
  rw [List.take_of_length_le (by simp [onA_len])]
  have hqg := s1.ge
  have hql := s1.le
  have hE0 : (E.set q .dead)[H.length]? = some (.vars (cellsA a)) := by rw [List.getElem?_set_ne (by omega), s1.keep _ (by omega)]; exact hg0
  have hEk : ∀ i, i < H.length → (E.set q .dead)[i]? = H[i]? := fun i hi => by rw [List.getElem?_set_ne (by omega), s1.keep _ (by omega)]; exact hgk i hi
  have hEl : H.length < (E.set q .dead).length := get_lt hE0
  generalize E.set q .dead = E1 at *
  clear s1 hql hqg ih
  repeat first|((first|refine qa tOk rfl ?_|refine qb tOk rfl ?_|refine qh rfl ?_);simp [hE0])|refine qf ?_|refine qg ?_
  refine AStep_PC rfl rfl (by simp) (pc_Minterms a.types (onA a)) rfl ?_
  rintro _ rfl
  simp
  repeat first|((first|refine qa tOk rfl ?_|refine qb tOk rfl ?_|refine qh rfl ?_);simp)|refine qf ?_|refine qg ?_
  refine AWP_cond2 rfl (fun h3 => ?_) (fun h3 => ?_)
  ·have h3' : (mintF a.types (onA a)).1 ≠ 0 := by simpa using h3
   have hs : subF a = ((mintF a.types (onA a)).1, [], []) := by rw [subF, if_neg (fun k => k h0), if_pos h3']
   rw [hs]
   repeat first|((first|refine qa tOk rfl ?_|refine qb tOk rfl ?_|refine qh rfl ?_);simp)|refine qf ?_|refine qg ?_
   exact ⟨hEk, h3'⟩
  have h3' : (mintF a.types (onA a)).1 = 0 := by simpa using h3
  obtain ⟨cl, hmt, hcls, hcln, hcf⟩ := cls_facts hok h3'
  rw [hmt]
  repeat first|((first|refine qa tOk rfl ?_|refine qb tOk rfl ?_|refine qh rfl ?_);simp [hE0])|refine qf ?_|refine qg ?_
  refine AStep_makeMap rfl rfl rfl ?_
  simp
  repeat first|((first|refine qa tOk rfl ?_|refine qb tOk rfl ?_|refine qh rfl ?_);simp)|refine qf ?_|refine qg ?_
  refine AStep_freeze1 (E1.length + 3) (e := 3) (c := 1) (xs := [.i 0]) (by rw [List.getElem?_append_right (by omega)]; simp) ?_
  simp
  refine AStep_nilCell (E1.length + 1) 4 40 1 (xs := [.i a.types, .list (a.fin.map .bool), .list (a.mv.map encMv), LP cl, .nils, .mref E1.length]) (by rw [List.getElem?_append_right (by omega)]; simp) rfl ?_
  refine AStep_abs fun Z hZ => ?_
  have hZl : Z.length = E1.length + 5 := by rw [hZ]; simp
  have z0 : Z[H.length]? = some (.vars (cellsA a)) := by rw [hZ, List.getElem?_set_ne (by omega), List.append_assoc, List.getElem?_append_left hEl]; exact hE0
  have zk : ∀ i, i < H.length → Z[i]? = H[i]? := fun i hi => by rw [hZ, List.getElem?_set_ne (by omega), List.append_assoc, List.getElem?_append_left (by omega)]; exact hEk i hi
  have zt : TB (E1.length + 1) (E1.length + 4) E1.length a cl [] Z := by
   refine ⟨?_, ?_, ?_⟩
   ·rw [hZ, List.getElem?_set_self (by simp)]; simp
   ·rw [hZ, List.getElem?_set_ne (by omega), List.getElem?_append_right (by simp)]; simp [LQ]
   ·rw [hZ, List.getElem?_set_ne (by omega), List.append_assoc, List.getElem?_append_right (by omega)]; simp [mpT_def]
  have zb : Z[E1.length + 2]? = some (.vars [.vptr (E1.length + 1) 0]) := by rw [hZ, List.getElem?_set_ne (by omega), List.append_assoc, List.getElem?_append_right (by omega)]; simp
  clear hZ
  have ok0 : okSet [0] := ⟨by simp, by simp, fun z hz => by simp at hz; omega⟩
  refine AStep_FC rfl rfl (fc_find Z _ _ _ a cl [] [0] zt ok0 (fun l hl => by simp at hl) (by simp)) rfl ?_
  rintro res Y ⟨j0, p, rfl, hj0, ht, hpp, hYl, -, hYk⟩
  have hadd : addQ [] [0] = [[0]] := by simp [addQ]
  rw [hadd] at ht
  simp
  repeat first|((first|refine qa tOk rfl ?_|refine qb tOk rfl ?_|refine qh rfl ?_);simp)|refine qf ?_|refine qg ?_
  have y0 := (hYk H.length (by omega) (by omega) (by omega) (by omega)).trans z0
  have yk : ∀ i, i < H.length → Y[i]? = H[i]? := fun i hi => (hYk i (by omega) (by omega) (by omega) (by omega)).trans (zk i hi)
  have yb := (hYk _ (by omega) (by omega) (by omega) (by omega)).trans zb
  have hpH : H.length ≤ p := by omega
  have hrH : H.length ≤ E1.length + 1 := by omega
  have hbH : H.length ≤ E1.length + 2 := by omega
  have hmH : H.length ≤ E1.length := by omega
  refine AWP_keep (sl' := [(10, .vptr (E1.length + 2) 0), (11, .i (0 : Nat))]) ?_ (by simp)
  clear zt z0 zk zb hYk hZl hYl hj0 hpp hE0 hEk hEl hg0 hg0l hgk hG0
  generalize E1.length + 1 = r at *
  generalize E1.length + 2 = b at *
  generalize E1.length = m at *
  have hsub : subF a = match bfsS a cl 257 0 [[0]] with
    | none => (5, [], [])
    | some Q => (0, cl, Q) := by
   rw [subF, if_neg (fun k => k h0), hmt]; rfl
  refine AWP_loop (ALoop_keep (sl' := [(10, .vptr b 0), (11, .i (0 : Nat))]) ?_ (by simp))
  refine ALoop_wf (F := fun (u : Nat × Nat × List (List Int) × List AObj) => ⟨[(10, .vptr b 0), (11, .i u.1)], u.2.2.2⟩)
   (fun u => u.1 ≤ u.2.2.1.length ∧ u.2.2.1.length ≤ 256 ∧ TB r u.2.1 m a cl u.2.2.1 u.2.2.2 ∧ H.length ≤ u.2.1 ∧ u.2.2.2[b]? = some (.vars [.vptr r 0]) ∧ (∀ i, i < H.length → u.2.2.2[i]? = H[i]?) ∧ (∀ l ∈ u.2.2.1, okSet l) ∧ bfsS a cl 257 0 [[0]] = bfsS a cl (257 - u.1) u.1 u.2.2.1) (fun u => 257 - u.1) ?_ (0, p, [[0]], Y) ⟨by simp, by simp, ht, hpH, yb, yk, fun l hl => by rw [List.mem_singleton.1 hl]; exact ok0, rfl⟩
  clear ht hpH yb yk y0
  clear Y
  rintro ⟨i, p, Q, Y⟩ ⟨hi, hQl, ht, hpH, yb, yk, hQ, hbf⟩ ih
  simp only at hi hQl ht hpH yb yk hQ hbf ih ⊢
  have htt := ht.t
  repeat first|((first|refine qa tOk rfl ?_|refine qb tOk rfl ?_|refine qh rfl ?_);simp [yb, htt])|refine qf ?_|refine qg ?_
  refine AWP_cond2 rfl (fun hlt => ?_) (fun hge => ?_)
  ·have hlt' : i < Q.length := by simpa using hlt
   have hw : IntKind.i64.wrap ((i : Int) + 1) = i + 1 := wrap_i64 _ (by omega) (by omega)
   have hts := ht.s
   have hlo := hQ _ (List.getElem_mem hlt')
   repeat first|((first|refine qa tOk rfl ?_|refine qb tOk rfl ?_|refine qh rfl ?_);simp)|refine qf ?_|refine qg ?_
   refine AWP_drawT tOk mixed [8] (.val 0 (.val 1 (.val 2 (.val 3 (.val 4 (.val 5 (.val 6 (.val 7 (.one 8 (.done)))))))))) rfl (by kernel_rfl) ?_
   simp [yb, htt, hts, hlt']
   refine AStep_FC rfl rfl (fc_successors Y r Q[i]) rfl ?_
   rintro _ _ ⟨rfl, rfl⟩
   simp
   repeat first|((first|refine qa tOk rfl ?_|refine qb tOk rfl ?_|refine qh rfl ?_);simp)|refine qf ?_|refine qg ?_
   have hbs : bfsS a cl (257 - i) i Q = if 256 < (roundS Q (succS a cl Q[i])).length then none else bfsS a cl (257 - (i + 1)) (i + 1) (roundS Q (succS a cl Q[i])) := by
    have : 257 - i = (257 - (i + 1)) + 1 := by omega
    rw [this, bfsS, List.getElem?_eq_getElem hlt']
   rw [hbs] at hbf
   clear hbs
   generalize Q[i] = l at *
   have hsl : (succS a cl l).length = cl.length := by simp [succS]
   have hsg : ∀ (k : Nat) (c : Prd), cl[k]? = some c → (succS a cl l).take (k + 1) = (succS a cl l).take k ++ [nextL a l (leastS c)] := fun k c hc => by
    have hk := get_ltI hc
    have hgc : cl[k] = c := by rw [List.getElem?_eq_getElem hk] at hc; exact Option.some.inj hc
    rw [List.take_succ_eq_append_getElem (by rw [hsl]; exact hk)]
    simp [succS, hgc]
   have hQk : ∀ k, (∀ y ∈ roundS Q ((succS a cl l).take k), okSet y) ∧ (roundS Q ((succS a cl l).take k)).length ≤ 600 := fun k => round_ok hok hQ hQl hcln k
   have hyl := get_lt yb
   refine AWP_rangeFunc rfl (Rf := fun _ H' => ∃ p', TB r p' m a cl (roundS Q (succS a cl l)) H' ∧ H.length ≤ p' ∧ H'[b]? = some (.vars [.vptr r 0]) ∧ (∃ sl' ps' a' b', H'[Y.length + 2]? = some (.lp true none 80 sl' ps' a' b')) ∧ ∀ i, i < H.length → H'[i]? = H[i]?) ?_ ?_
   ·simp
    refine gen_FC fun H1 hH1 => ?_
    have ft : TB r p m a cl Q H1 := ht.keep fun j hj => by
     have : j < Y.length := by
      rcases hj with rfl | rfl | rfl
      ·exact get_lt ht.t
      ·exact get_lt ht.s
      ·exact get_lt ht.n
     rw [hH1, List.getElem?_append_left this]
    have fb : H1[b]? = some (.vars [.vptr r 0]) := by rw [hH1, List.getElem?_append_left hyl]; exact yb
    have fc1 : H1[Y.length]? = some (.vars [.vptr r 0]) := by rw [hH1, List.getElem?_append_right (by omega)]; simp
    have fc2 : H1[Y.length + 1]? = some (.vars [LI l]) := by rw [hH1, List.getElem?_append_right (by omega)]; simp
    have fk : ∀ i, i < H.length → H1[i]? = H[i]? := fun i hi => by
     rw [hH1, List.getElem?_append_left (by have := get_lt ht.t; omega)]; exact yk i hi
    have fq := congrArg (fun h : List AObj => h[Y.length + 2]?) hH1
    simp at fq
    clear hH1
    refine FC.mono (fc_succ1 a hok cl l (fun c hc => ⟨(hcf c hc).1, (hcf c hc).2.1, (hcf c hc).2.2.1⟩) hcln (Y.length + 2) Y.length (Y.length + 1) r (by rfl) (by rfl)
     (fun k H' => ∃ p', TB r p' m a cl (roundS Q ((succS a cl l).take k)) H' ∧ H.length ≤ p' ∧ H'[b]? = some (.vars [.vptr r 0]) ∧ H'[Y.length]? = some (.vars [.vptr r 0]) ∧ H'[Y.length + 1]? = some (.vars [LI l]) ∧ H'[Y.length + 2]? = H1[Y.length + 2]? ∧ ∀ i, i < H.length → H'[i]? = H[i]?)
     (fun k H' ⟨p', h1, h2, h3, h4, h5, h6, h7⟩ => ⟨h6.trans fq, h4, h5, _, h1.t⟩) ?_ ?_ ?_ H1 ⟨p, ft, hpH, fb, fc1, fc2, rfl, fk⟩) ?_
    ·rintro k H' L ⟨p', h1, h2, h3, h4, h5, h6, h7⟩
     refine ⟨p', h1.keep fun j hj => ?_, h2, get_app h3 _, get_app h4 _, get_app h5 _, by rw [← h6, List.getElem?_append_left (by rw [fq] at h6; exact get_lt h6)], fun i hi => by rw [List.getElem?_append_left (by have := get_lt h1.t; omega)]; exact h7 i hi⟩
     have : j < H'.length := by
      rcases hj with rfl | rfl | rfl
      ·exact get_lt h1.t
      ·exact get_lt h1.s
      ·exact get_lt h1.n
     exact List.getElem?_append_left this
    ·rintro k c H' hc hnx ⟨p', h1, h⟩
     refine ⟨p', ?_, h⟩
     rw [hsg k c hc, hnx, round_snoc, addS_nil]; exact h1
    ·rintro k c H' hc hnx ⟨p', h1, h2, h3, h4, h5, h6, h7⟩
     have hnxt : okSet (nextL a l (leastS c)) := by
      have := hok.fin
      exact ⟨hnx, next_len hok _ _, fun z hz => by have := nextL_in z hz; omega⟩
     have hsg2 := hsg k c hc
     have hQk2 := hQk k
     rw [hsg2, round_snoc, addS_addQ hnx]
     generalize nextL a l (leastS c) = nx at *
     generalize roundS Q ((succS a cl l).take k) = Q2 at *
     simp [putMany]
     have h8 := h6.trans fq
     have hqr : Y.length + 2 ≠ r := fun e => by have := h1.t; rw [← e, h8] at this; simp at this
     have hqp : Y.length + 2 ≠ p' := fun e => by have := h1.s; rw [← e, h8] at this; simp at this
     have hqm : Y.length + 2 ≠ m := fun e => by have := h1.n; rw [← e, h8, mpT_def] at this; simp at this
     have hqb : Y.length + 2 ≠ b := fun e => by rw [← e, h8] at h3; simp at h3
     have hbr : b ≠ r := fun e => by have := h1.t; rw [← e, h3] at this; simp at this
     have hbp : b ≠ p' := fun e => by have := h1.s; rw [← e, h3] at this; simp at this
     have hbm : b ≠ m := fun e => by have := h1.n; rw [← e, h3, mpT_def] at this; simp at this
     have h1r : Y.length ≠ r := fun e => by have := h1.t; rw [← e, h4] at this; simp at this
     have h1p : Y.length ≠ p' := fun e => by have := h1.s; rw [← e, h4] at this; simp at this
     have h1m : Y.length ≠ m := fun e => by have := h1.n; rw [← e, h4, mpT_def] at this; simp at this
     have h2r : Y.length + 1 ≠ r := fun e => by have := h1.t; rw [← e, h5] at this; simp at this
     have h2p : Y.length + 1 ≠ p' := fun e => by have := h1.s; rw [← e, h5] at this; simp at this
     have h2m : Y.length + 1 ≠ m := fun e => by have := h1.n; rw [← e, h5, mpT_def] at this; simp at this
     have d1 : TB r p' m a cl Q2 (H'.set (Y.length + 2) .dead) := h1.keep fun j hj => by
      rw [List.getElem?_set_ne (by rcases hj with rfl | rfl | rfl <;> assumption)]
     have d3 := get_set hqb h3 .dead
     have d4 := get_set (j := Y.length + 2) (by omega) h4 .dead
     have d5 := get_set (j := Y.length + 2) (by omega) h5 .dead
     have d6 := get_self h8 .dead
     have d7 : ∀ i, i < H.length → (H'.set (Y.length + 2) .dead)[i]? = H[i]? := fun i hi => by
      rw [List.getElem?_set_ne (by have := get_lt yb; omega)]; exact h7 i hi
     have dl : (H'.set (Y.length + 2) .dead).length = H'.length := by simp
     generalize H'.set (Y.length + 2) .dead = Z at *
     repeat first|((first|refine qa tOk rfl ?_|refine qb tOk rfl ?_|refine qh rfl ?_);simp [d3])|refine qf ?_|refine qg ?_
     refine AStep_FC rfl rfl (fc_find Z r p' m a cl Q2 nx d1 hnxt hQk2.1 (by have := hQk2.2; omega)) rfl ?_
     rintro res Z2 ⟨j0, p2, rfl, hj0, ht2, hp2, hl2, -, hk2⟩
     simp
     repeat first|((first|refine qa tOk rfl ?_|refine qb tOk rfl ?_|refine qh rfl ?_);simp)|refine qf ?_|refine qg ?_
     have hz : ∀ i, i < Z.length → i ≠ r → i ≠ p' → i ≠ m → Z2[i]? = Z[i]? := hk2
     have e3 := (hk2 b (get_lt d3) hbr hbp hbm).trans d3
     have e4 := (hk2 _ (get_lt d4) h1r h1p h1m).trans d4
     have e5 := (hk2 _ (get_lt d5) h2r h2p h2m).trans d5
     have e6 := (hk2 _ (get_lt d6) hqr hqp hqm).trans d6
     have hqp2 : Y.length + 2 ≠ p2 := fun e => by have := ht2.s; rw [← e, e6] at this; simp at this
     refine ⟨e6, rfl, p2, ht2.keep (fun j hj => by rw [List.getElem?_set_ne (by rcases hj with rfl | rfl | rfl <;> assumption)]), by have := get_lt d6; omega, get_set hqb e3 _, e4, e5, ?_, fun i hi => ?_⟩
     ·rw [fq]; exact get_self e6 _
     ·rw [List.getElem?_set_ne (by have := get_lt yb; omega), hk2 i (by have := get_lt d6; omega) (by omega) (by omega) (by omega)]; exact d7 i hi
    ·rintro _ H' ⟨p', h1, h2, h3, h4, h5, h6, h7⟩
     rw [List.take_of_length_le (by omega)] at h1
     exact ⟨p', h1, h2, h3, ⟨_, _, _, _, h6.trans fq⟩, h7⟩
   ·rintro res H' ⟨p', h1, h2, h3, ⟨sl', ps', a', b', h6⟩, h7⟩
    refine ⟨true, none, 80, sl', ps', a', b', by simpa using h6, ?_⟩
    simp
    have hqr : Y.length + 2 ≠ r := fun e => by have := h1.t; rw [← e, h6] at this; simp at this
    have hqp : Y.length + 2 ≠ p' := fun e => by have := h1.s; rw [← e, h6] at this; simp at this
    have hqm : Y.length + 2 ≠ m := fun e => by have := h1.n; rw [← e, h6, mpT_def] at this; simp at this
    have hqb : Y.length + 2 ≠ b := fun e => by rw [← e, h6] at h3; simp at h3
    have d1 : TB r p' m a cl (roundS Q (succS a cl l)) (H'.set (Y.length + 2) .dead) := h1.keep fun j hj => by
     rw [List.getElem?_set_ne (by rcases hj with rfl | rfl | rfl <;> assumption)]
    have d3 := get_set hqb h3 .dead
    have d7 : ∀ i, i < H.length → (H'.set (Y.length + 2) .dead)[i]? = H[i]? := fun i hi => by
     rw [List.getElem?_set_ne (by have := get_lt yb; omega)]; exact h7 i hi
    have hQ2 := round_ok hok hQ hQl hcln (l := l) cl.length
    rw [List.take_of_length_le (by omega)] at hQ2
    have hge1 := roundS_len Q (succS a cl l)
    generalize H'.set (Y.length + 2) .dead = Z at *
    generalize roundS Q (succS a cl l) = Q2 at *
    have d0 := d1.t
    repeat first|((first|refine qa tOk rfl ?_|refine qb tOk rfl ?_|refine qh rfl ?_);simp [d3, d0])|refine qf ?_|refine qg ?_
    refine AWP_cond2 rfl (fun hbig => ?_) (fun hsm => ?_)
    ·have hbg : 256 < Q2.length := by simp at hbig; omega
     rw [if_pos hbg] at hbf
     rw [hbf] at hsub
     rw [hsub]
     repeat first|((first|refine qa tOk rfl ?_|refine qb tOk rfl ?_|refine qh rfl ?_);simp)|refine qf ?_|refine qg ?_
     exact d7
    ·have hsm' : ¬ 256 < Q2.length := by simp at hsm; omega
     rw [if_neg hsm'] at hbf
     repeat first|((first|refine qa tOk rfl ?_|refine qb tOk rfl ?_|refine qh rfl ?_);simp [hw])|refine qf ?_|refine qg ?_
     refine ALoop_keep (sl' := [(10, .vptr b 0), (11, .i (i + 1 : Nat))]) ?_ (by simp)
     exact ih (i + 1, p', Q2, Z) ⟨by show i + 1 ≤ Q2.length; omega, by show Q2.length ≤ 256; omega, d1, h2, d3, d7, hQ2.1, hbf⟩ (by omega)
  ·have hge' : i = Q.length := by simp at hge; omega
   have hbs : bfsS a cl (257 - i) i Q = some Q := by
    have : 257 - i = (256 - i) + 1 := by omega
    rw [this, bfsS, List.getElem?_eq_none (by omega)]
   rw [hbs] at hbf
   rw [hbf] at hsub
   rw [hsub]
   repeat first|((first|refine qa tOk rfl ?_|refine qb tOk rfl ?_|refine qh rfl ?_);simp [yb])|refine qf ?_|refine qg ?_
   exact ⟨yk, p, m, ht, hrH, hpH, hmH⟩
end Go.Abs
set_option maxRecDepth 100000
namespace Go.Abs
open Go Go.Proofs Go.Maps Go.RowKit
set_option linter.unusedSimpArgs false
attribute [local irreducible] subF
set_option maxHeartbeats 4000000 in
theorem pc_Subsets (a : Aut) : PC Tryz.prog 15 [encA a] (fun r => r = .tup [.list (LQ (subF a).2.2), .i (subF a).1]) := by
 refine PC_body tOk Tryz.func15 rfl Tryz.results15 rfl (by simp [Tryz.ntmps15]) ?_
 rw [Tryz.ntmps15]
 simp only [argSlots]
 simp only [encA]
 repeat first|((first|refine qa tOk rfl ?_|refine qb tOk rfl ?_|refine qh rfl ?_);simp)|refine qf ?_|refine qg ?_
 have hfc := fc_subsets [.vars (cellsA a)] a
 have hbad : (subF a).1 ≠ 0 → (subF a).2.2 = [] := fun h => sub_nil h
 generalize subF a = sf at *
 obtain ⟨e, cl, Q⟩ := sf
 simp only at hfc hbad
 refine AStep_FC rfl rfl hfc rfl ?_
 rintro res H' ⟨hk, ⟨he, rfl⟩ | ⟨he, r, p, m, rfl, ht, hr, hp, hm⟩⟩
 ·rw [hbad he]
  simp
  repeat first|((first|refine qa tOk rfl ?_|refine qb tOk rfl ?_|refine qh rfl ?_);simp)|refine qf ?_|refine qg ?_
  refine AWP_cond2 rfl (fun _ => ?_) (fun h => by simp at h; exact absurd h he)
  repeat first|((first|refine qa tOk rfl ?_|refine qb tOk rfl ?_|refine qh rfl ?_);simp)|refine qf ?_|refine qg ?_
 ·subst he
  have htt := ht.t
  have hpr := ht.ne.1
  simp
  repeat first|((first|refine qa tOk rfl ?_|refine qb tOk rfl ?_|refine qh rfl ?_);simp)|refine qf ?_|refine qg ?_
  refine AWP_cond rfl ?_
  simp
  refine AWP_keep (sl' := [(4, .vptr r 0)]) ?_ (by simp)
  refine AWP_freezeC p ht.s r htt ?_
  simp
  rw [List.take_of_length_le (by simp)]
  have hrl := get_lt htt
  refine AWP_abs fun Z hZ => ?_
  have z1 : Z[r]? = some (.vars [.i a.types, .list (a.fin.map .bool), .list (a.mv.map encMv), LP cl, .list (LQ Q), .mref m]) := by rw [hZ]; exact List.getElem?_set_self (by simpa using hrl)
  repeat first|((first|refine qa tOk rfl ?_|refine qb tOk rfl ?_|refine qh rfl ?_);simp [z1])|refine qf ?_|refine qg ?_
end Go.Abs
set_option maxRecDepth 100000
namespace Go.Abs
open Go Go.Proofs Go.Maps Go.RowKit
set_option linter.unusedSimpArgs false
def Fx (fx : List (Nat × AObj)) (H : List AObj) : Prop := ∀ p ∈ fx, H[p.1]? = some p.2
theorem Fx.app {fx : List (Nat × AObj)} {H : List AObj} (h : Fx fx H) (L : List AObj) : Fx fx (H ++ L) := fun p hp => get_app (h p hp) L
theorem Fx.set {fx : List (Nat × AObj)} {H : List AObj} (h : Fx fx H) {x : Nat} {o : AObj} (hx : H[x]? = some o) (hn : ∀ p ∈ fx, p.2 ≠ o) (y : AObj) : Fx fx (H.set x y) := fun p hp => by
 have hne : x ≠ p.1 := fun e => by
  have := h p hp
  rw [← e, hx] at this
  exact hn p hp (Option.some.inj this).symm
 rw [List.getElem?_set_ne hne]; exact h p hp
theorem Fx.find {fx : List (Nat × AObj)} {H H' : List AObj} (h : Fx fx H) {r p m : Nat} {o1 o2 o3 : AObj} (h1 : H[r]? = some o1) (h2 : H[p]? = some o2) (h3 : H[m]? = some o3) (n1 : ∀ p ∈ fx, p.2 ≠ o1) (n2 : ∀ p ∈ fx, p.2 ≠ o2) (n3 : ∀ p ∈ fx, p.2 ≠ o3)
  (hk : ∀ i, i < H.length → i ≠ r → i ≠ p → i ≠ m → H'[i]? = H[i]?) : Fx fx H' := fun x hx => by
 have hh := h x hx
 refine (hk _ (get_lt hh) (fun e => ?_) (fun e => ?_) (fun e => ?_)).trans hh
 ·rw [e, h1] at hh; exact n1 x hx (Option.some.inj hh).symm
 ·rw [e, h2] at hh; exact n2 x hx (Option.some.inj hh).symm
 ·rw [e, h3] at hh; exact n3 x hx (Option.some.inj hh).symm
def idxM (g : List Mv) (to : Nat) : Int := match g.findIdx? fun m : Mv => decide (m.dst = (to : Int)) with
 | some i => i
 | none => -1
theorem fc_dstB (H : List AObj) (id to : Nat) (hid : H[id]? = some (.vars [.i to])) (m : Mv) : FC Tryz.prog 59 [encMv m, .vptr id 0] H (fun r H' => r = .bool (decide (m.dst = (to : Int))) ∧ H' = H ++ [.vars [.i m.src, .i m.dst, .list (m.on.map encL)]]) := by
 refine FC_body tOk Tryz.func59 rfl Tryz.results59 rfl (by simp [Tryz.ntmps59]) ?_
 rw [Tryz.ntmps59]
 simp only [argSlots]
 simp only [encMv]
 repeat first|((first|refine qa tOk rfl ?_|refine qb tOk rfl ?_|refine qh rfl ?_);simp [get_app hid])|refine qf ?_|refine qg ?_
 rfl
theorem idxM_hit {g : List Mv} {to j : Nat} (h : j < g.length) (h1 : g[j].dst = (to : Int)) (h2 : ∀ i, ∀ hi : i < g.length, i < j → ¬ g[i].dst = (to : Int)) : idxM g to = j := by
 have : g.findIdx? (fun m : Mv => decide (m.dst = (to : Int))) = some j := by
  rw [List.findIdx?_eq_some_iff_getElem]
  exact ⟨h, by simpa using h1, fun i hi => by simpa using h2 i (by omega) hi⟩
 rw [idxM, this]
theorem idxM_miss {g : List Mv} {to : Nat} (h2 : ∀ i, ∀ hi : i < g.length, ¬ g[i].dst = (to : Int)) : idxM g to = -1 := by
 have : g.findIdx? (fun m : Mv => decide (m.dst = (to : Int))) = none := by
  rw [List.findIdx?_eq_none_iff]
  intro m hm
  obtain ⟨i, hi, rfl⟩ := List.getElem_of_mem hm
  simpa using h2 i hi
 rw [idxM, this]
set_option maxHeartbeats 2000000 in
theorem fc_IndexM (H : List AObj) (v first to id : Nat) (pre g : List Mv) (hid : H[id]? = some (.vars [.i to])) (hv : H[v]? = some (.arr 78 3 ((pre ++ g).map encMv))) (hl : pre.length + g.length ≤ 1000000000) (hf : first = pre.length) :
  FC Tryz.prog 58 [.sl v 3 first g.length, .fn (.func 59) [] [.vptr id 0]] H (fun r H' => r = .i (idxM g to) ∧ ∃ L, H' = H ++ L) := by
 subst hf
 refine FC_body tOk Tryz.func58 rfl Tryz.results58 rfl (by simp [Tryz.ntmps58]) ?_
 rw [Tryz.ntmps58]
 simp only [argSlots]
 repeat first|((first|refine qa tOk rfl ?_|refine qb tOk rfl ?_|refine qh rfl ?_);simp)|refine qf ?_|refine qg ?_
 refine AWP_loop (ALoop_keep (sl' := [(0, .sl v 3 pre.length g.length), (1, .fn (.func 59) [] [.vptr id 0]), (7, .i g.length), (8, .i (0 : Nat))]) ?_ (by simp))
 refine ALoop_wf (F := fun (u : Nat × List AObj) => ⟨[(0, .sl v 3 pre.length g.length), (1, .fn (.func 59) [] [.vptr id 0]), (7, .i g.length), (8, .i u.1)], u.2⟩)
  (fun u => u.1 ≤ g.length ∧ (∃ L, u.2 = H ++ L) ∧ ∀ i, ∀ hi : i < g.length, i < u.1 → ¬ g[i].dst = (to : Int)) (fun u => g.length - u.1) ?_ (0, H) ⟨by simp, ⟨[], by simp⟩, by simp⟩
 rintro ⟨j, E⟩ ⟨hj, ⟨L, hL⟩, hI⟩ ih
 simp only at hj hI hL ih ⊢
 subst hL
 repeat first|((first|refine qa tOk rfl ?_|refine qb tOk rfl ?_|refine qh rfl ?_);simp)|refine qf ?_|refine qg ?_
 refine AWP_cond2 rfl (fun hlt => ?_) (fun hge => ?_)
 ·have hlt' : j < g.length := by simpa using hlt
  have hw : IntKind.i64.wrap ((j : Int) + 1) = j + 1 := wrap_i64 _ (by omega) (by omega)
  have hgt : ((pre ++ g).map encMv)[pre.length + j]? = some (encMv g[j]) := by simp [hlt']
  have hv2 := get_app hv L
  have hid2 := get_app hid L
  repeat first|((first|refine qa tOk rfl ?_|refine qb tOk rfl ?_|refine qh rfl ?_);simp [hlt', hv2, hgt])|refine qf ?_|refine qg ?_
  generalize hgj : g[j] = m at *
  refine AStep_FC rfl rfl (fc_dstB (H ++ L) id to hid2 m) rfl ?_
  rintro _ _ ⟨rfl, rfl⟩
  simp
  repeat first|((first|refine qa tOk rfl ?_|refine qb tOk rfl ?_|refine qh rfl ?_);simp)|refine qf ?_|refine qg ?_
  refine AWP_cond2 rfl (fun h => ?_) (fun h => ?_)
  ·repeat first|((first|refine qa tOk rfl ?_|refine qb tOk rfl ?_|refine qh rfl ?_);simp)|refine qf ?_|refine qg ?_
   exact (idxM_hit hlt' (by rw [hgj]; simpa using h) hI).symm
  ·repeat first|((first|refine qa tOk rfl ?_|refine qb tOk rfl ?_|refine qh rfl ?_);simp [hw])|refine qf ?_|refine qg ?_
   refine ALoop_keep (sl' := [(0, .sl v 3 pre.length g.length), (1, .fn (.func 59) [] [.vptr id 0]), (7, .i g.length), (8, .i (j + 1 : Nat))]) ?_ (by simp)
   refine ih (j + 1, _) ⟨by omega, ⟨L ++ [.vars [.i m.src, .i m.dst, .list (m.on.map encL)]], by simp⟩, fun i hi hij => ?_⟩ (by omega)
   by_cases e : i = j
   ·subst e; rw [hgj]; simpa using h
   ·exact hI i hi (by omega)
 ·have hge' : j = g.length := by simp at hge; omega
  subst hge'
  repeat first|((first|refine qa tOk rfl ?_|refine qb tOk rfl ?_|refine qh rfl ?_);simp)|refine qf ?_|refine qg ?_
  exact (idxM_miss fun i hi => hI i hi hi).symm
end Go.Abs
