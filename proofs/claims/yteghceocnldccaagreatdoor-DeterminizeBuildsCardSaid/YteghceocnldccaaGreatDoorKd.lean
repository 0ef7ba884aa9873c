/- Part Kd of the proof: an abstract machine over the model, and what the functions of the program hand back in its terms. No condition. -/
import Derived.Test.YteghceocnldccaaGreatDoorKc
set_option linter.all false
set_option maxRecDepth 100000
namespace Go.Abs
def M (l : List Iv) (n : Int) : Prop := ∃ x ∈ l, x.lo ≤ n ∧ n ≤ x.hi
def Sep (l : List Iv) : Prop := (∀ x ∈ l, x.lo ≤ x.hi) ∧ l.Pairwise (fun x y => x.hi + 2 ≤ y.lo)
theorem M_nil (n : Int) : M [] n ↔ False := by simp [M]
theorem M_cons (x : Iv) (l : List Iv) (n : Int) : M (x :: l) n ↔ (x.lo ≤ n ∧ n ≤ x.hi) ∨ M l n := by simp [M]
theorem M_app (a b : List Iv) (n : Int) : M (a ++ b) n ↔ M a n ∨ M b n := by simp [M, or_and_right, exists_or]
theorem has_iff (l : List Iv) (n : Int) : hasR l n = true ↔ M l n := by simp [hasR, M]
theorem Sep.tail {x : Iv} {l : List Iv} (h : Sep (x :: l)) : Sep l := ⟨fun y hy => h.1 y (by simp [hy]), (List.pairwise_cons.1 h.2).2⟩
theorem Sep.low {x : Iv} {l : List Iv} (h : Sep (x :: l)) {n : Int} (hm : M l n) : x.hi + 2 ≤ n := by
 obtain ⟨y, hy, h1, h2⟩ := hm
 have := (List.pairwise_cons.1 h.2).1 y hy
 omega
theorem Sep.lowc {x : Iv} {l : List Iv} (h : Sep (x :: l)) {n : Int} (hm : M (x :: l) n) : x.lo ≤ n := by
 rcases (M_cons ..).1 hm with h1 | h1
 ·exact h1.1
 ·have := h.low h1
  have := h.1 x (by simp)
  omega
theorem sep_ext : ∀ (a b : List Iv), Sep a → Sep b → (∀ n, M a n ↔ M b n) → a = b
 | [], [], _, _, _ => rfl
 | [], y :: b, _, hb, h => by
  have := (h y.lo).2 ((M_cons ..).2 (.inl ⟨Int.le_refl _, hb.1 y (by simp)⟩))
  exact absurd this (by simp [M])
 | x :: a, [], ha, _, h => by
  have := (h x.lo).1 ((M_cons ..).2 (.inl ⟨Int.le_refl _, ha.1 x (by simp)⟩))
  exact absurd this (by simp [M])
 | x :: a, y :: b, ha, hb, h => by
  have hx := ha.1 x (by simp)
  have hy := hb.1 y (by simp)
  have e1 : x.lo = y.lo := by
   have h1 := hb.lowc ((h x.lo).1 ((M_cons ..).2 (.inl ⟨Int.le_refl _, hx⟩)))
   have h2 := ha.lowc ((h y.lo).2 ((M_cons ..).2 (.inl ⟨Int.le_refl _, hy⟩)))
   omega
  have e2 : x.hi = y.hi := by
   rcases Int.lt_trichotomy x.hi y.hi with hlt | heq | hgt
   ·rcases (M_cons ..).1 ((h (x.hi + 1)).2 ((M_cons ..).2 (.inl ⟨by omega, by omega⟩))) with h1 | h1
    ·omega
    ·have := ha.low h1
     omega
   ·exact heq
   ·rcases (M_cons ..).1 ((h (y.hi + 1)).1 ((M_cons ..).2 (.inl ⟨by omega, by omega⟩))) with h1 | h1
    ·omega
    ·have := hb.low h1
     omega
  have e3 : x = y := by cases x; cases y; simp_all
  subst e3
  rw [sep_ext a b ha.tail hb.tail fun n => ⟨fun hm => ?_, fun hm => ?_⟩]
  ·have h1 := ha.low hm
   rcases (M_cons ..).1 ((h n).1 ((M_cons ..).2 (.inr hm))) with h2 | h2
   ·omega
   ·exact h2
  ·have h1 := hb.low hm
   rcases (M_cons ..).1 ((h n).2 ((M_cons ..).2 (.inr hm))) with h2 | h2
   ·omega
   ·exact h2
theorem canon_sep {l : List Iv} (h : CanonL l) : Sep l :=
 ⟨fun x hx => (one_in (h.one x hx)).2, List.pairwise_iff_getElem.2 fun _ _ hi hj hij => canon_mono h hij hj hi⟩
theorem canon_in {l : List Iv} (h : CanonL l) : ∀ x ∈ l, ivIn x := fun x hx => (one_in (h.one x hx)).1
theorem canon_M {l : List Iv} (h : CanonL l) {n : Int} (hm : M l n) : -1099511627776 ≤ n ∧ n ≤ 1099511627776 := by
 obtain ⟨x, hx, h1, h2⟩ := hm
 have h3 := canon_in h x hx
 have h4 := (inB_iff _).1 h3.1
 have h5 := (inB_iff _).1 h3.2
 omega
theorem sep_canon {l : List Iv} (h : Sep l) (hi : ∀ x ∈ l, ivIn x) (hl : l.length ≤ 256) : CanonL l :=
 ⟨hl, fun y hy => by
  have h1 := hi y hy
  have h2 := h.1 y hy
  have h4 := h1.1
  have h5 := h1.2
  simp [oneR, h4, h5]; omega, fun j hj => List.pairwise_iff_getElem.1 h.2 j (j + 1) (by omega) hj (by omega)⟩
theorem push_sep (acc : List Iv) (x : Iv) (ha : Sep acc) (hx : x.lo ≤ x.hi) (hle : ∀ y ∈ acc, y.lo ≤ x.lo) :
  Sep (pushR acc x) ∧ (∀ n, M (pushR acc x) n ↔ M acc n ∨ (x.lo ≤ n ∧ n ≤ x.hi)) ∧ (∀ z, x.lo ≤ z → ∀ y ∈ pushR acc x, y.lo ≤ z) := by
 rcases List.eq_nil_or_concat acc with rfl | ⟨ini, y, rfl⟩
 ·have e : pushR [] x = [x] := rfl
  rw [e]
  exact ⟨⟨fun y hy => by simp at hy; subst hy; exact hx, by simp⟩, fun n => by simp [M], fun z hz y hy => by simp at hy; subst hy; exact hz⟩
 ·rw [List.concat_eq_append] at ha hle ⊢
  rw [pushR_concat]
  have hy := ha.1 y (by simp)
  have hyx := hle y (by simp)
  obtain ⟨p1, p2, p3⟩ := List.pairwise_append.1 ha.2
  split
  ·rename_i hj
   refine ⟨⟨fun z hz => ?_, List.pairwise_append.2 ⟨p1, by simp, fun u hu v hv => ?_⟩⟩, fun n => ?_, fun z hz u hu => ?_⟩
   ·rcases List.mem_append.1 hz with h | h
    ·exact ha.1 z (by simp [h])
    ·simp at h; subst h; simp only; split <;> omega
   ·simp at hv; subst hv; exact p3 u hu y (by simp)
   ·rw [M_app, M_app, M_cons, M_cons, M_nil]
    simp only [or_false]
    by_cases hm : M ini n
    ·simp [hm]
    ·simp only [hm, false_or]
     split <;> omega
   ·rcases List.mem_append.1 hu with h | h
    ·have := hle u (by simp [h]); omega
    ·simp at h; subst h; simp only; omega
  ·rename_i hj
   refine ⟨⟨fun z hz => ?_, List.pairwise_append.2 ⟨ha.2, by simp, fun u hu v hv => ?_⟩⟩, fun n => by rw [M_app, M_cons, M_nil]; simp, fun z hz u hu => ?_⟩
   ·rcases List.mem_append.1 hz with h | h
    ·exact ha.1 z h
    ·simp at h; subst h; exact hx
   ·simp at hv; subst hv
    rcases List.mem_append.1 hu with h | h
    ·have := p3 u h y (by simp); omega
    ·simp at h; subst h; omega
   ·rcases List.mem_append.1 hu with h | h
    ·have := hle u h; omega
    ·simp at h; subst h; exact hz
theorem pushes_sep : ∀ (l acc : List Iv), Sep acc → byLo l → (∀ x ∈ l, x.lo ≤ x.hi) → (∀ y ∈ acc, ∀ x ∈ l, y.lo ≤ x.lo) →
  Sep (pushes acc l) ∧ ∀ n, M (pushes acc l) n ↔ M acc n ∨ M l n
 | [], acc, ha, _, _, _ => ⟨ha, fun n => by simp [pushes, M]⟩
 | x :: l, acc, ha, hb, hf, hle => by
  have hp := push_sep acc x ha (hf x (by simp)) (fun y hy => hle y hy x (by simp))
  have ih := pushes_sep l (pushR acc x) hp.1 (List.pairwise_cons.1 hb).2 (fun y hy => hf y (by simp [hy])) (fun y hy z hz => hp.2.2 z.lo ((List.pairwise_cons.1 hb).1 z hz) y hy)
  refine ⟨ih.1, fun n => ?_⟩
  have e : pushes acc (x :: l) = pushes (pushR acc x) l := rfl
  rw [e, ih.2 n, hp.2.1 n, M_cons, or_assoc]
theorem sep_nil : Sep [] := ⟨by simp, by simp⟩
theorem M_perm {a b : List Iv} (h : a.Perm b) (n : Int) : M a n ↔ M b n := by
 simp only [M]
 exact ⟨fun ⟨x, hx, h1⟩ => ⟨x, h.mem_iff.1 hx, h1⟩, fun ⟨x, hx, h1⟩ => ⟨x, h.mem_iff.2 hx, h1⟩⟩
theorem norm_sep (l : List Iv) (hf : ∀ x ∈ l, x.lo ≤ x.hi) : Sep (normR l) ∧ ∀ n, M (normR l) n ↔ M l n := by
 have hs := isort_spec l
 have h := pushes_sep (isortR l) [] sep_nil hs.2 (fun x hx => hf x (hs.1.mem_iff.1 hx)) (by simp)
 refine ⟨h.1, fun n => ?_⟩
 rw [normR, h.2 n, M_nil, false_or, M_perm hs.1]
def pieces (f : Int → Bool) : List Int → List Iv
 | c :: d :: r => (if f c = true then [⟨c, d - 1⟩] else []) ++ pieces f (d :: r)
 | _ => []
end Go.Abs
set_option maxRecDepth 100000
namespace Go.Abs
open Go Go.Proofs
set_option linter.unusedSimpArgs false
attribute [local irreducible] combR bothR sweepR
def opUnion (x y : Bool) : Bool := x || y
def opInter (x y : Bool) : Bool := x && y
def insideR (a b : List Iv) : Bool × Int := if bothR a b = 0 then (decide (sweepR opMinus a b = []), 0) else (false, bothR a b)
end Go.Abs
set_option maxRecDepth 100000
namespace Go.Abs
open Go Go.Proofs
set_option linter.unusedSimpArgs false
def gapFrom : List Iv → Int → List Iv
 | [], n => if n ≤ 1099511627776 then [⟨n, 1099511627776⟩] else []
 | x :: r, n => (if n < x.lo then [⟨n, x.lo - 1⟩] else []) ++ gapFrom r (x.hi + 1)
def gapsR (l : List Iv) : List Iv := gapFrom l (-1099511627776)
end Go.Abs
set_option maxRecDepth 100000
namespace Go.Abs
open Go
theorem pts_iff : ∀ (l : List Iv) (z : Int), z ∈ ptsR l ↔ ∃ x ∈ l, z = x.lo ∨ z = x.hi + 1
 | [], z => by simp [ptsR]
 | y :: r, z => by
  rw [ptsR, List.mem_cons, List.mem_cons, pts_iff r z]
  simp [or_assoc]
theorem upto_spec (zs : List Int) (hs : zs.Pairwise (· ≤ ·)) : ∀ m, m ≤ zs.length →
  (Lib.compactUpTo zs.toArray m).Pairwise (· < ·) ∧ (∀ z, z ∈ Lib.compactUpTo zs.toArray m ↔ z ∈ zs.take m) := by
 intro m
 induction m with
 | zero => exact fun _ => ⟨by simp [Lib.compactUpTo], by simp [Lib.compactUpTo]⟩
 | succ m ih =>
  intro hm
  obtain ⟨h1, h2⟩ := ih (by omega)
  have hm' : m < zs.length := by omega
  have hg : zs.toArray[m]! = zs[m] := by simp [hm']
  rw [Lib.compactUpTo_succ]
  have ht : zs.take (m + 1) = zs.take m ++ [zs[m]] := by rw [List.take_succ_eq_append_getElem hm']
  by_cases hk : Lib.keeps zs.toArray m = true
  ·rw [if_pos hk, hg, ht]
   refine ⟨List.pairwise_append.2 ⟨h1, by simp, fun u hu v hv => ?_⟩, fun z => by rw [List.mem_append, List.mem_append, h2]⟩
   simp at hv; subst hv
   obtain ⟨i, hi, rfl⟩ := List.getElem_of_mem ((h2 u).1 hu)
   have hi' : i < m := by simp at hi; omega
   rw [List.getElem_take]
   have hne : zs[m] ≠ zs[m - 1] := by
    simp [Lib.keeps] at hk
    have hm0 : m ≠ 0 := by omega
    have hk := hk.resolve_left hm0
    simpa [hm', show m - 1 < zs.length by omega] using hk
   have a1 : zs[i] ≤ zs[m - 1] := by
    rcases Nat.lt_or_ge i (m - 1) with h | h
    ·exact List.pairwise_iff_getElem.1 hs i (m - 1) (by omega) (by omega) h
    ·have : i = m - 1 := by omega
     subst this; exact Int.le_refl _
   have a2 : zs[m - 1] ≤ zs[m] := List.pairwise_iff_getElem.1 hs (m - 1) m (by omega) (by omega) (by omega)
   omega
  ·rw [if_neg hk, List.append_nil, ht]
   refine ⟨h1, fun z => ?_⟩
   rw [h2, List.mem_append]
   refine ⟨.inl, fun h => h.elim id fun h => ?_⟩
   simp at h; subst h
   simp only [Lib.keeps, decide_eq_true_eq, not_or] at hk
   have hm1 : m - 1 < zs.length := by omega
   have hk2 : zs[m] = zs[m - 1] := by simpa [hm', hm1] using hk.2
   rw [hk2]
   exact List.mem_take_iff_getElem.2 ⟨m - 1, by omega, rfl⟩
theorem cuts_spec (l : List Iv) : (cutsR l).Pairwise (· < ·) ∧ ∀ z, z ∈ cutsR l ↔ ∃ x ∈ l, z = x.lo ∨ z = x.hi + 1 := by
 have hs : (sortI (ptsR l)).Pairwise (· ≤ ·) := by
  have := List.pairwise_mergeSort (le := fun x y : Int => decide (x ≤ y)) (fun a b c h1 h2 => by simp at h1 h2 ⊢; omega) (fun a b => by simp; omega) (ptsR l)
  simpa [sortI] using this
 have h := upto_spec _ hs _ (Nat.le_refl _)
 refine ⟨h.1, fun z => ?_⟩
 have h2 := h.2 z
 rw [List.take_length] at h2
 rw [cutsR, Lib.compact, h2, sortI, List.mem_mergeSort, pts_iff]
theorem has_const (l : List Iv) (cs : List Int) (h : ∀ x ∈ l, x.lo ∈ cs ∧ x.hi + 1 ∈ cs) (c n : Int) (hc : c ≤ n) (hm : ∀ d ∈ cs, d ≤ n → d ≤ c) : hasR l n = hasR l c := by
 rw [Bool.eq_iff_iff, has_iff, has_iff]
 constructor
 ·rintro ⟨x, hx, h1, h2⟩
  have := hm _ (h x hx).1 h1
  exact ⟨x, hx, this, by omega⟩
 ·rintro ⟨x, hx, h1, h2⟩
  refine ⟨x, hx, by omega, ?_⟩
  by_cases hn : x.hi + 1 ≤ n
  ·have := hm _ (h x hx).2 hn; omega
  ·omega
theorem sep_in {l : List Iv} (h : Sep l) (hb : ∀ n, M l n → -1099511627776 ≤ n ∧ n ≤ 1099511627776) : ∀ x ∈ l, ivIn x := fun x hx =>
 ⟨(inB_iff _).2 (hb _ ⟨x, hx, Int.le_refl _, h.1 x hx⟩), (inB_iff _).2 (hb _ ⟨x, hx, h.1 x hx, Int.le_refl _⟩)⟩
theorem gapFrom_spec : ∀ (l : List Iv) (s : Int), (∀ x ∈ l, x.lo ≤ x.hi ∧ x.hi ≤ 1099511627776) → l.Pairwise (fun x y => x.hi + 2 ≤ y.lo) → (∀ x ∈ l, s ≤ x.lo) →
  Sep (gapFrom l s) ∧ (∀ n, M (gapFrom l s) n ↔ s ≤ n ∧ n ≤ 1099511627776 ∧ ¬ M l n) ∧ (gapFrom l s).length ≤ l.length + 1
 | [], s, _, _, _ => by
  rw [gapFrom]
  split
  ·exact ⟨⟨fun x hx => by simp at hx; subst hx; assumption, by simp⟩, fun n => by rw [M_cons, M_nil]; simp [M_nil], by simp⟩
  ·exact ⟨sep_nil, fun n => by simp [M_nil]; omega, by simp⟩
 | x :: l, s, hf, hp, hs => by
  have hx := hf x (by simp)
  have hxs := hs x (by simp)
  have hgap := (List.pairwise_cons.1 hp).1
  obtain ⟨i1, i2, i3⟩ := gapFrom_spec l (x.hi + 1) (fun y hy => hf y (by simp [hy])) (List.pairwise_cons.1 hp).2 (fun y hy => by have := hgap y hy; omega)
  have hml : ∀ n, M l n → x.hi + 2 ≤ n := by
   rintro n ⟨y, hy, h1, h2⟩
   have := hgap y hy; omega
  rw [gapFrom]
  split
  ·refine ⟨⟨fun y hy => ?_, ?_⟩, fun n => ?_, by simp; omega⟩
   ·rcases List.mem_append.1 hy with h | h
    ·simp at h; subst h; simp only; omega
    ·exact i1.1 y h
   ·refine List.pairwise_append.2 ⟨by simp, i1.2, fun u hu v hv => ?_⟩
    simp at hu; subst hu
    have := (i2 v.lo).1 ⟨v, hv, Int.le_refl _, i1.1 v hv⟩
    simp only; omega
   ·rw [M_app, i2, M_cons, M_nil, M_cons]
    by_cases hm : M l n
    ·have := hml n hm; simp [hm]; omega
    ·simp only [hm, not_false_eq_true, and_true, or_false]; omega
  ·refine ⟨⟨fun y hy => i1.1 y (by simpa using hy), by simpa using i1.2⟩, fun n => ?_, by simp; omega⟩
   rw [List.nil_append, i2, M_cons]
   by_cases hm : M l n
   ·simp [hm]
   ·simp only [hm, not_false_eq_true, and_true, or_false]; omega
theorem gaps_spec {l : List Iv} (h : CanonL l) : Sep (gapsR l) ∧ (∀ n, M (gapsR l) n ↔ (-1099511627776 ≤ n ∧ n ≤ 1099511627776) ∧ ¬ M l n) ∧ (gapsR l).length ≤ l.length + 1 := by
 have hs := canon_sep h
 have hi := canon_in h
 have := gapFrom_spec l (-1099511627776) (fun x hx => ⟨hs.1 x hx, ((inB_iff _).1 (hi x hx).2).2⟩) hs.2 (fun x hx => ((inB_iff _).1 (hi x hx).1).1)
 exact ⟨this.1, fun n => by rw [gapsR, this.2.1, and_assoc], this.2.2⟩
def meetR (x y : Iv) : Option Iv := if (if x.lo < y.lo then y.lo else x.lo) ≤ (if y.hi < x.hi then y.hi else x.hi) then some ⟨if x.lo < y.lo then y.lo else x.lo, if y.hi < x.hi then y.hi else x.hi⟩ else none
def pairsR (a b : List Iv) : List Iv := a.flatMap fun x => b.filterMap (meetR x)
theorem meet_some {x y z : Iv} (h : meetR x y = some z) : z.lo ≤ z.hi ∧ ∀ n, (z.lo ≤ n ∧ n ≤ z.hi) ↔ (x.lo ≤ n ∧ n ≤ x.hi) ∧ (y.lo ≤ n ∧ n ≤ y.hi) := by
 unfold meetR at h
 by_cases hle : (if x.lo < y.lo then y.lo else x.lo) ≤ (if y.hi < x.hi then y.hi else x.hi)
 ·rw [if_pos hle] at h
  cases h
  refine ⟨hle, fun n => ?_⟩
  simp only
  split <;> split <;> omega
 ·rw [if_neg hle] at h
  cases h
theorem meet_M {x y : Iv} {n : Int} (h1 : x.lo ≤ n ∧ n ≤ x.hi) (h2 : y.lo ≤ n ∧ n ≤ y.hi) : ∃ z, meetR x y = some z ∧ z.lo ≤ n ∧ n ≤ z.hi := by
 unfold meetR
 have : (if x.lo < y.lo then y.lo else x.lo) ≤ (if y.hi < x.hi then y.hi else x.hi) := by split <;> split <;> omega
 rw [if_pos this]
 refine ⟨_, rfl, ?_, ?_⟩ <;> simp only <;> split <;> omega
theorem pairs_spec (a b : List Iv) : (∀ x ∈ pairsR a b, x.lo ≤ x.hi) ∧ ∀ n, M (pairsR a b) n ↔ M a n ∧ M b n := by
 constructor
 ·intro z hz
  obtain ⟨x, _, hz⟩ := List.mem_flatMap.1 hz
  obtain ⟨y, _, h⟩ := List.mem_filterMap.1 hz
  exact (meet_some h).1
 ·intro n
  constructor
  ·rintro ⟨z, hz, h1⟩
   obtain ⟨x, hx, hz⟩ := List.mem_flatMap.1 hz
   obtain ⟨y, hy, h⟩ := List.mem_filterMap.1 hz
   have := ((meet_some h).2 n).1 h1
   exact ⟨⟨x, hx, this.1⟩, ⟨y, hy, this.2⟩⟩
  ·rintro ⟨⟨x, hx, h1⟩, ⟨y, hy, h2⟩⟩
   obtain ⟨z, hz, h3⟩ := meet_M h1 h2
   exact ⟨z, List.mem_flatMap.2 ⟨x, hx, List.mem_filterMap.2 ⟨y, hy, hz⟩⟩, h3⟩
def rBothL (a b : List Iv) : List Iv := normR (pairsR a b)
theorem rBoth_spec (a b : List Iv) : Sep (rBothL a b) ∧ ∀ n, M (rBothL a b) n ↔ M a n ∧ M b n := by
 have h := norm_sep (pairsR a b) (pairs_spec a b).1
 exact ⟨h.1, fun n => by rw [rBothL, h.2, (pairs_spec a b).2]⟩
end Go.Abs
set_option maxRecDepth 100000
namespace Go.Abs
open Go
def b2 (b : Bool) : Int := if b = true then 1 else 0
def cnt (p : Int → Bool) (A : Int) : Nat → Int
 | 0 => 0
 | n + 1 => cnt p A n + b2 (p (A + n))
def inI (lo hi k : Int) : Bool := decide (lo ≤ k) && decide (k ≤ hi)
theorem inI_iff (lo hi k : Int) : inI lo hi k = true ↔ lo ≤ k ∧ k ≤ hi := by simp [inI]
theorem has_cons (x : Iv) (l : List Iv) (k : Int) : hasR (x :: l) k = (inI x.lo x.hi k || hasR l k) := by simp [hasR, inI]
end Go.Abs
set_option maxRecDepth 100000
namespace Go.Abs
open Go
end Go.Abs
set_option maxRecDepth 100000
namespace Go.Abs
open Go
end Go.Abs
set_option maxRecDepth 100000
namespace Go.Abs
open Go
def hitA (x y : Iv) : Bool := decide (y.lo < x.lo) && decide (x.lo ≤ y.hi)
def hitB (x y : Iv) : Bool := decide (x.lo ≤ y.lo) && decide (y.lo ≤ x.hi)
theorem row_len (x : Iv) : ∀ (b : List Iv), (b.filterMap (meetR x)).length ≤ b.countP (hitA x) + b.countP (hitB x)
 | [] => by simp
 | y :: b => by
  have ih := row_len x b
  rw [List.countP_cons, List.countP_cons]
  cases h : meetR x y with
  | none => rw [List.filterMap_cons_none h]; omega
  | some z =>
   rw [List.filterMap_cons_some h, List.length_cons]
   have hz := meet_some h
   have hm := (hz.2 z.lo).1 ⟨Int.le_refl _, hz.1⟩
   have : hitA x y = true ∨ hitB x y = true := by simp [hitA, hitB]; omega
   rcases this with h' | h' <;> rw [if_pos h'] <;> omega
theorem hitA_le (x : Iv) : ∀ (b : List Iv), Sep b → b.countP (hitA x) ≤ 1
 | [], _ => by simp
 | y :: b, hs => by
  rw [List.countP_cons]
  split
  ·rename_i h
   simp [hitA] at h
   have : b.countP (hitA x) = 0 := List.countP_eq_zero.2 fun z hz => by
    have := (List.pairwise_cons.1 hs.2).1 z hz
    simp [hitA]; omega
   omega
  ·have := hitA_le x b hs.tail; omega
theorem hitB_one (y : Iv) : ∀ (a : List Iv), Sep a → a.countP (fun x => hitB x y) ≤ 1
 | [], _ => by simp
 | x :: a, hs => by
  rw [List.countP_cons]
  split
  ·rename_i h
   simp [hitB] at h
   have : a.countP (fun x => hitB x y) = 0 := List.countP_eq_zero.2 fun z hz => by
    have := (List.pairwise_cons.1 hs.2).1 z hz
    simp [hitB]; omega
   omega
  ·have := hitB_one y a hs.tail; omega
theorem hitB_sum (a : List Iv) (ha : Sep a) : ∀ (b : List Iv), (a.map fun x => b.countP (hitB x)).sum ≤ b.length
 | [] => by
  have : ∀ a : List Iv, (a.map fun x => ([] : List Iv).countP (hitB x)).sum = 0 := fun a => by
   induction a with
   | nil => rfl
   | cons x a ih => simpa using ih
  rw [this]; simp
 | y :: b => by
  have ih := hitB_sum a ha b
  have h1 := hitB_one y a ha
  have : ∀ a : List Iv, (a.map fun x => (y :: b).countP (hitB x)).sum = (a.map fun x => b.countP (hitB x)).sum + a.countP (fun x => hitB x y) := fun a => by
   induction a with
   | nil => rfl
   | cons x a ih =>
    rw [List.map_cons, List.sum_cons, ih, List.map_cons, List.sum_cons, List.countP_cons, List.countP_cons]
    omega
  rw [this, List.length_cons]; omega
theorem pairs_len (a b : List Iv) (ha : Sep a) (hb : Sep b) : (pairsR a b).length ≤ a.length + b.length := by
 have h : ∀ a : List Iv, (pairsR a b).length ≤ a.length + (a.map fun x => b.countP (hitB x)).sum := fun a => by
  induction a with
  | nil => simp [pairsR]
  | cons x a ih =>
   have e : pairsR (x :: a) b = b.filterMap (meetR x) ++ pairsR a b := rfl
   have h1 := row_len x b
   have h2 := hitA_le x b hb
   rw [e, List.length_append, List.map_cons, List.sum_cons, List.length_cons]
   omega
 have h1 := h a
 have h2 := hitB_sum a ha b
 omega
theorem pairs_in {a b : List Iv} (h : (∀ x ∈ a, ivIn x) ∨ (∀ y ∈ b, ivIn y)) : ∀ z ∈ pairsR a b, ivIn z := by
 intro z hz
 have hp := pairs_spec a b
 have hf := hp.1 z hz
 have m1 := (hp.2 z.lo).1 ⟨z, hz, Int.le_refl _, hf⟩
 have m2 := (hp.2 z.hi).1 ⟨z, hz, hf, Int.le_refl _⟩
 have key : ∀ l : List Iv, (∀ x ∈ l, ivIn x) → ∀ n, M l n → inB n = true := fun l hl n ⟨x, hx, h1, h2⟩ => by
  have h3 := (inB_iff _).1 (hl x hx).1
  have h4 := (inB_iff _).1 (hl x hx).2
  exact (inB_iff _).2 (by omega)
 rcases h with h | h
 ·exact ⟨key a h _ m1.1, key a h _ m2.1⟩
 ·exact ⟨key b h _ m1.2, key b h _ m2.2⟩
end Go.Abs
set_option maxRecDepth 100000
namespace Go.Abs
abbrev Prd := List (List Iv)
def PM (p : Prd) (t : Nat) (n : Int) : Prop := ∃ s, p[t]? = some s ∧ M s n
def inR (n : Int) : Prop := -1099511627776 ≤ n ∧ n ≤ 1099511627776
def PWf (T : Nat) (p : Prd) : Prop := p.length = T ∧ ∀ s ∈ p, Sep s ∧ ∀ n, M s n → inR n
theorem PWf.lt {T : Nat} {p : Prd} (h : PWf T p) {t : Nat} {n : Int} (hm : PM p t n) : t < T ∧ inR n := by
 obtain ⟨s, hs, hn⟩ := hm
 exact ⟨by rw [← h.1]; exact (List.getElem?_eq_some_iff.1 hs).1, (h.2 s (List.mem_of_getElem? hs)).2 n hn⟩
theorem prd_ext {T : Nat} {p q : Prd} (hp : PWf T p) (hq : PWf T q) (h : ∀ t n, PM p t n ↔ PM q t n) : p = q := by
 apply List.ext_getElem (by rw [hp.1, hq.1])
 intro i h1 h2
 refine sep_ext _ _ (hp.2 _ (List.getElem_mem h1)).1 (hq.2 _ (List.getElem_mem h2)).1 fun n => ?_
 have := h i n
 unfold PM at this
 rw [List.getElem?_eq_getElem h1, List.getElem?_eq_getElem h2] at this
 simpa using this
def syLt (t : Nat) (n : Int) (t' : Nat) (n' : Int) : Prop := t < t' ∨ t = t' ∧ n < n'
theorem syLt.irr {t : Nat} {n : Int} (h : syLt t n t n) : False := by unfold syLt at h; omega
theorem syLt.trans {a b c : Nat} {x y z : Int} (h : syLt a x b y) (k : syLt b y c z) : syLt a x c z := by unfold syLt at *; omega
def sgEq (l : List Prd) (t : Nat) (n : Int) (t' : Nat) (n' : Int) : Prop := ∀ p ∈ l, PM p t n ↔ PM p t' n'
theorem sgEq.symm {l : List Prd} {t t' : Nat} {n n' : Int} (h : sgEq l t n t' n') : sgEq l t' n' t n := fun p hp => (h p hp).symm
theorem sgEq.trans {l : List Prd} {a b c : Nat} {x y z : Int} (h : sgEq l a x b y) (k : sgEq l b y c z) : sgEq l a x c z := fun p hp => (h p hp).trans (k p hp)
theorem sgEq.refl (l : List Prd) (t : Nat) (n : Int) : sgEq l t n t n := fun _ _ => Iff.rfl
structure Prts (T : Nat) (l L : List Prd) : Prop where
 wf : ∀ p ∈ L, PWf T p
 ne : ∀ p ∈ L, ∃ t n, PM p t n
 all : ∀ t n, t < T → inR n → ∃ p ∈ L, PM p t n
 cls : ∀ p ∈ L, ∀ t n, PM p t n → ∀ t' n', PM p t' n' ↔ t' < T ∧ inR n' ∧ sgEq l t n t' n'
def prLt (p q : Prd) : Prop := ∃ t n, PM p t n ∧ ∀ t' n', PM q t' n' → syLt t n t' n'
theorem prLt.irr {p : Prd} (h : prLt p p) : False := by
 obtain ⟨t, n, h1, h2⟩ := h
 exact (h2 t n h1).irr
theorem prLt.asymm {p q : Prd} (h : prLt p q) (k : prLt q p) : False := by
 obtain ⟨t, n, h1, h2⟩ := h
 obtain ⟨t', n', k1, k2⟩ := k
 exact ((h2 t' n' k1).trans (k2 t n h1)).irr
theorem Prts.same {T : Nat} {l L L' : List Prd} (h : Prts T l L) (h' : Prts T l L') {p : Prd} (hp : p ∈ L) : p ∈ L' := by
 obtain ⟨t, n, hm⟩ := h.ne p hp
 obtain ⟨ht, hn⟩ := (h.wf p hp).lt hm
 obtain ⟨q, hq, hqm⟩ := h'.all t n ht hn
 have : p = q := prd_ext (h.wf p hp) (h'.wf q hq) fun t' n' => by rw [h.cls p hp t n hm, h'.cls q hq t n hqm]
 rw [this]; exact hq
theorem Prts.unique {T : Nat} {l L L' : List Prd} (h : Prts T l L) (h' : Prts T l L') (s : L.Pairwise prLt) (s' : L'.Pairwise prLt) : L = L' := by
 have hnd : ∀ {X : List Prd}, X.Pairwise prLt → X.Nodup := fun hx => hx.imp (fun h e => by subst e; exact h.irr)
 refine List.Perm.eq_of_pairwise (le := prLt) (fun a b _ _ h1 h2 => (h1.asymm h2).elim) s s' ?_
 exact (List.perm_ext_iff_of_nodup (hnd s) (hnd s')).2 fun p => ⟨h.same h', h'.same h⟩
theorem Prts.disj {T : Nat} {l L : List Prd} (h : Prts T l L) {p q : Prd} (hp : p ∈ L) (hq : q ∈ L) {t : Nat} {n : Int} (h1 : PM p t n) (h2 : PM q t n) : p = q :=
 prd_ext (h.wf p hp) (h.wf q hq) fun t' n' => by rw [h.cls p hp t n h1, h.cls q hq t n h2]
theorem Prts.perm {T : Nat} {l L L' : List Prd} (h : Prts T l L) (e : L.Perm L') : Prts T l L' :=
 ⟨fun p hp => h.wf p (e.mem_iff.2 hp), fun p hp => h.ne p (e.mem_iff.2 hp), fun t n a b => by obtain ⟨p, hp, hm⟩ := h.all t n a b; exact ⟨p, e.mem_iff.1 hp, hm⟩, fun p hp => h.cls p (e.mem_iff.2 hp)⟩
def wholeP (T : Nat) : Prd := List.replicate T (gapsR [])
def bothP (c p : Prd) : Prd := List.zipWith rBothL c p
def restP (p : Prd) : Prd := p.map gapsR
def voidP (p : Prd) : Bool := p.all (·.isEmpty)
def splitP (p : Prd) (L : List Prd) : List Prd := L.flatMap fun c => (if voidP (bothP c p) then [] else [bothP c p]) ++ (if voidP (bothP c (restP p)) then [] else [bothP c (restP p)])
def classesP (T : Nat) (l : List Prd) : List Prd := l.foldl (fun L p => splitP p L) [wholeP T]
def PCk (T : Nat) (p : Prd) : Prop := p.length = T ∧ ∀ s ∈ p, CanonL s
theorem PCk.wf {T : Nat} {p : Prd} (h : PCk T p) : PWf T p := ⟨h.1, fun s hs => ⟨canon_sep (h.2 s hs), fun n hn => canon_M (h.2 s hs) hn⟩⟩
theorem canon_nil : CanonL [] := ⟨by simp, by simp, fun j h => by simp at h⟩
theorem PM_whole (T t : Nat) (n : Int) : PM (wholeP T) t n ↔ t < T ∧ inR n := by
 unfold PM wholeP
 have hg := (gaps_spec canon_nil).2.1 n
 constructor
 ·rintro ⟨s, hs, hm⟩
  rw [List.getElem?_replicate] at hs
  split at hs
  ·cases hs; exact ⟨by assumption, (hg.1 hm).1⟩
  ·cases hs
 ·rintro ⟨h1, h2⟩
  exact ⟨gapsR [], by rw [List.getElem?_replicate, if_pos h1], hg.2 ⟨h2, by simp [M]⟩⟩
theorem wf_whole (T : Nat) : PWf T (wholeP T) := ⟨by simp [wholeP], fun s hs => by
 obtain rfl := List.eq_of_mem_replicate hs
 exact ⟨(gaps_spec canon_nil).1, fun n hn => (((gaps_spec canon_nil).2.1 n).1 hn).1⟩⟩
theorem PM_both {T : Nat} {c p : Prd} (hc : c.length = T) (hp : p.length = T) (t : Nat) (n : Int) : PM (bothP c p) t n ↔ PM c t n ∧ PM p t n := by
 unfold PM bothP
 constructor
 ·rintro ⟨s, hs, hm⟩
  rw [List.getElem?_zipWith] at hs
  cases h1 : c[t]? with
  | none => rw [h1] at hs; simp at hs
  | some a =>
   cases h2 : p[t]? with
   | none => rw [h1, h2] at hs; simp at hs
   | some b =>
    rw [h1, h2] at hs
    simp at hs
    subst hs
    have := ((rBoth_spec a b).2 n).1 hm
    exact ⟨⟨a, rfl, this.1⟩, ⟨b, rfl, this.2⟩⟩
 ·rintro ⟨⟨a, h1, m1⟩, ⟨b, h2, m2⟩⟩
  exact ⟨rBothL a b, by rw [List.getElem?_zipWith, h1, h2], ((rBoth_spec a b).2 n).2 ⟨m1, m2⟩⟩
theorem wf_both {T : Nat} {c p : Prd} (hc : PWf T c) (hp : p.length = T) : PWf T (bothP c p) := by
 refine ⟨by simp [bothP, hc.1, hp], fun s hs => ?_⟩
 obtain ⟨i, hi⟩ := List.mem_iff_getElem?.1 hs
 unfold bothP at hi
 rw [List.getElem?_zipWith] at hi
 cases h1 : c[i]? with
 | none => rw [h1] at hi; simp at hi
 | some a =>
  cases h2 : p[i]? with
  | none => rw [h1, h2] at hi; simp at hi
  | some b =>
   rw [h1, h2] at hi
   simp at hi
   subst hi
   exact ⟨(rBoth_spec a b).1, fun n hn => (hc.2 a (List.mem_of_getElem? h1)).2 n (((rBoth_spec a b).2 n).1 hn).1⟩
theorem PM_rest {T : Nat} {p : Prd} (hp : PCk T p) (t : Nat) (n : Int) : PM (restP p) t n ↔ (t < T ∧ inR n) ∧ ¬ PM p t n := by
 unfold PM restP
 rw [List.getElem?_map]
 constructor
 ·rintro ⟨s, hs, hm⟩
  obtain ⟨a, ha, rfl⟩ := Option.map_eq_some_iff.1 hs
  have hg := ((gaps_spec (hp.2 a (List.mem_of_getElem? ha))).2.1 n).1 hm
  refine ⟨⟨by rw [← hp.1]; exact (List.getElem?_eq_some_iff.1 ha).1, hg.1⟩, ?_⟩
  rintro ⟨b, hb, hm'⟩
  rw [ha] at hb; cases hb
  exact hg.2 hm'
 ·rintro ⟨⟨h1, h2⟩, h3⟩
  have hl : t < p.length := by rw [hp.1]; exact h1
  refine ⟨gapsR p[t], by rw [List.getElem?_eq_getElem hl]; rfl, ((gaps_spec (hp.2 _ (List.getElem_mem hl))).2.1 n).2 ⟨h2, fun hm => h3 ⟨_, List.getElem?_eq_getElem hl, hm⟩⟩⟩
theorem void_iff {T : Nat} {p : Prd} (h : PWf T p) : voidP p = true ↔ ∀ t n, ¬ PM p t n := by
 unfold voidP
 rw [List.all_eq_true]
 constructor
 ·rintro hv t n ⟨s, hs, hm⟩
  have := hv s (List.mem_of_getElem? hs)
  rw [List.isEmpty_iff] at this
  subst this
  simp [M] at hm
 ·intro hv s hs
  obtain ⟨i, hi⟩ := List.mem_iff_getElem?.1 hs
  cases s with
  | nil => rfl
  | cons x s => exact absurd ⟨_, hi, (M_cons ..).2 (.inl ⟨Int.le_refl _, (h.2 _ hs).1.1 x (by simp)⟩)⟩ (hv i x.lo)
theorem prts_split {T : Nat} {l L : List Prd} {p : Prd} (h : Prts T l L) (hp : PCk T p) : Prts T (l ++ [p]) (splitP p L) := by
 have hrl : (restP p).length = T := by simp [restP, hp.1]
 have hmem : ∀ q, q ∈ splitP p L ↔ ∃ c ∈ L, ((q = bothP c p) ∨ (q = bothP c (restP p))) ∧ voidP q = false := by
  intro q
  unfold splitP
  rw [List.mem_flatMap]
  constructor
  ·rintro ⟨c, hc, hq⟩
   refine ⟨c, hc, ?_⟩
   rcases List.mem_append.1 hq with hq | hq
   ·split at hq
    ·cases hq
    ·rename_i hv; obtain rfl := List.mem_singleton.1 hq; exact ⟨.inl rfl, by simpa using hv⟩
   ·split at hq
    ·cases hq
    ·rename_i hv; obtain rfl := List.mem_singleton.1 hq; exact ⟨.inr rfl, by simpa using hv⟩
  ·rintro ⟨c, hc, hq, hv⟩
   refine ⟨c, hc, List.mem_append.2 ?_⟩
   rcases hq with rfl | rfl
   ·left; rw [if_neg (by rw [hv]; decide)]; simp
   ·right; rw [if_neg (by rw [hv]; decide)]; simp
 have hwf : ∀ q ∈ splitP p L, PWf T q := fun q hq => by
  obtain ⟨c, hc, rfl | rfl, _⟩ := (hmem q).1 hq
  ·exact wf_both (h.wf c hc) hp.1
  ·exact wf_both (h.wf c hc) hrl
 have hne : ∀ q ∈ splitP p L, ∃ t n, PM q t n := fun q hq => by
  obtain ⟨c, hc, _, hv⟩ := (hmem q).1 hq
  by_cases hx : ∃ t n, PM q t n
  ·exact hx
  ·exfalso
   have : voidP q = true := (void_iff (hwf q hq)).2 fun t n hm => hx ⟨t, n, hm⟩
   rw [this] at hv; cases hv
 refine ⟨hwf, hne, fun t n ht hn => ?_, fun q hq t n hm t' n' => ?_⟩
 ·obtain ⟨c, hc, hcm⟩ := h.all t n ht hn
  have hv : ∀ q, (q = bothP c p ∨ q = bothP c (restP p)) → PM q t n → q ∈ splitP p L := fun q hq hm => (hmem q).2 ⟨c, hc, hq, by
   have hw : PWf T q := by
    rcases hq with rfl | rfl
    ·exact wf_both (h.wf c hc) hp.1
    ·exact wf_both (h.wf c hc) hrl
   cases hvq : voidP q with
   | false => rfl
   | true => exact absurd hm ((void_iff hw).1 hvq t n)⟩
  by_cases hpm : PM p t n
  ·have := (PM_both (h.wf c hc).1 hp.1 t n).2 ⟨hcm, hpm⟩
   exact ⟨_, hv _ (.inl rfl) this, this⟩
  ·have := (PM_both (h.wf c hc).1 hrl t n).2 ⟨hcm, (PM_rest hp t n).2 ⟨⟨ht, hn⟩, hpm⟩⟩
   exact ⟨_, hv _ (.inr rfl) this, this⟩
 ·obtain ⟨c, hc, hq', _⟩ := (hmem q).1 hq
  have hsg : sgEq (l ++ [p]) t n t' n' ↔ sgEq l t n t' n' ∧ (PM p t n ↔ PM p t' n') := by
   constructor
   ·exact fun hs => ⟨fun r hr => hs r (by simp [hr]), hs p (by simp)⟩
   ·rintro ⟨h1, h2⟩ r hr
    rcases List.mem_append.1 hr with hr | hr
    ·exact h1 r hr
    ·obtain rfl := List.mem_singleton.1 hr; exact h2
  rw [hsg]
  rcases hq' with rfl | rfl
  ·obtain ⟨m1, m2⟩ := (PM_both (h.wf c hc).1 hp.1 t n).1 hm
   rw [PM_both (h.wf c hc).1 hp.1, h.cls c hc t n m1]
   constructor
   ·rintro ⟨⟨h1, h2, h3⟩, h4⟩; exact ⟨h1, h2, h3, fun _ => h4, fun _ => m2⟩
   ·rintro ⟨h1, h2, h3, h4⟩; exact ⟨⟨h1, h2, h3⟩, h4.1 m2⟩
  ·obtain ⟨m1, m2⟩ := (PM_both (h.wf c hc).1 hrl t n).1 hm
   have m3 := ((PM_rest hp t n).1 m2).2
   rw [PM_both (h.wf c hc).1 hrl, h.cls c hc t n m1, PM_rest hp]
   constructor
   ·rintro ⟨⟨h1, h2, h3⟩, h4⟩; exact ⟨h1, h2, h3, fun h => absurd h m3, fun h => absurd h h4.2⟩
   ·rintro ⟨h1, h2, h3, h4⟩; exact ⟨⟨h1, h2, h3⟩, ⟨h1, h2⟩, fun h => m3 (h4.2 h)⟩
theorem prts_whole (T : Nat) (hT : 0 < T) : Prts T [] [wholeP T] := by
 refine ⟨fun p hp => ?_, fun p hp => ?_, fun t n ht hn => ?_, fun p hp t n hm t' n' => ?_⟩
 ·obtain rfl := List.mem_singleton.1 hp; exact wf_whole T
 ·obtain rfl := List.mem_singleton.1 hp; exact ⟨0, 0, (PM_whole T 0 0).2 ⟨hT, by unfold inR; omega⟩⟩
 ·exact ⟨_, List.mem_singleton_self _, (PM_whole T t n).2 ⟨ht, hn⟩⟩
 ·obtain rfl := List.mem_singleton.1 hp
  rw [PM_whole]
  exact ⟨fun h => ⟨h.1, h.2, fun r hr => by cases hr⟩, fun h => ⟨h.1, h.2.1⟩⟩
theorem prts_classes {T : Nat} (hT : 0 < T) {l : List Prd} (hl : ∀ p ∈ l, PCk T p) : Prts T l (classesP T l) := by
 have key : ∀ (r d L : List Prd), Prts T d L → (∀ p ∈ r, PCk T p) → Prts T (d ++ r) (r.foldl (fun L p => splitP p L) L) := by
  intro r
  induction r with
  | nil => intro d L h _; simpa using h
  | cons p r ih =>
   intro d L h hr
   rw [List.foldl_cons]
   have := ih (d ++ [p]) (splitP p L) (prts_split h (hr p (by simp))) (fun q hq => hr q (by simp [hq]))
   simpa using this
 have := key l [] [wholeP T] (prts_whole T hT) hl
 simpa [classesP] using this
end Go.Abs
set_option maxRecDepth 100000
namespace Go.Abs
def leastP : Prd → Nat → Nat × Int
 | [], _ => (0, 0)
 | (x :: _) :: _, i => (i, x.lo)
 | [] :: p, i => leastP p (i + 1)
def befP (a b : Nat × Int) : Bool := decide (a.1 < b.1) || (decide (a.1 = b.1) && decide (a.2 < b.2))
theorem bef_iff (a b : Nat × Int) : befP a b = true ↔ syLt a.1 a.2 b.1 b.2 := by simp [befP, syLt]
theorem least_gen : ∀ (p : Prd) (i : Nat), (∀ s ∈ p, Sep s) → (∃ s ∈ p, s ≠ []) → ∃ t x r, p[t]? = some (x :: r) ∧ leastP p i = (i + t, x.lo) ∧ ∀ j, j < t → p[j]? = some []
 | [], _, _, ⟨s, hs, _⟩ => by cases hs
 | (x :: r) :: p, i, _, _ => ⟨0, x, r, rfl, rfl, fun j hj => by omega⟩
 | [] :: p, i, h, ⟨s, hs, hn⟩ => by
  have hs' : s ∈ p := by
   rcases List.mem_cons.1 hs with rfl | hs
   ·exact absurd rfl hn
   ·exact hs
  obtain ⟨t, x, r, h1, h2, h3⟩ := least_gen p (i + 1) (fun s hs => h s (by simp [hs])) ⟨s, hs', hn⟩
  refine ⟨t + 1, x, r, by simpa using h1, by rw [leastP, h2]; congr 1; omega, fun j hj => ?_⟩
  cases j with
  | zero => rfl
  | succ j => simpa using h3 j (by omega)
theorem least_spec {T : Nat} {p : Prd} (h : PWf T p) (hn : ∃ t n, PM p t n) : PM p (leastP p 0).1 (leastP p 0).2 ∧ ∀ t n, PM p t n → ((leastP p 0).1 = t ∧ (leastP p 0).2 = n) ∨ syLt (leastP p 0).1 (leastP p 0).2 t n := by
 obtain ⟨t0, n0, s0, hs0, m0⟩ := hn
 have hne : s0 ≠ [] := fun e => by subst e; simp [M] at m0
 obtain ⟨t, x, r, h1, h2, h3⟩ := least_gen p 0 (fun s hs => (h.2 s hs).1) ⟨s0, List.mem_of_getElem? hs0, hne⟩
 rw [Nat.zero_add] at h2
 rw [h2]
 have hx := (h.2 _ (List.mem_of_getElem? h1)).1
 refine ⟨⟨_, h1, (M_cons ..).2 (.inl ⟨Int.le_refl _, hx.1 x (by simp)⟩)⟩, fun t' n' hm => ?_⟩
 obtain ⟨s, hs, hm⟩ := hm
 simp only
 rcases Nat.lt_trichotomy t' t with hlt | rfl | hgt
 ·rw [h3 t' hlt] at hs; cases hs; simp [M] at hm
 ·rw [h1] at hs; cases hs
  have := hx.lowc hm
  unfold syLt; omega
 ·exact .inr (.inl hgt)
theorem prLt_of_least {T : Nat} {p q : Prd} (hp : PWf T p) (hpn : ∃ t n, PM p t n) (hq : PWf T q) (hqn : ∃ t n, PM q t n) (h : syLt (leastP p 0).1 (leastP p 0).2 (leastP q 0).1 (leastP q 0).2) : prLt p q :=
 ⟨_, _, (least_spec hp hpn).1, fun t n hm => by
  rcases (least_spec hq hqn).2 t n hm with ⟨e1, e2⟩ | h2
  ·rw [← e1, ← e2]; exact h
  ·exact h.trans h2⟩
def insK (s : List Prd) (x : Prd) : Nat → Nat
 | 0 => 0
 | j + 1 => match s[j]? with
  | some y => if befP (leastP x 0) (leastP y 0) = true then insK s x j else j + 1
  | none => j + 1
def insP (s : List Prd) (x : Prd) : List Prd := s.take (insK s x s.length) ++ x :: s.drop (insK s x s.length)
def sortP (L : List Prd) : List Prd := L.foldl insP []
theorem insK_spec (s : List Prd) (x : Prd) : ∀ j, j ≤ s.length → insK s x j ≤ j ∧ (∀ i, insK s x j ≤ i → i < j → ∀ h : i < s.length, befP (leastP x 0) (leastP s[i] 0) = true) ∧ (∀ i, i + 1 = insK s x j → ∀ h : i < s.length, befP (leastP x 0) (leastP s[i] 0) = false)
 | 0, _ => ⟨Nat.le_refl _, fun i _ h => by omega, fun i h => by simp [insK] at h⟩
 | j + 1, hj => by
  have hjl : j < s.length := by omega
  rw [insK, List.getElem?_eq_getElem hjl]
  simp only
  by_cases hb : befP (leastP x 0) (leastP s[j] 0) = true
  ·rw [if_pos hb]
   obtain ⟨h1, h2, h3⟩ := insK_spec s x j (by omega)
   refine ⟨by omega, fun i hi hlt hl => ?_, h3⟩
   by_cases hij : i = j
   ·subst hij; exact hb
   ·exact h2 i hi (by omega) hl
  ·rw [if_neg hb]
   refine ⟨Nat.le_refl _, fun i hi hlt => by omega, fun i hi hl => ?_⟩
   have : i = j := by omega
   subst this
   simpa using hb
theorem insP_perm (s : List Prd) (x : Prd) : (insP s x).Perm (x :: s) := by
 unfold insP
 refine List.perm_middle.trans ?_
 rw [List.take_append_drop]
def keyLt (p q : Prd) : Prop := syLt (leastP p 0).1 (leastP p 0).2 (leastP q 0).1 (leastP q 0).2
theorem insP_sorted {s : List Prd} {x : Prd} (hs : s.Pairwise keyLt) (hd : ∀ y ∈ s, leastP y 0 ≠ leastP x 0) : (insP s x).Pairwise keyLt := by
 obtain ⟨h1, h2, h3⟩ := insK_spec s x s.length (Nat.le_refl _)
 unfold insP
 generalize insK s x s.length = k at *
 have hsplit := hs
 rw [← List.take_append_drop k s] at hsplit
 obtain ⟨p1, p2, p3⟩ := List.pairwise_append.1 hsplit
 have hafter : ∀ y ∈ s.drop k, keyLt x y := fun y hy => by
  obtain ⟨i, hi⟩ := List.mem_iff_getElem?.1 hy
  rw [List.getElem?_drop] at hi
  obtain ⟨hl, e⟩ := List.getElem?_eq_some_iff.1 hi
  have := h2 (k + i) (by omega) hl hl
  rw [e] at this
  exact (bef_iff _ _).1 this
 have hlast : ∀ i, i + 1 = k → ∀ h : i < s.length, keyLt s[i] x := fun i hi hl => by
  have h4 := h3 i hi hl
  have hne := hd s[i] (List.getElem_mem hl)
  unfold keyLt
  rcases Nat.lt_trichotomy (leastP s[i] 0).1 (leastP x 0).1 with a | a | a
  ·exact .inl a
  ·rcases Int.lt_trichotomy (leastP s[i] 0).2 (leastP x 0).2 with b | b | b
   ·exact .inr ⟨a, b⟩
   ·exact absurd (Prod.ext a b) hne
   ·have : befP (leastP x 0) (leastP s[i] 0) = true := (bef_iff _ _).2 (.inr ⟨a.symm, b⟩)
    rw [this] at h4; cases h4
  ·have : befP (leastP x 0) (leastP s[i] 0) = true := (bef_iff _ _).2 (.inl a)
   rw [this] at h4; cases h4
 have hbefore : ∀ y ∈ s.take k, keyLt y x := fun y hy => by
  obtain ⟨i, hi⟩ := List.mem_iff_getElem?.1 hy
  rw [List.getElem?_take] at hi
  split at hi
  ·rename_i hik
   obtain ⟨hl, e⟩ := List.getElem?_eq_some_iff.1 hi
   obtain ⟨k', rfl⟩ : ∃ k', k = k' + 1 := ⟨k - 1, by omega⟩
   have hk' : k' < s.length := by omega
   have hl2 := hlast k' rfl hk'
   by_cases hij : i = k'
   ·subst hij; rw [← e]; exact hl2
   ·have := List.pairwise_iff_getElem.1 hs i k' hl hk' (by omega)
    rw [e] at this
    exact syLt.trans this hl2
  ·cases hi
 refine List.pairwise_append.2 ⟨p1, List.pairwise_cons.2 ⟨hafter, p2⟩, fun y hy z hz => ?_⟩
 rcases List.mem_cons.1 hz with rfl | hz
 ·exact hbefore y hy
 ·exact p3 y hy z hz
theorem sortP_spec (L : List Prd) (hd : L.Pairwise (fun p q => leastP p 0 ≠ leastP q 0)) : (sortP L).Perm L ∧ (sortP L).Pairwise keyLt := by
 have key : ∀ (r s : List Prd), s.Pairwise keyLt → (s ++ r).Pairwise (fun p q => leastP p 0 ≠ leastP q 0) → (r.foldl insP s).Perm (s ++ r) ∧ (r.foldl insP s).Pairwise keyLt := by
  intro r
  induction r with
  | nil => intro s h _; simpa using h
  | cons x r ih =>
   intro s h hd
   obtain ⟨d1, d2, d3⟩ := List.pairwise_append.1 hd
   have hi := insP_sorted h (fun y hy => d3 y hy x (by simp))
   have hp := insP_perm s x
   have hp2 : (insP s x ++ r).Perm (s ++ x :: r) := (hp.append_right r).trans (List.perm_middle (l₁ := s) (a := x) (l₂ := r)).symm
   have hd2 : (insP s x ++ r).Pairwise (fun p q => leastP p 0 ≠ leastP q 0) := (hp2.pairwise_iff (fun h => Ne.symm h)).2 hd
   obtain ⟨i1, i2⟩ := ih (insP s x) hi hd2
   rw [List.foldl_cons]
   exact ⟨i1.trans hp2, i2⟩
 have h := key L [] List.Pairwise.nil (by simpa using hd)
 unfold sortP
 simpa using h
def rClassesP (T : Nat) (l : List Prd) : List Prd := sortP (classesP T l)
theorem splitP_nodup {T : Nat} {l L : List Prd} {p : Prd} (h : Prts T l L) (hp : PCk T p) (hd : L.Pairwise (fun a b => ∀ t n, PM a t n → ¬ PM b t n)) : (splitP p L).Pairwise (fun a b => ∀ t n, PM a t n → ¬ PM b t n) := by
 have hrl : (restP p).length = T := by simp [restP, hp.1]
 have hin : ∀ c ∈ L, ∀ q ∈ (if voidP (bothP c p) then [] else [bothP c p]) ++ (if voidP (bothP c (restP p)) then [] else [bothP c (restP p)]), ∀ t n, PM q t n → PM c t n := by
  intro c hc q hq t n hm
  rcases List.mem_append.1 hq with hq | hq
  ·split at hq
   ·cases hq
   ·obtain rfl := List.mem_singleton.1 hq; exact ((PM_both (h.wf c hc).1 hp.1 t n).1 hm).1
  ·split at hq
   ·cases hq
   ·obtain rfl := List.mem_singleton.1 hq; exact ((PM_both (h.wf c hc).1 hrl t n).1 hm).1
 unfold splitP
 rw [List.pairwise_flatMap]
 refine ⟨fun c hc => ?_, ?_⟩
 ·refine List.pairwise_append.2 ⟨by split <;> simp, by split <;> simp, fun a ha b hb t n hm1 hm2 => ?_⟩
  split at ha
  ·cases ha
  ·split at hb
   ·cases hb
   ·obtain rfl := List.mem_singleton.1 ha
    obtain rfl := List.mem_singleton.1 hb
    exact ((PM_rest hp t n).1 ((PM_both (h.wf c hc).1 hrl t n).1 hm2).2).2 ((PM_both (h.wf c hc).1 hp.1 t n).1 hm1).2
 ·exact hd.imp_of_mem (fun {a b} ha hb hab x hx y hy t n hm1 hm2 => hab t n (hin a ha x hx t n hm1) (hin b hb y hy t n hm2))
theorem classes_disj {T : Nat} (hT : 0 < T) {l : List Prd} (hl : ∀ p ∈ l, PCk T p) : (classesP T l).Pairwise (fun a b => ∀ t n, PM a t n → ¬ PM b t n) := by
 have key : ∀ (r d L : List Prd), Prts T d L → (∀ p ∈ r, PCk T p) → L.Pairwise (fun a b => ∀ t n, PM a t n → ¬ PM b t n) → (r.foldl (fun L p => splitP p L) L).Pairwise (fun a b => ∀ t n, PM a t n → ¬ PM b t n) := by
  intro r
  induction r with
  | nil => intro d L _ _ h; simpa using h
  | cons p r ih =>
   intro d L h hr hd
   rw [List.foldl_cons]
   exact ih (d ++ [p]) (splitP p L) (prts_split h (hr p (by simp))) (fun q hq => hr q (by simp [hq])) (splitP_nodup h (hr p (by simp)) hd)
 exact key l [] [wholeP T] (prts_whole T hT) hl (by simp)
theorem rClasses_spec {T : Nat} (hT : 0 < T) {l : List Prd} (hl : ∀ p ∈ l, PCk T p) : Prts T l (rClassesP T l) ∧ (rClassesP T l).Pairwise prLt := by
 have h := prts_classes hT hl
 have hd : (classesP T l).Pairwise (fun p q => leastP p 0 ≠ leastP q 0) := (classes_disj hT hl).imp_of_mem (fun {a b} ha hb hab e => by
  have h1 := (least_spec (h.wf a ha) (h.ne a ha)).1
  have h2 := (least_spec (h.wf b hb) (h.ne b hb)).1
  rw [← e] at h2
  exact hab _ _ h1 h2)
 obtain ⟨h1, h2⟩ := sortP_spec _ hd
 have h3 : Prts T l (rClassesP T l) := h.perm h1.symm
 refine ⟨h3, ?_⟩
 exact h2.imp_of_mem (fun {a b} ha hb hab => prLt_of_least (h3.wf a ha) (h3.ne a ha) (h3.wf b hb) (h3.ne b hb) hab)
end Go.Abs
set_option maxRecDepth 100000
namespace Go.Abs
def setsAt (l : List Prd) (i : Nat) : List Iv := l.flatMap fun p => p.getD i []
def cutsP (l : List Prd) (i : Nat) : List Int := cutsR (⟨-1099511627776, 1099511627776⟩ :: setsAt l i)
def segsI : List Int → List Iv
 | a :: b :: r => ⟨a, b - 1⟩ :: segsI (b :: r)
 | _ => []
def sigP (l : List Prd) (i : Nat) (n : Int) : List Bool := l.map fun p => hasR (p.getD i []) n
def putP (p : Prd) (i : Nat) (x : Iv) : Prd := p.set i (p.getD i [] ++ [x])
def grpPut (T i : Nat) (sg : List Bool) (x : Iv) : List (List Bool × Prd) → List (List Bool × Prd)
 | [] => [(sg, putP (List.replicate T []) i x)]
 | (s, p) :: r => if s = sg then (s, putP p i x) :: r else (s, p) :: grpPut T i sg x r
def pairsP (T : Nat) (l : List Prd) : List (Nat × Iv) := (List.range T).flatMap fun i => (segsI (cutsP l i)).map fun x => (i, x)
def grpAll (T : Nat) (l : List Prd) : List (List Bool × Prd) := (pairsP T l).foldl (fun st a => grpPut T a.1 (sigP l a.1 a.2.lo) a.2 st) []
def tidyP (p : Prd) : Prd := p.map (pushes [])
def pClassesP (T : Nat) (l : List Prd) : List Prd := (grpAll T l).map fun g => tidyP g.2
def inPc (a : Nat × Iv) (t : Nat) (n : Int) : Prop := t = a.1 ∧ a.2.lo ≤ n ∧ n ≤ a.2.hi
structure GInv (T : Nat) (sig : Nat → Int → List Bool) (D : Nat → Int → Prop) (st : List (List Bool × Prd)) : Prop where
 len : ∀ g ∈ st, g.2.length = T
 asc : ∀ g ∈ st, ∀ s ∈ g.2, (∀ x ∈ s, x.lo ≤ x.hi) ∧ s.Pairwise (fun x y => x.hi < y.lo)
 mem : ∀ g ∈ st, ∀ t n, PM g.2 t n ↔ D t n ∧ sig t n = g.1
 ne : ∀ g ∈ st, ∃ t n, PM g.2 t n
 nd : st.Pairwise (fun g h => g.1 ≠ h.1)
 all : ∀ t n, D t n → ∃ g ∈ st, g.1 = sig t n
 ord : st.Pairwise (fun g h => ∃ t n, PM g.2 t n ∧ ∀ t' n', PM h.2 t' n' → syLt t n t' n')
theorem getD_len {p : Prd} {i : Nat} (h : i < p.length) : p.getD i [] = p[i] := by simp [List.getD, h]
theorem PM_put {T : Nat} {p : Prd} (hp : p.length = T) {i : Nat} (hi : i < T) (x : Iv) (t : Nat) (n : Int) : PM (putP p i x) t n ↔ PM p t n ∨ inPc (i, x) t n := by
 unfold PM putP inPc
 have hil : i < p.length := by omega
 rw [getD_len hil]
 by_cases ht : t = i
 ·subst ht
  rw [List.getElem?_set_self hil, List.getElem?_eq_getElem hil]
  constructor
  ·rintro ⟨s, hs, hm⟩
   cases hs
   rcases (M_app ..).1 hm with h | h
   ·exact .inl ⟨_, rfl, h⟩
   ·rcases (M_cons ..).1 h with h | h
    ·exact .inr ⟨rfl, h⟩
    ·simp [M] at h
  ·rintro (⟨s, hs, hm⟩ | ⟨_, h⟩)
   ·cases hs; exact ⟨_, rfl, (M_app ..).2 (.inl hm)⟩
   ·exact ⟨_, rfl, (M_app ..).2 (.inr ((M_cons ..).2 (.inl h)))⟩
 ·rw [List.getElem?_set_ne (by omega)]
  constructor
  ·exact fun h => .inl h
  ·rintro (h | ⟨h, _⟩)
   ·exact h
   ·exact absurd h ht
theorem asc_put {T : Nat} {p : Prd} (hp : p.length = T) {i : Nat} (hi : i < T) {x : Iv} (hx : x.lo ≤ x.hi) (h : ∀ s ∈ p, (∀ y ∈ s, y.lo ≤ y.hi) ∧ s.Pairwise (fun y z => y.hi < z.lo)) (hlt : ∀ t n, PM p t n → syLt t n i x.lo) :
  ∀ s ∈ putP p i x, (∀ y ∈ s, y.lo ≤ y.hi) ∧ s.Pairwise (fun y z => y.hi < z.lo) := by
 intro s hs
 have hil : i < p.length := by omega
 rcases List.mem_or_eq_of_mem_set hs with hs | rfl
 ·exact h s hs
 ·rw [getD_len hil]
  obtain ⟨h1, h2⟩ := h _ (List.getElem_mem hil)
  refine ⟨fun y hy => ?_, List.pairwise_append.2 ⟨h2, by simp, fun y hy z hz => ?_⟩⟩
  ·rcases List.mem_append.1 hy with hy | hy
   ·exact h1 y hy
   ·obtain rfl := List.mem_singleton.1 hy; exact hx
  ·obtain rfl := List.mem_singleton.1 hz
   have := hlt i y.hi ⟨_, List.getElem?_eq_getElem hil, y, hy, h1 y hy, Int.le_refl _⟩
   unfold syLt at this; omega
theorem grpPut_mem {T i : Nat} {sg : List Bool} {x : Iv} : ∀ {st : List (List Bool × Prd)}, (∀ g ∈ st, g.1 ≠ sg) → grpPut T i sg x st = st ++ [(sg, putP (List.replicate T []) i x)]
 | [], _ => rfl
 | (s, p) :: r, h => by
  rw [grpPut, if_neg (h (s, p) (by simp)), grpPut_mem (fun g hg => h g (by simp [hg]))]
  rfl
theorem grpPut_hit {T i : Nat} {sg : List Bool} {x : Iv} : ∀ {st : List (List Bool × Prd)}, (∃ g ∈ st, g.1 = sg) → ∃ a p b, st = a ++ (sg, p) :: b ∧ (∀ g ∈ a, g.1 ≠ sg) ∧ grpPut T i sg x st = a ++ (sg, putP p i x) :: b
 | [], ⟨g, hg, _⟩ => by cases hg
 | (s, p) :: r, ⟨g, hg, he⟩ => by
  by_cases hs : s = sg
  ·subst hs
   exact ⟨[], p, r, rfl, by simp, by rw [grpPut, if_pos rfl]; rfl⟩
  ·have hg' : g ∈ r := by
    rcases List.mem_cons.1 hg with rfl | hg
    ·exact absurd he hs
    ·exact hg
   obtain ⟨a, q, b, h1, h2, h3⟩ := grpPut_hit (T := T) (i := i) (x := x) ⟨g, hg', he⟩
   refine ⟨(s, p) :: a, q, b, by rw [h1]; rfl, fun g hg => ?_, by rw [grpPut, if_neg hs, h3]; rfl⟩
   rcases List.mem_cons.1 hg with rfl | hg
   ·exact hs
   ·exact h2 g hg
theorem PM_empty (T t : Nat) (n : Int) : ¬ PM (List.replicate T []) t n := by
 rintro ⟨s, hs, hm⟩
 obtain rfl := List.eq_of_mem_replicate (List.mem_of_getElem? hs)
 simp [M] at hm
theorem GInv.step {T : Nat} {sig : Nat → Int → List Bool} {D : Nat → Int → Prop} {st : List (List Bool × Prd)} (h : GInv T sig D st) {i : Nat} {x : Iv} (hi : i < T) (hx : x.lo ≤ x.hi) (hc : ∀ n, x.lo ≤ n → n ≤ x.hi → sig i n = sig i x.lo) (hD : ∀ t n, D t n → ∀ n', x.lo ≤ n' → n' ≤ x.hi → syLt t n i n') :
  GInv T sig (fun t n => D t n ∨ inPc (i, x) t n) (grpPut T i (sig i x.lo) x st) := by
 have hsg : ∀ t n, inPc (i, x) t n → sig t n = sig i x.lo := fun t n hp => by obtain ⟨rfl, h1, h2⟩ := hp; exact hc n h1 h2
 have hDx : ∀ t n, D t n → ∀ t' n', inPc (i, x) t' n' → syLt t n t' n' := fun t n hd t' n' hp => by obtain ⟨rfl, h1, h2⟩ := hp; exact hD t n hd n' h1 h2
 have hpx : inPc (i, x) i x.lo := ⟨rfl, Int.le_refl _, hx⟩
 by_cases hit : ∃ g ∈ st, g.1 = sig i x.lo
 ·obtain ⟨a, p, b, h1, h2, h3⟩ := grpPut_hit (T := T) (i := i) (x := x) hit
  rw [h3]
  subst h1
  generalize hs0 : sig i x.lo = s0 at *
  have hpm : (s0, p) ∈ a ++ (s0, p) :: b := by simp
  have hmp := h.mem _ hpm
  have hlen := h.len _ hpm
  have hnd := h.nd
  obtain ⟨n1, n2, n3⟩ := List.pairwise_append.1 hnd
  obtain ⟨n4, n5⟩ := List.pairwise_cons.1 n2
  obtain ⟨o1, o2, o3⟩ := List.pairwise_append.1 h.ord
  obtain ⟨o4, o5⟩ := List.pairwise_cons.1 o2
  have hput := fun t n => PM_put hlen hi x t n
  have hold : ∀ g ∈ a ++ (s0, putP p i x) :: b, (g ∈ a ++ (s0, p) :: b ∧ g.1 ≠ s0) ∨ g = (s0, putP p i x) := fun g hg => by
   rcases List.mem_append.1 hg with hg | hg
   ·exact .inl ⟨by simp [hg], h2 g hg⟩
   ·rcases List.mem_cons.1 hg with rfl | hg
    ·exact .inr rfl
    ·exact .inl ⟨by simp [hg], (n4 g hg).symm⟩
  refine ⟨fun g hg => ?_, fun g hg => ?_, fun g hg t n => ?_, fun g hg => ?_, ?_, fun t n hd => ?_, ?_⟩
  ·rcases hold g hg with ⟨hg, _⟩ | rfl
   ·exact h.len g hg
   ·simp [putP, hlen]
  ·rcases hold g hg with ⟨hg, _⟩ | rfl
   ·exact h.asc g hg
   ·exact asc_put hlen hi hx (h.asc _ hpm) (fun t n hm => hD t n ((hmp t n).1 hm).1 x.lo (Int.le_refl _) hx)
  ·rcases hold g hg with ⟨hg, hne⟩ | rfl
   ·rw [h.mem g hg t n]
    constructor
    ·exact fun hh => ⟨.inl hh.1, hh.2⟩
    ·rintro ⟨hd | hd, hs⟩
     ·exact ⟨hd, hs⟩
     ·exact absurd (by rw [← hs, hsg t n hd]) hne
   ·rw [hput, hmp]
    constructor
    ·rintro (⟨hd, hs⟩ | hd)
     ·exact ⟨.inl hd, hs⟩
     ·exact ⟨.inr hd, hsg t n hd⟩
    ·rintro ⟨hd | hd, hs⟩
     ·exact .inl ⟨hd, hs⟩
     ·exact .inr hd
  ·rcases hold g hg with ⟨hg, _⟩ | rfl
   ·exact h.ne g hg
   ·exact ⟨i, x.lo, (hput i x.lo).2 (.inr hpx)⟩
  ·exact List.pairwise_append.2 ⟨n1, List.pairwise_cons.2 ⟨fun g hg => n4 g hg, n5⟩, fun g hg k hk => by
    rcases List.mem_cons.1 hk with rfl | hk
    ·exact h2 g hg
    ·exact n3 g hg k (by simp [hk])⟩
  ·rcases hd with hd | hd
   ·obtain ⟨g, hg, he⟩ := h.all t n hd
    rcases List.mem_append.1 hg with hg | hg
    ·exact ⟨g, by simp [hg], he⟩
    ·rcases List.mem_cons.1 hg with rfl | hg
     ·exact ⟨(s0, putP p i x), by simp, he⟩
     ·exact ⟨g, by simp [hg], he⟩
   ·exact ⟨(s0, putP p i x), by simp, (hsg t n hd).symm⟩
  ·refine List.pairwise_append.2 ⟨o1, List.pairwise_cons.2 ⟨fun g hg => ?_, o5⟩, fun g hg k hk => ?_⟩
   ·obtain ⟨t, n, e1, e2⟩ := o4 g hg
    exact ⟨t, n, (hput t n).2 (.inl e1), e2⟩
   ·rcases List.mem_cons.1 hk with rfl | hk
    ·obtain ⟨t, n, e1, e2⟩ := o3 g hg (s0, p) (by simp)
     refine ⟨t, n, e1, fun t' n' hm => ?_⟩
     rcases (hput t' n').1 hm with hm | hm
     ·exact e2 t' n' hm
     ·exact hDx t n ((h.mem g (by simp [hg]) t n).1 e1).1 t' n' hm
    ·exact o3 g hg k (by simp [hk])
 ·have hno : ∀ g ∈ st, g.1 ≠ sig i x.lo := fun g hg he => hit ⟨g, hg, he⟩
  rw [grpPut_mem hno]
  have hel : (List.replicate T ([] : List Iv)).length = T := by simp
  have hput := fun t n => PM_put hel hi x t n
  have hcase : ∀ g ∈ st ++ [(sig i x.lo, putP (List.replicate T []) i x)], g ∈ st ∨ g = (sig i x.lo, putP (List.replicate T []) i x) := fun g hg => by
   rcases List.mem_append.1 hg with hg | hg
   ·exact .inl hg
   ·exact .inr (List.mem_singleton.1 hg)
  refine ⟨fun g hg => ?_, fun g hg => ?_, fun g hg t n => ?_, fun g hg => ?_, ?_, fun t n hd => ?_, ?_⟩
  ·rcases hcase g hg with hg | rfl
   ·exact h.len g hg
   ·simp [putP]
  ·rcases hcase g hg with hg | rfl
   ·exact h.asc g hg
   ·exact asc_put hel hi hx (fun s hs => by obtain rfl := List.eq_of_mem_replicate hs; simp) (fun t n hm => absurd hm (PM_empty T t n))
  ·rcases hcase g hg with hg | rfl
   ·rw [h.mem g hg t n]
    constructor
    ·exact fun hh => ⟨.inl hh.1, hh.2⟩
    ·rintro ⟨hd | hd, hs⟩
     ·exact ⟨hd, hs⟩
     ·exact absurd (by rw [← hs, hsg t n hd]) (hno g hg)
   ·rw [hput]
    constructor
    ·rintro (hm | hd)
     ·exact absurd hm (PM_empty T t n)
     ·exact ⟨.inr hd, hsg t n hd⟩
    ·rintro ⟨hd | hd, hs⟩
     ·obtain ⟨g, hg, he⟩ := h.all t n hd
      exact absurd (he.trans hs) (hno g hg)
     ·exact .inr hd
  ·rcases hcase g hg with hg | rfl
   ·exact h.ne g hg
   ·exact ⟨i, x.lo, (hput i x.lo).2 (.inr hpx)⟩
  ·exact List.pairwise_append.2 ⟨h.nd, by simp, fun g hg k hk => by obtain rfl := List.mem_singleton.1 hk; exact hno g hg⟩
  ·rcases hd with hd | hd
   ·obtain ⟨g, hg, he⟩ := h.all t n hd
    exact ⟨g, by simp [hg], he⟩
   ·exact ⟨(sig i x.lo, putP (List.replicate T []) i x), by simp, (hsg t n hd).symm⟩
  ·refine List.pairwise_append.2 ⟨h.ord, by simp, fun g hg k hk => ?_⟩
   obtain rfl := List.mem_singleton.1 hk
   obtain ⟨t, n, e1⟩ := h.ne g hg
   refine ⟨t, n, e1, fun t' n' hm => ?_⟩
   rcases (hput t' n').1 hm with hm | hm
   ·exact absurd hm (PM_empty T t' n')
   ·exact hDx t n ((h.mem g hg t n).1 e1).1 t' n' hm
end Go.Abs
set_option maxRecDepth 100000
namespace Go.Abs
theorem segs_mem : ∀ (cs : List Int), cs.Pairwise (· < ·) → ∀ x ∈ segsI cs, x.lo ≤ x.hi ∧ x.lo ∈ cs ∧ x.hi + 1 ∈ cs ∧ ∀ d ∈ cs, d ≤ x.hi → d ≤ x.lo
 | [], _, x, hx => by simp [segsI] at hx
 | [a], _, x, hx => by simp [segsI] at hx
 | a :: b :: r, h, x, hx => by
  obtain ⟨h1, h2⟩ := List.pairwise_cons.1 h
  rw [segsI] at hx
  rcases List.mem_cons.1 hx with rfl | hx
  ·have hab := h1 b (by simp)
   refine ⟨by simp only; omega, by simp, by simp, fun d hd hle => ?_⟩
   simp only at hle ⊢
   rcases List.mem_cons.1 hd with rfl | hd
   ·omega
   ·have : b ≤ d := by
     rcases List.mem_cons.1 hd with rfl | hd
     ·omega
     ·have := (List.pairwise_cons.1 h2).1 d hd; omega
    omega
  ·obtain ⟨k1, k2, k3, k4⟩ := segs_mem (b :: r) h2 x hx
   refine ⟨k1, by simp only [List.mem_cons] at k2 ⊢; exact .inr k2, by simp only [List.mem_cons] at k3 ⊢; exact .inr k3, fun d hd hle => ?_⟩
   rcases List.mem_cons.1 hd with rfl | hd
   ·have := h1 x.lo k2; omega
   ·exact k4 d hd hle
theorem segs_asc : ∀ (cs : List Int), cs.Pairwise (· < ·) → (segsI cs).Pairwise (fun x y => x.hi < y.lo)
 | [], _ => by simp [segsI]
 | [a], _ => by simp [segsI]
 | a :: b :: r, h => by
  obtain ⟨h1, h2⟩ := List.pairwise_cons.1 h
  rw [segsI]
  refine List.pairwise_cons.2 ⟨fun y hy => ?_, segs_asc (b :: r) h2⟩
  obtain ⟨_, k2, _, _⟩ := segs_mem (b :: r) h2 y hy
  have : b ≤ y.lo := by
   rcases List.mem_cons.1 k2 with e | k2
   ·omega
   ·have := (List.pairwise_cons.1 h2).1 y.lo k2; omega
  simp only
  omega
theorem segs_cover : ∀ (cs : List Int), cs.Pairwise (· < ·) → ∀ n, (∃ a ∈ cs, a ≤ n) → (∃ b ∈ cs, n < b) → ∃ x ∈ segsI cs, x.lo ≤ n ∧ n ≤ x.hi
 | [], _, n, ⟨a, ha, _⟩, _ => by cases ha
 | [a], _, n, ⟨c, hc, h1⟩, ⟨d, hd, h2⟩ => by
  obtain rfl := List.mem_singleton.1 hc
  obtain rfl := List.mem_singleton.1 hd
  omega
 | a :: b :: r, h, n, ⟨c, hc, h1⟩, ⟨d, hd, h2⟩ => by
  obtain ⟨p1, p2⟩ := List.pairwise_cons.1 h
  rw [segsI]
  have hac : a ≤ n := by
   rcases List.mem_cons.1 hc with rfl | hc
   ·exact h1
   ·have := p1 c hc; omega
  by_cases hb : n < b
  ·exact ⟨⟨a, b - 1⟩, by simp, hac, by simp only; omega⟩
  ·have hd' : d ∈ b :: r := by
    rcases List.mem_cons.1 hd with rfl | hd
    ·omega
    ·exact hd
   obtain ⟨x, hx, e⟩ := segs_cover (b :: r) p2 n ⟨b, by simp, by omega⟩ ⟨d, hd', h2⟩
   exact ⟨x, by simp [hx], e⟩
theorem mem_setsAt {l : List Prd} {i : Nat} {x : Iv} : x ∈ setsAt l i ↔ ∃ p ∈ l, x ∈ p.getD i [] := by simp [setsAt]
theorem getD_mem {T : Nat} {p : Prd} (hp : PCk T p) (i : Nat) : CanonL (p.getD i []) := by
 by_cases hi : i < p.length
 ·rw [getD_len hi]; exact hp.2 _ (List.getElem_mem hi)
 ·have : p.getD i [] = [] := by simp [List.getD, List.getElem?_eq_none (by omega : p.length ≤ i)]
  rw [this]; exact canon_nil
theorem cutsP_spec {T : Nat} {l : List Prd} (hl : ∀ p ∈ l, PCk T p) (i : Nat) : (cutsP l i).Pairwise (· < ·) ∧ (-1099511627776 : Int) ∈ cutsP l i ∧ (1099511627777 : Int) ∈ cutsP l i ∧
  (∀ z ∈ cutsP l i, -1099511627776 ≤ z ∧ z ≤ 1099511627777) ∧ ∀ p ∈ l, ∀ x ∈ p.getD i [], x.lo ∈ cutsP l i ∧ x.hi + 1 ∈ cutsP l i := by
 obtain ⟨h1, h2⟩ := cuts_spec (⟨-1099511627776, 1099511627776⟩ :: setsAt l i)
 refine ⟨h1, (h2 _).2 ⟨⟨-1099511627776, 1099511627776⟩, by simp, .inl rfl⟩, (h2 _).2 ⟨⟨-1099511627776, 1099511627776⟩, by simp, .inr (by simp)⟩, fun z hz => ?_, fun p hp x hx => ⟨(h2 _).2 ⟨x, ?_, .inl rfl⟩, (h2 _).2 ⟨x, ?_, .inr rfl⟩⟩⟩
 ·obtain ⟨x, hx, e⟩ := (h2 z).1 hz
  rcases List.mem_cons.1 hx with rfl | hx
  ·simp only at e; omega
  ·obtain ⟨p, hp, hx⟩ := mem_setsAt.1 hx
   have hc := getD_mem (hl p hp) i
   have h3 := canon_in hc x hx
   have h4 := (inB_iff _).1 h3.1
   have h5 := (inB_iff _).1 h3.2
   have := (canon_sep hc).1 x hx
   omega
 ·exact List.mem_cons_of_mem _ (mem_setsAt.2 ⟨p, hp, hx⟩)
 ·exact List.mem_cons_of_mem _ (mem_setsAt.2 ⟨p, hp, hx⟩)
theorem sig_const {T : Nat} {l : List Prd} (hl : ∀ p ∈ l, PCk T p) (i : Nat) {x : Iv} (hx : x ∈ segsI (cutsP l i)) (n : Int) (h1 : x.lo ≤ n) (h2 : n ≤ x.hi) : sigP l i n = sigP l i x.lo := by
 obtain ⟨c1, _, _, _, c5⟩ := cutsP_spec hl i
 obtain ⟨_, _, _, k4⟩ := segs_mem _ c1 x hx
 unfold sigP
 apply List.map_congr_left
 intro p hp
 exact has_const _ (cutsP l i) (c5 p hp) x.lo n h1 (fun d hd hle => k4 d hd (by omega))
theorem has_PM {T : Nat} {p : Prd} (hp : p.length = T) {t : Nat} (ht : t < T) (n : Int) : hasR (p.getD t []) n = true ↔ PM p t n := by
 have hil : t < p.length := by omega
 rw [getD_len hil, has_iff]
 unfold PM
 rw [List.getElem?_eq_getElem hil]
 simp
theorem sig_eq {T : Nat} {l : List Prd} (hl : ∀ p ∈ l, PCk T p) {t t' : Nat} (ht : t < T) (ht' : t' < T) (n n' : Int) : sigP l t n = sigP l t' n' ↔ sgEq l t n t' n' := by
 unfold sigP sgEq
 constructor
 ·intro h p hp
  have := (List.map_inj_left.1 h) p hp
  rw [← has_PM (hl p hp).1 ht, ← has_PM (hl p hp).1 ht', this]
 ·intro h
  apply List.map_congr_left
  intro p hp
  have := h p hp
  rw [← has_PM (hl p hp).1 ht, ← has_PM (hl p hp).1 ht'] at this
  exact Bool.eq_iff_iff.2 this
theorem GInv.congr {T : Nat} {sig : Nat → Int → List Bool} {D D' : Nat → Int → Prop} {st : List (List Bool × Prd)} (h : GInv T sig D st) (e : ∀ t n, D t n ↔ D' t n) : GInv T sig D' st := by
 have : D = D' := funext fun t => funext fun n => propext (e t n)
 rw [← this]; exact h
theorem ginv_fold {T : Nat} {sig : Nat → Int → List Bool} : ∀ (A : List (Nat × Iv)) (D : Nat → Int → Prop) (st : List (List Bool × Prd)), GInv T sig D st → (∀ a ∈ A, a.1 < T ∧ a.2.lo ≤ a.2.hi ∧ ∀ n, a.2.lo ≤ n → n ≤ a.2.hi → sig a.1 n = sig a.1 a.2.lo) →
  (∀ t n, D t n → ∀ a ∈ A, ∀ n', a.2.lo ≤ n' → n' ≤ a.2.hi → syLt t n a.1 n') → A.Pairwise (fun a b => ∀ n n', a.2.lo ≤ n → n ≤ a.2.hi → b.2.lo ≤ n' → n' ≤ b.2.hi → syLt a.1 n b.1 n') →
  GInv T sig (fun t n => D t n ∨ ∃ a ∈ A, inPc a t n) (A.foldl (fun st a => grpPut T a.1 (sig a.1 a.2.lo) a.2 st) st)
 | [], D, st, h, _, _, _ => h.congr (fun t n => by simp)
 | a :: A, D, st, h, h1, h2, h3 => by
  obtain ⟨i, x⟩ := a
  obtain ⟨e1, e2, e3⟩ := h1 (i, x) (by simp)
  obtain ⟨p1, p2⟩ := List.pairwise_cons.1 h3
  have hs := h.step e1 e2 e3 (fun t n hd n' q1 q2 => h2 t n hd (i, x) (by simp) n' q1 q2)
  rw [List.foldl_cons]
  refine (ginv_fold A _ _ hs (fun b hb => h1 b (by simp [hb])) (fun t n hd b hb n' q1 q2 => ?_) p2).congr (fun t n => ?_)
  ·rcases hd with hd | hd
   ·exact h2 t n hd b (by simp [hb]) n' q1 q2
   ·obtain ⟨rfl, d1, d2⟩ := hd
    exact p1 b hb n n' d1 d2 q1 q2
  ·simp [or_assoc]
theorem pairs_mem {T : Nat} {l : List Prd} {a : Nat × Iv} : a ∈ pairsP T l ↔ a.1 < T ∧ a.2 ∈ segsI (cutsP l a.1) := by
 unfold pairsP
 rw [List.mem_flatMap]
 constructor
 ·rintro ⟨i, hi, h⟩
  obtain ⟨x, hx, rfl⟩ := List.mem_map.1 h
  exact ⟨List.mem_range.1 hi, hx⟩
 ·rintro ⟨h1, h2⟩
  exact ⟨a.1, List.mem_range.2 h1, List.mem_map.2 ⟨a.2, h2, rfl⟩⟩
theorem pairs_asc {T : Nat} {l : List Prd} (hl : ∀ p ∈ l, PCk T p) : (pairsP T l).Pairwise (fun a b => ∀ n n', a.2.lo ≤ n → n ≤ a.2.hi → b.2.lo ≤ n' → n' ≤ b.2.hi → syLt a.1 n b.1 n') := by
 unfold pairsP
 rw [List.pairwise_flatMap]
 refine ⟨fun i _ => ?_, ?_⟩
 ·rw [List.pairwise_map]
  refine (segs_asc _ (cutsP_spec hl i).1).imp (fun {x y} h n n' h1 h2 h3 h4 => .inr ⟨rfl, by simp only at h2 h3; omega⟩)
 ·refine List.pairwise_lt_range.imp (fun {i j} h a ha b hb n n' _ _ _ _ => ?_)
  obtain ⟨x, _, rfl⟩ := List.mem_map.1 ha
  obtain ⟨y, _, rfl⟩ := List.mem_map.1 hb
  exact .inl h
theorem grp_inv {T : Nat} {l : List Prd} (hl : ∀ p ∈ l, PCk T p) : GInv T (sigP l) (fun t n => t < T ∧ inR n) (grpAll T l) := by
 have h0 : GInv T (sigP l) (fun _ _ => False) [] := ⟨by simp, by simp, by simp, by simp, by simp, fun _ _ h => h.elim, by simp⟩
 refine (ginv_fold (pairsP T l) _ [] h0 (fun a ha => ?_) (fun _ _ h => h.elim) (pairs_asc hl)).congr (fun t n => ?_)
 ·obtain ⟨h1, h2⟩ := pairs_mem.1 ha
  exact ⟨h1, (segs_mem _ (cutsP_spec hl a.1).1 _ h2).1, fun n q1 q2 => sig_const hl a.1 h2 n q1 q2⟩
 ·obtain ⟨c1, c2, c3, c4, c5⟩ := cutsP_spec hl t
  constructor
  ·rintro (h | ⟨a, ha, rfl, h1, h2⟩)
   ·exact h.elim
   ·obtain ⟨q1, q2⟩ := pairs_mem.1 ha
    obtain ⟨s1, s2, s3, s4⟩ := segs_mem _ c1 _ q2
    have := c4 _ s2
    have := c4 _ s3
    exact ⟨q1, by unfold inR; omega⟩
  ·rintro ⟨h1, h2⟩
   unfold inR at h2
   obtain ⟨x, hx, e1, e2⟩ := segs_cover _ c1 n ⟨_, c2, h2.1⟩ ⟨_, c3, by omega⟩
   exact .inr ⟨(t, x), pairs_mem.2 ⟨h1, hx⟩, rfl, e1, e2⟩
theorem pushes_asc {s : List Iv} (h : (∀ x ∈ s, x.lo ≤ x.hi) ∧ s.Pairwise (fun x y => x.hi < y.lo)) : Sep (pushes [] s) ∧ ∀ n, M (pushes [] s) n ↔ M s n := by
 have hb : byLo s := h.2.imp_of_mem (fun {x y} hx hy hxy => by have := h.1 x hx; omega)
 have := pushes_sep s [] sep_nil hb h.1 (by simp)
 refine ⟨this.1, fun n => ?_⟩
 rw [this.2 n]
 simp [M]
theorem PM_tidy {T : Nat} {p : Prd} (h : ∀ s ∈ p, (∀ x ∈ s, x.lo ≤ x.hi) ∧ s.Pairwise (fun x y => x.hi < y.lo)) (t : Nat) (n : Int) : PM (tidyP p) t n ↔ PM p t n := by
 unfold PM tidyP
 rw [List.getElem?_map]
 constructor
 ·rintro ⟨s, hs, hm⟩
  obtain ⟨a, ha, rfl⟩ := Option.map_eq_some_iff.1 hs
  exact ⟨a, ha, ((pushes_asc (h a (List.mem_of_getElem? ha))).2 n).1 hm⟩
 ·rintro ⟨a, ha, hm⟩
  exact ⟨pushes [] a, by rw [ha]; rfl, ((pushes_asc (h a (List.mem_of_getElem? ha))).2 n).2 hm⟩
theorem pClasses_spec {T : Nat} {l : List Prd} (hl : ∀ p ∈ l, PCk T p) : Prts T l (pClassesP T l) ∧ (pClassesP T l).Pairwise prLt := by
 have h := grp_inv hl
 have hpm : ∀ g ∈ grpAll T l, ∀ t n, PM (tidyP g.2) t n ↔ (t < T ∧ inR n) ∧ sigP l t n = g.1 := fun g hg t n => by rw [PM_tidy (T := T) (h.asc g hg), h.mem g hg]
 have hof : ∀ p ∈ pClassesP T l, ∃ g ∈ grpAll T l, p = tidyP g.2 := fun p hp => by
  obtain ⟨g, hg, rfl⟩ := List.mem_map.1 hp
  exact ⟨g, hg, rfl⟩
 refine ⟨⟨fun p hp => ?_, fun p hp => ?_, fun t n ht hn => ?_, fun p hp t n hm t' n' => ?_⟩, ?_⟩
 ·obtain ⟨g, hg, rfl⟩ := hof p hp
  refine ⟨by simp [tidyP, h.len g hg], fun s hs => ?_⟩
  obtain ⟨i, hi⟩ := List.mem_iff_getElem?.1 hs
  have hs' := hs
  obtain ⟨a, ha, rfl⟩ := List.mem_map.1 hs
  exact ⟨(pushes_asc (h.asc g hg a ha)).1, fun n hn => ((hpm g hg i n).1 ⟨_, hi, hn⟩).1.2⟩
 ·obtain ⟨g, hg, rfl⟩ := hof p hp
  obtain ⟨t, n, hm⟩ := h.ne g hg
  exact ⟨t, n, (PM_tidy (T := T) (h.asc g hg) t n).2 hm⟩
 ·obtain ⟨g, hg, he⟩ := h.all t n ⟨ht, hn⟩
  exact ⟨tidyP g.2, List.mem_map.2 ⟨g, hg, rfl⟩, (hpm g hg t n).2 ⟨⟨ht, hn⟩, he.symm⟩⟩
 ·obtain ⟨g, hg, rfl⟩ := hof p hp
  obtain ⟨⟨q1, q2⟩, q3⟩ := (hpm g hg t n).1 hm
  rw [hpm g hg]
  constructor
  ·rintro ⟨⟨h1, h2⟩, h3⟩
   exact ⟨h1, h2, (sig_eq hl q1 h1 n n').1 (q3.trans h3.symm)⟩
  ·rintro ⟨h1, h2, h3⟩
   exact ⟨⟨h1, h2⟩, ((sig_eq hl q1 h1 n n').2 h3).symm.trans q3⟩
 ·unfold pClassesP
  rw [List.pairwise_map]
  refine h.ord.imp_of_mem (fun {a b} ha hb hab => ?_)
  obtain ⟨t, n, e1, e2⟩ := hab
  exact ⟨t, n, (PM_tidy (T := T) (h.asc a ha) t n).2 e1, fun t' n' hm => e2 t' n' ((PM_tidy (T := T) (h.asc b hb) t' n').1 hm)⟩
theorem classes_eq {T : Nat} (hT : 0 < T) {l : List Prd} (hl : ∀ p ∈ l, PCk T p) : pClassesP T l = rClassesP T l := by
 obtain ⟨a1, a2⟩ := pClasses_spec hl
 obtain ⟨b1, b2⟩ := rClasses_spec hT hl
 exact a1.unique b1 a2 b2
end Go.Abs
set_option maxRecDepth 100000
namespace Go.Abs
structure Sy where
 ty : Int
 num : Int
deriving Inhabited, DecidableEq
structure Mv where
 src : Int
 dst : Int
 on : Prd
deriving Inhabited
structure Aut where
 types : Int
 fin : List Bool
 mv : List Mv
deriving Inhabited
def zeroA : Aut := ⟨0, [], []⟩
def ckPs : List (List Iv) → Int
 | [] => 0
 | s :: r => if ckR s ≠ 0 then ckR s else ckPs r
def ckPrd (T : Int) (p : Prd) : Int := if T < 1 ∨ 16 < T then 2 else if (p.length : Int) ≠ T then 15 else ckPs p
def ckMv (T : Int) (n : Nat) : List Mv → Int
 | [] => 0
 | m :: r => if ¬ ((0 ≤ m.src ∧ m.src < n) ∧ (0 ≤ m.dst ∧ m.dst < n)) then 2 else if ckPrd T m.on ≠ 0 then ckPrd T m.on else ckMv T n r
def ckAut (a : Aut) : Int := if a.types < 1 ∨ 16 < a.types then 2 else if a.fin.length < 1 ∨ 256 < a.fin.length ∨ 2048 < a.mv.length then 5 else ckMv a.types a.fin.length a.mv
theorem ckPs_iff : ∀ (p : List (List Iv)), ckPs p = 0 ↔ ∀ s ∈ p, CanonL s
 | [] => by simp [ckPs]
 | s :: r => by
  rw [ckPs]
  by_cases h : ckR s = 0
  ·rw [if_neg (fun k => k h), ckPs_iff r]
   simp [(ck_iff s).1 h]
  ·rw [if_pos h]
   refine ⟨fun k => absurd k h, fun k => absurd ((ck_iff s).2 (k s (by simp))) h⟩
theorem ckPrd_iff (T : Int) (p : Prd) : ckPrd T p = 0 ↔ (1 ≤ T ∧ T ≤ 16) ∧ PCk T.toNat p := by
 unfold ckPrd PCk
 by_cases h1 : T < 1 ∨ 16 < T
 ·rw [if_pos h1]
  exact ⟨fun h => by omega, fun h => by omega⟩
 ·rw [if_neg h1]
  by_cases h2 : (p.length : Int) ≠ T
  ·rw [if_pos h2]
   exact ⟨fun h => by omega, fun h => by omega⟩
  ·rw [if_neg h2, ckPs_iff]
   exact ⟨fun h => ⟨by omega, by omega, h⟩, fun h => h.2.2⟩
structure OkMv (T : Nat) (n : Nat) (m : Mv) : Prop where
 src : 0 ≤ m.src ∧ m.src < n
 dst : 0 ≤ m.dst ∧ m.dst < n
 on : PCk T m.on
structure OkA (a : Aut) : Prop where
 types : 1 ≤ a.types ∧ a.types ≤ 16
 fin : 1 ≤ a.fin.length ∧ a.fin.length ≤ 256
 mvs : a.mv.length ≤ 2048
 mv : ∀ m ∈ a.mv, OkMv a.types.toNat a.fin.length m
theorem ckMv_iff {T : Int} (hT : 1 ≤ T ∧ T ≤ 16) (n : Nat) : ∀ (l : List Mv), ckMv T n l = 0 ↔ ∀ m ∈ l, OkMv T.toNat n m
 | [] => by simp [ckMv]
 | m :: r => by
  rw [ckMv]
  by_cases h1 : (0 ≤ m.src ∧ m.src < n) ∧ (0 ≤ m.dst ∧ m.dst < n)
  ·rw [if_neg (fun k => k h1)]
   by_cases h2 : ckPrd T m.on = 0
   ·rw [if_neg (fun k => k h2), ckMv_iff hT n r]
    have h3 := ((ckPrd_iff T m.on).1 h2).2
    constructor
    ·intro h x hx
     rcases List.mem_cons.1 hx with rfl | hx
     ·exact ⟨h1.1, h1.2, h3⟩
     ·exact h x hx
    ·exact fun h x hx => h x (by simp [hx])
   ·rw [if_pos h2]
    exact ⟨fun h => absurd h h2, fun h => absurd ((ckPrd_iff T m.on).2 ⟨hT, (h m (by simp)).on⟩) h2⟩
  ·rw [if_pos h1]
   exact ⟨fun h => (by cases h), fun h => absurd ⟨(h m (by simp)).src, (h m (by simp)).dst⟩ h1⟩
theorem ck_ok (a : Aut) : ckAut a = 0 ↔ OkA a := by
 unfold ckAut
 by_cases h1 : a.types < 1 ∨ 16 < a.types
 ·rw [if_pos h1]
  exact ⟨fun h => (by cases h), fun h => by have := h.types; omega⟩
 ·rw [if_neg h1]
  by_cases h2 : a.fin.length < 1 ∨ 256 < a.fin.length ∨ 2048 < a.mv.length
  ·rw [if_pos h2]
   exact ⟨fun h => (by cases h), fun h => by have := h.fin; have := h.mvs; omega⟩
  ·rw [if_neg h2, ckMv_iff (by omega)]
   exact ⟨fun h => ⟨by omega, by omega, by omega, h⟩, fun h => h.mv⟩
def hasS (p : Prd) (x : Sy) : Bool := decide (0 ≤ x.ty) && decide (x.ty < p.length) && hasR (p.getD x.ty.toNat []) x.num
def ckSy (T : Int) (x : Sy) : Int := if x.ty < 0 ∨ T ≤ x.ty then 6 else if x.num < -1099511627776 ∨ 1099511627776 < x.num then 2 else 0
theorem ckSy_iff (T : Int) (x : Sy) : ckSy T x = 0 ↔ (0 ≤ x.ty ∧ x.ty < T) ∧ inR x.num := by
 unfold ckSy inR
 split
 ·constructor
  ·intro h; cases h
  ·intro h; omega
 ·split
  ·constructor
   ·intro h; cases h
   ·intro h; omega
  ·constructor
   ·intro _; omega
   ·intro _; rfl
theorem hasS_PM {T : Nat} {p : Prd} (hp : p.length = T) (x : Sy) (hx : 0 ≤ x.ty) : hasS p x = true ↔ PM p x.ty.toNat x.num := by
 unfold hasS
 by_cases h : x.ty < p.length
 ·have h1 : x.ty.toNat < T := by omega
  rw [← has_PM hp h1]
  simp [h, hx]
 ·have : ¬ PM p x.ty.toNat x.num := by
   rintro ⟨s, hs, _⟩
   have := (List.getElem?_eq_some_iff.1 hs).1
   omega
  simp [h, this]
def rangeI (n : Nat) : List Int := (List.range n).map fun i : Nat => (i : Int)
theorem mem_rangeI {n : Nat} {z : Int} : z ∈ rangeI n ↔ 0 ≤ z ∧ z < n := by
 unfold rangeI
 rw [List.mem_map]
 constructor
 ·rintro ⟨i, hi, rfl⟩
  have := List.mem_range.1 hi
  omega
 ·rintro ⟨h1, h2⟩
  exact ⟨z.toNat, List.mem_range.2 (by omega), by omega⟩
theorem rangeI_lt (n : Nat) : (rangeI n).Pairwise (· < ·) := by
 unfold rangeI
 rw [List.pairwise_map]
 exact List.pairwise_lt_range.imp (fun h => by omega)
def stepB (a : Aut) (l : List Int) (x : Sy) (j : Int) : Bool := a.mv.any fun m => l.contains m.src && hasS m.on x && decide (m.dst = j)
def nextL (a : Aut) (l : List Int) (x : Sy) : List Int := (rangeI a.fin.length).filter (stepB a l x)
def nextP (a : Aut) (l : List Int) (x : Sy) : List Int := Go.Lib.compact (sortI ((a.mv.filter fun m => l.contains m.src && hasS m.on x).map (·.dst)))
theorem sortI_le (zs : List Int) : (sortI zs).Pairwise (· ≤ ·) := by
 have := List.pairwise_mergeSort (le := fun x y : Int => decide (x ≤ y)) (fun a b c h1 h2 => by simp at h1 h2 ⊢; omega) (fun a b => by simp; omega) zs
 simpa [sortI] using this
theorem compact_spec (zs : List Int) : (Go.Lib.compact (sortI zs)).Pairwise (· < ·) ∧ ∀ z, z ∈ Go.Lib.compact (sortI zs) ↔ z ∈ zs := by
 have h := upto_spec _ (sortI_le zs) _ (Nat.le_refl _)
 refine ⟨h.1, fun z => ?_⟩
 have h2 := h.2 z
 rw [List.take_length] at h2
 rw [Go.Lib.compact, h2, sortI, List.mem_mergeSort]
theorem strict_ext {a b : List Int} (ha : a.Pairwise (· < ·)) (hb : b.Pairwise (· < ·)) (h : ∀ z, z ∈ a ↔ z ∈ b) : a = b := by
 have hn : ∀ {l : List Int}, l.Pairwise (· < ·) → l.Nodup := fun hl => hl.imp (fun h e => by omega)
 exact List.Perm.eq_of_pairwise (le := (· < ·)) (fun a b _ _ h1 h2 => by omega) ha hb ((List.perm_ext_iff_of_nodup (hn ha) (hn hb)).2 h)
theorem nextL_lt (a : Aut) (l : List Int) (x : Sy) : (nextL a l x).Pairwise (· < ·) := (rangeI_lt _).filter _
theorem mem_nextL {a : Aut} {l : List Int} {x : Sy} {j : Int} : j ∈ nextL a l x ↔ (0 ≤ j ∧ j < a.fin.length) ∧ ∃ m ∈ a.mv, m.src ∈ l ∧ hasS m.on x = true ∧ m.dst = j := by
 unfold nextL stepB
 rw [List.mem_filter, mem_rangeI, List.any_eq_true]
 simp [and_assoc]
theorem next_eq {a : Aut} (h : ∀ m ∈ a.mv, 0 ≤ m.dst ∧ m.dst < a.fin.length) (l : List Int) (x : Sy) : nextP a l x = nextL a l x := by
 obtain ⟨h1, h2⟩ := compact_spec ((a.mv.filter fun m => l.contains m.src && hasS m.on x).map (·.dst))
 refine strict_ext h1 (nextL_lt a l x) fun z => ?_
 rw [nextP, h2, mem_nextL]
 constructor
 ·intro hz
  obtain ⟨m, hm, rfl⟩ := List.mem_map.1 hz
  obtain ⟨hm, hc⟩ := List.mem_filter.1 hm
  simp at hc
  exact ⟨h m hm, m, hm, hc.1, hc.2, rfl⟩
 ·rintro ⟨_, m, hm, c1, c2, rfl⟩
  exact List.mem_map.2 ⟨m, List.mem_filter.2 ⟨hm, by simp [c1, c2]⟩, rfl⟩
theorem nextL_in {a : Aut} {l : List Int} {x : Sy} : ∀ j ∈ nextL a l x, 0 ≤ j ∧ j < a.fin.length := fun j hj => (mem_nextL.1 hj).1
def leastS (p : Prd) : Sy := ⟨(leastP p 0).1, (leastP p 0).2⟩
def addS (Q : List (List Int)) (x : List Int) : List (List Int) := if x = [] ∨ x ∈ Q then Q else Q ++ [x]
def roundS (Q : List (List Int)) (xs : List (List Int)) : List (List Int) := xs.foldl addS Q
def succS (a : Aut) (cl : List Prd) (l : List Int) : List (List Int) := cl.map fun c => nextL a l (leastS c)
def bfsS (a : Aut) (cl : List Prd) : Nat → Nat → List (List Int) → Option (List (List Int))
 | 0, _, _ => none
 | f + 1, i, Q => match Q[i]? with
  | some l => if 256 < (roundS Q (succS a cl l)).length then none else bfsS a cl f (i + 1) (roundS Q (succS a cl l))
  | none => some Q
theorem addS_pre (Q : List (List Int)) (x : List Int) : ∃ R, addS Q x = Q ++ R ∧ ∀ y ∈ R, y = x ∧ x ≠ [] := by
 unfold addS
 split
 ·exact ⟨[], by simp, by simp⟩
 ·rename_i h
  exact ⟨[x], rfl, fun y hy => ⟨List.mem_singleton.1 hy, fun e => h (.inl e)⟩⟩
theorem roundS_pre : ∀ (xs : List (List Int)) (Q : List (List Int)), ∃ R, roundS Q xs = Q ++ R ∧ ∀ y ∈ R, y ∈ xs ∧ y ≠ []
 | [], Q => ⟨[], by simp [roundS], by simp⟩
 | x :: xs, Q => by
  obtain ⟨R1, h1, h2⟩ := addS_pre Q x
  obtain ⟨R2, h3, h4⟩ := roundS_pre xs (addS Q x)
  refine ⟨R1 ++ R2, ?_, fun y hy => ?_⟩
  ·show roundS (addS Q x) xs = _
   rw [h3, h1, List.append_assoc]
  ·rcases List.mem_append.1 hy with hy | hy
   ·obtain ⟨rfl, hn⟩ := h2 y hy
    exact ⟨by simp, hn⟩
   ·exact ⟨by simp [(h4 y hy).1], (h4 y hy).2⟩
theorem roundS_len (Q xs : List (List Int)) : Q.length ≤ (roundS Q xs).length := by
 obtain ⟨R, h, _⟩ := roundS_pre xs Q
 rw [h]; simp
theorem mem_addS {Q : List (List Int)} {x : List Int} (hx : x ≠ []) : x ∈ addS Q x := by
 unfold addS
 split
 ·rename_i h
  rcases h with h | h
  ·exact absurd h hx
  ·exact h
 ·simp
theorem mem_roundS : ∀ {xs : List (List Int)} {Q : List (List Int)} {x : List Int}, x ∈ xs → x ≠ [] → x ∈ roundS Q xs
 | [], _, _, h, _ => by cases h
 | y :: xs, Q, x, h, hn => by
  show x ∈ roundS (addS Q y) xs
  rcases List.mem_cons.1 h with rfl | h
  ·obtain ⟨R, e, _⟩ := roundS_pre xs (addS Q x)
   rw [e]
   exact List.mem_append_left _ (mem_addS hn)
  ·exact mem_roundS h hn
def roundR (Q : List (List Int)) : List (List Int) → Option (List (List Int))
 | [] => some Q
 | x :: xs => if 256 < (addS Q x).length then none else roundR (addS Q x) xs
theorem round_eq : ∀ (xs : List (List Int)) (Q : List (List Int)), Q.length ≤ 256 → roundR Q xs = if 256 < (roundS Q xs).length then none else some (roundS Q xs)
 | [], Q, h => by rw [roundR, roundS, List.foldl_nil, if_neg (by omega)]
 | x :: xs, Q, h => by
  rw [roundR]
  have hr : roundS Q (x :: xs) = roundS (addS Q x) xs := rfl
  rw [hr]
  by_cases hl : 256 < (addS Q x).length
  ·have := roundS_len (addS Q x) xs
   rw [if_pos hl, if_pos (by omega)]
  ·rw [if_neg hl, round_eq xs (addS Q x) (by omega)]
end Go.Abs
set_option maxRecDepth 100000
namespace Go.Abs
def eitherP (p q : Prd) : Prd := List.zipWith (fun a b => normR (a ++ b)) p q
theorem PM_either {T : Nat} {p q : Prd} (hp : PWf T p) (hq : PWf T q) (t : Nat) (n : Int) : PM (eitherP p q) t n ↔ PM p t n ∨ PM q t n := by
 have hf : ∀ {a b : List Iv}, a ∈ p → b ∈ q → ∀ x ∈ a ++ b, x.lo ≤ x.hi := fun ha hb x hx => by
  rcases List.mem_append.1 hx with hx | hx
  ·exact (hp.2 _ ha).1.1 x hx
  ·exact (hq.2 _ hb).1.1 x hx
 unfold PM eitherP
 rw [List.getElem?_zipWith]
 constructor
 ·rintro ⟨s, hs, hm⟩
  cases h1 : p[t]? with
  | none => rw [h1] at hs; simp at hs
  | some a =>
   cases h2 : q[t]? with
   | none => rw [h1, h2] at hs; simp at hs
   | some b =>
    rw [h1, h2] at hs
    simp at hs
    subst hs
    have := ((norm_sep _ (hf (List.mem_of_getElem? h1) (List.mem_of_getElem? h2))).2 n).1 hm
    rcases (M_app ..).1 this with h | h
    ·exact .inl ⟨a, rfl, h⟩
    ·exact .inr ⟨b, rfl, h⟩
 ·intro h
  have hlt : t < T := by
   rcases h with ⟨s, hs, _⟩ | ⟨s, hs, _⟩
   ·rw [← hp.1]; exact (List.getElem?_eq_some_iff.1 hs).1
   ·rw [← hq.1]; exact (List.getElem?_eq_some_iff.1 hs).1
  have h1 : t < p.length := by rw [hp.1]; exact hlt
  have h2 : t < q.length := by rw [hq.1]; exact hlt
  rw [List.getElem?_eq_getElem h1, List.getElem?_eq_getElem h2] at h ⊢
  refine ⟨_, rfl, ((norm_sep _ (hf (List.getElem_mem h1) (List.getElem_mem h2))).2 n).2 ((M_app ..).2 ?_)⟩
  rcases h with ⟨s, hs, hm⟩ | ⟨s, hs, hm⟩
  ·cases hs; exact .inl hm
  ·cases hs; exact .inr hm
theorem wf_either {T : Nat} {p q : Prd} (hp : PWf T p) (hq : PWf T q) : PWf T (eitherP p q) := by
 refine ⟨by simp [eitherP, hp.1, hq.1], fun s hs => ?_⟩
 obtain ⟨i, hi⟩ := List.mem_iff_getElem?.1 hs
 have hi' := hi
 unfold eitherP at hi
 rw [List.getElem?_zipWith] at hi
 cases h1 : p[i]? with
 | none => rw [h1] at hi; simp at hi
 | some a =>
  cases h2 : q[i]? with
  | none => rw [h1, h2] at hi; simp at hi
  | some b =>
   rw [h1, h2] at hi
   simp at hi
   subst hi
   refine ⟨(norm_sep _ fun x hx => ?_).1, fun n hn => ?_⟩
   ·rcases List.mem_append.1 hx with hx | hx
    ·exact (hp.2 _ (List.mem_of_getElem? h1)).1.1 x hx
    ·exact (hq.2 _ (List.mem_of_getElem? h2)).1.1 x hx
   ·rcases (PM_either hp hq i n).1 ⟨_, hi', hn⟩ with h | h
    ·exact (hp.lt h).2
    ·exact (hq.lt h).2
def idxQ (Q : List (List Int)) (x : List Int) : Option Nat := Q.findIdx? fun y => decide (y = x)
theorem idxQ_some {Q : List (List Int)} {x : List Int} {t : Nat} (h : idxQ Q x = some t) : Q[t]? = some x := by
 unfold idxQ at h
 obtain ⟨h1, h2, _⟩ := List.findIdx?_eq_some_iff_getElem.1 h
 rw [List.getElem?_eq_getElem h1]
 simpa using h2
theorem idxQ_of {Q : List (List Int)} (hn : Q.Nodup) {t : Nat} {x : List Int} (h : Q[t]? = some x) : idxQ Q x = some t := by
 unfold idxQ
 obtain ⟨h1, h2⟩ := List.getElem?_eq_some_iff.1 h
 refine List.findIdx?_eq_some_iff_getElem.2 ⟨h1, by simpa using h2, fun j hj => ?_⟩
 have hne : Q[j] ≠ Q[t] := fun e => by
  have := (List.getElem_inj hn).1 e
  omega
 rw [h2] at hne
 simpa using hne
def addMv (n : Nat) (g : List Mv) (to : Nat) (c : Prd) : List Mv := match g.findIdx? fun m : Mv => decide (m.dst = (to : Int)) with
 | none => g ++ [⟨n, to, c⟩]
 | some i => match g[i]? with
  | some m => g.set i { m with on := eitherP m.on c }
  | none => g
def grpMv (a : Aut) (cl : List Prd) (Q : List (List Int)) (n : Nat) (l : List Int) : List Mv :=
 cl.foldl (fun g c => match idxQ Q (nextL a l (leastS c)) with | some t => addMv n g t c | none => g) []
def detMv (a : Aut) (cl : List Prd) (Q : List (List Int)) : List Mv := (List.range Q.length).flatMap fun n => grpMv a cl Q n (Q.getD n [])
def finB (a : Aut) (l : List Int) : Bool := l.any fun s => a.fin.getD s.toNat false
def detA (a : Aut) (cl : List Prd) (Q : List (List Int)) : Aut := ⟨a.types, Q.map (finB a), detMv a cl Q⟩
structure MInv (T N n : Nat) (D : Nat → Nat → Int → Prop) (g : List Mv) : Prop where
 wf : ∀ m ∈ g, PWf T m.on
 src : ∀ m ∈ g, m.src = n
 dst : ∀ m ∈ g, ∃ t : Nat, t < N ∧ m.dst = t
 nd : g.Pairwise (fun m k => m.dst ≠ k.dst)
 mem : ∀ m ∈ g, ∀ t : Nat, m.dst = t → ∀ ty y, PM m.on ty y ↔ D t ty y
 all : ∀ t ty y, D t ty y → ∃ m ∈ g, m.dst = (t : Int)
theorem MInv.add {T N n : Nat} {D : Nat → Nat → Int → Prop} {g : List Mv} (h : MInv T N n D g) {to : Nat} (ht : to < N) {c : Prd} (hc : PWf T c) (hcn : ∃ ty y, PM c ty y) :
  MInv T N n (fun t ty y => D t ty y ∨ (t = to ∧ PM c ty y)) (addMv n g to c) := by
 unfold addMv
 cases hf : g.findIdx? fun m : Mv => decide (m.dst = (to : Int)) with
 | none =>
  rw [List.findIdx?_eq_none_iff] at hf
  have hno : ∀ m ∈ g, m.dst ≠ (to : Int) := fun m hm => by simpa using hf m hm
  show MInv T N n _ (g ++ [⟨n, to, c⟩])
  have hcase : ∀ m ∈ g ++ [(⟨n, to, c⟩ : Mv)], m ∈ g ∨ m = ⟨n, to, c⟩ := fun m hm => by
   rcases List.mem_append.1 hm with hm | hm
   ·exact .inl hm
   ·exact .inr (List.mem_singleton.1 hm)
  have hD : ∀ ty y, ¬ D to ty y := fun ty y hd => by
   obtain ⟨m, hm, e⟩ := h.all to ty y hd
   exact hno m hm e
  refine ⟨fun m hm => ?_, fun m hm => ?_, fun m hm => ?_, ?_, fun m hm t e ty y => ?_, fun t ty y hd => ?_⟩
  ·rcases hcase m hm with hm | rfl
   ·exact h.wf m hm
   ·exact hc
  ·rcases hcase m hm with hm | rfl
   ·exact h.src m hm
   ·rfl
  ·rcases hcase m hm with hm | rfl
   ·exact h.dst m hm
   ·exact ⟨to, ht, rfl⟩
  ·exact List.pairwise_append.2 ⟨h.nd, by simp, fun m hm k hk => by obtain rfl := List.mem_singleton.1 hk; exact hno m hm⟩
  ·rcases hcase m hm with hm' | rfl
   ·rw [h.mem m hm' t e]
    constructor
    ·exact fun hd => .inl hd
    ·rintro (hd | ⟨e2, _⟩)
     ·exact hd
     ·exact absurd (by rw [e, e2]) (hno m hm')
   ·have : t = to := by simp at e; omega
    subst this
    constructor
    ·exact fun hd => .inr ⟨rfl, hd⟩
    ·rintro (hd | ⟨_, hd⟩)
     ·exact absurd hd (hD ty y)
     ·exact hd
  ·rcases hd with hd | ⟨rfl, _⟩
   ·obtain ⟨m, hm, e⟩ := h.all t ty y hd
    exact ⟨m, by simp [hm], e⟩
   ·exact ⟨⟨n, t, c⟩, by simp, rfl⟩
 | some i =>
  obtain ⟨hi, hie, _⟩ := List.findIdx?_eq_some_iff_getElem.1 hf
  simp only [List.getElem?_eq_getElem hi]
  have hie' : g[i].dst = (to : Int) := by simpa using hie
  have hgm := List.getElem_mem hi
  have hw := h.wf _ hgm
  have hcase : ∀ m ∈ g.set i { g[i] with on := eitherP g[i].on c }, (m ∈ g ∧ m.dst ≠ (to : Int)) ∨ m = { g[i] with on := eitherP g[i].on c } := fun m hm => by
   obtain ⟨j, hj⟩ := List.mem_iff_getElem?.1 hm
   by_cases hij : i = j
   ·subst hij
    rw [List.getElem?_set_self hi] at hj
    exact .inr (Option.some.inj hj).symm
   ·rw [List.getElem?_set_ne hij] at hj
    obtain ⟨hjl, hje⟩ := List.getElem?_eq_some_iff.1 hj
    refine .inl ⟨List.mem_of_getElem? hj, fun e => ?_⟩
    rcases Nat.lt_or_gt_of_ne hij with hlt | hgt
    ·exact List.pairwise_iff_getElem.1 h.nd i j hi hjl hlt (by rw [hje, e, hie'])
    ·exact List.pairwise_iff_getElem.1 h.nd j i hjl hi hgt (by rw [hje, e, hie'])
  refine ⟨fun m hm => ?_, fun m hm => ?_, fun m hm => ?_, ?_, fun m hm t e ty y => ?_, fun t ty y hd => ?_⟩
  ·rcases hcase m hm with ⟨hm, _⟩ | rfl
   ·exact h.wf m hm
   ·exact wf_either hw hc
  ·rcases hcase m hm with ⟨hm, _⟩ | rfl
   ·exact h.src m hm
   ·have := h.src g[i] hgm
    simpa using this
  ·rcases hcase m hm with ⟨hm, _⟩ | rfl
   ·exact h.dst m hm
   ·exact ⟨to, ht, hie'⟩
  ·have hmap : (g.set i { g[i] with on := eitherP g[i].on c }).map (·.dst) = g.map (·.dst) := by
    apply List.ext_getElem?
    intro j
    rw [List.getElem?_map, List.getElem?_map]
    by_cases hij : i = j
    ·subst hij
     rw [List.getElem?_set_self hi, List.getElem?_eq_getElem hi]
     rfl
    ·rw [List.getElem?_set_ne hij]
   have hp : (g.map (·.dst)).Pairwise (· ≠ ·) := List.pairwise_map.2 h.nd
   rw [← hmap] at hp
   exact List.pairwise_map.1 hp
  ·rcases hcase m hm with ⟨hm, hne⟩ | rfl
   ·rw [h.mem m hm t e]
    constructor
    ·exact fun hd => .inl hd
    ·rintro (hd | ⟨rfl, _⟩)
     ·exact hd
     ·exact absurd e hne
   ·have : t = to := by simp only at e; omega
    subst this
    have hpe := PM_either hw hc ty y
    have hpm := h.mem _ hgm t hie' ty y
    constructor
    ·intro hd
     rcases hpe.1 hd with hd | hd
     ·exact .inl (hpm.1 hd)
     ·exact .inr ⟨rfl, hd⟩
    ·rintro (hd | ⟨_, hd⟩)
     ·exact hpe.2 (.inl (hpm.2 hd))
     ·exact hpe.2 (.inr hd)
  ·rcases hd with hd | ⟨rfl, _⟩
   ·obtain ⟨m, hm, e⟩ := h.all t ty y hd
    obtain ⟨j, hj⟩ := List.mem_iff_getElem?.1 hm
    by_cases hij : i = j
    ·subst hij
     rw [List.getElem?_eq_getElem hi] at hj
     cases hj
     exact ⟨_, List.mem_of_getElem? (List.getElem?_set_self hi), e⟩
    ·exact ⟨m, List.mem_of_getElem? (by rw [List.getElem?_set_ne hij]; exact hj), e⟩
   ·exact ⟨_, List.mem_of_getElem? (List.getElem?_set_self hi), hie'⟩
theorem MInv.congr {T N n : Nat} {D D' : Nat → Nat → Int → Prop} {g : List Mv} (h : MInv T N n D g) (e : ∀ t ty y, D t ty y ↔ D' t ty y) : MInv T N n D' g := by
 have : D = D' := funext fun t => funext fun ty => funext fun y => propext (e t ty y)
 rw [← this]; exact h
theorem grp_minv {T : Nat} {a : Aut} {cl : List Prd} {Q : List (List Int)} (n : Nat) (l : List Int) (hw : ∀ c ∈ cl, PWf T c ∧ ∃ ty y, PM c ty y) :
  MInv T Q.length n (fun t ty y => ∃ c ∈ cl, idxQ Q (nextL a l (leastS c)) = some t ∧ PM c ty y) (grpMv a cl Q n l) := by
 have key : ∀ (r : List Prd) (D : Nat → Nat → Int → Prop) (g : List Mv), MInv T Q.length n D g → (∀ c ∈ r, PWf T c ∧ ∃ ty y, PM c ty y) →
   MInv T Q.length n (fun t ty y => D t ty y ∨ ∃ c ∈ r, idxQ Q (nextL a l (leastS c)) = some t ∧ PM c ty y) (r.foldl (fun g c => match idxQ Q (nextL a l (leastS c)) with | some t => addMv n g t c | none => g) g) := by
  intro r
  induction r with
  | nil => intro D g h _; exact h.congr (fun t ty y => by simp)
  | cons c r ih =>
   intro D g h hr
   rw [List.foldl_cons]
   cases hx : idxQ Q (nextL a l (leastS c)) with
   | none =>
    refine (ih D g h (fun d hd => hr d (by simp [hd]))).congr (fun t ty y => ?_)
    simp [hx]
   | some to =>
    have hto := (List.getElem?_eq_some_iff.1 (idxQ_some hx)).1
    have hc := hr c (by simp)
    refine (ih _ _ (h.add hto hc.1 hc.2) (fun d hd => hr d (by simp [hd]))).congr (fun t ty y => ?_)
    simp only [List.mem_cons, exists_eq_or_imp, hx, Option.some.injEq, or_assoc]
    constructor
    ·rintro (h | ⟨e, h⟩ | h)
     ·exact .inl h
     ·exact .inr (.inl ⟨e.symm, h⟩)
     ·exact .inr (.inr h)
    ·rintro (h | ⟨e, h⟩ | h)
     ·exact .inl h
     ·exact .inr (.inl ⟨e.symm, h⟩)
     ·exact .inr (.inr h)
 have h0 : MInv T Q.length n (fun _ _ _ => False) [] := ⟨by simp, by simp, by simp, by simp, by simp, fun _ _ _ h => h.elim⟩
 exact (key cl _ [] h0 hw).congr (fun t ty y => by simp)
end Go.Abs
set_option maxRecDepth 100000
namespace Go.Abs
structure Cls (a : Aut) (cl : List Prd) : Prop where
 ok : OkA a
 prts : Prts a.types.toNat (a.mv.map (·.on)) cl
 wf : ∀ c ∈ cl, PWf a.types.toNat c ∧ ∃ ty y, PM c ty y
theorem cls_of {a : Aut} (h : OkA a) : Cls a (rClassesP a.types.toNat (a.mv.map (·.on))) := by
 have hT : 0 < a.types.toNat := by have := h.types; omega
 have hp := (rClasses_spec hT (l := a.mv.map (·.on)) (fun p hp => by obtain ⟨m, hm, rfl⟩ := List.mem_map.1 hp; exact (h.mv m hm).on)).1
 exact ⟨h, hp, fun c hc => ⟨hp.wf c hc, hp.ne c hc⟩⟩
def okSy (a : Aut) (x : Sy) : Prop := (0 ≤ x.ty ∧ x.ty < a.types) ∧ inR x.num
theorem next_congr {a : Aut} {l : List Int} {x y : Sy} (h : ∀ m ∈ a.mv, hasS m.on x = hasS m.on y) : nextL a l x = nextL a l y := by
 refine strict_ext (nextL_lt ..) (nextL_lt ..) fun z => ?_
 rw [mem_nextL, mem_nextL]
 constructor
 ·rintro ⟨h1, m, hm, h2, h3, h4⟩; exact ⟨h1, m, hm, h2, by rw [← h m hm]; exact h3, h4⟩
 ·rintro ⟨h1, m, hm, h2, h3, h4⟩; exact ⟨h1, m, hm, h2, by rw [h m hm]; exact h3, h4⟩
theorem Cls.of {a : Aut} {cl : List Prd} (h : Cls a cl) {x : Sy} (hx : okSy a x) : ∃ c ∈ cl, PM c x.ty.toNat x.num ∧ ∀ l, nextL a l x = nextL a l (leastS c) := by
 obtain ⟨c, hc, hm⟩ := h.prts.all x.ty.toNat x.num (by have := hx.1; omega) hx.2
 refine ⟨c, hc, hm, fun l => next_congr fun m hmv => ?_⟩
 have h1 := (least_spec (h.wf c hc).1 (h.wf c hc).2).1
 have h2 := ((h.prts.cls c hc _ _ hm _ _).1 h1).2.2 m.on (List.mem_map.2 ⟨m, hmv, rfl⟩)
 have hl := (h.ok.mv m hmv).on.1
 rw [Bool.eq_iff_iff, hasS_PM hl x hx.1.1, hasS_PM hl (leastS c) (by simp [leastS])]
 simpa [leastS] using h2
theorem Cls.same {a : Aut} {cl : List Prd} (h : Cls a cl) {c : Prd} (hc : c ∈ cl) {x : Sy} (hx : okSy a x) (hm : PM c x.ty.toNat x.num) (l : List Int) : nextL a l x = nextL a l (leastS c) := by
 obtain ⟨d, hd, hdm, e⟩ := h.of hx
 rw [e l, h.prts.disj hd hc hdm hm]
structure Sub (a : Aut) (cl : List Prd) (Q : List (List Int)) : Prop where
 first : Q[0]? = some [0]
 nd : Q.Nodup
 ne : ∀ l ∈ Q, l ≠ []
 lim : Q.length ≤ 256
 elem : ∀ l ∈ Q, l.Pairwise (· < ·) ∧ ∀ s ∈ l, 0 ≤ s ∧ s < a.fin.length
 closed : ∀ l ∈ Q, ∀ c ∈ cl, nextL a l (leastS c) = [] ∨ nextL a l (leastS c) ∈ Q
theorem addS_nodup {Q : List (List Int)} {x : List Int} (h : Q.Nodup) : (addS Q x).Nodup := by
 unfold addS
 split
 ·exact h
 ·rename_i hx
  exact List.nodup_append.2 ⟨h, by simp, fun a ha b hb e => by
   obtain rfl := List.mem_singleton.1 hb
   subst e
   exact hx (.inr ha)⟩
theorem roundS_nodup : ∀ (xs : List (List Int)) {Q : List (List Int)}, Q.Nodup → (roundS Q xs).Nodup
 | [], _, h => h
 | x :: xs, Q, h => roundS_nodup xs (addS_nodup (x := x) h)
theorem sub_bfs {a : Aut} (ha : OkA a) (cl : List Prd) : ∀ (f i : Nat) (Q R : List (List Int)), bfsS a cl f i Q = some R → Q[0]? = some [0] → Q.Nodup → (∀ l ∈ Q, l ≠ []) → Q.length ≤ 256 → (∀ l ∈ Q, l.Pairwise (· < ·) ∧ ∀ s ∈ l, 0 ≤ s ∧ s < a.fin.length) →
  (∀ j, j < i → ∀ l, Q[j]? = some l → ∀ c ∈ cl, nextL a l (leastS c) = [] ∨ nextL a l (leastS c) ∈ Q) → Sub a cl R
 | 0, _, _, _, h, _, _, _, _, _, _ => by cases h
 | f + 1, i, Q, R, h, h1, h2, h3, h4, h5, h6 => by
  rw [bfsS] at h
  cases hq : Q[i]? with
  | none =>
   rw [hq] at h
   simp only [Option.some.injEq] at h
   subst h
   have hi : Q.length ≤ i := List.getElem?_eq_none_iff.1 hq
   refine ⟨h1, h2, h3, h4, h5, fun l hl c hc => ?_⟩
   obtain ⟨j, hj⟩ := List.mem_iff_getElem?.1 hl
   exact h6 j (by have := (List.getElem?_eq_some_iff.1 hj).1; omega) l hj c hc
  | some l =>
   rw [hq] at h
   simp only at h
   by_cases hlim : 256 < (roundS Q (succS a cl l)).length
   ·rw [if_pos hlim] at h; cases h
   ·rw [if_neg hlim] at h
    obtain ⟨X, hX, hXm⟩ := roundS_pre (succS a cl l) Q
    have hlen : 0 < Q.length := (List.getElem?_eq_some_iff.1 h1).1
    have hmem : ∀ y ∈ roundS Q (succS a cl l), y ∈ Q ∨ (y ≠ [] ∧ ∃ c ∈ cl, y = nextL a l (leastS c)) := fun y hy => by
     rw [hX] at hy
     rcases List.mem_append.1 hy with hy | hy
     ·exact .inl hy
     ·obtain ⟨p1, p2⟩ := hXm y hy
      obtain ⟨c, hc, rfl⟩ := List.mem_map.1 p1
      exact .inr ⟨p2, c, hc, rfl⟩
    refine sub_bfs ha cl f (i + 1) _ R h ?_ (roundS_nodup _ h2) ?_ (by omega) ?_ ?_
    ·rw [hX, List.getElem?_append_left hlen]; exact h1
    ·intro y hy
     rcases hmem y hy with hy | ⟨hy, _⟩
     ·exact h3 y hy
     ·exact hy
    ·intro y hy
     rcases hmem y hy with hy | ⟨_, c, _, rfl⟩
     ·exact h5 y hy
     ·exact ⟨nextL_lt .., nextL_in⟩
    ·intro j hj k hk c hc
     by_cases hji : j < i
     ·have hjl : j < Q.length := by have := (List.getElem?_eq_some_iff.1 hq).1; omega
      rw [hX, List.getElem?_append_left hjl] at hk
      rcases h6 j hji k hk c hc with h7 | h7
      ·exact .inl h7
      ·right; rw [hX]; exact List.mem_append_left _ h7
     ·have : j = i := by omega
      subst this
      rw [hX, List.getElem?_append_left (List.getElem?_eq_some_iff.1 hq).1, hq] at hk
      cases hk
      by_cases hn : nextL a l (leastS c) = []
      ·exact .inl hn
      ·exact .inr (mem_roundS (List.mem_map.2 ⟨c, hc, rfl⟩) hn)
def subsR (a : Aut) (cl : List Prd) : Option (List (List Int)) := bfsS a cl 257 0 [[0]]
theorem subs_spec {a : Aut} (ha : OkA a) {cl : List Prd} {Q : List (List Int)} (h : subsR a cl = some Q) : Sub a cl Q :=
 sub_bfs ha cl 257 0 [[0]] Q h rfl (by simp) (by simp) (by simp) (by intro l hl; obtain rfl := List.mem_singleton.1 hl; exact ⟨by simp, fun s hs => by obtain rfl := List.mem_singleton.1 hs; have := ha.fin; omega⟩) (fun j hj => by omega)
theorem Sub.step {a : Aut} {cl : List Prd} {Q : List (List Int)} (hs : Sub a cl Q) (hc : Cls a cl) {l : List Int} (hl : l ∈ Q) {x : Sy} (hx : okSy a x) : nextL a l x = [] ∨ nextL a l x ∈ Q := by
 obtain ⟨c, h1, _, h3⟩ := hc.of hx
 rw [h3 l]
 exact hs.closed l hl c h1
theorem mem_detMv {a : Aut} {cl : List Prd} {Q : List (List Int)} {m : Mv} : m ∈ detMv a cl Q ↔ ∃ n l, Q[n]? = some l ∧ m ∈ grpMv a cl Q n l := by
 unfold detMv
 rw [List.mem_flatMap]
 constructor
 ·rintro ⟨n, hn, hm⟩
  have hlt := List.mem_range.1 hn
  refine ⟨n, Q[n], List.getElem?_eq_getElem hlt, ?_⟩
  simpa [List.getD, hlt] using hm
 ·rintro ⟨n, l, hl, hm⟩
  have hlt := (List.getElem?_eq_some_iff.1 hl).1
  refine ⟨n, List.mem_range.2 hlt, ?_⟩
  simpa [List.getD, hl] using hm
def runL (a : Aut) (l : List Int) (w : List Sy) : List Int := w.foldl (nextL a) l
def accL (a : Aut) (w : List Sy) : Bool := finB a (runL a [0] w)
def detOk (a : Aut) : Prop := a.mv.Pairwise (fun m k => m.src = k.src → ∀ x : Sy, okSy a x → ¬ (hasS m.on x = true ∧ hasS k.on x = true))
end Go.Abs
set_option maxRecDepth 100000
namespace Go.Abs
theorem gaps_wf {l : List Iv} (h : Sep l) (hb : ∀ n, M l n → inR n) : Sep (gapsR l) ∧ (∀ n, M (gapsR l) n ↔ inR n ∧ ¬ M l n) ∧ (gapsR l).length ≤ l.length + 1 := by
 have hin : ∀ x ∈ l, inR x.lo ∧ inR x.hi := fun x hx => ⟨hb _ ⟨x, hx, Int.le_refl _, h.1 x hx⟩, hb _ ⟨x, hx, h.1 x hx, Int.le_refl _⟩⟩
 have := gapFrom_spec l (-1099511627776) (fun x hx => ⟨h.1 x hx, (hin x hx).2.2⟩) h.2 (fun x hx => (hin x hx).1.1)
 exact ⟨this.1, fun n => by rw [gapsR, this.2.1, inR, and_assoc], this.2.2⟩
theorem PM_restW {T : Nat} {p : Prd} (hp : PWf T p) (t : Nat) (n : Int) : PM (restP p) t n ↔ (t < T ∧ inR n) ∧ ¬ PM p t n := by
 unfold PM restP
 rw [List.getElem?_map]
 constructor
 ·rintro ⟨s, hs, hm⟩
  obtain ⟨a, ha, rfl⟩ := Option.map_eq_some_iff.1 hs
  have hw := hp.2 a (List.mem_of_getElem? ha)
  have hg := ((gaps_wf hw.1 hw.2).2.1 n).1 hm
  refine ⟨⟨by rw [← hp.1]; exact (List.getElem?_eq_some_iff.1 ha).1, hg.1⟩, ?_⟩
  rintro ⟨b, hb, hm'⟩
  rw [ha] at hb; cases hb
  exact hg.2 hm'
 ·rintro ⟨⟨h1, h2⟩, h3⟩
  have hl : t < p.length := by rw [hp.1]; exact h1
  have hw := hp.2 _ (List.getElem_mem hl)
  exact ⟨gapsR p[t], by rw [List.getElem?_eq_getElem hl]; rfl, ((gaps_wf hw.1 hw.2).2.1 n).2 ⟨h2, fun hm => h3 ⟨_, List.getElem?_eq_getElem hl, hm⟩⟩⟩
theorem wf_rest {T : Nat} {p : Prd} (hp : PWf T p) : PWf T (restP p) := ⟨by simp [restP, hp.1], fun s hs => by
 obtain ⟨a, ha, rfl⟩ := List.mem_map.1 hs
 have hw := hp.2 a ha
 exact ⟨(gaps_wf hw.1 hw.2).1, fun n hn => (((gaps_wf hw.1 hw.2).2.1 n).1 hn).1⟩⟩
def uniP (T : Nat) (ps : List Prd) : Prd := (List.range T).map fun i => normR (setsAt ps i)
theorem uni_flat {T : Nat} {ps : List Prd} (h : ∀ p ∈ ps, PWf T p) (i : Nat) : ∀ x ∈ setsAt ps i, x.lo ≤ x.hi := fun x hx => by
 obtain ⟨p, hp, hx⟩ := mem_setsAt.1 hx
 have hm : p.getD i [] = [] ∨ p.getD i [] ∈ p := by
  by_cases hi : i < p.length
  ·exact .inr (by rw [getD_len hi]; exact List.getElem_mem hi)
  ·exact .inl (by simp [List.getD, hi])
 rcases hm with e | hm
 ·rw [e] at hx; cases hx
 ·exact ((h p hp).2 _ hm).1.1 x hx
theorem PM_uni {T : Nat} {ps : List Prd} (h : ∀ p ∈ ps, PWf T p) (t : Nat) (n : Int) : PM (uniP T ps) t n ↔ ∃ p ∈ ps, PM p t n := by
 unfold PM uniP
 rw [List.getElem?_map]
 constructor
 ·rintro ⟨s, hs, hm⟩
  obtain ⟨i, hi, rfl⟩ := Option.map_eq_some_iff.1 hs
  obtain ⟨hlt, e⟩ := List.getElem?_eq_some_iff.1 hi
  rw [List.getElem_range] at e
  subst e
  obtain ⟨x, hx, h1⟩ := ((norm_sep _ (uni_flat h t)).2 n).1 hm
  obtain ⟨p, hp, hx⟩ := mem_setsAt.1 hx
  have ht : t < T := by simpa using hlt
  have hpl : t < p.length := by rw [(h p hp).1]; exact ht
  rw [getD_len hpl] at hx
  exact ⟨p, hp, p[t], List.getElem?_eq_getElem hpl, x, hx, h1⟩
 ·rintro ⟨p, hp, s, hs, x, hx, h1⟩
  obtain ⟨hpl, e⟩ := List.getElem?_eq_some_iff.1 hs
  have ht : t < T := by rw [← (h p hp).1]; exact hpl
  refine ⟨normR (setsAt ps t), by simp [ht], ((norm_sep _ (uni_flat h t)).2 n).2 ⟨x, mem_setsAt.2 ⟨p, hp, ?_⟩, h1⟩⟩
  rw [getD_len hpl, e]; exact hx
theorem wf_uni {T : Nat} {ps : List Prd} (h : ∀ p ∈ ps, PWf T p) : PWf T (uniP T ps) := by
 refine ⟨by simp [uniP], fun s hs => ?_⟩
 obtain ⟨i, hi, rfl⟩ := List.mem_map.1 hs
 refine ⟨(norm_sep _ (uni_flat h i)).1, fun n hn => ?_⟩
 have : PM (uniP T ps) i n := ⟨normR (setsAt ps i), by simp [uniP, List.mem_range.1 hi], hn⟩
 obtain ⟨p, hp, hm⟩ := (PM_uni h i n).1 this
 exact ((h p hp).lt hm).2
theorem uni_one {T : Nat} {c : Prd} (h : PWf T c) : uniP T [c] = c :=
 prd_ext (wf_uni (by simpa using h)) h fun t n => by rw [PM_uni (by simpa using h)]; simp
theorem uni_two {T : Nat} {p q : Prd} (hp : PWf T p) (hq : PWf T q) : uniP T [p, q] = eitherP p q := by
 have h : ∀ x ∈ [p, q], PWf T x := fun x hx => by
  rcases List.mem_cons.1 hx with rfl | hx
  ·exact hp
  ·obtain rfl := List.mem_singleton.1 hx; exact hq
 exact prd_ext (wf_uni h) (wf_either hp hq) fun t n => by rw [PM_uni h, PM_either hp hq]; simp
def onsA (a : Aut) (s : Int) : List Prd := (a.mv.filter fun m => decide (m.src = s)).map (·.on)
def lackP (a : Aut) (s : Int) : Prd := restP (uniP a.types.toNat (onsA a s))
def lackR (a : Aut) (s : Int) : Prd := (onsA a s).foldl (fun r p => bothP r (restP p)) (wholeP a.types.toNat)
structure WfA (a : Aut) : Prop where
 types : 1 ≤ a.types ∧ a.types ≤ 16
 fin : 1 ≤ a.fin.length
 src : ∀ m ∈ a.mv, 0 ≤ m.src ∧ m.src < a.fin.length
 dst : ∀ m ∈ a.mv, 0 ≤ m.dst ∧ m.dst < a.fin.length
 on : ∀ m ∈ a.mv, PWf a.types.toNat m.on
theorem OkA.wfA {a : Aut} (h : OkA a) : WfA a := ⟨h.types, h.fin.1, fun m hm => (h.mv m hm).src, fun m hm => (h.mv m hm).dst, fun m hm => (h.mv m hm).on.wf⟩
theorem ons_wf {a : Aut} (h : WfA a) (s : Int) : ∀ p ∈ onsA a s, PWf a.types.toNat p := fun p hp => by
 obtain ⟨m, hm, rfl⟩ := List.mem_map.1 hp
 exact h.on m (List.mem_filter.1 hm).1
theorem PM_lackP {a : Aut} (h : WfA a) (s : Int) (t : Nat) (n : Int) : PM (lackP a s) t n ↔ (t < a.types.toNat ∧ inR n) ∧ ∀ p ∈ onsA a s, ¬ PM p t n := by
 rw [lackP, PM_restW (wf_uni (ons_wf h s)), PM_uni (ons_wf h s)]
 simp
theorem wf_lackP {a : Aut} (h : WfA a) (s : Int) : PWf a.types.toNat (lackP a s) := wf_rest (wf_uni (ons_wf h s))
theorem lack_fold {T : Nat} : ∀ (l : List Prd) (r : Prd), (∀ p ∈ l, PWf T p) → PWf T r → PWf T (l.foldl (fun r p => bothP r (restP p)) r) ∧
  ∀ t n, PM (l.foldl (fun r p => bothP r (restP p)) r) t n ↔ PM r t n ∧ ∀ p ∈ l, ¬ PM p t n
 | [], r, _, hr => ⟨hr, fun t n => by simp⟩
 | p :: l, r, hl, hr => by
  have hp := hl p (by simp)
  obtain ⟨h1, h2⟩ := lack_fold l (bothP r (restP p)) (fun q hq => hl q (by simp [hq])) (wf_both hr (wf_rest hp).1)
  refine ⟨h1, fun t n => ?_⟩
  rw [List.foldl_cons, h2, PM_both hr.1 (wf_rest hp).1, PM_restW hp]
  constructor
  ·rintro ⟨⟨a, b, c⟩, d⟩
   refine ⟨a, fun q hq => ?_⟩
   rcases List.mem_cons.1 hq with rfl | hq
   ·exact c
   ·exact d q hq
  ·rintro ⟨a, d⟩
   exact ⟨⟨a, hr.lt a, d p (by simp)⟩, fun q hq => d q (by simp [hq])⟩
theorem lack_eq {a : Aut} (h : WfA a) (s : Int) : lackR a s = lackP a s := by
 obtain ⟨h1, h2⟩ := lack_fold (onsA a s) (wholeP a.types.toNat) (ons_wf h s) (wf_whole _)
 exact prd_ext h1 (wf_lackP h s) fun t n => by rw [lackR, h2, PM_lackP h, PM_whole]
theorem lack_void {a : Aut} (h : WfA a) (s : Int) : voidP (lackP a s) = true ↔ ∀ t n, t < a.types.toNat → inR n → ∃ p ∈ onsA a s, PM p t n := by
 rw [void_iff (wf_lackP h s)]
 constructor
 ·intro hv t n ht hn
  have := hv t n
  rw [PM_lackP h] at this
  by_cases hc : ∃ p ∈ onsA a s, PM p t n
  ·exact hc
  ·exact absurd ⟨⟨ht, hn⟩, fun p hp hm => hc ⟨p, hp, hm⟩⟩ this
 ·intro hv t n
  rw [PM_lackP h]
  rintro ⟨⟨ht, hn⟩, hx⟩
  obtain ⟨p, hp, hm⟩ := hv t n ht hn
  exact hx p hp hm
def bigA (a : Aut) : Bool := decide (256 < a.fin.length) || decide (2048 < a.mv.length) || a.mv.any fun m => m.on.any fun s => decide (256 < s.length)
theorem lim_ck {a : Aut} (h : WfA a) : ckAut a = 0 ↔ bigA a = false := by
 rw [ck_ok]
 unfold bigA
 simp only [Bool.or_eq_false_iff, decide_eq_false_iff_not, List.any_eq_false, decide_eq_true_eq]
 constructor
 ·rintro ⟨h1, h2, h3, h4⟩
  exact ⟨⟨by omega, by omega⟩, fun m hm => by
   simp only [Bool.not_eq_true, List.any_eq_false, decide_eq_true_eq]
   exact fun s hs => by have := ((h4 m hm).on.2 s hs).len; omega⟩
 ·rintro ⟨⟨h1, h2⟩, h3⟩
  refine ⟨h.types, ⟨h.fin, by omega⟩, by omega, fun m hm => ⟨h.src m hm, h.dst m hm, (h.on m hm).1, fun s hs => ?_⟩⟩
  have hw := (h.on m hm).2 s hs
  have := h3 m hm
  simp only [Bool.not_eq_true, List.any_eq_false, decide_eq_true_eq] at this
  exact sep_canon hw.1 (sep_in hw.1 hw.2) (by have := this s hs; omega)
def limA (a : Aut) : Int × Aut := if bigA a then (5, zeroA) else (0, a)
def limK (a : Aut) : Int × Aut := if ckAut a ≠ 0 then (5, zeroA) else (0, a)
theorem lim_eq {a : Aut} (h : WfA a) : limK a = limA a := by
 unfold limK limA
 have := lim_ck h
 cases hb : bigA a
 ·rw [if_neg (fun k => k (this.2 hb)), if_neg (by simp)]
 ·rw [if_pos (fun k => by rw [this, hb] at k; cases k), if_pos rfl]
theorem lim_ok {a c : Aut} (h : WfA a) (hl : limA a = (0, c)) : c = a ∧ OkA a := by
 unfold limA at hl
 cases hb : bigA a
 ·rw [hb, if_neg (by simp)] at hl
  exact ⟨(Prod.mk.inj hl).2.symm, (ck_ok a).1 ((lim_ck h).2 hb)⟩
 ·rw [hb, if_pos rfl] at hl
  cases (Prod.mk.inj hl).1
end Go.Abs
set_option maxRecDepth 100000
namespace Go.Abs
def newMv (a : Aut) (lack : Int → Prd) : List Mv := (List.range a.fin.length).filterMap fun s : Nat => if voidP (lack s) then none else some ⟨s, a.fin.length, lack s⟩
def comA (a : Aut) : Aut := ⟨a.types, a.fin ++ [false], a.mv ++ newMv a (lackP a) ++ [⟨a.fin.length, a.fin.length, wholeP a.types.toNat⟩]⟩
def cplP (a : Aut) : Int × Aut := if (newMv a (lackP a)).isEmpty then (0, a) else limA (comA a)
def fullR (a : Aut) : Bool := (List.range a.fin.length).all fun s : Nat => voidP (lackR a s)
def cplR (a : Aut) : Int × Aut := if fullR a then (0, a) else limK ⟨a.types, a.fin ++ [false], a.mv ++ newMv a (lackR a) ++ [⟨a.fin.length, a.fin.length, wholeP a.types.toNat⟩]⟩
theorem mem_newMv {a : Aut} {lack : Int → Prd} {m : Mv} : m ∈ newMv a lack ↔ ∃ s : Nat, s < a.fin.length ∧ voidP (lack s) = false ∧ m = ⟨s, a.fin.length, lack s⟩ := by
 unfold newMv
 rw [List.mem_filterMap]
 constructor
 ·rintro ⟨s, hs, h⟩
  cases hv : voidP (lack s)
  ·rw [hv, if_neg (by simp)] at h
   cases h
   exact ⟨s, List.mem_range.1 hs, hv, rfl⟩
  ·rw [hv, if_pos rfl] at h; cases h
 ·rintro ⟨s, hs, hv, rfl⟩
  exact ⟨s, List.mem_range.2 hs, by rw [hv, if_neg (by simp)]⟩
theorem newMv_nil {a : Aut} {lack : Int → Prd} : newMv a lack = [] ↔ ∀ s : Nat, s < a.fin.length → voidP (lack s) = true := by
 rw [List.eq_nil_iff_forall_not_mem]
 constructor
 ·intro h s hs
  cases hv : voidP (lack s)
  ·exact absurd (mem_newMv.2 ⟨s, hs, hv, rfl⟩) (h _)
  ·rfl
 ·intro h m hm
  obtain ⟨s, hs, hv, _⟩ := mem_newMv.1 hm
  rw [h s hs] at hv; cases hv
theorem wf_com {a : Aut} (h : WfA a) : WfA (comA a) := by
 have hcase : ∀ m ∈ (comA a).mv, m ∈ a.mv ∨ (∃ s : Nat, s < a.fin.length ∧ m = ⟨s, a.fin.length, lackP a s⟩) ∨ m = ⟨a.fin.length, a.fin.length, wholeP a.types.toNat⟩ := fun m hm => by
  rcases List.mem_append.1 hm with hm | hm
  ·rcases List.mem_append.1 hm with hm | hm
   ·exact .inl hm
   ·obtain ⟨s, hs, _, e⟩ := mem_newMv.1 hm
    exact .inr (.inl ⟨s, hs, e⟩)
  ·exact .inr (.inr (List.mem_singleton.1 hm))
 have hl : (comA a).fin.length = a.fin.length + 1 := by simp [comA]
 refine ⟨h.types, by rw [hl]; omega, fun m hm => ?_, fun m hm => ?_, fun m hm => ?_⟩
 ·rw [hl]
  rcases hcase m hm with hm | ⟨s, hs, rfl⟩ | rfl
  ·have := h.src m hm; omega
  ·simp only; omega
  ·simp only; omega
 ·rw [hl]
  rcases hcase m hm with hm | ⟨s, hs, rfl⟩ | rfl
  ·have := h.dst m hm; omega
  ·simp only; omega
  ·simp only; omega
 ·rcases hcase m hm with hm | ⟨s, hs, rfl⟩ | rfl
  ·exact h.on m hm
  ·exact wf_lackP h s
  ·exact wf_whole _
theorem cpl_eq {a : Aut} (h : WfA a) : cplR a = cplP a := by
 have he : lackR a = lackP a := funext fun s => lack_eq h s
 have hf : fullR a = (newMv a (lackP a)).isEmpty := by
  rw [Bool.eq_iff_iff, List.isEmpty_iff, newMv_nil, fullR, List.all_eq_true, he]
  simp
 unfold cplR cplP
 rw [hf, he]
 split
 ·rfl
 ·exact lim_eq (wf_com h)
def fullA (a : Aut) : Prop := ∀ s : Int, 0 ≤ s → s < a.fin.length → ∀ x, okSy a x → ∃ m ∈ a.mv, m.src = s ∧ hasS m.on x = true
theorem okSy_inR {a : Aut} {x : Sy} (h : okSy a x) : x.ty.toNat < a.types.toNat ∧ inR x.num ∧ 0 ≤ x.ty := ⟨by have := h.1; omega, h.2, h.1.1⟩
theorem hasS_on {a : Aut} (h : WfA a) {m : Mv} (hm : m ∈ a.mv) {x : Sy} (hx : okSy a x) : hasS m.on x = true ↔ PM m.on x.ty.toNat x.num := hasS_PM (h.on m hm).1 x hx.1.1
theorem mem_ons {a : Aut} {s : Int} {p : Prd} : p ∈ onsA a s ↔ ∃ m ∈ a.mv, m.src = s ∧ m.on = p := by
 unfold onsA
 rw [List.mem_map]
 constructor
 ·rintro ⟨m, hm, e⟩
  have := List.mem_filter.1 hm
  exact ⟨m, this.1, by simpa using this.2, e⟩
 ·rintro ⟨m, hm, hs, e⟩
  exact ⟨m, List.mem_filter.2 ⟨hm, by simpa using hs⟩, e⟩
theorem full_iff {a : Aut} (h : WfA a) : newMv a (lackP a) = [] ↔ fullA a := by
 rw [newMv_nil]
 constructor
 ·intro hv s h0 h1 x hx
  have hs := hv s.toNat (by omega)
  rw [show ((s.toNat : Nat) : Int) = s by omega, lack_void h] at hs
  obtain ⟨k1, k2, _⟩ := okSy_inR hx
  obtain ⟨p, hp, hm⟩ := hs _ _ k1 k2
  obtain ⟨m, hm', e, rfl⟩ := mem_ons.1 hp
  exact ⟨m, hm', e, (hasS_on h hm' hx).2 hm⟩
 ·intro hf s hs
  rw [lack_void h]
  intro t n ht hn
  have hx : okSy a ⟨t, n⟩ := ⟨⟨by simp, by simp only; omega⟩, hn⟩
  obtain ⟨m, hm, e, hh⟩ := hf s (by omega) (by omega) _ hx
  exact ⟨m.on, mem_ons.2 ⟨m, hm, e, rfl⟩, by have := (hasS_on h hm hx).1 hh; simpa using this⟩
theorem com_full {a : Aut} (h : WfA a) : fullA (comA a) := by
 intro s h0 h1 x hx
 have hx' : okSy a x := hx
 have hl : (comA a).fin.length = a.fin.length + 1 := by simp [comA]
 obtain ⟨k1, k2, _⟩ := okSy_inR hx'
 by_cases hs : s < a.fin.length
 ·by_cases hp : ∃ p ∈ onsA a s, PM p x.ty.toNat x.num
  ·obtain ⟨p, hp, hm⟩ := hp
   obtain ⟨m, hm', e, rfl⟩ := mem_ons.1 hp
   exact ⟨m, List.mem_append_left _ (List.mem_append_left _ hm'), e, (hasS_on h hm' hx').2 hm⟩
  ·have hlk : PM (lackP a s) x.ty.toNat x.num := (PM_lackP h s _ _).2 ⟨⟨k1, k2⟩, fun p hp' hm => hp ⟨p, hp', hm⟩⟩
   have hv : voidP (lackP a s) = false := by
    cases hv : voidP (lackP a s)
    ·rfl
    ·exact absurd hlk ((void_iff (wf_lackP h s)).1 hv _ _)
   have e : ((s.toNat : Nat) : Int) = s := by omega
   refine ⟨⟨s, a.fin.length, lackP a s⟩, List.mem_append_left _ (List.mem_append_right _ (mem_newMv.2 ⟨s.toNat, by omega, by rw [e]; exact hv, by rw [e]⟩)), rfl, ?_⟩
   exact (hasS_PM (wf_lackP h s).1 x hx.1.1).2 hlk
 ·refine ⟨⟨a.fin.length, a.fin.length, wholeP a.types.toNat⟩, List.mem_append_right _ (by simp), by simp only; omega, ?_⟩
  exact (hasS_PM (wf_whole _).1 x hx.1.1).2 ((PM_whole ..).2 ⟨k1, k2⟩)
theorem com_det {a : Aut} (h : WfA a) (hd : detOk a) : detOk (comA a) := by
 unfold detOk
 show (a.mv ++ newMv a (lackP a) ++ [_]).Pairwise _
 rw [List.pairwise_append, List.pairwise_append]
 refine ⟨⟨hd, ?_, fun m hm k hk e x hx => ?_⟩, by simp, fun m hm k hk e x hx => ?_⟩
 ·unfold newMv
  rw [List.pairwise_filterMap]
  refine List.pairwise_lt_range.imp (fun {i j} hij m hm k hk e => ?_)
  have hsrc : ∀ (i : Nat) (m : Mv), (if voidP (lackP a i) then none else some (⟨i, a.fin.length, lackP a i⟩ : Mv)) = some m → m.src = i := fun i m hm => by
   split at hm
   ·cases hm
   ·cases hm; rfl
  have := hsrc i m hm
  have := hsrc j k hk
  omega
 ·obtain ⟨s, hs, _, rfl⟩ := mem_newMv.1 hk
  rintro ⟨h1, h2⟩
  have hx' : okSy a x := hx
  have p1 := (hasS_on h hm hx').1 h1
  have p2 := (hasS_PM (wf_lackP h s).1 x hx.1.1).1 h2
  exact ((PM_lackP h s _ _).1 p2).2 _ (mem_ons.2 ⟨m, hm, e, rfl⟩) p1
 ·obtain rfl := List.mem_singleton.1 hk
  exfalso
  have e' : m.src = (a.fin.length : Int) := e
  rcases List.mem_append.1 hm with hm | hm
  ·have := h.src m hm; omega
  ·obtain ⟨s, hs, _, rfl⟩ := mem_newMv.1 hm
   simp only at e'
   omega
theorem com_next {a : Aut} (h : WfA a) {l l' : List Int} (hl : ∀ j : Int, j < a.fin.length → (j ∈ l' ↔ j ∈ l)) (x : Sy) : ∀ j : Int, j < a.fin.length → (j ∈ nextL (comA a) l' x ↔ j ∈ nextL a l x) := by
 intro j hj
 rw [mem_nextL, mem_nextL]
 have hlen : (comA a).fin.length = a.fin.length + 1 := by simp [comA]
 constructor
 ·rintro ⟨h1, m, hm, h2, h3, h4⟩
  rcases List.mem_append.1 hm with hm | hm
  ·rcases List.mem_append.1 hm with hm | hm
   ·exact ⟨⟨h1.1, hj⟩, m, hm, (hl _ (h.src m hm).2).1 h2, h3, h4⟩
   ·obtain ⟨s, hs, _, rfl⟩ := mem_newMv.1 hm
    simp only at h4; omega
  ·obtain rfl := List.mem_singleton.1 hm
   simp only at h4; omega
 ·rintro ⟨h1, m, hm, h2, h3, h4⟩
  exact ⟨⟨h1.1, by omega⟩, m, List.mem_append_left _ (List.mem_append_left _ hm), (hl _ (h.src m hm).2).2 h2, h3, h4⟩
theorem com_run {a : Aut} (h : WfA a) : ∀ (w : List Sy) (l l' : List Int), (∀ j : Int, j < a.fin.length → (j ∈ l' ↔ j ∈ l)) → ∀ j : Int, j < a.fin.length → (j ∈ runL (comA a) l' w ↔ j ∈ runL a l w)
 | [], _, _, hl => hl
 | x :: w, _, _, hl => com_run h w _ _ (com_next h hl x)
theorem runIn {a : Aut} : ∀ (w : List Sy) (l : List Int), (∀ j ∈ l, 0 ≤ j ∧ j < a.fin.length) → ∀ j ∈ runL a l w, 0 ≤ j ∧ j < a.fin.length
 | [], _, hl => hl
 | x :: w, _, _ => runIn w _ (fun _ hj => nextL_in _ hj)
theorem zero_in {a : Aut} (h : WfA a) : ∀ j ∈ [(0 : Int)], 0 ≤ j ∧ j < a.fin.length := fun j hj => by
 obtain rfl := List.mem_singleton.1 hj
 have := h.fin; omega
theorem finB_iff {a : Aut} {l : List Int} : finB a l = true ↔ ∃ s ∈ l, a.fin.getD s.toNat false = true := by rw [finB, List.any_eq_true]
theorem com_acc {a : Aut} (h : WfA a) (w : List Sy) : accL (comA a) w = accL a w := by
 unfold accL
 rw [Bool.eq_iff_iff, finB_iff, finB_iff]
 have hr := com_run h w [0] [0] (fun _ _ => Iff.rfl)
 have hin := runIn w _ (zero_in (wf_com h))
 have hin' := runIn w _ (zero_in h)
 have hlen : (comA a).fin.length = a.fin.length + 1 := by simp [comA]
 have hget : ∀ s : Int, 0 ≤ s → s < a.fin.length → (comA a).fin.getD s.toNat false = a.fin.getD s.toNat false := fun s h0 h1 => by
  simp only [comA, List.getD_eq_getElem?_getD]
  rw [List.getElem?_append_left (by omega)]
 constructor
 ·rintro ⟨s, hs, hf⟩
  have := hin s hs
  by_cases hlt : s < a.fin.length
  ·exact ⟨s, (hr s hlt).1 hs, by rw [← hget s this.1 hlt]; exact hf⟩
  ·have : s.toNat = a.fin.length := by omega
   rw [this] at hf
   simp [comA] at hf
 ·rintro ⟨s, hs, hf⟩
  have := hin' s hs
  exact ⟨s, (hr s this.2).2 hs, by rw [hget s this.1 this.2]; exact hf⟩
theorem cpl_spec {a c : Aut} (h : OkA a) (hc : cplP a = (0, c)) : OkA c ∧ c.types = a.types ∧ fullA c ∧ (detOk a → detOk c) ∧ ∀ w, accL c w = accL a w := by
 unfold cplP at hc
 split at hc
 ·rename_i hn
  cases hc
  exact ⟨h, rfl, (full_iff h.wfA).1 (List.isEmpty_iff.1 hn), id, fun _ => rfl⟩
 ·obtain ⟨rfl, hk⟩ := lim_ok (wf_com h.wfA) hc
  exact ⟨hk, rfl, com_full h.wfA, com_det h.wfA, com_acc h.wfA⟩
end Go.Abs
set_option maxRecDepth 100000
namespace Go.Abs
def ckAllP (T : Int) : List Prd → Int
 | [] => 0
 | p :: r => if ckPrd T p ≠ 0 then ckPrd T p else ckAllP T r
def bigCl (L : List Prd) : Bool := decide (256 < L.length) || L.any fun p => p.any fun s => decide (256 < s.length)
def mintF (T : Int) (l : List Prd) : Int × List Prd := if T < 1 ∨ 16 < T then (2, []) else if 256 < l.length then (5, []) else if ckAllP T l ≠ 0 then (ckAllP T l, []) else
 if bigCl (pClassesP T.toNat l) then (5, []) else (0, pClassesP T.toNat l)
def mintR (T : Int) (l : List Prd) : Int × List Prd := if T < 1 ∨ 16 < T then (2, []) else if 256 < l.length then (5, []) else if ckAllP T l ≠ 0 then (ckAllP T l, []) else
 if bigCl (rClassesP T.toNat l) then (5, []) else (0, rClassesP T.toNat l)
theorem ckAll_iff {T : Int} : ∀ (l : List Prd), ckAllP T l = 0 ↔ ∀ p ∈ l, ckPrd T p = 0
 | [] => by simp [ckAllP]
 | p :: r => by
  rw [ckAllP]
  by_cases h : ckPrd T p = 0
  ·rw [if_neg (fun k => k h), ckAll_iff r]; simp [h]
  ·rw [if_pos h]
   exact ⟨fun k => absurd k h, fun k => absurd (k p (by simp)) h⟩
theorem mint_eq (T : Int) (l : List Prd) : mintR T l = mintF T l := by
 unfold mintR mintF
 split
 ·rfl
 ·rename_i hT
  split
  ·rfl
  ·split
   ·rfl
   ·rename_i hc
    have hck : ∀ p ∈ l, PCk T.toNat p := fun p hp => ((ckPrd_iff T p).1 ((ckAll_iff l).1 (by simpa using hc) p hp)).2
    rw [classes_eq (by omega) hck]
theorem mint_ok {T : Int} (hT : 1 ≤ T ∧ T ≤ 16) {l : List Prd} (hl : ∀ p ∈ l, PCk T.toNat p) : (mintF T l).1 = 5 ∨ mintF T l = (0, rClassesP T.toNat l) := by
 unfold mintF
 have hc : ckAllP T l = 0 := (ckAll_iff l).2 fun p hp => (ckPrd_iff T p).2 ⟨hT, hl p hp⟩
 rw [if_neg (by omega)]
 split
 ·exact .inl rfl
 ·rw [if_neg (by simp [hc])]
  split
  ·exact .inl rfl
  ·exact .inr (by rw [classes_eq (by omega) hl])
def onA (a : Aut) : List Prd := a.mv.map (·.on)
def subF (a : Aut) : Int × List Prd × List (List Int) := if ckAut a ≠ 0 then (ckAut a, [], []) else
 if (mintF a.types (onA a)).1 ≠ 0 then ((mintF a.types (onA a)).1, [], []) else
 match subsR a (mintF a.types (onA a)).2 with
 | none => (5, [], [])
 | some Q => (0, (mintF a.types (onA a)).2, Q)
def detF (a : Aut) : Int × Aut := if (subF a).1 ≠ 0 then ((subF a).1, zeroA) else limA (detA a (subF a).2.1 (subF a).2.2)
def comF (a : Aut) : Int × Aut := if ckAut a ≠ 0 then (ckAut a, zeroA) else cplP a
def flipA (a : Aut) : Aut := { a with fin := a.fin.map (!·) }
def cmpF (a : Aut) : Int × Aut := if (detF a).1 ≠ 0 then ((detF a).1, zeroA) else if (cplP (detF a).2).1 ≠ 0 then ((cplP (detF a).2).1, zeroA) else (0, flipA (cplP (detF a).2).2)
theorem onA_ck {a : Aut} (h : OkA a) : ∀ p ∈ onA a, PCk a.types.toNat p := fun p hp => by
 obtain ⟨m, hm, rfl⟩ := List.mem_map.1 hp
 exact (h.mv m hm).on
theorem sub_cases {a : Aut} (h : OkA a) : subF a = (5, [], []) ∨ ∃ Q, subF a = (0, rClassesP a.types.toNat (onA a), Q) ∧ subsR a (rClassesP a.types.toNat (onA a)) = some Q ∧ Sub a (rClassesP a.types.toNat (onA a)) Q ∧ Cls a (rClassesP a.types.toNat (onA a)) := by
 unfold subF
 rw [if_neg (fun k => k ((ck_ok a).2 h))]
 rcases mint_ok h.types (onA_ck h) with hm | hm
 ·rw [if_pos (by rw [hm]; decide), hm]; exact .inl rfl
 ·rw [hm, if_neg (by simp)]
  cases hs : subsR a (rClassesP a.types.toNat (onA a)) with
  | none => exact .inl rfl
  | some Q => exact .inr ⟨Q, rfl, rfl, subs_spec h hs, cls_of h⟩
theorem sub_bad {a : Aut} (h : ckAut a ≠ 0) : subF a = (ckAut a, [], []) := if_pos h
theorem mem_det_mv {a : Aut} {cl : List Prd} {Q : List (List Int)} (hc : Cls a cl) {m : Mv} (hm : m ∈ detMv a cl Q) : (∃ n : Nat, n < Q.length ∧ m.src = n) ∧ (∃ t : Nat, t < Q.length ∧ m.dst = t) ∧ PWf a.types.toNat m.on := by
 obtain ⟨n, l, hl, hg⟩ := mem_detMv.1 hm
 have hi := grp_minv (a := a) (Q := Q) n l hc.wf
 exact ⟨⟨n, (List.getElem?_eq_some_iff.1 hl).1, hi.src m hg⟩, hi.dst m hg, hi.wf m hg⟩
theorem wf_det {a : Aut} {cl : List Prd} {Q : List (List Int)} (hc : Cls a cl) (hs : Sub a cl Q) : WfA (detA a cl Q) := by
 have h0 := (List.getElem?_eq_some_iff.1 hs.first).1
 have hl : (detA a cl Q).fin.length = Q.length := by simp [detA]
 refine ⟨hc.ok.types, by omega, fun m hm => ?_, fun m hm => ?_, fun m hm => (mem_det_mv hc hm).2.2⟩
 ·obtain ⟨⟨n, h1, h2⟩, _⟩ := mem_det_mv hc hm
  rw [hl, h2]; omega
 ·obtain ⟨_, ⟨n, h1, h2⟩, _⟩ := mem_det_mv hc hm
  rw [hl, h2]; omega
theorem one_next {a : Aut} (hw : WfA a) (hd : detOk a) (hf : fullA a) {s : Int} (h0 : 0 ≤ s) (h1 : s < a.fin.length) {x : Sy} (hx : okSy a x) : ∃ t : Int, 0 ≤ t ∧ t < a.fin.length ∧ nextL a [s] x = [t] := by
 obtain ⟨m, hm, e, hh⟩ := hf s h0 h1 x hx
 refine ⟨m.dst, (hw.dst m hm).1, (hw.dst m hm).2, strict_ext (nextL_lt ..) (by simp) fun z => ?_⟩
 rw [mem_nextL]
 constructor
 ·rintro ⟨_, k, hk, h2, h3, h4⟩
  obtain h2 := List.mem_singleton.1 h2
  have : k = m ∨ k.dst = m.dst := by
   obtain ⟨i, hi⟩ := List.mem_iff_getElem?.1 hm
   obtain ⟨j, hj⟩ := List.mem_iff_getElem?.1 hk
   obtain ⟨hi1, hi2⟩ := List.getElem?_eq_some_iff.1 hi
   obtain ⟨hj1, hj2⟩ := List.getElem?_eq_some_iff.1 hj
   by_cases hij : i = j
   ·subst hij; left; rw [← hi2, ← hj2]
   ·exfalso
    rcases Nat.lt_or_gt_of_ne hij with hlt | hgt
    ·have := List.pairwise_iff_getElem.1 hd i j hi1 hj1 hlt
     rw [hi2, hj2] at this
     exact this (by rw [e, h2]) x hx ⟨hh, h3⟩
    ·have := List.pairwise_iff_getElem.1 hd j i hj1 hi1 hgt
     rw [hi2, hj2] at this
     exact this (by rw [e, h2]) x hx ⟨h3, hh⟩
  rcases this with rfl | this
  ·rw [← h4]; simp
  ·rw [← h4, this]; simp
 ·intro hz
  obtain rfl := List.mem_singleton.1 hz
  exact ⟨hw.dst m hm, m, hm, by rw [e]; simp, hh, rfl⟩
theorem least_ok {a : Aut} {cl : List Prd} (hc : Cls a cl) {c : Prd} (hm : c ∈ cl) : okSy a (leastS c) := by
 have h := (least_spec (hc.wf c hm).1 (hc.wf c hm).2).1
 have h2 := (hc.wf c hm).1.lt h
 exact ⟨⟨by simp [leastS], by simp only [leastS]; omega⟩, h2.2⟩
end Go.Abs
set_option maxRecDepth 100000
namespace Go.Abs
def fewP (p : Prd) : Bool := decide (p.length ≤ 4) && p.all fun s => decide (s.length ≤ 12)
def fewA (a : Aut) : Bool := decide (a.fin.length ≤ 8) && decide (a.mv.length ≤ 16) && a.mv.all fun m => fewP m.on
theorem fewP_iff {p : Prd} : fewP p = true ↔ p.length ≤ 4 ∧ ∀ s ∈ p, s.length ≤ 12 := by simp [fewP]
theorem norm_len (l : List Iv) : (normR l).length ≤ l.length := by
 have h1 := pushes_len (isortR l) []
 have h2 := (isort_spec l).1.length_eq
 rw [normR]; simp at h1; omega
theorem gaps_len {l : List Iv} (h : Sep l) (hb : ∀ n, M l n → inR n) : (gapsR l).length ≤ l.length + 1 := (gaps_wf h hb).2.2
theorem whole_len (T : Nat) : ∀ x ∈ wholeP T, x.length = 1 := fun x hx => by
 obtain rfl := List.eq_of_mem_replicate hx
 rfl
def nextF (a : Aut) (l : List Int) (x : Sy) : Int × List Int := if ckAut a ≠ 0 then (ckAut a, []) else if 256 < l.length then (5, []) else
 if l.any (fun s => decide (s < 0) || decide ((a.fin.length : Int) ≤ s)) then (6, []) else if ckSy a.types x ≠ 0 then (ckSy a.types x, []) else (0, nextL a l x)
theorem asc_len {n : Nat} {l : List Int} (h : l.Pairwise (· < ·)) (hr : ∀ s ∈ l, 0 ≤ s ∧ s < n) : l.length ≤ n := by
 have he : l = (rangeI n).filter fun z => decide (z ∈ l) := strict_ext h ((rangeI_lt n).filter _) fun z => by
  rw [List.mem_filter, mem_rangeI]
  exact ⟨fun hz => ⟨hr z hz, by simpa using hz⟩, fun hz => by simpa using hz.2⟩
 have h1 := List.length_filter_le (fun z => decide (z ∈ l)) (rangeI n)
 rw [← he] at h1
 simpa [rangeI] using h1
theorem next_len {a : Aut} (h : OkA a) (l : List Int) (x : Sy) : (nextL a l x).length ≤ 256 := by
 have := asc_len (nextL_lt a l x) nextL_in
 have := h.fin; omega
def cmnP (p q : Prd) : Bool := !voidP (bothP p q)
def sglR (a : Aut) : Bool := (List.range a.mv.length).all fun i => (List.range i).all fun k => !(decide ((a.mv.getD i default).src = (a.mv.getD k default).src) && cmnP (a.mv.getD i default).on (a.mv.getD k default).on)
theorem cmn_iff {T : Nat} {p q : Prd} (hp : PWf T p) (hq : PWf T q) : cmnP p q = true ↔ ∃ t n, PM p t n ∧ PM q t n := by
 unfold cmnP
 cases hv : voidP (bothP p q)
 ·simp only [Bool.not_false, true_iff]
  apply Classical.byContradiction
  intro hn
  have := (void_iff (wf_both hp hq.1)).2 (fun t n hm => hn ⟨t, n, (PM_both hp.1 hq.1 t n).1 hm⟩)
  rw [hv] at this; cases this
 ·simp only [Bool.not_true, Bool.false_eq_true, false_iff]
  rintro ⟨t, n, hm⟩
  exact (void_iff (wf_both hp hq.1)).1 hv t n ((PM_both hp.1 hq.1 t n).2 hm)
end Go.Abs
set_option maxRecDepth 100000
namespace Go.Abs
open Go Go.Proofs
set_option linter.unusedSimpArgs false
attribute [simp] T74 T76 T91 T78 T23 T22 T25 T53 T45 T28
@[simp] def encP (p : Prd) : AV := .agg [.list (p.map encL)]
abbrev LP (l : List Prd) : AV := .list (l.map encP)
@[simp] def encSy (x : Sy) : AV := .agg [.i x.ty, .i x.num]
@[simp] def encMv (m : Mv) : AV := .agg [.i m.src, .i m.dst, .list (m.on.map encL)]
@[simp] def encA (a : Aut) : AV := .agg [.i a.types, .list (a.fin.map .bool), .list (a.mv.map encMv)]
attribute [local irreducible] ckR
set_option maxHeartbeats 1000000 in
theorem pc_pCheck (T : Int) (p : Prd) : PC Tryz.prog 82 [.i T, encP p] (fun r => r = .i (ckPrd T p)) := by
 refine PC_body tOk Tryz.func82 rfl Tryz.results82 rfl (by simp [Tryz.ntmps82]) ?_
 rw [Tryz.ntmps82]
 simp only [argSlots]
 simp only [encP]
 refine AWP_lenAgg 1 0 rfl rfl (fun hlen => ?_)
 rw [List.length_map] at hlen
 repeat first|((first|refine qa tOk rfl ?_|refine qb tOk rfl ?_|refine qh rfl ?_);simp)|refine qf ?_|refine qg ?_
 refine AWP_cond2 rfl (fun h => ?_) (fun h => ?_)
 ·repeat first|((first|refine qa tOk rfl ?_|refine qb tOk rfl ?_|refine qh rfl ?_);simp)|refine qf ?_|refine qg ?_
  rw [ckPrd, if_pos (by simpa using h)]
 have h' : ¬ (T < 1 ∨ 16 < T) := by simpa using h
 repeat first|((first|refine qa tOk rfl ?_|refine qb tOk rfl ?_|refine qh rfl ?_);simp)|refine qf ?_|refine qg ?_
 refine AWP_cond2 rfl (fun h2 => ?_) (fun h2 => ?_)
 ·repeat first|((first|refine qa tOk rfl ?_|refine qb tOk rfl ?_|refine qh rfl ?_);simp)|refine qf ?_|refine qg ?_
  rw [ckPrd, if_neg h', if_pos (by simpa using h2)]
 have h2' : (p.length : Int) = T := by simpa using h2
 have hE : ckPrd T p = ckPs p := by rw [ckPrd, if_neg h', if_neg (by simpa using h2')]
 rw [hE]
 repeat first|((first|refine qa tOk rfl ?_|refine qb tOk rfl ?_|refine qh rfl ?_);simp)|refine qf ?_|refine qg ?_
 refine AWP_countI p.length (fun j => ckPs p = ckPs (p.drop j)) (fun j => [(22, .list (p.map encL)), (23, .i p.length), (24, .i j)]) (fun _ => []) rfl (by simp) (by simp) (by simp) (by simp) (by simp) ?_
 intro j hj hI ih
 repeat first|((first|refine qa tOk rfl ?_|refine qb tOk rfl ?_|refine qh rfl ?_);simp)|refine qf ?_|refine qg ?_
 refine AWP_cond2 rfl (fun hlt => ?_) (fun hge => ?_)
 ·have hlt' : j < p.length := by simpa using hlt
  have hw : IntKind.i64.wrap ((j : Int) + 1) = j + 1 := wrap_i64 _ (by omega) (by omega)
  rw [drop_get hlt', ckPs] at hI
  repeat first|((first|refine qa tOk rfl ?_|refine qb tOk rfl ?_|refine qh rfl ?_);simp [hlt'])|refine qf ?_|refine qg ?_
  refine AStep_PC rfl rfl (by simp) (pc_Check p[j]) rfl ?_
  rintro _ rfl
  simp
  repeat first|((first|refine qa tOk rfl ?_|refine qb tOk rfl ?_|refine qh rfl ?_);simp)|refine qf ?_|refine qg ?_
  refine AWP_cond2 rfl (fun h3 => ?_) (fun h3 => ?_)
  ·repeat first|((first|refine qa tOk rfl ?_|refine qb tOk rfl ?_|refine qh rfl ?_);simp)|refine qf ?_|refine qg ?_
   rw [hI, if_pos (by simpa using h3)]
  rw [if_neg (by simpa using h3)] at hI
  repeat first|((first|refine qa tOk rfl ?_|refine qb tOk rfl ?_|refine qh rfl ?_);simp [hw])|refine qf ?_|refine qg ?_
  refine ALoop_end _ (ih hlt' hI) rfl (by simp) ?_ (by simp) (by simp)
  simp
 ·have hge' : j = p.length := by simp at hge; omega
  subst hge'
  repeat first|((first|refine qa tOk rfl ?_|refine qb tOk rfl ?_|refine qh rfl ?_);simp)|refine qf ?_|refine qg ?_
  rw [hI, List.drop_length]; rfl
set_option maxHeartbeats 1000000 in
theorem pc_rpCheck (T : Int) (p : Prd) : PC Tryz.prog 116 [.i T, encP p] (fun r => r = .i (ckPrd T p)) := by
 refine PC_body tOk Tryz.func116 rfl Tryz.results116 rfl (by simp [Tryz.ntmps116]) ?_
 rw [Tryz.ntmps116]
 simp only [argSlots]
 simp only [encP]
 refine AWP_lenAgg 1 0 rfl rfl (fun hlen => ?_)
 rw [List.length_map] at hlen
 repeat first|((first|refine qa tOk rfl ?_|refine qb tOk rfl ?_|refine qh rfl ?_);simp)|refine qf ?_|refine qg ?_
 refine AWP_cond2 rfl (fun h => ?_) (fun h => ?_)
 ·repeat first|((first|refine qa tOk rfl ?_|refine qb tOk rfl ?_|refine qh rfl ?_);simp)|refine qf ?_|refine qg ?_
  rw [ckPrd, if_pos (by simpa using h)]
 have h' : ¬ (T < 1 ∨ 16 < T) := by simpa using h
 repeat first|((first|refine qa tOk rfl ?_|refine qb tOk rfl ?_|refine qh rfl ?_);simp)|refine qf ?_|refine qg ?_
 refine AWP_cond2 rfl (fun h2 => ?_) (fun h2 => ?_)
 ·repeat first|((first|refine qa tOk rfl ?_|refine qb tOk rfl ?_|refine qh rfl ?_);simp)|refine qf ?_|refine qg ?_
  rw [ckPrd, if_neg h', if_pos (by simpa using h2)]
 have h2' : (p.length : Int) = T := by simpa using h2
 have hE : ckPrd T p = ckPs p := by rw [ckPrd, if_neg h', if_neg (by simpa using h2')]
 rw [hE]
 repeat first|((first|refine qa tOk rfl ?_|refine qb tOk rfl ?_|refine qh rfl ?_);simp)|refine qf ?_|refine qg ?_
 refine AWP_countI p.length (fun j => ckPs p = ckPs (p.drop j)) (fun j => [(0, .i T), (3, .vptr 0 0), (5, .i j)]) (fun _ => [.vars [.list (p.map encL)]]) rfl (by simp) (by simp) (by simp) (by simp) (by simp) ?_
 intro j hj hI ih
 repeat first|((first|refine qa tOk rfl ?_|refine qb tOk rfl ?_|refine qh rfl ?_);simp)|refine qf ?_|refine qg ?_
 refine AWP_cond2 rfl (fun hlt => ?_) (fun hge => ?_)
 ·have hlt' : j < p.length := by have k : (j : Int) < T := (by simpa using hlt); omega
  have hw : IntKind.i64.wrap ((j : Int) + 1) = j + 1 := wrap_i64 _ (by omega) (by omega)
  rw [drop_get hlt', ckPs] at hI
  repeat first|((first|refine qa tOk rfl ?_|refine qb tOk rfl ?_|refine qh rfl ?_);simp [hlt'])|refine qf ?_|refine qg ?_
  refine AStep_PC rfl rfl (by simp) (pc_rCheck p[j]) rfl ?_
  rintro _ rfl
  simp
  repeat first|((first|refine qa tOk rfl ?_|refine qb tOk rfl ?_|refine qh rfl ?_);simp)|refine qf ?_|refine qg ?_
  refine AWP_cond2 rfl (fun h3 => ?_) (fun h3 => ?_)
  ·repeat first|((first|refine qa tOk rfl ?_|refine qb tOk rfl ?_|refine qh rfl ?_);simp)|refine qf ?_|refine qg ?_
   rw [hI, if_pos (by simpa using h3)]
  rw [if_neg (by simpa using h3)] at hI
  repeat first|((first|refine qa tOk rfl ?_|refine qb tOk rfl ?_|refine qh rfl ?_);simp [hw])|refine qf ?_|refine qg ?_
  refine ALoop_end _ (ih hlt' hI) rfl (by simp) ?_ (by simp) (by simp)
  simp
 ·have hge' : j = p.length := by have k : ¬ (j : Int) < T := (by simpa using hge); omega
  subst hge'
  repeat first|((first|refine qa tOk rfl ?_|refine qb tOk rfl ?_|refine qh rfl ?_);simp)|refine qf ?_|refine qg ?_
  rw [hI, List.drop_length]; rfl
end Go.Abs
set_option maxRecDepth 100000
namespace Go.Abs
open Go Go.Proofs
set_option linter.unusedSimpArgs false
def ownE : List Prd → Int
 | [] => 0
 | p :: r => if ckPrd p.length p ≠ 0 then ckPrd p.length p else ownE r
attribute [local irreducible] ckPrd
set_option maxHeartbeats 1000000 in
theorem pc_checked (l : List Prd) : PC Tryz.prog 157 [LP l] (fun r => r = .i (ownE l)) := by
 refine PC_body tOk Tryz.func157 rfl Tryz.results157 rfl (by simp [Tryz.ntmps157]) ?_
 rw [Tryz.ntmps157]
 simp only [argSlots]
 refine AWP_len 0 rfl (fun hlen => ?_)
 rw [List.length_map] at hlen
 repeat first|((first|refine qa tOk rfl ?_|refine qb tOk rfl ?_|refine qh rfl ?_);simp)|refine qf ?_|refine qg ?_
 refine AWP_countI l.length (fun j => ownE l = ownE (l.drop j)) (fun j => [(6, LP l), (7, .i l.length), (8, .i j)]) (fun _ => []) rfl (by simp) (by simp) (by simp) (by simp) (by simp) ?_
 intro j hj hI ih
 repeat first|((first|refine qa tOk rfl ?_|refine qb tOk rfl ?_|refine qh rfl ?_);simp)|refine qf ?_|refine qg ?_
 refine AWP_cond2 rfl (fun hlt => ?_) (fun hge => ?_)
 ·have hlt' : j < l.length := by simpa using hlt
  have hw : IntKind.i64.wrap ((j : Int) + 1) = j + 1 := wrap_i64 _ (by omega) (by omega)
  rw [drop_get hlt', ownE] at hI
  repeat first|((first|refine qa tOk rfl ?_|refine qb tOk rfl ?_|refine qh rfl ?_);simp [hlt'])|refine qf ?_|refine qg ?_
  refine AStep_PC rfl rfl (by simp) (pc_pCheck l[j].length l[j]) rfl ?_
  rintro _ rfl
  simp
  repeat first|((first|refine qa tOk rfl ?_|refine qb tOk rfl ?_|refine qh rfl ?_);simp)|refine qf ?_|refine qg ?_
  refine AWP_cond2 rfl (fun h3 => ?_) (fun h3 => ?_)
  ·repeat first|((first|refine qa tOk rfl ?_|refine qb tOk rfl ?_|refine qh rfl ?_);simp)|refine qf ?_|refine qg ?_
   rw [hI, if_pos (by simpa using h3)]
  rw [if_neg (by simpa using h3)] at hI
  repeat first|((first|refine qa tOk rfl ?_|refine qb tOk rfl ?_|refine qh rfl ?_);simp [hw])|refine qf ?_|refine qg ?_
  refine ALoop_end _ (ih hlt' hI) rfl (by simp) ?_ (by simp) (by simp)
  simp
 ·have hge' : j = l.length := by simp at hge; omega
  subst hge'
  repeat first|((first|refine qa tOk rfl ?_|refine qb tOk rfl ?_|refine qh rfl ?_);simp)|refine qf ?_|refine qg ?_
  rw [hI, List.drop_length]; rfl
def hasE (p : Prd) (x : Sy) : Int := if ownE [p] ≠ 0 then ownE [p] else ckSy p.length x
def hasF (p : Prd) (x : Sy) : Bool × Int := if hasE p x ≠ 0 then (false, hasE p x) else (hasS p x, 0)
attribute [local irreducible] ownE conR
theorem own_ok {T : Int} {p : Prd} (h : ckPrd T p = 0) : ownE [p] = 0 ∧ (p.length : Int) = T := by
 obtain ⟨h1, h2⟩ := (ckPrd_iff T p).1 h
 have hl : (p.length : Int) = T := by have := h2.1; omega
 exact ⟨by unfold ownE; rw [hl, if_neg (fun k => k h)]; unfold ownE; rfl, hl⟩
theorem own_canon {p : Prd} (h : ownE [p] = 0) : ∀ s ∈ p, CanonL s := by
 unfold ownE at h
 by_cases hc : ckPrd p.length p = 0
 ·exact ((ckPrd_iff _ p).1 hc).2.2
 ·rw [if_pos hc] at h; exact absurd h hc
set_option maxHeartbeats 1000000 in
theorem pc_pContains (p : Prd) (x : Sy) : PC Tryz.prog 99 [encP p, encSy x] (fun r => r = .tup [.bool (hasF p x).1, .i (hasF p x).2]) := by
 refine PC_body tOk Tryz.func99 rfl Tryz.results99 rfl (by simp [Tryz.ntmps99]) ?_
 rw [Tryz.ntmps99]
 simp only [argSlots]
 simp only [encP, encSy]
 refine AWP_lenAgg 0 0 rfl rfl (fun hlen => ?_)
 rw [List.length_map] at hlen
 repeat first|((first|refine qa tOk rfl ?_|refine qb tOk rfl ?_|refine qh rfl ?_);simp)|refine qf ?_|refine qg ?_
 refine AStep_freeze 2 rfl ?_
 simp
 refine AStep_PC rfl rfl (by simp) (pc_checked [p]) rfl ?_
 rintro _ rfl
 simp
 repeat first|((first|refine qa tOk rfl ?_|refine qb tOk rfl ?_|refine qh rfl ?_);simp)|refine qf ?_|refine qg ?_
 refine AWP_cond2 rfl (fun h => ?_) (fun h => ?_)
 ·repeat first|((first|refine qa tOk rfl ?_|refine qb tOk rfl ?_|refine qh rfl ?_);simp)|refine qf ?_|refine qg ?_
  have h' : ownE [p] ≠ 0 := by simpa using h
  have hE : hasE p x = ownE [p] := by rw [hasE, if_pos h']
  rw [hasF, hE, if_pos h']; exact ⟨rfl, rfl⟩
 have h' : ownE [p] = 0 := by simpa using h
 have hE : hasE p x = ckSy p.length x := by rw [hasE, if_neg (fun k => k h')]
 repeat first|((first|refine qa tOk rfl ?_|refine qb tOk rfl ?_|refine qh rfl ?_);simp)|refine qf ?_|refine qg ?_
 refine AWP_cond2 rfl (fun h1 => ?_) (fun h1 => ?_)
 ·repeat first|((first|refine qa tOk rfl ?_|refine qb tOk rfl ?_|refine qh rfl ?_);simp)|refine qf ?_|refine qg ?_
  have h1' : x.ty < 0 ∨ (p.length : Int) ≤ x.ty := by simpa using h1
  have hE2 : hasE p x = 6 := by rw [hE, ckSy, if_pos h1']
  rw [hasF, hE2]; exact ⟨rfl, rfl⟩
 have h1' : ¬ (x.ty < 0 ∨ (p.length : Int) ≤ x.ty) := by simpa using h1
 repeat first|((first|refine qa tOk rfl ?_|refine qb tOk rfl ?_|refine qh rfl ?_);simp)|refine qf ?_|refine qg ?_
 refine AWP_cond2 rfl (fun h2 => ?_) (fun h2 => ?_)
 ·repeat first|((first|refine qa tOk rfl ?_|refine qb tOk rfl ?_|refine qh rfl ?_);simp)|refine qf ?_|refine qg ?_
  have h2' : x.num < -1099511627776 ∨ 1099511627776 < x.num := by simpa using h2
  have hE2 : hasE p x = 2 := by rw [hE, ckSy, if_neg h1', if_pos h2']
  rw [hasF, hE2]; exact ⟨rfl, rfl⟩
 have h2' : ¬ (x.num < -1099511627776 ∨ 1099511627776 < x.num) := by simpa using h2
 have hE2 : hasE p x = 0 := by rw [hE, ckSy, if_neg h1', if_neg h2']
 repeat first|((first|refine qa tOk rfl ?_|refine qb tOk rfl ?_|refine qh rfl ?_);simp)|refine qf ?_|refine qg ?_
 have ht0 : 0 ≤ x.ty := by omega
 have ht1 : x.ty < (p.length : Int) := by omega
 have ht2 : x.ty.toNat < p.length := by omega
 refine AWP_drawT tOk mixed [] (.val 0 (.val 1 (.val 2 (.val 3 (.val 4 (.val 5 (.val 6 (.val 7 (.one 8 (.val 9 (.val 10 (.val 11 (.val 12 (.done)))))))))))))) rfl (by kernel_rfl) ?_
 simp [ht0, ht1, ht2]
 refine AStep_PC rfl rfl (by simp) (pc_Contains p[x.ty.toNat] x.num) rfl ?_
 rintro _ rfl
 simp
 repeat first|((first|refine qa tOk rfl ?_|refine qb tOk rfl ?_|refine qh rfl ?_);simp)|refine qf ?_|refine qg ?_
 have hc := own_canon h' _ (List.getElem_mem ht2)
 have hcon : conR p[x.ty.toNat] x.num = (hasR p[x.ty.toNat] x.num, 0) := by rw [conR, if_pos ((ck_iff _).2 hc)]
 rw [hasF, hE2, if_neg (fun k => k rfl), hcon]
 refine ⟨?_, rfl⟩
 simp [hasS, ht0, ht1, List.getD, ht2]
theorem hasF_ok {T : Int} {p : Prd} (h : ckPrd T p = 0) (x : Sy) : hasF p x = if ckSy T x ≠ 0 then (false, ckSy T x) else (hasS p x, 0) := by
 obtain ⟨h1, h2⟩ := own_ok h
 have hE : hasE p x = ckSy T x := by rw [hasE, if_neg (fun k => k h1), h2]
 rw [hasF, hE]
end Go.Abs
set_option maxRecDepth 100000
namespace Go.Abs
open Go Go.Proofs
set_option linter.unusedSimpArgs false
abbrev cellsA (a : Aut) : List AV := [.i a.types, .list (a.fin.map .bool), .list (a.mv.map encMv)]
theorem pc_dhas (p : Prd) (x : Sy) : PC Tryz.prog 175 [encP p, encSy x] (fun r => r = .bool ((hasF p x).2 == 0 && (hasF p x).1)) := by
 refine PC_body tOk Tryz.func175 rfl Tryz.results175 rfl (by simp [Tryz.ntmps175]) ?_
 rw [Tryz.ntmps175]
 simp only [argSlots]
 simp only [encP, encSy]
 repeat first|((first|refine qa tOk rfl ?_|refine qb tOk rfl ?_|refine qh rfl ?_);simp)|refine qf ?_|refine qg ?_
 refine AStep_PC rfl rfl (by simp) (pc_pContains p x) rfl ?_
 rintro _ rfl
 simp
 repeat first|((first|refine qa tOk rfl ?_|refine qb tOk rfl ?_|refine qh rfl ?_);simp)|refine qf ?_|refine qg ?_
theorem pc_scontains (p : Prd) (x : Sy) : PC Tryz.prog 111 [encP p, encSy x] (fun r => r = .bool ((hasF p x).1 && (hasF p x).2 == 0)) := by
 refine PC_body tOk Tryz.func111 rfl Tryz.results111 rfl (by simp [Tryz.ntmps111]) ?_
 rw [Tryz.ntmps111]
 simp only [argSlots]
 simp only [encP, encSy]
 repeat first|((first|refine qa tOk rfl ?_|refine qb tOk rfl ?_|refine qh rfl ?_);simp)|refine qf ?_|refine qg ?_
 refine AStep_PC rfl rfl (by simp) (pc_pContains p x) rfl ?_
 rintro _ rfl
 simp
 repeat first|((first|refine qa tOk rfl ?_|refine qb tOk rfl ?_|refine qh rfl ?_);simp)|refine qf ?_|refine qg ?_
def stB (a : Aut) (n : Int) : Bool := decide (0 ≤ n) && decide (n < a.fin.length)
theorem stB_iff (a : Aut) (n : Int) : stB a n = true ↔ 0 ≤ n ∧ n < a.fin.length := by simp [stB]
theorem fc_state (H : List AObj) (id : Nat) (a : Aut) (hid : H[id]? = some (.vars (cellsA a))) (n : Int) : FC Tryz.prog 134 [.i n, .vptr id 0] H (fun r H' => r = .bool (stB a n) ∧ H' = H) := by
 refine FC_body tOk Tryz.func134 rfl Tryz.results134 rfl (by simp [Tryz.ntmps134]) ?_
 rw [Tryz.ntmps134]
 simp only [argSlots]
 repeat first|((first|refine qa tOk rfl ?_|refine qb tOk rfl ?_|refine qh rfl ?_);simp [hid, stB])|refine qf ?_|refine qg ?_
attribute [local irreducible] ckPrd stB
set_option maxHeartbeats 2000000 in
theorem pc_sCheck (a : Aut) : PC Tryz.prog 73 [encA a] (fun r => r = .i (ckAut a)) := by
 refine PC_body tOk Tryz.func73 rfl Tryz.results73 rfl (by simp [Tryz.ntmps73]) ?_
 rw [Tryz.ntmps73]
 simp only [argSlots]
 simp only [encA]
 refine AWP_lenAgg 0 1 rfl rfl (fun hlf => ?_)
 refine AWP_lenAgg 0 2 rfl rfl (fun hlm => ?_)
 rw [List.length_map] at hlf hlm
 repeat first|((first|refine qa tOk rfl ?_|refine qb tOk rfl ?_|refine qh rfl ?_);simp)|refine qf ?_|refine qg ?_
 refine AWP_cond2 rfl (fun h => ?_) (fun h => ?_)
 ·repeat first|((first|refine qa tOk rfl ?_|refine qb tOk rfl ?_|refine qh rfl ?_);simp)|refine qf ?_|refine qg ?_
  rw [ckAut, if_pos (by simpa using h)]
 have h1 : ¬ (a.types < 1 ∨ 16 < a.types) := by simpa using h
 repeat first|((first|refine qa tOk rfl ?_|refine qb tOk rfl ?_|refine qh rfl ?_);simp)|refine qf ?_|refine qg ?_
 refine AWP_cond2 rfl (fun h => ?_) (fun h => ?_)
 ·repeat first|((first|refine qa tOk rfl ?_|refine qb tOk rfl ?_|refine qh rfl ?_);simp)|refine qf ?_|refine qg ?_
  rw [ckAut, if_neg h1, if_pos]
  simp at h; omega
 have h2 : ¬ (a.fin.length < 1 ∨ 256 < a.fin.length ∨ 2048 < a.mv.length) := by simp at h; omega
 have hE : ckAut a = ckMv a.types a.fin.length a.mv := by rw [ckAut, if_neg h1, if_neg h2]
 rw [hE]
 repeat first|((first|refine qa tOk rfl ?_|refine qb tOk rfl ?_|refine qh rfl ?_);simp)|refine qf ?_|refine qg ?_
 refine AWP_countI a.mv.length (fun j => ckMv a.types a.fin.length a.mv = ckMv a.types a.fin.length (a.mv.drop j)) (fun j => [(1, .vptr 0 0), (3, .fn (.func 134) [] [.vptr 0 0]), (33, .list (a.mv.map encMv)), (34, .i a.mv.length), (35, .i j)]) (fun _ => [.vars (cellsA a)]) rfl (by simp) (by simp) (by simp) (by simp) (by simp) ?_
 intro j hj hI ih
 repeat first|((first|refine qa tOk rfl ?_|refine qb tOk rfl ?_|refine qh rfl ?_);simp)|refine qf ?_|refine qg ?_
 refine AWP_cond2 rfl (fun hlt => ?_) (fun hge => ?_)
 ·have hlt' : j < a.mv.length := by simpa using hlt
  have hw : IntKind.i64.wrap ((j : Int) + 1) = j + 1 := wrap_i64 _ (by omega) (by omega)
  rw [drop_get hlt', ckMv] at hI
  repeat first|((first|refine qa tOk rfl ?_|refine qb tOk rfl ?_|refine qh rfl ?_);simp [hlt'])|refine qf ?_|refine qg ?_
  cases hb : stB a a.mv[j].src with
  | false =>
   refine AStep_FC rfl rfl (fc_state _ 0 a rfl a.mv[j].src) rfl ?_
   rintro r H' ⟨rfl, rfl⟩
   simp [hb]
   repeat first|((first|refine qa tOk rfl ?_|refine qb tOk rfl ?_|refine qh rfl ?_);simp)|refine qf ?_|refine qg ?_
   refine AStep_skip rfl rfl ?_
   simp
   refine AWP_cond rfl ?_
   repeat first|((first|refine qa tOk rfl ?_|refine qb tOk rfl ?_|refine qh rfl ?_);simp)|refine qf ?_|refine qg ?_
   rw [hI, if_pos (fun k => by rw [(stB_iff _ _).2 k.1] at hb; cases hb)]
  | true =>
   refine AStep_FC rfl rfl (fc_state _ 0 a rfl a.mv[j].src) rfl ?_
   rintro r H' ⟨rfl, rfl⟩
   simp [hb]
   repeat first|((first|refine qa tOk rfl ?_|refine qb tOk rfl ?_|refine qh rfl ?_);simp)|refine qf ?_|refine qg ?_
   refine AStep_FC rfl rfl (fc_state _ 0 a rfl a.mv[j].dst) rfl ?_
   rintro r H' ⟨rfl, rfl⟩
   simp
   repeat first|((first|refine qa tOk rfl ?_|refine qb tOk rfl ?_|refine qh rfl ?_);simp)|refine qf ?_|refine qg ?_
   refine AWP_cond2 rfl (fun h3 => ?_) (fun h3 => ?_)
   ·repeat first|((first|refine qa tOk rfl ?_|refine qb tOk rfl ?_|refine qh rfl ?_);simp)|refine qf ?_|refine qg ?_
    rw [hI, if_pos (fun k => by rw [(stB_iff _ _).2 k.2] at h3; cases h3)]
   have hd : stB a a.mv[j].dst = true := by simpa using h3
   rw [if_neg (fun k => k ⟨(stB_iff _ _).1 hb, (stB_iff _ _).1 hd⟩)] at hI
   repeat first|((first|refine qa tOk rfl ?_|refine qb tOk rfl ?_|refine qh rfl ?_);simp)|refine qf ?_|refine qg ?_
   refine AStep_PC rfl rfl (by simp) (pc_pCheck a.types a.mv[j].on) rfl ?_
   rintro _ rfl
   simp
   repeat first|((first|refine qa tOk rfl ?_|refine qb tOk rfl ?_|refine qh rfl ?_);simp)|refine qf ?_|refine qg ?_
   refine AWP_cond2 rfl (fun h4 => ?_) (fun h4 => ?_)
   ·repeat first|((first|refine qa tOk rfl ?_|refine qb tOk rfl ?_|refine qh rfl ?_);simp)|refine qf ?_|refine qg ?_
    rw [hI, if_pos (by simpa using h4)]
   rw [if_neg (by simpa using h4)] at hI
   repeat first|((first|refine qa tOk rfl ?_|refine qb tOk rfl ?_|refine qh rfl ?_);simp [hw])|refine qf ?_|refine qg ?_
   refine ALoop_end _ (ih hlt' hI) rfl (by simp) ?_ (by simp) (by simp)
   simp
 ·have hge' : j = a.mv.length := by simp at hge; omega
  subst hge'
  repeat first|((first|refine qa tOk rfl ?_|refine qb tOk rfl ?_|refine qh rfl ?_);simp)|refine qf ?_|refine qg ?_
  rw [hI, List.drop_length]; rfl
set_option maxHeartbeats 2000000 in
theorem pc_rsCheck (a : Aut) : PC Tryz.prog 51 [encA a] (fun r => r = .i (ckAut a)) := by
 refine PC_body tOk Tryz.func51 rfl Tryz.results51 rfl (by simp [Tryz.ntmps51]) ?_
 rw [Tryz.ntmps51]
 simp only [argSlots]
 simp only [encA]
 refine AWP_lenAgg 0 1 rfl rfl (fun hlf => ?_)
 refine AWP_lenAgg 0 2 rfl rfl (fun hlm => ?_)
 rw [List.length_map] at hlf hlm
 repeat first|((first|refine qa tOk rfl ?_|refine qb tOk rfl ?_|refine qh rfl ?_);simp)|refine qf ?_|refine qg ?_
 refine AWP_cond2 rfl (fun h => ?_) (fun h => ?_)
 ·repeat first|((first|refine qa tOk rfl ?_|refine qb tOk rfl ?_|refine qh rfl ?_);simp)|refine qf ?_|refine qg ?_
  rw [ckAut, if_pos (by simpa using h)]
 have h1 : ¬ (a.types < 1 ∨ 16 < a.types) := by simpa using h
 repeat first|((first|refine qa tOk rfl ?_|refine qb tOk rfl ?_|refine qh rfl ?_);simp)|refine qf ?_|refine qg ?_
 refine AWP_cond2 rfl (fun h => ?_) (fun h => ?_)
 ·repeat first|((first|refine qa tOk rfl ?_|refine qb tOk rfl ?_|refine qh rfl ?_);simp)|refine qf ?_|refine qg ?_
  rw [ckAut, if_neg h1, if_pos]
  simp at h; omega
 have h2 : ¬ (a.fin.length < 1 ∨ 256 < a.fin.length ∨ 2048 < a.mv.length) := by simp at h; omega
 have hE : ckAut a = ckMv a.types a.fin.length a.mv := by rw [ckAut, if_neg h1, if_neg h2]
 rw [hE]
 repeat first|((first|refine qa tOk rfl ?_|refine qb tOk rfl ?_|refine qh rfl ?_);simp)|refine qf ?_|refine qg ?_
 refine AWP_countI a.mv.length (fun j => ckMv a.types a.fin.length a.mv = ckMv a.types a.fin.length (a.mv.drop j)) (fun j => [(1, .vptr 0 0), (3, .i a.fin.length), (4, .i j)]) (fun _ => [.vars (cellsA a)]) rfl (by simp) (by simp) (by simp) (by simp) (by simp) ?_
 intro j hj hI ih
 repeat first|((first|refine qa tOk rfl ?_|refine qb tOk rfl ?_|refine qh rfl ?_);simp)|refine qf ?_|refine qg ?_
 refine AWP_cond2 rfl (fun hlt => ?_) (fun hge => ?_)
 ·have hlt' : j < a.mv.length := by simpa using hlt
  have hw : IntKind.i64.wrap ((j : Int) + 1) = j + 1 := wrap_i64 _ (by omega) (by omega)
  rw [drop_get hlt', ckMv] at hI
  repeat first|((first|refine qa tOk rfl ?_|refine qb tOk rfl ?_|refine qh rfl ?_);simp [hlt'])|refine qf ?_|refine qg ?_
  refine AWP_cond2 rfl (fun h3 => ?_) (fun h3 => ?_)
  ·repeat first|((first|refine qa tOk rfl ?_|refine qb tOk rfl ?_|refine qh rfl ?_);simp)|refine qf ?_|refine qg ?_
   rw [hI, if_pos]
   simp at h3; omega
  rw [if_neg (by simp at h3 ⊢; omega)] at hI
  repeat first|((first|refine qa tOk rfl ?_|refine qb tOk rfl ?_|refine qh rfl ?_);simp)|refine qf ?_|refine qg ?_
  refine AStep_PC rfl rfl (by simp) (pc_rpCheck a.types a.mv[j].on) rfl ?_
  rintro _ rfl
  simp
  repeat first|((first|refine qa tOk rfl ?_|refine qb tOk rfl ?_|refine qh rfl ?_);simp)|refine qf ?_|refine qg ?_
  refine AWP_cond2 rfl (fun h4 => ?_) (fun h4 => ?_)
  ·repeat first|((first|refine qa tOk rfl ?_|refine qb tOk rfl ?_|refine qh rfl ?_);simp)|refine qf ?_|refine qg ?_
   rw [hI, if_pos (by simpa using h4)]
  rw [if_neg (by simpa using h4)] at hI
  repeat first|((first|refine qa tOk rfl ?_|refine qb tOk rfl ?_|refine qh rfl ?_);simp [hw])|refine qf ?_|refine qg ?_
  refine ALoop_end _ (ih hlt' hI) rfl (by simp) ?_ (by simp) (by simp)
  simp
 ·have hge' : j = a.mv.length := by simp at hge; omega
  subst hge'
  repeat first|((first|refine qa tOk rfl ?_|refine qb tOk rfl ?_|refine qh rfl ?_);simp)|refine qf ?_|refine qg ?_
  rw [hI, List.drop_length]; rfl
end Go.Abs
set_option maxRecDepth 100000
namespace Go.Abs
open Go Go.Proofs
set_option linter.unusedSimpArgs false
attribute [local irreducible] ckR hasR
set_option maxHeartbeats 1000000 in
theorem pc_rHas (l : List Iv) (n : Int) (hl : l.length ≤ 1000000000) : PC Tryz.prog 183 [LIv l, .i n] (fun r => r = .bool (hasR l n)) := by
 refine PC_body tOk Tryz.func183 rfl Tryz.results183 rfl (by simp [Tryz.ntmps183]) ?_
 rw [Tryz.ntmps183]
 simp only [argSlots]
 obtain ⟨R, hR⟩ : ∃ R, hasR l n = R := ⟨_, rfl⟩
 rw [hR]
 repeat first|((first|refine qa tOk rfl ?_|refine qb tOk rfl ?_|refine qh rfl ?_);simp)|refine qf ?_|refine qg ?_
 refine AWP_countI l.length (fun j => hasR (l.drop j) n = R) (fun j => [(0, LIv l), (1, .i n), (5, .i j)]) (fun _ => []) rfl (by simp) (by simp) (by simp) (by simp) (by simpa using hR) ?_
 intro j hj hI ih
 repeat first|((first|refine qa tOk rfl ?_|refine qb tOk rfl ?_|refine qh rfl ?_);simp)|refine qf ?_|refine qg ?_
 refine AWP_cond2 rfl (fun hlt => ?_) (fun hge => ?_)
 ·have hlt' : j < l.length := by simpa using hlt
  have hw : IntKind.i64.wrap ((j : Int) + 1) = j + 1 := wrap_i64 _ (by omega) (by omega)
  rw [drop_get hlt', has_cons] at hI
  by_cases h1 : l[j].lo ≤ n
  ·by_cases h2 : n ≤ l[j].hi
   ·rw [(inI_iff ..).2 ⟨h1, h2⟩, Bool.true_or] at hI
    repeat first|((first|refine qa tOk rfl ?_|refine qb tOk rfl ?_|refine qh rfl ?_);simp [hlt', h1, h2])|refine qf ?_|refine qg ?_
    refine AWP_cond rfl ?_
    repeat first|((first|refine qa tOk rfl ?_|refine qb tOk rfl ?_|refine qh rfl ?_);simp)|refine qf ?_|refine qg ?_
    exact hI.symm
   ·have h3 : inI l[j].lo l[j].hi n = false := by rw [Bool.eq_false_iff, Ne, inI_iff]; omega
    rw [h3, Bool.false_or] at hI
    repeat first|((first|refine qa tOk rfl ?_|refine qb tOk rfl ?_|refine qh rfl ?_);simp [hlt', h1, h2])|refine qf ?_|refine qg ?_
    refine AWP_cond rfl ?_
    repeat first|((first|refine qa tOk rfl ?_|refine qb tOk rfl ?_|refine qh rfl ?_);simp [hw])|refine qf ?_|refine qg ?_
    exact ALoop_end _ (ih hlt' hI) rfl (by simp) (by simp) (by simp) (by simp)
  ·have h3 : inI l[j].lo l[j].hi n = false := by rw [Bool.eq_false_iff, Ne, inI_iff]; omega
   rw [h3, Bool.false_or] at hI
   repeat first|((first|refine qa tOk rfl ?_|refine qb tOk rfl ?_|refine qh rfl ?_);simp [hlt', h1])|refine qf ?_|refine qg ?_
   refine AWP_cond rfl ?_
   repeat first|((first|refine qa tOk rfl ?_|refine qb tOk rfl ?_|refine qh rfl ?_);simp [hw])|refine qf ?_|refine qg ?_
   exact ALoop_end _ (ih hlt' hI) rfl (by simp) (by simp) (by simp) (by simp)
 ·have hge' : j = l.length := by simp at hge; omega
  subst hge'
  rw [List.drop_length] at hI
  repeat first|((first|refine qa tOk rfl ?_|refine qb tOk rfl ?_|refine qh rfl ?_);simp)|refine qf ?_|refine qg ?_
  rw [← hI]; unfold hasR; rfl
theorem fm_cons (x y : Iv) (b : List Iv) : (y :: b).filterMap (meetR x) = (meetR x y).toList ++ b.filterMap (meetR x) := by
 cases h : meetR x y <;> simp [h]
def rowR (x : Iv) (b : List Iv) : List Iv := b.filterMap (meetR x)
theorem pairs_cons' (x : Iv) (a b : List Iv) : pairsR (x :: a) b = rowR x b ++ pairsR a b := rfl
theorem row_cons (x y : Iv) (b : List Iv) : rowR x (y :: b) = (meetR x y).toList ++ rowR x b := fm_cons x y b
theorem row_nil (x : Iv) : rowR x [] = [] := rfl
theorem pairs_nil (b : List Iv) : pairsR [] b = [] := rfl
attribute [local irreducible] pairsR rowR normR
set_option maxHeartbeats 2000000 in
theorem pc_rBoth (a b : List Iv) (ha : a.length ≤ 1000000000) (hb : b.length ≤ 1000000000) (hP : (pairsR a b).length ≤ 1000000000) (hin : ∀ y ∈ pairsR a b, ivIn y) : PC Tryz.prog 166 [LIv a, LIv b] (fun r => r = LIv (normR (pairsR a b))) := by
 refine PC_body tOk Tryz.func166 rfl Tryz.results166 rfl (by simp [Tryz.ntmps166]) ?_
 rw [Tryz.ntmps166]
 simp only [argSlots]
 repeat first|((first|refine qa tOk rfl ?_|refine qb tOk rfl ?_|refine qh rfl ?_);simp)|refine qf ?_|refine qg ?_
 refine AWP_nilSlot 5 187 2 rfl ?_
 simp
 repeat first|((first|refine qa tOk rfl ?_|refine qb tOk rfl ?_|refine qh rfl ?_);simp)|refine qf ?_|refine qg ?_
 refine AWP_loop (ALoop_keep (sl' := [(0, LIv a), (1, LIv b), (5, .sl 0 2 0 0), (6, .i 0)]) ?_ (by simp))
 refine ALoop_wf (F := fun (u : Nat × Nat × List Iv × List AObj) => ⟨[(0, LIv a), (1, LIv b), (5, .sl u.2.1 2 0 u.2.2.1.length), (6, .i u.1)], u.2.2.2⟩)
  (fun u => u.1 ≤ a.length ∧ u.2.2.2[u.2.1]? = some (.arr 187 2 (u.2.2.1.map encIv)) ∧ u.2.2.1 ++ pairsR (a.drop u.1) b = pairsR a b) (fun u => a.length - u.1) ?_ (0, 0, [], [.arr 187 2 []]) ⟨by simp, rfl, by simp⟩
 rintro ⟨j, q, acc, H2⟩ ⟨hj, g1, g2⟩ ih
 simp only at hj g1 g2 ih ⊢
 repeat first|((first|refine qa tOk rfl ?_|refine qb tOk rfl ?_|refine qh rfl ?_);simp)|refine qf ?_|refine qg ?_
 refine AWP_cond2 rfl (fun hlt => ?_) (fun hge => ?_)
 ·have hlt' : j < a.length := by simpa using hlt
  have hw : IntKind.i64.wrap ((j : Int) + 1) = j + 1 := wrap_i64 _ (by omega) (by omega)
  rw [drop_get hlt', pairs_cons'] at g2
  repeat first|((first|refine qa tOk rfl ?_|refine qb tOk rfl ?_|refine qh rfl ?_);simp)|refine qf ?_|refine qg ?_
  refine AWP_loop (ALoop_keep (sl' := [(0, LIv a), (1, LIv b), (5, .sl q 2 0 acc.length), (6, .i j), (7, .i 0)]) ?_ (by simp))
  refine ALoop_wf (F := fun (u : Nat × Nat × List Iv × List AObj) => ⟨[(0, LIv a), (1, LIv b), (5, .sl u.2.1 2 0 u.2.2.1.length), (6, .i j), (7, .i u.1)], u.2.2.2⟩)
   (fun u => u.1 ≤ b.length ∧ u.2.2.2[u.2.1]? = some (.arr 187 2 (u.2.2.1.map encIv)) ∧ u.2.2.1 ++ (rowR a[j] (b.drop u.1) ++ pairsR (a.drop (j + 1)) b) = pairsR a b) (fun u => b.length - u.1) ?_ (0, q, acc, H2) ⟨by simp, g1, by simpa using g2⟩
  rintro ⟨k, q1, acc1, H3⟩ ⟨hk, e1, e2⟩ ih1
  simp only at hk e1 e2 ih1 ⊢
  repeat first|((first|refine qa tOk rfl ?_|refine qb tOk rfl ?_|refine qh rfl ?_);simp)|refine qf ?_|refine qg ?_
  refine AWP_cond2 rfl (fun hlt1 => ?_) (fun hge1 => ?_)
  ·have hlt1' : k < b.length := by simpa using hlt1
   have hw1 : IntKind.i64.wrap ((k : Int) + 1) = k + 1 := wrap_i64 _ (by omega) (by omega)
   rw [drop_get hlt1', row_cons] at e2
   have hal : acc1.length ≤ 1000000000 := by have := congrArg List.length e2; simp only [List.length_append] at this; omega
   obtain ⟨lo, hlo⟩ : ∃ z, (if a[j].lo < b[k].lo then b[k].lo else a[j].lo) = z := ⟨_, rfl⟩
   obtain ⟨hi, hhi⟩ : ∃ z, (if b[k].hi < a[j].hi then b[k].hi else a[j].hi) = z := ⟨_, rfl⟩
   have hm : meetR a[j] b[k] = if lo ≤ hi then some ⟨lo, hi⟩ else none := by simp only [meetR, hlo, hhi]
   rw [hm] at e2
   repeat first|((first|refine qa tOk rfl ?_|refine qb tOk rfl ?_|refine qh rfl ?_);simp [hlt', hlt1'])|refine qf ?_|refine qg ?_
   refine AWP_drawT tOk mixed [] (.val 0 (.val 1 (.val 2 (.val 3 (.val 4 (.val 5 (.val 6 (.val 7 (.val 8 (.val 9 (.val 10 (.val 11 (.val 12 (.val 13 (.val 14 (.val 15 (.val 16 (.val 17 (.val 18 (.val 19 (.val 20 (.val 21 (.val 22 (.val 23 (.done))))))))))))))))))))))))) rfl (by kernel_rfl) ?_
   simp [hlt', hlt1', hlo, hhi]
   repeat first|((first|refine qa tOk rfl ?_|refine qb tOk rfl ?_|refine qh rfl ?_);simp)|refine qf ?_|refine qg ?_
   refine AWP_cond2 rfl (fun h3 => ?_) (fun h3 => ?_)
   ·rw [if_pos (by simpa using h3)] at e2
    repeat first|((first|refine qa tOk rfl ?_|refine qb tOk rfl ?_|refine qh rfl ?_);simp)|refine qf ?_|refine qg ?_
    refine AStep_appendS tOk rfl rfl T171 rfl T187 rfl (by decide) (by decide) rfl rfl rfl ?_
    simp [get_app e1, set_app e1]
    refine ⟨by simp [appOk, get_app e1, set_app e1] <;> omega, ?_⟩
    repeat first|((first|refine qa tOk rfl ?_|refine qb tOk rfl ?_|refine qh rfl ?_);simp [hw1])|refine qf ?_|refine qg ?_
    exact ALoop_keep (sl' := [(0, LIv a), (1, LIv b), (5, .sl (H3.length + 1) 2 0 (acc1.length + 1)), (6, .i j), (7, .i (k + 1 : Nat))]) (by
     have := ih1 (k + 1, H3.length + 1, acc1 ++ [(⟨lo, hi⟩ : Iv)], H3.set q1 .dead ++ [.arr 187 2 [encIv (⟨lo, hi⟩ : Iv)], .arr 187 2 ((acc1 ++ [(⟨lo, hi⟩ : Iv)]).map encIv)]) ⟨by simp; omega, by simp only; rw [List.getElem?_append_right (by simp)]; simp, by simpa using e2⟩ (by simp; omega)
     simpa using this) (by simp)
   ·rw [if_neg (by simpa using h3)] at e2
    repeat first|((first|refine qa tOk rfl ?_|refine qb tOk rfl ?_|refine qh rfl ?_);simp [hw1])|refine qf ?_|refine qg ?_
    exact ALoop_keep (sl' := [(0, LIv a), (1, LIv b), (5, .sl q1 2 0 acc1.length), (6, .i j), (7, .i (k + 1 : Nat))]) (by
     have := ih1 (k + 1, q1, acc1, H3) ⟨by simp; omega, e1, by simpa using e2⟩ (by simp; omega)
     simpa using this) (by simp)
  ·have hge1' : k = b.length := by simp at hge1; omega
   subst hge1'
   rw [List.drop_length, row_nil, List.nil_append] at e2
   repeat first|((first|refine qa tOk rfl ?_|refine qb tOk rfl ?_|refine qh rfl ?_);simp [hw])|refine qf ?_|refine qg ?_
   exact ALoop_keep (sl' := [(0, LIv a), (1, LIv b), (5, .sl q1 2 0 acc1.length), (6, .i (j + 1 : Nat))]) (by
    have := ih (j + 1, q1, acc1, H3) ⟨by simp; omega, e1, e2⟩ (by simp; omega)
    simpa using this) (by simp)
 ·have hge' : j = a.length := by simp at hge; omega
  subst hge'
  rw [List.drop_length, pairs_nil, List.append_nil] at g2
  subst g2
  repeat first|((first|refine qa tOk rfl ?_|refine qb tOk rfl ?_|refine qh rfl ?_);simp)|refine qf ?_|refine qg ?_
  refine AStep_freeze q g1 ?_
  simp
  rw [List.take_of_length_le (by simp)]
  refine AStep_PC rfl rfl (by simp) (pc_Normal (pairsR a b) hP hin) rfl ?_
  rintro _ rfl
  simp
  repeat first|((first|refine qa tOk rfl ?_|refine qb tOk rfl ?_|refine qh rfl ?_);simp)|refine qf ?_|refine qg ?_
theorem gapFrom_cons' (x : Iv) (r : List Iv) (n : Int) : gapFrom (x :: r) n = (if n < x.lo then [⟨n, x.lo - 1⟩] else []) ++ gapFrom r (x.hi + 1) := rfl
theorem gapFrom_nil' (n : Int) : gapFrom [] n = if n ≤ 1099511627776 then [⟨n, 1099511627776⟩] else [] := rfl
theorem gaps_def (l : List Iv) : gapFrom l (-1099511627776) = gapsR l := rfl
attribute [local irreducible] gapsR gapFrom
set_option maxHeartbeats 2000000 in
theorem pc_rRestW (l : List Iv) (hs : Sep l) (hb : ∀ n, M l n → inR n) (hlen : l.length ≤ 1000000000) : PC Tryz.prog 136 [LIv l] (fun r => r = LIv (gapsR l)) := by
 refine PC_body tOk Tryz.func136 rfl Tryz.results136 rfl (by simp [Tryz.ntmps136]) ?_
 rw [Tryz.ntmps136]
 simp only [argSlots]
 have hgl := (gaps_wf hs hb).2.2
 repeat first|((first|refine qa tOk rfl ?_|refine qb tOk rfl ?_|refine qh rfl ?_);simp)|refine qf ?_|refine qg ?_
 refine AWP_nilSlot 3 187 2 rfl ?_
 simp
 repeat first|((first|refine qa tOk rfl ?_|refine qb tOk rfl ?_|refine qh rfl ?_);simp)|refine qf ?_|refine qg ?_
 refine AWP_loop (ALoop_keep (sl' := [(0, LIv l), (3, .sl 0 2 0 0), (4, .i (-1099511627776)), (5, .i 0)]) ?_ (by simp))
 refine ALoop_wf (F := fun (u : Nat × Nat × List Iv × Int × List AObj) => ⟨[(0, LIv l), (3, .sl u.2.1 2 0 u.2.2.1.length), (4, .i u.2.2.2.1), (5, .i u.1)], u.2.2.2.2⟩)
  (fun u => u.1 ≤ l.length ∧ u.2.2.2.2[u.2.1]? = some (.arr 187 2 (u.2.2.1.map encIv)) ∧ u.2.2.1 ++ gapFrom (l.drop u.1) u.2.2.2.1 = gapsR l) (fun u => l.length - u.1) ?_ (0, 0, [], -1099511627776, [.arr 187 2 []]) ⟨by simp, rfl, by simp [gaps_def]⟩
 rintro ⟨j, q, acc, n, H2⟩ ⟨hj, g1, g2⟩ ih
 simp only at hj g1 g2 ih ⊢
 have hal : acc.length ≤ 1000000001 := by have := congrArg List.length g2; simp only [List.length_append] at this; omega
 repeat first|((first|refine qa tOk rfl ?_|refine qb tOk rfl ?_|refine qh rfl ?_);simp)|refine qf ?_|refine qg ?_
 refine AWP_cond2 rfl (fun hlt => ?_) (fun hge => ?_)
 ·have hlt' : j < l.length := by simpa using hlt
  have hv1 := hb _ ⟨l[j], List.getElem_mem hlt', Int.le_refl _, hs.1 _ (List.getElem_mem hlt')⟩
  have hv2 := hb _ ⟨l[j], List.getElem_mem hlt', hs.1 _ (List.getElem_mem hlt'), Int.le_refl _⟩
  unfold inR at hv1 hv2
  have hw : IntKind.i64.wrap ((j : Int) + 1) = j + 1 := wrap_i64 _ (by omega) (by omega)
  have hw1 : IntKind.i64.wrap (l[j].lo - 1) = l[j].lo - 1 := wrap_i64 _ (by omega) (by omega)
  have hw2 : IntKind.i64.wrap (l[j].hi + 1) = l[j].hi + 1 := wrap_i64 _ (by omega) (by omega)
  rw [drop_get hlt', gapFrom_cons'] at g2
  repeat first|((first|refine qa tOk rfl ?_|refine qb tOk rfl ?_|refine qh rfl ?_);simp [hlt'])|refine qf ?_|refine qg ?_
  refine AWP_cond2 rfl (fun h3 => ?_) (fun h3 => ?_)
  ·rw [if_pos (by simpa using h3)] at g2
   repeat first|((first|refine qa tOk rfl ?_|refine qb tOk rfl ?_|refine qh rfl ?_);simp [hlt', hw1])|refine qf ?_|refine qg ?_
   refine AStep_appendS tOk rfl rfl T171 rfl T187 rfl (by decide) (by decide) rfl rfl rfl ?_
   simp [get_app g1, set_app g1]
   refine ⟨by simp [appOk, get_app g1, set_app g1] <;> omega, ?_⟩
   repeat first|((first|refine qa tOk rfl ?_|refine qb tOk rfl ?_|refine qh rfl ?_);simp [hlt', hw, hw2])|refine qf ?_|refine qg ?_
   exact ALoop_keep (sl' := [(0, LIv l), (3, .sl (H2.length + 1) 2 0 (acc.length + 1)), (4, .i (l[j].hi + 1)), (5, .i (j + 1 : Nat))]) (by
    have := ih (j + 1, H2.length + 1, acc ++ [(⟨n, l[j].lo - 1⟩ : Iv)], l[j].hi + 1, H2.set q .dead ++ [.arr 187 2 [encIv (⟨n, l[j].lo - 1⟩ : Iv)], .arr 187 2 ((acc ++ [(⟨n, l[j].lo - 1⟩ : Iv)]).map encIv)]) ⟨by simp; omega, by simp only; rw [List.getElem?_append_right (by simp)]; simp, by simpa using g2⟩ (by simp; omega)
    simpa using this) (by simp)
  ·rw [if_neg (by simpa using h3)] at g2
   repeat first|((first|refine qa tOk rfl ?_|refine qb tOk rfl ?_|refine qh rfl ?_);simp [hlt', hw, hw2])|refine qf ?_|refine qg ?_
   exact ALoop_keep (sl' := [(0, LIv l), (3, .sl q 2 0 acc.length), (4, .i (l[j].hi + 1)), (5, .i (j + 1 : Nat))]) (by
    have := ih (j + 1, q, acc, l[j].hi + 1, H2) ⟨by simp; omega, g1, by simpa using g2⟩ (by simp; omega)
    simpa using this) (by simp)
 ·have hge' : j = l.length := by simp at hge; omega
  subst hge'
  rw [List.drop_length, gapFrom_nil'] at g2
  repeat first|((first|refine qa tOk rfl ?_|refine qb tOk rfl ?_|refine qh rfl ?_);simp)|refine qf ?_|refine qg ?_
  refine AWP_cond2 rfl (fun h3 => ?_) (fun h3 => ?_)
  ·rw [if_pos (by simpa using h3)] at g2
   rw [← g2]
   repeat first|((first|refine qa tOk rfl ?_|refine qb tOk rfl ?_|refine qh rfl ?_);simp)|refine qf ?_|refine qg ?_
   refine AStep_appendS tOk rfl rfl T171 rfl T187 rfl (by decide) (by decide) rfl rfl rfl ?_
   simp [get_app g1, set_app g1]
   refine ⟨by simp [appOk, get_app g1, set_app g1] <;> omega, ?_⟩
   repeat first|((first|refine qa tOk rfl ?_|refine qb tOk rfl ?_|refine qh rfl ?_);simp)|refine qf ?_|refine qg ?_
   rw [List.take_of_length_le (by simp)]
  ·rw [if_neg (by simpa using h3), List.append_nil] at g2
   subst g2
   repeat first|((first|refine qa tOk rfl ?_|refine qb tOk rfl ?_|refine qh rfl ?_);simp [g1])|refine qf ?_|refine qg ?_
   rw [List.take_of_length_le (by simp)]
theorem pc_rBothW (a b : List Iv) (ha : Sep a) (hb : Sep b) (hll : a.length + b.length ≤ 1000000000) (hi : ∀ x ∈ a, ivIn x) : PC Tryz.prog 166 [LIv a, LIv b] (fun r => r = LIv (rBothL a b)) :=
 (pc_rBoth a b (by omega) (by omega) (by have := pairs_len a b ha hb; omega) (pairs_in (.inl hi))).mono fun r h => by rw [h, rBothL]
end Go.Abs
set_option maxRecDepth 100000
namespace Go.Abs
open Go Go.Proofs
set_option linter.unusedSimpArgs false
structure GL (K G : List AObj) (S p : Nat) (pre post : List AV) (e sz : Nat) (xs : List AV) : Prop where
 cell : G[S]? = some (.vars (pre ++ .sl p sz 0 xs.length :: post))
 arr : G[p]? = some (.arr e sz xs)
 ge : K.length ≤ p
 lt : S < K.length
 len : K.length ≤ G.length
 keep : ∀ j, j < K.length → j ≠ S → G[j]? = K[j]?
theorem GL.kp {K G : List AObj} {S p : Nat} {pre post : List AV} {e sz : Nat} {xs : List AV} (h : GL K G S p pre post e sz xs) {j : Nat} {x : AObj} (hj : j ≠ S) (hx : K[j]? = some x) : G[j]? = some x := by
 rw [h.keep j (List.getElem?_eq_some_iff.1 hx).1 hj]; exact hx
theorem GL.start {K : List AObj} {S : Nat} (pre post : List AV) (e sz : Nat) (h : S < K.length) : GL K ((K ++ [AObj.arr e sz []]).set S (.vars (pre ++ .sl K.length sz 0 0 :: post))) S K.length pre post e sz [] :=
 ⟨List.getElem?_set_self (by simp; omega), by rw [List.getElem?_set_ne (by omega)]; simp, Nat.le_refl _, h, by simp, fun j hj hne => by
  rw [List.getElem?_set_ne (fun e => hne e.symm), List.getElem?_append_left hj]⟩
theorem GL.put {K G : List AObj} {S p : Nat} {pre post : List AV} {e sz : Nat} {xs : List AV} (h : GL K G S p pre post e sz xs) (A : AObj) (y : AV) {n : Nat} (hn : n = xs.length) :
  GL K ((G.set p .dead ++ [A, AObj.arr e sz (xs ++ [y])]).set S (.vars (pre ++ .sl (G.length + 1) sz 0 (n + 1) :: post))) S (G.length + 1) pre post e sz (xs ++ [y]) := by
 have hl := h.len
 have hlt := h.lt
 have hge := h.ge
 subst hn
 refine ⟨by rw [List.getElem?_set_self (by simp; omega)]; simp, by rw [List.getElem?_set_ne (by omega), List.getElem?_append_right (by simp)]; simp, by omega, hlt, by simp; omega, fun j hj hne => ?_⟩
 rw [List.getElem?_set_ne (fun e => hne e.symm), List.getElem?_append_left (by simp; omega), List.getElem?_set_ne (by omega)]
 exact h.keep j hj hne
theorem GL.at {K G : List AObj} {S p : Nat} {pre post : List AV} {e sz : Nat} {xs : List AV} (h : GL K G S p pre post e sz xs) (L : List AObj) : (G.set p .dead ++ L)[S]? = some (.vars (pre ++ .sl p sz 0 xs.length :: post)) := by
 have hl := h.len
 have hlt := h.lt
 have hge := h.ge
 rw [List.getElem?_append_left (by simp; omega), List.getElem?_set_ne (by omega)]
 exact h.cell
def upL (F : Nat → List Iv) (j : Nat) : List AV := (List.range j).map fun i => encL (F i)
theorem upL_succ (F : Nat → List Iv) (j : Nat) : upL F (j + 1) = upL F j ++ [encL (F j)] := by simp [upL, List.range_succ]
theorem upL_len (F : Nat → List Iv) (j : Nat) : (upL F j).length = j := by simp [upL]
theorem upL_all (F : Nat → List Iv) (n : Nat) : upL F n = ((List.range n).map F).map encL := by simp [upL]
theorem range_getD {α β : Type} (d : α) (f : α → β) (p : List α) : (List.range p.length).map (fun i => f (p.getD i d)) = p.map f := by
 refine List.ext_getElem (by simp) fun i h1 h2 => ?_
 have h : i < p.length := by simpa using h1
 simp [List.getD, h]
theorem upL_zero (F : Nat → List Iv) : upL F 0 = [] := rfl
attribute [local irreducible] upL
set_option maxHeartbeats 2000000 in
theorem pc_rpRest (T : Nat) (p : Prd) (hp : PWf T p) (hl : ∀ s ∈ p, s.length ≤ 1000000000) (hT : T ≤ 1000) : PC Tryz.prog 135 [encP p] (fun r => r = encP (restP p)) := by
 refine PC_body tOk Tryz.func135 rfl Tryz.results135 rfl (by simp [Tryz.ntmps135]) ?_
 rw [Tryz.ntmps135]
 simp only [argSlots]
 simp only [encP]
 have hlen := hp.1
 repeat first|((first|refine qa tOk rfl ?_|refine qb tOk rfl ?_|refine qh rfl ?_);simp)|refine qf ?_|refine qg ?_
 refine AWP_nilCell 2 0 171 1 rfl rfl ?_
 simp
 obtain ⟨K, hK⟩ : ∃ K, K = [AObj.vars [.list (p.map encL)], AObj.vars [AV.nils], AObj.vars [AV.nils]] := ⟨_, rfl⟩
 have hst := GL.start (K := K) (S := 2) [] [] 171 1 (by rw [hK]; simp)
 refine AWP_loop (ALoop_keep (sl' := [(1, .vptr 0 0), (2, .vptr 1 0), (3, .vptr 2 0), (4, .i 0)]) ?_ (by simp))
 refine ALoop_wf (F := fun (u : Nat × Nat × List AObj) => ⟨[(1, .vptr 0 0), (2, .vptr 1 0), (3, .vptr 2 0), (4, .i u.1)], u.2.2⟩)
  (fun u => u.1 ≤ p.length ∧ GL K u.2.2 2 u.2.1 [] [] 171 1 (upL (fun i => gapsR (p.getD i [])) u.1)) (fun u => p.length - u.1) ?_ (0, K.length, _) ⟨by simp, by rw [upL_zero, hK] at *; exact hst⟩
 rintro ⟨j, q, H2⟩ ⟨hj, g⟩ ih
 simp only [List.cons_append, List.nil_append] at hj g ih ⊢
 have g0 : H2[0]? = some (AObj.vars [.list (p.map encL)]) := g.kp (by decide) (by rw [hK]; rfl)
 have gR : H2[1]? = some (AObj.vars [AV.nils]) := g.kp (by decide) (by rw [hK]; rfl)
 have g2 := g.cell
 have g3 := g.arr
 rw [upL_len] at g2
 simp only [List.nil_append] at g2
 repeat first|((first|refine qa tOk rfl ?_|refine qb tOk rfl ?_|refine qh rfl ?_);simp [g0])|refine qf ?_|refine qg ?_
 refine AWP_cond2 rfl (fun hlt => ?_) (fun hge => ?_)
 ·have hlt' : j < p.length := by simpa using hlt
  have hw : IntKind.i64.wrap ((j : Int) + 1) = j + 1 := wrap_i64 _ (by omega) (by omega)
  have hc2 : ∀ L : List AObj, (H2.set q .dead ++ L)[2]? = some (AObj.vars [AV.sl q 1 0 j]) := fun L => by have := g.at L; rw [upL_len] at this; exact this
  have hc3 : ∀ (L : List AObj) (h : 2 < (H2.set q .dead ++ L).length), (H2.set q .dead ++ L)[2]'h = AObj.vars [AV.sl q 1 0 j] := fun L h => by have := hc2 L; rw [List.getElem?_eq_getElem h] at this; exact Option.some.inj this
  have hput := fun A y => g.put A y (upL_len _ _).symm
  have hnx : upL (fun i => gapsR (p.getD i [])) j ++ [encL ((fun i => gapsR (p.getD i [])) j)] = upL (fun i => gapsR (p.getD i [])) (j + 1) := (upL_succ _ _).symm
  have hpush := fun H => ih (j + 1, H2.length + 1, H)
  have hul := upL_len (fun i => gapsR (p.getD i [])) j
  simp only [← hnx] at hpush
  have hs := hp.2 _ (List.getElem_mem hlt')
  simp only [getD_len hlt'] at *
  repeat first|((first|refine qa tOk rfl ?_|refine qb tOk rfl ?_|refine qh rfl ?_);simp [g0, g2])|refine qf ?_|refine qg ?_
  refine AWP_drawT tOk mixed [9, 11] (.val 0 (.val 1 (.val 2 (.val 3 (.val 4 (.val 5 (.val 6 (.one 7 (.one 8 (.one 9 (.val 10 (.one 11 (.done))))))))))))) rfl (by kernel_rfl) ?_
  simp [hlt', g0, g2]
  refine AStep_PC rfl rfl (by simp) (pc_rRestW p[j] hs.1 hs.2 (hl _ (List.getElem_mem hlt'))) rfl ?_
  rintro _ rfl
  simp
  repeat first|((first|refine qa tOk rfl ?_|refine qb tOk rfl ?_|refine qh rfl ?_);simp [g0, g2])|refine qf ?_|refine qg ?_
  generalize upL (fun i => gapsR (p.getD i [])) j = xs at *
  refine AStep_appendS tOk rfl rfl T74 rfl T171 rfl (by decide) (by decide) rfl rfl rfl ?_
  simp [get_app g3, set_app g3, hul, hc2, hc3]
  refine ⟨by simp [appOk, get_app g3, set_app g3, hul, hc2, hc3] <;> omega, ?_⟩
  repeat first|((first|refine qa tOk rfl ?_|refine qb tOk rfl ?_|refine qh rfl ?_);simp [g0, g2, hw, hc2, hc3])|refine qf ?_|refine qg ?_
  refine ALoop_keep (sl' := [(1, .vptr 0 0), (2, .vptr 1 0), (3, .vptr 2 0), (4, .i (j + 1 : Nat))]) (hpush _ ⟨by omega, hput _ _⟩ (by omega)) ?_
  simp
 ·have hge' : j = p.length := by (simp at hge; omega)
  subst hge'
  have hS := (List.getElem?_eq_some_iff.1 g2).1
  have hne : q ≠ 1 ∧ q ≠ 2 := by have := g.ge; rw [hK] at this; simp at this; omega
  have hul := upL_len (fun i => gapsR (p.getD i [])) (p.length)
  have hres : .list (upL (fun i => gapsR (p.getD i [])) (p.length)) = AV.list ((restP p).map encL) := by
   rw [upL_all]
   rw [range_getD]; rfl
  generalize upL (fun i => gapsR (p.getD i [])) (p.length) = xs at *
  refine AWP_freezeC q g3 2 g2 ?_
  have k1 : ∀ X, ((H2.set q .dead).set 2 X)[1]? = some (AObj.vars [AV.nils]) := fun X => get_set (by decide) (get_set hne.1 gR _) _
  have k2 : ∀ X, ((H2.set q .dead).set 2 X)[2]? = some X := fun X => List.getElem?_set_self (by simpa using hS)
  have k3 : ∀ X Y, (((H2.set q .dead).set 2 X).set 1 Y)[1]? = some Y := fun X Y => get_self (k1 X) _
  simp [hul]
  rw [List.take_of_length_le (by omega)]
  repeat first|((first|refine qa tOk rfl ?_|refine qb tOk rfl ?_|refine qh rfl ?_);simp [k1, k2, k3])|refine qf ?_|refine qg ?_
  exact AV.list.inj hres
set_option maxHeartbeats 2000000 in
theorem pc_rpWhole (T : Int) (h0 : 0 ≤ T) (hT : T ≤ 1000) : PC Tryz.prog 77 [.i T] (fun r => r = encP (wholeP T.toNat)) := by
 refine PC_body tOk Tryz.func77 rfl Tryz.results77 rfl (by simp [Tryz.ntmps77]) ?_
 rw [Tryz.ntmps77]
 simp only [argSlots]
 simp only [encP]
 repeat first|((first|refine qa tOk rfl ?_|refine qb tOk rfl ?_|refine qh rfl ?_);simp)|refine qf ?_|refine qg ?_
 refine AWP_nilCell 1 0 171 1 rfl rfl ?_
 simp
 obtain ⟨K, hK⟩ : ∃ K, K = [AObj.vars [AV.nils], AObj.vars [AV.nils]] := ⟨_, rfl⟩
 have hst := GL.start (K := K) (S := 1) [] [] 171 1 (by rw [hK]; simp)
 refine AWP_loop (ALoop_keep (sl' := [(0, .i T), (2, .vptr 0 0), (3, .vptr 1 0), (4, .i 0)]) ?_ (by simp))
 refine ALoop_wf (F := fun (u : Nat × Nat × List AObj) => ⟨[(0, .i T), (2, .vptr 0 0), (3, .vptr 1 0), (4, .i u.1)], u.2.2⟩)
  (fun u => u.1 ≤ T.toNat ∧ GL K u.2.2 1 u.2.1 [] [] 171 1 (upL (fun _ => gapsR []) u.1)) (fun u => T.toNat - u.1) ?_ (0, K.length, _) ⟨by simp, by rw [upL_zero, hK] at *; exact hst⟩
 rintro ⟨j, q, H2⟩ ⟨hj, g⟩ ih
 simp only [List.cons_append, List.nil_append] at hj g ih ⊢
 have g0 : True := trivial
 have gR : H2[0]? = some (AObj.vars [AV.nils]) := g.kp (by decide) (by rw [hK]; rfl)
 have g2 := g.cell
 have g3 := g.arr
 rw [upL_len] at g2
 simp only [List.nil_append] at g2
 repeat first|((first|refine qa tOk rfl ?_|refine qb tOk rfl ?_|refine qh rfl ?_);simp [g0])|refine qf ?_|refine qg ?_
 refine AWP_cond2 rfl (fun hlt => ?_) (fun hge => ?_)
 ·have hlt' : j < T.toNat := by (have : (j : Int) < T := (by simpa using hlt); omega)
  have hw : IntKind.i64.wrap ((j : Int) + 1) = j + 1 := wrap_i64 _ (by omega) (by omega)
  have hc2 : ∀ L : List AObj, (H2.set q .dead ++ L)[1]? = some (AObj.vars [AV.sl q 1 0 j]) := fun L => by have := g.at L; rw [upL_len] at this; exact this
  have hc3 : ∀ (L : List AObj) (h : 1 < (H2.set q .dead ++ L).length), (H2.set q .dead ++ L)[1]'h = AObj.vars [AV.sl q 1 0 j] := fun L h => by have := hc2 L; rw [List.getElem?_eq_getElem h] at this; exact Option.some.inj this
  have hput := fun A y => g.put A y (upL_len _ _).symm
  have hnx : upL (fun _ => gapsR []) j ++ [encL ((fun _ => gapsR []) j)] = upL (fun _ => gapsR []) (j + 1) := (upL_succ _ _).symm
  have hpush := fun H => ih (j + 1, H2.length + 1, H)
  have hul := upL_len (fun _ => gapsR []) j
  simp only [← hnx] at hpush
  repeat first|((first|refine qa tOk rfl ?_|refine qb tOk rfl ?_|refine qh rfl ?_);simp [g2])|refine qf ?_|refine qg ?_
  refine AWP_drawT tOk mixed [4, 6] (.val 0 (.val 1 (.one 2 (.one 3 (.one 4 (.val 5 (.one 6 (.done)))))))) rfl (by kernel_rfl) ?_
  simp [g2]
  refine AStep_PC rfl rfl (by simp) (pc_rRestW [] sep_nil (by simp [M]) (by simp)) rfl ?_
  rintro _ rfl
  simp
  repeat first|((first|refine qa tOk rfl ?_|refine qb tOk rfl ?_|refine qh rfl ?_);simp [g2])|refine qf ?_|refine qg ?_
  generalize upL (fun _ => gapsR []) j = xs at *
  refine AStep_appendS tOk rfl rfl T74 rfl T171 rfl (by decide) (by decide) rfl rfl rfl ?_
  simp [get_app g3, set_app g3, hul, hc2, hc3]
  refine ⟨by simp [appOk, get_app g3, set_app g3, hul, hc2, hc3] <;> omega, ?_⟩
  repeat first|((first|refine qa tOk rfl ?_|refine qb tOk rfl ?_|refine qh rfl ?_);simp [g0, g2, hw, hc2, hc3])|refine qf ?_|refine qg ?_
  refine ALoop_keep (sl' := [(0, .i T), (2, .vptr 0 0), (3, .vptr 1 0), (4, .i (j + 1 : Nat))]) (hpush _ ⟨by omega, hput _ _⟩ (by omega)) ?_
  simp
 ·have hge' : j = T.toNat := by (have : ¬ (j : Int) < T := (by simpa using hge); omega)
  subst hge'
  have hS := (List.getElem?_eq_some_iff.1 g2).1
  have hne : q ≠ 0 ∧ q ≠ 1 := by have := g.ge; rw [hK] at this; simp at this; omega
  have hul := upL_len (fun _ => gapsR []) (T.toNat)
  have hres : .list (upL (fun _ => gapsR []) (T.toNat)) = AV.list ((wholeP T.toNat).map encL) := by
   rw [upL_all]
   simp [wholeP, Function.comp_def, List.map_const']
  generalize upL (fun _ => gapsR []) (T.toNat) = xs at *
  refine AWP_freezeC q g3 1 g2 ?_
  have k1 : ∀ X, ((H2.set q .dead).set 1 X)[0]? = some (AObj.vars [AV.nils]) := fun X => get_set (by decide) (get_set hne.1 gR _) _
  have k2 : ∀ X, ((H2.set q .dead).set 1 X)[1]? = some X := fun X => List.getElem?_set_self (by simpa using hS)
  have k3 : ∀ X Y, (((H2.set q .dead).set 1 X).set 0 Y)[0]? = some Y := fun X Y => get_self (k1 X) _
  simp [hul]
  rw [List.take_of_length_le (by omega)]
  repeat first|((first|refine qa tOk rfl ?_|refine qb tOk rfl ?_|refine qh rfl ?_);simp [k1, k2, k3])|refine qf ?_|refine qg ?_
  exact AV.list.inj hres
end Go.Abs
set_option maxRecDepth 100000
namespace Go.Abs
def sLt (x y : Sy) : Prop := x.ty < y.ty ∨ (x.ty = y.ty ∧ x.num < y.num)
theorem sLt.irr {x : Sy} (h : sLt x x) : False := by unfold sLt at h; omega
theorem sLt.trans {x y z : Sy} (h : sLt x y) (k : sLt y z) : sLt x z := by unfold sLt at *; omega
def lexL : List Sy → List Sy → Prop
 | x :: v, y :: w => sLt x y ∨ (x = y ∧ lexL v w)
 | _, _ => False
def ll (v w : List Sy) : Prop := v.length < w.length ∨ (v.length = w.length ∧ lexL v w)
def lle (v w : List Sy) : Prop := v = w ∨ ll v w
theorem lexL.irr : ∀ {v : List Sy}, ¬ lexL v v
 | [], h => h
 | x :: v, h => by
  rcases h with h | ⟨_, h⟩
  ·exact h.irr
  ·exact lexL.irr h
theorem lexL.trans : ∀ {u v w : List Sy}, lexL u v → lexL v w → lexL u w
 | [], _, _, h, _ => h.elim
 | _ :: _, [], _, h, _ => h.elim
 | _ :: _, _ :: _, [], _, k => k.elim
 | x :: u, y :: v, z :: w, h, k => by
  rcases h with h | ⟨rfl, h⟩
  ·rcases k with k | ⟨rfl, k⟩
   ·exact .inl (h.trans k)
   ·exact .inl h
  ·rcases k with k | ⟨rfl, k⟩
   ·exact .inl k
   ·exact .inr ⟨rfl, h.trans k⟩
theorem ll.irr {v : List Sy} (h : ll v v) : False := by
 rcases h with h | ⟨_, h⟩
 ·omega
 ·exact lexL.irr h
theorem ll.trans {u v w : List Sy} (h : ll u v) (k : ll v w) : ll u w := by
 rcases h with h | ⟨h1, h2⟩
 ·rcases k with k | ⟨k1, _⟩
  ·exact .inl (by omega)
  ·exact .inl (by omega)
 ·rcases k with k | ⟨k1, k2⟩
  ·exact .inl (by omega)
  ·exact .inr ⟨by omega, h2.trans k2⟩
theorem lle.refl (v : List Sy) : lle v v := .inl rfl
theorem lle.trans {u v w : List Sy} (h : lle u v) (k : lle v w) : lle u w := by
 rcases h with rfl | h
 ·exact k
 ·rcases k with rfl | k
  ·exact .inr h
  ·exact .inr (h.trans k)
theorem lle.ll {u v w : List Sy} (h : lle u v) (k : ll v w) : ll u w := by
 rcases h with rfl | h
 ·exact k
 ·exact h.trans k
theorem ll.lle {u v w : List Sy} (h : ll u v) (k : lle v w) : ll u w := by
 rcases k with rfl | k
 ·exact h
 ·exact h.trans k
theorem lle.anti {u v : List Sy} (h : lle u v) (k : lle v u) : u = v := by
 rcases h with rfl | h
 ·rfl
 ·exact ((h.lle k).irr).elim
theorem lexL_app : ∀ {u v : List Sy} (a b : List Sy), u.length = v.length → lexL u v → lexL (u ++ a) (v ++ b)
 | [], _, _, _, _, h => h.elim
 | _ :: _, [], _, _, _, h => h.elim
 | x :: u, y :: v, a, b, e, h => by
  rcases h with h | ⟨rfl, h⟩
  ·exact .inl h
  ·exact .inr ⟨rfl, lexL_app a b (by simpa using e) h⟩
theorem lexL_pre : ∀ (u : List Sy) {a b : List Sy}, lexL a b → lexL (u ++ a) (u ++ b)
 | [], _, _, h => h
 | _ :: u, _, _, h => .inr ⟨rfl, lexL_pre u h⟩
theorem ll_snoc {u v : List Sy} (h : ll u v) (x y : Sy) : ll (u ++ [x]) (v ++ [y]) := by
 rcases h with h | ⟨h1, h2⟩
 ·exact .inl (by simp; omega)
 ·exact .inr ⟨by simp; omega, lexL_app _ _ h1 h2⟩
theorem ll_snoc2 (u : List Sy) {x y : Sy} (h : sLt x y) : ll (u ++ [x]) (u ++ [y]) := .inr ⟨by simp, lexL_pre u (.inl h)⟩
theorem lle_snoc {u v : List Sy} (h : lle u v) {x y : Sy} (k : x = y ∨ sLt x y) : lle (u ++ [x]) (v ++ [y]) := by
 rcases h with rfl | h
 ·rcases k with rfl | k
  ·exact .inl rfl
  ·exact .inr (ll_snoc2 _ k)
 ·exact .inr (ll_snoc h x y)
theorem ll_grow (u : List Sy) (x : Sy) : ll u (u ++ [x]) := .inl (by simp)
section
variable {σ : Type} [DecidableEq σ] (ok : Sy → Prop) (step : σ → Sy → σ) (good : σ → Bool)
def walkW (s : σ) (w : List Sy) : σ := w.foldl step s
structure FirstW (s : σ) (w : List Sy) : Prop where
 okw : ∀ x ∈ w, ok x
 goodw : good (walkW step s w) = true
 least : ∀ v, (∀ x ∈ v, ok x) → good (walkW step s v) = true → lle w v
variable {ok step good}
theorem FirstW.unique {s : σ} {v w : List Sy} (h : FirstW ok step good s v) (k : FirstW ok step good s w) : v = w :=
 (h.least w k.okw k.goodw).anti (k.least v h.okw h.goodw)
variable (ok step good)
structure SuccOk (s : σ) (l : List (Sy × σ)) : Prop where
 asc : l.Pairwise (fun a b => sLt a.1 b.1)
 mem : ∀ e ∈ l, ok e.1 ∧ e.2 = step s e.1
 cov : ∀ y, ok y → ∃ e ∈ l, e.2 = step s y ∧ (e.1 = y ∨ sLt e.1 y)
variable (succ : σ → List (Sy × σ))
def addB (l : List (σ × List Sy)) (t : σ) (w : List Sy) : List (σ × List Sy) := if t ∈ l.map (·.1) then l else l ++ [(t, w)]
def roundB (l : List (σ × List Sy)) (w : List Sy) (es : List (Sy × σ)) : List (σ × List Sy) := es.foldl (fun l e => addB l e.2 (w ++ [e.1])) l
def bfsB : Nat → Nat → List (σ × List Sy) → Option (List Sy) × List (σ × List Sy)
 | 0, _, l => (none, l)
 | f + 1, n, l => match l[n]? with
  | none => (none, l)
  | some (s, w) => if good s then (some w, l) else bfsB f (n + 1) (roundB l w (succ s))
variable (s0 : σ) (G : σ → Prop)
structure BInv (n : Nat) (L : List (σ × List Sy)) (done : List (Sy × σ)) : Prop where
 first : L[0]? = some (s0, [])
 mem : ∀ e ∈ L, (∀ x ∈ e.2, ok x) ∧ walkW step s0 e.2 = e.1 ∧ G e.1
 asc : L.Pairwise (fun a b => ll a.2 b.2)
 nd : (L.map (·.1)).Nodup
 bad : ∀ i s w, i < n → L[i]? = some (s, w) → good s = false
 cls : ∀ i s w, i < n → L[i]? = some (s, w) → ∀ e ∈ succ s, ∃ v, (e.2, v) ∈ L ∧ lle v (w ++ [e.1])
 cur : ∀ s w, L[n]? = some (s, w) → ∀ e ∈ done, ∃ v, (e.2, v) ∈ L ∧ lle v (w ++ [e.1])
 org : ∀ d ∈ L, d.2 = [] ∨ ∃ i s w x, L[i]? = some (s, w) ∧ d.2 = w ++ [x] ∧ (i < n ∨ (i = n ∧ ∃ e ∈ done, e.1 = x))
variable {ok step good succ s0 G}
theorem BInv.low {n : Nat} {L : List (σ × List Sy)} {done : List (Sy × σ)} (h : BInv ok step good succ s0 G n L done) {s : σ} {w : List Sy} (hn : L[n]? = some (s, w)) (x : Sy) (hx : ∀ e ∈ done, sLt e.1 x) : ∀ e ∈ L, ll e.2 (w ++ [x]) := by
 intro d hd
 rcases h.org d hd with e | ⟨i, s', w', y, hi, e, hc⟩
 ·rw [e]; exact .inl (by simp)
 ·rw [e]
  rcases hc with hc | ⟨rfl, c, hc, rfl⟩
  ·obtain ⟨h1, h2⟩ := List.getElem?_eq_some_iff.1 hi
   obtain ⟨h3, h4⟩ := List.getElem?_eq_some_iff.1 hn
   have := List.pairwise_iff_getElem.1 h.asc i n h1 h3 hc
   rw [h2, h4] at this
   exact ll_snoc this _ _
  ·rw [hn] at hi; cases hi
   exact ll_snoc2 _ (hx c hc)
theorem BInv.add {n : Nat} {L : List (σ × List Sy)} {done : List (Sy × σ)} (h : BInv ok step good succ s0 G n L done) {s : σ} {w : List Sy} (hn : L[n]? = some (s, w)) {e : Sy × σ} (he : ok e.1 ∧ e.2 = step s e.1) (hG : G e.2)
  (hlt : ∀ d ∈ done, sLt d.1 e.1) : BInv ok step good succ s0 G n (addB L e.2 (w ++ [e.1])) (done ++ [e]) ∧ (addB L e.2 (w ++ [e.1]))[n]? = some (s, w) := by
 have hnl := (List.getElem?_eq_some_iff.1 hn).1
 have hlow := h.low hn e.1 hlt
 unfold addB
 by_cases hin : e.2 ∈ L.map (·.1)
 ·rw [if_pos hin]
  obtain ⟨⟨t, v⟩, hv, ht⟩ := List.mem_map.1 hin
  simp only at ht
  subst ht
  refine ⟨⟨h.first, h.mem, h.asc, h.nd, h.bad, h.cls, fun s' w' hs' d hd => ?_, fun d hd => ?_⟩, hn⟩
  ·rw [hn] at hs'; cases hs'
   rcases List.mem_append.1 hd with hd | hd
   ·exact h.cur s w hn d hd
   ·obtain rfl := List.mem_singleton.1 hd
    exact ⟨v, hv, .inr (hlow _ hv)⟩
  ·rcases h.org d hd with e' | ⟨i, s', w', y, hi, e', hc⟩
   ·exact .inl e'
   ·exact .inr ⟨i, s', w', y, hi, e', hc.imp id fun ⟨k1, c, k2, k3⟩ => ⟨k1, c, List.mem_append_left _ k2, k3⟩⟩
 ·rw [if_neg hin]
  have hget : ∀ i, i ≤ n → (L ++ [(e.2, w ++ [e.1])])[i]? = L[i]? := fun i hi => List.getElem?_append_left (by omega)
  have hw := h.mem _ (List.mem_of_getElem? hn)
  refine ⟨⟨by rw [hget 0 (Nat.zero_le _)]; exact h.first, fun d hd => ?_, ?_, ?_, fun i s' w' hi hs' => h.bad i s' w' hi (by rw [← hget i (by omega)]; exact hs'), fun i s' w' hi hs' d hd => ?_, fun s' w' hs' d hd => ?_, fun d hd => ?_⟩, by rw [hget n (Nat.le_refl _)]; exact hn⟩
  ·rcases List.mem_append.1 hd with hd | hd
   ·exact h.mem d hd
   ·obtain rfl := List.mem_singleton.1 hd
    refine ⟨fun x hx => ?_, ?_, hG⟩
    ·rcases List.mem_append.1 hx with hx | hx
     ·exact hw.1 x hx
     ·obtain rfl := List.mem_singleton.1 hx; exact he.1
    ·show walkW step s0 (w ++ [e.1]) = e.2
     have h2 : walkW step s0 w = s := hw.2.1
     rw [walkW, List.foldl_append]
     show step (walkW step s0 w) e.1 = e.2
     rw [h2, he.2]
  ·exact List.pairwise_append.2 ⟨h.asc, by simp, fun a ha b hb => by obtain rfl := List.mem_singleton.1 hb; exact hlow a ha⟩
  ·rw [List.map_append]
   exact List.nodup_append.2 ⟨h.nd, by simp, fun a ha b hb e' => by
    simp at hb; subst hb; subst e'; exact hin ha⟩
  ·rw [hget i (by omega)] at hs'
   obtain ⟨v, hv, hl⟩ := h.cls i s' w' hi hs' d hd
   exact ⟨v, List.mem_append_left _ hv, hl⟩
  ·rw [hget n (Nat.le_refl _), hn] at hs'; cases hs'
   rcases List.mem_append.1 hd with hd | hd
   ·obtain ⟨v, hv, hl⟩ := h.cur s w hn d hd
    exact ⟨v, List.mem_append_left _ hv, hl⟩
   ·obtain rfl := List.mem_singleton.1 hd
    exact ⟨_, List.mem_append_right _ (by simp), .inl rfl⟩
  ·rcases List.mem_append.1 hd with hd | hd
   ·rcases h.org d hd with e' | ⟨i, s', w', y, hi, e', hc⟩
    ·exact .inl e'
    ·have hi' : i ≤ n := by rcases hc with hc | hc <;> omega
     exact .inr ⟨i, s', w', y, by rw [hget i hi']; exact hi, e', hc.imp id fun ⟨k1, c, k2, k3⟩ => ⟨k1, c, List.mem_append_left _ k2, k3⟩⟩
   ·obtain rfl := List.mem_singleton.1 hd
    exact .inr ⟨n, s, w, e.1, by rw [hget n (Nat.le_refl _)]; exact hn, rfl, .inr ⟨rfl, e, by simp, rfl⟩⟩
theorem BInv.round {n : Nat} : ∀ (es : List (Sy × σ)) (done : List (Sy × σ)) (L : List (σ × List Sy)) {s : σ} {w : List Sy}, BInv ok step good succ s0 G n L done → L[n]? = some (s, w) → (∀ e ∈ es, ok e.1 ∧ e.2 = step s e.1) → (∀ e ∈ es, G e.2) →
  (done ++ es).Pairwise (fun a b => sLt a.1 b.1) → BInv ok step good succ s0 G n (roundB L w es) (done ++ es) ∧ (roundB L w es)[n]? = some (s, w)
 | [], done, L, s, w, h, hn, _, _, _ => by simpa [roundB] using ⟨h, hn⟩
 | e :: es, done, L, s, w, h, hn, hm, hG, hp => by
  have hlt : ∀ d ∈ done, sLt d.1 e.1 := fun d hd => (List.pairwise_append.1 hp).2.2 d hd e (by simp)
  obtain ⟨h1, h2⟩ := h.add hn (hm e (by simp)) (hG e (by simp)) hlt
  have := BInv.round es (done ++ [e]) _ h1 h2 (fun d hd => hm d (by simp [hd])) (fun d hd => hG d (by simp [hd])) (by simpa using hp)
  simpa [roundB] using this
theorem BInv.next {n : Nat} {L : List (σ × List Sy)} {s : σ} {w : List Sy} (h : BInv ok step good succ s0 G n L []) (hn : L[n]? = some (s, w)) (hg : good s = false) (hs : SuccOk ok step s (succ s)) (hG : ∀ e ∈ succ s, G e.2) :
  BInv ok step good succ s0 G (n + 1) (roundB L w (succ s)) [] := by
 obtain ⟨h1, h2⟩ := h.round (succ s) [] L hn hs.mem hG (by simpa using hs.asc)
 rw [List.nil_append] at h1
 refine ⟨h1.first, h1.mem, h1.asc, h1.nd, fun i s' w' hi hs' => ?_, fun i s' w' hi hs' d hd => ?_, fun _ _ _ _ hd => (by cases hd), fun d hd => ?_⟩
 ·by_cases hin : i < n
  ·exact h1.bad i s' w' hin hs'
  ·have : i = n := by omega
   subst this
   rw [h2] at hs'; cases hs'; exact hg
 ·by_cases hin : i < n
  ·exact h1.cls i s' w' hin hs' d hd
  ·have : i = n := by omega
   subst this
   rw [h2] at hs'; cases hs'
   exact h1.cur s w h2 d hd
 ·rcases h1.org d hd with e' | ⟨i, s', w', y, hi, e', hc⟩
  ·exact .inl e'
  ·exact .inr ⟨i, s', w', y, hi, e', .inl (by rcases hc with hc | hc <;> omega)⟩
theorem BInv.reach {n : Nat} {L : List (σ × List Sy)} (h : BInv ok step good succ s0 G n L []) (hs : ∀ s, G s → SuccOk ok step s (succ s)) : ∀ (r : List Sy), (∀ x ∈ r, ok x) →
  (∃ v, (walkW step s0 r.reverse, v) ∈ L ∧ lle v r.reverse) ∨ ∃ i s w, n ≤ i ∧ L[i]? = some (s, w) ∧ lle w r.reverse
 | [], _ => .inl ⟨[], List.mem_of_getElem? h.first, lle.refl _⟩
 | x :: r, hx => by
  have hgrow : ll r.reverse (x :: r).reverse := by rw [List.reverse_cons]; exact ll_grow _ _
  rcases BInv.reach h hs r (fun y hy => hx y (by simp [hy])) with ⟨v, hv, hl⟩ | ⟨i, s, w, h1, h2, h3⟩
  ·obtain ⟨i, hi⟩ := List.mem_iff_getElem?.1 hv
   by_cases hin : i < n
   ·obtain ⟨e, he, e1, e2⟩ := (hs _ (h.mem _ hv).2.2).cov x (hx x (by simp))
    obtain ⟨u, hu, hul⟩ := h.cls i _ _ hin hi e he
    refine .inl ⟨u, ?_, ?_⟩
    ·rw [List.reverse_cons, walkW, List.foldl_append]
     show (step (walkW step s0 r.reverse) x, u) ∈ L
     rw [← e1]; exact hu
    ·rw [List.reverse_cons]
     exact hul.trans (lle_snoc hl e2)
   ·exact .inr ⟨i, _, v, by omega, hi, hl.trans (.inr hgrow)⟩
  ·exact .inr ⟨i, s, w, h1, h2, h3.trans (.inr hgrow)⟩
theorem BInv.none {n : Nat} {L : List (σ × List Sy)} (h : BInv ok step good succ s0 G n L []) (hs : ∀ s, G s → SuccOk ok step s (succ s)) (hn : L[n]? = none) :
  (∀ v, (∀ x ∈ v, ok x) → walkW step s0 v ∈ L.map (·.1) ∧ good (walkW step s0 v) = false) := by
 intro v hv
 have hlen := List.getElem?_eq_none_iff.1 hn
 rcases h.reach hs v.reverse (fun x hx => hv x (by simpa using hx)) with ⟨u, hu, _⟩ | ⟨i, s', w', h1, h2, _⟩
 ·rw [List.reverse_reverse] at hu
  obtain ⟨i, hi⟩ := List.mem_iff_getElem?.1 hu
  have := (List.getElem?_eq_some_iff.1 hi).1
  exact ⟨List.mem_map.2 ⟨_, hu, rfl⟩, h.bad i _ _ (by omega) hi⟩
 ·have := (List.getElem?_eq_some_iff.1 h2).1
  omega
end
end Go.Abs
set_option maxRecDepth 100000
namespace Go.Abs
structure Dfa (a : Aut) : Prop where
 ok : OkA a
 det : detOk a
 full : fullA a
def toL (a : Aut) (s : Int) (x : Sy) : Int := match a.mv.find? (fun m => decide (m.src = s) && hasS m.on x) with | some m => m.dst | none => -1
def inS (a : Aut) (s : Int) : Prop := 0 ≤ s ∧ s < a.fin.length
theorem Dfa.next {a : Aut} (h : Dfa a) {s : Int} (hs : inS a s) {x : Sy} (hx : okSy a x) : inS a (toL a s x) ∧ nextL a [s] x = [toL a s x] := by
 obtain ⟨t, t0, t1, e⟩ := one_next h.ok.wfA h.det h.full hs.1 hs.2 hx
 obtain ⟨m, hm, h1, h2⟩ := h.full s hs.1 hs.2 x hx
 have hf : toL a s x = t := by
  unfold toL
  cases hq : a.mv.find? (fun m => decide (m.src = s) && hasS m.on x) with
  | none =>
   have := List.find?_eq_none.1 hq m hm
   simp [h1, h2] at this
  | some k =>
   have hk := List.mem_of_find?_eq_some hq
   have hp := List.find?_some hq
   simp at hp
   have hin : k.dst ∈ nextL a [s] x := mem_nextL.2 ⟨h.ok.wfA.dst k hk, k, hk, by rw [hp.1]; simp, hp.2, rfl⟩
   rw [e] at hin
   exact List.mem_singleton.1 hin
 rw [hf]
 exact ⟨⟨t0, t1⟩, e⟩
theorem Dfa.to_of {a : Aut} (h : Dfa a) {m : Mv} (hm : m ∈ a.mv) {x : Sy} (hx : okSy a x) (hh : hasS m.on x = true) : toL a m.src x = m.dst := by
 have hs : inS a m.src := h.ok.wfA.src m hm
 have h1 := (h.next hs hx).2
 have hin : m.dst ∈ nextL a [m.src] x := mem_nextL.2 ⟨h.ok.wfA.dst m hm, m, hm, by simp, hh, rfl⟩
 rw [h1] at hin
 exact (List.mem_singleton.1 hin).symm
theorem Dfa.move {a : Aut} (h : Dfa a) {s : Int} (hs : inS a s) {x : Sy} (hx : okSy a x) : ∃ m ∈ a.mv, m.src = s ∧ hasS m.on x = true ∧ m.dst = toL a s x := by
 obtain ⟨m, hm, h1, h2⟩ := h.full s hs.1 hs.2 x hx
 exact ⟨m, hm, h1, h2, by rw [← h1, h.to_of hm hx h2]⟩
def stF (a : Aut) (s : Int) (w : List Sy) : Int := w.foldl (toL a) s
def accS (a : Aut) (s : Int) (w : List Sy) : Bool := a.fin.getD (stF a s w).toNat false
theorem Dfa.run {a : Aut} (h : Dfa a) : ∀ (w : List Sy) (s : Int), inS a s → (∀ x ∈ w, okSy a x) → inS a (stF a s w) ∧ runL a [s] w = [stF a s w]
 | [], s, hs, _ => ⟨hs, rfl⟩
 | x :: w, s, hs, hx => by
  obtain ⟨h1, h2⟩ := h.next hs (hx x (by simp))
  have := h.run w _ h1 (fun y hy => hx y (by simp [hy]))
  refine ⟨this.1, ?_⟩
  show runL a (nextL a [s] x) w = _
  rw [h2]; exact this.2
theorem Dfa.zero {a : Aut} (h : Dfa a) : inS a 0 := ⟨Int.le_refl _, by have := h.ok.fin; omega⟩
theorem Dfa.acc {a : Aut} (h : Dfa a) {w : List Sy} (hw : ∀ x ∈ w, okSy a x) : accL a w = accS a 0 w := by
 unfold accL accS
 rw [(h.run w 0 h.zero hw).2]
 simp [finB]
structure Ltr (T : Nat) (l cl : List Prd) : Prop where
 prts : Prts T l cl
 asc : cl.Pairwise prLt
 len : ∀ p ∈ l, p.length = T
def okT (T : Nat) (x : Sy) : Prop := 0 ≤ x.ty ∧ x.ty.toNat < T ∧ inR x.num
theorem sLt_of {p : Prd} {t : Nat} {n : Int} (h : syLt (leastP p 0).1 (leastP p 0).2 t n) : sLt (leastS p) ⟨t, n⟩ := by
 unfold syLt at h
 unfold sLt leastS
 simp only; omega
theorem Ltr.least {T : Nat} {l cl : List Prd} (h : Ltr T l cl) {c : Prd} (hc : c ∈ cl) : okT T (leastS c) ∧ PM c (leastS c).ty.toNat (leastS c).num := by
 have h1 := (least_spec (h.prts.wf c hc) (h.prts.ne c hc)).1
 have h2 := (h.prts.wf c hc).lt h1
 exact ⟨⟨by simp [leastS], by simpa [leastS] using h2.1, h2.2⟩, by simpa [leastS] using h1⟩
theorem Ltr.sig {T : Nat} {l cl : List Prd} (h : Ltr T l cl) {c : Prd} (hc : c ∈ cl) {x y : Sy} (hx : okT T x) (hy : okT T y) (hcx : PM c x.ty.toNat x.num) (hcy : PM c y.ty.toNat y.num) : ∀ p ∈ l, hasS p x = hasS p y := fun p hp => by
 have h2 := ((h.prts.cls c hc _ _ hcx _ _).1 hcy).2.2 p hp
 rw [Bool.eq_iff_iff, hasS_PM (h.len p hp) x hx.1, hasS_PM (h.len p hp) y hy.1]
 exact h2
theorem Ltr.cov {T : Nat} {l cl : List Prd} (h : Ltr T l cl) {x : Sy} (hx : okT T x) : ∃ c ∈ cl, PM c x.ty.toNat x.num ∧ (leastS c = x ∨ sLt (leastS c) x) ∧ ∀ p ∈ l, hasS p x = hasS p (leastS c) := by
 obtain ⟨c, hc, hm⟩ := h.prts.all x.ty.toNat x.num hx.2.1 hx.2.2
 obtain ⟨h1, h2⟩ := h.least hc
 refine ⟨c, hc, hm, ?_, h.sig hc hx h1 hm h2⟩
 rcases (least_spec (h.prts.wf c hc) (h.prts.ne c hc)).2 _ _ hm with ⟨e1, e2⟩ | hlt
 ·left
  unfold leastS
  rw [e1, e2, show ((x.ty.toNat : Nat) : Int) = x.ty by have := hx.1; omega]
 ·right
  have := sLt_of hlt
  have e : (⟨(x.ty.toNat : Int), x.num⟩ : Sy) = x := by rw [show ((x.ty.toNat : Nat) : Int) = x.ty by have := hx.1; omega]
  rw [e] at this; exact this
theorem Ltr.ascS {T : Nat} {l cl : List Prd} (h : Ltr T l cl) : (cl.map leastS).Pairwise sLt := by
 refine List.pairwise_map.2 (h.asc.imp_of_mem fun {p q} hp hq hlt => ?_)
 obtain ⟨t, n, hm, hall⟩ := hlt
 have h1 := hall _ _ (least_spec (h.prts.wf q hq) (h.prts.ne q hq)).1
 have h2 : syLt (leastP p 0).1 (leastP p 0).2 (leastP q 0).1 (leastP q 0).2 := by
  rcases (least_spec (h.prts.wf p hp) (h.prts.ne p hp)).2 t n hm with ⟨e1, e2⟩ | h3
  ·rw [e1, e2]; exact h1
  ·exact h3.trans h1
 exact sLt_of h2
def lettersL (a b : Aut) : List Sy := (rClassesP a.types.toNat (onA a ++ onA b)).map leastS
def stepP (a b : Aut) (s : Int × Int) (x : Sy) : Int × Int := (toL a s.1 x, toL b s.2 x)
def succP (a b : Aut) (s : Int × Int) : List (Sy × (Int × Int)) := (lettersL a b).map fun x => (x, stepP a b s x)
theorem okT_iff {a : Aut} {x : Sy} : okT a.types.toNat x ↔ okSy a x := by
 unfold okT okSy
 constructor
 ·rintro ⟨h1, h2, h3⟩; exact ⟨⟨h1, by omega⟩, h3⟩
 ·rintro ⟨⟨h1, h2⟩, h3⟩; exact ⟨h1, by omega, h3⟩
def diffP (a b : Aut) (s : Int × Int) : Bool := a.fin.getD s.1.toNat false != b.fin.getD s.2.toNat false
def partR (a b : Aut) (p q : Int) : Option (List Sy) × List ((Int × Int) × List Sy) := bfsB (diffP a b) (succP a b) (a.fin.length * b.fin.length + 1) 0 [((p, q), [])]
def prodU (a b : Aut) : List (Int × Int) := (rangeI a.fin.length).flatMap fun i => (rangeI b.fin.length).map fun j => (i, j)
theorem mem_prodU {a b : Aut} {s : Int × Int} (h1 : inS a s.1) (h2 : inS b s.2) : s ∈ prodU a b := by
 unfold prodU
 rw [List.mem_flatMap]
 exact ⟨s.1, mem_rangeI.2 h1, List.mem_map.2 ⟨s.2, mem_rangeI.2 h2, rfl⟩⟩
def firstD (a b : Aut) (p q : Int) (w : List Sy) : Prop := FirstW (okSy a) (stepP a b) (diffP a b) (p, q) w
end Go.Abs
