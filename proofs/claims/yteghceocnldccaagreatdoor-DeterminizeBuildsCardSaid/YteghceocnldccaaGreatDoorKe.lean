/- Part Ke of the proof: an abstract machine over the model, and what the functions of the program hand back in its terms. No condition. -/
import Derived.Test.YteghceocnldccaaGreatDoorKd
import Derived.Test.YteghceocnldccaaGreatDoorKc
set_option linter.all false
set_option maxRecDepth 100000
namespace Go.Abs
def mvOf (a : Aut) (s : Int) : List Mv := a.mv.filter fun m => decide (m.src = s) && !voidP m.on
def stepsR (a b : Aut) (s : Int × Int) : List (Sy × (Int × Int)) := (mvOf a s.1).flatMap fun m => (mvOf b s.2).filterMap fun n => if voidP (bothP m.on n.on) then none else some (leastS (bothP m.on n.on), (m.dst, n.dst))
theorem mem_mvOf {a : Aut} {s : Int} {m : Mv} : m ∈ mvOf a s ↔ m ∈ a.mv ∧ m.src = s ∧ voidP m.on = false := by
 unfold mvOf
 rw [List.mem_filter]
 simp
theorem mem_stepsR {a b : Aut} {s : Int × Int} {e : Sy × (Int × Int)} : e ∈ stepsR a b s ↔ ∃ m ∈ mvOf a s.1, ∃ n ∈ mvOf b s.2, voidP (bothP m.on n.on) = false ∧ e = (leastS (bothP m.on n.on), (m.dst, n.dst)) := by
 unfold stepsR
 rw [List.mem_flatMap]
 constructor
 ·rintro ⟨m, hm, h⟩
  obtain ⟨n, hn, h⟩ := List.mem_filterMap.1 h
  cases hv : voidP (bothP m.on n.on)
  ·rw [hv, if_neg (by simp)] at h
   cases h
   exact ⟨m, hm, n, hn, hv, rfl⟩
  ·rw [hv, if_pos rfl] at h; cases h
 ·rintro ⟨m, hm, n, hn, hv, rfl⟩
  exact ⟨m, hm, List.mem_filterMap.2 ⟨n, hn, by rw [hv, if_neg (by simp)]⟩⟩
theorem void_ex {T : Nat} {p : Prd} (h : PWf T p) : voidP p = false ↔ ∃ t n, PM p t n := by
 cases hv : voidP p
 ·simp only [true_iff]
  apply Classical.byContradiction
  intro hn
  have := (void_iff h).2 (fun t n hm => hn ⟨t, n, hm⟩)
  rw [hv] at this; cases this
 ·simp only [Bool.true_eq_false, false_iff]
  rintro ⟨t, n, hm⟩
  exact (void_iff h).1 hv t n hm
theorem leastS_spec {T : Nat} {p : Prd} (h : PWf T p) (hn : ∃ t n, PM p t n) : okT T (leastS p) ∧ PM p (leastS p).ty.toNat (leastS p).num ∧ ∀ x, okT T x → PM p x.ty.toNat x.num → leastS p = x ∨ sLt (leastS p) x := by
 have h1 := least_spec h hn
 have h2 := h.lt h1.1
 refine ⟨⟨by simp [leastS], by simpa [leastS] using h2.1, h2.2⟩, by simpa [leastS] using h1.1, fun x hx hm => ?_⟩
 rcases h1.2 _ _ hm with ⟨e1, e2⟩ | hlt
 ·left
  unfold leastS
  rw [e1, e2, show ((x.ty.toNat : Nat) : Int) = x.ty by have := hx.1; omega]
 ·right
  have := sLt_of hlt
  have e : (⟨(x.ty.toNat : Int), x.num⟩ : Sy) = x := by rw [show ((x.ty.toNat : Nat) : Int) = x.ty by have := hx.1; omega]
  rw [e] at this; exact this
theorem steps_ok {a b : Aut} (ha : Dfa a) (hb : Dfa b) (ht : b.types = a.types) {s : Int × Int} (h1 : inS a s.1) (h2 : inS b s.2) :
  (∀ e ∈ stepsR a b s, okSy a e.1 ∧ e.2 = stepP a b s e.1) ∧ ∀ y, okSy a y → ∃ e ∈ stepsR a b s, e.2 = stepP a b s y ∧ (e.1 = y ∨ sLt e.1 y) := by
 have hokb : ∀ x, okSy a x → okSy b x := fun x hx => by unfold okSy at *; rw [ht]; exact hx
 have hwf : ∀ {m n : Mv}, m ∈ a.mv → n ∈ b.mv → PWf a.types.toNat m.on ∧ PWf a.types.toNat n.on := fun hm hn => ⟨ha.ok.wfA.on _ hm, by rw [← ht]; exact hb.ok.wfA.on _ hn⟩
 constructor
 ·intro e he
  obtain ⟨m, hm, n, hn, hv, rfl⟩ := mem_stepsR.1 he
  obtain ⟨m1, m2, _⟩ := mem_mvOf.1 hm
  obtain ⟨n1, n2, _⟩ := mem_mvOf.1 hn
  obtain ⟨w1, w2⟩ := hwf m1 n1
  have hw := wf_both w1 w2.1
  obtain ⟨k1, k2, _⟩ := leastS_spec hw ((void_ex hw).1 hv)
  have hk := okT_iff.1 k1
  obtain ⟨p1, p2⟩ := (PM_both w1.1 w2.1 _ _).1 k2
  refine ⟨hk, ?_⟩
  unfold stepP
  rw [← m2, ← n2, ha.to_of m1 hk ((hasS_PM w1.1 _ hk.1.1).2 p1), hb.to_of n1 (hokb _ hk) ((hasS_PM w2.1 _ hk.1.1).2 p2)]
 ·intro y hy
  obtain ⟨m, m1, m2, m3, m4⟩ := ha.move h1 hy
  obtain ⟨n, n1, n2, n3, n4⟩ := hb.move h2 (hokb y hy)
  obtain ⟨w1, w2⟩ := hwf m1 n1
  have hw := wf_both w1 w2.1
  have p1 := (hasS_PM w1.1 y hy.1.1).1 m3
  have p2 := (hasS_PM w2.1 y hy.1.1).1 n3
  have hpm := (PM_both w1.1 w2.1 _ _).2 ⟨p1, p2⟩
  have hv := (void_ex hw).2 ⟨_, _, hpm⟩
  refine ⟨_, mem_stepsR.2 ⟨m, mem_mvOf.2 ⟨m1, m2, (void_ex w1).2 ⟨_, _, p1⟩⟩, n, mem_mvOf.2 ⟨n1, n2, (void_ex w2).2 ⟨_, _, p2⟩⟩, hv, rfl⟩, ?_, (leastS_spec hw ⟨_, _, hpm⟩).2.2 y (okT_iff.2 hy) hpm⟩
  unfold stepP
  rw [m4, n4]
def lkN (near : List ((Int × Int) × Nat)) (s : Int × Int) : Option Nat := (near.find? fun e => decide (e.1 = s)).map (·.2)
def partedN (a : Aut) (near : List ((Int × Int) × Nat)) (d : Nat) (s : Int × Int) : Bool := match d with
 | 0 => diffP a a s
 | d + 1 => (stepsR a a s).any fun e => decide (lkN near e.2 = some d)
def foundN (a : Aut) (near : List ((Int × Int) × Nat)) (d : Nat) : List (Int × Int) := (prodU a a).filter fun s => decide (lkN near s = none) && partedN a near d s
def nearB (a : Aut) : Nat → Nat → List ((Int × Int) × Nat) → List ((Int × Int) × Nat)
 | 0, _, near => near
 | f + 1, d, near => if foundN a near d = [] then near else nearB a f (d + 1) (near ++ (foundN a near d).map fun s => (s, d))
def nearF (a : Aut) : List ((Int × Int) × Nat) := nearB a (a.fin.length * a.fin.length + 1) 1 ((foundN a [] 0).map fun s => (s, 0))
def inP (a : Aut) (s : Int × Int) : Prop := inS a s.1 ∧ inS a s.2
def distD (a : Aut) (s : Int × Int) (d : Nat) : Prop := ∃ w : List Sy, w.length = d ∧ (∀ x ∈ w, okSy a x) ∧ diffP a a (walkW (stepP a a) s w) = true
def mdist (a : Aut) (s : Int × Int) (d : Nat) : Prop := distD a s d ∧ ∀ k, k < d → ¬ distD a s k
theorem dist_zero {a : Aut} {s : Int × Int} : distD a s 0 ↔ diffP a a s = true := by
 constructor
 ·rintro ⟨w, hw, _, h⟩
  obtain rfl := List.length_eq_zero_iff.1 hw
  exact h
 ·intro h; exact ⟨[], rfl, by simp, h⟩
theorem dist_succ {a : Aut} {s : Int × Int} {d : Nat} : distD a s (d + 1) ↔ ∃ y, okSy a y ∧ distD a (stepP a a s y) d := by
 constructor
 ·rintro ⟨w, hw, ho, h⟩
  cases w with
  | nil => cases hw
  | cons y w => exact ⟨y, ho y (by simp), w, by simpa using hw, fun x hx => ho x (by simp [hx]), h⟩
 ·rintro ⟨y, hy, w, hw, ho, h⟩
  exact ⟨y :: w, by simp [hw], fun x hx => (List.mem_cons.1 hx).elim (fun e => by rw [e]; exact hy) (ho x), h⟩
theorem mdist_uniq {a : Aut} {s : Int × Int} {d k : Nat} (h : mdist a s d) (h' : mdist a s k) : d = k := by
 rcases Nat.lt_trichotomy d k with hlt | e | hlt
 ·exact absurd h.1 (h'.2 d hlt)
 ·exact e
 ·exact absurd h'.1 (h.2 k hlt)
theorem dist_min {a : Aut} {s : Int × Int} : ∀ (d : Nat), distD a s d → ∃ k, k ≤ d ∧ mdist a s k := by
 intro d
 induction d using Nat.strongRecOn with
 | _ d ih =>
  intro h
  by_cases hk : ∃ k, k < d ∧ distD a s k
  ·obtain ⟨k, h1, h2⟩ := hk
   obtain ⟨j, h3, h4⟩ := ih k h1 h2
   exact ⟨j, by omega, h4⟩
  ·exact ⟨d, Nat.le_refl _, h, fun k h1 h2 => hk ⟨k, h1, h2⟩⟩
theorem mdist_step {a : Aut} {s : Int × Int} {d : Nat} (h : mdist a s (d + 1)) : ∃ y, okSy a y ∧ mdist a (stepP a a s y) d := by
 obtain ⟨y, hy, h1⟩ := dist_succ.1 h.1
 refine ⟨y, hy, h1, fun k hk h2 => ?_⟩
 exact h.2 (k + 1) (by omega) (dist_succ.2 ⟨y, hy, h2⟩)
theorem step_in {a : Aut} (ha : Dfa a) {s : Int × Int} (hs : inP a s) {y : Sy} (hy : okSy a y) : inP a (stepP a a s y) := ⟨(ha.next hs.1 hy).1, (ha.next hs.2 hy).1⟩
structure NInv (a : Aut) (d : Nat) (near : List ((Int × Int) × Nat)) : Prop where
 lk : ∀ s, inP a s → ∀ k, lkN near s = some k ↔ (k < d ∧ mdist a s k)
 keys : (near.map (·.1)).Nodup
 dom : ∀ e ∈ near, e.1 ∈ prodU a a
theorem lkN_app (A : List ((Int × Int) × Nat)) (B : List (Int × Int)) (d : Nat) (s : Int × Int) : lkN (A ++ B.map fun t => (t, d)) s = match lkN A s with | some k => some k | none => if s ∈ B then some d else none := by
 unfold lkN
 rw [List.find?_append]
 cases hA : A.find? fun e => decide (e.1 = s) with
 | some e => rfl
 | none =>
  simp only [Option.none_or, Option.map_none]
  by_cases hs : s ∈ B
  ·rw [if_pos hs]
   obtain ⟨e, he⟩ := Option.isSome_iff_exists.1 (List.find?_isSome.2 ⟨(s, d), List.mem_map.2 ⟨s, hs, rfl⟩, by simp⟩ : (List.find? (fun e : (Int × Int) × Nat => decide (e.1 = s)) (B.map fun t => (t, d))).isSome)
   rw [he]
   obtain ⟨t, _, rfl⟩ := List.mem_map.1 (List.mem_of_find?_eq_some he)
   rfl
  ·rw [if_neg hs]
   rw [List.find?_eq_none.2 (fun e he => by
    obtain ⟨t, ht, rfl⟩ := List.mem_map.1 he
    simp only [decide_eq_true_eq]
    rintro rfl
    exact hs ht)]
   rfl
theorem lkN_none {A : List ((Int × Int) × Nat)} {s : Int × Int} : lkN A s = none ↔ s ∉ A.map (·.1) := by
 unfold lkN
 rw [Option.map_eq_none_iff, List.find?_eq_none]
 constructor
 ·intro h hs
  obtain ⟨e, he, rfl⟩ := List.mem_map.1 hs
  exact h e he (by simp)
 ·intro h e he
  simp only [decide_eq_true_eq]
  rintro rfl
  exact h (List.mem_map.2 ⟨e, he, rfl⟩)
theorem prod_in {a : Aut} {s : Int × Int} (h : s ∈ prodU a a) : inP a s := by
 obtain ⟨i, hi, hs⟩ := List.mem_flatMap.1 h
 obtain ⟨j, hj, rfl⟩ := List.mem_map.1 hs
 exact ⟨mem_rangeI.1 hi, mem_rangeI.1 hj⟩
theorem prod_nodup (a : Aut) : (prodU a a).Nodup := by
 have hr : ∀ n, (rangeI n).Nodup := fun n => (rangeI_lt n).imp (fun h e => by omega)
 unfold prodU List.Nodup
 rw [List.pairwise_flatMap]
 refine ⟨fun i _ => List.pairwise_map.2 ((hr _).imp fun h e => h (Prod.mk.inj e).2), (hr _).imp fun {i j} hij x hx y hy e => ?_⟩
 obtain ⟨u, _, rfl⟩ := List.mem_map.1 hx
 obtain ⟨v, _, rfl⟩ := List.mem_map.1 hy
 exact hij (Prod.mk.inj e).1
theorem found_iff {a : Aut} (ha : Dfa a) {d : Nat} {near : List ((Int × Int) × Nat)} (h : NInv a d near) {s : Int × Int} : s ∈ foundN a near d ↔ inP a s ∧ mdist a s d := by
 unfold foundN
 rw [List.mem_filter]
 simp only [Bool.and_eq_true, decide_eq_true_eq]
 have hno : ∀ s, inP a s → (lkN near s = none ↔ ∀ k, k < d → ¬ distD a s k) := fun s hs => by
  constructor
  ·intro hn k hk hd
   obtain ⟨j, h1, h2⟩ := dist_min k hd
   have := (h.lk s hs j).2 ⟨by omega, h2⟩
   rw [hn] at this; cases this
  ·intro hk
   cases hl : lkN near s with
   | none => rfl
   | some k =>
    obtain ⟨h1, h2⟩ := (h.lk s hs k).1 hl
    exact absurd h2.1 (hk k h1)
 constructor
 ·rintro ⟨h1, h2, h3⟩
  have hs := prod_in h1
  have hk := (hno s hs).1 h2
  refine ⟨hs, ?_, hk⟩
  cases d with
  | zero => exact dist_zero.2 h3
  | succ d =>
   simp only [partedN, List.any_eq_true, decide_eq_true_eq] at h3
   obtain ⟨e, he, hl⟩ := h3
   obtain ⟨e1, e2⟩ := (steps_ok ha ha rfl hs.1 hs.2).1 e he
   rw [e2] at hl
   exact dist_succ.2 ⟨e.1, e1, ((h.lk _ (step_in ha hs e1) d).1 hl).2.1⟩
 ·rintro ⟨hs, h2⟩
  refine ⟨mem_prodU hs.1 hs.2, (hno s hs).2 h2.2, ?_⟩
  cases d with
  | zero => exact dist_zero.1 h2.1
  | succ d =>
   obtain ⟨y, hy, hm⟩ := mdist_step h2
   obtain ⟨e, he, e1, _⟩ := (steps_ok ha ha rfl hs.1 hs.2).2 y hy
   simp only [partedN, List.any_eq_true, decide_eq_true_eq]
   exact ⟨e, he, by rw [e1]; exact (h.lk _ (step_in ha hs hy) d).2 ⟨by omega, hm⟩⟩
theorem NInv.step {a : Aut} (ha : Dfa a) {d : Nat} {near : List ((Int × Int) × Nat)} (h : NInv a d near) : NInv a (d + 1) (near ++ (foundN a near d).map fun s => (s, d)) := by
 refine ⟨fun s hs k => ?_, ?_, fun e he => ?_⟩
 ·rw [lkN_app]
  cases hl : lkN near s with
  | some j =>
   obtain ⟨h1, h2⟩ := (h.lk s hs j).1 hl
   simp only [Option.some.injEq]
   constructor
   ·rintro rfl; exact ⟨by omega, h2⟩
   ·rintro ⟨_, h3⟩; exact mdist_uniq h2 h3
  | none =>
   simp only
   have hno : ∀ k, k < d → ¬ mdist a s k := fun k hk hm => by
    have := (h.lk s hs k).2 ⟨hk, hm⟩
    rw [hl] at this; cases this
   by_cases hf : s ∈ foundN a near d
   ·rw [if_pos hf]
    have hm := ((found_iff ha h).1 hf).2
    simp only [Option.some.injEq]
    constructor
    ·rintro rfl; exact ⟨by omega, hm⟩
    ·rintro ⟨_, h3⟩; exact mdist_uniq hm h3
   ·rw [if_neg hf]
    constructor
    ·intro hc; cases hc
    ·rintro ⟨h1, h3⟩
     by_cases hkd : k < d
     ·exact absurd h3 (hno k hkd)
     ·have : k = d := by omega
      subst this
      exact absurd ((found_iff ha h).2 ⟨hs, h3⟩) hf
 ·rw [List.map_append, List.map_map, List.nodup_append]
  refine ⟨h.keys, ?_, fun x hx y hy e => ?_⟩
  ·have : (foundN a near d).map ((·.1) ∘ fun s => (s, d)) = foundN a near d := by
    exact (List.map_congr_left (g := id) (fun _ _ => rfl)).trans (List.map_id _)
   rw [this]
   exact (prod_nodup a).filter _
  ·subst e
   obtain ⟨t, ht, rfl⟩ := List.mem_map.1 hy
   have := (List.mem_filter.1 ht).2
   simp only [Bool.and_eq_true, decide_eq_true_eq] at this
   exact lkN_none.1 this.1 hx
 ·rcases List.mem_append.1 he with he | he
  ·exact h.dom e he
  ·obtain ⟨t, ht, rfl⟩ := List.mem_map.1 he
   exact (List.mem_filter.1 ht).1
def befS (x y : Sy) : Bool := decide (x.ty < y.ty) || (decide (x.ty = y.ty) && decide (x.num < y.num))
def bestR (es : List (Sy × (Int × Int))) : Option (Sy × (Int × Int)) := es.foldl (fun b e => match b with | none => some e | some c => if befS e.1 c.1 then some e else some c) none
def wordN (a : Aut) (near : List ((Int × Int) × Nat)) : Nat → Int × Int → List Sy
 | 0, _ => []
 | d + 1, s => match bestR ((stepsR a a s).filter fun e => decide (lkN near e.2 = some d)) with
  | some e => e.1 :: wordN a near d e.2
  | none => ⟨0, 0⟩ :: wordN a near d (0, 0)
end Go.Abs
set_option maxRecDepth 100000
namespace Go.Abs
open Go Go.Proofs
set_option linter.unusedSimpArgs false
theorem wf_in {T : Nat} {p : Prd} (h : PWf T p) {s : List Iv} (hs : s ∈ p) : ∀ x ∈ s, ivIn x := sep_in (h.2 s hs).1 (h.2 s hs).2
attribute [local irreducible] rBothL normR
set_option maxHeartbeats 1000000 in
theorem pc_rpVoid (p : Prd) : PC Tryz.prog 76 [encP p] (fun r => r = .bool (voidP p)) := by
 refine PC_body tOk Tryz.func76 rfl Tryz.results76 rfl (by simp [Tryz.ntmps76]) ?_
 rw [Tryz.ntmps76]
 simp only [argSlots]
 simp only [encP]
 refine AWP_lenAgg 0 0 rfl rfl (fun hlen => ?_)
 rw [List.length_map] at hlen
 obtain ⟨R, hR⟩ : ∃ R, voidP p = R := ⟨_, rfl⟩
 rw [hR]
 repeat first|((first|refine qa tOk rfl ?_|refine qb tOk rfl ?_|refine qh rfl ?_);simp)|refine qf ?_|refine qg ?_
 refine AWP_countI p.length (fun j => voidP (p.drop j) = R) (fun j => [(1, .vptr 0 0), (3, .i j)]) (fun _ => [.vars [.list (p.map encL)]]) rfl (by simp) (by simp) (by simp) (by simp) (by simpa using hR) ?_
 intro j hj hI ih
 repeat first|((first|refine qa tOk rfl ?_|refine qb tOk rfl ?_|refine qh rfl ?_);simp)|refine qf ?_|refine qg ?_
 refine AWP_cond2 rfl (fun hlt => ?_) (fun hge => ?_)
 ·have hlt' : j < p.length := by simpa using hlt
  have hw : IntKind.i64.wrap ((j : Int) + 1) = j + 1 := wrap_i64 _ (by omega) (by omega)
  rw [drop_get hlt', voidP, List.all_cons] at hI
  repeat first|((first|refine qa tOk rfl ?_|refine qb tOk rfl ?_|refine qh rfl ?_);simp [hlt'])|refine qf ?_|refine qg ?_
  refine AWP_cond2 rfl (fun h3 => ?_) (fun h3 => ?_)
  ·repeat first|((first|refine qa tOk rfl ?_|refine qb tOk rfl ?_|refine qh rfl ?_);simp)|refine qf ?_|refine qg ?_
   have : p[j].isEmpty = false := by simp at h3; cases hp : p[j] with | nil => rw [hp] at h3; simp at h3 | cons _ _ => rfl
   rw [this, Bool.false_and] at hI; exact hI.symm
  ·have : p[j].isEmpty = true := by simp at h3; simp [h3]
   rw [this, Bool.true_and] at hI
   repeat first|((first|refine qa tOk rfl ?_|refine qb tOk rfl ?_|refine qh rfl ?_);simp [hw])|refine qf ?_|refine qg ?_
   refine ALoop_end _ (ih hlt' hI) rfl (by simp) ?_ (by simp) (by simp)
   simp
 ·have hge' : j = p.length := by simp at hge; omega
  subst hge'
  repeat first|((first|refine qa tOk rfl ?_|refine qb tOk rfl ?_|refine qh rfl ?_);simp)|refine qf ?_|refine qg ?_
  rw [← hI, List.drop_length]; rfl
theorem leastS_drop : ∀ (p : Prd) (i : Nat), (∃ s ∈ p, s ≠ []) → ∃ t x r, p[t]? = some (x :: r) ∧ leastP p i = (i + t, x.lo) ∧ ∀ j, j < t → p[j]? = some []
 | [], i, h => by obtain ⟨s, hs, _⟩ := h; cases hs
 | [] :: p, i, h => by
  obtain ⟨t, x, r, h1, h2, h3⟩ := leastS_drop p (i + 1) (by obtain ⟨s, hs, hn⟩ := h; rcases List.mem_cons.1 hs with rfl | hs; exact absurd rfl hn; exact ⟨s, hs, hn⟩)
  refine ⟨t + 1, x, r, by simpa using h1, by rw [leastP, h2]; congr 1; omega, fun j hj => ?_⟩
  cases j with
  | zero => rfl
  | succ j => simpa using h3 j (by omega)
 | (x :: r) :: p, i, _ => ⟨0, x, r, rfl, by simp [leastP], fun j hj => by omega⟩
set_option maxHeartbeats 1000000 in
theorem pc_rpLeast (p : Prd) (hn : voidP p = false) : PC Tryz.prog 67 [encP p] (fun r => r = encSy (leastS p)) := by
 refine PC_body tOk Tryz.func67 rfl Tryz.results67 rfl (by simp [Tryz.ntmps67]) ?_
 rw [Tryz.ntmps67]
 simp only [argSlots]
 simp only [encP]
 refine AWP_lenAgg 0 0 rfl rfl (fun hlen => ?_)
 rw [List.length_map] at hlen
 obtain ⟨t, x, r, h1, h2, h3⟩ := leastS_drop p 0 (by
  unfold voidP at hn
  rw [List.all_eq_false] at hn
  obtain ⟨s, hs, he⟩ := hn
  exact ⟨s, hs, fun e => by rw [e] at he; simp at he⟩)
 have hL : leastS p = ⟨(t : Int), x.lo⟩ := by rw [leastS, h2]; simp
 rw [hL]
 have ht := (List.getElem?_eq_some_iff.1 h1).1
 have htv : p[t] = x :: r := (List.getElem?_eq_some_iff.1 h1).2
 repeat first|((first|refine qa tOk rfl ?_|refine qb tOk rfl ?_|refine qh rfl ?_);simp)|refine qf ?_|refine qg ?_
 refine AWP_countI t (fun _ => True) (fun j => [(1, .vptr 0 0), (2, .vptr 1 0), (3, .i j)]) (fun _ => [.vars [.list (p.map encL)], .vars [.i 0, .i 0]]) rfl (by simp) (by simp) (by simp) (by simp) trivial ?_
 intro j hj _ ih
 have hlt' : j < p.length := by omega
 have hw : IntKind.i64.wrap ((j : Int) + 1) = j + 1 := wrap_i64 _ (by omega) (by omega)
 repeat first|((first|refine qa tOk rfl ?_|refine qb tOk rfl ?_|refine qh rfl ?_);simp [hlt'])|refine qf ?_|refine qg ?_
 refine AWP_cond rfl ?_
 simp [hlt']
 repeat first|((first|refine qa tOk rfl ?_|refine qb tOk rfl ?_|refine qh rfl ?_);simp [hlt'])|refine qf ?_|refine qg ?_
 by_cases hjt : j = t
 ·subst hjt
  have hpos : ¬ (p[j].length = 0) := by rw [htv]; simp
  have hp0 : 0 < p[j].length := by omega
  repeat first|((first|refine qa tOk rfl ?_|refine qb tOk rfl ?_|refine qh rfl ?_);simp [hlt', htv])|refine qf ?_|refine qg ?_
  refine AWP_cond2 rfl (fun h => ?_) (fun h => ?_)
  ·repeat first|((first|refine qa tOk rfl ?_|refine qb tOk rfl ?_|refine qh rfl ?_);simp [hlt', htv])|refine qf ?_|refine qg ?_
  ·exfalso; rw [htv] at h; simp at h
 ·have hje := h3 j (by omega)
  have hjv : p[j] = [] := (List.getElem?_eq_some_iff.1 hje).2
  repeat first|((first|refine qa tOk rfl ?_|refine qb tOk rfl ?_|refine qh rfl ?_);simp [hlt', hjv])|refine qf ?_|refine qg ?_
  refine AWP_cond2 rfl (fun h => ?_) (fun h => ?_)
  ·exfalso; rw [hjv] at h; simp at h
  ·repeat first|((first|refine qa tOk rfl ?_|refine qb tOk rfl ?_|refine qh rfl ?_);simp [hw])|refine qf ?_|refine qg ?_
   refine ALoop_end _ (ih (by omega) trivial) rfl (by simp) ?_ (by simp) (by simp)
   simp
theorem pc_rpBefore (x y : Sy) : PC Tryz.prog 191 [encSy x, encSy y] (fun r => r = .bool (befS x y)) := by
 refine PC_body tOk Tryz.func191 rfl Tryz.results191 rfl (by simp [Tryz.ntmps191]) ?_
 rw [Tryz.ntmps191]
 simp only [argSlots]
 simp only [encSy]
 repeat first|((first|refine qa tOk rfl ?_|refine qb tOk rfl ?_|refine qh rfl ?_);simp)|refine qf ?_|refine qg ?_
 by_cases h : x.ty = y.ty <;> simp [befS, h]
end Go.Abs
set_option maxRecDepth 100000
namespace Go.Abs
open Go Go.Proofs
set_option linter.unusedSimpArgs false
attribute [local irreducible] rBothL normR upL gapsR
theorem both_get {c p : Prd} (h : c.length = p.length) : (List.range c.length).map (fun i => rBothL (c.getD i []) (p.getD i [])) = bothP c p := by
 refine List.ext_getElem (by simp [bothP, h]) fun i h1 h2 => ?_
 have hc : i < c.length := by simpa using h1
 have hp : i < p.length := by omega
 simp [bothP, List.getD, hc, hp]
set_option maxHeartbeats 2000000 in
theorem pc_rpBoth (T : Nat) (c p : Prd) (hc : PWf T c) (hp : PWf T p) (hll : ∀ s ∈ c, ∀ t ∈ p, s.length + t.length ≤ 1000000000) (hT : T ≤ 1000) : PC Tryz.prog 109 [encP c, encP p] (fun r => r = encP (bothP c p)) := by
 refine PC_body tOk Tryz.func109 rfl Tryz.results109 rfl (by simp [Tryz.ntmps109]) ?_
 rw [Tryz.ntmps109]
 simp only [argSlots]
 simp only [encP]
 have hlen : c.length = p.length := by rw [hc.1, hp.1]
 have hcT := hc.1
 repeat first|((first|refine qa tOk rfl ?_|refine qb tOk rfl ?_|refine qh rfl ?_);simp)|refine qf ?_|refine qg ?_
 refine AWP_nilCell 3 0 171 1 rfl rfl ?_
 simp
 obtain ⟨K, hK⟩ : ∃ K, K = [AObj.vars [.list (c.map encL)], AObj.vars [.list (p.map encL)], AObj.vars [AV.nils], AObj.vars [AV.nils]] := ⟨_, rfl⟩
 have hst := GL.start (K := K) (S := 3) [] [] 171 1 (by rw [hK]; simp)
 refine AWP_loop (ALoop_keep (sl' := [(2, .vptr 0 0), (3, .vptr 1 0), (4, .vptr 2 0), (5, .vptr 3 0), (6, .i 0)]) ?_ (by simp))
 refine ALoop_wf (F := fun (u : Nat × Nat × List AObj) => ⟨[(2, .vptr 0 0), (3, .vptr 1 0), (4, .vptr 2 0), (5, .vptr 3 0), (6, .i u.1)], u.2.2⟩)
  (fun u => u.1 ≤ c.length ∧ GL K u.2.2 3 u.2.1 [] [] 171 1 (upL (fun i => rBothL (c.getD i []) (p.getD i [])) u.1)) (fun u => c.length - u.1) ?_ (0, K.length, _) ⟨by simp, by rw [upL_zero, hK] at *; exact hst⟩
 rintro ⟨j, q, H2⟩ ⟨hj, g⟩ ih
 simp only [List.cons_append, List.nil_append] at hj g ih ⊢
 have g0 : H2[0]? = some (AObj.vars [.list (c.map encL)]) := g.kp (by decide) (by rw [hK]; rfl)
 have g1 : H2[1]? = some (AObj.vars [.list (p.map encL)]) := g.kp (by decide) (by rw [hK]; rfl)
 have gR : H2[2]? = some (AObj.vars [AV.nils]) := g.kp (by decide) (by rw [hK]; rfl)
 have g2 := g.cell
 have g3 := g.arr
 rw [upL_len] at g2
 simp only [List.nil_append] at g2
 repeat first|((first|refine qa tOk rfl ?_|refine qb tOk rfl ?_|refine qh rfl ?_);simp [g0])|refine qf ?_|refine qg ?_
 refine AWP_cond2 rfl (fun hlt => ?_) (fun hge => ?_)
 ·have hlt' : j < c.length := by simpa using hlt
  have hw : IntKind.i64.wrap ((j : Int) + 1) = j + 1 := wrap_i64 _ (by omega) (by omega)
  have hc2 : ∀ L : List AObj, (H2.set q .dead ++ L)[3]? = some (AObj.vars [AV.sl q 1 0 j]) := fun L => by have := g.at L; rw [upL_len] at this; exact this
  have hc3 : ∀ (L : List AObj) (h : 3 < (H2.set q .dead ++ L).length), (H2.set q .dead ++ L)[3]'h = AObj.vars [AV.sl q 1 0 j] := fun L h => by have := hc2 L; rw [List.getElem?_eq_getElem h] at this; exact Option.some.inj this
  have hput := fun A y => g.put A y (upL_len _ _).symm
  have hnx : upL (fun i => rBothL (c.getD i []) (p.getD i [])) j ++ [encL ((fun i => rBothL (c.getD i []) (p.getD i [])) j)] = upL (fun i => rBothL (c.getD i []) (p.getD i [])) (j + 1) := (upL_succ _ _).symm
  have hpush := fun H => ih (j + 1, H2.length + 1, H)
  have hul := upL_len (fun i => rBothL (c.getD i []) (p.getD i [])) j
  simp only [← hnx] at hpush
  have hlp : j < p.length := by omega
  have hs := hc.2 _ (List.getElem_mem hlt')
  have hs' := hp.2 _ (List.getElem_mem hlp)
  simp only [getD_len hlt', getD_len hlp] at *
  repeat first|((first|refine qa tOk rfl ?_|refine qb tOk rfl ?_|refine qh rfl ?_);simp [g0, g1, g2])|refine qf ?_|refine qg ?_
  refine AWP_drawT tOk mixed [14, 16] (.val 0 (.val 1 (.val 2 (.val 3 (.val 4 (.val 5 (.val 6 (.val 7 (.val 8 (.val 9 (.val 10 (.val 11 (.one 12 (.one 13 (.one 14 (.val 15 (.one 16 (.done)))))))))))))))))) rfl (by kernel_rfl) ?_
  simp [hlt', hlp, g0, g1, g2]
  refine AStep_PC rfl rfl (by simp) (pc_rBothW c[j] p[j] hs.1 hs'.1 (hll _ (List.getElem_mem hlt') _ (List.getElem_mem hlp)) (wf_in hc (List.getElem_mem hlt'))) rfl ?_
  rintro _ rfl
  simp
  repeat first|((first|refine qa tOk rfl ?_|refine qb tOk rfl ?_|refine qh rfl ?_);simp [g0, g1, g2])|refine qf ?_|refine qg ?_
  generalize upL (fun i => rBothL (c.getD i []) (p.getD i [])) j = xs at *
  refine AStep_appendS tOk rfl rfl T74 rfl T171 rfl (by decide) (by decide) rfl rfl rfl ?_
  simp [get_app g3, set_app g3, hul, hc2, hc3]
  refine ⟨by simp [appOk, get_app g3, set_app g3, hul, hc2, hc3] <;> omega, ?_⟩
  repeat first|((first|refine qa tOk rfl ?_|refine qb tOk rfl ?_|refine qh rfl ?_);simp [g0, g2, hw, hc2, hc3])|refine qf ?_|refine qg ?_
  refine ALoop_keep (sl' := [(2, .vptr 0 0), (3, .vptr 1 0), (4, .vptr 2 0), (5, .vptr 3 0), (6, .i (j + 1 : Nat))]) (hpush _ ⟨by omega, hput _ _⟩ (by omega)) ?_
  simp
 ·have hge' : j = c.length := by (simp at hge; omega)
  subst hge'
  have hS := (List.getElem?_eq_some_iff.1 g2).1
  have hne : q ≠ 2 ∧ q ≠ 3 := by have := g.ge; rw [hK] at this; simp at this; omega
  have hul := upL_len (fun i => rBothL (c.getD i []) (p.getD i [])) (c.length)
  have hres : .list (upL (fun i => rBothL (c.getD i []) (p.getD i [])) (c.length)) = AV.list ((bothP c p).map encL) := by
   rw [upL_all]
   rw [both_get hlen]
  generalize upL (fun i => rBothL (c.getD i []) (p.getD i [])) (c.length) = xs at *
  refine AWP_freezeC q g3 3 g2 ?_
  have k1 : ∀ X, ((H2.set q .dead).set 3 X)[2]? = some (AObj.vars [AV.nils]) := fun X => get_set (by decide) (get_set hne.1 gR _) _
  have k2 : ∀ X, ((H2.set q .dead).set 3 X)[3]? = some X := fun X => List.getElem?_set_self (by simpa using hS)
  have k3 : ∀ X Y, (((H2.set q .dead).set 3 X).set 2 Y)[2]? = some Y := fun X Y => get_self (k1 X) _
  simp [hul]
  rw [List.take_of_length_le (by omega)]
  repeat first|((first|refine qa tOk rfl ?_|refine qb tOk rfl ?_|refine qh rfl ?_);simp [k1, k2, k3])|refine qf ?_|refine qg ?_
  exact AV.list.inj hres
end Go.Abs
set_option maxRecDepth 100000
namespace Go.Abs
open Go Go.Proofs
set_option linter.unusedSimpArgs false
attribute [local irreducible] hasR
set_option maxHeartbeats 1000000 in
theorem pc_rpHas (p : Prd) (x : Sy) (hl : ∀ s ∈ p, s.length ≤ 1000000000) : PC Tryz.prog 127 [encP p, encSy x] (fun r => r = .bool (hasS p x)) := by
 refine PC_body tOk Tryz.func127 rfl Tryz.results127 rfl (by simp [Tryz.ntmps127]) ?_
 rw [Tryz.ntmps127]
 simp only [argSlots]
 simp only [encP, encSy]
 repeat first|((first|refine qa tOk rfl ?_|refine qb tOk rfl ?_|refine qh rfl ?_);simp)|refine qf ?_|refine qg ?_
 by_cases h0 : 0 ≤ x.ty
 ·by_cases h1 : x.ty < p.length
  ·have h2 : x.ty.toNat < p.length := by omega
   refine AWP_drawT tOk mixed [] (.val 0 (.val 1 (.val 2 (.val 3 (.val 4 (.val 5 (.val 6 (.val 7 (.val 8 (.val 9 (.val 10 (.val 11 (.val 12 (.val 13 (.val 14 (.val 15 (.val 16 (.val 17 (.val 18 (.val 19 (.one 20 (.val 21 (.val 22 (.done)))))))))))))))))))))))) rfl (by kernel_rfl) ?_
   simp [h0, h1, h2]
   refine AStep_PC rfl rfl (by simp) (pc_rHas p[x.ty.toNat] x.num (hl _ (List.getElem_mem h2))) rfl ?_
   rintro _ rfl
   simp
   repeat first|((first|refine qa tOk rfl ?_|refine qb tOk rfl ?_|refine qh rfl ?_);simp [h0, h1, h2])|refine qf ?_|refine qg ?_
   simp [hasS, h0, h1, List.getD, h2]
  ·refine AWP_drawT tOk mixed [] (.val 0 (.val 1 (.val 2 (.val 3 (.val 4 (.val 5 (.val 6 (.val 7 (.val 8 (.val 9 (.val 10 (.val 11 (.val 12 (.val 13 (.val 14 (.val 15 (.val 16 (.val 17 (.val 18 (.val 19 (.one 20 (.val 21 (.val 22 (.done)))))))))))))))))))))))) rfl (by kernel_rfl) ?_
   simp [h0, h1]
   refine AStep_skip rfl rfl ?_
   simp [h0, h1]
   repeat first|((first|refine qa tOk rfl ?_|refine qb tOk rfl ?_|refine qh rfl ?_);simp [h0, h1])|refine qf ?_|refine qg ?_
   simp [hasS, h0, h1]
 ·refine AWP_drawT tOk mixed [] (.val 0 (.val 1 (.val 2 (.val 3 (.val 4 (.val 5 (.val 6 (.val 7 (.val 8 (.val 9 (.val 10 (.val 11 (.val 12 (.val 13 (.val 14 (.val 15 (.val 16 (.val 17 (.val 18 (.val 19 (.one 20 (.val 21 (.val 22 (.done)))))))))))))))))))))))) rfl (by kernel_rfl) ?_
  simp [h0]
  refine AStep_skip rfl rfl ?_
  simp [h0]
  repeat first|((first|refine qa tOk rfl ?_|refine qb tOk rfl ?_|refine qh rfl ?_);simp [h0])|refine qf ?_|refine qg ?_
  simp [hasS, h0]
def badP (a : Aut) (i k : Nat) : Bool := decide ((a.mv.getD i default).src = (a.mv.getD k default).src) && cmnP (a.mv.getD i default).on (a.mv.getD k default).on
theorem sgl_false {a : Aut} {i k : Nat} (hi : i < a.mv.length) (hk : k < i) (h : badP a i k = true) : sglR a = false := by
 unfold sglR
 rw [List.all_eq_false]
 refine ⟨i, List.mem_range.2 hi, ?_⟩
 rw [Bool.not_eq_true, List.all_eq_false]
 exact ⟨k, List.mem_range.2 hk, by unfold badP at h; rw [h]; simp⟩
theorem sgl_true {a : Aut} (h : ∀ i, i < a.mv.length → ∀ k, k < i → badP a i k = false) : sglR a = true := by
 unfold sglR
 rw [List.all_eq_true]
 intro i hi
 rw [List.all_eq_true]
 intro k hk
 have := h i (List.mem_range.1 hi) k (List.mem_range.1 hk)
 unfold badP at this
 rw [this]; rfl
theorem badP_get {a : Aut} {i k : Nat} (hi : i < a.mv.length) (hk : k < a.mv.length) : badP a i k = (decide (a.mv[i].src = a.mv[k].src) && cmnP a.mv[i].on a.mv[k].on) := by simp [badP, List.getD, hi, hk]
theorem ok_len {a : Aut} (h : OkA a) {m : Mv} (hm : m ∈ a.mv) : ∀ s ∈ m.on, s.length ≤ 256 := fun s hs => ((h.mv m hm).on.2 s hs).len
attribute [local irreducible] badP cmnP bothP voidP
def dckF (a : Aut) : Bool × Int := if ckAut a = 0 then (sglR a, 0) else (false, ckAut a)
end Go.Abs
set_option maxRecDepth 100000
namespace Go.Abs
open Go Go.Proofs
set_option linter.unusedSimpArgs false
def ovl (x y : Iv) : Bool := decide (x.lo ≤ y.hi) && decide (y.lo ≤ x.hi)
def noC (p q : Prd) (i : Nat) : Prop := ∀ x ∈ p.getD i [], ∀ y ∈ q.getD i [], ovl x y = false
theorem cmn_false {T : Nat} {p q : Prd} (hp : PWf T p) (hq : PWf T q) (h : ∀ i, i < p.length → noC p q i) : cmnP p q = false := by
 rw [Bool.eq_false_iff, Ne, cmn_iff hp hq]
 rintro ⟨t, n, ⟨s, hs, x, hx, h1, h2⟩, ⟨s', hs', y, hy, h3, h4⟩⟩
 have ht := (List.getElem?_eq_some_iff.1 hs).1
 have := h t ht x (by rw [List.getD, hs]; exact hx) y (by rw [List.getD, hs']; exact hy)
 simp only [ovl, Bool.and_eq_false_iff, decide_eq_false_iff_not] at this
 omega
theorem cmn_true {T : Nat} {p q : Prd} (hp : PWf T p) (hq : PWf T q) {i : Nat} (hi : i < p.length) (hi' : i < q.length) {x y : Iv} (hx : x ∈ p[i]) (hy : y ∈ q[i]) (h : ovl x y = true) : cmnP p q = true := by
 rw [cmn_iff hp hq]
 simp only [ovl, Bool.and_eq_true, decide_eq_true_eq] at h
 have h1 := (hp.2 _ (List.getElem_mem hi)).1.1 x hx
 have h2 := (hq.2 _ (List.getElem_mem hi')).1.1 y hy
 by_cases hl : x.lo ≤ y.lo
 ·exact ⟨i, y.lo, ⟨p[i], List.getElem?_eq_getElem hi, x, hx, hl, h.2⟩, ⟨q[i], List.getElem?_eq_getElem hi', y, hy, Int.le_refl _, h2⟩⟩
 ·exact ⟨i, x.lo, ⟨p[i], List.getElem?_eq_getElem hi, x, hx, Int.le_refl _, h1⟩, ⟨q[i], List.getElem?_eq_getElem hi', y, hy, by omega, h.1⟩⟩
attribute [local irreducible] cmnP
set_option maxHeartbeats 4000000 in
theorem pc_common (T : Nat) (p q : Prd) (hp : PWf T p) (hq : PWf T q) (hlp : ∀ s ∈ p, s.length ≤ 1000000000) (hlq : ∀ s ∈ q, s.length ≤ 1000000000) (hT : T ≤ 1000) : PC Tryz.prog 114 [encP p, encP q] (fun r => r = .bool (cmnP p q)) := by
 refine PC_body tOk Tryz.func114 rfl Tryz.results114 rfl (by simp [Tryz.ntmps114]) ?_
 rw [Tryz.ntmps114]
 simp only [argSlots]
 simp only [encP]
 have hlen := hp.1
 have hlen' := hq.1
 repeat first|((first|refine qa tOk rfl ?_|refine qb tOk rfl ?_|refine qh rfl ?_);simp)|refine qf ?_|refine qg ?_
 refine AWP_countI p.length (fun i => ∀ i', i' < i → noC p q i') (fun i => [(3, .vptr 1 0), (12, .list (p.map encL)), (13, .i p.length), (14, .i i)]) (fun _ => [.vars [.list (p.map encL)], .vars [.list (q.map encL)]]) rfl (by simp) (by simp) (by simp) (by simp) (by simp) ?_
 intro i hi hI ih
 repeat first|((first|refine qa tOk rfl ?_|refine qb tOk rfl ?_|refine qh rfl ?_);simp)|refine qf ?_|refine qg ?_
 refine AWP_cond2 rfl (fun hlt => ?_) (fun hge => ?_)
 ·have hip : i < p.length := by simpa using hlt
  have hiq : i < q.length := by omega
  have hw : IntKind.i64.wrap ((i : Int) + 1) = i + 1 := wrap_i64 _ (by omega) (by omega)
  have hl1 := hlp _ (List.getElem_mem hip)
  have hl2 := hlq _ (List.getElem_mem hiq)
  repeat first|((first|refine qa tOk rfl ?_|refine qb tOk rfl ?_|refine qh rfl ?_);simp [hip])|refine qf ?_|refine qg ?_
  refine AWP_countI p[i].length (fun u => ∀ u', u' < u → ∀ h : u' < p[i].length, ∀ y ∈ q[i], ovl p[i][u'] y = false) (fun u => [(3, .vptr 1 0), (5, .i i), (12, .list (p.map encL)), (13, .i p.length), (14, .i i), (19, LIv p[i]), (20, .i p[i].length), (21, .i u)]) (fun _ => [.vars [.list (p.map encL)], .vars [.list (q.map encL)]]) rfl (by simp) (by simp) (by simp) (by simp) (by simp) ?_
  intro u hu hI2 ih2
  repeat first|((first|refine qa tOk rfl ?_|refine qb tOk rfl ?_|refine qh rfl ?_);simp)|refine qf ?_|refine qg ?_
  refine AWP_cond2 rfl (fun hlt2 => ?_) (fun hge2 => ?_)
  ·have hup : u < p[i].length := by simpa using hlt2
   have hw2 : IntKind.i64.wrap ((u : Int) + 1) = u + 1 := wrap_i64 _ (by omega) (by omega)
   repeat first|((first|refine qa tOk rfl ?_|refine qb tOk rfl ?_|refine qh rfl ?_);simp [hup, hiq])|refine qf ?_|refine qg ?_
   refine AWP_countI q[i].length (fun v => ∀ v', v' < v → ∀ h : v' < q[i].length, ovl p[i][u] q[i][v'] = false) (fun v => [(3, .vptr 1 0), (5, .i i), (8, .vptr 2 0), (12, .list (p.map encL)), (13, .i p.length), (14, .i i), (19, LIv p[i]), (20, .i p[i].length), (21, .i u), (29, LIv q[i]), (30, .i q[i].length), (31, .i v)]) (fun _ => [.vars [.list (p.map encL)], .vars [.list (q.map encL)], .vars [.i p[i][u].lo, .i p[i][u].hi]]) rfl (by simp) (by simp) (by simp) (by simp) (by simp) ?_
   intro v hv hI3 ih3
   repeat first|((first|refine qa tOk rfl ?_|refine qb tOk rfl ?_|refine qh rfl ?_);simp)|refine qf ?_|refine qg ?_
   refine AWP_cond2 rfl (fun hlt3 => ?_) (fun hge3 => ?_)
   ·have hvq : v < q[i].length := by simpa using hlt3
    have hw3 : IntKind.i64.wrap ((v : Int) + 1) = v + 1 := wrap_i64 _ (by omega) (by omega)
    repeat first|((first|refine qa tOk rfl ?_|refine qb tOk rfl ?_|refine qh rfl ?_);simp [hvq])|refine qf ?_|refine qg ?_
    refine AWP_cond2 rfl (fun h => ?_) (fun h => ?_)
    ·repeat first|((first|refine qa tOk rfl ?_|refine qb tOk rfl ?_|refine qh rfl ?_);simp)|refine qf ?_|refine qg ?_
     rw [cmn_true hp hq hip hiq (List.getElem_mem hup) (List.getElem_mem hvq) (by simpa [ovl] using h)]
    ·repeat first|((first|refine qa tOk rfl ?_|refine qb tOk rfl ?_|refine qh rfl ?_);simp [hw3])|refine qf ?_|refine qg ?_
     refine ALoop_end _ (ih3 hvq (fun v' hv' hvl => ?_)) rfl (by simp) ?_ (by simp) (by simp)
     ·by_cases e : v' = v
      ·subst e; simpa [ovl] using h
      ·exact hI3 v' (by omega) hvl
     ·simp
   ·have hve : v = q[i].length := by simp at hge3; omega
    subst hve
    repeat first|((first|refine qa tOk rfl ?_|refine qb tOk rfl ?_|refine qh rfl ?_);simp [hw2])|refine qf ?_|refine qg ?_
    refine ALoop_end _ (ih2 hup (fun u' hu' hul y hy => ?_)) rfl (by simp) ?_ (by simp) (by simp)
    ·by_cases e : u' = u
     ·subst e
      obtain ⟨v', hv', rfl⟩ := List.getElem_of_mem hy
      exact hI3 v' hv' hv'
     ·exact hI2 u' (by omega) hul y hy
    ·simp
  ·have hue : u = p[i].length := by simp at hge2; omega
   subst hue
   repeat first|((first|refine qa tOk rfl ?_|refine qb tOk rfl ?_|refine qh rfl ?_);simp [hw])|refine qf ?_|refine qg ?_
   refine ALoop_end _ (ih hip (fun i' hi' => ?_)) rfl (by simp) ?_ (by simp) (by simp)
   ·by_cases e : i' = i
    ·subst e
     intro x hx y hy
     rw [getD_len hip] at hx
     rw [getD_len hiq] at hy
     obtain ⟨u', hu', rfl⟩ := List.getElem_of_mem hx
     exact hI2 u' hu' hu' y hy
    ·exact hI i' (by omega)
   ·simp
 ·have hie : i = p.length := by simp at hge; omega
  subst hie
  repeat first|((first|refine qa tOk rfl ?_|refine qb tOk rfl ?_|refine qh rfl ?_);simp)|refine qf ?_|refine qg ?_
  rw [cmn_false hp hq hI]
attribute [local irreducible] badP
set_option maxHeartbeats 4000000 in
theorem pc_Det (a : Aut) : PC Tryz.prog 49 [encA a] (fun r => r = .tup [.bool (dckF a).1, .i (dckF a).2]) := by
 refine PC_body tOk Tryz.func49 rfl Tryz.results49 rfl (by simp [Tryz.ntmps49]) ?_
 rw [Tryz.ntmps49]
 simp only [argSlots]
 simp only [encA]
 repeat first|((first|refine qa tOk rfl ?_|refine qb tOk rfl ?_|refine qh rfl ?_);simp)|refine qf ?_|refine qg ?_
 refine AStep_PC rfl rfl (by simp) (pc_sCheck a) rfl ?_
 rintro _ rfl
 simp
 repeat first|((first|refine qa tOk rfl ?_|refine qb tOk rfl ?_|refine qh rfl ?_);simp)|refine qf ?_|refine qg ?_
 refine AWP_cond2 rfl (fun h => ?_) (fun h => ?_)
 ·repeat first|((first|refine qa tOk rfl ?_|refine qb tOk rfl ?_|refine qh rfl ?_);simp)|refine qf ?_|refine qg ?_
  rw [dckF, if_neg (by simpa using h)]; exact ⟨rfl, rfl⟩
 have h0 : ckAut a = 0 := by simpa using h
 have hok := (ck_ok a).1 h0
 have hml := hok.mvs
 rw [dckF, if_pos h0]
 repeat first|((first|refine qa tOk rfl ?_|refine qb tOk rfl ?_|refine qh rfl ?_);simp)|refine qf ?_|refine qg ?_
 refine AWP_countI a.mv.length (fun j => ∀ i, i < j → ∀ k, k < i → badP a i k = false) (fun j => [(1, .vptr 0 0), (15, .list (a.mv.map encMv)), (16, .i a.mv.length), (17, .i j)]) (fun _ => [.vars (cellsA a)]) rfl (by simp) (by simp) (by simp) (by simp) (by simp) ?_
 intro j hj hI ih
 repeat first|((first|refine qa tOk rfl ?_|refine qb tOk rfl ?_|refine qh rfl ?_);simp)|refine qf ?_|refine qg ?_
 refine AWP_cond2 rfl (fun hlt => ?_) (fun hge => ?_)
 ·have hlt' : j < a.mv.length := by simpa using hlt
  have hw : IntKind.i64.wrap ((j : Int) + 1) = j + 1 := wrap_i64 _ (by omega) (by omega)
  have hjle : j ≤ a.mv.length := hj
  have hmin : min j a.mv.length = j := by omega
  repeat first|((first|refine qa tOk rfl ?_|refine qb tOk rfl ?_|refine qh rfl ?_);simp [hlt', hjle, hmin])|refine qf ?_|refine qg ?_
  refine AWP_countI j (fun k => ∀ k', k' < k → badP a j k' = false) (fun k => [(1, .vptr 0 0), (6, .vptr 1 0), (15, .list (a.mv.map encMv)), (16, .i a.mv.length), (17, .i j), (25, .list (List.take j (a.mv.map encMv))), (26, .i j), (27, .i k)]) (fun _ => [.vars (cellsA a), .vars [.i a.mv[j].src, .i a.mv[j].dst, .list (a.mv[j].on.map encL)]]) rfl (by simp) (by simp) (by simp) (by simp) (by simp) ?_
  intro k hk hI2 ih2
  repeat first|((first|refine qa tOk rfl ?_|refine qb tOk rfl ?_|refine qh rfl ?_);simp)|refine qf ?_|refine qg ?_
  refine AWP_cond2 rfl (fun hlt2 => ?_) (fun hge2 => ?_)
  ·have hkj : k < j := by simpa using hlt2
   have hkl : k < a.mv.length := by omega
   have hw2 : IntKind.i64.wrap ((k : Int) + 1) = k + 1 := wrap_i64 _ (by omega) (by omega)
   have hbad := badP_get (a := a) hlt' hkl
   have hnx : badP a j k = false → ∀ k', k' < k + 1 → badP a j k' = false := fun hb k' hk' => by
    by_cases e : k' = k
    ·rw [e]; exact hb
    ·exact hI2 k' (by omega)
   have htk : (List.take j (a.mv.map encMv))[k]? = some (encMv a.mv[k]) := by rw [List.getElem?_take_of_lt hkj]; simp [hkl]
   by_cases he : a.mv[j].src = a.mv[k].src
   ·rw [decide_eq_true he, Bool.true_and] at hbad
    have hbq : (a.mv[j].src == a.mv[k].src) = true := by simpa using he
    repeat first|((first|refine qa tOk rfl ?_|refine qb tOk rfl ?_|refine qh rfl ?_);simp [htk, hkj, hkl, hmin, hbq])|refine qf ?_|refine qg ?_
    have hmj := List.getElem_mem hlt'
    have hmk := List.getElem_mem hkl
    refine AStep_PC rfl rfl (by simp) (pc_common a.types.toNat a.mv[j].on a.mv[k].on (hok.mv _ hmj).on.wf (hok.mv _ hmk).on.wf (fun s hs => by have := ok_len hok hmj s hs; omega) (fun s hs => by have := ok_len hok hmk s hs; omega) (by have := hok.types; omega)) rfl ?_
    rintro _ rfl
    simp
    repeat first|((first|refine qa tOk rfl ?_|refine qb tOk rfl ?_|refine qh rfl ?_);simp)|refine qf ?_|refine qg ?_
    refine AWP_cond2 rfl (fun h3 => ?_) (fun h3 => ?_)
    ·repeat first|((first|refine qa tOk rfl ?_|refine qb tOk rfl ?_|refine qh rfl ?_);simp)|refine qf ?_|refine qg ?_
     rw [sgl_false hlt' hkj (by rw [hbad]; simpa using h3)]
    ·repeat first|((first|refine qa tOk rfl ?_|refine qb tOk rfl ?_|refine qh rfl ?_);simp [hw2])|refine qf ?_|refine qg ?_
     refine ALoop_end _ (ih2 hkj (hnx (by rw [hbad]; simpa using h3))) rfl (by simp) ?_ (by simp) (by simp)
     simp
   ·rw [decide_eq_false he, Bool.false_and] at hbad
    have hbq : (a.mv[j].src == a.mv[k].src) = false := beq_eq_false_iff_ne.2 he
    repeat first|((first|refine qa tOk rfl ?_|refine qb tOk rfl ?_|refine qh rfl ?_);simp [htk, hkj, hkl, hmin, hbq])|refine qf ?_|refine qg ?_
    refine AStep_skip rfl rfl ?_
    simp [hbq]
    repeat first|((first|refine qa tOk rfl ?_|refine qb tOk rfl ?_|refine qh rfl ?_);simp [hbq])|refine qf ?_|refine qg ?_
    refine AWP_cond rfl ?_
    repeat first|((first|refine qa tOk rfl ?_|refine qb tOk rfl ?_|refine qh rfl ?_);simp [hw2])|refine qf ?_|refine qg ?_
    refine ALoop_end _ (ih2 hkj (hnx hbad)) rfl (by simp) ?_ (by simp) (by simp)
    simp
  ·have hge2' : k = j := by simp at hge2; omega
   subst hge2'
   repeat first|((first|refine qa tOk rfl ?_|refine qb tOk rfl ?_|refine qh rfl ?_);simp [hw])|refine qf ?_|refine qg ?_
   refine ALoop_end _ (ih hlt' (fun i hi k' hk' => ?_)) rfl (by simp) ?_ (by simp) (by simp)
   ·by_cases e : i = k
    ·subst e; exact hI2 k' hk'
    ·exact hI i (by omega) k' hk'
   ·simp
 ·have hge' : j = a.mv.length := by simp at hge; omega
  subst hge'
  repeat first|((first|refine qa tOk rfl ?_|refine qb tOk rfl ?_|refine qh rfl ?_);simp)|refine qf ?_|refine qg ?_
  rw [sgl_true hI]
end Go.Abs
set_option maxRecDepth 100000
namespace Go.Abs
open Go Go.Proofs
set_option linter.unusedSimpArgs false
abbrev LI (l : List Int) : AV := .list (l.map (AV.int .i64))
def fstI {α : Type} (f : α → Bool) (l : List α) : Int := match l.findIdx? f with | some i => i | none => -1
theorem fst_hit {α : Type} {f : α → Bool} {l : List α} {j : Nat} (hj : j < l.length) (h : f l[j] = true) (hb : ∀ i, ∀ hi : i < l.length, i < j → f l[i] = false) : fstI f l = j := by
 unfold fstI
 rw [List.findIdx?_eq_some_iff_getElem.2 ⟨hj, h, fun i hi => by rw [hb i (by omega) hi]; simp⟩]
theorem fst_miss {α : Type} {f : α → Bool} {l : List α} (hb : ∀ i, ∀ hi : i < l.length, i < l.length → f l[i] = false) : fstI f l = -1 := by
 unfold fstI
 rw [List.findIdx?_eq_none_iff.2 (fun x hx => by obtain ⟨i, hi, rfl⟩ := List.getElem_of_mem hx; exact hb i hi hi)]
theorem fst_ge {α : Type} (f : α → Bool) (l : List α) : decide (0 ≤ fstI f l) = l.any f := by
 unfold fstI
 cases h : l.findIdx? f with
 | none =>
  rw [List.findIdx?_eq_none_iff] at h
  have : l.any f = false := by rw [List.any_eq_false]; intro x hx; rw [h x hx]; simp
  rw [this]; rfl
 | some i =>
  obtain ⟨h1, h2, _⟩ := List.findIdx?_eq_some_iff_getElem.1 h
  have : l.any f = true := List.any_eq_true.2 ⟨_, List.getElem_mem h1, h2⟩
  rw [this]; simp
set_option maxHeartbeats 1000000 in
theorem pc_Index (l : List Int) (v : Int) : PC Tryz.prog 137 [LI l, .i v] (fun r => r = .i (fstI (fun y => v == y) l)) := by
 refine PC_body tOk Tryz.func137 rfl Tryz.results137 rfl (by simp [Tryz.ntmps137]) ?_
 rw [Tryz.ntmps137]
 simp only [argSlots]
 refine AWP_len 0 rfl (fun hlen => ?_)
 rw [List.length_map] at hlen
 repeat first|((first|refine qa tOk rfl ?_|refine qb tOk rfl ?_|refine qh rfl ?_);simp)|refine qf ?_|refine qg ?_
 refine AWP_countI l.length (fun j => ∀ i, ∀ hi : i < l.length, i < j → (v == l[i]) = false) (fun j => [(0, LI l), (1, .i v), (7, .i l.length), (8, .i j)]) (fun _ => []) rfl (by simp) (by simp) (by simp) (by simp) (by simp) ?_
 intro j hj hI ih
 repeat first|((first|refine qa tOk rfl ?_|refine qb tOk rfl ?_|refine qh rfl ?_);simp)|refine qf ?_|refine qg ?_
 refine AWP_cond2 rfl (fun hlt => ?_) (fun hge => ?_)
 ·have hlt' : j < l.length := by simpa using hlt
  have hw : IntKind.i64.wrap ((j : Int) + 1) = j + 1 := wrap_i64 _ (by omega) (by omega)
  repeat first|((first|refine qa tOk rfl ?_|refine qb tOk rfl ?_|refine qh rfl ?_);simp [hlt'])|refine qf ?_|refine qg ?_
  refine AWP_cond2 rfl (fun h => ?_) (fun h => ?_)
  ·repeat first|((first|refine qa tOk rfl ?_|refine qb tOk rfl ?_|refine qh rfl ?_);simp)|refine qf ?_|refine qg ?_
   rw [fst_hit (f := fun y => v == y) hlt' h hI]
  ·repeat first|((first|refine qa tOk rfl ?_|refine qb tOk rfl ?_|refine qh rfl ?_);simp [hw])|refine qf ?_|refine qg ?_
   refine ALoop_end _ (ih hlt' (fun i hi hij => ?_)) rfl (by simp) ?_ (by simp) (by simp)
   ·by_cases e : i = j
    ·subst e; exact h
    ·exact hI i hi (by omega)
   ·simp
 ·have hge' : j = l.length := by simp at hge; omega
  subst hge'
  repeat first|((first|refine qa tOk rfl ?_|refine qb tOk rfl ?_|refine qh rfl ?_);simp)|refine qf ?_|refine qg ?_
  rw [fst_miss (f := fun y => v == y) hI]
theorem pc_ContainsI (l : List Int) (v : Int) : PC Tryz.prog 174 [LI l, .i v] (fun r => r = .bool (l.contains v)) := by
 refine PC_body tOk Tryz.func174 rfl Tryz.results174 rfl (by simp [Tryz.ntmps174]) ?_
 rw [Tryz.ntmps174]
 simp only [argSlots]
 repeat first|((first|refine qa tOk rfl ?_|refine qb tOk rfl ?_|refine qh rfl ?_);simp)|refine qf ?_|refine qg ?_
 refine AStep_PC rfl rfl (by simp) (pc_Index l v) rfl ?_
 rintro _ rfl
 simp
 repeat first|((first|refine qa tOk rfl ?_|refine qb tOk rfl ?_|refine qh rfl ?_);simp)|refine qf ?_|refine qg ?_
 have := fst_ge (fun y => v == y) l
 rw [Bool.eq_iff_iff] at this
 simpa using this
structure SL (K G : List AObj) (p e sz : Nat) (xs : List AV) : Prop where
 arr : G[p]? = some (.arr e sz xs)
 ge : K.length ≤ p
 keep : ∀ j, j < K.length → G[j]? = K[j]?
theorem SL.kp {K G : List AObj} {p e sz : Nat} {xs : List AV} (h : SL K G p e sz xs) {j : Nat} {x : AObj} (hx : K[j]? = some x) : G[j]? = some x := by
 rw [h.keep j (List.getElem?_eq_some_iff.1 hx).1]; exact hx
theorem SL.start (K : List AObj) (e sz : Nat) : SL K (K ++ [AObj.arr e sz []]) K.length e sz [] :=
 ⟨by simp, Nat.le_refl _, fun j hj => List.getElem?_append_left hj⟩
theorem SL.add {K G : List AObj} {p e sz : Nat} {xs : List AV} (h : SL K G p e sz xs) (L : List AObj) : SL K (G ++ L) p e sz xs :=
 ⟨by rw [List.getElem?_append_left (List.getElem?_eq_some_iff.1 h.arr).1]; exact h.arr, h.ge, fun j hj => by
  rw [List.getElem?_append_left (by have := (List.getElem?_eq_some_iff.1 h.arr).1; have := h.ge; omega)]; exact h.keep j hj⟩
theorem SL.put {K G : List AObj} {p e sz : Nat} {xs : List AV} (h : SL K G p e sz xs) (L : List AObj) (ys : List AV) {n : Nat} (hn : n = G.length + L.length) : SL K (G.set p .dead ++ (L ++ [AObj.arr e sz ys])) n e sz ys := by
 have hp := (List.getElem?_eq_some_iff.1 h.arr).1
 have hge := h.ge
 subst hn
 refine ⟨by rw [List.getElem?_append_right (by simp), List.getElem?_append_right (by simp)]; simp, by omega, fun j hj => ?_⟩
 rw [List.getElem?_append_left (by simp; omega), List.getElem?_set_ne (by omega)]
 exact h.keep j hj
theorem SL.at {K G : List AObj} {p e sz : Nat} {xs : List AV} (h : SL K G p e sz xs) {j : Nat} {x : AObj} (hx : K[j]? = some x) (L : List AObj) : (G.set p .dead ++ L)[j]? = some x := by
 have hj := (List.getElem?_eq_some_iff.1 hx).1
 have hp := (List.getElem?_eq_some_iff.1 h.arr).1
 have hge := h.ge
 rw [List.getElem?_append_left (by simp; omega), List.getElem?_set_ne (by omega), h.keep j hj]; exact hx
theorem SL.at' {K G : List AObj} {p e sz : Nat} {xs : List AV} (h : SL K G p e sz xs) {j : Nat} {x : AObj} (hx : K[j]? = some x) (L : List AObj) : (G ++ L)[j]? = some x := (h.add L).kp hx
def hitM (l : List Int) (x : Sy) (m : Mv) : Bool := l.contains m.src && hasS m.on x
def nxt0 (l : List Int) (x : Sy) (ms : List Mv) : List Int := (ms.filter (hitM l x)).map (·.dst)
theorem nxt0_snoc (l : List Int) (x : Sy) (ms : List Mv) (j : Nat) (h : j < ms.length) : nxt0 l x (ms.take (j + 1)) = nxt0 l x (ms.take j) ++ (if hitM l x ms[j] then [ms[j].dst] else []) := by
 unfold nxt0
 rw [List.take_succ_eq_append_getElem h, List.filter_append, List.map_append]
 cases h : hitM l x ms[j] <;> simp [h]
theorem nxt0_len (l : List Int) (x : Sy) (ms : List Mv) : (nxt0 l x ms).length ≤ ms.length := by
 unfold nxt0
 rw [List.length_map]; exact List.length_filter_le _ _
theorem nxt0_all (a : Aut) (l : List Int) (x : Sy) : Lib.compact (sortI (nxt0 l x a.mv)) = nextP a l x := rfl
theorem nxt0_nil (l : List Int) (x : Sy) : nxt0 l x [] = [] := rfl
attribute [local irreducible] nxt0 hasF sortI Lib.compact
set_option maxHeartbeats 2000000 in
theorem pc_successor (a : Aut) (ha : OkA a) (l : List Int) (x : Sy) (hx : okSy a x) : PC Tryz.prog 122 [encA a, LI l, encSy x] (fun r => r = LI (nextL a l x)) := by
 refine PC_body tOk Tryz.func122 rfl Tryz.results122 rfl (by simp [Tryz.ntmps122]) ?_
 rw [Tryz.ntmps122]
 simp only [argSlots]
 simp only [encA, encSy]
 have hml := ha.mvs
 have hF : ∀ m ∈ a.mv, hasF m.on x = (hasS m.on x, 0) := fun m hm => by
  rw [hasF_ok ((ckPrd_iff a.types m.on).2 ⟨ha.types, (ha.mv m hm).on⟩), if_neg (fun k => k ((ckSy_iff _ _).2 hx))]
 repeat first|((first|refine qa tOk rfl ?_|refine qb tOk rfl ?_|refine qh rfl ?_);simp)|refine qf ?_|refine qg ?_
 refine AWP_nilSlot 7 3 1 rfl ?_
 simp
 refine AWP_loop (ALoop_keep (sl' := [(1, LI l), (3, .vptr 0 0), (5, .vptr 1 0), (7, .sl 2 1 0 (nxt0 l x (a.mv.take 0)).length), (11, .list (a.mv.map encMv)), (12, .i a.mv.length), (13, .i 0)]) ?_ (by simp [nxt0]))
 obtain ⟨K, hK⟩ : ∃ K, K = [AObj.vars (cellsA a), AObj.vars [AV.i x.ty, AV.i x.num]] := ⟨_, rfl⟩
 have hK1 : K[1]? = some (AObj.vars [AV.i x.ty, AV.i x.num]) := by rw [hK]; rfl
 have hst := SL.start K 3 1
 refine ALoop_wf (F := fun (u : Nat × Nat × List AObj) => ⟨[(1, LI l), (3, .vptr 0 0), (5, .vptr 1 0), (7, .sl u.2.1 1 0 (nxt0 l x (a.mv.take u.1)).length), (11, .list (a.mv.map encMv)), (12, .i a.mv.length), (13, .i u.1)], u.2.2⟩)
  (fun u => u.1 ≤ a.mv.length ∧ SL K u.2.2 u.2.1 3 1 ((nxt0 l x (a.mv.take u.1)).map (AV.int .i64))) (fun u => a.mv.length - u.1) ?_ (0, 2, _) ⟨by simp, by rw [List.take_zero, nxt0_nil]; rw [hK] at hst ⊢; exact hst⟩
 rintro ⟨j, q, H2⟩ ⟨hj, g⟩ ih
 simp only at hj g ih ⊢
 have g1 := g.kp hK1
 repeat first|((first|refine qa tOk rfl ?_|refine qb tOk rfl ?_|refine qh rfl ?_);simp)|refine qf ?_|refine qg ?_
 refine AWP_cond2 rfl (fun hlt => ?_) (fun hge => ?_)
 ·have hlt' : j < a.mv.length := by simpa using hlt
  have hw : IntKind.i64.wrap ((j : Int) + 1) = j + 1 := wrap_i64 _ (by omega) (by omega)
  have hnx := nxt0_snoc l x a.mv j hlt'
  have hpl := nxt0_len l x (a.mv.take j)
  rw [List.length_take] at hpl
  have hFj := hF _ (List.getElem_mem hlt')
  have ih' := fun q' H' => ih (j + 1, q', H')
  simp only [hnx] at ih'
  generalize nxt0 l x (a.mv.take j) = acc at *
  have gL := fun L => g.at' hK1 L
  repeat first|((first|refine qa tOk rfl ?_|refine qb tOk rfl ?_|refine qh rfl ?_);simp [hlt'])|refine qf ?_|refine qg ?_
  by_cases hb : a.mv[j].src ∈ l
  ·have hbc : l.contains a.mv[j].src = true := by simpa using hb
   refine AStep_PC rfl rfl (by simp) (pc_ContainsI l a.mv[j].src) rfl ?_
   rintro _ rfl
   simp [hb, gL]
   repeat first|((first|refine qa tOk rfl ?_|refine qb tOk rfl ?_|refine qh rfl ?_);simp [gL])|refine qf ?_|refine qg ?_
   refine AStep_PC rfl rfl (by simp) (pc_dhas a.mv[j].on x) rfl ?_
   rintro _ rfl
   simp [hFj]
   repeat first|((first|refine qa tOk rfl ?_|refine qb tOk rfl ?_|refine qh rfl ?_);simp)|refine qf ?_|refine qg ?_
   cases hb2 : hasS a.mv[j].on x with
   | false =>
    have hh : hitM l x a.mv[j] = false := by rw [hitM, hb2]; simp
    refine AWP_cond rfl ?_
    simp [hb2]
    repeat first|((first|refine qa tOk rfl ?_|refine qb tOk rfl ?_|refine qh rfl ?_);simp [hw])|refine qf ?_|refine qg ?_
    refine ALoop_keep (sl' := [(1, LI l), (3, .vptr 0 0), (5, .vptr 1 0), (7, .sl q 1 0 acc.length), (11, .list (a.mv.map encMv)), (12, .i a.mv.length), (13, .i (j + 1 : Nat))]) ?_ (by simp)
    have := ih' q _ ⟨by omega, by rw [hh]; simpa using g.add [AObj.vars [AV.i a.mv[j].src, AV.i a.mv[j].dst, AV.list (a.mv[j].on.map encL)]]⟩ (by omega)
    rw [hh] at this
    simpa using this
   | true =>
    have hh : hitM l x a.mv[j] = true := by rw [hitM, hbc, hb2]; rfl
    refine AWP_cond rfl ?_
    simp [hb2]
    repeat first|((first|refine qa tOk rfl ?_|refine qb tOk rfl ?_|refine qh rfl ?_);simp)|refine qf ?_|refine qg ?_
    refine AStep_appendS tOk rfl rfl T40 rfl T3 rfl (by decide) (by decide) rfl rfl rfl ?_
    simp [get_app g.arr, set_app g.arr]
    refine ⟨by simp [appOk, get_app g.arr, set_app g.arr] <;> omega, ?_⟩
    repeat first|((first|refine qa tOk rfl ?_|refine qb tOk rfl ?_|refine qh rfl ?_);simp [hw])|refine qf ?_|refine qg ?_
    refine ALoop_keep (sl' := [(1, LI l), (3, .vptr 0 0), (5, .vptr 1 0), (7, .sl (H2.length + 2) 1 0 (acc.length + 1)), (11, .list (a.mv.map encMv)), (12, .i a.mv.length), (13, .i (j + 1 : Nat))]) ?_ (by simp)
    have := ih' (H2.length + 2) _ ⟨by omega, by rw [hh]; exact g.put [AObj.vars [AV.i a.mv[j].src, AV.i a.mv[j].dst, AV.list (a.mv[j].on.map encL)], AObj.arr 3 1 [AV.i a.mv[j].dst]] _ rfl⟩ (by omega)
    rw [hh] at this
    simpa using this
  ·have hh : hitM l x a.mv[j] = false := by simp [hitM, hb]
   refine AStep_PC rfl rfl (by simp) (pc_ContainsI l a.mv[j].src) rfl ?_
   rintro _ rfl
   simp [hb, gL]
   refine AStep_skip rfl rfl ?_
   simp [hb]
   refine AWP_cond rfl ?_
   repeat first|((first|refine qa tOk rfl ?_|refine qb tOk rfl ?_|refine qh rfl ?_);simp [hw])|refine qf ?_|refine qg ?_
   refine ALoop_keep (sl' := [(1, LI l), (3, .vptr 0 0), (5, .vptr 1 0), (7, .sl q 1 0 acc.length), (11, .list (a.mv.map encMv)), (12, .i a.mv.length), (13, .i (j + 1 : Nat))]) ?_ (by simp)
   have := ih' q _ ⟨by omega, by rw [hh]; simpa using g.add [AObj.vars [AV.i a.mv[j].src, AV.i a.mv[j].dst, AV.list (a.mv[j].on.map encL)]]⟩ (by omega)
   rw [hh] at this
   simpa using this
 ·have hge' : j = a.mv.length := by simp at hge; omega
  subst hge'
  rw [List.take_length] at g ⊢
  have hpl := nxt0_len l x a.mv
  repeat first|((first|refine qa tOk rfl ?_|refine qb tOk rfl ?_|refine qh rfl ?_);simp)|refine qf ?_|refine qg ?_
  refine AStep_FC rfl rfl (fc_SortInt H2 q (nxt0 l x a.mv) g.arr (by omega)) rfl ?_
  rintro r H' ⟨rfl, rfl⟩
  simp
  repeat first|((first|refine qa tOk rfl ?_|refine qb tOk rfl ?_|refine qh rfl ?_);simp)|refine qf ?_|refine qg ?_
  have g2 := get_self g.arr (.arr 3 1 ((sortI (nxt0 l x a.mv)).map (AV.int .i64)))
  have hsl := sortI_len (nxt0 l x a.mv)
  rw [← hsl]
  refine AStep_FC rfl rfl (fc_CompactInt _ q (sortI (nxt0 l x a.mv)) g2 (by omega) (compact_len _)) rfl ?_
  rintro r H' ⟨rfl, G, rfl⟩
  simp
  have g3 := get_self g.arr (.arr 3 1 ((Lib.compact (sortI (nxt0 l x a.mv)) ++ G).map (AV.int .i64)))
  rw [nxt0_all, next_eq (fun m hm => (ha.mv m hm).dst)] at *
  repeat first|((first|refine qa tOk rfl ?_|refine qb tOk rfl ?_|refine qh rfl ?_);simp)|refine qf ?_|refine qg ?_
  rw [List.map_append] at g3
  simp [g3]
end Go.Abs
set_option maxRecDepth 100000
namespace Go.Abs
open Go Go.Proofs
set_option linter.unusedSimpArgs false
set_option maxHeartbeats 1000000 in
theorem fc_IndexF (H : List AObj) (l : List Int) (g : Nat) (cap : AV) (f : Int → Bool) (hl : l.length ≤ 1000000000) (hg : ∀ z ∈ l, FC Tryz.prog g [.i z, cap] H (fun r H' => r = .bool (f z) ∧ H' = H)) :
  FC Tryz.prog 119 [LI l, .fn (.func g) [] [cap]] H (fun r H' => r = .i (fstI f l) ∧ H' = H) := by
 refine FC_body tOk Tryz.func119 rfl Tryz.results119 rfl (by simp [Tryz.ntmps119]) ?_
 rw [Tryz.ntmps119]
 simp only [argSlots]
 repeat first|((first|refine qa tOk rfl ?_|refine qb tOk rfl ?_|refine qh rfl ?_);simp)|refine qf ?_|refine qg ?_
 refine AWP_loop (ALoop_keep (sl' := [(0, LI l), (1, .fn (.func g) [] [cap]), (7, .i l.length), (8, .i 0)]) ?_ (by simp))
 refine ALoop_wf (F := fun (j : Nat) => ⟨[(0, LI l), (1, .fn (.func g) [] [cap]), (7, .i l.length), (8, .i j)], H⟩)
  (fun j => j ≤ l.length ∧ ∀ i, ∀ hi : i < l.length, i < j → f l[i] = false) (fun j => l.length - j) ?_ 0 ⟨by simp, by simp⟩
 rintro j ⟨hj, hI⟩ ih
 repeat first|((first|refine qa tOk rfl ?_|refine qb tOk rfl ?_|refine qh rfl ?_);simp)|refine qf ?_|refine qg ?_
 refine AWP_cond2 rfl (fun hlt => ?_) (fun hge => ?_)
 ·have hlt' : j < l.length := by simpa using hlt
  have hw : IntKind.i64.wrap ((j : Int) + 1) = j + 1 := wrap_i64 _ (by omega) (by omega)
  repeat first|((first|refine qa tOk rfl ?_|refine qb tOk rfl ?_|refine qh rfl ?_);simp [hlt'])|refine qf ?_|refine qg ?_
  refine AStep_FC rfl rfl (hg _ (List.getElem_mem hlt')) rfl ?_
  rintro r H' ⟨rfl, rfl⟩
  simp
  repeat first|((first|refine qa tOk rfl ?_|refine qb tOk rfl ?_|refine qh rfl ?_);simp)|refine qf ?_|refine qg ?_
  refine AWP_cond2 rfl (fun h => ?_) (fun h => ?_)
  ·repeat first|((first|refine qa tOk rfl ?_|refine qb tOk rfl ?_|refine qh rfl ?_);simp)|refine qf ?_|refine qg ?_
   rw [fst_hit hlt' h hI]
  ·repeat first|((first|refine qa tOk rfl ?_|refine qb tOk rfl ?_|refine qh rfl ?_);simp [hw])|refine qf ?_|refine qg ?_
   refine ALoop_keep (sl' := [(0, LI l), (1, .fn (.func g) [] [cap]), (7, .i l.length), (8, .i (j + 1 : Nat))]) (ih (j + 1) ⟨by omega, fun i hi hij => ?_⟩ (by omega)) (by simp)
   by_cases e : i = j
   ·subst e; exact h
   ·exact hI i hi (by omega)
 ·have hge' : j = l.length := by simp at hge; omega
  subst hge'
  repeat first|((first|refine qa tOk rfl ?_|refine qb tOk rfl ?_|refine qh rfl ?_);simp)|refine qf ?_|refine qg ?_
  rw [fst_miss hI]
theorem fc_ContainsF (H : List AObj) (l : List Int) (g : Nat) (cap : AV) (f : Int → Bool) (hl : l.length ≤ 1000000000) (hg : ∀ z ∈ l, FC Tryz.prog g [.i z, cap] H (fun r H' => r = .bool (f z) ∧ H' = H)) :
  FC Tryz.prog 54 [LI l, .fn (.func g) [] [cap]] H (fun r H' => r = .bool (l.any f) ∧ H' = H) := by
 refine FC_body tOk Tryz.func54 rfl Tryz.results54 rfl (by simp [Tryz.ntmps54]) ?_
 rw [Tryz.ntmps54]
 simp only [argSlots]
 repeat first|((first|refine qa tOk rfl ?_|refine qb tOk rfl ?_|refine qh rfl ?_);simp)|refine qf ?_|refine qg ?_
 refine AStep_FC rfl rfl (fc_IndexF H l g cap f hl hg) rfl ?_
 rintro r H' ⟨rfl, rfl⟩
 simp
 repeat first|((first|refine qa tOk rfl ?_|refine qb tOk rfl ?_|refine qh rfl ?_);simp)|refine qf ?_|refine qg ?_
 rw [← fst_ge]
def outB (a : Aut) (s : Int) : Bool := decide (s < 0) || decide ((a.fin.length : Int) ≤ s)
attribute [local irreducible] outB
end Go.Abs
set_option maxRecDepth 100000
namespace Go.Abs
open Go Go.Proofs
set_option linter.unusedSimpArgs false
attribute [simp] T4
def bitL (n : Nat) (f : Int → Bool) : List AV := (rangeI n).map fun z => AV.bool (f z)
theorem bit_len (n : Nat) (f : Int → Bool) : (bitL n f).length = n := by simp [bitL, rangeI]
theorem bit_get (n : Nat) (f : Int → Bool) {i : Nat} (h : i < n) : (bitL n f)[i]? = some (AV.bool (f i)) := by simp [bitL, rangeI, h]
theorem bit_get' (n : Nat) (f : Int → Bool) {i : Nat} (h : i < (bitL n f).length) : (bitL n f)[i] = AV.bool (f i) := by
 have h2 := bit_get n f (i := i) (by rw [bit_len] at h; exact h)
 rw [List.getElem?_eq_getElem h] at h2
 exact Option.some.inj h2
theorem bit_zero (n : Nat) : List.replicate n (AV.bool false) = bitL n (fun _ => false) := by
 refine List.ext_getElem? fun i => ?_
 by_cases h : i < n
 ·rw [bit_get n _ h]; simp [h]
 ·rw [List.getElem?_eq_none (by simp; omega), List.getElem?_eq_none (by rw [bit_len]; omega)]
theorem bit_set (n : Nat) (f : Int → Bool) (s : Int) (h0 : 0 ≤ s) (h1 : s < n) : (bitL n f).set s.toNat (AV.bool true) = bitL n (fun z => f z || z == s) := by
 refine List.ext_getElem? fun i => ?_
 by_cases h : i < n
 ·rw [bit_get n _ h]
  by_cases e : s.toNat = i
  ·rw [e, List.getElem?_set_self (by rw [bit_len]; exact h)]
   have : ((i : Int) == s) = true := by simp; omega
   rw [this, Bool.or_true]
  ·rw [List.getElem?_set_ne e, bit_get n _ h]
   have : ((i : Int) == s) = false := beq_eq_false_iff_ne.2 (by omega)
   rw [this, Bool.or_false]
 ·rw [List.getElem?_eq_none (by simp [bit_len]; omega), List.getElem?_eq_none (by rw [bit_len]; omega)]
theorem bit_congr (n : Nat) {f g : Int → Bool} (h : ∀ z, f z = g z) : bitL n f = bitL n g := by rw [show f = g from funext h]
attribute [local irreducible] bitL
set_option maxHeartbeats 1000000 in
theorem pc_rset (a : Aut) (ha : OkA a) (l : List Int) (hl : ∀ s ∈ l, 0 ≤ s ∧ s < a.fin.length) (hll : l.length ≤ 1000000) : PC Tryz.prog 66 [encA a, LI l] (fun r => r = .list (bitL a.fin.length fun z => decide (z ∈ l))) := by
 refine PC_body tOk Tryz.func66 rfl Tryz.results66 rfl (by simp [Tryz.ntmps66]) ?_
 rw [Tryz.ntmps66]
 simp only [argSlots]
 simp only [encA]
 have hf := ha.fin
 repeat first|((first|refine qa tOk rfl ?_|refine qb tOk rfl ?_|refine qh rfl ?_);simp)|refine qf ?_|refine qg ?_
 refine AStep_makeSlice tOk rfl rfl rfl T22 rfl T4 rfl rfl rfl (n := a.fin.length) (by simp; omega) (by unfold maxLen; omega) (.bool false) rfl ?_
 simp
 rw [bit_zero]
 repeat first|((first|refine qa tOk rfl ?_|refine qb tOk rfl ?_|refine qh rfl ?_);simp)|refine qf ?_|refine qg ?_
 refine AWP_loop (ALoop_keep (sl' := [(1, LI l), (5, .sl 1 1 0 a.fin.length), (6, .i 0)]) ?_ (by simp))
 refine ALoop_wf (F := fun (j : Nat) => ⟨[(1, LI l), (5, .sl 1 1 0 a.fin.length), (6, .i j)], [.vars (cellsA a), .arr 4 1 (bitL a.fin.length fun z => decide (z ∈ l.take j))]⟩)
  (fun j => j ≤ l.length) (fun j => l.length - j) ?_ 0 (by simp)
 rintro j hj ih
 repeat first|((first|refine qa tOk rfl ?_|refine qb tOk rfl ?_|refine qh rfl ?_);simp)|refine qf ?_|refine qg ?_
 refine AWP_cond2 rfl (fun hlt => ?_) (fun hge => ?_)
 ·have hlt' : j < l.length := by simpa using hlt
  have hw : IntKind.i64.wrap ((j : Int) + 1) = j + 1 := wrap_i64 _ (by omega) (by omega)
  obtain ⟨s0, s1⟩ := hl _ (List.getElem_mem hlt')
  have ih' := ih (j + 1) (by omega) (by omega)
  have hset := bit_set a.fin.length (fun z => decide (z ∈ l.take j)) l[j] s0 s1
  have hnx : bitL a.fin.length (fun z => decide (z ∈ l.take (j + 1))) = (bitL a.fin.length fun z => decide (z ∈ l.take j)).set l[j].toNat (AV.bool true) := by
   rw [hset]
   exact bit_congr _ fun z => by rw [List.take_succ_eq_append_getElem hlt', Bool.eq_iff_iff]; simp [-List.take_append_getElem]
  rw [hnx] at ih'
  have hbl := bit_len a.fin.length (fun z => decide (z ∈ l.take j))
  have s2 : l[j].toNat < a.fin.length := by omega
  have hbg := fun (hh : l[j].toNat < (bitL a.fin.length (fun z => decide (z ∈ l.take j))).length) => bit_get' a.fin.length (fun z => decide (z ∈ l.take j)) (i := l[j].toNat) hh
  generalize bitL a.fin.length (fun z => decide (z ∈ l.take j)) = bs at *
  repeat first|((first|refine qa tOk rfl ?_|refine qb tOk rfl ?_|refine qh rfl ?_);simp [hlt', s0, s1, s2, hbl, hw, hbg])|refine qf ?_|refine qg ?_
  exact ALoop_keep (sl' := [(1, LI l), (5, .sl 1 1 0 a.fin.length), (6, .i (j + 1 : Nat))]) ih' (by simp)
 ·have hge' : j = l.length := by simp at hge; omega
  subst hge'
  rw [List.take_length]
  have hbl := bit_len a.fin.length (fun z => decide (z ∈ l))
  generalize bitL a.fin.length (fun z => decide (z ∈ l)) = bs at *
  repeat first|((first|refine qa tOk rfl ?_|refine qb tOk rfl ?_|refine qh rfl ?_);simp [hbl])|refine qf ?_|refine qg ?_
  rw [List.take_of_length_le (by omega)]
theorem filter_snoc (n : Nat) (f : Int → Bool) : (rangeI (n + 1)).filter f = (rangeI n).filter f ++ (if f n then [(n : Int)] else []) := by
 have : rangeI (n + 1) = rangeI n ++ [(n : Int)] := by simp [rangeI, List.range_succ]
 rw [this, List.filter_append]
 cases h : f n <;> simp [h]
theorem filter_len (n : Nat) (f : Int → Bool) : ((rangeI n).filter f).length ≤ n := by
 have := List.length_filter_le f (rangeI n)
 simpa [rangeI] using this
def filtI (n : Nat) (f : Int → Bool) : List Int := (rangeI n).filter f
attribute [local irreducible] filtI
set_option maxHeartbeats 1000000 in
theorem pc_rlist (n : Nat) (f : Int → Bool) (hn : n ≤ 1000000) : PC Tryz.prog 64 [.list (bitL n f)] (fun r => r = LI (filtI n f)) := by
 refine PC_body tOk Tryz.func64 rfl Tryz.results64 rfl (by simp [Tryz.ntmps64]) ?_
 rw [Tryz.ntmps64]
 simp only [argSlots]
 have hbl := bit_len n f
 repeat first|((first|refine qa tOk rfl ?_|refine qb tOk rfl ?_|refine qh rfl ?_);simp)|refine qf ?_|refine qg ?_
 refine AWP_nilSlot 3 3 1 rfl ?_
 simp
 have h0 : filtI 0 f = [] := by unfold filtI; rfl
 refine AWP_loop (ALoop_keep (sl' := [(0, .list (bitL n f)), (3, .sl 0 1 0 (filtI 0 f).length), (4, .i 0)]) ?_ (by simp [h0]))
 refine ALoop_wf (F := fun (u : Nat × Nat × List AObj) => ⟨[(0, .list (bitL n f)), (3, .sl u.2.1 1 0 (filtI u.1 f).length), (4, .i u.1)], u.2.2⟩)
  (fun u => u.1 ≤ n ∧ u.2.2[u.2.1]? = some (.arr 3 1 ((filtI u.1 f).map (AV.int .i64)))) (fun u => n - u.1) ?_ (0, 0, [.arr 3 1 []]) ⟨by simp, by simp [h0]⟩
 rintro ⟨j, q, H2⟩ ⟨hj, g⟩ ih
 simp only at hj g ih ⊢
 repeat first|((first|refine qa tOk rfl ?_|refine qb tOk rfl ?_|refine qh rfl ?_);simp [hbl])|refine qf ?_|refine qg ?_
 refine AWP_cond2 rfl (fun hlt => ?_) (fun hge => ?_)
 ·have hlt' : j < n := by simpa [hbl] using hlt
  have hw : IntKind.i64.wrap ((j : Int) + 1) = j + 1 := wrap_i64 _ (by omega) (by omega)
  have hg := bit_get n f hlt'
  have hnx : filtI (j + 1) f = filtI j f ++ (if f j then [(j : Int)] else []) := by unfold filtI; exact filter_snoc j f
  have hpl : (filtI j f).length ≤ j := by unfold filtI; exact filter_len j f
  have ih' := fun q' H' => ih (j + 1, q', H')
  simp only [hnx] at ih'
  generalize filtI j f = acc at *
  have hg' := fun h => bit_get' n f (i := j) h
  repeat first|((first|refine qa tOk rfl ?_|refine qb tOk rfl ?_|refine qh rfl ?_);simp [hbl, hlt', hg, hg'])|refine qf ?_|refine qg ?_
  cases hb : f j with
  | false =>
   rw [hb] at ih'
   refine AWP_cond rfl ?_
   simp [hb]
   repeat first|((first|refine qa tOk rfl ?_|refine qb tOk rfl ?_|refine qh rfl ?_);simp [hw])|refine qf ?_|refine qg ?_
   exact ALoop_keep (sl' := [(0, .list (bitL n f)), (3, .sl q 1 0 acc.length), (4, .i (j + 1 : Nat))]) (by
    have := ih' q H2 ⟨by omega, by simpa using g⟩ (by omega)
    simpa using this) (by simp)
  | true =>
   rw [hb] at ih'
   refine AWP_cond rfl ?_
   simp [hb]
   repeat first|((first|refine qa tOk rfl ?_|refine qb tOk rfl ?_|refine qh rfl ?_);simp)|refine qf ?_|refine qg ?_
   refine AStep_appendS tOk rfl rfl T40 rfl T3 rfl (by decide) (by decide) rfl rfl rfl ?_
   simp [get_app g, set_app g]
   refine ⟨by simp [appOk, get_app g, set_app g] <;> omega, ?_⟩
   repeat first|((first|refine qa tOk rfl ?_|refine qb tOk rfl ?_|refine qh rfl ?_);simp [hw])|refine qf ?_|refine qg ?_
   exact ALoop_keep (sl' := [(0, .list (bitL n f)), (3, .sl (H2.length + 1) 1 0 (acc.length + 1)), (4, .i (j + 1 : Nat))]) (by
    have := ih' (H2.length + 1) (H2.set q .dead ++ [.arr 3 1 [.i j], .arr 3 1 ((acc ++ [(j : Int)]).map (AV.int .i64))]) ⟨by omega, by simp only; rw [List.getElem?_append_right (by simp)]; simp⟩ (by omega)
    simpa using this) (by simp)
 ·have hge' : j = n := by simp [hbl] at hge; omega
  subst hge'
  repeat first|((first|refine qa tOk rfl ?_|refine qb tOk rfl ?_|refine qh rfl ?_);simp [g])|refine qf ?_|refine qg ?_
  rw [List.take_of_length_le (by simp)]
end Go.Abs
set_option maxRecDepth 100000
namespace Go.Abs
open Go Go.Proofs
set_option linter.unusedSimpArgs false
def nxB (ms : List Mv) (f : Int → Bool) (x : Sy) (z : Int) : Bool := ms.any fun m => f m.src && hasS m.on x && m.dst == z
theorem nxB_snoc (ms : List Mv) (f : Int → Bool) (x : Sy) (j : Nat) (h : j < ms.length) (z : Int) : nxB (ms.take (j + 1)) f x z = (nxB (ms.take j) f x z || (f ms[j].src && hasS ms[j].on x && ms[j].dst == z)) := by
 unfold nxB
 rw [List.take_succ_eq_append_getElem h, List.any_append]; simp
theorem nxB_step (a : Aut) (l : List Int) (x : Sy) : nxB a.mv (fun z => decide (z ∈ l)) x = stepB a l x := by
 funext z
 unfold nxB stepB
 congr 1
 funext m
 rw [Bool.eq_iff_iff]; simp
attribute [local irreducible] hasS nxB
set_option maxHeartbeats 2000000 in
theorem pc_rNext28 (a : Aut) (ha : OkA a) (f : Int → Bool) (x : Sy) : PC Tryz.prog 65 [encA a, .list (bitL a.fin.length f), encSy x] (fun r => r = .list (bitL a.fin.length (nxB a.mv f x))) := by
 refine PC_body tOk Tryz.func65 rfl Tryz.results65 rfl (by simp [Tryz.ntmps65]) ?_
 rw [Tryz.ntmps65]
 simp only [argSlots]
 simp only [encA, encSy]
 have hf := ha.fin
 have hm := ha.mvs
 have hbl := bit_len a.fin.length f
 repeat first|((first|refine qa tOk rfl ?_|refine qb tOk rfl ?_|refine qh rfl ?_);simp [hbl])|refine qf ?_|refine qg ?_
 refine AStep_makeSlice tOk rfl rfl rfl T22 rfl T4 rfl rfl rfl (n := a.fin.length) (by simp; omega) (by unfold maxLen; omega) (.bool false) rfl ?_
 simp
 rw [bit_zero]
 repeat first|((first|refine qa tOk rfl ?_|refine qb tOk rfl ?_|refine qh rfl ?_);simp)|refine qf ?_|refine qg ?_
 have h0 : bitL a.fin.length (fun _ => false) = bitL a.fin.length (nxB (a.mv.take 0) f x) := bit_congr _ fun z => by rw [List.take_zero]; unfold nxB; rfl
 rw [h0]
 refine AWP_loop (ALoop_keep (sl' := [(1, .list (bitL a.fin.length f)), (3, .vptr 0 0), (5, .vptr 1 0), (7, .sl 2 1 0 a.fin.length), (8, .i 0)]) ?_ (by simp))
 refine ALoop_wf (F := fun (u : Nat × List AObj) => ⟨[(1, .list (bitL a.fin.length f)), (3, .vptr 0 0), (5, .vptr 1 0), (7, .sl 2 1 0 a.fin.length), (8, .i u.1)], u.2⟩)
  (fun u => u.1 ≤ a.mv.length ∧ u.2[0]? = some (.vars (cellsA a)) ∧ u.2[1]? = some (.vars [.i x.ty, .i x.num]) ∧ u.2[2]? = some (.arr 4 1 (bitL a.fin.length (nxB (a.mv.take u.1) f x)))) (fun u => a.mv.length - u.1) ?_ (0, _) ⟨by simp, rfl, rfl, rfl⟩
 rintro ⟨j, H2⟩ ⟨hj, g0, g1, g2⟩ ih
 simp only at hj g0 g1 g2 ih ⊢
 repeat first|((first|refine qa tOk rfl ?_|refine qb tOk rfl ?_|refine qh rfl ?_);simp [g0])|refine qf ?_|refine qg ?_
 refine AWP_cond2 rfl (fun hlt => ?_) (fun hge => ?_)
 ·have hlt' : j < a.mv.length := by simpa using hlt
  have hw : IntKind.i64.wrap ((j : Int) + 1) = j + 1 := wrap_i64 _ (by omega) (by omega)
  have hmj := ha.mv _ (List.getElem_mem hlt')
  obtain ⟨s0, s1⟩ := hmj.src
  obtain ⟨d0, d1⟩ := hmj.dst
  have s2 : a.mv[j].src.toNat < a.fin.length := by omega
  have d2 : a.mv[j].dst.toNat < a.fin.length := by omega
  have hset := bit_set a.fin.length (nxB (a.mv.take j) f x) a.mv[j].dst d0 d1
  have hsrc : ((a.mv[j].src.toNat : Nat) : Int) = a.mv[j].src := by omega
  have hfg := fun (hh : a.mv[j].src.toNat < (bitL a.fin.length f).length) => (bit_get' a.fin.length f (i := a.mv[j].src.toNat) hh).trans (by rw [hsrc])
  have hbg := fun (hh : a.mv[j].dst.toNat < (bitL a.fin.length (nxB (a.mv.take j) f x)).length) => bit_get' a.fin.length (nxB (a.mv.take j) f x) (i := a.mv[j].dst.toNat) hh
  have hnx : bitL a.fin.length (nxB (a.mv.take (j + 1)) f x) = if f a.mv[j].src && hasS a.mv[j].on x then (bitL a.fin.length (nxB (a.mv.take j) f x)).set a.mv[j].dst.toNat (AV.bool true) else bitL a.fin.length (nxB (a.mv.take j) f x) := by
   split
   ·rename_i hc
    rw [hset]
    exact bit_congr _ fun z => by
     rw [nxB_snoc _ _ _ _ hlt', hc, Bool.true_and]
     rw [show (a.mv[j].dst == z) = (z == a.mv[j].dst) from Bool.eq_iff_iff.2 (by simp only [beq_iff_eq]; exact eq_comm)]
   ·rename_i hc
    exact bit_congr _ fun z => by
     rw [nxB_snoc _ _ _ _ hlt', show (f a.mv[j].src && hasS a.mv[j].on x) = false by simpa using hc]; simp
  have ih' := fun G' => ih (j + 1, G')
  simp only [hnx] at ih'
  have hbl2 := bit_len a.fin.length (nxB (a.mv.take j) f x)
  generalize bitL a.fin.length (nxB (a.mv.take j) f x) = bs at *
  have gL1 := fun L => get_app g1 L
  have gL2 := fun L => get_app g2 L
  have gL0 := fun L => get_app g0 L
  cases hb : f a.mv[j].src with
  | false =>
   rw [hb] at hfg
   repeat first|((first|refine qa tOk rfl ?_|refine qb tOk rfl ?_|refine qh rfl ?_);simp [g0, hlt', s0, s1, s2, hbl, hfg, gL1])|refine qf ?_|refine qg ?_
   refine AStep_skip rfl rfl ?_
   simp
   refine AWP_cond rfl ?_
   repeat first|((first|refine qa tOk rfl ?_|refine qb tOk rfl ?_|refine qh rfl ?_);simp [hw])|refine qf ?_|refine qg ?_
   rw [hb, Bool.false_and, if_neg (by simp)] at ih'
   exact ALoop_keep (sl' := [(1, .list (bitL a.fin.length f)), (3, .vptr 0 0), (5, .vptr 1 0), (7, .sl 2 1 0 a.fin.length), (8, .i (j + 1 : Nat))]) (ih' _ ⟨by omega, gL0 _, gL1 _, gL2 _⟩ (by omega)) (by simp)
  | true =>
   rw [hb] at hfg
   repeat first|((first|refine qa tOk rfl ?_|refine qb tOk rfl ?_|refine qh rfl ?_);simp [g0, hlt', s0, s1, s2, hbl, hfg, gL1])|refine qf ?_|refine qg ?_
   refine AStep_PC rfl rfl (by simp) (pc_rpHas a.mv[j].on x (fun s hs => by have := ok_len ha (List.getElem_mem hlt') s hs; omega)) rfl ?_
   rintro _ rfl
   simp
   cases hb2 : hasS a.mv[j].on x with
   | false =>
    rw [hb, hb2, Bool.true_and, if_neg (by simp)] at ih'
    repeat first|((first|refine qa tOk rfl ?_|refine qb tOk rfl ?_|refine qh rfl ?_);simp [hb2])|refine qf ?_|refine qg ?_
    refine AWP_cond rfl ?_
    repeat first|((first|refine qa tOk rfl ?_|refine qb tOk rfl ?_|refine qh rfl ?_);simp [hw])|refine qf ?_|refine qg ?_
    exact ALoop_keep (sl' := [(1, .list (bitL a.fin.length f)), (3, .vptr 0 0), (5, .vptr 1 0), (7, .sl 2 1 0 a.fin.length), (8, .i (j + 1 : Nat))]) (ih' _ ⟨by omega, gL0 _, gL1 _, gL2 _⟩ (by omega)) (by simp)
   | true =>
    rw [hb, hb2, Bool.true_and, if_pos rfl] at ih'
    repeat first|((first|refine qa tOk rfl ?_|refine qb tOk rfl ?_|refine qh rfl ?_);simp [hb2])|refine qf ?_|refine qg ?_
    refine AWP_cond rfl ?_
    repeat first|((first|refine qa tOk rfl ?_|refine qb tOk rfl ?_|refine qh rfl ?_);simp [gL1, gL2, d0, d1, d2, hbl2, hbg, hw])|refine qf ?_|refine qg ?_
    exact ALoop_keep (sl' := [(1, .list (bitL a.fin.length f)), (3, .vptr 0 0), (5, .vptr 1 0), (7, .sl 2 1 0 a.fin.length), (8, .i (j + 1 : Nat))]) (ih' _ ⟨by omega, get_set (by decide) (gL0 _) _, get_set (by decide) (gL1 _) _, get_self (gL2 _) _⟩ (by omega)) (by simp)
 ·have hge' : j = a.mv.length := by simp at hge; omega
  subst hge'
  rw [List.take_length] at g2
  have hbl2 := bit_len a.fin.length (nxB a.mv f x)
  repeat first|((first|refine qa tOk rfl ?_|refine qb tOk rfl ?_|refine qh rfl ?_);simp [g2, hbl2])|refine qf ?_|refine qg ?_
  rw [List.take_of_length_le (by omega)]
end Go.Abs
set_option maxRecDepth 100000
namespace Go.Abs
open Go Go.Proofs
set_option linter.unusedSimpArgs false
theorem filt_next (a : Aut) (l : List Int) (x : Sy) : filtI a.fin.length (nxB a.mv (fun z => decide (z ∈ l)) x) = nextL a l x := by
 rw [nxB_step]; unfold filtI nextL; rfl
attribute [local irreducible] nxB filtI ckSy
attribute [local irreducible] ckPrd
set_option maxHeartbeats 1000000 in
theorem pc_rPreds (a : Aut) (hl : a.mv.length ≤ 1000000) : PC Tryz.prog 118 [encA a] (fun r => r = LP (onA a)) := by
 refine PC_body tOk Tryz.func118 rfl Tryz.results118 rfl (by simp [Tryz.ntmps118]) ?_
 rw [Tryz.ntmps118]
 simp only [argSlots]
 simp only [encA]
 repeat first|((first|refine qa tOk rfl ?_|refine qb tOk rfl ?_|refine qh rfl ?_);simp)|refine qf ?_|refine qg ?_
 refine AWP_nilSlot 3 76 1 rfl ?_
 simp
 refine AWP_loop (ALoop_keep (sl' := [(1, .vptr 0 0), (3, .sl 1 1 0 0), (4, .i 0)]) ?_ (by simp))
 obtain ⟨K, hK⟩ : ∃ K, K = [AObj.vars (cellsA a)] := ⟨_, rfl⟩
 have hK0 : K[0]? = some (AObj.vars (cellsA a)) := by rw [hK]; rfl
 have hst := SL.start K 76 1
 refine ALoop_wf (F := fun (u : Nat × Nat × List AObj) => ⟨[(1, .vptr 0 0), (3, .sl u.2.1 1 0 u.1), (4, .i u.1)], u.2.2⟩)
  (fun u => u.1 ≤ a.mv.length ∧ SL K u.2.2 u.2.1 76 1 ((onA { a with mv := a.mv.take u.1 }).map encP)) (fun u => a.mv.length - u.1) ?_ (0, 1, _) ⟨by simp, by rw [hK] at hst ⊢; exact hst⟩
 rintro ⟨j, q, H2⟩ ⟨hj, g⟩ ih
 simp only at hj g ih ⊢
 have g0 := g.kp hK0
 repeat first|((first|refine qa tOk rfl ?_|refine qb tOk rfl ?_|refine qh rfl ?_);simp [g0])|refine qf ?_|refine qg ?_
 refine AWP_cond2 rfl (fun hlt => ?_) (fun hge => ?_)
 ·have hlt' : j < a.mv.length := by simpa using hlt
  have hw : IntKind.i64.wrap ((j : Int) + 1) = j + 1 := wrap_i64 _ (by omega) (by omega)
  have hnx : (onA { a with mv := a.mv.take (j + 1) }).map encP = (onA { a with mv := a.mv.take j }).map encP ++ [encP a.mv[j].on] := by
   have e : onA { a with mv := a.mv.take (j + 1) } = onA { a with mv := a.mv.take j } ++ [a.mv[j].on] := by
    show (a.mv.take (j + 1)).map (·.on) = (a.mv.take j).map (·.on) ++ [a.mv[j].on]
    rw [List.take_succ_eq_append_getElem hlt', List.map_append]; rfl
   rw [e, List.map_append]; rfl
  have hpl : ((onA { a with mv := a.mv.take j }).map encP).length = j := by unfold onA; simp; omega
  have ih' := fun q' H' => ih (j + 1, q', H')
  simp only [hnx] at ih'
  generalize (onA { a with mv := a.mv.take j }).map encP = acc at *
  have gL := fun L => g.at hK0 L
  repeat first|((first|refine qa tOk rfl ?_|refine qb tOk rfl ?_|refine qh rfl ?_);simp [g0, hlt'])|refine qf ?_|refine qg ?_
  refine AStep_appendS tOk rfl rfl T91 rfl T76 rfl (by decide) (by decide) rfl rfl rfl ?_
  simp [get_app g.arr, set_app g.arr, hpl]
  refine ⟨by simp [appOk, get_app g.arr, set_app g.arr, hpl] <;> omega, ?_⟩
  repeat first|((first|refine qa tOk rfl ?_|refine qb tOk rfl ?_|refine qh rfl ?_);simp [gL, hw])|refine qf ?_|refine qg ?_
  exact ALoop_keep (sl' := [(1, .vptr 0 0), (3, .sl (H2.length + 1) 1 0 (j + 1)), (4, .i (j + 1 : Nat))]) (ih' (H2.length + 1) _ ⟨by omega, g.put [AObj.arr 76 1 [encP a.mv[j].on]] _ rfl⟩ (by omega)) (by simp)
 ·have hge' : j = a.mv.length := by simp at hge; omega
  subst hge'
  have e : ({ a with mv := a.mv.take a.mv.length } : Aut) = a := by rw [List.take_length]
  rw [e] at g
  have hpl : ((onA a).map encP).length = a.mv.length := by simp [onA]
  have ga := g.arr
  obtain ⟨acc, hacc⟩ : ∃ acc, acc = (onA a).map encP := ⟨_, rfl⟩
  rw [← hacc] at ga hpl
  repeat first|((first|refine qa tOk rfl ?_|refine qb tOk rfl ?_|refine qh rfl ?_);simp [ga, hpl])|refine qf ?_|refine qg ?_
  rw [List.take_of_length_le (by omega), hacc]
end Go.Abs
set_option maxRecDepth 100000
namespace Go.Abs
open Go Go.Proofs
set_option linter.unusedSimpArgs false
theorem eq_of_get {α : Type} {a b : List α} (h : a.length = b.length) (hi : ∀ i, ∀ h1 : i < a.length, ∀ h2 : i < b.length, a[i] = b[i]) : a = b := List.ext_getElem h hi
set_option maxHeartbeats 1000000 in
theorem pc_rsame (a b : List Int) : PC Tryz.prog 53 [LI a, LI b] (fun r => r = .bool (decide (a = b))) := by
 refine PC_body tOk Tryz.func53 rfl Tryz.results53 rfl (by simp [Tryz.ntmps53]) ?_
 rw [Tryz.ntmps53]
 simp only [argSlots]
 refine AWP_len 0 rfl (fun hlen => ?_)
 rw [List.length_map] at hlen
 repeat first|((first|refine qa tOk rfl ?_|refine qb tOk rfl ?_|refine qh rfl ?_);simp)|refine qf ?_|refine qg ?_
 refine AWP_cond2 rfl (fun h => ?_) (fun h => ?_)
 ·repeat first|((first|refine qa tOk rfl ?_|refine qb tOk rfl ?_|refine qh rfl ?_);simp)|refine qf ?_|refine qg ?_
  intro e; subst e; simp at h
 have hl : a.length = b.length := by simp at h; omega
 repeat first|((first|refine qa tOk rfl ?_|refine qb tOk rfl ?_|refine qh rfl ?_);simp)|refine qf ?_|refine qg ?_
 refine AWP_countI a.length (fun j => ∀ i, i < j → ∀ h1 : i < a.length, ∀ h2 : i < b.length, a[i] = b[i]) (fun j => [(0, LI a), (1, LI b), (5, .i j)]) (fun _ => []) rfl (by simp) (by simp) (by simp) (by simp) (by simp) ?_
 intro j hj hI ih
 repeat first|((first|refine qa tOk rfl ?_|refine qb tOk rfl ?_|refine qh rfl ?_);simp)|refine qf ?_|refine qg ?_
 refine AWP_cond2 rfl (fun hlt => ?_) (fun hge => ?_)
 ·have hlt' : j < a.length := by simpa using hlt
  have hlb : j < b.length := by omega
  have hw : IntKind.i64.wrap ((j : Int) + 1) = j + 1 := wrap_i64 _ (by omega) (by omega)
  repeat first|((first|refine qa tOk rfl ?_|refine qb tOk rfl ?_|refine qh rfl ?_);simp)|refine qf ?_|refine qg ?_
  refine AWP_drawT tOk mixed [] (.val 0 (.val 1 (.val 2 (.val 3 (.val 4 (.val 5 (.val 6 (.val 7 (.val 8 (.done)))))))))) rfl (by kernel_rfl) ?_
  simp [hlt', hlb]
  refine AWP_cond2 rfl (fun h3 => ?_) (fun h3 => ?_)
  ·repeat first|((first|refine qa tOk rfl ?_|refine qb tOk rfl ?_|refine qh rfl ?_);simp)|refine qf ?_|refine qg ?_
   intro e; subst e; simp at h3
  ·repeat first|((first|refine qa tOk rfl ?_|refine qb tOk rfl ?_|refine qh rfl ?_);simp [hw])|refine qf ?_|refine qg ?_
   refine ALoop_end _ (ih hlt' (fun i hi h1 h2 => ?_)) rfl (by simp) ?_ (by simp) (by simp)
   ·by_cases e : i = j
    ·subst e; simpa using h3
    ·exact hI i (by omega) h1 h2
   ·simp
 ·have hge' : j = a.length := by simp at hge; omega
  subst hge'
  repeat first|((first|refine qa tOk rfl ?_|refine qb tOk rfl ?_|refine qh rfl ?_);simp)|refine qf ?_|refine qg ?_
  exact eq_of_get hl (fun i h1 h2 => hI i h1 h1 h2)
abbrev LLI (l : List (List Int)) : AV := .list (l.map fun x => LI x)
set_option maxHeartbeats 1000000 in
theorem pc_rfind (l : List (List Int)) (x : List Int) : PC Tryz.prog 63 [LLI l, LI x] (fun r => r = .i (fstI (fun y => decide (y = x)) l)) := by
 refine PC_body tOk Tryz.func63 rfl Tryz.results63 rfl (by simp [Tryz.ntmps63]) ?_
 rw [Tryz.ntmps63]
 simp only [argSlots]
 refine AWP_len 0 rfl (fun hlen => ?_)
 rw [List.length_map] at hlen
 repeat first|((first|refine qa tOk rfl ?_|refine qb tOk rfl ?_|refine qh rfl ?_);simp)|refine qf ?_|refine qg ?_
 refine AWP_countI l.length (fun j => ∀ i, ∀ hi : i < l.length, i < j → decide (l[i] = x) = false) (fun j => [(0, LLI l), (1, LI x), (5, .i j)]) (fun _ => []) rfl (by simp) (by simp) (by simp) (by simp) (by simp) ?_
 intro j hj hI ih
 repeat first|((first|refine qa tOk rfl ?_|refine qb tOk rfl ?_|refine qh rfl ?_);simp)|refine qf ?_|refine qg ?_
 refine AWP_cond2 rfl (fun hlt => ?_) (fun hge => ?_)
 ·have hlt' : j < l.length := by simpa using hlt
  have hw : IntKind.i64.wrap ((j : Int) + 1) = j + 1 := wrap_i64 _ (by omega) (by omega)
  repeat first|((first|refine qa tOk rfl ?_|refine qb tOk rfl ?_|refine qh rfl ?_);simp [hlt'])|refine qf ?_|refine qg ?_
  refine AStep_PC rfl rfl (by simp) (pc_rsame l[j] x) rfl ?_
  rintro _ rfl
  simp
  repeat first|((first|refine qa tOk rfl ?_|refine qb tOk rfl ?_|refine qh rfl ?_);simp)|refine qf ?_|refine qg ?_
  refine AWP_cond2 rfl (fun h => ?_) (fun h => ?_)
  ·repeat first|((first|refine qa tOk rfl ?_|refine qb tOk rfl ?_|refine qh rfl ?_);simp)|refine qf ?_|refine qg ?_
   rw [fst_hit (f := fun y => decide (y = x)) hlt' h hI]
  ·repeat first|((first|refine qa tOk rfl ?_|refine qb tOk rfl ?_|refine qh rfl ?_);simp [hw])|refine qf ?_|refine qg ?_
   refine ALoop_end _ (ih hlt' (fun i hi hij => ?_)) rfl (by simp) ?_ (by simp) (by simp)
   ·by_cases e : i = j
    ·subst e; exact h
    ·exact hI i hi (by omega)
   ·simp
 ·have hge' : j = l.length := by simp at hge; omega
  subst hge'
  repeat first|((first|refine qa tOk rfl ?_|refine qb tOk rfl ?_|refine qh rfl ?_);simp)|refine qf ?_|refine qg ?_
  rw [fst_miss (f := fun y => decide (y = x)) hI]
end Go.Abs
set_option maxRecDepth 100000
namespace Go.Abs
open Go Go.Proofs
set_option linter.unusedSimpArgs false
set_option maxHeartbeats 1000000 in
theorem pc_rsameSets (a b : List (List Int)) : PC Tryz.prog 17 [LLI a, LLI b] (fun r => r = .bool (decide (a = b))) := by
 refine PC_body tOk Tryz.func17 rfl Tryz.results17 rfl (by simp [Tryz.ntmps17]) ?_
 rw [Tryz.ntmps17]
 simp only [argSlots]
 refine AWP_len 0 rfl (fun hlen => ?_)
 rw [List.length_map] at hlen
 repeat first|((first|refine qa tOk rfl ?_|refine qb tOk rfl ?_|refine qh rfl ?_);simp)|refine qf ?_|refine qg ?_
 refine AWP_cond2 rfl (fun h => ?_) (fun h => ?_)
 ·repeat first|((first|refine qa tOk rfl ?_|refine qb tOk rfl ?_|refine qh rfl ?_);simp)|refine qf ?_|refine qg ?_
  intro e; subst e; simp at h
 have hl : a.length = b.length := by simp at h; omega
 repeat first|((first|refine qa tOk rfl ?_|refine qb tOk rfl ?_|refine qh rfl ?_);simp)|refine qf ?_|refine qg ?_
 refine AWP_countI a.length (fun j => ∀ i, i < j → ∀ h1 : i < a.length, ∀ h2 : i < b.length, a[i] = b[i]) (fun j => [(0, LLI a), (1, LLI b), (5, .i j)]) (fun _ => []) rfl (by simp) (by simp) (by simp) (by simp) (by simp) ?_
 intro j hj hI ih
 repeat first|((first|refine qa tOk rfl ?_|refine qb tOk rfl ?_|refine qh rfl ?_);simp)|refine qf ?_|refine qg ?_
 refine AWP_cond2 rfl (fun hlt => ?_) (fun hge => ?_)
 ·have hlt' : j < a.length := by simpa using hlt
  have hlb : j < b.length := by omega
  have hw : IntKind.i64.wrap ((j : Int) + 1) = j + 1 := wrap_i64 _ (by omega) (by omega)
  repeat first|((first|refine qa tOk rfl ?_|refine qb tOk rfl ?_|refine qh rfl ?_);simp)|refine qf ?_|refine qg ?_
  refine AWP_drawT tOk mixed [] (.val 0 (.val 1 (.val 2 (.val 3 (.val 4 (.val 5 (.val 6 (.val 7 (.one 8 (.val 9 (.done))))))))))) rfl (by kernel_rfl) ?_
  simp [hlt', hlb]
  refine AStep_PC rfl rfl (by simp) (pc_rsame a[j] b[j]) rfl ?_
  rintro _ rfl
  simp
  repeat first|((first|refine qa tOk rfl ?_|refine qb tOk rfl ?_|refine qh rfl ?_);simp)|refine qf ?_|refine qg ?_
  refine AWP_cond2 rfl (fun h3 => ?_) (fun h3 => ?_)
  ·repeat first|((first|refine qa tOk rfl ?_|refine qb tOk rfl ?_|refine qh rfl ?_);simp)|refine qf ?_|refine qg ?_
   intro e; subst e; simp at h3
  ·repeat first|((first|refine qa tOk rfl ?_|refine qb tOk rfl ?_|refine qh rfl ?_);simp [hw])|refine qf ?_|refine qg ?_
   refine ALoop_end _ (ih hlt' (fun i hi h1 h2 => ?_)) rfl (by simp) ?_ (by simp) (by simp)
   ·by_cases e : i = j
    ·subst e; simpa using h3
    ·exact hI i (by omega) h1 h2
   ·simp
 ·have hge' : j = a.length := by simp at hge; omega
  subst hge'
  repeat first|((first|refine qa tOk rfl ?_|refine qb tOk rfl ?_|refine qh rfl ?_);simp)|refine qf ?_|refine qg ?_
  exact eq_of_get hl (fun i h1 h2 => hI i h1 h1 h2)
set_option maxHeartbeats 1000000 in
theorem pc_rleading (l : List Mv) (to : Int) : PC Tryz.prog 68 [.list (l.map encMv), .i to] (fun r => r = .i (fstI (fun m : Mv => m.dst == to) l)) := by
 refine PC_body tOk Tryz.func68 rfl Tryz.results68 rfl (by simp [Tryz.ntmps68]) ?_
 rw [Tryz.ntmps68]
 simp only [argSlots]
 refine AWP_len 0 rfl (fun hlen => ?_)
 rw [List.length_map] at hlen
 repeat first|((first|refine qa tOk rfl ?_|refine qb tOk rfl ?_|refine qh rfl ?_);simp)|refine qf ?_|refine qg ?_
 refine AWP_countI l.length (fun j => ∀ i, ∀ hi : i < l.length, i < j → (l[i].dst == to) = false) (fun j => [(0, .list (l.map encMv)), (1, .i to), (5, .i j)]) (fun _ => []) rfl (by simp) (by simp) (by simp) (by simp) (by simp) ?_
 intro j hj hI ih
 repeat first|((first|refine qa tOk rfl ?_|refine qb tOk rfl ?_|refine qh rfl ?_);simp)|refine qf ?_|refine qg ?_
 refine AWP_cond2 rfl (fun hlt => ?_) (fun hge => ?_)
 ·have hlt' : j < l.length := by simpa using hlt
  have hw : IntKind.i64.wrap ((j : Int) + 1) = j + 1 := wrap_i64 _ (by omega) (by omega)
  repeat first|((first|refine qa tOk rfl ?_|refine qb tOk rfl ?_|refine qh rfl ?_);simp [hlt'])|refine qf ?_|refine qg ?_
  refine AWP_cond2 rfl (fun h => ?_) (fun h => ?_)
  ·repeat first|((first|refine qa tOk rfl ?_|refine qb tOk rfl ?_|refine qh rfl ?_);simp)|refine qf ?_|refine qg ?_
   rw [fst_hit (f := fun m : Mv => m.dst == to) hlt' h hI]
  ·repeat first|((first|refine qa tOk rfl ?_|refine qb tOk rfl ?_|refine qh rfl ?_);simp [hw])|refine qf ?_|refine qg ?_
   refine ALoop_end _ (ih hlt' (fun i hi hij => ?_)) rfl (by simp) ?_ (by simp) (by simp)
   ·by_cases e : i = j
    ·subst e; exact h
    ·exact hI i hi (by omega)
   ·simp
 ·have hge' : j = l.length := by simp at hge; omega
  subst hge'
  repeat first|((first|refine qa tOk rfl ?_|refine qb tOk rfl ?_|refine qh rfl ?_);simp)|refine qf ?_|refine qg ?_
  rw [fst_miss (f := fun m : Mv => m.dst == to) hI]
theorem pc_rlimited (a : Aut) : PC Tryz.prog 70 [encA a] (fun r => r = .tup [encA (limK a).2, .i (limK a).1]) := by
 refine PC_body tOk Tryz.func70 rfl Tryz.results70 rfl (by simp [Tryz.ntmps70]) ?_
 rw [Tryz.ntmps70]
 simp only [argSlots]
 simp only [encA]
 repeat first|((first|refine qa tOk rfl ?_|refine qb tOk rfl ?_|refine qh rfl ?_);simp)|refine qf ?_|refine qg ?_
 refine AStep_PC rfl rfl (by simp) (pc_rsCheck a) rfl ?_
 rintro _ rfl
 simp
 repeat first|((first|refine qa tOk rfl ?_|refine qb tOk rfl ?_|refine qh rfl ?_);simp)|refine qf ?_|refine qg ?_
 refine AWP_cond2 rfl (fun h => ?_) (fun h => ?_)
 ·repeat first|((first|refine qa tOk rfl ?_|refine qb tOk rfl ?_|refine qh rfl ?_);simp)|refine qf ?_|refine qg ?_
  rw [limK, if_pos (by simpa using h)]; simp [zeroA]
 ·repeat first|((first|refine qa tOk rfl ?_|refine qb tOk rfl ?_|refine qh rfl ?_);simp)|refine qf ?_|refine qg ?_
  rw [limK, if_neg (by simpa using h)]; simp
set_option maxHeartbeats 1000000 in
theorem pc_rfinal (a : Aut) (l : List Int) (hl : ∀ s ∈ l, 0 ≤ s ∧ s < a.fin.length) (hll : l.length ≤ 1000000) : PC Tryz.prog 62 [encA a, LI l] (fun r => r = .bool (finB a l)) := by
 refine PC_body tOk Tryz.func62 rfl Tryz.results62 rfl (by simp [Tryz.ntmps62]) ?_
 rw [Tryz.ntmps62]
 simp only [argSlots]
 simp only [encA]
 obtain ⟨R, hR⟩ : ∃ R, finB a l = R := ⟨_, rfl⟩
 rw [hR]
 repeat first|((first|refine qa tOk rfl ?_|refine qb tOk rfl ?_|refine qh rfl ?_);simp)|refine qf ?_|refine qg ?_
 refine AWP_countI l.length (fun j => finB a (l.drop j) = R) (fun j => [(1, LI l), (2, .vptr 0 0), (5, .i j)]) (fun _ => [.vars (cellsA a)]) rfl (by simp) (by simp) (by simp) (by simp) (by simpa using hR) ?_
 intro j hj hI ih
 repeat first|((first|refine qa tOk rfl ?_|refine qb tOk rfl ?_|refine qh rfl ?_);simp)|refine qf ?_|refine qg ?_
 refine AWP_cond2 rfl (fun hlt => ?_) (fun hge => ?_)
 ·have hlt' : j < l.length := by simpa using hlt
  have hw : IntKind.i64.wrap ((j : Int) + 1) = j + 1 := wrap_i64 _ (by omega) (by omega)
  obtain ⟨s0, s1⟩ := hl _ (List.getElem_mem hlt')
  have s2 : l[j].toNat < a.fin.length := by omega
  rw [drop_get hlt'] at hI
  have hI' : (a.fin[l[j].toNat] || finB a (l.drop (j + 1))) = R := by
   have h1 : finB a (l[j] :: l.drop (j + 1)) = (a.fin.getD l[j].toNat false || finB a (l.drop (j + 1))) := rfl
   have h2 : a.fin.getD l[j].toNat false = a.fin[l[j].toNat] := by simp [List.getD, s2]
   rw [← h2, ← h1]; exact hI
  repeat first|((first|refine qa tOk rfl ?_|refine qb tOk rfl ?_|refine qh rfl ?_);simp)|refine qf ?_|refine qg ?_
  refine AWP_drawT tOk mixed [] (.val 0 (.val 1 (.val 2 (.val 3 (.val 4 (.val 5 (.val 6 (.val 7 (.done))))))))) rfl (by kernel_rfl) ?_
  simp [hlt', s0, s1, s2]
  refine AWP_cond2 rfl (fun h => ?_) (fun h => ?_)
  ·repeat first|((first|refine qa tOk rfl ?_|refine qb tOk rfl ?_|refine qh rfl ?_);simp)|refine qf ?_|refine qg ?_
   rw [h, Bool.true_or] at hI'; exact hI'.symm
  ·rw [h, Bool.false_or] at hI'
   repeat first|((first|refine qa tOk rfl ?_|refine qb tOk rfl ?_|refine qh rfl ?_);simp [hw])|refine qf ?_|refine qg ?_
   refine ALoop_end _ (ih hlt' hI') rfl (by simp) ?_ (by simp) (by simp)
   simp
 ·have hge' : j = l.length := by simp at hge; omega
  subst hge'
  repeat first|((first|refine qa tOk rfl ?_|refine qb tOk rfl ?_|refine qh rfl ?_);simp)|refine qf ?_|refine qg ?_
  rw [← hI, List.drop_length]; rfl
end Go.Abs
set_option maxRecDepth 100000
namespace Go.Abs
open Go Go.Proofs
set_option linter.unusedSimpArgs false
def lackJ (a : Aut) (s : Int) (j : Nat) : Prd := (onsA { a with mv := a.mv.take j } s).foldl (fun r p => bothP r (restP p)) (wholeP a.types.toNat)
theorem ons_take (a : Aut) (s : Int) (j : Nat) (h : j < a.mv.length) : onsA { a with mv := a.mv.take (j + 1) } s = onsA { a with mv := a.mv.take j } s ++ (if a.mv[j].src = s then [a.mv[j].on] else []) := by
 unfold onsA
 simp only
 rw [List.take_succ_eq_append_getElem h, List.filter_append, List.map_append]
 by_cases e : a.mv[j].src = s <;> simp [e]
theorem lackJ_succ (a : Aut) (s : Int) (j : Nat) (h : j < a.mv.length) : lackJ a s (j + 1) = if a.mv[j].src = s then bothP (lackJ a s j) (restP a.mv[j].on) else lackJ a s j := by
 unfold lackJ
 rw [ons_take a s j h, List.foldl_append]
 by_cases e : a.mv[j].src = s <;> simp [e]
theorem lackJ_zero (a : Aut) (s : Int) : lackJ a s 0 = wholeP a.types.toNat := rfl
theorem lackJ_all (a : Aut) (s : Int) : lackJ a s a.mv.length = lackR a s := by unfold lackJ lackR; rw [List.take_length]
theorem both_len {T : Nat} {c p : Prd} (hc : PWf T c) (hp : PWf T p) {n m : Nat} (h1 : ∀ s ∈ c, s.length ≤ n) (h2 : ∀ t ∈ p, t.length ≤ m) : ∀ x ∈ bothP c p, x.length ≤ n + m := fun x hx => by
 obtain ⟨i, hi⟩ := List.mem_iff_getElem?.1 hx
 unfold bothP at hi
 rw [List.getElem?_zipWith] at hi
 cases h3 : c[i]? with
 | none => rw [h3] at hi; simp at hi
 | some a =>
  cases h4 : p[i]? with
  | none => rw [h3, h4] at hi; simp at hi
  | some b =>
   rw [h3, h4] at hi
   simp at hi
   subst hi
   have ha := List.mem_of_getElem? h3
   have hb := List.mem_of_getElem? h4
   have k1 := norm_len (pairsR a b)
   have k2 := pairs_len a b (hc.2 a ha).1 (hp.2 b hb).1
   have := h1 a ha
   have := h2 b hb
   rw [rBothL]; omega
theorem rest_len {T : Nat} {p : Prd} (hp : PWf T p) {m : Nat} (h2 : ∀ t ∈ p, t.length ≤ m) : ∀ x ∈ restP p, x.length ≤ m + 1 := fun x hx => by
 obtain ⟨y, hy, rfl⟩ := List.mem_map.1 hx
 have := gaps_len (hp.2 y hy).1 (hp.2 y hy).2
 have := h2 y hy
 omega
theorem lackJ_ok {a : Aut} (h : OkA a) (s : Int) : ∀ j, j ≤ a.mv.length → PWf a.types.toNat (lackJ a s j) ∧ ∀ x ∈ lackJ a s j, x.length ≤ 1 + 257 * j
 | 0, _ => by
  rw [lackJ_zero]
  exact ⟨wf_whole _, fun x hx => by rw [whole_len _ x hx]; omega⟩
 | j + 1, hj => by
  obtain ⟨h1, h2⟩ := lackJ_ok h s j (by omega)
  have hlt : j < a.mv.length := by omega
  have hm := List.getElem_mem hlt
  rw [lackJ_succ a s j hlt]
  split
  ·have hw := (h.mv _ hm).on.wf
   refine ⟨wf_both h1 (wf_rest hw).1, fun x hx => ?_⟩
   have := both_len h1 (wf_rest hw) h2 (rest_len hw (ok_len h hm)) x hx
   omega
  ·exact ⟨h1, fun x hx => by have := h2 x hx; omega⟩
attribute [local irreducible] lackJ bothP restP wholeP voidP
set_option maxHeartbeats 2000000 in
theorem pc_rlacking (a : Aut) (h : OkA a) (s : Int) : PC Tryz.prog 75 [encA a, .i s] (fun r => r = encP (lackR a s)) := by
 refine PC_body tOk Tryz.func75 rfl Tryz.results75 rfl (by simp [Tryz.ntmps75]) ?_
 rw [Tryz.ntmps75]
 simp only [argSlots]
 simp only [encA]
 have hml := h.mvs
 have hty := h.types
 repeat first|((first|refine qa tOk rfl ?_|refine qb tOk rfl ?_|refine qh rfl ?_);simp)|refine qf ?_|refine qg ?_
 refine AStep_PC rfl rfl (by simp) (pc_rpWhole a.types (by omega) (by omega)) rfl ?_
 rintro _ rfl
 simp
 repeat first|((first|refine qa tOk rfl ?_|refine qb tOk rfl ?_|refine qh rfl ?_);simp)|refine qf ?_|refine qg ?_
 refine AWP_countI a.mv.length (fun _ => True) (fun j => [(1, .i s), (2, .vptr 0 0), (4, .vptr 1 0), (5, .vptr 2 0), (6, .i j)]) (fun j => [.vars (cellsA a), .vars [.nils], .vars [.list ((lackJ a s j).map encL)]]) (by rw [lackJ_zero]; rfl) (by simp) (by simp) (by simp) (by simp) trivial ?_
 intro j hj _ ih
 repeat first|((first|refine qa tOk rfl ?_|refine qb tOk rfl ?_|refine qh rfl ?_);simp)|refine qf ?_|refine qg ?_
 refine AWP_cond2 rfl (fun hlt => ?_) (fun hge => ?_)
 ·have hlt' : j < a.mv.length := by simpa using hlt
  have hw : IntKind.i64.wrap ((j : Int) + 1) = j + 1 := wrap_i64 _ (by omega) (by omega)
  obtain ⟨k1, k2⟩ := lackJ_ok h s j hj
  have hnx := lackJ_succ a s j hlt'
  have hm := List.getElem_mem hlt'
  have hwf := (h.mv _ hm).on.wf
  repeat first|((first|refine qa tOk rfl ?_|refine qb tOk rfl ?_|refine qh rfl ?_);simp [hlt'])|refine qf ?_|refine qg ?_
  refine AWP_cond2 rfl (fun he => ?_) (fun he => ?_)
  ·have he' : a.mv[j].src = s := by simpa using he
   rw [if_pos he'] at hnx
   repeat first|((first|refine qa tOk rfl ?_|refine qb tOk rfl ?_|refine qh rfl ?_);simp)|refine qf ?_|refine qg ?_
   refine AWP_drawT tOk mixed [9] (.val 0 (.val 1 (.val 2 (.val 3 (.val 4 (.val 5 (.val 6 (.one 7 (.one 8 (.one 9 (.done))))))))))) rfl (by kernel_rfl) ?_
   simp [hlt']
   refine AStep_PC rfl rfl (by simp) (pc_rpRest a.types.toNat a.mv[j].on hwf (fun t ht => by have := ok_len h hm t ht; omega) (by omega)) rfl ?_
   rintro _ rfl
   simp
   refine AStep_PC rfl rfl (by simp) (pc_rpBoth a.types.toNat (lackJ a s j) (restP a.mv[j].on) k1 (wf_rest hwf) (fun x hx y hy => by have := k2 x hx; have := rest_len hwf (ok_len h hm) y hy; omega) (by omega)) rfl ?_
   rintro _ rfl
   simp
   repeat first|((first|refine qa tOk rfl ?_|refine qb tOk rfl ?_|refine qh rfl ?_);simp [hw])|refine qf ?_|refine qg ?_
   refine ALoop_end [] (ih hlt' trivial) ?_ (by simp) ?_ (by simp) (by simp)
   ·rw [hnx]; rfl
   ·simp
  ·have he' : ¬ a.mv[j].src = s := by simpa using he
   rw [if_neg he'] at hnx
   repeat first|((first|refine qa tOk rfl ?_|refine qb tOk rfl ?_|refine qh rfl ?_);simp [hw])|refine qf ?_|refine qg ?_
   refine ALoop_end [] (ih hlt' trivial) ?_ (by simp) ?_ (by simp) (by simp)
   ·rw [hnx]; rfl
   ·simp
 ·have hge' : j = a.mv.length := by simp at hge; omega
  subst hge'
  repeat first|((first|refine qa tOk rfl ?_|refine qb tOk rfl ?_|refine qh rfl ?_);simp)|refine qf ?_|refine qg ?_
  rw [lackJ_all]
end Go.Abs
set_option maxRecDepth 100000
namespace Go.Abs
open Go Go.Proofs
set_option linter.unusedSimpArgs false
theorem full_false {a : Aut} {i : Nat} (h : i < a.fin.length) (hv : voidP (lackR a i) = false) : fullR a = false := by
 unfold fullR
 rw [List.all_eq_false]
 exact ⟨i, List.mem_range.2 h, by rw [hv]; simp⟩
theorem full_true {a : Aut} (h : ∀ i : Nat, i < a.fin.length → voidP (lackR a i) = true) : fullR a = true := by
 unfold fullR
 rw [List.all_eq_true]
 exact fun i hi => h i (List.mem_range.1 hi)
attribute [local irreducible] lackR voidP
set_option maxHeartbeats 2000000 in
theorem pc_rFull (a : Aut) (h : OkA a) : PC Tryz.prog 74 [encA a] (fun r => r = .bool (fullR a)) := by
 refine PC_body tOk Tryz.func74 rfl Tryz.results74 rfl (by simp [Tryz.ntmps74]) ?_
 rw [Tryz.ntmps74]
 simp only [argSlots]
 simp only [encA]
 have hf := h.fin
 repeat first|((first|refine qa tOk rfl ?_|refine qb tOk rfl ?_|refine qh rfl ?_);simp)|refine qf ?_|refine qg ?_
 refine AWP_countI a.fin.length (fun j => ∀ i : Nat, i < j → voidP (lackR a i) = true) (fun j => [(1, .vptr 0 0), (3, .i j)]) (fun _ => [.vars (cellsA a)]) rfl (by simp) (by simp) (by simp) (by simp) (by simp) ?_
 intro j hj hI ih
 repeat first|((first|refine qa tOk rfl ?_|refine qb tOk rfl ?_|refine qh rfl ?_);simp)|refine qf ?_|refine qg ?_
 refine AWP_cond2 rfl (fun hlt => ?_) (fun hge => ?_)
 ·have hlt' : j < a.fin.length := by simpa using hlt
  have hw : IntKind.i64.wrap ((j : Int) + 1) = j + 1 := wrap_i64 _ (by omega) (by omega)
  repeat first|((first|refine qa tOk rfl ?_|refine qb tOk rfl ?_|refine qh rfl ?_);simp)|refine qf ?_|refine qg ?_
  refine AStep_PC rfl rfl (by simp) (pc_rlacking a h j) rfl ?_
  rintro _ rfl
  simp
  repeat first|((first|refine qa tOk rfl ?_|refine qb tOk rfl ?_|refine qh rfl ?_);simp)|refine qf ?_|refine qg ?_
  refine AStep_PC rfl rfl (by simp) (pc_rpVoid (lackR a j)) rfl ?_
  rintro _ rfl
  simp
  repeat first|((first|refine qa tOk rfl ?_|refine qb tOk rfl ?_|refine qh rfl ?_);simp)|refine qf ?_|refine qg ?_
  refine AWP_cond2 rfl (fun he => ?_) (fun he => ?_)
  ·repeat first|((first|refine qa tOk rfl ?_|refine qb tOk rfl ?_|refine qh rfl ?_);simp)|refine qf ?_|refine qg ?_
   rw [full_false hlt' (by simpa using he)]
  ·repeat first|((first|refine qa tOk rfl ?_|refine qb tOk rfl ?_|refine qh rfl ?_);simp [hw])|refine qf ?_|refine qg ?_
   refine ALoop_end [] (ih hlt' (fun i hi => ?_)) rfl (by simp) ?_ (by simp) (by simp)
   ·by_cases e : i = j
    ·subst e; simpa using he
    ·exact hI i (by omega)
   ·simp
 ·have hge' : j = a.fin.length := by simp at hge; omega
  subst hge'
  repeat first|((first|refine qa tOk rfl ?_|refine qb tOk rfl ?_|refine qh rfl ?_);simp)|refine qf ?_|refine qg ?_
  rw [full_true hI]
end Go.Abs
set_option maxRecDepth 100000
namespace Go.Abs
open Go Go.Proofs
set_option linter.unusedSimpArgs false
theorem fewP_false {p : Prd} {i : Nat} (h : i < p.length) (hv : ¬ (p[i].length ≤ 12)) : fewP p = false := by
 rw [Bool.eq_false_iff, Ne, fewP_iff]
 exact fun k => hv (k.2 _ (List.getElem_mem h))
set_option maxHeartbeats 2000000 in
theorem pc_rpFew (p : Prd) : PC Tryz.prog 46 [encP p] (fun r => r = .bool (fewP p)) := by
 refine PC_body tOk Tryz.func46 rfl Tryz.results46 rfl (by simp [Tryz.ntmps46]) ?_
 rw [Tryz.ntmps46]
 simp only [argSlots]
 simp only [encP]
 refine AWP_lenAgg 0 0 rfl rfl (fun hlen => ?_)
 rw [List.length_map] at hlen
 repeat first|((first|refine qa tOk rfl ?_|refine qb tOk rfl ?_|refine qh rfl ?_);simp)|refine qf ?_|refine qg ?_
 refine AWP_countI p.length (fun j => j ≤ 5 ∧ ∀ i, ∀ hi : i < p.length, i < j → p[i].length ≤ 12) (fun j => [(1, .vptr 0 0), (3, .i j)]) (fun _ => [.vars [.list (p.map encL)]]) rfl (by simp) (by simp) (by simp) (by simp) (by simp) ?_
 rintro j hj ⟨hj5, hI⟩ ih
 repeat first|((first|refine qa tOk rfl ?_|refine qb tOk rfl ?_|refine qh rfl ?_);simp)|refine qf ?_|refine qg ?_
 refine AWP_cond2 rfl (fun hlt => ?_) (fun hge => ?_)
 ·have hlt' : j < p.length := by simp at hlt; omega
  have hj6 : j < 5 := by simp at hlt; omega
  have hw : IntKind.i64.wrap ((j : Int) + 1) = j + 1 := wrap_i64 _ (by omega) (by omega)
  repeat first|((first|refine qa tOk rfl ?_|refine qb tOk rfl ?_|refine qh rfl ?_);simp [hlt'])|refine qf ?_|refine qg ?_
  refine AStep_PC rfl rfl (by simp) (pc_Few p[j]) rfl ?_
  rintro _ rfl
  simp
  repeat first|((first|refine qa tOk rfl ?_|refine qb tOk rfl ?_|refine qh rfl ?_);simp)|refine qf ?_|refine qg ?_
  refine AWP_cond2 rfl (fun he => ?_) (fun he => ?_)
  ·repeat first|((first|refine qa tOk rfl ?_|refine qb tOk rfl ?_|refine qh rfl ?_);simp)|refine qf ?_|refine qg ?_
   rw [fewP_false hlt' (by simp at he; omega)]
  ·repeat first|((first|refine qa tOk rfl ?_|refine qb tOk rfl ?_|refine qh rfl ?_);simp [hw])|refine qf ?_|refine qg ?_
   refine ALoop_end [] (ih hlt' ⟨by omega, fun i hi hij => ?_⟩) rfl (by simp) ?_ (by simp) (by simp)
   ·by_cases e : i = j
    ·subst e; simp at he; omega
    ·exact hI i hi (by omega)
   ·simp
 ·have hge' : p.length ≤ j ∨ 5 ≤ j := by simp at hge; omega
  repeat first|((first|refine qa tOk rfl ?_|refine qb tOk rfl ?_|refine qh rfl ?_);simp)|refine qf ?_|refine qg ?_
  rw [Bool.eq_iff_iff, fewP_iff, decide_eq_true_eq]
  constructor
  ·intro h4
   refine ⟨by omega, fun s hs => ?_⟩
   obtain ⟨i, hi, rfl⟩ := List.getElem_of_mem hs
   exact hI i hi (by omega)
  ·intro h4; omega
end Go.Abs
set_option maxRecDepth 100000
namespace Go.Abs
open Go Go.Proofs
set_option linter.unusedSimpArgs false
theorem fewA_iff' {a : Aut} : fewA a = true ↔ a.fin.length ≤ 8 ∧ a.mv.length ≤ 16 ∧ ∀ m ∈ a.mv, fewP m.on = true := by
 simp only [fewA, Bool.and_eq_true, decide_eq_true_eq, List.all_eq_true, and_assoc]
attribute [local irreducible] fewP
set_option maxHeartbeats 2000000 in
theorem pc_rFew (a : Aut) : PC Tryz.prog 13 [encA a] (fun r => r = .bool (fewA a)) := by
 refine PC_body tOk Tryz.func13 rfl Tryz.results13 rfl (by simp [Tryz.ntmps13]) ?_
 rw [Tryz.ntmps13]
 simp only [argSlots]
 simp only [encA]
 refine AWP_lenAgg 0 2 rfl rfl (fun hlen => ?_)
 rw [List.length_map] at hlen
 repeat first|((first|refine qa tOk rfl ?_|refine qb tOk rfl ?_|refine qh rfl ?_);simp)|refine qf ?_|refine qg ?_
 refine AWP_countI a.mv.length (fun j => j ≤ 20 ∧ ∀ i, ∀ hi : i < a.mv.length, i < j → fewP a.mv[i].on = true) (fun j => [(1, .vptr 0 0), (3, .i j)]) (fun _ => [.vars (cellsA a)]) rfl (by simp) (by simp) (by simp) (by simp) (by simp) ?_
 rintro j hj ⟨hj5, hI⟩ ih
 repeat first|((first|refine qa tOk rfl ?_|refine qb tOk rfl ?_|refine qh rfl ?_);simp)|refine qf ?_|refine qg ?_
 refine AWP_cond2 rfl (fun hlt => ?_) (fun hge => ?_)
 ·have hlt' : j < a.mv.length := by simp at hlt; omega
  have hj6 : j < 20 := by simp at hlt; omega
  have hw : IntKind.i64.wrap ((j : Int) + 1) = j + 1 := wrap_i64 _ (by omega) (by omega)
  repeat first|((first|refine qa tOk rfl ?_|refine qb tOk rfl ?_|refine qh rfl ?_);simp [hlt'])|refine qf ?_|refine qg ?_
  refine AStep_PC rfl rfl (by simp) (pc_rpFew a.mv[j].on) rfl ?_
  rintro _ rfl
  simp
  repeat first|((first|refine qa tOk rfl ?_|refine qb tOk rfl ?_|refine qh rfl ?_);simp)|refine qf ?_|refine qg ?_
  refine AWP_cond2 rfl (fun he => ?_) (fun he => ?_)
  ·repeat first|((first|refine qa tOk rfl ?_|refine qb tOk rfl ?_|refine qh rfl ?_);simp)|refine qf ?_|refine qg ?_
   have : fewA a = false := by
    rw [Bool.eq_false_iff, Ne, fewA_iff']
    intro k
    have := k.2.2 _ (List.getElem_mem hlt')
    rw [this] at he; cases he
   rw [this]
  ·repeat first|((first|refine qa tOk rfl ?_|refine qb tOk rfl ?_|refine qh rfl ?_);simp [hw])|refine qf ?_|refine qg ?_
   refine ALoop_end [] (ih hlt' ⟨by omega, fun i hi hij => ?_⟩) rfl (by simp) ?_ (by simp) (by simp)
   ·by_cases e : i = j
    ·subst e; simpa using he
    ·exact hI i hi (by omega)
   ·simp
 ·have hge' : a.mv.length ≤ j ∨ 20 ≤ j := by simp at hge; omega
  repeat first|((first|refine qa tOk rfl ?_|refine qb tOk rfl ?_|refine qh rfl ?_);simp)|refine qf ?_|refine qg ?_
  rw [Bool.eq_iff_iff, fewA_iff']
  simp
  constructor
  ·rintro ⟨h4, h5⟩
   refine ⟨by omega, by omega, fun m hm => ?_⟩
   obtain ⟨i, hi, rfl⟩ := List.getElem_of_mem hm
   exact hI i hi (by omega)
  ·rintro ⟨h4, h5, _⟩; omega
end Go.Abs
set_option maxRecDepth 100000
namespace Go.Abs
open Go Go.Proofs
set_option linter.unusedSimpArgs false
set_option maxHeartbeats 2000000 in
theorem pc_rpSame (a b : Prd) : PC Tryz.prog 72 [encP a, encP b] (fun r => r = .bool (decide (a = b))) := by
 refine PC_body tOk Tryz.func72 rfl Tryz.results72 rfl (by simp [Tryz.ntmps72]) ?_
 rw [Tryz.ntmps72]
 simp only [argSlots]
 simp only [encP]
 refine AWP_lenAgg 0 0 rfl rfl (fun hlen => ?_)
 rw [List.length_map] at hlen
 repeat first|((first|refine qa tOk rfl ?_|refine qb tOk rfl ?_|refine qh rfl ?_);simp)|refine qf ?_|refine qg ?_
 refine AWP_cond2 rfl (fun h => ?_) (fun h => ?_)
 ·repeat first|((first|refine qa tOk rfl ?_|refine qb tOk rfl ?_|refine qh rfl ?_);simp)|refine qf ?_|refine qg ?_
  intro e; subst e; simp at h
 have hl : a.length = b.length := by simp at h; omega
 repeat first|((first|refine qa tOk rfl ?_|refine qb tOk rfl ?_|refine qh rfl ?_);simp)|refine qf ?_|refine qg ?_
 refine AWP_countI a.length (fun j => ∀ i, i < j → ∀ h1 : i < a.length, ∀ h2 : i < b.length, a[i] = b[i]) (fun j => [(2, .vptr 0 0), (3, .vptr 1 0), (5, .i j)]) (fun _ => [.vars [.list (a.map encL)], .vars [.list (b.map encL)]]) rfl (by simp) (by simp) (by simp) (by simp) (by simp) ?_
 intro j hj hI ih
 repeat first|((first|refine qa tOk rfl ?_|refine qb tOk rfl ?_|refine qh rfl ?_);simp)|refine qf ?_|refine qg ?_
 refine AWP_cond2 rfl (fun hlt => ?_) (fun hge => ?_)
 ·have hlt' : j < a.length := by simpa using hlt
  have hlb : j < b.length := by omega
  have hw : IntKind.i64.wrap ((j : Int) + 1) = j + 1 := wrap_i64 _ (by omega) (by omega)
  repeat first|((first|refine qa tOk rfl ?_|refine qb tOk rfl ?_|refine qh rfl ?_);simp)|refine qf ?_|refine qg ?_
  refine AWP_drawT tOk mixed [] (.val 0 (.val 1 (.val 2 (.val 3 (.val 4 (.val 5 (.val 6 (.val 7 (.val 8 (.val 9 (.one 10 (.val 11 (.done))))))))))))) rfl (by kernel_rfl) ?_
  simp [hlt', hlb]
  refine AStep_PC rfl rfl (by simp) (pc_Same a[j] b[j]) rfl ?_
  rintro _ rfl
  simp
  repeat first|((first|refine qa tOk rfl ?_|refine qb tOk rfl ?_|refine qh rfl ?_);simp)|refine qf ?_|refine qg ?_
  refine AWP_cond2 rfl (fun h3 => ?_) (fun h3 => ?_)
  ·repeat first|((first|refine qa tOk rfl ?_|refine qb tOk rfl ?_|refine qh rfl ?_);simp)|refine qf ?_|refine qg ?_
   intro e; subst e; simp at h3
  ·repeat first|((first|refine qa tOk rfl ?_|refine qb tOk rfl ?_|refine qh rfl ?_);simp [hw])|refine qf ?_|refine qg ?_
   refine ALoop_end [] (ih hlt' (fun i hi h1 h2 => ?_)) rfl (by simp) ?_ (by simp) (by simp)
   ·by_cases e : i = j
    ·subst e; simpa using h3
    ·exact hI i (by omega) h1 h2
   ·simp
 ·have hge' : j = a.length := by simp at hge; omega
  subst hge'
  repeat first|((first|refine qa tOk rfl ?_|refine qb tOk rfl ?_|refine qh rfl ?_);simp)|refine qf ?_|refine qg ?_
  exact eq_of_get hl (fun i h1 h2 => hI i h1 h1 h2)
end Go.Abs
set_option maxRecDepth 100000
namespace Go.Abs
open Go Go.Proofs
set_option linter.unusedSimpArgs false
set_option maxHeartbeats 1000000 in
theorem pc_IndexP (p : Prd) (g : Nat) (f : List Iv → Bool) (hg : ∀ s, PC Tryz.prog g [LIv s] (fun r => r = .bool (f s))) :
  PC Tryz.prog 182 [.list (p.map encL), .fn (.func g) [] []] (fun r => r = .i (fstI f p)) := by
 refine PC_body tOk Tryz.func182 rfl Tryz.results182 rfl (by simp [Tryz.ntmps182]) ?_
 rw [Tryz.ntmps182]
 simp only [argSlots]
 refine AWP_len 0 rfl (fun hlen => ?_)
 rw [List.length_map] at hlen
 repeat first|((first|refine qa tOk rfl ?_|refine qb tOk rfl ?_|refine qh rfl ?_);simp)|refine qf ?_|refine qg ?_
 refine AWP_countI p.length (fun j => ∀ i, ∀ hi : i < p.length, i < j → f p[i] = false) (fun j => [(0, .list (p.map encL)), (1, .fn (.func g) [] []), (7, .i p.length), (8, .i j)]) (fun _ => []) rfl (by simp) (by simp) (by simp) (by simp) (by simp) ?_
 intro j hj hI ih
 repeat first|((first|refine qa tOk rfl ?_|refine qb tOk rfl ?_|refine qh rfl ?_);simp)|refine qf ?_|refine qg ?_
 refine AWP_cond2 rfl (fun hlt => ?_) (fun hge => ?_)
 ·have hlt' : j < p.length := by simpa using hlt
  have hw : IntKind.i64.wrap ((j : Int) + 1) = j + 1 := wrap_i64 _ (by omega) (by omega)
  repeat first|((first|refine qa tOk rfl ?_|refine qb tOk rfl ?_|refine qh rfl ?_);simp [hlt'])|refine qf ?_|refine qg ?_
  refine AStep_PC rfl rfl (by simp) (hg p[j]) rfl ?_
  rintro _ rfl
  simp
  repeat first|((first|refine qa tOk rfl ?_|refine qb tOk rfl ?_|refine qh rfl ?_);simp)|refine qf ?_|refine qg ?_
  refine AWP_cond2 rfl (fun h => ?_) (fun h => ?_)
  ·repeat first|((first|refine qa tOk rfl ?_|refine qb tOk rfl ?_|refine qh rfl ?_);simp)|refine qf ?_|refine qg ?_
   rw [fst_hit hlt' h hI]
  ·repeat first|((first|refine qa tOk rfl ?_|refine qb tOk rfl ?_|refine qh rfl ?_);simp [hw])|refine qf ?_|refine qg ?_
   refine ALoop_end [] (ih hlt' (fun i hi hij => ?_)) rfl (by simp) ?_ (by simp) (by simp)
   ·by_cases e : i = j
    ·subst e; exact h
    ·exact hI i hi (by omega)
   ·simp
 ·have hge' : j = p.length := by simp at hge; omega
  subst hge'
  repeat first|((first|refine qa tOk rfl ?_|refine qb tOk rfl ?_|refine qh rfl ?_);simp)|refine qf ?_|refine qg ?_
  rw [fst_miss hI]
theorem pc_ContainsP (p : Prd) (g : Nat) (f : List Iv → Bool) (hg : ∀ s, PC Tryz.prog g [LIv s] (fun r => r = .bool (f s))) :
  PC Tryz.prog 125 [.list (p.map encL), .fn (.func g) [] []] (fun r => r = .bool (p.any f)) := by
 refine PC_body tOk Tryz.func125 rfl Tryz.results125 rfl (by simp [Tryz.ntmps125]) ?_
 rw [Tryz.ntmps125]
 simp only [argSlots]
 repeat first|((first|refine qa tOk rfl ?_|refine qb tOk rfl ?_|refine qh rfl ?_);simp)|refine qf ?_|refine qg ?_
 refine AStep_PC rfl rfl (by simp) (pc_IndexP p g f hg) rfl ?_
 rintro _ rfl
 simp
 repeat first|((first|refine qa tOk rfl ?_|refine qb tOk rfl ?_|refine qh rfl ?_);simp)|refine qf ?_|refine qg ?_
 rw [← fst_ge]
theorem pc_void1 (s : List Iv) : PC Tryz.prog 185 [LIv s] (fun r => r = .bool (decide (0 < s.length))) := by
 refine PC_body tOk Tryz.func185 rfl Tryz.results185 rfl (by simp [Tryz.ntmps185]) ?_
 rw [Tryz.ntmps185]
 simp only [argSlots]
 repeat first|((first|refine qa tOk rfl ?_|refine qb tOk rfl ?_|refine qh rfl ?_);simp)|refine qf ?_|refine qg ?_
theorem pc_big1 (s : List Iv) : PC Tryz.prog 126 [LIv s] (fun r => r = .bool (decide (256 < s.length))) := by
 refine PC_body tOk Tryz.func126 rfl Tryz.results126 rfl (by simp [Tryz.ntmps126]) ?_
 rw [Tryz.ntmps126]
 simp only [argSlots]
 repeat first|((first|refine qa tOk rfl ?_|refine qb tOk rfl ?_|refine qh rfl ?_);simp)|refine qf ?_|refine qg ?_
 omega
theorem void_any (p : Prd) : (!p.any fun s => decide (0 < s.length)) = voidP p := by
 unfold voidP
 rw [List.not_any_eq_all_not]
 congr 1
 funext s
 cases s <;> simp
theorem pc_dvoid (p : Prd) : PC Tryz.prog 132 [encP p] (fun r => r = .bool (voidP p)) := by
 refine PC_body tOk Tryz.func132 rfl Tryz.results132 rfl (by simp [Tryz.ntmps132]) ?_
 rw [Tryz.ntmps132]
 simp only [argSlots]
 simp only [encP]
 repeat first|((first|refine qa tOk rfl ?_|refine qb tOk rfl ?_|refine qh rfl ?_);simp)|refine qf ?_|refine qg ?_
 refine AStep_PC rfl rfl (by simp) (pc_ContainsP p 185 (fun s => decide (0 < s.length)) pc_void1) rfl ?_
 rintro _ rfl
 simp
 repeat first|((first|refine qa tOk rfl ?_|refine qb tOk rfl ?_|refine qh rfl ?_);simp)|refine qf ?_|refine qg ?_
 rw [← void_any p, Bool.not_not]
def bigM (m : Mv) : Bool := m.on.any fun s => decide (256 < s.length)
theorem bigA_eq (a : Aut) : bigA a = (decide (256 < a.fin.length) || decide (2048 < a.mv.length) || a.mv.any bigM) := rfl
attribute [local irreducible] bigM
end Go.Abs
set_option maxRecDepth 100000
namespace Go.Abs
open Go Go.Proofs
set_option linter.unusedSimpArgs false
abbrev LSy (w : List Sy) : AV := .list (w.map encSy)
def runB (a : Aut) (w : List Sy) (z : Int) : Bool := decide (z ∈ runL a [0] w)
attribute [local irreducible] bitL nxB
end Go.Abs
set_option maxRecDepth 100000
namespace Go.Abs
open Go Go.Proofs
set_option linter.unusedSimpArgs false
def ckWd (T : Int) : List Sy → Int
 | [] => 0
 | x :: r => if ckSy T x ≠ 0 then ckSy T x else ckWd T r
def accE (a : Aut) (w : List Sy) : Int := if ckAut a ≠ 0 then ckAut a else if 4096 < w.length then 5 else ckWd a.types w
def accF (a : Aut) (w : List Sy) : Bool × Int := if accE a w ≠ 0 then (false, accE a w) else (accL a w, 0)
theorem ckWd_iff {T : Int} : ∀ (w : List Sy), ckWd T w = 0 ↔ ∀ x ∈ w, ckSy T x = 0
 | [] => by simp [ckWd]
 | x :: r => by
  rw [ckWd]
  by_cases h : ckSy T x = 0
  ·rw [if_neg (fun k => k h), ckWd_iff r]; simp [h]
  ·rw [if_pos h]
   exact ⟨fun k => absurd k h, fun k => absurd (k x (by simp)) h⟩
attribute [local irreducible] ckSy accL
end Go.Abs
set_option maxRecDepth 100000
namespace Go.Abs
open Go Go.Proofs
set_option linter.unusedSimpArgs false
def allIv : List Iv := [⟨-1099511627776, 1099511627776⟩]
theorem allIv_gaps : gapsR [] = allIv := by simp [gapsR, gapFrom, allIv]
theorem pc_whole : PC Tryz.prog 156 [] (fun r => r = LIv allIv) := by
 refine PC_body tOk Tryz.func156 rfl Tryz.results156 rfl (by simp [Tryz.ntmps156]) ?_
 rw [Tryz.ntmps156]
 simp only [argSlots]
 repeat first|((first|refine qa tOk rfl ?_|refine qb tOk rfl ?_|refine qh rfl ?_);simp)|refine qf ?_|refine qg ?_
 simp [allIv]
theorem pc_All1 (n : Int) : PC Tryz.prog 155 [.i n] (fun r => r = .tup [LIv allIv, .i 0]) := by
 refine PC_body tOk Tryz.func155 rfl Tryz.results155 rfl (by simp [Tryz.ntmps155]) ?_
 rw [Tryz.ntmps155]
 simp only [argSlots]
 repeat first|((first|refine qa tOk rfl ?_|refine qb tOk rfl ?_|refine qh rfl ?_);simp)|refine qf ?_|refine qg ?_
 refine AStep_PC rfl rfl (by simp) (pc_whole) rfl ?_
 rintro _ rfl
 simp
 repeat first|((first|refine qa tOk rfl ?_|refine qb tOk rfl ?_|refine qh rfl ?_);simp)|refine qf ?_|refine qg ?_
end Go.Abs
set_option maxRecDepth 100000
namespace Go.Abs
open Go Go.Proofs
set_option linter.unusedSimpArgs false
attribute [local irreducible] upL allIv
set_option maxHeartbeats 2000000 in
theorem pc_eachAll (T : Nat) (hT : T ≤ 1000) : PC Tryz.prog 154 [.i T, .fn (.func 155) [] []] (fun r => r = .tup [encP (List.replicate T allIv), .i 0]) := by
 refine PC_body tOk Tryz.func154 rfl Tryz.results154 rfl (by simp [Tryz.ntmps154]) ?_
 rw [Tryz.ntmps154]
 simp only [argSlots]
 simp only [encP]
 repeat first|((first|refine qa tOk rfl ?_|refine qb tOk rfl ?_|refine qh rfl ?_);simp)|refine qf ?_|refine qg ?_
 refine AWP_nilCell 1 0 171 1 rfl rfl ?_
 simp
 obtain ⟨K, hK⟩ : ∃ K, K = [AObj.vars [AV.nils], AObj.vars [AV.nils]] := ⟨_, rfl⟩
 have hst := GL.start (K := K) (S := 1) [] [] 171 1 (by rw [hK]; simp)
 refine AWP_loop (ALoop_keep (sl' := [(1, .fn (.func 155) [] []), (4, .vptr 0 0), (6, .vptr 1 0), (10, .i T), (11, .i 0)]) ?_ (by simp))
 refine ALoop_wf (F := fun (u : Nat × Nat × List AObj) => ⟨[(1, .fn (.func 155) [] []), (4, .vptr 0 0), (6, .vptr 1 0), (10, .i T), (11, .i u.1)], u.2.2⟩)
  (fun u => u.1 ≤ T ∧ GL K u.2.2 1 u.2.1 [] [] 171 1 (upL (fun _ => allIv) u.1)) (fun u => T - u.1) ?_ (0, K.length, _) ⟨by simp, by rw [upL_zero, hK] at *; exact hst⟩
 rintro ⟨j, q, H2⟩ ⟨hj, g⟩ ih
 simp only at hj g ih ⊢
 have gR : H2[0]? = some (AObj.vars [AV.nils]) := g.kp (by decide) (by rw [hK]; rfl)
 have g2 := g.cell
 have g3 := g.arr
 rw [upL_len] at g2
 simp only [List.nil_append] at g2
 repeat first|((first|refine qa tOk rfl ?_|refine qb tOk rfl ?_|refine qh rfl ?_);simp)|refine qf ?_|refine qg ?_
 refine AWP_cond2 rfl (fun hlt => ?_) (fun hge => ?_)
 ·have hlt' : j < T := by simpa using hlt
  have hw : IntKind.i64.wrap ((j : Int) + 1) = j + 1 := wrap_i64 _ (by omega) (by omega)
  repeat first|((first|refine qa tOk rfl ?_|refine qb tOk rfl ?_|refine qh rfl ?_);simp)|refine qf ?_|refine qg ?_
  refine AStep_PC rfl rfl (by simp) (pc_All1 j) rfl ?_
  rintro _ rfl
  simp
  repeat first|((first|refine qa tOk rfl ?_|refine qb tOk rfl ?_|refine qh rfl ?_);simp)|refine qf ?_|refine qg ?_
  refine AWP_cond rfl ?_
  have hc2 : ∀ L : List AObj, (H2.set q .dead ++ L)[1]? = some (AObj.vars [AV.sl q 1 0 j]) := fun L => by have := g.at L; rw [upL_len] at this; exact this
  have hc3 : ∀ (L : List AObj) (h : 1 < (H2.set q .dead ++ L).length), (H2.set q .dead ++ L)[1]'h = AObj.vars [AV.sl q 1 0 j] := fun L h => by have := hc2 L; rw [List.getElem?_eq_getElem h] at this; exact Option.some.inj this
  have hput := fun A y => g.put A y (upL_len _ _).symm
  have hnx : upL (fun _ => allIv) j ++ [encL allIv] = upL (fun _ => allIv) (j + 1) := (upL_succ _ _).symm
  have hpush := fun H => ih (j + 1, H2.length + 1, H)
  have hul := upL_len (fun _ => allIv) j
  simp only [← hnx] at hpush
  repeat first|((first|refine qa tOk rfl ?_|refine qb tOk rfl ?_|refine qh rfl ?_);simp [g2])|refine qf ?_|refine qg ?_
  generalize upL (fun _ => allIv) j = xs at *
  refine AStep_appendS tOk rfl rfl T74 rfl T171 rfl (by decide) (by decide) rfl rfl rfl ?_
  simp [get_app g3, set_app g3, hul, hc2, hc3]
  refine ⟨by simp [appOk, get_app g3, set_app g3, hul, hc2, hc3] <;> omega, ?_⟩
  repeat first|((first|refine qa tOk rfl ?_|refine qb tOk rfl ?_|refine qh rfl ?_);simp [g2, hw, hc2, hc3])|refine qf ?_|refine qg ?_
  refine ALoop_keep (sl' := [(1, .fn (.func 155) [] []), (4, .vptr 0 0), (6, .vptr 1 0), (10, .i T), (11, .i (j + 1 : Nat))]) (hpush _ ⟨by omega, hput _ _⟩ (by omega)) ?_
  simp
 ·have hge' : j = T := by simp at hge; omega
  subst hge'
  have hS := (List.getElem?_eq_some_iff.1 g2).1
  have hne : q ≠ 0 ∧ q ≠ 1 := by have := g.ge; rw [hK] at this; simp at this; omega
  have hul := upL_len (fun _ => allIv) j
  have hres : .list (upL (fun _ => allIv) j) = AV.list ((List.replicate j allIv).map encL) := by
   rw [upL_all]; simp [Function.comp_def, List.map_const']
  generalize upL (fun _ => allIv) j = xs at *
  refine AWP_freezeC q g3 1 g2 ?_
  have k1 : ∀ X, ((H2.set q .dead).set 1 X)[0]? = some (AObj.vars [AV.nils]) := fun X => get_set (by decide) (get_set hne.1 gR _) _
  have k2 : ∀ X, ((H2.set q .dead).set 1 X)[1]? = some X := fun X => List.getElem?_set_self (by simpa using hS)
  have k3 : ∀ X Y, (((H2.set q .dead).set 1 X).set 0 Y)[0]? = some Y := fun X Y => get_self (k1 X) _
  simp [hul]
  rw [List.take_of_length_le (by omega)]
  repeat first|((first|refine qa tOk rfl ?_|refine qb tOk rfl ?_|refine qh rfl ?_);simp [k1, k2, k3])|refine qf ?_|refine qg ?_
  have h2 := AV.list.inj hres
  rw [List.map_replicate] at h2
  exact h2
theorem pc_All (T : Int) (h1 : 1 ≤ T) (h2 : T ≤ 16) : PC Tryz.prog 98 [.i T] (fun r => r = .tup [encP (wholeP T.toNat), .i 0]) := by
 refine PC_body tOk Tryz.func98 rfl Tryz.results98 rfl (by simp [Tryz.ntmps98]) ?_
 rw [Tryz.ntmps98]
 simp only [argSlots]
 simp only [encP]
 have hw : wholeP T.toNat = List.replicate T.toNat allIv := by rw [wholeP, allIv_gaps]
 have hT : ((T.toNat : Nat) : Int) = T := by omega
 have hc := pc_eachAll T.toNat (by omega)
 rw [hT] at hc
 have n1 : ¬ T < 1 := by omega
 have n2 : ¬ 16 < T := by omega
 rw [hw]
 repeat first|((first|refine qa tOk rfl ?_|refine qb tOk rfl ?_|refine qh rfl ?_);simp [n1, n2])|refine qf ?_|refine qg ?_
 refine AWP_cond2 rfl (fun h => ?_) (fun h => ?_)
 ·simp at h
 repeat first|((first|refine qa tOk rfl ?_|refine qb tOk rfl ?_|refine qh rfl ?_);simp)|refine qf ?_|refine qg ?_
 refine AStep_PC rfl rfl (by simp) (hc) rfl ?_
 rintro _ rfl
 simp
 repeat first|((first|refine qa tOk rfl ?_|refine qb tOk rfl ?_|refine qh rfl ?_);simp)|refine qf ?_|refine qg ?_
end Go.Abs
set_option maxRecDepth 100000
namespace Go.Abs
open Go Go.Proofs
set_option linter.unusedSimpArgs false
attribute [local irreducible] ownE
theorem pc_filled (p : Prd) : PC Tryz.prog 173 [encP p] (fun r => r = .fn (.func 197) [] [.iptr [.list (p.map encL)]]) := by
 refine PC_body tOk Tryz.func173 rfl Tryz.results173 rfl (by simp [Tryz.ntmps173]) ?_
 rw [Tryz.ntmps173]
 simp only [argSlots]
 simp only [encP]
 repeat first|((first|refine qa tOk rfl ?_|refine qb tOk rfl ?_|refine qh rfl ?_);simp)|refine qf ?_|refine qg ?_
set_option maxHeartbeats 4000000 in
theorem pc_Witness (p : Prd) (h0 : ownE [p] = 0) (hv : voidP p = false) : PC Tryz.prog 121 [encP p] (fun r => r = .tup [encSy (leastS p), .i 0]) := by
 have hlen : p.length ≤ 16 := by
  unfold ownE at h0
  by_cases hc : ckPrd p.length p = 0
  ·have := ((ckPrd_iff _ p).1 hc).1; omega
  ·rw [if_pos hc] at h0; exact absurd h0 hc
 obtain ⟨t, x, rr, h1, h2, h3⟩ : ∃ t x r, p[t]? = some (x :: r) ∧ leastP p 0 = (0 + t, x.lo) ∧ ∀ j, j < t → p[j]? = some [] := by
  refine leastS_drop p 0 ?_
  rw [voidP, List.all_eq_false] at hv
  obtain ⟨s, hs, hn⟩ := hv
  exact ⟨s, hs, fun e => hn (by rw [e]; rfl)⟩
 rw [Nat.zero_add] at h2
 have hls : leastS p = ⟨t, x.lo⟩ := by rw [leastS, h2]
 rw [hls]
 obtain ⟨htl, htg⟩ := List.getElem?_eq_some_iff.1 h1
 refine PC_body tOk Tryz.func121 rfl Tryz.results121 rfl (by simp [Tryz.ntmps121]) ?_
 rw [Tryz.ntmps121]
 simp only [argSlots]
 simp only [encP, encSy]
 repeat first|((first|refine qa tOk rfl ?_|refine qb tOk rfl ?_|refine qh rfl ?_);simp)|refine qf ?_|refine qg ?_
 refine AStep_freeze 3 rfl ?_
 simp
 refine AStep_PC rfl rfl (by simp) (pc_checked [p]) rfl ?_
 rintro _ rfl
 simp
 repeat first|((first|refine qa tOk rfl ?_|refine qb tOk rfl ?_|refine qh rfl ?_);simp)|refine qf ?_|refine qg ?_
 refine AWP_cond2 rfl (fun h => by rw [h0] at h; simp at h) (fun h => ?_)
 repeat first|((first|refine qa tOk rfl ?_|refine qb tOk rfl ?_|refine qh rfl ?_);simp)|refine qf ?_|refine qg ?_
 refine AStep_PC rfl rfl (by simp) (pc_filled p) rfl ?_
 rintro _ rfl
 simp
 repeat first|((first|refine qa tOk rfl ?_|refine qb tOk rfl ?_|refine qh rfl ?_);simp)|refine qf ?_|refine qg ?_
 refine AWP_rangeFunc rfl (Rf := fun _ H' => 4 < H'.length ∧ (∃ sl' ps' a' b', H'[4]? = some (.lp false (some Code.ret) 25 sl' ps' a' b')) ∧ H'[1]? = some (.vars [.i t, .i x.lo]) ∧ H'[2]? = some (.vars [.i 0])) ?_ ?_
 ·simp
  refine gen_FC fun H1 hH1 => ?_
  have f1 : H1[1]? = some (.vars [.i 0, .i 0]) := by rw [hH1]; rfl
  have f2 : H1[2]? = some (.vars [.i 0]) := by rw [hH1]; rfl
  have f4 := congrArg (fun h : List AObj => h[4]?) hH1
  simp at f4
  have hl1 : H1.length = 5 := by rw [hH1]; simp
  clear hH1
  refine FC_body tOk Tryz.func197 rfl Tryz.results197 rfl (by simp [Tryz.ntmps197]) ?_
  rw [Tryz.ntmps197]
  simp only [argSlots]
  repeat first|((first|refine qa tOk rfl ?_|refine qb tOk rfl ?_|refine qh rfl ?_);simp)|refine qf ?_|refine qg ?_
  refine AWP_loop (ALoop_keep (sl' := [(0, .yld 4), (6, .list (p.map encL)), (7, .i p.length), (8, .i (0 : Nat))]) ?_ (by simp))
  refine ALoop_wf (F := fun (u : Nat) => ⟨[(0, .yld 4), (6, .list (p.map encL)), (7, .i p.length), (8, .i u)], H1⟩) (fun u => u ≤ t) (fun u => t - u) ?_ 0 (by simp)
  rintro j hj ih
  have hlt' : j < p.length := by omega
  have hw : IntKind.i64.wrap ((j : Int) + 1) = j + 1 := wrap_i64 _ (by omega) (by omega)
  repeat first|((first|refine qa tOk rfl ?_|refine qb tOk rfl ?_|refine qh rfl ?_);simp)|refine qf ?_|refine qg ?_
  refine AWP_cond2 rfl (fun _ => ?_) (fun hge => by simp at hge; omega)
  by_cases hjt : j = t
  ·subst hjt
   repeat first|((first|refine qa tOk rfl ?_|refine qb tOk rfl ?_|refine qh rfl ?_);simp [hlt', htg])|refine qf ?_|refine qg ?_
   refine AStep_yield rfl rfl (q := 4) rfl rfl f4 rfl rfl rfl (fun jm K2 => jm = some Code.ret ∧ 5 ≤ K2.length ∧ K2[1]? = some (.vars [.i j, .i x.lo]) ∧ K2[2]? = some (.vars [.i 0])) ?_ ?_
   ·simp [putMany]
    have e1 := get_set (j := 4) (by decide) f1 .dead
    have e2 := get_set (j := 4) (by decide) f2 .dead
    have e4 := get_self f4 .dead
    have e6 : (H1.set 4 .dead).length = 5 := by simp [hl1]
    generalize H1.set 4 .dead = E at *
    have e3 : ∀ y, (E.set 1 y)[2]? = some (.vars [.i 0]) := fun y => get_set (by decide) e2 y
    repeat first|((first|refine qa tOk rfl ?_|refine qb tOk rfl ?_|refine qh rfl ?_);simp [e1, e2, e3])|refine qf ?_|refine qg ?_
    exact ⟨get_set (by decide) (get_set (by decide) e4 _) _, rfl, by simp [e6], get_set (by decide) (get_self e1 _) _, get_self (e3 _) _⟩
   ·rintro jm K2 ⟨rfl, v1, v2, v3⟩
    simp
    repeat first|((first|refine qa tOk rfl ?_|refine qb tOk rfl ?_|refine qh rfl ?_);simp)|refine qf ?_|refine qg ?_
    have v6 : 4 < K2.length := by omega
    refine AWP_cond2 rfl (fun _ => ?_) (fun h => by cases h)
    repeat first|((first|refine qa tOk rfl ?_|refine qb tOk rfl ?_|refine qh rfl ?_);simp)|refine qf ?_|refine qg ?_
    exact ⟨by omega, ⟨_, _, _, _, List.getElem?_set_self v6⟩, v2, v3⟩
  ·have hnil : p[j] = [] := by
    have := h3 j (by omega)
    rw [List.getElem?_eq_getElem hlt'] at this
    exact Option.some.inj this
   repeat first|((first|refine qa tOk rfl ?_|refine qb tOk rfl ?_|refine qh rfl ?_);simp [hlt', hnil])|refine qf ?_|refine qg ?_
   refine AStep_skip rfl rfl ?_
   simp
   refine AWP_cond rfl ?_
   simp
   repeat first|((first|refine qa tOk rfl ?_|refine qb tOk rfl ?_|refine qh rfl ?_);simp [hw])|refine qf ?_|refine qg ?_
   exact ALoop_keep (sl' := [(0, .yld 4), (6, .list (p.map encL)), (7, .i p.length), (8, .i (j + 1 : Nat))]) (ih (j + 1) (by omega) (by omega)) (by simp)
 ·rintro r H' ⟨hl, ⟨sl', ps', a', b', k4⟩, k1, k2⟩
  refine ⟨_, _, _, _, _, _, _, k4, ?_⟩
  simp
  have u1 := get_set (j := 4) (by decide) k1 .dead
  have u2 := get_set (j := 4) (by decide) k2 .dead
  generalize H'.set 4 .dead = E at *
  repeat first|((first|refine qa tOk rfl ?_|refine qb tOk rfl ?_|refine qh rfl ?_);simp [u1, u2])|refine qf ?_|refine qg ?_
end Go.Abs
set_option maxRecDepth 100000
namespace Go.Abs
open Go Go.Proofs
set_option linter.unusedSimpArgs false
abbrev allW : Iv := ⟨-1099511627776, 1099511627776⟩
theorem setsAt_nil (i : Nat) : setsAt [] i = [] := rfl
theorem setsAt_take {l : List Prd} {j i : Nat} (hj : j < l.length) (hi : i < l[j].length) : setsAt (l.take (j + 1)) i = setsAt (l.take j) i ++ l[j][i] := by
 unfold setsAt
 rw [List.take_succ_eq_append_getElem hj, List.flatMap_append]
 simp [List.getD, hi]
theorem setsAt_le {T : Nat} {l : List Prd} (hl : ∀ p ∈ l, PCk T p) (i : Nat) : (setsAt l i).length ≤ 256 * l.length := by
 induction l with
 | nil => simp [setsAt]
 | cons p r ih =>
  have h1 := ih (fun q hq => hl q (by simp [hq]))
  have h2 : (p.getD i []).length ≤ 256 := by
   by_cases hi : i < p.length
   ·rw [getD_len hi]; exact ((hl p (by simp)).2 _ (List.getElem_mem hi)).len
   ·simp [List.getD, hi]
  unfold setsAt at *
  rw [List.flatMap_cons, List.length_append, List.length_cons]
  omega
def cutA (xs : List Iv) : List Int := ptsR (allW :: xs)
theorem cutA_snoc (xs : List Iv) (x : Iv) : cutA (xs ++ [x]) = cutA xs ++ [x.lo, x.hi + 1] := by
 unfold cutA
 rw [← List.cons_append, pts_snoc]
theorem cutA_len (xs : List Iv) : (cutA xs).length = 2 * xs.length + 2 := by rw [cutA, pts_len]; simp; omega
theorem cutA_all (l : List Prd) (i : Nat) : Lib.compact (sortI (cutA (setsAt l i))) = cutsP l i := rfl
attribute [local irreducible] cutA sortI Lib.compact setsAt
set_option maxHeartbeats 4000000 in
theorem pc_cuts (T : Nat) (l : List Prd) (i : Nat) (hi : i < T) (hT : T ≤ 16) (hl : ∀ p ∈ l, PCk T p) (hn : l.length ≤ 256) : PC Tryz.prog 168 [LP l, .i i] (fun r => r = LI (cutsP l i)) := by
 refine PC_body tOk Tryz.func168 rfl Tryz.results168 rfl (by simp [Tryz.ntmps168]) ?_
 rw [Tryz.ntmps168]
 simp only [argSlots]
 repeat first|((first|refine qa tOk rfl ?_|refine qb tOk rfl ?_|refine qh rfl ?_);simp)|refine qf ?_|refine qg ?_
 have h2 : cutA (setsAt (l.take 0) i) = [-1099511627776, 1099511627777] := by rw [List.take_zero, setsAt_nil, cutA]; rfl
 have hall := setsAt_le hl i
 refine AWP_loop (ALoop_keep (sl' := [(0, LP l), (1, .i i), (5, .sl 0 1 0 (cutA (setsAt (l.take 0) i)).length), (11, LP l), (12, .i l.length), (13, .i (0 : Nat))]) ?_ (by rw [h2]; simp))
 refine ALoop_wf (F := fun (u : Nat × Nat × List AObj) => ⟨[(0, LP l), (1, .i i), (5, .sl u.2.1 1 0 (cutA (setsAt (l.take u.1) i)).length), (11, LP l), (12, .i l.length), (13, .i u.1)], u.2.2⟩)
  (fun u => u.1 ≤ l.length ∧ SL [] u.2.2 u.2.1 3 1 ((cutA (setsAt (l.take u.1) i)).map (AV.int .i64))) (fun u => l.length - u.1) ?_ (0, 0, _) ⟨by simp, by rw [h2]; exact ⟨rfl, by simp, fun j hj => by simp at hj⟩⟩
 rintro ⟨j, q, H2⟩ ⟨hj, g⟩ ih
 simp only at hj g ih ⊢
 repeat first|((first|refine qa tOk rfl ?_|refine qb tOk rfl ?_|refine qh rfl ?_);simp)|refine qf ?_|refine qg ?_
 refine AWP_cond2 rfl (fun hlt => ?_) (fun hge => ?_)
 ·have hlt' : j < l.length := by simpa using hlt
  have hw : IntKind.i64.wrap ((j : Int) + 1) = j + 1 := wrap_i64 _ (by omega) (by omega)
  have hp := hl _ (List.getElem_mem hlt')
  have hil : i < l[j].length := by rw [hp.1]; exact hi
  have hs := hp.2 _ (List.getElem_mem hil)
  have hst := setsAt_take hlt' hil
  have hpre := setsAt_le (l := l.take j) (fun p hp => hl p (List.mem_of_mem_take hp)) i
  rw [List.length_take] at hpre
  have hsl := hs.len
  have hsiv := fun k hk => hs.iv (j := k) hk
  repeat first|((first|refine qa tOk rfl ?_|refine qb tOk rfl ?_|refine qh rfl ?_);simp [hlt', hil])|refine qf ?_|refine qg ?_
  generalize l[j][i] = s at *
  generalize hA : setsAt (l.take j) i = A at *
  refine AWP_loop (ALoop_keep (sl' := [(0, LP l), (1, .i i), (5, .sl q 1 0 (cutA (A ++ s.take 0)).length), (11, LP l), (12, .i l.length), (13, .i j), (21, LIv s), (22, .i s.length), (23, .i (0 : Nat))]) ?_ (by simp))
  refine ALoop_wf (F := fun (u : Nat × Nat × List AObj) => ⟨[(0, LP l), (1, .i i), (5, .sl u.2.1 1 0 (cutA (A ++ s.take u.1)).length), (11, LP l), (12, .i l.length), (13, .i j), (21, LIv s), (22, .i s.length), (23, .i u.1)], u.2.2⟩)
   (fun u => u.1 ≤ s.length ∧ SL [] u.2.2 u.2.1 3 1 ((cutA (A ++ s.take u.1)).map (AV.int .i64))) (fun u => s.length - u.1) ?_ (0, q, _) ⟨by simp, by rw [List.take_zero, List.append_nil]; exact g.add _⟩
  rintro ⟨m, q', H3⟩ ⟨hm, g'⟩ ih'
  simp only at hm g' ih' ⊢
  repeat first|((first|refine qa tOk rfl ?_|refine qb tOk rfl ?_|refine qh rfl ?_);simp)|refine qf ?_|refine qg ?_
  refine AWP_cond2 rfl (fun hlt2 => ?_) (fun hge2 => ?_)
  ·have hlt2' : m < s.length := by simpa using hlt2
   have hw2 : IntKind.i64.wrap ((m : Int) + 1) = m + 1 := wrap_i64 _ (by omega) (by omega)
   obtain ⟨b1, b2, b3⟩ := hsiv m hlt2'
   have hw3 : IntKind.i64.wrap (s[m].hi + 1) = s[m].hi + 1 := wrap_i64 _ (by omega) (by omega)
   have hnx : cutA (A ++ s.take (m + 1)) = cutA (A ++ s.take m) ++ [s[m].lo, s[m].hi + 1] := by
    rw [List.take_succ_eq_append_getElem hlt2', ← List.append_assoc, cutA_snoc]
   have hcl := cutA_len (A ++ s.take m)
   rw [List.length_append, List.length_take] at hcl
   have ih2 := fun q' H' => ih' (m + 1, q', H')
   simp only [hnx] at ih2
   generalize cutA (A ++ s.take m) = acc at *
   repeat first|((first|refine qa tOk rfl ?_|refine qb tOk rfl ?_|refine qh rfl ?_);simp [hlt2', hw3])|refine qf ?_|refine qg ?_
   refine AStep_appendS tOk rfl rfl T40 rfl T3 rfl (by decide) (by decide) rfl rfl rfl ?_
   simp [get_app g'.arr, set_app g'.arr]
   refine ⟨by simp [appOk, get_app g'.arr, set_app g'.arr] <;> omega, ?_⟩
   repeat first|((first|refine qa tOk rfl ?_|refine qb tOk rfl ?_|refine qh rfl ?_);simp [hw2])|refine qf ?_|refine qg ?_
   refine ALoop_keep (sl' := [(0, LP l), (1, .i i), (5, .sl (H3.length + 2) 1 0 (acc.length + 2)), (11, LP l), (12, .i l.length), (13, .i j), (21, LIv s), (22, .i s.length), (23, .i (m + 1 : Nat))]) ?_ (by simp)
   have := ih2 (H3.length + 2) _ ⟨by omega, g'.put [AObj.vars [AV.i s[m].lo, AV.i s[m].hi], AObj.arr 3 1 [AV.i s[m].lo, AV.i (s[m].hi + 1)]] _ rfl⟩ (by omega)
   simpa using this
  ·have hge2' : m = s.length := by simp at hge2; omega
   subst hge2'
   rw [List.take_length] at g' ⊢
   repeat first|((first|refine qa tOk rfl ?_|refine qb tOk rfl ?_|refine qh rfl ?_);simp [hw])|refine qf ?_|refine qg ?_
   refine ALoop_keep (sl' := [(0, LP l), (1, .i i), (5, .sl q' 1 0 (cutA (A ++ s)).length), (11, LP l), (12, .i l.length), (13, .i (j + 1 : Nat))]) ?_ (by simp)
   have := ih (j + 1, q', H3) ⟨by omega, by rw [hst]; exact g'⟩ (by show l.length - (j + 1) < l.length - j; omega)
   rw [hst] at this
   exact this
 ·have hge' : j = l.length := by simp at hge; omega
  subst hge'
  rw [List.take_length] at g ⊢
  have hcl := cutA_len (setsAt l i)
  rw [← cutA_all]
  generalize cutA (setsAt l i) = acc at *
  repeat first|((first|refine qa tOk rfl ?_|refine qb tOk rfl ?_|refine qh rfl ?_);simp)|refine qf ?_|refine qg ?_
  refine AStep_FC rfl rfl (fc_SortInt H2 q acc g.arr (by omega)) rfl ?_
  rintro r H' ⟨rfl, rfl⟩
  simp
  repeat first|((first|refine qa tOk rfl ?_|refine qb tOk rfl ?_|refine qh rfl ?_);simp)|refine qf ?_|refine qg ?_
  have g2 := get_self g.arr (.arr 3 1 ((sortI acc).map (AV.int .i64)))
  have hsl := sortI_len acc
  rw [← hsl]
  refine AStep_FC rfl rfl (fc_CompactInt _ q (sortI acc) g2 (by omega) (compact_len _)) rfl ?_
  rintro r H' ⟨rfl, G, rfl⟩
  simp
  have g3 := get_self g.arr (.arr 3 1 ((Lib.compact (sortI acc) ++ G).map (AV.int .i64)))
  repeat first|((first|refine qa tOk rfl ?_|refine qb tOk rfl ?_|refine qh rfl ?_);simp)|refine qf ?_|refine qg ?_
  rw [List.map_append] at g3
  simp [g3]
end Go.Abs
set_option maxRecDepth 100000
namespace Go.Abs
open Go Go.Proofs
set_option linter.unusedSimpArgs false
attribute [simp] T234 T5 T9
def sb (b : Bool) : UInt8 := if b then 1 else 0
def sgB (bs : List Bool) : List UInt8 := bs.map sb
theorem sgB_inj : ∀ {a b : List Bool}, sgB a = sgB b → a = b
 | [], [], _ => rfl
 | [], _ :: _, h => by simp [sgB] at h
 | _ :: _, [], h => by simp [sgB] at h
 | x :: a, y :: b, h => by
  simp only [sgB, List.map_cons, List.cons.injEq] at h
  obtain ⟨h1, h2⟩ := h
  rw [sgB_inj (a := a) (b := b) h2]
  cases x <;> cases y <;> simp [sb] at h1 ⊢
theorem sgB_len (bs : List Bool) : (sgB bs).length = bs.length := by simp [sgB]
def sgJ (bs : List Bool) (j : Nat) : List AV := (sgB (bs.take j) ++ List.replicate (bs.length - j) 0).map byteAV
theorem sgJ_len {bs : List Bool} {j : Nat} (h : j ≤ bs.length) : (sgJ bs j).length = bs.length := by simp [sgJ, sgB]; omega
theorem sgJ_zero (bs : List Bool) : List.replicate bs.length (AV.int .u8 0) = sgJ bs 0 := by simp [sgJ, sgB]
theorem sgJ_all (bs : List Bool) : sgJ bs bs.length = (sgB bs).map byteAV := by simp [sgJ]
theorem sgJ_t {bs : List Bool} {j : Nat} (h : j < bs.length) (hb : bs[j] = true) : (sgJ bs j).set j (AV.int .u8 1) = sgJ bs (j + 1) := by
 have h1 : (sgB (bs.take j)).length = j := by simp [sgB]; omega
 have e : bs.length - j = (bs.length - (j + 1)) + 1 := by omega
 unfold sgJ
 rw [List.map_append, List.set_append_right (h := by simp [h1]), List.take_succ_eq_append_getElem h, e, List.replicate_succ]
 have hm : j - min j bs.length = 0 := by omega
 simp [h1, sgB, hb, sb, byteAV, hm]
theorem sgJ_get {bs : List Bool} {j : Nat} (h : j < bs.length) : (sgJ bs j)[j]? = some (AV.int .u8 0) := by
 have h1 : (sgB (bs.take j)).length = j := by simp [sgB]; omega
 unfold sgJ
 have e : bs.length - j = (bs.length - (j + 1)) + 1 := by omega
 rw [List.map_append, List.getElem?_append_right (by simp [h1]), e, List.replicate_succ]
 simp [h1]
theorem sgJ_f {bs : List Bool} {j : Nat} (h : j < bs.length) (hb : bs[j] = false) : sgJ bs j = sgJ bs (j + 1) := by
 have e : bs.length - j = (bs.length - (j + 1)) + 1 := by omega
 unfold sgJ
 rw [List.take_succ_eq_append_getElem h, e, List.replicate_succ]
 simp [sgB, hb, sb]
theorem sig_get {l : List Prd} {i j : Nat} (n : Int) (hj : j < l.length) (hi : i < l[j].length) (h : j < (sigP l i n).length) : (sigP l i n)[j] = hasR l[j][i] n := by
 simp [sigP, List.getD, hi]
attribute [local irreducible] sgJ sgB hasR sigP
set_option maxHeartbeats 4000000 in
theorem pc_signature (T : Nat) (l : List Prd) (i : Nat) (n : Int) (hi : i < T) (hT : T ≤ 16) (hl : ∀ p ∈ l, PCk T p) (hn : l.length ≤ 256) : PC Tryz.prog 169 [LP l, .i i, .i n] (fun r => r = .str (sgB (sigP l i n))) := by
 refine PC_body tOk Tryz.func169 rfl Tryz.results169 rfl (by simp [Tryz.ntmps169]) ?_
 rw [Tryz.ntmps169]
 simp only [argSlots]
 have hsl : (sigP l i n).length = l.length := by simp [sigP]
 repeat first|((first|refine qa tOk rfl ?_|refine qb tOk rfl ?_|refine qh rfl ?_);simp)|refine qf ?_|refine qg ?_
 refine AStep_makeSlice tOk rfl rfl rfl T234 rfl T5 rfl rfl rfl (n := l.length) (by simp; omega) (by unfold maxLen; omega) (.int .u8 0) rfl ?_
 simp
 rw [← hsl, sgJ_zero]
 repeat first|((first|refine qa tOk rfl ?_|refine qb tOk rfl ?_|refine qh rfl ?_);simp)|refine qf ?_|refine qg ?_
 refine AWP_loop (ALoop_keep (sl' := [(1, .i i), (2, .i n), (7, .sl 0 1 0 l.length), (15, LP l), (16, .i l.length), (17, .i (0 : Nat))]) ?_ (by simp [hsl]))
 refine ALoop_wf (F := fun (u : Nat × List AObj) => ⟨[(1, .i i), (2, .i n), (7, .sl 0 1 0 l.length), (15, LP l), (16, .i l.length), (17, .i u.1)], u.2⟩)
  (fun u => u.1 ≤ l.length ∧ u.2[0]? = some (.arr 5 1 (sgJ (sigP l i n) u.1))) (fun u => l.length - u.1) ?_ (0, _) ⟨by simp, rfl⟩
 rintro ⟨j, H2⟩ ⟨hj, g⟩ ih
 simp only at hj g ih ⊢
 have hjl := sgJ_len (bs := sigP l i n) (j := j) (by omega)
 repeat first|((first|refine qa tOk rfl ?_|refine qb tOk rfl ?_|refine qh rfl ?_);simp)|refine qf ?_|refine qg ?_
 refine AWP_cond2 rfl (fun hlt => ?_) (fun hge => ?_)
 ·have hlt' : j < l.length := by simpa using hlt
  have hw : IntKind.i64.wrap ((j : Int) + 1) = j + 1 := wrap_i64 _ (by omega) (by omega)
  have hp := hl _ (List.getElem_mem hlt')
  have hil : i < l[j].length := by rw [hp.1]; exact hi
  have hs := hp.2 _ (List.getElem_mem hil)
  have hgj := sig_get n hlt' hil (by omega)
  have hT := sgJ_t (bs := sigP l i n) (j := j) (by omega)
  have hF := sgJ_f (bs := sigP l i n) (j := j) (by omega)
  rw [hgj] at hT hF
  have hcon : conR l[j][i] n = (hasR l[j][i] n, 0) := by rw [conR, if_pos ((ck_iff _).2 hs)]
  have ih' := fun H' => ih (j + 1, H')
  simp only at ih'
  repeat first|((first|refine qa tOk rfl ?_|refine qb tOk rfl ?_|refine qh rfl ?_);simp [hlt', hil])|refine qf ?_|refine qg ?_
  refine AStep_PC rfl rfl (by simp) (pc_Contains l[j][i] n) rfl ?_
  rintro _ rfl
  simp
  rw [hcon]
  generalize hasR l[j][i] n = b at *
  repeat first|((first|refine qa tOk rfl ?_|refine qb tOk rfl ?_|refine qh rfl ?_);simp)|refine qf ?_|refine qg ?_
  have gL : ∀ L, (H2 ++ L)[0]? = some (.arr 5 1 (sgJ (sigP l i n) j)) := fun L => get_app g L
  cases b with
  | true =>
   rw [← hT rfl] at ih'
   clear hT hF
   refine AWP_cond2 rfl (fun _ => ?_) (fun h => by cases h)
   have hg0 := sgJ_get (bs := sigP l i n) (j := j) (by omega)
   have hg1 : ∀ hh, (sgJ (sigP l i n) j)[j]'hh = AV.int .u8 0 := fun hh => by rw [List.getElem?_eq_getElem hh] at hg0; exact Option.some.inj hg0
   have gL1 : ∀ L hh, (H2 ++ L)[0]'hh = .arr 5 1 (sgJ (sigP l i n) j) := fun L hh => by have := gL L; rw [List.getElem?_eq_getElem hh] at this; exact Option.some.inj this
   repeat first|((first|refine qa tOk rfl ?_|refine qb tOk rfl ?_|refine qh rfl ?_);simp [gL, gL1, hjl, hlt', hsl, hg0, hg1, hw])|refine qf ?_|refine qg ?_
   refine ALoop_keep (sl' := [(1, .i i), (2, .i n), (7, .sl 0 1 0 l.length), (15, LP l), (16, .i l.length), (17, .i (j + 1 : Nat))]) ?_ (by simp)
   exact ih' _ ⟨by omega, get_self (gL _) _⟩ (by omega)
  | false =>
   rw [← hF rfl] at ih'
   refine AWP_cond2 rfl (fun h => by cases h) (fun _ => ?_)
   repeat first|((first|refine qa tOk rfl ?_|refine qb tOk rfl ?_|refine qh rfl ?_);simp [hw])|refine qf ?_|refine qg ?_
   refine ALoop_keep (sl' := [(1, .i i), (2, .i n), (7, .sl 0 1 0 l.length), (15, LP l), (16, .i l.length), (17, .i (j + 1 : Nat))]) ?_ (by simp)
   exact ih' _ ⟨by omega, gL _⟩ (by omega)
 ·have hge' : j = l.length := by simp at hge; omega
  subst hge'
  have hall := sgJ_all (sigP l i n)
  rw [hsl] at hall
  rw [hall] at g hjl
  have hbl := sgB_len (sigP l i n)
  generalize sgB (sigP l i n) = s at *
  repeat first|((first|refine qa tOk rfl ?_|refine qb tOk rfl ?_|refine qh rfl ?_);simp)|refine qf ?_|refine qg ?_
  refine AStep_toStr tOk rfl rfl T234 rfl T5 rfl T9 rfl rfl (s := s) (by simp [g, hbl, hsl]; rw [List.take_of_length_le (by simp [hbl, hsl])]) rfl ?_
  simp
  repeat first|((first|refine qa tOk rfl ?_|refine qb tOk rfl ?_|refine qh rfl ?_);simp)|refine qf ?_|refine qg ?_
end Go.Abs
set_option maxRecDepth 100000
namespace Go.Abs
open Go Go.Proofs Go.RowKit Go.Shelf Go.Lib Go.Sort
set_option linter.unusedSimpArgs false
set_option maxHeartbeats 1000000 in
theorem calls_lessU (x y : Iv) (W : World) : Calls Tryz.prog 180 #[.agg #[.int .i64 x.lo, .int .i64 x.hi], .agg #[.int .i64 y.lo, .int .i64 y.hi]] W fun e w' => e = .returned (.int .i64 (Lib.compareInt x.lo y.lo)) ∧ ∃ q os', w' = grow (W.drewN q) os' := by
 have hcon := fun W' => Tryz.cmp_Compare_int x.lo y.lo W'
 generalize Lib.compareInt x.lo y.lo = r at hcon ⊢
 go_enter Tryz.func180, Tryz.ntmps180
 go_wp2_with (go_at_call 181; refine (hcon _).mono ?_; rintro e w' ⟨rfl, rfl⟩)
 go_ret
 exact ⟨rfl, 0, _, by rw [alloc_eq_grow, alloc_eq_grow, grow_grow]; rfl⟩
theorem fc_SortU (H : List AObj) (p : Nat) (l : List Iv) (hp : H[p]? = some (.arr 187 2 (l.map encIv))) (hl : l.length ≤ 1000000) :
  FC Tryz.prog 179 [.sl p 2 0 l.length, .fn (.func 180) [] []] H
   (fun r H' => r = .tup [] ∧ ∃ l' : List Iv, l'.Perm l ∧ byLo l' ∧ H' = H.set p (.arr 187 2 (l'.map encIv))) := by
 refine (FC_row (xs := l.map encIv) (callable Tryz.func179 rfl rfl) (by simp) hp (rowIv l) [.func (.func 180) #[] #[]] (fun w I m vs a b => rest_fn _ w I m _ vs a b) (fun xs' => ∃ l' : List Iv, l'.Perm l ∧ byLo l' ∧ xs' = l'.map encIv) ?_ ?_).mono ?_
 ·intro b cap w hH hb hc
  have eg : ∀ args w, (callFunc 180 args).run Tryz.prog w = .ok (.enter 180 args) w := enters_of Tryz.func180 (by kernel_rfl) rfl
  have := AnyQ.slices_SortFunc Tryz.sortIv 2 Tryz.isAgg187 Tryz.sizeOf187 valsIv (fun _ => rfl) (fun x v hv => by simp [valsIv] at hv; rcases hv with rfl | rfl <;> rfl) (fun x y => Lib.compareInt x.lo y.lo) swoLo 180 #[] b 0 cap l.toArray w eg (fun _ _ _ _ x y => calls_lessU x y _) hH hb (by simp; omega)
  change Calls Tryz.prog 179 _ _ _ at this
  rw [show (l.toArray).size = l.length by simp] at this
  refine Calls.mono (this) ?_
  rintro e w' ⟨rfl, d', n, os, h1, h2, rfl⟩
  obtain ⟨s1, _, s3⟩ := h1
  have hs : d'.toList.length = l.length := by simpa using s1
  refine ⟨rfl, d'.toList.map encIv, flatK valsIv 2 d', n, os, ⟨d'.toList, ?_, ?_, rfl⟩, by simp [hs], by simpa using rowIv d'.toList, rfl⟩
  ·rw [show d'.extract 0 l.length = d' by simp [← hs], show l.toArray.extract 0 l.length = l.toArray by simp] at s3
   simpa using s3
  ·refine List.pairwise_iff_getElem.2 fun i j hi hj hij => ?_
   have := h2 i j (Nat.zero_le _) hij (by omega)
   rw [ltLo, getElem!_pos d' i (by simpa using hi), getElem!_pos d' j (by simpa using hj)] at this
   simpa using this
 ·rintro h
  have hl0 : l = [] := by simpa using h
  subst hl0
  exact ⟨⟨[], .refl _, .nil, rfl⟩, fun w => AnyF.slices_SortFunc_none Tryz.sortIv none 0 _ w⟩
 ·rintro r H' ⟨rfl, xs', ⟨l', h1, h2, rfl⟩, rfl⟩
  exact ⟨rfl, l', h1, h2, rfl⟩
end Go.Abs
set_option maxRecDepth 100000
namespace Go.Abs
open Go Go.Proofs
set_option linter.unusedSimpArgs false
theorem norm_of_perm (l l' : List Iv) (hin : ∀ y ∈ l, y.lo ≤ y.hi) (hp : l'.Perm l) (hl : byLo l') : pushes [] l' = normR l :=
 pushes_perm l' (isortR l) [] (hp.trans (isort_spec l).1.symm) hl (isort_spec l).2 (fun y hy => hin y (hp.mem_iff.1 hy))
theorem SL.upd {K G : List AObj} {p e sz : Nat} {xs : List AV} (h : SL K G p e sz xs) (L : List AObj) (ys : List AV) : SL K (G.set p (.arr e sz ys) ++ L) p e sz ys := by
 have hp := (List.getElem?_eq_some_iff.1 h.arr).1
 have hge := h.ge
 refine ⟨by rw [List.getElem?_append_left (by simpa using hp)]; exact List.getElem?_set_self hp, hge, fun j hj => ?_⟩
 rw [List.getElem?_append_left (by simp; omega), List.getElem?_set_ne (by omega)]
 exact h.keep j hj
attribute [local irreducible] pushR pushes normR
set_option maxHeartbeats 4000000 in
theorem fc_united (H : List AObj) (q : Nat) (l : List Iv) (hq : H[q]? = some (.arr 187 2 (l.map encIv))) (hl : l.length ≤ 1000000) (hin : ∀ y ∈ l, ivIn y ∧ y.lo ≤ y.hi) :
  FC Tryz.prog 124 [.sl q 2 0 l.length] H (fun r H' => r = LIv (normR l) ∧ H.length ≤ H'.length ∧ ∀ i, i < H.length → i ≠ q → H'[i]? = H[i]?) := by
 refine FC_body tOk Tryz.func124 rfl Tryz.results124 rfl (by simp [Tryz.ntmps124]) ?_
 rw [Tryz.ntmps124]
 simp only [argSlots]
 repeat first|((first|refine qa tOk rfl ?_|refine qb tOk rfl ?_|refine qh rfl ?_);simp)|refine qf ?_|refine qg ?_
 refine AStep_FC rfl rfl (fc_SortU H q l hq hl) rfl ?_
 rintro r H' ⟨rfl, l', h1, h2, rfl⟩
 simp
 have hl' : l'.length ≤ 1000000 := by rw [h1.length_eq]; exact hl
 have hll := h1.length_eq
 have hin' : ∀ y ∈ l', ivIn y := fun y hy => (hin y (h1.mem_iff.1 hy)).1
 rw [← norm_of_perm l l' (fun y hy => (hin y hy).2) h1 h2, ← hll]
 have g0 := get_self hq (.arr 187 2 (l'.map encIv))
 have hkeep : ∀ i, i ≠ q → (H.set q (.arr 187 2 (l'.map encIv)))[i]? = H[i]? := fun i hi => List.getElem?_set_ne (fun e => hi e.symm)
 have hlen : (H.set q (.arr 187 2 (l'.map encIv))).length = H.length := by simp
 generalize H.set q (.arr 187 2 (l'.map encIv)) = H1 at *
 repeat first|((first|refine qa tOk rfl ?_|refine qb tOk rfl ?_|refine qh rfl ?_);simp)|refine qf ?_|refine qg ?_
 refine AWP_keep (sl' := [(2, .nils), (3, .nils), (9, .sl q 2 0 l'.length), (10, .i l'.length), (11, .i (0 : Nat))]) ?_ (by simp)
 refine AWP_freeze1 q g0 ?_
 simp
 rw [List.take_of_length_le (by simp)]
 have hkeep2 : ∀ i, i < H.length → i ≠ q → (H1.set q .dead)[i]? = H[i]? := fun i h1 h2 => by rw [List.getElem?_set_ne (fun e => h2 e.symm)]; exact hkeep i h2
 have hlen2 : (H1.set q .dead).length = H.length := by simp [hlen]
 generalize H1.set q .dead = K at *
 refine AWP_nilSlot 3 187 2 rfl ?_
 simp
 have hst := SL.start K 187 2
 refine AWP_loop (ALoop_keep (sl' := [(3, .sl K.length 2 0 (pushes [] (l'.take 0)).length), (9, LIv l'), (10, .i l'.length), (11, .i (0 : Nat))]) ?_ (by simp [hlen2, pushes]))
 refine ALoop_wf (F := fun (u : Nat × Nat × List AObj) => ⟨[(3, .sl u.2.1 2 0 (pushes [] (l'.take u.1)).length), (9, LIv l'), (10, .i l'.length), (11, .i u.1)], u.2.2⟩)
  (fun u => u.1 ≤ l'.length ∧ SL K u.2.2 u.2.1 187 2 ((pushes [] (l'.take u.1)).map encIv)) (fun u => l'.length - u.1) ?_ (0, K.length, _) ⟨by simp, by rw [List.take_zero, pushes, List.foldl_nil]; exact hst⟩
 rintro ⟨j, p, G⟩ ⟨hj, g⟩ ih
 simp only at hj g ih ⊢
 repeat first|((first|refine qa tOk rfl ?_|refine qb tOk rfl ?_|refine qh rfl ?_);simp)|refine qf ?_|refine qg ?_
 refine AWP_cond2 rfl (fun hlt => ?_) (fun hge => ?_)
 ·have hlt' : j < l'.length := by simpa using hlt
  have hw : IntKind.i64.wrap ((j : Int) + 1) = j + 1 := wrap_i64 _ (by omega) (by omega)
  have hnx : pushes [] (l'.take (j + 1)) = pushR (pushes [] (l'.take j)) l'[j] := by rw [List.take_succ_eq_append_getElem hlt', pushes_snoc]
  have hpl : (pushes [] (l'.take j)).length ≤ j := Nat.le_trans (pushes_len _ _) (by simp; omega)
  have hpin : ∀ y ∈ pushes [] (l'.take j), ivIn y := pushes_in _ _ (by simp) (fun y hy => hin' y (List.mem_of_mem_take hy))
  have ih' := fun p' G' => ih (j + 1, p', G')
  simp only [hnx] at ih'
  clear hnx
  generalize pushes [] (l'.take j) = acc at *
  generalize hx : l'[j] = x at *
  repeat first|((first|refine qa tOk rfl ?_|refine qb tOk rfl ?_|refine qh rfl ?_);simp [hlt', hx])|refine qf ?_|refine qg ?_
  rcases List.eq_nil_or_concat acc with rfl | ⟨ini, y, rfl⟩
  ·refine AWP_drawT tOk mixed [] (.val 0 (.val 1 (.val 2 (.val 3 (.val 4 (.val 5 (.val 6 (.val 7 (.val 8 (.val 9 (.val 10 (.val 11 (.val 12 (.val 13 (.done))))))))))))))) rfl (by kernel_rfl) ?_
   simp
   refine AWP_cond rfl ?_
   simp
   repeat first|((first|refine qa tOk rfl ?_|refine qb tOk rfl ?_|refine qh rfl ?_);simp)|refine qf ?_|refine qg ?_
   refine AStep_appendS tOk rfl rfl T171 rfl T187 rfl (by decide) (by decide) rfl rfl rfl ?_
   simp [get_app g.arr, set_app g.arr]
   refine ⟨by simp [appOk, get_app g.arr, set_app g.arr] <;> omega, ?_⟩
   repeat first|((first|refine qa tOk rfl ?_|refine qb tOk rfl ?_|refine qh rfl ?_);simp [hw])|refine qf ?_|refine qg ?_
   refine ALoop_keep (sl' := [(3, .sl (G.length + 2) 2 0 1), (9, LIv l'), (10, .i l'.length), (11, .i (j + 1 : Nat))]) ?_ (by simp)
   have := ih' (G.length + 2) _ ⟨by omega, by rw [pushR]; exact g.put [AObj.vars [AV.i x.lo, AV.i x.hi], AObj.arr 187 2 [encIv x]] _ rfl⟩ (by omega)
   rw [pushR] at this
   simpa using this
  ·have hy1 := (inB_iff _).1 (hpin y (by simp)).2
   have hwy : IntKind.i64.wrap (y.hi + 1) = y.hi + 1 := wrap_i64 _ (by omega) (by omega)
   have gA := g.arr
   rw [List.concat_eq_append] at g gA ih' hpl ⊢
   have hlen : (ini ++ [y]).length = ini.length + 1 := by simp
   rw [hlen] at hpl ⊢
   have hwn : IntKind.i64.wrap (ini.length : Int) = ini.length := wrap_i64 _ (by omega) (by omega)
   have hg : ((ini ++ [y]).map encIv)[ini.length]? = some (encIv y) := by simp
   have hlt2 : (ini.length : Int) < ini.length + 1 := by omega
   refine AWP_drawT tOk mixed [] (.val 0 (.val 1 (.val 2 (.val 3 (.val 4 (.val 5 (.val 6 (.val 7 (.val 8 (.val 9 (.val 10 (.val 11 (.val 12 (.val 13 (.done))))))))))))))) rfl (by kernel_rfl) ?_
   simp [get_app gA, hwn, hg, hwy, hlt2]
   refine AWP_cond2 rfl (fun h1 => ?_) (fun h1 => ?_)
   ·repeat first|((first|refine qa tOk rfl ?_|refine qb tOk rfl ?_|refine qh rfl ?_);simp)|refine qf ?_|refine qg ?_
    refine AWP_drawT tOk mixed [14] (.val 0 (.val 1 (.val 2 (.val 3 (.val 4 (.val 5 (.val 6 (.val 7 (.val 8 (.val 9 (.val 10 (.val 11 (.val 12 (.val 13 (.one 14 (.done)))))))))))))))) rfl (by kernel_rfl) ?_
    simp [get_app gA, hwn, hg, hwy, hlt2, set_app gA]
    repeat first|((first|refine qa tOk rfl ?_|refine qb tOk rfl ?_|refine qh rfl ?_);simp [hw])|refine qf ?_|refine qg ?_
    have hR : pushR (ini ++ [y]) x = ini ++ [⟨y.lo, if y.hi < x.hi then x.hi else y.hi⟩] := by
     rw [pushR_concat, if_pos (by simpa using h1)]
    rw [hR] at ih'
    refine ALoop_keep (sl' := [(3, .sl p 2 0 (ini.length + 1)), (9, LIv l'), (10, .i l'.length), (11, .i (j + 1 : Nat))]) ?_ (by simp)
    have := ih' p _ ⟨by omega, g.upd [AObj.vars [AV.i x.lo, AV.i x.hi]] _⟩ (by omega)
    simpa using this
   ·repeat first|((first|refine qa tOk rfl ?_|refine qb tOk rfl ?_|refine qh rfl ?_);simp)|refine qf ?_|refine qg ?_
    refine AStep_appendS tOk rfl rfl T171 rfl T187 rfl (by decide) (by decide) rfl rfl rfl ?_
    simp [get_app gA, set_app gA]
    refine ⟨by simp [appOk, get_app gA, set_app gA] <;> omega, ?_⟩
    repeat first|((first|refine qa tOk rfl ?_|refine qb tOk rfl ?_|refine qh rfl ?_);simp [hw])|refine qf ?_|refine qg ?_
    have hR : pushR (ini ++ [y]) x = ini ++ [y] ++ [x] := by
     rw [pushR_concat, if_neg (by simpa using h1)]
    rw [hR] at ih'
    refine ALoop_keep (sl' := [(3, .sl (G.length + 2) 2 0 (ini.length + 2)), (9, LIv l'), (10, .i l'.length), (11, .i (j + 1 : Nat))]) ?_ (by simp)
    have := ih' (G.length + 2) _ ⟨by omega, g.put [AObj.vars [AV.i x.lo, AV.i x.hi], AObj.arr 187 2 [encIv x]] _ rfl⟩ (by omega)
    simpa using this
 ·have hge' : j = l'.length := by simp at hge; omega
  subst hge'
  rw [List.take_length] at g ⊢
  refine AWP_freeze1 p g.arr ?_
  simp
  rw [List.take_of_length_le (by simp)]
  repeat first|((first|refine qa tOk rfl ?_|refine qb tOk rfl ?_|refine qh rfl ?_);simp)|refine qf ?_|refine qg ?_
  have hgl := (List.getElem?_eq_some_iff.1 g.arr).1
  have hge := g.ge
  refine ⟨by omega, fun i h1 h2 => ?_⟩
  rw [List.getElem?_set_ne (by omega), g.keep i (by omega)]
  exact hkeep2 i h1 h2
end Go.Abs
set_option maxRecDepth 100000
namespace Go.Abs
open Go Go.Proofs
set_option linter.unusedSimpArgs false
def rowU (F : Nat → List Iv) (T i : Nat) : List AV := (List.range T).map fun k => if k < i then encL (F k) else .nils
theorem rowU_len (F : Nat → List Iv) (T i : Nat) : (rowU F T i).length = T := by simp [rowU]
theorem rowU_zero (F : Nat → List Iv) (T : Nat) : List.replicate T AV.nils = rowU F T 0 := by
 refine List.ext_getElem (by simp [rowU]) fun k h1 h2 => by simp [rowU]
theorem rowU_get (F : Nat → List Iv) {T i : Nat} (h : i < T) : (rowU F T i)[i]? = some .nils := by simp [rowU, h]
theorem rowU_set (F : Nat → List Iv) {T i : Nat} (h : i < T) : (rowU F T i).set i (encL (F i)) = rowU F T (i + 1) := by
 refine List.ext_getElem (by simp [rowU]) fun k h1 h2 => ?_
 have hk : k < T := by simpa [rowU] using h2
 rw [List.getElem_set]
 by_cases e : i = k
 ·subst e; simp [rowU]
 ·rw [if_neg e]
  simp only [rowU, List.getElem_map, List.getElem_range]
  by_cases h3 : k < i
  ·rw [if_pos h3, if_pos (by omega)]
  ·rw [if_neg h3, if_neg (by omega)]
theorem rowU_all (F : Nat → List Iv) (T : Nat) : rowU F T T = ((List.range T).map F).map encL := by
 refine List.ext_getElem (by simp [rowU]) fun k h1 h2 => ?_
 have hk : k < T := by simpa [rowU] using h1
 simp [rowU, hk]
theorem rowU_pure (F : Nat → List Iv) (T : Nat) : (rowU F T T).all (fun x => x.cells.all AV.pure) = true := by
 rw [rowU_all, List.all_eq_true]
 intro x hx
 obtain ⟨s, _, rfl⟩ := List.mem_map.1 hx
 simp [AV.cells, AV.pure]
theorem setsAt_iv {T : Nat} {l : List Prd} (hl : ∀ p ∈ l, PWf T p) {i : Nat} {y : Iv} (hy : y ∈ setsAt l i) : ivIn y ∧ y.lo ≤ y.hi := by
 obtain ⟨p, hp, hx⟩ := mem_setsAt.1 hy
 by_cases hi : i < p.length
 ·rw [getD_len hi] at hx
  exact ⟨wf_in (hl p hp) (List.getElem_mem hi) y hx, ((hl p hp).2 _ (List.getElem_mem hi)).1.1 y hx⟩
 ·simp [List.getD, hi] at hx
theorem uniP_len (T : Nat) (l : List Prd) : (uniP T l).length = T := by simp [uniP]
attribute [local irreducible] normR setsAt uniP rowU
set_option maxHeartbeats 4000000 in
theorem pc_union (T : Nat) (l : List Prd) (hT : T ≤ 16) (hl : ∀ p ∈ l, PWf T p) (hn : ∀ i, i < T → (setsAt l i).length ≤ 1000000) (hll : l.length ≤ 1000000) : PC Tryz.prog 60 [.i T, LP l] (fun r => r = encP (uniP T l)) := by
 refine PC_body tOk Tryz.func60 rfl Tryz.results60 rfl (by simp [Tryz.ntmps60]) ?_
 rw [Tryz.ntmps60]
 simp only [argSlots]
 simp only [encP]
 repeat first|((first|refine qa tOk rfl ?_|refine qb tOk rfl ?_|refine qh rfl ?_);simp)|refine qf ?_|refine qg ?_
 refine AStep_makeSlice tOk rfl rfl rfl T74 rfl T171 rfl rfl rfl (n := T) (by simp; omega) (by unfold maxLen; omega) .nils rfl ?_
 simp
 repeat first|((first|refine qa tOk rfl ?_|refine qb tOk rfl ?_|refine qh rfl ?_);simp)|refine qf ?_|refine qg ?_
 rw [rowU_zero (fun k => normR (setsAt l k))]
 refine AWP_toVa 1 rfl ?_
 simp
 refine AWP_loop (ALoop_keep (sl' := [(0, .i T), (1, LP l), (4, .vptr 0 0), (5, .vptr 2 0), (12, .i T), (13, .i (0 : Nat))]) ?_ (by simp))
 refine ALoop_wf (F := fun (u : Nat × List AObj) => ⟨[(0, .i T), (1, LP l), (4, .vptr 0 0), (5, .vptr 2 0), (12, .i T), (13, .i u.1)], u.2⟩)
  (fun u => u.1 ≤ T ∧ 3 ≤ u.2.length ∧ u.2[0]? = some (.vars [.nils]) ∧ u.2[1]? = some (.va 171 1 (rowU (fun k => normR (setsAt l k)) T u.1)) ∧ u.2[2]? = some (.vars [.sl 1 1 0 T])) (fun u => T - u.1) ?_ (0, _) ⟨by simp, by simp, rfl, rfl, rfl⟩
 rintro ⟨i, H2⟩ ⟨hi, hH, g0, g1, g2⟩ ih
 simp only at hi hH g0 g1 g2 ih ⊢
 repeat first|((first|refine qa tOk rfl ?_|refine qb tOk rfl ?_|refine qh rfl ?_);simp)|refine qf ?_|refine qg ?_
 refine AWP_cond2 rfl (fun hlt => ?_) (fun hge => ?_)
 ·have hlt' : i < T := by simpa using hlt
  have hw : IntKind.i64.wrap ((i : Int) + 1) = i + 1 := wrap_i64 _ (by omega) (by omega)
  have hnx := rowU_set (fun k => normR (setsAt l k)) hlt'
  have hgt := rowU_get (fun k => normR (setsAt l k)) hlt'
  have hrl := rowU_len (fun k => normR (setsAt l k)) T i
  have hni := hn i hlt'
  have ih' := fun H' => ih (i + 1, H')
  simp only [← hnx] at ih'
  clear hnx
  generalize rowU (fun k => normR (setsAt l k)) T i = row at *
  repeat first|((first|refine qa tOk rfl ?_|refine qb tOk rfl ?_|refine qh rfl ?_);simp)|refine qf ?_|refine qg ?_
  refine AWP_nilVa 1 i 187 2 g1 hgt ?_
  refine AWP_loop (ALoop_keep (sl' := [(0, .i T), (1, LP l), (4, .vptr 0 0), (5, .vptr 2 0), (6, .i i), (12, .i T), (13, .i i), (16, LP l), (17, .i l.length), (18, .i (0 : Nat))]) ?_ (by simp))
  refine ALoop_wf (F := fun (u : Nat × Nat × List AObj) => ⟨[(0, .i T), (1, LP l), (4, .vptr 0 0), (5, .vptr 2 0), (6, .i i), (12, .i T), (13, .i i), (16, LP l), (17, .i l.length), (18, .i u.1)], u.2.2⟩)
   (fun u => u.1 ≤ l.length ∧ 3 ≤ u.2.1 ∧ u.2.2[0]? = some (.vars [.nils]) ∧ u.2.2[1]? = some (.va 171 1 (row.set i (.sl u.2.1 2 0 (setsAt (l.take u.1) i).length))) ∧ u.2.2[2]? = some (.vars [.sl 1 1 0 T]) ∧ u.2.2[u.2.1]? = some (.arr 187 2 ((setsAt (l.take u.1) i).map encIv))) (fun u => l.length - u.1) ?_
   (0, H2.length, _) ⟨by simp, hH, get_set (by decide) (get_app g0 _) _, by rw [List.take_zero, setsAt_nil]; exact get_self (get_app g1 _) _, get_set (by decide) (get_app g2 _) _, by rw [List.take_zero, setsAt_nil]; simp only; rw [List.getElem?_set_ne (i := 1) (j := H2.length) (by omega)]; simp⟩
  rintro ⟨j, q, G⟩ ⟨hj, hq3, k0, k1, k2, k3⟩ ih2
  simp only at hj hq3 k0 k1 k2 k3 ih2 ⊢
  repeat first|((first|refine qa tOk rfl ?_|refine qb tOk rfl ?_|refine qh rfl ?_);simp)|refine qf ?_|refine qg ?_
  refine AWP_cond2 rfl (fun hlt2 => ?_) (fun hge2 => ?_)
  ·have hlt2' : j < l.length := by simpa using hlt2
   have hw2 : IntKind.i64.wrap ((j : Int) + 1) = j + 1 := wrap_i64 _ (by omega) (by omega)
   have hp := hl _ (List.getElem_mem hlt2')
   have hil : i < l[j].length := by rw [hp.1]; exact hlt'
   have hst := setsAt_take hlt2' hil
   have hsub : (setsAt (l.take (j + 1)) i).length ≤ 1000000 := by
    refine Nat.le_trans ?_ hni
    unfold setsAt
    rw [← List.take_append_drop (j + 1) l, List.flatMap_append, List.length_append, List.take_append_drop]
    omega
   rw [hst, List.length_append] at hsub
   have ih2' := fun q' G' => ih2 (j + 1, q', G')
   simp only [hst] at ih2'
   clear hst
   repeat first|((first|refine qa tOk rfl ?_|refine qb tOk rfl ?_|refine qh rfl ?_);simp [hlt2', hil])|refine qf ?_|refine qg ?_
   generalize hs : l[j][i] = s at *
   generalize setsAt (l.take j) i = acc at *
   refine AWP_drawT tOk mixed [13, 15] (.val 0 (.val 2 (.val 3 (.val 4 (.val 5 (.val 6 (.val 7 (.val 8 (.val 9 (.val 10 (.val 11 (.val 12 (.two 1 (.one 13 (.val 14 (.one 15 (.done)))) 13 (.val 1 (.val 14 (.one 15 (.done))))))))))))))))) rfl (by kernel_rfl) ?_
   simp [get_app k1, get_app k2, hlt', hil, hlt2', hs, hrl]
   have hq0 : q ≠ 0 := by omega
   have hq1 : q ≠ 1 := by omega
   have hq2 : q ≠ 2 := by omega
   have hql := (List.getElem?_eq_some_iff.1 k3).1
   have m0 : ∀ L, (G.set q .dead ++ L)[0]? = some (AObj.vars [AV.nils]) := fun L => get_app (get_set hq0 k0 _) L
   have m1 : ∀ L, (G.set q .dead ++ L)[1]? = some (.va 171 1 (row.set i (.sl q 2 0 acc.length))) := fun L => get_app (get_set hq1 k1 _) L
   have m1' : ∀ L hh, (G.set q .dead ++ L)[1]'hh = .va 171 1 (row.set i (.sl q 2 0 acc.length)) := fun L hh => by have := m1 L; rw [List.getElem?_eq_getElem hh] at this; exact Option.some.inj this
   have m2 : ∀ L, (G.set q .dead ++ L)[2]? = some (AObj.vars [AV.sl 1 1 0 T]) := fun L => get_app (get_set hq2 k2 _) L
   have n2 : ∀ L, (G ++ L)[2]? = some (AObj.vars [AV.sl 1 1 0 T]) := fun L => get_app k2 L
   refine ⟨?_, ?_⟩
   ·refine AStep_appendS tOk rfl rfl T171 rfl T187 rfl (by decide) (by decide) rfl rfl rfl ?_
    simp [get_app k3, set_app k3, m0, m1, m1', m2, n2, hlt', hrl]
    refine ⟨by simp [appOk, get_app k3, set_app k3, m0, m1, m1', m2, n2, hlt', hrl] <;> omega, ?_⟩
    repeat first|((first|refine qa tOk rfl ?_|refine qb tOk rfl ?_|refine qh rfl ?_);simp [hw2])|refine qf ?_|refine qg ?_
    refine ALoop_keep (sl' := [(0, .i T), (1, LP l), (4, .vptr 0 0), (5, .vptr 2 0), (6, .i i), (12, .i T), (13, .i i), (16, LP l), (17, .i l.length), (18, .i (j + 1 : Nat))]) ?_ (by simp)
    refine ih2' (G.length + 1) _ ⟨by omega, by omega, get_set (by decide) (m0 _) _, ?_, get_set (by decide) (m2 _) _, ?_⟩ (by omega)
    ·rw [get_self (m1 _) _]; simp
    ·rw [List.getElem?_set_ne (by omega), List.getElem?_append_right (by simp)]; simp
   ·refine AStep_appendS tOk rfl rfl T171 rfl T187 rfl (by decide) (by decide) rfl rfl rfl ?_
    simp [get_app k3, set_app k3, m0, m1, m1', m2, n2, hlt', hrl]
    refine ⟨by simp [appOk, get_app k3, set_app k3, m0, m1, m1', m2, n2, hlt', hrl] <;> omega, ?_⟩
    repeat first|((first|refine qa tOk rfl ?_|refine qb tOk rfl ?_|refine qh rfl ?_);simp [hw2])|refine qf ?_|refine qg ?_
    refine ALoop_keep (sl' := [(0, .i T), (1, LP l), (4, .vptr 0 0), (5, .vptr 2 0), (6, .i i), (12, .i T), (13, .i i), (16, LP l), (17, .i l.length), (18, .i (j + 1 : Nat))]) ?_ (by simp)
    refine ih2' (G.length + 1) _ ⟨by omega, by omega, get_set (by decide) (m0 _) _, ?_, get_set (by decide) (m2 _) _, ?_⟩ (by omega)
    ·rw [get_self (m1 _) _]; simp
    ·rw [List.getElem?_set_ne (by omega), List.getElem?_append_right (by simp)]; simp
  ·have hge2' : j = l.length := by simp at hge2; omega
   subst hge2'
   rw [List.take_length] at k1 k3
   have hin : ∀ y ∈ setsAt l i, ivIn y ∧ y.lo ≤ y.hi := fun y hy => setsAt_iv hl hy
   have k2' : ∀ L, (G ++ L)[2]? = some (AObj.vars [AV.sl 1 1 0 T]) := fun L => get_app k2 L
   have k1' : ∀ hh, G[1]'hh = .va 171 1 (row.set i (.sl q 2 0 (setsAt l i).length)) := fun hh => by rw [List.getElem?_eq_getElem hh] at k1; exact Option.some.inj k1
   repeat first|((first|refine qa tOk rfl ?_|refine qb tOk rfl ?_|refine qh rfl ?_);simp)|refine qf ?_|refine qg ?_
   refine AWP_drawT tOk mixed [8, 10] (.val 0 (.val 2 (.val 3 (.val 4 (.val 5 (.val 6 (.val 7 (.two 1 (.one 8 (.val 9 (.one 10 (.done)))) 8 (.val 1 (.val 9 (.one 10 (.done)))))))))))) rfl (by kernel_rfl) ?_
   simp [k1, k1', k2, hlt', hrl]
   refine ⟨?_, ?_⟩
   ·refine AStep_FC rfl rfl (fc_united G q (setsAt l i) k3 hni hin) rfl ?_
    rintro r H' ⟨rfl, hl', hk'⟩
    have hGl := (List.getElem?_eq_some_iff.1 k2).1
    have u0 := (hk' 0 (by omega) (by omega)).trans k0
    have u1 := (hk' 1 (by omega) (by omega)).trans k1
    have u2 := (hk' 2 (by omega) (by omega)).trans k2
    have u1' : ∀ hh, H'[1]'hh = .va 171 1 (row.set i (.sl q 2 0 (setsAt l i).length)) := fun hh => by rw [List.getElem?_eq_getElem hh] at u1; exact Option.some.inj u1
    simp [u1, u1', u2, hlt', hrl]
    repeat first|((first|refine qa tOk rfl ?_|refine qb tOk rfl ?_|refine qh rfl ?_);simp [hw])|refine qf ?_|refine qg ?_
    refine ALoop_keep (sl' := [(0, .i T), (1, LP l), (4, .vptr 0 0), (5, .vptr 2 0), (12, .i T), (13, .i (i + 1 : Nat))]) ?_ (by simp)
    exact ih' _ ⟨by omega, by simp; omega, get_set (by decide) u0 _, get_self u1 _, get_set (by decide) u2 _⟩ (by omega)
   ·refine AStep_FC rfl rfl (fc_united G q (setsAt l i) k3 hni hin) rfl ?_
    rintro r H' ⟨rfl, hl', hk'⟩
    have hGl := (List.getElem?_eq_some_iff.1 k2).1
    have u0 := (hk' 0 (by omega) (by omega)).trans k0
    have u1 := (hk' 1 (by omega) (by omega)).trans k1
    have u2 := (hk' 2 (by omega) (by omega)).trans k2
    have u1' : ∀ hh, H'[1]'hh = .va 171 1 (row.set i (.sl q 2 0 (setsAt l i).length)) := fun hh => by rw [List.getElem?_eq_getElem hh] at u1; exact Option.some.inj u1
    simp [u1, u1', u2, hlt', hrl]
    repeat first|((first|refine qa tOk rfl ?_|refine qb tOk rfl ?_|refine qh rfl ?_);simp [hw])|refine qf ?_|refine qg ?_
    refine ALoop_keep (sl' := [(0, .i T), (1, LP l), (4, .vptr 0 0), (5, .vptr 2 0), (12, .i T), (13, .i (i + 1 : Nat))]) ?_ (by simp)
    exact ih' _ ⟨by omega, by simp; omega, get_set (by decide) u0 _, get_self u1 _, get_set (by decide) u2 _⟩ (by omega)
 ·have hge' : i = T := by simp at hge; omega
  subst hge'
  refine AWP_toArr 1 g1 (rowU_pure _ _) ?_
  rw [rowU_all] at *
  have hun : (List.range i).map (fun k => normR (setsAt l k)) = uniP i l := by unfold uniP; rfl
  rw [hun] at *
  refine AWP_freezeC 1 (get_self g1 _) 2 (get_set (by decide) g2 _) ?_
  have hul := uniP_len i l
  have e0 : ∀ Y, ((H2.set 1 AObj.dead).set 2 Y)[0]? = some (AObj.vars [AV.nils]) := fun Y => get_set (by decide) (get_set (by decide) g0 _) _
  have e0' : ∀ Y hh, ((H2.set 1 AObj.dead).set 2 Y)[0]'hh = AObj.vars [AV.nils] := fun Y hh => by have := e0 Y; rw [List.getElem?_eq_getElem hh] at this; exact Option.some.inj this
  have e2 : ∀ Y, ((H2.set 1 AObj.dead).set 2 Y)[2]? = some Y := fun Y => get_self (get_set (by decide) g2 _) _
  have e3 : ∀ Y Z, (((H2.set 1 AObj.dead).set 2 Y).set 0 Z)[0]? = some Z := fun Y Z => get_self (e0 Y) _
  simp [hul]
  rw [List.take_of_length_le (by simp [hul])]
  repeat first|((first|refine qa tOk rfl ?_|refine qb tOk rfl ?_|refine qh rfl ?_);simp [e0, e0', e2, e3])|refine qf ?_|refine qg ?_
end Go.Abs
set_option maxRecDepth 100000
namespace Go.Abs
open Go Go.Proofs
set_option linter.unusedSimpArgs false
theorem GL.keepAll {K G G' : List AObj} {S p : Nat} {pre post : List AV} {e sz : Nat} {xs : List AV} (h : GL K G S p pre post e sz xs) (hk : ∀ j, j < G.length → G'[j]? = G[j]?) (hl : G.length ≤ G'.length) : GL K G' S p pre post e sz xs := by
 have h1 := h.len
 have h2 := h.lt
 have h3 := (List.getElem?_eq_some_iff.1 h.arr).1
 exact ⟨(hk _ (by omega)).trans h.cell, (hk _ h3).trans h.arr, h.ge, h.lt, by omega, fun j hj hne => (hk j (by omega)).trans (h.keep j hj hne)⟩
theorem SL.le {K G : List AObj} {p e sz : Nat} {xs : List AV} (h : SL K G p e sz xs) : K.length ≤ G.length := by
 have := (List.getElem?_eq_some_iff.1 h.arr).1
 have := h.ge
 omega
attribute [local irreducible] upL gapsR gapFrom
set_option maxHeartbeats 4000000 in
theorem pc_drest (T : Nat) (p : Prd) (hp : PWf T p) (hl : ∀ s ∈ p, s.length ≤ 1000000) (hT : T ≤ 1000) : PC Tryz.prog 131 [encP p] (fun r => r = encP (restP p)) := by
 refine PC_body tOk Tryz.func131 rfl Tryz.results131 rfl (by simp [Tryz.ntmps131]) ?_
 rw [Tryz.ntmps131]
 simp only [argSlots]
 simp only [encP]
 have hlen := hp.1
 repeat first|((first|refine qa tOk rfl ?_|refine qb tOk rfl ?_|refine qh rfl ?_);simp)|refine qf ?_|refine qg ?_
 refine AWP_nilCell 2 0 171 1 rfl rfl ?_
 simp
 obtain ⟨K, hK⟩ : ∃ K, K = [AObj.vars [.list (p.map encL)], AObj.vars [AV.nils], AObj.vars [AV.nils]] := ⟨_, rfl⟩
 have hst := GL.start (K := K) (S := 2) [] [] 171 1 (by rw [hK]; simp)
 refine AWP_loop (ALoop_keep (sl' := [(2, .vptr 1 0), (3, .vptr 2 0), (11, .list (p.map encL)), (12, .i p.length), (13, .i 0)]) ?_ (by simp))
 refine ALoop_wf (F := fun (u : Nat × Nat × List AObj) => ⟨[(2, .vptr 1 0), (3, .vptr 2 0), (11, .list (p.map encL)), (12, .i p.length), (13, .i u.1)], u.2.2⟩)
  (fun u => u.1 ≤ p.length ∧ GL K u.2.2 2 u.2.1 [] [] 171 1 (upL (fun i => gapsR (p.getD i [])) u.1)) (fun u => p.length - u.1) ?_ (0, K.length, _) ⟨by simp, by rw [upL_zero, hK] at *; exact hst⟩
 rintro ⟨j, q, H2⟩ ⟨hj, g⟩ ih
 simp only at hj g ih ⊢
 repeat first|((first|refine qa tOk rfl ?_|refine qb tOk rfl ?_|refine qh rfl ?_);simp)|refine qf ?_|refine qg ?_
 refine AWP_cond2 rfl (fun hlt => ?_) (fun hge => ?_)
 ·have hlt' : j < p.length := by simpa using hlt
  have hw : IntKind.i64.wrap ((j : Int) + 1) = j + 1 := wrap_i64 _ (by omega) (by omega)
  have hs := hp.2 _ (List.getElem_mem hlt')
  have hsl := hl _ (List.getElem_mem hlt')
  have hgl := (gaps_wf hs.1 hs.2).2.2
  have hnx : upL (fun i => gapsR (p.getD i [])) j ++ [encL (gapsR p[j])] = upL (fun i => gapsR (p.getD i [])) (j + 1) := by rw [upL_succ, getD_len hlt']
  have hul := upL_len (fun i => gapsR (p.getD i [])) j
  have ihn := fun q' H' => ih (j + 1, q', H')
  simp only [← hnx] at ihn
  clear hnx
  generalize upL (fun i => gapsR (p.getD i [])) j = done at *
  repeat first|((first|refine qa tOk rfl ?_|refine qb tOk rfl ?_|refine qh rfl ?_);simp [hlt'])|refine qf ?_|refine qg ?_
  generalize p[j] = l at *
  obtain ⟨hs1, hb⟩ := hs
  refine AWP_nilSlot 6 187 2 rfl ?_
  simp
  have hst2 := SL.start H2 187 2
  refine AWP_loop (ALoop_keep (sl' := [(2, .vptr 1 0), (3, .vptr 2 0), (6, .sl H2.length 2 0 0), (7, .i (-1099511627776)), (11, .list (p.map encL)), (12, .i p.length), (13, .i j), (17, LIv l), (18, .i l.length), (19, .i (0 : Nat))]) ?_ (by simp))
  refine ALoop_wf (F := fun (u : Nat × Nat × List Iv × Int × List AObj) => ⟨[(2, .vptr 1 0), (3, .vptr 2 0), (6, .sl u.2.1 2 0 u.2.2.1.length), (7, .i u.2.2.2.1), (11, .list (p.map encL)), (12, .i p.length), (13, .i j), (17, LIv l), (18, .i l.length), (19, .i u.1)], u.2.2.2.2⟩)
   (fun u => u.1 ≤ l.length ∧ SL H2 u.2.2.2.2 u.2.1 187 2 (u.2.2.1.map encIv) ∧ u.2.2.1 ++ gapFrom (l.drop u.1) u.2.2.2.1 = gapsR l) (fun u => l.length - u.1) ?_ (0, H2.length, [], -1099511627776, _) ⟨by simp, hst2, by simp [gaps_def]⟩
  rintro ⟨k, p2, acc, n, G⟩ ⟨hk, s1, g2⟩ ih2
  simp only at hk s1 g2 ih2 ⊢
  have hal : acc.length ≤ 1000001 := by have := congrArg List.length g2; simp only [List.length_append] at this; omega
  repeat first|((first|refine qa tOk rfl ?_|refine qb tOk rfl ?_|refine qh rfl ?_);simp)|refine qf ?_|refine qg ?_
  refine AWP_cond2 rfl (fun hlt2 => ?_) (fun hge2 => ?_)
  ·have hlt2' : k < l.length := by simpa using hlt2
   have hv1 := hb _ ⟨l[k], List.getElem_mem hlt2', Int.le_refl _, hs1.1 _ (List.getElem_mem hlt2')⟩
   have hv2 := hb _ ⟨l[k], List.getElem_mem hlt2', hs1.1 _ (List.getElem_mem hlt2'), Int.le_refl _⟩
   unfold inR at hv1 hv2
   have hw0 : IntKind.i64.wrap ((k : Int) + 1) = k + 1 := wrap_i64 _ (by omega) (by omega)
   have hw1 : IntKind.i64.wrap (l[k].lo - 1) = l[k].lo - 1 := wrap_i64 _ (by omega) (by omega)
   have hw2 : IntKind.i64.wrap (l[k].hi + 1) = l[k].hi + 1 := wrap_i64 _ (by omega) (by omega)
   rw [drop_get hlt2', gapFrom_cons'] at g2
   repeat first|((first|refine qa tOk rfl ?_|refine qb tOk rfl ?_|refine qh rfl ?_);simp [hlt2'])|refine qf ?_|refine qg ?_
   refine AWP_cond2 rfl (fun h3 => ?_) (fun h3 => ?_)
   ·rw [if_pos (by simpa using h3)] at g2
    repeat first|((first|refine qa tOk rfl ?_|refine qb tOk rfl ?_|refine qh rfl ?_);simp [hlt2', hw1])|refine qf ?_|refine qg ?_
    refine AStep_appendS tOk rfl rfl T171 rfl T187 rfl (by decide) (by decide) rfl rfl rfl ?_
    simp [get_app s1.arr, set_app s1.arr]
    refine ⟨by simp [appOk, get_app s1.arr, set_app s1.arr] <;> omega, ?_⟩
    repeat first|((first|refine qa tOk rfl ?_|refine qb tOk rfl ?_|refine qh rfl ?_);simp [hlt2', hw0, hw2])|refine qf ?_|refine qg ?_
    refine ALoop_keep (sl' := [(2, .vptr 1 0), (3, .vptr 2 0), (6, .sl (G.length + 2) 2 0 (acc.length + 1)), (7, .i (l[k].hi + 1)), (11, .list (p.map encL)), (12, .i p.length), (13, .i j), (17, LIv l), (18, .i l.length), (19, .i (k + 1 : Nat))]) ?_ (by simp)
    have := ih2 (k + 1, G.length + 2, acc ++ [(⟨n, l[k].lo - 1⟩ : Iv)], l[k].hi + 1, _) ⟨by simp; omega, s1.put [AObj.vars [AV.i l[k].lo, AV.i l[k].hi], .arr 187 2 [encIv (⟨n, l[k].lo - 1⟩ : Iv)]] ((acc ++ [(⟨n, l[k].lo - 1⟩ : Iv)]).map encIv) rfl, by simpa using g2⟩ (by simp; omega)
    simpa using this
   ·rw [if_neg (by simpa using h3)] at g2
    repeat first|((first|refine qa tOk rfl ?_|refine qb tOk rfl ?_|refine qh rfl ?_);simp [hlt2', hw0, hw2])|refine qf ?_|refine qg ?_
    refine ALoop_keep (sl' := [(2, .vptr 1 0), (3, .vptr 2 0), (6, .sl p2 2 0 acc.length), (7, .i (l[k].hi + 1)), (11, .list (p.map encL)), (12, .i p.length), (13, .i j), (17, LIv l), (18, .i l.length), (19, .i (k + 1 : Nat))]) ?_ (by simp)
    have := ih2 (k + 1, p2, acc, l[k].hi + 1, _) ⟨by simp; omega, s1.add [AObj.vars [AV.i l[k].lo, AV.i l[k].hi]], by simpa using g2⟩ (by simp; omega)
    simpa using this
  ·have hge2' : k = l.length := by simp at hge2; omega
   subst hge2'
   rw [List.drop_length, gapFrom_nil'] at g2
   repeat first|((first|refine qa tOk rfl ?_|refine qb tOk rfl ?_|refine qh rfl ?_);simp)|refine qf ?_|refine qg ?_
   refine AWP_cond2 rfl (fun h3 => ?_) (fun h3 => ?_)
   ·rw [if_pos (by simpa using h3)] at g2
    repeat first|((first|refine qa tOk rfl ?_|refine qb tOk rfl ?_|refine qh rfl ?_);simp)|refine qf ?_|refine qg ?_
    refine AStep_appendS tOk rfl rfl T171 rfl T187 rfl (by decide) (by decide) rfl rfl rfl ?_
    simp [get_app s1.arr, set_app s1.arr]
    refine ⟨by simp [appOk, get_app s1.arr, set_app s1.arr] <;> omega, ?_⟩
    have s2 := s1.put [.arr 187 2 [encIv (⟨n, 1099511627776⟩ : Iv)]] ((acc ++ [(⟨n, 1099511627776⟩ : Iv)]).map encIv) rfl
    have e1 : (acc ++ [(⟨n, 1099511627776⟩ : Iv)]).length = acc.length + 1 := by simp
    rw [g2] at s2 e1
    rw [← e1]
    have e2 : acc.map encIv ++ [AV.agg [AV.int IntKind.i64 n, AV.int IntKind.i64 1099511627776]] = (gapsR l).map encIv := by rw [← g2]; simp
    rw [e2]
    refine AWP_keep (sl' := [(2, .vptr 1 0), (3, .vptr 2 0), (6, .sl (G.length + 1) 2 0 (gapsR l).length), (11, .list (p.map encL)), (12, .i p.length), (13, .i j)]) ?_ (by simp)
    generalize hGE : G.set p2 AObj.dead ++ [AObj.arr 187 2 [AV.agg [AV.int IntKind.i64 n, AV.int IntKind.i64 1099511627776]], AObj.arr 187 2 ((gapsR l).map encIv)] = GE
    have s3 : SL H2 GE (G.length + 1) 187 2 ((gapsR l).map encIv) := by rw [← hGE]; simpa using s2
    clear s1 s2 hGE
    refine AWP_freeze1 (G.length + 1) s3.arr ?_
    simp
    rw [List.take_of_length_le (by simp)]
    have hpe := (List.getElem?_eq_some_iff.1 s3.arr).1
    have hpg := s3.ge
    have g' := g.keepAll (G' := GE.set (G.length + 1) .dead) (fun j hj => by rw [List.getElem?_set_ne (by omega)]; exact s3.keep j hj) (by simp; have := s3.le; omega)
    generalize GE.set (G.length + 1) .dead = E at *
    have c2 := g'.cell
    have c3 := g'.arr
    rw [hul] at c2
    simp only [List.nil_append] at c2
    have hc2 : ∀ L : List AObj, (E.set q .dead ++ L)[2]? = some (AObj.vars [AV.sl q 1 0 j]) := fun L => by have := g'.at L; rw [hul] at this; exact this
    have hput := fun A y => g'.put A y hul.symm
    repeat first|((first|refine qa tOk rfl ?_|refine qb tOk rfl ?_|refine qh rfl ?_);simp [c2])|refine qf ?_|refine qg ?_
    refine AStep_appendS tOk rfl rfl T74 rfl T171 rfl (by decide) (by decide) rfl rfl rfl ?_
    simp [get_app c3, set_app c3, hul, hc2]
    refine ⟨by simp [appOk, get_app c3, set_app c3, hul, hc2] <;> omega, ?_⟩
    repeat first|((first|refine qa tOk rfl ?_|refine qb tOk rfl ?_|refine qh rfl ?_);simp [c2, hw, hc2])|refine qf ?_|refine qg ?_
    refine ALoop_keep (sl' := [(2, .vptr 1 0), (3, .vptr 2 0), (11, .list (p.map encL)), (12, .i p.length), (13, .i (j + 1 : Nat))]) ?_ (by simp)
    exact ihn (E.length + 1) _ ⟨by omega, hput _ _⟩ (by omega)
   ·rw [if_neg (by simpa using h3), List.append_nil] at g2
    subst g2
    refine AWP_keep (sl' := [(2, .vptr 1 0), (3, .vptr 2 0), (6, .sl p2 2 0 (gapsR l).length), (11, .list (p.map encL)), (12, .i p.length), (13, .i j)]) ?_ (by simp)
    have s3 := s1
    clear s1
    generalize hGE : G = GE at *
    refine AWP_freeze1 p2 s3.arr ?_
    simp
    rw [List.take_of_length_le (by simp)]
    have hpe := (List.getElem?_eq_some_iff.1 s3.arr).1
    have hpg := s3.ge
    have g' := g.keepAll (G' := GE.set p2 .dead) (fun j hj => by rw [List.getElem?_set_ne (by omega)]; exact s3.keep j hj) (by simp; have := s3.le; omega)
    generalize GE.set p2 .dead = E at *
    have c2 := g'.cell
    have c3 := g'.arr
    rw [hul] at c2
    simp only [List.nil_append] at c2
    have hc2 : ∀ L : List AObj, (E.set q .dead ++ L)[2]? = some (AObj.vars [AV.sl q 1 0 j]) := fun L => by have := g'.at L; rw [hul] at this; exact this
    have hput := fun A y => g'.put A y hul.symm
    repeat first|((first|refine qa tOk rfl ?_|refine qb tOk rfl ?_|refine qh rfl ?_);simp [c2])|refine qf ?_|refine qg ?_
    refine AStep_appendS tOk rfl rfl T74 rfl T171 rfl (by decide) (by decide) rfl rfl rfl ?_
    simp [get_app c3, set_app c3, hul, hc2]
    refine ⟨by simp [appOk, get_app c3, set_app c3, hul, hc2] <;> omega, ?_⟩
    repeat first|((first|refine qa tOk rfl ?_|refine qb tOk rfl ?_|refine qh rfl ?_);simp [c2, hw, hc2])|refine qf ?_|refine qg ?_
    refine ALoop_keep (sl' := [(2, .vptr 1 0), (3, .vptr 2 0), (11, .list (p.map encL)), (12, .i p.length), (13, .i (j + 1 : Nat))]) ?_ (by simp)
    exact ihn (E.length + 1) _ ⟨by omega, hput _ _⟩ (by omega)
 ·have hge' : j = p.length := by simp at hge; omega
  subst hge'
  have g2 := g.cell
  have g3 := g.arr
  rw [upL_len] at g2
  simp only [List.nil_append] at g2
  have gR : H2[1]? = some (AObj.vars [AV.nils]) := g.kp (by decide) (by rw [hK]; rfl)
  have hS := (List.getElem?_eq_some_iff.1 g2).1
  have hne : q ≠ 1 ∧ q ≠ 2 := by have := g.ge; rw [hK] at this; simp at this; omega
  have hul := upL_len (fun i => gapsR (p.getD i [])) p.length
  have hres : .list (upL (fun i => gapsR (p.getD i [])) p.length) = AV.list ((restP p).map encL) := by
   rw [upL_all, range_getD]; rfl
  generalize upL (fun i => gapsR (p.getD i [])) p.length = xs at *
  refine AWP_freezeC q g3 2 g2 ?_
  have k1 : ∀ X, ((H2.set q .dead).set 2 X)[1]? = some (AObj.vars [AV.nils]) := fun X => get_set (by decide) (get_set hne.1 gR _) _
  have k1' : ∀ X hh, ((H2.set q .dead).set 2 X)[1]'hh = AObj.vars [AV.nils] := fun X hh => by have := k1 X; rw [List.getElem?_eq_getElem hh] at this; exact Option.some.inj this
  have k2 : ∀ X, ((H2.set q .dead).set 2 X)[2]? = some X := fun X => List.getElem?_set_self (by simpa using hS)
  have k3 : ∀ X Y, (((H2.set q .dead).set 2 X).set 1 Y)[1]? = some Y := fun X Y => get_self (k1 X) _
  simp [hul]
  rw [List.take_of_length_le (by omega)]
  repeat first|((first|refine qa tOk rfl ?_|refine qb tOk rfl ?_|refine qh rfl ?_);simp [k1, k1', k2, k3])|refine qf ?_|refine qg ?_
  exact AV.list.inj hres
end Go.Abs
