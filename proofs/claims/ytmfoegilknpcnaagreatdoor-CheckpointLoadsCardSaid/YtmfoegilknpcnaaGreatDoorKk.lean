/- Part Kk of the proof: an abstract machine over the model, and what the functions of the program hand back in its terms. No condition. -/
import Derived.Test.YtmfoegilknpcnaaGreatDoorKe
set_option linter.all false
set_option maxRecDepth 100000
namespace Go.Abs
open Go Go.Proofs
set_option linter.unusedSimpArgs false
theorem zag_odd (v : Nat) (hv : v < 18446744073709551616) (h : v % 2 = 1) : IntKind.i64.wrap (bits .xor .u64 (if IntKind.u64.signed = true then -1 else IntKind.u64.max) ((v : Int).fdiv (2 ^ min 1 IntKind.u64.bits))) = zag v := by
  have e1 : (2 : Int) ^ min 1 IntKind.u64.bits = 2 := by decide
  have e2 : (if IntKind.u64.signed = true then -1 else IntKind.u64.max) = ((2 ^ 64 - 1 : Nat) : Int) := by decide
  rw [e1, e2, Int.fdiv_eq_ediv_of_nonneg _ (by omega), show (v : Int) / 2 = ((v / 2 : Nat) : Int) by omega, bits_xor_u64_nat _ _ (by decide) (by omega), Lib.xor_ones64 _ (by omega), zag, if_neg (by omega), IntKind.wrap_i64]
  omega
theorem zag_even (v : Nat) (hv : v < 18446744073709551616) (h : v % 2 = 0) : IntKind.i64.wrap ((v : Int).fdiv (2 ^ min 1 IntKind.u64.bits)) = zag v := by
  have e1 : (2 : Int) ^ min 1 IntKind.u64.bits = 2 := by decide
  rw [e1, Int.fdiv_eq_ediv_of_nonneg _ (by omega), show (v : Int) / 2 = ((v / 2 : Nat) : Int) by omega, zag, if_pos h, wrap_i64 _ (by omega) (by omega)]
theorem tmod2 (v : Nat) : Int.tmod (v : Int) 2 = ((v % 2 : Nat) : Int) := by rw [Int.tmod_eq_emod_of_nonneg (by omega)]; omega
set_option maxHeartbeats 2000000 in
theorem fc_rtake (H : List AObj) (q : Nat) (d : Dc) (hd : H[q]? = some (dX d)) (hs : d.s.length ≤ 1000000000) : FC Tryz.prog 121 [.vptr q 0] H (DP H q (.i (pI d).1) (pI d).2) := by
  refine FC_body tOk Tryz.func121 rfl Tryz.results121 rfl (by simp [Tryz.ntmps121]) ?_
  rw [Tryz.ntmps121]
  simp only [argSlots]
  obtain ⟨R, hR⟩ : ∃ R, pI d = R := ⟨_, rfl⟩
  rw [hR]
  rw [pI] at hR
  have h0 : H[q]? = some (.vars [.str d.s, .i d.e]) := hd
  repeat first|((first|refine qa tOk rfl ?_|refine qb tOk rfl ?_|refine qc ?_|refine qd ?_|refine qe ?_);simp [h0])|refine AWP_block ?_|refine AWP_seq ?_
  refine AWP_cond2 rfl (fun h => ?_) (fun h => ?_)
  · repeat first|((first|refine qa tOk rfl ?_|refine qb tOk rfl ?_|refine qc ?_|refine qd ?_|refine qe ?_);simp)|refine AWP_block ?_|refine AWP_seq ?_
    rw [if_pos (by simpa using h)] at hR
    rw [← hR]
    exact ⟨rfl, hd, Fr.refl ..⟩
  rw [if_neg (by simpa using h)] at hR
  have he : d.e = 0 := by simpa using h
  repeat first|((first|refine qa tOk rfl ?_|refine qb tOk rfl ?_|refine qc ?_|refine qd ?_|refine qe ?_);simp [h0])|refine AWP_block ?_|refine AWP_seq ?_
  refine AWP_loop (ALoop_keep (sl' := [(0, .vptr q 0), (3, .int .u64 0), (4, .i 0)]) ?_ (by simp))
  refine ALoop_wf (F := fun (u : Nat × Nat) => ⟨[(0, .vptr q 0), (3, .int .u64 u.2), (4, .i u.1)], H⟩)
    (fun u => u.1 ≤ d.s.length ∧ u.1 ≤ 10 ∧ u.2 < 2 ^ (7 * u.1) ∧ (unvF (10 - u.1) u.1 u.2 (d.s.drop u.1)).map (fun p => (zag p.1, p.2)) = decN d.s) (fun u => 10 - u.1) ?_ (0, 0) ⟨Nat.zero_le _, by simp, by simp, by simp [decN]⟩
  rintro ⟨j, u⟩ ⟨g1, g1', g2, g3⟩ ih
  simp only at g1 g1' g2 g3 ih ⊢
  repeat first|((first|refine qa tOk rfl ?_|refine qb tOk rfl ?_|refine qc ?_|refine qd ?_|refine qe ?_);simp [h0])|refine AWP_block ?_|refine AWP_seq ?_
  refine AWP_cond2 rfl (fun h => ?_) (fun h => ?_)
  · have hj2 : j < d.s.length ∧ j < 10 := by simp only [Bool.and_eq_true, decide_eq_true_eq] at h; omega
    obtain ⟨hj, hlt⟩ := hj2
    have hw1 : IntKind.i64.wrap ((j : Int) + 1) = j + 1 := wrap_i64 _ (by omega) (by omega)
    have hw7 : IntKind.i64.wrap (7 * (j : Int)) = ((7 * j : Nat) : Int) := by rw [wrap_i64 _ (by omega) (by omega)]; omega
    obtain ⟨k, hk⟩ : ∃ k, 10 - j = k + 1 := ⟨9 - j, by omega⟩
    rw [hk, List.drop_eq_getElem_cons hj] at g3
    obtain ⟨c, hc⟩ : ∃ c, d.s[j] = c := ⟨_, rfl⟩
    rw [hc, unvF] at g3
    have hcl := c.toNat_lt
    repeat first|((first|refine qa tOk rfl ?_|refine qb tOk rfl ?_|refine qc ?_|refine qd ?_|refine qe ?_);simp [h0, hj, hc])|refine AWP_block ?_|refine AWP_seq ?_
    by_cases hbad : (0 < j ∧ c.toNat = 0) ∨ (j = 9 ∧ 1 < c.toNat)
    · rw [if_pos hbad] at g3
      refine AWP_cond2 rfl (fun h => ?_) (fun h => ?_)
      · repeat first|((first|refine qa tOk rfl ?_|refine qb tOk rfl ?_|refine qc ?_|refine qd ?_|refine qe ?_);simp)|refine AWP_block ?_|refine AWP_seq ?_
        refine AStep_FC rfl rfl (fc_rfail H q d 26 hd) rfl ?_
        rintro _ _ ⟨rfl, rfl⟩
        simp
        repeat first|((first|refine qa tOk rfl ?_|refine qb tOk rfl ?_|refine qc ?_|refine qd ?_|refine qe ?_);simp)|refine AWP_block ?_|refine AWP_seq ?_
        rw [← g3] at hR
        rw [Dc.fail, if_pos he, ← hR]
        exact ⟨rfl, get_self hd _, Fr.set ..⟩
      · exfalso
        rw [Bool.eq_false_iff] at h
        apply h
        simp only [Bool.or_eq_true, Bool.and_eq_true, decide_eq_true_eq, beq_iff_eq]
        omega
    · rw [if_neg hbad] at g3
      refine AWP_cond2 rfl (fun h => ?_) (fun h => ?_)
      · exfalso
        apply hbad
        simp only [Bool.or_eq_true, Bool.and_eq_true, decide_eq_true_eq, beq_iff_eq] at h
        omega
      · obtain ⟨v, hv⟩ : ∃ v, u + c.toNat % 128 * 2 ^ (7 * j) = v := ⟨_, rfl⟩
        have h9 : j = 9 → c.toNat % 128 ≤ 1 := fun h => by omega
        have hvl : v < 2 ^ (7 * (j + 1)) := by
          rw [pow7, ← hv]
          have : c.toNat % 128 * 2 ^ (7 * j) ≤ 127 * 2 ^ (7 * j) := Nat.mul_le_mul_right _ (by omega)
          omega
        have hv64 : v < 18446744073709551616 := by
          have h1 := pow7_le (i := j) (by omega)
          have h2 := orv_prod (i := j) (c := c.toNat % 128) (by omega) (by omega) h9
          omega
        rw [hv] at g3
        have hox : bits .or .u64 (u : Int) (IntKind.u64.wrap (IntKind.u64.wrap (Int.tmod (c.toNat : Int) 128) * 2 ^ min (7 * (j : Int)).toNat IntKind.u64.bits)) = (v : Int) := by
          rw [Int.tmod_eq_emod_of_nonneg (by omega), show (7 * (j : Int)).toNat = 7 * j by omega, show (c.toNat : Int) % 128 = ((c.toNat % 128 : Nat) : Int) by omega, show IntKind.u64.wrap ((c.toNat % 128 : Nat) : Int) = ((c.toNat % 128 : Nat) : Int) by simp [IntKind.wrap, IntKind.bits, IntKind.signed]; omega, orv j u _ (by omega) g2 (by omega) h9, hv]
        repeat first|((first|refine qa tOk rfl ?_|refine qb tOk rfl ?_|refine qc ?_|refine qd ?_|refine qe ?_);simp [h0, hw7, hox])|refine AWP_block ?_|refine AWP_seq ?_
        refine AWP_cond2 rfl (fun h => ?_) (fun h => ?_)
        · rw [if_pos (by simp at h; omega)] at g3
          have j1 : (j : Int) + 1 ≤ d.s.length := by omega
          have j2 : (0 : Int) ≤ (j : Int) + 1 := by omega
          rw [← g3] at hR
          have gs : ∀ y, (H.set q y)[q]? = some y := fun y => get_self hd y
          repeat first|((first|refine qa tOk rfl ?_|refine qb tOk rfl ?_|refine qc ?_|refine qd ?_|refine qe ?_);simp [h0, hw1, j1, j2])|refine AWP_block ?_|refine AWP_seq ?_
          refine AWP_cond2 rfl (fun h => ?_) (fun h => ?_)
          · repeat first|((first|refine qa tOk rfl ?_|refine qb tOk rfl ?_|refine qc ?_|refine qd ?_|refine qe ?_);simp)|refine AWP_block ?_|refine AWP_seq ?_
            rw [tmod2] at h
            rw [zag_odd v hv64 (by have := eq_of_beq h; omega), ← hR, he]
            exact ⟨rfl, get_self hd _, Fr.set ..⟩
          · repeat first|((first|refine qa tOk rfl ?_|refine qb tOk rfl ?_|refine qc ?_|refine qd ?_|refine qe ?_);simp)|refine AWP_block ?_|refine AWP_seq ?_
            rw [tmod2] at h
            rw [zag_even v hv64 (by have : ¬ ((v % 2 : Nat) : Int) = 1 := by simpa using h
                                    omega), ← hR, he]
            exact ⟨rfl, get_self hd _, Fr.set ..⟩
        · rw [if_neg (by simp at h; omega)] at g3
          repeat first|((first|refine qa tOk rfl ?_|refine qb tOk rfl ?_|refine qc ?_|refine qd ?_|refine qe ?_);simp [hw1])|refine AWP_block ?_|refine AWP_seq ?_
          exact ALoop_keep (ih (j + 1, v) ⟨hj, hlt, hvl, by rw [show 10 - (j + 1) = k by omega]; exact g3⟩ (by simp only; omega)) (by simp)
  · have hge : j = d.s.length ∨ j = 10 := by rw [Bool.eq_false_iff] at h; simp only [ne_eq, Bool.and_eq_true, decide_eq_true_eq] at h; omega
    repeat first|((first|refine qa tOk rfl ?_|refine qb tOk rfl ?_|refine qc ?_|refine qd ?_|refine qe ?_);simp)|refine AWP_block ?_|refine AWP_seq ?_
    have hnone : unvF (10 - j) j u (d.s.drop j) = none := by
      by_cases h10 : j = 10
      · subst h10; rfl
      · obtain ⟨k, hk⟩ : ∃ k, 10 - j = k + 1 := ⟨9 - j, by omega⟩
        rw [hk, List.drop_eq_nil_of_le (by omega)]; rfl
    rw [hnone] at g3
    refine AStep_FC rfl rfl (fc_rfail H q d 26 hd) rfl ?_
    rintro _ _ ⟨rfl, rfl⟩
    simp
    repeat first|((first|refine qa tOk rfl ?_|refine qb tOk rfl ?_|refine qc ?_|refine qd ?_|refine qe ?_);simp)|refine AWP_block ?_|refine AWP_seq ?_
    rw [← g3] at hR
    rw [Dc.fail, if_pos he, ← hR]
    exact ⟨rfl, get_self hd _, Fr.set ..⟩
end Go.Abs
set_option maxRecDepth 100000
namespace Go.Abs
open Go Go.Proofs
set_option linter.unusedSimpArgs false
/-- What stands behind a write: the text grown by 'bs' (if there is no error), and the first error. -/
def RS (d d' : Dc) (bs : List UInt8) (er : Int) : Prop := d'.e = orE d.e er ∧ d'.s.length ≤ d.s.length + bs.length ∧ (orE d.e er = 0 → d'.s = d.s ++ bs)
theorem RS.two {d d1 d2 : Dc} {b1 b2 : List UInt8} {r1 r2 : Int} (a : RS d d1 b1 r1) (b : RS d1 d2 b2 r2) : RS d d2 (b1 ++ b2) (orE r1 r2) := by
  obtain ⟨a2, a3, a4⟩ := a
  obtain ⟨c2, c3, c4⟩ := b
  rw [a2, orE_assoc] at c2 c4
  refine ⟨c2, by simp; omega, fun h => ?_⟩
  rw [c4 h, a4 (orE_left (b := r2) (by rw [orE_assoc]; exact h)), List.append_assoc]
theorem RS.puts (d : Dc) (bs : List UInt8) : RS d ⟨d.s ++ bs, d.e⟩ bs 0 := ⟨by rw [orE_self], by simp, fun _ => rfl⟩
theorem RS.zero {α : Type} (d : Dc) (l : List α) (bs : α → List UInt8) (er : α → Int) : RS d d ((l.take 0).flatMap bs) (firstE er (l.take 0)) := ⟨by simp [firstE, orE_self], by simp, fun _ => by simp⟩
theorem RS.next {α : Type} {l : List α} {bs : α → List UInt8} {er : α → Int} {d0 dj d2 : Dc} {j : Nat} (h : j < l.length) (a : RS d0 dj ((l.take j).flatMap bs) (firstE er (l.take j))) (b : RS dj d2 (bs l[j]) (er l[j])) :
    RS d0 d2 ((l.take (j + 1)).flatMap bs) (firstE er (l.take (j + 1))) := by
  rw [flat_take bs l j h, firstE_take er l j h]
  exact a.two b
theorem RS.fin {α : Type} {l : List α} {bs : α → List UInt8} {er : α → Int} {d0 dj : Dc} {j : Nat} (a : RS d0 dj ((l.take j).flatMap bs) (firstE er (l.take j))) (h : j = l.length ∨ dj.e ≠ 0) : RS d0 dj (l.flatMap bs) (firstE er l) := by
  rcases h with rfl | h
  · rwa [List.take_length] at a
  · obtain ⟨a1, a2, a3⟩ := a
    have hfe : orE d0.e (firstE er l) = dj.e := by
      conv => lhs; rw [← List.take_append_drop j l]
      rw [firstE_app, ← orE_assoc, ← a1, orE_ne h]
    have := flat_le bs l j
    exact ⟨hfe.symm, by omega, fun hz => absurd (by rw [← hfe]; exact hz) h⟩
theorem RS.list {α : Type} {l : List α} {bs : α → List UInt8} {er : α → Int} {d d0 d1 : Dc} (a : RS d d0 (encN l.length) (if 4096 < l.length then 5 else 0)) (b : RS d0 d1 (l.flatMap bs) (firstE er l)) : RS d d1 (encL bs l) (errL er l) := by
  have h := a.two b
  have e : orE (if 4096 < l.length then 5 else 0) (firstE er l) = errL er l := by
    unfold errL
    split
    · exact orE_ne (by decide)
    · exact orE_z _
  rwa [e] at h
theorem RS.room {α : Type} {l : List α} {bs : α → List UInt8} {er : α → Int} {d0 dj : Dc} {j : Nat} {m : Nat} (a : RS d0 dj ((l.take j).flatMap bs) (firstE er (l.take j))) (h : j < l.length) (hb : d0.s.length + (l.flatMap bs).length ≤ m) : dj.s.length + (bs l[j]).length ≤ m := by
  have h1 := flat_le bs l (j + 1)
  rw [flat_take bs l j h, List.length_append] at h1
  have := a.2.1
  omega
/-- What a writing function of the reference leaves. -/
def RP (H : List AObj) (q : Nat) (d : Dc) (bs : List UInt8) (er : Int) (r : AV) (H' : List AObj) : Prop :=
  r = .tup [] ∧ ∃ d', H'[q]? = some (dX d') ∧ Fr H H' q none none ∧ RS d d' bs er
/-- What a function leaves that writes just these bytes. -/
def RI (H : List AObj) (q : Nat) (d : Dc) (bs : List UInt8) (r : AV) (H' : List AObj) : Prop :=
  r = .tup [] ∧ H'[q]? = some (dX ⟨d.s ++ bs, d.e⟩) ∧ Fr H H' q none none
end Go.Abs
set_option maxRecDepth 100000
namespace Go.Abs
open Go Go.Proofs
set_option linter.unusedSimpArgs false
theorem rChk_eq (v : Val) : rCheckR v = checkR v := by
  unfold rCheckR checkR sizeR
  rcases v with ⟨k, n, t⟩
  simp only [Bool.or_eq_true, Bool.and_eq_true, decide_eq_true_eq, beq_iff_eq, bne_iff_ne, Bool.not_eq_true', ne_eq]
  by_cases h0 : k = 0
  · subst h0
    cases t with
    | nil => simp
    | cons c t => simp
  · by_cases h1 : k = 1
    · subst h1
      cases t with
      | nil => simp; repeat' split
               all_goals omega
      | cons c t => simp
    · by_cases h2 : k = 2
      · subst h2; simp
      · have : k < 0 ∨ 2 < k := by omega
        simp [h0, h1, h2, this]
theorem pc_rChk (v : Val) : PC Tryz.prog 172 [encV v] (fun r => r = .i (checkR v)) := by
  have h := pc_rCheck v
  rwa [rChk_eq] at h
attribute [local irreducible] checkR
end Go.Abs
