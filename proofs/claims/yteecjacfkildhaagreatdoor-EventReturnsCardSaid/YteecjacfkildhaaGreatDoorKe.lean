/- Part Ke of the proof: an abstract machine over the model, and what the functions of the program hand back in its terms. No condition. -/
import Derived.Test.YteecjacfkildhaaGreatDoorKd
import Derived.Lib.ItoaLen
import Derived.Lib.ItoaMem
import Derived.Lib.IndexBytes
import Derived.Test.YteecjacfkildhaaGreatDoorKb
import Derived.Test.YteecjacfkildhaaGreatDoorKc
import Derived.Shelf.Strings.Search1
import Derived.Shelf.Strings.Search2
import Derived.Shelf.Strings.Search3
import Derived.Shelf.Strings.Cut
import Derived.Shelf.Strings.Count
import Derived.Shelf.LaysM
import Derived.Shelf.Strings.Shaped
import Derived.Shelf.Strings.Prefix
import Derived.Shelf.Strings.Split
import Derived.Shelf.Strings.Runes
import Derived.Shelf.Strings.AsciiSet
import Derived.Test.YteecjacfkildhaaGreatDoorProg
set_option linter.all false
set_option maxRecDepth 100000
namespace Go.Abs
open Go Go.Proofs
set_option linter.unusedSimpArgs false
attribute [local irreducible] checkR
def rDigR (c : UInt8) : Int := if (decide ((48 : Int) ≤ c.toNat) && decide ((c.toNat : Int) ≤ 57)) = true then (c.toNat : Int) - 48 else if (decide ((97 : Int) ≤ c.toNat) && decide ((c.toNat : Int) ≤ 102)) = true then (c.toNat : Int) - 87 else -1
theorem pc_rDigit (c : UInt8) : PC Tryz.prog 129 [.int .u8 c.toNat] (fun r => r = .i (rDigR c)) := by
  refine PC_body tOk Tryz.func129 rfl Tryz.results129 rfl (by simp [Tryz.ntmps129]) ?_
  rw [Tryz.ntmps129]
  simp only [argSlots]
  repeat (first
    | (refine AWP_seq (AWP_regS tOk rfl ?_); simp)
    | (refine AWP_regS tOk rfl ?_; simp)
    | (refine AWP_skip ?_; simp)
    | (refine AWP_exit ?_; simp)
    | (refine AWP_ret ?_; simp)
    | refine AWP_block ?_
    | refine AWP_seq ?_)
  refine AWP_cond2 rfl (fun h => ?_) (fun h => ?_)
  · have h' : 48 ≤ c.toNat ∧ c.toNat ≤ 57 := by simp at h; omega
    have e : IntKind.u8.wrap ((c.toNat : Int) - 48) = (c.toNat : Int) - 48 := by rw [IntKind.wrap_u8]; omega
    have e2 : IntKind.i64.wrap ((c.toNat : Int) - 48) = (c.toNat : Int) - 48 := wrap_i64 _ (by omega) (by omega)
    repeat (first
      | (refine AWP_seq (AWP_regS tOk rfl ?_); simp [e, e2])
      | (refine AWP_regS tOk rfl ?_; simp [e, e2])
      | (refine AWP_skip ?_; simp [e, e2])
      | (refine AWP_exit ?_; simp [e, e2])
      | (refine AWP_ret ?_; simp [e, e2])
      | refine AWP_block ?_
      | refine AWP_seq ?_)
    rw [rDigR, ite_t h]
  repeat (first
    | (refine AWP_seq (AWP_regS tOk rfl ?_); simp)
    | (refine AWP_regS tOk rfl ?_; simp)
    | (refine AWP_skip ?_; simp)
    | (refine AWP_exit ?_; simp)
    | (refine AWP_ret ?_; simp)
    | refine AWP_block ?_
    | refine AWP_seq ?_)
  refine AWP_cond2 rfl (fun h1 => ?_) (fun h1 => ?_)
  · have h' : 97 ≤ c.toNat ∧ c.toNat ≤ 102 := by simp at h1; omega
    have e : IntKind.u8.wrap ((c.toNat : Int) - 97) = (c.toNat : Int) - 97 := by rw [IntKind.wrap_u8]; omega
    have e2 : IntKind.i64.wrap ((c.toNat : Int) - 97) = (c.toNat : Int) - 97 := wrap_i64 _ (by omega) (by omega)
    have e3 : IntKind.i64.wrap ((c.toNat : Int) - 97 + 10) = (c.toNat : Int) - 87 := by rw [wrap_i64 _ (by omega) (by omega)]; omega
    repeat (first
      | (refine AWP_seq (AWP_regS tOk rfl ?_); simp [e, e2, e3])
      | (refine AWP_regS tOk rfl ?_; simp [e, e2, e3])
      | (refine AWP_skip ?_; simp [e, e2, e3])
      | (refine AWP_exit ?_; simp [e, e2, e3])
      | (refine AWP_ret ?_; simp [e, e2, e3])
      | refine AWP_block ?_
      | refine AWP_seq ?_)
    rw [rDigR, ite_f h, ite_t h1]
  repeat (first
    | (refine AWP_seq (AWP_regS tOk rfl ?_); simp)
    | (refine AWP_regS tOk rfl ?_; simp)
    | (refine AWP_skip ?_; simp)
    | (refine AWP_exit ?_; simp)
    | (refine AWP_ret ?_; simp)
    | refine AWP_block ?_
    | refine AWP_seq ?_)
  rw [rDigR, ite_f h, ite_f h1]
theorem rDigR_all : ∀ n : Fin 256, rDigR (UInt8.ofNat n.val) = hexI (UInt8.ofNat n.val) := by decide +kernel
theorem rDigR_eq (c : UInt8) : rDigR c = hexI c := by
  have := rDigR_all ⟨c.toNat, c.toNat_lt⟩
  simpa using this
theorem pc_rDigit' (c : UInt8) : PC Tryz.prog 129 [.int .u8 c.toNat] (fun r => r = .i (hexI c)) := by
  have := pc_rDigit c
  rw [rDigR_eq] at this
  exact this
def digS : List UInt8 := [48, 49, 50, 51, 52, 53, 54, 55, 56, 57]
theorem digS_cut (d : Nat) (h : d < 10) : (digS.take (d + 1)).drop d = [UInt8.ofNat (48 + d)] := by
  rw [drop_take_one digS d (by show d < 10; exact h)]
  have : ∀ d : Fin 10, digS[d.val]'(d.isLt) = UInt8.ofNat (48 + d.val) := by decide
  exact congrArg (fun x => [x]) (this ⟨d, h⟩)
theorem itoa_step (u : Nat) (h : ¬ u < 10) : Lib.decDigits u = Lib.decDigits (u / 10) ++ [UInt8.ofNat (48 + u % 10)] := by
  rw [Lib.decDigits, dif_neg h]
set_option maxHeartbeats 1000000 in
theorem pc_rDecimal (k : Nat) : ∀ n : Int, n.natAbs ≤ k → -9223372036854775808 ≤ n → n ≤ 9223372036854775807 → PC Tryz.prog 78 [.i n] (fun r => r = .str (Lib.itoa n)) := by
  induction k using Nat.strongRecOn with
  | ind k ih =>
  intro n hk h1 h2
  refine PC_body tOk Tryz.func78 rfl Tryz.results78 rfl (by simp [Tryz.ntmps78]) ?_
  rw [Tryz.ntmps78]
  simp only [argSlots]
  repeat (first
    | (refine AWP_seq (AWP_regS tOk rfl ?_); simp)
    | (refine AWP_regS tOk rfl ?_; simp)
    | (refine AWP_skip ?_; simp)
    | (refine AWP_exit ?_; simp)
    | (refine AWP_ret ?_; simp)
    | refine AWP_block ?_
    | refine AWP_seq ?_)
  have cut : ∀ d : Nat, d < 10 → List.drop d (48 :: List.take d [49, 50, 51, 52, 53, 54, 55, 56, 57]) = [UInt8.ofNat (48 + d)] := fun d h => digS_cut d h
  refine AWP_cond2 rfl (fun h => ?_) (fun h => ?_)
  · have hn : n < 0 := by simpa using h
    obtain ⟨u, hu⟩ : ∃ u : Nat, u = n.natAbs := ⟨_, rfl⟩
    obtain ⟨d, hd⟩ : ∃ d, d = u % 10 := ⟨_, rfl⟩
    have e1 : n.tmod 10 = -(d : Int) := by rw [show n = -(u : Int) by omega, Int.neg_tmod, Int.tmod_eq_emod_of_nonneg (by omega)]; omega
    have e2 : IntKind.i64.wrap (d : Int) = d := wrap_i64 _ (by omega) (by omega)
    have e3 : IntKind.i64.wrap ((d : Int) + 1) = d + 1 := wrap_i64 _ (by omega) (by omega)
    have e4 : (d : Int) + 1 ≤ 10 := by omega
    have e5 : (0 : Int) ≤ (d : Int) + 1 := by omega
    obtain ⟨c, hc⟩ : ∃ c, UInt8.ofNat (48 + d) = c := ⟨_, rfl⟩
    have e6 := cut d (by omega)
    rw [hc] at e6
    have e7 : n.tdiv 10 = -((u / 10 : Nat) : Int) := by rw [show n = -(u : Int) by omega, Int.neg_tdiv, Int.tdiv_eq_ediv_of_nonneg (by omega)]; omega
    obtain ⟨q, hq⟩ : ∃ q, q = n.tdiv 10 := ⟨_, rfl⟩
    have e8 : IntKind.i64.wrap q = q := wrap_i64 _ (by omega) (by omega)
    have hi : Lib.itoa n = 45 :: Lib.decDigits u := by rw [Lib.itoa, if_pos hn, hu]
    repeat (first
      | (refine AWP_seq (AWP_regS tOk rfl ?_); simp [e1, e2, e3, e4, e5, e6])
      | (refine AWP_regS tOk rfl ?_; simp [e1, e2, e3, e4, e5, e6])
      | (refine AWP_skip ?_; simp [e1, e2, e3, e4, e5, e6])
      | (refine AWP_exit ?_; simp [e1, e2, e3, e4, e5, e6])
      | (refine AWP_ret ?_; simp [e1, e2, e3, e4, e5, e6])
      | refine AWP_block ?_
      | refine AWP_seq ?_)
    refine AWP_cond2 rfl (fun h3 => ?_) (fun h3 => ?_)
    · have h3' : -10 < n := by simpa using h3
      repeat (first
        | (refine AWP_seq (AWP_regS tOk rfl ?_); simp)
        | (refine AWP_regS tOk rfl ?_; simp)
        | (refine AWP_skip ?_; simp)
        | (refine AWP_exit ?_; simp)
        | (refine AWP_ret ?_; simp)
        | refine AWP_block ?_
        | refine AWP_seq ?_)
      rw [hi, Lib.decDigits, dif_pos (by omega), ← hc, show d = u by omega]
    · have h3' : n ≤ -10 := by simpa using h3
      have hi2 : Lib.itoa q = 45 :: Lib.decDigits (u / 10) := by rw [Lib.itoa, if_pos (by omega), show q.natAbs = u / 10 by omega]
      have hl := Lib.itoa_length_le q (by omega) (by omega)
      have hl2 : (Lib.itoa q).length + 1 ≤ 9223372036854775807 := by omega
      repeat (first
        | (refine AWP_seq (AWP_regS tOk rfl ?_); simp [← hq, e8])
        | (refine AWP_regS tOk rfl ?_; simp [← hq, e8])
        | (refine AWP_skip ?_; simp [← hq, e8])
        | (refine AWP_exit ?_; simp [← hq, e8])
        | (refine AWP_ret ?_; simp [← hq, e8])
        | refine AWP_block ?_
        | refine AWP_seq ?_)
      refine AStep_PC rfl rfl (by simp) (ih q.natAbs (by omega) q (Nat.le_refl _) (by omega) (by omega)) rfl ?_
      rintro _ rfl
      simp [hl2]
      repeat (first
        | (refine AWP_seq (AWP_regS tOk rfl ?_); simp)
        | (refine AWP_regS tOk rfl ?_; simp)
        | (refine AWP_skip ?_; simp)
        | (refine AWP_exit ?_; simp)
        | (refine AWP_ret ?_; simp)
        | refine AWP_block ?_
        | refine AWP_seq ?_)
      rw [hi, hi2, itoa_step u (by omega), ← hd, hc]
      rfl
  · have hn : 0 ≤ n := by simpa using h
    obtain ⟨u, rfl⟩ := Int.eq_ofNat_of_zero_le hn
    have hi : ∀ v : Nat, Lib.itoa (v : Int) = Lib.decDigits v := Lib.itoa_nonneg
    repeat (first
      | (refine AWP_seq (AWP_regS tOk rfl ?_); simp)
      | (refine AWP_regS tOk rfl ?_; simp)
      | (refine AWP_skip ?_; simp)
      | (refine AWP_exit ?_; simp)
      | (refine AWP_ret ?_; simp)
      | refine AWP_block ?_
      | refine AWP_seq ?_)
    refine AWP_cond2 rfl (fun h3 => ?_) (fun h3 => ?_)
    · have h3' : u < 10 := by simp at h3; omega
      have e3 : IntKind.i64.wrap ((u : Int) + 1) = u + 1 := wrap_i64 _ (by omega) (by omega)
      have e4 : (u : Int) + 1 ≤ 10 := by omega
      have e5 : (0 : Int) ≤ (u : Int) + 1 := by omega
      obtain ⟨c, hc⟩ : ∃ c, UInt8.ofNat (48 + u) = c := ⟨_, rfl⟩
      have e6 := cut u h3'
      rw [hc] at e6
      repeat (first
        | (refine AWP_seq (AWP_regS tOk rfl ?_); simp [e3, e4, e5, e6])
        | (refine AWP_regS tOk rfl ?_; simp [e3, e4, e5, e6])
        | (refine AWP_skip ?_; simp [e3, e4, e5, e6])
        | (refine AWP_exit ?_; simp [e3, e4, e5, e6])
        | (refine AWP_ret ?_; simp [e3, e4, e5, e6])
        | refine AWP_block ?_
        | refine AWP_seq ?_)
      rw [hi, Lib.decDigits, dif_pos h3', hc]
    · have h3' : 10 ≤ u := by simp at h3; omega
      obtain ⟨d, hd⟩ : ∃ d, d = u % 10 := ⟨_, rfl⟩
      obtain ⟨q, hq⟩ : ∃ q, q = u / 10 := ⟨_, rfl⟩
      have e1 : (u : Int).tmod 10 = d := by rw [Int.tmod_eq_emod_of_nonneg (by omega)]; omega
      have e1' : (u : Int) % 10 = d := by omega
      have e7 : (u : Int).tdiv 10 = q := by rw [Int.tdiv_eq_ediv_of_nonneg (by omega)]; omega
      have e7' : (u : Int) / 10 = q := by omega
      have e8 : IntKind.i64.wrap (q : Int) = q := wrap_i64 _ (by omega) (by omega)
      have e3 : IntKind.i64.wrap ((d : Int) + 1) = d + 1 := wrap_i64 _ (by omega) (by omega)
      have e4 : (d : Int) + 1 ≤ 10 := by omega
      have e5 : (0 : Int) ≤ (d : Int) + 1 := by omega
      obtain ⟨c, hc⟩ : ∃ c, UInt8.ofNat (48 + d) = c := ⟨_, rfl⟩
      have e6 := cut d (by omega)
      rw [hc] at e6
      have hl := Lib.itoa_length_le (q : Int) (by omega) (by omega)
      have hl2 : (Lib.itoa (q : Int)).length + 1 ≤ 9223372036854775807 := by omega
      repeat (first
        | (refine AWP_seq (AWP_regS tOk rfl ?_); simp)
        | (refine AWP_regS tOk rfl ?_; simp)
        | (refine AWP_skip ?_; simp)
        | (refine AWP_exit ?_; simp)
        | (refine AWP_ret ?_; simp)
        | refine AWP_block ?_
        | refine AWP_seq ?_)
      refine AWP_drawT tOk mixed [] (.val 0 (.val 1 (.val 3 (.val 4 (.val 5 (.val 6 (.val 7 (.val 8 (.one 2 (.val 9 (.val 10 (.done)))))))))))) rfl (by kernel_rfl) ?_
      simp [e1, e1', e7, e7', e8, e3, e4, e5, e6]
      refine AStep_PC rfl rfl (by simp) (ih q (by omega) (q : Int) (by omega) (by omega) (by omega)) rfl ?_
      rintro _ rfl
      simp [hl2]
      repeat (first
        | (refine AWP_seq (AWP_regS tOk rfl ?_); simp)
        | (refine AWP_regS tOk rfl ?_; simp)
        | (refine AWP_skip ?_; simp)
        | (refine AWP_exit ?_; simp)
        | (refine AWP_ret ?_; simp)
        | refine AWP_block ?_
        | refine AWP_seq ?_)
      rw [hi, hi, itoa_step u (by omega), ← hd, hc, ← hq]
end Go.Abs
set_option maxRecDepth 100000
namespace Go.Abs
open Go Go.Proofs
set_option linter.unusedSimpArgs false
attribute [local irreducible] checkR Lib.itoa
set_option maxHeartbeats 1000000 in
theorem pc_rHex (c : UInt8) : PC Tryz.prog 136 [.int .u8 c.toNat] (fun r => r = .str [hexD (c.toNat / 16), hexD (c.toNat % 16)]) := by
  refine PC_body tOk Tryz.func136 rfl Tryz.results136 rfl (by simp [Tryz.ntmps136]) ?_
  rw [Tryz.ntmps136]
  simp only [argSlots]
  have hn := c.toNat_lt
  obtain ⟨x, hx⟩ : ∃ x, x = c.toNat / 16 := ⟨_, rfl⟩
  obtain ⟨y, hy⟩ : ∃ y, y = c.toNat % 16 := ⟨_, rfl⟩
  rw [← hx, ← hy]
  have e1 : IntKind.u8.wrap ((c.toNat : Int) / 16) = x := by rw [IntKind.wrap_u8]; omega
  have e1' : IntKind.u8.wrap ((c.toNat : Int).tdiv 16) = x := by rw [IntKind.wrap_u8, Int.tdiv_eq_ediv_of_nonneg (by omega)]; omega
  have e2 : ((c.toNat : Int).tmod 16) = y := by rw [Int.tmod_eq_emod_of_nonneg (by omega)]; omega
  have e2' : ((c.toNat : Int) % 16) = y := by omega
  obtain ⟨x3, x4, x5, x6⟩ := nib_u8 x (by omega)
  obtain ⟨y3, y4, y5, y6⟩ := nib_u8 y (by omega)
  have hcx := hexD_drop x (by omega)
  have hcy := hexD_drop y (by omega)
  repeat (first
    | (refine AWP_seq (AWP_regS tOk rfl ?_); simp)
    | (refine AWP_regS tOk rfl ?_; simp)
    | (refine AWP_skip ?_; simp)
    | (refine AWP_exit ?_; simp)
    | (refine AWP_ret ?_; simp)
    | refine AWP_block ?_
    | refine AWP_seq ?_)
  refine AWP_drawT tOk mixed [] (.val 0 (.val 1 (.val 2 (.val 3 (.val 4 (.val 5 (.val 6 (.val 7 (.val 8 (.val 9 (.val 10 (.val 11 (.val 12 (.val 13 (.val 14 (.val 15 (.done))))))))))))))))) rfl (by kernel_rfl) ?_
  simp [e1, e1', e2, e2', x3, x4, x5, x6, y3, y4, y5, y6, hcx, hcy]
  repeat (first
    | (refine AWP_seq (AWP_regS tOk rfl ?_); simp)
    | (refine AWP_regS tOk rfl ?_; simp)
    | (refine AWP_skip ?_; simp)
    | (refine AWP_exit ?_; simp)
    | (refine AWP_ret ?_; simp)
    | refine AWP_block ?_
    | refine AWP_seq ?_)
set_option maxHeartbeats 1000000 in
theorem pc_rQuote (s : List UInt8) (hs : s.length ≤ 1000000) : PC Tryz.prog 110 [.str s] (fun r => r = .str (quoteR s)) := by
  refine PC_body tOk Tryz.func110 rfl Tryz.results110 rfl (by simp [Tryz.ntmps110]) ?_
  rw [Tryz.ntmps110]
  simp only [argSlots]
  repeat (first
    | (refine AWP_seq (AWP_regS tOk rfl ?_); simp)
    | (refine AWP_regS tOk rfl ?_; simp)
    | (refine AWP_skip ?_; simp)
    | (refine AWP_exit ?_; simp)
    | (refine AWP_ret ?_; simp)
    | refine AWP_block ?_
    | refine AWP_seq ?_)
  refine AWP_count s.length (fun j => [(0, .str s), (3, .str (quoteTo (s.take j))), (4, .i j)]) (fun _ => []) (G := []) rfl (by simp) (by simp [quoteTo]) (by simp) (by simp) ?_
  intro j hj ih
  have hq := quoteTo_len (s.take j)
  rw [List.length_take] at hq
  have hq1 : (quoteTo (s.take j)).length + 1 ≤ 9223372036854775807 := by omega
  have hq2 : (quoteTo (s.take j)).length + 2 ≤ 9223372036854775807 := by omega
  have hq4 : (quoteTo (s.take j)).length + 4 ≤ 9223372036854775807 := by omega
  repeat (first
    | (refine AWP_seq (AWP_regS tOk rfl ?_); simp)
    | (refine AWP_regS tOk rfl ?_; simp)
    | (refine AWP_skip ?_; simp)
    | (refine AWP_exit ?_; simp)
    | (refine AWP_ret ?_; simp)
    | refine AWP_block ?_
    | refine AWP_seq ?_)
  refine AWP_cond2 rfl (fun hlt => ?_) (fun hge => ?_)
  · have hlt' : j < s.length := by simpa using hlt
    have hesc := quoteTo_succ s j hlt'
    have hw1 : IntKind.i64.wrap ((j : Int) + 1) = j + 1 := wrap_i64 _ (by omega) (by omega)
    have hw2 : (0 : Int) ≤ (j : Int) + 1 := by omega
    have hw3 : (j : Int) + 1 ≤ s.length := by omega
    have hw4 : ((j : Int) + 1).toNat = j + 1 := by omega
    have hcut := drop_take_one s j hlt'
    repeat (first
      | (refine AWP_seq (AWP_regS tOk rfl ?_); simp [hlt'])
      | (refine AWP_regS tOk rfl ?_; simp [hlt'])
      | (refine AWP_skip ?_; simp [hlt'])
      | (refine AWP_exit ?_; simp [hlt'])
      | (refine AWP_ret ?_; simp [hlt'])
      | refine AWP_block ?_
      | refine AWP_seq ?_)
    refine AWP_cond2 rfl (fun h1 => ?_) (fun h1 => ?_)
    · rw [escB, ite_t h1] at hesc
      repeat (first
        | (refine AWP_seq (AWP_regS tOk rfl ?_); simp [hlt', hw1, hw2, hw3, hw4, hcut, hq2])
        | (refine AWP_regS tOk rfl ?_; simp [hlt', hw1, hw2, hw3, hw4, hcut, hq2])
        | (refine AWP_skip ?_; simp [hlt', hw1, hw2, hw3, hw4, hcut, hq2])
        | (refine AWP_exit ?_; simp [hlt', hw1, hw2, hw3, hw4, hcut, hq2])
        | (refine AWP_ret ?_; simp [hlt', hw1, hw2, hw3, hw4, hcut, hq2])
        | refine AWP_block ?_
        | refine AWP_seq ?_)
      have he : quoteTo (s.take (j + 1)) = quoteTo (s.take j) ++ [92, s[j]] := by rw [hesc]
      repeat (first
        | (refine AWP_seq (AWP_regS tOk rfl ?_); simp [hw1])
        | (refine AWP_regS tOk rfl ?_; simp [hw1])
        | (refine AWP_skip ?_; simp [hw1])
        | (refine AWP_exit ?_; simp [hw1])
        | (refine AWP_ret ?_; simp [hw1])
        | refine AWP_block ?_
        | refine AWP_seq ?_)
      refine ALoop_end [] (ih hlt') rfl (by simp) ?_ (by simp) (by simp)
      rw [he]
      simp [hw1]
    · rw [escB, ite_f h1] at hesc
      repeat (first
        | (refine AWP_seq (AWP_regS tOk rfl ?_); simp [hlt'])
        | (refine AWP_regS tOk rfl ?_; simp [hlt'])
        | (refine AWP_skip ?_; simp [hlt'])
        | (refine AWP_exit ?_; simp [hlt'])
        | (refine AWP_ret ?_; simp [hlt'])
        | refine AWP_block ?_
        | refine AWP_seq ?_)
      refine AWP_cond2 rfl (fun h2 => ?_) (fun h2 => ?_)
      · rw [ite_t h2] at hesc
        repeat (first
          | (refine AWP_seq (AWP_regS tOk rfl ?_); simp [hq2])
          | (refine AWP_regS tOk rfl ?_; simp [hq2])
          | (refine AWP_skip ?_; simp [hq2])
          | (refine AWP_exit ?_; simp [hq2])
          | (refine AWP_ret ?_; simp [hq2])
          | refine AWP_block ?_
          | refine AWP_seq ?_)
        have he : quoteTo (s.take (j + 1)) = quoteTo (s.take j) ++ [92, 110] := by rw [hesc]
        repeat (first
          | (refine AWP_seq (AWP_regS tOk rfl ?_); simp [hw1])
          | (refine AWP_regS tOk rfl ?_; simp [hw1])
          | (refine AWP_skip ?_; simp [hw1])
          | (refine AWP_exit ?_; simp [hw1])
          | (refine AWP_ret ?_; simp [hw1])
          | refine AWP_block ?_
          | refine AWP_seq ?_)
        refine ALoop_end [] (ih hlt') rfl (by simp) ?_ (by simp) (by simp)
        rw [he]
        simp [hw1]
      · rw [ite_f h2] at hesc
        repeat (first
          | (refine AWP_seq (AWP_regS tOk rfl ?_); simp [hlt'])
          | (refine AWP_regS tOk rfl ?_; simp [hlt'])
          | (refine AWP_skip ?_; simp [hlt'])
          | (refine AWP_exit ?_; simp [hlt'])
          | (refine AWP_ret ?_; simp [hlt'])
          | refine AWP_block ?_
          | refine AWP_seq ?_)
        refine AWP_cond2 rfl (fun h3 => ?_) (fun h3 => ?_)
        · rw [ite_t h3, hexq] at hesc
          repeat (first
            | (refine AWP_seq (AWP_regS tOk rfl ?_); simp)
            | (refine AWP_regS tOk rfl ?_; simp)
            | (refine AWP_skip ?_; simp)
            | (refine AWP_exit ?_; simp)
            | (refine AWP_ret ?_; simp)
            | refine AWP_block ?_
            | refine AWP_seq ?_)
          refine AStep_PC rfl rfl (by simp) (pc_rHex s[j]) rfl ?_
          rintro _ rfl
          simp [hq4]
          have he : quoteTo (s.take (j + 1)) = quoteTo (s.take j) ++ [92, 120, hexD (s[j].toNat / 16), hexD (s[j].toNat % 16)] := by rw [hesc]
          repeat (first
            | (refine AWP_seq (AWP_regS tOk rfl ?_); simp [hw1])
            | (refine AWP_regS tOk rfl ?_; simp [hw1])
            | (refine AWP_skip ?_; simp [hw1])
            | (refine AWP_exit ?_; simp [hw1])
            | (refine AWP_ret ?_; simp [hw1])
            | refine AWP_block ?_
            | refine AWP_seq ?_)
          refine ALoop_end [] (ih hlt') rfl (by simp) ?_ (by simp) (by simp)
          rw [he]
          simp [hw1]
        · rw [ite_f h3] at hesc
          repeat (first
            | (refine AWP_seq (AWP_regS tOk rfl ?_); simp [hlt', hw1, hw2, hw3, hw4, hcut, hq1])
            | (refine AWP_regS tOk rfl ?_; simp [hlt', hw1, hw2, hw3, hw4, hcut, hq1])
            | (refine AWP_skip ?_; simp [hlt', hw1, hw2, hw3, hw4, hcut, hq1])
            | (refine AWP_exit ?_; simp [hlt', hw1, hw2, hw3, hw4, hcut, hq1])
            | (refine AWP_ret ?_; simp [hlt', hw1, hw2, hw3, hw4, hcut, hq1])
            | refine AWP_block ?_
            | refine AWP_seq ?_)
          have he : quoteTo (s.take (j + 1)) = quoteTo (s.take j) ++ [s[j]] := by rw [hesc]
          repeat (first
            | (refine AWP_seq (AWP_regS tOk rfl ?_); simp [hw1])
            | (refine AWP_regS tOk rfl ?_; simp [hw1])
            | (refine AWP_skip ?_; simp [hw1])
            | (refine AWP_exit ?_; simp [hw1])
            | (refine AWP_ret ?_; simp [hw1])
            | refine AWP_block ?_
            | refine AWP_seq ?_)
          refine ALoop_end [] (ih hlt') rfl (by simp) ?_ (by simp) (by simp)
          rw [he]
          simp [hw1]
  · have hge' : j = s.length := by simp at hge; omega
    subst hge'
    rw [List.take_length] at hq1 ⊢
    repeat (first
      | (refine AWP_seq (AWP_regS tOk rfl ?_); simp [hq1])
      | (refine AWP_regS tOk rfl ?_; simp [hq1])
      | (refine AWP_skip ?_; simp [hq1])
      | (refine AWP_exit ?_; simp [hq1])
      | (refine AWP_ret ?_; simp [hq1])
      | refine AWP_block ?_
      | refine AWP_seq ?_)
    rfl
attribute [local irreducible] quoteR
def showR (v : Val) : List UInt8 := if (v.kind == 0) = true then Lib.itoa v.num else if (v.kind == 2) = true then quoteR v.text else if (v.num == 1) = true then [116, 114, 117, 101] else [102, 97, 108, 115, 101]
theorem pc_rShow (v : Val) (hv : checkR v = 0) : PC Tryz.prog 79 [encV v] (fun r => r = .str (showR v)) := by
  refine PC_body tOk Tryz.func79 rfl Tryz.results79 rfl (by simp [Tryz.ntmps79]) ?_
  rw [Tryz.ntmps79]
  simp only [argSlots]
  simp only [encV]
  have hz := checkR_zero hv
  repeat (first
    | (refine AWP_seq (AWP_regS tOk rfl ?_); simp)
    | (refine AWP_regS tOk rfl ?_; simp)
    | (refine AWP_skip ?_; simp)
    | (refine AWP_exit ?_; simp)
    | (refine AWP_ret ?_; simp)
    | refine AWP_block ?_
    | refine AWP_seq ?_)
  refine AWP_cond2 rfl (fun h0 => ?_) (fun h0 => ?_)
  · have hk : v.kind = 0 := by simpa using h0
    repeat (first
      | (refine AWP_seq (AWP_regS tOk rfl ?_); simp)
      | (refine AWP_regS tOk rfl ?_; simp)
      | (refine AWP_skip ?_; simp)
      | (refine AWP_exit ?_; simp)
      | (refine AWP_ret ?_; simp)
      | refine AWP_block ?_
      | refine AWP_seq ?_)
    refine AStep_PC rfl rfl (by simp) (pc_rDecimal v.num.natAbs v.num (Nat.le_refl _) (by omega) (by omega)) rfl ?_
    rintro _ rfl
    simp
    repeat (first
      | (refine AWP_seq (AWP_regS tOk rfl ?_); simp)
      | (refine AWP_regS tOk rfl ?_; simp)
      | (refine AWP_skip ?_; simp)
      | (refine AWP_exit ?_; simp)
      | (refine AWP_ret ?_; simp)
      | refine AWP_block ?_
      | refine AWP_seq ?_)
    rw [showR, ite_t h0]
  repeat (first
    | (refine AWP_seq (AWP_regS tOk rfl ?_); simp)
    | (refine AWP_regS tOk rfl ?_; simp)
    | (refine AWP_skip ?_; simp)
    | (refine AWP_exit ?_; simp)
    | (refine AWP_ret ?_; simp)
    | refine AWP_block ?_
    | refine AWP_seq ?_)
  refine AWP_cond2 rfl (fun h1 => ?_) (fun h1 => ?_)
  · have hk : v.kind = 2 := by simpa using h1
    repeat (first
      | (refine AWP_seq (AWP_regS tOk rfl ?_); simp)
      | (refine AWP_regS tOk rfl ?_; simp)
      | (refine AWP_skip ?_; simp)
      | (refine AWP_exit ?_; simp)
      | (refine AWP_ret ?_; simp)
      | refine AWP_block ?_
      | refine AWP_seq ?_)
    refine AStep_PC rfl rfl (by simp) (pc_rQuote v.text (by omega)) rfl ?_
    rintro _ rfl
    simp
    repeat (first
      | (refine AWP_seq (AWP_regS tOk rfl ?_); simp)
      | (refine AWP_regS tOk rfl ?_; simp)
      | (refine AWP_skip ?_; simp)
      | (refine AWP_exit ?_; simp)
      | (refine AWP_ret ?_; simp)
      | refine AWP_block ?_
      | refine AWP_seq ?_)
    rw [showR, ite_f h0, ite_t h1]
  repeat (first
    | (refine AWP_seq (AWP_regS tOk rfl ?_); simp)
    | (refine AWP_regS tOk rfl ?_; simp)
    | (refine AWP_skip ?_; simp)
    | (refine AWP_exit ?_; simp)
    | (refine AWP_ret ?_; simp)
    | refine AWP_block ?_
    | refine AWP_seq ?_)
  refine AWP_cond2 rfl (fun h2 => ?_) (fun h2 => ?_)
  · repeat (first
      | (refine AWP_seq (AWP_regS tOk rfl ?_); simp)
      | (refine AWP_regS tOk rfl ?_; simp)
      | (refine AWP_skip ?_; simp)
      | (refine AWP_exit ?_; simp)
      | (refine AWP_ret ?_; simp)
      | refine AWP_block ?_
      | refine AWP_seq ?_)
    rw [showR, ite_f h0, ite_f h1, ite_t h2]
  · repeat (first
      | (refine AWP_seq (AWP_regS tOk rfl ?_); simp)
      | (refine AWP_regS tOk rfl ?_; simp)
      | (refine AWP_skip ?_; simp)
      | (refine AWP_exit ?_; simp)
      | (refine AWP_ret ?_; simp)
      | refine AWP_block ?_
      | refine AWP_seq ?_)
    rw [showR, ite_f h0, ite_f h1, ite_f h2]
theorem showR_eq (v : Val) (hv : checkR v = 0) : showR v = fmtText v := by
  unfold showR fmtText
  rcases checkR_zero hv with ⟨hk, _⟩ | ⟨hk, _, hn⟩ | ⟨hk, _⟩
  · simp [hk]
  · rw [hk]; cases (v.num == 1) <;> rfl
  · simp [hk]
end Go.Abs
set_option maxRecDepth 100000
namespace Go.Abs
open Go Go.Proofs
set_option linter.unusedSimpArgs false
/-! The reference's reading of an integer. -/
def satS (n : Int) (c : UInt8) : Int := if 1099511627777 < dstep n c then 1099511627777 else dstep n c
def satV (s : List UInt8) : Int := s.foldl satS 0
theorem satV_snoc (s : List UInt8) (c : UInt8) : satV (s ++ [c]) = satS (satV s) c := by simp [satV]
theorem satV_rng (s : List UInt8) (hd : s.all isD = true) : 0 ≤ satV s ∧ satV s ≤ 1099511627777 := by
  have key : ∀ (s : List UInt8) (n : Int), s.all isD = true → 0 ≤ n → n ≤ 1099511627777 → 0 ≤ s.foldl satS n ∧ s.foldl satS n ≤ 1099511627777 := by
    intro s
    induction s with
    | nil => intro n _ h0 h1; exact ⟨h0, h1⟩
    | cons c s ih =>
      intro n hd h0 h1
      rw [List.all_cons, Bool.and_eq_true] at hd
      have hc := (isD_iff c).1 hd.1
      rw [List.foldl_cons]
      refine ih _ hd.2 ?_ ?_ <;> (unfold satS dstep; split <;> omega)
  exact key s 0 hd (by omega) (by omega)
def rNumB (t : List UInt8) (neg : Bool) : Bool := match t with
  | [] => false
  | c :: r => !(((c.toNat : Int) == 48) && (decide (0 < r.length) || neg)) && (c :: r).all isD
def rNumV (t : List UInt8) (neg : Bool) : Int := if neg = true then -satV t else satV t
def isNeg : List UInt8 → Bool
  | [] => false
  | c :: _ => (c.toNat : Int) == 45
def rNumR (s : List UInt8) : Int × Bool := if rNumB (if isNeg s = true then s.drop 1 else s) (isNeg s) = true then (rNumV (if isNeg s = true then s.drop 1 else s) (isNeg s), true) else (0, false)
set_option maxHeartbeats 1000000 in
theorem pc_rNumber (s : List UInt8) (hs : s.length ≤ 1000000) : PC Tryz.prog 105 [.str s] (fun r => r = .tup [.i (rNumR s).1, .bool (rNumR s).2]) := by
  refine PC_body tOk Tryz.func105 rfl Tryz.results105 rfl (by simp [Tryz.ntmps105]) ?_
  rw [Tryz.ntmps105]
  simp only [argSlots]
  obtain ⟨R, hR⟩ : ∃ R, rNumR s = R := ⟨_, rfl⟩
  rw [hR]
  rw [rNumR] at hR
  repeat (first
    | (refine AWP_seq (AWP_regS tOk rfl ?_); simp)
    | (refine AWP_regS tOk rfl ?_; simp)
    | (refine AWP_skip ?_; simp)
    | (refine AWP_exit ?_; simp)
    | (refine AWP_ret ?_; simp)
    | refine AWP_block ?_
    | refine AWP_seq ?_)
  rcases s with _ | ⟨c0, s⟩
  · repeat (first
      | (refine AWP_seq (AWP_regS tOk rfl ?_); simp)
      | (refine AWP_regS tOk rfl ?_; simp)
      | (refine AWP_skip ?_; simp)
      | (refine AWP_exit ?_; simp)
      | (refine AWP_ret ?_; simp)
      | refine AWP_block ?_
      | refine AWP_seq ?_)
    refine AWP_cond rfl ?_
    repeat (first
      | (refine AWP_seq (AWP_regS tOk rfl ?_); simp)
      | (refine AWP_regS tOk rfl ?_; simp)
      | (refine AWP_skip ?_; simp)
      | (refine AWP_exit ?_; simp)
      | (refine AWP_ret ?_; simp)
      | refine AWP_block ?_
      | refine AWP_seq ?_)
    refine AWP_cond rfl ?_
    repeat (first
      | (refine AWP_seq (AWP_regS tOk rfl ?_); simp)
      | (refine AWP_regS tOk rfl ?_; simp)
      | (refine AWP_skip ?_; simp)
      | (refine AWP_exit ?_; simp)
      | (refine AWP_ret ?_; simp)
      | refine AWP_block ?_
      | refine AWP_seq ?_)
    obtain rfl : (0, false) = R := by rw [← hR]; rfl
    exact ⟨rfl, rfl⟩
  · repeat (first
      | (refine AWP_seq (AWP_regS tOk rfl ?_); simp)
      | (refine AWP_regS tOk rfl ?_; simp)
      | (refine AWP_skip ?_; simp)
      | (refine AWP_exit ?_; simp)
      | (refine AWP_ret ?_; simp)
      | refine AWP_block ?_
      | refine AWP_seq ?_)
    simp only [isNeg, List.drop_one, List.tail_cons] at hR
    refine AWP_cond2 rfl (fun h => ?_) (fun h => ?_)
    · rw [ite_t h] at hR
      rcases s with _ | ⟨c, r⟩
      · repeat (first
          | (refine AWP_seq (AWP_regS tOk rfl ?_); simp [h])
          | (refine AWP_regS tOk rfl ?_; simp [h])
          | (refine AWP_skip ?_; simp [h])
          | (refine AWP_exit ?_; simp [h])
          | (refine AWP_ret ?_; simp [h])
          | refine AWP_block ?_
          | refine AWP_seq ?_)
        refine AWP_cond rfl ?_
        repeat (first
          | (refine AWP_seq (AWP_regS tOk rfl ?_); simp)
          | (refine AWP_regS tOk rfl ?_; simp)
          | (refine AWP_skip ?_; simp)
          | (refine AWP_exit ?_; simp)
          | (refine AWP_ret ?_; simp)
          | refine AWP_block ?_
          | refine AWP_seq ?_)
        obtain rfl : (0, false) = R := by rw [← hR]; rfl
        exact ⟨rfl, rfl⟩
      · rw [h] at hR
        have hr1 : (1 : Int) ≤ (r.length : Int) + 1 + 1 := by omega
        have hz0 : (((r.length : Int) + 1) == 0) = false := by simp; omega
        repeat (first
          | (refine AWP_seq (AWP_regS tOk rfl ?_); simp [h, hr1, hz0])
          | (refine AWP_regS tOk rfl ?_; simp [h, hr1, hz0])
          | (refine AWP_skip ?_; simp [h, hr1, hz0])
          | (refine AWP_exit ?_; simp [h, hr1, hz0])
          | (refine AWP_ret ?_; simp [h, hr1, hz0])
          | refine AWP_block ?_
          | refine AWP_seq ?_)
        have hz : (((r.length : Int) + 1) == 0) = false := by simp; omega
        have h1l : decide ((1 : Int) < (r.length : Int) + 1) = decide (0 < r.length) := by rw [Bool.eq_iff_iff]; simp; omega
        have hb0 : rNumB (c :: r) true = (!(((c.toNat : Int) == 48) && (decide (0 < r.length) || true)) && (c :: r).all isD) := rfl
        rw [hb0] at hR
        repeat (first
          | (refine AWP_seq (AWP_regS tOk rfl ?_); simp [hz, h1l, h, hr1])
          | (refine AWP_regS tOk rfl ?_; simp [hz, h1l, h, hr1])
          | (refine AWP_skip ?_; simp [hz, h1l, h, hr1])
          | (refine AWP_exit ?_; simp [hz, h1l, h, hr1])
          | (refine AWP_ret ?_; simp [hz, h1l, h, hr1])
          | refine AWP_block ?_
          | refine AWP_seq ?_)
        refine AWP_cond2 rfl (fun h1 => ?_) (fun h1 => ?_)
        · repeat (first
            | (refine AWP_seq (AWP_regS tOk rfl ?_); simp)
            | (refine AWP_regS tOk rfl ?_; simp)
            | (refine AWP_skip ?_; simp)
            | (refine AWP_exit ?_; simp)
            | (refine AWP_ret ?_; simp)
            | refine AWP_block ?_
            | refine AWP_seq ?_)
          rw [ite_f (by revert h1; cases ((c.toNat : Int) == 48) <;> cases (decide (0 < r.length)) <;> simp)] at hR
          subst hR
          exact ⟨rfl, rfl⟩
        rw [show (((c.toNat : Int) == 48) && (decide (0 < r.length) || true)) = false by revert h1; cases ((c.toNat : Int) == 48) <;> cases (decide (0 < r.length)) <;> simp] at hR
        simp only [Bool.not_false, Bool.true_and] at hR
        generalize hcc : c :: r = t at *
        have htl' : t.length = r.length + 1 := by rw [← hcc]; rfl
        have htl2 : t.length ≤ 1000001 := by first | omega | (simp at hs; omega)
        repeat (first
          | (refine AWP_seq (AWP_regS tOk rfl ?_); simp)
          | (refine AWP_regS tOk rfl ?_; simp)
          | (refine AWP_skip ?_; simp)
          | (refine AWP_exit ?_; simp)
          | (refine AWP_ret ?_; simp)
          | refine AWP_block ?_
          | refine AWP_seq ?_)
        refine AWP_countI t.length (fun j => (t.take j).all isD = true) (fun j => [(0, .str t), (4, .bool true), (5, .i (satV (t.take j))), (6, .i j)]) (fun _ => []) rfl (by simp) (by simp [satV]) (by simp) (by simp) (by simp) ?_
        intro j hj hI ih
        repeat (first
          | (refine AWP_seq (AWP_regS tOk rfl ?_); simp)
          | (refine AWP_regS tOk rfl ?_; simp)
          | (refine AWP_skip ?_; simp)
          | (refine AWP_exit ?_; simp)
          | (refine AWP_ret ?_; simp)
          | refine AWP_block ?_
          | refine AWP_seq ?_)
        refine AWP_cond2 rfl (fun hlt => ?_) (fun hge => ?_)
        · have hlt' : j < t.length := by simpa using hlt
          have hsr := satV_rng (t.take j) hI
          have hI2 : (t.take (j + 1)).all isD = isD t[j] := by rw [List.take_succ_eq_append_getElem hlt', List.all_append, hI]; simp
          have hall : t.all isD = true → isD t[j] = true := fun h => List.all_eq_true.1 h _ (List.getElem_mem hlt')
          repeat (first
            | (refine AWP_seq (AWP_regS tOk rfl ?_); simp [hlt'])
            | (refine AWP_regS tOk rfl ?_; simp [hlt'])
            | (refine AWP_skip ?_; simp [hlt'])
            | (refine AWP_exit ?_; simp [hlt'])
            | (refine AWP_ret ?_; simp [hlt'])
            | refine AWP_block ?_
            | refine AWP_seq ?_)
          refine AWP_cond2 rfl (fun h2 => ?_) (fun h2 => ?_)
          · have hnd : isD t[j] = false := by rw [Bool.eq_false_iff]; intro hd; have := (isD_iff t[j]).1 hd; simp at h2; omega
            repeat (first
              | (refine AWP_seq (AWP_regS tOk rfl ?_); simp)
              | (refine AWP_regS tOk rfl ?_; simp)
              | (refine AWP_skip ?_; simp)
              | (refine AWP_exit ?_; simp)
              | (refine AWP_ret ?_; simp)
              | refine AWP_block ?_
              | refine AWP_seq ?_)
            rw [ite_f (by rw [Bool.eq_false_iff]; intro hd; rw [hall hd] at hnd; cases hnd)] at hR
            subst hR
            exact ⟨rfl, rfl⟩
          · have hd : 48 ≤ t[j].toNat ∧ t[j].toNat ≤ 57 := by simp at h2; omega
            have hdj : isD t[j] = true := (isD_iff t[j]).2 hd
            have hw : IntKind.i64.wrap ((j : Int) + 1) = j + 1 := wrap_i64 _ (by omega) (by omega)
            have hu : IntKind.u8.wrap ((t[j].toNat : Int) - 48) = (t[j].toNat : Int) - 48 := by rw [IntKind.wrap_u8]; omega
            have e1 : IntKind.i64.wrap (10 * satV (t.take j)) = 10 * satV (t.take j) := wrap_i64 _ (by omega) (by omega)
            have e2 : IntKind.i64.wrap ((t[j].toNat : Int) - 48) = (t[j].toNat : Int) - 48 := wrap_i64 _ (by omega) (by omega)
            have e3 : IntKind.i64.wrap (10 * satV (t.take j) + ((t[j].toNat : Int) - 48)) = 10 * satV (t.take j) + ((t[j].toNat : Int) - 48) := wrap_i64 _ (by omega) (by omega)
            have hst : satV (t.take (j + 1)) = if 1099511627777 < 10 * satV (t.take j) + ((t[j].toNat : Int) - 48) then 1099511627777 else 10 * satV (t.take j) + ((t[j].toNat : Int) - 48) := by
              rw [List.take_succ_eq_append_getElem hlt', satV_snoc, satS, dstep, Int.mul_comm]
            repeat (first
              | (refine AWP_seq (AWP_regS tOk rfl ?_); simp [hlt', hu, e1, e2, e3, hw])
              | (refine AWP_regS tOk rfl ?_; simp [hlt', hu, e1, e2, e3, hw])
              | (refine AWP_skip ?_; simp [hlt', hu, e1, e2, e3, hw])
              | (refine AWP_exit ?_; simp [hlt', hu, e1, e2, e3, hw])
              | (refine AWP_ret ?_; simp [hlt', hu, e1, e2, e3, hw])
              | refine AWP_block ?_
              | refine AWP_seq ?_)
            refine ALoop_end [] (ih hlt' (by rw [hI2]; exact hdj)) rfl (by simp) ?_ (by simp) (by simp)
            rw [hst]
            simp
        · have hge' : j = t.length := by simp at hge; omega
          subst hge'
          rw [List.take_length] at hI ⊢
          rw [ite_t hI] at hR
          have hsr := satV_rng t hI
          subst hR
          repeat (first
            | (refine AWP_seq (AWP_regS tOk rfl ?_); simp)
            | (refine AWP_regS tOk rfl ?_; simp)
            | (refine AWP_skip ?_; simp)
            | (refine AWP_exit ?_; simp)
            | (refine AWP_ret ?_; simp)
            | refine AWP_block ?_
            | refine AWP_seq ?_)
          refine AWP_cond rfl ?_
          repeat (first
            | (refine AWP_seq (AWP_regS tOk rfl ?_); simp)
            | (refine AWP_regS tOk rfl ?_; simp)
            | (refine AWP_skip ?_; simp)
            | (refine AWP_exit ?_; simp)
            | (refine AWP_ret ?_; simp)
            | refine AWP_block ?_
            | refine AWP_seq ?_)
          have hwn : IntKind.i64.wrap (-satV t) = -satV t := wrap_i64 _ (by omega) (by omega)
          simp [rNumV, hwn]
    · rw [ite_f h] at hR
      rw [h] at hR
      have hz : (((s.length : Int) + 1) == 0) = false := by simp; omega
      have h1l : decide ((1 : Int) < (s.length : Int) + 1) = decide (0 < s.length) := by rw [Bool.eq_iff_iff]; simp; omega
      have hb0 : rNumB (c0 :: s) false = (!(((c0.toNat : Int) == 48) && (decide (0 < s.length) || false)) && (c0 :: s).all isD) := rfl
      rw [hb0] at hR
      repeat (first
        | (refine AWP_seq (AWP_regS tOk rfl ?_); simp [hz, h1l, h])
        | (refine AWP_regS tOk rfl ?_; simp [hz, h1l, h])
        | (refine AWP_skip ?_; simp [hz, h1l, h])
        | (refine AWP_exit ?_; simp [hz, h1l, h])
        | (refine AWP_ret ?_; simp [hz, h1l, h])
        | refine AWP_block ?_
        | refine AWP_seq ?_)
      refine AWP_cond2 rfl (fun h1 => ?_) (fun h1 => ?_)
      · repeat (first
          | (refine AWP_seq (AWP_regS tOk rfl ?_); simp)
          | (refine AWP_regS tOk rfl ?_; simp)
          | (refine AWP_skip ?_; simp)
          | (refine AWP_exit ?_; simp)
          | (refine AWP_ret ?_; simp)
          | refine AWP_block ?_
          | refine AWP_seq ?_)
        rw [ite_f (by revert h1; cases ((c0.toNat : Int) == 48) <;> cases (decide (0 < s.length)) <;> simp)] at hR
        subst hR
        exact ⟨rfl, rfl⟩
      rw [show (((c0.toNat : Int) == 48) && (decide (0 < s.length) || false)) = false by revert h1; cases ((c0.toNat : Int) == 48) <;> cases (decide (0 < s.length)) <;> simp] at hR
      simp only [Bool.not_false, Bool.true_and] at hR
      generalize hcc : c0 :: s = t at *
      have htl' : t.length = s.length + 1 := by rw [← hcc]; rfl
      have htl2 : t.length ≤ 1000001 := by first | omega | (simp at hs; omega)
      repeat (first
        | (refine AWP_seq (AWP_regS tOk rfl ?_); simp)
        | (refine AWP_regS tOk rfl ?_; simp)
        | (refine AWP_skip ?_; simp)
        | (refine AWP_exit ?_; simp)
        | (refine AWP_ret ?_; simp)
        | refine AWP_block ?_
        | refine AWP_seq ?_)
      refine AWP_countI t.length (fun j => (t.take j).all isD = true) (fun j => [(0, .str t), (4, .bool false), (5, .i (satV (t.take j))), (6, .i j)]) (fun _ => []) rfl (by simp) (by simp [satV]) (by simp) (by simp) (by simp) ?_
      intro j hj hI ih
      repeat (first
        | (refine AWP_seq (AWP_regS tOk rfl ?_); simp)
        | (refine AWP_regS tOk rfl ?_; simp)
        | (refine AWP_skip ?_; simp)
        | (refine AWP_exit ?_; simp)
        | (refine AWP_ret ?_; simp)
        | refine AWP_block ?_
        | refine AWP_seq ?_)
      refine AWP_cond2 rfl (fun hlt => ?_) (fun hge => ?_)
      · have hlt' : j < t.length := by simpa using hlt
        have hsr := satV_rng (t.take j) hI
        have hI2 : (t.take (j + 1)).all isD = isD t[j] := by rw [List.take_succ_eq_append_getElem hlt', List.all_append, hI]; simp
        have hall : t.all isD = true → isD t[j] = true := fun h => List.all_eq_true.1 h _ (List.getElem_mem hlt')
        repeat (first
          | (refine AWP_seq (AWP_regS tOk rfl ?_); simp [hlt'])
          | (refine AWP_regS tOk rfl ?_; simp [hlt'])
          | (refine AWP_skip ?_; simp [hlt'])
          | (refine AWP_exit ?_; simp [hlt'])
          | (refine AWP_ret ?_; simp [hlt'])
          | refine AWP_block ?_
          | refine AWP_seq ?_)
        refine AWP_cond2 rfl (fun h2 => ?_) (fun h2 => ?_)
        · have hnd : isD t[j] = false := by rw [Bool.eq_false_iff]; intro hd; have := (isD_iff t[j]).1 hd; simp at h2; omega
          repeat (first
            | (refine AWP_seq (AWP_regS tOk rfl ?_); simp)
            | (refine AWP_regS tOk rfl ?_; simp)
            | (refine AWP_skip ?_; simp)
            | (refine AWP_exit ?_; simp)
            | (refine AWP_ret ?_; simp)
            | refine AWP_block ?_
            | refine AWP_seq ?_)
          rw [ite_f (by rw [Bool.eq_false_iff]; intro hd; rw [hall hd] at hnd; cases hnd)] at hR
          subst hR
          exact ⟨rfl, rfl⟩
        · have hd : 48 ≤ t[j].toNat ∧ t[j].toNat ≤ 57 := by simp at h2; omega
          have hdj : isD t[j] = true := (isD_iff t[j]).2 hd
          have hw : IntKind.i64.wrap ((j : Int) + 1) = j + 1 := wrap_i64 _ (by omega) (by omega)
          have hu : IntKind.u8.wrap ((t[j].toNat : Int) - 48) = (t[j].toNat : Int) - 48 := by rw [IntKind.wrap_u8]; omega
          have e1 : IntKind.i64.wrap (10 * satV (t.take j)) = 10 * satV (t.take j) := wrap_i64 _ (by omega) (by omega)
          have e2 : IntKind.i64.wrap ((t[j].toNat : Int) - 48) = (t[j].toNat : Int) - 48 := wrap_i64 _ (by omega) (by omega)
          have e3 : IntKind.i64.wrap (10 * satV (t.take j) + ((t[j].toNat : Int) - 48)) = 10 * satV (t.take j) + ((t[j].toNat : Int) - 48) := wrap_i64 _ (by omega) (by omega)
          have hst : satV (t.take (j + 1)) = if 1099511627777 < 10 * satV (t.take j) + ((t[j].toNat : Int) - 48) then 1099511627777 else 10 * satV (t.take j) + ((t[j].toNat : Int) - 48) := by
            rw [List.take_succ_eq_append_getElem hlt', satV_snoc, satS, dstep, Int.mul_comm]
          repeat (first
            | (refine AWP_seq (AWP_regS tOk rfl ?_); simp [hlt', hu, e1, e2, e3, hw])
            | (refine AWP_regS tOk rfl ?_; simp [hlt', hu, e1, e2, e3, hw])
            | (refine AWP_skip ?_; simp [hlt', hu, e1, e2, e3, hw])
            | (refine AWP_exit ?_; simp [hlt', hu, e1, e2, e3, hw])
            | (refine AWP_ret ?_; simp [hlt', hu, e1, e2, e3, hw])
            | refine AWP_block ?_
            | refine AWP_seq ?_)
          refine ALoop_end [] (ih hlt' (by rw [hI2]; exact hdj)) rfl (by simp) ?_ (by simp) (by simp)
          rw [hst]
          simp
      · have hge' : j = t.length := by simp at hge; omega
        subst hge'
        rw [List.take_length] at hI ⊢
        rw [ite_t hI] at hR
        have hsr := satV_rng t hI
        subst hR
        repeat (first
          | (refine AWP_seq (AWP_regS tOk rfl ?_); simp)
          | (refine AWP_regS tOk rfl ?_; simp)
          | (refine AWP_skip ?_; simp)
          | (refine AWP_exit ?_; simp)
          | (refine AWP_ret ?_; simp)
          | refine AWP_block ?_
          | refine AWP_seq ?_)
        refine AWP_cond rfl ?_
        repeat (first
          | (refine AWP_seq (AWP_regS tOk rfl ?_); simp)
          | (refine AWP_regS tOk rfl ?_; simp)
          | (refine AWP_skip ?_; simp)
          | (refine AWP_exit ?_; simp)
          | (refine AWP_ret ?_; simp)
          | refine AWP_block ?_
          | refine AWP_seq ?_)
        have hwn : IntKind.i64.wrap (-satV t) = -satV t := wrap_i64 _ (by omega) (by omega)
        simp [rNumV, hwn]
end Go.Abs
set_option maxRecDepth 100000
namespace Go.Abs
open Go Go.Proofs
set_option linter.unusedSimpArgs false
/-! The reference's reading of a string. -/
def unqG : Nat → List UInt8 → List UInt8 → Option (List UInt8 × List UInt8)
  | 0, _, _ => none
  | _ + 1, [], _ => none
  | n + 1, c :: r, out => if ((c.toNat : Int) == 34) = true then some (out, r) else if ((c.toNat : Int) == 92) = true then (match escR r with
      | none => none
      | some (b, r') => unqG n r' (out ++ [b])) else if printB c = true then unqG n r (out ++ [c]) else none
def gF (x : Option (List UInt8 × List UInt8)) : List UInt8 × Bool := match x with
  | none => ([], false)
  | some (o, r) => (o, r == [])
theorem unqF_G (n : Nat) (rest out : List UInt8) : unqF n rest out = gF (unqG n rest out) := by
  induction n generalizing rest out with
  | zero => rfl
  | succ n ih =>
    cases rest with
    | nil => rfl
    | cons c r =>
      rw [unqF, unqG]
      split
      · rename_i h
        have hc : c = 34 := by apply UInt8.toNat_inj.1; simp at h; show c.toNat = 34; omega
        subst hc
        rw [gF]
        congr 1
      · split
        · cases escR r with
          | none => rfl
          | some p => exact ih _ _
        · split
          · exact ih _ _
          · rfl
theorem unqG_nil (n : Nat) (out : List UInt8) : unqG n [] out = none := by cases n <;> rfl
def unqN (len : Nat) (x : Option (List UInt8 × List UInt8)) : List UInt8 × Int := match x with
  | none => ([], 0)
  | some (o, r) => (o, (len : Int) - r.length)
theorem cut2 (s : List UInt8) (i j : Nat) (a : UInt8) (h : s[i]? = some a) (hj : j = i + 1) : (s.take j).drop i = [a] := by
  have hl : i < s.length := (List.getElem?_eq_some_iff.1 h).1
  subst hj
  rw [drop_take_one s i hl]
  rw [List.getElem?_eq_getElem hl] at h
  cases h; rfl
attribute [local irreducible] hexI hexV printB
theorem dget (s l : List UInt8) (k m : Nat) (h : s.drop k = l) : s[k + m]? = l[m]? := by rw [← h, List.getElem?_drop]
theorem drop_succ2 {s r : List UInt8} {i : Nat} {a : UInt8} (h : s.drop (i + 1) = a :: r) : s.drop (i + 2) = r := by
  have := congrArg (List.drop 1) h
  rw [List.drop_drop] at this
  exact this
set_option maxHeartbeats 4000000 in
theorem pc_rUnquote (c0 : UInt8) (s0 : List UInt8) (hs : s0.length ≤ 1000000) (hq : ((c0.toNat : Int) == 34) = true) : PC Tryz.prog 103 [.str (c0 :: s0)] (fun r => r = .tup [.str (unqN (s0.length + 1) (unqG s0.length s0 [])).1, .i (unqN (s0.length + 1) (unqG s0.length s0 [])).2]) := by
  refine PC_body tOk Tryz.func103 rfl Tryz.results103 rfl (by simp [Tryz.ntmps103]) ?_
  rw [Tryz.ntmps103]
  simp only [argSlots]
  obtain ⟨RES, hres⟩ : ∃ RES, unqG s0.length s0 [] = RES := ⟨_, rfl⟩
  rw [hres]
  have hne : ((c0.toNat : Int) != 34) = false := by simpa using hq
  have hz : (((s0.length : Int) + 1) == 0) = false := by simp; omega
  repeat (first
    | (refine AWP_seq (AWP_regS tOk rfl ?_); simp [hq, hne, hz])
    | (refine AWP_regS tOk rfl ?_; simp [hq, hne, hz])
    | (refine AWP_skip ?_; simp [hq, hne, hz])
    | (refine AWP_exit ?_; simp [hq, hne, hz])
    | (refine AWP_ret ?_; simp [hq, hne, hz])
    | refine AWP_block ?_
    | refine AWP_seq ?_)
  refine AWP_cond rfl ?_
  repeat (first
    | (refine AWP_seq (AWP_regS tOk rfl ?_); simp)
    | (refine AWP_regS tOk rfl ?_; simp)
    | (refine AWP_skip ?_; simp)
    | (refine AWP_exit ?_; simp)
    | (refine AWP_ret ?_; simp)
    | refine AWP_block ?_
    | refine AWP_seq ?_)
  obtain ⟨s, hss⟩ : ∃ s, c0 :: s0 = s := ⟨_, rfl⟩
  have hsl : s.length = s0.length + 1 := by rw [← hss]; rfl
  have hs0 : s.drop 1 = s0 := by rw [← hss]; rfl
  rw [hss, ← hsl]
  refine AWP_loop (ALoop_keep (sl' := [(0, .str s), (4, .str []), (5, .i 1)]) ?_ (by simp))
  refine ALoop_wf (F := fun (u : Nat × List UInt8) => ⟨[(0, .str s), (4, .str u.2), (5, .i u.1)], []⟩) (fun u => (1 ≤ u.1 ∧ u.1 ≤ s.length) ∧ u.2.length ≤ u.1 ∧ ∃ n, s.length ≤ n + u.1 ∧ unqG n (s.drop u.1) u.2 = RES) (fun u => s.length - u.1) ?_ (1, []) ⟨by simp; omega, by simp, s0.length, by simp; omega, by simp only [hs0]; exact hres⟩
  rintro ⟨i, out⟩ ⟨⟨hi0, hi1⟩, ho, n, hn, hI⟩ ih
  simp only at hi0 hi1 ho hn hI ih ⊢
  repeat (first
    | (refine AWP_seq (AWP_regS tOk rfl ?_); simp)
    | (refine AWP_regS tOk rfl ?_; simp)
    | (refine AWP_skip ?_; simp)
    | (refine AWP_exit ?_; simp)
    | (refine AWP_ret ?_; simp)
    | refine AWP_block ?_
    | refine AWP_seq ?_)
  refine AWP_cond2 rfl (fun hlt => ?_) (fun hge => ?_)
  · have hlt' : i < s.length := by simpa using hlt
    obtain ⟨c, hc⟩ : ∃ c, s[i] = c := ⟨_, rfl⟩
    have hcq : s[i]? = some c := by rw [List.getElem?_eq_getElem hlt', hc]
    obtain ⟨r, hr⟩ : ∃ r, s.drop (i + 1) = r := ⟨_, rfl⟩
    have hrl : r.length = s.length - (i + 1) := by rw [← hr]; simp
    rw [drop_get hlt', hc, hr] at hI
    obtain ⟨n, rfl⟩ : ∃ k, n = k + 1 := ⟨n - 1, by omega⟩
    rw [unqG] at hI
    have hw1 : IntKind.i64.wrap ((i : Int) + 1) = i + 1 := wrap_i64 _ (by omega) (by omega)
    have hw2 : IntKind.i64.wrap ((i : Int) + 2) = i + 2 := wrap_i64 _ (by omega) (by omega)
    have hw3 : IntKind.i64.wrap ((i : Int) + 3) = i + 3 := wrap_i64 _ (by omega) (by omega)
    have hw4 : IntKind.i64.wrap ((i : Int) + 4) = i + 4 := wrap_i64 _ (by omega) (by omega)
    have hp1 : (0 : Int) ≤ (i : Int) + 1 := by omega
    have hp2 : (0 : Int) ≤ (i : Int) + 2 := by omega
    have hp3 : (0 : Int) ≤ (i : Int) + 3 := by omega
    have ht1 : ((i : Int) + 1).toNat = i + 1 := by omega
    have ht2 : ((i : Int) + 2).toNat = i + 2 := by omega
    have ht3 : ((i : Int) + 3).toNat = i + 3 := by omega
    have hol : out.length + 1 ≤ 9223372036854775807 := by omega
    repeat (first
      | (refine AWP_seq (AWP_regS tOk rfl ?_); simp [hlt', hc])
      | (refine AWP_regS tOk rfl ?_; simp [hlt', hc])
      | (refine AWP_skip ?_; simp [hlt', hc])
      | (refine AWP_exit ?_; simp [hlt', hc])
      | (refine AWP_ret ?_; simp [hlt', hc])
      | refine AWP_block ?_
      | refine AWP_seq ?_)
    refine AWP_cond2 rfl (fun h1 => ?_) (fun h1 => ?_)
    · rw [ite_t h1] at hI
      repeat (first
        | (refine AWP_seq (AWP_regS tOk rfl ?_); simp [hw1])
        | (refine AWP_regS tOk rfl ?_; simp [hw1])
        | (refine AWP_skip ?_; simp [hw1])
        | (refine AWP_exit ?_; simp [hw1])
        | (refine AWP_ret ?_; simp [hw1])
        | refine AWP_block ?_
        | refine AWP_seq ?_)
      subst hI
      simp [unqN]
      omega
    rw [ite_f h1] at hI
    repeat (first
      | (refine AWP_seq (AWP_regS tOk rfl ?_); simp)
      | (refine AWP_regS tOk rfl ?_; simp)
      | (refine AWP_skip ?_; simp)
      | (refine AWP_exit ?_; simp)
      | (refine AWP_ret ?_; simp)
      | refine AWP_block ?_
      | refine AWP_seq ?_)
    refine AWP_cond2 rfl (fun h2 => ?_) (fun h2 => ?_)
    · have hc92 : ((c.toNat : Int) == 92) = false := by simp at h2 ⊢; omega
      have hpb : printB c = false := by unfold printB; simp at h2 ⊢; omega
      rw [ite_f hc92, if_neg (by rw [hpb]; decide)] at hI
      repeat (first
        | (refine AWP_seq (AWP_regS tOk rfl ?_); simp)
        | (refine AWP_regS tOk rfl ?_; simp)
        | (refine AWP_skip ?_; simp)
        | (refine AWP_exit ?_; simp)
        | (refine AWP_ret ?_; simp)
        | refine AWP_block ?_
        | refine AWP_seq ?_)
      subst hI
      exact ⟨rfl, rfl⟩
    have hpb : printB c = true := by unfold printB; simp at h2 ⊢; omega
    repeat (first
      | (refine AWP_seq (AWP_regS tOk rfl ?_); simp)
      | (refine AWP_regS tOk rfl ?_; simp)
      | (refine AWP_skip ?_; simp)
      | (refine AWP_exit ?_; simp)
      | (refine AWP_ret ?_; simp)
      | refine AWP_block ?_
      | refine AWP_seq ?_)
    refine AWP_cond2 rfl (fun h3 => ?_) (fun h3 => ?_)
    · have hc92 : ((c.toNat : Int) == 92) = false := by simpa using h3
      rw [ite_f hc92, if_pos hpb] at hI
      have hcut := cut2 s i (i + 1) c hcq rfl
      have hle : (i : Int) + 1 ≤ s.length := by omega
      repeat (first
        | (refine AWP_seq (AWP_regS tOk rfl ?_); simp [hw1, hp1, ht1, hcut, hle, hol])
        | (refine AWP_regS tOk rfl ?_; simp [hw1, hp1, ht1, hcut, hle, hol])
        | (refine AWP_skip ?_; simp [hw1, hp1, ht1, hcut, hle, hol])
        | (refine AWP_exit ?_; simp [hw1, hp1, ht1, hcut, hle, hol])
        | (refine AWP_ret ?_; simp [hw1, hp1, ht1, hcut, hle, hol])
        | refine AWP_block ?_
        | refine AWP_seq ?_)
      refine ALoop_end [] (ih (i + 1, out ++ [c]) ⟨by simp; omega, by simp; omega, n, by simp; omega, by simp only [hr]; exact hI⟩ (by simp; omega)) rfl (by simp) ?_ (by simp) (by simp)
      simp
    have hc92 : ((c.toNat : Int) == 92) = true := by simpa using h3
    rw [ite_t hc92] at hI
    have n1 : s[i + 1]? = r[0]? := dget s r (i + 1) 0 hr
    have n2 : s[i + 2]? = r[1]? := dget s r (i + 1) 1 hr
    have n3 : s[i + 3]? = r[2]? := dget s r (i + 1) 2 hr
    rcases r with _ | ⟨a, r⟩
    · have hb1 : ¬ (i : Int) + 1 < s.length := by simp at hrl; omega
      have hb3 : ¬ (i : Int) + 3 < s.length := by simp at hrl; omega
      simp only [List.getElem?_nil] at n1 n2 n3
      repeat (first
        | (refine AWP_seq (AWP_regS tOk rfl ?_); simp [hw1, hb1, hp1, ht1, n1])
        | (refine AWP_regS tOk rfl ?_; simp [hw1, hb1, hp1, ht1, n1])
        | (refine AWP_skip ?_; simp [hw1, hb1, hp1, ht1, n1])
        | (refine AWP_exit ?_; simp [hw1, hb1, hp1, ht1, n1])
        | (refine AWP_ret ?_; simp [hw1, hb1, hp1, ht1, n1])
        | refine AWP_block ?_
        | refine AWP_seq ?_)
      refine AWP_cond rfl ?_
      repeat (first
        | (refine AWP_seq (AWP_regS tOk rfl ?_); simp [hw1, hb1, hp1, ht1, n1])
        | (refine AWP_regS tOk rfl ?_; simp [hw1, hb1, hp1, ht1, n1])
        | (refine AWP_skip ?_; simp [hw1, hb1, hp1, ht1, n1])
        | (refine AWP_exit ?_; simp [hw1, hb1, hp1, ht1, n1])
        | (refine AWP_ret ?_; simp [hw1, hb1, hp1, ht1, n1])
        | refine AWP_block ?_
        | refine AWP_seq ?_)
      refine AWP_cond rfl ?_
      have hI : none = RES := hI
      repeat (first
        | (refine AWP_seq (AWP_regS tOk rfl ?_); simp [hw1, hw2, hw3, hb3, hp1, ht1, n1, hp2, ht2, n2, hp3, ht3, n3, hw1])
        | (refine AWP_regS tOk rfl ?_; simp [hw1, hw2, hw3, hb3, hp1, ht1, n1, hp2, ht2, n2, hp3, ht3, n3, hw1])
        | (refine AWP_skip ?_; simp [hw1, hw2, hw3, hb3, hp1, ht1, n1, hp2, ht2, n2, hp3, ht3, n3, hw1])
        | (refine AWP_exit ?_; simp [hw1, hw2, hw3, hb3, hp1, ht1, n1, hp2, ht2, n2, hp3, ht3, n3, hw1])
        | (refine AWP_ret ?_; simp [hw1, hw2, hw3, hb3, hp1, ht1, n1, hp2, ht2, n2, hp3, ht3, n3, hw1])
        | refine AWP_block ?_
        | refine AWP_seq ?_)
      refine AStep_skip rfl rfl ?_
      simp [hw3, hp3, ht3, n3]
      refine AStep_skip rfl rfl ?_
      simp
      refine AWP_cond rfl ?_
      repeat (first
        | (refine AWP_seq (AWP_regS tOk rfl ?_); simp)
        | (refine AWP_regS tOk rfl ?_; simp)
        | (refine AWP_skip ?_; simp)
        | (refine AWP_exit ?_; simp)
        | (refine AWP_ret ?_; simp)
        | refine AWP_block ?_
        | refine AWP_seq ?_)
      subst hI
      exact ⟨rfl, rfl⟩
    · have hl1 : (i : Int) + 1 < s.length := by simp at hrl; omega
      have hl2 : (i : Int) + 2 ≤ s.length := by simp at hrl; omega
      have hcut := cut2 s (i + 1) (i + 2) a (by rw [n1]; rfl) rfl
      simp only [List.getElem?_cons_zero, List.getElem?_cons_succ] at n1 n2 n3
      repeat (first
        | (refine AWP_seq (AWP_regS tOk rfl ?_); simp [hw1, hl1, hp1, ht1, n1])
        | (refine AWP_regS tOk rfl ?_; simp [hw1, hl1, hp1, ht1, n1])
        | (refine AWP_skip ?_; simp [hw1, hl1, hp1, ht1, n1])
        | (refine AWP_exit ?_; simp [hw1, hl1, hp1, ht1, n1])
        | (refine AWP_ret ?_; simp [hw1, hl1, hp1, ht1, n1])
        | refine AWP_block ?_
        | refine AWP_seq ?_)
      refine AWP_cond2 rfl (fun h4 => ?_) (fun h4 => ?_)
      · have he : escR (a :: r) = some (a, r) := by rw [escR, ite_t (by simpa using h4)]
        rw [he] at hI
        repeat (first
          | (refine AWP_seq (AWP_regS tOk rfl ?_); simp [hw1, hw2, hp1, ht1, hp2, ht2, hcut, hl2, hol])
          | (refine AWP_regS tOk rfl ?_; simp [hw1, hw2, hp1, ht1, hp2, ht2, hcut, hl2, hol])
          | (refine AWP_skip ?_; simp [hw1, hw2, hp1, ht1, hp2, ht2, hcut, hl2, hol])
          | (refine AWP_exit ?_; simp [hw1, hw2, hp1, ht1, hp2, ht2, hcut, hl2, hol])
          | (refine AWP_ret ?_; simp [hw1, hw2, hp1, ht1, hp2, ht2, hcut, hl2, hol])
          | refine AWP_block ?_
          | refine AWP_seq ?_)
        refine ALoop_end [] (ih (i + 2, out ++ [a]) ⟨by simp; omega, by simp; omega, n, by simp; omega, by simp only [drop_succ2 hr]; exact hI⟩ (by simp; omega)) rfl (by simp) ?_ (by simp) (by simp)
        simp
      have h4' : ((a.toNat : Int) == 34 || (a.toNat : Int) == 92) = false := by simpa using h4
      repeat (first
        | (refine AWP_seq (AWP_regS tOk rfl ?_); simp [hw1, hl1, hp1, ht1, n1])
        | (refine AWP_regS tOk rfl ?_; simp [hw1, hl1, hp1, ht1, n1])
        | (refine AWP_skip ?_; simp [hw1, hl1, hp1, ht1, n1])
        | (refine AWP_exit ?_; simp [hw1, hl1, hp1, ht1, n1])
        | (refine AWP_ret ?_; simp [hw1, hl1, hp1, ht1, n1])
        | refine AWP_block ?_
        | refine AWP_seq ?_)
      refine AWP_cond2 rfl (fun h5 => ?_) (fun h5 => ?_)
      · have he : escR (a :: r) = some (10, r) := by rw [escR, ite_f h4', ite_t (by simpa using h5)]
        rw [he] at hI
        repeat (first
          | (refine AWP_seq (AWP_regS tOk rfl ?_); simp [hw2, hol])
          | (refine AWP_regS tOk rfl ?_; simp [hw2, hol])
          | (refine AWP_skip ?_; simp [hw2, hol])
          | (refine AWP_exit ?_; simp [hw2, hol])
          | (refine AWP_ret ?_; simp [hw2, hol])
          | refine AWP_block ?_
          | refine AWP_seq ?_)
        refine ALoop_end [] (ih (i + 2, out ++ [10]) ⟨by simp; omega, by simp; omega, n, by simp; omega, by simp only [drop_succ2 hr]; exact hI⟩ (by simp; omega)) rfl (by simp) ?_ (by simp) (by simp)
        simp
      have h5' : ((a.toNat : Int) == 110) = false := by simpa using h5
      by_cases h6 : ((a.toNat : Int) == 120) = true
      · have he : escR (a :: r) = escX r := by rw [escR, ite_f h4', ite_f h5', ite_t h6]
        rw [he] at hI
        rcases r with _ | ⟨b, _ | ⟨d, r⟩⟩
        · have hb3 : ¬ (i : Int) + 3 < s.length := by simp at hrl; omega
          simp only [List.getElem?_nil] at n2 n3
          have hI : none = RES := hI
          repeat (first
            | (refine AWP_seq (AWP_regS tOk rfl ?_); simp [hw1, hw2, hw3, hb3, hp1, ht1, n1, hp2, ht2, n2, hp3, ht3, n3, h6])
            | (refine AWP_regS tOk rfl ?_; simp [hw1, hw2, hw3, hb3, hp1, ht1, n1, hp2, ht2, n2, hp3, ht3, n3, h6])
            | (refine AWP_skip ?_; simp [hw1, hw2, hw3, hb3, hp1, ht1, n1, hp2, ht2, n2, hp3, ht3, n3, h6])
            | (refine AWP_exit ?_; simp [hw1, hw2, hw3, hb3, hp1, ht1, n1, hp2, ht2, n2, hp3, ht3, n3, h6])
            | (refine AWP_ret ?_; simp [hw1, hw2, hw3, hb3, hp1, ht1, n1, hp2, ht2, n2, hp3, ht3, n3, h6])
            | refine AWP_block ?_
            | refine AWP_seq ?_)
          refine AStep_skip rfl rfl ?_
          simp [hw3, hp3, ht3, n3]
          refine AStep_skip rfl rfl ?_
          simp
          refine AWP_cond rfl ?_
          repeat (first
            | (refine AWP_seq (AWP_regS tOk rfl ?_); simp)
            | (refine AWP_regS tOk rfl ?_; simp)
            | (refine AWP_skip ?_; simp)
            | (refine AWP_exit ?_; simp)
            | (refine AWP_ret ?_; simp)
            | refine AWP_block ?_
            | refine AWP_seq ?_)
          subst hI
          exact ⟨rfl, rfl⟩
        · have hb3 : ¬ (i : Int) + 3 < s.length := by simp at hrl; omega
          simp only [List.getElem?_nil, List.getElem?_cons_zero, List.getElem?_cons_succ] at n2 n3
          have hI : none = RES := hI
          repeat (first
            | (refine AWP_seq (AWP_regS tOk rfl ?_); simp [hw1, hw2, hw3, hb3, hp1, ht1, n1, hp2, ht2, n2, hp3, ht3, n3, h6])
            | (refine AWP_regS tOk rfl ?_; simp [hw1, hw2, hw3, hb3, hp1, ht1, n1, hp2, ht2, n2, hp3, ht3, n3, h6])
            | (refine AWP_skip ?_; simp [hw1, hw2, hw3, hb3, hp1, ht1, n1, hp2, ht2, n2, hp3, ht3, n3, h6])
            | (refine AWP_exit ?_; simp [hw1, hw2, hw3, hb3, hp1, ht1, n1, hp2, ht2, n2, hp3, ht3, n3, h6])
            | (refine AWP_ret ?_; simp [hw1, hw2, hw3, hb3, hp1, ht1, n1, hp2, ht2, n2, hp3, ht3, n3, h6])
            | refine AWP_block ?_
            | refine AWP_seq ?_)
          refine AStep_skip rfl rfl ?_
          simp [hw3, hp3, ht3, n3]
          refine AStep_skip rfl rfl ?_
          simp
          refine AWP_cond rfl ?_
          repeat (first
            | (refine AWP_seq (AWP_regS tOk rfl ?_); simp)
            | (refine AWP_regS tOk rfl ?_; simp)
            | (refine AWP_skip ?_; simp)
            | (refine AWP_exit ?_; simp)
            | (refine AWP_ret ?_; simp)
            | refine AWP_block ?_
            | refine AWP_seq ?_)
          subst hI
          exact ⟨rfl, rfl⟩
        · have hb3 : (i : Int) + 3 < s.length := by simp at hrl; omega
          have hl4 : (i : Int) + 4 ≤ s.length := by simp at hrl; omega
          simp only [List.getElem?_cons_zero, List.getElem?_cons_succ] at n2 n3
          have bb := hexI_bound b
          have bd := hexI_bound d
          rw [escX] at hI
          repeat (first
            | (refine AWP_seq (AWP_regS tOk rfl ?_); simp [hw1, hw2, hw3, hb3, hp1, ht1, n1, hp2, ht2, n2, hp3, ht3, n3, h6])
            | (refine AWP_regS tOk rfl ?_; simp [hw1, hw2, hw3, hb3, hp1, ht1, n1, hp2, ht2, n2, hp3, ht3, n3, h6])
            | (refine AWP_skip ?_; simp [hw1, hw2, hw3, hb3, hp1, ht1, n1, hp2, ht2, n2, hp3, ht3, n3, h6])
            | (refine AWP_exit ?_; simp [hw1, hw2, hw3, hb3, hp1, ht1, n1, hp2, ht2, n2, hp3, ht3, n3, h6])
            | (refine AWP_ret ?_; simp [hw1, hw2, hw3, hb3, hp1, ht1, n1, hp2, ht2, n2, hp3, ht3, n3, h6])
            | refine AWP_block ?_
            | refine AWP_seq ?_)
          refine AStep_PC rfl rfl (by simp) (pc_rDigit' b) rfl ?_
          rintro _ rfl
          simp [hw3, hp3, ht3, n3]
          by_cases h7 : 0 ≤ hexI b
          · simp [h7, hw3, hp3, ht3, n3]
            refine AStep_PC rfl rfl (by simp) (pc_rDigit' d) rfl ?_
            rintro _ rfl
            simp
            by_cases h8 : 0 ≤ hexI d
            · rw [ite_f (by simp; omega)] at hI
              have e1 : IntKind.i64.wrap (16 * hexI b) = 16 * hexI b := wrap_i64 _ (by omega) (by omega)
              have e2 : IntKind.i64.wrap (16 * hexI b + hexI d) = 16 * hexI b + hexI d := wrap_i64 _ (by omega) (by omega)
              have e3 : IntKind.u8.wrap (16 * hexI b + hexI d) = (hexV b d).toNat := by rw [hexV_int b d h7 h8, IntKind.wrap_u8]; omega
              simp [h8]
              refine AWP_cond rfl ?_
              repeat (first
                | (refine AWP_seq (AWP_regS tOk rfl ?_); simp)
                | (refine AWP_regS tOk rfl ?_; simp)
                | (refine AWP_skip ?_; simp)
                | (refine AWP_exit ?_; simp)
                | (refine AWP_ret ?_; simp)
                | refine AWP_block ?_
                | refine AWP_seq ?_)
              refine AWP_drawT tOk mixed [] (.val 0 (.val 1 (.val 2 (.val 3 (.val 4 (.val 7 (.val 8 (.val 9 (.val 10 (.one 5 (.val 6 (.one 11 (.val 12 (.one 13 (.one 14 (.one 15 (.val 16 (.val 17 (.done))))))))))))))))))) rfl (by kernel_rfl) ?_
              simp [hw2, hw3, hp2, ht2, n2, hp3, ht3, n3]
              refine AStep_PC rfl rfl (by simp) (pc_rDigit' b) rfl ?_
              rintro _ rfl
              simp [e1]
              refine AStep_PC rfl rfl (by simp) (pc_rDigit' d) rfl ?_
              rintro _ rfl
              simp [e2, e3]
              refine AStep_toStr tOk rfl rfl T102 rfl T5 rfl T9 rfl rfl (s := [hexV b d]) (by simp) rfl ?_
              simp [hol]
              repeat (first
                | (refine AWP_seq (AWP_regS tOk rfl ?_); simp [hw4])
                | (refine AWP_regS tOk rfl ?_; simp [hw4])
                | (refine AWP_skip ?_; simp [hw4])
                | (refine AWP_exit ?_; simp [hw4])
                | (refine AWP_ret ?_; simp [hw4])
                | refine AWP_block ?_
                | refine AWP_seq ?_)
              refine ALoop_end [.arr 5 1 [.int .u8 (hexV b d).toNat]] (ih (i + 4, out ++ [hexV b d]) ⟨by simp; omega, by simp; omega, n, by simp; omega, by simp only [drop_succ2 (drop_succ2 (drop_succ2 hr))]; exact hI⟩ (by simp; omega)) rfl (by simp) ?_ (by simp) (by simp)
              simp
            · rw [ite_t (by simp; omega)] at hI
              simp [h8]
              refine AWP_cond rfl ?_
              repeat (first
                | (refine AWP_seq (AWP_regS tOk rfl ?_); simp)
                | (refine AWP_regS tOk rfl ?_; simp)
                | (refine AWP_skip ?_; simp)
                | (refine AWP_exit ?_; simp)
                | (refine AWP_ret ?_; simp)
                | refine AWP_block ?_
                | refine AWP_seq ?_)
              subst hI
              exact ⟨rfl, rfl⟩
          · rw [ite_t (by simp; omega)] at hI
            simp [h7, hw3, hp3, ht3, n3]
            refine AStep_skip rfl rfl ?_
            simp
            refine AWP_cond rfl ?_
            repeat (first
              | (refine AWP_seq (AWP_regS tOk rfl ?_); simp)
              | (refine AWP_regS tOk rfl ?_; simp)
              | (refine AWP_skip ?_; simp)
              | (refine AWP_exit ?_; simp)
              | (refine AWP_ret ?_; simp)
              | refine AWP_block ?_
              | refine AWP_seq ?_)
            subst hI
            exact ⟨rfl, rfl⟩
      · have h6' : ((a.toNat : Int) == 120) = false := by simpa using h6
        have he : escR (a :: r) = none := by rw [escR, ite_f h4', ite_f h5', ite_f h6']
        rw [he] at hI
        have hI : none = RES := hI
        rcases r with _ | ⟨b, _ | ⟨d, r⟩⟩
        · have hb3 : ¬ (i : Int) + 3 < s.length := by simp at hrl; omega
          simp only [List.getElem?_nil] at n2 n3
          repeat (first
            | (refine AWP_seq (AWP_regS tOk rfl ?_); simp [hw1, hw2, hw3, hb3, hp1, ht1, n1, hp2, ht2, n2, hp3, ht3, n3, h6'])
            | (refine AWP_regS tOk rfl ?_; simp [hw1, hw2, hw3, hb3, hp1, ht1, n1, hp2, ht2, n2, hp3, ht3, n3, h6'])
            | (refine AWP_skip ?_; simp [hw1, hw2, hw3, hb3, hp1, ht1, n1, hp2, ht2, n2, hp3, ht3, n3, h6'])
            | (refine AWP_exit ?_; simp [hw1, hw2, hw3, hb3, hp1, ht1, n1, hp2, ht2, n2, hp3, ht3, n3, h6'])
            | (refine AWP_ret ?_; simp [hw1, hw2, hw3, hb3, hp1, ht1, n1, hp2, ht2, n2, hp3, ht3, n3, h6'])
            | refine AWP_block ?_
            | refine AWP_seq ?_)
          refine AStep_skip rfl rfl ?_
          simp [hw3, hp3, ht3, n3]
          refine AStep_skip rfl rfl ?_
          simp
          refine AWP_cond rfl ?_
          repeat (first
            | (refine AWP_seq (AWP_regS tOk rfl ?_); simp)
            | (refine AWP_regS tOk rfl ?_; simp)
            | (refine AWP_skip ?_; simp)
            | (refine AWP_exit ?_; simp)
            | (refine AWP_ret ?_; simp)
            | refine AWP_block ?_
            | refine AWP_seq ?_)
          subst hI
          exact ⟨rfl, rfl⟩
        · have hb3 : ¬ (i : Int) + 3 < s.length := by simp at hrl; omega
          simp only [List.getElem?_nil, List.getElem?_cons_zero, List.getElem?_cons_succ] at n2 n3
          repeat (first
            | (refine AWP_seq (AWP_regS tOk rfl ?_); simp [hw1, hw2, hw3, hb3, hp1, ht1, n1, hp2, ht2, n2, hp3, ht3, n3, h6'])
            | (refine AWP_regS tOk rfl ?_; simp [hw1, hw2, hw3, hb3, hp1, ht1, n1, hp2, ht2, n2, hp3, ht3, n3, h6'])
            | (refine AWP_skip ?_; simp [hw1, hw2, hw3, hb3, hp1, ht1, n1, hp2, ht2, n2, hp3, ht3, n3, h6'])
            | (refine AWP_exit ?_; simp [hw1, hw2, hw3, hb3, hp1, ht1, n1, hp2, ht2, n2, hp3, ht3, n3, h6'])
            | (refine AWP_ret ?_; simp [hw1, hw2, hw3, hb3, hp1, ht1, n1, hp2, ht2, n2, hp3, ht3, n3, h6'])
            | refine AWP_block ?_
            | refine AWP_seq ?_)
          refine AStep_skip rfl rfl ?_
          simp [hw3, hp3, ht3, n3]
          refine AStep_skip rfl rfl ?_
          simp
          refine AWP_cond rfl ?_
          repeat (first
            | (refine AWP_seq (AWP_regS tOk rfl ?_); simp)
            | (refine AWP_regS tOk rfl ?_; simp)
            | (refine AWP_skip ?_; simp)
            | (refine AWP_exit ?_; simp)
            | (refine AWP_ret ?_; simp)
            | refine AWP_block ?_
            | refine AWP_seq ?_)
          subst hI
          exact ⟨rfl, rfl⟩
        · have hb3 : (i : Int) + 3 < s.length := by simp at hrl; omega
          simp only [List.getElem?_cons_zero, List.getElem?_cons_succ] at n2 n3
          repeat (first
            | (refine AWP_seq (AWP_regS tOk rfl ?_); simp [hw1, hw2, hw3, hb3, hp1, ht1, n1, hp2, ht2, n2, hp3, ht3, n3, h6'])
            | (refine AWP_regS tOk rfl ?_; simp [hw1, hw2, hw3, hb3, hp1, ht1, n1, hp2, ht2, n2, hp3, ht3, n3, h6'])
            | (refine AWP_skip ?_; simp [hw1, hw2, hw3, hb3, hp1, ht1, n1, hp2, ht2, n2, hp3, ht3, n3, h6'])
            | (refine AWP_exit ?_; simp [hw1, hw2, hw3, hb3, hp1, ht1, n1, hp2, ht2, n2, hp3, ht3, n3, h6'])
            | (refine AWP_ret ?_; simp [hw1, hw2, hw3, hb3, hp1, ht1, n1, hp2, ht2, n2, hp3, ht3, n3, h6'])
            | refine AWP_block ?_
            | refine AWP_seq ?_)
          refine AStep_skip rfl rfl ?_
          simp [hw3, hp3, ht3, n3]
          refine AStep_skip rfl rfl ?_
          simp
          refine AWP_cond rfl ?_
          repeat (first
            | (refine AWP_seq (AWP_regS tOk rfl ?_); simp)
            | (refine AWP_regS tOk rfl ?_; simp)
            | (refine AWP_skip ?_; simp)
            | (refine AWP_exit ?_; simp)
            | (refine AWP_ret ?_; simp)
            | refine AWP_block ?_
            | refine AWP_seq ?_)
          subst hI
          exact ⟨rfl, rfl⟩
  · have hge' : i = s.length := by simp at hge; omega
    have hdn : s.drop i = [] := by rw [hge', List.drop_length]
    rw [hdn, unqG_nil] at hI
    subst hI
    repeat (first
      | (refine AWP_seq (AWP_regS tOk rfl ?_); simp)
      | (refine AWP_regS tOk rfl ?_; simp)
      | (refine AWP_skip ?_; simp)
      | (refine AWP_exit ?_; simp)
      | (refine AWP_ret ?_; simp)
      | refine AWP_block ?_
      | refine AWP_seq ?_)
    exact ⟨rfl, rfl⟩
end Go.Abs
set_option maxRecDepth 100000
namespace Go.Abs
open Go Go.Proofs
set_option linter.unusedSimpArgs false
theorem satV_min (t : List UInt8) (hd : t.all isD = true) : satV t = min (dval t) 1099511627777 ∧ 0 ≤ dval t := by
  have key : ∀ (k : Nat) (t : List UInt8), t.length = k → t.all isD = true → satV t = min (dval t) 1099511627777 ∧ 0 ≤ dval t := by
    intro k
    induction k with
    | zero => intro t ht _; have := List.eq_nil_of_length_eq_zero ht; subst this; exact ⟨rfl, Int.le_refl _⟩
    | succ k ih =>
      intro t ht hd
      rcases List.eq_nil_or_concat t with rfl | ⟨u, c, rfl⟩
      · simp at ht
      · rw [List.concat_eq_append] at *
        rw [List.all_append, Bool.and_eq_true] at hd
        obtain ⟨h1, h2⟩ := ih u (by simpa using ht) hd.1
        have hc := (isD_iff c).1 (by simpa using hd.2)
        rw [satV_snoc, dval_snoc, satS, h1]
        unfold dstep
        refine ⟨?_, by omega⟩
        split <;> omega
  exact key t.length t rfl hd
theorem dval_ge (c : UInt8) (hc : 49 ≤ c.toNat) : ∀ (k : Nat) (r : List UInt8), r.length = k → r.all isD = true → (10 : Int) ^ k ≤ dval (c :: r) := fun k => by
  induction k with
  | zero =>
    intro r hr _
    have := List.eq_nil_of_length_eq_zero hr; subst this
    show (1 : Int) ≤ 0 * 10 + ((c.toNat : Int) - 48)
    omega
  | succ k ih =>
    intro r hr hd
    rcases List.eq_nil_or_concat r with rfl | ⟨u, d, rfl⟩
    · simp at hr
    · rw [List.concat_eq_append] at *
      rw [List.all_append, Bool.and_eq_true] at hd
      have h1 := ih u (by simpa using hr) hd.1
      have hdd := (isD_iff d).1 (by simpa using hd.2)
      rw [← List.cons_append, dval_snoc, dstep, Int.pow_succ]
      omega
theorem isNeg_trim (s : List UInt8) : trimPre s [45] = if isNeg s = true then s.drop 1 else s := by
  rcases s with _ | ⟨c, r⟩
  · rfl
  · by_cases h : c = 45
    · subst h; rw [trimPre_minus]; rfl
    · have hn : isNeg (c :: r) = false := by
        simp only [isNeg, beq_eq_false_iff_ne, ne_eq]
        intro e
        exact h (UInt8.toNat_inj.1 (by show c.toNat = 45; omega))
      rw [hn, if_neg (by decide)]
      unfold trimPre hasPre
      rw [if_neg]
      simp [List.isPrefixOf, Ne.symm h]
theorem isNeg_cons {s : List UInt8} (h : isNeg s = true) : ∃ r, s = 45 :: r := by
  rcases s with _ | ⟨c, r⟩
  · cases h
  · have hc : c = 45 := by apply UInt8.toNat_inj.1; simp [isNeg] at h; show c.toNat = 45; omega
    exact ⟨r, by rw [hc]⟩
theorem numB_eq (s t : List UInt8) (ht : t = if isNeg s = true then s.drop 1 else s) : intB t s = rNumB t (isNeg s) := by
  rcases t with _ | ⟨c, r⟩
  · rfl
  · have hs48 : ((c.toNat : Int) == 48) = true → (s == [48]) = !(decide (0 < r.length) || isNeg s) := by
      intro hc
      have hc48 : c = 48 := by apply UInt8.toNat_inj.1; simp at hc; show c.toNat = 48; omega
      cases hn : isNeg s with
      | true =>
        obtain ⟨u, rfl⟩ := isNeg_cons hn
        simp
      | false =>
        rw [hn, if_neg (by decide)] at ht
        rw [← ht, hc48]
        cases r <;> simp
    unfold intB rNumB
    cases hc : ((c.toNat : Int) == 48) with
    | false => simp [hc]
    | true => rw [hs48 hc]; simp [hc, Bool.and_comm]
theorem rIntR_big {n : Int} (h : n < -1099511627776 ∨ 1099511627776 < n) : rIntR n = (zeroV, 2) := by
  rw [rIntR, ite_t]
  simpa using h
theorem num_eq (s : List UInt8) : (rNumR s).2 = (intR s).2 ∧ ((intR s).2 = true → rIntR (rNumR s).1 = checkedV ⟨0, (intR s).1, []⟩) := by
  rw [← rIntR_eq]
  obtain ⟨t, ht⟩ : ∃ t, t = if isNeg s = true then s.drop 1 else s := ⟨_, rfl⟩
  have hb := numB_eq s t ht
  rw [rNumR, intR, isNeg_trim, ← ht, hb]
  by_cases hB : rNumB t (isNeg s) = true
  · rw [if_pos hB, if_pos hB]
    refine ⟨rfl, fun _ => ?_⟩
    simp only
    rcases t with _ | ⟨c, r⟩
    · cases hB
    have hd : (c :: r).all isD = true := by
      have := hB; unfold rNumB at this; rw [Bool.and_eq_true] at this; exact this.2
    have hneg : decide ((c :: r).length < s.length) = isNeg s := by
      cases hn : isNeg s with
      | true =>
        obtain ⟨u, rfl⟩ := isNeg_cons hn
        rw [hn, if_pos rfl] at ht
        rw [ht]; simp
      | false => rw [hn, if_neg (by decide)] at ht; rw [ht]; simp
    obtain ⟨hs1, hs2⟩ := satV_min (c :: r) hd
    unfold rNumV intV
    rw [hneg]
    by_cases hl : (c :: r).length ≤ 15
    · rw [List.take_of_length_le hl]
      have hb1 := dval_take (c :: r) hd hl (c :: r).length (Nat.le_refl _)
      rw [List.take_length] at hb1
      have hb2 := pow_le15 (c :: r).length hl
      have hw : W (0 - dval (c :: r)) = 0 - dval (c :: r) := wrap_i64 _ (by omega) (by omega)
      rw [hw, hs1]
      by_cases hbig : dval (c :: r) ≤ 1099511627776
      · rw [Int.min_eq_left (by omega)]; simp
      · rw [Int.min_eq_right (by omega)]
        cases isNeg s
        · rw [if_neg (by decide), if_neg (by decide), rIntR_big (by omega), rIntR_big (by omega)]
        · rw [if_pos rfl, if_pos rfl, rIntR_big (by omega), rIntR_big (by omega)]
    · have hc : 49 ≤ c.toNat := by
        have h1 := (isD_iff c).1 (by rw [List.all_cons, Bool.and_eq_true] at hd; exact hd.1)
        have h2 := hB
        unfold rNumB at h2
        rw [Bool.and_eq_true] at h2
        have h3 : decide (0 < r.length) = true := by simp at hl ⊢; omega
        rw [h3] at h2
        simp at h2
        omega
      have hr : r.all isD = true := by rw [List.all_cons, Bool.and_eq_true] at hd; exact hd.2
      have g1 := dval_ge c hc r.length r rfl hr
      have g2 := dval_ge c hc (r.take 14).length (r.take 14) rfl (by rw [List.all_eq_true] at hr ⊢; exact fun x hx => hr x (List.mem_of_mem_take hx))
      have hl' : 15 ≤ r.length := by simp at hl; omega
      have e14 : (r.take 14).length = 14 := by rw [List.length_take]; omega
      rw [e14] at g2
      have hp : (10 : Int) ^ 14 ≤ 10 ^ r.length := by
        have : (10 : Nat) ^ 14 ≤ 10 ^ r.length := Nat.pow_le_pow_right (by omega) (by omega)
        exact_mod_cast this
      have et : (c :: r).take 15 = c :: r.take 14 := rfl
      have hd2 : (c :: r.take 14).all isD = true := by rw [← et, List.all_eq_true] ; rw [List.all_eq_true] at hd; exact fun x hx => hd x (List.mem_of_mem_take hx)
      have hb1 := dval_take (c :: r.take 14) hd2 (by simp; omega) (c :: r.take 14).length (Nat.le_refl _)
      rw [List.take_length] at hb1
      have hb2 := pow_le15 (c :: r.take 14).length (by simp; omega)
      rw [et, hs1, Int.min_eq_right (by omega)]
      have hw : W (0 - dval (c :: r.take 14)) = 0 - dval (c :: r.take 14) := wrap_i64 _ (by omega) (by omega)
      rw [hw]
      cases isNeg s
      · rw [if_neg (by decide), if_neg (by decide), rIntR_big (by omega), rIntR_big (by omega)]
      · rw [if_pos rfl, if_pos rfl, rIntR_big (by omega), rIntR_big (by omega)]
  · rw [if_neg hB, if_neg hB]
    exact ⟨rfl, fun h => by cases h⟩
def rParseT : List UInt8 → Val × Int
  | [] => (zeroV, 4)
  | c :: r => if ((c.toNat : Int) == 34) = true then (if ((unqN (r.length + 1) (unqG r.length r [])).2 != ((r.length : Int) + 1)) = true then (zeroV, 4) else rStringR (unqN (r.length + 1) (unqG r.length r [])).1)
      else if (!(rNumR (c :: r)).2) = true then (zeroV, 4) else rIntR (rNumR (c :: r)).1
def rParseR (s : List UInt8) : Val × Int :=
  if decide ((65536 : Int) < s.length) = true then (zeroV, 13)
  else if (s == sTrue || s == sFalse) = true then (boolV (s == sTrue), 0)
  else rParseT s
theorem unqG_len (n : Nat) (rest out o r : List UInt8) (h : unqG n rest out = some (o, r)) : r.length < rest.length := by
  induction n generalizing rest out with
  | zero => cases h
  | succ n ih =>
    cases rest with
    | nil => cases h
    | cons c u =>
      rw [unqG] at h
      split at h
      · cases h; simp
      · split at h
        · cases he : escR u with
          | none => rw [he] at h; cases h
          | some p =>
            obtain ⟨b, r'⟩ := p
            rw [he] at h
            have h1 := ih _ _ h
            have h2 := escR_len he
            simp; omega
        · split at h
          · have h1 := ih _ _ h; simp; omega
          · cases h
theorem rParseR_eq (s : List UInt8) : rParseR s = parseR s := by
  rw [rParseR, parseR]
  by_cases h1 : decide ((65536 : Int) < s.length) = true
  · rw [if_pos h1, if_pos h1]
  rw [if_neg h1, if_neg h1]
  by_cases h2 : (s == sTrue || s == sFalse) = true
  · rw [if_pos h2, if_pos h2]
  rw [if_neg h2, if_neg h2]
  have hnum := num_eq s
  have key : (if (!(rNumR s).2) = true then (zeroV, 4) else rIntR (rNumR s).1) = if (!(intR s).2) = true then (zeroV, 4) else checkedV ⟨0, (intR s).1, []⟩ := by
    rw [hnum.1]
    by_cases h : (intR s).2 = true
    · rw [if_neg (by rw [h]; decide), if_neg (by rw [h]; decide), hnum.2 h]
    · rw [if_pos (by simpa using h), if_pos (by simpa using h)]
  rcases s with _ | ⟨c, r⟩
  · rfl
  rw [rParseT]
  by_cases h3 : ((c.toNat : Int) == 34) = true
  · have hc : c = 34 := by apply UInt8.toNat_inj.1; simp at h3; show c.toNat = 34; omega
    subst hc
    rw [if_pos h3, if_pos (hasPre34 r)]
    have hu : unqR (34 :: r) = gF (unqG r.length r []) := unqF_G _ _ _
    rw [hu]
    cases hg : unqG r.length r [] with
    | none =>
      have : ((unqN (r.length + 1) none).2 != ((r.length : Int) + 1)) = true := by
        show ((0 : Int) != (r.length : Int) + 1) = true
        rw [bne_iff_ne]; omega
      rw [if_pos this]; rfl
    | some p =>
      obtain ⟨o, u⟩ := p
      have hl := unqG_len _ _ _ _ _ hg
      rw [rStringR_eq]
      show (if (((((r.length + 1 : Nat) : Int) - (u.length : Int)) != ((r.length : Int) + 1)) = true) then (zeroV, 4) else checkedV ⟨2, 0, o⟩) = if (!(u == [])) = true then (zeroV, 4) else checkedV ⟨2, 0, o⟩
      cases u with
      | nil => rw [if_neg (by simp), if_neg (by simp)]
      | cons d u => rw [if_pos (by rw [bne_iff_ne]; simp only [List.length_cons]; omega), if_pos (by simp)]
  · have hp : ¬ hasPre (c :: r) [34] = true := by
      intro h
      simp [hasPre, List.isPrefixOf] at h
      apply h3
      rw [← h]; rfl
    rw [if_neg h3, if_neg hp]
    exact key
end Go.Abs
set_option maxRecDepth 100000
namespace Go.Abs
open Go Go.Proofs
set_option linter.unusedSimpArgs false
attribute [local irreducible] unqG unqN rNumR rStringR rIntR boolV
set_option maxHeartbeats 1000000 in
theorem pc_rParse (s : List UInt8) : PC Tryz.prog 74 [.str s] (fun r => r = .tup [encV (parseR s).1, .i (parseR s).2]) := by
  rw [← rParseR_eq]
  refine PC_body tOk Tryz.func74 rfl Tryz.results74 rfl (by simp [Tryz.ntmps74]) ?_
  rw [Tryz.ntmps74]
  simp only [argSlots]
  repeat (first
    | (refine AWP_seq (AWP_regS tOk rfl ?_); simp)
    | (refine AWP_regS tOk rfl ?_; simp)
    | (refine AWP_skip ?_; simp)
    | (refine AWP_exit ?_; simp)
    | (refine AWP_ret ?_; simp)
    | refine AWP_block ?_
    | refine AWP_seq ?_)
  refine AWP_cond2 rfl (fun h => ?_) (fun h => ?_)
  · repeat (first
      | (refine AWP_seq (AWP_regS tOk rfl ?_); simp)
      | (refine AWP_regS tOk rfl ?_; simp)
      | (refine AWP_skip ?_; simp)
      | (refine AWP_exit ?_; simp)
      | (refine AWP_ret ?_; simp)
      | refine AWP_block ?_
      | refine AWP_seq ?_)
    rw [rParseR, ite_t h]
    simp [zeroV]
  have hs : s.length ≤ 65536 := by simp at h; omega
  repeat (first
    | (refine AWP_seq (AWP_regS tOk rfl ?_); simp)
    | (refine AWP_regS tOk rfl ?_; simp)
    | (refine AWP_skip ?_; simp)
    | (refine AWP_exit ?_; simp)
    | (refine AWP_ret ?_; simp)
    | refine AWP_block ?_
    | refine AWP_seq ?_)
  refine AWP_cond2 rfl (fun h1 : (s == sTrue || s == sFalse) = true => ?_) (fun h1 : (s == sTrue || s == sFalse) = false => ?_)
  · repeat (first
      | (refine AWP_seq (AWP_regS tOk rfl ?_); simp)
      | (refine AWP_regS tOk rfl ?_; simp)
      | (refine AWP_skip ?_; simp)
      | (refine AWP_exit ?_; simp)
      | (refine AWP_ret ?_; simp)
      | refine AWP_block ?_
      | refine AWP_seq ?_)
    refine AStep_PC rfl rfl (by simp) (pc_rBool (s == sTrue)) rfl ?_
    rintro _ rfl
    simp
    repeat (first
      | (refine AWP_seq (AWP_regS tOk rfl ?_); simp)
      | (refine AWP_regS tOk rfl ?_; simp)
      | (refine AWP_skip ?_; simp)
      | (refine AWP_exit ?_; simp)
      | (refine AWP_ret ?_; simp)
      | refine AWP_block ?_
      | refine AWP_seq ?_)
    rw [rParseR, ite_f h, ite_t h1]
    simp
  rw [show rParseR s = rParseT s by rw [rParseR, ite_f h, ite_f h1]]
  rcases s with _ | ⟨c, r⟩
  · repeat (first
      | (refine AWP_seq (AWP_regS tOk rfl ?_); simp)
      | (refine AWP_regS tOk rfl ?_; simp)
      | (refine AWP_skip ?_; simp)
      | (refine AWP_exit ?_; simp)
      | (refine AWP_ret ?_; simp)
      | refine AWP_block ?_
      | refine AWP_seq ?_)
    refine AWP_cond rfl ?_
    repeat (first
      | (refine AWP_seq (AWP_regS tOk rfl ?_); simp)
      | (refine AWP_regS tOk rfl ?_; simp)
      | (refine AWP_skip ?_; simp)
      | (refine AWP_exit ?_; simp)
      | (refine AWP_ret ?_; simp)
      | refine AWP_block ?_
      | refine AWP_seq ?_)
    refine AStep_PC rfl rfl (by simp) (pc_rNumber [] (by simp)) rfl ?_
    rintro _ rfl
    simp
    rw [show rNumR [] = (0, false) by unfold rNumR; rfl]
    repeat (first
      | (refine AWP_seq (AWP_regS tOk rfl ?_); simp)
      | (refine AWP_regS tOk rfl ?_; simp)
      | (refine AWP_skip ?_; simp)
      | (refine AWP_exit ?_; simp)
      | (refine AWP_ret ?_; simp)
      | refine AWP_block ?_
      | refine AWP_seq ?_)
    refine AWP_cond rfl ?_
    repeat (first
      | (refine AWP_seq (AWP_regS tOk rfl ?_); simp)
      | (refine AWP_regS tOk rfl ?_; simp)
      | (refine AWP_skip ?_; simp)
      | (refine AWP_exit ?_; simp)
      | (refine AWP_ret ?_; simp)
      | refine AWP_block ?_
      | refine AWP_seq ?_)
    simp [rParseT, zeroV]
  obtain ⟨R, hR⟩ : ∃ R, rParseT (c :: r) = R := ⟨_, rfl⟩
  rw [hR]
  rw [rParseT] at hR
  repeat (first
    | (refine AWP_seq (AWP_regS tOk rfl ?_); simp)
    | (refine AWP_regS tOk rfl ?_; simp)
    | (refine AWP_skip ?_; simp)
    | (refine AWP_exit ?_; simp)
    | (refine AWP_ret ?_; simp)
    | refine AWP_block ?_
    | refine AWP_seq ?_)
  refine AWP_cond2 rfl (fun h2 => ?_) (fun h2 => ?_)
  · rw [ite_t h2] at hR
    repeat (first
      | (refine AWP_seq (AWP_regS tOk rfl ?_); simp)
      | (refine AWP_regS tOk rfl ?_; simp)
      | (refine AWP_skip ?_; simp)
      | (refine AWP_exit ?_; simp)
      | (refine AWP_ret ?_; simp)
      | refine AWP_block ?_
      | refine AWP_seq ?_)
    refine AStep_PC rfl rfl (by simp) (pc_rUnquote c r (by simp at hs; omega) h2) rfl ?_
    rintro _ rfl
    simp
    repeat (first
      | (refine AWP_seq (AWP_regS tOk rfl ?_); simp)
      | (refine AWP_regS tOk rfl ?_; simp)
      | (refine AWP_skip ?_; simp)
      | (refine AWP_exit ?_; simp)
      | (refine AWP_ret ?_; simp)
      | refine AWP_block ?_
      | refine AWP_seq ?_)
    refine AWP_cond2 rfl (fun h3 => ?_) (fun h3 => ?_)
    · rw [ite_t h3] at hR
      subst hR
      repeat (first
        | (refine AWP_seq (AWP_regS tOk rfl ?_); simp)
        | (refine AWP_regS tOk rfl ?_; simp)
        | (refine AWP_skip ?_; simp)
        | (refine AWP_exit ?_; simp)
        | (refine AWP_ret ?_; simp)
        | refine AWP_block ?_
        | refine AWP_seq ?_)
      simp [zeroV]
    · rw [ite_f h3] at hR
      subst hR
      repeat (first
        | (refine AWP_seq (AWP_regS tOk rfl ?_); simp)
        | (refine AWP_regS tOk rfl ?_; simp)
        | (refine AWP_skip ?_; simp)
        | (refine AWP_exit ?_; simp)
        | (refine AWP_ret ?_; simp)
        | refine AWP_block ?_
        | refine AWP_seq ?_)
      refine AStep_PC rfl rfl (by simp) (pc_rString (unqN (r.length + 1) (unqG r.length r [])).1) rfl ?_
      rintro _ rfl
      simp
      repeat (first
        | (refine AWP_seq (AWP_regS tOk rfl ?_); simp)
        | (refine AWP_regS tOk rfl ?_; simp)
        | (refine AWP_skip ?_; simp)
        | (refine AWP_exit ?_; simp)
        | (refine AWP_ret ?_; simp)
        | refine AWP_block ?_
        | refine AWP_seq ?_)
  · rw [ite_f h2] at hR
    repeat (first
      | (refine AWP_seq (AWP_regS tOk rfl ?_); simp)
      | (refine AWP_regS tOk rfl ?_; simp)
      | (refine AWP_skip ?_; simp)
      | (refine AWP_exit ?_; simp)
      | (refine AWP_ret ?_; simp)
      | refine AWP_block ?_
      | refine AWP_seq ?_)
    refine AStep_PC rfl rfl (by simp) (pc_rNumber (c :: r) (by omega)) rfl ?_
    rintro _ rfl
    simp
    repeat (first
      | (refine AWP_seq (AWP_regS tOk rfl ?_); simp)
      | (refine AWP_regS tOk rfl ?_; simp)
      | (refine AWP_skip ?_; simp)
      | (refine AWP_exit ?_; simp)
      | (refine AWP_ret ?_; simp)
      | refine AWP_block ?_
      | refine AWP_seq ?_)
    refine AWP_cond2 rfl (fun h3 => ?_) (fun h3 => ?_)
    · rw [ite_t h3] at hR
      subst hR
      repeat (first
        | (refine AWP_seq (AWP_regS tOk rfl ?_); simp)
        | (refine AWP_regS tOk rfl ?_; simp)
        | (refine AWP_skip ?_; simp)
        | (refine AWP_exit ?_; simp)
        | (refine AWP_ret ?_; simp)
        | refine AWP_block ?_
        | refine AWP_seq ?_)
      simp [zeroV]
    · rw [ite_f h3] at hR
      subst hR
      repeat (first
        | (refine AWP_seq (AWP_regS tOk rfl ?_); simp)
        | (refine AWP_regS tOk rfl ?_; simp)
        | (refine AWP_skip ?_; simp)
        | (refine AWP_exit ?_; simp)
        | (refine AWP_ret ?_; simp)
        | refine AWP_block ?_
        | refine AWP_seq ?_)
      refine AStep_PC rfl rfl (by simp) (pc_rInt (rNumR (c :: r)).1) rfl ?_
      rintro _ rfl
      simp
      repeat (first
        | (refine AWP_seq (AWP_regS tOk rfl ?_); simp)
        | (refine AWP_regS tOk rfl ?_; simp)
        | (refine AWP_skip ?_; simp)
        | (refine AWP_exit ?_; simp)
        | (refine AWP_ret ?_; simp)
        | refine AWP_block ?_
        | refine AWP_seq ?_)
theorem eqA_valZ (k n k' n' : Int) (t t' : List UInt8) : eqA T 9 30 (.agg [.int .i64 k, .int .i64 n, .str t]) (.agg [.int .i64 k', .int .i64 n', .str t']) = some (k == k' && (n == n' && t == t')) := by
  simp [eqA, eqFieldsA, outOf, TI.agg]
attribute [local irreducible] parseR formatR
end Go.Abs
set_option maxRecDepth 100000
namespace Go.Abs
open Go Go.Proofs
set_option linter.unusedSimpArgs false
theorem fmt_len (v : Val) (h : checkR v = 0) : (formatR v).1.length ≤ 400 := by
  rw [formatR, ite_f (by rw [h]; rfl), fmtText]
  rcases checkR_zero h with ⟨hk, ht, h1, h2⟩ | ⟨hk, ht, hn⟩ | ⟨hk, hn, hl⟩
  · rw [ite_t (by rw [hk]; rfl)]
    rcases itoa_cases v.num with ⟨u, e, e'⟩ | ⟨u, h0, e, e'⟩
    · have := decDigits_len u (by omega); simp only [e']; omega
    · have := decDigits_len u (by omega); simp only [e', List.length_cons]; omega
  · rw [ite_f (by rw [hk]; rfl), ite_t (by rw [hk]; rfl)]
    cases (v.num == 1) <;> decide
  · rw [ite_f (by rw [hk]; rfl), ite_f (by rw [hk]; rfl)]
    have := quoteTo_len v.text
    simp only [quoteR, List.length_append, List.length_cons, List.length_nil]
    omega
theorem val_beq (a b : Val) : (a.kind == b.kind && (a.num == b.num && a.text == b.text)) = decide (a = b) := by
  rw [Bool.eq_iff_iff]
  rcases a with ⟨⟩; rcases b with ⟨⟩; simp
theorem fmt_inj (a b : Val) (ha : (formatR a).2 = 0) (hb : (formatR b).2 = 0) : ((formatR a).1 == (formatR b).1) = decide (a = b) := by
  rw [Bool.eq_iff_iff]
  simp only [beq_iff_eq, decide_eq_true_eq]
  constructor
  · intro h
    have h1 := (parse_format a ha).2
    have h2 := (parse_format b hb).2
    rw [h, h2] at h1
    exact (congrArg Prod.fst h1).symm
  · intro h; rw [h]
attribute [local irreducible] hexText formatR parseR hashR compR boolV checkR checkAllR checkedV npB hexq
theorem hexText_def (s : List UInt8) : hexText s = 34 :: (s.flatMap hexq ++ 34 :: []) := by unfold hexText; rfl
def escTo (s : List UInt8) : List UInt8 := 34 :: s.flatMap hexq
theorem escTo_succ (s : List UInt8) (j : Nat) (h : j < s.length) : escTo (s.take (j + 1)) = escTo (s.take j) ++ hexq s[j] := by
  rw [escTo, escTo, List.take_succ_eq_append_getElem h, List.flatMap_append, List.flatMap_cons, List.flatMap_nil, List.append_nil]
  rfl
theorem escTo_len (s : List UInt8) : (escTo s).length = 4 * s.length + 1 := by rw [escTo, List.length_cons, hexq_len]
theorem hexT (n : Nat) (h : n < 16) : ([48, 49, 50, 51, 52, 53, 54, 55, 56, 57, 97, 98, 99, 100, 101, 102] : List UInt8)[n]? = some (hexD n) := by
  rw [hexD, List.getD_eq_getElem?_getD, List.getElem?_eq_getElem (by show n < 16; omega), List.getElem?_eq_getElem (by show n < 16; omega)]
  rfl
end Go.Abs
set_option maxRecDepth 100000
namespace Go.Abs
open Go Go.Proofs
set_option linter.unusedSimpArgs false
/-- The words behind the first of an event's text. -/
def tailR (e : Ev) : List (List UInt8) := (Lib.itoa e.source ++ ([46] ++ Lib.itoa e.seq)) :: (64 :: Lib.itoa e.time) :: e.values.map (fun v => (formatR v).1)
theorem formatR_ok {v : Val} (h : checkR v = 0) : formatR v = (fmtText v, 0) := by rw [formatR, if_neg (by simpa using h)]
theorem fmt_len' {v : Val} (h : checkR v = 0) : (formatR v).1.length ≤ 1000 ∧ (formatR v).2 = 0 := by
  have := fmt_len v h
  exact ⟨by omega, by rw [formatR_ok h]⟩
attribute [local irreducible] ckEv numsR formatR Lib.itoa Lib.join checkR showR fmtText
set_option maxHeartbeats 4000000 in
theorem pc_r4Show (l : List Sch) (e : Ev) (hck : ckEv l e = 0) : PC Tryz.prog 51 [.list (l.map encSch), encE e] (fun r => r = .str (Lib.join (partsR l e) [32])) := by
  refine PC_body tOk Tryz.func51 rfl Tryz.results51 rfl (by simp [Tryz.ntmps51]) ?_
  rw [Tryz.ntmps51]
  simp only [argSlots]
  obtain ⟨R, hR⟩ : ∃ R, Lib.join (partsR l e) [32] = R := ⟨_, rfl⟩
  rw [hR]
  obtain ⟨h0, ⟨k, hk, hkl, hfs⟩, hlv, hl8, hnum, hvals⟩ := ev_ok hck
  have hn := nums_ok hnum
  have hvok := vals_ok _ _ hvals hlv
  have hnm := name_len (ckSch_name (ckSchs_all h0 _ (List.getElem_mem hkl)))
  have hgd : (l.getD e.type.toNat default).name = l[k].name := by rw [hk, List.getD_eq_getElem?_getD]; simp [hkl]
  clear hvals hnum hck
  unfold partsR at hR
  rw [hgd] at hR
  rw [hfs] at hlv hl8
  obtain ⟨es, eq, et, em, vs⟩ := e
  simp only at hk hR hlv hn hvok
  subst hk
  have hi1 := Lib.itoa_length_le es (by omega) (by omega)
  have hi2 := Lib.itoa_length_le eq (by omega) (by omega)
  have hi3 := Lib.itoa_length_le em (by omega) (by omega)
  have p1 := pc_rDecimal es.natAbs es (Nat.le_refl _) (by omega) (by omega)
  have p2 := pc_rDecimal eq.natAbs eq (Nat.le_refl _) (by omega) (by omega)
  have p3 := pc_rDecimal em.natAbs em (Nat.le_refl _) (by omega) (by omega)
  generalize hnn : l[k].name = nm at *
  have hR2 : Lib.join (nm :: tailR ⟨es, eq, k, em, vs⟩) [32] = R := by rw [← hR]; rfl
  obtain ⟨t, ht⟩ : ∃ t, tailR ⟨es, eq, k, em, vs⟩ = t := ⟨_, rfl⟩
  rw [ht] at hR2
  have htl : t.length = vs.length + 2 := by rw [← ht]; simp [tailR]
  have hz : ∀ z ∈ t, z.length ≤ 1000 := by
    intro z hz
    rw [← ht] at hz
    simp only [tailR, List.mem_cons, List.mem_map] at hz
    rcases hz with rfl | rfl | ⟨v, hv, rfl⟩
    · simp; omega
    · simp; omega
    · exact (fmt_len' (hvok v hv)).1
  have ht2 : Lib.join (nm :: t.take 2) [32] = nm ++ 32 :: Lib.itoa es ++ ([46] ++ Lib.itoa eq) ++ (32 :: 64 :: Lib.itoa em) := by
    rw [← ht]; simp [tailR, Lib.join_cons, Lib.joinTail]
  have hti : ∀ j (h : j < vs.length), t[j + 2]? = some (formatR vs[j]).1 := fun j h => by rw [← ht]; simp [tailR, h]
  clear hR ht
  generalize Lib.itoa es = A at *
  generalize Lib.itoa eq = B at *
  generalize Lib.itoa em = C at *
  have b1 : nm.length ≤ 9223372036854775806 := by omega
  have b2 : nm.length + 1 + A.length ≤ 9223372036854775807 := by omega
  have b3 : nm.length + (A.length + 1) ≤ 9223372036854775806 := by omega
  have b4 : nm.length + (A.length + 1 + 1) + B.length ≤ 9223372036854775807 := by omega
  have b5 : nm.length + (A.length + (B.length + 1) + 1) ≤ 9223372036854775805 := by omega
  have b6 : nm.length + (A.length + (B.length + 2 + 1) + 1) + C.length ≤ 9223372036854775807 := by omega
  repeat (first
    | (refine AWP_seq (AWP_regS tOk rfl ?_); simp)
    | (refine AWP_regS tOk rfl ?_; simp)
    | (refine AWP_skip ?_; simp)
    | (refine AWP_exit ?_; simp)
    | (refine AWP_ret ?_; simp)
    | refine AWP_block ?_
    | refine AWP_seq ?_)
  refine AWP_drawT tOk mixed [] (.val 0 (.val 1 (.val 2 (.val 3 (.val 4 (.val 5 (.val 6 (.val 7 (.val 8 (.val 12 (.val 13 (.val 17 (.val 18 (.one 9 (.val 10 (.val 11 (.one 14 (.val 15 (.val 16 (.one 19 (.val 20 (.val 21 (.done))))))))))))))))))))))) rfl (by kernel_rfl) ?_
  simp [hkl, hnn, b1]
  refine AStep_PC rfl rfl (by simp) (p1) rfl ?_
  rintro _ rfl
  simp [b1, b2, b3, b4, b5, b6]
  refine AStep_PC rfl rfl (by simp) (p2) rfl ?_
  rintro _ rfl
  simp [b1, b2, b3, b4, b5, b6]
  refine AStep_PC rfl rfl (by simp) (p3) rfl ?_
  rintro _ rfl
  simp [b1, b2, b3, b4, b5, b6]
  clear p1 p2 p3
  have hj0 : nm ++ 32 :: (A ++ 46 :: (B ++ 32 :: 64 :: C)) = Lib.join (nm :: t.take 2) [32] := by rw [ht2]; simp
  rw [hj0]
  repeat (first
    | (refine AWP_seq (AWP_regS tOk rfl ?_); simp)
    | (refine AWP_regS tOk rfl ?_; simp)
    | (refine AWP_skip ?_; simp)
    | (refine AWP_exit ?_; simp)
    | (refine AWP_ret ?_; simp)
    | refine AWP_block ?_
    | refine AWP_seq ?_)
  refine AWP_loop (ALoop_keep (sl' := [(3, .vptr 0 0), (5, .str (Lib.join (nm :: t.take 2) [32])), (6, .i 0)]) ?_ (by simp))
  refine ALoop_wf (F := fun (u : Nat) => ⟨[(3, .vptr 0 0), (5, .str (Lib.join (nm :: t.take (u + 2)) [32])), (6, .i u)], [.vars [.i es, .i eq, .i k, .i em, .list (vs.map encV)]]⟩)
    (fun u => u ≤ vs.length) (fun u => vs.length - u) ?_ 0 (by simp)
  rintro j hj ih
  have hlj := join_len nm t [32] (by simp) (by omega) hz (j + 2)
  repeat (first
    | (refine AWP_seq (AWP_regS tOk rfl ?_); simp)
    | (refine AWP_regS tOk rfl ?_; simp)
    | (refine AWP_skip ?_; simp)
    | (refine AWP_exit ?_; simp)
    | (refine AWP_ret ?_; simp)
    | refine AWP_block ?_
    | refine AWP_seq ?_)
  refine AWP_cond2 rfl (fun hlt => ?_) (fun hge => ?_)
  · have hlt' : j < vs.length := by simpa using hlt
    have hw : IntKind.i64.wrap ((j : Int) + 1) = j + 1 := wrap_i64 _ (by omega) (by omega)
    have htj : j + 2 < t.length := by omega
    have hgt : t[j + 2] = (formatR vs[j]).1 := by have := hti j hlt'; rw [List.getElem?_eq_getElem htj] at this; exact Option.some.inj this
    have hck := hvok vs[j] (List.getElem_mem hlt')
    have hsh : showR vs[j] = t[j + 2] := by rw [showR_eq _ hck, hgt, formatR_ok hck]
    have hzl := hz _ (List.getElem_mem htj)
    have hp := pc_rShow vs[j] hck
    rw [hsh] at hp
    have hjc := join_cons2 nm t [32] (j + 2) htj
    generalize Lib.join (nm :: t.take (j + 2)) [32] = J at *
    generalize t[j + 2] = z at *
    have c1 : 1 + z.length ≤ 9223372036854775807 := by omega
    have c2 : J.length + (z.length + 1) ≤ 9223372036854775807 := by omega
    repeat (first
      | (refine AWP_seq (AWP_regS tOk rfl ?_); simp [hlt'])
      | (refine AWP_regS tOk rfl ?_; simp [hlt'])
      | (refine AWP_skip ?_; simp [hlt'])
      | (refine AWP_exit ?_; simp [hlt'])
      | (refine AWP_ret ?_; simp [hlt'])
      | refine AWP_block ?_
      | refine AWP_seq ?_)
    refine AStep_PC rfl rfl (by simp) (hp) rfl ?_
    rintro _ rfl
    simp [c1, c2]
    repeat (first
      | (refine AWP_seq (AWP_regS tOk rfl ?_); simp [hw, c1, c2])
      | (refine AWP_regS tOk rfl ?_; simp [hw, c1, c2])
      | (refine AWP_skip ?_; simp [hw, c1, c2])
      | (refine AWP_exit ?_; simp [hw, c1, c2])
      | (refine AWP_ret ?_; simp [hw, c1, c2])
      | refine AWP_block ?_
      | refine AWP_seq ?_)
    refine ALoop_keep (sl' := [(3, .vptr 0 0), (5, .str (Lib.join (nm :: t.take (j + 1 + 2)) [32])), (6, .i (j + 1 : Nat))]) (ih (j + 1) (by omega) (by omega)) ?_
    rw [show j + 1 + 2 = j + 2 + 1 from rfl, hjc]
    simp
  · have hge' : j = vs.length := by simp at hge; omega
    subst hge'
    have htk : t.take (vs.length + 2) = t := List.take_of_length_le (by omega)
    rw [htk]
    repeat (first
      | (refine AWP_seq (AWP_regS tOk rfl ?_); simp)
      | (refine AWP_regS tOk rfl ?_; simp)
      | (refine AWP_skip ?_; simp)
      | (refine AWP_exit ?_; simp)
      | (refine AWP_ret ?_; simp)
      | refine AWP_block ?_
      | refine AWP_seq ?_)
    exact hR2
theorem pc_r4Format (l : List Sch) (e : Ev) : PC Tryz.prog 24 [.list (l.map encSch), encE e] (fun r => r = .tup [.str (evFmtR l e).1, .i (evFmtR l e).2]) := by
  refine PC_body tOk Tryz.func24 rfl Tryz.results24 rfl (by simp [Tryz.ntmps24]) ?_
  rw [Tryz.ntmps24]
  simp only [argSlots]
  obtain ⟨R, hR⟩ : ∃ R, evFmtR l e = R := ⟨_, rfl⟩
  rw [hR]
  rw [evFmtR] at hR
  repeat (first
    | (refine AWP_seq (AWP_regS tOk rfl ?_); simp)
    | (refine AWP_regS tOk rfl ?_; simp)
    | (refine AWP_skip ?_; simp)
    | (refine AWP_exit ?_; simp)
    | (refine AWP_ret ?_; simp)
    | refine AWP_block ?_
    | refine AWP_seq ?_)
  refine AStep_PC rfl rfl (by simp) (pc_r4Check l e) rfl ?_
  rintro _ rfl
  simp
  repeat (first
    | (refine AWP_seq (AWP_regS tOk rfl ?_); simp)
    | (refine AWP_regS tOk rfl ?_; simp)
    | (refine AWP_skip ?_; simp)
    | (refine AWP_exit ?_; simp)
    | (refine AWP_ret ?_; simp)
    | refine AWP_block ?_
    | refine AWP_seq ?_)
  refine AWP_cond2 rfl (fun h => ?_) (fun h => ?_)
  · repeat (first
      | (refine AWP_seq (AWP_regS tOk rfl ?_); simp)
      | (refine AWP_regS tOk rfl ?_; simp)
      | (refine AWP_skip ?_; simp)
      | (refine AWP_exit ?_; simp)
      | (refine AWP_ret ?_; simp)
      | refine AWP_block ?_
      | refine AWP_seq ?_)
    rw [if_pos (by simpa using h)] at hR
    rw [← hR]
    exact ⟨rfl, rfl⟩
  rw [if_neg (by simpa using h)] at hR
  repeat (first
    | (refine AWP_seq (AWP_regS tOk rfl ?_); simp)
    | (refine AWP_regS tOk rfl ?_; simp)
    | (refine AWP_skip ?_; simp)
    | (refine AWP_exit ?_; simp)
    | (refine AWP_ret ?_; simp)
    | refine AWP_block ?_
    | refine AWP_seq ?_)
  refine AStep_PC rfl rfl (by simp) (pc_r4Show l e (by simpa using h)) rfl ?_
  rintro _ rfl
  simp
  repeat (first
    | (refine AWP_seq (AWP_regS tOk rfl ?_); simp)
    | (refine AWP_regS tOk rfl ?_; simp)
    | (refine AWP_skip ?_; simp)
    | (refine AWP_exit ?_; simp)
    | (refine AWP_ret ?_; simp)
    | refine AWP_block ?_
    | refine AWP_seq ?_)
  rw [← hR]
  exact ⟨rfl, rfl⟩
theorem pc_eFormat' (l : List Sch) (e : Ev) : PC Tryz.prog 23 [.list (l.map encSch), encE e] (fun r => r = .tup [.str (evFmtR l e).1, .i (evFmtR l e).2]) :=
  pc_eFormat l e fun _ h => fmt_len' h
end Go.Abs
set_option maxRecDepth 100000
namespace Go.Abs
open Go Go.Proofs
set_option linter.unusedSimpArgs false
def tw (p : UInt8 → Bool) (s : List UInt8) : Nat := (s.takeWhile p).length
theorem tw_nil (p : UInt8 → Bool) : tw p [] = 0 := rfl
theorem tw_hit (p : UInt8 → Bool) (c : UInt8) (t : List UInt8) (h : p c = true) : tw p (c :: t) = 1 + tw p t := by simp [tw, List.takeWhile_cons, h]; omega
theorem tw_miss (p : UInt8 → Bool) (c : UInt8) (t : List UInt8) (h : p c = false) : tw p (c :: t) = 0 := by simp [tw, List.takeWhile_cons, h]
theorem tw_le (p : UInt8 → Bool) (s : List UInt8) : tw p s ≤ s.length := (List.takeWhile_prefix _).length_le
theorem byte_eq (c d : UInt8) : ((c.toNat : Int) == (d.toNat : Int)) = (c == d) := by
  rw [Bool.eq_iff_iff]; simp
  constructor
  · intro h; exact UInt8.toNat_inj.1 (by omega)
  · intro h; rw [h]
attribute [local irreducible] tw
def sp (c : UInt8) : Bool := c == 32
theorem pc_r4skip (s : List UInt8) (a : Nat) (ha : a ≤ s.length) (hs : s.length ≤ 1000000) : PC Tryz.prog 71 [.str s, .i a] (fun r => r = .i (a + tw sp (s.drop a) : Nat)) := by
  refine PC_body tOk Tryz.func71 rfl Tryz.results71 rfl (by simp [Tryz.ntmps71]) ?_
  rw [Tryz.ntmps71]
  simp only [argSlots]
  obtain ⟨R, hR⟩ : ∃ R, a + tw sp (s.drop a) = R := ⟨_, rfl⟩
  rw [hR]
  repeat (first
    | (refine AWP_seq (AWP_regS tOk rfl ?_); simp)
    | (refine AWP_regS tOk rfl ?_; simp)
    | (refine AWP_skip ?_; simp)
    | (refine AWP_exit ?_; simp)
    | (refine AWP_ret ?_; simp)
    | refine AWP_block ?_
    | refine AWP_seq ?_)
  refine AWP_loop (ALoop_keep (sl' := [(0, .str s), (1, .i a)]) ?_ (by simp))
  refine ALoop_wf (F := fun (u : Nat) => ⟨[(0, .str s), (1, .i u)], []⟩)
    (fun u => u ≤ s.length ∧ u + tw sp (s.drop u) = R) (fun u => s.length - u) ?_ a ⟨ha, hR⟩
  rintro j ⟨hj, g3⟩ ih
  by_cases hlt' : j < s.length
  · have hlti : (j : Int) < s.length := by omega
    have hw : IntKind.i64.wrap ((j : Int) + 1) = j + 1 := wrap_i64 _ (by omega) (by omega)
    rw [drop_get hlt'] at g3
    have hbe := byte_eq s[j] 32
    cases hc : (s[j] == (32 : UInt8)) with
    | true =>
      rw [tw_hit _ _ _ (by rw [sp, hc])] at g3
      rw [hc] at hbe
      repeat (first
        | (refine AWP_seq (AWP_regS tOk rfl ?_); simp [hlt', hlti])
        | (refine AWP_regS tOk rfl ?_; simp [hlt', hlti])
        | (refine AWP_skip ?_; simp [hlt', hlti])
        | (refine AWP_exit ?_; simp [hlt', hlti])
        | (refine AWP_ret ?_; simp [hlt', hlti])
        | refine AWP_block ?_
        | refine AWP_seq ?_)
      refine AWP_cond2 rfl (fun _ => ?_) (fun h => by first | (rw [show ((s[j].toNat : Int) == 32) = true from hbe] at h; cases h) | simp_all)
      repeat (first
        | (refine AWP_seq (AWP_regS tOk rfl ?_); simp [hw])
        | (refine AWP_regS tOk rfl ?_; simp [hw])
        | (refine AWP_skip ?_; simp [hw])
        | (refine AWP_exit ?_; simp [hw])
        | (refine AWP_ret ?_; simp [hw])
        | refine AWP_block ?_
        | refine AWP_seq ?_)
      exact ALoop_keep (sl' := [(0, .str s), (1, .i (j + 1 : Nat))]) (ih (j + 1) ⟨by omega, by omega⟩ (by omega)) (by simp)
    | false =>
      rw [tw_miss _ _ _ (by rw [sp, hc])] at g3
      rw [hc] at hbe
      repeat (first
        | (refine AWP_seq (AWP_regS tOk rfl ?_); simp [hlt', hlti])
        | (refine AWP_regS tOk rfl ?_; simp [hlt', hlti])
        | (refine AWP_skip ?_; simp [hlt', hlti])
        | (refine AWP_exit ?_; simp [hlt', hlti])
        | (refine AWP_ret ?_; simp [hlt', hlti])
        | refine AWP_block ?_
        | refine AWP_seq ?_)
      refine AWP_cond2 rfl (fun h => by first | (rw [show ((s[j].toNat : Int) == 32) = false from hbe] at h; cases h) | simp_all) (fun _ => ?_)
      repeat (first
        | (refine AWP_seq (AWP_regS tOk rfl ?_); simp)
        | (refine AWP_regS tOk rfl ?_; simp)
        | (refine AWP_skip ?_; simp)
        | (refine AWP_exit ?_; simp)
        | (refine AWP_ret ?_; simp)
        | refine AWP_block ?_
        | refine AWP_seq ?_)
      omega
  · have hge' : j = s.length := by omega
    have hlti : ¬ (j : Int) < s.length := by omega
    subst hge'
    rw [List.drop_length, tw_nil] at g3
    repeat (first
      | (refine AWP_seq (AWP_regS tOk rfl ?_); simp)
      | (refine AWP_regS tOk rfl ?_; simp)
      | (refine AWP_skip ?_; simp)
      | (refine AWP_exit ?_; simp)
      | (refine AWP_ret ?_; simp)
      | refine AWP_block ?_
      | refine AWP_seq ?_)
    refine AWP_cond rfl ?_
    repeat (first
      | (refine AWP_seq (AWP_regS tOk rfl ?_); simp)
      | (refine AWP_regS tOk rfl ?_; simp)
      | (refine AWP_skip ?_; simp)
      | (refine AWP_exit ?_; simp)
      | (refine AWP_ret ?_; simp)
      | refine AWP_block ?_
      | refine AWP_seq ?_)
    omega
attribute [local irreducible] qR
theorem pc_r4quoted (s : List UInt8) (a : Nat) (ha : a < s.length) (hs : s.length ≤ 1000000) : PC Tryz.prog 101 [.str s, .i a] (fun r => r = .i (a + 1 + qR (s.drop (a + 1)) : Nat)) := by
  refine PC_body tOk Tryz.func101 rfl Tryz.results101 rfl (by simp [Tryz.ntmps101]) ?_
  rw [Tryz.ntmps101]
  simp only [argSlots]
  obtain ⟨R, hR⟩ : ∃ R, a + 1 + qR (s.drop (a + 1)) = R := ⟨_, rfl⟩
  rw [hR]
  have hwa : IntKind.i64.wrap ((a : Int) + 1) = a + 1 := wrap_i64 _ (by omega) (by omega)
  repeat (first
    | (refine AWP_seq (AWP_regS tOk rfl ?_); simp [hwa])
    | (refine AWP_regS tOk rfl ?_; simp [hwa])
    | (refine AWP_skip ?_; simp [hwa])
    | (refine AWP_exit ?_; simp [hwa])
    | (refine AWP_ret ?_; simp [hwa])
    | refine AWP_block ?_
    | refine AWP_seq ?_)
  refine AWP_loop (ALoop_keep (sl' := [(0, .str s), (1, .i (a + 1 : Nat))]) ?_ (by simp))
  refine ALoop_wf (F := fun (u : Nat) => ⟨[(0, .str s), (1, .i u)], []⟩)
    (fun u => u ≤ s.length + 1 ∧ min u s.length + qR (s.drop u) = R) (fun u => s.length + 1 - u) ?_ (a + 1) ⟨by omega, by rw [← hR, Nat.min_eq_left (by omega)]⟩
  rintro j ⟨hj, g⟩ ih
  repeat (first
    | (refine AWP_seq (AWP_regS tOk rfl ?_); simp)
    | (refine AWP_regS tOk rfl ?_; simp)
    | (refine AWP_skip ?_; simp)
    | (refine AWP_exit ?_; simp)
    | (refine AWP_ret ?_; simp)
    | refine AWP_block ?_
    | refine AWP_seq ?_)
  refine AWP_cond2 rfl (fun hlt => ?_) (fun hge => ?_)
  · have hlt' : j < s.length := by simpa using hlt
    have hw : IntKind.i64.wrap ((j : Int) + 1) = j + 1 := wrap_i64 _ (by omega) (by omega)
    have hw2 : IntKind.i64.wrap ((j : Int) + 1 + 1) = j + 2 := by rw [wrap_i64 _ (by omega) (by omega)]; omega
    rw [drop_get hlt'] at g
    by_cases h34 : s[j] = 34
    · have h34' : ((s[j].toNat : Int) == 34) = true := by rw [h34]; rfl
      rw [qR_hit _ _ h34] at g
      repeat (first
        | (refine AWP_seq (AWP_regS tOk rfl ?_); simp [hlt', h34'])
        | (refine AWP_regS tOk rfl ?_; simp [hlt', h34'])
        | (refine AWP_skip ?_; simp [hlt', h34'])
        | (refine AWP_exit ?_; simp [hlt', h34'])
        | (refine AWP_ret ?_; simp [hlt', h34'])
        | refine AWP_block ?_
        | refine AWP_seq ?_)
      refine AWP_cond rfl ?_
      repeat (first
        | (refine AWP_seq (AWP_regS tOk rfl ?_); simp [hw])
        | (refine AWP_regS tOk rfl ?_; simp [hw])
        | (refine AWP_skip ?_; simp [hw])
        | (refine AWP_exit ?_; simp [hw])
        | (refine AWP_ret ?_; simp [hw])
        | refine AWP_block ?_
        | refine AWP_seq ?_)
      omega
    have h34' : ((s[j].toNat : Int) == 34) = false := by
      rw [beq_eq_false_iff_ne]; intro e; apply h34; exact UInt8.toNat_inj.1 (by simpa using (by omega : s[j].toNat = 34))
    repeat (first
      | (refine AWP_seq (AWP_regS tOk rfl ?_); simp [hlt', h34'])
      | (refine AWP_regS tOk rfl ?_; simp [hlt', h34'])
      | (refine AWP_skip ?_; simp [hlt', h34'])
      | (refine AWP_exit ?_; simp [hlt', h34'])
      | (refine AWP_ret ?_; simp [hlt', h34'])
      | refine AWP_block ?_
      | refine AWP_seq ?_)
    refine AWP_cond rfl ?_
    repeat (first
      | (refine AWP_seq (AWP_regS tOk rfl ?_); simp [hlt'])
      | (refine AWP_regS tOk rfl ?_; simp [hlt'])
      | (refine AWP_skip ?_; simp [hlt'])
      | (refine AWP_exit ?_; simp [hlt'])
      | (refine AWP_ret ?_; simp [hlt'])
      | refine AWP_block ?_
      | refine AWP_seq ?_)
    by_cases h92 : s[j] = 92
    · have h92' : ((s[j].toNat : Int) == 92) = true := by rw [h92]; rfl
      refine AWP_cond2 rfl (fun _ => ?_) (fun h => by rw [h92'] at h; cases h)
      repeat (first
        | (refine AWP_seq (AWP_regS tOk rfl ?_); simp [hw, hw2])
        | (refine AWP_regS tOk rfl ?_; simp [hw, hw2])
        | (refine AWP_skip ?_; simp [hw, hw2])
        | (refine AWP_exit ?_; simp [hw, hw2])
        | (refine AWP_ret ?_; simp [hw, hw2])
        | refine AWP_block ?_
        | refine AWP_seq ?_)
      refine ALoop_keep (sl' := [(0, .str s), (1, .i (j + 2 : Nat))]) (ih (j + 2) ⟨by omega, ?_⟩ (by omega)) (by simp)
      by_cases hj2 : j + 1 < s.length
      · rw [drop_get hj2, qR_esc _ _ _ h92, show j + 1 + 1 = j + 2 from rfl] at g
        rw [← g]
        omega
      · have e1 : s.drop (j + 1) = [] := List.drop_of_length_le (by omega)
        have e2 : s.drop (j + 2) = [] := List.drop_of_length_le (by omega)
        rw [e1, qR_one] at g
        rw [e2, ← g]
        simp [qR]
        omega
    · have h92' : ((s[j].toNat : Int) == 92) = false := by
        rw [beq_eq_false_iff_ne]; intro e; apply h92; exact UInt8.toNat_inj.1 (by simpa using (by omega : s[j].toNat = 92))
      refine AWP_cond2 rfl (fun h => by rw [h92'] at h; cases h) (fun _ => ?_)
      repeat (first
        | (refine AWP_seq (AWP_regS tOk rfl ?_); simp [hw])
        | (refine AWP_regS tOk rfl ?_; simp [hw])
        | (refine AWP_skip ?_; simp [hw])
        | (refine AWP_exit ?_; simp [hw])
        | (refine AWP_ret ?_; simp [hw])
        | refine AWP_block ?_
        | refine AWP_seq ?_)
      refine ALoop_keep (sl' := [(0, .str s), (1, .i (j + 1 : Nat))]) (ih (j + 1) ⟨by omega, ?_⟩ (by omega)) (by simp)
      rw [qR_step _ _ h34 h92] at g
      rw [← g]
      omega
  · have hge' : s.length ≤ j := by simp at hge; omega
    rw [List.drop_of_length_le hge'] at g
    have q0 : qR [] = 0 := by simp [qR]
    rw [q0] at g
    repeat (first
      | (refine AWP_seq (AWP_regS tOk rfl ?_); simp)
      | (refine AWP_regS tOk rfl ?_; simp)
      | (refine AWP_skip ?_; simp)
      | (refine AWP_exit ?_; simp)
      | (refine AWP_ret ?_; simp)
      | refine AWP_block ?_
      | refine AWP_seq ?_)
    omega
theorem lenR_q (t : List UInt8) : lenR (34 :: t) = 1 + qR t := by rw [lenR, if_pos rfl]
theorem lenR_nq (c : UInt8) (t : List UInt8) (h : c ≠ 34) : lenR (c :: t) = tw (fun x => x != 32) (c :: t) := by rw [lenR, if_neg h, tw]
theorem lenR_nil : lenR [] = 0 := rfl
attribute [local irreducible] lenR
set_option maxHeartbeats 1000000 in
theorem pc_r4end (s : List UInt8) (a : Nat) (ha : a ≤ s.length) (hs : s.length ≤ 1000000) : PC Tryz.prog 72 [.str s, .i a] (fun r => r = .i (a + lenR (s.drop a) : Nat)) := by
  refine PC_body tOk Tryz.func72 rfl Tryz.results72 rfl (by simp [Tryz.ntmps72]) ?_
  rw [Tryz.ntmps72]
  simp only [argSlots]
  by_cases hlt : a < s.length
  · have hlti : (a : Int) < s.length := by omega
    have hbe := byte_eq s[a] 34
    cases hc : (s[a] == (34 : UInt8)) with
    | true =>
      rw [hc] at hbe
      have hc' : s[a] = 34 := by simpa using hc
      rw [drop_get hlt, hc', lenR_q]
      repeat (first
        | (refine AWP_seq (AWP_regS tOk rfl ?_); simp [hlt, hlti])
        | (refine AWP_regS tOk rfl ?_; simp [hlt, hlti])
        | (refine AWP_skip ?_; simp [hlt, hlti])
        | (refine AWP_exit ?_; simp [hlt, hlti])
        | (refine AWP_ret ?_; simp [hlt, hlti])
        | refine AWP_block ?_
        | refine AWP_seq ?_)
      refine AWP_cond2 rfl (fun _ => ?_) (fun h => by first | (rw [show ((s[a].toNat : Int) == 34) = true from hbe] at h; cases h) | simp_all)
      repeat (first
        | (refine AWP_seq (AWP_regS tOk rfl ?_); simp)
        | (refine AWP_regS tOk rfl ?_; simp)
        | (refine AWP_skip ?_; simp)
        | (refine AWP_exit ?_; simp)
        | (refine AWP_ret ?_; simp)
        | refine AWP_block ?_
        | refine AWP_seq ?_)
      refine AStep_PC rfl rfl (by simp) (pc_r4quoted s a hlt hs) rfl ?_
      rintro _ rfl
      simp
      repeat (first
        | (refine AWP_seq (AWP_regS tOk rfl ?_); simp)
        | (refine AWP_regS tOk rfl ?_; simp)
        | (refine AWP_skip ?_; simp)
        | (refine AWP_exit ?_; simp)
        | (refine AWP_ret ?_; simp)
        | refine AWP_block ?_
        | refine AWP_seq ?_)
      omega
    | false =>
      rw [hc] at hbe
      have hc' : s[a] ≠ 34 := by simpa using hc
      rw [drop_get hlt, lenR_nq _ _ hc', ← drop_get hlt]
      obtain ⟨R, hR⟩ : ∃ R, a + tw (fun x => x != 32) (s.drop a) = R := ⟨_, rfl⟩
      rw [hR]
      repeat (first
        | (refine AWP_seq (AWP_regS tOk rfl ?_); simp [hlt, hlti])
        | (refine AWP_regS tOk rfl ?_; simp [hlt, hlti])
        | (refine AWP_skip ?_; simp [hlt, hlti])
        | (refine AWP_exit ?_; simp [hlt, hlti])
        | (refine AWP_ret ?_; simp [hlt, hlti])
        | refine AWP_block ?_
        | refine AWP_seq ?_)
      refine AWP_cond2 rfl (fun h => by first | (rw [show ((s[a].toNat : Int) == 34) = false from hbe] at h; cases h) | simp_all) (fun _ => ?_)
      repeat (first
        | (refine AWP_seq (AWP_regS tOk rfl ?_); simp)
        | (refine AWP_regS tOk rfl ?_; simp)
        | (refine AWP_skip ?_; simp)
        | (refine AWP_exit ?_; simp)
        | (refine AWP_ret ?_; simp)
        | refine AWP_block ?_
        | refine AWP_seq ?_)
      refine AWP_loop (ALoop_keep (sl' := [(0, .str s), (1, .i a)]) ?_ (by simp))
      refine ALoop_wf (F := fun (u : Nat) => ⟨[(0, .str s), (1, .i u)], []⟩)
        (fun u => u ≤ s.length ∧ u + tw (fun x => x != 32) (s.drop u) = R) (fun u => s.length - u) ?_ a ⟨ha, hR⟩
      rintro j ⟨hj, g3⟩ ih
      by_cases hlt' : j < s.length
      · have hlti : (j : Int) < s.length := by omega
        have hw : IntKind.i64.wrap ((j : Int) + 1) = j + 1 := wrap_i64 _ (by omega) (by omega)
        rw [drop_get hlt'] at g3
        have hbe := byte_eq s[j] 32
        cases hc : (s[j] == (32 : UInt8)) with
        | true =>
          rw [tw_miss _ _ _ (by simp at hc; simp [hc])] at g3
          rw [hc] at hbe
          have hbn : ((s[j].toNat : Int) != 32) = false := by rw [bne, show ((s[j].toNat : Int) == 32) = true from hbe]; rfl
          repeat (first
            | (refine AWP_seq (AWP_regS tOk rfl ?_); simp [hlt', hlti])
            | (refine AWP_regS tOk rfl ?_; simp [hlt', hlti])
            | (refine AWP_skip ?_; simp [hlt', hlti])
            | (refine AWP_exit ?_; simp [hlt', hlti])
            | (refine AWP_ret ?_; simp [hlt', hlti])
            | refine AWP_block ?_
            | refine AWP_seq ?_)
          refine AWP_cond2 rfl (fun h => by first | (rw [hbn] at h; cases h) | simp_all) (fun _ => ?_)
          repeat (first
            | (refine AWP_seq (AWP_regS tOk rfl ?_); simp)
            | (refine AWP_regS tOk rfl ?_; simp)
            | (refine AWP_skip ?_; simp)
            | (refine AWP_exit ?_; simp)
            | (refine AWP_ret ?_; simp)
            | refine AWP_block ?_
            | refine AWP_seq ?_)
          omega
        | false =>
          rw [tw_hit _ _ _ (by simp at hc; simp [hc])] at g3
          rw [hc] at hbe
          have hbn : ((s[j].toNat : Int) != 32) = true := by rw [bne, show ((s[j].toNat : Int) == 32) = false from hbe]; rfl
          repeat (first
            | (refine AWP_seq (AWP_regS tOk rfl ?_); simp [hlt', hlti])
            | (refine AWP_regS tOk rfl ?_; simp [hlt', hlti])
            | (refine AWP_skip ?_; simp [hlt', hlti])
            | (refine AWP_exit ?_; simp [hlt', hlti])
            | (refine AWP_ret ?_; simp [hlt', hlti])
            | refine AWP_block ?_
            | refine AWP_seq ?_)
          refine AWP_cond2 rfl (fun _ => ?_) (fun h => by first | (rw [hbn] at h; cases h) | simp_all)
          repeat (first
            | (refine AWP_seq (AWP_regS tOk rfl ?_); simp [hw])
            | (refine AWP_regS tOk rfl ?_; simp [hw])
            | (refine AWP_skip ?_; simp [hw])
            | (refine AWP_exit ?_; simp [hw])
            | (refine AWP_ret ?_; simp [hw])
            | refine AWP_block ?_
            | refine AWP_seq ?_)
          exact ALoop_keep (sl' := [(0, .str s), (1, .i (j + 1 : Nat))]) (ih (j + 1) ⟨by omega, by omega⟩ (by omega)) (by simp)
      · have hge' : j = s.length := by omega
        subst hge'
        rw [List.drop_length, tw_nil] at g3
        repeat (first
          | (refine AWP_seq (AWP_regS tOk rfl ?_); simp)
          | (refine AWP_regS tOk rfl ?_; simp)
          | (refine AWP_skip ?_; simp)
          | (refine AWP_exit ?_; simp)
          | (refine AWP_ret ?_; simp)
          | refine AWP_block ?_
          | refine AWP_seq ?_)
        refine AWP_cond rfl ?_
        repeat (first
          | (refine AWP_seq (AWP_regS tOk rfl ?_); simp)
          | (refine AWP_regS tOk rfl ?_; simp)
          | (refine AWP_skip ?_; simp)
          | (refine AWP_exit ?_; simp)
          | (refine AWP_ret ?_; simp)
          | refine AWP_block ?_
          | refine AWP_seq ?_)
        omega
  · have hge' : a = s.length := by omega
    subst hge'
    rw [List.drop_length, lenR_nil]
    repeat (first
      | (refine AWP_seq (AWP_regS tOk rfl ?_); simp)
      | (refine AWP_regS tOk rfl ?_; simp)
      | (refine AWP_skip ?_; simp)
      | (refine AWP_exit ?_; simp)
      | (refine AWP_ret ?_; simp)
      | refine AWP_block ?_
      | refine AWP_seq ?_)
    refine AWP_cond rfl ?_
    repeat (first
      | (refine AWP_seq (AWP_regS tOk rfl ?_); simp)
      | (refine AWP_regS tOk rfl ?_; simp)
      | (refine AWP_skip ?_; simp)
      | (refine AWP_exit ?_; simp)
      | (refine AWP_ret ?_; simp)
      | refine AWP_block ?_
      | refine AWP_seq ?_)
    refine AWP_loop (ALoop_keep (sl' := [(0, .str s), (1, .i s.length)]) ?_ (by simp))
    refine ALoop_wf (F := fun (_ : Nat) => ⟨[(0, .str s), (1, .i s.length)], []⟩) (fun _ => True) (fun u => u) ?_ 0 trivial
    rintro j _ ih
    repeat (first
      | (refine AWP_seq (AWP_regS tOk rfl ?_); simp)
      | (refine AWP_regS tOk rfl ?_; simp)
      | (refine AWP_skip ?_; simp)
      | (refine AWP_exit ?_; simp)
      | (refine AWP_ret ?_; simp)
      | refine AWP_block ?_
      | refine AWP_seq ?_)
    refine AWP_cond rfl ?_
    repeat (first
      | (refine AWP_seq (AWP_regS tOk rfl ?_); simp)
      | (refine AWP_regS tOk rfl ?_; simp)
      | (refine AWP_skip ?_; simp)
      | (refine AWP_exit ?_; simp)
      | (refine AWP_ret ?_; simp)
      | refine AWP_block ?_
      | refine AWP_seq ?_)
end Go.Abs
set_option maxRecDepth 100000
namespace Go.Abs
open Go Go.Proofs
set_option linter.unusedSimpArgs false
theorem all_no (t : List UInt8) (j : Nat) (h : j < t.length) (hd : isD t[j] = false) : t.all isD = false := by
  rw [Bool.eq_false_iff]
  intro ha
  rw [List.all_eq_true.1 ha _ (List.getElem_mem h)] at hd
  cases hd
theorem nval_bd2 (s : List UInt8) (hd : s.all isD = true) : 0 ≤ nval s ∧ nval s ≤ 1099511627777 := by
  have := nval_bd s hd s.length
  rwa [List.take_length] at this
theorem numeR_bd (s : List UInt8) : 0 ≤ (numeR s).1 ∧ (numeR s).1 ≤ 1099511627777 := by
  rw [numeR]
  by_cases h : s = [] ∨ s.all isD = false
  · rw [if_pos h]; simp
  · rw [if_neg h]
    exact nval_bd2 s (by simp only [not_or] at h; simpa using h.2)
theorem take_all (s : List UInt8) (j : Nat) (h : (s.take j).all isD = true) : ∀ i, i ≤ j → (s.take i).all isD = true := fun i hi => by
  rw [List.all_eq_true] at h ⊢
  intro x hx
  exact h x (by rw [← Nat.min_eq_left hi, ← List.take_take] at hx; exact List.mem_of_mem_take hx)
def rNumeR (s : List UInt8) : Int := if (numeR s).2 = true then (numeR s).1 else -1
attribute [local irreducible] nval isD
set_option maxHeartbeats 1000000 in
theorem pc_r4numeral (t : List UInt8) (hs : t.length ≤ 1000000) : PC Tryz.prog 73 [.str t] (fun r => r = .i (rNumeR t)) := by
  refine PC_body tOk Tryz.func73 rfl Tryz.results73 rfl (by simp [Tryz.ntmps73]) ?_
  rw [Tryz.ntmps73]
  simp only [argSlots]
  obtain ⟨R, hR⟩ : ∃ R, rNumeR t = R := ⟨_, rfl⟩
  rw [hR]
  rw [rNumeR, numeR] at hR
  repeat (first
    | (refine AWP_seq (AWP_regS tOk rfl ?_); simp)
    | (refine AWP_regS tOk rfl ?_; simp)
    | (refine AWP_skip ?_; simp)
    | (refine AWP_exit ?_; simp)
    | (refine AWP_ret ?_; simp)
    | refine AWP_block ?_
    | refine AWP_seq ?_)
  refine AWP_countI t.length (fun j => (t.take j).all isD = true) (fun j => [(0, .str t), (3, .i (nval (t.take j))), (4, .i j)]) (fun _ => []) rfl (by simp [nval_nil]) (by simp [nval_nil]) (by simp [nval_nil]) (by simp [nval_nil]) (by simp [nval_nil]) ?_
  intro j hj hI ih
  have hbd := nval_bd2 _ hI
  repeat (first
    | (refine AWP_seq (AWP_regS tOk rfl ?_); simp)
    | (refine AWP_regS tOk rfl ?_; simp)
    | (refine AWP_skip ?_; simp)
    | (refine AWP_exit ?_; simp)
    | (refine AWP_ret ?_; simp)
    | refine AWP_block ?_
    | refine AWP_seq ?_)
  refine AWP_cond2 rfl (fun hlt => ?_) (fun hge => ?_)
  · have hlt' : j < t.length := by simpa using hlt
    have hw : IntKind.i64.wrap ((j : Int) + 1) = j + 1 := wrap_i64 _ (by omega) (by omega)
    have hdn := isD_not t[j]
    cases hd : isD t[j] with
    | false =>
      rw [hd] at hdn
      have a1 : (decide ((t[j].toNat : Int) < 48) || decide (57 < (t[j].toNat : Int))) = true := hdn
      repeat (first
        | (refine AWP_seq (AWP_regS tOk rfl ?_); simp [hlt'])
        | (refine AWP_regS tOk rfl ?_; simp [hlt'])
        | (refine AWP_skip ?_; simp [hlt'])
        | (refine AWP_exit ?_; simp [hlt'])
        | (refine AWP_ret ?_; simp [hlt'])
        | refine AWP_block ?_
        | refine AWP_seq ?_)
      refine AWP_cond2 rfl (fun _ => ?_) (fun h => by rw [a1] at h; cases h)
      repeat (first
        | (refine AWP_seq (AWP_regS tOk rfl ?_); simp)
        | (refine AWP_regS tOk rfl ?_; simp)
        | (refine AWP_skip ?_; simp)
        | (refine AWP_exit ?_; simp)
        | (refine AWP_ret ?_; simp)
        | refine AWP_block ?_
        | refine AWP_seq ?_)
      rw [← hR, all_no t j hlt' hd]
      simp
    | true =>
      rw [hd] at hdn
      have a1 : (decide ((t[j].toNat : Int) < 48) || decide (57 < (t[j].toNat : Int))) = false := hdn
      have hc := (isD_iff t[j]).1 hd
      have hu : IntKind.u8.wrap ((t[j].toNat : Int) - 48) = (t[j].toNat : Int) - 48 := by rw [IntKind.wrap_u8]; omega
      have e1 : IntKind.i64.wrap (nval (t.take j) * 10) = nval (t.take j) * 10 := wrap_i64 _ (by omega) (by omega)
      have e2 : IntKind.i64.wrap ((t[j].toNat : Int) - 48) = (t[j].toNat : Int) - 48 := wrap_i64 _ (by omega) (by omega)
      have e3 : IntKind.i64.wrap (nval (t.take j) * 10 + ((t[j].toNat : Int) - 48)) = nval (t.take j) * 10 + ((t[j].toNat : Int) - 48) := wrap_i64 _ (by omega) (by omega)
      have hf : nval (t.take (j + 1)) = min (10 * nval (t.take j) + ((t[j].toNat : Int) - 48)) 1099511627777 := by rw [List.take_succ_eq_append_getElem hlt', nval_snoc, nstep]
      have hm : min (10 * nval (t.take j) + ((t[j].toNat : Int) - 48)) 1099511627777 = if 1099511627777 < nval (t.take j) * 10 + ((t[j].toNat : Int) - 48) then 1099511627777 else nval (t.take j) * 10 + ((t[j].toNat : Int) - 48) := by split <;> omega
      have hall : (t.take (j + 1)).all isD = true := by rw [List.take_succ_eq_append_getElem hlt', List.all_append, hI]; simp [hd]
      rw [hm] at hf
      clear hm
      generalize nval (t.take j) = N at hbd e1 e3 hf ⊢
      repeat (first
        | (refine AWP_seq (AWP_regS tOk rfl ?_); simp [hlt'])
        | (refine AWP_regS tOk rfl ?_; simp [hlt'])
        | (refine AWP_skip ?_; simp [hlt'])
        | (refine AWP_exit ?_; simp [hlt'])
        | (refine AWP_ret ?_; simp [hlt'])
        | refine AWP_block ?_
        | refine AWP_seq ?_)
      refine AWP_cond2 rfl (fun h => by rw [a1] at h; cases h) (fun _ => ?_)
      repeat (first
        | (refine AWP_seq (AWP_regS tOk rfl ?_); simp [hlt', hu, e1, e2, e3, hw])
        | (refine AWP_regS tOk rfl ?_; simp [hlt', hu, e1, e2, e3, hw])
        | (refine AWP_skip ?_; simp [hlt', hu, e1, e2, e3, hw])
        | (refine AWP_exit ?_; simp [hlt', hu, e1, e2, e3, hw])
        | (refine AWP_ret ?_; simp [hlt', hu, e1, e2, e3, hw])
        | refine AWP_block ?_
        | refine AWP_seq ?_)
      refine ALoop_end [] (ih hlt' hall) rfl (by simp) ?_ (by simp) (by simp)
      rw [hf]
      simp
  · have hge' : j = t.length := by simp at hge; omega
    subst hge'
    rw [List.take_length] at hI hbd ⊢
    repeat (first
      | (refine AWP_seq (AWP_regS tOk rfl ?_); simp)
      | (refine AWP_regS tOk rfl ?_; simp)
      | (refine AWP_skip ?_; simp)
      | (refine AWP_exit ?_; simp)
      | (refine AWP_ret ?_; simp)
      | refine AWP_block ?_
      | refine AWP_seq ?_)
    rcases t with _ | ⟨c, r⟩
    · repeat (first
        | (refine AWP_seq (AWP_regS tOk rfl ?_); simp)
        | (refine AWP_regS tOk rfl ?_; simp)
        | (refine AWP_skip ?_; simp)
        | (refine AWP_exit ?_; simp)
        | (refine AWP_ret ?_; simp)
        | refine AWP_block ?_
        | refine AWP_seq ?_)
      refine AWP_cond rfl ?_
      repeat (first
        | (refine AWP_seq (AWP_regS tOk rfl ?_); simp)
        | (refine AWP_regS tOk rfl ?_; simp)
        | (refine AWP_skip ?_; simp)
        | (refine AWP_exit ?_; simp)
        | (refine AWP_ret ?_; simp)
        | refine AWP_block ?_
        | refine AWP_seq ?_)
      rw [← hR]
      simp
    · have hln : ((r.length : Int) + 1 == 0) = false := beq_eq_false_iff_ne.2 (by omega)
      have hcn : ¬ (c :: r = [] ∨ (c :: r).all isD = false) := fun h => by
        rcases h with h | h
        · cases h
        · rw [hI] at h; cases h
      simp only [if_neg hcn] at hR
      repeat (first
        | (refine AWP_seq (AWP_regS tOk rfl ?_); simp [hln])
        | (refine AWP_regS tOk rfl ?_; simp [hln])
        | (refine AWP_skip ?_; simp [hln])
        | (refine AWP_exit ?_; simp [hln])
        | (refine AWP_ret ?_; simp [hln])
        | refine AWP_block ?_
        | refine AWP_seq ?_)
      refine AWP_cond rfl ?_
      repeat (first
        | (refine AWP_seq (AWP_regS tOk rfl ?_); simp)
        | (refine AWP_regS tOk rfl ?_; simp)
        | (refine AWP_skip ?_; simp)
        | (refine AWP_exit ?_; simp)
        | (refine AWP_ret ?_; simp)
        | refine AWP_block ?_
        | refine AWP_seq ?_)
      rw [← hR]
      simp
/-- What a word with two numerals says. -/
def idR (s : List UInt8) : Int × Int × Int :=
  if (Lib.cut s [46]).2.2 = false ∨ (numeR (Lib.cut s [46]).1).2 = false ∨ (numeR (Lib.cut s [46]).2.1).2 = false then (0, 0, 4)
  else if 8 ≤ (numeR (Lib.cut s [46]).1).1 then (0, 0, 32) else if 1099511627776 < (numeR (Lib.cut s [46]).2.1).1 then (0, 0, 2)
  else ((numeR (Lib.cut s [46]).1).1, (numeR (Lib.cut s [46]).2.1).1, 0)
theorem cut_tw (s : List UInt8) : Lib.cut s [46] = if tw (fun x => x != 46) s = s.length then (s, [], false) else (s.take (tw (fun x => x != 46) s), s.drop (tw (fun x => x != 46) s + 1), true) := by
  rw [Lib.cut, Lib.index_one]
  rcases ixb_cases s 46 with ⟨h1, h2⟩ | ⟨i, h1, h2⟩
  · rw [h1, if_neg (by decide), if_pos (by unfold tw; exact h2)]
  · have h3 := Lib.indexByte_some h1
    have hil : i < s.length := (List.getElem?_eq_some_iff.1 h3.1).1
    have h4 : tw (fun x => x != 46) s = i := by unfold tw; exact h2
    rw [h1, if_pos (by omega), h4, if_neg (by omega)]
    simp
attribute [local irreducible] numeR Lib.cut
set_option maxHeartbeats 2000000 in
theorem pc_r4identity (s : List UInt8) (hs : s.length ≤ 1000000) : PC Tryz.prog 44 [.str s] (fun r => r = .tup [.i (idR s).1, .i (idR s).2.1, .i (idR s).2.2]) := by
  refine PC_body tOk Tryz.func44 rfl Tryz.results44 rfl (by simp [Tryz.ntmps44]) ?_
  rw [Tryz.ntmps44]
  simp only [argSlots]
  obtain ⟨R, hR⟩ : ∃ R, idR s = R := ⟨_, rfl⟩
  rw [hR]
  obtain ⟨D, hD⟩ : ∃ D, tw (fun x => x != 46) s = D := ⟨_, rfl⟩
  have hDl : D ≤ s.length := by rw [← hD]; exact tw_le _ _
  repeat (first
    | (refine AWP_seq (AWP_regS tOk rfl ?_); simp)
    | (refine AWP_regS tOk rfl ?_; simp)
    | (refine AWP_skip ?_; simp)
    | (refine AWP_exit ?_; simp)
    | (refine AWP_ret ?_; simp)
    | refine AWP_block ?_
    | refine AWP_seq ?_)
  refine AWP_loop (ALoop_keep (sl' := [(0, .str s), (2, .i 0), (3, .i 0), (4, .i 0), (5, .i 0)]) ?_ (by simp))
  refine ALoop_wf (F := fun (u : Nat) => ⟨[(0, .str s), (2, .i 0), (3, .i 0), (4, .i 0), (5, .i u)], []⟩)
    (fun u => u ≤ s.length ∧ u + tw (fun x => x != 46) (s.drop u) = D) (fun u => s.length - u) ?_ 0 ⟨by simp, by simpa using hD⟩
  rintro j ⟨hj, g3⟩ ih
  by_cases hlt' : j < s.length
  · have hlti : (j : Int) < s.length := by omega
    have hw : IntKind.i64.wrap ((j : Int) + 1) = j + 1 := wrap_i64 _ (by omega) (by omega)
    rw [drop_get hlt'] at g3
    have hbe := byte_eq s[j] 46
    cases hc : (s[j] == (46 : UInt8)) with
    | true =>
      rw [tw_miss _ _ _ (by simp at hc; simp [hc])] at g3
      rw [hc] at hbe
      have hbn : ((s[j].toNat : Int) != 46) = false := by rw [bne, show ((s[j].toNat : Int) == 46) = true from hbe]; rfl
      have hjD : j = D := by omega
      subst hjD
      have hcut : Lib.cut s [46] = (s.take j, s.drop (j + 1), true) := by rw [cut_tw, hD, if_neg (by omega)]
      rw [idR, hcut] at hR
      simp only at hR
      have hne : ((j : Int) == s.length) = false := beq_eq_false_iff_ne.2 (by omega)
      repeat (first
        | (refine AWP_seq (AWP_regS tOk rfl ?_); simp [hlt', hlti])
        | (refine AWP_regS tOk rfl ?_; simp [hlt', hlti])
        | (refine AWP_skip ?_; simp [hlt', hlti])
        | (refine AWP_exit ?_; simp [hlt', hlti])
        | (refine AWP_ret ?_; simp [hlt', hlti])
        | refine AWP_block ?_
        | refine AWP_seq ?_)
      refine AWP_cond2 rfl (fun h => by first | (rw [hbn] at h; cases h) | simp_all) (fun _ => ?_)
      repeat (first
        | (refine AWP_seq (AWP_regS tOk rfl ?_); simp)
        | (refine AWP_regS tOk rfl ?_; simp)
        | (refine AWP_skip ?_; simp)
        | (refine AWP_exit ?_; simp)
        | (refine AWP_ret ?_; simp)
        | refine AWP_block ?_
        | refine AWP_seq ?_)
      refine AWP_cond2 rfl (fun h => by first | (rw [hne] at h; cases h) | simp_all) (fun _ => ?_)
      have e1 : (j : Int) ≤ s.length := by omega
      have e2 : (j : Int) + 1 ≤ s.length := by omega
      have e3 : ((j : Int) + 1).toNat = j + 1 := by omega
      have e4 : j + 1 ≤ s.length := by omega
      have e5 : (0 : Int) ≤ (j : Int) + 1 := by omega
      have hA := numeR_bd (s.take j)
      have hB := numeR_bd (s.drop (j + 1))
      have q1 := pc_r4numeral (s.take j) (by simp; omega)
      have q2 := pc_r4numeral (s.drop (j + 1)) (by simp; omega)
      rw [rNumeR] at q1 q2
      generalize numeR (s.take j) = A at *
      generalize numeR (s.drop (j + 1)) = B at *
      obtain ⟨m, am⟩ := A
      obtain ⟨n, bn⟩ := B
      simp only at hR hA hB q1 q2
      repeat (first
        | (refine AWP_seq (AWP_regS tOk rfl ?_); simp)
        | (refine AWP_regS tOk rfl ?_; simp)
        | (refine AWP_skip ?_; simp)
        | (refine AWP_exit ?_; simp)
        | (refine AWP_ret ?_; simp)
        | refine AWP_block ?_
        | refine AWP_seq ?_)
      refine AWP_drawT tOk mixed [] (.val 0 (.val 1 (.val 2 (.val 4 (.val 5 (.val 6 (.val 7 (.one 3 (.one 8 (.val 9 (.val 10 (.done)))))))))))) rfl (by kernel_rfl) ?_
      simp [hw, e1, e2, e3, e4, e5, hj]
      refine AStep_PC rfl rfl (by simp) (q1) rfl ?_
      rintro _ rfl
      simp
      refine AStep_PC rfl rfl (by simp) (q2) rfl ?_
      rintro _ rfl
      simp
      repeat (first
        | (refine AWP_seq (AWP_regS tOk rfl ?_); simp)
        | (refine AWP_regS tOk rfl ?_; simp)
        | (refine AWP_skip ?_; simp)
        | (refine AWP_exit ?_; simp)
        | (refine AWP_ret ?_; simp)
        | refine AWP_block ?_
        | refine AWP_seq ?_)
      cases am with
      | false =>
        rw [if_pos (by simp)] at hR
        refine AWP_cond2 rfl (fun _ => ?_) (fun h => by simp at h)
        repeat (first
          | (refine AWP_seq (AWP_regS tOk rfl ?_); simp)
          | (refine AWP_regS tOk rfl ?_; simp)
          | (refine AWP_skip ?_; simp)
          | (refine AWP_exit ?_; simp)
          | (refine AWP_ret ?_; simp)
          | refine AWP_block ?_
          | refine AWP_seq ?_)
        rw [← hR]
        exact ⟨rfl, rfl, rfl⟩
      | true =>
      cases bn with
      | false =>
        rw [if_pos (by simp)] at hR
        refine AWP_cond2 rfl (fun _ => ?_) (fun h => by simp at h)
        repeat (first
          | (refine AWP_seq (AWP_regS tOk rfl ?_); simp)
          | (refine AWP_regS tOk rfl ?_; simp)
          | (refine AWP_skip ?_; simp)
          | (refine AWP_exit ?_; simp)
          | (refine AWP_ret ?_; simp)
          | refine AWP_block ?_
          | refine AWP_seq ?_)
        rw [← hR]
        exact ⟨rfl, rfl, rfl⟩
      | true =>
      rw [if_neg (by simp)] at hR
      refine AWP_cond2 rfl (fun h => by simp at h; omega) (fun _ => ?_)
      repeat (first
        | (refine AWP_seq (AWP_regS tOk rfl ?_); simp)
        | (refine AWP_regS tOk rfl ?_; simp)
        | (refine AWP_skip ?_; simp)
        | (refine AWP_exit ?_; simp)
        | (refine AWP_ret ?_; simp)
        | refine AWP_block ?_
        | refine AWP_seq ?_)
      refine AWP_cond2 rfl (fun h => ?_) (fun h => ?_)
      · rw [if_pos (by simpa using h)] at hR
        repeat (first
          | (refine AWP_seq (AWP_regS tOk rfl ?_); simp)
          | (refine AWP_regS tOk rfl ?_; simp)
          | (refine AWP_skip ?_; simp)
          | (refine AWP_exit ?_; simp)
          | (refine AWP_ret ?_; simp)
          | refine AWP_block ?_
          | refine AWP_seq ?_)
        rw [← hR]
        exact ⟨rfl, rfl, rfl⟩
      rw [if_neg (by simpa using h)] at hR
      repeat (first
        | (refine AWP_seq (AWP_regS tOk rfl ?_); simp)
        | (refine AWP_regS tOk rfl ?_; simp)
        | (refine AWP_skip ?_; simp)
        | (refine AWP_exit ?_; simp)
        | (refine AWP_ret ?_; simp)
        | refine AWP_block ?_
        | refine AWP_seq ?_)
      refine AWP_cond2 rfl (fun h => ?_) (fun h => ?_)
      · rw [if_pos (by simpa using h)] at hR
        repeat (first
          | (refine AWP_seq (AWP_regS tOk rfl ?_); simp)
          | (refine AWP_regS tOk rfl ?_; simp)
          | (refine AWP_skip ?_; simp)
          | (refine AWP_exit ?_; simp)
          | (refine AWP_ret ?_; simp)
          | refine AWP_block ?_
          | refine AWP_seq ?_)
        rw [← hR]
        exact ⟨rfl, rfl, rfl⟩
      rw [if_neg (by simpa using h)] at hR
      repeat (first
        | (refine AWP_seq (AWP_regS tOk rfl ?_); simp)
        | (refine AWP_regS tOk rfl ?_; simp)
        | (refine AWP_skip ?_; simp)
        | (refine AWP_exit ?_; simp)
        | (refine AWP_ret ?_; simp)
        | refine AWP_block ?_
        | refine AWP_seq ?_)
      rw [← hR]
      exact ⟨rfl, rfl, rfl⟩
    | false =>
      rw [tw_hit _ _ _ (by simp at hc; simp [hc])] at g3
      rw [hc] at hbe
      have hbn : ((s[j].toNat : Int) != 46) = true := by rw [bne, show ((s[j].toNat : Int) == 46) = false from hbe]; rfl
      repeat (first
        | (refine AWP_seq (AWP_regS tOk rfl ?_); simp [hlt', hlti])
        | (refine AWP_regS tOk rfl ?_; simp [hlt', hlti])
        | (refine AWP_skip ?_; simp [hlt', hlti])
        | (refine AWP_exit ?_; simp [hlt', hlti])
        | (refine AWP_ret ?_; simp [hlt', hlti])
        | refine AWP_block ?_
        | refine AWP_seq ?_)
      refine AWP_cond2 rfl (fun _ => ?_) (fun h => by first | (rw [hbn] at h; cases h) | simp_all)
      repeat (first
        | (refine AWP_seq (AWP_regS tOk rfl ?_); simp [hw])
        | (refine AWP_regS tOk rfl ?_; simp [hw])
        | (refine AWP_skip ?_; simp [hw])
        | (refine AWP_exit ?_; simp [hw])
        | (refine AWP_ret ?_; simp [hw])
        | refine AWP_block ?_
        | refine AWP_seq ?_)
      exact ALoop_keep (sl' := [(0, .str s), (2, .i 0), (3, .i 0), (4, .i 0), (5, .i (j + 1 : Nat))]) (ih (j + 1) ⟨by omega, by omega⟩ (by omega)) (by simp)
  · have hge' : j = s.length := by omega
    subst hge'
    rw [List.drop_length, tw_nil] at g3
    have hcut : Lib.cut s [46] = (s, [], false) := by rw [cut_tw, hD, if_pos (by omega)]
    rw [idR, hcut, if_pos (.inl rfl)] at hR
    repeat (first
      | (refine AWP_seq (AWP_regS tOk rfl ?_); simp)
      | (refine AWP_regS tOk rfl ?_; simp)
      | (refine AWP_skip ?_; simp)
      | (refine AWP_exit ?_; simp)
      | (refine AWP_ret ?_; simp)
      | refine AWP_block ?_
      | refine AWP_seq ?_)
    refine AWP_cond rfl ?_
    repeat (first
      | (refine AWP_seq (AWP_regS tOk rfl ?_); simp)
      | (refine AWP_regS tOk rfl ?_; simp)
      | (refine AWP_skip ?_; simp)
      | (refine AWP_exit ?_; simp)
      | (refine AWP_ret ?_; simp)
      | refine AWP_block ?_
      | refine AWP_seq ?_)
    refine AWP_cond rfl ?_
    repeat (first
      | (refine AWP_seq (AWP_regS tOk rfl ?_); simp)
      | (refine AWP_regS tOk rfl ?_; simp)
      | (refine AWP_skip ?_; simp)
      | (refine AWP_exit ?_; simp)
      | (refine AWP_ret ?_; simp)
      | refine AWP_block ?_
      | refine AWP_seq ?_)
    rw [← hR]
    exact ⟨rfl, rfl, rfl⟩
/-- What a word with a time says. -/
def mtR (s : List UInt8) : Int × Int := if (cutPre s [64]).2 = false ∨ (numeR (cutPre s [64]).1).2 = false then (0, 4) else if 1099511627776 < (numeR (cutPre s [64]).1).1 then (0, 2) else ((numeR (cutPre s [64]).1).1, 0)
set_option maxHeartbeats 2000000 in
theorem pc_r4moment (s : List UInt8) (hs : s.length ≤ 1000000) : PC Tryz.prog 45 [.str s] (fun r => r = .tup [.i (mtR s).1, .i (mtR s).2]) := by
  refine PC_body tOk Tryz.func45 rfl Tryz.results45 rfl (by simp [Tryz.ntmps45]) ?_
  rw [Tryz.ntmps45]
  simp only [argSlots]
  obtain ⟨R, hR⟩ : ∃ R, mtR s = R := ⟨_, rfl⟩
  rw [hR]
  rw [mtR] at hR
  rcases s with _ | ⟨c, r⟩
  · have hcp : cutPre [] [64] = ([], false) := rfl
    rw [hcp, if_pos (.inl rfl)] at hR
    repeat (first
      | (refine AWP_seq (AWP_regS tOk rfl ?_); simp)
      | (refine AWP_regS tOk rfl ?_; simp)
      | (refine AWP_skip ?_; simp)
      | (refine AWP_exit ?_; simp)
      | (refine AWP_ret ?_; simp)
      | refine AWP_block ?_
      | refine AWP_seq ?_)
    refine AStep_skip rfl rfl ?_
    simp
    repeat (first
      | (refine AWP_seq (AWP_regS tOk rfl ?_); simp)
      | (refine AWP_regS tOk rfl ?_; simp)
      | (refine AWP_skip ?_; simp)
      | (refine AWP_exit ?_; simp)
      | (refine AWP_ret ?_; simp)
      | refine AWP_block ?_
      | refine AWP_seq ?_)
    refine AWP_cond rfl ?_
    repeat (first
      | (refine AWP_seq (AWP_regS tOk rfl ?_); simp)
      | (refine AWP_regS tOk rfl ?_; simp)
      | (refine AWP_skip ?_; simp)
      | (refine AWP_exit ?_; simp)
      | (refine AWP_ret ?_; simp)
      | refine AWP_block ?_
      | refine AWP_seq ?_)
    rw [← hR]
    exact ⟨rfl, rfl⟩
  · have h1l : (1 : Int) ≤ (r.length : Int) + 1 := by omega
    have hln : ((r.length : Int) + 1 == 0) = false := beq_eq_false_iff_ne.2 (by omega)
    have hbe := byte_eq c 64
    have hA := numeR_bd r
    have q1 := pc_r4numeral r (by simp at hs; omega)
    rw [rNumeR] at q1
    cases hc : (c == (64 : UInt8)) with
    | false =>
      rw [hc] at hbe
      have hbn : ((c.toNat : Int) != 64) = true := by rw [bne, show ((c.toNat : Int) == 64) = false from hbe]; rfl
      have hcp : (cutPre (c :: r) [64]).2 = false := by
        unfold cutPre; rw [if_neg (by simp [hasPre, List.isPrefixOf]; intro h; rw [← h] at hc; simp at hc)]
      rw [if_pos (.inl hcp)] at hR
      repeat (first
        | (refine AWP_seq (AWP_regS tOk rfl ?_); simp [hln, hbn, h1l])
        | (refine AWP_regS tOk rfl ?_; simp [hln, hbn, h1l])
        | (refine AWP_skip ?_; simp [hln, hbn, h1l])
        | (refine AWP_exit ?_; simp [hln, hbn, h1l])
        | (refine AWP_ret ?_; simp [hln, hbn, h1l])
        | refine AWP_block ?_
        | refine AWP_seq ?_)
      refine AStep_skip rfl rfl ?_
      simp
      repeat (first
        | (refine AWP_seq (AWP_regS tOk rfl ?_); simp)
        | (refine AWP_regS tOk rfl ?_; simp)
        | (refine AWP_skip ?_; simp)
        | (refine AWP_exit ?_; simp)
        | (refine AWP_ret ?_; simp)
        | refine AWP_block ?_
        | refine AWP_seq ?_)
      refine AWP_cond rfl ?_
      repeat (first
        | (refine AWP_seq (AWP_regS tOk rfl ?_); simp)
        | (refine AWP_regS tOk rfl ?_; simp)
        | (refine AWP_skip ?_; simp)
        | (refine AWP_exit ?_; simp)
        | (refine AWP_ret ?_; simp)
        | refine AWP_block ?_
        | refine AWP_seq ?_)
      rw [← hR]
      exact ⟨rfl, rfl⟩
    | true =>
      rw [hc] at hbe
      have hbn : ((c.toNat : Int) != 64) = false := by rw [bne, show ((c.toNat : Int) == 64) = true from hbe]; rfl
      have hcp : cutPre (c :: r) [64] = (r, true) := by
        have h : c = 64 := by simpa using hc
        unfold cutPre; rw [h, if_pos (by simp [hasPre, List.isPrefixOf])]; rfl
      rw [hcp] at hR
      simp only at hR
      generalize numeR r = A at *
      obtain ⟨m, am⟩ := A
      simp only at hR hA q1
      repeat (first
        | (refine AWP_seq (AWP_regS tOk rfl ?_); simp [hln, hbn, h1l])
        | (refine AWP_regS tOk rfl ?_; simp [hln, hbn, h1l])
        | (refine AWP_skip ?_; simp [hln, hbn, h1l])
        | (refine AWP_exit ?_; simp [hln, hbn, h1l])
        | (refine AWP_ret ?_; simp [hln, hbn, h1l])
        | refine AWP_block ?_
        | refine AWP_seq ?_)
      refine AStep_PC rfl rfl (by simp) (q1) rfl ?_
      rintro _ rfl
      simp
      cases am with
      | false =>
        rw [if_pos (by simp)] at hR
        repeat (first
          | (refine AWP_seq (AWP_regS tOk rfl ?_); simp)
          | (refine AWP_regS tOk rfl ?_; simp)
          | (refine AWP_skip ?_; simp)
          | (refine AWP_exit ?_; simp)
          | (refine AWP_ret ?_; simp)
          | refine AWP_block ?_
          | refine AWP_seq ?_)
        refine AWP_cond2 rfl (fun _ => ?_) (fun h => by simp at h)
        repeat (first
          | (refine AWP_seq (AWP_regS tOk rfl ?_); simp)
          | (refine AWP_regS tOk rfl ?_; simp)
          | (refine AWP_skip ?_; simp)
          | (refine AWP_exit ?_; simp)
          | (refine AWP_ret ?_; simp)
          | refine AWP_block ?_
          | refine AWP_seq ?_)
        rw [← hR]
        exact ⟨rfl, rfl⟩
      | true =>
      rw [if_neg (by simp)] at hR
      simp only [if_pos] at q1
      repeat (first
        | (refine AWP_seq (AWP_regS tOk rfl ?_); simp)
        | (refine AWP_regS tOk rfl ?_; simp)
        | (refine AWP_skip ?_; simp)
        | (refine AWP_exit ?_; simp)
        | (refine AWP_ret ?_; simp)
        | refine AWP_block ?_
        | refine AWP_seq ?_)
      refine AWP_cond2 rfl (fun h => by simp at h; omega) (fun _ => ?_)
      repeat (first
        | (refine AWP_seq (AWP_regS tOk rfl ?_); simp [h1l])
        | (refine AWP_regS tOk rfl ?_; simp [h1l])
        | (refine AWP_skip ?_; simp [h1l])
        | (refine AWP_exit ?_; simp [h1l])
        | (refine AWP_ret ?_; simp [h1l])
        | refine AWP_block ?_
        | refine AWP_seq ?_)
      refine AStep_PC rfl rfl (by simp) (q1) rfl ?_
      rintro _ rfl
      simp
      repeat (first
        | (refine AWP_seq (AWP_regS tOk rfl ?_); simp)
        | (refine AWP_regS tOk rfl ?_; simp)
        | (refine AWP_skip ?_; simp)
        | (refine AWP_exit ?_; simp)
        | (refine AWP_ret ?_; simp)
        | refine AWP_block ?_
        | refine AWP_seq ?_)
      refine AWP_cond2 rfl (fun h => ?_) (fun h => ?_)
      · rw [if_pos (by simpa using h)] at hR
        repeat (first
          | (refine AWP_seq (AWP_regS tOk rfl ?_); simp)
          | (refine AWP_regS tOk rfl ?_; simp)
          | (refine AWP_skip ?_; simp)
          | (refine AWP_exit ?_; simp)
          | (refine AWP_ret ?_; simp)
          | refine AWP_block ?_
          | refine AWP_seq ?_)
        rw [← hR]
        exact ⟨rfl, rfl⟩
      rw [if_neg (by simpa using h)] at hR
      repeat (first
        | (refine AWP_seq (AWP_regS tOk rfl ?_); simp)
        | (refine AWP_regS tOk rfl ?_; simp)
        | (refine AWP_skip ?_; simp)
        | (refine AWP_exit ?_; simp)
        | (refine AWP_ret ?_; simp)
        | refine AWP_block ?_
        | refine AWP_seq ?_)
      rw [← hR]
      exact ⟨rfl, rfl⟩
/-- What a word says for a field of a kind. -/
def rvalR (s : List UInt8) (k : Int) : Val × Int := if (parseR s).2 ≠ 0 then (zeroV, (parseR s).2) else if (parseR s).1.kind ≠ k then (zeroV, 9) else ((parseR s).1, 0)
attribute [local irreducible] parseR
theorem pc_r4value (s : List UInt8) (k : Int) : PC Tryz.prog 46 [.str s, .i k] (fun r => r = .tup [encV (rvalR s k).1, .i (rvalR s k).2]) := by
  refine PC_body tOk Tryz.func46 rfl Tryz.results46 rfl (by simp [Tryz.ntmps46]) ?_
  rw [Tryz.ntmps46]
  simp only [argSlots]
  obtain ⟨R, hR⟩ : ∃ R, rvalR s k = R := ⟨_, rfl⟩
  rw [hR]
  rw [rvalR] at hR
  repeat (first
    | (refine AWP_seq (AWP_regS tOk rfl ?_); simp)
    | (refine AWP_regS tOk rfl ?_; simp)
    | (refine AWP_skip ?_; simp)
    | (refine AWP_exit ?_; simp)
    | (refine AWP_ret ?_; simp)
    | refine AWP_block ?_
    | refine AWP_seq ?_)
  refine AStep_PC rfl rfl (by simp) (pc_rParse s) rfl ?_
  rintro _ rfl
  simp
  generalize parseR s = P at *
  obtain ⟨v, x⟩ := P
  simp only at hR
  repeat (first
    | (refine AWP_seq (AWP_regS tOk rfl ?_); simp)
    | (refine AWP_regS tOk rfl ?_; simp)
    | (refine AWP_skip ?_; simp)
    | (refine AWP_exit ?_; simp)
    | (refine AWP_ret ?_; simp)
    | refine AWP_block ?_
    | refine AWP_seq ?_)
  refine AWP_cond2 rfl (fun h => ?_) (fun h => ?_)
  · rw [if_pos (by simpa using h)] at hR
    repeat (first
      | (refine AWP_seq (AWP_regS tOk rfl ?_); simp)
      | (refine AWP_regS tOk rfl ?_; simp)
      | (refine AWP_skip ?_; simp)
      | (refine AWP_exit ?_; simp)
      | (refine AWP_ret ?_; simp)
      | refine AWP_block ?_
      | refine AWP_seq ?_)
    rw [← hR]
    simp [zeroV]
  rw [if_neg (by simpa using h)] at hR
  repeat (first
    | (refine AWP_seq (AWP_regS tOk rfl ?_); simp)
    | (refine AWP_regS tOk rfl ?_; simp)
    | (refine AWP_skip ?_; simp)
    | (refine AWP_exit ?_; simp)
    | (refine AWP_ret ?_; simp)
    | refine AWP_block ?_
    | refine AWP_seq ?_)
  refine AWP_cond2 rfl (fun h => ?_) (fun h => ?_)
  · rw [if_pos (by simpa using h)] at hR
    repeat (first
      | (refine AWP_seq (AWP_regS tOk rfl ?_); simp)
      | (refine AWP_regS tOk rfl ?_; simp)
      | (refine AWP_skip ?_; simp)
      | (refine AWP_exit ?_; simp)
      | (refine AWP_ret ?_; simp)
      | refine AWP_block ?_
      | refine AWP_seq ?_)
    rw [← hR]
    simp [zeroV]
  rw [if_neg (by simpa using h)] at hR
  repeat (first
    | (refine AWP_seq (AWP_regS tOk rfl ?_); simp)
    | (refine AWP_regS tOk rfl ?_; simp)
    | (refine AWP_skip ?_; simp)
    | (refine AWP_exit ?_; simp)
    | (refine AWP_ret ?_; simp)
    | refine AWP_block ?_
    | refine AWP_seq ?_)
  rw [← hR]
  simp
end Go.Abs
set_option maxRecDepth 100000
namespace Go.Abs
open Go Go.Proofs
set_option linter.unusedSimpArgs false
/-- The rest is none, or begins with a space. -/
def brk (r : List UInt8) : Prop := r = [] ∨ ∃ t, r = 32 :: t
/-- A word as the texts of events have it. -/
def wok (w : List UInt8) : Prop := ∃ c t, w = c :: t ∧ c ≠ 32 ∧ ∀ r, brk r → lenR (c :: (t ++ r)) = (c :: t).length
def lay : List (Nat × List UInt8) → Nat → List UInt8
  | [], m => List.replicate m 32
  | (n, w) :: r, m => List.replicate n 32 ++ (w ++ lay r m)
theorem brk_lay : ∀ (l : List (Nat × List UInt8)) (m : Nat), (∀ p ∈ l, 1 ≤ p.1) → brk (lay l m)
  | [], 0, _ => .inl rfl
  | [], m + 1, _ => .inr ⟨_, List.replicate_succ⟩
  | (n, w) :: r, m, h => by
    have := h (n, w) (by simp)
    obtain ⟨k, rfl⟩ : ∃ k, n = k + 1 := ⟨n - 1, by simp at this; omega⟩
    exact .inr ⟨List.replicate k 32 ++ (w ++ lay r m), by simp [lay, List.replicate_succ]⟩
theorem words_sp : ∀ (n a : Nat) (t : List UInt8), wordsE a (List.replicate n 32 ++ t) = wordsE (a + n) t
  | 0, a, t => by simp
  | n + 1, a, t => by rw [List.replicate_succ, List.cons_append, wordsE_sp _ _ _ rfl, words_sp n (a + 1) t]; congr 1; omega
theorem words_lay : ∀ (l : List (Nat × List UInt8)) (m a : Nat), (∀ p ∈ l, wok p.2) → (∀ p ∈ l.tail, 1 ≤ p.1) → (wordsE a (lay l m)).map Prod.snd = l.map Prod.snd
  | [], m, a, _, _ => by
    have := words_sp m a []
    simp at this
    simp [lay, this, wordsE_nil]
  | (n, w) :: r, m, a, h1, h2 => by
    obtain ⟨c, t, hw, hc, hl⟩ := h1 (n, w) (by simp)
    simp only at hw
    subst hw
    have hb := brk_lay r m (fun p hp => h2 p (by simpa using hp))
    have hlr := hl _ hb
    rw [lay, words_sp, List.cons_append, wordsE_w _ _ _ hc, hlr]
    simp only [List.map_cons]
    rw [← List.cons_append, List.take_left' rfl, List.drop_left' rfl, words_lay r m _ (fun p hp => h1 p (by simp [hp])) (fun p hp => h2 p (by simp; exact List.mem_of_mem_tail hp))]
theorem wok_plain (w : List UInt8) (h0 : w ≠ []) (h : w.all (fun c => c != 32) = true) (h34 : w.head? ≠ some 34) : wok w := by
  obtain ⟨c, t, rfl⟩ := List.exists_cons_of_ne_nil h0
  have hc : c ≠ 32 := by have := List.all_eq_true.1 h c (by simp); simpa using this
  refine ⟨c, t, rfl, hc, fun r hr => ?_⟩
  rw [lenR, if_neg (by simpa using h34)]
  have : (c :: (t ++ r)).takeWhile (fun x => x != 32) = c :: t := by
    rw [← List.cons_append, List.takeWhile_append_of_pos (fun a ha => List.all_eq_true.1 h a ha)]
    rcases hr with rfl | ⟨u, rfl⟩ <;> simp
  rw [this]
theorem hexD_ne : ∀ a : Fin 16, hexD a.val ≠ 34 ∧ hexD a.val ≠ 92 := by decide +kernel
theorem qR_escB (c : UInt8) (d : UInt8) (r : List UInt8) : qR (escB c ++ d :: r) = (escB c).length + qR (d :: r) := by
  unfold escB
  by_cases h1 : ((c.toNat : Int) == 34 || (c.toNat : Int) == 92) = true
  · rw [if_pos h1]; exact qR_esc 92 c _ rfl
  rw [if_neg h1]
  by_cases h2 : ((c.toNat : Int) == 10) = true
  · rw [if_pos h2]; exact qR_esc 92 110 _ rfl
  rw [if_neg h2]
  by_cases h3 : (decide ((c.toNat : Int) < 32) || decide ((126 : Int) < c.toNat)) = true
  · rw [if_pos h3]
    have hlt : c.toNat < 256 := c.toNat_lt
    have e1 := hexD_ne ⟨c.toNat / 16, by omega⟩
    have e2 := hexD_ne ⟨c.toNat % 16, by omega⟩
    simp only at e1 e2
    unfold hexq
    simp only [List.cons_append, List.nil_append]
    rw [qR_esc 92 120 _ rfl, qR_step _ _ e1.1 e1.2, qR_step _ _ e2.1 e2.2]
    simp; omega
  rw [if_neg h3]
  have hc : c ≠ 34 ∧ c ≠ 92 := by
    refine ⟨fun e => h1 (by rw [e]; rfl), fun e => h1 (by rw [e]; rfl)⟩
  simp only [List.cons_append, List.nil_append]
  rw [qR_step _ _ hc.1 hc.2]
  simp
theorem qR_flat : ∀ (t r : List UInt8), qR (t.flatMap escB ++ 34 :: r) = (t.flatMap escB).length + 1
  | [], r => by simp [qR_hit]
  | c :: t, r => by
    have ih := qR_flat t r
    rw [List.flatMap_cons, List.append_assoc]
    obtain ⟨d, u, hd⟩ : ∃ d u, t.flatMap escB ++ 34 :: r = d :: u := List.exists_cons_of_ne_nil (by simp)
    rw [hd] at ih ⊢
    rw [qR_escB, ih, List.length_append]
    omega
theorem wok_quote (t : List UInt8) : wok (quoteR t) := by
  refine ⟨34, t.flatMap escB ++ [34], rfl, by decide, fun r _ => ?_⟩
  rw [lenR, if_pos rfl, List.append_assoc, List.cons_append, List.nil_append, qR_flat]
  simp; omega
theorem isD_ne2 {c : UInt8} (h : isD c = true) : c ≠ 32 ∧ c ≠ 34 ∧ c ≠ 46 := by
  have := (isD_iff c).1 h
  refine ⟨fun e => ?_, fun e => ?_, fun e => ?_⟩ <;> (subst e; simp at this)
theorem digsW (u : Nat) : Lib.decDigits u ≠ [] ∧ (Lib.decDigits u).all (fun c => c != 32) = true ∧ (Lib.decDigits u).head? ≠ some 34 ∧ (Lib.decDigits u).all (fun c => c != 46) = true := by
  have h := decDigits_all u
  have h0 : Lib.decDigits u ≠ [] := by
    intro e
    rcases Nat.eq_zero_or_pos u with rfl | hu
    · rw [Lib.decDigits_one (by omega)] at e; cases e
    · obtain ⟨c, r, e2, _⟩ := decDigits_head u hu
      rw [e2] at e; cases e
  rw [List.all_eq_true] at h
  refine ⟨h0, List.all_eq_true.2 fun c hc => by have := isD_ne2 (h c hc); simpa using this.1, fun e => ?_, List.all_eq_true.2 fun c hc => by have := isD_ne2 (h c hc); simpa using this.2.2⟩
  exact (isD_ne2 (h 34 (List.mem_of_head? e))).2.1 rfl
theorem itoa_wok (n : Int) : wok (Lib.itoa n) := by
  rcases itoa_cases n with ⟨u, _, h⟩ | ⟨u, _, _, h⟩
  · rw [h]; obtain ⟨h1, h2, h3, _⟩ := digsW u; exact wok_plain _ h1 h2 h3
  · rw [h]; obtain ⟨h1, h2, h3, _⟩ := digsW u; exact wok_plain _ (by simp) (by rw [List.all_cons, h2]; rfl) (by simp)
theorem fmt_wok (v : Val) : wok (fmtText v) := by
  unfold fmtText
  split
  · exact itoa_wok _
  split
  · cases v.num == 1 <;> exact wok_plain _ (by simp [boolS]) (by rfl) (by simp [boolS])
  · exact wok_quote _
theorem okC_ne {c : UInt8} (h : okC c = true) : c ≠ 32 ∧ c ≠ 34 := by
  refine ⟨fun e => ?_, fun e => ?_⟩ <;> (subst e; revert h; decide)
theorem name_wok {s : List UInt8} (h : nameR s = true) : wok s := by
  cases s with
  | nil => cases h
  | cons c r =>
    rw [nameR, Bool.and_eq_true] at h
    have h2 := List.all_eq_true.1 h.2
    refine wok_plain _ (by simp) (List.all_eq_true.2 fun c hc => by have := okC_ne (h2 c hc); simpa using this.1) ?_
    simp only [List.head?_cons, ne_eq, Option.some.injEq]
    exact (okC_ne (h2 c (by simp))).2
theorem itoa_nat (n : Int) (h : 0 ≤ n) : ∃ u : Nat, n = u ∧ Lib.itoa n = Lib.decDigits u := by
  obtain ⟨u, rfl⟩ : ∃ u : Nat, n = u := ⟨n.toNat, by omega⟩
  exact ⟨u, rfl, Lib.itoa_nonneg u⟩
theorem ident_wok (a b : Int) (ha : 0 ≤ a) (hb : 0 ≤ b) : wok (Lib.itoa a ++ ([46] ++ Lib.itoa b)) := by
  obtain ⟨u, rfl, e1⟩ := itoa_nat a ha
  obtain ⟨v, rfl, e2⟩ := itoa_nat b hb
  rw [e1, e2]
  obtain ⟨h1, h2, h3, _⟩ := digsW u
  obtain ⟨k1, k2, k3, _⟩ := digsW v
  refine wok_plain _ (by simp [h1]) (by rw [List.all_append, h2, List.all_append, k2]; rfl) ?_
  rw [List.head?_append]
  cases hh : (Lib.decDigits u).head? with
  | none => rw [List.head?_eq_none_iff] at hh; exact absurd hh h1
  | some c => rw [hh] at h3; simpa using h3
theorem mom_wok (a : Int) (ha : 0 ≤ a) : wok (64 :: Lib.itoa a) := by
  obtain ⟨u, rfl, e1⟩ := itoa_nat a ha
  rw [e1]
  obtain ⟨h1, h2, h3, _⟩ := digsW u
  exact wok_plain _ (by simp) (by rw [List.all_cons, h2]; rfl) (by simp)
theorem nval_dval (s : List UInt8) (hd : s.all isD = true) : ∀ j, j ≤ s.length → 0 ≤ dval (s.take j) ∧ nval (s.take j) = min (dval (s.take j)) 1099511627777
  | 0, _ => by simp [nval, dval]; rfl
  | j + 1, hj => by
    have ih := nval_dval s hd j (by omega)
    have hc := (isD_iff s[j]).1 (List.all_eq_true.1 hd _ (List.getElem_mem hj))
    rw [List.take_succ_eq_append_getElem hj, nval_snoc, nstep, dval_snoc, dstep, ih.2]
    omega
theorem nume_digs (u : Nat) (h : u ≤ 1099511627776) : numeR (Lib.decDigits u) = ((u : Int), true) := by
  have hd := decDigits_all u
  have hn := (nval_dval _ hd _ (Nat.le_refl _)).2
  rw [List.take_length, dval_decDigits] at hn
  rw [numeR, if_neg (fun h => by rcases h with h | h; exact (digsW u).1 h; rw [hd] at h; cases h), hn]
  rw [Int.min_eq_left (by omega)]
theorem nume_itoa (n : Int) (h0 : 0 ≤ n) (h : n ≤ 1099511627776) : numeR (Lib.itoa n) = (n, true) := by
  obtain ⟨u, rfl, e⟩ := itoa_nat n h0
  rw [e, nume_digs u (by omega)]
theorem cut_id (a : Int) (ha : 0 ≤ a) (t : List UInt8) : Lib.cut (Lib.itoa a ++ ([46] ++ t)) [46] = (Lib.itoa a, t, true) := by
  obtain ⟨u, rfl, e⟩ := itoa_nat a ha
  rw [e]
  have h4 := (digsW u).2.2.2
  have htw : tw (fun x => x != 46) (Lib.decDigits u ++ ([46] ++ t)) = (Lib.decDigits u).length := by
    unfold tw
    rw [List.takeWhile_append_of_pos (fun a ha => List.all_eq_true.1 h4 a ha)]
    simp
  rw [cut_tw, htw, if_neg (by simp), List.take_left' rfl]
  congr 2
  rw [← List.append_assoc, List.drop_left' (by simp)]
theorem where_self (l : List Sch) (h : schsR [] l = 0) (k : Nat) (hk : k < l.length) : whereR l l[k].name = some k := by
  have key : ∀ (l : List Sch) (seen : List (List UInt8)), schsR seen l = 0 → ∀ k (hk : k < l.length), l[k].name ∉ seen ∧ whereR l l[k].name = some k := by
    intro l
    induction l with
    | nil => intro seen _ k hk; simp at hk
    | cons s r ih =>
      intro seen h k hk
      rw [schsR] at h
      by_cases h1 : ckSch s ≠ 0
      · rw [if_pos h1] at h; exact absurd h h1
      rw [if_neg h1] at h
      by_cases h2 : s.name ∈ seen
      · rw [if_pos h2] at h; cases h
      rw [if_neg h2] at h
      cases k with
      | zero => exact ⟨h2, by simp [whereR]⟩
      | succ k =>
        obtain ⟨h3, h4⟩ := ih _ h k (by simpa using hk)
        simp only [List.getElem_cons_succ]
        refine ⟨fun hm => h3 (by simp [hm]), ?_⟩
        rw [whereR, if_neg (fun e => h3 (by rw [← e]; simp)), h4]
        rfl
  exact (key l [] h k hk).2
end Go.Abs
set_option maxRecDepth 100000
namespace Go.Abs
open Go Go.Proofs
set_option linter.unusedSimpArgs false
theorem goW_snd (l : List Sch) : ∀ (ws ws' : List (Nat × List UInt8)) (i : Nat) (e : Ev), ws.map Prod.snd = ws'.map Prod.snd → (goW l ws i e).1 = (goW l ws' i e).1 ∧ (goW l ws i e).2.1 = (goW l ws' i e).2.1 ∧ (goW l ws i e).2.2.2 = (goW l ws' i e).2.2.2
  | [], [], _, _, _ => ⟨rfl, rfl, rfl⟩
  | [], _ :: _, _, _, h => by simp at h
  | _ :: _, [], _, _, h => by simp at h
  | (a, w) :: r, (b, u) :: r', i, e, h => by
    simp only [List.map_cons, List.cons.injEq] at h
    obtain ⟨h1, h2⟩ := h
    subst h1
    rw [goW, goW]
    split
    · exact ⟨rfl, rfl, rfl⟩
    · exact goW_snd l r r' (i+1) _ h2
theorem goW_vals (l : List Sch) : ∀ (vs : List Val) (e : Ev), valsR vs ((fldsOf l e).drop e.values.length) = 0 → e.values.length + vs.length = (fldsOf l e).length → goW l (vs.map fun v => (0, (formatR v).1)) (3 + e.values.length) e = ({ e with values := e.values ++ vs }, 3 + e.values.length + vs.length, 0, 0)
  | [], e, _, _ => by simp [goW]
  | v :: vs, e, h, hl => by
    have hlt : e.values.length < (fldsOf l e).length := by simp at hl; omega
    rw [drop_get hlt, valsR] at h
    by_cases h1 : checkR v ≠ 0
    · rw [if_pos h1] at h; exact absurd h h1
    rw [if_neg h1] at h
    by_cases h2 : v.kind ≠ (fldsOf l e)[e.values.length].kind
    · rw [if_pos h2] at h; cases h
    rw [if_neg h2] at h
    have hf := formatR_ok (show checkR v = 0 by simpa using h1)
    obtain ⟨_, hp⟩ := parse_format v (by rw [hf])
    have hw : wordR l e (3 + e.values.length) (formatR v).1 = ({ e with values := e.values ++ [v] }, 0) := by
      unfold wordR
      rw [if_neg (by omega), if_neg (by omega), if_neg (by omega), if_neg (by omega), hp]
      simp only
      rw [if_neg (by decide), if_neg]
      rw [Nat.add_sub_cancel_left, List.getD_eq_getElem?_getD, List.getElem?_eq_getElem hlt]; simpa using h2
    rw [List.map_cons, goW, hw, if_neg (fun h => h rfl)]
    have := goW_vals l vs { e with values := e.values ++ [v] } (by simpa [fldsOf] using h) (by simp [fldsOf] at hl ⊢; omega)
    simp only [List.length_append, List.length_cons, List.length_nil, List.append_assoc, List.cons_append, List.nil_append] at this ⊢
    rw [show 3 + e.values.length + 1 = 3 + (e.values.length + (0 + 1)) by omega, this]
    simp only [Prod.mk.injEq, true_and, and_true]
    omega
theorem parse_words (l : List Sch) (e : Ev) (h : ckEv l e = 0) (s : List UInt8) (hl : s.length ≤ 65536) (hw : (wordsE 0 s).map Prod.snd = partsR l e) : evParseR l s = (e, 0, 0) := by
  obtain ⟨h0, ⟨k, hk, hkl, hfs⟩, hlv, hl8, hnum, hvals⟩ := ev_ok h
  have hn := nums_ok hnum
  have hgd : (l.getD e.type.toNat default).name = l[k].name := by rw [hk, List.getD_eq_getElem?_getD]; simp [hkl]
  have hsr : schsR [] l = 0 := by
    unfold ckSchs at h0
    by_cases h16 : 16 < l.length
    · rw [if_pos h16] at h0; cases h0
    · rwa [if_neg h16] at h0
  have hwh := where_self l hsr k hkl
  obtain ⟨g1, g2, g3⟩ := goW_snd l (wordsE 0 s) ((partsR l e).map fun w => (0, w)) 0 zeroE (by rw [hw]; simp [Function.comp_def])
  have hgo : goW l ((partsR l e).map fun w => (0, w)) 0 zeroE = (e, 3 + e.values.length, 0, 0) := by
    obtain ⟨es, eq, et, em, vs⟩ := e
    simp only at hk hn hgd hlv hvals hnum ⊢
    subst hk
    unfold partsR
    simp only [hgd, List.cons_append, List.nil_append, List.map_cons, List.map_map]
    have w0 : wordR l zeroE 0 l[k].name = (⟨0, 0, k, 0, []⟩, 0) := by
      have hf : findR l l[k].name = ((k : Int), 0) := by
        unfold findR
        rw [if_neg (by simpa using h0), hwh]
      unfold wordR
      rw [if_pos rfl, hf, if_neg (fun h => h rfl)]
      rfl
    have w1 : wordR l ⟨0, 0, k, 0, []⟩ 1 (Lib.itoa es ++ ([46] ++ Lib.itoa eq)) = (⟨es, eq, k, 0, []⟩, 0) := by
      unfold wordR identR
      rw [if_neg (by decide), if_pos rfl, cut_id es hn.1, nume_itoa es hn.1 (by omega), nume_itoa eq hn.2.2.1 hn.2.2.2.1, if_neg (by simp)]
      have : numsR ⟨es, eq, k, 0, []⟩ = 0 := by
        unfold numsR badS badN
        simp
        omega
      rw [this]
    have w2 : wordR l ⟨es, eq, k, 0, []⟩ 2 (64 :: Lib.itoa em) = (⟨es, eq, k, em, []⟩, 0) := by
      unfold wordR momR
      have hc : cutPre (64 :: Lib.itoa em) [64] = (Lib.itoa em, true) := by unfold cutPre; rw [if_pos (by simp [hasPre, List.isPrefixOf])]; rfl
      rw [if_neg (by decide), if_neg (by decide), if_pos rfl, hc, nume_itoa em hn.2.2.2.2.1 hn.2.2.2.2.2, if_neg (by simp)]
      have : numsR ⟨es, eq, k, em, []⟩ = 0 := by
        unfold numsR badS badN
        simp
        omega
      rw [this]
    simp only [List.cons_append, List.nil_append] at w1
    rw [goW, w0, if_neg (fun h => h rfl), goW, w1, if_neg (fun h => h rfl), goW, w2, if_neg (fun h => h rfl)]
    have hv := goW_vals l vs ⟨es, eq, k, em, []⟩ (by simpa [fldsOf] using hvals) (by simpa [fldsOf] using hlv)
    simpa [Function.comp_def] using hv
  rw [hgo] at g1 g2 g3
  simp only at g1 g2 g3
  unfold evParseR
  rw [if_neg (by simpa using h0), if_neg (by omega), g1, g2, g3, if_neg (by decide), if_neg (by omega)]
/-- What is so of an event while it is read. -/
structure WInv (l : List Sch) (i : Nat) (e : Ev) : Prop where
  ty : 0 < i → 0 ≤ e.type ∧ e.type < l.length
  id : i ≤ 1 → e.source = 0 ∧ e.seq = 0
  tm : i ≤ 2 → e.time = 0
  nm : numsR e = 0
  vl : e.values.length = i - 3
  fl : 3 < i → i - 3 ≤ (fldsOf l e).length
  vs : valsR e.values ((fldsOf l e).take (i - 3)) = 0
theorem winv_zero (l : List Sch) : WInv l 0 zeroE := ⟨fun h => absurd h (by decide), fun _ => ⟨rfl, rfl⟩, fun _ => rfl, rfl, rfl, fun h => absurd h (by decide), by simp [zeroE, valsR]⟩
theorem parse_check (s : List UInt8) (h : (parseR s).2 = 0) : checkR (parseR s).1 = 0 := by
  have hc : ∀ v, (checkedV v).2 = 0 → checkR (checkedV v).1 = 0 := fun v hv => by
    unfold checkedV at hv ⊢
    by_cases h1 : (checkR v != 0) = true
    · rw [if_pos h1] at hv; simp at h1; exact absurd hv h1
    · rw [if_neg h1]; simpa using h1
  unfold parseR at h ⊢
  split at h
  · cases h
  split at h
  · rename_i h1 h2
    rw [if_neg h1, if_pos h2]
    cases (s == sTrue) <;> decide
  split at h
  · rename_i h1 h2 h3
    rw [if_neg h1, if_neg h2, if_pos h3]
    split at h
    · cases h
    · rename_i h4; rw [if_neg h4]; exact hc _ h
  · rename_i h1 h2 h3
    rw [if_neg h1, if_neg h2, if_neg h3]
    split at h
    · cases h
    · rename_i h4; rw [if_neg h4]; exact hc _ h
theorem valsR_snoc : ∀ (vs : List Val) (fs : List Fld) (v : Val) (f : Fld), vs.length = fs.length → valsR vs fs = 0 → checkR v = 0 → v.kind = f.kind → valsR (vs ++ [v]) (fs ++ [f]) = 0
  | [], [], v, f, _, _, h1, h2 => by simp [valsR, h1, h2]
  | [], _ :: _, _, _, h, _, _, _ => by simp at h
  | _ :: _, [], _, _, h, _, _, _ => by simp at h
  | x :: vs, g :: fs, v, f, hl, h, h1, h2 => by
    simp only [List.cons_append]
    rw [valsR] at h ⊢
    by_cases h3 : checkR x ≠ 0
    · rw [if_pos h3] at h; exact absurd h h3
    rw [if_neg h3] at h ⊢
    by_cases h4 : x.kind ≠ g.kind
    · rw [if_pos h4] at h; cases h
    rw [if_neg h4] at h ⊢
    exact valsR_snoc vs fs v f (by simpa using hl) h h1 h2
theorem winv_step {l : List Sch} {i : Nat} {e : Ev} {s : List UInt8} (h : WInv l i e) (hw : (wordR l e i s).2 = 0) : WInv l (i + 1) (wordR l e i s).1 := by
  unfold wordR at hw ⊢
  by_cases h0 : i = 0
  · rw [if_pos h0] at hw ⊢
    by_cases h1 : (findR l s).2 ≠ 0
    · rw [if_pos h1] at hw; cases hw
    rw [if_neg h1]
    have hv := h.vl
    have hvn : e.values = [] := List.eq_nil_of_length_eq_zero (by omega)
    subst h0
    refine ⟨fun _ => find_ok (by simpa using h1), fun _ => h.id (by omega), fun _ => h.tm (by omega), ?_, by simpa using hv, fun h => absurd h (by decide), ?_⟩
    · have := h.nm; unfold numsR badS badN at this ⊢; exact this
    · simp only; rw [hvn]; simp [valsR]
  rw [if_neg h0] at hw ⊢
  by_cases h1 : i = 1
  · rw [if_pos h1] at hw ⊢
    unfold identR at hw ⊢
    split at hw
    · cases hw
    rename_i hc
    rw [if_neg hc]
    subst h1
    have hv := h.vl
    have hvn : e.values = [] := List.eq_nil_of_length_eq_zero (by omega)
    exact ⟨fun _ => h.ty (by omega), fun h => absurd h (by decide), fun _ => h.tm (by omega), hw, by simpa using hv, fun h => absurd h (by decide), by simp only; rw [hvn]; simp [valsR]⟩
  rw [if_neg h1] at hw ⊢
  by_cases h2 : i = 2
  · rw [if_pos h2] at hw ⊢
    unfold momR at hw ⊢
    split at hw
    · cases hw
    rename_i hc
    rw [if_neg hc]
    subst h2
    have hv := h.vl
    have hvn : e.values = [] := List.eq_nil_of_length_eq_zero (by omega)
    exact ⟨fun _ => h.ty (by omega), fun h => absurd h (by decide), fun h => absurd h (by decide), hw, by simpa using hv, fun h => absurd h (by decide), by simp only; rw [hvn]; simp [valsR]⟩
  rw [if_neg h2] at hw ⊢
  by_cases h3 : (fldsOf l e).length ≤ i - 3
  · rw [if_pos h3] at hw; cases hw
  rw [if_neg h3] at hw ⊢
  by_cases h4 : (parseR s).2 ≠ 0
  · rw [if_pos h4] at hw; exact absurd hw h4
  rw [if_neg h4] at hw ⊢
  by_cases h5 : (parseR s).1.kind ≠ ((fldsOf l e).getD (i - 3) default).kind
  · rw [if_pos h5] at hw; cases hw
  rw [if_neg h5]
  have hv := h.vl
  have hlt : i - 3 < (fldsOf l e).length := by omega
  refine ⟨fun _ => h.ty (by omega), fun h => by omega, fun h => by omega, ?_, by simp; omega, fun _ => ?_, ?_⟩
  · have := h.nm; unfold numsR badS badN at this ⊢; exact this
  · show i + 1 - 3 ≤ (fldsOf l e).length; omega
  · show valsR (e.values ++ [(parseR s).1]) ((fldsOf l e).take (i + 1 - 3)) = 0
    rw [show i + 1 - 3 = i - 3 + 1 by omega, List.take_succ_eq_append_getElem hlt]
    refine valsR_snoc _ _ _ _ (by simp; omega) h.vs (parse_check s (by simpa using h4)) ?_
    rw [List.getD_eq_getElem?_getD, List.getElem?_eq_getElem hlt] at h5
    simpa using h5
theorem goW_inv (l : List Sch) : ∀ (ws : List (Nat × List UInt8)) (i : Nat) (e : Ev), WInv l i e → (goW l ws i e).2.2.2 = 0 → WInv l (goW l ws i e).2.1 (goW l ws i e).1
  | [], i, e, h, _ => h
  | (a, w) :: r, i, e, h, hg => by
    rw [goW] at hg ⊢
    by_cases h1 : (wordR l e i w).2 ≠ 0
    · rw [if_pos h1] at hg; exact absurd hg h1
    · rw [if_neg h1] at hg ⊢
      exact goW_inv l r (i + 1) _ (winv_step h (by simpa using h1)) hg
theorem goW_at (l : List Sch) : ∀ (ws : List (Nat × List UInt8)) (i : Nat) (e : Ev), (goW l ws i e).2.2.2 ≠ 0 → ∃ p ∈ ws, p.1 = (goW l ws i e).2.2.1
  | [], i, e, hg => absurd rfl hg
  | (a, w) :: r, i, e, hg => by
    rw [goW] at hg ⊢
    by_cases h1 : (wordR l e i w).2 ≠ 0
    · rw [if_pos h1]; exact ⟨(a, w), by simp, rfl⟩
    · rw [if_neg h1] at hg ⊢
      obtain ⟨p, hp, he⟩ := goW_at l r (i + 1) _ hg
      exact ⟨p, by simp [hp], he⟩
theorem words_at : ∀ (n : Nat) (a : Nat) (s : List UInt8), s.length ≤ n → ∀ p ∈ wordsE a s, p.1 < a + s.length ∧ p.2.length ≤ s.length
  | _, a, [], _, p, hp => by rw [wordsE_nil] at hp; cases hp
  | 0, _, _ :: _, h, _, _ => by simp at h
  | n + 1, a, c :: t, h, p, hp => by
    simp at h
    by_cases hc : c = 32
    · rw [wordsE_sp _ _ _ hc] at hp
      have := words_at n (a + 1) t h p hp
      simp; omega
    · rw [wordsE_w _ _ _ hc] at hp
      have hl := lenR_pos c t hc
      have hle := lenR_le (c :: t)
      rcases List.mem_cons.1 hp with rfl | hp
      · simp at hle ⊢; omega
      · have := words_at n _ ((c :: t).drop (lenR (c :: t))) (by simp; omega) p hp
        simp at this hle ⊢
        omega
theorem parse_ok {l : List Sch} {s : List UInt8} (h : (evParseR l s).2.2 = 0) : (evParseR l s).2.1 = 0 ∧ ckEv l (evParseR l s).1 = 0 := by
  unfold evParseR at h ⊢
  by_cases h0 : ckSchs l ≠ 0
  · rw [if_pos h0] at h; exact absurd h h0
  rw [if_neg h0] at h ⊢
  by_cases h1 : 65536 < s.length
  · rw [if_pos h1] at h; cases h
  rw [if_neg h1] at h ⊢
  by_cases h2 : (goW l (wordsE 0 s) 0 zeroE).2.2.2 ≠ 0
  · rw [if_pos h2] at h; exact absurd h h2
  rw [if_neg h2] at h ⊢
  by_cases h3 : (goW l (wordsE 0 s) 0 zeroE).2.1 < 3 ∨ (goW l (wordsE 0 s) 0 zeroE).1.values.length < (fldsOf l (goW l (wordsE 0 s) 0 zeroE).1).length
  · rw [if_pos h3] at h; cases h
  rw [if_neg h3]
  have hv := goW_inv l (wordsE 0 s) 0 zeroE (winv_zero l) (by simpa using h2)
  generalize goW l (wordsE 0 s) 0 zeroE = G at *
  obtain ⟨e, i, a, x⟩ := G
  simp only at *
  refine ⟨trivial, ?_⟩
  simp only [not_or, Nat.not_lt] at h3
  have ht := hv.ty (by omega)
  have hl := hv.vl
  have hfl : i - 3 ≤ (fldsOf l e).length := by
    by_cases h4 : 3 < i
    · exact hv.fl h4
    · omega
  have hvs := hv.vs
  rw [List.take_of_length_le (by omega)] at hvs
  unfold ckEv validR
  rw [if_neg h0, if_neg (by rw [hv.nm]; decide), if_neg (by omega), if_neg (by unfold fldsOf at *; omega)]
  exact hvs
theorem parse_bad {l : List Sch} {s : List UInt8} (h : (evParseR l s).2.2 ≠ 0) : (evParseR l s).1 = zeroE ∧ (evParseR l s).2.1 ≤ s.length := by
  unfold evParseR at h ⊢
  by_cases h0 : ckSchs l ≠ 0
  · rw [if_pos h0]; exact ⟨rfl, Nat.zero_le _⟩
  rw [if_neg h0] at h ⊢
  by_cases h1 : 65536 < s.length
  · rw [if_pos h1]; exact ⟨rfl, Nat.zero_le _⟩
  rw [if_neg h1] at h ⊢
  by_cases h2 : (goW l (wordsE 0 s) 0 zeroE).2.2.2 ≠ 0
  · rw [if_pos h2]
    obtain ⟨p, hp, he⟩ := goW_at l _ _ _ h2
    have := words_at _ 0 s (Nat.le_refl _) p hp
    exact ⟨rfl, by simp only; omega⟩
  rw [if_neg h2] at h ⊢
  by_cases h3 : (goW l (wordsE 0 s) 0 zeroE).2.1 < 3 ∨ (goW l (wordsE 0 s) 0 zeroE).1.values.length < (fldsOf l (goW l (wordsE 0 s) 0 zeroE).1).length
  · rw [if_pos h3]; exact ⟨rfl, Nat.le_refl _⟩
  rw [if_neg h3] at h
  exact absurd rfl h
end Go.Abs
set_option maxRecDepth 100000
namespace Go.Abs
open Go Go.Proofs
set_option linter.unusedSimpArgs false
theorem words_skip : ∀ (t : List UInt8) (a : Nat), wordsE a t = wordsE (a + tw sp t) (t.drop (tw sp t)) ∧ ∀ c u, t.drop (tw sp t) = c :: u → c ≠ 32
  | [], a => by simp [tw_nil]
  | c :: t, a => by
    cases hc : sp c with
    | true =>
      obtain ⟨h1, h2⟩ := words_skip t (a + 1)
      have h32 : c = 32 := by simpa [sp] using hc
      rw [tw_hit _ _ _ hc, wordsE_sp _ _ _ h32, h1, Nat.add_comm 1, List.drop_succ_cons]
      refine ⟨?_, h2⟩
      congr 1; omega
    | false =>
      rw [tw_miss _ _ _ hc]
      refine ⟨rfl, fun d u h => ?_⟩
      simp only [List.drop_zero, List.cons.injEq] at h
      rw [← h.1]
      intro e
      rw [e] at hc
      cases hc
theorem words_sub : ∀ (n a : Nat) (s : List UInt8), s.length ≤ n → ∀ p ∈ wordsE a s, ∃ d, p.1 = a + d ∧ d + p.2.length ≤ s.length ∧ p.2 = (s.drop d).take p.2.length
  | _, a, [], _, p, hp => by rw [wordsE_nil] at hp; cases hp
  | 0, _, _ :: _, h, _, _ => by simp at h
  | n + 1, a, c :: t, h, p, hp => by
    simp at h
    by_cases hc : c = 32
    · rw [wordsE_sp _ _ _ hc] at hp
      obtain ⟨d, h1, h2, h3⟩ := words_sub n (a + 1) t h p hp
      exact ⟨d + 1, by omega, by simp; omega, by rw [List.drop_succ_cons]; exact h3⟩
    · rw [wordsE_w _ _ _ hc] at hp
      have hl := lenR_pos c t hc
      have hle := lenR_le (c :: t)
      rcases List.mem_cons.1 hp with rfl | hp
      · refine ⟨0, rfl, by simp at hle ⊢; omega, ?_⟩
        rw [List.drop_zero, List.length_take, Nat.min_eq_left hle]
      · obtain ⟨d, h1, h2, h3⟩ := words_sub n _ ((c :: t).drop (lenR (c :: t))) (by simp; omega) p hp
        refine ⟨lenR (c :: t) + d, by omega, by simp at h2 hle ⊢; omega, ?_⟩
        rw [List.drop_drop] at h3
        exact h3
attribute [local irreducible] tw lenR sp
def fromA (ws : List (Nat × List UInt8)) : List AV := ws.map fun p => .i p.1
def toA (ws : List (Nat × List UInt8)) : List AV := ws.map fun p => .i (p.1 + p.2.length : Nat)
set_option maxHeartbeats 4000000 in
theorem pc_r4words (s : List UInt8) (hs : s.length ≤ 1000000) : PC Tryz.prog 42 [.str s] (fun r => r = .tup [.list (fromA (wordsE 0 s)), .list (toA (wordsE 0 s))]) := by
  refine PC_body tOk Tryz.func42 rfl Tryz.results42 rfl (by simp [Tryz.ntmps42]) ?_
  rw [Tryz.ntmps42]
  simp only [argSlots]
  obtain ⟨W, hW⟩ : ∃ W, wordsE 0 s = W := ⟨_, rfl⟩
  rw [hW]
  have hsk := words_skip s 0
  rw [hW] at hsk
  have htl := tw_le sp s
  have k0 := pc_r4skip s 0 (by simp) hs
  rw [List.drop_zero, Nat.zero_add] at k0
  simp only [Nat.zero_add] at hsk
  obtain ⟨a0, ha0⟩ : ∃ a0, tw sp s = a0 := ⟨_, rfl⟩
  rw [ha0] at k0 htl hsk
  repeat (first
    | (refine AWP_seq (AWP_regS tOk rfl ?_); simp)
    | (refine AWP_regS tOk rfl ?_; simp)
    | (refine AWP_skip ?_; simp)
    | (refine AWP_exit ?_; simp)
    | (refine AWP_ret ?_; simp)
    | refine AWP_block ?_
    | refine AWP_seq ?_)
  refine AStep_PC rfl rfl (by simp) (k0) rfl ?_
  rintro _ rfl
  simp
  repeat (first
    | (refine AWP_seq (AWP_regS tOk rfl ?_); simp)
    | (refine AWP_regS tOk rfl ?_; simp)
    | (refine AWP_skip ?_; simp)
    | (refine AWP_exit ?_; simp)
    | (refine AWP_ret ?_; simp)
    | refine AWP_block ?_
    | refine AWP_seq ?_)
  refine AWP_nilSlot 4 3 1 rfl ?_
  simp
  refine AWP_nilSlot 5 3 1 rfl ?_
  simp
  refine AWP_loop (ALoop_keep (sl' := [(0, .str s), (4, .sl 0 1 0 0), (5, .sl 1 1 0 0), (6, .i a0)]) ?_ (by simp))
  refine ALoop_wf (F := fun (u : Nat × List (Nat × List UInt8) × Nat × Nat × List AObj) => ⟨[(0, .str s), (4, .sl u.2.2.1 1 0 u.2.1.length), (5, .sl u.2.2.2.1 1 0 u.2.1.length), (6, .i u.1)], u.2.2.2.2⟩)
    (fun u => u.1 ≤ s.length ∧ u.2.2.1 ≠ u.2.2.2.1 ∧ u.2.2.2.2[u.2.2.1]? = some (.arr 3 1 (fromA u.2.1)) ∧ u.2.2.2.2[u.2.2.2.1]? = some (.arr 3 1 (toA u.2.1)) ∧ u.2.1 ++ wordsE u.1 (s.drop u.1) = W ∧ (∀ c t, s.drop u.1 = c :: t → c ≠ 32) ∧ u.2.1.length ≤ u.1) (fun u => s.length - u.1) ?_ (a0, [], 0, 1, _) ⟨htl, by simp, rfl, rfl, by simp [hsk.1], hsk.2, by simp⟩
  rintro ⟨a, d, p, q, H⟩ ⟨ha, hpq, g1, g2, g3, g4, g5⟩ ih
  simp only at ha hpq g1 g2 g3 g4 g5 ih ⊢
  repeat (first
    | (refine AWP_seq (AWP_regS tOk rfl ?_); simp)
    | (refine AWP_regS tOk rfl ?_; simp)
    | (refine AWP_skip ?_; simp)
    | (refine AWP_exit ?_; simp)
    | (refine AWP_ret ?_; simp)
    | refine AWP_block ?_
    | refine AWP_seq ?_)
  refine AWP_cond2 rfl (fun hlt => ?_) (fun hge => ?_)
  · have hlt' : a < s.length := by simpa using hlt
    obtain ⟨c, t, hct⟩ : ∃ c t, s.drop a = c :: t := ⟨_, _, drop_get hlt'⟩
    have hc := g4 c t hct
    have hlp := lenR_pos c t hc
    have hll := lenR_le (c :: t)
    rw [hct, wordsE_w _ _ _ hc, ← hct] at g3
    rw [← hct] at hlp hll
    have he := pc_r4end s a ha hs
    obtain ⟨n, hn⟩ : ∃ n, lenR (s.drop a) = n := ⟨_, rfl⟩
    rw [hn] at g3 hlp hll he
    rw [List.length_drop] at hll
    have hk := pc_r4skip s (a + n) (by omega) hs
    have hsk2 := words_skip (s.drop (a + n)) (a + n)
    have htl2 := tw_le sp (s.drop (a + n))
    rw [List.drop_drop] at g3
    rw [hsk2.1, List.drop_drop] at g3
    rw [List.drop_drop] at hsk2
    rw [List.length_drop] at htl2
    obtain ⟨b, hb⟩ : ∃ b, tw sp (s.drop (a + n)) = b := ⟨_, rfl⟩
    rw [hb] at g3 hk hsk2 htl2
    have hwl : ((s.drop a).take n).length = n := by rw [List.length_take, List.length_drop]; omega
    obtain ⟨w, hw⟩ : ∃ w, (s.drop a).take n = w := ⟨_, rfl⟩
    rw [hw] at g3 hwl
    have hdl : d.length ≤ 1000000 := by omega
    have f1 : fromA (d ++ [(a, w)]) = fromA d ++ [.i a] := by simp [fromA]
    have f2 : toA (d ++ [(a, w)]) = toA d ++ [.i (a + n : Nat)] := by simp [toA, hwl]
    have l1 : (fromA d).length = d.length := by simp [fromA]
    have l2 : (toA d).length = d.length := by simp [toA]
    have e2 : (H.set p .dead)[q]? = some (.arr 3 1 (toA d)) := get_set hpq g2 _
    have hqp : ∀ y, (H.set q y)[p]? = some (.arr 3 1 (fromA d)) := fun y => get_set (Ne.symm hpq) g1 _
    repeat (first
      | (refine AWP_seq (AWP_regS tOk rfl ?_); simp)
      | (refine AWP_regS tOk rfl ?_; simp)
      | (refine AWP_skip ?_; simp)
      | (refine AWP_exit ?_; simp)
      | (refine AWP_ret ?_; simp)
      | refine AWP_block ?_
      | refine AWP_seq ?_)
    refine AStep_appendS tOk rfl rfl T39 rfl T3 rfl (by decide) (by decide) rfl rfl rfl ?_
    simp [get_app g1, set_app g1, l1]
    refine ⟨by simp [appOk, get_app g1, set_app g1, l1] <;> omega, ?_⟩
    refine AStep_PC rfl rfl (by simp) (he) rfl ?_
    rintro _ rfl
    simp [l1]
    refine AStep_appendS tOk rfl rfl T39 rfl T3 rfl (by decide) (by decide) rfl rfl rfl ?_
    simp [get_app e2, set_app e2, l2]
    refine ⟨by simp [appOk, get_app e2, set_app e2, l2] <;> omega, ?_⟩
    repeat (first
      | (refine AWP_seq (AWP_regS tOk rfl ?_); simp)
      | (refine AWP_regS tOk rfl ?_; simp)
      | (refine AWP_skip ?_; simp)
      | (refine AWP_exit ?_; simp)
      | (refine AWP_ret ?_; simp)
      | refine AWP_block ?_
      | refine AWP_seq ?_)
    refine AStep_PC rfl rfl (by simp) (he) rfl ?_
    rintro _ rfl
    simp
    refine AStep_PC rfl rfl (by simp) (hk) rfl ?_
    rintro _ rfl
    simp
    have key := ih (a + n + b, d ++ [(a, w)], H.length + 1, H.length + 3, (H.set p .dead).set q .dead ++ [.arr 3 1 [.i a], .arr 3 1 (fromA (d ++ [(a, w)])), .arr 3 1 [.i (a + n : Nat)], .arr 3 1 (toA (d ++ [(a, w)]))]) ⟨by simp only; omega, by simp, by simp only; rw [List.getElem?_append_right (by simp)]; simp, by simp only; rw [List.getElem?_append_right (by simp)]; simp, by simp only; rw [List.append_assoc]; exact g3, hsk2.2, by simp; omega⟩ (by simp only; omega)
    rw [f1, f2] at key
    refine ALoop_keep (sl' := [(0, .str s), (4, .sl (H.length + 1) 1 0 (d.length + 1)), (5, .sl (H.length + 3) 1 0 (d.length + 1)), (6, .i (a + n + b : Nat))]) (by simpa using key) (by simp)
  · have hge' : a = s.length := by simp at hge; omega
    subst hge'
    rw [List.drop_length, wordsE_nil, List.append_nil] at g3
    subst g3
    have l1 : (fromA d).length = d.length := by simp [fromA]
    have l2 : (toA d).length = d.length := by simp [toA]
    repeat (first
      | (refine AWP_seq (AWP_regS tOk rfl ?_); simp [g1, g2, l1, l2])
      | (refine AWP_regS tOk rfl ?_; simp [g1, g2, l1, l2])
      | (refine AWP_skip ?_; simp [g1, g2, l1, l2])
      | (refine AWP_exit ?_; simp [g1, g2, l1, l2])
      | (refine AWP_ret ?_; simp [g1, g2, l1, l2])
      | refine AWP_block ?_
      | refine AWP_seq ?_)
    try rw [List.take_of_length_le (by omega)]
    try rw [List.take_of_length_le (by omega)]
    exact ⟨rfl, rfl⟩
end Go.Abs
set_option maxRecDepth 100000
namespace Go.Abs
open Go Go.Proofs
set_option linter.unusedSimpArgs false
theorem ident_id {l : List Sch} {e : Ev} {w : List UInt8} (h : WInv l 1 e) : (identR e w).2 = (idR w).2.2 ∧ ((idR w).2.2 = 0 → (identR e w).1 = ⟨(idR w).1, (idR w).2.1, e.type, e.time, e.values⟩) := by
  obtain ⟨h1, h2⟩ := h.id (by omega)
  have h3 := h.tm (by omega)
  have hA := numeR_bd (Lib.cut w [46]).1
  have hB := numeR_bd (Lib.cut w [46]).2.1
  unfold identR idR
  split
  · exact ⟨rfl, fun h => absurd h (by decide)⟩
  have hn : numsR ⟨(numeR (Lib.cut w [46]).1).1, (numeR (Lib.cut w [46]).2.1).1, e.type, e.time, e.values⟩ = if 8 ≤ (numeR (Lib.cut w [46]).1).1 then 32 else if 1099511627776 < (numeR (Lib.cut w [46]).2.1).1 then 2 else 0 := by
    unfold numsR badS badN
    simp only [h3]
    by_cases c1 : 8 ≤ (numeR (Lib.cut w [46]).1).1
    · rw [if_pos (by simp; omega), if_pos c1]
    rw [if_neg (by simp; omega), if_neg c1]
    by_cases c2 : 1099511627776 < (numeR (Lib.cut w [46]).2.1).1
    · rw [if_pos (by simp; omega), if_pos c2]
    rw [if_neg (by simp; omega), if_neg c2]
  rw [hn]
  by_cases c1 : 8 ≤ (numeR (Lib.cut w [46]).1).1
  · rw [if_pos c1, if_pos c1]; exact ⟨rfl, fun h => absurd h (by decide)⟩
  rw [if_neg c1, if_neg c1]
  by_cases c2 : 1099511627776 < (numeR (Lib.cut w [46]).2.1).1
  · rw [if_pos c2, if_pos c2]; exact ⟨rfl, fun h => absurd h (by decide)⟩
  rw [if_neg c2, if_neg c2]
  exact ⟨rfl, fun _ => rfl⟩
theorem mom_mt {l : List Sch} {e : Ev} {w : List UInt8} (h : WInv l 2 e) : (momR e w).2 = (mtR w).2 ∧ ((mtR w).2 = 0 → (momR e w).1 = ⟨e.source, e.seq, e.type, (mtR w).1, e.values⟩) := by
  have h3 := nums_ok h.nm
  have hA := numeR_bd (cutPre w [64]).1
  unfold momR mtR
  split
  · exact ⟨rfl, fun h => absurd h (by decide)⟩
  have hn : numsR ⟨e.source, e.seq, e.type, (numeR (cutPre w [64]).1).1, e.values⟩ = if 1099511627776 < (numeR (cutPre w [64]).1).1 then 2 else 0 := by
    unfold numsR badS badN
    rw [if_neg (by simp; omega)]
    by_cases c2 : 1099511627776 < (numeR (cutPre w [64]).1).1
    · rw [if_pos (by simp; omega), if_pos c2]
    rw [if_neg (by simp; omega), if_neg c2]
  rw [hn]
  by_cases c2 : 1099511627776 < (numeR (cutPre w [64]).1).1
  · rw [if_pos c2, if_pos c2]; exact ⟨rfl, fun h => absurd h (by decide)⟩
  rw [if_neg c2, if_neg c2]
  exact ⟨rfl, fun _ => rfl⟩
theorem word_val (l : List Sch) (e : Ev) (i : Nat) (w : List UInt8) (hi : 3 ≤ i) : (¬ i - 3 < (fldsOf l e).length → wordR l e i w = (e, 4)) ∧ ∀ h : i - 3 < (fldsOf l e).length, (wordR l e i w).2 = (rvalR w (fldsOf l e)[i - 3].kind).2 ∧ ((rvalR w (fldsOf l e)[i - 3].kind).2 = 0 → (wordR l e i w).1 = { e with values := e.values ++ [(rvalR w (fldsOf l e)[i - 3].kind).1] }) := by
  unfold wordR
  rw [if_neg (by omega), if_neg (by omega), if_neg (by omega)]
  refine ⟨fun h => by rw [if_pos (by omega)], fun h => ?_⟩
  rw [if_neg (by omega)]
  have hg : (fldsOf l e).getD (i - 3) default = (fldsOf l e)[i - 3] := by rw [List.getD_eq_getElem?_getD, List.getElem?_eq_getElem h]; rfl
  rw [hg]
  unfold rvalR
  by_cases h1 : (parseR w).2 ≠ 0
  · rw [if_pos h1, if_pos h1]; exact ⟨rfl, fun h => absurd h h1⟩
  rw [if_neg h1, if_neg h1]
  by_cases h2 : (parseR w).1.kind ≠ (fldsOf l e)[i - 3].kind
  · rw [if_pos h2, if_pos h2]; exact ⟨rfl, fun h => absurd h (by decide)⟩
  rw [if_neg h2, if_neg h2]
  exact ⟨rfl, fun _ => rfl⟩
attribute [local irreducible] ckSchs wordR identR momR idR mtR rvalR whereR parseR numsR
set_option maxHeartbeats 8000000 in
theorem pc_r4Parse (l : List Sch) (s : List UInt8) : PC Tryz.prog 21 [.list (l.map encSch), .str s] (fun r => r = .tup [encE (evParseR l s).1, .i (evParseR l s).2.1, .i (evParseR l s).2.2]) := by
  refine PC_body tOk Tryz.func21 rfl Tryz.results21 rfl (by simp [Tryz.ntmps21]) ?_
  rw [Tryz.ntmps21]
  simp only [argSlots]
  obtain ⟨R, hR⟩ : ∃ R, evParseR l s = R := ⟨_, rfl⟩
  rw [hR]
  rw [evParseR] at hR
  repeat (first
    | (refine AWP_seq (AWP_regS tOk rfl ?_); simp)
    | (refine AWP_regS tOk rfl ?_; simp)
    | (refine AWP_skip ?_; simp)
    | (refine AWP_exit ?_; simp)
    | (refine AWP_ret ?_; simp)
    | refine AWP_block ?_
    | refine AWP_seq ?_)
  refine AStep_PC rfl rfl (by simp) (pc_r3CheckAll l) rfl ?_
  rintro _ rfl
  simp
  repeat (first
    | (refine AWP_seq (AWP_regS tOk rfl ?_); simp)
    | (refine AWP_regS tOk rfl ?_; simp)
    | (refine AWP_skip ?_; simp)
    | (refine AWP_exit ?_; simp)
    | (refine AWP_ret ?_; simp)
    | refine AWP_block ?_
    | refine AWP_seq ?_)
  refine AWP_cond2 rfl (fun h => ?_) (fun h => ?_)
  · repeat (first
      | (refine AWP_seq (AWP_regS tOk rfl ?_); simp)
      | (refine AWP_regS tOk rfl ?_; simp)
      | (refine AWP_skip ?_; simp)
      | (refine AWP_exit ?_; simp)
      | (refine AWP_ret ?_; simp)
      | refine AWP_block ?_
      | refine AWP_seq ?_)
    rw [if_pos (by simpa using h)] at hR
    rw [← hR]
    simp [zeroE]
  rw [if_neg (by simpa using h)] at hR
  have h0 : ckSchs l = 0 := by simpa using h
  have hll := ckSchs_len h0
  have hf8 : ∀ s ∈ l, s.fields.length ≤ 8 := fun s hs => ckSch_fields (ckSchs_all h0 s hs)
  clear h
  repeat (first
    | (refine AWP_seq (AWP_regS tOk rfl ?_); simp)
    | (refine AWP_regS tOk rfl ?_; simp)
    | (refine AWP_skip ?_; simp)
    | (refine AWP_exit ?_; simp)
    | (refine AWP_ret ?_; simp)
    | refine AWP_block ?_
    | refine AWP_seq ?_)
  refine AWP_cond2 rfl (fun h => ?_) (fun h => ?_)
  · repeat (first
      | (refine AWP_seq (AWP_regS tOk rfl ?_); simp)
      | (refine AWP_regS tOk rfl ?_; simp)
      | (refine AWP_skip ?_; simp)
      | (refine AWP_exit ?_; simp)
      | (refine AWP_ret ?_; simp)
      | refine AWP_block ?_
      | refine AWP_seq ?_)
    rw [if_pos (by simp at h; omega)] at hR
    rw [← hR]
    simp [zeroE]
  have hsl : s.length ≤ 65536 := by simp at h; omega
  rw [if_neg (by omega)] at hR
  clear h
  obtain ⟨G, hG⟩ : ∃ G, goW l (wordsE 0 s) 0 zeroE = G := ⟨_, rfl⟩
  rw [hG] at hR
  have hsub := words_sub _ 0 s (Nat.le_refl _)
  repeat (first
    | (refine AWP_seq (AWP_regS tOk rfl ?_); simp)
    | (refine AWP_regS tOk rfl ?_; simp)
    | (refine AWP_skip ?_; simp)
    | (refine AWP_exit ?_; simp)
    | (refine AWP_ret ?_; simp)
    | refine AWP_block ?_
    | refine AWP_seq ?_)
  refine AStep_PC rfl rfl (by simp) (pc_r4words s (by omega)) rfl ?_
  rintro _ rfl
  simp
  obtain ⟨ws, hws⟩ : ∃ ws, wordsE 0 s = ws := ⟨_, rfl⟩
  rw [hws] at hG hsub ⊢
  clear hws
  have lfa : (fromA ws).length = ws.length := by simp [fromA]
  have lta : (toA ws).length = ws.length := by simp [toA]
  repeat (first
    | (refine AWP_seq (AWP_regS tOk rfl ?_); simp)
    | (refine AWP_regS tOk rfl ?_; simp)
    | (refine AWP_skip ?_; simp)
    | (refine AWP_exit ?_; simp)
    | (refine AWP_ret ?_; simp)
    | refine AWP_block ?_
    | refine AWP_seq ?_)
  refine AWP_loop (ALoop_keep (sl' := [(0, .list (l.map encSch)), (1, .str s), (4, .vptr 0 0), (8, .list (fromA ws)), (9, .list (toA ws)), (10, .vptr 1 0), (11, .i 0)]) ?_ (by simp))
  refine ALoop_wf (F := fun (u : Nat × Ev × Option Nat × List AObj) => ⟨[(0, .list (l.map encSch)), (1, .str s), (4, .vptr 0 0), (8, .list (fromA ws)), (9, .list (toA ws)), (10, .vptr 1 0), (11, .i u.1)], u.2.2.2⟩)
    (fun u => u.1 ≤ ws.length ∧ u.2.2.2[0]? = some (evX zeroE none) ∧ evAt u.2.2.2 1 u.2.1 u.2.2.1 ∧ (∀ p, u.2.2.1 = some p → 1 < p) ∧ (u.1 ≤ 3 → u.2.2.1 = none) ∧ WInv l u.1 u.2.1 ∧ goW l (ws.drop u.1) u.1 u.2.1 = G) (fun u => ws.length - u.1) ?_ (0, zeroE, none, _) ⟨by simp, rfl, ⟨rfl, rfl⟩, fun _ h => (by cases h), fun _ => rfl, winv_zero l, by simpa using hG⟩
  rintro ⟨i, e, o, H2⟩ ⟨hi, g0, g1, g2, g3, g4, g5⟩ ih
  simp only at hi g0 g1 g2 g3 g4 g5 ih ⊢
  have hfl : ∀ k : Nat, e.type = k → ∀ hk : k < l.length, fldsOf l e = l[k].fields := fun k hk hkl => by unfold fldsOf; rw [List.getD_eq_getElem?_getD, hk]; simp [hkl]
  have hi11 : i ≤ 11 := by
    by_cases h3 : 3 < i
    · obtain ⟨t1, t2⟩ := g4.ty (by omega)
      have hkl : e.type.toNat < l.length := by omega
      have := g4.fl h3
      rw [hfl _ (by omega) hkl] at this
      have := hf8 _ (List.getElem_mem hkl)
      omega
    · omega
  repeat (first
    | (refine AWP_seq (AWP_regS tOk rfl ?_); simp)
    | (refine AWP_regS tOk rfl ?_; simp)
    | (refine AWP_skip ?_; simp)
    | (refine AWP_exit ?_; simp)
    | (refine AWP_ret ?_; simp)
    | refine AWP_block ?_
    | refine AWP_seq ?_)
  refine AWP_cond2 rfl (fun hlt => ?_) (fun hge => ?_)
  · have hlt' : i < ws.length := by simpa [fromA] using hlt
    have hw1 : IntKind.i64.wrap ((i : Int) + 1) = i + 1 := wrap_i64 _ (by omega) (by omega)
    rw [drop_get hlt'] at g5
    obtain ⟨p, hp⟩ : ∃ p, ws[i] = p := ⟨_, rfl⟩
    obtain ⟨a, w⟩ := p
    have hfa : (fromA ws)[i]'(by rw [lfa]; exact hlt') = .i a := by simp [fromA, hp]
    have hta : (toA ws)[i]'(by rw [lta]; exact hlt') = .i (a + w.length : Nat) := by simp [toA, hp]
    obtain ⟨d, hd1, hd2, hd3⟩ := hsub (a, w) (by rw [← hp]; exact List.getElem_mem hlt')
    simp only [Nat.zero_add] at hd1 hd2 hd3
    subst hd1
    rw [hp, goW] at g5
    have hwl : w.length ≤ 1000000 := by omega
    have hle2 : (a : Int) + w.length ≤ s.length := by omega
    have hle3 : (a : Int) ≤ a + w.length := by omega
    have hle4 : ((a : Int) + w.length).toNat = a + w.length := by omega
    have hle6 : (0 : Int) ≤ (a : Int) + w.length := by omega
    have hww : List.drop a (List.take (a + w.length) s) = w := by rw [List.drop_take, Nat.add_sub_cancel_left]; exact hd3.symm
    repeat (first
      | (refine AWP_seq (AWP_regS tOk rfl ?_); simp)
      | (refine AWP_regS tOk rfl ?_; simp)
      | (refine AWP_skip ?_; simp)
      | (refine AWP_exit ?_; simp)
      | (refine AWP_ret ?_; simp)
      | refine AWP_block ?_
      | refine AWP_seq ?_)
    refine AWP_drawT tOk mixed [] (.val 0 (.val 1 (.val 2 (.val 3 (.val 4 (.val 5 (.val 6 (.val 7 (.val 8 (.val 9 (.val 10 (.val 11 (.done))))))))))))) rfl (by kernel_rfl) ?_
    simp [lfa, lta, hlt', hfa, hta, hle2, hle3, hle4, hle6, hd2, hww]
    rcases i with _ | _ | _ | k
    · obtain rfl := g3 (by omega)
      have g1' : H2[1]? = some (.vars [.i e.source, .i e.seq, .i e.type, .i e.time, .nils]) := g1.1
      have gs : ∀ y, (H2.set 1 y)[1]? = some y := fun y => get_self g1' y
      have g0s : ∀ y, (H2.set 1 y)[0]? = some (evX zeroE none) := fun y => get_set (by omega) g0 y
      have g0z : ∀ y, (H2.set 1 y)[0]? = some (.vars [.i 0, .i 0, .i 0, .i 0, .nils]) := g0s
      have hv0 : e.values = [] := g1.2
      have gz : ∀ y z, ((H2.set 1 y).set 0 z)[0]? = some z := fun y z => get_self (g0z y) z
      have hP := pc_r3Where l w (by omega)
      cases hwr : whereR l w with
      | none =>
        have hf : findR l w = (0, 6) := by rw [findR, if_neg (by simpa using h0), hwr]
        have hwd : wordR l e 0 w = (e, 8) := by rw [wordR, if_pos rfl, hf, if_pos (by decide)]
        rw [hwd] at g5
        simp only at g5
        rw [if_pos (by decide)] at g5
        rw [← g5] at hR
        simp only at hR
        rw [if_pos (by decide)] at hR
        rw [hwr] at hP
        repeat (first
          | (refine AWP_seq (AWP_regS tOk rfl ?_); simp)
          | (refine AWP_regS tOk rfl ?_; simp)
          | (refine AWP_skip ?_; simp)
          | (refine AWP_exit ?_; simp)
          | (refine AWP_ret ?_; simp)
          | refine AWP_block ?_
          | refine AWP_seq ?_)
        refine AWP_cond rfl ?_
        repeat (first
          | (refine AWP_seq (AWP_regS tOk rfl ?_); simp)
          | (refine AWP_regS tOk rfl ?_; simp)
          | (refine AWP_skip ?_; simp)
          | (refine AWP_exit ?_; simp)
          | (refine AWP_ret ?_; simp)
          | refine AWP_block ?_
          | refine AWP_seq ?_)
        refine AStep_PC rfl rfl (by simp) (hP) rfl ?_
        rintro _ rfl
        simp [g1', gs]
        repeat (first
          | (refine AWP_seq (AWP_regS tOk rfl ?_); simp [g1', gs])
          | (refine AWP_regS tOk rfl ?_; simp [g1', gs])
          | (refine AWP_skip ?_; simp [g1', gs])
          | (refine AWP_exit ?_; simp [g1', gs])
          | (refine AWP_ret ?_; simp [g1', gs])
          | refine AWP_block ?_
          | refine AWP_seq ?_)
        refine AWP_cond rfl ?_
        repeat (first
          | (refine AWP_seq (AWP_regS tOk rfl ?_); simp)
          | (refine AWP_regS tOk rfl ?_; simp)
          | (refine AWP_skip ?_; simp)
          | (refine AWP_exit ?_; simp)
          | (refine AWP_ret ?_; simp)
          | refine AWP_block ?_
          | refine AWP_seq ?_)
        refine AWP_drawT tOk mixed [5] (.val 0 (.val 1 (.val 2 (.val 3 (.two 4 (.one 5 (.val 6 (.val 7 (.done)))) 5 (.val 4 (.val 6 (.val 7 (.done))))))))) rfl (by kernel_rfl) ?_
        simp [lfa, hlt', hfa, g0z]
        repeat (first
          | (refine AWP_seq (AWP_regS tOk rfl ?_); simp [gz])
          | (refine AWP_regS tOk rfl ?_; simp [gz])
          | (refine AWP_skip ?_; simp [gz])
          | (refine AWP_exit ?_; simp [gz])
          | (refine AWP_ret ?_; simp [gz])
          | refine AWP_block ?_
          | refine AWP_seq ?_)
        rw [← hR]
        simp [zeroE]
      | some k =>
        have hf : findR l w = ((k : Int), 0) := by rw [findR, if_neg (by simpa using h0), hwr]
        have hwd : wordR l e 0 w = ({ e with type := k }, 0) := by rw [wordR, if_pos rfl, hf, if_neg (fun h => h rfl)]
        rw [hwd] at g5
        simp only at g5
        rw [if_neg (by decide)] at g5
        have hstep := winv_step (s := w) g4 (by rw [hwd])
        rw [hwd] at hstep
        rw [hwr] at hP
        repeat (first
          | (refine AWP_seq (AWP_regS tOk rfl ?_); simp)
          | (refine AWP_regS tOk rfl ?_; simp)
          | (refine AWP_skip ?_; simp)
          | (refine AWP_exit ?_; simp)
          | (refine AWP_ret ?_; simp)
          | refine AWP_block ?_
          | refine AWP_seq ?_)
        refine AWP_cond rfl ?_
        repeat (first
          | (refine AWP_seq (AWP_regS tOk rfl ?_); simp)
          | (refine AWP_regS tOk rfl ?_; simp)
          | (refine AWP_skip ?_; simp)
          | (refine AWP_exit ?_; simp)
          | (refine AWP_ret ?_; simp)
          | refine AWP_block ?_
          | refine AWP_seq ?_)
        refine AStep_PC rfl rfl (by simp) (hP) rfl ?_
        rintro _ rfl
        simp [g1', gs]
        repeat (first
          | (refine AWP_seq (AWP_regS tOk rfl ?_); simp [g1', gs])
          | (refine AWP_regS tOk rfl ?_; simp [g1', gs])
          | (refine AWP_skip ?_; simp [g1', gs])
          | (refine AWP_exit ?_; simp [g1', gs])
          | (refine AWP_ret ?_; simp [g1', gs])
          | refine AWP_block ?_
          | refine AWP_seq ?_)
        refine AWP_cond rfl ?_
        repeat (first
          | (refine AWP_seq (AWP_regS tOk rfl ?_); simp)
          | (refine AWP_regS tOk rfl ?_; simp)
          | (refine AWP_skip ?_; simp)
          | (refine AWP_exit ?_; simp)
          | (refine AWP_ret ?_; simp)
          | refine AWP_block ?_
          | refine AWP_seq ?_)
        refine AWP_cond rfl ?_
        repeat (first
          | (refine AWP_seq (AWP_regS tOk rfl ?_); simp [hw1])
          | (refine AWP_regS tOk rfl ?_; simp [hw1])
          | (refine AWP_skip ?_; simp [hw1])
          | (refine AWP_exit ?_; simp [hw1])
          | (refine AWP_ret ?_; simp [hw1])
          | refine AWP_block ?_
          | refine AWP_seq ?_)
        refine ALoop_keep (sl' := [(0, .list (l.map encSch)), (1, .str s), (4, .vptr 0 0), (8, .list (fromA ws)), (9, .list (toA ws)), (10, .vptr 1 0), (11, .i (0 + 1 : Nat))]) (ih (0 + 1, { e with type := k }, none, _) ⟨by simp only; omega, g0s _, ⟨gs _, hv0⟩, fun _ h => (by cases h), fun _ => rfl, hstep, g5⟩ (by simp only; omega)) (by simp; rfl)
    · obtain rfl := g3 (by omega)
      have g1' : H2[1]? = some (.vars [.i e.source, .i e.seq, .i e.type, .i e.time, .nils]) := g1.1
      have gs : ∀ y, (H2.set 1 y)[1]? = some y := fun y => get_self g1' y
      have g0s : ∀ y, (H2.set 1 y)[0]? = some (evX zeroE none) := fun y => get_set (by omega) g0 y
      have g0z : ∀ y, (H2.set 1 y)[0]? = some (.vars [.i 0, .i 0, .i 0, .i 0, .nils]) := g0s
      have hv0 : e.values = [] := g1.2
      have gz : ∀ y z, ((H2.set 1 y).set 0 z)[0]? = some z := fun y z => get_self (g0z y) z
      have hst := fun h => winv_step (l := l) (i := 1) (e := e) (s := w) g4 h
      have hltI : (1 : Int) < ws.length := by omega
      obtain ⟨hi1, hi2⟩ := ident_id (w := w) g4
      have hwd : wordR l e 1 w = identR e w := by rw [wordR, if_neg (by decide), if_pos rfl]
      have hP := pc_r4identity w hwl
      rw [hwd] at g5 hst
      generalize idR w = D at *
      generalize identR e w = E at *
      obtain ⟨E, y⟩ := E
      obtain ⟨m, n, y⟩ := D
      simp only at hi1 hi2 g5 hst
      subst hi1
      repeat (first
        | (refine AWP_seq (AWP_regS tOk rfl ?_); simp)
        | (refine AWP_regS tOk rfl ?_; simp)
        | (refine AWP_skip ?_; simp)
        | (refine AWP_exit ?_; simp)
        | (refine AWP_ret ?_; simp)
        | refine AWP_block ?_
        | refine AWP_seq ?_)
      refine AWP_cond rfl ?_
      repeat (first
        | (refine AWP_seq (AWP_regS tOk rfl ?_); simp)
        | (refine AWP_regS tOk rfl ?_; simp)
        | (refine AWP_skip ?_; simp)
        | (refine AWP_exit ?_; simp)
        | (refine AWP_ret ?_; simp)
        | refine AWP_block ?_
        | refine AWP_seq ?_)
      refine AWP_cond rfl ?_
      repeat (first
        | (refine AWP_seq (AWP_regS tOk rfl ?_); simp)
        | (refine AWP_regS tOk rfl ?_; simp)
        | (refine AWP_skip ?_; simp)
        | (refine AWP_exit ?_; simp)
        | (refine AWP_ret ?_; simp)
        | refine AWP_block ?_
        | refine AWP_seq ?_)
      refine AStep_PC rfl rfl (by simp) (hP) rfl ?_
      rintro _ rfl
      simp [g1', gs]
      repeat (first
        | (refine AWP_seq (AWP_regS tOk rfl ?_); simp [g1', gs])
        | (refine AWP_regS tOk rfl ?_; simp [g1', gs])
        | (refine AWP_skip ?_; simp [g1', gs])
        | (refine AWP_exit ?_; simp [g1', gs])
        | (refine AWP_ret ?_; simp [g1', gs])
        | refine AWP_block ?_
        | refine AWP_seq ?_)
      by_cases hx : y = 0
      · subst hx
        rw [if_neg (fun h => h rfl)] at g5
        have hi2 := hi2 rfl
        subst hi2
        refine AWP_cond rfl ?_
        repeat (first
          | (refine AWP_seq (AWP_regS tOk rfl ?_); simp [hw1])
          | (refine AWP_regS tOk rfl ?_; simp [hw1])
          | (refine AWP_skip ?_; simp [hw1])
          | (refine AWP_exit ?_; simp [hw1])
          | (refine AWP_ret ?_; simp [hw1])
          | refine AWP_block ?_
          | refine AWP_seq ?_)
        refine ALoop_keep (sl' := [(0, .list (l.map encSch)), (1, .str s), (4, .vptr 0 0), (8, .list (fromA ws)), (9, .list (toA ws)), (10, .vptr 1 0), (11, .i (1 + 1 : Nat))]) (ih (1 + 1, ⟨m, n, e.type, e.time, e.values⟩, none, _) ⟨by simp only; omega, g0s _, ⟨gs _, hv0⟩, fun _ h => (by cases h), fun _ => rfl, hst rfl, g5⟩ (by simp only; omega)) (by simp; rfl)
      · rw [if_pos hx] at g5
        rw [← g5, if_pos hx] at hR
        simp only at hR
        refine AWP_cond2 rfl (fun _ => ?_) (fun h => absurd (by simpa using h) hx)
        repeat (first
          | (refine AWP_seq (AWP_regS tOk rfl ?_); simp)
          | (refine AWP_regS tOk rfl ?_; simp)
          | (refine AWP_skip ?_; simp)
          | (refine AWP_exit ?_; simp)
          | (refine AWP_ret ?_; simp)
          | refine AWP_block ?_
          | refine AWP_seq ?_)
        refine AWP_drawT tOk mixed [6] (.val 0 (.val 1 (.val 2 (.val 3 (.val 5 (.two 4 (.one 6 (.val 7 (.val 8 (.done)))) 6 (.val 4 (.val 7 (.val 8 (.done)))))))))) rfl (by kernel_rfl) ?_
        simp [lfa, hltI, hlt', hfa, g0z]
        repeat (first
          | (refine AWP_seq (AWP_regS tOk rfl ?_); simp [gz])
          | (refine AWP_regS tOk rfl ?_; simp [gz])
          | (refine AWP_skip ?_; simp [gz])
          | (refine AWP_exit ?_; simp [gz])
          | (refine AWP_ret ?_; simp [gz])
          | refine AWP_block ?_
          | refine AWP_seq ?_)
        rw [← hR]
        simp [zeroE]
    · obtain rfl := g3 (by omega)
      have g1' : H2[1]? = some (.vars [.i e.source, .i e.seq, .i e.type, .i e.time, .nils]) := g1.1
      have gs : ∀ y, (H2.set 1 y)[1]? = some y := fun y => get_self g1' y
      have g0s : ∀ y, (H2.set 1 y)[0]? = some (evX zeroE none) := fun y => get_set (by omega) g0 y
      have g0z : ∀ y, (H2.set 1 y)[0]? = some (.vars [.i 0, .i 0, .i 0, .i 0, .nils]) := g0s
      have hv0 : e.values = [] := g1.2
      have gz : ∀ y z, ((H2.set 1 y).set 0 z)[0]? = some z := fun y z => get_self (g0z y) z
      have hst := fun h => winv_step (l := l) (i := 2) (e := e) (s := w) g4 h
      have hltI : (2 : Int) < ws.length := by omega
      obtain ⟨hi1, hi2⟩ := mom_mt (w := w) g4
      have hwd : wordR l e 2 w = momR e w := by rw [wordR, if_neg (by decide), if_neg (by decide), if_pos rfl]
      have hP := pc_r4moment w hwl
      rw [hwd] at g5 hst
      generalize mtR w = D at *
      generalize momR e w = E at *
      obtain ⟨E, y⟩ := E
      obtain ⟨m, y⟩ := D
      simp only at hi1 hi2 g5 hst
      subst hi1
      repeat (first
        | (refine AWP_seq (AWP_regS tOk rfl ?_); simp)
        | (refine AWP_regS tOk rfl ?_; simp)
        | (refine AWP_skip ?_; simp)
        | (refine AWP_exit ?_; simp)
        | (refine AWP_ret ?_; simp)
        | refine AWP_block ?_
        | refine AWP_seq ?_)
      refine AWP_cond rfl ?_
      repeat (first
        | (refine AWP_seq (AWP_regS tOk rfl ?_); simp)
        | (refine AWP_regS tOk rfl ?_; simp)
        | (refine AWP_skip ?_; simp)
        | (refine AWP_exit ?_; simp)
        | (refine AWP_ret ?_; simp)
        | refine AWP_block ?_
        | refine AWP_seq ?_)
      refine AWP_cond rfl ?_
      repeat (first
        | (refine AWP_seq (AWP_regS tOk rfl ?_); simp)
        | (refine AWP_regS tOk rfl ?_; simp)
        | (refine AWP_skip ?_; simp)
        | (refine AWP_exit ?_; simp)
        | (refine AWP_ret ?_; simp)
        | refine AWP_block ?_
        | refine AWP_seq ?_)
      refine AWP_cond rfl ?_
      repeat (first
        | (refine AWP_seq (AWP_regS tOk rfl ?_); simp)
        | (refine AWP_regS tOk rfl ?_; simp)
        | (refine AWP_skip ?_; simp)
        | (refine AWP_exit ?_; simp)
        | (refine AWP_ret ?_; simp)
        | refine AWP_block ?_
        | refine AWP_seq ?_)
      refine AStep_PC rfl rfl (by simp) (hP) rfl ?_
      rintro _ rfl
      simp [g1', gs]
      repeat (first
        | (refine AWP_seq (AWP_regS tOk rfl ?_); simp [g1', gs])
        | (refine AWP_regS tOk rfl ?_; simp [g1', gs])
        | (refine AWP_skip ?_; simp [g1', gs])
        | (refine AWP_exit ?_; simp [g1', gs])
        | (refine AWP_ret ?_; simp [g1', gs])
        | refine AWP_block ?_
        | refine AWP_seq ?_)
      by_cases hx : y = 0
      · subst hx
        rw [if_neg (fun h => h rfl)] at g5
        have hi2 := hi2 rfl
        subst hi2
        refine AWP_cond rfl ?_
        repeat (first
          | (refine AWP_seq (AWP_regS tOk rfl ?_); simp [hw1])
          | (refine AWP_regS tOk rfl ?_; simp [hw1])
          | (refine AWP_skip ?_; simp [hw1])
          | (refine AWP_exit ?_; simp [hw1])
          | (refine AWP_ret ?_; simp [hw1])
          | refine AWP_block ?_
          | refine AWP_seq ?_)
        refine ALoop_keep (sl' := [(0, .list (l.map encSch)), (1, .str s), (4, .vptr 0 0), (8, .list (fromA ws)), (9, .list (toA ws)), (10, .vptr 1 0), (11, .i (2 + 1 : Nat))]) (ih (2 + 1, ⟨e.source, e.seq, e.type, m, e.values⟩, none, _) ⟨by simp only; omega, g0s _, ⟨gs _, hv0⟩, fun _ h => (by cases h), fun _ => rfl, hst rfl, g5⟩ (by simp only; omega)) (by simp; rfl)
      · rw [if_pos hx] at g5
        rw [← g5, if_pos hx] at hR
        simp only at hR
        refine AWP_cond2 rfl (fun _ => ?_) (fun h => absurd (by simpa using h) hx)
        repeat (first
          | (refine AWP_seq (AWP_regS tOk rfl ?_); simp)
          | (refine AWP_regS tOk rfl ?_; simp)
          | (refine AWP_skip ?_; simp)
          | (refine AWP_exit ?_; simp)
          | (refine AWP_ret ?_; simp)
          | refine AWP_block ?_
          | refine AWP_seq ?_)
        refine AWP_drawT tOk mixed [6] (.val 0 (.val 1 (.val 2 (.val 3 (.val 5 (.two 4 (.one 6 (.val 7 (.val 8 (.done)))) 6 (.val 4 (.val 7 (.val 8 (.done)))))))))) rfl (by kernel_rfl) ?_
        simp [lfa, hltI, hlt', hfa, g0z]
        repeat (first
          | (refine AWP_seq (AWP_regS tOk rfl ?_); simp [gz])
          | (refine AWP_regS tOk rfl ?_; simp [gz])
          | (refine AWP_skip ?_; simp [gz])
          | (refine AWP_exit ?_; simp [gz])
          | (refine AWP_ret ?_; simp [gz])
          | refine AWP_block ?_
          | refine AWP_seq ?_)
        rw [← hR]
        simp [zeroE]
    · generalize hik : k + 1 + 1 + 1 = i at *
      have hk3 : i - 3 = k := by omega
      have hw3 : IntKind.i64.wrap ((i : Int) - 3) = k := by rw [wrap_i64 _ (by omega) (by omega)]; omega
      obtain ⟨t1, t2⟩ := g4.ty (by omega)
      obtain ⟨tk, htk⟩ : ∃ tk : Nat, e.type = tk := ⟨e.type.toNat, by omega⟩
      have hkl : tk < l.length := by omega
      have hfs := hfl tk htk hkl
      have hfl8 : l[tk].fields.length ≤ 8 := hf8 _ (List.getElem_mem hkl)
      have hst := fun h => winv_step (l := l) (i := i) (e := e) (s := w) g4 h
      have hwd := word_val l e i w (by omega)
      rw [hfs, hk3] at hwd
      generalize hfs2 : l[tk].fields = fs at *
      have g1' : H2[1]? = some (.vars [.i e.source, .i e.seq, .i tk, .i e.time, vX e.values.length o]) := by rw [← htk]; exact g1.1
      have e0 : ((i : Int) == 0) = false := beq_eq_false_iff_ne.2 (by omega)
      have e1 : ((i : Int) == 1) = false := beq_eq_false_iff_ne.2 (by omega)
      have e2 : ((i : Int) == 2) = false := beq_eq_false_iff_ne.2 (by omega)
      have hl1 : 1 < H2.length := (List.getElem?_eq_some_iff.1 g1').1
      repeat (first
        | (refine AWP_seq (AWP_regS tOk rfl ?_); simp [e0, e1, e2])
        | (refine AWP_regS tOk rfl ?_; simp [e0, e1, e2])
        | (refine AWP_skip ?_; simp [e0, e1, e2])
        | (refine AWP_exit ?_; simp [e0, e1, e2])
        | (refine AWP_ret ?_; simp [e0, e1, e2])
        | refine AWP_block ?_
        | refine AWP_seq ?_)
      refine AWP_cond rfl ?_
      repeat (first
        | (refine AWP_seq (AWP_regS tOk rfl ?_); simp [e0, e1, e2])
        | (refine AWP_regS tOk rfl ?_; simp [e0, e1, e2])
        | (refine AWP_skip ?_; simp [e0, e1, e2])
        | (refine AWP_exit ?_; simp [e0, e1, e2])
        | (refine AWP_ret ?_; simp [e0, e1, e2])
        | refine AWP_block ?_
        | refine AWP_seq ?_)
      refine AWP_cond rfl ?_
      repeat (first
        | (refine AWP_seq (AWP_regS tOk rfl ?_); simp [e0, e1, e2])
        | (refine AWP_regS tOk rfl ?_; simp [e0, e1, e2])
        | (refine AWP_skip ?_; simp [e0, e1, e2])
        | (refine AWP_exit ?_; simp [e0, e1, e2])
        | (refine AWP_ret ?_; simp [e0, e1, e2])
        | refine AWP_block ?_
        | refine AWP_seq ?_)
      refine AWP_cond rfl ?_
      repeat (first
        | (refine AWP_seq (AWP_regS tOk rfl ?_); simp [hw3, g1', hkl, hfs2])
        | (refine AWP_regS tOk rfl ?_; simp [hw3, g1', hkl, hfs2])
        | (refine AWP_skip ?_; simp [hw3, g1', hkl, hfs2])
        | (refine AWP_exit ?_; simp [hw3, g1', hkl, hfs2])
        | (refine AWP_ret ?_; simp [hw3, g1', hkl, hfs2])
        | refine AWP_block ?_
        | refine AWP_seq ?_)
      refine AWP_cond2 rfl (fun h => ?_) (fun h => ?_)
      · have hkf : k < fs.length := by simpa [hw3] using h
        obtain ⟨hr1, hr2⟩ := hwd.2 hkf
        have hP := pc_r4value w fs[k].kind
        generalize rvalR w fs[k].kind = D at *
        obtain ⟨v, x⟩ := D
        generalize wordR l e i w = E at *
        obtain ⟨E, y⟩ := E
        simp only at hr1 hr2 g5 hst
        subst hr1
        have en1 : ∀ y, (H2 ++ [y])[1]? = some (.vars [.i e.source, .i e.seq, .i tk, .i e.time, vX e.values.length o]) := fun y => get_app g1' _
        have en2 : ∀ y z, (H2 ++ [y]).set H2.length z = H2 ++ [z] := fun y z => by simp
        have en3 : ∀ y, (H2 ++ [y])[H2.length]? = some y := fun y => by simp
        repeat (first
          | (refine AWP_seq (AWP_regS tOk rfl ?_); simp [hw3, en1, en2, en3, hkl, hfs2, hkf])
          | (refine AWP_regS tOk rfl ?_; simp [hw3, en1, en2, en3, hkl, hfs2, hkf])
          | (refine AWP_skip ?_; simp [hw3, en1, en2, en3, hkl, hfs2, hkf])
          | (refine AWP_exit ?_; simp [hw3, en1, en2, en3, hkl, hfs2, hkf])
          | (refine AWP_ret ?_; simp [hw3, en1, en2, en3, hkl, hfs2, hkf])
          | refine AWP_block ?_
          | refine AWP_seq ?_)
        refine AStep_PC rfl rfl (by simp) (hP) rfl ?_
        rintro _ rfl
        simp [hw3, en1, en2, en3, hkl, hfs2, hkf]
        repeat (first
          | (refine AWP_seq (AWP_regS tOk rfl ?_); simp [hw3, en1, en2, en3, hkl, hfs2, hkf])
          | (refine AWP_regS tOk rfl ?_; simp [hw3, en1, en2, en3, hkl, hfs2, hkf])
          | (refine AWP_skip ?_; simp [hw3, en1, en2, en3, hkl, hfs2, hkf])
          | (refine AWP_exit ?_; simp [hw3, en1, en2, en3, hkl, hfs2, hkf])
          | (refine AWP_ret ?_; simp [hw3, en1, en2, en3, hkl, hfs2, hkf])
          | refine AWP_block ?_
          | refine AWP_seq ?_)
        have hv8 : e.values.length ≤ 8 := by have := g4.vl; omega
        have fin : ∀ (K : List AObj) (q : Nat), K[0]? = some (evX zeroE none) → K[1]? = some (.vars [.i e.source, .i e.seq, .i tk, .i e.time, .sl q 3 0 (e.values.length + 1)]) → K[q]? = some (.arr 30 3 ((e.values ++ [v]).map encV)) → 1 < q →
            (y = 0 → evAt K 1 E (some q)) := fun K q k0 k1 k2 k3 hy => by
          have hE := hr2 hy
          try simp only at hE
          subst hE
          refine ⟨?_, k2, by omega⟩
          rw [k1, evX]
          simp [vX, htk]
        cases o with
        | none =>
          have hv0 : e.values = [] := g1.2
          have a1 : H2[1]? = some (.vars [.i e.source, .i e.seq, .i tk, .i e.time, .nils]) := g1'
          try simp only [vX]
          refine AStep_appendS tOk rfl rfl T23 rfl T30 rfl (by decide) (by decide) rfl rfl rfl ?_
          simp [get_app a1, set_app a1, get_app' a1]
          refine ⟨by simp [appOk, get_app a1, set_app a1, get_app' a1] <;> omega, ?_⟩
          repeat (first
            | (refine AWP_seq (AWP_regS tOk rfl ?_); simp [get_app a1, set_app a1, get_app' a1])
            | (refine AWP_regS tOk rfl ?_; simp [get_app a1, set_app a1, get_app' a1])
            | (refine AWP_skip ?_; simp [get_app a1, set_app a1, get_app' a1])
            | (refine AWP_exit ?_; simp [get_app a1, set_app a1, get_app' a1])
            | (refine AWP_ret ?_; simp [get_app a1, set_app a1, get_app' a1])
            | refine AWP_block ?_
            | refine AWP_seq ?_)
          obtain ⟨K, hK⟩ : ∃ K, K = H2.set 1 (AObj.vars [AV.i e.source, AV.i e.seq, AV.i tk, AV.i e.time, AV.sl (H2.length + 2) 3 0 1]) ++ [AObj.vars [AV.i v.kind, AV.i v.num, AV.str v.text], AObj.arr 30 3 [AV.agg [AV.i v.kind, AV.i v.num, AV.str v.text]], AObj.arr 30 3 [AV.agg [AV.i v.kind, AV.i v.num, AV.str v.text]]] := ⟨_, rfl⟩
          have k0 : K[0]? = some (evX zeroE none) := by rw [hK]; exact get_app (get_set (by omega) g0 _) _
          have k1 : K[1]? = some (.vars [.i e.source, .i e.seq, .i tk, .i e.time, .sl (H2.length + 2) 3 0 (e.values.length + 1)]) := by rw [hK, hv0]; exact get_app (get_self a1 _) _
          have kp : K[H2.length + 2]? = some (.arr 30 3 ((e.values ++ [v]).map encV)) := by rw [hK, hv0, List.getElem?_append_right (by simp)]; simp
          rw [← hK]
          clear hK
          have kl : 1 < K.length := (List.getElem?_eq_some_iff.1 k1).1
          by_cases hy : y = 0
          · have hE := fin K (H2.length + 2) k0 k1 kp (by omega) hy
            subst hy
            rw [if_neg (fun h => h rfl)] at g5
            refine AWP_cond rfl ?_
            repeat (first
              | (refine AWP_seq (AWP_regS tOk rfl ?_); simp [hw1])
              | (refine AWP_regS tOk rfl ?_; simp [hw1])
              | (refine AWP_skip ?_; simp [hw1])
              | (refine AWP_exit ?_; simp [hw1])
              | (refine AWP_ret ?_; simp [hw1])
              | refine AWP_block ?_
              | refine AWP_seq ?_)
            refine ALoop_keep (sl' := [(0, .list (l.map encSch)), (1, .str s), (4, .vptr 0 0), (8, .list (fromA ws)), (9, .list (toA ws)), (10, .vptr 1 0), (11, .i (i + 1 : Nat))]) (ih (i + 1, E, some (H2.length + 2), K) ⟨by simp only; omega, k0, hE, fun p hp => (by cases hp; omega), fun h => absurd h (by simp only; omega), hst rfl, g5⟩ (by simp only; omega)) (by simp)
          · rw [if_pos hy] at g5
            rw [← g5, if_pos hy] at hR
            simp only at hR
            have gz : ∀ z, (K.set 0 z)[0]? = some z := fun z => get_self k0 z
            have k0' : K[0]? = some (.vars [.i 0, .i 0, .i 0, .i 0, .nils]) := k0
            refine AWP_cond2 rfl (fun _ => ?_) (fun h => absurd (by simpa using h) hy)
            repeat (first
              | (refine AWP_seq (AWP_regS tOk rfl ?_); simp)
              | (refine AWP_regS tOk rfl ?_; simp)
              | (refine AWP_skip ?_; simp)
              | (refine AWP_exit ?_; simp)
              | (refine AWP_ret ?_; simp)
              | refine AWP_block ?_
              | refine AWP_seq ?_)
            refine AWP_drawT tOk mixed [6] (.val 0 (.val 1 (.val 2 (.val 3 (.val 5 (.two 4 (.one 6 (.val 7 (.val 8 (.done)))) 6 (.val 4 (.val 7 (.val 8 (.done)))))))))) rfl (by kernel_rfl) ?_
            simp [lfa, hlt', hfa, k0']
            repeat (first
              | (refine AWP_seq (AWP_regS tOk rfl ?_); simp [gz])
              | (refine AWP_regS tOk rfl ?_; simp [gz])
              | (refine AWP_skip ?_; simp [gz])
              | (refine AWP_exit ?_; simp [gz])
              | (refine AWP_ret ?_; simp [gz])
              | refine AWP_block ?_
              | refine AWP_seq ?_)
            rw [← hR]
            simp [zeroE]
        | some p =>
          have a1 : H2[1]? = some (.vars [.i e.source, .i e.seq, .i tk, .i e.time, .sl p 3 0 e.values.length]) := g1'
          have a2 : H2[p]? = some (.arr 30 3 (e.values.map encV)) := g1.2.1
          have a4 : (H2.set p .dead)[1]? = some (.vars [.i e.source, .i e.seq, .i tk, .i e.time, .sl p 3 0 e.values.length]) := get_set g1.2.2 a1 _
          have hp1 := g2 p rfl
          try simp only [vX]
          refine AStep_appendS tOk rfl rfl T23 rfl T30 rfl (by decide) (by decide) rfl rfl rfl ?_
          simp [get_app a1, set_app a1, get_app a2, set_app a2, a4, get_app a4, set_app a4, get_app' a1, get_app' a4]
          refine ⟨by simp [appOk, get_app a1, set_app a1, get_app a2, set_app a2, a4, get_app a4, set_app a4, get_app' a1, get_app' a4] <;> omega, ?_⟩
          repeat (first
            | (refine AWP_seq (AWP_regS tOk rfl ?_); simp [get_app a1, set_app a1, get_app a2, set_app a2, a4, get_app a4, set_app a4, get_app' a4])
            | (refine AWP_regS tOk rfl ?_; simp [get_app a1, set_app a1, get_app a2, set_app a2, a4, get_app a4, set_app a4, get_app' a4])
            | (refine AWP_skip ?_; simp [get_app a1, set_app a1, get_app a2, set_app a2, a4, get_app a4, set_app a4, get_app' a4])
            | (refine AWP_exit ?_; simp [get_app a1, set_app a1, get_app a2, set_app a2, a4, get_app a4, set_app a4, get_app' a4])
            | (refine AWP_ret ?_; simp [get_app a1, set_app a1, get_app a2, set_app a2, a4, get_app a4, set_app a4, get_app' a4])
            | refine AWP_block ?_
            | refine AWP_seq ?_)
          obtain ⟨K, hK⟩ : ∃ K, K = (H2.set p .dead).set 1 (AObj.vars [AV.i e.source, AV.i e.seq, AV.i tk, AV.i e.time, AV.sl (H2.length + 2) 3 0 (e.values.length + 1)]) ++ [AObj.vars [AV.i v.kind, AV.i v.num, AV.str v.text], AObj.arr 30 3 [AV.agg [AV.i v.kind, AV.i v.num, AV.str v.text]], AObj.arr 30 3 (e.values.map encV ++ [AV.agg [AV.i v.kind, AV.i v.num, AV.str v.text]])] := ⟨_, rfl⟩
          have k0 : K[0]? = some (evX zeroE none) := by rw [hK]; exact get_app (get_set (by omega) (get_set (by omega) g0 _) _) _
          have k1 : K[1]? = some (.vars [.i e.source, .i e.seq, .i tk, .i e.time, .sl (H2.length + 2) 3 0 (e.values.length + 1)]) := by rw [hK]; exact get_app (get_self a4 _) _
          have kp : K[H2.length + 2]? = some (.arr 30 3 ((e.values ++ [v]).map encV)) := by rw [hK, List.getElem?_append_right (by simp)]; simp
          rw [← hK]
          clear hK
          have kl : 1 < K.length := (List.getElem?_eq_some_iff.1 k1).1
          by_cases hy : y = 0
          · have hE := fin K (H2.length + 2) k0 k1 kp (by omega) hy
            subst hy
            rw [if_neg (fun h => h rfl)] at g5
            refine AWP_cond rfl ?_
            repeat (first
              | (refine AWP_seq (AWP_regS tOk rfl ?_); simp [hw1])
              | (refine AWP_regS tOk rfl ?_; simp [hw1])
              | (refine AWP_skip ?_; simp [hw1])
              | (refine AWP_exit ?_; simp [hw1])
              | (refine AWP_ret ?_; simp [hw1])
              | refine AWP_block ?_
              | refine AWP_seq ?_)
            refine ALoop_keep (sl' := [(0, .list (l.map encSch)), (1, .str s), (4, .vptr 0 0), (8, .list (fromA ws)), (9, .list (toA ws)), (10, .vptr 1 0), (11, .i (i + 1 : Nat))]) (ih (i + 1, E, some (H2.length + 2), K) ⟨by simp only; omega, k0, hE, fun p hp => (by cases hp; omega), fun h => absurd h (by simp only; omega), hst rfl, g5⟩ (by simp only; omega)) (by simp)
          · rw [if_pos hy] at g5
            rw [← g5, if_pos hy] at hR
            simp only at hR
            have gz : ∀ z, (K.set 0 z)[0]? = some z := fun z => get_self k0 z
            have k0' : K[0]? = some (.vars [.i 0, .i 0, .i 0, .i 0, .nils]) := k0
            refine AWP_cond2 rfl (fun _ => ?_) (fun h => absurd (by simpa using h) hy)
            repeat (first
              | (refine AWP_seq (AWP_regS tOk rfl ?_); simp)
              | (refine AWP_regS tOk rfl ?_; simp)
              | (refine AWP_skip ?_; simp)
              | (refine AWP_exit ?_; simp)
              | (refine AWP_ret ?_; simp)
              | refine AWP_block ?_
              | refine AWP_seq ?_)
            refine AWP_drawT tOk mixed [6] (.val 0 (.val 1 (.val 2 (.val 3 (.val 5 (.two 4 (.one 6 (.val 7 (.val 8 (.done)))) 6 (.val 4 (.val 7 (.val 8 (.done)))))))))) rfl (by kernel_rfl) ?_
            simp [lfa, hlt', hfa, k0']
            repeat (first
              | (refine AWP_seq (AWP_regS tOk rfl ?_); simp [gz])
              | (refine AWP_regS tOk rfl ?_; simp [gz])
              | (refine AWP_skip ?_; simp [gz])
              | (refine AWP_exit ?_; simp [gz])
              | (refine AWP_ret ?_; simp [gz])
              | refine AWP_block ?_
              | refine AWP_seq ?_)
            rw [← hR]
            simp [zeroE]
      · have hkf : ¬ k < fs.length := by simpa [hw3] using h
        have hwx := hwd.1 hkf
        rw [hwx] at g5
        simp only at g5
        rw [if_pos (by decide)] at g5
        rw [← g5] at hR
        simp only at hR
        rw [if_pos (by decide)] at hR
        have gz : ∀ z, (H2.set 0 z)[0]? = some z := fun z => get_self g0 z
        have k0' : H2[0]? = some (.vars [.i 0, .i 0, .i 0, .i 0, .nils]) := g0
        repeat (first
          | (refine AWP_seq (AWP_regS tOk rfl ?_); simp)
          | (refine AWP_regS tOk rfl ?_; simp)
          | (refine AWP_skip ?_; simp)
          | (refine AWP_exit ?_; simp)
          | (refine AWP_ret ?_; simp)
          | refine AWP_block ?_
          | refine AWP_seq ?_)
        refine AWP_cond rfl ?_
        repeat (first
          | (refine AWP_seq (AWP_regS tOk rfl ?_); simp)
          | (refine AWP_regS tOk rfl ?_; simp)
          | (refine AWP_skip ?_; simp)
          | (refine AWP_exit ?_; simp)
          | (refine AWP_ret ?_; simp)
          | refine AWP_block ?_
          | refine AWP_seq ?_)
        refine AWP_drawT tOk mixed [6] (.val 0 (.val 1 (.val 2 (.val 3 (.val 5 (.two 4 (.one 6 (.val 7 (.val 8 (.done)))) 6 (.val 4 (.val 7 (.val 8 (.done)))))))))) rfl (by kernel_rfl) ?_
        simp [lfa, hlt', hfa, k0']
        repeat (first
          | (refine AWP_seq (AWP_regS tOk rfl ?_); simp [gz])
          | (refine AWP_regS tOk rfl ?_; simp [gz])
          | (refine AWP_skip ?_; simp [gz])
          | (refine AWP_exit ?_; simp [gz])
          | (refine AWP_ret ?_; simp [gz])
          | refine AWP_block ?_
          | refine AWP_seq ?_)
        rw [← hR]
        simp [zeroE]
  · have hge' : i = ws.length := by simp [fromA] at hge; omega
    subst hge'
    rw [List.drop_length, goW] at g5
    rw [← g5] at hR
    simp only at hR
    rw [if_neg (fun h => h rfl)] at hR
    have hsw : ws.length ≤ 11 := hi11
    by_cases h3 : ws.length < 3
    · rw [if_pos (.inl h3)] at hR
      obtain rfl := g3 (by omega)
      have g1' : H2[1]? = some (.vars [.i e.source, .i e.seq, .i e.type, .i e.time, .nils]) := g1.1
      have h3i : (ws.length : Int) < 3 := by omega
      have gz : ∀ z, (H2.set 0 z)[0]? = some z := fun z => get_self g0 z
      have k0' : H2[0]? = some (.vars [.i 0, .i 0, .i 0, .i 0, .nils]) := g0
      repeat (first
        | (refine AWP_seq (AWP_regS tOk rfl ?_); simp)
        | (refine AWP_regS tOk rfl ?_; simp)
        | (refine AWP_skip ?_; simp)
        | (refine AWP_exit ?_; simp)
        | (refine AWP_ret ?_; simp)
        | refine AWP_block ?_
        | refine AWP_seq ?_)
      by_cases ht : 0 ≤ e.type ∧ e.type < l.length
      · obtain ⟨tk, htk⟩ : ∃ tk : Nat, e.type = tk := ⟨e.type.toNat, by omega⟩
        have hkl : tk < l.length := by omega
        generalize hfs2 : l[tk].fields = fs at *
        rw [htk] at g1'
        refine AWP_drawT tOk mixed [] (.val 0 (.val 1 (.val 2 (.val 3 (.val 4 (.val 5 (.val 6 (.val 7 (.val 8 (.val 9 (.val 10 (.val 11 (.val 12 (.val 13 (.val 14 (.val 15 (.done))))))))))))))))) rfl (by kernel_rfl) ?_
        simp [lfa, h3i, g1', hkl, hfs2, k0']
        refine AWP_cond rfl ?_
        repeat (first
          | (refine AWP_seq (AWP_regS tOk rfl ?_); simp [gz, k0'])
          | (refine AWP_regS tOk rfl ?_; simp [gz, k0'])
          | (refine AWP_skip ?_; simp [gz, k0'])
          | (refine AWP_exit ?_; simp [gz, k0'])
          | (refine AWP_ret ?_; simp [gz, k0'])
          | refine AWP_block ?_
          | refine AWP_seq ?_)
        rw [← hR]
        simp [zeroE]
      · refine AWP_drawT tOk mixed [] (.val 0 (.val 1 (.val 2 (.val 3 (.val 4 (.val 5 (.val 6 (.val 7 (.val 8 (.val 9 (.val 10 (.val 11 (.val 12 (.val 13 (.val 14 (.val 15 (.done))))))))))))))))) rfl (by kernel_rfl) ?_
        simp [lfa, h3i, g1', ht, k0']
        try (repeat (refine AStep_skip rfl rfl ?_; simp))
        refine AWP_cond rfl ?_
        repeat (first
          | (refine AWP_seq (AWP_regS tOk rfl ?_); simp [gz, k0'])
          | (refine AWP_regS tOk rfl ?_; simp [gz, k0'])
          | (refine AWP_skip ?_; simp [gz, k0'])
          | (refine AWP_exit ?_; simp [gz, k0'])
          | (refine AWP_ret ?_; simp [gz, k0'])
          | refine AWP_block ?_
          | refine AWP_seq ?_)
        rw [← hR]
        simp [zeroE]
    obtain ⟨t1, t2⟩ := g4.ty (by omega)
    obtain ⟨tk, htk⟩ : ∃ tk : Nat, e.type = tk := ⟨e.type.toNat, by omega⟩
    have hkl : tk < l.length := by omega
    have hfs := hfl tk htk hkl
    have hfl8 : l[tk].fields.length ≤ 8 := hf8 _ (List.getElem_mem hkl)
    rw [hfs] at hR
    generalize hfs2 : l[tk].fields = fs at *
    have h3i : ¬ (ws.length : Int) < 3 := by omega
    have gz : ∀ z, (H2.set 0 z)[0]? = some z := fun z => get_self g0 z
    have k0' : H2[0]? = some (.vars [.i 0, .i 0, .i 0, .i 0, .nils]) := g0
    have hv8 : e.values.length ≤ 8 := by have := g4.vl; omega
    cases o with
    | none =>
      have hv0 : e.values = [] := g1.2
      have a1 : H2[1]? = some (.vars [.i e.source, .i e.seq, .i tk, .i e.time, .nils]) := by rw [← htk]; exact g1.1
      repeat (first
        | (refine AWP_seq (AWP_regS tOk rfl ?_); simp)
        | (refine AWP_regS tOk rfl ?_; simp)
        | (refine AWP_skip ?_; simp)
        | (refine AWP_exit ?_; simp)
        | (refine AWP_ret ?_; simp)
        | refine AWP_block ?_
        | refine AWP_seq ?_)
      refine AWP_drawT tOk mixed [] (.val 0 (.val 1 (.val 2 (.val 3 (.val 4 (.val 5 (.val 6 (.val 7 (.val 8 (.val 9 (.val 10 (.val 11 (.val 12 (.val 13 (.val 14 (.val 15 (.done))))))))))))))))) rfl (by kernel_rfl) ?_
      simp [lfa, h3i, a1, hkl, hfs2, k0']
      refine AWP_cond2 rfl (fun h => ?_) (fun h => ?_)
      · rw [if_pos (.inr (by rw [hv0]; simpa using h))] at hR
        repeat (first
          | (refine AWP_seq (AWP_regS tOk rfl ?_); simp [gz, k0'])
          | (refine AWP_regS tOk rfl ?_; simp [gz, k0'])
          | (refine AWP_skip ?_; simp [gz, k0'])
          | (refine AWP_exit ?_; simp [gz, k0'])
          | (refine AWP_ret ?_; simp [gz, k0'])
          | refine AWP_block ?_
          | refine AWP_seq ?_)
        rw [← hR]
        simp [zeroE]
      · rw [if_neg (fun h' => h'.elim (fun x => h3 x) (fun x => by have h9 := of_decide_eq_false h; have h10 : e.values.length = 0 := (by rw [hv0]; rfl); omega))] at hR
        repeat (first
          | (refine AWP_seq (AWP_regS tOk rfl ?_); simp [a1, gz, k0'])
          | (refine AWP_regS tOk rfl ?_; simp [a1, gz, k0'])
          | (refine AWP_skip ?_; simp [a1, gz, k0'])
          | (refine AWP_exit ?_; simp [a1, gz, k0'])
          | (refine AWP_ret ?_; simp [a1, gz, k0'])
          | refine AWP_block ?_
          | refine AWP_seq ?_)
        rw [← hR]
        simp [htk, hv0]
    | some p =>
      have hp1 := g2 p rfl
      have a1 : H2[1]? = some (.vars [.i e.source, .i e.seq, .i tk, .i e.time, .sl p 3 0 e.values.length]) := by rw [← htk]; exact g1.1
      have a2 : H2[p]? = some (.arr 30 3 (e.values.map encV)) := g1.2.1
      have gp : ∀ z, (H2.set 0 z)[p]? = some (.arr 30 3 (e.values.map encV)) := fun z => get_set (by omega) a2 z
      repeat (first
        | (refine AWP_seq (AWP_regS tOk rfl ?_); simp)
        | (refine AWP_regS tOk rfl ?_; simp)
        | (refine AWP_skip ?_; simp)
        | (refine AWP_exit ?_; simp)
        | (refine AWP_ret ?_; simp)
        | refine AWP_block ?_
        | refine AWP_seq ?_)
      refine AWP_drawT tOk mixed [] (.val 0 (.val 1 (.val 2 (.val 3 (.val 4 (.val 5 (.val 6 (.val 7 (.val 8 (.val 9 (.val 10 (.val 11 (.val 12 (.val 13 (.val 14 (.val 15 (.done))))))))))))))))) rfl (by kernel_rfl) ?_
      simp [lfa, h3i, a1, hkl, hfs2, k0']
      refine AWP_cond2 rfl (fun h => ?_) (fun h => ?_)
      · rw [if_pos (.inr (by simpa using h))] at hR
        repeat (first
          | (refine AWP_seq (AWP_regS tOk rfl ?_); simp [gz, k0'])
          | (refine AWP_regS tOk rfl ?_; simp [gz, k0'])
          | (refine AWP_skip ?_; simp [gz, k0'])
          | (refine AWP_exit ?_; simp [gz, k0'])
          | (refine AWP_ret ?_; simp [gz, k0'])
          | refine AWP_block ?_
          | refine AWP_seq ?_)
        rw [← hR]
        simp [zeroE]
      · rw [if_neg (fun h' => h'.elim (fun x => h3 x) (fun x => by have h9 := of_decide_eq_false h; omega))] at hR
        repeat (first
          | (refine AWP_seq (AWP_regS tOk rfl ?_); simp [a1, gz, k0', gp])
          | (refine AWP_regS tOk rfl ?_; simp [a1, gz, k0', gp])
          | (refine AWP_skip ?_; simp [a1, gz, k0', gp])
          | (refine AWP_exit ?_; simp [a1, gz, k0', gp])
          | (refine AWP_ret ?_; simp [a1, gz, k0', gp])
          | refine AWP_block ?_
          | refine AWP_seq ?_)
        rw [← hR]
        rw [List.take_of_length_le (by simp)]
        simp [htk]
end Go.Abs
namespace Go.Abs
open Go Go.RowKit

/-- In which orders a drawn region is walked, up to four operations that may come. -/
inductive PlanM where
  | done
  | val (i : Nat) (p : PlanM)
  | one (i : Nat) (p : PlanM)
  | two (i : Nat) (p : PlanM) (j : Nat) (q : PlanM)
  | three (i : Nat) (p : PlanM) (j : Nat) (q : PlanM) (m : Nat) (r : PlanM)

def PlanM.size : PlanM → Nat
  | .done => 0
  | .val _ p => p.size + 1
  | .one _ p => p.size + 1
  | .two _ p _ _ => p.size + 1
  | .three _ p _ _ _ _ => p.size + 1

def planM (ops : Array Oper) (cl : List (List Nat)) (Wr : List Nat) : PlanM → Array Bool → Bool
  | .done, l => (Region.ready .any ops l).isEmpty
  | .val i p, l => (match ops[i]? with
      | none => false
      | some o => isVal o.op && freeOk ops cl Wr l i && (Region.ready .any ops l).contains i) && planM ops cl Wr p (l.setIfInBounds i true)
  | .one i p, l => (ops[i]?).isSome && Region.ready .any ops l == [i] && planM ops cl Wr p (l.setIfInBounds i true)
  | .two i p j q, l => (ops[i]?).isSome && (ops[j]?).isSome && Region.ready .any ops l == [i, j] && p.size == q.size && planM ops cl Wr p (l.setIfInBounds i true) && planM ops cl Wr q (l.setIfInBounds j true)
  | .three i p j q m r, l => (ops[i]?).isSome && (ops[j]?).isSome && (ops[m]?).isSome && Region.ready .any ops l == [i, j, m] && p.size == q.size && p.size == r.size && planM ops cl Wr p (l.setIfInBounds i true) && planM ops cl Wr q (l.setIfInBounds j true) && planM ops cl Wr r (l.setIfInBounds m true)

def ASeqM (P : Program) [Env P] (T : TT) (nt k : Nat) (ops : Array Oper) (W : Nat → Bool) (Q : AS → Prop) : PlanM → AS → Prop
  | .done, S => Q S
  | .val i p, S => stepT P T nt k ops W i (ASeqM P T nt k ops W Q p) S
  | .one i p, S => stepT1 P T nt k ops W i (ASeqM P T nt k ops W Q p) S
  | .two i p j q, S => stepT1 P T nt k ops W i (ASeqM P T nt k ops W Q p) S ∧ stepT1 P T nt k ops W j (ASeqM P T nt k ops W Q q) S
  | .three i p j q m r, S => stepT1 P T nt k ops W i (ASeqM P T nt k ops W Q p) S ∧ stepT1 P T nt k ops W j (ASeqM P T nt k ops W Q q) S ∧ stepT1 P T nt k ops W m (ASeqM P T nt k ops W Q r) S

section
variable {P : Program} [Env P] {T : TT} {nt k : Nat} {S : AS} {ops : Array Oper} {o : Oper} {R : AS → Prop} {Wr : List Nat}

theorem ASeqM_any (hT : TOk P T) {C : Cx P} (hd : dstsOk nt ops.toList = true) (hns : Region.noSelect ops = true) : ∀ (p : PlanM) (listed : Array Bool) (S : AS) (a : Act) (w : World), closedL ops listed → planM ops (closTo ops.toList []) Wr p listed = true → ASeqM P T nt k ops Wr.contains R p S → St C nt k S a w →
    wpAnyR P ops Wr (PstN C nt k R) p.size listed a w
  | .done, listed, S, a, w, _, hp, h, hs => ⟨by simpa [planM] using hp, S, h, hs⟩
  | .val i p, listed, S, a, w, hcl, hp, h, hs => by
    unfold planM at hp
    unfold ASeqM stepT at h
    rw [Bool.and_eq_true] at hp
    obtain ⟨hp1, hp2⟩ := hp
    cases ho : ops[i]? with
    | none => rw [ho] at h; exact h.elim
    | some o =>
      rw [ho] at h hp1
      simp only at h hp1
      have hdo : dstOk nt o = true := List.all_eq_true.1 hd o (by simpa using Array.mem_of_getElem? ho)
      simp only [Bool.and_eq_true] at hp1
      obtain ⟨⟨hv, hf⟩, hr⟩ := hp1
      have hau : isAuto o.op = true := by cases hop : o.op <;> rw [hop] at hv <;> first | rfl | exact hv | (simp [isVal] at hv)
      rw [if_pos hau] at h
      have hrd : i ∈ Region.ready .any ops listed := by simpa using hr
      split at h
      · rename_i S' hS'
        obtain ⟨v, hy, hs'⟩ := hs.yields hT hdo hv hS'
        exact wpAnyR_first ho (Region.noSelect_spec hns) (fun c a w hq => hq) (fun x y => readsMem o.op = true → Held x y) (fun w _ => Held.refl w) (fun x y z h1 h2 hr => (h1 hr).trans (h2 hr)) p.size listed a w
          (fun j oj hj hne hun hno => free_all ho hf j oj hj hne hun hno) hcl hrd hy (ASeqM_any hT hd hns p _ S' _ w (hcl.set hrd) hp2 h.2 hs')
      · exact h.elim
  | .one i p, listed, S, a, w, hcl, hp, h, hs => by
    unfold planM at hp
    simp only [Bool.and_eq_true, beq_iff_eq] at hp
    obtain ⟨⟨_, hrd⟩, hp2⟩ := hp
    have hrm : i ∈ Region.ready .any ops listed := by rw [hrd]; simp
    refine ⟨fun h0 => (by rw [hrd] at h0; cases h0), fun j hj => ?_⟩
    rw [hrd] at hj
    obtain rfl : j = i := by simpa using hj
    exact stepT_op hT hd h hs fun S' a' w' hR hs' => ASeqM_any hT hd hns p _ S' a' w' (hcl.set hrm) hp2 hR hs'
  | .two i p j q, listed, S, a, w, hcl, hp, h, hs => by
    unfold planM at hp
    simp only [Bool.and_eq_true, beq_iff_eq] at hp
    obtain ⟨⟨⟨⟨_, hrd⟩, hsz⟩, hp2⟩, hp3⟩ := hp
    have hri : i ∈ Region.ready .any ops listed := by rw [hrd]; simp
    have hrj : j ∈ Region.ready .any ops listed := by rw [hrd]; simp
    refine ⟨fun h0 => (by rw [hrd] at h0; cases h0), fun m hm => ?_⟩
    rw [hrd] at hm
    rcases (by simpa using hm : m = i ∨ m = j) with rfl | rfl
    · exact stepT_op hT hd h.1 hs fun S' a' w' hR hs' => ASeqM_any hT hd hns p _ S' a' w' (hcl.set hri) hp2 hR hs'
    · refine stepT_op hT hd h.2 hs fun S' a' w' hR hs' => ?_
      have := ASeqM_any hT hd hns q _ S' a' w' (hcl.set hrj) hp3 hR hs'
      rw [← hsz] at this
      exact this
  | .three i p j q g r, listed, S, a, w, hcl, hp, h, hs => by
    unfold planM at hp
    simp only [Bool.and_eq_true, beq_iff_eq] at hp
    obtain ⟨⟨⟨⟨⟨⟨_, hrd⟩, hsz⟩, hsz2⟩, hp2⟩, hp3⟩, hp4⟩ := hp
    have hri : i ∈ Region.ready .any ops listed := by rw [hrd]; simp
    have hrj : j ∈ Region.ready .any ops listed := by rw [hrd]; simp
    have hrg : g ∈ Region.ready .any ops listed := by rw [hrd]; simp
    refine ⟨fun h0 => (by rw [hrd] at h0; cases h0), fun m hm => ?_⟩
    rw [hrd] at hm
    rcases (by simpa using hm : m = i ∨ m = j ∨ m = g) with rfl | rfl | rfl
    · exact stepT_op hT hd h.1 hs fun S' a' w' hR hs' => ASeqM_any hT hd hns p _ S' a' w' (hcl.set hri) hp2 hR hs'
    · refine stepT_op hT hd h.2.1 hs fun S' a' w' hR hs' => ?_
      have := ASeqM_any hT hd hns q _ S' a' w' (hcl.set hrj) hp3 hR hs'
      rw [← hsz] at this
      exact this
    · refine stepT_op hT hd h.2.2 hs fun S' a' w' hR hs' => ?_
      have := ASeqM_any hT hd hns r _ S' a' w' (hcl.set hrg) hp4 hR hs'
      rw [← hsz2] at this
      exact this

/-- A region that draws its order, by a plan with branches. -/
theorem AWP_drawM (hT : TOk P T) (hm : P.follows .mixedOrders = true) {Q : Exit → AS → Prop} {id : Nat} {l : List Oper} (Wr : List Nat) (p : PlanM) (hd : dstsOk nt l = true)
    (hp : (Region.noSelect l.toArray && p.size == l.length && planM l.toArray (closTo l []) Wr p (Array.replicate l.length false)) = true)
    (h : ASeqM P T nt k l.toArray Wr.contains (Q .normal) p S) : AWP P nt k (.region id l.toArray true) Q S := fun C a w hs => by
  simp only [Bool.and_eq_true, beq_iff_eq] at hp
  obtain ⟨⟨h1, h2⟩, h3⟩ := hp
  refine Pst_of_N (wpIn_region_any hm (wpAny_of_R (Wr := Wr) _ _ _ _ ?_))
  have hs' : St C nt k S a { w with drawn := w.drawn + 1 } := by
    obtain ⟨I, m, hw, hsl, hk, hE⟩ := hs
    have hb : Below w.heap.size w { w with drawn := w.drawn + 1 } := ⟨rfl, rfl, rfl, Nat.le_refl _, fun _ _ => rfl⟩
    obtain ⟨g1, g2⟩ := hw.step hb (fun _ h => h) (fun b hb' => ⟨(hw.iw b hb').1, .inl hb'⟩)
    exact ⟨I, m, g1, ⟨hsl.1, hsl.2.1, fun t x hx => by obtain ⟨v, hv, hr⟩ := hsl.2.2 t x hx; exact ⟨v, hv, hr.mono g2 (Nat.le_refl _)⟩⟩, hk, hE.trans hk g2⟩
  have := ASeqM_any hT (C := C) (nt := nt) (k := k) (R := Q .normal) (by simpa using hd) h1 p (Array.replicate l.length false) S a _ (fun j o ho hj => by
    have hlt := (Array.getElem?_eq_some_iff.1 ho).1
    simp at hlt
    simp [hlt] at hj) (by simpa using h3) h hs'
  rw [h2] at this
  simpa using this

theorem AStep.mono {wr : Bool} {R' : AS → Prop} (h : AStep P nt k wr ops o S R) (hr : ∀ S, R S → R' S) : AStep P nt k wr ops o S R' :=
  fun C a w K Q hs hK => h C a w K Q hs fun S' a' w' hR => hK S' a' w' (hr S' hR)
theorem stepT_mono {W : Nat → Bool} {i : Nat} {R' : AS → Prop} (hr : ∀ S, R S → R' S) (h : stepT P T nt k ops W i R S) : stepT P T nt k ops W i R' S := by
  unfold stepT at h ⊢
  split at h
  · exact h
  · split at h
    · rename_i hau
      rw [if_pos hau]
      split at h
      · exact ⟨h.1, hr _ h.2⟩
      · exact h
    · rename_i hau
      rw [if_neg hau]
      exact h.mono hr
theorem stepT1_mono {W : Nat → Bool} {i : Nat} {R' : AS → Prop} (hr : ∀ S, R S → R' S) (h : stepT1 P T nt k ops W i R S) : stepT1 P T nt k ops W i R' S := by
  unfold stepT1 at h ⊢
  split at h
  · exact h
  · split at h
    · rename_i hau
      rw [if_pos hau]
      split at h
      · exact ⟨h.1, hr _ h.2⟩
      · exact h.mono hr
    · rename_i hau
      rw [if_neg hau]
      exact h.mono hr
theorem ASeqM_and {W : Nat → Bool} {Q Q' : AS → Prop} (hq : ∀ S, Q S → Q' S) : ∀ (p : PlanM) (S : AS), ASeqM P T nt k ops W Q p S → ASeqM P T nt k ops W Q' p S
  | .done, S, h => hq S h
  | .val i p, S, h => stepT_mono (fun S => ASeqM_and hq p S) h
  | .one i p, S, h => stepT1_mono (fun S => ASeqM_and hq p S) h
  | .two i p j q, S, h => ⟨stepT1_mono (fun S => ASeqM_and hq p S) h.1, stepT1_mono (fun S => ASeqM_and hq q S) h.2⟩
  | .three i p j q m r, S, h => ⟨stepT1_mono (fun S => ASeqM_and hq p S) h.1, stepT1_mono (fun S => ASeqM_and hq q S) h.2.1, stepT1_mono (fun S => ASeqM_and hq r S) h.2.2⟩
/-- Nil slices inside a slot's data are empty lists. -/
theorem St.nrmSlot {C : Cx P} {a : Act} {w : World} {sl : List (Nat × AV)} {H : List AObj} (hs : St C nt k ⟨sl, H⟩ a w) (t : Nat) {x : AV} (ht : look sl t = some x) (hp : x.pure = true) : St C nt k ⟨put sl t x.nrm, H⟩ a w := by
  obtain ⟨I, m, hw, hsl, hk, hf⟩ := hs
  refine ⟨I, m, hw, ⟨hsl.1, hsl.2.1, fun s y hy => ?_⟩, hk, hf⟩
  simp only [look_put] at hy
  by_cases hst : s = t
  · rw [if_pos hst] at hy
    cases hy
    obtain ⟨v, hv, hr⟩ := hsl.2.2 t _ ht
    rw [hst]
    exact ⟨v, hv, .pure (hr.toPure hp).nrm⟩
  · rw [if_neg hst] at hy
    exact hsl.2.2 s y hy
theorem AWP_nrmSlot {c : Code} {Q : Exit → AS → Prop} {sl : List (Nat × AV)} {H : List AObj} (t : Nat) {x : AV} (ht : look sl t = some x) (hp : x.pure = true) (h : AWP P nt k c Q ⟨put sl t x.nrm, H⟩) : AWP P nt k c Q ⟨sl, H⟩ := fun C a w hs => h C a w (hs.nrmSlot t ht hp)
theorem AStep_nrmSlot {wr : Bool} {sl : List (Nat × AV)} {H : List AObj} (t : Nat) {x : AV} (ht : look sl t = some x) (hp : x.pure = true) (h : AStep P nt k wr ops o ⟨put sl t x.nrm, H⟩ R) : AStep P nt k wr ops o ⟨sl, H⟩ R := fun C a w K Q hs => h C a w K Q (hs.nrmSlot t ht hp)
/-- An operation that yields or stores, tried once more in the state as it is now. -/
theorem AStep_redo (hT : TOk P T) {wr : Bool} (hd : dstOk nt o = true) (hwr : isStore o.op = true → wr = true) (hv : isAuto o.op = true) (h : match stepA T ops S o with | some S' => R S' | none => False) : AStep P nt k wr ops o S R := by
  cases hs : stepA T ops S o with
  | none => rw [hs] at h; exact h.elim
  | some S' => rw [hs] at h; exact AStep_auto hT hs hd hwr hv h

/-- What holds of the one state holds of the other. -/
def RenTo (P : Program) [Env P] (nt k : Nat) (S S' : AS) : Prop := ∀ (C : Cx P) (a : Act) (w : World), St C nt k S a w → St C nt k S' a w
theorem RenTo_ren {sl sl' : List (Nat × AV)} {H H' : List AObj} (ix : List Nat)
    (h1 : ix.map (fun i => H[i]?) = H'.map (fun o => some (o.ren (rn ix)))) (h2 : ix.Nodup) (h3 : k ≤ ix.length) (h3' : ix.take k = List.range k)
    (h4 : sl'.all (fun p => p.2.under H'.length) = true) (h4' : H'.all (objBelow H'.length) = true) (h5 : keepOk sl (sl'.map fun p => (p.1, p.2.ren (rn ix)))) : RenTo P nt k ⟨sl, H⟩ ⟨sl', H'⟩ :=
  fun C a w hs => hs.ren ix h1 h2 h3 h3' h4 h4' h5
theorem RenTo_keep {sl sl' : List (Nat × AV)} {H : List AObj} (hk : keepOk sl sl') : RenTo P nt k ⟨sl, H⟩ ⟨sl', H⟩ := fun _ _ _ hs => hs.sub rfl (look_of_keepOk hk)
/-- A region that draws its order, all orders brought to one state; the rest from there. -/
theorem AWP_drawC (hT : TOk P T) (hm : P.follows .mixedOrders = true) {Q Q' : Exit → AS → Prop} {id : Nat} {l : List Oper} {next : Code} (Wr : List Nat) (p : PlanM) (Sc : AS) (hd : dstsOk nt l = true)
    (hp : (Region.noSelect l.toArray && p.size == l.length && planM l.toArray (closTo l []) Wr p (Array.replicate l.length false)) = true)
    (h : ASeqM P T nt k l.toArray Wr.contains (fun S => RenTo P nt k S Sc) p S) (hn : AWP P nt k next Q Sc) : AWP P nt k (.region id l.toArray true) (thenQ (AWP P nt k next Q) Q') S :=
  (AWP_drawM (Q := fun e S => e = .normal ∧ RenTo P nt k S Sc) hT hm Wr p hd hp (ASeqM_and (fun _ h => ⟨rfl, h⟩) p S h)).mono fun e S ⟨he, hr⟩ => by
    subst he
    exact fun C a w hs => hn C a w (hr C a w hs)
end
attribute [simp] ASeqM AV.nrm AV.nrm1
end Go.Abs
set_option maxRecDepth 100000
namespace Go.Abs
open Go Go.Proofs
set_option linter.unusedSimpArgs false
def typesL : List Sch := [⟨[116, 114, 97, 100, 101], [⟨[115, 121, 109, 98, 111, 108], 2⟩, ⟨[112, 114, 105, 99, 101], 0⟩]⟩, ⟨[99, 108, 111, 99, 107], []⟩]
theorem pc_types : PC Tryz.prog 32 [] (fun r => r = .list (typesL.map encSch)) := by
  refine PC_body tOk Tryz.func32 rfl Tryz.results32 rfl (by simp [Tryz.ntmps32]) ?_
  rw [Tryz.ntmps32]
  simp only [argSlots]
  have r2 : List.range 2 = [0, 1] := rfl
  repeat (first
    | (refine AWP_seq (AWP_regS tOk rfl ?_); simp [r2])
    | (refine AWP_regS tOk rfl ?_; simp [r2])
    | (refine AWP_skip ?_; simp [r2])
    | (refine AWP_exit ?_; simp [r2])
    | (refine AWP_ret ?_; simp [r2])
    | refine AWP_block ?_
    | refine AWP_seq ?_)
  refine AStep_freeze 0 rfl ?_
  simp [r2]
  refine AStep_nrmSlot 5 rfl (by simp [AV.pure]) ?_
  simp
  refine AStep_redo tOk rfl (fun _ => rfl) rfl ?_
  simp [r2]
  repeat (first
    | (refine AWP_seq (AWP_regS tOk rfl ?_); simp)
    | (refine AWP_regS tOk rfl ?_; simp)
    | (refine AWP_skip ?_; simp)
    | (refine AWP_exit ?_; simp)
    | (refine AWP_ret ?_; simp)
    | refine AWP_block ?_
    | refine AWP_seq ?_)
  simp [typesL]
def evt0 : Ev := ⟨2, 17, 0, 5, [⟨2, 0, [65, 32, 98]⟩, ⟨0, -3, []⟩]⟩
def txt0 : List UInt8 := [116, 114, 97, 100, 101, 32, 50, 46, 49, 55, 32, 64, 53, 32, 34, 65, 32, 98, 34, 32, 45, 51]
theorem ea1 : evFmtR typesL evt0 = (txt0, 0) := by kernel_rfl
theorem ea2 : evParseR typesL txt0 = (evt0, 0, 0) := by kernel_rfl
theorem ea3 : fieldR typesL evt0 [112, 114, 105, 99, 101] = (⟨0, -3, []⟩, 0) := by kernel_rfl
theorem ea4 : fieldR typesL evt0 [116, 105, 109, 101] = (⟨0, 5, []⟩, 0) := by kernel_rfl
theorem ea5 : keyR typesL [0, -1] evt0 = (⟨2, 0, [65, 32, 98]⟩, true, 0) := by kernel_rfl
theorem ea6 : evParseR typesL [99, 108, 111, 99, 107, 32, 48, 46, 48, 32, 64, 49, 32, 55] = (zeroE, 13, 4) := by kernel_rfl
theorem ea7 : evParseR typesL [99, 108, 111, 99, 107, 32, 56, 46, 48, 32, 64, 49] = (zeroE, 6, 32) := by kernel_rfl
theorem ea8 : evParseR typesL [116, 114, 97, 100, 101, 32, 48, 46, 48, 32, 64, 49, 32, 116, 114, 117, 101] = (zeroE, 13, 9) := by kernel_rfl
theorem ea9 : evParseR typesL [116, 114, 97, 100, 101, 32, 48, 46, 48, 32, 64, 49] = (zeroE, 12, 4) := by kernel_rfl
attribute [local irreducible] evParseR evFmtR fieldR keyR
theorem pc_awake1 (s : List UInt8) (n x : Int) : PC Tryz.prog 33 [.str s, .i n, .i x] (fun r => r = .bool (((evParseR typesL s).2.1 : Int) == n && (evParseR typesL s).2.2 == x)) := by
  refine PC_body tOk Tryz.func33 rfl Tryz.results33 rfl (by simp [Tryz.ntmps33]) ?_
  rw [Tryz.ntmps33]
  simp only [argSlots]
  repeat (first
    | (refine AWP_seq (AWP_regS tOk rfl ?_); simp)
    | (refine AWP_regS tOk rfl ?_; simp)
    | (refine AWP_skip ?_; simp)
    | (refine AWP_exit ?_; simp)
    | (refine AWP_ret ?_; simp)
    | refine AWP_block ?_
    | refine AWP_seq ?_)
  refine AStep_PC rfl rfl (by simp) (pc_types) rfl ?_
  rintro _ rfl
  simp
  repeat (first
    | (refine AWP_seq (AWP_regS tOk rfl ?_); simp)
    | (refine AWP_regS tOk rfl ?_; simp)
    | (refine AWP_skip ?_; simp)
    | (refine AWP_exit ?_; simp)
    | (refine AWP_ret ?_; simp)
    | refine AWP_block ?_
    | refine AWP_seq ?_)
  refine AStep_PC rfl rfl (by simp) (pc_eParse typesL s) rfl ?_
  rintro _ rfl
  simp
  repeat (first
    | (refine AWP_seq (AWP_regS tOk rfl ?_); simp)
    | (refine AWP_regS tOk rfl ?_; simp)
    | (refine AWP_skip ?_; simp)
    | (refine AWP_exit ?_; simp)
    | (refine AWP_ret ?_; simp)
    | refine AWP_block ?_
    | refine AWP_seq ?_)
set_option maxHeartbeats 2000000 in
theorem pc_awake : PC Tryz.prog 13 [] (fun r => r = .bool true) := by
  refine PC_body tOk Tryz.func13 rfl Tryz.results13 rfl (by simp [Tryz.ntmps13]) ?_
  rw [Tryz.ntmps13]
  simp only [argSlots]
  have r2 : List.range 2 = [0, 1] := rfl
  have p1 := pc_eFormat' typesL evt0
  have p2 := pc_eParse typesL txt0
  have p3 := pc_eField typesL evt0 [112, 114, 105, 99, 101]
  have p4 := pc_eField typesL evt0 [116, 105, 109, 101]
  have p5 := pc_eKey typesL [0, -1] evt0 (by simp)
  have p6 := pc_r4SameEvent evt0 evt0 (by simp [evt0]) (by simp [evt0])
  rw [ea1] at p1
  rw [ea2] at p2
  rw [ea3] at p3
  rw [ea4] at p4
  rw [ea5] at p5
  simp only [evt0, txt0, encE, List.map_cons, List.map_nil] at p1 p2 p3 p4 p5 p6
  repeat (first
    | (refine AWP_seq (AWP_regS tOk rfl ?_); simp [r2])
    | (refine AWP_regS tOk rfl ?_; simp [r2])
    | (refine AWP_skip ?_; simp [r2])
    | (refine AWP_exit ?_; simp [r2])
    | (refine AWP_ret ?_; simp [r2])
    | refine AWP_block ?_
    | refine AWP_seq ?_)
  refine AWP_freeze 0 rfl ?_
  simp
  refine AWP_drawT tOk mixed [] (.val 1 (.one 0 (.one 2 (.val 3 (.val 4 (.val 5 (.val 6 (.val 7 (.done))))))))) rfl (by kernel_rfl) ?_
  simp
  refine AStep_PC rfl rfl (by simp) (pc_types) rfl ?_
  rintro _ rfl
  simp
  refine AStep_PC rfl rfl (by simp) (p1) rfl ?_
  rintro _ rfl
  simp
  repeat (first
    | (refine AWP_seq (AWP_regS tOk rfl ?_); simp)
    | (refine AWP_regS tOk rfl ?_; simp)
    | (refine AWP_skip ?_; simp)
    | (refine AWP_exit ?_; simp)
    | (refine AWP_ret ?_; simp)
    | refine AWP_block ?_
    | refine AWP_seq ?_)
  refine AStep_PC rfl rfl (by simp) (pc_types) rfl ?_
  rintro _ rfl
  simp
  refine AStep_PC rfl rfl (by simp) (p2) rfl ?_
  rintro _ rfl
  simp
  repeat (first
    | (refine AWP_seq (AWP_regS tOk rfl ?_); simp)
    | (refine AWP_regS tOk rfl ?_; simp)
    | (refine AWP_skip ?_; simp)
    | (refine AWP_exit ?_; simp)
    | (refine AWP_ret ?_; simp)
    | refine AWP_block ?_
    | refine AWP_seq ?_)
  refine AWP_drawC tOk mixed [7] (.val 1 (.two 0 (.two 2 (.val 3 (.val 4 (.val 5 (.one 6 (.one 7 (.val 8 (.done))))))) 6 (.one 2 (.val 3 (.val 4 (.val 5 (.one 7 (.val 8 (.done)))))))) 6 (.one 0 (.one 2 (.val 3 (.val 4 (.val 5 (.one 7 (.val 8 (.done)))))))))) (⟨[(0, .bool false), (1, .vptr 1 0), (2, .str txt0), (3, .i 0), (4, .vptr 2 0), (5, .i 0), (6, .i 0), (7, .vptr 3 0), (8, .i 0)], [.dead, .vars [.i 2, .i 17, .i 0, .i 5, .list (evt0.values.map encV)], .vars [.i 2, .i 17, .i 0, .i 5, .list (evt0.values.map encV)], .vars [.i 0, .i (-3), .str []]]⟩) rfl (by kernel_rfl) ?_ ?_
  simp
  · refine ⟨?_, ?_⟩
    · refine AStep_PC rfl rfl (by simp) (pc_types) rfl ?_
      rintro _ rfl
      simp
      refine ⟨?_, ?_⟩
      · refine AStep_PC rfl rfl (by simp) (p3) rfl ?_
        rintro _ rfl
        simp
        exact RenTo_keep (by simp [txt0])
      · refine AStep_PC rfl rfl (by simp) (p3) rfl ?_
        rintro _ rfl
        simp
        exact RenTo_keep (by simp [txt0])
    · refine AStep_PC rfl rfl (by simp) (pc_types) rfl ?_
      rintro _ rfl
      simp
      refine AStep_PC rfl rfl (by simp) (p3) rfl ?_
      rintro _ rfl
      simp
      exact RenTo_keep (by simp [txt0])
  refine AWP_seq ?_
  refine AWP_drawC tOk mixed [7] (.val 1 (.two 0 (.two 2 (.val 3 (.val 4 (.val 5 (.one 6 (.one 7 (.val 8 (.done))))))) 6 (.one 2 (.val 3 (.val 4 (.val 5 (.one 7 (.val 8 (.done)))))))) 6 (.one 0 (.one 2 (.val 3 (.val 4 (.val 5 (.one 7 (.val 8 (.done)))))))))) (⟨[(0, .bool false), (1, .vptr 1 0), (2, .str txt0), (3, .i 0), (4, .vptr 2 0), (5, .i 0), (6, .i 0), (7, .vptr 3 0), (8, .i 0), (9, .vptr 4 0), (10, .i 0)], [.dead, .vars [.i 2, .i 17, .i 0, .i 5, .list (evt0.values.map encV)], .vars [.i 2, .i 17, .i 0, .i 5, .list (evt0.values.map encV)], .vars [.i 0, .i (-3), .str []], .vars [.i 0, .i 5, .str []]]⟩) rfl (by kernel_rfl) ?_ ?_
  simp
  · refine ⟨?_, ?_⟩
    · refine AStep_PC rfl rfl (by simp) (pc_types) rfl ?_
      rintro _ rfl
      simp
      refine ⟨?_, ?_⟩
      · refine AStep_PC rfl rfl (by simp) (p4) rfl ?_
        rintro _ rfl
        simp
        exact RenTo_keep (by simp [txt0])
      · refine AStep_PC rfl rfl (by simp) (p4) rfl ?_
        rintro _ rfl
        simp
        exact RenTo_keep (by simp [txt0])
    · refine AStep_PC rfl rfl (by simp) (pc_types) rfl ?_
      rintro _ rfl
      simp
      refine AStep_PC rfl rfl (by simp) (p4) rfl ?_
      rintro _ rfl
      simp
      exact RenTo_keep (by simp [txt0])
  refine AWP_seq ?_
  refine AWP_drawC tOk mixed [9] (.val 2 (.three 0 (.two 1 (.two 3 (.val 4 (.val 5 (.val 6 (.val 7 (.one 8 (.one 9 (.val 10 (.val 11 (.done))))))))) 8 (.one 3 (.val 4 (.val 5 (.val 6 (.val 7 (.one 9 (.val 10 (.val 11 (.done)))))))))) 8 (.one 1 (.one 3 (.val 4 (.val 5 (.val 6 (.val 7 (.one 9 (.val 10 (.val 11 (.done))))))))))) 1 (.two 0 (.two 3 (.val 4 (.val 5 (.val 6 (.val 7 (.one 8 (.one 9 (.val 10 (.val 11 (.done))))))))) 8 (.one 3 (.val 4 (.val 5 (.val 6 (.val 7 (.one 9 (.val 10 (.val 11 (.done)))))))))) 8 (.one 0 (.one 3 (.val 4 (.val 5 (.val 6 (.val 7 (.one 9 (.val 10 (.val 11 (.done))))))))))) 8 (.two 0 (.one 1 (.one 3 (.val 4 (.val 5 (.val 6 (.val 7 (.one 9 (.val 10 (.val 11 (.done)))))))))) 1 (.one 0 (.one 3 (.val 4 (.val 5 (.val 6 (.val 7 (.one 9 (.val 10 (.val 11 (.done))))))))))))) (⟨[(0, .bool false), (1, .vptr 0 0), (2, .str txt0), (3, .i 0), (4, .vptr 1 0), (5, .i 0), (6, .i 0), (7, .vptr 2 0), (8, .i 0), (9, .vptr 3 0), (10, .i 0), (11, .vptr 4 0), (12, .bool true), (13, .i 0)], [.vars [.i 2, .i 17, .i 0, .i 5, .list (evt0.values.map encV)], .vars [.i 2, .i 17, .i 0, .i 5, .list (evt0.values.map encV)], .vars [.i 0, .i (-3), .str []], .vars [.i 0, .i 5, .str []], .vars [.i 2, .i 0, .str [65, 32, 98]]]⟩) rfl (by kernel_rfl) ?_ ?_
  simp [r2]
  · refine ⟨?_, ?_, ?_⟩
    · refine AStep_PC rfl rfl (by simp) (pc_types) rfl ?_
      rintro _ rfl
      simp
      refine ⟨?_, ?_⟩
      · refine ⟨?_, ?_⟩
        · refine AStep_freeze 5 rfl ?_
          simp
          refine AStep_PC rfl rfl (by simp) (p5) rfl ?_
          rintro _ rfl
          simp
          exact RenTo_ren [1, 2, 3, 4, 6] (by simp) (by decide) (by simp) rfl (by simp) (by simp) (by simp [txt0])
        · refine AStep_freeze 5 rfl ?_
          simp
          refine AStep_PC rfl rfl (by simp) (p5) rfl ?_
          rintro _ rfl
          simp
          exact RenTo_ren [1, 2, 3, 4, 6] (by simp) (by decide) (by simp) rfl (by simp) (by simp) (by simp [txt0])
      · refine AStep_freeze 6 rfl ?_
        simp
        refine AStep_PC rfl rfl (by simp) (p5) rfl ?_
        rintro _ rfl
        simp
        exact RenTo_ren [1, 2, 3, 4, 5] (by simp) (by decide) (by simp) rfl (by simp) (by simp) (by simp [txt0])
    · refine ⟨?_, ?_⟩
      · refine AStep_PC rfl rfl (by simp) (pc_types) rfl ?_
        rintro _ rfl
        simp
        refine ⟨?_, ?_⟩
        · refine AStep_freeze 5 rfl ?_
          simp
          refine AStep_PC rfl rfl (by simp) (p5) rfl ?_
          rintro _ rfl
          simp
          exact RenTo_ren [1, 2, 3, 4, 6] (by simp) (by decide) (by simp) rfl (by simp) (by simp) (by simp [txt0])
        · refine AStep_freeze 5 rfl ?_
          simp
          refine AStep_PC rfl rfl (by simp) (p5) rfl ?_
          rintro _ rfl
          simp
          exact RenTo_ren [1, 2, 3, 4, 6] (by simp) (by decide) (by simp) rfl (by simp) (by simp) (by simp [txt0])
      · refine AStep_PC rfl rfl (by simp) (pc_types) rfl ?_
        rintro _ rfl
        simp
        refine AStep_freeze 5 rfl ?_
        simp
        refine AStep_PC rfl rfl (by simp) (p5) rfl ?_
        rintro _ rfl
        simp
        exact RenTo_ren [1, 2, 3, 4, 6] (by simp) (by decide) (by simp) rfl (by simp) (by simp) (by simp [txt0])
    · refine ⟨?_, ?_⟩
      · refine AStep_PC rfl rfl (by simp) (pc_types) rfl ?_
        rintro _ rfl
        simp
        refine AStep_freeze 6 rfl ?_
        simp
        refine AStep_PC rfl rfl (by simp) (p5) rfl ?_
        rintro _ rfl
        simp
        exact RenTo_ren [1, 2, 3, 4, 5] (by simp) (by decide) (by simp) rfl (by simp) (by simp) (by simp [txt0])
      · refine AStep_PC rfl rfl (by simp) (pc_types) rfl ?_
        rintro _ rfl
        simp
        refine AStep_freeze 6 rfl ?_
        simp
        refine AStep_PC rfl rfl (by simp) (p5) rfl ?_
        rintro _ rfl
        simp
        exact RenTo_ren [1, 2, 3, 4, 5] (by simp) (by decide) (by simp) rfl (by simp) (by simp) (by simp [txt0])
  have q1 := pc_awake1 [99, 108, 111, 99, 107, 32, 48, 46, 48, 32, 64, 49, 32, 55] 13 4
  have q2 := pc_awake1 [99, 108, 111, 99, 107, 32, 56, 46, 48, 32, 64, 49] 6 32
  have q3 := pc_awake1 [116, 114, 97, 100, 101, 32, 48, 46, 48, 32, 64, 49, 32, 116, 114, 117, 101] 13 9
  have q4 := pc_awake1 [116, 114, 97, 100, 101, 32, 48, 46, 48, 32, 64, 49] 12 4
  rw [ea6] at q1
  rw [ea7] at q2
  rw [ea8] at q3
  rw [ea9] at q4
  simp only [evt0, txt0, List.map_cons, List.map_nil]
  repeat (first
    | (refine AWP_seq (AWP_regS tOk rfl ?_); simp)
    | (refine AWP_regS tOk rfl ?_; simp)
    | (refine AWP_skip ?_; simp)
    | (refine AWP_exit ?_; simp)
    | (refine AWP_ret ?_; simp)
    | refine AWP_block ?_
    | refine AWP_seq ?_)
  refine AStep_PC rfl rfl (by simp) (p6) rfl ?_
  rintro _ rfl
  simp
  repeat (first
    | (refine AWP_seq (AWP_regS tOk rfl ?_); simp)
    | (refine AWP_regS tOk rfl ?_; simp)
    | (refine AWP_skip ?_; simp)
    | (refine AWP_exit ?_; simp)
    | (refine AWP_ret ?_; simp)
    | refine AWP_block ?_
    | refine AWP_seq ?_)
  refine AStep_PC rfl rfl (by simp) (q1) rfl ?_
  rintro _ rfl
  simp
  refine AStep_PC rfl rfl (by simp) (q2) rfl ?_
  rintro _ rfl
  simp
  refine AStep_PC rfl rfl (by simp) (q3) rfl ?_
  rintro _ rfl
  simp
  refine AStep_PC rfl rfl (by simp) (q4) rfl ?_
  rintro _ rfl
  simp
  repeat (first
    | (refine AWP_seq (AWP_regS tOk rfl ?_); simp)
    | (refine AWP_regS tOk rfl ?_; simp)
    | (refine AWP_skip ?_; simp)
    | (refine AWP_exit ?_; simp)
    | (refine AWP_ret ?_; simp)
    | refine AWP_block ?_
    | refine AWP_seq ?_)
  rfl
end Go.Abs
/-
  DERIVED: THE SHELF's CONTRACTS AT THIS DUMP, IN PLAIN WORDS (tools/lay-plain.mjs out of 'TryzShelf.lean', which tools/lay-shelf.mjs wrote): THE SAME DECLARATIONS UNDER THE SAME NAMES: 'import', 'namespace', 'open', 'def', 'theorem' AND NOTHING ELSE: no command of the shelf's: FOR A HAND-IN. Each laying: the table of numbers ('.._ren') and one theorem, a field a fact of the dump's own or the kernel's comparison; each contract: ONE APPLICATION.
-/
namespace Go.Proofs
open Go.Shelf
def Tryz.lays138_ren : Go.Shelf.Ren := ⟨fun | 138 => 55 | 195 => 83 | 218 => 84 | 143 => 57 | 219 => 87 | 217 => 115 | 225 => 116 | 224 => 117 | 267 => 118 | 266 => 137 | 314 => 138 | n => n, fun | 9 => 9 | 3 => 3 | 4 => 4 | 5 => 5 | 0 => 0 | 46 => 146 | 146 => 172 | 51 => 171 | n => n, fun | 1 => 0 | n => n⟩
theorem Tryz.lays138 : Go.Proofs.Lays.n138 Tryz.prog Tryz.lays138_ren := {
  mixed := by kernel_rfl
  f138 := Tryz.func55.trans (congrArg some (by kernel_rfl))
  f143 := Tryz.func57.trans (congrArg some (by kernel_rfl))
  f195 := Tryz.func83.trans (congrArg some (by kernel_rfl))
  f217 := Tryz.func115.trans (congrArg some (by kernel_rfl))
  f218 := Tryz.func84.trans (congrArg some (by kernel_rfl))
  f219 := Tryz.func87.trans (congrArg some (by kernel_rfl))
  f224 := Tryz.func117.trans (congrArg some (by kernel_rfl))
  f225 := Tryz.func116.trans (congrArg some (by kernel_rfl))
  f266 := Tryz.func137.trans (congrArg some (by kernel_rfl))
  f267 := Tryz.func118.trans (congrArg some (by kernel_rfl))
  f314 := Tryz.func138.trans (congrArg some (by kernel_rfl))
  t0 := Tryz.underlying0
  a0 := Tryz.isAgg0
  z0 := Tryz.sizeOf0
  v0 := Tryz.zeroValue0
  t3 := Tryz.underlying3
  a3 := Tryz.isAgg3
  z3 := Tryz.sizeOf3
  v3 := Tryz.zeroValue3
  t4 := Tryz.underlying4
  a4 := Tryz.isAgg4
  z4 := Tryz.sizeOf4
  v4 := Tryz.zeroValue4
  t5 := Tryz.underlying5
  a5 := Tryz.isAgg5
  z5 := Tryz.sizeOf5
  v5 := Tryz.zeroValue5
  t9 := Tryz.underlying9
  a9 := Tryz.isAgg9
  z9 := Tryz.sizeOf9
  v9 := Tryz.zeroValue9
  t46 := Tryz.underlying146
  a46 := Tryz.isAgg146
  z46 := Tryz.sizeOf146
  v46 := Tryz.zeroValue146
  t51 := Tryz.underlying171
  a51 := Tryz.isAgg171
  z51 := Tryz.sizeOf171
  v51 := Tryz.zeroValue171
  t146 := Tryz.underlying172
  a146 := Tryz.isAgg172
  z146 := Tryz.sizeOf172
  v146 := Tryz.zeroValue172
  g1 := by kernel_rfl }
open Go.RowKit Go.Lib in
/-- strings.Count AT A substr OF ONE BYTE ('hp'): "Count counts the number of non-overlapping instances of substr in s.": IT RETURNS 'Lib.countByte s (that byte)'; the world is as it was. ✋ NO CONTRACT HERE YET at an empty substr (utf8.RuneCountInString) or at a longer one (a loop over strings.Index). (LAID: no walk: one application.) -/
theorem Tryz.strings_Count_one (s : ByteArray) (c : UInt8) (w : World) :
    Calls Tryz.prog 55 #[.string s, .string ⟨#[c]⟩] w fun e w' => e = .returned (.int .i64 (Lib.countByte s.data.toList c)) ∧ w' = w := Any.strings_Count_one Tryz.lays138 s c w
end Go.Proofs
set_option maxRecDepth 100000
namespace Go.Abs
open Go Go.Proofs Go.RowKit
set_option linter.unusedSimpArgs false
theorem callable_Count : Callable Tryz.prog 55 := callable Tryz.func55 rfl (by kernel_rfl)
theorem pc_Count1 (s : List UInt8) (c : UInt8) : PC Tryz.prog 55 [.str s, .str [c]] (fun r => r = .i (Lib.countByte s c)) :=
  PC_ext (us := [.string ⟨s.toArray⟩, .string ⟨#[c]⟩]) callable_Count rfl fun w I _ =>
    (Tryz.strings_Count_one ⟨s.toArray⟩ c w).mono fun e w' ⟨h, hw⟩ => ⟨⟨_, _, rfl, h, .int _ _⟩, by rw [hw]; exact Below.refl _ _⟩
theorem index_at (A X : List UInt8) (c : UInt8) (h : c ∉ A) : Lib.index (A ++ c :: X) [c] = A.length := by
  rw [Lib.index_one]
  induction A with
  | nil => simp [Lib.indexByte]
  | cons a r ih =>
    have ha : ¬ (a == c) = true := by simp; intro e; exact h (by simp [e])
    rw [List.cons_append, Lib.indexByte, if_neg ha, ih (fun hm => h (by simp [hm]))]
    have : (((r.length : Int)) == -1) = false := beq_eq_false_iff_ne.2 (by omega)
    simp
def replQ (A B C n : List UInt8) : List UInt8 := A ++ n ++ B ++ n ++ C
set_option maxHeartbeats 4000000 in
/-- The first two of the spaces of a text, each three times. -/
theorem pc_Replace2 (A B C : List UInt8) (hA : (32 : UInt8) ∉ A) (hB : (32 : UInt8) ∉ B) (hl : A.length + B.length + C.length ≤ 100000) (hc : 2 ≤ Lib.countByte (A ++ 32 :: (B ++ 32 :: C)) 32) :
    PC Tryz.prog 30 [.str (A ++ 32 :: (B ++ 32 :: C)), .str [32], .str [32, 32, 32], .i 2] (fun r => r = .str (A ++ [32, 32, 32] ++ B ++ [32, 32, 32] ++ C)) := by
  refine PC_body tOk Tryz.func30 rfl Tryz.results30 rfl (by simp [Tryz.ntmps30]) ?_
  rw [Tryz.ntmps30]
  simp only [argSlots]
  obtain ⟨s, hs⟩ : ∃ s, A ++ 32 :: (B ++ 32 :: C) = s := ⟨_, rfl⟩
  have i1 := index_at A (B ++ 32 :: C) 32 hA
  have i2 := index_at B C 32 hB
  have hsl : s.length = A.length + B.length + C.length + 2 := by rw [← hs]; simp; omega
  have d1 : s.drop (A.length + 1) = B ++ 32 :: C := by rw [← hs, List.drop_append, List.drop_of_length_le (by omega)]; simp
  have d2 : s.drop (A.length + 1 + (B.length + 1)) = C := by rw [← List.drop_drop, d1, List.drop_append, List.drop_of_length_le (by omega)]; simp
  have t1 : s.take A.length = A := by rw [← hs]; simp
  have t2 : (s.take (A.length + 1 + B.length)).drop (A.length + 1) = B := by rw [List.drop_take, d1, Nat.add_sub_cancel_left]; simp
  rw [hs] at hc i1 ⊢
  have c1 : ((Lib.countByte s 32 : Int) == 0) = false := beq_eq_false_iff_ne.2 (by omega)
  have c2 : ¬ (Lib.countByte s 32 : Int) < 2 := by omega
  have w1 : IntKind.i64.wrap 2 = 2 := rfl
  have w2 : IntKind.i64.wrap 4 = 4 := rfl
  have w3 : IntKind.i64.wrap ((s.length : Int) + 4) = (s.length + 4 : Nat) := by rw [wrap_i64 _ (by omega) (by omega)]; simp
  have w0 : IntKind.i64.wrap 0 = 0 := rfl
  have w11 : IntKind.i64.wrap 1 = 1 := rfl
  repeat (first
    | (refine AWP_seq (AWP_regS tOk rfl ?_); simp)
    | (refine AWP_regS tOk rfl ?_; simp)
    | (refine AWP_skip ?_; simp)
    | (refine AWP_exit ?_; simp)
    | (refine AWP_ret ?_; simp)
    | refine AWP_block ?_
    | refine AWP_seq ?_)
  refine AWP_cond rfl ?_
  repeat (first
    | (refine AWP_seq (AWP_regS tOk rfl ?_); simp)
    | (refine AWP_regS tOk rfl ?_; simp)
    | (refine AWP_skip ?_; simp)
    | (refine AWP_exit ?_; simp)
    | (refine AWP_ret ?_; simp)
    | refine AWP_block ?_
    | refine AWP_seq ?_)
  refine AStep_PC rfl rfl (by simp) (pc_Count1 s 32) rfl ?_
  rintro _ rfl
  simp
  repeat (first
    | (refine AWP_seq (AWP_regS tOk rfl ?_); simp [c1])
    | (refine AWP_regS tOk rfl ?_; simp [c1])
    | (refine AWP_skip ?_; simp [c1])
    | (refine AWP_exit ?_; simp [c1])
    | (refine AWP_ret ?_; simp [c1])
    | refine AWP_block ?_
    | refine AWP_seq ?_)
  refine AWP_cond rfl ?_
  repeat (first
    | (refine AWP_seq (AWP_regS tOk rfl ?_); simp [c2])
    | (refine AWP_regS tOk rfl ?_; simp [c2])
    | (refine AWP_skip ?_; simp [c2])
    | (refine AWP_exit ?_; simp [c2])
    | (refine AWP_ret ?_; simp [c2])
    | refine AWP_block ?_
    | refine AWP_seq ?_)
  refine AWP_cond rfl ?_
  refine AWP_skip ?_
  simp
  refine AWP_seq (AWP_reg1 (AStep_allocT tOk rfl rfl T104 rfl ?_))
  simp
  refine AWP_seq (AWP_regS tOk rfl ?_)
  simp [w1, w2, w3]
  refine AStep_FC rfl rfl (fc_bGrow (s.length + 4) (by omega) (by omega)) rfl ?_
  rintro _ _ ⟨rfl, rfl⟩
  simp
  repeat (first
    | (refine AWP_seq (AWP_regS tOk rfl ?_); simp)
    | (refine AWP_regS tOk rfl ?_; simp)
    | (refine AWP_skip ?_; simp)
    | (refine AWP_exit ?_; simp)
    | (refine AWP_ret ?_; simp)
    | refine AWP_block ?_
    | refine AWP_seq ?_)
  refine AWP_cond rfl ?_
  repeat (first
    | (refine AWP_seq (AWP_regS tOk rfl ?_); simp)
    | (refine AWP_regS tOk rfl ?_; simp)
    | (refine AWP_skip ?_; simp)
    | (refine AWP_exit ?_; simp)
    | (refine AWP_ret ?_; simp)
    | refine AWP_block ?_
    | refine AWP_seq ?_)
  refine AWP_keep (sl' := [(0, .str s), (1, .str [32]), (2, .str [32, 32, 32]), (10, .vptr 0 0), (11, .i 0), (52, .i 2), (53, .i 0)]) ?_ (by simp)
  refine AWP_loop (ALoop_round ?_)
  repeat (first
    | (refine AWP_seq (AWP_regS tOk rfl ?_); simp)
    | (refine AWP_regS tOk rfl ?_; simp)
    | (refine AWP_skip ?_; simp)
    | (refine AWP_exit ?_; simp)
    | (refine AWP_ret ?_; simp)
    | refine AWP_block ?_
    | refine AWP_seq ?_)
  refine AWP_cond rfl ?_
  repeat (first
    | (refine AWP_seq (AWP_regS tOk rfl ?_); simp)
    | (refine AWP_regS tOk rfl ?_; simp)
    | (refine AWP_skip ?_; simp)
    | (refine AWP_exit ?_; simp)
    | (refine AWP_ret ?_; simp)
    | refine AWP_block ?_
    | refine AWP_seq ?_)
  have hA1 : A.length ≤ s.length := by omega
  have hA2 : (A.length : Int) ≤ s.length := by omega
  have wA : IntKind.i64.wrap (A.length : Int) = A.length := wrap_i64 _ (by omega) (by omega)
  have wA1 : IntKind.i64.wrap ((A.length : Int) + 1) = (A.length + 1 : Nat) := by rw [wrap_i64 _ (by omega) (by omega)]; simp
  refine AStep_PC rfl rfl (by simp) (pc_Index s [32] (by omega)) rfl ?_
  rintro _ rfl
  simp [i1, wA]
  repeat (first
    | (refine AWP_seq (AWP_regS tOk rfl ?_); simp [hA1, hA2, t1])
    | (refine AWP_regS tOk rfl ?_; simp [hA1, hA2, t1])
    | (refine AWP_skip ?_; simp [hA1, hA2, t1])
    | (refine AWP_exit ?_; simp [hA1, hA2, t1])
    | (refine AWP_ret ?_; simp [hA1, hA2, t1])
    | refine AWP_block ?_
    | refine AWP_seq ?_)
  refine AStep_FC rfl rfl (fc_WriteString (.vptr 0 0) (.inr rfl) [] A (by simp) (by omega)) rfl ?_
  rintro _ _ ⟨rfl, rfl⟩
  simp
  refine AWP_ren [0, 1, 3] (sl' := [(0, .str s), (1, .str [32]), (2, .str [32, 32, 32]), (10, .vptr 0 0), (11, .i 0), (12, .i A.length), (52, .i 2), (53, .i 0)]) (H' := bld (.vptr 0 0) A) ?_ (by simp [bld]) (by decide) (by simp) rfl (by simp [bld]) (by simp [bld]) (by simp)
  repeat (first
    | (refine AWP_seq (AWP_regS tOk rfl ?_); simp)
    | (refine AWP_regS tOk rfl ?_; simp)
    | (refine AWP_skip ?_; simp)
    | (refine AWP_exit ?_; simp)
    | (refine AWP_ret ?_; simp)
    | refine AWP_block ?_
    | refine AWP_seq ?_)
  refine AStep_FC rfl rfl (fc_WriteString (.vptr 0 0) (.inr rfl) A [32, 32, 32] (by omega) (by simp)) rfl ?_
  rintro _ _ ⟨rfl, rfl⟩
  simp
  repeat (first
    | (refine AWP_seq (AWP_regS tOk rfl ?_); simp [wA1, w11])
    | (refine AWP_regS tOk rfl ?_; simp [wA1, w11])
    | (refine AWP_skip ?_; simp [wA1, w11])
    | (refine AWP_exit ?_; simp [wA1, w11])
    | (refine AWP_ret ?_; simp [wA1, w11])
    | refine AWP_block ?_
    | refine AWP_seq ?_)
  refine ALoop_ren [0, 1, 3] (sl' := [(0, .str s), (1, .str [32]), (2, .str [32, 32, 32]), (10, .vptr 0 0), (11, .i (A.length + 1 : Nat)), (52, .i 2), (53, .i 1)]) (H' := bld (.vptr 0 0) (A ++ [32, 32, 32])) ?_ (by simp [bld]) (by decide) (by simp) rfl (by simp [bld]) (by simp [bld]) (by simp)
  have hl1 : (A ++ [32, 32, 32]).length ≤ 200000 := by simp; omega
  generalize hP1 : A ++ [32, 32, 32] = P1 at *
  have hB1 : (A.length : Int) + 1 ≤ s.length := by omega
  have hB2 : (A.length : Int) + 1 + B.length ≤ s.length := by omega
  have hB3 : ((A.length : Int) + 1).toNat = A.length + 1 := by omega
  have hB4 : ((A.length : Int) + 1 + B.length).toNat = A.length + 1 + B.length := by omega
  have hB5 : (0 : Int) ≤ (A.length : Int) + 1 := by omega
  have hB6 : (0 : Int) ≤ (A.length : Int) + 1 + B.length := by omega
  have hB7 : (A.length : Int) + 1 ≤ (A.length : Int) + 1 + B.length := by omega
  have hB8 : A.length + 1 + B.length ≤ s.length := by omega
  have hB9 : A.length + 1 ≤ s.length := by omega
  have wB : IntKind.i64.wrap ((A.length : Int) + 1 + B.length) = (A.length : Int) + 1 + B.length := wrap_i64 _ (by omega) (by omega)
  have wB1 : IntKind.i64.wrap ((A.length : Int) + 1 + B.length + 1) = (A.length : Int) + 1 + B.length + 1 := wrap_i64 _ (by omega) (by omega)
  refine ALoop_round ?_
  repeat (first
    | (refine AWP_seq (AWP_regS tOk rfl ?_); simp)
    | (refine AWP_regS tOk rfl ?_; simp)
    | (refine AWP_skip ?_; simp)
    | (refine AWP_exit ?_; simp)
    | (refine AWP_ret ?_; simp)
    | refine AWP_block ?_
    | refine AWP_seq ?_)
  refine AWP_cond rfl ?_
  repeat (first
    | (refine AWP_seq (AWP_regS tOk rfl ?_); simp [hB1, hB2, hB3, hB5, hB9, d1])
    | (refine AWP_regS tOk rfl ?_; simp [hB1, hB2, hB3, hB5, hB9, d1])
    | (refine AWP_skip ?_; simp [hB1, hB2, hB3, hB5, hB9, d1])
    | (refine AWP_exit ?_; simp [hB1, hB2, hB3, hB5, hB9, d1])
    | (refine AWP_ret ?_; simp [hB1, hB2, hB3, hB5, hB9, d1])
    | refine AWP_block ?_
    | refine AWP_seq ?_)
  refine AStep_PC rfl rfl (by simp) (pc_Index (B ++ 32 :: C) [32] (by simp; omega)) rfl ?_
  rintro _ rfl
  simp [i2, wB]
  repeat (first
    | (refine AWP_seq (AWP_regS tOk rfl ?_); simp [hB1, hB2, hB3, hB4, hB5, hB6, hB7, hB8, hB9, t2])
    | (refine AWP_regS tOk rfl ?_; simp [hB1, hB2, hB3, hB4, hB5, hB6, hB7, hB8, hB9, t2])
    | (refine AWP_skip ?_; simp [hB1, hB2, hB3, hB4, hB5, hB6, hB7, hB8, hB9, t2])
    | (refine AWP_exit ?_; simp [hB1, hB2, hB3, hB4, hB5, hB6, hB7, hB8, hB9, t2])
    | (refine AWP_ret ?_; simp [hB1, hB2, hB3, hB4, hB5, hB6, hB7, hB8, hB9, t2])
    | refine AWP_block ?_
    | refine AWP_seq ?_)
  refine AStep_FC rfl rfl (fc_WriteString (.vptr 0 0) (.inr rfl) P1 B (by omega) (by omega)) rfl ?_
  rintro _ _ ⟨rfl, rfl⟩
  simp
  refine AWP_ren [0, 1, 3] (sl' := [(0, .str s), (1, .str [32]), (2, .str [32, 32, 32]), (10, .vptr 0 0), (12, .i (A.length + 1 + B.length : Nat)), (52, .i 2), (53, .i 1)]) (H' := bld (.vptr 0 0) (P1 ++ B)) ?_ (by simp [bld]) (by decide) (by simp) rfl (by simp [bld]) (by simp [bld]) (by simp)
  repeat (first
    | (refine AWP_seq (AWP_regS tOk rfl ?_); simp)
    | (refine AWP_regS tOk rfl ?_; simp)
    | (refine AWP_skip ?_; simp)
    | (refine AWP_exit ?_; simp)
    | (refine AWP_ret ?_; simp)
    | refine AWP_block ?_
    | refine AWP_seq ?_)
  refine AStep_FC rfl rfl (fc_WriteString (.vptr 0 0) (.inr rfl) (P1 ++ B) [32, 32, 32] (by simp; omega) (by simp)) rfl ?_
  rintro _ _ ⟨rfl, rfl⟩
  simp
  repeat (first
    | (refine AWP_seq (AWP_regS tOk rfl ?_); simp [wB1, w1])
    | (refine AWP_regS tOk rfl ?_; simp [wB1, w1])
    | (refine AWP_skip ?_; simp [wB1, w1])
    | (refine AWP_exit ?_; simp [wB1, w1])
    | (refine AWP_ret ?_; simp [wB1, w1])
    | refine AWP_block ?_
    | refine AWP_seq ?_)
  refine ALoop_ren [0, 1, 3] (sl' := [(0, .str s), (1, .str [32]), (2, .str [32, 32, 32]), (10, .vptr 0 0), (11, .i (A.length + 1 + (B.length + 1) : Nat)), (52, .i 2), (53, .i 2)]) (H' := bld (.vptr 0 0) (P1 ++ B ++ [32, 32, 32])) ?_ (by simp [bld]) (by decide) (by simp) rfl (by simp [bld]) (by simp [bld]) (by simp; omega)
  have hl2 : (P1 ++ B ++ [32, 32, 32]).length ≤ 400000 := by simp; omega
  generalize hP2 : P1 ++ B ++ [32, 32, 32] = P2 at *
  have hC1 : (A.length : Int) + 1 + (B.length + 1) ≤ s.length := by omega
  have hC3 : ((A.length : Int) + 1 + (B.length + 1)).toNat = A.length + 1 + (B.length + 1) := by omega
  have hC5 : (0 : Int) ≤ (A.length : Int) + 1 + (B.length + 1) := by omega
  have hC9 : A.length + 1 + (B.length + 1) ≤ s.length := by omega
  refine ALoop_round ?_
  repeat (first
    | (refine AWP_seq (AWP_regS tOk rfl ?_); simp)
    | (refine AWP_regS tOk rfl ?_; simp)
    | (refine AWP_skip ?_; simp)
    | (refine AWP_exit ?_; simp)
    | (refine AWP_ret ?_; simp)
    | refine AWP_block ?_
    | refine AWP_seq ?_)
  refine AWP_cond rfl ?_
  repeat (first
    | (refine AWP_seq (AWP_regS tOk rfl ?_); simp [hC1, hC3, hC5, hC9, d2])
    | (refine AWP_regS tOk rfl ?_; simp [hC1, hC3, hC5, hC9, d2])
    | (refine AWP_skip ?_; simp [hC1, hC3, hC5, hC9, d2])
    | (refine AWP_exit ?_; simp [hC1, hC3, hC5, hC9, d2])
    | (refine AWP_ret ?_; simp [hC1, hC3, hC5, hC9, d2])
    | refine AWP_block ?_
    | refine AWP_seq ?_)
  refine AStep_FC rfl rfl (fc_WriteString (.vptr 0 0) (.inr rfl) P2 C (by omega) (by omega)) rfl ?_
  rintro _ _ ⟨rfl, rfl⟩
  simp
  refine AWP_ren [0, 1, 3] (sl' := [(10, .vptr 0 0)]) (H' := bld (.vptr 0 0) (P2 ++ C)) ?_ (by simp [bld]) (by decide) (by simp) rfl (by simp [bld]) (by simp [bld]) (by simp)
  repeat (first
    | (refine AWP_seq (AWP_regS tOk rfl ?_); simp)
    | (refine AWP_regS tOk rfl ?_; simp)
    | (refine AWP_skip ?_; simp)
    | (refine AWP_exit ?_; simp)
    | (refine AWP_ret ?_; simp)
    | refine AWP_block ?_
    | refine AWP_seq ?_)
  refine AStep_FC rfl rfl (FC_bString (P2 ++ C) (by rw [← hP2]; simp) (by simp; omega)) rfl ?_
  rintro _ H' rfl
  simp
  repeat (first
    | (refine AWP_seq (AWP_regS tOk rfl ?_); simp)
    | (refine AWP_regS tOk rfl ?_; simp)
    | (refine AWP_skip ?_; simp)
    | (refine AWP_exit ?_; simp)
    | (refine AWP_ret ?_; simp)
    | refine AWP_block ?_
    | refine AWP_seq ?_)
  rw [← hP2, ← hP1]
  simp
end Go.Abs
set_option maxRecDepth 100000
namespace Go.Abs
open Go Go.Proofs
set_option linter.unusedSimpArgs false
def schOk (l : List Sch) : Prop := l.length ≤ 9000000000000000000 ∧ ∀ s ∈ l, s.fields.length ≤ 9000000000000000000 ∧ s.name.length ≤ 9000000000000000000
def evOk (e : Ev) : Prop := e.values.length ≤ 9000000000000000000
theorem fewV_len {l : List Val} (h : fewV l = true) : l.length ≤ 1000000 := by
  unfold fewV at h
  simp at h
  omega

theorem parse_vlen (l : List Sch) (s : List UInt8) : (evParseR l s).1.values.length ≤ 1000000 := by
  by_cases h : (evParseR l s).2.2 = 0
  · obtain ⟨_, _, h1, h2, _⟩ := ev_ok (parse_ok h).2
    omega
  · rw [(parse_bad h).1]; simp [zeroE]
theorem tail_lay : ∀ (r : List (List UInt8)) (m : Nat), lay (r.map fun w => (1, w)) m = Lib.joinTail [32] r ++ List.replicate m 32
  | [], m => by simp [lay, Lib.joinTail]
  | w :: r, m => by
    have ih := tail_lay r m
    simp only [List.map_cons, lay, ih]
    simp [Lib.joinTail, List.replicate]
theorem parts_wok {l : List Sch} {e : Ev} (h : ckEv l e = 0) : ∀ w ∈ partsR l e, wok w := by
  obtain ⟨h0, ⟨k, hk, hkl, hfs⟩, hlv, hl8, hnum, hvals⟩ := ev_ok h
  have hn := nums_ok hnum
  have hvok := vals_ok _ _ hvals hlv
  have hgd : (l.getD e.type.toNat default).name = l[k].name := by rw [hk, List.getD_eq_getElem?_getD]; simp [hkl]
  have hnm := ckSch_name (ckSchs_all h0 _ (List.getElem_mem hkl))
  intro w hw
  unfold partsR at hw
  rw [hgd] at hw
  simp only [List.mem_append, List.mem_cons, List.mem_map, List.not_mem_nil, or_false] at hw
  rcases hw with (rfl | rfl | rfl) | ⟨v, hv, rfl⟩
  · exact name_wok hnm
  · exact ident_wok _ _ hn.1 hn.2.2.1
  · exact mom_wok _ hn.2.2.2.2.1
  · rw [formatR_ok (hvok v hv)]; exact fmt_wok v
theorem parts_len {l : List Sch} {e : Ev} (h : ckEv l e = 0) : (∀ w ∈ partsR l e, w.length ≤ 1000) ∧ (partsR l e).length ≤ 11 := by
  obtain ⟨h0, ⟨k, hk, hkl, hfs⟩, hlv, hl8, hnum, hvals⟩ := ev_ok h
  have hn := nums_ok hnum
  have hvok := vals_ok _ _ hvals hlv
  have hgd : (l.getD e.type.toNat default).name = l[k].name := by rw [hk, List.getD_eq_getElem?_getD]; simp [hkl]
  have hnm := name_len (ckSch_name (ckSchs_all h0 _ (List.getElem_mem hkl)))
  have hi1 := Lib.itoa_length_le e.source (by omega) (by omega)
  have hi2 := Lib.itoa_length_le e.seq (by omega) (by omega)
  have hi3 := Lib.itoa_length_le e.time (by omega) (by omega)
  unfold partsR
  rw [hgd]
  refine ⟨fun w hw => ?_, by simp; omega⟩
  simp only [List.mem_append, List.mem_cons, List.mem_map, List.not_mem_nil, or_false] at hw
  rcases hw with (rfl | rfl | rfl) | ⟨v, hv, rfl⟩
  · omega
  · simp; omega
  · simp; omega
  · exact (fmt_len' (hvok v hv)).1
theorem words_join {l : List Sch} {e : Ev} (h : ckEv l e = 0) : (wordsE 0 (Lib.join (partsR l e) [32])).map Prod.snd = partsR l e := by
  have hw := parts_wok h
  obtain ⟨a, t, hp⟩ : ∃ a t, partsR l e = a :: t := ⟨_, _, rfl⟩
  rw [hp] at hw ⊢
  have hl : Lib.join (a :: t) [32] = lay ((0, a) :: t.map fun w => (1, w)) 0 := by
    rw [lay, tail_lay, Lib.join_cons]; simp
  rw [hl, words_lay _ _ _ (fun p hp => ?_) (fun p hp => ?_)]
  · simp [Function.comp_def]
  · simp only [List.mem_cons, List.mem_map] at hp
    rcases hp with rfl | ⟨w, hw', rfl⟩
    · exact hw a (by simp)
    · exact hw w (by simp [hw'])
  · simp only [List.tail_cons, List.mem_map] at hp
    obtain ⟨w, _, rfl⟩ := hp
    exact Nat.le_refl _
theorem join_short {l : List Sch} {e : Ev} (h : ckEv l e = 0) : (Lib.join (partsR l e) [32]).length ≤ 30000 := by
  obtain ⟨h1, h2⟩ := parts_len h
  obtain ⟨a, t, hp⟩ : ∃ a t, partsR l e = a :: t := ⟨_, _, rfl⟩
  rw [hp] at h1 h2 ⊢
  have := join_len a t [32] (by simp) (h1 a (by simp)) (fun z hz => h1 z (by simp [hz])) t.length
  rw [List.take_length] at this
  simp at h2
  omega
theorem parse_format_ev {l : List Sch} {e : Ev} (h : ckEv l e = 0) : evParseR l (Lib.join (partsR l e) [32]) = (e, 0, 0) :=
  parse_words l e h _ (by have := join_short h; omega) (words_join h)
/-- The text of an event with further spaces. -/
theorem spaced {l : List Sch} {e : Ev} (h : ckEv l e = 0) : ∃ A B C : List UInt8, Lib.join (partsR l e) [32] = A ++ 32 :: (B ++ 32 :: C) ∧ (32 : UInt8) ∉ A ∧ (32 : UInt8) ∉ B ∧ A.length + B.length + C.length ≤ 30000 ∧
    evParseR l ([32, 32] ++ (A ++ [32, 32, 32] ++ B ++ [32, 32, 32] ++ C) ++ [32, 32]) = (e, 0, 0) := by
  have hw := parts_wok h
  have hsh := join_short h
  obtain ⟨h0, ⟨k, hk, hkl, hfs⟩, hlv, hl8, hnum, hvals⟩ := ev_ok h
  have hn := nums_ok hnum
  have hgd : (l.getD e.type.toNat default).name = l[k].name := by rw [hk, List.getD_eq_getElem?_getD]; simp [hkl]
  have hnm := ckSch_name (ckSchs_all h0 _ (List.getElem_mem hkl))
  obtain ⟨A, hA⟩ : ∃ A, l[k].name = A := ⟨_, rfl⟩
  obtain ⟨B, hB⟩ : ∃ B, Lib.itoa e.source ++ ([46] ++ Lib.itoa e.seq) = B := ⟨_, rfl⟩
  obtain ⟨M, hM⟩ : ∃ M, 64 :: Lib.itoa e.time = M := ⟨_, rfl⟩
  obtain ⟨V, hV⟩ : ∃ V, e.values.map (fun v => (formatR v).1) = V := ⟨_, rfl⟩
  have hp : partsR l e = A :: B :: M :: V := by unfold partsR; rw [hgd, hA, hB, hM, hV]; rfl
  rw [hp] at hw hsh ⊢
  have hA32 : (32 : UInt8) ∉ A := by
    rw [← hA]
    intro hm
    cases hn2 : l[k].name with
    | nil => rw [hn2] at hm; cases hm
    | cons c r =>
      rw [hn2] at hm hnm
      rw [nameR, Bool.and_eq_true] at hnm
      exact (okC_ne (List.all_eq_true.1 hnm.2 _ hm)).1 rfl
  have hB32 : (32 : UInt8) ∉ B := by
    obtain ⟨u, hu, e1⟩ := itoa_nat e.source hn.1
    obtain ⟨v, hv, e2⟩ := itoa_nat e.seq hn.2.2.1
    rw [← hB, e1, e2]
    intro hm
    simp only [List.mem_append, List.mem_cons, List.not_mem_nil, or_false] at hm
    rcases hm with hm | hm | hm
    · have := List.all_eq_true.1 (digsW u).2.1 _ hm; simp at this
    · simp at hm
    · have := List.all_eq_true.1 (digsW v).2.1 _ hm; simp at this
  have hj : Lib.join (A :: B :: M :: V) [32] = A ++ 32 :: (B ++ 32 :: Lib.join (M :: V) [32]) := by
    rw [Lib.join_cons, Lib.join_cons]; simp [Lib.joinTail]
  refine ⟨A, B, Lib.join (M :: V) [32], hj, hA32, hB32, by rw [hj] at hsh; simp at hsh; omega, ?_⟩
  rw [hj] at hsh
  refine parse_words l e h _ (by simp at hsh ⊢; omega) ?_
  rw [hp]
  have hl : [32, 32] ++ (A ++ [32, 32, 32] ++ B ++ [32, 32, 32] ++ Lib.join (M :: V) [32]) ++ [32, 32] = lay ((2, A) :: (3, B) :: (3, M) :: V.map fun w => (1, w)) 2 := by
    simp only [lay]
    rw [tail_lay, Lib.join_cons]
    simp [List.replicate]
  rw [hl, words_lay _ _ _ (fun p hp => ?_) (fun p hp => ?_)]
  · simp [Function.comp_def]
  · simp only [List.mem_cons, List.mem_map] at hp
    rcases hp with rfl | rfl | rfl | ⟨w, hw', rfl⟩
    · exact hw A (by simp)
    · exact hw B (by simp)
    · exact hw M (by simp)
    · exact hw w (by simp [hw'])
  · simp only [List.tail_cons, List.mem_cons, List.mem_map] at hp
    rcases hp with rfl | rfl | ⟨w, _, rfl⟩ <;> simp
theorem text_inj {l : List Sch} {e o : Ev} (h : ckEv l e = 0) (h' : ckEv l o = 0) (ht : Lib.join (partsR l e) [32] = Lib.join (partsR l o) [32]) : e = o := by
  have h1 := parse_format_ev h
  have h2 := parse_format_ev h'
  rw [ht, h2] at h1
  exact (Prod.mk.inj h1).1.symm
end Go.Abs
