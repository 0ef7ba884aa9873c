/- Part Kf of the proof: an abstract machine over the model, and what the functions of the program hand back in its terms. No condition. -/
import Derived.Test.YtcjmlnjoaekbjaaDoorKd
set_option linter.all false
set_option maxRecDepth 100000
namespace Go.Abs
open Go Go.Proofs
set_option linter.unusedSimpArgs false
theorem good_of {ls : List (List Iv)} (h : goodR ls = true) : ∀ l ∈ ls, l.length ≤ 12 ∧ CanonL l := fun l hl => by
  have := List.all_eq_true.1 h l hl
  simp only [goodR1, Bool.and_eq_true, decide_eq_true_eq] at this
  exact ⟨by omega, (ck_iff l).1 this.2⟩
theorem con_of {l : List Iv} (h : CanonL l) (n : Int) : conR l n = (hasR l n, 0) := by rw [conR, if_pos ((ck_iff l).2 h)]
theorem both_of {a b : List Iv} (ha : CanonL a) (hb : CanonL b) : bothR a b = 0 := by rw [bothR, if_pos ((ck_iff a).2 ha), (ck_iff b).2 hb]
theorem comb_of (op : Bool → Bool → Bool) (h0 : op false false = false) {a b : List Iv} (ha : CanonL a) (hb : CanonL b) (hl : 2 * (a.length + b.length) ≤ 256) : combR op a b = .tup [LIv (sweepR op a b), .i 0] := by
  rw [combR, if_pos (both_of ha hb), limR, if_pos (sweep_canon op h0 ha hb hl).len]
theorem compl_of {a : List Iv} (ha : CanonL a) (hl : a.length + 1 ≤ 256) : complR a = .tup [LIv (gapsR a), .i 0] := by
  rw [complR, if_pos ((ck_iff a).2 ha), limR, if_pos (gaps_canon ha hl).len]
theorem sweep_len (op : Bool → Bool → Bool) (h0 : op false false = false) (a b : List Iv) : (sweepR op a b).length ≤ 2 * (a.length + b.length) := (sweep_spec op h0 a b).2.2
theorem gaps_len {a : List Iv} (ha : CanonL a) : (gapsR a).length ≤ a.length + 1 := (gaps_spec ha).2.2
end Go.Abs
