/- Part Kf of the proof: an abstract machine over the model, and what the functions of the program hand back in its terms. No condition. -/
import Derived.Test.YtcjmlnjoaekbjaaGreatDoorKd
import Derived.Lib.SplitLaws
import Derived.Shelf.Strings.Builder1
import Derived.Shelf.Strings.Builder2
import Derived.Shelf.Strings.Search1
import Derived.Shelf.Strings.Search2
import Derived.Shelf.Strings.Search3
import Derived.Shelf.Strings.Cut
import Derived.Shelf.Strings.Count
import Derived.Shelf.LaysM
import Derived.Shelf.Strings.Shaped
import Derived.Shelf.Strings.Prefix
import Derived.Shelf.Strings.Split
import Derived.Shelf.Strings.SplitShaped
import Derived.Shelf.Strings.Runes
import Derived.Shelf.Strings.RuneCount
import Derived.Shelf.Strings.AsciiSet
import Derived.Shelf.Strings.Explode
import Derived.Test.YtcjmlnjoaekbjaaGreatDoorProg
set_option linter.all false
set_option maxRecDepth 100000
namespace Go.Abs
open Go Go.Proofs
set_option linter.unusedSimpArgs false
attribute [local irreducible] ckR hasR
set_option maxHeartbeats 1000000 in
theorem pc_rHas (l : List Iv) (n : Int) (hl : l.length ≤ 1000) : PC Tryz.prog 48 [LIv l, .i n] (fun r => r = .bool (hasR l n)) := by
  refine PC_body tOk Tryz.func48 rfl Tryz.results48 rfl (by simp [Tryz.ntmps48]) ?_
  rw [Tryz.ntmps48]
  simp only [argSlots]
  obtain ⟨R, hR⟩ : ∃ R, hasR l n = R := ⟨_, rfl⟩
  rw [hR]
  repeat (first
    | (refine AWP_seq (AWP_regS tOk rfl ?_); simp)
    | (refine AWP_regS tOk rfl ?_; simp)
    | (refine AWP_skip ?_; simp)
    | (refine AWP_exit ?_; simp)
    | (refine AWP_ret ?_; simp)
    | refine AWP_block ?_
    | refine AWP_seq ?_)
  refine AWP_countI l.length (fun j => hasR (l.drop j) n = R) (fun j => [(0, LIv l), (1, .i n), (5, .i j)]) (fun _ => []) rfl (by simp) (by simp) (by simp) (by simp) (by simpa using hR) ?_
  intro j hj hI ih
  repeat (first
    | (refine AWP_seq (AWP_regS tOk rfl ?_); simp)
    | (refine AWP_regS tOk rfl ?_; simp)
    | (refine AWP_skip ?_; simp)
    | (refine AWP_exit ?_; simp)
    | (refine AWP_ret ?_; simp)
    | refine AWP_block ?_
    | refine AWP_seq ?_)
  refine AWP_cond2 rfl (fun hlt => ?_) (fun hge => ?_)
  · have hlt' : j < l.length := by simpa using hlt
    have hw : IntKind.i64.wrap ((j : Int) + 1) = j + 1 := wrap_i64 _ (by omega) (by omega)
    rw [drop_get hlt', has_cons] at hI
    by_cases h1 : l[j].lo ≤ n
    · by_cases h2 : n ≤ l[j].hi
      · rw [(inI_iff ..).2 ⟨h1, h2⟩, Bool.true_or] at hI
        repeat (first
          | (refine AWP_seq (AWP_regS tOk rfl ?_); simp [hlt', h1, h2])
          | (refine AWP_regS tOk rfl ?_; simp [hlt', h1, h2])
          | (refine AWP_skip ?_; simp [hlt', h1, h2])
          | (refine AWP_exit ?_; simp [hlt', h1, h2])
          | (refine AWP_ret ?_; simp [hlt', h1, h2])
          | refine AWP_block ?_
          | refine AWP_seq ?_)
        refine AWP_cond rfl ?_
        repeat (first
          | (refine AWP_seq (AWP_regS tOk rfl ?_); simp)
          | (refine AWP_regS tOk rfl ?_; simp)
          | (refine AWP_skip ?_; simp)
          | (refine AWP_exit ?_; simp)
          | (refine AWP_ret ?_; simp)
          | refine AWP_block ?_
          | refine AWP_seq ?_)
        exact hI.symm
      · have h3 : inI l[j].lo l[j].hi n = false := by rw [Bool.eq_false_iff, Ne, inI_iff]; omega
        rw [h3, Bool.false_or] at hI
        repeat (first
          | (refine AWP_seq (AWP_regS tOk rfl ?_); simp [hlt', h1, h2])
          | (refine AWP_regS tOk rfl ?_; simp [hlt', h1, h2])
          | (refine AWP_skip ?_; simp [hlt', h1, h2])
          | (refine AWP_exit ?_; simp [hlt', h1, h2])
          | (refine AWP_ret ?_; simp [hlt', h1, h2])
          | refine AWP_block ?_
          | refine AWP_seq ?_)
        refine AWP_cond rfl ?_
        repeat (first
          | (refine AWP_seq (AWP_regS tOk rfl ?_); simp [hw])
          | (refine AWP_regS tOk rfl ?_; simp [hw])
          | (refine AWP_skip ?_; simp [hw])
          | (refine AWP_exit ?_; simp [hw])
          | (refine AWP_ret ?_; simp [hw])
          | refine AWP_block ?_
          | refine AWP_seq ?_)
        exact ALoop_end _ (ih hlt' hI) rfl (by simp) (by simp) (by simp) (by simp)
    · have h3 : inI l[j].lo l[j].hi n = false := by rw [Bool.eq_false_iff, Ne, inI_iff]; omega
      rw [h3, Bool.false_or] at hI
      repeat (first
        | (refine AWP_seq (AWP_regS tOk rfl ?_); simp [hlt', h1])
        | (refine AWP_regS tOk rfl ?_; simp [hlt', h1])
        | (refine AWP_skip ?_; simp [hlt', h1])
        | (refine AWP_exit ?_; simp [hlt', h1])
        | (refine AWP_ret ?_; simp [hlt', h1])
        | refine AWP_block ?_
        | refine AWP_seq ?_)
      refine AWP_cond rfl ?_
      repeat (first
        | (refine AWP_seq (AWP_regS tOk rfl ?_); simp [hw])
        | (refine AWP_regS tOk rfl ?_; simp [hw])
        | (refine AWP_skip ?_; simp [hw])
        | (refine AWP_exit ?_; simp [hw])
        | (refine AWP_ret ?_; simp [hw])
        | refine AWP_block ?_
        | refine AWP_seq ?_)
      exact ALoop_end _ (ih hlt' hI) rfl (by simp) (by simp) (by simp) (by simp)
  · have hge' : j = l.length := by simp at hge; omega
    subst hge'
    rw [List.drop_length] at hI
    repeat (first
      | (refine AWP_seq (AWP_regS tOk rfl ?_); simp)
      | (refine AWP_regS tOk rfl ?_; simp)
      | (refine AWP_skip ?_; simp)
      | (refine AWP_exit ?_; simp)
      | (refine AWP_ret ?_; simp)
      | refine AWP_block ?_
      | refine AWP_seq ?_)
    rw [← hI]; unfold hasR; rfl
theorem pc_rContains (l : List Iv) (n : Int) : PC Tryz.prog 19 [LIv l, .i n] (fun r => r = .tup [.bool (conR l n).1, .i (conR l n).2]) := by
  refine PC_body tOk Tryz.func19 rfl Tryz.results19 rfl (by simp [Tryz.ntmps19]) ?_
  rw [Tryz.ntmps19]
  simp only [argSlots]
  repeat (first
    | (refine AWP_seq (AWP_regS tOk rfl ?_); simp)
    | (refine AWP_regS tOk rfl ?_; simp)
    | (refine AWP_skip ?_; simp)
    | (refine AWP_exit ?_; simp)
    | (refine AWP_ret ?_; simp)
    | refine AWP_block ?_
    | refine AWP_seq ?_)
  refine AStep_PC rfl rfl (by simp) (pc_rCheck l) rfl ?_
  rintro _ rfl
  simp
  repeat (first
    | (refine AWP_seq (AWP_regS tOk rfl ?_); simp)
    | (refine AWP_regS tOk rfl ?_; simp)
    | (refine AWP_skip ?_; simp)
    | (refine AWP_exit ?_; simp)
    | (refine AWP_ret ?_; simp)
    | refine AWP_block ?_
    | refine AWP_seq ?_)
  refine AWP_cond2 rfl (fun h => ?_) (fun h => ?_)
  · repeat (first
      | (refine AWP_seq (AWP_regS tOk rfl ?_); simp)
      | (refine AWP_regS tOk rfl ?_; simp)
      | (refine AWP_skip ?_; simp)
      | (refine AWP_exit ?_; simp)
      | (refine AWP_ret ?_; simp)
      | refine AWP_block ?_
      | refine AWP_seq ?_)
    rw [conR, if_neg (by simpa using h)]; exact ⟨rfl, rfl⟩
  have h0 : ckR l = 0 := by simpa using h
  have hlen := ((ck_iff l).1 h0).len
  rw [conR, if_pos h0]
  repeat (first
    | (refine AWP_seq (AWP_regS tOk rfl ?_); simp)
    | (refine AWP_regS tOk rfl ?_; simp)
    | (refine AWP_skip ?_; simp)
    | (refine AWP_exit ?_; simp)
    | (refine AWP_ret ?_; simp)
    | refine AWP_block ?_
    | refine AWP_seq ?_)
  refine AStep_PC rfl rfl (by simp) (pc_rHas l n (by omega)) rfl ?_
  rintro _ rfl
  simp
  repeat (first
    | (refine AWP_seq (AWP_regS tOk rfl ?_); simp)
    | (refine AWP_regS tOk rfl ?_; simp)
    | (refine AWP_skip ?_; simp)
    | (refine AWP_exit ?_; simp)
    | (refine AWP_ret ?_; simp)
    | refine AWP_block ?_
    | refine AWP_seq ?_)
theorem pc_rTwo (a b : List Iv) : PC Tryz.prog 37 [LIv a, LIv b] (fun r => r = .i (bothR a b)) := by
  refine PC_body tOk Tryz.func37 rfl Tryz.results37 rfl (by simp [Tryz.ntmps37]) ?_
  rw [Tryz.ntmps37]
  simp only [argSlots]
  repeat (first
    | (refine AWP_seq (AWP_regS tOk rfl ?_); simp)
    | (refine AWP_regS tOk rfl ?_; simp)
    | (refine AWP_skip ?_; simp)
    | (refine AWP_exit ?_; simp)
    | (refine AWP_ret ?_; simp)
    | refine AWP_block ?_
    | refine AWP_seq ?_)
  refine AStep_PC rfl rfl (by simp) (pc_rCheck a) rfl ?_
  rintro _ rfl
  simp
  repeat (first
    | (refine AWP_seq (AWP_regS tOk rfl ?_); simp)
    | (refine AWP_regS tOk rfl ?_; simp)
    | (refine AWP_skip ?_; simp)
    | (refine AWP_exit ?_; simp)
    | (refine AWP_ret ?_; simp)
    | refine AWP_block ?_
    | refine AWP_seq ?_)
  refine AWP_cond2 rfl (fun h => ?_) (fun h => ?_)
  · repeat (first
      | (refine AWP_seq (AWP_regS tOk rfl ?_); simp)
      | (refine AWP_regS tOk rfl ?_; simp)
      | (refine AWP_skip ?_; simp)
      | (refine AWP_exit ?_; simp)
      | (refine AWP_ret ?_; simp)
      | refine AWP_block ?_
      | refine AWP_seq ?_)
    rw [bothR, if_neg (by simpa using h)]
  repeat (first
    | (refine AWP_seq (AWP_regS tOk rfl ?_); simp)
    | (refine AWP_regS tOk rfl ?_; simp)
    | (refine AWP_skip ?_; simp)
    | (refine AWP_exit ?_; simp)
    | (refine AWP_ret ?_; simp)
    | refine AWP_block ?_
    | refine AWP_seq ?_)
  refine AStep_PC rfl rfl (by simp) (pc_rCheck b) rfl ?_
  rintro _ rfl
  simp
  repeat (first
    | (refine AWP_seq (AWP_regS tOk rfl ?_); simp)
    | (refine AWP_regS tOk rfl ?_; simp)
    | (refine AWP_skip ?_; simp)
    | (refine AWP_exit ?_; simp)
    | (refine AWP_ret ?_; simp)
    | refine AWP_block ?_
    | refine AWP_seq ?_)
  rw [bothR, if_pos (by simpa using h)]
theorem pc_rLimited (l : List Iv) : PC Tryz.prog 38 [LIv l] (fun r => r = limR l) := by
  refine PC_body tOk Tryz.func38 rfl Tryz.results38 rfl (by simp [Tryz.ntmps38]) ?_
  rw [Tryz.ntmps38]
  simp only [argSlots]
  repeat (first
    | (refine AWP_seq (AWP_regS tOk rfl ?_); simp)
    | (refine AWP_regS tOk rfl ?_; simp)
    | (refine AWP_skip ?_; simp)
    | (refine AWP_exit ?_; simp)
    | (refine AWP_ret ?_; simp)
    | refine AWP_block ?_
    | refine AWP_seq ?_)
  refine AWP_cond2 rfl (fun h => ?_) (fun h => ?_)
  · repeat (first
      | (refine AWP_seq (AWP_regS tOk rfl ?_); simp)
      | (refine AWP_regS tOk rfl ?_; simp)
      | (refine AWP_skip ?_; simp)
      | (refine AWP_exit ?_; simp)
      | (refine AWP_ret ?_; simp)
      | refine AWP_block ?_
      | refine AWP_seq ?_)
    rw [limR, if_neg (by simp at h; omega)]
  · repeat (first
      | (refine AWP_seq (AWP_regS tOk rfl ?_); simp)
      | (refine AWP_regS tOk rfl ?_; simp)
      | (refine AWP_skip ?_; simp)
      | (refine AWP_exit ?_; simp)
      | (refine AWP_ret ?_; simp)
      | refine AWP_block ?_
      | refine AWP_seq ?_)
    rw [limR, if_pos (by simp at h; omega)]
set_option maxHeartbeats 1000000 in
theorem pc_rCount (l : List Iv) (hc : CanonL l) : PC Tryz.prog 49 [LIv l] (fun r => r = .i (sizeS l)) := by
  refine PC_body tOk Tryz.func49 rfl Tryz.results49 rfl (by simp [Tryz.ntmps49]) ?_
  rw [Tryz.ntmps49]
  simp only [argSlots]
  have hlen := hc.len
  repeat (first
    | (refine AWP_seq (AWP_regS tOk rfl ?_); simp)
    | (refine AWP_regS tOk rfl ?_; simp)
    | (refine AWP_skip ?_; simp)
    | (refine AWP_exit ?_; simp)
    | (refine AWP_ret ?_; simp)
    | refine AWP_block ?_
    | refine AWP_seq ?_)
  refine AWP_countI l.length (fun j => 0 ≤ sizeS (l.take j) ∧ sizeS (l.take j) ≤ (j : Int) * 4398046511104) (fun j => [(0, LIv l), (3, .i (sizeS (l.take j))), (4, .i j)]) (fun _ => []) rfl (by simp) (by simp [sizeS]) (by simp) (by simp) (by simp [sizeS]) ?_
  intro j hj hI ih
  repeat (first
    | (refine AWP_seq (AWP_regS tOk rfl ?_); simp)
    | (refine AWP_regS tOk rfl ?_; simp)
    | (refine AWP_skip ?_; simp)
    | (refine AWP_exit ?_; simp)
    | (refine AWP_ret ?_; simp)
    | refine AWP_block ?_
    | refine AWP_seq ?_)
  refine AWP_cond2 rfl (fun hlt => ?_) (fun hge => ?_)
  · have hlt' : j < l.length := by simpa using hlt
    have hv := hc.iv hlt'
    have hw : IntKind.i64.wrap ((j : Int) + 1) = j + 1 := wrap_i64 _ (by omega) (by omega)
    have hw1 : IntKind.i64.wrap (l[j].hi - l[j].lo) = l[j].hi - l[j].lo := wrap_i64 _ (by omega) (by omega)
    have hw2 : IntKind.i64.wrap (l[j].hi - l[j].lo + 1) = l[j].hi - l[j].lo + 1 := wrap_i64 _ (by omega) (by omega)
    have hs : sizeS (l.take (j + 1)) = sizeS (l.take j) + (l[j].hi - l[j].lo + 1) := by rw [List.take_succ_eq_append_getElem hlt', sizeS_snoc]
    have hw3 : IntKind.i64.wrap (sizeS (l.take j) + (l[j].hi - l[j].lo + 1)) = sizeS (l.take j) + (l[j].hi - l[j].lo + 1) := wrap_i64 _ (by omega) (by omega)
    repeat (first
      | (refine AWP_seq (AWP_regS tOk rfl ?_); simp [hlt', hw, hw1, hw2, hw3])
      | (refine AWP_regS tOk rfl ?_; simp [hlt', hw, hw1, hw2, hw3])
      | (refine AWP_skip ?_; simp [hlt', hw, hw1, hw2, hw3])
      | (refine AWP_exit ?_; simp [hlt', hw, hw1, hw2, hw3])
      | (refine AWP_ret ?_; simp [hlt', hw, hw1, hw2, hw3])
      | refine AWP_block ?_
      | refine AWP_seq ?_)
    refine AWP_drawT tOk mixed [] (.val 0 (.val 1 (.val 2 (.val 3 (.val 4 (.val 5 (.val 6 (.val 7 (.val 8 (.val 9 (.val 10 (.val 11 (.val 12 (.val 13 (.val 14 (.done)))))))))))))))) rfl (by kernel_rfl) ?_
    simp [hlt', hw, hw1, hw2, hw3]
    repeat (first
      | (refine AWP_seq (AWP_regS tOk rfl ?_); simp [hw])
      | (refine AWP_regS tOk rfl ?_; simp [hw])
      | (refine AWP_skip ?_; simp [hw])
      | (refine AWP_exit ?_; simp [hw])
      | (refine AWP_ret ?_; simp [hw])
      | refine AWP_block ?_
      | refine AWP_seq ?_)
    refine ALoop_end _ (ih hlt' (by rw [hs]; omega)) rfl (by simp) ?_ (by simp) (by simp)
    simp [hs]
  · have hge' : j = l.length := by simp at hge; omega
    subst hge'
    repeat (first
      | (refine AWP_seq (AWP_regS tOk rfl ?_); simp)
      | (refine AWP_regS tOk rfl ?_; simp)
      | (refine AWP_skip ?_; simp)
      | (refine AWP_exit ?_; simp)
      | (refine AWP_ret ?_; simp)
      | refine AWP_block ?_
      | refine AWP_seq ?_)
theorem pc_rSize (l : List Iv) : PC Tryz.prog 21 [LIv l] (fun r => r = .tup [.i (if ckR l = 0 then sizeS l else 0), .i (ckR l)]) := by
  refine PC_body tOk Tryz.func21 rfl Tryz.results21 rfl (by simp [Tryz.ntmps21]) ?_
  rw [Tryz.ntmps21]
  simp only [argSlots]
  repeat (first
    | (refine AWP_seq (AWP_regS tOk rfl ?_); simp)
    | (refine AWP_regS tOk rfl ?_; simp)
    | (refine AWP_skip ?_; simp)
    | (refine AWP_exit ?_; simp)
    | (refine AWP_ret ?_; simp)
    | refine AWP_block ?_
    | refine AWP_seq ?_)
  refine AStep_PC rfl rfl (by simp) (pc_rCheck l) rfl ?_
  rintro _ rfl
  simp
  repeat (first
    | (refine AWP_seq (AWP_regS tOk rfl ?_); simp)
    | (refine AWP_regS tOk rfl ?_; simp)
    | (refine AWP_skip ?_; simp)
    | (refine AWP_exit ?_; simp)
    | (refine AWP_ret ?_; simp)
    | refine AWP_block ?_
    | refine AWP_seq ?_)
  refine AWP_cond2 rfl (fun h => ?_) (fun h => ?_)
  · repeat (first
      | (refine AWP_seq (AWP_regS tOk rfl ?_); simp)
      | (refine AWP_regS tOk rfl ?_; simp)
      | (refine AWP_skip ?_; simp)
      | (refine AWP_exit ?_; simp)
      | (refine AWP_ret ?_; simp)
      | refine AWP_block ?_
      | refine AWP_seq ?_)
    have : ckR l ≠ 0 := by simpa using h
    intro h0; exact absurd h0 this
  have h0 : ckR l = 0 := by simpa using h
  rw [if_pos h0, h0]
  repeat (first
    | (refine AWP_seq (AWP_regS tOk rfl ?_); simp)
    | (refine AWP_regS tOk rfl ?_; simp)
    | (refine AWP_skip ?_; simp)
    | (refine AWP_exit ?_; simp)
    | (refine AWP_ret ?_; simp)
    | refine AWP_block ?_
    | refine AWP_seq ?_)
  refine AStep_PC rfl rfl (by simp) (pc_rCount l ((ck_iff l).1 h0)) rfl ?_
  rintro _ rfl
  simp
  repeat (first
    | (refine AWP_seq (AWP_regS tOk rfl ?_); simp)
    | (refine AWP_regS tOk rfl ?_; simp)
    | (refine AWP_skip ?_; simp)
    | (refine AWP_exit ?_; simp)
    | (refine AWP_ret ?_; simp)
    | refine AWP_block ?_
    | refine AWP_seq ?_)
end Go.Abs
set_option maxRecDepth 100000
namespace Go.Abs
open Go Go.Proofs
set_option linter.unusedSimpArgs false
attribute [local irreducible] ckR hasR
set_option maxHeartbeats 1000000 in
theorem pc_rAt (l : List Iv) (i : Int) (hi1 : i ≤ 9223372036854775807) : PC Tryz.prog 23 [LIv l, .i i] (fun r => r = .tup [.i (atR l i).1, .i (atR l i).2]) := by
  refine PC_body tOk Tryz.func23 rfl Tryz.results23 rfl (by simp [Tryz.ntmps23]) ?_
  rw [Tryz.ntmps23]
  simp only [argSlots]
  repeat (first
    | (refine AWP_seq (AWP_regS tOk rfl ?_); simp)
    | (refine AWP_regS tOk rfl ?_; simp)
    | (refine AWP_skip ?_; simp)
    | (refine AWP_exit ?_; simp)
    | (refine AWP_ret ?_; simp)
    | refine AWP_block ?_
    | refine AWP_seq ?_)
  refine AStep_PC rfl rfl (by simp) (pc_rCheck l) rfl ?_
  rintro _ rfl
  simp
  repeat (first
    | (refine AWP_seq (AWP_regS tOk rfl ?_); simp)
    | (refine AWP_regS tOk rfl ?_; simp)
    | (refine AWP_skip ?_; simp)
    | (refine AWP_exit ?_; simp)
    | (refine AWP_ret ?_; simp)
    | refine AWP_block ?_
    | refine AWP_seq ?_)
  refine AWP_cond2 rfl (fun h => ?_) (fun h => ?_)
  · repeat (first
      | (refine AWP_seq (AWP_regS tOk rfl ?_); simp)
      | (refine AWP_regS tOk rfl ?_; simp)
      | (refine AWP_skip ?_; simp)
      | (refine AWP_exit ?_; simp)
      | (refine AWP_ret ?_; simp)
      | refine AWP_block ?_
      | refine AWP_seq ?_)
    rw [atR, if_neg (by simpa using h)]; exact ⟨rfl, rfl⟩
  have h0 : ckR l = 0 := by simpa using h
  have hc := (ck_iff l).1 h0
  have hlen := hc.len
  by_cases h2 : i < 0
  · repeat (first
      | (refine AWP_seq (AWP_regS tOk rfl ?_); simp [h2])
      | (refine AWP_regS tOk rfl ?_; simp [h2])
      | (refine AWP_skip ?_; simp [h2])
      | (refine AWP_exit ?_; simp [h2])
      | (refine AWP_ret ?_; simp [h2])
      | refine AWP_block ?_
      | refine AWP_seq ?_)
    refine AStep_skip rfl rfl ?_
    simp
    repeat (first
      | (refine AWP_seq (AWP_regS tOk rfl ?_); simp)
      | (refine AWP_regS tOk rfl ?_; simp)
      | (refine AWP_skip ?_; simp)
      | (refine AWP_exit ?_; simp)
      | (refine AWP_ret ?_; simp)
      | refine AWP_block ?_
      | refine AWP_seq ?_)
    refine AWP_cond rfl ?_
    repeat (first
      | (refine AWP_seq (AWP_regS tOk rfl ?_); simp)
      | (refine AWP_regS tOk rfl ?_; simp)
      | (refine AWP_skip ?_; simp)
      | (refine AWP_exit ?_; simp)
      | (refine AWP_ret ?_; simp)
      | refine AWP_block ?_
      | refine AWP_seq ?_)
    rw [atR, if_pos h0, if_pos h2]; exact ⟨rfl, rfl⟩
  obtain ⟨R, hR⟩ : ∃ R, atR l i = R := ⟨_, rfl⟩
  have hA : atFrom l i = R := by rw [← hR, atR, if_pos h0, if_neg h2]
  rw [hR]
  repeat (first
    | (refine AWP_seq (AWP_regS tOk rfl ?_); simp [h2])
    | (refine AWP_regS tOk rfl ?_; simp [h2])
    | (refine AWP_skip ?_; simp [h2])
    | (refine AWP_exit ?_; simp [h2])
    | (refine AWP_ret ?_; simp [h2])
    | refine AWP_block ?_
    | refine AWP_seq ?_)
  refine AStep_PC rfl rfl (by simp) (pc_rCount l hc) rfl ?_
  rintro _ rfl
  simp
  repeat (first
    | (refine AWP_seq (AWP_regS tOk rfl ?_); simp)
    | (refine AWP_regS tOk rfl ?_; simp)
    | (refine AWP_skip ?_; simp)
    | (refine AWP_exit ?_; simp)
    | (refine AWP_ret ?_; simp)
    | refine AWP_block ?_
    | refine AWP_seq ?_)
  refine AWP_cond2 rfl (fun h3 => ?_) (fun h3 => ?_)
  · rw [at_out l i (canon_sep hc) (by simpa using h3)] at hA
    repeat (first
      | (refine AWP_seq (AWP_regS tOk rfl ?_); simp)
      | (refine AWP_regS tOk rfl ?_; simp)
      | (refine AWP_skip ?_; simp)
      | (refine AWP_exit ?_; simp)
      | (refine AWP_ret ?_; simp)
      | refine AWP_block ?_
      | refine AWP_seq ?_)
    rw [← hA]; exact ⟨rfl, rfl⟩
  repeat (first
    | (refine AWP_seq (AWP_regS tOk rfl ?_); simp)
    | (refine AWP_regS tOk rfl ?_; simp)
    | (refine AWP_skip ?_; simp)
    | (refine AWP_exit ?_; simp)
    | (refine AWP_ret ?_; simp)
    | refine AWP_block ?_
    | refine AWP_seq ?_)
  refine AWP_loop (ALoop_keep (sl' := [(0, LIv l), (1, .i i), (7, .i 0)]) ?_ (by simp))
  refine ALoop_wf (F := fun (u : Nat × Int) => ⟨[(0, LIv l), (1, .i u.2), (7, .i u.1)], []⟩) (fun u => u.1 ≤ l.length ∧ 0 ≤ u.2 ∧ u.2 ≤ 9223372036854775807 ∧ atFrom (l.drop u.1) u.2 = R) (fun u => l.length - u.1) ?_ (0, i) ⟨by simp, by simp only; omega, hi1, hA⟩
  rintro ⟨j, v⟩ ⟨hj, hv0, hv1, hI⟩ ih
  simp only at hj hv0 hv1 hI ih ⊢
  repeat (first
    | (refine AWP_seq (AWP_regS tOk rfl ?_); simp)
    | (refine AWP_regS tOk rfl ?_; simp)
    | (refine AWP_skip ?_; simp)
    | (refine AWP_exit ?_; simp)
    | (refine AWP_ret ?_; simp)
    | refine AWP_block ?_
    | refine AWP_seq ?_)
  refine AWP_cond2 rfl (fun hlt => ?_) (fun hge => ?_)
  · have hlt' : j < l.length := by simpa using hlt
    have hv := hc.iv hlt'
    have hw : IntKind.i64.wrap ((j : Int) + 1) = j + 1 := wrap_i64 _ (by omega) (by omega)
    have hw1 : IntKind.i64.wrap (l[j].hi - l[j].lo) = l[j].hi - l[j].lo := wrap_i64 _ (by omega) (by omega)
    have hw2 : IntKind.i64.wrap (l[j].hi - l[j].lo + 1) = l[j].hi - l[j].lo + 1 := wrap_i64 _ (by omega) (by omega)
    rw [drop_get hlt', atFrom] at hI
    repeat (first
      | (refine AWP_seq (AWP_regS tOk rfl ?_); simp [hlt', hw, hw1, hw2])
      | (refine AWP_regS tOk rfl ?_; simp [hlt', hw, hw1, hw2])
      | (refine AWP_skip ?_; simp [hlt', hw, hw1, hw2])
      | (refine AWP_exit ?_; simp [hlt', hw, hw1, hw2])
      | (refine AWP_ret ?_; simp [hlt', hw, hw1, hw2])
      | refine AWP_block ?_
      | refine AWP_seq ?_)
    refine AWP_drawT tOk mixed [] (.val 0 (.val 1 (.val 2 (.val 3 (.val 4 (.val 5 (.val 6 (.val 7 (.val 8 (.val 9 (.val 10 (.val 11 (.val 12 (.done)))))))))))))) rfl (by kernel_rfl) ?_
    simp [hlt', hw, hw1, hw2]
    repeat (first
      | (refine AWP_seq (AWP_regS tOk rfl ?_); simp [hlt', hw, hw1, hw2])
      | (refine AWP_regS tOk rfl ?_; simp [hlt', hw, hw1, hw2])
      | (refine AWP_skip ?_; simp [hlt', hw, hw1, hw2])
      | (refine AWP_exit ?_; simp [hlt', hw, hw1, hw2])
      | (refine AWP_ret ?_; simp [hlt', hw, hw1, hw2])
      | refine AWP_block ?_
      | refine AWP_seq ?_)
    refine AWP_cond2 rfl (fun h3 => ?_) (fun h3 => ?_)
    · have h3' : v < l[j].hi - l[j].lo + 1 := by simpa using h3
      have hw3 : IntKind.i64.wrap (l[j].lo + v) = l[j].lo + v := wrap_i64 _ (by omega) (by omega)
      repeat (first
        | (refine AWP_seq (AWP_regS tOk rfl ?_); simp [hlt', hw3])
        | (refine AWP_regS tOk rfl ?_; simp [hlt', hw3])
        | (refine AWP_skip ?_; simp [hlt', hw3])
        | (refine AWP_exit ?_; simp [hlt', hw3])
        | (refine AWP_ret ?_; simp [hlt', hw3])
        | refine AWP_block ?_
        | refine AWP_seq ?_)
      rw [← hI, if_pos h3']; exact ⟨rfl, rfl⟩
    · have h3' : ¬ v < l[j].hi - l[j].lo + 1 := by simpa using h3
      have hw3 : IntKind.i64.wrap (v - (l[j].hi - l[j].lo + 1)) = v - (l[j].hi - l[j].lo + 1) := wrap_i64 _ (by omega) (by omega)
      rw [if_neg h3'] at hI
      repeat (first
        | (refine AWP_seq (AWP_regS tOk rfl ?_); simp [hw3, hw])
        | (refine AWP_regS tOk rfl ?_; simp [hw3, hw])
        | (refine AWP_skip ?_; simp [hw3, hw])
        | (refine AWP_exit ?_; simp [hw3, hw])
        | (refine AWP_ret ?_; simp [hw3, hw])
        | refine AWP_block ?_
        | refine AWP_seq ?_)
      exact ALoop_end _ (ih (j + 1, v - (l[j].hi - l[j].lo + 1)) ⟨by simp only; omega, by simp only; omega, by simp only; omega, hI⟩ (by simp only; omega)) rfl (by simp) (by simp) (by simp) (by simp)
  · have hge' : j = l.length := by simp at hge; omega
    subst hge'
    rw [List.drop_length, atFrom] at hI
    repeat (first
      | (refine AWP_seq (AWP_regS tOk rfl ?_); simp)
      | (refine AWP_regS tOk rfl ?_; simp)
      | (refine AWP_skip ?_; simp)
      | (refine AWP_exit ?_; simp)
      | (refine AWP_ret ?_; simp)
      | refine AWP_block ?_
      | refine AWP_seq ?_)
    rw [← hI]; exact ⟨rfl, rfl⟩
set_option maxHeartbeats 2000000 in
theorem pc_rShift (l : List Iv) (d : Int) : PC Tryz.prog 25 [LIv l, .i d] (fun r => r = .tup [LIv (shiftR l d).1, .i (shiftR l d).2]) := by
  refine PC_body tOk Tryz.func25 rfl Tryz.results25 rfl (by simp [Tryz.ntmps25]) ?_
  rw [Tryz.ntmps25]
  simp only [argSlots]
  repeat (first
    | (refine AWP_seq (AWP_regS tOk rfl ?_); simp)
    | (refine AWP_regS tOk rfl ?_; simp)
    | (refine AWP_skip ?_; simp)
    | (refine AWP_exit ?_; simp)
    | (refine AWP_ret ?_; simp)
    | refine AWP_block ?_
    | refine AWP_seq ?_)
  refine AStep_PC rfl rfl (by simp) (pc_rCheck l) rfl ?_
  rintro _ rfl
  simp
  repeat (first
    | (refine AWP_seq (AWP_regS tOk rfl ?_); simp)
    | (refine AWP_regS tOk rfl ?_; simp)
    | (refine AWP_skip ?_; simp)
    | (refine AWP_exit ?_; simp)
    | (refine AWP_ret ?_; simp)
    | refine AWP_block ?_
    | refine AWP_seq ?_)
  refine AWP_cond2 rfl (fun h => ?_) (fun h => ?_)
  · repeat (first
      | (refine AWP_seq (AWP_regS tOk rfl ?_); simp)
      | (refine AWP_regS tOk rfl ?_; simp)
      | (refine AWP_skip ?_; simp)
      | (refine AWP_exit ?_; simp)
      | (refine AWP_ret ?_; simp)
      | refine AWP_block ?_
      | refine AWP_seq ?_)
    rw [shiftR, if_neg (by simpa using h)]; exact ⟨rfl, rfl⟩
  have h0 : ckR l = 0 := by simpa using h
  have hc := (ck_iff l).1 h0
  have hlen := hc.len
  repeat (first
    | (refine AWP_seq (AWP_regS tOk rfl ?_); simp)
    | (refine AWP_regS tOk rfl ?_; simp)
    | (refine AWP_skip ?_; simp)
    | (refine AWP_exit ?_; simp)
    | (refine AWP_ret ?_; simp)
    | refine AWP_block ?_
    | refine AWP_seq ?_)
  refine AWP_cond2 rfl (fun h2 => ?_) (fun h2 => ?_)
  · repeat (first
      | (refine AWP_seq (AWP_regS tOk rfl ?_); simp)
      | (refine AWP_regS tOk rfl ?_; simp)
      | (refine AWP_skip ?_; simp)
      | (refine AWP_exit ?_; simp)
      | (refine AWP_ret ?_; simp)
      | refine AWP_block ?_
      | refine AWP_seq ?_)
    rw [shiftR, if_pos h0, if_pos (by simp at h2; omega)]; exact ⟨rfl, rfl⟩
  have h2' : -2199023255552 ≤ d ∧ d ≤ 2199023255552 := by simp at h2; omega
  have hR : shiftR l d = (l.filterMap (clipR d), 0) := by rw [shiftR, if_pos h0, if_neg (by omega)]
  rw [hR]
  repeat (first
    | (refine AWP_seq (AWP_regS tOk rfl ?_); simp)
    | (refine AWP_regS tOk rfl ?_; simp)
    | (refine AWP_skip ?_; simp)
    | (refine AWP_exit ?_; simp)
    | (refine AWP_ret ?_; simp)
    | refine AWP_block ?_
    | refine AWP_seq ?_)
  refine AWP_nilSlot 7 59 2 rfl ?_
  simp
  repeat (first
    | (refine AWP_seq (AWP_regS tOk rfl ?_); simp)
    | (refine AWP_regS tOk rfl ?_; simp)
    | (refine AWP_skip ?_; simp)
    | (refine AWP_exit ?_; simp)
    | (refine AWP_ret ?_; simp)
    | refine AWP_block ?_
    | refine AWP_seq ?_)
  refine AWP_loop (ALoop_keep (sl' := [(0, LIv l), (1, .i d), (7, .sl 0 2 0 0), (8, .i 0)]) ?_ (by simp))
  refine ALoop_wf (F := fun (u : Nat × Nat × List AObj) => ⟨[(0, LIv l), (1, .i d), (7, .sl u.2.1 2 0 ((l.take u.1).filterMap (clipR d)).length), (8, .i u.1)], u.2.2⟩)
    (fun u => u.1 ≤ l.length ∧ u.2.2[u.2.1]? = some (.arr 59 2 (((l.take u.1).filterMap (clipR d)).map encIv))) (fun u => l.length - u.1) ?_ (0, 0, [.arr 59 2 []]) ⟨by simp, rfl⟩
  rintro ⟨j, q, H2⟩ ⟨hj, g1⟩ ih
  simp only at hj g1 ih ⊢
  repeat (first
    | (refine AWP_seq (AWP_regS tOk rfl ?_); simp)
    | (refine AWP_regS tOk rfl ?_; simp)
    | (refine AWP_skip ?_; simp)
    | (refine AWP_exit ?_; simp)
    | (refine AWP_ret ?_; simp)
    | refine AWP_block ?_
    | refine AWP_seq ?_)
  refine AWP_cond2 rfl (fun hlt => ?_) (fun hge => ?_)
  · have hlt' : j < l.length := by simpa using hlt
    have hv := hc.iv hlt'
    have hw : IntKind.i64.wrap ((j : Int) + 1) = j + 1 := wrap_i64 _ (by omega) (by omega)
    have hw1 : IntKind.i64.wrap (l[j].lo + d) = l[j].lo + d := wrap_i64 _ (by omega) (by omega)
    have hw2 : IntKind.i64.wrap (l[j].hi + d) = l[j].hi + d := wrap_i64 _ (by omega) (by omega)
    have hpl : ((l.take j).filterMap (clipR d)).length ≤ 256 := Nat.le_trans (fm_len _ _) (by simp; omega)
    have hnx : (l.take (j + 1)).filterMap (clipR d) = (l.take j).filterMap (clipR d) ++ (clipR d l[j]).toList := by rw [List.take_succ_eq_append_getElem hlt', fm_snoc]
    have ih' : ∀ (q' : Nat) (H' : List AObj), H'[q']? = some (.arr 59 2 (((l.take j).filterMap (clipR d) ++ (clipR d l[j]).toList).map encIv)) → _ := fun q' H' h => ih (j + 1, q', H') ⟨by simp; omega, by rw [hnx]; exact h⟩ (by simp; omega)
    clear ih
    simp only [hnx] at ih'
    generalize (l.take j).filterMap (clipR d) = acc at g1 hpl ih' ⊢
    repeat (first
      | (refine AWP_seq (AWP_regS tOk rfl ?_); simp [hlt'])
      | (refine AWP_regS tOk rfl ?_; simp [hlt'])
      | (refine AWP_skip ?_; simp [hlt'])
      | (refine AWP_exit ?_; simp [hlt'])
      | (refine AWP_ret ?_; simp [hlt'])
      | refine AWP_block ?_
      | refine AWP_seq ?_)
    obtain ⟨a, ha⟩ : ∃ a, (if l[j].lo + d < -1099511627776 then -1099511627776 else l[j].lo + d) = a := ⟨_, rfl⟩
    obtain ⟨b, hb⟩ : ∃ b, (if 1099511627776 < l[j].hi + d then 1099511627776 else l[j].hi + d) = b := ⟨_, rfl⟩
    have hcl : clipR d l[j] = if a ≤ b then some ⟨a, b⟩ else none := by simp only [clipR, ha, hb]
    rw [hcl] at ih'
    refine AWP_drawT tOk mixed [] (.val 0 (.val 1 (.val 2 (.val 3 (.val 4 (.val 5 (.val 6 (.val 7 (.val 8 (.val 9 (.val 10 (.val 11 (.val 12 (.val 13 (.val 14 (.val 15 (.val 16 (.val 17 (.done))))))))))))))))))) rfl (by kernel_rfl) ?_
    simp [hlt', hw1, hw2, ha, hb]
    repeat (first
      | (refine AWP_seq (AWP_regS tOk rfl ?_); simp)
      | (refine AWP_regS tOk rfl ?_; simp)
      | (refine AWP_skip ?_; simp)
      | (refine AWP_exit ?_; simp)
      | (refine AWP_ret ?_; simp)
      | refine AWP_block ?_
      | refine AWP_seq ?_)
    refine AWP_cond2 rfl (fun h3 => ?_) (fun h3 => ?_)
    · rw [if_pos (by simpa using h3)] at ih'
      repeat (first
        | (refine AWP_seq (AWP_regS tOk rfl ?_); simp)
        | (refine AWP_regS tOk rfl ?_; simp)
        | (refine AWP_skip ?_; simp)
        | (refine AWP_exit ?_; simp)
        | (refine AWP_ret ?_; simp)
        | refine AWP_block ?_
        | refine AWP_seq ?_)
      refine AStep_appendS tOk rfl rfl T22 rfl T59 rfl (by decide) (by decide) rfl rfl rfl ?_
      simp [get_app g1, set_app g1]
      refine ⟨by simp [appOk, get_app g1, set_app g1] <;> omega, ?_⟩
      repeat (first
        | (refine AWP_seq (AWP_regS tOk rfl ?_); simp [hw])
        | (refine AWP_regS tOk rfl ?_; simp [hw])
        | (refine AWP_skip ?_; simp [hw])
        | (refine AWP_exit ?_; simp [hw])
        | (refine AWP_ret ?_; simp [hw])
        | refine AWP_block ?_
        | refine AWP_seq ?_)
      exact ALoop_keep (sl' := [(0, LIv l), (1, .i d), (7, .sl (H2.length + 1) 2 0 (acc.length + 1)), (8, .i (j + 1 : Nat))]) (by
        have := ih' (H2.length + 1) (H2.set q .dead ++ [.arr 59 2 [encIv (⟨a, b⟩ : Iv)], .arr 59 2 ((acc ++ [(⟨a, b⟩ : Iv)]).map encIv)]) (by rw [List.getElem?_append_right (by simp)]; simp)
        simpa using this) (by simp)
    · rw [if_neg (by simpa using h3)] at ih'
      repeat (first
        | (refine AWP_seq (AWP_regS tOk rfl ?_); simp [hw])
        | (refine AWP_regS tOk rfl ?_; simp [hw])
        | (refine AWP_skip ?_; simp [hw])
        | (refine AWP_exit ?_; simp [hw])
        | (refine AWP_ret ?_; simp [hw])
        | refine AWP_block ?_
        | refine AWP_seq ?_)
      exact ALoop_keep (sl' := [(0, LIv l), (1, .i d), (7, .sl q 2 0 acc.length), (8, .i (j + 1 : Nat))]) (by
        have := ih' q H2 (by rw [Option.toList_none, List.append_nil]; exact g1)
        simpa using this) (by simp)
  · have hge' : j = l.length := by simp at hge; omega
    subst hge'
    rw [List.take_length] at g1 ⊢
    repeat (first
      | (refine AWP_seq (AWP_regS tOk rfl ?_); simp [g1])
      | (refine AWP_regS tOk rfl ?_; simp [g1])
      | (refine AWP_skip ?_; simp [g1])
      | (refine AWP_exit ?_; simp [g1])
      | (refine AWP_ret ?_; simp [g1])
      | refine AWP_block ?_
      | refine AWP_seq ?_)
    rw [List.take_of_length_le (by simp)]
end Go.Abs
set_option maxRecDepth 100000
namespace Go.Abs
open Go Go.Proofs
set_option linter.unusedSimpArgs false
theorem pairs_cons (x : Iv) (a b : List Iv) : pairsR (x :: a) b = b.filterMap (meetR x) ++ pairsR a b := rfl
theorem fm_cons (x y : Iv) (b : List Iv) : (y :: b).filterMap (meetR x) = (meetR x y).toList ++ b.filterMap (meetR x) := by
  cases h : meetR x y <;> simp [h]
def rowR (x : Iv) (b : List Iv) : List Iv := b.filterMap (meetR x)
theorem pairs_cons' (x : Iv) (a b : List Iv) : pairsR (x :: a) b = rowR x b ++ pairsR a b := rfl
theorem row_cons (x y : Iv) (b : List Iv) : rowR x (y :: b) = (meetR x y).toList ++ rowR x b := fm_cons x y b
theorem row_nil (x : Iv) : rowR x [] = [] := rfl
theorem pairs_nil (b : List Iv) : pairsR [] b = [] := rfl
attribute [local irreducible] ckR hasR pairsR rowR rBothL normR
set_option maxHeartbeats 2000000 in
theorem pc_rBoth (a b : List Iv) (ha : a.length ≤ 1000) (hb : b.length ≤ 1000) (hP : (pairsR a b).length ≤ 1000) (hin : ∀ y ∈ pairsR a b, ivIn y) : PC Tryz.prog 41 [LIv a, LIv b] (fun r => r = LIv (normR (pairsR a b))) := by
  refine PC_body tOk Tryz.func41 rfl Tryz.results41 rfl (by simp [Tryz.ntmps41]) ?_
  rw [Tryz.ntmps41]
  simp only [argSlots]
  repeat (first
    | (refine AWP_seq (AWP_regS tOk rfl ?_); simp)
    | (refine AWP_regS tOk rfl ?_; simp)
    | (refine AWP_skip ?_; simp)
    | (refine AWP_exit ?_; simp)
    | (refine AWP_ret ?_; simp)
    | refine AWP_block ?_
    | refine AWP_seq ?_)
  refine AWP_nilSlot 5 59 2 rfl ?_
  simp
  repeat (first
    | (refine AWP_seq (AWP_regS tOk rfl ?_); simp)
    | (refine AWP_regS tOk rfl ?_; simp)
    | (refine AWP_skip ?_; simp)
    | (refine AWP_exit ?_; simp)
    | (refine AWP_ret ?_; simp)
    | refine AWP_block ?_
    | refine AWP_seq ?_)
  refine AWP_loop (ALoop_keep (sl' := [(0, LIv a), (1, LIv b), (5, .sl 0 2 0 0), (6, .i 0)]) ?_ (by simp))
  refine ALoop_wf (F := fun (u : Nat × Nat × List Iv × List AObj) => ⟨[(0, LIv a), (1, LIv b), (5, .sl u.2.1 2 0 u.2.2.1.length), (6, .i u.1)], u.2.2.2⟩)
    (fun u => u.1 ≤ a.length ∧ u.2.2.2[u.2.1]? = some (.arr 59 2 (u.2.2.1.map encIv)) ∧ u.2.2.1 ++ pairsR (a.drop u.1) b = pairsR a b) (fun u => a.length - u.1) ?_ (0, 0, [], [.arr 59 2 []]) ⟨by simp, rfl, by simp⟩
  rintro ⟨j, q, acc, H2⟩ ⟨hj, g1, g2⟩ ih
  simp only at hj g1 g2 ih ⊢
  repeat (first
    | (refine AWP_seq (AWP_regS tOk rfl ?_); simp)
    | (refine AWP_regS tOk rfl ?_; simp)
    | (refine AWP_skip ?_; simp)
    | (refine AWP_exit ?_; simp)
    | (refine AWP_ret ?_; simp)
    | refine AWP_block ?_
    | refine AWP_seq ?_)
  refine AWP_cond2 rfl (fun hlt => ?_) (fun hge => ?_)
  · have hlt' : j < a.length := by simpa using hlt
    have hw : IntKind.i64.wrap ((j : Int) + 1) = j + 1 := wrap_i64 _ (by omega) (by omega)
    rw [drop_get hlt', pairs_cons'] at g2
    repeat (first
      | (refine AWP_seq (AWP_regS tOk rfl ?_); simp)
      | (refine AWP_regS tOk rfl ?_; simp)
      | (refine AWP_skip ?_; simp)
      | (refine AWP_exit ?_; simp)
      | (refine AWP_ret ?_; simp)
      | refine AWP_block ?_
      | refine AWP_seq ?_)
    refine AWP_loop (ALoop_keep (sl' := [(0, LIv a), (1, LIv b), (5, .sl q 2 0 acc.length), (6, .i j), (7, .i 0)]) ?_ (by simp))
    refine ALoop_wf (F := fun (u : Nat × Nat × List Iv × List AObj) => ⟨[(0, LIv a), (1, LIv b), (5, .sl u.2.1 2 0 u.2.2.1.length), (6, .i j), (7, .i u.1)], u.2.2.2⟩)
      (fun u => u.1 ≤ b.length ∧ u.2.2.2[u.2.1]? = some (.arr 59 2 (u.2.2.1.map encIv)) ∧ u.2.2.1 ++ (rowR a[j] (b.drop u.1) ++ pairsR (a.drop (j + 1)) b) = pairsR a b) (fun u => b.length - u.1) ?_ (0, q, acc, H2) ⟨by simp, g1, by simpa using g2⟩
    rintro ⟨k, q1, acc1, H3⟩ ⟨hk, e1, e2⟩ ih1
    simp only at hk e1 e2 ih1 ⊢
    repeat (first
      | (refine AWP_seq (AWP_regS tOk rfl ?_); simp)
      | (refine AWP_regS tOk rfl ?_; simp)
      | (refine AWP_skip ?_; simp)
      | (refine AWP_exit ?_; simp)
      | (refine AWP_ret ?_; simp)
      | refine AWP_block ?_
      | refine AWP_seq ?_)
    refine AWP_cond2 rfl (fun hlt1 => ?_) (fun hge1 => ?_)
    · have hlt1' : k < b.length := by simpa using hlt1
      have hw1 : IntKind.i64.wrap ((k : Int) + 1) = k + 1 := wrap_i64 _ (by omega) (by omega)
      rw [drop_get hlt1', row_cons] at e2
      have hal : acc1.length ≤ 1000 := by have := congrArg List.length e2; simp only [List.length_append] at this; omega
      obtain ⟨lo, hlo⟩ : ∃ z, (if a[j].lo < b[k].lo then b[k].lo else a[j].lo) = z := ⟨_, rfl⟩
      obtain ⟨hi, hhi⟩ : ∃ z, (if b[k].hi < a[j].hi then b[k].hi else a[j].hi) = z := ⟨_, rfl⟩
      have hm : meetR a[j] b[k] = if lo ≤ hi then some ⟨lo, hi⟩ else none := by simp only [meetR, hlo, hhi]
      rw [hm] at e2
      repeat (first
        | (refine AWP_seq (AWP_regS tOk rfl ?_); simp [hlt', hlt1'])
        | (refine AWP_regS tOk rfl ?_; simp [hlt', hlt1'])
        | (refine AWP_skip ?_; simp [hlt', hlt1'])
        | (refine AWP_exit ?_; simp [hlt', hlt1'])
        | (refine AWP_ret ?_; simp [hlt', hlt1'])
        | refine AWP_block ?_
        | refine AWP_seq ?_)
      refine AWP_drawT tOk mixed [] (.val 0 (.val 1 (.val 2 (.val 3 (.val 4 (.val 5 (.val 6 (.val 7 (.val 8 (.val 9 (.val 10 (.val 11 (.val 12 (.val 13 (.val 14 (.val 15 (.val 16 (.val 17 (.val 18 (.val 19 (.val 20 (.val 21 (.val 22 (.val 23 (.done))))))))))))))))))))))))) rfl (by kernel_rfl) ?_
      simp [hlt', hlt1', hlo, hhi]
      repeat (first
        | (refine AWP_seq (AWP_regS tOk rfl ?_); simp)
        | (refine AWP_regS tOk rfl ?_; simp)
        | (refine AWP_skip ?_; simp)
        | (refine AWP_exit ?_; simp)
        | (refine AWP_ret ?_; simp)
        | refine AWP_block ?_
        | refine AWP_seq ?_)
      refine AWP_cond2 rfl (fun h3 => ?_) (fun h3 => ?_)
      · rw [if_pos (by simpa using h3)] at e2
        repeat (first
          | (refine AWP_seq (AWP_regS tOk rfl ?_); simp)
          | (refine AWP_regS tOk rfl ?_; simp)
          | (refine AWP_skip ?_; simp)
          | (refine AWP_exit ?_; simp)
          | (refine AWP_ret ?_; simp)
          | refine AWP_block ?_
          | refine AWP_seq ?_)
        refine AStep_appendS tOk rfl rfl T22 rfl T59 rfl (by decide) (by decide) rfl rfl rfl ?_
        simp [get_app e1, set_app e1]
        refine ⟨by simp [appOk, get_app e1, set_app e1] <;> omega, ?_⟩
        repeat (first
          | (refine AWP_seq (AWP_regS tOk rfl ?_); simp [hw1])
          | (refine AWP_regS tOk rfl ?_; simp [hw1])
          | (refine AWP_skip ?_; simp [hw1])
          | (refine AWP_exit ?_; simp [hw1])
          | (refine AWP_ret ?_; simp [hw1])
          | refine AWP_block ?_
          | refine AWP_seq ?_)
        exact ALoop_keep (sl' := [(0, LIv a), (1, LIv b), (5, .sl (H3.length + 1) 2 0 (acc1.length + 1)), (6, .i j), (7, .i (k + 1 : Nat))]) (by
          have := ih1 (k + 1, H3.length + 1, acc1 ++ [(⟨lo, hi⟩ : Iv)], H3.set q1 .dead ++ [.arr 59 2 [encIv (⟨lo, hi⟩ : Iv)], .arr 59 2 ((acc1 ++ [(⟨lo, hi⟩ : Iv)]).map encIv)]) ⟨by simp; omega, by simp only; rw [List.getElem?_append_right (by simp)]; simp, by simpa using e2⟩ (by simp; omega)
          simpa using this) (by simp)
      · rw [if_neg (by simpa using h3)] at e2
        repeat (first
          | (refine AWP_seq (AWP_regS tOk rfl ?_); simp [hw1])
          | (refine AWP_regS tOk rfl ?_; simp [hw1])
          | (refine AWP_skip ?_; simp [hw1])
          | (refine AWP_exit ?_; simp [hw1])
          | (refine AWP_ret ?_; simp [hw1])
          | refine AWP_block ?_
          | refine AWP_seq ?_)
        exact ALoop_keep (sl' := [(0, LIv a), (1, LIv b), (5, .sl q1 2 0 acc1.length), (6, .i j), (7, .i (k + 1 : Nat))]) (by
          have := ih1 (k + 1, q1, acc1, H3) ⟨by simp; omega, e1, by simpa using e2⟩ (by simp; omega)
          simpa using this) (by simp)
    · have hge1' : k = b.length := by simp at hge1; omega
      subst hge1'
      rw [List.drop_length, row_nil, List.nil_append] at e2
      repeat (first
        | (refine AWP_seq (AWP_regS tOk rfl ?_); simp [hw])
        | (refine AWP_regS tOk rfl ?_; simp [hw])
        | (refine AWP_skip ?_; simp [hw])
        | (refine AWP_exit ?_; simp [hw])
        | (refine AWP_ret ?_; simp [hw])
        | refine AWP_block ?_
        | refine AWP_seq ?_)
      exact ALoop_keep (sl' := [(0, LIv a), (1, LIv b), (5, .sl q1 2 0 acc1.length), (6, .i (j + 1 : Nat))]) (by
        have := ih (j + 1, q1, acc1, H3) ⟨by simp; omega, e1, e2⟩ (by simp; omega)
        simpa using this) (by simp)
  · have hge' : j = a.length := by simp at hge; omega
    subst hge'
    rw [List.drop_length, pairs_nil, List.append_nil] at g2
    subst g2
    repeat (first
      | (refine AWP_seq (AWP_regS tOk rfl ?_); simp)
      | (refine AWP_regS tOk rfl ?_; simp)
      | (refine AWP_skip ?_; simp)
      | (refine AWP_exit ?_; simp)
      | (refine AWP_ret ?_; simp)
      | refine AWP_block ?_
      | refine AWP_seq ?_)
    refine AStep_freeze q g1 ?_
    simp
    rw [List.take_of_length_le (by simp)]
    refine AStep_PC rfl rfl (by simp) (pc_Normal (pairsR a b) hP hin) rfl ?_
    rintro _ rfl
    simp
    repeat (first
      | (refine AWP_seq (AWP_regS tOk rfl ?_); simp)
      | (refine AWP_regS tOk rfl ?_; simp)
      | (refine AWP_skip ?_; simp)
      | (refine AWP_exit ?_; simp)
      | (refine AWP_ret ?_; simp)
      | refine AWP_block ?_
      | refine AWP_seq ?_)
theorem gapFrom_cons' (x : Iv) (r : List Iv) (n : Int) : gapFrom (x :: r) n = (if n < x.lo then [⟨n, x.lo - 1⟩] else []) ++ gapFrom r (x.hi + 1) := rfl
theorem gapFrom_nil' (n : Int) : gapFrom [] n = if n ≤ 1099511627776 then [⟨n, 1099511627776⟩] else [] := rfl
theorem gaps_def (l : List Iv) : gapFrom l (-1099511627776) = gapsR l := rfl
attribute [local irreducible] gapsR gapFrom
set_option maxHeartbeats 2000000 in
theorem pc_rRest (l : List Iv) (hc : CanonL l) : PC Tryz.prog 43 [LIv l] (fun r => r = LIv (gapsR l)) := by
  refine PC_body tOk Tryz.func43 rfl Tryz.results43 rfl (by simp [Tryz.ntmps43]) ?_
  rw [Tryz.ntmps43]
  simp only [argSlots]
  have hlen := hc.len
  have hgl := (gaps_spec hc).2.2
  repeat (first
    | (refine AWP_seq (AWP_regS tOk rfl ?_); simp)
    | (refine AWP_regS tOk rfl ?_; simp)
    | (refine AWP_skip ?_; simp)
    | (refine AWP_exit ?_; simp)
    | (refine AWP_ret ?_; simp)
    | refine AWP_block ?_
    | refine AWP_seq ?_)
  refine AWP_nilSlot 3 59 2 rfl ?_
  simp
  repeat (first
    | (refine AWP_seq (AWP_regS tOk rfl ?_); simp)
    | (refine AWP_regS tOk rfl ?_; simp)
    | (refine AWP_skip ?_; simp)
    | (refine AWP_exit ?_; simp)
    | (refine AWP_ret ?_; simp)
    | refine AWP_block ?_
    | refine AWP_seq ?_)
  refine AWP_loop (ALoop_keep (sl' := [(0, LIv l), (3, .sl 0 2 0 0), (4, .i (-1099511627776)), (5, .i 0)]) ?_ (by simp))
  refine ALoop_wf (F := fun (u : Nat × Nat × List Iv × Int × List AObj) => ⟨[(0, LIv l), (3, .sl u.2.1 2 0 u.2.2.1.length), (4, .i u.2.2.2.1), (5, .i u.1)], u.2.2.2.2⟩)
    (fun u => u.1 ≤ l.length ∧ u.2.2.2.2[u.2.1]? = some (.arr 59 2 (u.2.2.1.map encIv)) ∧ u.2.2.1 ++ gapFrom (l.drop u.1) u.2.2.2.1 = gapsR l) (fun u => l.length - u.1) ?_ (0, 0, [], -1099511627776, [.arr 59 2 []]) ⟨by simp, rfl, by simp [gaps_def]⟩
  rintro ⟨j, q, acc, n, H2⟩ ⟨hj, g1, g2⟩ ih
  simp only at hj g1 g2 ih ⊢
  have hal : acc.length ≤ 257 := by have := congrArg List.length g2; simp only [List.length_append] at this; omega
  repeat (first
    | (refine AWP_seq (AWP_regS tOk rfl ?_); simp)
    | (refine AWP_regS tOk rfl ?_; simp)
    | (refine AWP_skip ?_; simp)
    | (refine AWP_exit ?_; simp)
    | (refine AWP_ret ?_; simp)
    | refine AWP_block ?_
    | refine AWP_seq ?_)
  refine AWP_cond2 rfl (fun hlt => ?_) (fun hge => ?_)
  · have hlt' : j < l.length := by simpa using hlt
    have hv := hc.iv hlt'
    have hw : IntKind.i64.wrap ((j : Int) + 1) = j + 1 := wrap_i64 _ (by omega) (by omega)
    have hw1 : IntKind.i64.wrap (l[j].lo - 1) = l[j].lo - 1 := wrap_i64 _ (by omega) (by omega)
    have hw2 : IntKind.i64.wrap (l[j].hi + 1) = l[j].hi + 1 := wrap_i64 _ (by omega) (by omega)
    rw [drop_get hlt', gapFrom_cons'] at g2
    repeat (first
      | (refine AWP_seq (AWP_regS tOk rfl ?_); simp [hlt'])
      | (refine AWP_regS tOk rfl ?_; simp [hlt'])
      | (refine AWP_skip ?_; simp [hlt'])
      | (refine AWP_exit ?_; simp [hlt'])
      | (refine AWP_ret ?_; simp [hlt'])
      | refine AWP_block ?_
      | refine AWP_seq ?_)
    refine AWP_cond2 rfl (fun h3 => ?_) (fun h3 => ?_)
    · rw [if_pos (by simpa using h3)] at g2
      repeat (first
        | (refine AWP_seq (AWP_regS tOk rfl ?_); simp [hlt', hw1])
        | (refine AWP_regS tOk rfl ?_; simp [hlt', hw1])
        | (refine AWP_skip ?_; simp [hlt', hw1])
        | (refine AWP_exit ?_; simp [hlt', hw1])
        | (refine AWP_ret ?_; simp [hlt', hw1])
        | refine AWP_block ?_
        | refine AWP_seq ?_)
      refine AStep_appendS tOk rfl rfl T22 rfl T59 rfl (by decide) (by decide) rfl rfl rfl ?_
      simp [get_app g1, set_app g1]
      refine ⟨by simp [appOk, get_app g1, set_app g1] <;> omega, ?_⟩
      repeat (first
        | (refine AWP_seq (AWP_regS tOk rfl ?_); simp [hlt', hw, hw2])
        | (refine AWP_regS tOk rfl ?_; simp [hlt', hw, hw2])
        | (refine AWP_skip ?_; simp [hlt', hw, hw2])
        | (refine AWP_exit ?_; simp [hlt', hw, hw2])
        | (refine AWP_ret ?_; simp [hlt', hw, hw2])
        | refine AWP_block ?_
        | refine AWP_seq ?_)
      exact ALoop_keep (sl' := [(0, LIv l), (3, .sl (H2.length + 1) 2 0 (acc.length + 1)), (4, .i (l[j].hi + 1)), (5, .i (j + 1 : Nat))]) (by
        have := ih (j + 1, H2.length + 1, acc ++ [(⟨n, l[j].lo - 1⟩ : Iv)], l[j].hi + 1, H2.set q .dead ++ [.arr 59 2 [encIv (⟨n, l[j].lo - 1⟩ : Iv)], .arr 59 2 ((acc ++ [(⟨n, l[j].lo - 1⟩ : Iv)]).map encIv)]) ⟨by simp; omega, by simp only; rw [List.getElem?_append_right (by simp)]; simp, by simpa using g2⟩ (by simp; omega)
        simpa using this) (by simp)
    · rw [if_neg (by simpa using h3)] at g2
      repeat (first
        | (refine AWP_seq (AWP_regS tOk rfl ?_); simp [hlt', hw, hw2])
        | (refine AWP_regS tOk rfl ?_; simp [hlt', hw, hw2])
        | (refine AWP_skip ?_; simp [hlt', hw, hw2])
        | (refine AWP_exit ?_; simp [hlt', hw, hw2])
        | (refine AWP_ret ?_; simp [hlt', hw, hw2])
        | refine AWP_block ?_
        | refine AWP_seq ?_)
      exact ALoop_keep (sl' := [(0, LIv l), (3, .sl q 2 0 acc.length), (4, .i (l[j].hi + 1)), (5, .i (j + 1 : Nat))]) (by
        have := ih (j + 1, q, acc, l[j].hi + 1, H2) ⟨by simp; omega, g1, by simpa using g2⟩ (by simp; omega)
        simpa using this) (by simp)
  · have hge' : j = l.length := by simp at hge; omega
    subst hge'
    rw [List.drop_length, gapFrom_nil'] at g2
    repeat (first
      | (refine AWP_seq (AWP_regS tOk rfl ?_); simp)
      | (refine AWP_regS tOk rfl ?_; simp)
      | (refine AWP_skip ?_; simp)
      | (refine AWP_exit ?_; simp)
      | (refine AWP_ret ?_; simp)
      | refine AWP_block ?_
      | refine AWP_seq ?_)
    refine AWP_cond2 rfl (fun h3 => ?_) (fun h3 => ?_)
    · rw [if_pos (by simpa using h3)] at g2
      rw [← g2]
      repeat (first
        | (refine AWP_seq (AWP_regS tOk rfl ?_); simp)
        | (refine AWP_regS tOk rfl ?_; simp)
        | (refine AWP_skip ?_; simp)
        | (refine AWP_exit ?_; simp)
        | (refine AWP_ret ?_; simp)
        | refine AWP_block ?_
        | refine AWP_seq ?_)
      refine AStep_appendS tOk rfl rfl T22 rfl T59 rfl (by decide) (by decide) rfl rfl rfl ?_
      simp [get_app g1, set_app g1]
      refine ⟨by simp [appOk, get_app g1, set_app g1] <;> omega, ?_⟩
      repeat (first
        | (refine AWP_seq (AWP_regS tOk rfl ?_); simp)
        | (refine AWP_regS tOk rfl ?_; simp)
        | (refine AWP_skip ?_; simp)
        | (refine AWP_exit ?_; simp)
        | (refine AWP_ret ?_; simp)
        | refine AWP_block ?_
        | refine AWP_seq ?_)
      rw [List.take_of_length_le (by simp)]
    · rw [if_neg (by simpa using h3), List.append_nil] at g2
      subst g2
      repeat (first
        | (refine AWP_seq (AWP_regS tOk rfl ?_); simp [g1])
        | (refine AWP_regS tOk rfl ?_; simp [g1])
        | (refine AWP_skip ?_; simp [g1])
        | (refine AWP_exit ?_; simp [g1])
        | (refine AWP_ret ?_; simp [g1])
        | refine AWP_block ?_
        | refine AWP_seq ?_)
      rw [List.take_of_length_le (by simp)]
end Go.Abs
set_option maxRecDepth 100000
namespace Go.Abs
open Go
def hitA (x y : Iv) : Bool := decide (y.lo < x.lo) && decide (x.lo ≤ y.hi)
def hitB (x y : Iv) : Bool := decide (x.lo ≤ y.lo) && decide (y.lo ≤ x.hi)
theorem row_len (x : Iv) : ∀ (b : List Iv), (b.filterMap (meetR x)).length ≤ b.countP (hitA x) + b.countP (hitB x)
  | [] => by simp
  | y :: b => by
    have ih := row_len x b
    rw [List.countP_cons, List.countP_cons]
    cases h : meetR x y with
    | none => rw [List.filterMap_cons_none h]; omega
    | some z =>
      rw [List.filterMap_cons_some h, List.length_cons]
      have hz := meet_some h
      have hm := (hz.2 z.lo).1 ⟨Int.le_refl _, hz.1⟩
      have : hitA x y = true ∨ hitB x y = true := by simp [hitA, hitB]; omega
      rcases this with h' | h' <;> rw [if_pos h'] <;> omega
theorem hitA_le (x : Iv) : ∀ (b : List Iv), Sep b → b.countP (hitA x) ≤ 1
  | [], _ => by simp
  | y :: b, hs => by
    rw [List.countP_cons]
    split
    · rename_i h
      simp [hitA] at h
      have : b.countP (hitA x) = 0 := List.countP_eq_zero.2 fun z hz => by
        have := (List.pairwise_cons.1 hs.2).1 z hz
        simp [hitA]; omega
      omega
    · have := hitA_le x b hs.tail; omega
theorem hitB_one (y : Iv) : ∀ (a : List Iv), Sep a → a.countP (fun x => hitB x y) ≤ 1
  | [], _ => by simp
  | x :: a, hs => by
    rw [List.countP_cons]
    split
    · rename_i h
      simp [hitB] at h
      have : a.countP (fun x => hitB x y) = 0 := List.countP_eq_zero.2 fun z hz => by
        have := (List.pairwise_cons.1 hs.2).1 z hz
        simp [hitB]; omega
      omega
    · have := hitB_one y a hs.tail; omega
theorem hitB_sum (a : List Iv) (ha : Sep a) : ∀ (b : List Iv), (a.map fun x => b.countP (hitB x)).sum ≤ b.length
  | [] => by
    have : ∀ a : List Iv, (a.map fun x => ([] : List Iv).countP (hitB x)).sum = 0 := fun a => by
      induction a with
      | nil => rfl
      | cons x a ih => simpa using ih
    rw [this]; simp
  | y :: b => by
    have ih := hitB_sum a ha b
    have h1 := hitB_one y a ha
    have : ∀ a : List Iv, (a.map fun x => (y :: b).countP (hitB x)).sum = (a.map fun x => b.countP (hitB x)).sum + a.countP (fun x => hitB x y) := fun a => by
      induction a with
      | nil => rfl
      | cons x a ih =>
        rw [List.map_cons, List.sum_cons, ih, List.map_cons, List.sum_cons, List.countP_cons, List.countP_cons]
        omega
    rw [this, List.length_cons]; omega
/-- Overlaps of two separate lists are few. -/
theorem pairs_len (a b : List Iv) (ha : Sep a) (hb : Sep b) : (pairsR a b).length ≤ a.length + b.length := by
  have h : ∀ a : List Iv, (pairsR a b).length ≤ a.length + (a.map fun x => b.countP (hitB x)).sum := fun a => by
    induction a with
    | nil => simp [pairsR]
    | cons x a ih =>
      have e : pairsR (x :: a) b = b.filterMap (meetR x) ++ pairsR a b := rfl
      have h1 := row_len x b
      have h2 := hitA_le x b hb
      rw [e, List.length_append, List.map_cons, List.sum_cons, List.length_cons]
      omega
  have h1 := h a
  have h2 := hitB_sum a ha b
  omega
theorem pairs_in {a b : List Iv} (h : (∀ x ∈ a, ivIn x) ∨ (∀ y ∈ b, ivIn y)) : ∀ z ∈ pairsR a b, ivIn z := by
  intro z hz
  have hp := pairs_spec a b
  have hf := hp.1 z hz
  have m1 := (hp.2 z.lo).1 ⟨z, hz, Int.le_refl _, hf⟩
  have m2 := (hp.2 z.hi).1 ⟨z, hz, hf, Int.le_refl _⟩
  have key : ∀ l : List Iv, (∀ x ∈ l, ivIn x) → ∀ n, M l n → inB n = true := fun l hl n ⟨x, hx, h1, h2⟩ => by
    have h3 := (inB_iff _).1 (hl x hx).1
    have h4 := (inB_iff _).1 (hl x hx).2
    exact (inB_iff _).2 (by omega)
  rcases h with h | h
  · exact ⟨key a h _ m1.1, key a h _ m2.1⟩
  · exact ⟨key b h _ m1.2, key b h _ m2.2⟩
end Go.Abs
set_option maxRecDepth 100000
namespace Go.Abs
open Go Go.Proofs
set_option linter.unusedSimpArgs false
theorem lim_form (l : List Iv) : ∃ s n, limR l = .tup [LIv s, .i n] := by
  unfold limR
  split
  · exact ⟨_, _, rfl⟩
  · exact ⟨[], 5, rfl⟩
theorem comb_pos (op : Bool → Bool → Bool) {a b : List Iv} (h : bothR a b = 0) : combR op a b = limR (sweepR op a b) := by rw [combR, if_pos h]
theorem comb_neg (op : Bool → Bool → Bool) {a b : List Iv} (h : ¬ bothR a b = 0) : combR op a b = .tup [.list [], .i (bothR a b)] := by rw [combR, if_neg h]
theorem compl_pos {a : List Iv} (h : ckR a = 0) : complR a = limR (gapsR a) := by rw [complR, if_pos h]
theorem compl_neg {a : List Iv} (h : ¬ ckR a = 0) : complR a = .tup [.list [], .i (ckR a)] := by rw [complR, if_neg h]
theorem both_def (a b : List Iv) : normR (pairsR a b) = rBothL a b := rfl
attribute [local irreducible] ckR hasR pairsR rBothL normR gapsR bothR sweepR limR combR complR
theorem pc_rBoth' (a b : List Iv) (ha : Sep a) (hb : Sep b) (hla : a.length ≤ 260) (hlb : b.length ≤ 260) (hi : ∀ x ∈ a, ivIn x) : PC Tryz.prog 41 [LIv a, LIv b] (fun r => r = LIv (rBothL a b)) := by
  have := pc_rBoth a b (by omega) (by omega) (by have := pairs_len a b ha hb; omega) (pairs_in (.inl hi))
  rw [both_def] at this
  exact this
set_option maxHeartbeats 1000000 in
theorem pc_rUnion (a b : List Iv) : PC Tryz.prog 10 [LIv a, LIv b] (fun r => r = combR opUnion a b) := by
  refine PC_body tOk Tryz.func10 rfl Tryz.results10 rfl (by simp [Tryz.ntmps10]) ?_
  rw [Tryz.ntmps10]
  simp only [argSlots]
  repeat (first
    | (refine AWP_seq (AWP_regS tOk rfl ?_); simp)
    | (refine AWP_regS tOk rfl ?_; simp)
    | (refine AWP_skip ?_; simp)
    | (refine AWP_exit ?_; simp)
    | (refine AWP_ret ?_; simp)
    | refine AWP_block ?_
    | refine AWP_seq ?_)
  refine AStep_PC rfl rfl (by simp) (pc_rTwo a b) rfl ?_
  rintro _ rfl
  simp
  repeat (first
    | (refine AWP_seq (AWP_regS tOk rfl ?_); simp)
    | (refine AWP_regS tOk rfl ?_; simp)
    | (refine AWP_skip ?_; simp)
    | (refine AWP_exit ?_; simp)
    | (refine AWP_ret ?_; simp)
    | refine AWP_block ?_
    | refine AWP_seq ?_)
  refine AWP_cond2 rfl (fun h => ?_) (fun h => ?_)
  · repeat (first
      | (refine AWP_seq (AWP_regS tOk rfl ?_); simp)
      | (refine AWP_regS tOk rfl ?_; simp)
      | (refine AWP_skip ?_; simp)
      | (refine AWP_exit ?_; simp)
      | (refine AWP_ret ?_; simp)
      | refine AWP_block ?_
      | refine AWP_seq ?_)
    rw [comb_neg _ (by simpa using h)]
  have h0 : bothR a b = 0 := by simpa using h
  obtain ⟨h1, h2⟩ := both_zero h0
  have hl1 := h1.len
  have hl2 := h2.len
  rw [comb_pos _ h0, union_eq h1 h2]
  repeat (first
    | (refine AWP_seq (AWP_regS tOk rfl ?_); simp)
    | (refine AWP_regS tOk rfl ?_; simp)
    | (refine AWP_skip ?_; simp)
    | (refine AWP_exit ?_; simp)
    | (refine AWP_ret ?_; simp)
    | refine AWP_block ?_
    | refine AWP_seq ?_)
  refine AStep_appendS tOk rfl rfl T22 rfl T59 rfl (by decide) (by decide) rfl rfl rfl ?_
  simp
  refine ⟨by simp [appOk] <;> omega, ?_⟩
  refine AStep_appendS tOk rfl rfl T22 rfl T59 rfl (by decide) (by decide) rfl rfl rfl ?_
  simp
  refine ⟨by simp [appOk] <;> omega, ?_⟩
  refine AStep_freeze 2 rfl ?_
  simp
  rw [List.take_of_length_le (by simp), ← List.map_append]
  refine AStep_PC rfl rfl (by simp) (pc_Normal (a ++ b) (by simp; omega) (fun y hy => (List.mem_append.1 hy).elim (canon_in h1 y) (canon_in h2 y))) rfl ?_
  rintro _ rfl
  simp
  obtain ⟨s, n, e⟩ := lim_form (normR (a ++ b))
  rw [e]
  refine AStep_PC rfl rfl (by simp) (pc_rLimited (normR (a ++ b))) rfl ?_
  rintro _ rfl
  simp [e]
  repeat (first
    | (refine AWP_seq (AWP_regS tOk rfl ?_); simp)
    | (refine AWP_regS tOk rfl ?_; simp)
    | (refine AWP_skip ?_; simp)
    | (refine AWP_exit ?_; simp)
    | (refine AWP_ret ?_; simp)
    | refine AWP_block ?_
    | refine AWP_seq ?_)
set_option maxHeartbeats 1000000 in
theorem pc_rIntersect (a b : List Iv) : PC Tryz.prog 12 [LIv a, LIv b] (fun r => r = combR opInter a b) := by
  refine PC_body tOk Tryz.func12 rfl Tryz.results12 rfl (by simp [Tryz.ntmps12]) ?_
  rw [Tryz.ntmps12]
  simp only [argSlots]
  repeat (first
    | (refine AWP_seq (AWP_regS tOk rfl ?_); simp)
    | (refine AWP_regS tOk rfl ?_; simp)
    | (refine AWP_skip ?_; simp)
    | (refine AWP_exit ?_; simp)
    | (refine AWP_ret ?_; simp)
    | refine AWP_block ?_
    | refine AWP_seq ?_)
  refine AStep_PC rfl rfl (by simp) (pc_rTwo a b) rfl ?_
  rintro _ rfl
  simp
  repeat (first
    | (refine AWP_seq (AWP_regS tOk rfl ?_); simp)
    | (refine AWP_regS tOk rfl ?_; simp)
    | (refine AWP_skip ?_; simp)
    | (refine AWP_exit ?_; simp)
    | (refine AWP_ret ?_; simp)
    | refine AWP_block ?_
    | refine AWP_seq ?_)
  refine AWP_cond2 rfl (fun h => ?_) (fun h => ?_)
  · repeat (first
      | (refine AWP_seq (AWP_regS tOk rfl ?_); simp)
      | (refine AWP_regS tOk rfl ?_; simp)
      | (refine AWP_skip ?_; simp)
      | (refine AWP_exit ?_; simp)
      | (refine AWP_ret ?_; simp)
      | refine AWP_block ?_
      | refine AWP_seq ?_)
    rw [comb_neg _ (by simpa using h)]
  have h0 : bothR a b = 0 := by simpa using h
  obtain ⟨h1, h2⟩ := both_zero h0
  have hl1 := h1.len
  have hl2 := h2.len
  rw [comb_pos _ h0, inter_eq]
  repeat (first
    | (refine AWP_seq (AWP_regS tOk rfl ?_); simp)
    | (refine AWP_regS tOk rfl ?_; simp)
    | (refine AWP_skip ?_; simp)
    | (refine AWP_exit ?_; simp)
    | (refine AWP_ret ?_; simp)
    | refine AWP_block ?_
    | refine AWP_seq ?_)
  refine AStep_PC rfl rfl (by simp) (pc_rBoth' a b (canon_sep h1) (canon_sep h2) (by omega) (by omega) (canon_in h1)) rfl ?_
  rintro _ rfl
  simp
  obtain ⟨s, n, e⟩ := lim_form (rBothL a b)
  rw [e]
  refine AStep_PC rfl rfl (by simp) (pc_rLimited (rBothL a b)) rfl ?_
  rintro _ rfl
  simp [e]
  repeat (first
    | (refine AWP_seq (AWP_regS tOk rfl ?_); simp)
    | (refine AWP_regS tOk rfl ?_; simp)
    | (refine AWP_skip ?_; simp)
    | (refine AWP_exit ?_; simp)
    | (refine AWP_ret ?_; simp)
    | refine AWP_block ?_
    | refine AWP_seq ?_)
set_option maxHeartbeats 1000000 in
theorem pc_rMinus (a b : List Iv) : PC Tryz.prog 14 [LIv a, LIv b] (fun r => r = combR opMinus a b) := by
  refine PC_body tOk Tryz.func14 rfl Tryz.results14 rfl (by simp [Tryz.ntmps14]) ?_
  rw [Tryz.ntmps14]
  simp only [argSlots]
  repeat (first
    | (refine AWP_seq (AWP_regS tOk rfl ?_); simp)
    | (refine AWP_regS tOk rfl ?_; simp)
    | (refine AWP_skip ?_; simp)
    | (refine AWP_exit ?_; simp)
    | (refine AWP_ret ?_; simp)
    | refine AWP_block ?_
    | refine AWP_seq ?_)
  refine AStep_PC rfl rfl (by simp) (pc_rTwo a b) rfl ?_
  rintro _ rfl
  simp
  repeat (first
    | (refine AWP_seq (AWP_regS tOk rfl ?_); simp)
    | (refine AWP_regS tOk rfl ?_; simp)
    | (refine AWP_skip ?_; simp)
    | (refine AWP_exit ?_; simp)
    | (refine AWP_ret ?_; simp)
    | refine AWP_block ?_
    | refine AWP_seq ?_)
  refine AWP_cond2 rfl (fun h => ?_) (fun h => ?_)
  · repeat (first
      | (refine AWP_seq (AWP_regS tOk rfl ?_); simp)
      | (refine AWP_regS tOk rfl ?_; simp)
      | (refine AWP_skip ?_; simp)
      | (refine AWP_exit ?_; simp)
      | (refine AWP_ret ?_; simp)
      | refine AWP_block ?_
      | refine AWP_seq ?_)
    rw [comb_neg _ (by simpa using h)]
  have h0 : bothR a b = 0 := by simpa using h
  obtain ⟨h1, h2⟩ := both_zero h0
  have hl1 := h1.len
  have hl2 := h2.len
  have hg := gaps_spec h2
  rw [comb_pos _ h0, minus_eq h1 h2]
  repeat (first
    | (refine AWP_seq (AWP_regS tOk rfl ?_); simp)
    | (refine AWP_regS tOk rfl ?_; simp)
    | (refine AWP_skip ?_; simp)
    | (refine AWP_exit ?_; simp)
    | (refine AWP_ret ?_; simp)
    | refine AWP_block ?_
    | refine AWP_seq ?_)
  refine AStep_PC rfl rfl (by simp) (pc_rRest b h2) rfl ?_
  rintro _ rfl
  simp
  refine AStep_PC rfl rfl (by simp) (pc_rBoth' a (gapsR b) (canon_sep h1) hg.1 (by omega) (by omega) (canon_in h1)) rfl ?_
  rintro _ rfl
  simp
  obtain ⟨s, n, e⟩ := lim_form (rBothL a (gapsR b))
  rw [e]
  refine AStep_PC rfl rfl (by simp) (pc_rLimited (rBothL a (gapsR b))) rfl ?_
  rintro _ rfl
  simp [e]
  repeat (first
    | (refine AWP_seq (AWP_regS tOk rfl ?_); simp)
    | (refine AWP_regS tOk rfl ?_; simp)
    | (refine AWP_skip ?_; simp)
    | (refine AWP_exit ?_; simp)
    | (refine AWP_ret ?_; simp)
    | refine AWP_block ?_
    | refine AWP_seq ?_)
set_option maxHeartbeats 1000000 in
theorem pc_rComplement (a : List Iv) : PC Tryz.prog 16 [LIv a] (fun r => r = complR a) := by
  refine PC_body tOk Tryz.func16 rfl Tryz.results16 rfl (by simp [Tryz.ntmps16]) ?_
  rw [Tryz.ntmps16]
  simp only [argSlots]
  repeat (first
    | (refine AWP_seq (AWP_regS tOk rfl ?_); simp)
    | (refine AWP_regS tOk rfl ?_; simp)
    | (refine AWP_skip ?_; simp)
    | (refine AWP_exit ?_; simp)
    | (refine AWP_ret ?_; simp)
    | refine AWP_block ?_
    | refine AWP_seq ?_)
  refine AStep_PC rfl rfl (by simp) (pc_rCheck a) rfl ?_
  rintro _ rfl
  simp
  repeat (first
    | (refine AWP_seq (AWP_regS tOk rfl ?_); simp)
    | (refine AWP_regS tOk rfl ?_; simp)
    | (refine AWP_skip ?_; simp)
    | (refine AWP_exit ?_; simp)
    | (refine AWP_ret ?_; simp)
    | refine AWP_block ?_
    | refine AWP_seq ?_)
  refine AWP_cond2 rfl (fun h => ?_) (fun h => ?_)
  · repeat (first
      | (refine AWP_seq (AWP_regS tOk rfl ?_); simp)
      | (refine AWP_regS tOk rfl ?_; simp)
      | (refine AWP_skip ?_; simp)
      | (refine AWP_exit ?_; simp)
      | (refine AWP_ret ?_; simp)
      | refine AWP_block ?_
      | refine AWP_seq ?_)
    rw [compl_neg (by simpa using h)]
  have h0 : ckR a = 0 := by simpa using h
  have h1 := (ck_iff a).1 h0
  rw [compl_pos h0]
  repeat (first
    | (refine AWP_seq (AWP_regS tOk rfl ?_); simp)
    | (refine AWP_regS tOk rfl ?_; simp)
    | (refine AWP_skip ?_; simp)
    | (refine AWP_exit ?_; simp)
    | (refine AWP_ret ?_; simp)
    | refine AWP_block ?_
    | refine AWP_seq ?_)
  refine AStep_PC rfl rfl (by simp) (pc_rRest a h1) rfl ?_
  rintro _ rfl
  simp
  obtain ⟨s, n, e⟩ := lim_form (gapsR a)
  rw [e]
  refine AStep_PC rfl rfl (by simp) (pc_rLimited (gapsR a)) rfl ?_
  rintro _ rfl
  simp [e]
  repeat (first
    | (refine AWP_seq (AWP_regS tOk rfl ?_); simp)
    | (refine AWP_regS tOk rfl ?_; simp)
    | (refine AWP_skip ?_; simp)
    | (refine AWP_exit ?_; simp)
    | (refine AWP_ret ?_; simp)
    | refine AWP_block ?_
    | refine AWP_seq ?_)
set_option maxHeartbeats 1000000 in
theorem pc_rInside (a b : List Iv) : PC Tryz.prog 31 [LIv a, LIv b] (fun r => r = .tup [.bool (insideR a b).1, .i (insideR a b).2]) := by
  refine PC_body tOk Tryz.func31 rfl Tryz.results31 rfl (by simp [Tryz.ntmps31]) ?_
  rw [Tryz.ntmps31]
  simp only [argSlots]
  repeat (first
    | (refine AWP_seq (AWP_regS tOk rfl ?_); simp)
    | (refine AWP_regS tOk rfl ?_; simp)
    | (refine AWP_skip ?_; simp)
    | (refine AWP_exit ?_; simp)
    | (refine AWP_ret ?_; simp)
    | refine AWP_block ?_
    | refine AWP_seq ?_)
  refine AStep_PC rfl rfl (by simp) (pc_rTwo a b) rfl ?_
  rintro _ rfl
  simp
  repeat (first
    | (refine AWP_seq (AWP_regS tOk rfl ?_); simp)
    | (refine AWP_regS tOk rfl ?_; simp)
    | (refine AWP_skip ?_; simp)
    | (refine AWP_exit ?_; simp)
    | (refine AWP_ret ?_; simp)
    | refine AWP_block ?_
    | refine AWP_seq ?_)
  refine AWP_cond2 rfl (fun h => ?_) (fun h => ?_)
  · repeat (first
      | (refine AWP_seq (AWP_regS tOk rfl ?_); simp)
      | (refine AWP_regS tOk rfl ?_; simp)
      | (refine AWP_skip ?_; simp)
      | (refine AWP_exit ?_; simp)
      | (refine AWP_ret ?_; simp)
      | refine AWP_block ?_
      | refine AWP_seq ?_)
    rw [insideR, if_neg (by simpa using h)]; exact ⟨rfl, rfl⟩
  have h0 : bothR a b = 0 := by simpa using h
  obtain ⟨h1, h2⟩ := both_zero h0
  have hl1 := h1.len
  have hl2 := h2.len
  rw [insideR, if_pos h0, inside_eq b h1]
  repeat (first
    | (refine AWP_seq (AWP_regS tOk rfl ?_); simp)
    | (refine AWP_regS tOk rfl ?_; simp)
    | (refine AWP_skip ?_; simp)
    | (refine AWP_exit ?_; simp)
    | (refine AWP_ret ?_; simp)
    | refine AWP_block ?_
    | refine AWP_seq ?_)
  refine AStep_PC rfl rfl (by simp) (pc_rBoth' a b (canon_sep h1) (canon_sep h2) (by omega) (by omega) (canon_in h1)) rfl ?_
  rintro _ rfl
  simp
  refine AStep_PC rfl rfl (by simp) (pc_Same (rBothL a b) a) rfl ?_
  rintro _ rfl
  simp
  repeat (first
    | (refine AWP_seq (AWP_regS tOk rfl ?_); simp)
    | (refine AWP_regS tOk rfl ?_; simp)
    | (refine AWP_skip ?_; simp)
    | (refine AWP_exit ?_; simp)
    | (refine AWP_ret ?_; simp)
    | refine AWP_block ?_
    | refine AWP_seq ?_)
end Go.Abs
set_option maxRecDepth 100000
namespace Go.Abs
open Go Go.Proofs
set_option linter.unusedSimpArgs false
theorem good_of {ls : List (List Iv)} (h : goodR ls = true) : ∀ l ∈ ls, l.length ≤ 12 ∧ CanonL l := fun l hl => by
  have := List.all_eq_true.1 h l hl
  simp only [goodR1, Bool.and_eq_true, decide_eq_true_eq] at this
  exact ⟨by omega, (ck_iff l).1 this.2⟩
theorem con_of {l : List Iv} (h : CanonL l) (n : Int) : conR l n = (hasR l n, 0) := by rw [conR, if_pos ((ck_iff l).2 h)]
theorem both_of {a b : List Iv} (ha : CanonL a) (hb : CanonL b) : bothR a b = 0 := by rw [bothR, if_pos ((ck_iff a).2 ha), (ck_iff b).2 hb]
theorem comb_of (op : Bool → Bool → Bool) (h0 : op false false = false) {a b : List Iv} (ha : CanonL a) (hb : CanonL b) (hl : 2 * (a.length + b.length) ≤ 256) : combR op a b = .tup [LIv (sweepR op a b), .i 0] := by
  rw [combR, if_pos (both_of ha hb), limR, if_pos (sweep_canon op h0 ha hb hl).len]
theorem compl_of {a : List Iv} (ha : CanonL a) (hl : a.length + 1 ≤ 256) : complR a = .tup [LIv (gapsR a), .i 0] := by
  rw [complR, if_pos ((ck_iff a).2 ha), limR, if_pos (gaps_canon ha hl).len]
theorem sweep_len (op : Bool → Bool → Bool) (h0 : op false false = false) (a b : List Iv) : (sweepR op a b).length ≤ 2 * (a.length + b.length) := (sweep_spec op h0 a b).2.2
theorem gaps_len {a : List Iv} (ha : CanonL a) : (gapsR a).length ≤ a.length + 1 := (gaps_spec ha).2.2
end Go.Abs
set_option maxRecDepth 100000
namespace Go.Abs
open Go
def wordsR (s : List UInt8) : List (List UInt8) := Lib.split s [32]
theorem idx_cases (s sub : List UInt8) (h : sub ≠ []) : Lib.index s sub = -1 ∨ ∃ i : Nat, Lib.index s sub = i ∧ i + sub.length ≤ s.length := by
  induction s with
  | nil =>
    left
    cases sub with
    | nil => exact absurd rfl h
    | cons a t => rfl
  | cons b l ih =>
    unfold Lib.index
    split
    · rename_i hp
      refine .inr ⟨0, rfl, ?_⟩
      have := (List.isPrefixOf_iff_prefix.1 hp).length_le
      omega
    · split
      · exact .inl rfl
      · rename_i h1
        rcases ih with e | ⟨i, e, hi⟩
        · rw [e] at h1; exact absurd rfl h1
        · exact .inr ⟨i + 1, by rw [e]; rfl, by rw [List.length_cons]; omega⟩
theorem words_miss (s : List UInt8) (h : Lib.index s [32] = -1) : wordsR s = [s] := by
  unfold wordsR Lib.split
  generalize Lib.count s [32] = k
  cases k with
  | zero => rfl
  | succ k => rw [Lib.splitK, if_pos (by rw [h]; rfl)]
theorem words_hit (s : List UInt8) (i : Nat) (h : Lib.index s [32] = i) : wordsR s = s.take i :: wordsR (s.drop (i + 1)) := by
  have hc := Lib.count_hit (s := s) (sub := [32]) (i := i) (by simp) h
  have hm : ¬ (Lib.index s [32] == -1) = true := fun e => by have := beq_iff_eq.1 e; omega
  have e : (Lib.index s [32]).toNat = i := by omega
  unfold wordsR Lib.split
  rw [hc, Nat.add_comm, Lib.splitK, if_neg hm, e]
  rfl
theorem words_len : ∀ (n : Nat) (s : List UInt8), s.length ≤ n → (wordsR s).length ≤ s.length + 1 ∧ ∀ w ∈ wordsR s, w.length ≤ s.length
  | n, s, hn => by
    rcases idx_cases s [32] (by simp) with h | ⟨i, h, hi⟩
    · rw [words_miss s h]; simp
    · rw [words_hit s i h]
      have hi' : i + 1 ≤ s.length := by simpa using hi
      cases n with
      | zero => omega
      | succ n =>
        have ih := words_len n (s.drop (i + 1)) (by rw [List.length_drop]; omega)
        rw [List.length_drop] at ih
        refine ⟨by rw [List.length_cons]; omega, fun w hw => ?_⟩
        rcases List.mem_cons.1 hw with rfl | hw
        · rw [List.length_take]; omega
        · have := ih.2 w hw; omega
end Go.Abs
/-
  DERIVED: THE SHELF's CONTRACTS AT THIS DUMP, IN PLAIN WORDS (tools/lay-plain.mjs out of 'TryzShelf.lean', which tools/lay-shelf.mjs wrote): THE SAME DECLARATIONS UNDER THE SAME NAMES: 'import', 'namespace', 'open', 'def', 'theorem' AND NOTHING ELSE: no command of the shelf's: FOR A HAND-IN. Each laying: the table of numbers ('.._ren') and one theorem, a field a fact of the dump's own or the kernel's comparison; each contract: ONE APPLICATION.
-/
namespace Go.Proofs
open Go.Shelf
def Tryz.lays143_ren : Go.Shelf.Ren := ⟨fun | 143 => 83 | 219 => 104 | 217 => 137 | 225 => 138 | 224 => 139 | 267 => 140 | 266 => 167 | 314 => 168 | n => n, fun | 9 => 9 | 3 => 3 | 4 => 4 | 5 => 5 | 46 => 115 | 146 => 185 | 51 => 154 | n => n, fun | 1 => 0 | n => n⟩
theorem Tryz.lays143 : Go.Proofs.Lays.n143 Tryz.prog Tryz.lays143_ren := {
  mixed := by kernel_rfl
  f143 := Tryz.func83.trans (congrArg some (by kernel_rfl))
  f217 := Tryz.func137.trans (congrArg some (by kernel_rfl))
  f219 := Tryz.func104.trans (congrArg some (by kernel_rfl))
  f224 := Tryz.func139.trans (congrArg some (by kernel_rfl))
  f225 := Tryz.func138.trans (congrArg some (by kernel_rfl))
  f266 := Tryz.func167.trans (congrArg some (by kernel_rfl))
  f267 := Tryz.func140.trans (congrArg some (by kernel_rfl))
  f314 := Tryz.func168.trans (congrArg some (by kernel_rfl))
  t3 := Tryz.underlying3
  a3 := Tryz.isAgg3
  z3 := Tryz.sizeOf3
  v3 := Tryz.zeroValue3
  t4 := Tryz.underlying4
  a4 := Tryz.isAgg4
  z4 := Tryz.sizeOf4
  v4 := Tryz.zeroValue4
  t5 := Tryz.underlying5
  a5 := Tryz.isAgg5
  z5 := Tryz.sizeOf5
  v5 := Tryz.zeroValue5
  t9 := Tryz.underlying9
  a9 := Tryz.isAgg9
  z9 := Tryz.sizeOf9
  v9 := Tryz.zeroValue9
  t46 := Tryz.underlying115
  a46 := Tryz.isAgg115
  z46 := Tryz.sizeOf115
  v46 := Tryz.zeroValue115
  t51 := Tryz.underlying154
  a51 := Tryz.isAgg154
  z51 := Tryz.sizeOf154
  v51 := Tryz.zeroValue154
  t146 := Tryz.underlying185
  a146 := Tryz.isAgg185
  z146 := Tryz.sizeOf185
  v146 := Tryz.zeroValue185
  g1 := by kernel_rfl }
open Go.RowKit Go.Lib in
/-- strings.Index: "Index returns the index of the first instance of substr in s, or -1 if substr is not present in s.": IT RETURNS 'Lib.index s substr'; the world is as it was. (LAID: no walk: one application.) -/
theorem Tryz.strings_Index (s sub : ByteArray) (m : Int) (w : World) (hs : s.size < 4294967281) (hm : w.cell? ⟨0, 0, none⟩ = some (.int .i64 m)) :
    Calls Tryz.prog 83 #[.string s, .string sub] w fun e w' => e = .returned (.int .i64 (Lib.index s.data.toList sub.data.toList)) ∧ w' = w := Any.strings_Index Tryz.lays143 s sub m w hs hm
def Tryz.lays145_ren : Go.Shelf.Ren := ⟨fun | 145 => 77 | 220 => 95 | 219 => 104 | 217 => 137 | 225 => 138 | 224 => 139 | 267 => 140 | 266 => 167 | 314 => 168 | n => n, fun | 9 => 9 | 4 => 4 | 59 => 103 | 3 => 3 | 5 => 5 | 46 => 115 | 146 => 185 | 51 => 154 | n => n, fun | 1 => 0 | n => n⟩
theorem Tryz.lays145 : Go.Proofs.Lays.n145 Tryz.prog Tryz.lays145_ren := {
  mixed := by kernel_rfl
  f145 := Tryz.func77.trans (congrArg some (by kernel_rfl))
  f217 := Tryz.func137.trans (congrArg some (by kernel_rfl))
  f219 := Tryz.func104.trans (congrArg some (by kernel_rfl))
  f220 := Tryz.func95.trans (congrArg some (by kernel_rfl))
  f224 := Tryz.func139.trans (congrArg some (by kernel_rfl))
  f225 := Tryz.func138.trans (congrArg some (by kernel_rfl))
  f266 := Tryz.func167.trans (congrArg some (by kernel_rfl))
  f267 := Tryz.func140.trans (congrArg some (by kernel_rfl))
  f314 := Tryz.func168.trans (congrArg some (by kernel_rfl))
  t3 := Tryz.underlying3
  a3 := Tryz.isAgg3
  z3 := Tryz.sizeOf3
  v3 := Tryz.zeroValue3
  t4 := Tryz.underlying4
  a4 := Tryz.isAgg4
  z4 := Tryz.sizeOf4
  v4 := Tryz.zeroValue4
  t5 := Tryz.underlying5
  a5 := Tryz.isAgg5
  z5 := Tryz.sizeOf5
  v5 := Tryz.zeroValue5
  t9 := Tryz.underlying9
  a9 := Tryz.isAgg9
  z9 := Tryz.sizeOf9
  v9 := Tryz.zeroValue9
  t46 := Tryz.underlying115
  a46 := Tryz.isAgg115
  z46 := Tryz.sizeOf115
  v46 := Tryz.zeroValue115
  t51 := Tryz.underlying154
  a51 := Tryz.isAgg154
  z51 := Tryz.sizeOf154
  v51 := Tryz.zeroValue154
  t59 := Tryz.underlying103
  a59 := Tryz.isAgg103
  z59 := Tryz.sizeOf103
  v59 := Tryz.zeroValue103
  t146 := Tryz.underlying185
  a146 := Tryz.isAgg185
  z146 := Tryz.sizeOf185
  v146 := Tryz.zeroValue185
  g1 := by kernel_rfl }
open Go.RowKit Go.Lib in
/-- strings.Cut: "Cut slices s around the first instance of sep, returning the text before and after sep. The found result reports whether sep appears in s. If sep does not appear in s, cut returns s, "", false.": IT RETURNS 'Lib.cut s sep'; the world is as it was but for the count of draws. (LAID: no walk: one application.) -/
theorem Tryz.strings_Cut (s sep : ByteArray) (m : Int) (w : World) (hs : s.size < 4294967281) (hm : w.cell? ⟨0, 0, none⟩ = some (.int .i64 m)) :
    Calls Tryz.prog 77 #[.string s, .string sep] w fun e w' => e = .returned (.tuple #[.string ⟨(Lib.cut s.data.toList sep.data.toList).1.toArray⟩, .string ⟨(Lib.cut s.data.toList sep.data.toList).2.1.toArray⟩, .bool (Lib.cut s.data.toList sep.data.toList).2.2]) ∧ ∃ n, w' = w.drewN n := Any.strings_Cut Tryz.lays145 s sep m w hs hm
def Tryz.lays146_ren : Go.Shelf.Ren := ⟨fun | 146 => 60 | 221 => 82 | 268 => 102 | 138 => 103 | 143 => 83 | 195 => 135 | 197 => 94 | 218 => 136 | 219 => 104 | 260 => 113 | 217 => 137 | 225 => 138 | 224 => 139 | 267 => 140 | 266 => 167 | 314 => 168 | n => n, fun | 9 => 9 | 31 => 71 | 3 => 3 | 4 => 4 | 0 => 0 | 105 => 119 | 21 => 21 | 5 => 5 | 46 => 115 | 119 => 166 | 139 => 169 | 138 => 168 | 146 => 185 | 51 => 154 | n => n, fun | 1 => 0 | 3 => 2 | 4 => 3 | n => n⟩
theorem Tryz.lays146 : Go.Proofs.Lays.n146 Tryz.prog Tryz.lays146_ren := {
  mixed := by kernel_rfl
  f138 := Tryz.func103.trans (congrArg some (by kernel_rfl))
  f143 := Tryz.func83.trans (congrArg some (by kernel_rfl))
  f146 := Tryz.func60.trans (congrArg some (by kernel_rfl))
  f195 := Tryz.func135.trans (congrArg some (by kernel_rfl))
  f197 := Tryz.func94.trans (congrArg some (by kernel_rfl))
  f217 := Tryz.func137.trans (congrArg some (by kernel_rfl))
  f218 := Tryz.func136.trans (congrArg some (by kernel_rfl))
  f219 := Tryz.func104.trans (congrArg some (by kernel_rfl))
  f221 := Tryz.func82.trans (congrArg some (by kernel_rfl))
  f224 := Tryz.func139.trans (congrArg some (by kernel_rfl))
  f225 := Tryz.func138.trans (congrArg some (by kernel_rfl))
  f260 := Tryz.func113.trans (congrArg some (by kernel_rfl))
  f266 := Tryz.func167.trans (congrArg some (by kernel_rfl))
  f267 := Tryz.func140.trans (congrArg some (by kernel_rfl))
  f268 := Tryz.func102.trans (congrArg some (by kernel_rfl))
  f314 := Tryz.func168.trans (congrArg some (by kernel_rfl))
  t0 := Tryz.underlying0
  a0 := Tryz.isAgg0
  z0 := Tryz.sizeOf0
  v0 := Tryz.zeroValue0
  t3 := Tryz.underlying3
  a3 := Tryz.isAgg3
  z3 := Tryz.sizeOf3
  v3 := Tryz.zeroValue3
  t4 := Tryz.underlying4
  a4 := Tryz.isAgg4
  z4 := Tryz.sizeOf4
  v4 := Tryz.zeroValue4
  t5 := Tryz.underlying5
  a5 := Tryz.isAgg5
  z5 := Tryz.sizeOf5
  v5 := Tryz.zeroValue5
  t9 := Tryz.underlying9
  a9 := Tryz.isAgg9
  z9 := Tryz.sizeOf9
  v9 := Tryz.zeroValue9
  t21 := Tryz.underlying21
  a21 := Tryz.isAgg21
  z21 := Tryz.sizeOf21
  v21 := Tryz.zeroValue21
  t31 := Tryz.underlying71
  a31 := Tryz.isAgg71
  z31 := Tryz.sizeOf71
  v31 := Tryz.zeroValue71
  t46 := Tryz.underlying115
  a46 := Tryz.isAgg115
  z46 := Tryz.sizeOf115
  v46 := Tryz.zeroValue115
  t51 := Tryz.underlying154
  a51 := Tryz.isAgg154
  z51 := Tryz.sizeOf154
  v51 := Tryz.zeroValue154
  t105 := Tryz.underlying119
  a105 := Tryz.isAgg119
  z105 := Tryz.sizeOf119
  v105 := Tryz.zeroValue119
  t119 := Tryz.underlying166
  a119 := Tryz.isAgg166
  z119 := Tryz.sizeOf166
  t138 := Tryz.underlying168
  a138 := Tryz.isAgg168
  z138 := Tryz.sizeOf168
  v138 := Tryz.zeroValue168
  t139 := Tryz.underlying169
  a139 := Tryz.isAgg169
  z139 := Tryz.sizeOf169
  v139 := Tryz.zeroValue169
  t146 := Tryz.underlying185
  a146 := Tryz.isAgg185
  z146 := Tryz.sizeOf185
  v146 := Tryz.zeroValue185
  g1 := by kernel_rfl
  g3 := by kernel_rfl
  g4 := by kernel_rfl }
open Go.RowKit Go.Lib in
/-- strings.Split. (LAID: no walk: one application.) -/
theorem Tryz.strings_Split (s sep : ByteArray) (m : Int) (w : World) (hs : s.size < 4294967281) (hm : w.cell? ⟨0, 0, none⟩ = some (.int .i64 m)) (h1 : 1 ≤ sep.size) :
    Calls Tryz.prog 60 #[.string s, .string sep] w fun e w' =>
      e = .returned (.slice (some ⟨w.heap.size, 0, none⟩) (Lib.countB s sep + 1) (Lib.countB s sep + 1)) ∧ w' = w.alloc (.cells ((Lib.splitB sep 0 (Lib.countB s sep) s).map Value.string).toArray 9) := Any.strings_Split Tryz.lays146 (by kernel_rfl) s sep m w hs hm h1
end Go.Proofs
set_option maxRecDepth 100000
namespace Go.Abs
open Go Go.Proofs Go.RowKit
set_option linter.unusedSimpArgs false
theorem callable_Index : Callable Tryz.prog 83 := callable Tryz.func83 rfl (by kernel_rfl)
theorem pc_Index (s sub : List UInt8) (hs : s.length ≤ 1000000) : PC Tryz.prog 83 [.str s, .str sub] (fun r => r = .i (Lib.index s sub)) :=
  PC_ext (us := [.string ⟨s.toArray⟩, .string ⟨sub.toArray⟩]) callable_Index rfl fun w I hE => by
    obtain ⟨m, hm⟩ := maxLen_cell hE
    exact (Tryz.strings_Index ⟨s.toArray⟩ ⟨sub.toArray⟩ m w (by show s.toArray.size < _; simp; omega) hm).mono fun e w' ⟨h, hw⟩ => ⟨⟨_, _, rfl, h, .int _ _⟩, by rw [hw]; exact Below.refl _ _⟩
theorem callable_Cut : Callable Tryz.prog 77 := callable Tryz.func77 rfl (by kernel_rfl)
theorem pc_Cut (s sub : List UInt8) (hs : s.length ≤ 1000000) : PC Tryz.prog 77 [.str s, .str sub] (fun r => r = .tup [.str (Lib.cut s sub).1, .str (Lib.cut s sub).2.1, .bool (Lib.cut s sub).2.2]) :=
  PC_ext (us := [.string ⟨s.toArray⟩, .string ⟨sub.toArray⟩]) callable_Cut rfl fun w I hE => by
    obtain ⟨m, hm⟩ := maxLen_cell hE
    refine (Tryz.strings_Cut ⟨s.toArray⟩ ⟨sub.toArray⟩ m w (by show s.toArray.size < _; simp; omega) hm).mono fun e w' ⟨h, n, hw⟩ => ⟨⟨_, _, rfl, h, .tup _ _ rfl fun i v x hv hx => ?_⟩, by rw [hw]; exact ⟨rfl, rfl, rfl, Nat.le_refl _, fun _ _ => rfl⟩⟩
    match i, hv, hx with
    | 0, hv, hx => cases hv; cases hx; exact .str _
    | 1, hv, hx => cases hv; cases hx; exact .str _
    | 2, hv, hx => cases hv; cases hx; exact .bool _
    | _ + 3, hv, hx => simp at hx
theorem callable_Split : Callable Tryz.prog 60 := callable Tryz.func60 rfl (by kernel_rfl)
theorem pc_Split (s : List UInt8) (hs : s.length ≤ 1000000) : PC Tryz.prog 60 [.str s, .str [32]] (fun r => r = .list ((wordsR s).map AV.str)) :=
  ⟨callable_Split, fun w I vals hE hI hl hv => by
    have : vals = [Value.string ⟨s.toArray⟩, Value.string ⟨#[32]⟩].toArray := by
      rcases vals with ⟨vs⟩
      rw [vals_eq [.str s, .str [32]] [.string ⟨s.toArray⟩, .string ⟨#[32]⟩] vs rfl (by simpa using hl) (fun i v x a b => hv i v x (by simpa using a) b)]
    subst this
    obtain ⟨m, hm⟩ := maxLen_cell hE
    refine (Tryz.strings_Split ⟨s.toArray⟩ ⟨#[32]⟩ m w (by show s.toArray.size < _; simp; omega) hm (by decide)).mono ?_
    rintro e w' ⟨he, hw⟩
    have hdat := Lib.splitB_data ⟨#[32]⟩ 0 (Lib.countB ⟨s.toArray⟩ ⟨#[32]⟩) ⟨s.toArray⟩
    have hlen := Lib.splitB_all ⟨#[32]⟩ (by decide) 0 _ ⟨s.toArray⟩ rfl
    have hws : wordsR s = (Lib.splitB ⟨#[32]⟩ 0 (Lib.countB ⟨s.toArray⟩ ⟨#[32]⟩) ⟨s.toArray⟩).map (·.data.toList) := by rw [hdat]; rfl
    generalize Lib.splitB ⟨#[32]⟩ 0 (Lib.countB ⟨s.toArray⟩ ⟨#[32]⟩) ⟨s.toArray⟩ = bs at *
    have hlw := words_len s.length s (Nat.le_refl _)
    have hwl : (wordsR s).length = bs.length := by rw [hws, List.length_map]
    rw [← hlen] at he
    have hh : w'.heap[w.heap.size]? = some (.cells (bs.map Value.string).toArray 9) := by rw [hw]; exact heap_alloc_new w _
    have hb : Below w.heap.size w w' := by rw [hw]; exact (Below.refl _ _).alloc (Nat.le_refl _) _
    have hsz : w.heap.size < w'.heap.size := (Array.getElem?_eq_some_iff.1 hh).1
    refine ⟨_, fun b => I b ∨ b = w.heap.size, _, rfl, he, hb, fun _ h => .inl h, fun b hb' => ?_, ?_⟩
    · rcases hb' with h | rfl
      · exact ⟨Nat.lt_of_lt_of_le (hI b h) hb.size, .inl h⟩
      · exact ⟨hsz, .inr (Nat.le_refl _)⟩
    · refine .list _ _ _ 1 _ (fun i _ => match bs[i]? with | some x => .string x | none => .bool false) (by rw [List.length_map, hwl]) (by rw [List.length_map, hwl]; exact Nat.le_refl _) (by rw [hwl] at hlw; unfold maxLen; omega) (fun x hx => ?_) (fun _ => ⟨_, rfl, fun _ => .inr rfl, fun i j hi hj => ?_⟩) (fun i x hx j y hy => ?_)
      · obtain ⟨z, _, rfl⟩ := List.mem_map.1 hx; rfl
      · have hj0 : j = 0 := by omega
        subst hj0
        have hi' : i < bs.length := by rw [List.length_map, hwl] at hi; exact hi
        have e : (⟨w.heap.size, 0, none⟩ : Addr).add (i * 1 + 0) = ⟨w.heap.size, i, none⟩ := by unfold Addr.add; split <;> simp_all
        rw [e, Lib.cell_of_heap hh]
        simp [hi']
      · have hx' : ∃ z : ByteArray, bs[i]? = some z ∧ x = .str z.data.toList := by
          rw [hws, List.getElem?_map, List.getElem?_map] at hx
          cases hb2 : bs[i]? with
          | none => rw [hb2] at hx; cases hx
          | some z => rw [hb2] at hx; exact ⟨z, rfl, (Option.some.inj hx).symm⟩
        obtain ⟨z, hz, rfl⟩ := hx'
        have hy' : y = .str z.data.toList := by
          match j, hy with
          | 0, hy => exact (Option.some.inj hy).symm
          | _ + 1, hy => cases hy
        subst hy'
        simp only [hz]
        exact .str z.data.toList⟩
end Go.Abs
set_option maxRecDepth 100000
namespace Go.Abs
open Go Go.Proofs
set_option linter.unusedSimpArgs false
section

def boolTab (p : Nat → Bool) : List AV := (List.range 256).map (fun i => .bool (p i))
def zAs : Value := match look T 139 with
  | some i => i.zero
  | none => .bool false
theorem TAsz : look T 139 = some { desc := .array 256 4, zero := zAs, size := 256, bytes := 256 } := rfl
theorem zAs_cells : zAs.cells.toList.map zeroCell = boolTab (fun _ => false) := by kernel_rfl
theorem zAs_cells' : List.map zeroCell (match zAs with | Value.agg cs => cs | v => #[v]).toList = boolTab (fun _ => false) := zAs_cells
@[simp] theorem boolTab_len (p : Nat → Bool) : (boolTab p).length = 256 := by simp [boolTab]
@[simp] theorem boolTab_take (p : Nat → Bool) : (boolTab p).take 256 = boolTab p := List.take_of_length_le (by simp)
theorem boolTab_get (p : Nat → Bool) (i : Nat) (h : i < 256) : (boolTab p)[i]? = some (.bool (p i)) := by simp [boolTab, h]
theorem boolTab_drop (p : Nat → Bool) (i : Nat) (h : i < 256) : (boolTab p).drop i = .bool (p i) :: (boolTab p).drop (i + 1) := by
  rw [List.drop_eq_getElem_cons (by simpa using h)]
  congr 1
  simp [boolTab]
theorem boolTab_set (p : Nat → Bool) (i : Nat) (h : i < 256) : (boolTab p).set i (.bool true) = boolTab (fun j => j == i || p j) := by
  refine List.ext_getElem? fun k => ?_
  by_cases hk : k < 256
  · rw [boolTab_get _ _ hk]
    by_cases hki : i = k
    · subst hki; rw [List.getElem?_set_self (by simpa using h)]; simp
    · rw [List.getElem?_set_ne hki, boolTab_get _ _ hk]; simp [show k ≠ i from fun e => hki e.symm]
  · rw [List.getElem?_eq_none (by simp; omega), List.getElem?_eq_none (by simp; omega)]
@[simp] theorem boolTab_leaf (p : Nat → Bool) : (boolTab p).all AV.leaf = true := by simp [boolTab, AV.leaf]
@[simp] theorem boolTab_leaf' (p : Nat → Bool) : (∀ x, x ∈ boolTab p → x.leaf = true) ↔ True := by have := boolTab_leaf p; rw [List.all_eq_true] at this; simp only [iff_true]; exact this
@[simp] theorem boolTab_pure (p : Nat → Bool) : (boolTab p).all AV.pure = true := by simp [boolTab, AV.pure]
@[simp] theorem boolTab_flat (p : Nat → Bool) : (boolTab p).all AV.flat = true := by simp [boolTab, AV.flat]
@[simp] theorem boolTab_under (p : Nat → Bool) (n : Nat) : (boolTab p).all (AV.under n) = true := by simp [boolTab, AV.under]
theorem setCells_app (ds xs ys zs : List AV) (h : ys.length = xs.length) : setCells (ds ++ ys ++ zs) ds.length xs = ds ++ xs ++ zs := by
  induction xs generalizing ds ys with
  | nil => simp at h; subst h; simp [setCells]
  | cons x xs ih =>
    rcases ys with _ | ⟨y, ys⟩
    · simp at h
    · rw [setCells]
      have := ih (ds ++ [x]) ys (by simpa using h)
      simp at this ⊢
      exact this
@[simp] theorem boolTab_setCells (p q : Nat → Bool) : setCells (boolTab p) 0 (boolTab q) = boolTab q := by
  have := setCells_app [] (boolTab q) (boolTab p) [] (by simp)
  simpa using this
theorem allSome_map {α β : Type} (f : α → Option β) (g : α → β) (l : List α) (h : ∀ x ∈ l, f x = some (g x)) : allSome (l.map f) = some (l.map g) := by
  induction l with
  | nil => rfl
  | cons x l ih => rw [List.map_cons, h x (by simp), allSome, ih (fun y hy => h y (by simp [hy]))]; rfl
@[simp] theorem boolTab_snap0 (H : List AObj) (p : Nat → Bool) : allSome ((boolTab p).map (snap0 H)) = some (boolTab p) := by
  rw [allSome_map (snap0 H) id _ (fun x hx => ?_)]
  · simp
  · obtain ⟨i, _, rfl⟩ := List.mem_map.1 hx; simp
@[simp] theorem boolTab_snap1 (H : List AObj) (p : Nat → Bool) : allSome ((boolTab p).map (snap1 H)) = some (boolTab p) := by
  rw [allSome_map (snap1 H) id _ (fun x hx => ?_)]
  · simp
  · obtain ⟨i, _, rfl⟩ := List.mem_map.1 hx; simp
attribute [simp] TAsz zAs_cells zAs_cells'
attribute [irreducible] zAs boolTab

set_option maxHeartbeats 400000 in
theorem pc_asc_contains (p : Nat → Bool) (c : Nat) (hc : c < 256) : PC Tryz.prog 154 [.iptr (boolTab p), .int .u8 c] (fun r => r = .bool (p c)) := by
  refine PC_body tOk Tryz.func154 rfl Tryz.results154 rfl (by simp [Tryz.ntmps154]) ?_
  rw [Tryz.ntmps154]
  simp only [argSlots]
  have hc' : (c : Int) < 256 := by omega
  repeat (first
    | (refine AWP_seq (AWP_regS tOk rfl ?_); simp [hc', boolTab_drop p c hc])
    | (refine AWP_regS tOk rfl ?_; simp [hc', boolTab_drop p c hc])
    | (refine AWP_skip ?_; simp [hc', boolTab_drop p c hc])
    | (refine AWP_exit ?_; simp [hc', boolTab_drop p c hc])
    | (refine AWP_ret ?_; simp [hc', boolTab_drop p c hc])
    | refine AWP_block ?_
    | refine AWP_seq ?_)

def setOf (cs : List UInt8) (i : Nat) : Bool := cs.any (fun c => c.toNat == i)
theorem setOf_succ (cs : List UInt8) (j : Nat) (h : j < cs.length) : setOf (cs.take (j + 1)) = fun i => (i == cs[j].toNat || setOf (cs.take j) i) := by
  funext i
  rw [setOf, List.take_succ_eq_append_getElem h, List.any_append, setOf]
  simp only [List.any_cons, List.any_nil, Bool.or_false]
  rw [Bool.or_comm]
  congr 1
  rw [Bool.beq_comm]
set_option maxHeartbeats 1000000 in
theorem pc_makeASCIISet (cs : List UInt8) (hcs : ∀ c ∈ cs, c.toNat < 128) (hlen : cs.length ≤ 1000000) : PC Tryz.prog 117 [.str cs] (fun r => r = .tup [.agg (boolTab (setOf cs)), .bool true]) := by
  refine PC_body tOk Tryz.func117 rfl Tryz.results117 rfl (by simp [Tryz.ntmps117]) ?_
  rw [Tryz.ntmps117]
  simp only [argSlots]
  repeat (first
    | (refine AWP_seq (AWP_regS tOk rfl ?_); simp [-Value.cells])
    | (refine AWP_regS tOk rfl ?_; simp [-Value.cells])
    | (refine AWP_skip ?_; simp [-Value.cells])
    | (refine AWP_exit ?_; simp [-Value.cells])
    | (refine AWP_ret ?_; simp [-Value.cells])
    | refine AWP_block ?_
    | refine AWP_seq ?_)
  refine AWP_count cs.length (fun j => [(0, .str cs), (2, .vptr 0 0), (4, .i j)]) (fun j => [.vars (boolTab (setOf (cs.take j)))]) rfl (by simp) (by simp [setOf]) (by simp) (by simp) ?_
  intro j hj ih
  repeat (first
    | (refine AWP_seq (AWP_regS tOk rfl ?_); simp)
    | (refine AWP_regS tOk rfl ?_; simp)
    | (refine AWP_skip ?_; simp)
    | (refine AWP_exit ?_; simp)
    | (refine AWP_ret ?_; simp)
    | refine AWP_block ?_
    | refine AWP_seq ?_)
  refine AWP_cond2 rfl (fun hlt => ?_) (fun hge => ?_)
  · have hlt' : j < cs.length := by simpa using hlt
    have hcj := hcs cs[j] (List.getElem_mem hlt')
    repeat (first
      | (refine AWP_seq (AWP_regS tOk rfl ?_); simp [hlt'])
      | (refine AWP_regS tOk rfl ?_; simp [hlt'])
      | (refine AWP_skip ?_; simp [hlt'])
      | (refine AWP_exit ?_; simp [hlt'])
      | (refine AWP_ret ?_; simp [hlt'])
      | refine AWP_block ?_
      | refine AWP_seq ?_)
    refine AWP_cond (b := false) ?_ ?_
    · simp; omega
    have h1 : (cs[j].toNat : Int) < 256 := by omega
    have h2 : cs[j].toNat ≤ 255 := by omega
    repeat (first
      | (refine AWP_seq (AWP_regS tOk rfl ?_); simp [hlt', h1, h2, boolTab_set (setOf (cs.take j)) cs[j].toNat (by omega)])
      | (refine AWP_regS tOk rfl ?_; simp [hlt', h1, h2, boolTab_set (setOf (cs.take j)) cs[j].toNat (by omega)])
      | (refine AWP_skip ?_; simp [hlt', h1, h2, boolTab_set (setOf (cs.take j)) cs[j].toNat (by omega)])
      | (refine AWP_exit ?_; simp [hlt', h1, h2, boolTab_set (setOf (cs.take j)) cs[j].toNat (by omega)])
      | (refine AWP_ret ?_; simp [hlt', h1, h2, boolTab_set (setOf (cs.take j)) cs[j].toNat (by omega)])
      | refine AWP_block ?_
      | refine AWP_seq ?_)
    refine ALoop_end [] (ih hlt') ?_ (by simp) ?_ (by simp) (by simp)
    · rw [setOf_succ cs j hlt']; simp
    · simp
      exact wrap_i64 _ (by omega) (by omega)
  · have hge' : j = cs.length := by simp at hge; omega
    subst hge'
    repeat (first
      | (refine AWP_seq (AWP_regS tOk rfl ?_); simp)
      | (refine AWP_regS tOk rfl ?_; simp)
      | (refine AWP_skip ?_; simp)
      | (refine AWP_exit ?_; simp)
      | (refine AWP_ret ?_; simp)
      | refine AWP_block ?_
      | refine AWP_seq ?_)

def rtrim (p : UInt8 → Bool) (s : List UInt8) : List UInt8 := (s.reverse.dropWhile p).reverse
theorem rtrim_nil (p : UInt8 → Bool) : rtrim p [] = [] := rfl
theorem rtrim_app (p : UInt8 → Bool) (s : List UInt8) (c : UInt8) : rtrim p (s ++ [c]) = if p c = true then rtrim p s else s ++ [c] := by
  simp only [rtrim, List.reverse_append, List.reverse_cons, List.reverse_nil, List.nil_append, List.cons_append, List.dropWhile_cons]
  split <;> simp
set_option maxHeartbeats 1000000 in
theorem pc_trimRightASCII (p : Nat → Bool) (s : List UInt8) (hlen : s.length ≤ 1000000) : PC Tryz.prog 119 [.str s, .iptr (boolTab p)] (fun r => r = .str (rtrim (fun c => p c.toNat) s)) := by
  refine PC_body tOk Tryz.func119 rfl Tryz.results119 rfl (by simp [Tryz.ntmps119]) ?_
  rw [Tryz.ntmps119]
  simp only [argSlots]
  repeat (first
    | (refine AWP_seq (AWP_regS tOk rfl ?_); simp)
    | (refine AWP_regS tOk rfl ?_; simp)
    | (refine AWP_skip ?_; simp)
    | (refine AWP_exit ?_; simp)
    | (refine AWP_ret ?_; simp)
    | refine AWP_block ?_
    | refine AWP_seq ?_)
  refine AWP_loop (ALoop_keep (sl' := [(0, .str s), (1, .iptr (boolTab p))]) ?_ (by simp))
  refine ALoop_wf (F := fun u => ⟨[(0, .str u), (1, .iptr (boolTab p))], []⟩) (fun u => u.length ≤ s.length ∧ rtrim (fun c => p c.toNat) u = rtrim (fun c => p c.toNat) s) (fun u => u.length) ?_ s ⟨Nat.le_refl _, rfl⟩
  rintro u ⟨hu, hr⟩ ih
  rcases List.eq_nil_or_concat u with rfl | ⟨v, c, rfl⟩
  · repeat (first
      | (refine AWP_seq (AWP_regS tOk rfl ?_); simp)
      | (refine AWP_regS tOk rfl ?_; simp)
      | (refine AWP_skip ?_; simp)
      | (refine AWP_exit ?_; simp)
      | (refine AWP_ret ?_; simp)
      | refine AWP_block ?_
      | refine AWP_seq ?_)
    refine AWP_cond rfl ?_
    repeat (first
      | (refine AWP_seq (AWP_regS tOk rfl ?_); simp)
      | (refine AWP_regS tOk rfl ?_; simp)
      | (refine AWP_skip ?_; simp)
      | (refine AWP_exit ?_; simp)
      | (refine AWP_ret ?_; simp)
      | refine AWP_block ?_
      | refine AWP_seq ?_)
    rw [← hr]; rfl
  · rw [List.concat_eq_append] at *
    simp at hu
    have hw : IntKind.i64.wrap (v.length : Int) = v.length := wrap_i64 _ (by omega) (by omega)
    rw [rtrim_app] at hr
    repeat (first
      | (refine AWP_seq (AWP_regS tOk rfl ?_); simp)
      | (refine AWP_regS tOk rfl ?_; simp)
      | (refine AWP_skip ?_; simp)
      | (refine AWP_exit ?_; simp)
      | (refine AWP_ret ?_; simp)
      | refine AWP_block ?_
      | refine AWP_seq ?_)
    refine AWP_cond (b := true) ?_ ?_
    · simp
    repeat (first
      | (refine AWP_seq (AWP_regS tOk rfl ?_); simp [hw])
      | (refine AWP_regS tOk rfl ?_; simp [hw])
      | (refine AWP_skip ?_; simp [hw])
      | (refine AWP_exit ?_; simp [hw])
      | (refine AWP_ret ?_; simp [hw])
      | refine AWP_block ?_
      | refine AWP_seq ?_)
    refine AStep_PC rfl rfl (by simp) (pc_asc_contains p c.toNat (by have := c.toNat_lt; omega)) rfl ?_
    rintro _ rfl
    simp
    refine AWP_cond2 rfl (fun h => ?_) (fun h => ?_)
    · repeat (first
        | (refine AWP_seq (AWP_regS tOk rfl ?_); simp)
        | (refine AWP_regS tOk rfl ?_; simp)
        | (refine AWP_skip ?_; simp)
        | (refine AWP_exit ?_; simp)
        | (refine AWP_ret ?_; simp)
        | refine AWP_block ?_
        | refine AWP_seq ?_)
      simp at h
      rw [h] at hr
      simpa using hr
    · have h0 : (v.length : Int) ≤ v.length + 1 := by omega
      repeat (first
        | (refine AWP_seq (AWP_regS tOk rfl ?_); simp [hw, h0])
        | (refine AWP_regS tOk rfl ?_; simp [hw, h0])
        | (refine AWP_skip ?_; simp [hw, h0])
        | (refine AWP_exit ?_; simp [hw, h0])
        | (refine AWP_ret ?_; simp [hw, h0])
        | refine AWP_block ?_
        | refine AWP_seq ?_)
      simp at h
      rw [if_pos h] at hr
      refine ALoop_end [] (ih v ⟨by omega, hr⟩ (by simp)) rfl (by simp) ?_ (by simp) (by simp)
      simp

set_option maxHeartbeats 1000000 in
theorem pc_trimLeftASCII (p : Nat → Bool) (s : List UInt8) (hlen : s.length ≤ 1000000) : PC Tryz.prog 118 [.str s, .iptr (boolTab p)] (fun r => r = .str (s.dropWhile (fun c => p c.toNat))) := by
  refine PC_body tOk Tryz.func118 rfl Tryz.results118 rfl (by simp [Tryz.ntmps118]) ?_
  rw [Tryz.ntmps118]
  simp only [argSlots]
  repeat (first
    | (refine AWP_seq (AWP_regS tOk rfl ?_); simp)
    | (refine AWP_regS tOk rfl ?_; simp)
    | (refine AWP_skip ?_; simp)
    | (refine AWP_exit ?_; simp)
    | (refine AWP_ret ?_; simp)
    | refine AWP_block ?_
    | refine AWP_seq ?_)
  refine AWP_loop (ALoop_keep (sl' := [(0, .str s), (1, .iptr (boolTab p))]) ?_ (by simp))
  refine ALoop_wf (F := fun u => ⟨[(0, .str u), (1, .iptr (boolTab p))], []⟩) (fun u => u.length ≤ s.length ∧ u.dropWhile (fun c => p c.toNat) = s.dropWhile (fun c => p c.toNat)) (fun u => u.length) ?_ s ⟨Nat.le_refl _, rfl⟩
  rintro u ⟨hu, hr⟩ ih
  rcases u with _ | ⟨c, v⟩
  · repeat (first
      | (refine AWP_seq (AWP_regS tOk rfl ?_); simp)
      | (refine AWP_regS tOk rfl ?_; simp)
      | (refine AWP_skip ?_; simp)
      | (refine AWP_exit ?_; simp)
      | (refine AWP_ret ?_; simp)
      | refine AWP_block ?_
      | refine AWP_seq ?_)
    refine AWP_cond rfl ?_
    repeat (first
      | (refine AWP_seq (AWP_regS tOk rfl ?_); simp)
      | (refine AWP_regS tOk rfl ?_; simp)
      | (refine AWP_skip ?_; simp)
      | (refine AWP_exit ?_; simp)
      | (refine AWP_ret ?_; simp)
      | refine AWP_block ?_
      | refine AWP_seq ?_)
    rw [← hr]; rfl
  · simp at hu
    rw [List.dropWhile_cons] at hr
    repeat (first
      | (refine AWP_seq (AWP_regS tOk rfl ?_); simp)
      | (refine AWP_regS tOk rfl ?_; simp)
      | (refine AWP_skip ?_; simp)
      | (refine AWP_exit ?_; simp)
      | (refine AWP_ret ?_; simp)
      | refine AWP_block ?_
      | refine AWP_seq ?_)
    refine AWP_cond (b := true) ?_ ?_
    · simp
    repeat (first
      | (refine AWP_seq (AWP_regS tOk rfl ?_); simp)
      | (refine AWP_regS tOk rfl ?_; simp)
      | (refine AWP_skip ?_; simp)
      | (refine AWP_exit ?_; simp)
      | (refine AWP_ret ?_; simp)
      | refine AWP_block ?_
      | refine AWP_seq ?_)
    refine AStep_PC rfl rfl (by simp) (pc_asc_contains p c.toNat (by have := c.toNat_lt; omega)) rfl ?_
    rintro _ rfl
    simp
    refine AWP_cond2 rfl (fun h => ?_) (fun h => ?_)
    · repeat (first
        | (refine AWP_seq (AWP_regS tOk rfl ?_); simp)
        | (refine AWP_regS tOk rfl ?_; simp)
        | (refine AWP_skip ?_; simp)
        | (refine AWP_exit ?_; simp)
        | (refine AWP_ret ?_; simp)
        | refine AWP_block ?_
        | refine AWP_seq ?_)
      simp at h
      rw [h] at hr
      simpa using hr
    · have h0 : (1 : Int) ≤ v.length + 1 := by omega
      repeat (first
        | (refine AWP_seq (AWP_regS tOk rfl ?_); simp [h0])
        | (refine AWP_regS tOk rfl ?_; simp [h0])
        | (refine AWP_skip ?_; simp [h0])
        | (refine AWP_exit ?_; simp [h0])
        | (refine AWP_ret ?_; simp [h0])
        | refine AWP_block ?_
        | refine AWP_seq ?_)
      simp at h
      rw [if_pos h] at hr
      refine ALoop_end [] (ih v ⟨by omega, hr⟩ (by simp)) rfl (by simp) ?_ (by simp) (by simp)
      simp

def trimS (cs s : List UInt8) : List UInt8 := (rtrim (fun c => setOf cs c.toNat) s).dropWhile (fun c => setOf cs c.toNat)
theorem rtrim_len (p : UInt8 → Bool) (s : List UInt8) : (rtrim p s).length ≤ s.length := by
  simp only [rtrim, List.length_reverse]
  have := (List.dropWhile_sublist p (l := s.reverse)).length_le
  simpa using this
set_option maxHeartbeats 1000000 in
theorem pc_Trim (cs s : List UInt8) (hcs : ∀ c ∈ cs, c.toNat < 128) (hlen : cs.length ≤ 1000000) (h2 : 2 ≤ cs.length) (hs : s.length ≤ 1000000) (hs0 : s ≠ []) : PC Tryz.prog 97 [.str s, .str cs] (fun r => r = .str (trimS cs s)) := by
  refine PC_body tOk Tryz.func97 rfl Tryz.results97 rfl (by simp [Tryz.ntmps97]) ?_
  rw [Tryz.ntmps97]
  simp only [argSlots]
  repeat (first
    | (refine AWP_seq (AWP_regS tOk rfl ?_); simp)
    | (refine AWP_regS tOk rfl ?_; simp)
    | (refine AWP_skip ?_; simp)
    | (refine AWP_exit ?_; simp)
    | (refine AWP_ret ?_; simp)
    | refine AWP_block ?_
    | refine AWP_seq ?_)
  rcases cs with _ | ⟨a, _ | ⟨b, r⟩⟩
  · simp at h2
  · simp at h2
  generalize hcc : a :: b :: r = cs at *
  have hc0 : cs ≠ [] := by rw [← hcc]; simp
  refine AWP_cond (b := false) (by simp [hs0, hc0]) ?_
  have hne : ((cs.length : Int) == 1) = false := by simp; omega
  have hg : cs[0]? = some a := by rw [← hcc]; rfl
  repeat (first
    | (refine AWP_seq (AWP_regS tOk rfl ?_); simp [hne, hg])
    | (refine AWP_regS tOk rfl ?_; simp [hne, hg])
    | (refine AWP_skip ?_; simp [hne, hg])
    | (refine AWP_exit ?_; simp [hne, hg])
    | (refine AWP_ret ?_; simp [hne, hg])
    | refine AWP_block ?_
    | refine AWP_seq ?_)
  refine AWP_cond rfl ?_
  repeat (first
    | (refine AWP_seq (AWP_regS tOk rfl ?_); simp [-Value.cells, -AV.leaf])
    | (refine AWP_regS tOk rfl ?_; simp [-Value.cells, -AV.leaf])
    | (refine AWP_skip ?_; simp [-Value.cells, -AV.leaf])
    | (refine AWP_exit ?_; simp [-Value.cells, -AV.leaf])
    | (refine AWP_ret ?_; simp [-Value.cells, -AV.leaf])
    | refine AWP_block ?_
    | refine AWP_seq ?_)
  refine AStep_PC rfl rfl (by simp) (pc_makeASCIISet cs hcs hlen) rfl ?_
  rintro _ rfl
  simp [-Value.cells, -AV.leaf]
  repeat (first
    | (refine AWP_seq (AWP_regS tOk rfl ?_); simp [-Value.cells, -AV.leaf])
    | (refine AWP_regS tOk rfl ?_; simp [-Value.cells, -AV.leaf])
    | (refine AWP_skip ?_; simp [-Value.cells, -AV.leaf])
    | (refine AWP_exit ?_; simp [-Value.cells, -AV.leaf])
    | (refine AWP_ret ?_; simp [-Value.cells, -AV.leaf])
    | refine AWP_block ?_
    | refine AWP_seq ?_)
  refine AWP_cond rfl ?_
  repeat (first
    | (refine AWP_seq (AWP_regS tOk rfl ?_); simp)
    | (refine AWP_regS tOk rfl ?_; simp)
    | (refine AWP_skip ?_; simp)
    | (refine AWP_exit ?_; simp)
    | (refine AWP_ret ?_; simp)
    | refine AWP_block ?_
    | refine AWP_seq ?_)
  refine AStep_PCflat rfl rfl (by first | (simp; done) | (simp; rfl)) (pc_trimRightASCII (setOf cs) s hs) rfl ?_
  rintro _ rfl
  refine ⟨by first | simp | rfl | trivial, ?_⟩
  simp
  refine AStep_PCflat rfl rfl (by first | (simp; done) | (simp; rfl)) (pc_trimLeftASCII (setOf cs) _ (Nat.le_trans (rtrim_len _ s) hs)) rfl ?_
  rintro _ rfl
  refine ⟨by first | simp | rfl | trivial, ?_⟩
  simp
  repeat (first
    | (refine AWP_seq (AWP_regS tOk rfl ?_); simp)
    | (refine AWP_regS tOk rfl ?_; simp)
    | (refine AWP_skip ?_; simp)
    | (refine AWP_exit ?_; simp)
    | (refine AWP_ret ?_; simp)
    | refine AWP_block ?_
    | refine AWP_seq ?_)
  rfl

theorem dw_nil {α : Type} (p : α → Bool) (l : List α) : l.dropWhile p = [] ↔ ∀ x ∈ l, p x = true := by
  induction l with
  | nil => simp
  | cons a l ih =>
    rw [List.dropWhile_cons]
    split
    · rename_i h; rw [ih]; simp [h]
    · rename_i h; simp [h]
theorem dw_mem {α : Type} (p : α → Bool) (l : List α) (x : α) (h : x ∈ l) : p x = true ∨ x ∈ l.dropWhile p := by
  induction l with
  | nil => cases h
  | cons a l ih =>
    rw [List.dropWhile_cons]
    split
    · rename_i ha
      rcases List.mem_cons.1 h with rfl | h
      · exact .inl ha
      · exact ih h
    · exact .inr h
theorem trimS_nil (cs s : List UInt8) : (trimS cs s == []) = s.all (fun c => setOf cs c.toNat) := by
  rw [Bool.eq_iff_iff]
  simp only [beq_iff_eq, trimS, List.all_eq_true]
  rw [dw_nil]
  constructor
  · intro h x hx
    rcases dw_mem (fun c => setOf cs c.toNat) s.reverse x (by simpa using hx) with h1 | h1
    · exact h1
    · exact h x (by simpa [rtrim] using h1)
  · intro h x hx
    refine h x ?_
    have := (List.dropWhile_sublist (fun c : UInt8 => setOf cs c.toNat) (l := s.reverse)).subset (by simpa [rtrim] using hx)
    simpa using this


end
section
def hasPre (s p : List UInt8) : Bool := p.isPrefixOf s
theorem hasPre_eq (s p : List UInt8) (h : p.length ≤ s.length) : (s.take p.length == p) = hasPre s p := by
  rw [Bool.eq_iff_iff, beq_iff_eq, hasPre, List.isPrefixOf_iff_prefix, List.prefix_iff_eq_take]
  exact eq_comm
theorem hasPre_short (s p : List UInt8) (h : s.length < p.length) : hasPre s p = false := by
  rw [Bool.eq_false_iff, hasPre]
  intro h'
  have := (List.isPrefixOf_iff_prefix.1 h').length_le
  omega
theorem pc_slHasPrefix (s p : List UInt8) : PC Tryz.prog 153 [.str s, .str p] (fun r => r = .bool (hasPre s p)) := by
  refine PC_body tOk Tryz.func153 rfl Tryz.results153 rfl (by simp [Tryz.ntmps153]) ?_
  rw [Tryz.ntmps153]
  simp only [argSlots]
  by_cases h : p.length ≤ s.length
  · have h' : (p.length : Int) ≤ s.length := by omega
    repeat (first
      | (refine AWP_seq (AWP_regS tOk rfl ?_); simp [h, h'])
      | (refine AWP_regS tOk rfl ?_; simp [h, h'])
      | (refine AWP_skip ?_; simp [h, h'])
      | (refine AWP_exit ?_; simp [h, h'])
      | (refine AWP_ret ?_; simp [h, h'])
      | refine AWP_block ?_
      | refine AWP_seq ?_)
    exact hasPre_eq s p h
  · have h' : ¬ (p.length : Int) ≤ s.length := by omega
    repeat (first
      | (refine AWP_seq (AWP_regS tOk rfl ?_); simp [h, h'])
      | (refine AWP_regS tOk rfl ?_; simp [h, h'])
      | (refine AWP_skip ?_; simp [h, h'])
      | (refine AWP_exit ?_; simp [h, h'])
      | (refine AWP_ret ?_; simp [h, h'])
      | refine AWP_block ?_
      | refine AWP_seq ?_)
    rw [hasPre_short s p (by omega)]
def trimPre (s p : List UInt8) : List UInt8 := if hasPre s p = true then s.drop p.length else s
theorem pc_slTrimPrefix (s p : List UInt8) : PC Tryz.prog 114 [.str s, .str p] (fun r => r = .str (trimPre s p)) := by
  refine PC_body tOk Tryz.func114 rfl Tryz.results114 rfl (by simp [Tryz.ntmps114]) ?_
  rw [Tryz.ntmps114]
  simp only [argSlots]
  repeat (first
    | (refine AWP_seq (AWP_regS tOk rfl ?_); simp)
    | (refine AWP_regS tOk rfl ?_; simp)
    | (refine AWP_skip ?_; simp)
    | (refine AWP_exit ?_; simp)
    | (refine AWP_ret ?_; simp)
    | refine AWP_block ?_
    | refine AWP_seq ?_)
  refine AStep_PC rfl rfl (by simp) (pc_slHasPrefix s p) rfl ?_
  rintro _ rfl
  simp
  repeat (first
    | (refine AWP_seq (AWP_regS tOk rfl ?_); simp)
    | (refine AWP_regS tOk rfl ?_; simp)
    | (refine AWP_skip ?_; simp)
    | (refine AWP_exit ?_; simp)
    | (refine AWP_ret ?_; simp)
    | refine AWP_block ?_
    | refine AWP_seq ?_)
  refine AWP_cond2 rfl (fun h => ?_) (fun h => ?_)
  · have hl : p.length ≤ s.length := by
      by_cases hl : p.length ≤ s.length
      · exact hl
      · rw [hasPre_short s p (by omega)] at h; cases h
    have h' : (p.length : Int) ≤ s.length := by omega
    repeat (first
      | (refine AWP_seq (AWP_regS tOk rfl ?_); simp [hl, h'])
      | (refine AWP_regS tOk rfl ?_; simp [hl, h'])
      | (refine AWP_skip ?_; simp [hl, h'])
      | (refine AWP_exit ?_; simp [hl, h'])
      | (refine AWP_ret ?_; simp [hl, h'])
      | refine AWP_block ?_
      | refine AWP_seq ?_)
    rw [trimPre, ite_t h]
  · repeat (first
      | (refine AWP_seq (AWP_regS tOk rfl ?_); simp)
      | (refine AWP_regS tOk rfl ?_; simp)
      | (refine AWP_skip ?_; simp)
      | (refine AWP_exit ?_; simp)
      | (refine AWP_ret ?_; simp)
      | refine AWP_block ?_
      | refine AWP_seq ?_)
    rw [trimPre, ite_f h]
theorem pc_TrimPrefix (s p : List UInt8) : PC Tryz.prog 96 [.str s, .str p] (fun r => r = .str (trimPre s p)) := by
  refine PC_body tOk Tryz.func96 rfl Tryz.results96 rfl (by simp [Tryz.ntmps96]) ?_
  rw [Tryz.ntmps96]
  simp only [argSlots]
  repeat (first
    | (refine AWP_seq (AWP_regS tOk rfl ?_); simp)
    | (refine AWP_regS tOk rfl ?_; simp)
    | (refine AWP_skip ?_; simp)
    | (refine AWP_exit ?_; simp)
    | (refine AWP_ret ?_; simp)
    | refine AWP_block ?_
    | refine AWP_seq ?_)
  refine AStep_PC rfl rfl (by simp) (pc_slTrimPrefix s p) rfl ?_
  rintro _ rfl
  simp
  repeat (first
    | (refine AWP_seq (AWP_regS tOk rfl ?_); simp)
    | (refine AWP_regS tOk rfl ?_; simp)
    | (refine AWP_skip ?_; simp)
    | (refine AWP_exit ?_; simp)
    | (refine AWP_ret ?_; simp)
    | refine AWP_block ?_
    | refine AWP_seq ?_)

end
section
def isD (c : UInt8) : Bool := decide (48 ≤ c.toNat) && decide (c.toNat ≤ 57)
def dstep (n : Int) (c : UInt8) : Int := n * 10 + ((c.toNat : Int) - 48)
def dval (s : List UInt8) : Int := s.foldl dstep 0
theorem dval_snoc (s : List UInt8) (c : UInt8) : dval (s ++ [c]) = dstep (dval s) c := by simp [dval]
theorem isD_iff (c : UInt8) : isD c = true ↔ 48 ≤ c.toNat ∧ c.toNat ≤ 57 := by simp [isD]
theorem dval_take (s : List UInt8) (hd : s.all isD = true) (hl : s.length ≤ 15) (j : Nat) (hj : j ≤ s.length) : 0 ≤ dval (s.take j) ∧ dval (s.take j) < 10 ^ j := by
  induction j with
  | zero => simp [dval]
  | succ j ih =>
    have h := ih (by omega)
    have hlt : j < s.length := by omega
    rw [List.take_succ_eq_append_getElem hlt, dval_snoc, dstep]
    have hc := (isD_iff s[j]).1 (List.all_eq_true.1 hd _ (List.getElem_mem hlt))
    rw [Int.pow_succ]
    omega
theorem pow_le15 (j : Nat) (h : j ≤ 15) : (10 : Int) ^ j ≤ 1000000000000000 := by
  have : (10 : Nat) ^ j ≤ 10 ^ 15 := Nat.pow_le_pow_right (by omega) h
  have h2 : ((10 ^ j : Nat) : Int) ≤ ((10 ^ 15 : Nat) : Int) := by exact_mod_cast this
  simpa using h2
set_option maxHeartbeats 1000000 in
theorem pc_iAtoi (s : List UInt8) (h0 : s ≠ []) (hl : s.length ≤ 15) (hd : s.all isD = true) : PC Tryz.prog 122 [.str s] (fun r => r = .tup [.i (dval s), .nili]) := by
  refine PC_body tOk Tryz.func122 rfl Tryz.results122 rfl (by simp [Tryz.ntmps122]) ?_
  rw [Tryz.ntmps122]
  simp only [argSlots]
  have hp : 0 < s.length := List.length_pos_iff.2 h0
  have hp2 : (s.length : Int) < 19 := by omega
  have hc0 := (isD_iff s[0]).1 (List.all_eq_true.1 hd _ (List.getElem_mem hp))
  have hn1 : ((s[0].toNat : Int) == 45) = false := by simp; omega
  have hn2 : ((s[0].toNat : Int) == 43) = false := by simp; omega
  repeat (first
    | (refine AWP_seq (AWP_regS tOk rfl ?_); simp [h0, hp, hp2])
    | (refine AWP_regS tOk rfl ?_; simp [h0, hp, hp2])
    | (refine AWP_skip ?_; simp [h0, hp, hp2])
    | (refine AWP_exit ?_; simp [h0, hp, hp2])
    | (refine AWP_ret ?_; simp [h0, hp, hp2])
    | refine AWP_block ?_
    | refine AWP_seq ?_)
  refine AWP_cond rfl ?_
  repeat (first
    | (refine AWP_seq (AWP_regS tOk rfl ?_); simp [hp, hn1, hn2])
    | (refine AWP_regS tOk rfl ?_; simp [hp, hn1, hn2])
    | (refine AWP_skip ?_; simp [hp, hn1, hn2])
    | (refine AWP_exit ?_; simp [hp, hn1, hn2])
    | (refine AWP_ret ?_; simp [hp, hn1, hn2])
    | refine AWP_block ?_
    | refine AWP_seq ?_)
  refine AWP_cond rfl ?_
  repeat (first
    | (refine AWP_seq (AWP_regS tOk rfl ?_); simp)
    | (refine AWP_regS tOk rfl ?_; simp)
    | (refine AWP_skip ?_; simp)
    | (refine AWP_exit ?_; simp)
    | (refine AWP_ret ?_; simp)
    | refine AWP_block ?_
    | refine AWP_seq ?_)
  refine AStep_toBytes tOk rfl rfl T93 rfl T5 rfl T9 rfl (by omega) rfl ?_
  simp
  repeat (first
    | (refine AWP_seq (AWP_regS tOk rfl ?_); simp)
    | (refine AWP_regS tOk rfl ?_; simp)
    | (refine AWP_skip ?_; simp)
    | (refine AWP_exit ?_; simp)
    | (refine AWP_ret ?_; simp)
    | refine AWP_block ?_
    | refine AWP_seq ?_)
  refine AWP_count s.length (fun j => [(5, .str s), (6, .i (dval (s.take j))), (47, .list (s.map byteAV)), (48, .i s.length), (49, .i j)]) (fun _ => []) (G := []) rfl (by simp) (by simp [dval]) (by simp) (by simp) ?_
  intro j hj ih
  repeat (first
    | (refine AWP_seq (AWP_regS tOk rfl ?_); simp)
    | (refine AWP_regS tOk rfl ?_; simp)
    | (refine AWP_skip ?_; simp)
    | (refine AWP_exit ?_; simp)
    | (refine AWP_ret ?_; simp)
    | refine AWP_block ?_
    | refine AWP_seq ?_)
  refine AWP_cond2 rfl (fun hlt => ?_) (fun hge => ?_)
  · have hlt' : j < s.length := by simpa using hlt
    have hc := (isD_iff s[j]).1 (List.all_eq_true.1 hd _ (List.getElem_mem hlt'))
    have hw : IntKind.i64.wrap ((j : Int) + 1) = j + 1 := wrap_i64 _ (by omega) (by omega)
    have hu : IntKind.u8.wrap ((s[j].toNat : Int) - 48) = (s[j].toNat : Int) - 48 := by rw [IntKind.wrap_u8]; omega
    have hb := dval_take s hd hl j hj
    have hb2 := pow_le15 j (by omega)
    have e1 : IntKind.i64.wrap (dval (s.take j) * 10) = dval (s.take j) * 10 := wrap_i64 _ (by omega) (by omega)
    have e2 : IntKind.i64.wrap ((s[j].toNat : Int) - 48) = (s[j].toNat : Int) - 48 := wrap_i64 _ (by omega) (by omega)
    have e3 : IntKind.i64.wrap (dval (s.take j) * 10 + ((s[j].toNat : Int) - 48)) = dval (s.take j) * 10 + ((s[j].toNat : Int) - 48) := wrap_i64 _ (by omega) (by omega)
    have hf : dval (s.take (j + 1)) = dval (s.take j) * 10 + ((s[j].toNat : Int) - 48) := by rw [List.take_succ_eq_append_getElem hlt', dval_snoc, dstep]
    repeat (first
      | (refine AWP_seq (AWP_regS tOk rfl ?_); simp [hlt', hu])
      | (refine AWP_regS tOk rfl ?_; simp [hlt', hu])
      | (refine AWP_skip ?_; simp [hlt', hu])
      | (refine AWP_exit ?_; simp [hlt', hu])
      | (refine AWP_ret ?_; simp [hlt', hu])
      | refine AWP_block ?_
      | refine AWP_seq ?_)
    refine AWP_cond (b := false) ?_ ?_
    · simp; omega
    repeat (first
      | (refine AWP_seq (AWP_regS tOk rfl ?_); simp [e1, e2, e3, hw])
      | (refine AWP_regS tOk rfl ?_; simp [e1, e2, e3, hw])
      | (refine AWP_skip ?_; simp [e1, e2, e3, hw])
      | (refine AWP_exit ?_; simp [e1, e2, e3, hw])
      | (refine AWP_ret ?_; simp [e1, e2, e3, hw])
      | refine AWP_block ?_
      | refine AWP_seq ?_)
    refine ALoop_end [] (ih hlt') rfl (by simp) ?_ (by simp) (by simp)
    rw [hf]
    simp
  · have hge' : j = s.length := by simp at hge; omega
    subst hge'
    rw [List.take_length]
    repeat (first
      | (refine AWP_seq (AWP_regS tOk rfl ?_); simp [hp, hn1])
      | (refine AWP_regS tOk rfl ?_; simp [hp, hn1])
      | (refine AWP_skip ?_; simp [hp, hn1])
      | (refine AWP_exit ?_; simp [hp, hn1])
      | (refine AWP_ret ?_; simp [hp, hn1])
      | refine AWP_block ?_
      | refine AWP_seq ?_)
    refine AWP_cond rfl ?_
    repeat (first
      | (refine AWP_seq (AWP_regS tOk rfl ?_); simp)
      | (refine AWP_regS tOk rfl ?_; simp)
      | (refine AWP_skip ?_; simp)
      | (refine AWP_exit ?_; simp)
      | (refine AWP_ret ?_; simp)
      | refine AWP_block ?_
      | refine AWP_seq ?_)
theorem pc_Atoi (s : List UInt8) (h0 : s ≠ []) (hl : s.length ≤ 15) (hd : s.all isD = true) : PC Tryz.prog 98 [.str s] (fun r => r = .tup [.i (dval s), .nili]) := by
  refine PC_body tOk Tryz.func98 rfl Tryz.results98 rfl (by simp [Tryz.ntmps98]) ?_
  rw [Tryz.ntmps98]
  simp only [argSlots]
  repeat (first
    | (refine AWP_seq (AWP_regS tOk rfl ?_); simp)
    | (refine AWP_regS tOk rfl ?_; simp)
    | (refine AWP_skip ?_; simp)
    | (refine AWP_exit ?_; simp)
    | (refine AWP_ret ?_; simp)
    | refine AWP_block ?_
    | refine AWP_seq ?_)
  refine AStep_PC rfl rfl (by simp) (pc_iAtoi s h0 hl hd) rfl ?_
  rintro _ rfl
  simp
  repeat (first
    | (refine AWP_seq (AWP_regS tOk rfl ?_); simp)
    | (refine AWP_regS tOk rfl ?_; simp)
    | (refine AWP_skip ?_; simp)
    | (refine AWP_exit ?_; simp)
    | (refine AWP_ret ?_; simp)
    | refine AWP_block ?_
    | refine AWP_seq ?_)
  refine AStep_nilI (b := false) tOk rfl rfl rfl T98 rfl rfl ?_
  simp
  repeat (first
    | (refine AWP_seq (AWP_regS tOk rfl ?_); simp)
    | (refine AWP_regS tOk rfl ?_; simp)
    | (refine AWP_skip ?_; simp)
    | (refine AWP_exit ?_; simp)
    | (refine AWP_ret ?_; simp)
    | refine AWP_block ?_
    | refine AWP_seq ?_)
  refine AWP_cond rfl ?_
  repeat (first
    | (refine AWP_seq (AWP_regS tOk rfl ?_); simp)
    | (refine AWP_regS tOk rfl ?_; simp)
    | (refine AWP_skip ?_; simp)
    | (refine AWP_exit ?_; simp)
    | (refine AWP_ret ?_; simp)
    | refine AWP_block ?_
    | refine AWP_seq ?_)

end
end Go.Abs
set_option maxRecDepth 100000
namespace Go.Abs
open Go Go.Proofs
set_option linter.unusedSimpArgs false
def digs : List UInt8 := [48, 49, 50, 51, 52, 53, 54, 55, 56, 57]
theorem digs_ok : ∀ n : Fin 256, setOf digs n.val = (decide (48 ≤ n.val) && decide (n.val ≤ 57)) := by decide +kernel
theorem digs_set (c : UInt8) : setOf digs c.toNat = isD c := digs_ok ⟨c.toNat, c.toNat_lt⟩
theorem digs_lt : ∀ c ∈ digs, c.toNat < 128 := by decide +kernel
theorem trim_digs (t : List UInt8) : (trimS digs t == []) = t.all isD := by
  rw [trimS_nil]
  congr 1
  funext c
  exact digs_set c
theorem trim_digs' (t : List UInt8) : (trimS digs t).isEmpty = t.all isD := by
  rw [← trim_digs]; cases trimS digs t <;> rfl
set_option maxHeartbeats 2000000 in
theorem pc_iAtoiN (t : List UInt8) (h0 : t ≠ []) (hl : t.length ≤ 15) (hd : t.all isD = true) : PC Tryz.prog 122 [.str (45 :: t)] (fun r => r = .tup [.i (-dval t), .nili]) := by
  refine PC_body tOk Tryz.func122 rfl Tryz.results122 rfl (by simp [Tryz.ntmps122]) ?_
  rw [Tryz.ntmps122]
  simp only [argSlots]
  have hp : 0 < t.length := List.length_pos_iff.2 h0
  have hp1 : (0 : Int) < (t.length : Int) + 1 := by omega
  have hp2 : (t.length : Int) + 1 < 19 := by omega
  have hp3 : ¬ (t.length : Int) < 1 := by omega
  have hone : (1 : Int) ≤ t.length + 1 := by omega
  repeat (first
    | (refine AWP_seq (AWP_regS tOk rfl ?_); simp [h0, hp, hp1, hp2])
    | (refine AWP_regS tOk rfl ?_; simp [h0, hp, hp1, hp2])
    | (refine AWP_skip ?_; simp [h0, hp, hp1, hp2])
    | (refine AWP_exit ?_; simp [h0, hp, hp1, hp2])
    | (refine AWP_ret ?_; simp [h0, hp, hp1, hp2])
    | refine AWP_block ?_
    | refine AWP_seq ?_)
  refine AWP_cond rfl ?_
  repeat (first
    | (refine AWP_seq (AWP_regS tOk rfl ?_); simp [hp])
    | (refine AWP_regS tOk rfl ?_; simp [hp])
    | (refine AWP_skip ?_; simp [hp])
    | (refine AWP_exit ?_; simp [hp])
    | (refine AWP_ret ?_; simp [hp])
    | refine AWP_block ?_
    | refine AWP_seq ?_)
  refine AWP_cond rfl ?_
  repeat (first
    | (refine AWP_seq (AWP_regS tOk rfl ?_); simp [hone])
    | (refine AWP_regS tOk rfl ?_; simp [hone])
    | (refine AWP_skip ?_; simp [hone])
    | (refine AWP_exit ?_; simp [hone])
    | (refine AWP_ret ?_; simp [hone])
    | refine AWP_block ?_
    | refine AWP_seq ?_)
  refine AWP_cond2 rfl (fun h => absurd (of_decide_eq_true h) hp3) (fun _ => ?_)
  repeat (first
    | (refine AWP_seq (AWP_regS tOk rfl ?_); simp)
    | (refine AWP_regS tOk rfl ?_; simp)
    | (refine AWP_skip ?_; simp)
    | (refine AWP_exit ?_; simp)
    | (refine AWP_ret ?_; simp)
    | refine AWP_block ?_
    | refine AWP_seq ?_)
  refine AStep_toBytes tOk rfl rfl T93 rfl T5 rfl T9 rfl (by omega) rfl ?_
  simp
  repeat (first
    | (refine AWP_seq (AWP_regS tOk rfl ?_); simp)
    | (refine AWP_regS tOk rfl ?_; simp)
    | (refine AWP_skip ?_; simp)
    | (refine AWP_exit ?_; simp)
    | (refine AWP_ret ?_; simp)
    | refine AWP_block ?_
    | refine AWP_seq ?_)
  refine AWP_count t.length (fun j => [(5, .str (45 :: t)), (6, .i (dval (t.take j))), (47, .list (t.map byteAV)), (48, .i t.length), (49, .i j)]) (fun _ => []) (G := []) rfl (by simp) (by simp [dval]) (by simp) (by simp) ?_
  intro j hj ih
  repeat (first
    | (refine AWP_seq (AWP_regS tOk rfl ?_); simp)
    | (refine AWP_regS tOk rfl ?_; simp)
    | (refine AWP_skip ?_; simp)
    | (refine AWP_exit ?_; simp)
    | (refine AWP_ret ?_; simp)
    | refine AWP_block ?_
    | refine AWP_seq ?_)
  refine AWP_cond2 rfl (fun hlt => ?_) (fun hge => ?_)
  · have hlt' : j < t.length := by simpa using hlt
    have hc := (isD_iff t[j]).1 (List.all_eq_true.1 hd _ (List.getElem_mem hlt'))
    have hw : IntKind.i64.wrap ((j : Int) + 1) = j + 1 := wrap_i64 _ (by omega) (by omega)
    have hu : IntKind.u8.wrap ((t[j].toNat : Int) - 48) = (t[j].toNat : Int) - 48 := by rw [IntKind.wrap_u8]; omega
    have hb := dval_take t hd hl j hj
    have hb2 := pow_le15 j (by omega)
    have e1 : IntKind.i64.wrap (dval (t.take j) * 10) = dval (t.take j) * 10 := wrap_i64 _ (by omega) (by omega)
    have e2 : IntKind.i64.wrap ((t[j].toNat : Int) - 48) = (t[j].toNat : Int) - 48 := wrap_i64 _ (by omega) (by omega)
    have e3 : IntKind.i64.wrap (dval (t.take j) * 10 + ((t[j].toNat : Int) - 48)) = dval (t.take j) * 10 + ((t[j].toNat : Int) - 48) := wrap_i64 _ (by omega) (by omega)
    have hf : dval (t.take (j + 1)) = dval (t.take j) * 10 + ((t[j].toNat : Int) - 48) := by rw [List.take_succ_eq_append_getElem hlt', dval_snoc, dstep]
    repeat (first
      | (refine AWP_seq (AWP_regS tOk rfl ?_); simp [hlt', hu])
      | (refine AWP_regS tOk rfl ?_; simp [hlt', hu])
      | (refine AWP_skip ?_; simp [hlt', hu])
      | (refine AWP_exit ?_; simp [hlt', hu])
      | (refine AWP_ret ?_; simp [hlt', hu])
      | refine AWP_block ?_
      | refine AWP_seq ?_)
    refine AWP_cond (b := false) ?_ ?_
    · simp; omega
    repeat (first
      | (refine AWP_seq (AWP_regS tOk rfl ?_); simp [e1, e2, e3, hw])
      | (refine AWP_regS tOk rfl ?_; simp [e1, e2, e3, hw])
      | (refine AWP_skip ?_; simp [e1, e2, e3, hw])
      | (refine AWP_exit ?_; simp [e1, e2, e3, hw])
      | (refine AWP_ret ?_; simp [e1, e2, e3, hw])
      | refine AWP_block ?_
      | refine AWP_seq ?_)
    refine ALoop_end [] (ih hlt') rfl (by simp) ?_ (by simp) (by simp)
    rw [hf]
    simp
  · have hge' : j = t.length := by simp at hge; omega
    subst hge'
    rw [List.take_length]
    have hb := dval_take t hd hl t.length (Nat.le_refl _)
    rw [List.take_length] at hb
    have hb2 := pow_le15 t.length (by omega)
    have hn : IntKind.i64.wrap (-dval t) = -dval t := wrap_i64 _ (by omega) (by omega)
    have hn2 : IntKind.i64.wrap (0 - dval t) = -dval t := by rw [wrap_i64 _ (by omega) (by omega)]; omega
    repeat (first
      | (refine AWP_seq (AWP_regS tOk rfl ?_); simp [hp])
      | (refine AWP_regS tOk rfl ?_; simp [hp])
      | (refine AWP_skip ?_; simp [hp])
      | (refine AWP_exit ?_; simp [hp])
      | (refine AWP_ret ?_; simp [hp])
      | refine AWP_block ?_
      | refine AWP_seq ?_)
    refine AWP_cond rfl ?_
    repeat (first
      | (refine AWP_seq (AWP_regS tOk rfl ?_); simp [hn, hn2])
      | (refine AWP_regS tOk rfl ?_; simp [hn, hn2])
      | (refine AWP_skip ?_; simp [hn, hn2])
      | (refine AWP_exit ?_; simp [hn, hn2])
      | (refine AWP_ret ?_; simp [hn, hn2])
      | refine AWP_block ?_
      | refine AWP_seq ?_)
theorem pc_AtoiN (t : List UInt8) (h0 : t ≠ []) (hl : t.length ≤ 15) (hd : t.all isD = true) : PC Tryz.prog 98 [.str (45 :: t)] (fun r => r = .tup [.i (-dval t), .nili]) := by
  refine PC_body tOk Tryz.func98 rfl Tryz.results98 rfl (by simp [Tryz.ntmps98]) ?_
  rw [Tryz.ntmps98]
  simp only [argSlots]
  repeat (first
    | (refine AWP_seq (AWP_regS tOk rfl ?_); simp)
    | (refine AWP_regS tOk rfl ?_; simp)
    | (refine AWP_skip ?_; simp)
    | (refine AWP_exit ?_; simp)
    | (refine AWP_ret ?_; simp)
    | refine AWP_block ?_
    | refine AWP_seq ?_)
  refine AStep_PC rfl rfl (by simp) (pc_iAtoiN t h0 hl hd) rfl ?_
  rintro _ rfl
  simp
  repeat (first
    | (refine AWP_seq (AWP_regS tOk rfl ?_); simp)
    | (refine AWP_regS tOk rfl ?_; simp)
    | (refine AWP_skip ?_; simp)
    | (refine AWP_exit ?_; simp)
    | (refine AWP_ret ?_; simp)
    | refine AWP_block ?_
    | refine AWP_seq ?_)
  refine AStep_nilI (b := false) tOk rfl rfl rfl T98 rfl rfl ?_
  simp
  repeat (first
    | (refine AWP_seq (AWP_regS tOk rfl ?_); simp)
    | (refine AWP_regS tOk rfl ?_; simp)
    | (refine AWP_skip ?_; simp)
    | (refine AWP_exit ?_; simp)
    | (refine AWP_ret ?_; simp)
    | refine AWP_block ?_
    | refine AWP_seq ?_)
  refine AWP_cond rfl ?_
  repeat (first
    | (refine AWP_seq (AWP_regS tOk rfl ?_); simp)
    | (refine AWP_regS tOk rfl ?_; simp)
    | (refine AWP_skip ?_; simp)
    | (refine AWP_exit ?_; simp)
    | (refine AWP_ret ?_; simp)
    | refine AWP_block ?_
    | refine AWP_seq ?_)
def numB (t s : List UInt8) : Bool := match t with
  | [] => false
  | c :: r => decide ((c :: r).length ≤ 15) && (c :: r).all isD && !(((c.toNat : Int) == 48) && !(s == [48]))
def numR (s : List UInt8) : Int × Bool := if numB (trimPre s [45]) s = true then (if (trimPre s [45]).length < s.length then -dval (trimPre s [45]) else dval (trimPre s [45]), true) else (0, false)
theorem trim_cases (s : List UInt8) : (trimPre s [45] = s ∧ ¬ s.head? = some 45) ∨ s = 45 :: trimPre s [45] := by
  unfold trimPre hasPre
  cases s with
  | nil => left; simp
  | cons c r =>
    by_cases h : c = 45
    · subst h; right; simp
    · left; simp [List.isPrefixOf, h, Ne.symm h]
attribute [local irreducible] trimS dval isD trimPre
set_option maxHeartbeats 2000000 in
theorem pc_number (s : List UInt8) (hs : s.length ≤ 1000000) : PC Tryz.prog 78 [.str s] (fun r => r = .tup [.i (numR s).1, .bool (numR s).2]) := by
  refine PC_body tOk Tryz.func78 rfl Tryz.results78 rfl (by simp [Tryz.ntmps78]) ?_
  rw [Tryz.ntmps78]
  simp only [argSlots]
  repeat (first
    | (refine AWP_seq (AWP_regS tOk rfl ?_); simp)
    | (refine AWP_regS tOk rfl ?_; simp)
    | (refine AWP_skip ?_; simp)
    | (refine AWP_exit ?_; simp)
    | (refine AWP_ret ?_; simp)
    | refine AWP_block ?_
    | refine AWP_seq ?_)
  refine AStep_PC rfl rfl (by simp) (pc_TrimPrefix s [45]) rfl ?_
  rintro _ rfl
  simp
  have hc := trim_cases s
  rw [numR]
  generalize ht : trimPre s [45] = t at *
  rcases t with _ | ⟨c, r⟩
  · repeat (first
      | (refine AWP_seq (AWP_regS tOk rfl ?_); simp)
      | (refine AWP_regS tOk rfl ?_; simp)
      | (refine AWP_skip ?_; simp)
      | (refine AWP_exit ?_; simp)
      | (refine AWP_ret ?_; simp)
      | refine AWP_block ?_
      | refine AWP_seq ?_)
    refine AStep_skip rfl rfl ?_
    simp
    repeat (first
      | (refine AWP_seq (AWP_regS tOk rfl ?_); simp)
      | (refine AWP_regS tOk rfl ?_; simp)
      | (refine AWP_skip ?_; simp)
      | (refine AWP_exit ?_; simp)
      | (refine AWP_ret ?_; simp)
      | refine AWP_block ?_
      | refine AWP_seq ?_)
    refine AWP_cond rfl ?_
    repeat (first
      | (refine AWP_seq (AWP_regS tOk rfl ?_); simp)
      | (refine AWP_regS tOk rfl ?_; simp)
      | (refine AWP_skip ?_; simp)
      | (refine AWP_exit ?_; simp)
      | (refine AWP_ret ?_; simp)
      | refine AWP_block ?_
      | refine AWP_seq ?_)
    simp [numB]
  by_cases h15 : 15 < r.length + 1
  · have h15' : (15 : Int) < (r.length : Int) + 1 := by omega
    repeat (first
      | (refine AWP_seq (AWP_regS tOk rfl ?_); simp [h15'])
      | (refine AWP_regS tOk rfl ?_; simp [h15'])
      | (refine AWP_skip ?_; simp [h15'])
      | (refine AWP_exit ?_; simp [h15'])
      | (refine AWP_ret ?_; simp [h15'])
      | refine AWP_block ?_
      | refine AWP_seq ?_)
    refine AStep_skip rfl rfl ?_
    simp
    repeat (first
      | (refine AWP_seq (AWP_regS tOk rfl ?_); simp)
      | (refine AWP_regS tOk rfl ?_; simp)
      | (refine AWP_skip ?_; simp)
      | (refine AWP_exit ?_; simp)
      | (refine AWP_ret ?_; simp)
      | refine AWP_block ?_
      | refine AWP_seq ?_)
    refine AWP_cond rfl ?_
    repeat (first
      | (refine AWP_seq (AWP_regS tOk rfl ?_); simp)
      | (refine AWP_regS tOk rfl ?_; simp)
      | (refine AWP_skip ?_; simp)
      | (refine AWP_exit ?_; simp)
      | (refine AWP_ret ?_; simp)
      | refine AWP_block ?_
      | refine AWP_seq ?_)
    have hb : numB (c :: r) s = false := by simp [numB]; omega
    simp [hb]
  have h15' : ¬ (15 : Int) < (r.length : Int) + 1 := by omega
  have hb : numB (c :: r) s = !(!(c :: r).all isD || (((c.toNat : Int) == 48) && !(s == [48]))) := by
    unfold numB
    simp only []
    rw [decide_eq_true (show (c :: r).length ≤ 15 by simp; omega)]
    cases (c :: r).all isD <;> simp
  repeat (first
    | (refine AWP_seq (AWP_regS tOk rfl ?_); simp [h15'])
    | (refine AWP_regS tOk rfl ?_; simp [h15'])
    | (refine AWP_skip ?_; simp [h15'])
    | (refine AWP_exit ?_; simp [h15'])
    | (refine AWP_ret ?_; simp [h15'])
    | refine AWP_block ?_
    | refine AWP_seq ?_)
  refine AStep_PC rfl rfl (by simp) (pc_Trim digs (c :: r) digs_lt (by decide) (by decide) (by simp; omega) (by simp)) rfl ?_
  rintro _ rfl
  simp
  repeat (first
    | (refine AWP_seq (AWP_regS tOk rfl ?_); simp)
    | (refine AWP_regS tOk rfl ?_; simp)
    | (refine AWP_skip ?_; simp)
    | (refine AWP_exit ?_; simp)
    | (refine AWP_ret ?_; simp)
    | refine AWP_block ?_
    | refine AWP_seq ?_)
  rw [trim_digs']
  refine AWP_cond2 rfl (fun h1 => ?_) (fun h1 => ?_)
  · repeat (first
      | (refine AWP_seq (AWP_regS tOk rfl ?_); simp)
      | (refine AWP_regS tOk rfl ?_; simp)
      | (refine AWP_skip ?_; simp)
      | (refine AWP_exit ?_; simp)
      | (refine AWP_ret ?_; simp)
      | refine AWP_block ?_
      | refine AWP_seq ?_)
    rw [if_neg (by rw [hb, h1]; decide)]
    exact ⟨rfl, rfl⟩
  have hd : (c :: r).all isD = true := by
    have := Bool.or_eq_false_iff.1 h1
    simpa using this.1
  rw [if_pos (by rw [hb, h1]; rfl)]
  have hl : (c :: r).length ≤ 15 := by simp; omega
  rcases hc with ⟨rfl, _⟩ | rfl
  · simp only [Nat.lt_irrefl, ↓reduceIte]
    repeat (first
      | (refine AWP_seq (AWP_regS tOk rfl ?_); simp)
      | (refine AWP_regS tOk rfl ?_; simp)
      | (refine AWP_skip ?_; simp)
      | (refine AWP_exit ?_; simp)
      | (refine AWP_ret ?_; simp)
      | refine AWP_block ?_
      | refine AWP_seq ?_)
    refine AStep_PC rfl rfl (by simp) (pc_Atoi (c :: r) (by simp) hl hd) rfl ?_
    rintro _ rfl
    simp
    repeat (first
      | (refine AWP_seq (AWP_regS tOk rfl ?_); simp)
      | (refine AWP_regS tOk rfl ?_; simp)
      | (refine AWP_skip ?_; simp)
      | (refine AWP_exit ?_; simp)
      | (refine AWP_ret ?_; simp)
      | refine AWP_block ?_
      | refine AWP_seq ?_)
    refine AWP_drawT tOk mixed [] (.val 0 (.val 3 (.val 1 (.one 2 (.val 4 .done))))) rfl (by kernel_rfl) ?_
    simp
    refine AStep_nilI (b := true) tOk rfl rfl rfl T98 rfl rfl ?_
    simp
    repeat (first
      | (refine AWP_seq (AWP_regS tOk rfl ?_); simp)
      | (refine AWP_regS tOk rfl ?_; simp)
      | (refine AWP_skip ?_; simp)
      | (refine AWP_exit ?_; simp)
      | (refine AWP_ret ?_; simp)
      | refine AWP_block ?_
      | refine AWP_seq ?_)
  · rw [if_pos (by simp)]
    repeat (first
      | (refine AWP_seq (AWP_regS tOk rfl ?_); simp)
      | (refine AWP_regS tOk rfl ?_; simp)
      | (refine AWP_skip ?_; simp)
      | (refine AWP_exit ?_; simp)
      | (refine AWP_ret ?_; simp)
      | refine AWP_block ?_
      | refine AWP_seq ?_)
    refine AStep_PC rfl rfl (by simp) (pc_AtoiN (c :: r) (by simp) hl hd) rfl ?_
    rintro _ rfl
    simp
    repeat (first
      | (refine AWP_seq (AWP_regS tOk rfl ?_); simp)
      | (refine AWP_regS tOk rfl ?_; simp)
      | (refine AWP_skip ?_; simp)
      | (refine AWP_exit ?_; simp)
      | (refine AWP_ret ?_; simp)
      | refine AWP_block ?_
      | refine AWP_seq ?_)
    refine AWP_drawT tOk mixed [] (.val 0 (.val 3 (.val 1 (.one 2 (.val 4 .done))))) rfl (by kernel_rfl) ?_
    simp
    refine AStep_nilI (b := true) tOk rfl rfl rfl T98 rfl rfl ?_
    simp
    repeat (first
      | (refine AWP_seq (AWP_regS tOk rfl ?_); simp)
      | (refine AWP_regS tOk rfl ?_; simp)
      | (refine AWP_skip ?_; simp)
      | (refine AWP_exit ?_; simp)
      | (refine AWP_ret ?_; simp)
      | refine AWP_block ?_
      | refine AWP_seq ?_)
end Go.Abs
set_option maxRecDepth 100000
namespace Go.Abs
open Go Go.Proofs
set_option linter.unusedSimpArgs false
/-- The stretch that a text stands for. -/
def spanR (s : List UInt8) : Iv × Bool :=
  if Lib.index s [46, 46] < 0 then (⟨(numR s).1, (numR s).1⟩, (numR s).2)
  else (⟨(numR (s.take (Lib.index s [46, 46]).toNat)).1, (numR (s.drop ((Lib.index s [46, 46]).toNat + 2))).1⟩,
    (numR (s.take (Lib.index s [46, 46]).toNat)).2 && (numR (s.drop ((Lib.index s [46, 46]).toNat + 2))).2 && ((numR (s.take (Lib.index s [46, 46]).toNat)).1 != (numR (s.drop ((Lib.index s [46, 46]).toNat + 2))).1))
attribute [local irreducible] numR Lib.index
set_option maxHeartbeats 1000000 in
theorem pc_part (s : List UInt8) (hs : s.length ≤ 1000000) : PC Tryz.prog 55 [.str s] (fun r => r = .tup [encIv (spanR s).1, .bool (spanR s).2]) := by
  refine PC_body tOk Tryz.func55 rfl Tryz.results55 rfl (by simp [Tryz.ntmps55]) ?_
  rw [Tryz.ntmps55]
  simp only [argSlots]
  repeat (first
    | (refine AWP_seq (AWP_regS tOk rfl ?_); simp)
    | (refine AWP_regS tOk rfl ?_; simp)
    | (refine AWP_skip ?_; simp)
    | (refine AWP_exit ?_; simp)
    | (refine AWP_ret ?_; simp)
    | refine AWP_block ?_
    | refine AWP_seq ?_)
  refine AStep_PC rfl rfl (by simp) (pc_Cut s [46, 46] hs) rfl ?_
  rintro _ rfl
  simp
  rcases idx_cases s [46, 46] (by simp) with h | ⟨k, h, hk⟩
  · have hcut : Lib.cut s [46, 46] = (s, [], false) := by rw [Lib.cut, if_neg (by omega)]
    have hsp : spanR s = (⟨(numR s).1, (numR s).1⟩, (numR s).2) := by rw [spanR, if_pos (by omega)]
    rw [hsp]
    repeat (first
      | (refine AWP_seq (AWP_regS tOk rfl ?_); simp [hcut])
      | (refine AWP_regS tOk rfl ?_; simp [hcut])
      | (refine AWP_skip ?_; simp [hcut])
      | (refine AWP_exit ?_; simp [hcut])
      | (refine AWP_ret ?_; simp [hcut])
      | refine AWP_block ?_
      | refine AWP_seq ?_)
    refine AStep_PC rfl rfl (by simp) (pc_number s hs) rfl ?_
    rintro _ rfl
    simp
    repeat (first
      | (refine AWP_seq (AWP_regS tOk rfl ?_); simp)
      | (refine AWP_regS tOk rfl ?_; simp)
      | (refine AWP_skip ?_; simp)
      | (refine AWP_exit ?_; simp)
      | (refine AWP_ret ?_; simp)
      | refine AWP_block ?_
      | refine AWP_seq ?_)
    refine AWP_cond rfl ?_
    repeat (first
      | (refine AWP_seq (AWP_regS tOk rfl ?_); simp)
      | (refine AWP_regS tOk rfl ?_; simp)
      | (refine AWP_skip ?_; simp)
      | (refine AWP_exit ?_; simp)
      | (refine AWP_ret ?_; simp)
      | refine AWP_block ?_
      | refine AWP_seq ?_)
  · have hkn : (Lib.index s [46, 46]).toNat = k := by omega
    have hcut : Lib.cut s [46, 46] = (s.take k, s.drop (k + 2), true) := by rw [Lib.cut, if_pos (by omega), hkn]; rfl
    have hsp : spanR s = (⟨(numR (s.take k)).1, (numR (s.drop (k + 2))).1⟩, (numR (s.take k)).2 && (numR (s.drop (k + 2))).2 && ((numR (s.take k)).1 != (numR (s.drop (k + 2))).1)) := by rw [spanR, if_neg (by omega), hkn]
    rw [hsp]
    repeat (first
      | (refine AWP_seq (AWP_regS tOk rfl ?_); simp [hcut])
      | (refine AWP_regS tOk rfl ?_; simp [hcut])
      | (refine AWP_skip ?_; simp [hcut])
      | (refine AWP_exit ?_; simp [hcut])
      | (refine AWP_ret ?_; simp [hcut])
      | refine AWP_block ?_
      | refine AWP_seq ?_)
    refine AStep_PC rfl rfl (by simp) (pc_number (s.take k) (by simp; omega)) rfl ?_
    rintro _ rfl
    simp
    repeat (first
      | (refine AWP_seq (AWP_regS tOk rfl ?_); simp)
      | (refine AWP_regS tOk rfl ?_; simp)
      | (refine AWP_skip ?_; simp)
      | (refine AWP_exit ?_; simp)
      | (refine AWP_ret ?_; simp)
      | refine AWP_block ?_
      | refine AWP_seq ?_)
    refine AWP_cond rfl ?_
    repeat (first
      | (refine AWP_seq (AWP_regS tOk rfl ?_); simp)
      | (refine AWP_regS tOk rfl ?_; simp)
      | (refine AWP_skip ?_; simp)
      | (refine AWP_exit ?_; simp)
      | (refine AWP_ret ?_; simp)
      | refine AWP_block ?_
      | refine AWP_seq ?_)
    refine AStep_PC rfl rfl (by simp) (pc_number (s.drop (k + 2)) (by simp; omega)) rfl ?_
    rintro _ rfl
    simp
    repeat (first
      | (refine AWP_seq (AWP_regS tOk rfl ?_); simp)
      | (refine AWP_regS tOk rfl ?_; simp)
      | (refine AWP_skip ?_; simp)
      | (refine AWP_exit ?_; simp)
      | (refine AWP_ret ?_; simp)
      | refine AWP_block ?_
      | refine AWP_seq ?_)
end Go.Abs
set_option maxRecDepth 100000
namespace Go.Abs
open Go Go.Proofs
set_option linter.unusedSimpArgs false
theorem numR_t (s t : List UInt8) (ht : trimPre s [45] = t) : numR s = if numB t s = true then (if t.length < s.length then -dval t else dval t, true) else (0, false) := by unfold numR; rw [ht]
theorem dval_pre (t : List UInt8) (j : Nat) (hd : (t.take j).all isD = true) (hl : t.length ≤ 15) (hj : j ≤ t.length) : 0 ≤ dval (t.take j) ∧ dval (t.take j) ≤ 1000000000000000 := by
  have h := dval_take (t.take j) hd (by simp; omega) j (by simp; omega)
  rw [List.take_take, Nat.min_self] at h
  have := pow_le15 j (by omega)
  omega
theorem numB_long (c : UInt8) (r s : List UInt8) (h : 15 < r.length + 1) : numB (c :: r) s = false := by
  rw [show numB (c :: r) s = (decide ((c :: r).length ≤ 15) && (c :: r).all isD && !(((c.toNat : Int) == 48) && !(s == [48]))) from rfl, decide_eq_false (show ¬ (c :: r).length ≤ 15 by simp; omega)]; rfl
theorem numB_short (c : UInt8) (r s : List UInt8) (h : ¬ 15 < r.length + 1) : numB (c :: r) s = ((c :: r).all isD && !(((c.toNat : Int) == 48) && !(s == [48]))) := by
  rw [show numB (c :: r) s = (decide ((c :: r).length ≤ 15) && (c :: r).all isD && !(((c.toNat : Int) == 48) && !(s == [48]))) from rfl, decide_eq_true (show (c :: r).length ≤ 15 by simp; omega)]; rfl
theorem all_succ (t : List UInt8) (j : Nat) (h : j < t.length) : (t.take (j + 1)).all isD = ((t.take j).all isD && isD t[j]) := by
  rw [List.take_succ_eq_append_getElem h, List.all_append]; simp
theorem all_no (t : List UInt8) (j : Nat) (h : j < t.length) (hd : isD t[j] = false) : t.all isD = false := by
  rw [Bool.eq_false_iff]
  intro ha
  rw [List.all_eq_true.1 ha _ (List.getElem_mem h)] at hd
  cases hd
theorem dval_nil : dval [] = 0 := rfl
attribute [local irreducible] numR Lib.index dval isD trimPre
set_option maxHeartbeats 4000000 in
theorem pc_rNumber (s : List UInt8) (hs : s.length ≤ 1000000) : PC Tryz.prog 84 [.str s] (fun r => r = .tup [.i (numR s).1, .bool (numR s).2]) := by
  refine PC_body tOk Tryz.func84 rfl Tryz.results84 rfl (by simp [Tryz.ntmps84]) ?_
  rw [Tryz.ntmps84]
  simp only [argSlots]
  have hc := trim_cases s
  generalize ht : trimPre s [45] = t at hc
  have hnum := numR_t s t ht
  rcases hc with ⟨rfl, hh⟩ | rfl
  · clear ht
    rcases t with _ | ⟨c, r⟩
    · repeat (first
        | (refine AWP_seq (AWP_regS tOk rfl ?_); simp)
        | (refine AWP_regS tOk rfl ?_; simp)
        | (refine AWP_skip ?_; simp)
        | (refine AWP_exit ?_; simp)
        | (refine AWP_ret ?_; simp)
        | refine AWP_block ?_
        | refine AWP_seq ?_)
      refine AWP_cond rfl ?_
      repeat (first
        | (refine AWP_seq (AWP_regS tOk rfl ?_); simp)
        | (refine AWP_regS tOk rfl ?_; simp)
        | (refine AWP_skip ?_; simp)
        | (refine AWP_exit ?_; simp)
        | (refine AWP_ret ?_; simp)
        | refine AWP_block ?_
        | refine AWP_seq ?_)
      refine AWP_cond rfl ?_
      repeat (first
        | (refine AWP_seq (AWP_regS tOk rfl ?_); simp)
        | (refine AWP_regS tOk rfl ?_; simp)
        | (refine AWP_skip ?_; simp)
        | (refine AWP_exit ?_; simp)
        | (refine AWP_ret ?_; simp)
        | refine AWP_block ?_
        | refine AWP_seq ?_)
      rw [hnum, if_neg (by simp [numB])]
      exact ⟨rfl, rfl⟩
    · have hc45 : ((c.toNat : Int) == 45) = false := by
        rw [beq_eq_false_iff_ne]; intro e; apply hh; simp; exact UInt8.toNat_inj.1 (by simpa using (by omega : c.toNat = 45))
      repeat (first
        | (refine AWP_seq (AWP_regS tOk rfl ?_); simp [hc45])
        | (refine AWP_regS tOk rfl ?_; simp [hc45])
        | (refine AWP_skip ?_; simp [hc45])
        | (refine AWP_exit ?_; simp [hc45])
        | (refine AWP_ret ?_; simp [hc45])
        | refine AWP_block ?_
        | refine AWP_seq ?_)
      refine AWP_cond rfl ?_
      have hln : ((r.length : Int) + 1 == 0) = false := beq_eq_false_iff_ne.2 (by omega)
      by_cases h15 : 15 < r.length + 1
      · have h15' : (15 : Int) < (r.length : Int) + 1 := by omega
        repeat (first
          | (refine AWP_seq (AWP_regS tOk rfl ?_); simp [h15', hln])
          | (refine AWP_regS tOk rfl ?_; simp [h15', hln])
          | (refine AWP_skip ?_; simp [h15', hln])
          | (refine AWP_exit ?_; simp [h15', hln])
          | (refine AWP_ret ?_; simp [h15', hln])
          | refine AWP_block ?_
          | refine AWP_seq ?_)
        refine AWP_cond rfl ?_
        repeat (first
          | (refine AWP_seq (AWP_regS tOk rfl ?_); simp)
          | (refine AWP_regS tOk rfl ?_; simp)
          | (refine AWP_skip ?_; simp)
          | (refine AWP_exit ?_; simp)
          | (refine AWP_ret ?_; simp)
          | refine AWP_block ?_
          | refine AWP_seq ?_)
        rw [hnum, numB_long c r _ h15]
        exact ⟨rfl, rfl⟩
      have h15' : ¬ (15 : Int) < (r.length : Int) + 1 := by omega
      rw [numB_short c r _ h15] at hnum
      repeat (first
        | (refine AWP_seq (AWP_regS tOk rfl ?_); simp [h15', hln])
        | (refine AWP_regS tOk rfl ?_; simp [h15', hln])
        | (refine AWP_skip ?_; simp [h15', hln])
        | (refine AWP_exit ?_; simp [h15', hln])
        | (refine AWP_ret ?_; simp [h15', hln])
        | refine AWP_block ?_
        | refine AWP_seq ?_)
      refine AWP_cond2 rfl (fun h => ?_) (fun h => ?_)
      · repeat (first
          | (refine AWP_seq (AWP_regS tOk rfl ?_); simp)
          | (refine AWP_regS tOk rfl ?_; simp)
          | (refine AWP_skip ?_; simp)
          | (refine AWP_exit ?_; simp)
          | (refine AWP_ret ?_; simp)
          | refine AWP_block ?_
          | refine AWP_seq ?_)
        have hz : ((((c.toNat : Int) == 48) && !((c :: r) == [48]))) = true := by
          simp at h ⊢
          exact ⟨h.1, .inr fun e => by have h2 := h.2; rw [e] at h2; simp at h2⟩
        rw [hnum, hz]
        simp
      · have hz : ((((c.toNat : Int) == 48) && !((c :: r) == [48]))) = false := by
          simp at h ⊢
          intro h1
          exact ⟨UInt8.toNat_inj.1 (by simpa using (by omega : c.toNat = 48)), List.length_eq_zero_iff.1 (by have := h h1; omega)⟩
        rw [hz, Bool.not_false, Bool.and_true] at hnum
        have hl : (c :: r).length ≤ 15 := by simp; omega
        obtain ⟨t, htt⟩ : ∃ t, c :: r = t := ⟨_, rfl⟩
        rw [htt] at hl hnum hs ⊢
        have hneg : decide (t.length < (t).length) = false := by simp
        repeat (first
          | (refine AWP_seq (AWP_regS tOk rfl ?_); simp)
          | (refine AWP_regS tOk rfl ?_; simp)
          | (refine AWP_skip ?_; simp)
          | (refine AWP_exit ?_; simp)
          | (refine AWP_ret ?_; simp)
          | refine AWP_block ?_
          | refine AWP_seq ?_)
        refine AWP_countI t.length (fun j => (t.take j).all isD = true) (fun j => [(0, .str (t)), (4, .str t), (5, .i (dval (t.take j))), (6, .i j)]) (fun _ => []) rfl (by simp [dval_nil]) (by simp [dval_nil]) (by simp [dval_nil]) (by simp [dval_nil]) (by simp [dval_nil]) ?_
        intro j hj hI ih
        have hbd := dval_pre t j hI hl hj
        repeat (first
          | (refine AWP_seq (AWP_regS tOk rfl ?_); simp)
          | (refine AWP_regS tOk rfl ?_; simp)
          | (refine AWP_skip ?_; simp)
          | (refine AWP_exit ?_; simp)
          | (refine AWP_ret ?_; simp)
          | refine AWP_block ?_
          | refine AWP_seq ?_)
        refine AWP_cond2 rfl (fun hlt => ?_) (fun hge => ?_)
        · have hlt' : j < t.length := by simpa using hlt
          have hw : IntKind.i64.wrap ((j : Int) + 1) = j + 1 := wrap_i64 _ (by omega) (by omega)
          cases hd : isD t[j] with
          | false =>
            have hcc : t[j].toNat < 48 ∨ 57 < t[j].toNat := by
              rcases Nat.lt_or_ge t[j].toNat 48 with h | h
              · exact .inl h
              · rcases Nat.lt_or_ge 57 t[j].toNat with h2 | h2
                · exact .inr h2
                · rw [(isD_iff _).2 ⟨h, h2⟩] at hd; cases hd
            rw [hnum, all_no t j hlt' hd]
            rcases hcc with h | h
            · repeat (first
                | (refine AWP_seq (AWP_regS tOk rfl ?_); simp [hlt'])
                | (refine AWP_regS tOk rfl ?_; simp [hlt'])
                | (refine AWP_skip ?_; simp [hlt'])
                | (refine AWP_exit ?_; simp [hlt'])
                | (refine AWP_ret ?_; simp [hlt'])
                | refine AWP_block ?_
                | refine AWP_seq ?_)
              refine AWP_cond2 rfl (fun _ => ?_) (fun h' => by simp at h'; omega)
              repeat (first
                | (refine AWP_seq (AWP_regS tOk rfl ?_); simp)
                | (refine AWP_regS tOk rfl ?_; simp)
                | (refine AWP_skip ?_; simp)
                | (refine AWP_exit ?_; simp)
                | (refine AWP_ret ?_; simp)
                | refine AWP_block ?_
                | refine AWP_seq ?_)
            · have h48 : ¬ t[j].toNat < 48 := by omega
              repeat (first
                | (refine AWP_seq (AWP_regS tOk rfl ?_); simp [hlt'])
                | (refine AWP_regS tOk rfl ?_; simp [hlt'])
                | (refine AWP_skip ?_; simp [hlt'])
                | (refine AWP_exit ?_; simp [hlt'])
                | (refine AWP_ret ?_; simp [hlt'])
                | refine AWP_block ?_
                | refine AWP_seq ?_)
              refine AWP_cond2 rfl (fun _ => ?_) (fun h' => by simp at h'; omega)
              repeat (first
                | (refine AWP_seq (AWP_regS tOk rfl ?_); simp)
                | (refine AWP_regS tOk rfl ?_; simp)
                | (refine AWP_skip ?_; simp)
                | (refine AWP_exit ?_; simp)
                | (refine AWP_ret ?_; simp)
                | refine AWP_block ?_
                | refine AWP_seq ?_)
          | true =>
            have hc := (isD_iff t[j]).1 hd
            have h1 : ¬ t[j].toNat < 48 := by omega
            have h2 : ¬ 57 < t[j].toNat := by omega
            have hu : IntKind.u8.wrap ((t[j].toNat : Int) - 48) = (t[j].toNat : Int) - 48 := by rw [IntKind.wrap_u8]; omega
            have e1 : IntKind.i64.wrap (10 * dval (t.take j)) = 10 * dval (t.take j) := wrap_i64 _ (by omega) (by omega)
            have e2 : IntKind.i64.wrap ((t[j].toNat : Int) - 48) = (t[j].toNat : Int) - 48 := wrap_i64 _ (by omega) (by omega)
            have e3 : IntKind.i64.wrap (10 * dval (t.take j) + ((t[j].toNat : Int) - 48)) = 10 * dval (t.take j) + ((t[j].toNat : Int) - 48) := wrap_i64 _ (by omega) (by omega)
            have hf : dval (t.take (j + 1)) = dval (t.take j) * 10 + ((t[j].toNat : Int) - 48) := by rw [List.take_succ_eq_append_getElem hlt', dval_snoc, dstep]
            repeat (first
              | (refine AWP_seq (AWP_regS tOk rfl ?_); simp [hlt'])
              | (refine AWP_regS tOk rfl ?_; simp [hlt'])
              | (refine AWP_skip ?_; simp [hlt'])
              | (refine AWP_exit ?_; simp [hlt'])
              | (refine AWP_ret ?_; simp [hlt'])
              | refine AWP_block ?_
              | refine AWP_seq ?_)
            refine AWP_cond2 rfl (fun h' => by simp at h'; omega) (fun _ => ?_)
            repeat (first
              | (refine AWP_seq (AWP_regS tOk rfl ?_); simp [hlt', hu, e1, e2, e3, hw])
              | (refine AWP_regS tOk rfl ?_; simp [hlt', hu, e1, e2, e3, hw])
              | (refine AWP_skip ?_; simp [hlt', hu, e1, e2, e3, hw])
              | (refine AWP_exit ?_; simp [hlt', hu, e1, e2, e3, hw])
              | (refine AWP_ret ?_; simp [hlt', hu, e1, e2, e3, hw])
              | refine AWP_block ?_
              | refine AWP_seq ?_)
            refine ALoop_end [] (ih hlt' (by rw [all_succ t j hlt', hI, hd]; rfl)) rfl (by simp) ?_ (by simp) (by simp)
            rw [hf]
            simp
            omega
        · have hge' : j = t.length := by simp at hge; omega
          subst hge'
          rw [List.take_length] at hI hbd ⊢
          rw [hnum, if_pos hI]
          have hn2 : IntKind.i64.wrap (0 - dval t) = -dval t := by rw [wrap_i64 _ (by omega) (by omega)]; omega
          have hn3 : IntKind.i64.wrap (-dval t) = -dval t := wrap_i64 _ (by omega) (by omega)
          repeat (first
            | (refine AWP_seq (AWP_regS tOk rfl ?_); simp)
            | (refine AWP_regS tOk rfl ?_; simp)
            | (refine AWP_skip ?_; simp)
            | (refine AWP_exit ?_; simp)
            | (refine AWP_ret ?_; simp)
            | refine AWP_block ?_
            | refine AWP_seq ?_)
          refine AWP_cond rfl ?_
          try rw [if_pos (decide_eq_true (show (t.length : Int) < t.length + 1 by omega))]
          repeat (first
            | (refine AWP_seq (AWP_regS tOk rfl ?_); simp [hn2, hn3])
            | (refine AWP_regS tOk rfl ?_; simp [hn2, hn3])
            | (refine AWP_skip ?_; simp [hn2, hn3])
            | (refine AWP_exit ?_; simp [hn2, hn3])
            | (refine AWP_ret ?_; simp [hn2, hn3])
            | refine AWP_block ?_
            | refine AWP_seq ?_)
  · rcases t with _ | ⟨c, r⟩
    · repeat (first
        | (refine AWP_seq (AWP_regS tOk rfl ?_); simp)
        | (refine AWP_regS tOk rfl ?_; simp)
        | (refine AWP_skip ?_; simp)
        | (refine AWP_exit ?_; simp)
        | (refine AWP_ret ?_; simp)
        | refine AWP_block ?_
        | refine AWP_seq ?_)
      refine AWP_cond rfl ?_
      repeat (first
        | (refine AWP_seq (AWP_regS tOk rfl ?_); simp)
        | (refine AWP_regS tOk rfl ?_; simp)
        | (refine AWP_skip ?_; simp)
        | (refine AWP_exit ?_; simp)
        | (refine AWP_ret ?_; simp)
        | refine AWP_block ?_
        | refine AWP_seq ?_)
      refine AWP_cond rfl ?_
      repeat (first
        | (refine AWP_seq (AWP_regS tOk rfl ?_); simp)
        | (refine AWP_regS tOk rfl ?_; simp)
        | (refine AWP_skip ?_; simp)
        | (refine AWP_exit ?_; simp)
        | (refine AWP_ret ?_; simp)
        | refine AWP_block ?_
        | refine AWP_seq ?_)
      rw [hnum, if_neg (by simp [numB])]
      exact ⟨rfl, rfl⟩
    have hone : (1 : Int) ≤ (r.length : Int) + 1 + 1 := by omega
    have htwo : (1 : Int) < (r.length : Int) + 1 + 1 := by omega
    have hpos : (0 : Int) < (r.length : Int) + 1 + 1 := by omega
    repeat (first
      | (refine AWP_seq (AWP_regS tOk rfl ?_); simp [hone, hpos])
      | (refine AWP_regS tOk rfl ?_; simp [hone, hpos])
      | (refine AWP_skip ?_; simp [hone, hpos])
      | (refine AWP_exit ?_; simp [hone, hpos])
      | (refine AWP_ret ?_; simp [hone, hpos])
      | refine AWP_block ?_
      | refine AWP_seq ?_)
    refine AWP_cond rfl ?_
    have hln : ((r.length : Int) + 1 == 0) = false := beq_eq_false_iff_ne.2 (by omega)
    by_cases h15 : 15 < r.length + 1
    · have h15' : (15 : Int) < (r.length : Int) + 1 := by omega
      repeat (first
        | (refine AWP_seq (AWP_regS tOk rfl ?_); simp [h15', hln, hone])
        | (refine AWP_regS tOk rfl ?_; simp [h15', hln, hone])
        | (refine AWP_skip ?_; simp [h15', hln, hone])
        | (refine AWP_exit ?_; simp [h15', hln, hone])
        | (refine AWP_ret ?_; simp [h15', hln, hone])
        | refine AWP_block ?_
        | refine AWP_seq ?_)
      refine AWP_cond rfl ?_
      repeat (first
        | (refine AWP_seq (AWP_regS tOk rfl ?_); simp)
        | (refine AWP_regS tOk rfl ?_; simp)
        | (refine AWP_skip ?_; simp)
        | (refine AWP_exit ?_; simp)
        | (refine AWP_ret ?_; simp)
        | refine AWP_block ?_
        | refine AWP_seq ?_)
      rw [hnum, numB_long c r _ h15]
      exact ⟨rfl, rfl⟩
    have h15' : ¬ (15 : Int) < (r.length : Int) + 1 := by omega
    rw [numB_short c r _ h15] at hnum
    repeat (first
      | (refine AWP_seq (AWP_regS tOk rfl ?_); simp [h15', htwo, hln, hone])
      | (refine AWP_regS tOk rfl ?_; simp [h15', htwo, hln, hone])
      | (refine AWP_skip ?_; simp [h15', htwo, hln, hone])
      | (refine AWP_exit ?_; simp [h15', htwo, hln, hone])
      | (refine AWP_ret ?_; simp [h15', htwo, hln, hone])
      | refine AWP_block ?_
      | refine AWP_seq ?_)
    refine AWP_cond2 rfl (fun h => ?_) (fun h => ?_)
    · repeat (first
        | (refine AWP_seq (AWP_regS tOk rfl ?_); simp)
        | (refine AWP_regS tOk rfl ?_; simp)
        | (refine AWP_skip ?_; simp)
        | (refine AWP_exit ?_; simp)
        | (refine AWP_ret ?_; simp)
        | refine AWP_block ?_
        | refine AWP_seq ?_)
      have hz : ((((c.toNat : Int) == 48) && !((45 :: c :: r) == [48]))) = true := by simpa using h
      rw [hnum, hz]
      simp
    · have hz : ((((c.toNat : Int) == 48) && !((45 :: c :: r) == [48]))) = false := by simpa using h
      rw [hz, Bool.not_false, Bool.and_true] at hnum
      have hl : (c :: r).length ≤ 15 := by simp; omega
      obtain ⟨t, htt⟩ : ∃ t, c :: r = t := ⟨_, rfl⟩
      rw [htt] at hl hnum hs ⊢
      have hneg : decide (t.length < (45 :: t).length) = true := by simp
      repeat (first
        | (refine AWP_seq (AWP_regS tOk rfl ?_); simp)
        | (refine AWP_regS tOk rfl ?_; simp)
        | (refine AWP_skip ?_; simp)
        | (refine AWP_exit ?_; simp)
        | (refine AWP_ret ?_; simp)
        | refine AWP_block ?_
        | refine AWP_seq ?_)
      refine AWP_countI t.length (fun j => (t.take j).all isD = true) (fun j => [(0, .str (45 :: t)), (4, .str t), (5, .i (dval (t.take j))), (6, .i j)]) (fun _ => []) rfl (by simp [dval_nil]) (by simp [dval_nil]) (by simp [dval_nil]) (by simp [dval_nil]) (by simp [dval_nil]) ?_
      intro j hj hI ih
      have hbd := dval_pre t j hI hl hj
      repeat (first
        | (refine AWP_seq (AWP_regS tOk rfl ?_); simp)
        | (refine AWP_regS tOk rfl ?_; simp)
        | (refine AWP_skip ?_; simp)
        | (refine AWP_exit ?_; simp)
        | (refine AWP_ret ?_; simp)
        | refine AWP_block ?_
        | refine AWP_seq ?_)
      refine AWP_cond2 rfl (fun hlt => ?_) (fun hge => ?_)
      · have hlt' : j < t.length := by simpa using hlt
        have hw : IntKind.i64.wrap ((j : Int) + 1) = j + 1 := wrap_i64 _ (by omega) (by omega)
        cases hd : isD t[j] with
        | false =>
          have hcc : t[j].toNat < 48 ∨ 57 < t[j].toNat := by
            rcases Nat.lt_or_ge t[j].toNat 48 with h | h
            · exact .inl h
            · rcases Nat.lt_or_ge 57 t[j].toNat with h2 | h2
              · exact .inr h2
              · rw [(isD_iff _).2 ⟨h, h2⟩] at hd; cases hd
          rw [hnum, all_no t j hlt' hd]
          rcases hcc with h | h
          · repeat (first
              | (refine AWP_seq (AWP_regS tOk rfl ?_); simp [hlt'])
              | (refine AWP_regS tOk rfl ?_; simp [hlt'])
              | (refine AWP_skip ?_; simp [hlt'])
              | (refine AWP_exit ?_; simp [hlt'])
              | (refine AWP_ret ?_; simp [hlt'])
              | refine AWP_block ?_
              | refine AWP_seq ?_)
            refine AWP_cond2 rfl (fun _ => ?_) (fun h' => by simp at h'; omega)
            repeat (first
              | (refine AWP_seq (AWP_regS tOk rfl ?_); simp)
              | (refine AWP_regS tOk rfl ?_; simp)
              | (refine AWP_skip ?_; simp)
              | (refine AWP_exit ?_; simp)
              | (refine AWP_ret ?_; simp)
              | refine AWP_block ?_
              | refine AWP_seq ?_)
          · have h48 : ¬ t[j].toNat < 48 := by omega
            repeat (first
              | (refine AWP_seq (AWP_regS tOk rfl ?_); simp [hlt'])
              | (refine AWP_regS tOk rfl ?_; simp [hlt'])
              | (refine AWP_skip ?_; simp [hlt'])
              | (refine AWP_exit ?_; simp [hlt'])
              | (refine AWP_ret ?_; simp [hlt'])
              | refine AWP_block ?_
              | refine AWP_seq ?_)
            refine AWP_cond2 rfl (fun _ => ?_) (fun h' => by simp at h'; omega)
            repeat (first
              | (refine AWP_seq (AWP_regS tOk rfl ?_); simp)
              | (refine AWP_regS tOk rfl ?_; simp)
              | (refine AWP_skip ?_; simp)
              | (refine AWP_exit ?_; simp)
              | (refine AWP_ret ?_; simp)
              | refine AWP_block ?_
              | refine AWP_seq ?_)
        | true =>
          have hc := (isD_iff t[j]).1 hd
          have h1 : ¬ t[j].toNat < 48 := by omega
          have h2 : ¬ 57 < t[j].toNat := by omega
          have hu : IntKind.u8.wrap ((t[j].toNat : Int) - 48) = (t[j].toNat : Int) - 48 := by rw [IntKind.wrap_u8]; omega
          have e1 : IntKind.i64.wrap (10 * dval (t.take j)) = 10 * dval (t.take j) := wrap_i64 _ (by omega) (by omega)
          have e2 : IntKind.i64.wrap ((t[j].toNat : Int) - 48) = (t[j].toNat : Int) - 48 := wrap_i64 _ (by omega) (by omega)
          have e3 : IntKind.i64.wrap (10 * dval (t.take j) + ((t[j].toNat : Int) - 48)) = 10 * dval (t.take j) + ((t[j].toNat : Int) - 48) := wrap_i64 _ (by omega) (by omega)
          have hf : dval (t.take (j + 1)) = dval (t.take j) * 10 + ((t[j].toNat : Int) - 48) := by rw [List.take_succ_eq_append_getElem hlt', dval_snoc, dstep]
          repeat (first
            | (refine AWP_seq (AWP_regS tOk rfl ?_); simp [hlt'])
            | (refine AWP_regS tOk rfl ?_; simp [hlt'])
            | (refine AWP_skip ?_; simp [hlt'])
            | (refine AWP_exit ?_; simp [hlt'])
            | (refine AWP_ret ?_; simp [hlt'])
            | refine AWP_block ?_
            | refine AWP_seq ?_)
          refine AWP_cond2 rfl (fun h' => by simp at h'; omega) (fun _ => ?_)
          repeat (first
            | (refine AWP_seq (AWP_regS tOk rfl ?_); simp [hlt', hu, e1, e2, e3, hw])
            | (refine AWP_regS tOk rfl ?_; simp [hlt', hu, e1, e2, e3, hw])
            | (refine AWP_skip ?_; simp [hlt', hu, e1, e2, e3, hw])
            | (refine AWP_exit ?_; simp [hlt', hu, e1, e2, e3, hw])
            | (refine AWP_ret ?_; simp [hlt', hu, e1, e2, e3, hw])
            | refine AWP_block ?_
            | refine AWP_seq ?_)
          refine ALoop_end [] (ih hlt' (by rw [all_succ t j hlt', hI, hd]; rfl)) rfl (by simp) ?_ (by simp) (by simp)
          rw [hf]
          simp
          omega
      · have hge' : j = t.length := by simp at hge; omega
        subst hge'
        rw [List.take_length] at hI hbd ⊢
        rw [hnum, if_pos hI]
        have hn2 : IntKind.i64.wrap (0 - dval t) = -dval t := by rw [wrap_i64 _ (by omega) (by omega)]; omega
        have hn3 : IntKind.i64.wrap (-dval t) = -dval t := wrap_i64 _ (by omega) (by omega)
        repeat (first
          | (refine AWP_seq (AWP_regS tOk rfl ?_); simp)
          | (refine AWP_regS tOk rfl ?_; simp)
          | (refine AWP_skip ?_; simp)
          | (refine AWP_exit ?_; simp)
          | (refine AWP_ret ?_; simp)
          | refine AWP_block ?_
          | refine AWP_seq ?_)
        refine AWP_cond rfl ?_
        try rw [if_pos (decide_eq_true (show (t.length : Int) < t.length + 1 by omega))]
        repeat (first
          | (refine AWP_seq (AWP_regS tOk rfl ?_); simp [hn2, hn3])
          | (refine AWP_regS tOk rfl ?_; simp [hn2, hn3])
          | (refine AWP_skip ?_; simp [hn2, hn3])
          | (refine AWP_exit ?_; simp [hn2, hn3])
          | (refine AWP_ret ?_; simp [hn2, hn3])
          | refine AWP_block ?_
          | refine AWP_seq ?_)
end Go.Abs
set_option maxRecDepth 100000
namespace Go.Abs
open Go Go.Proofs
set_option linter.unusedSimpArgs false
attribute [local irreducible] numR Lib.index
set_option maxHeartbeats 1000000 in
theorem pc_rSpan (s : List UInt8) (hs : s.length ≤ 1000000) : PC Tryz.prog 61 [.str s] (fun r => r = .tup [encIv (spanR s).1, .bool (spanR s).2]) := by
  refine PC_body tOk Tryz.func61 rfl Tryz.results61 rfl (by simp [Tryz.ntmps61]) ?_
  rw [Tryz.ntmps61]
  simp only [argSlots]
  repeat (first
    | (refine AWP_seq (AWP_regS tOk rfl ?_); simp)
    | (refine AWP_regS tOk rfl ?_; simp)
    | (refine AWP_skip ?_; simp)
    | (refine AWP_exit ?_; simp)
    | (refine AWP_ret ?_; simp)
    | refine AWP_block ?_
    | refine AWP_seq ?_)
  refine AStep_PC rfl rfl (by simp) (pc_Index s [46, 46] hs) rfl ?_
  rintro _ rfl
  simp
  rcases idx_cases s [46, 46] (by simp) with h | ⟨k, h, hk⟩
  · have hsp : spanR s = (⟨(numR s).1, (numR s).1⟩, (numR s).2) := by rw [spanR, if_pos (by omega)]
    rw [hsp, h]
    repeat (first
      | (refine AWP_seq (AWP_regS tOk rfl ?_); simp)
      | (refine AWP_regS tOk rfl ?_; simp)
      | (refine AWP_skip ?_; simp)
      | (refine AWP_exit ?_; simp)
      | (refine AWP_ret ?_; simp)
      | refine AWP_block ?_
      | refine AWP_seq ?_)
    refine AWP_cond rfl ?_
    repeat (first
      | (refine AWP_seq (AWP_regS tOk rfl ?_); simp)
      | (refine AWP_regS tOk rfl ?_; simp)
      | (refine AWP_skip ?_; simp)
      | (refine AWP_exit ?_; simp)
      | (refine AWP_ret ?_; simp)
      | refine AWP_block ?_
      | refine AWP_seq ?_)
    refine AStep_PC rfl rfl (by simp) (pc_rNumber s hs) rfl ?_
    rintro _ rfl
    simp
    repeat (first
      | (refine AWP_seq (AWP_regS tOk rfl ?_); simp)
      | (refine AWP_regS tOk rfl ?_; simp)
      | (refine AWP_skip ?_; simp)
      | (refine AWP_exit ?_; simp)
      | (refine AWP_ret ?_; simp)
      | refine AWP_block ?_
      | refine AWP_seq ?_)
  · have hkn : (Lib.index s [46, 46]).toNat = k := by omega
    have hsp : spanR s = (⟨(numR (s.take k)).1, (numR (s.drop (k + 2))).1⟩, (numR (s.take k)).2 && (numR (s.drop (k + 2))).2 && ((numR (s.take k)).1 != (numR (s.drop (k + 2))).1)) := by rw [spanR, if_neg (by omega), hkn]
    have hk2 : (k : Int) ≤ s.length := by simp at hk; omega
    have hk3 : (k : Int) + 2 ≤ s.length := by simp at hk; omega
    have hk4 : ¬ (k : Int) < 0 := by omega
    have hw : IntKind.i64.wrap ((k : Int) + 2) = k + 2 := wrap_i64 _ (by omega) (by omega)
    have hk5 : (0 : Int) ≤ (k : Int) + 2 := by omega
    have hk6 : ((k : Int) + 2).toNat = k + 2 := by omega
    rw [hsp, h]
    repeat (first
      | (refine AWP_seq (AWP_regS tOk rfl ?_); simp [hk4])
      | (refine AWP_regS tOk rfl ?_; simp [hk4])
      | (refine AWP_skip ?_; simp [hk4])
      | (refine AWP_exit ?_; simp [hk4])
      | (refine AWP_ret ?_; simp [hk4])
      | refine AWP_block ?_
      | refine AWP_seq ?_)
    refine AWP_cond rfl ?_
    have hkN : k ≤ s.length := by omega
    have hkN2 : k + 2 ≤ s.length := by omega
    repeat (first
      | (refine AWP_seq (AWP_regS tOk rfl ?_); simp [hk2, hkN])
      | (refine AWP_regS tOk rfl ?_; simp [hk2, hkN])
      | (refine AWP_skip ?_; simp [hk2, hkN])
      | (refine AWP_exit ?_; simp [hk2, hkN])
      | (refine AWP_ret ?_; simp [hk2, hkN])
      | refine AWP_block ?_
      | refine AWP_seq ?_)
    refine AStep_PC rfl rfl (by simp) (pc_rNumber (s.take k) (by simp; omega)) rfl ?_
    rintro _ rfl
    simp
    repeat (first
      | (refine AWP_seq (AWP_regS tOk rfl ?_); simp [hw, hk3, hk5, hk6, hkN2])
      | (refine AWP_regS tOk rfl ?_; simp [hw, hk3, hk5, hk6, hkN2])
      | (refine AWP_skip ?_; simp [hw, hk3, hk5, hk6, hkN2])
      | (refine AWP_exit ?_; simp [hw, hk3, hk5, hk6, hkN2])
      | (refine AWP_ret ?_; simp [hw, hk3, hk5, hk6, hkN2])
      | refine AWP_block ?_
      | refine AWP_seq ?_)
    refine AStep_PC rfl rfl (by simp) (pc_rNumber (s.drop (k + 2)) (by simp; omega)) rfl ?_
    rintro _ rfl
    simp
    repeat (first
      | (refine AWP_seq (AWP_regS tOk rfl ?_); simp)
      | (refine AWP_regS tOk rfl ?_; simp)
      | (refine AWP_skip ?_; simp)
      | (refine AWP_exit ?_; simp)
      | (refine AWP_ret ?_; simp)
      | refine AWP_block ?_
      | refine AWP_seq ?_)
def spansR : List (List UInt8) → Option (List Iv)
  | [] => some []
  | w :: r => if (spanR w).2 = true then (spansR r).map ((spanR w).1 :: ·) else none
def noneT : List UInt8 := [110, 111, 110, 101]
def parseL (s : List UInt8) : List Iv × Int := match spansR (wordsR s) with
  | none => ([], 4)
  | some l => if ckR l = 0 then (l, 0) else ([], ckR l)
def ivParseR (s : List UInt8) : List Iv × Int := if 65536 < s.length then ([], 13) else if s = noneT then ([], 0) else parseL s
attribute [local irreducible] spanR wordsR ckR
set_option maxHeartbeats 2000000 in
theorem pc_rParse (s : List UInt8) (hs : s.length ≤ 100000) : PC Tryz.prog 33 [.str s] (fun r => r = .tup [LIv (ivParseR s).1, .i (ivParseR s).2]) := by
  refine PC_body tOk Tryz.func33 rfl Tryz.results33 rfl (by simp [Tryz.ntmps33]) ?_
  rw [Tryz.ntmps33]
  simp only [argSlots]
  by_cases h1 : 65536 < s.length
  · have h1' : (65536 : Int) < s.length := by omega
    repeat (first
      | (refine AWP_seq (AWP_regS tOk rfl ?_); simp [h1'])
      | (refine AWP_regS tOk rfl ?_; simp [h1'])
      | (refine AWP_skip ?_; simp [h1'])
      | (refine AWP_exit ?_; simp [h1'])
      | (refine AWP_ret ?_; simp [h1'])
      | refine AWP_block ?_
      | refine AWP_seq ?_)
    refine AWP_cond rfl ?_
    repeat (first
      | (refine AWP_seq (AWP_regS tOk rfl ?_); simp)
      | (refine AWP_regS tOk rfl ?_; simp)
      | (refine AWP_skip ?_; simp)
      | (refine AWP_exit ?_; simp)
      | (refine AWP_ret ?_; simp)
      | refine AWP_block ?_
      | refine AWP_seq ?_)
    rw [ivParseR, if_pos h1]
    exact ⟨rfl, rfl⟩
  rw [ivParseR, if_neg h1]
  have h1' : ¬ (65536 : Int) < s.length := by omega
  repeat (first
    | (refine AWP_seq (AWP_regS tOk rfl ?_); simp [h1'])
    | (refine AWP_regS tOk rfl ?_; simp [h1'])
    | (refine AWP_skip ?_; simp [h1'])
    | (refine AWP_exit ?_; simp [h1'])
    | (refine AWP_ret ?_; simp [h1'])
    | refine AWP_block ?_
    | refine AWP_seq ?_)
  refine AWP_cond rfl ?_
  repeat (first
    | (refine AWP_seq (AWP_regS tOk rfl ?_); simp)
    | (refine AWP_regS tOk rfl ?_; simp)
    | (refine AWP_skip ?_; simp)
    | (refine AWP_exit ?_; simp)
    | (refine AWP_ret ?_; simp)
    | refine AWP_block ?_
    | refine AWP_seq ?_)
  refine AWP_cond2 rfl (fun h => ?_) (fun h => ?_)
  · repeat (first
      | (refine AWP_seq (AWP_regS tOk rfl ?_); simp)
      | (refine AWP_regS tOk rfl ?_; simp)
      | (refine AWP_skip ?_; simp)
      | (refine AWP_exit ?_; simp)
      | (refine AWP_ret ?_; simp)
      | refine AWP_block ?_
      | refine AWP_seq ?_)
    rw [if_pos (by simpa [noneT] using h)]
    exact ⟨rfl, rfl⟩
  rw [if_neg (by simpa [noneT] using h)]
  have hwl := words_len s.length s (Nat.le_refl _)
  repeat (first
    | (refine AWP_seq (AWP_regS tOk rfl ?_); simp)
    | (refine AWP_regS tOk rfl ?_; simp)
    | (refine AWP_skip ?_; simp)
    | (refine AWP_exit ?_; simp)
    | (refine AWP_ret ?_; simp)
    | refine AWP_block ?_
    | refine AWP_seq ?_)
  refine AStep_PC rfl rfl (by simp) (pc_Split s (by omega)) rfl ?_
  rintro _ rfl
  simp
  obtain ⟨P, hP⟩ : ∃ P, parseL s = P := ⟨_, rfl⟩
  rw [hP]
  unfold parseL at hP
  generalize wordsR s = ws at *
  obtain ⟨S, hS⟩ : ∃ S, spansR ws = S := ⟨_, rfl⟩
  rw [hS] at hP
  repeat (first
    | (refine AWP_seq (AWP_regS tOk rfl ?_); simp)
    | (refine AWP_regS tOk rfl ?_; simp)
    | (refine AWP_skip ?_; simp)
    | (refine AWP_exit ?_; simp)
    | (refine AWP_ret ?_; simp)
    | refine AWP_block ?_
    | refine AWP_seq ?_)
  refine AWP_nilSlot 4 59 2 rfl ?_
  simp
  repeat (first
    | (refine AWP_seq (AWP_regS tOk rfl ?_); simp)
    | (refine AWP_regS tOk rfl ?_; simp)
    | (refine AWP_skip ?_; simp)
    | (refine AWP_exit ?_; simp)
    | (refine AWP_ret ?_; simp)
    | refine AWP_block ?_
    | refine AWP_seq ?_)
  refine AWP_loop (ALoop_keep (sl' := [(4, .sl 0 2 0 0), (5, .list (ws.map AV.str)), (6, .i 0)]) ?_ (by simp))
  refine ALoop_wf (F := fun (u : Nat × Nat × List Iv × List AObj) => ⟨[(4, .sl u.2.1 2 0 u.2.2.1.length), (5, .list (ws.map AV.str)), (6, .i u.1)], u.2.2.2⟩)
    (fun u => u.1 ≤ ws.length ∧ u.2.2.1.length = u.1 ∧ u.2.2.2[u.2.1]? = some (.arr 59 2 (u.2.2.1.map encIv)) ∧ (spansR (ws.drop u.1)).map (u.2.2.1 ++ ·) = S) (fun u => ws.length - u.1) ?_ (0, 0, [], [.arr 59 2 []]) ⟨by simp, rfl, rfl, by simp [hS]⟩
  rintro ⟨j, q, acc, H2⟩ ⟨hj, hal, g1, g2⟩ ih
  simp only at hj hal g1 g2 ih ⊢
  repeat (first
    | (refine AWP_seq (AWP_regS tOk rfl ?_); simp)
    | (refine AWP_regS tOk rfl ?_; simp)
    | (refine AWP_skip ?_; simp)
    | (refine AWP_exit ?_; simp)
    | (refine AWP_ret ?_; simp)
    | refine AWP_block ?_
    | refine AWP_seq ?_)
  refine AWP_cond2 rfl (fun hlt => ?_) (fun hge => ?_)
  · have hlt' : j < ws.length := by simpa using hlt
    have hw : IntKind.i64.wrap ((j : Int) + 1) = j + 1 := wrap_i64 _ (by omega) (by omega)
    have hwj := hwl.2 _ (List.getElem_mem hlt')
    rw [drop_get hlt', spansR] at g2
    repeat (first
      | (refine AWP_seq (AWP_regS tOk rfl ?_); simp [hlt'])
      | (refine AWP_regS tOk rfl ?_; simp [hlt'])
      | (refine AWP_skip ?_; simp [hlt'])
      | (refine AWP_exit ?_; simp [hlt'])
      | (refine AWP_ret ?_; simp [hlt'])
      | refine AWP_block ?_
      | refine AWP_seq ?_)
    refine AStep_PC rfl rfl (by simp) (pc_rSpan ws[j] (by omega)) rfl ?_
    rintro _ rfl
    simp
    cases ho : (spanR ws[j]).2 with
    | false =>
      rw [ho, if_neg (by simp)] at g2
      subst g2
      repeat (first
        | (refine AWP_seq (AWP_regS tOk rfl ?_); simp [ho])
        | (refine AWP_regS tOk rfl ?_; simp [ho])
        | (refine AWP_skip ?_; simp [ho])
        | (refine AWP_exit ?_; simp [ho])
        | (refine AWP_ret ?_; simp [ho])
        | refine AWP_block ?_
        | refine AWP_seq ?_)
      refine AWP_cond rfl ?_
      repeat (first
        | (refine AWP_seq (AWP_regS tOk rfl ?_); simp)
        | (refine AWP_regS tOk rfl ?_; simp)
        | (refine AWP_skip ?_; simp)
        | (refine AWP_exit ?_; simp)
        | (refine AWP_ret ?_; simp)
        | refine AWP_block ?_
        | refine AWP_seq ?_)
      rw [← hP]
      exact ⟨rfl, rfl⟩
    | true =>
      rw [ho, if_pos rfl] at g2
      repeat (first
        | (refine AWP_seq (AWP_regS tOk rfl ?_); simp [ho])
        | (refine AWP_regS tOk rfl ?_; simp [ho])
        | (refine AWP_skip ?_; simp [ho])
        | (refine AWP_exit ?_; simp [ho])
        | (refine AWP_ret ?_; simp [ho])
        | refine AWP_block ?_
        | refine AWP_seq ?_)
      refine AWP_cond rfl ?_
      generalize (spanR ws[j]).1 = x at *
      repeat (first
        | (refine AWP_seq (AWP_regS tOk rfl ?_); simp)
        | (refine AWP_regS tOk rfl ?_; simp)
        | (refine AWP_skip ?_; simp)
        | (refine AWP_exit ?_; simp)
        | (refine AWP_ret ?_; simp)
        | refine AWP_block ?_
        | refine AWP_seq ?_)
      refine AStep_appendS tOk rfl rfl T22 rfl T59 rfl (by decide) (by decide) rfl rfl rfl ?_
      simp [get_app g1, set_app g1]
      refine ⟨by simp [appOk, get_app g1, set_app g1] <;> omega, ?_⟩
      repeat (first
        | (refine AWP_seq (AWP_regS tOk rfl ?_); simp [hw])
        | (refine AWP_regS tOk rfl ?_; simp [hw])
        | (refine AWP_skip ?_; simp [hw])
        | (refine AWP_exit ?_; simp [hw])
        | (refine AWP_ret ?_; simp [hw])
        | refine AWP_block ?_
        | refine AWP_seq ?_)
      exact ALoop_keep (sl' := [(4, .sl (H2.length + 2) 2 0 (acc.length + 1)), (5, .list (ws.map AV.str)), (6, .i (j + 1 : Nat))]) (by
        have := ih (j + 1, H2.length + 2, acc ++ [x], H2.set q .dead ++ [.vars [.int .i64 x.lo, .int .i64 x.hi], .arr 59 2 [encIv x], .arr 59 2 ((acc ++ [x]).map encIv)]) ⟨by simp; omega, by simp [hal], by simp only; rw [List.getElem?_append_right (by simp)]; simp, by rw [← g2]; simp [Function.comp_def]⟩ (by simp; omega)
        simpa using this) (by simp)
  · have hge' : j = ws.length := by simp at hge; omega
    subst hge'
    rw [List.drop_length, spansR] at g2
    subst g2
    simp only [Option.map_some, List.append_nil] at hP
    repeat (first
      | (refine AWP_seq (AWP_regS tOk rfl ?_); simp)
      | (refine AWP_regS tOk rfl ?_; simp)
      | (refine AWP_skip ?_; simp)
      | (refine AWP_exit ?_; simp)
      | (refine AWP_ret ?_; simp)
      | refine AWP_block ?_
      | refine AWP_seq ?_)
    refine AStep_freeze q g1 ?_
    simp
    rw [List.take_of_length_le (by simp)]
    refine AStep_PC rfl rfl (by simp) (pc_rCheck acc) rfl ?_
    rintro _ rfl
    simp
    repeat (first
      | (refine AWP_seq (AWP_regS tOk rfl ?_); simp)
      | (refine AWP_regS tOk rfl ?_; simp)
      | (refine AWP_skip ?_; simp)
      | (refine AWP_exit ?_; simp)
      | (refine AWP_ret ?_; simp)
      | refine AWP_block ?_
      | refine AWP_seq ?_)
    refine AWP_cond2 rfl (fun h3 => ?_) (fun h3 => ?_)
    · repeat (first
        | (refine AWP_seq (AWP_regS tOk rfl ?_); simp)
        | (refine AWP_regS tOk rfl ?_; simp)
        | (refine AWP_skip ?_; simp)
        | (refine AWP_exit ?_; simp)
        | (refine AWP_ret ?_; simp)
        | refine AWP_block ?_
        | refine AWP_seq ?_)
      rw [← hP, if_neg (by simpa using h3)]
      exact ⟨rfl, rfl⟩
    · repeat (first
        | (refine AWP_seq (AWP_regS tOk rfl ?_); simp)
        | (refine AWP_regS tOk rfl ?_; simp)
        | (refine AWP_skip ?_; simp)
        | (refine AWP_exit ?_; simp)
        | (refine AWP_ret ?_; simp)
        | refine AWP_block ?_
        | refine AWP_seq ?_)
      rw [← hP, if_pos (by simpa using h3)]
      exact ⟨rfl, rfl⟩
end Go.Abs
set_option maxRecDepth 100000
namespace Go.Abs
open Go Go.Proofs
set_option linter.unusedSimpArgs false
theorem fc_splitSeq (H : List AObj) (s : List UInt8) : FC Tryz.prog 76 [.str s, .str [32], .i 0] H (fun r H' => r = .fn (.func 93) [] [.vptr (H.length + 1) 0, .vptr H.length 0, .vptr (H.length + 2) 0] ∧ H' = H ++ [.vars [.str s], .vars [.str [32]], .vars [.i 0]]) := by
  refine FC_body tOk Tryz.func76 rfl Tryz.results76 rfl (by simp [Tryz.ntmps76]) ?_
  rw [Tryz.ntmps76]
  simp only [argSlots]
  repeat (first
    | (refine AWP_seq (AWP_regS tOk rfl ?_); simp)
    | (refine AWP_regS tOk rfl ?_; simp)
    | (refine AWP_skip ?_; simp)
    | (refine AWP_exit ?_; simp)
    | (refine AWP_ret ?_; simp)
    | refine AWP_block ?_
    | refine AWP_seq ?_)
theorem fc_SplitSeq (H : List AObj) (s : List UInt8) : FC Tryz.prog 54 [.str s, .str [32]] H (fun r H' => r = .fn (.func 93) [] [.vptr (H.length + 1) 0, .vptr H.length 0, .vptr (H.length + 2) 0] ∧ H' = H ++ [.vars [.str s], .vars [.str [32]], .vars [.i 0]]) := by
  refine FC_body tOk Tryz.func54 rfl Tryz.results54 rfl (by simp [Tryz.ntmps54]) ?_
  rw [Tryz.ntmps54]
  simp only [argSlots]
  repeat (first
    | (refine AWP_seq (AWP_regS tOk rfl ?_); simp)
    | (refine AWP_regS tOk rfl ?_; simp)
    | (refine AWP_skip ?_; simp)
    | (refine AWP_exit ?_; simp)
    | (refine AWP_ret ?_; simp)
    | refine AWP_block ?_
    | refine AWP_seq ?_)
  refine AStep_FC rfl rfl (fc_splitSeq H s) rfl ?_
  rintro _ _ ⟨rfl, rfl⟩
  simp
  repeat (first
    | (refine AWP_seq (AWP_regS tOk rfl ?_); simp)
    | (refine AWP_regS tOk rfl ?_; simp)
    | (refine AWP_skip ?_; simp)
    | (refine AWP_exit ?_; simp)
    | (refine AWP_ret ?_; simp)
    | refine AWP_block ?_
    | refine AWP_seq ?_)
theorem spans_hit (w : List UInt8) (r : List (List UInt8)) : spansR (w :: r) = if (spanR w).2 = true then (spansR r).map ((spanR w).1 :: ·) else none := rfl
theorem spans_nil : spansR [] = some [] := rfl
attribute [local irreducible] spanR wordsR ckR spansR Lib.index
theorem get_map {H : List AObj} {i : Nat} {x : AObj} (h : H[i]? = some x) (f : AObj → AObj) : (H.map f)[i]? = some (f x) := by rw [List.getElem?_map, h]; rfl
set_option maxHeartbeats 4000000 in
theorem pc_Parse (s : List UInt8) (hs : s.length ≤ 100000) : PC Tryz.prog 29 [.str s] (fun r => r = .tup [LIv (ivParseR s).1, .i (ivParseR s).2]) := by
  refine PC_body tOk Tryz.func29 rfl Tryz.results29 rfl (by simp [Tryz.ntmps29]) ?_
  rw [Tryz.ntmps29]
  simp only [argSlots]
  by_cases h1 : 65536 < s.length
  · have h1' : (65536 : Int) < s.length := by omega
    repeat (first
      | (refine AWP_seq (AWP_regS tOk rfl ?_); simp [h1'])
      | (refine AWP_regS tOk rfl ?_; simp [h1'])
      | (refine AWP_skip ?_; simp [h1'])
      | (refine AWP_exit ?_; simp [h1'])
      | (refine AWP_ret ?_; simp [h1'])
      | refine AWP_block ?_
      | refine AWP_seq ?_)
    refine AWP_cond rfl ?_
    repeat (first
      | (refine AWP_seq (AWP_regS tOk rfl ?_); simp)
      | (refine AWP_regS tOk rfl ?_; simp)
      | (refine AWP_skip ?_; simp)
      | (refine AWP_exit ?_; simp)
      | (refine AWP_ret ?_; simp)
      | refine AWP_block ?_
      | refine AWP_seq ?_)
    rw [ivParseR, if_pos h1]
    exact ⟨rfl, rfl⟩
  rw [ivParseR, if_neg h1]
  have h1' : ¬ (65536 : Int) < s.length := by omega
  repeat (first
    | (refine AWP_seq (AWP_regS tOk rfl ?_); simp [h1'])
    | (refine AWP_regS tOk rfl ?_; simp [h1'])
    | (refine AWP_skip ?_; simp [h1'])
    | (refine AWP_exit ?_; simp [h1'])
    | (refine AWP_ret ?_; simp [h1'])
    | refine AWP_block ?_
    | refine AWP_seq ?_)
  refine AWP_cond rfl ?_
  repeat (first
    | (refine AWP_seq (AWP_regS tOk rfl ?_); simp)
    | (refine AWP_regS tOk rfl ?_; simp)
    | (refine AWP_skip ?_; simp)
    | (refine AWP_exit ?_; simp)
    | (refine AWP_ret ?_; simp)
    | refine AWP_block ?_
    | refine AWP_seq ?_)
  refine AWP_cond2 rfl (fun h => ?_) (fun h => ?_)
  · repeat (first
      | (refine AWP_seq (AWP_regS tOk rfl ?_); simp)
      | (refine AWP_regS tOk rfl ?_; simp)
      | (refine AWP_skip ?_; simp)
      | (refine AWP_exit ?_; simp)
      | (refine AWP_ret ?_; simp)
      | refine AWP_block ?_
      | refine AWP_seq ?_)
    rw [if_pos (by simpa [noneT] using h)]
    exact ⟨rfl, rfl⟩
  rw [if_neg (by simpa [noneT] using h)]
  obtain ⟨P, hP⟩ : ∃ P, parseL s = P := ⟨_, rfl⟩
  rw [hP]
  unfold parseL at hP
  obtain ⟨S, hS⟩ : ∃ S, spansR (wordsR s) = S := ⟨_, rfl⟩
  rw [hS] at hP
  repeat (first
    | (refine AWP_seq (AWP_regS tOk rfl ?_); simp)
    | (refine AWP_regS tOk rfl ?_; simp)
    | (refine AWP_skip ?_; simp)
    | (refine AWP_exit ?_; simp)
    | (refine AWP_ret ?_; simp)
    | refine AWP_block ?_
    | refine AWP_seq ?_)
  refine AStep_FC rfl rfl (fc_SplitSeq _ s) rfl ?_
  rintro _ _ ⟨rfl, rfl⟩
  simp
  refine AWP_nilOwn (cs := [.nils]) 2 0 59 2 (by simp) rfl ?_
  simp
  repeat (first
    | (refine AWP_seq (AWP_regS tOk rfl ?_); simp)
    | (refine AWP_regS tOk rfl ?_; simp)
    | (refine AWP_skip ?_; simp)
    | (refine AWP_exit ?_; simp)
    | (refine AWP_ret ?_; simp)
    | refine AWP_block ?_
    | refine AWP_seq ?_)
  refine AWP_rangeFunc rfl (Rf := fun _ H' => (∃ pend sl' ps' a' b', H'[7]? = some (.lp (Option.isNone pend) pend 34 sl' ps' a' b') ∧
    (match S with
     | none => pend = some Code.ret ∧ H'[0]? = some (.vars [.nils]) ∧ H'[1]? = some (.vars [.i 4])
     | some l => pend = none ∧ (∃ p, H'[2]? = some (.vars [.sl p 2 0 l.length]) ∧ H'[p]? = some (.arr 59 2 (l.map encIv)) ∧ 5 < p ∧ p ≠ 7) ∧ H'[0]? = some (.vars [.nils]) ∧ H'[1]? = some (.vars [.i 0])))) ?_ ?_
  · simp
    refine gen_FC fun H1 hH1 => ?_
    have f0 : H1[0]? = some (.vars [.nils]) := by rw [hH1]; simp
    have f1 : H1[1]? = some (.vars [.i 0]) := by rw [hH1]; simp
    have f2 : H1[2]? = some (.vars [.sl 6 2 0 0]) := by rw [hH1]; simp
    have f3 : H1[3]? = some (.vars [.str s]) := by rw [hH1]; simp
    have f4 : H1[4]? = some (.vars [.str [32]]) := by rw [hH1]; simp
    have f5 : H1[5]? = some (.vars [.i 0]) := by rw [hH1]; simp
    have f6 : H1[6]? = some (.arr 59 2 []) := by rw [hH1]; simp
    have f7 := congrArg (fun h : List AObj => h[7]?) hH1
    simp at f7
    have hlen1 : H1.length = 8 := by rw [hH1]; simp
    clear hH1
    refine FC_body tOk Tryz.func93 rfl Tryz.results93 rfl (by simp [Tryz.ntmps93]) ?_
    rw [Tryz.ntmps93]
    simp only [argSlots]
    repeat (first
      | (refine AWP_seq (AWP_regS tOk rfl ?_); simp [f4])
      | (refine AWP_regS tOk rfl ?_; simp [f4])
      | (refine AWP_skip ?_; simp [f4])
      | (refine AWP_exit ?_; simp [f4])
      | (refine AWP_ret ?_; simp [f4])
      | refine AWP_block ?_
      | refine AWP_seq ?_)
    refine AWP_cond rfl ?_
    repeat (first
      | (refine AWP_seq (AWP_regS tOk rfl ?_); simp)
      | (refine AWP_regS tOk rfl ?_; simp)
      | (refine AWP_skip ?_; simp)
      | (refine AWP_exit ?_; simp)
      | (refine AWP_ret ?_; simp)
      | refine AWP_block ?_
      | refine AWP_seq ?_)
    refine AWP_loop (ALoop_keep (sl' := [(0, .yld 7), (1, .vptr 4 0), (2, .vptr 3 0), (3, .vptr 5 0)]) ?_ (by simp))
    refine ALoop_wf (F := fun (u : List UInt8 × Nat × List Iv × List AObj) => ⟨[(0, .yld 7), (1, .vptr 4 0), (2, .vptr 3 0), (3, .vptr 5 0)], u.2.2.2⟩)
      (fun u => u.1.length + u.2.2.1.length ≤ s.length ∧ H1.length ≤ u.2.2.2.length ∧ u.2.2.2[0]? = some (.vars [.nils]) ∧ u.2.2.2[1]? = some (.vars [.i 0]) ∧ u.2.2.2[2]? = some (.vars [.sl u.2.1 2 0 u.2.2.1.length]) ∧ u.2.2.2[3]? = some (.vars [.str u.1]) ∧ u.2.2.2[4]? = some (.vars [.str [32]]) ∧ u.2.2.2[5]? = some (.vars [.i 0]) ∧
        u.2.2.2[u.2.1]? = some (.arr 59 2 (u.2.2.1.map encIv)) ∧ u.2.2.2[7]? = H1[7]? ∧ 5 < u.2.1 ∧ u.2.1 ≠ 7 ∧ (spansR (wordsR u.1)).map (u.2.2.1 ++ ·) = S) (fun u => u.1.length) ?_ (s, 6, [], H1) ⟨by simp, Nat.le_refl _, f0, f1, f2, f3, f4, f5, by simpa using f6, rfl, by simp, by simp, by simp [hS]⟩
    rintro ⟨rest, p, acc, H2⟩ ⟨hr, g00, g0, g1, g2, g3, g4, g5, g6, g7, g8, g9, g10⟩ ih
    simp only at hr g00 g0 g1 g2 g3 g4 g5 g6 g7 g8 g9 g10 ih ⊢
    rw [f7] at g7
    have hw0 : IntKind.i64.wrap 0 = 0 := wrap_i64 _ (by omega) (by omega)
    repeat (first
      | (refine AWP_seq (AWP_regS tOk rfl ?_); simp [g3, g4])
      | (refine AWP_regS tOk rfl ?_; simp [g3, g4])
      | (refine AWP_skip ?_; simp [g3, g4])
      | (refine AWP_exit ?_; simp [g3, g4])
      | (refine AWP_ret ?_; simp [g3, g4])
      | refine AWP_block ?_
      | refine AWP_seq ?_)
    refine AStep_PC rfl rfl (by simp) (pc_Index rest [32] (by omega)) rfl ?_
    rintro _ rfl
    simp
    rcases idx_cases rest [32] (by simp) with hi | ⟨k, hi, hk⟩
    · rw [words_miss rest hi, spans_hit, spans_nil] at g10
      rw [hi]
      repeat (first
        | (refine AWP_seq (AWP_regS tOk rfl ?_); simp)
        | (refine AWP_regS tOk rfl ?_; simp)
        | (refine AWP_skip ?_; simp)
        | (refine AWP_exit ?_; simp)
        | (refine AWP_ret ?_; simp)
        | refine AWP_block ?_
        | refine AWP_seq ?_)
      refine AWP_cond rfl ?_
      repeat (first
        | (refine AWP_seq (AWP_regS tOk rfl ?_); simp [g3])
        | (refine AWP_regS tOk rfl ?_; simp [g3])
        | (refine AWP_skip ?_; simp [g3])
        | (refine AWP_exit ?_; simp [g3])
        | (refine AWP_ret ?_; simp [g3])
        | refine AWP_block ?_
        | refine AWP_seq ?_)
      cases ho : (spanR rest).2 with
      | true =>
        rw [ho, if_pos rfl] at g10
        obtain ⟨x, hx⟩ : ∃ x, (spanR rest).1 = x := ⟨_, rfl⟩
        rw [hx] at g10
        refine AStep_yield rfl rfl (q := 7) rfl rfl g7 rfl rfl rfl (fun jm H4 => jm = none ∧ H2.length ≤ H4.length ∧ (∃ p', H4[2]? = some (.vars [.sl p' 2 0 (acc.length + 1)]) ∧ H4[p']? = some (.arr 59 2 ((acc ++ [x]).map encIv)) ∧ 5 < p' ∧ p' ≠ 7) ∧ ∀ i, i ≠ 2 → i ≠ p → i ≠ 7 → i < H2.length → H4[i]? = H2[i]?) ?_ ?_
        · simp [putMany]
          obtain ⟨H3, hH3⟩ : ∃ H3, H2.set 7 .dead = H3 := ⟨_, rfl⟩
          have e1 : H3[2]? = some (.vars [.sl p 2 0 acc.length]) := by rw [← hH3]; exact get_set (by omega) g2 _
          have e2 : H3[p]? = some (.arr 59 2 (acc.map encIv)) := by rw [← hH3]; exact get_set (by omega) g6 _
          have e3 : H3[7]? = some .dead := by rw [← hH3]; exact get_self g7 _
          have e4 : H3.length = H2.length := by rw [← hH3]; simp
          have e5 : ∀ i, i ≠ 7 → H3[i]? = H2[i]? := fun i hi => by rw [← hH3, List.getElem?_set_ne (by omega)]
          have e6 : (H3.set p .dead)[2]? = some (.vars [.sl p 2 0 acc.length]) := get_set (by omega) e1 _
          rw [hH3]
          repeat (first
            | (refine AWP_seq (AWP_regS tOk rfl ?_); simp)
            | (refine AWP_regS tOk rfl ?_; simp)
            | (refine AWP_skip ?_; simp)
            | (refine AWP_exit ?_; simp)
            | (refine AWP_ret ?_; simp)
            | refine AWP_block ?_
            | refine AWP_seq ?_)
          refine AStep_PC rfl rfl (by simp) (pc_part (rest) (by omega)) rfl ?_
          rintro _ rfl
          simp
          rw [ho, hx]
          repeat (first
            | (refine AWP_seq (AWP_regS tOk rfl ?_); simp [e1, e2, get_app' e1, get_app' e6, get_app e1, get_app e2, set_app e1, set_app e2, get_app e6, set_app e6])
            | (refine AWP_regS tOk rfl ?_; simp [e1, e2, get_app' e1, get_app' e6, get_app e1, get_app e2, set_app e1, set_app e2, get_app e6, set_app e6])
            | (refine AWP_skip ?_; simp [e1, e2, get_app' e1, get_app' e6, get_app e1, get_app e2, set_app e1, set_app e2, get_app e6, set_app e6])
            | (refine AWP_exit ?_; simp [e1, e2, get_app' e1, get_app' e6, get_app e1, get_app e2, set_app e1, set_app e2, get_app e6, set_app e6])
            | (refine AWP_ret ?_; simp [e1, e2, get_app' e1, get_app' e6, get_app e1, get_app e2, set_app e1, set_app e2, get_app e6, set_app e6])
            | refine AWP_block ?_
            | refine AWP_seq ?_)
          refine AWP_cond rfl ?_
          repeat (first
            | (refine AWP_seq (AWP_regS tOk rfl ?_); simp [e1, e2, get_app' e1, get_app' e6, get_app e1, get_app e2, set_app e1, set_app e2, get_app e6, set_app e6])
            | (refine AWP_regS tOk rfl ?_; simp [e1, e2, get_app' e1, get_app' e6, get_app e1, get_app e2, set_app e1, set_app e2, get_app e6, set_app e6])
            | (refine AWP_skip ?_; simp [e1, e2, get_app' e1, get_app' e6, get_app e1, get_app e2, set_app e1, set_app e2, get_app e6, set_app e6])
            | (refine AWP_exit ?_; simp [e1, e2, get_app' e1, get_app' e6, get_app e1, get_app e2, set_app e1, set_app e2, get_app e6, set_app e6])
            | (refine AWP_ret ?_; simp [e1, e2, get_app' e1, get_app' e6, get_app e1, get_app e2, set_app e1, set_app e2, get_app e6, set_app e6])
            | refine AWP_block ?_
            | refine AWP_seq ?_)
          refine AStep_appendS tOk rfl rfl T22 rfl T59 rfl (by decide) (by decide) rfl rfl rfl ?_
          simp [e1, e2, e6, get_app' e1, get_app' e6, get_app e2, set_app e2, get_app e6, set_app e6]
          refine ⟨by simp [appOk, e1, e2, e6, get_app' e1, get_app' e6, get_app e2, set_app e2, get_app e6, set_app e6] <;> omega, ?_⟩
          have e7 : ∀ z, ((H3.set p .dead).set 2 (.vars [.sl z 2 0 (acc.length + 1)]))[2]? = some (.vars [.sl z 2 0 (acc.length + 1)]) := fun z => get_self e6 _
          have e8 : ∀ z, ((H3.set p .dead).set 2 (.vars [.sl z 2 0 (acc.length + 1)]))[7]? = some .dead := fun z => get_set (by omega) (get_set (by omega) e3 _) _
          have e10 : ∀ z, ((H3.set p .dead).set 2 (.vars [.sl z 2 0 (acc.length + 1)])).length = H3.length := fun z => by simp
          refine ⟨get_app (e8 _) _, rfl, by simp [e4], ⟨H3.length + 2, get_app (e7 _) _, ?_, by omega, by omega⟩, fun i i1 i2 i3 i4 => ?_⟩
          · rw [List.getElem?_append_right (by rw [e10]; omega), e10]; simp [encIv]
          · rw [List.getElem?_append_left (by rw [e10, e4]; exact i4), List.getElem?_set_ne (by omega), List.getElem?_set_ne (by omega), e5 i i3]
        · rintro jm H4 ⟨rfl, k1, ⟨p', k2, k3, k4, k5⟩, k6⟩
          obtain ⟨q, hq⟩ : ∃ q, H4[7]? = some q := ⟨_, List.getElem?_eq_getElem (by omega)⟩
          simp
          generalize hH5 : H4.set 7 _ = H5
          have m2 : H5[2]? = some (.vars [.sl p' 2 0 (acc.length + 1)]) := by rw [← hH5]; exact get_set (by omega) k2 _
          have m3 : H5[p']? = some (.arr 59 2 ((acc ++ [x]).map encIv)) := by rw [← hH5]; exact get_set (by omega) k3 _
          have m4 : H5[7]? = H1[7]? := by rw [f7, ← hH5]; exact get_self hq _
          have m5 : H5.length = H4.length := by rw [← hH5]; simp
          have m6 : ∀ i, i < 6 → i ≠ 2 → H5[i]? = H2[i]? := fun i h1 h2 => by rw [← hH5, List.getElem?_set_ne (by omega)]; exact k6 i h2 (by omega) (by omega) (by omega)
          clear hH5
          repeat (first
            | (refine AWP_seq (AWP_regS tOk rfl ?_); simp)
            | (refine AWP_regS tOk rfl ?_; simp)
            | (refine AWP_skip ?_; simp)
            | (refine AWP_exit ?_; simp)
            | (refine AWP_ret ?_; simp)
            | refine AWP_block ?_
            | refine AWP_seq ?_)
          simp only [Option.map_some] at g10
          subst g10
          exact ⟨none, ⟨_, _, _, _, by rw [m4, f7]; rfl⟩, rfl, ⟨p', by simpa using k2, by simpa using m3, k4, k5⟩, (k6 0 (by omega) (by omega) (by omega) (by omega)).trans g0, (k6 1 (by omega) (by omega) (by omega) (by omega)).trans g1⟩
      | false =>
        rw [ho, if_neg (by simp)] at g10
        refine AStep_yield rfl rfl (q := 7) rfl rfl g7 rfl rfl rfl (fun jm H4 => jm = some .ret ∧ H4[0]? = some (.vars [.nils]) ∧ H4[1]? = some (.vars [.i 4]) ∧ 7 < H4.length) ?_ ?_
        · simp [putMany]
          obtain ⟨H3, hH3⟩ : ∃ H3, H2.set 7 .dead = H3 := ⟨_, rfl⟩
          have e1 : H3[0]? = some (.vars [.nils]) := by rw [← hH3]; exact get_set (by omega) g0 _
          have e2 : H3[1]? = some (.vars [.i 0]) := by rw [← hH3]; exact get_set (by omega) g1 _
          have e3 : H3[7]? = some .dead := by rw [← hH3]; exact get_self g7 _
          have e4 : H3.length = H2.length := by rw [← hH3]; simp
          rw [hH3]
          repeat (first
            | (refine AWP_seq (AWP_regS tOk rfl ?_); simp)
            | (refine AWP_regS tOk rfl ?_; simp)
            | (refine AWP_skip ?_; simp)
            | (refine AWP_exit ?_; simp)
            | (refine AWP_ret ?_; simp)
            | refine AWP_block ?_
            | refine AWP_seq ?_)
          refine AStep_PC rfl rfl (by simp) (pc_part (rest) (by omega)) rfl ?_
          rintro _ rfl
          simp
          rw [ho]
          repeat (first
            | (refine AWP_seq (AWP_regS tOk rfl ?_); simp)
            | (refine AWP_regS tOk rfl ?_; simp)
            | (refine AWP_skip ?_; simp)
            | (refine AWP_exit ?_; simp)
            | (refine AWP_ret ?_; simp)
            | refine AWP_block ?_
            | refine AWP_seq ?_)
          refine AWP_cond rfl ?_
          have e6 : (H3.set 0 (.vars [.nils]))[1]? = some (.vars [.i 0]) := get_set (by omega) e2 _
          repeat (first
            | (refine AWP_seq (AWP_regS tOk rfl ?_); simp [e1, e2, get_app' e1, get_app' e2, get_app e1, get_app e2, set_app e1, set_app e2, e6, get_app' e6, get_app e6, set_app e6])
            | (refine AWP_regS tOk rfl ?_; simp [e1, e2, get_app' e1, get_app' e2, get_app e1, get_app e2, set_app e1, set_app e2, e6, get_app' e6, get_app e6, set_app e6])
            | (refine AWP_skip ?_; simp [e1, e2, get_app' e1, get_app' e2, get_app e1, get_app e2, set_app e1, set_app e2, e6, get_app' e6, get_app e6, set_app e6])
            | (refine AWP_exit ?_; simp [e1, e2, get_app' e1, get_app' e2, get_app e1, get_app e2, set_app e1, set_app e2, e6, get_app' e6, get_app e6, set_app e6])
            | (refine AWP_ret ?_; simp [e1, e2, get_app' e1, get_app' e2, get_app e1, get_app e2, set_app e1, set_app e2, e6, get_app' e6, get_app e6, set_app e6])
            | refine AWP_block ?_
            | refine AWP_seq ?_)
          have e7 : ((H3.set 0 (.vars [.nils])).set 1 (.vars [.i 4]))[1]? = some (.vars [.i 4]) := get_self e6 _
          have e8 : ((H3.set 0 (.vars [.nils])).set 1 (.vars [.i 4]))[0]? = some (.vars [.nils]) := get_set (by omega) (get_self e1 _) _
          have e9 : ((H3.set 0 (.vars [.nils])).set 1 (.vars [.i 4]))[7]? = some .dead := get_set (by omega) (get_set (by omega) e3 _) _
          exact ⟨get_app e9 _, rfl, get_app e8 _, get_app e7 _, by simp [e4]; omega⟩
        · rintro jm H4 ⟨rfl, k1, k2, k3⟩
          obtain ⟨q, hq⟩ : ∃ q, H4[7]? = some q := ⟨_, List.getElem?_eq_getElem k3⟩
          simp
          repeat (first
            | (refine AWP_seq (AWP_regS tOk rfl ?_); simp)
            | (refine AWP_regS tOk rfl ?_; simp)
            | (refine AWP_skip ?_; simp)
            | (refine AWP_exit ?_; simp)
            | (refine AWP_ret ?_; simp)
            | refine AWP_block ?_
            | refine AWP_seq ?_)
          subst g10
          exact ⟨some .ret, ⟨_, _, _, _, get_self hq _⟩, rfl, by simpa using k1, by simpa using k2⟩
    · have hk' : k + 1 ≤ rest.length := by simpa using hk
      have hkN : k ≤ rest.length := by omega
      have hwk : IntKind.i64.wrap (k : Int) = k := wrap_i64 _ (by omega) (by omega)
      have hwk1 : IntKind.i64.wrap ((k : Int) + 1) = k + 1 := wrap_i64 _ (by omega) (by omega)
      have hneg : ¬ (k : Int) < 0 := by omega
      have hk2 : (0 : Int) ≤ (k : Int) + 1 := by omega
      have hk3 : ((k : Int) + 1).toNat = k + 1 := by omega
      have hk4 : (k : Int) + 1 ≤ rest.length := by omega
      rw [words_hit rest k hi, spans_hit] at g10
      rw [hi]
      repeat (first
        | (refine AWP_seq (AWP_regS tOk rfl ?_); simp [hneg])
        | (refine AWP_regS tOk rfl ?_; simp [hneg])
        | (refine AWP_skip ?_; simp [hneg])
        | (refine AWP_exit ?_; simp [hneg])
        | (refine AWP_ret ?_; simp [hneg])
        | refine AWP_block ?_
        | refine AWP_seq ?_)
      refine AWP_cond rfl ?_
      repeat (first
        | (refine AWP_seq (AWP_regS tOk rfl ?_); simp [g3, g4, g5, hwk, hkN])
        | (refine AWP_regS tOk rfl ?_; simp [g3, g4, g5, hwk, hkN])
        | (refine AWP_skip ?_; simp [g3, g4, g5, hwk, hkN])
        | (refine AWP_exit ?_; simp [g3, g4, g5, hwk, hkN])
        | (refine AWP_ret ?_; simp [g3, g4, g5, hwk, hkN])
        | refine AWP_block ?_
        | refine AWP_seq ?_)
      cases ho : (spanR (rest.take k)).2 with
      | true =>
        rw [ho, if_pos rfl] at g10
        obtain ⟨x, hx⟩ : ∃ x, (spanR (rest.take k)).1 = x := ⟨_, rfl⟩
        rw [hx] at g10
        refine AStep_yield rfl rfl (q := 7) rfl rfl g7 rfl rfl rfl (fun jm H4 => jm = none ∧ H2.length ≤ H4.length ∧ (∃ p', H4[2]? = some (.vars [.sl p' 2 0 (acc.length + 1)]) ∧ H4[p']? = some (.arr 59 2 ((acc ++ [x]).map encIv)) ∧ 5 < p' ∧ p' ≠ 7) ∧ ∀ i, i ≠ 2 → i ≠ p → i ≠ 7 → i < H2.length → H4[i]? = H2[i]?) ?_ ?_
        · simp [putMany]
          obtain ⟨H3, hH3⟩ : ∃ H3, H2.set 7 .dead = H3 := ⟨_, rfl⟩
          have e1 : H3[2]? = some (.vars [.sl p 2 0 acc.length]) := by rw [← hH3]; exact get_set (by omega) g2 _
          have e2 : H3[p]? = some (.arr 59 2 (acc.map encIv)) := by rw [← hH3]; exact get_set (by omega) g6 _
          have e3 : H3[7]? = some .dead := by rw [← hH3]; exact get_self g7 _
          have e4 : H3.length = H2.length := by rw [← hH3]; simp
          have e5 : ∀ i, i ≠ 7 → H3[i]? = H2[i]? := fun i hi => by rw [← hH3, List.getElem?_set_ne (by omega)]
          have e6 : (H3.set p .dead)[2]? = some (.vars [.sl p 2 0 acc.length]) := get_set (by omega) e1 _
          rw [hH3]
          repeat (first
            | (refine AWP_seq (AWP_regS tOk rfl ?_); simp)
            | (refine AWP_regS tOk rfl ?_; simp)
            | (refine AWP_skip ?_; simp)
            | (refine AWP_exit ?_; simp)
            | (refine AWP_ret ?_; simp)
            | refine AWP_block ?_
            | refine AWP_seq ?_)
          refine AStep_PC rfl rfl (by simp) (pc_part (rest.take k) (by (rw [List.length_take]; omega))) rfl ?_
          rintro _ rfl
          simp
          rw [ho, hx]
          repeat (first
            | (refine AWP_seq (AWP_regS tOk rfl ?_); simp [e1, e2, get_app' e1, get_app' e6, get_app e1, get_app e2, set_app e1, set_app e2, get_app e6, set_app e6])
            | (refine AWP_regS tOk rfl ?_; simp [e1, e2, get_app' e1, get_app' e6, get_app e1, get_app e2, set_app e1, set_app e2, get_app e6, set_app e6])
            | (refine AWP_skip ?_; simp [e1, e2, get_app' e1, get_app' e6, get_app e1, get_app e2, set_app e1, set_app e2, get_app e6, set_app e6])
            | (refine AWP_exit ?_; simp [e1, e2, get_app' e1, get_app' e6, get_app e1, get_app e2, set_app e1, set_app e2, get_app e6, set_app e6])
            | (refine AWP_ret ?_; simp [e1, e2, get_app' e1, get_app' e6, get_app e1, get_app e2, set_app e1, set_app e2, get_app e6, set_app e6])
            | refine AWP_block ?_
            | refine AWP_seq ?_)
          refine AWP_cond rfl ?_
          repeat (first
            | (refine AWP_seq (AWP_regS tOk rfl ?_); simp [e1, e2, get_app' e1, get_app' e6, get_app e1, get_app e2, set_app e1, set_app e2, get_app e6, set_app e6])
            | (refine AWP_regS tOk rfl ?_; simp [e1, e2, get_app' e1, get_app' e6, get_app e1, get_app e2, set_app e1, set_app e2, get_app e6, set_app e6])
            | (refine AWP_skip ?_; simp [e1, e2, get_app' e1, get_app' e6, get_app e1, get_app e2, set_app e1, set_app e2, get_app e6, set_app e6])
            | (refine AWP_exit ?_; simp [e1, e2, get_app' e1, get_app' e6, get_app e1, get_app e2, set_app e1, set_app e2, get_app e6, set_app e6])
            | (refine AWP_ret ?_; simp [e1, e2, get_app' e1, get_app' e6, get_app e1, get_app e2, set_app e1, set_app e2, get_app e6, set_app e6])
            | refine AWP_block ?_
            | refine AWP_seq ?_)
          refine AStep_appendS tOk rfl rfl T22 rfl T59 rfl (by decide) (by decide) rfl rfl rfl ?_
          simp [e1, e2, e6, get_app' e1, get_app' e6, get_app e2, set_app e2, get_app e6, set_app e6]
          refine ⟨by simp [appOk, e1, e2, e6, get_app' e1, get_app' e6, get_app e2, set_app e2, get_app e6, set_app e6] <;> omega, ?_⟩
          have e7 : ∀ z, ((H3.set p .dead).set 2 (.vars [.sl z 2 0 (acc.length + 1)]))[2]? = some (.vars [.sl z 2 0 (acc.length + 1)]) := fun z => get_self e6 _
          have e8 : ∀ z, ((H3.set p .dead).set 2 (.vars [.sl z 2 0 (acc.length + 1)]))[7]? = some .dead := fun z => get_set (by omega) (get_set (by omega) e3 _) _
          have e10 : ∀ z, ((H3.set p .dead).set 2 (.vars [.sl z 2 0 (acc.length + 1)])).length = H3.length := fun z => by simp
          refine ⟨get_app (e8 _) _, rfl, by simp [e4], ⟨H3.length + 2, get_app (e7 _) _, ?_, by omega, by omega⟩, fun i i1 i2 i3 i4 => ?_⟩
          · rw [List.getElem?_append_right (by rw [e10]; omega), e10]; simp [encIv]
          · rw [List.getElem?_append_left (by rw [e10, e4]; exact i4), List.getElem?_set_ne (by omega), List.getElem?_set_ne (by omega), e5 i i3]
        · rintro jm H4 ⟨rfl, k1, ⟨p', k2, k3, k4, k5⟩, k6⟩
          obtain ⟨q, hq⟩ : ∃ q, H4[7]? = some q := ⟨_, List.getElem?_eq_getElem (by omega)⟩
          simp
          generalize hH5 : H4.set 7 _ = H5
          have m2 : H5[2]? = some (.vars [.sl p' 2 0 (acc.length + 1)]) := by rw [← hH5]; exact get_set (by omega) k2 _
          have m3 : H5[p']? = some (.arr 59 2 ((acc ++ [x]).map encIv)) := by rw [← hH5]; exact get_set (by omega) k3 _
          have m4 : H5[7]? = H1[7]? := by rw [f7, ← hH5]; exact get_self hq _
          have m5 : H5.length = H4.length := by rw [← hH5]; simp
          have m6 : ∀ i, i < 6 → i ≠ 2 → H5[i]? = H2[i]? := fun i h1 h2 => by rw [← hH5, List.getElem?_set_ne (by omega)]; exact k6 i h2 (by omega) (by omega) (by omega)
          clear hH5
          repeat (first
            | (refine AWP_seq (AWP_regS tOk rfl ?_); simp)
            | (refine AWP_regS tOk rfl ?_; simp)
            | (refine AWP_skip ?_; simp)
            | (refine AWP_exit ?_; simp)
            | (refine AWP_ret ?_; simp)
            | refine AWP_block ?_
            | refine AWP_seq ?_)
          refine AWP_cond rfl ?_
          have n0 := (m6 0 (by omega) (by omega)).trans g0
          have n1 := (m6 1 (by omega) (by omega)).trans g1
          have n3 := (m6 3 (by omega) (by omega)).trans g3
          have n4 := (m6 4 (by omega) (by omega)).trans g4
          have n5 := (m6 5 (by omega) (by omega)).trans g5
          repeat (first
            | (refine AWP_seq (AWP_regS tOk rfl ?_); simp [n3, n4, n5, hwk1, hk', hk2, hk3, hk4])
            | (refine AWP_regS tOk rfl ?_; simp [n3, n4, n5, hwk1, hk', hk2, hk3, hk4])
            | (refine AWP_skip ?_; simp [n3, n4, n5, hwk1, hk', hk2, hk3, hk4])
            | (refine AWP_exit ?_; simp [n3, n4, n5, hwk1, hk', hk2, hk3, hk4])
            | (refine AWP_ret ?_; simp [n3, n4, n5, hwk1, hk', hk2, hk3, hk4])
            | refine AWP_block ?_
            | refine AWP_seq ?_)
          refine ALoop_keep (sl' := [(0, .yld 7), (1, .vptr 4 0), (2, .vptr 3 0), (3, .vptr 5 0)]) ?_ (by simp)
          have key := ih (rest.drop (k + 1), p', acc ++ [x], H5.set 3 (.vars [.str (rest.drop (k + 1))])) ⟨by simp; omega, by simp; omega, get_set (i := 0) (by omega) n0 _, get_set (i := 1) (by omega) n1 _, get_set (i := 2) (by omega) (by simpa using m2) _, get_self n3 _, get_set (i := 4) (by omega) n4 _, get_set (i := 5) (by omega) n5 _, get_set (by omega) m3 _, by simp only; rw [List.getElem?_set_ne (by omega)]; exact m4, k4, k5, by rw [← g10]; simp [Function.comp_def]⟩ (by simp; omega)
          simp only at key
          first | exact key | (rw [hlen1] at key; exact key)
      | false =>
        rw [ho, if_neg (by simp)] at g10
        refine AStep_yield rfl rfl (q := 7) rfl rfl g7 rfl rfl rfl (fun jm H4 => jm = some .ret ∧ H4[0]? = some (.vars [.nils]) ∧ H4[1]? = some (.vars [.i 4]) ∧ 7 < H4.length) ?_ ?_
        · simp [putMany]
          obtain ⟨H3, hH3⟩ : ∃ H3, H2.set 7 .dead = H3 := ⟨_, rfl⟩
          have e1 : H3[0]? = some (.vars [.nils]) := by rw [← hH3]; exact get_set (by omega) g0 _
          have e2 : H3[1]? = some (.vars [.i 0]) := by rw [← hH3]; exact get_set (by omega) g1 _
          have e3 : H3[7]? = some .dead := by rw [← hH3]; exact get_self g7 _
          have e4 : H3.length = H2.length := by rw [← hH3]; simp
          rw [hH3]
          repeat (first
            | (refine AWP_seq (AWP_regS tOk rfl ?_); simp)
            | (refine AWP_regS tOk rfl ?_; simp)
            | (refine AWP_skip ?_; simp)
            | (refine AWP_exit ?_; simp)
            | (refine AWP_ret ?_; simp)
            | refine AWP_block ?_
            | refine AWP_seq ?_)
          refine AStep_PC rfl rfl (by simp) (pc_part (rest.take k) (by (rw [List.length_take]; omega))) rfl ?_
          rintro _ rfl
          simp
          rw [ho]
          repeat (first
            | (refine AWP_seq (AWP_regS tOk rfl ?_); simp)
            | (refine AWP_regS tOk rfl ?_; simp)
            | (refine AWP_skip ?_; simp)
            | (refine AWP_exit ?_; simp)
            | (refine AWP_ret ?_; simp)
            | refine AWP_block ?_
            | refine AWP_seq ?_)
          refine AWP_cond rfl ?_
          have e6 : (H3.set 0 (.vars [.nils]))[1]? = some (.vars [.i 0]) := get_set (by omega) e2 _
          repeat (first
            | (refine AWP_seq (AWP_regS tOk rfl ?_); simp [e1, e2, get_app' e1, get_app' e2, get_app e1, get_app e2, set_app e1, set_app e2, e6, get_app' e6, get_app e6, set_app e6])
            | (refine AWP_regS tOk rfl ?_; simp [e1, e2, get_app' e1, get_app' e2, get_app e1, get_app e2, set_app e1, set_app e2, e6, get_app' e6, get_app e6, set_app e6])
            | (refine AWP_skip ?_; simp [e1, e2, get_app' e1, get_app' e2, get_app e1, get_app e2, set_app e1, set_app e2, e6, get_app' e6, get_app e6, set_app e6])
            | (refine AWP_exit ?_; simp [e1, e2, get_app' e1, get_app' e2, get_app e1, get_app e2, set_app e1, set_app e2, e6, get_app' e6, get_app e6, set_app e6])
            | (refine AWP_ret ?_; simp [e1, e2, get_app' e1, get_app' e2, get_app e1, get_app e2, set_app e1, set_app e2, e6, get_app' e6, get_app e6, set_app e6])
            | refine AWP_block ?_
            | refine AWP_seq ?_)
          have e7 : ((H3.set 0 (.vars [.nils])).set 1 (.vars [.i 4]))[1]? = some (.vars [.i 4]) := get_self e6 _
          have e8 : ((H3.set 0 (.vars [.nils])).set 1 (.vars [.i 4]))[0]? = some (.vars [.nils]) := get_set (by omega) (get_self e1 _) _
          have e9 : ((H3.set 0 (.vars [.nils])).set 1 (.vars [.i 4]))[7]? = some .dead := get_set (by omega) (get_set (by omega) e3 _) _
          exact ⟨get_app e9 _, rfl, get_app e8 _, get_app e7 _, by simp [e4]; omega⟩
        · rintro jm H4 ⟨rfl, k1, k2, k3⟩
          obtain ⟨q, hq⟩ : ∃ q, H4[7]? = some q := ⟨_, List.getElem?_eq_getElem k3⟩
          simp
          repeat (first
            | (refine AWP_seq (AWP_regS tOk rfl ?_); simp)
            | (refine AWP_regS tOk rfl ?_; simp)
            | (refine AWP_skip ?_; simp)
            | (refine AWP_exit ?_; simp)
            | (refine AWP_ret ?_; simp)
            | refine AWP_block ?_
            | refine AWP_seq ?_)
          refine AWP_cond rfl ?_
          repeat (first
            | (refine AWP_seq (AWP_regS tOk rfl ?_); simp)
            | (refine AWP_regS tOk rfl ?_; simp)
            | (refine AWP_skip ?_; simp)
            | (refine AWP_exit ?_; simp)
            | (refine AWP_ret ?_; simp)
            | refine AWP_block ?_
            | refine AWP_seq ?_)
          subst g10
          exact ⟨some .ret, ⟨_, _, _, _, get_self hq _⟩, rfl, by simpa using k1, by simpa using k2⟩
  · rintro r H' ⟨pend, sl', ps', a', b', h0', h2⟩
    refine ⟨_, _, _, _, _, _, _, by simpa using h0', ?_⟩
    cases S with
    | none =>
      obtain ⟨rfl, h3, h4⟩ := h2
      simp
      have k1 := get_set (j := 7) (by omega) h3 .dead
      have k2 := get_set (j := 7) (by omega) h4 .dead
      repeat (first
        | (refine AWP_seq (AWP_regS tOk rfl ?_); simp [k1, k2])
        | (refine AWP_regS tOk rfl ?_; simp [k1, k2])
        | (refine AWP_skip ?_; simp [k1, k2])
        | (refine AWP_exit ?_; simp [k1, k2])
        | (refine AWP_ret ?_; simp [k1, k2])
        | refine AWP_block ?_
        | refine AWP_seq ?_)
      rw [← hP]
      exact ⟨rfl, rfl⟩
    | some l =>
      obtain ⟨rfl, ⟨p, h3, h4, h5, h6⟩, h8, h9⟩ := h2
      simp
      have k1 := get_set (j := 7) (by omega) h3 .dead
      have k2 := get_set (j := 7) (by omega) h4 .dead
      have k3 := get_set (j := 7) (by omega) h8 .dead
      have k4 := get_set (j := 7) (by omega) h9 .dead
      repeat (first
        | (refine AWP_seq (AWP_regS tOk rfl ?_); simp [k1])
        | (refine AWP_regS tOk rfl ?_; simp [k1])
        | (refine AWP_skip ?_; simp [k1])
        | (refine AWP_exit ?_; simp [k1])
        | (refine AWP_ret ?_; simp [k1])
        | refine AWP_block ?_
        | refine AWP_seq ?_)
      refine AStep_freeze p k2 ?_
      have k5 := get_map (get_set (j := p) (by omega) k3 .dead) (AObj.fz p 2 (l.map encIv))
      have k6 := get_map (get_set (j := p) (by omega) k4 .dead) (AObj.fz p 2 (l.map encIv))
      have k7 := get_map (get_set (j := p) (by omega) k1 .dead) (AObj.fz p 2 (l.map encIv))
      simp only [AObj.fz, List.map_cons, List.map_nil, fz_nils, fz_int] at k5 k6
      simp only [AObj.fz, List.map_cons, List.map_nil, fz_sl, ↓reduceIte, List.drop_zero, List.length_map] at k7
      rw [List.take_of_length_le (by simp)] at k7
      have hP' : (if ckR l = 0 then (l, 0) else ([], ckR l)) = P := hP
      generalize (((H'.set 7 .dead).set p .dead).map (AObj.fz p 2 (l.map encIv))) = G at *
      simp
      rw [List.take_of_length_le (by simp)]
      have n1 : ∀ x, (G.set 0 x)[1]? = some (.vars [.i 0]) := fun x => get_set (by omega) k6 x
      have n2 : ∀ a b, ((G.set 0 a).set 1 b)[0]? = some a := fun a b => get_set (by omega) (get_self k5 a) b
      have n3 : ∀ a b, ((G.set 0 a).set 1 b)[1]? = some b := fun a b => get_self (n1 a) b
      refine AStep_PC rfl rfl (by simp) (pc_Check l) rfl ?_
      rintro _ rfl
      simp
      repeat (first
        | (refine AWP_seq (AWP_regS tOk rfl ?_); simp)
        | (refine AWP_regS tOk rfl ?_; simp)
        | (refine AWP_skip ?_; simp)
        | (refine AWP_exit ?_; simp)
        | (refine AWP_ret ?_; simp)
        | refine AWP_block ?_
        | refine AWP_seq ?_)
      refine AWP_cond2 rfl (fun h3 => ?_) (fun h3 => ?_)
      · repeat (first
          | (refine AWP_seq (AWP_regS tOk rfl ?_); simp [k5, n1, n2, n3])
          | (refine AWP_regS tOk rfl ?_; simp [k5, n1, n2, n3])
          | (refine AWP_skip ?_; simp [k5, n1, n2, n3])
          | (refine AWP_exit ?_; simp [k5, n1, n2, n3])
          | (refine AWP_ret ?_; simp [k5, n1, n2, n3])
          | refine AWP_block ?_
          | refine AWP_seq ?_)
        rw [← hP', if_neg (by simpa using h3)]
        exact ⟨rfl, rfl⟩
      · repeat (first
          | (refine AWP_seq (AWP_regS tOk rfl ?_); simp [k5, k7, n1, n2, n3])
          | (refine AWP_regS tOk rfl ?_; simp [k5, k7, n1, n2, n3])
          | (refine AWP_skip ?_; simp [k5, k7, n1, n2, n3])
          | (refine AWP_exit ?_; simp [k5, k7, n1, n2, n3])
          | (refine AWP_ret ?_; simp [k5, k7, n1, n2, n3])
          | refine AWP_block ?_
          | refine AWP_seq ?_)
        rw [← hP', if_pos (by simpa using h3)]
        exact ⟨rfl, rfl⟩
end Go.Abs
set_option maxRecDepth 100000
namespace Go.Abs
open Go Go.Proofs
set_option linter.unusedSimpArgs false
attribute [local irreducible] ckR Lib.itoa Lib.join
set_option maxHeartbeats 2000000 in
theorem pc_rText (l : List Iv) (hc : CanonL l) : PC Tryz.prog 59 [LIv l] (fun r => r = .str (fmtT l)) := by
  refine PC_body tOk Tryz.func59 rfl Tryz.results59 rfl (by simp [Tryz.ntmps59]) ?_
  rw [Tryz.ntmps59]
  simp only [argSlots]
  have hlen := hc.len
  by_cases hl0 : l = []
  · subst hl0
    repeat (first
      | (refine AWP_seq (AWP_regS tOk rfl ?_); simp)
      | (refine AWP_regS tOk rfl ?_; simp)
      | (refine AWP_skip ?_; simp)
      | (refine AWP_exit ?_; simp)
      | (refine AWP_ret ?_; simp)
      | refine AWP_block ?_
      | refine AWP_seq ?_)
    refine AWP_cond rfl ?_
    repeat (first
      | (refine AWP_seq (AWP_regS tOk rfl ?_); simp)
      | (refine AWP_regS tOk rfl ?_; simp)
      | (refine AWP_skip ?_; simp)
      | (refine AWP_exit ?_; simp)
      | (refine AWP_ret ?_; simp)
      | refine AWP_block ?_
      | refine AWP_seq ?_)
    rfl
  have hl1 : ((l.length : Int) == 0) = false := beq_eq_false_iff_ne.2 (by have := List.length_pos_iff.2 hl0; omega)
  rw [fmtT, if_neg hl0]
  repeat (first
    | (refine AWP_seq (AWP_regS tOk rfl ?_); simp)
    | (refine AWP_regS tOk rfl ?_; simp)
    | (refine AWP_skip ?_; simp)
    | (refine AWP_exit ?_; simp)
    | (refine AWP_ret ?_; simp)
    | refine AWP_block ?_
    | refine AWP_seq ?_)
  refine AWP_cond2 rfl (fun h => by rw [hl1] at h; cases h) (fun _ => ?_)
  repeat (first
    | (refine AWP_seq (AWP_regS tOk rfl ?_); simp)
    | (refine AWP_regS tOk rfl ?_; simp)
    | (refine AWP_skip ?_; simp)
    | (refine AWP_exit ?_; simp)
    | (refine AWP_ret ?_; simp)
    | refine AWP_block ?_
    | refine AWP_seq ?_)
  refine AWP_nilSlot 3 9 1 rfl ?_
  simp
  repeat (first
    | (refine AWP_seq (AWP_regS tOk rfl ?_); simp)
    | (refine AWP_regS tOk rfl ?_; simp)
    | (refine AWP_skip ?_; simp)
    | (refine AWP_exit ?_; simp)
    | (refine AWP_ret ?_; simp)
    | refine AWP_block ?_
    | refine AWP_seq ?_)
  refine AWP_loop (ALoop_keep (sl' := [(0, LIv l), (3, .sl 0 1 0 0), (4, .i 0)]) ?_ (by simp))
  refine ALoop_wf (F := fun (u : Nat × Nat × List AObj) => ⟨[(0, LIv l), (3, .sl u.2.1 1 0 (txtR (l.take u.1)).length), (4, .i u.1)], u.2.2⟩)
    (fun u => u.1 ≤ l.length ∧ u.2.2[u.2.1]? = some (.arr 9 1 ((txtR (l.take u.1)).map AV.str))) (fun u => l.length - u.1) ?_ (0, 0, [.arr 9 1 []]) ⟨by simp, by simp [txtR]⟩
  rintro ⟨j, q, H2⟩ ⟨hj, g1⟩ ih
  simp only at hj g1 ih ⊢
  repeat (first
    | (refine AWP_seq (AWP_regS tOk rfl ?_); simp)
    | (refine AWP_regS tOk rfl ?_; simp)
    | (refine AWP_skip ?_; simp)
    | (refine AWP_exit ?_; simp)
    | (refine AWP_ret ?_; simp)
    | refine AWP_block ?_
    | refine AWP_seq ?_)
  refine AWP_cond2 rfl (fun hlt => ?_) (fun hge => ?_)
  · have hlt' : j < l.length := by simpa using hlt
    have hv := hc.iv hlt'
    have hw : IntKind.i64.wrap ((j : Int) + 1) = j + 1 := wrap_i64 _ (by omega) (by omega)
    have hpl : (txtR (l.take j)).length ≤ 256 := by rw [txtR_len]; simp; omega
    have hnx := txtR_snoc l j hlt'
    have ih' : ∀ (q' : Nat) (H' : List AObj), H'[q']? = some (.arr 9 1 ((txtR (l.take j) ++ [ivText l[j]]).map AV.str)) → _ := fun q' H' h => ih (j + 1, q', H') ⟨by simp; omega, by rw [hnx]; exact h⟩ (by simp; omega)
    clear ih
    simp only [hnx] at ih'
    clear hnx
    generalize txtR (l.take j) = acc at *
    repeat (first
      | (refine AWP_seq (AWP_regS tOk rfl ?_); simp [hlt'])
      | (refine AWP_regS tOk rfl ?_; simp [hlt'])
      | (refine AWP_skip ?_; simp [hlt'])
      | (refine AWP_exit ?_; simp [hlt'])
      | (refine AWP_ret ?_; simp [hlt'])
      | refine AWP_block ?_
      | refine AWP_seq ?_)
    refine AStep_PC rfl rfl (by simp) (pc_Itoa l[j].lo (by omega) (by omega)) rfl ?_
    rintro _ rfl
    simp
    repeat (first
      | (refine AWP_seq (AWP_regS tOk rfl ?_); simp)
      | (refine AWP_regS tOk rfl ?_; simp)
      | (refine AWP_skip ?_; simp)
      | (refine AWP_exit ?_; simp)
      | (refine AWP_ret ?_; simp)
      | refine AWP_block ?_
      | refine AWP_seq ?_)
    refine AWP_drawT tOk mixed [] (.val 0 (.val 1 (.val 2 (.val 3 (.val 4 (.val 5 (.val 6 (.val 7 (.val 8 (.val 9 (.val 10 (.done)))))))))))) rfl (by kernel_rfl) ?_
    simp [hlt']
    repeat (first
      | (refine AWP_seq (AWP_regS tOk rfl ?_); simp [hlt'])
      | (refine AWP_regS tOk rfl ?_; simp [hlt'])
      | (refine AWP_skip ?_; simp [hlt'])
      | (refine AWP_exit ?_; simp [hlt'])
      | (refine AWP_ret ?_; simp [hlt'])
      | refine AWP_block ?_
      | refine AWP_seq ?_)
    have hi1 := Lib.itoa_length_le l[j].lo (by omega) (by omega)
    have hi2 := Lib.itoa_length_le l[j].hi (by omega) (by omega)
    refine AWP_cond2 rfl (fun h3 => ?_) (fun h3 => ?_)
    · have h3' : l[j].lo < l[j].hi := by simpa using h3
      have ht : ivText l[j] = Lib.itoa l[j].lo ++ ([46, 46] ++ Lib.itoa l[j].hi) := by rw [ivText, if_pos (bne_iff_ne.2 (by omega))]
      rw [ht] at ih'
      repeat (first
        | (refine AWP_seq (AWP_regS tOk rfl ?_); simp [hlt'])
        | (refine AWP_regS tOk rfl ?_; simp [hlt'])
        | (refine AWP_skip ?_; simp [hlt'])
        | (refine AWP_exit ?_; simp [hlt'])
        | (refine AWP_ret ?_; simp [hlt'])
        | refine AWP_block ?_
        | refine AWP_seq ?_)
      have hA : 2 + (Lib.itoa l[j].hi).length ≤ 9223372036854775807 := by omega
      have hB : (Lib.itoa l[j].lo).length + ((Lib.itoa l[j].hi).length + 1 + 1) ≤ 9223372036854775807 := by omega
      refine AStep_PC rfl rfl (by simp) (pc_Itoa l[j].hi (by omega) (by omega)) rfl ?_
      rintro _ rfl
      simp [hA, hB]
      repeat (first
        | (refine AWP_seq (AWP_regS tOk rfl ?_); simp [hA, hB])
        | (refine AWP_regS tOk rfl ?_; simp [hA, hB])
        | (refine AWP_skip ?_; simp [hA, hB])
        | (refine AWP_exit ?_; simp [hA, hB])
        | (refine AWP_ret ?_; simp [hA, hB])
        | refine AWP_block ?_
        | refine AWP_seq ?_)
      refine AStep_appendS tOk rfl rfl T71 rfl T9 rfl (by decide) (by decide) rfl rfl rfl ?_
      simp [get_app g1, set_app g1]
      refine ⟨by simp [appOk, get_app g1, set_app g1] <;> omega, ?_⟩
      repeat (first
        | (refine AWP_seq (AWP_regS tOk rfl ?_); simp [hw])
        | (refine AWP_regS tOk rfl ?_; simp [hw])
        | (refine AWP_skip ?_; simp [hw])
        | (refine AWP_exit ?_; simp [hw])
        | (refine AWP_ret ?_; simp [hw])
        | refine AWP_block ?_
        | refine AWP_seq ?_)
      exact ALoop_keep (sl' := [(0, LIv l), (3, .sl (H2.length + 1) 1 0 (acc.length + 1)), (4, .i (j + 1 : Nat))]) (by
        have := ih' (H2.length + 1) (H2.set q .dead ++ [.arr 9 1 [.str (Lib.itoa l[j].lo ++ ([46, 46] ++ Lib.itoa l[j].hi))], .arr 9 1 ((acc ++ [Lib.itoa l[j].lo ++ ([46, 46] ++ Lib.itoa l[j].hi)]).map AV.str)]) (by rw [List.getElem?_append_right (by simp)]; simp)
        simpa using this) (by simp)
    · have h3' : ¬ l[j].lo < l[j].hi := by simpa using h3
      have ht : ivText l[j] = Lib.itoa l[j].lo := by rw [ivText, if_neg (by rw [bne_iff_ne]; omega)]
      rw [ht] at ih'
      repeat (first
        | (refine AWP_seq (AWP_regS tOk rfl ?_); simp)
        | (refine AWP_regS tOk rfl ?_; simp)
        | (refine AWP_skip ?_; simp)
        | (refine AWP_exit ?_; simp)
        | (refine AWP_ret ?_; simp)
        | refine AWP_block ?_
        | refine AWP_seq ?_)
      refine AStep_appendS tOk rfl rfl T71 rfl T9 rfl (by decide) (by decide) rfl rfl rfl ?_
      simp [get_app g1, set_app g1]
      refine ⟨by simp [appOk, get_app g1, set_app g1] <;> omega, ?_⟩
      repeat (first
        | (refine AWP_seq (AWP_regS tOk rfl ?_); simp [hw])
        | (refine AWP_regS tOk rfl ?_; simp [hw])
        | (refine AWP_skip ?_; simp [hw])
        | (refine AWP_exit ?_; simp [hw])
        | (refine AWP_ret ?_; simp [hw])
        | refine AWP_block ?_
        | refine AWP_seq ?_)
      exact ALoop_keep (sl' := [(0, LIv l), (3, .sl (H2.length + 1) 1 0 (acc.length + 1)), (4, .i (j + 1 : Nat))]) (by
        have := ih' (H2.length + 1) (H2.set q .dead ++ [.arr 9 1 [.str (Lib.itoa l[j].lo)], .arr 9 1 ((acc ++ [Lib.itoa l[j].lo]).map AV.str)]) (by rw [List.getElem?_append_right (by simp)]; simp)
        simpa using this) (by simp)
  · have hge' : j = l.length := by simp at hge; omega
    subst hge'
    rw [List.take_length] at g1 ⊢
    repeat (first
      | (refine AWP_seq (AWP_regS tOk rfl ?_); simp)
      | (refine AWP_regS tOk rfl ?_; simp)
      | (refine AWP_skip ?_; simp)
      | (refine AWP_exit ?_; simp)
      | (refine AWP_ret ?_; simp)
      | refine AWP_block ?_
      | refine AWP_seq ?_)
    refine AStep_freeze q g1 ?_
    simp
    rw [List.take_of_length_le (by simp)]
    have hJ := pc_Join (txtR l) [32] (by simp) (by simp) (by rw [txtR_len]; omega) (fun x hx => by
      obtain ⟨y, hy, rfl⟩ := List.mem_map.1 hx
      exact ivText_len y (one_in (hc.one y hy)).1)
    refine AStep_PC rfl rfl (by simp) (hJ) rfl ?_
    rintro _ rfl
    simp
    repeat (first
      | (refine AWP_seq (AWP_regS tOk rfl ?_); simp)
      | (refine AWP_regS tOk rfl ?_; simp)
      | (refine AWP_skip ?_; simp)
      | (refine AWP_exit ?_; simp)
      | (refine AWP_ret ?_; simp)
      | refine AWP_block ?_
      | refine AWP_seq ?_)
    rfl
theorem pc_rFormat (l : List Iv) : PC Tryz.prog 32 [LIv l] (fun r => r = .tup [.str (ivFmtR l).1, .i (ivFmtR l).2]) := by
  refine PC_body tOk Tryz.func32 rfl Tryz.results32 rfl (by simp [Tryz.ntmps32]) ?_
  rw [Tryz.ntmps32]
  simp only [argSlots]
  repeat (first
    | (refine AWP_seq (AWP_regS tOk rfl ?_); simp)
    | (refine AWP_regS tOk rfl ?_; simp)
    | (refine AWP_skip ?_; simp)
    | (refine AWP_exit ?_; simp)
    | (refine AWP_ret ?_; simp)
    | refine AWP_block ?_
    | refine AWP_seq ?_)
  refine AStep_PC rfl rfl (by simp) (pc_rCheck l) rfl ?_
  rintro _ rfl
  simp
  repeat (first
    | (refine AWP_seq (AWP_regS tOk rfl ?_); simp)
    | (refine AWP_regS tOk rfl ?_; simp)
    | (refine AWP_skip ?_; simp)
    | (refine AWP_exit ?_; simp)
    | (refine AWP_ret ?_; simp)
    | refine AWP_block ?_
    | refine AWP_seq ?_)
  refine AWP_cond2 rfl (fun h => ?_) (fun h => ?_)
  · repeat (first
      | (refine AWP_seq (AWP_regS tOk rfl ?_); simp)
      | (refine AWP_regS tOk rfl ?_; simp)
      | (refine AWP_skip ?_; simp)
      | (refine AWP_exit ?_; simp)
      | (refine AWP_ret ?_; simp)
      | refine AWP_block ?_
      | refine AWP_seq ?_)
    rw [ivFmtR, if_neg (by simpa using h)]; exact ⟨rfl, rfl⟩
  have h0 : ckR l = 0 := by simpa using h
  rw [ivFmtR, if_pos h0]
  repeat (first
    | (refine AWP_seq (AWP_regS tOk rfl ?_); simp)
    | (refine AWP_regS tOk rfl ?_; simp)
    | (refine AWP_skip ?_; simp)
    | (refine AWP_exit ?_; simp)
    | (refine AWP_ret ?_; simp)
    | refine AWP_block ?_
    | refine AWP_seq ?_)
  refine AStep_PC rfl rfl (by simp) (pc_rText l ((ck_iff l).1 h0)) rfl ?_
  rintro _ rfl
  simp
  repeat (first
    | (refine AWP_seq (AWP_regS tOk rfl ?_); simp)
    | (refine AWP_regS tOk rfl ?_; simp)
    | (refine AWP_skip ?_; simp)
    | (refine AWP_exit ?_; simp)
    | (refine AWP_ret ?_; simp)
    | refine AWP_block ?_
    | refine AWP_seq ?_)
end Go.Abs
set_option maxRecDepth 100000
namespace Go.Abs
open Go Go.Proofs
set_option linter.unusedSimpArgs false
theorem dg_toNat (d : Nat) (h : d < 10) : (UInt8.ofNat (48 + d)).toNat = 48 + d := by simp; omega
theorem isD_dg (d : Nat) (h : d < 10) : isD (UInt8.ofNat (48 + d)) = true := by rw [isD_iff, dg_toNat d h]; omega
theorem decDigits_all : ∀ (u : Nat), (Lib.decDigits u).all isD = true := fun u => by
  induction u using Nat.strongRecOn with
  | ind u ih =>
    rw [Lib.decDigits]
    split
    · rename_i h; rw [List.all_cons, isD_dg u h]; rfl
    · rename_i h; rw [List.all_append, ih (u / 10) (by omega), List.all_cons, isD_dg (u % 10) (by omega)]; rfl
theorem dval_decDigits : ∀ (u : Nat), dval (Lib.decDigits u) = u := fun u => by
  induction u using Nat.strongRecOn with
  | ind u ih =>
    rw [Lib.decDigits]
    split
    · rename_i h
      rw [dval, List.foldl_cons, List.foldl_nil, dstep, dg_toNat u h]; omega
    · rename_i h
      rw [dval_snoc, ih (u / 10) (by omega), dstep, dg_toNat (u % 10) (by omega)]; omega
theorem decDigits_head : ∀ (u : Nat), 0 < u → ∃ c r, Lib.decDigits u = c :: r ∧ c.toNat ≠ 48 := fun u => by
  induction u using Nat.strongRecOn with
  | ind u ih =>
    intro hu
    rw [Lib.decDigits]
    split
    · rename_i h; exact ⟨_, [], rfl, by rw [dg_toNat u h]; omega⟩
    · rename_i h
      obtain ⟨c, r, e, hc⟩ := ih (u / 10) (by omega) (by omega)
      exact ⟨c, r ++ [UInt8.ofNat (48 + u % 10)], by rw [e]; rfl, hc⟩
theorem decDigits_len (u : Nat) (h : u ≤ 1099511627776) : (Lib.decDigits u).length ≤ 13 := by
  rw [Lib.decDigits_length]
  rcases Nat.lt_or_ge 13 (Lib.nDigits u) with h1 | h1
  · exfalso
    have := Lib.decDigits_length u
    have key : ∀ k u, u < 10 ^ (k + 1) → Lib.nDigits u ≤ k + 1 := fun k => by
      induction k with
      | zero => intro u hu; rw [Lib.nDigits_small (by simpa using hu)]; exact Nat.le_refl _
      | succ k ih =>
        intro u hu
        by_cases h10 : u < 10
        · rw [Lib.nDigits_small h10]; omega
        · rw [Lib.nDigits_big h10]
          have := ih (u / 10) (by rw [Nat.pow_succ] at hu; omega)
          omega
    have := key 12 u (by omega)
    omega
  · exact h1
theorem numR_dig (u : Nat) (h : u ≤ 1099511627776) : numR (Lib.decDigits u) = ((u : Int), true) := by
  have hd := decDigits_all u
  have hl := decDigits_len u h
  have hv := dval_decDigits u
  obtain ⟨c, r, e⟩ : ∃ c r, Lib.decDigits u = c :: r := by
    rcases Nat.eq_zero_or_pos u with h0 | h0
    · subst h0; exact ⟨48, [], by rw [Lib.decDigits]; rfl⟩
    · obtain ⟨c, r, e, _⟩ := decDigits_head u h0; exact ⟨c, r, e⟩
  have hz : c.toNat = 48 → Lib.decDigits u = [48] := by
    intro hc
    rcases Nat.eq_zero_or_pos u with h0 | h0
    · subst h0; rw [Lib.decDigits]; rfl
    · obtain ⟨c', r', e', hc'⟩ := decDigits_head u h0
      rw [e] at e'; cases e'; exact absurd hc hc'
  rw [e] at hd hl hv hz ⊢
  have hc : isD c = true := by simp at hd; exact hd.1
  have hc45 : c ≠ 45 := by intro e; subst e; revert hc; decide
  have ht : trimPre (c :: r) [45] = c :: r := by
    unfold trimPre hasPre
    rw [if_neg]
    simp [List.isPrefixOf, Ne.symm hc45]
  have hb : numB (c :: r) (c :: r) = true := by
    rw [numB_short c r _ (by simp at hl; omega), hd, Bool.true_and]
    by_cases h48 : c.toNat = 48
    · rw [hz h48]; simp
    · have : ((c.toNat : Int) == 48) = false := by simp; omega
      rw [this]; rfl
  rw [numR_t _ _ ht, if_pos hb, if_neg (Nat.lt_irrefl _), hv]
theorem numR_neg (u : Nat) (h0 : 0 < u) (h : u ≤ 1099511627776) : numR (45 :: Lib.decDigits u) = (-(u : Int), true) := by
  have hd := decDigits_all u
  have hl := decDigits_len u h
  have hv := dval_decDigits u
  obtain ⟨c, r, e, hc⟩ := decDigits_head u h0
  rw [e] at hd hl hv ⊢
  have ht : trimPre (45 :: c :: r) [45] = c :: r := by simp [trimPre, hasPre, List.isPrefixOf]
  have hb : numB (c :: r) (45 :: c :: r) = true := by
    have : ((c.toNat : Int) == 48) = false := by simp; omega
    rw [numB_short c r _ (by simp at hl; omega), hd, this]; rfl
  rw [numR_t _ _ ht, if_pos hb, if_pos (by simp), hv]
theorem itoa_cases (n : Int) : (∃ u : Nat, n = u ∧ Lib.itoa n = Lib.decDigits u) ∨ (∃ u : Nat, 0 < u ∧ n = -(u : Int) ∧ Lib.itoa n = 45 :: Lib.decDigits u) := by
  unfold Lib.itoa
  by_cases h : n < 0
  · right; refine ⟨n.natAbs, by omega, by omega, by rw [if_pos h]⟩
  · left; refine ⟨n.toNat, by omega, by rw [if_neg h]⟩
theorem numR_itoa (n : Int) (h1 : -1099511627776 ≤ n) (h2 : n ≤ 1099511627776) : numR (Lib.itoa n) = (n, true) := by
  rcases itoa_cases n with ⟨u, rfl, e⟩ | ⟨u, h0, rfl, e⟩
  · rw [e, numR_dig u (by omega)]
  · rw [e, numR_neg u h0 (by omega)]
/-- A text of an integer: digits, perhaps behind a sign. -/
theorem itoa_chars (n : Int) : ∀ c ∈ Lib.itoa n, c = 45 ∨ isD c = true := by
  intro c hc
  rcases itoa_cases n with ⟨u, rfl, e⟩ | ⟨u, h0, rfl, e⟩
  · rw [e] at hc; exact .inr (List.all_eq_true.1 (decDigits_all u) c hc)
  · rw [e] at hc
    rcases List.mem_cons.1 hc with h | h
    · exact .inl h
    · exact .inr (List.all_eq_true.1 (decDigits_all u) c h)
theorem itoa_ne (n : Int) (f : UInt8) (h1 : f ≠ 45) (h2 : isD f = false) : f ∉ Lib.itoa n := fun hm => by
  rcases itoa_chars n f hm with h | h
  · exact h1 h
  · rw [h] at h2; cases h2
theorem idx_none (f : UInt8) (q : List UInt8) : ∀ s : List UInt8, f ∉ s → Lib.index s (f :: q) = -1
  | [], _ => by rw [Lib.index]; rfl
  | b :: l, h => by
    have hb : f ≠ b := fun e => h (by simp [e])
    have hl : f ∉ l := fun hm => h (by simp [hm])
    rw [Lib.index, if_neg (by simp [List.isPrefixOf, hb]), idx_none f q l hl]
    rfl
theorem idx_at (f : UInt8) (q : List UInt8) (b : List UInt8) : ∀ a : List UInt8, f ∉ a → Lib.index (a ++ (f :: q ++ b)) (f :: q) = a.length
  | [], _ => by
    rw [List.nil_append, List.cons_append, Lib.index, if_pos]
    · rfl
    · rw [List.isPrefixOf_iff_prefix]; exact ⟨b, rfl⟩
  | c :: a, h => by
    have hb : f ≠ c := fun e => h (by simp [e])
    have hl : f ∉ a := fun hm => h (by simp [hm])
    rw [List.cons_append, Lib.index, if_neg (by simp [List.isPrefixOf, hb]), idx_at f q b a hl, if_neg (by rw [beq_iff_eq]; omega), List.length_cons]
    rfl
theorem span_text (x : Iv) (h : ivIn x) : spanR (ivText x) = (x, true) := by
  have h1 := (inB_iff _).1 h.1
  have h2 := (inB_iff _).1 h.2
  have n1 := numR_itoa x.lo h1.1 h1.2
  have n2 := numR_itoa x.hi h2.1 h2.2
  have d1 := itoa_ne x.lo 46 (by decide) (by decide)
  unfold ivText
  by_cases he : x.hi = x.lo
  · rw [if_neg (by simp [he]), spanR, if_pos (by rw [idx_none 46 [46] _ d1]; decide), n1]
    cases x; simp at he; subst he; rfl
  · rw [if_pos (by simpa using he)]
    have hi := idx_at 46 [46] (Lib.itoa x.hi) (Lib.itoa x.lo) d1
    have e1 : Lib.itoa x.lo ++ ([46, 46] ++ Lib.itoa x.hi) = Lib.itoa x.lo ++ (46 :: [46] ++ Lib.itoa x.hi) := rfl
    rw [e1, spanR, hi, if_neg (by omega)]
    have e2 : ((Lib.itoa x.lo).length : Int).toNat = (Lib.itoa x.lo).length := by omega
    have e3 : (Lib.itoa x.lo ++ (46 :: [46] ++ Lib.itoa x.hi)).take (Lib.itoa x.lo).length = Lib.itoa x.lo := by rw [List.take_left']; rfl
    have e4 : (Lib.itoa x.lo ++ (46 :: [46] ++ Lib.itoa x.hi)).drop ((Lib.itoa x.lo).length + 2) = Lib.itoa x.hi := by rw [List.drop_append]; simp
    rw [e2, e3, e4, n1, n2]
    have e5 : (x.lo != x.hi) = true := by simpa using fun e => he e.symm
    simp [e5]
theorem text_no (x : Iv) (f : UInt8) (h1 : f ≠ 45) (h2 : isD f = false) (h3 : f ≠ 46) : f ∉ ivText x := by
  unfold ivText
  split
  · intro hm
    rcases List.mem_append.1 hm with h | h
    · exact itoa_ne _ _ h1 h2 h
    · rcases List.mem_append.1 h with h | h
      · simp at h; exact h3 h
      · exact itoa_ne _ _ h1 h2 h
  · exact itoa_ne _ _ h1 h2
theorem spans_text : ∀ l : List Iv, (∀ x ∈ l, ivIn x) → spansR (txtR l) = some l
  | [], _ => rfl
  | x :: l, h => by
    have e : txtR (x :: l) = ivText x :: txtR l := rfl
    rw [e, spansR, span_text x (h x (by simp)), if_pos rfl, spans_text l fun y hy => h y (by simp [hy])]
    rfl
theorem words_join : ∀ (t : List (List UInt8)) (x : List UInt8), (∀ w ∈ x :: t, (32 : UInt8) ∉ w) → wordsR (Lib.join (x :: t) [32]) = x :: t
  | [], x, h => by rw [Lib.join_one, words_miss _ (idx_none 32 [] x (h x (by simp)))]
  | y :: t, x, h => by
    have e : Lib.join (x :: y :: t) [32] = x ++ (32 :: [] ++ Lib.join (y :: t) [32]) := by
      rw [Lib.join_cons, Lib.join_cons]
      simp [Lib.joinTail]
    have hi := idx_at 32 [] (Lib.join (y :: t) [32]) x (h x (by simp))
    rw [e, words_hit _ x.length hi]
    have e1 : (x ++ (32 :: [] ++ Lib.join (y :: t) [32])).take x.length = x := by rw [List.take_left']; rfl
    have e2 : (x ++ (32 :: [] ++ Lib.join (y :: t) [32])).drop (x.length + 1) = Lib.join (y :: t) [32] := by rw [List.drop_append]; simp
    rw [e1, e2, words_join t y fun w hw => h w (by simp at hw ⊢; exact .inr hw)]
/-- The text of a set reads as the set. -/
theorem parse_text {l : List Iv} (hc : CanonL l) (hl : l.length ≤ 12) : (fmtT l).length ≤ 65536 ∧ ivParseR (fmtT l) = (l, 0) := by
  cases l with
  | nil => exact ⟨by decide, by kernel_rfl⟩
  | cons x t =>
    have hf : fmtT (x :: t) = Lib.join (ivText x :: txtR t) [32] := by rw [fmtT, if_neg (by simp)]; rfl
    have hin : ∀ y ∈ x :: t, ivIn y := canon_in hc
    have hlen : (fmtT (x :: t)).length ≤ 65536 := by
      rw [hf]
      have := join_len (ivText x) (txtR t) [32] (by simp) (ivText_len x (hin x (by simp))) (fun z hz => by
        obtain ⟨y, hy, rfl⟩ := List.mem_map.1 hz
        exact ivText_len y (hin y (by simp [hy]))) (txtR t).length
      rw [List.take_length, txtR_len] at this
      simp at hl
      omega
    refine ⟨hlen, ?_⟩
    rw [ivParseR, if_neg (by omega), if_neg, parseL, hf, words_join]
    · have e : ivText x :: txtR t = txtR (x :: t) := rfl
      rw [e, spans_text _ hin]
      simp only []
      rw [if_pos ((ck_iff _).2 hc)]
    · intro w hw
      rcases List.mem_cons.1 hw with rfl | hw
      · exact text_no x 32 (by decide) (by decide) (by decide)
      · obtain ⟨y, hy, rfl⟩ := List.mem_map.1 hw
        exact text_no y 32 (by decide) (by decide) (by decide)
    · intro e
      have hm : (110 : UInt8) ∈ Lib.join (ivText x :: txtR t) [32] := by rw [← hf, e]; simp [noneT]
      rw [Lib.join_cons, Lib.joinTail] at hm
      rcases List.mem_append.1 hm with h | h
      · exact text_no x 110 (by decide) (by decide) (by decide) h
      · obtain ⟨w, hw, h⟩ := List.mem_flatten.1 h
        obtain ⟨v, hv, rfl⟩ := List.mem_map.1 hw
        obtain ⟨y, hy, rfl⟩ := List.mem_map.1 hv
        rcases List.mem_append.1 h with h | h
        · simp at h
        · exact text_no y 110 (by decide) (by decide) (by decide) h
/-- Shifted: canonical, and the numbers that come from the set's. -/
theorem shift_all {l : List Iv} (hc : CanonL l) (d n : Int) (h1 : -1099511627776 ≤ n) (h2 : n ≤ 1099511627776) : (shiftR l d).2 = 0 ∧ CanonL (shiftR l d).1 ∧ hasR (shiftR l d).1 n = hasR l (n - d) := by
  rw [shiftR, if_pos ((ck_iff l).2 hc)]
  by_cases hd : d < -2199023255552 ∨ 2199023255552 < d
  · rw [if_pos hd]
    refine ⟨rfl, ⟨by simp, by simp, by simp⟩, ?_⟩
    have : hasR l (n - d) = false := by
      rw [Bool.eq_false_iff]
      intro h
      have := canon_M hc ((has_iff ..).1 h)
      omega
    rw [this]; rfl
  · rw [if_neg hd]
    exact ⟨rfl, shift_canon hc d, shift_has hc d n h1 h2⟩
end Go.Abs
