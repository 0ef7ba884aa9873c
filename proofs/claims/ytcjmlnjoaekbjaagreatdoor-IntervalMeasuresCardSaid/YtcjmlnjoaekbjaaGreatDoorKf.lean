/- Part Kf of the proof: an abstract machine over the model, and what the functions of the program hand back in its terms. No condition. -/
import Derived.Test.YtcjmlnjoaekbjaaGreatDoorKd
set_option linter.all false
set_option maxRecDepth 100000
namespace Go.Abs
open Go Go.Proofs
set_option linter.unusedSimpArgs false
attribute [local irreducible] ckR hasR
set_option maxHeartbeats 1000000 in
theorem pc_rHas (l : List Iv) (n : Int) (hl : l.length ≤ 1000) : PC Tryz.prog 48 [LIv l, .i n] (fun r => r = .bool (hasR l n)) := by
  refine PC_body tOk Tryz.func48 rfl Tryz.results48 rfl (by simp [Tryz.ntmps48]) ?_
  rw [Tryz.ntmps48]
  simp only [argSlots]
  obtain ⟨R, hR⟩ : ∃ R, hasR l n = R := ⟨_, rfl⟩
  rw [hR]
  repeat (first
    | (refine AWP_seq (AWP_regS tOk rfl ?_); simp)
    | (refine AWP_regS tOk rfl ?_; simp)
    | (refine AWP_skip ?_; simp)
    | (refine AWP_exit ?_; simp)
    | (refine AWP_ret ?_; simp)
    | refine AWP_block ?_
    | refine AWP_seq ?_)
  refine AWP_countI l.length (fun j => hasR (l.drop j) n = R) (fun j => [(0, LIv l), (1, .i n), (5, .i j)]) (fun _ => []) rfl (by simp) (by simp) (by simp) (by simp) (by simpa using hR) ?_
  intro j hj hI ih
  repeat (first
    | (refine AWP_seq (AWP_regS tOk rfl ?_); simp)
    | (refine AWP_regS tOk rfl ?_; simp)
    | (refine AWP_skip ?_; simp)
    | (refine AWP_exit ?_; simp)
    | (refine AWP_ret ?_; simp)
    | refine AWP_block ?_
    | refine AWP_seq ?_)
  refine AWP_cond2 rfl (fun hlt => ?_) (fun hge => ?_)
  · have hlt' : j < l.length := by simpa using hlt
    have hw : IntKind.i64.wrap ((j : Int) + 1) = j + 1 := wrap_i64 _ (by omega) (by omega)
    rw [drop_get hlt', has_cons] at hI
    by_cases h1 : l[j].lo ≤ n
    · by_cases h2 : n ≤ l[j].hi
      · rw [(inI_iff ..).2 ⟨h1, h2⟩, Bool.true_or] at hI
        repeat (first
          | (refine AWP_seq (AWP_regS tOk rfl ?_); simp [hlt', h1, h2])
          | (refine AWP_regS tOk rfl ?_; simp [hlt', h1, h2])
          | (refine AWP_skip ?_; simp [hlt', h1, h2])
          | (refine AWP_exit ?_; simp [hlt', h1, h2])
          | (refine AWP_ret ?_; simp [hlt', h1, h2])
          | refine AWP_block ?_
          | refine AWP_seq ?_)
        refine AWP_cond rfl ?_
        repeat (first
          | (refine AWP_seq (AWP_regS tOk rfl ?_); simp)
          | (refine AWP_regS tOk rfl ?_; simp)
          | (refine AWP_skip ?_; simp)
          | (refine AWP_exit ?_; simp)
          | (refine AWP_ret ?_; simp)
          | refine AWP_block ?_
          | refine AWP_seq ?_)
        exact hI.symm
      · have h3 : inI l[j].lo l[j].hi n = false := by rw [Bool.eq_false_iff, Ne, inI_iff]; omega
        rw [h3, Bool.false_or] at hI
        repeat (first
          | (refine AWP_seq (AWP_regS tOk rfl ?_); simp [hlt', h1, h2])
          | (refine AWP_regS tOk rfl ?_; simp [hlt', h1, h2])
          | (refine AWP_skip ?_; simp [hlt', h1, h2])
          | (refine AWP_exit ?_; simp [hlt', h1, h2])
          | (refine AWP_ret ?_; simp [hlt', h1, h2])
          | refine AWP_block ?_
          | refine AWP_seq ?_)
        refine AWP_cond rfl ?_
        repeat (first
          | (refine AWP_seq (AWP_regS tOk rfl ?_); simp [hw])
          | (refine AWP_regS tOk rfl ?_; simp [hw])
          | (refine AWP_skip ?_; simp [hw])
          | (refine AWP_exit ?_; simp [hw])
          | (refine AWP_ret ?_; simp [hw])
          | refine AWP_block ?_
          | refine AWP_seq ?_)
        exact ALoop_end _ (ih hlt' hI) rfl (by simp) (by simp) (by simp) (by simp)
    · have h3 : inI l[j].lo l[j].hi n = false := by rw [Bool.eq_false_iff, Ne, inI_iff]; omega
      rw [h3, Bool.false_or] at hI
      repeat (first
        | (refine AWP_seq (AWP_regS tOk rfl ?_); simp [hlt', h1])
        | (refine AWP_regS tOk rfl ?_; simp [hlt', h1])
        | (refine AWP_skip ?_; simp [hlt', h1])
        | (refine AWP_exit ?_; simp [hlt', h1])
        | (refine AWP_ret ?_; simp [hlt', h1])
        | refine AWP_block ?_
        | refine AWP_seq ?_)
      refine AWP_cond rfl ?_
      repeat (first
        | (refine AWP_seq (AWP_regS tOk rfl ?_); simp [hw])
        | (refine AWP_regS tOk rfl ?_; simp [hw])
        | (refine AWP_skip ?_; simp [hw])
        | (refine AWP_exit ?_; simp [hw])
        | (refine AWP_ret ?_; simp [hw])
        | refine AWP_block ?_
        | refine AWP_seq ?_)
      exact ALoop_end _ (ih hlt' hI) rfl (by simp) (by simp) (by simp) (by simp)
  · have hge' : j = l.length := by simp at hge; omega
    subst hge'
    rw [List.drop_length] at hI
    repeat (first
      | (refine AWP_seq (AWP_regS tOk rfl ?_); simp)
      | (refine AWP_regS tOk rfl ?_; simp)
      | (refine AWP_skip ?_; simp)
      | (refine AWP_exit ?_; simp)
      | (refine AWP_ret ?_; simp)
      | refine AWP_block ?_
      | refine AWP_seq ?_)
    rw [← hI]; unfold hasR; rfl
theorem pc_rContains (l : List Iv) (n : Int) : PC Tryz.prog 19 [LIv l, .i n] (fun r => r = .tup [.bool (conR l n).1, .i (conR l n).2]) := by
  refine PC_body tOk Tryz.func19 rfl Tryz.results19 rfl (by simp [Tryz.ntmps19]) ?_
  rw [Tryz.ntmps19]
  simp only [argSlots]
  repeat (first
    | (refine AWP_seq (AWP_regS tOk rfl ?_); simp)
    | (refine AWP_regS tOk rfl ?_; simp)
    | (refine AWP_skip ?_; simp)
    | (refine AWP_exit ?_; simp)
    | (refine AWP_ret ?_; simp)
    | refine AWP_block ?_
    | refine AWP_seq ?_)
  refine AStep_PC rfl rfl (by simp) (pc_rCheck l) rfl ?_
  rintro _ rfl
  simp
  repeat (first
    | (refine AWP_seq (AWP_regS tOk rfl ?_); simp)
    | (refine AWP_regS tOk rfl ?_; simp)
    | (refine AWP_skip ?_; simp)
    | (refine AWP_exit ?_; simp)
    | (refine AWP_ret ?_; simp)
    | refine AWP_block ?_
    | refine AWP_seq ?_)
  refine AWP_cond2 rfl (fun h => ?_) (fun h => ?_)
  · repeat (first
      | (refine AWP_seq (AWP_regS tOk rfl ?_); simp)
      | (refine AWP_regS tOk rfl ?_; simp)
      | (refine AWP_skip ?_; simp)
      | (refine AWP_exit ?_; simp)
      | (refine AWP_ret ?_; simp)
      | refine AWP_block ?_
      | refine AWP_seq ?_)
    rw [conR, if_neg (by simpa using h)]; exact ⟨rfl, rfl⟩
  have h0 : ckR l = 0 := by simpa using h
  have hlen := ((ck_iff l).1 h0).len
  rw [conR, if_pos h0]
  repeat (first
    | (refine AWP_seq (AWP_regS tOk rfl ?_); simp)
    | (refine AWP_regS tOk rfl ?_; simp)
    | (refine AWP_skip ?_; simp)
    | (refine AWP_exit ?_; simp)
    | (refine AWP_ret ?_; simp)
    | refine AWP_block ?_
    | refine AWP_seq ?_)
  refine AStep_PC rfl rfl (by simp) (pc_rHas l n (by omega)) rfl ?_
  rintro _ rfl
  simp
  repeat (first
    | (refine AWP_seq (AWP_regS tOk rfl ?_); simp)
    | (refine AWP_regS tOk rfl ?_; simp)
    | (refine AWP_skip ?_; simp)
    | (refine AWP_exit ?_; simp)
    | (refine AWP_ret ?_; simp)
    | refine AWP_block ?_
    | refine AWP_seq ?_)
theorem pc_rTwo (a b : List Iv) : PC Tryz.prog 37 [LIv a, LIv b] (fun r => r = .i (bothR a b)) := by
  refine PC_body tOk Tryz.func37 rfl Tryz.results37 rfl (by simp [Tryz.ntmps37]) ?_
  rw [Tryz.ntmps37]
  simp only [argSlots]
  repeat (first
    | (refine AWP_seq (AWP_regS tOk rfl ?_); simp)
    | (refine AWP_regS tOk rfl ?_; simp)
    | (refine AWP_skip ?_; simp)
    | (refine AWP_exit ?_; simp)
    | (refine AWP_ret ?_; simp)
    | refine AWP_block ?_
    | refine AWP_seq ?_)
  refine AStep_PC rfl rfl (by simp) (pc_rCheck a) rfl ?_
  rintro _ rfl
  simp
  repeat (first
    | (refine AWP_seq (AWP_regS tOk rfl ?_); simp)
    | (refine AWP_regS tOk rfl ?_; simp)
    | (refine AWP_skip ?_; simp)
    | (refine AWP_exit ?_; simp)
    | (refine AWP_ret ?_; simp)
    | refine AWP_block ?_
    | refine AWP_seq ?_)
  refine AWP_cond2 rfl (fun h => ?_) (fun h => ?_)
  · repeat (first
      | (refine AWP_seq (AWP_regS tOk rfl ?_); simp)
      | (refine AWP_regS tOk rfl ?_; simp)
      | (refine AWP_skip ?_; simp)
      | (refine AWP_exit ?_; simp)
      | (refine AWP_ret ?_; simp)
      | refine AWP_block ?_
      | refine AWP_seq ?_)
    rw [bothR, if_neg (by simpa using h)]
  repeat (first
    | (refine AWP_seq (AWP_regS tOk rfl ?_); simp)
    | (refine AWP_regS tOk rfl ?_; simp)
    | (refine AWP_skip ?_; simp)
    | (refine AWP_exit ?_; simp)
    | (refine AWP_ret ?_; simp)
    | refine AWP_block ?_
    | refine AWP_seq ?_)
  refine AStep_PC rfl rfl (by simp) (pc_rCheck b) rfl ?_
  rintro _ rfl
  simp
  repeat (first
    | (refine AWP_seq (AWP_regS tOk rfl ?_); simp)
    | (refine AWP_regS tOk rfl ?_; simp)
    | (refine AWP_skip ?_; simp)
    | (refine AWP_exit ?_; simp)
    | (refine AWP_ret ?_; simp)
    | refine AWP_block ?_
    | refine AWP_seq ?_)
  rw [bothR, if_pos (by simpa using h)]
theorem pc_rLimited (l : List Iv) : PC Tryz.prog 38 [LIv l] (fun r => r = limR l) := by
  refine PC_body tOk Tryz.func38 rfl Tryz.results38 rfl (by simp [Tryz.ntmps38]) ?_
  rw [Tryz.ntmps38]
  simp only [argSlots]
  repeat (first
    | (refine AWP_seq (AWP_regS tOk rfl ?_); simp)
    | (refine AWP_regS tOk rfl ?_; simp)
    | (refine AWP_skip ?_; simp)
    | (refine AWP_exit ?_; simp)
    | (refine AWP_ret ?_; simp)
    | refine AWP_block ?_
    | refine AWP_seq ?_)
  refine AWP_cond2 rfl (fun h => ?_) (fun h => ?_)
  · repeat (first
      | (refine AWP_seq (AWP_regS tOk rfl ?_); simp)
      | (refine AWP_regS tOk rfl ?_; simp)
      | (refine AWP_skip ?_; simp)
      | (refine AWP_exit ?_; simp)
      | (refine AWP_ret ?_; simp)
      | refine AWP_block ?_
      | refine AWP_seq ?_)
    rw [limR, if_neg (by simp at h; omega)]
  · repeat (first
      | (refine AWP_seq (AWP_regS tOk rfl ?_); simp)
      | (refine AWP_regS tOk rfl ?_; simp)
      | (refine AWP_skip ?_; simp)
      | (refine AWP_exit ?_; simp)
      | (refine AWP_ret ?_; simp)
      | refine AWP_block ?_
      | refine AWP_seq ?_)
    rw [limR, if_pos (by simp at h; omega)]
set_option maxHeartbeats 1000000 in
theorem pc_rCount (l : List Iv) (hc : CanonL l) : PC Tryz.prog 49 [LIv l] (fun r => r = .i (sizeS l)) := by
  refine PC_body tOk Tryz.func49 rfl Tryz.results49 rfl (by simp [Tryz.ntmps49]) ?_
  rw [Tryz.ntmps49]
  simp only [argSlots]
  have hlen := hc.len
  repeat (first
    | (refine AWP_seq (AWP_regS tOk rfl ?_); simp)
    | (refine AWP_regS tOk rfl ?_; simp)
    | (refine AWP_skip ?_; simp)
    | (refine AWP_exit ?_; simp)
    | (refine AWP_ret ?_; simp)
    | refine AWP_block ?_
    | refine AWP_seq ?_)
  refine AWP_countI l.length (fun j => 0 ≤ sizeS (l.take j) ∧ sizeS (l.take j) ≤ (j : Int) * 4398046511104) (fun j => [(0, LIv l), (3, .i (sizeS (l.take j))), (4, .i j)]) (fun _ => []) rfl (by simp) (by simp [sizeS]) (by simp) (by simp) (by simp [sizeS]) ?_
  intro j hj hI ih
  repeat (first
    | (refine AWP_seq (AWP_regS tOk rfl ?_); simp)
    | (refine AWP_regS tOk rfl ?_; simp)
    | (refine AWP_skip ?_; simp)
    | (refine AWP_exit ?_; simp)
    | (refine AWP_ret ?_; simp)
    | refine AWP_block ?_
    | refine AWP_seq ?_)
  refine AWP_cond2 rfl (fun hlt => ?_) (fun hge => ?_)
  · have hlt' : j < l.length := by simpa using hlt
    have hv := hc.iv hlt'
    have hw : IntKind.i64.wrap ((j : Int) + 1) = j + 1 := wrap_i64 _ (by omega) (by omega)
    have hw1 : IntKind.i64.wrap (l[j].hi - l[j].lo) = l[j].hi - l[j].lo := wrap_i64 _ (by omega) (by omega)
    have hw2 : IntKind.i64.wrap (l[j].hi - l[j].lo + 1) = l[j].hi - l[j].lo + 1 := wrap_i64 _ (by omega) (by omega)
    have hs : sizeS (l.take (j + 1)) = sizeS (l.take j) + (l[j].hi - l[j].lo + 1) := by rw [List.take_succ_eq_append_getElem hlt', sizeS_snoc]
    have hw3 : IntKind.i64.wrap (sizeS (l.take j) + (l[j].hi - l[j].lo + 1)) = sizeS (l.take j) + (l[j].hi - l[j].lo + 1) := wrap_i64 _ (by omega) (by omega)
    repeat (first
      | (refine AWP_seq (AWP_regS tOk rfl ?_); simp [hlt', hw, hw1, hw2, hw3])
      | (refine AWP_regS tOk rfl ?_; simp [hlt', hw, hw1, hw2, hw3])
      | (refine AWP_skip ?_; simp [hlt', hw, hw1, hw2, hw3])
      | (refine AWP_exit ?_; simp [hlt', hw, hw1, hw2, hw3])
      | (refine AWP_ret ?_; simp [hlt', hw, hw1, hw2, hw3])
      | refine AWP_block ?_
      | refine AWP_seq ?_)
    refine AWP_drawT tOk mixed [] (.val 0 (.val 1 (.val 2 (.val 3 (.val 4 (.val 5 (.val 6 (.val 7 (.val 8 (.val 9 (.val 10 (.val 11 (.val 12 (.val 13 (.val 14 (.done)))))))))))))))) rfl (by kernel_rfl) ?_
    simp [hlt', hw, hw1, hw2, hw3]
    repeat (first
      | (refine AWP_seq (AWP_regS tOk rfl ?_); simp [hw])
      | (refine AWP_regS tOk rfl ?_; simp [hw])
      | (refine AWP_skip ?_; simp [hw])
      | (refine AWP_exit ?_; simp [hw])
      | (refine AWP_ret ?_; simp [hw])
      | refine AWP_block ?_
      | refine AWP_seq ?_)
    refine ALoop_end _ (ih hlt' (by rw [hs]; omega)) rfl (by simp) ?_ (by simp) (by simp)
    simp [hs]
  · have hge' : j = l.length := by simp at hge; omega
    subst hge'
    repeat (first
      | (refine AWP_seq (AWP_regS tOk rfl ?_); simp)
      | (refine AWP_regS tOk rfl ?_; simp)
      | (refine AWP_skip ?_; simp)
      | (refine AWP_exit ?_; simp)
      | (refine AWP_ret ?_; simp)
      | refine AWP_block ?_
      | refine AWP_seq ?_)
theorem pc_rSize (l : List Iv) : PC Tryz.prog 21 [LIv l] (fun r => r = .tup [.i (if ckR l = 0 then sizeS l else 0), .i (ckR l)]) := by
  refine PC_body tOk Tryz.func21 rfl Tryz.results21 rfl (by simp [Tryz.ntmps21]) ?_
  rw [Tryz.ntmps21]
  simp only [argSlots]
  repeat (first
    | (refine AWP_seq (AWP_regS tOk rfl ?_); simp)
    | (refine AWP_regS tOk rfl ?_; simp)
    | (refine AWP_skip ?_; simp)
    | (refine AWP_exit ?_; simp)
    | (refine AWP_ret ?_; simp)
    | refine AWP_block ?_
    | refine AWP_seq ?_)
  refine AStep_PC rfl rfl (by simp) (pc_rCheck l) rfl ?_
  rintro _ rfl
  simp
  repeat (first
    | (refine AWP_seq (AWP_regS tOk rfl ?_); simp)
    | (refine AWP_regS tOk rfl ?_; simp)
    | (refine AWP_skip ?_; simp)
    | (refine AWP_exit ?_; simp)
    | (refine AWP_ret ?_; simp)
    | refine AWP_block ?_
    | refine AWP_seq ?_)
  refine AWP_cond2 rfl (fun h => ?_) (fun h => ?_)
  · repeat (first
      | (refine AWP_seq (AWP_regS tOk rfl ?_); simp)
      | (refine AWP_regS tOk rfl ?_; simp)
      | (refine AWP_skip ?_; simp)
      | (refine AWP_exit ?_; simp)
      | (refine AWP_ret ?_; simp)
      | refine AWP_block ?_
      | refine AWP_seq ?_)
    have : ckR l ≠ 0 := by simpa using h
    intro h0; exact absurd h0 this
  have h0 : ckR l = 0 := by simpa using h
  rw [if_pos h0, h0]
  repeat (first
    | (refine AWP_seq (AWP_regS tOk rfl ?_); simp)
    | (refine AWP_regS tOk rfl ?_; simp)
    | (refine AWP_skip ?_; simp)
    | (refine AWP_exit ?_; simp)
    | (refine AWP_ret ?_; simp)
    | refine AWP_block ?_
    | refine AWP_seq ?_)
  refine AStep_PC rfl rfl (by simp) (pc_rCount l ((ck_iff l).1 h0)) rfl ?_
  rintro _ rfl
  simp
  repeat (first
    | (refine AWP_seq (AWP_regS tOk rfl ?_); simp)
    | (refine AWP_regS tOk rfl ?_; simp)
    | (refine AWP_skip ?_; simp)
    | (refine AWP_exit ?_; simp)
    | (refine AWP_ret ?_; simp)
    | refine AWP_block ?_
    | refine AWP_seq ?_)
end Go.Abs
set_option maxRecDepth 100000
namespace Go.Abs
open Go Go.Proofs
set_option linter.unusedSimpArgs false
attribute [local irreducible] ckR hasR
set_option maxHeartbeats 1000000 in
theorem pc_rAt (l : List Iv) (i : Int) (hi1 : i ≤ 9223372036854775807) : PC Tryz.prog 23 [LIv l, .i i] (fun r => r = .tup [.i (atR l i).1, .i (atR l i).2]) := by
  refine PC_body tOk Tryz.func23 rfl Tryz.results23 rfl (by simp [Tryz.ntmps23]) ?_
  rw [Tryz.ntmps23]
  simp only [argSlots]
  repeat (first
    | (refine AWP_seq (AWP_regS tOk rfl ?_); simp)
    | (refine AWP_regS tOk rfl ?_; simp)
    | (refine AWP_skip ?_; simp)
    | (refine AWP_exit ?_; simp)
    | (refine AWP_ret ?_; simp)
    | refine AWP_block ?_
    | refine AWP_seq ?_)
  refine AStep_PC rfl rfl (by simp) (pc_rCheck l) rfl ?_
  rintro _ rfl
  simp
  repeat (first
    | (refine AWP_seq (AWP_regS tOk rfl ?_); simp)
    | (refine AWP_regS tOk rfl ?_; simp)
    | (refine AWP_skip ?_; simp)
    | (refine AWP_exit ?_; simp)
    | (refine AWP_ret ?_; simp)
    | refine AWP_block ?_
    | refine AWP_seq ?_)
  refine AWP_cond2 rfl (fun h => ?_) (fun h => ?_)
  · repeat (first
      | (refine AWP_seq (AWP_regS tOk rfl ?_); simp)
      | (refine AWP_regS tOk rfl ?_; simp)
      | (refine AWP_skip ?_; simp)
      | (refine AWP_exit ?_; simp)
      | (refine AWP_ret ?_; simp)
      | refine AWP_block ?_
      | refine AWP_seq ?_)
    rw [atR, if_neg (by simpa using h)]; exact ⟨rfl, rfl⟩
  have h0 : ckR l = 0 := by simpa using h
  have hc := (ck_iff l).1 h0
  have hlen := hc.len
  by_cases h2 : i < 0
  · repeat (first
      | (refine AWP_seq (AWP_regS tOk rfl ?_); simp [h2])
      | (refine AWP_regS tOk rfl ?_; simp [h2])
      | (refine AWP_skip ?_; simp [h2])
      | (refine AWP_exit ?_; simp [h2])
      | (refine AWP_ret ?_; simp [h2])
      | refine AWP_block ?_
      | refine AWP_seq ?_)
    refine AStep_skip rfl rfl ?_
    simp
    repeat (first
      | (refine AWP_seq (AWP_regS tOk rfl ?_); simp)
      | (refine AWP_regS tOk rfl ?_; simp)
      | (refine AWP_skip ?_; simp)
      | (refine AWP_exit ?_; simp)
      | (refine AWP_ret ?_; simp)
      | refine AWP_block ?_
      | refine AWP_seq ?_)
    refine AWP_cond rfl ?_
    repeat (first
      | (refine AWP_seq (AWP_regS tOk rfl ?_); simp)
      | (refine AWP_regS tOk rfl ?_; simp)
      | (refine AWP_skip ?_; simp)
      | (refine AWP_exit ?_; simp)
      | (refine AWP_ret ?_; simp)
      | refine AWP_block ?_
      | refine AWP_seq ?_)
    rw [atR, if_pos h0, if_pos h2]; exact ⟨rfl, rfl⟩
  obtain ⟨R, hR⟩ : ∃ R, atR l i = R := ⟨_, rfl⟩
  have hA : atFrom l i = R := by rw [← hR, atR, if_pos h0, if_neg h2]
  rw [hR]
  repeat (first
    | (refine AWP_seq (AWP_regS tOk rfl ?_); simp [h2])
    | (refine AWP_regS tOk rfl ?_; simp [h2])
    | (refine AWP_skip ?_; simp [h2])
    | (refine AWP_exit ?_; simp [h2])
    | (refine AWP_ret ?_; simp [h2])
    | refine AWP_block ?_
    | refine AWP_seq ?_)
  refine AStep_PC rfl rfl (by simp) (pc_rCount l hc) rfl ?_
  rintro _ rfl
  simp
  repeat (first
    | (refine AWP_seq (AWP_regS tOk rfl ?_); simp)
    | (refine AWP_regS tOk rfl ?_; simp)
    | (refine AWP_skip ?_; simp)
    | (refine AWP_exit ?_; simp)
    | (refine AWP_ret ?_; simp)
    | refine AWP_block ?_
    | refine AWP_seq ?_)
  refine AWP_cond2 rfl (fun h3 => ?_) (fun h3 => ?_)
  · rw [at_out l i (canon_sep hc) (by simpa using h3)] at hA
    repeat (first
      | (refine AWP_seq (AWP_regS tOk rfl ?_); simp)
      | (refine AWP_regS tOk rfl ?_; simp)
      | (refine AWP_skip ?_; simp)
      | (refine AWP_exit ?_; simp)
      | (refine AWP_ret ?_; simp)
      | refine AWP_block ?_
      | refine AWP_seq ?_)
    rw [← hA]; exact ⟨rfl, rfl⟩
  repeat (first
    | (refine AWP_seq (AWP_regS tOk rfl ?_); simp)
    | (refine AWP_regS tOk rfl ?_; simp)
    | (refine AWP_skip ?_; simp)
    | (refine AWP_exit ?_; simp)
    | (refine AWP_ret ?_; simp)
    | refine AWP_block ?_
    | refine AWP_seq ?_)
  refine AWP_loop (ALoop_keep (sl' := [(0, LIv l), (1, .i i), (7, .i 0)]) ?_ (by simp))
  refine ALoop_wf (F := fun (u : Nat × Int) => ⟨[(0, LIv l), (1, .i u.2), (7, .i u.1)], []⟩) (fun u => u.1 ≤ l.length ∧ 0 ≤ u.2 ∧ u.2 ≤ 9223372036854775807 ∧ atFrom (l.drop u.1) u.2 = R) (fun u => l.length - u.1) ?_ (0, i) ⟨by simp, by simp only; omega, hi1, hA⟩
  rintro ⟨j, v⟩ ⟨hj, hv0, hv1, hI⟩ ih
  simp only at hj hv0 hv1 hI ih ⊢
  repeat (first
    | (refine AWP_seq (AWP_regS tOk rfl ?_); simp)
    | (refine AWP_regS tOk rfl ?_; simp)
    | (refine AWP_skip ?_; simp)
    | (refine AWP_exit ?_; simp)
    | (refine AWP_ret ?_; simp)
    | refine AWP_block ?_
    | refine AWP_seq ?_)
  refine AWP_cond2 rfl (fun hlt => ?_) (fun hge => ?_)
  · have hlt' : j < l.length := by simpa using hlt
    have hv := hc.iv hlt'
    have hw : IntKind.i64.wrap ((j : Int) + 1) = j + 1 := wrap_i64 _ (by omega) (by omega)
    have hw1 : IntKind.i64.wrap (l[j].hi - l[j].lo) = l[j].hi - l[j].lo := wrap_i64 _ (by omega) (by omega)
    have hw2 : IntKind.i64.wrap (l[j].hi - l[j].lo + 1) = l[j].hi - l[j].lo + 1 := wrap_i64 _ (by omega) (by omega)
    rw [drop_get hlt', atFrom] at hI
    repeat (first
      | (refine AWP_seq (AWP_regS tOk rfl ?_); simp [hlt', hw, hw1, hw2])
      | (refine AWP_regS tOk rfl ?_; simp [hlt', hw, hw1, hw2])
      | (refine AWP_skip ?_; simp [hlt', hw, hw1, hw2])
      | (refine AWP_exit ?_; simp [hlt', hw, hw1, hw2])
      | (refine AWP_ret ?_; simp [hlt', hw, hw1, hw2])
      | refine AWP_block ?_
      | refine AWP_seq ?_)
    refine AWP_drawT tOk mixed [] (.val 0 (.val 1 (.val 2 (.val 3 (.val 4 (.val 5 (.val 6 (.val 7 (.val 8 (.val 9 (.val 10 (.val 11 (.val 12 (.done)))))))))))))) rfl (by kernel_rfl) ?_
    simp [hlt', hw, hw1, hw2]
    repeat (first
      | (refine AWP_seq (AWP_regS tOk rfl ?_); simp [hlt', hw, hw1, hw2])
      | (refine AWP_regS tOk rfl ?_; simp [hlt', hw, hw1, hw2])
      | (refine AWP_skip ?_; simp [hlt', hw, hw1, hw2])
      | (refine AWP_exit ?_; simp [hlt', hw, hw1, hw2])
      | (refine AWP_ret ?_; simp [hlt', hw, hw1, hw2])
      | refine AWP_block ?_
      | refine AWP_seq ?_)
    refine AWP_cond2 rfl (fun h3 => ?_) (fun h3 => ?_)
    · have h3' : v < l[j].hi - l[j].lo + 1 := by simpa using h3
      have hw3 : IntKind.i64.wrap (l[j].lo + v) = l[j].lo + v := wrap_i64 _ (by omega) (by omega)
      repeat (first
        | (refine AWP_seq (AWP_regS tOk rfl ?_); simp [hlt', hw3])
        | (refine AWP_regS tOk rfl ?_; simp [hlt', hw3])
        | (refine AWP_skip ?_; simp [hlt', hw3])
        | (refine AWP_exit ?_; simp [hlt', hw3])
        | (refine AWP_ret ?_; simp [hlt', hw3])
        | refine AWP_block ?_
        | refine AWP_seq ?_)
      rw [← hI, if_pos h3']; exact ⟨rfl, rfl⟩
    · have h3' : ¬ v < l[j].hi - l[j].lo + 1 := by simpa using h3
      have hw3 : IntKind.i64.wrap (v - (l[j].hi - l[j].lo + 1)) = v - (l[j].hi - l[j].lo + 1) := wrap_i64 _ (by omega) (by omega)
      rw [if_neg h3'] at hI
      repeat (first
        | (refine AWP_seq (AWP_regS tOk rfl ?_); simp [hw3, hw])
        | (refine AWP_regS tOk rfl ?_; simp [hw3, hw])
        | (refine AWP_skip ?_; simp [hw3, hw])
        | (refine AWP_exit ?_; simp [hw3, hw])
        | (refine AWP_ret ?_; simp [hw3, hw])
        | refine AWP_block ?_
        | refine AWP_seq ?_)
      exact ALoop_end _ (ih (j + 1, v - (l[j].hi - l[j].lo + 1)) ⟨by simp only; omega, by simp only; omega, by simp only; omega, hI⟩ (by simp only; omega)) rfl (by simp) (by simp) (by simp) (by simp)
  · have hge' : j = l.length := by simp at hge; omega
    subst hge'
    rw [List.drop_length, atFrom] at hI
    repeat (first
      | (refine AWP_seq (AWP_regS tOk rfl ?_); simp)
      | (refine AWP_regS tOk rfl ?_; simp)
      | (refine AWP_skip ?_; simp)
      | (refine AWP_exit ?_; simp)
      | (refine AWP_ret ?_; simp)
      | refine AWP_block ?_
      | refine AWP_seq ?_)
    rw [← hI]; exact ⟨rfl, rfl⟩
set_option maxHeartbeats 2000000 in
theorem pc_rShift (l : List Iv) (d : Int) : PC Tryz.prog 25 [LIv l, .i d] (fun r => r = .tup [LIv (shiftR l d).1, .i (shiftR l d).2]) := by
  refine PC_body tOk Tryz.func25 rfl Tryz.results25 rfl (by simp [Tryz.ntmps25]) ?_
  rw [Tryz.ntmps25]
  simp only [argSlots]
  repeat (first
    | (refine AWP_seq (AWP_regS tOk rfl ?_); simp)
    | (refine AWP_regS tOk rfl ?_; simp)
    | (refine AWP_skip ?_; simp)
    | (refine AWP_exit ?_; simp)
    | (refine AWP_ret ?_; simp)
    | refine AWP_block ?_
    | refine AWP_seq ?_)
  refine AStep_PC rfl rfl (by simp) (pc_rCheck l) rfl ?_
  rintro _ rfl
  simp
  repeat (first
    | (refine AWP_seq (AWP_regS tOk rfl ?_); simp)
    | (refine AWP_regS tOk rfl ?_; simp)
    | (refine AWP_skip ?_; simp)
    | (refine AWP_exit ?_; simp)
    | (refine AWP_ret ?_; simp)
    | refine AWP_block ?_
    | refine AWP_seq ?_)
  refine AWP_cond2 rfl (fun h => ?_) (fun h => ?_)
  · repeat (first
      | (refine AWP_seq (AWP_regS tOk rfl ?_); simp)
      | (refine AWP_regS tOk rfl ?_; simp)
      | (refine AWP_skip ?_; simp)
      | (refine AWP_exit ?_; simp)
      | (refine AWP_ret ?_; simp)
      | refine AWP_block ?_
      | refine AWP_seq ?_)
    rw [shiftR, if_neg (by simpa using h)]; exact ⟨rfl, rfl⟩
  have h0 : ckR l = 0 := by simpa using h
  have hc := (ck_iff l).1 h0
  have hlen := hc.len
  repeat (first
    | (refine AWP_seq (AWP_regS tOk rfl ?_); simp)
    | (refine AWP_regS tOk rfl ?_; simp)
    | (refine AWP_skip ?_; simp)
    | (refine AWP_exit ?_; simp)
    | (refine AWP_ret ?_; simp)
    | refine AWP_block ?_
    | refine AWP_seq ?_)
  refine AWP_cond2 rfl (fun h2 => ?_) (fun h2 => ?_)
  · repeat (first
      | (refine AWP_seq (AWP_regS tOk rfl ?_); simp)
      | (refine AWP_regS tOk rfl ?_; simp)
      | (refine AWP_skip ?_; simp)
      | (refine AWP_exit ?_; simp)
      | (refine AWP_ret ?_; simp)
      | refine AWP_block ?_
      | refine AWP_seq ?_)
    rw [shiftR, if_pos h0, if_pos (by simp at h2; omega)]; exact ⟨rfl, rfl⟩
  have h2' : -2199023255552 ≤ d ∧ d ≤ 2199023255552 := by simp at h2; omega
  have hR : shiftR l d = (l.filterMap (clipR d), 0) := by rw [shiftR, if_pos h0, if_neg (by omega)]
  rw [hR]
  repeat (first
    | (refine AWP_seq (AWP_regS tOk rfl ?_); simp)
    | (refine AWP_regS tOk rfl ?_; simp)
    | (refine AWP_skip ?_; simp)
    | (refine AWP_exit ?_; simp)
    | (refine AWP_ret ?_; simp)
    | refine AWP_block ?_
    | refine AWP_seq ?_)
  refine AWP_nilSlot 7 59 2 rfl ?_
  simp
  repeat (first
    | (refine AWP_seq (AWP_regS tOk rfl ?_); simp)
    | (refine AWP_regS tOk rfl ?_; simp)
    | (refine AWP_skip ?_; simp)
    | (refine AWP_exit ?_; simp)
    | (refine AWP_ret ?_; simp)
    | refine AWP_block ?_
    | refine AWP_seq ?_)
  refine AWP_loop (ALoop_keep (sl' := [(0, LIv l), (1, .i d), (7, .sl 0 2 0 0), (8, .i 0)]) ?_ (by simp))
  refine ALoop_wf (F := fun (u : Nat × Nat × List AObj) => ⟨[(0, LIv l), (1, .i d), (7, .sl u.2.1 2 0 ((l.take u.1).filterMap (clipR d)).length), (8, .i u.1)], u.2.2⟩)
    (fun u => u.1 ≤ l.length ∧ u.2.2[u.2.1]? = some (.arr 59 2 (((l.take u.1).filterMap (clipR d)).map encIv))) (fun u => l.length - u.1) ?_ (0, 0, [.arr 59 2 []]) ⟨by simp, rfl⟩
  rintro ⟨j, q, H2⟩ ⟨hj, g1⟩ ih
  simp only at hj g1 ih ⊢
  repeat (first
    | (refine AWP_seq (AWP_regS tOk rfl ?_); simp)
    | (refine AWP_regS tOk rfl ?_; simp)
    | (refine AWP_skip ?_; simp)
    | (refine AWP_exit ?_; simp)
    | (refine AWP_ret ?_; simp)
    | refine AWP_block ?_
    | refine AWP_seq ?_)
  refine AWP_cond2 rfl (fun hlt => ?_) (fun hge => ?_)
  · have hlt' : j < l.length := by simpa using hlt
    have hv := hc.iv hlt'
    have hw : IntKind.i64.wrap ((j : Int) + 1) = j + 1 := wrap_i64 _ (by omega) (by omega)
    have hw1 : IntKind.i64.wrap (l[j].lo + d) = l[j].lo + d := wrap_i64 _ (by omega) (by omega)
    have hw2 : IntKind.i64.wrap (l[j].hi + d) = l[j].hi + d := wrap_i64 _ (by omega) (by omega)
    have hpl : ((l.take j).filterMap (clipR d)).length ≤ 256 := Nat.le_trans (fm_len _ _) (by simp; omega)
    have hnx : (l.take (j + 1)).filterMap (clipR d) = (l.take j).filterMap (clipR d) ++ (clipR d l[j]).toList := by rw [List.take_succ_eq_append_getElem hlt', fm_snoc]
    have ih' : ∀ (q' : Nat) (H' : List AObj), H'[q']? = some (.arr 59 2 (((l.take j).filterMap (clipR d) ++ (clipR d l[j]).toList).map encIv)) → _ := fun q' H' h => ih (j + 1, q', H') ⟨by simp; omega, by rw [hnx]; exact h⟩ (by simp; omega)
    clear ih
    simp only [hnx] at ih'
    generalize (l.take j).filterMap (clipR d) = acc at g1 hpl ih' ⊢
    repeat (first
      | (refine AWP_seq (AWP_regS tOk rfl ?_); simp [hlt'])
      | (refine AWP_regS tOk rfl ?_; simp [hlt'])
      | (refine AWP_skip ?_; simp [hlt'])
      | (refine AWP_exit ?_; simp [hlt'])
      | (refine AWP_ret ?_; simp [hlt'])
      | refine AWP_block ?_
      | refine AWP_seq ?_)
    obtain ⟨a, ha⟩ : ∃ a, (if l[j].lo + d < -1099511627776 then -1099511627776 else l[j].lo + d) = a := ⟨_, rfl⟩
    obtain ⟨b, hb⟩ : ∃ b, (if 1099511627776 < l[j].hi + d then 1099511627776 else l[j].hi + d) = b := ⟨_, rfl⟩
    have hcl : clipR d l[j] = if a ≤ b then some ⟨a, b⟩ else none := by simp only [clipR, ha, hb]
    rw [hcl] at ih'
    refine AWP_drawT tOk mixed [] (.val 0 (.val 1 (.val 2 (.val 3 (.val 4 (.val 5 (.val 6 (.val 7 (.val 8 (.val 9 (.val 10 (.val 11 (.val 12 (.val 13 (.val 14 (.val 15 (.val 16 (.val 17 (.done))))))))))))))))))) rfl (by kernel_rfl) ?_
    simp [hlt', hw1, hw2, ha, hb]
    repeat (first
      | (refine AWP_seq (AWP_regS tOk rfl ?_); simp)
      | (refine AWP_regS tOk rfl ?_; simp)
      | (refine AWP_skip ?_; simp)
      | (refine AWP_exit ?_; simp)
      | (refine AWP_ret ?_; simp)
      | refine AWP_block ?_
      | refine AWP_seq ?_)
    refine AWP_cond2 rfl (fun h3 => ?_) (fun h3 => ?_)
    · rw [if_pos (by simpa using h3)] at ih'
      repeat (first
        | (refine AWP_seq (AWP_regS tOk rfl ?_); simp)
        | (refine AWP_regS tOk rfl ?_; simp)
        | (refine AWP_skip ?_; simp)
        | (refine AWP_exit ?_; simp)
        | (refine AWP_ret ?_; simp)
        | refine AWP_block ?_
        | refine AWP_seq ?_)
      refine AStep_appendS tOk rfl rfl T22 rfl T59 rfl (by decide) (by decide) rfl rfl rfl ?_
      simp [get_app g1, set_app g1]
      refine ⟨by simp [appOk, get_app g1, set_app g1] <;> omega, ?_⟩
      repeat (first
        | (refine AWP_seq (AWP_regS tOk rfl ?_); simp [hw])
        | (refine AWP_regS tOk rfl ?_; simp [hw])
        | (refine AWP_skip ?_; simp [hw])
        | (refine AWP_exit ?_; simp [hw])
        | (refine AWP_ret ?_; simp [hw])
        | refine AWP_block ?_
        | refine AWP_seq ?_)
      exact ALoop_keep (sl' := [(0, LIv l), (1, .i d), (7, .sl (H2.length + 1) 2 0 (acc.length + 1)), (8, .i (j + 1 : Nat))]) (by
        have := ih' (H2.length + 1) (H2.set q .dead ++ [.arr 59 2 [encIv (⟨a, b⟩ : Iv)], .arr 59 2 ((acc ++ [(⟨a, b⟩ : Iv)]).map encIv)]) (by rw [List.getElem?_append_right (by simp)]; simp)
        simpa using this) (by simp)
    · rw [if_neg (by simpa using h3)] at ih'
      repeat (first
        | (refine AWP_seq (AWP_regS tOk rfl ?_); simp [hw])
        | (refine AWP_regS tOk rfl ?_; simp [hw])
        | (refine AWP_skip ?_; simp [hw])
        | (refine AWP_exit ?_; simp [hw])
        | (refine AWP_ret ?_; simp [hw])
        | refine AWP_block ?_
        | refine AWP_seq ?_)
      exact ALoop_keep (sl' := [(0, LIv l), (1, .i d), (7, .sl q 2 0 acc.length), (8, .i (j + 1 : Nat))]) (by
        have := ih' q H2 (by rw [Option.toList_none, List.append_nil]; exact g1)
        simpa using this) (by simp)
  · have hge' : j = l.length := by simp at hge; omega
    subst hge'
    rw [List.take_length] at g1 ⊢
    repeat (first
      | (refine AWP_seq (AWP_regS tOk rfl ?_); simp [g1])
      | (refine AWP_regS tOk rfl ?_; simp [g1])
      | (refine AWP_skip ?_; simp [g1])
      | (refine AWP_exit ?_; simp [g1])
      | (refine AWP_ret ?_; simp [g1])
      | refine AWP_block ?_
      | refine AWP_seq ?_)
    rw [List.take_of_length_le (by simp)]
end Go.Abs
set_option maxRecDepth 100000
namespace Go.Abs
open Go Go.Proofs
set_option linter.unusedSimpArgs false
theorem pairs_cons (x : Iv) (a b : List Iv) : pairsR (x :: a) b = b.filterMap (meetR x) ++ pairsR a b := rfl
theorem fm_cons (x y : Iv) (b : List Iv) : (y :: b).filterMap (meetR x) = (meetR x y).toList ++ b.filterMap (meetR x) := by
  cases h : meetR x y <;> simp [h]
def rowR (x : Iv) (b : List Iv) : List Iv := b.filterMap (meetR x)
theorem pairs_cons' (x : Iv) (a b : List Iv) : pairsR (x :: a) b = rowR x b ++ pairsR a b := rfl
theorem row_cons (x y : Iv) (b : List Iv) : rowR x (y :: b) = (meetR x y).toList ++ rowR x b := fm_cons x y b
theorem row_nil (x : Iv) : rowR x [] = [] := rfl
theorem pairs_nil (b : List Iv) : pairsR [] b = [] := rfl
attribute [local irreducible] ckR hasR pairsR rowR rBothL normR
set_option maxHeartbeats 2000000 in
theorem pc_rBoth (a b : List Iv) (ha : a.length ≤ 1000) (hb : b.length ≤ 1000) (hP : (pairsR a b).length ≤ 1000) (hin : ∀ y ∈ pairsR a b, ivIn y) : PC Tryz.prog 41 [LIv a, LIv b] (fun r => r = LIv (normR (pairsR a b))) := by
  refine PC_body tOk Tryz.func41 rfl Tryz.results41 rfl (by simp [Tryz.ntmps41]) ?_
  rw [Tryz.ntmps41]
  simp only [argSlots]
  repeat (first
    | (refine AWP_seq (AWP_regS tOk rfl ?_); simp)
    | (refine AWP_regS tOk rfl ?_; simp)
    | (refine AWP_skip ?_; simp)
    | (refine AWP_exit ?_; simp)
    | (refine AWP_ret ?_; simp)
    | refine AWP_block ?_
    | refine AWP_seq ?_)
  refine AWP_nilSlot 5 59 2 rfl ?_
  simp
  repeat (first
    | (refine AWP_seq (AWP_regS tOk rfl ?_); simp)
    | (refine AWP_regS tOk rfl ?_; simp)
    | (refine AWP_skip ?_; simp)
    | (refine AWP_exit ?_; simp)
    | (refine AWP_ret ?_; simp)
    | refine AWP_block ?_
    | refine AWP_seq ?_)
  refine AWP_loop (ALoop_keep (sl' := [(0, LIv a), (1, LIv b), (5, .sl 0 2 0 0), (6, .i 0)]) ?_ (by simp))
  refine ALoop_wf (F := fun (u : Nat × Nat × List Iv × List AObj) => ⟨[(0, LIv a), (1, LIv b), (5, .sl u.2.1 2 0 u.2.2.1.length), (6, .i u.1)], u.2.2.2⟩)
    (fun u => u.1 ≤ a.length ∧ u.2.2.2[u.2.1]? = some (.arr 59 2 (u.2.2.1.map encIv)) ∧ u.2.2.1 ++ pairsR (a.drop u.1) b = pairsR a b) (fun u => a.length - u.1) ?_ (0, 0, [], [.arr 59 2 []]) ⟨by simp, rfl, by simp⟩
  rintro ⟨j, q, acc, H2⟩ ⟨hj, g1, g2⟩ ih
  simp only at hj g1 g2 ih ⊢
  repeat (first
    | (refine AWP_seq (AWP_regS tOk rfl ?_); simp)
    | (refine AWP_regS tOk rfl ?_; simp)
    | (refine AWP_skip ?_; simp)
    | (refine AWP_exit ?_; simp)
    | (refine AWP_ret ?_; simp)
    | refine AWP_block ?_
    | refine AWP_seq ?_)
  refine AWP_cond2 rfl (fun hlt => ?_) (fun hge => ?_)
  · have hlt' : j < a.length := by simpa using hlt
    have hw : IntKind.i64.wrap ((j : Int) + 1) = j + 1 := wrap_i64 _ (by omega) (by omega)
    rw [drop_get hlt', pairs_cons'] at g2
    repeat (first
      | (refine AWP_seq (AWP_regS tOk rfl ?_); simp)
      | (refine AWP_regS tOk rfl ?_; simp)
      | (refine AWP_skip ?_; simp)
      | (refine AWP_exit ?_; simp)
      | (refine AWP_ret ?_; simp)
      | refine AWP_block ?_
      | refine AWP_seq ?_)
    refine AWP_loop (ALoop_keep (sl' := [(0, LIv a), (1, LIv b), (5, .sl q 2 0 acc.length), (6, .i j), (7, .i 0)]) ?_ (by simp))
    refine ALoop_wf (F := fun (u : Nat × Nat × List Iv × List AObj) => ⟨[(0, LIv a), (1, LIv b), (5, .sl u.2.1 2 0 u.2.2.1.length), (6, .i j), (7, .i u.1)], u.2.2.2⟩)
      (fun u => u.1 ≤ b.length ∧ u.2.2.2[u.2.1]? = some (.arr 59 2 (u.2.2.1.map encIv)) ∧ u.2.2.1 ++ (rowR a[j] (b.drop u.1) ++ pairsR (a.drop (j + 1)) b) = pairsR a b) (fun u => b.length - u.1) ?_ (0, q, acc, H2) ⟨by simp, g1, by simpa using g2⟩
    rintro ⟨k, q1, acc1, H3⟩ ⟨hk, e1, e2⟩ ih1
    simp only at hk e1 e2 ih1 ⊢
    repeat (first
      | (refine AWP_seq (AWP_regS tOk rfl ?_); simp)
      | (refine AWP_regS tOk rfl ?_; simp)
      | (refine AWP_skip ?_; simp)
      | (refine AWP_exit ?_; simp)
      | (refine AWP_ret ?_; simp)
      | refine AWP_block ?_
      | refine AWP_seq ?_)
    refine AWP_cond2 rfl (fun hlt1 => ?_) (fun hge1 => ?_)
    · have hlt1' : k < b.length := by simpa using hlt1
      have hw1 : IntKind.i64.wrap ((k : Int) + 1) = k + 1 := wrap_i64 _ (by omega) (by omega)
      rw [drop_get hlt1', row_cons] at e2
      have hal : acc1.length ≤ 1000 := by have := congrArg List.length e2; simp only [List.length_append] at this; omega
      obtain ⟨lo, hlo⟩ : ∃ z, (if a[j].lo < b[k].lo then b[k].lo else a[j].lo) = z := ⟨_, rfl⟩
      obtain ⟨hi, hhi⟩ : ∃ z, (if b[k].hi < a[j].hi then b[k].hi else a[j].hi) = z := ⟨_, rfl⟩
      have hm : meetR a[j] b[k] = if lo ≤ hi then some ⟨lo, hi⟩ else none := by simp only [meetR, hlo, hhi]
      rw [hm] at e2
      repeat (first
        | (refine AWP_seq (AWP_regS tOk rfl ?_); simp [hlt', hlt1'])
        | (refine AWP_regS tOk rfl ?_; simp [hlt', hlt1'])
        | (refine AWP_skip ?_; simp [hlt', hlt1'])
        | (refine AWP_exit ?_; simp [hlt', hlt1'])
        | (refine AWP_ret ?_; simp [hlt', hlt1'])
        | refine AWP_block ?_
        | refine AWP_seq ?_)
      refine AWP_drawT tOk mixed [] (.val 0 (.val 1 (.val 2 (.val 3 (.val 4 (.val 5 (.val 6 (.val 7 (.val 8 (.val 9 (.val 10 (.val 11 (.val 12 (.val 13 (.val 14 (.val 15 (.val 16 (.val 17 (.val 18 (.val 19 (.val 20 (.val 21 (.val 22 (.val 23 (.done))))))))))))))))))))))))) rfl (by kernel_rfl) ?_
      simp [hlt', hlt1', hlo, hhi]
      repeat (first
        | (refine AWP_seq (AWP_regS tOk rfl ?_); simp)
        | (refine AWP_regS tOk rfl ?_; simp)
        | (refine AWP_skip ?_; simp)
        | (refine AWP_exit ?_; simp)
        | (refine AWP_ret ?_; simp)
        | refine AWP_block ?_
        | refine AWP_seq ?_)
      refine AWP_cond2 rfl (fun h3 => ?_) (fun h3 => ?_)
      · rw [if_pos (by simpa using h3)] at e2
        repeat (first
          | (refine AWP_seq (AWP_regS tOk rfl ?_); simp)
          | (refine AWP_regS tOk rfl ?_; simp)
          | (refine AWP_skip ?_; simp)
          | (refine AWP_exit ?_; simp)
          | (refine AWP_ret ?_; simp)
          | refine AWP_block ?_
          | refine AWP_seq ?_)
        refine AStep_appendS tOk rfl rfl T22 rfl T59 rfl (by decide) (by decide) rfl rfl rfl ?_
        simp [get_app e1, set_app e1]
        refine ⟨by simp [appOk, get_app e1, set_app e1] <;> omega, ?_⟩
        repeat (first
          | (refine AWP_seq (AWP_regS tOk rfl ?_); simp [hw1])
          | (refine AWP_regS tOk rfl ?_; simp [hw1])
          | (refine AWP_skip ?_; simp [hw1])
          | (refine AWP_exit ?_; simp [hw1])
          | (refine AWP_ret ?_; simp [hw1])
          | refine AWP_block ?_
          | refine AWP_seq ?_)
        exact ALoop_keep (sl' := [(0, LIv a), (1, LIv b), (5, .sl (H3.length + 1) 2 0 (acc1.length + 1)), (6, .i j), (7, .i (k + 1 : Nat))]) (by
          have := ih1 (k + 1, H3.length + 1, acc1 ++ [(⟨lo, hi⟩ : Iv)], H3.set q1 .dead ++ [.arr 59 2 [encIv (⟨lo, hi⟩ : Iv)], .arr 59 2 ((acc1 ++ [(⟨lo, hi⟩ : Iv)]).map encIv)]) ⟨by simp; omega, by simp only; rw [List.getElem?_append_right (by simp)]; simp, by simpa using e2⟩ (by simp; omega)
          simpa using this) (by simp)
      · rw [if_neg (by simpa using h3)] at e2
        repeat (first
          | (refine AWP_seq (AWP_regS tOk rfl ?_); simp [hw1])
          | (refine AWP_regS tOk rfl ?_; simp [hw1])
          | (refine AWP_skip ?_; simp [hw1])
          | (refine AWP_exit ?_; simp [hw1])
          | (refine AWP_ret ?_; simp [hw1])
          | refine AWP_block ?_
          | refine AWP_seq ?_)
        exact ALoop_keep (sl' := [(0, LIv a), (1, LIv b), (5, .sl q1 2 0 acc1.length), (6, .i j), (7, .i (k + 1 : Nat))]) (by
          have := ih1 (k + 1, q1, acc1, H3) ⟨by simp; omega, e1, by simpa using e2⟩ (by simp; omega)
          simpa using this) (by simp)
    · have hge1' : k = b.length := by simp at hge1; omega
      subst hge1'
      rw [List.drop_length, row_nil, List.nil_append] at e2
      repeat (first
        | (refine AWP_seq (AWP_regS tOk rfl ?_); simp [hw])
        | (refine AWP_regS tOk rfl ?_; simp [hw])
        | (refine AWP_skip ?_; simp [hw])
        | (refine AWP_exit ?_; simp [hw])
        | (refine AWP_ret ?_; simp [hw])
        | refine AWP_block ?_
        | refine AWP_seq ?_)
      exact ALoop_keep (sl' := [(0, LIv a), (1, LIv b), (5, .sl q1 2 0 acc1.length), (6, .i (j + 1 : Nat))]) (by
        have := ih (j + 1, q1, acc1, H3) ⟨by simp; omega, e1, e2⟩ (by simp; omega)
        simpa using this) (by simp)
  · have hge' : j = a.length := by simp at hge; omega
    subst hge'
    rw [List.drop_length, pairs_nil, List.append_nil] at g2
    subst g2
    repeat (first
      | (refine AWP_seq (AWP_regS tOk rfl ?_); simp)
      | (refine AWP_regS tOk rfl ?_; simp)
      | (refine AWP_skip ?_; simp)
      | (refine AWP_exit ?_; simp)
      | (refine AWP_ret ?_; simp)
      | refine AWP_block ?_
      | refine AWP_seq ?_)
    refine AStep_freeze q g1 ?_
    simp
    rw [List.take_of_length_le (by simp)]
    refine AStep_PC rfl rfl (by simp) (pc_Normal (pairsR a b) hP hin) rfl ?_
    rintro _ rfl
    simp
    repeat (first
      | (refine AWP_seq (AWP_regS tOk rfl ?_); simp)
      | (refine AWP_regS tOk rfl ?_; simp)
      | (refine AWP_skip ?_; simp)
      | (refine AWP_exit ?_; simp)
      | (refine AWP_ret ?_; simp)
      | refine AWP_block ?_
      | refine AWP_seq ?_)
theorem gapFrom_cons' (x : Iv) (r : List Iv) (n : Int) : gapFrom (x :: r) n = (if n < x.lo then [⟨n, x.lo - 1⟩] else []) ++ gapFrom r (x.hi + 1) := rfl
theorem gapFrom_nil' (n : Int) : gapFrom [] n = if n ≤ 1099511627776 then [⟨n, 1099511627776⟩] else [] := rfl
theorem gaps_def (l : List Iv) : gapFrom l (-1099511627776) = gapsR l := rfl
attribute [local irreducible] gapsR gapFrom
set_option maxHeartbeats 2000000 in
theorem pc_rRest (l : List Iv) (hc : CanonL l) : PC Tryz.prog 43 [LIv l] (fun r => r = LIv (gapsR l)) := by
  refine PC_body tOk Tryz.func43 rfl Tryz.results43 rfl (by simp [Tryz.ntmps43]) ?_
  rw [Tryz.ntmps43]
  simp only [argSlots]
  have hlen := hc.len
  have hgl := (gaps_spec hc).2.2
  repeat (first
    | (refine AWP_seq (AWP_regS tOk rfl ?_); simp)
    | (refine AWP_regS tOk rfl ?_; simp)
    | (refine AWP_skip ?_; simp)
    | (refine AWP_exit ?_; simp)
    | (refine AWP_ret ?_; simp)
    | refine AWP_block ?_
    | refine AWP_seq ?_)
  refine AWP_nilSlot 3 59 2 rfl ?_
  simp
  repeat (first
    | (refine AWP_seq (AWP_regS tOk rfl ?_); simp)
    | (refine AWP_regS tOk rfl ?_; simp)
    | (refine AWP_skip ?_; simp)
    | (refine AWP_exit ?_; simp)
    | (refine AWP_ret ?_; simp)
    | refine AWP_block ?_
    | refine AWP_seq ?_)
  refine AWP_loop (ALoop_keep (sl' := [(0, LIv l), (3, .sl 0 2 0 0), (4, .i (-1099511627776)), (5, .i 0)]) ?_ (by simp))
  refine ALoop_wf (F := fun (u : Nat × Nat × List Iv × Int × List AObj) => ⟨[(0, LIv l), (3, .sl u.2.1 2 0 u.2.2.1.length), (4, .i u.2.2.2.1), (5, .i u.1)], u.2.2.2.2⟩)
    (fun u => u.1 ≤ l.length ∧ u.2.2.2.2[u.2.1]? = some (.arr 59 2 (u.2.2.1.map encIv)) ∧ u.2.2.1 ++ gapFrom (l.drop u.1) u.2.2.2.1 = gapsR l) (fun u => l.length - u.1) ?_ (0, 0, [], -1099511627776, [.arr 59 2 []]) ⟨by simp, rfl, by simp [gaps_def]⟩
  rintro ⟨j, q, acc, n, H2⟩ ⟨hj, g1, g2⟩ ih
  simp only at hj g1 g2 ih ⊢
  have hal : acc.length ≤ 257 := by have := congrArg List.length g2; simp only [List.length_append] at this; omega
  repeat (first
    | (refine AWP_seq (AWP_regS tOk rfl ?_); simp)
    | (refine AWP_regS tOk rfl ?_; simp)
    | (refine AWP_skip ?_; simp)
    | (refine AWP_exit ?_; simp)
    | (refine AWP_ret ?_; simp)
    | refine AWP_block ?_
    | refine AWP_seq ?_)
  refine AWP_cond2 rfl (fun hlt => ?_) (fun hge => ?_)
  · have hlt' : j < l.length := by simpa using hlt
    have hv := hc.iv hlt'
    have hw : IntKind.i64.wrap ((j : Int) + 1) = j + 1 := wrap_i64 _ (by omega) (by omega)
    have hw1 : IntKind.i64.wrap (l[j].lo - 1) = l[j].lo - 1 := wrap_i64 _ (by omega) (by omega)
    have hw2 : IntKind.i64.wrap (l[j].hi + 1) = l[j].hi + 1 := wrap_i64 _ (by omega) (by omega)
    rw [drop_get hlt', gapFrom_cons'] at g2
    repeat (first
      | (refine AWP_seq (AWP_regS tOk rfl ?_); simp [hlt'])
      | (refine AWP_regS tOk rfl ?_; simp [hlt'])
      | (refine AWP_skip ?_; simp [hlt'])
      | (refine AWP_exit ?_; simp [hlt'])
      | (refine AWP_ret ?_; simp [hlt'])
      | refine AWP_block ?_
      | refine AWP_seq ?_)
    refine AWP_cond2 rfl (fun h3 => ?_) (fun h3 => ?_)
    · rw [if_pos (by simpa using h3)] at g2
      repeat (first
        | (refine AWP_seq (AWP_regS tOk rfl ?_); simp [hlt', hw1])
        | (refine AWP_regS tOk rfl ?_; simp [hlt', hw1])
        | (refine AWP_skip ?_; simp [hlt', hw1])
        | (refine AWP_exit ?_; simp [hlt', hw1])
        | (refine AWP_ret ?_; simp [hlt', hw1])
        | refine AWP_block ?_
        | refine AWP_seq ?_)
      refine AStep_appendS tOk rfl rfl T22 rfl T59 rfl (by decide) (by decide) rfl rfl rfl ?_
      simp [get_app g1, set_app g1]
      refine ⟨by simp [appOk, get_app g1, set_app g1] <;> omega, ?_⟩
      repeat (first
        | (refine AWP_seq (AWP_regS tOk rfl ?_); simp [hlt', hw, hw2])
        | (refine AWP_regS tOk rfl ?_; simp [hlt', hw, hw2])
        | (refine AWP_skip ?_; simp [hlt', hw, hw2])
        | (refine AWP_exit ?_; simp [hlt', hw, hw2])
        | (refine AWP_ret ?_; simp [hlt', hw, hw2])
        | refine AWP_block ?_
        | refine AWP_seq ?_)
      exact ALoop_keep (sl' := [(0, LIv l), (3, .sl (H2.length + 1) 2 0 (acc.length + 1)), (4, .i (l[j].hi + 1)), (5, .i (j + 1 : Nat))]) (by
        have := ih (j + 1, H2.length + 1, acc ++ [(⟨n, l[j].lo - 1⟩ : Iv)], l[j].hi + 1, H2.set q .dead ++ [.arr 59 2 [encIv (⟨n, l[j].lo - 1⟩ : Iv)], .arr 59 2 ((acc ++ [(⟨n, l[j].lo - 1⟩ : Iv)]).map encIv)]) ⟨by simp; omega, by simp only; rw [List.getElem?_append_right (by simp)]; simp, by simpa using g2⟩ (by simp; omega)
        simpa using this) (by simp)
    · rw [if_neg (by simpa using h3)] at g2
      repeat (first
        | (refine AWP_seq (AWP_regS tOk rfl ?_); simp [hlt', hw, hw2])
        | (refine AWP_regS tOk rfl ?_; simp [hlt', hw, hw2])
        | (refine AWP_skip ?_; simp [hlt', hw, hw2])
        | (refine AWP_exit ?_; simp [hlt', hw, hw2])
        | (refine AWP_ret ?_; simp [hlt', hw, hw2])
        | refine AWP_block ?_
        | refine AWP_seq ?_)
      exact ALoop_keep (sl' := [(0, LIv l), (3, .sl q 2 0 acc.length), (4, .i (l[j].hi + 1)), (5, .i (j + 1 : Nat))]) (by
        have := ih (j + 1, q, acc, l[j].hi + 1, H2) ⟨by simp; omega, g1, by simpa using g2⟩ (by simp; omega)
        simpa using this) (by simp)
  · have hge' : j = l.length := by simp at hge; omega
    subst hge'
    rw [List.drop_length, gapFrom_nil'] at g2
    repeat (first
      | (refine AWP_seq (AWP_regS tOk rfl ?_); simp)
      | (refine AWP_regS tOk rfl ?_; simp)
      | (refine AWP_skip ?_; simp)
      | (refine AWP_exit ?_; simp)
      | (refine AWP_ret ?_; simp)
      | refine AWP_block ?_
      | refine AWP_seq ?_)
    refine AWP_cond2 rfl (fun h3 => ?_) (fun h3 => ?_)
    · rw [if_pos (by simpa using h3)] at g2
      rw [← g2]
      repeat (first
        | (refine AWP_seq (AWP_regS tOk rfl ?_); simp)
        | (refine AWP_regS tOk rfl ?_; simp)
        | (refine AWP_skip ?_; simp)
        | (refine AWP_exit ?_; simp)
        | (refine AWP_ret ?_; simp)
        | refine AWP_block ?_
        | refine AWP_seq ?_)
      refine AStep_appendS tOk rfl rfl T22 rfl T59 rfl (by decide) (by decide) rfl rfl rfl ?_
      simp [get_app g1, set_app g1]
      refine ⟨by simp [appOk, get_app g1, set_app g1] <;> omega, ?_⟩
      repeat (first
        | (refine AWP_seq (AWP_regS tOk rfl ?_); simp)
        | (refine AWP_regS tOk rfl ?_; simp)
        | (refine AWP_skip ?_; simp)
        | (refine AWP_exit ?_; simp)
        | (refine AWP_ret ?_; simp)
        | refine AWP_block ?_
        | refine AWP_seq ?_)
      rw [List.take_of_length_le (by simp)]
    · rw [if_neg (by simpa using h3), List.append_nil] at g2
      subst g2
      repeat (first
        | (refine AWP_seq (AWP_regS tOk rfl ?_); simp [g1])
        | (refine AWP_regS tOk rfl ?_; simp [g1])
        | (refine AWP_skip ?_; simp [g1])
        | (refine AWP_exit ?_; simp [g1])
        | (refine AWP_ret ?_; simp [g1])
        | refine AWP_block ?_
        | refine AWP_seq ?_)
      rw [List.take_of_length_le (by simp)]
end Go.Abs
set_option maxRecDepth 100000
namespace Go.Abs
open Go
def hitA (x y : Iv) : Bool := decide (y.lo < x.lo) && decide (x.lo ≤ y.hi)
def hitB (x y : Iv) : Bool := decide (x.lo ≤ y.lo) && decide (y.lo ≤ x.hi)
theorem row_len (x : Iv) : ∀ (b : List Iv), (b.filterMap (meetR x)).length ≤ b.countP (hitA x) + b.countP (hitB x)
  | [] => by simp
  | y :: b => by
    have ih := row_len x b
    rw [List.countP_cons, List.countP_cons]
    cases h : meetR x y with
    | none => rw [List.filterMap_cons_none h]; omega
    | some z =>
      rw [List.filterMap_cons_some h, List.length_cons]
      have hz := meet_some h
      have hm := (hz.2 z.lo).1 ⟨Int.le_refl _, hz.1⟩
      have : hitA x y = true ∨ hitB x y = true := by simp [hitA, hitB]; omega
      rcases this with h' | h' <;> rw [if_pos h'] <;> omega
theorem hitA_le (x : Iv) : ∀ (b : List Iv), Sep b → b.countP (hitA x) ≤ 1
  | [], _ => by simp
  | y :: b, hs => by
    rw [List.countP_cons]
    split
    · rename_i h
      simp [hitA] at h
      have : b.countP (hitA x) = 0 := List.countP_eq_zero.2 fun z hz => by
        have := (List.pairwise_cons.1 hs.2).1 z hz
        simp [hitA]; omega
      omega
    · have := hitA_le x b hs.tail; omega
theorem hitB_one (y : Iv) : ∀ (a : List Iv), Sep a → a.countP (fun x => hitB x y) ≤ 1
  | [], _ => by simp
  | x :: a, hs => by
    rw [List.countP_cons]
    split
    · rename_i h
      simp [hitB] at h
      have : a.countP (fun x => hitB x y) = 0 := List.countP_eq_zero.2 fun z hz => by
        have := (List.pairwise_cons.1 hs.2).1 z hz
        simp [hitB]; omega
      omega
    · have := hitB_one y a hs.tail; omega
theorem hitB_sum (a : List Iv) (ha : Sep a) : ∀ (b : List Iv), (a.map fun x => b.countP (hitB x)).sum ≤ b.length
  | [] => by
    have : ∀ a : List Iv, (a.map fun x => ([] : List Iv).countP (hitB x)).sum = 0 := fun a => by
      induction a with
      | nil => rfl
      | cons x a ih => simpa using ih
    rw [this]; simp
  | y :: b => by
    have ih := hitB_sum a ha b
    have h1 := hitB_one y a ha
    have : ∀ a : List Iv, (a.map fun x => (y :: b).countP (hitB x)).sum = (a.map fun x => b.countP (hitB x)).sum + a.countP (fun x => hitB x y) := fun a => by
      induction a with
      | nil => rfl
      | cons x a ih =>
        rw [List.map_cons, List.sum_cons, ih, List.map_cons, List.sum_cons, List.countP_cons, List.countP_cons]
        omega
    rw [this, List.length_cons]; omega
/-- Overlaps of two separate lists are few. -/
theorem pairs_len (a b : List Iv) (ha : Sep a) (hb : Sep b) : (pairsR a b).length ≤ a.length + b.length := by
  have h : ∀ a : List Iv, (pairsR a b).length ≤ a.length + (a.map fun x => b.countP (hitB x)).sum := fun a => by
    induction a with
    | nil => simp [pairsR]
    | cons x a ih =>
      have e : pairsR (x :: a) b = b.filterMap (meetR x) ++ pairsR a b := rfl
      have h1 := row_len x b
      have h2 := hitA_le x b hb
      rw [e, List.length_append, List.map_cons, List.sum_cons, List.length_cons]
      omega
  have h1 := h a
  have h2 := hitB_sum a ha b
  omega
theorem pairs_in {a b : List Iv} (h : (∀ x ∈ a, ivIn x) ∨ (∀ y ∈ b, ivIn y)) : ∀ z ∈ pairsR a b, ivIn z := by
  intro z hz
  have hp := pairs_spec a b
  have hf := hp.1 z hz
  have m1 := (hp.2 z.lo).1 ⟨z, hz, Int.le_refl _, hf⟩
  have m2 := (hp.2 z.hi).1 ⟨z, hz, hf, Int.le_refl _⟩
  have key : ∀ l : List Iv, (∀ x ∈ l, ivIn x) → ∀ n, M l n → inB n = true := fun l hl n ⟨x, hx, h1, h2⟩ => by
    have h3 := (inB_iff _).1 (hl x hx).1
    have h4 := (inB_iff _).1 (hl x hx).2
    exact (inB_iff _).2 (by omega)
  rcases h with h | h
  · exact ⟨key a h _ m1.1, key a h _ m2.1⟩
  · exact ⟨key b h _ m1.2, key b h _ m2.2⟩
end Go.Abs
set_option maxRecDepth 100000
namespace Go.Abs
open Go Go.Proofs
set_option linter.unusedSimpArgs false
theorem lim_form (l : List Iv) : ∃ s n, limR l = .tup [LIv s, .i n] := by
  unfold limR
  split
  · exact ⟨_, _, rfl⟩
  · exact ⟨[], 5, rfl⟩
theorem comb_pos (op : Bool → Bool → Bool) {a b : List Iv} (h : bothR a b = 0) : combR op a b = limR (sweepR op a b) := by rw [combR, if_pos h]
theorem comb_neg (op : Bool → Bool → Bool) {a b : List Iv} (h : ¬ bothR a b = 0) : combR op a b = .tup [.list [], .i (bothR a b)] := by rw [combR, if_neg h]
theorem compl_pos {a : List Iv} (h : ckR a = 0) : complR a = limR (gapsR a) := by rw [complR, if_pos h]
theorem compl_neg {a : List Iv} (h : ¬ ckR a = 0) : complR a = .tup [.list [], .i (ckR a)] := by rw [complR, if_neg h]
theorem both_def (a b : List Iv) : normR (pairsR a b) = rBothL a b := rfl
attribute [local irreducible] ckR hasR pairsR rBothL normR gapsR bothR sweepR limR combR complR
theorem pc_rBoth' (a b : List Iv) (ha : Sep a) (hb : Sep b) (hla : a.length ≤ 260) (hlb : b.length ≤ 260) (hi : ∀ x ∈ a, ivIn x) : PC Tryz.prog 41 [LIv a, LIv b] (fun r => r = LIv (rBothL a b)) := by
  have := pc_rBoth a b (by omega) (by omega) (by have := pairs_len a b ha hb; omega) (pairs_in (.inl hi))
  rw [both_def] at this
  exact this
set_option maxHeartbeats 1000000 in
theorem pc_rUnion (a b : List Iv) : PC Tryz.prog 10 [LIv a, LIv b] (fun r => r = combR opUnion a b) := by
  refine PC_body tOk Tryz.func10 rfl Tryz.results10 rfl (by simp [Tryz.ntmps10]) ?_
  rw [Tryz.ntmps10]
  simp only [argSlots]
  repeat (first
    | (refine AWP_seq (AWP_regS tOk rfl ?_); simp)
    | (refine AWP_regS tOk rfl ?_; simp)
    | (refine AWP_skip ?_; simp)
    | (refine AWP_exit ?_; simp)
    | (refine AWP_ret ?_; simp)
    | refine AWP_block ?_
    | refine AWP_seq ?_)
  refine AStep_PC rfl rfl (by simp) (pc_rTwo a b) rfl ?_
  rintro _ rfl
  simp
  repeat (first
    | (refine AWP_seq (AWP_regS tOk rfl ?_); simp)
    | (refine AWP_regS tOk rfl ?_; simp)
    | (refine AWP_skip ?_; simp)
    | (refine AWP_exit ?_; simp)
    | (refine AWP_ret ?_; simp)
    | refine AWP_block ?_
    | refine AWP_seq ?_)
  refine AWP_cond2 rfl (fun h => ?_) (fun h => ?_)
  · repeat (first
      | (refine AWP_seq (AWP_regS tOk rfl ?_); simp)
      | (refine AWP_regS tOk rfl ?_; simp)
      | (refine AWP_skip ?_; simp)
      | (refine AWP_exit ?_; simp)
      | (refine AWP_ret ?_; simp)
      | refine AWP_block ?_
      | refine AWP_seq ?_)
    rw [comb_neg _ (by simpa using h)]
  have h0 : bothR a b = 0 := by simpa using h
  obtain ⟨h1, h2⟩ := both_zero h0
  have hl1 := h1.len
  have hl2 := h2.len
  rw [comb_pos _ h0, union_eq h1 h2]
  repeat (first
    | (refine AWP_seq (AWP_regS tOk rfl ?_); simp)
    | (refine AWP_regS tOk rfl ?_; simp)
    | (refine AWP_skip ?_; simp)
    | (refine AWP_exit ?_; simp)
    | (refine AWP_ret ?_; simp)
    | refine AWP_block ?_
    | refine AWP_seq ?_)
  refine AStep_appendS tOk rfl rfl T22 rfl T59 rfl (by decide) (by decide) rfl rfl rfl ?_
  simp
  refine ⟨by simp [appOk] <;> omega, ?_⟩
  refine AStep_appendS tOk rfl rfl T22 rfl T59 rfl (by decide) (by decide) rfl rfl rfl ?_
  simp
  refine ⟨by simp [appOk] <;> omega, ?_⟩
  refine AStep_freeze 2 rfl ?_
  simp
  rw [List.take_of_length_le (by simp), ← List.map_append]
  refine AStep_PC rfl rfl (by simp) (pc_Normal (a ++ b) (by simp; omega) (fun y hy => (List.mem_append.1 hy).elim (canon_in h1 y) (canon_in h2 y))) rfl ?_
  rintro _ rfl
  simp
  obtain ⟨s, n, e⟩ := lim_form (normR (a ++ b))
  rw [e]
  refine AStep_PC rfl rfl (by simp) (pc_rLimited (normR (a ++ b))) rfl ?_
  rintro _ rfl
  simp [e]
  repeat (first
    | (refine AWP_seq (AWP_regS tOk rfl ?_); simp)
    | (refine AWP_regS tOk rfl ?_; simp)
    | (refine AWP_skip ?_; simp)
    | (refine AWP_exit ?_; simp)
    | (refine AWP_ret ?_; simp)
    | refine AWP_block ?_
    | refine AWP_seq ?_)
set_option maxHeartbeats 1000000 in
theorem pc_rIntersect (a b : List Iv) : PC Tryz.prog 12 [LIv a, LIv b] (fun r => r = combR opInter a b) := by
  refine PC_body tOk Tryz.func12 rfl Tryz.results12 rfl (by simp [Tryz.ntmps12]) ?_
  rw [Tryz.ntmps12]
  simp only [argSlots]
  repeat (first
    | (refine AWP_seq (AWP_regS tOk rfl ?_); simp)
    | (refine AWP_regS tOk rfl ?_; simp)
    | (refine AWP_skip ?_; simp)
    | (refine AWP_exit ?_; simp)
    | (refine AWP_ret ?_; simp)
    | refine AWP_block ?_
    | refine AWP_seq ?_)
  refine AStep_PC rfl rfl (by simp) (pc_rTwo a b) rfl ?_
  rintro _ rfl
  simp
  repeat (first
    | (refine AWP_seq (AWP_regS tOk rfl ?_); simp)
    | (refine AWP_regS tOk rfl ?_; simp)
    | (refine AWP_skip ?_; simp)
    | (refine AWP_exit ?_; simp)
    | (refine AWP_ret ?_; simp)
    | refine AWP_block ?_
    | refine AWP_seq ?_)
  refine AWP_cond2 rfl (fun h => ?_) (fun h => ?_)
  · repeat (first
      | (refine AWP_seq (AWP_regS tOk rfl ?_); simp)
      | (refine AWP_regS tOk rfl ?_; simp)
      | (refine AWP_skip ?_; simp)
      | (refine AWP_exit ?_; simp)
      | (refine AWP_ret ?_; simp)
      | refine AWP_block ?_
      | refine AWP_seq ?_)
    rw [comb_neg _ (by simpa using h)]
  have h0 : bothR a b = 0 := by simpa using h
  obtain ⟨h1, h2⟩ := both_zero h0
  have hl1 := h1.len
  have hl2 := h2.len
  rw [comb_pos _ h0, inter_eq]
  repeat (first
    | (refine AWP_seq (AWP_regS tOk rfl ?_); simp)
    | (refine AWP_regS tOk rfl ?_; simp)
    | (refine AWP_skip ?_; simp)
    | (refine AWP_exit ?_; simp)
    | (refine AWP_ret ?_; simp)
    | refine AWP_block ?_
    | refine AWP_seq ?_)
  refine AStep_PC rfl rfl (by simp) (pc_rBoth' a b (canon_sep h1) (canon_sep h2) (by omega) (by omega) (canon_in h1)) rfl ?_
  rintro _ rfl
  simp
  obtain ⟨s, n, e⟩ := lim_form (rBothL a b)
  rw [e]
  refine AStep_PC rfl rfl (by simp) (pc_rLimited (rBothL a b)) rfl ?_
  rintro _ rfl
  simp [e]
  repeat (first
    | (refine AWP_seq (AWP_regS tOk rfl ?_); simp)
    | (refine AWP_regS tOk rfl ?_; simp)
    | (refine AWP_skip ?_; simp)
    | (refine AWP_exit ?_; simp)
    | (refine AWP_ret ?_; simp)
    | refine AWP_block ?_
    | refine AWP_seq ?_)
set_option maxHeartbeats 1000000 in
theorem pc_rMinus (a b : List Iv) : PC Tryz.prog 14 [LIv a, LIv b] (fun r => r = combR opMinus a b) := by
  refine PC_body tOk Tryz.func14 rfl Tryz.results14 rfl (by simp [Tryz.ntmps14]) ?_
  rw [Tryz.ntmps14]
  simp only [argSlots]
  repeat (first
    | (refine AWP_seq (AWP_regS tOk rfl ?_); simp)
    | (refine AWP_regS tOk rfl ?_; simp)
    | (refine AWP_skip ?_; simp)
    | (refine AWP_exit ?_; simp)
    | (refine AWP_ret ?_; simp)
    | refine AWP_block ?_
    | refine AWP_seq ?_)
  refine AStep_PC rfl rfl (by simp) (pc_rTwo a b) rfl ?_
  rintro _ rfl
  simp
  repeat (first
    | (refine AWP_seq (AWP_regS tOk rfl ?_); simp)
    | (refine AWP_regS tOk rfl ?_; simp)
    | (refine AWP_skip ?_; simp)
    | (refine AWP_exit ?_; simp)
    | (refine AWP_ret ?_; simp)
    | refine AWP_block ?_
    | refine AWP_seq ?_)
  refine AWP_cond2 rfl (fun h => ?_) (fun h => ?_)
  · repeat (first
      | (refine AWP_seq (AWP_regS tOk rfl ?_); simp)
      | (refine AWP_regS tOk rfl ?_; simp)
      | (refine AWP_skip ?_; simp)
      | (refine AWP_exit ?_; simp)
      | (refine AWP_ret ?_; simp)
      | refine AWP_block ?_
      | refine AWP_seq ?_)
    rw [comb_neg _ (by simpa using h)]
  have h0 : bothR a b = 0 := by simpa using h
  obtain ⟨h1, h2⟩ := both_zero h0
  have hl1 := h1.len
  have hl2 := h2.len
  have hg := gaps_spec h2
  rw [comb_pos _ h0, minus_eq h1 h2]
  repeat (first
    | (refine AWP_seq (AWP_regS tOk rfl ?_); simp)
    | (refine AWP_regS tOk rfl ?_; simp)
    | (refine AWP_skip ?_; simp)
    | (refine AWP_exit ?_; simp)
    | (refine AWP_ret ?_; simp)
    | refine AWP_block ?_
    | refine AWP_seq ?_)
  refine AStep_PC rfl rfl (by simp) (pc_rRest b h2) rfl ?_
  rintro _ rfl
  simp
  refine AStep_PC rfl rfl (by simp) (pc_rBoth' a (gapsR b) (canon_sep h1) hg.1 (by omega) (by omega) (canon_in h1)) rfl ?_
  rintro _ rfl
  simp
  obtain ⟨s, n, e⟩ := lim_form (rBothL a (gapsR b))
  rw [e]
  refine AStep_PC rfl rfl (by simp) (pc_rLimited (rBothL a (gapsR b))) rfl ?_
  rintro _ rfl
  simp [e]
  repeat (first
    | (refine AWP_seq (AWP_regS tOk rfl ?_); simp)
    | (refine AWP_regS tOk rfl ?_; simp)
    | (refine AWP_skip ?_; simp)
    | (refine AWP_exit ?_; simp)
    | (refine AWP_ret ?_; simp)
    | refine AWP_block ?_
    | refine AWP_seq ?_)
set_option maxHeartbeats 1000000 in
theorem pc_rComplement (a : List Iv) : PC Tryz.prog 16 [LIv a] (fun r => r = complR a) := by
  refine PC_body tOk Tryz.func16 rfl Tryz.results16 rfl (by simp [Tryz.ntmps16]) ?_
  rw [Tryz.ntmps16]
  simp only [argSlots]
  repeat (first
    | (refine AWP_seq (AWP_regS tOk rfl ?_); simp)
    | (refine AWP_regS tOk rfl ?_; simp)
    | (refine AWP_skip ?_; simp)
    | (refine AWP_exit ?_; simp)
    | (refine AWP_ret ?_; simp)
    | refine AWP_block ?_
    | refine AWP_seq ?_)
  refine AStep_PC rfl rfl (by simp) (pc_rCheck a) rfl ?_
  rintro _ rfl
  simp
  repeat (first
    | (refine AWP_seq (AWP_regS tOk rfl ?_); simp)
    | (refine AWP_regS tOk rfl ?_; simp)
    | (refine AWP_skip ?_; simp)
    | (refine AWP_exit ?_; simp)
    | (refine AWP_ret ?_; simp)
    | refine AWP_block ?_
    | refine AWP_seq ?_)
  refine AWP_cond2 rfl (fun h => ?_) (fun h => ?_)
  · repeat (first
      | (refine AWP_seq (AWP_regS tOk rfl ?_); simp)
      | (refine AWP_regS tOk rfl ?_; simp)
      | (refine AWP_skip ?_; simp)
      | (refine AWP_exit ?_; simp)
      | (refine AWP_ret ?_; simp)
      | refine AWP_block ?_
      | refine AWP_seq ?_)
    rw [compl_neg (by simpa using h)]
  have h0 : ckR a = 0 := by simpa using h
  have h1 := (ck_iff a).1 h0
  rw [compl_pos h0]
  repeat (first
    | (refine AWP_seq (AWP_regS tOk rfl ?_); simp)
    | (refine AWP_regS tOk rfl ?_; simp)
    | (refine AWP_skip ?_; simp)
    | (refine AWP_exit ?_; simp)
    | (refine AWP_ret ?_; simp)
    | refine AWP_block ?_
    | refine AWP_seq ?_)
  refine AStep_PC rfl rfl (by simp) (pc_rRest a h1) rfl ?_
  rintro _ rfl
  simp
  obtain ⟨s, n, e⟩ := lim_form (gapsR a)
  rw [e]
  refine AStep_PC rfl rfl (by simp) (pc_rLimited (gapsR a)) rfl ?_
  rintro _ rfl
  simp [e]
  repeat (first
    | (refine AWP_seq (AWP_regS tOk rfl ?_); simp)
    | (refine AWP_regS tOk rfl ?_; simp)
    | (refine AWP_skip ?_; simp)
    | (refine AWP_exit ?_; simp)
    | (refine AWP_ret ?_; simp)
    | refine AWP_block ?_
    | refine AWP_seq ?_)
set_option maxHeartbeats 1000000 in
theorem pc_rInside (a b : List Iv) : PC Tryz.prog 31 [LIv a, LIv b] (fun r => r = .tup [.bool (insideR a b).1, .i (insideR a b).2]) := by
  refine PC_body tOk Tryz.func31 rfl Tryz.results31 rfl (by simp [Tryz.ntmps31]) ?_
  rw [Tryz.ntmps31]
  simp only [argSlots]
  repeat (first
    | (refine AWP_seq (AWP_regS tOk rfl ?_); simp)
    | (refine AWP_regS tOk rfl ?_; simp)
    | (refine AWP_skip ?_; simp)
    | (refine AWP_exit ?_; simp)
    | (refine AWP_ret ?_; simp)
    | refine AWP_block ?_
    | refine AWP_seq ?_)
  refine AStep_PC rfl rfl (by simp) (pc_rTwo a b) rfl ?_
  rintro _ rfl
  simp
  repeat (first
    | (refine AWP_seq (AWP_regS tOk rfl ?_); simp)
    | (refine AWP_regS tOk rfl ?_; simp)
    | (refine AWP_skip ?_; simp)
    | (refine AWP_exit ?_; simp)
    | (refine AWP_ret ?_; simp)
    | refine AWP_block ?_
    | refine AWP_seq ?_)
  refine AWP_cond2 rfl (fun h => ?_) (fun h => ?_)
  · repeat (first
      | (refine AWP_seq (AWP_regS tOk rfl ?_); simp)
      | (refine AWP_regS tOk rfl ?_; simp)
      | (refine AWP_skip ?_; simp)
      | (refine AWP_exit ?_; simp)
      | (refine AWP_ret ?_; simp)
      | refine AWP_block ?_
      | refine AWP_seq ?_)
    rw [insideR, if_neg (by simpa using h)]; exact ⟨rfl, rfl⟩
  have h0 : bothR a b = 0 := by simpa using h
  obtain ⟨h1, h2⟩ := both_zero h0
  have hl1 := h1.len
  have hl2 := h2.len
  rw [insideR, if_pos h0, inside_eq b h1]
  repeat (first
    | (refine AWP_seq (AWP_regS tOk rfl ?_); simp)
    | (refine AWP_regS tOk rfl ?_; simp)
    | (refine AWP_skip ?_; simp)
    | (refine AWP_exit ?_; simp)
    | (refine AWP_ret ?_; simp)
    | refine AWP_block ?_
    | refine AWP_seq ?_)
  refine AStep_PC rfl rfl (by simp) (pc_rBoth' a b (canon_sep h1) (canon_sep h2) (by omega) (by omega) (canon_in h1)) rfl ?_
  rintro _ rfl
  simp
  refine AStep_PC rfl rfl (by simp) (pc_Same (rBothL a b) a) rfl ?_
  rintro _ rfl
  simp
  repeat (first
    | (refine AWP_seq (AWP_regS tOk rfl ?_); simp)
    | (refine AWP_regS tOk rfl ?_; simp)
    | (refine AWP_skip ?_; simp)
    | (refine AWP_exit ?_; simp)
    | (refine AWP_ret ?_; simp)
    | refine AWP_block ?_
    | refine AWP_seq ?_)
end Go.Abs
