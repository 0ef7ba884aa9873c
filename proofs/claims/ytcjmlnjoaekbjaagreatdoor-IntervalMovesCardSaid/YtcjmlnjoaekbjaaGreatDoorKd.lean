/- Part Kd of the proof: an abstract machine over the model, and what the functions of the program hand back in its terms. No condition. -/
import Derived.Test.YtcjmlnjoaekbjaaGreatDoorKc
import Derived.Test.YtcjmlnjoaekbjaaGreatDoorKe
import Derived.Test.YtcjmlnjoaekbjaaGreatDoorKb
import Derived.Lib.AppendIntMem
import Derived.Lib.Join
import Derived.Lib.ItoaLen
import Derived.Lay
import Derived.LaidSub
import Derived.Deep.DeepWitnessRowRef
import Derived.Test.YtcjmlnjoaekbjaaGreatDoorCards
import Derived.Test.YtcjmlnjoaekbjaaGreatDoorTie
import Derived.Lib.LaidTab
import Derived.Shelf.Vars
set_option linter.all false
set_option maxRecDepth 100000
namespace Go.Abs
open Go Go.Proofs
set_option linter.unusedSimpArgs false
/-- Grow of a nil slice. -/
theorem fc_Grow (H : List AObj) (n : Nat) (h0 : 0 < n) (hn : n ≤ 100000) : FC Tryz.prog 99 [.nils, .i n] H
    (fun r H' => r = .sl H.length 2 0 0 ∧ H' = H ++ [.arr 59 2 []]) := by
  have hneg : ¬ ((n : Int) < 0) := by omega
  have hw : IntKind.i64.wrap (n : Int) = n := wrap_i64 _ (by omega) (by omega)
  refine FC_body tOk Tryz.func99 rfl Tryz.results99 rfl (by simp [Tryz.ntmps99]) ?_
  rw [Tryz.ntmps99]
  simp only [argSlots]
  repeat (first
    | (refine AWP_seq (AWP_regS tOk rfl ?_); simp)
    | (refine AWP_regS tOk rfl ?_; simp)
    | (refine AWP_skip ?_; simp)
    | (refine AWP_exit ?_; simp)
    | (refine AWP_ret ?_; simp)
    | refine AWP_block ?_
    | refine AWP_seq ?_)
  refine AWP_cond2 rfl (fun h => ?_) (fun h => ?_)
  · simp [hneg] at h
  have hw0 : IntKind.i64.wrap 0 = 0 := by decide
  repeat (first
    | (refine AWP_seq (AWP_regS tOk rfl ?_); simp [hw])
    | (refine AWP_regS tOk rfl ?_; simp [hw])
    | (refine AWP_skip ?_; simp [hw])
    | (refine AWP_exit ?_; simp [hw])
    | (refine AWP_ret ?_; simp [hw])
    | refine AWP_block ?_
    | refine AWP_seq ?_)
  refine AStep_capNil tOk rfl rfl T22 rfl rfl rfl ?_
  simp [hw, hw0]
  repeat (first
    | (refine AWP_seq (AWP_regS tOk rfl ?_); simp [hw, hw0])
    | (refine AWP_regS tOk rfl ?_; simp [hw, hw0])
    | (refine AWP_skip ?_; simp [hw, hw0])
    | (refine AWP_exit ?_; simp [hw, hw0])
    | (refine AWP_ret ?_; simp [hw, hw0])
    | refine AWP_block ?_
    | refine AWP_seq ?_)
  refine AWP_cond2 rfl (fun h2 => ?_) (fun h2 => ?_)
  · repeat (first
      | (refine AWP_seq (AWP_regS tOk rfl ?_); simp [hw, hw0])
      | (refine AWP_regS tOk rfl ?_; simp [hw, hw0])
      | (refine AWP_skip ?_; simp [hw, hw0])
      | (refine AWP_exit ?_; simp [hw, hw0])
      | (refine AWP_ret ?_; simp [hw, hw0])
      | refine AWP_block ?_
      | refine AWP_seq ?_)
    refine AStep_capNil tOk rfl rfl T22 rfl rfl rfl ?_
    simp [hw, hw0]
    refine AStep_appendMakeNil tOk rfl rfl T22 rfl T3 rfl T59 rfl (by decide) rfl (n := n) rfl h0 (by simp; omega) (by omega) (.agg [.int .i64 0, .int .i64 0]) rfl rfl ?_
    simp
    refine AWP_trunc H.length 0 (get_end H _ []) ?_
    simp
    repeat (first
      | (refine AWP_seq (AWP_regS tOk rfl ?_); simp)
      | (refine AWP_regS tOk rfl ?_; simp)
      | (refine AWP_skip ?_; simp)
      | (refine AWP_exit ?_; simp)
      | (refine AWP_ret ?_; simp)
      | refine AWP_block ?_
      | refine AWP_seq ?_)
  · simp at h2; omega
theorem fc_Grow0 (H : List AObj) : FC Tryz.prog 99 [.nils, .i 0] H (fun r H' => r = .nils ∧ H' = H) := by
  refine FC_body tOk Tryz.func99 rfl Tryz.results99 rfl (by simp [Tryz.ntmps99]) ?_
  rw [Tryz.ntmps99]
  simp only [argSlots]
  have hw0 : IntKind.i64.wrap 0 = 0 := by decide
  repeat (first
    | (refine AWP_seq (AWP_regS tOk rfl ?_); simp)
    | (refine AWP_regS tOk rfl ?_; simp)
    | (refine AWP_skip ?_; simp)
    | (refine AWP_exit ?_; simp)
    | (refine AWP_ret ?_; simp)
    | refine AWP_block ?_
    | refine AWP_seq ?_)
  refine AWP_cond rfl ?_
  simp
  repeat (first
    | (refine AWP_seq (AWP_regS tOk rfl ?_); simp [hw0])
    | (refine AWP_regS tOk rfl ?_; simp [hw0])
    | (refine AWP_skip ?_; simp [hw0])
    | (refine AWP_exit ?_; simp [hw0])
    | (refine AWP_ret ?_; simp [hw0])
    | refine AWP_block ?_
    | refine AWP_seq ?_)
  refine AStep_capNil tOk rfl rfl T22 rfl rfl rfl ?_
  simp [hw0]
  repeat (first
    | (refine AWP_seq (AWP_regS tOk rfl ?_); simp [hw0])
    | (refine AWP_regS tOk rfl ?_; simp [hw0])
    | (refine AWP_skip ?_; simp [hw0])
    | (refine AWP_exit ?_; simp [hw0])
    | (refine AWP_ret ?_; simp [hw0])
    | refine AWP_block ?_
    | refine AWP_seq ?_)
  refine AWP_cond rfl ?_
  simp
  repeat (first
    | (refine AWP_seq (AWP_regS tOk rfl ?_); simp [hw0])
    | (refine AWP_regS tOk rfl ?_; simp [hw0])
    | (refine AWP_skip ?_; simp [hw0])
    | (refine AWP_exit ?_; simp [hw0])
    | (refine AWP_ret ?_; simp [hw0])
    | refine AWP_block ?_
    | refine AWP_seq ?_)
def catL (ls : List (List Iv)) : List Iv := ls.flatten
theorem catL_step (ls : List (List Iv)) (j : Nat) (h : j < ls.length) : catL (ls.take (j + 1)) = catL (ls.take j) ++ ls[j] := by
  unfold catL; rw [List.take_succ_eq_append_getElem h, List.flatten_append]; simp only [List.flatten_cons, List.flatten_nil, List.append_nil]
theorem catL_le (ls : List (List Iv)) (j : Nat) : (catL (ls.take j)).length ≤ (catL ls).length := by
  conv => rhs; rw [← List.take_append_drop j ls, catL, List.flatten_append, List.length_append]
  rw [catL]; omega
theorem catL_all (ls : List (List Iv)) : catL (ls.take ls.length) = catL ls := by rw [List.take_length]
theorem catL_nil : catL [] = [] := rfl
attribute [local irreducible] catL
set_option maxHeartbeats 2000000 in
theorem pc_Concat (ls : List (List Iv)) (hl : ls.length ≤ 1000) (ht : (catL ls).length ≤ 100000) : PC Tryz.prog 79 [.list (ls.map encL)] (fun r => r = LIv (catL ls)) := by
  refine PC_body tOk Tryz.func79 rfl Tryz.results79 rfl (by simp [Tryz.ntmps79]) ?_
  rw [Tryz.ntmps79]
  simp only [argSlots]
  repeat (first
    | (refine AWP_seq (AWP_regS tOk rfl ?_); simp)
    | (refine AWP_regS tOk rfl ?_; simp)
    | (refine AWP_skip ?_; simp)
    | (refine AWP_exit ?_; simp)
    | (refine AWP_ret ?_; simp)
    | refine AWP_block ?_
    | refine AWP_seq ?_)
  refine AWP_countI ls.length (fun _ => True) (fun j => [(0, .list (ls.map encL)), (3, .i (catL (ls.take j)).length), (9, .list (ls.map encL)), (10, .i ls.length), (11, .i j)]) (fun _ => []) rfl (by simp) (by simp [catL_nil]) (by simp) (by simp) trivial ?_
  intro j hj hI ih
  repeat (first
    | (refine AWP_seq (AWP_regS tOk rfl ?_); simp)
    | (refine AWP_regS tOk rfl ?_; simp)
    | (refine AWP_skip ?_; simp)
    | (refine AWP_exit ?_; simp)
    | (refine AWP_ret ?_; simp)
    | refine AWP_block ?_
    | refine AWP_seq ?_)
  refine AWP_cond2 rfl (fun hlt => ?_) (fun hge => ?_)
  · have hlt' : j < ls.length := by simpa using hlt
    have hw : IntKind.i64.wrap ((j : Int) + 1) = j + 1 := wrap_i64 _ (by omega) (by omega)
    have hl2 := catL_le ls (j + 1)
    have ih := ih hlt' trivial
    have hs2 : (catL (ls.take (j + 1))).length = (catL (ls.take j)).length + ls[j].length := by rw [catL_step ls j hlt', List.length_append]
    generalize (catL (ls.take (j + 1))).length = m at *
    generalize (catL (ls.take j)).length = k at *
    have hw2 : IntKind.i64.wrap ((k : Int) + ls[j].length) = m := by rw [wrap_i64 _ (by omega) (by omega)]; omega
    repeat (first
      | (refine AWP_seq (AWP_regS tOk rfl ?_); simp [hlt', hw2])
      | (refine AWP_regS tOk rfl ?_; simp [hlt', hw2])
      | (refine AWP_skip ?_; simp [hlt', hw2])
      | (refine AWP_exit ?_; simp [hlt', hw2])
      | (refine AWP_ret ?_; simp [hlt', hw2])
      | refine AWP_block ?_
      | refine AWP_seq ?_)
    refine AWP_cond2 rfl (fun h2 => ?_) (fun h2 => ?_)
    · simp at h2; omega
    repeat (first
      | (refine AWP_seq (AWP_regS tOk rfl ?_); simp [hw, hw2])
      | (refine AWP_regS tOk rfl ?_; simp [hw, hw2])
      | (refine AWP_skip ?_; simp [hw, hw2])
      | (refine AWP_exit ?_; simp [hw, hw2])
      | (refine AWP_ret ?_; simp [hw, hw2])
      | refine AWP_block ?_
      | refine AWP_seq ?_)
    refine ALoop_end _ ih rfl (by simp) ?_ (by simp) (by simp)
    simp
  have hge' : j = ls.length := by simp at hge; omega
  subst hge'
  clear ih
  obtain ⟨n, hn⟩ : ∃ n, (catL ls).length = n := ⟨_, rfl⟩
  rw [catL_all, hn]
  rcases Nat.eq_zero_or_pos n with h0 | h0
  · subst h0
    repeat (first
      | (refine AWP_seq (AWP_regS tOk rfl ?_); simp)
      | (refine AWP_regS tOk rfl ?_; simp)
      | (refine AWP_skip ?_; simp)
      | (refine AWP_exit ?_; simp)
      | (refine AWP_ret ?_; simp)
      | refine AWP_block ?_
      | refine AWP_seq ?_)
    refine AStep_FC rfl rfl (fc_Grow0 []) rfl ?_
    rintro r H' ⟨rfl, rfl⟩
    simp
    repeat (first
      | (refine AWP_seq (AWP_regS tOk rfl ?_); simp)
      | (refine AWP_regS tOk rfl ?_; simp)
      | (refine AWP_skip ?_; simp)
      | (refine AWP_exit ?_; simp)
      | (refine AWP_ret ?_; simp)
      | refine AWP_block ?_
      | refine AWP_seq ?_)
    refine AWP_nilSlot 6 59 2 rfl ?_
    simp
    refine AWP_loop (ALoop_keep (sl' := [(6, .sl 0 2 0 (catL (ls.take 0)).length), (25, .list (ls.map encL)), (26, .i ls.length), (27, .i 0)]) ?_ (by simp [catL_nil]))
    refine ALoop_wf (F := fun (u : Nat × Nat × List AObj) => ⟨[(6, .sl u.2.1 2 0 (catL (ls.take u.1)).length), (25, .list (ls.map encL)), (26, .i ls.length), (27, .i u.1)], u.2.2⟩)
      (fun u => u.1 ≤ ls.length ∧ u.2.2[u.2.1]? = some (.arr 59 2 ((catL (ls.take u.1)).map encIv))) (fun u => ls.length - u.1) ?_ (0, 0, [.arr 59 2 []]) ⟨by simp, by simp [catL_nil]⟩
    rintro ⟨j, q, H2⟩ ⟨hj, g1⟩ ih
    simp only at hj g1 ih ⊢
    repeat (first
      | (refine AWP_seq (AWP_regS tOk rfl ?_); simp)
      | (refine AWP_regS tOk rfl ?_; simp)
      | (refine AWP_skip ?_; simp)
      | (refine AWP_exit ?_; simp)
      | (refine AWP_ret ?_; simp)
      | refine AWP_block ?_
      | refine AWP_seq ?_)
    refine AWP_cond2 rfl (fun hlt => ?_) (fun hge => ?_)
    · have hlt' : j < ls.length := by simpa using hlt
      have hw : IntKind.i64.wrap ((j : Int) + 1) = j + 1 := wrap_i64 _ (by omega) (by omega)
      have hl2 := catL_le ls (j + 1)
      have hs := catL_step ls j hlt'
      have hs2 : (catL (ls.take (j + 1))).length = (catL (ls.take j)).length + ls[j].length := by rw [hs, List.length_append]
      have ih' := fun (q' : Nat) (H' : List AObj) (h : H'[q']? = some (.arr 59 2 ((catL (ls.take j) ++ ls[j]).map encIv))) => ih (j + 1, q', H') ⟨by simp; omega, by rw [hs]; exact h⟩ (by simp; omega)
      clear ih
      simp only [hs] at ih'
      rw [hs2] at hl2
      clear hs hs2
      generalize catL (ls.take j) = acc at *
      repeat (first
        | (refine AWP_seq (AWP_regS tOk rfl ?_); simp [hlt'])
        | (refine AWP_regS tOk rfl ?_; simp [hlt'])
        | (refine AWP_skip ?_; simp [hlt'])
        | (refine AWP_exit ?_; simp [hlt'])
        | (refine AWP_ret ?_; simp [hlt'])
        | refine AWP_block ?_
        | refine AWP_seq ?_)
      refine AStep_appendS tOk rfl rfl T22 rfl T59 rfl (by decide) (by decide) rfl rfl rfl ?_
      simp [get_app g1, set_app g1, g1]
      refine ⟨by simp [appOk, get_app g1, set_app g1, g1] <;> omega, ?_⟩
      repeat (first
        | (refine AWP_seq (AWP_regS tOk rfl ?_); simp [hw])
        | (refine AWP_regS tOk rfl ?_; simp [hw])
        | (refine AWP_skip ?_; simp [hw])
        | (refine AWP_exit ?_; simp [hw])
        | (refine AWP_ret ?_; simp [hw])
        | refine AWP_block ?_
        | refine AWP_seq ?_)
      exact ALoop_keep (sl' := [(6, .sl H2.length 2 0 (acc.length + ls[j].length)), (25, .list (ls.map encL)), (26, .i ls.length), (27, .i (j + 1 : Nat))]) (by
        have := ih' H2.length (H2.set q .dead ++ [.arr 59 2 ((acc ++ ls[j]).map encIv)]) (by rw [List.getElem?_append_right (by simp)]; simp)
        simpa using this) (by simp)
    · have hge' : j = ls.length := by simp at hge; omega
      subst hge'
      rw [catL_all] at g1
      rw [List.take_length]
      repeat (first
        | (refine AWP_seq (AWP_regS tOk rfl ?_); simp [g1])
        | (refine AWP_regS tOk rfl ?_; simp [g1])
        | (refine AWP_skip ?_; simp [g1])
        | (refine AWP_exit ?_; simp [g1])
        | (refine AWP_ret ?_; simp [g1])
        | refine AWP_block ?_
        | refine AWP_seq ?_)
      rw [List.take_of_length_le (by simp)]
  · repeat (first
      | (refine AWP_seq (AWP_regS tOk rfl ?_); simp)
      | (refine AWP_regS tOk rfl ?_; simp)
      | (refine AWP_skip ?_; simp)
      | (refine AWP_exit ?_; simp)
      | (refine AWP_ret ?_; simp)
      | refine AWP_block ?_
      | refine AWP_seq ?_)
    refine AStep_FC rfl rfl (fc_Grow [] n h0 (by omega)) rfl ?_
    rintro r H' ⟨rfl, rfl⟩
    simp
    repeat (first
      | (refine AWP_seq (AWP_regS tOk rfl ?_); simp)
      | (refine AWP_regS tOk rfl ?_; simp)
      | (refine AWP_skip ?_; simp)
      | (refine AWP_exit ?_; simp)
      | (refine AWP_ret ?_; simp)
      | refine AWP_block ?_
      | refine AWP_seq ?_)
    refine AWP_loop (ALoop_keep (sl' := [(6, .sl 0 2 0 (catL (ls.take 0)).length), (25, .list (ls.map encL)), (26, .i ls.length), (27, .i 0)]) ?_ (by simp [catL_nil]))
    refine ALoop_wf (F := fun (u : Nat × Nat × List AObj) => ⟨[(6, .sl u.2.1 2 0 (catL (ls.take u.1)).length), (25, .list (ls.map encL)), (26, .i ls.length), (27, .i u.1)], u.2.2⟩)
      (fun u => u.1 ≤ ls.length ∧ u.2.2[u.2.1]? = some (.arr 59 2 ((catL (ls.take u.1)).map encIv))) (fun u => ls.length - u.1) ?_ (0, 0, [.arr 59 2 []]) ⟨by simp, by simp [catL_nil]⟩
    rintro ⟨j, q, H2⟩ ⟨hj, g1⟩ ih
    simp only at hj g1 ih ⊢
    repeat (first
      | (refine AWP_seq (AWP_regS tOk rfl ?_); simp)
      | (refine AWP_regS tOk rfl ?_; simp)
      | (refine AWP_skip ?_; simp)
      | (refine AWP_exit ?_; simp)
      | (refine AWP_ret ?_; simp)
      | refine AWP_block ?_
      | refine AWP_seq ?_)
    refine AWP_cond2 rfl (fun hlt => ?_) (fun hge => ?_)
    · have hlt' : j < ls.length := by simpa using hlt
      have hw : IntKind.i64.wrap ((j : Int) + 1) = j + 1 := wrap_i64 _ (by omega) (by omega)
      have hl2 := catL_le ls (j + 1)
      have hs := catL_step ls j hlt'
      have hs2 : (catL (ls.take (j + 1))).length = (catL (ls.take j)).length + ls[j].length := by rw [hs, List.length_append]
      have ih' := fun (q' : Nat) (H' : List AObj) (h : H'[q']? = some (.arr 59 2 ((catL (ls.take j) ++ ls[j]).map encIv))) => ih (j + 1, q', H') ⟨by simp; omega, by rw [hs]; exact h⟩ (by simp; omega)
      clear ih
      simp only [hs] at ih'
      rw [hs2] at hl2
      clear hs hs2
      generalize catL (ls.take j) = acc at *
      repeat (first
        | (refine AWP_seq (AWP_regS tOk rfl ?_); simp [hlt'])
        | (refine AWP_regS tOk rfl ?_; simp [hlt'])
        | (refine AWP_skip ?_; simp [hlt'])
        | (refine AWP_exit ?_; simp [hlt'])
        | (refine AWP_ret ?_; simp [hlt'])
        | refine AWP_block ?_
        | refine AWP_seq ?_)
      refine AStep_appendS tOk rfl rfl T22 rfl T59 rfl (by decide) (by decide) rfl rfl rfl ?_
      simp [get_app g1, set_app g1, g1]
      refine ⟨by simp [appOk, get_app g1, set_app g1, g1] <;> omega, ?_⟩
      repeat (first
        | (refine AWP_seq (AWP_regS tOk rfl ?_); simp [hw])
        | (refine AWP_regS tOk rfl ?_; simp [hw])
        | (refine AWP_skip ?_; simp [hw])
        | (refine AWP_exit ?_; simp [hw])
        | (refine AWP_ret ?_; simp [hw])
        | refine AWP_block ?_
        | refine AWP_seq ?_)
      exact ALoop_keep (sl' := [(6, .sl H2.length 2 0 (acc.length + ls[j].length)), (25, .list (ls.map encL)), (26, .i ls.length), (27, .i (j + 1 : Nat))]) (by
        have := ih' H2.length (H2.set q .dead ++ [.arr 59 2 ((acc ++ ls[j]).map encIv)]) (by rw [List.getElem?_append_right (by simp)]; simp)
        simpa using this) (by simp)
    · have hge' : j = ls.length := by simp at hge; omega
      subst hge'
      rw [catL_all] at g1
      rw [List.take_length]
      repeat (first
        | (refine AWP_seq (AWP_regS tOk rfl ?_); simp [g1])
        | (refine AWP_regS tOk rfl ?_; simp [g1])
        | (refine AWP_skip ?_; simp [g1])
        | (refine AWP_exit ?_; simp [g1])
        | (refine AWP_ret ?_; simp [g1])
        | refine AWP_block ?_
        | refine AWP_seq ?_)
      rw [List.take_of_length_le (by simp)]
end Go.Abs
set_option maxRecDepth 100000
namespace Go.Abs
open Go Go.Proofs Go.RowKit Go.Shelf Go.Lib Go.Sort
set_option linter.unusedSimpArgs false
def sortI (zs : List Int) : List Int := zs.mergeSort fun x y => decide (x ≤ y)
theorem sortI_len (zs : List Int) : (sortI zs).length = zs.length := by simp [sortI]
theorem fc_SortInt (H : List AObj) (p : Nat) (zs : List Int) (hp : H[p]? = some (.arr 3 1 (zs.map (AV.int .i64)))) (hl : zs.length ≤ 1000000) :
    FC Tryz.prog 80 [.sl p 1 0 zs.length] H (fun r H' => r = .tup [] ∧ H' = H.set p (.arr 3 1 ((sortI zs).map (AV.int .i64)))) := by
  refine (FC_row (xs := zs.map (AV.int .i64)) (rest := []) (callable Tryz.func80 rfl rfl) (by simp) hp (rowI zs) [] (fun w I m vs a b => by simpa using a) (fun xs' => xs' = (sortI zs).map (AV.int .i64)) ?_ ?_).mono ?_
  · intro b cap w hH hb hc
    have := Tryz.slices_Sort_int b 0 cap zs w (holds_int hH) hb (by omega)
    refine Calls.mono (by simpa using this) ?_
    rintro e w' ⟨rfl, n, os, rfl⟩
    exact ⟨rfl, _, ((sortI zs).map (Value.int .i64)).toArray, n, os, rfl, by simp [sortI_len], rowI _, by rw [putRow_int]; rfl⟩
  · rintro h
    have hl0 : zs = [] := by simpa using h
    subst hl0
    exact ⟨by simp [sortI], fun w => by simpa using Tryz.slices_Sort_int_none none 0 w⟩
  · rintro r H' ⟨rfl, xs', rfl, rfl⟩
    exact ⟨rfl, rfl⟩
theorem fc_CompactInt (H : List AObj) (p : Nat) (zs : List Int) (hp : H[p]? = some (.arr 3 1 (zs.map (AV.int .i64)))) (hl : zs.length ≤ 1000000) (hcl : (Lib.compact zs).length ≤ zs.length) :
    FC Tryz.prog 81 [.sl p 1 0 zs.length] H (fun r H' => r = .sl p 1 0 (Lib.compact zs).length ∧ ∃ G : List Int, H' = H.set p (.arr 3 1 ((Lib.compact zs ++ G).map (AV.int .i64)))) := by
  refine (FC_rowS (xs := zs.map (AV.int .i64)) (callable Tryz.func81 rfl rfl) (by simp) hp (rowI zs) (fun xs' n => n = (Lib.compact zs).length ∧ ∃ G : List Int, xs' = (Lib.compact zs ++ G).map (AV.int .i64)) (fun ys n h => by rw [h.1]; exact hcl) ?_ ?_).mono ?_
  · intro b cap w hH hb hc hm
    have := Tryz.slices_Compact_int b 0 cap zs w (holds_int hH) (by omega) hc
    refine Calls.mono (by simpa using this) ?_
    rintro e w' ⟨rfl, q, rfl⟩
    exact ⟨_, ((Lib.compact zs ++ List.replicate (zs.length - (Lib.compact zs).length) 0).map (Value.int .i64)).toArray, q, _, rfl, ⟨rfl, _, rfl⟩, by simp; omega, rowI _, by rw [← putRow_int]⟩
  · rintro h
    have hl0 : zs = [] := by simpa using h
    subst hl0
    exact ⟨⟨rfl, [], rfl⟩, fun w => by simpa using Tryz.slices_Compact_int_empty none 0 w⟩
  · rintro r H' ⟨xs', n, rfl, ⟨rfl, G, rfl⟩, rfl⟩
    exact ⟨rfl, G, rfl⟩
end Go.Abs
set_option maxRecDepth 100000
namespace Go.Abs
open Go Go.Proofs
set_option linter.unusedSimpArgs false
attribute [simp] T106
def ptsR : List Iv → List Int
  | [] => []
  | x :: r => x.lo :: (x.hi + 1) :: ptsR r
theorem pts_snoc : ∀ (l : List Iv) (x : Iv), ptsR (l ++ [x]) = ptsR l ++ [x.lo, x.hi + 1]
  | [], x => rfl
  | y :: r, x => by rw [List.cons_append, ptsR, pts_snoc r, ptsR]; rfl
theorem pts_len : ∀ (l : List Iv), (ptsR l).length = 2 * l.length
  | [] => rfl
  | x :: r => by rw [ptsR, List.length_cons, List.length_cons, pts_len r, List.length_cons]; omega
theorem pts_nil : ptsR [] = [] := rfl
def cutsR (l : List Iv) : List Int := Lib.compact (sortI (ptsR l))
/-- What sweep has made, of the cuts so far. -/
def swFrom (f : Int → Bool) : List Int → List Iv → List Iv
  | c :: d :: r, acc => swFrom f (d :: r) (if f c = true then pushR acc ⟨c, d - 1⟩ else acc)
  | _, acc => acc
theorem push_wide {acc : List Iv} {x : Iv} (ha : ∀ y ∈ acc, wideI y) (hx : wideI x) : ∀ y ∈ pushR acc x, wideI y := by
  rcases List.eq_nil_or_concat acc with rfl | ⟨ini, z, rfl⟩
  · simpa [pushR] using hx
  · have hz := ha z (by simp)
    have hi : ∀ y ∈ ini, wideI y := fun y hy => ha y (by simp [hy])
    intro y hy
    rw [List.concat_eq_append, pushR_concat] at hy
    split at hy
    · rcases List.mem_append.1 hy with h | h
      · exact hi y h
      · simp at h; subst h
        unfold wideI at *
        simp only
        split <;> omega
    · rcases List.mem_append.1 hy with h | h
      · rcases List.mem_append.1 h with h | h
        · exact hi y h
        · simp at h; subst h; exact hz
      · simp at h; subst h; exact hx
theorem pts_mem : ∀ (l : List Iv) (z : Int), z ∈ ptsR l → ∃ x ∈ l, z = x.lo ∨ z = x.hi + 1
  | [], z, h => by simp [ptsR] at h
  | y :: r, z, h => by
    rw [ptsR] at h
    rcases List.mem_cons.1 h with h | h
    · exact ⟨y, by simp, .inl h⟩
    · rcases List.mem_cons.1 h with h | h
      · exact ⟨y, by simp, .inr h⟩
      · obtain ⟨x, hx, hz⟩ := pts_mem r z h
        exact ⟨x, by simp [hx], hz⟩
theorem sortI_mem (zs : List Int) (z : Int) (h : z ∈ sortI zs) : z ∈ zs := by
  unfold sortI at h; simpa using h
def sweepR (op : Bool → Bool → Bool) (a b : List Iv) : List Iv := swFrom (fun n => op (hasR a n) (hasR b n)) (cutsR (a ++ b)) []
theorem compact_len (zs : List Int) : (Lib.compact zs).length ≤ zs.length := by
  unfold Lib.compact Lib.compactUpTo
  rw [List.length_map]
  exact Nat.le_trans (List.length_filter_le _ _) (by simp)
theorem compact_mem {zs : List Int} {z : Int} (h : z ∈ Lib.compact zs) : z ∈ zs := by
  unfold Lib.compact Lib.compactUpTo at h
  obtain ⟨i, hi, rfl⟩ := List.mem_map.1 h
  have hi' : i < zs.length := by simpa using (List.mem_filter.1 hi).1
  rw [getElem!_pos _ i (by simpa using hi')]
  simp
theorem catL_two (a b : List Iv) : catL [a, b] = a ++ b := by simp [catL]
attribute [local irreducible] ckR hasR catL pushR sortI Lib.compact ptsR
set_option maxHeartbeats 4000000 in
theorem pc_sweep (g : Nat) (op : Bool → Bool → Bool) (hg : ∀ x y, PC Tryz.prog g [.bool x, .bool y] (fun r => r = .bool (op x y))) (a b : List Iv) (ha : CanonL a) (hb : CanonL b) :
    PC Tryz.prog 57 [LIv a, LIv b, .fn (.func g) [] []] (fun r => r = LIv (sweepR op a b)) := by
  refine PC_body tOk Tryz.func57 rfl Tryz.results57 rfl (by simp [Tryz.ntmps57]) ?_
  rw [Tryz.ntmps57]
  simp only [argSlots]
  have hla := ha.len
  have hlb := hb.len
  repeat (first
    | (refine AWP_seq (AWP_regS tOk rfl ?_); simp)
    | (refine AWP_regS tOk rfl ?_; simp)
    | (refine AWP_skip ?_; simp)
    | (refine AWP_exit ?_; simp)
    | (refine AWP_ret ?_; simp)
    | refine AWP_block ?_
    | refine AWP_seq ?_)
  have hc : ∀ y ∈ a ++ b, -1099511627776 ≤ y.lo ∧ y.lo ≤ y.hi ∧ y.hi ≤ 1099511627776 := fun y hy => by
    rcases List.mem_append.1 hy with h | h <;> obtain ⟨i, hi, rfl⟩ := List.getElem_of_mem h
    · exact ha.iv hi
    · exact hb.iv hi
  have hcl : (a ++ b).length ≤ 512 := by rw [List.length_append]; omega
  obtain ⟨R, hR⟩ : ∃ R, sweepR op a b = R := ⟨_, rfl⟩
  rw [hR]
  rw [sweepR] at hR
  refine AStep_freeze 0 rfl ?_
  simp
  refine AStep_PC rfl rfl (by simp) (pc_Concat [a, b] (by simp) (by rw [catL_two, List.length_append]; omega)) rfl ?_
  rintro _ rfl
  simp [catL_two, -List.map_append]
  have hlc : (a.length : Int) + b.length = ((a ++ b).length : Nat) := by simp
  generalize a ++ b = c at *
  rw [hlc]
  repeat (first
    | (refine AWP_seq (AWP_regS tOk rfl ?_); simp)
    | (refine AWP_regS tOk rfl ?_; simp)
    | (refine AWP_skip ?_; simp)
    | (refine AWP_exit ?_; simp)
    | (refine AWP_ret ?_; simp)
    | refine AWP_block ?_
    | refine AWP_seq ?_)
  refine AWP_keep (sl' := [(0, LIv a), (1, LIv b), (2, .fn (.func g) [] []), (7, .nils), (15, LIv c), (16, .i c.length), (17, .i 0)]) ?_ (by simp)
  refine AWP_drop (H := []) _ ?_ (by simp) (by simp) (by simp)
  refine AWP_nilSlot 7 3 1 rfl ?_
  simp
  refine AWP_loop (ALoop_keep (sl' := [(0, LIv a), (1, LIv b), (2, .fn (.func g) [] []), (7, .sl 0 1 0 (ptsR (c.take 0)).length), (15, LIv c), (16, .i c.length), (17, .i 0)]) ?_ (by simp [pts_nil]))
  refine ALoop_wf (F := fun (u : Nat × Nat × List AObj) => ⟨[(0, LIv a), (1, LIv b), (2, .fn (.func g) [] []), (7, .sl u.2.1 1 0 (ptsR (c.take u.1)).length), (15, LIv c), (16, .i c.length), (17, .i u.1)], u.2.2⟩)
    (fun u => u.1 ≤ c.length ∧ u.2.2[u.2.1]? = some (.arr 3 1 ((ptsR (c.take u.1)).map (AV.int .i64)))) (fun u => c.length - u.1) ?_ (0, 0, [.arr 3 1 []]) ⟨by simp, by simp [pts_nil]⟩
  rintro ⟨j, q, H2⟩ ⟨hj, g1⟩ ih
  simp only at hj g1 ih ⊢
  repeat (first
    | (refine AWP_seq (AWP_regS tOk rfl ?_); simp)
    | (refine AWP_regS tOk rfl ?_; simp)
    | (refine AWP_skip ?_; simp)
    | (refine AWP_exit ?_; simp)
    | (refine AWP_ret ?_; simp)
    | refine AWP_block ?_
    | refine AWP_seq ?_)
  refine AWP_cond2 rfl (fun hlt => ?_) (fun hge => ?_)
  · have hlt' : j < c.length := by simpa using hlt
    have hw : IntKind.i64.wrap ((j : Int) + 1) = j + 1 := wrap_i64 _ (by omega) (by omega)
    have hcj := hc _ (List.getElem_mem hlt')
    have hw2 : IntKind.i64.wrap (c[j].hi + 1) = c[j].hi + 1 := wrap_i64 _ (by omega) (by omega)
    have hs : ptsR (c.take (j + 1)) = ptsR (c.take j) ++ [c[j].lo, c[j].hi + 1] := by rw [List.take_succ_eq_append_getElem hlt', pts_snoc]
    have hpl : (ptsR (c.take j)).length ≤ 1024 := by rw [pts_len, List.length_take]; omega
    have ih' := fun (q' : Nat) (H' : List AObj) (h : H'[q']? = some (.arr 3 1 ((ptsR (c.take j) ++ [c[j].lo, c[j].hi + 1]).map (AV.int .i64)))) => ih (j + 1, q', H') ⟨by simp; omega, by rw [hs]; exact h⟩ (by simp; omega)
    clear ih
    simp only [hs] at ih'
    clear hs
    generalize ptsR (c.take j) = acc at *
    repeat (first
      | (refine AWP_seq (AWP_regS tOk rfl ?_); simp [hlt', hw2])
      | (refine AWP_regS tOk rfl ?_; simp [hlt', hw2])
      | (refine AWP_skip ?_; simp [hlt', hw2])
      | (refine AWP_exit ?_; simp [hlt', hw2])
      | (refine AWP_ret ?_; simp [hlt', hw2])
      | refine AWP_block ?_
      | refine AWP_seq ?_)
    refine AStep_appendS tOk rfl rfl T106 rfl T3 rfl (by decide) (by decide) rfl rfl rfl ?_
    simp [get_app g1, set_app g1]
    refine ⟨by simp [appOk] <;> omega, ?_⟩
    repeat (first
      | (refine AWP_seq (AWP_regS tOk rfl ?_); simp [hw])
      | (refine AWP_regS tOk rfl ?_; simp [hw])
      | (refine AWP_skip ?_; simp [hw])
      | (refine AWP_exit ?_; simp [hw])
      | (refine AWP_ret ?_; simp [hw])
      | refine AWP_block ?_
      | refine AWP_seq ?_)
    exact ALoop_keep (sl' := [(0, LIv a), (1, LIv b), (2, .fn (.func g) [] []), (7, .sl (H2.length + 2) 1 0 (acc.length + 2)), (15, LIv c), (16, .i c.length), (17, .i (j + 1 : Nat))]) (by
      have := ih' (H2.length + 2) (H2.set q .dead ++ [.vars [.int .i64 c[j].lo, .int .i64 c[j].hi], .arr 3 1 [.int .i64 c[j].lo, .int .i64 (c[j].hi + 1)], .arr 3 1 ((acc ++ [c[j].lo, c[j].hi + 1]).map (AV.int .i64))]) (by rw [List.getElem?_append_right (by simp)]; simp)
      simpa using this) (by simp)
  · have hge' : j = c.length := by simp at hge; omega
    subst hge'
    rw [List.take_length] at g1
    rw [List.take_length]
    repeat (first
      | (refine AWP_seq (AWP_regS tOk rfl ?_); simp)
      | (refine AWP_regS tOk rfl ?_; simp)
      | (refine AWP_skip ?_; simp)
      | (refine AWP_exit ?_; simp)
      | (refine AWP_ret ?_; simp)
      | refine AWP_block ?_
      | refine AWP_seq ?_)
    have hpl : (ptsR c).length ≤ 1024 := by rw [pts_len]; omega
    refine AStep_FC rfl rfl (fc_SortInt H2 q (ptsR c) g1 (by omega)) rfl ?_
    rintro r H' ⟨rfl, rfl⟩
    simp
    repeat (first
      | (refine AWP_seq (AWP_regS tOk rfl ?_); simp)
      | (refine AWP_regS tOk rfl ?_; simp)
      | (refine AWP_skip ?_; simp)
      | (refine AWP_exit ?_; simp)
      | (refine AWP_ret ?_; simp)
      | refine AWP_block ?_
      | refine AWP_seq ?_)
    have g2 := get_self g1 (.arr 3 1 ((sortI (ptsR c)).map (AV.int .i64)))
    have hsl := sortI_len (ptsR c)
    rw [← hsl]
    refine AStep_FC rfl rfl (fc_CompactInt _ q (sortI (ptsR c)) g2 (by omega) (compact_len _)) rfl ?_
    rintro r H' ⟨rfl, G, rfl⟩
    simp
    have g3 := get_self g1 (.arr 3 1 ((Lib.compact (sortI (ptsR c)) ++ G).map (AV.int .i64)))
    have hcm : ∀ z ∈ cutsR c, -1099511627776 ≤ z ∧ z ≤ 1099511627777 := fun z hz => by
      obtain ⟨x, hx, h⟩ := pts_mem c z (sortI_mem _ _ (compact_mem hz))
      have := hc x hx
      omega
    have hcn : (cutsR c).length ≤ 1024 := Nat.le_trans (compact_len _) (by omega)
    change swFrom _ (Lib.compact (sortI (ptsR c))) [] = R at hR
    unfold cutsR at hcm hcn
    generalize Lib.compact (sortI (ptsR c)) = cs at *
    repeat (first
      | (refine AWP_seq (AWP_regS tOk rfl ?_); simp)
      | (refine AWP_regS tOk rfl ?_; simp)
      | (refine AWP_skip ?_; simp)
      | (refine AWP_exit ?_; simp)
      | (refine AWP_ret ?_; simp)
      | refine AWP_block ?_
      | refine AWP_seq ?_)
    refine AWP_keep (sl' := [(0, LIv a), (1, LIv b), (2, .fn (.func g) [] []), (7, .sl q 1 0 cs.length), (10, .nils), (11, .i 0)]) ?_ (by simp)
    simp only [← List.map_append]
    refine AWP_trunc q cs.length g3 ?_
    rw [List.map_append, List.take_append_of_le_length (by simp), List.take_of_length_le (by simp)]
    have g4 : ((H2.set q (.arr 3 1 ((cs ++ G).map (AV.int .i64)))).set q (.arr 3 1 (cs.map (AV.int .i64))))[q]? = some (.arr 3 1 (cs.map (AV.int .i64))) := get_self g3 _
    rw [List.map_append] at g4
    refine AWP_freeze q g4 ?_
    simp
    refine AWP_drop (H := []) _ ?_ (by simp) (by simp) (by simp)
    refine AWP_nilSlot 10 59 2 rfl ?_
    simp
    refine AWP_keep (sl' := [(0, LIv a), (1, LIv b), (2, .fn (.func g) [] []), (7, .list (cs.map (AV.int .i64))), (10, .sl 0 2 0 0), (11, .i 0)]) ?_ (by simp; rw [List.take_of_length_le (by simp)])
    refine AWP_loop ?_
    refine ALoop_wf (F := fun (u : Nat × Nat × List Iv × List AObj) => ⟨[(0, LIv a), (1, LIv b), (2, .fn (.func g) [] []), (7, .list (cs.map (AV.int .i64))), (10, .sl u.2.1 2 0 u.2.2.1.length), (11, .i u.1)], u.2.2.2⟩)
      (fun u => u.1 ≤ cs.length ∧ u.2.2.2[u.2.1]? = some (.arr 59 2 (u.2.2.1.map encIv)) ∧ (∀ y ∈ u.2.2.1, wideI y) ∧ u.2.2.1.length ≤ u.1 ∧ swFrom (fun n => op (hasR a n) (hasR b n)) (cs.drop u.1) u.2.2.1 = R) (fun u => cs.length - u.1) ?_ (0, 0, [], [.arr 59 2 []]) ⟨by simp, rfl, by simp, by simp, by simpa using hR⟩
    clear hR
    rintro ⟨j, q, acc, H2⟩ ⟨hj, g1, hwd, hal, hI⟩ ih
    simp only at hj g1 hwd hal hI ih ⊢
    have hw : IntKind.i64.wrap ((j : Int) + 1) = j + 1 := wrap_i64 _ (by omega) (by omega)
    repeat (first
      | (refine AWP_seq (AWP_regS tOk rfl ?_); simp [hw])
      | (refine AWP_regS tOk rfl ?_; simp [hw])
      | (refine AWP_skip ?_; simp [hw])
      | (refine AWP_exit ?_; simp [hw])
      | (refine AWP_ret ?_; simp [hw])
      | refine AWP_block ?_
      | refine AWP_seq ?_)
    refine AWP_cond2 rfl (fun hlt => ?_) (fun hge => ?_)
    · have hlt2 : j + 1 < cs.length := by simp at hlt; omega
      have hlt1 : j < cs.length := by omega
      have hlt1' : (j : Int) < cs.length := by omega
      have hlt2' : (j : Int) + 1 < cs.length := by omega
      have ht1 : ((j : Int) + 1).toNat = j + 1 := by omega
      have hp1 : (0 : Int) ≤ (j : Int) + 1 := by omega
      have hd : cs.drop j = cs[j] :: cs[j + 1] :: cs.drop (j + 2) := by rw [drop_get hlt1, drop_get hlt2]
      have hd2 : cs.drop (j + 1) = cs[j + 1] :: cs.drop (j + 2) := drop_get hlt2
      rw [hd, swFrom, ← hd2] at hI
      repeat (first
        | (refine AWP_seq (AWP_regS tOk rfl ?_); simp)
        | (refine AWP_regS tOk rfl ?_; simp)
        | (refine AWP_skip ?_; simp)
        | (refine AWP_exit ?_; simp)
        | (refine AWP_ret ?_; simp)
        | refine AWP_block ?_
        | refine AWP_seq ?_)
      refine AWP_drawT tOk mixed [] (.val 0 (.val 1 (.val 2 (.val 3 (.val 4 (.val 5 (.val 7 (.val 8 (.val 9 (.val 10 (.val 11 (.one 6 (.one 12 (.one 13 (.done))))))))))))))) rfl (by kernel_rfl) ?_
      simp [hlt1, hlt1']
      refine AStep_PC rfl rfl (by simp) (pc_has a cs[j] ha) rfl ?_
      rintro _ rfl
      simp [hlt1, hlt1']
      refine AStep_PC rfl rfl (by simp) (pc_has b cs[j] hb) rfl ?_
      rintro _ rfl
      simp [hlt1, hlt1']
      refine AStep_PC rfl rfl (by simp) (hg (hasR a cs[j]) (hasR b cs[j])) rfl ?_
      rintro _ rfl
      simp [hlt1, hlt1']
      have hm1 := hcm _ (List.getElem_mem hlt1)
      have hm2 := hcm _ (List.getElem_mem hlt2)
      have hw2 : IntKind.i64.wrap (cs[j + 1] - 1) = cs[j + 1] - 1 := wrap_i64 _ (by omega) (by omega)
      refine AWP_cond2 rfl (fun h1 => ?_) (fun h1 => ?_)
      · rw [if_pos h1] at hI
        repeat (first
          | (refine AWP_seq (AWP_regS tOk rfl ?_); simp)
          | (refine AWP_regS tOk rfl ?_; simp)
          | (refine AWP_skip ?_; simp)
          | (refine AWP_exit ?_; simp)
          | (refine AWP_ret ?_; simp)
          | refine AWP_block ?_
          | refine AWP_seq ?_)
        refine AWP_drawT tOk mixed [12] (.val 0 (.val 1 (.val 2 (.val 3 (.val 4 (.val 5 (.val 6 (.val 7 (.val 8 (.val 9 (.val 10 (.val 11 (.one 12 (.val 13 .done)))))))))))))) rfl (by kernel_rfl) ?_
        simp [hlt1, hlt1', hw, hw2, hlt2, hlt2', ht1, hp1]
        refine AStep_FC rfl rfl (fc_push H2 q acc ⟨cs[j], cs[j + 1] - 1⟩ g1 (by omega) hwd) rfl ?_
        rintro r H' ⟨q', rfl, k1, k2, k3⟩
        simp
        repeat (first
          | (refine AWP_seq (AWP_regS tOk rfl ?_); simp [hw])
          | (refine AWP_regS tOk rfl ?_; simp [hw])
          | (refine AWP_skip ?_; simp [hw])
          | (refine AWP_exit ?_; simp [hw])
          | (refine AWP_ret ?_; simp [hw])
          | refine AWP_block ?_
          | refine AWP_seq ?_)
        have hpl2 := push_len acc ⟨cs[j], cs[j + 1] - 1⟩
        have key := ih (j + 1, q', pushR acc ⟨cs[j], cs[j + 1] - 1⟩, H') ⟨by simp only; omega, k1, push_wide hwd (by unfold wideI; simp only; omega), by simp only; omega, hI⟩ (by simp only; omega)
        exact ALoop_keep key (by simp)
      · rw [if_neg (by simpa using h1)] at hI
        repeat (first
          | (refine AWP_seq (AWP_regS tOk rfl ?_); simp [hw])
          | (refine AWP_regS tOk rfl ?_; simp [hw])
          | (refine AWP_skip ?_; simp [hw])
          | (refine AWP_exit ?_; simp [hw])
          | (refine AWP_ret ?_; simp [hw])
          | refine AWP_block ?_
          | refine AWP_seq ?_)
        exact ALoop_keep (sl' := [(0, LIv a), (1, LIv b), (2, .fn (.func g) [] []), (7, .list (cs.map (AV.int .i64))), (10, .sl q 2 0 acc.length), (11, .i (j + 1 : Nat))]) (ih (j + 1, q, acc, H2) ⟨by simp only; omega, g1, hwd, by simp only; omega, hI⟩ (by simp only; omega)) (by simp)
    · have hge' : cs.length ≤ j + 1 := by simp at hge; omega
      have hs : swFrom (fun n => op (hasR a n) (hasR b n)) (cs.drop j) acc = acc := by
        rcases hd : cs.drop j with _ | ⟨x, _ | ⟨y, r⟩⟩
        · rfl
        · rfl
        · have := congrArg List.length hd
          simp at this; omega
      rw [hs] at hI
      subst hI
      repeat (first
        | (refine AWP_seq (AWP_regS tOk rfl ?_); simp [g1])
        | (refine AWP_regS tOk rfl ?_; simp [g1])
        | (refine AWP_skip ?_; simp [g1])
        | (refine AWP_exit ?_; simp [g1])
        | (refine AWP_ret ?_; simp [g1])
        | refine AWP_block ?_
        | refine AWP_seq ?_)
      rw [List.take_of_length_le (by simp)]
end Go.Abs
set_option maxRecDepth 100000
namespace Go.Abs
open Go Go.Proofs
set_option linter.unusedSimpArgs false
attribute [local irreducible] ckR sweepR
def opMinus (x y : Bool) : Bool := x && !y
theorem pc_Minus1 (x y : Bool) : PC Tryz.prog 42 [.bool x, .bool y] (fun r => r = .bool (opMinus x y)) := by
  refine PC_body tOk Tryz.func42 rfl Tryz.results42 rfl (by simp [Tryz.ntmps42]) ?_
  rw [Tryz.ntmps42]
  simp only [argSlots]
  repeat (first
    | (refine AWP_seq (AWP_regS tOk rfl ?_); simp)
    | (refine AWP_regS tOk rfl ?_; simp)
    | (refine AWP_skip ?_; simp)
    | (refine AWP_exit ?_; simp)
    | (refine AWP_ret ?_; simp)
    | refine AWP_block ?_
    | refine AWP_seq ?_)
  cases x <;> cases y <;> rfl
theorem pc_Inside1 (x y : Bool) : PC Tryz.prog 58 [.bool x, .bool y] (fun r => r = .bool (opMinus x y)) := by
  refine PC_body tOk Tryz.func58 rfl Tryz.results58 rfl (by simp [Tryz.ntmps58]) ?_
  rw [Tryz.ntmps58]
  simp only [argSlots]
  repeat (first
    | (refine AWP_seq (AWP_regS tOk rfl ?_); simp)
    | (refine AWP_regS tOk rfl ?_; simp)
    | (refine AWP_skip ?_; simp)
    | (refine AWP_exit ?_; simp)
    | (refine AWP_ret ?_; simp)
    | refine AWP_block ?_
    | refine AWP_seq ?_)
  cases x <;> cases y <;> rfl
theorem pc_Union1 (x y : Bool) : PC Tryz.prog 36 [.bool x, .bool y] (fun r => r = .bool (x || y)) := by
  refine PC_body tOk Tryz.func36 rfl Tryz.results36 rfl (by simp [Tryz.ntmps36]) ?_
  rw [Tryz.ntmps36]
  simp only [argSlots]
  repeat (first
    | (refine AWP_seq (AWP_regS tOk rfl ?_); simp)
    | (refine AWP_regS tOk rfl ?_; simp)
    | (refine AWP_skip ?_; simp)
    | (refine AWP_exit ?_; simp)
    | (refine AWP_ret ?_; simp)
    | refine AWP_block ?_
    | refine AWP_seq ?_)
theorem pc_Intersect1 (x y : Bool) : PC Tryz.prog 40 [.bool x, .bool y] (fun r => r = .bool (x && y)) := by
  refine PC_body tOk Tryz.func40 rfl Tryz.results40 rfl (by simp [Tryz.ntmps40]) ?_
  rw [Tryz.ntmps40]
  simp only [argSlots]
  repeat (first
    | (refine AWP_seq (AWP_regS tOk rfl ?_); simp)
    | (refine AWP_regS tOk rfl ?_; simp)
    | (refine AWP_skip ?_; simp)
    | (refine AWP_exit ?_; simp)
    | (refine AWP_ret ?_; simp)
    | refine AWP_block ?_
    | refine AWP_seq ?_)
def combR (op : Bool → Bool → Bool) (a b : List Iv) : AV := if bothR a b = 0 then limR (sweepR op a b) else .tup [.list [], .i (bothR a b)]
theorem both_zero {a b : List Iv} (h : bothR a b = 0) : CanonL a ∧ CanonL b := by
  unfold bothR at h
  by_cases h1 : ckR a = 0
  · rw [if_pos h1] at h; exact ⟨(ck_iff a).1 h1, (ck_iff b).1 h⟩
  · rw [if_neg h1] at h; exact absurd h h1
attribute [local irreducible] bothR
set_option maxHeartbeats 1000000 in
theorem pc_combine (g : Nat) (op : Bool → Bool → Bool) (hg : ∀ x y, PC Tryz.prog g [.bool x, .bool y] (fun r => r = .bool (op x y))) (a b : List Iv) :
    PC Tryz.prog 35 [LIv a, LIv b, .fn (.func g) [] []] (fun r => r = combR op a b) := by
  refine PC_body tOk Tryz.func35 rfl Tryz.results35 rfl (by simp [Tryz.ntmps35]) ?_
  rw [Tryz.ntmps35]
  simp only [argSlots]
  repeat (first
    | (refine AWP_seq (AWP_regS tOk rfl ?_); simp)
    | (refine AWP_regS tOk rfl ?_; simp)
    | (refine AWP_skip ?_; simp)
    | (refine AWP_exit ?_; simp)
    | (refine AWP_ret ?_; simp)
    | refine AWP_block ?_
    | refine AWP_seq ?_)
  refine AStep_PC rfl rfl (by simp) (pc_both a b) rfl ?_
  rintro _ rfl
  simp
  repeat (first
    | (refine AWP_seq (AWP_regS tOk rfl ?_); simp)
    | (refine AWP_regS tOk rfl ?_; simp)
    | (refine AWP_skip ?_; simp)
    | (refine AWP_exit ?_; simp)
    | (refine AWP_ret ?_; simp)
    | refine AWP_block ?_
    | refine AWP_seq ?_)
  refine AWP_cond2 rfl (fun h => ?_) (fun h => ?_)
  · repeat (first
      | (refine AWP_seq (AWP_regS tOk rfl ?_); simp)
      | (refine AWP_regS tOk rfl ?_; simp)
      | (refine AWP_skip ?_; simp)
      | (refine AWP_exit ?_; simp)
      | (refine AWP_ret ?_; simp)
      | refine AWP_block ?_
      | refine AWP_seq ?_)
    rw [combR, if_neg (by simpa using h)]
  have h0 : bothR a b = 0 := by simpa using h
  obtain ⟨h1, h2⟩ := both_zero h0
  rw [combR, if_pos h0]
  repeat (first
    | (refine AWP_seq (AWP_regS tOk rfl ?_); simp)
    | (refine AWP_regS tOk rfl ?_; simp)
    | (refine AWP_skip ?_; simp)
    | (refine AWP_exit ?_; simp)
    | (refine AWP_ret ?_; simp)
    | refine AWP_block ?_
    | refine AWP_seq ?_)
  refine AStep_PC rfl rfl (by simp) (pc_sweep g op hg a b h1 h2) rfl ?_
  rintro _ rfl
  simp
  generalize sweepR op a b = s
  by_cases hs : s.length ≤ 256
  · have e : limR s = .tup [LIv s, .i 0] := by rw [limR, if_pos hs]
    refine AStep_PC rfl rfl (by simp) (pc_limited s) rfl ?_
    rintro _ rfl
    simp [e]
    repeat (first
      | (refine AWP_seq (AWP_regS tOk rfl ?_); simp)
      | (refine AWP_regS tOk rfl ?_; simp)
      | (refine AWP_skip ?_; simp)
      | (refine AWP_exit ?_; simp)
      | (refine AWP_ret ?_; simp)
      | refine AWP_block ?_
      | refine AWP_seq ?_)
  · have e : limR s = .tup [.list [], .i 5] := by rw [limR, if_neg hs]
    refine AStep_PC rfl rfl (by simp) (pc_limited s) rfl ?_
    rintro _ rfl
    simp [e]
    repeat (first
      | (refine AWP_seq (AWP_regS tOk rfl ?_); simp)
      | (refine AWP_regS tOk rfl ?_; simp)
      | (refine AWP_skip ?_; simp)
      | (refine AWP_exit ?_; simp)
      | (refine AWP_ret ?_; simp)
      | refine AWP_block ?_
      | refine AWP_seq ?_)
attribute [local irreducible] combR
theorem pc_Minus (a b : List Iv) : PC Tryz.prog 13 [LIv a, LIv b] (fun r => r = combR opMinus a b) := by
  refine PC_body tOk Tryz.func13 rfl Tryz.results13 rfl (by simp [Tryz.ntmps13]) ?_
  rw [Tryz.ntmps13]
  simp only [argSlots]
  repeat (first
    | (refine AWP_seq (AWP_regS tOk rfl ?_); simp)
    | (refine AWP_regS tOk rfl ?_; simp)
    | (refine AWP_skip ?_; simp)
    | (refine AWP_exit ?_; simp)
    | (refine AWP_ret ?_; simp)
    | refine AWP_block ?_
    | refine AWP_seq ?_)
  have e : ∃ s n, combR opMinus a b = .tup [LIv s, .i n] := by
    unfold combR limR
    split
    · split
      · exact ⟨_, _, rfl⟩
      · exact ⟨[], 5, rfl⟩
    · exact ⟨[], _, rfl⟩
  obtain ⟨s, n, e⟩ := e
  refine AStep_PC rfl rfl (by simp) (pc_combine _ opMinus pc_Minus1 a b) rfl ?_
  rintro _ rfl
  simp [e]
  repeat (first
    | (refine AWP_seq (AWP_regS tOk rfl ?_); simp)
    | (refine AWP_regS tOk rfl ?_; simp)
    | (refine AWP_skip ?_; simp)
    | (refine AWP_exit ?_; simp)
    | (refine AWP_ret ?_; simp)
    | refine AWP_block ?_
    | refine AWP_seq ?_)
end Go.Abs
set_option maxRecDepth 100000
namespace Go.Abs
open Go Go.Proofs
set_option linter.unusedSimpArgs false
theorem comb_form (op : Bool → Bool → Bool) (a b : List Iv) : ∃ s n, combR op a b = .tup [LIv s, .i n] := by
  unfold combR limR
  split
  · split
    · exact ⟨_, _, rfl⟩
    · exact ⟨[], 5, rfl⟩
  · exact ⟨[], _, rfl⟩
attribute [local irreducible] combR bothR sweepR
def opUnion (x y : Bool) : Bool := x || y
def opInter (x y : Bool) : Bool := x && y
theorem pc_Union (a b : List Iv) : PC Tryz.prog 9 [LIv a, LIv b] (fun r => r = combR opUnion a b) := by
  refine PC_body tOk Tryz.func9 rfl Tryz.results9 rfl (by simp [Tryz.ntmps9]) ?_
  rw [Tryz.ntmps9]
  simp only [argSlots]
  repeat (first
    | (refine AWP_seq (AWP_regS tOk rfl ?_); simp)
    | (refine AWP_regS tOk rfl ?_; simp)
    | (refine AWP_skip ?_; simp)
    | (refine AWP_exit ?_; simp)
    | (refine AWP_ret ?_; simp)
    | refine AWP_block ?_
    | refine AWP_seq ?_)
  obtain ⟨s, n, e⟩ := comb_form opUnion a b
  refine AStep_PC rfl rfl (by simp) (pc_combine _ opUnion pc_Union1 a b) rfl ?_
  rintro _ rfl
  simp [e]
  repeat (first
    | (refine AWP_seq (AWP_regS tOk rfl ?_); simp)
    | (refine AWP_regS tOk rfl ?_; simp)
    | (refine AWP_skip ?_; simp)
    | (refine AWP_exit ?_; simp)
    | (refine AWP_ret ?_; simp)
    | refine AWP_block ?_
    | refine AWP_seq ?_)
theorem pc_Intersect (a b : List Iv) : PC Tryz.prog 11 [LIv a, LIv b] (fun r => r = combR opInter a b) := by
  refine PC_body tOk Tryz.func11 rfl Tryz.results11 rfl (by simp [Tryz.ntmps11]) ?_
  rw [Tryz.ntmps11]
  simp only [argSlots]
  repeat (first
    | (refine AWP_seq (AWP_regS tOk rfl ?_); simp)
    | (refine AWP_regS tOk rfl ?_; simp)
    | (refine AWP_skip ?_; simp)
    | (refine AWP_exit ?_; simp)
    | (refine AWP_ret ?_; simp)
    | refine AWP_block ?_
    | refine AWP_seq ?_)
  obtain ⟨s, n, e⟩ := comb_form opInter a b
  refine AStep_PC rfl rfl (by simp) (pc_combine _ opInter pc_Intersect1 a b) rfl ?_
  rintro _ rfl
  simp [e]
  repeat (first
    | (refine AWP_seq (AWP_regS tOk rfl ?_); simp)
    | (refine AWP_regS tOk rfl ?_; simp)
    | (refine AWP_skip ?_; simp)
    | (refine AWP_exit ?_; simp)
    | (refine AWP_ret ?_; simp)
    | refine AWP_block ?_
    | refine AWP_seq ?_)
def insideR (a b : List Iv) : Bool × Int := if bothR a b = 0 then (decide (sweepR opMinus a b = []), 0) else (false, bothR a b)
theorem pc_Inside (a b : List Iv) : PC Tryz.prog 30 [LIv a, LIv b] (fun r => r = .tup [.bool (insideR a b).1, .i (insideR a b).2]) := by
  refine PC_body tOk Tryz.func30 rfl Tryz.results30 rfl (by simp [Tryz.ntmps30]) ?_
  rw [Tryz.ntmps30]
  simp only [argSlots]
  repeat (first
    | (refine AWP_seq (AWP_regS tOk rfl ?_); simp)
    | (refine AWP_regS tOk rfl ?_; simp)
    | (refine AWP_skip ?_; simp)
    | (refine AWP_exit ?_; simp)
    | (refine AWP_ret ?_; simp)
    | refine AWP_block ?_
    | refine AWP_seq ?_)
  refine AStep_PC rfl rfl (by simp) (pc_both a b) rfl ?_
  rintro _ rfl
  simp
  repeat (first
    | (refine AWP_seq (AWP_regS tOk rfl ?_); simp)
    | (refine AWP_regS tOk rfl ?_; simp)
    | (refine AWP_skip ?_; simp)
    | (refine AWP_exit ?_; simp)
    | (refine AWP_ret ?_; simp)
    | refine AWP_block ?_
    | refine AWP_seq ?_)
  refine AWP_cond2 rfl (fun h => ?_) (fun h => ?_)
  · repeat (first
      | (refine AWP_seq (AWP_regS tOk rfl ?_); simp)
      | (refine AWP_regS tOk rfl ?_; simp)
      | (refine AWP_skip ?_; simp)
      | (refine AWP_exit ?_; simp)
      | (refine AWP_ret ?_; simp)
      | refine AWP_block ?_
      | refine AWP_seq ?_)
    rw [insideR, if_neg (by simpa using h)]; exact ⟨rfl, rfl⟩
  have h0 : bothR a b = 0 := by simpa using h
  obtain ⟨h1, h2⟩ := both_zero h0
  rw [insideR, if_pos h0]
  repeat (first
    | (refine AWP_seq (AWP_regS tOk rfl ?_); simp)
    | (refine AWP_regS tOk rfl ?_; simp)
    | (refine AWP_skip ?_; simp)
    | (refine AWP_exit ?_; simp)
    | (refine AWP_ret ?_; simp)
    | refine AWP_block ?_
    | refine AWP_seq ?_)
  refine AStep_PC rfl rfl (by simp) (pc_sweep _ opMinus pc_Inside1 a b h1 h2) rfl ?_
  rintro _ rfl
  simp
  generalize sweepR opMinus a b = s
  repeat (first
    | (refine AWP_seq (AWP_regS tOk rfl ?_); simp)
    | (refine AWP_regS tOk rfl ?_; simp)
    | (refine AWP_skip ?_; simp)
    | (refine AWP_exit ?_; simp)
    | (refine AWP_ret ?_; simp)
    | refine AWP_block ?_
    | refine AWP_seq ?_)
  cases s with
  | nil => simp
  | cons x r => simp; omega
end Go.Abs
set_option maxRecDepth 100000
namespace Go.Abs
open Go Go.Proofs
set_option linter.unusedSimpArgs false
theorem fc_gaps (H : List AObj) (l : List Iv) : FC Tryz.prog 44 [LIv l] H (fun r H' => r = .fn (.func 68) [] [.vptr H.length 0] ∧ H' = H ++ [.vars [LIv l]]) := by
  refine FC_body tOk Tryz.func44 rfl Tryz.results44 rfl (by simp [Tryz.ntmps44]) ?_
  rw [Tryz.ntmps44]
  simp only [argSlots]
  repeat (first
    | (refine AWP_seq (AWP_regS tOk rfl ?_); simp)
    | (refine AWP_regS tOk rfl ?_; simp)
    | (refine AWP_skip ?_; simp)
    | (refine AWP_exit ?_; simp)
    | (refine AWP_ret ?_; simp)
    | refine AWP_block ?_
    | refine AWP_seq ?_)
/-- The free stretches, from a place on. -/
def gapFrom : List Iv → Int → List Iv
  | [], n => if n ≤ 1099511627776 then [⟨n, 1099511627776⟩] else []
  | x :: r, n => (if n < x.lo then [⟨n, x.lo - 1⟩] else []) ++ gapFrom r (x.hi + 1)
def gapsR (l : List Iv) : List Iv := gapFrom l (-1099511627776)
end Go.Abs
set_option maxRecDepth 100000
namespace Go.Abs
open Go Go.Proofs
set_option linter.unusedSimpArgs false
def complR (l : List Iv) : AV := if ckR l = 0 then limR (gapsR l) else .tup [.list [], .i (ckR l)]
theorem gapFrom_len : ∀ (l : List Iv) (n : Int), (gapFrom l n).length ≤ l.length + 1
  | [], n => by rw [gapFrom]; split <;> simp
  | x :: r, n => by have := gapFrom_len r (x.hi + 1); rw [gapFrom, List.length_append, List.length_cons]; split <;> simp <;> omega
theorem gapFrom_cons (x : Iv) (r : List Iv) (n : Int) : gapFrom (x :: r) n = (if n < x.lo then [⟨n, x.lo - 1⟩] else []) ++ gapFrom r (x.hi + 1) := rfl
theorem gapFrom_nil (n : Int) : gapFrom [] n = if n ≤ 1099511627776 then [⟨n, 1099511627776⟩] else [] := rfl
theorem get_app' {H : List AObj} {i : Nat} {x : AObj} (h : H[i]? = some x) (G : List AObj) (hh : i < (H ++ G).length) : (H ++ G)[i]'hh = x := by
  have := get_app h G
  rw [List.getElem?_eq_getElem hh] at this
  exact Option.some.inj this
attribute [local irreducible] ckR gapsR gapFrom
set_option maxHeartbeats 2000000 in
theorem pc_Complement (l : List Iv) : PC Tryz.prog 15 [LIv l] (fun r => r = complR l) := by
  refine PC_body tOk Tryz.func15 rfl Tryz.results15 rfl (by simp [Tryz.ntmps15]) ?_
  rw [Tryz.ntmps15]
  simp only [argSlots]
  repeat (first
    | (refine AWP_seq (AWP_regS tOk rfl ?_); simp)
    | (refine AWP_regS tOk rfl ?_; simp)
    | (refine AWP_skip ?_; simp)
    | (refine AWP_exit ?_; simp)
    | (refine AWP_ret ?_; simp)
    | refine AWP_block ?_
    | refine AWP_seq ?_)
  refine AStep_PC rfl rfl (by simp) (pc_Check l) rfl ?_
  rintro _ rfl
  simp
  repeat (first
    | (refine AWP_seq (AWP_regS tOk rfl ?_); simp)
    | (refine AWP_regS tOk rfl ?_; simp)
    | (refine AWP_skip ?_; simp)
    | (refine AWP_exit ?_; simp)
    | (refine AWP_ret ?_; simp)
    | refine AWP_block ?_
    | refine AWP_seq ?_)
  refine AWP_cond2 rfl (fun h => ?_) (fun h => ?_)
  · repeat (first
      | (refine AWP_seq (AWP_regS tOk rfl ?_); simp)
      | (refine AWP_regS tOk rfl ?_; simp)
      | (refine AWP_skip ?_; simp)
      | (refine AWP_exit ?_; simp)
      | (refine AWP_ret ?_; simp)
      | refine AWP_block ?_
      | refine AWP_seq ?_)
    rw [complR, if_neg (by simpa using h)]
  have h0 : ckR l = 0 := by simpa using h
  have hc := (ck_iff l).1 h0
  have hcl := hc.len
  rw [complR, if_pos h0]
  have hglen : (gapsR l).length ≤ l.length + 1 := by rw [gapsR]; exact gapFrom_len l _
  repeat (first
    | (refine AWP_seq (AWP_regS tOk rfl ?_); simp)
    | (refine AWP_regS tOk rfl ?_; simp)
    | (refine AWP_skip ?_; simp)
    | (refine AWP_exit ?_; simp)
    | (refine AWP_ret ?_; simp)
    | refine AWP_block ?_
    | refine AWP_seq ?_)
  refine AStep_FC rfl rfl (fc_gaps _ l) rfl ?_
  rintro _ _ ⟨rfl, rfl⟩
  simp
  refine AWP_nilOwn (cs := [.nils]) 0 0 59 2 (by simp) rfl ?_
  simp
  repeat (first
    | (refine AWP_seq (AWP_regS tOk rfl ?_); simp)
    | (refine AWP_regS tOk rfl ?_; simp)
    | (refine AWP_skip ?_; simp)
    | (refine AWP_exit ?_; simp)
    | (refine AWP_ret ?_; simp)
    | refine AWP_block ?_
    | refine AWP_seq ?_)
  refine AWP_rangeFunc rfl (Rf := fun _ H' => (∃ sl' ps' a' b', H'[3]? = some (.lp true none 23 sl' ps' a' b')) ∧ ∃ p, H'[0]? = some (.vars [.sl p 2 0 (gapsR l).length]) ∧ H'[p]? = some (.arr 59 2 ((gapsR l).map encIv)) ∧ 0 < p ∧ p ≠ 3) ?_ ?_
  · simp
    refine gen_FC fun H1 hH1 => ?_
    have hlen1 : H1.length = 4 := by rw [hH1]; simp
    have f0 : H1[0]? = some (.vars [.sl 2 2 0 0]) := by rw [hH1]; simp
    have f1 : H1[2]? = some (.arr 59 2 []) := by rw [hH1]; simp
    have f2 := congrArg (fun h : List AObj => h[3]?) hH1
    simp at f2
    have f4 : H1[1]? = some (.vars [LIv l]) := by rw [hH1]; simp
    clear hH1
    refine FC_body tOk Tryz.func68 rfl Tryz.results68 rfl (by simp [Tryz.ntmps68]) ?_
    rw [Tryz.ntmps68]
    simp only [argSlots]
    repeat (first
      | (refine AWP_seq (AWP_regS tOk rfl ?_); simp [f4])
      | (refine AWP_regS tOk rfl ?_; simp [f4])
      | (refine AWP_skip ?_; simp [f4])
      | (refine AWP_exit ?_; simp [f4])
      | (refine AWP_ret ?_; simp [f4])
      | refine AWP_block ?_
      | refine AWP_seq ?_)
    refine AWP_loop (ALoop_keep (sl' := [(0, .yld 3), (3, .i (-1099511627776)), (6, LIv l), (7, .i l.length), (8, .i 0)]) ?_ (by simp))
    refine ALoop_wf (F := fun (u : Nat × Nat × List Iv × Int × List AObj) => ⟨[(0, .yld 3), (3, .i u.2.2.2.1), (6, LIv l), (7, .i l.length), (8, .i u.1)], u.2.2.2.2⟩)
      (fun u => u.1 ≤ l.length ∧ H1.length ≤ u.2.2.2.2.length ∧ u.2.2.2.2[0]? = some (.vars [.sl u.2.1 2 0 u.2.2.1.length]) ∧ u.2.2.2.2[u.2.1]? = some (.arr 59 2 (u.2.2.1.map encIv)) ∧ u.2.2.2.2[3]? = H1[3]? ∧ 0 < u.2.1 ∧ u.2.1 ≠ 3 ∧ u.2.2.1 ++ gapFrom (l.drop u.1) u.2.2.2.1 = gapsR l ∧ -4398046511104 ≤ u.2.2.2.1 ∧ u.2.2.2.1 ≤ 4398046511104) (fun u => l.length - u.1) ?_ (0, 2, [], -1099511627776, H1) ⟨by simp, Nat.le_refl _, f0, by simpa using f1, rfl, by simp, by simp, by simp [gapsR], by simp, by simp⟩
    rintro ⟨j, p, acc, n, H2⟩ ⟨hj, g1, g2, g3, g4, g5, g6, g7, g8, g9⟩ ih
    simp only at hj g1 g2 g3 g4 g5 g6 g7 g8 g9 ih ⊢
    rw [f2] at g4
    have hal : acc.length ≤ 257 := by have := congrArg List.length g7; simp at this; omega
    repeat (first
      | (refine AWP_seq (AWP_regS tOk rfl ?_); simp)
      | (refine AWP_regS tOk rfl ?_; simp)
      | (refine AWP_skip ?_; simp)
      | (refine AWP_exit ?_; simp)
      | (refine AWP_ret ?_; simp)
      | refine AWP_block ?_
      | refine AWP_seq ?_)
    refine AWP_cond2 rfl (fun hlt => ?_) (fun hge => ?_)
    · have hlt' : j < l.length := by simpa using hlt
      have hw : IntKind.i64.wrap ((j : Int) + 1) = j + 1 := wrap_i64 _ (by omega) (by omega)
      have hv := hc.iv hlt'
      have hw1 : IntKind.i64.wrap (l[j].lo - 1) = l[j].lo - 1 := wrap_i64 _ (by omega) (by omega)
      have hw2 : IntKind.i64.wrap (l[j].hi + 1) = l[j].hi + 1 := wrap_i64 _ (by omega) (by omega)
      rw [drop_get hlt', gapFrom_cons] at g7
      by_cases hg : n < l[j].lo
      · rw [if_pos hg] at g7
        repeat (first
          | (refine AWP_seq (AWP_regS tOk rfl ?_); simp [hlt', hlen1, hg, hw1])
          | (refine AWP_regS tOk rfl ?_; simp [hlt', hlen1, hg, hw1])
          | (refine AWP_skip ?_; simp [hlt', hlen1, hg, hw1])
          | (refine AWP_exit ?_; simp [hlt', hlen1, hg, hw1])
          | (refine AWP_ret ?_; simp [hlt', hlen1, hg, hw1])
          | refine AWP_block ?_
          | refine AWP_seq ?_)
        refine AStep_yield rfl rfl (q := 3) rfl rfl (get_app g4 _) rfl rfl rfl (fun jm H4 => jm = none ∧ H2.length ≤ H4.length ∧ ∃ p', H4[0]? = some (.vars [.sl p' 2 0 (acc.length + 1)]) ∧ H4[p']? = some (.arr 59 2 ((acc ++ [(⟨n, l[j].lo - 1⟩ : Iv)]).map encIv)) ∧ 0 < p' ∧ p' ≠ 3 ∧ H4[H2.length]? = some (.vars [.int .i64 l[j].lo, .int .i64 l[j].hi])) ?_ ?_
        · simp [putMany, set_app g4]
          obtain ⟨H3, hH3⟩ : ∃ H3, H2.set 3 .dead = H3 := ⟨_, rfl⟩
          have e1 : H3[0]? = some (.vars [.sl p 2 0 acc.length]) := by rw [← hH3]; exact get_set (by omega) g2 _
          have e2 : H3[p]? = some (.arr 59 2 (acc.map encIv)) := by rw [← hH3]; exact get_set (by omega) g3 _
          have e3 : H3[3]? = some .dead := by rw [← hH3]; exact get_self g4 _
          have e4 : H3.length = H2.length := by rw [← hH3]; simp
          have e6 : (H3.set p .dead)[0]? = some (.vars [.sl p 2 0 acc.length]) := get_set (by omega) e1 _
          rw [hH3]
          repeat (first
            | (refine AWP_seq (AWP_regS tOk rfl ?_); simp [e1, e2, get_app' e1, get_app' e6, get_app e1, get_app e2, set_app e1, set_app e2, get_app e6, set_app e6])
            | (refine AWP_regS tOk rfl ?_; simp [e1, e2, get_app' e1, get_app' e6, get_app e1, get_app e2, set_app e1, set_app e2, get_app e6, set_app e6])
            | (refine AWP_skip ?_; simp [e1, e2, get_app' e1, get_app' e6, get_app e1, get_app e2, set_app e1, set_app e2, get_app e6, set_app e6])
            | (refine AWP_exit ?_; simp [e1, e2, get_app' e1, get_app' e6, get_app e1, get_app e2, set_app e1, set_app e2, get_app e6, set_app e6])
            | (refine AWP_ret ?_; simp [e1, e2, get_app' e1, get_app' e6, get_app e1, get_app e2, set_app e1, set_app e2, get_app e6, set_app e6])
            | refine AWP_block ?_
            | refine AWP_seq ?_)
          refine AStep_appendS tOk rfl rfl T22 rfl T59 rfl (by decide) (by decide) rfl rfl rfl ?_
          simp [e1, e2, e6, get_app' e1, get_app' e6, get_app e2, set_app e2, get_app e6, set_app e6]
          refine ⟨by simp [appOk, e1, e2, e6, get_app' e1, get_app' e6, get_app e2, set_app e2, get_app e6, set_app e6] <;> omega, ?_⟩
          have e7 : ∀ z, ((H3.set p .dead).set 0 (.vars [.sl z 2 0 (acc.length + 1)]))[0]? = some (.vars [.sl z 2 0 (acc.length + 1)]) := fun z => get_self e6 _
          have e8 : ∀ z, ((H3.set p .dead).set 0 (.vars [.sl z 2 0 (acc.length + 1)]))[3]? = some .dead := fun z => get_set (by omega) (get_set (by omega) e3 _) _
          have e10 : ∀ z, ((H3.set p .dead).set 0 (.vars [.sl z 2 0 (acc.length + 1)])).length = H3.length := fun z => by simp
          refine ⟨get_app (e8 _) _, rfl, by simp [e4], H3.length + 3, get_app (e7 _) _, ?_, by omega, by omega, by first | (simp [e4]; done) | (rw [← e4, List.getElem?_append_right (by rw [e10]; omega), e10]; simp)⟩
          rw [List.getElem?_append_right (by rw [e10]; omega), e10]; simp [encIv]
        · rintro jm H4 ⟨rfl, k1, p', k2, k3, k4, k5, k6⟩
          obtain ⟨q, hq⟩ : ∃ q, H4[3]? = some q := ⟨_, List.getElem?_eq_getElem (by omega)⟩
          simp
          repeat (first
            | (refine AWP_seq (AWP_regS tOk rfl ?_); simp)
            | (refine AWP_regS tOk rfl ?_; simp)
            | (refine AWP_skip ?_; simp)
            | (refine AWP_exit ?_; simp)
            | (refine AWP_ret ?_; simp)
            | refine AWP_block ?_
            | refine AWP_seq ?_)
          refine AWP_cond rfl ?_
          simp
          generalize hH5 : H4.set 3 _ = H5
          have m1 : H5[H2.length]? = some (.vars [.int .i64 l[j].lo, .int .i64 l[j].hi]) := by rw [← hH5]; exact get_set (by omega) k6 _
          have m2 : H5[0]? = some (.vars [.sl p' 2 0 (acc.length + 1)]) := by rw [← hH5]; exact get_set (by omega) k2 _
          have m3 : H5[p']? = some (.arr 59 2 ((acc ++ [(⟨n, l[j].lo - 1⟩ : Iv)]).map encIv)) := by rw [← hH5]; exact get_set (by omega) k3 _
          have m4 : H5[3]? = H1[3]? := by rw [f2, ← hH5]; exact get_self hq _
          have m5 : H5.length = H4.length := by rw [← hH5]; simp
          clear hH5
          repeat (first
            | (refine AWP_seq (AWP_regS tOk rfl ?_); simp [m1, hw2, hw])
            | (refine AWP_regS tOk rfl ?_; simp [m1, hw2, hw])
            | (refine AWP_skip ?_; simp [m1, hw2, hw])
            | (refine AWP_exit ?_; simp [m1, hw2, hw])
            | (refine AWP_ret ?_; simp [m1, hw2, hw])
            | refine AWP_block ?_
            | refine AWP_seq ?_)
          refine ALoop_keep (sl' := [(0, .yld 3), (3, .i (l[j].hi + 1)), (6, LIv l), (7, .i l.length), (8, .i (j + 1 : Nat))]) ?_ (by simp [AV.i, AV.int])
          have key := ih (j + 1, p', acc ++ [(⟨n, l[j].lo - 1⟩ : Iv)], l[j].hi + 1, H5) ⟨by simp; omega, by simp; omega, by simpa using m2, m3, m4, k4, k5, by rw [List.append_assoc]; exact g7, by simp; omega, by simp; omega⟩ (by simp; omega)
          simp only at key
          rw [hlen1] at key
          exact key
      · rw [if_neg hg] at g7
        repeat (first
          | (refine AWP_seq (AWP_regS tOk rfl ?_); simp [hlt', hlen1, hg, hw1])
          | (refine AWP_regS tOk rfl ?_; simp [hlt', hlen1, hg, hw1])
          | (refine AWP_skip ?_; simp [hlt', hlen1, hg, hw1])
          | (refine AWP_exit ?_; simp [hlt', hlen1, hg, hw1])
          | (refine AWP_ret ?_; simp [hlt', hlen1, hg, hw1])
          | refine AWP_block ?_
          | refine AWP_seq ?_)
        refine AStep_skip rfl rfl ?_
        simp
        repeat (first
          | (refine AWP_seq (AWP_regS tOk rfl ?_); simp)
          | (refine AWP_regS tOk rfl ?_; simp)
          | (refine AWP_skip ?_; simp)
          | (refine AWP_exit ?_; simp)
          | (refine AWP_ret ?_; simp)
          | refine AWP_block ?_
          | refine AWP_seq ?_)
        refine AWP_cond rfl ?_
        simp
        repeat (first
          | (refine AWP_seq (AWP_regS tOk rfl ?_); simp [hw2, hw])
          | (refine AWP_regS tOk rfl ?_; simp [hw2, hw])
          | (refine AWP_skip ?_; simp [hw2, hw])
          | (refine AWP_exit ?_; simp [hw2, hw])
          | (refine AWP_ret ?_; simp [hw2, hw])
          | refine AWP_block ?_
          | refine AWP_seq ?_)
        refine ALoop_keep (sl' := [(0, .yld 3), (3, .i (l[j].hi + 1)), (6, LIv l), (7, .i l.length), (8, .i (j + 1 : Nat))]) ?_ (by simp [AV.i, AV.int])
        have key := ih (j + 1, p, acc, l[j].hi + 1, H2 ++ [.vars [.int .i64 l[j].lo, .int .i64 l[j].hi]]) ⟨by simp; omega, by simp; omega, get_app g2 _, get_app g3 _, by rw [f2]; exact get_app g4 _, g5, g6, g7, by simp; omega, by simp; omega⟩ (by simp; omega)
        simp only at key
        rw [hlen1] at key
        exact key
    · have hge' : l.length ≤ j := by simpa using hge
      have hj' : j = l.length := by omega
      subst hj'
      repeat (first
        | (refine AWP_seq (AWP_regS tOk rfl ?_); simp)
        | (refine AWP_regS tOk rfl ?_; simp)
        | (refine AWP_skip ?_; simp)
        | (refine AWP_exit ?_; simp)
        | (refine AWP_ret ?_; simp)
        | refine AWP_block ?_
        | refine AWP_seq ?_)
      refine AWP_cond2 rfl (fun hn => ?_) (fun hn => ?_)
      · repeat (first
          | (refine AWP_seq (AWP_regS tOk rfl ?_); simp)
          | (refine AWP_regS tOk rfl ?_; simp)
          | (refine AWP_skip ?_; simp)
          | (refine AWP_exit ?_; simp)
          | (refine AWP_ret ?_; simp)
          | refine AWP_block ?_
          | refine AWP_seq ?_)
        refine AStep_yield rfl rfl (q := 3) rfl rfl (g4) rfl rfl rfl (fun jm H4 => jm = none ∧ H2.length ≤ H4.length ∧ ∃ p', H4[0]? = some (.vars [.sl p' 2 0 (acc.length + 1)]) ∧ H4[p']? = some (.arr 59 2 ((acc ++ [(⟨n, 1099511627776⟩ : Iv)]).map encIv)) ∧ 0 < p' ∧ p' ≠ 3 ∧ H2.length ≤ H4.length) ?_ ?_
        · simp [putMany, set_app g4]
          obtain ⟨H3, hH3⟩ : ∃ H3, H2.set 3 .dead = H3 := ⟨_, rfl⟩
          have e1 : H3[0]? = some (.vars [.sl p 2 0 acc.length]) := by rw [← hH3]; exact get_set (by omega) g2 _
          have e2 : H3[p]? = some (.arr 59 2 (acc.map encIv)) := by rw [← hH3]; exact get_set (by omega) g3 _
          have e3 : H3[3]? = some .dead := by rw [← hH3]; exact get_self g4 _
          have e4 : H3.length = H2.length := by rw [← hH3]; simp
          have e6 : (H3.set p .dead)[0]? = some (.vars [.sl p 2 0 acc.length]) := get_set (by omega) e1 _
          rw [hH3]
          repeat (first
            | (refine AWP_seq (AWP_regS tOk rfl ?_); simp [e1, e2, get_app' e1, get_app' e6, get_app e1, get_app e2, set_app e1, set_app e2, get_app e6, set_app e6])
            | (refine AWP_regS tOk rfl ?_; simp [e1, e2, get_app' e1, get_app' e6, get_app e1, get_app e2, set_app e1, set_app e2, get_app e6, set_app e6])
            | (refine AWP_skip ?_; simp [e1, e2, get_app' e1, get_app' e6, get_app e1, get_app e2, set_app e1, set_app e2, get_app e6, set_app e6])
            | (refine AWP_exit ?_; simp [e1, e2, get_app' e1, get_app' e6, get_app e1, get_app e2, set_app e1, set_app e2, get_app e6, set_app e6])
            | (refine AWP_ret ?_; simp [e1, e2, get_app' e1, get_app' e6, get_app e1, get_app e2, set_app e1, set_app e2, get_app e6, set_app e6])
            | refine AWP_block ?_
            | refine AWP_seq ?_)
          refine AStep_appendS tOk rfl rfl T22 rfl T59 rfl (by decide) (by decide) rfl rfl rfl ?_
          simp [e1, e2, e6, get_app' e1, get_app' e6, get_app e2, set_app e2, get_app e6, set_app e6]
          refine ⟨by simp [appOk, e1, e2, e6, get_app' e1, get_app' e6, get_app e2, set_app e2, get_app e6, set_app e6] <;> omega, ?_⟩
          have e7 : ∀ z, ((H3.set p .dead).set 0 (.vars [.sl z 2 0 (acc.length + 1)]))[0]? = some (.vars [.sl z 2 0 (acc.length + 1)]) := fun z => get_self e6 _
          have e8 : ∀ z, ((H3.set p .dead).set 0 (.vars [.sl z 2 0 (acc.length + 1)]))[3]? = some .dead := fun z => get_set (by omega) (get_set (by omega) e3 _) _
          have e10 : ∀ z, ((H3.set p .dead).set 0 (.vars [.sl z 2 0 (acc.length + 1)])).length = H3.length := fun z => by simp
          refine ⟨get_app (e8 _) _, rfl, by simp [e4], H3.length + 2, get_app (e7 _) _, ?_, by omega, by omega, by first | (simp [e4]; done) | (rw [← e4, List.getElem?_append_right (by rw [e10]; omega), e10]; simp)⟩
          rw [List.getElem?_append_right (by rw [e10]; omega), e10]; simp [encIv]
        · rintro jm H4 ⟨rfl, k1, p', k2, k3, k4, k5, _⟩
          obtain ⟨q, hq⟩ : ∃ q, H4[3]? = some q := ⟨_, List.getElem?_eq_getElem (by omega)⟩
          simp
          repeat (first
            | (refine AWP_seq (AWP_regS tOk rfl ?_); simp)
            | (refine AWP_regS tOk rfl ?_; simp)
            | (refine AWP_skip ?_; simp)
            | (refine AWP_exit ?_; simp)
            | (refine AWP_ret ?_; simp)
            | refine AWP_block ?_
            | refine AWP_seq ?_)
          rw [List.drop_length, gapFrom_nil, if_pos (by simpa using hn)] at g7
          rw [← g7]
          exact ⟨⟨_, _, _, _, get_self hq _⟩, p', by simpa using k2, get_set (by omega) k3 _, k4, k5⟩
      · repeat (first
          | (refine AWP_seq (AWP_regS tOk rfl ?_); simp)
          | (refine AWP_regS tOk rfl ?_; simp)
          | (refine AWP_skip ?_; simp)
          | (refine AWP_exit ?_; simp)
          | (refine AWP_ret ?_; simp)
          | refine AWP_block ?_
          | refine AWP_seq ?_)
        rw [List.drop_length, gapFrom_nil, if_neg (by simpa using hn), List.append_nil] at g7
        subst g7
        exact ⟨⟨_, _, _, _, g4⟩, p, g2, g3, g5, g6⟩
  · rintro r H' ⟨⟨sl', ps', a', b', h0'⟩, p, h1, h2, h3, h4⟩
    refine ⟨_, _, _, _, _, _, _, by simpa using h0', ?_⟩
    simp
    have k1 := get_set (j := 3) (by omega) h1 .dead
    have k2 := get_set (j := 3) (by omega) h2 .dead
    repeat (first
      | (refine AWP_seq (AWP_regS tOk rfl ?_); simp [k1])
      | (refine AWP_regS tOk rfl ?_; simp [k1])
      | (refine AWP_skip ?_; simp [k1])
      | (refine AWP_exit ?_; simp [k1])
      | (refine AWP_ret ?_; simp [k1])
      | refine AWP_block ?_
      | refine AWP_seq ?_)
    refine AStep_freeze p k2 ?_
    simp
    rw [List.take_of_length_le (by simp)]
    by_cases hs : (gapsR l).length ≤ 256
    · have e : limR (gapsR l) = .tup [LIv (gapsR l), .i 0] := by rw [limR, if_pos hs]
      rw [e]
      refine AStep_PC rfl rfl (by simp) (pc_limited (gapsR l)) rfl ?_
      rintro _ rfl
      simp [e]
      repeat (first
        | (refine AWP_seq (AWP_regS tOk rfl ?_); simp)
        | (refine AWP_regS tOk rfl ?_; simp)
        | (refine AWP_skip ?_; simp)
        | (refine AWP_exit ?_; simp)
        | (refine AWP_ret ?_; simp)
        | refine AWP_block ?_
        | refine AWP_seq ?_)
    · have e : limR (gapsR l) = .tup [.list [], .i 5] := by rw [limR, if_neg hs]
      rw [e]
      refine AStep_PC rfl rfl (by simp) (pc_limited (gapsR l)) rfl ?_
      rintro _ rfl
      simp [e]
      repeat (first
        | (refine AWP_seq (AWP_regS tOk rfl ?_); simp)
        | (refine AWP_regS tOk rfl ?_; simp)
        | (refine AWP_skip ?_; simp)
        | (refine AWP_exit ?_; simp)
        | (refine AWP_ret ?_; simp)
        | refine AWP_block ?_
        | refine AWP_seq ?_)
end Go.Abs
set_option maxRecDepth 100000
namespace Go.Abs
open Go Go.Proofs
set_option linter.unusedSimpArgs false
theorem callable_Itoa : Callable Tryz.prog 52 := callable Tryz.func52 rfl (by kernel_rfl)
theorem pc_Itoa (n : Int) (h0 : -9223372036854775808 ≤ n) (h1 : n ≤ 9223372036854775807) : PC Tryz.prog 52 [.i n] (fun r => r = .str (Lib.itoa n)) :=
  PC_ext (us := [.int .i64 n]) callable_Itoa rfl fun w I hE => (Tryz.strconv_Itoa n h0 h1 w (pow10_tab hE)).mono fun e w' ⟨h, k, os, hw⟩ => ⟨⟨_, _, rfl, h, .str _⟩, by rw [hw]; exact Lib.below_grow _ w (Nat.le_refl _) k os⟩
attribute [simp] T95 T92 T134 T98 T117 T71 T93
theorem set_same {α : Type} (l : List α) (i : Nat) (x : α) (h : l[i]? = some x) : l.set i x = l := by
  refine List.ext_getElem? fun k => ?_
  rw [List.getElem?_set]
  split
  · rename_i e; subst e; rw [h]; simp [(List.getElem?_eq_some_iff.1 h).1]
  · rfl
set_option maxHeartbeats 400000 in
theorem fc_copyCheck (H : List AObj) (id q : Nat) (p buf : AV) (hp : p = .nilp ∨ p = .vptr id 0) (hid : H[id]? = some (.vars [p, buf])) (hq : H[q]? = some (.tag id 95)) :
    FC Tryz.prog 91 [.vptr id 0] H (fun r H' => r = .tup [] ∧ H' = H.set id (.vars [.vptr id 0, buf])) := by
  refine FC_body tOk Tryz.func91 rfl Tryz.results91 rfl (by simp [Tryz.ntmps91]) ?_
  rw [Tryz.ntmps91]
  simp only [argSlots]
  rcases hp with rfl | rfl
  · repeat (first
      | (refine AWP_seq (AWP_regS tOk rfl ?_); simp [hid])
      | (refine AWP_regS tOk rfl ?_; simp [hid])
      | (refine AWP_skip ?_; simp [hid])
      | (refine AWP_exit ?_; simp [hid])
      | (refine AWP_ret ?_; simp [hid])
      | refine AWP_block ?_
      | refine AWP_seq ?_)
    refine AWP_cond rfl ?_
    repeat (first
      | (refine AWP_seq (AWP_regS tOk rfl ?_); simp [hid])
      | (refine AWP_regS tOk rfl ?_; simp [hid])
      | (refine AWP_skip ?_; simp [hid])
      | (refine AWP_exit ?_; simp [hid])
      | (refine AWP_ret ?_; simp [hid])
      | refine AWP_block ?_
      | refine AWP_seq ?_)
    refine AStep_toUnsafe tOk rfl rfl rfl T92 rfl T95 (by decide) T134 rfl rfl hid (by simp) ?_
    simp
    refine AStep_noEscape rfl rfl rfl Tryz.func111 (by kernel_rfl) (by kernel_rfl) (by kernel_rfl) (by kernel_rfl) ?_
    simp
    refine AStep_fromUnsafe tOk rfl rfl rfl T134 rfl T95 T92 rfl q rfl hid hq (by kernel_rfl) ?_
    simp [hid]
    repeat (first
      | (refine AWP_seq (AWP_regS tOk rfl ?_); simp [hid])
      | (refine AWP_regS tOk rfl ?_; simp [hid])
      | (refine AWP_skip ?_; simp [hid])
      | (refine AWP_exit ?_; simp [hid])
      | (refine AWP_ret ?_; simp [hid])
      | refine AWP_block ?_
      | refine AWP_seq ?_)
  · repeat (first
      | (refine AWP_seq (AWP_regS tOk rfl ?_); simp [hid])
      | (refine AWP_regS tOk rfl ?_; simp [hid])
      | (refine AWP_skip ?_; simp [hid])
      | (refine AWP_exit ?_; simp [hid])
      | (refine AWP_ret ?_; simp [hid])
      | refine AWP_block ?_
      | refine AWP_seq ?_)
    refine AWP_cond rfl ?_
    repeat (first
      | (refine AWP_seq (AWP_regS tOk rfl ?_); simp [hid])
      | (refine AWP_regS tOk rfl ?_; simp [hid])
      | (refine AWP_skip ?_; simp [hid])
      | (refine AWP_exit ?_; simp [hid])
      | (refine AWP_ret ?_; simp [hid])
      | refine AWP_block ?_
      | refine AWP_seq ?_)
    refine AStep_ptrSame tOk rfl rfl rfl T92 rfl T95 rfl rfl ?_
    simp [hid]
    repeat (first
      | (refine AWP_seq (AWP_regS tOk rfl ?_); simp [hid])
      | (refine AWP_regS tOk rfl ?_; simp [hid])
      | (refine AWP_skip ?_; simp [hid])
      | (refine AWP_exit ?_; simp [hid])
      | (refine AWP_ret ?_; simp [hid])
      | refine AWP_block ?_
      | refine AWP_seq ?_)
    refine AWP_cond rfl ?_
    repeat (first
      | (refine AWP_seq (AWP_regS tOk rfl ?_); simp [hid])
      | (refine AWP_regS tOk rfl ?_; simp [hid])
      | (refine AWP_skip ?_; simp [hid])
      | (refine AWP_exit ?_; simp [hid])
      | (refine AWP_ret ?_; simp [hid])
      | refine AWP_block ?_
      | refine AWP_seq ?_)
    rw [set_same _ _ _ hid]
/-- A builder: object 0 its two cells, object 1 its tag, object 2 the bytes. -/
def bld (p : AV) (s : List UInt8) : List AObj := [.vars [p, .sl 2 1 0 s.length], .tag 0 95, .arr 5 1 (s.map byteAV)]
@[simp] theorem bld_len (p : AV) (s : List UInt8) : (bld p s).length = 3 := rfl
set_option maxHeartbeats 400000 in
theorem fc_WriteString (p : AV) (hp : p = .nilp ∨ p = .vptr 0 0) (s t : List UInt8) (hl : s.length ≤ 100000000) (ht : t.length ≤ 100000000) :
    FC Tryz.prog 74 [.vptr 0 0, .str t] (bld p s) (fun r H' => r = .tup [.i t.length, .nili] ∧ H' = [.vars [.vptr 0 0, .sl 3 1 0 (s ++ t).length], .tag 0 95, .dead, .arr 5 1 ((s ++ t).map byteAV)]) := by
  refine FC_body tOk Tryz.func74 rfl Tryz.results74 rfl (by simp [Tryz.ntmps74]) ?_
  rw [Tryz.ntmps74]
  simp only [argSlots]
  simp only [bld]
  repeat (first
    | (refine AWP_seq (AWP_regS tOk rfl ?_); simp)
    | (refine AWP_regS tOk rfl ?_; simp)
    | (refine AWP_skip ?_; simp)
    | (refine AWP_exit ?_; simp)
    | (refine AWP_ret ?_; simp)
    | refine AWP_block ?_
    | refine AWP_seq ?_)
  refine AStep_FC rfl rfl (fc_copyCheck _ 0 1 p _ hp rfl rfl) rfl ?_
  rintro _ _ ⟨rfl, rfl⟩
  simp
  repeat (first
    | (refine AWP_seq (AWP_regS tOk rfl ?_); simp)
    | (refine AWP_regS tOk rfl ?_; simp)
    | (refine AWP_skip ?_; simp)
    | (refine AWP_exit ?_; simp)
    | (refine AWP_ret ?_; simp)
    | refine AWP_block ?_
    | refine AWP_seq ?_)
  refine AStep_appendStrS tOk rfl rfl T9 rfl rfl T93 rfl T5 rfl (by decide) rfl rfl rfl ?_
  simp
  refine ⟨⟨by omega, by omega⟩, ?_⟩
  repeat (first
    | (refine AWP_seq (AWP_regS tOk rfl ?_); simp)
    | (refine AWP_regS tOk rfl ?_; simp)
    | (refine AWP_skip ?_; simp)
    | (refine AWP_exit ?_; simp)
    | (refine AWP_ret ?_; simp)
    | refine AWP_block ?_
    | refine AWP_seq ?_)
theorem FC_bString (s : List UInt8) (h0 : s ≠ []) (hl : s.length ≤ 100000000) :
    FC Tryz.prog 75 [.vptr 0 0] (bld (.vptr 0 0) s) (fun r H' => r = .str s) := by
  refine FC_body tOk Tryz.func75 rfl Tryz.results75 rfl (by simp [Tryz.ntmps75]) ?_
  rw [Tryz.ntmps75]
  simp only [argSlots]
  simp only [bld]
  have hpos : 0 < s.length := List.length_pos_iff.2 h0
  repeat (first
    | (refine AWP_seq (AWP_regS tOk rfl ?_); simp)
    | (refine AWP_regS tOk rfl ?_; simp)
    | (refine AWP_skip ?_; simp)
    | (refine AWP_exit ?_; simp)
    | (refine AWP_ret ?_; simp)
    | refine AWP_block ?_
    | refine AWP_seq ?_)
  refine AWP_draw tOk mixed [10] [0, 1, 2, 3, 5, 6, 7, 8, 9, 4, 10, 11] rfl (by kernel_rfl) ?_
  simp
  refine AStep_sliceData rfl rfl rfl rfl hpos ?_
  simp
  refine AStep_unsafeString tOk rfl rfl rfl T117 rfl T5 rfl rfl rfl rfl rfl h0 ?_
  simp
  repeat (first
    | (refine AWP_seq (AWP_regS tOk rfl ?_); simp)
    | (refine AWP_regS tOk rfl ?_; simp)
    | (refine AWP_skip ?_; simp)
    | (refine AWP_exit ?_; simp)
    | (refine AWP_ret ?_; simp)
    | refine AWP_block ?_
    | refine AWP_seq ?_)
set_option maxHeartbeats 400000 in
theorem fc_bgrow (n : Nat) (h0 : 0 < n) (hn : n ≤ 100000000) : FC Tryz.prog 92 [.vptr 0 0, .i n] [.vars [.vptr 0 0, .nils], .tag 0 95] (fun r H' => r = .tup [] ∧ H' = bld (.vptr 0 0) []) := by
  refine FC_body tOk Tryz.func92 rfl Tryz.results92 rfl (by simp [Tryz.ntmps92]) ?_
  rw [Tryz.ntmps92]
  simp only [argSlots]
  have hw : IntKind.i64.wrap (n : Int) = n := wrap_i64 _ (by omega) (by omega)
  have hw0 : IntKind.i64.wrap 0 = 0 := wrap_i64 _ (by omega) (by omega)
  repeat (first
    | (refine AWP_seq (AWP_regS tOk rfl ?_); simp)
    | (refine AWP_regS tOk rfl ?_; simp)
    | (refine AWP_skip ?_; simp)
    | (refine AWP_exit ?_; simp)
    | (refine AWP_ret ?_; simp)
    | refine AWP_block ?_
    | refine AWP_seq ?_)
  refine AWP_drawT tOk mixed [] (.val 0 (.val 1 (.val 2 (.val 3 (.val 6 (.val 9 (.val 10 (.val 11 (.val 12 (.val 13 (.one 4 (.val 5 (.val 7 (.one 8 (.val 14 (.val 15 (.done))))))))))))))))) rfl (by kernel_rfl) ?_
  simp [hw]
  refine AStep_capNil tOk rfl rfl T93 rfl rfl rfl ?_
  simp [hw]
  refine AStep_makeNoZero tOk rfl rfl (n := n) (ps := #[3]) (t := 93) (e := 5) (by simp [hw0, hw]) Tryz.func112 (by kernel_rfl) (by kernel_rfl) (by kernel_rfl) (by kernel_rfl) T93 rfl (by omega) ?_
  simp
  refine AWP_keep (sl' := [(0, .vptr 0 0), (4, .sl 2 1 0 0)]) ?_ (by simp)
  refine AWP_trunc 2 0 rfl ?_
  simp
  repeat (first
    | (refine AWP_seq (AWP_regS tOk rfl ?_); simp)
    | (refine AWP_regS tOk rfl ?_; simp)
    | (refine AWP_skip ?_; simp)
    | (refine AWP_exit ?_; simp)
    | (refine AWP_ret ?_; simp)
    | refine AWP_block ?_
    | refine AWP_seq ?_)
  refine AStep_copy tOk rfl rfl T93 rfl T5 rfl (ys := []) rfl rfl rfl (by simp) (by simp) rfl ?_
  simp
  repeat (first
    | (refine AWP_seq (AWP_regS tOk rfl ?_); simp)
    | (refine AWP_regS tOk rfl ?_; simp)
    | (refine AWP_skip ?_; simp)
    | (refine AWP_exit ?_; simp)
    | (refine AWP_ret ?_; simp)
    | refine AWP_block ?_
    | refine AWP_seq ?_)
  simp [bld]
set_option maxHeartbeats 400000 in
theorem fc_bGrow (n : Nat) (h0 : 0 < n) (hn : n ≤ 100000000) : FC Tryz.prog 73 [.vptr 0 0, .i n] [.vars [.nilp, .nils], .tag 0 95] (fun r H' => r = .tup [] ∧ H' = bld (.vptr 0 0) []) := by
  refine FC_body tOk Tryz.func73 rfl Tryz.results73 rfl (by simp [Tryz.ntmps73]) ?_
  rw [Tryz.ntmps73]
  simp only [argSlots]
  have hw0 : IntKind.i64.wrap 0 = 0 := wrap_i64 _ (by omega) (by omega)
  have hn1 : ¬ (n : Int) < 0 := by omega
  have hn2 : (0 : Int) < n := by omega
  repeat (first
    | (refine AWP_seq (AWP_regS tOk rfl ?_); simp)
    | (refine AWP_regS tOk rfl ?_; simp)
    | (refine AWP_skip ?_; simp)
    | (refine AWP_exit ?_; simp)
    | (refine AWP_ret ?_; simp)
    | refine AWP_block ?_
    | refine AWP_seq ?_)
  refine AStep_FC rfl rfl (fc_copyCheck _ 0 1 .nilp _ (.inl rfl) rfl rfl) rfl ?_
  rintro _ _ ⟨rfl, rfl⟩
  simp
  repeat (first
    | (refine AWP_seq (AWP_regS tOk rfl ?_); simp [hn1])
    | (refine AWP_regS tOk rfl ?_; simp [hn1])
    | (refine AWP_skip ?_; simp [hn1])
    | (refine AWP_exit ?_; simp [hn1])
    | (refine AWP_ret ?_; simp [hn1])
    | refine AWP_block ?_
    | refine AWP_seq ?_)
  refine AWP_cond rfl ?_
  repeat (first
    | (refine AWP_seq (AWP_regS tOk rfl ?_); simp)
    | (refine AWP_regS tOk rfl ?_; simp)
    | (refine AWP_skip ?_; simp)
    | (refine AWP_exit ?_; simp)
    | (refine AWP_ret ?_; simp)
    | refine AWP_block ?_
    | refine AWP_seq ?_)
  refine AWP_drawT tOk mixed [] (.val 0 (.val 1 (.val 2 (.val 3 (.val 5 (.val 6 (.val 7 (.val 8 (.val 9 (.val 11 (.one 4 (.val 10 (.val 12 (.done)))))))))))))) rfl (by kernel_rfl) ?_
  simp [hw0]
  refine AStep_capNil tOk rfl rfl T93 rfl rfl rfl ?_
  simp [hw0]
  repeat (first
    | (refine AWP_seq (AWP_regS tOk rfl ?_); simp [hn2, hw0])
    | (refine AWP_regS tOk rfl ?_; simp [hn2, hw0])
    | (refine AWP_skip ?_; simp [hn2, hw0])
    | (refine AWP_exit ?_; simp [hn2, hw0])
    | (refine AWP_ret ?_; simp [hn2, hw0])
    | refine AWP_block ?_
    | refine AWP_seq ?_)
  refine AWP_cond rfl ?_
  rw [if_pos (by simpa using h0)]
  repeat (first
    | (refine AWP_seq (AWP_regS tOk rfl ?_); simp)
    | (refine AWP_regS tOk rfl ?_; simp)
    | (refine AWP_skip ?_; simp)
    | (refine AWP_exit ?_; simp)
    | (refine AWP_ret ?_; simp)
    | refine AWP_block ?_
    | refine AWP_seq ?_)
  refine AStep_FC rfl rfl (fc_bgrow n h0 hn) rfl ?_
  rintro _ _ ⟨rfl, rfl⟩
  simp
  repeat (first
    | (refine AWP_seq (AWP_regS tOk rfl ?_); simp)
    | (refine AWP_regS tOk rfl ?_; simp)
    | (refine AWP_skip ?_; simp)
    | (refine AWP_exit ?_; simp)
    | (refine AWP_ret ?_; simp)
    | refine AWP_block ?_
    | refine AWP_seq ?_)
theorem join_cons2 (x : List UInt8) (r : List (List UInt8)) (sep : List UInt8) (j : Nat) (h : j < r.length) : Lib.join (x :: r.take (j + 1)) sep = Lib.join (x :: r.take j) sep ++ (sep ++ r[j]) := by
  rw [Lib.join_cons, Lib.join_cons, List.take_succ_eq_append_getElem h, Lib.joinTail, Lib.joinTail, List.map_append, List.flatten_append, List.append_assoc]
  simp
def lensR (l : List (List UInt8)) : Nat := (l.map List.length).sum
theorem lensR_snoc (l : List (List UInt8)) (j : Nat) (h : j < l.length) : lensR (l.take (j + 1)) = lensR (l.take j) + l[j].length := by
  rw [List.take_succ_eq_append_getElem h, lensR, lensR, List.map_append, List.sum_append]; simp
theorem lensR_le (l : List (List UInt8)) (hx : ∀ x ∈ l, x.length ≤ 1000) : ∀ j, lensR (l.take j) ≤ 1000 * j
  | 0 => by simp [lensR]
  | j + 1 => by
    have ih := lensR_le l hx j
    by_cases h : j < l.length
    · have := hx _ (List.getElem_mem h)
      rw [lensR_snoc l j h]; omega
    · have e : l.take (j + 1) = l.take j := by rw [List.take_of_length_le (by omega), List.take_of_length_le (by omega)]
      rw [e]; omega
theorem join_len (x : List UInt8) (t : List (List UInt8)) (sep : List UInt8) (hs : sep.length ≤ 1000) (hx : x.length ≤ 1000) (ht : ∀ z ∈ t, z.length ≤ 1000) : ∀ j, (Lib.join (x :: t.take j) sep).length ≤ 1000 + 2000 * j
  | 0 => by rw [List.take_zero, Lib.join_one]; omega
  | j + 1 => by
    have ih := join_len x t sep hs hx ht j
    by_cases h : j < t.length
    · have := ht _ (List.getElem_mem h)
      rw [join_cons2 x t sep j h, List.length_append, List.length_append]; omega
    · have e : t.take (j + 1) = t.take j := by rw [List.take_of_length_le (by omega), List.take_of_length_le (by omega)]
      rw [e]; omega
theorem join_ne (x : List UInt8) (t : List (List UInt8)) (sep : List UInt8) (h0 : sep ≠ []) (h : t ≠ []) : Lib.join (x :: t) sep ≠ [] := by
  rw [Lib.join_cons]
  cases t with
  | nil => exact absurd rfl h
  | cons y r => simp [Lib.joinTail, h0]
theorem quo_big (k : Nat) (h0 : 0 < k) (h1 : k ≤ 1000) : (9223372036854775 : Int) ≤ Int.tdiv 9223372036854775807 k ∧ Int.tdiv 9223372036854775807 k ≤ 9223372036854775807 := by
  rw [Int.tdiv_eq_ediv_of_nonneg (by decide)]
  constructor
  · rw [Int.le_ediv_iff_mul_le (by omega)]; omega
  · exact Int.ediv_le_self _ (by decide)
set_option maxHeartbeats 2000000 in
theorem pc_Join (l : List (List UInt8)) (sep : List UInt8) (h0 : sep ≠ []) (hs : sep.length ≤ 1000) (hl : l.length ≤ 1000) (hx : ∀ x ∈ l, x.length ≤ 1000) : PC Tryz.prog 53 [.list (l.map AV.str), .str sep] (fun r => r = .str (Lib.join l sep)) := by
  refine PC_body tOk Tryz.func53 rfl Tryz.results53 rfl (by simp [Tryz.ntmps53]) ?_
  rw [Tryz.ntmps53]
  simp only [argSlots]
  match l, hl, hx with
  | [], _, _ =>
    repeat (first
      | (refine AWP_seq (AWP_regS tOk rfl ?_); simp)
      | (refine AWP_regS tOk rfl ?_; simp)
      | (refine AWP_skip ?_; simp)
      | (refine AWP_exit ?_; simp)
      | (refine AWP_ret ?_; simp)
      | refine AWP_block ?_
      | refine AWP_seq ?_)
    refine AWP_cond rfl ?_
    repeat (first
      | (refine AWP_seq (AWP_regS tOk rfl ?_); simp)
      | (refine AWP_regS tOk rfl ?_; simp)
      | (refine AWP_skip ?_; simp)
      | (refine AWP_exit ?_; simp)
      | (refine AWP_ret ?_; simp)
      | refine AWP_block ?_
      | refine AWP_seq ?_)
    exact (Lib.join_nil sep).symm
  | [x], _, _ =>
    repeat (first
      | (refine AWP_seq (AWP_regS tOk rfl ?_); simp)
      | (refine AWP_regS tOk rfl ?_; simp)
      | (refine AWP_skip ?_; simp)
      | (refine AWP_exit ?_; simp)
      | (refine AWP_ret ?_; simp)
      | refine AWP_block ?_
      | refine AWP_seq ?_)
    refine AWP_cond rfl ?_
    repeat (first
      | (refine AWP_seq (AWP_regS tOk rfl ?_); simp)
      | (refine AWP_regS tOk rfl ?_; simp)
      | (refine AWP_skip ?_; simp)
      | (refine AWP_exit ?_; simp)
      | (refine AWP_ret ?_; simp)
      | refine AWP_block ?_
      | refine AWP_seq ?_)
    refine AWP_cond rfl ?_
    repeat (first
      | (refine AWP_seq (AWP_regS tOk rfl ?_); simp)
      | (refine AWP_regS tOk rfl ?_; simp)
      | (refine AWP_skip ?_; simp)
      | (refine AWP_exit ?_; simp)
      | (refine AWP_ret ?_; simp)
      | refine AWP_block ?_
      | refine AWP_seq ?_)
    exact (Lib.join_one x sep).symm
  | x :: y :: r, hl, hx =>
    obtain ⟨l, hL⟩ : ∃ l, x :: y :: r = l := ⟨_, rfl⟩
    have hl2 : 2 ≤ l.length := by rw [← hL]; simp
    have hx0 : l[0]? = some x := by rw [← hL]; rfl
    rw [hL] at hl hx ⊢
    have c1 : ((l.length : Int) == 0) = false := beq_eq_false_iff_ne.2 (by omega)
    have c2 : ((l.length : Int) == 1) = false := beq_eq_false_iff_ne.2 (by omega)
    have c0 : 0 < sep.length := List.length_pos_iff.2 h0
    obtain ⟨k, hk⟩ : ∃ k : Nat, k = l.length - 1 := ⟨_, rfl⟩
    have hw1 : IntKind.i64.wrap ((l.length : Int) - 1) = k := by rw [wrap_i64 _ (by omega) (by omega)]; omega
    have hk0 : ¬ k = 0 := by omega
    have hq := quo_big k (by omega) (by omega)
    have hw2 : IntKind.i64.wrap (Int.tdiv 9223372036854775807 k) = Int.tdiv 9223372036854775807 k := wrap_i64 _ (by omega) (by omega)
    have hw3 : ¬ Int.tdiv 9223372036854775807 k ≤ sep.length := by omega
    repeat (first
      | (refine AWP_seq (AWP_regS tOk rfl ?_); simp)
      | (refine AWP_regS tOk rfl ?_; simp)
      | (refine AWP_skip ?_; simp)
      | (refine AWP_exit ?_; simp)
      | (refine AWP_ret ?_; simp)
      | refine AWP_block ?_
      | refine AWP_seq ?_)
    refine AWP_cond2 rfl (fun h => by rw [c1] at h; cases h) (fun _ => ?_)
    repeat (first
      | (refine AWP_seq (AWP_regS tOk rfl ?_); simp)
      | (refine AWP_regS tOk rfl ?_; simp)
      | (refine AWP_skip ?_; simp)
      | (refine AWP_exit ?_; simp)
      | (refine AWP_ret ?_; simp)
      | refine AWP_block ?_
      | refine AWP_seq ?_)
    refine AWP_cond2 rfl (fun h => by rw [c2] at h; cases h) (fun _ => ?_)
    repeat (first
      | (refine AWP_seq (AWP_regS tOk rfl ?_); simp)
      | (refine AWP_regS tOk rfl ?_; simp)
      | (refine AWP_skip ?_; simp)
      | (refine AWP_exit ?_; simp)
      | (refine AWP_ret ?_; simp)
      | refine AWP_block ?_
      | refine AWP_seq ?_)
    refine AWP_cond2 rfl (fun _ => ?_) (fun h => by have h' := of_decide_eq_false h; omega)
    repeat (first
      | (refine AWP_seq (AWP_regS tOk rfl ?_); simp [hw1, hw2, hk0])
      | (refine AWP_regS tOk rfl ?_; simp [hw1, hw2, hk0])
      | (refine AWP_skip ?_; simp [hw1, hw2, hk0])
      | (refine AWP_exit ?_; simp [hw1, hw2, hk0])
      | (refine AWP_ret ?_; simp [hw1, hw2, hk0])
      | refine AWP_block ?_
      | refine AWP_seq ?_)
    refine AWP_cond2 rfl (fun h => absurd (by simpa [hw1, hw2] using h) hw3) (fun _ => ?_)
    obtain ⟨A, hA⟩ : ∃ A : Nat, A = sep.length * k := ⟨_, rfl⟩
    have hA1 : A ≤ 1000 * 1000 := by rw [hA]; exact Nat.mul_le_mul hs (by omega)
    have hA0 : 0 < A := by rw [hA]; exact Nat.mul_pos c0 (by omega)
    have hw4 : IntKind.i64.wrap ((sep.length : Int) * k) = A := by rw [wrap_i64 _ (by rw [← Int.natCast_mul, ← hA]; omega) (by rw [← Int.natCast_mul, ← hA]; omega), ← Int.natCast_mul, ← hA]
    have hw5 : IntKind.i64.wrap (A : Int) = A := wrap_i64 _ (by omega) (by omega)
    repeat (first
      | (refine AWP_seq (AWP_regS tOk rfl ?_); simp [hw1, hw4, hw5])
      | (refine AWP_regS tOk rfl ?_; simp [hw1, hw4, hw5])
      | (refine AWP_skip ?_; simp [hw1, hw4, hw5])
      | (refine AWP_exit ?_; simp [hw1, hw4, hw5])
      | (refine AWP_ret ?_; simp [hw1, hw4, hw5])
      | refine AWP_block ?_
      | refine AWP_seq ?_)
    refine AWP_keep (sl' := [(0, .list (l.map AV.str)), (1, .str sep), (4, .str []), (5, .i A), (39, .list (l.map AV.str)), (40, .i l.length), (41, .i 0)]) ?_ (by simp)
    refine AWP_countI l.length (fun j => True) (fun j => [(0, .list (l.map AV.str)), (1, .str sep), (4, .str []), (5, .i (A + lensR (l.take j) : Nat)), (39, .list (l.map AV.str)), (40, .i l.length), (41, .i j)]) (fun _ => []) rfl (by simp [lensR]) (by simp [lensR]) (by simp [lensR]) (by simp [lensR]) (by simp [lensR]) ?_
    intro j hj _ ih
    have hb := lensR_le l hx j
    repeat (first
      | (refine AWP_seq (AWP_regS tOk rfl ?_); simp)
      | (refine AWP_regS tOk rfl ?_; simp)
      | (refine AWP_skip ?_; simp)
      | (refine AWP_exit ?_; simp)
      | (refine AWP_ret ?_; simp)
      | refine AWP_block ?_
      | refine AWP_seq ?_)
    refine AWP_cond2 rfl (fun hlt => ?_) (fun hge => ?_)
    · have hlt' : j < l.length := by simpa using hlt
      have hxj := hx _ (List.getElem_mem hlt')
      have hw : IntKind.i64.wrap ((j : Int) + 1) = j + 1 := wrap_i64 _ (by omega) (by omega)
      have hn := lensR_snoc l j hlt'
      have hw6 : IntKind.i64.wrap (9223372036854775807 - ((A : Int) + (lensR (l.take j)))) = 9223372036854775807 - ((A : Int) + (lensR (l.take j))) := wrap_i64 _ (by omega) (by omega)
      have hw7 : IntKind.i64.wrap ((A : Int) + (lensR (l.take j)) + l[j].length) = (A : Int) + (lensR (l.take j)) + l[j].length := wrap_i64 _ (by omega) (by omega)
      repeat (first
        | (refine AWP_seq (AWP_regS tOk rfl ?_); simp [hlt', hw6])
        | (refine AWP_regS tOk rfl ?_; simp [hlt', hw6])
        | (refine AWP_skip ?_; simp [hlt', hw6])
        | (refine AWP_exit ?_; simp [hlt', hw6])
        | (refine AWP_ret ?_; simp [hlt', hw6])
        | refine AWP_block ?_
        | refine AWP_seq ?_)
      refine AWP_cond2 rfl (fun h => by have h' := of_decide_eq_true h; omega) (fun _ => ?_)
      repeat (first
        | (refine AWP_seq (AWP_regS tOk rfl ?_); simp [hw, hw7])
        | (refine AWP_regS tOk rfl ?_; simp [hw, hw7])
        | (refine AWP_skip ?_; simp [hw, hw7])
        | (refine AWP_exit ?_; simp [hw, hw7])
        | (refine AWP_ret ?_; simp [hw, hw7])
        | refine AWP_block ?_
        | refine AWP_seq ?_)
      refine ALoop_end _ (ih hlt' trivial) rfl (by simp) ?_ (by simp) (by simp)
      simp [hn]
      omega
    · have hge' : j = l.length := by simp at hge; omega
      subst hge'
      have hbl := lensR_le l hx l.length
      rw [List.take_length] at hbl ⊢
      refine AWP_exit ?_
      simp
      refine AWP_keep (sl' := [(0, .list (l.map AV.str)), (1, .str sep), (5, .i (A + lensR l : Nat))]) ?_ (by simp)
      obtain ⟨N, hN⟩ : ∃ N, N = A + lensR l := ⟨_, rfl⟩
      rw [← hN]
      have hN0 : 0 < N := by omega
      have hN1 : N ≤ 100000000 := by omega
      obtain ⟨t, ht⟩ : ∃ t, y :: r = t := ⟨_, rfl⟩
      rw [ht] at hL
      have htl : t.length ≤ 1000 := by rw [← hL] at hl; simp at hl; omega
      have hxx : x.length ≤ 1000 := hx x (by rw [← hL]; simp)
      have hxt : ∀ z ∈ t, z.length ≤ 1000 := fun z hz => hx z (by rw [← hL]; simp [hz])
      clear hx hbl hb hN hA ih hk hq hw2 hw3 hw4 hw5 hA0 hA1 hx0 c1 c2 hl2 hj hge
      subst hL
      refine AWP_seq (AWP_reg1 (AStep_allocT tOk rfl rfl T95 rfl ?_))
      simp
      refine AWP_seq (AWP_regS tOk rfl ?_)
      simp
      refine AStep_FC rfl rfl (fc_bGrow N hN0 hN1) rfl ?_
      rintro _ _ ⟨rfl, rfl⟩
      simp
      refine AWP_seq (AWP_regS tOk rfl ?_)
      simp
      refine AStep_FC rfl rfl (fc_WriteString (.vptr 0 0) (.inr rfl) [] x (by simp) (by omega)) rfl ?_
      rintro _ _ ⟨rfl, rfl⟩
      simp
      have hone : (1 : Int) ≤ t.length + 1 := by omega
      repeat (first
        | (refine AWP_seq (AWP_regS tOk rfl ?_); simp [hone])
        | (refine AWP_regS tOk rfl ?_; simp [hone])
        | (refine AWP_skip ?_; simp [hone])
        | (refine AWP_exit ?_; simp [hone])
        | (refine AWP_ret ?_; simp [hone])
        | refine AWP_block ?_
        | refine AWP_seq ?_)
      refine AWP_ren [0, 1, 3] (sl' := [(1, .str sep), (8, .vptr 0 0), (63, .list (t.map AV.str)), (64, .i t.length), (65, .i 0)]) (H' := bld (.vptr 0 0) x) ?_ (by simp [bld]) (by decide) (by simp) rfl (by simp [bld]) (by simp [bld]) (by simp)
      refine AWP_count t.length (fun j => [(1, .str sep), (8, .vptr 0 0), (63, .list (t.map AV.str)), (64, .i t.length), (65, .i j)]) (fun j => bld (.vptr 0 0) (Lib.join (x :: t.take j) sep)) (G := []) (by simp [Lib.join_one]) (by simp) (by simp) (by simp [bld]) (by simp [bld]) ?_
      intro j hj ih
      have hq := join_len x t sep hs hxx hxt j
      have hq' : (Lib.join (x :: t.take j) sep).length ≤ 100000000 := by omega
      repeat (first
        | (refine AWP_seq (AWP_regS tOk rfl ?_); simp)
        | (refine AWP_regS tOk rfl ?_; simp)
        | (refine AWP_skip ?_; simp)
        | (refine AWP_exit ?_; simp)
        | (refine AWP_ret ?_; simp)
        | refine AWP_block ?_
        | refine AWP_seq ?_)
      refine AWP_cond2 rfl (fun hlt => ?_) (fun hge => ?_)
      · have hlt' : j < t.length := by simpa using hlt
        have hw : IntKind.i64.wrap ((j : Int) + 1) = j + 1 := wrap_i64 _ (by omega) (by omega)
        have hj2 := join_cons2 x t sep j hlt'
        have htj := hxt _ (List.getElem_mem hlt')
        generalize Lib.join (x :: t.take j) sep = J at hq hq' hj2 ⊢
        repeat (first
          | (refine AWP_seq (AWP_regS tOk rfl ?_); simp [hlt'])
          | (refine AWP_regS tOk rfl ?_; simp [hlt'])
          | (refine AWP_skip ?_; simp [hlt'])
          | (refine AWP_exit ?_; simp [hlt'])
          | (refine AWP_ret ?_; simp [hlt'])
          | refine AWP_block ?_
          | refine AWP_seq ?_)
        refine AStep_FC rfl rfl (fc_WriteString (.vptr 0 0) (.inr rfl) J sep hq' (by omega)) rfl ?_
        rintro _ _ ⟨rfl, rfl⟩
        simp
        refine AWP_ren [0, 1, 3] (sl' := [(1, .str sep), (8, .vptr 0 0), (10, .str t[j]), (63, .list (t.map AV.str)), (64, .i t.length), (65, .i j)]) (H' := bld (.vptr 0 0) (J ++ sep)) ?_ (by simp [bld]) (by decide) (by simp) rfl (by simp [bld]) (by simp [bld]) (by simp)
        repeat (first
          | (refine AWP_seq (AWP_regS tOk rfl ?_); simp)
          | (refine AWP_regS tOk rfl ?_; simp)
          | (refine AWP_skip ?_; simp)
          | (refine AWP_exit ?_; simp)
          | (refine AWP_ret ?_; simp)
          | refine AWP_block ?_
          | refine AWP_seq ?_)
        refine AStep_FC rfl rfl (fc_WriteString (.vptr 0 0) (.inr rfl) (J ++ sep) t[j] (by simp; omega) (by omega)) rfl ?_
        rintro _ _ ⟨rfl, rfl⟩
        simp
        repeat (first
          | (refine AWP_seq (AWP_regS tOk rfl ?_); simp [hw])
          | (refine AWP_regS tOk rfl ?_; simp [hw])
          | (refine AWP_skip ?_; simp [hw])
          | (refine AWP_exit ?_; simp [hw])
          | (refine AWP_ret ?_; simp [hw])
          | refine AWP_block ?_
          | refine AWP_seq ?_)
        refine ALoop_ren [0, 1, 3] (sl' := [(1, .str sep), (8, .vptr 0 0), (63, .list (t.map AV.str)), (64, .i t.length), (65, .i (j + 1 : Nat))]) (H' := bld (.vptr 0 0) (Lib.join (x :: t.take (j + 1)) sep)) (ih hlt') ?_ (by decide) (by simp) rfl (by simp [bld]) (by simp [bld]) ?_
        · rw [hj2]; simp [bld]
        · simp
      · have hge' : j = t.length := by simp at hge; omega
        subst hge'
        rw [List.take_length] at hq' ⊢
        repeat (first
          | (refine AWP_seq (AWP_regS tOk rfl ?_); simp)
          | (refine AWP_regS tOk rfl ?_; simp)
          | (refine AWP_skip ?_; simp)
          | (refine AWP_exit ?_; simp)
          | (refine AWP_ret ?_; simp)
          | refine AWP_block ?_
          | refine AWP_seq ?_)
        refine AStep_FC rfl rfl (FC_bString (Lib.join (x :: t) sep) (join_ne x t sep h0 (by rw [← ht]; simp)) hq') rfl ?_
        rintro _ H' rfl
        simp
        repeat (first
          | (refine AWP_seq (AWP_regS tOk rfl ?_); simp)
          | (refine AWP_regS tOk rfl ?_; simp)
          | (refine AWP_skip ?_; simp)
          | (refine AWP_exit ?_; simp)
          | (refine AWP_ret ?_; simp)
          | refine AWP_block ?_
          | refine AWP_seq ?_)
end Go.Abs
set_option maxRecDepth 100000
namespace Go.Abs
open Go Go.Proofs
set_option linter.unusedSimpArgs false
/-- The text of an interval. -/
def ivText (x : Iv) : List UInt8 := if (x.hi != x.lo) = true then Lib.itoa x.lo ++ ([46, 46] ++ Lib.itoa x.hi) else Lib.itoa x.lo
def fmtT (l : List Iv) : List UInt8 := if l = [] then [110, 111, 110, 101] else Lib.join (l.map ivText) [32]
def ivFmtR (l : List Iv) : List UInt8 × Int := if ckR l = 0 then (fmtT l, 0) else ([], ckR l)
theorem ivText_len (x : Iv) (h1 : ivIn x) : (ivText x).length ≤ 1000 := by
  have a := (inB_iff _).1 h1.1
  have b := (inB_iff _).1 h1.2
  have := Lib.itoa_length_le x.lo (by omega) (by omega)
  have := Lib.itoa_length_le x.hi (by omega) (by omega)
  unfold ivText
  split
  · rw [List.length_append, List.length_append]; simp; omega
  · omega
def txtR (l : List Iv) : List (List UInt8) := l.map ivText
theorem txtR_snoc (l : List Iv) (j : Nat) (h : j < l.length) : txtR (l.take (j + 1)) = txtR (l.take j) ++ [ivText l[j]] := by
  rw [txtR, txtR, List.take_succ_eq_append_getElem h, List.map_append]; rfl
theorem txtR_len (l : List Iv) : (txtR l).length = l.length := by simp [txtR]
attribute [local irreducible] ckR Lib.itoa Lib.join
set_option maxHeartbeats 2000000 in
theorem pc_Format (l : List Iv) : PC Tryz.prog 28 [LIv l] (fun r => r = .tup [.str (ivFmtR l).1, .i (ivFmtR l).2]) := by
  refine PC_body tOk Tryz.func28 rfl Tryz.results28 rfl (by simp [Tryz.ntmps28]) ?_
  rw [Tryz.ntmps28]
  simp only [argSlots]
  repeat (first
    | (refine AWP_seq (AWP_regS tOk rfl ?_); simp)
    | (refine AWP_regS tOk rfl ?_; simp)
    | (refine AWP_skip ?_; simp)
    | (refine AWP_exit ?_; simp)
    | (refine AWP_ret ?_; simp)
    | refine AWP_block ?_
    | refine AWP_seq ?_)
  refine AStep_PC rfl rfl (by simp) (pc_Check l) rfl ?_
  rintro _ rfl
  simp
  repeat (first
    | (refine AWP_seq (AWP_regS tOk rfl ?_); simp)
    | (refine AWP_regS tOk rfl ?_; simp)
    | (refine AWP_skip ?_; simp)
    | (refine AWP_exit ?_; simp)
    | (refine AWP_ret ?_; simp)
    | refine AWP_block ?_
    | refine AWP_seq ?_)
  refine AWP_cond2 rfl (fun h => ?_) (fun h => ?_)
  · repeat (first
      | (refine AWP_seq (AWP_regS tOk rfl ?_); simp)
      | (refine AWP_regS tOk rfl ?_; simp)
      | (refine AWP_skip ?_; simp)
      | (refine AWP_exit ?_; simp)
      | (refine AWP_ret ?_; simp)
      | refine AWP_block ?_
      | refine AWP_seq ?_)
    rw [ivFmtR, if_neg (by simpa using h)]; exact ⟨rfl, rfl⟩
  have h0 : ckR l = 0 := by simpa using h
  have hc := (ck_iff l).1 h0
  have hlen := hc.len
  rw [ivFmtR, if_pos h0]
  by_cases hl0 : l = []
  · subst hl0
    repeat (first
      | (refine AWP_seq (AWP_regS tOk rfl ?_); simp)
      | (refine AWP_regS tOk rfl ?_; simp)
      | (refine AWP_skip ?_; simp)
      | (refine AWP_exit ?_; simp)
      | (refine AWP_ret ?_; simp)
      | refine AWP_block ?_
      | refine AWP_seq ?_)
    refine AWP_cond rfl ?_
    repeat (first
      | (refine AWP_seq (AWP_regS tOk rfl ?_); simp)
      | (refine AWP_regS tOk rfl ?_; simp)
      | (refine AWP_skip ?_; simp)
      | (refine AWP_exit ?_; simp)
      | (refine AWP_ret ?_; simp)
      | refine AWP_block ?_
      | refine AWP_seq ?_)
    rfl
  have hl1 : ((l.length : Int) == 0) = false := beq_eq_false_iff_ne.2 (by have := List.length_pos_iff.2 hl0; omega)
  rw [fmtT, if_neg hl0]
  repeat (first
    | (refine AWP_seq (AWP_regS tOk rfl ?_); simp)
    | (refine AWP_regS tOk rfl ?_; simp)
    | (refine AWP_skip ?_; simp)
    | (refine AWP_exit ?_; simp)
    | (refine AWP_ret ?_; simp)
    | refine AWP_block ?_
    | refine AWP_seq ?_)
  refine AWP_cond2 rfl (fun h => by rw [hl1] at h; cases h) (fun _ => ?_)
  repeat (first
    | (refine AWP_seq (AWP_regS tOk rfl ?_); simp)
    | (refine AWP_regS tOk rfl ?_; simp)
    | (refine AWP_skip ?_; simp)
    | (refine AWP_exit ?_; simp)
    | (refine AWP_ret ?_; simp)
    | refine AWP_block ?_
    | refine AWP_seq ?_)
  refine AWP_nilSlot 5 9 1 rfl ?_
  simp
  refine AWP_loop (ALoop_keep (sl' := [(5, .sl 0 1 0 0), (17, LIv l), (18, .i l.length), (19, .i 0)]) ?_ (by simp))
  refine ALoop_wf (F := fun (u : Nat × Nat × List AObj) => ⟨[(5, .sl u.2.1 1 0 (txtR (l.take u.1)).length), (17, LIv l), (18, .i l.length), (19, .i u.1)], u.2.2⟩)
    (fun u => u.1 ≤ l.length ∧ u.2.2[u.2.1]? = some (.arr 9 1 ((txtR (l.take u.1)).map AV.str))) (fun u => l.length - u.1) ?_ (0, 0, [.arr 9 1 []]) ⟨by simp, by simp [txtR]⟩
  rintro ⟨j, q, H2⟩ ⟨hj, g1⟩ ih
  simp only at hj g1 ih ⊢
  repeat (first
    | (refine AWP_seq (AWP_regS tOk rfl ?_); simp)
    | (refine AWP_regS tOk rfl ?_; simp)
    | (refine AWP_skip ?_; simp)
    | (refine AWP_exit ?_; simp)
    | (refine AWP_ret ?_; simp)
    | refine AWP_block ?_
    | refine AWP_seq ?_)
  refine AWP_cond2 rfl (fun hlt => ?_) (fun hge => ?_)
  · have hlt' : j < l.length := by simpa using hlt
    have hv := hc.iv hlt'
    have hw : IntKind.i64.wrap ((j : Int) + 1) = j + 1 := wrap_i64 _ (by omega) (by omega)
    have hpl : (txtR (l.take j)).length ≤ 256 := by rw [txtR_len]; simp; omega
    have hnx := txtR_snoc l j hlt'
    have ih' : ∀ (q' : Nat) (H' : List AObj), H'[q']? = some (.arr 9 1 ((txtR (l.take j) ++ [ivText l[j]]).map AV.str)) → _ := fun q' H' h => ih (j + 1, q', H') ⟨by simp; omega, by rw [hnx]; exact h⟩ (by simp; omega)
    clear ih
    simp only [hnx] at ih'
    clear hnx
    generalize txtR (l.take j) = acc at *
    repeat (first
      | (refine AWP_seq (AWP_regS tOk rfl ?_); simp [hlt'])
      | (refine AWP_regS tOk rfl ?_; simp [hlt'])
      | (refine AWP_skip ?_; simp [hlt'])
      | (refine AWP_exit ?_; simp [hlt'])
      | (refine AWP_ret ?_; simp [hlt'])
      | refine AWP_block ?_
      | refine AWP_seq ?_)
    refine AStep_PC rfl rfl (by simp) (pc_Itoa l[j].lo (by omega) (by omega)) rfl ?_
    rintro _ rfl
    simp
    repeat (first
      | (refine AWP_seq (AWP_regS tOk rfl ?_); simp)
      | (refine AWP_regS tOk rfl ?_; simp)
      | (refine AWP_skip ?_; simp)
      | (refine AWP_exit ?_; simp)
      | (refine AWP_ret ?_; simp)
      | refine AWP_block ?_
      | refine AWP_seq ?_)
    have hi1 := Lib.itoa_length_le l[j].lo (by omega) (by omega)
    have hi2 := Lib.itoa_length_le l[j].hi (by omega) (by omega)
    refine AWP_cond2 rfl (fun h3 => ?_) (fun h3 => ?_)
    · have ht : ivText l[j] = Lib.itoa l[j].lo ++ ([46, 46] ++ Lib.itoa l[j].hi) := by rw [ivText, if_pos (by simpa using h3)]
      rw [ht] at ih'
      repeat (first
        | (refine AWP_seq (AWP_regS tOk rfl ?_); simp)
        | (refine AWP_regS tOk rfl ?_; simp)
        | (refine AWP_skip ?_; simp)
        | (refine AWP_exit ?_; simp)
        | (refine AWP_ret ?_; simp)
        | refine AWP_block ?_
        | refine AWP_seq ?_)
      have hA : 2 + (Lib.itoa l[j].hi).length ≤ 9223372036854775807 := by omega
      have hB : (Lib.itoa l[j].lo).length + ((Lib.itoa l[j].hi).length + 1 + 1) ≤ 9223372036854775807 := by omega
      refine AStep_PC rfl rfl (by simp) (pc_Itoa l[j].hi (by omega) (by omega)) rfl ?_
      rintro _ rfl
      simp [hA, hB]
      repeat (first
        | (refine AWP_seq (AWP_regS tOk rfl ?_); simp [hA, hB])
        | (refine AWP_regS tOk rfl ?_; simp [hA, hB])
        | (refine AWP_skip ?_; simp [hA, hB])
        | (refine AWP_exit ?_; simp [hA, hB])
        | (refine AWP_ret ?_; simp [hA, hB])
        | refine AWP_block ?_
        | refine AWP_seq ?_)
      refine AStep_appendS tOk rfl rfl T71 rfl T9 rfl (by decide) (by decide) rfl rfl rfl ?_
      simp [get_app g1, set_app g1]
      refine ⟨by simp [appOk, get_app g1, set_app g1] <;> omega, ?_⟩
      repeat (first
        | (refine AWP_seq (AWP_regS tOk rfl ?_); simp [hw])
        | (refine AWP_regS tOk rfl ?_; simp [hw])
        | (refine AWP_skip ?_; simp [hw])
        | (refine AWP_exit ?_; simp [hw])
        | (refine AWP_ret ?_; simp [hw])
        | refine AWP_block ?_
        | refine AWP_seq ?_)
      exact ALoop_keep (sl' := [(5, .sl (H2.length + 2) 1 0 (acc.length + 1)), (17, LIv l), (18, .i l.length), (19, .i (j + 1 : Nat))]) (by
        have := ih' (H2.length + 2) (H2.set q .dead ++ [.vars [.int .i64 l[j].lo, .int .i64 l[j].hi], .arr 9 1 [.str (Lib.itoa l[j].lo ++ ([46, 46] ++ Lib.itoa l[j].hi))], .arr 9 1 ((acc ++ [Lib.itoa l[j].lo ++ ([46, 46] ++ Lib.itoa l[j].hi)]).map AV.str)]) (by rw [List.getElem?_append_right (by simp)]; simp)
        simpa using this) (by simp)
    · have ht : ivText l[j] = Lib.itoa l[j].lo := by rw [ivText, if_neg (by simpa using h3)]
      rw [ht] at ih'
      repeat (first
        | (refine AWP_seq (AWP_regS tOk rfl ?_); simp)
        | (refine AWP_regS tOk rfl ?_; simp)
        | (refine AWP_skip ?_; simp)
        | (refine AWP_exit ?_; simp)
        | (refine AWP_ret ?_; simp)
        | refine AWP_block ?_
        | refine AWP_seq ?_)
      refine AStep_appendS tOk rfl rfl T71 rfl T9 rfl (by decide) (by decide) rfl rfl rfl ?_
      simp [get_app g1, set_app g1]
      refine ⟨by simp [appOk, get_app g1, set_app g1] <;> omega, ?_⟩
      repeat (first
        | (refine AWP_seq (AWP_regS tOk rfl ?_); simp [hw])
        | (refine AWP_regS tOk rfl ?_; simp [hw])
        | (refine AWP_skip ?_; simp [hw])
        | (refine AWP_exit ?_; simp [hw])
        | (refine AWP_ret ?_; simp [hw])
        | refine AWP_block ?_
        | refine AWP_seq ?_)
      exact ALoop_keep (sl' := [(5, .sl (H2.length + 2) 1 0 (acc.length + 1)), (17, LIv l), (18, .i l.length), (19, .i (j + 1 : Nat))]) (by
        have := ih' (H2.length + 2) (H2.set q .dead ++ [.vars [.int .i64 l[j].lo, .int .i64 l[j].hi], .arr 9 1 [.str (Lib.itoa l[j].lo)], .arr 9 1 ((acc ++ [Lib.itoa l[j].lo]).map AV.str)]) (by rw [List.getElem?_append_right (by simp)]; simp)
        simpa using this) (by simp)
  · have hge' : j = l.length := by simp at hge; omega
    subst hge'
    rw [List.take_length] at g1 ⊢
    repeat (first
      | (refine AWP_seq (AWP_regS tOk rfl ?_); simp)
      | (refine AWP_regS tOk rfl ?_; simp)
      | (refine AWP_skip ?_; simp)
      | (refine AWP_exit ?_; simp)
      | (refine AWP_ret ?_; simp)
      | refine AWP_block ?_
      | refine AWP_seq ?_)
    refine AStep_freeze q g1 ?_
    simp
    rw [List.take_of_length_le (by simp)]
    have hJ := pc_Join (txtR l) [32] (by simp) (by simp) (by rw [txtR_len]; omega) (fun x hx => by
      obtain ⟨y, hy, rfl⟩ := List.mem_map.1 hx
      exact ivText_len y (one_in (hc.one y hy)).1)
    refine AStep_PC rfl rfl (by simp) (hJ) rfl ?_
    rintro _ rfl
    simp
    repeat (first
      | (refine AWP_seq (AWP_regS tOk rfl ?_); simp)
      | (refine AWP_regS tOk rfl ?_; simp)
      | (refine AWP_skip ?_; simp)
      | (refine AWP_exit ?_; simp)
      | (refine AWP_ret ?_; simp)
      | refine AWP_block ?_
      | refine AWP_seq ?_)
    rfl
end Go.Abs
set_option maxRecDepth 100000
namespace Go.Abs
/-- Two of one lower end: their order does not count. -/
theorem push_comm (acc : List Iv) (x y : Iv) (h : x.lo = y.lo) (hx : x.lo ≤ x.hi) (hy : y.lo ≤ y.hi) : pushR (pushR acc x) y = pushR (pushR acc y) x := by
  have one : ∀ (u v : Iv), u.lo = v.lo → u.lo ≤ u.hi → ∀ ini : List Iv, pushR (ini ++ [u]) v = ini ++ [⟨u.lo, if u.hi < v.hi then v.hi else u.hi⟩] := fun u v huv hu ini => by
    rw [pushR_concat, if_pos (by omega)]
  rcases List.eq_nil_or_concat acc with rfl | ⟨ini, z, rfl⟩
  · have e1 : pushR [] x = [] ++ [x] := rfl
    have e2 : pushR [] y = [] ++ [y] := rfl
    rw [e1, e2, one x y h hx, one y x h.symm hy, h]
    congr 3
    split <;> split <;> omega
  · rw [List.concat_eq_append]
    by_cases hz : x.lo ≤ z.hi + 1
    · have mrg : ∀ (w u : Iv), u.lo ≤ w.hi + 1 → pushR (ini ++ [w]) u = ini ++ [⟨w.lo, if w.hi < u.hi then u.hi else w.hi⟩] := fun w u h => by rw [pushR_concat, if_pos h]
      rw [mrg z x hz, mrg z y (by omega), mrg _ y (by simp only; split <;> omega), mrg _ x (by simp only; split <;> omega)]
      congr 3
      simp only
      repeat split
      all_goals omega
    · have ap : ∀ u : Iv, u.lo = x.lo → pushR (ini ++ [z]) u = ini ++ [z] ++ [u] := fun u h => by rw [pushR_concat, if_neg (by omega)]
      rw [ap x rfl, ap y h.symm, one x y h hx, one y x h.symm hy, h]
      congr 3
      split <;> split <;> omega
theorem pushes_bring : ∀ (A : List Iv) (acc : List Iv) (x : Iv) (B : List Iv), (∀ y ∈ A, y.lo = x.lo ∧ y.lo ≤ y.hi) → x.lo ≤ x.hi → pushes acc (A ++ x :: B) = pushes acc (x :: (A ++ B))
  | [], acc, x, B, _, _ => rfl
  | y :: A, acc, x, B, h, hx => by
    have hy := h y (by simp)
    have ih := pushes_bring A (pushR acc y) x B (fun z hz => h z (by simp [hz])) hx
    simp only [pushes, List.cons_append, List.foldl_cons] at ih ⊢
    rw [ih, push_comm acc y x hy.1 hy.2 hx]
theorem pushes_perm : ∀ (l l' : List Iv) (acc : List Iv), l.Perm l' → byLo l → byLo l' → (∀ y ∈ l, y.lo ≤ y.hi) → pushes acc l = pushes acc l'
  | [], l', acc, hp, _, _, _ => by rw [hp.nil_eq]
  | x :: l, l', acc, hp, h1, h2, hf => by
    obtain ⟨A, B, rfl⟩ := List.append_of_mem (hp.mem_iff.1 (List.mem_cons_self))
    have hp2 : l.Perm (A ++ B) := (List.perm_cons x).1 (hp.trans List.perm_middle)
    have hA : ∀ y ∈ A, y.lo = x.lo ∧ y.lo ≤ y.hi := fun y hy => by
      have hyl : y ∈ x :: l := hp.mem_iff.2 (by simp [hy])
      have a1 : y.lo ≤ x.lo := (List.pairwise_append.1 h2).2.2 y hy x (by simp)
      have a2 : x.lo ≤ y.lo := by
        rcases List.mem_cons.1 hyl with rfl | h
        · exact Int.le_refl _
        · exact (List.pairwise_cons.1 h1).1 y h
      exact ⟨by omega, hf y hyl⟩
    rw [pushes_bring A acc x B hA (hf x (by simp))]
    have hb : byLo (A ++ B) := h2.sublist (List.Sublist.append_left (List.sublist_cons_self x B) A)
    exact pushes_perm l (A ++ B) (pushR acc x) hp2 (List.pairwise_cons.1 h1).2 hb (fun y hy => hf y (by simp [hy]))
end Go.Abs
set_option maxRecDepth 100000
namespace Go.Abs
theorem insR_perm (s : List Iv) (x : Iv) : (insR s x).Perm (x :: s) := by
  unfold insR
  refine List.perm_middle.trans ?_
  rw [List.take_append_drop]
theorem insPos_spec (s : List Iv) (x : Iv) : ∀ j, j ≤ s.length → (∀ k, insPos s x j ≤ k → k < j → ∀ h : k < s.length, x.lo < s[k].lo) ∧ (∀ k, k + 1 = insPos s x j → ∀ h : k < s.length, s[k].lo ≤ x.lo)
  | 0, _ => ⟨fun k _ h => by omega, fun k h => by simp [insPos] at h⟩
  | j + 1, hj => by
    obtain ⟨a, b⟩ := insPos_spec s x j (by omega)
    have hg : gtAt s j x = decide (x.lo < s[j].lo) := by simp [gtAt, show j < s.length by omega]
    rw [insPos, hg]
    by_cases h : decide (x.lo < s[j].lo) = true
    · rw [if_pos h]
      refine ⟨fun k h1 h2 h3 => ?_, b⟩
      by_cases e : k = j
      · subst e; simpa using h
      · exact a k h1 (by omega) h3
    · rw [if_neg h]
      refine ⟨fun k h1 h2 => by omega, fun k h1 h2 => ?_⟩
      have e : k = j := by omega
      subst e
      simp at h; omega
theorem insR_byLo (s : List Iv) (x : Iv) (hs : byLo s) : byLo (insR s x) := by
  obtain ⟨a, b⟩ := insPos_spec s x s.length (Nat.le_refl _)
  have hq := insPos_le s x s.length
  unfold insR
  generalize insPos s x s.length = q at a b hq
  have hmono : ∀ i j, i < j → ∀ hi : i < s.length, ∀ hj : j < s.length, s[i].lo ≤ s[j].lo := fun i j h hi hj => List.pairwise_iff_getElem.1 hs i j hi hj h
  have htk : ∀ y ∈ s.take q, y.lo ≤ x.lo := fun y hy => by
    obtain ⟨i, hi, rfl⟩ := List.getElem_of_mem hy
    have hi' : i < q := by rw [List.length_take] at hi; omega
    rw [List.getElem_take]
    have h1 := b (q - 1) (by omega) (by omega)
    by_cases e : i = q - 1
    · subst e; exact h1
    · have := hmono i (q - 1) (by omega) (by omega) (by omega); omega
  have hdr : ∀ y ∈ s.drop q, x.lo ≤ y.lo := fun y hy => by
    obtain ⟨i, hi, rfl⟩ := List.getElem_of_mem hy
    rw [List.length_drop] at hi
    rw [List.getElem_drop]
    have := a (q + i) (by omega) (by omega) (by omega)
    omega
  have hsplit := hs
  unfold byLo at hsplit ⊢
  rw [← List.take_append_drop q s, List.pairwise_append] at hsplit
  obtain ⟨p1, p2, p3⟩ := hsplit
  refine List.pairwise_append.2 ⟨p1, List.pairwise_cons.2 ⟨hdr, p2⟩, fun y hy z hz => ?_⟩
  rcases List.mem_cons.1 hz with rfl | h
  · exact htk y hy
  · exact p3 y hy z h
theorem isort_spec0 : ∀ (l acc : List Iv), byLo acc → (l.foldl insR acc).Perm (acc ++ l) ∧ byLo (l.foldl insR acc)
  | [], acc, h => ⟨by simp, h⟩
  | x :: r, acc, h => by
    obtain ⟨a, b⟩ := isort_spec0 r (insR acc x) (insR_byLo acc x h)
    refine ⟨a.trans ?_, b⟩
    exact ((insR_perm acc x).append_right r).trans List.perm_middle.symm
theorem isort_spec (l : List Iv) : (isortR l).Perm l ∧ byLo (isortR l) := by
  have := isort_spec0 l [] .nil
  simpa [isortR] using this
theorem make_norm (l l' : List Iv) (hb : badR l = 0) (hp : l'.Perm l) (hl : byLo l') : pushes [] l' = normR l :=
  pushes_perm l' (isortR l) [] (hp.trans (isort_spec l).1.symm) hl (isort_spec l).2 (fun y hy => (one_in (bad_in l hb y (hp.mem_iff.1 hy))).2)
theorem make_eq (l : List Iv) (r : AV) (h : MakeQ l r) : r = rMakeR l := by
  rcases h with ⟨h1, rfl⟩ | ⟨h1, _, hb, l', hp, hl, rfl⟩
  · rw [rMakeR, if_neg h1]
  · rw [rMakeR, if_pos h1, make_norm l l' hb hp hl]
end Go.Abs
set_option maxRecDepth 100000
namespace Go.Abs
/-- A number is in one of the stretches. -/
def M (l : List Iv) (n : Int) : Prop := ∃ x ∈ l, x.lo ≤ n ∧ n ≤ x.hi
/-- Formed stretches in order, with gaps between them. -/
def Sep (l : List Iv) : Prop := (∀ x ∈ l, x.lo ≤ x.hi) ∧ l.Pairwise (fun x y => x.hi + 2 ≤ y.lo)
theorem M_nil (n : Int) : M [] n ↔ False := by simp [M]
theorem M_cons (x : Iv) (l : List Iv) (n : Int) : M (x :: l) n ↔ (x.lo ≤ n ∧ n ≤ x.hi) ∨ M l n := by simp [M]
theorem M_app (a b : List Iv) (n : Int) : M (a ++ b) n ↔ M a n ∨ M b n := by simp [M, or_and_right, exists_or]
theorem has_iff (l : List Iv) (n : Int) : hasR l n = true ↔ M l n := by simp [hasR, M]
theorem Sep.tail {x : Iv} {l : List Iv} (h : Sep (x :: l)) : Sep l := ⟨fun y hy => h.1 y (by simp [hy]), (List.pairwise_cons.1 h.2).2⟩
theorem Sep.low {x : Iv} {l : List Iv} (h : Sep (x :: l)) {n : Int} (hm : M l n) : x.hi + 2 ≤ n := by
  obtain ⟨y, hy, h1, h2⟩ := hm
  have := (List.pairwise_cons.1 h.2).1 y hy
  omega
theorem Sep.lowc {x : Iv} {l : List Iv} (h : Sep (x :: l)) {n : Int} (hm : M (x :: l) n) : x.lo ≤ n := by
  rcases (M_cons ..).1 hm with h1 | h1
  · exact h1.1
  · have := h.low h1
    have := h.1 x (by simp)
    omega
/-- Equal as sets, equal as lists. -/
theorem sep_ext : ∀ (a b : List Iv), Sep a → Sep b → (∀ n, M a n ↔ M b n) → a = b
  | [], [], _, _, _ => rfl
  | [], y :: b, _, hb, h => by
    have := (h y.lo).2 ((M_cons ..).2 (.inl ⟨Int.le_refl _, hb.1 y (by simp)⟩))
    exact absurd this (by simp [M])
  | x :: a, [], ha, _, h => by
    have := (h x.lo).1 ((M_cons ..).2 (.inl ⟨Int.le_refl _, ha.1 x (by simp)⟩))
    exact absurd this (by simp [M])
  | x :: a, y :: b, ha, hb, h => by
    have hx := ha.1 x (by simp)
    have hy := hb.1 y (by simp)
    have e1 : x.lo = y.lo := by
      have h1 := hb.lowc ((h x.lo).1 ((M_cons ..).2 (.inl ⟨Int.le_refl _, hx⟩)))
      have h2 := ha.lowc ((h y.lo).2 ((M_cons ..).2 (.inl ⟨Int.le_refl _, hy⟩)))
      omega
    have e2 : x.hi = y.hi := by
      rcases Int.lt_trichotomy x.hi y.hi with hlt | heq | hgt
      · rcases (M_cons ..).1 ((h (x.hi + 1)).2 ((M_cons ..).2 (.inl ⟨by omega, by omega⟩))) with h1 | h1
        · omega
        · have := ha.low h1
          omega
      · exact heq
      · rcases (M_cons ..).1 ((h (y.hi + 1)).1 ((M_cons ..).2 (.inl ⟨by omega, by omega⟩))) with h1 | h1
        · omega
        · have := hb.low h1
          omega
    have e3 : x = y := by cases x; cases y; simp_all
    subst e3
    rw [sep_ext a b ha.tail hb.tail fun n => ⟨fun hm => ?_, fun hm => ?_⟩]
    · have h1 := ha.low hm
      rcases (M_cons ..).1 ((h n).1 ((M_cons ..).2 (.inr hm))) with h2 | h2
      · omega
      · exact h2
    · have h1 := hb.low hm
      rcases (M_cons ..).1 ((h n).2 ((M_cons ..).2 (.inr hm))) with h2 | h2
      · omega
      · exact h2
theorem canon_sep {l : List Iv} (h : CanonL l) : Sep l :=
  ⟨fun x hx => (one_in (h.one x hx)).2, List.pairwise_iff_getElem.2 fun _ _ hi hj hij => canon_mono h hij hj hi⟩
theorem canon_in {l : List Iv} (h : CanonL l) : ∀ x ∈ l, ivIn x := fun x hx => (one_in (h.one x hx)).1
theorem canon_M {l : List Iv} (h : CanonL l) {n : Int} (hm : M l n) : -1099511627776 ≤ n ∧ n ≤ 1099511627776 := by
  obtain ⟨x, hx, h1, h2⟩ := hm
  have h3 := canon_in h x hx
  have h4 := (inB_iff _).1 h3.1
  have h5 := (inB_iff _).1 h3.2
  omega
theorem sep_canon {l : List Iv} (h : Sep l) (hi : ∀ x ∈ l, ivIn x) (hl : l.length ≤ 256) : CanonL l :=
  ⟨hl, fun y hy => by
    have h1 := hi y hy
    have h2 := h.1 y hy
    have h4 := h1.1
    have h5 := h1.2
    simp [oneR, h4, h5]; omega, fun j hj => List.pairwise_iff_getElem.1 h.2 j (j + 1) (by omega) hj (by omega)⟩
/-- What push does to a separate list. -/
theorem push_sep (acc : List Iv) (x : Iv) (ha : Sep acc) (hx : x.lo ≤ x.hi) (hle : ∀ y ∈ acc, y.lo ≤ x.lo) :
    Sep (pushR acc x) ∧ (∀ n, M (pushR acc x) n ↔ M acc n ∨ (x.lo ≤ n ∧ n ≤ x.hi)) ∧ (∀ z, x.lo ≤ z → ∀ y ∈ pushR acc x, y.lo ≤ z) := by
  rcases List.eq_nil_or_concat acc with rfl | ⟨ini, y, rfl⟩
  · have e : pushR [] x = [x] := rfl
    rw [e]
    exact ⟨⟨fun y hy => by simp at hy; subst hy; exact hx, by simp⟩, fun n => by simp [M], fun z hz y hy => by simp at hy; subst hy; exact hz⟩
  · rw [List.concat_eq_append] at ha hle ⊢
    rw [pushR_concat]
    have hy := ha.1 y (by simp)
    have hyx := hle y (by simp)
    obtain ⟨p1, p2, p3⟩ := List.pairwise_append.1 ha.2
    split
    · rename_i hj
      refine ⟨⟨fun z hz => ?_, List.pairwise_append.2 ⟨p1, by simp, fun u hu v hv => ?_⟩⟩, fun n => ?_, fun z hz u hu => ?_⟩
      · rcases List.mem_append.1 hz with h | h
        · exact ha.1 z (by simp [h])
        · simp at h; subst h; simp only; split <;> omega
      · simp at hv; subst hv; exact p3 u hu y (by simp)
      · rw [M_app, M_app, M_cons, M_cons, M_nil]
        simp only [or_false]
        by_cases hm : M ini n
        · simp [hm]
        · simp only [hm, false_or]
          split <;> omega
      · rcases List.mem_append.1 hu with h | h
        · have := hle u (by simp [h]); omega
        · simp at h; subst h; simp only; omega
    · rename_i hj
      refine ⟨⟨fun z hz => ?_, List.pairwise_append.2 ⟨ha.2, by simp, fun u hu v hv => ?_⟩⟩, fun n => by rw [M_app, M_cons, M_nil]; simp, fun z hz u hu => ?_⟩
      · rcases List.mem_append.1 hz with h | h
        · exact ha.1 z h
        · simp at h; subst h; exact hx
      · simp at hv; subst hv
        rcases List.mem_append.1 hu with h | h
        · have := p3 u h y (by simp); omega
        · simp at h; subst h; omega
      · rcases List.mem_append.1 hu with h | h
        · have := hle u h; omega
        · simp at h; subst h; exact hz
theorem pushes_sep : ∀ (l acc : List Iv), Sep acc → byLo l → (∀ x ∈ l, x.lo ≤ x.hi) → (∀ y ∈ acc, ∀ x ∈ l, y.lo ≤ x.lo) →
    Sep (pushes acc l) ∧ ∀ n, M (pushes acc l) n ↔ M acc n ∨ M l n
  | [], acc, ha, _, _, _ => ⟨ha, fun n => by simp [pushes, M]⟩
  | x :: l, acc, ha, hb, hf, hle => by
    have hp := push_sep acc x ha (hf x (by simp)) (fun y hy => hle y hy x (by simp))
    have ih := pushes_sep l (pushR acc x) hp.1 (List.pairwise_cons.1 hb).2 (fun y hy => hf y (by simp [hy])) (fun y hy z hz => hp.2.2 z.lo ((List.pairwise_cons.1 hb).1 z hz) y hy)
    refine ⟨ih.1, fun n => ?_⟩
    have e : pushes acc (x :: l) = pushes (pushR acc x) l := rfl
    rw [e, ih.2 n, hp.2.1 n, M_cons, or_assoc]
theorem sep_nil : Sep [] := ⟨by simp, by simp⟩
theorem M_perm {a b : List Iv} (h : a.Perm b) (n : Int) : M a n ↔ M b n := by
  simp only [M]
  exact ⟨fun ⟨x, hx, h1⟩ => ⟨x, h.mem_iff.1 hx, h1⟩, fun ⟨x, hx, h1⟩ => ⟨x, h.mem_iff.2 hx, h1⟩⟩
theorem norm_sep (l : List Iv) (hf : ∀ x ∈ l, x.lo ≤ x.hi) : Sep (normR l) ∧ ∀ n, M (normR l) n ↔ M l n := by
  have hs := isort_spec l
  have h := pushes_sep (isortR l) [] sep_nil hs.2 (fun x hx => hf x (hs.1.mem_iff.1 hx)) (by simp)
  refine ⟨h.1, fun n => ?_⟩
  rw [normR, h.2 n, M_nil, false_or, M_perm hs.1]
/-- What the sweep pushes. -/
def pieces (f : Int → Bool) : List Int → List Iv
  | c :: d :: r => (if f c = true then [⟨c, d - 1⟩] else []) ++ pieces f (d :: r)
  | _ => []
theorem sw_pieces (f : Int → Bool) : ∀ (cs : List Int) (acc : List Iv), swFrom f cs acc = pushes acc (pieces f cs)
  | [], acc => rfl
  | [c], acc => rfl
  | c :: d :: r, acc => by
    rw [swFrom, sw_pieces f (d :: r), pieces]
    split <;> rfl
theorem pieces_lo (f : Int → Bool) : ∀ (cs : List Int), cs.Pairwise (· < ·) → (∀ x ∈ pieces f cs, x.lo ≤ x.hi ∧ x.lo ∈ cs) ∧ byLo (pieces f cs)
  | [], _ => ⟨by simp [pieces], by simp [pieces, byLo]⟩
  | [c], _ => ⟨by simp [pieces], by simp [pieces, byLo]⟩
  | c :: d :: r, h => by
    have ih := pieces_lo f (d :: r) (List.pairwise_cons.1 h).2
    have hcd := (List.pairwise_cons.1 h).1 d (by simp)
    have hc := (List.pairwise_cons.1 h).1
    rw [pieces]
    split
    · refine ⟨fun x hx => ?_, List.pairwise_append.2 ⟨by simp, ih.2, fun u hu v hv => ?_⟩⟩
      · rcases List.mem_append.1 hx with h1 | h1
        · simp at h1; subst h1; exact ⟨by simp only; omega, by simp⟩
        · exact ⟨(ih.1 x h1).1, List.mem_cons_of_mem _ (ih.1 x h1).2⟩
      · simp at hu; subst hu
        have := hc v.lo (ih.1 v hv).2
        simp only; omega
    · refine ⟨fun x hx => ?_, by simpa using ih.2⟩
      have h1 : x ∈ pieces f (d :: r) := by simpa using hx
      exact ⟨(ih.1 x h1).1, List.mem_cons_of_mem _ (ih.1 x h1).2⟩
/-- Where the function is constant between cuts and false outside, the pieces are its set. -/
theorem pieces_M (f : Int → Bool) : ∀ (cs : List Int), cs.Pairwise (· < ·) → (∀ c n, c ∈ cs → c ≤ n → (∀ d ∈ cs, d ≤ n → d ≤ c) → f n = f c) → (∀ n, (∀ d ∈ cs, d ≤ n) → f n = false) →
    ∀ n, M (pieces f cs) n ↔ (∃ c ∈ cs, c ≤ n) ∧ f n = true
  | [], _, _, _, n => by simp [pieces, M]
  | [c], _, h1, h2, n => by
    simp only [pieces, M_nil, false_iff]
    rintro ⟨⟨d, hd, hdn⟩, hf⟩
    rw [h2 n fun e he => by simp at hd he; omega] at hf
    exact absurd hf (by simp)
  | c :: d :: r, h, h1, h2, n => by
    have hc := (List.pairwise_cons.1 h).1
    have hd := (List.pairwise_cons.1 (List.pairwise_cons.1 h).2).1
    have hcd := hc d (by simp)
    have ih := pieces_M f (d :: r) (List.pairwise_cons.1 h).2
      (fun c' n' hc' hn' hm => h1 c' n' (List.mem_cons_of_mem _ hc') hn' fun e he hen => by
        rcases List.mem_cons.1 he with rfl | he
        · have := hc c' hc'; omega
        · exact hm e he hen)
      (fun n' hn' => h2 n' fun e he => by
        rcases List.mem_cons.1 he with rfl | he
        · have := hn' d (by simp); omega
        · exact hn' e he) n
    rw [pieces, M_app, ih]
    by_cases hdn : d ≤ n
    · have e1 : M (if f c = true then [(⟨c, d - 1⟩ : Iv)] else []) n ↔ False := by
        split
        · rw [M_cons, M_nil, or_false, iff_false]; exact fun h => by have := h.2; simp only at this; omega
        · exact M_nil n
      rw [e1, false_or]
      exact ⟨fun ⟨_, hf⟩ => ⟨⟨d, by simp, hdn⟩, hf⟩, fun ⟨_, hf⟩ => ⟨⟨d, by simp, hdn⟩, hf⟩⟩
    · have e2 : ¬ ∃ e ∈ d :: r, e ≤ n := by
        rintro ⟨e, he, hen⟩
        rcases List.mem_cons.1 he with rfl | he
        · exact hdn hen
        · have := hd e he; omega
      simp only [e2, false_and, or_false]
      by_cases hcn : c ≤ n
      · have e3 : f n = f c := h1 c n (by simp) hcn fun e he hen => by
          rcases List.mem_cons.1 he with rfl | he
          · exact Int.le_refl _
          · exact absurd ⟨e, he, hen⟩ e2
        rw [e3]
        by_cases hfc : f c = true
        · rw [if_pos hfc, M_cons, M_nil]
          simp [hfc, hcn]; omega
        · rw [if_neg hfc, M_nil]; simp [hfc]
      · have e4 : ¬ ∃ e ∈ c :: d :: r, e ≤ n := by
          rintro ⟨e, he, hen⟩
          rcases List.mem_cons.1 he with rfl | he
          · exact hcn hen
          · exact e2 ⟨e, he, hen⟩
        simp only [e4, false_and, iff_false]
        split
        · rw [M_cons, M_nil, or_false]; exact fun h => hcn h.1
        · exact fun h => (M_nil n).1 h
end Go.Abs
set_option maxRecDepth 100000
namespace Go.Abs
open Go
theorem pts_iff : ∀ (l : List Iv) (z : Int), z ∈ ptsR l ↔ ∃ x ∈ l, z = x.lo ∨ z = x.hi + 1
  | [], z => by simp [ptsR]
  | y :: r, z => by
    rw [ptsR, List.mem_cons, List.mem_cons, pts_iff r z]
    simp [or_assoc]
theorem upto_spec (zs : List Int) (hs : zs.Pairwise (· ≤ ·)) : ∀ m, m ≤ zs.length →
    (Lib.compactUpTo zs.toArray m).Pairwise (· < ·) ∧ (∀ z, z ∈ Lib.compactUpTo zs.toArray m ↔ z ∈ zs.take m) := by
  intro m
  induction m with
  | zero => exact fun _ => ⟨by simp [Lib.compactUpTo], by simp [Lib.compactUpTo]⟩
  | succ m ih =>
    intro hm
    obtain ⟨h1, h2⟩ := ih (by omega)
    have hm' : m < zs.length := by omega
    have hg : zs.toArray[m]! = zs[m] := by simp [hm']
    rw [Lib.compactUpTo_succ]
    have ht : zs.take (m + 1) = zs.take m ++ [zs[m]] := by rw [List.take_succ_eq_append_getElem hm']
    by_cases hk : Lib.keeps zs.toArray m = true
    · rw [if_pos hk, hg, ht]
      refine ⟨List.pairwise_append.2 ⟨h1, by simp, fun u hu v hv => ?_⟩, fun z => by rw [List.mem_append, List.mem_append, h2]⟩
      simp at hv; subst hv
      obtain ⟨i, hi, rfl⟩ := List.getElem_of_mem ((h2 u).1 hu)
      have hi' : i < m := by simp at hi; omega
      rw [List.getElem_take]
      have hne : zs[m] ≠ zs[m - 1] := by
        simp [Lib.keeps] at hk
        have hm0 : m ≠ 0 := by omega
        have hk := hk.resolve_left hm0
        simpa [hm', show m - 1 < zs.length by omega] using hk
      have a1 : zs[i] ≤ zs[m - 1] := by
        rcases Nat.lt_or_ge i (m - 1) with h | h
        · exact List.pairwise_iff_getElem.1 hs i (m - 1) (by omega) (by omega) h
        · have : i = m - 1 := by omega
          subst this; exact Int.le_refl _
      have a2 : zs[m - 1] ≤ zs[m] := List.pairwise_iff_getElem.1 hs (m - 1) m (by omega) (by omega) (by omega)
      omega
    · rw [if_neg hk, List.append_nil, ht]
      refine ⟨h1, fun z => ?_⟩
      rw [h2, List.mem_append]
      refine ⟨.inl, fun h => h.elim id fun h => ?_⟩
      simp at h; subst h
      simp only [Lib.keeps, decide_eq_true_eq, not_or] at hk
      have hm1 : m - 1 < zs.length := by omega
      have hk2 : zs[m] = zs[m - 1] := by simpa [hm', hm1] using hk.2
      rw [hk2]
      exact List.mem_take_iff_getElem.2 ⟨m - 1, by omega, rfl⟩
theorem cuts_spec (l : List Iv) : (cutsR l).Pairwise (· < ·) ∧ ∀ z, z ∈ cutsR l ↔ ∃ x ∈ l, z = x.lo ∨ z = x.hi + 1 := by
  have hs : (sortI (ptsR l)).Pairwise (· ≤ ·) := by
    have := List.pairwise_mergeSort (le := fun x y : Int => decide (x ≤ y)) (fun a b c h1 h2 => by simp at h1 h2 ⊢; omega) (fun a b => by simp; omega) (ptsR l)
    simpa [sortI] using this
  have h := upto_spec _ hs _ (Nat.le_refl _)
  refine ⟨h.1, fun z => ?_⟩
  have h2 := h.2 z
  rw [List.take_length] at h2
  rw [cutsR, Lib.compact, h2, sortI, List.mem_mergeSort, pts_iff]
/-- Between neighbouring cuts a list's set is all or nothing. -/
theorem has_const (l : List Iv) (cs : List Int) (h : ∀ x ∈ l, x.lo ∈ cs ∧ x.hi + 1 ∈ cs) (c n : Int) (hc : c ≤ n) (hm : ∀ d ∈ cs, d ≤ n → d ≤ c) : hasR l n = hasR l c := by
  rw [Bool.eq_iff_iff, has_iff, has_iff]
  constructor
  · rintro ⟨x, hx, h1, h2⟩
    have := hm _ (h x hx).1 h1
    exact ⟨x, hx, this, by omega⟩
  · rintro ⟨x, hx, h1, h2⟩
    refine ⟨x, hx, by omega, ?_⟩
    by_cases hn : x.hi + 1 ≤ n
    · have := hm _ (h x hx).2 hn; omega
    · omega
theorem has_out (l : List Iv) (cs : List Int) (h : ∀ x ∈ l, x.lo ∈ cs ∧ x.hi + 1 ∈ cs) (n : Int) (hm : ∀ d ∈ cs, d ≤ n) : hasR l n = false := by
  rw [Bool.eq_false_iff]
  intro hh
  obtain ⟨x, hx, h1, h2⟩ := (has_iff ..).1 hh
  have := hm _ (h x hx).2
  omega
theorem sweep_spec (op : Bool → Bool → Bool) (h0 : op false false = false) (a b : List Iv) :
    Sep (sweepR op a b) ∧ (∀ n, M (sweepR op a b) n ↔ op (hasR a n) (hasR b n) = true) ∧ (sweepR op a b).length ≤ 2 * (a.length + b.length) := by
  obtain ⟨hc1, hc2⟩ := cuts_spec (a ++ b)
  have ha : ∀ x ∈ a, x.lo ∈ cutsR (a ++ b) ∧ x.hi + 1 ∈ cutsR (a ++ b) := fun x hx => ⟨(hc2 _).2 ⟨x, by simp [hx], .inl rfl⟩, (hc2 _).2 ⟨x, by simp [hx], .inr rfl⟩⟩
  have hb : ∀ x ∈ b, x.lo ∈ cutsR (a ++ b) ∧ x.hi + 1 ∈ cutsR (a ++ b) := fun x hx => ⟨(hc2 _).2 ⟨x, by simp [hx], .inl rfl⟩, (hc2 _).2 ⟨x, by simp [hx], .inr rfl⟩⟩
  have hlen : (cutsR (a ++ b)).length ≤ 2 * (a.length + b.length) := by
    rw [cutsR]
    have h1 := compact_len (sortI (ptsR (a ++ b)))
    rw [sortI_len, pts_len, List.length_append] at h1
    exact h1
  rw [sweepR, sw_pieces]
  generalize cutsR (a ++ b) = cs at hc1 ha hb hlen ⊢
  have hp := pieces_lo (fun n => op (hasR a n) (hasR b n)) cs hc1
  have hM := pieces_M (fun n => op (hasR a n) (hasR b n)) cs hc1
    (fun c n _ hcn hm => by rw [has_const a cs ha c n hcn hm, has_const b cs hb c n hcn hm])
    (fun n hn => by rw [has_out a cs ha n hn, has_out b cs hb n hn, h0])
  have hs := pushes_sep _ [] sep_nil hp.2 (fun x hx => (hp.1 x hx).1) (by simp)
  refine ⟨hs.1, fun n => ?_, ?_⟩
  · rw [hs.2 n, M_nil, false_or, hM n]
    refine ⟨fun h => h.2, fun h => ⟨?_, h⟩⟩
    cases hA : hasR a n with
    | true => obtain ⟨x, hx, h1, _⟩ := (has_iff ..).1 hA; exact ⟨_, (ha x hx).1, h1⟩
    | false =>
      cases hB : hasR b n with
      | true => obtain ⟨x, hx, h1, _⟩ := (has_iff ..).1 hB; exact ⟨_, (hb x hx).1, h1⟩
      | false => rw [hA, hB, h0] at h; exact absurd h (by simp)
  · have h1 := pushes_len (pieces (fun n => op (hasR a n) (hasR b n)) cs) []
    have h2 : ∀ (f : Int → Bool) (cs : List Int), (pieces f cs).length ≤ cs.length := by
      intro f cs
      induction cs with
      | nil => simp [pieces]
      | cons c r ih =>
        cases r with
        | nil => simp [pieces]
        | cons d r => rw [pieces, List.length_append, List.length_cons]; split <;> simp at ih ⊢ <;> omega
    have := h2 (fun n => op (hasR a n) (hasR b n)) cs
    simp at h1
    omega
theorem sep_in {l : List Iv} (h : Sep l) (hb : ∀ n, M l n → -1099511627776 ≤ n ∧ n ≤ 1099511627776) : ∀ x ∈ l, ivIn x := fun x hx =>
  ⟨(inB_iff _).2 (hb _ ⟨x, hx, Int.le_refl _, h.1 x hx⟩), (inB_iff _).2 (hb _ ⟨x, hx, h.1 x hx, Int.le_refl _⟩)⟩
theorem sweep_in (op : Bool → Bool → Bool) (h0 : op false false = false) {a b : List Iv} (ha : CanonL a) (hb : CanonL b) : ∀ x ∈ sweepR op a b, ivIn x := by
  have h := sweep_spec op h0 a b
  refine sep_in h.1 fun n hn => ?_
  have h1 := (h.2.1 n).1 hn
  cases hA : hasR a n with
  | true => exact canon_M ha ((has_iff ..).1 hA)
  | false =>
    cases hB : hasR b n with
    | true => exact canon_M hb ((has_iff ..).1 hB)
    | false => rw [hA, hB, h0] at h1; exact absurd h1 (by simp)
/-- The free stretches. -/
theorem gapFrom_spec : ∀ (l : List Iv) (s : Int), (∀ x ∈ l, x.lo ≤ x.hi ∧ x.hi ≤ 1099511627776) → l.Pairwise (fun x y => x.hi + 2 ≤ y.lo) → (∀ x ∈ l, s ≤ x.lo) →
    Sep (gapFrom l s) ∧ (∀ n, M (gapFrom l s) n ↔ s ≤ n ∧ n ≤ 1099511627776 ∧ ¬ M l n) ∧ (gapFrom l s).length ≤ l.length + 1
  | [], s, _, _, _ => by
    rw [gapFrom]
    split
    · exact ⟨⟨fun x hx => by simp at hx; subst hx; assumption, by simp⟩, fun n => by rw [M_cons, M_nil]; simp [M_nil], by simp⟩
    · exact ⟨sep_nil, fun n => by simp [M_nil]; omega, by simp⟩
  | x :: l, s, hf, hp, hs => by
    have hx := hf x (by simp)
    have hxs := hs x (by simp)
    have hgap := (List.pairwise_cons.1 hp).1
    obtain ⟨i1, i2, i3⟩ := gapFrom_spec l (x.hi + 1) (fun y hy => hf y (by simp [hy])) (List.pairwise_cons.1 hp).2 (fun y hy => by have := hgap y hy; omega)
    have hml : ∀ n, M l n → x.hi + 2 ≤ n := by
      rintro n ⟨y, hy, h1, h2⟩
      have := hgap y hy; omega
    rw [gapFrom]
    split
    · refine ⟨⟨fun y hy => ?_, ?_⟩, fun n => ?_, by simp; omega⟩
      · rcases List.mem_append.1 hy with h | h
        · simp at h; subst h; simp only; omega
        · exact i1.1 y h
      · refine List.pairwise_append.2 ⟨by simp, i1.2, fun u hu v hv => ?_⟩
        simp at hu; subst hu
        have := (i2 v.lo).1 ⟨v, hv, Int.le_refl _, i1.1 v hv⟩
        simp only; omega
      · rw [M_app, i2, M_cons, M_nil, M_cons]
        by_cases hm : M l n
        · have := hml n hm; simp [hm]; omega
        · simp only [hm, not_false_eq_true, and_true, or_false]; omega
    · refine ⟨⟨fun y hy => i1.1 y (by simpa using hy), by simpa using i1.2⟩, fun n => ?_, by simp; omega⟩
      rw [List.nil_append, i2, M_cons]
      by_cases hm : M l n
      · simp [hm]
      · simp only [hm, not_false_eq_true, and_true, or_false]; omega
theorem gaps_spec {l : List Iv} (h : CanonL l) : Sep (gapsR l) ∧ (∀ n, M (gapsR l) n ↔ (-1099511627776 ≤ n ∧ n ≤ 1099511627776) ∧ ¬ M l n) ∧ (gapsR l).length ≤ l.length + 1 := by
  have hs := canon_sep h
  have hi := canon_in h
  have := gapFrom_spec l (-1099511627776) (fun x hx => ⟨hs.1 x hx, ((inB_iff _).1 (hi x hx).2).2⟩) hs.2 (fun x hx => ((inB_iff _).1 (hi x hx).1).1)
  exact ⟨this.1, fun n => by rw [gapsR, this.2.1, and_assoc], this.2.2⟩
theorem gaps_in {l : List Iv} (h : CanonL l) : ∀ x ∈ gapsR l, ivIn x := sep_in (gaps_spec h).1 fun n hn => (((gaps_spec h).2.1 n).1 hn).1
/-- All pairs' common stretches, in the reference's order. -/
def meetR (x y : Iv) : Option Iv := if (if x.lo < y.lo then y.lo else x.lo) ≤ (if y.hi < x.hi then y.hi else x.hi) then some ⟨if x.lo < y.lo then y.lo else x.lo, if y.hi < x.hi then y.hi else x.hi⟩ else none
def pairsR (a b : List Iv) : List Iv := a.flatMap fun x => b.filterMap (meetR x)
theorem meet_some {x y z : Iv} (h : meetR x y = some z) : z.lo ≤ z.hi ∧ ∀ n, (z.lo ≤ n ∧ n ≤ z.hi) ↔ (x.lo ≤ n ∧ n ≤ x.hi) ∧ (y.lo ≤ n ∧ n ≤ y.hi) := by
  unfold meetR at h
  by_cases hle : (if x.lo < y.lo then y.lo else x.lo) ≤ (if y.hi < x.hi then y.hi else x.hi)
  · rw [if_pos hle] at h
    cases h
    refine ⟨hle, fun n => ?_⟩
    simp only
    split <;> split <;> omega
  · rw [if_neg hle] at h
    cases h
theorem meet_M {x y : Iv} {n : Int} (h1 : x.lo ≤ n ∧ n ≤ x.hi) (h2 : y.lo ≤ n ∧ n ≤ y.hi) : ∃ z, meetR x y = some z ∧ z.lo ≤ n ∧ n ≤ z.hi := by
  unfold meetR
  have : (if x.lo < y.lo then y.lo else x.lo) ≤ (if y.hi < x.hi then y.hi else x.hi) := by split <;> split <;> omega
  rw [if_pos this]
  refine ⟨_, rfl, ?_, ?_⟩ <;> simp only <;> split <;> omega
theorem pairs_spec (a b : List Iv) : (∀ x ∈ pairsR a b, x.lo ≤ x.hi) ∧ ∀ n, M (pairsR a b) n ↔ M a n ∧ M b n := by
  constructor
  · intro z hz
    obtain ⟨x, _, hz⟩ := List.mem_flatMap.1 hz
    obtain ⟨y, _, h⟩ := List.mem_filterMap.1 hz
    exact (meet_some h).1
  · intro n
    constructor
    · rintro ⟨z, hz, h1⟩
      obtain ⟨x, hx, hz⟩ := List.mem_flatMap.1 hz
      obtain ⟨y, hy, h⟩ := List.mem_filterMap.1 hz
      have := ((meet_some h).2 n).1 h1
      exact ⟨⟨x, hx, this.1⟩, ⟨y, hy, this.2⟩⟩
    · rintro ⟨⟨x, hx, h1⟩, ⟨y, hy, h2⟩⟩
      obtain ⟨z, hz, h3⟩ := meet_M h1 h2
      exact ⟨z, List.mem_flatMap.2 ⟨x, hx, List.mem_filterMap.2 ⟨y, hy, hz⟩⟩, h3⟩
def rBothL (a b : List Iv) : List Iv := normR (pairsR a b)
theorem rBoth_spec (a b : List Iv) : Sep (rBothL a b) ∧ ∀ n, M (rBothL a b) n ↔ M a n ∧ M b n := by
  have h := norm_sep (pairsR a b) (pairs_spec a b).1
  exact ⟨h.1, fun n => by rw [rBothL, h.2, (pairs_spec a b).2]⟩
theorem union_eq {a b : List Iv} (ha : CanonL a) (hb : CanonL b) : sweepR opUnion a b = normR (a ++ b) := by
  have h1 := sweep_spec opUnion rfl a b
  have h2 := norm_sep (a ++ b) (fun x hx => (List.mem_append.1 hx).elim ((canon_sep ha).1 x) ((canon_sep hb).1 x))
  refine sep_ext _ _ h1.1 h2.1 fun n => ?_
  rw [h1.2.1, h2.2, M_app, opUnion, Bool.or_eq_true, has_iff, has_iff]
theorem inter_eq (a b : List Iv) : sweepR opInter a b = rBothL a b := by
  have h1 := sweep_spec opInter rfl a b
  have h2 := rBoth_spec a b
  refine sep_ext _ _ h1.1 h2.1 fun n => ?_
  rw [h1.2.1, h2.2, opInter, Bool.and_eq_true, has_iff, has_iff]
theorem minus_M (a b : List Iv) (n : Int) : M (sweepR opMinus a b) n ↔ M a n ∧ ¬ M b n := by
  rw [(sweep_spec opMinus rfl a b).2.1, opMinus, Bool.and_eq_true, has_iff, ← has_iff b]; simp
theorem minus_eq {a b : List Iv} (ha : CanonL a) (hb : CanonL b) : sweepR opMinus a b = rBothL a (gapsR b) := by
  have h1 := sweep_spec opMinus rfl a b
  have h2 := rBoth_spec a (gapsR b)
  refine sep_ext _ _ h1.1 h2.1 fun n => ?_
  rw [minus_M, h2.2, (gaps_spec hb).2.1]
  exact ⟨fun h => ⟨h.1, canon_M ha h.1, h.2⟩, fun h => ⟨h.1, h.2.2⟩⟩
theorem nil_M {l : List Iv} (h : Sep l) : l = [] ↔ ∀ n, ¬ M l n := by
  cases l with
  | nil => simp [M]
  | cons x r => simp; exact ⟨x.lo, (M_cons ..).2 (.inl ⟨Int.le_refl _, h.1 x (by simp)⟩)⟩
theorem inside_eq {a : List Iv} (b : List Iv) (ha : CanonL a) : decide (sweepR opMinus a b = []) = decide (rBothL a b = a) := by
  rw [decide_eq_decide, nil_M (sweep_spec opMinus rfl a b).1]
  constructor
  · intro h
    refine sep_ext _ _ (rBoth_spec a b).1 (canon_sep ha) fun n => ?_
    rw [(rBoth_spec a b).2]
    refine ⟨fun h => h.1, fun hn => ⟨hn, ?_⟩⟩
    have := h n
    rw [minus_M] at this
    exact Classical.not_not.1 fun hb => this ⟨hn, hb⟩
  · intro h n hn
    rw [minus_M] at hn
    rw [← h, (rBoth_spec a b).2] at hn
    exact hn.2 hn.1.2
end Go.Abs
set_option maxRecDepth 100000
namespace Go.Abs
open Go
/-- One for true. -/
def b2 (b : Bool) : Int := if b = true then 1 else 0
/-- How many numbers of a stretch satisfy a test. -/
def cnt (p : Int → Bool) (A : Int) : Nat → Int
  | 0 => 0
  | n + 1 => cnt p A n + b2 (p (A + n))
theorem cnt_add (p q r s : Int → Bool) (h : ∀ k, b2 (p k) + b2 (q k) = b2 (r k) + b2 (s k)) (A : Int) : ∀ n, cnt p A n + cnt q A n = cnt r A n + cnt s A n
  | 0 => rfl
  | n + 1 => by have := cnt_add p q r s h A n; have := h (A + n); simp only [cnt]; omega
theorem cnt_congr (p q : Int → Bool) (h : ∀ k, p k = q k) (A : Int) (n : Nat) : cnt p A n = cnt q A n := by rw [show p = q from funext h]
theorem cnt_le (p q : Int → Bool) (h : ∀ k, p k = true → q k = true) (A : Int) : ∀ n, cnt p A n ≤ cnt q A n
  | 0 => Int.le_refl _
  | n + 1 => by
    have h1 := cnt_le p q h A n
    have h2 := h (A + n)
    have : b2 (p (A + n)) ≤ b2 (q (A + n)) := by
      cases hp : p (A + n) with
      | true => rw [h2 hp]; exact Int.le_refl _
      | false => cases q (A + n) <;> decide
    simp only [cnt]; omega
theorem cnt_zero (p : Int → Bool) (h : ∀ k, p k = false) (A : Int) : ∀ n, cnt p A n = 0
  | 0 => rfl
  | n + 1 => by rw [cnt, cnt_zero p h A n, h]; rfl
theorem cnt_one (A : Int) : ∀ n : Nat, cnt (fun _ => true) A n = n
  | 0 => rfl
  | n + 1 => by rw [cnt, cnt_one A n]; simp [b2]
def inI (lo hi k : Int) : Bool := decide (lo ≤ k) && decide (k ≤ hi)
theorem inI_iff (lo hi k : Int) : inI lo hi k = true ↔ lo ≤ k ∧ k ≤ hi := by simp [inI]
theorem b2_true {b : Bool} (h : b = true) : b2 b = 1 := by rw [h]; rfl
theorem b2_false {b : Bool} (h : ¬ b = true) : b2 b = 0 := by rw [b2, if_neg h]
theorem cnt_inI (lo hi A : Int) (h1 : A ≤ lo) (h2 : lo ≤ hi + 1) : ∀ n : Nat, cnt (inI lo hi) A n = if A + n ≤ lo then 0 else if A + n ≤ hi + 1 then A + n - lo else hi + 1 - lo
  | 0 => by simp [cnt]; omega
  | n + 1 => by
    rw [cnt, cnt_inI lo hi A h1 h2 n]
    by_cases h : inI lo hi (A + n) = true
    · rw [b2_true h]; rw [inI_iff] at h; push_cast; (repeat' split) <;> omega
    · rw [b2_false h]; rw [inI_iff] at h; push_cast; (repeat' split) <;> omega
theorem cnt_inI_all (lo hi A : Int) (n : Nat) (h1 : A ≤ lo) (h2 : lo ≤ hi + 1) (h3 : hi < A + n) : cnt (inI lo hi) A n = hi + 1 - lo := by
  rw [cnt_inI lo hi A h1 h2]; (repeat' split) <;> omega
theorem has_cons (x : Iv) (l : List Iv) (k : Int) : hasR (x :: l) k = (inI x.lo x.hi k || hasR l k) := by simp [hasR, inI]
theorem b2_or {p q : Bool} (h : ¬ (p = true ∧ q = true)) : b2 (p || q) = b2 p + b2 q := by cases p <;> cases q <;> simp_all [b2]
/-- The size of a list is the number of its members. -/
theorem size_cnt : ∀ (l : List Iv), Sep l → ∀ (A : Int) (n : Nat), (∀ k, M l k → A ≤ k ∧ k < A + n) → sizeS l = cnt (hasR l) A n
  | [], _, A, n, _ => by rw [sizeS, cnt_zero _ (fun k => by simp [hasR])]
  | x :: l, hs, A, n, hb => by
    have ih := size_cnt l hs.tail A n fun k hk => hb k ((M_cons ..).2 (.inr hk))
    have hx := hs.1 x (by simp)
    have b1 := hb x.lo ((M_cons ..).2 (.inl ⟨Int.le_refl _, hx⟩))
    have b2' := hb x.hi ((M_cons ..).2 (.inl ⟨hx, Int.le_refl _⟩))
    have h := cnt_add (hasR (x :: l)) (fun _ => false) (inI x.lo x.hi) (hasR l) (fun k => by
      rw [has_cons, b2_or, show b2 false = 0 from rfl, Int.add_zero]
      rintro ⟨h1, h2⟩
      rw [inI_iff] at h1
      have := hs.low ((has_iff ..).1 h2)
      omega) A n
    rw [cnt_zero (fun _ => false) (fun _ => rfl), cnt_inI_all _ _ _ _ b1.1 (by omega) b2'.2] at h
    rw [sizeS, ih]; omega
theorem size_pos : ∀ (l : List Iv), Sep l → 0 ≤ sizeS l
  | [], _ => Int.le_refl _
  | x :: l, hs => by have := size_pos l hs.tail; have := hs.1 x (by simp); rw [sizeS]; omega
theorem at_out : ∀ (l : List Iv) (i : Int), Sep l → sizeS l ≤ i → atFrom l i = (0, 2)
  | [], _, _, _ => rfl
  | x :: l, i, hs, h => by
    rw [sizeS] at h
    have := size_pos l hs.tail
    rw [atFrom, if_neg (by omega), at_out l _ hs.tail (by omega)]
/-- At returns the member with that many members below it. -/
theorem at_spec : ∀ (l : List Iv) (i : Int), Sep l → 0 ≤ i → i < sizeS l → ∀ (A : Int) (n : Nat), (∀ k, M l k → A ≤ k ∧ k < A + n) →
    ∃ x, atFrom l i = (x, 0) ∧ M l x ∧ cnt (fun k => hasR l k && decide (k < x)) A n = i
  | [], i, _, h0, h1, _, _, _ => by rw [sizeS] at h1; omega
  | x :: l, i, hs, h0, h1, A, n, hb => by
    have hx := hs.1 x (by simp)
    have b1 := hb x.lo ((M_cons ..).2 (.inl ⟨Int.le_refl _, hx⟩))
    have b2' := hb x.hi ((M_cons ..).2 (.inl ⟨hx, Int.le_refl _⟩))
    have hsum : ∀ z, cnt (fun k => hasR (x :: l) k && decide (k < z)) A n = cnt (fun k => inI x.lo x.hi k && decide (k < z)) A n + cnt (fun k => hasR l k && decide (k < z)) A n := fun z => by
      have h := cnt_add (fun k => hasR (x :: l) k && decide (k < z)) (fun _ => false) (fun k => inI x.lo x.hi k && decide (k < z)) (fun k => hasR l k && decide (k < z)) (fun k => by
        rw [has_cons, Bool.and_or_distrib_right, b2_or, show b2 false = 0 from rfl, Int.add_zero]
        rintro ⟨h1, h2⟩
        rw [Bool.and_eq_true] at h1 h2
        have h3 := (inI_iff ..).1 h1.1
        have := hs.low ((has_iff ..).1 h2.1)
        omega) A n
      rw [cnt_zero (fun _ => false) (fun _ => rfl)] at h
      omega
    rw [atFrom]
    split
    · rename_i hlt
      refine ⟨_, rfl, (M_cons ..).2 (.inl ⟨by omega, by omega⟩), ?_⟩
      rw [hsum, cnt_congr _ (inI x.lo (x.lo + i - 1)) (fun k => by rw [Bool.eq_iff_iff, Bool.and_eq_true, inI_iff, inI_iff]; simp; omega), cnt_inI_all _ _ _ _ b1.1 (by omega) (by omega),
        cnt_zero _ (fun k => by
          rw [Bool.eq_false_iff]
          intro hh
          rw [Bool.and_eq_true] at hh
          have := hs.low ((has_iff ..).1 hh.1)
          simp at hh
          omega)]
      omega
    · rename_i hge
      rw [sizeS] at h1
      obtain ⟨y, e1, e2, e3⟩ := at_spec l (i - (x.hi - x.lo + 1)) hs.tail (by omega) (by omega) A n fun k hk => hb k ((M_cons ..).2 (.inr hk))
      refine ⟨y, e1, (M_cons ..).2 (.inr e2), ?_⟩
      have hy := hs.low e2
      rw [hsum, e3, cnt_congr _ (inI x.lo x.hi) (fun k => by rw [Bool.eq_iff_iff, Bool.and_eq_true, inI_iff]; simp; omega), cnt_inI_all _ _ _ _ b1.1 (by omega) b2'.2]
      omega
theorem bounds_of {l : List Iv} (h : CanonL l) : ∀ k, M l k → (-1099511627776 : Int) ≤ k ∧ k < -1099511627776 + (2199023255553 : Nat) := fun k hk => by
  have := canon_M h hk; omega
theorem size_canon {l : List Iv} (h : CanonL l) : sizeS l = cnt (hasR l) (-1099511627776) 2199023255553 := size_cnt l (canon_sep h) _ _ (bounds_of h)
theorem size_sweep (op : Bool → Bool → Bool) (h0 : op false false = false) {a b : List Iv} (ha : CanonL a) (hb : CanonL b) :
    sizeS (sweepR op a b) = cnt (fun k => op (hasR a k) (hasR b k)) (-1099511627776) 2199023255553 := by
  have h := sweep_spec op h0 a b
  rw [size_cnt _ h.1 (-1099511627776) 2199023255553 fun k hk => ?_]
  · exact cnt_congr _ _ (fun k => by rw [Bool.eq_iff_iff, has_iff, h.2.1]) _ _
  · obtain ⟨x, hx, h1, h2⟩ := hk
    have h3 := sweep_in op h0 ha hb x hx
    have h4 := (inB_iff _).1 h3.1
    have h5 := (inB_iff _).1 h3.2
    omega
/-- Union and intersection add up. -/
theorem size_union {a b : List Iv} (ha : CanonL a) (hb : CanonL b) : sizeS a + sizeS b = sizeS (sweepR opUnion a b) + sizeS (sweepR opInter a b) := by
  rw [size_canon ha, size_canon hb, size_sweep opUnion rfl ha hb, size_sweep opInter rfl ha hb]
  refine cnt_add _ _ _ _ (fun k => ?_) _ _
  cases hasR a k <;> cases hasR b k <;> decide
theorem size_gaps {a : List Iv} (ha : CanonL a) : sizeS a + sizeS (gapsR a) = 2199023255553 := by
  have hg := gaps_spec ha
  rw [size_canon ha, size_cnt _ hg.1 (-1099511627776) 2199023255553 fun k hk => by have := ((hg.2.1 k).1 hk).1; omega]
  have h1 := cnt_inI_all (-1099511627776) 1099511627776 (-1099511627776) 2199023255553 (by omega) (by omega) (by omega)
  have h := cnt_add (hasR a) (hasR (gapsR a)) (inI (-1099511627776) 1099511627776) (fun _ => false) (fun k => by
    have h3 := has_iff a k
    have h4 := hg.2.1 k
    rw [← has_iff] at h4
    have h5 := inI_iff (-1099511627776) 1099511627776 k
    by_cases hm : M a k
    · have := canon_M ha hm
      rw [b2_true (h3.2 hm), b2_false (fun h => (h4.1 h).2 hm), b2_true (h5.2 this)]; rfl
    · rw [b2_false (fun h => hm (h3.1 h))]
      by_cases hk : -1099511627776 ≤ k ∧ k ≤ 1099511627776
      · rw [b2_true (h4.2 ⟨hk, hm⟩), b2_true (h5.2 hk)]; rfl
      · rw [b2_false (fun h => hk (h4.1 h).1), b2_false (fun h => hk (h5.1 h))]; rfl) (-1099511627776) 2199023255553
  rw [cnt_zero (fun _ => false) (fun _ => rfl)] at h
  omega
/-- Two neighbours by At: in order, and nothing between them. -/
theorem at_two {a : List Iv} (ha : CanonL a) (i x y : Int) (h0 : 0 < i) (h1 : i < sizeS a) (hx : atFrom a i = (x, 0)) (hy : atFrom a (i - 1) = (y, 0)) :
    y < x ∧ CanonL [⟨y, x⟩] ∧ sizeS (sweepR opInter a [⟨y, x⟩]) = 2 := by
  obtain ⟨x', e1, e2, e3⟩ := at_spec a i (canon_sep ha) (by omega) h1 _ _ (bounds_of ha)
  obtain ⟨y', f1, f2, f3⟩ := at_spec a (i - 1) (canon_sep ha) (by omega) (by omega) _ _ (bounds_of ha)
  rw [hx] at e1
  rw [hy] at f1
  cases e1
  cases f1
  have bx := canon_M ha e2
  have by' := canon_M ha f2
  have hlt : y < x := by
    rcases Int.lt_or_le y x with h | h
    · exact h
    · have := cnt_le (fun k => hasR a k && decide (k < x)) (fun k => hasR a k && decide (k < y)) (fun k => by simp; intro h1 h2; exact ⟨h1, by omega⟩) (-1099511627776) 2199023255553
      omega
  have hc : CanonL [⟨y, x⟩] := ⟨by simp, fun z hz => by
    simp at hz; subst hz
    have h1 := (inB_iff y).2 by'
    have h2 := (inB_iff x).2 bx
    simp [oneR, h1, h2]; omega, fun j h => by simp at h⟩
  refine ⟨hlt, hc, ?_⟩
  rw [size_sweep opInter rfl ha hc]
  have h := cnt_add (fun k => hasR a k && decide (k < y)) (fun k => opInter (hasR a k) (hasR [⟨y, x⟩] k)) (fun k => hasR a k && decide (k < x)) (inI x x) (fun k => by
    have hax := (has_iff ..).2 e2
    have h5 : hasR [⟨y, x⟩] k = inI y x k := by rw [has_cons]; simp [hasR]
    rw [h5, opInter]
    by_cases hk : hasR a k = true
    · rw [hk, Bool.true_and, Bool.true_and, Bool.true_and]
      by_cases c1 : k < y
      · rw [b2_true (by simpa using c1), b2_false (fun h => by rw [inI_iff] at h; omega), b2_true (b := decide (k < x)) (by simp; omega), b2_false (fun h => by rw [inI_iff] at h; omega)]
      · rw [b2_false (b := decide (k < y)) (by simpa using c1)]
        by_cases c2 : k < x
        · rw [b2_true (b := inI y x k) ((inI_iff ..).2 (by omega)), b2_true (b := decide (k < x)) (by simpa using c2), b2_false (fun h => by rw [inI_iff] at h; omega)]; rfl
        · rw [b2_false (b := decide (k < x)) (by simpa using c2)]
          by_cases c3 : k = x
          · rw [b2_true ((inI_iff ..).2 (by omega)), b2_true ((inI_iff ..).2 (by omega))]
          · rw [b2_false (fun h => by rw [inI_iff] at h; omega), b2_false (fun h => by rw [inI_iff] at h; omega)]
    · have : k ≠ x := fun h => hk (h ▸ hax)
      have hk' : hasR a k = false := by simpa using hk
      rw [hk', Bool.false_and, Bool.false_and, Bool.false_and, b2_false (b := inI x x k) (fun h => by rw [inI_iff] at h; omega)]; rfl) (-1099511627776) 2199023255553
  rw [e3, f3, cnt_inI_all _ _ _ _ (by omega) (by omega) (by omega)] at h
  omega
end Go.Abs
set_option maxRecDepth 100000
namespace Go.Abs
open Go
theorem sweep_canon (op : Bool → Bool → Bool) (h0 : op false false = false) {a b : List Iv} (ha : CanonL a) (hb : CanonL b) (hl : 2 * (a.length + b.length) ≤ 256) : CanonL (sweepR op a b) :=
  sep_canon (sweep_spec op h0 a b).1 (sweep_in op h0 ha hb) (by have := (sweep_spec op h0 a b).2.2; omega)
theorem gaps_canon {a : List Iv} (ha : CanonL a) (hl : a.length + 1 ≤ 256) : CanonL (gapsR a) :=
  sep_canon (gaps_spec ha).1 (gaps_in ha) (by have := (gaps_spec ha).2.2; omega)
theorem has_sweep (op : Bool → Bool → Bool) (h0 : op false false = false) (a b : List Iv) (n : Int) : hasR (sweepR op a b) n = op (hasR a n) (hasR b n) := by
  rw [Bool.eq_iff_iff, has_iff, (sweep_spec op h0 a b).2.1]
theorem has_gaps {a : List Iv} (ha : CanonL a) (n : Int) : hasR (gapsR a) n = (inB n && !hasR a n) := by
  rw [Bool.eq_iff_iff, has_iff, (gaps_spec ha).2.1, Bool.and_eq_true, inB_iff, ← has_iff]; simp
theorem demorgan {a b : List Iv} (ha : CanonL a) (hb : CanonL b) (hl : 2 * (a.length + b.length) ≤ 256) : gapsR (sweepR opUnion a b) = sweepR opInter (gapsR a) (gapsR b) := by
  have hu := sweep_canon opUnion rfl ha hb hl
  refine sep_ext _ _ (gaps_spec hu).1 (sweep_spec opInter rfl _ _).1 fun n => ?_
  rw [← has_iff, ← has_iff, has_gaps hu, has_sweep opUnion rfl, has_sweep opInter rfl, has_gaps ha, has_gaps hb]
  cases inB n <;> cases hasR a n <;> cases hasR b n <;> simp [opUnion, opInter]
theorem gaps_gaps {a : List Iv} (ha : CanonL a) (hl : a.length + 1 ≤ 256) : gapsR (gapsR a) = a := by
  have hg := gaps_canon ha hl
  refine sep_ext _ _ (gaps_spec hg).1 (canon_sep ha) fun n => ?_
  rw [← has_iff, ← has_iff, has_gaps hg, has_gaps ha]
  have h : hasR a n = true → inB n = true := fun h => (inB_iff _).2 (canon_M ha ((has_iff ..).1 h))
  cases hA : hasR a n
  · cases inB n <;> simp
  · rw [h hA]; simp
theorem has_num {a : List Iv} (ha : CanonL a) {n : Int} (h : inB n = false) : hasR a n = false := by
  rw [Bool.eq_false_iff]
  intro hh
  rw [(inB_iff _).2 (canon_M ha ((has_iff ..).1 hh))] at h
  exact absurd h (by simp)
/-- Inside of each other: equal. -/
theorem minus_nil (a b : List Iv) : sweepR opMinus a b = [] ↔ ∀ n, M a n → M b n := by
  rw [nil_M (sweep_spec opMinus rfl a b).1]
  refine forall_congr' fun n => ?_
  rw [minus_M]
  exact ⟨fun h hn => Classical.not_not.1 fun hb => h ⟨hn, hb⟩, fun h hn => hn.2 (h hn.1)⟩
theorem inside_both {a b : List Iv} (ha : CanonL a) (hb : CanonL b) : (decide (sweepR opMinus a b = []) && decide (sweepR opMinus b a = [])) = decide (a = b) := by
  rw [Bool.eq_iff_iff, Bool.and_eq_true, decide_eq_true_eq, decide_eq_true_eq, decide_eq_true_eq, minus_nil, minus_nil]
  exact ⟨fun h => sep_ext _ _ (canon_sep ha) (canon_sep hb) fun n => ⟨h.1 n, h.2 n⟩, fun h => by subst h; exact ⟨fun _ h => h, fun _ h => h⟩⟩
theorem inside_union {a b : List Iv} (hb : CanonL b) (h : sweepR opMinus a b = []) : sweepR opUnion a b = b := by
  refine sep_ext _ _ (sweep_spec opUnion rfl a b).1 (canon_sep hb) fun n => ?_
  rw [← has_iff, has_sweep opUnion rfl, opUnion, Bool.or_eq_true, has_iff, has_iff]
  exact ⟨fun h' => h'.elim ((minus_nil a b).1 h n) id, .inr⟩
theorem union_comm (a b : List Iv) : sweepR opUnion b a = sweepR opUnion a b := by
  refine sep_ext _ _ (sweep_spec opUnion rfl b a).1 (sweep_spec opUnion rfl a b).1 fun n => ?_
  rw [← has_iff, ← has_iff, has_sweep opUnion rfl, has_sweep opUnion rfl, opUnion, opUnion, Bool.or_comm]
end Go.Abs
set_option maxRecDepth 100000
namespace Go.Abs
open Go
theorem clip_some {d : Int} {x z : Iv} (h : clipR d x = some z) : z.lo ≤ z.hi ∧ x.lo + d ≤ z.lo ∧ z.hi ≤ x.hi + d ∧ -1099511627776 ≤ z.lo ∧ z.hi ≤ 1099511627776 ∧
    ∀ n, -1099511627776 ≤ n → n ≤ 1099511627776 → ((z.lo ≤ n ∧ n ≤ z.hi) ↔ (x.lo ≤ n - d ∧ n - d ≤ x.hi)) := by
  simp only [clipR] at h
  by_cases hc : (if x.lo + d < -1099511627776 then -1099511627776 else x.lo + d) ≤ (if 1099511627776 < x.hi + d then 1099511627776 else x.hi + d)
  · rw [if_pos hc] at h
    cases h
    simp only
    refine ⟨hc, ?_, ?_, ?_, ?_, fun n h1 h2 => ?_⟩ <;> (repeat' split) <;> omega
  · rw [if_neg hc] at h; cases h
theorem clip_none {d : Int} {x : Iv} (h : clipR d x = none) (n : Int) (h1 : -1099511627776 ≤ n) (h2 : n ≤ 1099511627776) : ¬ (x.lo ≤ n - d ∧ n - d ≤ x.hi) := by
  intro h3
  simp only [clipR] at h
  by_cases hc : (if x.lo + d < -1099511627776 then -1099511627776 else x.lo + d) ≤ (if 1099511627776 < x.hi + d then 1099511627776 else x.hi + d)
  · rw [if_pos hc] at h; cases h
  · apply hc
    (repeat' split) <;> omega
/-- Clipped and shifted: separate, within the numbers, and the set of the shifted numbers. -/
theorem clip_list (d : Int) : ∀ (l : List Iv), Sep l → Sep (l.filterMap (clipR d)) ∧ (∀ z ∈ l.filterMap (clipR d), ivIn z) ∧ ∀ n, -1099511627776 ≤ n → n ≤ 1099511627776 → (M (l.filterMap (clipR d)) n ↔ M l (n - d))
  | [], _ => ⟨sep_nil, by simp, fun n _ _ => by simp [M]⟩
  | x :: l, hs => by
    obtain ⟨i1, i2, i3⟩ := clip_list d l hs.tail
    cases hc : clipR d x with
    | none =>
      rw [List.filterMap_cons_none hc]
      exact ⟨i1, i2, fun n h1 h2 => by rw [i3 n h1 h2, M_cons]; have := clip_none hc n h1 h2; simp [this]⟩
    | some z =>
      rw [List.filterMap_cons_some hc]
      obtain ⟨c1, c2, c3, c4, c5, c6⟩ := clip_some hc
      refine ⟨⟨fun y hy => ?_, List.pairwise_cons.2 ⟨fun y hy => ?_, i1.2⟩⟩, fun y hy => ?_, fun n h1 h2 => by rw [M_cons, M_cons, i3 n h1 h2, c6 n h1 h2]⟩
      · rcases List.mem_cons.1 hy with rfl | h
        · exact c1
        · exact i1.1 y h
      · have hy2 := (inB_iff _).1 (i2 y hy).1
        have hyM := (i3 y.lo hy2.1 hy2.2).1 ⟨y, hy, Int.le_refl _, i1.1 y hy⟩
        have := hs.low hyM
        omega
      · rcases List.mem_cons.1 hy with rfl | h
        · exact ⟨(inB_iff _).2 (by omega), (inB_iff _).2 (by omega)⟩
        · exact i2 y h
theorem shift_canon {l : List Iv} (h : CanonL l) (d : Int) : CanonL (l.filterMap (clipR d)) :=
  sep_canon (clip_list d l (canon_sep h)).1 (clip_list d l (canon_sep h)).2.1 (by have := List.length_filterMap_le (clipR d) l; have := h.len; omega)
theorem shift_has {l : List Iv} (h : CanonL l) (d n : Int) (h1 : -1099511627776 ≤ n) (h2 : n ≤ 1099511627776) : hasR (l.filterMap (clipR d)) n = hasR l (n - d) := by
  rw [Bool.eq_iff_iff, has_iff, has_iff, (clip_list d l (canon_sep h)).2.2 n h1 h2]
end Go.Abs
set_option maxRecDepth 100000
namespace Go.Abs
open Go Go.Proofs
set_option linter.unusedSimpArgs false
theorem pc_Make' (l : List Iv) : PC Tryz.prog 34 [LIv l] (fun r => r = rMakeR l) := (pc_Make l).mono fun r h => make_eq l r h
theorem iw1 : rMakeR [⟨5, 6⟩, ⟨1, 2⟩, ⟨3, 3⟩] = .tup [LIv [⟨1, 3⟩, ⟨5, 6⟩], .i 0] := by kernel_rfl
theorem iw2 : ivFmtR [⟨1, 3⟩, ⟨5, 6⟩] = ([49, 46, 46, 51, 32, 53, 46, 46, 54], 0) := by kernel_rfl
theorem iw3 : ckR [⟨1, 3⟩, ⟨5, 6⟩] = 0 := by kernel_rfl
theorem iw3s : sizeS [⟨1, 3⟩, ⟨5, 6⟩] = 5 := by kernel_rfl
theorem iw4 : atR [⟨1, 3⟩, ⟨5, 6⟩] 3 = (5, 0) := by kernel_rfl
theorem iw5 : complR [⟨0, 0⟩] = .tup [LIv [⟨-1099511627776, -1⟩, ⟨1, 1099511627776⟩], .i 0] := by kernel_rfl
theorem iw6a : limR (rBothL [⟨1, 5⟩] (gapsR [⟨2, 3⟩])) = .tup [LIv [⟨1, 1⟩, ⟨4, 5⟩], .i 0] := by kernel_rfl
theorem iw6b : bothR [⟨1, 5⟩] [⟨2, 3⟩] = 0 := by kernel_rfl
theorem iw6 : combR opMinus [⟨1, 5⟩] [⟨2, 3⟩] = .tup [LIv [⟨1, 1⟩, ⟨4, 5⟩], .i 0] := by
  obtain ⟨ha, hb⟩ := both_zero iw6b
  rw [combR, if_pos iw6b, minus_eq ha hb]
  exact iw6a
theorem iw7 : ivFmtR [⟨1, 1⟩, ⟨4, 5⟩] = ([49, 32, 52, 46, 46, 53], 0) := by kernel_rfl
theorem iw8 : shiftR [⟨1099511627775, 1099511627776⟩] 1 = ([⟨1099511627776, 1099511627776⟩], 0) := by kernel_rfl
attribute [local irreducible] rMakeR ivFmtR ckR sizeS atR complR combR shiftR
set_option maxHeartbeats 1000000 in
theorem pc_awake : PC Tryz.prog 8 [] (fun r => r = .bool true) := by
  refine PC_body tOk Tryz.func8 rfl Tryz.results8 rfl (by simp [Tryz.ntmps8]) ?_
  rw [Tryz.ntmps8]
  simp only [argSlots]
  repeat (first
    | (refine AWP_seq (AWP_regS tOk rfl ?_); simp)
    | (refine AWP_regS tOk rfl ?_; simp)
    | (refine AWP_skip ?_; simp)
    | (refine AWP_exit ?_; simp)
    | (refine AWP_ret ?_; simp)
    | refine AWP_block ?_
    | refine AWP_seq ?_)
  refine AStep_freeze 0 rfl ?_
  simp
  refine AStep_PC rfl rfl (by simp) (pc_Make' [⟨5, 6⟩, ⟨1, 2⟩, ⟨3, 3⟩]) rfl ?_
  rintro _ rfl
  simp [iw1]
  repeat (first
    | (refine AWP_seq (AWP_regS tOk rfl ?_); simp)
    | (refine AWP_regS tOk rfl ?_; simp)
    | (refine AWP_skip ?_; simp)
    | (refine AWP_exit ?_; simp)
    | (refine AWP_ret ?_; simp)
    | refine AWP_block ?_
    | refine AWP_seq ?_)
  refine AStep_PC rfl rfl (by simp) (pc_Format [⟨1, 3⟩, ⟨5, 6⟩]) rfl ?_
  rintro _ rfl
  simp [iw2]
  repeat (first
    | (refine AWP_seq (AWP_regS tOk rfl ?_); simp)
    | (refine AWP_regS tOk rfl ?_; simp)
    | (refine AWP_skip ?_; simp)
    | (refine AWP_exit ?_; simp)
    | (refine AWP_ret ?_; simp)
    | refine AWP_block ?_
    | refine AWP_seq ?_)
  refine AStep_PC rfl rfl (by simp) (pc_Size [⟨1, 3⟩, ⟨5, 6⟩]) rfl ?_
  rintro _ rfl
  simp [iw3, iw3s]
  repeat (first
    | (refine AWP_seq (AWP_regS tOk rfl ?_); simp)
    | (refine AWP_regS tOk rfl ?_; simp)
    | (refine AWP_skip ?_; simp)
    | (refine AWP_exit ?_; simp)
    | (refine AWP_ret ?_; simp)
    | refine AWP_block ?_
    | refine AWP_seq ?_)
  refine AStep_PC rfl rfl (by simp) (pc_At [⟨1, 3⟩, ⟨5, 6⟩] 3 (by omega)) rfl ?_
  rintro _ rfl
  simp [iw4]
  repeat (first
    | (refine AWP_seq (AWP_regS tOk rfl ?_); simp)
    | (refine AWP_regS tOk rfl ?_; simp)
    | (refine AWP_skip ?_; simp)
    | (refine AWP_exit ?_; simp)
    | (refine AWP_ret ?_; simp)
    | refine AWP_block ?_
    | refine AWP_seq ?_)
  refine AStep_freeze 1 rfl ?_
  simp
  refine AStep_PC rfl rfl (by simp) (pc_Complement [⟨0, 0⟩]) rfl ?_
  rintro _ rfl
  simp [iw5]
  repeat (first
    | (refine AWP_seq (AWP_regS tOk rfl ?_); simp)
    | (refine AWP_regS tOk rfl ?_; simp)
    | (refine AWP_skip ?_; simp)
    | (refine AWP_exit ?_; simp)
    | (refine AWP_ret ?_; simp)
    | refine AWP_block ?_
    | refine AWP_seq ?_)
  refine AStep_freeze 2 rfl ?_
  simp
  refine AStep_freeze 3 rfl ?_
  simp
  refine AStep_PC rfl rfl (by simp) (pc_Minus [⟨1, 5⟩] [⟨2, 3⟩]) rfl ?_
  rintro _ rfl
  simp [iw6]
  repeat (first
    | (refine AWP_seq (AWP_regS tOk rfl ?_); simp)
    | (refine AWP_regS tOk rfl ?_; simp)
    | (refine AWP_skip ?_; simp)
    | (refine AWP_exit ?_; simp)
    | (refine AWP_ret ?_; simp)
    | refine AWP_block ?_
    | refine AWP_seq ?_)
  refine AStep_PC rfl rfl (by simp) (pc_Format [⟨1, 1⟩, ⟨4, 5⟩]) rfl ?_
  rintro _ rfl
  simp [iw7]
  repeat (first
    | (refine AWP_seq (AWP_regS tOk rfl ?_); simp)
    | (refine AWP_regS tOk rfl ?_; simp)
    | (refine AWP_skip ?_; simp)
    | (refine AWP_exit ?_; simp)
    | (refine AWP_ret ?_; simp)
    | refine AWP_block ?_
    | refine AWP_seq ?_)
  refine AStep_freeze 4 rfl ?_
  simp
  refine AStep_PC rfl rfl (by simp) (pc_Shift [⟨1099511627775, 1099511627776⟩] 1) rfl ?_
  rintro _ rfl
  simp [iw8]
  repeat (first
    | (refine AWP_seq (AWP_regS tOk rfl ?_); simp)
    | (refine AWP_regS tOk rfl ?_; simp)
    | (refine AWP_skip ?_; simp)
    | (refine AWP_exit ?_; simp)
    | (refine AWP_ret ?_; simp)
    | refine AWP_block ?_
    | refine AWP_seq ?_)
  have r2 : List.range 2 = [0, 1] := rfl
  refine AWP_cond rfl ?_
  repeat (first
    | (refine AWP_seq (AWP_regS tOk rfl ?_); simp [r2])
    | (refine AWP_regS tOk rfl ?_; simp [r2])
    | (refine AWP_skip ?_; simp [r2])
    | (refine AWP_exit ?_; simp [r2])
    | (refine AWP_ret ?_; simp [r2])
    | refine AWP_block ?_
    | refine AWP_seq ?_)
  refine AStep_freeze 5 rfl ?_
  simp
  refine AStep_PC rfl rfl (by simp) (pc_Same [⟨-1099511627776, -1⟩, ⟨1, 1099511627776⟩] [⟨-1099511627776, -1⟩, ⟨1, 1099511627776⟩]) rfl ?_
  rintro _ rfl
  simp
  repeat (first
    | (refine AWP_seq (AWP_regS tOk rfl ?_); simp)
    | (refine AWP_regS tOk rfl ?_; simp)
    | (refine AWP_skip ?_; simp)
    | (refine AWP_exit ?_; simp)
    | (refine AWP_ret ?_; simp)
    | refine AWP_block ?_
    | refine AWP_seq ?_)
  refine AStep_freeze 6 rfl ?_
  simp
  refine AStep_PC rfl rfl (by simp) (pc_Same [⟨1099511627776, 1099511627776⟩] [⟨1099511627776, 1099511627776⟩]) rfl ?_
  rintro _ rfl
  simp
  repeat (first
    | (refine AWP_seq (AWP_regS tOk rfl ?_); simp)
    | (refine AWP_regS tOk rfl ?_; simp)
    | (refine AWP_skip ?_; simp)
    | (refine AWP_exit ?_; simp)
    | (refine AWP_ret ?_; simp)
    | refine AWP_block ?_
    | refine AWP_seq ?_)
end Go.Abs
set_option maxRecDepth 100000
namespace Go.Abs
open Go Go.Proofs Go.RowKit Go.Proofs.YtcjmlnjoaekbjaaGreatDoor
theorem laidOut : laidOutB Tryz.prog = true := by kernel_rfl
theorem own : ownKnob Tryz.prog.godebug = none := by kernel_rfl
theorem list_of {α : Type} {g : α → AV} {Q : α → Prop} : ∀ xs : List AV, (∀ x ∈ xs, ∃ a, x = g a ∧ Q a) → ∃ l : List α, xs = l.map g ∧ ∀ a ∈ l, Q a
  | [], _ => ⟨[], rfl, by simp⟩
  | x :: xs, h => by
    obtain ⟨a, rfl, ha⟩ := h x (by simp)
    obtain ⟨l, rfl, hl⟩ := list_of xs (fun y hy => h y (by simp [hy]))
    exact ⟨a :: l, rfl, by simpa using ⟨ha, hl⟩⟩
theorem reach_le : reachBytes ≤ 140737488355328 := by decide
theorem shpInt {d : Nat} {zs : List AV} (h : Shp T (d + 1) 3 zs) : ∃ n : Int, zs = [.i n] ∧ -9223372036854775808 ≤ n ∧ n ≤ 9223372036854775807 := by
  simp only [Shp, T3, ShpI] at h
  obtain ⟨n, rfl, h1, h2⟩ := h
  exact ⟨n, rfl, h1, h2⟩
theorem shpBool {d : Nat} {zs : List AV} (h : Shp T (d + 1) 4 zs) : ∃ b : Bool, zs = [.bool b] := by
  simp only [Shp, T4, ShpI] at h
  exact h
theorem shpStr {d : Nat} {zs : List AV} (h : Shp T (d + 1) 9 zs) : ∃ s : List UInt8, zs = [.str s] ∧ s.length ≤ 140737488355328 := by
  simp only [Shp, T9, ShpI] at h
  obtain ⟨s, rfl, hs⟩ := h
  exact ⟨s, rfl, Nat.le_trans hs reach_le⟩
theorem argsNil {d : Nat} {xs : List AV} (h : ArgsShp T d [] xs) : xs = [] := h
theorem argInt {d : Nat} {ts : List Nat} {xs : List AV} (h : ArgsShp T (d + 1) (3 :: ts) xs) : ∃ (n : Int) (r : List AV), xs = .i n :: r ∧ (-9223372036854775808 ≤ n ∧ n ≤ 9223372036854775807) ∧ ArgsShp T (d + 1) ts r := by
  obtain ⟨i, zs, r, hi, rfl, h1, h⟩ := h
  rw [T3] at hi; cases hi
  obtain ⟨n, rfl, hn⟩ := shpInt h1
  exact ⟨n, r, rfl, hn, h⟩
theorem argBool {d : Nat} {ts : List Nat} {xs : List AV} (h : ArgsShp T (d + 1) (4 :: ts) xs) : ∃ (b : Bool) (r : List AV), xs = .bool b :: r ∧ ArgsShp T (d + 1) ts r := by
  obtain ⟨i, zs, r, hi, rfl, h1, h⟩ := h
  rw [T4] at hi; cases hi
  obtain ⟨b, rfl⟩ := shpBool h1
  exact ⟨b, r, rfl, h⟩
theorem argStr {d : Nat} {ts : List Nat} {xs : List AV} (h : ArgsShp T (d + 1) (9 :: ts) xs) : ∃ (s : List UInt8) (r : List AV), xs = .str s :: r ∧ s.length ≤ 140737488355328 ∧ ArgsShp T (d + 1) ts r := by
  obtain ⟨i, zs, r, hi, rfl, h1, h⟩ := h
  rw [T9] at hi; cases hi
  obtain ⟨s, rfl, hs⟩ := shpStr h1
  exact ⟨s, r, rfl, hs, h⟩
/-- What a tie's reading of a table of integers comes to: the block's cells. -/
theorem tab_in {l : List (String × DataW Unit)} {w : World} {name : String} {k : IntKind} {zs : List Int} {g : Nat} {t e : TypeId} {n : Nat} (h : laidMetH Tryz.prog l w) (hl : l.filter (fun x => x.1 == name) = [(name, Lib.tabData k zs)])
    (hg : Tryz.prog.globalNamed name = some g) (hty : (Tryz.prog.globals[g]?).map (·.type) = some t) (ht : Tryz.prog.underlying t = some (.array n e)) (he : Tryz.prog.underlying e = some (.int k)) (hce : Tryz.prog.cellsOf e = 1) (hct : Tryz.prog.cellsOf t = n) :
    g < w.heap.size ∧ ∃ t fr, w.heap[g]? = some (.cells (zs.map fun z => Value.int k z).toArray t fr) := by
  have h1 := h.filter (fun x => x.1 == name)
  rw [hl] at h1
  have h2 : Lib.TabIs Tryz.prog w name k zs := Lib.tabIs_of_head hg hty ht he hce hct h1
  unfold Lib.TabIs World.var? at h2
  rw [hg] at h2
  simp only [Option.bind_some] at h2
  cases ho : w.heap[g]? with
  | none => rw [ho] at h2; simp at h2
  | some o =>
    rw [ho] at h2
    refine ⟨(Array.getElem?_eq_some_iff.1 ho).1, ?_⟩
    cases o <;> simp at h2
    rename_i cs t fr
    exact ⟨t, fr, by rw [h2]⟩
end Go.Abs
set_option maxRecDepth 100000
namespace Go.Abs
open Go Go.Proofs Go.RowKit Go.Proofs.YtcjmlnjoaekbjaaGreatDoor
theorem shpIv {d : Nat} {zs : List AV} (h : Shp T (d + 2) 59 zs) : ∃ v : Iv, zs = (encIv v).cells := by
  simp only [Shp, T59, T3, ShpI, ShpF, List.map_cons, List.map_nil] at h
  obtain ⟨_, _, rfl, ⟨a, rfl, ha⟩, _, _, rfl, ⟨b, rfl, hb⟩, rfl⟩ := h
  exact ⟨⟨a, b⟩, rfl⟩
theorem argLIv {d : Nat} {ts : List Nat} {xs : List AV} (h : ArgsShp T (d + 3) (22 :: ts) xs) : ∃ (l : List Iv) (r : List AV), xs = LIv l :: r ∧ ArgsShp T (d + 3) ts r := by
  obtain ⟨i, zs, r, hi, rfl, h1, h⟩ := h
  rw [T22] at hi; cases hi
  simp only [Shp, T22, ShpI] at h1
  obtain ⟨ei, xs, he, rfl, hl, hx⟩ := h1
  rw [T59] at he
  cases he
  obtain ⟨l, rfl, hq⟩ := list_of (g := encIv) (Q := fun _ => True) xs (fun x hxm => by
    obtain ⟨zs, rfl, hz⟩ := hx x hxm
    obtain ⟨v, rfl⟩ := shpIv (d := d) hz
    exact ⟨v, rfl, trivial⟩)
  exact ⟨l, r, rfl, h⟩
theorem maxLen_in {w : World} (h : w.ShapedOpen Tryz.prog) : 0 < w.heap.size ∧ ∃ (cs : List Value) (t : TypeId) (fr : Nat × Nat), someInt cs ∧ w.heap[0]? = some (.cells cs.toArray t fr) := by
  obtain ⟨m, hm⟩ := Go.Proofs.cell_of_shapedOpen_int (zero := #[.int .i64 0]) (t := 3) (g := 0) h (of_decide_eq_true (by kernel_rfl)) (by kernel_rfl) rfl (by kernel_rfl) (by kernel_rfl) Tryz.underlying3
  obtain ⟨cs, hh, hs, _⟩ := h.1 0 #[.int .i64 0] 3 (of_decide_eq_true (by kernel_rfl)) (by kernel_rfl)
  refine ⟨(Array.getElem?_eq_some_iff.1 hh).1, cs.toList, 3, _, ⟨m, ?_⟩, by simpa using hh⟩
  rw [Lib.cell_of_heap hh] at hm
  rcases cs with ⟨cs⟩
  match cs, hs with
  | [v], _ => simpa using hm
theorem eok_of {l : List (String × DataW Unit)} {w : World} (h : laidMetH Tryz.prog l w) (hS : w.ShapedOpen Tryz.prog) (hl : l.filter (fun x => x.1 == "internal/strconv.uint64pow10") = [("internal/strconv.uint64pow10", Lib.tabData .u64 Lib.pow10Tab)]) : EOK Tryz.prog w (· < w.heap.size) := fun g cs hm => by
  rcases List.mem_cons.1 hm with e | hm
  · cases e
    obtain ⟨h1, t, fr, h2⟩ := tab_in (t := 164) (e := 129) (n := 20) h hl (by kernel_rfl) (by kernel_rfl) (by kernel_rfl) (by kernel_rfl) (by kernel_rfl) (by kernel_rfl)
    exact ⟨h1, _, t, fr, rfl, h2⟩
  · have e := List.mem_singleton.1 hm
    cases e
    exact maxLen_in hS
end Go.Abs
