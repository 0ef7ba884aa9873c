/- Part IntervalEquals of the proof: an abstract machine over the model, and what the functions of the program hand back in its terms. No condition. -/
import Derived.Test.YtcjmlnjoaekbjaaDoorKf
import Derived.Test.YtcjmlnjoaekbjaaDoorKd
set_option linter.all false
set_option maxRecDepth 100000
namespace Go.Abs
open Go Go.Proofs
set_option linter.unusedSimpArgs false
theorem bad_zero : ∀ (l : List Iv), (∀ y ∈ l, oneR y = 0) → badR l = 0
  | [], _ => rfl
  | x :: r, h => by
    rw [badR, if_neg (by rw [h x (by simp)]; decide), bad_zero r fun y hy => h y (by simp [hy])]
theorem make_of {a b : List Iv} (ha : CanonL a) (hb : CanonL b) (hl : a.length + b.length ≤ 256) : rMakeR (a ++ b) = .tup [LIv (sweepR opUnion a b), .i 0] := by
  have h : makeE (a ++ b) = 0 := by
    rw [makeE, if_neg (by simp; omega), bad_zero _ fun y hy => (List.mem_append.1 hy).elim (ha.one y) (hb.one y)]
  rw [rMakeR, if_pos h, union_eq ha hb]
theorem inside_of {a b : List Iv} (ha : CanonL a) (hb : CanonL b) : insideR a b = (decide (sweepR opMinus a b = []), 0) := by rw [insideR, if_pos (both_of ha hb)]
attribute [local irreducible] complR combR ckR goodR conR hasR sweepR gapsR inB rMakeR insideR
set_option maxHeartbeats 4000000 in
theorem law_Equals (a b : List Iv) : PC Tryd.prog 4 [LIv a, LIv b] (fun r => r = .bool true) := by
  refine PC_body tOk Tryd.func4 rfl Tryd.results4 rfl (by simp [Tryd.ntmps4]) ?_
  rw [Tryd.ntmps4]
  simp only [argSlots]
  have r2 : List.range 2 = [0, 1] := rfl
  repeat (first
    | (refine AWP_seq (AWP_regS tOk rfl ?_); simp [r2])
    | (refine AWP_regS tOk rfl ?_; simp [r2])
    | (refine AWP_skip ?_; simp [r2])
    | (refine AWP_exit ?_; simp [r2])
    | (refine AWP_ret ?_; simp [r2])
    | refine AWP_block ?_
    | refine AWP_seq ?_)
  refine AStep_freeze 0 rfl ?_
  simp
  refine AStep_PC rfl rfl (by simp) (pc_good [a, b]) rfl ?_
  rintro _ rfl
  simp
  cases hf : goodR [a, b] with
  | false =>
    repeat (first
      | (refine AWP_seq (AWP_regS tOk rfl ?_); simp)
      | (refine AWP_regS tOk rfl ?_; simp)
      | (refine AWP_skip ?_; simp)
      | (refine AWP_exit ?_; simp)
      | (refine AWP_ret ?_; simp)
      | refine AWP_block ?_
      | refine AWP_seq ?_)
    refine AWP_cond rfl ?_
    repeat (first
      | (refine AWP_seq (AWP_regS tOk rfl ?_); simp)
      | (refine AWP_regS tOk rfl ?_; simp)
      | (refine AWP_skip ?_; simp)
      | (refine AWP_exit ?_; simp)
      | (refine AWP_ret ?_; simp)
      | refine AWP_block ?_
      | refine AWP_seq ?_)
    refine AStep_PC rfl rfl (by simp) (pc_awake) rfl ?_
    rintro _ rfl
    simp
    repeat (first
      | (refine AWP_seq (AWP_regS tOk rfl ?_); simp)
      | (refine AWP_regS tOk rfl ?_; simp)
      | (refine AWP_skip ?_; simp)
      | (refine AWP_exit ?_; simp)
      | (refine AWP_ret ?_; simp)
      | refine AWP_block ?_
      | refine AWP_seq ?_)
  | true =>
    obtain ⟨hla, ha⟩ := good_of hf a (by simp)
    obtain ⟨hlb, hb⟩ := good_of hf b (by simp)
    have hU := sweep_canon opUnion rfl ha hb (by omega)
    have c0 := inside_of ha hb
    have c0' := inside_of hb ha
    have c1 := comb_of opUnion rfl ha hb (by omega)
    have c2 := comb_of opUnion rfl hb ha (by omega)
    have c3 := comb_of opMinus rfl ha hb (by omega)
    have hm := make_of hb ha (by omega)
    rw [union_comm] at c2 hm
    have hib := inside_both ha hb
    have hiu := inside_union (a := a) hb
    have hck := (ck_iff _).2 hU
    generalize sweepR opUnion a b = U at *
    generalize sweepR opMinus a b = W at *
    generalize sweepR opMinus b a = W' at *
    have hw0 : IntKind.i64.wrap 0 = 0 := wrap_i64 _ (by omega) (by omega)
    by_cases hW : W = []
    · have hUb := hiu hW
      subst hW
      rw [decide_eq_true rfl, Bool.true_and] at hib
      rw [decide_eq_true rfl] at c0
      rw [hib] at c0'
      subst hUb
      repeat (first
        | (refine AWP_seq (AWP_regS tOk rfl ?_); simp)
        | (refine AWP_regS tOk rfl ?_; simp)
        | (refine AWP_skip ?_; simp)
        | (refine AWP_exit ?_; simp)
        | (refine AWP_ret ?_; simp)
        | refine AWP_block ?_
        | refine AWP_seq ?_)
      refine AWP_cond rfl ?_
      repeat (first
        | (refine AWP_seq (AWP_regS tOk rfl ?_); simp)
        | (refine AWP_regS tOk rfl ?_; simp)
        | (refine AWP_skip ?_; simp)
        | (refine AWP_exit ?_; simp)
        | (refine AWP_ret ?_; simp)
        | refine AWP_block ?_
        | refine AWP_seq ?_)
      refine AStep_PC rfl rfl (by simp) (pc_Inside a U) rfl ?_
      rintro _ rfl
      simp [c0]
      repeat (first
        | (refine AWP_seq (AWP_regS tOk rfl ?_); simp)
        | (refine AWP_regS tOk rfl ?_; simp)
        | (refine AWP_skip ?_; simp)
        | (refine AWP_exit ?_; simp)
        | (refine AWP_ret ?_; simp)
        | refine AWP_block ?_
        | refine AWP_seq ?_)
      refine AStep_PC rfl rfl (by simp) (pc_Inside U a) rfl ?_
      rintro _ rfl
      simp [c0']
      repeat (first
        | (refine AWP_seq (AWP_regS tOk rfl ?_); simp)
        | (refine AWP_regS tOk rfl ?_; simp)
        | (refine AWP_skip ?_; simp)
        | (refine AWP_exit ?_; simp)
        | (refine AWP_ret ?_; simp)
        | refine AWP_block ?_
        | refine AWP_seq ?_)
      refine AStep_PC rfl rfl (by simp) (pc_Minus a U) rfl ?_
      rintro _ rfl
      simp [c3]
      repeat (first
        | (refine AWP_seq (AWP_regS tOk rfl ?_); simp)
        | (refine AWP_regS tOk rfl ?_; simp)
        | (refine AWP_skip ?_; simp)
        | (refine AWP_exit ?_; simp)
        | (refine AWP_ret ?_; simp)
        | refine AWP_block ?_
        | refine AWP_seq ?_)
      refine AStep_PC rfl rfl (by simp) (pc_Union a U) rfl ?_
      rintro _ rfl
      simp [c1]
      repeat (first
        | (refine AWP_seq (AWP_regS tOk rfl ?_); simp [hw0])
        | (refine AWP_regS tOk rfl ?_; simp [hw0])
        | (refine AWP_skip ?_; simp [hw0])
        | (refine AWP_exit ?_; simp [hw0])
        | (refine AWP_ret ?_; simp [hw0])
        | refine AWP_block ?_
        | refine AWP_seq ?_)
      refine AStep_PC rfl rfl (by simp) (pc_Same a U) rfl ?_
      rintro _ rfl
      simp
      repeat (first
        | (refine AWP_seq (AWP_regS tOk rfl ?_); simp [hw0])
        | (refine AWP_regS tOk rfl ?_; simp [hw0])
        | (refine AWP_skip ?_; simp [hw0])
        | (refine AWP_exit ?_; simp [hw0])
        | (refine AWP_ret ?_; simp [hw0])
        | refine AWP_block ?_
        | refine AWP_seq ?_)
      refine AStep_PC rfl rfl (by simp) (pc_Same U U) rfl ?_
      rintro _ rfl
      simp
      repeat (first
        | (refine AWP_seq (AWP_regS tOk rfl ?_); simp)
        | (refine AWP_regS tOk rfl ?_; simp)
        | (refine AWP_skip ?_; simp)
        | (refine AWP_exit ?_; simp)
        | (refine AWP_ret ?_; simp)
        | refine AWP_block ?_
        | refine AWP_seq ?_)
      refine AWP_cond rfl ?_
      repeat (first
        | (refine AWP_seq (AWP_regS tOk rfl ?_); simp)
        | (refine AWP_regS tOk rfl ?_; simp)
        | (refine AWP_skip ?_; simp)
        | (refine AWP_exit ?_; simp)
        | (refine AWP_ret ?_; simp)
        | refine AWP_block ?_
        | refine AWP_seq ?_)
      refine AStep_appendS tOk rfl rfl T22 rfl T43 rfl (by decide) (by decide) rfl rfl rfl ?_
      simp
      refine ⟨by simp [appOk] <;> omega, ?_⟩
      refine AStep_appendS tOk rfl rfl T22 rfl T43 rfl (by decide) (by decide) rfl rfl rfl ?_
      simp
      refine ⟨by simp [appOk] <;> omega, ?_⟩
      refine AStep_freeze 3 rfl ?_
      simp
      rw [List.take_of_length_le (by simp), ← List.map_append]
      refine AStep_PC rfl rfl (by simp) (pc_Make' (U ++ a)) rfl ?_
      rintro _ rfl
      simp [hm]
      repeat (first
        | (refine AWP_seq (AWP_regS tOk rfl ?_); simp)
        | (refine AWP_regS tOk rfl ?_; simp)
        | (refine AWP_skip ?_; simp)
        | (refine AWP_exit ?_; simp)
        | (refine AWP_ret ?_; simp)
        | refine AWP_block ?_
        | refine AWP_seq ?_)
      refine AStep_PC rfl rfl (by simp) (pc_Union U a) rfl ?_
      rintro _ rfl
      simp [c2]
      repeat (first
        | (refine AWP_seq (AWP_regS tOk rfl ?_); simp)
        | (refine AWP_regS tOk rfl ?_; simp)
        | (refine AWP_skip ?_; simp)
        | (refine AWP_exit ?_; simp)
        | (refine AWP_ret ?_; simp)
        | refine AWP_block ?_
        | refine AWP_seq ?_)
      refine AStep_PC rfl rfl (by simp) (pc_Same U U) rfl ?_
      rintro _ rfl
      simp
      repeat (first
        | (refine AWP_seq (AWP_regS tOk rfl ?_); simp)
        | (refine AWP_regS tOk rfl ?_; simp)
        | (refine AWP_skip ?_; simp)
        | (refine AWP_exit ?_; simp)
        | (refine AWP_ret ?_; simp)
        | refine AWP_block ?_
        | refine AWP_seq ?_)
      refine AStep_PC rfl rfl (by simp) (pc_Same U U) rfl ?_
      rintro _ rfl
      simp
      repeat (first
        | (refine AWP_seq (AWP_regS tOk rfl ?_); simp)
        | (refine AWP_regS tOk rfl ?_; simp)
        | (refine AWP_skip ?_; simp)
        | (refine AWP_exit ?_; simp)
        | (refine AWP_ret ?_; simp)
        | refine AWP_block ?_
        | refine AWP_seq ?_)
      refine AStep_PC rfl rfl (by simp) (pc_Check U) rfl ?_
      rintro _ rfl
      simp [hck]
      repeat (first
        | (refine AWP_seq (AWP_regS tOk rfl ?_); simp)
        | (refine AWP_regS tOk rfl ?_; simp)
        | (refine AWP_skip ?_; simp)
        | (refine AWP_exit ?_; simp)
        | (refine AWP_ret ?_; simp)
        | refine AWP_block ?_
        | refine AWP_seq ?_)
      refine AStep_PC rfl rfl (by simp) (pc_awake) rfl ?_
      rintro _ rfl
      simp
      repeat (first
        | (refine AWP_seq (AWP_regS tOk rfl ?_); simp)
        | (refine AWP_regS tOk rfl ?_; simp)
        | (refine AWP_skip ?_; simp)
        | (refine AWP_exit ?_; simp)
        | (refine AWP_ret ?_; simp)
        | refine AWP_block ?_
        | refine AWP_seq ?_)
    · have hW1 : ((W.length : Int) == 0) = false := beq_eq_false_iff_ne.2 (by have := List.length_pos_iff.2 hW; omega)
      rw [decide_eq_false hW, Bool.false_and] at hib
      rw [decide_eq_false hW] at c0
      repeat (first
        | (refine AWP_seq (AWP_regS tOk rfl ?_); simp)
        | (refine AWP_regS tOk rfl ?_; simp)
        | (refine AWP_skip ?_; simp)
        | (refine AWP_exit ?_; simp)
        | (refine AWP_ret ?_; simp)
        | refine AWP_block ?_
        | refine AWP_seq ?_)
      refine AWP_cond rfl ?_
      repeat (first
        | (refine AWP_seq (AWP_regS tOk rfl ?_); simp)
        | (refine AWP_regS tOk rfl ?_; simp)
        | (refine AWP_skip ?_; simp)
        | (refine AWP_exit ?_; simp)
        | (refine AWP_ret ?_; simp)
        | refine AWP_block ?_
        | refine AWP_seq ?_)
      refine AStep_PC rfl rfl (by simp) (pc_Inside a b) rfl ?_
      rintro _ rfl
      simp [c0]
      repeat (first
        | (refine AWP_seq (AWP_regS tOk rfl ?_); simp)
        | (refine AWP_regS tOk rfl ?_; simp)
        | (refine AWP_skip ?_; simp)
        | (refine AWP_exit ?_; simp)
        | (refine AWP_ret ?_; simp)
        | refine AWP_block ?_
        | refine AWP_seq ?_)
      refine AStep_PC rfl rfl (by simp) (pc_Inside b a) rfl ?_
      rintro _ rfl
      simp [c0']
      repeat (first
        | (refine AWP_seq (AWP_regS tOk rfl ?_); simp)
        | (refine AWP_regS tOk rfl ?_; simp)
        | (refine AWP_skip ?_; simp)
        | (refine AWP_exit ?_; simp)
        | (refine AWP_ret ?_; simp)
        | refine AWP_block ?_
        | refine AWP_seq ?_)
      refine AStep_PC rfl rfl (by simp) (pc_Minus a b) rfl ?_
      rintro _ rfl
      simp [c3]
      repeat (first
        | (refine AWP_seq (AWP_regS tOk rfl ?_); simp)
        | (refine AWP_regS tOk rfl ?_; simp)
        | (refine AWP_skip ?_; simp)
        | (refine AWP_exit ?_; simp)
        | (refine AWP_ret ?_; simp)
        | refine AWP_block ?_
        | refine AWP_seq ?_)
      refine AStep_PC rfl rfl (by simp) (pc_Union a b) rfl ?_
      rintro _ rfl
      simp [c1]
      repeat (first
        | (refine AWP_seq (AWP_regS tOk rfl ?_); simp [hw0, hW1])
        | (refine AWP_regS tOk rfl ?_; simp [hw0, hW1])
        | (refine AWP_skip ?_; simp [hw0, hW1])
        | (refine AWP_exit ?_; simp [hw0, hW1])
        | (refine AWP_ret ?_; simp [hw0, hW1])
        | refine AWP_block ?_
        | refine AWP_seq ?_)
      refine AStep_PC rfl rfl (by simp) (pc_Same a b) rfl ?_
      rintro _ rfl
      simp [← hib]
      repeat (first
        | (refine AWP_seq (AWP_regS tOk rfl ?_); simp)
        | (refine AWP_regS tOk rfl ?_; simp)
        | (refine AWP_skip ?_; simp)
        | (refine AWP_exit ?_; simp)
        | (refine AWP_ret ?_; simp)
        | refine AWP_block ?_
        | refine AWP_seq ?_)
      refine AStep_skip rfl rfl ?_
      simp
      repeat (first
        | (refine AWP_seq (AWP_regS tOk rfl ?_); simp)
        | (refine AWP_regS tOk rfl ?_; simp)
        | (refine AWP_skip ?_; simp)
        | (refine AWP_exit ?_; simp)
        | (refine AWP_ret ?_; simp)
        | refine AWP_block ?_
        | refine AWP_seq ?_)
      refine AWP_cond rfl ?_
      repeat (first
        | (refine AWP_seq (AWP_regS tOk rfl ?_); simp)
        | (refine AWP_regS tOk rfl ?_; simp)
        | (refine AWP_skip ?_; simp)
        | (refine AWP_exit ?_; simp)
        | (refine AWP_ret ?_; simp)
        | refine AWP_block ?_
        | refine AWP_seq ?_)
      refine AStep_appendS tOk rfl rfl T22 rfl T43 rfl (by decide) (by decide) rfl rfl rfl ?_
      simp
      refine ⟨by simp [appOk] <;> omega, ?_⟩
      refine AStep_appendS tOk rfl rfl T22 rfl T43 rfl (by decide) (by decide) rfl rfl rfl ?_
      simp
      refine ⟨by simp [appOk] <;> omega, ?_⟩
      refine AStep_freeze 3 rfl ?_
      simp
      rw [List.take_of_length_le (by simp), ← List.map_append]
      refine AStep_PC rfl rfl (by simp) (pc_Make' (b ++ a)) rfl ?_
      rintro _ rfl
      simp [hm]
      repeat (first
        | (refine AWP_seq (AWP_regS tOk rfl ?_); simp)
        | (refine AWP_regS tOk rfl ?_; simp)
        | (refine AWP_skip ?_; simp)
        | (refine AWP_exit ?_; simp)
        | (refine AWP_ret ?_; simp)
        | refine AWP_block ?_
        | refine AWP_seq ?_)
      refine AStep_PC rfl rfl (by simp) (pc_Union b a) rfl ?_
      rintro _ rfl
      simp [c2]
      repeat (first
        | (refine AWP_seq (AWP_regS tOk rfl ?_); simp)
        | (refine AWP_regS tOk rfl ?_; simp)
        | (refine AWP_skip ?_; simp)
        | (refine AWP_exit ?_; simp)
        | (refine AWP_ret ?_; simp)
        | refine AWP_block ?_
        | refine AWP_seq ?_)
      refine AStep_PC rfl rfl (by simp) (pc_Same U U) rfl ?_
      rintro _ rfl
      simp
      repeat (first
        | (refine AWP_seq (AWP_regS tOk rfl ?_); simp)
        | (refine AWP_regS tOk rfl ?_; simp)
        | (refine AWP_skip ?_; simp)
        | (refine AWP_exit ?_; simp)
        | (refine AWP_ret ?_; simp)
        | refine AWP_block ?_
        | refine AWP_seq ?_)
      refine AStep_PC rfl rfl (by simp) (pc_Same U U) rfl ?_
      rintro _ rfl
      simp
      repeat (first
        | (refine AWP_seq (AWP_regS tOk rfl ?_); simp)
        | (refine AWP_regS tOk rfl ?_; simp)
        | (refine AWP_skip ?_; simp)
        | (refine AWP_exit ?_; simp)
        | (refine AWP_ret ?_; simp)
        | refine AWP_block ?_
        | refine AWP_seq ?_)
      refine AStep_PC rfl rfl (by simp) (pc_Check U) rfl ?_
      rintro _ rfl
      simp [hck]
      repeat (first
        | (refine AWP_seq (AWP_regS tOk rfl ?_); simp)
        | (refine AWP_regS tOk rfl ?_; simp)
        | (refine AWP_skip ?_; simp)
        | (refine AWP_exit ?_; simp)
        | (refine AWP_ret ?_; simp)
        | refine AWP_block ?_
        | refine AWP_seq ?_)
      refine AStep_PC rfl rfl (by simp) (pc_awake) rfl ?_
      rintro _ rfl
      simp
      repeat (first
        | (refine AWP_seq (AWP_regS tOk rfl ?_); simp)
        | (refine AWP_regS tOk rfl ?_; simp)
        | (refine AWP_skip ?_; simp)
        | (refine AWP_exit ?_; simp)
        | (refine AWP_ret ?_; simp)
        | refine AWP_block ?_
        | refine AWP_seq ?_)
end Go.Abs
/- A set is inside of another one exactly if their difference is empty, sets that are inside of each other are equal, and what is made of the intervals of both is their union: IntervalEquals returns true for every input. Conditions: those of the given row (the laid tables), tied by the given card. -/
set_option maxRecDepth 100000
namespace Go.Abs
open Go Go.Proofs Go.Proofs.YtcjmlnjoaekbjaaDoor Go.RowKit
noncomputable def args_IntervalEquals : Array Value := #[.slice none 0 0, .slice none 0 0]
theorem laid_IntervalEquals (os : Os) : laidMetH Tryd.prog Rows.intervalEqualsRow.laid ((World.laidAll Tryd.prog os Rows.intervalEqualsRow.laid).forCall (fun _ _ => 0) ⟨#[], args_IntervalEquals, []⟩).memory :=
  laidMet_laidAll _ (by kernel_rfl) (by kernel_rfl)
theorem reads_IntervalEquals (os : Os) {H : Type} (enc : TypeId × Value → H) : ∃ ds places, DataW.whole enc Tryd.prog ((World.laidAll Tryd.prog os Rows.intervalEqualsRow.laid).forCall (fun _ _ => 0) ⟨#[], args_IntervalEquals, []⟩).memory Tryd.f4.params.toList Rows.intervalEqualsSpec.vars false args_IntervalEquals.toList 8 = some (ds, [], places) :=
  ⟨[.nil, .nil], [], by kernel_rfl⟩
theorem lawPC_IntervalEquals (xs : List AV) (h : ArgsShp T 8 Tryd.f4.params.toList xs) : PC Tryd.prog 4 xs (fun r => r = .bool true) := by
  rw [Tryd.params4] at h
  obtain ⟨a, _, rfl, h_1⟩ := argLIv h
  obtain ⟨b, _, rfl, h_2⟩ := argLIv h_1
  obtain rfl := argsNil h_2
  exact law_Equals a b
theorem lifted_IntervalEquals (os : Os) (started : os.Started) (H : Type) (enc : TypeId × Value → H) (F : Stop.Interp) :
    ReturnsInHanded {} Tryd.checked os 4 .any ((OpenSpec.ofChange Rows.intervalEqualsSpec).preRow enc Tryd.prog Tryd.f4 Rows.intervalEqualsRow.domain false Rows.intervalEqualsRow.laid) (((OpenSpec.ofChange Rows.intervalEqualsSpec).at F).post enc Tryd.prog Tryd.f4 false true false false) := by
  obtain ⟨ds, places, hx⟩ := reads_IntervalEquals os enc
  refine returnsInHanded_of_row (C := Tryd.checked) (s := OpenSpec.ofChange Rows.intervalEqualsSpec) own started (by kernel_rfl) Tryd.func4
    (witness_row_atRef (enc := enc) (C := Tryd.checked) false (World.laidAll Tryd.prog os Rows.intervalEqualsRow.laid) args_IntervalEquals (World.laidAll_os _ _ _) (by kernel_rfl) (by kernel_rfl) (by kernel_rfl)
      (OpenSpec.preRow_of_cond 8 hx (by kernel_rfl) (fun k hk => by cases hk) (by kernel_rfl) (laid_IntervalEquals os))) ?_
  intro W base args ds gs before hval hW _ _ hwt hL _ _
  exact row_of_PC tOk laidOut (d := 8) (tb := 4) (by kernel_rfl) (by kernel_rfl) (by kernel_rfl) (by kernel_rfl) (eok_of hL (by kernel_rfl)) lawPC_IntervalEquals rfl (fun ds h => by
    match ds, h with
    | [_, _], _ => rfl) hval hW rfl hwt
theorem said_IntervalEquals : Rows.IntervalEqualsSaid :=
  OpenClaim.holds_of_cond 4 Tryd.f4 rfl rfl rfl rfl rfl rfl rfl ⟨rfl, rfl, rfl, rfl, rfl⟩ rfl rfl rfl rfl rfl (by kernel_rfl) Tryd.func4 (by kernel_rfl)
    (of_decide_eq_true (by kernel_rfl)) (by unfold Func.isWrapper; first | (rw [if_pos (by decide +kernel)]; kernel_rfl) | (rw [if_neg (by decide +kernel)]; exact ⟨rfl, rfl⟩))
    (fun os started H enc _ F => by rw [OpenClaim.pre_eq_preRow]; exact lifted_IntervalEquals os started H enc F)
theorem plain_IntervalEquals (f : FuncId) (fn : Func) (hf : Tryd.pinned.checked.prog.funcNamed "tidegate/tidegatelaw02.IntervalEquals" = some f) (hfn : Tryd.pinned.checked.prog.funcs[f]? = some fn) :
    false = Tryd.pinned.checked.prog.looks [] ∧ ∀ (j : Nat) t, fn.params[j]? = some t → Tryd.pinned.checked.prog.wantsStandIn t = false := by
  obtain rfl : f = 4 := Option.some.inj ((show Tryd.prog.funcNamed "tidegate/tidegatelaw02.IntervalEquals" = some 4 by kernel_rfl).symm.trans hf) |>.symm
  obtain rfl : fn = Tryd.f4 := (Option.some.inj (Tryd.func4.symm.trans hfn)).symm
  refine ⟨by kernel_rfl, fun j t ht => ?_⟩
  have hall : (Tryd.f4.params.toList.all fun t => Tryd.prog.wantsStandIn t == false) = true := by kernel_rfl
  have hm : t ∈ Tryd.f4.params.toList := by simpa using Array.mem_of_getElem? ht
  exact beq_iff_eq.1 (List.all_eq_true.1 hall t hm)
end Go.Abs
namespace Go.Proofs.YtcjmlnjoaekbjaaDoor
open Go Go.Abs
theorem intervalEquals_card : Rows.IntervalEqualsCardSaid :=
  Claim7.holds_tied_plain_at .later [] _ _ _ _ said_IntervalEquals (fun _ h => by cases h) (by kernel_rfl) (fun _ h => by cases h) intervalEquals_row_tie rfl ⟨rfl, rfl⟩ (by kernel_rfl) rfl plain_IntervalEquals (by kernel_rfl)
end Go.Proofs.YtcjmlnjoaekbjaaDoor
