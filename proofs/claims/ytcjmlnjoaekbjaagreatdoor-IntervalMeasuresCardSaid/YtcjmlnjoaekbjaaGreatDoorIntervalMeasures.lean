/- Part IntervalMeasures of the proof: an abstract machine over the model, and what the functions of the program hand back in its terms. No condition. -/
import Derived.Test.YtcjmlnjoaekbjaaGreatDoorKf
import Derived.Test.YtcjmlnjoaekbjaaGreatDoorKd
set_option linter.all false
set_option maxRecDepth 100000
namespace Go.Abs
open Go Go.Proofs
set_option linter.unusedSimpArgs false
attribute [local irreducible] conR atR shiftR sizeS ckR fitR
set_option maxHeartbeats 2000000 in
theorem law_Measures (l : List Iv) (n : Int) (hn : n ≤ 9223372036854775807) : PC Tryz.prog 4 [LIv l, .i n] (fun r => r = .bool true) := by
  refine PC_body tOk Tryz.func4 rfl Tryz.results4 rfl (by simp [Tryz.ntmps4]) ?_
  rw [Tryz.ntmps4]
  simp only [argSlots]
  repeat (first
    | (refine AWP_seq (AWP_regS tOk rfl ?_); simp)
    | (refine AWP_regS tOk rfl ?_; simp)
    | (refine AWP_skip ?_; simp)
    | (refine AWP_exit ?_; simp)
    | (refine AWP_ret ?_; simp)
    | refine AWP_block ?_
    | refine AWP_seq ?_)
  refine AStep_freeze 0 rfl ?_
  simp
  refine AStep_PC rfl rfl (by simp) (pc_fit [l]) rfl ?_
  rintro _ rfl
  simp
  cases hf : fitR [l] with
  | false =>
    repeat (first
      | (refine AWP_seq (AWP_regS tOk rfl ?_); simp)
      | (refine AWP_regS tOk rfl ?_; simp)
      | (refine AWP_skip ?_; simp)
      | (refine AWP_exit ?_; simp)
      | (refine AWP_ret ?_; simp)
      | refine AWP_block ?_
      | refine AWP_seq ?_)
    refine AWP_cond rfl ?_
    repeat (first
      | (refine AWP_seq (AWP_regS tOk rfl ?_); simp)
      | (refine AWP_regS tOk rfl ?_; simp)
      | (refine AWP_skip ?_; simp)
      | (refine AWP_exit ?_; simp)
      | (refine AWP_ret ?_; simp)
      | refine AWP_block ?_
      | refine AWP_seq ?_)
    refine AStep_PC rfl rfl (by simp) (pc_awake) rfl ?_
    rintro _ rfl
    simp
    repeat (first
      | (refine AWP_seq (AWP_regS tOk rfl ?_); simp)
      | (refine AWP_regS tOk rfl ?_; simp)
      | (refine AWP_skip ?_; simp)
      | (refine AWP_exit ?_; simp)
      | (refine AWP_ret ?_; simp)
      | refine AWP_block ?_
      | refine AWP_seq ?_)
  | true =>
    have hb : ((conR l n).1 == (conR l n).1) = true := by simp
    repeat (first
      | (refine AWP_seq (AWP_regS tOk rfl ?_); simp)
      | (refine AWP_regS tOk rfl ?_; simp)
      | (refine AWP_skip ?_; simp)
      | (refine AWP_exit ?_; simp)
      | (refine AWP_ret ?_; simp)
      | refine AWP_block ?_
      | refine AWP_seq ?_)
    refine AWP_cond rfl ?_
    repeat (first
      | (refine AWP_seq (AWP_regS tOk rfl ?_); simp)
      | (refine AWP_regS tOk rfl ?_; simp)
      | (refine AWP_skip ?_; simp)
      | (refine AWP_exit ?_; simp)
      | (refine AWP_ret ?_; simp)
      | refine AWP_block ?_
      | refine AWP_seq ?_)
    refine AStep_PC rfl rfl (by simp) (pc_Contains l n) rfl ?_
    rintro _ rfl
    simp
    repeat (first
      | (refine AWP_seq (AWP_regS tOk rfl ?_); simp)
      | (refine AWP_regS tOk rfl ?_; simp)
      | (refine AWP_skip ?_; simp)
      | (refine AWP_exit ?_; simp)
      | (refine AWP_ret ?_; simp)
      | refine AWP_block ?_
      | refine AWP_seq ?_)
    refine AStep_PC rfl rfl (by simp) (pc_rContains l n) rfl ?_
    rintro _ rfl
    simp
    repeat (first
      | (refine AWP_seq (AWP_regS tOk rfl ?_); simp)
      | (refine AWP_regS tOk rfl ?_; simp)
      | (refine AWP_skip ?_; simp)
      | (refine AWP_exit ?_; simp)
      | (refine AWP_ret ?_; simp)
      | refine AWP_block ?_
      | refine AWP_seq ?_)
    refine AStep_PC rfl rfl (by simp) (pc_Size l) rfl ?_
    rintro _ rfl
    simp
    repeat (first
      | (refine AWP_seq (AWP_regS tOk rfl ?_); simp)
      | (refine AWP_regS tOk rfl ?_; simp)
      | (refine AWP_skip ?_; simp)
      | (refine AWP_exit ?_; simp)
      | (refine AWP_ret ?_; simp)
      | refine AWP_block ?_
      | refine AWP_seq ?_)
    refine AStep_PC rfl rfl (by simp) (pc_rSize l) rfl ?_
    rintro _ rfl
    simp
    repeat (first
      | (refine AWP_seq (AWP_regS tOk rfl ?_); simp)
      | (refine AWP_regS tOk rfl ?_; simp)
      | (refine AWP_skip ?_; simp)
      | (refine AWP_exit ?_; simp)
      | (refine AWP_ret ?_; simp)
      | refine AWP_block ?_
      | refine AWP_seq ?_)
    refine AStep_PC rfl rfl (by simp) (pc_At l n hn) rfl ?_
    rintro _ rfl
    simp
    repeat (first
      | (refine AWP_seq (AWP_regS tOk rfl ?_); simp)
      | (refine AWP_regS tOk rfl ?_; simp)
      | (refine AWP_skip ?_; simp)
      | (refine AWP_exit ?_; simp)
      | (refine AWP_ret ?_; simp)
      | refine AWP_block ?_
      | refine AWP_seq ?_)
    refine AStep_PC rfl rfl (by simp) (pc_rAt l n hn) rfl ?_
    rintro _ rfl
    simp
    repeat (first
      | (refine AWP_seq (AWP_regS tOk rfl ?_); simp)
      | (refine AWP_regS tOk rfl ?_; simp)
      | (refine AWP_skip ?_; simp)
      | (refine AWP_exit ?_; simp)
      | (refine AWP_ret ?_; simp)
      | refine AWP_block ?_
      | refine AWP_seq ?_)
    refine AStep_PC rfl rfl (by simp) (pc_Shift l n) rfl ?_
    rintro _ rfl
    simp
    repeat (first
      | (refine AWP_seq (AWP_regS tOk rfl ?_); simp)
      | (refine AWP_regS tOk rfl ?_; simp)
      | (refine AWP_skip ?_; simp)
      | (refine AWP_exit ?_; simp)
      | (refine AWP_ret ?_; simp)
      | refine AWP_block ?_
      | refine AWP_seq ?_)
    refine AStep_PC rfl rfl (by simp) (pc_rShift l n) rfl ?_
    rintro _ rfl
    simp
    repeat (first
      | (refine AWP_seq (AWP_regS tOk rfl ?_); simp [hb])
      | (refine AWP_regS tOk rfl ?_; simp [hb])
      | (refine AWP_skip ?_; simp [hb])
      | (refine AWP_exit ?_; simp [hb])
      | (refine AWP_ret ?_; simp [hb])
      | refine AWP_block ?_
      | refine AWP_seq ?_)
    refine AStep_PC rfl rfl (by simp) (pc_Same (shiftR l n).1 (shiftR l n).1) rfl ?_
    rintro _ rfl
    simp
    repeat (first
      | (refine AWP_seq (AWP_regS tOk rfl ?_); simp)
      | (refine AWP_regS tOk rfl ?_; simp)
      | (refine AWP_skip ?_; simp)
      | (refine AWP_exit ?_; simp)
      | (refine AWP_ret ?_; simp)
      | refine AWP_block ?_
      | refine AWP_seq ?_)
    refine AStep_PC rfl rfl (by simp) (pc_awake) rfl ?_
    rintro _ rfl
    simp
    repeat (first
      | (refine AWP_seq (AWP_regS tOk rfl ?_); simp)
      | (refine AWP_regS tOk rfl ?_; simp)
      | (refine AWP_skip ?_; simp)
      | (refine AWP_exit ?_; simp)
      | (refine AWP_ret ?_; simp)
      | refine AWP_block ?_
      | refine AWP_seq ?_)
end Go.Abs
/- Contains, Size, At and Shift of the program answer as the reference does: IntervalMeasures returns true for every input. Conditions: those of the given row (the laid tables), tied by the given card. -/
set_option maxRecDepth 100000
namespace Go.Abs
open Go Go.Proofs Go.Proofs.YtcjmlnjoaekbjaaGreatDoor Go.RowKit
noncomputable def args_IntervalMeasures : Array Value := #[.slice none 0 0, .int .i64 0]
theorem laid_IntervalMeasures (os : Os) : laidMetH Tryz.prog Rows.intervalMeasuresRow.laid ((World.laidAll Tryz.prog os Rows.intervalMeasuresRow.laid).forCall (fun _ _ => 0) ⟨#[], args_IntervalMeasures, []⟩).memory :=
  laidMet_laidAll _ (by kernel_rfl) (by kernel_rfl)
theorem reads_IntervalMeasures (os : Os) {H : Type} (enc : TypeId × Value → H) : ∃ ds places, DataW.whole enc Tryz.prog ((World.laidAll Tryz.prog os Rows.intervalMeasuresRow.laid).forCall (fun _ _ => 0) ⟨#[], args_IntervalMeasures, []⟩).memory Tryz.f4.params.toList Rows.intervalMeasuresSpec.vars false args_IntervalMeasures.toList 8 = some (ds, [], places) :=
  ⟨[.nil, .lit (.int .i64 0)], [], by kernel_rfl⟩
theorem lawPC_IntervalMeasures (xs : List AV) (h : ArgsShp T 8 Tryz.f4.params.toList xs) : PC Tryz.prog 4 xs (fun r => r = .bool true) := by
  rw [Tryz.params4] at h
  obtain ⟨l, _, rfl, h_1⟩ := argLIv h
  obtain ⟨n, _, rfl, hn, h_2⟩ := argInt h_1
  obtain rfl := argsNil h_2
  exact law_Measures l n hn.2
theorem lifted_IntervalMeasures (os : Os) (started : os.Started) (H : Type) (enc : TypeId × Value → H) (F : Stop.Interp) :
    ReturnsInHanded {} Tryz.checked os 4 .any ((OpenSpec.ofChange Rows.intervalMeasuresSpec).preRow enc Tryz.prog Tryz.f4 Rows.intervalMeasuresRow.domain false Rows.intervalMeasuresRow.laid) (((OpenSpec.ofChange Rows.intervalMeasuresSpec).at F).post enc Tryz.prog Tryz.f4 false true false false) := by
  obtain ⟨ds, places, hx⟩ := reads_IntervalMeasures os enc
  refine returnsInHanded_of_row (C := Tryz.checked) (s := OpenSpec.ofChange Rows.intervalMeasuresSpec) own started (by kernel_rfl) Tryz.func4
    (witness_row_atRef (enc := enc) (C := Tryz.checked) false (World.laidAll Tryz.prog os Rows.intervalMeasuresRow.laid) args_IntervalMeasures (World.laidAll_os _ _ _) (by kernel_rfl) (by kernel_rfl) (by kernel_rfl)
      (OpenSpec.preRow_of_cond 8 hx (by kernel_rfl) (fun k hk => by cases hk) (by kernel_rfl) (laid_IntervalMeasures os))) ?_
  intro W base args ds gs before hval hW _ _ hwt hL _ _
  exact row_of_PC tOk laidOut (d := 8) (tb := 4) (by kernel_rfl) (by kernel_rfl) (by kernel_rfl) (by kernel_rfl) (eok_of hL (by kernel_rfl)) lawPC_IntervalMeasures rfl (fun ds h => by
    match ds, h with
    | [_, _], _ => rfl) hval hW rfl hwt
theorem said_IntervalMeasures : Rows.IntervalMeasuresSaid :=
  OpenClaim.holds_of_cond 4 Tryz.f4 rfl rfl rfl rfl rfl rfl rfl ⟨rfl, rfl, rfl, rfl, rfl⟩ rfl rfl rfl rfl rfl (by kernel_rfl) Tryz.func4 (by kernel_rfl)
    (of_decide_eq_true (by kernel_rfl)) (by unfold Func.isWrapper; first | (rw [if_pos (by decide +kernel)]; kernel_rfl) | (rw [if_neg (by decide +kernel)]; exact ⟨rfl, rfl⟩))
    (fun os started H enc _ F => by rw [OpenClaim.pre_eq_preRow]; exact lifted_IntervalMeasures os started H enc F)
theorem plain_IntervalMeasures (f : FuncId) (fn : Func) (hf : Tryz.pinned.checked.prog.funcNamed "tidegate/tidegatelaw02.IntervalMeasures" = some f) (hfn : Tryz.pinned.checked.prog.funcs[f]? = some fn) :
    true = Tryz.pinned.checked.prog.looks [] ∧ ∀ (j : Nat) t, fn.params[j]? = some t → Tryz.pinned.checked.prog.wantsStandIn t = false := by
  obtain rfl : f = 4 := Option.some.inj ((show Tryz.prog.funcNamed "tidegate/tidegatelaw02.IntervalMeasures" = some 4 by kernel_rfl).symm.trans hf) |>.symm
  obtain rfl : fn = Tryz.f4 := (Option.some.inj (Tryz.func4.symm.trans hfn)).symm
  refine ⟨by kernel_rfl, fun j t ht => ?_⟩
  have hall : (Tryz.f4.params.toList.all fun t => Tryz.prog.wantsStandIn t == false) = true := by kernel_rfl
  have hm : t ∈ Tryz.f4.params.toList := by simpa using Array.mem_of_getElem? ht
  exact beq_iff_eq.1 (List.all_eq_true.1 hall t hm)
end Go.Abs
namespace Go.Proofs.YtcjmlnjoaekbjaaGreatDoor
open Go Go.Abs
theorem intervalMeasures_card : Rows.IntervalMeasuresCardSaid :=
  Claim7.holds_tied_plain_at .later [] _ _ _ _ said_IntervalMeasures (fun _ h => by cases h) (by kernel_rfl) (fun _ h => by cases h) intervalMeasures_row_tie rfl ⟨rfl, rfl⟩ (by kernel_rfl) rfl plain_IntervalMeasures (by kernel_rfl)
end Go.Proofs.YtcjmlnjoaekbjaaGreatDoor
