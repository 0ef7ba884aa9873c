/- Deterministic and Next return the specified results, or the specified errors, for all automata, sets and symbols: DeterminizeSteps returns true for every input. Conditions: those of the given row (the laid tables), tied by the given card. -/
import Derived.Test.YtdjmpaedikpdgaaGreatDoorKg
set_option linter.all false
set_option maxRecDepth 100000
namespace Go.Abs
open Go Go.Proofs Go.Proofs.YtdjmpaedikpdgaaGreatDoor Go.RowKit
noncomputable def args_DeterminizeSteps : Array Value := #[.agg #[.int .i64 0, .slice none 0 0, .slice none 0 0], .slice none 0 0, .agg #[.int .i64 0, .int .i64 0]]
theorem laid_DeterminizeSteps (os : Os) : laidMetH Tryz.prog Rows.determinizeStepsRow.laid ((World.laidAll Tryz.prog os Rows.determinizeStepsRow.laid).forCall (fun _ _ => 0) ⟨#[], args_DeterminizeSteps, []⟩).memory :=
  laidMet_laidAll _ (by kernel_rfl) (by kernel_rfl)
theorem reads_DeterminizeSteps (os : Os) {H : Type} (enc : TypeId × Value → H) : ∃ ds places, DataW.whole enc Tryz.prog ((World.laidAll Tryz.prog os Rows.determinizeStepsRow.laid).forCall (fun _ _ => 0) ⟨#[], args_DeterminizeSteps, []⟩).memory Tryz.f8.params.toList Rows.determinizeStepsSpec.vars false args_DeterminizeSteps.toList 16 = some (ds, [], places) :=
  ⟨[.agg [.lit (.int .i64 0), .nil, .nil], .nil, .agg [.lit (.int .i64 0), .lit (.int .i64 0)]], [], by kernel_rfl⟩
theorem lawPC_DeterminizeSteps (xs : List AV) (h : ArgsShp T 16 Tryz.f8.params.toList xs) : PC Tryz.prog 8 xs (fun r => r = .bool true) := by
  rw [Tryz.params8] at h
  obtain ⟨a, _, rfl, h_1⟩ := argAut h
  obtain ⟨l, _, rfl, h_2⟩ := argInts h_1
  obtain ⟨x, _, rfl, h_3⟩ := argSy h_2
  obtain rfl := argsNil h_3
  exact law_Steps a l x
theorem lifted_DeterminizeSteps (os : Os) (started : os.Started) (H : Type) (enc : TypeId × Value → H) (F : Stop.Interp) :
    ReturnsInHanded {} Tryz.checked os 8 .any ((OpenSpec.ofChange Rows.determinizeStepsSpec).preRow enc Tryz.prog Tryz.f8 Rows.determinizeStepsRow.domain false Rows.determinizeStepsRow.laid) (((OpenSpec.ofChange Rows.determinizeStepsSpec).at F).post enc Tryz.prog Tryz.f8 false true false false) := by
  obtain ⟨ds, places, hx⟩ := reads_DeterminizeSteps os enc
  refine returnsInHanded_of_row (C := Tryz.checked) (s := OpenSpec.ofChange Rows.determinizeStepsSpec) own started (by kernel_rfl) Tryz.func8
    (witness_row_atRef (enc := enc) (C := Tryz.checked) false (World.laidAll Tryz.prog os Rows.determinizeStepsRow.laid) args_DeterminizeSteps (World.laidAll_os _ _ _) (by kernel_rfl) (by kernel_rfl) (by kernel_rfl)
      (OpenSpec.preRow_of_cond 16 hx (by kernel_rfl) (fun k hk => by cases hk) (by kernel_rfl) (laid_DeterminizeSteps os))) ?_
  intro W base args ds gs before hval hW _ _ hwt hL hS _
  exact row_of_PC tOk laidOut (d := 16) (tb := 4) (by kernel_rfl) (by kernel_rfl) (by kernel_rfl) (by kernel_rfl) (eok_of hL (by kernel_rfl)) lawPC_DeterminizeSteps rfl (fun ds h => by
    match ds, h with
    | [_, _, _], _ => rfl) hval hW rfl hwt
theorem jfA_DeterminizeSteps : (Rows.determinizeStepsRow.inPlace == Tryz.pinned.checked.prog.inPlace 8) = true := by kernel_rfl
theorem jfB_DeterminizeSteps : (Rows.determinizeStepsRow.unfollowed == Tryz.pinned.checked.prog.unfollowed 8) = true := by kernel_rfl
theorem jfC_DeterminizeSteps : (Rows.determinizeStepsRow.recurses == Tryz.pinned.checked.prog.recurses 8) = true := by kernel_rfl
theorem jfD_DeterminizeSteps : (Rows.determinizeStepsRow.named == Tryz.pinned.checked.prog.varsNamed 8) = true := by kernel_rfl
theorem jf_DeterminizeSteps : joinedFacts Tryz.pinned.checked.prog 8 Tryz.f8 (OpenSpec.ofChange Rows.determinizeStepsSpec).bare Rows.determinizeStepsRow = true := by
  unfold joinedFacts
  rw [jfA_DeterminizeSteps, jfB_DeterminizeSteps, jfC_DeterminizeSteps, jfD_DeterminizeSteps]
  kernel_rfl
theorem said_DeterminizeSteps : Rows.DeterminizeStepsSaid :=
  OpenClaim.holds_of_cond 8 Tryz.f8 rfl rfl rfl rfl rfl rfl rfl ⟨rfl, rfl, rfl, rfl, rfl⟩ rfl rfl rfl rfl rfl (by kernel_rfl) Tryz.func8 jf_DeterminizeSteps
    (of_decide_eq_true (by kernel_rfl)) (by unfold Func.isWrapper; first | (rw [if_pos (by decide +kernel)]; kernel_rfl) | (rw [if_neg (by decide +kernel)]; exact ⟨rfl, rfl⟩))
    (fun os started H enc _ F => by rw [OpenClaim.pre_eq_preRow]; exact lifted_DeterminizeSteps os started H enc F)
theorem plain_DeterminizeSteps (f : FuncId) (fn : Func) (hf : Tryz.pinned.checked.prog.funcNamed "tidegate/tidegatelaw29.DeterminizeSteps" = some f) (hfn : Tryz.pinned.checked.prog.funcs[f]? = some fn) :
    false = Tryz.pinned.checked.prog.looks [] ∧ ∀ (j : Nat) t, fn.params[j]? = some t → Tryz.pinned.checked.prog.wantsStandIn t = false := by
  obtain rfl : f = 8 := Option.some.inj ((show Tryz.prog.funcNamed "tidegate/tidegatelaw29.DeterminizeSteps" = some 8 by kernel_rfl).symm.trans hf) |>.symm
  obtain rfl : fn = Tryz.f8 := (Option.some.inj (Tryz.func8.symm.trans hfn)).symm
  refine ⟨by kernel_rfl, fun j t ht => ?_⟩
  have hall : (Tryz.f8.params.toList.all fun t => Tryz.prog.wantsStandIn t == false) = true := by kernel_rfl
  have hm : t ∈ Tryz.f8.params.toList := by simpa using Array.mem_of_getElem? ht
  exact beq_iff_eq.1 (List.all_eq_true.1 hall t hm)
end Go.Abs
namespace Go.Proofs.YtdjmpaedikpdgaaGreatDoor
open Go Go.Abs
theorem determinizeSteps_card : Rows.DeterminizeStepsCardSaid :=
  Claim7.holds_tied_plain_at .later [] _ _ _ _ said_DeterminizeSteps (fun _ h => by cases h) (by kernel_rfl) (fun _ h => by cases h) determinizeSteps_row_tie rfl ⟨rfl, rfl⟩ (by kernel_rfl) rfl plain_DeterminizeSteps (by kernel_rfl)
end Go.Proofs.YtdjmpaedikpdgaaGreatDoor
