/- Complete returns the specified automaton, or the specified error, for all automata: DeterminizeCompletes returns true for every input. Conditions: those of the given row (the laid tables), tied by the given card. -/
import Derived.Test.YteghceocnldccaaGreatDoorKg
set_option linter.all false
set_option maxRecDepth 100000
namespace Go.Abs
open Go Go.Proofs Go.Proofs.YteghceocnldccaaGreatDoor Go.RowKit
noncomputable def args_DeterminizeCompletes : Array Value := #[.agg #[.int .i64 0, .slice none 0 0, .slice none 0 0]]
theorem laid_DeterminizeCompletes (os : Os) : laidMetH Tryz.prog Rows.determinizeCompletesRow.laid ((World.laidAll Tryz.prog os Rows.determinizeCompletesRow.laid).forCall (fun _ _ => 0) ⟨#[], args_DeterminizeCompletes, []⟩).memory :=
  laidMet_laidAll _ (by kernel_rfl) (by kernel_rfl)
theorem reads_DeterminizeCompletes (os : Os) {H : Type} (enc : TypeId × Value → H) : ∃ ds places, DataW.whole enc Tryz.prog ((World.laidAll Tryz.prog os Rows.determinizeCompletesRow.laid).forCall (fun _ _ => 0) ⟨#[], args_DeterminizeCompletes, []⟩).memory Tryz.f5.params.toList Rows.determinizeCompletesSpec.vars false args_DeterminizeCompletes.toList 16 = some (ds, [], places) :=
  ⟨[.agg [.lit (.int .i64 0), .nil, .nil]], [], by kernel_rfl⟩
theorem lawPC_DeterminizeCompletes (xs : List AV) (h : ArgsShp T 16 Tryz.f5.params.toList xs) : PC Tryz.prog 5 xs (fun r => r = .bool true) := by
  rw [Tryz.params5] at h
  obtain ⟨a, _, rfl, h_1⟩ := argAut h
  obtain rfl := argsNil h_1
  exact law_Completes a
theorem lifted_DeterminizeCompletes (os : Os) (started : os.Started) (H : Type) (enc : TypeId × Value → H) (F : Stop.Interp) :
    ReturnsInHanded {} Tryz.checked os 5 .any ((OpenSpec.ofChange Rows.determinizeCompletesSpec).preRow enc Tryz.prog Tryz.f5 Rows.determinizeCompletesRow.domain false Rows.determinizeCompletesRow.laid) (((OpenSpec.ofChange Rows.determinizeCompletesSpec).at F).post enc Tryz.prog Tryz.f5 false true false false) := by
  obtain ⟨ds, places, hx⟩ := reads_DeterminizeCompletes os enc
  refine returnsInHanded_of_row (C := Tryz.checked) (s := OpenSpec.ofChange Rows.determinizeCompletesSpec) own started (by kernel_rfl) Tryz.func5
    (witness_row_atRef (enc := enc) (C := Tryz.checked) false (World.laidAll Tryz.prog os Rows.determinizeCompletesRow.laid) args_DeterminizeCompletes (World.laidAll_os _ _ _) (by kernel_rfl) (by kernel_rfl) (by kernel_rfl)
      (OpenSpec.preRow_of_cond 16 hx (by kernel_rfl) (fun k hk => by cases hk) (by kernel_rfl) (laid_DeterminizeCompletes os))) ?_
  intro W base args ds gs before hval hW _ _ hwt hL hS _
  exact row_of_PC tOk laidOut (d := 16) (tb := 4) (by kernel_rfl) (by kernel_rfl) (by kernel_rfl) (by kernel_rfl) (eok_of hL (by kernel_rfl)) lawPC_DeterminizeCompletes rfl (fun ds h => by
    match ds, h with
    | [_], _ => rfl) hval hW rfl hwt
theorem jfA_DeterminizeCompletes : (Rows.determinizeCompletesRow.inPlace == Tryz.pinned.checked.prog.inPlace 5) = true := by kernel_rfl
theorem jfB_DeterminizeCompletes : (Rows.determinizeCompletesRow.unfollowed == Tryz.pinned.checked.prog.unfollowed 5) = true := by kernel_rfl
theorem jfC_DeterminizeCompletes : (Rows.determinizeCompletesRow.recurses == Tryz.pinned.checked.prog.recurses 5) = true := by kernel_rfl
theorem jfD_DeterminizeCompletes : (Rows.determinizeCompletesRow.named == Tryz.pinned.checked.prog.varsNamed 5) = true := by kernel_rfl
theorem jf_DeterminizeCompletes : joinedFacts Tryz.pinned.checked.prog 5 Tryz.f5 (OpenSpec.ofChange Rows.determinizeCompletesSpec).bare Rows.determinizeCompletesRow = true := by
  unfold joinedFacts
  rw [jfA_DeterminizeCompletes, jfB_DeterminizeCompletes, jfC_DeterminizeCompletes, jfD_DeterminizeCompletes]
  kernel_rfl
theorem said_DeterminizeCompletes : Rows.DeterminizeCompletesSaid :=
  OpenClaim.holds_of_cond 5 Tryz.f5 rfl rfl rfl rfl rfl rfl rfl ⟨rfl, rfl, rfl, rfl, rfl⟩ rfl rfl rfl rfl rfl (by kernel_rfl) Tryz.func5 jf_DeterminizeCompletes
    (of_decide_eq_true (by kernel_rfl)) (by unfold Func.isWrapper; first | (rw [if_pos (by decide +kernel)]; kernel_rfl) | (rw [if_neg (by decide +kernel)]; exact ⟨rfl, rfl⟩))
    (fun os started H enc _ F => by rw [OpenClaim.pre_eq_preRow]; exact lifted_DeterminizeCompletes os started H enc F)
theorem plain_DeterminizeCompletes (f : FuncId) (fn : Func) (hf : Tryz.pinned.checked.prog.funcNamed "tidegate/tidegatelaw29.DeterminizeCompletes" = some f) (hfn : Tryz.pinned.checked.prog.funcs[f]? = some fn) :
    false = Tryz.pinned.checked.prog.looks [] ∧ ∀ (j : Nat) t, fn.params[j]? = some t → Tryz.pinned.checked.prog.wantsStandIn t = false := by
  obtain rfl : f = 5 := Option.some.inj ((show Tryz.prog.funcNamed "tidegate/tidegatelaw29.DeterminizeCompletes" = some 5 by kernel_rfl).symm.trans hf) |>.symm
  obtain rfl : fn = Tryz.f5 := (Option.some.inj (Tryz.func5.symm.trans hfn)).symm
  refine ⟨by kernel_rfl, fun j t ht => ?_⟩
  have hall : (Tryz.f5.params.toList.all fun t => Tryz.prog.wantsStandIn t == false) = true := by kernel_rfl
  have hm : t ∈ Tryz.f5.params.toList := by simpa using Array.mem_of_getElem? ht
  exact beq_iff_eq.1 (List.all_eq_true.1 hall t hm)
end Go.Abs
namespace Go.Proofs.YteghceocnldccaaGreatDoor
open Go Go.Abs
theorem determinizeCompletes_card : Rows.DeterminizeCompletesCardSaid :=
  Claim7.holds_tied_plain_at .later [] _ _ _ _ said_DeterminizeCompletes (fun _ h => by cases h) (by kernel_rfl) (fun _ h => by cases h) determinizeCompletes_row_tie rfl ⟨rfl, rfl⟩ (by kernel_rfl) rfl plain_DeterminizeCompletes (by kernel_rfl)
end Go.Proofs.YteghceocnldccaaGreatDoor
