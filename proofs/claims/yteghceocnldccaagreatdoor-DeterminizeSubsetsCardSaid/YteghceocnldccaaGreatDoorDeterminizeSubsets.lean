/- Subsets returns the specified sets, or the specified error, for all automata: DeterminizeSubsets returns true for every input. Conditions: those of the given row (the laid tables), tied by the given card. -/
import Derived.Test.YteghceocnldccaaGreatDoorKg
set_option linter.all false
set_option maxRecDepth 100000
namespace Go.Abs
open Go Go.Proofs Go.Proofs.YteghceocnldccaaGreatDoor Go.RowKit
noncomputable def args_DeterminizeSubsets : Array Value := #[.agg #[.int .i64 0, .slice none 0 0, .slice none 0 0]]
theorem laid_DeterminizeSubsets (os : Os) : laidMetH Tryz.prog Rows.determinizeSubsetsRow.laid ((World.laidAll Tryz.prog os Rows.determinizeSubsetsRow.laid).forCall (fun _ _ => 0) ⟨#[], args_DeterminizeSubsets, []⟩).memory :=
  laidMet_laidAll _ (by kernel_rfl) (by kernel_rfl)
theorem reads_DeterminizeSubsets (os : Os) {H : Type} (enc : TypeId × Value → H) : ∃ ds places, DataW.whole enc Tryz.prog ((World.laidAll Tryz.prog os Rows.determinizeSubsetsRow.laid).forCall (fun _ _ => 0) ⟨#[], args_DeterminizeSubsets, []⟩).memory Tryz.f3.params.toList Rows.determinizeSubsetsSpec.vars false args_DeterminizeSubsets.toList 16 = some (ds, [], places) :=
  ⟨[.agg [.lit (.int .i64 0), .nil, .nil]], [], by kernel_rfl⟩
theorem lawPC_DeterminizeSubsets (xs : List AV) (h : ArgsShp T 16 Tryz.f3.params.toList xs) : PC Tryz.prog 3 xs (fun r => r = .bool true) := by
  rw [Tryz.params3] at h
  obtain ⟨a, _, rfl, h_1⟩ := argAut h
  obtain rfl := argsNil h_1
  exact law_Subsets a
theorem lifted_DeterminizeSubsets (os : Os) (started : os.Started) (H : Type) (enc : TypeId × Value → H) (F : Stop.Interp) :
    ReturnsInHanded {} Tryz.checked os 3 .any ((OpenSpec.ofChange Rows.determinizeSubsetsSpec).preRow enc Tryz.prog Tryz.f3 Rows.determinizeSubsetsRow.domain false Rows.determinizeSubsetsRow.laid) (((OpenSpec.ofChange Rows.determinizeSubsetsSpec).at F).post enc Tryz.prog Tryz.f3 false true false false) := by
  obtain ⟨ds, places, hx⟩ := reads_DeterminizeSubsets os enc
  refine returnsInHanded_of_row (C := Tryz.checked) (s := OpenSpec.ofChange Rows.determinizeSubsetsSpec) own started (by kernel_rfl) Tryz.func3
    (witness_row_atRef (enc := enc) (C := Tryz.checked) false (World.laidAll Tryz.prog os Rows.determinizeSubsetsRow.laid) args_DeterminizeSubsets (World.laidAll_os _ _ _) (by kernel_rfl) (by kernel_rfl) (by kernel_rfl)
      (OpenSpec.preRow_of_cond 16 hx (by kernel_rfl) (fun k hk => by cases hk) (by kernel_rfl) (laid_DeterminizeSubsets os))) ?_
  intro W base args ds gs before hval hW _ _ hwt hL hS _
  exact row_of_PC tOk laidOut (d := 16) (tb := 4) (by kernel_rfl) (by kernel_rfl) (by kernel_rfl) (by kernel_rfl) (eok_of hL (by kernel_rfl)) lawPC_DeterminizeSubsets rfl (fun ds h => by
    match ds, h with
    | [_], _ => rfl) hval hW rfl hwt
theorem jfA_DeterminizeSubsets : (Rows.determinizeSubsetsRow.inPlace == Tryz.pinned.checked.prog.inPlace 3) = true := by kernel_rfl
theorem jfB_DeterminizeSubsets : (Rows.determinizeSubsetsRow.unfollowed == Tryz.pinned.checked.prog.unfollowed 3) = true := by kernel_rfl
theorem jfC_DeterminizeSubsets : (Rows.determinizeSubsetsRow.recurses == Tryz.pinned.checked.prog.recurses 3) = true := by kernel_rfl
theorem jfD_DeterminizeSubsets : (Rows.determinizeSubsetsRow.named == Tryz.pinned.checked.prog.varsNamed 3) = true := by kernel_rfl
theorem jf_DeterminizeSubsets : joinedFacts Tryz.pinned.checked.prog 3 Tryz.f3 (OpenSpec.ofChange Rows.determinizeSubsetsSpec).bare Rows.determinizeSubsetsRow = true := by
  unfold joinedFacts
  rw [jfA_DeterminizeSubsets, jfB_DeterminizeSubsets, jfC_DeterminizeSubsets, jfD_DeterminizeSubsets]
  kernel_rfl
theorem said_DeterminizeSubsets : Rows.DeterminizeSubsetsSaid :=
  OpenClaim.holds_of_cond 3 Tryz.f3 rfl rfl rfl rfl rfl rfl rfl ⟨rfl, rfl, rfl, rfl, rfl⟩ rfl rfl rfl rfl rfl (by kernel_rfl) Tryz.func3 jf_DeterminizeSubsets
    (of_decide_eq_true (by kernel_rfl)) (by unfold Func.isWrapper; first | (rw [if_pos (by decide +kernel)]; kernel_rfl) | (rw [if_neg (by decide +kernel)]; exact ⟨rfl, rfl⟩))
    (fun os started H enc _ F => by rw [OpenClaim.pre_eq_preRow]; exact lifted_DeterminizeSubsets os started H enc F)
theorem plain_DeterminizeSubsets (f : FuncId) (fn : Func) (hf : Tryz.pinned.checked.prog.funcNamed "tidegate/tidegatelaw29.DeterminizeSubsets" = some f) (hfn : Tryz.pinned.checked.prog.funcs[f]? = some fn) :
    false = Tryz.pinned.checked.prog.looks [] ∧ ∀ (j : Nat) t, fn.params[j]? = some t → Tryz.pinned.checked.prog.wantsStandIn t = false := by
  obtain rfl : f = 3 := Option.some.inj ((show Tryz.prog.funcNamed "tidegate/tidegatelaw29.DeterminizeSubsets" = some 3 by kernel_rfl).symm.trans hf) |>.symm
  obtain rfl : fn = Tryz.f3 := (Option.some.inj (Tryz.func3.symm.trans hfn)).symm
  refine ⟨by kernel_rfl, fun j t ht => ?_⟩
  have hall : (Tryz.f3.params.toList.all fun t => Tryz.prog.wantsStandIn t == false) = true := by kernel_rfl
  have hm : t ∈ Tryz.f3.params.toList := by simpa using Array.mem_of_getElem? ht
  exact beq_iff_eq.1 (List.all_eq_true.1 hall t hm)
end Go.Abs
namespace Go.Proofs.YteghceocnldccaaGreatDoor
open Go Go.Abs
theorem determinizeSubsets_card : Rows.DeterminizeSubsetsCardSaid :=
  Claim7.holds_tied_plain_at .later [] _ _ _ _ said_DeterminizeSubsets (fun _ h => by cases h) (by kernel_rfl) (fun _ h => by cases h) determinizeSubsets_row_tie rfl ⟨rfl, rfl⟩ (by kernel_rfl) rfl plain_DeterminizeSubsets (by kernel_rfl)
end Go.Proofs.YteghceocnldccaaGreatDoor
