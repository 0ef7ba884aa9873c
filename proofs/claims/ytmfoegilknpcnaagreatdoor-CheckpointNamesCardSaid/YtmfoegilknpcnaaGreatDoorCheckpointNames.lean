/- Name and Number return the specified results for all numbers and names: CheckpointNames returns true for every input. Conditions: those of the given row (the laid tables), tied by the given card. -/
import Derived.Test.YtmfoegilknpcnaaGreatDoorKf
set_option linter.all false
set_option maxRecDepth 100000
namespace Go.Abs
open Go Go.Proofs Go.Proofs.YtmfoegilknpcnaaGreatDoor Go.RowKit
noncomputable def args_CheckpointNames : Array Value := #[.int .i64 0, .string ⟨#[]⟩]
theorem laid_CheckpointNames (os : Os) : laidMetH Tryz.prog Rows.checkpointNamesRow.laid ((World.laidAll Tryz.prog os Rows.checkpointNamesRow.laid).forCall (fun _ _ => 0) ⟨#[], args_CheckpointNames, []⟩).memory :=
  laidMet_laidAll _ (by kernel_rfl) (by kernel_rfl)
theorem reads_CheckpointNames (os : Os) {H : Type} (enc : TypeId × Value → H) : ∃ ds places, DataW.whole enc Tryz.prog ((World.laidAll Tryz.prog os Rows.checkpointNamesRow.laid).forCall (fun _ _ => 0) ⟨#[], args_CheckpointNames, []⟩).memory Tryz.f5.params.toList Rows.checkpointNamesSpec.vars false args_CheckpointNames.toList 8 = some (ds, [], places) :=
  ⟨[.lit (.int .i64 0), .lit (.string [])], [], by kernel_rfl⟩
theorem lawPC_CheckpointNames (xs : List AV) (h : ArgsShp T 8 Tryz.f5.params.toList xs) : PC Tryz.prog 5 xs (fun r => r = .bool true) := by
  rw [Tryz.params5] at h
  obtain ⟨n, _, rfl, hn, h_1⟩ := argInt h
  obtain ⟨s, _, rfl, hs, h_2⟩ := argStr h_1
  obtain rfl := argsNil h_2
  exact law_Names n s hn.1 hn.2
theorem lifted_CheckpointNames (os : Os) (started : os.Started) (H : Type) (enc : TypeId × Value → H) (F : Stop.Interp) :
    ReturnsInHanded {} Tryz.checked os 5 .any ((OpenSpec.ofChange Rows.checkpointNamesSpec).preRow enc Tryz.prog Tryz.f5 Rows.checkpointNamesRow.domain false Rows.checkpointNamesRow.laid) (((OpenSpec.ofChange Rows.checkpointNamesSpec).at F).post enc Tryz.prog Tryz.f5 false true false false) := by
  obtain ⟨ds, places, hx⟩ := reads_CheckpointNames os enc
  refine returnsInHanded_of_row (C := Tryz.checked) (s := OpenSpec.ofChange Rows.checkpointNamesSpec) own started (by kernel_rfl) Tryz.func5
    (witness_row_atRef (enc := enc) (C := Tryz.checked) false (World.laidAll Tryz.prog os Rows.checkpointNamesRow.laid) args_CheckpointNames (World.laidAll_os _ _ _) (by kernel_rfl) (by kernel_rfl) (by kernel_rfl)
      (OpenSpec.preRow_of_cond 8 hx (by kernel_rfl) (fun k hk => by cases hk) (by kernel_rfl) (laid_CheckpointNames os))) ?_
  intro W base args ds gs before hval hW _ _ hwt hL hS _
  exact row_of_PC tOk laidOut (d := 8) (tb := 4) (by kernel_rfl) (by kernel_rfl) (by kernel_rfl) (by kernel_rfl) (eok_of (D := Rows.laid_strconv_ErrSyntax) (E := Rows.laid_strconv_ErrRange) hL hS (by kernel_rfl) (by kernel_rfl) (by kernel_rfl) rfl rfl) lawPC_CheckpointNames rfl (fun ds h => by
    match ds, h with
    | [_, _], _ => rfl) hval hW rfl hwt
theorem said_CheckpointNames : Rows.CheckpointNamesSaid :=
  OpenClaim.holds_of_cond 5 Tryz.f5 rfl rfl rfl rfl rfl rfl rfl ⟨rfl, rfl, rfl, rfl, rfl⟩ rfl rfl rfl rfl rfl (by kernel_rfl) Tryz.func5 (by kernel_rfl)
    (of_decide_eq_true (by kernel_rfl)) (by unfold Func.isWrapper; first | (rw [if_pos (by decide +kernel)]; kernel_rfl) | (rw [if_neg (by decide +kernel)]; exact ⟨rfl, rfl⟩))
    (fun os started H enc _ F => by rw [OpenClaim.pre_eq_preRow]; exact lifted_CheckpointNames os started H enc F)
theorem plain_CheckpointNames (f : FuncId) (fn : Func) (hf : Tryz.pinned.checked.prog.funcNamed "tidegate/tidegatelaw50.CheckpointNames" = some f) (hfn : Tryz.pinned.checked.prog.funcs[f]? = some fn) :
    true = Tryz.pinned.checked.prog.looks [] ∧ ∀ (j : Nat) t, fn.params[j]? = some t → Tryz.pinned.checked.prog.wantsStandIn t = false := by
  obtain rfl : f = 5 := Option.some.inj ((show Tryz.prog.funcNamed "tidegate/tidegatelaw50.CheckpointNames" = some 5 by kernel_rfl).symm.trans hf) |>.symm
  obtain rfl : fn = Tryz.f5 := (Option.some.inj (Tryz.func5.symm.trans hfn)).symm
  refine ⟨by kernel_rfl, fun j t ht => ?_⟩
  have hall : (Tryz.f5.params.toList.all fun t => Tryz.prog.wantsStandIn t == false) = true := by kernel_rfl
  have hm : t ∈ Tryz.f5.params.toList := by simpa using Array.mem_of_getElem? ht
  exact beq_iff_eq.1 (List.all_eq_true.1 hall t hm)
end Go.Abs
namespace Go.Proofs.YtmfoegilknpcnaaGreatDoor
open Go Go.Abs
theorem checkpointNames_card : Rows.CheckpointNamesCardSaid :=
  Claim7.holds_tied_plain_at .later [] _ _ _ _ said_CheckpointNames (fun _ h => by cases h) (by kernel_rfl) (fun _ h => by cases h) checkpointNames_row_tie rfl ⟨rfl, rfl⟩ (by kernel_rfl) rfl plain_CheckpointNames (by kernel_rfl)
end Go.Proofs.YtmfoegilknpcnaaGreatDoor
