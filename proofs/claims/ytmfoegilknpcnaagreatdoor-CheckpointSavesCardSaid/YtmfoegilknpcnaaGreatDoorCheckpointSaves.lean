/- Write and Save return the specified disks, or the specified errors, for all disks and snapshots: CheckpointSaves returns true for every input. Conditions: those of the given row (the laid tables), tied by the given card. -/
import Derived.Test.YtmfoegilknpcnaaGreatDoorKl
import Derived.Test.YtmfoegilknpcnaaGreatDoorKg
import Derived.Test.YtmfoegilknpcnaaGreatDoorKh
set_option linter.all false
set_option maxRecDepth 100000
namespace Go.Abs
open Go Go.Proofs Go.Proofs.YtmfoegilknpcnaaGreatDoor Go.RowKit
noncomputable def args_CheckpointSaves : Array Value := #[.agg #[.slice none 0 0, .int .i64 0], .agg #[.int .i64 0, .slice none 0 0, .slice none 0 0]]
theorem laid_CheckpointSaves (os : Os) : laidMetH Tryz.prog Rows.checkpointSavesRow.laid ((World.laidAll Tryz.prog os Rows.checkpointSavesRow.laid).forCall (fun _ _ => 0) ⟨#[], args_CheckpointSaves, []⟩).memory :=
  laidMet_laidAll _ (by kernel_rfl) (by kernel_rfl)
theorem reads_CheckpointSaves (os : Os) {H : Type} (enc : TypeId × Value → H) : ∃ ds places, DataW.whole enc Tryz.prog ((World.laidAll Tryz.prog os Rows.checkpointSavesRow.laid).forCall (fun _ _ => 0) ⟨#[], args_CheckpointSaves, []⟩).memory Tryz.f4.params.toList Rows.checkpointSavesSpec.vars false args_CheckpointSaves.toList 16 = some (ds, [], places) :=
  ⟨[.agg [.nil, .lit (.int .i64 0)], .agg [.lit (.int .i64 0), .nil, .nil]], [], by kernel_rfl⟩
theorem lawPC_CheckpointSaves (xs : List AV) (h : ArgsShp T 16 Tryz.f4.params.toList xs) : PC Tryz.prog 4 xs (fun r => r = .bool true) := by
  rw [Tryz.params4] at h
  obtain ⟨d, _, rfl, hd, h_1⟩ := argD h
  obtain ⟨s, _, rfl, hs, h_2⟩ := argSnp h_1
  obtain rfl := argsNil h_2
  exact law_Saves d s hd hs
theorem lifted_CheckpointSaves (os : Os) (started : os.Started) (H : Type) (enc : TypeId × Value → H) (F : Stop.Interp) :
    ReturnsInHanded {} Tryz.checked os 4 .any ((OpenSpec.ofChange Rows.checkpointSavesSpec).preRow enc Tryz.prog Tryz.f4 Rows.checkpointSavesRow.domain false Rows.checkpointSavesRow.laid) (((OpenSpec.ofChange Rows.checkpointSavesSpec).at F).post enc Tryz.prog Tryz.f4 false true false false) := by
  obtain ⟨ds, places, hx⟩ := reads_CheckpointSaves os enc
  refine returnsInHanded_of_row (C := Tryz.checked) (s := OpenSpec.ofChange Rows.checkpointSavesSpec) own started (by kernel_rfl) Tryz.func4
    (witness_row_atRef (enc := enc) (C := Tryz.checked) false (World.laidAll Tryz.prog os Rows.checkpointSavesRow.laid) args_CheckpointSaves (World.laidAll_os _ _ _) (by kernel_rfl) (by kernel_rfl) (by kernel_rfl)
      (OpenSpec.preRow_of_cond 16 hx (by kernel_rfl) (fun k hk => by cases hk) (by kernel_rfl) (laid_CheckpointSaves os))) ?_
  intro W base args ds gs before hval hW _ _ hwt hL hS _
  exact row_of_PC tOk laidOut (d := 16) (tb := 4) (by kernel_rfl) (by kernel_rfl) (by kernel_rfl) (by kernel_rfl) (eok_of (D := Rows.laid_strconv_ErrSyntax) (E := Rows.laid_strconv_ErrRange) hL hS (by kernel_rfl) (by kernel_rfl) (by kernel_rfl) rfl rfl) lawPC_CheckpointSaves rfl (fun ds h => by
    match ds, h with
    | [_, _], _ => rfl) hval hW rfl hwt
theorem jfA_CheckpointSaves : (Rows.checkpointSavesRow.inPlace == Tryz.pinned.checked.prog.inPlace 4) = true := by kernel_rfl
theorem jfB_CheckpointSaves : (Rows.checkpointSavesRow.unfollowed == Tryz.pinned.checked.prog.unfollowed 4) = true := by kernel_rfl
theorem jfC_CheckpointSaves : (Rows.checkpointSavesRow.recurses == Tryz.pinned.checked.prog.recurses 4) = true := by kernel_rfl
theorem jfD_CheckpointSaves : (Rows.checkpointSavesRow.named == Tryz.pinned.checked.prog.varsNamed 4) = true := by kernel_rfl
theorem jf_CheckpointSaves : joinedFacts Tryz.pinned.checked.prog 4 Tryz.f4 (OpenSpec.ofChange Rows.checkpointSavesSpec).bare Rows.checkpointSavesRow = true := by
  unfold joinedFacts
  rw [jfA_CheckpointSaves, jfB_CheckpointSaves, jfC_CheckpointSaves, jfD_CheckpointSaves]
  kernel_rfl
theorem said_CheckpointSaves : Rows.CheckpointSavesSaid :=
  OpenClaim.holds_of_cond 4 Tryz.f4 rfl rfl rfl rfl rfl rfl rfl ⟨rfl, rfl, rfl, rfl, rfl⟩ rfl rfl rfl rfl rfl (by kernel_rfl) Tryz.func4 jf_CheckpointSaves
    (of_decide_eq_true (by kernel_rfl)) (by unfold Func.isWrapper; first | (rw [if_pos (by decide +kernel)]; kernel_rfl) | (rw [if_neg (by decide +kernel)]; exact ⟨rfl, rfl⟩))
    (fun os started H enc _ F => by rw [OpenClaim.pre_eq_preRow]; exact lifted_CheckpointSaves os started H enc F)
theorem plain_CheckpointSaves (f : FuncId) (fn : Func) (hf : Tryz.pinned.checked.prog.funcNamed "tidegate/tidegatelaw50.CheckpointSaves" = some f) (hfn : Tryz.pinned.checked.prog.funcs[f]? = some fn) :
    true = Tryz.pinned.checked.prog.looks [] ∧ ∀ (j : Nat) t, fn.params[j]? = some t → Tryz.pinned.checked.prog.wantsStandIn t = false := by
  obtain rfl : f = 4 := Option.some.inj ((show Tryz.prog.funcNamed "tidegate/tidegatelaw50.CheckpointSaves" = some 4 by kernel_rfl).symm.trans hf) |>.symm
  obtain rfl : fn = Tryz.f4 := (Option.some.inj (Tryz.func4.symm.trans hfn)).symm
  refine ⟨by kernel_rfl, fun j t ht => ?_⟩
  have hall : (Tryz.f4.params.toList.all fun t => Tryz.prog.wantsStandIn t == false) = true := by kernel_rfl
  have hm : t ∈ Tryz.f4.params.toList := by simpa using Array.mem_of_getElem? ht
  exact beq_iff_eq.1 (List.all_eq_true.1 hall t hm)
end Go.Abs
namespace Go.Proofs.YtmfoegilknpcnaaGreatDoor
open Go Go.Abs
theorem checkpointSaves_card : Rows.CheckpointSavesCardSaid :=
  Claim7.holds_tied_plain_at .later [] _ _ _ _ said_CheckpointSaves (fun _ h => by cases h) (by kernel_rfl) (fun _ h => by cases h) checkpointSaves_row_tie rfl ⟨rfl, rfl⟩ (by kernel_rfl) rfl plain_CheckpointSaves (by kernel_rfl)
end Go.Proofs.YtmfoegilknpcnaaGreatDoor
