/- Saving and pruning leave all other files as they were; nothing remains of a writing file: CheckpointSpares returns true for every input. Conditions: those of the given row (the laid tables), tied by the given card. -/
import Derived.Test.YtmfoegilknpcnaaGreatDoorKh
import Derived.Test.YtmfoegilknpcnaaGreatDoorKg
set_option linter.all false
set_option maxRecDepth 100000
namespace Go.Abs
open Go Go.Proofs Go.Proofs.YtmfoegilknpcnaaGreatDoor Go.RowKit
noncomputable def args_CheckpointSpares : Array Value := #[.agg #[.slice none 0 0, .int .i64 0], .agg #[.int .i64 0, .slice none 0 0, .slice none 0 0]]
theorem laid_CheckpointSpares (os : Os) : laidMetH Tryz.prog Rows.checkpointSparesRow.laid ((World.laidAll Tryz.prog os Rows.checkpointSparesRow.laid).forCall (fun _ _ => 0) ⟨#[], args_CheckpointSpares, []⟩).memory :=
  laidMet_laidAll _ (by kernel_rfl) (by kernel_rfl)
theorem reads_CheckpointSpares (os : Os) {H : Type} (enc : TypeId × Value → H) : ∃ ds places, DataW.whole enc Tryz.prog ((World.laidAll Tryz.prog os Rows.checkpointSparesRow.laid).forCall (fun _ _ => 0) ⟨#[], args_CheckpointSpares, []⟩).memory Tryz.f8.params.toList Rows.checkpointSparesSpec.vars false args_CheckpointSpares.toList 16 = some (ds, [], places) :=
  ⟨[.agg [.nil, .lit (.int .i64 0)], .agg [.lit (.int .i64 0), .nil, .nil]], [], by kernel_rfl⟩
theorem lawPC_CheckpointSpares (xs : List AV) (h : ArgsShp T 16 Tryz.f8.params.toList xs) : PC Tryz.prog 8 xs (fun r => r = .bool true) := by
  rw [Tryz.params8] at h
  obtain ⟨d, _, rfl, hd, h_1⟩ := argD h
  obtain ⟨s, _, rfl, hs, h_2⟩ := argSnp h_1
  obtain rfl := argsNil h_2
  exact law_Spares d s hd hs
theorem lifted_CheckpointSpares (os : Os) (started : os.Started) (H : Type) (enc : TypeId × Value → H) (F : Stop.Interp) :
    ReturnsInHanded {} Tryz.checked os 8 .any ((OpenSpec.ofChange Rows.checkpointSparesSpec).preRow enc Tryz.prog Tryz.f8 Rows.checkpointSparesRow.domain false Rows.checkpointSparesRow.laid) (((OpenSpec.ofChange Rows.checkpointSparesSpec).at F).post enc Tryz.prog Tryz.f8 false true false false) := by
  obtain ⟨ds, places, hx⟩ := reads_CheckpointSpares os enc
  refine returnsInHanded_of_row (C := Tryz.checked) (s := OpenSpec.ofChange Rows.checkpointSparesSpec) own started (by kernel_rfl) Tryz.func8
    (witness_row_atRef (enc := enc) (C := Tryz.checked) false (World.laidAll Tryz.prog os Rows.checkpointSparesRow.laid) args_CheckpointSpares (World.laidAll_os _ _ _) (by kernel_rfl) (by kernel_rfl) (by kernel_rfl)
      (OpenSpec.preRow_of_cond 16 hx (by kernel_rfl) (fun k hk => by cases hk) (by kernel_rfl) (laid_CheckpointSpares os))) ?_
  intro W base args ds gs before hval hW _ _ hwt hL hS _
  exact row_of_PC tOk laidOut (d := 16) (tb := 4) (by kernel_rfl) (by kernel_rfl) (by kernel_rfl) (by kernel_rfl) (eok_of (D := Rows.laid_strconv_ErrSyntax) (E := Rows.laid_strconv_ErrRange) hL hS (by kernel_rfl) (by kernel_rfl) (by kernel_rfl) rfl rfl) lawPC_CheckpointSpares rfl (fun ds h => by
    match ds, h with
    | [_, _], _ => rfl) hval hW rfl hwt
theorem jfA_CheckpointSpares : (Rows.checkpointSparesRow.inPlace == Tryz.pinned.checked.prog.inPlace 8) = true := by kernel_rfl
theorem jfB_CheckpointSpares : (Rows.checkpointSparesRow.unfollowed == Tryz.pinned.checked.prog.unfollowed 8) = true := by kernel_rfl
theorem jfC_CheckpointSpares : (Rows.checkpointSparesRow.recurses == Tryz.pinned.checked.prog.recurses 8) = true := by kernel_rfl
theorem jfD_CheckpointSpares : (Rows.checkpointSparesRow.named == Tryz.pinned.checked.prog.varsNamed 8) = true := by kernel_rfl
theorem jf_CheckpointSpares : joinedFacts Tryz.pinned.checked.prog 8 Tryz.f8 (OpenSpec.ofChange Rows.checkpointSparesSpec).bare Rows.checkpointSparesRow = true := by
  unfold joinedFacts
  rw [jfA_CheckpointSpares, jfB_CheckpointSpares, jfC_CheckpointSpares, jfD_CheckpointSpares]
  kernel_rfl
theorem said_CheckpointSpares : Rows.CheckpointSparesSaid :=
  OpenClaim.holds_of_cond 8 Tryz.f8 rfl rfl rfl rfl rfl rfl rfl ⟨rfl, rfl, rfl, rfl, rfl⟩ rfl rfl rfl rfl rfl (by kernel_rfl) Tryz.func8 jf_CheckpointSpares
    (of_decide_eq_true (by kernel_rfl)) (by unfold Func.isWrapper; first | (rw [if_pos (by decide +kernel)]; kernel_rfl) | (rw [if_neg (by decide +kernel)]; exact ⟨rfl, rfl⟩))
    (fun os started H enc _ F => by rw [OpenClaim.pre_eq_preRow]; exact lifted_CheckpointSpares os started H enc F)
theorem plain_CheckpointSpares (f : FuncId) (fn : Func) (hf : Tryz.pinned.checked.prog.funcNamed "tidegate/tidegatelaw50.CheckpointSpares" = some f) (hfn : Tryz.pinned.checked.prog.funcs[f]? = some fn) :
    true = Tryz.pinned.checked.prog.looks [] ∧ ∀ (j : Nat) t, fn.params[j]? = some t → Tryz.pinned.checked.prog.wantsStandIn t = false := by
  obtain rfl : f = 8 := Option.some.inj ((show Tryz.prog.funcNamed "tidegate/tidegatelaw50.CheckpointSpares" = some 8 by kernel_rfl).symm.trans hf) |>.symm
  obtain rfl : fn = Tryz.f8 := (Option.some.inj (Tryz.func8.symm.trans hfn)).symm
  refine ⟨by kernel_rfl, fun j t ht => ?_⟩
  have hall : (Tryz.f8.params.toList.all fun t => Tryz.prog.wantsStandIn t == false) = true := by kernel_rfl
  have hm : t ∈ Tryz.f8.params.toList := by simpa using Array.mem_of_getElem? ht
  exact beq_iff_eq.1 (List.all_eq_true.1 hall t hm)
end Go.Abs
namespace Go.Proofs.YtmfoegilknpcnaaGreatDoor
open Go Go.Abs
theorem checkpointSpares_card : Rows.CheckpointSparesCardSaid :=
  Claim7.holds_tied_plain_at .later [] _ _ _ _ said_CheckpointSpares (fun _ h => by cases h) (by kernel_rfl) (fun _ h => by cases h) checkpointSpares_row_tie rfl ⟨rfl, rfl⟩ (by kernel_rfl) rfl plain_CheckpointSpares (by kernel_rfl)
end Go.Proofs.YtmfoegilknpcnaaGreatDoor
