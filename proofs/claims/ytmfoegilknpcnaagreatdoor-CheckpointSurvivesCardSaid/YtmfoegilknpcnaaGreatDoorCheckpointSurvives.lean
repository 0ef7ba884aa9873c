/- Behind any crash, what was saved is loaded, unless a later checkpoint is valid; a crash before Commit leaves the snapshot that was there: CheckpointSurvives returns true for every input. Conditions: those of the given row (the laid tables), tied by the given card. -/
import Derived.Test.YtmfoegilknpcnaaGreatDoorKj
import Derived.Test.YtmfoegilknpcnaaGreatDoorKg
import Derived.Test.YtmfoegilknpcnaaGreatDoorKh
set_option linter.all false
set_option maxRecDepth 100000
namespace Go.Abs
open Go Go.Proofs Go.Proofs.YtmfoegilknpcnaaGreatDoor Go.RowKit
noncomputable def args_CheckpointSurvives : Array Value := #[.agg #[.slice none 0 0, .int .i64 0], .agg #[.int .i64 0, .slice none 0 0, .slice none 0 0], .slice none 0 0]
theorem laid_CheckpointSurvives (os : Os) : laidMetH Tryz.prog Rows.checkpointSurvivesRow.laid ((World.laidAll Tryz.prog os Rows.checkpointSurvivesRow.laid).forCall (fun _ _ => 0) ⟨#[], args_CheckpointSurvives, []⟩).memory :=
  laidMet_laidAll _ (by kernel_rfl) (by kernel_rfl)
theorem reads_CheckpointSurvives (os : Os) {H : Type} (enc : TypeId × Value → H) : ∃ ds places, DataW.whole enc Tryz.prog ((World.laidAll Tryz.prog os Rows.checkpointSurvivesRow.laid).forCall (fun _ _ => 0) ⟨#[], args_CheckpointSurvives, []⟩).memory Tryz.f9.params.toList Rows.checkpointSurvivesSpec.vars false args_CheckpointSurvives.toList 16 = some (ds, [], places) :=
  ⟨[.agg [.nil, .lit (.int .i64 0)], .agg [.lit (.int .i64 0), .nil, .nil], .nil], [], by kernel_rfl⟩
theorem lawPC_CheckpointSurvives (xs : List AV) (h : ArgsShp T 16 Tryz.f9.params.toList xs) : PC Tryz.prog 9 xs (fun r => r = .bool true) := by
  rw [Tryz.params9] at h
  obtain ⟨d, _, rfl, hd, h_1⟩ := argD h
  obtain ⟨s, _, rfl, hs, h_2⟩ := argSnp h_1
  obtain ⟨c, _, rfl, hc, h_3⟩ := argLI64 h_2
  obtain rfl := argsNil h_3
  exact law_Survives d s c hd hs
theorem lifted_CheckpointSurvives (os : Os) (started : os.Started) (H : Type) (enc : TypeId × Value → H) (F : Stop.Interp) :
    ReturnsInHanded {} Tryz.checked os 9 .any ((OpenSpec.ofChange Rows.checkpointSurvivesSpec).preRow enc Tryz.prog Tryz.f9 Rows.checkpointSurvivesRow.domain false Rows.checkpointSurvivesRow.laid) (((OpenSpec.ofChange Rows.checkpointSurvivesSpec).at F).post enc Tryz.prog Tryz.f9 false true false false) := by
  obtain ⟨ds, places, hx⟩ := reads_CheckpointSurvives os enc
  refine returnsInHanded_of_row (C := Tryz.checked) (s := OpenSpec.ofChange Rows.checkpointSurvivesSpec) own started (by kernel_rfl) Tryz.func9
    (witness_row_atRef (enc := enc) (C := Tryz.checked) false (World.laidAll Tryz.prog os Rows.checkpointSurvivesRow.laid) args_CheckpointSurvives (World.laidAll_os _ _ _) (by kernel_rfl) (by kernel_rfl) (by kernel_rfl)
      (OpenSpec.preRow_of_cond 16 hx (by kernel_rfl) (fun k hk => by cases hk) (by kernel_rfl) (laid_CheckpointSurvives os))) ?_
  intro W base args ds gs before hval hW _ _ hwt hL hS _
  exact row_of_PC tOk laidOut (d := 16) (tb := 4) (by kernel_rfl) (by kernel_rfl) (by kernel_rfl) (by kernel_rfl) (eok_of (D := Rows.laid_strconv_ErrSyntax) (E := Rows.laid_strconv_ErrRange) hL hS (by kernel_rfl) (by kernel_rfl) (by kernel_rfl) rfl rfl) lawPC_CheckpointSurvives rfl (fun ds h => by
    match ds, h with
    | [_, _, _], _ => rfl) hval hW rfl hwt
theorem jfA_CheckpointSurvives : (Rows.checkpointSurvivesRow.inPlace == Tryz.pinned.checked.prog.inPlace 9) = true := by kernel_rfl
theorem jfB_CheckpointSurvives : (Rows.checkpointSurvivesRow.unfollowed == Tryz.pinned.checked.prog.unfollowed 9) = true := by kernel_rfl
theorem jfC_CheckpointSurvives : (Rows.checkpointSurvivesRow.recurses == Tryz.pinned.checked.prog.recurses 9) = true := by kernel_rfl
theorem jfD_CheckpointSurvives : (Rows.checkpointSurvivesRow.named == Tryz.pinned.checked.prog.varsNamed 9) = true := by kernel_rfl
theorem jf_CheckpointSurvives : joinedFacts Tryz.pinned.checked.prog 9 Tryz.f9 (OpenSpec.ofChange Rows.checkpointSurvivesSpec).bare Rows.checkpointSurvivesRow = true := by
  unfold joinedFacts
  rw [jfA_CheckpointSurvives, jfB_CheckpointSurvives, jfC_CheckpointSurvives, jfD_CheckpointSurvives]
  kernel_rfl
theorem said_CheckpointSurvives : Rows.CheckpointSurvivesSaid :=
  OpenClaim.holds_of_cond 9 Tryz.f9 rfl rfl rfl rfl rfl rfl rfl ⟨rfl, rfl, rfl, rfl, rfl⟩ rfl rfl rfl rfl rfl (by kernel_rfl) Tryz.func9 jf_CheckpointSurvives
    (of_decide_eq_true (by kernel_rfl)) (by unfold Func.isWrapper; first | (rw [if_pos (by decide +kernel)]; kernel_rfl) | (rw [if_neg (by decide +kernel)]; exact ⟨rfl, rfl⟩))
    (fun os started H enc _ F => by rw [OpenClaim.pre_eq_preRow]; exact lifted_CheckpointSurvives os started H enc F)
theorem plain_CheckpointSurvives (f : FuncId) (fn : Func) (hf : Tryz.pinned.checked.prog.funcNamed "tidegate/tidegatelaw50.CheckpointSurvives" = some f) (hfn : Tryz.pinned.checked.prog.funcs[f]? = some fn) :
    true = Tryz.pinned.checked.prog.looks [] ∧ ∀ (j : Nat) t, fn.params[j]? = some t → Tryz.pinned.checked.prog.wantsStandIn t = false := by
  obtain rfl : f = 9 := Option.some.inj ((show Tryz.prog.funcNamed "tidegate/tidegatelaw50.CheckpointSurvives" = some 9 by kernel_rfl).symm.trans hf) |>.symm
  obtain rfl : fn = Tryz.f9 := (Option.some.inj (Tryz.func9.symm.trans hfn)).symm
  refine ⟨by kernel_rfl, fun j t ht => ?_⟩
  have hall : (Tryz.f9.params.toList.all fun t => Tryz.prog.wantsStandIn t == false) = true := by kernel_rfl
  have hm : t ∈ Tryz.f9.params.toList := by simpa using Array.mem_of_getElem? ht
  exact beq_iff_eq.1 (List.all_eq_true.1 hall t hm)
end Go.Abs
namespace Go.Proofs.YtmfoegilknpcnaaGreatDoor
open Go Go.Abs
theorem checkpointSurvives_card : Rows.CheckpointSurvivesCardSaid :=
  Claim7.holds_tied_plain_at .later [] _ _ _ _ said_CheckpointSurvives (fun _ h => by cases h) (by kernel_rfl) (fun _ h => by cases h) checkpointSurvives_row_tie rfl ⟨rfl, rfl⟩ (by kernel_rfl) rfl plain_CheckpointSurvives (by kernel_rfl)
end Go.Proofs.YtmfoegilknpcnaaGreatDoor
