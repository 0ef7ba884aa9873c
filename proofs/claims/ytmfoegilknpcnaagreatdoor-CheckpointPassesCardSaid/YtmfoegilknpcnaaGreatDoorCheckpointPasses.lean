/- Of two saved snapshots the one with the greater number is loaded, and the other one if the first one is damaged; pruning keeps what is not older: CheckpointPasses returns true for every input. Conditions: those of the given row (the laid tables), tied by the given card. -/
import Derived.Test.YtmfoegilknpcnaaGreatDoorKi
import Derived.Test.YtmfoegilknpcnaaGreatDoorKh
set_option linter.all false
set_option maxRecDepth 100000
namespace Go.Abs
open Go Go.Proofs Go.Proofs.YtmfoegilknpcnaaGreatDoor Go.RowKit
noncomputable def args_CheckpointPasses : Array Value := #[.agg #[.int .i64 0, .slice none 0 0, .slice none 0 0], .agg #[.int .i64 0, .slice none 0 0, .slice none 0 0], .int .i64 0]
theorem laid_CheckpointPasses (os : Os) : laidMetH Tryz.prog Rows.checkpointPassesRow.laid ((World.laidAll Tryz.prog os Rows.checkpointPassesRow.laid).forCall (fun _ _ => 0) ⟨#[], args_CheckpointPasses, []⟩).memory :=
  laidMet_laidAll _ (by kernel_rfl) (by kernel_rfl)
theorem reads_CheckpointPasses (os : Os) {H : Type} (enc : TypeId × Value → H) : ∃ ds places, DataW.whole enc Tryz.prog ((World.laidAll Tryz.prog os Rows.checkpointPassesRow.laid).forCall (fun _ _ => 0) ⟨#[], args_CheckpointPasses, []⟩).memory Tryz.f7.params.toList Rows.checkpointPassesSpec.vars false args_CheckpointPasses.toList 16 = some (ds, [], places) :=
  ⟨[.agg [.lit (.int .i64 0), .nil, .nil], .agg [.lit (.int .i64 0), .nil, .nil], .lit (.int .i64 0)], [], by kernel_rfl⟩
theorem lawPC_CheckpointPasses (xs : List AV) (h : ArgsShp T 16 Tryz.f7.params.toList xs) : PC Tryz.prog 7 xs (fun r => r = .bool true) := by
  rw [Tryz.params7] at h
  obtain ⟨s, _, rfl, hs, h_1⟩ := argSnp h
  obtain ⟨t, _, rfl, ht, h_2⟩ := argSnp h_1
  obtain ⟨b, _, rfl, hb, h_3⟩ := argInt h_2
  obtain rfl := argsNil h_3
  exact law_Passes s t b hs ht
theorem lifted_CheckpointPasses (os : Os) (started : os.Started) (H : Type) (enc : TypeId × Value → H) (F : Stop.Interp) :
    ReturnsInHanded {} Tryz.checked os 7 .any ((OpenSpec.ofChange Rows.checkpointPassesSpec).preRow enc Tryz.prog Tryz.f7 Rows.checkpointPassesRow.domain false Rows.checkpointPassesRow.laid) (((OpenSpec.ofChange Rows.checkpointPassesSpec).at F).post enc Tryz.prog Tryz.f7 false true false false) := by
  obtain ⟨ds, places, hx⟩ := reads_CheckpointPasses os enc
  refine returnsInHanded_of_row (C := Tryz.checked) (s := OpenSpec.ofChange Rows.checkpointPassesSpec) own started (by kernel_rfl) Tryz.func7
    (witness_row_atRef (enc := enc) (C := Tryz.checked) false (World.laidAll Tryz.prog os Rows.checkpointPassesRow.laid) args_CheckpointPasses (World.laidAll_os _ _ _) (by kernel_rfl) (by kernel_rfl) (by kernel_rfl)
      (OpenSpec.preRow_of_cond 16 hx (by kernel_rfl) (fun k hk => by cases hk) (by kernel_rfl) (laid_CheckpointPasses os))) ?_
  intro W base args ds gs before hval hW _ _ hwt hL hS _
  exact row_of_PC tOk laidOut (d := 16) (tb := 4) (by kernel_rfl) (by kernel_rfl) (by kernel_rfl) (by kernel_rfl) (eok_of (D := Rows.laid_strconv_ErrSyntax) (E := Rows.laid_strconv_ErrRange) hL hS (by kernel_rfl) (by kernel_rfl) (by kernel_rfl) rfl rfl) lawPC_CheckpointPasses rfl (fun ds h => by
    match ds, h with
    | [_, _, _], _ => rfl) hval hW rfl hwt
theorem jfA_CheckpointPasses : (Rows.checkpointPassesRow.inPlace == Tryz.pinned.checked.prog.inPlace 7) = true := by kernel_rfl
theorem jfB_CheckpointPasses : (Rows.checkpointPassesRow.unfollowed == Tryz.pinned.checked.prog.unfollowed 7) = true := by kernel_rfl
theorem jfC_CheckpointPasses : (Rows.checkpointPassesRow.recurses == Tryz.pinned.checked.prog.recurses 7) = true := by kernel_rfl
theorem jfD_CheckpointPasses : (Rows.checkpointPassesRow.named == Tryz.pinned.checked.prog.varsNamed 7) = true := by kernel_rfl
theorem jf_CheckpointPasses : joinedFacts Tryz.pinned.checked.prog 7 Tryz.f7 (OpenSpec.ofChange Rows.checkpointPassesSpec).bare Rows.checkpointPassesRow = true := by
  unfold joinedFacts
  rw [jfA_CheckpointPasses, jfB_CheckpointPasses, jfC_CheckpointPasses, jfD_CheckpointPasses]
  kernel_rfl
theorem said_CheckpointPasses : Rows.CheckpointPassesSaid :=
  OpenClaim.holds_of_cond 7 Tryz.f7 rfl rfl rfl rfl rfl rfl rfl ⟨rfl, rfl, rfl, rfl, rfl⟩ rfl rfl rfl rfl rfl (by kernel_rfl) Tryz.func7 jf_CheckpointPasses
    (of_decide_eq_true (by kernel_rfl)) (by unfold Func.isWrapper; first | (rw [if_pos (by decide +kernel)]; kernel_rfl) | (rw [if_neg (by decide +kernel)]; exact ⟨rfl, rfl⟩))
    (fun os started H enc _ F => by rw [OpenClaim.pre_eq_preRow]; exact lifted_CheckpointPasses os started H enc F)
theorem plain_CheckpointPasses (f : FuncId) (fn : Func) (hf : Tryz.pinned.checked.prog.funcNamed "tidegate/tidegatelaw50.CheckpointPasses" = some f) (hfn : Tryz.pinned.checked.prog.funcs[f]? = some fn) :
    true = Tryz.pinned.checked.prog.looks [] ∧ ∀ (j : Nat) t, fn.params[j]? = some t → Tryz.pinned.checked.prog.wantsStandIn t = false := by
  obtain rfl : f = 7 := Option.some.inj ((show Tryz.prog.funcNamed "tidegate/tidegatelaw50.CheckpointPasses" = some 7 by kernel_rfl).symm.trans hf) |>.symm
  obtain rfl : fn = Tryz.f7 := (Option.some.inj (Tryz.func7.symm.trans hfn)).symm
  refine ⟨by kernel_rfl, fun j t ht => ?_⟩
  have hall : (Tryz.f7.params.toList.all fun t => Tryz.prog.wantsStandIn t == false) = true := by kernel_rfl
  have hm : t ∈ Tryz.f7.params.toList := by simpa using Array.mem_of_getElem? ht
  exact beq_iff_eq.1 (List.all_eq_true.1 hall t hm)
end Go.Abs
namespace Go.Proofs.YtmfoegilknpcnaaGreatDoor
open Go Go.Abs
theorem checkpointPasses_card : Rows.CheckpointPassesCardSaid :=
  Claim7.holds_tied_plain_at .later [] _ _ _ _ said_CheckpointPasses (fun _ h => by cases h) (by kernel_rfl) (fun _ h => by cases h) checkpointPasses_row_tie rfl ⟨rfl, rfl⟩ (by kernel_rfl) rfl plain_CheckpointPasses (by kernel_rfl)
end Go.Proofs.YtmfoegilknpcnaaGreatDoor
