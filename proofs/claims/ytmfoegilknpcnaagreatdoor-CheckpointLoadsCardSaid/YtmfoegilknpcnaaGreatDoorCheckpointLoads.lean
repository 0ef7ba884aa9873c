/- List and Load return the specified results, or the specified errors, for all disks: CheckpointLoads returns true for every input. Conditions: those of the given row (the laid tables), tied by the given card. -/
import Derived.Test.YtmfoegilknpcnaaGreatDoorKn
import Derived.Test.YtmfoegilknpcnaaGreatDoorKg
set_option linter.all false
set_option maxRecDepth 100000
namespace Go.Abs
open Go Go.Proofs Go.Proofs.YtmfoegilknpcnaaGreatDoor Go.RowKit
noncomputable def args_CheckpointLoads : Array Value := #[.agg #[.slice none 0 0, .int .i64 0]]
theorem laid_CheckpointLoads (os : Os) : laidMetH Tryz.prog Rows.checkpointLoadsRow.laid ((World.laidAll Tryz.prog os Rows.checkpointLoadsRow.laid).forCall (fun _ _ => 0) ⟨#[], args_CheckpointLoads, []⟩).memory :=
  laidMet_laidAll _ (by kernel_rfl) (by kernel_rfl)
theorem reads_CheckpointLoads (os : Os) {H : Type} (enc : TypeId × Value → H) : ∃ ds places, DataW.whole enc Tryz.prog ((World.laidAll Tryz.prog os Rows.checkpointLoadsRow.laid).forCall (fun _ _ => 0) ⟨#[], args_CheckpointLoads, []⟩).memory Tryz.f3.params.toList Rows.checkpointLoadsSpec.vars false args_CheckpointLoads.toList 8 = some (ds, [], places) :=
  ⟨[.agg [.nil, .lit (.int .i64 0)]], [], by kernel_rfl⟩
theorem lawPC_CheckpointLoads (xs : List AV) (h : ArgsShp T 8 Tryz.f3.params.toList xs) : PC Tryz.prog 3 xs (fun r => r = .bool true) := by
  rw [Tryz.params3] at h
  obtain ⟨d, _, rfl, hd, h_1⟩ := argD h
  obtain rfl := argsNil h_1
  exact law_Loads d hd
theorem lifted_CheckpointLoads (os : Os) (started : os.Started) (H : Type) (enc : TypeId × Value → H) (F : Stop.Interp) :
    ReturnsInHanded {} Tryz.checked os 3 .any ((OpenSpec.ofChange Rows.checkpointLoadsSpec).preRow enc Tryz.prog Tryz.f3 Rows.checkpointLoadsRow.domain false Rows.checkpointLoadsRow.laid) (((OpenSpec.ofChange Rows.checkpointLoadsSpec).at F).post enc Tryz.prog Tryz.f3 false true false false) := by
  obtain ⟨ds, places, hx⟩ := reads_CheckpointLoads os enc
  refine returnsInHanded_of_row (C := Tryz.checked) (s := OpenSpec.ofChange Rows.checkpointLoadsSpec) own started (by kernel_rfl) Tryz.func3
    (witness_row_atRef (enc := enc) (C := Tryz.checked) false (World.laidAll Tryz.prog os Rows.checkpointLoadsRow.laid) args_CheckpointLoads (World.laidAll_os _ _ _) (by kernel_rfl) (by kernel_rfl) (by kernel_rfl)
      (OpenSpec.preRow_of_cond 8 hx (by kernel_rfl) (fun k hk => by cases hk) (by kernel_rfl) (laid_CheckpointLoads os))) ?_
  intro W base args ds gs before hval hW _ _ hwt hL hS _
  exact row_of_PC tOk laidOut (d := 8) (tb := 4) (by kernel_rfl) (by kernel_rfl) (by kernel_rfl) (by kernel_rfl) (eok_of (D := Rows.laid_strconv_ErrSyntax) (E := Rows.laid_strconv_ErrRange) hL hS (by kernel_rfl) (by kernel_rfl) (by kernel_rfl) rfl rfl) lawPC_CheckpointLoads rfl (fun ds h => by
    match ds, h with
    | [_], _ => rfl) hval hW rfl hwt
theorem jfA_CheckpointLoads : (Rows.checkpointLoadsRow.inPlace == Tryz.pinned.checked.prog.inPlace 3) = true := by kernel_rfl
theorem jfB_CheckpointLoads : (Rows.checkpointLoadsRow.unfollowed == Tryz.pinned.checked.prog.unfollowed 3) = true := by kernel_rfl
theorem jfC_CheckpointLoads : (Rows.checkpointLoadsRow.recurses == Tryz.pinned.checked.prog.recurses 3) = true := by kernel_rfl
theorem jfD_CheckpointLoads : (Rows.checkpointLoadsRow.named == Tryz.pinned.checked.prog.varsNamed 3) = true := by kernel_rfl
theorem jf_CheckpointLoads : joinedFacts Tryz.pinned.checked.prog 3 Tryz.f3 (OpenSpec.ofChange Rows.checkpointLoadsSpec).bare Rows.checkpointLoadsRow = true := by
  unfold joinedFacts
  rw [jfA_CheckpointLoads, jfB_CheckpointLoads, jfC_CheckpointLoads, jfD_CheckpointLoads]
  kernel_rfl
theorem said_CheckpointLoads : Rows.CheckpointLoadsSaid :=
  OpenClaim.holds_of_cond 3 Tryz.f3 rfl rfl rfl rfl rfl rfl rfl ⟨rfl, rfl, rfl, rfl, rfl⟩ rfl rfl rfl rfl rfl (by kernel_rfl) Tryz.func3 jf_CheckpointLoads
    (of_decide_eq_true (by kernel_rfl)) (by unfold Func.isWrapper; first | (rw [if_pos (by decide +kernel)]; kernel_rfl) | (rw [if_neg (by decide +kernel)]; exact ⟨rfl, rfl⟩))
    (fun os started H enc _ F => by rw [OpenClaim.pre_eq_preRow]; exact lifted_CheckpointLoads os started H enc F)
theorem plain_CheckpointLoads (f : FuncId) (fn : Func) (hf : Tryz.pinned.checked.prog.funcNamed "tidegate/tidegatelaw50.CheckpointLoads" = some f) (hfn : Tryz.pinned.checked.prog.funcs[f]? = some fn) :
    true = Tryz.pinned.checked.prog.looks [] ∧ ∀ (j : Nat) t, fn.params[j]? = some t → Tryz.pinned.checked.prog.wantsStandIn t = false := by
  obtain rfl : f = 3 := Option.some.inj ((show Tryz.prog.funcNamed "tidegate/tidegatelaw50.CheckpointLoads" = some 3 by kernel_rfl).symm.trans hf) |>.symm
  obtain rfl : fn = Tryz.f3 := (Option.some.inj (Tryz.func3.symm.trans hfn)).symm
  refine ⟨by kernel_rfl, fun j t ht => ?_⟩
  have hall : (Tryz.f3.params.toList.all fun t => Tryz.prog.wantsStandIn t == false) = true := by kernel_rfl
  have hm : t ∈ Tryz.f3.params.toList := by simpa using Array.mem_of_getElem? ht
  exact beq_iff_eq.1 (List.all_eq_true.1 hall t hm)
end Go.Abs
namespace Go.Proofs.YtmfoegilknpcnaaGreatDoor
open Go Go.Abs
theorem checkpointLoads_card : Rows.CheckpointLoadsCardSaid :=
  Claim7.holds_tied_plain_at .later [] _ _ _ _ said_CheckpointLoads (fun _ h => by cases h) (by kernel_rfl) (fun _ h => by cases h) checkpointLoads_row_tie rfl ⟨rfl, rfl⟩ (by kernel_rfl) rfl plain_CheckpointLoads (by kernel_rfl)
end Go.Proofs.YtmfoegilknpcnaaGreatDoor
