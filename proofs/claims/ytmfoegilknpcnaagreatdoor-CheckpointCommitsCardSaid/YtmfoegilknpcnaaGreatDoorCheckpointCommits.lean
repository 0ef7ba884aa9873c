/- Commit and Prune return the specified disks, or the specified errors, for all disks and numbers: CheckpointCommits returns true for every input. Conditions: those of the given row (the laid tables), tied by the given card. -/
import Derived.Test.YtmfoegilknpcnaaGreatDoorKg
set_option linter.all false
set_option maxRecDepth 100000
namespace Go.Abs
open Go Go.Proofs Go.Proofs.YtmfoegilknpcnaaGreatDoor Go.RowKit
noncomputable def args_CheckpointCommits : Array Value := #[.agg #[.slice none 0 0, .int .i64 0], .int .i64 0]
theorem laid_CheckpointCommits (os : Os) : laidMetH Tryz.prog Rows.checkpointCommitsRow.laid ((World.laidAll Tryz.prog os Rows.checkpointCommitsRow.laid).forCall (fun _ _ => 0) ⟨#[], args_CheckpointCommits, []⟩).memory :=
  laidMet_laidAll _ (by kernel_rfl) (by kernel_rfl)
theorem reads_CheckpointCommits (os : Os) {H : Type} (enc : TypeId × Value → H) : ∃ ds places, DataW.whole enc Tryz.prog ((World.laidAll Tryz.prog os Rows.checkpointCommitsRow.laid).forCall (fun _ _ => 0) ⟨#[], args_CheckpointCommits, []⟩).memory Tryz.f6.params.toList Rows.checkpointCommitsSpec.vars false args_CheckpointCommits.toList 8 = some (ds, [], places) :=
  ⟨[.agg [.nil, .lit (.int .i64 0)], .lit (.int .i64 0)], [], by kernel_rfl⟩
theorem lawPC_CheckpointCommits (xs : List AV) (h : ArgsShp T 8 Tryz.f6.params.toList xs) : PC Tryz.prog 6 xs (fun r => r = .bool true) := by
  rw [Tryz.params6] at h
  obtain ⟨d, _, rfl, hd, h_1⟩ := argD h
  obtain ⟨n, _, rfl, hn, h_2⟩ := argInt h_1
  obtain rfl := argsNil h_2
  exact law_Commits d n hd hn.1 hn.2
theorem lifted_CheckpointCommits (os : Os) (started : os.Started) (H : Type) (enc : TypeId × Value → H) (F : Stop.Interp) :
    ReturnsInHanded {} Tryz.checked os 6 .any ((OpenSpec.ofChange Rows.checkpointCommitsSpec).preRow enc Tryz.prog Tryz.f6 Rows.checkpointCommitsRow.domain false Rows.checkpointCommitsRow.laid) (((OpenSpec.ofChange Rows.checkpointCommitsSpec).at F).post enc Tryz.prog Tryz.f6 false true false false) := by
  obtain ⟨ds, places, hx⟩ := reads_CheckpointCommits os enc
  refine returnsInHanded_of_row (C := Tryz.checked) (s := OpenSpec.ofChange Rows.checkpointCommitsSpec) own started (by kernel_rfl) Tryz.func6
    (witness_row_atRef (enc := enc) (C := Tryz.checked) false (World.laidAll Tryz.prog os Rows.checkpointCommitsRow.laid) args_CheckpointCommits (World.laidAll_os _ _ _) (by kernel_rfl) (by kernel_rfl) (by kernel_rfl)
      (OpenSpec.preRow_of_cond 8 hx (by kernel_rfl) (fun k hk => by cases hk) (by kernel_rfl) (laid_CheckpointCommits os))) ?_
  intro W base args ds gs before hval hW _ _ hwt hL hS _
  exact row_of_PC tOk laidOut (d := 8) (tb := 4) (by kernel_rfl) (by kernel_rfl) (by kernel_rfl) (by kernel_rfl) (eok_of (D := Rows.laid_strconv_ErrSyntax) (E := Rows.laid_strconv_ErrRange) hL hS (by kernel_rfl) (by kernel_rfl) (by kernel_rfl) rfl rfl) lawPC_CheckpointCommits rfl (fun ds h => by
    match ds, h with
    | [_, _], _ => rfl) hval hW rfl hwt
theorem jfA_CheckpointCommits : (Rows.checkpointCommitsRow.inPlace == Tryz.pinned.checked.prog.inPlace 6) = true := by kernel_rfl
theorem jfB_CheckpointCommits : (Rows.checkpointCommitsRow.unfollowed == Tryz.pinned.checked.prog.unfollowed 6) = true := by kernel_rfl
theorem jfC_CheckpointCommits : (Rows.checkpointCommitsRow.recurses == Tryz.pinned.checked.prog.recurses 6) = true := by kernel_rfl
theorem jfD_CheckpointCommits : (Rows.checkpointCommitsRow.named == Tryz.pinned.checked.prog.varsNamed 6) = true := by kernel_rfl
theorem jf_CheckpointCommits : joinedFacts Tryz.pinned.checked.prog 6 Tryz.f6 (OpenSpec.ofChange Rows.checkpointCommitsSpec).bare Rows.checkpointCommitsRow = true := by
  unfold joinedFacts
  rw [jfA_CheckpointCommits, jfB_CheckpointCommits, jfC_CheckpointCommits, jfD_CheckpointCommits]
  kernel_rfl
theorem said_CheckpointCommits : Rows.CheckpointCommitsSaid :=
  OpenClaim.holds_of_cond 6 Tryz.f6 rfl rfl rfl rfl rfl rfl rfl ⟨rfl, rfl, rfl, rfl, rfl⟩ rfl rfl rfl rfl rfl (by kernel_rfl) Tryz.func6 jf_CheckpointCommits
    (of_decide_eq_true (by kernel_rfl)) (by unfold Func.isWrapper; first | (rw [if_pos (by decide +kernel)]; kernel_rfl) | (rw [if_neg (by decide +kernel)]; exact ⟨rfl, rfl⟩))
    (fun os started H enc _ F => by rw [OpenClaim.pre_eq_preRow]; exact lifted_CheckpointCommits os started H enc F)
theorem plain_CheckpointCommits (f : FuncId) (fn : Func) (hf : Tryz.pinned.checked.prog.funcNamed "tidegate/tidegatelaw50.CheckpointCommits" = some f) (hfn : Tryz.pinned.checked.prog.funcs[f]? = some fn) :
    true = Tryz.pinned.checked.prog.looks [] ∧ ∀ (j : Nat) t, fn.params[j]? = some t → Tryz.pinned.checked.prog.wantsStandIn t = false := by
  obtain rfl : f = 6 := Option.some.inj ((show Tryz.prog.funcNamed "tidegate/tidegatelaw50.CheckpointCommits" = some 6 by kernel_rfl).symm.trans hf) |>.symm
  obtain rfl : fn = Tryz.f6 := (Option.some.inj (Tryz.func6.symm.trans hfn)).symm
  refine ⟨by kernel_rfl, fun j t ht => ?_⟩
  have hall : (Tryz.f6.params.toList.all fun t => Tryz.prog.wantsStandIn t == false) = true := by kernel_rfl
  have hm : t ∈ Tryz.f6.params.toList := by simpa using Array.mem_of_getElem? ht
  exact beq_iff_eq.1 (List.all_eq_true.1 hall t hm)
end Go.Abs
namespace Go.Proofs.YtmfoegilknpcnaaGreatDoor
open Go Go.Abs
theorem checkpointCommits_card : Rows.CheckpointCommitsCardSaid :=
  Claim7.holds_tied_plain_at .later [] _ _ _ _ said_CheckpointCommits (fun _ h => by cases h) (by kernel_rfl) (fun _ h => by cases h) checkpointCommits_row_tie rfl ⟨rfl, rfl⟩ (by kernel_rfl) rfl plain_CheckpointCommits (by kernel_rfl)
end Go.Proofs.YtmfoegilknpcnaaGreatDoor
