/- Determinize and Complement return the specified automata, or the specified errors, for all automata: DeterminizeBuilds returns true for every input. Conditions: those of the given row (the laid tables), tied by the given card. -/
import Derived.Test.YteghceocnldccaaGreatDoorKg
set_option linter.all false
set_option maxRecDepth 100000
namespace Go.Abs
open Go Go.Proofs Go.Proofs.YteghceocnldccaaGreatDoor Go.RowKit
noncomputable def args_DeterminizeBuilds : Array Value := #[.agg #[.int .i64 0, .slice none 0 0, .slice none 0 0]]
theorem laid_DeterminizeBuilds (os : Os) : laidMetH Tryz.prog Rows.determinizeBuildsRow.laid ((World.laidAll Tryz.prog os Rows.determinizeBuildsRow.laid).forCall (fun _ _ => 0) ⟨#[], args_DeterminizeBuilds, []⟩).memory :=
  laidMet_laidAll _ (by kernel_rfl) (by kernel_rfl)
theorem reads_DeterminizeBuilds (os : Os) {H : Type} (enc : TypeId × Value → H) : ∃ ds places, DataW.whole enc Tryz.prog ((World.laidAll Tryz.prog os Rows.determinizeBuildsRow.laid).forCall (fun _ _ => 0) ⟨#[], args_DeterminizeBuilds, []⟩).memory Tryz.f4.params.toList Rows.determinizeBuildsSpec.vars false args_DeterminizeBuilds.toList 16 = some (ds, [], places) :=
  ⟨[.agg [.lit (.int .i64 0), .nil, .nil]], [], by kernel_rfl⟩
theorem lawPC_DeterminizeBuilds (xs : List AV) (h : ArgsShp T 16 Tryz.f4.params.toList xs) : PC Tryz.prog 4 xs (fun r => r = .bool true) := by
  rw [Tryz.params4] at h
  obtain ⟨a, _, rfl, h_1⟩ := argAut h
  obtain rfl := argsNil h_1
  exact law_Builds a
theorem lifted_DeterminizeBuilds (os : Os) (started : os.Started) (H : Type) (enc : TypeId × Value → H) (F : Stop.Interp) :
    ReturnsInHanded {} Tryz.checked os 4 .any ((OpenSpec.ofChange Rows.determinizeBuildsSpec).preRow enc Tryz.prog Tryz.f4 Rows.determinizeBuildsRow.domain false Rows.determinizeBuildsRow.laid) (((OpenSpec.ofChange Rows.determinizeBuildsSpec).at F).post enc Tryz.prog Tryz.f4 false true false false) := by
  obtain ⟨ds, places, hx⟩ := reads_DeterminizeBuilds os enc
  refine returnsInHanded_of_row (C := Tryz.checked) (s := OpenSpec.ofChange Rows.determinizeBuildsSpec) own started (by kernel_rfl) Tryz.func4
    (witness_row_atRef (enc := enc) (C := Tryz.checked) false (World.laidAll Tryz.prog os Rows.determinizeBuildsRow.laid) args_DeterminizeBuilds (World.laidAll_os _ _ _) (by kernel_rfl) (by kernel_rfl) (by kernel_rfl)
      (OpenSpec.preRow_of_cond 16 hx (by kernel_rfl) (fun k hk => by cases hk) (by kernel_rfl) (laid_DeterminizeBuilds os))) ?_
  intro W base args ds gs before hval hW _ _ hwt hL hS _
  exact row_of_PC tOk laidOut (d := 16) (tb := 4) (by kernel_rfl) (by kernel_rfl) (by kernel_rfl) (by kernel_rfl) (eok_of hL (by kernel_rfl)) lawPC_DeterminizeBuilds rfl (fun ds h => by
    match ds, h with
    | [_], _ => rfl) hval hW rfl hwt
theorem jfA_DeterminizeBuilds : (Rows.determinizeBuildsRow.inPlace == Tryz.pinned.checked.prog.inPlace 4) = true := by kernel_rfl
theorem jfB_DeterminizeBuilds : (Rows.determinizeBuildsRow.unfollowed == Tryz.pinned.checked.prog.unfollowed 4) = true := by kernel_rfl
theorem jfC_DeterminizeBuilds : (Rows.determinizeBuildsRow.recurses == Tryz.pinned.checked.prog.recurses 4) = true := by kernel_rfl
theorem jfD_DeterminizeBuilds : (Rows.determinizeBuildsRow.named == Tryz.pinned.checked.prog.varsNamed 4) = true := by kernel_rfl
theorem jf_DeterminizeBuilds : joinedFacts Tryz.pinned.checked.prog 4 Tryz.f4 (OpenSpec.ofChange Rows.determinizeBuildsSpec).bare Rows.determinizeBuildsRow = true := by
  unfold joinedFacts
  rw [jfA_DeterminizeBuilds, jfB_DeterminizeBuilds, jfC_DeterminizeBuilds, jfD_DeterminizeBuilds]
  kernel_rfl
theorem said_DeterminizeBuilds : Rows.DeterminizeBuildsSaid :=
  OpenClaim.holds_of_cond 4 Tryz.f4 rfl rfl rfl rfl rfl rfl rfl ⟨rfl, rfl, rfl, rfl, rfl⟩ rfl rfl rfl rfl rfl (by kernel_rfl) Tryz.func4 jf_DeterminizeBuilds
    (of_decide_eq_true (by kernel_rfl)) (by unfold Func.isWrapper; first | (rw [if_pos (by decide +kernel)]; kernel_rfl) | (rw [if_neg (by decide +kernel)]; exact ⟨rfl, rfl⟩))
    (fun os started H enc _ F => by rw [OpenClaim.pre_eq_preRow]; exact lifted_DeterminizeBuilds os started H enc F)
theorem plain_DeterminizeBuilds (f : FuncId) (fn : Func) (hf : Tryz.pinned.checked.prog.funcNamed "tidegate/tidegatelaw29.DeterminizeBuilds" = some f) (hfn : Tryz.pinned.checked.prog.funcs[f]? = some fn) :
    false = Tryz.pinned.checked.prog.looks [] ∧ ∀ (j : Nat) t, fn.params[j]? = some t → Tryz.pinned.checked.prog.wantsStandIn t = false := by
  obtain rfl : f = 4 := Option.some.inj ((show Tryz.prog.funcNamed "tidegate/tidegatelaw29.DeterminizeBuilds" = some 4 by kernel_rfl).symm.trans hf) |>.symm
  obtain rfl : fn = Tryz.f4 := (Option.some.inj (Tryz.func4.symm.trans hfn)).symm
  refine ⟨by kernel_rfl, fun j t ht => ?_⟩
  have hall : (Tryz.f4.params.toList.all fun t => Tryz.prog.wantsStandIn t == false) = true := by kernel_rfl
  have hm : t ∈ Tryz.f4.params.toList := by simpa using Array.mem_of_getElem? ht
  exact beq_iff_eq.1 (List.all_eq_true.1 hall t hm)
end Go.Abs
namespace Go.Proofs.YteghceocnldccaaGreatDoor
open Go Go.Abs
theorem determinizeBuilds_card : Rows.DeterminizeBuildsCardSaid :=
  Claim7.holds_tied_plain_at .later [] _ _ _ _ said_DeterminizeBuilds (fun _ h => by cases h) (by kernel_rfl) (fun _ h => by cases h) determinizeBuilds_row_tie rfl ⟨rfl, rfl⟩ (by kernel_rfl) rfl plain_DeterminizeBuilds (by kernel_rfl)
end Go.Proofs.YteghceocnldccaaGreatDoor
