/- The state that a word reaches in the deterministic automaton stands for the set of states that it reaches in the automaton: DeterminizeFollows returns true for every input. Conditions: those of the given row (the laid tables), tied by the given card. -/
import Derived.Test.YtdjmpaedikpdgaaGreatDoorKg
set_option linter.all false
set_option maxRecDepth 100000
namespace Go.Abs
open Go Go.Proofs Go.Proofs.YtdjmpaedikpdgaaGreatDoor Go.RowKit
noncomputable def args_DeterminizeFollows : Array Value := #[.agg #[.int .i64 0, .slice none 0 0, .slice none 0 0], .slice none 0 0]
theorem laid_DeterminizeFollows (os : Os) : laidMetH Tryz.prog Rows.determinizeFollowsRow.laid ((World.laidAll Tryz.prog os Rows.determinizeFollowsRow.laid).forCall (fun _ _ => 0) ⟨#[], args_DeterminizeFollows, []⟩).memory :=
  laidMet_laidAll _ (by kernel_rfl) (by kernel_rfl)
theorem reads_DeterminizeFollows (os : Os) {H : Type} (enc : TypeId × Value → H) : ∃ ds places, DataW.whole enc Tryz.prog ((World.laidAll Tryz.prog os Rows.determinizeFollowsRow.laid).forCall (fun _ _ => 0) ⟨#[], args_DeterminizeFollows, []⟩).memory Tryz.f9.params.toList Rows.determinizeFollowsSpec.vars false args_DeterminizeFollows.toList 16 = some (ds, [], places) :=
  ⟨[.agg [.lit (.int .i64 0), .nil, .nil], .nil], [], by kernel_rfl⟩
theorem lawPC_DeterminizeFollows (xs : List AV) (h : ArgsShp T 16 Tryz.f9.params.toList xs) : PC Tryz.prog 9 xs (fun r => r = .bool true) := by
  rw [Tryz.params9] at h
  obtain ⟨a, _, rfl, h_1⟩ := argAut h
  obtain ⟨w, _, rfl, h_2⟩ := argLSy h_1
  obtain rfl := argsNil h_2
  exact law_Follows a w
theorem lifted_DeterminizeFollows (os : Os) (started : os.Started) (H : Type) (enc : TypeId × Value → H) (F : Stop.Interp) :
    ReturnsInHanded {} Tryz.checked os 9 .any ((OpenSpec.ofChange Rows.determinizeFollowsSpec).preRow enc Tryz.prog Tryz.f9 Rows.determinizeFollowsRow.domain false Rows.determinizeFollowsRow.laid) (((OpenSpec.ofChange Rows.determinizeFollowsSpec).at F).post enc Tryz.prog Tryz.f9 false true false false) := by
  obtain ⟨ds, places, hx⟩ := reads_DeterminizeFollows os enc
  refine returnsInHanded_of_row (C := Tryz.checked) (s := OpenSpec.ofChange Rows.determinizeFollowsSpec) own started (by kernel_rfl) Tryz.func9
    (witness_row_atRef (enc := enc) (C := Tryz.checked) false (World.laidAll Tryz.prog os Rows.determinizeFollowsRow.laid) args_DeterminizeFollows (World.laidAll_os _ _ _) (by kernel_rfl) (by kernel_rfl) (by kernel_rfl)
      (OpenSpec.preRow_of_cond 16 hx (by kernel_rfl) (fun k hk => by cases hk) (by kernel_rfl) (laid_DeterminizeFollows os))) ?_
  intro W base args ds gs before hval hW _ _ hwt hL hS _
  exact row_of_PC tOk laidOut (d := 16) (tb := 4) (by kernel_rfl) (by kernel_rfl) (by kernel_rfl) (by kernel_rfl) (eok_of hL (by kernel_rfl)) lawPC_DeterminizeFollows rfl (fun ds h => by
    match ds, h with
    | [_, _], _ => rfl) hval hW rfl hwt
theorem jfA_DeterminizeFollows : (Rows.determinizeFollowsRow.inPlace == Tryz.pinned.checked.prog.inPlace 9) = true := by kernel_rfl
theorem jfB_DeterminizeFollows : (Rows.determinizeFollowsRow.unfollowed == Tryz.pinned.checked.prog.unfollowed 9) = true := by kernel_rfl
theorem jfC_DeterminizeFollows : (Rows.determinizeFollowsRow.recurses == Tryz.pinned.checked.prog.recurses 9) = true := by kernel_rfl
theorem jfD_DeterminizeFollows : (Rows.determinizeFollowsRow.named == Tryz.pinned.checked.prog.varsNamed 9) = true := by kernel_rfl
theorem jf_DeterminizeFollows : joinedFacts Tryz.pinned.checked.prog 9 Tryz.f9 (OpenSpec.ofChange Rows.determinizeFollowsSpec).bare Rows.determinizeFollowsRow = true := by
  unfold joinedFacts
  rw [jfA_DeterminizeFollows, jfB_DeterminizeFollows, jfC_DeterminizeFollows, jfD_DeterminizeFollows]
  kernel_rfl
theorem said_DeterminizeFollows : Rows.DeterminizeFollowsSaid :=
  OpenClaim.holds_of_cond 9 Tryz.f9 rfl rfl rfl rfl rfl rfl rfl ⟨rfl, rfl, rfl, rfl, rfl⟩ rfl rfl rfl rfl rfl (by kernel_rfl) Tryz.func9 jf_DeterminizeFollows
    (of_decide_eq_true (by kernel_rfl)) (by unfold Func.isWrapper; first | (rw [if_pos (by decide +kernel)]; kernel_rfl) | (rw [if_neg (by decide +kernel)]; exact ⟨rfl, rfl⟩))
    (fun os started H enc _ F => by rw [OpenClaim.pre_eq_preRow]; exact lifted_DeterminizeFollows os started H enc F)
theorem plain_DeterminizeFollows (f : FuncId) (fn : Func) (hf : Tryz.pinned.checked.prog.funcNamed "tidegate/tidegatelaw29.DeterminizeFollows" = some f) (hfn : Tryz.pinned.checked.prog.funcs[f]? = some fn) :
    false = Tryz.pinned.checked.prog.looks [] ∧ ∀ (j : Nat) t, fn.params[j]? = some t → Tryz.pinned.checked.prog.wantsStandIn t = false := by
  obtain rfl : f = 9 := Option.some.inj ((show Tryz.prog.funcNamed "tidegate/tidegatelaw29.DeterminizeFollows" = some 9 by kernel_rfl).symm.trans hf) |>.symm
  obtain rfl : fn = Tryz.f9 := (Option.some.inj (Tryz.func9.symm.trans hfn)).symm
  refine ⟨by kernel_rfl, fun j t ht => ?_⟩
  have hall : (Tryz.f9.params.toList.all fun t => Tryz.prog.wantsStandIn t == false) = true := by kernel_rfl
  have hm : t ∈ Tryz.f9.params.toList := by simpa using Array.mem_of_getElem? ht
  exact beq_iff_eq.1 (List.all_eq_true.1 hall t hm)
end Go.Abs
namespace Go.Proofs.YtdjmpaedikpdgaaGreatDoor
open Go Go.Abs
theorem determinizeFollows_card : Rows.DeterminizeFollowsCardSaid :=
  Claim7.holds_tied_plain_at .later [] _ _ _ _ said_DeterminizeFollows (fun _ h => by cases h) (by kernel_rfl) (fun _ h => by cases h) determinizeFollows_row_tie rfl ⟨rfl, rfl⟩ (by kernel_rfl) rfl plain_DeterminizeFollows (by kernel_rfl)
end Go.Proofs.YtdjmpaedikpdgaaGreatDoor
