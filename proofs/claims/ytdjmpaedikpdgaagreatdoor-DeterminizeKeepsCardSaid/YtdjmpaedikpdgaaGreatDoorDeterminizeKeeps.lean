/- The deterministic automaton is deterministic and accepts a word exactly if the automaton does; so does the completed one, which has a move for every symbol: DeterminizeKeeps returns true for every input. Conditions: those of the given row (the laid tables), tied by the given card. -/
import Derived.Test.YtdjmpaedikpdgaaGreatDoorKg
set_option linter.all false
set_option maxRecDepth 100000
namespace Go.Abs
open Go Go.Proofs Go.Proofs.YtdjmpaedikpdgaaGreatDoor Go.RowKit
noncomputable def args_DeterminizeKeeps : Array Value := #[.agg #[.int .i64 0, .slice none 0 0, .slice none 0 0], .slice none 0 0]
theorem laid_DeterminizeKeeps (os : Os) : laidMetH Tryz.prog Rows.determinizeKeepsRow.laid ((World.laidAll Tryz.prog os Rows.determinizeKeepsRow.laid).forCall (fun _ _ => 0) ⟨#[], args_DeterminizeKeeps, []⟩).memory :=
  laidMet_laidAll _ (by kernel_rfl) (by kernel_rfl)
theorem reads_DeterminizeKeeps (os : Os) {H : Type} (enc : TypeId × Value → H) : ∃ ds places, DataW.whole enc Tryz.prog ((World.laidAll Tryz.prog os Rows.determinizeKeepsRow.laid).forCall (fun _ _ => 0) ⟨#[], args_DeterminizeKeeps, []⟩).memory Tryz.f7.params.toList Rows.determinizeKeepsSpec.vars false args_DeterminizeKeeps.toList 16 = some (ds, [], places) :=
  ⟨[.agg [.lit (.int .i64 0), .nil, .nil], .nil], [], by kernel_rfl⟩
theorem lawPC_DeterminizeKeeps (xs : List AV) (h : ArgsShp T 16 Tryz.f7.params.toList xs) : PC Tryz.prog 7 xs (fun r => r = .bool true) := by
  rw [Tryz.params7] at h
  obtain ⟨a, _, rfl, h_1⟩ := argAut h
  obtain ⟨w, _, rfl, h_2⟩ := argLSy h_1
  obtain rfl := argsNil h_2
  exact law_Keeps a w
theorem lifted_DeterminizeKeeps (os : Os) (started : os.Started) (H : Type) (enc : TypeId × Value → H) (F : Stop.Interp) :
    ReturnsInHanded {} Tryz.checked os 7 .any ((OpenSpec.ofChange Rows.determinizeKeepsSpec).preRow enc Tryz.prog Tryz.f7 Rows.determinizeKeepsRow.domain false Rows.determinizeKeepsRow.laid) (((OpenSpec.ofChange Rows.determinizeKeepsSpec).at F).post enc Tryz.prog Tryz.f7 false true false false) := by
  obtain ⟨ds, places, hx⟩ := reads_DeterminizeKeeps os enc
  refine returnsInHanded_of_row (C := Tryz.checked) (s := OpenSpec.ofChange Rows.determinizeKeepsSpec) own started (by kernel_rfl) Tryz.func7
    (witness_row_atRef (enc := enc) (C := Tryz.checked) false (World.laidAll Tryz.prog os Rows.determinizeKeepsRow.laid) args_DeterminizeKeeps (World.laidAll_os _ _ _) (by kernel_rfl) (by kernel_rfl) (by kernel_rfl)
      (OpenSpec.preRow_of_cond 16 hx (by kernel_rfl) (fun k hk => by cases hk) (by kernel_rfl) (laid_DeterminizeKeeps os))) ?_
  intro W base args ds gs before hval hW _ _ hwt hL hS _
  exact row_of_PC tOk laidOut (d := 16) (tb := 4) (by kernel_rfl) (by kernel_rfl) (by kernel_rfl) (by kernel_rfl) (eok_of hL (by kernel_rfl)) lawPC_DeterminizeKeeps rfl (fun ds h => by
    match ds, h with
    | [_, _], _ => rfl) hval hW rfl hwt
theorem jfA_DeterminizeKeeps : (Rows.determinizeKeepsRow.inPlace == Tryz.pinned.checked.prog.inPlace 7) = true := by kernel_rfl
theorem jfB_DeterminizeKeeps : (Rows.determinizeKeepsRow.unfollowed == Tryz.pinned.checked.prog.unfollowed 7) = true := by kernel_rfl
theorem jfC_DeterminizeKeeps : (Rows.determinizeKeepsRow.recurses == Tryz.pinned.checked.prog.recurses 7) = true := by kernel_rfl
theorem jfD_DeterminizeKeeps : (Rows.determinizeKeepsRow.named == Tryz.pinned.checked.prog.varsNamed 7) = true := by kernel_rfl
theorem jf_DeterminizeKeeps : joinedFacts Tryz.pinned.checked.prog 7 Tryz.f7 (OpenSpec.ofChange Rows.determinizeKeepsSpec).bare Rows.determinizeKeepsRow = true := by
  unfold joinedFacts
  rw [jfA_DeterminizeKeeps, jfB_DeterminizeKeeps, jfC_DeterminizeKeeps, jfD_DeterminizeKeeps]
  kernel_rfl
theorem said_DeterminizeKeeps : Rows.DeterminizeKeepsSaid :=
  OpenClaim.holds_of_cond 7 Tryz.f7 rfl rfl rfl rfl rfl rfl rfl ⟨rfl, rfl, rfl, rfl, rfl⟩ rfl rfl rfl rfl rfl (by kernel_rfl) Tryz.func7 jf_DeterminizeKeeps
    (of_decide_eq_true (by kernel_rfl)) (by unfold Func.isWrapper; first | (rw [if_pos (by decide +kernel)]; kernel_rfl) | (rw [if_neg (by decide +kernel)]; exact ⟨rfl, rfl⟩))
    (fun os started H enc _ F => by rw [OpenClaim.pre_eq_preRow]; exact lifted_DeterminizeKeeps os started H enc F)
theorem plain_DeterminizeKeeps (f : FuncId) (fn : Func) (hf : Tryz.pinned.checked.prog.funcNamed "tidegate/tidegatelaw29.DeterminizeKeeps" = some f) (hfn : Tryz.pinned.checked.prog.funcs[f]? = some fn) :
    false = Tryz.pinned.checked.prog.looks [] ∧ ∀ (j : Nat) t, fn.params[j]? = some t → Tryz.pinned.checked.prog.wantsStandIn t = false := by
  obtain rfl : f = 7 := Option.some.inj ((show Tryz.prog.funcNamed "tidegate/tidegatelaw29.DeterminizeKeeps" = some 7 by kernel_rfl).symm.trans hf) |>.symm
  obtain rfl : fn = Tryz.f7 := (Option.some.inj (Tryz.func7.symm.trans hfn)).symm
  refine ⟨by kernel_rfl, fun j t ht => ?_⟩
  have hall : (Tryz.f7.params.toList.all fun t => Tryz.prog.wantsStandIn t == false) = true := by kernel_rfl
  have hm : t ∈ Tryz.f7.params.toList := by simpa using Array.mem_of_getElem? ht
  exact beq_iff_eq.1 (List.all_eq_true.1 hall t hm)
end Go.Abs
namespace Go.Proofs.YtdjmpaedikpdgaaGreatDoor
open Go Go.Abs
theorem determinizeKeeps_card : Rows.DeterminizeKeepsCardSaid :=
  Claim7.holds_tied_plain_at .later [] _ _ _ _ said_DeterminizeKeeps (fun _ h => by cases h) (by kernel_rfl) (fun _ h => by cases h) determinizeKeeps_row_tie rfl ⟨rfl, rfl⟩ (by kernel_rfl) rfl plain_DeterminizeKeeps (by kernel_rfl)
end Go.Proofs.YtdjmpaedikpdgaaGreatDoor
