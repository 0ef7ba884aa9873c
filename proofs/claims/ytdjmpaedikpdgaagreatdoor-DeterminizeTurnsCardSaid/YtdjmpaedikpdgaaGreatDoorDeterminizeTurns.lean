/- The complement accepts exactly the other words, and the complement of the complement the same words; it is deterministic: DeterminizeTurns returns true for every input. Conditions: those of the given row (the laid tables), tied by the given card. -/
import Derived.Test.YtdjmpaedikpdgaaGreatDoorKg
set_option linter.all false
set_option maxRecDepth 100000
namespace Go.Abs
open Go Go.Proofs Go.Proofs.YtdjmpaedikpdgaaGreatDoor Go.RowKit
noncomputable def args_DeterminizeTurns : Array Value := #[.agg #[.int .i64 0, .slice none 0 0, .slice none 0 0], .slice none 0 0]
theorem laid_DeterminizeTurns (os : Os) : laidMetH Tryz.prog Rows.determinizeTurnsRow.laid ((World.laidAll Tryz.prog os Rows.determinizeTurnsRow.laid).forCall (fun _ _ => 0) ⟨#[], args_DeterminizeTurns, []⟩).memory :=
  laidMet_laidAll _ (by kernel_rfl) (by kernel_rfl)
theorem reads_DeterminizeTurns (os : Os) {H : Type} (enc : TypeId × Value → H) : ∃ ds places, DataW.whole enc Tryz.prog ((World.laidAll Tryz.prog os Rows.determinizeTurnsRow.laid).forCall (fun _ _ => 0) ⟨#[], args_DeterminizeTurns, []⟩).memory Tryz.f6.params.toList Rows.determinizeTurnsSpec.vars false args_DeterminizeTurns.toList 16 = some (ds, [], places) :=
  ⟨[.agg [.lit (.int .i64 0), .nil, .nil], .nil], [], by kernel_rfl⟩
theorem lawPC_DeterminizeTurns (xs : List AV) (h : ArgsShp T 16 Tryz.f6.params.toList xs) : PC Tryz.prog 6 xs (fun r => r = .bool true) := by
  rw [Tryz.params6] at h
  obtain ⟨a, _, rfl, h_1⟩ := argAut h
  obtain ⟨w, _, rfl, h_2⟩ := argLSy h_1
  obtain rfl := argsNil h_2
  exact law_Turns a w
theorem lifted_DeterminizeTurns (os : Os) (started : os.Started) (H : Type) (enc : TypeId × Value → H) (F : Stop.Interp) :
    ReturnsInHanded {} Tryz.checked os 6 .any ((OpenSpec.ofChange Rows.determinizeTurnsSpec).preRow enc Tryz.prog Tryz.f6 Rows.determinizeTurnsRow.domain false Rows.determinizeTurnsRow.laid) (((OpenSpec.ofChange Rows.determinizeTurnsSpec).at F).post enc Tryz.prog Tryz.f6 false true false false) := by
  obtain ⟨ds, places, hx⟩ := reads_DeterminizeTurns os enc
  refine returnsInHanded_of_row (C := Tryz.checked) (s := OpenSpec.ofChange Rows.determinizeTurnsSpec) own started (by kernel_rfl) Tryz.func6
    (witness_row_atRef (enc := enc) (C := Tryz.checked) false (World.laidAll Tryz.prog os Rows.determinizeTurnsRow.laid) args_DeterminizeTurns (World.laidAll_os _ _ _) (by kernel_rfl) (by kernel_rfl) (by kernel_rfl)
      (OpenSpec.preRow_of_cond 16 hx (by kernel_rfl) (fun k hk => by cases hk) (by kernel_rfl) (laid_DeterminizeTurns os))) ?_
  intro W base args ds gs before hval hW _ _ hwt hL hS _
  exact row_of_PC tOk laidOut (d := 16) (tb := 4) (by kernel_rfl) (by kernel_rfl) (by kernel_rfl) (by kernel_rfl) (eok_of hL (by kernel_rfl)) lawPC_DeterminizeTurns rfl (fun ds h => by
    match ds, h with
    | [_, _], _ => rfl) hval hW rfl hwt
theorem jfA_DeterminizeTurns : (Rows.determinizeTurnsRow.inPlace == Tryz.pinned.checked.prog.inPlace 6) = true := by kernel_rfl
theorem jfB_DeterminizeTurns : (Rows.determinizeTurnsRow.unfollowed == Tryz.pinned.checked.prog.unfollowed 6) = true := by kernel_rfl
theorem jfC_DeterminizeTurns : (Rows.determinizeTurnsRow.recurses == Tryz.pinned.checked.prog.recurses 6) = true := by kernel_rfl
theorem jfD_DeterminizeTurns : (Rows.determinizeTurnsRow.named == Tryz.pinned.checked.prog.varsNamed 6) = true := by kernel_rfl
theorem jf_DeterminizeTurns : joinedFacts Tryz.pinned.checked.prog 6 Tryz.f6 (OpenSpec.ofChange Rows.determinizeTurnsSpec).bare Rows.determinizeTurnsRow = true := by
  unfold joinedFacts
  rw [jfA_DeterminizeTurns, jfB_DeterminizeTurns, jfC_DeterminizeTurns, jfD_DeterminizeTurns]
  kernel_rfl
theorem said_DeterminizeTurns : Rows.DeterminizeTurnsSaid :=
  OpenClaim.holds_of_cond 6 Tryz.f6 rfl rfl rfl rfl rfl rfl rfl ⟨rfl, rfl, rfl, rfl, rfl⟩ rfl rfl rfl rfl rfl (by kernel_rfl) Tryz.func6 jf_DeterminizeTurns
    (of_decide_eq_true (by kernel_rfl)) (by unfold Func.isWrapper; first | (rw [if_pos (by decide +kernel)]; kernel_rfl) | (rw [if_neg (by decide +kernel)]; exact ⟨rfl, rfl⟩))
    (fun os started H enc _ F => by rw [OpenClaim.pre_eq_preRow]; exact lifted_DeterminizeTurns os started H enc F)
theorem plain_DeterminizeTurns (f : FuncId) (fn : Func) (hf : Tryz.pinned.checked.prog.funcNamed "tidegate/tidegatelaw29.DeterminizeTurns" = some f) (hfn : Tryz.pinned.checked.prog.funcs[f]? = some fn) :
    false = Tryz.pinned.checked.prog.looks [] ∧ ∀ (j : Nat) t, fn.params[j]? = some t → Tryz.pinned.checked.prog.wantsStandIn t = false := by
  obtain rfl : f = 6 := Option.some.inj ((show Tryz.prog.funcNamed "tidegate/tidegatelaw29.DeterminizeTurns" = some 6 by kernel_rfl).symm.trans hf) |>.symm
  obtain rfl : fn = Tryz.f6 := (Option.some.inj (Tryz.func6.symm.trans hfn)).symm
  refine ⟨by kernel_rfl, fun j t ht => ?_⟩
  have hall : (Tryz.f6.params.toList.all fun t => Tryz.prog.wantsStandIn t == false) = true := by kernel_rfl
  have hm : t ∈ Tryz.f6.params.toList := by simpa using Array.mem_of_getElem? ht
  exact beq_iff_eq.1 (List.all_eq_true.1 hall t hm)
end Go.Abs
namespace Go.Proofs.YtdjmpaedikpdgaaGreatDoor
open Go Go.Abs
theorem determinizeTurns_card : Rows.DeterminizeTurnsCardSaid :=
  Claim7.holds_tied_plain_at .later [] _ _ _ _ said_DeterminizeTurns (fun _ h => by cases h) (by kernel_rfl) (fun _ h => by cases h) determinizeTurns_row_tie rfl ⟨rfl, rfl⟩ (by kernel_rfl) rfl plain_DeterminizeTurns (by kernel_rfl)
end Go.Proofs.YtdjmpaedikpdgaaGreatDoor
