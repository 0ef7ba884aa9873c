/- Parse and Format of the program answer as the reference does, whatever the text and the value: ValueTexts returns true for every input. Conditions: those of the given row (the laid tables), tied by the given card. -/
import Derived.Test.YtbhafingccfjgaaGreatDoorKd
set_option linter.all false
set_option maxRecDepth 100000
namespace Go.Abs
open Go Go.Proofs Go.Proofs.YtbhafingccfjgaaGreatDoor Go.RowKit
noncomputable def args_ValueTexts : Array Value := #[.string ⟨#[]⟩, .agg #[.int .i64 0, .int .i64 0, .string ⟨#[]⟩]]
theorem laid_ValueTexts (os : Os) : laidMetH Tryz.prog Rows.valueTextsRow.laid ((World.laidAll Tryz.prog os Rows.valueTextsRow.laid).forCall (fun _ _ => 0) ⟨#[], args_ValueTexts, []⟩).memory :=
  laidMet_laidAll _ (by kernel_rfl) (by kernel_rfl)
theorem reads_ValueTexts (os : Os) {H : Type} (enc : TypeId × Value → H) : ∃ ds places, DataW.whole enc Tryz.prog ((World.laidAll Tryz.prog os Rows.valueTextsRow.laid).forCall (fun _ _ => 0) ⟨#[], args_ValueTexts, []⟩).memory Tryz.f3.params.toList Rows.valueTextsSpec.vars false args_ValueTexts.toList 8 = some (ds, [], places) :=
  ⟨[.lit (.string []), .agg [.lit (.int .i64 0), .lit (.int .i64 0), .lit (.string [])]], [], by kernel_rfl⟩
theorem lawPC_ValueTexts (xs : List AV) (h : ArgsShp T 8 Tryz.f3.params.toList xs) : PC Tryz.prog 3 xs (fun r => r = .bool true) := by
  rw [Tryz.params3] at h
  obtain ⟨s, _, rfl, hs, h_1⟩ := argStr h
  obtain ⟨v, _, rfl, hv, h_2⟩ := argV h_1
  obtain rfl := argsNil h_2
  exact law_Texts s v
theorem lifted_ValueTexts (os : Os) (started : os.Started) (H : Type) (enc : TypeId × Value → H) (F : Stop.Interp) :
    ReturnsInHanded {} Tryz.checked os 3 .any ((OpenSpec.ofChange Rows.valueTextsSpec).preRow enc Tryz.prog Tryz.f3 Rows.valueTextsRow.domain false Rows.valueTextsRow.laid) (((OpenSpec.ofChange Rows.valueTextsSpec).at F).post enc Tryz.prog Tryz.f3 false true false false) := by
  obtain ⟨ds, places, hx⟩ := reads_ValueTexts os enc
  refine returnsInHanded_of_row (C := Tryz.checked) (s := OpenSpec.ofChange Rows.valueTextsSpec) own started (by kernel_rfl) Tryz.func3
    (witness_row_atRef (enc := enc) (C := Tryz.checked) false (World.laidAll Tryz.prog os Rows.valueTextsRow.laid) args_ValueTexts (World.laidAll_os _ _ _) (by kernel_rfl) (by kernel_rfl) (by kernel_rfl)
      (OpenSpec.preRow_of_cond 8 hx (by kernel_rfl) (fun k hk => by cases hk) (by kernel_rfl) (laid_ValueTexts os))) ?_
  intro W base args ds gs before hval hW _ _ hwt hL _ _
  exact row_of_PC tOk laidOut (d := 8) (tb := 4) (by kernel_rfl) (by kernel_rfl) (by kernel_rfl) (by kernel_rfl) (eok_of hL (by kernel_rfl)) lawPC_ValueTexts rfl (fun ds h => by
    match ds, h with
    | [_, _], _ => rfl) hval hW rfl hwt
theorem said_ValueTexts : Rows.ValueTextsSaid :=
  OpenClaim.holds_of_cond 3 Tryz.f3 rfl rfl rfl rfl rfl rfl rfl ⟨rfl, rfl, rfl, rfl, rfl⟩ rfl rfl rfl rfl rfl (by kernel_rfl) Tryz.func3 (by kernel_rfl)
    (of_decide_eq_true (by kernel_rfl)) (by unfold Func.isWrapper; first | (rw [if_pos (by decide +kernel)]; kernel_rfl) | (rw [if_neg (by decide +kernel)]; exact ⟨rfl, rfl⟩))
    (fun os started H enc _ F => by rw [OpenClaim.pre_eq_preRow]; exact lifted_ValueTexts os started H enc F)
theorem plain_ValueTexts (f : FuncId) (fn : Func) (hf : Tryz.pinned.checked.prog.funcNamed "tidegate/tidegatelaw01.ValueTexts" = some f) (hfn : Tryz.pinned.checked.prog.funcs[f]? = some fn) :
    true = Tryz.pinned.checked.prog.looks [] ∧ ∀ (j : Nat) t, fn.params[j]? = some t → Tryz.pinned.checked.prog.wantsStandIn t = false := by
  obtain rfl : f = 3 := Option.some.inj ((show Tryz.prog.funcNamed "tidegate/tidegatelaw01.ValueTexts" = some 3 by kernel_rfl).symm.trans hf) |>.symm
  obtain rfl : fn = Tryz.f3 := (Option.some.inj (Tryz.func3.symm.trans hfn)).symm
  refine ⟨by kernel_rfl, fun j t ht => ?_⟩
  have hall : (Tryz.f3.params.toList.all fun t => Tryz.prog.wantsStandIn t == false) = true := by kernel_rfl
  have hm : t ∈ Tryz.f3.params.toList := by simpa using Array.mem_of_getElem? ht
  exact beq_iff_eq.1 (List.all_eq_true.1 hall t hm)
end Go.Abs
namespace Go.Proofs.YtbhafingccfjgaaGreatDoor
open Go Go.Abs
theorem valueTexts_card : Rows.ValueTextsCardSaid :=
  Claim7.holds_tied_plain_at .later [] _ _ _ _ said_ValueTexts (fun _ h => by cases h) (by kernel_rfl) (fun _ h => by cases h) valueTexts_row_tie rfl ⟨rfl, rfl⟩ (by kernel_rfl) rfl plain_ValueTexts (by kernel_rfl)
end Go.Proofs.YtbhafingccfjgaaGreatDoor
