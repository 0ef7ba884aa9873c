/- A string whose bytes are all escaped is parsed as the string, and two strings behind each other are no text: ValueEscapes returns true for every input. Conditions: those of the given row (the laid tables), tied by the given card. -/
import Derived.Test.YtbhafingccfjgaaDoorKd
set_option linter.all false
set_option maxRecDepth 100000
namespace Go.Abs
open Go Go.Proofs Go.Proofs.YtbhafingccfjgaaDoor Go.RowKit
noncomputable def args_ValueEscapes : Array Value := #[.string ⟨#[]⟩]
theorem laid_ValueEscapes (os : Os) : laidMetH Tryd.prog Rows.valueEscapesRow.laid ((World.laidAll Tryd.prog os Rows.valueEscapesRow.laid).forCall (fun _ _ => 0) ⟨#[], args_ValueEscapes, []⟩).memory :=
  laidMet_laidAll _ (by kernel_rfl) (by kernel_rfl)
theorem reads_ValueEscapes (os : Os) {H : Type} (enc : TypeId × Value → H) : ∃ ds places, DataW.whole enc Tryd.prog ((World.laidAll Tryd.prog os Rows.valueEscapesRow.laid).forCall (fun _ _ => 0) ⟨#[], args_ValueEscapes, []⟩).memory Tryd.f7.params.toList Rows.valueEscapesSpec.vars false args_ValueEscapes.toList 8 = some (ds, [], places) :=
  ⟨[.lit (.string [])], [], by kernel_rfl⟩
theorem lawPC_ValueEscapes (xs : List AV) (h : ArgsShp T 8 Tryd.f7.params.toList xs) : PC Tryd.prog 7 xs (fun r => r = .bool true) := by
  rw [Tryd.params7] at h
  obtain ⟨s, _, rfl, hs, h⟩ := argStr h
  obtain rfl := argsNil h
  exact law_Escapes s
theorem lifted_ValueEscapes (os : Os) (started : os.Started) (H : Type) (enc : TypeId × Value → H) (F : Stop.Interp) :
    ReturnsInHanded {} Tryd.checked os 7 .any ((OpenSpec.ofChange Rows.valueEscapesSpec).preRow enc Tryd.prog Tryd.f7 Rows.valueEscapesRow.domain false Rows.valueEscapesRow.laid) (((OpenSpec.ofChange Rows.valueEscapesSpec).at F).post enc Tryd.prog Tryd.f7 false true false false) := by
  obtain ⟨ds, places, hx⟩ := reads_ValueEscapes os enc
  refine returnsInHanded_of_row (C := Tryd.checked) (s := OpenSpec.ofChange Rows.valueEscapesSpec) own started (by kernel_rfl) Tryd.func7
    (witness_row_atRef (enc := enc) (C := Tryd.checked) false (World.laidAll Tryd.prog os Rows.valueEscapesRow.laid) args_ValueEscapes (World.laidAll_os _ _ _) (by kernel_rfl) (by kernel_rfl) (by kernel_rfl)
      (OpenSpec.preRow_of_cond 8 hx (by kernel_rfl) (fun k hk => by cases hk) (by kernel_rfl) (laid_ValueEscapes os))) ?_
  intro W base args ds gs before hval hW _ _ hwt hL _ _
  exact row_of_PC tOk laidOut (d := 8) (tb := 4) (by kernel_rfl) (by kernel_rfl) (by kernel_rfl) (by kernel_rfl) (eok_of hL (by kernel_rfl)) lawPC_ValueEscapes rfl (fun ds h => by
    match ds, h with
    | [_], _ => rfl) hval hW rfl hwt
theorem said_ValueEscapes : Rows.ValueEscapesSaid :=
  OpenClaim.holds_of_cond 7 Tryd.f7 rfl rfl rfl rfl rfl rfl rfl ⟨rfl, rfl, rfl, rfl, rfl⟩ rfl rfl rfl rfl rfl (by kernel_rfl) Tryd.func7 (by kernel_rfl)
    (of_decide_eq_true (by kernel_rfl)) (by unfold Func.isWrapper; first | (rw [if_pos (by decide +kernel)]; kernel_rfl) | (rw [if_neg (by decide +kernel)]; exact ⟨rfl, rfl⟩))
    (fun os started H enc _ F => by rw [OpenClaim.pre_eq_preRow]; exact lifted_ValueEscapes os started H enc F)
theorem plain_ValueEscapes (f : FuncId) (fn : Func) (hf : Tryd.pinned.checked.prog.funcNamed "tidegate/tidegatelaw01.ValueEscapes" = some f) (hfn : Tryd.pinned.checked.prog.funcs[f]? = some fn) :
    true = Tryd.pinned.checked.prog.looks [] ∧ ∀ (j : Nat) t, fn.params[j]? = some t → Tryd.pinned.checked.prog.wantsStandIn t = false := by
  obtain rfl : f = 7 := Option.some.inj ((show Tryd.prog.funcNamed "tidegate/tidegatelaw01.ValueEscapes" = some 7 by kernel_rfl).symm.trans hf) |>.symm
  obtain rfl : fn = Tryd.f7 := (Option.some.inj (Tryd.func7.symm.trans hfn)).symm
  refine ⟨by kernel_rfl, fun j t ht => ?_⟩
  have hall : (Tryd.f7.params.toList.all fun t => Tryd.prog.wantsStandIn t == false) = true := by kernel_rfl
  have hm : t ∈ Tryd.f7.params.toList := by simpa using Array.mem_of_getElem? ht
  exact beq_iff_eq.1 (List.all_eq_true.1 hall t hm)
end Go.Abs
namespace Go.Proofs.YtbhafingccfjgaaDoor
open Go Go.Abs
theorem valueEscapes_card : Rows.ValueEscapesCardSaid :=
  Claim7.holds_tied_plain_at .later [] _ _ _ _ said_ValueEscapes (fun _ h => by cases h) (by kernel_rfl) (fun _ h => by cases h) valueEscapes_row_tie rfl ⟨rfl, rfl⟩ (by kernel_rfl) rfl plain_ValueEscapes (by kernel_rfl)
end Go.Proofs.YtbhafingccfjgaaDoor
