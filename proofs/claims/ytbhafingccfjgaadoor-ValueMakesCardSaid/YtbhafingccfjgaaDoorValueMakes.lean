/- Int, Bool and String of the program answer as the reference does, whatever the arguments: ValueMakes returns true for every input. Conditions: those of the given row (the laid tables), tied by the given card. -/
import Derived.Test.YtbhafingccfjgaaDoorKd
set_option linter.all false
set_option maxRecDepth 100000
namespace Go.Abs
open Go Go.Proofs Go.Proofs.YtbhafingccfjgaaDoor Go.RowKit
noncomputable def args_ValueMakes : Array Value := #[.int .i64 0, .bool false, .string ⟨#[]⟩]
theorem laid_ValueMakes (os : Os) : laidMetH Tryd.prog Rows.valueMakesRow.laid ((World.laidAll Tryd.prog os Rows.valueMakesRow.laid).forCall (fun _ _ => 0) ⟨#[], args_ValueMakes, []⟩).memory :=
  laidMet_laidAll _ (by kernel_rfl) (by kernel_rfl)
theorem reads_ValueMakes (os : Os) {H : Type} (enc : TypeId × Value → H) : ∃ ds places, DataW.whole enc Tryd.prog ((World.laidAll Tryd.prog os Rows.valueMakesRow.laid).forCall (fun _ _ => 0) ⟨#[], args_ValueMakes, []⟩).memory Tryd.f3.params.toList Rows.valueMakesSpec.vars false args_ValueMakes.toList 8 = some (ds, [], places) :=
  ⟨[.lit (.int .i64 0), .lit (.bool false), .lit (.string [])], [], by kernel_rfl⟩
theorem lawPC_ValueMakes (xs : List AV) (h : ArgsShp T 8 Tryd.f3.params.toList xs) : PC Tryd.prog 3 xs (fun r => r = .bool true) := by
  rw [Tryd.params3] at h
  obtain ⟨n, _, rfl, hn, h_1⟩ := argInt h
  obtain ⟨b, _, rfl, h_2⟩ := argBool h_1
  obtain ⟨s, _, rfl, hs, h_3⟩ := argStr h_2
  obtain rfl := argsNil h_3
  exact law_Makes n b s
theorem lifted_ValueMakes (os : Os) (started : os.Started) (H : Type) (enc : TypeId × Value → H) (F : Stop.Interp) :
    ReturnsInHanded {} Tryd.checked os 3 .any ((OpenSpec.ofChange Rows.valueMakesSpec).preRow enc Tryd.prog Tryd.f3 Rows.valueMakesRow.domain false Rows.valueMakesRow.laid) (((OpenSpec.ofChange Rows.valueMakesSpec).at F).post enc Tryd.prog Tryd.f3 false true false false) := by
  obtain ⟨ds, places, hx⟩ := reads_ValueMakes os enc
  refine returnsInHanded_of_row (C := Tryd.checked) (s := OpenSpec.ofChange Rows.valueMakesSpec) own started (by kernel_rfl) Tryd.func3
    (witness_row_atRef (enc := enc) (C := Tryd.checked) false (World.laidAll Tryd.prog os Rows.valueMakesRow.laid) args_ValueMakes (World.laidAll_os _ _ _) (by kernel_rfl) (by kernel_rfl) (by kernel_rfl)
      (OpenSpec.preRow_of_cond 8 hx (by kernel_rfl) (fun k hk => by cases hk) (by kernel_rfl) (laid_ValueMakes os))) ?_
  intro W base args ds gs before hval hW _ _ hwt hL _ _
  exact row_of_PC tOk laidOut (d := 8) (tb := 4) (by kernel_rfl) (by kernel_rfl) (by kernel_rfl) (by kernel_rfl) (eok_of hL (by kernel_rfl)) lawPC_ValueMakes rfl (fun ds h => by
    match ds, h with
    | [_, _, _], _ => rfl) hval hW rfl hwt
theorem said_ValueMakes : Rows.ValueMakesSaid :=
  OpenClaim.holds_of_cond 3 Tryd.f3 rfl rfl rfl rfl rfl rfl rfl ⟨rfl, rfl, rfl, rfl, rfl⟩ rfl rfl rfl rfl rfl (by kernel_rfl) Tryd.func3 (by kernel_rfl)
    (of_decide_eq_true (by kernel_rfl)) (by unfold Func.isWrapper; first | (rw [if_pos (by decide +kernel)]; kernel_rfl) | (rw [if_neg (by decide +kernel)]; exact ⟨rfl, rfl⟩))
    (fun os started H enc _ F => by rw [OpenClaim.pre_eq_preRow]; exact lifted_ValueMakes os started H enc F)
theorem plain_ValueMakes (f : FuncId) (fn : Func) (hf : Tryd.pinned.checked.prog.funcNamed "tidegate/tidegatelaw01.ValueMakes" = some f) (hfn : Tryd.pinned.checked.prog.funcs[f]? = some fn) :
    true = Tryd.pinned.checked.prog.looks [] ∧ ∀ (j : Nat) t, fn.params[j]? = some t → Tryd.pinned.checked.prog.wantsStandIn t = false := by
  obtain rfl : f = 3 := Option.some.inj ((show Tryd.prog.funcNamed "tidegate/tidegatelaw01.ValueMakes" = some 3 by kernel_rfl).symm.trans hf) |>.symm
  obtain rfl : fn = Tryd.f3 := (Option.some.inj (Tryd.func3.symm.trans hfn)).symm
  refine ⟨by kernel_rfl, fun j t ht => ?_⟩
  have hall : (Tryd.f3.params.toList.all fun t => Tryd.prog.wantsStandIn t == false) = true := by kernel_rfl
  have hm : t ∈ Tryd.f3.params.toList := by simpa using Array.mem_of_getElem? ht
  exact beq_iff_eq.1 (List.all_eq_true.1 hall t hm)
end Go.Abs
namespace Go.Proofs.YtbhafingccfjgaaDoor
open Go Go.Abs
theorem valueMakes_card : Rows.ValueMakesCardSaid :=
  Claim7.holds_tied_plain_at .later [] _ _ _ _ said_ValueMakes (fun _ h => by cases h) (by kernel_rfl) (fun _ h => by cases h) valueMakes_row_tie rfl ⟨rfl, rfl⟩ (by kernel_rfl) rfl plain_ValueMakes (by kernel_rfl)
end Go.Proofs.YtbhafingccfjgaaDoor
