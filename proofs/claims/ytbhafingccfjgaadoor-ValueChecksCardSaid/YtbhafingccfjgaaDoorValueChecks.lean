/- Check and CheckAll of the program answer as the reference does, whatever the values: ValueChecks returns true for every input. Conditions: those of the given row (the laid tables), tied by the given card. -/
import Derived.Test.YtbhafingccfjgaaDoorKd
set_option linter.all false
set_option maxRecDepth 100000
namespace Go.Abs
open Go Go.Proofs Go.Proofs.YtbhafingccfjgaaDoor Go.RowKit
noncomputable def args_ValueChecks : Array Value := #[.agg #[.int .i64 0, .int .i64 0, .string ⟨#[]⟩], .slice none 0 0]
theorem laid_ValueChecks (os : Os) : laidMetH Tryd.prog Rows.valueChecksRow.laid ((World.laidAll Tryd.prog os Rows.valueChecksRow.laid).forCall (fun _ _ => 0) ⟨#[], args_ValueChecks, []⟩).memory :=
  laidMet_laidAll _ (by kernel_rfl) (by kernel_rfl)
theorem reads_ValueChecks (os : Os) {H : Type} (enc : TypeId × Value → H) : ∃ ds places, DataW.whole enc Tryd.prog ((World.laidAll Tryd.prog os Rows.valueChecksRow.laid).forCall (fun _ _ => 0) ⟨#[], args_ValueChecks, []⟩).memory Tryd.f8.params.toList Rows.valueChecksSpec.vars false args_ValueChecks.toList 8 = some (ds, [], places) :=
  ⟨[.agg [.lit (.int .i64 0), .lit (.int .i64 0), .lit (.string [])], .nil], [], by kernel_rfl⟩
theorem lawPC_ValueChecks (xs : List AV) (h : ArgsShp T 8 Tryd.f8.params.toList xs) : PC Tryd.prog 8 xs (fun r => r = .bool true) := by
  rw [Tryd.params8] at h
  obtain ⟨v, _, rfl, hv, h⟩ := argV h
  obtain ⟨l, _, rfl, hl, h⟩ := argLV h
  obtain rfl := argsNil h
  exact law_Checks v l
theorem lifted_ValueChecks (os : Os) (started : os.Started) (H : Type) (enc : TypeId × Value → H) (F : Stop.Interp) :
    ReturnsInHanded {} Tryd.checked os 8 .any ((OpenSpec.ofChange Rows.valueChecksSpec).preRow enc Tryd.prog Tryd.f8 Rows.valueChecksRow.domain false Rows.valueChecksRow.laid) (((OpenSpec.ofChange Rows.valueChecksSpec).at F).post enc Tryd.prog Tryd.f8 false true false false) := by
  obtain ⟨ds, places, hx⟩ := reads_ValueChecks os enc
  refine returnsInHanded_of_row (C := Tryd.checked) (s := OpenSpec.ofChange Rows.valueChecksSpec) own started (by kernel_rfl) Tryd.func8
    (witness_row_atRef (enc := enc) (C := Tryd.checked) false (World.laidAll Tryd.prog os Rows.valueChecksRow.laid) args_ValueChecks (World.laidAll_os _ _ _) (by kernel_rfl) (by kernel_rfl) (by kernel_rfl)
      (OpenSpec.preRow_of_cond 8 hx (by kernel_rfl) (fun k hk => by cases hk) (by kernel_rfl) (laid_ValueChecks os))) ?_
  intro W base args ds gs before hval hW _ _ hwt hL _ _
  exact row_of_PC tOk laidOut (d := 8) (tb := 4) (by kernel_rfl) (by kernel_rfl) (by kernel_rfl) (by kernel_rfl) (eok_of hL (by kernel_rfl)) lawPC_ValueChecks rfl (fun ds h => by
    match ds, h with
    | [_, _], _ => rfl) hval hW rfl hwt
theorem said_ValueChecks : Rows.ValueChecksSaid :=
  OpenClaim.holds_of_cond 8 Tryd.f8 rfl rfl rfl rfl rfl rfl rfl ⟨rfl, rfl, rfl, rfl, rfl⟩ rfl rfl rfl rfl rfl (by kernel_rfl) Tryd.func8 (by kernel_rfl)
    (of_decide_eq_true (by kernel_rfl)) (by unfold Func.isWrapper; first | (rw [if_pos (by decide +kernel)]; kernel_rfl) | (rw [if_neg (by decide +kernel)]; exact ⟨rfl, rfl⟩))
    (fun os started H enc _ F => by rw [OpenClaim.pre_eq_preRow]; exact lifted_ValueChecks os started H enc F)
theorem plain_ValueChecks (f : FuncId) (fn : Func) (hf : Tryd.pinned.checked.prog.funcNamed "tidegate/tidegatelaw01.ValueChecks" = some f) (hfn : Tryd.pinned.checked.prog.funcs[f]? = some fn) :
    true = Tryd.pinned.checked.prog.looks [] ∧ ∀ (j : Nat) t, fn.params[j]? = some t → Tryd.pinned.checked.prog.wantsStandIn t = false := by
  obtain rfl : f = 8 := Option.some.inj ((show Tryd.prog.funcNamed "tidegate/tidegatelaw01.ValueChecks" = some 8 by kernel_rfl).symm.trans hf) |>.symm
  obtain rfl : fn = Tryd.f8 := (Option.some.inj (Tryd.func8.symm.trans hfn)).symm
  refine ⟨by kernel_rfl, fun j t ht => ?_⟩
  have hall : (Tryd.f8.params.toList.all fun t => Tryd.prog.wantsStandIn t == false) = true := by kernel_rfl
  have hm : t ∈ Tryd.f8.params.toList := by simpa using Array.mem_of_getElem? ht
  exact beq_iff_eq.1 (List.all_eq_true.1 hall t hm)
end Go.Abs
namespace Go.Proofs.YtbhafingccfjgaaDoor
open Go Go.Abs
theorem valueChecks_card : Rows.ValueChecksCardSaid :=
  Claim7.holds_tied_plain_at .later [] _ _ _ _ said_ValueChecks (fun _ h => by cases h) (by kernel_rfl) (fun _ h => by cases h) valueChecks_row_tie rfl ⟨rfl, rfl⟩ (by kernel_rfl) rfl plain_ValueChecks (by kernel_rfl)
end Go.Proofs.YtbhafingccfjgaaDoor
