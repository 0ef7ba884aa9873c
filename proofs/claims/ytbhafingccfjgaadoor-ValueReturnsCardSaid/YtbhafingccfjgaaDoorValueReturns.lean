/- The text of a well-formed value is parsed as the value, consists of printable bytes, and differs from that of any other value: ValueReturns returns true for every input. Conditions: those of the given row (the laid tables), tied by the given card. -/
import Derived.Test.YtbhafingccfjgaaDoorKd
set_option linter.all false
set_option maxRecDepth 100000
namespace Go.Abs
open Go Go.Proofs Go.Proofs.YtbhafingccfjgaaDoor Go.RowKit
noncomputable def args_ValueReturns : Array Value := #[.agg #[.int .i64 0, .int .i64 0, .string ⟨#[]⟩], .agg #[.int .i64 0, .int .i64 0, .string ⟨#[]⟩]]
theorem laid_ValueReturns (os : Os) : laidMetH Tryd.prog Rows.valueReturnsRow.laid ((World.laidAll Tryd.prog os Rows.valueReturnsRow.laid).forCall (fun _ _ => 0) ⟨#[], args_ValueReturns, []⟩).memory :=
  laidMet_laidAll _ (by kernel_rfl) (by kernel_rfl)
theorem reads_ValueReturns (os : Os) {H : Type} (enc : TypeId × Value → H) : ∃ ds places, DataW.whole enc Tryd.prog ((World.laidAll Tryd.prog os Rows.valueReturnsRow.laid).forCall (fun _ _ => 0) ⟨#[], args_ValueReturns, []⟩).memory Tryd.f9.params.toList Rows.valueReturnsSpec.vars false args_ValueReturns.toList 8 = some (ds, [], places) :=
  ⟨[.agg [.lit (.int .i64 0), .lit (.int .i64 0), .lit (.string [])], .agg [.lit (.int .i64 0), .lit (.int .i64 0), .lit (.string [])]], [], by kernel_rfl⟩
theorem lawPC_ValueReturns (xs : List AV) (h : ArgsShp T 8 Tryd.f9.params.toList xs) : PC Tryd.prog 9 xs (fun r => r = .bool true) := by
  rw [Tryd.params9] at h
  obtain ⟨a, _, rfl, ha, h⟩ := argV h
  obtain ⟨b, _, rfl, hb, h⟩ := argV h
  obtain rfl := argsNil h
  exact law_Returns a b
theorem lifted_ValueReturns (os : Os) (started : os.Started) (H : Type) (enc : TypeId × Value → H) (F : Stop.Interp) :
    ReturnsInHanded {} Tryd.checked os 9 .any ((OpenSpec.ofChange Rows.valueReturnsSpec).preRow enc Tryd.prog Tryd.f9 Rows.valueReturnsRow.domain false Rows.valueReturnsRow.laid) (((OpenSpec.ofChange Rows.valueReturnsSpec).at F).post enc Tryd.prog Tryd.f9 false true false false) := by
  obtain ⟨ds, places, hx⟩ := reads_ValueReturns os enc
  refine returnsInHanded_of_row (C := Tryd.checked) (s := OpenSpec.ofChange Rows.valueReturnsSpec) own started (by kernel_rfl) Tryd.func9
    (witness_row_atRef (enc := enc) (C := Tryd.checked) false (World.laidAll Tryd.prog os Rows.valueReturnsRow.laid) args_ValueReturns (World.laidAll_os _ _ _) (by kernel_rfl) (by kernel_rfl) (by kernel_rfl)
      (OpenSpec.preRow_of_cond 8 hx (by kernel_rfl) (fun k hk => by cases hk) (by kernel_rfl) (laid_ValueReturns os))) ?_
  intro W base args ds gs before hval hW _ _ hwt hL _ _
  exact row_of_PC tOk laidOut (d := 8) (tb := 4) (by kernel_rfl) (by kernel_rfl) (by kernel_rfl) (by kernel_rfl) (eok_of hL (by kernel_rfl)) lawPC_ValueReturns rfl (fun ds h => by
    match ds, h with
    | [_, _], _ => rfl) hval hW rfl hwt
theorem said_ValueReturns : Rows.ValueReturnsSaid :=
  OpenClaim.holds_of_cond 9 Tryd.f9 rfl rfl rfl rfl rfl rfl rfl ⟨rfl, rfl, rfl, rfl, rfl⟩ rfl rfl rfl rfl rfl (by kernel_rfl) Tryd.func9 (by kernel_rfl)
    (of_decide_eq_true (by kernel_rfl)) (by unfold Func.isWrapper; first | (rw [if_pos (by decide +kernel)]; kernel_rfl) | (rw [if_neg (by decide +kernel)]; exact ⟨rfl, rfl⟩))
    (fun os started H enc _ F => by rw [OpenClaim.pre_eq_preRow]; exact lifted_ValueReturns os started H enc F)
theorem plain_ValueReturns (f : FuncId) (fn : Func) (hf : Tryd.pinned.checked.prog.funcNamed "tidegate/tidegatelaw01.ValueReturns" = some f) (hfn : Tryd.pinned.checked.prog.funcs[f]? = some fn) :
    true = Tryd.pinned.checked.prog.looks [] ∧ ∀ (j : Nat) t, fn.params[j]? = some t → Tryd.pinned.checked.prog.wantsStandIn t = false := by
  obtain rfl : f = 9 := Option.some.inj ((show Tryd.prog.funcNamed "tidegate/tidegatelaw01.ValueReturns" = some 9 by kernel_rfl).symm.trans hf) |>.symm
  obtain rfl : fn = Tryd.f9 := (Option.some.inj (Tryd.func9.symm.trans hfn)).symm
  refine ⟨by kernel_rfl, fun j t ht => ?_⟩
  have hall : (Tryd.f9.params.toList.all fun t => Tryd.prog.wantsStandIn t == false) = true := by kernel_rfl
  have hm : t ∈ Tryd.f9.params.toList := by simpa using Array.mem_of_getElem? ht
  exact beq_iff_eq.1 (List.all_eq_true.1 hall t hm)
end Go.Abs
namespace Go.Proofs.YtbhafingccfjgaaDoor
open Go Go.Abs
theorem valueReturns_card : Rows.ValueReturnsCardSaid :=
  Claim7.holds_tied_plain_at .later [] _ _ _ _ said_ValueReturns (fun _ h => by cases h) (by kernel_rfl) (fun _ h => by cases h) valueReturns_row_tie rfl ⟨rfl, rfl⟩ (by kernel_rfl) rfl plain_ValueReturns (by kernel_rfl)
end Go.Proofs.YtbhafingccfjgaaDoor
