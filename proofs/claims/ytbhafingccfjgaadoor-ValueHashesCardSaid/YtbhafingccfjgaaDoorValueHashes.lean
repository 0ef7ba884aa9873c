/- Hash of the program answers as the reference does, whatever the value, and the hash lies from 0 to 4294967295: ValueHashes returns true for every input. Conditions: those of the given row (the laid tables), tied by the given card. -/
import Derived.Test.YtbhafingccfjgaaDoorKd
set_option linter.all false
set_option maxRecDepth 100000
namespace Go.Abs
open Go Go.Proofs Go.Proofs.YtbhafingccfjgaaDoor Go.RowKit
noncomputable def args_ValueHashes : Array Value := #[.agg #[.int .i64 0, .int .i64 0, .string ⟨#[]⟩]]
theorem laid_ValueHashes (os : Os) : laidMetH Tryd.prog Rows.valueHashesRow.laid ((World.laidAll Tryd.prog os Rows.valueHashesRow.laid).forCall (fun _ _ => 0) ⟨#[], args_ValueHashes, []⟩).memory :=
  laidMet_laidAll _ (by kernel_rfl) (by kernel_rfl)
theorem reads_ValueHashes (os : Os) {H : Type} (enc : TypeId × Value → H) : ∃ ds places, DataW.whole enc Tryd.prog ((World.laidAll Tryd.prog os Rows.valueHashesRow.laid).forCall (fun _ _ => 0) ⟨#[], args_ValueHashes, []⟩).memory Tryd.f4.params.toList Rows.valueHashesSpec.vars false args_ValueHashes.toList 8 = some (ds, [], places) :=
  ⟨[.agg [.lit (.int .i64 0), .lit (.int .i64 0), .lit (.string [])]], [], by kernel_rfl⟩
theorem lawPC_ValueHashes (xs : List AV) (h : ArgsShp T 8 Tryd.f4.params.toList xs) : PC Tryd.prog 4 xs (fun r => r = .bool true) := by
  rw [Tryd.params4] at h
  obtain ⟨v, _, rfl, hv, h⟩ := argV h
  obtain rfl := argsNil h
  exact law_Hashes v
theorem lifted_ValueHashes (os : Os) (started : os.Started) (H : Type) (enc : TypeId × Value → H) (F : Stop.Interp) :
    ReturnsInHanded {} Tryd.checked os 4 .any ((OpenSpec.ofChange Rows.valueHashesSpec).preRow enc Tryd.prog Tryd.f4 Rows.valueHashesRow.domain false Rows.valueHashesRow.laid) (((OpenSpec.ofChange Rows.valueHashesSpec).at F).post enc Tryd.prog Tryd.f4 false true false false) := by
  obtain ⟨ds, places, hx⟩ := reads_ValueHashes os enc
  refine returnsInHanded_of_row (C := Tryd.checked) (s := OpenSpec.ofChange Rows.valueHashesSpec) own started (by kernel_rfl) Tryd.func4
    (witness_row_atRef (enc := enc) (C := Tryd.checked) false (World.laidAll Tryd.prog os Rows.valueHashesRow.laid) args_ValueHashes (World.laidAll_os _ _ _) (by kernel_rfl) (by kernel_rfl) (by kernel_rfl)
      (OpenSpec.preRow_of_cond 8 hx (by kernel_rfl) (fun k hk => by cases hk) (by kernel_rfl) (laid_ValueHashes os))) ?_
  intro W base args ds gs before hval hW _ _ hwt hL _ _
  exact row_of_PC tOk laidOut (d := 8) (tb := 4) (by kernel_rfl) (by kernel_rfl) (by kernel_rfl) (by kernel_rfl) (eok_of hL (by kernel_rfl)) lawPC_ValueHashes rfl (fun ds h => by
    match ds, h with
    | [_], _ => rfl) hval hW rfl hwt
theorem said_ValueHashes : Rows.ValueHashesSaid :=
  OpenClaim.holds_of_cond 4 Tryd.f4 rfl rfl rfl rfl rfl rfl rfl ⟨rfl, rfl, rfl, rfl, rfl⟩ rfl rfl rfl rfl rfl (by kernel_rfl) Tryd.func4 (by kernel_rfl)
    (of_decide_eq_true (by kernel_rfl)) (by unfold Func.isWrapper; first | (rw [if_pos (by decide +kernel)]; kernel_rfl) | (rw [if_neg (by decide +kernel)]; exact ⟨rfl, rfl⟩))
    (fun os started H enc _ F => by rw [OpenClaim.pre_eq_preRow]; exact lifted_ValueHashes os started H enc F)
theorem plain_ValueHashes (f : FuncId) (fn : Func) (hf : Tryd.pinned.checked.prog.funcNamed "tidegate/tidegatelaw01.ValueHashes" = some f) (hfn : Tryd.pinned.checked.prog.funcs[f]? = some fn) :
    true = Tryd.pinned.checked.prog.looks [] ∧ ∀ (j : Nat) t, fn.params[j]? = some t → Tryd.pinned.checked.prog.wantsStandIn t = false := by
  obtain rfl : f = 4 := Option.some.inj ((show Tryd.prog.funcNamed "tidegate/tidegatelaw01.ValueHashes" = some 4 by kernel_rfl).symm.trans hf) |>.symm
  obtain rfl : fn = Tryd.f4 := (Option.some.inj (Tryd.func4.symm.trans hfn)).symm
  refine ⟨by kernel_rfl, fun j t ht => ?_⟩
  have hall : (Tryd.f4.params.toList.all fun t => Tryd.prog.wantsStandIn t == false) = true := by kernel_rfl
  have hm : t ∈ Tryd.f4.params.toList := by simpa using Array.mem_of_getElem? ht
  exact beq_iff_eq.1 (List.all_eq_true.1 hall t hm)
end Go.Abs
namespace Go.Proofs.YtbhafingccfjgaaDoor
open Go Go.Abs
theorem valueHashes_card : Rows.ValueHashesCardSaid :=
  Claim7.holds_tied_plain_at .later [] _ _ _ _ said_ValueHashes (fun _ h => by cases h) (by kernel_rfl) (fun _ h => by cases h) valueHashes_row_tie rfl ⟨rfl, rfl⟩ (by kernel_rfl) rfl plain_ValueHashes (by kernel_rfl)
end Go.Proofs.YtbhafingccfjgaaDoor
