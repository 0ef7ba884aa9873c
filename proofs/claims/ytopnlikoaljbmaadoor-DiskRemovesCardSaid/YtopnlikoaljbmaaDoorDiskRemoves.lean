/- A removed file is gone and a renamed one has its other name only: DiskRemoves returns true for every input. Conditions: those of the given row (the laid tables), tied by the given card. -/
import Derived.Test.YtopnlikoaljbmaaDoorKd
set_option linter.all false
set_option maxRecDepth 100000
namespace Go.Abs
open Go Go.Proofs Go.Proofs.YtopnlikoaljbmaaDoor Go.RowKit
noncomputable def args10 : Array Value := #[.agg #[.slice none 0 0, .int .i64 0], .string ⟨#[]⟩, .string ⟨#[]⟩]
theorem laid_met10 (os : Os) : laidMet Tryd.prog Rows.diskRemovesRow.laid ((laidWorld os).forCall (fun _ _ => 0) ⟨#[], args10, []⟩).memory :=
  laidMet_of_run' 8 (by kernel_rfl) (by kernel_rfl)
theorem reads10 (os : Os) {H : Type} (enc : TypeId × Value → H) : ∃ ds places, DataW.whole enc Tryd.prog ((laidWorld os).forCall (fun _ _ => 0) ⟨#[], args10, []⟩).memory Tryd.f10.params.toList Rows.diskRemovesSpec.vars false args10.toList 8 = some (ds, [], places) :=
  ⟨[.agg [.nil, .lit (.int .i64 0)], .lit (.string []), .lit (.string [])], [], by kernel_rfl⟩
theorem law10_PC (xs : List AV) (h : ArgsShp T 8 Tryd.f10.params.toList xs) : PC Tryd.prog 10 xs (fun r => r = .bool true) := by
  rw [Tryd.params10] at h
  obtain ⟨k, s, t, rfl, hk, hs, ht⟩ := args_24_9_9 h
  exact pc10 k s t hk hs ht
theorem lifted10 (os : Os) (started : os.Started) (H : Type) (enc : TypeId × Value → H) (F : Stop.Interp) :
    ReturnsInHanded {} Tryd.checked os 10 .any ((OpenSpec.ofChange Rows.diskRemovesSpec).preRow enc Tryd.prog Tryd.f10 Rows.diskRemovesRow.domain false Rows.diskRemovesRow.laid) (((OpenSpec.ofChange Rows.diskRemovesSpec).at F).post enc Tryd.prog Tryd.f10 false true false false) := by
  obtain ⟨ds, places, hx⟩ := reads10 os enc
  refine returnsInHanded_of_row (C := Tryd.checked) (s := OpenSpec.ofChange Rows.diskRemovesSpec) own started (by kernel_rfl) Tryd.func10
    (witness_row_at (enc := enc) (C := Tryd.checked) false (laidWorld os) args10 rfl (by kernel_rfl) (by kernel_rfl) (by kernel_rfl)
      (OpenSpec.preRow_of_cond 8 hx (by kernel_rfl) (fun k hk => by cases hk) (by kernel_rfl) (laid_met10 os))) ?_
  intro W base args ds gs before hval hW _ _ hwt _ _ _
  exact row_of_PC tOk laidOut (d := 8) (tb := 4) (by kernel_rfl) (by kernel_rfl) (by kernel_rfl) (by kernel_rfl) law10_PC rfl (fun ds h => by
    match ds, h with
    | [_, _, _], _ => rfl) hval hW rfl hwt
theorem said10 : Rows.DiskRemovesSaid :=
  OpenClaim.holds_of_cond 10 Tryd.f10 rfl rfl rfl rfl rfl rfl rfl ⟨rfl, rfl, rfl, rfl, rfl⟩ rfl rfl rfl rfl rfl (by kernel_rfl) Tryd.func10 (by kernel_rfl)
    (of_decide_eq_true (by kernel_rfl)) (by unfold Func.isWrapper; first | (rw [if_pos (by decide +kernel)]; kernel_rfl) | (rw [if_neg (by decide +kernel)]; exact ⟨rfl, rfl⟩))
    (fun os started H enc _ F => by rw [OpenClaim.pre_eq_preRow]; exact lifted10 os started H enc F)
theorem plain10 (f : FuncId) (fn : Func) (hf : Tryd.pinned.checked.prog.funcNamed "tidegate/tidegatelaw44.DiskRemoves" = some f) (hfn : Tryd.pinned.checked.prog.funcs[f]? = some fn) :
    false = Tryd.pinned.checked.prog.looks [] ∧ ∀ (j : Nat) t, fn.params[j]? = some t → Tryd.pinned.checked.prog.wantsStandIn t = false := by
  obtain rfl : f = 10 := Option.some.inj ((show Tryd.prog.funcNamed "tidegate/tidegatelaw44.DiskRemoves" = some 10 by kernel_rfl).symm.trans hf) |>.symm
  obtain rfl : fn = Tryd.f10 := (Option.some.inj (Tryd.func10.symm.trans hfn)).symm
  refine ⟨by kernel_rfl, fun j t ht => ?_⟩
  have hall : (Tryd.f10.params.toList.all fun t => Tryd.prog.wantsStandIn t == false) = true := by kernel_rfl
  have hm : t ∈ Tryd.f10.params.toList := by simpa using Array.mem_of_getElem? ht
  exact beq_iff_eq.1 (List.all_eq_true.1 hall t hm)
end Go.Abs
namespace Go.Proofs.YtopnlikoaljbmaaDoor
open Go Go.Abs
theorem diskRemoves_card : Rows.DiskRemovesCardSaid :=
  Claim7.holds_tied_plain_at .later [] _ _ _ _ said10 (fun _ h => by cases h) (by kernel_rfl) (fun _ h => by cases h) diskRemoves_row_tie rfl ⟨rfl, rfl⟩ (by kernel_rfl) rfl plain10 (by kernel_rfl)
end Go.Proofs.YtopnlikoaljbmaaDoor
