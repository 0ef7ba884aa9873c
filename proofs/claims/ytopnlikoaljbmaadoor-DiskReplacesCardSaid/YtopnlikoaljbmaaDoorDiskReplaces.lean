/- A file is replaced as a whole: DiskReplaces returns true for every input. Conditions: those of the given row (the laid tables), tied by the given card. -/
import Derived.Test.YtopnlikoaljbmaaDoorKd
set_option linter.all false
set_option maxRecDepth 100000
namespace Go.Abs
open Go Go.Proofs Go.Proofs.YtopnlikoaljbmaaDoor Go.RowKit
noncomputable def args7 : Array Value := #[.agg #[.slice none 0 0, .int .i64 0], .string ⟨#[]⟩, .slice none 0 0]
theorem laid_met7 (os : Os) : laidMet Tryd.prog Rows.diskReplacesRow.laid ((laidWorld os).forCall (fun _ _ => 0) ⟨#[], args7, []⟩).memory :=
  laidMet_of_run' 8 (by kernel_rfl) (by kernel_rfl)
theorem reads7 (os : Os) {H : Type} (enc : TypeId × Value → H) : ∃ ds places, DataW.whole enc Tryd.prog ((laidWorld os).forCall (fun _ _ => 0) ⟨#[], args7, []⟩).memory Tryd.f7.params.toList Rows.diskReplacesSpec.vars false args7.toList 8 = some (ds, [], places) :=
  ⟨[.agg [.nil, .lit (.int .i64 0)], .lit (.string []), .nil], [], by kernel_rfl⟩
theorem law7_PC (xs : List AV) (h : ArgsShp T 8 Tryd.f7.params.toList xs) : PC Tryd.prog 7 xs (fun r => r = .bool true) := by
  rw [Tryd.params7] at h
  obtain ⟨k, s, l, rfl, hk, hs, _⟩ := args_24_9_34 h
  exact pc7 k s l hk hs
theorem lifted7 (os : Os) (started : os.Started) (H : Type) (enc : TypeId × Value → H) (F : Stop.Interp) :
    ReturnsInHanded {} Tryd.checked os 7 .any ((OpenSpec.ofChange Rows.diskReplacesSpec).preRow enc Tryd.prog Tryd.f7 Rows.diskReplacesRow.domain false Rows.diskReplacesRow.laid) (((OpenSpec.ofChange Rows.diskReplacesSpec).at F).post enc Tryd.prog Tryd.f7 false true false false) := by
  obtain ⟨ds, places, hx⟩ := reads7 os enc
  refine returnsInHanded_of_row (C := Tryd.checked) (s := OpenSpec.ofChange Rows.diskReplacesSpec) own started (by kernel_rfl) Tryd.func7
    (witness_row_at (enc := enc) (C := Tryd.checked) false (laidWorld os) args7 rfl (by kernel_rfl) (by kernel_rfl) (by kernel_rfl)
      (OpenSpec.preRow_of_cond 8 hx (by kernel_rfl) (fun k hk => by cases hk) (by kernel_rfl) (laid_met7 os))) ?_
  intro W base args ds gs before hval hW _ _ hwt _ _ _
  exact row_of_PC tOk laidOut (d := 8) (tb := 4) (by kernel_rfl) (by kernel_rfl) (by kernel_rfl) (by kernel_rfl) law7_PC rfl (fun ds h => by
    match ds, h with
    | [_, _, _], _ => rfl) hval hW rfl hwt
theorem said7 : Rows.DiskReplacesSaid :=
  OpenClaim.holds_of_cond 7 Tryd.f7 rfl rfl rfl rfl rfl rfl rfl ⟨rfl, rfl, rfl, rfl, rfl⟩ rfl rfl rfl rfl rfl (by kernel_rfl) Tryd.func7 (by kernel_rfl)
    (of_decide_eq_true (by kernel_rfl)) (by unfold Func.isWrapper; first | (rw [if_pos (by decide +kernel)]; kernel_rfl) | (rw [if_neg (by decide +kernel)]; exact ⟨rfl, rfl⟩))
    (fun os started H enc _ F => by rw [OpenClaim.pre_eq_preRow]; exact lifted7 os started H enc F)
theorem plain7 (f : FuncId) (fn : Func) (hf : Tryd.pinned.checked.prog.funcNamed "tidegate/tidegatelaw44.DiskReplaces" = some f) (hfn : Tryd.pinned.checked.prog.funcs[f]? = some fn) :
    false = Tryd.pinned.checked.prog.looks [] ∧ ∀ (j : Nat) t, fn.params[j]? = some t → Tryd.pinned.checked.prog.wantsStandIn t = false := by
  obtain rfl : f = 7 := Option.some.inj ((show Tryd.prog.funcNamed "tidegate/tidegatelaw44.DiskReplaces" = some 7 by kernel_rfl).symm.trans hf) |>.symm
  obtain rfl : fn = Tryd.f7 := (Option.some.inj (Tryd.func7.symm.trans hfn)).symm
  refine ⟨by kernel_rfl, fun j t ht => ?_⟩
  have hall : (Tryd.f7.params.toList.all fun t => Tryd.prog.wantsStandIn t == false) = true := by kernel_rfl
  have hm : t ∈ Tryd.f7.params.toList := by simpa using Array.mem_of_getElem? ht
  exact beq_iff_eq.1 (List.all_eq_true.1 hall t hm)
end Go.Abs
namespace Go.Proofs.YtopnlikoaljbmaaDoor
open Go Go.Abs
theorem diskReplaces_card : Rows.DiskReplacesCardSaid :=
  Claim7.holds_tied_plain_at .later [] _ _ _ _ said7 (fun _ h => by cases h) (by kernel_rfl) (fun _ h => by cases h) diskReplaces_row_tie rfl ⟨rfl, rfl⟩ (by kernel_rfl) rfl plain7 (by kernel_rfl)
end Go.Proofs.YtopnlikoaljbmaaDoor
