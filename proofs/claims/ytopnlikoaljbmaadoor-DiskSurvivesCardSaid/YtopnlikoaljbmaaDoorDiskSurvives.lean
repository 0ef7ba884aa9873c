/- After a crash each file has its durable content or a beginning of its volatile one, and a second crash changes nothing: DiskSurvives returns true for every input. Conditions: those of the given row (the laid tables), tied by the given card. -/
import Derived.Test.YtopnlikoaljbmaaDoorKd
set_option linter.all false
set_option maxRecDepth 100000
namespace Go.Abs
open Go Go.Proofs Go.Proofs.YtopnlikoaljbmaaDoor Go.RowKit
noncomputable def args8 : Array Value := #[.agg #[.slice none 0 0, .int .i64 0], .slice none 0 0, .slice none 0 0]
theorem laid_met8 (os : Os) : laidMet Tryd.prog Rows.diskSurvivesRow.laid ((laidWorld os).forCall (fun _ _ => 0) ⟨#[], args8, []⟩).memory :=
  laidMet_of_run' 8 (by kernel_rfl) (by kernel_rfl)
theorem reads8 (os : Os) {H : Type} (enc : TypeId × Value → H) : ∃ ds places, DataW.whole enc Tryd.prog ((laidWorld os).forCall (fun _ _ => 0) ⟨#[], args8, []⟩).memory Tryd.f8.params.toList Rows.diskSurvivesSpec.vars false args8.toList 8 = some (ds, [], places) :=
  ⟨[.agg [.nil, .lit (.int .i64 0)], .nil, .nil], [], by kernel_rfl⟩
theorem law8_PC (xs : List AV) (h : ArgsShp T 8 Tryd.f8.params.toList xs) : PC Tryd.prog 8 xs (fun r => r = .bool true) := by
  rw [Tryd.params8] at h
  obtain ⟨k, l, m, rfl, hk, _, _⟩ := args_24_34_34 h
  exact pc8 k l m hk
theorem lifted8 (os : Os) (started : os.Started) (H : Type) (enc : TypeId × Value → H) (F : Stop.Interp) :
    ReturnsInHanded {} Tryd.checked os 8 .any ((OpenSpec.ofChange Rows.diskSurvivesSpec).preRow enc Tryd.prog Tryd.f8 Rows.diskSurvivesRow.domain false Rows.diskSurvivesRow.laid) (((OpenSpec.ofChange Rows.diskSurvivesSpec).at F).post enc Tryd.prog Tryd.f8 false true false false) := by
  obtain ⟨ds, places, hx⟩ := reads8 os enc
  refine returnsInHanded_of_row (C := Tryd.checked) (s := OpenSpec.ofChange Rows.diskSurvivesSpec) own started (by kernel_rfl) Tryd.func8
    (witness_row_at (enc := enc) (C := Tryd.checked) false (laidWorld os) args8 rfl (by kernel_rfl) (by kernel_rfl) (by kernel_rfl)
      (OpenSpec.preRow_of_cond 8 hx (by kernel_rfl) (fun k hk => by cases hk) (by kernel_rfl) (laid_met8 os))) ?_
  intro W base args ds gs before hval hW _ _ hwt _ _ _
  exact row_of_PC tOk laidOut (d := 8) (tb := 4) (by kernel_rfl) (by kernel_rfl) (by kernel_rfl) (by kernel_rfl) law8_PC rfl (fun ds h => by
    match ds, h with
    | [_, _, _], _ => rfl) hval hW rfl hwt
theorem said8 : Rows.DiskSurvivesSaid :=
  OpenClaim.holds_of_cond 8 Tryd.f8 rfl rfl rfl rfl rfl rfl rfl ⟨rfl, rfl, rfl, rfl, rfl⟩ rfl rfl rfl rfl rfl (by kernel_rfl) Tryd.func8 (by kernel_rfl)
    (of_decide_eq_true (by kernel_rfl)) (by unfold Func.isWrapper; first | (rw [if_pos (by decide +kernel)]; kernel_rfl) | (rw [if_neg (by decide +kernel)]; exact ⟨rfl, rfl⟩))
    (fun os started H enc _ F => by rw [OpenClaim.pre_eq_preRow]; exact lifted8 os started H enc F)
theorem plain8 (f : FuncId) (fn : Func) (hf : Tryd.pinned.checked.prog.funcNamed "tidegate/tidegatelaw44.DiskSurvives" = some f) (hfn : Tryd.pinned.checked.prog.funcs[f]? = some fn) :
    false = Tryd.pinned.checked.prog.looks [] ∧ ∀ (j : Nat) t, fn.params[j]? = some t → Tryd.pinned.checked.prog.wantsStandIn t = false := by
  obtain rfl : f = 8 := Option.some.inj ((show Tryd.prog.funcNamed "tidegate/tidegatelaw44.DiskSurvives" = some 8 by kernel_rfl).symm.trans hf) |>.symm
  obtain rfl : fn = Tryd.f8 := (Option.some.inj (Tryd.func8.symm.trans hfn)).symm
  refine ⟨by kernel_rfl, fun j t ht => ?_⟩
  have hall : (Tryd.f8.params.toList.all fun t => Tryd.prog.wantsStandIn t == false) = true := by kernel_rfl
  have hm : t ∈ Tryd.f8.params.toList := by simpa using Array.mem_of_getElem? ht
  exact beq_iff_eq.1 (List.all_eq_true.1 hall t hm)
end Go.Abs
namespace Go.Proofs.YtopnlikoaljbmaaDoor
open Go Go.Abs
theorem diskSurvives_card : Rows.DiskSurvivesCardSaid :=
  Claim7.holds_tied_plain_at .later [] _ _ _ _ said8 (fun _ h => by cases h) (by kernel_rfl) (fun _ h => by cases h) diskSurvives_row_tie rfl ⟨rfl, rfl⟩ (by kernel_rfl) rfl plain8 (by kernel_rfl)
end Go.Proofs.YtopnlikoaljbmaaDoor
