/- What was written is read, appending appends, and the other files are as they were: DiskKeeps returns true for every input. Conditions: those of the given row (the laid tables), tied by the given card. -/
import Derived.Test.YtopnlikoaljbmaaDoorKd
set_option linter.all false
set_option maxRecDepth 100000
namespace Go.Abs
open Go Go.Proofs Go.Proofs.YtopnlikoaljbmaaDoor Go.RowKit
noncomputable def args6 : Array Value := #[.agg #[.slice none 0 0, .int .i64 0], .string ⟨#[]⟩, .agg #[.string ⟨#[]⟩, .string ⟨#[]⟩]]
theorem laid_met6 (os : Os) : laidMet Tryd.prog Rows.diskKeepsRow.laid ((laidWorld os).forCall (fun _ _ => 0) ⟨#[], args6, []⟩).memory :=
  laidMet_of_run' 8 (by kernel_rfl) (by kernel_rfl)
theorem reads6 (os : Os) {H : Type} (enc : TypeId × Value → H) : ∃ ds places, DataW.whole enc Tryd.prog ((laidWorld os).forCall (fun _ _ => 0) ⟨#[], args6, []⟩).memory Tryd.f6.params.toList Rows.diskKeepsSpec.vars false args6.toList 8 = some (ds, [], places) :=
  ⟨[.agg [.nil, .lit (.int .i64 0)], .lit (.string []), .agg [.lit (.string []), .lit (.string [])]], [], by kernel_rfl⟩
theorem law6_PC (xs : List AV) (h : ArgsShp T 8 Tryd.f6.params.toList xs) : PC Tryd.prog 6 xs (fun r => r = .bool true) := by
  rw [Tryd.params6] at h
  obtain ⟨k, s, a, b, rfl, hk, hs, ha, hb⟩ := args_24_9_50 h
  exact pc6 k s a b hk hs ha hb
theorem lifted6 (os : Os) (started : os.Started) (H : Type) (enc : TypeId × Value → H) (F : Stop.Interp) :
    ReturnsInHanded {} Tryd.checked os 6 .any ((OpenSpec.ofChange Rows.diskKeepsSpec).preRow enc Tryd.prog Tryd.f6 Rows.diskKeepsRow.domain false Rows.diskKeepsRow.laid) (((OpenSpec.ofChange Rows.diskKeepsSpec).at F).post enc Tryd.prog Tryd.f6 false true false false) := by
  obtain ⟨ds, places, hx⟩ := reads6 os enc
  refine returnsInHanded_of_row (C := Tryd.checked) (s := OpenSpec.ofChange Rows.diskKeepsSpec) own started (by kernel_rfl) Tryd.func6
    (witness_row_at (enc := enc) (C := Tryd.checked) false (laidWorld os) args6 rfl (by kernel_rfl) (by kernel_rfl) (by kernel_rfl)
      (OpenSpec.preRow_of_cond 8 hx (by kernel_rfl) (fun k hk => by cases hk) (by kernel_rfl) (laid_met6 os))) ?_
  intro W base args ds gs before hval hW _ _ hwt _ _ _
  exact row_of_PC tOk laidOut (d := 8) (tb := 4) (by kernel_rfl) (by kernel_rfl) (by kernel_rfl) (by kernel_rfl) law6_PC rfl (fun ds h => by
    match ds, h with
    | [_, _, _], _ => rfl) hval hW rfl hwt
theorem said6 : Rows.DiskKeepsSaid :=
  OpenClaim.holds_of_cond 6 Tryd.f6 rfl rfl rfl rfl rfl rfl rfl ⟨rfl, rfl, rfl, rfl, rfl⟩ rfl rfl rfl rfl rfl (by kernel_rfl) Tryd.func6 (by kernel_rfl)
    (of_decide_eq_true (by kernel_rfl)) (by unfold Func.isWrapper; first | (rw [if_pos (by decide +kernel)]; kernel_rfl) | (rw [if_neg (by decide +kernel)]; exact ⟨rfl, rfl⟩))
    (fun os started H enc _ F => by rw [OpenClaim.pre_eq_preRow]; exact lifted6 os started H enc F)
theorem plain6 (f : FuncId) (fn : Func) (hf : Tryd.pinned.checked.prog.funcNamed "tidegate/tidegatelaw44.DiskKeeps" = some f) (hfn : Tryd.pinned.checked.prog.funcs[f]? = some fn) :
    false = Tryd.pinned.checked.prog.looks [] ∧ ∀ (j : Nat) t, fn.params[j]? = some t → Tryd.pinned.checked.prog.wantsStandIn t = false := by
  obtain rfl : f = 6 := Option.some.inj ((show Tryd.prog.funcNamed "tidegate/tidegatelaw44.DiskKeeps" = some 6 by kernel_rfl).symm.trans hf) |>.symm
  obtain rfl : fn = Tryd.f6 := (Option.some.inj (Tryd.func6.symm.trans hfn)).symm
  refine ⟨by kernel_rfl, fun j t ht => ?_⟩
  have hall : (Tryd.f6.params.toList.all fun t => Tryd.prog.wantsStandIn t == false) = true := by kernel_rfl
  have hm : t ∈ Tryd.f6.params.toList := by simpa using Array.mem_of_getElem? ht
  exact beq_iff_eq.1 (List.all_eq_true.1 hall t hm)
end Go.Abs
namespace Go.Proofs.YtopnlikoaljbmaaDoor
open Go Go.Abs
theorem diskKeeps_card : Rows.DiskKeepsCardSaid :=
  Claim7.holds_tied_plain_at .later [] _ _ _ _ said6 (fun _ h => by cases h) (by kernel_rfl) (fun _ h => by cases h) diskKeeps_row_tie rfl ⟨rfl, rfl⟩ (by kernel_rfl) rfl plain6 (by kernel_rfl)
end Go.Proofs.YtopnlikoaljbmaaDoor
