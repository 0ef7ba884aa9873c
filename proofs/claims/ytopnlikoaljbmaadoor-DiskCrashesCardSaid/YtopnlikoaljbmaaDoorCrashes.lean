/- Crash of the program's disk answers as the reference does, whatever the disk and the choices: DiskCrashes returns true for every input. Conditions: those of the given row (the laid tables), tied by the given card. -/
import Derived.Test.YtopnlikoaljbmaaDoorKd
import Derived.Test.YtopnlikoaljbmaaDoorCards
import Derived.Test.YtopnlikoaljbmaaDoorTie
import Derived.Lib.LaidTab
set_option maxRecDepth 100000
namespace Go.Abs
open Go Go.Proofs Go.Proofs.YtopnlikoaljbmaaDoor Go.RowKit

theorem laidOut : laidOutB Tryd.prog = true := by kernel_rfl
theorem own : ownKnob Tryd.prog.godebug = none := by kernel_rfl

/-- A world for the witness: the settled one, the two tables holding what Go's library lays. -/
def tabCells (d : DataW Unit) : List Value := match d with
  | .agg xs => xs.flatMap fun
    | .lit (.int k n) => [.int k n]
    | .agg [.lit (.int k n), .lit (.int k' n')] => [.int k n, .int k' n']
    | _ => []
  | _ => []
def setTab (d : DataW Unit) : Obj → Obj
  | .cells _ t frozen => .cells (tabCells d).toArray t frozen
  | o => o
noncomputable def laidWorld (os : Os) : World :=
  { World.holding Tryd.prog os ⟨#[], #[], []⟩ with heap := ((World.holding Tryd.prog os ⟨#[], #[], []⟩).heap.modify 0 (setTab Rows.laid_unicode_utf8_first)).modify 1 (setTab Rows.laid_unicode_utf8_acceptRanges) }

theorem laid_met (os : Os) (args : Array Value) : laidMet Tryd.prog Rows.diskCrashesRow.laid ((laidWorld os).forCall (fun _ _ => 0) ⟨#[], args, []⟩).memory :=
  laidMet_of_run' 8 (by kernel_rfl) (by kernel_rfl)

noncomputable def args4 : Array Value := #[.agg #[.slice none 0 0, .int .i64 0], .slice none 0 0]
theorem reads4 (os : Os) {H : Type} (enc : TypeId × Value → H) : ∃ ds places, DataW.whole enc Tryd.prog ((laidWorld os).forCall (fun _ _ => 0) ⟨#[], args4, []⟩).memory Tryd.f4.params.toList Rows.diskCrashesSpec.vars false args4.toList 8 = some (ds, [], places) :=
  ⟨[.agg [.nil, .lit (.int .i64 0)], .nil], [], by kernel_rfl⟩

theorem crashes_PC (xs : List AV) (h : ArgsShp T 8 Tryd.f4.params.toList xs) : PC Tryd.prog 4 xs (fun r => r = .bool true) := by
  rw [Tryd.params4] at h
  obtain ⟨k, l, rfl, hk, _⟩ := args_24_34 h
  exact pc4 k l hk

theorem lifted4 (os : Os) (started : os.Started) (H : Type) (enc : TypeId × Value → H) (F : Stop.Interp) :
    ReturnsInHanded {} Tryd.checked os 4 .any ((OpenSpec.ofChange Rows.diskCrashesSpec).preRow enc Tryd.prog Tryd.f4 Rows.diskCrashesRow.domain false Rows.diskCrashesRow.laid) (((OpenSpec.ofChange Rows.diskCrashesSpec).at F).post enc Tryd.prog Tryd.f4 false true false false) := by
  obtain ⟨ds, places, hx⟩ := reads4 os enc
  refine returnsInHanded_of_row (C := Tryd.checked) (s := OpenSpec.ofChange Rows.diskCrashesSpec) own started (by kernel_rfl) Tryd.func4
    (witness_row_at (enc := enc) (C := Tryd.checked) false (laidWorld os) args4 rfl (by kernel_rfl) (by kernel_rfl) (by kernel_rfl)
      (OpenSpec.preRow_of_cond 8 hx (by kernel_rfl) (fun k hk => by cases hk) (by kernel_rfl) (laid_met os args4))) ?_
  intro W base args ds gs before hval hW _ _ hwt _ _ _
  exact row_of_PC tOk laidOut (d := 8) (tb := 4) (by kernel_rfl) (by kernel_rfl) (by kernel_rfl) (by kernel_rfl) crashes_PC rfl (fun ds h => by
    match ds, h with
    | [_, _], _ => rfl) hval hW rfl hwt

theorem said4 : Rows.DiskCrashesSaid :=
  OpenClaim.holds_of_cond 4 Tryd.f4 rfl rfl rfl rfl rfl rfl rfl ⟨rfl, rfl, rfl, rfl, rfl⟩ rfl rfl rfl rfl rfl (by kernel_rfl) Tryd.func4 (by kernel_rfl)
    (of_decide_eq_true (by kernel_rfl)) (by unfold Func.isWrapper; first | (rw [if_pos (by decide +kernel)]; kernel_rfl) | (rw [if_neg (by decide +kernel)]; exact ⟨rfl, rfl⟩))
    (fun os started H enc _ F => by rw [OpenClaim.pre_eq_preRow]; exact lifted4 os started H enc F)
theorem plain4 (f : FuncId) (fn : Func) (hf : Tryd.pinned.checked.prog.funcNamed "tidegate/tidegatelaw44.DiskCrashes" = some f) (hfn : Tryd.pinned.checked.prog.funcs[f]? = some fn) :
    false = Tryd.pinned.checked.prog.looks [] ∧ ∀ (j : Nat) t, fn.params[j]? = some t → Tryd.pinned.checked.prog.wantsStandIn t = false := by
  obtain rfl : f = 4 := Option.some.inj ((show Tryd.prog.funcNamed "tidegate/tidegatelaw44.DiskCrashes" = some 4 by kernel_rfl).symm.trans hf) |>.symm
  obtain rfl : fn = Tryd.f4 := (Option.some.inj (Tryd.func4.symm.trans hfn)).symm
  refine ⟨by kernel_rfl, fun j t ht => ?_⟩
  have hall : (Tryd.f4.params.toList.all fun t => Tryd.prog.wantsStandIn t == false) = true := by kernel_rfl
  have hm : t ∈ Tryd.f4.params.toList := by simpa using Array.mem_of_getElem? ht
  exact beq_iff_eq.1 (List.all_eq_true.1 hall t hm)
end Go.Abs
namespace Go.Proofs.YtopnlikoaljbmaaDoor
open Go Go.Abs
theorem crashes_card : Rows.DiskCrashesCardSaid :=
  Claim7.holds_tied_plain_at .later [] _ _ _ _ said4 (fun _ h => by cases h) (by kernel_rfl) (fun _ h => by cases h) diskCrashes_row_tie rfl ⟨rfl, rfl⟩ (by kernel_rfl) rfl plain4 (by kernel_rfl)
end Go.Proofs.YtopnlikoaljbmaaDoor
