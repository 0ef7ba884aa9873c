import Derived.Test.YtdcnaocpompcpaaGreatDoorYc
import Derived.Lay
import Derived.LaidSub
import Derived.Deep.DeepWitnessRowRef
import Derived.Test.YtdcnaocpompcpaaGreatDoorCards
import Derived.Test.YtdcnaocpompcpaaGreatDoorTie
import Derived.Lib.LaidTab
import Derived.Shelf.Vars
set_option linter.all false
set_option maxRecDepth 100000
namespace Go.Abs
open Go Go.Proofs Go.Proofs.YtdcnaocpompcpaaGreatDoor Go.RowKit
noncomputable def args_TopCommitsOnce: Array Value := #[.slice none 0 0, .slice none 0 0]
theorem laid_TopCommitsOnce(os : Os): laidMetH Tryz.prog Rows.topCommitsOnceRow.laid ((World.laidAll Tryz.prog os Rows.topCommitsOnceRow.laid).forCall (fun _ _ => 0) ⟨#[], args_TopCommitsOnce, []⟩).memory :=
  laidMet_laidAll _ (by kernel_rfl) (by kernel_rfl)
theorem reads_TopCommitsOnce(os : Os){H : Type}(enc : TypeId × Value → H): ∃ ds places, DataW.whole enc Tryz.prog ((World.laidAll Tryz.prog os Rows.topCommitsOnceRow.laid).forCall (fun _ _ => 0) ⟨#[], args_TopCommitsOnce, []⟩).memory Tryz.f3.params.toList Rows.topCommitsOnceSpec.vars false args_TopCommitsOnce.toList 16 = some (ds, [], places) :=
  ⟨[.nil, .nil], [], by kernel_rfl⟩
theorem jfA_TopCommitsOnce: (Rows.topCommitsOnceRow.inPlace == Tryz.pinned.checked.prog.inPlace 3) = true := by kernel_rfl
theorem jfB_TopCommitsOnce: (Rows.topCommitsOnceRow.unfollowed == Tryz.pinned.checked.prog.unfollowed 3) = true := by kernel_rfl
theorem jfC_TopCommitsOnce: (Rows.topCommitsOnceRow.recurses == Tryz.pinned.checked.prog.recurses 3) = true := by kernel_rfl
theorem jfD_TopCommitsOnce: (Rows.topCommitsOnceRow.named == Tryz.pinned.checked.prog.varsNamed 3) = true := by kernel_rfl
theorem jf_TopCommitsOnce: joinedFacts Tryz.pinned.checked.prog 3 Tryz.f3 (OpenSpec.ofChange Rows.topCommitsOnceSpec).bare Rows.topCommitsOnceRow = true := by unfold joinedFacts;rw[jfA_TopCommitsOnce, jfB_TopCommitsOnce, jfC_TopCommitsOnce, jfD_TopCommitsOnce];kernel_rfl
theorem plain_TopCommitsOnce (f : FuncId) (fn : Func) (hf : Tryz.pinned.checked.prog.funcNamed "tidegate/tidegatetop.TopCommitsOnce" = some f) (hfn : Tryz.pinned.checked.prog.funcs[f]? = some fn) :
    true = Tryz.pinned.checked.prog.looks [] ∧ ∀ (j : Nat) t, fn.params[j]? = some t → Tryz.pinned.checked.prog.wantsStandIn t = false := by
  obtain rfl : f = 3 := Option.some.inj ((show Tryz.prog.funcNamed "tidegate/tidegatetop.TopCommitsOnce" = some 3 by kernel_rfl).symm.trans hf) |>.symm
  obtain rfl : fn = Tryz.f3 := (Option.some.inj (Tryz.func3.symm.trans hfn)).symm
  refine⟨by kernel_rfl, fun j t ht => ?_⟩
  have z1 : (Tryz.f3.params.toList.all fun t => Tryz.prog.wantsStandIn t == false) = true := by kernel_rfl
  have hm : t ∈ Tryz.f3.params.toList := by simpa using Array.mem_of_getElem? ht
  exact beq_iff_eq.1 (List.all_eq_true.1 z1 t hm)
end Go.Abs
namespace Go.Proofs.YtdcnaocpompcpaaGreatDoor
open Go Go.Abs
theorem cdA_TopCommitsOnce: OpenClaim.wfByText (OpenSpec.ofChange Rows.topCommitsOnceSpec) Rows.topCommitsOnceRow = true := by kernel_rfl
theorem cdB_TopCommitsOnce: Tryz.pinned.checked.prog.mainIs = some (Rows.topCommitsOnceCard.stood.harness.1, Rows.topCommitsOnceCard.stood.harness.2.toList) := by kernel_rfl
theorem cdC_TopCommitsOnce: false = Rows.topCommitsOnceRow.goesBy Tryz.pinned.checked.prog := by kernel_rfl
end Go.Proofs.YtdcnaocpompcpaaGreatDoor
