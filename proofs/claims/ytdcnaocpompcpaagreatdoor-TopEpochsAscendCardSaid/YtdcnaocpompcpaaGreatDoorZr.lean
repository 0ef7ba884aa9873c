import Derived.Test.YtdcnaocpompcpaaGreatDoorZc
import Derived.Lay
import Derived.LaidSub
import Derived.Deep.DeepWitnessRowRef
import Derived.Test.YtdcnaocpompcpaaGreatDoorCards
import Derived.Test.YtdcnaocpompcpaaGreatDoorTie
import Derived.Lib.LaidTab
import Derived.Shelf.Vars
set_option linter.all false
set_option maxRecDepth 100000
namespace Go.Abs
open Go Go.Proofs Go.Proofs.YtdcnaocpompcpaaGreatDoor Go.RowKit
noncomputable def args_TopEpochsAscend: Array Value := #[.int .u8 0, .slice none 0 0]
theorem laid_TopEpochsAscend(os : Os): laidMetH Tryz.prog Rows.topEpochsAscendRow.laid ((World.laidAll Tryz.prog os Rows.topEpochsAscendRow.laid).forCall (fun _ _ => 0) ⟨#[], args_TopEpochsAscend, []⟩).memory :=
  laidMet_laidAll _ (by kernel_rfl) (by kernel_rfl)
theorem reads_TopEpochsAscend(os : Os){H : Type}(enc : TypeId × Value → H): ∃ ds places, DataW.whole enc Tryz.prog ((World.laidAll Tryz.prog os Rows.topEpochsAscendRow.laid).forCall (fun _ _ => 0) ⟨#[], args_TopEpochsAscend, []⟩).memory Tryz.f4.params.toList Rows.topEpochsAscendSpec.vars false args_TopEpochsAscend.toList 16 = some (ds, [], places) :=
  ⟨[.lit (.int .u8 0), .nil], [], by kernel_rfl⟩
theorem jfA_TopEpochsAscend: (Rows.topEpochsAscendRow.inPlace == Tryz.pinned.checked.prog.inPlace 4) = true := by kernel_rfl
theorem jfB_TopEpochsAscend: (Rows.topEpochsAscendRow.unfollowed == Tryz.pinned.checked.prog.unfollowed 4) = true := by kernel_rfl
theorem jfC_TopEpochsAscend: (Rows.topEpochsAscendRow.recurses == Tryz.pinned.checked.prog.recurses 4) = true := by kernel_rfl
theorem jfD_TopEpochsAscend: (Rows.topEpochsAscendRow.named == Tryz.pinned.checked.prog.varsNamed 4) = true := by kernel_rfl
theorem jf_TopEpochsAscend: joinedFacts Tryz.pinned.checked.prog 4 Tryz.f4 (OpenSpec.ofChange Rows.topEpochsAscendSpec).bare Rows.topEpochsAscendRow = true := by unfold joinedFacts;rw[jfA_TopEpochsAscend, jfB_TopEpochsAscend, jfC_TopEpochsAscend, jfD_TopEpochsAscend];kernel_rfl
theorem plain_TopEpochsAscend (f : FuncId) (fn : Func) (hf : Tryz.pinned.checked.prog.funcNamed "tidegate/tidegatetop.TopEpochsAscend" = some f) (hfn : Tryz.pinned.checked.prog.funcs[f]? = some fn) :
    true = Tryz.pinned.checked.prog.looks [] ∧ ∀ (j : Nat) t, fn.params[j]? = some t → Tryz.pinned.checked.prog.wantsStandIn t = false := by
  obtain rfl : f = 4 := Option.some.inj ((show Tryz.prog.funcNamed "tidegate/tidegatetop.TopEpochsAscend" = some 4 by kernel_rfl).symm.trans hf) |>.symm
  obtain rfl : fn = Tryz.f4 := (Option.some.inj (Tryz.func4.symm.trans hfn)).symm
  refine⟨by kernel_rfl, fun j t ht => ?_⟩
  have z1 : (Tryz.f4.params.toList.all fun t => Tryz.prog.wantsStandIn t == false) = true := by kernel_rfl
  have hm : t ∈ Tryz.f4.params.toList := by simpa using Array.mem_of_getElem? ht
  exact beq_iff_eq.1 (List.all_eq_true.1 z1 t hm)
end Go.Abs
namespace Go.Proofs.YtdcnaocpompcpaaGreatDoor
open Go Go.Abs
theorem cdA_TopEpochsAscend: OpenClaim.wfByText (OpenSpec.ofChange Rows.topEpochsAscendSpec) Rows.topEpochsAscendRow = true := by kernel_rfl
theorem cdB_TopEpochsAscend: Tryz.pinned.checked.prog.mainIs = some (Rows.topEpochsAscendCard.stood.harness.1, Rows.topEpochsAscendCard.stood.harness.2.toList) := by kernel_rfl
theorem cdC_TopEpochsAscend: false = Rows.topEpochsAscendRow.goesBy Tryz.pinned.checked.prog := by kernel_rfl
end Go.Proofs.YtdcnaocpompcpaaGreatDoor
