/- Classes and Distinguish return the specified results, or the specified errors, for all automata and states: MinimizeClasses returns true for every input. Conditions: those of the given row (the laid tables), tied by the given card. -/
import Derived.Test.YteghceocnldccaaGreatDoorKj
set_option linter.all false
set_option maxRecDepth 100000
namespace Go.Abs
open Go Go.Proofs Go.Proofs.YteghceocnldccaaGreatDoor Go.RowKit
noncomputable def args_MinimizeClasses : Array Value := #[.agg #[.int .i64 0, .slice none 0 0, .slice none 0 0], .int .i64 0, .int .i64 0]
theorem laid_MinimizeClasses (os : Os) : laidMetH Tryz.prog Rows.minimizeClassesRow.laid ((World.laidAll Tryz.prog os Rows.minimizeClassesRow.laid).forCall (fun _ _ => 0) ⟨#[], args_MinimizeClasses, []⟩).memory :=
  laidMet_laidAll _ (by kernel_rfl) (by kernel_rfl)
theorem reads_MinimizeClasses (os : Os) {H : Type} (enc : TypeId × Value → H) : ∃ ds places, DataW.whole enc Tryz.prog ((World.laidAll Tryz.prog os Rows.minimizeClassesRow.laid).forCall (fun _ _ => 0) ⟨#[], args_MinimizeClasses, []⟩).memory Tryz.f7.params.toList Rows.minimizeClassesSpec.vars false args_MinimizeClasses.toList 16 = some (ds, [], places) :=
  ⟨[.agg [.lit (.int .i64 0), .nil, .nil], .lit (.int .i64 0), .lit (.int .i64 0)], [], by kernel_rfl⟩
theorem lawPC_MinimizeClasses (xs : List AV) (h : Y9 T 16 Tryz.f7.params.toList xs) : PC Tryz.prog 7 xs (fun r => r = .bool true) := by
  rw [Tryz.params7] at h
  obtain ⟨a, _, rfl, h_1⟩ := c1w h
  obtain ⟨p, _, rfl, hp, h_2⟩ := y19 h_1
  obtain ⟨q, _, rfl, hq, h_3⟩ := y19 h_2
  obtain rfl := k10 h_3
  exact Cz a p q
theorem lifted_MinimizeClasses (os : Os) (started : os.Started) (H : Type) (enc : TypeId × Value → H) (F : Stop.Interp) :
    ReturnsInHanded {} Tryz.checked os 7 .any ((OpenSpec.ofChange Rows.minimizeClassesSpec).preRow enc Tryz.prog Tryz.f7 Rows.minimizeClassesRow.domain false Rows.minimizeClassesRow.laid) (((OpenSpec.ofChange Rows.minimizeClassesSpec).at F).post enc Tryz.prog Tryz.f7 false true false false) := by
  obtain ⟨ds, places, hx⟩ := reads_MinimizeClasses os enc
  refine returnsInHanded_of_row (C := Tryz.checked) (s := OpenSpec.ofChange Rows.minimizeClassesSpec) own started (by kernel_rfl) Tryz.func7
    (witness_row_atRef (enc := enc) (C := Tryz.checked) false (World.laidAll Tryz.prog os Rows.minimizeClassesRow.laid) args_MinimizeClasses (World.laidAll_os _ _ _) (by kernel_rfl) (by kernel_rfl) (by kernel_rfl)
      (OpenSpec.preRow_of_cond 16 hx (by kernel_rfl) (fun k hk => by cases hk) (by kernel_rfl) (laid_MinimizeClasses os))) ?_
  intro W base args ds gs before z1 hW _ _ z6 hL hS _;exact k0l tOk laidOut (d := 16) (tb := 4) (by kernel_rfl) (by kernel_rfl) (by kernel_rfl) (by kernel_rfl) (g1l hL (by kernel_rfl)) lawPC_MinimizeClasses rfl (fun ds h => by
    match ds, h with
    | [_, _, _], _ => rfl) z1 hW rfl z6
theorem jfA_MinimizeClasses : (Rows.minimizeClassesRow.inPlace == Tryz.pinned.checked.prog.inPlace 7) = true := by kernel_rfl
theorem jfB_MinimizeClasses : (Rows.minimizeClassesRow.unfollowed == Tryz.pinned.checked.prog.unfollowed 7) = true := by kernel_rfl
theorem jfC_MinimizeClasses : (Rows.minimizeClassesRow.recurses == Tryz.pinned.checked.prog.recurses 7) = true := by kernel_rfl
theorem jfD_MinimizeClasses : (Rows.minimizeClassesRow.named == Tryz.pinned.checked.prog.varsNamed 7) = true := by kernel_rfl
theorem jf_MinimizeClasses : joinedFacts Tryz.pinned.checked.prog 7 Tryz.f7 (OpenSpec.ofChange Rows.minimizeClassesSpec).bare Rows.minimizeClassesRow = true := by
  unfold joinedFacts;rw [jfA_MinimizeClasses, jfB_MinimizeClasses, jfC_MinimizeClasses, jfD_MinimizeClasses]
  kernel_rfl
theorem said_MinimizeClasses : Rows.MinimizeClassesSaid :=
  OpenClaim.holds_of_cond 7 Tryz.f7 rfl rfl rfl rfl rfl rfl rfl ⟨rfl, rfl, rfl, rfl, rfl⟩ rfl rfl rfl rfl rfl (by kernel_rfl) Tryz.func7 jf_MinimizeClasses
    (of_decide_eq_true (by kernel_rfl)) (by unfold Func.isWrapper; first | (rw [if_pos (by decide +kernel)]; kernel_rfl) | (rw [if_neg (by decide +kernel)]; exact ⟨rfl, rfl⟩))
    (fun os started H enc _ F => by rw [OpenClaim.pre_eq_preRow]; exact lifted_MinimizeClasses os started H enc F)
theorem plain_MinimizeClasses (f : FuncId) (fn : Func) (hf : Tryz.pinned.checked.prog.funcNamed "tidegate/tidegatelaw30.MinimizeClasses" = some f) (hfn : Tryz.pinned.checked.prog.funcs[f]? = some fn) :
    false = Tryz.pinned.checked.prog.looks [] ∧ ∀ (j : Nat) t, fn.params[j]? = some t → Tryz.pinned.checked.prog.wantsStandIn t = false := by
  obtain rfl : f = 7 := Option.some.inj ((show Tryz.prog.funcNamed "tidegate/tidegatelaw30.MinimizeClasses" = some 7 by kernel_rfl).symm.trans hf) |>.symm
  obtain rfl : fn = Tryz.f7 := (Option.some.inj (Tryz.func7.symm.trans hfn)).symm
  refine ⟨by kernel_rfl, fun j t ht => ?_⟩
  have z1 : (Tryz.f7.params.toList.all fun t => Tryz.prog.wantsStandIn t == false) = true := by kernel_rfl
  have hm : t ∈ Tryz.f7.params.toList := by simpa using Array.mem_of_getElem? ht
  exact beq_iff_eq.1 (List.all_eq_true.1 z1 t hm)
end Go.Abs
namespace Go.Proofs.YteghceocnldccaaGreatDoor
open Go Go.Abs
theorem minimizeClasses_card : Rows.MinimizeClassesCardSaid :=
  Claim7.holds_tied_plain_at .later [] _ _ _ _ said_MinimizeClasses (fun _ h => by cases h) (by kernel_rfl) (fun _ h => by cases h) minimizeClasses_row_tie rfl ⟨rfl, rfl⟩ (by kernel_rfl) rfl plain_MinimizeClasses (by kernel_rfl)
end Go.Proofs.YteghceocnldccaaGreatDoor
