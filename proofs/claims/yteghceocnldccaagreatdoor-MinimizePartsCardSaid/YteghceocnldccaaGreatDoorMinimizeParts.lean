/- A word that is returned distinguishes the states, and equivalent states accept the same words; classes say which states are equivalent: MinimizeParts returns true for every input. Conditions: those of the given row (the laid tables), tied by the given card. -/
import Derived.Test.YteghceocnldccaaGreatDoorPj
set_option linter.all false
set_option maxRecDepth 100000
namespace Go.Abs
open Go Go.Proofs Go.Proofs.YteghceocnldccaaGreatDoor Go.RowKit
noncomputable def args_MinimizeParts : Array Value := #[.agg #[.int .i64 0, .slice none 0 0, .slice none 0 0], .agg #[.int .u8 0, .int .u8 0], .slice none 0 0]
theorem laid_MinimizeParts (os : Os) : laidMetH Tryz.prog Rows.minimizePartsRow.laid ((World.laidAll Tryz.prog os Rows.minimizePartsRow.laid).forCall (fun _ _ => 0) ⟨#[], args_MinimizeParts, []⟩).memory :=
  laidMet_laidAll _ (by kernel_rfl) (by kernel_rfl)
theorem reads_MinimizeParts (os : Os) {H : Type} (enc : TypeId × Value → H) : ∃ ds places, DataW.whole enc Tryz.prog ((World.laidAll Tryz.prog os Rows.minimizePartsRow.laid).forCall (fun _ _ => 0) ⟨#[], args_MinimizeParts, []⟩).memory Tryz.f8.params.toList Rows.minimizePartsSpec.vars false args_MinimizeParts.toList 16 = some (ds, [], places) :=
  ⟨[.agg [.lit (.int .i64 0), .nil, .nil], .agg [.lit (.int .u8 0), .lit (.int .u8 0)], .nil], [], by kernel_rfl⟩
theorem lawPC_MinimizeParts (xs : List AV) (h : Tr T 16 Tryz.f8.params.toList xs) : PC Tryz.prog 8 xs (fun r => r = .bool true) := by
  rw [Tryz.params8] at h
  obtain ⟨a, _, rfl, h_1⟩ := k11 h
  obtain ⟨u, _, rfl, hu, h_2⟩ := q2d h_1
  obtain ⟨w, _, rfl, h_3⟩ := j1c h_2
  obtain rfl := v15 h_3
  exact z0n a u.1 u.2 hu.1 hu.2 w
theorem lifted_MinimizeParts (os : Os) (started : os.Started) (H : Type) (enc : TypeId × Value → H) (F : Stop.Interp) :
    ReturnsInHanded {} Tryz.checked os 8 .any ((OpenSpec.ofChange Rows.minimizePartsSpec).preRow enc Tryz.prog Tryz.f8 Rows.minimizePartsRow.domain false Rows.minimizePartsRow.laid) (((OpenSpec.ofChange Rows.minimizePartsSpec).at F).post enc Tryz.prog Tryz.f8 false true false false) := by
  obtain ⟨ds, places, hx⟩ := reads_MinimizeParts os enc
  refine returnsInHanded_of_row (C := Tryz.checked) (s := OpenSpec.ofChange Rows.minimizePartsSpec) own started (by kernel_rfl) Tryz.func8
    (witness_row_atRef (enc := enc) (C := Tryz.checked) false (World.laidAll Tryz.prog os Rows.minimizePartsRow.laid) args_MinimizeParts (World.laidAll_os _ _ _) (by kernel_rfl) (by kernel_rfl) (by kernel_rfl)
      (OpenSpec.preRow_of_cond 16 hx (by kernel_rfl) (fun k hk => by cases hk) (by kernel_rfl) (laid_MinimizeParts os))) ?_
  intro W base args ds gs before z1 hW _ _ z6 hL hS _;exact g00 tOk laidOut (d := 16) (tb := 4) (by kernel_rfl) (by kernel_rfl) (by kernel_rfl) (by kernel_rfl) (f1a hL (by kernel_rfl)) lawPC_MinimizeParts rfl (fun ds h => by
    match ds, h with
    | [_, _, _], _ => rfl) z1 hW rfl z6
theorem jfA_MinimizeParts : (Rows.minimizePartsRow.inPlace == Tryz.pinned.checked.prog.inPlace 8) = true := by kernel_rfl
theorem jfB_MinimizeParts : (Rows.minimizePartsRow.unfollowed == Tryz.pinned.checked.prog.unfollowed 8) = true := by kernel_rfl
theorem jfC_MinimizeParts : (Rows.minimizePartsRow.recurses == Tryz.pinned.checked.prog.recurses 8) = true := by kernel_rfl
theorem jfD_MinimizeParts : (Rows.minimizePartsRow.named == Tryz.pinned.checked.prog.varsNamed 8) = true := by kernel_rfl
theorem jf_MinimizeParts : joinedFacts Tryz.pinned.checked.prog 8 Tryz.f8 (OpenSpec.ofChange Rows.minimizePartsSpec).bare Rows.minimizePartsRow = true := by
  unfold joinedFacts;rw [jfA_MinimizeParts, jfB_MinimizeParts, jfC_MinimizeParts, jfD_MinimizeParts]
  kernel_rfl
theorem said_MinimizeParts : Rows.MinimizePartsSaid :=
  OpenClaim.holds_of_cond 8 Tryz.f8 rfl rfl rfl rfl rfl rfl rfl ⟨rfl, rfl, rfl, rfl, rfl⟩ rfl rfl rfl rfl rfl (by kernel_rfl) Tryz.func8 jf_MinimizeParts
    (of_decide_eq_true (by kernel_rfl)) (by unfold Func.isWrapper; first | (rw [if_pos (by decide +kernel)]; kernel_rfl) | (rw [if_neg (by decide +kernel)]; exact ⟨rfl, rfl⟩))
    (fun os started H enc _ F => by rw [OpenClaim.pre_eq_preRow]; exact lifted_MinimizeParts os started H enc F)
theorem plain_MinimizeParts (f : FuncId) (fn : Func) (hf : Tryz.pinned.checked.prog.funcNamed "tidegate/tidegatelaw30.MinimizeParts" = some f) (hfn : Tryz.pinned.checked.prog.funcs[f]? = some fn) :
    false = Tryz.pinned.checked.prog.looks [] ∧ ∀ (j : Nat) t, fn.params[j]? = some t → Tryz.pinned.checked.prog.wantsStandIn t = false := by
  obtain rfl : f = 8 := Option.some.inj ((show Tryz.prog.funcNamed "tidegate/tidegatelaw30.MinimizeParts" = some 8 by kernel_rfl).symm.trans hf) |>.symm
  obtain rfl : fn = Tryz.f8 := (Option.some.inj (Tryz.func8.symm.trans hfn)).symm
  refine ⟨by kernel_rfl, fun j t ht => ?_⟩
  have z1 : (Tryz.f8.params.toList.all fun t => Tryz.prog.wantsStandIn t == false) = true := by kernel_rfl
  have hm : t ∈ Tryz.f8.params.toList := by simpa using Array.mem_of_getElem? ht
  exact beq_iff_eq.1 (List.all_eq_true.1 z1 t hm)
end Go.Abs
namespace Go.Proofs.YteghceocnldccaaGreatDoor
open Go Go.Abs
theorem minimizeParts_card : Rows.MinimizePartsCardSaid :=
  Claim7.holds_tied_plain_at .later [] _ _ _ _ said_MinimizeParts (fun _ h => by cases h) (by kernel_rfl) (fun _ h => by cases h) minimizeParts_row_tie rfl ⟨rfl, rfl⟩ (by kernel_rfl) rfl plain_MinimizeParts (by kernel_rfl)
end Go.Proofs.YteghceocnldccaaGreatDoor
