/- Isomorphic returns the specified numbering, or the specified error, for all pairs of automata: MinimizeNumbers returns true for every input. Conditions: those of the given row (the laid tables), tied by the given card. -/
import Derived.Test.YteghceocnldccaaGreatDoorNj
set_option linter.all false
set_option maxRecDepth 100000
namespace Go.Abs
open Go Go.Proofs Go.Proofs.YteghceocnldccaaGreatDoor Go.RowKit
noncomputable def args_MinimizeNumbers: Array Value := #[.agg #[.int .i64 0, .slice none 0 0, .slice none 0 0], .agg #[.int .i64 0, .slice none 0 0, .slice none 0 0]]
theorem laid_MinimizeNumbers(os : Os): laidMetH Tryz.prog Rows.minimizeNumbersRow.laid ((World.laidAll Tryz.prog os Rows.minimizeNumbersRow.laid).forCall (fun _ _ => 0) ⟨#[], args_MinimizeNumbers, []⟩).memory :=
  laidMet_laidAll _ (by kernel_rfl) (by kernel_rfl)
theorem reads_MinimizeNumbers(os : Os){H : Type}(enc : TypeId × Value → H): ∃ ds places, DataW.whole enc Tryz.prog ((World.laidAll Tryz.prog os Rows.minimizeNumbersRow.laid).forCall (fun _ _ => 0) ⟨#[], args_MinimizeNumbers, []⟩).memory Tryz.f10.params.toList Rows.minimizeNumbersSpec.vars false args_MinimizeNumbers.toList 16 = some (ds, [], places) :=
  ⟨[.agg [.lit (.int .i64 0), .nil, .nil], .agg [.lit (.int .i64 0), .nil, .nil]], [], by kernel_rfl⟩
theorem lawPC_MinimizeNumbers(xs : List AV)(h : O9 T 16 Tryz.f10.params.toList xs): PC Tryz.prog 10 xs (fun r => r = .bool true) := by rw[Tryz.params10]at h;obtain⟨a, _, rfl, h_1⟩ := x1r h;obtain⟨b, _, rfl, h_2⟩ := x1r h_1;obtain rfl := k1b h_2;exact X1 a b
theorem lifted_MinimizeNumbers(os : Os)(started : os.Started)(H : Type)(enc : TypeId × Value → H)(F : Stop.Interp):
    ReturnsInHanded {} Tryz.checked os 10 .any ((OpenSpec.ofChange Rows.minimizeNumbersSpec).preRow enc Tryz.prog Tryz.f10 Rows.minimizeNumbersRow.domain false Rows.minimizeNumbersRow.laid) (((OpenSpec.ofChange Rows.minimizeNumbersSpec).at F).post enc Tryz.prog Tryz.f10 false true false false) := by
  obtain⟨ds, places, hx⟩ := reads_MinimizeNumbers os enc;refine returnsInHanded_of_row (C := Tryz.checked) (s := OpenSpec.ofChange Rows.minimizeNumbersSpec) own started (by kernel_rfl) Tryz.func10
    (witness_row_atRef (enc := enc) (C := Tryz.checked) false (World.laidAll Tryz.prog os Rows.minimizeNumbersRow.laid) args_MinimizeNumbers (World.laidAll_os _ _ _) (by kernel_rfl) (by kernel_rfl) (by kernel_rfl)
      (OpenSpec.preRow_of_cond 16 hx (by kernel_rfl) (fun k hk => by cases hk) (by kernel_rfl) (laid_MinimizeNumbers os))) ?_
  intro W base args ds gs before z1 hW _ _ z6 hL hS _;exact d0e tOk laidOut (d := 16) (tb := 4) (by kernel_rfl) (by kernel_rfl) (by kernel_rfl) (by kernel_rfl) (c1v hL (by kernel_rfl)) lawPC_MinimizeNumbers rfl (fun ds h => by
    match ds, h with
    | [_, _], _ => rfl) z1 hW rfl z6
theorem jfA_MinimizeNumbers: (Rows.minimizeNumbersRow.inPlace == Tryz.pinned.checked.prog.inPlace 10) = true := by kernel_rfl
theorem jfB_MinimizeNumbers: (Rows.minimizeNumbersRow.unfollowed == Tryz.pinned.checked.prog.unfollowed 10) = true := by kernel_rfl
theorem jfC_MinimizeNumbers: (Rows.minimizeNumbersRow.recurses == Tryz.pinned.checked.prog.recurses 10) = true := by kernel_rfl
theorem jfD_MinimizeNumbers: (Rows.minimizeNumbersRow.named == Tryz.pinned.checked.prog.varsNamed 10) = true := by kernel_rfl
theorem jf_MinimizeNumbers: joinedFacts Tryz.pinned.checked.prog 10 Tryz.f10 (OpenSpec.ofChange Rows.minimizeNumbersSpec).bare Rows.minimizeNumbersRow = true := by unfold joinedFacts;rw[jfA_MinimizeNumbers, jfB_MinimizeNumbers, jfC_MinimizeNumbers, jfD_MinimizeNumbers];kernel_rfl
theorem said_MinimizeNumbers: Rows.MinimizeNumbersSaid :=
  OpenClaim.holds_of_cond 10 Tryz.f10 rfl rfl rfl rfl rfl rfl rfl ⟨rfl, rfl, rfl, rfl, rfl⟩ rfl rfl rfl rfl rfl (by kernel_rfl) Tryz.func10 jf_MinimizeNumbers
    (of_decide_eq_true (by kernel_rfl)) (by unfold Func.isWrapper; first | (rw[if_pos (by decide +kernel)]; kernel_rfl) | (rw[if_neg (by decide +kernel)]; exact⟨rfl, rfl⟩))
    (fun os started H enc _ F => by rw[OpenClaim.pre_eq_preRow]; exact lifted_MinimizeNumbers os started H enc F)
theorem plain_MinimizeNumbers (f : FuncId) (fn : Func) (hf : Tryz.pinned.checked.prog.funcNamed "tidegate/tidegatelaw30.MinimizeNumbers" = some f) (hfn : Tryz.pinned.checked.prog.funcs[f]? = some fn) :
    false = Tryz.pinned.checked.prog.looks [] ∧ ∀ (j : Nat) t, fn.params[j]? = some t → Tryz.pinned.checked.prog.wantsStandIn t = false := by
  obtain rfl : f = 10 := Option.some.inj ((show Tryz.prog.funcNamed "tidegate/tidegatelaw30.MinimizeNumbers" = some 10 by kernel_rfl).symm.trans hf) |>.symm
  obtain rfl : fn = Tryz.f10 := (Option.some.inj (Tryz.func10.symm.trans hfn)).symm
  refine⟨by kernel_rfl, fun j t ht => ?_⟩
  have z1 : (Tryz.f10.params.toList.all fun t => Tryz.prog.wantsStandIn t == false) = true := by kernel_rfl
  have hm : t ∈ Tryz.f10.params.toList := by simpa using Array.mem_of_getElem? ht
  exact beq_iff_eq.1 (List.all_eq_true.1 z1 t hm)
end Go.Abs
namespace Go.Proofs.YteghceocnldccaaGreatDoor
open Go Go.Abs
theorem minimizeNumbers_card: Rows.MinimizeNumbersCardSaid :=
  Claim7.holds_tied_plain_at .later [] _ _ _ _ said_MinimizeNumbers (fun _ h => by cases h) (by kernel_rfl) (fun _ h => by cases h) minimizeNumbers_row_tie rfl ⟨rfl, rfl⟩ (by kernel_rfl) rfl plain_MinimizeNumbers (by kernel_rfl)
end Go.Proofs.YteghceocnldccaaGreatDoor
