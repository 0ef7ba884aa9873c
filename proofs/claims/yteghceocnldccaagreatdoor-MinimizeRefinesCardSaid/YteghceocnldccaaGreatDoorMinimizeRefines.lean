/- Refine returns the specified proof, or the specified error, for all automata, and Verify accepts exactly the proofs: MinimizeRefines returns true for every input. Conditions: those of the given row (the laid tables), tied by the given card. -/
import Derived.Test.YteghceocnldccaaGreatDoorRj
set_option linter.all false
set_option maxRecDepth 100000
namespace Go.Abs
open Go Go.Proofs Go.Proofs.YteghceocnldccaaGreatDoor Go.RowKit
noncomputable def args_MinimizeRefines: Array Value := #[.agg #[.int .i64 0, .slice none 0 0, .slice none 0 0], .slice none 0 0]
theorem laid_MinimizeRefines(os : Os): laidMetH Tryz.prog Rows.minimizeRefinesRow.laid ((World.laidAll Tryz.prog os Rows.minimizeRefinesRow.laid).forCall (fun _ _ => 0) ⟨#[], args_MinimizeRefines, []⟩).memory :=
  laidMet_laidAll _ (by kernel_rfl) (by kernel_rfl)
theorem reads_MinimizeRefines(os : Os){H : Type}(enc : TypeId × Value → H): ∃ ds places, DataW.whole enc Tryz.prog ((World.laidAll Tryz.prog os Rows.minimizeRefinesRow.laid).forCall (fun _ _ => 0) ⟨#[], args_MinimizeRefines, []⟩).memory Tryz.f9.params.toList Rows.minimizeRefinesSpec.vars false args_MinimizeRefines.toList 16 = some (ds, [], places) :=
  ⟨[.agg [.lit (.int .i64 0), .nil, .nil], .nil], [], by kernel_rfl⟩
theorem lawPC_MinimizeRefines(xs : List AV)(h : U6 T 16 Tryz.f9.params.toList xs): PC Tryz.prog 9 xs (fun r => r = .bool true) := by rw[Tryz.params9]at h;obtain⟨a, _, rfl, h_1⟩ := w2p h;obtain⟨p, _, rfl, h_2⟩ := q2c h_1;obtain rfl := g1p h_2;exact Bi a p
theorem lifted_MinimizeRefines(os : Os)(started : os.Started)(H : Type)(enc : TypeId × Value → H)(F : Stop.Interp):
    ReturnsInHanded {} Tryz.checked os 9 .any ((OpenSpec.ofChange Rows.minimizeRefinesSpec).preRow enc Tryz.prog Tryz.f9 Rows.minimizeRefinesRow.domain false Rows.minimizeRefinesRow.laid) (((OpenSpec.ofChange Rows.minimizeRefinesSpec).at F).post enc Tryz.prog Tryz.f9 false true false false) := by
  obtain⟨ds, places, hx⟩ := reads_MinimizeRefines os enc;refine returnsInHanded_of_row (C := Tryz.checked) (s := OpenSpec.ofChange Rows.minimizeRefinesSpec) own started (by kernel_rfl) Tryz.func9
    (witness_row_atRef (enc := enc) (C := Tryz.checked) false (World.laidAll Tryz.prog os Rows.minimizeRefinesRow.laid) args_MinimizeRefines (World.laidAll_os _ _ _) (by kernel_rfl) (by kernel_rfl) (by kernel_rfl)
      (OpenSpec.preRow_of_cond 16 hx (by kernel_rfl) (fun k hk => by cases hk) (by kernel_rfl) (laid_MinimizeRefines os))) ?_
  intro W base args ds gs before z1 hW _ _ z6 hL hS _;exact g04 tOk laidOut (d := 16) (tb := 4) (by kernel_rfl) (by kernel_rfl) (by kernel_rfl) (by kernel_rfl) (q2o hL (by kernel_rfl)) lawPC_MinimizeRefines rfl (fun ds h => by
    match ds, h with
    | [_, _], _ => rfl) z1 hW rfl z6
theorem jfA_MinimizeRefines: (Rows.minimizeRefinesRow.inPlace == Tryz.pinned.checked.prog.inPlace 9) = true := by kernel_rfl
theorem jfB_MinimizeRefines: (Rows.minimizeRefinesRow.unfollowed == Tryz.pinned.checked.prog.unfollowed 9) = true := by kernel_rfl
theorem jfC_MinimizeRefines: (Rows.minimizeRefinesRow.recurses == Tryz.pinned.checked.prog.recurses 9) = true := by kernel_rfl
theorem jfD_MinimizeRefines: (Rows.minimizeRefinesRow.named == Tryz.pinned.checked.prog.varsNamed 9) = true := by kernel_rfl
theorem jf_MinimizeRefines: joinedFacts Tryz.pinned.checked.prog 9 Tryz.f9 (OpenSpec.ofChange Rows.minimizeRefinesSpec).bare Rows.minimizeRefinesRow = true := by unfold joinedFacts;rw[jfA_MinimizeRefines, jfB_MinimizeRefines, jfC_MinimizeRefines, jfD_MinimizeRefines];kernel_rfl
theorem said_MinimizeRefines: Rows.MinimizeRefinesSaid :=
  OpenClaim.holds_of_cond 9 Tryz.f9 rfl rfl rfl rfl rfl rfl rfl ⟨rfl, rfl, rfl, rfl, rfl⟩ rfl rfl rfl rfl rfl (by kernel_rfl) Tryz.func9 jf_MinimizeRefines
    (of_decide_eq_true (by kernel_rfl)) (by unfold Func.isWrapper; first | (rw[if_pos (by decide +kernel)]; kernel_rfl) | (rw[if_neg (by decide +kernel)]; exact⟨rfl, rfl⟩))
    (fun os started H enc _ F => by rw[OpenClaim.pre_eq_preRow]; exact lifted_MinimizeRefines os started H enc F)
theorem plain_MinimizeRefines (f : FuncId) (fn : Func) (hf : Tryz.pinned.checked.prog.funcNamed "tidegate/tidegatelaw30.MinimizeRefines" = some f) (hfn : Tryz.pinned.checked.prog.funcs[f]? = some fn) :
    false = Tryz.pinned.checked.prog.looks [] ∧ ∀ (j : Nat) t, fn.params[j]? = some t → Tryz.pinned.checked.prog.wantsStandIn t = false := by
  obtain rfl : f = 9 := Option.some.inj ((show Tryz.prog.funcNamed "tidegate/tidegatelaw30.MinimizeRefines" = some 9 by kernel_rfl).symm.trans hf) |>.symm
  obtain rfl : fn = Tryz.f9 := (Option.some.inj (Tryz.func9.symm.trans hfn)).symm
  refine⟨by kernel_rfl, fun j t ht => ?_⟩
  have z1 : (Tryz.f9.params.toList.all fun t => Tryz.prog.wantsStandIn t == false) = true := by kernel_rfl
  have hm : t ∈ Tryz.f9.params.toList := by simpa using Array.mem_of_getElem? ht
  exact beq_iff_eq.1 (List.all_eq_true.1 z1 t hm)
end Go.Abs
namespace Go.Proofs.YteghceocnldccaaGreatDoor
open Go Go.Abs
theorem minimizeRefines_card: Rows.MinimizeRefinesCardSaid :=
  Claim7.holds_tied_plain_at .later [] _ _ _ _ said_MinimizeRefines (fun _ h => by cases h) (by kernel_rfl) (fun _ h => by cases h) minimizeRefines_row_tie rfl ⟨rfl, rfl⟩ (by kernel_rfl) rfl plain_MinimizeRefines (by kernel_rfl)
end Go.Proofs.YteghceocnldccaaGreatDoor
