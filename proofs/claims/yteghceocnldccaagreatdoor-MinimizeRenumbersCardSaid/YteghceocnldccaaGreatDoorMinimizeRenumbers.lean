/- An automaton whose states are numbered in another way is isomorphic to it, and has the same minimal automaton: MinimizeRenumbers returns true for every input. Conditions: those of the given row (the laid tables), tied by the given card. -/
import Derived.Test.YteghceocnldccaaGreatDoorTj
set_option linter.all false
set_option maxRecDepth 100000
namespace Go.Abs
open Go Go.Proofs Go.Proofs.YteghceocnldccaaGreatDoor Go.RowKit
noncomputable def args_MinimizeRenumbers: Array Value := #[.agg #[.int .i64 0, .slice none 0 0, .slice none 0 0], .int .u8 0]
theorem laid_MinimizeRenumbers(os : Os): laidMetH Tryz.prog Rows.minimizeRenumbersRow.laid ((World.laidAll Tryz.prog os Rows.minimizeRenumbersRow.laid).forCall (fun _ _ => 0) ⟨#[], args_MinimizeRenumbers, []⟩).memory :=
  laidMet_laidAll _ (by kernel_rfl) (by kernel_rfl)
theorem reads_MinimizeRenumbers(os : Os){H : Type}(enc : TypeId × Value → H): ∃ ds places, DataW.whole enc Tryz.prog ((World.laidAll Tryz.prog os Rows.minimizeRenumbersRow.laid).forCall (fun _ _ => 0) ⟨#[], args_MinimizeRenumbers, []⟩).memory Tryz.f11.params.toList Rows.minimizeRenumbersSpec.vars false args_MinimizeRenumbers.toList 16 = some (ds, [], places) :=
  ⟨[.agg [.lit (.int .i64 0), .nil, .nil], .lit (.int .u8 0)], [], by kernel_rfl⟩
theorem lawPC_MinimizeRenumbers(xs : List AV)(h : Ux T 16 Tryz.f11.params.toList xs): PC Tryz.prog 11 xs (fun r => r = .bool true) := by rw[Tryz.params11]at h;obtain⟨a, _, rfl, h_1⟩ := f1b h;obtain⟨u, _, rfl, hu, h_2⟩ := w2w h_1;obtain rfl := u1w h_2;exact Hs a u hu.1 hu.2
theorem lifted_MinimizeRenumbers(os : Os)(started : os.Started)(H : Type)(enc : TypeId × Value → H)(F : Stop.Interp):
    ReturnsInHanded {} Tryz.checked os 11 .any ((OpenSpec.ofChange Rows.minimizeRenumbersSpec).preRow enc Tryz.prog Tryz.f11 Rows.minimizeRenumbersRow.domain false Rows.minimizeRenumbersRow.laid) (((OpenSpec.ofChange Rows.minimizeRenumbersSpec).at F).post enc Tryz.prog Tryz.f11 false true false false) := by
  obtain⟨ds, places, hx⟩ := reads_MinimizeRenumbers os enc;refine returnsInHanded_of_row (C := Tryz.checked) (s := OpenSpec.ofChange Rows.minimizeRenumbersSpec) own started (by kernel_rfl) Tryz.func11
    (witness_row_atRef (enc := enc) (C := Tryz.checked) false (World.laidAll Tryz.prog os Rows.minimizeRenumbersRow.laid) args_MinimizeRenumbers (World.laidAll_os _ _ _) (by kernel_rfl) (by kernel_rfl) (by kernel_rfl)
      (OpenSpec.preRow_of_cond 16 hx (by kernel_rfl) (fun k hk => by cases hk) (by kernel_rfl) (laid_MinimizeRenumbers os))) ?_
  intro W base args ds gs before z1 hW _ _ z6 hL hS _;exact g08 tOk laidOut (d := 16) (tb := 4) (by kernel_rfl) (by kernel_rfl) (by kernel_rfl) (by kernel_rfl) (f1d hL (by kernel_rfl)) lawPC_MinimizeRenumbers rfl (fun ds h => by
    match ds, h with
    | [_, _], _ => rfl) z1 hW rfl z6
theorem jfA_MinimizeRenumbers: (Rows.minimizeRenumbersRow.inPlace == Tryz.pinned.checked.prog.inPlace 11) = true := by kernel_rfl
theorem jfB_MinimizeRenumbers: (Rows.minimizeRenumbersRow.unfollowed == Tryz.pinned.checked.prog.unfollowed 11) = true := by kernel_rfl
theorem jfC_MinimizeRenumbers: (Rows.minimizeRenumbersRow.recurses == Tryz.pinned.checked.prog.recurses 11) = true := by kernel_rfl
theorem jfD_MinimizeRenumbers: (Rows.minimizeRenumbersRow.named == Tryz.pinned.checked.prog.varsNamed 11) = true := by kernel_rfl
theorem jf_MinimizeRenumbers: joinedFacts Tryz.pinned.checked.prog 11 Tryz.f11 (OpenSpec.ofChange Rows.minimizeRenumbersSpec).bare Rows.minimizeRenumbersRow = true := by unfold joinedFacts;rw[jfA_MinimizeRenumbers, jfB_MinimizeRenumbers, jfC_MinimizeRenumbers, jfD_MinimizeRenumbers];kernel_rfl
theorem said_MinimizeRenumbers: Rows.MinimizeRenumbersSaid :=
  OpenClaim.holds_of_cond 11 Tryz.f11 rfl rfl rfl rfl rfl rfl rfl ⟨rfl, rfl, rfl, rfl, rfl⟩ rfl rfl rfl rfl rfl (by kernel_rfl) Tryz.func11 jf_MinimizeRenumbers
    (of_decide_eq_true (by kernel_rfl)) (by unfold Func.isWrapper; first | (rw[if_pos (by decide +kernel)]; kernel_rfl) | (rw[if_neg (by decide +kernel)]; exact⟨rfl, rfl⟩))
    (fun os started H enc _ F => by rw[OpenClaim.pre_eq_preRow]; exact lifted_MinimizeRenumbers os started H enc F)
theorem plain_MinimizeRenumbers (f : FuncId) (fn : Func) (hf : Tryz.pinned.checked.prog.funcNamed "tidegate/tidegatelaw30.MinimizeRenumbers" = some f) (hfn : Tryz.pinned.checked.prog.funcs[f]? = some fn) :
    false = Tryz.pinned.checked.prog.looks [] ∧ ∀ (j : Nat) t, fn.params[j]? = some t → Tryz.pinned.checked.prog.wantsStandIn t = false := by
  obtain rfl : f = 11 := Option.some.inj ((show Tryz.prog.funcNamed "tidegate/tidegatelaw30.MinimizeRenumbers" = some 11 by kernel_rfl).symm.trans hf) |>.symm
  obtain rfl : fn = Tryz.f11 := (Option.some.inj (Tryz.func11.symm.trans hfn)).symm
  refine⟨by kernel_rfl, fun j t ht => ?_⟩
  have z1 : (Tryz.f11.params.toList.all fun t => Tryz.prog.wantsStandIn t == false) = true := by kernel_rfl
  have hm : t ∈ Tryz.f11.params.toList := by simpa using Array.mem_of_getElem? ht
  exact beq_iff_eq.1 (List.all_eq_true.1 z1 t hm)
end Go.Abs
namespace Go.Proofs.YteghceocnldccaaGreatDoor
open Go Go.Abs
theorem minimizeRenumbers_card: Rows.MinimizeRenumbersCardSaid :=
  Claim7.holds_tied_plain_at .later [] _ _ _ _ said_MinimizeRenumbers (fun _ h => by cases h) (by kernel_rfl) (fun _ h => by cases h) minimizeRenumbers_row_tie rfl ⟨rfl, rfl⟩ (by kernel_rfl) rfl plain_MinimizeRenumbers (by kernel_rfl)
end Go.Proofs.YteghceocnldccaaGreatDoor
