/- Minimize returns the specified automaton, or the specified error, for all automata: MinimizeBuilds returns true for every input. Conditions: those of the given row (the laid tables), tied by the given card. -/
import Derived.Test.YteghceocnldccaaGreatDoorKj
set_option linter.all false
set_option maxRecDepth 100000
namespace Go.Abs
open Go Go.Proofs Go.Proofs.YteghceocnldccaaGreatDoor Go.RowKit
noncomputable def args_MinimizeBuilds: Array Value := #[.agg #[.int .i64 0, .slice none 0 0, .slice none 0 0]]
theorem laid_MinimizeBuilds(os : Os): laidMetH Tryz.prog Rows.minimizeBuildsRow.laid ((World.laidAll Tryz.prog os Rows.minimizeBuildsRow.laid).forCall (fun _ _ => 0) ⟨#[], args_MinimizeBuilds, []⟩).memory :=
  laidMet_laidAll _ (by kernel_rfl) (by kernel_rfl)
theorem reads_MinimizeBuilds(os : Os){H : Type}(enc : TypeId × Value → H): ∃ ds places, DataW.whole enc Tryz.prog ((World.laidAll Tryz.prog os Rows.minimizeBuildsRow.laid).forCall (fun _ _ => 0) ⟨#[], args_MinimizeBuilds, []⟩).memory Tryz.f6.params.toList Rows.minimizeBuildsSpec.vars false args_MinimizeBuilds.toList 16 = some (ds, [], places) :=
  ⟨[.agg [.lit (.int .i64 0), .nil, .nil]], [], by kernel_rfl⟩
theorem lawPC_MinimizeBuilds(xs : List AV)(h : Py T 16 Tryz.f6.params.toList xs): PC Tryz.prog 6 xs (fun r => r = .bool true) := by rw[Tryz.params6]at h;obtain⟨a, _, rfl, h_1⟩ := w2e h;obtain rfl := f1q h_1;exact Mx a
theorem lifted_MinimizeBuilds(os : Os)(started : os.Started)(H : Type)(enc : TypeId × Value → H)(F : Stop.Interp):
    ReturnsInHanded {} Tryz.checked os 6 .any ((OpenSpec.ofChange Rows.minimizeBuildsSpec).preRow enc Tryz.prog Tryz.f6 Rows.minimizeBuildsRow.domain false Rows.minimizeBuildsRow.laid) (((OpenSpec.ofChange Rows.minimizeBuildsSpec).at F).post enc Tryz.prog Tryz.f6 false true false false) := by
  obtain⟨ds, places, hx⟩ := reads_MinimizeBuilds os enc;refine returnsInHanded_of_row (C := Tryz.checked) (s := OpenSpec.ofChange Rows.minimizeBuildsSpec) own started (by kernel_rfl) Tryz.func6
    (witness_row_atRef (enc := enc) (C := Tryz.checked) false (World.laidAll Tryz.prog os Rows.minimizeBuildsRow.laid) args_MinimizeBuilds (World.laidAll_os _ _ _) (by kernel_rfl) (by kernel_rfl) (by kernel_rfl)
      (OpenSpec.preRow_of_cond 16 hx (by kernel_rfl) (fun k hk => by cases hk) (by kernel_rfl) (laid_MinimizeBuilds os))) ?_
  intro W base args ds gs before z1 hW _ _ z6 hL hS _;exact j0w tOk laidOut (d := 16) (tb := 4) (by kernel_rfl) (by kernel_rfl) (by kernel_rfl) (by kernel_rfl) (c19 hL (by kernel_rfl)) lawPC_MinimizeBuilds rfl (fun ds h => by
    match ds, h with
    | [_], _ => rfl) z1 hW rfl z6
theorem jfA_MinimizeBuilds: (Rows.minimizeBuildsRow.inPlace == Tryz.pinned.checked.prog.inPlace 6) = true := by kernel_rfl
theorem jfB_MinimizeBuilds: (Rows.minimizeBuildsRow.unfollowed == Tryz.pinned.checked.prog.unfollowed 6) = true := by kernel_rfl
theorem jfC_MinimizeBuilds: (Rows.minimizeBuildsRow.recurses == Tryz.pinned.checked.prog.recurses 6) = true := by kernel_rfl
theorem jfD_MinimizeBuilds: (Rows.minimizeBuildsRow.named == Tryz.pinned.checked.prog.varsNamed 6) = true := by kernel_rfl
theorem jf_MinimizeBuilds: joinedFacts Tryz.pinned.checked.prog 6 Tryz.f6 (OpenSpec.ofChange Rows.minimizeBuildsSpec).bare Rows.minimizeBuildsRow = true := by unfold joinedFacts;rw[jfA_MinimizeBuilds, jfB_MinimizeBuilds, jfC_MinimizeBuilds, jfD_MinimizeBuilds];kernel_rfl
theorem said_MinimizeBuilds: Rows.MinimizeBuildsSaid :=
  OpenClaim.holds_of_cond 6 Tryz.f6 rfl rfl rfl rfl rfl rfl rfl ⟨rfl, rfl, rfl, rfl, rfl⟩ rfl rfl rfl rfl rfl (by kernel_rfl) Tryz.func6 jf_MinimizeBuilds
    (of_decide_eq_true (by kernel_rfl)) (by unfold Func.isWrapper; first | (rw[if_pos (by decide +kernel)]; kernel_rfl) | (rw[if_neg (by decide +kernel)]; exact⟨rfl, rfl⟩))
    (fun os started H enc _ F => by rw[OpenClaim.pre_eq_preRow]; exact lifted_MinimizeBuilds os started H enc F)
theorem plain_MinimizeBuilds (f : FuncId) (fn : Func) (hf : Tryz.pinned.checked.prog.funcNamed "tidegate/tidegatelaw30.MinimizeBuilds" = some f) (hfn : Tryz.pinned.checked.prog.funcs[f]? = some fn) :
    false = Tryz.pinned.checked.prog.looks [] ∧ ∀ (j : Nat) t, fn.params[j]? = some t → Tryz.pinned.checked.prog.wantsStandIn t = false := by
  obtain rfl : f = 6 := Option.some.inj ((show Tryz.prog.funcNamed "tidegate/tidegatelaw30.MinimizeBuilds" = some 6 by kernel_rfl).symm.trans hf) |>.symm
  obtain rfl : fn = Tryz.f6 := (Option.some.inj (Tryz.func6.symm.trans hfn)).symm
  refine⟨by kernel_rfl, fun j t ht => ?_⟩
  have z1 : (Tryz.f6.params.toList.all fun t => Tryz.prog.wantsStandIn t == false) = true := by kernel_rfl
  have hm : t ∈ Tryz.f6.params.toList := by simpa using Array.mem_of_getElem? ht
  exact beq_iff_eq.1 (List.all_eq_true.1 z1 t hm)
end Go.Abs
namespace Go.Proofs.YteghceocnldccaaGreatDoor
open Go Go.Abs
theorem minimizeBuilds_card: Rows.MinimizeBuildsCardSaid :=
  Claim7.holds_tied_plain_at .later [] _ _ _ _ said_MinimizeBuilds (fun _ h => by cases h) (by kernel_rfl) (fun _ h => by cases h) minimizeBuilds_row_tie rfl ⟨rfl, rfl⟩ (by kernel_rfl) rfl plain_MinimizeBuilds (by kernel_rfl)
end Go.Proofs.YteghceocnldccaaGreatDoor
