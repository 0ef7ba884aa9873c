/- The minimal automaton accepts the same words, and a proof that it is minimal is accepted; minimizing it changes nothing: MinimizeKeeps returns true for every input. Conditions: those of the given row (the laid tables), tied by the given card. -/
import Derived.Test.YteghceocnldccaaGreatDoorLj
set_option linter.all false
set_option maxRecDepth 100000
namespace Go.Abs
open Go Go.Proofs Go.Proofs.YteghceocnldccaaGreatDoor Go.RowKit
noncomputable def args_MinimizeKeeps: Array Value := #[.agg #[.int .i64 0, .slice none 0 0, .slice none 0 0], .slice none 0 0]
theorem laid_MinimizeKeeps(os : Os): laidMetH Tryz.prog Rows.minimizeKeepsRow.laid ((World.laidAll Tryz.prog os Rows.minimizeKeepsRow.laid).forCall (fun _ _ => 0) ⟨#[], args_MinimizeKeeps, []⟩).memory :=
  laidMet_laidAll _ (by kernel_rfl) (by kernel_rfl)
theorem reads_MinimizeKeeps(os : Os){H : Type}(enc : TypeId × Value → H): ∃ ds places, DataW.whole enc Tryz.prog ((World.laidAll Tryz.prog os Rows.minimizeKeepsRow.laid).forCall (fun _ _ => 0) ⟨#[], args_MinimizeKeeps, []⟩).memory Tryz.f12.params.toList Rows.minimizeKeepsSpec.vars false args_MinimizeKeeps.toList 16 = some (ds, [], places) :=
  ⟨[.agg [.lit (.int .i64 0), .nil, .nil], .nil], [], by kernel_rfl⟩
theorem lawPC_MinimizeKeeps(xs : List AV)(h : Uv T 16 Tryz.f12.params.toList xs): PC Tryz.prog 12 xs (fun r => r = .bool true) := by rw[Tryz.params12]at h;obtain⟨a, _, rfl, h_1⟩ := q2c h;obtain⟨w, _, rfl, h_2⟩ := c14 h_1;obtain rfl := j12 h_2;exact x0f a w
theorem lifted_MinimizeKeeps(os : Os)(started : os.Started)(H : Type)(enc : TypeId × Value → H)(F : Stop.Interp):
    ReturnsInHanded {} Tryz.checked os 12 .any ((OpenSpec.ofChange Rows.minimizeKeepsSpec).preRow enc Tryz.prog Tryz.f12 Rows.minimizeKeepsRow.domain false Rows.minimizeKeepsRow.laid) (((OpenSpec.ofChange Rows.minimizeKeepsSpec).at F).post enc Tryz.prog Tryz.f12 false true false false) := by
  obtain⟨ds, places, hx⟩ := reads_MinimizeKeeps os enc;refine returnsInHanded_of_row (C := Tryz.checked) (s := OpenSpec.ofChange Rows.minimizeKeepsSpec) own started (by kernel_rfl) Tryz.func12
    (witness_row_atRef (enc := enc) (C := Tryz.checked) false (World.laidAll Tryz.prog os Rows.minimizeKeepsRow.laid) args_MinimizeKeeps (World.laidAll_os _ _ _) (by kernel_rfl) (by kernel_rfl) (by kernel_rfl)
      (OpenSpec.preRow_of_cond 16 hx (by kernel_rfl) (fun k hk => by cases hk) (by kernel_rfl) (laid_MinimizeKeeps os))) ?_
  intro W base args ds gs before z1 hW _ _ z6 hL hS _;exact u0o tOk laidOut (d := 16) (tb := 4) (by kernel_rfl) (by kernel_rfl) (by kernel_rfl) (by kernel_rfl) (q2b hL (by kernel_rfl)) lawPC_MinimizeKeeps rfl (fun ds h => by
    match ds, h with
    | [_, _], _ => rfl) z1 hW rfl z6
theorem jfA_MinimizeKeeps: (Rows.minimizeKeepsRow.inPlace == Tryz.pinned.checked.prog.inPlace 12) = true := by kernel_rfl
theorem jfB_MinimizeKeeps: (Rows.minimizeKeepsRow.unfollowed == Tryz.pinned.checked.prog.unfollowed 12) = true := by kernel_rfl
theorem jfC_MinimizeKeeps: (Rows.minimizeKeepsRow.recurses == Tryz.pinned.checked.prog.recurses 12) = true := by kernel_rfl
theorem jfD_MinimizeKeeps: (Rows.minimizeKeepsRow.named == Tryz.pinned.checked.prog.varsNamed 12) = true := by kernel_rfl
theorem jf_MinimizeKeeps: joinedFacts Tryz.pinned.checked.prog 12 Tryz.f12 (OpenSpec.ofChange Rows.minimizeKeepsSpec).bare Rows.minimizeKeepsRow = true := by unfold joinedFacts;rw[jfA_MinimizeKeeps, jfB_MinimizeKeeps, jfC_MinimizeKeeps, jfD_MinimizeKeeps];kernel_rfl
theorem said_MinimizeKeeps: Rows.MinimizeKeepsSaid :=
  OpenClaim.holds_of_cond 12 Tryz.f12 rfl rfl rfl rfl rfl rfl rfl ⟨rfl, rfl, rfl, rfl, rfl⟩ rfl rfl rfl rfl rfl (by kernel_rfl) Tryz.func12 jf_MinimizeKeeps
    (of_decide_eq_true (by kernel_rfl)) (by unfold Func.isWrapper; first | (rw[if_pos (by decide +kernel)]; kernel_rfl) | (rw[if_neg (by decide +kernel)]; exact⟨rfl, rfl⟩))
    (fun os started H enc _ F => by rw[OpenClaim.pre_eq_preRow]; exact lifted_MinimizeKeeps os started H enc F)
theorem plain_MinimizeKeeps (f : FuncId) (fn : Func) (hf : Tryz.pinned.checked.prog.funcNamed "tidegate/tidegatelaw30.MinimizeKeeps" = some f) (hfn : Tryz.pinned.checked.prog.funcs[f]? = some fn) :
    false = Tryz.pinned.checked.prog.looks [] ∧ ∀ (j : Nat) t, fn.params[j]? = some t → Tryz.pinned.checked.prog.wantsStandIn t = false := by
  obtain rfl : f = 12 := Option.some.inj ((show Tryz.prog.funcNamed "tidegate/tidegatelaw30.MinimizeKeeps" = some 12 by kernel_rfl).symm.trans hf) |>.symm
  obtain rfl : fn = Tryz.f12 := (Option.some.inj (Tryz.func12.symm.trans hfn)).symm
  refine⟨by kernel_rfl, fun j t ht => ?_⟩
  have z1 : (Tryz.f12.params.toList.all fun t => Tryz.prog.wantsStandIn t == false) = true := by kernel_rfl
  have hm : t ∈ Tryz.f12.params.toList := by simpa using Array.mem_of_getElem? ht
  exact beq_iff_eq.1 (List.all_eq_true.1 z1 t hm)
end Go.Abs
namespace Go.Proofs.YteghceocnldccaaGreatDoor
open Go Go.Abs
theorem minimizeKeeps_card: Rows.MinimizeKeepsCardSaid :=
  Claim7.holds_tied_plain_at .later [] _ _ _ _ said_MinimizeKeeps (fun _ h => by cases h) (by kernel_rfl) (fun _ h => by cases h) minimizeKeeps_row_tie rfl ⟨rfl, rfl⟩ (by kernel_rfl) rfl plain_MinimizeKeeps (by kernel_rfl)
end Go.Proofs.YteghceocnldccaaGreatDoor
