/- Separate returns the specified word, or the specified error, for all pairs of automata: EquivalenceSeparates returns true for every input. Conditions: those of the given row (the laid tables), tied by the given card. -/
import Derived.Test.YtjmkolhkojgjpaaGreatDoorQk
set_option linter.all false
set_option maxRecDepth 100000
namespace Go.Abs
open Go Go.Proofs Go.Proofs.YtjmkolhkojgjpaaGreatDoor Go.RowKit
noncomputable def args_EquivalenceSeparates: Array Value := #[.agg #[.int .i64 0, .slice none 0 0, .slice none 0 0], .agg #[.int .i64 0, .slice none 0 0, .slice none 0 0]]
theorem laid_EquivalenceSeparates(os : Os): laidMetH Tryz.prog Rows.equivalenceSeparatesRow.laid ((World.laidAll Tryz.prog os Rows.equivalenceSeparatesRow.laid).forCall (fun _ _ => 0) ⟨#[], args_EquivalenceSeparates, []⟩).memory :=
  laidMet_laidAll _ (by kernel_rfl) (by kernel_rfl)
theorem reads_EquivalenceSeparates(os : Os){H : Type}(enc : TypeId × Value → H): ∃ ds places, DataW.whole enc Tryz.prog ((World.laidAll Tryz.prog os Rows.equivalenceSeparatesRow.laid).forCall (fun _ _ => 0) ⟨#[], args_EquivalenceSeparates, []⟩).memory Tryz.f8.params.toList Rows.equivalenceSeparatesSpec.vars false args_EquivalenceSeparates.toList 16 = some (ds, [], places) :=
  ⟨[.agg [.lit (.int .i64 0), .nil, .nil], .agg [.lit (.int .i64 0), .nil, .nil]], [], by kernel_rfl⟩
theorem lawPC_EquivalenceSeparates(xs : List AV)(h : Pd T 16 Tryz.f8.params.toList xs): PC Tryz.prog 8 xs (fun r => r = .bool true) := by rw[Tryz.params8]at h;obtain⟨a, _, rfl, h_1⟩ := x1d h;obtain⟨b, _, rfl, h_2⟩ := x1d h_1;obtain rfl := j1w h_2;exact Jc a b
theorem lifted_EquivalenceSeparates(os : Os)(started : os.Started)(H : Type)(enc : TypeId × Value → H)(F : Stop.Interp):
    ReturnsInHanded {} Tryz.checked os 8 .any ((OpenSpec.ofChange Rows.equivalenceSeparatesSpec).preRow enc Tryz.prog Tryz.f8 Rows.equivalenceSeparatesRow.domain false Rows.equivalenceSeparatesRow.laid) (((OpenSpec.ofChange Rows.equivalenceSeparatesSpec).at F).post enc Tryz.prog Tryz.f8 false true false false) := by
  obtain⟨ds, places, hx⟩ := reads_EquivalenceSeparates os enc;refine returnsInHanded_of_row (C := Tryz.checked) (s := OpenSpec.ofChange Rows.equivalenceSeparatesSpec) own started (by kernel_rfl) Tryz.func8
    (witness_row_atRef (enc := enc) (C := Tryz.checked) false (World.laidAll Tryz.prog os Rows.equivalenceSeparatesRow.laid) args_EquivalenceSeparates (World.laidAll_os _ _ _) (by kernel_rfl) (by kernel_rfl) (by kernel_rfl)
      (OpenSpec.preRow_of_cond 16 hx (by kernel_rfl) (fun k hk => by cases hk) (by kernel_rfl) (laid_EquivalenceSeparates os))) ?_
  intro W base args ds gs before z1 hW _ _ z6 hL hS _;exact d0p tOk laidOut (d := 16) (tb := 4) (by kernel_rfl) (by kernel_rfl) (by kernel_rfl) (by kernel_rfl) (c13 hL (by kernel_rfl)) lawPC_EquivalenceSeparates rfl (fun ds h => by
    match ds, h with
    | [_, _], _ => rfl) z1 hW rfl z6
theorem jfA_EquivalenceSeparates: (Rows.equivalenceSeparatesRow.inPlace == Tryz.pinned.checked.prog.inPlace 8) = true := by kernel_rfl
theorem jfB_EquivalenceSeparates: (Rows.equivalenceSeparatesRow.unfollowed == Tryz.pinned.checked.prog.unfollowed 8) = true := by kernel_rfl
theorem jfC_EquivalenceSeparates: (Rows.equivalenceSeparatesRow.recurses == Tryz.pinned.checked.prog.recurses 8) = true := by kernel_rfl
theorem jfD_EquivalenceSeparates: (Rows.equivalenceSeparatesRow.named == Tryz.pinned.checked.prog.varsNamed 8) = true := by kernel_rfl
theorem jf_EquivalenceSeparates: joinedFacts Tryz.pinned.checked.prog 8 Tryz.f8 (OpenSpec.ofChange Rows.equivalenceSeparatesSpec).bare Rows.equivalenceSeparatesRow = true := by unfold joinedFacts;rw[jfA_EquivalenceSeparates, jfB_EquivalenceSeparates, jfC_EquivalenceSeparates, jfD_EquivalenceSeparates];kernel_rfl
theorem said_EquivalenceSeparates: Rows.EquivalenceSeparatesSaid :=
  OpenClaim.holds_of_cond 8 Tryz.f8 rfl rfl rfl rfl rfl rfl rfl ⟨rfl, rfl, rfl, rfl, rfl⟩ rfl rfl rfl rfl rfl (by kernel_rfl) Tryz.func8 jf_EquivalenceSeparates
    (of_decide_eq_true (by kernel_rfl)) (by unfold Func.isWrapper; first | (rw[if_pos (by decide +kernel)]; kernel_rfl) | (rw[if_neg (by decide +kernel)]; exact⟨rfl, rfl⟩))
    (fun os started H enc _ F => by rw[OpenClaim.pre_eq_preRow]; exact lifted_EquivalenceSeparates os started H enc F)
theorem plain_EquivalenceSeparates (f : FuncId) (fn : Func) (hf : Tryz.pinned.checked.prog.funcNamed "tidegate/tidegatelaw31.EquivalenceSeparates" = some f) (hfn : Tryz.pinned.checked.prog.funcs[f]? = some fn) :
    false = Tryz.pinned.checked.prog.looks [] ∧ ∀ (j : Nat) t, fn.params[j]? = some t → Tryz.pinned.checked.prog.wantsStandIn t = false := by
  obtain rfl : f = 8 := Option.some.inj ((show Tryz.prog.funcNamed "tidegate/tidegatelaw31.EquivalenceSeparates" = some 8 by kernel_rfl).symm.trans hf) |>.symm
  obtain rfl : fn = Tryz.f8 := (Option.some.inj (Tryz.func8.symm.trans hfn)).symm
  refine⟨by kernel_rfl, fun j t ht => ?_⟩
  have z1 : (Tryz.f8.params.toList.all fun t => Tryz.prog.wantsStandIn t == false) = true := by kernel_rfl
  have hm : t ∈ Tryz.f8.params.toList := by simpa using Array.mem_of_getElem? ht
  exact beq_iff_eq.1 (List.all_eq_true.1 z1 t hm)
end Go.Abs
namespace Go.Proofs.YtjmkolhkojgjpaaGreatDoor
open Go Go.Abs
theorem cdA_EquivalenceSeparates: OpenClaim.wfByText (OpenSpec.ofChange Rows.equivalenceSeparatesSpec) Rows.equivalenceSeparatesRow = true := by kernel_rfl
theorem cdB_EquivalenceSeparates: Tryz.pinned.checked.prog.mainIs = some (Rows.equivalenceSeparatesCard.stood.harness.1, Rows.equivalenceSeparatesCard.stood.harness.2.toList) := by kernel_rfl
theorem cdC_EquivalenceSeparates: false = Rows.equivalenceSeparatesRow.goesBy Tryz.pinned.checked.prog := by kernel_rfl
theorem equivalenceSeparates_card: Rows.EquivalenceSeparatesCardSaid :=
  Claim7.holds_tied_plain_at .later [] _ _ _ _ said_EquivalenceSeparates (fun _ h => by cases h) cdA_EquivalenceSeparates (fun _ h => by cases h) equivalenceSeparates_row_tie rfl ⟨rfl, rfl⟩ cdB_EquivalenceSeparates rfl plain_EquivalenceSeparates cdC_EquivalenceSeparates
end Go.Proofs.YtjmkolhkojgjpaaGreatDoor
