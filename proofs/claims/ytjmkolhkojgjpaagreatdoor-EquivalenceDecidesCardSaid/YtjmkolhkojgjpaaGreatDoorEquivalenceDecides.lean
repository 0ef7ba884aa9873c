/- Decide returns the specified certificate, or the specified error, for all pairs of automata: EquivalenceDecides returns true for every input. Conditions: those of the given row (the laid tables), tied by the given card. -/
import Derived.Test.YtjmkolhkojgjpaaGreatDoorPk
set_option linter.all false
set_option maxRecDepth 100000
namespace Go.Abs
open Go Go.Proofs Go.Proofs.YtjmkolhkojgjpaaGreatDoor Go.RowKit
noncomputable def args_EquivalenceDecides: Array Value := #[.agg #[.int .i64 0, .slice none 0 0, .slice none 0 0], .agg #[.int .i64 0, .slice none 0 0, .slice none 0 0]]
theorem laid_EquivalenceDecides(os : Os): laidMetH Tryz.prog Rows.equivalenceDecidesRow.laid ((World.laidAll Tryz.prog os Rows.equivalenceDecidesRow.laid).forCall (fun _ _ => 0) ⟨#[], args_EquivalenceDecides, []⟩).memory :=
  laidMet_laidAll _ (by kernel_rfl) (by kernel_rfl)
theorem reads_EquivalenceDecides(os : Os){H : Type}(enc : TypeId × Value → H): ∃ ds places, DataW.whole enc Tryz.prog ((World.laidAll Tryz.prog os Rows.equivalenceDecidesRow.laid).forCall (fun _ _ => 0) ⟨#[], args_EquivalenceDecides, []⟩).memory Tryz.f5.params.toList Rows.equivalenceDecidesSpec.vars false args_EquivalenceDecides.toList 16 = some (ds, [], places) :=
  ⟨[.agg [.lit (.int .i64 0), .nil, .nil], .agg [.lit (.int .i64 0), .nil, .nil]], [], by kernel_rfl⟩
theorem lawPC_EquivalenceDecides(xs : List AV)(h : Ox T 16 Tryz.f5.params.toList xs): PC Tryz.prog 5 xs (fun r => r = .bool true) := by rw[Tryz.params5]at h;obtain⟨a, _, rfl, h_1⟩ := x1e h;obtain⟨b, _, rfl, h_2⟩ := x1e h_1;obtain rfl := v1f h_2;exact Vq a b
theorem lifted_EquivalenceDecides(os : Os)(started : os.Started)(H : Type)(enc : TypeId × Value → H)(F : Stop.Interp):
    ReturnsInHanded {} Tryz.checked os 5 .any ((OpenSpec.ofChange Rows.equivalenceDecidesSpec).preRow enc Tryz.prog Tryz.f5 Rows.equivalenceDecidesRow.domain false Rows.equivalenceDecidesRow.laid) (((OpenSpec.ofChange Rows.equivalenceDecidesSpec).at F).post enc Tryz.prog Tryz.f5 false true false false) := by
  obtain⟨ds, places, hx⟩ := reads_EquivalenceDecides os enc;refine returnsInHanded_of_row (C := Tryz.checked) (s := OpenSpec.ofChange Rows.equivalenceDecidesSpec) own started (by kernel_rfl) Tryz.func5
    (witness_row_atRef (enc := enc) (C := Tryz.checked) false (World.laidAll Tryz.prog os Rows.equivalenceDecidesRow.laid) args_EquivalenceDecides (World.laidAll_os _ _ _) (by kernel_rfl) (by kernel_rfl) (by kernel_rfl)
      (OpenSpec.preRow_of_cond 16 hx (by kernel_rfl) (fun k hk => by cases hk) (by kernel_rfl) (laid_EquivalenceDecides os))) ?_
  intro W base args ds gs before z1 hW _ _ z6 hL hS _;exact u0k tOk laidOut (d := 16) (tb := 4) (by kernel_rfl) (by kernel_rfl) (by kernel_rfl) (by kernel_rfl) (f1k hL (by kernel_rfl)) lawPC_EquivalenceDecides rfl (fun ds h => by
    match ds, h with
    | [_, _], _ => rfl) z1 hW rfl z6
theorem jfA_EquivalenceDecides: (Rows.equivalenceDecidesRow.inPlace == Tryz.pinned.checked.prog.inPlace 5) = true := by kernel_rfl
theorem jfB_EquivalenceDecides: (Rows.equivalenceDecidesRow.unfollowed == Tryz.pinned.checked.prog.unfollowed 5) = true := by kernel_rfl
theorem jfC_EquivalenceDecides: (Rows.equivalenceDecidesRow.recurses == Tryz.pinned.checked.prog.recurses 5) = true := by kernel_rfl
theorem jfD_EquivalenceDecides: (Rows.equivalenceDecidesRow.named == Tryz.pinned.checked.prog.varsNamed 5) = true := by kernel_rfl
theorem jf_EquivalenceDecides: joinedFacts Tryz.pinned.checked.prog 5 Tryz.f5 (OpenSpec.ofChange Rows.equivalenceDecidesSpec).bare Rows.equivalenceDecidesRow = true := by unfold joinedFacts;rw[jfA_EquivalenceDecides, jfB_EquivalenceDecides, jfC_EquivalenceDecides, jfD_EquivalenceDecides];kernel_rfl
theorem said_EquivalenceDecides: Rows.EquivalenceDecidesSaid :=
  OpenClaim.holds_of_cond 5 Tryz.f5 rfl rfl rfl rfl rfl rfl rfl ⟨rfl, rfl, rfl, rfl, rfl⟩ rfl rfl rfl rfl rfl (by kernel_rfl) Tryz.func5 jf_EquivalenceDecides
    (of_decide_eq_true (by kernel_rfl)) (by unfold Func.isWrapper; first | (rw[if_pos (by decide +kernel)]; kernel_rfl) | (rw[if_neg (by decide +kernel)]; exact⟨rfl, rfl⟩))
    (fun os started H enc _ F => by rw[OpenClaim.pre_eq_preRow]; exact lifted_EquivalenceDecides os started H enc F)
theorem plain_EquivalenceDecides (f : FuncId) (fn : Func) (hf : Tryz.pinned.checked.prog.funcNamed "tidegate/tidegatelaw31.EquivalenceDecides" = some f) (hfn : Tryz.pinned.checked.prog.funcs[f]? = some fn) :
    false = Tryz.pinned.checked.prog.looks [] ∧ ∀ (j : Nat) t, fn.params[j]? = some t → Tryz.pinned.checked.prog.wantsStandIn t = false := by
  obtain rfl : f = 5 := Option.some.inj ((show Tryz.prog.funcNamed "tidegate/tidegatelaw31.EquivalenceDecides" = some 5 by kernel_rfl).symm.trans hf) |>.symm
  obtain rfl : fn = Tryz.f5 := (Option.some.inj (Tryz.func5.symm.trans hfn)).symm
  refine⟨by kernel_rfl, fun j t ht => ?_⟩
  have z1 : (Tryz.f5.params.toList.all fun t => Tryz.prog.wantsStandIn t == false) = true := by kernel_rfl
  have hm : t ∈ Tryz.f5.params.toList := by simpa using Array.mem_of_getElem? ht
  exact beq_iff_eq.1 (List.all_eq_true.1 z1 t hm)
end Go.Abs
namespace Go.Proofs.YtjmkolhkojgjpaaGreatDoor
open Go Go.Abs
theorem cdA_EquivalenceDecides: OpenClaim.wfByText (OpenSpec.ofChange Rows.equivalenceDecidesSpec) Rows.equivalenceDecidesRow = true := by kernel_rfl
theorem cdB_EquivalenceDecides: Tryz.pinned.checked.prog.mainIs = some (Rows.equivalenceDecidesCard.stood.harness.1, Rows.equivalenceDecidesCard.stood.harness.2.toList) := by kernel_rfl
theorem cdC_EquivalenceDecides: false = Rows.equivalenceDecidesRow.goesBy Tryz.pinned.checked.prog := by kernel_rfl
theorem equivalenceDecides_card: Rows.EquivalenceDecidesCardSaid :=
  Claim7.holds_tied_plain_at .later [] _ _ _ _ said_EquivalenceDecides (fun _ h => by cases h) cdA_EquivalenceDecides (fun _ h => by cases h) equivalenceDecides_row_tie rfl ⟨rfl, rfl⟩ cdB_EquivalenceDecides rfl plain_EquivalenceDecides cdC_EquivalenceDecides
end Go.Proofs.YtjmkolhkojgjpaaGreatDoor
