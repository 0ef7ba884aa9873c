/- A word that separates automata, or shows that one does not include the other, is accepted as said; two automata include each other exactly if nothing separates them: EquivalenceContains returns true for every input. Conditions: those of the given row (the laid tables), tied by the given card. -/
import Derived.Test.YtjmkolhkojgjpaaGreatDoorTk
set_option linter.all false
set_option maxRecDepth 100000
namespace Go.Abs
open Go Go.Proofs Go.Proofs.YtjmkolhkojgjpaaGreatDoor Go.RowKit
noncomputable def args_EquivalenceContains: Array Value := #[.agg #[.int .i64 0, .slice none 0 0, .slice none 0 0], .agg #[.int .i64 0, .slice none 0 0, .slice none 0 0]]
theorem laid_EquivalenceContains(os : Os): laidMetH Tryz.prog Rows.equivalenceContainsRow.laid ((World.laidAll Tryz.prog os Rows.equivalenceContainsRow.laid).forCall (fun _ _ => 0) ⟨#[], args_EquivalenceContains, []⟩).memory :=
  laidMet_laidAll _ (by kernel_rfl) (by kernel_rfl)
theorem reads_EquivalenceContains(os : Os){H : Type}(enc : TypeId × Value → H): ∃ ds places, DataW.whole enc Tryz.prog ((World.laidAll Tryz.prog os Rows.equivalenceContainsRow.laid).forCall (fun _ _ => 0) ⟨#[], args_EquivalenceContains, []⟩).memory Tryz.f9.params.toList Rows.equivalenceContainsSpec.vars false args_EquivalenceContains.toList 16 = some (ds, [], places) :=
  ⟨[.agg [.lit (.int .i64 0), .nil, .nil], .agg [.lit (.int .i64 0), .nil, .nil]], [], by kernel_rfl⟩
theorem lawPC_EquivalenceContains(xs : List AV)(h : Od T 16 Tryz.f9.params.toList xs): PC Tryz.prog 9 xs (fun r => r = .bool true) := by rw[Tryz.params9]at h;obtain⟨a, _, rfl, h_1⟩ := q1b h;obtain⟨b, _, rfl, h_2⟩ := q1b h_1;obtain rfl := y1c h_2;exact Kx a b
theorem lifted_EquivalenceContains(os : Os)(started : os.Started)(H : Type)(enc : TypeId × Value → H)(F : Stop.Interp):
    ReturnsInHanded {} Tryz.checked os 9 .any ((OpenSpec.ofChange Rows.equivalenceContainsSpec).preRow enc Tryz.prog Tryz.f9 Rows.equivalenceContainsRow.domain false Rows.equivalenceContainsRow.laid) (((OpenSpec.ofChange Rows.equivalenceContainsSpec).at F).post enc Tryz.prog Tryz.f9 false true false false) := by
  obtain⟨ds, places, hx⟩ := reads_EquivalenceContains os enc;refine returnsInHanded_of_row (C := Tryz.checked) (s := OpenSpec.ofChange Rows.equivalenceContainsSpec) own started (by kernel_rfl) Tryz.func9
    (witness_row_atRef (enc := enc) (C := Tryz.checked) false (World.laidAll Tryz.prog os Rows.equivalenceContainsRow.laid) args_EquivalenceContains (World.laidAll_os _ _ _) (by kernel_rfl) (by kernel_rfl) (by kernel_rfl)
      (OpenSpec.preRow_of_cond 16 hx (by kernel_rfl) (fun k hk => by cases hk) (by kernel_rfl) (laid_EquivalenceContains os))) ?_
  intro W base args ds gs before z1 hW _ _ z6 hL hS _;exact z0w tOk laidOut (d := 16) (tb := 4) (by kernel_rfl) (by kernel_rfl) (by kernel_rfl) (by kernel_rfl) (k13 hL (by kernel_rfl)) lawPC_EquivalenceContains rfl (fun ds h => by
    match ds, h with
    | [_, _], _ => rfl) z1 hW rfl z6
theorem jfA_EquivalenceContains: (Rows.equivalenceContainsRow.inPlace == Tryz.pinned.checked.prog.inPlace 9) = true := by kernel_rfl
theorem jfB_EquivalenceContains: (Rows.equivalenceContainsRow.unfollowed == Tryz.pinned.checked.prog.unfollowed 9) = true := by kernel_rfl
theorem jfC_EquivalenceContains: (Rows.equivalenceContainsRow.recurses == Tryz.pinned.checked.prog.recurses 9) = true := by kernel_rfl
theorem jfD_EquivalenceContains: (Rows.equivalenceContainsRow.named == Tryz.pinned.checked.prog.varsNamed 9) = true := by kernel_rfl
theorem jf_EquivalenceContains: joinedFacts Tryz.pinned.checked.prog 9 Tryz.f9 (OpenSpec.ofChange Rows.equivalenceContainsSpec).bare Rows.equivalenceContainsRow = true := by unfold joinedFacts;rw[jfA_EquivalenceContains, jfB_EquivalenceContains, jfC_EquivalenceContains, jfD_EquivalenceContains];kernel_rfl
theorem said_EquivalenceContains: Rows.EquivalenceContainsSaid :=
  OpenClaim.holds_of_cond 9 Tryz.f9 rfl rfl rfl rfl rfl rfl rfl ⟨rfl, rfl, rfl, rfl, rfl⟩ rfl rfl rfl rfl rfl (by kernel_rfl) Tryz.func9 jf_EquivalenceContains
    (of_decide_eq_true (by kernel_rfl)) (by unfold Func.isWrapper; first | (rw[if_pos (by decide +kernel)]; kernel_rfl) | (rw[if_neg (by decide +kernel)]; exact⟨rfl, rfl⟩))
    (fun os started H enc _ F => by rw[OpenClaim.pre_eq_preRow]; exact lifted_EquivalenceContains os started H enc F)
theorem plain_EquivalenceContains (f : FuncId) (fn : Func) (hf : Tryz.pinned.checked.prog.funcNamed "tidegate/tidegatelaw31.EquivalenceContains" = some f) (hfn : Tryz.pinned.checked.prog.funcs[f]? = some fn) :
    false = Tryz.pinned.checked.prog.looks [] ∧ ∀ (j : Nat) t, fn.params[j]? = some t → Tryz.pinned.checked.prog.wantsStandIn t = false := by
  obtain rfl : f = 9 := Option.some.inj ((show Tryz.prog.funcNamed "tidegate/tidegatelaw31.EquivalenceContains" = some 9 by kernel_rfl).symm.trans hf) |>.symm
  obtain rfl : fn = Tryz.f9 := (Option.some.inj (Tryz.func9.symm.trans hfn)).symm
  refine⟨by kernel_rfl, fun j t ht => ?_⟩
  have z1 : (Tryz.f9.params.toList.all fun t => Tryz.prog.wantsStandIn t == false) = true := by kernel_rfl
  have hm : t ∈ Tryz.f9.params.toList := by simpa using Array.mem_of_getElem? ht
  exact beq_iff_eq.1 (List.all_eq_true.1 z1 t hm)
end Go.Abs
namespace Go.Proofs.YtjmkolhkojgjpaaGreatDoor
open Go Go.Abs
theorem cdA_EquivalenceContains: OpenClaim.wfByText (OpenSpec.ofChange Rows.equivalenceContainsSpec) Rows.equivalenceContainsRow = true := by kernel_rfl
theorem cdB_EquivalenceContains: Tryz.pinned.checked.prog.mainIs = some (Rows.equivalenceContainsCard.stood.harness.1, Rows.equivalenceContainsCard.stood.harness.2.toList) := by kernel_rfl
theorem cdC_EquivalenceContains: false = Rows.equivalenceContainsRow.goesBy Tryz.pinned.checked.prog := by kernel_rfl
theorem equivalenceContains_card: Rows.EquivalenceContainsCardSaid :=
  Claim7.holds_tied_plain_at .later [] _ _ _ _ said_EquivalenceContains (fun _ h => by cases h) cdA_EquivalenceContains (fun _ h => by cases h) equivalenceContains_row_tie rfl ⟨rfl, rfl⟩ cdB_EquivalenceContains rfl plain_EquivalenceContains cdC_EquivalenceContains
end Go.Proofs.YtjmkolhkojgjpaaGreatDoor
