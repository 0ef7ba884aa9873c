/- Includes returns the specified word, or the specified error, for all pairs of automata: EquivalenceIncludes returns true for every input. Conditions: those of the given row (the laid tables), tied by the given card. -/
import Derived.Test.YtjmkolhkojgjpaaGreatDoorRk
set_option linter.all false
set_option maxRecDepth 100000
namespace Go.Abs
open Go Go.Proofs Go.Proofs.YtjmkolhkojgjpaaGreatDoor Go.RowKit
noncomputable def args_EquivalenceIncludes: Array Value := #[.agg #[.int .i64 0, .slice none 0 0, .slice none 0 0], .agg #[.int .i64 0, .slice none 0 0, .slice none 0 0]]
theorem laid_EquivalenceIncludes(os : Os): laidMetH Tryz.prog Rows.equivalenceIncludesRow.laid ((World.laidAll Tryz.prog os Rows.equivalenceIncludesRow.laid).forCall (fun _ _ => 0) ⟨#[], args_EquivalenceIncludes, []⟩).memory :=
  laidMet_laidAll _ (by kernel_rfl) (by kernel_rfl)
theorem reads_EquivalenceIncludes(os : Os){H : Type}(enc : TypeId × Value → H): ∃ ds places, DataW.whole enc Tryz.prog ((World.laidAll Tryz.prog os Rows.equivalenceIncludesRow.laid).forCall (fun _ _ => 0) ⟨#[], args_EquivalenceIncludes, []⟩).memory Tryz.f7.params.toList Rows.equivalenceIncludesSpec.vars false args_EquivalenceIncludes.toList 16 = some (ds, [], places) :=
  ⟨[.agg [.lit (.int .i64 0), .nil, .nil], .agg [.lit (.int .i64 0), .nil, .nil]], [], by kernel_rfl⟩
theorem lawPC_EquivalenceIncludes(xs : List AV)(h : Pl T 16 Tryz.f7.params.toList xs): PC Tryz.prog 7 xs (fun r => r = .bool true) := by rw[Tryz.params7]at h;obtain⟨a, _, rfl, h_1⟩ := x1p h;obtain⟨b, _, rfl, h_2⟩ := x1p h_1;obtain rfl := x19 h_2;exact Zg a b
theorem lifted_EquivalenceIncludes(os : Os)(started : os.Started)(H : Type)(enc : TypeId × Value → H)(F : Stop.Interp):
    ReturnsInHanded {} Tryz.checked os 7 .any ((OpenSpec.ofChange Rows.equivalenceIncludesSpec).preRow enc Tryz.prog Tryz.f7 Rows.equivalenceIncludesRow.domain false Rows.equivalenceIncludesRow.laid) (((OpenSpec.ofChange Rows.equivalenceIncludesSpec).at F).post enc Tryz.prog Tryz.f7 false true false false) := by
  obtain⟨ds, places, hx⟩ := reads_EquivalenceIncludes os enc;refine returnsInHanded_of_row (C := Tryz.checked) (s := OpenSpec.ofChange Rows.equivalenceIncludesSpec) own started (by kernel_rfl) Tryz.func7
    (witness_row_atRef (enc := enc) (C := Tryz.checked) false (World.laidAll Tryz.prog os Rows.equivalenceIncludesRow.laid) args_EquivalenceIncludes (World.laidAll_os _ _ _) (by kernel_rfl) (by kernel_rfl) (by kernel_rfl)
      (OpenSpec.preRow_of_cond 16 hx (by kernel_rfl) (fun k hk => by cases hk) (by kernel_rfl) (laid_EquivalenceIncludes os))) ?_
  intro W base args ds gs before z1 hW _ _ z6 hL hS _;exact j0u tOk laidOut (d := 16) (tb := 4) (by kernel_rfl) (by kernel_rfl) (by kernel_rfl) (by kernel_rfl) (d1w hL (by kernel_rfl)) lawPC_EquivalenceIncludes rfl (fun ds h => by
    match ds, h with
    | [_, _], _ => rfl) z1 hW rfl z6
theorem jfA_EquivalenceIncludes: (Rows.equivalenceIncludesRow.inPlace == Tryz.pinned.checked.prog.inPlace 7) = true := by kernel_rfl
theorem jfB_EquivalenceIncludes: (Rows.equivalenceIncludesRow.unfollowed == Tryz.pinned.checked.prog.unfollowed 7) = true := by kernel_rfl
theorem jfC_EquivalenceIncludes: (Rows.equivalenceIncludesRow.recurses == Tryz.pinned.checked.prog.recurses 7) = true := by kernel_rfl
theorem jfD_EquivalenceIncludes: (Rows.equivalenceIncludesRow.named == Tryz.pinned.checked.prog.varsNamed 7) = true := by kernel_rfl
theorem jf_EquivalenceIncludes: joinedFacts Tryz.pinned.checked.prog 7 Tryz.f7 (OpenSpec.ofChange Rows.equivalenceIncludesSpec).bare Rows.equivalenceIncludesRow = true := by unfold joinedFacts;rw[jfA_EquivalenceIncludes, jfB_EquivalenceIncludes, jfC_EquivalenceIncludes, jfD_EquivalenceIncludes];kernel_rfl
theorem said_EquivalenceIncludes: Rows.EquivalenceIncludesSaid :=
  OpenClaim.holds_of_cond 7 Tryz.f7 rfl rfl rfl rfl rfl rfl rfl ⟨rfl, rfl, rfl, rfl, rfl⟩ rfl rfl rfl rfl rfl (by kernel_rfl) Tryz.func7 jf_EquivalenceIncludes
    (of_decide_eq_true (by kernel_rfl)) (by unfold Func.isWrapper; first | (rw[if_pos (by decide +kernel)]; kernel_rfl) | (rw[if_neg (by decide +kernel)]; exact⟨rfl, rfl⟩))
    (fun os started H enc _ F => by rw[OpenClaim.pre_eq_preRow]; exact lifted_EquivalenceIncludes os started H enc F)
theorem plain_EquivalenceIncludes (f : FuncId) (fn : Func) (hf : Tryz.pinned.checked.prog.funcNamed "tidegate/tidegatelaw31.EquivalenceIncludes" = some f) (hfn : Tryz.pinned.checked.prog.funcs[f]? = some fn) :
    false = Tryz.pinned.checked.prog.looks [] ∧ ∀ (j : Nat) t, fn.params[j]? = some t → Tryz.pinned.checked.prog.wantsStandIn t = false := by
  obtain rfl : f = 7 := Option.some.inj ((show Tryz.prog.funcNamed "tidegate/tidegatelaw31.EquivalenceIncludes" = some 7 by kernel_rfl).symm.trans hf) |>.symm
  obtain rfl : fn = Tryz.f7 := (Option.some.inj (Tryz.func7.symm.trans hfn)).symm
  refine⟨by kernel_rfl, fun j t ht => ?_⟩
  have z1 : (Tryz.f7.params.toList.all fun t => Tryz.prog.wantsStandIn t == false) = true := by kernel_rfl
  have hm : t ∈ Tryz.f7.params.toList := by simpa using Array.mem_of_getElem? ht
  exact beq_iff_eq.1 (List.all_eq_true.1 z1 t hm)
end Go.Abs
namespace Go.Proofs.YtjmkolhkojgjpaaGreatDoor
open Go Go.Abs
theorem cdA_EquivalenceIncludes: OpenClaim.wfByText (OpenSpec.ofChange Rows.equivalenceIncludesSpec) Rows.equivalenceIncludesRow = true := by kernel_rfl
theorem cdB_EquivalenceIncludes: Tryz.pinned.checked.prog.mainIs = some (Rows.equivalenceIncludesCard.stood.harness.1, Rows.equivalenceIncludesCard.stood.harness.2.toList) := by kernel_rfl
theorem cdC_EquivalenceIncludes: false = Rows.equivalenceIncludesRow.goesBy Tryz.pinned.checked.prog := by kernel_rfl
theorem equivalenceIncludes_card: Rows.EquivalenceIncludesCardSaid :=
  Claim7.holds_tied_plain_at .later [] _ _ _ _ said_EquivalenceIncludes (fun _ h => by cases h) cdA_EquivalenceIncludes (fun _ h => by cases h) equivalenceIncludes_row_tie rfl ⟨rfl, rfl⟩ cdB_EquivalenceIncludes rfl plain_EquivalenceIncludes cdC_EquivalenceIncludes
end Go.Proofs.YtjmkolhkojgjpaaGreatDoor
