/- Verify accepts exactly the certificates that prove their verdicts, and returns the specified error for all other ones: EquivalenceVerifies returns true for every input. Conditions: those of the given row (the laid tables), tied by the given card. -/
import Derived.Test.YtjmkolhkojgjpaaGreatDoorSk
set_option linter.all false
set_option maxRecDepth 100000
namespace Go.Abs
open Go Go.Proofs Go.Proofs.YtjmkolhkojgjpaaGreatDoor Go.RowKit
noncomputable def args_EquivalenceVerifies: Array Value := #[.agg #[.int .i64 0, .slice none 0 0, .slice none 0 0], .agg #[.int .i64 0, .slice none 0 0, .slice none 0 0], .agg #[.int .i64 0, .slice none 0 0, .slice none 0 0]]
theorem laid_EquivalenceVerifies(os : Os): laidMetH Tryz.prog Rows.equivalenceVerifiesRow.laid ((World.laidAll Tryz.prog os Rows.equivalenceVerifiesRow.laid).forCall (fun _ _ => 0) ⟨#[], args_EquivalenceVerifies, []⟩).memory :=
  laidMet_laidAll _ (by kernel_rfl) (by kernel_rfl)
theorem reads_EquivalenceVerifies(os : Os){H : Type}(enc : TypeId × Value → H): ∃ ds places, DataW.whole enc Tryz.prog ((World.laidAll Tryz.prog os Rows.equivalenceVerifiesRow.laid).forCall (fun _ _ => 0) ⟨#[], args_EquivalenceVerifies, []⟩).memory Tryz.f6.params.toList Rows.equivalenceVerifiesSpec.vars false args_EquivalenceVerifies.toList 16 = some (ds, [], places) :=
  ⟨[.agg [.lit (.int .i64 0), .nil, .nil], .agg [.lit (.int .i64 0), .nil, .nil], .agg [.lit (.int .i64 0), .nil, .nil]], [], by kernel_rfl⟩
theorem lawPC_EquivalenceVerifies(xs : List AV)(h : Y5 T 16 Tryz.f6.params.toList xs): PC Tryz.prog 6 xs (fun r => r = .bool true) := by rw[Tryz.params6]at h;obtain⟨a, _, rfl, h_1⟩ := y1d h;obtain⟨b, _, rfl, h_2⟩ := y1d h_1;obtain⟨x, _, rfl, h_3⟩ := d1z h_2;obtain rfl := k17 h_3;exact L9 a b x
theorem lifted_EquivalenceVerifies(os : Os)(started : os.Started)(H : Type)(enc : TypeId × Value → H)(F : Stop.Interp):
    ReturnsInHanded {} Tryz.checked os 6 .any ((OpenSpec.ofChange Rows.equivalenceVerifiesSpec).preRow enc Tryz.prog Tryz.f6 Rows.equivalenceVerifiesRow.domain false Rows.equivalenceVerifiesRow.laid) (((OpenSpec.ofChange Rows.equivalenceVerifiesSpec).at F).post enc Tryz.prog Tryz.f6 false true false false) := by
  obtain⟨ds, places, hx⟩ := reads_EquivalenceVerifies os enc;refine returnsInHanded_of_row (C := Tryz.checked) (s := OpenSpec.ofChange Rows.equivalenceVerifiesSpec) own started (by kernel_rfl) Tryz.func6
    (witness_row_atRef (enc := enc) (C := Tryz.checked) false (World.laidAll Tryz.prog os Rows.equivalenceVerifiesRow.laid) args_EquivalenceVerifies (World.laidAll_os _ _ _) (by kernel_rfl) (by kernel_rfl) (by kernel_rfl)
      (OpenSpec.preRow_of_cond 16 hx (by kernel_rfl) (fun k hk => by cases hk) (by kernel_rfl) (laid_EquivalenceVerifies os))) ?_
  intro W base args ds gs before z1 hW _ _ z6 hL hS _;exact g0o tOk laidOut (d := 16) (tb := 4) (by kernel_rfl) (by kernel_rfl) (by kernel_rfl) (by kernel_rfl) (c1u hL (by kernel_rfl)) lawPC_EquivalenceVerifies rfl (fun ds h => by
    match ds, h with
    | [_, _, _], _ => rfl) z1 hW rfl z6
theorem jfA_EquivalenceVerifies: (Rows.equivalenceVerifiesRow.inPlace == Tryz.pinned.checked.prog.inPlace 6) = true := by kernel_rfl
theorem jfB_EquivalenceVerifies: (Rows.equivalenceVerifiesRow.unfollowed == Tryz.pinned.checked.prog.unfollowed 6) = true := by kernel_rfl
theorem jfC_EquivalenceVerifies: (Rows.equivalenceVerifiesRow.recurses == Tryz.pinned.checked.prog.recurses 6) = true := by kernel_rfl
theorem jfD_EquivalenceVerifies: (Rows.equivalenceVerifiesRow.named == Tryz.pinned.checked.prog.varsNamed 6) = true := by kernel_rfl
theorem jf_EquivalenceVerifies: joinedFacts Tryz.pinned.checked.prog 6 Tryz.f6 (OpenSpec.ofChange Rows.equivalenceVerifiesSpec).bare Rows.equivalenceVerifiesRow = true := by unfold joinedFacts;rw[jfA_EquivalenceVerifies, jfB_EquivalenceVerifies, jfC_EquivalenceVerifies, jfD_EquivalenceVerifies];kernel_rfl
theorem said_EquivalenceVerifies: Rows.EquivalenceVerifiesSaid :=
  OpenClaim.holds_of_cond 6 Tryz.f6 rfl rfl rfl rfl rfl rfl rfl ⟨rfl, rfl, rfl, rfl, rfl⟩ rfl rfl rfl rfl rfl (by kernel_rfl) Tryz.func6 jf_EquivalenceVerifies
    (of_decide_eq_true (by kernel_rfl)) (by unfold Func.isWrapper; first | (rw[if_pos (by decide +kernel)]; kernel_rfl) | (rw[if_neg (by decide +kernel)]; exact⟨rfl, rfl⟩))
    (fun os started H enc _ F => by rw[OpenClaim.pre_eq_preRow]; exact lifted_EquivalenceVerifies os started H enc F)
theorem plain_EquivalenceVerifies (f : FuncId) (fn : Func) (hf : Tryz.pinned.checked.prog.funcNamed "tidegate/tidegatelaw31.EquivalenceVerifies" = some f) (hfn : Tryz.pinned.checked.prog.funcs[f]? = some fn) :
    false = Tryz.pinned.checked.prog.looks [] ∧ ∀ (j : Nat) t, fn.params[j]? = some t → Tryz.pinned.checked.prog.wantsStandIn t = false := by
  obtain rfl : f = 6 := Option.some.inj ((show Tryz.prog.funcNamed "tidegate/tidegatelaw31.EquivalenceVerifies" = some 6 by kernel_rfl).symm.trans hf) |>.symm
  obtain rfl : fn = Tryz.f6 := (Option.some.inj (Tryz.func6.symm.trans hfn)).symm
  refine⟨by kernel_rfl, fun j t ht => ?_⟩
  have z1 : (Tryz.f6.params.toList.all fun t => Tryz.prog.wantsStandIn t == false) = true := by kernel_rfl
  have hm : t ∈ Tryz.f6.params.toList := by simpa using Array.mem_of_getElem? ht
  exact beq_iff_eq.1 (List.all_eq_true.1 z1 t hm)
end Go.Abs
namespace Go.Proofs.YtjmkolhkojgjpaaGreatDoor
open Go Go.Abs
theorem cdA_EquivalenceVerifies: OpenClaim.wfByText (OpenSpec.ofChange Rows.equivalenceVerifiesSpec) Rows.equivalenceVerifiesRow = true := by kernel_rfl
theorem cdB_EquivalenceVerifies: Tryz.pinned.checked.prog.mainIs = some (Rows.equivalenceVerifiesCard.stood.harness.1, Rows.equivalenceVerifiesCard.stood.harness.2.toList) := by kernel_rfl
theorem cdC_EquivalenceVerifies: false = Rows.equivalenceVerifiesRow.goesBy Tryz.pinned.checked.prog := by kernel_rfl
theorem equivalenceVerifies_card: Rows.EquivalenceVerifiesCardSaid :=
  Claim7.holds_tied_plain_at .later [] _ _ _ _ said_EquivalenceVerifies (fun _ h => by cases h) cdA_EquivalenceVerifies (fun _ h => by cases h) equivalenceVerifies_row_tie rfl ⟨rfl, rfl⟩ cdB_EquivalenceVerifies rfl plain_EquivalenceVerifies cdC_EquivalenceVerifies
end Go.Proofs.YtjmkolhkojgjpaaGreatDoor
