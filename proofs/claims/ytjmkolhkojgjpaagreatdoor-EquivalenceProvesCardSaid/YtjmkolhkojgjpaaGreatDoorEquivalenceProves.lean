/- A certificate is accepted, and the opposite verdict is not proven by its pairs or by a word; with VerdictYes both accept the same words, and have equal minimal automata: EquivalenceProves returns true for every input. Conditions: those of the given row (the laid tables), tied by the given card. -/
import Derived.Test.YtjmkolhkojgjpaaGreatDoorUk
import Derived.Test.YtjmkolhkojgjpaaGreatDoorUl
set_option linter.all false
set_option maxRecDepth 100000
namespace Go.Abs
open Go Go.Proofs Go.Proofs.YtjmkolhkojgjpaaGreatDoor Go.RowKit
noncomputable def args_EquivalenceProves: Array Value := #[.agg #[.int .i64 0, .slice none 0 0, .slice none 0 0], .agg #[.int .i64 0, .slice none 0 0, .slice none 0 0], .slice none 0 0]
theorem laid_EquivalenceProves(os : Os): laidMetH Tryz.prog Rows.equivalenceProvesRow.laid ((World.laidAll Tryz.prog os Rows.equivalenceProvesRow.laid).forCall (fun _ _ => 0) ⟨#[], args_EquivalenceProves, []⟩).memory :=
  laidMet_laidAll _ (by kernel_rfl) (by kernel_rfl)
theorem reads_EquivalenceProves(os : Os){H : Type}(enc : TypeId × Value → H): ∃ ds places, DataW.whole enc Tryz.prog ((World.laidAll Tryz.prog os Rows.equivalenceProvesRow.laid).forCall (fun _ _ => 0) ⟨#[], args_EquivalenceProves, []⟩).memory Tryz.f10.params.toList Rows.equivalenceProvesSpec.vars false args_EquivalenceProves.toList 16 = some (ds, [], places) :=
  ⟨[.agg [.lit (.int .i64 0), .nil, .nil], .agg [.lit (.int .i64 0), .nil, .nil], .nil], [], by kernel_rfl⟩
theorem lawPC_EquivalenceProves(xs : List AV)(h : I8 T 16 Tryz.f10.params.toList xs): PC Tryz.prog 10 xs (fun r => r = .bool true) := by rw[Tryz.params10]at h;obtain⟨a, _, rfl, h_1⟩ := c1i h;obtain⟨b, _, rfl, h_2⟩ := c1i h_1;obtain⟨w, _, rfl, h_3⟩ := q2w h_2;obtain rfl := q26 h_3;exact w0j a b w
theorem lifted_EquivalenceProves(os : Os)(started : os.Started)(H : Type)(enc : TypeId × Value → H)(F : Stop.Interp):
    ReturnsInHanded {} Tryz.checked os 10 .any ((OpenSpec.ofChange Rows.equivalenceProvesSpec).preRow enc Tryz.prog Tryz.f10 Rows.equivalenceProvesRow.domain false Rows.equivalenceProvesRow.laid) (((OpenSpec.ofChange Rows.equivalenceProvesSpec).at F).post enc Tryz.prog Tryz.f10 false true false false) := by
  obtain⟨ds, places, hx⟩ := reads_EquivalenceProves os enc;refine returnsInHanded_of_row (C := Tryz.checked) (s := OpenSpec.ofChange Rows.equivalenceProvesSpec) own started (by kernel_rfl) Tryz.func10
    (witness_row_atRef (enc := enc) (C := Tryz.checked) false (World.laidAll Tryz.prog os Rows.equivalenceProvesRow.laid) args_EquivalenceProves (World.laidAll_os _ _ _) (by kernel_rfl) (by kernel_rfl) (by kernel_rfl)
      (OpenSpec.preRow_of_cond 16 hx (by kernel_rfl) (fun k hk => by cases hk) (by kernel_rfl) (laid_EquivalenceProves os))) ?_
  intro W base args ds gs before z1 hW _ _ z6 hL hS _;exact x1e tOk laidOut (d := 16) (tb := 4) (by kernel_rfl) (by kernel_rfl) (by kernel_rfl) (by kernel_rfl) (k2v hL (by kernel_rfl)) lawPC_EquivalenceProves rfl (fun ds h => by
    match ds, h with
    | [_, _, _], _ => rfl) z1 hW rfl z6
theorem jfA_EquivalenceProves: (Rows.equivalenceProvesRow.inPlace == Tryz.pinned.checked.prog.inPlace 10) = true := by kernel_rfl
theorem jfB_EquivalenceProves: (Rows.equivalenceProvesRow.unfollowed == Tryz.pinned.checked.prog.unfollowed 10) = true := by kernel_rfl
theorem jfC_EquivalenceProves: (Rows.equivalenceProvesRow.recurses == Tryz.pinned.checked.prog.recurses 10) = true := by kernel_rfl
theorem jfD_EquivalenceProves: (Rows.equivalenceProvesRow.named == Tryz.pinned.checked.prog.varsNamed 10) = true := by kernel_rfl
theorem jf_EquivalenceProves: joinedFacts Tryz.pinned.checked.prog 10 Tryz.f10 (OpenSpec.ofChange Rows.equivalenceProvesSpec).bare Rows.equivalenceProvesRow = true := by unfold joinedFacts;rw[jfA_EquivalenceProves, jfB_EquivalenceProves, jfC_EquivalenceProves, jfD_EquivalenceProves];kernel_rfl
theorem said_EquivalenceProves: Rows.EquivalenceProvesSaid :=
  OpenClaim.holds_of_cond 10 Tryz.f10 rfl rfl rfl rfl rfl rfl rfl ⟨rfl, rfl, rfl, rfl, rfl⟩ rfl rfl rfl rfl rfl (by kernel_rfl) Tryz.func10 jf_EquivalenceProves
    (of_decide_eq_true (by kernel_rfl)) (by unfold Func.isWrapper; first | (rw[if_pos (by decide +kernel)]; kernel_rfl) | (rw[if_neg (by decide +kernel)]; exact⟨rfl, rfl⟩))
    (fun os started H enc _ F => by rw[OpenClaim.pre_eq_preRow]; exact lifted_EquivalenceProves os started H enc F)
theorem plain_EquivalenceProves (f : FuncId) (fn : Func) (hf : Tryz.pinned.checked.prog.funcNamed "tidegate/tidegatelaw31.EquivalenceProves" = some f) (hfn : Tryz.pinned.checked.prog.funcs[f]? = some fn) :
    false = Tryz.pinned.checked.prog.looks [] ∧ ∀ (j : Nat) t, fn.params[j]? = some t → Tryz.pinned.checked.prog.wantsStandIn t = false := by
  obtain rfl : f = 10 := Option.some.inj ((show Tryz.prog.funcNamed "tidegate/tidegatelaw31.EquivalenceProves" = some 10 by kernel_rfl).symm.trans hf) |>.symm
  obtain rfl : fn = Tryz.f10 := (Option.some.inj (Tryz.func10.symm.trans hfn)).symm
  refine⟨by kernel_rfl, fun j t ht => ?_⟩
  have z1 : (Tryz.f10.params.toList.all fun t => Tryz.prog.wantsStandIn t == false) = true := by kernel_rfl
  have hm : t ∈ Tryz.f10.params.toList := by simpa using Array.mem_of_getElem? ht
  exact beq_iff_eq.1 (List.all_eq_true.1 z1 t hm)
end Go.Abs
namespace Go.Proofs.YtjmkolhkojgjpaaGreatDoor
open Go Go.Abs
theorem cdA_EquivalenceProves: OpenClaim.wfByText (OpenSpec.ofChange Rows.equivalenceProvesSpec) Rows.equivalenceProvesRow = true := by kernel_rfl
theorem cdB_EquivalenceProves: Tryz.pinned.checked.prog.mainIs = some (Rows.equivalenceProvesCard.stood.harness.1, Rows.equivalenceProvesCard.stood.harness.2.toList) := by kernel_rfl
theorem cdC_EquivalenceProves: false = Rows.equivalenceProvesRow.goesBy Tryz.pinned.checked.prog := by kernel_rfl
theorem equivalenceProves_card: Rows.EquivalenceProvesCardSaid :=
  Claim7.holds_tied_plain_at .later [] _ _ _ _ said_EquivalenceProves (fun _ h => by cases h) cdA_EquivalenceProves (fun _ h => by cases h) equivalenceProves_row_tie rfl ⟨rfl, rfl⟩ cdB_EquivalenceProves rfl plain_EquivalenceProves cdC_EquivalenceProves
end Go.Proofs.YtjmkolhkojgjpaaGreatDoor
