/- Two automata have the same minimal automata exactly if nothing separates them, and exactly if their deterministic and complete forms are decided to be equivalent: TopVerdictsAgree returns true for every input. Conditions: those of the given row (the laid tables), tied by the given card. -/
import Derived.Test.YtjmkolhkojgjpaaGreatDoorVl
set_option linter.all false
set_option maxRecDepth 100000
namespace Go.Abs
open Go Go.Proofs Go.Proofs.YtjmkolhkojgjpaaGreatDoor Go.RowKit
noncomputable def args_TopVerdictsAgree: Array Value := #[.agg #[.int .i64 0, .slice none 0 0, .slice none 0 0], .agg #[.int .i64 0, .slice none 0 0, .slice none 0 0]]
theorem laid_TopVerdictsAgree(os : Os): laidMetH Tryz.prog Rows.topVerdictsAgreeRow.laid ((World.laidAll Tryz.prog os Rows.topVerdictsAgreeRow.laid).forCall (fun _ _ => 0) ⟨#[], args_TopVerdictsAgree, []⟩).memory :=
  laidMet_laidAll _ (by kernel_rfl) (by kernel_rfl)
theorem reads_TopVerdictsAgree(os : Os){H : Type}(enc : TypeId × Value → H): ∃ ds places, DataW.whole enc Tryz.prog ((World.laidAll Tryz.prog os Rows.topVerdictsAgreeRow.laid).forCall (fun _ _ => 0) ⟨#[], args_TopVerdictsAgree, []⟩).memory Tryz.f4.params.toList Rows.topVerdictsAgreeSpec.vars false args_TopVerdictsAgree.toList 16 = some (ds, [], places) :=
  ⟨[.agg [.lit (.int .i64 0), .nil, .nil], .agg [.lit (.int .i64 0), .nil, .nil]], [], by kernel_rfl⟩
theorem lawPC_TopVerdictsAgree(xs : List AV)(h : Ap T 16 Tryz.f4.params.toList xs): PC Tryz.prog 4 xs (fun r => r = .bool true) := by rw[Tryz.params4]at h;obtain⟨a, _, rfl, h_1⟩ := c1r h;obtain⟨b, _, rfl, h_2⟩ := c1r h_1;obtain rfl := w24 h_2;exact Cm a b
theorem lifted_TopVerdictsAgree(os : Os)(started : os.Started)(H : Type)(enc : TypeId × Value → H)(F : Stop.Interp):
    ReturnsInHanded {} Tryz.checked os 4 .any ((OpenSpec.ofChange Rows.topVerdictsAgreeSpec).preRow enc Tryz.prog Tryz.f4 Rows.topVerdictsAgreeRow.domain false Rows.topVerdictsAgreeRow.laid) (((OpenSpec.ofChange Rows.topVerdictsAgreeSpec).at F).post enc Tryz.prog Tryz.f4 false true false false) := by
  obtain⟨ds, places, hx⟩ := reads_TopVerdictsAgree os enc;refine returnsInHanded_of_row (C := Tryz.checked) (s := OpenSpec.ofChange Rows.topVerdictsAgreeSpec) own started (by kernel_rfl) Tryz.func4
    (witness_row_atRef (enc := enc) (C := Tryz.checked) false (World.laidAll Tryz.prog os Rows.topVerdictsAgreeRow.laid) args_TopVerdictsAgree (World.laidAll_os _ _ _) (by kernel_rfl) (by kernel_rfl) (by kernel_rfl)
      (OpenSpec.preRow_of_cond 16 hx (by kernel_rfl) (fun k hk => by cases hk) (by kernel_rfl) (laid_TopVerdictsAgree os))) ?_
  intro W base args ds gs before z1 hW _ _ z6 hL hS _;exact y1u tOk laidOut (d := 16) (tb := 4) (by kernel_rfl) (by kernel_rfl) (by kernel_rfl) (by kernel_rfl) (k2y hL (by kernel_rfl)) lawPC_TopVerdictsAgree rfl (fun ds h => by
    match ds, h with
    | [_, _], _ => rfl) z1 hW rfl z6
theorem jfA_TopVerdictsAgree: (Rows.topVerdictsAgreeRow.inPlace == Tryz.pinned.checked.prog.inPlace 4) = true := by kernel_rfl
theorem jfB_TopVerdictsAgree: (Rows.topVerdictsAgreeRow.unfollowed == Tryz.pinned.checked.prog.unfollowed 4) = true := by kernel_rfl
theorem jfC_TopVerdictsAgree: (Rows.topVerdictsAgreeRow.recurses == Tryz.pinned.checked.prog.recurses 4) = true := by kernel_rfl
theorem jfD_TopVerdictsAgree: (Rows.topVerdictsAgreeRow.named == Tryz.pinned.checked.prog.varsNamed 4) = true := by kernel_rfl
theorem jf_TopVerdictsAgree: joinedFacts Tryz.pinned.checked.prog 4 Tryz.f4 (OpenSpec.ofChange Rows.topVerdictsAgreeSpec).bare Rows.topVerdictsAgreeRow = true := by unfold joinedFacts;rw[jfA_TopVerdictsAgree, jfB_TopVerdictsAgree, jfC_TopVerdictsAgree, jfD_TopVerdictsAgree];kernel_rfl
theorem said_TopVerdictsAgree: Rows.TopVerdictsAgreeSaid :=
  OpenClaim.holds_of_cond 4 Tryz.f4 rfl rfl rfl rfl rfl rfl rfl ⟨rfl, rfl, rfl, rfl, rfl⟩ rfl rfl rfl rfl rfl (by kernel_rfl) Tryz.func4 jf_TopVerdictsAgree
    (of_decide_eq_true (by kernel_rfl)) (by unfold Func.isWrapper; first | (rw[if_pos (by decide +kernel)]; kernel_rfl) | (rw[if_neg (by decide +kernel)]; exact⟨rfl, rfl⟩))
    (fun os started H enc _ F => by rw[OpenClaim.pre_eq_preRow]; exact lifted_TopVerdictsAgree os started H enc F)
theorem plain_TopVerdictsAgree (f : FuncId) (fn : Func) (hf : Tryz.pinned.checked.prog.funcNamed "tidegate/tidegatetop.TopVerdictsAgree" = some f) (hfn : Tryz.pinned.checked.prog.funcs[f]? = some fn) :
    false = Tryz.pinned.checked.prog.looks [] ∧ ∀ (j : Nat) t, fn.params[j]? = some t → Tryz.pinned.checked.prog.wantsStandIn t = false := by
  obtain rfl : f = 4 := Option.some.inj ((show Tryz.prog.funcNamed "tidegate/tidegatetop.TopVerdictsAgree" = some 4 by kernel_rfl).symm.trans hf) |>.symm
  obtain rfl : fn = Tryz.f4 := (Option.some.inj (Tryz.func4.symm.trans hfn)).symm
  refine⟨by kernel_rfl, fun j t ht => ?_⟩
  have z1 : (Tryz.f4.params.toList.all fun t => Tryz.prog.wantsStandIn t == false) = true := by kernel_rfl
  have hm : t ∈ Tryz.f4.params.toList := by simpa using Array.mem_of_getElem? ht
  exact beq_iff_eq.1 (List.all_eq_true.1 z1 t hm)
end Go.Abs
namespace Go.Proofs.YtjmkolhkojgjpaaGreatDoor
open Go Go.Abs
theorem cdA_TopVerdictsAgree: OpenClaim.wfByText (OpenSpec.ofChange Rows.topVerdictsAgreeSpec) Rows.topVerdictsAgreeRow = true := by kernel_rfl
theorem cdB_TopVerdictsAgree: Tryz.pinned.checked.prog.mainIs = some (Rows.topVerdictsAgreeCard.stood.harness.1, Rows.topVerdictsAgreeCard.stood.harness.2.toList) := by kernel_rfl
theorem cdC_TopVerdictsAgree: false = Rows.topVerdictsAgreeRow.goesBy Tryz.pinned.checked.prog := by kernel_rfl
theorem topVerdictsAgree_card: Rows.TopVerdictsAgreeCardSaid :=
  Claim7.holds_tied_plain_at .later [] _ _ _ _ said_TopVerdictsAgree (fun _ h => by cases h) cdA_TopVerdictsAgree (fun _ h => by cases h) topVerdictsAgree_row_tie rfl ⟨rfl, rfl⟩ cdB_TopVerdictsAgree rfl plain_TopVerdictsAgree cdC_TopVerdictsAgree
end Go.Proofs.YtjmkolhkojgjpaaGreatDoor
