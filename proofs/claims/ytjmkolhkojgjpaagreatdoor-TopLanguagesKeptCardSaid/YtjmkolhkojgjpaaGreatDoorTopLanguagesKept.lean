/- Determinizing, completing, minimizing and complementing twice keep the words that an automaton accepts, and the product with the complement accepts none: TopLanguagesKept returns true for every input. Conditions: those of the given row (the laid tables), tied by the given card. -/
import Derived.Test.YtjmkolhkojgjpaaGreatDoorXm
set_option linter.all false
set_option maxRecDepth 100000
namespace Go.Abs
open Go Go.Proofs Go.Proofs.YtjmkolhkojgjpaaGreatDoor Go.RowKit
noncomputable def args_TopLanguagesKept: Array Value := #[.agg #[.int .i64 0, .slice none 0 0, .slice none 0 0], .slice none 0 0]
theorem laid_TopLanguagesKept(os : Os): laidMetH Tryz.prog Rows.topLanguagesKeptRow.laid ((World.laidAll Tryz.prog os Rows.topLanguagesKeptRow.laid).forCall (fun _ _ => 0) ⟨#[], args_TopLanguagesKept, []⟩).memory :=
  laidMet_laidAll _ (by kernel_rfl) (by kernel_rfl)
theorem reads_TopLanguagesKept(os : Os){H : Type}(enc : TypeId × Value → H): ∃ ds places, DataW.whole enc Tryz.prog ((World.laidAll Tryz.prog os Rows.topLanguagesKeptRow.laid).forCall (fun _ _ => 0) ⟨#[], args_TopLanguagesKept, []⟩).memory Tryz.f3.params.toList Rows.topLanguagesKeptSpec.vars false args_TopLanguagesKept.toList 16 = some (ds, [], places) :=
  ⟨[.agg [.lit (.int .i64 0), .nil, .nil], .nil], [], by kernel_rfl⟩
theorem lawPC_TopLanguagesKept(xs : List AV)(h : U0 T 16 Tryz.f3.params.toList xs): PC Tryz.prog 3 xs (fun r => r = .bool true) := by rw[Tryz.params3]at h;obtain⟨a, _, rfl, h_1⟩ := v2o h;obtain⟨w, _, rfl, h_2⟩ := q2i h_1;obtain rfl := w2m h_2;exact K0 a w
theorem lifted_TopLanguagesKept(os : Os)(started : os.Started)(H : Type)(enc : TypeId × Value → H)(F : Stop.Interp):
    ReturnsInHanded {} Tryz.checked os 3 .any ((OpenSpec.ofChange Rows.topLanguagesKeptSpec).preRow enc Tryz.prog Tryz.f3 Rows.topLanguagesKeptRow.domain false Rows.topLanguagesKeptRow.laid) (((OpenSpec.ofChange Rows.topLanguagesKeptSpec).at F).post enc Tryz.prog Tryz.f3 false true false false) := by
  obtain⟨ds, places, hx⟩ := reads_TopLanguagesKept os enc;refine returnsInHanded_of_row (C := Tryz.checked) (s := OpenSpec.ofChange Rows.topLanguagesKeptSpec) own started (by kernel_rfl) Tryz.func3
    (witness_row_atRef (enc := enc) (C := Tryz.checked) false (World.laidAll Tryz.prog os Rows.topLanguagesKeptRow.laid) args_TopLanguagesKept (World.laidAll_os _ _ _) (by kernel_rfl) (by kernel_rfl) (by kernel_rfl)
      (OpenSpec.preRow_of_cond 16 hx (by kernel_rfl) (fun k hk => by cases hk) (by kernel_rfl) (laid_TopLanguagesKept os))) ?_
  intro W base args ds gs before z1 hW _ _ z6 hL hS _;exact j0v tOk laidOut (d := 16) (tb := 4) (by kernel_rfl) (by kernel_rfl) (by kernel_rfl) (by kernel_rfl) (v2d hL (by kernel_rfl)) lawPC_TopLanguagesKept rfl (fun ds h => by
    match ds, h with
    | [_, _], _ => rfl) z1 hW rfl z6
theorem jfA_TopLanguagesKept: (Rows.topLanguagesKeptRow.inPlace == Tryz.pinned.checked.prog.inPlace 3) = true := by kernel_rfl
theorem jfB_TopLanguagesKept: (Rows.topLanguagesKeptRow.unfollowed == Tryz.pinned.checked.prog.unfollowed 3) = true := by kernel_rfl
theorem jfC_TopLanguagesKept: (Rows.topLanguagesKeptRow.recurses == Tryz.pinned.checked.prog.recurses 3) = true := by kernel_rfl
theorem jfD_TopLanguagesKept: (Rows.topLanguagesKeptRow.named == Tryz.pinned.checked.prog.varsNamed 3) = true := by kernel_rfl
theorem jf_TopLanguagesKept: joinedFacts Tryz.pinned.checked.prog 3 Tryz.f3 (OpenSpec.ofChange Rows.topLanguagesKeptSpec).bare Rows.topLanguagesKeptRow = true := by unfold joinedFacts;rw[jfA_TopLanguagesKept, jfB_TopLanguagesKept, jfC_TopLanguagesKept, jfD_TopLanguagesKept];kernel_rfl
theorem said_TopLanguagesKept: Rows.TopLanguagesKeptSaid :=
  OpenClaim.holds_of_cond 3 Tryz.f3 rfl rfl rfl rfl rfl rfl rfl ⟨rfl, rfl, rfl, rfl, rfl⟩ rfl rfl rfl rfl rfl (by kernel_rfl) Tryz.func3 jf_TopLanguagesKept
    (of_decide_eq_true (by kernel_rfl)) (by unfold Func.isWrapper; first | (rw[if_pos (by decide +kernel)]; kernel_rfl) | (rw[if_neg (by decide +kernel)]; exact⟨rfl, rfl⟩))
    (fun os started H enc _ F => by rw[OpenClaim.pre_eq_preRow]; exact lifted_TopLanguagesKept os started H enc F)
theorem plain_TopLanguagesKept (f : FuncId) (fn : Func) (hf : Tryz.pinned.checked.prog.funcNamed "tidegate/tidegatetop.TopLanguagesKept" = some f) (hfn : Tryz.pinned.checked.prog.funcs[f]? = some fn) :
    false = Tryz.pinned.checked.prog.looks [] ∧ ∀ (j : Nat) t, fn.params[j]? = some t → Tryz.pinned.checked.prog.wantsStandIn t = false := by
  obtain rfl : f = 3 := Option.some.inj ((show Tryz.prog.funcNamed "tidegate/tidegatetop.TopLanguagesKept" = some 3 by kernel_rfl).symm.trans hf) |>.symm
  obtain rfl : fn = Tryz.f3 := (Option.some.inj (Tryz.func3.symm.trans hfn)).symm
  refine⟨by kernel_rfl, fun j t ht => ?_⟩
  have z1 : (Tryz.f3.params.toList.all fun t => Tryz.prog.wantsStandIn t == false) = true := by kernel_rfl
  have hm : t ∈ Tryz.f3.params.toList := by simpa using Array.mem_of_getElem? ht
  exact beq_iff_eq.1 (List.all_eq_true.1 z1 t hm)
end Go.Abs
namespace Go.Proofs.YtjmkolhkojgjpaaGreatDoor
open Go Go.Abs
theorem cdA_TopLanguagesKept: OpenClaim.wfByText (OpenSpec.ofChange Rows.topLanguagesKeptSpec) Rows.topLanguagesKeptRow = true := by kernel_rfl
theorem cdB_TopLanguagesKept: Tryz.pinned.checked.prog.mainIs = some (Rows.topLanguagesKeptCard.stood.harness.1, Rows.topLanguagesKeptCard.stood.harness.2.toList) := by kernel_rfl
theorem cdC_TopLanguagesKept: false = Rows.topLanguagesKeptRow.goesBy Tryz.pinned.checked.prog := by kernel_rfl
theorem topLanguagesKept_card: Rows.TopLanguagesKeptCardSaid :=
  Claim7.holds_tied_plain_at .later [] _ _ _ _ said_TopLanguagesKept (fun _ h => by cases h) cdA_TopLanguagesKept (fun _ h => by cases h) topLanguagesKept_row_tie rfl ⟨rfl, rfl⟩ cdB_TopLanguagesKept rfl plain_TopLanguagesKept cdC_TopLanguagesKept
end Go.Proofs.YtjmkolhkojgjpaaGreatDoor
