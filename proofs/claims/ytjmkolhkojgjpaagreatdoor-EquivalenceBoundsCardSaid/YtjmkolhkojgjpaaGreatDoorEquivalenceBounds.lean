/- An automaton includes its product with another one, and is included in their union; nothing separates it from its minimal automaton: EquivalenceBounds returns true for every input. Conditions: those of the given row (the laid tables), tied by the given card. -/
import Derived.Test.YtjmkolhkojgjpaaGreatDoorWl
set_option linter.all false
set_option maxRecDepth 100000
namespace Go.Abs
open Go Go.Proofs Go.Proofs.YtjmkolhkojgjpaaGreatDoor Go.RowKit
noncomputable def args_EquivalenceBounds: Array Value := #[.agg #[.int .i64 0, .slice none 0 0, .slice none 0 0], .agg #[.int .i64 0, .slice none 0 0, .slice none 0 0]]
theorem laid_EquivalenceBounds(os : Os): laidMetH Tryz.prog Rows.equivalenceBoundsRow.laid ((World.laidAll Tryz.prog os Rows.equivalenceBoundsRow.laid).forCall (fun _ _ => 0) ⟨#[], args_EquivalenceBounds, []⟩).memory :=
  laidMet_laidAll _ (by kernel_rfl) (by kernel_rfl)
theorem reads_EquivalenceBounds(os : Os){H : Type}(enc : TypeId × Value → H): ∃ ds places, DataW.whole enc Tryz.prog ((World.laidAll Tryz.prog os Rows.equivalenceBoundsRow.laid).forCall (fun _ _ => 0) ⟨#[], args_EquivalenceBounds, []⟩).memory Tryz.f11.params.toList Rows.equivalenceBoundsSpec.vars false args_EquivalenceBounds.toList 16 = some (ds, [], places) :=
  ⟨[.agg [.lit (.int .i64 0), .nil, .nil], .agg [.lit (.int .i64 0), .nil, .nil]], [], by kernel_rfl⟩
theorem lawPC_EquivalenceBounds(xs : List AV)(h : Sv T 16 Tryz.f11.params.toList xs): PC Tryz.prog 11 xs (fun r => r = .bool true) := by rw[Tryz.params11]at h;obtain⟨a, _, rfl, h_1⟩ := z2b h;obtain⟨b, _, rfl, h_2⟩ := z2b h_1;obtain rfl := x2x h_2;exact y0u a b
theorem lifted_EquivalenceBounds(os : Os)(started : os.Started)(H : Type)(enc : TypeId × Value → H)(F : Stop.Interp):
    ReturnsInHanded {} Tryz.checked os 11 .any ((OpenSpec.ofChange Rows.equivalenceBoundsSpec).preRow enc Tryz.prog Tryz.f11 Rows.equivalenceBoundsRow.domain false Rows.equivalenceBoundsRow.laid) (((OpenSpec.ofChange Rows.equivalenceBoundsSpec).at F).post enc Tryz.prog Tryz.f11 false true false false) := by
  obtain⟨ds, places, hx⟩ := reads_EquivalenceBounds os enc;refine returnsInHanded_of_row (C := Tryz.checked) (s := OpenSpec.ofChange Rows.equivalenceBoundsSpec) own started (by kernel_rfl) Tryz.func11
    (witness_row_atRef (enc := enc) (C := Tryz.checked) false (World.laidAll Tryz.prog os Rows.equivalenceBoundsRow.laid) args_EquivalenceBounds (World.laidAll_os _ _ _) (by kernel_rfl) (by kernel_rfl) (by kernel_rfl)
      (OpenSpec.preRow_of_cond 16 hx (by kernel_rfl) (fun k hk => by cases hk) (by kernel_rfl) (laid_EquivalenceBounds os))) ?_
  intro W base args ds gs before z1 hW _ _ z6 hL hS _;exact w12 tOk laidOut (d := 16) (tb := 4) (by kernel_rfl) (by kernel_rfl) (by kernel_rfl) (by kernel_rfl) (f2n hL (by kernel_rfl)) lawPC_EquivalenceBounds rfl (fun ds h => by
    match ds, h with
    | [_, _], _ => rfl) z1 hW rfl z6
theorem jfA_EquivalenceBounds: (Rows.equivalenceBoundsRow.inPlace == Tryz.pinned.checked.prog.inPlace 11) = true := by kernel_rfl
theorem jfB_EquivalenceBounds: (Rows.equivalenceBoundsRow.unfollowed == Tryz.pinned.checked.prog.unfollowed 11) = true := by kernel_rfl
theorem jfC_EquivalenceBounds: (Rows.equivalenceBoundsRow.recurses == Tryz.pinned.checked.prog.recurses 11) = true := by kernel_rfl
theorem jfD_EquivalenceBounds: (Rows.equivalenceBoundsRow.named == Tryz.pinned.checked.prog.varsNamed 11) = true := by kernel_rfl
theorem jf_EquivalenceBounds: joinedFacts Tryz.pinned.checked.prog 11 Tryz.f11 (OpenSpec.ofChange Rows.equivalenceBoundsSpec).bare Rows.equivalenceBoundsRow = true := by unfold joinedFacts;rw[jfA_EquivalenceBounds, jfB_EquivalenceBounds, jfC_EquivalenceBounds, jfD_EquivalenceBounds];kernel_rfl
theorem said_EquivalenceBounds: Rows.EquivalenceBoundsSaid :=
  OpenClaim.holds_of_cond 11 Tryz.f11 rfl rfl rfl rfl rfl rfl rfl ⟨rfl, rfl, rfl, rfl, rfl⟩ rfl rfl rfl rfl rfl (by kernel_rfl) Tryz.func11 jf_EquivalenceBounds
    (of_decide_eq_true (by kernel_rfl)) (by unfold Func.isWrapper; first | (rw[if_pos (by decide +kernel)]; kernel_rfl) | (rw[if_neg (by decide +kernel)]; exact⟨rfl, rfl⟩))
    (fun os started H enc _ F => by rw[OpenClaim.pre_eq_preRow]; exact lifted_EquivalenceBounds os started H enc F)
theorem plain_EquivalenceBounds (f : FuncId) (fn : Func) (hf : Tryz.pinned.checked.prog.funcNamed "tidegate/tidegatelaw31.EquivalenceBounds" = some f) (hfn : Tryz.pinned.checked.prog.funcs[f]? = some fn) :
    false = Tryz.pinned.checked.prog.looks [] ∧ ∀ (j : Nat) t, fn.params[j]? = some t → Tryz.pinned.checked.prog.wantsStandIn t = false := by
  obtain rfl : f = 11 := Option.some.inj ((show Tryz.prog.funcNamed "tidegate/tidegatelaw31.EquivalenceBounds" = some 11 by kernel_rfl).symm.trans hf) |>.symm
  obtain rfl : fn = Tryz.f11 := (Option.some.inj (Tryz.func11.symm.trans hfn)).symm
  refine⟨by kernel_rfl, fun j t ht => ?_⟩
  have z1 : (Tryz.f11.params.toList.all fun t => Tryz.prog.wantsStandIn t == false) = true := by kernel_rfl
  have hm : t ∈ Tryz.f11.params.toList := by simpa using Array.mem_of_getElem? ht
  exact beq_iff_eq.1 (List.all_eq_true.1 z1 t hm)
end Go.Abs
namespace Go.Proofs.YtjmkolhkojgjpaaGreatDoor
open Go Go.Abs
theorem cdA_EquivalenceBounds: OpenClaim.wfByText (OpenSpec.ofChange Rows.equivalenceBoundsSpec) Rows.equivalenceBoundsRow = true := by kernel_rfl
theorem cdB_EquivalenceBounds: Tryz.pinned.checked.prog.mainIs = some (Rows.equivalenceBoundsCard.stood.harness.1, Rows.equivalenceBoundsCard.stood.harness.2.toList) := by kernel_rfl
theorem cdC_EquivalenceBounds: false = Rows.equivalenceBoundsRow.goesBy Tryz.pinned.checked.prog := by kernel_rfl
theorem equivalenceBounds_card: Rows.EquivalenceBoundsCardSaid :=
  Claim7.holds_tied_plain_at .later [] _ _ _ _ said_EquivalenceBounds (fun _ h => by cases h) cdA_EquivalenceBounds (fun _ h => by cases h) equivalenceBounds_row_tie rfl ⟨rfl, rfl⟩ cdB_EquivalenceBounds rfl plain_EquivalenceBounds cdC_EquivalenceBounds
end Go.Proofs.YtjmkolhkojgjpaaGreatDoor
