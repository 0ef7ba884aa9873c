/- The epochs that workers report become durable in order, each when its last report is in: TopEpochsAscend returns true for every input. Conditions: those of the given row (the laid tables), tied by the given card. -/
import Derived.Test.YtdcnaocpompcpaaGreatDoorZi
import Derived.Test.YtdcnaocpompcpaaGreatDoorZr
set_option linter.all false
set_option maxRecDepth 100000
namespace Go.Abs
open Go Go.Proofs Go.Proofs.YtdcnaocpompcpaaGreatDoor Go.RowKit
theorem lawPC_TopEpochsAscend(xs : List AV)(h : Uj T 16 Tryz.f4.params.toList xs): PC Tryz.prog 4 xs (fun r => r = .bool true) := by rw[Tryz.params4]at h;obtain⟨x, _, rfl, hx, h_1⟩ := u1m h;obtain⟨k, _, rfl, hk, h_2⟩ := w1n h_1;obtain rfl := c0n h_2;exact Xe x hx k hk
theorem lifted_TopEpochsAscend(os : Os)(started : os.Started)(H : Type)(enc : TypeId × Value → H)(F : Stop.Interp):
    ReturnsInHanded {} Tryz.checked os 4 .any ((OpenSpec.ofChange Rows.topEpochsAscendSpec).preRow enc Tryz.prog Tryz.f4 Rows.topEpochsAscendRow.domain false Rows.topEpochsAscendRow.laid) (((OpenSpec.ofChange Rows.topEpochsAscendSpec).at F).post enc Tryz.prog Tryz.f4 false true false false) := by
  obtain⟨ds, places, hx⟩ := reads_TopEpochsAscend os enc;refine returnsInHanded_of_row (C := Tryz.checked) (s := OpenSpec.ofChange Rows.topEpochsAscendSpec) own started (by kernel_rfl) Tryz.func4
    (witness_row_atRef (enc := enc) (C := Tryz.checked) false (World.laidAll Tryz.prog os Rows.topEpochsAscendRow.laid) args_TopEpochsAscend (World.laidAll_os _ _ _) (by kernel_rfl) (by kernel_rfl) (by kernel_rfl)
      (OpenSpec.preRow_of_cond 16 hx (by kernel_rfl) (fun k hk => by cases hk) (by kernel_rfl) (laid_TopEpochsAscend os))) ?_
  intro W base args ds gs before z1 hW _ _ z8 hL hS _;exact w0y tOk laidOut (d := 16) (tb := 4) (by kernel_rfl) (by kernel_rfl) (by kernel_rfl) (by kernel_rfl) (w1b (D := Rows.laid_strconv_ErrSyntax) (E := Rows.laid_strconv_ErrRange) hL hS (by kernel_rfl) (by kernel_rfl) (by kernel_rfl) rfl rfl) lawPC_TopEpochsAscend rfl (fun ds h => by
    match ds, h with
    | [_, _], _ => rfl) z1 hW rfl z8
theorem said_TopEpochsAscend: Rows.TopEpochsAscendSaid :=
  OpenClaim.holds_of_cond 4 Tryz.f4 rfl rfl rfl rfl rfl rfl rfl ⟨rfl, rfl, rfl, rfl, rfl⟩ rfl rfl rfl rfl rfl (by kernel_rfl) Tryz.func4 jf_TopEpochsAscend
    (of_decide_eq_true (by kernel_rfl)) (by unfold Func.isWrapper; first | (rw[if_pos (by decide +kernel)]; kernel_rfl) | (rw[if_neg (by decide +kernel)]; exact⟨rfl, rfl⟩))
    (fun os started H enc _ F => by rw[OpenClaim.pre_eq_preRow]; exact lifted_TopEpochsAscend os started H enc F)
end Go.Abs
namespace Go.Proofs.YtdcnaocpompcpaaGreatDoor
open Go Go.Abs
theorem topEpochsAscend_card: Rows.TopEpochsAscendCardSaid :=
  Claim7.holds_tied_plain_at .later [] _ _ _ _ said_TopEpochsAscend (fun _ h => by cases h) cdA_TopEpochsAscend (fun _ h => by cases h) topEpochsAscend_row_tie rfl ⟨rfl, rfl⟩ cdB_TopEpochsAscend rfl plain_TopEpochsAscend cdC_TopEpochsAscend
end Go.Proofs.YtdcnaocpompcpaaGreatDoor
