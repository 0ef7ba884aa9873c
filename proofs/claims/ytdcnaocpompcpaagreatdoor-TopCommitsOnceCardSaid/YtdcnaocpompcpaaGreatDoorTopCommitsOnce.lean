/- A job that emits, saves and crashes at any step commits each change exactly once, and in order: TopCommitsOnce returns true for every input. Conditions: those of the given row (the laid tables), tied by the given card. -/
import Derived.Test.YtdcnaocpompcpaaGreatDoorYh
import Derived.Test.YtdcnaocpompcpaaGreatDoorYr
set_option linter.all false
set_option maxRecDepth 100000
namespace Go.Abs
open Go Go.Proofs Go.Proofs.YtdcnaocpompcpaaGreatDoor Go.RowKit
theorem lawPC_TopCommitsOnce(xs : List AV)(h : Uv T 16 Tryz.f3.params.toList xs): PC Tryz.prog 3 xs (fun r => r = .bool true) := by rw[Tryz.params3]at h;obtain⟨k, _, rfl, hk, h_1⟩ := q1p h;obtain⟨c, _, rfl, h_2⟩ := v1d h_1;obtain rfl := d0r h_2;exact Kf k hk c
theorem lifted_TopCommitsOnce(os : Os)(started : os.Started)(H : Type)(enc : TypeId × Value → H)(F : Stop.Interp):
    ReturnsInHanded {} Tryz.checked os 3 .any ((OpenSpec.ofChange Rows.topCommitsOnceSpec).preRow enc Tryz.prog Tryz.f3 Rows.topCommitsOnceRow.domain false Rows.topCommitsOnceRow.laid) (((OpenSpec.ofChange Rows.topCommitsOnceSpec).at F).post enc Tryz.prog Tryz.f3 false true false false) := by
  obtain⟨ds, places, hx⟩ := reads_TopCommitsOnce os enc;refine returnsInHanded_of_row (C := Tryz.checked) (s := OpenSpec.ofChange Rows.topCommitsOnceSpec) own started (by kernel_rfl) Tryz.func3
    (witness_row_atRef (enc := enc) (C := Tryz.checked) false (World.laidAll Tryz.prog os Rows.topCommitsOnceRow.laid) args_TopCommitsOnce (World.laidAll_os _ _ _) (by kernel_rfl) (by kernel_rfl) (by kernel_rfl)
      (OpenSpec.preRow_of_cond 16 hx (by kernel_rfl) (fun k hk => by cases hk) (by kernel_rfl) (laid_TopCommitsOnce os))) ?_
  intro W base args ds gs before z1 hW _ _ z8 hL hS _;exact w0a tOk laidOut (d := 16) (tb := 4) (by kernel_rfl) (by kernel_rfl) (by kernel_rfl) (by kernel_rfl) (q1e (D := Rows.laid_strconv_ErrSyntax) (E := Rows.laid_strconv_ErrRange) hL hS (by kernel_rfl) (by kernel_rfl) (by kernel_rfl) rfl rfl) lawPC_TopCommitsOnce rfl (fun ds h => by
    match ds, h with
    | [_, _], _ => rfl) z1 hW rfl z8
theorem said_TopCommitsOnce: Rows.TopCommitsOnceSaid :=
  OpenClaim.holds_of_cond 3 Tryz.f3 rfl rfl rfl rfl rfl rfl rfl ⟨rfl, rfl, rfl, rfl, rfl⟩ rfl rfl rfl rfl rfl (by kernel_rfl) Tryz.func3 jf_TopCommitsOnce
    (of_decide_eq_true (by kernel_rfl)) (by unfold Func.isWrapper; first | (rw[if_pos (by decide +kernel)]; kernel_rfl) | (rw[if_neg (by decide +kernel)]; exact⟨rfl, rfl⟩))
    (fun os started H enc _ F => by rw[OpenClaim.pre_eq_preRow]; exact lifted_TopCommitsOnce os started H enc F)
end Go.Abs
namespace Go.Proofs.YtdcnaocpompcpaaGreatDoor
open Go Go.Abs
theorem topCommitsOnce_card: Rows.TopCommitsOnceCardSaid :=
  Claim7.holds_tied_plain_at .later [] _ _ _ _ said_TopCommitsOnce (fun _ h => by cases h) cdA_TopCommitsOnce (fun _ h => by cases h) topCommitsOnce_row_tie rfl ⟨rfl, rfl⟩ cdB_TopCommitsOnce rfl plain_TopCommitsOnce cdC_TopCommitsOnce
end Go.Proofs.YtdcnaocpompcpaaGreatDoor
