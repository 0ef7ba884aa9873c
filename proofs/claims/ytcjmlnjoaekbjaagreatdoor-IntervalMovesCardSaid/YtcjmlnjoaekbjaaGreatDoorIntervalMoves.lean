/- Part IntervalMoves of the proof: an abstract machine over the model, and what the functions of the program hand back in its terms. No condition. -/
import Derived.Test.YtcjmlnjoaekbjaaGreatDoorKf
import Derived.Test.YtcjmlnjoaekbjaaGreatDoorKd
set_option linter.all false
set_option maxRecDepth 100000
namespace Go.Abs
open Go Go.Proofs
set_option linter.unusedSimpArgs false
attribute [local irreducible] conR shiftR ivFmtR ivParseR ckR goodR hasR fmtT
set_option maxHeartbeats 2000000 in
theorem law_Moves (l : List Iv) (d n : Int) : PC Tryz.prog 5 [LIv l, .i d, .i n] (fun r => r = .bool true) := by
  refine PC_body tOk Tryz.func5 rfl Tryz.results5 rfl (by simp [Tryz.ntmps5]) ?_
  rw [Tryz.ntmps5]
  simp only [argSlots]
  repeat (first
    | (refine AWP_seq (AWP_regS tOk rfl ?_); simp)
    | (refine AWP_regS tOk rfl ?_; simp)
    | (refine AWP_skip ?_; simp)
    | (refine AWP_exit ?_; simp)
    | (refine AWP_ret ?_; simp)
    | refine AWP_block ?_
    | refine AWP_seq ?_)
  refine AStep_freeze 0 rfl ?_
  simp
  refine AStep_PC rfl rfl (by simp) (pc_good [l]) rfl ?_
  rintro _ rfl
  simp
  cases hf : goodR [l] with
  | false =>
    repeat (first
      | (refine AWP_seq (AWP_regS tOk rfl ?_); simp)
      | (refine AWP_regS tOk rfl ?_; simp)
      | (refine AWP_skip ?_; simp)
      | (refine AWP_exit ?_; simp)
      | (refine AWP_ret ?_; simp)
      | refine AWP_block ?_
      | refine AWP_seq ?_)
    refine AWP_cond rfl ?_
    repeat (first
      | (refine AWP_seq (AWP_regS tOk rfl ?_); simp)
      | (refine AWP_regS tOk rfl ?_; simp)
      | (refine AWP_skip ?_; simp)
      | (refine AWP_exit ?_; simp)
      | (refine AWP_ret ?_; simp)
      | refine AWP_block ?_
      | refine AWP_seq ?_)
    refine AStep_PC rfl rfl (by simp) (pc_awake) rfl ?_
    rintro _ rfl
    simp
    repeat (first
      | (refine AWP_seq (AWP_regS tOk rfl ?_); simp)
      | (refine AWP_regS tOk rfl ?_; simp)
      | (refine AWP_skip ?_; simp)
      | (refine AWP_exit ?_; simp)
      | (refine AWP_ret ?_; simp)
      | refine AWP_block ?_
      | refine AWP_seq ?_)
  | true =>
    obtain ⟨hl, hc⟩ := good_of hf l (by simp)
    repeat (first
      | (refine AWP_seq (AWP_regS tOk rfl ?_); simp)
      | (refine AWP_regS tOk rfl ?_; simp)
      | (refine AWP_skip ?_; simp)
      | (refine AWP_exit ?_; simp)
      | (refine AWP_ret ?_; simp)
      | refine AWP_block ?_
      | refine AWP_seq ?_)
    refine AWP_cond2 rfl (fun h => ?_) (fun h => ?_)
    · repeat (first
        | (refine AWP_seq (AWP_regS tOk rfl ?_); simp)
        | (refine AWP_regS tOk rfl ?_; simp)
        | (refine AWP_skip ?_; simp)
        | (refine AWP_exit ?_; simp)
        | (refine AWP_ret ?_; simp)
        | refine AWP_block ?_
        | refine AWP_seq ?_)
      refine AStep_PC rfl rfl (by simp) (pc_awake) rfl ?_
      rintro _ rfl
      simp
      repeat (first
        | (refine AWP_seq (AWP_regS tOk rfl ?_); simp)
        | (refine AWP_regS tOk rfl ?_; simp)
        | (refine AWP_skip ?_; simp)
        | (refine AWP_exit ?_; simp)
        | (refine AWP_ret ?_; simp)
        | refine AWP_block ?_
        | refine AWP_seq ?_)
    have hb : -3298534883328 ≤ d ∧ d ≤ 3298534883328 ∧ -1099511627776 ≤ n ∧ n ≤ 1099511627776 := by simp at h; omega
    clear h
    obtain ⟨s1, s2, s3⟩ := shift_all hc d n (by omega) (by omega)
    have hsh : shiftR l d = ((shiftR l d).1, 0) := by rw [← s1]
    generalize (shiftR l d).1 = m at *
    have d1 := con_of s2 n
    have d2 := con_of hc (n - d)
    rw [s3] at d1
    have hck := (ck_iff m).2 s2
    obtain ⟨p1, p2⟩ := parse_text hc hl
    have hfm : ivFmtR l = (fmtT l, 0) := by unfold ivFmtR; rw [if_pos ((ck_iff l).2 hc)]
    have hw0 : IntKind.i64.wrap 0 = 0 := wrap_i64 _ (by omega) (by omega)
    have hw : IntKind.i64.wrap (n - d) = n - d := wrap_i64 _ (by omega) (by omega)
    have hbb : (hasR l (n - d) != hasR l (n - d)) = false := by simp
    repeat (first
      | (refine AWP_seq (AWP_regS tOk rfl ?_); simp)
      | (refine AWP_regS tOk rfl ?_; simp)
      | (refine AWP_skip ?_; simp)
      | (refine AWP_exit ?_; simp)
      | (refine AWP_ret ?_; simp)
      | refine AWP_block ?_
      | refine AWP_seq ?_)
    refine AStep_PC rfl rfl (by simp) (pc_Shift l d) rfl ?_
    rintro _ rfl
    simp [hsh]
    repeat (first
      | (refine AWP_seq (AWP_regS tOk rfl ?_); simp)
      | (refine AWP_regS tOk rfl ?_; simp)
      | (refine AWP_skip ?_; simp)
      | (refine AWP_exit ?_; simp)
      | (refine AWP_ret ?_; simp)
      | refine AWP_block ?_
      | refine AWP_seq ?_)
    refine AStep_PC rfl rfl (by simp) (pc_Contains m n) rfl ?_
    rintro _ rfl
    simp [d1]
    repeat (first
      | (refine AWP_seq (AWP_regS tOk rfl ?_); simp [hw])
      | (refine AWP_regS tOk rfl ?_; simp [hw])
      | (refine AWP_skip ?_; simp [hw])
      | (refine AWP_exit ?_; simp [hw])
      | (refine AWP_ret ?_; simp [hw])
      | refine AWP_block ?_
      | refine AWP_seq ?_)
    refine AStep_PC rfl rfl (by simp) (pc_Contains l (n - d)) rfl ?_
    rintro _ rfl
    simp [d2]
    repeat (first
      | (refine AWP_seq (AWP_regS tOk rfl ?_); simp [hw0, hbb])
      | (refine AWP_regS tOk rfl ?_; simp [hw0, hbb])
      | (refine AWP_skip ?_; simp [hw0, hbb])
      | (refine AWP_exit ?_; simp [hw0, hbb])
      | (refine AWP_ret ?_; simp [hw0, hbb])
      | refine AWP_block ?_
      | refine AWP_seq ?_)
    refine AStep_PC rfl rfl (by simp) (pc_Check m) rfl ?_
    rintro _ rfl
    simp [hck]
    repeat (first
      | (refine AWP_seq (AWP_regS tOk rfl ?_); simp)
      | (refine AWP_regS tOk rfl ?_; simp)
      | (refine AWP_skip ?_; simp)
      | (refine AWP_exit ?_; simp)
      | (refine AWP_ret ?_; simp)
      | refine AWP_block ?_
      | refine AWP_seq ?_)
    refine AWP_cond rfl ?_
    repeat (first
      | (refine AWP_seq (AWP_regS tOk rfl ?_); simp)
      | (refine AWP_regS tOk rfl ?_; simp)
      | (refine AWP_skip ?_; simp)
      | (refine AWP_exit ?_; simp)
      | (refine AWP_ret ?_; simp)
      | refine AWP_block ?_
      | refine AWP_seq ?_)
    refine AStep_PC rfl rfl (by simp) (pc_Format l) rfl ?_
    rintro _ rfl
    simp [hfm]
    repeat (first
      | (refine AWP_seq (AWP_regS tOk rfl ?_); simp)
      | (refine AWP_regS tOk rfl ?_; simp)
      | (refine AWP_skip ?_; simp)
      | (refine AWP_exit ?_; simp)
      | (refine AWP_ret ?_; simp)
      | refine AWP_block ?_
      | refine AWP_seq ?_)
    refine AStep_PC rfl rfl (by simp) (pc_Parse (fmtT l) (by omega)) rfl ?_
    rintro _ rfl
    simp [p2]
    repeat (first
      | (refine AWP_seq (AWP_regS tOk rfl ?_); simp)
      | (refine AWP_regS tOk rfl ?_; simp)
      | (refine AWP_skip ?_; simp)
      | (refine AWP_exit ?_; simp)
      | (refine AWP_ret ?_; simp)
      | refine AWP_block ?_
      | refine AWP_seq ?_)
    refine AStep_PC rfl rfl (by simp) (pc_Same l l) rfl ?_
    rintro _ rfl
    simp
    repeat (first
      | (refine AWP_seq (AWP_regS tOk rfl ?_); simp)
      | (refine AWP_regS tOk rfl ?_; simp)
      | (refine AWP_skip ?_; simp)
      | (refine AWP_exit ?_; simp)
      | (refine AWP_ret ?_; simp)
      | refine AWP_block ?_
      | refine AWP_seq ?_)
    refine AStep_PC rfl rfl (by simp) (pc_awake) rfl ?_
    rintro _ rfl
    simp
    repeat (first
      | (refine AWP_seq (AWP_regS tOk rfl ?_); simp)
      | (refine AWP_regS tOk rfl ?_; simp)
      | (refine AWP_skip ?_; simp)
      | (refine AWP_exit ?_; simp)
      | (refine AWP_ret ?_; simp)
      | refine AWP_block ?_
      | refine AWP_seq ?_)
end Go.Abs
/- A number is in a shifted set exactly if the number that it comes from is in the set, and the text of a set is parsed as the set: IntervalMoves returns true for every input. Conditions: those of the given row (the laid tables), tied by the given card. -/
set_option maxRecDepth 100000
namespace Go.Abs
open Go Go.Proofs Go.Proofs.YtcjmlnjoaekbjaaGreatDoor Go.RowKit
noncomputable def args_IntervalMoves : Array Value := #[.slice none 0 0, .int .i64 0, .int .i64 0]
theorem laid_IntervalMoves (os : Os) : laidMetH Tryz.prog Rows.intervalMovesRow.laid ((World.laidAll Tryz.prog os Rows.intervalMovesRow.laid).forCall (fun _ _ => 0) ⟨#[], args_IntervalMoves, []⟩).memory :=
  laidMet_laidAll _ (by kernel_rfl) (by kernel_rfl)
theorem reads_IntervalMoves (os : Os) {H : Type} (enc : TypeId × Value → H) : ∃ ds places, DataW.whole enc Tryz.prog ((World.laidAll Tryz.prog os Rows.intervalMovesRow.laid).forCall (fun _ _ => 0) ⟨#[], args_IntervalMoves, []⟩).memory Tryz.f5.params.toList Rows.intervalMovesSpec.vars false args_IntervalMoves.toList 8 = some (ds, [], places) :=
  ⟨[.nil, .lit (.int .i64 0), .lit (.int .i64 0)], [], by kernel_rfl⟩
theorem lawPC_IntervalMoves (xs : List AV) (h : ArgsShp T 8 Tryz.f5.params.toList xs) : PC Tryz.prog 5 xs (fun r => r = .bool true) := by
  rw [Tryz.params5] at h
  obtain ⟨l, _, rfl, h_1⟩ := argLIv h
  obtain ⟨d, _, rfl, hd, h_2⟩ := argInt h_1
  obtain ⟨n, _, rfl, hn, h_3⟩ := argInt h_2
  obtain rfl := argsNil h_3
  exact law_Moves l d n
theorem lifted_IntervalMoves (os : Os) (started : os.Started) (H : Type) (enc : TypeId × Value → H) (F : Stop.Interp) :
    ReturnsInHanded {} Tryz.checked os 5 .any ((OpenSpec.ofChange Rows.intervalMovesSpec).preRow enc Tryz.prog Tryz.f5 Rows.intervalMovesRow.domain false Rows.intervalMovesRow.laid) (((OpenSpec.ofChange Rows.intervalMovesSpec).at F).post enc Tryz.prog Tryz.f5 false true false false) := by
  obtain ⟨ds, places, hx⟩ := reads_IntervalMoves os enc
  refine returnsInHanded_of_row (C := Tryz.checked) (s := OpenSpec.ofChange Rows.intervalMovesSpec) own started (by kernel_rfl) Tryz.func5
    (witness_row_atRef (enc := enc) (C := Tryz.checked) false (World.laidAll Tryz.prog os Rows.intervalMovesRow.laid) args_IntervalMoves (World.laidAll_os _ _ _) (by kernel_rfl) (by kernel_rfl) (by kernel_rfl)
      (OpenSpec.preRow_of_cond 8 hx (by kernel_rfl) (fun k hk => by cases hk) (by kernel_rfl) (laid_IntervalMoves os))) ?_
  intro W base args ds gs before hval hW _ _ hwt hL hS _
  exact row_of_PC tOk laidOut (d := 8) (tb := 4) (by kernel_rfl) (by kernel_rfl) (by kernel_rfl) (by kernel_rfl) (eok_of hL hS (by kernel_rfl)) lawPC_IntervalMoves rfl (fun ds h => by
    match ds, h with
    | [_, _, _], _ => rfl) hval hW rfl hwt
theorem said_IntervalMoves : Rows.IntervalMovesSaid :=
  OpenClaim.holds_of_cond 5 Tryz.f5 rfl rfl rfl rfl rfl rfl rfl ⟨rfl, rfl, rfl, rfl, rfl⟩ rfl rfl rfl rfl rfl (by kernel_rfl) Tryz.func5 (by kernel_rfl)
    (of_decide_eq_true (by kernel_rfl)) (by unfold Func.isWrapper; first | (rw [if_pos (by decide +kernel)]; kernel_rfl) | (rw [if_neg (by decide +kernel)]; exact ⟨rfl, rfl⟩))
    (fun os started H enc _ F => by rw [OpenClaim.pre_eq_preRow]; exact lifted_IntervalMoves os started H enc F)
theorem plain_IntervalMoves (f : FuncId) (fn : Func) (hf : Tryz.pinned.checked.prog.funcNamed "tidegate/tidegatelaw02.IntervalMoves" = some f) (hfn : Tryz.pinned.checked.prog.funcs[f]? = some fn) :
    true = Tryz.pinned.checked.prog.looks [] ∧ ∀ (j : Nat) t, fn.params[j]? = some t → Tryz.pinned.checked.prog.wantsStandIn t = false := by
  obtain rfl : f = 5 := Option.some.inj ((show Tryz.prog.funcNamed "tidegate/tidegatelaw02.IntervalMoves" = some 5 by kernel_rfl).symm.trans hf) |>.symm
  obtain rfl : fn = Tryz.f5 := (Option.some.inj (Tryz.func5.symm.trans hfn)).symm
  refine ⟨by kernel_rfl, fun j t ht => ?_⟩
  have hall : (Tryz.f5.params.toList.all fun t => Tryz.prog.wantsStandIn t == false) = true := by kernel_rfl
  have hm : t ∈ Tryz.f5.params.toList := by simpa using Array.mem_of_getElem? ht
  exact beq_iff_eq.1 (List.all_eq_true.1 hall t hm)
end Go.Abs
namespace Go.Proofs.YtcjmlnjoaekbjaaGreatDoor
open Go Go.Abs
theorem intervalMoves_card : Rows.IntervalMovesCardSaid :=
  Claim7.holds_tied_plain_at .later [] _ _ _ _ said_IntervalMoves (fun _ h => by cases h) (by kernel_rfl) (fun _ h => by cases h) intervalMoves_row_tie rfl ⟨rfl, rfl⟩ (by kernel_rfl) rfl plain_IntervalMoves (by kernel_rfl)
end Go.Proofs.YtcjmlnjoaekbjaaGreatDoor
