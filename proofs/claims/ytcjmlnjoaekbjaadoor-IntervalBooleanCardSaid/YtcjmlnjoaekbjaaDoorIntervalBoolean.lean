/- Part IntervalBoolean of the proof: an abstract machine over the model, and what the functions of the program hand back in its terms. No condition. -/
import Derived.Test.YtcjmlnjoaekbjaaDoorKf
import Derived.Test.YtcjmlnjoaekbjaaDoorKd
set_option linter.all false
set_option maxRecDepth 100000
namespace Go.Abs
open Go Go.Proofs
set_option linter.unusedSimpArgs false
attribute [local irreducible] complR combR ckR goodR conR hasR sweepR gapsR inB
set_option maxHeartbeats 4000000 in
theorem law_Boolean (a b : List Iv) (n : Int) : PC Tryd.prog 5 [LIv a, LIv b, .i n] (fun r => r = .bool true) := by
  refine PC_body tOk Tryd.func5 rfl Tryd.results5 rfl (by simp [Tryd.ntmps5]) ?_
  rw [Tryd.ntmps5]
  simp only [argSlots]
  have r2 : List.range 2 = [0, 1] := rfl
  repeat (first
    | (refine AWP_seq (AWP_regS tOk rfl ?_); simp [r2])
    | (refine AWP_regS tOk rfl ?_; simp [r2])
    | (refine AWP_skip ?_; simp [r2])
    | (refine AWP_exit ?_; simp [r2])
    | (refine AWP_ret ?_; simp [r2])
    | refine AWP_block ?_
    | refine AWP_seq ?_)
  refine AStep_freeze 0 rfl ?_
  simp
  refine AStep_PC rfl rfl (by simp) (pc_good [a, b]) rfl ?_
  rintro _ rfl
  simp
  cases hf : goodR [a, b] with
  | false =>
    repeat (first
      | (refine AWP_seq (AWP_regS tOk rfl ?_); simp)
      | (refine AWP_regS tOk rfl ?_; simp)
      | (refine AWP_skip ?_; simp)
      | (refine AWP_exit ?_; simp)
      | (refine AWP_ret ?_; simp)
      | refine AWP_block ?_
      | refine AWP_seq ?_)
    refine AWP_cond rfl ?_
    repeat (first
      | (refine AWP_seq (AWP_regS tOk rfl ?_); simp)
      | (refine AWP_regS tOk rfl ?_; simp)
      | (refine AWP_skip ?_; simp)
      | (refine AWP_exit ?_; simp)
      | (refine AWP_ret ?_; simp)
      | refine AWP_block ?_
      | refine AWP_seq ?_)
    refine AStep_PC rfl rfl (by simp) (pc_awake) rfl ?_
    rintro _ rfl
    simp
    repeat (first
      | (refine AWP_seq (AWP_regS tOk rfl ?_); simp)
      | (refine AWP_regS tOk rfl ?_; simp)
      | (refine AWP_skip ?_; simp)
      | (refine AWP_exit ?_; simp)
      | (refine AWP_ret ?_; simp)
      | refine AWP_block ?_
      | refine AWP_seq ?_)
  | true =>
    obtain ⟨hla, ha⟩ := good_of hf a (by simp)
    obtain ⟨hlb, hb⟩ := good_of hf b (by simp)
    have hU := sweep_canon opUnion rfl ha hb (by omega)
    have hV := sweep_canon opInter rfl ha hb (by omega)
    have hW := sweep_canon opMinus rfl ha hb (by omega)
    have hC := gaps_canon ha (by omega)
    have hD := gaps_canon hb (by omega)
    have lU := sweep_len opUnion rfl a b
    have lC := gaps_len ha
    have lD := gaps_len hb
    have c1 := comb_of opUnion rfl ha hb (by omega)
    have c2 := comb_of opInter rfl ha hb (by omega)
    have c3 := comb_of opMinus rfl ha hb (by omega)
    have c4 := compl_of ha (by omega)
    have c5 := compl_of hb (by omega)
    have d0 := con_of ha n
    have d1 := con_of hb n
    have d2 := con_of hU n
    have d3 := con_of hV n
    have d4 := con_of hW n
    have d5 := con_of hC n
    rw [has_sweep opUnion rfl] at d2
    rw [has_sweep opInter rfl] at d3
    rw [has_sweep opMinus rfl] at d4
    rw [has_gaps ha] at d5
    have e1 := compl_of hU (by omega)
    have e2 := comb_of opInter rfl hC hD (by omega)
    have e3 := compl_of hC (by omega)
    rw [demorgan ha hb (by omega)] at e1
    rw [gaps_gaps ha (by omega)] at e3
    have hnx : inB n = false → hasR a n = false := has_num ha
    have hny : inB n = false → hasR b n = false := has_num hb
    have hin : (decide (-1099511627776 ≤ n) && decide (n ≤ 1099511627776)) = inB n := by unfold inB; rfl
    generalize hasR a n = x at *
    generalize hasR b n = y at *
    generalize inB n = m at *
    generalize sweepR opUnion a b = U at *
    generalize sweepR opInter a b = V at *
    generalize sweepR opMinus a b = W at *
    generalize gapsR a = C at *
    generalize gapsR b = D at *
    generalize sweepR opInter C D = N at *
    repeat (first
      | (refine AWP_seq (AWP_regS tOk rfl ?_); simp)
      | (refine AWP_regS tOk rfl ?_; simp)
      | (refine AWP_skip ?_; simp)
      | (refine AWP_exit ?_; simp)
      | (refine AWP_ret ?_; simp)
      | refine AWP_block ?_
      | refine AWP_seq ?_)
    refine AWP_cond rfl ?_
    have hw0 : IntKind.i64.wrap 0 = 0 := wrap_i64 _ (by omega) (by omega)
    have q1 : (!m && (x || y)) = false := by
      cases m
      · rw [hnx rfl, hny rfl]; rfl
      · rfl
    repeat (first
      | (refine AWP_seq (AWP_regS tOk rfl ?_); simp [hin])
      | (refine AWP_regS tOk rfl ?_; simp [hin])
      | (refine AWP_skip ?_; simp [hin])
      | (refine AWP_exit ?_; simp [hin])
      | (refine AWP_ret ?_; simp [hin])
      | refine AWP_block ?_
      | refine AWP_seq ?_)
    refine AStep_PC rfl rfl (by simp) (pc_Contains a n) rfl ?_
    rintro _ rfl
    simp [d0]
    repeat (first
      | (refine AWP_seq (AWP_regS tOk rfl ?_); simp)
      | (refine AWP_regS tOk rfl ?_; simp)
      | (refine AWP_skip ?_; simp)
      | (refine AWP_exit ?_; simp)
      | (refine AWP_ret ?_; simp)
      | refine AWP_block ?_
      | refine AWP_seq ?_)
    refine AStep_PC rfl rfl (by simp) (pc_Contains b n) rfl ?_
    rintro _ rfl
    simp [d1]
    repeat (first
      | (refine AWP_seq (AWP_regS tOk rfl ?_); simp [hw0, q1])
      | (refine AWP_regS tOk rfl ?_; simp [hw0, q1])
      | (refine AWP_skip ?_; simp [hw0, q1])
      | (refine AWP_exit ?_; simp [hw0, q1])
      | (refine AWP_ret ?_; simp [hw0, q1])
      | refine AWP_block ?_
      | refine AWP_seq ?_)
    refine AWP_cond2 rfl (fun h => by first | (cases h; done) | (rw [q1] at h; cases h) | (simp [q1] at h; done)) (fun _ => ?_)
    repeat (first
      | (refine AWP_seq (AWP_regS tOk rfl ?_); simp)
      | (refine AWP_regS tOk rfl ?_; simp)
      | (refine AWP_skip ?_; simp)
      | (refine AWP_exit ?_; simp)
      | (refine AWP_ret ?_; simp)
      | refine AWP_block ?_
      | refine AWP_seq ?_)
    refine AStep_PC rfl rfl (by simp) (pc_Union a b) rfl ?_
    rintro _ rfl
    simp [c1]
    repeat (first
      | (refine AWP_seq (AWP_regS tOk rfl ?_); simp)
      | (refine AWP_regS tOk rfl ?_; simp)
      | (refine AWP_skip ?_; simp)
      | (refine AWP_exit ?_; simp)
      | (refine AWP_ret ?_; simp)
      | refine AWP_block ?_
      | refine AWP_seq ?_)
    refine AStep_PC rfl rfl (by simp) (pc_Intersect a b) rfl ?_
    rintro _ rfl
    simp [c2]
    repeat (first
      | (refine AWP_seq (AWP_regS tOk rfl ?_); simp)
      | (refine AWP_regS tOk rfl ?_; simp)
      | (refine AWP_skip ?_; simp)
      | (refine AWP_exit ?_; simp)
      | (refine AWP_ret ?_; simp)
      | refine AWP_block ?_
      | refine AWP_seq ?_)
    refine AStep_PC rfl rfl (by simp) (pc_Minus a b) rfl ?_
    rintro _ rfl
    simp [c3]
    repeat (first
      | (refine AWP_seq (AWP_regS tOk rfl ?_); simp)
      | (refine AWP_regS tOk rfl ?_; simp)
      | (refine AWP_skip ?_; simp)
      | (refine AWP_exit ?_; simp)
      | (refine AWP_ret ?_; simp)
      | refine AWP_block ?_
      | refine AWP_seq ?_)
    refine AStep_PC rfl rfl (by simp) (pc_Complement a) rfl ?_
    rintro _ rfl
    simp [c4]
    repeat (first
      | (refine AWP_seq (AWP_regS tOk rfl ?_); simp)
      | (refine AWP_regS tOk rfl ?_; simp)
      | (refine AWP_skip ?_; simp)
      | (refine AWP_exit ?_; simp)
      | (refine AWP_ret ?_; simp)
      | refine AWP_block ?_
      | refine AWP_seq ?_)
    refine AStep_PC rfl rfl (by simp) (pc_Complement b) rfl ?_
    rintro _ rfl
    simp [c5]
    repeat (first
      | (refine AWP_seq (AWP_regS tOk rfl ?_); simp [hw0])
      | (refine AWP_regS tOk rfl ?_; simp [hw0])
      | (refine AWP_skip ?_; simp [hw0])
      | (refine AWP_exit ?_; simp [hw0])
      | (refine AWP_ret ?_; simp [hw0])
      | refine AWP_block ?_
      | refine AWP_seq ?_)
    refine AWP_cond rfl ?_
    repeat (first
      | (refine AWP_seq (AWP_regS tOk rfl ?_); simp)
      | (refine AWP_regS tOk rfl ?_; simp)
      | (refine AWP_skip ?_; simp)
      | (refine AWP_exit ?_; simp)
      | (refine AWP_ret ?_; simp)
      | refine AWP_block ?_
      | refine AWP_seq ?_)
    refine AStep_PC rfl rfl (by simp) (pc_Contains U n) rfl ?_
    rintro _ rfl
    simp [d2]
    repeat (first
      | (refine AWP_seq (AWP_regS tOk rfl ?_); simp)
      | (refine AWP_regS tOk rfl ?_; simp)
      | (refine AWP_skip ?_; simp)
      | (refine AWP_exit ?_; simp)
      | (refine AWP_ret ?_; simp)
      | refine AWP_block ?_
      | refine AWP_seq ?_)
    refine AStep_PC rfl rfl (by simp) (pc_Contains V n) rfl ?_
    rintro _ rfl
    simp [d3]
    repeat (first
      | (refine AWP_seq (AWP_regS tOk rfl ?_); simp)
      | (refine AWP_regS tOk rfl ?_; simp)
      | (refine AWP_skip ?_; simp)
      | (refine AWP_exit ?_; simp)
      | (refine AWP_ret ?_; simp)
      | refine AWP_block ?_
      | refine AWP_seq ?_)
    refine AStep_PC rfl rfl (by simp) (pc_Contains W n) rfl ?_
    rintro _ rfl
    simp [d4]
    repeat (first
      | (refine AWP_seq (AWP_regS tOk rfl ?_); simp)
      | (refine AWP_regS tOk rfl ?_; simp)
      | (refine AWP_skip ?_; simp)
      | (refine AWP_exit ?_; simp)
      | (refine AWP_ret ?_; simp)
      | refine AWP_block ?_
      | refine AWP_seq ?_)
    refine AStep_PC rfl rfl (by simp) (pc_Contains C n) rfl ?_
    rintro _ rfl
    simp [d5]
    repeat (first
      | (refine AWP_seq (AWP_regS tOk rfl ?_); simp [hw0])
      | (refine AWP_regS tOk rfl ?_; simp [hw0])
      | (refine AWP_skip ?_; simp [hw0])
      | (refine AWP_exit ?_; simp [hw0])
      | (refine AWP_ret ?_; simp [hw0])
      | refine AWP_block ?_
      | refine AWP_seq ?_)
    refine AWP_cond2 rfl (fun h => by
      clear d0 d1 d2 d3 d4 d5 q1
      cases m <;> cases x <;> cases y <;> first | (simp at hnx; done) | (simp at hny; done) | (simp [opUnion, opInter, opMinus] at h; done)) (fun _ => ?_)
    repeat (first
      | (refine AWP_seq (AWP_regS tOk rfl ?_); simp)
      | (refine AWP_regS tOk rfl ?_; simp)
      | (refine AWP_skip ?_; simp)
      | (refine AWP_exit ?_; simp)
      | (refine AWP_ret ?_; simp)
      | refine AWP_block ?_
      | refine AWP_seq ?_)
    refine AStep_PC rfl rfl (by simp) (pc_Complement U) rfl ?_
    rintro _ rfl
    simp [e1]
    repeat (first
      | (refine AWP_seq (AWP_regS tOk rfl ?_); simp)
      | (refine AWP_regS tOk rfl ?_; simp)
      | (refine AWP_skip ?_; simp)
      | (refine AWP_exit ?_; simp)
      | (refine AWP_ret ?_; simp)
      | refine AWP_block ?_
      | refine AWP_seq ?_)
    refine AStep_PC rfl rfl (by simp) (pc_Intersect C D) rfl ?_
    rintro _ rfl
    simp [e2]
    repeat (first
      | (refine AWP_seq (AWP_regS tOk rfl ?_); simp)
      | (refine AWP_regS tOk rfl ?_; simp)
      | (refine AWP_skip ?_; simp)
      | (refine AWP_exit ?_; simp)
      | (refine AWP_ret ?_; simp)
      | refine AWP_block ?_
      | refine AWP_seq ?_)
    refine AStep_PC rfl rfl (by simp) (pc_Complement C) rfl ?_
    rintro _ rfl
    simp [e3]
    repeat (first
      | (refine AWP_seq (AWP_regS tOk rfl ?_); simp [hw0])
      | (refine AWP_regS tOk rfl ?_; simp [hw0])
      | (refine AWP_skip ?_; simp [hw0])
      | (refine AWP_exit ?_; simp [hw0])
      | (refine AWP_ret ?_; simp [hw0])
      | refine AWP_block ?_
      | refine AWP_seq ?_)
    refine AStep_PC rfl rfl (by simp) (pc_Same N N) rfl ?_
    rintro _ rfl
    simp
    repeat (first
      | (refine AWP_seq (AWP_regS tOk rfl ?_); simp)
      | (refine AWP_regS tOk rfl ?_; simp)
      | (refine AWP_skip ?_; simp)
      | (refine AWP_exit ?_; simp)
      | (refine AWP_ret ?_; simp)
      | refine AWP_block ?_
      | refine AWP_seq ?_)
    refine AStep_PC rfl rfl (by simp) (pc_Same a a) rfl ?_
    rintro _ rfl
    simp
    repeat (first
      | (refine AWP_seq (AWP_regS tOk rfl ?_); simp)
      | (refine AWP_regS tOk rfl ?_; simp)
      | (refine AWP_skip ?_; simp)
      | (refine AWP_exit ?_; simp)
      | (refine AWP_ret ?_; simp)
      | refine AWP_block ?_
      | refine AWP_seq ?_)
    refine AStep_PC rfl rfl (by simp) (pc_awake) rfl ?_
    rintro _ rfl
    simp
    repeat (first
      | (refine AWP_seq (AWP_regS tOk rfl ?_); simp)
      | (refine AWP_regS tOk rfl ?_; simp)
      | (refine AWP_skip ?_; simp)
      | (refine AWP_exit ?_; simp)
      | (refine AWP_ret ?_; simp)
      | refine AWP_block ?_
      | refine AWP_seq ?_)
end Go.Abs
/- A number is in a union, an intersection, a difference or a complement exactly if it should be, and the laws of De Morgan hold: IntervalBoolean returns true for every input. Conditions: those of the given row (the laid tables), tied by the given card. -/
set_option maxRecDepth 100000
namespace Go.Abs
open Go Go.Proofs Go.Proofs.YtcjmlnjoaekbjaaDoor Go.RowKit
noncomputable def args_IntervalBoolean : Array Value := #[.slice none 0 0, .slice none 0 0, .int .i64 0]
theorem laid_IntervalBoolean (os : Os) : laidMetH Tryd.prog Rows.intervalBooleanRow.laid ((World.laidAll Tryd.prog os Rows.intervalBooleanRow.laid).forCall (fun _ _ => 0) ⟨#[], args_IntervalBoolean, []⟩).memory :=
  laidMet_laidAll _ (by kernel_rfl) (by kernel_rfl)
theorem reads_IntervalBoolean (os : Os) {H : Type} (enc : TypeId × Value → H) : ∃ ds places, DataW.whole enc Tryd.prog ((World.laidAll Tryd.prog os Rows.intervalBooleanRow.laid).forCall (fun _ _ => 0) ⟨#[], args_IntervalBoolean, []⟩).memory Tryd.f5.params.toList Rows.intervalBooleanSpec.vars false args_IntervalBoolean.toList 8 = some (ds, [], places) :=
  ⟨[.nil, .nil, .lit (.int .i64 0)], [], by kernel_rfl⟩
theorem lawPC_IntervalBoolean (xs : List AV) (h : ArgsShp T 8 Tryd.f5.params.toList xs) : PC Tryd.prog 5 xs (fun r => r = .bool true) := by
  rw [Tryd.params5] at h
  obtain ⟨a, _, rfl, h_1⟩ := argLIv h
  obtain ⟨b, _, rfl, h_2⟩ := argLIv h_1
  obtain ⟨n, _, rfl, hn, h_3⟩ := argInt h_2
  obtain rfl := argsNil h_3
  exact law_Boolean a b n
theorem lifted_IntervalBoolean (os : Os) (started : os.Started) (H : Type) (enc : TypeId × Value → H) (F : Stop.Interp) :
    ReturnsInHanded {} Tryd.checked os 5 .any ((OpenSpec.ofChange Rows.intervalBooleanSpec).preRow enc Tryd.prog Tryd.f5 Rows.intervalBooleanRow.domain false Rows.intervalBooleanRow.laid) (((OpenSpec.ofChange Rows.intervalBooleanSpec).at F).post enc Tryd.prog Tryd.f5 false true false false) := by
  obtain ⟨ds, places, hx⟩ := reads_IntervalBoolean os enc
  refine returnsInHanded_of_row (C := Tryd.checked) (s := OpenSpec.ofChange Rows.intervalBooleanSpec) own started (by kernel_rfl) Tryd.func5
    (witness_row_atRef (enc := enc) (C := Tryd.checked) false (World.laidAll Tryd.prog os Rows.intervalBooleanRow.laid) args_IntervalBoolean (World.laidAll_os _ _ _) (by kernel_rfl) (by kernel_rfl) (by kernel_rfl)
      (OpenSpec.preRow_of_cond 8 hx (by kernel_rfl) (fun k hk => by cases hk) (by kernel_rfl) (laid_IntervalBoolean os))) ?_
  intro W base args ds gs before hval hW _ _ hwt hL _ _
  exact row_of_PC tOk laidOut (d := 8) (tb := 4) (by kernel_rfl) (by kernel_rfl) (by kernel_rfl) (by kernel_rfl) (eok_of hL (by kernel_rfl)) lawPC_IntervalBoolean rfl (fun ds h => by
    match ds, h with
    | [_, _, _], _ => rfl) hval hW rfl hwt
theorem said_IntervalBoolean : Rows.IntervalBooleanSaid :=
  OpenClaim.holds_of_cond 5 Tryd.f5 rfl rfl rfl rfl rfl rfl rfl ⟨rfl, rfl, rfl, rfl, rfl⟩ rfl rfl rfl rfl rfl (by kernel_rfl) Tryd.func5 (by kernel_rfl)
    (of_decide_eq_true (by kernel_rfl)) (by unfold Func.isWrapper; first | (rw [if_pos (by decide +kernel)]; kernel_rfl) | (rw [if_neg (by decide +kernel)]; exact ⟨rfl, rfl⟩))
    (fun os started H enc _ F => by rw [OpenClaim.pre_eq_preRow]; exact lifted_IntervalBoolean os started H enc F)
theorem plain_IntervalBoolean (f : FuncId) (fn : Func) (hf : Tryd.pinned.checked.prog.funcNamed "tidegate/tidegatelaw02.IntervalBoolean" = some f) (hfn : Tryd.pinned.checked.prog.funcs[f]? = some fn) :
    false = Tryd.pinned.checked.prog.looks [] ∧ ∀ (j : Nat) t, fn.params[j]? = some t → Tryd.pinned.checked.prog.wantsStandIn t = false := by
  obtain rfl : f = 5 := Option.some.inj ((show Tryd.prog.funcNamed "tidegate/tidegatelaw02.IntervalBoolean" = some 5 by kernel_rfl).symm.trans hf) |>.symm
  obtain rfl : fn = Tryd.f5 := (Option.some.inj (Tryd.func5.symm.trans hfn)).symm
  refine ⟨by kernel_rfl, fun j t ht => ?_⟩
  have hall : (Tryd.f5.params.toList.all fun t => Tryd.prog.wantsStandIn t == false) = true := by kernel_rfl
  have hm : t ∈ Tryd.f5.params.toList := by simpa using Array.mem_of_getElem? ht
  exact beq_iff_eq.1 (List.all_eq_true.1 hall t hm)
end Go.Abs
namespace Go.Proofs.YtcjmlnjoaekbjaaDoor
open Go Go.Abs
theorem intervalBoolean_card : Rows.IntervalBooleanCardSaid :=
  Claim7.holds_tied_plain_at .later [] _ _ _ _ said_IntervalBoolean (fun _ h => by cases h) (by kernel_rfl) (fun _ h => by cases h) intervalBoolean_row_tie rfl ⟨rfl, rfl⟩ (by kernel_rfl) rfl plain_IntervalBoolean (by kernel_rfl)
end Go.Proofs.YtcjmlnjoaekbjaaDoor
