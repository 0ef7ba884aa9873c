/- Part EventReturns of the proof: an abstract machine over the model, and what the functions of the program hand back in its terms. No condition. -/
import Derived.Test.YteecjacfkildhaaGreatDoorKe
import Derived.Test.YteecjacfkildhaaGreatDoorKf
set_option linter.all false
set_option maxRecDepth 100000
namespace Go.Abs
open Go Go.Proofs
set_option linter.unusedSimpArgs false
theorem fmt_bad {l : List Sch} {e : Ev} (h : ckEv l e ≠ 0) : evFmtR l e = ([], ckEv l e) := by rw [evFmtR, if_pos h]
theorem fmt_ok {l : List Sch} {e : Ev} (h : ckEv l e = 0) : evFmtR l e = (Lib.join (partsR l e) [32], 0) := by rw [evFmtR, if_neg (fun h' => h' h)]
attribute [local irreducible] evCmp ckEv evParseR evFmtR ckSchs fewS fewV Lib.join
set_option maxHeartbeats 4000000 in
theorem law_Returns (l : List Sch) (e : Ev) (hl : schOk l) (he : evOk e) : PC Tryz.prog 10 [.list (l.map encSch), encE e] (fun r => r = .bool true) := by
  refine PC_body tOk Tryz.func10 rfl Tryz.results10 rfl (by simp [Tryz.ntmps10]) ?_
  rw [Tryz.ntmps10]
  simp only [argSlots]
  repeat (first
    | (refine AWP_seq (AWP_regS tOk rfl ?_); simp)
    | (refine AWP_regS tOk rfl ?_; simp)
    | (refine AWP_skip ?_; simp)
    | (refine AWP_exit ?_; simp)
    | (refine AWP_ret ?_; simp)
    | refine AWP_block ?_
    | refine AWP_seq ?_)
  refine AStep_PC rfl rfl (by simp) (pc_r3Few l hl.1 hl.2) rfl ?_
  rintro _ rfl
  simp
  cases hf1 : fewS l with
  | false =>
    repeat (first
      | (refine AWP_seq (AWP_regS tOk rfl ?_); simp)
      | (refine AWP_regS tOk rfl ?_; simp)
      | (refine AWP_skip ?_; simp)
      | (refine AWP_exit ?_; simp)
      | (refine AWP_ret ?_; simp)
      | refine AWP_block ?_
      | refine AWP_seq ?_)
    refine AStep_skip rfl rfl ?_
    simp
    repeat (first
      | (refine AWP_seq (AWP_regS tOk rfl ?_); simp)
      | (refine AWP_regS tOk rfl ?_; simp)
      | (refine AWP_skip ?_; simp)
      | (refine AWP_exit ?_; simp)
      | (refine AWP_ret ?_; simp)
      | refine AWP_block ?_
      | refine AWP_seq ?_)
    refine AWP_cond rfl ?_
    repeat (first
      | (refine AWP_seq (AWP_regS tOk rfl ?_); simp)
      | (refine AWP_regS tOk rfl ?_; simp)
      | (refine AWP_skip ?_; simp)
      | (refine AWP_exit ?_; simp)
      | (refine AWP_ret ?_; simp)
      | refine AWP_block ?_
      | refine AWP_seq ?_)
    refine AStep_PC rfl rfl (by simp) (pc_awake) rfl ?_
    rintro _ rfl
    simp
    repeat (first
      | (refine AWP_seq (AWP_regS tOk rfl ?_); simp)
      | (refine AWP_regS tOk rfl ?_; simp)
      | (refine AWP_skip ?_; simp)
      | (refine AWP_exit ?_; simp)
      | (refine AWP_ret ?_; simp)
      | refine AWP_block ?_
      | refine AWP_seq ?_)
  | true =>
  repeat (first
    | (refine AWP_seq (AWP_regS tOk rfl ?_); simp)
    | (refine AWP_regS tOk rfl ?_; simp)
    | (refine AWP_skip ?_; simp)
    | (refine AWP_exit ?_; simp)
    | (refine AWP_ret ?_; simp)
    | refine AWP_block ?_
    | refine AWP_seq ?_)
  refine AStep_PC rfl rfl (by simp) (pc_r4Few e he) rfl ?_
  rintro _ rfl
  simp
  cases hf2 : fewV e.values with
  | false =>
    repeat (first
      | (refine AWP_seq (AWP_regS tOk rfl ?_); simp)
      | (refine AWP_regS tOk rfl ?_; simp)
      | (refine AWP_skip ?_; simp)
      | (refine AWP_exit ?_; simp)
      | (refine AWP_ret ?_; simp)
      | refine AWP_block ?_
      | refine AWP_seq ?_)
    refine AWP_cond rfl ?_
    repeat (first
      | (refine AWP_seq (AWP_regS tOk rfl ?_); simp)
      | (refine AWP_regS tOk rfl ?_; simp)
      | (refine AWP_skip ?_; simp)
      | (refine AWP_exit ?_; simp)
      | (refine AWP_ret ?_; simp)
      | refine AWP_block ?_
      | refine AWP_seq ?_)
    refine AStep_PC rfl rfl (by simp) (pc_awake) rfl ?_
    rintro _ rfl
    simp
    repeat (first
      | (refine AWP_seq (AWP_regS tOk rfl ?_); simp)
      | (refine AWP_regS tOk rfl ?_; simp)
      | (refine AWP_skip ?_; simp)
      | (refine AWP_exit ?_; simp)
      | (refine AWP_ret ?_; simp)
      | refine AWP_block ?_
      | refine AWP_seq ?_)
  | true =>
  repeat (first
    | (refine AWP_seq (AWP_regS tOk rfl ?_); simp)
    | (refine AWP_regS tOk rfl ?_; simp)
    | (refine AWP_skip ?_; simp)
    | (refine AWP_exit ?_; simp)
    | (refine AWP_ret ?_; simp)
    | refine AWP_block ?_
    | refine AWP_seq ?_)
  refine AWP_cond rfl ?_
  repeat (first
    | (refine AWP_seq (AWP_regS tOk rfl ?_); simp)
    | (refine AWP_regS tOk rfl ?_; simp)
    | (refine AWP_skip ?_; simp)
    | (refine AWP_exit ?_; simp)
    | (refine AWP_ret ?_; simp)
    | refine AWP_block ?_
    | refine AWP_seq ?_)
  have pf := pc_eFormat' l e
  by_cases hc : ckEv l e = 0
  · rw [fmt_ok hc] at pf
    obtain ⟨A, B, C, h1, h2, h3, h4, h5⟩ := spaced hc
    have pp := pc_eParse l (Lib.join (partsR l e) [32])
    rw [parse_format_ev hc] at pp
    have pr := pc_Replace2 A B C h2 h3 (by omega) (by simp [Lib.countByte]; omega)
    have pq := pc_eParse l ([32, 32] ++ (A ++ [32, 32, 32] ++ B ++ [32, 32, 32] ++ C) ++ [32, 32])
    rw [h5] at pq
    rw [← h1] at pr
    generalize Lib.join (partsR l e) [32] = s at *
    have hv := fewV_len hf2
    have hln : (A ++ [32, 32, 32] ++ B ++ [32, 32, 32] ++ C).length ≤ 40000 := by simp; omega
    generalize A ++ [32, 32, 32] ++ B ++ [32, 32, 32] ++ C = u at *
    have hb1 : 2 + u.length ≤ 9223372036854775807 := by omega
    have hb2 : u.length + 2 + 2 ≤ 9223372036854775807 := by omega
    refine AStep_PC rfl rfl (by simp) (pf) rfl ?_
    rintro _ rfl
    simp
    repeat (first
      | (refine AWP_seq (AWP_regS tOk rfl ?_); simp)
      | (refine AWP_regS tOk rfl ?_; simp)
      | (refine AWP_skip ?_; simp)
      | (refine AWP_exit ?_; simp)
      | (refine AWP_ret ?_; simp)
      | refine AWP_block ?_
      | refine AWP_seq ?_)
    refine AWP_cond rfl ?_
    repeat (first
      | (refine AWP_seq (AWP_regS tOk rfl ?_); simp)
      | (refine AWP_regS tOk rfl ?_; simp)
      | (refine AWP_skip ?_; simp)
      | (refine AWP_exit ?_; simp)
      | (refine AWP_ret ?_; simp)
      | refine AWP_block ?_
      | refine AWP_seq ?_)
    refine AStep_PC rfl rfl (by simp) (pp) rfl ?_
    rintro _ rfl
    simp
    repeat (first
      | (refine AWP_seq (AWP_regS tOk rfl ?_); simp)
      | (refine AWP_regS tOk rfl ?_; simp)
      | (refine AWP_skip ?_; simp)
      | (refine AWP_exit ?_; simp)
      | (refine AWP_ret ?_; simp)
      | refine AWP_block ?_
      | refine AWP_seq ?_)
    have ps := pc_r4SameEvent e e hv hv
    refine AStep_PC rfl rfl (by simp) (pr) rfl ?_
    rintro _ rfl
    simp [hb1, hb2]
    refine AStep_PC rfl rfl (by simp) (pq) rfl ?_
    rintro _ rfl
    simp
    repeat (first
      | (refine AWP_seq (AWP_regS tOk rfl ?_); simp)
      | (refine AWP_regS tOk rfl ?_; simp)
      | (refine AWP_skip ?_; simp)
      | (refine AWP_exit ?_; simp)
      | (refine AWP_ret ?_; simp)
      | refine AWP_block ?_
      | refine AWP_seq ?_)
    refine AStep_PC rfl rfl (by simp) (pc_awake) rfl ?_
    rintro _ rfl
    simp
    repeat (first
      | (refine AWP_seq (AWP_regS tOk rfl ?_); simp)
      | (refine AWP_regS tOk rfl ?_; simp)
      | (refine AWP_skip ?_; simp)
      | (refine AWP_exit ?_; simp)
      | (refine AWP_ret ?_; simp)
      | refine AWP_block ?_
      | refine AWP_seq ?_)
    refine AStep_PC rfl rfl (by simp) (ps) rfl ?_
    rintro _ rfl
    simp
    repeat (first
      | (refine AWP_seq (AWP_regS tOk rfl ?_); simp)
      | (refine AWP_regS tOk rfl ?_; simp)
      | (refine AWP_skip ?_; simp)
      | (refine AWP_exit ?_; simp)
      | (refine AWP_ret ?_; simp)
      | refine AWP_block ?_
      | refine AWP_seq ?_)
    refine AStep_PC rfl rfl (by simp) (ps) rfl ?_
    rintro _ rfl
    simp
    repeat (first
      | (refine AWP_seq (AWP_regS tOk rfl ?_); simp)
      | (refine AWP_regS tOk rfl ?_; simp)
      | (refine AWP_skip ?_; simp)
      | (refine AWP_exit ?_; simp)
      | (refine AWP_ret ?_; simp)
      | refine AWP_block ?_
      | refine AWP_seq ?_)
    rfl
  · rw [fmt_bad hc] at pf
    refine AStep_PC rfl rfl (by simp) (pf) rfl ?_
    rintro _ rfl
    simp
    repeat (first
      | (refine AWP_seq (AWP_regS tOk rfl ?_); simp)
      | (refine AWP_regS tOk rfl ?_; simp)
      | (refine AWP_skip ?_; simp)
      | (refine AWP_exit ?_; simp)
      | (refine AWP_ret ?_; simp)
      | refine AWP_block ?_
      | refine AWP_seq ?_)
    refine AWP_cond2 rfl (fun _ => ?_) (fun h => absurd (by simpa using h) hc)
    repeat (first
      | (refine AWP_seq (AWP_regS tOk rfl ?_); simp)
      | (refine AWP_regS tOk rfl ?_; simp)
      | (refine AWP_skip ?_; simp)
      | (refine AWP_exit ?_; simp)
      | (refine AWP_ret ?_; simp)
      | refine AWP_block ?_
      | refine AWP_seq ?_)
    refine AStep_PC rfl rfl (by simp) (pc_eCheck l e) rfl ?_
    rintro _ rfl
    simp
    repeat (first
      | (refine AWP_seq (AWP_regS tOk rfl ?_); simp)
      | (refine AWP_regS tOk rfl ?_; simp)
      | (refine AWP_skip ?_; simp)
      | (refine AWP_exit ?_; simp)
      | (refine AWP_ret ?_; simp)
      | refine AWP_block ?_
      | refine AWP_seq ?_)
    refine AStep_PC rfl rfl (by simp) (pc_awake) rfl ?_
    rintro _ rfl
    simp
    repeat (first
      | (refine AWP_seq (AWP_regS tOk rfl ?_); simp)
      | (refine AWP_regS tOk rfl ?_; simp)
      | (refine AWP_skip ?_; simp)
      | (refine AWP_exit ?_; simp)
      | (refine AWP_ret ?_; simp)
      | refine AWP_block ?_
      | refine AWP_seq ?_)
end Go.Abs
/- Parsing the text of an event returns it, also with further spaces: EventReturns returns true for every input. Conditions: those of the given row (the laid tables), tied by the given card. -/
set_option maxRecDepth 100000
namespace Go.Abs
open Go Go.Proofs Go.Proofs.YteecjacfkildhaaGreatDoor Go.RowKit
noncomputable def args_EventReturns : Array Value := #[.slice none 0 0, .agg #[.int .i64 0, .int .i64 0, .int .i64 0, .int .i64 0, .slice none 0 0]]
theorem laid_EventReturns (os : Os) : laidMetH Tryz.prog Rows.eventReturnsRow.laid ((World.laidAll Tryz.prog os Rows.eventReturnsRow.laid).forCall (fun _ _ => 0) ⟨#[], args_EventReturns, []⟩).memory :=
  laidMet_laidAll _ (by kernel_rfl) (by kernel_rfl)
theorem reads_EventReturns (os : Os) {H : Type} (enc : TypeId × Value → H) : ∃ ds places, DataW.whole enc Tryz.prog ((World.laidAll Tryz.prog os Rows.eventReturnsRow.laid).forCall (fun _ _ => 0) ⟨#[], args_EventReturns, []⟩).memory Tryz.f10.params.toList Rows.eventReturnsSpec.vars false args_EventReturns.toList 8 = some (ds, [], places) :=
  ⟨[.nil, .agg [.lit (.int .i64 0), .lit (.int .i64 0), .lit (.int .i64 0), .lit (.int .i64 0), .nil]], [], by kernel_rfl⟩
theorem lawPC_EventReturns (xs : List AV) (h : ArgsShp T 8 Tryz.f10.params.toList xs) : PC Tryz.prog 10 xs (fun r => r = .bool true) := by
  rw [Tryz.params10] at h
  obtain ⟨l, _, rfl, hl, h_1⟩ := argLSch h
  obtain ⟨e, _, rfl, he, h_2⟩ := argE h_1
  obtain rfl := argsNil h_2
  exact law_Returns l e hl he
theorem lifted_EventReturns (os : Os) (started : os.Started) (H : Type) (enc : TypeId × Value → H) (F : Stop.Interp) :
    ReturnsInHanded {} Tryz.checked os 10 .any ((OpenSpec.ofChange Rows.eventReturnsSpec).preRow enc Tryz.prog Tryz.f10 Rows.eventReturnsRow.domain false Rows.eventReturnsRow.laid) (((OpenSpec.ofChange Rows.eventReturnsSpec).at F).post enc Tryz.prog Tryz.f10 false true false false) := by
  obtain ⟨ds, places, hx⟩ := reads_EventReturns os enc
  refine returnsInHanded_of_row (C := Tryz.checked) (s := OpenSpec.ofChange Rows.eventReturnsSpec) own started (by kernel_rfl) Tryz.func10
    (witness_row_atRef (enc := enc) (C := Tryz.checked) false (World.laidAll Tryz.prog os Rows.eventReturnsRow.laid) args_EventReturns (World.laidAll_os _ _ _) (by kernel_rfl) (by kernel_rfl) (by kernel_rfl)
      (OpenSpec.preRow_of_cond 8 hx (by kernel_rfl) (fun k hk => by cases hk) (by kernel_rfl) (laid_EventReturns os))) ?_
  intro W base args ds gs before hval hW _ _ hwt hL hS _
  exact row_of_PC tOk laidOut (d := 8) (tb := 4) (by kernel_rfl) (by kernel_rfl) (by kernel_rfl) (by kernel_rfl) (eok_of hL hS (by kernel_rfl)) lawPC_EventReturns rfl (fun ds h => by
    match ds, h with
    | [_, _], _ => rfl) hval hW rfl hwt
theorem said_EventReturns : Rows.EventReturnsSaid :=
  OpenClaim.holds_of_cond 10 Tryz.f10 rfl rfl rfl rfl rfl rfl rfl ⟨rfl, rfl, rfl, rfl, rfl⟩ rfl rfl rfl rfl rfl (by kernel_rfl) Tryz.func10 (by kernel_rfl)
    (of_decide_eq_true (by kernel_rfl)) (by unfold Func.isWrapper; first | (rw [if_pos (by decide +kernel)]; kernel_rfl) | (rw [if_neg (by decide +kernel)]; exact ⟨rfl, rfl⟩))
    (fun os started H enc _ F => by rw [OpenClaim.pre_eq_preRow]; exact lifted_EventReturns os started H enc F)
theorem plain_EventReturns (f : FuncId) (fn : Func) (hf : Tryz.pinned.checked.prog.funcNamed "tidegate/tidegatelaw04.EventReturns" = some f) (hfn : Tryz.pinned.checked.prog.funcs[f]? = some fn) :
    true = Tryz.pinned.checked.prog.looks [] ∧ ∀ (j : Nat) t, fn.params[j]? = some t → Tryz.pinned.checked.prog.wantsStandIn t = false := by
  obtain rfl : f = 10 := Option.some.inj ((show Tryz.prog.funcNamed "tidegate/tidegatelaw04.EventReturns" = some 10 by kernel_rfl).symm.trans hf) |>.symm
  obtain rfl : fn = Tryz.f10 := (Option.some.inj (Tryz.func10.symm.trans hfn)).symm
  refine ⟨by kernel_rfl, fun j t ht => ?_⟩
  have hall : (Tryz.f10.params.toList.all fun t => Tryz.prog.wantsStandIn t == false) = true := by kernel_rfl
  have hm : t ∈ Tryz.f10.params.toList := by simpa using Array.mem_of_getElem? ht
  exact beq_iff_eq.1 (List.all_eq_true.1 hall t hm)
end Go.Abs
namespace Go.Proofs.YteecjacfkildhaaGreatDoor
open Go Go.Abs
theorem eventReturns_card : Rows.EventReturnsCardSaid :=
  Claim7.holds_tied_plain_at .later [] _ _ _ _ said_EventReturns (fun _ h => by cases h) (by kernel_rfl) (fun _ h => by cases h) eventReturns_row_tie rfl ⟨rfl, rfl⟩ (by kernel_rfl) rfl plain_EventReturns (by kernel_rfl)
end Go.Proofs.YteecjacfkildhaaGreatDoor
