/- Part EventOrders of the proof: an abstract machine over the model, and what the functions of the program hand back in its terms. No condition. -/
import Derived.Test.YteecjacfkildhaaGreatDoorKe
import Derived.Test.YteecjacfkildhaaGreatDoorKf
set_option linter.all false
set_option maxRecDepth 100000
namespace Go.Abs
open Go Go.Proofs
set_option linter.unusedSimpArgs false
theorem evCmp_lex (a b : Ev) : evCmp a b = lexC cmpI (lexC cmpI cmpI) (a.time, a.source, a.seq) (b.time, b.source, b.seq) := by
  unfold evCmp lexC
  simp only [bne_iff_ne]
theorem to_ev3 : TO (lexC cmpI (lexC cmpI cmpI)) := to_cmpI.lex (to_cmpI.lex to_cmpI)
attribute [local irreducible] evCmp ckEv evParseR evFmtR ckSchs fewS fewV
set_option maxHeartbeats 4000000 in
theorem law_Orders (a b c : Ev) : PC Tryz.prog 9 [encE a, encE b, encE c] (fun r => r = .bool true) := by
  refine PC_body tOk Tryz.func9 rfl Tryz.results9 rfl (by simp [Tryz.ntmps9]) ?_
  rw [Tryz.ntmps9]
  simp only [argSlots]
  have hneg : evCmp b a = - evCmp a b := by rw [evCmp_lex, evCmp_lex, to_ev3.neg]
  have hr : -1 ≤ evCmp a b ∧ evCmp a b ≤ 1 := by rw [evCmp_lex]; exact to_ev3.rng _ _
  have hself : evCmp a a = 0 := by rw [evCmp_lex]; exact (to_ev3.zero _ _).2 rfl
  have hz : evCmp a b = 0 ↔ a.time = b.time ∧ a.source = b.source ∧ a.seq = b.seq := by rw [evCmp_lex, to_ev3.zero]; simp
  have ht1 : evCmp a b ≤ 0 → evCmp b c ≤ 0 → evCmp a c ≤ 0 := by rw [evCmp_lex, evCmp_lex, evCmp_lex]; exact to_ev3.trans _ _ _
  have ht2 : evCmp a b ≤ 0 → evCmp b c < 0 → evCmp a c < 0 := fun h1 h2 => by
    have h3 := ht1 h1 (by omega)
    have h4 : evCmp a c ≠ 0 := fun h0 => by
      have hca : evCmp c a = 0 := by rw [evCmp_lex, to_ev3.neg, ← evCmp_lex, h0]; rfl
      have hcb : evCmp c b ≤ 0 := by
        rw [evCmp_lex] at hca h1 ⊢
        exact to_ev3.trans _ _ _ (by omega) h1
      have : evCmp c b = - evCmp b c := by rw [evCmp_lex, evCmp_lex, to_ev3.neg]
      omega
    omega
  have hk1 : a.time < b.time → evCmp a b = -1 := fun h => by
    rw [evCmp]
    have : cmpI a.time b.time = -1 := by simp [cmpI, h]
    rw [this]; rfl
  have hk2 : a.time = b.time → a.source < b.source → evCmp a b = -1 := fun h h' => by
    rw [evCmp, h]
    have h1 : cmpI b.time b.time = 0 := cmpI_self _
    have : cmpI a.source b.source = -1 := by simp [cmpI, h']
    rw [h1, this]; rfl
  have pab := pc_eCompare a b
  have pbc := pc_eCompare b c
  have pac := pc_eCompare a c
  have pba := pc_eCompare b a
  have paa := pc_eCompare a a
  have psab := pc_eSame a b
  have pra := pc_eRef a
  have prb := pc_eRef b
  rw [hneg] at pba
  rw [hself] at paa
  clear hneg hself
  generalize evCmp a b = x at *
  generalize evCmp b c = y at *
  generalize evCmp a c = z at *
  obtain ⟨a1, a2, a3, a4, a5⟩ := a
  obtain ⟨b1, b2, b3, b4, b5⟩ := b
  simp only at hz hk1 hk2
  have hw : IntKind.i64.wrap x = x := wrap_i64 _ (by omega) (by omega)
  have hw2 : IntKind.i64.wrap (-x) = -x := wrap_i64 _ (by omega) (by omega)
  have hr1 : ¬ x < -1 := by omega
  have hr2 : ¬ 1 < x := by omega
  repeat (first
    | (refine AWP_seq (AWP_regS tOk rfl ?_); simp)
    | (refine AWP_regS tOk rfl ?_; simp)
    | (refine AWP_skip ?_; simp)
    | (refine AWP_exit ?_; simp)
    | (refine AWP_ret ?_; simp)
    | refine AWP_block ?_
    | refine AWP_seq ?_)
  refine AWP_drawT tOk mixed [] (.val 0 (.val 1 (.val 3 (.val 4 (.val 6 (.val 7 (.one 2 (.one 5 (.one 8 (.val 9 (.val 10 (.val 11 (.done))))))))))))) rfl (by kernel_rfl) ?_
  simp
  refine AStep_PC rfl rfl (by simp) (pab) rfl ?_
  rintro _ rfl
  simp
  refine AStep_PC rfl rfl (by simp) (pbc) rfl ?_
  rintro _ rfl
  simp
  refine AStep_PC rfl rfl (by simp) (pac) rfl ?_
  rintro _ rfl
  simp
  repeat (first
    | (refine AWP_seq (AWP_regS tOk rfl ?_); simp [hr1, hr2])
    | (refine AWP_regS tOk rfl ?_; simp [hr1, hr2])
    | (refine AWP_skip ?_; simp [hr1, hr2])
    | (refine AWP_exit ?_; simp [hr1, hr2])
    | (refine AWP_ret ?_; simp [hr1, hr2])
    | refine AWP_block ?_
    | refine AWP_seq ?_)
  refine AStep_PC rfl rfl (by simp) (pba) rfl ?_
  rintro _ rfl
  simp [hr1, hr2, hw, hw2]
  refine AStep_PC rfl rfl (by simp) (paa) rfl ?_
  rintro _ rfl
  simp [hr1, hr2, hw, hw2]
  refine AWP_cond rfl ?_
  repeat (first
    | (refine AWP_seq (AWP_regS tOk rfl ?_); simp)
    | (refine AWP_regS tOk rfl ?_; simp)
    | (refine AWP_skip ?_; simp)
    | (refine AWP_exit ?_; simp)
    | (refine AWP_ret ?_; simp)
    | refine AWP_block ?_
    | refine AWP_seq ?_)
  refine AWP_drawT tOk mixed [] (.val 0 (.val 1 (.val 2 (.val 4 (.one 3 (.one 5 (.val 6 (.val 7 (.val 8 (.val 9 (.val 10 (.val 11 (.val 12 (.val 13 (.one 14 (.val 15 (.val 16 (.val 17 (.val 18 (.val 19 (.val 20 (.val 22 (.val 23 (.val 24 (.val 25 (.val 26 (.one 21 (.val 27 (.val 28 (.val 29 (.val 30 (.val 31 (.val 32 (.val 33 (.val 34 (.val 35 (.done))))))))))))))))))))))))))))))))))))) rfl (by kernel_rfl) ?_
  simp
  refine AStep_PC rfl rfl (by simp) (pra) rfl ?_
  rintro _ rfl
  simp
  have hzb : (a4 == b4 && (a1 == b1 && a2 == b2)) = (x == 0) := by
    rw [Bool.eq_iff_iff]
    simp only [Bool.and_eq_true, beq_iff_eq, hz]
  cases hx : (x == 0) with
  | true =>
    have hx0 : x = 0 := by simpa using hx
    obtain ⟨e1, e2, e3⟩ := hz.1 hx0
    subst e1 e2 e3 hx0
    refine AStep_PC rfl rfl (by simp) (prb) rfl ?_
    rintro _ rfl
    simp [eqA_ref]
    refine AStep_PC rfl rfl (by simp) (psab) rfl ?_
    rintro _ rfl
    simp
    refine AStep_PC rfl rfl (by simp) (psab) rfl ?_
    rintro _ rfl
    simp
    refine AWP_cond rfl ?_
    repeat (first
      | (refine AWP_seq (AWP_regS tOk rfl ?_); simp)
      | (refine AWP_regS tOk rfl ?_; simp)
      | (refine AWP_skip ?_; simp)
      | (refine AWP_exit ?_; simp)
      | (refine AWP_ret ?_; simp)
      | refine AWP_block ?_
      | refine AWP_seq ?_)
    refine AWP_cond2 rfl (fun h => ?_) (fun _ => ?_)
    · exfalso
      simp at h
      try omega
    repeat (first
      | (refine AWP_seq (AWP_regS tOk rfl ?_); simp)
      | (refine AWP_regS tOk rfl ?_; simp)
      | (refine AWP_skip ?_; simp)
      | (refine AWP_exit ?_; simp)
      | (refine AWP_ret ?_; simp)
      | refine AWP_block ?_
      | refine AWP_seq ?_)
    refine AWP_cond2 rfl (fun h => ?_) (fun _ => ?_)
    · exfalso
      simp at h
      try omega
    repeat (first
      | (refine AWP_seq (AWP_regS tOk rfl ?_); simp)
      | (refine AWP_regS tOk rfl ?_; simp)
      | (refine AWP_skip ?_; simp)
      | (refine AWP_exit ?_; simp)
      | (refine AWP_ret ?_; simp)
      | refine AWP_block ?_
      | refine AWP_seq ?_)
    refine AStep_PC rfl rfl (by simp) (pra) rfl ?_
    rintro _ rfl
    simp
    repeat (first
      | (refine AWP_seq (AWP_regS tOk rfl ?_); simp)
      | (refine AWP_regS tOk rfl ?_; simp)
      | (refine AWP_skip ?_; simp)
      | (refine AWP_exit ?_; simp)
      | (refine AWP_ret ?_; simp)
      | refine AWP_block ?_
      | refine AWP_seq ?_)
    refine AStep_PC rfl rfl (by simp) (pc_awake) rfl ?_
    rintro _ rfl
    simp
    repeat (first
      | (refine AWP_seq (AWP_regS tOk rfl ?_); simp)
      | (refine AWP_regS tOk rfl ?_; simp)
      | (refine AWP_skip ?_; simp)
      | (refine AWP_exit ?_; simp)
      | (refine AWP_ret ?_; simp)
      | refine AWP_block ?_
      | refine AWP_seq ?_)
  | false =>
    refine AStep_PC rfl rfl (by simp) (prb) rfl ?_
    rintro _ rfl
    simp [eqA_ref, hzb, hx]
    refine AStep_skip rfl rfl ?_
    simp [hx]
    refine AStep_PC rfl rfl (by simp) (psab) rfl ?_
    rintro _ rfl
    simp
    refine AWP_cond2 rfl (fun h => ?_) (fun _ => ?_)
    · exfalso
      cases h1 : (a1 == b1) <;> cases h2 : (a2 == b2) <;> simp [h1, h2] at h
    repeat (first
      | (refine AWP_seq (AWP_regS tOk rfl ?_); simp)
      | (refine AWP_regS tOk rfl ?_; simp)
      | (refine AWP_skip ?_; simp)
      | (refine AWP_exit ?_; simp)
      | (refine AWP_ret ?_; simp)
      | refine AWP_block ?_
      | refine AWP_seq ?_)
    refine AWP_cond2 rfl (fun h => ?_) (fun _ => ?_)
    · exfalso
      simp at h
      try omega
    repeat (first
      | (refine AWP_seq (AWP_regS tOk rfl ?_); simp)
      | (refine AWP_regS tOk rfl ?_; simp)
      | (refine AWP_skip ?_; simp)
      | (refine AWP_exit ?_; simp)
      | (refine AWP_ret ?_; simp)
      | refine AWP_block ?_
      | refine AWP_seq ?_)
    refine AWP_cond2 rfl (fun h => ?_) (fun _ => ?_)
    · exfalso
      simp at h
      try omega
    repeat (first
      | (refine AWP_seq (AWP_regS tOk rfl ?_); simp)
      | (refine AWP_regS tOk rfl ?_; simp)
      | (refine AWP_skip ?_; simp)
      | (refine AWP_exit ?_; simp)
      | (refine AWP_ret ?_; simp)
      | refine AWP_block ?_
      | refine AWP_seq ?_)
    refine AStep_PC rfl rfl (by simp) (pra) rfl ?_
    rintro _ rfl
    simp
    repeat (first
      | (refine AWP_seq (AWP_regS tOk rfl ?_); simp)
      | (refine AWP_regS tOk rfl ?_; simp)
      | (refine AWP_skip ?_; simp)
      | (refine AWP_exit ?_; simp)
      | (refine AWP_ret ?_; simp)
      | refine AWP_block ?_
      | refine AWP_seq ?_)
    refine AStep_PC rfl rfl (by simp) (pc_awake) rfl ?_
    rintro _ rfl
    simp
    repeat (first
      | (refine AWP_seq (AWP_regS tOk rfl ?_); simp)
      | (refine AWP_regS tOk rfl ?_; simp)
      | (refine AWP_skip ?_; simp)
      | (refine AWP_exit ?_; simp)
      | (refine AWP_ret ?_; simp)
      | refine AWP_block ?_
      | refine AWP_seq ?_)
end Go.Abs
/- Compare is a total order that compares Refs: EventOrders returns true for every input. Conditions: those of the given row (the laid tables), tied by the given card. -/
set_option maxRecDepth 100000
namespace Go.Abs
open Go Go.Proofs Go.Proofs.YteecjacfkildhaaGreatDoor Go.RowKit
noncomputable def args_EventOrders : Array Value := #[.agg #[.int .i64 0, .int .i64 0, .int .i64 0, .int .i64 0, .slice none 0 0], .agg #[.int .i64 0, .int .i64 0, .int .i64 0, .int .i64 0, .slice none 0 0], .agg #[.int .i64 0, .int .i64 0, .int .i64 0, .int .i64 0, .slice none 0 0]]
theorem laid_EventOrders (os : Os) : laidMetH Tryz.prog Rows.eventOrdersRow.laid ((World.laidAll Tryz.prog os Rows.eventOrdersRow.laid).forCall (fun _ _ => 0) ⟨#[], args_EventOrders, []⟩).memory :=
  laidMet_laidAll _ (by kernel_rfl) (by kernel_rfl)
theorem reads_EventOrders (os : Os) {H : Type} (enc : TypeId × Value → H) : ∃ ds places, DataW.whole enc Tryz.prog ((World.laidAll Tryz.prog os Rows.eventOrdersRow.laid).forCall (fun _ _ => 0) ⟨#[], args_EventOrders, []⟩).memory Tryz.f9.params.toList Rows.eventOrdersSpec.vars false args_EventOrders.toList 8 = some (ds, [], places) :=
  ⟨[.agg [.lit (.int .i64 0), .lit (.int .i64 0), .lit (.int .i64 0), .lit (.int .i64 0), .nil], .agg [.lit (.int .i64 0), .lit (.int .i64 0), .lit (.int .i64 0), .lit (.int .i64 0), .nil], .agg [.lit (.int .i64 0), .lit (.int .i64 0), .lit (.int .i64 0), .lit (.int .i64 0), .nil]], [], by kernel_rfl⟩
theorem lawPC_EventOrders (xs : List AV) (h : ArgsShp T 8 Tryz.f9.params.toList xs) : PC Tryz.prog 9 xs (fun r => r = .bool true) := by
  rw [Tryz.params9] at h
  obtain ⟨a, _, rfl, ha, h_1⟩ := argE h
  obtain ⟨b, _, rfl, hb, h_2⟩ := argE h_1
  obtain ⟨c, _, rfl, hc, h_3⟩ := argE h_2
  obtain rfl := argsNil h_3
  exact law_Orders a b c
theorem lifted_EventOrders (os : Os) (started : os.Started) (H : Type) (enc : TypeId × Value → H) (F : Stop.Interp) :
    ReturnsInHanded {} Tryz.checked os 9 .any ((OpenSpec.ofChange Rows.eventOrdersSpec).preRow enc Tryz.prog Tryz.f9 Rows.eventOrdersRow.domain false Rows.eventOrdersRow.laid) (((OpenSpec.ofChange Rows.eventOrdersSpec).at F).post enc Tryz.prog Tryz.f9 false true false false) := by
  obtain ⟨ds, places, hx⟩ := reads_EventOrders os enc
  refine returnsInHanded_of_row (C := Tryz.checked) (s := OpenSpec.ofChange Rows.eventOrdersSpec) own started (by kernel_rfl) Tryz.func9
    (witness_row_atRef (enc := enc) (C := Tryz.checked) false (World.laidAll Tryz.prog os Rows.eventOrdersRow.laid) args_EventOrders (World.laidAll_os _ _ _) (by kernel_rfl) (by kernel_rfl) (by kernel_rfl)
      (OpenSpec.preRow_of_cond 8 hx (by kernel_rfl) (fun k hk => by cases hk) (by kernel_rfl) (laid_EventOrders os))) ?_
  intro W base args ds gs before hval hW _ _ hwt hL hS _
  exact row_of_PC tOk laidOut (d := 8) (tb := 4) (by kernel_rfl) (by kernel_rfl) (by kernel_rfl) (by kernel_rfl) (eok_of hL hS (by kernel_rfl)) lawPC_EventOrders rfl (fun ds h => by
    match ds, h with
    | [_, _, _], _ => rfl) hval hW rfl hwt
theorem said_EventOrders : Rows.EventOrdersSaid :=
  OpenClaim.holds_of_cond 9 Tryz.f9 rfl rfl rfl rfl rfl rfl rfl ⟨rfl, rfl, rfl, rfl, rfl⟩ rfl rfl rfl rfl rfl (by kernel_rfl) Tryz.func9 (by kernel_rfl)
    (of_decide_eq_true (by kernel_rfl)) (by unfold Func.isWrapper; first | (rw [if_pos (by decide +kernel)]; kernel_rfl) | (rw [if_neg (by decide +kernel)]; exact ⟨rfl, rfl⟩))
    (fun os started H enc _ F => by rw [OpenClaim.pre_eq_preRow]; exact lifted_EventOrders os started H enc F)
theorem plain_EventOrders (f : FuncId) (fn : Func) (hf : Tryz.pinned.checked.prog.funcNamed "tidegate/tidegatelaw04.EventOrders" = some f) (hfn : Tryz.pinned.checked.prog.funcs[f]? = some fn) :
    true = Tryz.pinned.checked.prog.looks [] ∧ ∀ (j : Nat) t, fn.params[j]? = some t → Tryz.pinned.checked.prog.wantsStandIn t = false := by
  obtain rfl : f = 9 := Option.some.inj ((show Tryz.prog.funcNamed "tidegate/tidegatelaw04.EventOrders" = some 9 by kernel_rfl).symm.trans hf) |>.symm
  obtain rfl : fn = Tryz.f9 := (Option.some.inj (Tryz.func9.symm.trans hfn)).symm
  refine ⟨by kernel_rfl, fun j t ht => ?_⟩
  have hall : (Tryz.f9.params.toList.all fun t => Tryz.prog.wantsStandIn t == false) = true := by kernel_rfl
  have hm : t ∈ Tryz.f9.params.toList := by simpa using Array.mem_of_getElem? ht
  exact beq_iff_eq.1 (List.all_eq_true.1 hall t hm)
end Go.Abs
namespace Go.Proofs.YteecjacfkildhaaGreatDoor
open Go Go.Abs
theorem eventOrders_card : Rows.EventOrdersCardSaid :=
  Claim7.holds_tied_plain_at .later [] _ _ _ _ said_EventOrders (fun _ h => by cases h) (by kernel_rfl) (fun _ h => by cases h) eventOrders_row_tie rfl ⟨rfl, rfl⟩ (by kernel_rfl) rfl plain_EventOrders (by kernel_rfl)
end Go.Proofs.YteecjacfkildhaaGreatDoor
