/- Part IntervalCounts of the proof: an abstract machine over the model, and what the functions of the program hand back in its terms. No condition. -/
import Derived.Test.YtcjmlnjoaekbjaaDoorKf
import Derived.Test.YtcjmlnjoaekbjaaDoorKd
set_option linter.all false
set_option maxRecDepth 100000
namespace Go.Abs
open Go Go.Proofs
set_option linter.unusedSimpArgs false
theorem size_of {l : List Iv} (h : CanonL l) : PC Tryd.prog 21 [LIv l] (fun r => r = .tup [.i (sizeS l), .i 0]) :=
  (pc_Size l).mono fun r hr => by rw [hr, if_pos ((ck_iff l).2 h), (ck_iff l).2 h]
theorem at_pos {l : List Iv} (h : CanonL l) {i : Int} (h0 : ¬ i < 0) : atR l i = atFrom l i := by rw [atR, if_pos ((ck_iff l).2 h), if_neg h0]
theorem at_in {a : List Iv} (ha : CanonL a) (i : Int) (h0 : 0 ≤ i) (h1 : i < sizeS a) : ∃ x, atFrom a i = (x, 0) ∧ M a x := by
  obtain ⟨x, e1, e2, _⟩ := at_spec a i (canon_sep ha) h0 h1 _ _ (bounds_of ha)
  exact ⟨x, e1, e2⟩
theorem at_neg {l : List Iv} (h : CanonL l) {i : Int} (h0 : i < 0) : atR l i = (0, 2) := by rw [atR, if_pos ((ck_iff l).2 h), if_pos h0]
attribute [local irreducible] complR combR ckR goodR conR hasR sweepR gapsR inB sizeS atR cnt atFrom
set_option maxHeartbeats 4000000 in
theorem law_Counts (a b : List Iv) (i : Int) (hi0 : -9223372036854775808 ≤ i) (hi1 : i ≤ 9223372036854775807) : PC Tryd.prog 6 [LIv a, LIv b, .i i] (fun r => r = .bool true) := by
  refine PC_body tOk Tryd.func6 rfl Tryd.results6 rfl (by simp [Tryd.ntmps6]) ?_
  rw [Tryd.ntmps6]
  simp only [argSlots]
  have r2 : List.range 2 = [0, 1] := rfl
  repeat (first
    | (refine AWP_seq (AWP_regS tOk rfl ?_); simp [r2])
    | (refine AWP_regS tOk rfl ?_; simp [r2])
    | (refine AWP_skip ?_; simp [r2])
    | (refine AWP_exit ?_; simp [r2])
    | (refine AWP_ret ?_; simp [r2])
    | refine AWP_block ?_
    | refine AWP_seq ?_)
  refine AStep_freeze 0 rfl ?_
  simp
  refine AStep_PC rfl rfl (by simp) (pc_good [a, b]) rfl ?_
  rintro _ rfl
  simp
  cases hf : goodR [a, b] with
  | false =>
    repeat (first
      | (refine AWP_seq (AWP_regS tOk rfl ?_); simp)
      | (refine AWP_regS tOk rfl ?_; simp)
      | (refine AWP_skip ?_; simp)
      | (refine AWP_exit ?_; simp)
      | (refine AWP_ret ?_; simp)
      | refine AWP_block ?_
      | refine AWP_seq ?_)
    refine AWP_cond rfl ?_
    repeat (first
      | (refine AWP_seq (AWP_regS tOk rfl ?_); simp)
      | (refine AWP_regS tOk rfl ?_; simp)
      | (refine AWP_skip ?_; simp)
      | (refine AWP_exit ?_; simp)
      | (refine AWP_ret ?_; simp)
      | refine AWP_block ?_
      | refine AWP_seq ?_)
    refine AStep_PC rfl rfl (by simp) (pc_awake) rfl ?_
    rintro _ rfl
    simp
    repeat (first
      | (refine AWP_seq (AWP_regS tOk rfl ?_); simp)
      | (refine AWP_regS tOk rfl ?_; simp)
      | (refine AWP_skip ?_; simp)
      | (refine AWP_exit ?_; simp)
      | (refine AWP_ret ?_; simp)
      | refine AWP_block ?_
      | refine AWP_seq ?_)
  | true =>
    obtain ⟨hla, ha⟩ := good_of hf a (by simp)
    obtain ⟨hlb, hb⟩ := good_of hf b (by simp)
    have hU := sweep_canon opUnion rfl ha hb (by omega)
    have hV := sweep_canon opInter rfl ha hb (by omega)
    have hC := gaps_canon ha (by omega)
    have c1 := comb_of opUnion rfl ha hb (by omega)
    have c2 := comb_of opInter rfl ha hb (by omega)
    have c4 := compl_of ha (by omega)
    have s1 := size_union ha hb
    have s2 := size_gaps ha
    have p1 := size_pos a (canon_sep ha)
    have p2 := size_pos b (canon_sep hb)
    have p3 := size_pos _ (canon_sep hU)
    have p4 := size_pos _ (canon_sep hV)
    have p5 := size_pos _ (canon_sep hC)
    have s3 : sizeS b ≤ 2199023255553 := by
      have h1 := size_gaps hb
      have h2 := size_pos _ (canon_sep (gaps_canon hb (by omega)))
      omega
    have hw0 : IntKind.i64.wrap 0 = 0 := wrap_i64 _ (by omega) (by omega)
    have w1 : IntKind.i64.wrap (sizeS a + sizeS b) = sizeS a + sizeS b := wrap_i64 _ (by omega) (by omega)
    have w2 : IntKind.i64.wrap (sizeS (sweepR opUnion a b) + sizeS (sweepR opInter a b)) = sizeS a + sizeS b := by rw [wrap_i64 _ (by omega) (by omega)]; omega
    have w3 : IntKind.i64.wrap (sizeS a + sizeS (gapsR a)) = 2199023255553 := by rw [wrap_i64 _ (by omega) (by omega)]; omega
    have q1 := size_of ha
    have q2 := size_of hb
    have q3 := size_of hU
    have q4 := size_of hV
    have q5 := size_of hC
    clear hU hV hC p3 p4 p5 s1 s2 s3
    generalize sweepR opUnion a b = U at *
    generalize sweepR opInter a b = V at *
    generalize gapsR a = C at *
    generalize hsa : sizeS a = sa at *
    generalize sizeS b = sb at *
    generalize sizeS U = su at *
    generalize sizeS V = sv at *
    generalize sizeS C = sc at *
    repeat (first
      | (refine AWP_seq (AWP_regS tOk rfl ?_); simp)
      | (refine AWP_regS tOk rfl ?_; simp)
      | (refine AWP_skip ?_; simp)
      | (refine AWP_exit ?_; simp)
      | (refine AWP_ret ?_; simp)
      | refine AWP_block ?_
      | refine AWP_seq ?_)
    refine AWP_cond rfl ?_
    repeat (first
      | (refine AWP_seq (AWP_regS tOk rfl ?_); simp)
      | (refine AWP_regS tOk rfl ?_; simp)
      | (refine AWP_skip ?_; simp)
      | (refine AWP_exit ?_; simp)
      | (refine AWP_ret ?_; simp)
      | refine AWP_block ?_
      | refine AWP_seq ?_)
    refine AStep_PC rfl rfl (by simp) (pc_Union a b) rfl ?_
    rintro _ rfl
    simp [c1]
    repeat (first
      | (refine AWP_seq (AWP_regS tOk rfl ?_); simp)
      | (refine AWP_regS tOk rfl ?_; simp)
      | (refine AWP_skip ?_; simp)
      | (refine AWP_exit ?_; simp)
      | (refine AWP_ret ?_; simp)
      | refine AWP_block ?_
      | refine AWP_seq ?_)
    refine AStep_PC rfl rfl (by simp) (pc_Intersect a b) rfl ?_
    rintro _ rfl
    simp [c2]
    repeat (first
      | (refine AWP_seq (AWP_regS tOk rfl ?_); simp)
      | (refine AWP_regS tOk rfl ?_; simp)
      | (refine AWP_skip ?_; simp)
      | (refine AWP_exit ?_; simp)
      | (refine AWP_ret ?_; simp)
      | refine AWP_block ?_
      | refine AWP_seq ?_)
    refine AStep_PC rfl rfl (by simp) (pc_Complement a) rfl ?_
    rintro _ rfl
    simp [c4]
    repeat (first
      | (refine AWP_seq (AWP_regS tOk rfl ?_); simp)
      | (refine AWP_regS tOk rfl ?_; simp)
      | (refine AWP_skip ?_; simp)
      | (refine AWP_exit ?_; simp)
      | (refine AWP_ret ?_; simp)
      | refine AWP_block ?_
      | refine AWP_seq ?_)
    refine AStep_PC rfl rfl (by simp) (q1) rfl ?_
    rintro _ rfl
    simp
    repeat (first
      | (refine AWP_seq (AWP_regS tOk rfl ?_); simp)
      | (refine AWP_regS tOk rfl ?_; simp)
      | (refine AWP_skip ?_; simp)
      | (refine AWP_exit ?_; simp)
      | (refine AWP_ret ?_; simp)
      | refine AWP_block ?_
      | refine AWP_seq ?_)
    refine AStep_PC rfl rfl (by simp) (q2) rfl ?_
    rintro _ rfl
    simp
    repeat (first
      | (refine AWP_seq (AWP_regS tOk rfl ?_); simp [hw0])
      | (refine AWP_regS tOk rfl ?_; simp [hw0])
      | (refine AWP_skip ?_; simp [hw0])
      | (refine AWP_exit ?_; simp [hw0])
      | (refine AWP_ret ?_; simp [hw0])
      | refine AWP_block ?_
      | refine AWP_seq ?_)
    refine AWP_cond rfl ?_
    repeat (first
      | (refine AWP_seq (AWP_regS tOk rfl ?_); simp)
      | (refine AWP_regS tOk rfl ?_; simp)
      | (refine AWP_skip ?_; simp)
      | (refine AWP_exit ?_; simp)
      | (refine AWP_ret ?_; simp)
      | refine AWP_block ?_
      | refine AWP_seq ?_)
    refine AStep_PC rfl rfl (by simp) (q3) rfl ?_
    rintro _ rfl
    simp
    repeat (first
      | (refine AWP_seq (AWP_regS tOk rfl ?_); simp)
      | (refine AWP_regS tOk rfl ?_; simp)
      | (refine AWP_skip ?_; simp)
      | (refine AWP_exit ?_; simp)
      | (refine AWP_ret ?_; simp)
      | refine AWP_block ?_
      | refine AWP_seq ?_)
    refine AStep_PC rfl rfl (by simp) (q4) rfl ?_
    rintro _ rfl
    simp
    repeat (first
      | (refine AWP_seq (AWP_regS tOk rfl ?_); simp)
      | (refine AWP_regS tOk rfl ?_; simp)
      | (refine AWP_skip ?_; simp)
      | (refine AWP_exit ?_; simp)
      | (refine AWP_ret ?_; simp)
      | refine AWP_block ?_
      | refine AWP_seq ?_)
    refine AStep_PC rfl rfl (by simp) (q5) rfl ?_
    rintro _ rfl
    simp
    repeat (first
      | (refine AWP_seq (AWP_regS tOk rfl ?_); simp [hw0, w1, w2, w3])
      | (refine AWP_regS tOk rfl ?_; simp [hw0, w1, w2, w3])
      | (refine AWP_skip ?_; simp [hw0, w1, w2, w3])
      | (refine AWP_exit ?_; simp [hw0, w1, w2, w3])
      | (refine AWP_ret ?_; simp [hw0, w1, w2, w3])
      | refine AWP_block ?_
      | refine AWP_seq ?_)
    refine AWP_cond rfl ?_
    repeat (first
      | (refine AWP_seq (AWP_regS tOk rfl ?_); simp)
      | (refine AWP_regS tOk rfl ?_; simp)
      | (refine AWP_skip ?_; simp)
      | (refine AWP_exit ?_; simp)
      | (refine AWP_ret ?_; simp)
      | refine AWP_block ?_
      | refine AWP_seq ?_)
    by_cases h0 : i < 0
    · have hA := at_neg ha h0
      refine AStep_PC rfl rfl (by simp) (pc_At a i hi1) rfl ?_
      rintro _ rfl
      simp [hA]
      repeat (first
        | (refine AWP_seq (AWP_regS tOk rfl ?_); simp [h0])
        | (refine AWP_regS tOk rfl ?_; simp [h0])
        | (refine AWP_skip ?_; simp [h0])
        | (refine AWP_exit ?_; simp [h0])
        | (refine AWP_ret ?_; simp [h0])
        | refine AWP_block ?_
        | refine AWP_seq ?_)
      refine AWP_cond rfl ?_
      repeat (first
        | (refine AWP_seq (AWP_regS tOk rfl ?_); simp)
        | (refine AWP_regS tOk rfl ?_; simp)
        | (refine AWP_skip ?_; simp)
        | (refine AWP_exit ?_; simp)
        | (refine AWP_ret ?_; simp)
        | refine AWP_block ?_
        | refine AWP_seq ?_)
      refine AStep_PC rfl rfl (by simp) (pc_awake) rfl ?_
      rintro _ rfl
      simp
      repeat (first
        | (refine AWP_seq (AWP_regS tOk rfl ?_); simp)
        | (refine AWP_regS tOk rfl ?_; simp)
        | (refine AWP_skip ?_; simp)
        | (refine AWP_exit ?_; simp)
        | (refine AWP_ret ?_; simp)
        | refine AWP_block ?_
        | refine AWP_seq ?_)
    have hA := at_pos ha h0
    by_cases h1 : sa ≤ i
    · rw [at_out a i (canon_sep ha) (by omega)] at hA
      refine AStep_PC rfl rfl (by simp) (pc_At a i hi1) rfl ?_
      rintro _ rfl
      simp [hA]
      repeat (first
        | (refine AWP_seq (AWP_regS tOk rfl ?_); simp [h0, h1])
        | (refine AWP_regS tOk rfl ?_; simp [h0, h1])
        | (refine AWP_skip ?_; simp [h0, h1])
        | (refine AWP_exit ?_; simp [h0, h1])
        | (refine AWP_ret ?_; simp [h0, h1])
        | refine AWP_block ?_
        | refine AWP_seq ?_)
      refine AWP_cond rfl ?_
      repeat (first
        | (refine AWP_seq (AWP_regS tOk rfl ?_); simp)
        | (refine AWP_regS tOk rfl ?_; simp)
        | (refine AWP_skip ?_; simp)
        | (refine AWP_exit ?_; simp)
        | (refine AWP_ret ?_; simp)
        | refine AWP_block ?_
        | refine AWP_seq ?_)
      refine AStep_PC rfl rfl (by simp) (pc_awake) rfl ?_
      rintro _ rfl
      simp
      repeat (first
        | (refine AWP_seq (AWP_regS tOk rfl ?_); simp)
        | (refine AWP_regS tOk rfl ?_; simp)
        | (refine AWP_skip ?_; simp)
        | (refine AWP_exit ?_; simp)
        | (refine AWP_ret ?_; simp)
        | refine AWP_block ?_
        | refine AWP_seq ?_)
    obtain ⟨x, e1, e2⟩ := at_in ha i (by omega) (by omega)
    rw [e1] at hA
    have d0 := con_of ha x
    rw [(has_iff a x).2 e2] at d0
    refine AStep_PC rfl rfl (by simp) (pc_At a i hi1) rfl ?_
    rintro _ rfl
    simp [hA]
    repeat (first
      | (refine AWP_seq (AWP_regS tOk rfl ?_); simp [h0, h1])
      | (refine AWP_regS tOk rfl ?_; simp [h0, h1])
      | (refine AWP_skip ?_; simp [h0, h1])
      | (refine AWP_exit ?_; simp [h0, h1])
      | (refine AWP_ret ?_; simp [h0, h1])
      | refine AWP_block ?_
      | refine AWP_seq ?_)
    refine AWP_cond rfl ?_
    repeat (first
      | (refine AWP_seq (AWP_regS tOk rfl ?_); simp)
      | (refine AWP_regS tOk rfl ?_; simp)
      | (refine AWP_skip ?_; simp)
      | (refine AWP_exit ?_; simp)
      | (refine AWP_ret ?_; simp)
      | refine AWP_block ?_
      | refine AWP_seq ?_)
    refine AStep_PC rfl rfl (by simp) (pc_Contains a x) rfl ?_
    rintro _ rfl
    simp [d0]
    by_cases h2 : i = 0
    · subst h2
      repeat (first
        | (refine AWP_seq (AWP_regS tOk rfl ?_); simp)
        | (refine AWP_regS tOk rfl ?_; simp)
        | (refine AWP_skip ?_; simp)
        | (refine AWP_exit ?_; simp)
        | (refine AWP_ret ?_; simp)
        | refine AWP_block ?_
        | refine AWP_seq ?_)
      refine AWP_cond rfl ?_
      repeat (first
        | (refine AWP_seq (AWP_regS tOk rfl ?_); simp)
        | (refine AWP_regS tOk rfl ?_; simp)
        | (refine AWP_skip ?_; simp)
        | (refine AWP_exit ?_; simp)
        | (refine AWP_ret ?_; simp)
        | refine AWP_block ?_
        | refine AWP_seq ?_)
      refine AStep_PC rfl rfl (by simp) (pc_awake) rfl ?_
      rintro _ rfl
      simp
      repeat (first
        | (refine AWP_seq (AWP_regS tOk rfl ?_); simp)
        | (refine AWP_regS tOk rfl ?_; simp)
        | (refine AWP_skip ?_; simp)
        | (refine AWP_exit ?_; simp)
        | (refine AWP_ret ?_; simp)
        | refine AWP_block ?_
        | refine AWP_seq ?_)
    obtain ⟨y, f1, f2⟩ := at_in ha (i - 1) (by omega) (by omega)
    obtain ⟨t1, t2, t3⟩ := at_two ha i x y (by omega) (by omega) e1 f1
    have hA2 := at_pos ha (i := i - 1) (by omega)
    rw [f1] at hA2
    have hb2 : (i == 0) = false := beq_eq_false_iff_ne.2 h2
    have w4 : IntKind.i64.wrap (i - 1) = i - 1 := wrap_i64 _ (by omega) (by omega)
    have hX := sweep_canon opInter rfl ha t2 (by simp; omega)
    have c6 := comb_of opInter rfl ha t2 (by simp; omega)
    have q6 := size_of hX
    rw [t3] at q6
    repeat (first
      | (refine AWP_seq (AWP_regS tOk rfl ?_); simp [hb2, h2])
      | (refine AWP_regS tOk rfl ?_; simp [hb2, h2])
      | (refine AWP_skip ?_; simp [hb2, h2])
      | (refine AWP_exit ?_; simp [hb2, h2])
      | (refine AWP_ret ?_; simp [hb2, h2])
      | refine AWP_block ?_
      | refine AWP_seq ?_)
    refine AWP_cond rfl ?_
    repeat (first
      | (refine AWP_seq (AWP_regS tOk rfl ?_); simp [w4])
      | (refine AWP_regS tOk rfl ?_; simp [w4])
      | (refine AWP_skip ?_; simp [w4])
      | (refine AWP_exit ?_; simp [w4])
      | (refine AWP_ret ?_; simp [w4])
      | refine AWP_block ?_
      | refine AWP_seq ?_)
    refine AStep_PC rfl rfl (by simp) (pc_At a (i - 1) (by omega)) rfl ?_
    rintro _ rfl
    simp [hA2]
    repeat (first
      | (refine AWP_seq (AWP_regS tOk rfl ?_); simp)
      | (refine AWP_regS tOk rfl ?_; simp)
      | (refine AWP_skip ?_; simp)
      | (refine AWP_exit ?_; simp)
      | (refine AWP_ret ?_; simp)
      | refine AWP_block ?_
      | refine AWP_seq ?_)
    refine AStep_freeze 1 rfl ?_
    simp
    generalize sweepR opInter a [⟨y, x⟩] = X at *
    refine AStep_PC rfl rfl (by simp) (pc_Intersect a [⟨y, x⟩]) rfl ?_
    rintro _ rfl
    simp [c6]
    repeat (first
      | (refine AWP_seq (AWP_regS tOk rfl ?_); simp)
      | (refine AWP_regS tOk rfl ?_; simp)
      | (refine AWP_skip ?_; simp)
      | (refine AWP_exit ?_; simp)
      | (refine AWP_ret ?_; simp)
      | refine AWP_block ?_
      | refine AWP_seq ?_)
    refine AStep_PC rfl rfl (by simp) (q6) rfl ?_
    rintro _ rfl
    simp
    repeat (first
      | (refine AWP_seq (AWP_regS tOk rfl ?_); simp [hw0, t1])
      | (refine AWP_regS tOk rfl ?_; simp [hw0, t1])
      | (refine AWP_skip ?_; simp [hw0, t1])
      | (refine AWP_exit ?_; simp [hw0, t1])
      | (refine AWP_ret ?_; simp [hw0, t1])
      | refine AWP_block ?_
      | refine AWP_seq ?_)
    refine AStep_PC rfl rfl (by simp) (pc_awake) rfl ?_
    rintro _ rfl
    simp
    repeat (first
      | (refine AWP_seq (AWP_regS tOk rfl ?_); simp)
      | (refine AWP_regS tOk rfl ?_; simp)
      | (refine AWP_skip ?_; simp)
      | (refine AWP_exit ?_; simp)
      | (refine AWP_ret ?_; simp)
      | refine AWP_block ?_
      | refine AWP_seq ?_)
end Go.Abs
/- The sizes of union and intersection add up to those of the sets, those of a set and its complement to all numbers, and At returns elements in ascending order: IntervalCounts returns true for every input. Conditions: those of the given row (the laid tables), tied by the given card. -/
set_option maxRecDepth 100000
namespace Go.Abs
open Go Go.Proofs Go.Proofs.YtcjmlnjoaekbjaaDoor Go.RowKit
noncomputable def args_IntervalCounts : Array Value := #[.slice none 0 0, .slice none 0 0, .int .i64 0]
theorem laid_IntervalCounts (os : Os) : laidMetH Tryd.prog Rows.intervalCountsRow.laid ((World.laidAll Tryd.prog os Rows.intervalCountsRow.laid).forCall (fun _ _ => 0) ⟨#[], args_IntervalCounts, []⟩).memory :=
  laidMet_laidAll _ (by kernel_rfl) (by kernel_rfl)
theorem reads_IntervalCounts (os : Os) {H : Type} (enc : TypeId × Value → H) : ∃ ds places, DataW.whole enc Tryd.prog ((World.laidAll Tryd.prog os Rows.intervalCountsRow.laid).forCall (fun _ _ => 0) ⟨#[], args_IntervalCounts, []⟩).memory Tryd.f6.params.toList Rows.intervalCountsSpec.vars false args_IntervalCounts.toList 8 = some (ds, [], places) :=
  ⟨[.nil, .nil, .lit (.int .i64 0)], [], by kernel_rfl⟩
theorem lawPC_IntervalCounts (xs : List AV) (h : ArgsShp T 8 Tryd.f6.params.toList xs) : PC Tryd.prog 6 xs (fun r => r = .bool true) := by
  rw [Tryd.params6] at h
  obtain ⟨a, _, rfl, h_1⟩ := argLIv h
  obtain ⟨b, _, rfl, h_2⟩ := argLIv h_1
  obtain ⟨n, _, rfl, hn, h_3⟩ := argInt h_2
  obtain rfl := argsNil h_3
  exact law_Counts a b n hn.1 hn.2
theorem lifted_IntervalCounts (os : Os) (started : os.Started) (H : Type) (enc : TypeId × Value → H) (F : Stop.Interp) :
    ReturnsInHanded {} Tryd.checked os 6 .any ((OpenSpec.ofChange Rows.intervalCountsSpec).preRow enc Tryd.prog Tryd.f6 Rows.intervalCountsRow.domain false Rows.intervalCountsRow.laid) (((OpenSpec.ofChange Rows.intervalCountsSpec).at F).post enc Tryd.prog Tryd.f6 false true false false) := by
  obtain ⟨ds, places, hx⟩ := reads_IntervalCounts os enc
  refine returnsInHanded_of_row (C := Tryd.checked) (s := OpenSpec.ofChange Rows.intervalCountsSpec) own started (by kernel_rfl) Tryd.func6
    (witness_row_atRef (enc := enc) (C := Tryd.checked) false (World.laidAll Tryd.prog os Rows.intervalCountsRow.laid) args_IntervalCounts (World.laidAll_os _ _ _) (by kernel_rfl) (by kernel_rfl) (by kernel_rfl)
      (OpenSpec.preRow_of_cond 8 hx (by kernel_rfl) (fun k hk => by cases hk) (by kernel_rfl) (laid_IntervalCounts os))) ?_
  intro W base args ds gs before hval hW _ _ hwt hL _ _
  exact row_of_PC tOk laidOut (d := 8) (tb := 4) (by kernel_rfl) (by kernel_rfl) (by kernel_rfl) (by kernel_rfl) (eok_of hL (by kernel_rfl)) lawPC_IntervalCounts rfl (fun ds h => by
    match ds, h with
    | [_, _, _], _ => rfl) hval hW rfl hwt
theorem said_IntervalCounts : Rows.IntervalCountsSaid :=
  OpenClaim.holds_of_cond 6 Tryd.f6 rfl rfl rfl rfl rfl rfl rfl ⟨rfl, rfl, rfl, rfl, rfl⟩ rfl rfl rfl rfl rfl (by kernel_rfl) Tryd.func6 (by kernel_rfl)
    (of_decide_eq_true (by kernel_rfl)) (by unfold Func.isWrapper; first | (rw [if_pos (by decide +kernel)]; kernel_rfl) | (rw [if_neg (by decide +kernel)]; exact ⟨rfl, rfl⟩))
    (fun os started H enc _ F => by rw [OpenClaim.pre_eq_preRow]; exact lifted_IntervalCounts os started H enc F)
theorem plain_IntervalCounts (f : FuncId) (fn : Func) (hf : Tryd.pinned.checked.prog.funcNamed "tidegate/tidegatelaw02.IntervalCounts" = some f) (hfn : Tryd.pinned.checked.prog.funcs[f]? = some fn) :
    false = Tryd.pinned.checked.prog.looks [] ∧ ∀ (j : Nat) t, fn.params[j]? = some t → Tryd.pinned.checked.prog.wantsStandIn t = false := by
  obtain rfl : f = 6 := Option.some.inj ((show Tryd.prog.funcNamed "tidegate/tidegatelaw02.IntervalCounts" = some 6 by kernel_rfl).symm.trans hf) |>.symm
  obtain rfl : fn = Tryd.f6 := (Option.some.inj (Tryd.func6.symm.trans hfn)).symm
  refine ⟨by kernel_rfl, fun j t ht => ?_⟩
  have hall : (Tryd.f6.params.toList.all fun t => Tryd.prog.wantsStandIn t == false) = true := by kernel_rfl
  have hm : t ∈ Tryd.f6.params.toList := by simpa using Array.mem_of_getElem? ht
  exact beq_iff_eq.1 (List.all_eq_true.1 hall t hm)
end Go.Abs
namespace Go.Proofs.YtcjmlnjoaekbjaaDoor
open Go Go.Abs
theorem intervalCounts_card : Rows.IntervalCountsCardSaid :=
  Claim7.holds_tied_plain_at .later [] _ _ _ _ said_IntervalCounts (fun _ h => by cases h) (by kernel_rfl) (fun _ h => by cases h) intervalCounts_row_tie rfl ⟨rfl, rfl⟩ (by kernel_rfl) rfl plain_IntervalCounts (by kernel_rfl)
end Go.Proofs.YtcjmlnjoaekbjaaDoor
