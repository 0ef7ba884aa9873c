/- Part Kf of the proof: an abstract machine over the model, and what the functions of the program hand back in its terms. No condition. -/
import Derived.Test.YtmfoegilknpcnaaGreatDoorKe
import Derived.Test.YtmfoegilknpcnaaGreatDoorKb
import Derived.Shelf.GgSortFunc.RowK
import Derived.Shelf.SlSortCmp.WholeK
import Derived.Shelf.SlSortCmp.NoneTotal
import Derived.Test.YtmfoegilknpcnaaGreatDoorKc
import Derived.Shelf.Small.Strs
import Derived.Shelf.Sort.Plain
import Derived.Shelf.Slices.In.SortNone
import Derived.Ground.SlgcProg
import Derived.Shelf.SlicesG.Cmp
import Derived.Test.YtmfoegilknpcnaaGreatDoorProg
import Derived.Lay
import Derived.LaidSub
import Derived.Deep.DeepWitnessRowRef
import Derived.Test.YtmfoegilknpcnaaGreatDoorCards
import Derived.Test.YtmfoegilknpcnaaGreatDoorTie
import Derived.Lib.LaidTab
import Derived.Shelf.Vars
set_option linter.all false
set_option maxRecDepth 100000
namespace Go.Abs
open Go Go.Proofs
set_option linter.unusedSimpArgs false
set_option maxHeartbeats 2000000 in
theorem fc_get_Value (F : DD Val) (hsh : Shr F) (f : FuncId) (fs cs : List AV) (H : List AObj) (q : Nat) (d : Dc) (hd : H[q]? = some (dX d)) (hs : d.s.length ≤ 1000000000)
    (hone : ∀ (H' : List AObj) (d' : Dc), H'[q]? = some (dX d') → d'.s.length ≤ 1000000000 → Fr H H' q none none → FC Tryz.prog f (fs ++ [] ++ cs) H' (DP H' q (encV (F d').1) (F d').2)) :
    FC Tryz.prog 254 [.vptr q 0, .fn (.func f) fs cs] H (DP H q (.list ((pL F d).1.map encV)) (pL F d).2) := by
  refine FC_body tOk Tryz.func254 rfl Tryz.results254 rfl (by simp [Tryz.ntmps254]) ?_
  rw [Tryz.ntmps254]
  simp only [argSlots]
  obtain ⟨R, hR⟩ : ∃ R, pL F d = R := ⟨_, rfl⟩
  rw [hR]
  rw [pL, bd] at hR
  repeat first|((first|refine qa tOk rfl ?_|refine qb tOk rfl ?_|refine qc ?_|refine qd ?_|refine qe ?_);simp)|refine AWP_block ?_|refine AWP_seq ?_
  refine AStep_FC rfl rfl (fc_dint H q d hd hs) rfl ?_
  rintro _ G ⟨rfl, k1, f1⟩
  have hs1 := shr_pI d
  generalize (pI d).1 = n at *
  generalize (pI d).2 = d1 at *
  simp
  repeat first|((first|refine qa tOk rfl ?_|refine qb tOk rfl ?_|refine qc ?_|refine qd ?_|refine qe ?_);simp)|refine AWP_block ?_|refine AWP_seq ?_
  by_cases hbad : n < 0 ∨ 4096 < n
  · refine AWP_cond2 rfl (fun h => ?_) (fun h => by exfalso; rw [Bool.eq_false_iff] at h; apply h; simpa only [Bool.or_eq_true, decide_eq_true_eq] using hbad)
    rw [if_pos hbad, loopD_bad F _ (fail_ne (by decide))] at hR
    repeat first|((first|refine qa tOk rfl ?_|refine qb tOk rfl ?_|refine qc ?_|refine qd ?_|refine qe ?_);simp)|refine AWP_block ?_|refine AWP_seq ?_
    refine AStep_FC rfl rfl (fc_dfail G q d1 5 k1) rfl ?_
    rintro _ _ ⟨rfl, rfl⟩
    have hne : (d1.fail 5).e ≠ 0 := fail_ne (by decide)
    have k2 := get_self k1 (dX (d1.fail 5))
    have f2 := f1.trans (Fr.set G q none (dX (d1.fail 5)))
    generalize G.set q (dX (d1.fail 5)) = G2 at *
    generalize d1.fail 5 = d2 at *
    rw [dX] at k2
    have hb : (d2.e == 0) = false := by simpa using hne
    simp
    repeat first|((first|refine qa tOk rfl ?_|refine qb tOk rfl ?_|refine qc ?_|refine qd ?_|refine qe ?_);simp)|refine AWP_block ?_|refine AWP_seq ?_
    refine AWP_loop (ALoop_round ?_)
    repeat first|((first|refine qa tOk rfl ?_|refine qb tOk rfl ?_|refine qc ?_|refine qd ?_|refine qe ?_);simp [k2, hb])|refine AWP_block ?_|refine AWP_seq ?_
    refine AWP_cond2 rfl (fun h => by simp at h) (fun _ => ?_)
    refine AWP_nilList 6 rfl ?_
    simp
    repeat first|((first|refine qa tOk rfl ?_|refine qb tOk rfl ?_|refine qc ?_|refine qd ?_|refine qe ?_);simp)|refine AWP_block ?_|refine AWP_seq ?_
    rw [← hR]
    exact ⟨rfl, k2, f2⟩
  · refine AWP_cond2 rfl (fun h => by exfalso; apply hbad; simpa only [Bool.or_eq_true, decide_eq_true_eq] using h) (fun _ => ?_)
    rw [if_neg hbad] at hR
    obtain ⟨N, rfl⟩ : ∃ N : Nat, n = N := ⟨n.toNat, by omega⟩
    have hN : N ≤ 4096 := by omega
    simp only [Int.toNat_natCast] at hR
    repeat first|((first|refine qa tOk rfl ?_|refine qb tOk rfl ?_|refine qc ?_|refine qd ?_|refine qe ?_);simp)|refine AWP_block ?_|refine AWP_seq ?_
    refine AWP_nilSlot 6 94 3 rfl ?_
    simp
    refine AWP_loop (ALoop_keep (sl' := [(0, .vptr q 0), (1, .fn (.func f) fs cs), (5, .i N), (6, .sl G.length 3 0 0), (7, .i 0)]) ?_ (by simp))
    refine ALoop_wf (P := Tryz.prog) (F := fun (u : Nat × List Val × Dc × Nat × List AObj) => ⟨[(0, .vptr q 0), (1, .fn (.func f) fs cs), (5, .i N), (6, .sl u.2.2.2.1 3 0 u.2.1.length), (7, .i u.1)], u.2.2.2.2⟩)
      (fun u => u.1 ≤ N ∧ u.2.1.length = u.1 ∧ u.2.2.2.2[q]? = some (dX u.2.2.1) ∧ u.2.2.2.2[u.2.2.2.1]? = some (.arr 94 3 (u.2.1.map encV)) ∧ u.2.2.2.1 ≠ q ∧ H.length ≤ u.2.2.2.1 ∧ Fr H u.2.2.2.2 q none none ∧ u.2.2.1.s.length ≤ 1000000000 ∧ R = (u.2.1 ++ (loopD F (N - u.1) u.2.2.1).1, (loopD F (N - u.1) u.2.2.1).2)) (fun u => N - u.1) ?_
      (0, [], d1, G.length, G ++ [.arr 94 3 []]) ⟨Nat.zero_le _, rfl, get_app k1 _, by simp, by have := (List.getElem?_eq_some_iff.1 k1).1; simp only; omega, f1.1, fr_push f1 _, by simp only; omega, by simpa using hR.symm⟩
    rintro ⟨j, xs, dj, p, G1⟩ ⟨g1, g2, g3, g4, g5, g6, g7, g8, g9⟩ ih
    simp only at g1 g2 g3 g4 g5 g6 g7 g8 g9 ih ⊢
    have g3' : G1[q]? = some (.vars [.str dj.s, .i dj.e]) := g3
    repeat first|((first|refine qa tOk rfl ?_|refine qb tOk rfl ?_|refine qc ?_|refine qd ?_|refine qe ?_);simp [g3'])|refine AWP_block ?_|refine AWP_seq ?_
    refine AWP_cond2 rfl (fun h => ?_) (fun h => ?_)
    · have hje : j < N ∧ dj.e = 0 := by simpa only [Bool.and_eq_true, decide_eq_true_eq, beq_iff_eq] using h
      obtain ⟨hj, he⟩ := hje
      have hw1 : IntKind.i64.wrap ((j : Int) + 1) = j + 1 := wrap_i64 _ (by omega) (by omega)
      have hs2 := hsh dj
      have g9' := loopD_step F g9 hj he
      repeat first|((first|refine qa tOk rfl ?_|refine qb tOk rfl ?_|refine qc ?_|refine qd ?_|refine qe ?_);simp)|refine AWP_block ?_|refine AWP_seq ?_
      refine AStep_FC rfl rfl (hone G1 dj g3 g8 g7) rfl ?_
      rintro _ G2 ⟨rfl, m1, m2⟩
      have m4 := m2.kd g4 g5
      have b6 : ∀ A : AObj, (G2 ++ [A])[p]? = some (.arr 94 3 (xs.map encV)) := fun A => get_app m4 _
      generalize (F dj).1 = x at *
      generalize (F dj).2 = d3 at *
      have hx : xs.length ≤ 4096 := by omega
      simp
      repeat first|((first|refine qa tOk rfl ?_|refine qb tOk rfl ?_|refine qc ?_|refine qd ?_|refine qe ?_);simp)|refine AWP_block ?_|refine AWP_seq ?_
      refine AStep_appendS tOk rfl rfl T193 rfl T94 rfl (by decide) (by decide) rfl rfl rfl ?_
      simp [b6, hx]
      refine ⟨by simp [appOk, b6, hx] <;> omega, ?_⟩
      repeat first|((first|refine qa tOk rfl ?_|refine qb tOk rfl ?_|refine qc ?_|refine qd ?_|refine qe ?_);simp [hw1])|refine AWP_block ?_|refine AWP_seq ?_
      have key := ih (j + 1, xs ++ [x], d3, G2.length + 1, (G2 ++ [AObj.arr 94 3 [encV x]]).set p .dead ++ [AObj.arr 94 3 ((xs ++ [x]).map encV)])
        ⟨by simp only; omega, by simp [g2], get_app (get_set g5 (get_app m1 _) _) _, get_new .., by have := (List.getElem?_eq_some_iff.1 m1).1; simp only; omega, by have := g7.1; have := m2.1; simp only; omega, fr_put (g7.trans m2) g6 _ _, by simp only; omega, g9'⟩ (by simp only; omega)
      simp at key
      exact ALoop_keep key (by simp)
    · have hje : j = N ∨ dj.e ≠ 0 := by
        rw [Bool.eq_false_iff] at h
        simp only [ne_eq, Bool.and_eq_true, decide_eq_true_eq, beq_iff_eq] at h
        omega
      have hr := loopD_end F g9 hje
      refine AWP_freeze1 p g4 ?_
      simp
      try rw [List.take_of_length_le (by simp)]
      repeat first|((first|refine qa tOk rfl ?_|refine qb tOk rfl ?_|refine qc ?_|refine qd ?_|refine qe ?_);simp)|refine AWP_block ?_|refine AWP_seq ?_
      rw [hr]
      exact ⟨rfl, get_set g5 g3 _, fr_kill g7 g6⟩
set_option maxHeartbeats 2000000 in
theorem fc_get_Binding (F : DD Bnd) (hsh : Shr F) (f : FuncId) (fs cs : List AV) (H : List AObj) (q : Nat) (d : Dc) (hd : H[q]? = some (dX d)) (hs : d.s.length ≤ 1000000000)
    (hone : ∀ (H' : List AObj) (d' : Dc), H'[q]? = some (dX d') → d'.s.length ≤ 1000000000 → Fr H H' q none none → FC Tryz.prog f (fs ++ [] ++ cs) H' (DP H' q (avBnd (F d').1) (F d').2)) :
    FC Tryz.prog 255 [.vptr q 0, .fn (.func f) fs cs] H (DP H q (.list ((pL F d).1.map avBnd)) (pL F d).2) := by
  refine FC_body tOk Tryz.func255 rfl Tryz.results255 rfl (by simp [Tryz.ntmps255]) ?_
  rw [Tryz.ntmps255]
  simp only [argSlots]
  obtain ⟨R, hR⟩ : ∃ R, pL F d = R := ⟨_, rfl⟩
  rw [hR]
  rw [pL, bd] at hR
  repeat first|((first|refine qa tOk rfl ?_|refine qb tOk rfl ?_|refine qc ?_|refine qd ?_|refine qe ?_);simp)|refine AWP_block ?_|refine AWP_seq ?_
  refine AStep_FC rfl rfl (fc_dint H q d hd hs) rfl ?_
  rintro _ G ⟨rfl, k1, f1⟩
  have hs1 := shr_pI d
  generalize (pI d).1 = n at *
  generalize (pI d).2 = d1 at *
  simp
  repeat first|((first|refine qa tOk rfl ?_|refine qb tOk rfl ?_|refine qc ?_|refine qd ?_|refine qe ?_);simp)|refine AWP_block ?_|refine AWP_seq ?_
  by_cases hbad : n < 0 ∨ 4096 < n
  · refine AWP_cond2 rfl (fun h => ?_) (fun h => by exfalso; rw [Bool.eq_false_iff] at h; apply h; simpa only [Bool.or_eq_true, decide_eq_true_eq] using hbad)
    rw [if_pos hbad, loopD_bad F _ (fail_ne (by decide))] at hR
    repeat first|((first|refine qa tOk rfl ?_|refine qb tOk rfl ?_|refine qc ?_|refine qd ?_|refine qe ?_);simp)|refine AWP_block ?_|refine AWP_seq ?_
    refine AStep_FC rfl rfl (fc_dfail G q d1 5 k1) rfl ?_
    rintro _ _ ⟨rfl, rfl⟩
    have hne : (d1.fail 5).e ≠ 0 := fail_ne (by decide)
    have k2 := get_self k1 (dX (d1.fail 5))
    have f2 := f1.trans (Fr.set G q none (dX (d1.fail 5)))
    generalize G.set q (dX (d1.fail 5)) = G2 at *
    generalize d1.fail 5 = d2 at *
    rw [dX] at k2
    have hb : (d2.e == 0) = false := by simpa using hne
    simp
    repeat first|((first|refine qa tOk rfl ?_|refine qb tOk rfl ?_|refine qc ?_|refine qd ?_|refine qe ?_);simp)|refine AWP_block ?_|refine AWP_seq ?_
    refine AWP_loop (ALoop_round ?_)
    repeat first|((first|refine qa tOk rfl ?_|refine qb tOk rfl ?_|refine qc ?_|refine qd ?_|refine qe ?_);simp [k2, hb])|refine AWP_block ?_|refine AWP_seq ?_
    refine AWP_cond2 rfl (fun h => by simp at h) (fun _ => ?_)
    refine AWP_nilList 6 rfl ?_
    simp
    repeat first|((first|refine qa tOk rfl ?_|refine qb tOk rfl ?_|refine qc ?_|refine qd ?_|refine qe ?_);simp)|refine AWP_block ?_|refine AWP_seq ?_
    rw [← hR]
    exact ⟨rfl, k2, f2⟩
  · refine AWP_cond2 rfl (fun h => by exfalso; apply hbad; simpa only [Bool.or_eq_true, decide_eq_true_eq] using h) (fun _ => ?_)
    rw [if_neg hbad] at hR
    obtain ⟨N, rfl⟩ : ∃ N : Nat, n = N := ⟨n.toNat, by omega⟩
    have hN : N ≤ 4096 := by omega
    simp only [Int.toNat_natCast] at hR
    repeat first|((first|refine qa tOk rfl ?_|refine qb tOk rfl ?_|refine qc ?_|refine qd ?_|refine qe ?_);simp)|refine AWP_block ?_|refine AWP_seq ?_
    refine AWP_nilSlot 6 243 4 rfl ?_
    simp
    refine AWP_loop (ALoop_keep (sl' := [(0, .vptr q 0), (1, .fn (.func f) fs cs), (5, .i N), (6, .sl G.length 4 0 0), (7, .i 0)]) ?_ (by simp))
    refine ALoop_wf (P := Tryz.prog) (F := fun (u : Nat × List Bnd × Dc × Nat × List AObj) => ⟨[(0, .vptr q 0), (1, .fn (.func f) fs cs), (5, .i N), (6, .sl u.2.2.2.1 4 0 u.2.1.length), (7, .i u.1)], u.2.2.2.2⟩)
      (fun u => u.1 ≤ N ∧ u.2.1.length = u.1 ∧ u.2.2.2.2[q]? = some (dX u.2.2.1) ∧ u.2.2.2.2[u.2.2.2.1]? = some (.arr 243 4 (u.2.1.map avBnd)) ∧ u.2.2.2.1 ≠ q ∧ H.length ≤ u.2.2.2.1 ∧ Fr H u.2.2.2.2 q none none ∧ u.2.2.1.s.length ≤ 1000000000 ∧ R = (u.2.1 ++ (loopD F (N - u.1) u.2.2.1).1, (loopD F (N - u.1) u.2.2.1).2)) (fun u => N - u.1) ?_
      (0, [], d1, G.length, G ++ [.arr 243 4 []]) ⟨Nat.zero_le _, rfl, get_app k1 _, by simp, by have := (List.getElem?_eq_some_iff.1 k1).1; simp only; omega, f1.1, fr_push f1 _, by simp only; omega, by simpa using hR.symm⟩
    rintro ⟨j, xs, dj, p, G1⟩ ⟨g1, g2, g3, g4, g5, g6, g7, g8, g9⟩ ih
    simp only at g1 g2 g3 g4 g5 g6 g7 g8 g9 ih ⊢
    have g3' : G1[q]? = some (.vars [.str dj.s, .i dj.e]) := g3
    repeat first|((first|refine qa tOk rfl ?_|refine qb tOk rfl ?_|refine qc ?_|refine qd ?_|refine qe ?_);simp [g3'])|refine AWP_block ?_|refine AWP_seq ?_
    refine AWP_cond2 rfl (fun h => ?_) (fun h => ?_)
    · have hje : j < N ∧ dj.e = 0 := by simpa only [Bool.and_eq_true, decide_eq_true_eq, beq_iff_eq] using h
      obtain ⟨hj, he⟩ := hje
      have hw1 : IntKind.i64.wrap ((j : Int) + 1) = j + 1 := wrap_i64 _ (by omega) (by omega)
      have hs2 := hsh dj
      have g9' := loopD_step F g9 hj he
      repeat first|((first|refine qa tOk rfl ?_|refine qb tOk rfl ?_|refine qc ?_|refine qd ?_|refine qe ?_);simp)|refine AWP_block ?_|refine AWP_seq ?_
      refine AStep_FC rfl rfl (hone G1 dj g3 g8 g7) rfl ?_
      rintro _ G2 ⟨rfl, m1, m2⟩
      have m4 := m2.kd g4 g5
      have b6 : ∀ A : AObj, (G2 ++ [A])[p]? = some (.arr 243 4 (xs.map avBnd)) := fun A => get_app m4 _
      generalize (F dj).1 = x at *
      generalize (F dj).2 = d3 at *
      have hx : xs.length ≤ 4096 := by omega
      simp
      repeat first|((first|refine qa tOk rfl ?_|refine qb tOk rfl ?_|refine qc ?_|refine qd ?_|refine qe ?_);simp)|refine AWP_block ?_|refine AWP_seq ?_
      refine AStep_appendS tOk rfl rfl T145 rfl T243 rfl (by decide) (by decide) rfl rfl rfl ?_
      simp [b6, hx]
      refine ⟨by simp [appOk, b6, hx] <;> omega, ?_⟩
      repeat first|((first|refine qa tOk rfl ?_|refine qb tOk rfl ?_|refine qc ?_|refine qd ?_|refine qe ?_);simp [hw1])|refine AWP_block ?_|refine AWP_seq ?_
      have key := ih (j + 1, xs ++ [x], d3, G2.length + 1, (G2 ++ [AObj.arr 243 4 [avBnd x]]).set p .dead ++ [AObj.arr 243 4 ((xs ++ [x]).map avBnd)])
        ⟨by simp only; omega, by simp [g2], get_app (get_set g5 (get_app m1 _) _) _, get_new .., by have := (List.getElem?_eq_some_iff.1 m1).1; simp only; omega, by have := g7.1; have := m2.1; simp only; omega, fr_put (g7.trans m2) g6 _ _, by simp only; omega, g9'⟩ (by simp only; omega)
      simp at key
      exact ALoop_keep key (by simp)
    · have hje : j = N ∨ dj.e ≠ 0 := by
        rw [Bool.eq_false_iff] at h
        simp only [ne_eq, Bool.and_eq_true, decide_eq_true_eq, beq_iff_eq] at h
        omega
      have hr := loopD_end F g9 hje
      refine AWP_freeze1 p g4 ?_
      simp
      try rw [List.take_of_length_le (by simp)]
      repeat first|((first|refine qa tOk rfl ?_|refine qb tOk rfl ?_|refine qc ?_|refine qd ?_|refine qe ?_);simp)|refine AWP_block ?_|refine AWP_seq ?_
      rw [hr]
      exact ⟨rfl, get_set g5 g3 _, fr_kill g7 g6⟩
set_option maxHeartbeats 2000000 in
theorem fc_get_Start (F : DD Stt) (hsh : Shr F) (f : FuncId) (fs cs : List AV) (H : List AObj) (q : Nat) (d : Dc) (hd : H[q]? = some (dX d)) (hs : d.s.length ≤ 1000000000)
    (hone : ∀ (H' : List AObj) (d' : Dc), H'[q]? = some (dX d') → d'.s.length ≤ 1000000000 → Fr H H' q none none → FC Tryz.prog f (fs ++ [] ++ cs) H' (DP H' q (avStt (F d').1) (F d').2)) :
    FC Tryz.prog 257 [.vptr q 0, .fn (.func f) fs cs] H (DP H q (.list ((pL F d).1.map avStt)) (pL F d).2) := by
  refine FC_body tOk Tryz.func257 rfl Tryz.results257 rfl (by simp [Tryz.ntmps257]) ?_
  rw [Tryz.ntmps257]
  simp only [argSlots]
  obtain ⟨R, hR⟩ : ∃ R, pL F d = R := ⟨_, rfl⟩
  rw [hR]
  rw [pL, bd] at hR
  repeat first|((first|refine qa tOk rfl ?_|refine qb tOk rfl ?_|refine qc ?_|refine qd ?_|refine qe ?_);simp)|refine AWP_block ?_|refine AWP_seq ?_
  refine AStep_FC rfl rfl (fc_dint H q d hd hs) rfl ?_
  rintro _ G ⟨rfl, k1, f1⟩
  have hs1 := shr_pI d
  generalize (pI d).1 = n at *
  generalize (pI d).2 = d1 at *
  simp
  repeat first|((first|refine qa tOk rfl ?_|refine qb tOk rfl ?_|refine qc ?_|refine qd ?_|refine qe ?_);simp)|refine AWP_block ?_|refine AWP_seq ?_
  by_cases hbad : n < 0 ∨ 4096 < n
  · refine AWP_cond2 rfl (fun h => ?_) (fun h => by exfalso; rw [Bool.eq_false_iff] at h; apply h; simpa only [Bool.or_eq_true, decide_eq_true_eq] using hbad)
    rw [if_pos hbad, loopD_bad F _ (fail_ne (by decide))] at hR
    repeat first|((first|refine qa tOk rfl ?_|refine qb tOk rfl ?_|refine qc ?_|refine qd ?_|refine qe ?_);simp)|refine AWP_block ?_|refine AWP_seq ?_
    refine AStep_FC rfl rfl (fc_dfail G q d1 5 k1) rfl ?_
    rintro _ _ ⟨rfl, rfl⟩
    have hne : (d1.fail 5).e ≠ 0 := fail_ne (by decide)
    have k2 := get_self k1 (dX (d1.fail 5))
    have f2 := f1.trans (Fr.set G q none (dX (d1.fail 5)))
    generalize G.set q (dX (d1.fail 5)) = G2 at *
    generalize d1.fail 5 = d2 at *
    rw [dX] at k2
    have hb : (d2.e == 0) = false := by simpa using hne
    simp
    repeat first|((first|refine qa tOk rfl ?_|refine qb tOk rfl ?_|refine qc ?_|refine qd ?_|refine qe ?_);simp)|refine AWP_block ?_|refine AWP_seq ?_
    refine AWP_loop (ALoop_round ?_)
    repeat first|((first|refine qa tOk rfl ?_|refine qb tOk rfl ?_|refine qc ?_|refine qd ?_|refine qe ?_);simp [k2, hb])|refine AWP_block ?_|refine AWP_seq ?_
    refine AWP_cond2 rfl (fun h => by simp at h) (fun _ => ?_)
    refine AWP_nilList 6 rfl ?_
    simp
    repeat first|((first|refine qa tOk rfl ?_|refine qb tOk rfl ?_|refine qc ?_|refine qd ?_|refine qe ?_);simp)|refine AWP_block ?_|refine AWP_seq ?_
    rw [← hR]
    exact ⟨rfl, k2, f2⟩
  · refine AWP_cond2 rfl (fun h => by exfalso; apply hbad; simpa only [Bool.or_eq_true, decide_eq_true_eq] using h) (fun _ => ?_)
    rw [if_neg hbad] at hR
    obtain ⟨N, rfl⟩ : ∃ N : Nat, n = N := ⟨n.toNat, by omega⟩
    have hN : N ≤ 4096 := by omega
    simp only [Int.toNat_natCast] at hR
    repeat first|((first|refine qa tOk rfl ?_|refine qb tOk rfl ?_|refine qc ?_|refine qd ?_|refine qe ?_);simp)|refine AWP_block ?_|refine AWP_seq ?_
    refine AWP_nilSlot 6 245 2 rfl ?_
    simp
    refine AWP_loop (ALoop_keep (sl' := [(0, .vptr q 0), (1, .fn (.func f) fs cs), (5, .i N), (6, .sl G.length 2 0 0), (7, .i 0)]) ?_ (by simp))
    refine ALoop_wf (P := Tryz.prog) (F := fun (u : Nat × List Stt × Dc × Nat × List AObj) => ⟨[(0, .vptr q 0), (1, .fn (.func f) fs cs), (5, .i N), (6, .sl u.2.2.2.1 2 0 u.2.1.length), (7, .i u.1)], u.2.2.2.2⟩)
      (fun u => u.1 ≤ N ∧ u.2.1.length = u.1 ∧ u.2.2.2.2[q]? = some (dX u.2.2.1) ∧ u.2.2.2.2[u.2.2.2.1]? = some (.arr 245 2 (u.2.1.map avStt)) ∧ u.2.2.2.1 ≠ q ∧ H.length ≤ u.2.2.2.1 ∧ Fr H u.2.2.2.2 q none none ∧ u.2.2.1.s.length ≤ 1000000000 ∧ R = (u.2.1 ++ (loopD F (N - u.1) u.2.2.1).1, (loopD F (N - u.1) u.2.2.1).2)) (fun u => N - u.1) ?_
      (0, [], d1, G.length, G ++ [.arr 245 2 []]) ⟨Nat.zero_le _, rfl, get_app k1 _, by simp, by have := (List.getElem?_eq_some_iff.1 k1).1; simp only; omega, f1.1, fr_push f1 _, by simp only; omega, by simpa using hR.symm⟩
    rintro ⟨j, xs, dj, p, G1⟩ ⟨g1, g2, g3, g4, g5, g6, g7, g8, g9⟩ ih
    simp only at g1 g2 g3 g4 g5 g6 g7 g8 g9 ih ⊢
    have g3' : G1[q]? = some (.vars [.str dj.s, .i dj.e]) := g3
    repeat first|((first|refine qa tOk rfl ?_|refine qb tOk rfl ?_|refine qc ?_|refine qd ?_|refine qe ?_);simp [g3'])|refine AWP_block ?_|refine AWP_seq ?_
    refine AWP_cond2 rfl (fun h => ?_) (fun h => ?_)
    · have hje : j < N ∧ dj.e = 0 := by simpa only [Bool.and_eq_true, decide_eq_true_eq, beq_iff_eq] using h
      obtain ⟨hj, he⟩ := hje
      have hw1 : IntKind.i64.wrap ((j : Int) + 1) = j + 1 := wrap_i64 _ (by omega) (by omega)
      have hs2 := hsh dj
      have g9' := loopD_step F g9 hj he
      repeat first|((first|refine qa tOk rfl ?_|refine qb tOk rfl ?_|refine qc ?_|refine qd ?_|refine qe ?_);simp)|refine AWP_block ?_|refine AWP_seq ?_
      refine AStep_FC rfl rfl (hone G1 dj g3 g8 g7) rfl ?_
      rintro _ G2 ⟨rfl, m1, m2⟩
      have m4 := m2.kd g4 g5
      have b6 : ∀ A : AObj, (G2 ++ [A])[p]? = some (.arr 245 2 (xs.map avStt)) := fun A => get_app m4 _
      generalize (F dj).1 = x at *
      generalize (F dj).2 = d3 at *
      have hx : xs.length ≤ 4096 := by omega
      simp
      repeat first|((first|refine qa tOk rfl ?_|refine qb tOk rfl ?_|refine qc ?_|refine qd ?_|refine qe ?_);simp)|refine AWP_block ?_|refine AWP_seq ?_
      refine AStep_appendS tOk rfl rfl T146 rfl T245 rfl (by decide) (by decide) rfl rfl rfl ?_
      simp [b6, hx]
      refine ⟨by simp [appOk, b6, hx] <;> omega, ?_⟩
      repeat first|((first|refine qa tOk rfl ?_|refine qb tOk rfl ?_|refine qc ?_|refine qd ?_|refine qe ?_);simp [hw1])|refine AWP_block ?_|refine AWP_seq ?_
      have key := ih (j + 1, xs ++ [x], d3, G2.length + 1, (G2 ++ [AObj.arr 245 2 [avStt x]]).set p .dead ++ [AObj.arr 245 2 ((xs ++ [x]).map avStt)])
        ⟨by simp only; omega, by simp [g2], get_app (get_set g5 (get_app m1 _) _) _, get_new .., by have := (List.getElem?_eq_some_iff.1 m1).1; simp only; omega, by have := g7.1; have := m2.1; simp only; omega, fr_put (g7.trans m2) g6 _ _, by simp only; omega, g9'⟩ (by simp only; omega)
      simp at key
      exact ALoop_keep key (by simp)
    · have hje : j = N ∨ dj.e ≠ 0 := by
        rw [Bool.eq_false_iff] at h
        simp only [ne_eq, Bool.and_eq_true, decide_eq_true_eq, beq_iff_eq] at h
        omega
      have hr := loopD_end F g9 hje
      refine AWP_freeze1 p g4 ?_
      simp
      try rw [List.take_of_length_le (by simp)]
      repeat first|((first|refine qa tOk rfl ?_|refine qb tOk rfl ?_|refine qc ?_|refine qd ?_|refine qe ?_);simp)|refine AWP_block ?_|refine AWP_seq ?_
      rw [hr]
      exact ⟨rfl, get_set g5 g3 _, fr_kill g7 g6⟩
set_option maxHeartbeats 2000000 in
theorem fc_get_Event (F : DD Ev) (hsh : Shr F) (f : FuncId) (fs cs : List AV) (H : List AObj) (q : Nat) (d : Dc) (hd : H[q]? = some (dX d)) (hs : d.s.length ≤ 1000000000)
    (hone : ∀ (H' : List AObj) (d' : Dc), H'[q]? = some (dX d') → d'.s.length ≤ 1000000000 → Fr H H' q none none → FC Tryz.prog f (fs ++ [] ++ cs) H' (DP H' q (encE (F d').1) (F d').2)) :
    FC Tryz.prog 236 [.vptr q 0, .fn (.func f) fs cs] H (DP H q (.list ((pL F d).1.map encE)) (pL F d).2) := by
  refine FC_body tOk Tryz.func236 rfl Tryz.results236 rfl (by simp [Tryz.ntmps236]) ?_
  rw [Tryz.ntmps236]
  simp only [argSlots]
  obtain ⟨R, hR⟩ : ∃ R, pL F d = R := ⟨_, rfl⟩
  rw [hR]
  rw [pL, bd] at hR
  repeat first|((first|refine qa tOk rfl ?_|refine qb tOk rfl ?_|refine qc ?_|refine qd ?_|refine qe ?_);simp)|refine AWP_block ?_|refine AWP_seq ?_
  refine AStep_FC rfl rfl (fc_dint H q d hd hs) rfl ?_
  rintro _ G ⟨rfl, k1, f1⟩
  have hs1 := shr_pI d
  generalize (pI d).1 = n at *
  generalize (pI d).2 = d1 at *
  simp
  repeat first|((first|refine qa tOk rfl ?_|refine qb tOk rfl ?_|refine qc ?_|refine qd ?_|refine qe ?_);simp)|refine AWP_block ?_|refine AWP_seq ?_
  by_cases hbad : n < 0 ∨ 4096 < n
  · refine AWP_cond2 rfl (fun h => ?_) (fun h => by exfalso; rw [Bool.eq_false_iff] at h; apply h; simpa only [Bool.or_eq_true, decide_eq_true_eq] using hbad)
    rw [if_pos hbad, loopD_bad F _ (fail_ne (by decide))] at hR
    repeat first|((first|refine qa tOk rfl ?_|refine qb tOk rfl ?_|refine qc ?_|refine qd ?_|refine qe ?_);simp)|refine AWP_block ?_|refine AWP_seq ?_
    refine AStep_FC rfl rfl (fc_dfail G q d1 5 k1) rfl ?_
    rintro _ _ ⟨rfl, rfl⟩
    have hne : (d1.fail 5).e ≠ 0 := fail_ne (by decide)
    have k2 := get_self k1 (dX (d1.fail 5))
    have f2 := f1.trans (Fr.set G q none (dX (d1.fail 5)))
    generalize G.set q (dX (d1.fail 5)) = G2 at *
    generalize d1.fail 5 = d2 at *
    rw [dX] at k2
    have hb : (d2.e == 0) = false := by simpa using hne
    simp
    repeat first|((first|refine qa tOk rfl ?_|refine qb tOk rfl ?_|refine qc ?_|refine qd ?_|refine qe ?_);simp)|refine AWP_block ?_|refine AWP_seq ?_
    refine AWP_loop (ALoop_round ?_)
    repeat first|((first|refine qa tOk rfl ?_|refine qb tOk rfl ?_|refine qc ?_|refine qd ?_|refine qe ?_);simp [k2, hb])|refine AWP_block ?_|refine AWP_seq ?_
    refine AWP_cond2 rfl (fun h => by simp at h) (fun _ => ?_)
    refine AWP_nilList 6 rfl ?_
    simp
    repeat first|((first|refine qa tOk rfl ?_|refine qb tOk rfl ?_|refine qc ?_|refine qd ?_|refine qe ?_);simp)|refine AWP_block ?_|refine AWP_seq ?_
    rw [← hR]
    exact ⟨rfl, k2, f2⟩
  · refine AWP_cond2 rfl (fun h => by exfalso; apply hbad; simpa only [Bool.or_eq_true, decide_eq_true_eq] using h) (fun _ => ?_)
    rw [if_neg hbad] at hR
    obtain ⟨N, rfl⟩ : ∃ N : Nat, n = N := ⟨n.toNat, by omega⟩
    have hN : N ≤ 4096 := by omega
    simp only [Int.toNat_natCast] at hR
    repeat first|((first|refine qa tOk rfl ?_|refine qb tOk rfl ?_|refine qc ?_|refine qd ?_|refine qe ?_);simp)|refine AWP_block ?_|refine AWP_seq ?_
    refine AWP_nilSlot 6 195 5 rfl ?_
    simp
    refine AWP_loop (ALoop_keep (sl' := [(0, .vptr q 0), (1, .fn (.func f) fs cs), (5, .i N), (6, .sl G.length 5 0 0), (7, .i 0)]) ?_ (by simp))
    refine ALoop_wf (P := Tryz.prog) (F := fun (u : Nat × List Ev × Dc × Nat × List AObj) => ⟨[(0, .vptr q 0), (1, .fn (.func f) fs cs), (5, .i N), (6, .sl u.2.2.2.1 5 0 u.2.1.length), (7, .i u.1)], u.2.2.2.2⟩)
      (fun u => u.1 ≤ N ∧ u.2.1.length = u.1 ∧ u.2.2.2.2[q]? = some (dX u.2.2.1) ∧ u.2.2.2.2[u.2.2.2.1]? = some (.arr 195 5 (u.2.1.map encE)) ∧ u.2.2.2.1 ≠ q ∧ H.length ≤ u.2.2.2.1 ∧ Fr H u.2.2.2.2 q none none ∧ u.2.2.1.s.length ≤ 1000000000 ∧ R = (u.2.1 ++ (loopD F (N - u.1) u.2.2.1).1, (loopD F (N - u.1) u.2.2.1).2)) (fun u => N - u.1) ?_
      (0, [], d1, G.length, G ++ [.arr 195 5 []]) ⟨Nat.zero_le _, rfl, get_app k1 _, by simp, by have := (List.getElem?_eq_some_iff.1 k1).1; simp only; omega, f1.1, fr_push f1 _, by simp only; omega, by simpa using hR.symm⟩
    rintro ⟨j, xs, dj, p, G1⟩ ⟨g1, g2, g3, g4, g5, g6, g7, g8, g9⟩ ih
    simp only at g1 g2 g3 g4 g5 g6 g7 g8 g9 ih ⊢
    have g3' : G1[q]? = some (.vars [.str dj.s, .i dj.e]) := g3
    repeat first|((first|refine qa tOk rfl ?_|refine qb tOk rfl ?_|refine qc ?_|refine qd ?_|refine qe ?_);simp [g3'])|refine AWP_block ?_|refine AWP_seq ?_
    refine AWP_cond2 rfl (fun h => ?_) (fun h => ?_)
    · have hje : j < N ∧ dj.e = 0 := by simpa only [Bool.and_eq_true, decide_eq_true_eq, beq_iff_eq] using h
      obtain ⟨hj, he⟩ := hje
      have hw1 : IntKind.i64.wrap ((j : Int) + 1) = j + 1 := wrap_i64 _ (by omega) (by omega)
      have hs2 := hsh dj
      have g9' := loopD_step F g9 hj he
      repeat first|((first|refine qa tOk rfl ?_|refine qb tOk rfl ?_|refine qc ?_|refine qd ?_|refine qe ?_);simp)|refine AWP_block ?_|refine AWP_seq ?_
      refine AStep_FC rfl rfl (hone G1 dj g3 g8 g7) rfl ?_
      rintro _ G2 ⟨rfl, m1, m2⟩
      have m4 := m2.kd g4 g5
      have b6 : ∀ A : AObj, (G2 ++ [A])[p]? = some (.arr 195 5 (xs.map encE)) := fun A => get_app m4 _
      generalize (F dj).1 = x at *
      generalize (F dj).2 = d3 at *
      have hx : xs.length ≤ 4096 := by omega
      simp
      repeat first|((first|refine qa tOk rfl ?_|refine qb tOk rfl ?_|refine qc ?_|refine qd ?_|refine qe ?_);simp)|refine AWP_block ?_|refine AWP_seq ?_
      refine AStep_appendS tOk rfl rfl T95 rfl T195 rfl (by decide) (by decide) rfl rfl rfl ?_
      simp [b6, hx]
      refine ⟨by simp [appOk, b6, hx] <;> omega, ?_⟩
      repeat first|((first|refine qa tOk rfl ?_|refine qb tOk rfl ?_|refine qc ?_|refine qd ?_|refine qe ?_);simp [hw1])|refine AWP_block ?_|refine AWP_seq ?_
      have key := ih (j + 1, xs ++ [x], d3, G2.length + 1, (G2 ++ [AObj.arr 195 5 [encE x]]).set p .dead ++ [AObj.arr 195 5 ((xs ++ [x]).map encE)])
        ⟨by simp only; omega, by simp [g2], get_app (get_set g5 (get_app m1 _) _) _, get_new .., by have := (List.getElem?_eq_some_iff.1 m1).1; simp only; omega, by have := g7.1; have := m2.1; simp only; omega, fr_put (g7.trans m2) g6 _ _, by simp only; omega, g9'⟩ (by simp only; omega)
      simp at key
      exact ALoop_keep key (by simp)
    · have hje : j = N ∨ dj.e ≠ 0 := by
        rw [Bool.eq_false_iff] at h
        simp only [ne_eq, Bool.and_eq_true, decide_eq_true_eq, beq_iff_eq] at h
        omega
      have hr := loopD_end F g9 hje
      refine AWP_freeze1 p g4 ?_
      simp
      try rw [List.take_of_length_le (by simp)]
      repeat first|((first|refine qa tOk rfl ?_|refine qb tOk rfl ?_|refine qc ?_|refine qd ?_|refine qe ?_);simp)|refine AWP_block ?_|refine AWP_seq ?_
      rw [hr]
      exact ⟨rfl, get_set g5 g3 _, fr_kill g7 g6⟩
set_option maxHeartbeats 2000000 in
theorem fc_get_Config (F : DD Cfg) (hsh : Shr F) (f : FuncId) (fs cs : List AV) (H : List AObj) (q : Nat) (d : Dc) (hd : H[q]? = some (dX d)) (hs : d.s.length ≤ 1000000000)
    (hone : ∀ (H' : List AObj) (d' : Dc), H'[q]? = some (dX d') → d'.s.length ≤ 1000000000 → Fr H H' q none none → FC Tryz.prog f (fs ++ [] ++ cs) H' (DP H' q (avCfg (F d').1) (F d').2)) :
    FC Tryz.prog 238 [.vptr q 0, .fn (.func f) fs cs] H (DP H q (.list ((pL F d).1.map avCfg)) (pL F d).2) := by
  refine FC_body tOk Tryz.func238 rfl Tryz.results238 rfl (by simp [Tryz.ntmps238]) ?_
  rw [Tryz.ntmps238]
  simp only [argSlots]
  obtain ⟨R, hR⟩ : ∃ R, pL F d = R := ⟨_, rfl⟩
  rw [hR]
  rw [pL, bd] at hR
  repeat first|((first|refine qa tOk rfl ?_|refine qb tOk rfl ?_|refine qc ?_|refine qd ?_|refine qe ?_);simp)|refine AWP_block ?_|refine AWP_seq ?_
  refine AStep_FC rfl rfl (fc_dint H q d hd hs) rfl ?_
  rintro _ G ⟨rfl, k1, f1⟩
  have hs1 := shr_pI d
  generalize (pI d).1 = n at *
  generalize (pI d).2 = d1 at *
  simp
  repeat first|((first|refine qa tOk rfl ?_|refine qb tOk rfl ?_|refine qc ?_|refine qd ?_|refine qe ?_);simp)|refine AWP_block ?_|refine AWP_seq ?_
  by_cases hbad : n < 0 ∨ 4096 < n
  · refine AWP_cond2 rfl (fun h => ?_) (fun h => by exfalso; rw [Bool.eq_false_iff] at h; apply h; simpa only [Bool.or_eq_true, decide_eq_true_eq] using hbad)
    rw [if_pos hbad, loopD_bad F _ (fail_ne (by decide))] at hR
    repeat first|((first|refine qa tOk rfl ?_|refine qb tOk rfl ?_|refine qc ?_|refine qd ?_|refine qe ?_);simp)|refine AWP_block ?_|refine AWP_seq ?_
    refine AStep_FC rfl rfl (fc_dfail G q d1 5 k1) rfl ?_
    rintro _ _ ⟨rfl, rfl⟩
    have hne : (d1.fail 5).e ≠ 0 := fail_ne (by decide)
    have k2 := get_self k1 (dX (d1.fail 5))
    have f2 := f1.trans (Fr.set G q none (dX (d1.fail 5)))
    generalize G.set q (dX (d1.fail 5)) = G2 at *
    generalize d1.fail 5 = d2 at *
    rw [dX] at k2
    have hb : (d2.e == 0) = false := by simpa using hne
    simp
    repeat first|((first|refine qa tOk rfl ?_|refine qb tOk rfl ?_|refine qc ?_|refine qd ?_|refine qe ?_);simp)|refine AWP_block ?_|refine AWP_seq ?_
    refine AWP_loop (ALoop_round ?_)
    repeat first|((first|refine qa tOk rfl ?_|refine qb tOk rfl ?_|refine qc ?_|refine qd ?_|refine qe ?_);simp [k2, hb])|refine AWP_block ?_|refine AWP_seq ?_
    refine AWP_cond2 rfl (fun h => by simp at h) (fun _ => ?_)
    refine AWP_nilList 6 rfl ?_
    simp
    repeat first|((first|refine qa tOk rfl ?_|refine qb tOk rfl ?_|refine qc ?_|refine qd ?_|refine qe ?_);simp)|refine AWP_block ?_|refine AWP_seq ?_
    rw [← hR]
    exact ⟨rfl, k2, f2⟩
  · refine AWP_cond2 rfl (fun h => by exfalso; apply hbad; simpa only [Bool.or_eq_true, decide_eq_true_eq] using h) (fun _ => ?_)
    rw [if_neg hbad] at hR
    obtain ⟨N, rfl⟩ : ∃ N : Nat, n = N := ⟨n.toNat, by omega⟩
    have hN : N ≤ 4096 := by omega
    simp only [Int.toNat_natCast] at hR
    repeat first|((first|refine qa tOk rfl ?_|refine qb tOk rfl ?_|refine qc ?_|refine qd ?_|refine qe ?_);simp)|refine AWP_block ?_|refine AWP_seq ?_
    refine AWP_nilSlot 6 148 3 rfl ?_
    simp
    refine AWP_loop (ALoop_keep (sl' := [(0, .vptr q 0), (1, .fn (.func f) fs cs), (5, .i N), (6, .sl G.length 3 0 0), (7, .i 0)]) ?_ (by simp))
    refine ALoop_wf (P := Tryz.prog) (F := fun (u : Nat × List Cfg × Dc × Nat × List AObj) => ⟨[(0, .vptr q 0), (1, .fn (.func f) fs cs), (5, .i N), (6, .sl u.2.2.2.1 3 0 u.2.1.length), (7, .i u.1)], u.2.2.2.2⟩)
      (fun u => u.1 ≤ N ∧ u.2.1.length = u.1 ∧ u.2.2.2.2[q]? = some (dX u.2.2.1) ∧ u.2.2.2.2[u.2.2.2.1]? = some (.arr 148 3 (u.2.1.map avCfg)) ∧ u.2.2.2.1 ≠ q ∧ H.length ≤ u.2.2.2.1 ∧ Fr H u.2.2.2.2 q none none ∧ u.2.2.1.s.length ≤ 1000000000 ∧ R = (u.2.1 ++ (loopD F (N - u.1) u.2.2.1).1, (loopD F (N - u.1) u.2.2.1).2)) (fun u => N - u.1) ?_
      (0, [], d1, G.length, G ++ [.arr 148 3 []]) ⟨Nat.zero_le _, rfl, get_app k1 _, by simp, by have := (List.getElem?_eq_some_iff.1 k1).1; simp only; omega, f1.1, fr_push f1 _, by simp only; omega, by simpa using hR.symm⟩
    rintro ⟨j, xs, dj, p, G1⟩ ⟨g1, g2, g3, g4, g5, g6, g7, g8, g9⟩ ih
    simp only at g1 g2 g3 g4 g5 g6 g7 g8 g9 ih ⊢
    have g3' : G1[q]? = some (.vars [.str dj.s, .i dj.e]) := g3
    repeat first|((first|refine qa tOk rfl ?_|refine qb tOk rfl ?_|refine qc ?_|refine qd ?_|refine qe ?_);simp [g3'])|refine AWP_block ?_|refine AWP_seq ?_
    refine AWP_cond2 rfl (fun h => ?_) (fun h => ?_)
    · have hje : j < N ∧ dj.e = 0 := by simpa only [Bool.and_eq_true, decide_eq_true_eq, beq_iff_eq] using h
      obtain ⟨hj, he⟩ := hje
      have hw1 : IntKind.i64.wrap ((j : Int) + 1) = j + 1 := wrap_i64 _ (by omega) (by omega)
      have hs2 := hsh dj
      have g9' := loopD_step F g9 hj he
      repeat first|((first|refine qa tOk rfl ?_|refine qb tOk rfl ?_|refine qc ?_|refine qd ?_|refine qe ?_);simp)|refine AWP_block ?_|refine AWP_seq ?_
      refine AStep_FC rfl rfl (hone G1 dj g3 g8 g7) rfl ?_
      rintro _ G2 ⟨rfl, m1, m2⟩
      have m4 := m2.kd g4 g5
      have b6 : ∀ A : AObj, (G2 ++ [A])[p]? = some (.arr 148 3 (xs.map avCfg)) := fun A => get_app m4 _
      generalize (F dj).1 = x at *
      generalize (F dj).2 = d3 at *
      have hx : xs.length ≤ 4096 := by omega
      simp
      repeat first|((first|refine qa tOk rfl ?_|refine qb tOk rfl ?_|refine qc ?_|refine qd ?_|refine qe ?_);simp)|refine AWP_block ?_|refine AWP_seq ?_
      refine AStep_appendS tOk rfl rfl T96 rfl T148 rfl (by decide) (by decide) rfl rfl rfl ?_
      simp [b6, hx]
      refine ⟨by simp [appOk, b6, hx] <;> omega, ?_⟩
      repeat first|((first|refine qa tOk rfl ?_|refine qb tOk rfl ?_|refine qc ?_|refine qd ?_|refine qe ?_);simp [hw1])|refine AWP_block ?_|refine AWP_seq ?_
      have key := ih (j + 1, xs ++ [x], d3, G2.length + 1, (G2 ++ [AObj.arr 148 3 [avCfg x]]).set p .dead ++ [AObj.arr 148 3 ((xs ++ [x]).map avCfg)])
        ⟨by simp only; omega, by simp [g2], get_app (get_set g5 (get_app m1 _) _) _, get_new .., by have := (List.getElem?_eq_some_iff.1 m1).1; simp only; omega, by have := g7.1; have := m2.1; simp only; omega, fr_put (g7.trans m2) g6 _ _, by simp only; omega, g9'⟩ (by simp only; omega)
      simp at key
      exact ALoop_keep key (by simp)
    · have hje : j = N ∨ dj.e ≠ 0 := by
        rw [Bool.eq_false_iff] at h
        simp only [ne_eq, Bool.and_eq_true, decide_eq_true_eq, beq_iff_eq] at h
        omega
      have hr := loopD_end F g9 hje
      refine AWP_freeze1 p g4 ?_
      simp
      try rw [List.take_of_length_le (by simp)]
      repeat first|((first|refine qa tOk rfl ?_|refine qb tOk rfl ?_|refine qc ?_|refine qd ?_|refine qe ?_);simp)|refine AWP_block ?_|refine AWP_seq ?_
      rw [hr]
      exact ⟨rfl, get_set g5 g3 _, fr_kill g7 g6⟩
set_option maxHeartbeats 2000000 in
theorem fc_get_int (F : DD Int) (hsh : Shr F) (f : FuncId) (fs cs : List AV) (H : List AObj) (q : Nat) (d : Dc) (hd : H[q]? = some (dX d)) (hs : d.s.length ≤ 1000000000)
    (hone : ∀ (H' : List AObj) (d' : Dc), H'[q]? = some (dX d') → d'.s.length ≤ 1000000000 → Fr H H' q none none → FC Tryz.prog f (fs ++ [] ++ cs) H' (DP H' q (encI (F d').1) (F d').2)) :
    FC Tryz.prog 165 [.vptr q 0, .fn (.func f) fs cs] H (DP H q (.list ((pL F d).1.map encI)) (pL F d).2) := by
  refine FC_body tOk Tryz.func165 rfl Tryz.results165 rfl (by simp [Tryz.ntmps165]) ?_
  rw [Tryz.ntmps165]
  simp only [argSlots]
  obtain ⟨R, hR⟩ : ∃ R, pL F d = R := ⟨_, rfl⟩
  rw [hR]
  rw [pL, bd] at hR
  repeat first|((first|refine qa tOk rfl ?_|refine qb tOk rfl ?_|refine qc ?_|refine qd ?_|refine qe ?_);simp)|refine AWP_block ?_|refine AWP_seq ?_
  refine AStep_FC rfl rfl (fc_dint H q d hd hs) rfl ?_
  rintro _ G ⟨rfl, k1, f1⟩
  have hs1 := shr_pI d
  generalize (pI d).1 = n at *
  generalize (pI d).2 = d1 at *
  simp
  repeat first|((first|refine qa tOk rfl ?_|refine qb tOk rfl ?_|refine qc ?_|refine qd ?_|refine qe ?_);simp)|refine AWP_block ?_|refine AWP_seq ?_
  by_cases hbad : n < 0 ∨ 4096 < n
  · refine AWP_cond2 rfl (fun h => ?_) (fun h => by exfalso; rw [Bool.eq_false_iff] at h; apply h; simpa only [Bool.or_eq_true, decide_eq_true_eq] using hbad)
    rw [if_pos hbad, loopD_bad F _ (fail_ne (by decide))] at hR
    repeat first|((first|refine qa tOk rfl ?_|refine qb tOk rfl ?_|refine qc ?_|refine qd ?_|refine qe ?_);simp)|refine AWP_block ?_|refine AWP_seq ?_
    refine AStep_FC rfl rfl (fc_dfail G q d1 5 k1) rfl ?_
    rintro _ _ ⟨rfl, rfl⟩
    have hne : (d1.fail 5).e ≠ 0 := fail_ne (by decide)
    have k2 := get_self k1 (dX (d1.fail 5))
    have f2 := f1.trans (Fr.set G q none (dX (d1.fail 5)))
    generalize G.set q (dX (d1.fail 5)) = G2 at *
    generalize d1.fail 5 = d2 at *
    rw [dX] at k2
    have hb : (d2.e == 0) = false := by simpa using hne
    simp
    repeat first|((first|refine qa tOk rfl ?_|refine qb tOk rfl ?_|refine qc ?_|refine qd ?_|refine qe ?_);simp)|refine AWP_block ?_|refine AWP_seq ?_
    refine AWP_loop (ALoop_round ?_)
    repeat first|((first|refine qa tOk rfl ?_|refine qb tOk rfl ?_|refine qc ?_|refine qd ?_|refine qe ?_);simp [k2, hb])|refine AWP_block ?_|refine AWP_seq ?_
    refine AWP_cond2 rfl (fun h => by simp at h) (fun _ => ?_)
    refine AWP_nilList 6 rfl ?_
    simp
    repeat first|((first|refine qa tOk rfl ?_|refine qb tOk rfl ?_|refine qc ?_|refine qd ?_|refine qe ?_);simp)|refine AWP_block ?_|refine AWP_seq ?_
    rw [← hR]
    exact ⟨rfl, k2, f2⟩
  · refine AWP_cond2 rfl (fun h => by exfalso; apply hbad; simpa only [Bool.or_eq_true, decide_eq_true_eq] using h) (fun _ => ?_)
    rw [if_neg hbad] at hR
    obtain ⟨N, rfl⟩ : ∃ N : Nat, n = N := ⟨n.toNat, by omega⟩
    have hN : N ≤ 4096 := by omega
    simp only [Int.toNat_natCast] at hR
    repeat first|((first|refine qa tOk rfl ?_|refine qb tOk rfl ?_|refine qc ?_|refine qd ?_|refine qe ?_);simp)|refine AWP_block ?_|refine AWP_seq ?_
    refine AWP_nilSlot 6 3 1 rfl ?_
    simp
    refine AWP_loop (ALoop_keep (sl' := [(0, .vptr q 0), (1, .fn (.func f) fs cs), (5, .i N), (6, .sl G.length 1 0 0), (7, .i 0)]) ?_ (by simp))
    refine ALoop_wf (P := Tryz.prog) (F := fun (u : Nat × List Int × Dc × Nat × List AObj) => ⟨[(0, .vptr q 0), (1, .fn (.func f) fs cs), (5, .i N), (6, .sl u.2.2.2.1 1 0 u.2.1.length), (7, .i u.1)], u.2.2.2.2⟩)
      (fun u => u.1 ≤ N ∧ u.2.1.length = u.1 ∧ u.2.2.2.2[q]? = some (dX u.2.2.1) ∧ u.2.2.2.2[u.2.2.2.1]? = some (.arr 3 1 (u.2.1.map encI)) ∧ u.2.2.2.1 ≠ q ∧ H.length ≤ u.2.2.2.1 ∧ Fr H u.2.2.2.2 q none none ∧ u.2.2.1.s.length ≤ 1000000000 ∧ R = (u.2.1 ++ (loopD F (N - u.1) u.2.2.1).1, (loopD F (N - u.1) u.2.2.1).2)) (fun u => N - u.1) ?_
      (0, [], d1, G.length, G ++ [.arr 3 1 []]) ⟨Nat.zero_le _, rfl, get_app k1 _, by simp, by have := (List.getElem?_eq_some_iff.1 k1).1; simp only; omega, f1.1, fr_push f1 _, by simp only; omega, by simpa using hR.symm⟩
    rintro ⟨j, xs, dj, p, G1⟩ ⟨g1, g2, g3, g4, g5, g6, g7, g8, g9⟩ ih
    simp only at g1 g2 g3 g4 g5 g6 g7 g8 g9 ih ⊢
    have g3' : G1[q]? = some (.vars [.str dj.s, .i dj.e]) := g3
    repeat first|((first|refine qa tOk rfl ?_|refine qb tOk rfl ?_|refine qc ?_|refine qd ?_|refine qe ?_);simp [g3'])|refine AWP_block ?_|refine AWP_seq ?_
    refine AWP_cond2 rfl (fun h => ?_) (fun h => ?_)
    · have hje : j < N ∧ dj.e = 0 := by simpa only [Bool.and_eq_true, decide_eq_true_eq, beq_iff_eq] using h
      obtain ⟨hj, he⟩ := hje
      have hw1 : IntKind.i64.wrap ((j : Int) + 1) = j + 1 := wrap_i64 _ (by omega) (by omega)
      have hs2 := hsh dj
      have g9' := loopD_step F g9 hj he
      repeat first|((first|refine qa tOk rfl ?_|refine qb tOk rfl ?_|refine qc ?_|refine qd ?_|refine qe ?_);simp)|refine AWP_block ?_|refine AWP_seq ?_
      refine AStep_FC rfl rfl (hone G1 dj g3 g8 g7) rfl ?_
      rintro _ G2 ⟨rfl, m1, m2⟩
      have m4 := m2.kd g4 g5
      have b6 : ∀ A : AObj, (G2 ++ [A])[p]? = some (.arr 3 1 (xs.map encI)) := fun A => get_app m4 _
      generalize (F dj).1 = x at *
      generalize (F dj).2 = d3 at *
      have hx : xs.length ≤ 4096 := by omega
      simp
      repeat first|((first|refine qa tOk rfl ?_|refine qb tOk rfl ?_|refine qc ?_|refine qd ?_|refine qe ?_);simp)|refine AWP_block ?_|refine AWP_seq ?_
      refine AStep_appendS tOk rfl rfl T27 rfl T3 rfl (by decide) (by decide) rfl rfl rfl ?_
      simp [b6, hx]
      refine ⟨by simp [appOk, b6, hx] <;> omega, ?_⟩
      repeat first|((first|refine qa tOk rfl ?_|refine qb tOk rfl ?_|refine qc ?_|refine qd ?_|refine qe ?_);simp [hw1])|refine AWP_block ?_|refine AWP_seq ?_
      have key := ih (j + 1, xs ++ [x], d3, G2.length + 1, (G2 ++ [AObj.arr 3 1 [encI x]]).set p .dead ++ [AObj.arr 3 1 ((xs ++ [x]).map encI)])
        ⟨by simp only; omega, by simp [g2], get_app (get_set g5 (get_app m1 _) _) _, get_new .., by have := (List.getElem?_eq_some_iff.1 m1).1; simp only; omega, by have := g7.1; have := m2.1; simp only; omega, fr_put (g7.trans m2) g6 _ _, by simp only; omega, g9'⟩ (by simp only; omega)
      simp at key
      exact ALoop_keep key (by simp)
    · have hje : j = N ∨ dj.e ≠ 0 := by
        rw [Bool.eq_false_iff] at h
        simp only [ne_eq, Bool.and_eq_true, decide_eq_true_eq, beq_iff_eq] at h
        omega
      have hr := loopD_end F g9 hje
      refine AWP_freeze1 p g4 ?_
      simp
      try rw [List.take_of_length_le (by simp)]
      repeat first|((first|refine qa tOk rfl ?_|refine qb tOk rfl ?_|refine qc ?_|refine qd ?_|refine qe ?_);simp)|refine AWP_block ?_|refine AWP_seq ?_
      rw [hr]
      exact ⟨rfl, get_set g5 g3 _, fr_kill g7 g6⟩
set_option maxHeartbeats 2000000 in
theorem fc_get_Point (F : DD Pnt) (hsh : Shr F) (f : FuncId) (fs cs : List AV) (H : List AObj) (q : Nat) (d : Dc) (hd : H[q]? = some (dX d)) (hs : d.s.length ≤ 1000000000)
    (hone : ∀ (H' : List AObj) (d' : Dc), H'[q]? = some (dX d') → d'.s.length ≤ 1000000000 → Fr H H' q none none → FC Tryz.prog f (fs ++ [] ++ cs) H' (DP H' q (avPnt (F d').1) (F d').2)) :
    FC Tryz.prog 166 [.vptr q 0, .fn (.func f) fs cs] H (DP H q (.list ((pL F d).1.map avPnt)) (pL F d).2) := by
  refine FC_body tOk Tryz.func166 rfl Tryz.results166 rfl (by simp [Tryz.ntmps166]) ?_
  rw [Tryz.ntmps166]
  simp only [argSlots]
  obtain ⟨R, hR⟩ : ∃ R, pL F d = R := ⟨_, rfl⟩
  rw [hR]
  rw [pL, bd] at hR
  repeat first|((first|refine qa tOk rfl ?_|refine qb tOk rfl ?_|refine qc ?_|refine qd ?_|refine qe ?_);simp)|refine AWP_block ?_|refine AWP_seq ?_
  refine AStep_FC rfl rfl (fc_dint H q d hd hs) rfl ?_
  rintro _ G ⟨rfl, k1, f1⟩
  have hs1 := shr_pI d
  generalize (pI d).1 = n at *
  generalize (pI d).2 = d1 at *
  simp
  repeat first|((first|refine qa tOk rfl ?_|refine qb tOk rfl ?_|refine qc ?_|refine qd ?_|refine qe ?_);simp)|refine AWP_block ?_|refine AWP_seq ?_
  by_cases hbad : n < 0 ∨ 4096 < n
  · refine AWP_cond2 rfl (fun h => ?_) (fun h => by exfalso; rw [Bool.eq_false_iff] at h; apply h; simpa only [Bool.or_eq_true, decide_eq_true_eq] using hbad)
    rw [if_pos hbad, loopD_bad F _ (fail_ne (by decide))] at hR
    repeat first|((first|refine qa tOk rfl ?_|refine qb tOk rfl ?_|refine qc ?_|refine qd ?_|refine qe ?_);simp)|refine AWP_block ?_|refine AWP_seq ?_
    refine AStep_FC rfl rfl (fc_dfail G q d1 5 k1) rfl ?_
    rintro _ _ ⟨rfl, rfl⟩
    have hne : (d1.fail 5).e ≠ 0 := fail_ne (by decide)
    have k2 := get_self k1 (dX (d1.fail 5))
    have f2 := f1.trans (Fr.set G q none (dX (d1.fail 5)))
    generalize G.set q (dX (d1.fail 5)) = G2 at *
    generalize d1.fail 5 = d2 at *
    rw [dX] at k2
    have hb : (d2.e == 0) = false := by simpa using hne
    simp
    repeat first|((first|refine qa tOk rfl ?_|refine qb tOk rfl ?_|refine qc ?_|refine qd ?_|refine qe ?_);simp)|refine AWP_block ?_|refine AWP_seq ?_
    refine AWP_loop (ALoop_round ?_)
    repeat first|((first|refine qa tOk rfl ?_|refine qb tOk rfl ?_|refine qc ?_|refine qd ?_|refine qe ?_);simp [k2, hb])|refine AWP_block ?_|refine AWP_seq ?_
    refine AWP_cond2 rfl (fun h => by simp at h) (fun _ => ?_)
    refine AWP_nilList 6 rfl ?_
    simp
    repeat first|((first|refine qa tOk rfl ?_|refine qb tOk rfl ?_|refine qc ?_|refine qd ?_|refine qe ?_);simp)|refine AWP_block ?_|refine AWP_seq ?_
    rw [← hR]
    exact ⟨rfl, k2, f2⟩
  · refine AWP_cond2 rfl (fun h => by exfalso; apply hbad; simpa only [Bool.or_eq_true, decide_eq_true_eq] using h) (fun _ => ?_)
    rw [if_neg hbad] at hR
    obtain ⟨N, rfl⟩ : ∃ N : Nat, n = N := ⟨n.toNat, by omega⟩
    have hN : N ≤ 4096 := by omega
    simp only [Int.toNat_natCast] at hR
    repeat first|((first|refine qa tOk rfl ?_|refine qb tOk rfl ?_|refine qc ?_|refine qd ?_|refine qe ?_);simp)|refine AWP_block ?_|refine AWP_seq ?_
    refine AWP_nilSlot 6 143 2 rfl ?_
    simp
    refine AWP_loop (ALoop_keep (sl' := [(0, .vptr q 0), (1, .fn (.func f) fs cs), (5, .i N), (6, .sl G.length 2 0 0), (7, .i 0)]) ?_ (by simp))
    refine ALoop_wf (P := Tryz.prog) (F := fun (u : Nat × List Pnt × Dc × Nat × List AObj) => ⟨[(0, .vptr q 0), (1, .fn (.func f) fs cs), (5, .i N), (6, .sl u.2.2.2.1 2 0 u.2.1.length), (7, .i u.1)], u.2.2.2.2⟩)
      (fun u => u.1 ≤ N ∧ u.2.1.length = u.1 ∧ u.2.2.2.2[q]? = some (dX u.2.2.1) ∧ u.2.2.2.2[u.2.2.2.1]? = some (.arr 143 2 (u.2.1.map avPnt)) ∧ u.2.2.2.1 ≠ q ∧ H.length ≤ u.2.2.2.1 ∧ Fr H u.2.2.2.2 q none none ∧ u.2.2.1.s.length ≤ 1000000000 ∧ R = (u.2.1 ++ (loopD F (N - u.1) u.2.2.1).1, (loopD F (N - u.1) u.2.2.1).2)) (fun u => N - u.1) ?_
      (0, [], d1, G.length, G ++ [.arr 143 2 []]) ⟨Nat.zero_le _, rfl, get_app k1 _, by simp, by have := (List.getElem?_eq_some_iff.1 k1).1; simp only; omega, f1.1, fr_push f1 _, by simp only; omega, by simpa using hR.symm⟩
    rintro ⟨j, xs, dj, p, G1⟩ ⟨g1, g2, g3, g4, g5, g6, g7, g8, g9⟩ ih
    simp only at g1 g2 g3 g4 g5 g6 g7 g8 g9 ih ⊢
    have g3' : G1[q]? = some (.vars [.str dj.s, .i dj.e]) := g3
    repeat first|((first|refine qa tOk rfl ?_|refine qb tOk rfl ?_|refine qc ?_|refine qd ?_|refine qe ?_);simp [g3'])|refine AWP_block ?_|refine AWP_seq ?_
    refine AWP_cond2 rfl (fun h => ?_) (fun h => ?_)
    · have hje : j < N ∧ dj.e = 0 := by simpa only [Bool.and_eq_true, decide_eq_true_eq, beq_iff_eq] using h
      obtain ⟨hj, he⟩ := hje
      have hw1 : IntKind.i64.wrap ((j : Int) + 1) = j + 1 := wrap_i64 _ (by omega) (by omega)
      have hs2 := hsh dj
      have g9' := loopD_step F g9 hj he
      repeat first|((first|refine qa tOk rfl ?_|refine qb tOk rfl ?_|refine qc ?_|refine qd ?_|refine qe ?_);simp)|refine AWP_block ?_|refine AWP_seq ?_
      refine AStep_FC rfl rfl (hone G1 dj g3 g8 g7) rfl ?_
      rintro _ G2 ⟨rfl, m1, m2⟩
      have m4 := m2.kd g4 g5
      have b6 : ∀ A : AObj, (G2 ++ [A])[p]? = some (.arr 143 2 (xs.map avPnt)) := fun A => get_app m4 _
      generalize (F dj).1 = x at *
      generalize (F dj).2 = d3 at *
      have hx : xs.length ≤ 4096 := by omega
      simp
      repeat first|((first|refine qa tOk rfl ?_|refine qb tOk rfl ?_|refine qc ?_|refine qd ?_|refine qe ?_);simp)|refine AWP_block ?_|refine AWP_seq ?_
      refine AStep_appendS tOk rfl rfl T84 rfl T143 rfl (by decide) (by decide) rfl rfl rfl ?_
      simp [b6, hx]
      refine ⟨by simp [appOk, b6, hx] <;> omega, ?_⟩
      repeat first|((first|refine qa tOk rfl ?_|refine qb tOk rfl ?_|refine qc ?_|refine qd ?_|refine qe ?_);simp [hw1])|refine AWP_block ?_|refine AWP_seq ?_
      have key := ih (j + 1, xs ++ [x], d3, G2.length + 1, (G2 ++ [AObj.arr 143 2 [avPnt x]]).set p .dead ++ [AObj.arr 143 2 ((xs ++ [x]).map avPnt)])
        ⟨by simp only; omega, by simp [g2], get_app (get_set g5 (get_app m1 _) _) _, get_new .., by have := (List.getElem?_eq_some_iff.1 m1).1; simp only; omega, by have := g7.1; have := m2.1; simp only; omega, fr_put (g7.trans m2) g6 _ _, by simp only; omega, g9'⟩ (by simp only; omega)
      simp at key
      exact ALoop_keep key (by simp)
    · have hje : j = N ∨ dj.e ≠ 0 := by
        rw [Bool.eq_false_iff] at h
        simp only [ne_eq, Bool.and_eq_true, decide_eq_true_eq, beq_iff_eq] at h
        omega
      have hr := loopD_end F g9 hje
      refine AWP_freeze1 p g4 ?_
      simp
      try rw [List.take_of_length_le (by simp)]
      repeat first|((first|refine qa tOk rfl ?_|refine qb tOk rfl ?_|refine qc ?_|refine qd ?_|refine qe ?_);simp)|refine AWP_block ?_|refine AWP_seq ?_
      rw [hr]
      exact ⟨rfl, get_set g5 g3 _, fr_kill g7 g6⟩
set_option maxHeartbeats 2000000 in
theorem fc_get_Reader (F : DD Rdr) (hsh : Shr F) (f : FuncId) (fs cs : List AV) (H : List AObj) (q : Nat) (d : Dc) (hd : H[q]? = some (dX d)) (hs : d.s.length ≤ 1000000000)
    (hone : ∀ (H' : List AObj) (d' : Dc), H'[q]? = some (dX d') → d'.s.length ≤ 1000000000 → Fr H H' q none none → FC Tryz.prog f (fs ++ [] ++ cs) H' (DP H' q (avRdr (F d').1) (F d').2)) :
    FC Tryz.prog 116 [.vptr q 0, .fn (.func f) fs cs] H (DP H q (.list ((pL F d).1.map avRdr)) (pL F d).2) := by
  refine FC_body tOk Tryz.func116 rfl Tryz.results116 rfl (by simp [Tryz.ntmps116]) ?_
  rw [Tryz.ntmps116]
  simp only [argSlots]
  obtain ⟨R, hR⟩ : ∃ R, pL F d = R := ⟨_, rfl⟩
  rw [hR]
  rw [pL, bd] at hR
  repeat first|((first|refine qa tOk rfl ?_|refine qb tOk rfl ?_|refine qc ?_|refine qd ?_|refine qe ?_);simp)|refine AWP_block ?_|refine AWP_seq ?_
  refine AStep_FC rfl rfl (fc_dint H q d hd hs) rfl ?_
  rintro _ G ⟨rfl, k1, f1⟩
  have hs1 := shr_pI d
  generalize (pI d).1 = n at *
  generalize (pI d).2 = d1 at *
  simp
  repeat first|((first|refine qa tOk rfl ?_|refine qb tOk rfl ?_|refine qc ?_|refine qd ?_|refine qe ?_);simp)|refine AWP_block ?_|refine AWP_seq ?_
  by_cases hbad : n < 0 ∨ 4096 < n
  · refine AWP_cond2 rfl (fun h => ?_) (fun h => by exfalso; rw [Bool.eq_false_iff] at h; apply h; simpa only [Bool.or_eq_true, decide_eq_true_eq] using hbad)
    rw [if_pos hbad, loopD_bad F _ (fail_ne (by decide))] at hR
    repeat first|((first|refine qa tOk rfl ?_|refine qb tOk rfl ?_|refine qc ?_|refine qd ?_|refine qe ?_);simp)|refine AWP_block ?_|refine AWP_seq ?_
    refine AStep_FC rfl rfl (fc_dfail G q d1 5 k1) rfl ?_
    rintro _ _ ⟨rfl, rfl⟩
    have hne : (d1.fail 5).e ≠ 0 := fail_ne (by decide)
    have k2 := get_self k1 (dX (d1.fail 5))
    have f2 := f1.trans (Fr.set G q none (dX (d1.fail 5)))
    generalize G.set q (dX (d1.fail 5)) = G2 at *
    generalize d1.fail 5 = d2 at *
    rw [dX] at k2
    have hb : (d2.e == 0) = false := by simpa using hne
    simp
    repeat first|((first|refine qa tOk rfl ?_|refine qb tOk rfl ?_|refine qc ?_|refine qd ?_|refine qe ?_);simp)|refine AWP_block ?_|refine AWP_seq ?_
    refine AWP_loop (ALoop_round ?_)
    repeat first|((first|refine qa tOk rfl ?_|refine qb tOk rfl ?_|refine qc ?_|refine qd ?_|refine qe ?_);simp [k2, hb])|refine AWP_block ?_|refine AWP_seq ?_
    refine AWP_cond2 rfl (fun h => by simp at h) (fun _ => ?_)
    refine AWP_nilList 6 rfl ?_
    simp
    repeat first|((first|refine qa tOk rfl ?_|refine qb tOk rfl ?_|refine qc ?_|refine qd ?_|refine qe ?_);simp)|refine AWP_block ?_|refine AWP_seq ?_
    rw [← hR]
    exact ⟨rfl, k2, f2⟩
  · refine AWP_cond2 rfl (fun h => by exfalso; apply hbad; simpa only [Bool.or_eq_true, decide_eq_true_eq] using h) (fun _ => ?_)
    rw [if_neg hbad] at hR
    obtain ⟨N, rfl⟩ : ∃ N : Nat, n = N := ⟨n.toNat, by omega⟩
    have hN : N ≤ 4096 := by omega
    simp only [Int.toNat_natCast] at hR
    repeat first|((first|refine qa tOk rfl ?_|refine qb tOk rfl ?_|refine qc ?_|refine qd ?_|refine qe ?_);simp)|refine AWP_block ?_|refine AWP_seq ?_
    refine AWP_nilSlot 6 88 6 rfl ?_
    simp
    refine AWP_loop (ALoop_keep (sl' := [(0, .vptr q 0), (1, .fn (.func f) fs cs), (5, .i N), (6, .sl G.length 6 0 0), (7, .i 0)]) ?_ (by simp))
    refine ALoop_wf (P := Tryz.prog) (F := fun (u : Nat × List Rdr × Dc × Nat × List AObj) => ⟨[(0, .vptr q 0), (1, .fn (.func f) fs cs), (5, .i N), (6, .sl u.2.2.2.1 6 0 u.2.1.length), (7, .i u.1)], u.2.2.2.2⟩)
      (fun u => u.1 ≤ N ∧ u.2.1.length = u.1 ∧ u.2.2.2.2[q]? = some (dX u.2.2.1) ∧ u.2.2.2.2[u.2.2.2.1]? = some (.arr 88 6 (u.2.1.map avRdr)) ∧ u.2.2.2.1 ≠ q ∧ H.length ≤ u.2.2.2.1 ∧ Fr H u.2.2.2.2 q none none ∧ u.2.2.1.s.length ≤ 1000000000 ∧ R = (u.2.1 ++ (loopD F (N - u.1) u.2.2.1).1, (loopD F (N - u.1) u.2.2.1).2)) (fun u => N - u.1) ?_
      (0, [], d1, G.length, G ++ [.arr 88 6 []]) ⟨Nat.zero_le _, rfl, get_app k1 _, by simp, by have := (List.getElem?_eq_some_iff.1 k1).1; simp only; omega, f1.1, fr_push f1 _, by simp only; omega, by simpa using hR.symm⟩
    rintro ⟨j, xs, dj, p, G1⟩ ⟨g1, g2, g3, g4, g5, g6, g7, g8, g9⟩ ih
    simp only at g1 g2 g3 g4 g5 g6 g7 g8 g9 ih ⊢
    have g3' : G1[q]? = some (.vars [.str dj.s, .i dj.e]) := g3
    repeat first|((first|refine qa tOk rfl ?_|refine qb tOk rfl ?_|refine qc ?_|refine qd ?_|refine qe ?_);simp [g3'])|refine AWP_block ?_|refine AWP_seq ?_
    refine AWP_cond2 rfl (fun h => ?_) (fun h => ?_)
    · have hje : j < N ∧ dj.e = 0 := by simpa only [Bool.and_eq_true, decide_eq_true_eq, beq_iff_eq] using h
      obtain ⟨hj, he⟩ := hje
      have hw1 : IntKind.i64.wrap ((j : Int) + 1) = j + 1 := wrap_i64 _ (by omega) (by omega)
      have hs2 := hsh dj
      have g9' := loopD_step F g9 hj he
      repeat first|((first|refine qa tOk rfl ?_|refine qb tOk rfl ?_|refine qc ?_|refine qd ?_|refine qe ?_);simp)|refine AWP_block ?_|refine AWP_seq ?_
      refine AStep_FC rfl rfl (hone G1 dj g3 g8 g7) rfl ?_
      rintro _ G2 ⟨rfl, m1, m2⟩
      have m4 := m2.kd g4 g5
      have b6 : ∀ A : AObj, (G2 ++ [A])[p]? = some (.arr 88 6 (xs.map avRdr)) := fun A => get_app m4 _
      generalize (F dj).1 = x at *
      generalize (F dj).2 = d3 at *
      have hx : xs.length ≤ 4096 := by omega
      simp
      repeat first|((first|refine qa tOk rfl ?_|refine qb tOk rfl ?_|refine qc ?_|refine qd ?_|refine qe ?_);simp)|refine AWP_block ?_|refine AWP_seq ?_
      refine AStep_appendS tOk rfl rfl T33 rfl T88 rfl (by decide) (by decide) rfl rfl rfl ?_
      simp [b6, hx]
      refine ⟨by simp [appOk, b6, hx] <;> omega, ?_⟩
      repeat first|((first|refine qa tOk rfl ?_|refine qb tOk rfl ?_|refine qc ?_|refine qd ?_|refine qe ?_);simp [hw1])|refine AWP_block ?_|refine AWP_seq ?_
      have key := ih (j + 1, xs ++ [x], d3, G2.length + 1, (G2 ++ [AObj.arr 88 6 [avRdr x]]).set p .dead ++ [AObj.arr 88 6 ((xs ++ [x]).map avRdr)])
        ⟨by simp only; omega, by simp [g2], get_app (get_set g5 (get_app m1 _) _) _, get_new .., by have := (List.getElem?_eq_some_iff.1 m1).1; simp only; omega, by have := g7.1; have := m2.1; simp only; omega, fr_put (g7.trans m2) g6 _ _, by simp only; omega, g9'⟩ (by simp only; omega)
      simp at key
      exact ALoop_keep key (by simp)
    · have hje : j = N ∨ dj.e ≠ 0 := by
        rw [Bool.eq_false_iff] at h
        simp only [ne_eq, Bool.and_eq_true, decide_eq_true_eq, beq_iff_eq] at h
        omega
      have hr := loopD_end F g9 hje
      refine AWP_freeze1 p g4 ?_
      simp
      try rw [List.take_of_length_le (by simp)]
      repeat first|((first|refine qa tOk rfl ?_|refine qb tOk rfl ?_|refine qc ?_|refine qd ?_|refine qe ?_);simp)|refine AWP_block ?_|refine AWP_seq ?_
      rw [hr]
      exact ⟨rfl, get_set g5 g3 _, fr_kill g7 g6⟩
set_option maxHeartbeats 2000000 in
theorem fc_get_Operator (F : DD Opr) (hsh : Shr F) (f : FuncId) (fs cs : List AV) (H : List AObj) (q : Nat) (d : Dc) (hd : H[q]? = some (dX d)) (hs : d.s.length ≤ 1000000000)
    (hone : ∀ (H' : List AObj) (d' : Dc), H'[q]? = some (dX d') → d'.s.length ≤ 1000000000 → Fr H H' q none none → FC Tryz.prog f (fs ++ [] ++ cs) H' (DP H' q (avOpr (F d').1) (F d').2)) :
    FC Tryz.prog 118 [.vptr q 0, .fn (.func f) fs cs] H (DP H q (.list ((pL F d).1.map avOpr)) (pL F d).2) := by
  refine FC_body tOk Tryz.func118 rfl Tryz.results118 rfl (by simp [Tryz.ntmps118]) ?_
  rw [Tryz.ntmps118]
  simp only [argSlots]
  obtain ⟨R, hR⟩ : ∃ R, pL F d = R := ⟨_, rfl⟩
  rw [hR]
  rw [pL, bd] at hR
  repeat first|((first|refine qa tOk rfl ?_|refine qb tOk rfl ?_|refine qc ?_|refine qd ?_|refine qe ?_);simp)|refine AWP_block ?_|refine AWP_seq ?_
  refine AStep_FC rfl rfl (fc_dint H q d hd hs) rfl ?_
  rintro _ G ⟨rfl, k1, f1⟩
  have hs1 := shr_pI d
  generalize (pI d).1 = n at *
  generalize (pI d).2 = d1 at *
  simp
  repeat first|((first|refine qa tOk rfl ?_|refine qb tOk rfl ?_|refine qc ?_|refine qd ?_|refine qe ?_);simp)|refine AWP_block ?_|refine AWP_seq ?_
  by_cases hbad : n < 0 ∨ 4096 < n
  · refine AWP_cond2 rfl (fun h => ?_) (fun h => by exfalso; rw [Bool.eq_false_iff] at h; apply h; simpa only [Bool.or_eq_true, decide_eq_true_eq] using hbad)
    rw [if_pos hbad, loopD_bad F _ (fail_ne (by decide))] at hR
    repeat first|((first|refine qa tOk rfl ?_|refine qb tOk rfl ?_|refine qc ?_|refine qd ?_|refine qe ?_);simp)|refine AWP_block ?_|refine AWP_seq ?_
    refine AStep_FC rfl rfl (fc_dfail G q d1 5 k1) rfl ?_
    rintro _ _ ⟨rfl, rfl⟩
    have hne : (d1.fail 5).e ≠ 0 := fail_ne (by decide)
    have k2 := get_self k1 (dX (d1.fail 5))
    have f2 := f1.trans (Fr.set G q none (dX (d1.fail 5)))
    generalize G.set q (dX (d1.fail 5)) = G2 at *
    generalize d1.fail 5 = d2 at *
    rw [dX] at k2
    have hb : (d2.e == 0) = false := by simpa using hne
    simp
    repeat first|((first|refine qa tOk rfl ?_|refine qb tOk rfl ?_|refine qc ?_|refine qd ?_|refine qe ?_);simp)|refine AWP_block ?_|refine AWP_seq ?_
    refine AWP_loop (ALoop_round ?_)
    repeat first|((first|refine qa tOk rfl ?_|refine qb tOk rfl ?_|refine qc ?_|refine qd ?_|refine qe ?_);simp [k2, hb])|refine AWP_block ?_|refine AWP_seq ?_
    refine AWP_cond2 rfl (fun h => by simp at h) (fun _ => ?_)
    refine AWP_nilList 6 rfl ?_
    simp
    repeat first|((first|refine qa tOk rfl ?_|refine qb tOk rfl ?_|refine qc ?_|refine qd ?_|refine qe ?_);simp)|refine AWP_block ?_|refine AWP_seq ?_
    rw [← hR]
    exact ⟨rfl, k2, f2⟩
  · refine AWP_cond2 rfl (fun h => by exfalso; apply hbad; simpa only [Bool.or_eq_true, decide_eq_true_eq] using h) (fun _ => ?_)
    rw [if_neg hbad] at hR
    obtain ⟨N, rfl⟩ : ∃ N : Nat, n = N := ⟨n.toNat, by omega⟩
    have hN : N ≤ 4096 := by omega
    simp only [Int.toNat_natCast] at hR
    repeat first|((first|refine qa tOk rfl ?_|refine qb tOk rfl ?_|refine qc ?_|refine qd ?_|refine qe ?_);simp)|refine AWP_block ?_|refine AWP_seq ?_
    refine AWP_nilSlot 6 92 2 rfl ?_
    simp
    refine AWP_loop (ALoop_keep (sl' := [(0, .vptr q 0), (1, .fn (.func f) fs cs), (5, .i N), (6, .sl G.length 2 0 0), (7, .i 0)]) ?_ (by simp))
    refine ALoop_wf (P := Tryz.prog) (F := fun (u : Nat × List Opr × Dc × Nat × List AObj) => ⟨[(0, .vptr q 0), (1, .fn (.func f) fs cs), (5, .i N), (6, .sl u.2.2.2.1 2 0 u.2.1.length), (7, .i u.1)], u.2.2.2.2⟩)
      (fun u => u.1 ≤ N ∧ u.2.1.length = u.1 ∧ u.2.2.2.2[q]? = some (dX u.2.2.1) ∧ u.2.2.2.2[u.2.2.2.1]? = some (.arr 92 2 (u.2.1.map avOpr)) ∧ u.2.2.2.1 ≠ q ∧ H.length ≤ u.2.2.2.1 ∧ Fr H u.2.2.2.2 q none none ∧ u.2.2.1.s.length ≤ 1000000000 ∧ R = (u.2.1 ++ (loopD F (N - u.1) u.2.2.1).1, (loopD F (N - u.1) u.2.2.1).2)) (fun u => N - u.1) ?_
      (0, [], d1, G.length, G ++ [.arr 92 2 []]) ⟨Nat.zero_le _, rfl, get_app k1 _, by simp, by have := (List.getElem?_eq_some_iff.1 k1).1; simp only; omega, f1.1, fr_push f1 _, by simp only; omega, by simpa using hR.symm⟩
    rintro ⟨j, xs, dj, p, G1⟩ ⟨g1, g2, g3, g4, g5, g6, g7, g8, g9⟩ ih
    simp only at g1 g2 g3 g4 g5 g6 g7 g8 g9 ih ⊢
    have g3' : G1[q]? = some (.vars [.str dj.s, .i dj.e]) := g3
    repeat first|((first|refine qa tOk rfl ?_|refine qb tOk rfl ?_|refine qc ?_|refine qd ?_|refine qe ?_);simp [g3'])|refine AWP_block ?_|refine AWP_seq ?_
    refine AWP_cond2 rfl (fun h => ?_) (fun h => ?_)
    · have hje : j < N ∧ dj.e = 0 := by simpa only [Bool.and_eq_true, decide_eq_true_eq, beq_iff_eq] using h
      obtain ⟨hj, he⟩ := hje
      have hw1 : IntKind.i64.wrap ((j : Int) + 1) = j + 1 := wrap_i64 _ (by omega) (by omega)
      have hs2 := hsh dj
      have g9' := loopD_step F g9 hj he
      repeat first|((first|refine qa tOk rfl ?_|refine qb tOk rfl ?_|refine qc ?_|refine qd ?_|refine qe ?_);simp)|refine AWP_block ?_|refine AWP_seq ?_
      refine AStep_FC rfl rfl (hone G1 dj g3 g8 g7) rfl ?_
      rintro _ G2 ⟨rfl, m1, m2⟩
      have m4 := m2.kd g4 g5
      have b6 : ∀ A : AObj, (G2 ++ [A])[p]? = some (.arr 92 2 (xs.map avOpr)) := fun A => get_app m4 _
      generalize (F dj).1 = x at *
      generalize (F dj).2 = d3 at *
      have hx : xs.length ≤ 4096 := by omega
      simp
      repeat first|((first|refine qa tOk rfl ?_|refine qb tOk rfl ?_|refine qc ?_|refine qd ?_|refine qe ?_);simp)|refine AWP_block ?_|refine AWP_seq ?_
      refine AStep_appendS tOk rfl rfl T34 rfl T92 rfl (by decide) (by decide) rfl rfl rfl ?_
      simp [b6, hx]
      refine ⟨by simp [appOk, b6, hx] <;> omega, ?_⟩
      repeat first|((first|refine qa tOk rfl ?_|refine qb tOk rfl ?_|refine qc ?_|refine qd ?_|refine qe ?_);simp [hw1])|refine AWP_block ?_|refine AWP_seq ?_
      have key := ih (j + 1, xs ++ [x], d3, G2.length + 1, (G2 ++ [AObj.arr 92 2 [avOpr x]]).set p .dead ++ [AObj.arr 92 2 ((xs ++ [x]).map avOpr)])
        ⟨by simp only; omega, by simp [g2], get_app (get_set g5 (get_app m1 _) _) _, get_new .., by have := (List.getElem?_eq_some_iff.1 m1).1; simp only; omega, by have := g7.1; have := m2.1; simp only; omega, fr_put (g7.trans m2) g6 _ _, by simp only; omega, g9'⟩ (by simp only; omega)
      simp at key
      exact ALoop_keep key (by simp)
    · have hje : j = N ∨ dj.e ≠ 0 := by
        rw [Bool.eq_false_iff] at h
        simp only [ne_eq, Bool.and_eq_true, decide_eq_true_eq, beq_iff_eq] at h
        omega
      have hr := loopD_end F g9 hje
      refine AWP_freeze1 p g4 ?_
      simp
      try rw [List.take_of_length_le (by simp)]
      repeat first|((first|refine qa tOk rfl ?_|refine qb tOk rfl ?_|refine qc ?_|refine qd ?_|refine qe ?_);simp)|refine AWP_block ?_|refine AWP_seq ?_
      rw [hr]
      exact ⟨rfl, get_set g5 g3 _, fr_kill g7 g6⟩
set_option maxHeartbeats 2000000 in
theorem fc_get_Keyed (F : DD Kyd) (hsh : Shr F) (f : FuncId) (fs cs : List AV) (H : List AObj) (q : Nat) (d : Dc) (hd : H[q]? = some (dX d)) (hs : d.s.length ≤ 1000000000)
    (hone : ∀ (H' : List AObj) (d' : Dc), H'[q]? = some (dX d') → d'.s.length ≤ 1000000000 → Fr H H' q none none → FC Tryz.prog f (fs ++ [] ++ cs) H' (DP H' q (avKyd (F d').1) (F d').2)) :
    FC Tryz.prog 168 [.vptr q 0, .fn (.func f) fs cs] H (DP H q (.list ((pL F d).1.map avKyd)) (pL F d).2) := by
  refine FC_body tOk Tryz.func168 rfl Tryz.results168 rfl (by simp [Tryz.ntmps168]) ?_
  rw [Tryz.ntmps168]
  simp only [argSlots]
  obtain ⟨R, hR⟩ : ∃ R, pL F d = R := ⟨_, rfl⟩
  rw [hR]
  rw [pL, bd] at hR
  repeat first|((first|refine qa tOk rfl ?_|refine qb tOk rfl ?_|refine qc ?_|refine qd ?_|refine qe ?_);simp)|refine AWP_block ?_|refine AWP_seq ?_
  refine AStep_FC rfl rfl (fc_dint H q d hd hs) rfl ?_
  rintro _ G ⟨rfl, k1, f1⟩
  have hs1 := shr_pI d
  generalize (pI d).1 = n at *
  generalize (pI d).2 = d1 at *
  simp
  repeat first|((first|refine qa tOk rfl ?_|refine qb tOk rfl ?_|refine qc ?_|refine qd ?_|refine qe ?_);simp)|refine AWP_block ?_|refine AWP_seq ?_
  by_cases hbad : n < 0 ∨ 4096 < n
  · refine AWP_cond2 rfl (fun h => ?_) (fun h => by exfalso; rw [Bool.eq_false_iff] at h; apply h; simpa only [Bool.or_eq_true, decide_eq_true_eq] using hbad)
    rw [if_pos hbad, loopD_bad F _ (fail_ne (by decide))] at hR
    repeat first|((first|refine qa tOk rfl ?_|refine qb tOk rfl ?_|refine qc ?_|refine qd ?_|refine qe ?_);simp)|refine AWP_block ?_|refine AWP_seq ?_
    refine AStep_FC rfl rfl (fc_dfail G q d1 5 k1) rfl ?_
    rintro _ _ ⟨rfl, rfl⟩
    have hne : (d1.fail 5).e ≠ 0 := fail_ne (by decide)
    have k2 := get_self k1 (dX (d1.fail 5))
    have f2 := f1.trans (Fr.set G q none (dX (d1.fail 5)))
    generalize G.set q (dX (d1.fail 5)) = G2 at *
    generalize d1.fail 5 = d2 at *
    rw [dX] at k2
    have hb : (d2.e == 0) = false := by simpa using hne
    simp
    repeat first|((first|refine qa tOk rfl ?_|refine qb tOk rfl ?_|refine qc ?_|refine qd ?_|refine qe ?_);simp)|refine AWP_block ?_|refine AWP_seq ?_
    refine AWP_loop (ALoop_round ?_)
    repeat first|((first|refine qa tOk rfl ?_|refine qb tOk rfl ?_|refine qc ?_|refine qd ?_|refine qe ?_);simp [k2, hb])|refine AWP_block ?_|refine AWP_seq ?_
    refine AWP_cond2 rfl (fun h => by simp at h) (fun _ => ?_)
    refine AWP_nilList 6 rfl ?_
    simp
    repeat first|((first|refine qa tOk rfl ?_|refine qb tOk rfl ?_|refine qc ?_|refine qd ?_|refine qe ?_);simp)|refine AWP_block ?_|refine AWP_seq ?_
    rw [← hR]
    exact ⟨rfl, k2, f2⟩
  · refine AWP_cond2 rfl (fun h => by exfalso; apply hbad; simpa only [Bool.or_eq_true, decide_eq_true_eq] using h) (fun _ => ?_)
    rw [if_neg hbad] at hR
    obtain ⟨N, rfl⟩ : ∃ N : Nat, n = N := ⟨n.toNat, by omega⟩
    have hN : N ≤ 4096 := by omega
    simp only [Int.toNat_natCast] at hR
    repeat first|((first|refine qa tOk rfl ?_|refine qb tOk rfl ?_|refine qc ?_|refine qd ?_|refine qe ?_);simp)|refine AWP_block ?_|refine AWP_seq ?_
    refine AWP_nilSlot 6 100 8 rfl ?_
    simp
    refine AWP_loop (ALoop_keep (sl' := [(0, .vptr q 0), (1, .fn (.func f) fs cs), (5, .i N), (6, .sl G.length 8 0 0), (7, .i 0)]) ?_ (by simp))
    refine ALoop_wf (P := Tryz.prog) (F := fun (u : Nat × List Kyd × Dc × Nat × List AObj) => ⟨[(0, .vptr q 0), (1, .fn (.func f) fs cs), (5, .i N), (6, .sl u.2.2.2.1 8 0 u.2.1.length), (7, .i u.1)], u.2.2.2.2⟩)
      (fun u => u.1 ≤ N ∧ u.2.1.length = u.1 ∧ u.2.2.2.2[q]? = some (dX u.2.2.1) ∧ u.2.2.2.2[u.2.2.2.1]? = some (.arr 100 8 (u.2.1.map avKyd)) ∧ u.2.2.2.1 ≠ q ∧ H.length ≤ u.2.2.2.1 ∧ Fr H u.2.2.2.2 q none none ∧ u.2.2.1.s.length ≤ 1000000000 ∧ R = (u.2.1 ++ (loopD F (N - u.1) u.2.2.1).1, (loopD F (N - u.1) u.2.2.1).2)) (fun u => N - u.1) ?_
      (0, [], d1, G.length, G ++ [.arr 100 8 []]) ⟨Nat.zero_le _, rfl, get_app k1 _, by simp, by have := (List.getElem?_eq_some_iff.1 k1).1; simp only; omega, f1.1, fr_push f1 _, by simp only; omega, by simpa using hR.symm⟩
    rintro ⟨j, xs, dj, p, G1⟩ ⟨g1, g2, g3, g4, g5, g6, g7, g8, g9⟩ ih
    simp only at g1 g2 g3 g4 g5 g6 g7 g8 g9 ih ⊢
    have g3' : G1[q]? = some (.vars [.str dj.s, .i dj.e]) := g3
    repeat first|((first|refine qa tOk rfl ?_|refine qb tOk rfl ?_|refine qc ?_|refine qd ?_|refine qe ?_);simp [g3'])|refine AWP_block ?_|refine AWP_seq ?_
    refine AWP_cond2 rfl (fun h => ?_) (fun h => ?_)
    · have hje : j < N ∧ dj.e = 0 := by simpa only [Bool.and_eq_true, decide_eq_true_eq, beq_iff_eq] using h
      obtain ⟨hj, he⟩ := hje
      have hw1 : IntKind.i64.wrap ((j : Int) + 1) = j + 1 := wrap_i64 _ (by omega) (by omega)
      have hs2 := hsh dj
      have g9' := loopD_step F g9 hj he
      repeat first|((first|refine qa tOk rfl ?_|refine qb tOk rfl ?_|refine qc ?_|refine qd ?_|refine qe ?_);simp)|refine AWP_block ?_|refine AWP_seq ?_
      refine AStep_FC rfl rfl (hone G1 dj g3 g8 g7) rfl ?_
      rintro _ G2 ⟨rfl, m1, m2⟩
      have m4 := m2.kd g4 g5
      have b6 : ∀ A : AObj, (G2 ++ [A])[p]? = some (.arr 100 8 (xs.map avKyd)) := fun A => get_app m4 _
      generalize (F dj).1 = x at *
      generalize (F dj).2 = d3 at *
      have hx : xs.length ≤ 4096 := by omega
      simp
      repeat first|((first|refine qa tOk rfl ?_|refine qb tOk rfl ?_|refine qc ?_|refine qd ?_|refine qe ?_);simp)|refine AWP_block ?_|refine AWP_seq ?_
      refine AStep_appendS tOk rfl rfl T90 rfl T100 rfl (by decide) (by decide) rfl rfl rfl ?_
      simp [b6, hx]
      refine ⟨by simp [appOk, b6, hx] <;> omega, ?_⟩
      repeat first|((first|refine qa tOk rfl ?_|refine qb tOk rfl ?_|refine qc ?_|refine qd ?_|refine qe ?_);simp [hw1])|refine AWP_block ?_|refine AWP_seq ?_
      have key := ih (j + 1, xs ++ [x], d3, G2.length + 1, (G2 ++ [AObj.arr 100 8 [avKyd x]]).set p .dead ++ [AObj.arr 100 8 ((xs ++ [x]).map avKyd)])
        ⟨by simp only; omega, by simp [g2], get_app (get_set g5 (get_app m1 _) _) _, get_new .., by have := (List.getElem?_eq_some_iff.1 m1).1; simp only; omega, by have := g7.1; have := m2.1; simp only; omega, fr_put (g7.trans m2) g6 _ _, by simp only; omega, g9'⟩ (by simp only; omega)
      simp at key
      exact ALoop_keep key (by simp)
    · have hje : j = N ∨ dj.e ≠ 0 := by
        rw [Bool.eq_false_iff] at h
        simp only [ne_eq, Bool.and_eq_true, decide_eq_true_eq, beq_iff_eq] at h
        omega
      have hr := loopD_end F g9 hje
      refine AWP_freeze1 p g4 ?_
      simp
      try rw [List.take_of_length_le (by simp)]
      repeat first|((first|refine qa tOk rfl ?_|refine qb tOk rfl ?_|refine qc ?_|refine qd ?_|refine qe ?_);simp)|refine AWP_block ?_|refine AWP_seq ?_
      rw [hr]
      exact ⟨rfl, get_set g5 g3 _, fr_kill g7 g6⟩
end Go.Abs
set_option maxRecDepth 100000
namespace Go.Abs
open Go Go.Proofs
set_option linter.unusedSimpArgs false
theorem shr_text : Shr pText := shr_pI.bd fun n d => by
  simp only
  obtain ⟨d', hd'⟩ : ∃ d', (if n < 0 ∨ 64 < n then d.fail 13 else if (d.s.length : Int) < n then d.fail 26 else d) = d' := ⟨_, rfl⟩
  have hs : d'.s = d.s := by rw [← hd']; split; exact fail_s _ _; split; exact fail_s _ _; rfl
  rw [hd']
  split
  · rw [hs]; exact Nat.le_refl _
  · simp [hs]
theorem fin_s (v : Val) (d : Dc) : (finV v d).2.s = d.s := by unfold finV; simp only; split; exact fail_s _ _; rfl
theorem shr_fin (v : Val) : Shr (finV v) := fun d => by rw [fin_s]; exact Nat.le_refl _
theorem kchk_s (k : Int) (d : Dc) : (kchk k d).s = d.s := by unfold kchk; split; exact fail_s _ _; rfl
theorem shr_val2 (k : Int) : Shr (pVal2 k) := fun d => by
  unfold pVal2
  split
  · exact (shr_text.bd fun t => shr_fin _) d
  · exact (shr_pI.bd fun n => shr_fin _) d
theorem shr_val : Shr pVal := shr_pI.bd fun k d => by have := shr_val2 k (kchk k d); rwa [kchk_s] at this
set_option maxHeartbeats 2000000 in
theorem fc_dtext (H : List AObj) (q : Nat) (d : Dc) (hd : H[q]? = some (dX d)) (hs : d.s.length ≤ 1000000000) : FC Tryz.prog 234 [.vptr q 0] H (DP H q (.str (pText d).1) (pText d).2) := by
  refine FC_body tOk Tryz.func234 rfl Tryz.results234 rfl (by simp [Tryz.ntmps234]) ?_
  rw [Tryz.ntmps234]
  simp only [argSlots]
  obtain ⟨R, hR⟩ : ∃ R, pText d = R := ⟨_, rfl⟩
  rw [hR]
  rw [pText, bd] at hR
  repeat first|((first|refine qa tOk rfl ?_|refine qb tOk rfl ?_|refine qc ?_|refine qd ?_|refine qe ?_);simp)|refine AWP_block ?_|refine AWP_seq ?_
  refine AStep_FC rfl rfl (fc_dint H q d hd hs) rfl ?_
  rintro _ G ⟨rfl, k1, f1⟩
  have hs1 := shr_pI d
  generalize (pI d).1 = n at *
  generalize (pI d).2 = d1 at *
  simp only at hR
  simp
  repeat first|((first|refine qa tOk rfl ?_|refine qb tOk rfl ?_|refine qc ?_|refine qd ?_|refine qe ?_);simp)|refine AWP_block ?_|refine AWP_seq ?_
  by_cases hb : n < 0 ∨ 64 < n
  · rw [if_pos hb, if_pos (fail_ne (by decide))] at hR
    refine AWP_cond2 rfl (fun h => ?_) (fun h => by exfalso; rw [Bool.eq_false_iff] at h; apply h; simpa only [Bool.or_eq_true, decide_eq_true_eq] using hb)
    repeat first|((first|refine qa tOk rfl ?_|refine qb tOk rfl ?_|refine qc ?_|refine qd ?_|refine qe ?_);simp)|refine AWP_block ?_|refine AWP_seq ?_
    refine AStep_FC rfl rfl (fc_dfail G q d1 13 k1) rfl ?_
    rintro _ _ ⟨rfl, rfl⟩
    have hne : (d1.fail 13).e ≠ 0 := fail_ne (by decide)
    have k2 := get_self k1 (dX (d1.fail 13))
    have f2 := f1.trans (Fr.set G q none (dX (d1.fail 13)))
    generalize G.set q (dX (d1.fail 13)) = G2 at *
    generalize d1.fail 13 = d2 at *
    have k2' : G2[q]? = some (.vars [.str d2.s, .i d2.e]) := k2
    simp
    repeat first|((first|refine qa tOk rfl ?_|refine qb tOk rfl ?_|refine qc ?_|refine qd ?_|refine qe ?_);simp [k2'])|refine AWP_block ?_|refine AWP_seq ?_
    refine AWP_cond2 rfl (fun h => ?_) (fun h => by simp [hne] at h)
    repeat first|((first|refine qa tOk rfl ?_|refine qb tOk rfl ?_|refine qc ?_|refine qd ?_|refine qe ?_);simp)|refine AWP_block ?_|refine AWP_seq ?_
    rw [← hR]
    exact ⟨rfl, k2, f2⟩
  rw [if_neg hb] at hR
  refine AWP_cond2 rfl (fun h => by exfalso; apply hb; simpa only [Bool.or_eq_true, decide_eq_true_eq] using h) (fun h => ?_)
  have k1' : G[q]? = some (.vars [.str d1.s, .i d1.e]) := k1
  obtain ⟨N, rfl⟩ : ∃ N : Nat, n = N := ⟨n.toNat, by omega⟩
  repeat first|((first|refine qa tOk rfl ?_|refine qb tOk rfl ?_|refine qc ?_|refine qd ?_|refine qe ?_);simp [k1'])|refine AWP_block ?_|refine AWP_seq ?_
  by_cases hl : (d1.s.length : Int) < N
  · rw [if_pos hl, if_pos (fail_ne (by decide))] at hR
    refine AWP_cond2 rfl (fun h => ?_) (fun h => by simp at h; omega)
    repeat first|((first|refine qa tOk rfl ?_|refine qb tOk rfl ?_|refine qc ?_|refine qd ?_|refine qe ?_);simp)|refine AWP_block ?_|refine AWP_seq ?_
    refine AStep_FC rfl rfl (fc_dfail G q d1 26 k1) rfl ?_
    rintro _ _ ⟨rfl, rfl⟩
    have hne : (d1.fail 26).e ≠ 0 := fail_ne (by decide)
    have k2 := get_self k1 (dX (d1.fail 26))
    have f2 := f1.trans (Fr.set G q none (dX (d1.fail 26)))
    generalize G.set q (dX (d1.fail 26)) = G2 at *
    generalize d1.fail 26 = d2 at *
    have k2' : G2[q]? = some (.vars [.str d2.s, .i d2.e]) := k2
    simp
    repeat first|((first|refine qa tOk rfl ?_|refine qb tOk rfl ?_|refine qc ?_|refine qd ?_|refine qe ?_);simp [k2'])|refine AWP_block ?_|refine AWP_seq ?_
    refine AWP_cond2 rfl (fun h => ?_) (fun h => by simp [hne] at h)
    repeat first|((first|refine qa tOk rfl ?_|refine qb tOk rfl ?_|refine qc ?_|refine qd ?_|refine qe ?_);simp)|refine AWP_block ?_|refine AWP_seq ?_
    rw [← hR]
    exact ⟨rfl, k2, f2⟩
  · rw [if_neg hl] at hR
    refine AWP_cond2 rfl (fun h => by simp at h; omega) (fun h => ?_)
    repeat first|((first|refine qa tOk rfl ?_|refine qb tOk rfl ?_|refine qc ?_|refine qd ?_|refine qe ?_);simp [k1'])|refine AWP_block ?_|refine AWP_seq ?_
    refine AWP_cond2 rfl (fun h => ?_) (fun h => ?_)
    · rw [if_pos (by simpa using h)] at hR
      repeat first|((first|refine qa tOk rfl ?_|refine qb tOk rfl ?_|refine qc ?_|refine qd ?_|refine qe ?_);simp)|refine AWP_block ?_|refine AWP_seq ?_
      rw [← hR]
      exact ⟨rfl, k1, f1⟩
    · rw [if_neg (by simpa using h)] at hR
      have hNl : N ≤ d1.s.length := by omega
      have hNi : (N : Int) ≤ d1.s.length := by omega
      repeat first|((first|refine qa tOk rfl ?_|refine qb tOk rfl ?_|refine qc ?_|refine qd ?_|refine qe ?_);simp [k1', hNl, hNi])|refine AWP_block ?_|refine AWP_seq ?_
      rw [← hR]
      exact ⟨rfl, get_self k1 _, f1.trans (Fr.set G q none _)⟩
end Go.Abs
set_option maxRecDepth 100000
namespace Go.Abs
open Go Go.Proofs
set_option linter.unusedSimpArgs false
attribute [local irreducible] checkR
set_option maxHeartbeats 4000000 in
theorem fc_dvalue (H : List AObj) (q : Nat) (d : Dc) (hd : H[q]? = some (dX d)) (hs : d.s.length ≤ 1000000000) : FC Tryz.prog 209 [.vptr q 0] H (DP H q (encV (pVal d).1) (pVal d).2) := by
  refine FC_body tOk Tryz.func209 rfl Tryz.results209 rfl (by simp [Tryz.ntmps209]) ?_
  rw [Tryz.ntmps209]
  simp only [argSlots]
  obtain ⟨R, hR⟩ : ∃ R, pVal d = R := ⟨_, rfl⟩
  rw [hR]
  rw [pVal, bd] at hR
  have hql := (List.getElem?_eq_some_iff.1 hd).1
  have hrq : H.length ≠ q := by omega
  repeat first|((first|refine qa tOk rfl ?_|refine qb tOk rfl ?_|refine qc ?_|refine qd ?_|refine qe ?_);simp)|refine AWP_block ?_|refine AWP_seq ?_
  refine AStep_FC rfl rfl (fc_dint _ q d (get_app hd _) hs) rfl ?_
  rintro _ G ⟨rfl, k1, f1⟩
  have r1 := f1.kd (j := H.length) (x := .vars [.i 0, .i 0, .str []]) (by simp) hrq
  have hs1 := shr_pI d
  have hl1 := f1.1
  simp at hl1
  have f1' : Fr H G q none none := ⟨by omega, .inl rfl, fun j hj h1 h2 => by rw [f1.2.2 j (by simp; omega) h1 h2, List.getElem?_append_left hj]⟩
  generalize (pI d).1 = k at *
  generalize (pI d).2 = d1 at *
  simp
  repeat first|((first|refine qa tOk rfl ?_|refine qb tOk rfl ?_|refine qc ?_|refine qd ?_|refine qe ?_);simp)|refine AWP_block ?_|refine AWP_seq ?_
  obtain ⟨G1, hG1⟩ : ∃ G1, G ++ [AObj.vars [.i k, .i 0, .str []]] = G1 := ⟨_, rfl⟩
  obtain ⟨s, hsd⟩ : ∃ s, G.length = s := ⟨_, rfl⟩
  have ks : G1[q]? = some (dX d1) := by rw [← hG1]; exact get_app k1 _
  have ss : G1[s]? = some (.vars [.i k, .i 0, .str []]) := by rw [← hG1, ← hsd]; simp
  have rs : G1[H.length]? = some (.vars [.i 0, .i 0, .str []]) := by rw [← hG1]; exact get_app r1 _
  have fs : Fr H G1 q none none := by rw [← hG1]; exact fr_push f1' _
  have hsq : s ≠ q := by omega
  rw [hG1, hsd]
  clear hG1
  by_cases hb : k < 0 ∨ 2 < k
  · rw [kchk, if_pos hb] at hR
    refine AWP_cond2 rfl (fun h => ?_) (fun h => by exfalso; rw [Bool.eq_false_iff] at h; apply h; simpa only [Bool.or_eq_true, decide_eq_true_eq] using hb)
    repeat first|((first|refine qa tOk rfl ?_|refine qb tOk rfl ?_|refine qc ?_|refine qd ?_|refine qe ?_);simp)|refine AWP_block ?_|refine AWP_seq ?_
    refine AStep_FC rfl rfl (fc_dfail G1 q d1 1 ks) rfl ?_
    rintro _ _ ⟨rfl, rfl⟩
    have k2 := get_self ks (dX (d1.fail 1))
    have s2 := get_set (j := q) (fun h => hsq h.symm) ss (dX (d1.fail 1))
    have r2 := get_set (j := q) (fun h => hrq h.symm) rs (dX (d1.fail 1))
    have f2 := fs.trans (Fr.set G1 q none (dX (d1.fail 1)))
    have hs2 := fail_s d1 1
    generalize G1.set q (dX (d1.fail 1)) = G2 at *
    generalize d1.fail 1 = d2 at *
    have hs2' : d2.s.length = d1.s.length := by rw [hs2]
    have k2' : G2[q]? = some (.vars [.str d2.s, .i d2.e]) := k2
    simp
    by_cases h2 : d2.e = 0 ∧ k = 2
    · rw [pVal2, if_pos h2, bd] at hR
      obtain ⟨h2e, rfl⟩ := h2
      repeat first|((first|refine qa tOk rfl ?_|refine qb tOk rfl ?_|refine qc ?_|refine qd ?_|refine qe ?_);simp [k2', s2, h2e])|refine AWP_block ?_|refine AWP_seq ?_
      refine AWP_cond2 rfl (fun h => ?_) (fun h => by simp at h)
      repeat first|((first|refine qa tOk rfl ?_|refine qb tOk rfl ?_|refine qc ?_|refine qd ?_|refine qe ?_);simp)|refine AWP_block ?_|refine AWP_seq ?_
      refine AStep_FC rfl rfl (fc_dtext G2 q d2 k2 (by omega)) rfl ?_
      rintro _ G3 ⟨rfl, k3, f3⟩
      have s3 := f3.kd s2 hsq
      have r3 := f3.kd r2 hrq
      have f4 := f2.trans f3
      have hl3 := f4.1
      generalize (pText d2).1 = t at *
      generalize (pText d2).2 = d3 at *
      have k3' : G3[q]? = some (.vars [.str d3.s, .i d3.e]) := k3
      have gs : ∀ y, (G3.set s y)[s]? = some y := fun y => get_self s3 y
      have gr : ∀ y, (G3.set s y)[H.length]? = some (.vars [.i 0, .i 0, .str []]) := fun y => get_set (by omega) r3 y
      have gr2 : ∀ y z, ((G3.set s y).set H.length z)[H.length]? = some z := fun y z => get_self (gr y) z
      have gq : ∀ y, (G3.set s y)[q]? = some (.vars [.str d3.s, .i d3.e]) := fun y => get_set hsq k3' y
      simp [s3, gs, gr, gr2, gq]
      repeat first|((first|refine qa tOk rfl ?_|refine qb tOk rfl ?_|refine qc ?_|refine qd ?_|refine qe ?_);simp [s3, gs, gr, gr2, gq])|refine AWP_block ?_|refine AWP_seq ?_
      by_cases hz : d3.e = 0
      · refine AWP_cond2 rfl (fun h => ?_) (fun h => by simp [hz] at h)
        repeat first|((first|refine qa tOk rfl ?_|refine qb tOk rfl ?_|refine qc ?_|refine qd ?_|refine qe ?_);simp [gs])|refine AWP_block ?_|refine AWP_seq ?_
        refine AStep_PC rfl rfl (by simp) (pc_Check (⟨2, 0, t⟩)) rfl ?_
        rintro _ rfl
        simp
        repeat first|((first|refine qa tOk rfl ?_|refine qb tOk rfl ?_|refine qc ?_|refine qd ?_|refine qe ?_);simp)|refine AWP_block ?_|refine AWP_seq ?_
        refine AStep_FC rfl rfl (fc_dfail _ q d3 (checkR (⟨2, 0, t⟩)) (get_set hsq k3' _)) rfl ?_
        rintro _ _ ⟨rfl, rfl⟩
        have hss : ∀ y z, ((G3.set s y).set q z)[s]? = some y := fun y z => get_set (fun h => hsq h.symm) (gs y) z
        have hrr : ∀ y z, ((G3.set s y).set q z)[H.length]? = some (.vars [.i 0, .i 0, .str []]) := fun y z => get_set (fun h => hrq h.symm) (gr y) z
        have hrr2 : ∀ y z u, (((G3.set s y).set q z).set H.length u)[H.length]? = some u := fun y z u => get_self (hrr y z) u
        simp [hss, hrr, hrr2]
        repeat first|((first|refine qa tOk rfl ?_|refine qb tOk rfl ?_|refine qc ?_|refine qd ?_|refine qe ?_);simp [hss, hrr, hrr2])|refine AWP_block ?_|refine AWP_seq ?_
        rw [← hR, finV, if_pos hz]
        exact ⟨rfl, get_set hrq (get_self (get_set hsq k3' _) _) _, ⟨by simp; omega, .inl rfl, fun j hj h1 h2 => by rw [List.getElem?_set_ne (by omega), List.getElem?_set_ne (by omega), List.getElem?_set_ne (by omega)]; exact f4.2.2 j hj h1 h2⟩⟩
      · refine AWP_cond2 rfl (fun h => by simp [hz] at h) (fun h => ?_)
        repeat first|((first|refine qa tOk rfl ?_|refine qb tOk rfl ?_|refine qc ?_|refine qd ?_|refine qe ?_);simp [gs, gr, gr2])|refine AWP_block ?_|refine AWP_seq ?_
        rw [← hR, finV, if_neg hz]
        exact ⟨rfl, get_set hrq (get_set hsq k3' _) _, ⟨by simp; omega, .inl rfl, fun j hj h1 h2 => by rw [List.getElem?_set_ne (by omega), List.getElem?_set_ne (by omega)]; exact f4.2.2 j hj h1 h2⟩⟩
    · rw [pVal2, if_neg h2, bd] at hR
      have hc2 : (d2.e == 0 && k == 2) = false := by rw [Bool.eq_false_iff]; simpa only [ne_eq, Bool.and_eq_true, beq_iff_eq] using h2
      repeat first|((first|refine qa tOk rfl ?_|refine qb tOk rfl ?_|refine qc ?_|refine qd ?_|refine qe ?_);simp [k2', s2])|refine AWP_block ?_|refine AWP_seq ?_
      refine AWP_cond2 rfl (fun h => by exfalso; rw [← Bool.not_eq_true] at hc2; exact hc2 (by simpa using h)) (fun h => ?_)
      repeat first|((first|refine qa tOk rfl ?_|refine qb tOk rfl ?_|refine qc ?_|refine qd ?_|refine qe ?_);simp)|refine AWP_block ?_|refine AWP_seq ?_
      refine AStep_FC rfl rfl (fc_dint G2 q d2 k2 (by omega)) rfl ?_
      rintro _ G3 ⟨rfl, k3, f3⟩
      have s3 := f3.kd s2 hsq
      have r3 := f3.kd r2 hrq
      have f4 := f2.trans f3
      have hl3 := f4.1
      generalize (pI d2).1 = t at *
      generalize (pI d2).2 = d3 at *
      have k3' : G3[q]? = some (.vars [.str d3.s, .i d3.e]) := k3
      have gs : ∀ y, (G3.set s y)[s]? = some y := fun y => get_self s3 y
      have gr : ∀ y, (G3.set s y)[H.length]? = some (.vars [.i 0, .i 0, .str []]) := fun y => get_set (by omega) r3 y
      have gr2 : ∀ y z, ((G3.set s y).set H.length z)[H.length]? = some z := fun y z => get_self (gr y) z
      have gq : ∀ y, (G3.set s y)[q]? = some (.vars [.str d3.s, .i d3.e]) := fun y => get_set hsq k3' y
      simp [s3, gs, gr, gr2, gq]
      repeat first|((first|refine qa tOk rfl ?_|refine qb tOk rfl ?_|refine qc ?_|refine qd ?_|refine qe ?_);simp [s3, gs, gr, gr2, gq])|refine AWP_block ?_|refine AWP_seq ?_
      by_cases hz : d3.e = 0
      · refine AWP_cond2 rfl (fun h => ?_) (fun h => by simp [hz] at h)
        repeat first|((first|refine qa tOk rfl ?_|refine qb tOk rfl ?_|refine qc ?_|refine qd ?_|refine qe ?_);simp [gs])|refine AWP_block ?_|refine AWP_seq ?_
        refine AStep_PC rfl rfl (by simp) (pc_Check (⟨k, t, []⟩)) rfl ?_
        rintro _ rfl
        simp
        repeat first|((first|refine qa tOk rfl ?_|refine qb tOk rfl ?_|refine qc ?_|refine qd ?_|refine qe ?_);simp)|refine AWP_block ?_|refine AWP_seq ?_
        refine AStep_FC rfl rfl (fc_dfail _ q d3 (checkR (⟨k, t, []⟩)) (get_set hsq k3' _)) rfl ?_
        rintro _ _ ⟨rfl, rfl⟩
        have hss : ∀ y z, ((G3.set s y).set q z)[s]? = some y := fun y z => get_set (fun h => hsq h.symm) (gs y) z
        have hrr : ∀ y z, ((G3.set s y).set q z)[H.length]? = some (.vars [.i 0, .i 0, .str []]) := fun y z => get_set (fun h => hrq h.symm) (gr y) z
        have hrr2 : ∀ y z u, (((G3.set s y).set q z).set H.length u)[H.length]? = some u := fun y z u => get_self (hrr y z) u
        simp [hss, hrr, hrr2]
        repeat first|((first|refine qa tOk rfl ?_|refine qb tOk rfl ?_|refine qc ?_|refine qd ?_|refine qe ?_);simp [hss, hrr, hrr2])|refine AWP_block ?_|refine AWP_seq ?_
        rw [← hR, finV, if_pos hz]
        exact ⟨rfl, get_set hrq (get_self (get_set hsq k3' _) _) _, ⟨by simp; omega, .inl rfl, fun j hj h1 h2 => by rw [List.getElem?_set_ne (by omega), List.getElem?_set_ne (by omega), List.getElem?_set_ne (by omega)]; exact f4.2.2 j hj h1 h2⟩⟩
      · refine AWP_cond2 rfl (fun h => by simp [hz] at h) (fun h => ?_)
        repeat first|((first|refine qa tOk rfl ?_|refine qb tOk rfl ?_|refine qc ?_|refine qd ?_|refine qe ?_);simp [gs, gr, gr2])|refine AWP_block ?_|refine AWP_seq ?_
        rw [← hR, finV, if_neg hz]
        exact ⟨rfl, get_set hrq (get_set hsq k3' _) _, ⟨by simp; omega, .inl rfl, fun j hj h1 h2 => by rw [List.getElem?_set_ne (by omega), List.getElem?_set_ne (by omega)]; exact f4.2.2 j hj h1 h2⟩⟩
  · rw [kchk, if_neg hb] at hR
    refine AWP_cond2 rfl (fun h => by exfalso; apply hb; simpa only [Bool.or_eq_true, decide_eq_true_eq] using h) (fun h => ?_)
    have k2 := ks
    have s2 := ss
    have r2 := rs
    have f2 := fs
    generalize G1 = G2 at *
    generalize d1 = d2 at *
    have k2' : G2[q]? = some (.vars [.str d2.s, .i d2.e]) := k2
    by_cases h2 : d2.e = 0 ∧ k = 2
    · rw [pVal2, if_pos h2, bd] at hR
      obtain ⟨h2e, rfl⟩ := h2
      repeat first|((first|refine qa tOk rfl ?_|refine qb tOk rfl ?_|refine qc ?_|refine qd ?_|refine qe ?_);simp [k2', s2, h2e])|refine AWP_block ?_|refine AWP_seq ?_
      refine AWP_cond2 rfl (fun h => ?_) (fun h => by simp at h)
      repeat first|((first|refine qa tOk rfl ?_|refine qb tOk rfl ?_|refine qc ?_|refine qd ?_|refine qe ?_);simp)|refine AWP_block ?_|refine AWP_seq ?_
      refine AStep_FC rfl rfl (fc_dtext G2 q d2 k2 (by omega)) rfl ?_
      rintro _ G3 ⟨rfl, k3, f3⟩
      have s3 := f3.kd s2 hsq
      have r3 := f3.kd r2 hrq
      have f4 := f2.trans f3
      have hl3 := f4.1
      generalize (pText d2).1 = t at *
      generalize (pText d2).2 = d3 at *
      have k3' : G3[q]? = some (.vars [.str d3.s, .i d3.e]) := k3
      have gs : ∀ y, (G3.set s y)[s]? = some y := fun y => get_self s3 y
      have gr : ∀ y, (G3.set s y)[H.length]? = some (.vars [.i 0, .i 0, .str []]) := fun y => get_set (by omega) r3 y
      have gr2 : ∀ y z, ((G3.set s y).set H.length z)[H.length]? = some z := fun y z => get_self (gr y) z
      have gq : ∀ y, (G3.set s y)[q]? = some (.vars [.str d3.s, .i d3.e]) := fun y => get_set hsq k3' y
      simp [s3, gs, gr, gr2, gq]
      repeat first|((first|refine qa tOk rfl ?_|refine qb tOk rfl ?_|refine qc ?_|refine qd ?_|refine qe ?_);simp [s3, gs, gr, gr2, gq])|refine AWP_block ?_|refine AWP_seq ?_
      by_cases hz : d3.e = 0
      · refine AWP_cond2 rfl (fun h => ?_) (fun h => by simp [hz] at h)
        repeat first|((first|refine qa tOk rfl ?_|refine qb tOk rfl ?_|refine qc ?_|refine qd ?_|refine qe ?_);simp [gs])|refine AWP_block ?_|refine AWP_seq ?_
        refine AStep_PC rfl rfl (by simp) (pc_Check (⟨2, 0, t⟩)) rfl ?_
        rintro _ rfl
        simp
        repeat first|((first|refine qa tOk rfl ?_|refine qb tOk rfl ?_|refine qc ?_|refine qd ?_|refine qe ?_);simp)|refine AWP_block ?_|refine AWP_seq ?_
        refine AStep_FC rfl rfl (fc_dfail _ q d3 (checkR (⟨2, 0, t⟩)) (get_set hsq k3' _)) rfl ?_
        rintro _ _ ⟨rfl, rfl⟩
        have hss : ∀ y z, ((G3.set s y).set q z)[s]? = some y := fun y z => get_set (fun h => hsq h.symm) (gs y) z
        have hrr : ∀ y z, ((G3.set s y).set q z)[H.length]? = some (.vars [.i 0, .i 0, .str []]) := fun y z => get_set (fun h => hrq h.symm) (gr y) z
        have hrr2 : ∀ y z u, (((G3.set s y).set q z).set H.length u)[H.length]? = some u := fun y z u => get_self (hrr y z) u
        simp [hss, hrr, hrr2]
        repeat first|((first|refine qa tOk rfl ?_|refine qb tOk rfl ?_|refine qc ?_|refine qd ?_|refine qe ?_);simp [hss, hrr, hrr2])|refine AWP_block ?_|refine AWP_seq ?_
        rw [← hR, finV, if_pos hz]
        exact ⟨rfl, get_set hrq (get_self (get_set hsq k3' _) _) _, ⟨by simp; omega, .inl rfl, fun j hj h1 h2 => by rw [List.getElem?_set_ne (by omega), List.getElem?_set_ne (by omega), List.getElem?_set_ne (by omega)]; exact f4.2.2 j hj h1 h2⟩⟩
      · refine AWP_cond2 rfl (fun h => by simp [hz] at h) (fun h => ?_)
        repeat first|((first|refine qa tOk rfl ?_|refine qb tOk rfl ?_|refine qc ?_|refine qd ?_|refine qe ?_);simp [gs, gr, gr2])|refine AWP_block ?_|refine AWP_seq ?_
        rw [← hR, finV, if_neg hz]
        exact ⟨rfl, get_set hrq (get_set hsq k3' _) _, ⟨by simp; omega, .inl rfl, fun j hj h1 h2 => by rw [List.getElem?_set_ne (by omega), List.getElem?_set_ne (by omega)]; exact f4.2.2 j hj h1 h2⟩⟩
    · rw [pVal2, if_neg h2, bd] at hR
      have hc2 : (d2.e == 0 && k == 2) = false := by rw [Bool.eq_false_iff]; simpa only [ne_eq, Bool.and_eq_true, beq_iff_eq] using h2
      repeat first|((first|refine qa tOk rfl ?_|refine qb tOk rfl ?_|refine qc ?_|refine qd ?_|refine qe ?_);simp [k2', s2])|refine AWP_block ?_|refine AWP_seq ?_
      refine AWP_cond2 rfl (fun h => by exfalso; rw [← Bool.not_eq_true] at hc2; exact hc2 (by simpa using h)) (fun h => ?_)
      repeat first|((first|refine qa tOk rfl ?_|refine qb tOk rfl ?_|refine qc ?_|refine qd ?_|refine qe ?_);simp)|refine AWP_block ?_|refine AWP_seq ?_
      refine AStep_FC rfl rfl (fc_dint G2 q d2 k2 (by omega)) rfl ?_
      rintro _ G3 ⟨rfl, k3, f3⟩
      have s3 := f3.kd s2 hsq
      have r3 := f3.kd r2 hrq
      have f4 := f2.trans f3
      have hl3 := f4.1
      generalize (pI d2).1 = t at *
      generalize (pI d2).2 = d3 at *
      have k3' : G3[q]? = some (.vars [.str d3.s, .i d3.e]) := k3
      have gs : ∀ y, (G3.set s y)[s]? = some y := fun y => get_self s3 y
      have gr : ∀ y, (G3.set s y)[H.length]? = some (.vars [.i 0, .i 0, .str []]) := fun y => get_set (by omega) r3 y
      have gr2 : ∀ y z, ((G3.set s y).set H.length z)[H.length]? = some z := fun y z => get_self (gr y) z
      have gq : ∀ y, (G3.set s y)[q]? = some (.vars [.str d3.s, .i d3.e]) := fun y => get_set hsq k3' y
      simp [s3, gs, gr, gr2, gq]
      repeat first|((first|refine qa tOk rfl ?_|refine qb tOk rfl ?_|refine qc ?_|refine qd ?_|refine qe ?_);simp [s3, gs, gr, gr2, gq])|refine AWP_block ?_|refine AWP_seq ?_
      by_cases hz : d3.e = 0
      · refine AWP_cond2 rfl (fun h => ?_) (fun h => by simp [hz] at h)
        repeat first|((first|refine qa tOk rfl ?_|refine qb tOk rfl ?_|refine qc ?_|refine qd ?_|refine qe ?_);simp [gs])|refine AWP_block ?_|refine AWP_seq ?_
        refine AStep_PC rfl rfl (by simp) (pc_Check (⟨k, t, []⟩)) rfl ?_
        rintro _ rfl
        simp
        repeat first|((first|refine qa tOk rfl ?_|refine qb tOk rfl ?_|refine qc ?_|refine qd ?_|refine qe ?_);simp)|refine AWP_block ?_|refine AWP_seq ?_
        refine AStep_FC rfl rfl (fc_dfail _ q d3 (checkR (⟨k, t, []⟩)) (get_set hsq k3' _)) rfl ?_
        rintro _ _ ⟨rfl, rfl⟩
        have hss : ∀ y z, ((G3.set s y).set q z)[s]? = some y := fun y z => get_set (fun h => hsq h.symm) (gs y) z
        have hrr : ∀ y z, ((G3.set s y).set q z)[H.length]? = some (.vars [.i 0, .i 0, .str []]) := fun y z => get_set (fun h => hrq h.symm) (gr y) z
        have hrr2 : ∀ y z u, (((G3.set s y).set q z).set H.length u)[H.length]? = some u := fun y z u => get_self (hrr y z) u
        simp [hss, hrr, hrr2]
        repeat first|((first|refine qa tOk rfl ?_|refine qb tOk rfl ?_|refine qc ?_|refine qd ?_|refine qe ?_);simp [hss, hrr, hrr2])|refine AWP_block ?_|refine AWP_seq ?_
        rw [← hR, finV, if_pos hz]
        exact ⟨rfl, get_set hrq (get_self (get_set hsq k3' _) _) _, ⟨by simp; omega, .inl rfl, fun j hj h1 h2 => by rw [List.getElem?_set_ne (by omega), List.getElem?_set_ne (by omega), List.getElem?_set_ne (by omega)]; exact f4.2.2 j hj h1 h2⟩⟩
      · refine AWP_cond2 rfl (fun h => by simp [hz] at h) (fun h => ?_)
        repeat first|((first|refine qa tOk rfl ?_|refine qb tOk rfl ?_|refine qc ?_|refine qd ?_|refine qe ?_);simp [gs, gr, gr2])|refine AWP_block ?_|refine AWP_seq ?_
        rw [← hR, finV, if_neg hz]
        exact ⟨rfl, get_set hrq (get_set hsq k3' _) _, ⟨by simp; omega, .inl rfl, fun j hj h1 h2 => by rw [List.getElem?_set_ne (by omega), List.getElem?_set_ne (by omega)]; exact f4.2.2 j hj h1 h2⟩⟩
end Go.Abs
set_option maxRecDepth 100000
namespace Go.Abs
open Go Go.Proofs
set_option linter.unusedSimpArgs false
theorem fr_setc {H G : List AObj} {q S : Nat} (f : Fr H G q none none) (hp : H.length ≤ S) (Y : AObj) : Fr H (G.set S Y) q none none :=
  ⟨by simp; exact f.1, .inl rfl, fun j hj h1 h2 => by rw [List.getElem?_set_ne (by omega)]; exact f.2.2 j hj h1 h2⟩
theorem pH_L {α : Type} (F : DD α) : pH.L F = pL F := rfl
theorem pH_V : pH.V = pVal := rfl
theorem shr_ev : Shr pH.ev := shr_pI.bd fun _ => shr_pI.bd fun _ => shr_pI.bd fun _ => shr_pI.bd fun _ => (Shr.list shr_val).bd fun _ => Shr.rtn _
theorem shr_bnd : Shr How.bnd := shr_pI.bd fun _ => shr_pI.bd fun _ => shr_pI.bd fun _ => shr_pI.bd fun _ => Shr.rtn _
theorem shr_stt : Shr How.stt := shr_pI.bd fun _ => shr_pI.bd fun _ => Shr.rtn _
theorem shr_pnt : Shr How.pnt := shr_pI.bd fun _ => shr_pI.bd fun _ => Shr.rtn _
theorem shr_cfg : Shr pH.cfg := shr_pI.bd fun _ => (Shr.list shr_bnd).bd fun _ => (Shr.list shr_stt).bd fun _ => Shr.rtn _
theorem shr_eng : Shr pH.eng := shr_pI.bd fun _ => (Shr.list shr_ev).bd fun _ => (Shr.list shr_cfg).bd fun _ => (Shr.list shr_ev).bd fun _ => Shr.rtn _
theorem shr_trk : Shr pH.trk := shr_pI.bd fun _ => (Shr.list shr_pI).bd fun _ => (Shr.list shr_pnt).bd fun _ => shr_pI.bd fun _ => Shr.rtn _
theorem shr_rdr : Shr pH.rdr := shr_pI.bd fun _ => shr_pI.bd fun _ => shr_trk.bd fun _ => Shr.rtn _
theorem shr_kyd : Shr pH.kyd := shr_pI.bd fun _ => shr_val.bd fun _ => shr_eng.bd fun _ => Shr.rtn _
theorem shr_opr : Shr pH.opr := (Shr.list shr_pI).bd fun _ => (Shr.list shr_kyd).bd fun _ => Shr.rtn _
set_option maxHeartbeats 4000000 in
theorem fc_dstart (H : List AObj) (q : Nat) (d : Dc) (hd : H[q]? = some (dX d)) (hs : d.s.length ≤ 1000000000) : FC Tryz.prog 258 [.vptr q 0] H (DP H q (avStt (How.stt d).1) (How.stt d).2) := by
  refine FC_body tOk Tryz.func258 rfl Tryz.results258 rfl (by simp [Tryz.ntmps258]) ?_
  rw [Tryz.ntmps258]
  simp only [argSlots]
  obtain ⟨R, hR⟩ : ∃ R, How.stt d = R := ⟨_, rfl⟩
  rw [hR]
  simp only [How.stt, bd, pH_L, pH_V, rtn] at hR
  have hql := (List.getElem?_eq_some_iff.1 hd).1
  have hrq : H.length ≠ q := by omega
  have hsh0 : d.s.length ≤ 1000000000 := hs
  repeat first|((first|refine qa tOk rfl ?_|refine qb tOk rfl ?_|refine qc ?_|refine qd ?_|refine qe ?_);simp)|refine AWP_block ?_|refine AWP_seq ?_
  refine AStep_FC rfl rfl (fc_dint _ q d (get_app hd _) hsh0) rfl ?_
  rintro _ G1 ⟨rfl, k1, f1⟩
  have r1 := f1.kd (j := H.length) (x := .vars [.i 0, .i 0]) (by simp) hrq
  have hl1 := f1.1
  simp at hl1
  have e1 : Fr H G1 q none none := (Fr.app H _ q).trans f1
  have hsh1 : (pI d).2.s.length ≤ 1000000000 := Nat.le_trans (shr_pI d) hsh0
  generalize (pI d).1 = v1 at *
  generalize (pI d).2 = d1 at *
  simp
  repeat first|((first|refine qa tOk rfl ?_|refine qb tOk rfl ?_|refine qc ?_|refine qd ?_|refine qe ?_);simp)|refine AWP_block ?_|refine AWP_seq ?_
  refine AStep_FC rfl rfl (fc_dint G1 q d1 k1 hsh1) rfl ?_
  rintro _ G2 ⟨rfl, k2, f2⟩
  have r2 := f2.kd r1 hrq
  have hl2 : H.length + 1 ≤ G2.length := Nat.le_trans hl1 f2.1
  have e2 := e1.trans f2
  have hsh2 : (pI d1).2.s.length ≤ 1000000000 := Nat.le_trans (shr_pI d1) hsh1
  generalize (pI d1).1 = v2 at *
  generalize (pI d1).2 = d2 at *
  have gr2 : ∀ z, (G2.set H.length z)[H.length]? = some z := fun z => get_self r2 z
  simp [r2, gr2]
  repeat first|((first|refine qa tOk rfl ?_|refine qb tOk rfl ?_|refine qc ?_|refine qd ?_|refine qe ?_);simp [r2, gr2])|refine AWP_block ?_|refine AWP_seq ?_
  rw [← hR]
  exact ⟨rfl, get_set hrq k2 _, fr_setc e2 (Nat.le_refl _) _⟩
set_option maxHeartbeats 4000000 in
theorem fc_dpoint (H : List AObj) (q : Nat) (d : Dc) (hd : H[q]? = some (dX d)) (hs : d.s.length ≤ 1000000000) : FC Tryz.prog 167 [.vptr q 0] H (DP H q (avPnt (How.pnt d).1) (How.pnt d).2) := by
  refine FC_body tOk Tryz.func167 rfl Tryz.results167 rfl (by simp [Tryz.ntmps167]) ?_
  rw [Tryz.ntmps167]
  simp only [argSlots]
  obtain ⟨R, hR⟩ : ∃ R, How.pnt d = R := ⟨_, rfl⟩
  rw [hR]
  simp only [How.pnt, bd, pH_L, pH_V, rtn] at hR
  have hql := (List.getElem?_eq_some_iff.1 hd).1
  have hrq : H.length ≠ q := by omega
  have hsh0 : d.s.length ≤ 1000000000 := hs
  repeat first|((first|refine qa tOk rfl ?_|refine qb tOk rfl ?_|refine qc ?_|refine qd ?_|refine qe ?_);simp)|refine AWP_block ?_|refine AWP_seq ?_
  refine AStep_FC rfl rfl (fc_dint _ q d (get_app hd _) hsh0) rfl ?_
  rintro _ G1 ⟨rfl, k1, f1⟩
  have r1 := f1.kd (j := H.length) (x := .vars [.i 0, .i 0]) (by simp) hrq
  have hl1 := f1.1
  simp at hl1
  have e1 : Fr H G1 q none none := (Fr.app H _ q).trans f1
  have hsh1 : (pI d).2.s.length ≤ 1000000000 := Nat.le_trans (shr_pI d) hsh0
  generalize (pI d).1 = v1 at *
  generalize (pI d).2 = d1 at *
  simp
  repeat first|((first|refine qa tOk rfl ?_|refine qb tOk rfl ?_|refine qc ?_|refine qd ?_|refine qe ?_);simp)|refine AWP_block ?_|refine AWP_seq ?_
  refine AStep_FC rfl rfl (fc_dint G1 q d1 k1 hsh1) rfl ?_
  rintro _ G2 ⟨rfl, k2, f2⟩
  have r2 := f2.kd r1 hrq
  have hl2 : H.length + 1 ≤ G2.length := Nat.le_trans hl1 f2.1
  have e2 := e1.trans f2
  have hsh2 : (pI d1).2.s.length ≤ 1000000000 := Nat.le_trans (shr_pI d1) hsh1
  generalize (pI d1).1 = v2 at *
  generalize (pI d1).2 = d2 at *
  have gr2 : ∀ z, (G2.set H.length z)[H.length]? = some z := fun z => get_self r2 z
  simp [r2, gr2]
  repeat first|((first|refine qa tOk rfl ?_|refine qb tOk rfl ?_|refine qc ?_|refine qd ?_|refine qe ?_);simp [r2, gr2])|refine AWP_block ?_|refine AWP_seq ?_
  rw [← hR]
  exact ⟨rfl, get_set hrq k2 _, fr_setc e2 (Nat.le_refl _) _⟩
set_option maxHeartbeats 4000000 in
theorem fc_dbinding (H : List AObj) (q : Nat) (d : Dc) (hd : H[q]? = some (dX d)) (hs : d.s.length ≤ 1000000000) : FC Tryz.prog 256 [.vptr q 0] H (DP H q (avBnd (How.bnd d).1) (How.bnd d).2) := by
  refine FC_body tOk Tryz.func256 rfl Tryz.results256 rfl (by simp [Tryz.ntmps256]) ?_
  rw [Tryz.ntmps256]
  simp only [argSlots]
  obtain ⟨R, hR⟩ : ∃ R, How.bnd d = R := ⟨_, rfl⟩
  rw [hR]
  simp only [How.bnd, bd, pH_L, pH_V, rtn] at hR
  have hql := (List.getElem?_eq_some_iff.1 hd).1
  have hrq : H.length ≠ q := by omega
  have hsh0 : d.s.length ≤ 1000000000 := hs
  repeat first|((first|refine qa tOk rfl ?_|refine qb tOk rfl ?_|refine qc ?_|refine qd ?_|refine qe ?_);simp)|refine AWP_block ?_|refine AWP_seq ?_
  refine AStep_FC rfl rfl (fc_dint _ q d (get_app hd _) hsh0) rfl ?_
  rintro _ G1 ⟨rfl, k1, f1⟩
  have r1 := f1.kd (j := H.length) (x := .vars [.i 0, .i 0, .i 0, .i 0]) (by simp) hrq
  have hl1 := f1.1
  simp at hl1
  have e1 : Fr H G1 q none none := (Fr.app H _ q).trans f1
  have hsh1 : (pI d).2.s.length ≤ 1000000000 := Nat.le_trans (shr_pI d) hsh0
  generalize (pI d).1 = v1 at *
  generalize (pI d).2 = d1 at *
  simp
  repeat first|((first|refine qa tOk rfl ?_|refine qb tOk rfl ?_|refine qc ?_|refine qd ?_|refine qe ?_);simp)|refine AWP_block ?_|refine AWP_seq ?_
  refine AStep_FC rfl rfl (fc_dint _ q d1 (get_app k1 _) hsh1) rfl ?_
  rintro _ G2 ⟨rfl, k2, f2⟩
  obtain ⟨S, hS⟩ : ∃ S, G1.length = S := ⟨_, rfl⟩
  have hsq : S ≠ q := by have := (List.getElem?_eq_some_iff.1 k1).1; omega
  have hsr : S ≠ H.length := by omega
  have hsl : H.length ≤ S := by omega
  have hl2 : H.length + 1 ≤ G2.length := by have h1 := f2.1; simp at h1; omega
  have r2 := f2.kd (get_app r1 _) hrq
  have s2 := f2.kd (j := S) (x := .vars [.i v1, .i 0, .i 0, .i 0]) (by rw [← hS]; simp) hsq
  have e2 := (fr_push e1 _).trans f2
  rw [hS]
  have hsh2 : (pI d1).2.s.length ≤ 1000000000 := Nat.le_trans (shr_pI d1) hsh1
  generalize (pI d1).1 = v2 at *
  generalize (pI d1).2 = d2 at *
  simp [s2]
  repeat first|((first|refine qa tOk rfl ?_|refine qb tOk rfl ?_|refine qc ?_|refine qd ?_|refine qe ?_);simp [s2])|refine AWP_block ?_|refine AWP_seq ?_
  refine AStep_FC rfl rfl (fc_dint G2 q d2 k2 hsh2) rfl ?_
  rintro _ G3 ⟨rfl, k3, f3⟩
  have r3 := f3.kd r2 hrq
  have hl3 : H.length + 1 ≤ G3.length := Nat.le_trans hl2 f3.1
  have e3 := e2.trans f3
  have s3 := f3.kd s2 hsq
  have hsh3 : (pI d2).2.s.length ≤ 1000000000 := Nat.le_trans (shr_pI d2) hsh2
  generalize (pI d2).1 = v3 at *
  generalize (pI d2).2 = d3 at *
  simp [s3]
  repeat first|((first|refine qa tOk rfl ?_|refine qb tOk rfl ?_|refine qc ?_|refine qd ?_|refine qe ?_);simp [s3])|refine AWP_block ?_|refine AWP_seq ?_
  refine AStep_FC rfl rfl (fc_dint G3 q d3 k3 hsh3) rfl ?_
  rintro _ G4 ⟨rfl, k4, f4⟩
  have r4 := f4.kd r3 hrq
  have hl4 : H.length + 1 ≤ G4.length := Nat.le_trans hl3 f4.1
  have e4 := e3.trans f4
  have s4 := f4.kd s3 hsq
  have hsh4 : (pI d3).2.s.length ≤ 1000000000 := Nat.le_trans (shr_pI d3) hsh3
  generalize (pI d3).1 = v4 at *
  generalize (pI d3).2 = d4 at *
  have gs : ∀ y, (G4.set S y)[S]? = some y := fun y => get_self s4 y
  have gr : ∀ y, (G4.set S y)[H.length]? = some (.vars [.i 0, .i 0, .i 0, .i 0]) := fun y => get_set hsr r4 y
  have gr2 : ∀ y z, ((G4.set S y).set H.length z)[H.length]? = some z := fun y z => get_self (gr y) z
  simp [s4, gs, gr, gr2]
  repeat first|((first|refine qa tOk rfl ?_|refine qb tOk rfl ?_|refine qc ?_|refine qd ?_|refine qe ?_);simp [s4, gs, gr, gr2])|refine AWP_block ?_|refine AWP_seq ?_
  rw [← hR]
  exact ⟨rfl, get_set hrq (get_set hsq k4 _) _, fr_setc (fr_setc e4 hsl _) (Nat.le_refl _) _⟩
set_option maxHeartbeats 4000000 in
theorem fc_devent (H : List AObj) (q : Nat) (d : Dc) (hd : H[q]? = some (dX d)) (hs : d.s.length ≤ 1000000000) : FC Tryz.prog 237 [.vptr q 0] H (DP H q (encE (pH.ev d).1) (pH.ev d).2) := by
  refine FC_body tOk Tryz.func237 rfl Tryz.results237 rfl (by simp [Tryz.ntmps237]) ?_
  rw [Tryz.ntmps237]
  simp only [argSlots]
  obtain ⟨R, hR⟩ : ∃ R, pH.ev d = R := ⟨_, rfl⟩
  rw [hR]
  simp only [How.ev, bd, pH_L, pH_V, rtn] at hR
  have hql := (List.getElem?_eq_some_iff.1 hd).1
  have hrq : H.length ≠ q := by omega
  have hsh0 : d.s.length ≤ 1000000000 := hs
  repeat first|((first|refine qa tOk rfl ?_|refine qb tOk rfl ?_|refine qc ?_|refine qd ?_|refine qe ?_);simp)|refine AWP_block ?_|refine AWP_seq ?_
  refine AStep_FC rfl rfl (fc_dint _ q d (get_app hd _) hsh0) rfl ?_
  rintro _ G1 ⟨rfl, k1, f1⟩
  have r1 := f1.kd (j := H.length) (x := .vars [.i 0, .i 0, .i 0, .i 0, .nils]) (by simp) hrq
  have hl1 := f1.1
  simp at hl1
  have e1 : Fr H G1 q none none := (Fr.app H _ q).trans f1
  have hsh1 : (pI d).2.s.length ≤ 1000000000 := Nat.le_trans (shr_pI d) hsh0
  generalize (pI d).1 = v1 at *
  generalize (pI d).2 = d1 at *
  simp
  repeat first|((first|refine qa tOk rfl ?_|refine qb tOk rfl ?_|refine qc ?_|refine qd ?_|refine qe ?_);simp)|refine AWP_block ?_|refine AWP_seq ?_
  refine AStep_FC rfl rfl (fc_dint G1 q d1 k1 hsh1) rfl ?_
  rintro _ G2 ⟨rfl, k2, f2⟩
  have r2 := f2.kd r1 hrq
  have hl2 : H.length + 1 ≤ G2.length := Nat.le_trans hl1 f2.1
  have e2 := e1.trans f2
  have hsh2 : (pI d1).2.s.length ≤ 1000000000 := Nat.le_trans (shr_pI d1) hsh1
  generalize (pI d1).1 = v2 at *
  generalize (pI d1).2 = d2 at *
  simp
  repeat first|((first|refine qa tOk rfl ?_|refine qb tOk rfl ?_|refine qc ?_|refine qd ?_|refine qe ?_);simp)|refine AWP_block ?_|refine AWP_seq ?_
  refine AStep_FC rfl rfl (fc_dint G2 q d2 k2 hsh2) rfl ?_
  rintro _ G3 ⟨rfl, k3, f3⟩
  have r3 := f3.kd r2 hrq
  have hl3 : H.length + 1 ≤ G3.length := Nat.le_trans hl2 f3.1
  have e3 := e2.trans f3
  have hsh3 : (pI d2).2.s.length ≤ 1000000000 := Nat.le_trans (shr_pI d2) hsh2
  generalize (pI d2).1 = v3 at *
  generalize (pI d2).2 = d3 at *
  simp
  repeat first|((first|refine qa tOk rfl ?_|refine qb tOk rfl ?_|refine qc ?_|refine qd ?_|refine qe ?_);simp)|refine AWP_block ?_|refine AWP_seq ?_
  refine AStep_FC rfl rfl (fc_dint G3 q d3 k3 hsh3) rfl ?_
  rintro _ G4 ⟨rfl, k4, f4⟩
  have r4 := f4.kd r3 hrq
  have hl4 : H.length + 1 ≤ G4.length := Nat.le_trans hl3 f4.1
  have e4 := e3.trans f4
  have hsh4 : (pI d3).2.s.length ≤ 1000000000 := Nat.le_trans (shr_pI d3) hsh3
  generalize (pI d3).1 = v4 at *
  generalize (pI d3).2 = d4 at *
  simp
  repeat first|((first|refine qa tOk rfl ?_|refine qb tOk rfl ?_|refine qc ?_|refine qd ?_|refine qe ?_);simp)|refine AWP_block ?_|refine AWP_seq ?_
  refine AStep_FC rfl rfl (fc_get_Value pVal shr_val _ [.vptr q 0] [] _ q d4 (get_app k4 _) hsh4 (fun H1 d1 a b c => fc_dvalue H1 q d1 a b)) rfl ?_
  rintro _ G5 ⟨rfl, k5, f5⟩
  obtain ⟨S, hS⟩ : ∃ S, G4.length = S := ⟨_, rfl⟩
  have hsq : S ≠ q := by have := (List.getElem?_eq_some_iff.1 k4).1; omega
  have hsr : S ≠ H.length := by omega
  have hsl : H.length ≤ S := by omega
  have hl5 : H.length + 1 ≤ G5.length := by have h1 := f5.1; simp at h1; omega
  have r5 := f5.kd (get_app r4 _) hrq
  have s5 := f5.kd (j := S) (x := .vars [.i v1, .i v2, .i v3, .i v4, .nils]) (by rw [← hS]; simp) hsq
  have e5 := (fr_push e4 _).trans f5
  rw [hS]
  have hsh5 : (pL pVal d4).2.s.length ≤ 1000000000 := Nat.le_trans ((Shr.list shr_val) d4) hsh4
  generalize (pL pVal d4).1 = v5 at *
  generalize (pL pVal d4).2 = d5 at *
  have gs : ∀ y, (G5.set S y)[S]? = some y := fun y => get_self s5 y
  have gr : ∀ y, (G5.set S y)[H.length]? = some (.vars [.i 0, .i 0, .i 0, .i 0, .nils]) := fun y => get_set hsr r5 y
  have gr2 : ∀ y z, ((G5.set S y).set H.length z)[H.length]? = some z := fun y z => get_self (gr y) z
  simp [s5, gs, gr, gr2]
  repeat first|((first|refine qa tOk rfl ?_|refine qb tOk rfl ?_|refine qc ?_|refine qd ?_|refine qe ?_);simp [s5, gs, gr, gr2])|refine AWP_block ?_|refine AWP_seq ?_
  rw [← hR]
  exact ⟨rfl, get_set hrq (get_set hsq k5 _) _, fr_setc (fr_setc e5 hsl _) (Nat.le_refl _) _⟩
set_option maxHeartbeats 4000000 in
theorem fc_dconfig (H : List AObj) (q : Nat) (d : Dc) (hd : H[q]? = some (dX d)) (hs : d.s.length ≤ 1000000000) : FC Tryz.prog 239 [.vptr q 0] H (DP H q (avCfg (pH.cfg d).1) (pH.cfg d).2) := by
  refine FC_body tOk Tryz.func239 rfl Tryz.results239 rfl (by simp [Tryz.ntmps239]) ?_
  rw [Tryz.ntmps239]
  simp only [argSlots]
  obtain ⟨R, hR⟩ : ∃ R, pH.cfg d = R := ⟨_, rfl⟩
  rw [hR]
  simp only [How.cfg, bd, pH_L, pH_V, rtn] at hR
  have hql := (List.getElem?_eq_some_iff.1 hd).1
  have hrq : H.length ≠ q := by omega
  have hsh0 : d.s.length ≤ 1000000000 := hs
  repeat first|((first|refine qa tOk rfl ?_|refine qb tOk rfl ?_|refine qc ?_|refine qd ?_|refine qe ?_);simp)|refine AWP_block ?_|refine AWP_seq ?_
  refine AStep_FC rfl rfl (fc_dint _ q d (get_app hd _) hsh0) rfl ?_
  rintro _ G1 ⟨rfl, k1, f1⟩
  have r1 := f1.kd (j := H.length) (x := .vars [.i 0, .nils, .nils]) (by simp) hrq
  have hl1 := f1.1
  simp at hl1
  have e1 : Fr H G1 q none none := (Fr.app H _ q).trans f1
  have hsh1 : (pI d).2.s.length ≤ 1000000000 := Nat.le_trans (shr_pI d) hsh0
  generalize (pI d).1 = v1 at *
  generalize (pI d).2 = d1 at *
  simp
  repeat first|((first|refine qa tOk rfl ?_|refine qb tOk rfl ?_|refine qc ?_|refine qd ?_|refine qe ?_);simp)|refine AWP_block ?_|refine AWP_seq ?_
  refine AStep_FC rfl rfl (fc_get_Binding How.bnd shr_bnd _ [.vptr q 0] [] _ q d1 (get_app k1 _) hsh1 (fun H1 d1 a b c => fc_dbinding H1 q d1 a b)) rfl ?_
  rintro _ G2 ⟨rfl, k2, f2⟩
  obtain ⟨S, hS⟩ : ∃ S, G1.length = S := ⟨_, rfl⟩
  have hsq : S ≠ q := by have := (List.getElem?_eq_some_iff.1 k1).1; omega
  have hsr : S ≠ H.length := by omega
  have hsl : H.length ≤ S := by omega
  have hl2 : H.length + 1 ≤ G2.length := by have h1 := f2.1; simp at h1; omega
  have r2 := f2.kd (get_app r1 _) hrq
  have s2 := f2.kd (j := S) (x := .vars [.i v1, .nils, .nils]) (by rw [← hS]; simp) hsq
  have e2 := (fr_push e1 _).trans f2
  rw [hS]
  have hsh2 : (pL How.bnd d1).2.s.length ≤ 1000000000 := Nat.le_trans ((Shr.list shr_bnd) d1) hsh1
  generalize (pL How.bnd d1).1 = v2 at *
  generalize (pL How.bnd d1).2 = d2 at *
  simp [s2]
  repeat first|((first|refine qa tOk rfl ?_|refine qb tOk rfl ?_|refine qc ?_|refine qd ?_|refine qe ?_);simp [s2])|refine AWP_block ?_|refine AWP_seq ?_
  refine AStep_FC rfl rfl (fc_get_Start How.stt shr_stt _ [.vptr q 0] [] _ q d2 (get_set hsq k2 _) hsh2 (fun H1 d1 a b c => fc_dstart H1 q d1 a b)) rfl ?_
  rintro _ G3 ⟨rfl, k3, f3⟩
  have r3 := f3.kd (get_set hsr r2 _) hrq
  have s3 := f3.kd (get_self s2 _) hsq
  have e3 := (fr_setc e2 hsl _).trans f3
  have hsh3 : (pL How.stt d2).2.s.length ≤ 1000000000 := Nat.le_trans ((Shr.list shr_stt) d2) hsh2
  generalize (pL How.stt d2).1 = v3 at *
  generalize (pL How.stt d2).2 = d3 at *
  have gs : ∀ y, (G3.set S y)[S]? = some y := fun y => get_self s3 y
  have gr : ∀ y, (G3.set S y)[H.length]? = some (.vars [.i 0, .nils, .nils]) := fun y => get_set hsr r3 y
  have gr2 : ∀ y z, ((G3.set S y).set H.length z)[H.length]? = some z := fun y z => get_self (gr y) z
  simp [s3, gs, gr, gr2]
  repeat first|((first|refine qa tOk rfl ?_|refine qb tOk rfl ?_|refine qc ?_|refine qd ?_|refine qe ?_);simp [s3, gs, gr, gr2])|refine AWP_block ?_|refine AWP_seq ?_
  rw [← hR]
  exact ⟨rfl, get_set hrq (get_set hsq k3 _) _, fr_setc (fr_setc e3 hsl _) (Nat.le_refl _) _⟩
set_option maxHeartbeats 4000000 in
theorem fc_dengine (H : List AObj) (q : Nat) (d : Dc) (hd : H[q]? = some (dX d)) (hs : d.s.length ≤ 1000000000) : FC Tryz.prog 210 [.vptr q 0] H (DP H q (avEng (pH.eng d).1) (pH.eng d).2) := by
  refine FC_body tOk Tryz.func210 rfl Tryz.results210 rfl (by simp [Tryz.ntmps210]) ?_
  rw [Tryz.ntmps210]
  simp only [argSlots]
  obtain ⟨R, hR⟩ : ∃ R, pH.eng d = R := ⟨_, rfl⟩
  rw [hR]
  simp only [How.eng, bd, pH_L, pH_V, rtn] at hR
  have hql := (List.getElem?_eq_some_iff.1 hd).1
  have hrq : H.length ≠ q := by omega
  have hsh0 : d.s.length ≤ 1000000000 := hs
  repeat first|((first|refine qa tOk rfl ?_|refine qb tOk rfl ?_|refine qc ?_|refine qd ?_|refine qe ?_);simp)|refine AWP_block ?_|refine AWP_seq ?_
  refine AStep_FC rfl rfl (fc_dint _ q d (get_app hd _) hsh0) rfl ?_
  rintro _ G1 ⟨rfl, k1, f1⟩
  have r1 := f1.kd (j := H.length) (x := .vars [.i 0, .nils, .nils, .nils]) (by simp) hrq
  have hl1 := f1.1
  simp at hl1
  have e1 : Fr H G1 q none none := (Fr.app H _ q).trans f1
  have hsh1 : (pI d).2.s.length ≤ 1000000000 := Nat.le_trans (shr_pI d) hsh0
  generalize (pI d).1 = v1 at *
  generalize (pI d).2 = d1 at *
  simp
  repeat first|((first|refine qa tOk rfl ?_|refine qb tOk rfl ?_|refine qc ?_|refine qd ?_|refine qe ?_);simp)|refine AWP_block ?_|refine AWP_seq ?_
  refine AStep_FC rfl rfl (fc_get_Event pH.ev shr_ev _ [.vptr q 0] [] _ q d1 (get_app k1 _) hsh1 (fun H1 d1 a b c => fc_devent H1 q d1 a b)) rfl ?_
  rintro _ G2 ⟨rfl, k2, f2⟩
  obtain ⟨S, hS⟩ : ∃ S, G1.length = S := ⟨_, rfl⟩
  have hsq : S ≠ q := by have := (List.getElem?_eq_some_iff.1 k1).1; omega
  have hsr : S ≠ H.length := by omega
  have hsl : H.length ≤ S := by omega
  have hl2 : H.length + 1 ≤ G2.length := by have h1 := f2.1; simp at h1; omega
  have r2 := f2.kd (get_app r1 _) hrq
  have s2 := f2.kd (j := S) (x := .vars [.i v1, .nils, .nils, .nils]) (by rw [← hS]; simp) hsq
  have e2 := (fr_push e1 _).trans f2
  rw [hS]
  have hsh2 : (pL pH.ev d1).2.s.length ≤ 1000000000 := Nat.le_trans ((Shr.list shr_ev) d1) hsh1
  generalize (pL pH.ev d1).1 = v2 at *
  generalize (pL pH.ev d1).2 = d2 at *
  simp [s2]
  repeat first|((first|refine qa tOk rfl ?_|refine qb tOk rfl ?_|refine qc ?_|refine qd ?_|refine qe ?_);simp [s2])|refine AWP_block ?_|refine AWP_seq ?_
  refine AStep_FC rfl rfl (fc_get_Config pH.cfg shr_cfg _ [.vptr q 0] [] _ q d2 (get_set hsq k2 _) hsh2 (fun H1 d1 a b c => fc_dconfig H1 q d1 a b)) rfl ?_
  rintro _ G3 ⟨rfl, k3, f3⟩
  have r3 := f3.kd (get_set hsr r2 _) hrq
  have s3 := f3.kd (get_self s2 _) hsq
  have e3 := (fr_setc e2 hsl _).trans f3
  have hsh3 : (pL pH.cfg d2).2.s.length ≤ 1000000000 := Nat.le_trans ((Shr.list shr_cfg) d2) hsh2
  generalize (pL pH.cfg d2).1 = v3 at *
  generalize (pL pH.cfg d2).2 = d3 at *
  simp [s3]
  repeat first|((first|refine qa tOk rfl ?_|refine qb tOk rfl ?_|refine qc ?_|refine qd ?_|refine qe ?_);simp [s3])|refine AWP_block ?_|refine AWP_seq ?_
  refine AStep_FC rfl rfl (fc_get_Event pH.ev shr_ev _ [.vptr q 0] [] _ q d3 (get_set hsq k3 _) hsh3 (fun H1 d1 a b c => fc_devent H1 q d1 a b)) rfl ?_
  rintro _ G4 ⟨rfl, k4, f4⟩
  have r4 := f4.kd (get_set hsr r3 _) hrq
  have s4 := f4.kd (get_self s3 _) hsq
  have e4 := (fr_setc e3 hsl _).trans f4
  have hsh4 : (pL pH.ev d3).2.s.length ≤ 1000000000 := Nat.le_trans ((Shr.list shr_ev) d3) hsh3
  generalize (pL pH.ev d3).1 = v4 at *
  generalize (pL pH.ev d3).2 = d4 at *
  have gs : ∀ y, (G4.set S y)[S]? = some y := fun y => get_self s4 y
  have gr : ∀ y, (G4.set S y)[H.length]? = some (.vars [.i 0, .nils, .nils, .nils]) := fun y => get_set hsr r4 y
  have gr2 : ∀ y z, ((G4.set S y).set H.length z)[H.length]? = some z := fun y z => get_self (gr y) z
  simp [s4, gs, gr, gr2]
  repeat first|((first|refine qa tOk rfl ?_|refine qb tOk rfl ?_|refine qc ?_|refine qd ?_|refine qe ?_);simp [s4, gs, gr, gr2])|refine AWP_block ?_|refine AWP_seq ?_
  rw [← hR]
  exact ⟨rfl, get_set hrq (get_set hsq k4 _) _, fr_setc (fr_setc e4 hsl _) (Nat.le_refl _) _⟩
set_option maxHeartbeats 4000000 in
theorem fc_dreader (H : List AObj) (q : Nat) (d : Dc) (hd : H[q]? = some (dX d)) (hs : d.s.length ≤ 1000000000) : FC Tryz.prog 117 [.vptr q 0] H (DP H q (avRdr (pH.rdr d).1) (pH.rdr d).2) := by
  refine FC_body tOk Tryz.func117 rfl Tryz.results117 rfl (by simp [Tryz.ntmps117]) ?_
  rw [Tryz.ntmps117]
  simp only [argSlots]
  obtain ⟨R, hR⟩ : ∃ R, pH.rdr d = R := ⟨_, rfl⟩
  rw [hR]
  simp only [How.rdr, How.trk, bd, pH_L, pH_V, rtn] at hR
  have hql := (List.getElem?_eq_some_iff.1 hd).1
  have hrq : H.length ≠ q := by omega
  have hsh0 : d.s.length ≤ 1000000000 := hs
  repeat first|((first|refine qa tOk rfl ?_|refine qb tOk rfl ?_|refine qc ?_|refine qd ?_|refine qe ?_);simp)|refine AWP_block ?_|refine AWP_seq ?_
  refine AStep_FC rfl rfl (fc_dint _ q d (get_app hd _) hsh0) rfl ?_
  rintro _ G1 ⟨rfl, k1, f1⟩
  have r1 := f1.kd (j := H.length) (x := .vars [.i 0, .i 0, .i 0, .nils, .nils, .i 0]) (by simp) hrq
  have hl1 := f1.1
  simp at hl1
  have e1 : Fr H G1 q none none := (Fr.app H _ q).trans f1
  have hsh1 : (pI d).2.s.length ≤ 1000000000 := Nat.le_trans (shr_pI d) hsh0
  generalize (pI d).1 = v1 at *
  generalize (pI d).2 = d1 at *
  simp
  repeat first|((first|refine qa tOk rfl ?_|refine qb tOk rfl ?_|refine qc ?_|refine qd ?_|refine qe ?_);simp)|refine AWP_block ?_|refine AWP_seq ?_
  refine AStep_FC rfl rfl (fc_dint G1 q d1 k1 hsh1) rfl ?_
  rintro _ G2 ⟨rfl, k2, f2⟩
  have r2 := f2.kd r1 hrq
  have hl2 : H.length + 1 ≤ G2.length := Nat.le_trans hl1 f2.1
  have e2 := e1.trans f2
  have hsh2 : (pI d1).2.s.length ≤ 1000000000 := Nat.le_trans (shr_pI d1) hsh1
  generalize (pI d1).1 = v2 at *
  generalize (pI d1).2 = d2 at *
  simp
  repeat first|((first|refine qa tOk rfl ?_|refine qb tOk rfl ?_|refine qc ?_|refine qd ?_|refine qe ?_);simp)|refine AWP_block ?_|refine AWP_seq ?_
  refine AStep_FC rfl rfl (fc_dint _ q d2 (get_app k2 _) hsh2) rfl ?_
  rintro _ G3 ⟨rfl, k3, f3⟩
  obtain ⟨S, hS⟩ : ∃ S, G2.length = S := ⟨_, rfl⟩
  have hsq : S ≠ q := by have := (List.getElem?_eq_some_iff.1 k2).1; omega
  have hsr : S ≠ H.length := by omega
  have hsl : H.length ≤ S := by omega
  have hl3 : H.length + 1 ≤ G3.length := by have h1 := f3.1; simp at h1; omega
  have r3 := f3.kd (get_app r2 _) hrq
  have s3 := f3.kd (j := S) (x := .vars [.i v1, .i v2, .i 0, .nils, .nils, .i 0]) (by rw [← hS]; simp) hsq
  have e3 := (fr_push e2 _).trans f3
  rw [hS]
  have hsh3 : (pI d2).2.s.length ≤ 1000000000 := Nat.le_trans (shr_pI d2) hsh2
  generalize (pI d2).1 = v3 at *
  generalize (pI d2).2 = d3 at *
  simp [s3]
  repeat first|((first|refine qa tOk rfl ?_|refine qb tOk rfl ?_|refine qc ?_|refine qd ?_|refine qe ?_);simp [s3])|refine AWP_block ?_|refine AWP_seq ?_
  refine AStep_FC rfl rfl (fc_get_int pI shr_pI _ [.vptr q 0] [] _ q d3 (get_set hsq k3 _) hsh3 (fun H1 d1 a b c => fc_dint H1 q d1 a b)) rfl ?_
  rintro _ G4 ⟨rfl, k4, f4⟩
  have r4 := f4.kd (get_set hsr r3 _) hrq
  have s4 := f4.kd (get_self s3 _) hsq
  have e4 := (fr_setc e3 hsl _).trans f4
  have hsh4 : (pL pI d3).2.s.length ≤ 1000000000 := Nat.le_trans ((Shr.list shr_pI) d3) hsh3
  generalize (pL pI d3).1 = v4 at *
  generalize (pL pI d3).2 = d4 at *
  simp [s4]
  repeat first|((first|refine qa tOk rfl ?_|refine qb tOk rfl ?_|refine qc ?_|refine qd ?_|refine qe ?_);simp [s4])|refine AWP_block ?_|refine AWP_seq ?_
  refine AStep_FC rfl rfl (fc_get_Point How.pnt shr_pnt _ [.vptr q 0] [] _ q d4 (get_set hsq k4 _) hsh4 (fun H1 d1 a b c => fc_dpoint H1 q d1 a b)) rfl ?_
  rintro _ G5 ⟨rfl, k5, f5⟩
  have r5 := f5.kd (get_set hsr r4 _) hrq
  have s5 := f5.kd (get_self s4 _) hsq
  have e5 := (fr_setc e4 hsl _).trans f5
  have hsh5 : (pL How.pnt d4).2.s.length ≤ 1000000000 := Nat.le_trans ((Shr.list shr_pnt) d4) hsh4
  generalize (pL How.pnt d4).1 = v5 at *
  generalize (pL How.pnt d4).2 = d5 at *
  simp [s5]
  repeat first|((first|refine qa tOk rfl ?_|refine qb tOk rfl ?_|refine qc ?_|refine qd ?_|refine qe ?_);simp [s5])|refine AWP_block ?_|refine AWP_seq ?_
  refine AStep_FC rfl rfl (fc_dint _ q d5 (get_set hsq k5 _) hsh5) rfl ?_
  rintro _ G6 ⟨rfl, k6, f6⟩
  have r6 := f6.kd (get_set hsr r5 _) hrq
  have s6 := f6.kd (get_self s5 _) hsq
  have e6 := (fr_setc e5 hsl _).trans f6
  have hsh6 : (pI d5).2.s.length ≤ 1000000000 := Nat.le_trans (shr_pI d5) hsh5
  generalize (pI d5).1 = v6 at *
  generalize (pI d5).2 = d6 at *
  have gs : ∀ y, (G6.set S y)[S]? = some y := fun y => get_self s6 y
  have gr : ∀ y, (G6.set S y)[H.length]? = some (.vars [.i 0, .i 0, .i 0, .nils, .nils, .i 0]) := fun y => get_set hsr r6 y
  have gr2 : ∀ y z, ((G6.set S y).set H.length z)[H.length]? = some z := fun y z => get_self (gr y) z
  simp [s6, gs, gr, gr2]
  repeat first|((first|refine qa tOk rfl ?_|refine qb tOk rfl ?_|refine qc ?_|refine qd ?_|refine qe ?_);simp [s6, gs, gr, gr2])|refine AWP_block ?_|refine AWP_seq ?_
  rw [← hR]
  exact ⟨rfl, get_set hrq (get_set hsq k6 _) _, fr_setc (fr_setc e6 hsl _) (Nat.le_refl _) _⟩
set_option maxHeartbeats 4000000 in
theorem fc_dkeyed (H : List AObj) (q : Nat) (d : Dc) (hd : H[q]? = some (dX d)) (hs : d.s.length ≤ 1000000000) : FC Tryz.prog 169 [.vptr q 0] H (DP H q (avKyd (pH.kyd d).1) (pH.kyd d).2) := by
  refine FC_body tOk Tryz.func169 rfl Tryz.results169 rfl (by simp [Tryz.ntmps169]) ?_
  rw [Tryz.ntmps169]
  simp only [argSlots]
  obtain ⟨R, hR⟩ : ∃ R, pH.kyd d = R := ⟨_, rfl⟩
  rw [hR]
  simp only [How.kyd, bd, pH_L, pH_V, rtn] at hR
  have hql := (List.getElem?_eq_some_iff.1 hd).1
  have hrq : H.length ≠ q := by omega
  have hsh0 : d.s.length ≤ 1000000000 := hs
  repeat first|((first|refine qa tOk rfl ?_|refine qb tOk rfl ?_|refine qc ?_|refine qd ?_|refine qe ?_);simp)|refine AWP_block ?_|refine AWP_seq ?_
  refine AStep_FC rfl rfl (fc_dint _ q d (get_app hd _) hsh0) rfl ?_
  rintro _ G1 ⟨rfl, k1, f1⟩
  have r1 := f1.kd (j := H.length) (x := .vars [.i 0, .i 0, .i 0, .str [], .i 0, .nils, .nils, .nils]) (by simp) hrq
  have hl1 := f1.1
  simp at hl1
  have e1 : Fr H G1 q none none := (Fr.app H _ q).trans f1
  have hsh1 : (pI d).2.s.length ≤ 1000000000 := Nat.le_trans (shr_pI d) hsh0
  generalize (pI d).1 = v1 at *
  generalize (pI d).2 = d1 at *
  simp
  repeat first|((first|refine qa tOk rfl ?_|refine qb tOk rfl ?_|refine qc ?_|refine qd ?_|refine qe ?_);simp)|refine AWP_block ?_|refine AWP_seq ?_
  refine AStep_FC rfl rfl (fc_dvalue _ q d1 (get_app k1 _) hsh1) rfl ?_
  rintro _ G2 ⟨rfl, k2, f2⟩
  obtain ⟨S, hS⟩ : ∃ S, G1.length = S := ⟨_, rfl⟩
  have hsq : S ≠ q := by have := (List.getElem?_eq_some_iff.1 k1).1; omega
  have hsr : S ≠ H.length := by omega
  have hsl : H.length ≤ S := by omega
  have hl2 : H.length + 1 ≤ G2.length := by have h1 := f2.1; simp at h1; omega
  have r2 := f2.kd (get_app r1 _) hrq
  have s2 := f2.kd (j := S) (x := .vars [.i v1, .i 0, .i 0, .str [], .i 0, .nils, .nils, .nils]) (by rw [← hS]; simp) hsq
  have e2 := (fr_push e1 _).trans f2
  rw [hS]
  have hsh2 : (pVal d1).2.s.length ≤ 1000000000 := Nat.le_trans (shr_val d1) hsh1
  generalize (pVal d1).1 = v2 at *
  generalize (pVal d1).2 = d2 at *
  simp [s2]
  repeat first|((first|refine qa tOk rfl ?_|refine qb tOk rfl ?_|refine qc ?_|refine qd ?_|refine qe ?_);simp [s2])|refine AWP_block ?_|refine AWP_seq ?_
  refine AStep_FC rfl rfl (fc_dengine _ q d2 (get_set hsq k2 _) hsh2) rfl ?_
  rintro _ G3 ⟨rfl, k3, f3⟩
  have r3 := f3.kd (get_set hsr r2 _) hrq
  have s3 := f3.kd (get_self s2 _) hsq
  have e3 := (fr_setc e2 hsl _).trans f3
  have hsh3 : (pH.eng d2).2.s.length ≤ 1000000000 := Nat.le_trans (shr_eng d2) hsh2
  generalize (pH.eng d2).1 = v3 at *
  generalize (pH.eng d2).2 = d3 at *
  have gs : ∀ y, (G3.set S y)[S]? = some y := fun y => get_self s3 y
  have gr : ∀ y, (G3.set S y)[H.length]? = some (.vars [.i 0, .i 0, .i 0, .str [], .i 0, .nils, .nils, .nils]) := fun y => get_set hsr r3 y
  have gr2 : ∀ y z, ((G3.set S y).set H.length z)[H.length]? = some z := fun y z => get_self (gr y) z
  simp [s3, gs, gr, gr2]
  repeat first|((first|refine qa tOk rfl ?_|refine qb tOk rfl ?_|refine qc ?_|refine qd ?_|refine qe ?_);simp [s3, gs, gr, gr2])|refine AWP_block ?_|refine AWP_seq ?_
  rw [← hR]
  exact ⟨rfl, get_set hrq (get_set hsq k3 _) _, fr_setc (fr_setc e3 hsl _) (Nat.le_refl _) _⟩
set_option maxHeartbeats 4000000 in
theorem fc_doperator (H : List AObj) (q : Nat) (d : Dc) (hd : H[q]? = some (dX d)) (hs : d.s.length ≤ 1000000000) : FC Tryz.prog 119 [.vptr q 0] H (DP H q (avOpr (pH.opr d).1) (pH.opr d).2) := by
  refine FC_body tOk Tryz.func119 rfl Tryz.results119 rfl (by simp [Tryz.ntmps119]) ?_
  rw [Tryz.ntmps119]
  simp only [argSlots]
  obtain ⟨R, hR⟩ : ∃ R, pH.opr d = R := ⟨_, rfl⟩
  rw [hR]
  simp only [How.opr, bd, pH_L, pH_V, rtn] at hR
  have hql := (List.getElem?_eq_some_iff.1 hd).1
  have hrq : H.length ≠ q := by omega
  have hsh0 : d.s.length ≤ 1000000000 := hs
  repeat first|((first|refine qa tOk rfl ?_|refine qb tOk rfl ?_|refine qc ?_|refine qd ?_|refine qe ?_);simp)|refine AWP_block ?_|refine AWP_seq ?_
  refine AStep_FC rfl rfl (fc_get_int pI shr_pI _ [.vptr q 0] [] _ q d (get_app hd _) hsh0 (fun H1 d1 a b c => fc_dint H1 q d1 a b)) rfl ?_
  rintro _ G1 ⟨rfl, k1, f1⟩
  have r1 := f1.kd (j := H.length) (x := .vars [.nils, .nils]) (by simp) hrq
  have hl1 := f1.1
  simp at hl1
  have e1 : Fr H G1 q none none := (Fr.app H _ q).trans f1
  have hsh1 : (pL pI d).2.s.length ≤ 1000000000 := Nat.le_trans ((Shr.list shr_pI) d) hsh0
  generalize (pL pI d).1 = v1 at *
  generalize (pL pI d).2 = d1 at *
  simp
  repeat first|((first|refine qa tOk rfl ?_|refine qb tOk rfl ?_|refine qc ?_|refine qd ?_|refine qe ?_);simp)|refine AWP_block ?_|refine AWP_seq ?_
  refine AStep_FC rfl rfl (fc_get_Keyed pH.kyd shr_kyd _ [.vptr q 0] [] _ q d1 (get_app k1 _) hsh1 (fun H1 d1 a b c => fc_dkeyed H1 q d1 a b)) rfl ?_
  rintro _ G2 ⟨rfl, k2, f2⟩
  obtain ⟨S, hS⟩ : ∃ S, G1.length = S := ⟨_, rfl⟩
  have hsq : S ≠ q := by have := (List.getElem?_eq_some_iff.1 k1).1; omega
  have hsr : S ≠ H.length := by omega
  have hsl : H.length ≤ S := by omega
  have hl2 : H.length + 1 ≤ G2.length := by have h1 := f2.1; simp at h1; omega
  have r2 := f2.kd (get_app r1 _) hrq
  have s2 := f2.kd (j := S) (x := .vars [.list (v1.map encI), .nils]) (by rw [← hS]; simp) hsq
  have e2 := (fr_push e1 _).trans f2
  rw [hS]
  have hsh2 : (pL pH.kyd d1).2.s.length ≤ 1000000000 := Nat.le_trans ((Shr.list shr_kyd) d1) hsh1
  generalize (pL pH.kyd d1).1 = v2 at *
  generalize (pL pH.kyd d1).2 = d2 at *
  have gs : ∀ y, (G2.set S y)[S]? = some y := fun y => get_self s2 y
  have gr : ∀ y, (G2.set S y)[H.length]? = some (.vars [.nils, .nils]) := fun y => get_set hsr r2 y
  have gr2 : ∀ y z, ((G2.set S y).set H.length z)[H.length]? = some z := fun y z => get_self (gr y) z
  simp [s2, gs, gr, gr2]
  repeat first|((first|refine qa tOk rfl ?_|refine qb tOk rfl ?_|refine qc ?_|refine qd ?_|refine qe ?_);simp [s2, gs, gr, gr2])|refine AWP_block ?_|refine AWP_seq ?_
  rw [← hR]
  exact ⟨rfl, get_set hrq (get_set hsq k2 _) _, fr_setc (fr_setc e2 hsl _) (Nat.le_refl _) _⟩
set_option maxHeartbeats 4000000 in
theorem fc_dsnapshot (H : List AObj) (q : Nat) (d : Dc) (hd : H[q]? = some (dX d)) (hs : d.s.length ≤ 1000000000) : FC Tryz.prog 79 [.vptr q 0] H (DP H q (avSnp (pH.snp d).1) (pH.snp d).2) := by
  refine FC_body tOk Tryz.func79 rfl Tryz.results79 rfl (by simp [Tryz.ntmps79]) ?_
  rw [Tryz.ntmps79]
  simp only [argSlots]
  obtain ⟨R, hR⟩ : ∃ R, pH.snp d = R := ⟨_, rfl⟩
  rw [hR]
  simp only [How.snp, bd, pH_L, pH_V, rtn] at hR
  have hql := (List.getElem?_eq_some_iff.1 hd).1
  have hrq : H.length ≠ q := by omega
  have hsh0 : d.s.length ≤ 1000000000 := hs
  repeat first|((first|refine qa tOk rfl ?_|refine qb tOk rfl ?_|refine qc ?_|refine qd ?_|refine qe ?_);simp)|refine AWP_block ?_|refine AWP_seq ?_
  refine AStep_FC rfl rfl (fc_dint _ q d (get_app hd _) hsh0) rfl ?_
  rintro _ G1 ⟨rfl, k1, f1⟩
  have r1 := f1.kd (j := H.length) (x := .vars [.i 0, .nils, .nils]) (by simp) hrq
  have hl1 := f1.1
  simp at hl1
  have e1 : Fr H G1 q none none := (Fr.app H _ q).trans f1
  have hsh1 : (pI d).2.s.length ≤ 1000000000 := Nat.le_trans (shr_pI d) hsh0
  generalize (pI d).1 = v1 at *
  generalize (pI d).2 = d1 at *
  simp
  repeat first|((first|refine qa tOk rfl ?_|refine qb tOk rfl ?_|refine qc ?_|refine qd ?_|refine qe ?_);simp)|refine AWP_block ?_|refine AWP_seq ?_
  refine AStep_FC rfl rfl (fc_get_Reader pH.rdr shr_rdr _ [.vptr q 0] [] _ q d1 (get_app k1 _) hsh1 (fun H1 d1 a b c => fc_dreader H1 q d1 a b)) rfl ?_
  rintro _ G2 ⟨rfl, k2, f2⟩
  obtain ⟨S, hS⟩ : ∃ S, G1.length = S := ⟨_, rfl⟩
  have hsq : S ≠ q := by have := (List.getElem?_eq_some_iff.1 k1).1; omega
  have hsr : S ≠ H.length := by omega
  have hsl : H.length ≤ S := by omega
  have hl2 : H.length + 1 ≤ G2.length := by have h1 := f2.1; simp at h1; omega
  have r2 := f2.kd (get_app r1 _) hrq
  have s2 := f2.kd (j := S) (x := .vars [.i v1, .nils, .nils]) (by rw [← hS]; simp) hsq
  have e2 := (fr_push e1 _).trans f2
  rw [hS]
  have hsh2 : (pL pH.rdr d1).2.s.length ≤ 1000000000 := Nat.le_trans ((Shr.list shr_rdr) d1) hsh1
  generalize (pL pH.rdr d1).1 = v2 at *
  generalize (pL pH.rdr d1).2 = d2 at *
  simp [s2]
  repeat first|((first|refine qa tOk rfl ?_|refine qb tOk rfl ?_|refine qc ?_|refine qd ?_|refine qe ?_);simp [s2])|refine AWP_block ?_|refine AWP_seq ?_
  refine AStep_FC rfl rfl (fc_get_Operator pH.opr shr_opr _ [.vptr q 0] [] _ q d2 (get_set hsq k2 _) hsh2 (fun H1 d1 a b c => fc_doperator H1 q d1 a b)) rfl ?_
  rintro _ G3 ⟨rfl, k3, f3⟩
  have r3 := f3.kd (get_set hsr r2 _) hrq
  have s3 := f3.kd (get_self s2 _) hsq
  have e3 := (fr_setc e2 hsl _).trans f3
  have hsh3 : (pL pH.opr d2).2.s.length ≤ 1000000000 := Nat.le_trans ((Shr.list shr_opr) d2) hsh2
  generalize (pL pH.opr d2).1 = v3 at *
  generalize (pL pH.opr d2).2 = d3 at *
  have gs : ∀ y, (G3.set S y)[S]? = some y := fun y => get_self s3 y
  have gr : ∀ y, (G3.set S y)[H.length]? = some (.vars [.i 0, .nils, .nils]) := fun y => get_set hsr r3 y
  have gr2 : ∀ y z, ((G3.set S y).set H.length z)[H.length]? = some z := fun y z => get_self (gr y) z
  simp [s3, gs, gr, gr2]
  repeat first|((first|refine qa tOk rfl ?_|refine qb tOk rfl ?_|refine qc ?_|refine qd ?_|refine qe ?_);simp [s3, gs, gr, gr2])|refine AWP_block ?_|refine AWP_seq ?_
  rw [← hR]
  exact ⟨rfl, get_set hrq (get_set hsq k3 _) _, fr_setc (fr_setc e3 hsl _) (Nat.le_refl _) _⟩
end Go.Abs
set_option maxRecDepth 100000
namespace Go.Abs
open Go Go.Proofs
set_option linter.unusedSimpArgs false
theorem sumB_iff (k : Nat) (hk : k < 4294967296) (a b c d : UInt8) : sumB k = [a, b, c, d] ↔ (k : Int) = a.toNat * 16777216 + b.toNat * 65536 + c.toNat * 256 + d.toNat := by
  have ha := a.toNat_lt
  have hb := b.toNat_lt
  have hc := c.toNat_lt
  have hd := d.toNat_lt
  unfold sumB
  simp only [List.cons.injEq, and_true]
  constructor
  · rintro ⟨rfl, rfl, rfl, rfl⟩
    simp; omega
  · intro h
    refine ⟨?_, ?_, ?_, ?_⟩ <;> (apply UInt8.toNat_inj.1; simp; omega)
theorem join4 (a b c d : UInt8) : bits .or .i64 (bits .or .i64 (bits .or .i64 (IntKind.i64.wrap (IntKind.i64.wrap (a.toNat : Int) * 2 ^ min 24 IntKind.i64.bits)) (IntKind.i64.wrap (IntKind.i64.wrap (b.toNat : Int) * 2 ^ min 16 IntKind.i64.bits))) (IntKind.i64.wrap (IntKind.i64.wrap (c.toNat : Int) * 2 ^ min 8 IntKind.i64.bits))) (IntKind.i64.wrap (d.toNat : Int)) = (a.toNat : Int) * 16777216 + b.toNat * 65536 + c.toNat * 256 + d.toNat := by
  have ha := a.toNat_lt
  have hb := b.toNat_lt
  have hc := c.toNat_lt
  have hd := d.toNat_lt
  have e24 : (2 : Int) ^ min 24 IntKind.i64.bits = 16777216 := by decide
  have e16 : (2 : Int) ^ min 16 IntKind.i64.bits = 65536 := by decide
  have e8 : (2 : Int) ^ min 8 IntKind.i64.bits = 256 := by decide
  have hw : ∀ n : Int, 0 ≤ n → n < 2 ^ 32 → IntKind.i64.wrap n = n := fun n h0 h1 => wrap_i64 _ (by omega) (by omega)
  rw [e24, e16, e8, wrap_i64 (a.toNat : Int) (by omega) (by omega), wrap_i64 (b.toNat : Int) (by omega) (by omega), wrap_i64 (c.toNat : Int) (by omega) (by omega), wrap_i64 (d.toNat : Int) (by omega) (by omega), wrap_i64 ((a.toNat : Int) * 16777216) (by omega) (by omega), wrap_i64 ((b.toNat : Int) * 65536) (by omega) (by omega), wrap_i64 ((c.toNat : Int) * 256) (by omega) (by omega)]
  rw [bits_join .i64 32 (by decide) hw 24 ((a.toNat : Int) * 16777216) ((b.toNat : Int) * 65536) (by omega) (by omega) (by omega) (by omega) (by omega) (by omega)]
  rw [bits_join .i64 32 (by decide) hw 16 ((a.toNat : Int) * 16777216 + (b.toNat : Int) * 65536) ((c.toNat : Int) * 256) (by omega) (by omega) (by omega) (by omega) (by omega) (by omega)]
  rw [bits_join .i64 32 (by decide) hw 8 ((a.toNat : Int) * 16777216 + (b.toNat : Int) * 65536 + (c.toNat : Int) * 256) (d.toNat : Int) (by omega) (by omega) (by omega) (by omega) (by omega) (by omega)]
attribute [local irreducible] ckSum sumB
set_option maxHeartbeats 4000000 in
theorem pc_opened (s : List UInt8) (hs : s.length ≤ 1000000000) : PC Tryz.prog 78 [.str s, .fn (.func 79) [] []] (fun r => r = .tup [avSnp (decodeR s).1, .i (decodeR s).2]) := by
  refine PC_body tOk Tryz.func78 rfl Tryz.results78 rfl (by simp [Tryz.ntmps78]) ?_
  rw [Tryz.ntmps78]
  simp only [argSlots]
  obtain ⟨R, hR⟩ : ∃ R, decodeR s = R := ⟨_, rfl⟩
  rw [hR]
  rw [decodeR, decodeBy, openR] at hR
  repeat first|((first|refine qa tOk rfl ?_|refine qb tOk rfl ?_|refine qc ?_|refine qd ?_|refine qe ?_);simp)|refine AWP_block ?_|refine AWP_seq ?_
  refine AWP_nrmV 0 rfl (by simp) ?_
  simp
  refine AWP_nrmV 1 rfl (by simp) ?_
  simp
  by_cases h1 : 1048576 < s.length
  · rw [if_pos h1] at hR
    refine AWP_cond2 rfl (fun h => ?_) (fun h => by simp at h; omega)
    repeat first|((first|refine qa tOk rfl ?_|refine qb tOk rfl ?_|refine qc ?_|refine qd ?_|refine qe ?_);simp)|refine AWP_block ?_|refine AWP_seq ?_
    rw [if_pos (by simp)] at hR
    rw [← hR]
    simp [zeroS]
  rw [if_neg h1] at hR
  refine AWP_cond2 rfl (fun h => by simp at h; omega) (fun h => ?_)
  repeat first|((first|refine qa tOk rfl ?_|refine qb tOk rfl ?_|refine qc ?_|refine qd ?_|refine qe ?_);simp)|refine AWP_block ?_|refine AWP_seq ?_
  by_cases h2 : s.length < 4
  · rw [if_pos h2] at hR
    have hw : IntKind.i64.wrap ((s.length : Int) - 4) = s.length - 4 := wrap_i64 _ (by omega) (by omega)
    refine AWP_cond2 rfl (fun h => ?_) (fun h => by rw [hw] at h; simp at h; omega)
    repeat first|((first|refine qa tOk rfl ?_|refine qb tOk rfl ?_|refine qc ?_|refine qd ?_|refine qe ?_);simp)|refine AWP_block ?_|refine AWP_seq ?_
    rw [if_pos (by simp)] at hR
    rw [← hR]
    simp [zeroS]
  rw [if_neg h2] at hR
  obtain ⟨n, hn⟩ : ∃ n, s.length = n + 4 := ⟨s.length - 4, by omega⟩
  have hw : IntKind.i64.wrap ((s.length : Int) - 4) = n := by rw [wrap_i64 _ (by omega) (by omega)]; omega
  refine AWP_cond2 rfl (fun h => by rw [hw] at h; simp at h; omega) (fun h => ?_)
  rw [show s.length - 4 = n by omega] at hR
  have hg0 : s[n]? = some (s[n]'(by omega)) := List.getElem?_eq_getElem _
  have hg1 : s[n + 1]? = some (s[n + 1]'(by omega)) := List.getElem?_eq_getElem _
  have hg2 : s[n + 2]? = some (s[n + 2]'(by omega)) := List.getElem?_eq_getElem _
  have hg3 : s[n + 3]? = some (s[n + 3]'(by omega)) := List.getElem?_eq_getElem _
  have hdr : s.drop n = [s[n]'(by omega), s[n + 1]'(by omega), s[n + 2]'(by omega), s[n + 3]'(by omega)] := by
    rw [List.drop_eq_getElem_cons (by omega), List.drop_eq_getElem_cons (by omega), List.drop_eq_getElem_cons (by omega), List.drop_eq_getElem_cons (by omega), List.drop_eq_nil_of_le (by omega)]
  generalize s[n]'(by omega) = c0 at *
  generalize s[n + 1]'(by omega) = c1 at *
  generalize s[n + 2]'(by omega) = c2 at *
  generalize s[n + 3]'(by omega) = c3 at *
  rw [hdr] at hR
  have w1 : IntKind.i64.wrap ((n : Int) + 1) = n + 1 := wrap_i64 _ (by omega) (by omega)
  have w2 : IntKind.i64.wrap ((n : Int) + 2) = n + 2 := wrap_i64 _ (by omega) (by omega)
  have w3 : IntKind.i64.wrap ((n : Int) + 3) = n + 3 := wrap_i64 _ (by omega) (by omega)
  have l0 : (n : Int) < s.length := by omega
  have l1 : (n : Int) + 1 < s.length := by omega
  have l2 : (n : Int) + 2 < s.length := by omega
  have l3 : (n : Int) + 3 < s.length := by omega
  have b1 : (0 : Int) ≤ (n : Int) + 1 := by omega
  have b2 : (0 : Int) ≤ (n : Int) + 2 := by omega
  have b3 : (0 : Int) ≤ (n : Int) + 3 := by omega
  have t1 : ((n : Int) + 1).toNat = n + 1 := by omega
  have t2 : ((n : Int) + 2).toNat = n + 2 := by omega
  have t3 : ((n : Int) + 3).toNat = n + 3 := by omega
  repeat first|((first|refine qa tOk rfl ?_|refine qb tOk rfl ?_|refine qc ?_|refine qd ?_|refine qe ?_);simp [hw])|refine AWP_block ?_|refine AWP_seq ?_
  refine AWP_drawT tOk mixed [] (.val 0 (.val 1 (.val 2 (.val 3 (.val 4 (.val 5 (.val 6 (.val 7 (.val 8 (.val 9 (.val 10 (.val 11 (.val 12 (.val 13 (.val 14 (.val 15 (.val 16 (.val 17 (.val 18 (.val 19 (.val 20 (.val 21 (.val 22 (.val 23 (.val 24 (.val 25 (.done))))))))))))))))))))))))))) rfl (by kernel_rfl) ?_
  simp [hw, w1, w2, w3, l0, l1, l2, l3, hg0, hg1, hg2, hg3, b1, b2, b3, t1, t2, t3]
  refine AWP_keep (sl' := [(0, .str s), (1, .fn (.func 79) [] []), (4, .vptr 0 0), (5, .i 0), (6, .vptr 1 0), (7, .i n), (8, .i ((c0.toNat : Int) * 16777216 + c1.toNat * 65536 + c2.toNat * 256 + c3.toNat))]) ?_ (by simp [join4])
  have hnl : (n : Int) ≤ s.length := by omega
  have hnl' : n ≤ s.length := by omega
  repeat first|((first|refine qa tOk rfl ?_|refine qb tOk rfl ?_|refine qc ?_|refine qd ?_|refine qe ?_);simp [hnl, hnl'])|refine AWP_block ?_|refine AWP_seq ?_
  refine AStep_PC rfl rfl (by simp) (pc_Checksum (s.take n) (by simp; omega)) rfl ?_
  rintro _ rfl
  simp
  have hck := ckSum_lt (s.take n)
  have hiff := sumB_iff _ hck c0 c1 c2 c3
  repeat first|((first|refine qa tOk rfl ?_|refine qb tOk rfl ?_|refine qc ?_|refine qd ?_|refine qe ?_);simp)|refine AWP_block ?_|refine AWP_seq ?_
  by_cases he : sumB (ckSum (s.take n)) = [c0, c1, c2, c3]
  · have hz := hiff.1 he
    have ho : (if sumB (ckSum (s.take n)) ≠ [c0, c1, c2, c3] then (⟨[], 26⟩ : Dc) else ⟨s.take n, 0⟩) = ⟨s.take n, 0⟩ := if_neg (fun h => h he)
    rw [ho] at hR
    rw [if_neg (fun h => h rfl)] at hR
    refine AWP_cond2 rfl (fun h => by rw [hz] at h; simp at h) (fun h => ?_)
    repeat first|((first|refine qa tOk rfl ?_|refine qb tOk rfl ?_|refine qc ?_|refine qd ?_|refine qe ?_);simp [hnl, hnl'])|refine AWP_block ?_|refine AWP_seq ?_
    refine AStep_FC rfl rfl (fc_dsnapshot _ 2 ⟨s.take n, 0⟩ rfl (by simp; omega)) rfl ?_
    rintro _ G ⟨rfl, k1, f1⟩
    have r0 := f1.kd (j := 0) (x := .vars [.i 0, .list [], .list []]) rfl (by decide)
    have r1 := f1.kd (j := 1) (x := .vars [.i 0, .list [], .list []]) rfl (by decide)
    have hl := f1.1
    simp at hl
    generalize (pH.snp ⟨s.take n, 0⟩).1 = v at *
    generalize (pH.snp ⟨s.take n, 0⟩).2 = d at *
    simp
    repeat first|((first|refine qa tOk rfl ?_|refine qb tOk rfl ?_|refine qc ?_|refine qd ?_|refine qe ?_);simp)|refine AWP_block ?_|refine AWP_seq ?_
    obtain ⟨K, hK⟩ : ∃ K, G.length = K := ⟨_, rfl⟩
    obtain ⟨G1, hG1⟩ : ∃ G1, G ++ [AObj.vars [.i v.number, .list (v.readers.map avRdr), .list (v.operators.map avOpr)]] = G1 := ⟨_, rfl⟩
    have q1 : G1[2]? = some (dX d) := by rw [← hG1]; exact get_app k1 _
    have q0 : G1[0]? = some (.vars [.i 0, .list [], .list []]) := by rw [← hG1]; exact get_app r0 _
    have q2 : G1[1]? = some (.vars [.i 0, .list [], .list []]) := by rw [← hG1]; exact get_app r1 _
    have q3 : G1[K]? = some (.vars [.i v.number, .list (v.readers.map avRdr), .list (v.operators.map avOpr)]) := by rw [← hG1, ← hK]; simp
    have hl1 : G1.length = K + 1 := by rw [← hG1, ← hK]; simp
    rw [hG1, hK]
    have q1' : G1[2]? = some (.vars [.str d.s, .i d.e]) := q1
    simp [q1']
    by_cases hds : d.s = []
    · refine AWP_cond2 rfl (fun h => by simp [hds] at h) (fun h => ?_)
      repeat first|((first|refine qa tOk rfl ?_|refine qb tOk rfl ?_|refine qc ?_|refine qd ?_|refine qe ?_);simp [q1'])|refine AWP_block ?_|refine AWP_seq ?_
      by_cases hde : d.e = 0
      · refine AWP_cond2 rfl (fun h => by simp [hde] at h) (fun h => ?_)
        rw [if_neg (fun h => h hde), if_neg (fun h => h hds)] at hR
        have g0 : ∀ y, (G1.set 0 y)[0]? = some y := fun y => get_self q0 y
        repeat first|((first|refine qa tOk rfl ?_|refine qb tOk rfl ?_|refine qc ?_|refine qd ?_|refine qe ?_);simp [q3, q0, g0])|refine AWP_block ?_|refine AWP_seq ?_
        rw [← hR]
        exact ⟨⟨rfl, rfl, rfl⟩, rfl⟩
      · refine AWP_cond2 rfl (fun h => ?_) (fun h => by simp [hde] at h)
        rw [if_pos hde] at hR
        have g0 : ∀ y, (G1.set 0 y)[0]? = some y := fun y => get_self q0 y
        have g2 : ∀ y, (G1.set 0 y)[2]? = some (.vars [.str d.s, .i d.e]) := fun y => get_set (by decide) q1' y
        repeat first|((first|refine qa tOk rfl ?_|refine qb tOk rfl ?_|refine qc ?_|refine qd ?_|refine qe ?_);simp)|refine AWP_block ?_|refine AWP_seq ?_
        refine AWP_drawT tOk mixed [5] (.val 0 (.val 1 (.val 2 (.val 3 (.two 4 (.one 5 (.val 6 (.done))) 5 (.val 4 (.val 6 (.done)))))))) rfl (by kernel_rfl) ?_
        simp [q1', q0, q2, g0, g2]
        repeat first|((first|refine qa tOk rfl ?_|refine qb tOk rfl ?_|refine qc ?_|refine qd ?_|refine qe ?_);simp [g0])|refine AWP_block ?_|refine AWP_seq ?_
        rw [← hR]
        simp [zeroS]
    · refine AWP_cond2 rfl (fun h => ?_) (fun h => by simp [hds] at h)
      repeat first|((first|refine qa tOk rfl ?_|refine qb tOk rfl ?_|refine qc ?_|refine qd ?_|refine qe ?_);simp)|refine AWP_block ?_|refine AWP_seq ?_
      refine AStep_FC rfl rfl (fc_dfail G1 2 d 3 q1) rfl ?_
      rintro _ _ ⟨rfl, rfl⟩
      have hne : (d.fail 3).e ≠ 0 := fail_ne (by decide)
      have hR2 : (zeroS, (d.fail 3).e) = R := by
        rw [← hR]
        unfold Dc.fail
        by_cases hde : d.e = 0
        · rw [if_pos hde, if_neg (fun h => h hde), if_pos hds]
        · rw [if_neg hde, if_pos hde]
      clear hR
      have p1 := get_self q1 (dX (d.fail 3))
      have p0 := get_set (j := 2) (by decide) q0 (dX (d.fail 3))
      have p2 := get_set (j := 2) (by decide) q2 (dX (d.fail 3))
      generalize G1.set 2 (dX (d.fail 3)) = G2 at *
      generalize d.fail 3 = d2 at *
      have p1' : G2[2]? = some (.vars [.str d2.s, .i d2.e]) := p1
      simp [p1']
      repeat first|((first|refine qa tOk rfl ?_|refine qb tOk rfl ?_|refine qc ?_|refine qd ?_|refine qe ?_);simp [p1'])|refine AWP_block ?_|refine AWP_seq ?_
      refine AWP_cond2 rfl (fun h => ?_) (fun h => by simp [hne] at h)
      have g0 : ∀ y, (G2.set 0 y)[0]? = some y := fun y => get_self p0 y
      have g2 : ∀ y, (G2.set 0 y)[2]? = some (.vars [.str d2.s, .i d2.e]) := fun y => get_set (by decide) p1' y
      repeat first|((first|refine qa tOk rfl ?_|refine qb tOk rfl ?_|refine qc ?_|refine qd ?_|refine qe ?_);simp)|refine AWP_block ?_|refine AWP_seq ?_
      refine AWP_drawT tOk mixed [5] (.val 0 (.val 1 (.val 2 (.val 3 (.two 4 (.one 5 (.val 6 (.done))) 5 (.val 4 (.val 6 (.done)))))))) rfl (by kernel_rfl) ?_
      simp [p1', p0, p2, g0, g2]
      repeat first|((first|refine qa tOk rfl ?_|refine qb tOk rfl ?_|refine qc ?_|refine qd ?_|refine qe ?_);simp [g0])|refine AWP_block ?_|refine AWP_seq ?_
      rw [← hR2]
      simp [zeroS]
  · have ho : (if sumB (ckSum (s.take n)) ≠ [c0, c1, c2, c3] then (⟨[], 26⟩ : Dc) else ⟨s.take n, 0⟩) = ⟨[], 26⟩ := if_pos he
    rw [ho] at hR
    rw [if_pos (by simp)] at hR
    have hz : ¬ ((ckSum (s.take n) : Nat) : Int) = (c0.toNat : Int) * 16777216 + c1.toNat * 65536 + c2.toNat * 256 + c3.toNat := fun h => he (hiff.2 h)
    refine AWP_cond2 rfl (fun h => ?_) (fun h => by exfalso; apply hz; simpa using h)
    repeat first|((first|refine qa tOk rfl ?_|refine qb tOk rfl ?_|refine qc ?_|refine qd ?_|refine qe ?_);simp)|refine AWP_block ?_|refine AWP_seq ?_
    rw [← hR]
    simp [zeroS]
theorem pc_Decode (s : List UInt8) (hs : s.length ≤ 1000000000) : PC Tryz.prog 43 [.str s] (fun r => r = .tup [avSnp (decodeR s).1, .i (decodeR s).2]) := by
  refine PC_body tOk Tryz.func43 rfl Tryz.results43 rfl (by simp [Tryz.ntmps43]) ?_
  rw [Tryz.ntmps43]
  simp only [argSlots]
  repeat first|((first|refine qa tOk rfl ?_|refine qb tOk rfl ?_|refine qc ?_|refine qd ?_|refine qe ?_);simp)|refine AWP_block ?_|refine AWP_seq ?_
  refine AStep_PC rfl rfl (by simp) (pc_opened s hs) rfl ?_
  rintro _ rfl
  simp
  repeat first|((first|refine qa tOk rfl ?_|refine qb tOk rfl ?_|refine qc ?_|refine qd ?_|refine qe ?_);simp)|refine AWP_block ?_|refine AWP_seq ?_
end Go.Abs
set_option maxRecDepth 100000
namespace Go.Abs
open Go Go.Sort

theorem PVR.of_val {w : World} {I : Nat → Prop} {u : Value} {x : AV} (hx : x.val = some u) : PVR w I u x := by
  cases x <;> simp [AV.val] at hx <;> subst hx
  · exact .bool _
  · exact .int _ _
  · exact .str _

/-- A row of plain cells behind an own slice, in the sort kit's words. -/
structure RowOf (k : Nat) (xs : List AV) (F : Array Value) : Prop where
  size : F.size = xs.length * k
  width : ∀ x ∈ xs, x.cells.length = k
  cell : ∀ (i : Nat) (x : AV), xs[i]? = some x → ∀ (j : Nat) (y : AV), x.cells[j]? = some y → y.val = some F[i * k + j]!

section
variable {W0 : World} {I0 : Nat → Prop} {w : World} {I : Nat → Prop} {m : Nat → Option Nat} {H : List AObj} {p b : Nat} {e : TypeId} {k : Nat} {xs : List AV} {F : Array Value}

theorem own_row (hws : WS W0 I0 w I m H) (ho : H[p]? = some (.arr e k xs)) (hm : m p = some b) (hF : RowOf k xs F) : Holds id w b 0 F ∧ b < w.heap.size := by
  obtain ⟨_, _, hb⟩ := hws.own p _ b ho rfl hm
  refine ⟨fun j hj => ?_, hb⟩
  rcases hws.obj p _ ho with ⟨e1, _⟩ | ⟨b', cap, vs, hb', hh, q1, q2, q3, q4, hr⟩
  · rw [hm] at e1; cases e1
  obtain rfl : b = b' := by rw [hm] at hb'; exact Option.some.inj hb'
  have hk : 0 < k := by
    rcases Nat.eq_zero_or_pos k with h | h
    · rw [hF.size, h] at hj; simp at hj
    · exact h
  have hjs : j < xs.length * k := by rw [← hF.size]; exact hj
  have hi : j / k < xs.length := Nat.div_lt_of_lt_mul (by rwa [Nat.mul_comm] at hjs)
  have hc := hF.width _ (List.getElem_mem hi)
  have hmod : j % k < (xs[j / k]).cells.length := by rw [hc]; exact Nat.mod_lt _ hk
  have hdm : j / k * k + j % k = j := by rw [Nat.mul_comm]; exact Nat.div_add_mod _ _
  obtain ⟨v, hv, hp⟩ := hr (j / k) _ (List.getElem?_eq_getElem hi) (j % k) _ (List.getElem?_eq_getElem hmod)
  have := hp.val (hF.cell _ _ (List.getElem?_eq_getElem hi) _ _ (List.getElem?_eq_getElem hmod))
  rw [hdm] at hv this
  subst this
  simp [World.cell?, World.frozen?, hh, hv]

theorem own_put (hws : WS W0 I0 w I m H) (ho : H[p]? = some (.arr e k xs)) (hm : m p = some b) (hF : RowOf k xs F) {xs' : List AV} {F' : Array Value} (hl : xs'.length = xs.length) (hF' : RowOf k xs' F') (n : Nat) (os : Array Obj) :
    WS W0 I0 (grow (putRow id (Sort.ahead w n) b 0 F') os) I m (H.set p (.arr e k xs')) ∧ Fut H.length w I m (grow (putRow id (Sort.ahead w n) b 0 F') os) I m := by
  obtain ⟨_, _, hb⟩ := hws.own p _ b ho rfl hm
  rcases hws.obj p _ ho with ⟨e1, _⟩ | ⟨b', cap, vs, hb', hh, q1, q2, q3, q4, hr⟩
  · rw [hm] at e1; cases e1
  obtain rfl : b = b' := by rw [hm] at hb'; exact Option.some.inj hb'
  have hheap : ∀ c, c < w.heap.size → (grow (putRow id (Sort.ahead w n) b 0 F') os).heap[c]? = if b = c then (w.heap[c]?).map (onCells (putCells id 0 F')) else w.heap[c]? := by
    intro c hc
    simp only [grow, putRow, mapBlock, Sort.ahead]
    rw [Array.getElem?_append_left (by simpa using hc), Array.getElem?_modify]
  have hhb : (grow (putRow id (Sort.ahead w n) b 0 F') os).heap[b]? = some (.cells (putCells id 0 F' vs) e (0, 0)) := by
    rw [hheap b hb, if_pos rfl, hh]; rfl
  have hg : w.grownBy (grow (putRow id (Sort.ahead w n) b 0 F') os) (some b) := ⟨rfl, rfl, rfl, by simp [grow, putRow, mapBlock, Sort.ahead], fun c hc hne => by
    rw [hheap c hc, if_neg (fun h => hne (by rw [h]))]⟩
  refine hws.set (o' := .arr e k xs') ho rfl hm hg (fun s hs => ?_) (fun m' hf => .inr ⟨b, cap, putCells id 0 F' vs, rfl, hhb, by omega, q2, by simp [putCells, q3], hF'.width, fun i x hx j y hy => ?_⟩)
  · simp only [World.shape?, hh] at hs
    simp only [World.shape?, hhb]
    simpa [putCells] using hs
  · have hi : i < xs'.length := (List.getElem?_eq_some_iff.1 hx).1
    have hj : j < k := by
      have := hF'.width x (List.mem_of_getElem? hx)
      rw [← this]; exact (List.getElem?_eq_some_iff.1 hy).1
    have hij : i * k + j < xs'.length * k := by
      have := Nat.mul_le_mul_right k (show i + 1 ≤ xs'.length from hi)
      rw [Nat.add_mul, Nat.one_mul] at this
      omega
    have hij' : i * k + j < vs.size := by
      rw [q3]
      have := Nat.mul_le_mul_right k (show xs'.length ≤ cap by omega)
      omega
    refine ⟨F'[i * k + j]!, ?_, PVR.of_val (hF'.cell i x hx j y hy)⟩
    have := hF'.size
    simp only [putCells, Array.getElem?_mapIdx, Array.getElem?_eq_getElem hij', Option.map_some]
    rw [if_pos (by omega)]
    rfl

theorem cons_arr (v : Value) (us : List Value) : #[v] ++ us.toArray = ⟨v :: us⟩ := by simp

/-- A library function that turns a row in place. -/
theorem FC_row {P : Program} [Env P] {f : FuncId} {rest : List AV} (hc : Callable P f) {len : Nat} (hxs : xs.length = len) (ho : H[p]? = some (.arr e k xs)) (hF : RowOf k xs F)
    (us : List Value) (hu : ∀ (w : World) (I : Nat → Prop) (m : Nat → Option Nat) (vs : List Value), vs.length = rest.length → (∀ (i : Nat) (v : Value) (x : AV), vs[i]? = some v → rest[i]? = some x → VR w I m H.length v x) → vs = us)
    (Rx : List AV → Prop)
    (h : ∀ (b cap : Nat) (w : World), Holds id w b 0 F → b < w.heap.size → len ≤ cap → Calls P f (#[.slice (some ⟨b, 0, none⟩) len cap] ++ us.toArray) w fun en w' => en = .returned (.tuple #[]) ∧ ∃ (xs' : List AV) (F' : Array Value) (n : Nat) (os : Array Obj), Rx xs' ∧ xs'.length = xs.length ∧ RowOf k xs' F' ∧ w' = grow (putRow id (Sort.ahead w n) b 0 F') os)
    (h0 : xs = [] → Rx [] ∧ ∀ (w : World), Calls P f (#[.slice none 0 0] ++ us.toArray) w fun en w' => en = .returned (.tuple #[]) ∧ w' = w) :
    FC P f (.sl p k 0 len :: rest) H (fun r H' => r = .tup [] ∧ ∃ xs', Rx xs' ∧ H' = H.set p (.arr e k xs')) := by
  refine ⟨hc, fun W0 I0 w I m vals hE hws hsz hv => ?_⟩
  rcases vals with ⟨vals⟩
  cases vals with
  | nil => simp at hsz
  | cons v vs =>
    have hvs : vs = us := hu w I m vs (by simpa using hsz) fun i v x a b => hv (i + 1) v x (by simpa using a) (by simpa using b)
    subst hvs
    have hv0 := hv 0 v _ rfl rfl
    have tupR : ∀ (w : World) (I : Nat → Prop) (m : Nat → Option Nat) (n : Nat), VR w I m n (.tuple #[]) (.tup []) := fun w I m n => .tup _ _ rfl (fun i v x a => by simp at a)
    rcases hv0.sl_inv with ⟨b, cap, t, hb, hn, hsh, hle, hmax, hse⟩ | ⟨hb, hn, _, hl0, hse⟩ | ⟨_, _, hlo, _, _⟩
    · subst hse
      obtain ⟨g1, g2⟩ := own_row hws ho hb hF
      have := h b cap w g1 g2 hle
      simp only [Nat.zero_mul]
      refine Calls.mono (by rw [cons_arr] at this; exact this) ?_
      rintro en w' ⟨rfl, xs', F', n, os, hx, hl, hF', rfl⟩
      obtain ⟨k1, k2⟩ := own_put hws ho hb hF hl hF' n os
      exact ⟨_, _, _, I, m, ⟨rfl, xs', hx, rfl⟩, rfl, k1, by simp, k2, tupR _ _ _ _⟩
    · subst hse
      have hx0 : xs = [] := by cases xs with | nil => rfl | cons => simp at hxs; omega
      obtain ⟨r0, r1⟩ := h0 hx0
      subst hl0
      refine Calls.mono (by have := r1 w; rw [cons_arr] at this; exact this) ?_
      rintro en w' ⟨rfl, rfl⟩
      refine ⟨_, _, H, I, m, ⟨rfl, [], r0, ?_⟩, rfl, hws, Nat.le_refl _, .refl _ _ _ _, tupR _ _ _ _⟩
      rw [← hx0]
      exact (List.ext_getElem? fun i => by
        by_cases hi : i = p
        · subst hi; rw [ho, List.getElem?_set_self (List.getElem?_eq_some_iff.1 ho).1]
        · rw [List.getElem?_set_ne (fun h => hi h.symm)])
    · omega
end
end Go.Abs
set_option maxRecDepth 100000
namespace Go.Abs
open Go Go.Sort
section
variable {W0 : World} {I0 : Nat → Prop} {w : World} {I : Nat → Prop} {m : Nat → Option Nat} {H : List AObj} {p b : Nat} {e : TypeId} {k : Nat} {xs : List AV} {F : Array Value}
/-- Rows of one cell. -/
theorem rowI (zs : List Int) : RowOf 1 (zs.map (AV.int .i64)) (zs.map (Value.int .i64)).toArray where
  size := by simp
  width x hx := by
    obtain ⟨y, _, rfl⟩ := List.mem_map.1 hx
    rfl
  cell i x hx j y hy := by
    rw [List.getElem?_map] at hx
    obtain ⟨z, hz, rfl⟩ := Option.map_eq_some_iff.1 hx
    obtain ⟨hi, rfl⟩ := List.getElem?_eq_some_iff.1 hz
    have hj : j = 0 := by have := (List.getElem?_eq_some_iff.1 hy).1; simp [AV.cells] at this; exact this
    subst hj
    simp [AV.cells] at hy
    subst hy
    rw [Nat.mul_one, Nat.add_zero, getElem!_pos _ i (by simpa using hi)]
    simp [AV.val]
theorem holds_int {w : World} {b : Nat} {zs : List Int} (h : Holds id w b 0 (zs.map (Value.int .i64)).toArray) : Holds (Value.int .i64) w b 0 zs.toArray := fun j hj => by
  have hj' : j < zs.length := by simpa using hj
  have := h j (by simpa using hj')
  rw [getElem!_pos _ j (by simpa using hj')] at this
  rw [getElem!_pos _ j (by simpa using hj')]
  simpa using this
theorem putRow_int (w : World) (b : Nat) (zs : List Int) : putRow (Value.int .i64) w b 0 zs.toArray = putRow id w b 0 (zs.map (Value.int .i64)).toArray := by
  unfold putRow
  refine mapBlock_congr _ _ _ _ fun c e fr _ => ?_
  unfold putCells
  refine Array.ext (by simp) fun i h1 h2 => ?_
  simp only [Array.getElem_mapIdx, List.size_toArray, List.length_map, id]
  split
  · rename_i hh
    have hi : i - 0 < zs.length := by omega
    rw [getElem!_pos _ (i - 0) (by simpa using hi), getElem!_pos _ (i - 0) (by simpa using hi)]
    simp
  · rfl
end
end Go.Abs
/-
  DERIVED: THE SHELF's CONTRACTS AT THIS DUMP, IN PLAIN WORDS (tools/lay-plain.mjs out of 'TryzShelf.lean', which tools/lay-shelf.mjs wrote): THE SAME DECLARATIONS UNDER THE SAME NAMES: 'import', 'namespace', 'open', 'def', 'theorem' AND NOTHING ELSE: no command of the shelf's: FOR A HAND-IN. Each laying: the table of numbers ('.._ren') and one theorem, a field a fact of the dump's own or the kernel's comparison; each contract: ONE APPLICATION.
-/
namespace Go.Proofs
open Go.Shelf
def Tryz.lays189_ren : Go.Shelf.Ren := ⟨fun | 189 => 73 | 125 => 110 | 257 => 109 | 128 => 163 | 129 => 164 | 294 => 154 | 295 => 155 | 296 => 156 | 297 => 157 | 298 => 158 | 299 => 159 | 216 => 160 | 300 => 161 | 301 => 162 | 328 => 203 | 329 => 204 | 330 => 205 | 331 => 206 | 332 => 207 | 215 => 208 | 343 => 233 | n => n, fun | 28 => 27 | 3 => 3 | 46 => 173 | 0 => 0 | 51 => 228 | 53 => 230 | 4 => 4 | 183 => 222 | 182 => 221 | 131 => 54 | 5 => 5 | 9 => 9 | 218 => 272 | 222 => 276 | 228 => 300 | 229 => 71 | n => n, fun | n => n⟩
theorem Tryz.lays189 : Go.Proofs.Lays.n189 Tryz.prog Tryz.lays189_ren := {
  mixed := by kernel_rfl
  f125 := Tryz.func110.trans (congrArg some (by kernel_rfl))
  f128 := Tryz.func163.trans (congrArg some (by kernel_rfl))
  f129 := Tryz.func164.trans (congrArg some (by kernel_rfl))
  f189 := Tryz.func73.trans (congrArg some (by kernel_rfl))
  f215 := Tryz.func208.trans (congrArg some (by kernel_rfl))
  f216 := Tryz.func160.trans (congrArg some (by kernel_rfl))
  f257 := Tryz.func109.trans (congrArg some (by kernel_rfl))
  f294 := Tryz.func154.trans (congrArg some (by kernel_rfl))
  f295 := Tryz.func155.trans (congrArg some (by kernel_rfl))
  f296 := Tryz.func156.trans (congrArg some (by kernel_rfl))
  f297 := Tryz.func157.trans (congrArg some (by kernel_rfl))
  f298 := Tryz.func158.trans (congrArg some (by kernel_rfl))
  f299 := Tryz.func159.trans (congrArg some (by kernel_rfl))
  f300 := Tryz.func161.trans (congrArg some (by kernel_rfl))
  f301 := Tryz.func162.trans (congrArg some (by kernel_rfl))
  f328 := Tryz.func203.trans (congrArg some (by kernel_rfl))
  f329 := Tryz.func204.trans (congrArg some (by kernel_rfl))
  f330 := Tryz.func205.trans (congrArg some (by kernel_rfl))
  f331 := Tryz.func206.trans (congrArg some (by kernel_rfl))
  f332 := Tryz.func207.trans (congrArg some (by kernel_rfl))
  f343 := Tryz.func233.trans (congrArg some (by kernel_rfl))
  t0 := Tryz.underlying0
  a0 := Tryz.isAgg0
  z0 := Tryz.sizeOf0
  v0 := Tryz.zeroValue0
  t3 := Tryz.underlying3
  a3 := Tryz.isAgg3
  z3 := Tryz.sizeOf3
  v3 := Tryz.zeroValue3
  t4 := Tryz.underlying4
  a4 := Tryz.isAgg4
  z4 := Tryz.sizeOf4
  v4 := Tryz.zeroValue4
  t5 := Tryz.underlying5
  a5 := Tryz.isAgg5
  z5 := Tryz.sizeOf5
  v5 := Tryz.zeroValue5
  t9 := Tryz.underlying9
  a9 := Tryz.isAgg9
  z9 := Tryz.sizeOf9
  v9 := Tryz.zeroValue9
  t28 := Tryz.underlying27
  a28 := Tryz.isAgg27
  z28 := Tryz.sizeOf27
  v28 := Tryz.zeroValue27
  t46 := Tryz.underlying173
  a46 := Tryz.isAgg173
  z46 := Tryz.sizeOf173
  v46 := Tryz.zeroValue173
  t51 := Tryz.underlying228
  a51 := Tryz.isAgg228
  z51 := Tryz.sizeOf228
  v51 := Tryz.zeroValue228
  t53 := Tryz.underlying230
  a53 := Tryz.isAgg230
  z53 := Tryz.sizeOf230
  v53 := Tryz.zeroValue230
  t131 := Tryz.underlying54
  a131 := Tryz.isAgg54
  z131 := Tryz.sizeOf54
  v131 := Tryz.zeroValue54
  t182 := Tryz.underlying221
  a182 := Tryz.isAgg221
  z182 := Tryz.sizeOf221
  v182 := Tryz.zeroValue221
  t183 := Tryz.underlying222
  a183 := Tryz.isAgg222
  z183 := Tryz.sizeOf222
  v183 := Tryz.zeroValue222
  t218 := Tryz.underlying272
  a218 := Tryz.isAgg272
  z218 := Tryz.sizeOf272
  v218 := Tryz.zeroValue272
  t222 := Tryz.underlying276
  a222 := Tryz.isAgg276
  z222 := Tryz.sizeOf276
  v222 := Tryz.zeroValue276
  t228 := Tryz.underlying300
  a228 := Tryz.isAgg300
  z228 := Tryz.sizeOf300
  v228 := Tryz.zeroValue300
  t229 := Tryz.underlying71
  a229 := Tryz.isAgg71
  z229 := Tryz.sizeOf71
  v229 := Tryz.zeroValue71 }
open Go.Sort Go.RowKit in
theorem Tryz.slices_Sort_int (blk off cap : Nat) (zs : List Int) (w : World) (hH : Holds (Value.int .i64) w blk off zs.toArray) (hblk : blk < w.heap.size) (hsz : zs.length < 4611686018427387904) :
    Calls Tryz.prog 73 #[.slice (some ⟨blk, off, none⟩) zs.length cap] w fun e w' =>
      e = .returned (.tuple #[]) ∧ ∃ n os, w' = grow (putRow (Value.int .i64) (Sort.ahead w n) blk off (zs.mergeSort fun x y => decide (x ≤ y)).toArray) os := Any.slices_Sort_int Tryz.lays189 blk off cap zs w hH hblk hsz
open Go.RowKit Go.Sort in
/-- .. and plain. (LAID: no walk: one application.) -/
theorem Tryz.slices_Sort_int_none (p : Option Addr) (cap : Nat) (w : World) :
    Calls Tryz.prog 73 #[.slice p 0 cap] w fun e w' => e = .returned (.tuple #[]) ∧ w' = w := Any.slices_Sort_int_none Tryz.lays189 p cap w
end Go.Proofs
set_option maxRecDepth 100000
namespace Go.Abs
open Go Go.Proofs Go.RowKit Go.Shelf Go.Lib Go.Sort
set_option linter.unusedSimpArgs false
def sortI (zs : List Int) : List Int := zs.mergeSort fun x y => decide (x ≤ y)
theorem sortI_len (zs : List Int) : (sortI zs).length = zs.length := by simp [sortI]
theorem fc_SortInt (H : List AObj) (p : Nat) (zs : List Int) (hp : H[p]? = some (.arr 3 1 (zs.map (AV.int .i64)))) (hl : zs.length ≤ 1000000) :
    FC Tryz.prog 73 [.sl p 1 0 zs.length] H (fun r H' => r = .tup [] ∧ H' = H.set p (.arr 3 1 ((sortI zs).map (AV.int .i64)))) := by
  refine (FC_row (xs := zs.map (AV.int .i64)) (rest := []) (callable Tryz.func73 rfl rfl) (by simp) hp (rowI zs) [] (fun w I m vs a b => by simpa using a) (fun xs' => xs' = (sortI zs).map (AV.int .i64)) ?_ ?_).mono ?_
  · intro b cap w hH hb hc
    have := Tryz.slices_Sort_int b 0 cap zs w (holds_int hH) hb (by omega)
    refine Calls.mono (by simpa using this) ?_
    rintro e w' ⟨rfl, n, os, rfl⟩
    exact ⟨rfl, _, ((sortI zs).map (Value.int .i64)).toArray, n, os, rfl, by simp [sortI_len], rowI _, by rw [putRow_int]; rfl⟩
  · rintro h
    have hl0 : zs = [] := by simpa using h
    subst hl0
    exact ⟨by simp [sortI], fun w => by simpa using Tryz.slices_Sort_int_none none 0 w⟩
  · rintro r H' ⟨rfl, xs', rfl, rfl⟩
    exact ⟨rfl, rfl⟩
end Go.Abs
set_option maxRecDepth 100000
namespace Go.Abs
open Go Go.Proofs
set_option linter.unusedSimpArgs false
def numF (f : File) : Option Int := if (numbR preC f.name).2 = true then some (numbR preC f.name).1 else none
def numsOf (fs : List File) : List Int := fs.filterMap numF
def numbersR (d : Disk) : List Int := sortI (numsOf d.files)
theorem nums_take (fs : List File) (j : Nat) (h : j < fs.length) : numsOf (fs.take (j + 1)) = numsOf (fs.take j) ++ (numF fs[j]).toList := by
  rw [numsOf, List.take_succ_eq_append_getElem h, List.filterMap_append]
  cases h2 : numF fs[j] <;> simp [numsOf, h2]
theorem nums_le (fs : List File) : (numsOf fs).length ≤ fs.length := List.length_filterMap_le _ _
def NL (fs : List File) : Prop := fs.length ≤ 100000 ∧ ∀ f ∈ fs, f.name.length ≤ 1000000000
attribute [local irreducible] numbR
set_option maxHeartbeats 2000000 in
theorem pc_numbers (d : Disk) (hn : NL d.files) : PC Tryz.prog 39 [encD d] (fun r => r = .list ((numbersR d).map encI)) := by
  refine PC_body tOk Tryz.func39 rfl Tryz.results39 rfl (by simp [Tryz.ntmps39]) ?_
  rw [Tryz.ntmps39]
  simp only [argSlots]
  simp only [encD]
  obtain ⟨R, hR⟩ : ∃ R, numbersR d = R := ⟨_, rfl⟩
  rw [hR]
  rw [numbersR] at hR
  obtain ⟨hfl, hnl⟩ := hn
  generalize d.files = fs at *
  repeat first|((first|refine qa tOk rfl ?_|refine qb tOk rfl ?_|refine qc ?_|refine qd ?_|refine qe ?_);simp)|refine AWP_block ?_|refine AWP_seq ?_
  refine AWP_nilSlot 3 3 1 rfl ?_
  simp
  refine AWP_loop (ALoop_keep (sl' := [(3, .sl 1 1 0 0), (9, .list (fs.map encFl)), (10, .i fs.length), (11, .i 0)]) ?_ (by simp))
  refine ALoop_wf (P := Tryz.prog) (F := fun (u : Nat × Nat × List AObj) => ⟨[(3, .sl u.2.1 1 0 (numsOf (fs.take u.1)).length), (9, .list (fs.map encFl)), (10, .i fs.length), (11, .i u.1)], u.2.2⟩)
    (fun u => u.1 ≤ fs.length ∧ u.2.2[u.2.1]? = some (.arr 3 1 ((numsOf (fs.take u.1)).map (AV.int .i64)))) (fun u => fs.length - u.1) ?_ (0, 1, _) ⟨Nat.zero_le _, by simp [numsOf]⟩
  rintro ⟨j, p, G⟩ ⟨g1, g2⟩ ih
  simp only at g1 g2 ih ⊢
  repeat first|((first|refine qa tOk rfl ?_|refine qb tOk rfl ?_|refine qc ?_|refine qd ?_|refine qe ?_);simp)|refine AWP_block ?_|refine AWP_seq ?_
  refine AWP_cond2 rfl (fun h => ?_) (fun h => ?_)
  · have hlt : j < fs.length := by simpa using h
    have hw1 : IntKind.i64.wrap ((j : Int) + 1) = j + 1 := wrap_i64 _ (by omega) (by omega)
    have hnt := nums_take fs j hlt
    have hnle := nums_le (fs.take j)
    rw [List.length_take] at hnle
    have hfn := hnl fs[j] (List.getElem_mem hlt)
    have hih := ih
    repeat first|((first|refine qa tOk rfl ?_|refine qb tOk rfl ?_|refine qc ?_|refine qd ?_|refine qe ?_);simp [hlt])|refine AWP_block ?_|refine AWP_seq ?_
    generalize fs[j] = f at *
    refine AStep_PC rfl rfl (by simp) (pc_Number f.name hfn) rfl ?_
    rintro _ rfl
    simp
    by_cases hb : (numbR preC f.name).2 = true
    · have hnf : numF f = some (numbR preC f.name).1 := by rw [numF, if_pos hb]
      rw [hnf] at hnt
      generalize (numbR preC f.name).1 = n at *
      generalize numsOf (fs.take j) = zs at *
      have hzl : zs.length ≤ 100000 := by omega
      simp [hb]
      repeat first|((first|refine qa tOk rfl ?_|refine qb tOk rfl ?_|refine qc ?_|refine qd ?_|refine qe ?_);simp)|refine AWP_block ?_|refine AWP_seq ?_
      refine AWP_cond2 rfl (fun h => ?_) (fun h => by simp [hb] at h)
      obtain ⟨G1, hG1⟩ : ∃ G1, G ++ [AObj.vars [.str f.name, .str f.dur, .str f.vol]] = G1 := ⟨_, rfl⟩
      have hl1 : G1.length = G.length + 1 := by rw [← hG1]; simp
      have b6 : ∀ A : AObj, (G1 ++ [A])[p]? = some (.arr 3 1 (zs.map (AV.int .i64))) := fun A => get_app (by rw [← hG1]; exact get_app g2 _) _
      rw [hG1]
      repeat first|((first|refine qa tOk rfl ?_|refine qb tOk rfl ?_|refine qc ?_|refine qd ?_|refine qe ?_);simp)|refine AWP_block ?_|refine AWP_seq ?_
      refine AStep_appendS tOk rfl rfl T27 rfl T3 rfl (by decide) (by decide) rfl rfl rfl ?_
      simp [b6, hzl]
      refine ⟨by simp [appOk, b6, hzl] <;> omega, ?_⟩
      repeat first|((first|refine qa tOk rfl ?_|refine qb tOk rfl ?_|refine qc ?_|refine qd ?_|refine qe ?_);simp [hw1])|refine AWP_block ?_|refine AWP_seq ?_
      have key := hih (j + 1, G1.length + 1, (G1 ++ [AObj.arr 3 1 [.i n]]).set p .dead ++ [AObj.arr 3 1 ((zs ++ [n]).map (AV.int .i64))]) ⟨hlt, by rw [hnt]; exact get_new ..⟩ (by simp only; omega)
      rw [hnt] at key
      simp at key
      exact ALoop_keep key (by simp)
    · have hnf : numF f = none := by rw [numF, if_neg hb]
      rw [hnf] at hnt
      simp [hb]
      repeat first|((first|refine qa tOk rfl ?_|refine qb tOk rfl ?_|refine qc ?_|refine qd ?_|refine qe ?_);simp)|refine AWP_block ?_|refine AWP_seq ?_
      refine AWP_cond2 rfl (fun h => by simp [hb] at h) (fun h => ?_)
      repeat first|((first|refine qa tOk rfl ?_|refine qb tOk rfl ?_|refine qc ?_|refine qd ?_|refine qe ?_);simp [hw1])|refine AWP_block ?_|refine AWP_seq ?_
      have key := hih (j + 1, p, G ++ [AObj.vars [.str f.name, .str f.dur, .str f.vol]]) ⟨hlt, by rw [hnt]; simp only [Option.toList, List.append_nil]; exact get_app g2 _⟩ (by simp only; omega)
      rw [hnt] at key
      simp at key
      exact ALoop_keep key (by simp)
  · have hge : j = fs.length := by simp at h; omega
    subst hge
    rw [List.take_length] at *
    have hnle := nums_le fs
    have gs : ∀ y, (G.set p y)[p]? = some y := fun y => get_self g2 y
    repeat first|((first|refine qa tOk rfl ?_|refine qb tOk rfl ?_|refine qc ?_|refine qd ?_|refine qe ?_);simp)|refine AWP_block ?_|refine AWP_seq ?_
    refine AStep_FC rfl rfl (fc_SortInt G p _ g2 (by omega)) rfl ?_
    rintro _ _ ⟨rfl, rfl⟩
    simp
    repeat first|((first|refine qa tOk rfl ?_|refine qb tOk rfl ?_|refine qc ?_|refine qd ?_|refine qe ?_);simp [gs])|refine AWP_block ?_|refine AWP_seq ?_
    rw [hR]
    have hlr : (numsOf fs).length = R.length := by rw [← hR, sortI_len]
    exact ⟨by omega, by rw [hlr, List.take_of_length_le (by simp)]; rfl⟩
def listR (d : Disk) : List Int × Int := if checkD d ≠ 0 then ([], checkD d) else (numbersR d, 0)
attribute [local irreducible] checkD numbersR
theorem pc_cList (d : Disk) (hn : checkD d = 0 → NL d.files) : PC Tryz.prog 12 [encD d] (fun r => r = .tup [.list ((listR d).1.map encI), .i (listR d).2]) := by
  refine PC_body tOk Tryz.func12 rfl Tryz.results12 rfl (by simp [Tryz.ntmps12]) ?_
  rw [Tryz.ntmps12]
  simp only [argSlots]
  simp only [encD]
  obtain ⟨R, hR⟩ : ∃ R, listR d = R := ⟨_, rfl⟩
  rw [hR]
  rw [listR] at hR
  repeat first|((first|refine qa tOk rfl ?_|refine qb tOk rfl ?_|refine qc ?_|refine qd ?_|refine qe ?_);simp)|refine AWP_block ?_|refine AWP_seq ?_
  refine AStep_PC rfl rfl (by simp) (dpc25 d) rfl ?_
  rintro _ rfl
  simp
  repeat first|((first|refine qa tOk rfl ?_|refine qb tOk rfl ?_|refine qc ?_|refine qd ?_|refine qe ?_);simp)|refine AWP_block ?_|refine AWP_seq ?_
  by_cases hc : checkD d = 0
  · rw [if_neg (fun h => h hc)] at hR
    refine AWP_cond2 rfl (fun h => by simp [hc] at h) (fun h => ?_)
    repeat first|((first|refine qa tOk rfl ?_|refine qb tOk rfl ?_|refine qc ?_|refine qd ?_|refine qe ?_);simp)|refine AWP_block ?_|refine AWP_seq ?_
    refine AStep_PC rfl rfl (by simp) (pc_numbers d (hn hc)) rfl ?_
    rintro _ rfl
    simp
    repeat first|((first|refine qa tOk rfl ?_|refine qb tOk rfl ?_|refine qc ?_|refine qd ?_|refine qe ?_);simp)|refine AWP_block ?_|refine AWP_seq ?_
    rw [← hR]
    exact ⟨rfl, rfl⟩
  · rw [if_pos hc] at hR
    refine AWP_cond2 rfl (fun h => ?_) (fun h => by simp [hc] at h)
    repeat first|((first|refine qa tOk rfl ?_|refine qb tOk rfl ?_|refine qc ?_|refine qd ?_|refine qe ?_);simp)|refine AWP_block ?_|refine AWP_seq ?_
    rw [← hR]
    simp
def keepF (below : Int) (f : File) : Bool := !(numbR preW f.name).2 && (!(numbR preC f.name).2 || decide (below ≤ (numbR preC f.name).1))
def pruneR (d : Disk) (below : Int) : Disk × Int := if checkD d ≠ 0 then (zeroD, checkD d) else (⟨d.files.filter (keepF below), d.space⟩, 0)
end Go.Abs
set_option maxRecDepth 100000
namespace Go.Abs
open Go Go.Proofs
set_option linter.unusedSimpArgs false
attribute [simp] T56
theorem pc_newest (d : Disk) : PC Tryz.prog 42 [encD d] (fun r => r = .fn (.func 76) [] [.iptr [.list (d.files.map encFl), .i d.space]]) := by
  refine PC_body tOk Tryz.func42 rfl Tryz.results42 rfl (by simp [Tryz.ntmps42]) ?_
  rw [Tryz.ntmps42]
  simp only [argSlots]
  simp only [encD]
  repeat first|((first|refine qa tOk rfl ?_|refine qb tOk rfl ?_|refine qc ?_|refine qd ?_|refine qe ?_);simp)|refine AWP_block ?_|refine AWP_seq ?_
theorem pc_Backward (l : List Int) : PC Tryz.prog 77 [.list (l.map encI)] (fun r => r = .fn (.func 112) [] [.iptr [.list (l.map encI)]]) := by
  refine PC_body tOk Tryz.func77 rfl Tryz.results77 rfl (by simp [Tryz.ntmps77]) ?_
  rw [Tryz.ntmps77]
  simp only [argSlots]
  repeat first|((first|refine qa tOk rfl ?_|refine qb tOk rfl ?_|refine qc ?_|refine qd ?_|refine qe ?_);simp)|refine AWP_block ?_|refine AWP_seq ?_
def volN (d : Disk) (n : Int) : List UInt8 := match findF d.files (nameC n) 0 with
  | some i => (d.files[i]?.map (·.vol)).getD []
  | none => []
def loadL (d : Disk) : List Int → Option Snp
  | [] => none
  | n :: l => if (decodeR (volN d n)).2 = 0 ∧ (decodeR (volN d n)).1.number = n then some (decodeR (volN d n)).1 else loadL d l
def loadR (d : Disk) : Snp × Int := if checkD d ≠ 0 then (zeroS, checkD d) else match loadL d (numbersR d).reverse with
  | some s => (s, 0)
  | none => (zeroS, 6)
theorem findF_ex : ∀ (fs : List File) (s : List UInt8) (k : Nat), (∃ f ∈ fs, f.name = s) → ∃ i, findF fs s k = some (k + i) ∧ i < fs.length
  | [], _, _, ⟨f, hf, _⟩ => by simp at hf
  | g :: fs, s, k, ⟨f, hf, hs⟩ => by
    rw [findF]
    by_cases hg : g.name = s
    · exact ⟨0, by rw [if_pos hg]; rfl, by simp⟩
    · rw [if_neg hg]
      rcases List.mem_cons.1 hf with rfl | hf
      · exact absurd hs hg
      · obtain ⟨i, h1, h2⟩ := findF_ex fs s (k + 1) ⟨f, hf, hs⟩
        exact ⟨i + 1, by rw [h1]; congr 1; omega, by simp; omega⟩
theorem nums_mem {fs : List File} {n : Int} (h : n ∈ numsOf fs) : 1 ≤ n ∧ n ≤ 1099511627776 ∧ ∃ f ∈ fs, f.name = nameC n := by
  rw [numsOf, List.mem_filterMap] at h
  obtain ⟨f, hf, h⟩ := h
  rw [numF] at h
  split at h
  · rename_i hc
    injection h with h
    have := numb_inv (pre := preC) (s := f.name) (v := n) (by rw [← h, ← hc])
    exact ⟨this.1, this.2.1, f, hf, this.2.2⟩
  · cases h
theorem numbers_mem {d : Disk} {n : Int} (h : n ∈ numbersR d) : 1 ≤ n ∧ n ≤ 1099511627776 ∧ ∃ i, findF d.files (nameC n) 0 = some i ∧ ∃ h : i < d.files.length, volN d n = d.files[i].vol := by
  rw [numbersR, sortI, List.mem_mergeSort] at h
  obtain ⟨h1, h2, h3⟩ := nums_mem h
  obtain ⟨i, h4, h5⟩ := findF_ex d.files (nameC n) 0 h3
  rw [Nat.zero_add] at h4
  exact ⟨h1, h2, i, h4, h5, by rw [volN, h4]; simp [h5]⟩
def VL (fs : List File) : Prop := ∀ f ∈ fs, f.vol.length ≤ 1000000000
attribute [local irreducible] numbersR decodeR checkD
set_option maxHeartbeats 4000000 in
theorem pc_cLoad (d : Disk) (hn : checkD d = 0 → NL d.files) (hv : checkD d = 0 → VL d.files) : PC Tryz.prog 14 [encD d] (fun r => r = .tup [avSnp (loadR d).1, .i (loadR d).2]) := by
  refine PC_body tOk Tryz.func14 rfl Tryz.results14 rfl (by simp [Tryz.ntmps14]) ?_
  rw [Tryz.ntmps14]
  simp only [argSlots]
  simp only [encD]
  obtain ⟨R, hR⟩ : ∃ R, loadR d = R := ⟨_, rfl⟩
  rw [hR]
  rw [loadR] at hR
  repeat first|((first|refine qa tOk rfl ?_|refine qb tOk rfl ?_|refine qc ?_|refine qd ?_|refine qe ?_);simp)|refine AWP_block ?_|refine AWP_seq ?_
  refine AStep_PC rfl rfl (by simp) (dpc25 d) rfl ?_
  rintro _ rfl
  simp
  repeat first|((first|refine qa tOk rfl ?_|refine qb tOk rfl ?_|refine qc ?_|refine qd ?_|refine qe ?_);simp)|refine AWP_block ?_|refine AWP_seq ?_
  by_cases hc : checkD d = 0
  · rw [if_neg (fun h => h hc)] at hR
    refine AWP_cond2 rfl (fun h => by simp [hc] at h) (fun h => ?_)
    repeat first|((first|refine qa tOk rfl ?_|refine qb tOk rfl ?_|refine qc ?_|refine qd ?_|refine qe ?_);simp)|refine AWP_block ?_|refine AWP_seq ?_
    refine AStep_PC rfl rfl (by simp) (pc_newest d) rfl ?_
    rintro _ rfl
    simp
    repeat first|((first|refine qa tOk rfl ?_|refine qb tOk rfl ?_|refine qc ?_|refine qd ?_|refine qe ?_);simp)|refine AWP_block ?_|refine AWP_seq ?_
    obtain ⟨G, hG⟩ : ∃ G, loadL d (numbersR d).reverse = G := ⟨_, rfl⟩
    rw [hG] at hR
    refine AWP_rangeFunc rfl (Rf := fun _ H' => 3 < H'.length ∧ ∃ pend sl' ps' a' b', H'[3]? = some (.lp (Option.isNone pend) pend 34 sl' ps' a' b') ∧
      match G with
      | some s => pend = some Code.ret ∧ H'[1]? = some (.vars (cSnp s)) ∧ H'[2]? = some (.vars [.i 0])
      | none => pend = none ∧ H'[1]? = some (.vars [.i 0, .nils, .nils]) ∧ H'[2]? = some (.vars [.i 0])) ?_ ?_
    · simp
      refine gen_FC fun H1 hH1 => ?_
      have f1 : H1[1]? = some (.vars [.i 0, .nils, .nils]) := by rw [hH1]; rfl
      have f2 : H1[2]? = some (.vars [.i 0]) := by rw [hH1]; rfl
      have f3 := congrArg (fun h : List AObj => h[3]?) hH1
      simp at f3
      have hl1 : H1.length = 4 := by rw [hH1]; simp
      clear hH1
      refine FC_body tOk Tryz.func76 rfl Tryz.results76 rfl (by simp [Tryz.ntmps76]) ?_
      rw [Tryz.ntmps76]
      simp only [argSlots]
      repeat first|((first|refine qa tOk rfl ?_|refine qb tOk rfl ?_|refine qc ?_|refine qd ?_|refine qe ?_);simp)|refine AWP_block ?_|refine AWP_seq ?_
      refine AStep_PC rfl rfl (by simp) (pc_numbers d (hn hc)) rfl ?_
      rintro _ rfl
      simp
      refine AStep_PC rfl rfl (by simp) (pc_Backward (numbersR d)) rfl ?_
      rintro _ rfl
      simp
      repeat first|((first|refine qa tOk rfl ?_|refine qb tOk rfl ?_|refine qc ?_|refine qd ?_|refine qe ?_);simp)|refine AWP_block ?_|refine AWP_seq ?_
      obtain ⟨L3, hL3⟩ : ∃ L3, H1[3]? = L3 := ⟨_, rfl⟩
      refine AWP_rangeFunc rfl (Rf := fun _ H' => 5 < H'.length ∧ ∃ pend sl' ps' a' b', H'[5]? = some (.lp (Option.isNone pend) pend 30 sl' ps' a' b') ∧
        match G with
        | some s => pend = some Code.ret ∧ H'[1]? = some (.vars (cSnp s)) ∧ H'[2]? = some (.vars [.i 0]) ∧ ∃ sl' ps' a' b', H'[3]? = some (.lp false (some Code.ret) 34 sl' ps' a' b')
        | none => pend = none ∧ H'[1]? = some (.vars [.i 0, .nils, .nils]) ∧ H'[2]? = some (.vars [.i 0]) ∧ H'[3]? = L3) ?_ ?_
      · simp
        refine gen_FC fun H2 hH2 => ?_
        have g1 : H2[1]? = some (.vars [.i 0, .nils, .nils]) := by rw [hH2]; exact get_app f1 _
        have g2 : H2[2]? = some (.vars [.i 0]) := by rw [hH2]; exact get_app f2 _
        have g3 : H2[3]? = L3 := by rw [hH2, ← hL3]; exact List.getElem?_append_left (by omega)
        have g4 : H2[4]? = some (.vars [.yld 3]) := by rw [hH2, List.getElem?_append_right (by omega), hl1]; rfl
        have g5 := congrArg (fun h : List AObj => h[5]?) hH2
        simp only [List.getElem?_append_right (show H1.length ≤ 5 by omega), hl1] at g5
        simp at g5
        have hl2 : H2.length = 6 := by rw [hH2]; simp [hl1]
        clear hH2
        rw [hl1]
        obtain ⟨ns, hns⟩ : ∃ ns, numbersR d = ns := ⟨_, rfl⟩
        have hmem : ∀ n ∈ ns, 1 ≤ n ∧ n ≤ 1099511627776 ∧ ∃ i, findF d.files (nameC n) 0 = some i ∧ ∃ h : i < d.files.length, volN d n = d.files[i].vol := fun n h => numbers_mem (by rw [hns]; exact h)
        have hnl : ns.length ≤ 1000000 := by rw [← hns, numbersR, sortI_len]; have := nums_le d.files; have := (hn hc).1; omega
        rw [hns] at hG ⊢
        have l3 := hL3.symm.trans f3
        clear f1 f2 hL3 f3
        refine FC_body tOk Tryz.func112 rfl Tryz.results112 rfl (by simp [Tryz.ntmps112]) ?_
        rw [Tryz.ntmps112]
        simp only [argSlots]
        have hw0 : IntKind.i64.wrap ((ns.length : Int) - 1) = ns.length - 1 := wrap_i64 _ (by omega) (by omega)
        repeat first|((first|refine qa tOk rfl ?_|refine qb tOk rfl ?_|refine qc ?_|refine qd ?_|refine qe ?_);simp [hw0])|refine AWP_block ?_|refine AWP_seq ?_
        refine AWP_loop (ALoop_keep (sl' := [(0, .yld 5), (1, .iptr [.list (ns.map encI)]), (3, .i ((ns.length : Int) - 1))]) ?_ (by simp))
        refine ALoop_wf (P := Tryz.prog) (F := fun (u : Nat × List AObj) => ⟨[(0, .yld 5), (1, .iptr [.list (ns.map encI)]), (3, .i ((u.1 : Int) - 1))], u.2⟩)
          (fun u => u.1 ≤ ns.length ∧ loadL d (ns.take u.1).reverse = G ∧ u.2[1]? = some (.vars [.i 0, .nils, .nils]) ∧ u.2[2]? = some (.vars [.i 0]) ∧ u.2[3]? = L3 ∧ u.2[4]? = some (.vars [.yld 3]) ∧ u.2[5]? = H2[5]? ∧ 6 ≤ u.2.length) (fun u => u.1) ?_ (ns.length, H2) ⟨Nat.le_refl _, by rw [List.take_length]; exact hG, g1, g2, g3, g4, rfl, by simp only; omega⟩
        clear g1 g2 g3 g4 hl2
        rintro ⟨m, K⟩ ⟨k0, kG, k1, k2, k3, k4, k5, k6⟩ ih
        simp only at k0 kG k1 k2 k3 k4 k5 k6 ih ⊢
        repeat first|((first|refine qa tOk rfl ?_|refine qb tOk rfl ?_|refine qc ?_|refine qd ?_|refine qe ?_);simp)|refine AWP_block ?_|refine AWP_seq ?_
        rcases m with _ | m
        · refine AWP_cond2 rfl (fun h => by simp at h) (fun h => ?_)
          repeat first|((first|refine qa tOk rfl ?_|refine qb tOk rfl ?_|refine qc ?_|refine qd ?_|refine qe ?_);simp)|refine AWP_block ?_|refine AWP_seq ?_
          rw [List.take_zero, List.reverse_nil, loadL] at kG
          subst kG
          rw [g5] at k5
          exact ⟨by omega, none, ⟨_, _, _, _, k5⟩, rfl, k1, k2, k3⟩
        · refine AWP_cond2 rfl (fun h => ?_) (fun h => by simp at h; omega)
          have hlt : m < ns.length := by omega
          have hm1 : ((m + 1 : Nat) : Int) - 1 = m := by omega
          have hw1 : IntKind.i64.wrap ((m : Int) - 1) = m - 1 := wrap_i64 _ (by omega) (by omega)
          rw [List.take_succ_eq_append_getElem hlt, List.reverse_append, List.reverse_cons, List.reverse_nil, List.nil_append, List.singleton_append, loadL] at kG
          obtain ⟨n1, n2, i, n3, n4, n5⟩ := hmem ns[m] (List.getElem_mem hlt)
          rw [hm1]
          repeat first|((first|refine qa tOk rfl ?_|refine qb tOk rfl ?_|refine qc ?_|refine qd ?_|refine qe ?_);simp [hlt])|refine AWP_block ?_|refine AWP_seq ?_
          generalize ns[m] = n at *
          have k3' := k3.trans l3
          have k5' := k5.trans g5
          have hvl : (volN d n).length ≤ 1000000000 := by rw [n5]; exact hv hc _ (List.getElem_mem n4)
          have hvi : d.files[i]? = some d.files[i] := List.getElem?_eq_getElem n4
          by_cases hC : (decodeR (volN d n)).2 = 0 ∧ (decodeR (volN d n)).1.number = n
          · rw [if_pos hC] at kG
            subst kG
            refine AStep_yield rfl rfl (q := 5) rfl rfl k5' rfl rfl rfl (fun jm K2 => jm = some Code.ret ∧ 6 ≤ K2.length ∧ K2[1]? = some (.vars (cSnp (decodeR (volN d n)).1)) ∧ K2[2]? = some (.vars [.i 0]) ∧ ∃ sl' ps' a' b', K2[3]? = some (.lp false (some Code.ret) 34 sl' ps' a' b')) ?_ ?_
            · simp [putMany]
              have e1 : (K.set 5 .dead)[1]? = some (.vars [.i 0, .nils, .nils]) := get_set (by decide) k1 _
              have e2 : (K.set 5 .dead)[2]? = some (.vars [.i 0]) := get_set (by decide) k2 _
              have e3 := get_set (j := 5) (by decide) k3' .dead
              have e4 : (K.set 5 .dead)[4]? = some (.vars [.yld 3]) := get_set (by decide) k4 _
              have e5 : (K.set 5 .dead)[5]? = some .dead := get_self k5' _
              have e6 : (K.set 5 .dead).length = K.length := by simp
              generalize K.set 5 .dead = E at *
              have hl := Lib.itoa_length_le n (by omega) (by omega)
              have hl2 : 11 + (Lib.itoa n).length ≤ 9223372036854775807 := by omega
              have hfnd := dpc23 d (nameC n)
              rw [n3, findAV] at hfnd
              repeat first|((first|refine qa tOk rfl ?_|refine qb tOk rfl ?_|refine qc ?_|refine qd ?_|refine qe ?_);simp)|refine AWP_block ?_|refine AWP_seq ?_
              refine AWP_drawT tOk mixed [] (.val 0 (.val 1 (.one 2 (.val 3 (.one 4 (.val 5 (.val 6 (.val 7 (.val 8 (.val 9 (.done))))))))))) rfl (by kernel_rfl) ?_
              simp
              refine AStep_PC rfl rfl (by simp) (pc_Itoa n (by omega) (by omega)) rfl ?_
              rintro _ rfl
              simp [hl2]
              refine AStep_PC rfl rfl (by simp) (hfnd) rfl ?_
              rintro _ rfl
              simp
              repeat first|((first|refine qa tOk rfl ?_|refine qb tOk rfl ?_|refine qc ?_|refine qd ?_|refine qe ?_);simp)|refine AWP_block ?_|refine AWP_seq ?_
              have n4' : (i : Int) < d.files.length := by omega
              refine AWP_drawT tOk mixed [8] (.val 0 (.val 1 (.val 2 (.val 3 (.val 4 (.val 5 (.val 6 (.val 7 (.one 8 (.val 9 (.done))))))))))) rfl (by kernel_rfl) ?_
              simp [e4, n4, n4', hvi]
              rw [← n5]
              refine AStep_yield rfl rfl (q := 3) rfl rfl e3 rfl rfl rfl (fun jm K3 => jm = some Code.ret ∧ 6 ≤ K3.length ∧ K3[1]? = some (.vars (cSnp (decodeR (volN d n)).1)) ∧ K3[2]? = some (.vars [.i 0]) ∧ K3[5]? = some .dead) ?_ ?_
              · simp [putMany]
                have u1 : (E.set 3 .dead)[1]? = some (.vars [.i 0, .nils, .nils]) := get_set (by decide) e1 _
                have u2 : (E.set 3 .dead)[2]? = some (.vars [.i 0]) := get_set (by decide) e2 _
                have u3 : (E.set 3 .dead)[3]? = some .dead := get_self e3 _
                have u5 : (E.set 3 .dead)[5]? = some .dead := get_set (by decide) e5 _
                have u6 : (E.set 3 .dead).length = K.length := by simp [e6]
                generalize E.set 3 .dead = E2 at *
                repeat first|((first|refine qa tOk rfl ?_|refine qb tOk rfl ?_|refine qc ?_|refine qd ?_|refine qe ?_);simp)|refine AWP_block ?_|refine AWP_seq ?_
                refine AStep_PC rfl rfl (by simp) (pc_Decode (volN d n) hvl) rfl ?_
                rintro _ rfl
                simp
                generalize (decodeR (volN d n)).1 = sn at *
                generalize (decodeR (volN d n)).2 = er at *
                obtain ⟨rfl, hsn⟩ := hC
                repeat first|((first|refine qa tOk rfl ?_|refine qb tOk rfl ?_|refine qc ?_|refine qd ?_|refine qe ?_);simp)|refine AWP_block ?_|refine AWP_seq ?_
                have w0 : ∀ A : AObj, (E2 ++ [A])[E2.length]? = some A := fun A => by simp
                have w1 : ∀ A : AObj, (E2 ++ [A])[1]? = some (.vars [.i 0, .nils, .nils]) := fun A => get_app u1 _
                have w2 : ∀ A : AObj, (E2 ++ [A])[2]? = some (.vars [.i 0]) := fun A => get_app u2 _
                have w3 : ∀ A y, ((E2 ++ [A]).set 1 y)[2]? = some (.vars [.i 0]) := fun A y => get_set (by decide) (w2 A) y
                have w4 : ∀ A y z, (((E2 ++ [A]).set 1 y).set 2 z)[1]? = some y := fun A y z => get_set (by decide) (get_self (w1 A) y) z
                have w5 : ∀ A y z, (((E2 ++ [A]).set 1 y).set 2 z)[2]? = some z := fun A y z => get_self (w3 A y) z
                have w6 : ∀ A y z, (((E2 ++ [A]).set 1 y).set 2 z)[3]? = some .dead := fun A y z => get_set (by decide) (get_set (by decide) (get_app u3 _) y) z
                have w7 : ∀ A y z, (((E2 ++ [A]).set 1 y).set 2 z)[5]? = some .dead := fun A y z => get_set (by decide) (get_set (by decide) (get_app u5 _) y) z
                refine AWP_cond2 rfl (fun h => ?_) (fun h => by simp [hsn] at h)
                repeat first|((first|refine qa tOk rfl ?_|refine qb tOk rfl ?_|refine qc ?_|refine qd ?_|refine qe ?_);simp [w0, w1, w2, w3])|refine AWP_block ?_|refine AWP_seq ?_
                exact ⟨w6 _ _ _, rfl, by simp; omega, w4 _ _ _, w5 _ _ _, w7 _ _ _⟩
              · rintro jm K3 ⟨rfl, v1, v2, v3, v4⟩
                simp
                repeat first|((first|refine qa tOk rfl ?_|refine qb tOk rfl ?_|refine qc ?_|refine qd ?_|refine qe ?_);simp)|refine AWP_block ?_|refine AWP_seq ?_
                have v6 : 3 < K3.length := by omega
                refine AWP_cond2 rfl (fun _ => ?_) (fun h => by cases h)
                repeat first|((first|refine qa tOk rfl ?_|refine qb tOk rfl ?_|refine qc ?_|refine qd ?_|refine qe ?_);simp)|refine AWP_block ?_|refine AWP_seq ?_
                refine ⟨get_set (by decide) v4 _, rfl, by simp; omega, get_set (by decide) v2 _, get_set (by decide) v3 _, _, _, _, _, List.getElem?_set_self v6⟩
            · rintro jm K2 ⟨rfl, p1, p2, p3, s1, s2, s3, s4, p4⟩
              simp
              have p6 : 5 < K2.length := by omega
              refine AWP_cond2 rfl (fun _ => ?_) (fun h => by cases h)
              repeat first|((first|refine qa tOk rfl ?_|refine qb tOk rfl ?_|refine qc ?_|refine qd ?_|refine qe ?_);simp)|refine AWP_block ?_|refine AWP_seq ?_
              exact ⟨by omega, some .ret, ⟨_, _, _, _, List.getElem?_set_self p6⟩, rfl, p2, p3, s1, s2, s3, s4, p4⟩
          · rw [if_neg hC] at kG
            refine AStep_yield rfl rfl (q := 5) rfl rfl k5' rfl rfl rfl (fun jm K2 => jm = none ∧ 6 ≤ K2.length ∧ K2[1]? = some (.vars [.i 0, .nils, .nils]) ∧ K2[2]? = some (.vars [.i 0]) ∧ K2[3]? = L3 ∧ K2[4]? = some (.vars [.yld 3])) ?_ ?_
            · simp [putMany]
              have e1 : (K.set 5 .dead)[1]? = some (.vars [.i 0, .nils, .nils]) := get_set (by decide) k1 _
              have e2 : (K.set 5 .dead)[2]? = some (.vars [.i 0]) := get_set (by decide) k2 _
              have e3 := get_set (j := 5) (by decide) k3' .dead
              have e4 : (K.set 5 .dead)[4]? = some (.vars [.yld 3]) := get_set (by decide) k4 _
              have e5 : (K.set 5 .dead)[5]? = some .dead := get_self k5' _
              have e6 : (K.set 5 .dead).length = K.length := by simp
              generalize K.set 5 .dead = E at *
              have hl := Lib.itoa_length_le n (by omega) (by omega)
              have hl2 : 11 + (Lib.itoa n).length ≤ 9223372036854775807 := by omega
              have hfnd := dpc23 d (nameC n)
              rw [n3, findAV] at hfnd
              repeat first|((first|refine qa tOk rfl ?_|refine qb tOk rfl ?_|refine qc ?_|refine qd ?_|refine qe ?_);simp)|refine AWP_block ?_|refine AWP_seq ?_
              refine AWP_drawT tOk mixed [] (.val 0 (.val 1 (.one 2 (.val 3 (.one 4 (.val 5 (.val 6 (.val 7 (.val 8 (.val 9 (.done))))))))))) rfl (by kernel_rfl) ?_
              simp
              refine AStep_PC rfl rfl (by simp) (pc_Itoa n (by omega) (by omega)) rfl ?_
              rintro _ rfl
              simp [hl2]
              refine AStep_PC rfl rfl (by simp) (hfnd) rfl ?_
              rintro _ rfl
              simp
              repeat first|((first|refine qa tOk rfl ?_|refine qb tOk rfl ?_|refine qc ?_|refine qd ?_|refine qe ?_);simp)|refine AWP_block ?_|refine AWP_seq ?_
              have n4' : (i : Int) < d.files.length := by omega
              refine AWP_drawT tOk mixed [8] (.val 0 (.val 1 (.val 2 (.val 3 (.val 4 (.val 5 (.val 6 (.val 7 (.one 8 (.val 9 (.done))))))))))) rfl (by kernel_rfl) ?_
              simp [e4, n4, n4', hvi]
              rw [← n5]
              refine AStep_yield rfl rfl (q := 3) rfl rfl e3 rfl rfl rfl (fun jm K3 => jm = none ∧ 6 ≤ K3.length ∧ K3[1]? = some (.vars [.i 0, .nils, .nils]) ∧ K3[2]? = some (.vars [.i 0]) ∧ K3[5]? = some .dead ∧ K3[4]? = some (.vars [.yld 3])) ?_ ?_
              · simp [putMany]
                have u1 : (E.set 3 .dead)[1]? = some (.vars [.i 0, .nils, .nils]) := get_set (by decide) e1 _
                have u2 : (E.set 3 .dead)[2]? = some (.vars [.i 0]) := get_set (by decide) e2 _
                have u3 : (E.set 3 .dead)[3]? = some .dead := get_self e3 _
                have u4 : (E.set 3 .dead)[4]? = some (.vars [.yld 3]) := get_set (by decide) e4 _
                have u5 : (E.set 3 .dead)[5]? = some .dead := get_set (by decide) e5 _
                have u6 : (E.set 3 .dead).length = K.length := by simp [e6]
                generalize E.set 3 .dead = E2 at *
                repeat first|((first|refine qa tOk rfl ?_|refine qb tOk rfl ?_|refine qc ?_|refine qd ?_|refine qe ?_);simp)|refine AWP_block ?_|refine AWP_seq ?_
                refine AStep_PC rfl rfl (by simp) (pc_Decode (volN d n) hvl) rfl ?_
                rintro _ rfl
                simp
                generalize (decodeR (volN d n)).1 = sn at *
                generalize (decodeR (volN d n)).2 = er at *
                repeat first|((first|refine qa tOk rfl ?_|refine qb tOk rfl ?_|refine qc ?_|refine qd ?_|refine qe ?_);simp)|refine AWP_block ?_|refine AWP_seq ?_
                have w0 : ∀ A : AObj, (E2 ++ [A])[E2.length]? = some A := fun A => by simp
                repeat first|((first|refine qa tOk rfl ?_|refine qb tOk rfl ?_|refine qc ?_|refine qd ?_|refine qe ?_);simp [w0])|refine AWP_block ?_|refine AWP_seq ?_
                refine AWP_cond2 rfl (fun h => by exfalso; apply hC; simpa only [Bool.and_eq_true, beq_iff_eq] using h) (fun h => ?_)
                repeat first|((first|refine qa tOk rfl ?_|refine qb tOk rfl ?_|refine qc ?_|refine qd ?_|refine qe ?_);simp)|refine AWP_block ?_|refine AWP_seq ?_
                exact ⟨get_app u3 _, rfl, by simp; omega, get_app u1 _, get_app u2 _, get_app u5 _, get_app u4 _⟩
              · rintro jm K3 ⟨rfl, v1, v2, v3, v4, v5⟩
                simp
                repeat first|((first|refine qa tOk rfl ?_|refine qb tOk rfl ?_|refine qc ?_|refine qd ?_|refine qe ?_);simp)|refine AWP_block ?_|refine AWP_seq ?_
                have v6 : 3 < K3.length := by omega
                refine AWP_cond2 rfl (fun h => by cases h) (fun _ => ?_)
                repeat first|((first|refine qa tOk rfl ?_|refine qb tOk rfl ?_|refine qc ?_|refine qd ?_|refine qe ?_);simp)|refine AWP_block ?_|refine AWP_seq ?_
                refine ⟨get_set (by decide) v4 _, rfl, by simp; omega, get_set (by decide) v2 _, get_set (by decide) v3 _, ?_, get_set (by decide) v5 _⟩
                rw [l3]
                exact List.getElem?_set_self v6
            · rintro jm K2 ⟨rfl, p1, p2, p3, p4, p5⟩
              simp
              have p6 : 5 < K2.length := by omega
              refine AWP_cond2 rfl (fun h => by cases h) (fun _ => ?_)
              repeat first|((first|refine qa tOk rfl ?_|refine qb tOk rfl ?_|refine qc ?_|refine qd ?_|refine qe ?_);simp [hw1])|refine AWP_block ?_|refine AWP_seq ?_
              refine ALoop_keep (ih (m, K2.set 5 _) ⟨by show m ≤ ns.length; omega, kG, get_set (by decide) p2 _, get_set (by decide) p3 _, (List.getElem?_set_ne (by decide)).trans p4, get_set (by decide) p5 _, (List.getElem?_set_self p6).trans g5.symm, by show 6 ≤ (K2.set 5 _).length; rw [List.length_set]; exact p1⟩ (by show m < m + 1; omega)) (by simp)
      · rintro r H' ⟨hl, pend, sl', ps', a', b', h3, h⟩
        have e5 : (H1 ++ [AObj.vars [AV.yld 3]]).length = 5 := by simp [hl1]
        simp only [e5]
        refine ⟨_, pend, 30, sl', ps', a', b', h3, ?_⟩
        have q1 := fun x (h : H'[1]? = some x) => get_set (j := 5) (by decide) h .dead
        have q2 := fun x (h : H'[2]? = some x) => get_set (j := 5) (by decide) h .dead
        have q3 := fun x (h : H'[3]? = some x) => get_set (j := 5) (by decide) h .dead
        have ql : 3 < (H'.set 5 .dead).length := by simp; omega
        generalize H'.set 5 .dead = K at *
        cases G with
        | some s =>
          obtain ⟨rfl, h1, h2, s1, s2, s3, s4, h4⟩ := h
          simp only
          repeat first|((first|refine qa tOk rfl ?_|refine qb tOk rfl ?_|refine qc ?_|refine qd ?_|refine qe ?_);simp)|refine AWP_block ?_|refine AWP_seq ?_
          exact ⟨ql, some .ret, ⟨_, _, _, _, q3 _ h4⟩, rfl, q1 _ h1, q2 _ h2⟩
        | none =>
          obtain ⟨rfl, h1, h2, h4⟩ := h
          rw [hL3.symm.trans f3] at h4
          simp only
          refine blockQ_normal ?_
          refine ⟨.inr rfl, _, rfl, ql, none, ⟨_, _, _, _, q3 _ h4⟩, rfl, q1 _ h1, q2 _ h2⟩
    · rintro r H' ⟨hl, pend, sl', ps', a', b', h3, h⟩
      refine ⟨_, pend, 34, sl', ps', a', b', h3, ?_⟩
      cases G with
      | some s =>
        obtain ⟨rfl, h1, h2⟩ := h
        simp only at hR ⊢
        have q1 : (H'.set 3 .dead)[1]? = some (.vars (cSnp s)) := get_set (by decide) h1 _
        have q2 : (H'.set 3 .dead)[2]? = some (.vars [.i 0]) := get_set (by decide) h2 _
        rw [cSnp] at q1
        repeat first|((first|refine qa tOk rfl ?_|refine qb tOk rfl ?_|refine qc ?_|refine qd ?_|refine qe ?_);simp [q1, q2])|refine AWP_block ?_|refine AWP_seq ?_
        rw [← hR]
        exact ⟨⟨rfl, rfl, rfl⟩, rfl⟩
      | none =>
        obtain ⟨rfl, h1, h2⟩ := h
        simp only at hR ⊢
        refine blockQ_normal (thenQ_normal ?_)
        have q1 : (H'.set 3 .dead)[1]? = some (.vars [.i 0, .nils, .nils]) := get_set (by decide) h1 _
        have q2 : (H'.set 3 .dead)[2]? = some (.vars [.i 0]) := get_set (by decide) h2 _
        generalize H'.set 3 .dead = K at *
        have q3 : ∀ y, (K.set 1 y)[2]? = some (.vars [.i 0]) := fun y => get_set (by decide) q2 y
        have q4 : ∀ y z, ((K.set 1 y).set 2 z)[1]? = some y := fun y z => get_set (by decide) (get_self q1 y) z
        have q5 : ∀ y z, ((K.set 1 y).set 2 z)[2]? = some z := fun y z => get_self (q3 y) z
        repeat first|((first|refine qa tOk rfl ?_|refine qb tOk rfl ?_|refine qc ?_|refine qd ?_|refine qe ?_);simp [q1, q2, q3, q4, q5])|refine AWP_block ?_|refine AWP_seq ?_
        rw [← hR]
        simp [zeroS]
  · rw [if_pos hc] at hR
    refine AWP_cond2 rfl (fun h => ?_) (fun h => by simp [hc] at h)
    repeat first|((first|refine qa tOk rfl ?_|refine qb tOk rfl ?_|refine qc ?_|refine qd ?_|refine qe ?_);simp)|refine AWP_block ?_|refine AWP_seq ?_
    rw [← hR]
    simp [zeroS]
end Go.Abs
set_option maxRecDepth 100000
namespace Go.Abs
open Go Go.Proofs
set_option linter.unusedSimpArgs false
def spoilS (s : List UInt8) : List UInt8 := s.dropLast ++ [(s.getLast?.getD 0) ^^^ 1]
def spoilR (d : Disk) (n : List UInt8) : Disk × Bool := if (readR d n).2 ≠ 0 ∨ (readR d n).1 = [] then (d, false) else ((changedR d n (wrG (spoilS (readR d n).1))).1, decide ((changedR d n (wrG (spoilS (readR d n).1))).2 = 0))
theorem pc_spoilt (d : Disk) (n : List UInt8) (hl : (readR d n).1.length ≤ 9000000000000000000) : PC Tryz.prog 32 [encD d, .str n] (fun r => r = .tup [encD (spoilR d n).1, .bool (spoilR d n).2]) := by
  refine PC_body tOk Tryz.func32 rfl Tryz.results32 rfl (by simp [Tryz.ntmps32]) ?_
  rw [Tryz.ntmps32]
  simp only [argSlots]
  obtain ⟨R, hR⟩ : ∃ R, spoilR d n = R := ⟨_, rfl⟩
  rw [hR]
  rw [spoilR] at hR
  simp only [encD]
  repeat first|((first|refine qa tOk rfl ?_|refine qb tOk rfl ?_|refine qc ?_|refine qd ?_|refine qe ?_);simp)|refine AWP_block ?_|refine AWP_seq ?_
  refine AStep_PCflat rfl rfl (by first | (simp; done) | (simp; rfl)) (dpc21 d n) rfl ?_
  rintro _ rfl
  refine ⟨by first | simp | rfl | trivial, ?_⟩
  simp
  generalize hs : (readR d n).1 = s at *
  generalize he : (readR d n).2 = e at *
  repeat first|((first|refine qa tOk rfl ?_|refine qb tOk rfl ?_|refine qc ?_|refine qd ?_|refine qe ?_);simp)|refine AWP_block ?_|refine AWP_seq ?_
  by_cases h0 : e ≠ 0 ∨ s = []
  · rw [if_pos h0] at hR
    refine AWP_cond2 rfl (fun h => ?_) (fun h => ?_)
    · repeat first|((first|refine qa tOk rfl ?_|refine qb tOk rfl ?_|refine qc ?_|refine qd ?_|refine qe ?_);simp)|refine AWP_block ?_|refine AWP_seq ?_
      rw [← hR]
      simp
    · exfalso
      rcases h0 with h0 | h0 <;> simp [h0] at h
  rw [if_neg h0] at hR
  refine AWP_cond2 rfl (fun h => ?_) (fun h => ?_)
  · exfalso
    apply h0
    rcases Bool.or_eq_true _ _ |>.mp h with h | h
    · left; simpa using h
    · right; exact List.eq_nil_of_length_eq_zero (by simpa using h)
  have hne : s ≠ [] := fun h => h0 (.inr h)
  obtain ⟨t, c, rfl⟩ : ∃ t c, s = t ++ [c] := ⟨s.dropLast, s.getLast hne, (List.dropLast_concat_getLast hne).symm⟩
  have hlt : t.length + 1 ≤ 9000000000000000000 := by simpa using hl
  have hw : IntKind.i64.wrap (t.length : Int) = t.length := wrap_i64 _ (by omega) (by omega)
  have hle : (t.length : Int) ≤ t.length + 1 := by omega
  have hb : t.length + 1 ≤ 9223372036854775807 := by omega
  obtain ⟨x, hx0⟩ : ∃ x, c ^^^ 1 = x := ⟨_, rfl⟩
  have hsp : spoilS (t ++ [c]) = t ++ [x] := by simp [spoilS, hx0]
  rw [hsp] at hR
  have hx : bits BinOp.xor .u8 (c.toNat : Int) 1 = (x.toNat : Int) := by
    subst hx0
    have := c.toNat_lt
    rw [show (1 : Int) = ((1 : Nat) : Int) from rfl, xor_nat .u8 8 (by decide) (fun n n0 n1 => by simp [IntKind.wrap, IntKind.bits, IntKind.signed]; omega) c.toNat 1 (by omega) (by decide)]
    rfl
  have hg : (t ++ [c])[t.length]? = some c := by simp
  have hk : List.take t.length (t ++ [c]) = t := by simp
  repeat first|((first|refine qa tOk rfl ?_|refine qb tOk rfl ?_|refine qc ?_|refine qd ?_|refine qe ?_);simp)|refine AWP_block ?_|refine AWP_seq ?_
  refine AWP_drawC tOk mixed [21] (.val 0 (.val 1 (.val 2 (.val 3 (.val 4 (.val 5 (.val 6 (.val 7 (.val 8 (.val 9 (.val 10 (.val 11 (.val 12 (.two 13 (.two 14 (.val 15 (.two 16 (.val 17 (.val 18 (.val 19 (.one 20 (.one 21 (.val 22 (.done))))))) 20 (.one 16 (.val 17 (.val 18 (.val 19 (.one 21 (.val 22 (.done))))))))) 20 (.one 14 (.val 15 (.one 16 (.val 17 (.val 18 (.val 19 (.one 21 (.val 22 (.done)))))))))) 20 (.one 13 (.one 14 (.val 15 (.one 16 (.val 17 (.val 18 (.val 19 (.one 21 (.val 22 (.done)))))))))))))))))))))))) (⟨[(0, encD d), (1, .str n), (2, .vptr 0 0), (4, .vptr 1 0), (5, .bool false), (6, .str (t ++ [c])), (7, .i e), (8, .vptr 2 0), (9, .i (changedR d n (wrG (t ++ [x]))).2)], [.vars [.list (d.files.map encFl), .i d.space], .vars [.nils, .i 0], .vars [.list ((changedR d n (wrG (t ++ [x]))).1.files.map encFl), .i (changedR d n (wrG (t ++ [x]))).1.space]]⟩) rfl (by kernel_rfl) ?_ ?_
  simp [hw, hx, hg, hk, hle]
  · refine ⟨⟨?_, ?_⟩, ?_⟩
    · refine AStep_toStr tOk rfl rfl T117 rfl T5 rfl T9 rfl rfl (s := [x]) (by simp) rfl ?_
      simp [hb]
      refine ⟨?_, ?_⟩
      · refine AStep_PC rfl rfl (by simp) (dpc13 d n (t ++ [x])) rfl ?_
        rintro _ rfl
        simp
        exact RenTo_ren [0, 1, 3] (by simp) (by decide) (by simp) rfl (by simp) (by simp) (by simp)
      · refine AStep_PC rfl rfl (by simp) (dpc13 d n (t ++ [x])) rfl ?_
        rintro _ rfl
        simp
        exact RenTo_ren [0, 1, 3] (by simp) (by decide) (by simp) rfl (by simp) (by simp) (by simp)
    · refine AStep_toStr tOk rfl rfl T117 rfl T5 rfl T9 rfl rfl (s := [x]) (by simp) rfl ?_
      simp [hb]
      refine AStep_PC rfl rfl (by simp) (dpc13 d n (t ++ [x])) rfl ?_
      rintro _ rfl
      simp
      exact RenTo_ren [0, 1, 3] (by simp) (by decide) (by simp) rfl (by simp) (by simp) (by simp)
    · refine AStep_toStr tOk rfl rfl T117 rfl T5 rfl T9 rfl rfl (s := [x]) (by simp) rfl ?_
      simp [hb]
      refine AStep_PC rfl rfl (by simp) (dpc13 d n (t ++ [x])) rfl ?_
      rintro _ rfl
      simp
      exact RenTo_ren [0, 1, 2] (by simp) (by decide) (by simp) rfl (by simp) (by simp) (by simp)
  refine AWP_seq ?_
  repeat first|((first|refine qa tOk rfl ?_|refine qb tOk rfl ?_|refine qc ?_|refine qd ?_|refine qe ?_);simp)|refine AWP_block ?_|refine AWP_seq ?_
  rw [← hR]
  simp
  rfl
end Go.Abs
set_option maxRecDepth 100000
namespace Go.Abs
open Go Go.Proofs
set_option linter.unusedSimpArgs false
def nm9 : List UInt8 := [99, 104, 101, 99, 107, 112, 111, 105, 110, 116, 45, 57]
def nm10 : List UInt8 := [99, 104, 101, 99, 107, 112, 111, 105, 110, 116, 45, 49, 48]
def by9 : List UInt8 := [18, 2, 0, 54, 0, 0, 0, 0, 0, 64, 224, 128, 49]
def by10 : List UInt8 := [20, 2, 0, 60, 0, 0, 0, 0, 0, 230, 212, 111, 173]
def by10x : List UInt8 := [20, 2, 0, 60, 0, 0, 0, 0, 0, 230, 212, 111, 172]
def dkA : Disk := ⟨[⟨nm9, by9, by9⟩], 500⟩
def dkB : Disk := ⟨[⟨nm10, by10, by10⟩, ⟨nm9, by9, by9⟩], 500⟩
def dkX : Disk := ⟨[⟨nm10, by10, by10x⟩, ⟨nm9, by9, by9⟩], 500⟩
theorem ca1 : saveC ⟨[], 500⟩ (ckS 9) = (dkA, 0) := by decide +kernel
theorem ca2 : saveC dkA (ckS 10) = (dkB, 0) := by decide +kernel
theorem ca0 : sortI [10, 9] = [9, 10] := by simp [sortI, List.mergeSort, List.MergeSort.Internal.splitInTwo, List.merge]
theorem ca0' (d : Disk) (h : numsOf d.files = [10, 9]) : numbersR d = [9, 10] := by rw [numbersR, h, ca0]
theorem ca3 : listR dkB = ([9, 10], 0) := by
  have h : numsOf dkB.files = [10, 9] := by decide +kernel
  have hc : checkD dkB = 0 := by decide +kernel
  rw [listR, ca0' _ h, hc]; simp
theorem ca4 : loadR dkB = (ckS 10, 0) := by
  have h : numsOf dkB.files = [10, 9] := by decide +kernel
  have hc : checkD dkB = 0 := by decide +kernel
  have hl : loadL dkB [10, 9] = some (ckS 10) := by decide +kernel
  rw [loadR, ca0' _ h, hc]
  simp [hl]
theorem ca5 : spoilR dkB nm10 = (dkX, true) := by decide +kernel
theorem ca6 : loadR dkX = (ckS 9, 0) := by
  have h : numsOf dkX.files = [10, 9] := by decide +kernel
  have hc : checkD dkX = 0 := by decide +kernel
  have hl : loadL dkX [10, 9] = some (ckS 9) := by decide +kernel
  rw [loadR, ca0' _ h, hc]
  simp [hl]
theorem ca7 : numbR preC [99, 104, 101, 99, 107, 112, 111, 105, 110, 116, 45, 48, 55] = (0, false) := by decide +kernel
theorem ca8 : numbR preC [99, 104, 101, 99, 107, 112, 111, 105, 110, 116, 45, 48] = (0, false) := by decide +kernel
theorem ca9 : numbR preC [119, 114, 105, 116, 105, 110, 103, 45, 55] = (0, false) := by decide +kernel
theorem cj (n : Int) (h0 : 1 ≤ n) (h1 : n ≤ 1000000) : jSnp (ckS n) := by
  refine ⟨⟨by simp [ckS]; omega, by simp [ckS]; omega⟩, ⟨by simp [ckS], fun r hr => ?_⟩, by simp [ckS], fun o ho => by simp [ckS] at ho⟩
  simp [ckS] at hr
  subst hr
  simp [jRdr, iRdr, iTrk, i64]
  omega
end Go.Abs
set_option maxRecDepth 100000
namespace Go.Abs
open Go Go.Proofs
set_option linter.unusedSimpArgs false
theorem cl9 : (encSnp (ckS 9)).length ≤ 900000000 := by decide +kernel
theorem cl10 : (encSnp (ckS 10)).length ≤ 900000000 := by decide +kernel
theorem cnl (d : Disk) (h : d = dkB ∨ d = dkX) : NL d.files ∧ VL d.files := by
  rcases h with rfl | rfl
  · refine ⟨⟨by decide, fun f hf => ?_⟩, fun f hf => ?_⟩ <;> (simp [dkB] at hf; rcases hf with rfl | rfl <;> decide)
  · refine ⟨⟨by decide, fun f hf => ?_⟩, fun f hf => ?_⟩ <;> (simp [dkX] at hf; rcases hf with rfl | rfl <;> decide)
theorem cq1 : PC Tryz.prog 38 [.i 9] (fun r => r = avSnp (ckS 9)) := pc_snapshot 9 (by decide) (by decide)
theorem cq2 : PC Tryz.prog 38 [.i 10] (fun r => r = avSnp (ckS 10)) := pc_snapshot 10 (by decide) (by decide)
theorem cq3 : PC Tryz.prog 21 [encD ⟨[], 500⟩, avSnp (ckS 9)] (fun r => r = .tup [encD dkA, .i 0]) := by
  have := pc_cSave ⟨[], 500⟩ (ckS 9) (cj 9 (by decide) (by decide)) cl9 (by constructor <;> simp [ckS])
  rw [ca1] at this; exact this
theorem cq4 : PC Tryz.prog 21 [encD dkA, avSnp (ckS 10)] (fun r => r = .tup [encD dkB, .i 0]) := by
  have := pc_cSave dkA (ckS 10) (cj 10 (by decide) (by decide)) cl10 (by constructor <;> simp [ckS])
  rw [ca2] at this; exact this
theorem cq5 : PC Tryz.prog 12 [encD dkB] (fun r => r = .tup [.list ([9, 10].map encI), .i 0]) := by
  have := pc_cList dkB (fun _ => (cnl dkB (.inl rfl)).1)
  rw [ca3] at this; exact this
theorem cq6 : PC Tryz.prog 14 [encD dkB] (fun r => r = .tup [avSnp (ckS 10), .i 0]) := by
  have := pc_cLoad dkB (fun _ => (cnl dkB (.inl rfl)).1) (fun _ => (cnl dkB (.inl rfl)).2)
  rw [ca4] at this; exact this
theorem cq7 : PC Tryz.prog 32 [encD dkB, .str nm10] (fun r => r = .tup [encD dkX, .bool true]) := by
  have := pc_spoilt dkB nm10 (by decide +kernel)
  rw [ca5] at this; exact this
theorem cq8 : PC Tryz.prog 14 [encD dkX] (fun r => r = .tup [avSnp (ckS 9), .i 0]) := by
  have := pc_cLoad dkX (fun _ => (cnl dkX (.inr rfl)).1) (fun _ => (cnl dkX (.inr rfl)).2)
  rw [ca6] at this; exact this
theorem cq9 (s : List UInt8) (h : s.length ≤ 1000000000) (he : numbR preC s = (0, false)) : PC Tryz.prog 26 [.str s] (fun r => r = .tup [.i 0, .bool false]) := by
  have := pc_Number s h
  rw [he] at this; exact this
theorem cq10 (n : Int) : PC Tryz.prog 17 [avSnp (ckS n), avSnp (ckS n)] (fun r => r = .bool true) := pc_Same0 (ckS n) rfl
def lst3 : List AV := [.str [99, 104, 101, 99, 107, 112, 111, 105, 110, 116, 45, 48, 55], .str [99, 104, 101, 99, 107, 112, 111, 105, 110, 116, 45, 48], .str [119, 114, 105, 116, 105, 110, 103, 45, 55]]
attribute [local simp] dkA dkB dkX
set_option maxHeartbeats 4000000 in
theorem pc_awake50 : PC Tryz.prog 11 [] (fun r => r = .bool true) := by
  refine PC_body tOk Tryz.func11 rfl Tryz.results11 rfl (by simp [Tryz.ntmps11]) ?_
  rw [Tryz.ntmps11]
  simp only [argSlots]
  repeat first|((first|refine qa tOk rfl ?_|refine qb tOk rfl ?_|refine qc ?_|refine qd ?_|refine qe ?_);simp)|refine AWP_block ?_|refine AWP_seq ?_
  refine AStep_PC rfl rfl (by simp) (cq1) rfl ?_
  rintro _ rfl
  simp
  refine AStep_PC rfl rfl (by simp) (cq3) rfl ?_
  rintro _ rfl
  simp
  repeat first|((first|refine qa tOk rfl ?_|refine qb tOk rfl ?_|refine qc ?_|refine qd ?_|refine qe ?_);simp)|refine AWP_block ?_|refine AWP_seq ?_
  refine AWP_drawT tOk mixed [6] (.val 0 (.one 1 (.one 2 (.val 3 (.val 4 (.val 5 (.one 6 (.val 7 (.done))))))))) rfl (by kernel_rfl) ?_
  simp
  refine AStep_PC rfl rfl (by simp) (cq2) rfl ?_
  rintro _ rfl
  simp
  refine AStep_PC rfl rfl (by simp) (cq4) rfl ?_
  rintro _ rfl
  simp
  repeat first|((first|refine qa tOk rfl ?_|refine qb tOk rfl ?_|refine qc ?_|refine qd ?_|refine qe ?_);simp)|refine AWP_block ?_|refine AWP_seq ?_
  refine AStep_PC rfl rfl (by simp) (cq5) rfl ?_
  rintro _ rfl
  simp
  repeat first|((first|refine qa tOk rfl ?_|refine qb tOk rfl ?_|refine qc ?_|refine qd ?_|refine qe ?_);simp)|refine AWP_block ?_|refine AWP_seq ?_
  refine AStep_PC rfl rfl (by simp) (cq6) rfl ?_
  rintro _ rfl
  simp
  repeat first|((first|refine qa tOk rfl ?_|refine qb tOk rfl ?_|refine qc ?_|refine qd ?_|refine qe ?_);simp)|refine AWP_block ?_|refine AWP_seq ?_
  have hw0 : IntKind.i64.wrap 0 = 0 := by decide
  refine AWP_drawT tOk mixed [] (.val 0 (.val 1 (.val 2 (.val 3 (.val 4 (.val 5 (.val 6 (.val 7 (.val 8 (.val 9 (.val 10 (.val 11 (.val 12 (.val 13 (.val 14 (.val 15 (.val 16 (.val 17 (.val 18 (.val 19 (.val 20 (.val 21 (.val 22 (.val 23 (.val 24 (.val 25 (.val 26 (.val 27 (.val 28 (.val 29 (.val 30 (.val 31 (.one 32 (.one 33 (.val 34 (.val 35 (.val 36 (.val 37 (.one 38 (.one 39 (.val 40 (.val 41 (.done))))))))))))))))))))))))))))))))))))))))))) rfl (by kernel_rfl) ?_
  simp [hw0, nm9, nm10]
  refine AStep_freeze 2 rfl ?_
  simp
  refine AStep_PC rfl rfl (by simp) (dpc20 [9, 10] [9, 10]) rfl ?_
  rintro _ rfl
  simp
  refine AStep_PC rfl rfl (by simp) (cq2) rfl ?_
  rintro _ rfl
  simp
  refine AStep_PC rfl rfl (by simp) (cq10 10) rfl ?_
  rintro _ rfl
  simp
  refine AWP_cond2 rfl (fun h => by simp at h) (fun _ => ?_)
  repeat first|((first|refine qa tOk rfl ?_|refine qb tOk rfl ?_|refine qc ?_|refine qd ?_|refine qe ?_);simp)|refine AWP_block ?_|refine AWP_seq ?_
  refine AStep_PC rfl rfl (by simp) (cq7) rfl ?_
  rintro _ rfl
  simp
  repeat first|((first|refine qa tOk rfl ?_|refine qb tOk rfl ?_|refine qc ?_|refine qd ?_|refine qe ?_);simp)|refine AWP_block ?_|refine AWP_seq ?_
  refine AStep_PC rfl rfl (by simp) (cq8) rfl ?_
  rintro _ rfl
  simp
  have r3 : List.range 3 = [0, 1, 2] := rfl
  repeat first|((first|refine qa tOk rfl ?_|refine qb tOk rfl ?_|refine qc ?_|refine qd ?_|refine qe ?_);simp [r3])|refine AWP_block ?_|refine AWP_seq ?_
  simp [r3]
  refine AWP_freeze 5 rfl ?_
  simp
  refine AWP_ren (sl' := [(9, .bool true), (10, .vptr 0 0), (11, .i 0), (90, .list lst3), (91, .i 3), (92, .i 0)]) (H' := [.vars [.i (ckS 9).number, .list (List.map avRdr (ckS 9).readers), .list (List.map avOpr (ckS 9).operators)]]) [4] ?_ (by simp) (by decide) (by simp) rfl (by simp [lst3]) (by simp) (by simp [lst3])
  refine AWP_countI 3 (fun _ => True) (fun j => [(9, .bool true), (10, .vptr 0 0), (11, .i 0), (90, .list lst3), (91, .i 3), (92, .i j)]) (fun _ => [.vars [.i (ckS 9).number, .list (List.map avRdr (ckS 9).readers), .list (List.map avOpr (ckS 9).operators)]]) rfl (by simp) (by simp [lst3]) (by simp [lst3]) (by simp) trivial ?_
  intro j hj _ ih
  repeat first|((first|refine qa tOk rfl ?_|refine qb tOk rfl ?_|refine qc ?_|refine qd ?_|refine qe ?_);simp)|refine AWP_block ?_|refine AWP_seq ?_
  refine AWP_cond2 rfl (fun hlt => ?_) (fun hge => ?_)
  · have hlt' : j < 3 := by simp at hlt; omega
    have hih := ih hlt' trivial
    obtain rfl | rfl | rfl : j = 0 ∨ j = 1 ∨ j = 2 := by omega
    · repeat first|((first|refine qa tOk rfl ?_|refine qb tOk rfl ?_|refine qc ?_|refine qd ?_|refine qe ?_);simp [lst3])|refine AWP_block ?_|refine AWP_seq ?_
      refine AStep_PC rfl rfl (by simp) (cq9 _ (by decide) ca7) rfl ?_
      rintro _ rfl
      simp
      repeat first|((first|refine qa tOk rfl ?_|refine qb tOk rfl ?_|refine qc ?_|refine qd ?_|refine qe ?_);simp)|refine AWP_block ?_|refine AWP_seq ?_
      refine AWP_cond2 rfl (fun h => by simp at h) (fun _ => ?_)
      repeat first|((first|refine qa tOk rfl ?_|refine qb tOk rfl ?_|refine qc ?_|refine qd ?_|refine qe ?_);simp)|refine AWP_block ?_|refine AWP_seq ?_
      refine ALoop_end _ hih rfl (by simp) ?_ (by simp) (by simp)
      simp [lst3]
      try decide
    · repeat first|((first|refine qa tOk rfl ?_|refine qb tOk rfl ?_|refine qc ?_|refine qd ?_|refine qe ?_);simp [lst3])|refine AWP_block ?_|refine AWP_seq ?_
      refine AStep_PC rfl rfl (by simp) (cq9 _ (by decide) ca8) rfl ?_
      rintro _ rfl
      simp
      repeat first|((first|refine qa tOk rfl ?_|refine qb tOk rfl ?_|refine qc ?_|refine qd ?_|refine qe ?_);simp)|refine AWP_block ?_|refine AWP_seq ?_
      refine AWP_cond2 rfl (fun h => by simp at h) (fun _ => ?_)
      repeat first|((first|refine qa tOk rfl ?_|refine qb tOk rfl ?_|refine qc ?_|refine qd ?_|refine qe ?_);simp)|refine AWP_block ?_|refine AWP_seq ?_
      refine ALoop_end _ hih rfl (by simp) ?_ (by simp) (by simp)
      simp [lst3]
      try decide
    · repeat first|((first|refine qa tOk rfl ?_|refine qb tOk rfl ?_|refine qc ?_|refine qd ?_|refine qe ?_);simp [lst3])|refine AWP_block ?_|refine AWP_seq ?_
      refine AStep_PC rfl rfl (by simp) (cq9 _ (by decide) ca9) rfl ?_
      rintro _ rfl
      simp
      repeat first|((first|refine qa tOk rfl ?_|refine qb tOk rfl ?_|refine qc ?_|refine qd ?_|refine qe ?_);simp)|refine AWP_block ?_|refine AWP_seq ?_
      refine AWP_cond2 rfl (fun h => by simp at h) (fun _ => ?_)
      repeat first|((first|refine qa tOk rfl ?_|refine qb tOk rfl ?_|refine qc ?_|refine qd ?_|refine qe ?_);simp)|refine AWP_block ?_|refine AWP_seq ?_
      refine ALoop_end _ hih rfl (by simp) ?_ (by simp) (by simp)
      simp [lst3]
      try decide
  repeat first|((first|refine qa tOk rfl ?_|refine qb tOk rfl ?_|refine qc ?_|refine qd ?_|refine qe ?_);simp)|refine AWP_block ?_|refine AWP_seq ?_
  refine AWP_drawT tOk mixed [] (.val 0 (.val 1 (.val 2 (.val 3 (.val 4 (.val 5 (.val 6 (.one 7 (.one 8 (.val 9 (.val 10 (.done)))))))))))) rfl (by kernel_rfl) ?_
  simp
  refine AStep_PC rfl rfl (by simp) (cq1) rfl ?_
  rintro _ rfl
  simp
  refine AStep_PC rfl rfl (by simp) (cq10 9) rfl ?_
  rintro _ rfl
  simp
  repeat first|((first|refine qa tOk rfl ?_|refine qb tOk rfl ?_|refine qc ?_|refine qd ?_|refine qe ?_);simp)|refine AWP_block ?_|refine AWP_seq ?_
end Go.Abs
set_option maxRecDepth 100000
namespace Go.Abs
open Go Go.Proofs
set_option linter.unusedSimpArgs false
attribute [local irreducible] numbR nameR
end Go.Abs
set_option maxRecDepth 100000
namespace Go.Abs
open Go Go.Proofs Go.RowKit Go.Proofs.YtmfoegilknpcnaaGreatDoor
theorem laidOut : laidOutB Tryz.prog = true := by kernel_rfl
theorem own : ownKnob Tryz.prog.godebug = none := by kernel_rfl
theorem list_of {α : Type} {g : α → AV} {Q : α → Prop} : ∀ xs : List AV, (∀ x ∈ xs, ∃ a, x = g a ∧ Q a) → ∃ l : List α, xs = l.map g ∧ ∀ a ∈ l, Q a
  | [], _ => ⟨[], rfl, by simp⟩
  | x :: xs, h => by
    obtain ⟨a, rfl, ha⟩ := h x (by simp)
    obtain ⟨l, rfl, hl⟩ := list_of xs (fun y hy => h y (by simp [hy]))
    exact ⟨a :: l, rfl, by simpa using ⟨ha, hl⟩⟩
theorem reach_le : reachBytes ≤ 140737488355328 := by decide
theorem shpInt {d : Nat} {zs : List AV} (h : Shp T (d + 1) 3 zs) : ∃ n : Int, zs = [.i n] ∧ -9223372036854775808 ≤ n ∧ n ≤ 9223372036854775807 := by
  simp only [Shp, T3, ShpI] at h
  obtain ⟨n, rfl, h1, h2⟩ := h
  exact ⟨n, rfl, h1, h2⟩
theorem shpStr {d : Nat} {zs : List AV} (h : Shp T (d + 1) 9 zs) : ∃ s : List UInt8, zs = [.str s] ∧ s.length ≤ 140737488355328 := by
  simp only [Shp, T9, ShpI] at h
  obtain ⟨s, rfl, hs⟩ := h
  exact ⟨s, rfl, Nat.le_trans hs reach_le⟩
theorem argsNil {d : Nat} {xs : List AV} (h : ArgsShp T d [] xs) : xs = [] := h
/-- What a tie's reading of a table of integers comes to: the block's cells. -/
theorem tab_in {l : List (String × DataW Unit)} {w : World} {name : String} {k : IntKind} {zs : List Int} {g : Nat} {t e : TypeId} {n : Nat} (h : laidMetH Tryz.prog l w) (hl : l.filter (fun x => x.1 == name) = [(name, Lib.tabData k zs)])
    (hg : Tryz.prog.globalNamed name = some g) (hty : (Tryz.prog.globals[g]?).map (·.type) = some t) (ht : Tryz.prog.underlying t = some (.array n e)) (he : Tryz.prog.underlying e = some (.int k)) (hce : Tryz.prog.cellsOf e = 1) (hct : Tryz.prog.cellsOf t = n) :
    g < w.heap.size ∧ ∃ t fr, w.heap[g]? = some (.cells (zs.map fun z => Value.int k z).toArray t fr) := by
  have h1 := h.filter (fun x => x.1 == name)
  rw [hl] at h1
  have h2 : Lib.TabIs Tryz.prog w name k zs := Lib.tabIs_of_head hg hty ht he hce hct h1
  unfold Lib.TabIs World.var? at h2
  rw [hg] at h2
  simp only [Option.bind_some] at h2
  cases ho : w.heap[g]? with
  | none => rw [ho] at h2; simp at h2
  | some o =>
    rw [ho] at h2
    refine ⟨(Array.getElem?_eq_some_iff.1 ho).1, ?_⟩
    cases o <;> simp at h2
    rename_i cs t fr
    exact ⟨t, fr, by rw [h2]⟩
end Go.Abs
set_option maxRecDepth 100000
namespace Go.Abs
open Go Go.Proofs Go.RowKit Go.Proofs.YtmfoegilknpcnaaGreatDoor
theorem trod_iface {H : Type} {enc : TypeId × Value → H} {P : Program} {w : World} {base : Nat} {sp : Nat → Bool} {held : Bool} {fuel : Nat} {t : TypeId} {ms : Array (String × TypeId)} {cs : List Value} {x : DataW H × List MemPlace}
    (ht : P.underlying t = some (.interface ms)) (h : DataW.trod enc P w base sp held fuel t cs = some x) : ∃ ev, cs = [ev] ∧ (ev = .nilIface ∨ ∃ te pe, ev = .iface te pe) := by
  cases fuel with
  | zero => simp [DataW.trod] at h
  | succ n =>
    unfold DataW.trod at h
    rw [ht] at h
    split at h <;> simp_all
theorem err_in {l : List (String × DataW Unit)} {w : World} {name : String} {D : DataW Unit} {g : Nat} {t : TypeId} {ms : Array (String × TypeId)} (h : laidMetH Tryz.prog l w) (hl : l.filter (fun x => x.1 == name) = [(name, D)]) (hD : D.handleName? = none)
    (hg : Tryz.prog.globalNamed name = some g) (hty : (Tryz.prog.globals[g]?).map (·.type) = some t) (ht : Tryz.prog.underlying t = some (.interface ms)) :
    g < w.heap.size ∧ ∃ (cs : List Value) (t : TypeId) (fr : Nat × Nat), someErr cs ∧ w.heap[g]? = some (.cells cs.toArray t fr) := by
  have h1 := h.filter (fun x => x.1 == name)
  rw [hl] at h1
  unfold laidMetH at h1
  simp only [List.filter, hD, Option.isSome_none, Option.isNone_none] at h1
  obtain ⟨ps, ⟨g', t', cs, fuel, p, q, hg', ht', hvar, hd, _, _⟩, _⟩ := h1
  obtain rfl := Option.some.inj (hg.symm.trans hg')
  obtain rfl := Option.some.inj (hty.symm.trans ht')
  obtain ⟨ev, hcs, hev⟩ := trod_iface ht hd
  unfold World.var? at hvar
  rw [hg] at hvar
  simp only [Option.bind_some] at hvar
  cases ho : w.heap[g]? with
  | none => rw [ho] at hvar; simp at hvar
  | some o =>
    rw [ho] at hvar
    refine ⟨(Array.getElem?_eq_some_iff.1 ho).1, ?_⟩
    cases o <;> simp at hvar
    rename_i cs' t fr
    exact ⟨[ev], t, fr, ⟨ev, rfl, hev⟩, by rw [hvar, ← hcs]⟩
theorem maxLen_in {w : World} (h : w.ShapedOpen Tryz.prog) : 7 < w.heap.size ∧ ∃ (cs : List Value) (t : TypeId) (fr : Nat × Nat), someInt cs ∧ w.heap[7]? = some (.cells cs.toArray t fr) := by
  obtain ⟨m, hm⟩ := Go.Proofs.cell_of_shapedOpen_int (zero := #[.int .i64 0]) (t := 3) (g := 7) h (of_decide_eq_true (by kernel_rfl)) (by kernel_rfl) rfl (by kernel_rfl) (by kernel_rfl) Tryz.underlying3
  obtain ⟨cs, hh, hs, _⟩ := h.1 7 #[.int .i64 0] 3 (of_decide_eq_true (by kernel_rfl)) (by kernel_rfl)
  refine ⟨(Array.getElem?_eq_some_iff.1 hh).1, cs.toList, 3, _, ⟨m, ?_⟩, by simpa using hh⟩
  rw [Lib.cell_of_heap hh] at hm
  rcases cs with ⟨cs⟩
  match cs, hs with
  | [v], _ => simpa using hm
theorem eok_of {l : List (String × DataW Unit)} {w : World} {D E : DataW Unit} (h : laidMetH Tryz.prog l w) (hS : w.ShapedOpen Tryz.prog) (hl : l.filter (fun x => x.1 == "internal/strconv.uint64pow10") = [("internal/strconv.uint64pow10", Lib.tabData .u64 Lib.pow10Tab)])
    (hl1 : l.filter (fun x => x.1 == "strconv.ErrSyntax") = [("strconv.ErrSyntax", D)]) (hl2 : l.filter (fun x => x.1 == "strconv.ErrRange") = [("strconv.ErrRange", E)]) (hD : D.handleName? = none) (hE : E.handleName? = none) : EOK Tryz.prog w (· < w.heap.size) := fun g cs hm => by
  rcases List.mem_cons.1 hm with e | hm
  · cases e
    obtain ⟨h1, t, fr, h2⟩ := tab_in (t := 292) (e := 230) (n := 20) h hl (by kernel_rfl) (by kernel_rfl) (by kernel_rfl) (by kernel_rfl) (by kernel_rfl) (by kernel_rfl)
    exact ⟨h1, _, t, fr, rfl, h2⟩
  rcases List.mem_cons.1 hm with e | hm
  · cases e
    exact maxLen_in hS
  rcases List.mem_cons.1 hm with e | hm
  · cases e
    exact err_in (t := 163) h hl1 hD (by kernel_rfl) (by kernel_rfl) Tryz.underlying163
  · have e := List.mem_singleton.1 hm
    cases e
    exact err_in (t := 163) h hl2 hE (by kernel_rfl) (by kernel_rfl) Tryz.underlying163
end Go.Abs
