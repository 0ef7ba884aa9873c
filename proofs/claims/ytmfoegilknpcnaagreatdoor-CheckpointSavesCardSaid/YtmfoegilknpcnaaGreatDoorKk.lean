/- Part Kk of the proof: an abstract machine over the model, and what the functions of the program hand back in its terms. No condition. -/
import Derived.Test.YtmfoegilknpcnaaGreatDoorKe
set_option linter.all false
set_option maxRecDepth 100000
namespace Go.Abs
open Go Go.Proofs
set_option linter.unusedSimpArgs false
end Go.Abs
set_option maxRecDepth 100000
namespace Go.Abs
open Go Go.Proofs
set_option linter.unusedSimpArgs false
theorem pow1 : (2 : Int) ^ min 1 IntKind.u64.bits = 2 := by decide
theorem zig_pos (n : Int) (h : i64 n) (h0 : ¬ n < 0) : IntKind.u64.wrap (IntKind.u64.wrap n * 2 ^ min 1 IntKind.u64.bits) = (zig n : Int) := by
  obtain ⟨h1, h2⟩ := h
  rw [pow1, IntKind.wrap_u64, IntKind.wrap_u64]
  unfold zig
  rw [if_pos (by omega)]; omega
theorem zig_neg (n : Int) (h : i64 n) (h0 : n < 0) : bits .xor .u64 (if IntKind.u64.signed = true then -1 else IntKind.u64.max) (IntKind.u64.wrap (IntKind.u64.wrap n * 2 ^ min 1 IntKind.u64.bits)) = (zig n : Int) := by
  obtain ⟨h1, h2⟩ := h
  have e2 : (if IntKind.u64.signed = true then -1 else IntKind.u64.max) = ((2 ^ 64 - 1 : Nat) : Int) := by decide
  have e3 : IntKind.u64.wrap (IntKind.u64.wrap n * 2 ^ min 1 IntKind.u64.bits) = ((2 * n + 18446744073709551616).toNat : Int) := by
    rw [pow1, IntKind.wrap_u64, IntKind.wrap_u64]; omega
  rw [e2, e3, bits_xor_u64_nat _ _ (by decide) (by omega), Lib.xor_ones64 _ (by omega)]
  unfold zig
  rw [if_neg (by omega)]; omega
theorem rem128 (u : Nat) : (.int .u8 (IntKind.u8.wrap (IntKind.u8.wrap (Int.tmod (u : Int) 128) + 128)) : AV) = byteAV (UInt8.ofNat (u % 128 + 128)) := by
  rw [Int.tmod_eq_emod_of_nonneg (by omega), byte_nat _ (by omega), show (u : Int) % 128 = ((u % 128 : Nat) : Int) by omega, u8_wrap_nat _ (by omega)]
  rw [show ((u % 128 : Nat) : Int) + 128 = ((u % 128 + 128 : Nat) : Int) by omega, u8_wrap_nat _ (by omega)]
theorem tdiv128 (u : Nat) : Int.tdiv (u : Int) 128 = ((u / 128 : Nat) : Int) := by rw [Int.tdiv_eq_ediv_of_nonneg (by omega)]; omega
/-- What stands behind a write: the text grown by 'bs' (if there is no error), and the first error. -/
def RS (d d' : Dc) (bs : List UInt8) (er : Int) : Prop := d'.e = orE d.e er ∧ d'.s.length ≤ d.s.length + bs.length ∧ (orE d.e er = 0 → d'.s = d.s ++ bs)
theorem RS.two {d d1 d2 : Dc} {b1 b2 : List UInt8} {r1 r2 : Int} (a : RS d d1 b1 r1) (b : RS d1 d2 b2 r2) : RS d d2 (b1 ++ b2) (orE r1 r2) := by
  obtain ⟨a2, a3, a4⟩ := a
  obtain ⟨c2, c3, c4⟩ := b
  rw [a2, orE_assoc] at c2 c4
  refine ⟨c2, by simp; omega, fun h => ?_⟩
  rw [c4 h, a4 (orE_left (b := r2) (by rw [orE_assoc]; exact h)), List.append_assoc]
theorem RS.puts (d : Dc) (bs : List UInt8) : RS d ⟨d.s ++ bs, d.e⟩ bs 0 := ⟨by rw [orE_self], by simp, fun _ => rfl⟩
theorem RS.plus {d d' : Dc} {b1 b2 : List UInt8} {r : Int} (a : RS d d' b1 r) : RS d ⟨d'.s ++ b2, d'.e⟩ (b1 ++ b2) r := by
  have := a.two (RS.puts d' b2)
  rwa [orE_self] at this
theorem RS.plus0 {d d' : Dc} {b1 b2 : List UInt8} {r : Int} (a : RS ⟨d.s ++ b1, d.e⟩ d' b2 r) : RS d d' (b1 ++ b2) r := by
  have := (RS.puts d b1).two a
  rwa [orE_z] at this
theorem RS.zero {α : Type} (d : Dc) (l : List α) (bs : α → List UInt8) (er : α → Int) : RS d d ((l.take 0).flatMap bs) (firstE er (l.take 0)) := ⟨by simp [firstE, orE_self], by simp, fun _ => by simp⟩
theorem RS.next {α : Type} {l : List α} {bs : α → List UInt8} {er : α → Int} {d0 dj d2 : Dc} {j : Nat} (h : j < l.length) (a : RS d0 dj ((l.take j).flatMap bs) (firstE er (l.take j))) (b : RS dj d2 (bs l[j]) (er l[j])) :
    RS d0 d2 ((l.take (j + 1)).flatMap bs) (firstE er (l.take (j + 1))) := by
  rw [flat_take bs l j h, firstE_take er l j h]
  exact a.two b
theorem RS.fin {α : Type} {l : List α} {bs : α → List UInt8} {er : α → Int} {d0 dj : Dc} {j : Nat} (a : RS d0 dj ((l.take j).flatMap bs) (firstE er (l.take j))) (h : j = l.length ∨ dj.e ≠ 0) : RS d0 dj (l.flatMap bs) (firstE er l) := by
  rcases h with rfl | h
  · rwa [List.take_length] at a
  · obtain ⟨a1, a2, a3⟩ := a
    have hfe : orE d0.e (firstE er l) = dj.e := by
      conv => lhs; rw [← List.take_append_drop j l]
      rw [firstE_app, ← orE_assoc, ← a1, orE_ne h]
    have := flat_le bs l j
    exact ⟨hfe.symm, by omega, fun hz => absurd (by rw [← hfe]; exact hz) h⟩
theorem RS.list {α : Type} {l : List α} {bs : α → List UInt8} {er : α → Int} {d d0 d1 : Dc} (a : RS d d0 (encN l.length) (if 4096 < l.length then 5 else 0)) (b : RS d0 d1 (l.flatMap bs) (firstE er l)) : RS d d1 (encL bs l) (errL er l) := by
  have h := a.two b
  have e : orE (if 4096 < l.length then 5 else 0) (firstE er l) = errL er l := by
    unfold errL
    split
    · exact orE_ne (by decide)
    · exact orE_z _
  rwa [e] at h
theorem RS.room {α : Type} {l : List α} {bs : α → List UInt8} {er : α → Int} {d0 dj : Dc} {j : Nat} {m : Nat} (a : RS d0 dj ((l.take j).flatMap bs) (firstE er (l.take j))) (h : j < l.length) (hb : d0.s.length + (l.flatMap bs).length ≤ m) : dj.s.length + (bs l[j]).length ≤ m := by
  have h1 := flat_le bs l (j + 1)
  rw [flat_take bs l j h, List.length_append] at h1
  have := a.2.1
  omega
theorem encL_l {α : Type} (bs : α → List UInt8) (l : List α) : (encL bs l).length = (encN l.length).length + (l.flatMap bs).length := by rw [encL, List.length_append]
/-- What a writing function of the reference leaves. -/
def RP (H : List AObj) (q : Nat) (d : Dc) (bs : List UInt8) (er : Int) (r : AV) (H' : List AObj) : Prop :=
  r = .tup [] ∧ ∃ d', H'[q]? = some (dX d') ∧ Fr H H' q none none ∧ RS d d' bs er
/-- What a function leaves that writes just these bytes. -/
def RI (H : List AObj) (q : Nat) (d : Dc) (bs : List UInt8) (r : AV) (H' : List AObj) : Prop :=
  r = .tup [] ∧ H'[q]? = some (dX ⟨d.s ++ bs, d.e⟩) ∧ Fr H H' q none none
set_option maxHeartbeats 1000000 in
theorem pc_rNum (n : Int) (hn : i64 n) : PC Tryz.prog 182 [.i n] (fun r => r = .str (encN n)) := by
  refine PC_body tOk Tryz.func182 rfl Tryz.results182 rfl (by simp [Tryz.ntmps182]) ?_
  rw [Tryz.ntmps182]
  simp only [argSlots]
  repeat first|((first|refine qa tOk rfl ?_|refine qb tOk rfl ?_|refine qc ?_|refine qd ?_|refine qe ?_);simp)|refine AWP_block ?_|refine AWP_seq ?_
  refine AWP_cond2 rfl (fun h => ?_) (fun h => ?_)
  · have hz := zig_neg n hn (by simpa using h)
    repeat first|((first|refine qa tOk rfl ?_|refine qb tOk rfl ?_|refine qc ?_|refine qd ?_|refine qe ?_);simp [hz])|refine AWP_block ?_|refine AWP_seq ?_
    refine AWP_loop (ALoop_keep (sl' := [(0, .i n), (2, .str []), (3, .int .u64 (zig n)), (4, .str [])]) ?_ (by simp [hz]))
    refine ALoop_wf (F := fun (u : Nat × Nat × List UInt8 × List AObj) => ⟨[(0, .i n), (2, .str []), (3, .int .u64 u.2.1), (4, .str u.2.2.1)], u.2.2.2⟩)
      (fun u => u.2.2.1 ++ varF (u.1 + 1) u.2.1 = encN n ∧ u.1 ≤ 9 ∧ u.2.1 < 2 ^ (7 * u.1 + 1)) (fun u => u.1) ?_ (9, zig n, [], []) ⟨rfl, Nat.le_refl _, by have := zig_nat n hn; simpa using this⟩
    rintro ⟨k, u, t, G⟩ ⟨g3, g4, g5⟩ ih
    simp only at g3 g4 g5 ih ⊢
    have hlen : t.length + (varF (k + 1) u).length ≤ 10 := by rw [← List.length_append, g3]; exact encN_len n
    repeat first|((first|refine qa tOk rfl ?_|refine qb tOk rfl ?_|refine qc ?_|refine qd ?_|refine qe ?_);simp)|refine AWP_block ?_|refine AWP_seq ?_
    refine AWP_cond2 rfl (fun h => ?_) (fun h => ?_)
    · have hu : 128 ≤ u := by simp at h; omega
      cases k with
      | zero => simp at g5; omega
      | succ k =>
        rw [varF, if_neg (by omega)] at g3 hlen
        repeat first|((first|refine qa tOk rfl ?_|refine qb tOk rfl ?_|refine qc ?_|refine qd ?_|refine qe ?_);simp)|refine AWP_block ?_|refine AWP_seq ?_
        rw [rem128]
        obtain ⟨c, hc⟩ : ∃ c, UInt8.ofNat (u % 128 + 128) = c := ⟨_, rfl⟩
        rw [hc] at g3 hlen ⊢
        have hlt : t.length + 1 ≤ 9223372036854775807 := by omega
        have hp : (2 : Nat) ^ (7 * (k + 1) + 1) ≤ 2 ^ 64 := Nat.pow_le_pow_right (by decide) (by omega)
        have huw : IntKind.u64.wrap ((u : Int) / 128) = (u : Int) / 128 := by
          have : u < 2 ^ 64 := Nat.lt_of_lt_of_le g5 hp
          rw [IntKind.wrap_u64]; omega
        refine AStep_toStr tOk rfl rfl T117 rfl T5 rfl T9 rfl rfl (s := [c]) (by simp) rfl ?_
        simp [hlt]
        repeat first|((first|refine qa tOk rfl ?_|refine qb tOk rfl ?_|refine qc ?_|refine qd ?_|refine qe ?_);simp [tdiv128])|refine AWP_block ?_|refine AWP_seq ?_
        refine ALoop_keep (ih (k, u / 128, t ++ [c], _) ⟨by rw [List.append_assoc]; exact g3, by simp only; omega, ?_⟩ (by simp only; omega)) (by simp [huw])
        have : 7 * (k + 1) + 1 = (7 * k + 1) + 7 := by omega
        rw [this, Nat.pow_add] at g5; show u / 128 < 2 ^ (7 * k + 1); omega
    · have hu : u < 128 := by simp at h; omega
      rw [varF, if_pos hu] at g3 hlen
      have hlt : t.length + 1 ≤ 9223372036854775807 := by omega
      have hub : (.int .u8 (IntKind.u8.wrap (u : Int)) : AV) = byteAV (UInt8.ofNat u) := by rw [byte_nat _ (by omega), u8_wrap_nat _ (by omega)]
      obtain ⟨c, hc⟩ : ∃ c, UInt8.ofNat u = c := ⟨_, rfl⟩
      rw [hc] at hub g3
      repeat first|((first|refine qa tOk rfl ?_|refine qb tOk rfl ?_|refine qc ?_|refine qd ?_|refine qe ?_);simp)|refine AWP_block ?_|refine AWP_seq ?_
      rw [hub]
      refine AStep_toStr tOk rfl rfl T117 rfl T5 rfl T9 rfl rfl (s := [c]) (by simp) rfl ?_
      simp [hlt]
      repeat first|((first|refine qa tOk rfl ?_|refine qb tOk rfl ?_|refine qc ?_|refine qd ?_|refine qe ?_);simp)|refine AWP_block ?_|refine AWP_seq ?_
      exact g3
  · have hz := zig_pos n hn (by simpa using h)
    repeat first|((first|refine qa tOk rfl ?_|refine qb tOk rfl ?_|refine qc ?_|refine qd ?_|refine qe ?_);simp [hz])|refine AWP_block ?_|refine AWP_seq ?_
    refine AWP_loop (ALoop_keep (sl' := [(0, .i n), (2, .str []), (3, .int .u64 (zig n)), (4, .str [])]) ?_ (by simp [hz]))
    refine ALoop_wf (F := fun (u : Nat × Nat × List UInt8 × List AObj) => ⟨[(0, .i n), (2, .str []), (3, .int .u64 u.2.1), (4, .str u.2.2.1)], u.2.2.2⟩)
      (fun u => u.2.2.1 ++ varF (u.1 + 1) u.2.1 = encN n ∧ u.1 ≤ 9 ∧ u.2.1 < 2 ^ (7 * u.1 + 1)) (fun u => u.1) ?_ (9, zig n, [], []) ⟨rfl, Nat.le_refl _, by have := zig_nat n hn; simpa using this⟩
    rintro ⟨k, u, t, G⟩ ⟨g3, g4, g5⟩ ih
    simp only at g3 g4 g5 ih ⊢
    have hlen : t.length + (varF (k + 1) u).length ≤ 10 := by rw [← List.length_append, g3]; exact encN_len n
    repeat first|((first|refine qa tOk rfl ?_|refine qb tOk rfl ?_|refine qc ?_|refine qd ?_|refine qe ?_);simp)|refine AWP_block ?_|refine AWP_seq ?_
    refine AWP_cond2 rfl (fun h => ?_) (fun h => ?_)
    · have hu : 128 ≤ u := by simp at h; omega
      cases k with
      | zero => simp at g5; omega
      | succ k =>
        rw [varF, if_neg (by omega)] at g3 hlen
        repeat first|((first|refine qa tOk rfl ?_|refine qb tOk rfl ?_|refine qc ?_|refine qd ?_|refine qe ?_);simp)|refine AWP_block ?_|refine AWP_seq ?_
        rw [rem128]
        obtain ⟨c, hc⟩ : ∃ c, UInt8.ofNat (u % 128 + 128) = c := ⟨_, rfl⟩
        rw [hc] at g3 hlen ⊢
        have hlt : t.length + 1 ≤ 9223372036854775807 := by omega
        have hp : (2 : Nat) ^ (7 * (k + 1) + 1) ≤ 2 ^ 64 := Nat.pow_le_pow_right (by decide) (by omega)
        have huw : IntKind.u64.wrap ((u : Int) / 128) = (u : Int) / 128 := by
          have : u < 2 ^ 64 := Nat.lt_of_lt_of_le g5 hp
          rw [IntKind.wrap_u64]; omega
        refine AStep_toStr tOk rfl rfl T117 rfl T5 rfl T9 rfl rfl (s := [c]) (by simp) rfl ?_
        simp [hlt]
        repeat first|((first|refine qa tOk rfl ?_|refine qb tOk rfl ?_|refine qc ?_|refine qd ?_|refine qe ?_);simp [tdiv128])|refine AWP_block ?_|refine AWP_seq ?_
        refine ALoop_keep (ih (k, u / 128, t ++ [c], _) ⟨by rw [List.append_assoc]; exact g3, by simp only; omega, ?_⟩ (by simp only; omega)) (by simp [huw])
        have : 7 * (k + 1) + 1 = (7 * k + 1) + 7 := by omega
        rw [this, Nat.pow_add] at g5; show u / 128 < 2 ^ (7 * k + 1); omega
    · have hu : u < 128 := by simp at h; omega
      rw [varF, if_pos hu] at g3 hlen
      have hlt : t.length + 1 ≤ 9223372036854775807 := by omega
      have hub : (.int .u8 (IntKind.u8.wrap (u : Int)) : AV) = byteAV (UInt8.ofNat u) := by rw [byte_nat _ (by omega), u8_wrap_nat _ (by omega)]
      obtain ⟨c, hc⟩ : ∃ c, UInt8.ofNat u = c := ⟨_, rfl⟩
      rw [hc] at hub g3
      repeat first|((first|refine qa tOk rfl ?_|refine qb tOk rfl ?_|refine qc ?_|refine qd ?_|refine qe ?_);simp)|refine AWP_block ?_|refine AWP_seq ?_
      rw [hub]
      refine AStep_toStr tOk rfl rfl T117 rfl T5 rfl T9 rfl rfl (s := [c]) (by simp) rfl ?_
      simp [hlt]
      repeat first|((first|refine qa tOk rfl ?_|refine qb tOk rfl ?_|refine qc ?_|refine qd ?_|refine qe ?_);simp)|refine AWP_block ?_|refine AWP_seq ?_
      exact g3
theorem pc_rText (s : List UInt8) (hs : s.length ≤ 1000000000) : PC Tryz.prog 183 [.str s] (fun r => r = .str (encT s)) := by
  refine PC_body tOk Tryz.func183 rfl Tryz.results183 rfl (by simp [Tryz.ntmps183]) ?_
  rw [Tryz.ntmps183]
  simp only [argSlots]
  have hl := encN_len (s.length : Int)
  have hb : (encN (s.length : Int)).length + s.length ≤ 9223372036854775807 := by omega
  repeat first|((first|refine qa tOk rfl ?_|refine qb tOk rfl ?_|refine qc ?_|refine qd ?_|refine qe ?_);simp)|refine AWP_block ?_|refine AWP_seq ?_
  refine AStep_PC rfl rfl (by simp) (pc_rNum (s.length : Int) (by constructor <;> omega)) rfl ?_
  rintro _ rfl
  simp [hb]
  repeat first|((first|refine qa tOk rfl ?_|refine qb tOk rfl ?_|refine qc ?_|refine qd ?_|refine qe ?_);simp)|refine AWP_block ?_|refine AWP_seq ?_
  rfl
set_option maxHeartbeats 2000000 in
theorem fc_rnumber (l : List Int) (hl : l.length ≤ 1000000) (hi : ∀ n ∈ l, i64 n) (H : List AObj) (q : Nat) (d : Dc) (s : Nat) (hd : H[q]? = some (dX d)) (hs : H[s]? = some (.arr 3 1 (l.map encI))) (hsq : s ≠ q) (hb : d.s.length + (l.flatMap encN).length ≤ 1000000000) :
    FC Tryz.prog 133 [.vptr q 0, .sl s 1 0 l.length] H (RI H q d (l.flatMap encN)) := by
  refine FC_body tOk Tryz.func133 rfl Tryz.results133 rfl (by simp [Tryz.ntmps133]) ?_
  rw [Tryz.ntmps133]
  simp only [argSlots]
  repeat first|((first|refine qa tOk rfl ?_|refine qb tOk rfl ?_|refine qc ?_|refine qd ?_|refine qe ?_);simp)|refine AWP_block ?_|refine AWP_seq ?_
  refine AWP_loop (ALoop_keep (sl' := [(0, .vptr q 0), (1, .sl s 1 0 l.length), (4, .i 0)]) ?_ (by simp))
  refine ALoop_wf (F := fun (u : Nat × List AObj) => ⟨[(0, .vptr q 0), (1, .sl s 1 0 l.length), (4, .i u.1)], u.2⟩)
    (fun u => u.2[q]? = some (dX ⟨d.s ++ (l.take u.1).flatMap encN, d.e⟩) ∧ Fr H u.2 q none none ∧ u.1 ≤ l.length) (fun u => l.length - u.1) ?_ (0, H) ⟨by simpa using hd, Fr.refl .., Nat.zero_le _⟩
  rintro ⟨j, G⟩ ⟨g1, g2, g3⟩ ih
  simp only at g1 g2 g3 ih ⊢
  repeat first|((first|refine qa tOk rfl ?_|refine qb tOk rfl ?_|refine qc ?_|refine qd ?_|refine qe ?_);simp)|refine AWP_block ?_|refine AWP_seq ?_
  refine AWP_cond2 rfl (fun h => ?_) (fun h => ?_)
  · have hlt : j < l.length := by simpa using h
    have hs2 := g2.kd hs hsq
    have hw1 : IntKind.i64.wrap ((j : Int) + 1) = j + 1 := wrap_i64 _ (by omega) (by omega)
    have hle := flat_le encN l (j + 1)
    have hft := flat_take encN l j hlt
    rw [hft, List.length_append] at hle
    have g1' : G[q]? = some (.vars [.str (d.s ++ (l.take j).flatMap encN), .i d.e]) := g1
    generalize hx : (l.take j).flatMap encN = x at *
    have hb' : d.s.length + x.length + (encN l[j]).length ≤ 9223372036854775807 := by omega
    repeat first|((first|refine qa tOk rfl ?_|refine qb tOk rfl ?_|refine qc ?_|refine qd ?_|refine qe ?_);simp)|refine AWP_block ?_|refine AWP_seq ?_
    refine AWP_drawT tOk mixed [12] (.val 0 (.val 1 (.val 2 (.val 3 (.val 4 (.val 5 (.val 6 (.val 7 (.one 8 (.val 9 (.val 10 (.val 11 (.one 12 (.done)))))))))))))) rfl (by kernel_rfl) ?_
    simp [g1', hs2, hlt]
    refine AStep_PC rfl rfl (by simp) (pc_rNum l[j] (hi _ (List.getElem_mem hlt))) rfl ?_
    rintro _ rfl
    simp [g1', hb']
    repeat first|((first|refine qa tOk rfl ?_|refine qb tOk rfl ?_|refine qc ?_|refine qd ?_|refine qe ?_);simp [hw1])|refine AWP_block ?_|refine AWP_seq ?_
    refine ALoop_keep (ih (j + 1, _) ⟨?_, g2.trans (Fr.set ..), hlt⟩ (by simp only; omega)) (by simp)
    simp only
    rw [get_self g1, hft]
    simp [dX]
  · have hge : j = l.length := by simp at h; omega
    subst hge
    repeat first|((first|refine qa tOk rfl ?_|refine qb tOk rfl ?_|refine qc ?_|refine qd ?_|refine qe ?_);simp)|refine AWP_block ?_|refine AWP_seq ?_
    rw [List.take_length] at g1
    exact ⟨rfl, g1, g2⟩
set_option maxHeartbeats 1000000 in
theorem fc_rlength (n : Nat) (hn : n ≤ 1000000000) (H : List AObj) (q : Nat) (d : Dc) (hd : H[q]? = some (dX d)) (hb : d.s.length + (encN n).length ≤ 1000000000) :
    FC Tryz.prog 134 [.vptr q 0, .i n] H (RP H q d (encN n) (if 4096 < n then 5 else 0)) := by
  refine FC_body tOk Tryz.func134 rfl Tryz.results134 rfl (by simp [Tryz.ntmps134]) ?_
  rw [Tryz.ntmps134]
  simp only [argSlots]
  have h0 : H[q]? = some (.vars [.str d.s, .i d.e]) := hd
  have hb' : d.s.length + (encN (n : Int)).length ≤ 9223372036854775807 := by omega
  repeat first|((first|refine qa tOk rfl ?_|refine qb tOk rfl ?_|refine qc ?_|refine qd ?_|refine qe ?_);simp [h0])|refine AWP_block ?_|refine AWP_seq ?_
  by_cases hm : d.e = 0 ∧ 4096 < n
  · have hm2 : (4096 : Int) < n := by omega
    have gs : ∀ y, (H.set q y)[q]? = some y := fun y => get_self hd y
    refine AWP_cond2 rfl (fun _ => ?_) (fun h => by simp [hm.1, hm2] at h)
    repeat first|((first|refine qa tOk rfl ?_|refine qb tOk rfl ?_|refine qc ?_|refine qd ?_|refine qe ?_);simp [h0, gs])|refine AWP_block ?_|refine AWP_seq ?_
    refine AWP_drawT tOk mixed [9] (.val 0 (.val 1 (.val 2 (.val 3 (.val 4 (.one 5 (.val 6 (.val 7 (.val 8 (.one 9 (.done))))))))))) rfl (by kernel_rfl) ?_
    simp [gs]
    refine AStep_PC rfl rfl (by simp) (pc_rNum (n : Int) (by constructor <;> omega)) rfl ?_
    rintro _ rfl
    simp [gs, hb']
    repeat first|((first|refine qa tOk rfl ?_|refine qb tOk rfl ?_|refine qc ?_|refine qd ?_|refine qe ?_);simp)|refine AWP_block ?_|refine AWP_seq ?_
    rw [if_pos hm.2]
    refine ⟨rfl, ⟨d.s ++ encN n, 5⟩, by rw [get_self hd]; rfl, Fr.set .., by rw [hm.1, orE_z], by simp, fun h => absurd h (by rw [hm.1, orE_z]; decide)⟩
  · refine AWP_cond2 rfl (fun h => by exfalso; apply hm; simp at h; omega) (fun _ => ?_)
    repeat first|((first|refine qa tOk rfl ?_|refine qb tOk rfl ?_|refine qc ?_|refine qd ?_|refine qe ?_);simp [h0])|refine AWP_block ?_|refine AWP_seq ?_
    refine AWP_drawT tOk mixed [9] (.val 0 (.val 1 (.val 2 (.val 3 (.val 4 (.one 5 (.val 6 (.val 7 (.val 8 (.one 9 (.done))))))))))) rfl (by kernel_rfl) ?_
    simp [h0]
    refine AStep_PC rfl rfl (by simp) (pc_rNum (n : Int) (by constructor <;> omega)) rfl ?_
    rintro _ rfl
    simp [h0, hb']
    repeat first|((first|refine qa tOk rfl ?_|refine qb tOk rfl ?_|refine qc ?_|refine qd ?_|refine qe ?_);simp)|refine AWP_block ?_|refine AWP_seq ?_
    refine ⟨rfl, ⟨d.s ++ encN n, d.e⟩, by rw [get_self hd]; rfl, Fr.set .., ?_, by simp, fun _ => rfl⟩
    simp only
    split
    · by_cases hz : d.e = 0
      · exact absurd ⟨hz, by assumption⟩ hm
      · rw [orE_ne hz]
    · rw [orE_self]
end Go.Abs
set_option maxRecDepth 100000
namespace Go.Abs
open Go Go.Proofs
set_option linter.unusedSimpArgs false
theorem rChk_eq (v : Val) : rCheckR v = checkR v := by
  unfold rCheckR checkR sizeR
  rcases v with ⟨k, n, t⟩
  simp only [Bool.or_eq_true, Bool.and_eq_true, decide_eq_true_eq, beq_iff_eq, bne_iff_ne, Bool.not_eq_true', ne_eq]
  by_cases h0 : k = 0
  · subst h0
    cases t with
    | nil => simp
    | cons c t => simp
  · by_cases h1 : k = 1
    · subst h1
      cases t with
      | nil => simp; repeat' split
               all_goals omega
      | cons c t => simp
    · by_cases h2 : k = 2
      · subst h2; simp
      · have : k < 0 ∨ 2 < k := by omega
        simp [h0, h1, h2, this]
theorem pc_rChk (v : Val) : PC Tryz.prog 172 [encV v] (fun r => r = .i (checkR v)) := by
  have h := pc_rCheck v
  rwa [rChk_eq] at h
attribute [local irreducible] checkR
set_option maxHeartbeats 2000000 in
theorem fc_rvalue (v : Val) (hi : jV v) (H : List AObj) (q : Nat) (d : Dc) (hd : H[q]? = some (dX d)) (hb : d.s.length + (encVal v).length ≤ 1000000000) :
    FC Tryz.prog 137 [.vptr q 0, encV v] H (RP H q d (encVal v) (checkR v)) := by
  refine FC_body tOk Tryz.func137 rfl Tryz.results137 rfl (by simp [Tryz.ntmps137]) ?_
  rw [Tryz.ntmps137]
  simp only [argSlots]
  have hql := (List.getElem?_eq_some_iff.1 hd).1
  have hlen : (encVal v).length = (encN v.kind).length + (if v.kind = 2 then encT v.text else encN v.num).length := by rw [encVal, List.length_append]
  repeat first|((first|refine qa tOk rfl ?_|refine qb tOk rfl ?_|refine qc ?_|refine qd ?_|refine qe ?_);simp)|refine AWP_block ?_|refine AWP_seq ?_
  have k0 : (H ++ [AObj.vars [.i v.kind, .i v.num, .str v.text]])[q]? = some (.vars [.str d.s, .i d.e]) := get_app hd _
  have c0 : (H ++ [AObj.vars [.i v.kind, .i v.num, .str v.text]])[H.length]? = some (.vars [.i v.kind, .i v.num, .str v.text]) := by simp
  have f0 := Fr.app H [AObj.vars [.i v.kind, .i v.num, .str v.text]] q
  have hcq : H.length ≠ q := by omega
  generalize H ++ [AObj.vars [.i v.kind, .i v.num, .str v.text]] = G0 at *
  refine AStep_PC rfl rfl (by simp) (pc_rChk v) rfl ?_
  rintro _ rfl
  simp
  repeat first|((first|refine qa tOk rfl ?_|refine qb tOk rfl ?_|refine qc ?_|refine qd ?_|refine qe ?_);simp [k0])|refine AWP_block ?_|refine AWP_seq ?_
  have hcv : checkR v = 0 ∨ checkR v ≠ 0 := by omega
  by_cases hm : d.e = 0 ∧ checkR v ≠ 0
  · have gs : ∀ y, (G0.set q y)[q]? = some y := fun y => get_self k0 y
    have c1 : ∀ y, (G0.set q y)[H.length]? = some (.vars [.i v.kind, .i v.num, .str v.text]) := fun y => get_set (Ne.symm hcq) c0 y
    refine AWP_cond2 rfl (fun _ => ?_) (fun h => by simp [hm.1, hm.2] at h)
    first | (refine AWP_seq (AWP_regS tOk rfl ?_); simp [k0]) | (refine AWP_regS tOk rfl ?_; simp [k0])
    have k1 := gs (dX ⟨d.s, checkR v⟩)
    have c1' := c1 (dX ⟨d.s, checkR v⟩)
    have f1 := f0.trans (Fr.set G0 q none (dX ⟨d.s, checkR v⟩))
    have s1 : RS d ⟨d.s, checkR v⟩ [] (checkR v) := ⟨by rw [hm.1, orE_z], by simp, fun _ => by simp⟩
    have hdx : AObj.vars [.str d.s, .i (checkR v)] = dX ⟨d.s, checkR v⟩ := rfl
    rw [hdx]
    generalize G0.set q (dX ⟨d.s, checkR v⟩) = G1 at *
    obtain ⟨D1, hD1⟩ : ∃ D1 : Dc, (⟨d.s, checkR v⟩ : Dc) = D1 := ⟨_, rfl⟩
    have hds : D1.s = d.s := by rw [← hD1]
    have hb1 : D1.s.length + (encVal v).length ≤ 1000000000 := by rw [hds]; exact hb
    rw [hD1] at k1 s1
    repeat first|((first|refine qa tOk rfl ?_|refine qb tOk rfl ?_|refine qc ?_|refine qd ?_|refine qe ?_);simp [c1'])|refine AWP_block ?_|refine AWP_seq ?_
    refine AStep_FC rfl rfl (fc_rnumber [v.kind] (by simp) (by simp [hi.1]) _ q D1 G1.length (get_app k1 _) (by simp) (by have := (List.getElem?_eq_some_iff.1 k1).1; omega) (by simp; omega)) rfl ?_
    rintro _ G2 ⟨rfl, k2, e2⟩
    have f2 : Fr H G2 q none none := f1.trans ((Fr.app G1 _ q).trans e2)
    have c2 := ((Fr.app G1 [AObj.arr 3 1 ([v.kind].map encI)] q).trans e2).kd c1' hcq
    have k2' : G2[q]? = some (.vars [.str (D1.s ++ [v.kind].flatMap encN), .i D1.e]) := k2
    simp
    repeat first|((first|refine qa tOk rfl ?_|refine qb tOk rfl ?_|refine qc ?_|refine qd ?_|refine qe ?_);simp [c2])|refine AWP_block ?_|refine AWP_seq ?_
    by_cases hk : v.kind = 2
    · refine AWP_cond2 rfl (fun _ => ?_) (fun h => by simp [hk] at h)
      rw [if_pos hk] at hlen
      have htl : v.text.length ≤ (encT v.text).length := by simp [encT]
      have hcat : D1.s.length + (encN v.kind).length + (encT v.text).length ≤ 9223372036854775807 := by omega
      repeat first|((first|refine qa tOk rfl ?_|refine qb tOk rfl ?_|refine qc ?_|refine qd ?_|refine qe ?_);simp)|refine AWP_block ?_|refine AWP_seq ?_
      refine AWP_drawT tOk mixed [10] (.val 0 (.val 1 (.val 2 (.val 3 (.val 4 (.val 5 (.one 6 (.val 7 (.val 8 (.val 9 (.one 10 (.done)))))))))))) rfl (by kernel_rfl) ?_
      simp [k2', c2]
      refine AStep_PC rfl rfl (by simp) (pc_rText v.text (by omega)) rfl ?_
      rintro _ rfl
      simp [k2', hcat]
      repeat first|((first|refine qa tOk rfl ?_|refine qb tOk rfl ?_|refine qc ?_|refine qd ?_|refine qe ?_);simp)|refine AWP_block ?_|refine AWP_seq ?_
      refine ⟨rfl, _, get_self k2 (dX ⟨D1.s ++ (encN v.kind ++ encT v.text), D1.e⟩), f2.trans (Fr.set ..), ?_⟩
      rw [encVal, if_pos hk]
      have := (s1).plus (b2 := [v.kind].flatMap encN ++ encT v.text)
      simpa using this
    · refine AWP_cond2 rfl (fun h => by simp [hk] at h) (fun _ => ?_)
      rw [if_neg hk] at hlen
      repeat first|((first|refine qa tOk rfl ?_|refine qb tOk rfl ?_|refine qc ?_|refine qd ?_|refine qe ?_);simp [c2])|refine AWP_block ?_|refine AWP_seq ?_
      refine AStep_FC rfl rfl (fc_rnumber [v.num] (by simp) (by simp [hi.2]) _ q _ G2.length (get_app k2 _) (by simp) (by have := (List.getElem?_eq_some_iff.1 k2).1; omega) (by simp; omega)) rfl ?_
      rintro _ G3 ⟨rfl, k3, e3⟩
      simp
      repeat first|((first|refine qa tOk rfl ?_|refine qb tOk rfl ?_|refine qc ?_|refine qd ?_|refine qe ?_);simp)|refine AWP_block ?_|refine AWP_seq ?_
      refine ⟨rfl, _, k3, f2.trans ((Fr.app G2 _ q).trans e3), ?_⟩
      rw [encVal, if_neg hk]
      have := (s1).plus (b2 := [v.kind].flatMap encN ++ [v.num].flatMap encN)
      simpa using this
  · refine AWP_cond2 rfl (fun h => by exfalso; apply hm; simp at h; exact h) (fun _ => ?_)
    have s1 : RS d d [] (checkR v) := ⟨by by_cases hz : d.e = 0; exact (by rw [hz, orE_z]; have := fun h => hm ⟨hz, h⟩; omega); rw [orE_ne hz], by simp, fun _ => by simp⟩
    have hb1 := hb
    repeat first|((first|refine qa tOk rfl ?_|refine qb tOk rfl ?_|refine qc ?_|refine qd ?_|refine qe ?_);simp [c0])|refine AWP_block ?_|refine AWP_seq ?_
    refine AStep_FC rfl rfl (fc_rnumber [v.kind] (by simp) (by simp [hi.1]) _ q d G0.length (get_app k0 _) (by simp) (by have := (List.getElem?_eq_some_iff.1 k0).1; omega) (by simp; omega)) rfl ?_
    rintro _ G2 ⟨rfl, k2, e2⟩
    have f2 : Fr H G2 q none none := f0.trans ((Fr.app G0 _ q).trans e2)
    have c2 := ((Fr.app G0 [AObj.arr 3 1 ([v.kind].map encI)] q).trans e2).kd c0 hcq
    have k2' : G2[q]? = some (.vars [.str (d.s ++ [v.kind].flatMap encN), .i d.e]) := k2
    simp
    repeat first|((first|refine qa tOk rfl ?_|refine qb tOk rfl ?_|refine qc ?_|refine qd ?_|refine qe ?_);simp [c2])|refine AWP_block ?_|refine AWP_seq ?_
    by_cases hk : v.kind = 2
    · refine AWP_cond2 rfl (fun _ => ?_) (fun h => by simp [hk] at h)
      rw [if_pos hk] at hlen
      have htl : v.text.length ≤ (encT v.text).length := by simp [encT]
      have hcat : d.s.length + (encN v.kind).length + (encT v.text).length ≤ 9223372036854775807 := by omega
      repeat first|((first|refine qa tOk rfl ?_|refine qb tOk rfl ?_|refine qc ?_|refine qd ?_|refine qe ?_);simp)|refine AWP_block ?_|refine AWP_seq ?_
      refine AWP_drawT tOk mixed [10] (.val 0 (.val 1 (.val 2 (.val 3 (.val 4 (.val 5 (.one 6 (.val 7 (.val 8 (.val 9 (.one 10 (.done)))))))))))) rfl (by kernel_rfl) ?_
      simp [k2', c2]
      refine AStep_PC rfl rfl (by simp) (pc_rText v.text (by omega)) rfl ?_
      rintro _ rfl
      simp [k2', hcat]
      repeat first|((first|refine qa tOk rfl ?_|refine qb tOk rfl ?_|refine qc ?_|refine qd ?_|refine qe ?_);simp)|refine AWP_block ?_|refine AWP_seq ?_
      refine ⟨rfl, _, get_self k2 (dX ⟨d.s ++ (encN v.kind ++ encT v.text), d.e⟩), f2.trans (Fr.set ..), ?_⟩
      rw [encVal, if_pos hk]
      have := (s1).plus (b2 := [v.kind].flatMap encN ++ encT v.text)
      simpa using this
    · refine AWP_cond2 rfl (fun h => by simp [hk] at h) (fun _ => ?_)
      rw [if_neg hk] at hlen
      repeat first|((first|refine qa tOk rfl ?_|refine qb tOk rfl ?_|refine qc ?_|refine qd ?_|refine qe ?_);simp [c2])|refine AWP_block ?_|refine AWP_seq ?_
      refine AStep_FC rfl rfl (fc_rnumber [v.num] (by simp) (by simp [hi.2]) _ q _ G2.length (get_app k2 _) (by simp) (by have := (List.getElem?_eq_some_iff.1 k2).1; omega) (by simp; omega)) rfl ?_
      rintro _ G3 ⟨rfl, k3, e3⟩
      simp
      repeat first|((first|refine qa tOk rfl ?_|refine qb tOk rfl ?_|refine qc ?_|refine qd ?_|refine qe ?_);simp)|refine AWP_block ?_|refine AWP_seq ?_
      refine ⟨rfl, _, k3, f2.trans ((Fr.app G2 _ q).trans e3), ?_⟩
      rw [encVal, if_neg hk]
      have := (s1).plus (b2 := [v.kind].flatMap encN ++ [v.num].flatMap encN)
      simpa using this
set_option maxHeartbeats 2000000 in
theorem fc_rintegers (l : List Int) (hl : l.length ≤ 1000000) (hi : ∀ n ∈ l, i64 n) (H : List AObj) (q : Nat) (d : Dc) (hd : H[q]? = some (dX d)) (hb : d.s.length + (encL encN l).length ≤ 1000000000) :
    FC Tryz.prog 136 [.vptr q 0, .list (l.map encI)] H (RP H q d (encL encN l) (errL noE l)) := by
  refine FC_body tOk Tryz.func136 rfl Tryz.results136 rfl (by simp [Tryz.ntmps136]) ?_
  rw [Tryz.ntmps136]
  simp only [argSlots]
  have hql := (List.getElem?_eq_some_iff.1 hd).1
  have hle := encL_l encN l
  repeat first|((first|refine qa tOk rfl ?_|refine qb tOk rfl ?_|refine qc ?_|refine qd ?_|refine qe ?_);simp)|refine AWP_block ?_|refine AWP_seq ?_
  refine AStep_FC rfl rfl (fc_rlength l.length (by omega) H q d hd (by omega)) rfl ?_
  rintro _ G0 ⟨rfl, d0, k0, f0, s0⟩
  simp
  have hs0 := s0.2.1
  repeat first|((first|refine qa tOk rfl ?_|refine qb tOk rfl ?_|refine qc ?_|refine qd ?_|refine qe ?_);simp)|refine AWP_block ?_|refine AWP_seq ?_
  refine AWP_loop (ALoop_keep (sl' := [(0, .vptr q 0), (1, .list (l.map encI)), (4, .i 0)]) ?_ (by simp))
  refine ALoop_wf (P := Tryz.prog) (F := fun (u : Nat × Dc × List AObj) => ⟨[(0, .vptr q 0), (1, .list (l.map encI)), (4, .i u.1)], u.2.2⟩)
    (fun u => u.2.2[q]? = some (dX u.2.1) ∧ Fr G0 u.2.2 q none none ∧ u.1 ≤ (l).length ∧ RS d0 u.2.1 (((l).take u.1).flatMap encN) (firstE noE ((l).take u.1))) (fun u => (l).length - u.1) ?_ (0, d0, G0) ⟨k0, Fr.refl .., Nat.zero_le _, RS.zero ..⟩
  rintro ⟨j1, D1, L1⟩ ⟨a11, a21, a31, a41⟩ ih1
  simp only at a11 a21 a31 a41 ih1 ⊢
  have b11 : L1[q]? = some (.vars [.str D1.s, .i D1.e]) := a11
  repeat first|((first|refine qa tOk rfl ?_|refine qb tOk rfl ?_|refine qc ?_|refine qd ?_|refine qe ?_);simp [b11])|refine AWP_block ?_|refine AWP_seq ?_
  by_cases hje1 : j1 < (l).length ∧ D1.e = 0
  rotate_left
  · refine AWP_cond2 rfl (fun h => by exfalso; apply hje1; simp at h; omega) (fun _ => ?_)
    have z1 := RS.fin a41 (by omega)
    repeat first|((first|refine qa tOk rfl ?_|refine qb tOk rfl ?_|refine qc ?_|refine qd ?_|refine qe ?_);simp)|refine AWP_block ?_|refine AWP_seq ?_
    exact ⟨rfl, D1, a11, f0.trans a21, RS.list s0 z1⟩
  obtain ⟨hj1, he1⟩ := hje1
  refine AWP_cond2 rfl (fun _ => ?_) (fun h => by simp [hj1, he1] at h)
  have hw1 : IntKind.i64.wrap ((j1 : Int) + 1) = j1 + 1 := wrap_i64 _ (by omega) (by omega)
  have rm1 := RS.room (m := 1000000000) a41 hj1 (by omega)
  repeat first|((first|refine qa tOk rfl ?_|refine qb tOk rfl ?_|refine qc ?_|refine qd ?_|refine qe ?_);simp [hj1])|refine AWP_block ?_|refine AWP_seq ?_
  refine AStep_FC rfl rfl (fc_rnumber [l[j1]] (by simp) (by simp [hi _ (List.getElem_mem hj1)]) _ q D1 L1.length (get_app a11 _) (by simp) (by have := (List.getElem?_eq_some_iff.1 a11).1; omega) (by simp; omega)) rfl ?_
  rintro _ G2 ⟨rfl, k2, e2⟩
  have f2 : Fr L1 G2 q none none := (Fr.app L1 _ q).trans e2
  simp
  repeat first|((first|refine qa tOk rfl ?_|refine qb tOk rfl ?_|refine qc ?_|refine qd ?_|refine qe ?_);simp [hw1])|refine AWP_block ?_|refine AWP_seq ?_
  refine ALoop_keep (ih1 (j1 + 1, _, G2) ⟨k2, a21.trans f2, hj1, RS.next hj1 a41 (by simpa [noE] using RS.puts D1 (encN l[j1]))⟩ (by simp only; omega)) (by simp)
set_option maxHeartbeats 4000000 in
theorem fc_revents (l : List Ev) (hl : l.length ≤ 1000000) (hi : ∀ x ∈ l, jEv x) (H : List AObj) (q : Nat) (d : Dc) (hd : H[q]? = some (dX d)) (hb : d.s.length + (encL encEv l).length ≤ 1000000000) :
    FC Tryz.prog 184 [.vptr q 0, .list (l.map encE)] H (RP H q d (encL encEv l) (errL errEv l)) := by
  refine FC_body tOk Tryz.func184 rfl Tryz.results184 rfl (by simp [Tryz.ntmps184]) ?_
  rw [Tryz.ntmps184]
  simp only [argSlots]
  have hql := (List.getElem?_eq_some_iff.1 hd).1
  have hle := encL_l encEv l
  repeat first|((first|refine qa tOk rfl ?_|refine qb tOk rfl ?_|refine qc ?_|refine qd ?_|refine qe ?_);simp)|refine AWP_block ?_|refine AWP_seq ?_
  refine AStep_FC rfl rfl (fc_rlength l.length (by omega) H q d hd (by omega)) rfl ?_
  rintro _ G0 ⟨rfl, d0, k0, f0, s0⟩
  simp
  have hs0 := s0.2.1
  repeat first|((first|refine qa tOk rfl ?_|refine qb tOk rfl ?_|refine qc ?_|refine qd ?_|refine qe ?_);simp)|refine AWP_block ?_|refine AWP_seq ?_
  refine AWP_loop (ALoop_keep (sl' := [(0, .vptr q 0), (1, .list (l.map encE)), (4, .i 0)]) ?_ (by simp))
  refine ALoop_wf (P := Tryz.prog) (F := fun (u : Nat × Dc × List AObj) => ⟨[(0, .vptr q 0), (1, .list (l.map encE)), (4, .i u.1)], u.2.2⟩)
    (fun u => u.2.2[q]? = some (dX u.2.1) ∧ Fr G0 u.2.2 q none none ∧ u.1 ≤ (l).length ∧ RS d0 u.2.1 (((l).take u.1).flatMap encEv) (firstE errEv ((l).take u.1))) (fun u => (l).length - u.1) ?_ (0, d0, G0) ⟨k0, Fr.refl .., Nat.zero_le _, RS.zero ..⟩
  rintro ⟨j1, D1, L1⟩ ⟨a11, a21, a31, a41⟩ ih1
  simp only at a11 a21 a31 a41 ih1 ⊢
  have b11 : L1[q]? = some (.vars [.str D1.s, .i D1.e]) := a11
  repeat first|((first|refine qa tOk rfl ?_|refine qb tOk rfl ?_|refine qc ?_|refine qd ?_|refine qe ?_);simp [b11])|refine AWP_block ?_|refine AWP_seq ?_
  by_cases hje1 : j1 < (l).length ∧ D1.e = 0
  rotate_left
  · refine AWP_cond2 rfl (fun h => by exfalso; apply hje1; simp at h; omega) (fun _ => ?_)
    have z1 := RS.fin a41 (by omega)
    repeat first|((first|refine qa tOk rfl ?_|refine qb tOk rfl ?_|refine qc ?_|refine qd ?_|refine qe ?_);simp)|refine AWP_block ?_|refine AWP_seq ?_
    exact ⟨rfl, D1, a11, f0.trans a21, RS.list s0 z1⟩
  obtain ⟨hj1, he1⟩ := hje1
  refine AWP_cond2 rfl (fun _ => ?_) (fun h => by simp [hj1, he1] at h)
  have hw1 : IntKind.i64.wrap ((j1 : Int) + 1) = j1 + 1 := wrap_i64 _ (by omega) (by omega)
  have rm1 := RS.room (m := 1000000000) a41 hj1 (by omega)
  have hj := hi l[j1] (List.getElem_mem hj1)
  repeat first|((first|refine qa tOk rfl ?_|refine qb tOk rfl ?_|refine qc ?_|refine qd ?_|refine qe ?_);simp [hj1])|refine AWP_block ?_|refine AWP_seq ?_
  obtain ⟨x, hx⟩ : ∃ x, l[j1] = x := ⟨_, rfl⟩
  have rl := fun (d2 : Dc) (b : RS D1 d2 (encEv l[j1]) (errEv l[j1])) => RS.next hj1 a41 b
  rw [hx] at hj rm1 rl ⊢
  obtain ⟨⟨i1, i2, i3, i4⟩, hvl, hv⟩ := hj
  have hxl : (encEv x).length = ([x.source, x.seq, x.type, x.time].flatMap encN).length + (encL encVal x.values).length := by simp [encEv]; omega
  have hvle := encL_l encVal x.values
  have hEl := (List.getElem?_eq_some_iff.1 a11).1
  have hEq : L1.length ≠ q := by omega
  refine AStep_FC rfl rfl (fc_rnumber [x.source, x.seq, x.type, x.time] (by simp) (by simp [i1, i2, i3, i4]) _ q D1 (L1.length + 1) (get_app a11 _) (by simp) (by omega) (by omega)) rfl ?_
  rintro _ G2 ⟨rfl, k2, e2⟩
  have f2 : Fr L1 G2 q none none := (Fr.app L1 _ q).trans e2
  have c2 := e2.kd (j := L1.length) (x := .vars [.i x.source, .i x.seq, .i x.type, .i x.time, .list (x.values.map encV)]) (by simp) hEq
  simp
  repeat first|((first|refine qa tOk rfl ?_|refine qb tOk rfl ?_|refine qc ?_|refine qd ?_|refine qe ?_);simp [c2])|refine AWP_block ?_|refine AWP_seq ?_
  refine AStep_FC rfl rfl (fc_rlength x.values.length (by omega) G2 q _ k2 (by simp at rm1 hxl ⊢; omega)) rfl ?_
  rintro _ G3 ⟨rfl, d3, k3, f3, s3⟩
  have c3 := f3.kd c2 hEq
  simp
  have hs3 := s3.2.1
  rw [List.length_append] at hs3
  repeat first|((first|refine qa tOk rfl ?_|refine qb tOk rfl ?_|refine qc ?_|refine qd ?_|refine qe ?_);simp [c3])|refine AWP_block ?_|refine AWP_seq ?_
  refine AWP_loop (ALoop_keep (sl' := [(0, .vptr q 0), (1, .list (l.map encE)), (4, .i j1), (5, .vptr L1.length 0), (6, .i 0)]) ?_ (by simp))
  refine ALoop_wf (P := Tryz.prog) (F := fun (u : Nat × Dc × List AObj) => ⟨[(0, .vptr q 0), (1, .list (l.map encE)), (4, .i j1), (5, .vptr L1.length 0), (6, .i u.1)], u.2.2⟩)
    (fun u => u.2.2[q]? = some (dX u.2.1) ∧ Fr G3 u.2.2 q none none ∧ u.1 ≤ (x.values).length ∧ RS d3 u.2.1 (((x.values).take u.1).flatMap encVal) (firstE checkR ((x.values).take u.1))) (fun u => (x.values).length - u.1) ?_ (0, d3, G3) ⟨k3, Fr.refl .., Nat.zero_le _, RS.zero ..⟩
  rintro ⟨j4, D4, L4⟩ ⟨a14, a24, a34, a44⟩ ih4
  simp only at a14 a24 a34 a44 ih4 ⊢
  have b14 : L4[q]? = some (.vars [.str D4.s, .i D4.e]) := a14
  have c4 := a24.kd c3 hEq
  repeat first|((first|refine qa tOk rfl ?_|refine qb tOk rfl ?_|refine qc ?_|refine qd ?_|refine qe ?_);simp [b14, c4])|refine AWP_block ?_|refine AWP_seq ?_
  by_cases hje4 : j4 < (x.values).length ∧ D4.e = 0
  rotate_left
  · refine AWP_cond2 rfl (fun h => by exfalso; apply hje4; simp at h; omega) (fun _ => ?_)
    have z4 := RS.fin a44 (by omega)
    repeat first|((first|refine qa tOk rfl ?_|refine qb tOk rfl ?_|refine qc ?_|refine qd ?_|refine qe ?_);simp [hw1])|refine AWP_block ?_|refine AWP_seq ?_
    have rr := RS.plus0 (RS.list s3 z4)
    have he : encEv x = [x.source, x.seq, x.type, x.time].flatMap encN ++ encL encVal x.values := by simp [encEv]
    rw [← he] at rr
    refine ALoop_keep (ih1 (j1 + 1, D4, L4) ⟨a14, a21.trans (f2.trans (f3.trans a24)), hj1, rl _ rr⟩ (by simp only; omega)) (by simp)
  obtain ⟨hj4, he4⟩ := hje4
  refine AWP_cond2 rfl (fun _ => ?_) (fun h => by simp [hj4, he4] at h)
  have hw4 : IntKind.i64.wrap ((j4 : Int) + 1) = j4 + 1 := wrap_i64 _ (by omega) (by omega)
  have rm4 := RS.room (m := 1000000000) a44 hj4 (by omega)
  repeat first|((first|refine qa tOk rfl ?_|refine qb tOk rfl ?_|refine qc ?_|refine qd ?_|refine qe ?_);simp [hj4, c4])|refine AWP_block ?_|refine AWP_seq ?_
  refine AStep_FC rfl rfl (fc_rvalue x.values[j4] (hv _ (List.getElem_mem hj4)) L4 q D4 a14 (by omega)) rfl ?_
  rintro _ G5 ⟨rfl, d5, k5, f5, s5⟩
  simp
  repeat first|((first|refine qa tOk rfl ?_|refine qb tOk rfl ?_|refine qc ?_|refine qd ?_|refine qe ?_);simp [hw4])|refine AWP_block ?_|refine AWP_seq ?_
  refine ALoop_keep (ih4 (j4 + 1, d5, G5) ⟨k5, a24.trans f5, hj4, RS.next hj4 a44 (s5)⟩ (by simp only; omega)) (by simp)
set_option maxHeartbeats 4000000 in
theorem fc_rconfig (x : Cfg) (hi : jCfg x) (H : List AObj) (q : Nat) (d : Dc) (hd : H[q]? = some (dX d)) (hb : d.s.length + (encCfg x).length ≤ 1000000000) :
    FC Tryz.prog 185 [.vptr q 0, avCfg x] H (RP H q d (encCfg x) (errCfg x)) := by
  refine FC_body tOk Tryz.func185 rfl Tryz.results185 rfl (by simp [Tryz.ntmps185]) ?_
  rw [Tryz.ntmps185]
  simp only [argSlots]
  have hql := (List.getElem?_eq_some_iff.1 hd).1
  have hle : (encCfg x).length = (encN x.state).length + ((encL encBnd x.binds).length + (encL encStt x.starts).length) := by simp [encCfg]
  have hl1 := encL_l encBnd x.binds
  have hl2 := encL_l encStt x.starts
  obtain ⟨⟨i1, i2, i3⟩, n1, n2⟩ := hi
  simp only [avCfg]
  repeat first|((first|refine qa tOk rfl ?_|refine qb tOk rfl ?_|refine qc ?_|refine qd ?_|refine qe ?_);simp)|refine AWP_block ?_|refine AWP_seq ?_
  have hcq : H.length ≠ q := by omega
  refine AStep_FC rfl rfl (fc_rnumber [x.state] (by simp) (by simp [i1]) _ q d (H.length + 1) (get_app hd _) (by simp) (by omega) (by simp; omega)) rfl ?_
  rintro _ G1 ⟨rfl, k1, e1⟩
  have f1 : Fr H G1 q none none := (Fr.app H _ q).trans e1
  have c1 := e1.kd (j := H.length) (x := .vars [.i x.state, .list (x.binds.map avBnd), .list (x.starts.map avStt)]) (by simp) hcq
  simp
  repeat first|((first|refine qa tOk rfl ?_|refine qb tOk rfl ?_|refine qc ?_|refine qd ?_|refine qe ?_);simp [c1])|refine AWP_block ?_|refine AWP_seq ?_
  refine AStep_FC rfl rfl (fc_rlength x.binds.length (by omega) G1 q _ k1 (by simp; omega)) rfl ?_
  rintro _ G2 ⟨rfl, d2, k2, f2, s2⟩
  have c2 := f2.kd c1 hcq
  simp
  have hs2 := s2.2.1
  simp at hs2
  repeat first|((first|refine qa tOk rfl ?_|refine qb tOk rfl ?_|refine qc ?_|refine qd ?_|refine qe ?_);simp [c2])|refine AWP_block ?_|refine AWP_seq ?_
  refine AWP_loop (ALoop_keep (sl' := [(0, .vptr q 0), (3, .vptr H.length 0), (4, .i 0)]) ?_ (by simp))
  refine ALoop_wf (P := Tryz.prog) (F := fun (u : Nat × Dc × List AObj) => ⟨[(0, .vptr q 0), (3, .vptr H.length 0), (4, .i u.1)], u.2.2⟩)
    (fun u => u.2.2[q]? = some (dX u.2.1) ∧ Fr G2 u.2.2 q none none ∧ u.1 ≤ (x.binds).length ∧ RS d2 u.2.1 (((x.binds).take u.1).flatMap encBnd) (firstE noE ((x.binds).take u.1))) (fun u => (x.binds).length - u.1) ?_ (0, d2, G2) ⟨k2, Fr.refl .., Nat.zero_le _, RS.zero ..⟩
  rintro ⟨j3, D3, L3⟩ ⟨a13, a23, a33, a43⟩ ih3
  simp only at a13 a23 a33 a43 ih3 ⊢
  have b13 : L3[q]? = some (.vars [.str D3.s, .i D3.e]) := a13
  have c3 := a23.kd c2 hcq
  repeat first|((first|refine qa tOk rfl ?_|refine qb tOk rfl ?_|refine qc ?_|refine qd ?_|refine qe ?_);simp [b13, c3])|refine AWP_block ?_|refine AWP_seq ?_
  by_cases hje3 : j3 < (x.binds).length ∧ D3.e = 0
  rotate_left
  · refine AWP_cond2 rfl (fun h => by exfalso; apply hje3; simp at h; omega) (fun _ => ?_)
    have z3 := RS.fin a43 (by omega)
    have u3 := RS.list s2 z3
    have hu3 := u3.2.1
    simp at hu3
    repeat first|((first|refine qa tOk rfl ?_|refine qb tOk rfl ?_|refine qc ?_|refine qd ?_|refine qe ?_);simp [c3])|refine AWP_block ?_|refine AWP_seq ?_
    refine AStep_FC rfl rfl (fc_rlength x.starts.length (by omega) L3 q _ a13 (by omega)) rfl ?_
    rintro _ G4 ⟨rfl, d4, k4, f4, s4⟩
    have c4 := f4.kd c3 hcq
    simp
    have hs4 := s4.2.1
    repeat first|((first|refine qa tOk rfl ?_|refine qb tOk rfl ?_|refine qc ?_|refine qd ?_|refine qe ?_);simp [c4])|refine AWP_block ?_|refine AWP_seq ?_
    refine AWP_loop (ALoop_keep (sl' := [(0, .vptr q 0), (3, .vptr H.length 0), (6, .i 0)]) ?_ (by simp))
    refine ALoop_wf (P := Tryz.prog) (F := fun (u : Nat × Dc × List AObj) => ⟨[(0, .vptr q 0), (3, .vptr H.length 0), (6, .i u.1)], u.2.2⟩)
      (fun u => u.2.2[q]? = some (dX u.2.1) ∧ Fr G4 u.2.2 q none none ∧ u.1 ≤ (x.starts).length ∧ RS d4 u.2.1 (((x.starts).take u.1).flatMap encStt) (firstE noE ((x.starts).take u.1))) (fun u => (x.starts).length - u.1) ?_ (0, d4, G4) ⟨k4, Fr.refl .., Nat.zero_le _, RS.zero ..⟩
    rintro ⟨j5, D5, L5⟩ ⟨a15, a25, a35, a45⟩ ih5
    simp only at a15 a25 a35 a45 ih5 ⊢
    have b15 : L5[q]? = some (.vars [.str D5.s, .i D5.e]) := a15
    have c5 := a25.kd c4 hcq
    repeat first|((first|refine qa tOk rfl ?_|refine qb tOk rfl ?_|refine qc ?_|refine qd ?_|refine qe ?_);simp [b15, c5])|refine AWP_block ?_|refine AWP_seq ?_
    by_cases hje5 : j5 < (x.starts).length ∧ D5.e = 0
    rotate_left
    · refine AWP_cond2 rfl (fun h => by exfalso; apply hje5; simp at h; omega) (fun _ => ?_)
      have z5 := RS.fin a45 (by omega)
      have u5 := RS.list s4 z5
      repeat first|((first|refine qa tOk rfl ?_|refine qb tOk rfl ?_|refine qc ?_|refine qd ?_|refine qe ?_);simp)|refine AWP_block ?_|refine AWP_seq ?_
      have h5 := RS.plus0 (u3.two u5)
      have he : [x.state].flatMap encN ++ (encL encBnd x.binds ++ encL encStt x.starts) = encCfg x := by simp [encCfg]
      rw [he] at h5
      exact ⟨rfl, D5, a15, (f1.trans (f2.trans (a23.trans (f4.trans a25)))), h5⟩
    obtain ⟨hj5, he5⟩ := hje5
    refine AWP_cond2 rfl (fun _ => ?_) (fun h => by simp [hj5, he5] at h)
    have hw5 : IntKind.i64.wrap ((j5 : Int) + 1) = j5 + 1 := wrap_i64 _ (by omega) (by omega)
    have rm5 := RS.room (m := 1000000000) a45 hj5 (by omega)
    have hb5 := i3 x.starts[j5] (List.getElem_mem hj5)
    repeat first|((first|refine qa tOk rfl ?_|refine qb tOk rfl ?_|refine qc ?_|refine qd ?_|refine qe ?_);simp)|refine AWP_block ?_|refine AWP_seq ?_
    have r2 : List.range 2 = [0, 1] := rfl
    refine AWP_drawT tOk mixed [14] (.val 0 (.val 1 (.val 2 (.val 3 (.val 4 (.val 5 (.val 6 (.val 7 (.val 8 (.val 9 (.val 10 (.val 11 (.val 12 (.one 13 (.one 14 (.done)))))))))))))))) rfl (by kernel_rfl) ?_
    simp [c5, hj5, r2]
    have hyl : (encStt x.starts[j5]).length = ([x.starts[j5].scope, x.starts[j5].time].flatMap encN).length := by simp [encStt]
    refine AStep_FC rfl rfl (fc_rnumber [x.starts[j5].scope, x.starts[j5].time] (by simp) (by simp [hb5.1, hb5.2]) _ q D5 L5.length (get_app a15 _) (by simp) (by have := (List.getElem?_eq_some_iff.1 a15).1; omega) (by omega)) rfl ?_
    rintro _ G6 ⟨rfl, k6, e6⟩
    have f6 : Fr L5 G6 q none none := (Fr.app L5 _ q).trans e6
    simp
    repeat first|((first|refine qa tOk rfl ?_|refine qb tOk rfl ?_|refine qc ?_|refine qd ?_|refine qe ?_);simp [hw5])|refine AWP_block ?_|refine AWP_seq ?_
    refine ALoop_keep (ih5 (j5 + 1, _, G6) ⟨k6, a25.trans f6, hj5, RS.next hj5 a45 (by have := RS.puts D5 ([x.starts[j5].scope, x.starts[j5].time].flatMap encN); simpa [encStt, noE] using this)⟩ (by simp only; omega)) (by simp)
  obtain ⟨hj3, he3⟩ := hje3
  refine AWP_cond2 rfl (fun _ => ?_) (fun h => by simp [hj3, he3] at h)
  have hw3 : IntKind.i64.wrap ((j3 : Int) + 1) = j3 + 1 := wrap_i64 _ (by omega) (by omega)
  have rm3 := RS.room (m := 1000000000) a43 hj3 (by omega)
  have hb3 := i2 x.binds[j3] (List.getElem_mem hj3)
  repeat first|((first|refine qa tOk rfl ?_|refine qb tOk rfl ?_|refine qc ?_|refine qd ?_|refine qe ?_);simp [hj3, c3])|refine AWP_block ?_|refine AWP_seq ?_
  have hyl : (encBnd x.binds[j3]).length = ([x.binds[j3].var, x.binds[j3].ref.time, x.binds[j3].ref.source, x.binds[j3].ref.seq].flatMap encN).length := by simp [encBnd]
  have kB := get_app a13 [AObj.vars [.i x.binds[j3].var, .i x.binds[j3].ref.time, .i x.binds[j3].ref.source, .i x.binds[j3].ref.seq]]
  have fB := Fr.app L3 [AObj.vars [.i x.binds[j3].var, .i x.binds[j3].ref.time, .i x.binds[j3].ref.source, .i x.binds[j3].ref.seq]] q
  refine AStep_FC rfl rfl (fc_rnumber [x.binds[j3].var, x.binds[j3].ref.time, x.binds[j3].ref.source, x.binds[j3].ref.seq] (by simp) (by simp [hb3.1, hb3.2.1, hb3.2.2.1, hb3.2.2.2]) _ q D3 (L3.length + 1) (get_app a13 _) (by simp) (by have := (List.getElem?_eq_some_iff.1 a13).1; omega) (by omega)) rfl ?_
  rintro _ G6 ⟨rfl, k6, e6⟩
  have f6 : Fr L3 G6 q none none := (Fr.app L3 _ q).trans e6
  simp
  repeat first|((first|refine qa tOk rfl ?_|refine qb tOk rfl ?_|refine qc ?_|refine qd ?_|refine qe ?_);simp [hw3])|refine AWP_block ?_|refine AWP_seq ?_
  refine ALoop_keep (ih3 (j3 + 1, _, G6) ⟨k6, a23.trans f6, hj3, RS.next hj3 a43 (by have := RS.puts D3 ([x.binds[j3].var, x.binds[j3].ref.time, x.binds[j3].ref.source, x.binds[j3].ref.seq].flatMap encN); simpa [encBnd, noE] using this)⟩ (by simp only; omega)) (by simp)
set_option maxHeartbeats 4000000 in
theorem fc_rengine (x : Eng) (hi : jEng x) (H : List AObj) (q : Nat) (d : Dc) (hd : H[q]? = some (dX d)) (hb : d.s.length + (encEng x).length ≤ 1000000000) :
    FC Tryz.prog 138 [.vptr q 0, avEng x] H (RP H q d (encEng x) (errEng x)) := by
  refine FC_body tOk Tryz.func138 rfl Tryz.results138 rfl (by simp [Tryz.ntmps138]) ?_
  rw [Tryz.ntmps138]
  simp only [argSlots]
  have hql := (List.getElem?_eq_some_iff.1 hd).1
  have hle : (encEng x).length = (encN x.mark).length + ((encL encEv x.waiting).length + ((encL encCfg x.runs).length + (encL encEv x.held).length)) := by simp [encEng]
  have hl1 := encL_l encCfg x.runs
  obtain ⟨i1, ⟨n1, i2⟩, ⟨n2, i3⟩, n3, i4⟩ := hi
  simp only [avEng]
  repeat first|((first|refine qa tOk rfl ?_|refine qb tOk rfl ?_|refine qc ?_|refine qd ?_|refine qe ?_);simp)|refine AWP_block ?_|refine AWP_seq ?_
  have hcq : H.length ≠ q := by omega
  refine AStep_FC rfl rfl (fc_rnumber [x.mark] (by simp) (by simp [i1]) _ q d (H.length + 1) (get_app hd _) (by simp) (by omega) (by simp; omega)) rfl ?_
  rintro _ G1 ⟨rfl, k1, e1⟩
  have f1 : Fr H G1 q none none := (Fr.app H _ q).trans e1
  have c1 := e1.kd (j := H.length) (x := .vars [.i x.mark, .list (x.waiting.map encE), .list (x.runs.map avCfg), .list (x.held.map encE)]) (by simp) hcq
  simp
  repeat first|((first|refine qa tOk rfl ?_|refine qb tOk rfl ?_|refine qc ?_|refine qd ?_|refine qe ?_);simp [c1])|refine AWP_block ?_|refine AWP_seq ?_
  refine AStep_FC rfl rfl (fc_revents x.waiting n1 i2 G1 q _ k1 (by simp; omega)) rfl ?_
  rintro _ G2 ⟨rfl, d2, k2, f2, s2⟩
  have c2 := f2.kd c1 hcq
  simp
  have hs2 := s2.2.1
  simp at hs2
  repeat first|((first|refine qa tOk rfl ?_|refine qb tOk rfl ?_|refine qc ?_|refine qd ?_|refine qe ?_);simp [c2])|refine AWP_block ?_|refine AWP_seq ?_
  refine AStep_FC rfl rfl (fc_rlength x.runs.length (by omega) G2 q _ k2 (by omega)) rfl ?_
  rintro _ G3 ⟨rfl, d3, k3, f3, s3⟩
  have c3 := f3.kd c2 hcq
  simp
  have hs3 := s3.2.1
  repeat first|((first|refine qa tOk rfl ?_|refine qb tOk rfl ?_|refine qc ?_|refine qd ?_|refine qe ?_);simp [c3])|refine AWP_block ?_|refine AWP_seq ?_
  refine AWP_loop (ALoop_keep (sl' := [(0, .vptr q 0), (3, .vptr H.length 0), (4, .i 0)]) ?_ (by simp))
  refine ALoop_wf (P := Tryz.prog) (F := fun (u : Nat × Dc × List AObj) => ⟨[(0, .vptr q 0), (3, .vptr H.length 0), (4, .i u.1)], u.2.2⟩)
    (fun u => u.2.2[q]? = some (dX u.2.1) ∧ Fr G3 u.2.2 q none none ∧ u.1 ≤ (x.runs).length ∧ RS d3 u.2.1 (((x.runs).take u.1).flatMap encCfg) (firstE errCfg ((x.runs).take u.1))) (fun u => (x.runs).length - u.1) ?_ (0, d3, G3) ⟨k3, Fr.refl .., Nat.zero_le _, RS.zero ..⟩
  rintro ⟨j4, D4, L4⟩ ⟨a14, a24, a34, a44⟩ ih4
  simp only at a14 a24 a34 a44 ih4 ⊢
  have b14 : L4[q]? = some (.vars [.str D4.s, .i D4.e]) := a14
  have c4 := a24.kd c3 hcq
  repeat first|((first|refine qa tOk rfl ?_|refine qb tOk rfl ?_|refine qc ?_|refine qd ?_|refine qe ?_);simp [b14, c4])|refine AWP_block ?_|refine AWP_seq ?_
  by_cases hje4 : j4 < (x.runs).length ∧ D4.e = 0
  rotate_left
  · refine AWP_cond2 rfl (fun h => by exfalso; apply hje4; simp at h; omega) (fun _ => ?_)
    have z4 := RS.fin a44 (by omega)
    have u4 := RS.list s3 z4
    have hu4 := u4.2.1
    repeat first|((first|refine qa tOk rfl ?_|refine qb tOk rfl ?_|refine qc ?_|refine qd ?_|refine qe ?_);simp [c4])|refine AWP_block ?_|refine AWP_seq ?_
    refine AStep_FC rfl rfl (fc_revents x.held n3 i4 L4 q _ a14 (by omega)) rfl ?_
    rintro _ G5 ⟨rfl, d5, k5, f5, s5⟩
    simp
    repeat first|((first|refine qa tOk rfl ?_|refine qb tOk rfl ?_|refine qc ?_|refine qd ?_|refine qe ?_);simp)|refine AWP_block ?_|refine AWP_seq ?_
    have h5 := RS.plus0 (s2.two (u4.two s5))
    have he : [x.mark].flatMap encN ++ (encL encEv x.waiting ++ (encL encCfg x.runs ++ encL encEv x.held)) = encEng x := by simp [encEng]
    rw [he] at h5
    exact ⟨rfl, d5, k5, (f1.trans (f2.trans (f3.trans (a24.trans f5)))), h5⟩
  obtain ⟨hj4, he4⟩ := hje4
  refine AWP_cond2 rfl (fun _ => ?_) (fun h => by simp [hj4, he4] at h)
  have hw4 : IntKind.i64.wrap ((j4 : Int) + 1) = j4 + 1 := wrap_i64 _ (by omega) (by omega)
  have rm4 := RS.room (m := 1000000000) a44 hj4 (by omega)
  repeat first|((first|refine qa tOk rfl ?_|refine qb tOk rfl ?_|refine qc ?_|refine qd ?_|refine qe ?_);simp [hj4, c4])|refine AWP_block ?_|refine AWP_seq ?_
  refine AStep_FC rfl rfl (fc_rconfig x.runs[j4] (i3 _ (List.getElem_mem hj4)) L4 q D4 a14 (by omega)) rfl ?_
  rintro _ G5 ⟨rfl, d5, k5, f5, s5⟩
  simp
  repeat first|((first|refine qa tOk rfl ?_|refine qb tOk rfl ?_|refine qc ?_|refine qd ?_|refine qe ?_);simp [hw4])|refine AWP_block ?_|refine AWP_seq ?_
  refine ALoop_keep (ih4 (j4 + 1, d5, G5) ⟨k5, a24.trans f5, hj4, RS.next hj4 a44 (s5)⟩ (by simp only; omega)) (by simp)
set_option maxHeartbeats 4000000 in
theorem fc_rtracker (x : Trk) (hi : iTrk x) (n1 : x.beyond.length ≤ 1000000) (n2 : x.points.length ≤ 1000000) (H : List AObj) (q : Nat) (d : Dc) (hd : H[q]? = some (dX d)) (hb : d.s.length + (encTrk x).length ≤ 1000000000) :
    FC Tryz.prog 135 [.vptr q 0, avTrk x] H (RP H q d (encTrk x) (errTrk x)) := by
  refine FC_body tOk Tryz.func135 rfl Tryz.results135 rfl (by simp [Tryz.ntmps135]) ?_
  rw [Tryz.ntmps135]
  simp only [argSlots]
  have hql := (List.getElem?_eq_some_iff.1 hd).1
  have hle : (encTrk x).length = (encN x.next).length + ((encL encN x.beyond).length + ((encL encPnt x.points).length + (encN x.mark).length)) := by simp [encTrk]
  have hl1 := encL_l encPnt x.points
  obtain ⟨i1, i2, i3, i4⟩ := hi
  simp only [avTrk]
  repeat first|((first|refine qa tOk rfl ?_|refine qb tOk rfl ?_|refine qc ?_|refine qd ?_|refine qe ?_);simp)|refine AWP_block ?_|refine AWP_seq ?_
  have hcq : H.length ≠ q := by omega
  refine AStep_FC rfl rfl (fc_rnumber [x.next] (by simp) (by simp [i1]) _ q d (H.length + 1) (get_app hd _) (by simp) (by omega) (by simp; omega)) rfl ?_
  rintro _ G1 ⟨rfl, k1, e1⟩
  have f1 : Fr H G1 q none none := (Fr.app H _ q).trans e1
  have c1 := e1.kd (j := H.length) (x := .vars [.i x.next, .list (x.beyond.map encI), .list (x.points.map avPnt), .i x.mark]) (by simp) hcq
  simp
  repeat first|((first|refine qa tOk rfl ?_|refine qb tOk rfl ?_|refine qc ?_|refine qd ?_|refine qe ?_);simp [c1])|refine AWP_block ?_|refine AWP_seq ?_
  refine AStep_FC rfl rfl (fc_rintegers x.beyond n1 i2 G1 q _ k1 (by simp; omega)) rfl ?_
  rintro _ G2 ⟨rfl, d2, k2, f2, s2⟩
  have c2 := f2.kd c1 hcq
  simp
  have hs2 := s2.2.1
  simp at hs2
  repeat first|((first|refine qa tOk rfl ?_|refine qb tOk rfl ?_|refine qc ?_|refine qd ?_|refine qe ?_);simp [c2])|refine AWP_block ?_|refine AWP_seq ?_
  refine AStep_FC rfl rfl (fc_rlength x.points.length (by omega) G2 q _ k2 (by omega)) rfl ?_
  rintro _ G3 ⟨rfl, d3, k3, f3, s3⟩
  have c3 := f3.kd c2 hcq
  simp
  have hs3 := s3.2.1
  repeat first|((first|refine qa tOk rfl ?_|refine qb tOk rfl ?_|refine qc ?_|refine qd ?_|refine qe ?_);simp [c3])|refine AWP_block ?_|refine AWP_seq ?_
  refine AWP_loop (ALoop_keep (sl' := [(0, .vptr q 0), (3, .vptr H.length 0), (4, .i 0)]) ?_ (by simp))
  refine ALoop_wf (P := Tryz.prog) (F := fun (u : Nat × Dc × List AObj) => ⟨[(0, .vptr q 0), (3, .vptr H.length 0), (4, .i u.1)], u.2.2⟩)
    (fun u => u.2.2[q]? = some (dX u.2.1) ∧ Fr G3 u.2.2 q none none ∧ u.1 ≤ (x.points).length ∧ RS d3 u.2.1 (((x.points).take u.1).flatMap encPnt) (firstE noE ((x.points).take u.1))) (fun u => (x.points).length - u.1) ?_ (0, d3, G3) ⟨k3, Fr.refl .., Nat.zero_le _, RS.zero ..⟩
  rintro ⟨j4, D4, L4⟩ ⟨a14, a24, a34, a44⟩ ih4
  simp only at a14 a24 a34 a44 ih4 ⊢
  have b14 : L4[q]? = some (.vars [.str D4.s, .i D4.e]) := a14
  have c4 := a24.kd c3 hcq
  repeat first|((first|refine qa tOk rfl ?_|refine qb tOk rfl ?_|refine qc ?_|refine qd ?_|refine qe ?_);simp [b14, c4])|refine AWP_block ?_|refine AWP_seq ?_
  by_cases hje4 : j4 < (x.points).length ∧ D4.e = 0
  rotate_left
  · refine AWP_cond2 rfl (fun h => by exfalso; apply hje4; simp at h; omega) (fun _ => ?_)
    have z4 := RS.fin a44 (by omega)
    have u4 := RS.list s3 z4
    have hu4 := u4.2.1
    repeat first|((first|refine qa tOk rfl ?_|refine qb tOk rfl ?_|refine qc ?_|refine qd ?_|refine qe ?_);simp [c4])|refine AWP_block ?_|refine AWP_seq ?_
    refine AStep_FC rfl rfl (fc_rnumber [x.mark] (by simp) (by simp [i4]) _ q D4 L4.length (get_app a14 _) (by simp) (by have := (List.getElem?_eq_some_iff.1 a14).1; omega) (by simp; omega)) rfl ?_
    rintro _ G5 ⟨rfl, k5, e5⟩
    have f5 : Fr L4 G5 q none none := (Fr.app L4 _ q).trans e5
    simp
    repeat first|((first|refine qa tOk rfl ?_|refine qb tOk rfl ?_|refine qc ?_|refine qd ?_|refine qe ?_);simp)|refine AWP_block ?_|refine AWP_seq ?_
    have h5 := RS.plus0 ((s2.two u4).plus (b2 := [x.mark].flatMap encN))
    have he : [x.next].flatMap encN ++ (encL encN x.beyond ++ encL encPnt x.points ++ [x.mark].flatMap encN) = encTrk x := by simp [encTrk]
    rw [he] at h5
    exact ⟨rfl, _, k5, (f1.trans (f2.trans (f3.trans (a24.trans f5)))), h5⟩
  obtain ⟨hj4, he4⟩ := hje4
  refine AWP_cond2 rfl (fun _ => ?_) (fun h => by simp [hj4, he4] at h)
  have hw4 : IntKind.i64.wrap ((j4 : Int) + 1) = j4 + 1 := wrap_i64 _ (by omega) (by omega)
  have rm4 := RS.room (m := 1000000000) a44 hj4 (by omega)
  have hb4 := i3 x.points[j4] (List.getElem_mem hj4)
  repeat first|((first|refine qa tOk rfl ?_|refine qb tOk rfl ?_|refine qc ?_|refine qd ?_|refine qe ?_);simp)|refine AWP_block ?_|refine AWP_seq ?_
  have r2 : List.range 2 = [0, 1] := rfl
  refine AWP_drawT tOk mixed [14] (.val 0 (.val 1 (.val 2 (.val 3 (.val 4 (.val 5 (.val 6 (.val 7 (.val 8 (.val 9 (.val 10 (.val 11 (.val 12 (.one 13 (.one 14 (.done)))))))))))))))) rfl (by kernel_rfl) ?_
  simp [c4, hj4, r2]
  have hyl : (encPnt x.points[j4]).length = ([x.points[j4].seq, x.points[j4].time].flatMap encN).length := by simp [encPnt]
  refine AStep_FC rfl rfl (fc_rnumber [x.points[j4].seq, x.points[j4].time] (by simp) (by simp [hb4.1, hb4.2]) _ q D4 L4.length (get_app a14 _) (by simp) (by have := (List.getElem?_eq_some_iff.1 a14).1; omega) (by omega)) rfl ?_
  rintro _ G5 ⟨rfl, k5, e5⟩
  have f5 : Fr L4 G5 q none none := (Fr.app L4 _ q).trans e5
  simp
  repeat first|((first|refine qa tOk rfl ?_|refine qb tOk rfl ?_|refine qc ?_|refine qd ?_|refine qe ?_);simp [hw4])|refine AWP_block ?_|refine AWP_seq ?_
  refine ALoop_keep (ih4 (j4 + 1, _, G5) ⟨k5, a24.trans f5, hj4, RS.next hj4 a44 (by have := RS.puts D4 ([x.points[j4].seq, x.points[j4].time].flatMap encN); simpa [encPnt, noE] using this)⟩ (by simp only; omega)) (by simp)
set_option maxHeartbeats 8000000 in
theorem fc_rsnapshot (x : Snp) (hi : jSnp x) (H : List AObj) (q : Nat) (d : Dc) (hd : H[q]? = some (dX d)) (hb : d.s.length + (encSnp x).length ≤ 1000000000) :
    FC Tryz.prog 90 [.vptr q 0, avSnp x] H (RP H q d (encSnp x) (errSnp x)) := by
  refine FC_body tOk Tryz.func90 rfl Tryz.results90 rfl (by simp [Tryz.ntmps90]) ?_
  rw [Tryz.ntmps90]
  simp only [argSlots]
  have hql := (List.getElem?_eq_some_iff.1 hd).1
  have hle : (encSnp x).length = (encN x.number).length + ((encL encRdr x.readers).length + (encL encOpr x.operators).length) := by simp [encSnp]
  have hl1 := encL_l encRdr x.readers
  have hl2 := encL_l encOpr x.operators
  obtain ⟨i1, ⟨n1, i2⟩, n2, i3⟩ := hi
  have r2 : List.range 2 = [0, 1] := rfl
  simp only [avSnp]
  repeat first|((first|refine qa tOk rfl ?_|refine qb tOk rfl ?_|refine qc ?_|refine qd ?_|refine qe ?_);simp)|refine AWP_block ?_|refine AWP_seq ?_
  have hcq : H.length ≠ q := by omega
  refine AStep_FC rfl rfl (fc_rnumber [x.number] (by simp) (by simp [i1]) _ q d (H.length + 1) (get_app hd _) (by simp) (by omega) (by simp; omega)) rfl ?_
  rintro _ G1 ⟨rfl, k1, e1⟩
  have f1 : Fr H G1 q none none := (Fr.app H _ q).trans e1
  have c1 := e1.kd (j := H.length) (x := .vars [.i x.number, .list (x.readers.map avRdr), .list (x.operators.map avOpr)]) (by simp) hcq
  simp
  repeat first|((first|refine qa tOk rfl ?_|refine qb tOk rfl ?_|refine qc ?_|refine qd ?_|refine qe ?_);simp [c1])|refine AWP_block ?_|refine AWP_seq ?_
  refine AStep_FC rfl rfl (fc_rlength x.readers.length (by omega) G1 q _ k1 (by simp; omega)) rfl ?_
  rintro _ G2 ⟨rfl, d2, k2, f2, s2⟩
  have c2 := f2.kd c1 hcq
  simp
  have hs2 := s2.2.1
  simp at hs2
  repeat first|((first|refine qa tOk rfl ?_|refine qb tOk rfl ?_|refine qc ?_|refine qd ?_|refine qe ?_);simp [c2])|refine AWP_block ?_|refine AWP_seq ?_
  refine AWP_loop (ALoop_keep (sl' := [(0, .vptr q 0), (3, .vptr H.length 0), (4, .i 0)]) ?_ (by simp))
  refine ALoop_wf (P := Tryz.prog) (F := fun (u : Nat × Dc × List AObj) => ⟨[(0, .vptr q 0), (3, .vptr H.length 0), (4, .i u.1)], u.2.2⟩)
    (fun u => u.2.2[q]? = some (dX u.2.1) ∧ Fr G2 u.2.2 q none none ∧ u.1 ≤ (x.readers).length ∧ RS d2 u.2.1 (((x.readers).take u.1).flatMap encRdr) (firstE errRdr ((x.readers).take u.1))) (fun u => (x.readers).length - u.1) ?_ (0, d2, G2) ⟨k2, Fr.refl .., Nat.zero_le _, RS.zero ..⟩
  rintro ⟨j3, D3, L3⟩ ⟨a13, a23, a33, a43⟩ ih3
  simp only at a13 a23 a33 a43 ih3 ⊢
  have b13 : L3[q]? = some (.vars [.str D3.s, .i D3.e]) := a13
  have c3 := a23.kd c2 hcq
  repeat first|((first|refine qa tOk rfl ?_|refine qb tOk rfl ?_|refine qc ?_|refine qd ?_|refine qe ?_);simp [b13, c3])|refine AWP_block ?_|refine AWP_seq ?_
  by_cases hje3 : j3 < (x.readers).length ∧ D3.e = 0
  rotate_left
  · refine AWP_cond2 rfl (fun h => by exfalso; apply hje3; simp at h; omega) (fun _ => ?_)
    have z3 := RS.fin a43 (by omega)
    have u3 := RS.list s2 z3
    have hu3 := u3.2.1
    simp at hu3
    repeat first|((first|refine qa tOk rfl ?_|refine qb tOk rfl ?_|refine qc ?_|refine qd ?_|refine qe ?_);simp [c3])|refine AWP_block ?_|refine AWP_seq ?_
    refine AStep_FC rfl rfl (fc_rlength x.operators.length (by omega) L3 q _ a13 (by omega)) rfl ?_
    rintro _ G4 ⟨rfl, d4, k4, f4, s4⟩
    have c4 := f4.kd c3 hcq
    simp
    have hs4 := s4.2.1
    repeat first|((first|refine qa tOk rfl ?_|refine qb tOk rfl ?_|refine qc ?_|refine qd ?_|refine qe ?_);simp [c4])|refine AWP_block ?_|refine AWP_seq ?_
    refine AWP_loop (ALoop_keep (sl' := [(0, .vptr q 0), (3, .vptr H.length 0), (5, .i 0)]) ?_ (by simp))
    refine ALoop_wf (P := Tryz.prog) (F := fun (u : Nat × Dc × List AObj) => ⟨[(0, .vptr q 0), (3, .vptr H.length 0), (5, .i u.1)], u.2.2⟩)
      (fun u => u.2.2[q]? = some (dX u.2.1) ∧ Fr G4 u.2.2 q none none ∧ u.1 ≤ (x.operators).length ∧ RS d4 u.2.1 (((x.operators).take u.1).flatMap encOpr) (firstE errOpr ((x.operators).take u.1))) (fun u => (x.operators).length - u.1) ?_ (0, d4, G4) ⟨k4, Fr.refl .., Nat.zero_le _, RS.zero ..⟩
    rintro ⟨j5, D5, L5⟩ ⟨a15, a25, a35, a45⟩ ih5
    simp only at a15 a25 a35 a45 ih5 ⊢
    have b15 : L5[q]? = some (.vars [.str D5.s, .i D5.e]) := a15
    have c5 := a25.kd c4 hcq
    repeat first|((first|refine qa tOk rfl ?_|refine qb tOk rfl ?_|refine qc ?_|refine qd ?_|refine qe ?_);simp [b15, c5])|refine AWP_block ?_|refine AWP_seq ?_
    by_cases hje5 : j5 < (x.operators).length ∧ D5.e = 0
    rotate_left
    · refine AWP_cond2 rfl (fun h => by exfalso; apply hje5; simp at h; omega) (fun _ => ?_)
      have z5 := RS.fin a45 (by omega)
      have u5 := RS.list s4 z5
      repeat first|((first|refine qa tOk rfl ?_|refine qb tOk rfl ?_|refine qc ?_|refine qd ?_|refine qe ?_);simp)|refine AWP_block ?_|refine AWP_seq ?_
      have h5 := RS.plus0 (u3.two u5)
      have he : [x.number].flatMap encN ++ (encL encRdr x.readers ++ encL encOpr x.operators) = encSnp x := by simp [encSnp]
      rw [he] at h5
      exact ⟨rfl, D5, a15, (f1.trans (f2.trans (a23.trans (f4.trans a25)))), h5⟩
    obtain ⟨hj5, he5⟩ := hje5
    refine AWP_cond2 rfl (fun _ => ?_) (fun h => by simp [hj5, he5] at h)
    have hw5 : IntKind.i64.wrap ((j5 : Int) + 1) = j5 + 1 := wrap_i64 _ (by omega) (by omega)
    have rm5 := RS.room (m := 1000000000) a45 hj5 (by omega)
    have hj := i3 x.operators[j5] (List.getElem_mem hj5)
    have rl := fun (d2 : Dc) (b : RS D5 d2 (encOpr x.operators[j5]) (errOpr x.operators[j5])) => RS.next hj5 a45 b
    repeat first|((first|refine qa tOk rfl ?_|refine qb tOk rfl ?_|refine qc ?_|refine qd ?_|refine qe ?_);simp [hj5, c5])|refine AWP_block ?_|refine AWP_seq ?_
    obtain ⟨y, hy⟩ : ∃ y, x.operators[j5] = y := ⟨_, rfl⟩
    rw [hy] at hj rm5 rl ⊢
    obtain ⟨⟨m1, o1⟩, m2, o2⟩ := hj
    have hyl : (encOpr y).length = (encL encN y.marks).length + (encL encKyd y.engines).length := by simp [encOpr]
    have hl3 := encL_l encKyd y.engines
    have hql5 := (List.getElem?_eq_some_iff.1 a15).1
    have hEq : L5.length ≠ q := by omega
    have e0 : (L5 ++ [AObj.vars [.list (y.marks.map encI), .list (y.engines.map avKyd)]])[L5.length]? = some (.vars [.list (y.marks.map encI), .list (y.engines.map avKyd)]) := by simp
    refine AStep_FC rfl rfl (fc_rintegers y.marks m1 o1 _ q D5 (get_app a15 _) (by omega)) rfl ?_
    rintro _ G6 ⟨rfl, d6, k6, f6, s6⟩
    have c6 := f6.kd (get_app c5 _) hcq
    have e6 := f6.kd e0 hEq
    have f6 := (Fr.app L5 [AObj.vars [.list (y.marks.map encI), .list (y.engines.map avKyd)]] q).trans f6
    have hs6 := s6.2.1
    simp
    repeat first|((first|refine qa tOk rfl ?_|refine qb tOk rfl ?_|refine qc ?_|refine qd ?_|refine qe ?_);simp [c6, e6])|refine AWP_block ?_|refine AWP_seq ?_
    refine AStep_FC rfl rfl (fc_rlength y.engines.length (by omega) G6 q _ k6 (by omega)) rfl ?_
    rintro _ G7 ⟨rfl, d7, k7, f7, s7⟩
    have c7 := f7.kd c6 hcq
    have e7 := f7.kd e6 hEq
    simp
    have hs7 := s7.2.1
    repeat first|((first|refine qa tOk rfl ?_|refine qb tOk rfl ?_|refine qc ?_|refine qd ?_|refine qe ?_);simp [c7, e7])|refine AWP_block ?_|refine AWP_seq ?_
    refine AWP_loop (ALoop_keep (sl' := [(0, .vptr q 0), (3, .vptr H.length 0), (5, .i j5), (6, .vptr L5.length 0), (7, .i 0)]) ?_ (by simp))
    refine ALoop_wf (P := Tryz.prog) (F := fun (u : Nat × Dc × List AObj) => ⟨[(0, .vptr q 0), (3, .vptr H.length 0), (5, .i j5), (6, .vptr L5.length 0), (7, .i u.1)], u.2.2⟩)
      (fun u => u.2.2[q]? = some (dX u.2.1) ∧ Fr G7 u.2.2 q none none ∧ u.1 ≤ (y.engines).length ∧ RS d7 u.2.1 (((y.engines).take u.1).flatMap encKyd) (firstE errKyd ((y.engines).take u.1))) (fun u => (y.engines).length - u.1) ?_ (0, d7, G7) ⟨k7, Fr.refl .., Nat.zero_le _, RS.zero ..⟩
    rintro ⟨j8, D8, L8⟩ ⟨a18, a28, a38, a48⟩ ih8
    simp only at a18 a28 a38 a48 ih8 ⊢
    have b18 : L8[q]? = some (.vars [.str D8.s, .i D8.e]) := a18
    have c8 := a28.kd c7 hcq
    have e8 := a28.kd e7 hEq
    repeat first|((first|refine qa tOk rfl ?_|refine qb tOk rfl ?_|refine qc ?_|refine qd ?_|refine qe ?_);simp [b18, c8, e8])|refine AWP_block ?_|refine AWP_seq ?_
    by_cases hje8 : j8 < (y.engines).length ∧ D8.e = 0
    rotate_left
    · refine AWP_cond2 rfl (fun h => by exfalso; apply hje8; simp at h; omega) (fun _ => ?_)
      have z8 := RS.fin a48 (by omega)
      have u8 := RS.list s7 z8
      repeat first|((first|refine qa tOk rfl ?_|refine qb tOk rfl ?_|refine qc ?_|refine qd ?_|refine qe ?_);simp [hw5])|refine AWP_block ?_|refine AWP_seq ?_
      have h8 := s6.two u8
      refine ALoop_keep (ih5 (j5 + 1, D8, L8) ⟨a18, a25.trans (f6.trans (f7.trans a28)), hj5, rl _ h8⟩ (by simp only; omega)) (by simp)
    obtain ⟨hj8, he8⟩ := hje8
    refine AWP_cond2 rfl (fun _ => ?_) (fun h => by simp [hj8, he8] at h)
    have hw8 : IntKind.i64.wrap ((j8 : Int) + 1) = j8 + 1 := wrap_i64 _ (by omega) (by omega)
    have rm8 := RS.room (m := 1000000000) a48 hj8 (by omega)
    have hk := o2 y.engines[j8] (List.getElem_mem hj8)
    repeat first|((first|refine qa tOk rfl ?_|refine qb tOk rfl ?_|refine qc ?_|refine qd ?_|refine qe ?_);simp [hj8, e8])|refine AWP_block ?_|refine AWP_seq ?_
    have hkl : (encKyd y.engines[j8]).length = (encN y.engines[j8].query).length + ((encVal y.engines[j8].key).length + (encEng y.engines[j8].eng).length) := by simp [encKyd]
    refine AStep_FC rfl rfl (fc_rnumber [y.engines[j8].query] (by simp) (by simp [hk.1]) _ q D8 L8.length (get_app a18 _) (by simp) (by have := (List.getElem?_eq_some_iff.1 a18).1; omega) (by simp; omega)) rfl ?_
    rintro _ G9 ⟨rfl, k9, e9⟩
    have f9 : Fr L8 G9 q none none := (Fr.app L8 _ q).trans e9
    have e9 := f9.kd e8 hEq
    simp
    repeat first|((first|refine qa tOk rfl ?_|refine qb tOk rfl ?_|refine qc ?_|refine qd ?_|refine qe ?_);simp [e9, hj8])|refine AWP_block ?_|refine AWP_seq ?_
    refine AStep_FC rfl rfl (fc_rvalue y.engines[j8].key hk.2.1 G9 q _ k9 (by simp; omega)) rfl ?_
    rintro _ G10 ⟨rfl, d10, k10, f10, s10⟩
    have e10 := f10.kd e9 hEq
    simp
    have hs10 := s10.2.1
    simp at hs10
    repeat first|((first|refine qa tOk rfl ?_|refine qb tOk rfl ?_|refine qc ?_|refine qd ?_|refine qe ?_);simp [e10, hj8])|refine AWP_block ?_|refine AWP_seq ?_
    refine AStep_FC rfl rfl (fc_rengine y.engines[j8].eng hk.2.2 G10 q _ k10 (by omega)) rfl ?_
    rintro _ G11 ⟨rfl, d11, k11, f11, s11⟩
    simp
    repeat first|((first|refine qa tOk rfl ?_|refine qb tOk rfl ?_|refine qc ?_|refine qd ?_|refine qe ?_);simp [hw8])|refine AWP_block ?_|refine AWP_seq ?_
    have h11 := RS.plus0 (s10.two s11)
    have he : [y.engines[j8].query].flatMap encN ++ (encVal y.engines[j8].key ++ encEng y.engines[j8].eng) = encKyd y.engines[j8] := by simp [encKyd]
    rw [he] at h11
    refine ALoop_keep (ih8 (j8 + 1, d11, G11) ⟨k11, a28.trans (f9.trans (f10.trans f11)), hj8, RS.next hj8 a48 (h11)⟩ (by simp only; omega)) (by simp)
  obtain ⟨hj3, he3⟩ := hje3
  refine AWP_cond2 rfl (fun _ => ?_) (fun h => by simp [hj3, he3] at h)
  have hw3 : IntKind.i64.wrap ((j3 : Int) + 1) = j3 + 1 := wrap_i64 _ (by omega) (by omega)
  have rm3 := RS.room (m := 1000000000) a43 hj3 (by omega)
  have hb3 := i2 x.readers[j3] (List.getElem_mem hj3)
  obtain ⟨⟨t1, t2, t3⟩, t4, t5⟩ := hb3
  repeat first|((first|refine qa tOk rfl ?_|refine qb tOk rfl ?_|refine qc ?_|refine qd ?_|refine qe ?_);simp)|refine AWP_block ?_|refine AWP_seq ?_
  refine AWP_drawT tOk mixed [14] (.val 0 (.val 1 (.val 2 (.val 3 (.val 4 (.val 5 (.val 6 (.val 7 (.val 8 (.val 9 (.val 10 (.val 11 (.val 12 (.one 13 (.one 14 (.done)))))))))))))))) rfl (by kernel_rfl) ?_
  simp [c3, hj3, r2]
  have hyl : (encRdr x.readers[j3]).length = ([x.readers[j3].source, x.readers[j3].offset].flatMap encN).length + (encTrk x.readers[j3].trk).length := by simp [encRdr]; omega
  refine AStep_FC rfl rfl (fc_rnumber [x.readers[j3].source, x.readers[j3].offset] (by simp) (by simp [t1, t2]) _ q D3 L3.length (get_app a13 _) (by simp) (by have := (List.getElem?_eq_some_iff.1 a13).1; omega) (by omega)) rfl ?_
  rintro _ G6 ⟨rfl, k6, e6⟩
  have f6 : Fr L3 G6 q none none := (Fr.app L3 _ q).trans e6
  have c6 := f6.kd c3 hcq
  simp
  repeat first|((first|refine qa tOk rfl ?_|refine qb tOk rfl ?_|refine qc ?_|refine qd ?_|refine qe ?_);simp [c6, hj3])|refine AWP_block ?_|refine AWP_seq ?_
  refine AStep_FC rfl rfl (fc_rtracker x.readers[j3].trk t3 t4 t5 G6 q _ k6 (by simp at hyl ⊢; omega)) rfl ?_
  rintro _ G7 ⟨rfl, d7, k7, f7, s7⟩
  simp
  repeat first|((first|refine qa tOk rfl ?_|refine qb tOk rfl ?_|refine qc ?_|refine qd ?_|refine qe ?_);simp [hw3])|refine AWP_block ?_|refine AWP_seq ?_
  have h7 := RS.plus0 s7
  have he : [x.readers[j3].source, x.readers[j3].offset].flatMap encN ++ encTrk x.readers[j3].trk = encRdr x.readers[j3] := by simp [encRdr]
  rw [he] at h7
  refine ALoop_keep (ih3 (j3 + 1, d7, G7) ⟨k7, a23.trans (f6.trans f7), hj3, RS.next hj3 a43 (h7)⟩ (by simp only; omega)) (by simp)
end Go.Abs
