/- Part Km of the proof: an abstract machine over the model, and what the functions of the program hand back in its terms. No condition. -/
import Derived.Test.YtmfoegilknpcnaaGreatDoorKk
import Derived.Test.YtmfoegilknpcnaaGreatDoorKe
import Derived.Test.YtmfoegilknpcnaaGreatDoorKl
import Derived.Test.YtmfoegilknpcnaaGreatDoorKc
set_option linter.all false
set_option maxRecDepth 100000
namespace Go.Abs
open Go Go.Proofs
set_option linter.unusedSimpArgs false
theorem rH_L {α : Type} (F : DD α) : rH.L F = rL F := rfl
theorem rH_V : rH.V = rVal := rfl
theorem rCount_eq (d : Dc) : rCount d = if (pI d).1 < 0 ∨ 4096 < (pI d).1 then (0, (pI d).2.fail 5) else ((pI d).1, (pI d).2) := rfl
theorem rCount_nat (d : Dc) : ∃ N : Nat, (rCount d).1 = N ∧ N ≤ 4096 := by
  rw [rCount_eq]
  split
  · exact ⟨0, rfl, by omega⟩
  · exact ⟨(pI d).1.toNat, by simp only; omega, by omega⟩
theorem shr_rCount : Shr rCount := shr_pI.bd fun n d => by
  split
  · rw [fail_s]; exact Nat.le_refl _
  · exact Nat.le_refl _
theorem Shr.rlist {α : Type} {F : Dc → α × Dc} (h : Shr F) : Shr (rL F) := shr_rCount.bd fun n => Shr.loop h _
theorem rshr_text : Shr pText := shr_pI.bd fun n d => by
  simp only
  obtain ⟨d', hd'⟩ : ∃ d', (if n < 0 ∨ 64 < n then d.fail 13 else if (d.s.length : Int) < n then d.fail 26 else d) = d' := ⟨_, rfl⟩
  have hs : d'.s = d.s := by rw [← hd']; split; exact fail_s _ _; split; exact fail_s _ _; rfl
  rw [hd']
  split
  · rw [hs]; exact Nat.le_refl _
  · simp [hs]
theorem rshr_fin (v : Val) : Shr (finV v) := fun d => by
  have : (finV v d).2.s = d.s := by unfold finV; simp only; split; exact fail_s _ _; rfl
  rw [this]; exact Nat.le_refl _
theorem rkchk_s (k : Int) (d : Dc) : (kchk k d).s = d.s := by unfold kchk; split; exact fail_s _ _; rfl
theorem shr_rVal2 (k : Int) : Shr (rVal2 k) := fun d => by
  unfold rVal2
  split
  · exact Nat.le_refl _
  · split
    · exact (rshr_text.bd fun t => rshr_fin _) d
    · exact (shr_pI.bd fun n => rshr_fin _) d
theorem shr_rVal : Shr rVal := shr_pI.bd fun k d => by have := shr_rVal2 k (kchk k d); rwa [rkchk_s] at this
theorem rshr_ev : Shr rH.ev := shr_pI.bd fun _ => shr_pI.bd fun _ => shr_pI.bd fun _ => shr_pI.bd fun _ => (Shr.rlist shr_rVal).bd fun _ => Shr.rtn _
theorem rshr_bnd : Shr How.bnd := shr_pI.bd fun _ => shr_pI.bd fun _ => shr_pI.bd fun _ => shr_pI.bd fun _ => Shr.rtn _
theorem rshr_stt : Shr How.stt := shr_pI.bd fun _ => shr_pI.bd fun _ => Shr.rtn _
theorem rshr_pnt : Shr How.pnt := shr_pI.bd fun _ => shr_pI.bd fun _ => Shr.rtn _
theorem rshr_cfg : Shr rH.cfg := shr_pI.bd fun _ => (Shr.rlist rshr_bnd).bd fun _ => (Shr.rlist rshr_stt).bd fun _ => Shr.rtn _
theorem rshr_eng : Shr rH.eng := shr_pI.bd fun _ => (Shr.rlist rshr_ev).bd fun _ => (Shr.rlist rshr_cfg).bd fun _ => (Shr.rlist rshr_ev).bd fun _ => Shr.rtn _
theorem rshr_trk : Shr rH.trk := shr_pI.bd fun _ => (Shr.rlist shr_pI).bd fun _ => (Shr.rlist rshr_pnt).bd fun _ => shr_pI.bd fun _ => Shr.rtn _
/-- The frame around a cell that grows. -/
theorem Fr.weak {G G' : List AObj} {q S : Nat} (a : Fr G G' q none none) : Fr G G' q (some S) (some S) := ⟨a.1, .inl rfl, fun j h1 h2 _ => a.2.2 j h1 h2 (by simp)⟩
theorem Fr.over {H G G' : List AObj} {q S : Nat} (a : Fr H G q none none) (b : Fr G G' q (some S) (some S)) (hS : H.length ≤ S) : Fr H G' q none none :=
  ⟨Nat.le_trans a.1 b.1, .inl rfl, fun j h1 h2 h3 => by rw [b.2.2 j (Nat.lt_of_lt_of_le h1 a.1) h2 (by intro e; cases e; omega), a.2.2 j h1 h2 h3]⟩
theorem Fr.overS {H G G' : List AObj} {q S S' : Nat} (a : Fr H G q (some S) (some S)) (b : Fr G G' q (some S') (some S')) (hS : H.length ≤ S') : Fr H G' q (some S) (some S) :=
  ⟨Nat.le_trans a.1 b.1, .inl rfl, fun j h1 h2 h3 => by rw [b.2.2 j (Nat.lt_of_lt_of_le h1 a.1) h2 (by intro e; cases e; omega), a.2.2 j h1 h2 h3]⟩
theorem Fr.kp {G G' : List AObj} {q S j : Nat} {x : AObj} (a : Fr G G' q (some S) (some S)) (h : G[j]? = some x) (h1 : j ≠ q) (h2 : j ≠ S) : G'[j]? = some x := Fr.keep a h h1 (by simpa using h2)
theorem get_lt {G : List AObj} {j : Nat} {x : AObj} (h : G[j]? = some x) : j < G.length := (List.getElem?_eq_some_iff.1 h).1
/-- What lies in memory in a loop that grows the slice 'p' in the cells of 'S'. -/
structure CL (G0 G : List AObj) (q S p : Nat) (d : Dc) (cs : List AV) (e sz : Nat) (xs : List AV) : Prop where
  rd : G[q]? = some (dX d)
  cell : G[S]? = some (.vars cs)
  arr : G[p]? = some (.arr e sz xs)
  pq : p ≠ q
  pS : p ≠ S
  Sq : S ≠ q
  ge : G0.length ≤ p
  fr : Fr G0 G q (some S) (some S)
theorem CL.start {G0 : List AObj} {q S : Nat} {d : Dc} {c0 : AObj} (k : G0[q]? = some (dX d)) (c : G0[S]? = some c0) (h : S ≠ q) (cs : List AV) (e sz : Nat) : CL G0 ((G0 ++ [AObj.arr e sz []]).set S (.vars cs)) q S G0.length d cs e sz [] :=
  have hq := get_lt k
  have hS := get_lt c
  ⟨get_set h (get_app k _) _, get_self (get_app c _) _, by rw [List.getElem?_set_ne (by omega)]; simp, by omega, by omega, h, Nat.le_refl _, ⟨by simp, .inl rfl, fun j h1 h2 h3 => by
    rw [List.getElem?_set_ne (by intro e; apply h3; rw [e]), List.getElem?_append_left h1]⟩⟩
theorem CL.call {G0 G G' : List AObj} {q S p : Nat} {d d' : Dc} {cs : List AV} {e sz : Nat} {xs : List AV} (c : CL G0 G q S p d cs e sz xs) (k : G'[q]? = some (dX d')) (f : Fr G G' q none none) : CL G0 G' q S p d' cs e sz xs :=
  ⟨k, f.kd c.cell c.Sq, f.kd c.arr c.pq, c.pq, c.pS, c.Sq, c.ge, c.fr.trans f.weak⟩
/-- One more element, as append leaves it. -/
theorem CL.put {G0 G : List AObj} {q S p : Nat} {d : Dc} {cs : List AV} {e sz : Nat} {xs : List AV} (c : CL G0 G q S p d cs e sz xs) (A : AObj) (cs' ys : List AV) :
    CL G0 (((G ++ [A]).set p .dead ++ [AObj.arr e sz ys]).set S (.vars cs')) q S (G.length + 1) d cs' e sz ys :=
  have hq := get_lt c.rd
  have hS := get_lt c.cell
  have hp := get_lt c.arr
  ⟨get_set c.Sq (get_app (get_set c.pq (get_app c.rd _) _) _) _, get_self (get_app (get_set c.pS (get_app c.cell _) _) _) _, by rw [List.getElem?_set_ne (by omega)]; exact get_new .., by omega, by omega, c.Sq, by have := c.fr.1; omega,
   ⟨by simp; have := c.fr.1; omega, .inl rfl, fun j h1 h2 h3 => by
      have hge := c.ge
      have := c.fr.1
      rw [List.getElem?_set_ne (by intro e; apply h3; rw [e]), List.getElem?_append_left (by simp; omega), List.getElem?_set_ne (by omega), List.getElem?_append_left (by omega)]
      exact c.fr.2.2 j h1 h2 h3⟩⟩
theorem CL.cell' {G0 G : List AObj} {q S p : Nat} {d : Dc} {cs : List AV} {e sz : Nat} {xs : List AV} (c : CL G0 G q S p d cs e sz xs) (A B : AObj) : ((G ++ [A]).set p .dead ++ [B])[S]? = some (.vars cs) := get_app (get_set c.pS (get_app c.cell _) _) _
/-- The slice is frozen. -/
theorem CL.fin {G0 G : List AObj} {q S p : Nat} {d : Dc} {cs : List AV} {e sz : Nat} {xs : List AV} (c : CL G0 G q S p d cs e sz xs) (cs' : List AV) :
    ((G.set p .dead).set S (.vars cs'))[q]? = some (dX d) ∧ ((G.set p .dead).set S (.vars cs'))[S]? = some (.vars cs') ∧ Fr G0 ((G.set p .dead).set S (.vars cs')) q (some S) (some S) :=
  ⟨get_set c.Sq (get_set c.pq c.rd _) _, get_self (get_set c.pS c.cell _) _, ⟨by simp; exact c.fr.1, .inl rfl, fun j h1 h2 h3 => by
    have hge := c.ge
    rw [List.getElem?_set_ne (by intro e; apply h3; rw [e]), List.getElem?_set_ne (by omega)]
    exact c.fr.2.2 j h1 h2 h3⟩⟩
set_option maxHeartbeats 1000000 in
theorem fc_rcount (H : List AObj) (q : Nat) (d : Dc) (hd : H[q]? = some (dX d)) (hs : d.s.length ≤ 1000000000) : FC Tryz.prog 122 [.vptr q 0] H (DP H q (.i (rCount d).1) (rCount d).2) := by
  refine FC_body tOk Tryz.func122 rfl Tryz.results122 rfl (by simp [Tryz.ntmps122]) ?_
  rw [Tryz.ntmps122]
  simp only [argSlots]
  obtain ⟨R, hR⟩ : ∃ R, rCount d = R := ⟨_, rfl⟩
  rw [hR]
  rw [rCount_eq] at hR
  repeat first|((first|refine qa tOk rfl ?_|refine qb tOk rfl ?_|refine qc ?_|refine qd ?_|refine qe ?_);simp)|refine AWP_block ?_|refine AWP_seq ?_
  refine AStep_FC rfl rfl (fc_rtake H q d hd hs) rfl ?_
  rintro _ G ⟨rfl, k1, f1⟩
  generalize (pI d).1 = n at *
  generalize (pI d).2 = d1 at *
  simp
  repeat first|((first|refine qa tOk rfl ?_|refine qb tOk rfl ?_|refine qc ?_|refine qd ?_|refine qe ?_);simp)|refine AWP_block ?_|refine AWP_seq ?_
  by_cases hbad : n < 0 ∨ 4096 < n
  · rw [if_pos hbad] at hR
    refine AWP_cond2 rfl (fun h => ?_) (fun h => by exfalso; rw [Bool.eq_false_iff] at h; apply h; simpa only [Bool.or_eq_true, decide_eq_true_eq] using hbad)
    repeat first|((first|refine qa tOk rfl ?_|refine qb tOk rfl ?_|refine qc ?_|refine qd ?_|refine qe ?_);simp)|refine AWP_block ?_|refine AWP_seq ?_
    refine AStep_FC rfl rfl (fc_rfail G q d1 5 k1) rfl ?_
    rintro _ _ ⟨rfl, rfl⟩
    simp
    repeat first|((first|refine qa tOk rfl ?_|refine qb tOk rfl ?_|refine qc ?_|refine qd ?_|refine qe ?_);simp)|refine AWP_block ?_|refine AWP_seq ?_
    rw [← hR]
    exact ⟨rfl, get_self k1 _, f1.trans (Fr.set ..)⟩
  · rw [if_neg hbad] at hR
    refine AWP_cond2 rfl (fun h => by exfalso; apply hbad; simpa only [Bool.or_eq_true, decide_eq_true_eq] using h) (fun h => ?_)
    repeat first|((first|refine qa tOk rfl ?_|refine qb tOk rfl ?_|refine qc ?_|refine qd ?_|refine qe ?_);simp)|refine AWP_block ?_|refine AWP_seq ?_
    rw [← hR]
    exact ⟨rfl, k1, f1⟩
set_option maxHeartbeats 1000000 in
theorem fc_rtakeRef (H : List AObj) (q : Nat) (d : Dc) (hd : H[q]? = some (dX d)) (hs : d.s.length ≤ 1000000000) : FC Tryz.prog 211 [.vptr q 0] H (DP H q (.agg [.i (pI d).1, .i (pI (pI d).2).1, .i (pI (pI (pI d).2).2).1]) (pI (pI (pI d).2).2).2) := by
  refine FC_body tOk Tryz.func211 rfl Tryz.results211 rfl (by simp [Tryz.ntmps211]) ?_
  rw [Tryz.ntmps211]
  simp only [argSlots]
  have hql := get_lt hd
  have hrq : H.length ≠ q := by omega
  repeat first|((first|refine qa tOk rfl ?_|refine qb tOk rfl ?_|refine qc ?_|refine qd ?_|refine qe ?_);simp)|refine AWP_block ?_|refine AWP_seq ?_
  refine AStep_FC rfl rfl (fc_rtake _ q d (get_app hd _) hs) rfl ?_
  rintro _ G1 ⟨rfl, k1, f1⟩
  have r1 := f1.kd (j := H.length) (x := .vars [.i 0, .i 0, .i 0]) (by simp) hrq
  have e1 : Fr H G1 q none none := (Fr.app H _ q).trans f1
  have hs1 := Nat.le_trans (shr_pI d) hs
  generalize (pI d).1 = v1 at *
  generalize (pI d).2 = d1 at *
  simp
  repeat first|((first|refine qa tOk rfl ?_|refine qb tOk rfl ?_|refine qc ?_|refine qd ?_|refine qe ?_);simp)|refine AWP_block ?_|refine AWP_seq ?_
  refine AStep_FC rfl rfl (fc_rtake _ q d1 k1 hs1) rfl ?_
  rintro _ G2 ⟨rfl, k2, f2⟩
  have r2 := f2.kd r1 hrq
  have e2 := e1.trans f2
  have hs2 := Nat.le_trans (shr_pI d1) hs1
  generalize (pI d1).1 = v2 at *
  generalize (pI d1).2 = d2 at *
  simp
  repeat first|((first|refine qa tOk rfl ?_|refine qb tOk rfl ?_|refine qc ?_|refine qd ?_|refine qe ?_);simp)|refine AWP_block ?_|refine AWP_seq ?_
  refine AStep_FC rfl rfl (fc_rtake _ q d2 k2 hs2) rfl ?_
  rintro _ G3 ⟨rfl, k3, f3⟩
  have r3 := f3.kd r2 hrq
  have e3 := e2.trans f3
  generalize (pI d2).1 = v3 at *
  generalize (pI d2).2 = d3 at *
  have gr : ∀ z, (G3.set H.length z)[H.length]? = some z := fun z => get_self r3 z
  simp [r3, gr]
  repeat first|((first|refine qa tOk rfl ?_|refine qb tOk rfl ?_|refine qc ?_|refine qd ?_|refine qe ?_);simp [r3, gr])|refine AWP_block ?_|refine AWP_seq ?_
  exact ⟨rfl, get_set hrq k3 _, e3.over ⟨by simp, .inl rfl, fun j h1 h2 h3 => List.getElem?_set_ne (by intro e; apply h3; rw [e])⟩ (Nat.le_refl _)⟩
def rRef : DD Rf := bd pI fun a => bd pI fun b => bd pI fun c => rtn ⟨a, b, c⟩
theorem shr_rRef : Shr rRef := shr_pI.bd fun _ => shr_pI.bd fun _ => shr_pI.bd fun _ => Shr.rtn _
theorem fc_rtakeRef2 (H : List AObj) (q : Nat) (d : Dc) (hd : H[q]? = some (dX d)) (hs : d.s.length ≤ 1000000000) : FC Tryz.prog 211 [.vptr q 0] H (DP H q (avRf (rRef d).1) (rRef d).2) := fc_rtakeRef H q d hd hs
set_option maxHeartbeats 2000000 in
theorem fc_rtakeIntegers (H : List AObj) (q : Nat) (d : Dc) (hd : H[q]? = some (dX d)) (hs : d.s.length ≤ 1000000000) : FC Tryz.prog 124 [.vptr q 0] H (DP H q (.list ((rL pI d).1.map encI)) (rL pI d).2) := by
  refine FC_body tOk Tryz.func124 rfl Tryz.results124 rfl (by simp [Tryz.ntmps124]) ?_
  rw [Tryz.ntmps124]
  simp only [argSlots]
  obtain ⟨R, hR⟩ : ∃ R, rL pI d = R := ⟨_, rfl⟩
  rw [hR]
  rw [rL, bd] at hR
  repeat first|((first|refine qa tOk rfl ?_|refine qb tOk rfl ?_|refine qc ?_|refine qd ?_|refine qe ?_);simp)|refine AWP_block ?_|refine AWP_seq ?_
  refine AStep_FC rfl rfl (fc_rcount H q d hd hs) rfl ?_
  rintro _ G ⟨rfl, k1, f1⟩
  obtain ⟨N, hN, hN2⟩ := rCount_nat d
  have hs1 := Nat.le_trans (shr_rCount d) hs
  rw [hN] at hR ⊢
  generalize (rCount d).2 = d1 at *
  simp only [Int.toNat_natCast] at hR
  simp
  repeat first|((first|refine qa tOk rfl ?_|refine qb tOk rfl ?_|refine qc ?_|refine qd ?_|refine qe ?_);simp)|refine AWP_block ?_|refine AWP_seq ?_
  refine AWP_nilSlot 3 3 1 rfl ?_
  simp
  refine AWP_loop (ALoop_keep (sl' := [(0, .vptr q 0), (2, .nils), (3, .sl G.length 1 0 0), (4, .i N), (5, .i 0)]) ?_ (by simp))
  refine ALoop_wf (P := Tryz.prog) (F := fun (u : Nat × List Int × Dc × Nat × List AObj) => ⟨[(0, .vptr q 0), (2, .nils), (3, .sl u.2.2.2.1 1 0 u.2.1.length), (4, .i N), (5, .i u.1)], u.2.2.2.2⟩)
    (fun u => u.1 ≤ N ∧ u.2.1.length = u.1 ∧ u.2.2.2.2[q]? = some (dX u.2.2.1) ∧ u.2.2.2.2[u.2.2.2.1]? = some (.arr 3 1 (u.2.1.map encI)) ∧ u.2.2.2.1 ≠ q ∧ H.length ≤ u.2.2.2.1 ∧ Fr H u.2.2.2.2 q none none ∧ u.2.2.1.s.length ≤ 1000000000 ∧ R = (u.2.1 ++ (loopD pI (N - u.1) u.2.2.1).1, (loopD pI (N - u.1) u.2.2.1).2)) (fun u => N - u.1) ?_
    (0, [], d1, G.length, G ++ [.arr 3 1 []]) ⟨Nat.zero_le _, rfl, get_app k1 _, by simp, by have := get_lt k1; simp only; omega, f1.1, fr_push f1 _, by simp only; omega, by simpa using hR.symm⟩
  rintro ⟨j, xs, dj, p, G1⟩ ⟨g1, g2, g3, g4, g5, g6, g7, g8, g9⟩ ih
  simp only at g1 g2 g3 g4 g5 g6 g7 g8 g9 ih ⊢
  have g3' : G1[q]? = some (.vars [.str dj.s, .i dj.e]) := g3
  repeat first|((first|refine qa tOk rfl ?_|refine qb tOk rfl ?_|refine qc ?_|refine qd ?_|refine qe ?_);simp [g3'])|refine AWP_block ?_|refine AWP_seq ?_
  by_cases hje : j < N ∧ dj.e = 0
  · obtain ⟨hj, he⟩ := hje
    refine AWP_cond2 rfl (fun _ => ?_) (fun h => by simp [hj, he] at h)
    have hw1 : IntKind.i64.wrap ((j : Int) + 1) = j + 1 := wrap_i64 _ (by omega) (by omega)
    have hs2 := shr_pI dj
    have g9' := loopD_step pI g9 hj he
    repeat first|((first|refine qa tOk rfl ?_|refine qb tOk rfl ?_|refine qc ?_|refine qd ?_|refine qe ?_);simp)|refine AWP_block ?_|refine AWP_seq ?_
    refine AStep_FC rfl rfl (fc_rtake G1 q dj g3 g8) rfl ?_
    rintro _ G2 ⟨rfl, m1, m2⟩
    have m4 := m2.kd g4 g5
    have b6 : ∀ A : AObj, (G2 ++ [A])[p]? = some (.arr 3 1 (xs.map encI)) := fun A => get_app m4 _
    generalize (pI dj).1 = x at *
    generalize (pI dj).2 = d3 at *
    have hx : xs.length ≤ 4096 := by omega
    simp
    repeat first|((first|refine qa tOk rfl ?_|refine qb tOk rfl ?_|refine qc ?_|refine qd ?_|refine qe ?_);simp)|refine AWP_block ?_|refine AWP_seq ?_
    refine AStep_appendS tOk rfl rfl T27 rfl T3 rfl (by decide) (by decide) rfl rfl rfl ?_
    simp [b6, hx]
    refine ⟨by simp [appOk, b6, hx] <;> omega, ?_⟩
    repeat first|((first|refine qa tOk rfl ?_|refine qb tOk rfl ?_|refine qc ?_|refine qd ?_|refine qe ?_);simp [hw1])|refine AWP_block ?_|refine AWP_seq ?_
    have key := ih (j + 1, xs ++ [x], d3, G2.length + 1, (G2 ++ [AObj.arr 3 1 [encI x]]).set p .dead ++ [AObj.arr 3 1 ((xs ++ [x]).map encI)])
      ⟨by simp only; omega, by simp [g2], get_app (get_set g5 (get_app m1 _) _) _, get_new .., by have := get_lt m1; simp only; omega, by have := g7.1; have := m2.1; simp only; omega, fr_put (g7.trans m2) g6 _ _, by simp only; omega, g9'⟩ (by simp only; omega)
    simp at key
    exact ALoop_keep key (by simp)
  · refine AWP_cond2 rfl (fun h => by exfalso; apply hje; simpa using h) (fun _ => ?_)
    have hr := loopD_end pI g9 (by omega)
    refine AWP_freeze1 p g4 ?_
    simp
    try rw [List.take_of_length_le (by simp)]
    repeat first|((first|refine qa tOk rfl ?_|refine qb tOk rfl ?_|refine qc ?_|refine qd ?_|refine qe ?_);simp)|refine AWP_block ?_|refine AWP_seq ?_
    rw [hr]
    exact ⟨rfl, get_set g5 g3 _, fr_kill g7 g6⟩
end Go.Abs
set_option maxRecDepth 100000
namespace Go.Abs
open Go Go.Proofs
set_option linter.unusedSimpArgs false
theorem bd_rVal (d : Dc) : rVal d = rVal2 (pI d).1 (kchk (pI d).1 (pI d).2) := rfl
theorem fr_setc' {H G : List AObj} {q S : Nat} (f : Fr H G q none none) (hp : H.length ≤ S) (Y : AObj) : Fr H (G.set S Y) q none none :=
  ⟨by simp; exact f.1, .inl rfl, fun j hj h1 h2 => by rw [List.getElem?_set_ne (by omega)]; exact f.2.2 j hj h1 h2⟩
attribute [local irreducible] checkR
set_option maxHeartbeats 8000000 in
theorem fc_rtakeValue (H : List AObj) (q : Nat) (d : Dc) (hd : H[q]? = some (dX d)) (hs : d.s.length ≤ 1000000000) : FC Tryz.prog 125 [.vptr q 0] H (DP H q (encV (rVal d).1) (rVal d).2) := by
  refine FC_body tOk Tryz.func125 rfl Tryz.results125 rfl (by simp [Tryz.ntmps125]) ?_
  rw [Tryz.ntmps125]
  simp only [argSlots]
  obtain ⟨R, hR⟩ : ∃ R, rVal d = R := ⟨_, rfl⟩
  rw [hR]
  rw [bd_rVal] at hR
  have hql := get_lt hd
  have hrq : H.length ≠ q := by omega
  repeat first|((first|refine qa tOk rfl ?_|refine qb tOk rfl ?_|refine qc ?_|refine qd ?_|refine qe ?_);simp)|refine AWP_block ?_|refine AWP_seq ?_
  refine AStep_FC rfl rfl (fc_rtake _ q d (get_app hd _) hs) rfl ?_
  rintro _ G1 ⟨rfl, k1, f1⟩
  have r1 := f1.kd (j := H.length) (x := .vars [.i 0, .i 0, .str []]) (by simp) hrq
  have hl1 := f1.1
  simp at hl1
  have e1 : Fr H G1 q none none := (Fr.app H _ q).trans f1
  have hs1 := Nat.le_trans (shr_pI d) hs
  generalize (pI d).1 = k at *
  generalize (pI d).2 = d1 at *
  have hql1 := get_lt k1
  have k1a : ∀ A : AObj, (G1 ++ [A])[q]? = some (.vars [.str d1.s, .i d1.e]) := fun A => get_app k1 _
  have kV := get_app k1 [AObj.vars [.i k, .i 0, .str []]]
  have sV : (G1 ++ [AObj.vars [.i k, .i 0, .str []]])[G1.length]? = some (.vars [.i k, .i 0, .str []]) := by simp
  have rV := get_app r1 [AObj.vars [.i k, .i 0, .str []]]
  have eV := fr_push e1 (AObj.vars [.i k, .i 0, .str []])
  simp
  by_cases hbk : d1.e = 0 ∧ (k < 0 ∨ 2 < k)
  · repeat first|((first|refine qa tOk rfl ?_|refine qb tOk rfl ?_|refine qc ?_|refine qd ?_|refine qe ?_);simp [k1a])|refine AWP_block ?_|refine AWP_seq ?_
    refine AWP_cond2 rfl (fun _ => ?_) (fun h => by exfalso; rw [Bool.eq_false_iff] at h; apply h; simpa [hbk.1] using hbk.2)
    repeat first|((first|refine qa tOk rfl ?_|refine qb tOk rfl ?_|refine qc ?_|refine qd ?_|refine qe ?_);simp)|refine AWP_block ?_|refine AWP_seq ?_
    refine AStep_FC rfl rfl (fc_rfail _ q d1 1 kV) rfl ?_
    rintro _ _ ⟨rfl, rfl⟩
    have hkc : kchk k d1 = d1.fail 1 := by rw [kchk, if_pos hbk.2]
    rw [hkc] at hR
    have k2 := get_self kV (dX (d1.fail 1))
    have s2 := get_set (by omega : q ≠ G1.length) sV (dX (d1.fail 1))
    have r2 := get_set (Ne.symm hrq) rV (dX (d1.fail 1))
    have f2 := eV.trans (Fr.set _ q none (dX (d1.fail 1)))
    have hs2 : (d1.fail 1).s.length ≤ 1000000000 := by rw [fail_s]; exact hs1
    have hHS : H.length ≤ G1.length := by omega
    have hHS2 : H.length < G1.length := by omega
    generalize (G1 ++ [AObj.vars [.i k, .i 0, .str []]]).set q (dX (d1.fail 1)) = G2 at *
    generalize d1.fail 1 = d2 at *
    simp
    generalize G1.length = S at *
    have hSq : S ≠ q := by omega
    have hrS : H.length ≠ S := by omega
    have k2' : G2[q]? = some (.vars [.str d2.s, .i d2.e]) := k2
    repeat first|((first|refine qa tOk rfl ?_|refine qb tOk rfl ?_|refine qc ?_|refine qd ?_|refine qe ?_);simp [k2'])|refine AWP_block ?_|refine AWP_seq ?_
    rw [rVal2] at hR
    by_cases h2 : d2.e ≠ 0
    · rw [if_pos h2] at hR
      refine AWP_cond2 rfl (fun _ => ?_) (fun h => by simp [h2] at h)
      have rr2 : ∀ z, (G2.set H.length z)[H.length]? = some z := fun z => get_self r2 z
      repeat first|((first|refine qa tOk rfl ?_|refine qb tOk rfl ?_|refine qc ?_|refine qd ?_|refine qe ?_);simp [r2, rr2])|refine AWP_block ?_|refine AWP_seq ?_
      rw [← hR]
      exact ⟨rfl, get_set hrq k2 _, fr_setc' f2 (Nat.le_refl _) _⟩
    rw [if_neg h2] at hR
    refine AWP_cond2 rfl (fun h => by exfalso; apply h2; simpa using h) (fun _ => ?_)
    repeat first|((first|refine qa tOk rfl ?_|refine qb tOk rfl ?_|refine qc ?_|refine qd ?_|refine qe ?_);simp [s2])|refine AWP_block ?_|refine AWP_seq ?_
    by_cases hk : k = 2
    rotate_left
    · rw [if_neg hk, bd] at hR
      refine AWP_cond2 rfl (fun _ => ?_) (fun h => by simp [hk] at h)
      repeat first|((first|refine qa tOk rfl ?_|refine qb tOk rfl ?_|refine qc ?_|refine qd ?_|refine qe ?_);simp)|refine AWP_block ?_|refine AWP_seq ?_
      refine AStep_FC rfl rfl (fc_rtake G2 q d2 k2 hs2) rfl ?_
      rintro _ G3 ⟨rfl, k3, f3⟩
      have s3 := f3.kd s2 hSq
      have r3 := f3.kd r2 hrq
      have f3 := f2.trans f3
      generalize (pI d2).1 = n at *
      generalize (pI d2).2 = d3 at *
      have s4 : ∀ z, (G3.set S z)[S]? = some z := fun z => get_self s3 z
      simp [s3, s4]
      have k4 := get_set hSq k3 (AObj.vars [.i k, .i n, .str []])
      have s5 := s4 (AObj.vars [.i k, .i n, .str []])
      have r5 := get_set (Ne.symm hrS) r3 (AObj.vars [.i k, .i n, .str []])
      have f5 := fr_setc' f3 hHS (AObj.vars [.i k, .i n, .str []])
      generalize G3.set S (AObj.vars [.i k, .i n, .str []]) = G4 at *
      have k4' : G4[q]? = some (.vars [.str d3.s, .i d3.e]) := k4
      repeat first|((first|refine qa tOk rfl ?_|refine qb tOk rfl ?_|refine qc ?_|refine qd ?_|refine qe ?_);simp [s5])|refine AWP_block ?_|refine AWP_seq ?_
      refine AStep_PC rfl rfl (by simp) (pc_rChk (⟨k, n, []⟩)) rfl ?_
      rintro _ rfl
      simp
      repeat first|((first|refine qa tOk rfl ?_|refine qb tOk rfl ?_|refine qc ?_|refine qd ?_|refine qe ?_);simp [k4'])|refine AWP_block ?_|refine AWP_seq ?_
      by_cases hz : d3.e = 0 ∧ checkR (⟨k, n, []⟩) ≠ 0
      · refine AWP_cond2 rfl (fun _ => ?_) (fun h => by simp [hz.1, hz.2] at h)
        repeat first|((first|refine qa tOk rfl ?_|refine qb tOk rfl ?_|refine qc ?_|refine qd ?_|refine qe ?_);simp)|refine AWP_block ?_|refine AWP_seq ?_
        refine AStep_FC rfl rfl (fc_rfail _ q d3 (checkR (⟨k, n, []⟩)) k4) rfl ?_
        rintro _ _ ⟨rfl, rfl⟩
        have ss := get_set (Ne.symm hSq) s5 (dX (d3.fail (checkR (⟨k, n, []⟩))))
        have rr := get_set (Ne.symm hrq) r5 (dX (d3.fail (checkR (⟨k, n, []⟩))))
        have kk := get_self k4 (dX (d3.fail (checkR (⟨k, n, []⟩))))
        have ff := f5.trans (Fr.set _ q none (dX (d3.fail (checkR (⟨k, n, []⟩)))))
        generalize List.set _ q (dX (d3.fail (checkR (⟨k, n, []⟩)))) = G9 at *
        have rr2 : ∀ z, (G9.set H.length z)[H.length]? = some z := fun z => get_self rr z
        simp [ss, rr, rr2]
        repeat first|((first|refine qa tOk rfl ?_|refine qb tOk rfl ?_|refine qc ?_|refine qd ?_|refine qe ?_);simp [ss, rr, rr2])|refine AWP_block ?_|refine AWP_seq ?_
        rw [← hR, finV, if_pos hz.1]
        exact ⟨rfl, get_set hrq kk _, fr_setc' ff (Nat.le_refl _) _⟩
      · refine AWP_cond2 rfl (fun h => by exfalso; apply hz; simpa using h) (fun _ => ?_)
        have rr2 : ∀ z, (G4.set H.length z)[H.length]? = some z := fun z => get_self r5 z
        repeat first|((first|refine qa tOk rfl ?_|refine qb tOk rfl ?_|refine qc ?_|refine qd ?_|refine qe ?_);simp [s5, r5, rr2])|refine AWP_block ?_|refine AWP_seq ?_
        have hfv : finV (⟨k, n, []⟩) d3 = (⟨k, n, []⟩, d3) := by
          unfold finV
          split
          · rename_i h0
            have hc0 : checkR (⟨k, n, []⟩) = 0 := by
              by_cases hcc : checkR (⟨k, n, []⟩) = 0
              · exact hcc
              · exact absurd ⟨h0, hcc⟩ hz
            rw [hc0, Dc.fail, if_pos h0, ← h0]
          · rfl
        rw [← hR, hfv]
        exact ⟨rfl, get_set hrq k4 _, fr_setc' f5 (Nat.le_refl _) _⟩
    subst hk
    rw [if_pos rfl, bd, pText, bd] at hR
    refine AWP_cond2 rfl (fun h => by simp at h) (fun _ => ?_)
    repeat first|((first|refine qa tOk rfl ?_|refine qb tOk rfl ?_|refine qc ?_|refine qd ?_|refine qe ?_);simp)|refine AWP_block ?_|refine AWP_seq ?_
    refine AStep_FC rfl rfl (fc_rtake G2 q d2 k2 hs2) rfl ?_
    rintro _ G3 ⟨rfl, k3, f3⟩
    have s3 := f3.kd s2 hSq
    have r3 := f3.kd r2 hrq
    have f3 := f2.trans f3
    have hs3 := Nat.le_trans (shr_pI d2) hs2
    generalize (pI d2).1 = n at *
    generalize (pI d2).2 = d3 at *
    simp only at hR
    simp
    repeat first|((first|refine qa tOk rfl ?_|refine qb tOk rfl ?_|refine qc ?_|refine qd ?_|refine qe ?_);simp)|refine AWP_block ?_|refine AWP_seq ?_
    have k3' : G3[q]? = some (.vars [.str d3.s, .i d3.e]) := k3
    by_cases hb : n < 0 ∨ 64 < n
    · rw [if_pos hb, if_pos (fail_ne (by decide))] at hR
      refine AWP_cond2 rfl (fun _ => ?_) (fun h => by exfalso; rw [Bool.eq_false_iff] at h; apply h; simpa only [Bool.or_eq_true, decide_eq_true_eq] using hb)
      repeat first|((first|refine qa tOk rfl ?_|refine qb tOk rfl ?_|refine qc ?_|refine qd ?_|refine qe ?_);simp)|refine AWP_block ?_|refine AWP_seq ?_
      refine AStep_FC rfl rfl (fc_rfail G3 q d3 13 k3) rfl ?_
      rintro _ _ ⟨rfl, rfl⟩
      have k4 := get_self k3 (dX (d3.fail 13))
      have s4 := get_set (Ne.symm hSq) s3 (dX (d3.fail 13))
      have r4 := get_set (Ne.symm hrq) r3 (dX (d3.fail 13))
      have f4 := f3.trans (Fr.set G3 q none (dX (d3.fail 13)))
      have hne : (d3.fail 13).e ≠ 0 := fail_ne (by decide)
      generalize G3.set q (dX (d3.fail 13)) = G4 at *
      generalize d3.fail 13 = d4 at *
      have k4' : G4[q]? = some (.vars [.str d4.s, .i d4.e]) := k4
      simp [k4']
      repeat first|((first|refine qa tOk rfl ?_|refine qb tOk rfl ?_|refine qc ?_|refine qd ?_|refine qe ?_);simp [k4'])|refine AWP_block ?_|refine AWP_seq ?_
      refine AWP_cond2 rfl (fun h => by simp [hne] at h) (fun _ => ?_)
      repeat first|((first|refine qa tOk rfl ?_|refine qb tOk rfl ?_|refine qc ?_|refine qd ?_|refine qe ?_);simp [s4])|refine AWP_block ?_|refine AWP_seq ?_
      refine AStep_PC rfl rfl (by simp) (pc_rChk (⟨2, 0, []⟩)) rfl ?_
      rintro _ rfl
      simp
      repeat first|((first|refine qa tOk rfl ?_|refine qb tOk rfl ?_|refine qc ?_|refine qd ?_|refine qe ?_);simp [k4'])|refine AWP_block ?_|refine AWP_seq ?_
      by_cases hz : d4.e = 0 ∧ checkR (⟨2, 0, []⟩) ≠ 0
      · refine AWP_cond2 rfl (fun _ => ?_) (fun h => by simp [hz.1, hz.2] at h)
        repeat first|((first|refine qa tOk rfl ?_|refine qb tOk rfl ?_|refine qc ?_|refine qd ?_|refine qe ?_);simp)|refine AWP_block ?_|refine AWP_seq ?_
        refine AStep_FC rfl rfl (fc_rfail _ q d4 (checkR (⟨2, 0, []⟩)) k4) rfl ?_
        rintro _ _ ⟨rfl, rfl⟩
        have ss := get_set (Ne.symm hSq) s4 (dX (d4.fail (checkR (⟨2, 0, []⟩))))
        have rr := get_set (Ne.symm hrq) r4 (dX (d4.fail (checkR (⟨2, 0, []⟩))))
        have kk := get_self k4 (dX (d4.fail (checkR (⟨2, 0, []⟩))))
        have ff := f4.trans (Fr.set _ q none (dX (d4.fail (checkR (⟨2, 0, []⟩)))))
        generalize List.set _ q (dX (d4.fail (checkR (⟨2, 0, []⟩)))) = G9 at *
        have rr2 : ∀ z, (G9.set H.length z)[H.length]? = some z := fun z => get_self rr z
        simp [ss, rr, rr2]
        repeat first|((first|refine qa tOk rfl ?_|refine qb tOk rfl ?_|refine qc ?_|refine qd ?_|refine qe ?_);simp [ss, rr, rr2])|refine AWP_block ?_|refine AWP_seq ?_
        rw [← hR, finV, if_pos hz.1]
        exact ⟨rfl, get_set hrq kk _, fr_setc' ff (Nat.le_refl _) _⟩
      · refine AWP_cond2 rfl (fun h => by exfalso; apply hz; simpa using h) (fun _ => ?_)
        have rr2 : ∀ z, (G4.set H.length z)[H.length]? = some z := fun z => get_self r4 z
        repeat first|((first|refine qa tOk rfl ?_|refine qb tOk rfl ?_|refine qc ?_|refine qd ?_|refine qe ?_);simp [s4, r4, rr2])|refine AWP_block ?_|refine AWP_seq ?_
        have hfv : finV (⟨2, 0, []⟩) d4 = (⟨2, 0, []⟩, d4) := by
          unfold finV
          split
          · rename_i h0
            have hc0 : checkR (⟨2, 0, []⟩) = 0 := by
              by_cases hcc : checkR (⟨2, 0, []⟩) = 0
              · exact hcc
              · exact absurd ⟨h0, hcc⟩ hz
            rw [hc0, Dc.fail, if_pos h0, ← h0]
          · rfl
        rw [← hR, hfv]
        exact ⟨rfl, get_set hrq k4 _, fr_setc' f4 (Nat.le_refl _) _⟩
    rw [if_neg hb] at hR
    refine AWP_cond2 rfl (fun h => by exfalso; apply hb; simpa only [Bool.or_eq_true, decide_eq_true_eq] using h) (fun _ => ?_)
    obtain ⟨N, rfl⟩ : ∃ N : Nat, n = N := ⟨n.toNat, by omega⟩
    repeat first|((first|refine qa tOk rfl ?_|refine qb tOk rfl ?_|refine qc ?_|refine qd ?_|refine qe ?_);simp [k3'])|refine AWP_block ?_|refine AWP_seq ?_
    by_cases hl : (d3.s.length : Int) < N
    · rw [if_pos hl, if_pos (fail_ne (by decide))] at hR
      refine AWP_cond2 rfl (fun _ => ?_) (fun h => by simp at h; omega)
      repeat first|((first|refine qa tOk rfl ?_|refine qb tOk rfl ?_|refine qc ?_|refine qd ?_|refine qe ?_);simp)|refine AWP_block ?_|refine AWP_seq ?_
      refine AStep_FC rfl rfl (fc_rfail G3 q d3 26 k3) rfl ?_
      rintro _ _ ⟨rfl, rfl⟩
      have k4 := get_self k3 (dX (d3.fail 26))
      have s4 := get_set (Ne.symm hSq) s3 (dX (d3.fail 26))
      have r4 := get_set (Ne.symm hrq) r3 (dX (d3.fail 26))
      have f4 := f3.trans (Fr.set G3 q none (dX (d3.fail 26)))
      have hne : (d3.fail 26).e ≠ 0 := fail_ne (by decide)
      generalize G3.set q (dX (d3.fail 26)) = G4 at *
      generalize d3.fail 26 = d4 at *
      have k4' : G4[q]? = some (.vars [.str d4.s, .i d4.e]) := k4
      simp [k4']
      repeat first|((first|refine qa tOk rfl ?_|refine qb tOk rfl ?_|refine qc ?_|refine qd ?_|refine qe ?_);simp [k4'])|refine AWP_block ?_|refine AWP_seq ?_
      refine AWP_cond2 rfl (fun h => by simp [hne] at h) (fun _ => ?_)
      repeat first|((first|refine qa tOk rfl ?_|refine qb tOk rfl ?_|refine qc ?_|refine qd ?_|refine qe ?_);simp [s4])|refine AWP_block ?_|refine AWP_seq ?_
      refine AStep_PC rfl rfl (by simp) (pc_rChk (⟨2, 0, []⟩)) rfl ?_
      rintro _ rfl
      simp
      repeat first|((first|refine qa tOk rfl ?_|refine qb tOk rfl ?_|refine qc ?_|refine qd ?_|refine qe ?_);simp [k4'])|refine AWP_block ?_|refine AWP_seq ?_
      by_cases hz : d4.e = 0 ∧ checkR (⟨2, 0, []⟩) ≠ 0
      · refine AWP_cond2 rfl (fun _ => ?_) (fun h => by simp [hz.1, hz.2] at h)
        repeat first|((first|refine qa tOk rfl ?_|refine qb tOk rfl ?_|refine qc ?_|refine qd ?_|refine qe ?_);simp)|refine AWP_block ?_|refine AWP_seq ?_
        refine AStep_FC rfl rfl (fc_rfail _ q d4 (checkR (⟨2, 0, []⟩)) k4) rfl ?_
        rintro _ _ ⟨rfl, rfl⟩
        have ss := get_set (Ne.symm hSq) s4 (dX (d4.fail (checkR (⟨2, 0, []⟩))))
        have rr := get_set (Ne.symm hrq) r4 (dX (d4.fail (checkR (⟨2, 0, []⟩))))
        have kk := get_self k4 (dX (d4.fail (checkR (⟨2, 0, []⟩))))
        have ff := f4.trans (Fr.set _ q none (dX (d4.fail (checkR (⟨2, 0, []⟩)))))
        generalize List.set _ q (dX (d4.fail (checkR (⟨2, 0, []⟩)))) = G9 at *
        have rr2 : ∀ z, (G9.set H.length z)[H.length]? = some z := fun z => get_self rr z
        simp [ss, rr, rr2]
        repeat first|((first|refine qa tOk rfl ?_|refine qb tOk rfl ?_|refine qc ?_|refine qd ?_|refine qe ?_);simp [ss, rr, rr2])|refine AWP_block ?_|refine AWP_seq ?_
        rw [← hR, finV, if_pos hz.1]
        exact ⟨rfl, get_set hrq kk _, fr_setc' ff (Nat.le_refl _) _⟩
      · refine AWP_cond2 rfl (fun h => by exfalso; apply hz; simpa using h) (fun _ => ?_)
        have rr2 : ∀ z, (G4.set H.length z)[H.length]? = some z := fun z => get_self r4 z
        repeat first|((first|refine qa tOk rfl ?_|refine qb tOk rfl ?_|refine qc ?_|refine qd ?_|refine qe ?_);simp [s4, r4, rr2])|refine AWP_block ?_|refine AWP_seq ?_
        have hfv : finV (⟨2, 0, []⟩) d4 = (⟨2, 0, []⟩, d4) := by
          unfold finV
          split
          · rename_i h0
            have hc0 : checkR (⟨2, 0, []⟩) = 0 := by
              by_cases hcc : checkR (⟨2, 0, []⟩) = 0
              · exact hcc
              · exact absurd ⟨h0, hcc⟩ hz
            rw [hc0, Dc.fail, if_pos h0, ← h0]
          · rfl
        rw [← hR, hfv]
        exact ⟨rfl, get_set hrq k4 _, fr_setc' f4 (Nat.le_refl _) _⟩
    rw [if_neg hl] at hR
    refine AWP_cond2 rfl (fun h => by simp at h; omega) (fun _ => ?_)
    repeat first|((first|refine qa tOk rfl ?_|refine qb tOk rfl ?_|refine qc ?_|refine qd ?_|refine qe ?_);simp [k3'])|refine AWP_block ?_|refine AWP_seq ?_
    by_cases hz3 : d3.e ≠ 0
    · rw [if_pos hz3] at hR
      refine AWP_cond2 rfl (fun h => by simp [hz3] at h) (fun _ => ?_)
      repeat first|((first|refine qa tOk rfl ?_|refine qb tOk rfl ?_|refine qc ?_|refine qd ?_|refine qe ?_);simp [s3])|refine AWP_block ?_|refine AWP_seq ?_
      refine AStep_PC rfl rfl (by simp) (pc_rChk (⟨2, 0, []⟩)) rfl ?_
      rintro _ rfl
      simp
      repeat first|((first|refine qa tOk rfl ?_|refine qb tOk rfl ?_|refine qc ?_|refine qd ?_|refine qe ?_);simp [k3'])|refine AWP_block ?_|refine AWP_seq ?_
      by_cases hz : d3.e = 0 ∧ checkR (⟨2, 0, []⟩) ≠ 0
      · refine AWP_cond2 rfl (fun _ => ?_) (fun h => by simp [hz.1, hz.2] at h)
        repeat first|((first|refine qa tOk rfl ?_|refine qb tOk rfl ?_|refine qc ?_|refine qd ?_|refine qe ?_);simp)|refine AWP_block ?_|refine AWP_seq ?_
        refine AStep_FC rfl rfl (fc_rfail _ q d3 (checkR (⟨2, 0, []⟩)) k3) rfl ?_
        rintro _ _ ⟨rfl, rfl⟩
        have ss := get_set (Ne.symm hSq) s3 (dX (d3.fail (checkR (⟨2, 0, []⟩))))
        have rr := get_set (Ne.symm hrq) r3 (dX (d3.fail (checkR (⟨2, 0, []⟩))))
        have kk := get_self k3 (dX (d3.fail (checkR (⟨2, 0, []⟩))))
        have ff := f3.trans (Fr.set _ q none (dX (d3.fail (checkR (⟨2, 0, []⟩)))))
        generalize List.set _ q (dX (d3.fail (checkR (⟨2, 0, []⟩)))) = G9 at *
        have rr2 : ∀ z, (G9.set H.length z)[H.length]? = some z := fun z => get_self rr z
        simp [ss, rr, rr2]
        repeat first|((first|refine qa tOk rfl ?_|refine qb tOk rfl ?_|refine qc ?_|refine qd ?_|refine qe ?_);simp [ss, rr, rr2])|refine AWP_block ?_|refine AWP_seq ?_
        rw [← hR, finV, if_pos hz.1]
        exact ⟨rfl, get_set hrq kk _, fr_setc' ff (Nat.le_refl _) _⟩
      · refine AWP_cond2 rfl (fun h => by exfalso; apply hz; simpa using h) (fun _ => ?_)
        have rr2 : ∀ z, (G3.set H.length z)[H.length]? = some z := fun z => get_self r3 z
        repeat first|((first|refine qa tOk rfl ?_|refine qb tOk rfl ?_|refine qc ?_|refine qd ?_|refine qe ?_);simp [s3, r3, rr2])|refine AWP_block ?_|refine AWP_seq ?_
        have hfv : finV (⟨2, 0, []⟩) d3 = (⟨2, 0, []⟩, d3) := by
          unfold finV
          split
          · rename_i h0
            have hc0 : checkR (⟨2, 0, []⟩) = 0 := by
              by_cases hcc : checkR (⟨2, 0, []⟩) = 0
              · exact hcc
              · exact absurd ⟨h0, hcc⟩ hz
            rw [hc0, Dc.fail, if_pos h0, ← h0]
          · rfl
        rw [← hR, hfv]
        exact ⟨rfl, get_set hrq k3 _, fr_setc' f3 (Nat.le_refl _) _⟩
    rw [if_neg hz3] at hR
    have hz0 : d3.e = 0 := by simpa using hz3
    refine AWP_cond2 rfl (fun _ => ?_) (fun h => by simp [hz0] at h)
    have hNl : N ≤ d3.s.length := by omega
    have hNi : (N : Int) ≤ d3.s.length := by omega
    simp only [Int.toNat_natCast] at hR
    have ks : ∀ z, (G3.set S z)[q]? = some (.vars [.str d3.s, .i d3.e]) := fun z => get_set hSq k3' z
    have s4 : ∀ z, (G3.set S z)[S]? = some z := fun z => get_self s3 z
    have sq2 : ∀ z y, ((G3.set S z).set q y)[S]? = some z := fun z y => get_set (Ne.symm hSq) (s4 z) y
    repeat first|((first|refine qa tOk rfl ?_|refine qb tOk rfl ?_|refine qc ?_|refine qd ?_|refine qe ?_);simp [k3', s3, ks, sq2, hNl, hNi])|refine AWP_block ?_|refine AWP_seq ?_
    have k5 := get_self (ks (AObj.vars [.i 2, .i 0, .str (d3.s.take N)])) (dX ⟨d3.s.drop N, d3.e⟩)
    have s5 := get_set (Ne.symm hSq) (s4 (AObj.vars [.i 2, .i 0, .str (d3.s.take N)])) (dX ⟨d3.s.drop N, d3.e⟩)
    have r5 := get_set (Ne.symm hrq) (get_set (Ne.symm hrS) r3 (AObj.vars [.i 2, .i 0, .str (d3.s.take N)])) (dX ⟨d3.s.drop N, d3.e⟩)
    have f5 := (fr_setc' f3 hHS (AObj.vars [.i 2, .i 0, .str (d3.s.take N)])).trans (Fr.set _ q none (dX ⟨d3.s.drop N, d3.e⟩))
    have hdx : AObj.vars [.str (d3.s.drop N), .i d3.e] = dX ⟨d3.s.drop N, d3.e⟩ := rfl
    rw [hdx]
    generalize (G3.set S (AObj.vars [.i 2, .i 0, .str (d3.s.take N)])).set q (dX ⟨d3.s.drop N, d3.e⟩) = G5 at *
    obtain ⟨d4, hd4⟩ : ∃ d4 : Dc, (⟨d3.s.drop N, d3.e⟩ : Dc) = d4 := ⟨_, rfl⟩
    rw [hd4] at hR k5
    have k5' : G5[q]? = some (.vars [.str d4.s, .i d4.e]) := k5
    repeat first|((first|refine qa tOk rfl ?_|refine qb tOk rfl ?_|refine qc ?_|refine qd ?_|refine qe ?_);simp [s5])|refine AWP_block ?_|refine AWP_seq ?_
    refine AStep_PC rfl rfl (by simp) (pc_rChk (⟨2, 0, d3.s.take N⟩)) rfl ?_
    rintro _ rfl
    simp
    repeat first|((first|refine qa tOk rfl ?_|refine qb tOk rfl ?_|refine qc ?_|refine qd ?_|refine qe ?_);simp [k5'])|refine AWP_block ?_|refine AWP_seq ?_
    by_cases hz : d4.e = 0 ∧ checkR (⟨2, 0, d3.s.take N⟩) ≠ 0
    · refine AWP_cond2 rfl (fun _ => ?_) (fun h => by simp [hz.1, hz.2] at h)
      repeat first|((first|refine qa tOk rfl ?_|refine qb tOk rfl ?_|refine qc ?_|refine qd ?_|refine qe ?_);simp)|refine AWP_block ?_|refine AWP_seq ?_
      refine AStep_FC rfl rfl (fc_rfail _ q d4 (checkR (⟨2, 0, d3.s.take N⟩)) k5) rfl ?_
      rintro _ _ ⟨rfl, rfl⟩
      have ss := get_set (Ne.symm hSq) s5 (dX (d4.fail (checkR (⟨2, 0, d3.s.take N⟩))))
      have rr := get_set (Ne.symm hrq) r5 (dX (d4.fail (checkR (⟨2, 0, d3.s.take N⟩))))
      have kk := get_self k5 (dX (d4.fail (checkR (⟨2, 0, d3.s.take N⟩))))
      have ff := f5.trans (Fr.set _ q none (dX (d4.fail (checkR (⟨2, 0, d3.s.take N⟩)))))
      generalize List.set _ q (dX (d4.fail (checkR (⟨2, 0, d3.s.take N⟩)))) = G9 at *
      have rr2 : ∀ z, (G9.set H.length z)[H.length]? = some z := fun z => get_self rr z
      simp [ss, rr, rr2]
      repeat first|((first|refine qa tOk rfl ?_|refine qb tOk rfl ?_|refine qc ?_|refine qd ?_|refine qe ?_);simp [ss, rr, rr2])|refine AWP_block ?_|refine AWP_seq ?_
      rw [← hR, finV, if_pos hz.1]
      exact ⟨rfl, get_set hrq kk _, fr_setc' ff (Nat.le_refl _) _⟩
    · refine AWP_cond2 rfl (fun h => by exfalso; apply hz; simpa using h) (fun _ => ?_)
      have rr2 : ∀ z, (G5.set H.length z)[H.length]? = some z := fun z => get_self r5 z
      repeat first|((first|refine qa tOk rfl ?_|refine qb tOk rfl ?_|refine qc ?_|refine qd ?_|refine qe ?_);simp [s5, r5, rr2])|refine AWP_block ?_|refine AWP_seq ?_
      have hfv : finV (⟨2, 0, d3.s.take N⟩) d4 = (⟨2, 0, d3.s.take N⟩, d4) := by
        unfold finV
        split
        · rename_i h0
          have hc0 : checkR (⟨2, 0, d3.s.take N⟩) = 0 := by
            by_cases hcc : checkR (⟨2, 0, d3.s.take N⟩) = 0
            · exact hcc
            · exact absurd ⟨h0, hcc⟩ hz
          rw [hc0, Dc.fail, if_pos h0, ← h0]
        · rfl
      rw [← hR, hfv]
      exact ⟨rfl, get_set hrq k5 _, fr_setc' f5 (Nat.le_refl _) _⟩
  · have hkc : kchk k d1 = d1 := by
      rw [kchk]
      split
      · rename_i hkk
        rw [Dc.fail, if_neg (fun h0 => hbk ⟨h0, hkk⟩)]
      · rfl
    rw [hkc] at hR
    repeat first|((first|refine qa tOk rfl ?_|refine qb tOk rfl ?_|refine qc ?_|refine qd ?_|refine qe ?_);simp [k1a])|refine AWP_block ?_|refine AWP_seq ?_
    refine AWP_cond2 rfl (fun h => by exfalso; apply hbk; simpa using h) (fun _ => ?_)
    have k2 := kV
    have s2 := sV
    have r2 := rV
    have f2 := eV
    have hs2 := hs1
    have hHS : H.length ≤ G1.length := by omega
    have hHS2 : H.length < G1.length := by omega
    generalize G1 ++ [AObj.vars [.i k, .i 0, .str []]] = G2 at *
    generalize d1 = d2 at *
    generalize G1.length = S at *
    have hSq : S ≠ q := by omega
    have hrS : H.length ≠ S := by omega
    have k2' : G2[q]? = some (.vars [.str d2.s, .i d2.e]) := k2
    repeat first|((first|refine qa tOk rfl ?_|refine qb tOk rfl ?_|refine qc ?_|refine qd ?_|refine qe ?_);simp [k2'])|refine AWP_block ?_|refine AWP_seq ?_
    rw [rVal2] at hR
    by_cases h2 : d2.e ≠ 0
    · rw [if_pos h2] at hR
      refine AWP_cond2 rfl (fun _ => ?_) (fun h => by simp [h2] at h)
      have rr2 : ∀ z, (G2.set H.length z)[H.length]? = some z := fun z => get_self r2 z
      repeat first|((first|refine qa tOk rfl ?_|refine qb tOk rfl ?_|refine qc ?_|refine qd ?_|refine qe ?_);simp [r2, rr2])|refine AWP_block ?_|refine AWP_seq ?_
      rw [← hR]
      exact ⟨rfl, get_set hrq k2 _, fr_setc' f2 (Nat.le_refl _) _⟩
    rw [if_neg h2] at hR
    refine AWP_cond2 rfl (fun h => by exfalso; apply h2; simpa using h) (fun _ => ?_)
    repeat first|((first|refine qa tOk rfl ?_|refine qb tOk rfl ?_|refine qc ?_|refine qd ?_|refine qe ?_);simp [s2])|refine AWP_block ?_|refine AWP_seq ?_
    by_cases hk : k = 2
    rotate_left
    · rw [if_neg hk, bd] at hR
      refine AWP_cond2 rfl (fun _ => ?_) (fun h => by simp [hk] at h)
      repeat first|((first|refine qa tOk rfl ?_|refine qb tOk rfl ?_|refine qc ?_|refine qd ?_|refine qe ?_);simp)|refine AWP_block ?_|refine AWP_seq ?_
      refine AStep_FC rfl rfl (fc_rtake G2 q d2 k2 hs2) rfl ?_
      rintro _ G3 ⟨rfl, k3, f3⟩
      have s3 := f3.kd s2 hSq
      have r3 := f3.kd r2 hrq
      have f3 := f2.trans f3
      generalize (pI d2).1 = n at *
      generalize (pI d2).2 = d3 at *
      have s4 : ∀ z, (G3.set S z)[S]? = some z := fun z => get_self s3 z
      simp [s3, s4]
      have k4 := get_set hSq k3 (AObj.vars [.i k, .i n, .str []])
      have s5 := s4 (AObj.vars [.i k, .i n, .str []])
      have r5 := get_set (Ne.symm hrS) r3 (AObj.vars [.i k, .i n, .str []])
      have f5 := fr_setc' f3 hHS (AObj.vars [.i k, .i n, .str []])
      generalize G3.set S (AObj.vars [.i k, .i n, .str []]) = G4 at *
      have k4' : G4[q]? = some (.vars [.str d3.s, .i d3.e]) := k4
      repeat first|((first|refine qa tOk rfl ?_|refine qb tOk rfl ?_|refine qc ?_|refine qd ?_|refine qe ?_);simp [s5])|refine AWP_block ?_|refine AWP_seq ?_
      refine AStep_PC rfl rfl (by simp) (pc_rChk (⟨k, n, []⟩)) rfl ?_
      rintro _ rfl
      simp
      repeat first|((first|refine qa tOk rfl ?_|refine qb tOk rfl ?_|refine qc ?_|refine qd ?_|refine qe ?_);simp [k4'])|refine AWP_block ?_|refine AWP_seq ?_
      by_cases hz : d3.e = 0 ∧ checkR (⟨k, n, []⟩) ≠ 0
      · refine AWP_cond2 rfl (fun _ => ?_) (fun h => by simp [hz.1, hz.2] at h)
        repeat first|((first|refine qa tOk rfl ?_|refine qb tOk rfl ?_|refine qc ?_|refine qd ?_|refine qe ?_);simp)|refine AWP_block ?_|refine AWP_seq ?_
        refine AStep_FC rfl rfl (fc_rfail _ q d3 (checkR (⟨k, n, []⟩)) k4) rfl ?_
        rintro _ _ ⟨rfl, rfl⟩
        have ss := get_set (Ne.symm hSq) s5 (dX (d3.fail (checkR (⟨k, n, []⟩))))
        have rr := get_set (Ne.symm hrq) r5 (dX (d3.fail (checkR (⟨k, n, []⟩))))
        have kk := get_self k4 (dX (d3.fail (checkR (⟨k, n, []⟩))))
        have ff := f5.trans (Fr.set _ q none (dX (d3.fail (checkR (⟨k, n, []⟩)))))
        generalize List.set _ q (dX (d3.fail (checkR (⟨k, n, []⟩)))) = G9 at *
        have rr2 : ∀ z, (G9.set H.length z)[H.length]? = some z := fun z => get_self rr z
        simp [ss, rr, rr2]
        repeat first|((first|refine qa tOk rfl ?_|refine qb tOk rfl ?_|refine qc ?_|refine qd ?_|refine qe ?_);simp [ss, rr, rr2])|refine AWP_block ?_|refine AWP_seq ?_
        rw [← hR, finV, if_pos hz.1]
        exact ⟨rfl, get_set hrq kk _, fr_setc' ff (Nat.le_refl _) _⟩
      · refine AWP_cond2 rfl (fun h => by exfalso; apply hz; simpa using h) (fun _ => ?_)
        have rr2 : ∀ z, (G4.set H.length z)[H.length]? = some z := fun z => get_self r5 z
        repeat first|((first|refine qa tOk rfl ?_|refine qb tOk rfl ?_|refine qc ?_|refine qd ?_|refine qe ?_);simp [s5, r5, rr2])|refine AWP_block ?_|refine AWP_seq ?_
        have hfv : finV (⟨k, n, []⟩) d3 = (⟨k, n, []⟩, d3) := by
          unfold finV
          split
          · rename_i h0
            have hc0 : checkR (⟨k, n, []⟩) = 0 := by
              by_cases hcc : checkR (⟨k, n, []⟩) = 0
              · exact hcc
              · exact absurd ⟨h0, hcc⟩ hz
            rw [hc0, Dc.fail, if_pos h0, ← h0]
          · rfl
        rw [← hR, hfv]
        exact ⟨rfl, get_set hrq k4 _, fr_setc' f5 (Nat.le_refl _) _⟩
    subst hk
    rw [if_pos rfl, bd, pText, bd] at hR
    refine AWP_cond2 rfl (fun h => by simp at h) (fun _ => ?_)
    repeat first|((first|refine qa tOk rfl ?_|refine qb tOk rfl ?_|refine qc ?_|refine qd ?_|refine qe ?_);simp)|refine AWP_block ?_|refine AWP_seq ?_
    refine AStep_FC rfl rfl (fc_rtake G2 q d2 k2 hs2) rfl ?_
    rintro _ G3 ⟨rfl, k3, f3⟩
    have s3 := f3.kd s2 hSq
    have r3 := f3.kd r2 hrq
    have f3 := f2.trans f3
    have hs3 := Nat.le_trans (shr_pI d2) hs2
    generalize (pI d2).1 = n at *
    generalize (pI d2).2 = d3 at *
    simp only at hR
    simp
    repeat first|((first|refine qa tOk rfl ?_|refine qb tOk rfl ?_|refine qc ?_|refine qd ?_|refine qe ?_);simp)|refine AWP_block ?_|refine AWP_seq ?_
    have k3' : G3[q]? = some (.vars [.str d3.s, .i d3.e]) := k3
    by_cases hb : n < 0 ∨ 64 < n
    · rw [if_pos hb, if_pos (fail_ne (by decide))] at hR
      refine AWP_cond2 rfl (fun _ => ?_) (fun h => by exfalso; rw [Bool.eq_false_iff] at h; apply h; simpa only [Bool.or_eq_true, decide_eq_true_eq] using hb)
      repeat first|((first|refine qa tOk rfl ?_|refine qb tOk rfl ?_|refine qc ?_|refine qd ?_|refine qe ?_);simp)|refine AWP_block ?_|refine AWP_seq ?_
      refine AStep_FC rfl rfl (fc_rfail G3 q d3 13 k3) rfl ?_
      rintro _ _ ⟨rfl, rfl⟩
      have k4 := get_self k3 (dX (d3.fail 13))
      have s4 := get_set (Ne.symm hSq) s3 (dX (d3.fail 13))
      have r4 := get_set (Ne.symm hrq) r3 (dX (d3.fail 13))
      have f4 := f3.trans (Fr.set G3 q none (dX (d3.fail 13)))
      have hne : (d3.fail 13).e ≠ 0 := fail_ne (by decide)
      generalize G3.set q (dX (d3.fail 13)) = G4 at *
      generalize d3.fail 13 = d4 at *
      have k4' : G4[q]? = some (.vars [.str d4.s, .i d4.e]) := k4
      simp [k4']
      repeat first|((first|refine qa tOk rfl ?_|refine qb tOk rfl ?_|refine qc ?_|refine qd ?_|refine qe ?_);simp [k4'])|refine AWP_block ?_|refine AWP_seq ?_
      refine AWP_cond2 rfl (fun h => by simp [hne] at h) (fun _ => ?_)
      repeat first|((first|refine qa tOk rfl ?_|refine qb tOk rfl ?_|refine qc ?_|refine qd ?_|refine qe ?_);simp [s4])|refine AWP_block ?_|refine AWP_seq ?_
      refine AStep_PC rfl rfl (by simp) (pc_rChk (⟨2, 0, []⟩)) rfl ?_
      rintro _ rfl
      simp
      repeat first|((first|refine qa tOk rfl ?_|refine qb tOk rfl ?_|refine qc ?_|refine qd ?_|refine qe ?_);simp [k4'])|refine AWP_block ?_|refine AWP_seq ?_
      by_cases hz : d4.e = 0 ∧ checkR (⟨2, 0, []⟩) ≠ 0
      · refine AWP_cond2 rfl (fun _ => ?_) (fun h => by simp [hz.1, hz.2] at h)
        repeat first|((first|refine qa tOk rfl ?_|refine qb tOk rfl ?_|refine qc ?_|refine qd ?_|refine qe ?_);simp)|refine AWP_block ?_|refine AWP_seq ?_
        refine AStep_FC rfl rfl (fc_rfail _ q d4 (checkR (⟨2, 0, []⟩)) k4) rfl ?_
        rintro _ _ ⟨rfl, rfl⟩
        have ss := get_set (Ne.symm hSq) s4 (dX (d4.fail (checkR (⟨2, 0, []⟩))))
        have rr := get_set (Ne.symm hrq) r4 (dX (d4.fail (checkR (⟨2, 0, []⟩))))
        have kk := get_self k4 (dX (d4.fail (checkR (⟨2, 0, []⟩))))
        have ff := f4.trans (Fr.set _ q none (dX (d4.fail (checkR (⟨2, 0, []⟩)))))
        generalize List.set _ q (dX (d4.fail (checkR (⟨2, 0, []⟩)))) = G9 at *
        have rr2 : ∀ z, (G9.set H.length z)[H.length]? = some z := fun z => get_self rr z
        simp [ss, rr, rr2]
        repeat first|((first|refine qa tOk rfl ?_|refine qb tOk rfl ?_|refine qc ?_|refine qd ?_|refine qe ?_);simp [ss, rr, rr2])|refine AWP_block ?_|refine AWP_seq ?_
        rw [← hR, finV, if_pos hz.1]
        exact ⟨rfl, get_set hrq kk _, fr_setc' ff (Nat.le_refl _) _⟩
      · refine AWP_cond2 rfl (fun h => by exfalso; apply hz; simpa using h) (fun _ => ?_)
        have rr2 : ∀ z, (G4.set H.length z)[H.length]? = some z := fun z => get_self r4 z
        repeat first|((first|refine qa tOk rfl ?_|refine qb tOk rfl ?_|refine qc ?_|refine qd ?_|refine qe ?_);simp [s4, r4, rr2])|refine AWP_block ?_|refine AWP_seq ?_
        have hfv : finV (⟨2, 0, []⟩) d4 = (⟨2, 0, []⟩, d4) := by
          unfold finV
          split
          · rename_i h0
            have hc0 : checkR (⟨2, 0, []⟩) = 0 := by
              by_cases hcc : checkR (⟨2, 0, []⟩) = 0
              · exact hcc
              · exact absurd ⟨h0, hcc⟩ hz
            rw [hc0, Dc.fail, if_pos h0, ← h0]
          · rfl
        rw [← hR, hfv]
        exact ⟨rfl, get_set hrq k4 _, fr_setc' f4 (Nat.le_refl _) _⟩
    rw [if_neg hb] at hR
    refine AWP_cond2 rfl (fun h => by exfalso; apply hb; simpa only [Bool.or_eq_true, decide_eq_true_eq] using h) (fun _ => ?_)
    obtain ⟨N, rfl⟩ : ∃ N : Nat, n = N := ⟨n.toNat, by omega⟩
    repeat first|((first|refine qa tOk rfl ?_|refine qb tOk rfl ?_|refine qc ?_|refine qd ?_|refine qe ?_);simp [k3'])|refine AWP_block ?_|refine AWP_seq ?_
    by_cases hl : (d3.s.length : Int) < N
    · rw [if_pos hl, if_pos (fail_ne (by decide))] at hR
      refine AWP_cond2 rfl (fun _ => ?_) (fun h => by simp at h; omega)
      repeat first|((first|refine qa tOk rfl ?_|refine qb tOk rfl ?_|refine qc ?_|refine qd ?_|refine qe ?_);simp)|refine AWP_block ?_|refine AWP_seq ?_
      refine AStep_FC rfl rfl (fc_rfail G3 q d3 26 k3) rfl ?_
      rintro _ _ ⟨rfl, rfl⟩
      have k4 := get_self k3 (dX (d3.fail 26))
      have s4 := get_set (Ne.symm hSq) s3 (dX (d3.fail 26))
      have r4 := get_set (Ne.symm hrq) r3 (dX (d3.fail 26))
      have f4 := f3.trans (Fr.set G3 q none (dX (d3.fail 26)))
      have hne : (d3.fail 26).e ≠ 0 := fail_ne (by decide)
      generalize G3.set q (dX (d3.fail 26)) = G4 at *
      generalize d3.fail 26 = d4 at *
      have k4' : G4[q]? = some (.vars [.str d4.s, .i d4.e]) := k4
      simp [k4']
      repeat first|((first|refine qa tOk rfl ?_|refine qb tOk rfl ?_|refine qc ?_|refine qd ?_|refine qe ?_);simp [k4'])|refine AWP_block ?_|refine AWP_seq ?_
      refine AWP_cond2 rfl (fun h => by simp [hne] at h) (fun _ => ?_)
      repeat first|((first|refine qa tOk rfl ?_|refine qb tOk rfl ?_|refine qc ?_|refine qd ?_|refine qe ?_);simp [s4])|refine AWP_block ?_|refine AWP_seq ?_
      refine AStep_PC rfl rfl (by simp) (pc_rChk (⟨2, 0, []⟩)) rfl ?_
      rintro _ rfl
      simp
      repeat first|((first|refine qa tOk rfl ?_|refine qb tOk rfl ?_|refine qc ?_|refine qd ?_|refine qe ?_);simp [k4'])|refine AWP_block ?_|refine AWP_seq ?_
      by_cases hz : d4.e = 0 ∧ checkR (⟨2, 0, []⟩) ≠ 0
      · refine AWP_cond2 rfl (fun _ => ?_) (fun h => by simp [hz.1, hz.2] at h)
        repeat first|((first|refine qa tOk rfl ?_|refine qb tOk rfl ?_|refine qc ?_|refine qd ?_|refine qe ?_);simp)|refine AWP_block ?_|refine AWP_seq ?_
        refine AStep_FC rfl rfl (fc_rfail _ q d4 (checkR (⟨2, 0, []⟩)) k4) rfl ?_
        rintro _ _ ⟨rfl, rfl⟩
        have ss := get_set (Ne.symm hSq) s4 (dX (d4.fail (checkR (⟨2, 0, []⟩))))
        have rr := get_set (Ne.symm hrq) r4 (dX (d4.fail (checkR (⟨2, 0, []⟩))))
        have kk := get_self k4 (dX (d4.fail (checkR (⟨2, 0, []⟩))))
        have ff := f4.trans (Fr.set _ q none (dX (d4.fail (checkR (⟨2, 0, []⟩)))))
        generalize List.set _ q (dX (d4.fail (checkR (⟨2, 0, []⟩)))) = G9 at *
        have rr2 : ∀ z, (G9.set H.length z)[H.length]? = some z := fun z => get_self rr z
        simp [ss, rr, rr2]
        repeat first|((first|refine qa tOk rfl ?_|refine qb tOk rfl ?_|refine qc ?_|refine qd ?_|refine qe ?_);simp [ss, rr, rr2])|refine AWP_block ?_|refine AWP_seq ?_
        rw [← hR, finV, if_pos hz.1]
        exact ⟨rfl, get_set hrq kk _, fr_setc' ff (Nat.le_refl _) _⟩
      · refine AWP_cond2 rfl (fun h => by exfalso; apply hz; simpa using h) (fun _ => ?_)
        have rr2 : ∀ z, (G4.set H.length z)[H.length]? = some z := fun z => get_self r4 z
        repeat first|((first|refine qa tOk rfl ?_|refine qb tOk rfl ?_|refine qc ?_|refine qd ?_|refine qe ?_);simp [s4, r4, rr2])|refine AWP_block ?_|refine AWP_seq ?_
        have hfv : finV (⟨2, 0, []⟩) d4 = (⟨2, 0, []⟩, d4) := by
          unfold finV
          split
          · rename_i h0
            have hc0 : checkR (⟨2, 0, []⟩) = 0 := by
              by_cases hcc : checkR (⟨2, 0, []⟩) = 0
              · exact hcc
              · exact absurd ⟨h0, hcc⟩ hz
            rw [hc0, Dc.fail, if_pos h0, ← h0]
          · rfl
        rw [← hR, hfv]
        exact ⟨rfl, get_set hrq k4 _, fr_setc' f4 (Nat.le_refl _) _⟩
    rw [if_neg hl] at hR
    refine AWP_cond2 rfl (fun h => by simp at h; omega) (fun _ => ?_)
    repeat first|((first|refine qa tOk rfl ?_|refine qb tOk rfl ?_|refine qc ?_|refine qd ?_|refine qe ?_);simp [k3'])|refine AWP_block ?_|refine AWP_seq ?_
    by_cases hz3 : d3.e ≠ 0
    · rw [if_pos hz3] at hR
      refine AWP_cond2 rfl (fun h => by simp [hz3] at h) (fun _ => ?_)
      repeat first|((first|refine qa tOk rfl ?_|refine qb tOk rfl ?_|refine qc ?_|refine qd ?_|refine qe ?_);simp [s3])|refine AWP_block ?_|refine AWP_seq ?_
      refine AStep_PC rfl rfl (by simp) (pc_rChk (⟨2, 0, []⟩)) rfl ?_
      rintro _ rfl
      simp
      repeat first|((first|refine qa tOk rfl ?_|refine qb tOk rfl ?_|refine qc ?_|refine qd ?_|refine qe ?_);simp [k3'])|refine AWP_block ?_|refine AWP_seq ?_
      by_cases hz : d3.e = 0 ∧ checkR (⟨2, 0, []⟩) ≠ 0
      · refine AWP_cond2 rfl (fun _ => ?_) (fun h => by simp [hz.1, hz.2] at h)
        repeat first|((first|refine qa tOk rfl ?_|refine qb tOk rfl ?_|refine qc ?_|refine qd ?_|refine qe ?_);simp)|refine AWP_block ?_|refine AWP_seq ?_
        refine AStep_FC rfl rfl (fc_rfail _ q d3 (checkR (⟨2, 0, []⟩)) k3) rfl ?_
        rintro _ _ ⟨rfl, rfl⟩
        have ss := get_set (Ne.symm hSq) s3 (dX (d3.fail (checkR (⟨2, 0, []⟩))))
        have rr := get_set (Ne.symm hrq) r3 (dX (d3.fail (checkR (⟨2, 0, []⟩))))
        have kk := get_self k3 (dX (d3.fail (checkR (⟨2, 0, []⟩))))
        have ff := f3.trans (Fr.set _ q none (dX (d3.fail (checkR (⟨2, 0, []⟩)))))
        generalize List.set _ q (dX (d3.fail (checkR (⟨2, 0, []⟩)))) = G9 at *
        have rr2 : ∀ z, (G9.set H.length z)[H.length]? = some z := fun z => get_self rr z
        simp [ss, rr, rr2]
        repeat first|((first|refine qa tOk rfl ?_|refine qb tOk rfl ?_|refine qc ?_|refine qd ?_|refine qe ?_);simp [ss, rr, rr2])|refine AWP_block ?_|refine AWP_seq ?_
        rw [← hR, finV, if_pos hz.1]
        exact ⟨rfl, get_set hrq kk _, fr_setc' ff (Nat.le_refl _) _⟩
      · refine AWP_cond2 rfl (fun h => by exfalso; apply hz; simpa using h) (fun _ => ?_)
        have rr2 : ∀ z, (G3.set H.length z)[H.length]? = some z := fun z => get_self r3 z
        repeat first|((first|refine qa tOk rfl ?_|refine qb tOk rfl ?_|refine qc ?_|refine qd ?_|refine qe ?_);simp [s3, r3, rr2])|refine AWP_block ?_|refine AWP_seq ?_
        have hfv : finV (⟨2, 0, []⟩) d3 = (⟨2, 0, []⟩, d3) := by
          unfold finV
          split
          · rename_i h0
            have hc0 : checkR (⟨2, 0, []⟩) = 0 := by
              by_cases hcc : checkR (⟨2, 0, []⟩) = 0
              · exact hcc
              · exact absurd ⟨h0, hcc⟩ hz
            rw [hc0, Dc.fail, if_pos h0, ← h0]
          · rfl
        rw [← hR, hfv]
        exact ⟨rfl, get_set hrq k3 _, fr_setc' f3 (Nat.le_refl _) _⟩
    rw [if_neg hz3] at hR
    have hz0 : d3.e = 0 := by simpa using hz3
    refine AWP_cond2 rfl (fun _ => ?_) (fun h => by simp [hz0] at h)
    have hNl : N ≤ d3.s.length := by omega
    have hNi : (N : Int) ≤ d3.s.length := by omega
    simp only [Int.toNat_natCast] at hR
    have ks : ∀ z, (G3.set S z)[q]? = some (.vars [.str d3.s, .i d3.e]) := fun z => get_set hSq k3' z
    have s4 : ∀ z, (G3.set S z)[S]? = some z := fun z => get_self s3 z
    have sq2 : ∀ z y, ((G3.set S z).set q y)[S]? = some z := fun z y => get_set (Ne.symm hSq) (s4 z) y
    repeat first|((first|refine qa tOk rfl ?_|refine qb tOk rfl ?_|refine qc ?_|refine qd ?_|refine qe ?_);simp [k3', s3, ks, sq2, hNl, hNi])|refine AWP_block ?_|refine AWP_seq ?_
    have k5 := get_self (ks (AObj.vars [.i 2, .i 0, .str (d3.s.take N)])) (dX ⟨d3.s.drop N, d3.e⟩)
    have s5 := get_set (Ne.symm hSq) (s4 (AObj.vars [.i 2, .i 0, .str (d3.s.take N)])) (dX ⟨d3.s.drop N, d3.e⟩)
    have r5 := get_set (Ne.symm hrq) (get_set (Ne.symm hrS) r3 (AObj.vars [.i 2, .i 0, .str (d3.s.take N)])) (dX ⟨d3.s.drop N, d3.e⟩)
    have f5 := (fr_setc' f3 hHS (AObj.vars [.i 2, .i 0, .str (d3.s.take N)])).trans (Fr.set _ q none (dX ⟨d3.s.drop N, d3.e⟩))
    have hdx : AObj.vars [.str (d3.s.drop N), .i d3.e] = dX ⟨d3.s.drop N, d3.e⟩ := rfl
    rw [hdx]
    generalize (G3.set S (AObj.vars [.i 2, .i 0, .str (d3.s.take N)])).set q (dX ⟨d3.s.drop N, d3.e⟩) = G5 at *
    obtain ⟨d4, hd4⟩ : ∃ d4 : Dc, (⟨d3.s.drop N, d3.e⟩ : Dc) = d4 := ⟨_, rfl⟩
    rw [hd4] at hR k5
    have k5' : G5[q]? = some (.vars [.str d4.s, .i d4.e]) := k5
    repeat first|((first|refine qa tOk rfl ?_|refine qb tOk rfl ?_|refine qc ?_|refine qd ?_|refine qe ?_);simp [s5])|refine AWP_block ?_|refine AWP_seq ?_
    refine AStep_PC rfl rfl (by simp) (pc_rChk (⟨2, 0, d3.s.take N⟩)) rfl ?_
    rintro _ rfl
    simp
    repeat first|((first|refine qa tOk rfl ?_|refine qb tOk rfl ?_|refine qc ?_|refine qd ?_|refine qe ?_);simp [k5'])|refine AWP_block ?_|refine AWP_seq ?_
    by_cases hz : d4.e = 0 ∧ checkR (⟨2, 0, d3.s.take N⟩) ≠ 0
    · refine AWP_cond2 rfl (fun _ => ?_) (fun h => by simp [hz.1, hz.2] at h)
      repeat first|((first|refine qa tOk rfl ?_|refine qb tOk rfl ?_|refine qc ?_|refine qd ?_|refine qe ?_);simp)|refine AWP_block ?_|refine AWP_seq ?_
      refine AStep_FC rfl rfl (fc_rfail _ q d4 (checkR (⟨2, 0, d3.s.take N⟩)) k5) rfl ?_
      rintro _ _ ⟨rfl, rfl⟩
      have ss := get_set (Ne.symm hSq) s5 (dX (d4.fail (checkR (⟨2, 0, d3.s.take N⟩))))
      have rr := get_set (Ne.symm hrq) r5 (dX (d4.fail (checkR (⟨2, 0, d3.s.take N⟩))))
      have kk := get_self k5 (dX (d4.fail (checkR (⟨2, 0, d3.s.take N⟩))))
      have ff := f5.trans (Fr.set _ q none (dX (d4.fail (checkR (⟨2, 0, d3.s.take N⟩)))))
      generalize List.set _ q (dX (d4.fail (checkR (⟨2, 0, d3.s.take N⟩)))) = G9 at *
      have rr2 : ∀ z, (G9.set H.length z)[H.length]? = some z := fun z => get_self rr z
      simp [ss, rr, rr2]
      repeat first|((first|refine qa tOk rfl ?_|refine qb tOk rfl ?_|refine qc ?_|refine qd ?_|refine qe ?_);simp [ss, rr, rr2])|refine AWP_block ?_|refine AWP_seq ?_
      rw [← hR, finV, if_pos hz.1]
      exact ⟨rfl, get_set hrq kk _, fr_setc' ff (Nat.le_refl _) _⟩
    · refine AWP_cond2 rfl (fun h => by exfalso; apply hz; simpa using h) (fun _ => ?_)
      have rr2 : ∀ z, (G5.set H.length z)[H.length]? = some z := fun z => get_self r5 z
      repeat first|((first|refine qa tOk rfl ?_|refine qb tOk rfl ?_|refine qc ?_|refine qd ?_|refine qe ?_);simp [s5, r5, rr2])|refine AWP_block ?_|refine AWP_seq ?_
      have hfv : finV (⟨2, 0, d3.s.take N⟩) d4 = (⟨2, 0, d3.s.take N⟩, d4) := by
        unfold finV
        split
        · rename_i h0
          have hc0 : checkR (⟨2, 0, d3.s.take N⟩) = 0 := by
            by_cases hcc : checkR (⟨2, 0, d3.s.take N⟩) = 0
            · exact hcc
            · exact absurd ⟨h0, hcc⟩ hz
          rw [hc0, Dc.fail, if_pos h0, ← h0]
        · rfl
      rw [← hR, hfv]
      exact ⟨rfl, get_set hrq k5 _, fr_setc' f5 (Nat.le_refl _) _⟩
end Go.Abs
set_option maxRecDepth 100000
namespace Go.Abs
open Go Go.Proofs
set_option linter.unusedSimpArgs false
theorem rL_eq {α : Type} (F : DD α) (d : Dc) : rL F d = loopD F (rCount d).1.toNat (rCount d).2 := rfl
theorem bnd_eq (d : Dc) : How.bnd d = (⟨(pI d).1, (rRef (pI d).2).1⟩, (rRef (pI d).2).2) := rfl
theorem stt_eq (d : Dc) : How.stt d = (⟨(pI d).1, (pI (pI d).2).1⟩, (pI (pI d).2).2) := rfl
theorem pnt_eq (d : Dc) : How.pnt d = (⟨(pI d).1, (pI (pI d).2).1⟩, (pI (pI d).2).2) := rfl
theorem opr_eq (d : Dc) : rH.opr d = (⟨(rL pI d).1, (rL rH.kyd (rL pI d).2).1⟩, (rL rH.kyd (rL pI d).2).2) := rfl
theorem ev_eq (d : Dc) : rH.ev d = (⟨(pI d).1, (pI (pI d).2).1, (pI (pI (pI d).2).2).1, (pI (pI (pI (pI d).2).2).2).1, (rL rVal (pI (pI (pI (pI d).2).2).2).2).1⟩, (rL rVal (pI (pI (pI (pI d).2).2).2).2).2) := rfl
theorem CL.push {G0 G : List AObj} {q S p : Nat} {d : Dc} {cs : List AV} {e sz : Nat} {xs : List AV} (c : CL G0 G q S p d cs e sz xs) (A : AObj) : CL G0 (G ++ [A]) q S p d cs e sz xs :=
  ⟨get_app c.rd _, get_app c.cell _, get_app c.arr _, c.pq, c.pS, c.Sq, c.ge, c.fr.trans (Fr.app G [A] q).weak⟩
theorem CL.inner {G0 G G' : List AObj} {q S p S2 : Nat} {d d' : Dc} {cs : List AV} {e sz : Nat} {xs : List AV} (c : CL G0 G q S p d cs e sz xs) (f : Fr G G' q (some S2) (some S2)) (k : G'[q]? = some (dX d')) (h1 : S ≠ S2) (h2 : p ≠ S2) (h3 : G0.length ≤ S2) : CL G0 G' q S p d' cs e sz xs :=
  ⟨k, f.kp c.cell c.Sq h1, f.kp c.arr c.pq h2, c.pq, c.pS, c.Sq, c.ge, c.fr.overS f h3⟩
theorem rdr_eq (d : Dc) : rH.rdr d = (⟨(pI d).1, (pI (pI d).2).1, (rH.trk (pI (pI d).2).2).1⟩, (rH.trk (pI (pI d).2).2).2) := rfl
theorem kyd_eq (d : Dc) : rH.kyd d = (⟨(pI d).1, (rVal (pI d).2).1, (rH.eng (rVal (pI d).2).2).1⟩, (rH.eng (rVal (pI d).2).2).2) := rfl
attribute [local irreducible] rVal
set_option maxHeartbeats 8000000 in
theorem fc_rtakeConfig (H : List AObj) (q : Nat) (d : Dc) (hd : H[q]? = some (dX d)) (hs : d.s.length ≤ 1000000000) : FC Tryz.prog 174 [.vptr q 0] H (DP H q (avCfg (rH.cfg d).1) (rH.cfg d).2) := by
  refine FC_body tOk Tryz.func174 rfl Tryz.results174 rfl (by simp [Tryz.ntmps174]) ?_
  rw [Tryz.ntmps174]
  simp only [argSlots]
  obtain ⟨R, hR⟩ : ∃ R, rH.cfg d = R := ⟨_, rfl⟩
  rw [hR]
  simp only [How.cfg, bd, rH_L, rH_V, rtn] at hR
  have hql := get_lt hd
  have hrq : H.length ≠ q := by omega
  repeat first|((first|refine qa tOk rfl ?_|refine qb tOk rfl ?_|refine qc ?_|refine qd ?_|refine qe ?_);simp)|refine AWP_block ?_|refine AWP_seq ?_
  refine AStep_FC rfl rfl (fc_rtake _ q d (get_app hd _) hs) rfl ?_
  rintro _ G1 ⟨rfl, k1, f1⟩
  have hs1 := Nat.le_trans (shr_pI d) hs
  generalize (pI d).1 = v1 at *
  generalize (pI d).2 = d1 at *
  simp
  have r1 := f1.kd (j := H.length) (x := .vars [.i 0, .nils, .nils]) (by simp) hrq
  have e1 : Fr H G1 q none none := (Fr.app H _ q).trans f1
  have hl1 := f1.1
  simp at hl1
  repeat first|((first|refine qa tOk rfl ?_|refine qb tOk rfl ?_|refine qc ?_|refine qd ?_|refine qe ?_);simp)|refine AWP_block ?_|refine AWP_seq ?_
  have sV : (G1 ++ [AObj.vars [.i v1, .nils, .nils]])[G1.length]? = some (.vars [.i v1, .nils, .nils]) := by simp
  have hq1 := get_lt k1
  have hSq : G1.length ≠ q := by omega
  refine AStep_FC rfl rfl (fc_rcount _ q d1 (get_app k1 _) hs1) rfl ?_
  rintro _ G2 ⟨rfl, k2, f2⟩
  have c2 := f2.kd sV hSq
  have r2 := f2.kd (get_app r1 _) hrq
  have hs2 := Nat.le_trans (shr_rCount d1) hs1
  obtain ⟨N2, hN2, hM2⟩ := rCount_nat d1
  rw [rL_eq (How.bnd)] at hR
  rw [hN2] at hR ⊢
  simp only [Int.toNat_natCast] at hR
  generalize (rCount d1).2 = d2 at *
  simp
  have e2 := (fr_push e1 (AObj.vars [.i v1, .nils, .nils])).trans f2
  have hl2 := get_lt c2
  have hq2 := get_lt k2
  generalize G1.length = S at *
  have hrS : H.length ≠ S := by omega
  have hHS : H.length ≤ S := by omega
  repeat first|((first|refine qa tOk rfl ?_|refine qb tOk rfl ?_|refine qc ?_|refine qd ?_|refine qe ?_);simp)|refine AWP_block ?_|refine AWP_seq ?_
  obtain ⟨R3, hR3⟩ : ∃ R3, loopD How.bnd N2 d2 = R3 := ⟨_, rfl⟩
  rw [hR3] at hR
  refine AWP_nilCell S 1 243 4 c2 rfl ?_
  simp
  refine AWP_loop (ALoop_keep (sl' := [(0, .vptr q 0), (2, .vptr H.length 0), (3, .vptr S 0), (4, .i N2), (5, .i 0)]) ?_ (by simp))
  refine ALoop_wf (P := Tryz.prog) (F := fun (u : Nat × List Bnd × Dc × Nat × List AObj) => ⟨[(0, .vptr q 0), (2, .vptr H.length 0), (3, .vptr S 0), (4, .i N2), (5, .i u.1)], u.2.2.2.2⟩)
    (fun u => u.1 ≤ N2 ∧ u.2.1.length = u.1 ∧ CL G2 u.2.2.2.2 q S u.2.2.2.1 u.2.2.1 [.i v1, .sl u.2.2.2.1 4 0 u.2.1.length, .nils] 243 4 (u.2.1.map avBnd) ∧ u.2.2.1.s.length ≤ 1000000000 ∧ R3 = (u.2.1 ++ (loopD How.bnd (N2 - u.1) u.2.2.1).1, (loopD How.bnd (N2 - u.1) u.2.2.1).2)) (fun u => N2 - u.1) ?_
    (0, [], d2, G2.length, (G2 ++ [AObj.arr 243 4 []]).set S (.vars [.i v1, .sl G2.length 4 0 0, .nils])) ⟨Nat.zero_le _, rfl, CL.start k2 c2 hSq _ _ _, hs2, by simpa using hR3.symm⟩
  rintro ⟨j3, xs3, D3, p3, L3⟩ ⟨i13, i23, cl3, i33, i43⟩ ih3
  simp only at i13 i23 cl3 i33 i43 ih3 ⊢
  have rd3 : L3[q]? = some (.vars [.str D3.s, .i D3.e]) := cl3.rd
  repeat first|((first|refine qa tOk rfl ?_|refine qb tOk rfl ?_|refine qc ?_|refine qd ?_|refine qe ?_);simp [rd3])|refine AWP_block ?_|refine AWP_seq ?_
  by_cases hje3 : j3 < N2 ∧ D3.e = 0
  rotate_left
  · refine AWP_cond2 rfl (fun h => by exfalso; apply hje3; simpa using h) (fun _ => ?_)
    have hr3 := loopD_end How.bnd i43 (by omega)
    rw [hr3] at hR
    refine AWP_freezeC p3 cl3.arr S cl3.cell ?_
    simp
    try rw [List.take_of_length_le (by simp)]
    obtain ⟨ke3, ce3, fe3⟩ := cl3.fin [.i v1, .list (xs3.map avBnd), .nils]
    generalize (L3.set p3 .dead).set S (.vars [.i v1, .list (xs3.map avBnd), .nils]) = E3 at *
    have e3 := e2.over fe3 hHS
    have r3 := fe3.kp r2 hrq hrS
    repeat first|((first|refine qa tOk rfl ?_|refine qb tOk rfl ?_|refine qc ?_|refine qd ?_|refine qe ?_);simp)|refine AWP_block ?_|refine AWP_seq ?_
    refine AStep_FC rfl rfl (fc_rcount E3 q D3 ke3 i33) rfl ?_
    rintro _ G4 ⟨rfl, k4, f4⟩
    have c4 := f4.kd ce3 hSq
    have r4 := f4.kd r3 hrq
    have hs4 := Nat.le_trans (shr_rCount D3) i33
    obtain ⟨N4, hN4, hM4⟩ := rCount_nat D3
    rw [rL_eq (How.stt)] at hR
    rw [hN4] at hR ⊢
    simp only [Int.toNat_natCast] at hR
    generalize (rCount D3).2 = d4 at *
    simp
    have e4 := e3.trans f4
    repeat first|((first|refine qa tOk rfl ?_|refine qb tOk rfl ?_|refine qc ?_|refine qd ?_|refine qe ?_);simp)|refine AWP_block ?_|refine AWP_seq ?_
    obtain ⟨R5, hR5⟩ : ∃ R5, loopD How.stt N4 d4 = R5 := ⟨_, rfl⟩
    rw [hR5] at hR
    refine AWP_nilCell S 2 245 2 c4 rfl ?_
    simp
    refine AWP_loop (ALoop_keep (sl' := [(0, .vptr q 0), (2, .vptr H.length 0), (3, .vptr S 0), (6, .i N4), (7, .i 0)]) ?_ (by simp))
    refine ALoop_wf (P := Tryz.prog) (F := fun (u : Nat × List Stt × Dc × Nat × List AObj) => ⟨[(0, .vptr q 0), (2, .vptr H.length 0), (3, .vptr S 0), (6, .i N4), (7, .i u.1)], u.2.2.2.2⟩)
      (fun u => u.1 ≤ N4 ∧ u.2.1.length = u.1 ∧ CL G4 u.2.2.2.2 q S u.2.2.2.1 u.2.2.1 [.i v1, .list (xs3.map avBnd), .sl u.2.2.2.1 2 0 u.2.1.length] 245 2 (u.2.1.map avStt) ∧ u.2.2.1.s.length ≤ 1000000000 ∧ R5 = (u.2.1 ++ (loopD How.stt (N4 - u.1) u.2.2.1).1, (loopD How.stt (N4 - u.1) u.2.2.1).2)) (fun u => N4 - u.1) ?_
      (0, [], d4, G4.length, (G4 ++ [AObj.arr 245 2 []]).set S (.vars [.i v1, .list (xs3.map avBnd), .sl G4.length 2 0 0])) ⟨Nat.zero_le _, rfl, CL.start k4 c4 hSq _ _ _, hs4, by simpa using hR5.symm⟩
    rintro ⟨j5, xs5, D5, p5, L5⟩ ⟨i15, i25, cl5, i35, i45⟩ ih5
    simp only at i15 i25 cl5 i35 i45 ih5 ⊢
    have rd5 : L5[q]? = some (.vars [.str D5.s, .i D5.e]) := cl5.rd
    repeat first|((first|refine qa tOk rfl ?_|refine qb tOk rfl ?_|refine qc ?_|refine qd ?_|refine qe ?_);simp [rd5])|refine AWP_block ?_|refine AWP_seq ?_
    by_cases hje5 : j5 < N4 ∧ D5.e = 0
    rotate_left
    · refine AWP_cond2 rfl (fun h => by exfalso; apply hje5; simpa using h) (fun _ => ?_)
      have hr5 := loopD_end How.stt i45 (by omega)
      rw [hr5] at hR
      refine AWP_freezeC p5 cl5.arr S cl5.cell ?_
      simp
      try rw [List.take_of_length_le (by simp)]
      obtain ⟨ke5, ce5, fe5⟩ := cl5.fin [.i v1, .list (xs3.map avBnd), .list (xs5.map avStt)]
      generalize (L5.set p5 .dead).set S (.vars [.i v1, .list (xs3.map avBnd), .list (xs5.map avStt)]) = E5 at *
      have e5 := e4.over fe5 hHS
      have r5 := fe5.kp r4 hrq hrS
      have rr : ∀ z, (E5.set H.length z)[H.length]? = some z := fun z => get_self r5 z
      repeat first|((first|refine qa tOk rfl ?_|refine qb tOk rfl ?_|refine qc ?_|refine qd ?_|refine qe ?_);simp [ce5, r5, rr])|refine AWP_block ?_|refine AWP_seq ?_
      rw [← hR]
      exact ⟨rfl, get_set hrq ke5 _, fr_setc' e5 (Nat.le_refl _) _⟩
    obtain ⟨hj5, he5⟩ := hje5
    refine AWP_cond2 rfl (fun _ => ?_) (fun h => by simp [hj5, he5] at h)
    have hw5 : IntKind.i64.wrap ((j5 : Int) + 1) = j5 + 1 := wrap_i64 _ (by omega) (by omega)
    have sp5 := loopD_step How.stt i45 hj5 he5
    have hx5 : xs5.length ≤ 4096 := by omega
    rw [stt_eq] at sp5
    repeat first|((first|refine qa tOk rfl ?_|refine qb tOk rfl ?_|refine qc ?_|refine qd ?_|refine qe ?_);simp)|refine AWP_block ?_|refine AWP_seq ?_
    have cc5 := cl5.cell
    refine AWP_drawT tOk mixed [3, 5, 8, 10] (.val 0 (.val 2 (.val 4 (.two 1 (.one 3 (.one 5 (.val 6 (.one 7 (.one 8 (.val 9 (.one 10 (.done)))))))) 3 (.two 1 (.one 5 (.val 6 (.one 7 (.one 8 (.val 9 (.one 10 (.done))))))) 5 (.val 1 (.val 6 (.one 7 (.one 8 (.val 9 (.one 10 (.done)))))))))))) rfl (by kernel_rfl) ?_
    simp [cc5]
    refine ⟨?_, ?_⟩
    · refine AStep_FC rfl rfl (fc_rtake L5 q D5 cl5.rd i35) rfl ?_
      rintro _ G50 ⟨rfl, kk, ff⟩
      have cl50 := cl5.call kk ff
      have cc50 := cl50.cell
      have hs50 := Nat.le_trans (shr_pI D5) i35
      generalize (pI D5).1 = w50 at *
      generalize (pI D5).2 = d50 at *
      simp [cc50]
      refine AStep_FC rfl rfl (fc_rtake G50 q d50 cl50.rd hs50) rfl ?_
      rintro _ G51 ⟨rfl, kk, ff⟩
      have cl51 := cl50.call kk ff
      have cc51 := cl51.cell
      have hs51 := Nat.le_trans (shr_pI d50) hs50
      generalize (pI d50).1 = w51 at *
      generalize (pI d50).2 = d51 at *
      simp [cc51]
      have bq : ∀ A : AObj, (G51 ++ [A])[p5]? = some (.arr 245 2 (xs5.map avStt)) := fun A => get_app cl51.arr _
      have bc : ∀ A B : AObj, ((G51 ++ [A]).set p5 .dead ++ [B])[S]? = some (.vars [.i v1, .list (xs3.map avBnd), .sl p5 2 0 xs5.length]) := fun A B => cl51.cell' A B
      refine AStep_appendS tOk rfl rfl T146 rfl T245 rfl (by decide) (by decide) rfl rfl rfl ?_
      simp [bq, hx5]
      refine ⟨by simp [appOk, bq, hx5] <;> omega, ?_⟩
      simp [bc]
      repeat first|((first|refine qa tOk rfl ?_|refine qb tOk rfl ?_|refine qc ?_|refine qd ?_|refine qe ?_);simp [bc, hw5])|refine AWP_block ?_|refine AWP_seq ?_
      have key := ih5 (j5 + 1, xs5 ++ [(⟨w50, w51⟩ : Stt)], d51, G51.length + 1, _) ⟨by simp only; omega, by simp [i25], cl51.put (AObj.arr 245 2 [avStt (⟨w50, w51⟩ : Stt)]) [.i v1, .list (xs3.map avBnd), .sl (G51.length + 1) 2 0 (xs5 ++ [(⟨w50, w51⟩ : Stt)]).length] ((xs5 ++ [(⟨w50, w51⟩ : Stt)]).map avStt), hs51, sp5⟩ (by simp only; omega)
      simp at key
      exact ALoop_keep key (by simp)
    · refine AStep_FC rfl rfl (fc_rtake L5 q D5 cl5.rd i35) rfl ?_
      rintro _ G50 ⟨rfl, kk, ff⟩
      have cl50 := cl5.call kk ff
      have cc50 := cl50.cell
      have hs50 := Nat.le_trans (shr_pI D5) i35
      generalize (pI D5).1 = w50 at *
      generalize (pI D5).2 = d50 at *
      simp [cc50]
      refine ⟨?_, ?_⟩
      · refine AStep_FC rfl rfl (fc_rtake G50 q d50 cl50.rd hs50) rfl ?_
        rintro _ G51 ⟨rfl, kk, ff⟩
        have cl51 := cl50.call kk ff
        have cc51 := cl51.cell
        have hs51 := Nat.le_trans (shr_pI d50) hs50
        generalize (pI d50).1 = w51 at *
        generalize (pI d50).2 = d51 at *
        simp [cc51]
        have bq : ∀ A : AObj, (G51 ++ [A])[p5]? = some (.arr 245 2 (xs5.map avStt)) := fun A => get_app cl51.arr _
        have bc : ∀ A B : AObj, ((G51 ++ [A]).set p5 .dead ++ [B])[S]? = some (.vars [.i v1, .list (xs3.map avBnd), .sl p5 2 0 xs5.length]) := fun A B => cl51.cell' A B
        refine AStep_appendS tOk rfl rfl T146 rfl T245 rfl (by decide) (by decide) rfl rfl rfl ?_
        simp [bq, hx5]
        refine ⟨by simp [appOk, bq, hx5] <;> omega, ?_⟩
        simp [bc]
        repeat first|((first|refine qa tOk rfl ?_|refine qb tOk rfl ?_|refine qc ?_|refine qd ?_|refine qe ?_);simp [bc, hw5])|refine AWP_block ?_|refine AWP_seq ?_
        have key := ih5 (j5 + 1, xs5 ++ [(⟨w50, w51⟩ : Stt)], d51, G51.length + 1, _) ⟨by simp only; omega, by simp [i25], cl51.put (AObj.arr 245 2 [avStt (⟨w50, w51⟩ : Stt)]) [.i v1, .list (xs3.map avBnd), .sl (G51.length + 1) 2 0 (xs5 ++ [(⟨w50, w51⟩ : Stt)]).length] ((xs5 ++ [(⟨w50, w51⟩ : Stt)]).map avStt), hs51, sp5⟩ (by simp only; omega)
        simp at key
        exact ALoop_keep key (by simp)
      · refine AStep_FC rfl rfl (fc_rtake G50 q d50 cl50.rd hs50) rfl ?_
        rintro _ G51 ⟨rfl, kk, ff⟩
        have cl51 := cl50.call kk ff
        have cc51 := cl51.cell
        have hs51 := Nat.le_trans (shr_pI d50) hs50
        generalize (pI d50).1 = w51 at *
        generalize (pI d50).2 = d51 at *
        simp [cc51]
        have bq : ∀ A : AObj, (G51 ++ [A])[p5]? = some (.arr 245 2 (xs5.map avStt)) := fun A => get_app cl51.arr _
        have bc : ∀ A B : AObj, ((G51 ++ [A]).set p5 .dead ++ [B])[S]? = some (.vars [.i v1, .list (xs3.map avBnd), .sl p5 2 0 xs5.length]) := fun A B => cl51.cell' A B
        refine AStep_appendS tOk rfl rfl T146 rfl T245 rfl (by decide) (by decide) rfl rfl rfl ?_
        simp [bq, hx5]
        refine ⟨by simp [appOk, bq, hx5] <;> omega, ?_⟩
        simp [bc]
        repeat first|((first|refine qa tOk rfl ?_|refine qb tOk rfl ?_|refine qc ?_|refine qd ?_|refine qe ?_);simp [bc, hw5])|refine AWP_block ?_|refine AWP_seq ?_
        have key := ih5 (j5 + 1, xs5 ++ [(⟨w50, w51⟩ : Stt)], d51, G51.length + 1, _) ⟨by simp only; omega, by simp [i25], cl51.put (AObj.arr 245 2 [avStt (⟨w50, w51⟩ : Stt)]) [.i v1, .list (xs3.map avBnd), .sl (G51.length + 1) 2 0 (xs5 ++ [(⟨w50, w51⟩ : Stt)]).length] ((xs5 ++ [(⟨w50, w51⟩ : Stt)]).map avStt), hs51, sp5⟩ (by simp only; omega)
        simp at key
        exact ALoop_keep key (by simp)
  obtain ⟨hj3, he3⟩ := hje3
  refine AWP_cond2 rfl (fun _ => ?_) (fun h => by simp [hj3, he3] at h)
  have hw3 : IntKind.i64.wrap ((j3 : Int) + 1) = j3 + 1 := wrap_i64 _ (by omega) (by omega)
  have sp3 := loopD_step How.bnd i43 hj3 he3
  have hx3 : xs3.length ≤ 4096 := by omega
  rw [bnd_eq] at sp3
  repeat first|((first|refine qa tOk rfl ?_|refine qb tOk rfl ?_|refine qc ?_|refine qd ?_|refine qe ?_);simp)|refine AWP_block ?_|refine AWP_seq ?_
  have cc3 := cl3.cell
  refine AWP_drawT tOk mixed [3, 5, 8, 10] (.val 0 (.val 2 (.val 4 (.two 1 (.one 3 (.one 5 (.val 6 (.one 7 (.one 8 (.val 9 (.one 10 (.done)))))))) 3 (.two 1 (.one 5 (.val 6 (.one 7 (.one 8 (.val 9 (.one 10 (.done))))))) 5 (.val 1 (.val 6 (.one 7 (.one 8 (.val 9 (.one 10 (.done)))))))))))) rfl (by kernel_rfl) ?_
  simp [cc3]
  refine ⟨?_, ?_⟩
  · refine AStep_FC rfl rfl (fc_rtake L3 q D3 cl3.rd i33) rfl ?_
    rintro _ G30 ⟨rfl, kk, ff⟩
    have cl30 := cl3.call kk ff
    have cc30 := cl30.cell
    have hs30 := Nat.le_trans (shr_pI D3) i33
    generalize (pI D3).1 = w30 at *
    generalize (pI D3).2 = d30 at *
    simp [cc30]
    refine AStep_FC rfl rfl (fc_rtakeRef2 G30 q d30 cl30.rd hs30) rfl ?_
    rintro _ G31 ⟨rfl, kk, ff⟩
    have cl31 := cl30.call kk ff
    have cc31 := cl31.cell
    have hs31 := Nat.le_trans (shr_rRef d30) hs30
    generalize (rRef d30).1 = w31 at *
    generalize (rRef d30).2 = d31 at *
    simp [cc31]
    have bq : ∀ A : AObj, (G31 ++ [A])[p3]? = some (.arr 243 4 (xs3.map avBnd)) := fun A => get_app cl31.arr _
    have bc : ∀ A B : AObj, ((G31 ++ [A]).set p3 .dead ++ [B])[S]? = some (.vars [.i v1, .sl p3 4 0 xs3.length, .nils]) := fun A B => cl31.cell' A B
    refine AStep_appendS tOk rfl rfl T145 rfl T243 rfl (by decide) (by decide) rfl rfl rfl ?_
    simp [bq, hx3]
    refine ⟨by simp [appOk, bq, hx3] <;> omega, ?_⟩
    simp [bc]
    repeat first|((first|refine qa tOk rfl ?_|refine qb tOk rfl ?_|refine qc ?_|refine qd ?_|refine qe ?_);simp [bc, hw3])|refine AWP_block ?_|refine AWP_seq ?_
    have key := ih3 (j3 + 1, xs3 ++ [(⟨w30, w31⟩ : Bnd)], d31, G31.length + 1, _) ⟨by simp only; omega, by simp [i23], cl31.put (AObj.arr 243 4 [avBnd (⟨w30, w31⟩ : Bnd)]) [.i v1, .sl (G31.length + 1) 4 0 (xs3 ++ [(⟨w30, w31⟩ : Bnd)]).length, .nils] ((xs3 ++ [(⟨w30, w31⟩ : Bnd)]).map avBnd), hs31, sp3⟩ (by simp only; omega)
    simp at key
    exact ALoop_keep key (by simp)
  · refine AStep_FC rfl rfl (fc_rtake L3 q D3 cl3.rd i33) rfl ?_
    rintro _ G30 ⟨rfl, kk, ff⟩
    have cl30 := cl3.call kk ff
    have cc30 := cl30.cell
    have hs30 := Nat.le_trans (shr_pI D3) i33
    generalize (pI D3).1 = w30 at *
    generalize (pI D3).2 = d30 at *
    simp [cc30]
    refine ⟨?_, ?_⟩
    · refine AStep_FC rfl rfl (fc_rtakeRef2 G30 q d30 cl30.rd hs30) rfl ?_
      rintro _ G31 ⟨rfl, kk, ff⟩
      have cl31 := cl30.call kk ff
      have cc31 := cl31.cell
      have hs31 := Nat.le_trans (shr_rRef d30) hs30
      generalize (rRef d30).1 = w31 at *
      generalize (rRef d30).2 = d31 at *
      simp [cc31]
      have bq : ∀ A : AObj, (G31 ++ [A])[p3]? = some (.arr 243 4 (xs3.map avBnd)) := fun A => get_app cl31.arr _
      have bc : ∀ A B : AObj, ((G31 ++ [A]).set p3 .dead ++ [B])[S]? = some (.vars [.i v1, .sl p3 4 0 xs3.length, .nils]) := fun A B => cl31.cell' A B
      refine AStep_appendS tOk rfl rfl T145 rfl T243 rfl (by decide) (by decide) rfl rfl rfl ?_
      simp [bq, hx3]
      refine ⟨by simp [appOk, bq, hx3] <;> omega, ?_⟩
      simp [bc]
      repeat first|((first|refine qa tOk rfl ?_|refine qb tOk rfl ?_|refine qc ?_|refine qd ?_|refine qe ?_);simp [bc, hw3])|refine AWP_block ?_|refine AWP_seq ?_
      have key := ih3 (j3 + 1, xs3 ++ [(⟨w30, w31⟩ : Bnd)], d31, G31.length + 1, _) ⟨by simp only; omega, by simp [i23], cl31.put (AObj.arr 243 4 [avBnd (⟨w30, w31⟩ : Bnd)]) [.i v1, .sl (G31.length + 1) 4 0 (xs3 ++ [(⟨w30, w31⟩ : Bnd)]).length, .nils] ((xs3 ++ [(⟨w30, w31⟩ : Bnd)]).map avBnd), hs31, sp3⟩ (by simp only; omega)
      simp at key
      exact ALoop_keep key (by simp)
    · refine AStep_FC rfl rfl (fc_rtakeRef2 G30 q d30 cl30.rd hs30) rfl ?_
      rintro _ G31 ⟨rfl, kk, ff⟩
      have cl31 := cl30.call kk ff
      have cc31 := cl31.cell
      have hs31 := Nat.le_trans (shr_rRef d30) hs30
      generalize (rRef d30).1 = w31 at *
      generalize (rRef d30).2 = d31 at *
      simp [cc31]
      have bq : ∀ A : AObj, (G31 ++ [A])[p3]? = some (.arr 243 4 (xs3.map avBnd)) := fun A => get_app cl31.arr _
      have bc : ∀ A B : AObj, ((G31 ++ [A]).set p3 .dead ++ [B])[S]? = some (.vars [.i v1, .sl p3 4 0 xs3.length, .nils]) := fun A B => cl31.cell' A B
      refine AStep_appendS tOk rfl rfl T145 rfl T243 rfl (by decide) (by decide) rfl rfl rfl ?_
      simp [bq, hx3]
      refine ⟨by simp [appOk, bq, hx3] <;> omega, ?_⟩
      simp [bc]
      repeat first|((first|refine qa tOk rfl ?_|refine qb tOk rfl ?_|refine qc ?_|refine qd ?_|refine qe ?_);simp [bc, hw3])|refine AWP_block ?_|refine AWP_seq ?_
      have key := ih3 (j3 + 1, xs3 ++ [(⟨w30, w31⟩ : Bnd)], d31, G31.length + 1, _) ⟨by simp only; omega, by simp [i23], cl31.put (AObj.arr 243 4 [avBnd (⟨w30, w31⟩ : Bnd)]) [.i v1, .sl (G31.length + 1) 4 0 (xs3 ++ [(⟨w30, w31⟩ : Bnd)]).length, .nils] ((xs3 ++ [(⟨w30, w31⟩ : Bnd)]).map avBnd), hs31, sp3⟩ (by simp only; omega)
      simp at key
      exact ALoop_keep key (by simp)
set_option maxHeartbeats 8000000 in
theorem fc_rtakeTracker (H : List AObj) (q : Nat) (d : Dc) (hd : H[q]? = some (dX d)) (hs : d.s.length ≤ 1000000000) : FC Tryz.prog 123 [.vptr q 0] H (DP H q (avTrk (rH.trk d).1) (rH.trk d).2) := by
  refine FC_body tOk Tryz.func123 rfl Tryz.results123 rfl (by simp [Tryz.ntmps123]) ?_
  rw [Tryz.ntmps123]
  simp only [argSlots]
  obtain ⟨R, hR⟩ : ∃ R, rH.trk d = R := ⟨_, rfl⟩
  rw [hR]
  simp only [How.trk, bd, rH_L, rH_V, rtn] at hR
  have hql := get_lt hd
  have hrq : H.length ≠ q := by omega
  repeat first|((first|refine qa tOk rfl ?_|refine qb tOk rfl ?_|refine qc ?_|refine qd ?_|refine qe ?_);simp)|refine AWP_block ?_|refine AWP_seq ?_
  refine AStep_FC rfl rfl (fc_rtake _ q d (get_app hd _) hs) rfl ?_
  rintro _ G1 ⟨rfl, k1, f1⟩
  have hs1 := Nat.le_trans (shr_pI d) hs
  generalize (pI d).1 = v1 at *
  generalize (pI d).2 = d1 at *
  simp
  have r1 := f1.kd (j := H.length) (x := .vars [.i 0, .nils, .nils, .i 0]) (by simp) hrq
  have e1 : Fr H G1 q none none := (Fr.app H _ q).trans f1
  have hl1 := f1.1
  simp at hl1
  repeat first|((first|refine qa tOk rfl ?_|refine qb tOk rfl ?_|refine qc ?_|refine qd ?_|refine qe ?_);simp)|refine AWP_block ?_|refine AWP_seq ?_
  refine AStep_FC rfl rfl (fc_rtakeIntegers G1 q d1 k1 hs1) rfl ?_
  rintro _ G2 ⟨rfl, k2, f2⟩
  have r2 := f2.kd r1 hrq
  have hs2 := Nat.le_trans (Shr.rlist shr_pI d1) hs1
  generalize (rL pI d1).1 = v2 at *
  generalize (rL pI d1).2 = d2 at *
  simp
  have hl2 := Nat.le_trans hl1 f2.1
  have e2 := e1.trans f2
  repeat first|((first|refine qa tOk rfl ?_|refine qb tOk rfl ?_|refine qc ?_|refine qd ?_|refine qe ?_);simp)|refine AWP_block ?_|refine AWP_seq ?_
  have sV : (G2 ++ [AObj.vars [.i v1, .list (v2.map encI), .nils, .i 0]])[G2.length]? = some (.vars [.i v1, .list (v2.map encI), .nils, .i 0]) := by simp
  have hq2 := get_lt k2
  have hSq : G2.length ≠ q := by omega
  refine AStep_FC rfl rfl (fc_rcount _ q d2 (get_app k2 _) hs2) rfl ?_
  rintro _ G3 ⟨rfl, k3, f3⟩
  have c3 := f3.kd sV hSq
  have r3 := f3.kd (get_app r2 _) hrq
  have hs3 := Nat.le_trans (shr_rCount d2) hs2
  obtain ⟨N3, hN3, hM3⟩ := rCount_nat d2
  rw [rL_eq (How.pnt)] at hR
  rw [hN3] at hR ⊢
  simp only [Int.toNat_natCast] at hR
  generalize (rCount d2).2 = d3 at *
  simp
  have e3 := (fr_push e2 (AObj.vars [.i v1, .list (v2.map encI), .nils, .i 0])).trans f3
  have hl3 := get_lt c3
  have hq3 := get_lt k3
  generalize G2.length = S at *
  have hrS : H.length ≠ S := by omega
  have hHS : H.length ≤ S := by omega
  repeat first|((first|refine qa tOk rfl ?_|refine qb tOk rfl ?_|refine qc ?_|refine qd ?_|refine qe ?_);simp)|refine AWP_block ?_|refine AWP_seq ?_
  obtain ⟨R4, hR4⟩ : ∃ R4, loopD How.pnt N3 d3 = R4 := ⟨_, rfl⟩
  rw [hR4] at hR
  refine AWP_nilCell S 2 143 2 c3 rfl ?_
  simp
  refine AWP_loop (ALoop_keep (sl' := [(0, .vptr q 0), (2, .vptr H.length 0), (3, .vptr S 0), (4, .i N3), (5, .i 0)]) ?_ (by simp))
  refine ALoop_wf (P := Tryz.prog) (F := fun (u : Nat × List Pnt × Dc × Nat × List AObj) => ⟨[(0, .vptr q 0), (2, .vptr H.length 0), (3, .vptr S 0), (4, .i N3), (5, .i u.1)], u.2.2.2.2⟩)
    (fun u => u.1 ≤ N3 ∧ u.2.1.length = u.1 ∧ CL G3 u.2.2.2.2 q S u.2.2.2.1 u.2.2.1 [.i v1, .list (v2.map encI), .sl u.2.2.2.1 2 0 u.2.1.length, .i 0] 143 2 (u.2.1.map avPnt) ∧ u.2.2.1.s.length ≤ 1000000000 ∧ R4 = (u.2.1 ++ (loopD How.pnt (N3 - u.1) u.2.2.1).1, (loopD How.pnt (N3 - u.1) u.2.2.1).2)) (fun u => N3 - u.1) ?_
    (0, [], d3, G3.length, (G3 ++ [AObj.arr 143 2 []]).set S (.vars [.i v1, .list (v2.map encI), .sl G3.length 2 0 0, .i 0])) ⟨Nat.zero_le _, rfl, CL.start k3 c3 hSq _ _ _, hs3, by simpa using hR4.symm⟩
  rintro ⟨j4, xs4, D4, p4, L4⟩ ⟨i14, i24, cl4, i34, i44⟩ ih4
  simp only at i14 i24 cl4 i34 i44 ih4 ⊢
  have rd4 : L4[q]? = some (.vars [.str D4.s, .i D4.e]) := cl4.rd
  repeat first|((first|refine qa tOk rfl ?_|refine qb tOk rfl ?_|refine qc ?_|refine qd ?_|refine qe ?_);simp [rd4])|refine AWP_block ?_|refine AWP_seq ?_
  by_cases hje4 : j4 < N3 ∧ D4.e = 0
  rotate_left
  · refine AWP_cond2 rfl (fun h => by exfalso; apply hje4; simpa using h) (fun _ => ?_)
    have hr4 := loopD_end How.pnt i44 (by omega)
    rw [hr4] at hR
    refine AWP_freezeC p4 cl4.arr S cl4.cell ?_
    simp
    try rw [List.take_of_length_le (by simp)]
    obtain ⟨ke4, ce4, fe4⟩ := cl4.fin [.i v1, .list (v2.map encI), .list (xs4.map avPnt), .i 0]
    generalize (L4.set p4 .dead).set S (.vars [.i v1, .list (v2.map encI), .list (xs4.map avPnt), .i 0]) = E4 at *
    have e4 := e3.over fe4 hHS
    have r4 := fe4.kp r3 hrq hrS
    repeat first|((first|refine qa tOk rfl ?_|refine qb tOk rfl ?_|refine qc ?_|refine qd ?_|refine qe ?_);simp)|refine AWP_block ?_|refine AWP_seq ?_
    refine AStep_FC rfl rfl (fc_rtake E4 q D4 ke4 i34) rfl ?_
    rintro _ G5 ⟨rfl, k5, f5⟩
    have c5 := f5.kd ce4 hSq
    have r5 := f5.kd r4 hrq
    have hs5 := Nat.le_trans (shr_pI D4) i34
    generalize (pI D4).1 = v5 at *
    generalize (pI D4).2 = d5 at *
    have e5 := e4.trans f5
    have sc : ∀ z, (G5.set S z)[S]? = some z := fun z => get_self c5 z
    have rc : ∀ z, (G5.set S z)[H.length]? = some (.vars [.i 0, .nils, .nils, .i 0]) := fun z => get_set (Ne.symm hrS) r5 z
    have rr : ∀ z y, ((G5.set S z).set H.length y)[H.length]? = some y := fun z y => get_self (rc z) y
    simp [c5, sc, rc, rr]
    repeat first|((first|refine qa tOk rfl ?_|refine qb tOk rfl ?_|refine qc ?_|refine qd ?_|refine qe ?_);simp [c5, sc, rc, rr])|refine AWP_block ?_|refine AWP_seq ?_
    rw [← hR]
    exact ⟨rfl, get_set hrq (get_set hSq k5 _) _, fr_setc' (fr_setc' e5 hHS _) (Nat.le_refl _) _⟩
  obtain ⟨hj4, he4⟩ := hje4
  refine AWP_cond2 rfl (fun _ => ?_) (fun h => by simp [hj4, he4] at h)
  have hw4 : IntKind.i64.wrap ((j4 : Int) + 1) = j4 + 1 := wrap_i64 _ (by omega) (by omega)
  have sp4 := loopD_step How.pnt i44 hj4 he4
  have hx4 : xs4.length ≤ 4096 := by omega
  rw [pnt_eq] at sp4
  repeat first|((first|refine qa tOk rfl ?_|refine qb tOk rfl ?_|refine qc ?_|refine qd ?_|refine qe ?_);simp)|refine AWP_block ?_|refine AWP_seq ?_
  have cc4 := cl4.cell
  refine AWP_drawT tOk mixed [3, 5, 8, 10] (.val 0 (.val 2 (.val 4 (.two 1 (.one 3 (.one 5 (.val 6 (.one 7 (.one 8 (.val 9 (.one 10 (.done)))))))) 3 (.two 1 (.one 5 (.val 6 (.one 7 (.one 8 (.val 9 (.one 10 (.done))))))) 5 (.val 1 (.val 6 (.one 7 (.one 8 (.val 9 (.one 10 (.done)))))))))))) rfl (by kernel_rfl) ?_
  simp [cc4]
  refine ⟨?_, ?_⟩
  · refine AStep_FC rfl rfl (fc_rtake L4 q D4 cl4.rd i34) rfl ?_
    rintro _ G40 ⟨rfl, kk, ff⟩
    have cl40 := cl4.call kk ff
    have cc40 := cl40.cell
    have hs40 := Nat.le_trans (shr_pI D4) i34
    generalize (pI D4).1 = w40 at *
    generalize (pI D4).2 = d40 at *
    simp [cc40]
    refine AStep_FC rfl rfl (fc_rtake G40 q d40 cl40.rd hs40) rfl ?_
    rintro _ G41 ⟨rfl, kk, ff⟩
    have cl41 := cl40.call kk ff
    have cc41 := cl41.cell
    have hs41 := Nat.le_trans (shr_pI d40) hs40
    generalize (pI d40).1 = w41 at *
    generalize (pI d40).2 = d41 at *
    simp [cc41]
    have bq : ∀ A : AObj, (G41 ++ [A])[p4]? = some (.arr 143 2 (xs4.map avPnt)) := fun A => get_app cl41.arr _
    have bc : ∀ A B : AObj, ((G41 ++ [A]).set p4 .dead ++ [B])[S]? = some (.vars [.i v1, .list (v2.map encI), .sl p4 2 0 xs4.length, .i 0]) := fun A B => cl41.cell' A B
    refine AStep_appendS tOk rfl rfl T84 rfl T143 rfl (by decide) (by decide) rfl rfl rfl ?_
    simp [bq, hx4]
    refine ⟨by simp [appOk, bq, hx4] <;> omega, ?_⟩
    simp [bc]
    repeat first|((first|refine qa tOk rfl ?_|refine qb tOk rfl ?_|refine qc ?_|refine qd ?_|refine qe ?_);simp [bc, hw4])|refine AWP_block ?_|refine AWP_seq ?_
    have key := ih4 (j4 + 1, xs4 ++ [(⟨w40, w41⟩ : Pnt)], d41, G41.length + 1, _) ⟨by simp only; omega, by simp [i24], cl41.put (AObj.arr 143 2 [avPnt (⟨w40, w41⟩ : Pnt)]) [.i v1, .list (v2.map encI), .sl (G41.length + 1) 2 0 (xs4 ++ [(⟨w40, w41⟩ : Pnt)]).length, .i 0] ((xs4 ++ [(⟨w40, w41⟩ : Pnt)]).map avPnt), hs41, sp4⟩ (by simp only; omega)
    simp at key
    exact ALoop_keep key (by simp)
  · refine AStep_FC rfl rfl (fc_rtake L4 q D4 cl4.rd i34) rfl ?_
    rintro _ G40 ⟨rfl, kk, ff⟩
    have cl40 := cl4.call kk ff
    have cc40 := cl40.cell
    have hs40 := Nat.le_trans (shr_pI D4) i34
    generalize (pI D4).1 = w40 at *
    generalize (pI D4).2 = d40 at *
    simp [cc40]
    refine ⟨?_, ?_⟩
    · refine AStep_FC rfl rfl (fc_rtake G40 q d40 cl40.rd hs40) rfl ?_
      rintro _ G41 ⟨rfl, kk, ff⟩
      have cl41 := cl40.call kk ff
      have cc41 := cl41.cell
      have hs41 := Nat.le_trans (shr_pI d40) hs40
      generalize (pI d40).1 = w41 at *
      generalize (pI d40).2 = d41 at *
      simp [cc41]
      have bq : ∀ A : AObj, (G41 ++ [A])[p4]? = some (.arr 143 2 (xs4.map avPnt)) := fun A => get_app cl41.arr _
      have bc : ∀ A B : AObj, ((G41 ++ [A]).set p4 .dead ++ [B])[S]? = some (.vars [.i v1, .list (v2.map encI), .sl p4 2 0 xs4.length, .i 0]) := fun A B => cl41.cell' A B
      refine AStep_appendS tOk rfl rfl T84 rfl T143 rfl (by decide) (by decide) rfl rfl rfl ?_
      simp [bq, hx4]
      refine ⟨by simp [appOk, bq, hx4] <;> omega, ?_⟩
      simp [bc]
      repeat first|((first|refine qa tOk rfl ?_|refine qb tOk rfl ?_|refine qc ?_|refine qd ?_|refine qe ?_);simp [bc, hw4])|refine AWP_block ?_|refine AWP_seq ?_
      have key := ih4 (j4 + 1, xs4 ++ [(⟨w40, w41⟩ : Pnt)], d41, G41.length + 1, _) ⟨by simp only; omega, by simp [i24], cl41.put (AObj.arr 143 2 [avPnt (⟨w40, w41⟩ : Pnt)]) [.i v1, .list (v2.map encI), .sl (G41.length + 1) 2 0 (xs4 ++ [(⟨w40, w41⟩ : Pnt)]).length, .i 0] ((xs4 ++ [(⟨w40, w41⟩ : Pnt)]).map avPnt), hs41, sp4⟩ (by simp only; omega)
      simp at key
      exact ALoop_keep key (by simp)
    · refine AStep_FC rfl rfl (fc_rtake G40 q d40 cl40.rd hs40) rfl ?_
      rintro _ G41 ⟨rfl, kk, ff⟩
      have cl41 := cl40.call kk ff
      have cc41 := cl41.cell
      have hs41 := Nat.le_trans (shr_pI d40) hs40
      generalize (pI d40).1 = w41 at *
      generalize (pI d40).2 = d41 at *
      simp [cc41]
      have bq : ∀ A : AObj, (G41 ++ [A])[p4]? = some (.arr 143 2 (xs4.map avPnt)) := fun A => get_app cl41.arr _
      have bc : ∀ A B : AObj, ((G41 ++ [A]).set p4 .dead ++ [B])[S]? = some (.vars [.i v1, .list (v2.map encI), .sl p4 2 0 xs4.length, .i 0]) := fun A B => cl41.cell' A B
      refine AStep_appendS tOk rfl rfl T84 rfl T143 rfl (by decide) (by decide) rfl rfl rfl ?_
      simp [bq, hx4]
      refine ⟨by simp [appOk, bq, hx4] <;> omega, ?_⟩
      simp [bc]
      repeat first|((first|refine qa tOk rfl ?_|refine qb tOk rfl ?_|refine qc ?_|refine qd ?_|refine qe ?_);simp [bc, hw4])|refine AWP_block ?_|refine AWP_seq ?_
      have key := ih4 (j4 + 1, xs4 ++ [(⟨w40, w41⟩ : Pnt)], d41, G41.length + 1, _) ⟨by simp only; omega, by simp [i24], cl41.put (AObj.arr 143 2 [avPnt (⟨w40, w41⟩ : Pnt)]) [.i v1, .list (v2.map encI), .sl (G41.length + 1) 2 0 (xs4 ++ [(⟨w40, w41⟩ : Pnt)]).length, .i 0] ((xs4 ++ [(⟨w40, w41⟩ : Pnt)]).map avPnt), hs41, sp4⟩ (by simp only; omega)
      simp at key
      exact ALoop_keep key (by simp)
set_option maxHeartbeats 8000000 in
theorem fc_rtakeEvents (H : List AObj) (q : Nat) (d : Dc) (hd : H[q]? = some (dX d)) (hs : d.s.length ≤ 1000000000) : FC Tryz.prog 173 [.vptr q 0] H (DP H q ((fun l => AV.list (l.map encE)) (rL rH.ev d).1) (rL rH.ev d).2) := by
  refine FC_body tOk Tryz.func173 rfl Tryz.results173 rfl (by simp [Tryz.ntmps173]) ?_
  rw [Tryz.ntmps173]
  simp only [argSlots]
  obtain ⟨R, hR⟩ : ∃ R, rL rH.ev d = R := ⟨_, rfl⟩
  rw [hR]
  simp only [rL, bd, rH_L, rH_V, rtn] at hR
  have hql := get_lt hd
  have hrq : H.length ≠ q := by omega
  repeat first|((first|refine qa tOk rfl ?_|refine qb tOk rfl ?_|refine qc ?_|refine qd ?_|refine qe ?_);simp)|refine AWP_block ?_|refine AWP_seq ?_
  refine AStep_FC rfl rfl (fc_rcount H q d hd hs) rfl ?_
  rintro _ G ⟨rfl, k1, f1⟩
  obtain ⟨N, hN, hN2⟩ := rCount_nat d
  have hs1 := Nat.le_trans (shr_rCount d) hs
  rw [hN] at hR ⊢
  generalize (rCount d).2 = d1 at *
  simp only [Int.toNat_natCast] at hR
  simp
  repeat first|((first|refine qa tOk rfl ?_|refine qb tOk rfl ?_|refine qc ?_|refine qd ?_|refine qe ?_);simp)|refine AWP_block ?_|refine AWP_seq ?_
  refine AWP_nilSlot 3 195 5 rfl ?_
  simp
  refine AWP_loop (ALoop_keep (sl' := [(0, .vptr q 0), (2, .nils), (3, .sl G.length 5 0 0), (4, .i N), (5, .i 0)]) ?_ (by simp))
  refine ALoop_wf (P := Tryz.prog) (F := fun (u : Nat × List Ev × Dc × Nat × List AObj) => ⟨[(0, .vptr q 0), (2, .nils), (3, .sl u.2.2.2.1 5 0 u.2.1.length), (4, .i N), (5, .i u.1)], u.2.2.2.2⟩)
    (fun u => u.1 ≤ N ∧ u.2.1.length = u.1 ∧ u.2.2.2.2[q]? = some (dX u.2.2.1) ∧ u.2.2.2.2[u.2.2.2.1]? = some (.arr 195 5 (u.2.1.map encE)) ∧ u.2.2.2.1 ≠ q ∧ H.length ≤ u.2.2.2.1 ∧ Fr H u.2.2.2.2 q none none ∧ u.2.2.1.s.length ≤ 1000000000 ∧ R = (u.2.1 ++ (loopD rH.ev (N - u.1) u.2.2.1).1, (loopD rH.ev (N - u.1) u.2.2.1).2)) (fun u => N - u.1) ?_
    (0, [], d1, G.length, G ++ [.arr 195 5 []]) ⟨Nat.zero_le _, rfl, get_app k1 _, by simp, by have := get_lt k1; simp only; omega, f1.1, fr_push f1 _, by simp only; omega, by simpa using hR.symm⟩
  rintro ⟨j, xs, dj, p, G1⟩ ⟨g1, g2, g3, g4, g5, g6, g7, g8, g9⟩ ih
  simp only at g1 g2 g3 g4 g5 g6 g7 g8 g9 ih ⊢
  have g3' : G1[q]? = some (.vars [.str dj.s, .i dj.e]) := g3
  repeat first|((first|refine qa tOk rfl ?_|refine qb tOk rfl ?_|refine qc ?_|refine qd ?_|refine qe ?_);simp [g3'])|refine AWP_block ?_|refine AWP_seq ?_
  by_cases hje : j < N ∧ dj.e = 0
  rotate_left
  · refine AWP_cond2 rfl (fun h => by exfalso; apply hje; simpa using h) (fun _ => ?_)
    have hr := loopD_end rH.ev g9 (by omega)
    refine AWP_freeze1 p g4 ?_
    simp
    try rw [List.take_of_length_le (by simp)]
    repeat first|((first|refine qa tOk rfl ?_|refine qb tOk rfl ?_|refine qc ?_|refine qd ?_|refine qe ?_);simp)|refine AWP_block ?_|refine AWP_seq ?_
    rw [hr]
    exact ⟨rfl, get_set g5 g3 _, fr_kill g7 g6⟩
  obtain ⟨hj, he⟩ := hje
  refine AWP_cond2 rfl (fun _ => ?_) (fun h => by simp [hj, he] at h)
  have hw1 : IntKind.i64.wrap ((j : Int) + 1) = j + 1 := wrap_i64 _ (by omega) (by omega)
  have g9' := loopD_step rH.ev g9 hj he
  rw [ev_eq] at g9'
  have hx : xs.length ≤ 4096 := by omega
  repeat first|((first|refine qa tOk rfl ?_|refine qb tOk rfl ?_|refine qc ?_|refine qd ?_|refine qe ?_);simp)|refine AWP_block ?_|refine AWP_seq ?_
  refine AStep_FC rfl rfl (fc_rtake G1 q dj g3 g8) rfl ?_
  rintro _ G2 ⟨rfl, k2, f2⟩
  have ar2 := f2.kd g4 g5
  have hs2 := Nat.le_trans (shr_pI dj) g8
  generalize (pI dj).1 = v2 at *
  generalize (pI dj).2 = d2 at *
  simp
  have fr2 := g7.trans f2
  repeat first|((first|refine qa tOk rfl ?_|refine qb tOk rfl ?_|refine qc ?_|refine qd ?_|refine qe ?_);simp)|refine AWP_block ?_|refine AWP_seq ?_
  refine AStep_FC rfl rfl (fc_rtake G2 q d2 k2 hs2) rfl ?_
  rintro _ G3 ⟨rfl, k3, f3⟩
  have ar3 := f3.kd ar2 g5
  have hs3 := Nat.le_trans (shr_pI d2) hs2
  generalize (pI d2).1 = v3 at *
  generalize (pI d2).2 = d3 at *
  simp
  have fr3 := fr2.trans f3
  repeat first|((first|refine qa tOk rfl ?_|refine qb tOk rfl ?_|refine qc ?_|refine qd ?_|refine qe ?_);simp)|refine AWP_block ?_|refine AWP_seq ?_
  refine AStep_FC rfl rfl (fc_rtake G3 q d3 k3 hs3) rfl ?_
  rintro _ G4 ⟨rfl, k4, f4⟩
  have ar4 := f4.kd ar3 g5
  have hs4 := Nat.le_trans (shr_pI d3) hs3
  generalize (pI d3).1 = v4 at *
  generalize (pI d3).2 = d4 at *
  simp
  have fr4 := fr3.trans f4
  repeat first|((first|refine qa tOk rfl ?_|refine qb tOk rfl ?_|refine qc ?_|refine qd ?_|refine qe ?_);simp)|refine AWP_block ?_|refine AWP_seq ?_
  refine AStep_FC rfl rfl (fc_rtake G4 q d4 k4 hs4) rfl ?_
  rintro _ G5 ⟨rfl, k5, f5⟩
  have ar5 := f5.kd ar4 g5
  have hs5 := Nat.le_trans (shr_pI d4) hs4
  generalize (pI d4).1 = v5 at *
  generalize (pI d4).2 = d5 at *
  simp
  have fr5 := fr4.trans f5
  repeat first|((first|refine qa tOk rfl ?_|refine qb tOk rfl ?_|refine qc ?_|refine qd ?_|refine qe ?_);simp)|refine AWP_block ?_|refine AWP_seq ?_
  have hpl := get_lt ar5
  have hql5 := get_lt k5
  have hSq : G5.length ≠ q := by omega
  have hpS : p ≠ G5.length := by omega
  have sV : (G5 ++ [AObj.vars [.i v2, .i v3, .i v4, .i v5, .nils]])[G5.length]? = some (.vars [.i v2, .i v3, .i v4, .i v5, .nils]) := by simp
  have hHS := fr5.1
  refine AStep_FC rfl rfl (fc_rcount _ q d5 (get_app k5 _) hs5) rfl ?_
  rintro _ G6 ⟨rfl, k6, f6⟩
  have c6 := f6.kd sV hSq
  have ar6 := f6.kd (get_app ar5 _) g5
  have hs6 := Nat.le_trans (shr_rCount d5) hs5
  obtain ⟨N6, hN6, hM6⟩ := rCount_nat d5
  rw [rL_eq (rVal)] at g9'
  rw [hN6] at g9' ⊢
  simp only [Int.toNat_natCast] at g9'
  generalize (rCount d5).2 = d6 at *
  simp
  have fr6 := (fr_push fr5 (AObj.vars [.i v2, .i v3, .i v4, .i v5, .nils])).trans f6
  have hpl6 := get_lt ar6
  generalize G5.length = S at *
  repeat first|((first|refine qa tOk rfl ?_|refine qb tOk rfl ?_|refine qc ?_|refine qd ?_|refine qe ?_);simp)|refine AWP_block ?_|refine AWP_seq ?_
  obtain ⟨R7, hR7⟩ : ∃ R7, loopD rVal N6 d6 = R7 := ⟨_, rfl⟩
  rw [hR7] at g9'
  refine AWP_nilCell S 4 94 3 c6 rfl ?_
  simp
  refine AWP_loop (ALoop_keep (sl' := [(0, .vptr q 0), (2, .nils), (3, .sl p 5 0 xs.length), (4, .i N), (5, .i j), (6, .vptr S 0), (7, .i N6), (8, .i 0)]) ?_ (by simp))
  refine ALoop_wf (P := Tryz.prog) (F := fun (u : Nat × List Val × Dc × Nat × List AObj) => ⟨[(0, .vptr q 0), (2, .nils), (3, .sl p 5 0 xs.length), (4, .i N), (5, .i j), (6, .vptr S 0), (7, .i N6), (8, .i u.1)], u.2.2.2.2⟩)
    (fun u => u.1 ≤ N6 ∧ u.2.1.length = u.1 ∧ CL G6 u.2.2.2.2 q S u.2.2.2.1 u.2.2.1 [.i v2, .i v3, .i v4, .i v5, .sl u.2.2.2.1 3 0 u.2.1.length] 94 3 (u.2.1.map encV) ∧ u.2.2.1.s.length ≤ 1000000000 ∧ R7 = (u.2.1 ++ (loopD rVal (N6 - u.1) u.2.2.1).1, (loopD rVal (N6 - u.1) u.2.2.1).2)) (fun u => N6 - u.1) ?_
    (0, [], d6, G6.length, (G6 ++ [AObj.arr 94 3 []]).set S (.vars [.i v2, .i v3, .i v4, .i v5, .sl G6.length 3 0 0])) ⟨Nat.zero_le _, rfl, CL.start k6 c6 hSq _ _ _, hs6, by simpa using hR7.symm⟩
  rintro ⟨j7, xs7, D7, p7, L7⟩ ⟨i17, i27, cl7, i37, i47⟩ ih7
  simp only at i17 i27 cl7 i37 i47 ih7 ⊢
  have rd7 : L7[q]? = some (.vars [.str D7.s, .i D7.e]) := cl7.rd
  repeat first|((first|refine qa tOk rfl ?_|refine qb tOk rfl ?_|refine qc ?_|refine qd ?_|refine qe ?_);simp [rd7])|refine AWP_block ?_|refine AWP_seq ?_
  by_cases hje7 : j7 < N6 ∧ D7.e = 0
  rotate_left
  · refine AWP_cond2 rfl (fun h => by exfalso; apply hje7; simpa using h) (fun _ => ?_)
    have hr7 := loopD_end rVal i47 (by omega)
    rw [hr7] at g9'
    refine AWP_freezeC p7 cl7.arr S cl7.cell ?_
    simp
    try rw [List.take_of_length_le (by simp)]
    obtain ⟨ke7, ce7, fe7⟩ := cl7.fin [.i v2, .i v3, .i v4, .i v5, .list (xs7.map encV)]
    generalize (L7.set p7 .dead).set S (.vars [.i v2, .i v3, .i v4, .i v5, .list (xs7.map encV)]) = E7 at *
    have ar7 := fe7.kp ar6 g5 hpS
    have fr7 := fr6.over fe7 hHS
    repeat first|((first|refine qa tOk rfl ?_|refine qb tOk rfl ?_|refine qc ?_|refine qd ?_|refine qe ?_);simp [ce7])|refine AWP_block ?_|refine AWP_seq ?_
    have b6 : ∀ A : AObj, (E7 ++ [A])[p]? = some (.arr 195 5 (xs.map encE)) := fun A => get_app ar7 _
    refine AStep_appendS tOk rfl rfl T95 rfl T195 rfl (by decide) (by decide) rfl rfl rfl ?_
    simp [b6, hx]
    refine ⟨by simp [appOk, b6, hx] <;> omega, ?_⟩
    repeat first|((first|refine qa tOk rfl ?_|refine qb tOk rfl ?_|refine qc ?_|refine qd ?_|refine qe ?_);simp [hw1])|refine AWP_block ?_|refine AWP_seq ?_
    have key := ih (j + 1, xs ++ [(⟨v2, v3, v4, v5, xs7⟩ : Ev)], D7, E7.length + 1, (E7 ++ [AObj.arr 195 5 [encE ⟨v2, v3, v4, v5, xs7⟩]]).set p .dead ++ [AObj.arr 195 5 ((xs ++ [(⟨v2, v3, v4, v5, xs7⟩ : Ev)]).map encE)])
      ⟨by simp only; omega, by simp [g2], get_app (get_set g5 (get_app ke7 _) _) _, get_new .., by have := get_lt ke7; simp only; omega, by have := fr7.1; simp only; omega, fr_put fr7 g6 _ _, i37, g9'⟩ (by simp only; omega)
    simp at key
    exact ALoop_keep key (by simp)
  obtain ⟨hj7, he7⟩ := hje7
  refine AWP_cond2 rfl (fun _ => ?_) (fun h => by simp [hj7, he7] at h)
  have hw7 : IntKind.i64.wrap ((j7 : Int) + 1) = j7 + 1 := wrap_i64 _ (by omega) (by omega)
  have sp7 := loopD_step rVal i47 hj7 he7
  have hx7 : xs7.length ≤ 4096 := by omega
  repeat first|((first|refine qa tOk rfl ?_|refine qb tOk rfl ?_|refine qc ?_|refine qd ?_|refine qe ?_);simp)|refine AWP_block ?_|refine AWP_seq ?_
  have cc7 := cl7.cell
  refine AWP_drawT tOk mixed [3, 5, 7] (.val 0 (.val 2 (.two 1 (.one 3 (.one 4 (.one 5 (.val 6 (.one 7 (.done)))))) 3 (.val 1 (.one 4 (.one 5 (.val 6 (.one 7 (.done))))))))) rfl (by kernel_rfl) ?_
  simp [cc7]
  refine ⟨?_, ?_⟩
  · refine AStep_FC rfl rfl (fc_rtakeValue L7 q D7 cl7.rd i37) rfl ?_
    rintro _ G70 ⟨rfl, kk, ff⟩
    have cl70 := cl7.call kk ff
    have cc70 := cl70.cell
    have hs70 := Nat.le_trans (shr_rVal D7) i37
    generalize (rVal D7).1 = w70 at *
    generalize (rVal D7).2 = d70 at *
    simp [cc70]
    have bq : ∀ A : AObj, (G70 ++ [A])[p7]? = some (.arr 94 3 (xs7.map encV)) := fun A => get_app cl70.arr _
    have bc : ∀ A B : AObj, ((G70 ++ [A]).set p7 .dead ++ [B])[S]? = some (.vars [.i v2, .i v3, .i v4, .i v5, .sl p7 3 0 xs7.length]) := fun A B => cl70.cell' A B
    refine AStep_appendS tOk rfl rfl T193 rfl T94 rfl (by decide) (by decide) rfl rfl rfl ?_
    simp [bq, hx7]
    refine ⟨by simp [appOk, bq, hx7] <;> omega, ?_⟩
    simp [bc]
    repeat first|((first|refine qa tOk rfl ?_|refine qb tOk rfl ?_|refine qc ?_|refine qd ?_|refine qe ?_);simp [bc, hw7])|refine AWP_block ?_|refine AWP_seq ?_
    have key := ih7 (j7 + 1, xs7 ++ [w70], d70, G70.length + 1, _) ⟨by simp only; omega, by simp [i27], cl70.put (AObj.arr 94 3 [encV w70]) [.i v2, .i v3, .i v4, .i v5, .sl (G70.length + 1) 3 0 (xs7 ++ [w70]).length] ((xs7 ++ [w70]).map encV), hs70, sp7⟩ (by simp only; omega)
    simp at key
    exact ALoop_keep key (by simp)
  · refine AStep_FC rfl rfl (fc_rtakeValue L7 q D7 cl7.rd i37) rfl ?_
    rintro _ G70 ⟨rfl, kk, ff⟩
    have cl70 := cl7.call kk ff
    have cc70 := cl70.cell
    have hs70 := Nat.le_trans (shr_rVal D7) i37
    generalize (rVal D7).1 = w70 at *
    generalize (rVal D7).2 = d70 at *
    simp [cc70]
    have bq : ∀ A : AObj, (G70 ++ [A])[p7]? = some (.arr 94 3 (xs7.map encV)) := fun A => get_app cl70.arr _
    have bc : ∀ A B : AObj, ((G70 ++ [A]).set p7 .dead ++ [B])[S]? = some (.vars [.i v2, .i v3, .i v4, .i v5, .sl p7 3 0 xs7.length]) := fun A B => cl70.cell' A B
    refine AStep_appendS tOk rfl rfl T193 rfl T94 rfl (by decide) (by decide) rfl rfl rfl ?_
    simp [bq, hx7]
    refine ⟨by simp [appOk, bq, hx7] <;> omega, ?_⟩
    simp [bc]
    repeat first|((first|refine qa tOk rfl ?_|refine qb tOk rfl ?_|refine qc ?_|refine qd ?_|refine qe ?_);simp [bc, hw7])|refine AWP_block ?_|refine AWP_seq ?_
    have key := ih7 (j7 + 1, xs7 ++ [w70], d70, G70.length + 1, _) ⟨by simp only; omega, by simp [i27], cl70.put (AObj.arr 94 3 [encV w70]) [.i v2, .i v3, .i v4, .i v5, .sl (G70.length + 1) 3 0 (xs7 ++ [w70]).length] ((xs7 ++ [w70]).map encV), hs70, sp7⟩ (by simp only; omega)
    simp at key
    exact ALoop_keep key (by simp)
set_option maxHeartbeats 8000000 in
theorem fc_rtakeEngine (H : List AObj) (q : Nat) (d : Dc) (hd : H[q]? = some (dX d)) (hs : d.s.length ≤ 1000000000) : FC Tryz.prog 126 [.vptr q 0] H (DP H q (avEng (rH.eng d).1) (rH.eng d).2) := by
  refine FC_body tOk Tryz.func126 rfl Tryz.results126 rfl (by simp [Tryz.ntmps126]) ?_
  rw [Tryz.ntmps126]
  simp only [argSlots]
  obtain ⟨R, hR⟩ : ∃ R, rH.eng d = R := ⟨_, rfl⟩
  rw [hR]
  simp only [How.eng, bd, rH_L, rH_V, rtn] at hR
  have hql := get_lt hd
  have hrq : H.length ≠ q := by omega
  repeat first|((first|refine qa tOk rfl ?_|refine qb tOk rfl ?_|refine qc ?_|refine qd ?_|refine qe ?_);simp)|refine AWP_block ?_|refine AWP_seq ?_
  refine AStep_FC rfl rfl (fc_rtake _ q d (get_app hd _) hs) rfl ?_
  rintro _ G1 ⟨rfl, k1, f1⟩
  have hs1 := Nat.le_trans (shr_pI d) hs
  generalize (pI d).1 = v1 at *
  generalize (pI d).2 = d1 at *
  simp
  have r1 := f1.kd (j := H.length) (x := .vars [.i 0, .nils, .nils, .nils]) (by simp) hrq
  have e1 : Fr H G1 q none none := (Fr.app H _ q).trans f1
  have hl1 := f1.1
  simp at hl1
  repeat first|((first|refine qa tOk rfl ?_|refine qb tOk rfl ?_|refine qc ?_|refine qd ?_|refine qe ?_);simp)|refine AWP_block ?_|refine AWP_seq ?_
  refine AStep_FC rfl rfl (fc_rtakeEvents G1 q d1 k1 hs1) rfl ?_
  rintro _ G2 ⟨rfl, k2, f2⟩
  have r2 := f2.kd r1 hrq
  have hs2 := Nat.le_trans (Shr.rlist rshr_ev d1) hs1
  generalize (rL rH.ev d1).1 = v2 at *
  generalize (rL rH.ev d1).2 = d2 at *
  simp
  have hl2 := Nat.le_trans hl1 f2.1
  have e2 := e1.trans f2
  repeat first|((first|refine qa tOk rfl ?_|refine qb tOk rfl ?_|refine qc ?_|refine qd ?_|refine qe ?_);simp)|refine AWP_block ?_|refine AWP_seq ?_
  have sV : (G2 ++ [AObj.vars [.i v1, .list (v2.map encE), .nils, .nils]])[G2.length]? = some (.vars [.i v1, .list (v2.map encE), .nils, .nils]) := by simp
  have hq2 := get_lt k2
  have hSq : G2.length ≠ q := by omega
  refine AStep_FC rfl rfl (fc_rcount _ q d2 (get_app k2 _) hs2) rfl ?_
  rintro _ G3 ⟨rfl, k3, f3⟩
  have c3 := f3.kd sV hSq
  have r3 := f3.kd (get_app r2 _) hrq
  have hs3 := Nat.le_trans (shr_rCount d2) hs2
  obtain ⟨N3, hN3, hM3⟩ := rCount_nat d2
  rw [rL_eq (rH.cfg)] at hR
  rw [hN3] at hR ⊢
  simp only [Int.toNat_natCast] at hR
  generalize (rCount d2).2 = d3 at *
  simp
  have e3 := (fr_push e2 (AObj.vars [.i v1, .list (v2.map encE), .nils, .nils])).trans f3
  have hl3 := get_lt c3
  have hq3 := get_lt k3
  generalize G2.length = S at *
  have hrS : H.length ≠ S := by omega
  have hHS : H.length ≤ S := by omega
  repeat first|((first|refine qa tOk rfl ?_|refine qb tOk rfl ?_|refine qc ?_|refine qd ?_|refine qe ?_);simp)|refine AWP_block ?_|refine AWP_seq ?_
  obtain ⟨R4, hR4⟩ : ∃ R4, loopD rH.cfg N3 d3 = R4 := ⟨_, rfl⟩
  rw [hR4] at hR
  refine AWP_nilCell S 2 148 3 c3 rfl ?_
  simp
  refine AWP_loop (ALoop_keep (sl' := [(0, .vptr q 0), (2, .vptr H.length 0), (3, .vptr S 0), (4, .i N3), (5, .i 0)]) ?_ (by simp))
  refine ALoop_wf (P := Tryz.prog) (F := fun (u : Nat × List Cfg × Dc × Nat × List AObj) => ⟨[(0, .vptr q 0), (2, .vptr H.length 0), (3, .vptr S 0), (4, .i N3), (5, .i u.1)], u.2.2.2.2⟩)
    (fun u => u.1 ≤ N3 ∧ u.2.1.length = u.1 ∧ CL G3 u.2.2.2.2 q S u.2.2.2.1 u.2.2.1 [.i v1, .list (v2.map encE), .sl u.2.2.2.1 3 0 u.2.1.length, .nils] 148 3 (u.2.1.map avCfg) ∧ u.2.2.1.s.length ≤ 1000000000 ∧ R4 = (u.2.1 ++ (loopD rH.cfg (N3 - u.1) u.2.2.1).1, (loopD rH.cfg (N3 - u.1) u.2.2.1).2)) (fun u => N3 - u.1) ?_
    (0, [], d3, G3.length, (G3 ++ [AObj.arr 148 3 []]).set S (.vars [.i v1, .list (v2.map encE), .sl G3.length 3 0 0, .nils])) ⟨Nat.zero_le _, rfl, CL.start k3 c3 hSq _ _ _, hs3, by simpa using hR4.symm⟩
  rintro ⟨j4, xs4, D4, p4, L4⟩ ⟨i14, i24, cl4, i34, i44⟩ ih4
  simp only at i14 i24 cl4 i34 i44 ih4 ⊢
  have rd4 : L4[q]? = some (.vars [.str D4.s, .i D4.e]) := cl4.rd
  repeat first|((first|refine qa tOk rfl ?_|refine qb tOk rfl ?_|refine qc ?_|refine qd ?_|refine qe ?_);simp [rd4])|refine AWP_block ?_|refine AWP_seq ?_
  by_cases hje4 : j4 < N3 ∧ D4.e = 0
  rotate_left
  · refine AWP_cond2 rfl (fun h => by exfalso; apply hje4; simpa using h) (fun _ => ?_)
    have hr4 := loopD_end rH.cfg i44 (by omega)
    rw [hr4] at hR
    refine AWP_freezeC p4 cl4.arr S cl4.cell ?_
    simp
    try rw [List.take_of_length_le (by simp)]
    obtain ⟨ke4, ce4, fe4⟩ := cl4.fin [.i v1, .list (v2.map encE), .list (xs4.map avCfg), .nils]
    generalize (L4.set p4 .dead).set S (.vars [.i v1, .list (v2.map encE), .list (xs4.map avCfg), .nils]) = E4 at *
    have e4 := e3.over fe4 hHS
    have r4 := fe4.kp r3 hrq hrS
    repeat first|((first|refine qa tOk rfl ?_|refine qb tOk rfl ?_|refine qc ?_|refine qd ?_|refine qe ?_);simp)|refine AWP_block ?_|refine AWP_seq ?_
    refine AStep_FC rfl rfl (fc_rtakeEvents E4 q D4 ke4 i34) rfl ?_
    rintro _ G5 ⟨rfl, k5, f5⟩
    have c5 := f5.kd ce4 hSq
    have r5 := f5.kd r4 hrq
    have hs5 := Nat.le_trans (Shr.rlist rshr_ev D4) i34
    generalize (rL rH.ev D4).1 = v5 at *
    generalize (rL rH.ev D4).2 = d5 at *
    have e5 := e4.trans f5
    have sc : ∀ z, (G5.set S z)[S]? = some z := fun z => get_self c5 z
    have rc : ∀ z, (G5.set S z)[H.length]? = some (.vars [.i 0, .nils, .nils, .nils]) := fun z => get_set (Ne.symm hrS) r5 z
    have rr : ∀ z y, ((G5.set S z).set H.length y)[H.length]? = some y := fun z y => get_self (rc z) y
    simp [c5, sc, rc, rr]
    repeat first|((first|refine qa tOk rfl ?_|refine qb tOk rfl ?_|refine qc ?_|refine qd ?_|refine qe ?_);simp [c5, sc, rc, rr])|refine AWP_block ?_|refine AWP_seq ?_
    rw [← hR]
    exact ⟨rfl, get_set hrq (get_set hSq k5 _) _, fr_setc' (fr_setc' e5 hHS _) (Nat.le_refl _) _⟩
  obtain ⟨hj4, he4⟩ := hje4
  refine AWP_cond2 rfl (fun _ => ?_) (fun h => by simp [hj4, he4] at h)
  have hw4 : IntKind.i64.wrap ((j4 : Int) + 1) = j4 + 1 := wrap_i64 _ (by omega) (by omega)
  have sp4 := loopD_step rH.cfg i44 hj4 he4
  have hx4 : xs4.length ≤ 4096 := by omega
  repeat first|((first|refine qa tOk rfl ?_|refine qb tOk rfl ?_|refine qc ?_|refine qd ?_|refine qe ?_);simp)|refine AWP_block ?_|refine AWP_seq ?_
  have cc4 := cl4.cell
  refine AWP_drawT tOk mixed [3, 5, 7] (.val 0 (.val 2 (.two 1 (.one 3 (.one 4 (.one 5 (.val 6 (.one 7 (.done)))))) 3 (.val 1 (.one 4 (.one 5 (.val 6 (.one 7 (.done))))))))) rfl (by kernel_rfl) ?_
  simp [cc4]
  refine ⟨?_, ?_⟩
  · refine AStep_FC rfl rfl (fc_rtakeConfig L4 q D4 cl4.rd i34) rfl ?_
    rintro _ G40 ⟨rfl, kk, ff⟩
    have cl40 := cl4.call kk ff
    have cc40 := cl40.cell
    have hs40 := Nat.le_trans (rshr_cfg D4) i34
    generalize (rH.cfg D4).1 = w40 at *
    generalize (rH.cfg D4).2 = d40 at *
    simp [cc40]
    have bq : ∀ A : AObj, (G40 ++ [A])[p4]? = some (.arr 148 3 (xs4.map avCfg)) := fun A => get_app cl40.arr _
    have bc : ∀ A B : AObj, ((G40 ++ [A]).set p4 .dead ++ [B])[S]? = some (.vars [.i v1, .list (v2.map encE), .sl p4 3 0 xs4.length, .nils]) := fun A B => cl40.cell' A B
    refine AStep_appendS tOk rfl rfl T96 rfl T148 rfl (by decide) (by decide) rfl rfl rfl ?_
    simp [bq, hx4]
    refine ⟨by simp [appOk, bq, hx4] <;> omega, ?_⟩
    simp [bc]
    repeat first|((first|refine qa tOk rfl ?_|refine qb tOk rfl ?_|refine qc ?_|refine qd ?_|refine qe ?_);simp [bc, hw4])|refine AWP_block ?_|refine AWP_seq ?_
    have key := ih4 (j4 + 1, xs4 ++ [w40], d40, G40.length + 1, _) ⟨by simp only; omega, by simp [i24], cl40.put (AObj.arr 148 3 [avCfg w40]) [.i v1, .list (v2.map encE), .sl (G40.length + 1) 3 0 (xs4 ++ [w40]).length, .nils] ((xs4 ++ [w40]).map avCfg), hs40, sp4⟩ (by simp only; omega)
    simp at key
    exact ALoop_keep key (by simp)
  · refine AStep_FC rfl rfl (fc_rtakeConfig L4 q D4 cl4.rd i34) rfl ?_
    rintro _ G40 ⟨rfl, kk, ff⟩
    have cl40 := cl4.call kk ff
    have cc40 := cl40.cell
    have hs40 := Nat.le_trans (rshr_cfg D4) i34
    generalize (rH.cfg D4).1 = w40 at *
    generalize (rH.cfg D4).2 = d40 at *
    simp [cc40]
    have bq : ∀ A : AObj, (G40 ++ [A])[p4]? = some (.arr 148 3 (xs4.map avCfg)) := fun A => get_app cl40.arr _
    have bc : ∀ A B : AObj, ((G40 ++ [A]).set p4 .dead ++ [B])[S]? = some (.vars [.i v1, .list (v2.map encE), .sl p4 3 0 xs4.length, .nils]) := fun A B => cl40.cell' A B
    refine AStep_appendS tOk rfl rfl T96 rfl T148 rfl (by decide) (by decide) rfl rfl rfl ?_
    simp [bq, hx4]
    refine ⟨by simp [appOk, bq, hx4] <;> omega, ?_⟩
    simp [bc]
    repeat first|((first|refine qa tOk rfl ?_|refine qb tOk rfl ?_|refine qc ?_|refine qd ?_|refine qe ?_);simp [bc, hw4])|refine AWP_block ?_|refine AWP_seq ?_
    have key := ih4 (j4 + 1, xs4 ++ [w40], d40, G40.length + 1, _) ⟨by simp only; omega, by simp [i24], cl40.put (AObj.arr 148 3 [avCfg w40]) [.i v1, .list (v2.map encE), .sl (G40.length + 1) 3 0 (xs4 ++ [w40]).length, .nils] ((xs4 ++ [w40]).map avCfg), hs40, sp4⟩ (by simp only; omega)
    simp at key
    exact ALoop_keep key (by simp)
set_option maxHeartbeats 16000000 in
theorem fc_rtakeSnapshot (H : List AObj) (q : Nat) (d : Dc) (hd : H[q]? = some (dX d)) (hs : d.s.length ≤ 1000000000) : FC Tryz.prog 83 [.vptr q 0] H (DP H q (avSnp (rH.snp d).1) (rH.snp d).2) := by
  refine FC_body tOk Tryz.func83 rfl Tryz.results83 rfl (by simp [Tryz.ntmps83]) ?_
  rw [Tryz.ntmps83]
  simp only [argSlots]
  obtain ⟨R, hR⟩ : ∃ R, rH.snp d = R := ⟨_, rfl⟩
  rw [hR]
  simp only [How.snp, bd, rH_L, rH_V, rtn] at hR
  have hql := get_lt hd
  have hrq : H.length ≠ q := by omega
  repeat first|((first|refine qa tOk rfl ?_|refine qb tOk rfl ?_|refine qc ?_|refine qd ?_|refine qe ?_);simp)|refine AWP_block ?_|refine AWP_seq ?_
  refine AStep_FC rfl rfl (fc_rtake _ q d (get_app hd _) hs) rfl ?_
  rintro _ G1 ⟨rfl, k1, f1⟩
  have hs1 := Nat.le_trans (shr_pI d) hs
  generalize (pI d).1 = v1 at *
  generalize (pI d).2 = d1 at *
  simp
  have r1 := f1.kd (j := H.length) (x := .vars [.i 0, .nils, .nils]) (by simp) hrq
  have e1 : Fr H G1 q none none := (Fr.app H _ q).trans f1
  have hl1 := f1.1
  simp at hl1
  repeat first|((first|refine qa tOk rfl ?_|refine qb tOk rfl ?_|refine qc ?_|refine qd ?_|refine qe ?_);simp)|refine AWP_block ?_|refine AWP_seq ?_
  have sV : (G1 ++ [AObj.vars [.i v1, .nils, .nils]])[G1.length]? = some (.vars [.i v1, .nils, .nils]) := by simp
  have hq1 := get_lt k1
  have hSq : G1.length ≠ q := by omega
  refine AStep_FC rfl rfl (fc_rcount _ q d1 (get_app k1 _) hs1) rfl ?_
  rintro _ G2 ⟨rfl, k2, f2⟩
  have c2 := f2.kd sV hSq
  have r2 := f2.kd (get_app r1 _) hrq
  have hs2 := Nat.le_trans (shr_rCount d1) hs1
  obtain ⟨N2, hN2, hM2⟩ := rCount_nat d1
  rw [rL_eq (rH.rdr)] at hR
  rw [hN2] at hR ⊢
  simp only [Int.toNat_natCast] at hR
  generalize (rCount d1).2 = d2 at *
  simp
  have e2 := (fr_push e1 (AObj.vars [.i v1, .nils, .nils])).trans f2
  have hl2 := get_lt c2
  have hq2 := get_lt k2
  generalize G1.length = S at *
  have hrS : H.length ≠ S := by omega
  have hHS : H.length ≤ S := by omega
  repeat first|((first|refine qa tOk rfl ?_|refine qb tOk rfl ?_|refine qc ?_|refine qd ?_|refine qe ?_);simp)|refine AWP_block ?_|refine AWP_seq ?_
  obtain ⟨R3, hR3⟩ : ∃ R3, loopD rH.rdr N2 d2 = R3 := ⟨_, rfl⟩
  rw [hR3] at hR
  refine AWP_nilCell S 1 88 6 c2 rfl ?_
  simp
  refine AWP_loop (ALoop_keep (sl' := [(0, .vptr q 0), (2, .vptr H.length 0), (3, .vptr S 0), (4, .i N2), (5, .i 0)]) ?_ (by simp))
  refine ALoop_wf (P := Tryz.prog) (F := fun (u : Nat × List Rdr × Dc × Nat × List AObj) => ⟨[(0, .vptr q 0), (2, .vptr H.length 0), (3, .vptr S 0), (4, .i N2), (5, .i u.1)], u.2.2.2.2⟩)
    (fun u => u.1 ≤ N2 ∧ u.2.1.length = u.1 ∧ CL G2 u.2.2.2.2 q S u.2.2.2.1 u.2.2.1 [.i v1, .sl u.2.2.2.1 6 0 u.2.1.length, .nils] 88 6 (u.2.1.map avRdr) ∧ u.2.2.1.s.length ≤ 1000000000 ∧ R3 = (u.2.1 ++ (loopD rH.rdr (N2 - u.1) u.2.2.1).1, (loopD rH.rdr (N2 - u.1) u.2.2.1).2)) (fun u => N2 - u.1) ?_
    (0, [], d2, G2.length, (G2 ++ [AObj.arr 88 6 []]).set S (.vars [.i v1, .sl G2.length 6 0 0, .nils])) ⟨Nat.zero_le _, rfl, CL.start k2 c2 hSq _ _ _, hs2, by simpa using hR3.symm⟩
  rintro ⟨j3, xs3, D3, p3, L3⟩ ⟨i13, i23, cl3, i33, i43⟩ ih3
  simp only at i13 i23 cl3 i33 i43 ih3 ⊢
  have rd3 : L3[q]? = some (.vars [.str D3.s, .i D3.e]) := cl3.rd
  repeat first|((first|refine qa tOk rfl ?_|refine qb tOk rfl ?_|refine qc ?_|refine qd ?_|refine qe ?_);simp [rd3])|refine AWP_block ?_|refine AWP_seq ?_
  by_cases hje3 : j3 < N2 ∧ D3.e = 0
  rotate_left
  · refine AWP_cond2 rfl (fun h => by exfalso; apply hje3; simpa using h) (fun _ => ?_)
    have hr3 := loopD_end rH.rdr i43 (by omega)
    rw [hr3] at hR
    refine AWP_freezeC p3 cl3.arr S cl3.cell ?_
    simp
    try rw [List.take_of_length_le (by simp)]
    obtain ⟨ke3, ce3, fe3⟩ := cl3.fin [.i v1, .list (xs3.map avRdr), .nils]
    generalize (L3.set p3 .dead).set S (.vars [.i v1, .list (xs3.map avRdr), .nils]) = E3 at *
    have e3 := e2.over fe3 hHS
    have r3 := fe3.kp r2 hrq hrS
    repeat first|((first|refine qa tOk rfl ?_|refine qb tOk rfl ?_|refine qc ?_|refine qd ?_|refine qe ?_);simp)|refine AWP_block ?_|refine AWP_seq ?_
    refine AStep_FC rfl rfl (fc_rcount E3 q D3 ke3 i33) rfl ?_
    rintro _ G4 ⟨rfl, k4, f4⟩
    have c4 := f4.kd ce3 hSq
    have r4 := f4.kd r3 hrq
    have hs4 := Nat.le_trans (shr_rCount D3) i33
    obtain ⟨N4, hN4, hM4⟩ := rCount_nat D3
    rw [rL_eq (rH.opr)] at hR
    rw [hN4] at hR ⊢
    simp only [Int.toNat_natCast] at hR
    generalize (rCount D3).2 = d4 at *
    simp
    have e4 := e3.trans f4
    have hl4 := get_lt c4
    repeat first|((first|refine qa tOk rfl ?_|refine qb tOk rfl ?_|refine qc ?_|refine qd ?_|refine qe ?_);simp)|refine AWP_block ?_|refine AWP_seq ?_
    obtain ⟨R5, hR5⟩ : ∃ R5, loopD rH.opr N4 d4 = R5 := ⟨_, rfl⟩
    rw [hR5] at hR
    refine AWP_nilCell S 2 92 2 c4 rfl ?_
    simp
    refine AWP_loop (ALoop_keep (sl' := [(0, .vptr q 0), (2, .vptr H.length 0), (3, .vptr S 0), (6, .i N4), (7, .i 0)]) ?_ (by simp))
    refine ALoop_wf (P := Tryz.prog) (F := fun (u : Nat × List Opr × Dc × Nat × List AObj) => ⟨[(0, .vptr q 0), (2, .vptr H.length 0), (3, .vptr S 0), (6, .i N4), (7, .i u.1)], u.2.2.2.2⟩)
      (fun u => u.1 ≤ N4 ∧ u.2.1.length = u.1 ∧ CL G4 u.2.2.2.2 q S u.2.2.2.1 u.2.2.1 [.i v1, .list (xs3.map avRdr), .sl u.2.2.2.1 2 0 u.2.1.length] 92 2 (u.2.1.map avOpr) ∧ u.2.2.1.s.length ≤ 1000000000 ∧ R5 = (u.2.1 ++ (loopD rH.opr (N4 - u.1) u.2.2.1).1, (loopD rH.opr (N4 - u.1) u.2.2.1).2)) (fun u => N4 - u.1) ?_
      (0, [], d4, G4.length, (G4 ++ [AObj.arr 92 2 []]).set S (.vars [.i v1, .list (xs3.map avRdr), .sl G4.length 2 0 0])) ⟨Nat.zero_le _, rfl, CL.start k4 c4 hSq _ _ _, hs4, by simpa using hR5.symm⟩
    rintro ⟨j5, xs5, D5, p5, L5⟩ ⟨i15, i25, cl5, i35, i45⟩ ih5
    simp only at i15 i25 cl5 i35 i45 ih5 ⊢
    have rd5 : L5[q]? = some (.vars [.str D5.s, .i D5.e]) := cl5.rd
    repeat first|((first|refine qa tOk rfl ?_|refine qb tOk rfl ?_|refine qc ?_|refine qd ?_|refine qe ?_);simp [rd5])|refine AWP_block ?_|refine AWP_seq ?_
    by_cases hje5 : j5 < N4 ∧ D5.e = 0
    rotate_left
    · refine AWP_cond2 rfl (fun h => by exfalso; apply hje5; simpa using h) (fun _ => ?_)
      have hr5 := loopD_end rH.opr i45 (by omega)
      rw [hr5] at hR
      refine AWP_freezeC p5 cl5.arr S cl5.cell ?_
      simp
      try rw [List.take_of_length_le (by simp)]
      obtain ⟨ke5, ce5, fe5⟩ := cl5.fin [.i v1, .list (xs3.map avRdr), .list (xs5.map avOpr)]
      generalize (L5.set p5 .dead).set S (.vars [.i v1, .list (xs3.map avRdr), .list (xs5.map avOpr)]) = E5 at *
      have e5 := e4.over fe5 hHS
      have r5 := fe5.kp r4 hrq hrS
      have rr : ∀ z, (E5.set H.length z)[H.length]? = some z := fun z => get_self r5 z
      repeat first|((first|refine qa tOk rfl ?_|refine qb tOk rfl ?_|refine qc ?_|refine qd ?_|refine qe ?_);simp [ce5, r5, rr])|refine AWP_block ?_|refine AWP_seq ?_
      rw [← hR]
      exact ⟨rfl, get_set hrq ke5 _, fr_setc' e5 (Nat.le_refl _) _⟩
    obtain ⟨hj5, he5⟩ := hje5
    refine AWP_cond2 rfl (fun _ => ?_) (fun h => by simp [hj5, he5] at h)
    have hw5 : IntKind.i64.wrap ((j5 : Int) + 1) = j5 + 1 := wrap_i64 _ (by omega) (by omega)
    have sp5 := loopD_step rH.opr i45 hj5 he5
    have hx5 : xs5.length ≤ 4096 := by omega
    rw [opr_eq] at sp5
    repeat first|((first|refine qa tOk rfl ?_|refine qb tOk rfl ?_|refine qc ?_|refine qd ?_|refine qe ?_);simp)|refine AWP_block ?_|refine AWP_seq ?_
    refine AStep_FC rfl rfl (fc_rtakeIntegers L5 q D5 cl5.rd i35) rfl ?_
    rintro _ G6 ⟨rfl, k6, f6⟩
    have cl6 := cl5.call k6 f6
    have hs6 := Nat.le_trans (Shr.rlist shr_pI D5) i35
    generalize (rL pI D5).1 = v6 at *
    generalize (rL pI D5).2 = d6 at *
    simp
    repeat first|((first|refine qa tOk rfl ?_|refine qb tOk rfl ?_|refine qc ?_|refine qd ?_|refine qe ?_);simp)|refine AWP_block ?_|refine AWP_seq ?_
    have cl7 := cl6.push (AObj.vars [.list (v6.map encI), .nils])
    have sW : (G6 ++ [AObj.vars [.list (v6.map encI), .nils]])[G6.length]? = some (.vars [.list (v6.map encI), .nils]) := by simp
    have hq6 := get_lt k6
    have hS6 := get_lt cl6.cell
    have hp6 := get_lt cl6.arr
    have hTq : G6.length ≠ q := by omega
    have hST : S ≠ G6.length := by omega
    have hpT : p5 ≠ G6.length := by omega
    have hGT : G4.length ≤ G6.length := cl6.fr.1
    refine AStep_FC rfl rfl (fc_rcount _ q d6 (get_app k6 _) hs6) rfl ?_
    rintro _ G8 ⟨rfl, k8, f8⟩
    have c8 := f8.kd sW hTq
    have hs8 := Nat.le_trans (shr_rCount d6) hs6
    obtain ⟨N8, hN8, hM8⟩ := rCount_nat d6
    rw [rL_eq (rH.kyd)] at sp5
    rw [hN8] at sp5 ⊢
    simp only [Int.toNat_natCast] at sp5
    generalize (rCount d6).2 = d8 at *
    simp
    have cl8 := cl7.call k8 f8
    generalize G6.length = W at *
    repeat first|((first|refine qa tOk rfl ?_|refine qb tOk rfl ?_|refine qc ?_|refine qd ?_|refine qe ?_);simp)|refine AWP_block ?_|refine AWP_seq ?_
    obtain ⟨R9, hR9⟩ : ∃ R9, loopD rH.kyd N8 d8 = R9 := ⟨_, rfl⟩
    rw [hR9] at sp5
    refine AWP_nilCell W 1 100 8 c8 rfl ?_
    simp
    refine AWP_loop (ALoop_keep (sl' := [(0, .vptr q 0), (2, .vptr H.length 0), (3, .vptr S 0), (6, .i N4), (7, .i j5), (8, .vptr W 0), (9, .i N8), (10, .i 0)]) ?_ (by simp))
    refine ALoop_wf (P := Tryz.prog) (F := fun (u : Nat × List Kyd × Dc × Nat × List AObj) => ⟨[(0, .vptr q 0), (2, .vptr H.length 0), (3, .vptr S 0), (6, .i N4), (7, .i j5), (8, .vptr W 0), (9, .i N8), (10, .i u.1)], u.2.2.2.2⟩)
      (fun u => u.1 ≤ N8 ∧ u.2.1.length = u.1 ∧ CL G8 u.2.2.2.2 q W u.2.2.2.1 u.2.2.1 [.list (v6.map encI), .sl u.2.2.2.1 8 0 u.2.1.length] 100 8 (u.2.1.map avKyd) ∧ u.2.2.1.s.length ≤ 1000000000 ∧ R9 = (u.2.1 ++ (loopD rH.kyd (N8 - u.1) u.2.2.1).1, (loopD rH.kyd (N8 - u.1) u.2.2.1).2)) (fun u => N8 - u.1) ?_
      (0, [], d8, G8.length, (G8 ++ [AObj.arr 100 8 []]).set W (.vars [.list (v6.map encI), .sl G8.length 8 0 0])) ⟨Nat.zero_le _, rfl, CL.start k8 c8 hTq _ _ _, hs8, by simpa using hR9.symm⟩
    rintro ⟨j9, xs9, D9, p9, L9⟩ ⟨i19, i29, cl9, i39, i49⟩ ih9
    simp only at i19 i29 cl9 i39 i49 ih9 ⊢
    have rd9 : L9[q]? = some (.vars [.str D9.s, .i D9.e]) := cl9.rd
    repeat first|((first|refine qa tOk rfl ?_|refine qb tOk rfl ?_|refine qc ?_|refine qd ?_|refine qe ?_);simp [rd9])|refine AWP_block ?_|refine AWP_seq ?_
    by_cases hje9 : j9 < N8 ∧ D9.e = 0
    rotate_left
    · refine AWP_cond2 rfl (fun h => by exfalso; apply hje9; simpa using h) (fun _ => ?_)
      have hr9 := loopD_end rH.kyd i49 (by omega)
      rw [hr9] at sp5
      refine AWP_freezeC p9 cl9.arr W cl9.cell ?_
      simp
      try rw [List.take_of_length_le (by simp)]
      obtain ⟨ke9, ce9, fe9⟩ := cl9.fin [.list (v6.map encI), .list (xs9.map avKyd)]
      generalize (L9.set p9 .dead).set W (.vars [.list (v6.map encI), .list (xs9.map avKyd)]) = E9 at *
      have clE := cl8.inner fe9 ke9 hST hpT hGT
      have ccE := clE.cell
      repeat first|((first|refine qa tOk rfl ?_|refine qb tOk rfl ?_|refine qc ?_|refine qd ?_|refine qe ?_);simp [ccE, ce9])|refine AWP_block ?_|refine AWP_seq ?_
      have bq : ∀ A : AObj, (E9 ++ [A])[p5]? = some (.arr 92 2 (xs5.map avOpr)) := fun A => get_app clE.arr _
      have bc : ∀ A B : AObj, ((E9 ++ [A]).set p5 .dead ++ [B])[S]? = some (.vars [.i v1, .list (xs3.map avRdr), .sl p5 2 0 xs5.length]) := fun A B => clE.cell' A B
      refine AStep_appendS tOk rfl rfl T34 rfl T92 rfl (by decide) (by decide) rfl rfl rfl ?_
      simp [bq, hx5]
      refine ⟨by simp [appOk, bq, hx5] <;> omega, ?_⟩
      simp [bc]
      repeat first|((first|refine qa tOk rfl ?_|refine qb tOk rfl ?_|refine qc ?_|refine qd ?_|refine qe ?_);simp [bc, hw5])|refine AWP_block ?_|refine AWP_seq ?_
      have key := ih5 (j5 + 1, xs5 ++ [(⟨v6, xs9⟩ : Opr)], D9, E9.length + 1, _) ⟨by simp only; omega, by simp [i25], clE.put (AObj.arr 92 2 [avOpr ⟨v6, xs9⟩]) [.i v1, .list (xs3.map avRdr), .sl (E9.length + 1) 2 0 (xs5 ++ [(⟨v6, xs9⟩ : Opr)]).length] ((xs5 ++ [(⟨v6, xs9⟩ : Opr)]).map avOpr), i39, sp5⟩ (by simp only; omega)
      simp at key
      exact ALoop_keep key (by simp)
    obtain ⟨hj9, he9⟩ := hje9
    refine AWP_cond2 rfl (fun _ => ?_) (fun h => by simp [hj9, he9] at h)
    have hw9 : IntKind.i64.wrap ((j9 : Int) + 1) = j9 + 1 := wrap_i64 _ (by omega) (by omega)
    have sp9 := loopD_step rH.kyd i49 hj9 he9
    have hx9 : xs9.length ≤ 4096 := by omega
    rw [kyd_eq] at sp9
    repeat first|((first|refine qa tOk rfl ?_|refine qb tOk rfl ?_|refine qc ?_|refine qd ?_|refine qe ?_);simp)|refine AWP_block ?_|refine AWP_seq ?_
    have cc9 := cl9.cell
    refine AWP_drawT tOk mixed [3, 5, 7, 10, 12] (.val 0 (.val 2 (.val 4 (.val 6 (.two 1 (.one 3 (.one 5 (.one 7 (.val 8 (.one 9 (.one 10 (.val 11 (.one 12 (.done))))))))) 3 (.two 1 (.one 5 (.one 7 (.val 8 (.one 9 (.one 10 (.val 11 (.one 12 (.done)))))))) 5 (.two 1 (.one 7 (.val 8 (.one 9 (.one 10 (.val 11 (.one 12 (.done))))))) 7 (.val 1 (.val 8 (.one 9 (.one 10 (.val 11 (.one 12 (.done)))))))))))))) rfl (by kernel_rfl) ?_
    simp [cc9]
    refine ⟨?_, ?_⟩
    · refine AStep_FC rfl rfl (fc_rtake L9 q D9 cl9.rd i39) rfl ?_
      rintro _ G90 ⟨rfl, kk, ff⟩
      have cl90 := cl9.call kk ff
      have cc90 := cl90.cell
      have hs90 := Nat.le_trans (shr_pI D9) i39
      generalize (pI D9).1 = w90 at *
      generalize (pI D9).2 = d90 at *
      simp [cc90]
      refine AStep_FC rfl rfl (fc_rtakeValue G90 q d90 cl90.rd hs90) rfl ?_
      rintro _ G91 ⟨rfl, kk, ff⟩
      have cl91 := cl90.call kk ff
      have cc91 := cl91.cell
      have hs91 := Nat.le_trans (shr_rVal d90) hs90
      generalize (rVal d90).1 = w91 at *
      generalize (rVal d90).2 = d91 at *
      simp [cc91]
      refine AStep_FC rfl rfl (fc_rtakeEngine G91 q d91 cl91.rd hs91) rfl ?_
      rintro _ G92 ⟨rfl, kk, ff⟩
      have cl92 := cl91.call kk ff
      have cc92 := cl92.cell
      have hs92 := Nat.le_trans (rshr_eng d91) hs91
      generalize (rH.eng d91).1 = w92 at *
      generalize (rH.eng d91).2 = d92 at *
      simp [cc92]
      have bq : ∀ A : AObj, (G92 ++ [A])[p9]? = some (.arr 100 8 (xs9.map avKyd)) := fun A => get_app cl92.arr _
      have bc : ∀ A B : AObj, ((G92 ++ [A]).set p9 .dead ++ [B])[W]? = some (.vars [.list (v6.map encI), .sl p9 8 0 xs9.length]) := fun A B => cl92.cell' A B
      refine AStep_appendS tOk rfl rfl T90 rfl T100 rfl (by decide) (by decide) rfl rfl rfl ?_
      simp [bq, hx9]
      refine ⟨by simp [appOk, bq, hx9] <;> omega, ?_⟩
      simp [bc]
      repeat first|((first|refine qa tOk rfl ?_|refine qb tOk rfl ?_|refine qc ?_|refine qd ?_|refine qe ?_);simp [bc, hw9])|refine AWP_block ?_|refine AWP_seq ?_
      have key := ih9 (j9 + 1, xs9 ++ [(⟨w90, w91, w92⟩ : Kyd)], d92, G92.length + 1, _) ⟨by simp only; omega, by simp [i29], cl92.put (AObj.arr 100 8 [avKyd (⟨w90, w91, w92⟩ : Kyd)]) [.list (v6.map encI), .sl (G92.length + 1) 8 0 (xs9 ++ [(⟨w90, w91, w92⟩ : Kyd)]).length] ((xs9 ++ [(⟨w90, w91, w92⟩ : Kyd)]).map avKyd), hs92, sp9⟩ (by simp only; omega)
      simp at key
      exact ALoop_keep key (by simp)
    · refine AStep_FC rfl rfl (fc_rtake L9 q D9 cl9.rd i39) rfl ?_
      rintro _ G90 ⟨rfl, kk, ff⟩
      have cl90 := cl9.call kk ff
      have cc90 := cl90.cell
      have hs90 := Nat.le_trans (shr_pI D9) i39
      generalize (pI D9).1 = w90 at *
      generalize (pI D9).2 = d90 at *
      simp [cc90]
      refine ⟨?_, ?_⟩
      · refine AStep_FC rfl rfl (fc_rtakeValue G90 q d90 cl90.rd hs90) rfl ?_
        rintro _ G91 ⟨rfl, kk, ff⟩
        have cl91 := cl90.call kk ff
        have cc91 := cl91.cell
        have hs91 := Nat.le_trans (shr_rVal d90) hs90
        generalize (rVal d90).1 = w91 at *
        generalize (rVal d90).2 = d91 at *
        simp [cc91]
        refine AStep_FC rfl rfl (fc_rtakeEngine G91 q d91 cl91.rd hs91) rfl ?_
        rintro _ G92 ⟨rfl, kk, ff⟩
        have cl92 := cl91.call kk ff
        have cc92 := cl92.cell
        have hs92 := Nat.le_trans (rshr_eng d91) hs91
        generalize (rH.eng d91).1 = w92 at *
        generalize (rH.eng d91).2 = d92 at *
        simp [cc92]
        have bq : ∀ A : AObj, (G92 ++ [A])[p9]? = some (.arr 100 8 (xs9.map avKyd)) := fun A => get_app cl92.arr _
        have bc : ∀ A B : AObj, ((G92 ++ [A]).set p9 .dead ++ [B])[W]? = some (.vars [.list (v6.map encI), .sl p9 8 0 xs9.length]) := fun A B => cl92.cell' A B
        refine AStep_appendS tOk rfl rfl T90 rfl T100 rfl (by decide) (by decide) rfl rfl rfl ?_
        simp [bq, hx9]
        refine ⟨by simp [appOk, bq, hx9] <;> omega, ?_⟩
        simp [bc]
        repeat first|((first|refine qa tOk rfl ?_|refine qb tOk rfl ?_|refine qc ?_|refine qd ?_|refine qe ?_);simp [bc, hw9])|refine AWP_block ?_|refine AWP_seq ?_
        have key := ih9 (j9 + 1, xs9 ++ [(⟨w90, w91, w92⟩ : Kyd)], d92, G92.length + 1, _) ⟨by simp only; omega, by simp [i29], cl92.put (AObj.arr 100 8 [avKyd (⟨w90, w91, w92⟩ : Kyd)]) [.list (v6.map encI), .sl (G92.length + 1) 8 0 (xs9 ++ [(⟨w90, w91, w92⟩ : Kyd)]).length] ((xs9 ++ [(⟨w90, w91, w92⟩ : Kyd)]).map avKyd), hs92, sp9⟩ (by simp only; omega)
        simp at key
        exact ALoop_keep key (by simp)
      · refine AStep_FC rfl rfl (fc_rtakeValue G90 q d90 cl90.rd hs90) rfl ?_
        rintro _ G91 ⟨rfl, kk, ff⟩
        have cl91 := cl90.call kk ff
        have cc91 := cl91.cell
        have hs91 := Nat.le_trans (shr_rVal d90) hs90
        generalize (rVal d90).1 = w91 at *
        generalize (rVal d90).2 = d91 at *
        simp [cc91]
        refine ⟨?_, ?_⟩
        · refine AStep_FC rfl rfl (fc_rtakeEngine G91 q d91 cl91.rd hs91) rfl ?_
          rintro _ G92 ⟨rfl, kk, ff⟩
          have cl92 := cl91.call kk ff
          have cc92 := cl92.cell
          have hs92 := Nat.le_trans (rshr_eng d91) hs91
          generalize (rH.eng d91).1 = w92 at *
          generalize (rH.eng d91).2 = d92 at *
          simp [cc92]
          have bq : ∀ A : AObj, (G92 ++ [A])[p9]? = some (.arr 100 8 (xs9.map avKyd)) := fun A => get_app cl92.arr _
          have bc : ∀ A B : AObj, ((G92 ++ [A]).set p9 .dead ++ [B])[W]? = some (.vars [.list (v6.map encI), .sl p9 8 0 xs9.length]) := fun A B => cl92.cell' A B
          refine AStep_appendS tOk rfl rfl T90 rfl T100 rfl (by decide) (by decide) rfl rfl rfl ?_
          simp [bq, hx9]
          refine ⟨by simp [appOk, bq, hx9] <;> omega, ?_⟩
          simp [bc]
          repeat first|((first|refine qa tOk rfl ?_|refine qb tOk rfl ?_|refine qc ?_|refine qd ?_|refine qe ?_);simp [bc, hw9])|refine AWP_block ?_|refine AWP_seq ?_
          have key := ih9 (j9 + 1, xs9 ++ [(⟨w90, w91, w92⟩ : Kyd)], d92, G92.length + 1, _) ⟨by simp only; omega, by simp [i29], cl92.put (AObj.arr 100 8 [avKyd (⟨w90, w91, w92⟩ : Kyd)]) [.list (v6.map encI), .sl (G92.length + 1) 8 0 (xs9 ++ [(⟨w90, w91, w92⟩ : Kyd)]).length] ((xs9 ++ [(⟨w90, w91, w92⟩ : Kyd)]).map avKyd), hs92, sp9⟩ (by simp only; omega)
          simp at key
          exact ALoop_keep key (by simp)
        · refine AStep_FC rfl rfl (fc_rtakeEngine G91 q d91 cl91.rd hs91) rfl ?_
          rintro _ G92 ⟨rfl, kk, ff⟩
          have cl92 := cl91.call kk ff
          have cc92 := cl92.cell
          have hs92 := Nat.le_trans (rshr_eng d91) hs91
          generalize (rH.eng d91).1 = w92 at *
          generalize (rH.eng d91).2 = d92 at *
          simp [cc92]
          have bq : ∀ A : AObj, (G92 ++ [A])[p9]? = some (.arr 100 8 (xs9.map avKyd)) := fun A => get_app cl92.arr _
          have bc : ∀ A B : AObj, ((G92 ++ [A]).set p9 .dead ++ [B])[W]? = some (.vars [.list (v6.map encI), .sl p9 8 0 xs9.length]) := fun A B => cl92.cell' A B
          refine AStep_appendS tOk rfl rfl T90 rfl T100 rfl (by decide) (by decide) rfl rfl rfl ?_
          simp [bq, hx9]
          refine ⟨by simp [appOk, bq, hx9] <;> omega, ?_⟩
          simp [bc]
          repeat first|((first|refine qa tOk rfl ?_|refine qb tOk rfl ?_|refine qc ?_|refine qd ?_|refine qe ?_);simp [bc, hw9])|refine AWP_block ?_|refine AWP_seq ?_
          have key := ih9 (j9 + 1, xs9 ++ [(⟨w90, w91, w92⟩ : Kyd)], d92, G92.length + 1, _) ⟨by simp only; omega, by simp [i29], cl92.put (AObj.arr 100 8 [avKyd (⟨w90, w91, w92⟩ : Kyd)]) [.list (v6.map encI), .sl (G92.length + 1) 8 0 (xs9 ++ [(⟨w90, w91, w92⟩ : Kyd)]).length] ((xs9 ++ [(⟨w90, w91, w92⟩ : Kyd)]).map avKyd), hs92, sp9⟩ (by simp only; omega)
          simp at key
          exact ALoop_keep key (by simp)
  obtain ⟨hj3, he3⟩ := hje3
  refine AWP_cond2 rfl (fun _ => ?_) (fun h => by simp [hj3, he3] at h)
  have hw3 : IntKind.i64.wrap ((j3 : Int) + 1) = j3 + 1 := wrap_i64 _ (by omega) (by omega)
  have sp3 := loopD_step rH.rdr i43 hj3 he3
  have hx3 : xs3.length ≤ 4096 := by omega
  rw [rdr_eq] at sp3
  repeat first|((first|refine qa tOk rfl ?_|refine qb tOk rfl ?_|refine qc ?_|refine qd ?_|refine qe ?_);simp)|refine AWP_block ?_|refine AWP_seq ?_
  have cc3 := cl3.cell
  refine AWP_drawT tOk mixed [3, 5, 7, 10, 12] (.val 0 (.val 2 (.val 4 (.val 6 (.two 1 (.one 3 (.one 5 (.one 7 (.val 8 (.one 9 (.one 10 (.val 11 (.one 12 (.done))))))))) 3 (.two 1 (.one 5 (.one 7 (.val 8 (.one 9 (.one 10 (.val 11 (.one 12 (.done)))))))) 5 (.two 1 (.one 7 (.val 8 (.one 9 (.one 10 (.val 11 (.one 12 (.done))))))) 7 (.val 1 (.val 8 (.one 9 (.one 10 (.val 11 (.one 12 (.done)))))))))))))) rfl (by kernel_rfl) ?_
  simp [cc3]
  refine ⟨?_, ?_⟩
  · refine AStep_FC rfl rfl (fc_rtake L3 q D3 cl3.rd i33) rfl ?_
    rintro _ G30 ⟨rfl, kk, ff⟩
    have cl30 := cl3.call kk ff
    have cc30 := cl30.cell
    have hs30 := Nat.le_trans (shr_pI D3) i33
    generalize (pI D3).1 = w30 at *
    generalize (pI D3).2 = d30 at *
    simp [cc30]
    refine AStep_FC rfl rfl (fc_rtake G30 q d30 cl30.rd hs30) rfl ?_
    rintro _ G31 ⟨rfl, kk, ff⟩
    have cl31 := cl30.call kk ff
    have cc31 := cl31.cell
    have hs31 := Nat.le_trans (shr_pI d30) hs30
    generalize (pI d30).1 = w31 at *
    generalize (pI d30).2 = d31 at *
    simp [cc31]
    refine AStep_FC rfl rfl (fc_rtakeTracker G31 q d31 cl31.rd hs31) rfl ?_
    rintro _ G32 ⟨rfl, kk, ff⟩
    have cl32 := cl31.call kk ff
    have cc32 := cl32.cell
    have hs32 := Nat.le_trans (rshr_trk d31) hs31
    generalize (rH.trk d31).1 = w32 at *
    generalize (rH.trk d31).2 = d32 at *
    simp [cc32]
    have bq : ∀ A : AObj, (G32 ++ [A])[p3]? = some (.arr 88 6 (xs3.map avRdr)) := fun A => get_app cl32.arr _
    have bc : ∀ A B : AObj, ((G32 ++ [A]).set p3 .dead ++ [B])[S]? = some (.vars [.i v1, .sl p3 6 0 xs3.length, .nils]) := fun A B => cl32.cell' A B
    refine AStep_appendS tOk rfl rfl T33 rfl T88 rfl (by decide) (by decide) rfl rfl rfl ?_
    simp [bq, hx3]
    refine ⟨by simp [appOk, bq, hx3] <;> omega, ?_⟩
    simp [bc]
    repeat first|((first|refine qa tOk rfl ?_|refine qb tOk rfl ?_|refine qc ?_|refine qd ?_|refine qe ?_);simp [bc, hw3])|refine AWP_block ?_|refine AWP_seq ?_
    have key := ih3 (j3 + 1, xs3 ++ [(⟨w30, w31, w32⟩ : Rdr)], d32, G32.length + 1, _) ⟨by simp only; omega, by simp [i23], cl32.put (AObj.arr 88 6 [avRdr (⟨w30, w31, w32⟩ : Rdr)]) [.i v1, .sl (G32.length + 1) 6 0 (xs3 ++ [(⟨w30, w31, w32⟩ : Rdr)]).length, .nils] ((xs3 ++ [(⟨w30, w31, w32⟩ : Rdr)]).map avRdr), hs32, sp3⟩ (by simp only; omega)
    simp at key
    exact ALoop_keep key (by simp)
  · refine AStep_FC rfl rfl (fc_rtake L3 q D3 cl3.rd i33) rfl ?_
    rintro _ G30 ⟨rfl, kk, ff⟩
    have cl30 := cl3.call kk ff
    have cc30 := cl30.cell
    have hs30 := Nat.le_trans (shr_pI D3) i33
    generalize (pI D3).1 = w30 at *
    generalize (pI D3).2 = d30 at *
    simp [cc30]
    refine ⟨?_, ?_⟩
    · refine AStep_FC rfl rfl (fc_rtake G30 q d30 cl30.rd hs30) rfl ?_
      rintro _ G31 ⟨rfl, kk, ff⟩
      have cl31 := cl30.call kk ff
      have cc31 := cl31.cell
      have hs31 := Nat.le_trans (shr_pI d30) hs30
      generalize (pI d30).1 = w31 at *
      generalize (pI d30).2 = d31 at *
      simp [cc31]
      refine AStep_FC rfl rfl (fc_rtakeTracker G31 q d31 cl31.rd hs31) rfl ?_
      rintro _ G32 ⟨rfl, kk, ff⟩
      have cl32 := cl31.call kk ff
      have cc32 := cl32.cell
      have hs32 := Nat.le_trans (rshr_trk d31) hs31
      generalize (rH.trk d31).1 = w32 at *
      generalize (rH.trk d31).2 = d32 at *
      simp [cc32]
      have bq : ∀ A : AObj, (G32 ++ [A])[p3]? = some (.arr 88 6 (xs3.map avRdr)) := fun A => get_app cl32.arr _
      have bc : ∀ A B : AObj, ((G32 ++ [A]).set p3 .dead ++ [B])[S]? = some (.vars [.i v1, .sl p3 6 0 xs3.length, .nils]) := fun A B => cl32.cell' A B
      refine AStep_appendS tOk rfl rfl T33 rfl T88 rfl (by decide) (by decide) rfl rfl rfl ?_
      simp [bq, hx3]
      refine ⟨by simp [appOk, bq, hx3] <;> omega, ?_⟩
      simp [bc]
      repeat first|((first|refine qa tOk rfl ?_|refine qb tOk rfl ?_|refine qc ?_|refine qd ?_|refine qe ?_);simp [bc, hw3])|refine AWP_block ?_|refine AWP_seq ?_
      have key := ih3 (j3 + 1, xs3 ++ [(⟨w30, w31, w32⟩ : Rdr)], d32, G32.length + 1, _) ⟨by simp only; omega, by simp [i23], cl32.put (AObj.arr 88 6 [avRdr (⟨w30, w31, w32⟩ : Rdr)]) [.i v1, .sl (G32.length + 1) 6 0 (xs3 ++ [(⟨w30, w31, w32⟩ : Rdr)]).length, .nils] ((xs3 ++ [(⟨w30, w31, w32⟩ : Rdr)]).map avRdr), hs32, sp3⟩ (by simp only; omega)
      simp at key
      exact ALoop_keep key (by simp)
    · refine AStep_FC rfl rfl (fc_rtake G30 q d30 cl30.rd hs30) rfl ?_
      rintro _ G31 ⟨rfl, kk, ff⟩
      have cl31 := cl30.call kk ff
      have cc31 := cl31.cell
      have hs31 := Nat.le_trans (shr_pI d30) hs30
      generalize (pI d30).1 = w31 at *
      generalize (pI d30).2 = d31 at *
      simp [cc31]
      refine ⟨?_, ?_⟩
      · refine AStep_FC rfl rfl (fc_rtakeTracker G31 q d31 cl31.rd hs31) rfl ?_
        rintro _ G32 ⟨rfl, kk, ff⟩
        have cl32 := cl31.call kk ff
        have cc32 := cl32.cell
        have hs32 := Nat.le_trans (rshr_trk d31) hs31
        generalize (rH.trk d31).1 = w32 at *
        generalize (rH.trk d31).2 = d32 at *
        simp [cc32]
        have bq : ∀ A : AObj, (G32 ++ [A])[p3]? = some (.arr 88 6 (xs3.map avRdr)) := fun A => get_app cl32.arr _
        have bc : ∀ A B : AObj, ((G32 ++ [A]).set p3 .dead ++ [B])[S]? = some (.vars [.i v1, .sl p3 6 0 xs3.length, .nils]) := fun A B => cl32.cell' A B
        refine AStep_appendS tOk rfl rfl T33 rfl T88 rfl (by decide) (by decide) rfl rfl rfl ?_
        simp [bq, hx3]
        refine ⟨by simp [appOk, bq, hx3] <;> omega, ?_⟩
        simp [bc]
        repeat first|((first|refine qa tOk rfl ?_|refine qb tOk rfl ?_|refine qc ?_|refine qd ?_|refine qe ?_);simp [bc, hw3])|refine AWP_block ?_|refine AWP_seq ?_
        have key := ih3 (j3 + 1, xs3 ++ [(⟨w30, w31, w32⟩ : Rdr)], d32, G32.length + 1, _) ⟨by simp only; omega, by simp [i23], cl32.put (AObj.arr 88 6 [avRdr (⟨w30, w31, w32⟩ : Rdr)]) [.i v1, .sl (G32.length + 1) 6 0 (xs3 ++ [(⟨w30, w31, w32⟩ : Rdr)]).length, .nils] ((xs3 ++ [(⟨w30, w31, w32⟩ : Rdr)]).map avRdr), hs32, sp3⟩ (by simp only; omega)
        simp at key
        exact ALoop_keep key (by simp)
      · refine AStep_FC rfl rfl (fc_rtakeTracker G31 q d31 cl31.rd hs31) rfl ?_
        rintro _ G32 ⟨rfl, kk, ff⟩
        have cl32 := cl31.call kk ff
        have cc32 := cl32.cell
        have hs32 := Nat.le_trans (rshr_trk d31) hs31
        generalize (rH.trk d31).1 = w32 at *
        generalize (rH.trk d31).2 = d32 at *
        simp [cc32]
        have bq : ∀ A : AObj, (G32 ++ [A])[p3]? = some (.arr 88 6 (xs3.map avRdr)) := fun A => get_app cl32.arr _
        have bc : ∀ A B : AObj, ((G32 ++ [A]).set p3 .dead ++ [B])[S]? = some (.vars [.i v1, .sl p3 6 0 xs3.length, .nils]) := fun A B => cl32.cell' A B
        refine AStep_appendS tOk rfl rfl T33 rfl T88 rfl (by decide) (by decide) rfl rfl rfl ?_
        simp [bq, hx3]
        refine ⟨by simp [appOk, bq, hx3] <;> omega, ?_⟩
        simp [bc]
        repeat first|((first|refine qa tOk rfl ?_|refine qb tOk rfl ?_|refine qc ?_|refine qd ?_|refine qe ?_);simp [bc, hw3])|refine AWP_block ?_|refine AWP_seq ?_
        have key := ih3 (j3 + 1, xs3 ++ [(⟨w30, w31, w32⟩ : Rdr)], d32, G32.length + 1, _) ⟨by simp only; omega, by simp [i23], cl32.put (AObj.arr 88 6 [avRdr (⟨w30, w31, w32⟩ : Rdr)]) [.i v1, .sl (G32.length + 1) 6 0 (xs3 ++ [(⟨w30, w31, w32⟩ : Rdr)]).length, .nils] ((xs3 ++ [(⟨w30, w31, w32⟩ : Rdr)]).map avRdr), hs32, sp3⟩ (by simp only; omega)
        simp at key
        exact ALoop_keep key (by simp)
end Go.Abs
set_option maxRecDepth 100000
namespace Go.Abs
open Go Go.Proofs
set_option linter.unusedSimpArgs false
/-- A new reader, behind all that was there. -/
def NewR (H : List AObj) (d : Dc) (r : AV) (H' : List AObj) : Prop := ∃ p, r = .vptr p 0 ∧ H.length ≤ p ∧ H'[p]? = some (dX d) ∧ H.length ≤ H'.length ∧ ∀ j, j < H.length → H'[j]? = H[j]?
attribute [local irreducible] ckSum sumB sealR
theorem seal_iff (s : List UInt8) (n : Nat) (h : n ≤ s.length) : sealR (s.take n) = s ↔ sumB (ckSum (s.take n)) = s.drop n := by
  unfold sealR
  constructor
  · intro h1
    have h2 := congrArg (List.drop n) h1
    rw [List.drop_left' (by simp; omega)] at h2
    exact h2
  · intro h1
    rw [h1, List.take_append_drop]
set_option maxHeartbeats 2000000 in
theorem fc_ropen (H : List AObj) (s : List UInt8) (hs : s.length ≤ 1000000000) : FC Tryz.prog 82 [.str s] H (NewR H (openR s)) := by
  refine FC_body tOk Tryz.func82 rfl Tryz.results82 rfl (by simp [Tryz.ntmps82]) ?_
  rw [Tryz.ntmps82]
  simp only [argSlots]
  obtain ⟨R, hR⟩ : ∃ R, openR s = R := ⟨_, rfl⟩
  rw [hR]
  rw [openR] at hR
  repeat first|((first|refine qa tOk rfl ?_|refine qb tOk rfl ?_|refine qc ?_|refine qd ?_|refine qe ?_);simp)|refine AWP_block ?_|refine AWP_seq ?_
  by_cases h1 : 1048576 < s.length
  · rw [if_pos h1] at hR
    refine AWP_cond2 rfl (fun _ => ?_) (fun h => by simp at h; omega)
    repeat first|((first|refine qa tOk rfl ?_|refine qb tOk rfl ?_|refine qc ?_|refine qd ?_|refine qe ?_);simp)|refine AWP_block ?_|refine AWP_seq ?_
    rw [← hR]
    exact ⟨H.length, rfl, Nat.le_refl _, by simp [dX], by simp, fun j hj => List.getElem?_append_left hj⟩
  rw [if_neg h1] at hR
  refine AWP_cond2 rfl (fun h => by simp at h; omega) (fun _ => ?_)
  by_cases h2 : s.length < 4
  · rw [if_pos h2] at hR
    have h4 : decide ((s.length : Int) < 4) = true := by simp; omega
    obtain ⟨w, hw⟩ : ∃ w, IntKind.i64.wrap ((s.length : Int) - 4) = w := ⟨_, rfl⟩
    have hwn : ¬ 0 ≤ w := by rw [wrap_i64 _ (by omega) (by omega)] at hw; omega
    repeat first|((first|refine qa tOk rfl ?_|refine qb tOk rfl ?_|refine qc ?_|refine qd ?_|refine qe ?_);simp [h4, hw, hwn])|refine AWP_block ?_|refine AWP_seq ?_
    refine AStep_skip rfl rfl ?_
    simp [h4, hw, hwn]
    repeat first|((first|refine qa tOk rfl ?_|refine qb tOk rfl ?_|refine qc ?_|refine qd ?_|refine qe ?_);simp [h4, hw, hwn])|refine AWP_block ?_|refine AWP_seq ?_
    refine AWP_cond2 rfl (fun _ => ?_) (fun h => by simp at h)
    repeat first|((first|refine qa tOk rfl ?_|refine qb tOk rfl ?_|refine qc ?_|refine qd ?_|refine qe ?_);simp)|refine AWP_block ?_|refine AWP_seq ?_
    rw [← hR]
    exact ⟨H.length, rfl, Nat.le_refl _, by simp [dX], by simp, fun j hj => List.getElem?_append_left hj⟩
  rw [if_neg h2] at hR
  obtain ⟨n, hn⟩ : ∃ n, s.length = n + 4 := ⟨s.length - 4, by omega⟩
  have hw : IntKind.i64.wrap ((s.length : Int) - 4) = n := by rw [wrap_i64 _ (by omega) (by omega)]; omega
  rw [show s.length - 4 = n by omega] at hR
  have h4 : decide ((s.length : Int) < 4) = false := by simp; omega
  have hnl : (n : Int) ≤ s.length := by omega
  have hnl' : n ≤ s.length := by omega
  repeat first|((first|refine qa tOk rfl ?_|refine qb tOk rfl ?_|refine qc ?_|refine qd ?_|refine qe ?_);simp [h4, hw, hnl, hnl'])|refine AWP_block ?_|refine AWP_seq ?_
  refine AStep_PC rfl rfl (by simp) (pc_rSeal (s.take n) (by simp; omega)) rfl ?_
  rintro _ rfl
  simp [h4, hw, hnl, hnl']
  repeat first|((first|refine qa tOk rfl ?_|refine qb tOk rfl ?_|refine qc ?_|refine qd ?_|refine qe ?_);simp [h4, hw, hnl, hnl'])|refine AWP_block ?_|refine AWP_seq ?_
  by_cases he : sealR (s.take n) = s
  · have ho : (if sumB (ckSum (s.take n)) ≠ s.drop n then (⟨[], 26⟩ : Dc) else ⟨s.take n, 0⟩) = ⟨s.take n, 0⟩ := if_neg (fun h => h ((seal_iff s n hnl').1 he))
    rw [ho] at hR
    refine AWP_cond2 rfl (fun h => by simp [he] at h) (fun _ => ?_)
    repeat first|((first|refine qa tOk rfl ?_|refine qb tOk rfl ?_|refine qc ?_|refine qd ?_|refine qe ?_);simp [hw, hnl, hnl'])|refine AWP_block ?_|refine AWP_seq ?_
    rw [← hR]
    exact ⟨H.length, rfl, Nat.le_refl _, by simp [dX], by simp, fun j hj => List.getElem?_append_left hj⟩
  · have ho : (if sumB (ckSum (s.take n)) ≠ s.drop n then (⟨[], 26⟩ : Dc) else ⟨s.take n, 0⟩) = ⟨[], 26⟩ := if_pos (fun h => he ((seal_iff s n hnl').2 h))
    rw [ho] at hR
    refine AWP_cond2 rfl (fun _ => ?_) (fun h => by simp [he] at h)
    repeat first|((first|refine qa tOk rfl ?_|refine qb tOk rfl ?_|refine qc ?_|refine qd ?_|refine qe ?_);simp)|refine AWP_block ?_|refine AWP_seq ?_
    rw [← hR]
    exact ⟨H.length, rfl, Nat.le_refl _, by simp [dX], by simp, fun j hj => List.getElem?_append_left hj⟩
/-- The error behind everything. -/
def doneR (d : Dc) : Int := if d.e = 0 ∧ d.s ≠ [] then 3 else d.e
set_option maxHeartbeats 1000000 in
theorem fc_rdone (H : List AObj) (q : Nat) (d : Dc) (hd : H[q]? = some (dX d)) : FC Tryz.prog 84 [.vptr q 0] H (fun r H' => r = .i (doneR d) ∧ H' = H) := by
  refine FC_body tOk Tryz.func84 rfl Tryz.results84 rfl (by simp [Tryz.ntmps84]) ?_
  rw [Tryz.ntmps84]
  simp only [argSlots]
  have h0 : H[q]? = some (.vars [.str d.s, .i d.e]) := hd
  repeat first|((first|refine qa tOk rfl ?_|refine qb tOk rfl ?_|refine qc ?_|refine qd ?_|refine qe ?_);simp [h0])|refine AWP_block ?_|refine AWP_seq ?_
  unfold doneR
  by_cases h : d.e = 0 ∧ d.s ≠ []
  · rw [if_pos h]
    refine AWP_cond2 rfl (fun _ => ?_) (fun h' => by simp [h.1, h.2] at h')
    repeat first|((first|refine qa tOk rfl ?_|refine qb tOk rfl ?_|refine qc ?_|refine qd ?_|refine qe ?_);simp)|refine AWP_block ?_|refine AWP_seq ?_
  · rw [if_neg h]
    refine AWP_cond2 rfl (fun h' => by exfalso; apply h; simpa using h') (fun _ => ?_)
    repeat first|((first|refine qa tOk rfl ?_|refine qb tOk rfl ?_|refine qc ?_|refine qd ?_|refine qe ?_);simp [h0])|refine AWP_block ?_|refine AWP_seq ?_
attribute [local irreducible] openR
theorem openR_len (s : List UInt8) : (openR s).s.length ≤ s.length := by
  unfold openR
  split
  · simp
  · split
    · simp
    · split <;> simp
set_option maxHeartbeats 2000000 in
theorem pc_rDecode (s : List UInt8) (hs : s.length ≤ 1000000000) : PC Tryz.prog 45 [.str s] (fun r => r = .tup [avSnp (decodeR s).1, .i (decodeR s).2]) := by
  refine PC_body tOk Tryz.func45 rfl Tryz.results45 rfl (by simp [Tryz.ntmps45]) ?_
  rw [Tryz.ntmps45]
  simp only [argSlots]
  obtain ⟨R, hR⟩ : ∃ R, decodeR s = R := ⟨_, rfl⟩
  rw [hR]
  rw [← decode_ref, decodeBy] at hR
  repeat first|((first|refine qa tOk rfl ?_|refine qb tOk rfl ?_|refine qc ?_|refine qd ?_|refine qe ?_);simp)|refine AWP_block ?_|refine AWP_seq ?_
  refine AStep_FC rfl rfl (fc_ropen _ s hs) rfl ?_
  rintro _ G ⟨q, rfl, hq, k, hl, hk⟩
  have hol := openR_len s
  have c0 : G[0]? = some (.vars [.i 0, .nils, .nils]) := by rw [hk 0 (by simp)]; rfl
  have hq0 : 0 ≠ q := by simp at hq; omega
  have hst := sim_snp.2.1 (openR s)
  generalize openR s = d at *
  simp
  repeat first|((first|refine qa tOk rfl ?_|refine qb tOk rfl ?_|refine qc ?_|refine qd ?_|refine qe ?_);simp)|refine AWP_block ?_|refine AWP_seq ?_
  refine AStep_FC rfl rfl (fc_rtakeSnapshot G q d k (by omega)) rfl ?_
  rintro _ G1 ⟨rfl, k1, f1⟩
  have c1 := f1.kd c0 hq0
  generalize (rH.snp d).1 = v at *
  generalize (rH.snp d).2 = d1 at *
  simp
  repeat first|((first|refine qa tOk rfl ?_|refine qb tOk rfl ?_|refine qc ?_|refine qd ?_|refine qe ?_);simp)|refine AWP_block ?_|refine AWP_seq ?_
  refine AStep_FC rfl rfl (fc_rdone _ q d1 (get_app k1 _)) rfl ?_
  rintro _ _ ⟨rfl, rfl⟩
  simp
  repeat first|((first|refine qa tOk rfl ?_|refine qb tOk rfl ?_|refine qc ?_|refine qd ?_|refine qe ?_);simp)|refine AWP_block ?_|refine AWP_seq ?_
  have hr0 : R = if doneR d1 ≠ 0 then (zeroS, doneR d1) else (v, 0) := by
    rw [← hR]
    unfold doneR
    by_cases h1 : d.e ≠ 0
    · have h2 := hst h1
      rw [if_pos h1]
      have h3 : ¬ (d1.e = 0 ∧ d1.s ≠ []) := fun h => by rw [h2] at h; exact h1 h.1
      rw [if_neg h3, if_pos (by rw [h2]; exact h1), h2]
    · rw [if_neg h1]
      by_cases h2 : d1.e ≠ 0
      · have e1 : (if d1.e = 0 ∧ d1.s ≠ [] then (3 : Int) else d1.e) = d1.e := if_neg (fun h => h2 h.1)
        rw [e1, if_pos h2, if_pos h2]
      · rw [if_neg h2]
        have h20 : d1.e = 0 := by simpa using h2
        by_cases h3 : d1.s ≠ []
        · have e1 : (if d1.e = 0 ∧ d1.s ≠ [] then (3 : Int) else d1.e) = 3 := if_pos ⟨h20, h3⟩
          rw [e1, if_pos h3, if_pos (by decide)]
        · have e1 : (if d1.e = 0 ∧ d1.s ≠ [] then (3 : Int) else d1.e) = d1.e := if_neg (fun h => h3 h.2)
          rw [e1, if_neg h3, if_neg h2]
  clear hR
  generalize doneR d1 = e at *
  have cc : ∀ A : AObj, (G1 ++ [A])[0]? = some (.vars [.i 0, .nils, .nils]) := fun A => get_app c1 _
  have ca : ∀ (A : AObj) hh, (G1 ++ [A])[0]'hh = .vars [.i 0, .nils, .nils] := fun A hh => get_app' c1 _ hh
  have cs : ∀ A y : AObj, ((G1 ++ [A]).set 0 y)[0]? = some y := fun A y => get_self (cc A) y
  by_cases he : e ≠ 0
  · rw [if_pos he] at hr0
    refine AWP_cond2 rfl (fun _ => ?_) (fun h => by simp [he] at h)
    repeat first|((first|refine qa tOk rfl ?_|refine qb tOk rfl ?_|refine qc ?_|refine qd ?_|refine qe ?_);simp [cc, ca, cs])|refine AWP_block ?_|refine AWP_seq ?_
    rw [hr0]
    simp [zeroS]
  · rw [if_neg he] at hr0
    refine AWP_cond2 rfl (fun h => by exfalso; apply he; simpa using h) (fun _ => ?_)
    repeat first|((first|refine qa tOk rfl ?_|refine qb tOk rfl ?_|refine qc ?_|refine qd ?_|refine qe ?_);simp [cc, ca, cs])|refine AWP_block ?_|refine AWP_seq ?_
    rw [hr0]
    simp
end Go.Abs
