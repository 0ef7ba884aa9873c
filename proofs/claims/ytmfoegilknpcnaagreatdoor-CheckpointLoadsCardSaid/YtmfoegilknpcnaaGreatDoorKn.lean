/- Part Kn of the proof: an abstract machine over the model, and what the functions of the program hand back in its terms. No condition. -/
import Derived.Test.YtmfoegilknpcnaaGreatDoorKe
import Derived.Test.YtmfoegilknpcnaaGreatDoorKc
import Derived.Test.YtmfoegilknpcnaaGreatDoorKm
import Derived.Test.YtmfoegilknpcnaaGreatDoorKg
import Derived.Test.YtmfoegilknpcnaaGreatDoorKf
import Derived.Test.YtmfoegilknpcnaaGreatDoorKh
import Derived.Test.YtmfoegilknpcnaaGreatDoorKi
import Derived.Test.YtmfoegilknpcnaaGreatDoorKj
set_option linter.all false
set_option maxRecDepth 100000
namespace Go.Abs
open Go Go.Proofs
set_option linter.unusedSimpArgs false
def insStep (n : Int) (st : Bool × List Int) (x : Int) : Bool × List Int := if st.1 = false ∧ n < x then (true, st.2 ++ [n] ++ [x]) else (st.1, st.2 ++ [x])
def insSt (n : Int) (l : List Int) : Bool × List Int := l.foldl (insStep n) (false, [])
def insF (l : List Int) (n : Int) : List Int := if (insSt n l).1 then (insSt n l).2 else (insSt n l).2 ++ [n]
theorem insSt_take (n : Int) (l : List Int) (j : Nat) (h : j < l.length) : insSt n (l.take (j + 1)) = insStep n (insSt n (l.take j)) l[j] := by
  rw [List.take_succ_eq_append_getElem h, insSt, List.foldl_append]; rfl
theorem insSt_len (n : Int) (l : List Int) : (insSt n l).2.length ≤ 2 * l.length := by
  have key : ∀ (l : List Int) (st : Bool × List Int), (l.foldl (insStep n) st).2.length ≤ st.2.length + 2 * l.length := by
    intro l
    induction l with
    | nil => intro st; simp
    | cons x l ih =>
      intro st
      rw [List.foldl_cons]
      refine Nat.le_trans (ih _) ?_
      unfold insStep
      split <;> simp <;> omega
  have h := key l (false, [])
  unfold insSt
  simpa using h
theorem insSt_true (n : Int) : ∀ (l t : List Int), l.foldl (insStep n) (true, t) = (true, t ++ l)
  | [], t => by simp
  | x :: l, t => by
    rw [List.foldl_cons, insStep, if_neg (fun h => by cases h.1), insSt_true n l]
    simp
theorem insSt_gen (n : Int) : ∀ (l t : List Int), ∃ a b, l = a ++ b ∧ (∀ x ∈ a, x ≤ n) ∧ ((b = [] ∧ l.foldl (insStep n) (false, t) = (false, t ++ a)) ∨ (∃ y r, b = y :: r ∧ n < y ∧ l.foldl (insStep n) (false, t) = (true, t ++ a ++ n :: b)))
  | [], t => ⟨[], [], rfl, by simp, .inl ⟨rfl, by simp⟩⟩
  | x :: l, t => by
    rw [List.foldl_cons]
    by_cases h : n < x
    · refine ⟨[], x :: l, rfl, by simp, .inr ⟨x, l, rfl, h, ?_⟩⟩
      rw [insStep, if_pos ⟨rfl, h⟩, insSt_true]
      simp
    · obtain ⟨a, b, h1, h2, h3⟩ := insSt_gen n l (t ++ [x])
      have hs : insStep n (false, t) x = (false, t ++ [x]) := by rw [insStep, if_neg (fun h' => h h'.2)]
      rw [hs]
      refine ⟨x :: a, b, by rw [h1]; rfl, fun y hy => ?_, ?_⟩
      · rcases List.mem_cons.1 hy with rfl | hy
        · omega
        · exact h2 y hy
      · rcases h3 with ⟨h4, h5⟩ | ⟨y, r, h4, h5, h6⟩
        · exact .inl ⟨h4, by rw [h5]; simp⟩
        · exact .inr ⟨y, r, h4, h5, by rw [h6]; simp⟩
theorem insF_spec (n : Int) (l : List Int) : ∃ a b, l = a ++ b ∧ (∀ x ∈ a, x ≤ n) ∧ (b = [] ∨ ∃ y r, b = y :: r ∧ n < y) ∧ insF l n = a ++ n :: b := by
  obtain ⟨a, b, h1, h2, h3⟩ := insSt_gen n l []
  refine ⟨a, b, h1, h2, ?_, ?_⟩
  · rcases h3 with ⟨h, _⟩ | ⟨y, r, h, h', _⟩
    · exact .inl h
    · exact .inr ⟨y, r, h, h'⟩
  · rcases h3 with ⟨h, h'⟩ | ⟨y, r, h, _, h'⟩
    · rw [insF, insSt, h']; simp [h]
    · rw [insF, insSt, h']; simp
theorem insF_perm (n : Int) (l : List Int) : (insF l n).Perm (n :: l) := by
  obtain ⟨a, b, h1, _, _, h4⟩ := insF_spec n l
  rw [h4, h1]
  exact List.perm_middle
theorem insF_sorted (n : Int) {l : List Int} (h : l.Pairwise (fun a b => a ≤ b)) : (insF l n).Pairwise (fun a b => a ≤ b) := by
  obtain ⟨a, b, rfl, h2, h3, h4⟩ := insF_spec n l
  rw [h4]
  obtain ⟨p1, p2, p3⟩ := List.pairwise_append.1 h
  have hb : ∀ x ∈ b, n ≤ x := by
    rcases h3 with rfl | ⟨y, r, rfl, hy⟩
    · simp
    · intro x hx
      rcases List.mem_cons.1 hx with rfl | hx
      · omega
      · have := (List.pairwise_cons.1 p2).1 x hx; omega
  refine List.pairwise_append.2 ⟨p1, List.pairwise_cons.2 ⟨hb, p2⟩, fun x hx y hy => ?_⟩
  rcases List.mem_cons.1 hy with rfl | hy
  · exact h2 x hx
  · exact p3 x hx y hy
attribute [local irreducible] insStep
set_option maxHeartbeats 2000000 in
theorem pc_rinsert (l : List Int) (n : Int) (hl : l.length ≤ 1000000) : PC Tryz.prog 75 [.list (l.map encI), .i n] (fun r => r = .list ((insF l n).map encI)) := by
  refine PC_body tOk Tryz.func75 rfl Tryz.results75 rfl (by simp [Tryz.ntmps75]) ?_
  rw [Tryz.ntmps75]
  simp only [argSlots]
  obtain ⟨R, hR⟩ : ∃ R, insF l n = R := ⟨_, rfl⟩
  rw [hR]
  rw [insF] at hR
  repeat first|((first|refine qa tOk rfl ?_|refine qb tOk rfl ?_|refine qc ?_|refine qd ?_|refine qe ?_);simp)|refine AWP_block ?_|refine AWP_seq ?_
  refine AWP_nilSlot 5 3 1 rfl ?_
  simp
  refine AWP_loop (ALoop_keep (sl' := [(0, .list (l.map encI)), (1, .i n), (5, .sl 0 1 0 0), (6, .bool false), (7, .i 0)]) ?_ (by simp))
  refine ALoop_wf (P := Tryz.prog) (F := fun (u : Nat × Nat × List AObj) => ⟨[(0, .list (l.map encI)), (1, .i n), (5, .sl u.2.1 1 0 (insSt n (l.take u.1)).2.length), (6, .bool (insSt n (l.take u.1)).1), (7, .i u.1)], u.2.2⟩)
    (fun u => u.1 ≤ l.length ∧ u.2.2[u.2.1]? = some (.arr 3 1 ((insSt n (l.take u.1)).2.map encI))) (fun u => l.length - u.1) ?_ (0, 0, _) ⟨Nat.zero_le _, by simp [insSt]⟩
  rintro ⟨j, p, G⟩ ⟨g1, g2⟩ ih
  simp only at g1 g2 ih ⊢
  repeat first|((first|refine qa tOk rfl ?_|refine qb tOk rfl ?_|refine qc ?_|refine qd ?_|refine qe ?_);simp)|refine AWP_block ?_|refine AWP_seq ?_
  refine AWP_cond2 rfl (fun h => ?_) (fun h => ?_)
  · have hlt : j < l.length := by simpa using h
    have hw1 : IntKind.i64.wrap ((j : Int) + 1) = j + 1 := wrap_i64 _ (by omega) (by omega)
    have hst := insSt_take n l j hlt
    have hle := insSt_len n (l.take j)
    rw [List.length_take] at hle
    have hih := fun (p' : Nat) (G' : List AObj) => ih (j + 1, p', G')
    simp only [hst] at hih
    generalize insSt n (l.take j) = st at *
    obtain ⟨b, t⟩ := st
    have htl : t.length ≤ 2000000 := by simp at hle; omega
    simp only at g2 hih ⊢
    repeat first|((first|refine qa tOk rfl ?_|refine qb tOk rfl ?_|refine qc ?_|refine qd ?_|refine qe ?_);simp [hlt])|refine AWP_block ?_|refine AWP_seq ?_
    by_cases hc : b = false ∧ n < l[j]
    · refine AWP_cond2 rfl (fun _ => ?_) (fun h => by simp [hc.1, hc.2] at h)
      have hs : insStep n (b, t) l[j] = (true, t ++ [n] ++ [l[j]]) := by rw [insStep, if_pos hc]
      rw [hs] at hih
      have b6 : ∀ A : AObj, (G ++ [A])[p]? = some (AObj.arr 3 1 (t.map encI)) := fun A => get_app g2 _
      repeat first|((first|refine qa tOk rfl ?_|refine qb tOk rfl ?_|refine qc ?_|refine qd ?_|refine qe ?_);simp)|refine AWP_block ?_|refine AWP_seq ?_
      refine AStep_appendS tOk rfl rfl T27 rfl T3 rfl (by decide) (by decide) rfl rfl rfl ?_
      simp [b6, htl]
      refine ⟨by simp [appOk, b6, htl] <;> omega, ?_⟩
      have n2 : ((G ++ [AObj.arr 3 1 [AV.int .i64 n]]).set p .dead ++ [AObj.arr 3 1 (t.map encI ++ [AV.int .i64 n])])[G.length + 1]? = some (AObj.arr 3 1 (t.map encI ++ [AV.int .i64 n])) := by simp
      generalize (G ++ [AObj.arr 3 1 [AV.int .i64 n]]).set p .dead ++ [AObj.arr 3 1 (t.map encI ++ [AV.int .i64 n])] = G2 at *
      generalize G.length + 1 = P2 at *
      have b7 : ∀ A : AObj, (G2 ++ [A])[P2]? = some (AObj.arr 3 1 (t.map encI ++ [AV.int .i64 n])) := fun A => get_app n2 _
      repeat first|((first|refine qa tOk rfl ?_|refine qb tOk rfl ?_|refine qc ?_|refine qd ?_|refine qe ?_);simp [hlt])|refine AWP_block ?_|refine AWP_seq ?_
      refine AStep_appendS tOk rfl rfl T27 rfl T3 rfl (by decide) (by decide) rfl rfl rfl ?_
      simp [b7, htl]
      refine ⟨by simp [appOk, b7, htl] <;> omega, ?_⟩
      repeat first|((first|refine qa tOk rfl ?_|refine qb tOk rfl ?_|refine qc ?_|refine qd ?_|refine qe ?_);simp [hw1])|refine AWP_block ?_|refine AWP_seq ?_
      have key := hih (G2.length + 1) ((G2 ++ [AObj.arr 3 1 [encI l[j]]]).set P2 .dead ++ [AObj.arr 3 1 ((t ++ [n] ++ [l[j]]).map encI)]) ⟨by omega, get_new ..⟩ (by omega)
      simp at key
      exact ALoop_keep key (by simp)
    · refine AWP_cond2 rfl (fun h => by exfalso; apply hc; simpa using h) (fun _ => ?_)
      have hs : insStep n (b, t) l[j] = (b, t ++ [l[j]]) := by rw [insStep, if_neg hc]
      rw [hs] at hih
      have b6 : ∀ A : AObj, (G ++ [A])[p]? = some (AObj.arr 3 1 (t.map encI)) := fun A => get_app g2 _
      repeat first|((first|refine qa tOk rfl ?_|refine qb tOk rfl ?_|refine qc ?_|refine qd ?_|refine qe ?_);simp [hlt])|refine AWP_block ?_|refine AWP_seq ?_
      refine AStep_appendS tOk rfl rfl T27 rfl T3 rfl (by decide) (by decide) rfl rfl rfl ?_
      simp [b6, htl]
      refine ⟨by simp [appOk, b6, htl] <;> omega, ?_⟩
      repeat first|((first|refine qa tOk rfl ?_|refine qb tOk rfl ?_|refine qc ?_|refine qd ?_|refine qe ?_);simp [hw1])|refine AWP_block ?_|refine AWP_seq ?_
      have key := hih (G.length + 1) ((G ++ [AObj.arr 3 1 [encI l[j]]]).set p .dead ++ [AObj.arr 3 1 ((t ++ [l[j]]).map encI)]) ⟨by omega, get_new ..⟩ (by omega)
      simp at key
      exact ALoop_keep key (by simp)
  · have hge : j = l.length := by simp at h; omega
    subst hge
    have hle := insSt_len n l
    rw [List.take_length] at g2 ⊢
    generalize insSt n l = st at *
    obtain ⟨b, t⟩ := st
    have htl : t.length ≤ 2000000 := by simp at hle; omega
    simp only at g2 hR ⊢
    repeat first|((first|refine qa tOk rfl ?_|refine qb tOk rfl ?_|refine qc ?_|refine qd ?_|refine qe ?_);simp)|refine AWP_block ?_|refine AWP_seq ?_
    cases b with
    | true =>
      simp at hR
      refine AWP_cond2 rfl (fun h => by simp at h) (fun _ => ?_)
      refine AWP_freeze1 p g2 ?_
      simp
      try rw [List.take_of_length_le (by simp)]
      repeat first|((first|refine qa tOk rfl ?_|refine qb tOk rfl ?_|refine qc ?_|refine qd ?_|refine qe ?_);simp)|refine AWP_block ?_|refine AWP_seq ?_
      rw [← hR]
    | false =>
      simp at hR
      refine AWP_cond2 rfl (fun _ => ?_) (fun h => by simp at h)
      have b6 : ∀ A : AObj, (G ++ [A])[p]? = some (AObj.arr 3 1 (t.map encI)) := fun A => get_app g2 _
      repeat first|((first|refine qa tOk rfl ?_|refine qb tOk rfl ?_|refine qc ?_|refine qd ?_|refine qe ?_);simp)|refine AWP_block ?_|refine AWP_seq ?_
      refine AStep_appendS tOk rfl rfl T27 rfl T3 rfl (by decide) (by decide) rfl rfl rfl ?_
      simp [b6, htl]
      refine ⟨by simp [appOk, b6, htl] <;> omega, ?_⟩
      have n2 : ((G ++ [AObj.arr 3 1 [AV.int .i64 n]]).set p .dead ++ [AObj.arr 3 1 (t.map encI ++ [AV.int .i64 n])])[G.length + 1]? = some (AObj.arr 3 1 (t.map encI ++ [AV.int .i64 n])) := by simp
      refine AWP_freeze1 (G.length + 1) n2 ?_
      simp
      try rw [List.take_of_length_le (by simp)]
      repeat first|((first|refine qa tOk rfl ?_|refine qb tOk rfl ?_|refine qc ?_|refine qd ?_|refine qe ?_);simp)|refine AWP_block ?_|refine AWP_seq ?_
      rw [← hR]
      simp
end Go.Abs
set_option maxRecDepth 100000
namespace Go.Abs
open Go Go.Proofs
set_option linter.unusedSimpArgs false
def numsI (fs : List File) : List Int := (numsOf fs).foldl insF []
theorem foldl_ins (zs : List Int) : (zs.foldl insF []).Perm zs ∧ (zs.foldl insF []).Pairwise (fun a b => a ≤ b) := by
  have key : ∀ (zs acc : List Int), acc.Pairwise (fun a b => a ≤ b) → (zs.foldl insF acc).Perm (acc ++ zs) ∧ (zs.foldl insF acc).Pairwise (fun a b => a ≤ b) := by
    intro zs
    induction zs with
    | nil => intro acc h; simpa using h
    | cons z zs ih =>
      intro acc h
      rw [List.foldl_cons]
      obtain ⟨i1, i2⟩ := ih (insF acc z) (insF_sorted z h)
      refine ⟨i1.trans ?_, i2⟩
      refine ((insF_perm z acc).append_right zs).trans ?_
      exact (List.perm_middle (l₁ := acc) (a := z) (l₂ := zs)).symm
  simpa using key zs [] List.Pairwise.nil
theorem numsI_eq (d : Disk) : numsI d.files = numbersR d := by
  rw [numbersR, numsI, sortI]
  have h := foldl_ins (numsOf d.files)
  have h2 := List.pairwise_mergeSort (le := fun x y : Int => decide (x ≤ y)) (fun a b c h1 h2 => by simp at h1 h2 ⊢; omega) (fun a b => by simp; omega) (numsOf d.files)
  refine List.Perm.eq_of_pairwise (le := fun a b => a ≤ b) (fun a b _ _ h1 h2 => by omega) h.2 (h2.imp (fun h => by simpa using h)) (h.1.trans (List.mergeSort_perm _ _).symm)
theorem numsI_take (fs : List File) (j : Nat) (h : j < fs.length) : numsI (fs.take (j + 1)) = if (numbR preC fs[j].name).2 = true then insF (numsI (fs.take j)) (numbR preC fs[j].name).1 else numsI (fs.take j) := by
  rw [numsI, nums_take fs j h, List.foldl_append, numF]
  split <;> rfl
theorem numsI_len (fs : List File) : (numsI fs).length ≤ fs.length := by
  have := (foldl_ins (numsOf fs)).1.length_eq
  rw [numsI, this]
  exact nums_le fs
attribute [local irreducible] numbR insF
set_option maxHeartbeats 2000000 in
theorem pc_rNumbers (d : Disk) (hn : NL d.files) : PC Tryz.prog 41 [encD d] (fun r => r = .list ((numbersR d).map encI)) := by
  refine PC_body tOk Tryz.func41 rfl Tryz.results41 rfl (by simp [Tryz.ntmps41]) ?_
  rw [Tryz.ntmps41]
  simp only [argSlots]
  simp only [encD]
  rw [← numsI_eq]
  obtain ⟨hfl, hnl⟩ := hn
  generalize d.files = fs at *
  generalize d.space = sp at *
  repeat first|((first|refine qa tOk rfl ?_|refine qb tOk rfl ?_|refine qc ?_|refine qd ?_|refine qe ?_);simp)|refine AWP_block ?_|refine AWP_seq ?_
  refine AWP_nilList 3 rfl ?_
  simp
  refine AWP_count fs.length (fun j => [(1, .vptr 0 0), (2, .nils), (3, .list ((numsI (fs.take j)).map encI)), (4, .i j)]) (fun _ => [.vars [.list (fs.map encFl), .i sp]]) rfl (by simp) (by simp [numsI, numsOf]) (by simp) (by simp) ?_
  intro j hj ih
  repeat first|((first|refine qa tOk rfl ?_|refine qb tOk rfl ?_|refine qc ?_|refine qd ?_|refine qe ?_);simp)|refine AWP_block ?_|refine AWP_seq ?_
  refine AWP_cond2 rfl (fun h => ?_) (fun h => ?_)
  · have hlt : j < fs.length := by simpa using h
    have hnj := hnl fs[j] (List.getElem_mem hlt)
    have htk := numsI_take fs j hlt
    have hln := numsI_len (fs.take j)
    rw [List.length_take] at hln
    repeat first|((first|refine qa tOk rfl ?_|refine qb tOk rfl ?_|refine qc ?_|refine qd ?_|refine qe ?_);simp [hlt])|refine AWP_block ?_|refine AWP_seq ?_
    refine AStep_PC rfl rfl (by simp) (pc_rNumber fs[j].name hnj) rfl ?_
    rintro _ rfl
    simp [hlt]
    repeat first|((first|refine qa tOk rfl ?_|refine qb tOk rfl ?_|refine qc ?_|refine qd ?_|refine qe ?_);simp [hlt])|refine AWP_block ?_|refine AWP_seq ?_
    cases hb : (numbR preC fs[j].name).2 with
    | true =>
      rw [hb, if_pos rfl] at htk
      refine AWP_cond2 rfl (fun _ => ?_) (fun h => by simp at h)
      repeat first|((first|refine qa tOk rfl ?_|refine qb tOk rfl ?_|refine qc ?_|refine qd ?_|refine qe ?_);simp)|refine AWP_block ?_|refine AWP_seq ?_
      refine AStep_PC rfl rfl (by simp) (pc_rinsert (numsI (fs.take j)) (numbR preC fs[j].name).1 (by omega)) rfl ?_
      rintro _ rfl
      simp
      repeat first|((first|refine qa tOk rfl ?_|refine qb tOk rfl ?_|refine qc ?_|refine qd ?_|refine qe ?_);simp)|refine AWP_block ?_|refine AWP_seq ?_
      refine ALoop_end [] (ih hlt) (by simp) (by simp) ?_ (by simp) (by simp)
      simp [htk]
      exact wrap_i64 _ (by omega) (by omega)
    | false =>
      rw [hb, if_neg (by decide)] at htk
      refine AWP_cond2 rfl (fun h => by simp at h) (fun _ => ?_)
      repeat first|((first|refine qa tOk rfl ?_|refine qb tOk rfl ?_|refine qc ?_|refine qd ?_|refine qe ?_);simp)|refine AWP_block ?_|refine AWP_seq ?_
      refine ALoop_end [] (ih hlt) (by simp) (by simp) ?_ (by simp) (by simp)
      simp [htk]
      exact wrap_i64 _ (by omega) (by omega)
  · have hge : j = fs.length := by simp at h; omega
    subst hge
    repeat first|((first|refine qa tOk rfl ?_|refine qb tOk rfl ?_|refine qc ?_|refine qd ?_|refine qe ?_);simp)|refine AWP_block ?_|refine AWP_seq ?_
set_option maxHeartbeats 2000000 in
theorem pc_rList (d : Disk) (hnb : NB d.files) (hn : checkD d = 0 → NL d.files) : PC Tryz.prog 13 [encD d] (fun r => r = .tup [.list ((listR d).1.map encI), .i (listR d).2]) := by
  refine PC_body tOk Tryz.func13 rfl Tryz.results13 rfl (by simp [Tryz.ntmps13]) ?_
  rw [Tryz.ntmps13]
  simp only [argSlots]
  have pN := fun h => pc_rNumbers d (hn h)
  simp only [encD] at pN ⊢
  obtain ⟨R, hR⟩ : ∃ R, listR d = R := ⟨_, rfl⟩
  rw [hR]
  rw [listR] at hR
  repeat first|((first|refine qa tOk rfl ?_|refine qb tOk rfl ?_|refine qc ?_|refine qd ?_|refine qe ?_);simp)|refine AWP_block ?_|refine AWP_seq ?_
  refine AStep_PC rfl rfl (by simp) (dpc26 d hnb) rfl ?_
  rintro _ rfl
  simp
  repeat first|((first|refine qa tOk rfl ?_|refine qb tOk rfl ?_|refine qc ?_|refine qd ?_|refine qe ?_);simp)|refine AWP_block ?_|refine AWP_seq ?_
  by_cases hc : checkD d = 0
  rotate_left
  · rw [if_pos hc] at hR
    refine AWP_cond2 rfl (fun h => ?_) (fun h => by simp [hc] at h)
    repeat first|((first|refine qa tOk rfl ?_|refine qb tOk rfl ?_|refine qc ?_|refine qd ?_|refine qe ?_);simp)|refine AWP_block ?_|refine AWP_seq ?_
    rw [← hR]
    simp
  rw [if_neg (fun h => h hc)] at hR
  refine AWP_cond2 rfl (fun h => by simp [hc] at h) (fun h => ?_)
  repeat first|((first|refine qa tOk rfl ?_|refine qb tOk rfl ?_|refine qc ?_|refine qd ?_|refine qe ?_);simp)|refine AWP_block ?_|refine AWP_seq ?_
  refine AStep_PC rfl rfl (by simp) (pN hc) rfl ?_
  rintro _ rfl
  simp
  repeat first|((first|refine qa tOk rfl ?_|refine qb tOk rfl ?_|refine qc ?_|refine qd ?_|refine qe ?_);simp)|refine AWP_block ?_|refine AWP_seq ?_
  rw [← hR]
  simp
theorem read_volN {d : Disk} (hc : checkD d = 0) {n : Int} (h : n ∈ numbersR d) : readR d (nameC n) = (volN d n, 0) := by
  obtain ⟨h1, h2, i, h3, h4, h5⟩ := numbers_mem h
  have hv : validN n = 0 := (validN_iff n).2 ⟨h1, h2⟩
  have hnm : namedR d (nameC n) = 0 := by
    unfold namedR
    rw [if_pos hc, if_pos (nameC_ok hv)]
  rw [readR, if_pos hnm, h3, h5]
  simp [h4]
attribute [local irreducible] numbersR decodeR checkD nameR volN readR nameC
set_option maxHeartbeats 4000000 in
theorem pc_rLoad (d : Disk) (hnb : NB d.files) (hn : checkD d = 0 → NL d.files) (hv : checkD d = 0 → VL d.files) : PC Tryz.prog 15 [encD d] (fun r => r = .tup [avSnp (loadR d).1, .i (loadR d).2]) := by
  refine PC_body tOk Tryz.func15 rfl Tryz.results15 rfl (by simp [Tryz.ntmps15]) ?_
  rw [Tryz.ntmps15]
  simp only [argSlots]
  have pN := fun h => pc_rNumbers d (hn h)
  have hmem := fun (n : Int) (h : n ∈ numbersR d) => numbers_mem h
  have hrd := fun (h : checkD d = 0) (n : Int) (hn : n ∈ numbersR d) => read_volN h hn
  have pR := fun n => dpc22 d hnb (nameC n)
  simp only [encD] at pN pR ⊢
  obtain ⟨R, hR⟩ : ∃ R, loadR d = R := ⟨_, rfl⟩
  rw [hR]
  rw [loadR] at hR
  repeat first|((first|refine qa tOk rfl ?_|refine qb tOk rfl ?_|refine qc ?_|refine qd ?_|refine qe ?_);simp)|refine AWP_block ?_|refine AWP_seq ?_
  refine AStep_PC rfl rfl (by simp) (dpc26 d hnb) rfl ?_
  rintro _ rfl
  simp
  repeat first|((first|refine qa tOk rfl ?_|refine qb tOk rfl ?_|refine qc ?_|refine qd ?_|refine qe ?_);simp)|refine AWP_block ?_|refine AWP_seq ?_
  by_cases hc : checkD d = 0
  rotate_left
  · rw [if_pos hc] at hR
    refine AWP_cond2 rfl (fun h => ?_) (fun h => by simp [hc] at h)
    repeat first|((first|refine qa tOk rfl ?_|refine qb tOk rfl ?_|refine qc ?_|refine qd ?_|refine qe ?_);simp)|refine AWP_block ?_|refine AWP_seq ?_
    rw [← hR]
    simp [zeroS]
  rw [if_neg (fun h => h hc)] at hR
  refine AWP_cond2 rfl (fun h => by simp [hc] at h) (fun h => ?_)
  repeat first|((first|refine qa tOk rfl ?_|refine qb tOk rfl ?_|refine qc ?_|refine qd ?_|refine qe ?_);simp)|refine AWP_block ?_|refine AWP_seq ?_
  refine AStep_PC rfl rfl (by simp) (pN hc) rfl ?_
  rintro _ rfl
  simp
  have hrd := hrd hc
  have hvl := hv hc
  obtain ⟨hfl, hnl⟩ := hn hc
  have hLl : (numbersR d).length ≤ 100000 := by
    rw [← numsI_eq]
    exact Nat.le_trans (numsI_len d.files) hfl
  generalize numbersR d = L at *
  repeat first|((first|refine qa tOk rfl ?_|refine qb tOk rfl ?_|refine qc ?_|refine qd ?_|refine qe ?_);simp)|refine AWP_block ?_|refine AWP_seq ?_
  have hw0 : IntKind.i64.wrap ((L.length : Int) - 1) = L.length - 1 := wrap_i64 _ (by omega) (by omega)
  refine AWP_countI L.length (fun j => loadL d ((L.take (L.length - j)).reverse) = loadL d L.reverse) (fun j => [(1, .vptr 0 0), (2, .vptr 1 0), (3, .i 0), (5, .list (L.map encI)), (6, .i ((L.length : Int) - 1 - j))]) (fun _ => [.vars [.list (d.files.map encFl), .i d.space], .vars [.i 0, .nils, .nils]]) rfl (by simp) (by simp [hw0]) (by simp) (by simp) (by simp) ?_
  intro j hj hI ih
  repeat first|((first|refine qa tOk rfl ?_|refine qb tOk rfl ?_|refine qc ?_|refine qd ?_|refine qe ?_);simp)|refine AWP_block ?_|refine AWP_seq ?_
  refine AWP_cond2 rfl (fun h => ?_) (fun h => ?_)
  · have hlt : j < L.length := by simp at h; omega
    obtain ⟨k, hk⟩ : ∃ k, L.length = k + 1 + j := ⟨L.length - 1 - j, by omega⟩
    have hkl : k < L.length := by omega
    have hki : (L.length : Int) - 1 - j = k := by omega
    have hm := List.getElem_mem hkl
    have hget : L[k]? = some L[k] := List.getElem?_eq_getElem hkl
    rw [show L.length - j = k + 1 by omega, List.take_succ_eq_append_getElem hkl, List.reverse_append] at hI
    simp only [List.reverse_cons, List.reverse_nil, List.nil_append, List.cons_append] at hI
    rw [loadL] at hI
    obtain ⟨h1, h2, i, _, hil, hvo⟩ := hmem _ hm
    have hr0 := hrd _ hm
    have hn1 : nameR L[k] = (nameC L[k], 0) := by
      have hvn : validN L[k] = 0 := (validN_iff _).2 ⟨h1, h2⟩
      unfold nameR
      rw [if_neg (fun h => h hvn)]
    have hvk : (volN d L[k]).length ≤ 1000000000 := by rw [hvo]; exact hvl _ (List.getElem_mem hil)
    obtain ⟨n, hnn⟩ : ∃ n, L[k] = n := ⟨_, rfl⟩
    rw [hnn] at hI h1 h2 hr0 hn1 hvk hget
    have hnl2 := namesW n (by omega) (by omega)
    have pD := pc_rDecode (volN d n) hvk
    repeat first|((first|refine qa tOk rfl ?_|refine qb tOk rfl ?_|refine qc ?_|refine qd ?_|refine qe ?_);simp [hki, hnn, hkl])|refine AWP_block ?_|refine AWP_seq ?_
    refine AStep_PC rfl rfl (by simp) (pc_rName n (by omega) (by omega)) rfl ?_
    rintro _ rfl
    simp [hki, hn1]
    repeat first|((first|refine qa tOk rfl ?_|refine qb tOk rfl ?_|refine qc ?_|refine qd ?_|refine qe ?_);simp [hki])|refine AWP_block ?_|refine AWP_seq ?_
    refine AStep_PC rfl rfl (by simp) (pR n (by omega)) rfl ?_
    rintro _ rfl
    simp [hr0]
    repeat first|((first|refine qa tOk rfl ?_|refine qb tOk rfl ?_|refine qc ?_|refine qd ?_|refine qe ?_);simp)|refine AWP_block ?_|refine AWP_seq ?_
    refine AStep_PC rfl rfl (by simp) (pD) rfl ?_
    rintro _ rfl
    simp
    generalize decodeR (volN d n) = D at *
    repeat first|((first|refine qa tOk rfl ?_|refine qb tOk rfl ?_|refine qc ?_|refine qd ?_|refine qe ?_);simp)|refine AWP_block ?_|refine AWP_seq ?_
    refine AWP_drawT tOk mixed [] (.val 0 (.val 1 (.val 2 (.val 3 (.val 4 (.val 5 (.val 6 (.val 7 (.val 8 (.val 9 (.val 10 (.done)))))))))))) rfl (by kernel_rfl) ?_
    simp [hki, hnn, hkl]
    by_cases hok : D.2 = 0 ∧ D.1.number = n
    · rw [if_pos hok] at hI
      rw [← hI] at hR
      refine AWP_cond2 rfl (fun _ => ?_) (fun h => by simp [hok.1, hok.2] at h)
      repeat first|((first|refine qa tOk rfl ?_|refine qb tOk rfl ?_|refine qc ?_|refine qd ?_|refine qe ?_);simp)|refine AWP_block ?_|refine AWP_seq ?_
      rw [← hR]
      simp
    · rw [if_neg hok] at hI
      refine AWP_cond2 rfl (fun h => by exfalso; apply hok; simpa using h) (fun _ => ?_)
      repeat first|((first|refine qa tOk rfl ?_|refine qb tOk rfl ?_|refine qc ?_|refine qd ?_|refine qe ?_);simp)|refine AWP_block ?_|refine AWP_seq ?_
      refine ALoop_end _ (ih hlt (by rw [show L.length - (j + 1) = k by omega]; exact hI)) rfl (by simp) ?_ (by simp) (by simp)
      simp [hki]
      rw [wrap_i64 _ (by omega) (by omega)]; omega
  · have hge : j = L.length := by simp at h; omega
    subst hge
    rw [Nat.sub_self, List.take_zero, List.reverse_nil, loadL] at hI
    rw [← hI] at hR
    repeat first|((first|refine qa tOk rfl ?_|refine qb tOk rfl ?_|refine qc ?_|refine qd ?_|refine qe ?_);simp)|refine AWP_block ?_|refine AWP_seq ?_
    rw [← hR]
    simp [zeroS]
end Go.Abs
set_option maxRecDepth 100000
namespace Go.Abs
open Go Go.Proofs
set_option linter.unusedSimpArgs false
attribute [local irreducible] checkD listR loadR few
set_option maxHeartbeats 4000000 in
theorem law_Loads (d : Disk) (hd : DB d) : PC Tryz.prog 3 [encD d] (fun r => r = .bool true) := by
  refine PC_body tOk Tryz.func3 rfl Tryz.results3 rfl (by simp [Tryz.ntmps3]) ?_
  rw [Tryz.ntmps3]
  simp only [argSlots]
  have hvl : checkD d = 0 → VL d.files := fun h => good_vl (good_iff.1 h) (fun f hf => ⟨hd.dur f hf, hd.vol f hf⟩)
  have p1 := pc_cList d (fun h => nl_ok h)
  have p2 := pc_rList d hd.nb (fun h => nl_ok h)
  have p3 := pc_cLoad d (fun h => nl_ok h) hvl
  have p4 := pc_rLoad d hd.nb (fun h => nl_ok h) hvl
  have p5 := dpc20 (listR d).1 (listR d).1
  have p6 := pc_Same (loadR d).1
  simp only [encD, avSnp] at p1 p2 p3 p4 p5 p6 ⊢
  repeat first|((first|refine qa tOk rfl ?_|refine qb tOk rfl ?_|refine qc ?_|refine qd ?_|refine qe ?_);simp)|refine AWP_block ?_|refine AWP_seq ?_
  refine AStep_PC rfl rfl (by simp) (dpc11 d) rfl ?_
  rintro _ rfl
  simp
  repeat first|((first|refine qa tOk rfl ?_|refine qb tOk rfl ?_|refine qc ?_|refine qd ?_|refine qe ?_);simp)|refine AWP_block ?_|refine AWP_seq ?_
  refine AWP_cond2 rfl (fun h => ?_) (fun h => ?_)
  · repeat first|((first|refine qa tOk rfl ?_|refine qb tOk rfl ?_|refine qc ?_|refine qd ?_|refine qe ?_);simp)|refine AWP_block ?_|refine AWP_seq ?_
    refine AStep_PC rfl rfl (by simp) (pc_awake50) rfl ?_
    rintro _ rfl
    simp
    repeat first|((first|refine qa tOk rfl ?_|refine qb tOk rfl ?_|refine qc ?_|refine qd ?_|refine qe ?_);simp)|refine AWP_block ?_|refine AWP_seq ?_
  repeat first|((first|refine qa tOk rfl ?_|refine qb tOk rfl ?_|refine qc ?_|refine qd ?_|refine qe ?_);simp)|refine AWP_block ?_|refine AWP_seq ?_
  refine AStep_PC rfl rfl (by simp) (p1) rfl ?_
  rintro _ rfl
  simp
  repeat first|((first|refine qa tOk rfl ?_|refine qb tOk rfl ?_|refine qc ?_|refine qd ?_|refine qe ?_);simp)|refine AWP_block ?_|refine AWP_seq ?_
  refine AStep_PC rfl rfl (by simp) (p2) rfl ?_
  rintro _ rfl
  simp
  repeat first|((first|refine qa tOk rfl ?_|refine qb tOk rfl ?_|refine qc ?_|refine qd ?_|refine qe ?_);simp)|refine AWP_block ?_|refine AWP_seq ?_
  refine AStep_PC rfl rfl (by simp) (p3) rfl ?_
  rintro _ rfl
  simp
  repeat first|((first|refine qa tOk rfl ?_|refine qb tOk rfl ?_|refine qc ?_|refine qd ?_|refine qe ?_);simp)|refine AWP_block ?_|refine AWP_seq ?_
  refine AStep_PC rfl rfl (by simp) (p4) rfl ?_
  rintro _ rfl
  simp
  repeat first|((first|refine qa tOk rfl ?_|refine qb tOk rfl ?_|refine qc ?_|refine qd ?_|refine qe ?_);simp)|refine AWP_block ?_|refine AWP_seq ?_
  refine AStep_PC rfl rfl (by simp) (pc_awake50) rfl ?_
  rintro _ rfl
  simp
  refine AStep_PC rfl rfl (by simp) (p5) rfl ?_
  rintro _ rfl
  simp
  refine AStep_PC rfl rfl (by simp) (p6) rfl ?_
  rintro _ rfl
  simp
  repeat first|((first|refine qa tOk rfl ?_|refine qb tOk rfl ?_|refine qc ?_|refine qd ?_|refine qe ?_);simp)|refine AWP_block ?_|refine AWP_seq ?_
end Go.Abs
