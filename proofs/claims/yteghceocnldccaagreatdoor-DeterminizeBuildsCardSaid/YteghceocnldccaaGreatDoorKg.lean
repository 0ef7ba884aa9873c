/- Part Kg of the proof: an abstract machine over the model, and what the functions of the program hand back in its terms. No condition. -/
import Derived.Test.YteghceocnldccaaGreatDoorKf
import Derived.Test.YteghceocnldccaaGreatDoorKb
import Derived.Test.YteghceocnldccaaGreatDoorKc
import Derived.Lay
import Derived.LaidSub
import Derived.Deep.DeepWitnessRowRef
import Derived.Test.YteghceocnldccaaGreatDoorCards
import Derived.Test.YteghceocnldccaaGreatDoorTie
import Derived.Lib.LaidTab
import Derived.Test.YteghceocnldccaaGreatDoorKd
import Derived.Shelf.Vars
import Derived.Test.YteghceocnldccaaGreatDoorKe
set_option linter.all false
set_option maxRecDepth 100000
namespace Go.Abs
open Go Go.Proofs Go.Maps Go.RowKit
set_option linter.unusedSimpArgs false
theorem sub_facts {a : Aut} (h : (subF a).1 = 0) : OkA a ∧ ∃ cl Q, subF a = (0, cl, Q) ∧ subsR a cl = some Q ∧ Cls a cl ∧ Sub a cl Q ∧ cl.length ≤ 256 ∧ ∀ c ∈ cl, ownE [c] = 0 ∧ voidP c = false ∧ okSy a (leastS c) ∧ PWf a.types.toNat c ∧ ∀ s ∈ c, s.length ≤ 256 := by
 have h0 : ckAut a = 0 := by
  by_cases h0 : ckAut a = 0
  ·exact h0
  ·rw [sub_bad h0] at h; exact absurd h h0
 have hok := (ck_ok a).1 h0
 have hm : (mintF a.types (onA a)).1 = 0 := by
  by_cases hm : (mintF a.types (onA a)).1 = 0
  ·exact hm
  ·rw [subF, if_neg (fun k => k h0), if_pos hm] at h; exact absurd h hm
 obtain ⟨cl, h1, h2, h3, h4⟩ := cls_facts hok hm
 refine ⟨hok, cl, ?_⟩
 rcases sub_cases hok with h5 | ⟨Q, h5, h6, h7, h8⟩
 ·rw [h5] at h; simp at h
 ·have hcl : rClassesP a.types.toNat (onA a) = cl := by
   have h9 : (subF a).2.1 = cl := by
    rw [subF, if_neg (fun k => k h0), if_neg (fun k => k hm), h1]
    split
    ·rename_i hn
     rw [subF, if_neg (fun k => k h0), if_neg (fun k => k hm), h1] at h
     simp only [hn] at h; simp at h
    ·rfl
   rw [h5] at h9; exact h9
  rw [hcl] at h5 h6 h7 h8
  exact ⟨Q, h5, h6, h2, h7, h3, h4⟩
theorem fc_finB (H : List AObj) (id : Nat) (a : Aut) (hid : H[id]? = some (.vars (cellsA a))) (s : Int) (h0 : 0 ≤ s) (h1 : s < a.fin.length) : FC Tryz.prog 55 [.i s, .vptr id 0] H (fun r H' => r = .bool (a.fin.getD s.toNat false) ∧ H' = H) := by
 refine FC_body tOk Tryz.func55 rfl Tryz.results55 rfl (by simp [Tryz.ntmps55]) ?_
 rw [Tryz.ntmps55]
 simp only [argSlots]
 have h2 : s.toNat < a.fin.length := by omega
 repeat first|((first|refine qa tOk rfl ?_|refine qb tOk rfl ?_|refine qh rfl ?_);simp [hid, h0, h1, h2])|refine qf ?_|refine qg ?_
def stepG (a : Aut) (Q : List (List Int)) (n : Nat) (l : List Int) (g : List Mv) (c : Prd) : List Mv := match idxQ Q (nextL a l (leastS c)) with | some t => addMv n g t c | none => g
def grpTo' (a : Aut) (cl : List Prd) (Q : List (List Int)) (n : Nat) (l : List Int) (k : Nat) : List Mv := (cl.take k).foldl (stepG a Q n l) []
def mvTo (a : Aut) (cl : List Prd) (Q : List (List Int)) (n : Nat) : List Mv := (List.range n).flatMap fun n => grpMv a cl Q n (Q.getD n [])
theorem grpTo_all (a : Aut) (cl : List Prd) (Q : List (List Int)) (n : Nat) (l : List Int) : grpTo' a cl Q n l cl.length = grpMv a cl Q n l := by rw [grpTo', List.take_length]; rfl
theorem grpTo_snoc' (a : Aut) (cl : List Prd) (Q : List (List Int)) (n : Nat) (l : List Int) {k : Nat} {c : Prd} (h : cl[k]? = some c) : grpTo' a cl Q n l (k + 1) = stepG a Q n l (grpTo' a cl Q n l k) c := by
 have hk := get_ltI h
 have hc : cl[k] = c := by rw [List.getElem?_eq_getElem hk] at h; exact Option.some.inj h
 rw [grpTo', List.take_succ_eq_append_getElem hk, List.foldl_append, hc]; rfl
theorem mvTo_succ (a : Aut) (cl : List Prd) (Q : List (List Int)) (n : Nat) : mvTo a cl Q (n + 1) = mvTo a cl Q n ++ grpMv a cl Q n (Q.getD n []) := by simp [mvTo, List.range_succ]
theorem addMv_len (n : Nat) (g : List Mv) (to : Nat) (c : Prd) : (addMv n g to c).length ≤ g.length + 1 := by
 unfold addMv
 split
 ·simp
 ·split <;> simp
theorem grpMv_len (a : Aut) (Q : List (List Int)) (n : Nat) (l : List Int) : ∀ (cl : List Prd) (g : List Mv), (cl.foldl (stepG a Q n l) g).length ≤ g.length + cl.length
 | [], g => by simp
 | c :: cl, g => by
  have h1 := grpMv_len a Q n l cl (stepG a Q n l g c)
  have h2 : (stepG a Q n l g c).length ≤ g.length + 1 := by
   unfold stepG
   split
   ·exact addMv_len _ _ _ _
   ·omega
  rw [List.foldl_cons, List.length_cons]; omega
theorem grpTo_len (a : Aut) (cl : List Prd) (Q : List (List Int)) (n : Nat) (l : List Int) (hc : cl.length ≤ 256) (k : Nat) : (grpTo' a cl Q n l k).length ≤ 256 := by
 have := grpMv_len a Q n l (cl.take k) []
 rw [List.length_take] at this
 rw [grpTo']
 simp at this; omega
theorem mvTo_len (a : Aut) (cl : List Prd) (Q : List (List Int)) (hq : Q.length ≤ 256) (hc : cl.length ≤ 256) : ∀ n, n < Q.length → (mvTo a cl Q n).length ≤ n * 256 ∧ (mvTo a cl Q n).length ≤ 65536 := by
 have : ∀ n, (mvTo a cl Q n).length ≤ n * 256 := fun n => by
  induction n with
  | zero => simp [mvTo]
  | succ n ih =>
   have h := grpTo_len a cl Q n (Q.getD n []) hc cl.length
   rw [grpTo_all] at h
   have : mvTo a cl Q (n + 1) = mvTo a cl Q n ++ grpMv a cl Q n (Q.getD n []) := by simp [mvTo, List.range_succ]
   rw [this, List.length_append]; omega
 exact fun n hn => ⟨this n, by have := this n; omega⟩
theorem grpTo_zero (a : Aut) (cl : List Prd) (Q : List (List Int)) (n : Nat) (l : List Int) : grpTo' a cl Q n l 0 = [] := rfl
theorem step_nil {a : Aut} {Q : List (List Int)} (hne : ∀ l ∈ Q, l ≠ []) {n : Nat} {l : List Int} {g : List Mv} {c : Prd} (h : nextL a l (leastS c) = []) : stepG a Q n l g c = g := by
 unfold stepG
 rw [h]
 cases hq : idxQ Q [] with
 | none => rfl
 | some t => exact absurd rfl (hne _ (List.mem_of_getElem? (idxQ_some hq)))
theorem step_some {a : Aut} {Q : List (List Int)} (hn : Q.Nodup) {n t : Nat} {l : List Int} {g : List Mv} {c : Prd} (h : Q[t]? = some (nextL a l (leastS c))) : stepG a Q n l g c = addMv n g t c := by
 unfold stepG
 rw [idxQ_of hn h]
theorem addMv_wf {T n to : Nat} {g : List Mv} {c : Prd} (hg : ∀ m ∈ g, PWf T m.on) (hc : PWf T c) : ∀ m ∈ addMv n g to c, PWf T m.on := by
 intro m hm
 unfold addMv at hm
 split at hm
 ·rcases List.mem_append.1 hm with hm | hm
  ·exact hg m hm
  ·rw [List.mem_singleton.1 hm]; exact hc
 ·split at hm
  ·rename_i m2 hm2
   rcases List.mem_or_eq_of_mem_set hm with hm | rfl
   ·exact hg m hm
   ·exact wf_either (hg _ (List.mem_of_getElem? hm2)) hc
  ·exact hg m hm
theorem grpTo_wf {a : Aut} {T : Nat} {Q : List (List Int)} {n : Nat} {l : List Int} {cl : List Prd} (hcl : ∀ c ∈ cl, PWf T c) : ∀ k, ∀ m ∈ grpTo' a cl Q n l k, PWf T m.on := by
 have : ∀ (cl : List Prd) (g : List Mv), (∀ c ∈ cl, PWf T c) → (∀ m ∈ g, PWf T m.on) → ∀ m ∈ cl.foldl (stepG a Q n l) g, PWf T m.on := by
  intro cl
  induction cl with
  | nil => intro g _ hg; exact hg
  | cons c cl ih =>
   intro g hc hg
   refine ih _ (fun x hx => hc x (by simp [hx])) fun m hm => ?_
   unfold stepG at hm
   split at hm
   ·exact addMv_wf hg (hc c (by simp)) m hm
   ·exact hg m hm
 exact fun k => this _ _ (fun c hc => hcl c (List.mem_of_mem_take hc)) (fun m hm => by simp at hm)
def AObj.isLp : AObj → Bool
 | .lp .. => true
 | _ => false
theorem set_one {T : Nat} {c : Prd} (hw : PWf T c) (hz : ∀ s ∈ c, s.length ≤ 256) {i : Nat} (hi : i < T) : (setsAt [c] i).length ≤ 1000000 := by
 have h : i < c.length := by rw [hw.1]; exact hi
 have : setsAt [c] i = c[i] := by simp [setsAt, List.getD, h]
 rw [this]
 have := hz _ (List.getElem_mem h)
 omega
theorem set_two {T : Nat} {p c : Prd} (hp : PWf T p) (hw : PWf T c) (h1 : ∀ s ∈ p, s.length ≤ 65536) (hz : ∀ s ∈ c, s.length ≤ 256) {i : Nat} (hi : i < T) : (setsAt [p, c] i).length ≤ 1000000 := by
 have h : i < c.length := by rw [hw.1]; exact hi
 have h2 : i < p.length := by rw [hp.1]; exact hi
 have : setsAt [p, c] i = p[i] ++ c[i] := by simp [setsAt, List.getD, h, h2]
 rw [this, List.length_append]
 have := hz _ (List.getElem_mem h)
 have := h1 _ (List.getElem_mem h2)
 omega
theorem mvTo_all (a : Aut) (cl : List Prd) (Q : List (List Int)) : mvTo a cl Q Q.length = (detA a cl Q).mv := rfl
theorem detA_fin (a : Aut) (cl : List Prd) (Q : List (List Int)) : (detA a cl Q).fin = Q.map (finB a) := rfl
theorem detA_types (a : Aut) (cl : List Prd) (Q : List (List Int)) : (detA a cl Q).types = a.types := rfl
theorem limA_def (d : Aut) : limA d = if bigA d then (5, zeroA) else (0, d) := rfl
theorem mvTo_len2 (a : Aut) (cl : List Prd) (Q : List (List Int)) (hq : Q.length ≤ 256) (hc : cl.length ≤ 256) : (mvTo a cl Q Q.length).length ≤ 65536 := by
 have : ∀ n, (mvTo a cl Q n).length ≤ n * 256 := fun n => by
  induction n with
  | zero => simp [mvTo]
  | succ n ih =>
   have h := grpTo_len a cl Q n (Q.getD n []) hc cl.length
   rw [grpTo_all] at h
   rw [mvTo_succ, List.length_append]; omega
 have := this Q.length
 omega
theorem either_sz {p c : Prd} {A B : Nat} (hp : ∀ s ∈ p, s.length ≤ A) (hc : ∀ s ∈ c, s.length ≤ B) : ∀ s ∈ eitherP p c, s.length ≤ A + B := by
 intro s hs
 obtain ⟨i, hi, rfl⟩ := List.getElem_of_mem hs
 simp only [eitherP, List.length_zipWith] at hi
 simp only [eitherP, List.getElem_zipWith]
 refine Nat.le_trans (norm_le' _) ?_
 rw [List.length_append]
 have h1 := hp _ (List.getElem_mem (by omega : i < p.length))
 have h2 := hc _ (List.getElem_mem (by omega : i < c.length))
 omega
theorem grpTo_sz {a : Aut} {Q : List (List Int)} {n : Nat} {l : List Int} {cl : List Prd} (hcl : ∀ c ∈ cl, ∀ s ∈ c, s.length ≤ 256) (hln : cl.length ≤ 256) : ∀ k, ∀ m ∈ grpTo' a cl Q n l k, ∀ s ∈ m.on, s.length ≤ 65536 := by
 have key : ∀ (cl : List Prd) (g : List Mv) (B : Nat), (∀ c ∈ cl, ∀ s ∈ c, s.length ≤ 256) → (∀ m ∈ g, ∀ s ∈ m.on, s.length ≤ B) → ∀ m ∈ cl.foldl (stepG a Q n l) g, ∀ s ∈ m.on, s.length ≤ B + cl.length * 256 := by
  intro cl
  induction cl with
  | nil => intro g B _ hg m hm s hs; have := hg m hm s hs; simp; omega
  | cons c cl ih =>
   intro g B hc hg m hm s hs
   have h1 : ∀ m ∈ stepG a Q n l g c, ∀ s ∈ m.on, s.length ≤ B + 256 := by
    intro m hm s hs
    have hcc := hc c (by simp)
    unfold stepG addMv at hm
    split at hm
    ·split at hm
     ·rcases List.mem_append.1 hm with hm | hm
      ·have := hg m hm s hs; omega
      ·rw [List.mem_singleton.1 hm] at hs
       have := hcc s hs; omega
     ·split at hm
      ·rename_i m2 hm2
       rcases List.mem_or_eq_of_mem_set hm with hm | rfl
       ·have := hg m hm s hs; omega
       ·exact either_sz (hg _ (List.mem_of_getElem? hm2)) hcc s hs
      ·have := hg m hm s hs; omega
    ·have := hg m hm s hs; omega
   have := ih (stepG a Q n l g c) (B + 256) (fun x hx => hc x (by simp [hx])) h1 m hm s hs
   rw [List.length_cons]; omega
 intro k m hm s hs
 have := key (cl.take k) [] 0 (fun c hc => hcl c (List.mem_of_mem_take hc)) (fun m hm => by simp at hm) m hm s hs
 rw [List.length_take] at this
 have : min k cl.length ≤ 256 := by omega
 omega
theorem mvTo_zero (a : Aut) (cl : List Prd) (Q : List (List Int)) : mvTo a cl Q 0 = [] := rfl
attribute [local irreducible] subF nextL leastS mpT txtS limA detA mvTo grpTo' stepG finB bigA
set_option maxHeartbeats 8000000 in
theorem pc_Determinize (a : Aut) : PC Tryz.prog 18 [encA a] (fun r => r = .tup [encA (detF a).2, .i (detF a).1]) := by
 refine PC_body tOk Tryz.func18 rfl Tryz.results18 rfl (by simp [Tryz.ntmps18]) ?_
 rw [Tryz.ntmps18]
 simp only [argSlots]
 simp only [encA]
 repeat first|((first|refine qa tOk rfl ?_|refine qb tOk rfl ?_|refine qh rfl ?_);simp)|refine qf ?_|refine qg ?_
 have hfc := fc_subsets [.vars (cellsA a), .vars [.i 0, .nils, .nils]] a
 refine AStep_FC rfl rfl hfc rfl ?_
 rintro res H' ⟨hk, ⟨he, rfl⟩ | ⟨he, r, p, m, rfl, ht, hr, hp, hm⟩⟩
 ·have hd : detF a = ((subF a).1, zeroA) := by rw [detF, if_pos he]
  rw [hd]
  have k0 := hk 0 (by simp)
  have k1 := hk 1 (by simp)
  simp at k0 k1
  simp
  repeat first|((first|refine qa tOk rfl ?_|refine qb tOk rfl ?_|refine qh rfl ?_);simp [get_app k1])|refine qf ?_|refine qg ?_
  refine AWP_cond2 rfl (fun _ => ?_) (fun h => by simp at h; exact absurd h he)
  have k2 : ∀ L Y, ((H' ++ L).set 1 Y)[1]? = some Y := fun L Y => get_self (get_app k1 L) Y
  repeat first|((first|refine qa tOk rfl ?_|refine qb tOk rfl ?_|refine qh rfl ?_);simp [get_app k1, k2])|refine qf ?_|refine qg ?_
  exact ⟨rfl, rfl, rfl⟩
 ·obtain ⟨hok, cl, Q, hsf, hsr, hcls, hsub, hcln, hcf⟩ := sub_facts he
  have hd : detF a = limA (detA a cl Q) := by rw [detF, hsf]; simp
  rw [hd]
  rw [hsf] at ht
  simp only at ht
  have k0 := hk 0 (by simp)
  have k1 := hk 1 (by simp)
  simp at k0 k1
  have htt := ht.t
  have hts := ht.s
  simp
  repeat first|((first|refine qa tOk rfl ?_|refine qb tOk rfl ?_|refine qh rfl ?_);simp [get_app k1])|refine qf ?_|refine qg ?_
  refine AWP_cond2 rfl (fun h => by simp [he] at h) (fun _ => ?_)
  have k0a : ∀ (L : List AObj) hh, (H' ++ L)[0]'hh = .vars (cellsA a) := fun L hh => by have := get_app k0 L; rw [List.getElem?_eq_getElem hh] at this; exact Option.some.inj this
  have htt2 := fun L => get_app (G := L) htt
  repeat first|((first|refine qa tOk rfl ?_|refine qb tOk rfl ?_|refine qh rfl ?_);simp [get_app k0, k0a, htt2])|refine qf ?_|refine qg ?_
  have hrl := get_lt ht.t
  have hpl := get_lt ht.s
  have hml := get_lt ht.n
  refine AWP_keep (sl' := [(1, .vptr 0 0), (2, .vptr 1 0), (3, .i 0), (4, .vptr H'.length 0), (6, .vptr (H'.length + 1) 0), (30, .sl p 1 0 Q.length), (31, .i Q.length), (32, .i (0 : Nat))]) ?_ (by simp)
  refine AWP_nilCell (H'.length + 1) 1 4 1 (xs := [.i a.types, .nils, .nils]) (by rw [List.getElem?_append_right (by omega)]; simp) rfl ?_
  refine AWP_abs fun Z1 hZ1 => ?_
  have z1l : Z1.length = H'.length + 3 := by rw [hZ1]; simp
  have z1c : Z1[H'.length + 1]? = some (.vars [.i a.types, .sl (H'.length + 2) 1 0 0, .nils]) := by rw [hZ1, List.getElem?_set_self (by simp)]; simp
  have z1f : Z1[H'.length + 2]? = some (.arr 4 1 []) := by rw [hZ1, List.getElem?_set_ne (by omega), List.getElem?_append_right (by simp)]; simp
  have z1b : Z1[H'.length]? = some (.vars [.vptr r 0]) := by rw [hZ1, List.getElem?_set_ne (by omega), List.append_assoc, List.getElem?_append_right (by omega)]; simp
  have z1k : ∀ i, i < H'.length → Z1[i]? = H'[i]? := fun i hi => by rw [hZ1, List.getElem?_set_ne (by omega), List.append_assoc, List.getElem?_append_left hi]
  clear hZ1
  refine AWP_nilCell (H'.length + 1) 2 78 3 z1c rfl ?_
  refine AWP_abs fun Z2 hZ2 => ?_
  have z2c : Z2[H'.length + 1]? = some (.vars [.i a.types, .sl (H'.length + 2) 1 0 0, .sl (H'.length + 3) 3 0 0]) := by rw [hZ2, List.getElem?_set_self (by simp; omega)]; simp [z1l]
  have z2v : Z2[H'.length + 3]? = some (.arr 78 3 []) := by rw [hZ2, List.getElem?_set_ne (by omega), List.getElem?_append_right (by omega)]; simp [z1l]
  have z2k : ∀ i, i < Z1.length → i ≠ H'.length + 1 → Z2[i]? = Z1[i]? := fun i hi hne => by rw [hZ2, List.getElem?_set_ne (Ne.symm hne), List.getElem?_append_left hi]
  clear hZ2
  have hb := (z2k _ (by omega) (by omega)).trans z1b
  have hf0 := (z2k _ (by omega) (by omega)).trans z1f
  have hold : ∀ i, i < H'.length → Z2[i]? = H'[i]? := fun i hi => (z2k i (by omega) (by omega)).trans (z1k i hi)
  have h0' := (hold 0 (get_lt k0)).trans k0
  have h1' := (hold 1 (get_lt k1)).trans k1
  obtain ⟨fx0, hfx0⟩ : ∃ fx0 : List (Nat × AObj), fx0 = [(0, .vars (cellsA a)), (1, .vars [.i 0, .nils, .nils]), (H'.length, .vars [.vptr r 0]), (r, .vars [.i a.types, .list (a.fin.map .bool), .list (a.mv.map encMv), LP cl, .sl p 1 0 Q.length, .mref m]), (p, .arr 40 1 (LQ Q)), (m, mpT (Q.map txtS))] := ⟨_, rfl⟩
  have hFx : Fx fx0 Z2 := by
   rw [hfx0]
   intro x hx
   simp only [List.mem_cons, List.not_mem_nil, or_false] at hx
   rcases hx with rfl | rfl | rfl | rfl | rfl | rfl
   ·exact h0'
   ·exact h1'
   ·exact hb
   ·exact (hold r hrl).trans ht.t
   ·exact (hold p hpl).trans ht.s
   ·exact (hold m hml).trans ht.n
  have hQl := hsub.lim
  have okS : ∀ x ∈ Q, okSet x := fun x hx => by
   have he := hsub.elem x hx
   have := asc_len he.1 he.2
   have := hok.fin
   exact ⟨hsub.ne x hx, by omega, fun z hz => by have := he.2 z hz; omega⟩
  have hfin := hok.fin
  generalize H'.length + 1 = c at *
  generalize H'.length = b at *
  refine AWP_loop (ALoop_keep (sl' := [(1, .vptr 0 0), (2, .vptr 1 0), (3, .i 0), (4, .vptr b 0), (6, .vptr c 0), (30, .sl p 1 0 Q.length), (31, .i Q.length), (32, .i (0 : Nat))]) ?_ (by simp))
  refine ALoop_wf (F := fun (u : Nat × Nat × Nat × List AObj) => ⟨[(1, .vptr 0 0), (2, .vptr 1 0), (3, .i 0), (4, .vptr b 0), (6, .vptr c 0), (30, .sl p 1 0 Q.length), (31, .i Q.length), (32, .i u.1)], u.2.2.2⟩)
   (fun u => u.1 ≤ Q.length ∧ Fx fx0 u.2.2.2 ∧ u.2.2.2[c]? = some (.vars [.i a.types, .sl u.2.1 1 0 u.1, .sl u.2.2.1 3 0 (mvTo a cl Q u.1).length]) ∧ u.2.2.2[u.2.1]? = some (.arr 4 1 (((Q.take u.1).map (finB a)).map .bool)) ∧ u.2.2.2[u.2.2.1]? = some (.arr 78 3 ((mvTo a cl Q u.1).map encMv))) (fun u => Q.length - u.1) ?_ (0, _, _, Z2) ⟨by simp, hFx, by rw [mvTo_zero]; exact z2c, by simpa using hf0, by rw [mvTo_zero]; exact z2v⟩
  clear hFx z2c hf0 z2v hb h0' h1' hold z2k z1k z1b z1f z1c z1l
  clear Z2 Z1
  rintro ⟨n, f, v, G⟩ ⟨hn, hF, gc, gf, gv⟩ ih
  simp only at hn hF gc gf gv ih ⊢
  repeat first|((first|refine qa tOk rfl ?_|refine qb tOk rfl ?_|refine qh rfl ?_);simp)|refine qf ?_|refine qg ?_
  refine AWP_cond2 rfl (fun hlt => ?_) (fun hge => ?_)
  ·have hlt' : n < Q.length := by simpa using hlt
   have hw : IntKind.i64.wrap ((n : Int) + 1) = n + 1 := wrap_i64 _ (by omega) (by omega)
   have gs : G[p]? = some (.arr 40 1 (LQ Q)) := hF (p, _) (by rw [hfx0]; simp)
   repeat first|((first|refine qa tOk rfl ?_|refine qb tOk rfl ?_|refine qh rfl ?_);simp [gs, hlt'])|refine qf ?_|refine qg ?_
   have hlm := List.getElem_mem hlt'
   have hle := hsub.elem _ hlm
   have hgQ : Q.getD n [] = Q[n] := by simp [List.getD, hlt']
   have hmv := mvTo_succ a cl Q n
   have htk : (Q.take (n + 1)).map (finB a) = (Q.take n).map (finB a) ++ [finB a Q[n]] := by rw [List.take_succ_eq_append_getElem hlt', List.map_append]; rfl
   rw [hgQ] at hmv
   have hml2 := (mvTo_len a cl Q (hsub.lim) hcln n hlt').2
   have hclos := hsub.closed _ hlm
   have hll := asc_len hle.1 hle.2
   have gac := fun L => get_app (G := L) gc
   have g0 : ∀ L, (G ++ L)[0]? = some (.vars (cellsA a)) := fun L => get_app (hF (0, _) (by rw [hfx0]; simp)) L
   have gtl : ((Q.take n).map (finB a)).length = n := by simp; omega
   generalize Q[n] = l at *
   have wF := hF.app [.vars [.i n]]
   have wc := get_app gc [.vars [.i n]]
   have wf := get_app gf [.vars [.i n]]
   have wv := get_app gv [.vars [.i n]]
   have w7 : (G ++ [AObj.vars [.i n]])[G.length]? = some (.vars [.i n]) := by simp
   have w0 := g0 [.vars [.i n]]
   refine AWP_keep (sl' := [(1, .vptr 0 0), (2, .vptr 1 0), (3, .i 0), (4, .vptr b 0), (6, .vptr c 0), (7, .vptr G.length 0), (8, LI l), (30, .sl p 1 0 Q.length), (31, .i Q.length), (32, .i n)]) ?_ (by simp)
   generalize G.length = n7 at *
   generalize G ++ [AObj.vars [.i n]] = W at *
   clear g0 gac gs gc gf gv hF
   clear G
   have hfn1 : ((Q.take (n + 1)).map (finB a)).map AV.bool = ((Q.take n).map (finB a)).map AV.bool ++ [.bool (finB a l)] := by rw [htk]; simp
   have hxl : (((Q.take n).map (finB a)).map AV.bool).length = n := by rw [List.length_map]; exact gtl
   generalize ((Q.take n).map (finB a)).map AV.bool = xs at *
   have hcf' : c ≠ f := fun e => by rw [e, wf] at wc; simp at wc
   have hcv : c ≠ v := fun e => by rw [e, wv] at wc; simp at wc
   have hfv : f ≠ v := fun e => by rw [e, wv] at wf; simp at wf
   have hc7 : c ≠ n7 := fun e => by rw [e, w7] at wc; simp at wc
   have hf7 : f ≠ n7 := fun e => by rw [e, w7] at wf; simp at wf
   have hfx1 : ∀ p ∈ fx0, p.2 ≠ .vars [.i a.types, .sl f 1 0 n, .sl v 3 0 (mvTo a cl Q n).length] := by rw [hfx0]; simp [mpT_def]
   have hfx2 : ∀ p ∈ fx0, p.2 ≠ .arr 4 1 xs := by rw [hfx0]; simp [mpT_def]
   have hcl := get_lt wc
   have hfl := get_lt wf
   have hvl := get_lt wv
   have h7l := get_lt w7
   have wfx := wF.set wf hfx2 .dead
   have wc2 : ∀ L, (W.set f .dead ++ L)[c]? = some (.vars [.i a.types, .sl f 1 0 n, .sl v 3 0 (mvTo a cl Q n).length]) := fun L => get_app (get_set (Ne.symm hcf') wc _) L
   refine AWP_drawF (P := Tryz.prog) tOk mixed [4, 6, 8] (.val 0 (.val 2 (.val 3 (.two 1 (.one 4 (.one 5 (.one 6 (.val 7 (.one 8 (.done)))))) 4 (.val 1 (.one 5 (.one 6 (.val 7 (.one 8 (.done)))))))))) (fun S' => ∃ f', Fx fx0 S'.hp ∧ S'.hp[n7]? = some (.vars [.i n]) ∧ S'.hp[c]? = some (.vars [.i a.types, .sl f' 1 0 (n + 1), .sl v 3 0 (mvTo a cl Q n).length]) ∧ S'.hp[f']? = some (.arr 4 1 (xs ++ [.bool (finB a l)])) ∧ S'.hp[v]? = some (.arr 78 3 ((mvTo a cl Q n).map encMv)) ∧ look S'.sl 1 = some (.vptr 0 0) ∧ look S'.sl 2 = some (.vptr 1 0) ∧ look S'.sl 3 = some (.i 0) ∧ look S'.sl 4 = some (.vptr b 0) ∧ look S'.sl 6 = some (.vptr c 0) ∧ look S'.sl 7 = some (.vptr n7 0) ∧ look S'.sl 8 = some (LI l) ∧ look S'.sl 30 = some (.sl p 1 0 Q.length) ∧ look S'.sl 31 = some (.i Q.length) ∧ look S'.sl 32 = some (.i n)) rfl (by kernel_rfl) ?_ ?_
   ·simp [wc]
    refine ⟨?_, ?_⟩
    all_goals
     refine AStep_FC rfl rfl (fc_ContainsF W l 55 (.vptr 0 0) (fun s => a.fin.getD s.toNat false) (by omega) (fun z hz => fc_finB W 0 a w0 z (hle.2 z hz).1 (hle.2 z hz).2)) rfl ?_
     rintro _ H2 ⟨rfl, hH2⟩
     rw [hH2]
     have hfb : l.any (fun s => a.fin.getD s.toNat false) = finB a l := by unfold finB; rfl
     rw [hfb]
     simp [wc]
     refine AStep_appendS tOk rfl rfl T22 rfl T4 rfl (by decide) (by decide) rfl rfl rfl ?_
     simp [get_app wf, set_app wf, hxl, wc2, get_app wc]
     refine ⟨by simp [appOk, get_app wf, set_app wf, hxl, wc2, get_app wc] <;> omega, ?_⟩
     refine ⟨?_, ?_, W.length + 1, ?_, ?_, ?_⟩
     ·exact (wfx.app _).set (wc2 _) hfx1 _
     ·rw [List.getElem?_set_ne hc7, List.getElem?_append_left (by simpa using h7l), List.getElem?_set_ne hf7]; exact w7
     ·rw [List.getElem?_set_self (by simp; omega)]
     ·rw [List.getElem?_set_ne (by omega), List.getElem?_append_right (by simp)]; simp
     ·rw [List.getElem?_set_ne hcv, List.getElem?_append_left (by simpa using hvl), List.getElem?_set_ne hfv]; exact wv
   ·rintro ⟨sl, E⟩ ⟨f', eF, e7, ec, ef, ev, s1, s2, s3, s4, s6, s7, s8, s30, s31, s32⟩
    simp only at eF e7 ec ef ev s1 s2 s3 s4 s6 s7 s8 s30 s31 s32
    refine AWP_keep (sl' := [(1, .vptr 0 0), (2, .vptr 1 0), (3, .i 0), (4, .vptr b 0), (6, .vptr c 0), (7, .vptr n7 0), (8, LI l), (30, .sl p 1 0 Q.length), (31, .i Q.length), (32, .i n)]) ?_ (by simp [s1, s2, s3, s4, s6, s7, s8, s30, s31, s32])
    clear s1 s2 s3 s4 s6 s7 s8 s30 s31 s32 wfx wc2 hfx1 hfx2 hcl hfl hvl h7l hcf' hcv hfv hc7 hf7 w0 w7 wv wf wc wF
    have eb : E[b]? = some (.vars [.vptr r 0]) := eF (b, _) (by rw [hfx0]; simp)
    repeat first|((first|refine qa tOk rfl ?_|refine qb tOk rfl ?_|refine qh rfl ?_);simp [ec, get_app eb])|refine qf ?_|refine qg ?_
    have hst1 : ∀ g c, nextL a l (leastS c) = [] → stepG a Q n l g c = g := fun g c hx => step_nil hsub.ne hx
    have hst2 : ∀ g c t, Q[t]? = some (nextL a l (leastS c)) → stepG a Q n l g c = addMv n g t c := fun g c t hx => step_some hsub.nd hx
    have hgs := fun k c hc => grpTo_snoc' a cl Q n l (k := k) (c := c) hc
    have hgl := fun k => grpTo_len a cl Q n l hcln k
    have hg0 : grpTo' a cl Q n l 0 = [] := grpTo_zero a cl Q n l
    have hga := grpTo_all a cl Q n l
    have hgw : ∀ k, ∀ m ∈ grpTo' a cl Q n l k, PWf a.types.toNat m.on := grpTo_wf (fun c hc => (hcf c hc).2.2.2.1)
    have hgz : ∀ k, ∀ m ∈ grpTo' a cl Q n l k, ∀ s ∈ m.on, s.length ≤ 65536 := grpTo_sz (fun c hc => (hcf c hc).2.2.2.2) hcln
    have ih' := fun f v G => ih (n + 1, f, v, G)
    simp only [hmv, ← hga, hfn1] at ih'
    clear ih
    generalize mvTo a cl Q n = pre at *
    refine AStep_FC rfl rfl (fc_successors _ r l) rfl ?_
    rintro _ _ ⟨rfl, rfl⟩
    simp
    repeat first|((first|refine qa tOk rfl ?_|refine qb tOk rfl ?_|refine qh rfl ?_);simp)|refine qf ?_|refine qg ?_
    obtain ⟨fx1, hfx1⟩ : ∃ fx1 : List (Nat × AObj), fx1 = fx0 ++ [(n7, .vars [.i n]), (E.length, .vars [.i pre.length]), (E.length + 1, .vars [.vptr r 0]), (E.length + 2, .vars [LI l]), (f', .arr 4 1 (xs ++ [.bool (finB a l)]))] := ⟨_, rfl⟩
    refine AWP_rangeFunc rfl (Rf := fun _ H' => ∃ v, Fx fx1 H' ∧ H'[c]? = some (.vars [.i a.types, .sl f' 1 0 (n + 1), .sl v 3 0 (pre ++ grpTo' a cl Q n l cl.length).length]) ∧ H'[v]? = some (.arr 78 3 ((pre ++ grpTo' a cl Q n l cl.length).map encMv)) ∧ ∃ sl' ps' a' b', H'[E.length + 3]? = some (.lp true none 100 sl' ps' a' b')) ?_ ?_
    ·simp
     refine gen_FC fun H1 hH1 => ?_
     have hF1 : Fx fx1 H1 := by
      rw [hfx1, hH1]
      intro x hx
      rcases List.mem_append.1 hx with hx | hx
      ·exact (eF.app _) x hx
      ·simp only [List.mem_cons, List.not_mem_nil, or_false] at hx
       rcases hx with rfl | rfl | rfl | rfl | rfl
       ·exact get_app e7 _
       ·rw [List.getElem?_append_right (by simp)]; simp
       ·rw [List.getElem?_append_right (by simp)]; simp
       ·rw [List.getElem?_append_right (by simp)]; simp
       ·exact get_app ef _
     have fc : H1[c]? = some (.vars [.i a.types, .sl f' 1 0 (n + 1), .sl v 3 0 pre.length]) := by rw [hH1]; exact get_app ec _
     have fv : H1[v]? = some (.arr 78 3 (pre.map encMv)) := by rw [hH1]; exact get_app ev _
     have fq := congrArg (fun h : List AObj => h[E.length + 3]?) hH1
     simp at fq
     clear hH1
     refine FC.mono (fc_succ1 a hok cl l (fun c hc => ⟨(hcf c hc).1, (hcf c hc).2.1, (hcf c hc).2.2.1⟩) hcln (E.length + 3) (E.length + 1) (E.length + 2) r (by rfl) (by rfl)
      (fun k H' => ∃ v, Fx fx1 H' ∧ H'[c]? = some (.vars [.i a.types, .sl f' 1 0 (n + 1), .sl v 3 0 (pre ++ grpTo' a cl Q n l k).length]) ∧ H'[v]? = some (.arr 78 3 ((pre ++ grpTo' a cl Q n l k).map encMv)) ∧ H'[E.length + 3]? = H1[E.length + 3]?)
      (fun k H' ⟨v', h1, h2, h3, h4⟩ => ⟨h4.trans fq, h1 (E.length + 1, _) (by rw [hfx1]; simp), h1 (E.length + 2, _) (by rw [hfx1]; simp), [.sl p 1 0 Q.length, .mref m], h1 (r, _) (by rw [hfx1, hfx0]; simp)⟩) ?_ ?_ ?_ H1 ⟨v, hF1, by rw [hg0, List.append_nil]; exact fc, by rw [hg0, List.append_nil]; exact fv, rfl⟩) ?_
     ·rintro k H' L ⟨v', h1, h2, h3, h4⟩
      exact ⟨v', h1.app L, get_app h2 L, get_app h3 L, by rw [← h4, List.getElem?_append_left (by rw [fq] at h4; exact get_lt h4)]⟩
     ·rintro k cc H' hc hnx ⟨v', h1, h2, h3, h4⟩
      have := hst1 (grpTo' a cl Q n l k) cc hnx
      rw [← hgs k cc hc] at this
      exact ⟨v', h1, by rw [this]; exact h2, by rw [this]; exact h3, h4⟩
     ·rintro k cc H' hc hnx ⟨v', h1, h2, h3, h4⟩
      rw [hgs k cc hc]
      have hccm := List.mem_of_getElem? hc
      have hin : nextL a l (leastS cc) ∈ Q := (hclos cc hccm).resolve_left hnx
      have hst3 := hst2 (grpTo' a cl Q n l k) cc
      have hgl2 := hgl k
      have hgw2 := hgw k
      have hgz2 := hgz k
      have hcc := hcf cc hccm
      generalize nextL a l (leastS cc) = nx at *
      generalize stepG a Q n l (grpTo' a cl Q n l k) cc = g2 at *
      generalize grpTo' a cl Q n l k = g at *
      simp [putMany]
      have h8 := h4.trans fq
      obtain ⟨LP0, hLP0⟩ : ∃ LP0, H1[E.length + 3]? = some LP0 := ⟨_, fq⟩
      have hLPl : LP0.isLp = true := by rw [fq] at hLP0; injection hLP0 with e; rw [← e]; rfl
      have hfq2 : H'[E.length + 3]? = some LP0 := h4.trans hLP0
      have hfx8 : ∀ p ∈ fx1, p.2 ≠ LP0 := fun p hp e => by
       rw [← e] at hLPl
       rw [hfx1, hfx0] at hp
       simp only [List.mem_append, List.mem_cons, List.not_mem_nil, or_false] at hp
       rcases hp with (rfl | rfl | rfl | rfl | rfl | rfl) | (rfl | rfl | rfl | rfl | rfl) <;> simp [AObj.isLp, mpT_def] at hLPl
      have y1 := h1.set hfq2 hfx8 .dead
      have hqc : E.length + 3 ≠ c := fun e => by rw [e, h2] at hfq2; injection hfq2 with e2; rw [← e2] at hLPl; simp [AObj.isLp] at hLPl
      have hqv : E.length + 3 ≠ v' := fun e => by rw [e, h3] at hfq2; injection hfq2 with e2; rw [← e2] at hLPl; simp [AObj.isLp] at hLPl
      have y2 := get_set hqc h2 .dead
      have y3 := get_set hqv h3 .dead
      have y4 := get_self hfq2 .dead
      generalize H'.set (E.length + 3) .dead = Y at *
      have yb : Y[b]? = some (.vars [.vptr r 0]) := y1 (b, _) (by rw [hfx1, hfx0]; simp)
      have y0 : Y[0]? = some (.vars (cellsA a)) := y1 (0, _) (by rw [hfx1, hfx0]; simp)
      have y7 : Y[n7]? = some (.vars [.i n]) := y1 (n7, _) (by rw [hfx1]; simp)
      have y9 : Y[E.length]? = some (.vars [.i pre.length]) := y1 (E.length, _) (by rw [hfx1]; simp)
      have yt : TB r p m a cl Q Y := ⟨y1 (r, _) (by rw [hfx1, hfx0]; simp), y1 (p, _) (by rw [hfx1, hfx0]; simp), y1 (m, _) (by rw [hfx1, hfx0]; simp)⟩
      repeat first|((first|refine qa tOk rfl ?_|refine qb tOk rfl ?_|refine qh rfl ?_);simp [get_app yb])|refine qf ?_|refine qg ?_
      refine AStep_FC rfl rfl (fc_find _ r p m a cl Q nx (yt.keep fun j hj => ?_) (okS nx hin) okS (by omega)) rfl ?_
      ·have : j < Y.length := by
        rcases hj with rfl | rfl | rfl
        ·exact get_lt yt.t
        ·exact get_lt yt.s
        ·exact get_lt yt.n
       exact List.getElem?_append_left this
      rintro res Z ⟨t, p2, rfl, htx, -, -, -, hZ, -⟩
      rw [hZ hin]
      have hadd : addQ Q nx = Q := by rw [addQ, if_pos hin]
      rw [hadd] at htx
      rw [hst3 t htx]
      clear hZ
      simp
      repeat first|((first|refine qa tOk rfl ?_|refine qb tOk rfl ?_|refine qh rfl ?_);simp [get_app y2, get_app y9])|refine qf ?_|refine qg ?_
      have hvm : ∀ M, (Y ++ M)[v']? = some (.arr 78 3 ((pre ++ g).map encMv)) := fun M => get_app y3 M
      refine AStep_FC rfl rfl (fc_IndexM (Y ++ [AObj.vars [.list (cc.map encL)], .vars [.i t]]) v' pre.length t (Y.length + 1) pre g (by rw [List.getElem?_append_right (by omega)]; simp) (hvm _) (by omega) rfl) rfl ?_
      rintro _ _ ⟨rfl, L, rfl⟩
      simp
      repeat first|((first|refine qa tOk rfl ?_|refine qb tOk rfl ?_|refine qh rfl ?_);simp)|refine qf ?_|refine qg ?_
      have w1 := y1.app ([AObj.vars [.list (cc.map encL)], .vars [.i t]] ++ L)
      have w2 := get_app y2 ([AObj.vars [.list (cc.map encL)], .vars [.i t]] ++ L)
      have w3 := hvm ([AObj.vars [.list (cc.map encL)], .vars [.i t]] ++ L)
      have w4 := get_app y4 ([AObj.vars [.list (cc.map encL)], .vars [.i t]] ++ L)
      have w5 : (Y ++ ([AObj.vars [.list (cc.map encL)], .vars [.i t]] ++ L))[Y.length]? = some (.vars [.list (cc.map encL)]) := by rw [List.getElem?_append_right (by omega)]; simp
      have w6 : (Y ++ ([AObj.vars [.list (cc.map encL)], .vars [.i t]] ++ L))[Y.length + 1]? = some (.vars [.i t]) := by rw [List.getElem?_append_right (by omega)]; simp
      have w7 := get_app y7 ([AObj.vars [.list (cc.map encL)], .vars [.i t]] ++ L)
      have w0 := get_app y0 ([AObj.vars [.list (cc.map encL)], .vars [.i t]] ++ L)
      have w9 := get_app y9 ([AObj.vars [.list (cc.map encL)], .vars [.i t]] ++ L)
      have hTn : ((a.types.toNat : Nat) : Int) = a.types := by have := hok.types; omega
      simp only [List.cons_append, List.nil_append] at w0 w1 w2 w3 w4 w5 w6 w7 w9
      generalize Y ++ AObj.vars [.list (cc.map encL)] :: AObj.vars [.i t] :: L = W at *
      generalize Y.length + 1 = i12 at *
      generalize Y.length = i10 at *
      have hfd : ∀ p ∈ fx1, p.2 ≠ .dead := by rw [hfx1, hfx0]; simp [mpT_def]
      have hfc1 : ∀ p ∈ fx1, p.2 ≠ .vars [.i a.types, .sl f' 1 0 (n + 1), .sl v' 3 0 (pre.length + g.length)] := by rw [hfx1, hfx0]; simp [mpT_def]
      have hfv1 : ∀ p ∈ fx1, p.2 ≠ .arr 78 3 ((pre ++ g).map encMv) := by rw [hfx1, hfx0]; simp [mpT_def]
      rw [List.length_append] at w2
      have hvc : v' ≠ c := fun e => by rw [e, w2] at w3; simp at w3
      have hvq : v' ≠ E.length + 3 := fun e => by rw [e, w4] at w3; simp at w3
      have hcq : c ≠ E.length + 3 := fun e => by rw [e, w4] at w2; simp at w2
      have lc := get_lt w2
      have lv := get_lt w3
      have lq := get_lt w4
      refine AWP_keep (sl' := [(1, .vptr 0 0), (6, .vptr c 0), (7, .vptr n7 0), (9, .vptr E.length 0), (10, .vptr i10 0), (12, .vptr i12 0), (13, .i (idxM g t)), (63, .bool (decide (idxM g t < 0)))]) ?_ (by simp)
      cases hfi : g.findIdx? fun m : Mv => decide (m.dst = (t : Int)) with
      | none =>
       have hix : idxM g t = -1 := by rw [idxM, hfi]
       have hadv : addMv n g t cc = g ++ [⟨n, t, cc⟩] := by rw [addMv, hfi]
       rw [hix, hadv]
       refine AWP_cond rfl ?_
       simp
       repeat first|((first|refine qa tOk rfl ?_|refine qb tOk rfl ?_|refine qh rfl ?_);simp)|refine qf ?_|refine qg ?_
       refine AWP_drawT tOk mixed [11, 13] (.val 0 (.val 1 (.val 2 (.val 3 (.val 4 (.val 5 (.val 6 (.one 7 (.one 8 (.val 9 (.one 10 (.one 11 (.val 12 (.one 13 (.done))))))))))))))) rfl (by kernel_rfl) ?_
       simp [w0, w2, w5, w6, w7]
       refine AStep_freeze1 W.length (e := 76) (c := 1) (xs := [encP cc]) (by simp) ?_
       simp
       have hu1 := pc_union a.types.toNat [cc] (by have := hok.types; omega) (fun p hp => by rw [List.mem_singleton.1 hp]; exact hcc.2.2.2.1) (fun j hj => set_one hcc.2.2.2.1 hcc.2.2.2.2 hj) (by simp)
       rw [hTn, uni_one hcc.2.2.2.1] at hu1
       refine AStep_PC rfl rfl (by simp) (hu1) rfl ?_
       rintro _ rfl
       simp
       have w2b : ∀ M, (W ++ M)[c]? = some (.vars [.i a.types, .sl f' 1 0 (n + 1), .sl v' 3 0 (pre.length + g.length)]) := fun M => get_app w2 M
       have w2c : ∀ M, (W.set v' .dead ++ M)[c]? = some (.vars [.i a.types, .sl f' 1 0 (n + 1), .sl v' 3 0 (pre.length + g.length)]) := fun M => get_app (get_set hvc w2 _) M
       have hvl : ((pre ++ g).map encMv).length = pre.length + g.length := by simp
       have wv1 := (w1.set w3 hfv1 .dead)
       generalize hmm : (pre ++ g).map encMv = mm at *
       refine AStep_appendS tOk rfl rfl T23 rfl T78 rfl (by decide) (by decide) rfl rfl rfl ?_
       simp [get_app w3, set_app w3, w2b, w2c, hvl]
       refine ⟨by simp [appOk, get_app w3, set_app w3, w2b, w2c, hvl] <;> omega, ?_⟩
       repeat first|((first|refine qa tOk rfl ?_|refine qb tOk rfl ?_|refine qh rfl ?_);simp)|refine qf ?_|refine qg ?_
       have hz4 : ((W.set v' AObj.dead ++ [AObj.dead, AObj.arr 78 3 [.agg [.i n, .i t, .list (cc.map encL)]], AObj.arr 78 3 (mm ++ [.agg [.i n, .i t, .list (cc.map encL)]])]).set c (AObj.vars [.i a.types, .sl f' 1 0 (n + 1), .sl (W.length + 2) 3 0 (pre.length + g.length + 1)]))[E.length + 3]? = some .dead := by
        rw [List.getElem?_set_ne hcq, List.getElem?_append_left (by simpa using lq), List.getElem?_set_ne hvq]; exact w4
       refine ⟨hz4, rfl, ((wv1.app _).set (w2c _) hfc1 _).set hz4 hfd _, W.length + 2, ?_, ?_, ?_⟩
       ·rw [List.getElem?_set_ne (Ne.symm hcq), List.getElem?_set_self (by simp; omega)]
        simp [Nat.add_assoc]
       ·rw [List.getElem?_set_ne (by omega), List.getElem?_set_ne (by omega), List.getElem?_append_right (by simp)]
        rw [← hmm]; simp
       ·rw [fq, List.getElem?_set_self (get_lt hz4)]
      | some i =>
       have hix : idxM g t = i := by rw [idxM, hfi]
       obtain ⟨hil, hid, -⟩ := List.findIdx?_eq_some_iff_getElem.1 hfi
       have hgi : g[i]? = some g[i] := List.getElem?_eq_getElem hil
       have hadv : addMv n g t cc = g.set i { g[i] with on := eitherP g[i].on cc } := by rw [addMv, hfi]; simp [hgi]
       rw [hix, hadv]
       refine AWP_cond2 rfl (fun h => by simp at h; omega) (fun _ => ?_)
       have hwi : IntKind.i64.wrap ((pre.length : Int) + i) = pre.length + i := wrap_i64 _ (by omega) (by omega)
       have hli : (pre.length : Int) + i < pre.length + g.length := by omega
       have hpi : (0 : Int) ≤ (pre.length : Int) + i := by omega
       have htn : ((pre.length : Int) + i).toNat = pre.length + i := by omega
       repeat first|((first|refine qa tOk rfl ?_|refine qb tOk rfl ?_|refine qh rfl ?_);simp [w2, w9, hwi, hli, hpi, htn])|refine qf ?_|refine qg ?_
       have hge : ((pre ++ g).map encMv)[pre.length + i]? = some (.agg [.i g[i].src, .i g[i].dst, .list (g[i].on.map encL)]) := by rw [List.map_append, List.getElem?_append_right (by simp)]; simp [hgi]
       have hgl3 : ((pre ++ g).map encMv).length = pre.length + g.length := by simp
       generalize hmm : (pre ++ g).map encMv = mm at *
       have hr2 : List.range 2 = [0, 1] := rfl
       refine AWP_drawT tOk mixed [12] (.val 0 (.val 1 (.val 2 (.val 3 (.val 4 (.val 5 (.val 6 (.val 7 (.one 8 (.one 9 (.val 10 (.val 11 (.one 12 (.done)))))))))))))) rfl (by kernel_rfl) ?_
       simp [w0, w3, w5, hge, hgl3, hr2]
       refine AStep_freeze1 W.length (e := 76) (c := 1) (xs := [encP g[i].on, encP cc]) (by simp) ?_
       simp
       have hgm := List.getElem_mem hil
       have hu2 := pc_union a.types.toNat [g[i].on, cc] (by have := hok.types; omega) (fun p hp => by
        simp only [List.mem_cons, List.not_mem_nil, or_false] at hp
        rcases hp with rfl | rfl
        ·exact hgw2 _ hgm
        ·exact hcc.2.2.2.1) (fun j hj => set_two (hgw2 _ hgm) hcc.2.2.2.1 (hgz2 _ hgm) hcc.2.2.2.2 hj) (by simp)
       rw [hTn, uni_two (hgw2 _ hgm) hcc.2.2.2.1] at hu2
       have w3b : ∀ M, (W ++ M)[v']? = some (.arr 78 3 mm) := fun M => get_app w3 M
       refine AStep_PC rfl rfl (by simp) (hu2) rfl ?_
       rintro _ rfl
       simp [w3b, hge, set_app w3]
       repeat first|((first|refine qa tOk rfl ?_|refine qb tOk rfl ?_|refine qh rfl ?_);simp)|refine qf ?_|refine qg ?_
       have hz4 : (W.set v' (AObj.arr 78 3 (mm.set (pre.length + i) (.agg [.i g[i].src, .i g[i].dst, .list ((eitherP g[i].on cc).map encL)]))) ++ [AObj.dead])[E.length + 3]? = some .dead := by
        rw [List.getElem?_append_left (by simpa using lq), List.getElem?_set_ne hvq]; exact w4
       refine ⟨hz4, rfl, (((w1.set w3 hfv1 _).app _).set hz4 hfd _), v', ?_, ?_, ?_⟩
       ·rw [List.getElem?_set_ne (Ne.symm hcq), List.getElem?_append_left (by simpa using lc), List.getElem?_set_ne hvc]
        rw [w2]
       ·rw [List.getElem?_set_ne (Ne.symm hvq), List.getElem?_append_left (by simpa using lv), List.getElem?_set_self lv]
        rw [← hmm, List.map_append, List.set_append_right _ _ (by simp)]
        simp [List.map_set]
       ·rw [fq, List.getElem?_set_self (get_lt hz4)]
     ·rintro _ H' ⟨v', h1, h2, h3, h4⟩
      exact ⟨h1, v', by simpa using h2, by simpa using h3, _, _, _, _, h4.trans fq⟩
    ·rintro res H' ⟨v', h1, h2, h3, ⟨sl', ps', a', b', h6⟩⟩
     refine ⟨true, none, 100, sl', ps', a', b', by simpa using h6, ?_⟩
     simp
     have hqc : E.length + 3 ≠ c := fun e => by rw [e, h2] at h6; simp at h6
     have hqv : E.length + 3 ≠ v' := fun e => by rw [e, h3] at h6; simp at h6
     have y1 := h1.set h6 (by rw [hfx1, hfx0]; simp [mpT_def]) .dead
     have y2 := get_set hqc h2 .dead
     have y3 := get_set hqv h3 .dead
     generalize H'.set (E.length + 3) .dead = Y at *
     repeat first|((first|refine qa tOk rfl ?_|refine qb tOk rfl ?_|refine qh rfl ?_);simp [hw])|refine qf ?_|refine qg ?_
     refine ALoop_keep (sl' := [(1, .vptr 0 0), (2, .vptr 1 0), (3, .i 0), (4, .vptr b 0), (6, .vptr c 0), (30, .sl p 1 0 Q.length), (31, .i Q.length), (32, .i (n + 1 : Nat))]) ?_ (by simp)
     refine ih' f' v' Y ⟨by omega, fun x hx => y1 x (by rw [hfx1]; exact List.mem_append_left _ hx), y2, y1 (f', _) (by rw [hfx1]; simp), y3⟩ (by omega)
  ·have hge' : n = Q.length := by simp at hge; omega
   subst hge'
   have hmvl : mvTo a cl Q Q.length = (detA a cl Q).mv := mvTo_all a cl Q
   have hfnl : (Q.take Q.length).map (finB a) = (detA a cl Q).fin := by rw [List.take_length]; exact (detA_fin a cl Q).symm
   have hdl : (detA a cl Q).fin.length = Q.length := by rw [detA_fin]; simp
   have hml3 : (detA a cl Q).mv.length ≤ 65536 := by rw [← hmvl]; exact mvTo_len2 a cl Q hQl hcln
   rw [hmvl] at gc gv
   rw [hfnl] at gf
   rw [← hdl] at gc
   have hdt : (detA a cl Q).types = a.types := detA_types a cl Q
   have hli : limA (detA a cl Q) = if bigA (detA a cl Q) then (5, zeroA) else (0, detA a cl Q) := limA_def _
   rw [hli]
   generalize detA a cl Q = d at *
   have g1 : G[1]? = some (.vars [.i 0, .nils, .nils]) := hF (1, _) (by rw [hfx0]; simp)
   have hcv : v ≠ c := fun e => by rw [e, gc] at gv; simp at gv
   have hfv : f ≠ v := fun e => by rw [e, gv] at gf; simp at gf
   have hfc : f ≠ c := fun e => by rw [e, gc] at gf; simp at gf
   have hf1 : f ≠ 1 := fun e => by rw [e, g1] at gf; simp at gf
   have hv1 : v ≠ 1 := fun e => by rw [e, g1] at gv; simp at gv
   have hc1 : c ≠ 1 := fun e => by rw [e, g1] at gc; simp at gc
   refine AWP_keep (sl' := [(2, .vptr 1 0), (3, .i 0), (6, .vptr c 0)]) ?_ (by simp)
   refine AWP_freezeC v gv c gc ?_
   simp [hfv]
   rw [List.take_of_length_le (by simp)]
   have hcl2 := get_lt gc
   have hfl2 := get_lt gf
   refine AWP_abs fun Z hZ => ?_
   have zc : Z[c]? = some (.vars [.i d.types, .sl f 1 0 d.fin.length, .list (d.mv.map encMv)]) := by rw [hZ, hdt]; exact List.getElem?_set_self (by simpa using hcl2)
   have zf : Z[f]? = some (.arr 4 1 (d.fin.map .bool)) := by rw [hZ, List.getElem?_set_ne (Ne.symm hfc), List.getElem?_set_ne (Ne.symm hfv)]; exact gf
   have z1 : Z[1]? = some (.vars [.i 0, .nils, .nils]) := by rw [hZ, List.getElem?_set_ne hc1, List.getElem?_set_ne hv1]; exact g1
   clear hZ
   repeat first|((first|refine qa tOk rfl ?_|refine qb tOk rfl ?_|refine qh rfl ?_);simp [zc])|refine qf ?_|refine qg ?_
   refine AStep_FC rfl rfl (fc_dlimited Z f d zf (by omega) (by omega)) rfl ?_
   rintro res Y ⟨hr, hk'⟩
   have hr1 := (hk' 1 (get_lt z1)).trans z1
   have hrf := (hk' f (get_lt zf)).trans zf
   have hr2 : ∀ X, (Y.set 1 X)[1]? = some X := fun X => get_self hr1 X
   rcases hr with ⟨hb, rfl⟩ | ⟨hb, rfl⟩
   ·rw [hb]
    simp [hr1]
    repeat first|((first|refine qa tOk rfl ?_|refine qb tOk rfl ?_|refine qh rfl ?_);simp [hr2])|refine qf ?_|refine qg ?_
    exact ⟨rfl, rfl, rfl⟩
   ·rw [hb]
    simp [hr1]
    refine AWP_keep (sl' := [(2, .vptr 1 0), (3, .i 0)]) ?_ (by simp)
    refine AWP_freezeC f (get_set (Ne.symm hf1) hrf _) 1 (get_self hr1 _) ?_
    simp
    rw [List.take_of_length_le (by simp)]
    refine AWP_abs fun X hX => ?_
    have x1 : X[1]? = some (.vars [.i d.types, .list (d.fin.map .bool), .list (d.mv.map encMv)]) := by
     rw [hX]; exact List.getElem?_set_self (by have := get_lt hr1; simpa using this)
    repeat first|((first|refine qa tOk rfl ?_|refine qb tOk rfl ?_|refine qh rfl ?_);simp [x1])|refine qf ?_|refine qg ?_
end Go.Abs
set_option maxRecDepth 100000
namespace Go.Abs
open Go Go.Proofs Go.Maps Go.RowKit
set_option linter.unusedSimpArgs false
theorem det_ok {a : Aut} (h : (detF a).1 = 0) : OkA (detF a).2 := by
 have h0 : (subF a).1 = 0 := by
  by_cases hs : (subF a).1 = 0
  ·exact hs
  ·rw [detF, if_pos hs] at h; exact absurd h hs
 obtain ⟨hok, cl, Q, hsf, hsr, hcls, hsub, _, _⟩ := sub_facts h0
 have hd : detF a = limA (detA a cl Q) := by rw [detF, hsf]; simp
 rw [hd] at h ⊢
 have hw := wf_det hcls hsub
 have e : limA (detA a cl Q) = (0, (limA (detA a cl Q)).2) := Prod.ext h rfl
 have h2 := lim_ok hw e
 rw [h2.1]
 exact h2.1 ▸ h2.2
def flipU (l : List Bool) (i : Nat) : List Bool := l.mapIdx fun k b => if k < i then !b else b
theorem flipU_zero (l : List Bool) : flipU l 0 = l := by
 refine List.ext_getElem (by simp [flipU]) fun k h1 h2 => by simp [flipU]
theorem flipU_all (l : List Bool) : flipU l l.length = l.map (!·) := by
 refine List.ext_getElem (by simp [flipU]) fun k h1 h2 => ?_
 have : k < l.length := by simpa [flipU] using h1
 simp [flipU, this]
theorem flipU_len (l : List Bool) (i : Nat) : (flipU l i).length = l.length := by simp [flipU]
theorem flipU_get {l : List Bool} {i : Nat} (h : i < l.length) : ((flipU l i).map AV.bool)[i]? = some (.bool l[i]) := by
 simp [flipU, h]
theorem flipU_set {l : List Bool} {i : Nat} (h : i < l.length) : ((flipU l i).map AV.bool).set i (.bool (!l[i])) = (flipU l (i + 1)).map AV.bool := by
 refine List.ext_getElem (by simp [flipU]) fun k h1 h2 => ?_
 have hk : k < l.length := by simpa [flipU] using h2
 rw [List.getElem_set]
 by_cases e : i = k
 ·subst e; simp [flipU]
 ·rw [if_neg e]
  simp only [flipU, List.getElem_map, List.getElem_mapIdx]
  by_cases h3 : k < i
  ·rw [if_pos h3, if_pos (by omega)]
  ·rw [if_neg h3, if_neg (by omega)]
attribute [local irreducible] detF cplP flipU
set_option maxHeartbeats 4000000 in
theorem pc_Complement (a : Aut) : PC Tryz.prog 20 [encA a] (fun r => r = .tup [encA (cmpF a).2, .i (cmpF a).1]) := by
 refine PC_body tOk Tryz.func20 rfl Tryz.results20 rfl (by simp [Tryz.ntmps20]) ?_
 rw [Tryz.ntmps20]
 simp only [argSlots]
 simp only [encA]
 repeat first|((first|refine qa tOk rfl ?_|refine qb tOk rfl ?_|refine qh rfl ?_);simp)|refine qf ?_|refine qg ?_
 refine AStep_PC rfl rfl (by simp) (pc_Determinize a) rfl ?_
 rintro _ rfl
 simp
 repeat first|((first|refine qa tOk rfl ?_|refine qb tOk rfl ?_|refine qh rfl ?_);simp)|refine qf ?_|refine qg ?_
 refine AWP_cond2 rfl (fun h => ?_) (fun h => ?_)
 ·have h' : (detF a).1 ≠ 0 := by simpa using h
  have hc : cmpF a = ((detF a).1, zeroA) := by rw [cmpF, if_pos h']
  rw [hc]
  repeat first|((first|refine qa tOk rfl ?_|refine qb tOk rfl ?_|refine qh rfl ?_);simp)|refine qf ?_|refine qg ?_
  exact ⟨rfl, rfl, rfl⟩
 have h' : (detF a).1 = 0 := by simpa using h
 have hdok := det_ok h'
 have hcm : cmpF a = if (cplP (detF a).2).1 ≠ 0 then ((cplP (detF a).2).1, zeroA) else (0, flipA (cplP (detF a).2).2) := by rw [cmpF, if_neg (fun k => k h')]
 rw [hcm]
 generalize (detF a).2 = d at *
 repeat first|((first|refine qa tOk rfl ?_|refine qb tOk rfl ?_|refine qh rfl ?_);simp)|refine qf ?_|refine qg ?_
 refine AStep_FC rfl rfl (fc_completed _ d hdok) rfl ?_
 rintro r H' ⟨hr, hk⟩
 have hk1 := hk 1 (by simp)
 simp at hk1
 rcases hr with ⟨e, he, hne, rfl⟩ | ⟨bb, f, he, rfl, hf, hfl⟩
 ·rw [he]
  simp
  repeat first|((first|refine qa tOk rfl ?_|refine qb tOk rfl ?_|refine qh rfl ?_);simp)|refine qf ?_|refine qg ?_
  refine AWP_cond2 rfl (fun _ => ?_) (fun h => by simp at h; exact absurd h hne)
  have k2 : ∀ L Y, ((H' ++ L).set 1 Y)[1]? = some Y := fun L Y => get_self (get_app hk1 L) Y
  repeat first|((first|refine qa tOk rfl ?_|refine qb tOk rfl ?_|refine qh rfl ?_);simp [get_app hk1, k2])|refine qf ?_|refine qg ?_
  rw [if_neg hne]
  exact ⟨⟨rfl, rfl, rfl⟩, rfl⟩
 ·rw [he]
  have hfb : bb.fin.length ≤ 256 := by
   have := (cpl_spec hdok he).1.fin; omega
  simp
  repeat first|((first|refine qa tOk rfl ?_|refine qb tOk rfl ?_|refine qh rfl ?_);simp)|refine qf ?_|refine qg ?_
  refine AWP_cond rfl ?_
  simp
  repeat first|((first|refine qa tOk rfl ?_|refine qb tOk rfl ?_|refine qh rfl ?_);simp)|refine qf ?_|refine qg ?_
  have hf1 : f ≠ 1 := by simp at hfl; omega
  have hfL := get_lt hf
  refine AWP_keep (sl' := [(2, .vptr 1 0), (3, .i 0), (6, .vptr H'.length 0), (28, .i bb.fin.length), (29, .i (0 : Nat))]) ?_ (by simp)
  have q6 : (H' ++ [AObj.vars [.i bb.types, .sl f 1 0 bb.fin.length, .list (bb.mv.map encMv)]])[H'.length]? = some (.vars [.i bb.types, .sl f 1 0 bb.fin.length, .list (bb.mv.map encMv)]) := by simp
  have qf := get_app hf [AObj.vars [.i bb.types, .sl f 1 0 bb.fin.length, .list (bb.mv.map encMv)]]
  have q1 := get_app hk1 [AObj.vars [.i bb.types, .sl f 1 0 bb.fin.length, .list (bb.mv.map encMv)]]
  generalize H' ++ [AObj.vars [.i bb.types, .sl f 1 0 bb.fin.length, .list (bb.mv.map encMv)]] = G at *
  have hf6 : f ≠ H'.length := by omega
  have h61 : H'.length ≠ 1 := by have := get_lt hk1; omega
  generalize H'.length = c at *
  refine AWP_loop (ALoop_keep (sl' := [(2, .vptr 1 0), (3, .i 0), (6, .vptr c 0), (28, .i bb.fin.length), (29, .i (0 : Nat))]) ?_ (by simp))
  refine ALoop_wf (F := fun (u : Nat × List AObj) => ⟨[(2, .vptr 1 0), (3, .i 0), (6, .vptr c 0), (28, .i bb.fin.length), (29, .i u.1)], u.2⟩)
   (fun u => u.1 ≤ bb.fin.length ∧ u.2[c]? = some (.vars [.i bb.types, .sl f 1 0 bb.fin.length, .list (bb.mv.map encMv)]) ∧ u.2[f]? = some (.arr 4 1 ((flipU bb.fin u.1).map .bool)) ∧ u.2[1]? = some (.vars [.i 0, .nils, .nils])) (fun u => bb.fin.length - u.1) ?_ (0, G) ⟨by simp, q6, by rw [flipU_zero]; exact qf, q1⟩
  clear q6 qf q1
  clear G
  rintro ⟨i, G⟩ ⟨hi, gc, gf, g1⟩ ih
  simp only at hi gc gf g1 ih ⊢
  repeat first|((first|refine qa tOk rfl ?_|refine qb tOk rfl ?_|refine qh rfl ?_);simp)|refine qf ?_|refine qg ?_
  refine AWP_cond2 rfl (fun hlt => ?_) (fun hge => ?_)
  ·have hlt' : i < bb.fin.length := by simpa using hlt
   have hw : IntKind.i64.wrap ((i : Int) + 1) = i + 1 := wrap_i64 _ (by omega) (by omega)
   have hgt := flipU_get hlt'
   have hst := flipU_set hlt'
   have hll : ((flipU bb.fin i).map AV.bool).length = bb.fin.length := by rw [List.length_map, flipU_len]
   have ih' := fun G' => ih (i + 1, G')
   simp only [← hst] at ih'
   clear hst
   generalize (flipU bb.fin i).map AV.bool = xs at *
   have hgt' : ∀ hh, xs[i]'hh = .bool bb.fin[i] := fun hh => by rw [List.getElem?_eq_getElem hh] at hgt; exact Option.some.inj hgt
   repeat first|((first|refine qa tOk rfl ?_|refine qb tOk rfl ?_|refine qh rfl ?_);simp)|refine qf ?_|refine qg ?_
   refine AWP_drawT tOk mixed [10] (.val 0 (.val 1 (.val 2 (.val 3 (.val 4 (.val 5 (.val 6 (.val 7 (.val 8 (.val 9 (.one 10 (.done)))))))))))) rfl (by kernel_rfl) ?_
   simp [gc, gf, hgt, hgt', hll, hlt']
   repeat first|((first|refine qa tOk rfl ?_|refine qb tOk rfl ?_|refine qh rfl ?_);simp [hw])|refine qf ?_|refine qg ?_
   refine ALoop_keep (sl' := [(2, .vptr 1 0), (3, .i 0), (6, .vptr c 0), (28, .i bb.fin.length), (29, .i (i + 1 : Nat))]) ?_ (by simp)
   exact ih' _ ⟨by omega, get_set hf6 gc _, get_self gf _, get_set hf1 g1 _⟩ (by omega)
  ·have hge' : i = bb.fin.length := by simp at hge; omega
   subst hge'
   rw [flipU_all] at gf
   refine AWP_freezeC f gf c gc ?_
   simp
   rw [List.take_of_length_le (by simp)]
   refine AWP_abs fun Z hZ => ?_
   have zc : Z[c]? = some (.vars [.i bb.types, .list ((bb.fin.map (!·)).map .bool), .list (bb.mv.map encMv)]) := by rw [hZ, List.getElem?_set_self (by have := get_lt gc; simpa using this)]; simp
   have z1 : Z[1]? = some (.vars [.i 0, .nils, .nils]) := by rw [hZ, List.getElem?_set_ne h61, List.getElem?_set_ne hf1]; exact g1
   clear hZ
   have z2 : ∀ X, (Z.set 1 X)[1]? = some X := fun X => get_self z1 X
   repeat first|((first|refine qa tOk rfl ?_|refine qb tOk rfl ?_|refine qh rfl ?_);simp [zc, z1, z2])|refine qf ?_|refine qg ?_
   refine ⟨rfl, ?_, rfl⟩
   simp [flipA]
end Go.Abs
set_option maxRecDepth 100000
namespace Go.Abs
open Go Go.Proofs Go.Maps Go.RowKit
set_option linter.unusedSimpArgs false
set_option maxHeartbeats 4000000 in
theorem pc_rSame (a : Aut) : PC Tryz.prog 22 [encA a, encA a] (fun r => r = .bool true) := by
 refine PC_body tOk Tryz.func22 rfl Tryz.results22 rfl (by simp [Tryz.ntmps22]) ?_
 rw [Tryz.ntmps22]
 simp only [argSlots]
 simp only [encA]
 refine AWP_lenAgg 0 1 rfl rfl (fun hlen => ?_)
 rw [List.length_map] at hlen
 refine AWP_lenAgg 0 2 rfl rfl (fun hlen2 => ?_)
 rw [List.length_map] at hlen2
 repeat first|((first|refine qa tOk rfl ?_|refine qb tOk rfl ?_|refine qh rfl ?_);simp)|refine qf ?_|refine qg ?_
 refine AWP_cond2 rfl (fun h => by simp at h) (fun _ => ?_)
 repeat first|((first|refine qa tOk rfl ?_|refine qb tOk rfl ?_|refine qh rfl ?_);simp)|refine qf ?_|refine qg ?_
 refine AWP_countI a.fin.length (fun _ => True) (fun j => [(2, .vptr 0 0), (3, .vptr 1 0), (5, .i j)]) (fun _ => [.vars (cellsA a), .vars (cellsA a)]) rfl (by simp) (by simp) (by simp) (by simp) trivial ?_
 intro j hj _ ih
 repeat first|((first|refine qa tOk rfl ?_|refine qb tOk rfl ?_|refine qh rfl ?_);simp)|refine qf ?_|refine qg ?_
 refine AWP_cond2 rfl (fun hlt => ?_) (fun hge => ?_)
 ·have hlt' : j < a.fin.length := by simpa using hlt
  have hw : IntKind.i64.wrap ((j : Int) + 1) = j + 1 := wrap_i64 _ (by omega) (by omega)
  repeat first|((first|refine qa tOk rfl ?_|refine qb tOk rfl ?_|refine qh rfl ?_);simp)|refine qf ?_|refine qg ?_
  refine AWP_drawT tOk mixed [] (.val 0 (.val 1 (.val 2 (.val 3 (.val 4 (.val 5 (.val 6 (.val 7 (.val 8 (.val 9 (.val 10 (.done)))))))))))) rfl (by kernel_rfl) ?_
  simp [hlt']
  refine AWP_cond2 rfl (fun h => by simp at h) (fun _ => ?_)
  repeat first|((first|refine qa tOk rfl ?_|refine qb tOk rfl ?_|refine qh rfl ?_);simp [hw])|refine qf ?_|refine qg ?_
  refine ALoop_end _ (ih hlt' trivial) rfl (by simp) ?_ (by simp) (by simp)
  simp
 repeat first|((first|refine qa tOk rfl ?_|refine qb tOk rfl ?_|refine qh rfl ?_);simp)|refine qf ?_|refine qg ?_
 refine AWP_countI a.mv.length (fun _ => True) (fun j => [(2, .vptr 0 0), (3, .vptr 1 0), (6, .i j)]) (fun _ => [.vars (cellsA a), .vars (cellsA a)]) rfl (by simp) (by simp) (by simp) (by simp) trivial ?_
 intro j2 hj2 _ ih2
 repeat first|((first|refine qa tOk rfl ?_|refine qb tOk rfl ?_|refine qh rfl ?_);simp)|refine qf ?_|refine qg ?_
 refine AWP_cond2 rfl (fun hlt => ?_) (fun hge => ?_)
 ·have hlt' : j2 < a.mv.length := by simpa using hlt
  have hw : IntKind.i64.wrap ((j2 : Int) + 1) = j2 + 1 := wrap_i64 _ (by omega) (by omega)
  repeat first|((first|refine qa tOk rfl ?_|refine qb tOk rfl ?_|refine qh rfl ?_);simp)|refine qf ?_|refine qg ?_
  obtain ⟨m, hm⟩ : ∃ m, a.mv[j2] = m := ⟨_, rfl⟩
  refine AWP_drawC tOk mixed [12, 13] (.val 0 (.val 1 (.val 2 (.val 3 (.val 4 (.val 5 (.val 7 (.three 6 (.val 8 (.three 9 (.two 10 (.one 11 (.one 12 (.one 13 (.done)))) 11 (.one 10 (.one 12 (.one 13 (.done))))) 10 (.two 9 (.one 11 (.one 12 (.one 13 (.done)))) 11 (.two 9 (.one 12 (.one 13 (.done))) 12 (.val 9 (.one 13 (.done))))) 11 (.two 9 (.one 10 (.one 12 (.one 13 (.done)))) 10 (.two 9 (.one 12 (.one 13 (.done))) 12 (.val 9 (.one 13 (.done))))))) 10 (.two 6 (.val 8 (.two 9 (.one 11 (.one 12 (.one 13 (.done)))) 11 (.two 9 (.one 12 (.one 13 (.done))) 12 (.val 9 (.one 13 (.done)))))) 11 (.two 6 (.val 8 (.two 9 (.one 12 (.one 13 (.done))) 12 (.val 9 (.one 13 (.done))))) 12 (.val 6 (.val 8 (.val 9 (.one 13 (.done))))))) 11 (.two 6 (.val 8 (.two 9 (.one 10 (.one 12 (.one 13 (.done)))) 10 (.two 9 (.one 12 (.one 13 (.done))) 12 (.val 9 (.one 13 (.done)))))) 10 (.two 6 (.val 8 (.two 9 (.one 12 (.one 13 (.done))) 12 (.val 9 (.one 13 (.done))))) 12 (.val 6 (.val 8 (.val 9 (.one 13 (.done))))))))))))))) (⟨[(2, .vptr 0 0), (3, .vptr 1 0), (6, .i j2), (7, .vptr 2 0), (8, .vptr 3 0)], [.vars (cellsA a), .vars (cellsA a), .vars [.i m.src, .i m.dst, .list (m.on.map encL)], .vars [.i m.src, .i m.dst, .list (m.on.map encL)]]⟩) rfl (by kernel_rfl) ?_ ?_
  simp [hlt', hm]
  ·repeat' apply And.intro
   all_goals first | (refine RenTo_keep ?_; simp; done) | exact RenTo_ren [0, 1, 3, 2] (by simp) (by decide) (by simp) rfl (by simp) (by simp) (by simp)
  repeat first|((first|refine qa tOk rfl ?_|refine qb tOk rfl ?_|refine qh rfl ?_);simp)|refine qf ?_|refine qg ?_
  refine AStep_PC rfl rfl (by simp) (pc_rpSame m.on m.on) rfl ?_
  rintro _ rfl
  simp
  repeat first|((first|refine qa tOk rfl ?_|refine qb tOk rfl ?_|refine qh rfl ?_);simp)|refine qf ?_|refine qg ?_
  refine AWP_cond2 rfl (fun h => by simp at h) (fun _ => ?_)
  repeat first|((first|refine qa tOk rfl ?_|refine qb tOk rfl ?_|refine qh rfl ?_);simp [hw])|refine qf ?_|refine qg ?_
  refine ALoop_end _ (ih2 hlt' trivial) rfl (by simp) ?_ (by simp) (by simp)
  simp
 repeat first|((first|refine qa tOk rfl ?_|refine qb tOk rfl ?_|refine qh rfl ?_);simp)|refine qf ?_|refine qg ?_
def fromP (lo hi : Int) : Prd := [[⟨lo, hi⟩]]
theorem pc_lfrom (lo hi : Int) : PC Tryz.prog 113 [.i lo, .i hi] (fun r => r = encP (fromP lo hi)) := by
 refine PC_body tOk Tryz.func113 rfl Tryz.results113 rfl (by simp [Tryz.ntmps113]) ?_
 rw [Tryz.ntmps113]
 simp only [argSlots]
 refine AWP_seq (AWP_regS tOk rfl ?_)
 simp
 refine AWP_seq (AWP_regS tOk rfl ?_)
 simp
 refine AWP_freezeO 1 (e := 187) (c := 2) (xs := [encIv ⟨lo, hi⟩]) rfl 2 (o0 := .va 171 1 [.sl 1 2 0 1]) rfl (by decide) rfl ?_
 simp [AObj.fz, AV.fz]
 refine AWP_toArr 2 rfl (by simp [AV.cells, AV.pure]) ?_
 simp
 refine AWP_freezeC 2 (e := 171) (c := 1) (xs := [encL [⟨lo, hi⟩]]) rfl 0 rfl ?_
 simp
 repeat first|((first|refine qa tOk rfl ?_|refine qb tOk rfl ?_|refine qh rfl ?_);simp)|refine qf ?_|refine qg ?_
 rfl
def exA : Aut := ⟨1, [false, false, true], [⟨0, 0, fromP (-1099511627776) 1099511627776⟩, ⟨0, 1, fromP 5 1099511627776⟩, ⟨1, 2, fromP (-1099511627776) 7⟩]⟩
theorem pc_lexample : PC Tryz.prog 47 [] (fun r => r = encA exA) := by
 refine PC_body tOk Tryz.func47 rfl Tryz.results47 rfl (by simp [Tryz.ntmps47]) ?_
 rw [Tryz.ntmps47]
 simp only [argSlots]
 have hr3 : List.range 3 = [0, 1, 2] := rfl
 repeat first|((first|refine qa tOk rfl ?_|refine qb tOk rfl ?_|refine qh rfl ?_);simp [hr3])|refine qf ?_|refine qg ?_
 refine AStep_PC rfl rfl (by simp) (pc_lfrom (-1099511627776) 1099511627776) rfl ?_
 rintro _ rfl
 simp [hr3]
 refine AStep_PC rfl rfl (by simp) (pc_lfrom 5 1099511627776) rfl ?_
 rintro _ rfl
 simp [hr3]
 refine AStep_PC rfl rfl (by simp) (pc_lfrom (-1099511627776) 7) rfl ?_
 rintro _ rfl
 simp [hr3]
 repeat first|((first|refine qa tOk rfl ?_|refine qb tOk rfl ?_|refine qh rfl ?_);simp)|refine qf ?_|refine qg ?_
 exact ⟨rfl, rfl, rfl⟩
def wordS (l : List Int) : List Sy := l.map fun n => ⟨0, n⟩
set_option maxHeartbeats 2000000 in
theorem pc_lword (l : List Int) (hl : l.length ≤ 100) : PC Tryz.prog 48 [LI l] (fun r => r = LSy (wordS l)) := by
 refine PC_body tOk Tryz.func48 rfl Tryz.results48 rfl (by simp [Tryz.ntmps48]) ?_
 rw [Tryz.ntmps48]
 simp only [argSlots]
 repeat first|((first|refine qa tOk rfl ?_|refine qb tOk rfl ?_|refine qh rfl ?_);simp)|refine qf ?_|refine qg ?_
 refine AWP_nilSlot 3 53 2 rfl ?_
 simp
 have hst := SL.start [] 53 2
 refine AWP_loop (ALoop_keep (sl' := [(3, .sl 0 2 0 (0 : Nat)), (6, LI l), (7, .i l.length), (8, .i (0 : Nat))]) ?_ (by simp))
 refine ALoop_wf (F := fun (u : Nat × Nat × List AObj) => ⟨[(3, .sl u.2.1 2 0 u.1), (6, LI l), (7, .i l.length), (8, .i u.1)], u.2.2⟩)
  (fun u => u.1 ≤ l.length ∧ SL [] u.2.2 u.2.1 53 2 ((wordS (l.take u.1)).map encSy)) (fun u => l.length - u.1) ?_ (0, 0, [.arr 53 2 []]) ⟨by simp, by simpa [wordS] using hst⟩
 rintro ⟨j, q, G⟩ ⟨hj, s1⟩ ih
 simp only at hj s1 ih ⊢
 repeat first|((first|refine qa tOk rfl ?_|refine qb tOk rfl ?_|refine qh rfl ?_);simp)|refine qf ?_|refine qg ?_
 refine AWP_cond2 rfl (fun hlt => ?_) (fun hge => ?_)
 ·have hlt' : j < l.length := by simpa using hlt
  have hw : IntKind.i64.wrap ((j : Int) + 1) = j + 1 := wrap_i64 _ (by omega) (by omega)
  have hnx : wordS (l.take (j + 1)) = wordS (l.take j) ++ [(⟨0, l[j]⟩ : Sy)] := by rw [List.take_succ_eq_append_getElem hlt', wordS, List.map_append]; rfl
  have hal : (wordS (l.take j)).length = j := by simp [wordS]; omega
  have ih' := fun q' G' => ih (j + 1, q', G')
  simp only [hnx] at ih'
  clear hnx
  generalize wordS (l.take j) = acc at *
  repeat first|((first|refine qa tOk rfl ?_|refine qb tOk rfl ?_|refine qh rfl ?_);simp [hlt'])|refine qf ?_|refine qg ?_
  refine AStep_appendS tOk rfl rfl T45 rfl T53 rfl (by decide) (by decide) rfl rfl rfl ?_
  simp [get_app s1.arr, set_app s1.arr, hal]
  refine ⟨by simp [appOk, get_app s1.arr, set_app s1.arr, hal] <;> omega, ?_⟩
  repeat first|((first|refine qa tOk rfl ?_|refine qb tOk rfl ?_|refine qh rfl ?_);simp [hw])|refine qf ?_|refine qg ?_
  refine ALoop_keep (sl' := [(3, .sl (G.length + 1) 2 0 (j + 1)), (6, LI l), (7, .i l.length), (8, .i (j + 1 : Nat))]) ?_ (by simp)
  have := ih' (G.length + 1) _ ⟨by omega, s1.put [AObj.arr 53 2 [encSy (⟨0, l[j]⟩ : Sy)]] ((acc ++ [(⟨0, l[j]⟩ : Sy)]).map encSy) rfl⟩ (by omega)
  simpa using this
 ·have hge' : j = l.length := by simp at hge; omega
  subst hge'
  rw [List.take_length] at s1
  have hwl : (wordS l).length = l.length := by simp [wordS]
  refine AWP_freeze1 q s1.arr ?_
  simp [hwl]
  rw [List.take_of_length_le (by simp [hwl])]
  repeat first|((first|refine qa tOk rfl ?_|refine qb tOk rfl ?_|refine qh rfl ?_);simp)|refine qf ?_|refine qg ?_
def validB (a : Aut) (w : List Sy) : Bool := fewA a && decide (w.length ≤ 12) && (accF a w).2 == 0
end Go.Abs
set_option maxRecDepth 100000
namespace Go.Abs
open Go Go.Proofs
theorem ex_mint : (mintR exA.types (onA exA)).1 = 0 ∧ (mintR exA.types (onA exA)).2 = [[[⟨-1099511627776, 4⟩]], [[⟨5, 7⟩]], [[⟨8, 1099511627776⟩]]] := by decide +kernel
theorem ex_cl : mintF exA.types (onA exA) = (0, [[[⟨-1099511627776, 4⟩]], [[⟨5, 7⟩]], [[⟨8, 1099511627776⟩]]]) := by
 rw [← mint_eq]; exact Prod.ext ex_mint.1 ex_mint.2
def exC : List Prd := [[[⟨-1099511627776, 4⟩]], [[⟨5, 7⟩]], [[⟨8, 1099511627776⟩]]]
def exQ : List (List Int) := [[0], [0, 1], [0, 2], [0, 1, 2]]
theorem ex_q : exQ = [[0], [0, 1], [0, 2], [0, 1, 2]] := rfl
theorem ex_subs : subsR exA exC = some exQ := by decide +kernel
theorem ex_ck : ckAut exA = 0 := by decide +kernel
theorem ex_sub : subF exA = (0, exC, exQ) := by
 rw [subF, if_neg (fun k => k ex_ck), ex_cl]
 rw [if_neg (by simp)]
 split
 ·rename_i h
  have h2 : subsR exA exC = none := h
  rw [ex_subs] at h2; cases h2
 ·rename_i Q h
  have h2 : subsR exA exC = some Q := h
  rw [ex_subs] at h2
  rw [← Option.some.inj h2]; rfl
def exD : Aut := detA exA exC exQ
theorem ex_big : bigA exD = false := by decide +kernel
theorem ex_det : detF exA = (0, exD) := by
 rw [detF, ex_sub, if_neg (by simp)]
 show limA exD = _
 rw [limA_def, ex_big]; rfl
theorem ex_dlen : exD.mv.length = 10 ∧ exD.fin.length = 4 := by decide +kernel
theorem ex_dck : OkA exD := by
 have := det_ok (a := exA) (by rw [ex_det])
 rw [ex_det] at this
 exact this
theorem ex_full : newMv exD (lackP exD) = [] := List.isEmpty_iff.1 (by decide +kernel)
theorem ex_cpl : cplP exD = (0, exD) := by rw [cplP, ex_full]; rfl
theorem ex_com : comF exD = (0, exD) := by rw [comF, if_neg (fun k => k ((ck_ok _).2 ex_dck)), ex_cpl]
theorem ex_cmp : cmpF exA = (0, flipA exD) := by
 rw [cmpF, ex_det, if_neg (by simp)]
 simp only [ex_cpl]
 rw [if_neg (by simp)]
theorem ex_flen : (flipA exD).fin.length = 4 := by decide +kernel
theorem ex_w0 : accF (flipA exD) [] = (true, 0) := by decide +kernel
theorem ex_w1 : accF (flipA exD) (wordS [9, 9]) = (true, 0) := by decide +kernel
theorem ex_w2 : accF (flipA exD) (wordS [9, 3]) = (false, 0) := by decide +kernel
theorem ex_dd : dckF exD = (true, 0) := by decide +kernel
theorem ex_de : dckF exA = (false, 0) := by decide +kernel
end Go.Abs
set_option maxRecDepth 100000
namespace Go.Abs
open Go Go.Proofs Go.Maps Go.RowKit
set_option linter.unusedSimpArgs false
attribute [simp] T84 T86
attribute [local irreducible] exA exD detF subF cmpF comF cplP accF dckF wordS flipA exQ
set_option maxHeartbeats 8000000 in
theorem pc_lawake : PC Tryz.prog 14 [] (fun r => r = .bool true) := by
 refine PC_body tOk Tryz.func14 rfl Tryz.results14 rfl (by simp [Tryz.ntmps14]) ?_
 rw [Tryz.ntmps14]
 simp only [argSlots]
 have hr3 : List.range 3 = [0, 1, 2] := rfl
 have hr2 : List.range 2 = [0, 1] := rfl
 have hr4 : List.range 4 = [0, 1, 2, 3] := rfl
 repeat first|((first|refine qa tOk rfl ?_|refine qb tOk rfl ?_|refine qh rfl ?_);simp)|refine qf ?_|refine qg ?_
 refine AStep_PC rfl rfl (by simp) (pc_lexample) rfl ?_
 rintro _ rfl
 simp
 refine AStep_PC rfl rfl (by simp) (pc_Subsets exA) rfl ?_
 rintro _ rfl
 simp [ex_sub]
 repeat first|((first|refine qa tOk rfl ?_|refine qb tOk rfl ?_|refine qh rfl ?_);simp)|refine qf ?_|refine qg ?_
 refine AStep_PC rfl rfl (by simp) (pc_lexample) rfl ?_
 rintro _ rfl
 simp
 refine AStep_PC rfl rfl (by simp) (pc_Determinize exA) rfl ?_
 rintro _ rfl
 simp [ex_det]
 repeat first|((first|refine qa tOk rfl ?_|refine qb tOk rfl ?_|refine qh rfl ?_);simp)|refine qf ?_|refine qg ?_
 refine AStep_PC rfl rfl (by simp) (pc_lexample) rfl ?_
 rintro _ rfl
 simp
 refine AStep_PC rfl rfl (by simp) (pc_Complement exA) rfl ?_
 rintro _ rfl
 simp [ex_cmp]
 have hw0 : IntKind.i64.wrap 0 = 0 := by decide
 repeat first|((first|refine qa tOk rfl ?_|refine qb tOk rfl ?_|refine qh rfl ?_);simp [hw0, hr2, hr3, hr4])|refine qf ?_|refine qg ?_
 refine AStep_freezeO 2 (e := 3) (c := 1) (xs := [.i 0]) rfl 6 (o0 := .va 40 1 [.sl 2 1 0 1, .sl 3 1 0 2, .sl 4 1 0 2, .sl 5 1 0 3]) rfl (by decide) rfl ?_
 simp [AObj.fz, AV.fz]
 refine AStep_freezeO 3 (e := 3) (c := 1) (xs := [.i 0, .i 1]) rfl 6 rfl (by decide) rfl ?_
 simp [AObj.fz, AV.fz]
 refine AStep_freezeO 4 (e := 3) (c := 1) (xs := [.i 0, .i 2]) rfl 6 rfl (by decide) rfl ?_
 simp [AObj.fz, AV.fz]
 refine AStep_freezeO 5 (e := 3) (c := 1) (xs := [.i 0, .i 1, .i 2]) rfl 6 rfl (by decide) rfl ?_
 simp [AObj.fz, AV.fz]
 refine AStep_toArr 6 rfl (by simp [AV.cells, AV.pure]) ?_
 simp
 refine AStep_freeze1 6 rfl ?_
 simp
 refine AStep_PC rfl rfl (by simp) (pc_rsameSets exQ [[0], [0, 1], [0, 2], [0, 1, 2]]) rfl ?_
 rintro _ rfl
 simp [ex_q, ex_dlen.1, ex_dlen.2, ex_flen]
 refine AWP_cond2 rfl (fun h => by simp at h) (fun _ => ?_)
 refine AWP_keep (sl' := [(0, .bool false), (3, .vptr 0 0), (5, .vptr 1 0)]) ?_ (by simp)
 repeat first|((first|refine qa tOk rfl ?_|refine qb tOk rfl ?_|refine qh rfl ?_);simp [hr2, hr3])|refine qf ?_|refine qg ?_
 refine AStep_freeze1 7 rfl ?_
 simp
 refine AStep_PC rfl rfl (by simp) (pc_lword [9, 9] (by simp)) rfl ?_
 rintro _ rfl
 simp [hr2]
 refine AStep_freeze1 8 rfl ?_
 simp
 refine AStep_PC rfl rfl (by simp) (pc_lword [9, 3] (by simp)) rfl ?_
 rintro _ rfl
 simp [hr3]
 repeat first|((first|refine qa tOk rfl ?_|refine qb tOk rfl ?_|refine qh rfl ?_);simp)|refine qf ?_|refine qg ?_
 refine AWP_freeze1 9 rfl ?_
 simp
 refine AWP_countI 3 (fun _ => True) (fun j => [(0, .bool false), (3, .vptr 0 0), (5, .vptr 1 0), (70, .list [.agg [.nils, .bool true], .agg [LSy (wordS [9, 9]), .bool true], .agg [LSy (wordS [9, 3]), .bool false]]), (71, .i 3), (72, .i j)]) (fun _ => [.vars (cellsA exD), .vars (cellsA (flipA exD)), .dead, .dead, .dead, .dead, .dead, .dead, .dead, .dead]) rfl (by simp) (by simp) (by simp) (by simp) trivial ?_
 intro j hj _ ih
 repeat first|((first|refine qa tOk rfl ?_|refine qb tOk rfl ?_|refine qh rfl ?_);simp)|refine qf ?_|refine qg ?_
 refine AWP_cond2 rfl (fun hlt => ?_) (fun hge => ?_)
 ·have hlt' : j < 3 := by simp at hlt; omega
  have hw : IntKind.i64.wrap ((j : Int) + 1) = j + 1 := wrap_i64 _ (by omega) (by omega)
  have hj3 : j = 0 ∨ j = 1 ∨ j = 2 := by omega
  have ih' := ih (by simpa using hlt') trivial
  rcases hj3 with rfl | rfl | rfl
  ·repeat first|((first|refine qa tOk rfl ?_|refine qb tOk rfl ?_|refine qh rfl ?_);simp)|refine qf ?_|refine qg ?_
   refine AStep_nrmSlot 79 rfl (by simp [AV.pure]) ?_
   simp [AV.nrm]
   refine AStep_PC rfl rfl (by simp) (pc_Accepts (flipA exD) []) rfl ?_
   rintro _ rfl
   simp [ex_w0]
   repeat first|((first|refine qa tOk rfl ?_|refine qb tOk rfl ?_|refine qh rfl ?_);simp)|refine qf ?_|refine qg ?_
   refine AWP_cond2 rfl (fun h => by simp at h) (fun _ => ?_)
   repeat first|((first|refine qa tOk rfl ?_|refine qb tOk rfl ?_|refine qh rfl ?_);simp [hw])|refine qf ?_|refine qg ?_
   refine ALoop_end _ ih' rfl (by simp) ?_ (by simp) (by simp)
   simp [show IntKind.i64.wrap 1 = 1 from by decide, show IntKind.i64.wrap 2 = 2 from by decide, show IntKind.i64.wrap 3 = 3 from by decide]
  ·repeat first|((first|refine qa tOk rfl ?_|refine qb tOk rfl ?_|refine qh rfl ?_);simp)|refine qf ?_|refine qg ?_
   refine AStep_PC rfl rfl (by simp) (pc_Accepts (flipA exD) (wordS [9, 9])) rfl ?_
   rintro _ rfl
   simp [ex_w1]
   repeat first|((first|refine qa tOk rfl ?_|refine qb tOk rfl ?_|refine qh rfl ?_);simp)|refine qf ?_|refine qg ?_
   refine AWP_cond2 rfl (fun h => by simp at h) (fun _ => ?_)
   repeat first|((first|refine qa tOk rfl ?_|refine qb tOk rfl ?_|refine qh rfl ?_);simp [hw])|refine qf ?_|refine qg ?_
   refine ALoop_end _ ih' rfl (by simp) ?_ (by simp) (by simp)
   simp [show IntKind.i64.wrap 1 = 1 from by decide, show IntKind.i64.wrap 2 = 2 from by decide, show IntKind.i64.wrap 3 = 3 from by decide]
  ·repeat first|((first|refine qa tOk rfl ?_|refine qb tOk rfl ?_|refine qh rfl ?_);simp)|refine qf ?_|refine qg ?_
   refine AStep_PC rfl rfl (by simp) (pc_Accepts (flipA exD) (wordS [9, 3])) rfl ?_
   rintro _ rfl
   simp [ex_w2]
   repeat first|((first|refine qa tOk rfl ?_|refine qb tOk rfl ?_|refine qh rfl ?_);simp)|refine qf ?_|refine qg ?_
   refine AWP_cond2 rfl (fun h => by simp at h) (fun _ => ?_)
   repeat first|((first|refine qa tOk rfl ?_|refine qb tOk rfl ?_|refine qh rfl ?_);simp [hw])|refine qf ?_|refine qg ?_
   refine ALoop_end _ ih' rfl (by simp) ?_ (by simp) (by simp)
   simp [show IntKind.i64.wrap 1 = 1 from by decide, show IntKind.i64.wrap 2 = 2 from by decide, show IntKind.i64.wrap 3 = 3 from by decide]
 ·repeat first|((first|refine qa tOk rfl ?_|refine qb tOk rfl ?_|refine qh rfl ?_);simp)|refine qf ?_|refine qg ?_
  refine AStep_PC rfl rfl (by simp) (pc_Det exD) rfl ?_
  rintro _ rfl
  simp [ex_dd]
  repeat first|((first|refine qa tOk rfl ?_|refine qb tOk rfl ?_|refine qh rfl ?_);simp)|refine qf ?_|refine qg ?_
  refine AStep_PC rfl rfl (by simp) (pc_lexample) rfl ?_
  rintro _ rfl
  simp
  refine AStep_PC rfl rfl (by simp) (pc_Det exA) rfl ?_
  rintro _ rfl
  simp [ex_de]
  repeat first|((first|refine qa tOk rfl ?_|refine qb tOk rfl ?_|refine qh rfl ?_);simp)|refine qf ?_|refine qg ?_
  refine AStep_PC rfl rfl (by simp) (pc_Complete exD) rfl ?_
  rintro _ rfl
  simp [ex_com]
  repeat first|((first|refine qa tOk rfl ?_|refine qb tOk rfl ?_|refine qh rfl ?_);simp [hw0])|refine qf ?_|refine qg ?_
  refine AStep_PC rfl rfl (by simp) (pc_rSame exD) rfl ?_
  rintro _ rfl
  simp
  repeat first|((first|refine qa tOk rfl ?_|refine qb tOk rfl ?_|refine qh rfl ?_);simp [hw0])|refine qf ?_|refine qg ?_
end Go.Abs
set_option maxRecDepth 100000
namespace Go.Abs
open Go Go.Proofs Go.Maps Go.RowKit
set_option linter.unusedSimpArgs false
attribute [local irreducible] nextF dckF fewA
end Go.Abs
set_option maxRecDepth 100000
namespace Go.Abs
open Go Go.Proofs Go.Maps Go.RowKit
set_option linter.unusedSimpArgs false
attribute [local irreducible] nextF nextL dckF fewA validB accF detF cplP comF accL
end Go.Abs
set_option maxRecDepth 100000
namespace Go.Abs
open Go Go.Proofs Go.Maps Go.RowKit
set_option linter.unusedSimpArgs false
attribute [local irreducible] nextF nextL dckF fewA validB accF detF cplP comF accL cmpF
end Go.Abs
set_option maxRecDepth 100000
namespace Go.Abs
open Go Go.Proofs Go.Maps Go.RowKit
set_option linter.unusedSimpArgs false
attribute [local irreducible] nextF nextL dckF fewA validB accF detF cplP comF accL cmpF subF detA
end Go.Abs
set_option maxRecDepth 100000
namespace Go.Abs
open Go Go.Proofs Go.Maps Go.RowKit
set_option linter.unusedSimpArgs false
attribute [local irreducible] ckAut
theorem fc_rlimited29 (a : Aut) : PC Tryz.prog 70 [encA a] (fun r => r = .tup [encA (limK a).2, .i (limK a).1]) := by
 refine PC_body tOk Tryz.func70 rfl Tryz.results70 rfl (by simp [Tryz.ntmps70]) ?_
 rw [Tryz.ntmps70]
 simp only [argSlots]
 simp only [encA]
 repeat first|((first|refine qa tOk rfl ?_|refine qb tOk rfl ?_|refine qh rfl ?_);simp)|refine qf ?_|refine qg ?_
 refine AStep_PC rfl rfl (by simp) (pc_rsCheck a) rfl ?_
 rintro _ rfl
 simp
 repeat first|((first|refine qa tOk rfl ?_|refine qb tOk rfl ?_|refine qh rfl ?_);simp)|refine qf ?_|refine qg ?_
 refine AWP_cond2 rfl (fun h => ?_) (fun h => ?_)
 ·have hk : limK a = (5, zeroA) := by rw [limK, if_pos (by simpa using h)]
  rw [hk]
  repeat first|((first|refine qa tOk rfl ?_|refine qb tOk rfl ?_|refine qh rfl ?_);simp)|refine qf ?_|refine qg ?_
  exact ⟨rfl, rfl, rfl⟩
 ·have hk : limK a = (0, a) := by rw [limK, if_neg (by simpa using h)]
  rw [hk]
  repeat first|((first|refine qa tOk rfl ?_|refine qb tOk rfl ?_|refine qh rfl ?_);simp)|refine qf ?_|refine qg ?_
attribute [local irreducible] cplP fullR lackR lackP newU limK wholeP
set_option maxHeartbeats 8000000 in
theorem pc_rComplete (a : Aut) : PC Tryz.prog 24 [encA a] (fun r => r = .tup [encA (comF a).2, .i (comF a).1]) := by
 refine PC_body tOk Tryz.func24 rfl Tryz.results24 rfl (by simp [Tryz.ntmps24]) ?_
 rw [Tryz.ntmps24]
 simp only [argSlots]
 simp only [encA]
 repeat first|((first|refine qa tOk rfl ?_|refine qb tOk rfl ?_|refine qh rfl ?_);simp)|refine qf ?_|refine qg ?_
 refine AStep_PC rfl rfl (by simp) (pc_rsCheck a) rfl ?_
 rintro _ rfl
 simp
 repeat first|((first|refine qa tOk rfl ?_|refine qb tOk rfl ?_|refine qh rfl ?_);simp)|refine qf ?_|refine qg ?_
 refine AWP_cond2 rfl (fun h => ?_) (fun h => ?_)
 ·have h' : ckAut a ≠ 0 := by simpa using h
  have hc : comF a = (ckAut a, zeroA) := by rw [comF, if_pos h']
  rw [hc]
  repeat first|((first|refine qa tOk rfl ?_|refine qb tOk rfl ?_|refine qh rfl ?_);simp)|refine qf ?_|refine qg ?_
  exact ⟨rfl, rfl, rfl⟩
 have h0 : ckAut a = 0 := by simpa using h
 have hok := (ck_ok a).1 h0
 have hc : comF a = cplP a := by rw [comF, if_neg (fun k => k h0)]
 have hfin := hok.fin
 have hmvs := hok.mvs
 rw [hc, ← cpl_eq hok.wfA]
 repeat first|((first|refine qa tOk rfl ?_|refine qb tOk rfl ?_|refine qh rfl ?_);simp)|refine qf ?_|refine qg ?_
 refine AStep_PC rfl rfl (by simp) (pc_rFull a hok) rfl ?_
 rintro _ rfl
 simp
 refine AWP_cond2 rfl (fun hf => ?_) (fun hf => ?_)
 ·have hcr : cplR a = (0, a) := by rw [cplR, if_pos (by simpa using hf)]
  rw [hcr]
  repeat first|((first|refine qa tOk rfl ?_|refine qb tOk rfl ?_|refine qh rfl ?_);simp)|refine qf ?_|refine qg ?_
 have hcr : cplR a = limK (comA a) := by
  rw [cplR, if_neg (by simpa using hf), comA]
  have : newMv a (lackR a) = newMv a (lackP a) := by
   have : lackR a = lackP a := funext fun s => lack_eq hok.wfA s
   rw [this]
  rw [this]
 rw [hcr]
 repeat first|((first|refine qa tOk rfl ?_|refine qb tOk rfl ?_|refine qh rfl ?_);simp)|refine qf ?_|refine qg ?_
 refine AStep_appendS tOk rfl rfl T22 rfl T4 rfl (by decide) (by decide) rfl rfl rfl ?_
 simp
 refine ⟨⟨fun y hy => ?_, by simp; omega⟩, ?_⟩
 ·obtain ⟨b, _, rfl⟩ := List.mem_map.1 hy
  exact ⟨rfl, rfl⟩
 refine AStep_appendS tOk rfl rfl T22 rfl T4 rfl (by decide) (by decide) rfl rfl rfl ?_
 simp
 refine ⟨by simp [appOk] <;> omega, ?_⟩
 repeat first|((first|refine qa tOk rfl ?_|refine qb tOk rfl ?_|refine qh rfl ?_);simp)|refine qf ?_|refine qg ?_
 refine AStep_appendS tOk rfl rfl T23 rfl T78 rfl (by decide) (by decide) rfl rfl rfl ?_
 simp
 refine ⟨by simp [appOk] <;> omega, ?_⟩
 repeat first|((first|refine qa tOk rfl ?_|refine qb tOk rfl ?_|refine qh rfl ?_);simp)|refine qf ?_|refine qg ?_
 refine AWP_loop (ALoop_keep (sl' := [(1, .vptr 0 0), (2, .vptr 1 0), (3, .i 0), (5, .i a.fin.length), (6, .vptr 2 0), (7, .i (0 : Nat))]) ?_ (by simp))
 refine ALoop_wf (F := fun (u : Nat × Nat × List AObj) => ⟨[(1, .vptr 0 0), (2, .vptr 1 0), (3, .i 0), (5, .i a.fin.length), (6, .vptr 2 0), (7, .i u.1)], u.2.2⟩)
  (fun u => u.1 ≤ a.fin.length ∧ u.2.2[0]? = some (.vars (cellsA a)) ∧ u.2.2[1]? = some (.vars [.i 0, .nils, .nils]) ∧ u.2.2[2]? = some (.vars [.i a.types, .sl 5 1 0 (a.fin.length + 1), .sl u.2.1 3 0 (a.mv.length + (newU a u.1).length)]) ∧ u.2.2[5]? = some (.arr 4 1 (a.fin.map .bool ++ [.bool false])) ∧ u.2.2[u.2.1]? = some (.arr 78 3 (a.mv.map encMv ++ (newU a u.1).map encMv))) (fun u => a.fin.length - u.1) ?_ (0, 6, _) ⟨by simp, rfl, rfl, by rw [newU_zero]; rfl, rfl, by rw [newU_zero]; simp⟩
 rintro ⟨j, v, G⟩ ⟨hj, g0, g1, g2, g5, gv⟩ ih
 simp only at hj g0 g1 g2 g5 gv ih ⊢
 have g0L : ∀ (L : List AObj) hh, (G ++ L)[0]'hh = .vars (cellsA a) := fun L hh => by have := get_app g0 L; rw [List.getElem?_eq_getElem hh] at this; exact Option.some.inj this
 have g2L : ∀ (L : List AObj) hh, (G ++ L)[2]'hh = .vars [.i a.types, .sl 5 1 0 (a.fin.length + 1), .sl v 3 0 (a.mv.length + (newU a j).length)] := fun L hh => by have := get_app g2 L; rw [List.getElem?_eq_getElem hh] at this; exact Option.some.inj this
 have hv2 : v ≠ 2 := fun e => by rw [e, g2] at gv; simp at gv
 have hv0 : v ≠ 0 := fun e => by rw [e, g0] at gv; simp at gv
 have hv1 : v ≠ 1 := fun e => by rw [e, g1] at gv; simp at gv
 have hv5 : v ≠ 5 := fun e => by rw [e, g5] at gv; simp at gv
 have hnl := newU_len a j
 have hvl := get_lt gv
 have h5l := get_lt g5
 repeat first|((first|refine qa tOk rfl ?_|refine qb tOk rfl ?_|refine qh rfl ?_);simp)|refine qf ?_|refine qg ?_
 refine AWP_cond2 rfl (fun hlt => ?_) (fun hge => ?_)
 ·have hlt' : j < a.fin.length := by simpa using hlt
  have hw : IntKind.i64.wrap ((j : Int) + 1) = j + 1 := wrap_i64 _ (by omega) (by omega)
  have hnx := newU_snoc a j
  have ih' := fun v' G' => ih (j + 1, v', G')
  simp only [hnx] at ih'
  clear hnx
  generalize newU a j = new at *
  repeat first|((first|refine qa tOk rfl ?_|refine qb tOk rfl ?_|refine qh rfl ?_);simp [g0])|refine qf ?_|refine qg ?_
  refine AStep_PC rfl rfl (by simp) (pc_rlacking a hok j) rfl ?_
  rintro _ rfl
  simp
  rw [lack_eq hok.wfA]
  generalize lackP a j = lk at *
  repeat first|((first|refine qa tOk rfl ?_|refine qb tOk rfl ?_|refine qh rfl ?_);simp)|refine qf ?_|refine qg ?_
  refine AStep_PC rfl rfl (by simp) (pc_rpVoid lk) rfl ?_
  rintro _ rfl
  simp
  repeat first|((first|refine qa tOk rfl ?_|refine qb tOk rfl ?_|refine qh rfl ?_);simp)|refine qf ?_|refine qg ?_
  cases hv : voidP lk with
  | true =>
   rw [hv] at ih'
   refine AWP_cond rfl ?_
   simp [hv]
   repeat first|((first|refine qa tOk rfl ?_|refine qb tOk rfl ?_|refine qh rfl ?_);simp [hw])|refine qf ?_|refine qg ?_
   refine ALoop_keep (sl' := [(1, .vptr 0 0), (2, .vptr 1 0), (3, .i 0), (5, .i a.fin.length), (6, .vptr 2 0), (7, .i (j + 1 : Nat))]) ?_ (by simp)
   exact ih' v _ ⟨by omega, get_app g0 _, get_app g1 _, by simpa using get_app g2 _, get_app g5 _, by simpa using get_app gv _⟩ (by omega)
  | false =>
   rw [hv] at ih'
   refine AWP_cond rfl ?_
   simp [hv]
   repeat first|((first|refine qa tOk rfl ?_|refine qb tOk rfl ?_|refine qh rfl ?_);simp [get_app g2, g2L])|refine qf ?_|refine qg ?_
   have g2c : ∀ L : List AObj, (G.set v .dead ++ L)[2]? = some (.vars [.i a.types, .sl 5 1 0 (a.fin.length + 1), .sl v 3 0 (a.mv.length + new.length)]) := fun L => get_app (get_set hv2 g2 _) L
   have g2d : ∀ (L : List AObj) hh, (G.set v .dead ++ L)[2]'hh = .vars [.i a.types, .sl 5 1 0 (a.fin.length + 1), .sl v 3 0 (a.mv.length + new.length)] := fun L hh => by have := g2c L; rw [List.getElem?_eq_getElem hh] at this; exact Option.some.inj this
   refine AStep_appendS tOk rfl rfl T23 rfl T78 rfl (by decide) (by decide) rfl rfl rfl ?_
   simp [get_app gv, set_app gv, g2c, g2d]
   refine ⟨by simp [appOk, get_app gv, set_app gv, g2c, g2d] <;> omega, ?_⟩
   repeat first|((first|refine qa tOk rfl ?_|refine qb tOk rfl ?_|refine qh rfl ?_);simp [hw])|refine qf ?_|refine qg ?_
   refine ALoop_keep (sl' := [(1, .vptr 0 0), (2, .vptr 1 0), (3, .i 0), (5, .i a.fin.length), (6, .vptr 2 0), (7, .i (j + 1 : Nat))]) ?_ (by simp)
   refine ih' (G.length + 2) _ ⟨by omega, ?_, ?_, ?_, ?_, ?_⟩ (by omega)
   ·exact get_set (j := 2) (by decide) (get_app (get_set hv0 g0 _) _) _
   ·exact get_set (j := 2) (by decide) (get_app (get_set hv1 g1 _) _) _
   ·rw [get_self (g2c _) _]; simp [Nat.add_assoc]
   ·exact get_set (j := 2) (by decide) (get_app (get_set hv5 g5 _) _) _
   ·rw [List.getElem?_set_ne (by omega), List.getElem?_append_right (by simp)]; simp
 ·have hge' : j = a.fin.length := by simp at hge; omega
  subst hge'
  rw [newU_all] at g2 gv
  repeat first|((first|refine qa tOk rfl ?_|refine qb tOk rfl ?_|refine qh rfl ?_);simp)|refine qf ?_|refine qg ?_
  refine AWP_drawT tOk mixed [9, 11] (.val 0 (.val 1 (.val 2 (.val 3 (.val 4 (.val 5 (.one 6 (.val 7 (.one 8 (.one 9 (.val 10 (.one 11 (.done))))))))))))) rfl (by kernel_rfl) ?_
  simp [g2, g0]
  refine AStep_PC rfl rfl (by simp) (pc_rpWhole a.types (by have := hok.types; omega) (by have := hok.types; omega)) rfl ?_
  rintro _ rfl
  simp
  have g2c : ∀ L : List AObj, (G.set v .dead ++ L)[2]? = some (.vars [.i a.types, .sl 5 1 0 (a.fin.length + 1), .sl v 3 0 (a.mv.length + (newMv a (lackP a)).length)]) := fun L => get_app (get_set hv2 g2 _) L
  have g2d : ∀ (L : List AObj) hh, (G.set v .dead ++ L)[2]'hh = .vars [.i a.types, .sl 5 1 0 (a.fin.length + 1), .sl v 3 0 (a.mv.length + (newMv a (lackP a)).length)] := fun L hh => by have := g2c L; rw [List.getElem?_eq_getElem hh] at this; exact Option.some.inj this
  rw [newU_all] at hnl
  have hmm : a.mv.map encMv ++ (newMv a (lackP a)).map encMv ++ [encMv ⟨a.fin.length, a.fin.length, wholeP a.types.toNat⟩] = (comA a).mv.map encMv := by simp [comA]
  have hff : a.fin.map AV.bool ++ [.bool false] = (comA a).fin.map AV.bool := by simp [comA]
  have hml : (comA a).mv.length = a.mv.length + (newMv a (lackP a)).length + 1 := by simp [comA]; omega
  have hfl : (comA a).fin.length = a.fin.length + 1 := by simp [comA]
  have hty : (comA a).types = a.types := rfl
  refine AStep_appendS tOk rfl rfl T23 rfl T78 rfl (by decide) (by decide) rfl rfl rfl ?_
  simp [get_app gv, set_app gv, g2c, g2d]
  refine ⟨by simp [appOk, get_app gv, set_app gv, g2c, g2d] <;> omega, ?_⟩
  refine AWP_abs fun Z hZ => ?_
  have z2 : Z[2]? = some (.vars [.i a.types, .sl 5 1 0 (a.fin.length + 1), .sl (G.length + 1) 3 0 (a.mv.length + (newMv a (lackP a)).length + 1)]) := by rw [hZ]; exact get_self (g2c _) _
  have z5 : Z[5]? = some (.arr 4 1 ((comA a).fin.map AV.bool)) := by rw [hZ, ← hff]; exact get_set (j := 2) (by decide) (get_app (get_set hv5 g5 _) _) _
  have zv : Z[G.length + 1]? = some (.arr 78 3 ((comA a).mv.map encMv)) := by
   rw [hZ, ← hmm, List.getElem?_set_ne (by omega), List.getElem?_append_right (by simp)]; simp
  have z1 : Z[1]? = some (.vars [.i 0, .nils, .nils]) := by rw [hZ]; exact get_set (j := 2) (by decide) (get_app (get_set hv1 g1 _) _) _
  clear hZ
  refine AWP_keep (sl' := [(2, .vptr 1 0), (3, .i 0), (6, .vptr 2 0)]) ?_ (by simp)
  have hg5 : G.length + 1 ≠ 5 := by omega
  have hg2 : G.length + 1 ≠ 2 := by omega
  have hg1 : G.length + 1 ≠ 1 := by omega
  refine AWP_freezeC 5 z5 2 z2 ?_
  simp [hfl, hg5]
  rw [List.take_of_length_le (by simp [hfl])]
  refine AWP_freezeC (G.length + 1) (get_set (Ne.symm hg2) (get_set (Ne.symm hg5) zv _) _) 2 (get_self (get_set (j := 5) (by decide) z2 _) _) ?_
  simp
  rw [List.take_of_length_le (by simp [hml])]
  have z2l := get_lt z2
  refine AWP_abs fun Y hY => ?_
  have y2 : Y[2]? = some (.vars [.i (comA a).types, .list ((comA a).fin.map .bool), .list ((comA a).mv.map encMv)]) := by
   rw [hY, hty, List.getElem?_set_self (by simp only [List.length_set]; exact z2l), if_pos (by omega)]
  have y1 : Y[1]? = some (.vars [.i 0, .nils, .nils]) := by
   rw [hY]; exact get_set (j := 2) (by decide) (get_set hg1 (get_set (j := 2) (by decide) (get_set (j := 5) (by decide) z1 _) _) _) _
  clear hY
  have y1s : ∀ X, (Y.set 1 X)[1]? = some X := fun X => get_self y1 X
  repeat first|((first|refine qa tOk rfl ?_|refine qb tOk rfl ?_|refine qh rfl ?_);simp [y2])|refine qf ?_|refine qg ?_
  refine AStep_PC rfl rfl (by simp) (fc_rlimited29 (comA a)) rfl ?_
  rintro _ rfl
  simp [y1]
  repeat first|((first|refine qa tOk rfl ?_|refine qb tOk rfl ?_|refine qh rfl ?_);simp [y1s])|refine qf ?_|refine qg ?_
end Go.Abs
set_option maxRecDepth 100000
namespace Go.Abs
open Go Go.Proofs Go.Maps Go.RowKit
set_option linter.unusedSimpArgs false
attribute [local irreducible] fewA comF
set_option maxHeartbeats 4000000 in
theorem law_Completes (a : Aut) : PC Tryz.prog 5 [encA a] (fun r => r = .bool true) := by
 refine PC_body tOk Tryz.func5 rfl Tryz.results5 rfl (by simp [Tryz.ntmps5]) ?_
 rw [Tryz.ntmps5]
 simp only [argSlots]
 simp only [encA]
 repeat first|((first|refine qa tOk rfl ?_|refine qb tOk rfl ?_|refine qh rfl ?_);simp)|refine qf ?_|refine qg ?_
 refine AStep_PC rfl rfl (by simp) (pc_rFew a) rfl ?_
 rintro _ rfl
 simp
 repeat first|((first|refine qa tOk rfl ?_|refine qb tOk rfl ?_|refine qh rfl ?_);simp)|refine qf ?_|refine qg ?_
 refine AWP_cond2 rfl (fun _ => ?_) (fun _ => ?_)
 ·repeat first|((first|refine qa tOk rfl ?_|refine qb tOk rfl ?_|refine qh rfl ?_);simp)|refine qf ?_|refine qg ?_
  refine AStep_PC rfl rfl (by simp) (pc_lawake) rfl ?_
  rintro _ rfl
  simp
  repeat first|((first|refine qa tOk rfl ?_|refine qb tOk rfl ?_|refine qh rfl ?_);simp)|refine qf ?_|refine qg ?_
 repeat first|((first|refine qa tOk rfl ?_|refine qb tOk rfl ?_|refine qh rfl ?_);simp)|refine qf ?_|refine qg ?_
 refine AStep_PC rfl rfl (by simp) (pc_Complete a) rfl ?_
 rintro _ rfl
 simp
 repeat first|((first|refine qa tOk rfl ?_|refine qb tOk rfl ?_|refine qh rfl ?_);simp)|refine qf ?_|refine qg ?_
 refine AStep_PC rfl rfl (by simp) (pc_rComplete a) rfl ?_
 rintro _ rfl
 simp
 repeat first|((first|refine qa tOk rfl ?_|refine qb tOk rfl ?_|refine qh rfl ?_);simp)|refine qf ?_|refine qg ?_
 refine AStep_PC rfl rfl (by simp) (pc_lawake) rfl ?_
 rintro _ rfl
 simp
 repeat first|((first|refine qa tOk rfl ?_|refine qb tOk rfl ?_|refine qh rfl ?_);simp)|refine qf ?_|refine qg ?_
 refine AStep_PC rfl rfl (by simp) (pc_rSame (comF a).2) rfl ?_
 rintro _ rfl
 simp
 repeat first|((first|refine qa tOk rfl ?_|refine qb tOk rfl ?_|refine qh rfl ?_);simp)|refine qf ?_|refine qg ?_
end Go.Abs
set_option maxRecDepth 100000
namespace Go.Abs
open Go Go.Proofs Go.RowKit Go.Proofs.YteghceocnldccaaGreatDoor
theorem laidOut : laidOutB Tryz.prog = true := by kernel_rfl
theorem own : ownKnob Tryz.prog.godebug = none := by kernel_rfl
theorem list_of {α : Type} {g : α → AV} {Q : α → Prop} : ∀ xs : List AV, (∀ x ∈ xs, ∃ a, x = g a ∧ Q a) → ∃ l : List α, xs = l.map g ∧ ∀ a ∈ l, Q a
 | [], _ => ⟨[], rfl, by simp⟩
 | x :: xs, h => by
  obtain ⟨a, rfl, ha⟩ := h x (by simp)
  obtain ⟨l, rfl, hl⟩ := list_of xs (fun y hy => h y (by simp [hy]))
  exact ⟨a :: l, rfl, by simpa using ⟨ha, hl⟩⟩
theorem shpInt {d : Nat} {zs : List AV} (h : Shp T (d + 1) 3 zs) : ∃ n : Int, zs = [.i n] ∧ -9223372036854775808 ≤ n ∧ n ≤ 9223372036854775807 := by
 simp only [Shp, T3, ShpI] at h
 obtain ⟨n, rfl, h1, h2⟩ := h
 exact ⟨n, rfl, h1, h2⟩
theorem shpBool {d : Nat} {zs : List AV} (h : Shp T (d + 1) 4 zs) : ∃ b : Bool, zs = [.bool b] := by
 simp only [Shp, T4, ShpI] at h
 exact h
theorem argsNil {d : Nat} {xs : List AV} (h : ArgsShp T d [] xs) : xs = [] := h
theorem tab_in {l : List (String × DataW Unit)} {w : World} {name : String} {k : IntKind} {zs : List Int} {g : Nat} {t e : TypeId} {n : Nat} (h : laidMetH Tryz.prog l w) (hl : l.filter (fun x => x.1 == name) = [(name, Lib.tabData k zs)])
  (hg : Tryz.prog.globalNamed name = some g) (hty : (Tryz.prog.globals[g]?).map (·.type) = some t) (ht : Tryz.prog.underlying t = some (.array n e)) (he : Tryz.prog.underlying e = some (.int k)) (hce : Tryz.prog.cellsOf e = 1) (hct : Tryz.prog.cellsOf t = n) :
  g < w.heap.size ∧ ∃ t fr, w.heap[g]? = some (.cells (zs.map fun z => Value.int k z).toArray t fr) := by
 have h1 := h.filter (fun x => x.1 == name)
 rw [hl] at h1
 have h2 : Lib.TabIs Tryz.prog w name k zs := Lib.tabIs_of_head hg hty ht he hce hct h1
 unfold Lib.TabIs World.var? at h2
 rw [hg] at h2
 simp only [Option.bind_some] at h2
 cases ho : w.heap[g]? with
 | none => rw [ho] at h2; simp at h2
 | some o =>
  rw [ho] at h2
  refine ⟨(Array.getElem?_eq_some_iff.1 ho).1, ?_⟩
  cases o <;> simp at h2
  rename_i cs t fr
  exact ⟨t, fr, by rw [h2]⟩
end Go.Abs
set_option maxRecDepth 100000
namespace Go.Abs
open Go Go.Proofs Go.RowKit Go.Proofs.YteghceocnldccaaGreatDoor
theorem dtIv {d : Nat} {zs : List AV} (h : Shp T (d + 2) 187 zs) : ∃ v : Iv, zs = (encIv v).cells := by
 simp only [Shp, T187, T3, ShpI, ShpF, List.map_cons, List.map_nil] at h
 obtain ⟨_, _, rfl, ⟨a, rfl, ha⟩, _, _, rfl, ⟨b, rfl, hb⟩, rfl⟩ := h
 exact ⟨⟨a, b⟩, rfl⟩
theorem dtLIv {d : Nat} {zs : List AV} (h : Shp T (d + 3) 171 zs) : ∃ l : List Iv, zs = [encL l] := by
 rw [Shp, T171] at h
 simp only [ShpI] at h
 obtain ⟨ei, xs, he, rfl, hl, hx⟩ := h
 rw [T187] at he
 cases he
 obtain ⟨l, rfl, hq⟩ := list_of (g := encIv) (Q := fun _ => True) xs (fun x hxm => by
  obtain ⟨zs, rfl, hz⟩ := hx x hxm
  obtain ⟨v, rfl⟩ := dtIv (d := d) hz
  exact ⟨v, rfl, trivial⟩)
 exact ⟨l, rfl⟩
theorem dtSets {d : Nat} {zs : List AV} (h : Shp T (d + 4) 74 zs) : ∃ p : Prd, zs = [.list (p.map encL)] := by
 rw [Shp, T74] at h
 simp only [ShpI] at h
 obtain ⟨ei, xs, he, rfl, hl, hx⟩ := h
 rw [T171] at he
 cases he
 obtain ⟨l, rfl, hq⟩ := list_of (g := encL) (Q := fun _ => True) xs (fun x hxm => by
  obtain ⟨zs, rfl, hz⟩ := hx x hxm
  obtain ⟨v, rfl⟩ := dtLIv (d := d) hz
  exact ⟨v, rfl, trivial⟩)
 exact ⟨l, rfl⟩
theorem dtPred {d : Nat} {zs : List AV} (h : Shp T (d + 5) 76 zs) : ∃ p : Prd, zs = [.list (p.map encL)] := by
 rw [Shp, T76] at h
 simp only [ShpI, ShpF, List.map_cons, List.map_nil] at h
 obtain ⟨_, _, rfl, h1, rfl⟩ := h
 obtain ⟨p, rfl⟩ := dtSets (d := d) h1
 exact ⟨p, rfl⟩
theorem dtMove {d : Nat} {zs : List AV} (h : Shp T (d + 6) 78 zs) : ∃ m : Mv, zs = (encMv m).cells := by
 rw [Shp, T78] at h
 simp only [ShpI, ShpF, List.map_cons, List.map_nil] at h
 obtain ⟨_, _, rfl, h1, _, _, rfl, h2, _, _, rfl, h3, rfl⟩ := h
 obtain ⟨a, rfl, _⟩ := shpInt (d := d + 4) h1
 obtain ⟨b, rfl, _⟩ := shpInt (d := d + 4) h2
 obtain ⟨p, rfl⟩ := dtPred (d := d) h3
 exact ⟨⟨a, b, p⟩, rfl⟩
theorem dtMoves {d : Nat} {zs : List AV} (h : Shp T (d + 7) 23 zs) : ∃ l : List Mv, zs = [.list (l.map encMv)] := by
 rw [Shp, T23] at h
 simp only [ShpI] at h
 obtain ⟨ei, xs, he, rfl, hl, hx⟩ := h
 rw [T78] at he
 cases he
 obtain ⟨l, rfl, hq⟩ := list_of (g := encMv) (Q := fun _ => True) xs (fun x hxm => by
  obtain ⟨zs, rfl, hz⟩ := hx x hxm
  obtain ⟨v, rfl⟩ := dtMove (d := d) hz
  exact ⟨v, rfl, trivial⟩)
 exact ⟨l, rfl⟩
theorem dtBools {d : Nat} {zs : List AV} (h : Shp T (d + 2) 22 zs) : ∃ l : List Bool, zs = [.list (l.map .bool)] := by
 rw [Shp, T22] at h
 simp only [ShpI] at h
 obtain ⟨ei, xs, he, rfl, hl, hx⟩ := h
 rw [T4] at he
 cases he
 obtain ⟨l, rfl, hq⟩ := list_of (g := AV.bool) (Q := fun _ => True) xs (fun x hxm => by
  obtain ⟨zs, rfl, hz⟩ := hx x hxm
  obtain ⟨v, rfl⟩ := shpBool (d := d) hz
  exact ⟨v, rfl, trivial⟩)
 exact ⟨l, rfl⟩
theorem dtAut {d : Nat} {zs : List AV} (h : Shp T (d + 8) 25 zs) : ∃ a : Aut, zs = (encA a).cells := by
 rw [Shp, T25] at h
 simp only [ShpI, ShpF, List.map_cons, List.map_nil] at h
 obtain ⟨_, _, rfl, h1, _, _, rfl, h2, _, _, rfl, h3, rfl⟩ := h
 obtain ⟨t, rfl, _⟩ := shpInt (d := d + 6) h1
 obtain ⟨f, rfl⟩ := dtBools (d := d + 5) h2
 obtain ⟨m, rfl⟩ := dtMoves (d := d) h3
 exact ⟨⟨t, f, m⟩, rfl⟩
theorem argAut {d : Nat} {ts : List Nat} {xs : List AV} (h : ArgsShp T (d + 8) (25 :: ts) xs) : ∃ (a : Aut) (r : List AV), xs = encA a :: r ∧ ArgsShp T (d + 8) ts r := by
 obtain ⟨i, zs, r, hi, rfl, h1, h⟩ := h
 rw [T25] at hi; cases hi
 obtain ⟨a, rfl⟩ := dtAut (d := d) h1
 exact ⟨a, r, rfl, h⟩
theorem eok_of {l : List (String × DataW Unit)} {w : World} (h : laidMetH Tryz.prog l w) (hl : l.filter (fun x => x.1 == "internal/strconv.uint64pow10") = [("internal/strconv.uint64pow10", Lib.tabData .u64 Lib.pow10Tab)]) : EOK Tryz.prog w (· < w.heap.size) := fun g pr hm => by
 have e := List.mem_singleton.1 hm
 cases e
 obtain ⟨h1, t, fr, h2⟩ := tab_in (t := 300) (e := 250) (n := 20) h hl (by kernel_rfl) (by kernel_rfl) (by kernel_rfl) (by kernel_rfl) (by kernel_rfl) (by kernel_rfl)
 exact ⟨h1, _, t, fr, rfl, h2⟩
end Go.Abs
set_option maxRecDepth 100000
namespace Go.Abs
open Go Go.Proofs Go.Maps
set_option linter.unusedSimpArgs false
theorem cuts_gen {T : Nat} {l : List Prd} (hl : ∀ p ∈ l, PCk T p) (i : Nat) : (cutsP l i).length ≤ l.length * 512 + 2 := by
 rw [← cutA_all]
 have h1 := compact_len (sortI (cutA (setsAt l i)))
 have h2 := cutA_len (setsAt l i)
 rw [sortI_len, h2] at h1
 have := setsAt_le hl i
 omega
theorem prs_gen {T : Nat} {l : List Prd} (hl : ∀ p ∈ l, PCk T p) (hn : l.length ≤ 4096) : ∀ i, (prsTo l i).length ≤ i * 2097153
 | 0 => by simp [prsTo]
 | i + 1 => by
  have := prs_gen hl hn i
  have h2 := cuts_gen hl i
  have h3 := segs_len (cutsP l i)
  rw [prsTo, List.range_succ, List.flatMap_append, List.length_append]
  have h4 : ((List.range i).flatMap fun i => (segsI (cutsP l i)).map fun x => (i, x)).length = (prsTo l i).length := rfl
  rw [h4]
  simp only [List.flatMap_cons, List.flatMap_nil, List.append_nil, List.length_map]
  omega
theorem grpAll_gen {T : Nat} (hT : T ≤ 16) {l : List Prd} (hl : ∀ p ∈ l, PCk T p) (hn : l.length ≤ 4096) : GB T l.length 40000000 (grpAll T l) := by
 have h := grpTo_bnd T l (prsTo l T)
 rw [rfl_grp] at h
 have h2 := prs_gen hl hn T
 have h3 : (prsTo l T).length ≤ 40000000 := by
  have : T * 2097153 ≤ 16 * 2097153 := Nat.mul_le_mul_right _ hT
  omega
 exact ⟨h.nd, Nat.le_trans h.le h3, h.len, fun g hg s hs => Nat.le_trans (h.sz g hg s hs) h3, h.kl⟩
theorem pCl_gen {T : Nat} (hT : T ≤ 16) {l : List Prd} (hl : ∀ p ∈ l, PCk T p) (hn : l.length ≤ 4096) : (pClassesP T l).length ≤ 40000000 ∧ ∀ c ∈ pClassesP T l, ∀ s ∈ c, s.length ≤ 40000000 := by
 have h := grpAll_gen hT hl hn
 refine ⟨by simpa [pClassesP] using h.le, fun c hc s hs => ?_⟩
 obtain ⟨g, hg, rfl⟩ := List.mem_map.1 hc
 obtain ⟨s', hs', rfl⟩ := List.mem_map.1 hs
 exact Nat.le_trans (pushes_len _ _) (by simpa using h.sz g hg s' hs')
theorem void_ex0 {T : Nat} {p : Prd} (h : PWf T p) : voidP p = false ↔ ∃ t n, PM p t n := by
 cases hv : voidP p
 ·simp only [true_iff]
  by_cases hx : ∃ t n, PM p t n
  ·exact hx
  ·rw [(void_iff h).2 fun t n hp => hx ⟨t, n, hp⟩] at hv
   cases hv
 ·simp only [Bool.true_eq_false, false_iff]
  rintro ⟨t, n, hp⟩
  exact (void_iff h).1 hv t n hp
theorem sort_len (L : List Prd) : (sortP L).length = L.length := by
 have key : ∀ (r s : List Prd), (r.foldl insP s).length = s.length + r.length := by
  intro r
  induction r with
  | nil => intro s; simp
  | cons x r ih =>
   intro s
   rw [List.foldl_cons, ih, (insP_perm s x).length_eq, List.length_cons, List.length_cons]
   omega
 have := key L []
 simpa [sortP] using this
theorem classes_gen {T : Nat} (h0 : 0 < T) (hT : T ≤ 16) {l : List Prd} (hl : ∀ p ∈ l, PCk T p) (hn : l.length ≤ 4096) :
  (classesP T l).length ≤ 40000000 ∧ ∀ c ∈ classesP T l, PWf T c ∧ voidP c = false ∧ ∀ s ∈ c, s.length ≤ 40000000 := by
 obtain ⟨h1, h2⟩ := pCl_gen hT hl hn
 have h3 := prts_classes h0 hl
 have h4 := (pClasses_spec hl).1
 refine ⟨?_, fun c hc => ⟨h3.wf c hc, (void_ex0 (h3.wf c hc)).2 (h3.ne c hc), h2 c (h3.same h4 hc)⟩⟩
 have := classes_eq h0 hl
 rw [this, rClassesP, sort_len] at h1
 exact h1
theorem rClasses_gen {T : Nat} (h0 : 0 < T) (hT : T ≤ 16) {l : List Prd} (hl : ∀ p ∈ l, PCk T p) (hn : l.length ≤ 4096) :
  (rClassesP T l).length ≤ 40000000 ∧ ∀ c ∈ rClassesP T l, PWf T c ∧ voidP c = false ∧ ∀ s ∈ c, s.length ≤ 40000000 := by
 have h := classes_gen h0 hT hl hn
 have hd : (classesP T l).Pairwise (fun p q => leastP p 0 ≠ leastP q 0) := (classes_disj h0 hl).imp_of_mem (fun {a b} ha hb hab e => by
  have h1 := (prts_classes h0 hl).wf a ha
  have h2 := (prts_classes h0 hl).wf b hb
  have h3 := (least_spec h1 ((prts_classes h0 hl).ne a ha)).1
  have h4 := (least_spec h2 ((prts_classes h0 hl).ne b hb)).1
  rw [e] at h3
  exact hab _ _ h3 h4)
 have hp := (sortP_spec _ hd).1
 exact ⟨by rw [rClassesP, sort_len]; exact h.1, fun c hc => h.2 c (hp.mem_iff.1 hc)⟩
end Go.Abs
set_option maxRecDepth 100000
namespace Go.Abs
open Go Go.Proofs Go.Maps Go.RowKit
set_option linter.unusedSimpArgs false
theorem either_get {c p : Prd} (h : c.length = p.length) : (List.range c.length).map (fun i => normR (c.getD i [] ++ p.getD i [])) = eitherP c p := by
 refine List.ext_getElem (by simp [eitherP, h]) fun i h1 h2 => ?_
 have hc : i < c.length := by simpa using h1
 have hp : i < p.length := by omega
 simp [eitherP, List.getD, hc, hp]
theorem GL.putL {K G : List AObj} {S p : Nat} {pre post : List AV} {e sz : Nat} {xs : List AV} (h : GL K G S p pre post e sz xs) (L : List AObj) (y : AV) {n : Nat} (hn : n = xs.length) :
  GL K ((G.set p .dead ++ (L ++ [AObj.arr e sz (xs ++ [y])])).set S (.vars (pre ++ .sl (G.length + L.length) sz 0 (n + 1) :: post))) S (G.length + L.length) pre post e sz (xs ++ [y]) := by
 subst hn
 have hl := h.lt
 have hg := h.ge
 have hn := h.len
 refine ⟨?_, ?_, by omega, hl, by simp; omega, fun j hj hne => ?_⟩
 ·rw [List.getElem?_set_self (by simp; omega)]; simp
 ·rw [List.getElem?_set_ne (by omega), ← List.append_assoc, List.getElem?_append_right (by simp)]; simp
 ·rw [List.getElem?_set_ne (fun e => hne e.symm), List.getElem?_append_left (by simp; omega), List.getElem?_set_ne (by omega)]
  exact h.keep j hj hne
section
variable {P : Program} [Env P] {T : TT} {nt k : Nat} {S : AS}
theorem AWP_drawG (hT : TOk P T) (hm : P.follows .mixedOrders = true) {Q : Exit → AS → Prop} {id : Nat} {l : List Oper} (Wr : List Nat) (p : PlanM) (Ph : AS → Prop) (hd : dstsOk nt l = true)
  (hp : (Region.noSelect l.toArray && p.size == l.length && planM l.toArray (closTo l []) Wr p (Array.replicate l.length false)) = true)
  (h : ASeqM P T nt k l.toArray Wr.contains Ph p S) (hn : ∀ S', Ph S' → Q .normal S') : AWP P nt k (.region id l.toArray true) Q S :=
 (AWP_drawM (Q := fun e S => e = .normal ∧ Ph S) hT hm Wr p hd hp (ASeqM_and (fun _ h => ⟨rfl, h⟩) p S h)).mono fun e S ⟨he, hr⟩ => by
  subst he
  exact hn S hr
end
attribute [local irreducible] normR upL
set_option maxHeartbeats 16000000 in
theorem pc_rpEither (T : Nat) (c p : Prd) (hc : PWf T c) (hp : PWf T p) (hll : ∀ s ∈ c, ∀ t ∈ p, s.length + t.length ≤ 1000000000) (hT : T ≤ 1000) : PC Tryz.prog 69 [encP c, encP p] (fun r => r = encP (eitherP c p)) := by
 refine PC_body tOk Tryz.func69 rfl Tryz.results69 rfl (by simp [Tryz.ntmps69]) ?_
 rw [Tryz.ntmps69]
 simp only [argSlots]
 simp only [encP]
 have hcl := hc.1
 have hpl := hp.1
 repeat first|((first|refine qa tOk rfl ?_|refine qb tOk rfl ?_|refine qh rfl ?_);simp)|refine qf ?_|refine qg ?_
 refine AWP_nilCell 3 0 171 1 rfl rfl ?_
 simp
 obtain ⟨K, hK⟩ : ∃ K, K = [AObj.vars [.list (c.map encL)], AObj.vars [.list (p.map encL)], AObj.vars [AV.nils], AObj.vars [AV.nils]] := ⟨_, rfl⟩
 have hst := GL.start (K := K) (S := 3) [] [] 171 1 (by rw [hK]; simp)
 refine AWP_loop (ALoop_keep (sl' := [(2, .vptr 0 0), (3, .vptr 1 0), (4, .vptr 2 0), (5, .vptr 3 0), (6, .i (0 : Nat))]) ?_ (by simp))
 refine ALoop_wf (F := fun (u : Nat × Nat × List AObj) => ⟨[(2, .vptr 0 0), (3, .vptr 1 0), (4, .vptr 2 0), (5, .vptr 3 0), (6, .i u.1)], u.2.2⟩)
  (fun u => u.1 ≤ c.length ∧ GL K u.2.2 3 u.2.1 [] [] 171 1 (upL (fun i => normR (c.getD i [] ++ p.getD i [])) u.1)) (fun u => c.length - u.1) ?_ (0, K.length, _) ⟨by simp, by rw [upL_zero, hK] at *; exact hst⟩
 rintro ⟨j, q, H2⟩ ⟨hj, g⟩ ih
 simp only at hj g ih ⊢
 have g0 : H2[0]? = some (AObj.vars [.list (c.map encL)]) := g.kp (by decide) (by rw [hK]; rfl)
 have g1 : H2[1]? = some (AObj.vars [.list (p.map encL)]) := g.kp (by decide) (by rw [hK]; rfl)
 repeat first|((first|refine qa tOk rfl ?_|refine qb tOk rfl ?_|refine qh rfl ?_);simp [g0])|refine qf ?_|refine qg ?_
 refine AWP_cond2 rfl (fun hlt => ?_) (fun hge => ?_)
 ·have hlt' : j < c.length := by simpa using hlt
  have hlp : j < p.length := by omega
  have hw : IntKind.i64.wrap ((j : Int) + 1) = j + 1 := wrap_i64 _ (by omega) (by omega)
  have gK := g
  have gc := g.cell
  have ga := g.arr
  rw [upL_len] at gc
  simp only [List.nil_append] at gc
  have c0 : ∀ L : List AObj, (H2 ++ L)[0]? = some (AObj.vars [.list (c.map encL)]) := fun L => get_app g0 L
  have c1 : ∀ L : List AObj, (H2 ++ L)[1]? = some (AObj.vars [.list (p.map encL)]) := fun L => get_app g1 L
  have c3 : ∀ L : List AObj, (H2 ++ L)[3]? = some (AObj.vars [AV.sl q 1 0 j]) := fun L => get_app gc L
  have d0 : ∀ (L : List AObj) h, (H2 ++ L)[0]'h = AObj.vars [.list (c.map encL)] := fun L h => (List.getElem_eq_iff h).2 (c0 L)
  have d1 : ∀ (L : List AObj) h, (H2 ++ L)[1]'h = AObj.vars [.list (p.map encL)] := fun L h => (List.getElem_eq_iff h).2 (c1 L)
  have d3 : ∀ (L : List AObj) h, (H2 ++ L)[3]'h = AObj.vars [AV.sl q 1 0 j] := fun L h => (List.getElem_eq_iff h).2 (c3 L)
  have hin : ∀ y ∈ c[j] ++ p[j], ivIn y := fun y hy => by
   rcases List.mem_append.1 hy with h | h
   ·exact (wf_in hc (List.getElem_mem hlt')) y h
   ·exact (wf_in hp (List.getElem_mem hlp)) y h
  have htk : List.take (c[j].length + p[j].length) (List.map encIv c[j] ++ List.map encIv p[j]) = List.map encIv c[j] ++ List.map encIv p[j] := List.take_of_length_le (by simp)
  have hb := hll _ (List.getElem_mem hlt') _ (List.getElem_mem hlp)
  repeat first|((first|refine qa tOk rfl ?_|refine qb tOk rfl ?_|refine qh rfl ?_);simp)|refine qf ?_|refine qg ?_
  have hul := upL_len (fun i => normR (c.getD i [] ++ p.getD i [])) j
  have hnx : upL (fun i => normR (c.getD i [] ++ p.getD i [])) (j + 1) = upL (fun i => normR (c.getD i [] ++ p.getD i [])) j ++ [encL (normR (c[j] ++ p[j]))] := by rw [upL_succ]; simp only [getD_len hlt', getD_len hlp]
  have hpush := fun q H => ih (j + 1, q, H)
  have hql := get_lt ga
  have hqn : ¬ q = H2.length + 2 := by omega
  clear gK
  have e3 : ∀ L : List AObj, (H2.set q .dead ++ L)[3]? = some (AObj.vars [AV.sl q 1 0 j]) := fun L => by have := g.at L; rw [upL_len] at this; exact this
  have f3 : ∀ (L : List AObj) h, (H2.set q .dead ++ L)[3]'h = AObj.vars [AV.sl q 1 0 j] := fun L h => (List.getElem_eq_iff h).2 (e3 L)
  simp only [hnx] at hpush
  clear ih
  generalize upL (fun i => normR (c.getD i [] ++ p.getD i [])) j = xs at *
  refine AWP_drawG (P := Tryz.prog) tOk mixed [8, 14, 17, 19] (.val 0 (.val 3 (.val 4 (.val 5 (.val 6 (.val 7 (.val 9 (.val 11 (.three 1 (.two 2 (.two 8 (.val 10 (.val 12 (.val 13 (.one 14 (.one 15 (.one 16 (.one 17 (.val 18 (.one 19 (.done)))))))))) 10 (.val 12 (.two 8 (.val 13 (.one 14 (.one 15 (.one 16 (.one 17 (.val 18 (.one 19 (.done)))))))) 13 (.one 8 (.one 14 (.one 15 (.one 16 (.one 17 (.val 18 (.one 19 (.done))))))))))) 10 (.val 12 (.two 2 (.two 8 (.val 13 (.one 14 (.one 15 (.one 16 (.one 17 (.val 18 (.one 19 (.done)))))))) 13 (.one 8 (.one 14 (.one 15 (.one 16 (.one 17 (.val 18 (.one 19 (.done))))))))) 13 (.one 2 (.one 8 (.one 14 (.one 15 (.one 16 (.one 17 (.val 18 (.one 19 (.done)))))))))))) 2 (.three 1 (.two 8 (.val 10 (.val 12 (.val 13 (.one 14 (.one 15 (.one 16 (.one 17 (.val 18 (.one 19 (.done)))))))))) 10 (.val 12 (.two 8 (.val 13 (.one 14 (.one 15 (.one 16 (.one 17 (.val 18 (.one 19 (.done)))))))) 13 (.one 8 (.one 14 (.one 15 (.one 16 (.one 17 (.val 18 (.one 19 (.done))))))))))) 8 (.val 10 (.val 12 (.val 13 (.two 1 (.one 14 (.one 15 (.one 16 (.one 17 (.val 18 (.one 19 (.done))))))) 14 (.val 1 (.one 15 (.one 16 (.one 17 (.val 18 (.one 19 (.done))))))))))) 10 (.val 12 (.three 1 (.two 8 (.val 13 (.one 14 (.one 15 (.one 16 (.one 17 (.val 18 (.one 19 (.done)))))))) 13 (.one 8 (.one 14 (.one 15 (.one 16 (.one 17 (.val 18 (.one 19 (.done))))))))) 8 (.val 13 (.two 1 (.one 14 (.one 15 (.one 16 (.one 17 (.val 18 (.one 19 (.done))))))) 14 (.val 1 (.one 15 (.one 16 (.one 17 (.val 18 (.one 19 (.done))))))))) 13 (.two 1 (.one 8 (.one 14 (.one 15 (.one 16 (.one 17 (.val 18 (.one 19 (.done)))))))) 8 (.two 1 (.one 14 (.one 15 (.one 16 (.one 17 (.val 18 (.one 19 (.done))))))) 14 (.val 1 (.one 15 (.one 16 (.one 17 (.val 18 (.one 19 (.done)))))))))))) 10 (.val 12 (.three 1 (.two 2 (.two 8 (.val 13 (.one 14 (.one 15 (.one 16 (.one 17 (.val 18 (.one 19 (.done)))))))) 13 (.one 8 (.one 14 (.one 15 (.one 16 (.one 17 (.val 18 (.one 19 (.done))))))))) 13 (.one 2 (.one 8 (.one 14 (.one 15 (.one 16 (.one 17 (.val 18 (.one 19 (.done)))))))))) 2 (.three 1 (.two 8 (.val 13 (.one 14 (.one 15 (.one 16 (.one 17 (.val 18 (.one 19 (.done)))))))) 13 (.one 8 (.one 14 (.one 15 (.one 16 (.one 17 (.val 18 (.one 19 (.done))))))))) 8 (.val 13 (.two 1 (.one 14 (.one 15 (.one 16 (.one 17 (.val 18 (.one 19 (.done))))))) 14 (.val 1 (.one 15 (.one 16 (.one 17 (.val 18 (.one 19 (.done))))))))) 13 (.two 1 (.one 8 (.one 14 (.one 15 (.one 16 (.one 17 (.val 18 (.one 19 (.done)))))))) 8 (.two 1 (.one 14 (.one 15 (.one 16 (.one 17 (.val 18 (.one 19 (.done))))))) 14 (.val 1 (.one 15 (.one 16 (.one 17 (.val 18 (.one 19 (.done)))))))))) 13 (.two 1 (.one 2 (.one 8 (.one 14 (.one 15 (.one 16 (.one 17 (.val 18 (.one 19 (.done))))))))) 2 (.two 1 (.one 8 (.one 14 (.one 15 (.one 16 (.one 17 (.val 18 (.one 19 (.done)))))))) 8 (.two 1 (.one 14 (.one 15 (.one 16 (.one 17 (.val 18 (.one 19 (.done))))))) 14 (.val 1 (.one 15 (.one 16 (.one 17 (.val 18 (.one 19 (.done))))))))))))))))))))) (fun S' => ∃ q', GL K S'.hp 3 q' [] [] 171 1 (xs ++ [encL (normR (c[j] ++ p[j]))]) ∧ look S'.sl 2 = some (.vptr 0 0) ∧ look S'.sl 3 = some (.vptr 1 0) ∧ look S'.sl 4 = some (.vptr 2 0) ∧ look S'.sl 5 = some (.vptr 3 0) ∧ look S'.sl 6 = some (.i j)) rfl (by kernel_rfl) ?_ ?_
  ·simp [g0, g1, gc, c0, c1, c3, d0, d1, d3, hlt', hlp]
   repeat' (first
    | refine And.intro ?_ ?_
    | (refine AStep_appendS tOk rfl rfl T171 rfl T187 rfl (by decide) (by decide) rfl rfl rfl ?_; simp [g0, g1, gc, c0, c1, c3, d0, d1, d3, hlt', hlp]; refine ⟨by simp [appOk, g0, g1, gc, c0, c1, c3, d0, d1, d3, hlt', hlp] <;> omega, ?_⟩)
    | (refine AStep_freeze1 (H2.length + 2) (e := 187) (c := 2) (xs := List.map encIv c[j] ++ List.map encIv p[j]) (by simp) ?_; simp [htk, hqn]; simp only [← List.map_append]; refine AStep_PC rfl rfl (by simp) (pc_Normal (c[j] ++ p[j]) (by rw [List.length_append]; exact hb) hin) rfl ?_; rintro _ rfl; simp)
    | (refine AStep_appendS tOk rfl rfl T74 rfl T171 rfl (by decide) (by decide) rfl rfl rfl ?_; simp [get_app ga, set_app ga, hul, e3, f3]; refine ⟨by simp [appOk, get_app ga, set_app ga, hul, e3, f3] <;> omega, ?_⟩)
    | exact ⟨_, g.putL [_, _, _, _] _ hul.symm⟩)
  ·rintro ⟨sl, E⟩ ⟨q', g', s2, s3, s4, s5, s6⟩
   simp only at g' s2 s3 s4 s5 s6
   simp
   refine AWP_keep (sl' := [(2, .vptr 0 0), (3, .vptr 1 0), (4, .vptr 2 0), (5, .vptr 3 0), (6, .i j)]) ?_ (by simp [s2, s3, s4, s5, s6])
   repeat first|((first|refine qa tOk rfl ?_|refine qb tOk rfl ?_|refine qh rfl ?_);simp [hw])|refine qf ?_|refine qg ?_
   refine ALoop_keep (sl' := [(2, .vptr 0 0), (3, .vptr 1 0), (4, .vptr 2 0), (5, .vptr 3 0), (6, .i (j + 1 : Nat))]) (hpush q' E ⟨by omega, g'⟩ (by omega)) ?_
   simp
 ·have hge' : j = c.length := by simp at hge; omega
  subst hge'
  have g2 := g.cell
  have g3 := g.arr
  have gR : H2[2]? = some (AObj.vars [AV.nils]) := g.kp (by decide) (by rw [hK]; rfl)
  rw [upL_len] at g2
  simp only [List.nil_append] at g2
  have hS := (List.getElem?_eq_some_iff.1 g2).1
  have hne : q ≠ 2 ∧ q ≠ 3 := by have := g.ge; rw [hK] at this; simp at this; omega
  have hul := upL_len (fun i => normR (c.getD i [] ++ p.getD i [])) c.length
  have hres : .list (upL (fun i => normR (c.getD i [] ++ p.getD i [])) c.length) = AV.list ((eitherP c p).map encL) := by
   rw [upL_all, either_get (by omega)]
  generalize upL (fun i => normR (c.getD i [] ++ p.getD i [])) c.length = xs at *
  refine AWP_freezeC q g3 3 g2 ?_
  have k1 : ∀ X, ((H2.set q .dead).set 3 X)[2]? = some (AObj.vars [AV.nils]) := fun X => get_set (by decide) (get_set hne.1 gR _) _
  have k2 : ∀ X, ((H2.set q .dead).set 3 X)[3]? = some X := fun X => List.getElem?_set_self (by simpa using hS)
  have k3 : ∀ X Y, (((H2.set q .dead).set 3 X).set 2 Y)[2]? = some Y := fun X Y => get_self (k1 X) _
  simp [hul]
  rw [List.take_of_length_le (by omega)]
  repeat first|((first|refine qa tOk rfl ?_|refine qb tOk rfl ?_|refine qh rfl ?_);simp [k1, k2, k3])|refine qf ?_|refine qg ?_
  exact AV.list.inj hres
end Go.Abs
set_option maxRecDepth 100000
namespace Go.Abs
open Go Go.Proofs Go.Maps Go.RowKit
set_option linter.unusedSimpArgs false
theorem befS_P (p q : Prd) : befS (leastS p) (leastS q) = befP (leastP p 0) (leastP q 0) := by
 have h1 : decide (((leastP p 0).1 : Int) < (leastP q 0).1) = decide ((leastP p 0).1 < (leastP q 0).1) := by rw [decide_eq_decide]; omega
 have h2 : decide (((leastP p 0).1 : Int) = (leastP q 0).1) = decide ((leastP p 0).1 = (leastP q 0).1) := by rw [decide_eq_decide]; omega
 unfold befS befP leastS
 simp only [h1, h2]
def splTo (p : Prd) (L : List Prd) (k : Nat) : List Prd := splitP p (L.take k)
theorem splTo_zero (p : Prd) (L : List Prd) : splTo p L 0 = [] := by simp [splTo, splitP]
theorem splTo_all (p : Prd) (L : List Prd) : splTo p L L.length = splitP p L := by simp [splTo]
theorem splTo_succ (p : Prd) (L : List Prd) (k : Nat) (h : k < L.length) : splTo p L (k + 1) = splTo p L k ++ ((if voidP (bothP L[k] p) then [] else [bothP L[k] p]) ++ (if voidP (bothP L[k] (restP p)) then [] else [bothP L[k] (restP p)])) := by
 unfold splTo splitP
 rw [List.take_succ_eq_append_getElem h, List.flatMap_append]; simp
theorem splTo_len (p : Prd) (L : List Prd) (k : Nat) : (splTo p L k).length ≤ (splitP p L).length := by
 have h : splitP p L = splTo p L k ++ splitP p (L.drop k) := by unfold splTo splitP; rw [← List.flatMap_append, List.take_append_drop]
 rw [h, List.length_append]; omega
def clsTo (T : Nat) (l : List Prd) (i : Nat) : List Prd := classesP T (l.take i)
theorem clsTo_zero (T : Nat) (l : List Prd) : clsTo T l 0 = [wholeP T] := by simp [clsTo, classesP]
theorem clsTo_all (T : Nat) (l : List Prd) : clsTo T l l.length = classesP T l := by simp [clsTo]
theorem clsTo_succ (T : Nat) (l : List Prd) (i : Nat) (h : i < l.length) : clsTo T l (i + 1) = splitP l[i] (clsTo T l i) := by
 unfold clsTo classesP
 rw [List.take_succ_eq_append_getElem h, List.foldl_append]; rfl
theorem clsTo_gen {T : Nat} (h0 : 0 < T) (hT : T ≤ 16) {l : List Prd} (hl : ∀ p ∈ l, PCk T p) (hn : l.length ≤ 4096) (i : Nat) :
  (clsTo T l i).length ≤ 40000000 ∧ ∀ c ∈ clsTo T l i, PWf T c ∧ voidP c = false ∧ ∀ s ∈ c, s.length ≤ 40000000 :=
 classes_gen h0 hT (fun p hp => hl p (List.mem_of_mem_take hp)) (by rw [List.length_take]; omega)
def srtTo (L : List Prd) (i : Nat) : List Prd := (L.take i).foldl insP []
theorem srtTo_zero (L : List Prd) : srtTo L 0 = [] := by simp [srtTo]
theorem srtTo_all (L : List Prd) : srtTo L L.length = sortP L := by simp [srtTo, sortP]
theorem srtTo_succ (L : List Prd) (i : Nat) (h : i < L.length) : srtTo L (i + 1) = insP (srtTo L i) L[i] := by
 unfold srtTo
 rw [List.take_succ_eq_append_getElem h, List.foldl_append]; rfl
theorem srtTo_len (L : List Prd) : ∀ i, i ≤ L.length → (srtTo L i).length = i
 | 0, _ => by rw [srtTo_zero]; rfl
 | i + 1, h => by rw [srtTo_succ L i (by omega), (insP_perm _ _).length_eq, List.length_cons, srtTo_len L i (by omega)]
theorem srtTo_mem (L : List Prd) : ∀ i, i ≤ L.length → ∀ c ∈ srtTo L i, c ∈ L
 | 0, _, c, hc => by rw [srtTo_zero] at hc; cases hc
 | i + 1, h, c, hc => by
  rw [srtTo_succ L i (by omega)] at hc
  rcases List.mem_cons.1 ((insP_perm _ _).mem_iff.1 hc) with rfl | hc
  ·exact List.getElem_mem _
  ·exact srtTo_mem L i (by omega) c hc
theorem insK_down {s : List Prd} {x : Prd} {j : Nat} (h : j < s.length) : insK s x (j + 1) = if befP (leastP x 0) (leastP s[j] 0) = true then insK s x j else j + 1 := by rw [insK, List.getElem?_eq_getElem h]
theorem trunc_eq {α : Type} {xs : List α} {k n : Nat} (hn : n = xs.length) : (xs.drop k).take (n - k) = xs.drop k := by
 rw [List.take_of_length_le (by rw [List.length_drop]; omega)]
attribute [local irreducible] splTo clsTo srtTo wholeP bothP restP voidP insK classesP splitP leastP
set_option maxHeartbeats 16000000 in
theorem pc_rpClasses (T : Int) (l : List Prd) (hT : 1 ≤ T ∧ T ≤ 16) (hl : ∀ p ∈ l, PCk T.toNat p) (hn : l.length ≤ 4096) : PC Tryz.prog 165 [.i T, LP l] (fun r => r = LP (rClassesP T.toNat l)) := by
 refine PC_body tOk Tryz.func165 rfl Tryz.results165 rfl (by simp [Tryz.ntmps165]) ?_
 rw [Tryz.ntmps165]
 simp only [argSlots]
 simp only [LP]
 repeat first|((first|refine qa tOk rfl ?_|refine qb tOk rfl ?_|refine qh rfl ?_);simp)|refine qf ?_|refine qg ?_
 refine AStep_PC rfl rfl (by simp) (pc_rpWhole T (by omega) (by omega)) rfl ?_
 rintro _ rfl
 simp
 repeat first|((first|refine qa tOk rfl ?_|refine qb tOk rfl ?_|refine qh rfl ?_);simp)|refine qf ?_|refine qg ?_
 refine AWP_loop (ALoop_keep (sl' := [(0, .i T), (1, .list (l.map encP)), (5, .sl 0 1 0 (clsTo T.toNat l 0).length), (6, .i (0 : Nat))]) ?_ (by simp [clsTo_zero]))
 have hg := clsTo_gen (T := T.toNat) (by omega) (by omega) hl hn
 refine ALoop_wf (F := fun (u : Nat × Nat × List AObj) => ⟨[(0, .i T), (1, .list (l.map encP)), (5, .sl u.2.1 1 0 (clsTo T.toNat l u.1).length), (6, .i u.1)], u.2.2⟩)
  (fun u => u.1 ≤ l.length ∧ u.2.2[u.2.1]? = some (.arr 76 1 ((clsTo T.toNat l u.1).map encP))) (fun u => l.length - u.1) ?_ (0, 0, _) ⟨Nat.zero_le _, by rw [clsTo_zero]; rfl⟩
 rintro ⟨i, q, H⟩ ⟨hi, hq⟩ ih
 simp only at hi hq ih ⊢
 repeat first|((first|refine qa tOk rfl ?_|refine qb tOk rfl ?_|refine qh rfl ?_);simp)|refine qf ?_|refine qg ?_
 refine AWP_cond2 rfl (fun hlt => ?_) (fun hge => ?_)
 ·have hlt' : i < l.length := by simpa using hlt
  have hw : IntKind.i64.wrap ((i : Int) + 1) = i + 1 := wrap_i64 _ (by omega) (by omega)
  obtain ⟨g1, g2⟩ := hg i
  have hnx := clsTo_succ T.toNat l i hlt'
  have hbn := (hg (i + 1)).1
  have hpk := hl _ (List.getElem_mem hlt')
  have ih' := fun q' G' => ih (i + 1, q', G')
  simp only [hnx] at ih'
  rw [hnx] at hbn
  clear hnx
  have hlig : (List.map encP l)[i]? = some (encP l[i]) := by simp [hlt']
  have hlih : ∀ hh, (List.map encP l)[i]'hh = encP l[i] := fun hh => by simp
  have hlil : (List.map encP l).length = l.length := by simp
  generalize l[i] = p at *
  generalize clsTo T.toNat l i = L at *
  repeat first|((first|refine qa tOk rfl ?_|refine qb tOk rfl ?_|refine qh rfl ?_);simp)|refine qf ?_|refine qg ?_
  refine AWP_nilSlot 7 76 1 rfl ?_
  simp
  repeat first|((first|refine qa tOk rfl ?_|refine qb tOk rfl ?_|refine qh rfl ?_);simp)|refine qf ?_|refine qg ?_
  have hst := SL.start H 76 1
  refine AWP_loop (ALoop_keep (sl' := [(0, .i T), (1, .list (l.map encP)), (5, .sl q 1 0 L.length), (6, .i i), (7, .sl H.length 1 0 (splTo p L 0).length), (8, .i (0 : Nat))]) ?_ (by simp [splTo_zero]))
  refine ALoop_wf (F := fun (u : Nat × Nat × List AObj) => ⟨[(0, .i T), (1, .list (l.map encP)), (5, .sl q 1 0 L.length), (6, .i i), (7, .sl u.2.1 1 0 (splTo p L u.1).length), (8, .i u.1)], u.2.2⟩)
   (fun u => u.1 ≤ L.length ∧ SL H u.2.2 u.2.1 76 1 ((splTo p L u.1).map encP)) (fun u => L.length - u.1) ?_ (0, H.length, _) ⟨Nat.zero_le _, by rw [splTo_zero]; simpa using hst⟩
  rintro ⟨k, q', G⟩ ⟨hk, hs⟩ ih2
  simp only at hk hs ih2 ⊢
  repeat first|((first|refine qa tOk rfl ?_|refine qb tOk rfl ?_|refine qh rfl ?_);simp)|refine qf ?_|refine qg ?_
  refine AWP_cond2 rfl (fun hlt2 => ?_) (fun hge2 => ?_)
  ·have hlt2' : k < L.length := by simpa using hlt2
   have hw2 : IntKind.i64.wrap ((k : Int) + 1) = k + 1 := wrap_i64 _ (by omega) (by omega)
   have hnx2 := splTo_succ p L k hlt2'
   have hb2 := splTo_len p L k
   have ih2' := fun q' G' => ih2 (k + 1, q', G')
   simp only [hnx2] at ih2'
   clear hnx2
   obtain ⟨w1, w2, w3⟩ := g2 _ (List.getElem_mem hlt2')
   have hLg : (List.map encP L)[k]? = some (encP L[k]) := by simp [hlt2']
   have hLl : (List.map encP L).length = L.length := by simp
   have hLh : ∀ hh, (List.map encP L)[k]'hh = encP L[k] := fun hh => by simp
   generalize L[k] = c at *
   generalize splTo p L k = S at *
   have cB := pc_rpBoth T.toNat c p w1 hpk.wf (fun s hs t ht => by have := w3 s hs; have := (hpk.2 t ht).1; omega) (by omega)
   have cR := pc_rpRest T.toNat p hpk.wf (fun s hs => by have := (hpk.2 s hs).1; omega) (by omega)
   have cB2 := pc_rpBoth T.toNat c (restP p) w1 (wf_rest hpk.wf) (fun s hs t ht => by have := w3 s hs; have := rest_len hpk.wf (fun s hs => (hpk.2 s hs).1) t ht; omega) (by omega)
   have hqG := hs.kp hq
   have hqL : ∀ M : List AObj, (G ++ M)[q]? = some (.arr 76 1 (L.map encP)) := fun M => get_app hqG M
   simp only [encP] at hLg hLh hlig hlih
   simp only [encP] at cB cR cB2
   repeat first|((first|refine qa tOk rfl ?_|refine qb tOk rfl ?_|refine qh rfl ?_);simp)|refine qf ?_|refine qg ?_
   refine AWP_drawG (P := Tryz.prog) tOk mixed [21, 22] (.val 0 (.val 1 (.val 2 (.val 3 (.val 4 (.val 5 (.val 6 (.val 7 (.val 9 (.val 10 (.val 11 (.val 12 (.val 13 (.val 14 (.val 15 (.val 16 (.three 8 (.three 17 (.three 18 (.two 19 (.one 20 (.one 21 (.one 22 (.done)))) 20 (.one 19 (.one 21 (.one 22 (.done))))) 19 (.two 18 (.one 20 (.one 21 (.one 22 (.done)))) 20 (.one 18 (.one 21 (.one 22 (.done))))) 20 (.two 18 (.one 19 (.one 21 (.one 22 (.done)))) 19 (.one 18 (.one 21 (.one 22 (.done)))))) 19 (.two 17 (.two 18 (.one 20 (.one 21 (.one 22 (.done)))) 20 (.one 18 (.one 21 (.one 22 (.done))))) 20 (.one 17 (.one 18 (.one 21 (.one 22 (.done)))))) 20 (.two 17 (.two 18 (.one 19 (.one 21 (.one 22 (.done)))) 19 (.one 18 (.one 21 (.one 22 (.done))))) 19 (.one 17 (.one 18 (.one 21 (.one 22 (.done))))))) 19 (.two 8 (.two 17 (.two 18 (.one 20 (.one 21 (.one 22 (.done)))) 20 (.one 18 (.one 21 (.one 22 (.done))))) 20 (.one 17 (.one 18 (.one 21 (.one 22 (.done)))))) 20 (.one 8 (.one 17 (.one 18 (.one 21 (.one 22 (.done))))))) 20 (.two 8 (.two 17 (.two 18 (.one 19 (.one 21 (.one 22 (.done)))) 19 (.one 18 (.one 21 (.one 22 (.done))))) 19 (.one 17 (.one 18 (.one 21 (.one 22 (.done)))))) 19 (.one 8 (.one 17 (.one 18 (.one 21 (.one 22 (.done)))))))))))))))))))))))) (fun S' => ∃ (u v : Nat) (E : List AObj), S'.hp = G ++ E ∧ look S'.sl 9 = some (.vptr u 0) ∧ look S'.sl 10 = some (.vptr v 0) ∧ (G ++ E)[u]? = some (.vars [.list ((bothP c p).map encL)]) ∧ (G ++ E)[v]? = some (.vars [.list ((bothP c (restP p)).map encL)]) ∧ look S'.sl 0 = some (.i T) ∧ look S'.sl 1 = some (.list (l.map encP)) ∧ look S'.sl 5 = some (.sl q 1 0 L.length) ∧ look S'.sl 6 = some (.i i) ∧ look S'.sl 7 = some (.sl q' 1 0 S.length) ∧ look S'.sl 8 = some (.i k)) rfl (by kernel_rfl) ?_ ?_
   ·simp [hqG, hqL, hLg, hLh, hLl, hlt2', hlt', hlig, hlih, hlil]
    repeat' (first
     | refine And.intro ?_ ?_
     | (refine AStep_PC rfl rfl (by simp) cB rfl ?_; rintro _ rfl; simp [hqG, hqL, hLg, hLh, hLl, hlt2', hlt', hlig, hlih, hlil])
     | (refine AStep_PC rfl rfl (by simp) cR rfl ?_; rintro _ rfl; simp [hqG, hqL, hLg, hLh, hLl, hlt2', hlt', hlig, hlih, hlil])
     | (refine AStep_PC rfl rfl (by simp) cB2 rfl ?_; rintro _ rfl; simp [hqG, hqL, hLg, hLh, hLl, hlt2', hlt', hlig, hlih, hlil]))
   ·rintro ⟨sl, E0⟩ ⟨u, v, E, rfl, s9, s10, hu, hv, s0, s1, s5, s6, s7, s8⟩
    simp only at s9 s10 s0 s1 s5 s6 s7 s8
    simp
    refine AWP_keep (sl' := [(0, .i T), (1, .list (l.map encP)), (5, .sl q 1 0 L.length), (6, .i i), (7, .sl q' 1 0 S.length), (8, .i k), (9, .vptr u 0), (10, .vptr v 0)]) ?_ (by simp [s9, s10, s0, s1, s5, s6, s7, s8])
    have hsE := hs.add E
    have hqE := hsE.kp hq
    generalize G ++ E = G2 at *
    have hqv : q' ≠ v := fun e => by have := hsE.arr; rw [e, hv] at this; simp at this
    have hv' : ∀ M, (G2.set q' .dead ++ M)[v]? = some (.vars [.list ((bothP c (restP p)).map encL)]) := fun M => get_app (get_set hqv hv _) M
    repeat first|((first|refine qa tOk rfl ?_|refine qb tOk rfl ?_|refine qh rfl ?_);simp [hu])|refine qf ?_|refine qg ?_
    refine AStep_PC rfl rfl (by simp) (pc_rpVoid (bothP c p)) rfl ?_
    rintro _ rfl
    simp
    have hSl : (List.map encP S).length = S.length := by simp
    cases hv1 : voidP (bothP c p) with
    | true =>
     rw [hv1] at ih2'
     refine AWP_cond rfl ?_
     simp
     repeat first|((first|refine qa tOk rfl ?_|refine qb tOk rfl ?_|refine qh rfl ?_);simp [hv])|refine qf ?_|refine qg ?_
     refine AStep_PC rfl rfl (by simp) (pc_rpVoid (bothP c (restP p))) rfl ?_
     rintro _ rfl
     simp
     cases hv2 : voidP (bothP c (restP p)) with
     | true =>
      rw [hv2] at ih2'
      refine AWP_cond rfl ?_
      simp
      repeat first|((first|refine qa tOk rfl ?_|refine qb tOk rfl ?_|refine qh rfl ?_);simp [hw2])|refine qf ?_|refine qg ?_
      refine ALoop_keep (sl' := [(0, .i T), (1, .list (l.map encP)), (5, .sl q 1 0 L.length), (6, .i i), (7, .sl q' 1 0 S.length), (8, .i (k + 1 : Nat))]) ?_ (by simp)
      have := ih2' q' G2 ⟨by omega, by simpa using hsE⟩ (by omega)
      simpa using this
     | false =>
      rw [hv2] at ih2'
      refine AWP_cond rfl ?_
      simp
      repeat first|((first|refine qa tOk rfl ?_|refine qb tOk rfl ?_|refine qh rfl ?_);simp [hv])|refine qf ?_|refine qg ?_
      refine AStep_appendS tOk rfl rfl T91 rfl T76 rfl (by decide) (by decide) rfl rfl rfl ?_
      simp [get_app hsE.arr, set_app hsE.arr, hSl]
      refine ⟨by simp [appOk, get_app hsE.arr, set_app hsE.arr, hSl] <;> omega, ?_⟩
      repeat first|((first|refine qa tOk rfl ?_|refine qb tOk rfl ?_|refine qh rfl ?_);simp [hw2])|refine qf ?_|refine qg ?_
      refine ALoop_keep (sl' := [(0, .i T), (1, .list (l.map encP)), (5, .sl q 1 0 L.length), (6, .i i), (7, .sl (G2.length + 1) 1 0 (S.length + 1)), (8, .i (k + 1 : Nat))]) ?_ (by simp)
      have := ih2' (G2.length + 1) _ ⟨by omega, by simpa using hsE.put [AObj.arr 76 1 [encP (bothP c (restP p))]] ((S ++ [bothP c (restP p)]).map encP) rfl⟩ (by omega)
      simpa using this
    | false =>
     rw [hv1] at ih2'
     refine AWP_cond rfl ?_
     simp
     repeat first|((first|refine qa tOk rfl ?_|refine qb tOk rfl ?_|refine qh rfl ?_);simp [hu])|refine qf ?_|refine qg ?_
     refine AStep_appendS tOk rfl rfl T91 rfl T76 rfl (by decide) (by decide) rfl rfl rfl ?_
     simp [get_app hsE.arr, set_app hsE.arr, hSl]
     refine ⟨by simp [appOk, get_app hsE.arr, set_app hsE.arr, hSl] <;> omega, ?_⟩
     repeat first|((first|refine qa tOk rfl ?_|refine qb tOk rfl ?_|refine qh rfl ?_);simp [hv'])|refine qf ?_|refine qg ?_
     have hs2 := hsE.put [AObj.arr 76 1 [encP (bothP c p)]] ((S ++ [bothP c p]).map encP) rfl
     refine AStep_abs fun Z hZ => ?_
     have hs3 : SL H Z (G2.length + 1) 76 1 ((S ++ [bothP c p]).map encP) := by rw [hZ]; simpa using hs2
     have hv3 : Z[v]? = some (.vars [.list ((bothP c (restP p)).map encL)]) := by rw [hZ]; exact hv' _
     clear hZ hs2
     have hSl2 : ((S ++ [bothP c p]).map encP).length = S.length + 1 := by simp
     generalize G2.length + 1 = q3 at *
     refine AStep_PC rfl rfl (by simp) (pc_rpVoid (bothP c (restP p))) rfl ?_
     rintro _ rfl
     simp
     cases hv2 : voidP (bothP c (restP p)) with
     | true =>
      rw [hv2] at ih2'
      refine AWP_cond rfl ?_
      simp
      repeat first|((first|refine qa tOk rfl ?_|refine qb tOk rfl ?_|refine qh rfl ?_);simp [hw2])|refine qf ?_|refine qg ?_
      refine ALoop_keep (sl' := [(0, .i T), (1, .list (l.map encP)), (5, .sl q 1 0 L.length), (6, .i i), (7, .sl q3 1 0 (S.length + 1)), (8, .i (k + 1 : Nat))]) ?_ (by simp)
      have := ih2' q3 Z ⟨by omega, by simpa using hs3⟩ (by omega)
      simpa using this
     | false =>
      rw [hv2] at ih2'
      refine AWP_cond rfl ?_
      simp
      repeat first|((first|refine qa tOk rfl ?_|refine qb tOk rfl ?_|refine qh rfl ?_);simp [hv3])|refine qf ?_|refine qg ?_
      generalize hmm : (S ++ [bothP c p]).map encP = mm at *
      refine AStep_appendS tOk rfl rfl T91 rfl T76 rfl (by decide) (by decide) rfl rfl rfl ?_
      simp [get_app hs3.arr, set_app hs3.arr, hSl2]
      refine ⟨by simp [appOk, get_app hs3.arr, set_app hs3.arr, hSl2] <;> omega, ?_⟩
      repeat first|((first|refine qa tOk rfl ?_|refine qb tOk rfl ?_|refine qh rfl ?_);simp [hw2])|refine qf ?_|refine qg ?_
      refine ALoop_keep (sl' := [(0, .i T), (1, .list (l.map encP)), (5, .sl q 1 0 L.length), (6, .i i), (7, .sl (Z.length + 1) 1 0 (S.length + 2)), (8, .i (k + 1 : Nat))]) ?_ (by simp)
      have hs4 := hs3.put [AObj.arr 76 1 [encP (bothP c (restP p))]] (mm ++ [encP (bothP c (restP p))]) rfl
      have := ih2' (Z.length + 1) _ ⟨by omega, by
       have e : List.map encP (S ++ ((if false = true then [] else [bothP c p]) ++ if false = true then [] else [bothP c (restP p)])) = mm ++ [encP (bothP c (restP p))] := by rw [← hmm]; simp
       rw [e]; simpa using hs4⟩ (by omega)
      simpa using this
  ·have hge2' : k = L.length := by simp at hge2; omega
   have hsp : splTo p L k = splitP p L := by rw [hge2', splTo_all]
   rw [hsp] at hs ⊢
   repeat first|((first|refine qa tOk rfl ?_|refine qb tOk rfl ?_|refine qh rfl ?_);simp [hw])|refine qf ?_|refine qg ?_
   refine ALoop_keep (sl' := [(0, .i T), (1, .list (l.map encP)), (5, .sl q' 1 0 (splitP p L).length), (6, .i (i + 1 : Nat))]) ?_ (by simp)
   exact ih' q' G ⟨by omega, hs.arr⟩ (by omega)
 ·have hge' : i = l.length := by simp at hge; omega
  subst hge'
  rw [clsTo_all] at hq ⊢
  obtain ⟨hCl, hCw⟩ := classes_gen (T := T.toNat) (by omega) (by omega) hl hn
  have hR : rClassesP T.toNat l = sortP (classesP T.toNat l) := rfl
  rw [hR]
  generalize classesP T.toNat l = C at *
  repeat first|((first|refine qa tOk rfl ?_|refine qb tOk rfl ?_|refine qh rfl ?_);simp)|refine qf ?_|refine qg ?_
  refine AWP_keep (sl' := [(5, .sl q 1 0 C.length), (11, .nils), (12, .i (0 : Nat))]) ?_ (by simp)
  refine AWP_freeze1 q hq ?_
  simp
  rw [List.take_of_length_le (by simp)]
  refine AWP_nilSlot 11 76 1 rfl ?_
  simp
  clear hq
  refine AWP_loop (ALoop_keep (sl' := [(5, .list (C.map encP)), (11, .sl H.length 1 0 (0 : Nat)), (12, .i (0 : Nat))]) ?_ (by simp))
  refine ALoop_wf (F := fun (u : Nat × Nat × List AObj) => ⟨[(5, .list (C.map encP)), (11, .sl u.2.1 1 0 u.1), (12, .i u.1)], u.2.2⟩)
   (fun u => u.1 ≤ C.length ∧ u.2.2[u.2.1]? = some (.arr 76 1 ((srtTo C u.1).map encP))) (fun u => C.length - u.1) ?_ (0, H.length, _) ⟨Nat.zero_le _, by rw [srtTo_zero]; simp⟩
  rintro ⟨i, q2, G⟩ ⟨hi2, hq2⟩ ih3
  simp only at hi2 hq2 ih3 ⊢
  repeat first|((first|refine qa tOk rfl ?_|refine qb tOk rfl ?_|refine qh rfl ?_);simp)|refine qf ?_|refine qg ?_
  refine AWP_cond2 rfl (fun hlt => ?_) (fun hge => ?_)
  ·have hlt' : i < C.length := by simpa using hlt
   have hw : IntKind.i64.wrap ((i : Int) + 1) = i + 1 := wrap_i64 _ (by omega) (by omega)
   have hSl := srtTo_len C i (by omega)
   have hSm := srtTo_mem C i (by omega)
   have hnx := srtTo_succ C i hlt'
   have ih3' := fun q' G' => ih3 (i + 1, q', G')
   simp only [hnx] at ih3'
   clear hnx
   obtain ⟨w1, w2, w3⟩ := hCw _ (List.getElem_mem hlt')
   have hCg : (List.map encP C)[i]? = some (encP C[i]) := by simp [hlt']
   have hCh : ∀ hh, (List.map encP C)[i]'hh = encP C[i] := fun hh => by simp
   generalize C[i] = x at *
   generalize srtTo C i = S at *
   have hSl' : (S.map encP).length = i := by simpa using hSl
   repeat first|((first|refine qa tOk rfl ?_|refine qb tOk rfl ?_|refine qh rfl ?_);simp)|refine qf ?_|refine qg ?_
   refine AWP_loop (ALoop_keep (sl' := [(5, .list (C.map encP)), (11, .sl q2 1 0 i), (12, .i i), (13, .i i)]) ?_ (by simp))
   refine ALoop_wf (F := fun (j : Nat) => ⟨[(5, .list (C.map encP)), (11, .sl q2 1 0 i), (12, .i i), (13, .i j)], G⟩)
    (fun j => j ≤ i ∧ insK S x j = insK S x S.length) (fun j => j) ?_ i ⟨Nat.le_refl _, by rw [hSl]⟩
   rintro j ⟨hj, hJ⟩ ih4
   try simp only at hj hJ ih4 ⊢
   by_cases hj0 : 0 < j
   ·obtain ⟨j', rfl⟩ : ∃ j', j = j' + 1 := ⟨j - 1, by omega⟩
    have hj' : j' < S.length := by omega
    have hwj : IntKind.i64.wrap (j' : Int) = j' := wrap_i64 _ (by omega) (by omega)
    obtain ⟨y1, y2, y3⟩ := hCw _ (hSm _ (List.getElem_mem hj'))
    rw [insK_down hj'] at hJ
    have hSg : (List.map encP S)[j']? = some (encP S[j']) := by simp [hj']
    have hSh : ∀ hh, (List.map encP S)[j']'hh = encP S[j'] := fun hh => by simp
    have hpos : (0 : Int) < (j' : Int) + 1 := by omega
    have hji : j' < i := by omega
    simp only [encP] at hCg hCh hSg hSh
    repeat first|((first|refine qa tOk rfl ?_|refine qb tOk rfl ?_|refine qh rfl ?_);simp)|refine qf ?_|refine qg ?_
    refine AWP_drawT tOk mixed [] (.val 0 (.val 1 (.val 2 (.val 3 (.val 4 (.val 5 (.val 6 (.val 8 (.val 9 (.val 10 (.val 11 (.val 12 (.one 7 (.one 13 (.one 14 (.val 15 (.done))))))))))))))))) rfl (by kernel_rfl) ?_
    simp [hlt', hCg, hCh, hq2, hSg, hSh, hwj, hSl', hpos, hji]
    refine AStep_PC rfl rfl (by simp) (pc_rpLeast x w2) rfl ?_
    rintro _ rfl
    simp [hlt', hCg, hCh, hq2, hSg, hSh, hwj, hSl', hpos, hji]
    refine AStep_PC rfl rfl (by simp) (pc_rpLeast S[j'] y2) rfl ?_
    rintro _ rfl
    simp [hlt', hCg, hCh, hq2, hSg, hSh, hwj, hSl', hpos, hji]
    refine AStep_PC rfl rfl (by simp) (pc_rpBefore (leastS x) (leastS S[j'])) rfl ?_
    rintro _ rfl
    simp
    rw [befS_P]
    cases hb : befP (leastP x 0) (leastP S[j'] 0) with
    | true =>
     rw [hb, if_pos rfl] at hJ
     refine AWP_cond rfl ?_
     repeat first|((first|refine qa tOk rfl ?_|refine qb tOk rfl ?_|refine qh rfl ?_);simp [hwj])|refine qf ?_|refine qg ?_
     refine ALoop_keep (sl' := [(5, .list (C.map encP)), (11, .sl q2 1 0 i), (12, .i i), (13, .i j')]) ?_ (by simp)
     exact ih4 j' ⟨by omega, hJ⟩ (by omega)
    | false =>
     rw [hb, if_neg (by simp)] at hJ
     refine AWP_cond rfl ?_
     obtain ⟨k, hk⟩ : ∃ k, k = j' + 1 := ⟨_, rfl⟩
     rw [← hk] at hJ
     have hkI : k = insK S x S.length := hJ
     have hki : k ≤ i := by omega
     refine AWP_keep (sl' := [(5, .list (C.map encP)), (11, .sl q2 1 0 i), (12, .i i), (13, .i (k : Nat))]) ?_ (by simp [hk])
     have hk0 : (0 : Int) ≤ (k : Int) := by omega
     have hki' : (k : Int) ≤ (i : Int) := by omega
     have hins : insP S x = S.take k ++ x :: S.drop k := by rw [insP, ← hkI]
     repeat first|((first|refine qa tOk rfl ?_|refine qb tOk rfl ?_|refine qh rfl ?_);simp [hki])|refine qf ?_|refine qg ?_
     refine AStep_appendS tOk rfl rfl T91 rfl T76 rfl (by decide) (by decide) rfl rfl rfl ?_
     simp [get_app hq2, set_app hq2, hSl', hki]
     refine ⟨⟨fun y hy => ?_, by simp; omega⟩, ?_⟩
     ·obtain ⟨c', _, rfl⟩ := List.mem_map.1 (List.mem_of_mem_drop (List.mem_of_mem_take hy))
      exact ⟨rfl, rfl⟩
     rw [trunc_eq hSl'.symm]
     refine AWP_abs fun Z hZ => ?_
     have hq2l := get_lt hq2
     have z1 : Z[q2]? = some (.arr 76 1 (S.map encP)) := by rw [hZ]; simp [List.getElem?_append_left hq2l, hq2]
     have z2 : Z[G.length + 1]? = some (.arr 76 1 ((S.map encP).drop k)) := by rw [hZ]; simp
     have zl : Z.length = G.length + 2 := by rw [hZ]; simp
     clear hZ
     refine AWP_keep (sl' := [(5, .list (C.map encP)), (11, .sl q2 1 0 i), (12, .i i), (13, .i (k : Nat)), (14, .sl (G.length + 1) 1 0 (i - k))]) ?_ (by simp)
     refine AWP_trunc q2 k z1 ?_
     have z3 : (Z.set q2 (.arr 76 1 ((S.map encP).take k)))[q2]? = some (.arr 76 1 ((S.map encP).take k)) := get_self z1 _
     have z4 : (Z.set q2 (.arr 76 1 ((S.map encP).take k)))[G.length + 1]? = some (.arr 76 1 ((S.map encP).drop k)) := get_set (by omega) z2 _
     have zl2 : (Z.set q2 (.arr 76 1 ((S.map encP).take k))).length = G.length + 2 := by simp [zl]
     generalize Z.set q2 (.arr 76 1 ((S.map encP).take k)) = Y at *
     clear z1 z2 zl
     clear Z
     have htl : ((S.map encP).take k).length = k := by rw [List.length_take]; omega
     have hdl : ((S.map encP).drop k).length = i - k := by rw [List.length_drop]; omega
     have htm : (S.map encP).take k = (S.take k).map encP := by rw [List.map_take]
     have hdm : (S.map encP).drop k = (S.drop k).map encP := by rw [List.map_drop]
     have hres : (insP S x).map encP = (S.map encP).take k ++ (encP x :: (S.map encP).drop k) := by rw [hins, List.map_append, List.map_cons, htm, hdm]
     have hpd : ∀ y ∈ (S.map encP).drop k, y.cells.length = 1 ∧ y.cells.all AV.leaf = true := fun y hy => by
      obtain ⟨c', _, rfl⟩ := List.mem_map.1 (List.mem_of_mem_drop hy)
      exact ⟨rfl, rfl⟩
     generalize (S.map encP).take k = tk at *
     generalize (S.map encP).drop k = dk at *
     refine AWP_drawT tOk mixed [8, 10] (.val 0 (.val 1 (.val 2 (.val 3 (.val 4 (.val 5 (.val 6 (.val 9 (.one 7 (.one 8 (.one 10 (.val 11 (.done))))))))))))) rfl (by kernel_rfl) ?_
     simp [hlt', hCg, hCh, hki]
     refine AStep_appendS tOk rfl rfl T91 rfl T76 rfl (by decide) (by decide) rfl rfl rfl ?_
     simp [get_app z3, set_app z3, htl]
     refine ⟨by simp [appOk, get_app z3, set_app z3, htl] <;> omega, ?_⟩
     refine AStep_abs fun Z hZ => ?_
     have z5 : Z[Y.length + 1]? = some (.arr 76 1 (tk ++ [encP x])) := by rw [hZ, List.getElem?_append_right (by simp)]; simp
     have z6 : Z[G.length + 1]? = some (.arr 76 1 dk) := by rw [hZ]; exact get_app (get_set (by omega) z4 _) _
     clear hZ
     have htl2 : (tk ++ [encP x]).length = k + 1 := by simp [htl]
     have hkt : i - k ≤ dk.length := by omega
     have hdt : dk.take (i - k) = dk := List.take_of_length_le (by omega)
     generalize hmm : tk ++ [encP x] = mm at *
     refine AStep_appendS tOk rfl rfl T91 rfl T76 rfl (by decide) (by decide) rfl rfl rfl ?_
     simp [get_app z5, set_app z5, get_app z6, htl2, hdl, hdt, z5, z6]
     refine ⟨⟨hpd, by simp; omega⟩, ?_⟩
     repeat first|((first|refine qa tOk rfl ?_|refine qb tOk rfl ?_|refine qh rfl ?_);simp [hw])|refine qf ?_|refine qg ?_
     refine ALoop_keep (sl' := [(5, .list (C.map encP)), (11, .sl Z.length 1 0 (i + 1)), (12, .i (i + 1 : Nat))]) ?_ (by simp; omega)
     refine ih3' Z.length _ ⟨by omega, ?_⟩ (by omega)
     rw [hres, List.getElem?_append_right (by simp), ← hmm]
     simp
   ·have hj1 : j = 0 := by omega
    subst hj1
    have hwm : IntKind.i64.wrap (-1) = -1 := by decide
    repeat first|((first|refine qa tOk rfl ?_|refine qb tOk rfl ?_|refine qh rfl ?_);simp)|refine qf ?_|refine qg ?_
    refine AWP_drawT tOk mixed [] (.val 0 (.val 1 (.val 2 (.val 3 (.val 4 (.val 5 (.val 6 (.val 8 (.val 9 (.val 10 (.val 11 (.val 12 (.one 7 (.one 13 (.one 14 (.val 15 (.done))))))))))))))))) rfl (by kernel_rfl) ?_
    simp [hlt', hCg, hCh, hq2, hSl', hwm]
    refine AStep_skip rfl rfl ?_
    simp [hq2, hSl', hwm]
    refine AStep_skip rfl rfl ?_
    simp
    refine AStep_skip rfl rfl ?_
    simp
    refine AWP_cond rfl ?_
    obtain ⟨k, hk⟩ : ∃ k, k = 0 := ⟨_, rfl⟩
    have hkI : k = insK S x S.length := by rw [← hJ, hk]; unfold insK; rfl
    have hki : k ≤ i := by omega
    refine AWP_keep (sl' := [(5, .list (C.map encP)), (11, .sl q2 1 0 i), (12, .i i), (13, .i (k : Nat))]) ?_ (by simp [hk])
    have hk0 : (0 : Int) ≤ (k : Int) := by omega
    have hki' : (k : Int) ≤ (i : Int) := by omega
    have hins : insP S x = S.take k ++ x :: S.drop k := by rw [insP, ← hkI]
    repeat first|((first|refine qa tOk rfl ?_|refine qb tOk rfl ?_|refine qh rfl ?_);simp [hki])|refine qf ?_|refine qg ?_
    refine AStep_appendS tOk rfl rfl T91 rfl T76 rfl (by decide) (by decide) rfl rfl rfl ?_
    simp [get_app hq2, set_app hq2, hSl', hki]
    refine ⟨⟨fun y hy => ?_, by simp; omega⟩, ?_⟩
    ·obtain ⟨c', _, rfl⟩ := List.mem_map.1 (List.mem_of_mem_drop (List.mem_of_mem_take hy))
     exact ⟨rfl, rfl⟩
    rw [trunc_eq hSl'.symm]
    refine AWP_abs fun Z hZ => ?_
    have hq2l := get_lt hq2
    have z1 : Z[q2]? = some (.arr 76 1 (S.map encP)) := by rw [hZ]; simp [List.getElem?_append_left hq2l, hq2]
    have z2 : Z[G.length + 1]? = some (.arr 76 1 ((S.map encP).drop k)) := by rw [hZ]; simp
    have zl : Z.length = G.length + 2 := by rw [hZ]; simp
    clear hZ
    refine AWP_keep (sl' := [(5, .list (C.map encP)), (11, .sl q2 1 0 i), (12, .i i), (13, .i (k : Nat)), (14, .sl (G.length + 1) 1 0 (i - k))]) ?_ (by simp)
    refine AWP_trunc q2 k z1 ?_
    have z3 : (Z.set q2 (.arr 76 1 ((S.map encP).take k)))[q2]? = some (.arr 76 1 ((S.map encP).take k)) := get_self z1 _
    have z4 : (Z.set q2 (.arr 76 1 ((S.map encP).take k)))[G.length + 1]? = some (.arr 76 1 ((S.map encP).drop k)) := get_set (by omega) z2 _
    have zl2 : (Z.set q2 (.arr 76 1 ((S.map encP).take k))).length = G.length + 2 := by simp [zl]
    generalize Z.set q2 (.arr 76 1 ((S.map encP).take k)) = Y at *
    clear z1 z2 zl
    clear Z
    have htl : ((S.map encP).take k).length = k := by rw [List.length_take]; omega
    have hdl : ((S.map encP).drop k).length = i - k := by rw [List.length_drop]; omega
    have htm : (S.map encP).take k = (S.take k).map encP := by rw [List.map_take]
    have hdm : (S.map encP).drop k = (S.drop k).map encP := by rw [List.map_drop]
    have hres : (insP S x).map encP = (S.map encP).take k ++ (encP x :: (S.map encP).drop k) := by rw [hins, List.map_append, List.map_cons, htm, hdm]
    have hpd : ∀ y ∈ (S.map encP).drop k, y.cells.length = 1 ∧ y.cells.all AV.leaf = true := fun y hy => by
     obtain ⟨c', _, rfl⟩ := List.mem_map.1 (List.mem_of_mem_drop hy)
     exact ⟨rfl, rfl⟩
    generalize (S.map encP).take k = tk at *
    generalize (S.map encP).drop k = dk at *
    refine AWP_drawT tOk mixed [8, 10] (.val 0 (.val 1 (.val 2 (.val 3 (.val 4 (.val 5 (.val 6 (.val 9 (.one 7 (.one 8 (.one 10 (.val 11 (.done))))))))))))) rfl (by kernel_rfl) ?_
    simp [hlt', hCg, hCh, hki]
    refine AStep_appendS tOk rfl rfl T91 rfl T76 rfl (by decide) (by decide) rfl rfl rfl ?_
    simp [get_app z3, set_app z3, htl]
    refine ⟨by simp [appOk, get_app z3, set_app z3, htl] <;> omega, ?_⟩
    refine AStep_abs fun Z hZ => ?_
    have z5 : Z[Y.length + 1]? = some (.arr 76 1 (tk ++ [encP x])) := by rw [hZ, List.getElem?_append_right (by simp)]; simp
    have z6 : Z[G.length + 1]? = some (.arr 76 1 dk) := by rw [hZ]; exact get_app (get_set (by omega) z4 _) _
    clear hZ
    have htl2 : (tk ++ [encP x]).length = k + 1 := by simp [htl]
    have hkt : i - k ≤ dk.length := by omega
    have hdt : dk.take (i - k) = dk := List.take_of_length_le (by omega)
    generalize hmm : tk ++ [encP x] = mm at *
    refine AStep_appendS tOk rfl rfl T91 rfl T76 rfl (by decide) (by decide) rfl rfl rfl ?_
    simp [get_app z5, set_app z5, get_app z6, htl2, hdl, hdt, z5, z6]
    refine ⟨⟨hpd, by simp; omega⟩, ?_⟩
    repeat first|((first|refine qa tOk rfl ?_|refine qb tOk rfl ?_|refine qh rfl ?_);simp [hw])|refine qf ?_|refine qg ?_
    refine ALoop_keep (sl' := [(5, .list (C.map encP)), (11, .sl Z.length 1 0 (i + 1)), (12, .i (i + 1 : Nat))]) ?_ (by simp; omega)
    refine ih3' Z.length _ ⟨by omega, ?_⟩ (by omega)
    rw [hres, List.getElem?_append_right (by simp), ← hmm]
    simp
  ·have hge' : i = C.length := by simp at hge; omega
   subst hge'
   rw [srtTo_all] at hq2
   have hsl := sort_len C
   refine AWP_freeze1 q2 hq2 ?_
   simp [hsl]
   rw [List.take_of_length_le (by simp [hsl])]
   repeat first|((first|refine qa tOk rfl ?_|refine qb tOk rfl ?_|refine qh rfl ?_);simp)|refine qf ?_|refine qg ?_
end Go.Abs
set_option maxRecDepth 100000
namespace Go.Abs
open Go Go.Proofs Go.Maps Go.RowKit
set_option linter.unusedSimpArgs false
def bigP (p : Prd) : Bool := p.any fun s => decide (256 < s.length)
def limP (p : Prd) : Int × Prd := if bigP p then (5, []) else (0, p)
theorem bigP_false {p : Prd} (h : ∀ i, ∀ hi : i < p.length, ¬ 256 < p[i].length) : bigP p = false := by
 unfold bigP
 rw [List.any_eq_false]
 intro s hs
 obtain ⟨i, hi, rfl⟩ := List.getElem_of_mem hs
 have := h i hi
 simpa using this
theorem bigP_true {p : Prd} {i : Nat} (hi : i < p.length) (h : 256 < p[i].length) : bigP p = true := by
 unfold bigP
 rw [List.any_eq_true]
 exact ⟨_, List.getElem_mem hi, by simpa using h⟩
set_option maxHeartbeats 2000000 in
theorem pc_rplimited (p : Prd) : PC Tryz.prog 172 [encP p] (fun r => r = .tup [encP (limP p).2, .i (limP p).1]) := by
 refine PC_body tOk Tryz.func172 rfl Tryz.results172 rfl (by simp [Tryz.ntmps172]) ?_
 rw [Tryz.ntmps172]
 simp only [argSlots]
 simp only [encP]
 refine AWP_lenAgg 0 0 rfl rfl (fun hlen => ?_)
 rw [List.length_map] at hlen
 repeat first|((first|refine qa tOk rfl ?_|refine qb tOk rfl ?_|refine qh rfl ?_);simp)|refine qf ?_|refine qg ?_
 refine AWP_countI p.length (fun j => ∀ i, ∀ hi : i < p.length, i < j → ¬ 256 < p[i].length) (fun j => [(1, .vptr 0 0), (2, .vptr 1 0), (3, .i 0), (4, .i j)]) (fun _ => [.vars [.list (p.map encL)], .vars [.nils]]) rfl (by simp) (by simp) (by simp) (by simp) (by simp) ?_
 intro j hj hI ih
 repeat first|((first|refine qa tOk rfl ?_|refine qb tOk rfl ?_|refine qh rfl ?_);simp)|refine qf ?_|refine qg ?_
 refine AWP_cond2 rfl (fun hlt => ?_) (fun hge => ?_)
 ·have hlt' : j < p.length := by simpa using hlt
  have hw : IntKind.i64.wrap ((j : Int) + 1) = j + 1 := wrap_i64 _ (by omega) (by omega)
  repeat first|((first|refine qa tOk rfl ?_|refine qb tOk rfl ?_|refine qh rfl ?_);simp [hlt'])|refine qf ?_|refine qg ?_
  refine AWP_cond2 rfl (fun h => ?_) (fun h => ?_)
  ·have hb := bigP_true hlt' (by simp at h; omega)
   rw [limP, if_pos hb]
   repeat first|((first|refine qa tOk rfl ?_|refine qb tOk rfl ?_|refine qh rfl ?_);simp)|refine qf ?_|refine qg ?_
  ·repeat first|((first|refine qa tOk rfl ?_|refine qb tOk rfl ?_|refine qh rfl ?_);simp [hw])|refine qf ?_|refine qg ?_
   refine ALoop_end _ (ih hlt' (fun i hi hij => ?_)) rfl (by simp) ?_ (by simp) (by simp)
   ·by_cases e : i = j
    ·subst e; simp at h; omega
    ·exact hI i hi (by omega)
   ·simp
 ·have hge' : j = p.length := by simp at hge; omega
  subst hge'
  have hb := bigP_false fun i hi => hI i hi hi
  rw [limP, hb]
  repeat first|((first|refine qa tOk rfl ?_|refine qb tOk rfl ?_|refine qh rfl ?_);simp)|refine qf ?_|refine qg ?_
theorem bigCl_split (L : List Prd) : bigCl L = (decide (256 < L.length) || L.any bigP) := rfl
attribute [local irreducible] rClassesP ckPrd bigP
theorem ckAll_at {T : Int} : ∀ (l : List Prd) (j : Nat), (∀ i, ∀ hi : i < l.length, i < j → ckPrd T l[i] = 0) → ∀ h : j < l.length, ckPrd T l[j] ≠ 0 → ckAllP T l = ckPrd T l[j]
 | [], j, _, h, _ => by simp at h
 | p :: l, 0, _, _, h => by simp only [List.getElem_cons_zero] at h ⊢; rw [ckAllP, if_pos h]
 | p :: l, j + 1, hI, hj, h => by
  have h0 := hI 0 (by simp) (by omega)
  simp only [List.getElem_cons_zero] at h0
  simp only [List.getElem_cons_succ] at h ⊢
  rw [ckAllP, if_neg (fun k => k h0)]
  exact ckAll_at l j (fun i hi hij => by have := hI (i + 1) (by simpa using hi) (by omega); simpa using this) (by simpa using hj) h
theorem ckAll_ok {T : Int} (l : List Prd) (hI : ∀ i, ∀ hi : i < l.length, ckPrd T l[i] = 0) : ckAllP T l = 0 := (ckAll_iff l).2 fun p hp => by
 obtain ⟨i, hi, rfl⟩ := List.getElem_of_mem hp
 exact hI i hi
attribute [local irreducible] ckAllP limP
set_option maxHeartbeats 4000000 in
theorem pc_rMinterms (T : Int) (l : List Prd) : PC Tryz.prog 117 [.i T, LP l] (fun r => r = .tup [LP (mintF T l).2, .i (mintF T l).1]) := by
 refine PC_body tOk Tryz.func117 rfl Tryz.results117 rfl (by simp [Tryz.ntmps117]) ?_
 rw [Tryz.ntmps117]
 simp only [argSlots]
 simp only [LP]
 rw [← mint_eq]
 obtain ⟨R, hR⟩ : ∃ R, mintR T l = R := ⟨_, rfl⟩
 rw [hR]
 unfold mintR at hR
 have hT0 : (T < 1 ∨ 16 < T) ∨ (1 ≤ T ∧ T ≤ 16) := by omega
 rcases hT0 with hT | hT
 ·rw [if_pos hT] at hR
  rw [← hR]
  rcases hT with hT | hT
  ·repeat first|((first|refine qa tOk rfl ?_|refine qb tOk rfl ?_|refine qh rfl ?_);simp [hT])|refine qf ?_|refine qg ?_
   refine AWP_cond rfl ?_
   repeat first|((first|refine qa tOk rfl ?_|refine qb tOk rfl ?_|refine qh rfl ?_);simp)|refine qf ?_|refine qg ?_
  ·have hT2 : ¬ T < 1 := by omega
   repeat first|((first|refine qa tOk rfl ?_|refine qb tOk rfl ?_|refine qh rfl ?_);simp [hT, hT2])|refine qf ?_|refine qg ?_
   refine AWP_cond rfl ?_
   repeat first|((first|refine qa tOk rfl ?_|refine qb tOk rfl ?_|refine qh rfl ?_);simp)|refine qf ?_|refine qg ?_
 have n1 : ¬ T < 1 := by omega
 have n2 : ¬ 16 < T := by omega
 rw [if_neg (by omega)] at hR
 repeat first|((first|refine qa tOk rfl ?_|refine qb tOk rfl ?_|refine qh rfl ?_);simp [n1, n2])|refine qf ?_|refine qg ?_
 refine AWP_cond rfl ?_
 repeat first|((first|refine qa tOk rfl ?_|refine qb tOk rfl ?_|refine qh rfl ?_);simp)|refine qf ?_|refine qg ?_
 refine AWP_cond2 rfl (fun h => ?_) (fun h => ?_)
 ·rw [if_pos (by simp at h; omega)] at hR
  rw [← hR]
  repeat first|((first|refine qa tOk rfl ?_|refine qb tOk rfl ?_|refine qh rfl ?_);simp)|refine qf ?_|refine qg ?_
 have hl : ¬ 256 < l.length := by simp at h; omega
 rw [if_neg hl] at hR
 repeat first|((first|refine qa tOk rfl ?_|refine qb tOk rfl ?_|refine qh rfl ?_);simp)|refine qf ?_|refine qg ?_
 refine AWP_countI l.length (fun j => ∀ i, ∀ hi : i < l.length, i < j → ckPrd T l[i] = 0) (fun j => [(0, .i T), (1, LP l), (6, .i j)]) (fun _ => []) rfl (by simp) (by simp) (by simp) (by simp) (by simp) ?_
 intro j hj hI ih
 repeat first|((first|refine qa tOk rfl ?_|refine qb tOk rfl ?_|refine qh rfl ?_);simp)|refine qf ?_|refine qg ?_
 refine AWP_cond2 rfl (fun hlt => ?_) (fun hge => ?_)
 ·have hlt' : j < l.length := by simpa using hlt
  have hw : IntKind.i64.wrap ((j : Int) + 1) = j + 1 := wrap_i64 _ (by omega) (by omega)
  repeat first|((first|refine qa tOk rfl ?_|refine qb tOk rfl ?_|refine qh rfl ?_);simp [hlt'])|refine qf ?_|refine qg ?_
  refine AStep_PC rfl rfl (by simp) (pc_rpCheck T l[j]) rfl ?_
  rintro _ rfl
  simp
  repeat first|((first|refine qa tOk rfl ?_|refine qb tOk rfl ?_|refine qh rfl ?_);simp)|refine qf ?_|refine qg ?_
  refine AWP_cond2 rfl (fun h => ?_) (fun h => ?_)
  ·have h' : ckPrd T l[j] ≠ 0 := by simpa using h
   rw [ckAll_at l j hI hlt' h', if_pos h'] at hR
   rw [← hR]
   repeat first|((first|refine qa tOk rfl ?_|refine qb tOk rfl ?_|refine qh rfl ?_);simp)|refine qf ?_|refine qg ?_
  ·have h' : ckPrd T l[j] = 0 := by simpa using h
   repeat first|((first|refine qa tOk rfl ?_|refine qb tOk rfl ?_|refine qh rfl ?_);simp [hw])|refine qf ?_|refine qg ?_
   refine ALoop_end _ (ih hlt' (fun i hi hij => ?_)) rfl (by simp) ?_ (by simp) (by simp)
   ·by_cases e : i = j
    ·subst e; exact h'
    ·exact hI i hi (by omega)
   ·simp
 have hge' : j = l.length := by simp at hge; omega
 have hck := ckAll_ok l fun i hi => hI i hi (by omega)
 have hpk : ∀ p ∈ l, PCk T.toNat p := fun p hp => ((ckPrd_iff T p).1 ((ckAll_iff l).1 hck p hp)).2
 rw [if_neg (fun k => k hck)] at hR
 repeat first|((first|refine qa tOk rfl ?_|refine qb tOk rfl ?_|refine qh rfl ?_);simp)|refine qf ?_|refine qg ?_
 refine AStep_PC rfl rfl (by simp) (pc_rpClasses T l hT hpk (by omega)) rfl ?_
 rintro _ rfl
 simp
 obtain ⟨hb, _⟩ := rClasses_gen (T := T.toNat) (by omega) (by omega) hpk (by omega : l.length ≤ 4096)
 rw [bigCl_split] at hR
 generalize rClassesP T.toNat l = C at *
 repeat first|((first|refine qa tOk rfl ?_|refine qb tOk rfl ?_|refine qh rfl ?_);simp)|refine qf ?_|refine qg ?_
 refine AWP_cond2 rfl (fun h => ?_) (fun h => ?_)
 ·have : 256 < C.length := by simp at h; omega
  rw [decide_eq_true this, Bool.true_or, if_pos rfl] at hR
  rw [← hR]
  repeat first|((first|refine qa tOk rfl ?_|refine qb tOk rfl ?_|refine qh rfl ?_);simp)|refine qf ?_|refine qg ?_
 have hC : ¬ 256 < C.length := by simp at h; omega
 rw [decide_eq_false hC, Bool.false_or] at hR
 repeat first|((first|refine qa tOk rfl ?_|refine qb tOk rfl ?_|refine qh rfl ?_);simp)|refine qf ?_|refine qg ?_
 refine AWP_countI C.length (fun j => ∀ i, ∀ hi : i < C.length, i < j → bigP C[i] = false) (fun j => [(8, LP C), (9, .i j)]) (fun _ => []) rfl (by simp) (by simp) (by simp) (by simp) (by simp) ?_
 intro j2 hj2 hI2 ih2
 repeat first|((first|refine qa tOk rfl ?_|refine qb tOk rfl ?_|refine qh rfl ?_);simp)|refine qf ?_|refine qg ?_
 refine AWP_cond2 rfl (fun hlt => ?_) (fun hge => ?_)
 ·have hlt' : j2 < C.length := by simpa using hlt
  have hw : IntKind.i64.wrap ((j2 : Int) + 1) = j2 + 1 := wrap_i64 _ (by omega) (by omega)
  repeat first|((first|refine qa tOk rfl ?_|refine qb tOk rfl ?_|refine qh rfl ?_);simp [hlt'])|refine qf ?_|refine qg ?_
  refine AStep_PC rfl rfl (by simp) (pc_rplimited C[j2]) rfl ?_
  rintro _ rfl
  simp
  cases hbp : bigP C[j2] with
  | true =>
   have hany : C.any bigP = true := List.any_eq_true.2 ⟨_, List.getElem_mem hlt', hbp⟩
   have hlm : limP C[j2] = (5, []) := by unfold limP; rw [if_pos hbp]
   rw [hany, if_pos rfl] at hR
   rw [hlm, ← hR]
   simp
   repeat first|((first|refine qa tOk rfl ?_|refine qb tOk rfl ?_|refine qh rfl ?_);simp)|refine qf ?_|refine qg ?_
   refine AWP_cond rfl ?_
   repeat (first|((first|refine qa tOk rfl ?_|refine qb tOk rfl ?_|refine qh rfl ?_);simp)|refine qf ?_|refine qg ?_)
  | false =>
   have hlm : limP C[j2] = (0, C[j2]) := by unfold limP; rw [if_neg (by rw [hbp]; simp)]
   rw [hlm]
   simp
   repeat first|((first|refine qa tOk rfl ?_|refine qb tOk rfl ?_|refine qh rfl ?_);simp)|refine qf ?_|refine qg ?_
   refine AWP_cond rfl ?_
   repeat first|((first|refine qa tOk rfl ?_|refine qb tOk rfl ?_|refine qh rfl ?_);simp [hw])|refine qf ?_|refine qg ?_
   refine ALoop_end _ (ih2 hlt' (fun i hi hij => ?_)) rfl (by simp) ?_ (by simp) (by simp)
   ·by_cases e : i = j2
    ·subst e; exact hbp
    ·exact hI2 i hi (by omega)
   ·simp
 ·have hge2' : j2 = C.length := by simp at hge; omega
  have hany : C.any bigP = false := by
   rw [List.any_eq_false]
   intro p hp
   obtain ⟨i, hi, rfl⟩ := List.getElem_of_mem hp
   rw [hI2 i hi (by omega)]; simp
  rw [hany, if_neg (by simp)] at hR
  rw [← hR]
  repeat first|((first|refine qa tOk rfl ?_|refine qb tOk rfl ?_|refine qh rfl ?_);simp)|refine qf ?_|refine qg ?_
end Go.Abs
set_option maxRecDepth 100000
namespace Go.Abs
open Go Go.Proofs Go.Maps Go.RowKit
set_option linter.unusedSimpArgs false
theorem bfsS_none {a : Aut} {cl : List Prd} {f i : Nat} {Q : List (List Int)} (hf : 0 < f) (h : Q[i]? = none) : bfsS a cl f i Q = some Q := by
 obtain ⟨g, rfl⟩ : ∃ g, f = g + 1 := ⟨f - 1, by omega⟩
 rw [bfsS, h]
theorem bfsS_some {a : Aut} {cl : List Prd} {f i : Nat} {Q : List (List Int)} {l : List Int} (h : Q[i]? = some l) (hQ : Q.length ≤ 256) : bfsS a cl (f + 1) i Q = (roundR Q (succS a cl l)).bind (bfsS a cl f (i + 1)) := by
 rw [bfsS, h, round_eq _ _ hQ]
 simp only
 split <;> rfl
theorem succ_drop (a : Aut) (cl : List Prd) (l : List Int) {k : Nat} (h : k < cl.length) : (succS a cl l).drop k = nextL a l (leastS cl[k]) :: (succS a cl l).drop (k + 1) := by
 have hk : k < (succS a cl l).length := by simpa [succS] using h
 rw [List.drop_eq_getElem_cons hk]
 simp [succS]
theorem addS_in {a : Aut} {Q : List (List Int)} {x : List Int} (hQ : ∀ l ∈ Q, l.length ≤ 256 ∧ ∀ s ∈ l, 0 ≤ s ∧ s < a.fin.length) (hx : x.length ≤ 256 ∧ ∀ s ∈ x, 0 ≤ s ∧ s < a.fin.length) : ∀ l ∈ addS Q x, l.length ≤ 256 ∧ ∀ s ∈ l, 0 ≤ s ∧ s < a.fin.length := by
 intro l hl
 unfold addS at hl
 split at hl
 ·exact hQ l hl
 ·rcases List.mem_append.1 hl with hl | hl
  ·exact hQ l hl
  ·rw [List.mem_singleton.1 hl]; exact hx
theorem fst_mem (Q : List (List Int)) (x : List Int) : decide (fstI (fun y => decide (y = x)) Q < 0) = decide (x ∉ Q) := by
 have := fst_ge (fun y => decide (y = x)) Q
 rw [decide_eq_decide]
 by_cases hx : x ∈ Q
 ·have h : Q.any (fun y => decide (y = x)) = true := List.any_eq_true.2 ⟨x, hx, by simp⟩
  rw [h] at this
  have := of_decide_eq_true this
  constructor
  ·intro k; omega
  ·intro k; exact absurd hx k
 ·have h : Q.any (fun y => decide (y = x)) = false := by
   rw [List.any_eq_false]
   intro y hy
   have : y ≠ x := fun e => hx (e ▸ hy)
   simpa using this
  rw [h] at this
  have := of_decide_eq_false this
  constructor
  ·intro _; exact hx
  ·intro _; omega
attribute [local irreducible] nextL leastS bfsS roundR succS mintF filtI nxB bitL fstI ckAut
set_option maxHeartbeats 8000000 in
theorem pc_rsubsets (a : Aut) (ha : OkA a) : PC Tryz.prog 52 [encA a] (fun r => r = .tup [LLI (subF a).2.2, LP (subF a).2.1, .i (subF a).1]) := by
 refine PC_body tOk Tryz.func52 rfl Tryz.results52 rfl (by simp [Tryz.ntmps52]) ?_
 rw [Tryz.ntmps52]
 simp only [argSlots]
 simp only [encA]
 obtain ⟨R, hR⟩ : ∃ R, subF a = R := ⟨_, rfl⟩
 rw [hR]
 unfold subF at hR
 rw [if_neg (fun k => k ((ck_ok a).2 ha))] at hR
 have hml := ha.mvs
 have hfin := ha.fin
 repeat first|((first|refine qa tOk rfl ?_|refine qb tOk rfl ?_|refine qh rfl ?_);simp)|refine qf ?_|refine qg ?_
 refine AWP_drawT tOk mixed [] (.val 0 (.val 1 (.val 2 (.one 3 (.one 4 (.val 5 (.val 6 (.val 7 (.val 8 (.val 9 (.done))))))))))) rfl (by kernel_rfl) ?_
 simp
 refine AStep_PC rfl rfl (by simp) (pc_rPreds a (by omega)) rfl ?_
 rintro _ rfl
 simp
 refine AStep_PC rfl rfl (by simp) (pc_rMinterms a.types (onA a)) rfl ?_
 rintro _ rfl
 simp
 have hmk := mint_ok ha.types (onA_ck ha)
 have hgen := rClasses_gen (T := a.types.toNat) (by have := ha.types; omega) (by have := ha.types; omega) (onA_ck ha) (by simp [onA]; omega)
 generalize mintF a.types (onA a) = M at *
 repeat first|((first|refine qa tOk rfl ?_|refine qb tOk rfl ?_|refine qh rfl ?_);simp)|refine qf ?_|refine qg ?_
 refine AWP_cond2 rfl (fun h => ?_) (fun h => ?_)
 ·rw [if_pos (by simpa using h)] at hR
  rw [← hR]
  repeat first|((first|refine qa tOk rfl ?_|refine qb tOk rfl ?_|refine qh rfl ?_);simp)|refine qf ?_|refine qg ?_
 have h0 : M.1 = 0 := by simpa using h
 rw [if_neg (fun k => k h0)] at hR
 have hM : M.2 = rClassesP a.types.toNat (onA a) := by
  rcases hmk with k | k
  ·rw [h0] at k; cases k
  ·rw [k]
 rw [← hM] at hgen
 generalize M.2 = cl at *
 have hcl : ∀ c ∈ cl, voidP c = false := fun c hc => (hgen.2 c hc).2.1
 have hcn := hgen.1
 have hok : ∀ c ∈ cl, ∀ l, nextL a l (leastS c) = nextL a l (leastS c) := fun _ _ _ => rfl
 repeat first|((first|refine qa tOk rfl ?_|refine qb tOk rfl ?_|refine qh rfl ?_);simp)|refine qf ?_|refine qg ?_
 refine AWP_freezeO 1 (e := 3) (c := 1) (xs := [.i 0]) rfl 2 (o0 := .va 40 1 [.sl 1 1 0 1]) rfl (by decide) rfl ?_
 simp [AObj.fz, AV.fz]
 refine AWP_toArr 2 rfl (by simp [AV.cells, AV.pure]) ?_
 simp
 refine AWP_loop (ALoop_keep (sl' := [(1, .vptr 0 0), (2, .nils), (3, .nils), (4, .i 0), (5, LP cl), (7, .sl 2 1 0 ([[0]] : List (List Int)).length), (8, .i (0 : Nat))]) ?_ (by simp))
 refine ALoop_wf (F := fun (u : Nat × Nat × List (List Int) × List AObj) => ⟨[(1, .vptr 0 0), (2, .nils), (3, .nils), (4, .i 0), (5, LP cl), (7, .sl u.2.1 1 0 u.2.2.1.length), (8, .i u.1)], u.2.2.2⟩)
  (fun u => u.1 ≤ u.2.2.1.length ∧ u.2.2.1.length ≤ 256 ∧ u.2.2.2[0]? = some (.vars (cellsA a)) ∧ u.2.2.2[u.2.1]? = some (.arr 40 1 (LQ u.2.2.1)) ∧ (∀ l ∈ u.2.2.1, l.length ≤ 256 ∧ ∀ s ∈ l, 0 ≤ s ∧ s < a.fin.length) ∧ bfsS a cl (257 - u.1) u.1 u.2.2.1 = subsR a cl) (fun u => 257 - u.1) ?_ (0, 2, [[0]], _) ⟨by simp, by simp, rfl, rfl, fun l hl => by
   rw [List.mem_singleton.1 hl]; simp; omega, rfl⟩
 rintro ⟨n, q, Q, H⟩ ⟨hn, hQl, h0', hq, hin, hB⟩ ih
 simp only at hn hQl h0' hq hin hB ih ⊢
 repeat first|((first|refine qa tOk rfl ?_|refine qb tOk rfl ?_|refine qh rfl ?_);simp)|refine qf ?_|refine qg ?_
 refine AWP_cond2 rfl (fun hlt => ?_) (fun hge => ?_)
 ·have hlt' : n < Q.length := by simpa using hlt
  have hw : IntKind.i64.wrap ((n : Int) + 1) = n + 1 := wrap_i64 _ (by omega) (by omega)
  have hQn : Q[n]? = some Q[n] := List.getElem?_eq_getElem hlt'
  rw [show 257 - n = (256 - n) + 1 by omega, bfsS_some hQn hQl] at hB
  obtain ⟨hll, hls⟩ := hin _ (List.getElem_mem hlt')
  generalize Q[n] = l at *
  repeat first|((first|refine qa tOk rfl ?_|refine qb tOk rfl ?_|refine qh rfl ?_);simp)|refine qf ?_|refine qg ?_
  refine AWP_loop (ALoop_keep (sl' := [(1, .vptr 0 0), (2, .nils), (3, .nils), (4, .i 0), (5, LP cl), (7, .sl q 1 0 Q.length), (8, .i n), (9, .i (0 : Nat))]) ?_ (by simp))
  refine ALoop_wf (F := fun (u : Nat × Nat × List (List Int) × List AObj) => ⟨[(1, .vptr 0 0), (2, .nils), (3, .nils), (4, .i 0), (5, LP cl), (7, .sl u.2.1 1 0 u.2.2.1.length), (8, .i n), (9, .i u.1)], u.2.2.2⟩)
   (fun u => u.1 ≤ cl.length ∧ n < u.2.2.1.length ∧ u.2.2.1.length ≤ 256 ∧ u.2.2.2[0]? = some (.vars (cellsA a)) ∧ u.2.2.2[u.2.1]? = some (.arr 40 1 (LQ u.2.2.1)) ∧ (∀ l ∈ u.2.2.1, l.length ≤ 256 ∧ ∀ s ∈ l, 0 ≤ s ∧ s < a.fin.length) ∧ u.2.2.1[n]? = some l ∧ roundR u.2.2.1 ((succS a cl l).drop u.1) = roundR Q (succS a cl l)) (fun u => cl.length - u.1) ?_ (0, q, Q, H) ⟨Nat.zero_le _, hlt', hQl, h0', hq, hin, hQn, by rw [List.drop_zero]⟩
  rintro ⟨k, q2, Q2, G⟩ ⟨hk, hn2, hQ2, k0, kq, kin, kn, kR⟩ ih2
  simp only at hk hn2 hQ2 k0 kq kin kn kR ih2 ⊢
  repeat first|((first|refine qa tOk rfl ?_|refine qb tOk rfl ?_|refine qh rfl ?_);simp)|refine qf ?_|refine qg ?_
  refine AWP_cond2 rfl (fun hlt2 => ?_) (fun hge2 => ?_)
  ·have hlt2' : k < cl.length := by simpa using hlt2
   have hw2 : IntKind.i64.wrap ((k : Int) + 1) = k + 1 := wrap_i64 _ (by omega) (by omega)
   rw [succ_drop a cl l hlt2'] at kR
   have hv := hcl _ (List.getElem_mem hlt2')
   have hcg : (List.map encP cl)[k]? = some (encP cl[k]) := by simp [hlt2']
   have hch : ∀ hh, (List.map encP cl)[k]'hh = encP cl[k] := fun hh => by simp
   generalize cl[k] = c at *
   have hxl : (nextL a l (leastS c)).length ≤ 256 := next_len ha l (leastS c)
   have hxs : ∀ s ∈ nextL a l (leastS c), 0 ≤ s ∧ s < a.fin.length := nextL_in
   have hlg : (LQ Q2)[n]? = some (LI l) := by simp [kn]
   have hlh : ∀ hh, (LQ Q2)[n]'hh = LI l := fun hh => by rw [List.getElem?_eq_getElem hh] at hlg; exact Option.some.inj hlg
   have hlq : (LQ Q2).length = Q2.length := by simp
   simp only [encP] at hcg hch
   repeat first|((first|refine qa tOk rfl ?_|refine qb tOk rfl ?_|refine qh rfl ?_);simp)|refine qf ?_|refine qg ?_
   refine AWP_drawT tOk mixed [] (.val 0 (.val 1 (.val 2 (.val 3 (.val 4 (.val 5 (.val 7 (.val 8 (.val 9 (.val 10 (.one 6 (.one 11 (.one 12 (.one 13 (.val 14 (.done)))))))))))))))) rfl (by kernel_rfl) ?_
   simp [k0, kq, hlg, hlh, hlq, hn2, hlt2', hcg, hch]
   refine AStep_PC rfl rfl (by simp) (pc_rset a ha l hls (by omega)) rfl ?_
   rintro _ rfl
   simp [k0, kq, hlg, hlh, hlq, hn2, hlt2', hcg, hch]
   refine AStep_PC rfl rfl (by simp) (pc_rpLeast c hv) rfl ?_
   rintro _ rfl
   simp [k0]
   refine AStep_PC rfl rfl (by simp) (pc_rNext28 a ha (fun z => decide (z ∈ l)) (leastS c)) rfl ?_
   rintro _ rfl
   simp
   refine AStep_PC rfl rfl (by simp) (pc_rlist a.fin.length (nxB a.mv (fun z => decide (z ∈ l)) (leastS c)) (by omega)) rfl ?_
   rintro _ rfl
   simp
   rw [filt_next]
   have hadd : addS Q2 (nextL a l (leastS c)) = if nextL a l (leastS c) = [] ∨ nextL a l (leastS c) ∈ Q2 then Q2 else Q2 ++ [nextL a l (leastS c)] := rfl
   have hin2 := addS_in kin ⟨hxl, hxs⟩
   rw [roundR] at kR
   generalize nextL a l (leastS c) = x at *
   have htl : List.take Q2.length (LQ Q2) = LQ Q2 := List.take_of_length_le (by simp)
   by_cases hx : x = []
   ·rw [if_pos (.inl hx)] at hadd
    rw [hadd] at kR hin2
    subst hx
    repeat first|((first|refine qa tOk rfl ?_|refine qb tOk rfl ?_|refine qh rfl ?_);simp)|refine qf ?_|refine qg ?_
    refine AStep_skip rfl rfl ?_
    simp
    repeat first|((first|refine qa tOk rfl ?_|refine qb tOk rfl ?_|refine qh rfl ?_);simp)|refine qf ?_|refine qg ?_
    refine AWP_cond rfl ?_
    repeat first|((first|refine qa tOk rfl ?_|refine qb tOk rfl ?_|refine qh rfl ?_);simp)|refine qf ?_|refine qg ?_
    refine AWP_cond2 rfl (fun h => by simp at h; omega) (fun _ => ?_)
    repeat first|((first|refine qa tOk rfl ?_|refine qb tOk rfl ?_|refine qh rfl ?_);simp [hw2])|refine qf ?_|refine qg ?_
    rw [if_neg (by omega)] at kR
    refine ALoop_keep (sl' := [(1, .vptr 0 0), (2, .nils), (3, .nils), (4, .i 0), (5, LP cl), (7, .sl q2 1 0 Q2.length), (8, .i n), (9, .i (k + 1 : Nat))]) ?_ (by simp)
    exact ih2 (k + 1, q2, Q2, G) ⟨by omega, hn2, hQ2, k0, kq, kin, kn, kR⟩ (by omega)
   ·have hxp : 0 < x.length := List.length_pos_iff.2 hx
    repeat first|((first|refine qa tOk rfl ?_|refine qb tOk rfl ?_|refine qh rfl ?_);simp [hxp])|refine qf ?_|refine qg ?_
    refine AStep_PCflat rfl rfl (by first | (simp [kq, htl, hlq]; done) | (simp [kq, htl, hlq]; rfl)) (pc_rfind Q2 x) rfl ?_
    rintro _ rfl
    refine ⟨by first | simp | rfl | trivial, ?_⟩
    simp [kq, htl, hlq]
    rw [fst_mem]
    by_cases hm : x ∈ Q2
    ·rw [if_pos (.inr hm)] at hadd
     rw [hadd, if_neg (by omega)] at kR
     refine AWP_cond2 rfl (fun h => by simp [hm] at h) (fun _ => ?_)
     repeat first|((first|refine qa tOk rfl ?_|refine qb tOk rfl ?_|refine qh rfl ?_);simp)|refine qf ?_|refine qg ?_
     refine AWP_cond2 rfl (fun h => by simp at h; omega) (fun _ => ?_)
     repeat first|((first|refine qa tOk rfl ?_|refine qb tOk rfl ?_|refine qh rfl ?_);simp [hw2])|refine qf ?_|refine qg ?_
     refine ALoop_keep (sl' := [(1, .vptr 0 0), (2, .nils), (3, .nils), (4, .i 0), (5, LP cl), (7, .sl q2 1 0 Q2.length), (8, .i n), (9, .i (k + 1 : Nat))]) ?_ (by simp)
     exact ih2 (k + 1, q2, Q2, G) ⟨by omega, hn2, hQ2, k0, kq, kin, kn, kR⟩ (by omega)
    ·rw [if_neg (by rintro (h | h); exact hx h; exact hm h)] at hadd
     rw [hadd] at kR hin2
     have hq0 : q2 ≠ 0 := fun e => by rw [e, k0] at kq; simp at kq
     refine AWP_cond2 rfl (fun _ => ?_) (fun h => by simp [hm] at h)
     repeat first|((first|refine qa tOk rfl ?_|refine qb tOk rfl ?_|refine qh rfl ?_);simp)|refine qf ?_|refine qg ?_
     have hll2 : (LQ Q2 ++ [LI x]) = LQ (Q2 ++ [x]) := by simp
     refine AStep_appendS tOk rfl rfl T28 rfl T40 rfl (by decide) (by decide) rfl rfl rfl ?_
     simp [get_app kq, set_app kq, hlq]
     refine ⟨by simp [appOk, get_app kq, set_app kq, hlq] <;> omega, ?_⟩
     repeat first|((first|refine qa tOk rfl ?_|refine qb tOk rfl ?_|refine qh rfl ?_);simp)|refine qf ?_|refine qg ?_
     refine AWP_cond2 rfl (fun h => ?_) (fun h => ?_)
     ·have hbig : 256 < (Q2 ++ [x]).length := by simp at h ⊢; omega
      rw [if_pos hbig] at kR
      rw [← kR] at hB
      rw [← hB] at hR
      simp at hR
      rw [← hR]
      repeat first|((first|refine qa tOk rfl ?_|refine qb tOk rfl ?_|refine qh rfl ?_);simp)|refine qf ?_|refine qg ?_
     ·have hbig : ¬ 256 < (Q2 ++ [x]).length := by simp at h ⊢; omega
      rw [if_neg hbig] at kR
      repeat first|((first|refine qa tOk rfl ?_|refine qb tOk rfl ?_|refine qh rfl ?_);simp [hw2])|refine qf ?_|refine qg ?_
      refine ALoop_keep (sl' := [(1, .vptr 0 0), (2, .nils), (3, .nils), (4, .i 0), (5, LP cl), (7, .sl (G.length + 1) 1 0 (Q2 ++ [x]).length), (8, .i n), (9, .i (k + 1 : Nat))]) ?_ (by simp)
      refine ih2 (k + 1, G.length + 1, Q2 ++ [x], _) ⟨by omega, by simp; omega, by simp at hbig ⊢; omega, get_app (get_set hq0 k0 _) _, ?_, hin2, by simp only; rw [List.getElem?_append_left hn2]; exact kn, kR⟩ (by omega)
      rw [List.getElem?_append_right (by simp)]
      simp
  ·have hge2' : k = cl.length := by simp at hge2; omega
   have hsl : (succS a cl l).length = cl.length := by unfold succS; simp
   rw [List.drop_eq_nil_of_le (by omega), roundR] at kR
   rw [← kR] at hB
   simp only [Option.bind_some] at hB
   repeat first|((first|refine qa tOk rfl ?_|refine qb tOk rfl ?_|refine qh rfl ?_);simp [hw])|refine qf ?_|refine qg ?_
   refine ALoop_keep (sl' := [(1, .vptr 0 0), (2, .nils), (3, .nils), (4, .i 0), (5, LP cl), (7, .sl q2 1 0 Q2.length), (8, .i (n + 1 : Nat))]) ?_ (by simp)
   exact ih (n + 1, q2, Q2, G) ⟨by simp only; omega, hQ2, k0, kq, kin, by rw [show 257 - (n + 1) = 256 - n by omega]; exact hB⟩ (by simp; omega)
 ·have hge' : n = Q.length := by simp at hge; omega
  rw [bfsS_none (by omega) (by rw [List.getElem?_eq_none_iff]; omega)] at hB
  rw [← hB] at hR
  rw [← hR]
  refine AWP_freeze1 q hq ?_
  simp
  rw [List.take_of_length_le (by simp)]
  repeat first|((first|refine qa tOk rfl ?_|refine qb tOk rfl ?_|refine qh rfl ?_);simp)|refine qf ?_|refine qg ?_
theorem pc_rSubsets (a : Aut) : PC Tryz.prog 16 [encA a] (fun r => r = .tup [LLI (subF a).2.2, .i (subF a).1]) := by
 refine PC_body tOk Tryz.func16 rfl Tryz.results16 rfl (by simp [Tryz.ntmps16]) ?_
 rw [Tryz.ntmps16]
 simp only [argSlots]
 simp only [encA]
 repeat first|((first|refine qa tOk rfl ?_|refine qb tOk rfl ?_|refine qh rfl ?_);simp)|refine qf ?_|refine qg ?_
 refine AStep_PC rfl rfl (by simp) (pc_rsCheck a) rfl ?_
 rintro _ rfl
 simp
 repeat first|((first|refine qa tOk rfl ?_|refine qb tOk rfl ?_|refine qh rfl ?_);simp)|refine qf ?_|refine qg ?_
 refine AWP_cond2 rfl (fun h => ?_) (fun h => ?_)
 ·rw [sub_bad (by simpa using h)]
  repeat first|((first|refine qa tOk rfl ?_|refine qb tOk rfl ?_|refine qh rfl ?_);simp)|refine qf ?_|refine qg ?_
 ·have hok := (ck_ok a).1 (by simpa using h)
  repeat first|((first|refine qa tOk rfl ?_|refine qb tOk rfl ?_|refine qh rfl ?_);simp)|refine qf ?_|refine qg ?_
  refine AStep_PC rfl rfl (by simp) (pc_rsubsets a hok) rfl ?_
  rintro _ rfl
  simp
  repeat first|((first|refine qa tOk rfl ?_|refine qb tOk rfl ?_|refine qh rfl ?_);simp)|refine qf ?_|refine qg ?_
end Go.Abs
set_option maxRecDepth 100000
namespace Go.Abs
open Go Go.Proofs Go.Maps Go.RowKit
set_option linter.unusedSimpArgs false
theorem find_idx (Q : List (List Int)) (x : List Int) : fstI (fun y => decide (y = x)) Q = match idxQ Q x with | some i => (i : Int) | none => -1 := rfl
theorem lead_idx (g : List Mv) (t : Nat) : fstI (fun m : Mv => m.dst == (t : Int)) g = match g.findIdx? fun m : Mv => decide (m.dst = (t : Int)) with | some i => (i : Int) | none => -1 := rfl
theorem stepG_none {a : Aut} {Q : List (List Int)} {n : Nat} {l : List Int} {g : List Mv} {c : Prd} (h : idxQ Q (nextL a l (leastS c)) = none) : stepG a Q n l g c = g := by unfold stepG; rw [h]
theorem stepG_some {a : Aut} {Q : List (List Int)} {n t : Nat} {l : List Int} {g : List Mv} {c : Prd} (h : idxQ Q (nextL a l (leastS c)) = some t) : stepG a Q n l g c = addMv n g t c := by unfold stepG; rw [h]
attribute [local irreducible] subF nextL leastS limA detA mvTo grpTo' stepG finB bigA fstI filtI nxB bitL limK ckAut
set_option maxHeartbeats 8000000 in
theorem pc_rDeterminize (a : Aut) : PC Tryz.prog 19 [encA a] (fun r => r = .tup [encA (detF a).2, .i (detF a).1]) := by
 refine PC_body tOk Tryz.func19 rfl Tryz.results19 rfl (by simp [Tryz.ntmps19]) ?_
 rw [Tryz.ntmps19]
 simp only [argSlots]
 simp only [encA]
 obtain ⟨R, hR⟩ : ∃ R, detF a = R := ⟨_, rfl⟩
 rw [hR]
 unfold detF at hR
 repeat first|((first|refine qa tOk rfl ?_|refine qb tOk rfl ?_|refine qh rfl ?_);simp)|refine qf ?_|refine qg ?_
 refine AStep_PC rfl rfl (by simp) (pc_rsCheck a) rfl ?_
 rintro _ rfl
 simp
 repeat first|((first|refine qa tOk rfl ?_|refine qb tOk rfl ?_|refine qh rfl ?_);simp)|refine qf ?_|refine qg ?_
 refine AWP_cond2 rfl (fun h => ?_) (fun h => ?_)
 ·have h' : ckAut a ≠ 0 := by simpa using h
  rw [sub_bad h', if_pos h'] at hR
  rw [← hR]
  repeat first|((first|refine qa tOk rfl ?_|refine qb tOk rfl ?_|refine qh rfl ?_);simp)|refine qf ?_|refine qg ?_
  exact ⟨rfl, rfl, rfl⟩
 have hok := (ck_ok a).1 (by simpa using h)
 repeat first|((first|refine qa tOk rfl ?_|refine qb tOk rfl ?_|refine qh rfl ?_);simp)|refine qf ?_|refine qg ?_
 refine AStep_PC rfl rfl (by simp) (pc_rsubsets a hok) rfl ?_
 rintro _ rfl
 simp
 repeat first|((first|refine qa tOk rfl ?_|refine qb tOk rfl ?_|refine qh rfl ?_);simp)|refine qf ?_|refine qg ?_
 refine AWP_cond2 rfl (fun h => ?_) (fun h => ?_)
 ·have h' : (subF a).1 ≠ 0 := by simpa using h
  rw [if_pos h'] at hR
  rw [← hR]
  repeat first|((first|refine qa tOk rfl ?_|refine qb tOk rfl ?_|refine qh rfl ?_);simp)|refine qf ?_|refine qg ?_
  exact ⟨rfl, rfl, rfl⟩
 have he : (subF a).1 = 0 := by simpa using h
 rw [if_neg (fun k => k he)] at hR
 obtain ⟨-, cl, Q, hsf, hsr, hcls, hsub, hcln, hcf⟩ := sub_facts he
 rw [hsf] at hR ⊢
 have hwd := wf_det hcls hsub
 rw [← lim_eq hwd] at hR
 try simp only at hR
 have hQl := hsub.lim
 repeat first|((first|refine qa tOk rfl ?_|refine qb tOk rfl ?_|refine qh rfl ?_);simp)|refine qf ?_|refine qg ?_
 refine AWP_keep (sl' := [(1, .vptr 0 0), (2, .vptr 1 0), (3, .i 0), (5, LLI Q), (6, LP cl), (8, .vptr 2 0), (9, .i (0 : Nat))]) ?_ (by simp)
 refine AWP_nilCell 2 1 4 1 rfl rfl ?_
 refine AWP_abs fun Z1 hZ1 => ?_
 have z1l : Z1.length = 4 := by rw [hZ1]; simp
 have z1c : Z1[2]? = some (.vars [.i a.types, .sl 3 1 0 0, .nils]) := by rw [hZ1]; rfl
 have z1f : Z1[3]? = some (.arr 4 1 []) := by rw [hZ1]; rfl
 have z10 : Z1[0]? = some (.vars (cellsA a)) := by rw [hZ1]; rfl
 have z11 : Z1[1]? = some (.vars [.i 0, .nils, .nils]) := by rw [hZ1]; rfl
 clear hZ1
 refine AWP_nilCell 2 2 78 3 z1c rfl ?_
 refine AWP_abs fun Z2 hZ2 => ?_
 have z2c : Z2[2]? = some (.vars [.i a.types, .sl 3 1 0 0, .sl 4 3 0 0]) := by rw [hZ2, List.getElem?_set_self (by simp; omega)]; simp [z1l]
 have z2f : Z2[3]? = some (.arr 4 1 []) := by rw [hZ2, List.getElem?_set_ne (by omega), List.getElem?_append_left (by omega)]; exact z1f
 have z2v : Z2[4]? = some (.arr 78 3 []) := by rw [hZ2, List.getElem?_set_ne (by omega), List.getElem?_append_right (by omega)]; simp [z1l]
 have z20 : Z2[0]? = some (.vars (cellsA a)) := by rw [hZ2, List.getElem?_set_ne (by omega), List.getElem?_append_left (by omega)]; exact z10
 have z21 : Z2[1]? = some (.vars [.i 0, .nils, .nils]) := by rw [hZ2, List.getElem?_set_ne (by omega), List.getElem?_append_left (by omega)]; exact z11
 clear hZ2 z1l z1c z1f z10 z11
 clear Z1
 refine AWP_loop (ALoop_keep (sl' := [(1, .vptr 0 0), (2, .vptr 1 0), (3, .i 0), (5, LLI Q), (6, LP cl), (8, .vptr 2 0), (9, .i (0 : Nat))]) ?_ (by simp))
 refine ALoop_wf (F := fun (u : Nat × Nat × Nat × List AObj) => ⟨[(1, .vptr 0 0), (2, .vptr 1 0), (3, .i 0), (5, LLI Q), (6, LP cl), (8, .vptr 2 0), (9, .i u.1)], u.2.2.2⟩)
  (fun u => u.1 ≤ Q.length ∧ u.2.2.2[0]? = some (.vars (cellsA a)) ∧ u.2.2.2[1]? = some (.vars [.i 0, .nils, .nils]) ∧ u.2.2.2[2]? = some (.vars [.i a.types, .sl u.2.1 1 0 u.1, .sl u.2.2.1 3 0 (mvTo a cl Q u.1).length]) ∧ u.2.2.2[u.2.1]? = some (.arr 4 1 (((Q.take u.1).map (finB a)).map .bool)) ∧ u.2.2.2[u.2.2.1]? = some (.arr 78 3 ((mvTo a cl Q u.1).map encMv)))
  (fun u => Q.length - u.1) ?_ (0, 3, 4, Z2) ⟨Nat.zero_le _, z20, z21, by rw [mvTo_zero]; exact z2c, by simpa using z2f, by rw [mvTo_zero]; exact z2v⟩
 clear z20 z21 z2c z2f z2v
 clear Z2
 rintro ⟨n, f, v, G⟩ ⟨hn, g0, g1, gc, gf, gv⟩ ih
 simp only at hn g0 g1 gc gf gv ih ⊢
 repeat first|((first|refine qa tOk rfl ?_|refine qb tOk rfl ?_|refine qh rfl ?_);simp)|refine qf ?_|refine qg ?_
 refine AWP_cond2 rfl (fun hlt => ?_) (fun hge => ?_)
 ·have hlt' : n < Q.length := by simpa using hlt
  have hw : IntKind.i64.wrap ((n : Int) + 1) = n + 1 := wrap_i64 _ (by omega) (by omega)
  have hQn : Q[n]? = some Q[n] := List.getElem?_eq_getElem hlt'
  have hlm := List.getElem_mem hlt'
  obtain ⟨hasc, hls⟩ := hsub.elem _ hlm
  have hll := asc_len hasc hls
  have hfin := hok.fin
  have hmvn := mvTo_succ a cl Q n
  have hgd : Q.getD n [] = Q[n] := by simp [List.getD, hlt']
  rw [hgd] at hmvn
  have hmvl := (mvTo_len a cl Q hQl hcln n hlt').2
  have hfnn : (Q.take (n + 1)).map (finB a) = (Q.take n).map (finB a) ++ [finB a Q[n]] := by rw [List.take_succ_eq_append_getElem hlt', List.map_append]; rfl
  have ih' := fun f' v' G' => ih (n + 1, f', v', G')
  simp only [hmvn, hfnn] at ih'
  clear hmvn hfnn hgd
  have hLg : (List.map LI Q)[n]? = some (LI Q[n]) := by simp [hlt']
  have hLh : ∀ hh, (List.map LI Q)[n]'hh = LI Q[n] := fun hh => by simp
  have hnv : f ≠ v := fun e => by rw [e, gv] at gf; simp at gf
  have hf2 : f ≠ 2 := fun e => by rw [e, gc] at gf; simp at gf
  have hv2 : v ≠ 2 := fun e => by rw [e, gc] at gv; simp at gv
  have hf0 : f ≠ 0 := fun e => by rw [e, g0] at gf; simp at gf
  have hf1 : f ≠ 1 := fun e => by rw [e, g1] at gf; simp at gf
  have hv0 : v ≠ 0 := fun e => by rw [e, g0] at gv; simp at gv
  have hv1 : v ≠ 1 := fun e => by rw [e, g1] at gv; simp at gv
  generalize hl : Q[n] = l at *
  have hacc : (((Q.take n).map (finB a)).map AV.bool).length = n := by simp; omega
  generalize ((Q.take n).map (finB a)) = fs at *
  repeat first|((first|refine qa tOk rfl ?_|refine qb tOk rfl ?_|refine qh rfl ?_);simp)|refine qf ?_|refine qg ?_
  refine AWP_drawT tOk mixed [9, 11] (.val 0 (.val 1 (.val 2 (.val 3 (.val 4 (.val 5 (.val 6 (.one 7 (.one 8 (.one 9 (.val 10 (.one 11 (.done))))))))))))) rfl (by kernel_rfl) ?_
  simp [gc, g0, hlt', hLg, hLh]
  refine AStep_PC rfl rfl (by simp) (pc_rfinal a l hls (by omega)) rfl ?_
  rintro _ rfl
  simp [gc, g0]
  have g2c : ∀ M, (G.set f .dead ++ M)[2]? = some (.vars [.i a.types, .sl f 1 0 n, .sl v 3 0 (mvTo a cl Q n).length]) := fun M => get_app (get_set hf2 gc _) M
  have g2d : ∀ M hh, (G.set f .dead ++ M)[2]'hh = .vars [.i a.types, .sl f 1 0 n, .sl v 3 0 (mvTo a cl Q n).length] := fun M hh => by have := g2c M; rw [List.getElem?_eq_getElem hh] at this; exact Option.some.inj this
  refine AStep_appendS tOk rfl rfl T22 rfl T4 rfl (by decide) (by decide) rfl rfl rfl ?_
  simp [get_app gf, set_app gf, hacc, g2c, g2d]
  refine ⟨by simp [appOk, get_app gf, set_app gf, hacc, g2c, g2d] <;> omega, ?_⟩
  refine AWP_abs fun Z hZ => ?_
  have hvl := get_lt gv
  have hfl := get_lt gf
  have z0 : Z[0]? = some (.vars (cellsA a)) := by rw [hZ]; exact get_set (by decide) (get_app (get_set hf0 g0 _) _) _
  have z1 : Z[1]? = some (.vars [.i 0, .nils, .nils]) := by rw [hZ]; exact get_set (by decide) (get_app (get_set hf1 g1 _) _) _
  have zc : Z[2]? = some (.vars [.i a.types, .sl (G.length + 1) 1 0 (n + 1), .sl v 3 0 (mvTo a cl Q n).length]) := by rw [hZ]; exact get_self (g2c _) _
  have zf : Z[G.length + 1]? = some (.arr 4 1 ((fs ++ [finB a l]).map .bool)) := by rw [hZ, List.getElem?_set_ne (by omega), List.getElem?_append_right (by simp)]; simp
  have zv : Z[v]? = some (.arr 78 3 ((mvTo a cl Q n).map encMv)) := by rw [hZ]; exact get_set (Ne.symm hv2) (get_app (get_set hnv gv _) _) _
  have zn1 : G.length + 1 ≠ v := by omega
  have zn2 : G.length + 1 ≠ 2 := by have := get_lt gc; omega
  clear hZ g2c g2d
  generalize G.length + 1 = f1 at *
  repeat first|((first|refine qa tOk rfl ?_|refine qb tOk rfl ?_|refine qh rfl ?_);simp)|refine qf ?_|refine qg ?_
  refine AWP_keep (sl' := [(1, .vptr 0 0), (2, .vptr 1 0), (3, .i 0), (5, LLI Q), (6, LP cl), (8, .vptr 2 0), (9, .i n), (10, .nils), (11, .i (0 : Nat))]) ?_ (by simp)
  refine AWP_nilSlot 10 78 3 rfl ?_
  simp
  have hst := SL.start Z 78 3
  refine AWP_loop (ALoop_keep (sl' := [(1, .vptr 0 0), (2, .vptr 1 0), (3, .i 0), (5, LLI Q), (6, LP cl), (8, .vptr 2 0), (9, .i n), (10, .sl Z.length 3 0 (grpTo' a cl Q n l 0).length), (11, .i (0 : Nat))]) ?_ (by simp [grpTo_zero]))
  refine ALoop_wf (F := fun (u : Nat × Nat × List AObj) => ⟨[(1, .vptr 0 0), (2, .vptr 1 0), (3, .i 0), (5, LLI Q), (6, LP cl), (8, .vptr 2 0), (9, .i n), (10, .sl u.2.1 3 0 (grpTo' a cl Q n l u.1).length), (11, .i u.1)], u.2.2⟩)
   (fun u => u.1 ≤ cl.length ∧ SL Z u.2.2 u.2.1 78 3 ((grpTo' a cl Q n l u.1).map encMv)) (fun u => cl.length - u.1) ?_ (0, Z.length, _) ⟨Nat.zero_le _, by rw [grpTo_zero]; exact hst⟩
  rintro ⟨k, w, Y⟩ ⟨hk, hs⟩ ih2
  simp only at hk hs ih2 ⊢
  have y0 := hs.kp z0
  have hgwf := grpTo_wf (a := a) (T := a.types.toNat) (Q := Q) (n := n) (l := l) (cl := cl) (fun c hc => (hcf c hc).2.2.2.1) k
  have hgsz := grpTo_sz (a := a) (Q := Q) (n := n) (l := l) (cl := cl) (fun c hc => (hcf c hc).2.2.2.2) hcln k
  have hgln := grpTo_len a cl Q n l hcln k
  repeat first|((first|refine qa tOk rfl ?_|refine qb tOk rfl ?_|refine qh rfl ?_);simp)|refine qf ?_|refine qg ?_
  refine AWP_cond2 rfl (fun hlt2 => ?_) (fun hge2 => ?_)
  ·have hlt2' : k < cl.length := by simpa using hlt2
   have hw2 : IntKind.i64.wrap ((k : Int) + 1) = k + 1 := wrap_i64 _ (by omega) (by omega)
   have hnx := grpTo_snoc' a cl Q n l (List.getElem?_eq_getElem hlt2')
   have hcc := hcf _ (List.getElem_mem hlt2')
   have ih2' := fun q' G' => ih2 (k + 1, q', G')
   simp only [hnx] at ih2'
   clear hnx
   have hcg : (List.map encP cl)[k]? = some (encP cl[k]) := by simp [hlt2']
   have hch : ∀ hh, (List.map encP cl)[k]'hh = encP cl[k] := fun hh => by simp
   generalize cl[k] = c at *
   have hsn := fun h => stepG_none (a := a) (Q := Q) (n := n) (l := l) (g := grpTo' a cl Q n l k) (c := c) h
   have hss := fun t h => stepG_some (a := a) (Q := Q) (n := n) (t := t) (l := l) (g := grpTo' a cl Q n l k) (c := c) h
   generalize grpTo' a cl Q n l k = g at *
   generalize stepG a Q n l g c = g2 at *
   simp only [encP] at hcg hch
   repeat first|((first|refine qa tOk rfl ?_|refine qb tOk rfl ?_|refine qh rfl ?_);simp)|refine qf ?_|refine qg ?_
   refine AWP_drawT tOk mixed [] (.val 0 (.val 1 (.val 2 (.val 3 (.val 4 (.val 5 (.val 6 (.val 8 (.val 9 (.val 10 (.val 11 (.one 7 (.one 12 (.one 13 (.one 14 (.one 15 (.val 16 (.done)))))))))))))))))) rfl (by kernel_rfl) ?_
   simp [y0, hlt', hLg, hLh, hlt2', hcg, hch]
   refine AStep_PC rfl rfl (by simp) (pc_rset a hok l hls (by omega)) rfl ?_
   rintro _ rfl
   simp
   refine AStep_PC rfl rfl (by simp) (pc_rpLeast c hcc.2.1) rfl ?_
   rintro _ rfl
   simp
   refine AStep_PC rfl rfl (by simp) (pc_rNext28 a hok (fun z => decide (z ∈ l)) (leastS c)) rfl ?_
   rintro _ rfl
   simp
   refine AStep_PC rfl rfl (by simp) (pc_rlist a.fin.length (nxB a.mv (fun z => decide (z ∈ l)) (leastS c)) (by omega)) rfl ?_
   rintro _ rfl
   simp
   rw [filt_next]
   refine AStep_PC rfl rfl (by simp) (pc_rfind Q (nextL a l (leastS c))) rfl ?_
   rintro _ rfl
   simp
   rw [find_idx]
   generalize nextL a l (leastS c) = x at *
   have hgg : (List.map encMv g).length = g.length := by simp
   have htk : List.take g.length (List.map encMv g) = List.map encMv g := List.take_of_length_le (by simp)
   cases hix : idxQ Q x with
   | none =>
    have h2 := hsn hix
    rw [h2] at ih2'
    simp
    repeat first|((first|refine qa tOk rfl ?_|refine qb tOk rfl ?_|refine qh rfl ?_);simp)|refine qf ?_|refine qg ?_
    refine AWP_cond rfl ?_
    simp
    repeat first|((first|refine qa tOk rfl ?_|refine qb tOk rfl ?_|refine qh rfl ?_);simp [hw2])|refine qf ?_|refine qg ?_
    refine ALoop_keep (sl' := [(1, .vptr 0 0), (2, .vptr 1 0), (3, .i 0), (5, LLI Q), (6, LP cl), (8, .vptr 2 0), (9, .i n), (10, .sl w 3 0 g.length), (11, .i (k + 1 : Nat))]) ?_ (by simp)
    exact ih2' w Y ⟨by omega, hs⟩ (by omega)
   | some t =>
    have h2 := hss t hix
    rw [h2] at ih2'
    have ht0 : ¬ (t : Int) < 0 := by omega
    simp
    repeat first|((first|refine qa tOk rfl ?_|refine qb tOk rfl ?_|refine qh rfl ?_);simp [ht0])|refine qf ?_|refine qg ?_
    refine AWP_cond2 rfl (fun h => by simp at h) (fun _ => ?_)
    repeat first|((first|refine qa tOk rfl ?_|refine qb tOk rfl ?_|refine qh rfl ?_);simp)|refine qf ?_|refine qg ?_
    refine AStep_PCflat rfl rfl (by first | (simp [hs.arr, htk, hgg]; done) | (simp [hs.arr, htk, hgg]; rfl)) (pc_rleading g t) rfl ?_
    rintro _ rfl
    refine ⟨by first | simp | rfl | trivial, ?_⟩
    simp [hs.arr, htk, hgg]
    rw [lead_idx]
    repeat first|((first|refine qa tOk rfl ?_|refine qb tOk rfl ?_|refine qh rfl ?_);simp)|refine qf ?_|refine qg ?_
    cases hfi : g.findIdx? fun m : Mv => decide (m.dst = (t : Int)) with
    | none =>
     have hadv : addMv n g t c = g ++ [⟨n, t, c⟩] := by rw [addMv, hfi]
     rw [hadv] at ih2'
     simp
     repeat first|((first|refine qa tOk rfl ?_|refine qb tOk rfl ?_|refine qh rfl ?_);simp)|refine qf ?_|refine qg ?_
     refine AWP_cond rfl ?_
     simp
     repeat first|((first|refine qa tOk rfl ?_|refine qb tOk rfl ?_|refine qh rfl ?_);simp [hlt2', hcg, hch])|refine qf ?_|refine qg ?_
     generalize hmm : g.map encMv = mm at *
     refine AStep_appendS tOk rfl rfl T23 rfl T78 rfl (by decide) (by decide) rfl rfl rfl ?_
     simp [get_app hs.arr, set_app hs.arr, hgg]
     refine ⟨by simp [appOk, get_app hs.arr, set_app hs.arr, hgg] <;> omega, ?_⟩
     repeat first|((first|refine qa tOk rfl ?_|refine qb tOk rfl ?_|refine qh rfl ?_);simp [hw2])|refine qf ?_|refine qg ?_
     refine ALoop_keep (sl' := [(1, .vptr 0 0), (2, .vptr 1 0), (3, .i 0), (5, LLI Q), (6, LP cl), (8, .vptr 2 0), (9, .i n), (10, .sl (Y.length + 1) 3 0 (g ++ [(⟨n, t, c⟩ : Mv)]).length), (11, .i (k + 1 : Nat))]) ?_ (by simp)
     refine ih2' (Y.length + 1) _ ⟨by omega, ?_⟩ (by omega)
     have hs4 := hs.put [AObj.arr 78 3 [encMv ⟨n, t, c⟩]] (mm ++ [encMv ⟨n, t, c⟩]) rfl
     have e : (g ++ [(⟨n, t, c⟩ : Mv)]).map encMv = mm ++ [encMv ⟨n, t, c⟩] := by rw [← hmm]; simp
     rw [e]; simpa using hs4
    | some i =>
     obtain ⟨hil, hid, -⟩ := List.findIdx?_eq_some_iff_getElem.1 hfi
     have hgi : g[i]? = some g[i] := List.getElem?_eq_getElem hil
     have hadv : addMv n g t c = g.set i { g[i] with on := eitherP g[i].on c } := by rw [addMv, hfi]; simp [hgi]
     rw [hadv] at ih2'
     simp
     refine AWP_cond2 rfl (fun h => by simp at h; omega) (fun _ => ?_)
     repeat first|((first|refine qa tOk rfl ?_|refine qb tOk rfl ?_|refine qh rfl ?_);simp)|refine qf ?_|refine qg ?_
     have hge : (g.map encMv)[i]? = some (.agg [.i g[i].src, .i g[i].dst, .list (g[i].on.map encL)]) := by simp [hil]
     have hgh : ∀ hh, (g.map encMv)[i]'hh = .agg [.i g[i].src, .i g[i].dst, .list (g[i].on.map encL)] := fun hh => by rw [List.getElem?_eq_getElem hh] at hge; exact Option.some.inj hge
     have hgm := List.getElem_mem hil
     have hEi := pc_rpEither a.types.toNat g[i].on c (hgwf _ hgm) hcc.2.2.2.1 (fun s hs t ht => by have := hgsz _ hgm s hs; have := hcc.2.2.2.2 t ht; omega) (by have := hok.types; omega)
     generalize hmm : g.map encMv = mm at *
     refine AWP_drawT tOk mixed [14] (.val 0 (.val 1 (.val 2 (.val 3 (.val 4 (.val 5 (.val 6 (.val 7 (.val 8 (.val 9 (.val 10 (.one 11 (.val 12 (.val 13 (.one 14 (.done)))))))))))))))) rfl (by kernel_rfl) ?_
     simp [hs.arr, hge, hgh, hgg, hil, hlt2', hcg, hch]
     refine AStep_PC rfl rfl (by simp) (hEi) rfl ?_
     rintro _ rfl
     simp [hs.arr, hge, hgh, hgg, hil]
     repeat first|((first|refine qa tOk rfl ?_|refine qb tOk rfl ?_|refine qh rfl ?_);simp [hw2])|refine qf ?_|refine qg ?_
     refine ALoop_keep (sl' := [(1, .vptr 0 0), (2, .vptr 1 0), (3, .i 0), (5, LLI Q), (6, LP cl), (8, .vptr 2 0), (9, .i n), (10, .sl w 3 0 (g.set i { g[i] with on := eitherP g[i].on c }).length), (11, .i (k + 1 : Nat))]) ?_ (by simp)
     refine ih2' w _ ⟨by omega, ?_⟩ (by omega)
     have hs4 := hs.upd [] (mm.set i (.agg [.i g[i].src, .i g[i].dst, .list ((eitherP g[i].on c).map encL)]))
     have e : (g.set i { g[i] with on := eitherP g[i].on c }).map encMv = mm.set i (.agg [.i g[i].src, .i g[i].dst, .list ((eitherP g[i].on c).map encL)]) := by rw [← hmm, List.map_set]; rfl
     rw [e]; simpa using hs4
  ·have hge2' : k = cl.length := by simp at hge2; omega
   have hgr : grpTo' a cl Q n l k = grpMv a cl Q n l := by rw [hge2', grpTo_all]
   rw [hgr] at hs hgln ⊢
   generalize hgM : grpMv a cl Q n l = g at *
   have y1 := hs.kp z1
   have yc := hs.kp zc
   have yf := hs.kp zf
   have yv := hs.kp zv
   have hwc : w ≠ 2 := fun e => by have := hs.arr; rw [e, yc] at this; simp at this
   have hwv : w ≠ v := fun e => by have := hs.ge; have := get_lt zv; omega
   have hgg : (List.map encMv g).length = g.length := by simp
   have hmm2 : (List.map encMv (mvTo a cl Q n)).length = (mvTo a cl Q n).length := by simp
   have hta : List.take g.length (List.map encMv g) = List.map encMv g := List.take_of_length_le (by simp)
   have hok2 : ∀ y ∈ List.map encMv g, y.cells.length = 3 ∧ y.cells.all AV.leaf = true := fun y hy => by
    obtain ⟨m, _, rfl⟩ := List.mem_map.1 hy
    exact ⟨rfl, rfl⟩
   have hfin2 : (mvTo a cl Q n ++ g).map encMv = (mvTo a cl Q n).map encMv ++ g.map encMv := by simp
   have y2c : ∀ M, (Y.set v .dead ++ M)[2]? = some (.vars [.i a.types, .sl f1 1 0 (n + 1), .sl v 3 0 (mvTo a cl Q n).length]) := fun M => get_app (get_set hv2 yc _) M
   have y2d : ∀ M hh, (Y.set v .dead ++ M)[2]'hh = .vars [.i a.types, .sl f1 1 0 (n + 1), .sl v 3 0 (mvTo a cl Q n).length] := fun M hh => by have := y2c M; rw [List.getElem?_eq_getElem hh] at this; exact Option.some.inj this
   have hwa := hs.arr
   have hlen2 : (mvTo a cl Q n ++ g).length = (mvTo a cl Q n).length + g.length := by simp
   repeat first|((first|refine qa tOk rfl ?_|refine qb tOk rfl ?_|refine qh rfl ?_);simp [yc])|refine qf ?_|refine qg ?_
   generalize (mvTo a cl Q n).length = ml at *
   generalize (mvTo a cl Q n).map encMv = mm at *
   generalize g.map encMv = gm at *
   refine AStep_appendS tOk rfl rfl T23 rfl T78 rfl (by decide) (by decide) rfl rfl rfl ?_
   simp [yv, hwa, hmm2, hgg, hta, y2c, y2d]
   refine ⟨⟨hok2, by simp; omega⟩, ?_⟩
   repeat first|((first|refine qa tOk rfl ?_|refine qb tOk rfl ?_|refine qh rfl ?_);simp [hw])|refine qf ?_|refine qg ?_
   refine ALoop_keep (sl' := [(1, .vptr 0 0), (2, .vptr 1 0), (3, .i 0), (5, LLI Q), (6, LP cl), (8, .vptr 2 0), (9, .i (n + 1 : Nat))]) ?_ (by simp)
   have hvY := get_lt yv
   have h2Y := get_lt yc
   refine ih' f1 Y.length _ ⟨by omega, get_set (by decide) (get_app (get_set hv0 (hs.kp z0) _) _) _, get_set (by decide) (get_app (get_set hv1 y1 _) _) _, ?_, ?_, ?_⟩ (by omega)
   ·rw [get_self (y2c _) _, hlen2]
   ·exact get_set (Ne.symm zn2) (get_app (get_set (Ne.symm zn1) yf _) _) _
   ·rw [hfin2, List.getElem?_set_ne (by omega), List.getElem?_append_right (by simp)]; simp
 ·have hge' : n = Q.length := by simp at hge; omega
  subst hge'
  have hmvl : mvTo a cl Q Q.length = (detA a cl Q).mv := mvTo_all a cl Q
  have hfnl : (Q.take Q.length).map (finB a) = (detA a cl Q).fin := by rw [List.take_length]; exact (detA_fin a cl Q).symm
  have hdl : (detA a cl Q).fin.length = Q.length := by rw [detA_fin]; simp
  rw [hmvl] at gc gv
  rw [hfnl] at gf
  rw [← hdl] at gc
  have hdt : (detA a cl Q).types = a.types := detA_types a cl Q
  generalize detA a cl Q = d at *
  have hcv : v ≠ 2 := fun e => by rw [e, gc] at gv; simp at gv
  have hfv : f ≠ v := fun e => by rw [e, gv] at gf; simp at gf
  have hfc : f ≠ 2 := fun e => by rw [e, gc] at gf; simp at gf
  have hf1 : f ≠ 1 := fun e => by rw [e, g1] at gf; simp at gf
  have hv1 : v ≠ 1 := fun e => by rw [e, g1] at gv; simp at gv
  refine AWP_keep (sl' := [(2, .vptr 1 0), (3, .i 0), (8, .vptr 2 0)]) ?_ (by simp)
  refine AWP_freezeC v gv 2 gc ?_
  simp [hfv]
  rw [List.take_of_length_le (by simp)]
  refine AWP_abs fun Z hZ => ?_
  have hvL := get_lt gv
  have z2 : Z[2]? = some (.vars [.i a.types, .sl f 1 0 d.fin.length, .list (d.mv.map encMv)]) := by rw [hZ, List.getElem?_set_self (by have := get_lt gc; simpa using this)]
  have zf : Z[f]? = some (.arr 4 1 (d.fin.map .bool)) := by rw [hZ, List.getElem?_set_ne (Ne.symm hfc), List.getElem?_set_ne (Ne.symm hfv)]; exact gf
  have z1 : Z[1]? = some (.vars [.i 0, .nils, .nils]) := by rw [hZ, List.getElem?_set_ne (by decide), List.getElem?_set_ne hv1]; exact g1
  clear hZ
  refine AWP_freezeC f zf 2 z2 ?_
  simp
  rw [List.take_of_length_le (by simp)]
  refine AWP_abs fun X hX => ?_
  have x2 : X[2]? = some (.vars [.i d.types, .list (d.fin.map .bool), .list (d.mv.map encMv)]) := by
   rw [hX, hdt, List.getElem?_set_self (by have := get_lt z2; simpa using this)]
  have x1 : X[1]? = some (.vars [.i 0, .nils, .nils]) := by rw [hX, List.getElem?_set_ne (by decide), List.getElem?_set_ne hf1]; exact z1
  clear hX
  have x1s : ∀ Y, (X.set 1 Y)[1]? = some Y := fun Y => get_self x1 Y
  repeat first|((first|refine qa tOk rfl ?_|refine qb tOk rfl ?_|refine qh rfl ?_);simp [x2])|refine qf ?_|refine qg ?_
  refine AStep_PC rfl rfl (by simp) (pc_rlimited d) rfl ?_
  rintro _ rfl
  simp [x1]
  rw [hR]
  repeat first|((first|refine qa tOk rfl ?_|refine qb tOk rfl ?_|refine qh rfl ?_);simp [x1s])|refine qf ?_|refine qg ?_
end Go.Abs
set_option maxRecDepth 100000
namespace Go.Abs
open Go Go.Proofs Go.Maps Go.RowKit
set_option linter.unusedSimpArgs false
attribute [local irreducible] detF comF cplP
set_option maxHeartbeats 4000000 in
theorem pc_rComplement (a : Aut) : PC Tryz.prog 21 [encA a] (fun r => r = .tup [encA (cmpF a).2, .i (cmpF a).1]) := by
 refine PC_body tOk Tryz.func21 rfl Tryz.results21 rfl (by simp [Tryz.ntmps21]) ?_
 rw [Tryz.ntmps21]
 simp only [argSlots]
 simp only [encA]
 obtain ⟨R, hR⟩ : ∃ R, cmpF a = R := ⟨_, rfl⟩
 rw [hR]
 unfold cmpF at hR
 repeat first|((first|refine qa tOk rfl ?_|refine qb tOk rfl ?_|refine qh rfl ?_);simp)|refine qf ?_|refine qg ?_
 refine AStep_PC rfl rfl (by simp) (pc_rDeterminize a) rfl ?_
 rintro _ rfl
 simp
 repeat first|((first|refine qa tOk rfl ?_|refine qb tOk rfl ?_|refine qh rfl ?_);simp)|refine qf ?_|refine qg ?_
 refine AWP_cond2 rfl (fun h => ?_) (fun h => ?_)
 ·rw [if_pos (by simpa using h)] at hR
  rw [← hR]
  repeat first|((first|refine qa tOk rfl ?_|refine qb tOk rfl ?_|refine qh rfl ?_);simp)|refine qf ?_|refine qg ?_
  exact ⟨rfl, rfl, rfl⟩
 have h0 : (detF a).1 = 0 := by simpa using h
 rw [if_neg (fun k => k h0)] at hR
 have hdok := det_ok h0
 have hcm : comF (detF a).2 = cplP (detF a).2 := by unfold comF; rw [if_neg (fun k => k ((ck_ok _).2 hdok))]
 generalize (detF a).2 = d at *
 repeat first|((first|refine qa tOk rfl ?_|refine qb tOk rfl ?_|refine qh rfl ?_);simp)|refine qf ?_|refine qg ?_
 refine AStep_PC rfl rfl (by simp) (pc_rComplete d) rfl ?_
 rintro _ rfl
 simp [hcm]
 repeat first|((first|refine qa tOk rfl ?_|refine qb tOk rfl ?_|refine qh rfl ?_);simp)|refine qf ?_|refine qg ?_
 refine AWP_cond2 rfl (fun h => ?_) (fun h => ?_)
 ·rw [if_pos (by simpa using h)] at hR
  rw [← hR]
  repeat first|((first|refine qa tOk rfl ?_|refine qb tOk rfl ?_|refine qh rfl ?_);simp)|refine qf ?_|refine qg ?_
  exact ⟨rfl, rfl, rfl⟩
 have h1 : (cplP d).1 = 0 := by simpa using h
 rw [if_neg (fun k => k h1)] at hR
 have hfl : (cplP d).2.fin.length ≤ 256 := (cpl_spec hdok (Prod.ext h1 rfl)).1.fin.2
 generalize (cplP d).2 = c at *
 repeat first|((first|refine qa tOk rfl ?_|refine qb tOk rfl ?_|refine qh rfl ?_);simp)|refine qf ?_|refine qg ?_
 refine AWP_keep (sl' := [(2, .vptr 1 0), (3, .i 0), (6, .vptr 3 0), (7, .vptr 4 0), (8, .i (0 : Nat))]) ?_ (by simp)
 obtain ⟨K, hK⟩ : ∃ K, K = [AObj.vars (cellsA a), AObj.vars [.i 0, .nils, .nils], AObj.vars (cellsA d), AObj.vars (cellsA c), AObj.vars [.i c.types, .nils, .list (c.mv.map encMv)]] := ⟨_, rfl⟩
 have hK1 : K[1]? = some (.vars [.i 0, .nils, .nils]) := by rw [hK]; rfl
 have hK3 : K[3]? = some (.vars (cellsA c)) := by rw [hK]; rfl
 have hKl : K.length = 5 := by rw [hK]; rfl
 refine AWP_nilCell 4 1 4 1 rfl rfl ?_
 have hst := GL.start (K := K) (S := 4) [.i c.types] [.list (c.mv.map encMv)] 4 1 (by omega)
 refine AWP_loop (ALoop_keep (sl' := [(2, .vptr 1 0), (3, .i 0), (6, .vptr 3 0), (7, .vptr 4 0), (8, .i (0 : Nat))]) ?_ (by simp))
 refine ALoop_wf (F := fun (u : Nat × Nat × List AObj) => ⟨[(2, .vptr 1 0), (3, .i 0), (6, .vptr 3 0), (7, .vptr 4 0), (8, .i u.1)], u.2.2⟩)
  (fun u => u.1 ≤ c.fin.length ∧ GL K u.2.2 4 u.2.1 [.i c.types] [.list (c.mv.map encMv)] 4 1 (((c.fin.take u.1).map (!·)).map AV.bool)) (fun u => c.fin.length - u.1) ?_ (0, 5, _) ⟨Nat.zero_le _, by rw [hK] at hst ⊢; exact hst⟩
 rintro ⟨j, q, G⟩ ⟨hj, g⟩ ih
 simp only at hj g ih ⊢
 have g3 := g.kp (by decide) hK3
 have g1 := g.kp (by decide) hK1
 have gc := g.cell
 have ga := g.arr
 repeat first|((first|refine qa tOk rfl ?_|refine qb tOk rfl ?_|refine qh rfl ?_);simp [g3])|refine qf ?_|refine qg ?_
 refine AWP_cond2 rfl (fun hlt => ?_) (fun hge => ?_)
 ·have hlt' : j < c.fin.length := by simpa using hlt
  have hw : IntKind.i64.wrap ((j : Int) + 1) = j + 1 := wrap_i64 _ (by omega) (by omega)
  have hnx : ((c.fin.take (j + 1)).map (!·)).map AV.bool = ((c.fin.take j).map (!·)).map AV.bool ++ [.bool !c.fin[j]] := by rw [List.take_succ_eq_append_getElem hlt', List.map_append, List.map_append]; rfl
  have ih' := fun q' G' => ih (j + 1, q', G')
  simp only [hnx] at ih'
  have hal : (((c.fin.take j).map (!·)).map AV.bool).length = j := by simp; omega
  have hcp : ∀ M, (G.set q .dead ++ M)[4]? = some (.vars [.i c.types, .sl q 1 0 j, .list (c.mv.map encMv)]) := fun M => by have := g.at M; rw [hal] at this; exact this
  have hcq : ∀ M hh, (G.set q .dead ++ M)[4]'hh = .vars [.i c.types, .sl q 1 0 j, .list (c.mv.map encMv)] := fun M hh => by have := hcp M; rw [List.getElem?_eq_getElem hh] at this; exact Option.some.inj this
  rw [hal] at gc
  have hput := fun A y => g.put A y hal.symm
  generalize ((c.fin.take j).map (!·)).map AV.bool = acc at *
  simp only [List.cons_append, List.nil_append] at gc
  repeat first|((first|refine qa tOk rfl ?_|refine qb tOk rfl ?_|refine qh rfl ?_);simp)|refine qf ?_|refine qg ?_
  refine AWP_drawT tOk mixed [9, 11] (.val 0 (.val 1 (.val 2 (.val 3 (.val 4 (.val 5 (.val 6 (.val 7 (.one 8 (.one 9 (.val 10 (.one 11 (.done))))))))))))) rfl (by kernel_rfl) ?_
  simp [gc, g3, hlt']
  refine AStep_appendS tOk rfl rfl T22 rfl T4 rfl (by decide) (by decide) rfl rfl rfl ?_
  simp [get_app ga, set_app ga, hal, hcp, hcq]
  refine ⟨by simp [appOk, get_app ga, set_app ga, hal, hcp, hcq] <;> omega, ?_⟩
  repeat first|((first|refine qa tOk rfl ?_|refine qb tOk rfl ?_|refine qh rfl ?_);simp [hw])|refine qf ?_|refine qg ?_
  refine ALoop_keep (sl' := [(2, .vptr 1 0), (3, .i 0), (6, .vptr 3 0), (7, .vptr 4 0), (8, .i (j + 1 : Nat))]) (ih' (G.length + 1) _ ⟨by omega, by simpa using hput _ _⟩ (by omega)) ?_
  simp
 ·have hge' : j = c.fin.length := by simp at hge; omega
  subst hge'
  rw [List.take_length] at gc ga
  have hal : ((c.fin.map (!·)).map AV.bool).length = c.fin.length := by simp
  rw [hal] at gc
  simp only [List.cons_append, List.nil_append] at gc
  have hq1 : q ≠ 1 := by have := g.ge; omega
  have h4l := get_lt gc
  refine AWP_freezeC q ga 4 gc ?_
  simp
  rw [List.take_of_length_le (by simp)]
  refine AWP_abs fun X hX => ?_
  have x4 : X[4]? = some (.vars [.i c.types, .list ((c.fin.map (!·)).map AV.bool), .list (c.mv.map encMv)]) := by rw [hX, List.getElem?_set_self (by simpa using h4l)]; simp
  have x1 : X[1]? = some (.vars [.i 0, .nils, .nils]) := by rw [hX, List.getElem?_set_ne (by decide), List.getElem?_set_ne hq1]; exact g1
  clear hX
  have x1s : ∀ Y, (X.set 1 Y)[1]? = some Y := fun Y => get_self x1 Y
  rw [← hR]
  repeat first|((first|refine qa tOk rfl ?_|refine qb tOk rfl ?_|refine qh rfl ?_);simp [x4, x1, x1s])|refine qf ?_|refine qg ?_
  exact ⟨rfl, by simp [flipA], rfl⟩
end Go.Abs
set_option maxRecDepth 100000
namespace Go.Abs
open Go Go.Proofs Go.Maps Go.RowKit
set_option linter.unusedSimpArgs false
attribute [local irreducible] fewA subF
set_option maxHeartbeats 4000000 in
theorem law_Subsets (a : Aut) : PC Tryz.prog 3 [encA a] (fun r => r = .bool true) := by
 refine PC_body tOk Tryz.func3 rfl Tryz.results3 rfl (by simp [Tryz.ntmps3]) ?_
 rw [Tryz.ntmps3]
 simp only [argSlots]
 simp only [encA]
 repeat first|((first|refine qa tOk rfl ?_|refine qb tOk rfl ?_|refine qh rfl ?_);simp)|refine qf ?_|refine qg ?_
 refine AStep_PC rfl rfl (by simp) (pc_rFew a) rfl ?_
 rintro _ rfl
 simp
 repeat first|((first|refine qa tOk rfl ?_|refine qb tOk rfl ?_|refine qh rfl ?_);simp)|refine qf ?_|refine qg ?_
 refine AWP_cond2 rfl (fun _ => ?_) (fun _ => ?_)
 ·repeat first|((first|refine qa tOk rfl ?_|refine qb tOk rfl ?_|refine qh rfl ?_);simp)|refine qf ?_|refine qg ?_
  refine AStep_PC rfl rfl (by simp) (pc_lawake) rfl ?_
  rintro _ rfl
  simp
  repeat first|((first|refine qa tOk rfl ?_|refine qb tOk rfl ?_|refine qh rfl ?_);simp)|refine qf ?_|refine qg ?_
 repeat first|((first|refine qa tOk rfl ?_|refine qb tOk rfl ?_|refine qh rfl ?_);simp)|refine qf ?_|refine qg ?_
 refine AStep_PC rfl rfl (by simp) (pc_Subsets a) rfl ?_
 rintro _ rfl
 simp
 repeat first|((first|refine qa tOk rfl ?_|refine qb tOk rfl ?_|refine qh rfl ?_);simp)|refine qf ?_|refine qg ?_
 refine AStep_PC rfl rfl (by simp) (pc_rSubsets a) rfl ?_
 rintro _ rfl
 simp
 repeat first|((first|refine qa tOk rfl ?_|refine qb tOk rfl ?_|refine qh rfl ?_);simp)|refine qf ?_|refine qg ?_
 refine AStep_PC rfl rfl (by simp) (pc_lawake) rfl ?_
 rintro _ rfl
 simp
 repeat first|((first|refine qa tOk rfl ?_|refine qb tOk rfl ?_|refine qh rfl ?_);simp)|refine qf ?_|refine qg ?_
 refine AStep_PC rfl rfl (by simp) (pc_rsameSets (subF a).2.2 (subF a).2.2) rfl ?_
 rintro _ rfl
 simp
 repeat first|((first|refine qa tOk rfl ?_|refine qb tOk rfl ?_|refine qh rfl ?_);simp)|refine qf ?_|refine qg ?_
end Go.Abs
set_option maxRecDepth 100000
namespace Go.Abs
open Go Go.Proofs Go.Maps Go.RowKit
set_option linter.unusedSimpArgs false
attribute [local irreducible] fewA detF cmpF
set_option maxHeartbeats 4000000 in
theorem law_Builds (a : Aut) : PC Tryz.prog 4 [encA a] (fun r => r = .bool true) := by
 refine PC_body tOk Tryz.func4 rfl Tryz.results4 rfl (by simp [Tryz.ntmps4]) ?_
 rw [Tryz.ntmps4]
 simp only [argSlots]
 simp only [encA]
 repeat first|((first|refine qa tOk rfl ?_|refine qb tOk rfl ?_|refine qh rfl ?_);simp)|refine qf ?_|refine qg ?_
 refine AStep_PC rfl rfl (by simp) (pc_rFew a) rfl ?_
 rintro _ rfl
 simp
 repeat first|((first|refine qa tOk rfl ?_|refine qb tOk rfl ?_|refine qh rfl ?_);simp)|refine qf ?_|refine qg ?_
 refine AWP_cond2 rfl (fun _ => ?_) (fun _ => ?_)
 ·repeat first|((first|refine qa tOk rfl ?_|refine qb tOk rfl ?_|refine qh rfl ?_);simp)|refine qf ?_|refine qg ?_
  refine AStep_PC rfl rfl (by simp) (pc_lawake) rfl ?_
  rintro _ rfl
  simp
  repeat first|((first|refine qa tOk rfl ?_|refine qb tOk rfl ?_|refine qh rfl ?_);simp)|refine qf ?_|refine qg ?_
 repeat first|((first|refine qa tOk rfl ?_|refine qb tOk rfl ?_|refine qh rfl ?_);simp)|refine qf ?_|refine qg ?_
 refine AStep_PC rfl rfl (by simp) (pc_Determinize a) rfl ?_
 rintro _ rfl
 simp
 repeat first|((first|refine qa tOk rfl ?_|refine qb tOk rfl ?_|refine qh rfl ?_);simp)|refine qf ?_|refine qg ?_
 refine AStep_PC rfl rfl (by simp) (pc_rDeterminize a) rfl ?_
 rintro _ rfl
 simp
 repeat first|((first|refine qa tOk rfl ?_|refine qb tOk rfl ?_|refine qh rfl ?_);simp)|refine qf ?_|refine qg ?_
 refine AStep_PC rfl rfl (by simp) (pc_Complement a) rfl ?_
 rintro _ rfl
 simp
 repeat first|((first|refine qa tOk rfl ?_|refine qb tOk rfl ?_|refine qh rfl ?_);simp)|refine qf ?_|refine qg ?_
 refine AStep_PC rfl rfl (by simp) (pc_rComplement a) rfl ?_
 rintro _ rfl
 simp
 repeat first|((first|refine qa tOk rfl ?_|refine qb tOk rfl ?_|refine qh rfl ?_);simp)|refine qf ?_|refine qg ?_
 refine AStep_PC rfl rfl (by simp) (pc_lawake) rfl ?_
 rintro _ rfl
 simp
 repeat first|((first|refine qa tOk rfl ?_|refine qb tOk rfl ?_|refine qh rfl ?_);simp)|refine qf ?_|refine qg ?_
 refine AStep_PC rfl rfl (by simp) (pc_rSame (detF a).2) rfl ?_
 rintro _ rfl
 simp
 repeat first|((first|refine qa tOk rfl ?_|refine qb tOk rfl ?_|refine qh rfl ?_);simp)|refine qf ?_|refine qg ?_
 refine AStep_PC rfl rfl (by simp) (pc_rSame (cmpF a).2) rfl ?_
 rintro _ rfl
 simp
 repeat first|((first|refine qa tOk rfl ?_|refine qb tOk rfl ?_|refine qh rfl ?_);simp)|refine qf ?_|refine qg ?_
end Go.Abs
