/- Part Kg of the proof: an abstract machine over the model, and what the functions of the program hand back in its terms. No condition. -/
import Derived.Test.YtdjmpaedikpdgaaGreatDoorKf
import Derived.Test.YtdjmpaedikpdgaaGreatDoorKb
import Derived.Test.YtdjmpaedikpdgaaGreatDoorKc
import Derived.Lay
import Derived.LaidSub
import Derived.Deep.DeepWitnessRowRef
import Derived.Test.YtdjmpaedikpdgaaGreatDoorCards
import Derived.Test.YtdjmpaedikpdgaaGreatDoorTie
import Derived.Lib.LaidTab
import Derived.Test.YtdjmpaedikpdgaaGreatDoorKd
import Derived.Shelf.Vars
set_option linter.all false
set_option maxRecDepth 100000
namespace Go.Abs
open Go Go.Proofs Go.Maps Go.RowKit
set_option linter.unusedSimpArgs false
/-- Objects that stand. -/
def Fx (fx : List (Nat × AObj)) (H : List AObj) : Prop := ∀ p ∈ fx, H[p.1]? = some p.2
theorem Fx.app {fx : List (Nat × AObj)} {H : List AObj} (h : Fx fx H) (L : List AObj) : Fx fx (H ++ L) := fun p hp => get_app (h p hp) L
theorem Fx.set {fx : List (Nat × AObj)} {H : List AObj} (h : Fx fx H) {x : Nat} {o : AObj} (hx : H[x]? = some o) (hn : ∀ p ∈ fx, p.2 ≠ o) (y : AObj) : Fx fx (H.set x y) := fun p hp => by
  have hne : x ≠ p.1 := fun e => by
    have := h p hp
    rw [← e, hx] at this
    exact hn p hp (Option.some.inj this).symm
  rw [List.getElem?_set_ne hne]; exact h p hp
theorem Fx.find {fx : List (Nat × AObj)} {H H' : List AObj} (h : Fx fx H) {r p m : Nat} {o1 o2 o3 : AObj} (h1 : H[r]? = some o1) (h2 : H[p]? = some o2) (h3 : H[m]? = some o3) (n1 : ∀ p ∈ fx, p.2 ≠ o1) (n2 : ∀ p ∈ fx, p.2 ≠ o2) (n3 : ∀ p ∈ fx, p.2 ≠ o3)
    (hk : ∀ i, i < H.length → i ≠ r → i ≠ p → i ≠ m → H'[i]? = H[i]?) : Fx fx H' := fun x hx => by
  have hh := h x hx
  refine (hk _ (get_lt hh) (fun e => ?_) (fun e => ?_) (fun e => ?_)).trans hh
  · rw [e, h1] at hh; exact n1 x hx (Option.some.inj hh).symm
  · rw [e, h2] at hh; exact n2 x hx (Option.some.inj hh).symm
  · rw [e, h3] at hh; exact n3 x hx (Option.some.inj hh).symm
def idxM (g : List Mv) (to : Nat) : Int := match g.findIdx? fun m : Mv => decide (m.dst = (to : Int)) with
  | some i => i
  | none => -1
theorem fc_dstB (H : List AObj) (id to : Nat) (hid : H[id]? = some (.vars [.i to])) (m : Mv) : FC Tryz.prog 41 [encMv m, .vptr id 0] H (fun r H' => r = .bool (decide (m.dst = (to : Int))) ∧ H' = H ++ [.vars [.i m.src, .i m.dst, .list (m.on.map encL)]]) := by
  refine FC_body tOk Tryz.func41 rfl Tryz.results41 rfl (by simp [Tryz.ntmps41]) ?_
  rw [Tryz.ntmps41]
  simp only [argSlots]
  simp only [encMv]
  repeat first|((first|refine qa tOk rfl ?_|refine qb tOk rfl ?_|refine qc ?_|refine qd ?_|refine qe ?_);simp [get_app hid])|refine AWP_block ?_|refine AWP_seq ?_
  rfl
theorem idxM_hit {g : List Mv} {to j : Nat} (h : j < g.length) (h1 : g[j].dst = (to : Int)) (h2 : ∀ i, ∀ hi : i < g.length, i < j → ¬ g[i].dst = (to : Int)) : idxM g to = j := by
  have : g.findIdx? (fun m : Mv => decide (m.dst = (to : Int))) = some j := by
    rw [List.findIdx?_eq_some_iff_getElem]
    exact ⟨h, by simpa using h1, fun i hi => by simpa using h2 i (by omega) hi⟩
  rw [idxM, this]
theorem idxM_miss {g : List Mv} {to : Nat} (h2 : ∀ i, ∀ hi : i < g.length, ¬ g[i].dst = (to : Int)) : idxM g to = -1 := by
  have : g.findIdx? (fun m : Mv => decide (m.dst = (to : Int))) = none := by
    rw [List.findIdx?_eq_none_iff]
    intro m hm
    obtain ⟨i, hi, rfl⟩ := List.getElem_of_mem hm
    simpa using h2 i hi
  rw [idxM, this]
set_option maxHeartbeats 2000000 in
theorem fc_IndexM (H : List AObj) (v first to id : Nat) (pre g : List Mv) (hid : H[id]? = some (.vars [.i to])) (hv : H[v]? = some (.arr 61 3 ((pre ++ g).map encMv))) (hl : pre.length + g.length ≤ 1000000000) (hf : first = pre.length) :
    FC Tryz.prog 40 [.sl v 3 first g.length, .fn (.func 41) [] [.vptr id 0]] H (fun r H' => r = .i (idxM g to) ∧ ∃ L, H' = H ++ L) := by
  subst hf
  refine FC_body tOk Tryz.func40 rfl Tryz.results40 rfl (by simp [Tryz.ntmps40]) ?_
  rw [Tryz.ntmps40]
  simp only [argSlots]
  repeat first|((first|refine qa tOk rfl ?_|refine qb tOk rfl ?_|refine qc ?_|refine qd ?_|refine qe ?_);simp)|refine AWP_block ?_|refine AWP_seq ?_
  refine AWP_loop (ALoop_keep (sl' := [(0, .sl v 3 pre.length g.length), (1, .fn (.func 41) [] [.vptr id 0]), (7, .i g.length), (8, .i (0 : Nat))]) ?_ (by simp))
  refine ALoop_wf (F := fun (u : Nat × List AObj) => ⟨[(0, .sl v 3 pre.length g.length), (1, .fn (.func 41) [] [.vptr id 0]), (7, .i g.length), (8, .i u.1)], u.2⟩)
    (fun u => u.1 ≤ g.length ∧ (∃ L, u.2 = H ++ L) ∧ ∀ i, ∀ hi : i < g.length, i < u.1 → ¬ g[i].dst = (to : Int)) (fun u => g.length - u.1) ?_ (0, H) ⟨by simp, ⟨[], by simp⟩, by simp⟩
  rintro ⟨j, E⟩ ⟨hj, ⟨L, hL⟩, hI⟩ ih
  simp only at hj hI hL ih ⊢
  subst hL
  repeat first|((first|refine qa tOk rfl ?_|refine qb tOk rfl ?_|refine qc ?_|refine qd ?_|refine qe ?_);simp)|refine AWP_block ?_|refine AWP_seq ?_
  refine AWP_cond2 rfl (fun hlt => ?_) (fun hge => ?_)
  · have hlt' : j < g.length := by simpa using hlt
    have hw : IntKind.i64.wrap ((j : Int) + 1) = j + 1 := wrap_i64 _ (by omega) (by omega)
    have hgt : ((pre ++ g).map encMv)[pre.length + j]? = some (encMv g[j]) := by simp [hlt']
    have hv2 := get_app hv L
    have hid2 := get_app hid L
    repeat first|((first|refine qa tOk rfl ?_|refine qb tOk rfl ?_|refine qc ?_|refine qd ?_|refine qe ?_);simp [hlt', hv2, hgt])|refine AWP_block ?_|refine AWP_seq ?_
    generalize hgj : g[j] = m at *
    refine AStep_FC rfl rfl (fc_dstB (H ++ L) id to hid2 m) rfl ?_
    rintro _ _ ⟨rfl, rfl⟩
    simp
    repeat first|((first|refine qa tOk rfl ?_|refine qb tOk rfl ?_|refine qc ?_|refine qd ?_|refine qe ?_);simp)|refine AWP_block ?_|refine AWP_seq ?_
    refine AWP_cond2 rfl (fun h => ?_) (fun h => ?_)
    · repeat first|((first|refine qa tOk rfl ?_|refine qb tOk rfl ?_|refine qc ?_|refine qd ?_|refine qe ?_);simp)|refine AWP_block ?_|refine AWP_seq ?_
      exact (idxM_hit hlt' (by rw [hgj]; simpa using h) hI).symm
    · repeat first|((first|refine qa tOk rfl ?_|refine qb tOk rfl ?_|refine qc ?_|refine qd ?_|refine qe ?_);simp [hw])|refine AWP_block ?_|refine AWP_seq ?_
      refine ALoop_keep (sl' := [(0, .sl v 3 pre.length g.length), (1, .fn (.func 41) [] [.vptr id 0]), (7, .i g.length), (8, .i (j + 1 : Nat))]) ?_ (by simp)
      refine ih (j + 1, _) ⟨by omega, ⟨L ++ [.vars [.i m.src, .i m.dst, .list (m.on.map encL)]], by simp⟩, fun i hi hij => ?_⟩ (by omega)
      by_cases e : i = j
      · subst e; rw [hgj]; simpa using h
      · exact hI i hi (by omega)
  · have hge' : j = g.length := by simp at hge; omega
    subst hge'
    repeat first|((first|refine qa tOk rfl ?_|refine qb tOk rfl ?_|refine qc ?_|refine qd ?_|refine qe ?_);simp)|refine AWP_block ?_|refine AWP_seq ?_
    exact (idxM_miss fun i hi => hI i hi hi).symm
end Go.Abs
set_option maxRecDepth 100000
namespace Go.Abs
open Go Go.Proofs Go.Maps Go.RowKit
set_option linter.unusedSimpArgs false
theorem sub_facts {a : Aut} (h : (subF a).1 = 0) : OkA a ∧ ∃ cl Q, subF a = (0, cl, Q) ∧ subsR a cl = some Q ∧ Cls a cl ∧ Sub a cl Q ∧ cl.length ≤ 256 ∧ ∀ c ∈ cl, ownE [c] = 0 ∧ voidP c = false ∧ okSy a (leastS c) ∧ PWf a.types.toNat c ∧ ∀ s ∈ c, s.length ≤ 256 := by
  have h0 : ckAut a = 0 := by
    by_cases h0 : ckAut a = 0
    · exact h0
    · rw [sub_bad h0] at h; exact absurd h h0
  have hok := (ck_ok a).1 h0
  have hm : (mintF a.types (onA a)).1 = 0 := by
    by_cases hm : (mintF a.types (onA a)).1 = 0
    · exact hm
    · rw [subF, if_neg (fun k => k h0), if_pos hm] at h; exact absurd h hm
  obtain ⟨cl, h1, h2, h3, h4⟩ := cls_facts hok hm
  refine ⟨hok, cl, ?_⟩
  rcases sub_cases hok with h5 | ⟨Q, h5, h6, h7, h8⟩
  · rw [h5] at h; simp at h
  · have hcl : rClassesP a.types.toNat (onA a) = cl := by
      have h9 : (subF a).2.1 = cl := by
        rw [subF, if_neg (fun k => k h0), if_neg (fun k => k hm), h1]
        split
        · rename_i hn
          rw [subF, if_neg (fun k => k h0), if_neg (fun k => k hm), h1] at h
          simp only [hn] at h; simp at h
        · rfl
      rw [h5] at h9; exact h9
    rw [hcl] at h5 h6 h7 h8
    exact ⟨Q, h5, h6, h2, h7, h3, h4⟩
theorem fc_finB (H : List AObj) (id : Nat) (a : Aut) (hid : H[id]? = some (.vars (cellsA a))) (s : Int) (h0 : 0 ≤ s) (h1 : s < a.fin.length) : FC Tryz.prog 37 [.i s, .vptr id 0] H (fun r H' => r = .bool (a.fin.getD s.toNat false) ∧ H' = H) := by
  refine FC_body tOk Tryz.func37 rfl Tryz.results37 rfl (by simp [Tryz.ntmps37]) ?_
  rw [Tryz.ntmps37]
  simp only [argSlots]
  have h2 : s.toNat < a.fin.length := by omega
  repeat first|((first|refine qa tOk rfl ?_|refine qb tOk rfl ?_|refine qc ?_|refine qd ?_|refine qe ?_);simp [hid, h0, h1, h2])|refine AWP_block ?_|refine AWP_seq ?_
/-- One class more, at the moves of one state. -/
def stepG (a : Aut) (Q : List (List Int)) (n : Nat) (l : List Int) (g : List Mv) (c : Prd) : List Mv := match idxQ Q (nextL a l (leastS c)) with | some t => addMv n g t c | none => g
def grpTo' (a : Aut) (cl : List Prd) (Q : List (List Int)) (n : Nat) (l : List Int) (k : Nat) : List Mv := (cl.take k).foldl (stepG a Q n l) []
def mvTo (a : Aut) (cl : List Prd) (Q : List (List Int)) (n : Nat) : List Mv := (List.range n).flatMap fun n => grpMv a cl Q n (Q.getD n [])
theorem grpTo_all (a : Aut) (cl : List Prd) (Q : List (List Int)) (n : Nat) (l : List Int) : grpTo' a cl Q n l cl.length = grpMv a cl Q n l := by rw [grpTo', List.take_length]; rfl
theorem grpTo_snoc' (a : Aut) (cl : List Prd) (Q : List (List Int)) (n : Nat) (l : List Int) {k : Nat} {c : Prd} (h : cl[k]? = some c) : grpTo' a cl Q n l (k + 1) = stepG a Q n l (grpTo' a cl Q n l k) c := by
  have hk := get_ltI h
  have hc : cl[k] = c := by rw [List.getElem?_eq_getElem hk] at h; exact Option.some.inj h
  rw [grpTo', List.take_succ_eq_append_getElem hk, List.foldl_append, hc]; rfl
theorem mvTo_succ (a : Aut) (cl : List Prd) (Q : List (List Int)) (n : Nat) : mvTo a cl Q (n + 1) = mvTo a cl Q n ++ grpMv a cl Q n (Q.getD n []) := by simp [mvTo, List.range_succ]
theorem addMv_len (n : Nat) (g : List Mv) (to : Nat) (c : Prd) : (addMv n g to c).length ≤ g.length + 1 := by
  unfold addMv
  split
  · simp
  · split <;> simp
theorem grpMv_len (a : Aut) (Q : List (List Int)) (n : Nat) (l : List Int) : ∀ (cl : List Prd) (g : List Mv), (cl.foldl (stepG a Q n l) g).length ≤ g.length + cl.length
  | [], g => by simp
  | c :: cl, g => by
    have h1 := grpMv_len a Q n l cl (stepG a Q n l g c)
    have h2 : (stepG a Q n l g c).length ≤ g.length + 1 := by
      unfold stepG
      split
      · exact addMv_len _ _ _ _
      · omega
    rw [List.foldl_cons, List.length_cons]; omega
theorem grpTo_len (a : Aut) (cl : List Prd) (Q : List (List Int)) (n : Nat) (l : List Int) (hc : cl.length ≤ 256) (k : Nat) : (grpTo' a cl Q n l k).length ≤ 256 := by
  have := grpMv_len a Q n l (cl.take k) []
  rw [List.length_take] at this
  rw [grpTo']
  simp at this; omega
theorem mvTo_len (a : Aut) (cl : List Prd) (Q : List (List Int)) (hq : Q.length ≤ 256) (hc : cl.length ≤ 256) : ∀ n, n < Q.length → (mvTo a cl Q n).length ≤ n * 256 ∧ (mvTo a cl Q n).length ≤ 65536 := by
  have : ∀ n, (mvTo a cl Q n).length ≤ n * 256 := fun n => by
    induction n with
    | zero => simp [mvTo]
    | succ n ih =>
      have h := grpTo_len a cl Q n (Q.getD n []) hc cl.length
      rw [grpTo_all] at h
      have : mvTo a cl Q (n + 1) = mvTo a cl Q n ++ grpMv a cl Q n (Q.getD n []) := by simp [mvTo, List.range_succ]
      rw [this, List.length_append]; omega
  exact fun n hn => ⟨this n, by have := this n; omega⟩
theorem grpTo_zero (a : Aut) (cl : List Prd) (Q : List (List Int)) (n : Nat) (l : List Int) : grpTo' a cl Q n l 0 = [] := rfl
theorem step_nil {a : Aut} {Q : List (List Int)} (hne : ∀ l ∈ Q, l ≠ []) {n : Nat} {l : List Int} {g : List Mv} {c : Prd} (h : nextL a l (leastS c) = []) : stepG a Q n l g c = g := by
  unfold stepG
  rw [h]
  cases hq : idxQ Q [] with
  | none => rfl
  | some t => exact absurd rfl (hne _ (List.mem_of_getElem? (idxQ_some hq)))
theorem step_some {a : Aut} {Q : List (List Int)} (hn : Q.Nodup) {n t : Nat} {l : List Int} {g : List Mv} {c : Prd} (h : Q[t]? = some (nextL a l (leastS c))) : stepG a Q n l g c = addMv n g t c := by
  unfold stepG
  rw [idxQ_of hn h]
theorem addMv_wf {T n to : Nat} {g : List Mv} {c : Prd} (hg : ∀ m ∈ g, PWf T m.on) (hc : PWf T c) : ∀ m ∈ addMv n g to c, PWf T m.on := by
  intro m hm
  unfold addMv at hm
  split at hm
  · rcases List.mem_append.1 hm with hm | hm
    · exact hg m hm
    · rw [List.mem_singleton.1 hm]; exact hc
  · split at hm
    · rename_i m2 hm2
      rcases List.mem_or_eq_of_mem_set hm with hm | rfl
      · exact hg m hm
      · exact wf_either (hg _ (List.mem_of_getElem? hm2)) hc
    · exact hg m hm
theorem grpTo_wf {a : Aut} {T : Nat} {Q : List (List Int)} {n : Nat} {l : List Int} {cl : List Prd} (hcl : ∀ c ∈ cl, PWf T c) : ∀ k, ∀ m ∈ grpTo' a cl Q n l k, PWf T m.on := by
  have : ∀ (cl : List Prd) (g : List Mv), (∀ c ∈ cl, PWf T c) → (∀ m ∈ g, PWf T m.on) → ∀ m ∈ cl.foldl (stepG a Q n l) g, PWf T m.on := by
    intro cl
    induction cl with
    | nil => intro g _ hg; exact hg
    | cons c cl ih =>
      intro g hc hg
      refine ih _ (fun x hx => hc x (by simp [hx])) fun m hm => ?_
      unfold stepG at hm
      split at hm
      · exact addMv_wf hg (hc c (by simp)) m hm
      · exact hg m hm
  exact fun k => this _ _ (fun c hc => hcl c (List.mem_of_mem_take hc)) (fun m hm => by simp at hm)
def AObj.isLp : AObj → Bool
  | .lp .. => true
  | _ => false
theorem set_one {T : Nat} {c : Prd} (hw : PWf T c) (hz : ∀ s ∈ c, s.length ≤ 256) {i : Nat} (hi : i < T) : (setsAt [c] i).length ≤ 1000000 := by
  have h : i < c.length := by rw [hw.1]; exact hi
  have : setsAt [c] i = c[i] := by simp [setsAt, List.getD, h]
  rw [this]
  have := hz _ (List.getElem_mem h)
  omega
theorem set_two {T : Nat} {p c : Prd} (hp : PWf T p) (hw : PWf T c) (h1 : ∀ s ∈ p, s.length ≤ 65536) (hz : ∀ s ∈ c, s.length ≤ 256) {i : Nat} (hi : i < T) : (setsAt [p, c] i).length ≤ 1000000 := by
  have h : i < c.length := by rw [hw.1]; exact hi
  have h2 : i < p.length := by rw [hp.1]; exact hi
  have : setsAt [p, c] i = p[i] ++ c[i] := by simp [setsAt, List.getD, h, h2]
  rw [this, List.length_append]
  have := hz _ (List.getElem_mem h)
  have := h1 _ (List.getElem_mem h2)
  omega
theorem mvTo_all (a : Aut) (cl : List Prd) (Q : List (List Int)) : mvTo a cl Q Q.length = (detA a cl Q).mv := rfl
theorem detA_fin (a : Aut) (cl : List Prd) (Q : List (List Int)) : (detA a cl Q).fin = Q.map (finB a) := rfl
theorem detA_types (a : Aut) (cl : List Prd) (Q : List (List Int)) : (detA a cl Q).types = a.types := rfl
theorem limA_def (d : Aut) : limA d = if bigA d then (5, zeroA) else (0, d) := rfl
theorem mvTo_len2 (a : Aut) (cl : List Prd) (Q : List (List Int)) (hq : Q.length ≤ 256) (hc : cl.length ≤ 256) : (mvTo a cl Q Q.length).length ≤ 65536 := by
  have : ∀ n, (mvTo a cl Q n).length ≤ n * 256 := fun n => by
    induction n with
    | zero => simp [mvTo]
    | succ n ih =>
      have h := grpTo_len a cl Q n (Q.getD n []) hc cl.length
      rw [grpTo_all] at h
      rw [mvTo_succ, List.length_append]; omega
  have := this Q.length
  omega
theorem either_sz {p c : Prd} {A B : Nat} (hp : ∀ s ∈ p, s.length ≤ A) (hc : ∀ s ∈ c, s.length ≤ B) : ∀ s ∈ eitherP p c, s.length ≤ A + B := by
  intro s hs
  obtain ⟨i, hi, rfl⟩ := List.getElem_of_mem hs
  simp only [eitherP, List.length_zipWith] at hi
  simp only [eitherP, List.getElem_zipWith]
  refine Nat.le_trans (norm_le' _) ?_
  rw [List.length_append]
  have h1 := hp _ (List.getElem_mem (by omega : i < p.length))
  have h2 := hc _ (List.getElem_mem (by omega : i < c.length))
  omega
theorem grpTo_sz {a : Aut} {Q : List (List Int)} {n : Nat} {l : List Int} {cl : List Prd} (hcl : ∀ c ∈ cl, ∀ s ∈ c, s.length ≤ 256) (hln : cl.length ≤ 256) : ∀ k, ∀ m ∈ grpTo' a cl Q n l k, ∀ s ∈ m.on, s.length ≤ 65536 := by
  have key : ∀ (cl : List Prd) (g : List Mv) (B : Nat), (∀ c ∈ cl, ∀ s ∈ c, s.length ≤ 256) → (∀ m ∈ g, ∀ s ∈ m.on, s.length ≤ B) → ∀ m ∈ cl.foldl (stepG a Q n l) g, ∀ s ∈ m.on, s.length ≤ B + cl.length * 256 := by
    intro cl
    induction cl with
    | nil => intro g B _ hg m hm s hs; have := hg m hm s hs; simp; omega
    | cons c cl ih =>
      intro g B hc hg m hm s hs
      have h1 : ∀ m ∈ stepG a Q n l g c, ∀ s ∈ m.on, s.length ≤ B + 256 := by
        intro m hm s hs
        have hcc := hc c (by simp)
        unfold stepG addMv at hm
        split at hm
        · split at hm
          · rcases List.mem_append.1 hm with hm | hm
            · have := hg m hm s hs; omega
            · rw [List.mem_singleton.1 hm] at hs
              have := hcc s hs; omega
          · split at hm
            · rename_i m2 hm2
              rcases List.mem_or_eq_of_mem_set hm with hm | rfl
              · have := hg m hm s hs; omega
              · exact either_sz (hg _ (List.mem_of_getElem? hm2)) hcc s hs
            · have := hg m hm s hs; omega
        · have := hg m hm s hs; omega
      have := ih (stepG a Q n l g c) (B + 256) (fun x hx => hc x (by simp [hx])) h1 m hm s hs
      rw [List.length_cons]; omega
  intro k m hm s hs
  have := key (cl.take k) [] 0 (fun c hc => hcl c (List.mem_of_mem_take hc)) (fun m hm => by simp at hm) m hm s hs
  rw [List.length_take] at this
  have : min k cl.length ≤ 256 := by omega
  omega
theorem mvTo_zero (a : Aut) (cl : List Prd) (Q : List (List Int)) : mvTo a cl Q 0 = [] := rfl
attribute [local irreducible] subF nextL leastS mpT txtS limA detA mvTo grpTo' stepG finB bigA
set_option maxHeartbeats 8000000 in
theorem pc_Determinize (a : Aut) : PC Tryz.prog 15 [encA a] (fun r => r = .tup [encA (detF a).2, .i (detF a).1]) := by
  refine PC_body tOk Tryz.func15 rfl Tryz.results15 rfl (by simp [Tryz.ntmps15]) ?_
  rw [Tryz.ntmps15]
  simp only [argSlots]
  simp only [encA]
  repeat first|((first|refine qa tOk rfl ?_|refine qb tOk rfl ?_|refine qc ?_|refine qd ?_|refine qe ?_);simp)|refine AWP_block ?_|refine AWP_seq ?_
  have hfc := fc_subsets [.vars (cellsA a), .vars [.i 0, .nils, .nils]] a
  refine AStep_FC rfl rfl hfc rfl ?_
  rintro res H' ⟨hk, ⟨he, rfl⟩ | ⟨he, r, p, m, rfl, ht, hr, hp, hm⟩⟩
  · have hd : detF a = ((subF a).1, zeroA) := by rw [detF, if_pos he]
    rw [hd]
    have k0 := hk 0 (by simp)
    have k1 := hk 1 (by simp)
    simp at k0 k1
    simp
    repeat first|((first|refine qa tOk rfl ?_|refine qb tOk rfl ?_|refine qc ?_|refine qd ?_|refine qe ?_);simp [get_app k1])|refine AWP_block ?_|refine AWP_seq ?_
    refine AWP_cond2 rfl (fun _ => ?_) (fun h => by simp at h; exact absurd h he)
    have k2 : ∀ L Y, ((H' ++ L).set 1 Y)[1]? = some Y := fun L Y => get_self (get_app k1 L) Y
    repeat first|((first|refine qa tOk rfl ?_|refine qb tOk rfl ?_|refine qc ?_|refine qd ?_|refine qe ?_);simp [get_app k1, k2])|refine AWP_block ?_|refine AWP_seq ?_
    exact ⟨rfl, rfl, rfl⟩
  · obtain ⟨hok, cl, Q, hsf, hsr, hcls, hsub, hcln, hcf⟩ := sub_facts he
    have hd : detF a = limA (detA a cl Q) := by rw [detF, hsf]; simp
    rw [hd]
    rw [hsf] at ht
    simp only at ht
    have k0 := hk 0 (by simp)
    have k1 := hk 1 (by simp)
    simp at k0 k1
    have htt := ht.t
    have hts := ht.s
    simp
    repeat first|((first|refine qa tOk rfl ?_|refine qb tOk rfl ?_|refine qc ?_|refine qd ?_|refine qe ?_);simp [get_app k1])|refine AWP_block ?_|refine AWP_seq ?_
    refine AWP_cond2 rfl (fun h => by simp [he] at h) (fun _ => ?_)
    have k0a : ∀ (L : List AObj) hh, (H' ++ L)[0]'hh = .vars (cellsA a) := fun L hh => by have := get_app k0 L; rw [List.getElem?_eq_getElem hh] at this; exact Option.some.inj this
    have htt2 := fun L => get_app (G := L) htt
    repeat first|((first|refine qa tOk rfl ?_|refine qb tOk rfl ?_|refine qc ?_|refine qd ?_|refine qe ?_);simp [get_app k0, k0a, htt2])|refine AWP_block ?_|refine AWP_seq ?_
    have hrl := get_lt ht.t
    have hpl := get_lt ht.s
    have hml := get_lt ht.n
    refine AWP_keep (sl' := [(1, .vptr 0 0), (2, .vptr 1 0), (3, .i 0), (4, .vptr H'.length 0), (6, .vptr (H'.length + 1) 0), (30, .sl p 1 0 Q.length), (31, .i Q.length), (32, .i (0 : Nat))]) ?_ (by simp)
    refine AWP_nilCell (H'.length + 1) 1 4 1 (xs := [.i a.types, .nils, .nils]) (by rw [List.getElem?_append_right (by omega)]; simp) rfl ?_
    refine AWP_abs fun Z1 hZ1 => ?_
    have z1l : Z1.length = H'.length + 3 := by rw [hZ1]; simp
    have z1c : Z1[H'.length + 1]? = some (.vars [.i a.types, .sl (H'.length + 2) 1 0 0, .nils]) := by rw [hZ1, List.getElem?_set_self (by simp)]; simp
    have z1f : Z1[H'.length + 2]? = some (.arr 4 1 []) := by rw [hZ1, List.getElem?_set_ne (by omega), List.getElem?_append_right (by simp)]; simp
    have z1b : Z1[H'.length]? = some (.vars [.vptr r 0]) := by rw [hZ1, List.getElem?_set_ne (by omega), List.append_assoc, List.getElem?_append_right (by omega)]; simp
    have z1k : ∀ i, i < H'.length → Z1[i]? = H'[i]? := fun i hi => by rw [hZ1, List.getElem?_set_ne (by omega), List.append_assoc, List.getElem?_append_left hi]
    clear hZ1
    refine AWP_nilCell (H'.length + 1) 2 61 3 z1c rfl ?_
    refine AWP_abs fun Z2 hZ2 => ?_
    have z2c : Z2[H'.length + 1]? = some (.vars [.i a.types, .sl (H'.length + 2) 1 0 0, .sl (H'.length + 3) 3 0 0]) := by rw [hZ2, List.getElem?_set_self (by simp; omega)]; simp [z1l]
    have z2v : Z2[H'.length + 3]? = some (.arr 61 3 []) := by rw [hZ2, List.getElem?_set_ne (by omega), List.getElem?_append_right (by omega)]; simp [z1l]
    have z2k : ∀ i, i < Z1.length → i ≠ H'.length + 1 → Z2[i]? = Z1[i]? := fun i hi hne => by rw [hZ2, List.getElem?_set_ne (Ne.symm hne), List.getElem?_append_left hi]
    clear hZ2
    have hb := (z2k _ (by omega) (by omega)).trans z1b
    have hf0 := (z2k _ (by omega) (by omega)).trans z1f
    have hold : ∀ i, i < H'.length → Z2[i]? = H'[i]? := fun i hi => (z2k i (by omega) (by omega)).trans (z1k i hi)
    have h0' := (hold 0 (get_lt k0)).trans k0
    have h1' := (hold 1 (get_lt k1)).trans k1
    obtain ⟨fx0, hfx0⟩ : ∃ fx0 : List (Nat × AObj), fx0 = [(0, .vars (cellsA a)), (1, .vars [.i 0, .nils, .nils]), (H'.length, .vars [.vptr r 0]), (r, .vars [.i a.types, .list (a.fin.map .bool), .list (a.mv.map encMv), LP cl, .sl p 1 0 Q.length, .mref m]), (p, .arr 47 1 (LQ Q)), (m, mpT (Q.map txtS))] := ⟨_, rfl⟩
    have hFx : Fx fx0 Z2 := by
      rw [hfx0]
      intro x hx
      simp only [List.mem_cons, List.not_mem_nil, or_false] at hx
      rcases hx with rfl | rfl | rfl | rfl | rfl | rfl
      · exact h0'
      · exact h1'
      · exact hb
      · exact (hold r hrl).trans ht.t
      · exact (hold p hpl).trans ht.s
      · exact (hold m hml).trans ht.n
    have hQl := hsub.lim
    have okS : ∀ x ∈ Q, okSet x := fun x hx => by
      have he := hsub.elem x hx
      have := asc_len he.1 he.2
      have := hok.fin
      exact ⟨hsub.ne x hx, by omega, fun z hz => by have := he.2 z hz; omega⟩
    have hfin := hok.fin
    generalize H'.length + 1 = c at *
    generalize H'.length = b at *
    refine AWP_loop (ALoop_keep (sl' := [(1, .vptr 0 0), (2, .vptr 1 0), (3, .i 0), (4, .vptr b 0), (6, .vptr c 0), (30, .sl p 1 0 Q.length), (31, .i Q.length), (32, .i (0 : Nat))]) ?_ (by simp))
    refine ALoop_wf (F := fun (u : Nat × Nat × Nat × List AObj) => ⟨[(1, .vptr 0 0), (2, .vptr 1 0), (3, .i 0), (4, .vptr b 0), (6, .vptr c 0), (30, .sl p 1 0 Q.length), (31, .i Q.length), (32, .i u.1)], u.2.2.2⟩)
      (fun u => u.1 ≤ Q.length ∧ Fx fx0 u.2.2.2 ∧ u.2.2.2[c]? = some (.vars [.i a.types, .sl u.2.1 1 0 u.1, .sl u.2.2.1 3 0 (mvTo a cl Q u.1).length]) ∧ u.2.2.2[u.2.1]? = some (.arr 4 1 (((Q.take u.1).map (finB a)).map .bool)) ∧ u.2.2.2[u.2.2.1]? = some (.arr 61 3 ((mvTo a cl Q u.1).map encMv))) (fun u => Q.length - u.1) ?_ (0, _, _, Z2) ⟨by simp, hFx, by rw [mvTo_zero]; exact z2c, by simpa using hf0, by rw [mvTo_zero]; exact z2v⟩
    clear hFx z2c hf0 z2v hb h0' h1' hold z2k z1k z1b z1f z1c z1l
    clear Z2 Z1
    rintro ⟨n, f, v, G⟩ ⟨hn, hF, gc, gf, gv⟩ ih
    simp only at hn hF gc gf gv ih ⊢
    repeat first|((first|refine qa tOk rfl ?_|refine qb tOk rfl ?_|refine qc ?_|refine qd ?_|refine qe ?_);simp)|refine AWP_block ?_|refine AWP_seq ?_
    refine AWP_cond2 rfl (fun hlt => ?_) (fun hge => ?_)
    · have hlt' : n < Q.length := by simpa using hlt
      have hw : IntKind.i64.wrap ((n : Int) + 1) = n + 1 := wrap_i64 _ (by omega) (by omega)
      have gs : G[p]? = some (.arr 47 1 (LQ Q)) := hF (p, _) (by rw [hfx0]; simp)
      repeat first|((first|refine qa tOk rfl ?_|refine qb tOk rfl ?_|refine qc ?_|refine qd ?_|refine qe ?_);simp [gs, hlt'])|refine AWP_block ?_|refine AWP_seq ?_
      have hlm := List.getElem_mem hlt'
      have hle := hsub.elem _ hlm
      have hgQ : Q.getD n [] = Q[n] := by simp [List.getD, hlt']
      have hmv := mvTo_succ a cl Q n
      have htk : (Q.take (n + 1)).map (finB a) = (Q.take n).map (finB a) ++ [finB a Q[n]] := by rw [List.take_succ_eq_append_getElem hlt', List.map_append]; rfl
      rw [hgQ] at hmv
      have hml2 := (mvTo_len a cl Q (hsub.lim) hcln n hlt').2
      have hclos := hsub.closed _ hlm
      have hll := asc_len hle.1 hle.2
      have gac := fun L => get_app (G := L) gc
      have g0 : ∀ L, (G ++ L)[0]? = some (.vars (cellsA a)) := fun L => get_app (hF (0, _) (by rw [hfx0]; simp)) L
      have gtl : ((Q.take n).map (finB a)).length = n := by simp; omega
      generalize Q[n] = l at *
      have wF := hF.app [.vars [.i n]]
      have wc := get_app gc [.vars [.i n]]
      have wf := get_app gf [.vars [.i n]]
      have wv := get_app gv [.vars [.i n]]
      have w7 : (G ++ [AObj.vars [.i n]])[G.length]? = some (.vars [.i n]) := by simp
      have w0 := g0 [.vars [.i n]]
      refine AWP_keep (sl' := [(1, .vptr 0 0), (2, .vptr 1 0), (3, .i 0), (4, .vptr b 0), (6, .vptr c 0), (7, .vptr G.length 0), (8, LI l), (30, .sl p 1 0 Q.length), (31, .i Q.length), (32, .i n)]) ?_ (by simp)
      generalize G.length = n7 at *
      generalize G ++ [AObj.vars [.i n]] = W at *
      clear g0 gac gs gc gf gv hF
      clear G
      have hfn1 : ((Q.take (n + 1)).map (finB a)).map AV.bool = ((Q.take n).map (finB a)).map AV.bool ++ [.bool (finB a l)] := by rw [htk]; simp
      have hxl : (((Q.take n).map (finB a)).map AV.bool).length = n := by rw [List.length_map]; exact gtl
      generalize ((Q.take n).map (finB a)).map AV.bool = xs at *
      have hcf' : c ≠ f := fun e => by rw [e, wf] at wc; simp at wc
      have hcv : c ≠ v := fun e => by rw [e, wv] at wc; simp at wc
      have hfv : f ≠ v := fun e => by rw [e, wv] at wf; simp at wf
      have hc7 : c ≠ n7 := fun e => by rw [e, w7] at wc; simp at wc
      have hf7 : f ≠ n7 := fun e => by rw [e, w7] at wf; simp at wf
      have hfx1 : ∀ p ∈ fx0, p.2 ≠ .vars [.i a.types, .sl f 1 0 n, .sl v 3 0 (mvTo a cl Q n).length] := by rw [hfx0]; simp [mpT_def]
      have hfx2 : ∀ p ∈ fx0, p.2 ≠ .arr 4 1 xs := by rw [hfx0]; simp [mpT_def]
      have hcl := get_lt wc
      have hfl := get_lt wf
      have hvl := get_lt wv
      have h7l := get_lt w7
      have wfx := wF.set wf hfx2 .dead
      have wc2 : ∀ L, (W.set f .dead ++ L)[c]? = some (.vars [.i a.types, .sl f 1 0 n, .sl v 3 0 (mvTo a cl Q n).length]) := fun L => get_app (get_set (Ne.symm hcf') wc _) L
      refine AWP_drawF (P := Tryz.prog) tOk mixed [4, 6, 8] (.val 0 (.val 2 (.val 3 (.two 1 (.one 4 (.one 5 (.one 6 (.val 7 (.one 8 (.done)))))) 4 (.val 1 (.one 5 (.one 6 (.val 7 (.one 8 (.done)))))))))) (fun S' => ∃ f', Fx fx0 S'.hp ∧ S'.hp[n7]? = some (.vars [.i n]) ∧ S'.hp[c]? = some (.vars [.i a.types, .sl f' 1 0 (n + 1), .sl v 3 0 (mvTo a cl Q n).length]) ∧ S'.hp[f']? = some (.arr 4 1 (xs ++ [.bool (finB a l)])) ∧ S'.hp[v]? = some (.arr 61 3 ((mvTo a cl Q n).map encMv)) ∧ look S'.sl 1 = some (.vptr 0 0) ∧ look S'.sl 2 = some (.vptr 1 0) ∧ look S'.sl 3 = some (.i 0) ∧ look S'.sl 4 = some (.vptr b 0) ∧ look S'.sl 6 = some (.vptr c 0) ∧ look S'.sl 7 = some (.vptr n7 0) ∧ look S'.sl 8 = some (LI l) ∧ look S'.sl 30 = some (.sl p 1 0 Q.length) ∧ look S'.sl 31 = some (.i Q.length) ∧ look S'.sl 32 = some (.i n)) rfl (by kernel_rfl) ?_ ?_
      · simp [wc]
        refine ⟨?_, ?_⟩
        all_goals
          refine AStep_FC rfl rfl (fc_ContainsF W l 37 (.vptr 0 0) (fun s => a.fin.getD s.toNat false) (by omega) (fun z hz => fc_finB W 0 a w0 z (hle.2 z hz).1 (hle.2 z hz).2)) rfl ?_
          rintro _ H2 ⟨rfl, hH2⟩
          rw [hH2]
          have hfb : l.any (fun s => a.fin.getD s.toNat false) = finB a l := by unfold finB; rfl
          rw [hfb]
          simp [wc]
          refine AStep_appendS tOk rfl rfl T22 rfl T4 rfl (by decide) (by decide) rfl rfl rfl ?_
          simp [get_app wf, set_app wf, hxl, wc2, get_app wc]
          refine ⟨by simp [appOk, get_app wf, set_app wf, hxl, wc2, get_app wc] <;> omega, ?_⟩
          refine ⟨?_, ?_, W.length + 1, ?_, ?_, ?_⟩
          · exact (wfx.app _).set (wc2 _) hfx1 _
          · rw [List.getElem?_set_ne hc7, List.getElem?_append_left (by simpa using h7l), List.getElem?_set_ne hf7]; exact w7
          · rw [List.getElem?_set_self (by simp; omega)]
          · rw [List.getElem?_set_ne (by omega), List.getElem?_append_right (by simp)]; simp
          · rw [List.getElem?_set_ne hcv, List.getElem?_append_left (by simpa using hvl), List.getElem?_set_ne hfv]; exact wv
      · rintro ⟨sl, E⟩ ⟨f', eF, e7, ec, ef, ev, s1, s2, s3, s4, s6, s7, s8, s30, s31, s32⟩
        simp only at eF e7 ec ef ev s1 s2 s3 s4 s6 s7 s8 s30 s31 s32
        refine AWP_keep (sl' := [(1, .vptr 0 0), (2, .vptr 1 0), (3, .i 0), (4, .vptr b 0), (6, .vptr c 0), (7, .vptr n7 0), (8, LI l), (30, .sl p 1 0 Q.length), (31, .i Q.length), (32, .i n)]) ?_ (by simp [s1, s2, s3, s4, s6, s7, s8, s30, s31, s32])
        clear s1 s2 s3 s4 s6 s7 s8 s30 s31 s32 wfx wc2 hfx1 hfx2 hcl hfl hvl h7l hcf' hcv hfv hc7 hf7 w0 w7 wv wf wc wF
        have eb : E[b]? = some (.vars [.vptr r 0]) := eF (b, _) (by rw [hfx0]; simp)
        repeat first|((first|refine qa tOk rfl ?_|refine qb tOk rfl ?_|refine qc ?_|refine qd ?_|refine qe ?_);simp [ec, get_app eb])|refine AWP_block ?_|refine AWP_seq ?_
        have hst1 : ∀ g c, nextL a l (leastS c) = [] → stepG a Q n l g c = g := fun g c hx => step_nil hsub.ne hx
        have hst2 : ∀ g c t, Q[t]? = some (nextL a l (leastS c)) → stepG a Q n l g c = addMv n g t c := fun g c t hx => step_some hsub.nd hx
        have hgs := fun k c hc => grpTo_snoc' a cl Q n l (k := k) (c := c) hc
        have hgl := fun k => grpTo_len a cl Q n l hcln k
        have hg0 : grpTo' a cl Q n l 0 = [] := grpTo_zero a cl Q n l
        have hga := grpTo_all a cl Q n l
        have hgw : ∀ k, ∀ m ∈ grpTo' a cl Q n l k, PWf a.types.toNat m.on := grpTo_wf (fun c hc => (hcf c hc).2.2.2.1)
        have hgz : ∀ k, ∀ m ∈ grpTo' a cl Q n l k, ∀ s ∈ m.on, s.length ≤ 65536 := grpTo_sz (fun c hc => (hcf c hc).2.2.2.2) hcln
        have ih' := fun f v G => ih (n + 1, f, v, G)
        simp only [hmv, ← hga, hfn1] at ih'
        clear ih
        generalize mvTo a cl Q n = pre at *
        refine AStep_FC rfl rfl (fc_successors _ r l) rfl ?_
        rintro _ _ ⟨rfl, rfl⟩
        simp
        repeat first|((first|refine qa tOk rfl ?_|refine qb tOk rfl ?_|refine qc ?_|refine qd ?_|refine qe ?_);simp)|refine AWP_block ?_|refine AWP_seq ?_
        obtain ⟨fx1, hfx1⟩ : ∃ fx1 : List (Nat × AObj), fx1 = fx0 ++ [(n7, .vars [.i n]), (E.length, .vars [.i pre.length]), (E.length + 1, .vars [.vptr r 0]), (E.length + 2, .vars [LI l]), (f', .arr 4 1 (xs ++ [.bool (finB a l)]))] := ⟨_, rfl⟩
        refine AWP_rangeFunc rfl (Rf := fun _ H' => ∃ v, Fx fx1 H' ∧ H'[c]? = some (.vars [.i a.types, .sl f' 1 0 (n + 1), .sl v 3 0 (pre ++ grpTo' a cl Q n l cl.length).length]) ∧ H'[v]? = some (.arr 61 3 ((pre ++ grpTo' a cl Q n l cl.length).map encMv)) ∧ ∃ sl' ps' a' b', H'[E.length + 3]? = some (.lp true none 100 sl' ps' a' b')) ?_ ?_
        · simp
          refine gen_FC fun H1 hH1 => ?_
          have hF1 : Fx fx1 H1 := by
            rw [hfx1, hH1]
            intro x hx
            rcases List.mem_append.1 hx with hx | hx
            · exact (eF.app _) x hx
            · simp only [List.mem_cons, List.not_mem_nil, or_false] at hx
              rcases hx with rfl | rfl | rfl | rfl | rfl
              · exact get_app e7 _
              · rw [List.getElem?_append_right (by simp)]; simp
              · rw [List.getElem?_append_right (by simp)]; simp
              · rw [List.getElem?_append_right (by simp)]; simp
              · exact get_app ef _
          have fc : H1[c]? = some (.vars [.i a.types, .sl f' 1 0 (n + 1), .sl v 3 0 pre.length]) := by rw [hH1]; exact get_app ec _
          have fv : H1[v]? = some (.arr 61 3 (pre.map encMv)) := by rw [hH1]; exact get_app ev _
          have fq := congrArg (fun h : List AObj => h[E.length + 3]?) hH1
          simp at fq
          clear hH1
          refine FC.mono (fc_succ1 a hok cl l (fun c hc => ⟨(hcf c hc).1, (hcf c hc).2.1, (hcf c hc).2.2.1⟩) hcln (E.length + 3) (E.length + 1) (E.length + 2) r (by rfl) (by rfl)
            (fun k H' => ∃ v, Fx fx1 H' ∧ H'[c]? = some (.vars [.i a.types, .sl f' 1 0 (n + 1), .sl v 3 0 (pre ++ grpTo' a cl Q n l k).length]) ∧ H'[v]? = some (.arr 61 3 ((pre ++ grpTo' a cl Q n l k).map encMv)) ∧ H'[E.length + 3]? = H1[E.length + 3]?)
            (fun k H' ⟨v', h1, h2, h3, h4⟩ => ⟨h4.trans fq, h1 (E.length + 1, _) (by rw [hfx1]; simp), h1 (E.length + 2, _) (by rw [hfx1]; simp), [.sl p 1 0 Q.length, .mref m], h1 (r, _) (by rw [hfx1, hfx0]; simp)⟩) ?_ ?_ ?_ H1 ⟨v, hF1, by rw [hg0, List.append_nil]; exact fc, by rw [hg0, List.append_nil]; exact fv, rfl⟩) ?_
          · rintro k H' L ⟨v', h1, h2, h3, h4⟩
            exact ⟨v', h1.app L, get_app h2 L, get_app h3 L, by rw [← h4, List.getElem?_append_left (by rw [fq] at h4; exact get_lt h4)]⟩
          · rintro k cc H' hc hnx ⟨v', h1, h2, h3, h4⟩
            have := hst1 (grpTo' a cl Q n l k) cc hnx
            rw [← hgs k cc hc] at this
            exact ⟨v', h1, by rw [this]; exact h2, by rw [this]; exact h3, h4⟩
          · rintro k cc H' hc hnx ⟨v', h1, h2, h3, h4⟩
            rw [hgs k cc hc]
            have hccm := List.mem_of_getElem? hc
            have hin : nextL a l (leastS cc) ∈ Q := (hclos cc hccm).resolve_left hnx
            have hst3 := hst2 (grpTo' a cl Q n l k) cc
            have hgl2 := hgl k
            have hgw2 := hgw k
            have hgz2 := hgz k
            have hcc := hcf cc hccm
            generalize nextL a l (leastS cc) = nx at *
            generalize stepG a Q n l (grpTo' a cl Q n l k) cc = g2 at *
            generalize grpTo' a cl Q n l k = g at *
            simp [putMany]
            have h8 := h4.trans fq
            obtain ⟨LP0, hLP0⟩ : ∃ LP0, H1[E.length + 3]? = some LP0 := ⟨_, fq⟩
            have hLPl : LP0.isLp = true := by rw [fq] at hLP0; injection hLP0 with e; rw [← e]; rfl
            have hfq2 : H'[E.length + 3]? = some LP0 := h4.trans hLP0
            have hfx8 : ∀ p ∈ fx1, p.2 ≠ LP0 := fun p hp e => by
              rw [← e] at hLPl
              rw [hfx1, hfx0] at hp
              simp only [List.mem_append, List.mem_cons, List.not_mem_nil, or_false] at hp
              rcases hp with (rfl | rfl | rfl | rfl | rfl | rfl) | (rfl | rfl | rfl | rfl | rfl) <;> simp [AObj.isLp, mpT_def] at hLPl
            have y1 := h1.set hfq2 hfx8 .dead
            have hqc : E.length + 3 ≠ c := fun e => by rw [e, h2] at hfq2; injection hfq2 with e2; rw [← e2] at hLPl; simp [AObj.isLp] at hLPl
            have hqv : E.length + 3 ≠ v' := fun e => by rw [e, h3] at hfq2; injection hfq2 with e2; rw [← e2] at hLPl; simp [AObj.isLp] at hLPl
            have y2 := get_set hqc h2 .dead
            have y3 := get_set hqv h3 .dead
            have y4 := get_self hfq2 .dead
            generalize H'.set (E.length + 3) .dead = Y at *
            have yb : Y[b]? = some (.vars [.vptr r 0]) := y1 (b, _) (by rw [hfx1, hfx0]; simp)
            have y0 : Y[0]? = some (.vars (cellsA a)) := y1 (0, _) (by rw [hfx1, hfx0]; simp)
            have y7 : Y[n7]? = some (.vars [.i n]) := y1 (n7, _) (by rw [hfx1]; simp)
            have y9 : Y[E.length]? = some (.vars [.i pre.length]) := y1 (E.length, _) (by rw [hfx1]; simp)
            have yt : TB r p m a cl Q Y := ⟨y1 (r, _) (by rw [hfx1, hfx0]; simp), y1 (p, _) (by rw [hfx1, hfx0]; simp), y1 (m, _) (by rw [hfx1, hfx0]; simp)⟩
            repeat first|((first|refine qa tOk rfl ?_|refine qb tOk rfl ?_|refine qc ?_|refine qd ?_|refine qe ?_);simp [get_app yb])|refine AWP_block ?_|refine AWP_seq ?_
            refine AStep_FC rfl rfl (fc_find _ r p m a cl Q nx (yt.keep fun j hj => ?_) (okS nx hin) okS (by omega)) rfl ?_
            · have : j < Y.length := by
                rcases hj with rfl | rfl | rfl
                · exact get_lt yt.t
                · exact get_lt yt.s
                · exact get_lt yt.n
              exact List.getElem?_append_left this
            rintro res Z ⟨t, p2, rfl, htx, -, -, -, hZ, -⟩
            rw [hZ hin]
            have hadd : addQ Q nx = Q := by rw [addQ, if_pos hin]
            rw [hadd] at htx
            rw [hst3 t htx]
            clear hZ
            simp
            repeat first|((first|refine qa tOk rfl ?_|refine qb tOk rfl ?_|refine qc ?_|refine qd ?_|refine qe ?_);simp [get_app y2, get_app y9])|refine AWP_block ?_|refine AWP_seq ?_
            have hvm : ∀ M, (Y ++ M)[v']? = some (.arr 61 3 ((pre ++ g).map encMv)) := fun M => get_app y3 M
            refine AStep_FC rfl rfl (fc_IndexM (Y ++ [AObj.vars [.list (cc.map encL)], .vars [.i t]]) v' pre.length t (Y.length + 1) pre g (by rw [List.getElem?_append_right (by omega)]; simp) (hvm _) (by omega) rfl) rfl ?_
            rintro _ _ ⟨rfl, L, rfl⟩
            simp
            repeat first|((first|refine qa tOk rfl ?_|refine qb tOk rfl ?_|refine qc ?_|refine qd ?_|refine qe ?_);simp)|refine AWP_block ?_|refine AWP_seq ?_
            have w1 := y1.app ([AObj.vars [.list (cc.map encL)], .vars [.i t]] ++ L)
            have w2 := get_app y2 ([AObj.vars [.list (cc.map encL)], .vars [.i t]] ++ L)
            have w3 := hvm ([AObj.vars [.list (cc.map encL)], .vars [.i t]] ++ L)
            have w4 := get_app y4 ([AObj.vars [.list (cc.map encL)], .vars [.i t]] ++ L)
            have w5 : (Y ++ ([AObj.vars [.list (cc.map encL)], .vars [.i t]] ++ L))[Y.length]? = some (.vars [.list (cc.map encL)]) := by rw [List.getElem?_append_right (by omega)]; simp
            have w6 : (Y ++ ([AObj.vars [.list (cc.map encL)], .vars [.i t]] ++ L))[Y.length + 1]? = some (.vars [.i t]) := by rw [List.getElem?_append_right (by omega)]; simp
            have w7 := get_app y7 ([AObj.vars [.list (cc.map encL)], .vars [.i t]] ++ L)
            have w0 := get_app y0 ([AObj.vars [.list (cc.map encL)], .vars [.i t]] ++ L)
            have w9 := get_app y9 ([AObj.vars [.list (cc.map encL)], .vars [.i t]] ++ L)
            have hTn : ((a.types.toNat : Nat) : Int) = a.types := by have := hok.types; omega
            simp only [List.cons_append, List.nil_append] at w0 w1 w2 w3 w4 w5 w6 w7 w9
            generalize Y ++ AObj.vars [.list (cc.map encL)] :: AObj.vars [.i t] :: L = W at *
            generalize Y.length + 1 = i12 at *
            generalize Y.length = i10 at *
            have hfd : ∀ p ∈ fx1, p.2 ≠ .dead := by rw [hfx1, hfx0]; simp [mpT_def]
            have hfc1 : ∀ p ∈ fx1, p.2 ≠ .vars [.i a.types, .sl f' 1 0 (n + 1), .sl v' 3 0 (pre.length + g.length)] := by rw [hfx1, hfx0]; simp [mpT_def]
            have hfv1 : ∀ p ∈ fx1, p.2 ≠ .arr 61 3 ((pre ++ g).map encMv) := by rw [hfx1, hfx0]; simp [mpT_def]
            rw [List.length_append] at w2
            have hvc : v' ≠ c := fun e => by rw [e, w2] at w3; simp at w3
            have hvq : v' ≠ E.length + 3 := fun e => by rw [e, w4] at w3; simp at w3
            have hcq : c ≠ E.length + 3 := fun e => by rw [e, w4] at w2; simp at w2
            have lc := get_lt w2
            have lv := get_lt w3
            have lq := get_lt w4
            refine AWP_keep (sl' := [(1, .vptr 0 0), (6, .vptr c 0), (7, .vptr n7 0), (9, .vptr E.length 0), (10, .vptr i10 0), (12, .vptr i12 0), (13, .i (idxM g t)), (63, .bool (decide (idxM g t < 0)))]) ?_ (by simp)
            cases hfi : g.findIdx? fun m : Mv => decide (m.dst = (t : Int)) with
            | none =>
              have hix : idxM g t = -1 := by rw [idxM, hfi]
              have hadv : addMv n g t cc = g ++ [⟨n, t, cc⟩] := by rw [addMv, hfi]
              rw [hix, hadv]
              refine AWP_cond rfl ?_
              simp
              repeat first|((first|refine qa tOk rfl ?_|refine qb tOk rfl ?_|refine qc ?_|refine qd ?_|refine qe ?_);simp)|refine AWP_block ?_|refine AWP_seq ?_
              refine AWP_drawT tOk mixed [11, 13] (.val 0 (.val 1 (.val 2 (.val 3 (.val 4 (.val 5 (.val 6 (.one 7 (.one 8 (.val 9 (.one 10 (.one 11 (.val 12 (.one 13 (.done))))))))))))))) rfl (by kernel_rfl) ?_
              simp [w0, w2, w5, w6, w7]
              refine AStep_freeze1 W.length (e := 59) (c := 1) (xs := [encP cc]) (by simp) ?_
              simp
              have hu1 := pc_union a.types.toNat [cc] (by have := hok.types; omega) (fun p hp => by rw [List.mem_singleton.1 hp]; exact hcc.2.2.2.1) (fun j hj => set_one hcc.2.2.2.1 hcc.2.2.2.2 hj) (by simp)
              rw [hTn, uni_one hcc.2.2.2.1] at hu1
              refine AStep_PC rfl rfl (by simp) (hu1) rfl ?_
              rintro _ rfl
              simp
              have w2b : ∀ M, (W ++ M)[c]? = some (.vars [.i a.types, .sl f' 1 0 (n + 1), .sl v' 3 0 (pre.length + g.length)]) := fun M => get_app w2 M
              have w2c : ∀ M, (W.set v' .dead ++ M)[c]? = some (.vars [.i a.types, .sl f' 1 0 (n + 1), .sl v' 3 0 (pre.length + g.length)]) := fun M => get_app (get_set hvc w2 _) M
              have hvl : ((pre ++ g).map encMv).length = pre.length + g.length := by simp
              have wv1 := (w1.set w3 hfv1 .dead)
              generalize hmm : (pre ++ g).map encMv = mm at *
              refine AStep_appendS tOk rfl rfl T23 rfl T61 rfl (by decide) (by decide) rfl rfl rfl ?_
              simp [get_app w3, set_app w3, w2b, w2c, hvl]
              refine ⟨by simp [appOk, get_app w3, set_app w3, w2b, w2c, hvl] <;> omega, ?_⟩
              repeat first|((first|refine qa tOk rfl ?_|refine qb tOk rfl ?_|refine qc ?_|refine qd ?_|refine qe ?_);simp)|refine AWP_block ?_|refine AWP_seq ?_
              have hz4 : ((W.set v' AObj.dead ++ [AObj.dead, AObj.arr 61 3 [.agg [.i n, .i t, .list (cc.map encL)]], AObj.arr 61 3 (mm ++ [.agg [.i n, .i t, .list (cc.map encL)]])]).set c (AObj.vars [.i a.types, .sl f' 1 0 (n + 1), .sl (W.length + 2) 3 0 (pre.length + g.length + 1)]))[E.length + 3]? = some .dead := by
                rw [List.getElem?_set_ne hcq, List.getElem?_append_left (by simpa using lq), List.getElem?_set_ne hvq]; exact w4
              refine ⟨hz4, rfl, ((wv1.app _).set (w2c _) hfc1 _).set hz4 hfd _, W.length + 2, ?_, ?_, ?_⟩
              · rw [List.getElem?_set_ne (Ne.symm hcq), List.getElem?_set_self (by simp; omega)]
                simp [Nat.add_assoc]
              · rw [List.getElem?_set_ne (by omega), List.getElem?_set_ne (by omega), List.getElem?_append_right (by simp)]
                rw [← hmm]; simp
              · rw [fq, List.getElem?_set_self (get_lt hz4)]
            | some i =>
              have hix : idxM g t = i := by rw [idxM, hfi]
              obtain ⟨hil, hid, -⟩ := List.findIdx?_eq_some_iff_getElem.1 hfi
              have hgi : g[i]? = some g[i] := List.getElem?_eq_getElem hil
              have hadv : addMv n g t cc = g.set i { g[i] with on := eitherP g[i].on cc } := by rw [addMv, hfi]; simp [hgi]
              rw [hix, hadv]
              refine AWP_cond2 rfl (fun h => by simp at h; omega) (fun _ => ?_)
              have hwi : IntKind.i64.wrap ((pre.length : Int) + i) = pre.length + i := wrap_i64 _ (by omega) (by omega)
              have hli : (pre.length : Int) + i < pre.length + g.length := by omega
              have hpi : (0 : Int) ≤ (pre.length : Int) + i := by omega
              have htn : ((pre.length : Int) + i).toNat = pre.length + i := by omega
              repeat first|((first|refine qa tOk rfl ?_|refine qb tOk rfl ?_|refine qc ?_|refine qd ?_|refine qe ?_);simp [w2, w9, hwi, hli, hpi, htn])|refine AWP_block ?_|refine AWP_seq ?_
              have hge : ((pre ++ g).map encMv)[pre.length + i]? = some (.agg [.i g[i].src, .i g[i].dst, .list (g[i].on.map encL)]) := by rw [List.map_append, List.getElem?_append_right (by simp)]; simp [hgi]
              have hgl3 : ((pre ++ g).map encMv).length = pre.length + g.length := by simp
              generalize hmm : (pre ++ g).map encMv = mm at *
              have hr2 : List.range 2 = [0, 1] := rfl
              refine AWP_drawT tOk mixed [12] (.val 0 (.val 1 (.val 2 (.val 3 (.val 4 (.val 5 (.val 6 (.val 7 (.one 8 (.one 9 (.val 10 (.val 11 (.one 12 (.done)))))))))))))) rfl (by kernel_rfl) ?_
              simp [w0, w3, w5, hge, hgl3, hr2]
              refine AStep_freeze1 W.length (e := 59) (c := 1) (xs := [encP g[i].on, encP cc]) (by simp) ?_
              simp
              have hgm := List.getElem_mem hil
              have hu2 := pc_union a.types.toNat [g[i].on, cc] (by have := hok.types; omega) (fun p hp => by
                simp only [List.mem_cons, List.not_mem_nil, or_false] at hp
                rcases hp with rfl | rfl
                · exact hgw2 _ hgm
                · exact hcc.2.2.2.1) (fun j hj => set_two (hgw2 _ hgm) hcc.2.2.2.1 (hgz2 _ hgm) hcc.2.2.2.2 hj) (by simp)
              rw [hTn, uni_two (hgw2 _ hgm) hcc.2.2.2.1] at hu2
              have w3b : ∀ M, (W ++ M)[v']? = some (.arr 61 3 mm) := fun M => get_app w3 M
              refine AStep_PC rfl rfl (by simp) (hu2) rfl ?_
              rintro _ rfl
              simp [w3b, hge, set_app w3]
              repeat first|((first|refine qa tOk rfl ?_|refine qb tOk rfl ?_|refine qc ?_|refine qd ?_|refine qe ?_);simp)|refine AWP_block ?_|refine AWP_seq ?_
              have hz4 : (W.set v' (AObj.arr 61 3 (mm.set (pre.length + i) (.agg [.i g[i].src, .i g[i].dst, .list ((eitherP g[i].on cc).map encL)]))) ++ [AObj.dead])[E.length + 3]? = some .dead := by
                rw [List.getElem?_append_left (by simpa using lq), List.getElem?_set_ne hvq]; exact w4
              refine ⟨hz4, rfl, (((w1.set w3 hfv1 _).app _).set hz4 hfd _), v', ?_, ?_, ?_⟩
              · rw [List.getElem?_set_ne (Ne.symm hcq), List.getElem?_append_left (by simpa using lc), List.getElem?_set_ne hvc]
                rw [w2]
              · rw [List.getElem?_set_ne (Ne.symm hvq), List.getElem?_append_left (by simpa using lv), List.getElem?_set_self lv]
                rw [← hmm, List.map_append, List.set_append_right _ _ (by simp)]
                simp [List.map_set]
              · rw [fq, List.getElem?_set_self (get_lt hz4)]
          · rintro _ H' ⟨v', h1, h2, h3, h4⟩
            exact ⟨h1, v', by simpa using h2, by simpa using h3, _, _, _, _, h4.trans fq⟩
        · rintro res H' ⟨v', h1, h2, h3, ⟨sl', ps', a', b', h6⟩⟩
          refine ⟨true, none, 100, sl', ps', a', b', by simpa using h6, ?_⟩
          simp
          have hqc : E.length + 3 ≠ c := fun e => by rw [e, h2] at h6; simp at h6
          have hqv : E.length + 3 ≠ v' := fun e => by rw [e, h3] at h6; simp at h6
          have y1 := h1.set h6 (by rw [hfx1, hfx0]; simp [mpT_def]) .dead
          have y2 := get_set hqc h2 .dead
          have y3 := get_set hqv h3 .dead
          generalize H'.set (E.length + 3) .dead = Y at *
          repeat first|((first|refine qa tOk rfl ?_|refine qb tOk rfl ?_|refine qc ?_|refine qd ?_|refine qe ?_);simp [hw])|refine AWP_block ?_|refine AWP_seq ?_
          refine ALoop_keep (sl' := [(1, .vptr 0 0), (2, .vptr 1 0), (3, .i 0), (4, .vptr b 0), (6, .vptr c 0), (30, .sl p 1 0 Q.length), (31, .i Q.length), (32, .i (n + 1 : Nat))]) ?_ (by simp)
          refine ih' f' v' Y ⟨by omega, fun x hx => y1 x (by rw [hfx1]; exact List.mem_append_left _ hx), y2, y1 (f', _) (by rw [hfx1]; simp), y3⟩ (by omega)
    · have hge' : n = Q.length := by simp at hge; omega
      subst hge'
      have hmvl : mvTo a cl Q Q.length = (detA a cl Q).mv := mvTo_all a cl Q
      have hfnl : (Q.take Q.length).map (finB a) = (detA a cl Q).fin := by rw [List.take_length]; exact (detA_fin a cl Q).symm
      have hdl : (detA a cl Q).fin.length = Q.length := by rw [detA_fin]; simp
      have hml3 : (detA a cl Q).mv.length ≤ 65536 := by rw [← hmvl]; exact mvTo_len2 a cl Q hQl hcln
      rw [hmvl] at gc gv
      rw [hfnl] at gf
      rw [← hdl] at gc
      have hdt : (detA a cl Q).types = a.types := detA_types a cl Q
      have hli : limA (detA a cl Q) = if bigA (detA a cl Q) then (5, zeroA) else (0, detA a cl Q) := limA_def _
      rw [hli]
      generalize detA a cl Q = d at *
      have g1 : G[1]? = some (.vars [.i 0, .nils, .nils]) := hF (1, _) (by rw [hfx0]; simp)
      have hcv : v ≠ c := fun e => by rw [e, gc] at gv; simp at gv
      have hfv : f ≠ v := fun e => by rw [e, gv] at gf; simp at gf
      have hfc : f ≠ c := fun e => by rw [e, gc] at gf; simp at gf
      have hf1 : f ≠ 1 := fun e => by rw [e, g1] at gf; simp at gf
      have hv1 : v ≠ 1 := fun e => by rw [e, g1] at gv; simp at gv
      have hc1 : c ≠ 1 := fun e => by rw [e, g1] at gc; simp at gc
      refine AWP_keep (sl' := [(2, .vptr 1 0), (3, .i 0), (6, .vptr c 0)]) ?_ (by simp)
      refine AWP_freezeC v gv c gc ?_
      simp [hfv]
      rw [List.take_of_length_le (by simp)]
      have hcl2 := get_lt gc
      have hfl2 := get_lt gf
      refine AWP_abs fun Z hZ => ?_
      have zc : Z[c]? = some (.vars [.i d.types, .sl f 1 0 d.fin.length, .list (d.mv.map encMv)]) := by rw [hZ, hdt]; exact List.getElem?_set_self (by simpa using hcl2)
      have zf : Z[f]? = some (.arr 4 1 (d.fin.map .bool)) := by rw [hZ, List.getElem?_set_ne (Ne.symm hfc), List.getElem?_set_ne (Ne.symm hfv)]; exact gf
      have z1 : Z[1]? = some (.vars [.i 0, .nils, .nils]) := by rw [hZ, List.getElem?_set_ne hc1, List.getElem?_set_ne hv1]; exact g1
      clear hZ
      repeat first|((first|refine qa tOk rfl ?_|refine qb tOk rfl ?_|refine qc ?_|refine qd ?_|refine qe ?_);simp [zc])|refine AWP_block ?_|refine AWP_seq ?_
      refine AStep_FC rfl rfl (fc_dlimited Z f d zf (by omega) (by omega)) rfl ?_
      rintro res Y ⟨hr, hk'⟩
      have hr1 := (hk' 1 (get_lt z1)).trans z1
      have hrf := (hk' f (get_lt zf)).trans zf
      have hr2 : ∀ X, (Y.set 1 X)[1]? = some X := fun X => get_self hr1 X
      rcases hr with ⟨hb, rfl⟩ | ⟨hb, rfl⟩
      · rw [hb]
        simp [hr1]
        repeat first|((first|refine qa tOk rfl ?_|refine qb tOk rfl ?_|refine qc ?_|refine qd ?_|refine qe ?_);simp [hr2])|refine AWP_block ?_|refine AWP_seq ?_
        exact ⟨rfl, rfl, rfl⟩
      · rw [hb]
        simp [hr1]
        refine AWP_keep (sl' := [(2, .vptr 1 0), (3, .i 0)]) ?_ (by simp)
        refine AWP_freezeC f (get_set (Ne.symm hf1) hrf _) 1 (get_self hr1 _) ?_
        simp
        rw [List.take_of_length_le (by simp)]
        refine AWP_abs fun X hX => ?_
        have x1 : X[1]? = some (.vars [.i d.types, .list (d.fin.map .bool), .list (d.mv.map encMv)]) := by
          rw [hX]; exact List.getElem?_set_self (by have := get_lt hr1; simpa using this)
        repeat first|((first|refine qa tOk rfl ?_|refine qb tOk rfl ?_|refine qc ?_|refine qd ?_|refine qe ?_);simp [x1])|refine AWP_block ?_|refine AWP_seq ?_
end Go.Abs
set_option maxRecDepth 100000
namespace Go.Abs
open Go Go.Proofs Go.Maps Go.RowKit
set_option linter.unusedSimpArgs false
theorem det_ok {a : Aut} (h : (detF a).1 = 0) : OkA (detF a).2 := by
  have h0 : (subF a).1 = 0 := by
    by_cases hs : (subF a).1 = 0
    · exact hs
    · rw [detF, if_pos hs] at h; exact absurd h hs
  obtain ⟨hok, cl, Q, hsf, hsr, hcls, hsub, _, _⟩ := sub_facts h0
  have hd : detF a = limA (detA a cl Q) := by rw [detF, hsf]; simp
  rw [hd] at h ⊢
  have hw := wf_det hcls hsub
  have e : limA (detA a cl Q) = (0, (limA (detA a cl Q)).2) := Prod.ext h rfl
  have h2 := lim_ok hw e
  rw [h2.1]
  exact h2.1 ▸ h2.2
def flipU (l : List Bool) (i : Nat) : List Bool := l.mapIdx fun k b => if k < i then !b else b
theorem flipU_zero (l : List Bool) : flipU l 0 = l := by
  refine List.ext_getElem (by simp [flipU]) fun k h1 h2 => by simp [flipU]
theorem flipU_all (l : List Bool) : flipU l l.length = l.map (!·) := by
  refine List.ext_getElem (by simp [flipU]) fun k h1 h2 => ?_
  have : k < l.length := by simpa [flipU] using h1
  simp [flipU, this]
theorem flipU_len (l : List Bool) (i : Nat) : (flipU l i).length = l.length := by simp [flipU]
theorem flipU_get {l : List Bool} {i : Nat} (h : i < l.length) : ((flipU l i).map AV.bool)[i]? = some (.bool l[i]) := by
  simp [flipU, h]
theorem flipU_set {l : List Bool} {i : Nat} (h : i < l.length) : ((flipU l i).map AV.bool).set i (.bool (!l[i])) = (flipU l (i + 1)).map AV.bool := by
  refine List.ext_getElem (by simp [flipU]) fun k h1 h2 => ?_
  have hk : k < l.length := by simpa [flipU] using h2
  rw [List.getElem_set]
  by_cases e : i = k
  · subst e; simp [flipU]
  · rw [if_neg e]
    simp only [flipU, List.getElem_map, List.getElem_mapIdx]
    by_cases h3 : k < i
    · rw [if_pos h3, if_pos (by omega)]
    · rw [if_neg h3, if_neg (by omega)]
attribute [local irreducible] detF cplP flipU
set_option maxHeartbeats 4000000 in
theorem pc_Complement (a : Aut) : PC Tryz.prog 17 [encA a] (fun r => r = .tup [encA (cmpF a).2, .i (cmpF a).1]) := by
  refine PC_body tOk Tryz.func17 rfl Tryz.results17 rfl (by simp [Tryz.ntmps17]) ?_
  rw [Tryz.ntmps17]
  simp only [argSlots]
  simp only [encA]
  repeat first|((first|refine qa tOk rfl ?_|refine qb tOk rfl ?_|refine qc ?_|refine qd ?_|refine qe ?_);simp)|refine AWP_block ?_|refine AWP_seq ?_
  refine AStep_PC rfl rfl (by simp) (pc_Determinize a) rfl ?_
  rintro _ rfl
  simp
  repeat first|((first|refine qa tOk rfl ?_|refine qb tOk rfl ?_|refine qc ?_|refine qd ?_|refine qe ?_);simp)|refine AWP_block ?_|refine AWP_seq ?_
  refine AWP_cond2 rfl (fun h => ?_) (fun h => ?_)
  · have h' : (detF a).1 ≠ 0 := by simpa using h
    have hc : cmpF a = ((detF a).1, zeroA) := by rw [cmpF, if_pos h']
    rw [hc]
    repeat first|((first|refine qa tOk rfl ?_|refine qb tOk rfl ?_|refine qc ?_|refine qd ?_|refine qe ?_);simp)|refine AWP_block ?_|refine AWP_seq ?_
    exact ⟨rfl, rfl, rfl⟩
  have h' : (detF a).1 = 0 := by simpa using h
  have hdok := det_ok h'
  have hcm : cmpF a = if (cplP (detF a).2).1 ≠ 0 then ((cplP (detF a).2).1, zeroA) else (0, flipA (cplP (detF a).2).2) := by rw [cmpF, if_neg (fun k => k h')]
  rw [hcm]
  generalize (detF a).2 = d at *
  repeat first|((first|refine qa tOk rfl ?_|refine qb tOk rfl ?_|refine qc ?_|refine qd ?_|refine qe ?_);simp)|refine AWP_block ?_|refine AWP_seq ?_
  refine AStep_FC rfl rfl (fc_completed _ d hdok) rfl ?_
  rintro r H' ⟨hr, hk⟩
  have hk1 := hk 1 (by simp)
  simp at hk1
  rcases hr with ⟨e, he, hne, rfl⟩ | ⟨bb, f, he, rfl, hf, hfl⟩
  · rw [he]
    simp
    repeat first|((first|refine qa tOk rfl ?_|refine qb tOk rfl ?_|refine qc ?_|refine qd ?_|refine qe ?_);simp)|refine AWP_block ?_|refine AWP_seq ?_
    refine AWP_cond2 rfl (fun _ => ?_) (fun h => by simp at h; exact absurd h hne)
    have k2 : ∀ L Y, ((H' ++ L).set 1 Y)[1]? = some Y := fun L Y => get_self (get_app hk1 L) Y
    repeat first|((first|refine qa tOk rfl ?_|refine qb tOk rfl ?_|refine qc ?_|refine qd ?_|refine qe ?_);simp [get_app hk1, k2])|refine AWP_block ?_|refine AWP_seq ?_
    rw [if_neg hne]
    exact ⟨⟨rfl, rfl, rfl⟩, rfl⟩
  · rw [he]
    have hfb : bb.fin.length ≤ 256 := by
      have := (cpl_spec hdok he).1.fin; omega
    simp
    repeat first|((first|refine qa tOk rfl ?_|refine qb tOk rfl ?_|refine qc ?_|refine qd ?_|refine qe ?_);simp)|refine AWP_block ?_|refine AWP_seq ?_
    refine AWP_cond rfl ?_
    simp
    repeat first|((first|refine qa tOk rfl ?_|refine qb tOk rfl ?_|refine qc ?_|refine qd ?_|refine qe ?_);simp)|refine AWP_block ?_|refine AWP_seq ?_
    have hf1 : f ≠ 1 := by simp at hfl; omega
    have hfL := get_lt hf
    refine AWP_keep (sl' := [(2, .vptr 1 0), (3, .i 0), (6, .vptr H'.length 0), (28, .i bb.fin.length), (29, .i (0 : Nat))]) ?_ (by simp)
    have q6 : (H' ++ [AObj.vars [.i bb.types, .sl f 1 0 bb.fin.length, .list (bb.mv.map encMv)]])[H'.length]? = some (.vars [.i bb.types, .sl f 1 0 bb.fin.length, .list (bb.mv.map encMv)]) := by simp
    have qf := get_app hf [AObj.vars [.i bb.types, .sl f 1 0 bb.fin.length, .list (bb.mv.map encMv)]]
    have q1 := get_app hk1 [AObj.vars [.i bb.types, .sl f 1 0 bb.fin.length, .list (bb.mv.map encMv)]]
    generalize H' ++ [AObj.vars [.i bb.types, .sl f 1 0 bb.fin.length, .list (bb.mv.map encMv)]] = G at *
    have hf6 : f ≠ H'.length := by omega
    have h61 : H'.length ≠ 1 := by have := get_lt hk1; omega
    generalize H'.length = c at *
    refine AWP_loop (ALoop_keep (sl' := [(2, .vptr 1 0), (3, .i 0), (6, .vptr c 0), (28, .i bb.fin.length), (29, .i (0 : Nat))]) ?_ (by simp))
    refine ALoop_wf (F := fun (u : Nat × List AObj) => ⟨[(2, .vptr 1 0), (3, .i 0), (6, .vptr c 0), (28, .i bb.fin.length), (29, .i u.1)], u.2⟩)
      (fun u => u.1 ≤ bb.fin.length ∧ u.2[c]? = some (.vars [.i bb.types, .sl f 1 0 bb.fin.length, .list (bb.mv.map encMv)]) ∧ u.2[f]? = some (.arr 4 1 ((flipU bb.fin u.1).map .bool)) ∧ u.2[1]? = some (.vars [.i 0, .nils, .nils])) (fun u => bb.fin.length - u.1) ?_ (0, G) ⟨by simp, q6, by rw [flipU_zero]; exact qf, q1⟩
    clear q6 qf q1
    clear G
    rintro ⟨i, G⟩ ⟨hi, gc, gf, g1⟩ ih
    simp only at hi gc gf g1 ih ⊢
    repeat first|((first|refine qa tOk rfl ?_|refine qb tOk rfl ?_|refine qc ?_|refine qd ?_|refine qe ?_);simp)|refine AWP_block ?_|refine AWP_seq ?_
    refine AWP_cond2 rfl (fun hlt => ?_) (fun hge => ?_)
    · have hlt' : i < bb.fin.length := by simpa using hlt
      have hw : IntKind.i64.wrap ((i : Int) + 1) = i + 1 := wrap_i64 _ (by omega) (by omega)
      have hgt := flipU_get hlt'
      have hst := flipU_set hlt'
      have hll : ((flipU bb.fin i).map AV.bool).length = bb.fin.length := by rw [List.length_map, flipU_len]
      have ih' := fun G' => ih (i + 1, G')
      simp only [← hst] at ih'
      clear hst
      generalize (flipU bb.fin i).map AV.bool = xs at *
      have hgt' : ∀ hh, xs[i]'hh = .bool bb.fin[i] := fun hh => by rw [List.getElem?_eq_getElem hh] at hgt; exact Option.some.inj hgt
      repeat first|((first|refine qa tOk rfl ?_|refine qb tOk rfl ?_|refine qc ?_|refine qd ?_|refine qe ?_);simp)|refine AWP_block ?_|refine AWP_seq ?_
      refine AWP_drawT tOk mixed [10] (.val 0 (.val 1 (.val 2 (.val 3 (.val 4 (.val 5 (.val 6 (.val 7 (.val 8 (.val 9 (.one 10 (.done)))))))))))) rfl (by kernel_rfl) ?_
      simp [gc, gf, hgt, hgt', hll, hlt']
      repeat first|((first|refine qa tOk rfl ?_|refine qb tOk rfl ?_|refine qc ?_|refine qd ?_|refine qe ?_);simp [hw])|refine AWP_block ?_|refine AWP_seq ?_
      refine ALoop_keep (sl' := [(2, .vptr 1 0), (3, .i 0), (6, .vptr c 0), (28, .i bb.fin.length), (29, .i (i + 1 : Nat))]) ?_ (by simp)
      exact ih' _ ⟨by omega, get_set hf6 gc _, get_self gf _, get_set hf1 g1 _⟩ (by omega)
    · have hge' : i = bb.fin.length := by simp at hge; omega
      subst hge'
      rw [flipU_all] at gf
      refine AWP_freezeC f gf c gc ?_
      simp
      rw [List.take_of_length_le (by simp)]
      refine AWP_abs fun Z hZ => ?_
      have zc : Z[c]? = some (.vars [.i bb.types, .list ((bb.fin.map (!·)).map .bool), .list (bb.mv.map encMv)]) := by rw [hZ, List.getElem?_set_self (by have := get_lt gc; simpa using this)]; simp
      have z1 : Z[1]? = some (.vars [.i 0, .nils, .nils]) := by rw [hZ, List.getElem?_set_ne h61, List.getElem?_set_ne hf1]; exact g1
      clear hZ
      have z2 : ∀ X, (Z.set 1 X)[1]? = some X := fun X => get_self z1 X
      repeat first|((first|refine qa tOk rfl ?_|refine qb tOk rfl ?_|refine qc ?_|refine qd ?_|refine qe ?_);simp [zc, z1, z2])|refine AWP_block ?_|refine AWP_seq ?_
      refine ⟨rfl, ?_, rfl⟩
      simp [flipA]
end Go.Abs
set_option maxRecDepth 100000
namespace Go.Abs
open Go Go.Proofs Go.Maps Go.RowKit
set_option linter.unusedSimpArgs false
set_option maxHeartbeats 4000000 in
theorem pc_rSame (a : Aut) : PC Tryz.prog 19 [encA a, encA a] (fun r => r = .bool true) := by
  refine PC_body tOk Tryz.func19 rfl Tryz.results19 rfl (by simp [Tryz.ntmps19]) ?_
  rw [Tryz.ntmps19]
  simp only [argSlots]
  simp only [encA]
  refine AWP_lenAgg 0 1 rfl rfl (fun hlen => ?_)
  rw [List.length_map] at hlen
  refine AWP_lenAgg 0 2 rfl rfl (fun hlen2 => ?_)
  rw [List.length_map] at hlen2
  repeat first|((first|refine qa tOk rfl ?_|refine qb tOk rfl ?_|refine qc ?_|refine qd ?_|refine qe ?_);simp)|refine AWP_block ?_|refine AWP_seq ?_
  refine AWP_cond2 rfl (fun h => by simp at h) (fun _ => ?_)
  repeat first|((first|refine qa tOk rfl ?_|refine qb tOk rfl ?_|refine qc ?_|refine qd ?_|refine qe ?_);simp)|refine AWP_block ?_|refine AWP_seq ?_
  refine AWP_countI a.fin.length (fun _ => True) (fun j => [(2, .vptr 0 0), (3, .vptr 1 0), (5, .i j)]) (fun _ => [.vars (cellsA a), .vars (cellsA a)]) rfl (by simp) (by simp) (by simp) (by simp) trivial ?_
  intro j hj _ ih
  repeat first|((first|refine qa tOk rfl ?_|refine qb tOk rfl ?_|refine qc ?_|refine qd ?_|refine qe ?_);simp)|refine AWP_block ?_|refine AWP_seq ?_
  refine AWP_cond2 rfl (fun hlt => ?_) (fun hge => ?_)
  · have hlt' : j < a.fin.length := by simpa using hlt
    have hw : IntKind.i64.wrap ((j : Int) + 1) = j + 1 := wrap_i64 _ (by omega) (by omega)
    repeat first|((first|refine qa tOk rfl ?_|refine qb tOk rfl ?_|refine qc ?_|refine qd ?_|refine qe ?_);simp)|refine AWP_block ?_|refine AWP_seq ?_
    refine AWP_drawT tOk mixed [] (.val 0 (.val 1 (.val 2 (.val 3 (.val 4 (.val 5 (.val 6 (.val 7 (.val 8 (.val 9 (.val 10 (.done)))))))))))) rfl (by kernel_rfl) ?_
    simp [hlt']
    refine AWP_cond2 rfl (fun h => by simp at h) (fun _ => ?_)
    repeat first|((first|refine qa tOk rfl ?_|refine qb tOk rfl ?_|refine qc ?_|refine qd ?_|refine qe ?_);simp [hw])|refine AWP_block ?_|refine AWP_seq ?_
    refine ALoop_end _ (ih hlt' trivial) rfl (by simp) ?_ (by simp) (by simp)
    simp
  repeat first|((first|refine qa tOk rfl ?_|refine qb tOk rfl ?_|refine qc ?_|refine qd ?_|refine qe ?_);simp)|refine AWP_block ?_|refine AWP_seq ?_
  refine AWP_countI a.mv.length (fun _ => True) (fun j => [(2, .vptr 0 0), (3, .vptr 1 0), (6, .i j)]) (fun _ => [.vars (cellsA a), .vars (cellsA a)]) rfl (by simp) (by simp) (by simp) (by simp) trivial ?_
  intro j2 hj2 _ ih2
  repeat first|((first|refine qa tOk rfl ?_|refine qb tOk rfl ?_|refine qc ?_|refine qd ?_|refine qe ?_);simp)|refine AWP_block ?_|refine AWP_seq ?_
  refine AWP_cond2 rfl (fun hlt => ?_) (fun hge => ?_)
  · have hlt' : j2 < a.mv.length := by simpa using hlt
    have hw : IntKind.i64.wrap ((j2 : Int) + 1) = j2 + 1 := wrap_i64 _ (by omega) (by omega)
    repeat first|((first|refine qa tOk rfl ?_|refine qb tOk rfl ?_|refine qc ?_|refine qd ?_|refine qe ?_);simp)|refine AWP_block ?_|refine AWP_seq ?_
    obtain ⟨m, hm⟩ : ∃ m, a.mv[j2] = m := ⟨_, rfl⟩
    refine AWP_drawC tOk mixed [12, 13] (.val 0 (.val 1 (.val 2 (.val 3 (.val 4 (.val 5 (.val 7 (.three 6 (.val 8 (.three 9 (.two 10 (.one 11 (.one 12 (.one 13 (.done)))) 11 (.one 10 (.one 12 (.one 13 (.done))))) 10 (.two 9 (.one 11 (.one 12 (.one 13 (.done)))) 11 (.two 9 (.one 12 (.one 13 (.done))) 12 (.val 9 (.one 13 (.done))))) 11 (.two 9 (.one 10 (.one 12 (.one 13 (.done)))) 10 (.two 9 (.one 12 (.one 13 (.done))) 12 (.val 9 (.one 13 (.done))))))) 10 (.two 6 (.val 8 (.two 9 (.one 11 (.one 12 (.one 13 (.done)))) 11 (.two 9 (.one 12 (.one 13 (.done))) 12 (.val 9 (.one 13 (.done)))))) 11 (.two 6 (.val 8 (.two 9 (.one 12 (.one 13 (.done))) 12 (.val 9 (.one 13 (.done))))) 12 (.val 6 (.val 8 (.val 9 (.one 13 (.done))))))) 11 (.two 6 (.val 8 (.two 9 (.one 10 (.one 12 (.one 13 (.done)))) 10 (.two 9 (.one 12 (.one 13 (.done))) 12 (.val 9 (.one 13 (.done)))))) 10 (.two 6 (.val 8 (.two 9 (.one 12 (.one 13 (.done))) 12 (.val 9 (.one 13 (.done))))) 12 (.val 6 (.val 8 (.val 9 (.one 13 (.done))))))))))))))) (⟨[(2, .vptr 0 0), (3, .vptr 1 0), (6, .i j2), (7, .vptr 2 0), (8, .vptr 3 0)], [.vars (cellsA a), .vars (cellsA a), .vars [.i m.src, .i m.dst, .list (m.on.map encL)], .vars [.i m.src, .i m.dst, .list (m.on.map encL)]]⟩) rfl (by kernel_rfl) ?_ ?_
    simp [hlt', hm]
    · repeat' apply And.intro
      all_goals first | (refine RenTo_keep ?_; simp; done) | exact RenTo_ren [0, 1, 3, 2] (by simp) (by decide) (by simp) rfl (by simp) (by simp) (by simp)
    repeat first|((first|refine qa tOk rfl ?_|refine qb tOk rfl ?_|refine qc ?_|refine qd ?_|refine qe ?_);simp)|refine AWP_block ?_|refine AWP_seq ?_
    refine AStep_PC rfl rfl (by simp) (pc_rpSame m.on m.on) rfl ?_
    rintro _ rfl
    simp
    repeat first|((first|refine qa tOk rfl ?_|refine qb tOk rfl ?_|refine qc ?_|refine qd ?_|refine qe ?_);simp)|refine AWP_block ?_|refine AWP_seq ?_
    refine AWP_cond2 rfl (fun h => by simp at h) (fun _ => ?_)
    repeat first|((first|refine qa tOk rfl ?_|refine qb tOk rfl ?_|refine qc ?_|refine qd ?_|refine qe ?_);simp [hw])|refine AWP_block ?_|refine AWP_seq ?_
    refine ALoop_end _ (ih2 hlt' trivial) rfl (by simp) ?_ (by simp) (by simp)
    simp
  repeat first|((first|refine qa tOk rfl ?_|refine qb tOk rfl ?_|refine qc ?_|refine qd ?_|refine qe ?_);simp)|refine AWP_block ?_|refine AWP_seq ?_
def fromP (lo hi : Int) : Prd := [[⟨lo, hi⟩]]
theorem pc_lfrom (lo hi : Int) : PC Tryz.prog 71 [.i lo, .i hi] (fun r => r = encP (fromP lo hi)) := by
  refine PC_body tOk Tryz.func71 rfl Tryz.results71 rfl (by simp [Tryz.ntmps71]) ?_
  rw [Tryz.ntmps71]
  simp only [argSlots]
  refine AWP_seq (AWP_regS tOk rfl ?_)
  simp
  refine AWP_seq (AWP_regS tOk rfl ?_)
  simp
  refine AWP_freezeO 1 (e := 127) (c := 2) (xs := [encIv ⟨lo, hi⟩]) rfl 2 (o0 := .va 110 1 [.sl 1 2 0 1]) rfl (by decide) rfl ?_
  simp [AObj.fz, AV.fz]
  refine AWP_toArr 2 rfl (by simp [AV.cells, AV.pure]) ?_
  simp
  refine AWP_freezeC 2 (e := 110) (c := 1) (xs := [encL [⟨lo, hi⟩]]) rfl 0 rfl ?_
  simp
  repeat first|((first|refine qa tOk rfl ?_|refine qb tOk rfl ?_|refine qc ?_|refine qd ?_|refine qe ?_);simp)|refine AWP_block ?_|refine AWP_seq ?_
  rfl
def exA : Aut := ⟨1, [false, false, true], [⟨0, 0, fromP (-1099511627776) 1099511627776⟩, ⟨0, 1, fromP 5 1099511627776⟩, ⟨1, 2, fromP (-1099511627776) 7⟩]⟩
theorem pc_lexample : PC Tryz.prog 30 [] (fun r => r = encA exA) := by
  refine PC_body tOk Tryz.func30 rfl Tryz.results30 rfl (by simp [Tryz.ntmps30]) ?_
  rw [Tryz.ntmps30]
  simp only [argSlots]
  have hr3 : List.range 3 = [0, 1, 2] := rfl
  repeat first|((first|refine qa tOk rfl ?_|refine qb tOk rfl ?_|refine qc ?_|refine qd ?_|refine qe ?_);simp [hr3])|refine AWP_block ?_|refine AWP_seq ?_
  refine AStep_PC rfl rfl (by simp) (pc_lfrom (-1099511627776) 1099511627776) rfl ?_
  rintro _ rfl
  simp [hr3]
  refine AStep_PC rfl rfl (by simp) (pc_lfrom 5 1099511627776) rfl ?_
  rintro _ rfl
  simp [hr3]
  refine AStep_PC rfl rfl (by simp) (pc_lfrom (-1099511627776) 7) rfl ?_
  rintro _ rfl
  simp [hr3]
  repeat first|((first|refine qa tOk rfl ?_|refine qb tOk rfl ?_|refine qc ?_|refine qd ?_|refine qe ?_);simp)|refine AWP_block ?_|refine AWP_seq ?_
  exact ⟨rfl, rfl, rfl⟩
def wordS (l : List Int) : List Sy := l.map fun n => ⟨0, n⟩
set_option maxHeartbeats 2000000 in
theorem pc_lword (l : List Int) (hl : l.length ≤ 100) : PC Tryz.prog 31 [LI l] (fun r => r = LSy (wordS l)) := by
  refine PC_body tOk Tryz.func31 rfl Tryz.results31 rfl (by simp [Tryz.ntmps31]) ?_
  rw [Tryz.ntmps31]
  simp only [argSlots]
  repeat first|((first|refine qa tOk rfl ?_|refine qb tOk rfl ?_|refine qc ?_|refine qd ?_|refine qe ?_);simp)|refine AWP_block ?_|refine AWP_seq ?_
  refine AWP_nilSlot 3 46 2 rfl ?_
  simp
  have hst := SL.start [] 46 2
  refine AWP_loop (ALoop_keep (sl' := [(3, .sl 0 2 0 (0 : Nat)), (6, LI l), (7, .i l.length), (8, .i (0 : Nat))]) ?_ (by simp))
  refine ALoop_wf (F := fun (u : Nat × Nat × List AObj) => ⟨[(3, .sl u.2.1 2 0 u.1), (6, LI l), (7, .i l.length), (8, .i u.1)], u.2.2⟩)
    (fun u => u.1 ≤ l.length ∧ SL [] u.2.2 u.2.1 46 2 ((wordS (l.take u.1)).map encSy)) (fun u => l.length - u.1) ?_ (0, 0, [.arr 46 2 []]) ⟨by simp, by simpa [wordS] using hst⟩
  rintro ⟨j, q, G⟩ ⟨hj, s1⟩ ih
  simp only at hj s1 ih ⊢
  repeat first|((first|refine qa tOk rfl ?_|refine qb tOk rfl ?_|refine qc ?_|refine qd ?_|refine qe ?_);simp)|refine AWP_block ?_|refine AWP_seq ?_
  refine AWP_cond2 rfl (fun hlt => ?_) (fun hge => ?_)
  · have hlt' : j < l.length := by simpa using hlt
    have hw : IntKind.i64.wrap ((j : Int) + 1) = j + 1 := wrap_i64 _ (by omega) (by omega)
    have hnx : wordS (l.take (j + 1)) = wordS (l.take j) ++ [(⟨0, l[j]⟩ : Sy)] := by rw [List.take_succ_eq_append_getElem hlt', wordS, List.map_append]; rfl
    have hal : (wordS (l.take j)).length = j := by simp [wordS]; omega
    have ih' := fun q' G' => ih (j + 1, q', G')
    simp only [hnx] at ih'
    clear hnx
    generalize wordS (l.take j) = acc at *
    repeat first|((first|refine qa tOk rfl ?_|refine qb tOk rfl ?_|refine qc ?_|refine qd ?_|refine qe ?_);simp [hlt'])|refine AWP_block ?_|refine AWP_seq ?_
    refine AStep_appendS tOk rfl rfl T40 rfl T46 rfl (by decide) (by decide) rfl rfl rfl ?_
    simp [get_app s1.arr, set_app s1.arr, hal]
    refine ⟨by simp [appOk, get_app s1.arr, set_app s1.arr, hal] <;> omega, ?_⟩
    repeat first|((first|refine qa tOk rfl ?_|refine qb tOk rfl ?_|refine qc ?_|refine qd ?_|refine qe ?_);simp [hw])|refine AWP_block ?_|refine AWP_seq ?_
    refine ALoop_keep (sl' := [(3, .sl (G.length + 1) 2 0 (j + 1)), (6, LI l), (7, .i l.length), (8, .i (j + 1 : Nat))]) ?_ (by simp)
    have := ih' (G.length + 1) _ ⟨by omega, s1.put [AObj.arr 46 2 [encSy (⟨0, l[j]⟩ : Sy)]] ((acc ++ [(⟨0, l[j]⟩ : Sy)]).map encSy) rfl⟩ (by omega)
    simpa using this
  · have hge' : j = l.length := by simp at hge; omega
    subst hge'
    rw [List.take_length] at s1
    have hwl : (wordS l).length = l.length := by simp [wordS]
    refine AWP_freeze1 q s1.arr ?_
    simp [hwl]
    rw [List.take_of_length_le (by simp [hwl])]
    repeat first|((first|refine qa tOk rfl ?_|refine qb tOk rfl ?_|refine qc ?_|refine qd ?_|refine qe ?_);simp)|refine AWP_block ?_|refine AWP_seq ?_
def validB (a : Aut) (w : List Sy) : Bool := fewA a && decide (w.length ≤ 12) && (accF a w).2 == 0
theorem pc_lvalid (a : Aut) (w : List Sy) : PC Tryz.prog 22 [encA a, LSy w] (fun r => r = .bool (validB a w)) := by
  refine PC_body tOk Tryz.func22 rfl Tryz.results22 rfl (by simp [Tryz.ntmps22]) ?_
  rw [Tryz.ntmps22]
  simp only [argSlots]
  simp only [encA]
  repeat first|((first|refine qa tOk rfl ?_|refine qb tOk rfl ?_|refine qc ?_|refine qd ?_|refine qe ?_);simp)|refine AWP_block ?_|refine AWP_seq ?_
  refine AStep_PC rfl rfl (by simp) (pc_rAccepts a w) rfl ?_
  rintro _ rfl
  simp
  repeat first|((first|refine qa tOk rfl ?_|refine qb tOk rfl ?_|refine qc ?_|refine qd ?_|refine qe ?_);simp)|refine AWP_block ?_|refine AWP_seq ?_
  refine AStep_PC rfl rfl (by simp) (pc_rFew a) rfl ?_
  rintro _ rfl
  simp
  repeat first|((first|refine qa tOk rfl ?_|refine qb tOk rfl ?_|refine qc ?_|refine qd ?_|refine qe ?_);simp)|refine AWP_block ?_|refine AWP_seq ?_
  have : decide ((w.length : Int) ≤ 12) = decide (w.length ≤ 12) := by rw [decide_eq_decide]; omega
  rw [this]; rfl
end Go.Abs
set_option maxRecDepth 100000
namespace Go.Abs
open Go Go.Proofs
theorem ex_mint : (mintR exA.types (onA exA)).1 = 0 ∧ (mintR exA.types (onA exA)).2 = [[[⟨-1099511627776, 4⟩]], [[⟨5, 7⟩]], [[⟨8, 1099511627776⟩]]] := by decide +kernel
theorem ex_cl : mintF exA.types (onA exA) = (0, [[[⟨-1099511627776, 4⟩]], [[⟨5, 7⟩]], [[⟨8, 1099511627776⟩]]]) := by
  rw [← mint_eq]; exact Prod.ext ex_mint.1 ex_mint.2
def exC : List Prd := [[[⟨-1099511627776, 4⟩]], [[⟨5, 7⟩]], [[⟨8, 1099511627776⟩]]]
def exQ : List (List Int) := [[0], [0, 1], [0, 2], [0, 1, 2]]
theorem ex_q : exQ = [[0], [0, 1], [0, 2], [0, 1, 2]] := rfl
theorem ex_subs : subsR exA exC = some exQ := by decide +kernel
theorem ex_ck : ckAut exA = 0 := by decide +kernel
theorem ex_sub : subF exA = (0, exC, exQ) := by
  rw [subF, if_neg (fun k => k ex_ck), ex_cl]
  rw [if_neg (by simp)]
  split
  · rename_i h
    have h2 : subsR exA exC = none := h
    rw [ex_subs] at h2; cases h2
  · rename_i Q h
    have h2 : subsR exA exC = some Q := h
    rw [ex_subs] at h2
    rw [← Option.some.inj h2]; rfl
def exD : Aut := detA exA exC exQ
theorem ex_big : bigA exD = false := by decide +kernel
theorem ex_det : detF exA = (0, exD) := by
  rw [detF, ex_sub, if_neg (by simp)]
  show limA exD = _
  rw [limA_def, ex_big]; rfl
theorem ex_dlen : exD.mv.length = 10 ∧ exD.fin.length = 4 := by decide +kernel
theorem ex_dck : OkA exD := by
  have := det_ok (a := exA) (by rw [ex_det])
  rw [ex_det] at this
  exact this
theorem ex_full : newMv exD (lackP exD) = [] := List.isEmpty_iff.1 (by decide +kernel)
theorem ex_cpl : cplP exD = (0, exD) := by rw [cplP, ex_full]; rfl
theorem ex_com : comF exD = (0, exD) := by rw [comF, if_neg (fun k => k ((ck_ok _).2 ex_dck)), ex_cpl]
theorem ex_cmp : cmpF exA = (0, flipA exD) := by
  rw [cmpF, ex_det, if_neg (by simp)]
  simp only [ex_cpl]
  rw [if_neg (by simp)]
theorem ex_flen : (flipA exD).fin.length = 4 := by decide +kernel
theorem ex_w0 : accF (flipA exD) [] = (true, 0) := by decide +kernel
theorem ex_w1 : accF (flipA exD) (wordS [9, 9]) = (true, 0) := by decide +kernel
theorem ex_w2 : accF (flipA exD) (wordS [9, 3]) = (false, 0) := by decide +kernel
theorem ex_dd : dckF exD = (true, 0) := by decide +kernel
theorem ex_de : dckF exA = (false, 0) := by decide +kernel
end Go.Abs
set_option maxRecDepth 100000
namespace Go.Abs
open Go Go.Proofs Go.Maps Go.RowKit
set_option linter.unusedSimpArgs false
attribute [simp] T63 T65
attribute [local irreducible] exA exD detF subF cmpF comF cplP accF dckF wordS flipA exQ
set_option maxHeartbeats 8000000 in
theorem pc_lawake : PC Tryz.prog 11 [] (fun r => r = .bool true) := by
  refine PC_body tOk Tryz.func11 rfl Tryz.results11 rfl (by simp [Tryz.ntmps11]) ?_
  rw [Tryz.ntmps11]
  simp only [argSlots]
  have hr3 : List.range 3 = [0, 1, 2] := rfl
  have hr2 : List.range 2 = [0, 1] := rfl
  have hr4 : List.range 4 = [0, 1, 2, 3] := rfl
  repeat first|((first|refine qa tOk rfl ?_|refine qb tOk rfl ?_|refine qc ?_|refine qd ?_|refine qe ?_);simp)|refine AWP_block ?_|refine AWP_seq ?_
  refine AStep_PC rfl rfl (by simp) (pc_lexample) rfl ?_
  rintro _ rfl
  simp
  refine AStep_PC rfl rfl (by simp) (pc_Subsets exA) rfl ?_
  rintro _ rfl
  simp [ex_sub]
  repeat first|((first|refine qa tOk rfl ?_|refine qb tOk rfl ?_|refine qc ?_|refine qd ?_|refine qe ?_);simp)|refine AWP_block ?_|refine AWP_seq ?_
  refine AStep_PC rfl rfl (by simp) (pc_lexample) rfl ?_
  rintro _ rfl
  simp
  refine AStep_PC rfl rfl (by simp) (pc_Determinize exA) rfl ?_
  rintro _ rfl
  simp [ex_det]
  repeat first|((first|refine qa tOk rfl ?_|refine qb tOk rfl ?_|refine qc ?_|refine qd ?_|refine qe ?_);simp)|refine AWP_block ?_|refine AWP_seq ?_
  refine AStep_PC rfl rfl (by simp) (pc_lexample) rfl ?_
  rintro _ rfl
  simp
  refine AStep_PC rfl rfl (by simp) (pc_Complement exA) rfl ?_
  rintro _ rfl
  simp [ex_cmp]
  have hw0 : IntKind.i64.wrap 0 = 0 := by decide
  repeat first|((first|refine qa tOk rfl ?_|refine qb tOk rfl ?_|refine qc ?_|refine qd ?_|refine qe ?_);simp [hw0, hr2, hr3, hr4])|refine AWP_block ?_|refine AWP_seq ?_
  refine AStep_freezeO 2 (e := 3) (c := 1) (xs := [.i 0]) rfl 6 (o0 := .va 47 1 [.sl 2 1 0 1, .sl 3 1 0 2, .sl 4 1 0 2, .sl 5 1 0 3]) rfl (by decide) rfl ?_
  simp [AObj.fz, AV.fz]
  refine AStep_freezeO 3 (e := 3) (c := 1) (xs := [.i 0, .i 1]) rfl 6 rfl (by decide) rfl ?_
  simp [AObj.fz, AV.fz]
  refine AStep_freezeO 4 (e := 3) (c := 1) (xs := [.i 0, .i 2]) rfl 6 rfl (by decide) rfl ?_
  simp [AObj.fz, AV.fz]
  refine AStep_freezeO 5 (e := 3) (c := 1) (xs := [.i 0, .i 1, .i 2]) rfl 6 rfl (by decide) rfl ?_
  simp [AObj.fz, AV.fz]
  refine AStep_toArr 6 rfl (by simp [AV.cells, AV.pure]) ?_
  simp
  refine AStep_freeze1 6 rfl ?_
  simp
  refine AStep_PC rfl rfl (by simp) (pc_rsameSets exQ [[0], [0, 1], [0, 2], [0, 1, 2]]) rfl ?_
  rintro _ rfl
  simp [ex_q, ex_dlen.1, ex_dlen.2, ex_flen]
  refine AWP_cond2 rfl (fun h => by simp at h) (fun _ => ?_)
  refine AWP_keep (sl' := [(0, .bool false), (3, .vptr 0 0), (5, .vptr 1 0)]) ?_ (by simp)
  repeat first|((first|refine qa tOk rfl ?_|refine qb tOk rfl ?_|refine qc ?_|refine qd ?_|refine qe ?_);simp [hr2, hr3])|refine AWP_block ?_|refine AWP_seq ?_
  refine AStep_freeze1 7 rfl ?_
  simp
  refine AStep_PC rfl rfl (by simp) (pc_lword [9, 9] (by simp)) rfl ?_
  rintro _ rfl
  simp [hr2]
  refine AStep_freeze1 8 rfl ?_
  simp
  refine AStep_PC rfl rfl (by simp) (pc_lword [9, 3] (by simp)) rfl ?_
  rintro _ rfl
  simp [hr3]
  repeat first|((first|refine qa tOk rfl ?_|refine qb tOk rfl ?_|refine qc ?_|refine qd ?_|refine qe ?_);simp)|refine AWP_block ?_|refine AWP_seq ?_
  refine AWP_freeze1 9 rfl ?_
  simp
  refine AWP_countI 3 (fun _ => True) (fun j => [(0, .bool false), (3, .vptr 0 0), (5, .vptr 1 0), (70, .list [.agg [.nils, .bool true], .agg [LSy (wordS [9, 9]), .bool true], .agg [LSy (wordS [9, 3]), .bool false]]), (71, .i 3), (72, .i j)]) (fun _ => [.vars (cellsA exD), .vars (cellsA (flipA exD)), .dead, .dead, .dead, .dead, .dead, .dead, .dead, .dead]) rfl (by simp) (by simp) (by simp) (by simp) trivial ?_
  intro j hj _ ih
  repeat first|((first|refine qa tOk rfl ?_|refine qb tOk rfl ?_|refine qc ?_|refine qd ?_|refine qe ?_);simp)|refine AWP_block ?_|refine AWP_seq ?_
  refine AWP_cond2 rfl (fun hlt => ?_) (fun hge => ?_)
  · have hlt' : j < 3 := by simp at hlt; omega
    have hw : IntKind.i64.wrap ((j : Int) + 1) = j + 1 := wrap_i64 _ (by omega) (by omega)
    have hj3 : j = 0 ∨ j = 1 ∨ j = 2 := by omega
    have ih' := ih (by simpa using hlt') trivial
    rcases hj3 with rfl | rfl | rfl
    · repeat first|((first|refine qa tOk rfl ?_|refine qb tOk rfl ?_|refine qc ?_|refine qd ?_|refine qe ?_);simp)|refine AWP_block ?_|refine AWP_seq ?_
      refine AStep_nrmSlot 79 rfl (by simp [AV.pure]) ?_
      simp [AV.nrm]
      refine AStep_PC rfl rfl (by simp) (pc_Accepts (flipA exD) []) rfl ?_
      rintro _ rfl
      simp [ex_w0]
      repeat first|((first|refine qa tOk rfl ?_|refine qb tOk rfl ?_|refine qc ?_|refine qd ?_|refine qe ?_);simp)|refine AWP_block ?_|refine AWP_seq ?_
      refine AWP_cond2 rfl (fun h => by simp at h) (fun _ => ?_)
      repeat first|((first|refine qa tOk rfl ?_|refine qb tOk rfl ?_|refine qc ?_|refine qd ?_|refine qe ?_);simp [hw])|refine AWP_block ?_|refine AWP_seq ?_
      refine ALoop_end _ ih' rfl (by simp) ?_ (by simp) (by simp)
      simp [show IntKind.i64.wrap 1 = 1 from by decide, show IntKind.i64.wrap 2 = 2 from by decide, show IntKind.i64.wrap 3 = 3 from by decide]
    · repeat first|((first|refine qa tOk rfl ?_|refine qb tOk rfl ?_|refine qc ?_|refine qd ?_|refine qe ?_);simp)|refine AWP_block ?_|refine AWP_seq ?_
      refine AStep_PC rfl rfl (by simp) (pc_Accepts (flipA exD) (wordS [9, 9])) rfl ?_
      rintro _ rfl
      simp [ex_w1]
      repeat first|((first|refine qa tOk rfl ?_|refine qb tOk rfl ?_|refine qc ?_|refine qd ?_|refine qe ?_);simp)|refine AWP_block ?_|refine AWP_seq ?_
      refine AWP_cond2 rfl (fun h => by simp at h) (fun _ => ?_)
      repeat first|((first|refine qa tOk rfl ?_|refine qb tOk rfl ?_|refine qc ?_|refine qd ?_|refine qe ?_);simp [hw])|refine AWP_block ?_|refine AWP_seq ?_
      refine ALoop_end _ ih' rfl (by simp) ?_ (by simp) (by simp)
      simp [show IntKind.i64.wrap 1 = 1 from by decide, show IntKind.i64.wrap 2 = 2 from by decide, show IntKind.i64.wrap 3 = 3 from by decide]
    · repeat first|((first|refine qa tOk rfl ?_|refine qb tOk rfl ?_|refine qc ?_|refine qd ?_|refine qe ?_);simp)|refine AWP_block ?_|refine AWP_seq ?_
      refine AStep_PC rfl rfl (by simp) (pc_Accepts (flipA exD) (wordS [9, 3])) rfl ?_
      rintro _ rfl
      simp [ex_w2]
      repeat first|((first|refine qa tOk rfl ?_|refine qb tOk rfl ?_|refine qc ?_|refine qd ?_|refine qe ?_);simp)|refine AWP_block ?_|refine AWP_seq ?_
      refine AWP_cond2 rfl (fun h => by simp at h) (fun _ => ?_)
      repeat first|((first|refine qa tOk rfl ?_|refine qb tOk rfl ?_|refine qc ?_|refine qd ?_|refine qe ?_);simp [hw])|refine AWP_block ?_|refine AWP_seq ?_
      refine ALoop_end _ ih' rfl (by simp) ?_ (by simp) (by simp)
      simp [show IntKind.i64.wrap 1 = 1 from by decide, show IntKind.i64.wrap 2 = 2 from by decide, show IntKind.i64.wrap 3 = 3 from by decide]
  · repeat first|((first|refine qa tOk rfl ?_|refine qb tOk rfl ?_|refine qc ?_|refine qd ?_|refine qe ?_);simp)|refine AWP_block ?_|refine AWP_seq ?_
    refine AStep_PC rfl rfl (by simp) (pc_Det exD) rfl ?_
    rintro _ rfl
    simp [ex_dd]
    repeat first|((first|refine qa tOk rfl ?_|refine qb tOk rfl ?_|refine qc ?_|refine qd ?_|refine qe ?_);simp)|refine AWP_block ?_|refine AWP_seq ?_
    refine AStep_PC rfl rfl (by simp) (pc_lexample) rfl ?_
    rintro _ rfl
    simp
    refine AStep_PC rfl rfl (by simp) (pc_Det exA) rfl ?_
    rintro _ rfl
    simp [ex_de]
    repeat first|((first|refine qa tOk rfl ?_|refine qb tOk rfl ?_|refine qc ?_|refine qd ?_|refine qe ?_);simp)|refine AWP_block ?_|refine AWP_seq ?_
    refine AStep_PC rfl rfl (by simp) (pc_Complete exD) rfl ?_
    rintro _ rfl
    simp [ex_com]
    repeat first|((first|refine qa tOk rfl ?_|refine qb tOk rfl ?_|refine qc ?_|refine qd ?_|refine qe ?_);simp [hw0])|refine AWP_block ?_|refine AWP_seq ?_
    refine AStep_PC rfl rfl (by simp) (pc_rSame exD) rfl ?_
    rintro _ rfl
    simp
    repeat first|((first|refine qa tOk rfl ?_|refine qb tOk rfl ?_|refine qc ?_|refine qd ?_|refine qe ?_);simp [hw0])|refine AWP_block ?_|refine AWP_seq ?_
end Go.Abs
set_option maxRecDepth 100000
namespace Go.Abs
open Go Go.Proofs Go.Maps Go.RowKit
set_option linter.unusedSimpArgs false
theorem take_next {a b : List Int} {j : Nat} (h1 : j < a.length) (h2 : j < b.length) (h : a.take j = b.take j) (e : a[j] = b[j]) : a.take (j + 1) = b.take (j + 1) := by
  rw [List.take_succ_eq_append_getElem h1, List.take_succ_eq_append_getElem h2, h, e]
set_option maxHeartbeats 1000000 in
theorem pc_EqualI (a b : List Int) : PC Tryz.prog 28 [LI a, LI b] (fun r => r = .bool (decide (a = b))) := by
  refine PC_body tOk Tryz.func28 rfl Tryz.results28 rfl (by simp [Tryz.ntmps28]) ?_
  rw [Tryz.ntmps28]
  simp only [argSlots]
  refine AWP_len 0 rfl (fun hlen => ?_)
  rw [List.length_map] at hlen
  repeat first|((first|refine qa tOk rfl ?_|refine qb tOk rfl ?_|refine qc ?_|refine qd ?_|refine qe ?_);simp)|refine AWP_block ?_|refine AWP_seq ?_
  refine AWP_cond2 rfl (fun h => ?_) (fun h1 => ?_)
  · repeat first|((first|refine qa tOk rfl ?_|refine qb tOk rfl ?_|refine qc ?_|refine qd ?_|refine qe ?_);simp)|refine AWP_block ?_|refine AWP_seq ?_
    rintro rfl
    simp at h
  have hl : a.length = b.length := by simp at h1; omega
  repeat first|((first|refine qa tOk rfl ?_|refine qb tOk rfl ?_|refine qc ?_|refine qd ?_|refine qe ?_);simp)|refine AWP_block ?_|refine AWP_seq ?_
  refine AWP_countI a.length (fun j => a.take j = b.take j) (fun j => [(0, LI a), (1, LI b), (12, .i a.length), (13, .i j)]) (fun _ => []) rfl (by simp) (by simp) (by simp) (by simp) (by simp) ?_
  intro j hj hI ih
  repeat first|((first|refine qa tOk rfl ?_|refine qb tOk rfl ?_|refine qc ?_|refine qd ?_|refine qe ?_);simp)|refine AWP_block ?_|refine AWP_seq ?_
  refine AWP_cond2 rfl (fun hlt => ?_) (fun hge => ?_)
  · have hlt' : j < a.length := by simpa using hlt
    have hltb : j < b.length := by omega
    repeat first|((first|refine qa tOk rfl ?_|refine qb tOk rfl ?_|refine qc ?_|refine qd ?_|refine qe ?_);simp)|refine AWP_block ?_|refine AWP_seq ?_
    refine AWP_drawT tOk mixed [] (.val 0 (.val 1 (.val 2 (.val 3 (.val 4 (.val 5 (.val 6 (.val 7 (.val 8 (.done)))))))))) rfl (by kernel_rfl) ?_
    simp [hlt', hltb]
    refine AWP_cond2 rfl (fun h => ?_) (fun h => ?_)
    · repeat first|((first|refine qa tOk rfl ?_|refine qb tOk rfl ?_|refine qc ?_|refine qd ?_|refine qe ?_);simp)|refine AWP_block ?_|refine AWP_seq ?_
      rintro rfl
      simp at h
    · repeat first|((first|refine qa tOk rfl ?_|refine qb tOk rfl ?_|refine qc ?_|refine qd ?_|refine qe ?_);simp)|refine AWP_block ?_|refine AWP_seq ?_
      have he : a[j] = b[j] := by simpa using h
      refine ALoop_end _ (ih hlt' (take_next hlt' hltb hI he)) rfl (by simp) ?_ (by simp) (by simp)
      simp
      exact wrap_i64 _ (by omega) (by omega)
  · have hge' : j = a.length := by simp at hge; omega
    subst hge'
    repeat first|((first|refine qa tOk rfl ?_|refine qb tOk rfl ?_|refine qc ?_|refine qd ?_|refine qe ?_);simp)|refine AWP_block ?_|refine AWP_seq ?_
    rw [List.take_of_length_le (Nat.le_refl _), List.take_of_length_le (by omega)] at hI
    exact hI
attribute [local irreducible] nextF dckF fewA
set_option maxHeartbeats 4000000 in
theorem law_Steps (a : Aut) (l : List Int) (x : Sy) : PC Tryz.prog 8 [encA a, LI l, encSy x] (fun r => r = .bool true) := by
  refine PC_body tOk Tryz.func8 rfl Tryz.results8 rfl (by simp [Tryz.ntmps8]) ?_
  rw [Tryz.ntmps8]
  simp only [argSlots]
  simp only [encA, encSy]
  repeat first|((first|refine qa tOk rfl ?_|refine qb tOk rfl ?_|refine qc ?_|refine qd ?_|refine qe ?_);simp)|refine AWP_block ?_|refine AWP_seq ?_
  refine AStep_PC rfl rfl (by simp) (pc_rFew a) rfl ?_
  rintro _ rfl
  simp
  repeat first|((first|refine qa tOk rfl ?_|refine qb tOk rfl ?_|refine qc ?_|refine qd ?_|refine qe ?_);simp)|refine AWP_block ?_|refine AWP_seq ?_
  refine AWP_cond2 rfl (fun _ => ?_) (fun _ => ?_)
  · repeat first|((first|refine qa tOk rfl ?_|refine qb tOk rfl ?_|refine qc ?_|refine qd ?_|refine qe ?_);simp)|refine AWP_block ?_|refine AWP_seq ?_
    refine AStep_PC rfl rfl (by simp) (pc_lawake) rfl ?_
    rintro _ rfl
    simp
    repeat first|((first|refine qa tOk rfl ?_|refine qb tOk rfl ?_|refine qc ?_|refine qd ?_|refine qe ?_);simp)|refine AWP_block ?_|refine AWP_seq ?_
  repeat first|((first|refine qa tOk rfl ?_|refine qb tOk rfl ?_|refine qc ?_|refine qd ?_|refine qe ?_);simp)|refine AWP_block ?_|refine AWP_seq ?_
  refine AStep_PC rfl rfl (by simp) (pc_Next a l x) rfl ?_
  rintro _ rfl
  simp
  repeat first|((first|refine qa tOk rfl ?_|refine qb tOk rfl ?_|refine qc ?_|refine qd ?_|refine qe ?_);simp)|refine AWP_block ?_|refine AWP_seq ?_
  refine AStep_PC rfl rfl (by simp) (pc_rNext a l x) rfl ?_
  rintro _ rfl
  simp
  repeat first|((first|refine qa tOk rfl ?_|refine qb tOk rfl ?_|refine qc ?_|refine qd ?_|refine qe ?_);simp)|refine AWP_block ?_|refine AWP_seq ?_
  refine AStep_PC rfl rfl (by simp) (pc_Det a) rfl ?_
  rintro _ rfl
  simp
  repeat first|((first|refine qa tOk rfl ?_|refine qb tOk rfl ?_|refine qc ?_|refine qd ?_|refine qe ?_);simp)|refine AWP_block ?_|refine AWP_seq ?_
  refine AStep_PC rfl rfl (by simp) (pc_rDet a) rfl ?_
  rintro _ rfl
  simp
  repeat first|((first|refine qa tOk rfl ?_|refine qb tOk rfl ?_|refine qc ?_|refine qd ?_|refine qe ?_);simp)|refine AWP_block ?_|refine AWP_seq ?_
  refine AStep_PC rfl rfl (by simp) (pc_lawake) rfl ?_
  rintro _ rfl
  simp
  repeat first|((first|refine qa tOk rfl ?_|refine qb tOk rfl ?_|refine qc ?_|refine qd ?_|refine qe ?_);simp)|refine AWP_block ?_|refine AWP_seq ?_
  refine AStep_PC rfl rfl (by simp) (pc_EqualI (nextF a l x).2 (nextF a l x).2) rfl ?_
  rintro _ rfl
  simp
  repeat first|((first|refine qa tOk rfl ?_|refine qb tOk rfl ?_|refine qc ?_|refine qd ?_|refine qe ?_);simp)|refine AWP_block ?_|refine AWP_seq ?_
end Go.Abs
set_option maxRecDepth 100000
namespace Go.Abs
open Go Go.Proofs Go.RowKit Go.Proofs.YtdjmpaedikpdgaaGreatDoor
theorem laidOut : laidOutB Tryz.prog = true := by kernel_rfl
theorem own : ownKnob Tryz.prog.godebug = none := by kernel_rfl
theorem list_of {α : Type} {g : α → AV} {Q : α → Prop} : ∀ xs : List AV, (∀ x ∈ xs, ∃ a, x = g a ∧ Q a) → ∃ l : List α, xs = l.map g ∧ ∀ a ∈ l, Q a
  | [], _ => ⟨[], rfl, by simp⟩
  | x :: xs, h => by
    obtain ⟨a, rfl, ha⟩ := h x (by simp)
    obtain ⟨l, rfl, hl⟩ := list_of xs (fun y hy => h y (by simp [hy]))
    exact ⟨a :: l, rfl, by simpa using ⟨ha, hl⟩⟩
theorem shpInt {d : Nat} {zs : List AV} (h : Shp T (d + 1) 3 zs) : ∃ n : Int, zs = [.i n] ∧ -9223372036854775808 ≤ n ∧ n ≤ 9223372036854775807 := by
  simp only [Shp, T3, ShpI] at h
  obtain ⟨n, rfl, h1, h2⟩ := h
  exact ⟨n, rfl, h1, h2⟩
theorem shpBool {d : Nat} {zs : List AV} (h : Shp T (d + 1) 4 zs) : ∃ b : Bool, zs = [.bool b] := by
  simp only [Shp, T4, ShpI] at h
  exact h
theorem argsNil {d : Nat} {xs : List AV} (h : ArgsShp T d [] xs) : xs = [] := h
/-- What a tie's reading of a table of integers comes to: the block's cells. -/
theorem tab_in {l : List (String × DataW Unit)} {w : World} {name : String} {k : IntKind} {zs : List Int} {g : Nat} {t e : TypeId} {n : Nat} (h : laidMetH Tryz.prog l w) (hl : l.filter (fun x => x.1 == name) = [(name, Lib.tabData k zs)])
    (hg : Tryz.prog.globalNamed name = some g) (hty : (Tryz.prog.globals[g]?).map (·.type) = some t) (ht : Tryz.prog.underlying t = some (.array n e)) (he : Tryz.prog.underlying e = some (.int k)) (hce : Tryz.prog.cellsOf e = 1) (hct : Tryz.prog.cellsOf t = n) :
    g < w.heap.size ∧ ∃ t fr, w.heap[g]? = some (.cells (zs.map fun z => Value.int k z).toArray t fr) := by
  have h1 := h.filter (fun x => x.1 == name)
  rw [hl] at h1
  have h2 : Lib.TabIs Tryz.prog w name k zs := Lib.tabIs_of_head hg hty ht he hce hct h1
  unfold Lib.TabIs World.var? at h2
  rw [hg] at h2
  simp only [Option.bind_some] at h2
  cases ho : w.heap[g]? with
  | none => rw [ho] at h2; simp at h2
  | some o =>
    rw [ho] at h2
    refine ⟨(Array.getElem?_eq_some_iff.1 ho).1, ?_⟩
    cases o <;> simp at h2
    rename_i cs t fr
    exact ⟨t, fr, by rw [h2]⟩
end Go.Abs
set_option maxRecDepth 100000
namespace Go.Abs
open Go Go.Proofs Go.RowKit Go.Proofs.YtdjmpaedikpdgaaGreatDoor
theorem dtIv {d : Nat} {zs : List AV} (h : Shp T (d + 2) 127 zs) : ∃ v : Iv, zs = (encIv v).cells := by
  simp only [Shp, T127, T3, ShpI, ShpF, List.map_cons, List.map_nil] at h
  obtain ⟨_, _, rfl, ⟨a, rfl, ha⟩, _, _, rfl, ⟨b, rfl, hb⟩, rfl⟩ := h
  exact ⟨⟨a, b⟩, rfl⟩
theorem dtLIv {d : Nat} {zs : List AV} (h : Shp T (d + 3) 110 zs) : ∃ l : List Iv, zs = [encL l] := by
  rw [Shp, T110] at h
  simp only [ShpI] at h
  obtain ⟨ei, xs, he, rfl, hl, hx⟩ := h
  rw [T127] at he
  cases he
  obtain ⟨l, rfl, hq⟩ := list_of (g := encIv) (Q := fun _ => True) xs (fun x hxm => by
    obtain ⟨zs, rfl, hz⟩ := hx x hxm
    obtain ⟨v, rfl⟩ := dtIv (d := d) hz
    exact ⟨v, rfl, trivial⟩)
  exact ⟨l, rfl⟩
theorem dtSets {d : Nat} {zs : List AV} (h : Shp T (d + 4) 57 zs) : ∃ p : Prd, zs = [.list (p.map encL)] := by
  rw [Shp, T57] at h
  simp only [ShpI] at h
  obtain ⟨ei, xs, he, rfl, hl, hx⟩ := h
  rw [T110] at he
  cases he
  obtain ⟨l, rfl, hq⟩ := list_of (g := encL) (Q := fun _ => True) xs (fun x hxm => by
    obtain ⟨zs, rfl, hz⟩ := hx x hxm
    obtain ⟨v, rfl⟩ := dtLIv (d := d) hz
    exact ⟨v, rfl, trivial⟩)
  exact ⟨l, rfl⟩
theorem dtPred {d : Nat} {zs : List AV} (h : Shp T (d + 5) 59 zs) : ∃ p : Prd, zs = [.list (p.map encL)] := by
  rw [Shp, T59] at h
  simp only [ShpI, ShpF, List.map_cons, List.map_nil] at h
  obtain ⟨_, _, rfl, h1, rfl⟩ := h
  obtain ⟨p, rfl⟩ := dtSets (d := d) h1
  exact ⟨p, rfl⟩
theorem dtMove {d : Nat} {zs : List AV} (h : Shp T (d + 6) 61 zs) : ∃ m : Mv, zs = (encMv m).cells := by
  rw [Shp, T61] at h
  simp only [ShpI, ShpF, List.map_cons, List.map_nil] at h
  obtain ⟨_, _, rfl, h1, _, _, rfl, h2, _, _, rfl, h3, rfl⟩ := h
  obtain ⟨a, rfl, _⟩ := shpInt (d := d + 4) h1
  obtain ⟨b, rfl, _⟩ := shpInt (d := d + 4) h2
  obtain ⟨p, rfl⟩ := dtPred (d := d) h3
  exact ⟨⟨a, b, p⟩, rfl⟩
theorem dtMoves {d : Nat} {zs : List AV} (h : Shp T (d + 7) 23 zs) : ∃ l : List Mv, zs = [.list (l.map encMv)] := by
  rw [Shp, T23] at h
  simp only [ShpI] at h
  obtain ⟨ei, xs, he, rfl, hl, hx⟩ := h
  rw [T61] at he
  cases he
  obtain ⟨l, rfl, hq⟩ := list_of (g := encMv) (Q := fun _ => True) xs (fun x hxm => by
    obtain ⟨zs, rfl, hz⟩ := hx x hxm
    obtain ⟨v, rfl⟩ := dtMove (d := d) hz
    exact ⟨v, rfl, trivial⟩)
  exact ⟨l, rfl⟩
theorem dtBools {d : Nat} {zs : List AV} (h : Shp T (d + 2) 22 zs) : ∃ l : List Bool, zs = [.list (l.map .bool)] := by
  rw [Shp, T22] at h
  simp only [ShpI] at h
  obtain ⟨ei, xs, he, rfl, hl, hx⟩ := h
  rw [T4] at he
  cases he
  obtain ⟨l, rfl, hq⟩ := list_of (g := AV.bool) (Q := fun _ => True) xs (fun x hxm => by
    obtain ⟨zs, rfl, hz⟩ := hx x hxm
    obtain ⟨v, rfl⟩ := shpBool (d := d) hz
    exact ⟨v, rfl, trivial⟩)
  exact ⟨l, rfl⟩
theorem dtAut {d : Nat} {zs : List AV} (h : Shp T (d + 8) 25 zs) : ∃ a : Aut, zs = (encA a).cells := by
  rw [Shp, T25] at h
  simp only [ShpI, ShpF, List.map_cons, List.map_nil] at h
  obtain ⟨_, _, rfl, h1, _, _, rfl, h2, _, _, rfl, h3, rfl⟩ := h
  obtain ⟨t, rfl, _⟩ := shpInt (d := d + 6) h1
  obtain ⟨f, rfl⟩ := dtBools (d := d + 5) h2
  obtain ⟨m, rfl⟩ := dtMoves (d := d) h3
  exact ⟨⟨t, f, m⟩, rfl⟩
theorem argAut {d : Nat} {ts : List Nat} {xs : List AV} (h : ArgsShp T (d + 8) (25 :: ts) xs) : ∃ (a : Aut) (r : List AV), xs = encA a :: r ∧ ArgsShp T (d + 8) ts r := by
  obtain ⟨i, zs, r, hi, rfl, h1, h⟩ := h
  rw [T25] at hi; cases hi
  obtain ⟨a, rfl⟩ := dtAut (d := d) h1
  exact ⟨a, r, rfl, h⟩
theorem dtSy {d : Nat} {zs : List AV} (h : Shp T (d + 2) 46 zs) : ∃ x : Sy, zs = (encSy x).cells := by
  simp only [Shp, T46, T3, ShpI, ShpF, List.map_cons, List.map_nil] at h
  obtain ⟨_, _, rfl, ⟨a, rfl, ha⟩, _, _, rfl, ⟨b, rfl, hb⟩, rfl⟩ := h
  exact ⟨⟨a, b⟩, rfl⟩
theorem argSy {d : Nat} {ts : List Nat} {xs : List AV} (h : ArgsShp T (d + 2) (46 :: ts) xs) : ∃ (x : Sy) (r : List AV), xs = encSy x :: r ∧ ArgsShp T (d + 2) ts r := by
  obtain ⟨i, zs, r, hi, rfl, h1, h⟩ := h
  rw [T46] at hi; cases hi
  obtain ⟨x, rfl⟩ := dtSy (d := d) h1
  exact ⟨x, r, rfl, h⟩
theorem argLSy {d : Nat} {ts : List Nat} {xs : List AV} (h : ArgsShp T (d + 3) (40 :: ts) xs) : ∃ (w : List Sy) (r : List AV), xs = .list (w.map encSy) :: r ∧ ArgsShp T (d + 3) ts r := by
  obtain ⟨i, zs, r, hi, rfl, h1, h⟩ := h
  rw [T40] at hi; cases hi
  rw [Shp, T40] at h1
  simp only [ShpI] at h1
  obtain ⟨ei, xs, he, rfl, hl, hx⟩ := h1
  rw [T46] at he
  cases he
  obtain ⟨l, rfl, hq⟩ := list_of (g := encSy) (Q := fun _ => True) xs (fun x hxm => by
    obtain ⟨zs, rfl, hz⟩ := hx x hxm
    obtain ⟨v, rfl⟩ := dtSy (d := d) hz
    exact ⟨v, rfl, trivial⟩)
  exact ⟨l, r, rfl, h⟩
theorem argInts {d : Nat} {ts : List Nat} {xs : List AV} (h : ArgsShp T (d + 2) (47 :: ts) xs) : ∃ (l : List Int) (r : List AV), xs = .list (l.map .i) :: r ∧ ArgsShp T (d + 2) ts r := by
  obtain ⟨i, zs, r, hi, rfl, h1, h⟩ := h
  rw [T47] at hi; cases hi
  rw [Shp, T47] at h1
  simp only [ShpI] at h1
  obtain ⟨ei, xs, he, rfl, hl, hx⟩ := h1
  rw [T3] at he
  cases he
  obtain ⟨l, rfl, hq⟩ := list_of (g := fun z : Int => AV.i z) (Q := fun _ => True) xs (fun x hxm => by
    obtain ⟨zs, rfl, hz⟩ := hx x hxm
    obtain ⟨v, rfl, _⟩ := shpInt (d := d) hz
    exact ⟨v, rfl, trivial⟩)
  exact ⟨l, r, rfl, h⟩
theorem eok_of {l : List (String × DataW Unit)} {w : World} (h : laidMetH Tryz.prog l w) (hl : l.filter (fun x => x.1 == "internal/strconv.uint64pow10") = [("internal/strconv.uint64pow10", Lib.tabData .u64 Lib.pow10Tab)]) : EOK Tryz.prog w (· < w.heap.size) := fun g pr hm => by
  have e := List.mem_singleton.1 hm
  cases e
  obtain ⟨h1, t, fr, h2⟩ := tab_in (t := 208) (e := 183) (n := 20) h hl (by kernel_rfl) (by kernel_rfl) (by kernel_rfl) (by kernel_rfl) (by kernel_rfl) (by kernel_rfl)
  exact ⟨h1, _, t, fr, rfl, h2⟩
end Go.Abs
set_option maxRecDepth 100000
namespace Go.Abs
open Go Go.Proofs Go.Maps Go.RowKit
set_option linter.unusedSimpArgs false
theorem accF_ok {a : Aut} (h : OkA a) {w : List Sy} (hl : w.length ≤ 4096) (hx : ∀ x ∈ w, okSy a x) : accF a w = (accL a w, 0) := by
  have := accE_iff.2 ⟨h, hl, hx⟩
  rw [accF, this]; rfl
theorem dckF_ok {a : Aut} (h : OkA a) (hd : detOk a) : dckF a = (true, 0) := by
  rw [dckF, if_pos ((ck_ok a).2 h), (sgl_iff h.wfA).2 hd]
theorem okSy_types {a b : Aut} (h : b.types = a.types) {x : Sy} (hx : okSy a x) : okSy b x := by unfold okSy at *; rw [h]; exact hx
theorem valid_ok {a : Aut} {w : List Sy} (h : validB a w = true) : fewA a = true ∧ w.length ≤ 12 ∧ OkA a ∧ ∀ x ∈ w, okSy a x := by
  simp only [validB, Bool.and_eq_true, decide_eq_true_eq, beq_iff_eq] at h
  obtain ⟨⟨h1, h2⟩, h3⟩ := h
  have h4 : accE a w = 0 := by
    by_cases he : accE a w = 0
    · exact he
    · rw [accF, if_pos he] at h3; exact absurd h3 he
  obtain ⟨h5, _, h7⟩ := accE_iff.1 h4
  exact ⟨h1, h2, h5, h7⟩
theorem full_next {c : Aut} (hw : OkA c) (hf : fullA c) {s : Int} (h0 : 0 ≤ s) (h1 : s < c.fin.length) {x : Sy} (hx : okSy c x) : nextL c [s] x ≠ [] := by
  obtain ⟨m, hm, hs, hh⟩ := hf s h0 h1 x hx
  have : m.dst ∈ nextL c [s] x := mem_nextL.2 ⟨(hw.mv m hm).dst, m, hm, by simp [hs], hh, rfl⟩
  exact List.ne_nil_of_mem this
attribute [local irreducible] nextF nextL dckF fewA validB accF detF cplP comF accL
set_option maxHeartbeats 8000000 in
theorem law_Keeps (a : Aut) (w : List Sy) : PC Tryz.prog 7 [encA a, LSy w] (fun r => r = .bool true) := by
  refine PC_body tOk Tryz.func7 rfl Tryz.results7 rfl (by simp [Tryz.ntmps7]) ?_
  rw [Tryz.ntmps7]
  simp only [argSlots]
  simp only [encA]
  have hw0 : IntKind.i64.wrap 0 = 0 := by decide
  repeat first|((first|refine qa tOk rfl ?_|refine qb tOk rfl ?_|refine qc ?_|refine qd ?_|refine qe ?_);simp)|refine AWP_block ?_|refine AWP_seq ?_
  refine AStep_PC rfl rfl (by simp) (pc_lvalid a w) rfl ?_
  rintro _ rfl
  simp
  repeat first|((first|refine qa tOk rfl ?_|refine qb tOk rfl ?_|refine qc ?_|refine qd ?_|refine qe ?_);simp)|refine AWP_block ?_|refine AWP_seq ?_
  refine AWP_cond2 rfl (fun _ => ?_) (fun hv => ?_)
  · repeat first|((first|refine qa tOk rfl ?_|refine qb tOk rfl ?_|refine qc ?_|refine qd ?_|refine qe ?_);simp)|refine AWP_block ?_|refine AWP_seq ?_
    refine AStep_PC rfl rfl (by simp) (pc_lawake) rfl ?_
    rintro _ rfl
    simp
    repeat first|((first|refine qa tOk rfl ?_|refine qb tOk rfl ?_|refine qc ?_|refine qd ?_|refine qe ?_);simp)|refine AWP_block ?_|refine AWP_seq ?_
  obtain ⟨hfew, hwl, hok, hsy⟩ := valid_ok (a := a) (w := w) (by simpa using hv)
  have hacc := accF_ok hok (by omega) hsy
  repeat first|((first|refine qa tOk rfl ?_|refine qb tOk rfl ?_|refine qc ?_|refine qd ?_|refine qe ?_);simp)|refine AWP_block ?_|refine AWP_seq ?_
  refine AStep_PC rfl rfl (by simp) (pc_Accepts a w) rfl ?_
  rintro _ rfl
  simp [hacc]
  repeat first|((first|refine qa tOk rfl ?_|refine qb tOk rfl ?_|refine qc ?_|refine qd ?_|refine qe ?_);simp)|refine AWP_block ?_|refine AWP_seq ?_
  refine AStep_PC rfl rfl (by simp) (pc_Determinize a) rfl ?_
  rintro _ rfl
  simp
  repeat first|((first|refine qa tOk rfl ?_|refine qb tOk rfl ?_|refine qc ?_|refine qd ?_|refine qe ?_);simp)|refine AWP_block ?_|refine AWP_seq ?_
  refine AStep_PC rfl rfl (by simp) (pc_Complete a) rfl ?_
  rintro _ rfl
  simp
  repeat first|((first|refine qa tOk rfl ?_|refine qb tOk rfl ?_|refine qc ?_|refine qd ?_|refine qe ?_);simp)|refine AWP_block ?_|refine AWP_seq ?_
  have hck : ckAut a = 0 := (ck_ok a).2 hok
  have hcom : comF a = cplP a := by unfold comF; rw [if_neg (fun k => k hck)]
  have hc0 : (cplP a).1 = 0 := few_cpl hok.wfA hfew
  obtain ⟨c, hc⟩ : ∃ c, cplP a = (0, c) := ⟨(cplP a).2, Prod.ext hc0 rfl⟩
  obtain ⟨cok, cty, cfull, _, cacc⟩ := cpl_spec hok hc
  rw [hcom, hc]
  rcases det_err hok with hd0 | hd5
  · obtain ⟨d, hd⟩ : ∃ d, detF a = (0, d) := ⟨(detF a).2, Prod.ext hd0 rfl⟩
    obtain ⟨Q, _, _, _, _, _, dok, ddet, dty, dacc⟩ := det_spec hok hd
    rw [hd]
    refine AWP_cond2 rfl (fun h => by simp at h) (fun _ => ?_)
    repeat first|((first|refine qa tOk rfl ?_|refine qb tOk rfl ?_|refine qc ?_|refine qd ?_|refine qe ?_);simp)|refine AWP_block ?_|refine AWP_seq ?_
    refine AStep_PC rfl rfl (by simp) (pc_Det d) rfl ?_
    rintro _ rfl
    simp [dckF_ok dok ddet]
    repeat first|((first|refine qa tOk rfl ?_|refine qb tOk rfl ?_|refine qc ?_|refine qd ?_|refine qe ?_);simp)|refine AWP_block ?_|refine AWP_seq ?_
    refine AStep_PC rfl rfl (by simp) (pc_Accepts d w) rfl ?_
    rintro _ rfl
    simp [accF_ok dok (by omega) (fun x hx => okSy_types dty (hsy x hx)), dacc w hsy]
    repeat first|((first|refine qa tOk rfl ?_|refine qb tOk rfl ?_|refine qc ?_|refine qd ?_|refine qe ?_);simp)|refine AWP_block ?_|refine AWP_seq ?_
    refine AStep_PC rfl rfl (by simp) (pc_Accepts c w) rfl ?_
    rintro _ rfl
    simp [accF_ok cok (by omega) (fun x hx => okSy_types cty (hsy x hx)), cacc w]
    repeat first|((first|refine qa tOk rfl ?_|refine qb tOk rfl ?_|refine qc ?_|refine qd ?_|refine qe ?_);simp [hw0])|refine AWP_block ?_|refine AWP_seq ?_
    refine AWP_cond2 rfl (fun h => by simp at h) (fun _ => ?_)
    repeat first|((first|refine qa tOk rfl ?_|refine qb tOk rfl ?_|refine qc ?_|refine qd ?_|refine qe ?_);simp)|refine AWP_block ?_|refine AWP_seq ?_
    have hcf := cok.fin
    refine AWP_countI c.fin.length (fun _ => True) (fun j => [(1, LSy w), (9, .vptr 2 0), (101, .i c.fin.length), (102, .i j)]) (fun _ => [.vars (cellsA a), .vars (cellsA d), .vars (cellsA c)]) rfl (by simp) (by simp) (by simp) (by simp) trivial ?_
    intro j hj _ ih
    repeat first|((first|refine qa tOk rfl ?_|refine qb tOk rfl ?_|refine qc ?_|refine qd ?_|refine qe ?_);simp)|refine AWP_block ?_|refine AWP_seq ?_
    refine AWP_cond2 rfl (fun hlt => ?_) (fun hge => ?_)
    · have hlt' : j < c.fin.length := by simpa using hlt
      have hw : IntKind.i64.wrap ((j : Int) + 1) = j + 1 := wrap_i64 _ (by omega) (by omega)
      repeat first|((first|refine qa tOk rfl ?_|refine qb tOk rfl ?_|refine qc ?_|refine qd ?_|refine qe ?_);simp)|refine AWP_block ?_|refine AWP_seq ?_
      refine AWP_countI w.length (fun _ => True) (fun k => [(1, LSy w), (9, .vptr 2 0), (17, .i j), (101, .i c.fin.length), (102, .i j), (105, LSy w), (106, .i w.length), (107, .i k)]) (fun _ => [.vars (cellsA a), .vars (cellsA d), .vars (cellsA c)]) rfl (by simp) (by simp) (by simp) (by simp) trivial ?_
      intro k hk _ ih2
      repeat first|((first|refine qa tOk rfl ?_|refine qb tOk rfl ?_|refine qc ?_|refine qd ?_|refine qe ?_);simp)|refine AWP_block ?_|refine AWP_seq ?_
      refine AWP_cond2 rfl (fun hlt2 => ?_) (fun hge2 => ?_)
      · have hlt2' : k < w.length := by simpa using hlt2
        have hw2 : IntKind.i64.wrap ((k : Int) + 1) = k + 1 := wrap_i64 _ (by omega) (by omega)
        have hx := okSy_types cty (hsy _ (List.getElem_mem hlt2'))
        repeat first|((first|refine qa tOk rfl ?_|refine qb tOk rfl ?_|refine qc ?_|refine qd ?_|refine qe ?_);simp [hlt2'])|refine AWP_block ?_|refine AWP_seq ?_
        generalize w[k] = x at *
        refine AStep_freeze1 4 rfl ?_
        simp
        have hne := full_next cok cfull (s := (j : Int)) (by omega) (by omega) hx
        have hnx := next_ok cok (l := [(j : Int)]) (by simp) (fun s hs => by rw [List.mem_singleton.1 hs]; omega) hx
        refine AStep_PC rfl rfl (by simp) (pc_Next c [(j : Int)] x) rfl ?_
        rintro _ rfl
        simp [hnx]
        repeat first|((first|refine qa tOk rfl ?_|refine qb tOk rfl ?_|refine qc ?_|refine qd ?_|refine qe ?_);simp)|refine AWP_block ?_|refine AWP_seq ?_
        have hpos : 0 < (nextL c [(j : Int)] x).length := List.length_pos_iff.2 hne
        refine AWP_cond2 rfl (fun h => by simp [hne] at h) (fun _ => ?_)
        repeat first|((first|refine qa tOk rfl ?_|refine qb tOk rfl ?_|refine qc ?_|refine qd ?_|refine qe ?_);simp [hw2])|refine AWP_block ?_|refine AWP_seq ?_
        refine ALoop_end _ (ih2 hlt2' trivial) rfl (by simp) ?_ (by simp) (by simp)
        simp
      · repeat first|((first|refine qa tOk rfl ?_|refine qb tOk rfl ?_|refine qc ?_|refine qd ?_|refine qe ?_);simp [hw])|refine AWP_block ?_|refine AWP_seq ?_
        refine ALoop_end _ (ih hlt' trivial) rfl (by simp) ?_ (by simp) (by simp)
        simp
    · repeat first|((first|refine qa tOk rfl ?_|refine qb tOk rfl ?_|refine qc ?_|refine qd ?_|refine qe ?_);simp)|refine AWP_block ?_|refine AWP_seq ?_
      refine AStep_PC rfl rfl (by simp) (pc_lawake) rfl ?_
      rintro _ rfl
      simp
      repeat first|((first|refine qa tOk rfl ?_|refine qb tOk rfl ?_|refine qc ?_|refine qd ?_|refine qe ?_);simp)|refine AWP_block ?_|refine AWP_seq ?_
  · refine AWP_cond2 rfl (fun h => ?_) (fun h => by simp [hd5] at h)
    repeat first|((first|refine qa tOk rfl ?_|refine qb tOk rfl ?_|refine qc ?_|refine qd ?_|refine qe ?_);simp [hd5])|refine AWP_block ?_|refine AWP_seq ?_
    refine AStep_PC rfl rfl (by simp) (pc_lawake) rfl ?_
    rintro _ rfl
    simp
    repeat first|((first|refine qa tOk rfl ?_|refine qb tOk rfl ?_|refine qc ?_|refine qd ?_|refine qe ?_);simp)|refine AWP_block ?_|refine AWP_seq ?_
end Go.Abs
set_option maxRecDepth 100000
namespace Go.Abs
open Go Go.Proofs Go.Maps Go.RowKit
set_option linter.unusedSimpArgs false
attribute [local irreducible] nextF nextL dckF fewA validB accF detF cplP comF accL cmpF
set_option maxHeartbeats 8000000 in
theorem law_Turns (a : Aut) (w : List Sy) : PC Tryz.prog 6 [encA a, LSy w] (fun r => r = .bool true) := by
  refine PC_body tOk Tryz.func6 rfl Tryz.results6 rfl (by simp [Tryz.ntmps6]) ?_
  rw [Tryz.ntmps6]
  simp only [argSlots]
  simp only [encA]
  have hw0 : IntKind.i64.wrap 0 = 0 := by decide
  repeat first|((first|refine qa tOk rfl ?_|refine qb tOk rfl ?_|refine qc ?_|refine qd ?_|refine qe ?_);simp)|refine AWP_block ?_|refine AWP_seq ?_
  refine AStep_PC rfl rfl (by simp) (pc_lvalid a w) rfl ?_
  rintro _ rfl
  simp
  repeat first|((first|refine qa tOk rfl ?_|refine qb tOk rfl ?_|refine qc ?_|refine qd ?_|refine qe ?_);simp)|refine AWP_block ?_|refine AWP_seq ?_
  refine AWP_cond2 rfl (fun _ => ?_) (fun hv => ?_)
  · repeat first|((first|refine qa tOk rfl ?_|refine qb tOk rfl ?_|refine qc ?_|refine qd ?_|refine qe ?_);simp)|refine AWP_block ?_|refine AWP_seq ?_
    refine AStep_PC rfl rfl (by simp) (pc_lawake) rfl ?_
    rintro _ rfl
    simp
    repeat first|((first|refine qa tOk rfl ?_|refine qb tOk rfl ?_|refine qc ?_|refine qd ?_|refine qe ?_);simp)|refine AWP_block ?_|refine AWP_seq ?_
  obtain ⟨hfew, hwl, hok, hsy⟩ := valid_ok (a := a) (w := w) (by simpa using hv)
  have hacc := accF_ok hok (by omega) hsy
  repeat first|((first|refine qa tOk rfl ?_|refine qb tOk rfl ?_|refine qc ?_|refine qd ?_|refine qe ?_);simp)|refine AWP_block ?_|refine AWP_seq ?_
  refine AStep_PC rfl rfl (by simp) (pc_Complement a) rfl ?_
  rintro _ rfl
  simp
  repeat first|((first|refine qa tOk rfl ?_|refine qb tOk rfl ?_|refine qc ?_|refine qd ?_|refine qe ?_);simp)|refine AWP_block ?_|refine AWP_seq ?_
  rcases cmp_err hok with hc0 | hc5
  · obtain ⟨c, hc⟩ : ∃ c, cmpF a = (0, c) := ⟨(cmpF a).2, Prod.ext hc0 rfl⟩
    obtain ⟨cok, cdet, cfull, cty, cacc⟩ := cmp_spec hok hc
    rw [hc]
    refine AWP_cond2 rfl (fun h => by simp at h) (fun _ => ?_)
    repeat first|((first|refine qa tOk rfl ?_|refine qb tOk rfl ?_|refine qc ?_|refine qd ?_|refine qe ?_);simp)|refine AWP_block ?_|refine AWP_seq ?_
    refine AStep_PC rfl rfl (by simp) (pc_Complement c) rfl ?_
    rintro _ rfl
    simp
    repeat first|((first|refine qa tOk rfl ?_|refine qb tOk rfl ?_|refine qc ?_|refine qd ?_|refine qe ?_);simp)|refine AWP_block ?_|refine AWP_seq ?_
    refine AStep_PC rfl rfl (by simp) (pc_Det c) rfl ?_
    rintro _ rfl
    simp [dckF_ok cok cdet]
    repeat first|((first|refine qa tOk rfl ?_|refine qb tOk rfl ?_|refine qc ?_|refine qd ?_|refine qe ?_);simp)|refine AWP_block ?_|refine AWP_seq ?_
    have csy : ∀ x ∈ w, okSy c x := fun x hx => okSy_types cty (hsy x hx)
    rcases cmp_err cok with hb0 | hb5
    · obtain ⟨b, hb⟩ : ∃ b, cmpF c = (0, b) := ⟨(cmpF c).2, Prod.ext hb0 rfl⟩
      obtain ⟨bok, bdet, bfull, bty, bacc⟩ := cmp_spec cok hb
      have hlen := cmp_len cok cdet cfull hb
      rw [hb]
      refine AWP_cond2 rfl (fun h => by simp at h) (fun _ => ?_)
      repeat first|((first|refine qa tOk rfl ?_|refine qb tOk rfl ?_|refine qc ?_|refine qd ?_|refine qe ?_);simp)|refine AWP_block ?_|refine AWP_seq ?_
      refine AStep_PC rfl rfl (by simp) (pc_Accepts a w) rfl ?_
      rintro _ rfl
      simp [hacc]
      repeat first|((first|refine qa tOk rfl ?_|refine qb tOk rfl ?_|refine qc ?_|refine qd ?_|refine qe ?_);simp)|refine AWP_block ?_|refine AWP_seq ?_
      refine AStep_PC rfl rfl (by simp) (pc_Accepts c w) rfl ?_
      rintro _ rfl
      simp [accF_ok cok (by omega) csy, cacc w hsy]
      repeat first|((first|refine qa tOk rfl ?_|refine qb tOk rfl ?_|refine qc ?_|refine qd ?_|refine qe ?_);simp)|refine AWP_block ?_|refine AWP_seq ?_
      refine AStep_PC rfl rfl (by simp) (pc_Accepts b w) rfl ?_
      rintro _ rfl
      simp [accF_ok bok (by omega) (fun x hx => okSy_types bty (csy x hx)), bacc w csy, cacc w hsy]
      repeat first|((first|refine qa tOk rfl ?_|refine qb tOk rfl ?_|refine qc ?_|refine qd ?_|refine qe ?_);simp)|refine AWP_block ?_|refine AWP_seq ?_
      refine AStep_PC rfl rfl (by simp) (pc_lawake) rfl ?_
      rintro _ rfl
      simp [hw0]
      repeat first|((first|refine qa tOk rfl ?_|refine qb tOk rfl ?_|refine qc ?_|refine qd ?_|refine qe ?_);simp [hw0])|refine AWP_block ?_|refine AWP_seq ?_
      exact hlen
    · refine AWP_cond2 rfl (fun h => ?_) (fun h => by simp [hb5] at h)
      repeat first|((first|refine qa tOk rfl ?_|refine qb tOk rfl ?_|refine qc ?_|refine qd ?_|refine qe ?_);simp [hb5])|refine AWP_block ?_|refine AWP_seq ?_
      refine AStep_PC rfl rfl (by simp) (pc_lawake) rfl ?_
      rintro _ rfl
      simp
      repeat first|((first|refine qa tOk rfl ?_|refine qb tOk rfl ?_|refine qc ?_|refine qd ?_|refine qe ?_);simp)|refine AWP_block ?_|refine AWP_seq ?_
  · refine AWP_cond2 rfl (fun h => ?_) (fun h => by simp [hc5] at h)
    repeat first|((first|refine qa tOk rfl ?_|refine qb tOk rfl ?_|refine qc ?_|refine qd ?_|refine qe ?_);simp [hc5])|refine AWP_block ?_|refine AWP_seq ?_
    refine AStep_PC rfl rfl (by simp) (pc_lawake) rfl ?_
    rintro _ rfl
    simp
    repeat first|((first|refine qa tOk rfl ?_|refine qb tOk rfl ?_|refine qc ?_|refine qd ?_|refine qe ?_);simp)|refine AWP_block ?_|refine AWP_seq ?_
end Go.Abs
set_option maxRecDepth 100000
namespace Go.Abs
open Go Go.Proofs Go.Maps Go.RowKit
set_option linter.unusedSimpArgs false
attribute [local irreducible] nextF nextL dckF fewA validB accF detF cplP comF accL cmpF subF detA
set_option maxHeartbeats 8000000 in
theorem law_Follows (a : Aut) (w : List Sy) : PC Tryz.prog 9 [encA a, LSy w] (fun r => r = .bool true) := by
  refine PC_body tOk Tryz.func9 rfl Tryz.results9 rfl (by simp [Tryz.ntmps9]) ?_
  rw [Tryz.ntmps9]
  simp only [argSlots]
  simp only [encA]
  repeat first|((first|refine qa tOk rfl ?_|refine qb tOk rfl ?_|refine qc ?_|refine qd ?_|refine qe ?_);simp)|refine AWP_block ?_|refine AWP_seq ?_
  refine AStep_PC rfl rfl (by simp) (pc_lvalid a w) rfl ?_
  rintro _ rfl
  simp
  repeat first|((first|refine qa tOk rfl ?_|refine qb tOk rfl ?_|refine qc ?_|refine qd ?_|refine qe ?_);simp)|refine AWP_block ?_|refine AWP_seq ?_
  refine AWP_cond2 rfl (fun _ => ?_) (fun hv => ?_)
  · repeat first|((first|refine qa tOk rfl ?_|refine qb tOk rfl ?_|refine qc ?_|refine qd ?_|refine qe ?_);simp)|refine AWP_block ?_|refine AWP_seq ?_
    refine AStep_PC rfl rfl (by simp) (pc_lawake) rfl ?_
    rintro _ rfl
    simp
    repeat first|((first|refine qa tOk rfl ?_|refine qb tOk rfl ?_|refine qc ?_|refine qd ?_|refine qe ?_);simp)|refine AWP_block ?_|refine AWP_seq ?_
  obtain ⟨hfew, hwl, hok, hsy⟩ := valid_ok (a := a) (w := w) (by simpa using hv)
  repeat first|((first|refine qa tOk rfl ?_|refine qb tOk rfl ?_|refine qc ?_|refine qd ?_|refine qe ?_);simp)|refine AWP_block ?_|refine AWP_seq ?_
  refine AStep_PC rfl rfl (by simp) (pc_Subsets a) rfl ?_
  rintro _ rfl
  simp
  repeat first|((first|refine qa tOk rfl ?_|refine qb tOk rfl ?_|refine qc ?_|refine qd ?_|refine qe ?_);simp)|refine AWP_block ?_|refine AWP_seq ?_
  refine AStep_PC rfl rfl (by simp) (pc_Determinize a) rfl ?_
  rintro _ rfl
  simp
  repeat first|((first|refine qa tOk rfl ?_|refine qb tOk rfl ?_|refine qc ?_|refine qd ?_|refine qe ?_);simp)|refine AWP_block ?_|refine AWP_seq ?_
  rcases det_err hok with hd0 | hd5
  · obtain ⟨d, hd⟩ : ∃ d, detF a = (0, d) := ⟨(detF a).2, Prod.ext hd0 rfl⟩
    obtain ⟨Q, _, hsub, hcls, hsf, hdd, dok, _, dty, _⟩ := det_spec hok hd
    have hnx := fun (n : Nat) (l : List Int) (hl : Q[n]? = some l) (x : Sy) (hx : okSy a x) => det_next hcls hsub hl hx
    rw [← hdd] at hnx
    rw [hd, hsf]
    refine AWP_cond2 rfl (fun h => by simp at h) (fun _ => ?_)
    repeat first|((first|refine qa tOk rfl ?_|refine qb tOk rfl ?_|refine qc ?_|refine qd ?_|refine qe ?_);simp)|refine AWP_block ?_|refine AWP_seq ?_
    refine AWP_freeze1 2 rfl ?_
    simp
    refine AWP_freeze1 3 rfl ?_
    simp
    have hfin := hok.fin
    have hdl : d.fin.length = Q.length := by rw [hdd, detA_fin]; simp
    refine AWP_loop (ALoop_keep (sl' := [(2, .vptr 0 0), (5, .list (LQ Q)), (7, .vptr 1 0), (9, LI [0]), (10, LI [((0 : Nat) : Int)]), (53, LSy w), (54, .i w.length), (55, .i (0 : Nat))]) ?_ (by simp))
    refine ALoop_wf (F := fun (u : Nat × Nat × List Int × List AObj) => ⟨[(2, .vptr 0 0), (5, .list (LQ Q)), (7, .vptr 1 0), (9, LI u.2.2.1), (10, LI [(u.2.1 : Int)]), (53, LSy w), (54, .i w.length), (55, .i u.1)], u.2.2.2⟩)
      (fun u => u.1 ≤ w.length ∧ Q[u.2.1]? = some u.2.2.1 ∧ u.2.2.2[0]? = some (.vars (cellsA a)) ∧ u.2.2.2[1]? = some (.vars (cellsA d))) (fun u => w.length - u.1) ?_ (0, 0, [0], _) ⟨by simp, hsub.first, rfl, rfl⟩
    rintro ⟨k, n, st, G⟩ ⟨hk, hq, g0, g1⟩ ih
    simp only at hk hq g0 g1 ih ⊢
    repeat first|((first|refine qa tOk rfl ?_|refine qb tOk rfl ?_|refine qc ?_|refine qd ?_|refine qe ?_);simp)|refine AWP_block ?_|refine AWP_seq ?_
    refine AWP_cond2 rfl (fun hlt => ?_) (fun hge => ?_)
    · have hlt' : k < w.length := by simpa using hlt
      have hw : IntKind.i64.wrap ((k : Int) + 1) = k + 1 := wrap_i64 _ (by omega) (by omega)
      have hx := hsy _ (List.getElem_mem hlt')
      have g0L : ∀ (L : List AObj) hh, (G ++ L)[0]'hh = .vars (cellsA a) := fun L hh => by have := get_app g0 L; rw [List.getElem?_eq_getElem hh] at this; exact Option.some.inj this
      have g1L : ∀ (L : List AObj) hh, (G ++ L)[1]'hh = .vars (cellsA d) := fun L hh => by have := get_app g1 L; rw [List.getElem?_eq_getElem hh] at this; exact Option.some.inj this
      repeat first|((first|refine qa tOk rfl ?_|refine qb tOk rfl ?_|refine qc ?_|refine qd ?_|refine qe ?_);simp [hlt', g0L, get_app g0])|refine AWP_block ?_|refine AWP_seq ?_
      generalize w[k] = x at *
      have e0 := get_app g0 [.vars [.i x.ty, .i x.num]]
      have e1 := get_app g1 [.vars [.i x.ty, .i x.num]]
      have e2 : (G ++ [AObj.vars [.i x.ty, .i x.num]])[G.length]? = some (.vars [.i x.ty, .i x.num]) := by simp
      have hel := hsub.elem _ (List.mem_of_getElem? hq)
      have hnl := get_ltI hq
      have hsl := asc_len hel.1 hel.2
      have hn1 := next_ok hok (l := st) (by omega) hel.2 hx
      have hn2 := next_ok dok (l := [(n : Int)]) (by simp) (fun s hs => by rw [List.mem_singleton.1 hs]; omega) (okSy_types dty hx)
      have hnn := hnx n st hq x hx
      refine AStep_PC rfl rfl (by simp) (pc_Next a st x) rfl ?_
      rintro _ rfl
      simp [hn1]
      repeat first|((first|refine qa tOk rfl ?_|refine qb tOk rfl ?_|refine qc ?_|refine qd ?_|refine qe ?_);simp [g1L, get_app g1])|refine AWP_block ?_|refine AWP_seq ?_
      refine AStep_PC rfl rfl (by simp) (pc_Next d [(n : Int)] x) rfl ?_
      rintro _ rfl
      simp [hn2]
      repeat first|((first|refine qa tOk rfl ?_|refine qb tOk rfl ?_|refine qc ?_|refine qd ?_|refine qe ?_);simp)|refine AWP_block ?_|refine AWP_seq ?_
      rcases hnn with ⟨h1, h2⟩ | ⟨t, h1, h2⟩
      · rw [h1, h2]
        refine AWP_cond2 rfl (fun h => by simp at h) (fun _ => ?_)
        repeat first|((first|refine qa tOk rfl ?_|refine qb tOk rfl ?_|refine qc ?_|refine qd ?_|refine qe ?_);simp)|refine AWP_block ?_|refine AWP_seq ?_
        refine AWP_cond2 rfl (fun _ => ?_) (fun h => by simp at h)
        repeat first|((first|refine qa tOk rfl ?_|refine qb tOk rfl ?_|refine qc ?_|refine qd ?_|refine qe ?_);simp)|refine AWP_block ?_|refine AWP_seq ?_
        refine AStep_PC rfl rfl (by simp) (pc_lawake) rfl ?_
        rintro _ rfl
        simp
        repeat first|((first|refine qa tOk rfl ?_|refine qb tOk rfl ?_|refine qc ?_|refine qd ?_|refine qe ?_);simp)|refine AWP_block ?_|refine AWP_seq ?_
      · have htl := get_ltI h1
        have hne : nextL a st x ≠ [] := hsub.ne _ (List.mem_of_getElem? h1)
        have hge : Q[t] = nextL a st x := by rw [List.getElem?_eq_getElem htl] at h1; exact Option.some.inj h1
        rw [h2]
        refine AWP_cond2 rfl (fun h => by simp [hne] at h) (fun _ => ?_)
        repeat first|((first|refine qa tOk rfl ?_|refine qb tOk rfl ?_|refine qc ?_|refine qd ?_|refine qe ?_);simp)|refine AWP_block ?_|refine AWP_seq ?_
        refine AWP_cond2 rfl (fun h => by simp at h) (fun _ => ?_)
        have ht0 : ¬ ((t : Int) < 0) := by omega
        have ht1 : ¬ ((Q.length : Int) ≤ t) := by omega
        repeat first|((first|refine qa tOk rfl ?_|refine qb tOk rfl ?_|refine qc ?_|refine qd ?_|refine qe ?_);simp [ht0, ht1, htl])|refine AWP_block ?_|refine AWP_seq ?_
        refine AStep_PC rfl rfl (by simp) (pc_EqualI Q[t] (nextL a st x)) rfl ?_
        rintro _ rfl
        simp [hge]
        repeat first|((first|refine qa tOk rfl ?_|refine qb tOk rfl ?_|refine qc ?_|refine qd ?_|refine qe ?_);simp)|refine AWP_block ?_|refine AWP_seq ?_
        refine AWP_cond2 rfl (fun h => by simp at h) (fun _ => ?_)
        repeat first|((first|refine qa tOk rfl ?_|refine qb tOk rfl ?_|refine qc ?_|refine qd ?_|refine qe ?_);simp [hw])|refine AWP_block ?_|refine AWP_seq ?_
        refine ALoop_keep (sl' := [(2, .vptr 0 0), (5, .list (LQ Q)), (7, .vptr 1 0), (9, LI (nextL a st x)), (10, LI [(t : Int)]), (53, LSy w), (54, .i w.length), (55, .i (k + 1 : Nat))]) ?_ (by simp)
        exact ih (k + 1, t, nextL a st x, _) ⟨by omega, h1, get_app g0 _, get_app g1 _⟩ (by omega)
    · repeat first|((first|refine qa tOk rfl ?_|refine qb tOk rfl ?_|refine qc ?_|refine qd ?_|refine qe ?_);simp)|refine AWP_block ?_|refine AWP_seq ?_
      refine AStep_PC rfl rfl (by simp) (pc_lawake) rfl ?_
      rintro _ rfl
      simp
      repeat first|((first|refine qa tOk rfl ?_|refine qb tOk rfl ?_|refine qc ?_|refine qd ?_|refine qe ?_);simp)|refine AWP_block ?_|refine AWP_seq ?_
  · rcases sub_cases hok with hs | ⟨Q, hs, _⟩
    · rw [hs]
      refine AWP_cond2 rfl (fun h => ?_) (fun h => by simp [hd5] at h)
      repeat first|((first|refine qa tOk rfl ?_|refine qb tOk rfl ?_|refine qc ?_|refine qd ?_|refine qe ?_);simp [hd5])|refine AWP_block ?_|refine AWP_seq ?_
      refine AStep_PC rfl rfl (by simp) (pc_lawake) rfl ?_
      rintro _ rfl
      simp
      repeat first|((first|refine qa tOk rfl ?_|refine qb tOk rfl ?_|refine qc ?_|refine qd ?_|refine qe ?_);simp)|refine AWP_block ?_|refine AWP_seq ?_
    · rw [hs]
      refine AWP_cond2 rfl (fun h => ?_) (fun h => by simp [hd5] at h)
      repeat first|((first|refine qa tOk rfl ?_|refine qb tOk rfl ?_|refine qc ?_|refine qd ?_|refine qe ?_);simp [hd5])|refine AWP_block ?_|refine AWP_seq ?_
      refine AStep_PC rfl rfl (by simp) (pc_lawake) rfl ?_
      rintro _ rfl
      simp
      repeat first|((first|refine qa tOk rfl ?_|refine qb tOk rfl ?_|refine qc ?_|refine qd ?_|refine qe ?_);simp)|refine AWP_block ?_|refine AWP_seq ?_
end Go.Abs
set_option maxRecDepth 100000
namespace Go.Abs
open Go Go.Proofs Go.Maps Go.RowKit
set_option linter.unusedSimpArgs false
attribute [local irreducible] ckAut
/-- The reference's limit. -/
theorem fc_rlimited29 (a : Aut) : PC Tryz.prog 52 [encA a] (fun r => r = .tup [encA (limK a).2, .i (limK a).1]) := by
  refine PC_body tOk Tryz.func52 rfl Tryz.results52 rfl (by simp [Tryz.ntmps52]) ?_
  rw [Tryz.ntmps52]
  simp only [argSlots]
  simp only [encA]
  repeat first|((first|refine qa tOk rfl ?_|refine qb tOk rfl ?_|refine qc ?_|refine qd ?_|refine qe ?_);simp)|refine AWP_block ?_|refine AWP_seq ?_
  refine AStep_PC rfl rfl (by simp) (pc_rsCheck a) rfl ?_
  rintro _ rfl
  simp
  repeat first|((first|refine qa tOk rfl ?_|refine qb tOk rfl ?_|refine qc ?_|refine qd ?_|refine qe ?_);simp)|refine AWP_block ?_|refine AWP_seq ?_
  refine AWP_cond2 rfl (fun h => ?_) (fun h => ?_)
  · have hk : limK a = (5, zeroA) := by rw [limK, if_pos (by simpa using h)]
    rw [hk]
    repeat first|((first|refine qa tOk rfl ?_|refine qb tOk rfl ?_|refine qc ?_|refine qd ?_|refine qe ?_);simp)|refine AWP_block ?_|refine AWP_seq ?_
    exact ⟨rfl, rfl, rfl⟩
  · have hk : limK a = (0, a) := by rw [limK, if_neg (by simpa using h)]
    rw [hk]
    repeat first|((first|refine qa tOk rfl ?_|refine qb tOk rfl ?_|refine qc ?_|refine qd ?_|refine qe ?_);simp)|refine AWP_block ?_|refine AWP_seq ?_
attribute [local irreducible] cplP fullR lackR lackP newU limK wholeP
set_option maxHeartbeats 8000000 in
theorem pc_rComplete (a : Aut) : PC Tryz.prog 21 [encA a] (fun r => r = .tup [encA (comF a).2, .i (comF a).1]) := by
  refine PC_body tOk Tryz.func21 rfl Tryz.results21 rfl (by simp [Tryz.ntmps21]) ?_
  rw [Tryz.ntmps21]
  simp only [argSlots]
  simp only [encA]
  repeat first|((first|refine qa tOk rfl ?_|refine qb tOk rfl ?_|refine qc ?_|refine qd ?_|refine qe ?_);simp)|refine AWP_block ?_|refine AWP_seq ?_
  refine AStep_PC rfl rfl (by simp) (pc_rsCheck a) rfl ?_
  rintro _ rfl
  simp
  repeat first|((first|refine qa tOk rfl ?_|refine qb tOk rfl ?_|refine qc ?_|refine qd ?_|refine qe ?_);simp)|refine AWP_block ?_|refine AWP_seq ?_
  refine AWP_cond2 rfl (fun h => ?_) (fun h => ?_)
  · have h' : ckAut a ≠ 0 := by simpa using h
    have hc : comF a = (ckAut a, zeroA) := by rw [comF, if_pos h']
    rw [hc]
    repeat first|((first|refine qa tOk rfl ?_|refine qb tOk rfl ?_|refine qc ?_|refine qd ?_|refine qe ?_);simp)|refine AWP_block ?_|refine AWP_seq ?_
    exact ⟨rfl, rfl, rfl⟩
  have h0 : ckAut a = 0 := by simpa using h
  have hok := (ck_ok a).1 h0
  have hc : comF a = cplP a := by rw [comF, if_neg (fun k => k h0)]
  have hfin := hok.fin
  have hmvs := hok.mvs
  rw [hc, ← cpl_eq hok.wfA]
  repeat first|((first|refine qa tOk rfl ?_|refine qb tOk rfl ?_|refine qc ?_|refine qd ?_|refine qe ?_);simp)|refine AWP_block ?_|refine AWP_seq ?_
  refine AStep_PC rfl rfl (by simp) (pc_rFull a hok) rfl ?_
  rintro _ rfl
  simp
  refine AWP_cond2 rfl (fun hf => ?_) (fun hf => ?_)
  · have hcr : cplR a = (0, a) := by rw [cplR, if_pos (by simpa using hf)]
    rw [hcr]
    repeat first|((first|refine qa tOk rfl ?_|refine qb tOk rfl ?_|refine qc ?_|refine qd ?_|refine qe ?_);simp)|refine AWP_block ?_|refine AWP_seq ?_
  have hcr : cplR a = limK (comA a) := by
    rw [cplR, if_neg (by simpa using hf), comA]
    have : newMv a (lackR a) = newMv a (lackP a) := by
      have : lackR a = lackP a := funext fun s => lack_eq hok.wfA s
      rw [this]
    rw [this]
  rw [hcr]
  repeat first|((first|refine qa tOk rfl ?_|refine qb tOk rfl ?_|refine qc ?_|refine qd ?_|refine qe ?_);simp)|refine AWP_block ?_|refine AWP_seq ?_
  refine AStep_appendS tOk rfl rfl T22 rfl T4 rfl (by decide) (by decide) rfl rfl rfl ?_
  simp
  refine ⟨⟨fun y hy => ?_, by simp; omega⟩, ?_⟩
  · obtain ⟨b, _, rfl⟩ := List.mem_map.1 hy
    exact ⟨rfl, rfl⟩
  refine AStep_appendS tOk rfl rfl T22 rfl T4 rfl (by decide) (by decide) rfl rfl rfl ?_
  simp
  refine ⟨by simp [appOk] <;> omega, ?_⟩
  repeat first|((first|refine qa tOk rfl ?_|refine qb tOk rfl ?_|refine qc ?_|refine qd ?_|refine qe ?_);simp)|refine AWP_block ?_|refine AWP_seq ?_
  refine AStep_appendS tOk rfl rfl T23 rfl T61 rfl (by decide) (by decide) rfl rfl rfl ?_
  simp
  refine ⟨by simp [appOk] <;> omega, ?_⟩
  repeat first|((first|refine qa tOk rfl ?_|refine qb tOk rfl ?_|refine qc ?_|refine qd ?_|refine qe ?_);simp)|refine AWP_block ?_|refine AWP_seq ?_
  refine AWP_loop (ALoop_keep (sl' := [(1, .vptr 0 0), (2, .vptr 1 0), (3, .i 0), (5, .i a.fin.length), (6, .vptr 2 0), (7, .i (0 : Nat))]) ?_ (by simp))
  refine ALoop_wf (F := fun (u : Nat × Nat × List AObj) => ⟨[(1, .vptr 0 0), (2, .vptr 1 0), (3, .i 0), (5, .i a.fin.length), (6, .vptr 2 0), (7, .i u.1)], u.2.2⟩)
    (fun u => u.1 ≤ a.fin.length ∧ u.2.2[0]? = some (.vars (cellsA a)) ∧ u.2.2[1]? = some (.vars [.i 0, .nils, .nils]) ∧ u.2.2[2]? = some (.vars [.i a.types, .sl 5 1 0 (a.fin.length + 1), .sl u.2.1 3 0 (a.mv.length + (newU a u.1).length)]) ∧ u.2.2[5]? = some (.arr 4 1 (a.fin.map .bool ++ [.bool false])) ∧ u.2.2[u.2.1]? = some (.arr 61 3 (a.mv.map encMv ++ (newU a u.1).map encMv))) (fun u => a.fin.length - u.1) ?_ (0, 6, _) ⟨by simp, rfl, rfl, by rw [newU_zero]; rfl, rfl, by rw [newU_zero]; simp⟩
  rintro ⟨j, v, G⟩ ⟨hj, g0, g1, g2, g5, gv⟩ ih
  simp only at hj g0 g1 g2 g5 gv ih ⊢
  have g0L : ∀ (L : List AObj) hh, (G ++ L)[0]'hh = .vars (cellsA a) := fun L hh => by have := get_app g0 L; rw [List.getElem?_eq_getElem hh] at this; exact Option.some.inj this
  have g2L : ∀ (L : List AObj) hh, (G ++ L)[2]'hh = .vars [.i a.types, .sl 5 1 0 (a.fin.length + 1), .sl v 3 0 (a.mv.length + (newU a j).length)] := fun L hh => by have := get_app g2 L; rw [List.getElem?_eq_getElem hh] at this; exact Option.some.inj this
  have hv2 : v ≠ 2 := fun e => by rw [e, g2] at gv; simp at gv
  have hv0 : v ≠ 0 := fun e => by rw [e, g0] at gv; simp at gv
  have hv1 : v ≠ 1 := fun e => by rw [e, g1] at gv; simp at gv
  have hv5 : v ≠ 5 := fun e => by rw [e, g5] at gv; simp at gv
  have hnl := newU_len a j
  have hvl := get_lt gv
  have h5l := get_lt g5
  repeat first|((first|refine qa tOk rfl ?_|refine qb tOk rfl ?_|refine qc ?_|refine qd ?_|refine qe ?_);simp)|refine AWP_block ?_|refine AWP_seq ?_
  refine AWP_cond2 rfl (fun hlt => ?_) (fun hge => ?_)
  · have hlt' : j < a.fin.length := by simpa using hlt
    have hw : IntKind.i64.wrap ((j : Int) + 1) = j + 1 := wrap_i64 _ (by omega) (by omega)
    have hnx := newU_snoc a j
    have ih' := fun v' G' => ih (j + 1, v', G')
    simp only [hnx] at ih'
    clear hnx
    generalize newU a j = new at *
    repeat first|((first|refine qa tOk rfl ?_|refine qb tOk rfl ?_|refine qc ?_|refine qd ?_|refine qe ?_);simp [g0])|refine AWP_block ?_|refine AWP_seq ?_
    refine AStep_PC rfl rfl (by simp) (pc_rlacking a hok j) rfl ?_
    rintro _ rfl
    simp
    rw [lack_eq hok.wfA]
    generalize lackP a j = lk at *
    repeat first|((first|refine qa tOk rfl ?_|refine qb tOk rfl ?_|refine qc ?_|refine qd ?_|refine qe ?_);simp)|refine AWP_block ?_|refine AWP_seq ?_
    refine AStep_PC rfl rfl (by simp) (pc_rpVoid lk) rfl ?_
    rintro _ rfl
    simp
    repeat first|((first|refine qa tOk rfl ?_|refine qb tOk rfl ?_|refine qc ?_|refine qd ?_|refine qe ?_);simp)|refine AWP_block ?_|refine AWP_seq ?_
    cases hv : voidP lk with
    | true =>
      rw [hv] at ih'
      refine AWP_cond rfl ?_
      simp [hv]
      repeat first|((first|refine qa tOk rfl ?_|refine qb tOk rfl ?_|refine qc ?_|refine qd ?_|refine qe ?_);simp [hw])|refine AWP_block ?_|refine AWP_seq ?_
      refine ALoop_keep (sl' := [(1, .vptr 0 0), (2, .vptr 1 0), (3, .i 0), (5, .i a.fin.length), (6, .vptr 2 0), (7, .i (j + 1 : Nat))]) ?_ (by simp)
      exact ih' v _ ⟨by omega, get_app g0 _, get_app g1 _, by simpa using get_app g2 _, get_app g5 _, by simpa using get_app gv _⟩ (by omega)
    | false =>
      rw [hv] at ih'
      refine AWP_cond rfl ?_
      simp [hv]
      repeat first|((first|refine qa tOk rfl ?_|refine qb tOk rfl ?_|refine qc ?_|refine qd ?_|refine qe ?_);simp [get_app g2, g2L])|refine AWP_block ?_|refine AWP_seq ?_
      have g2c : ∀ L : List AObj, (G.set v .dead ++ L)[2]? = some (.vars [.i a.types, .sl 5 1 0 (a.fin.length + 1), .sl v 3 0 (a.mv.length + new.length)]) := fun L => get_app (get_set hv2 g2 _) L
      have g2d : ∀ (L : List AObj) hh, (G.set v .dead ++ L)[2]'hh = .vars [.i a.types, .sl 5 1 0 (a.fin.length + 1), .sl v 3 0 (a.mv.length + new.length)] := fun L hh => by have := g2c L; rw [List.getElem?_eq_getElem hh] at this; exact Option.some.inj this
      refine AStep_appendS tOk rfl rfl T23 rfl T61 rfl (by decide) (by decide) rfl rfl rfl ?_
      simp [get_app gv, set_app gv, g2c, g2d]
      refine ⟨by simp [appOk, get_app gv, set_app gv, g2c, g2d] <;> omega, ?_⟩
      repeat first|((first|refine qa tOk rfl ?_|refine qb tOk rfl ?_|refine qc ?_|refine qd ?_|refine qe ?_);simp [hw])|refine AWP_block ?_|refine AWP_seq ?_
      refine ALoop_keep (sl' := [(1, .vptr 0 0), (2, .vptr 1 0), (3, .i 0), (5, .i a.fin.length), (6, .vptr 2 0), (7, .i (j + 1 : Nat))]) ?_ (by simp)
      refine ih' (G.length + 2) _ ⟨by omega, ?_, ?_, ?_, ?_, ?_⟩ (by omega)
      · exact get_set (j := 2) (by decide) (get_app (get_set hv0 g0 _) _) _
      · exact get_set (j := 2) (by decide) (get_app (get_set hv1 g1 _) _) _
      · rw [get_self (g2c _) _]; simp [Nat.add_assoc]
      · exact get_set (j := 2) (by decide) (get_app (get_set hv5 g5 _) _) _
      · rw [List.getElem?_set_ne (by omega), List.getElem?_append_right (by simp)]; simp
  · have hge' : j = a.fin.length := by simp at hge; omega
    subst hge'
    rw [newU_all] at g2 gv
    repeat first|((first|refine qa tOk rfl ?_|refine qb tOk rfl ?_|refine qc ?_|refine qd ?_|refine qe ?_);simp)|refine AWP_block ?_|refine AWP_seq ?_
    refine AWP_drawT tOk mixed [9, 11] (.val 0 (.val 1 (.val 2 (.val 3 (.val 4 (.val 5 (.one 6 (.val 7 (.one 8 (.one 9 (.val 10 (.one 11 (.done))))))))))))) rfl (by kernel_rfl) ?_
    simp [g2, g0]
    refine AStep_PC rfl rfl (by simp) (pc_rpWhole a.types (by have := hok.types; omega) (by have := hok.types; omega)) rfl ?_
    rintro _ rfl
    simp
    have g2c : ∀ L : List AObj, (G.set v .dead ++ L)[2]? = some (.vars [.i a.types, .sl 5 1 0 (a.fin.length + 1), .sl v 3 0 (a.mv.length + (newMv a (lackP a)).length)]) := fun L => get_app (get_set hv2 g2 _) L
    have g2d : ∀ (L : List AObj) hh, (G.set v .dead ++ L)[2]'hh = .vars [.i a.types, .sl 5 1 0 (a.fin.length + 1), .sl v 3 0 (a.mv.length + (newMv a (lackP a)).length)] := fun L hh => by have := g2c L; rw [List.getElem?_eq_getElem hh] at this; exact Option.some.inj this
    rw [newU_all] at hnl
    have hmm : a.mv.map encMv ++ (newMv a (lackP a)).map encMv ++ [encMv ⟨a.fin.length, a.fin.length, wholeP a.types.toNat⟩] = (comA a).mv.map encMv := by simp [comA]
    have hff : a.fin.map AV.bool ++ [.bool false] = (comA a).fin.map AV.bool := by simp [comA]
    have hml : (comA a).mv.length = a.mv.length + (newMv a (lackP a)).length + 1 := by simp [comA]; omega
    have hfl : (comA a).fin.length = a.fin.length + 1 := by simp [comA]
    have hty : (comA a).types = a.types := rfl
    refine AStep_appendS tOk rfl rfl T23 rfl T61 rfl (by decide) (by decide) rfl rfl rfl ?_
    simp [get_app gv, set_app gv, g2c, g2d]
    refine ⟨by simp [appOk, get_app gv, set_app gv, g2c, g2d] <;> omega, ?_⟩
    refine AWP_abs fun Z hZ => ?_
    have z2 : Z[2]? = some (.vars [.i a.types, .sl 5 1 0 (a.fin.length + 1), .sl (G.length + 1) 3 0 (a.mv.length + (newMv a (lackP a)).length + 1)]) := by rw [hZ]; exact get_self (g2c _) _
    have z5 : Z[5]? = some (.arr 4 1 ((comA a).fin.map AV.bool)) := by rw [hZ, ← hff]; exact get_set (j := 2) (by decide) (get_app (get_set hv5 g5 _) _) _
    have zv : Z[G.length + 1]? = some (.arr 61 3 ((comA a).mv.map encMv)) := by
      rw [hZ, ← hmm, List.getElem?_set_ne (by omega), List.getElem?_append_right (by simp)]; simp
    have z1 : Z[1]? = some (.vars [.i 0, .nils, .nils]) := by rw [hZ]; exact get_set (j := 2) (by decide) (get_app (get_set hv1 g1 _) _) _
    clear hZ
    refine AWP_keep (sl' := [(2, .vptr 1 0), (3, .i 0), (6, .vptr 2 0)]) ?_ (by simp)
    have hg5 : G.length + 1 ≠ 5 := by omega
    have hg2 : G.length + 1 ≠ 2 := by omega
    have hg1 : G.length + 1 ≠ 1 := by omega
    refine AWP_freezeC 5 z5 2 z2 ?_
    simp [hfl, hg5]
    rw [List.take_of_length_le (by simp [hfl])]
    refine AWP_freezeC (G.length + 1) (get_set (Ne.symm hg2) (get_set (Ne.symm hg5) zv _) _) 2 (get_self (get_set (j := 5) (by decide) z2 _) _) ?_
    simp
    rw [List.take_of_length_le (by simp [hml])]
    have z2l := get_lt z2
    refine AWP_abs fun Y hY => ?_
    have y2 : Y[2]? = some (.vars [.i (comA a).types, .list ((comA a).fin.map .bool), .list ((comA a).mv.map encMv)]) := by
      rw [hY, hty, List.getElem?_set_self (by simp only [List.length_set]; exact z2l), if_pos (by omega)]
    have y1 : Y[1]? = some (.vars [.i 0, .nils, .nils]) := by
      rw [hY]; exact get_set (j := 2) (by decide) (get_set hg1 (get_set (j := 2) (by decide) (get_set (j := 5) (by decide) z1 _) _) _) _
    clear hY
    have y1s : ∀ X, (Y.set 1 X)[1]? = some X := fun X => get_self y1 X
    repeat first|((first|refine qa tOk rfl ?_|refine qb tOk rfl ?_|refine qc ?_|refine qd ?_|refine qe ?_);simp [y2])|refine AWP_block ?_|refine AWP_seq ?_
    refine AStep_PC rfl rfl (by simp) (fc_rlimited29 (comA a)) rfl ?_
    rintro _ rfl
    simp [y1]
    repeat first|((first|refine qa tOk rfl ?_|refine qb tOk rfl ?_|refine qc ?_|refine qd ?_|refine qe ?_);simp [y1s])|refine AWP_block ?_|refine AWP_seq ?_
end Go.Abs
set_option maxRecDepth 100000
namespace Go.Abs
open Go Go.Proofs Go.Maps Go.RowKit
set_option linter.unusedSimpArgs false
attribute [local irreducible] fewA comF
set_option maxHeartbeats 4000000 in
theorem law_Completes (a : Aut) : PC Tryz.prog 5 [encA a] (fun r => r = .bool true) := by
  refine PC_body tOk Tryz.func5 rfl Tryz.results5 rfl (by simp [Tryz.ntmps5]) ?_
  rw [Tryz.ntmps5]
  simp only [argSlots]
  simp only [encA]
  repeat first|((first|refine qa tOk rfl ?_|refine qb tOk rfl ?_|refine qc ?_|refine qd ?_|refine qe ?_);simp)|refine AWP_block ?_|refine AWP_seq ?_
  refine AStep_PC rfl rfl (by simp) (pc_rFew a) rfl ?_
  rintro _ rfl
  simp
  repeat first|((first|refine qa tOk rfl ?_|refine qb tOk rfl ?_|refine qc ?_|refine qd ?_|refine qe ?_);simp)|refine AWP_block ?_|refine AWP_seq ?_
  refine AWP_cond2 rfl (fun _ => ?_) (fun _ => ?_)
  · repeat first|((first|refine qa tOk rfl ?_|refine qb tOk rfl ?_|refine qc ?_|refine qd ?_|refine qe ?_);simp)|refine AWP_block ?_|refine AWP_seq ?_
    refine AStep_PC rfl rfl (by simp) (pc_lawake) rfl ?_
    rintro _ rfl
    simp
    repeat first|((first|refine qa tOk rfl ?_|refine qb tOk rfl ?_|refine qc ?_|refine qd ?_|refine qe ?_);simp)|refine AWP_block ?_|refine AWP_seq ?_
  repeat first|((first|refine qa tOk rfl ?_|refine qb tOk rfl ?_|refine qc ?_|refine qd ?_|refine qe ?_);simp)|refine AWP_block ?_|refine AWP_seq ?_
  refine AStep_PC rfl rfl (by simp) (pc_Complete a) rfl ?_
  rintro _ rfl
  simp
  repeat first|((first|refine qa tOk rfl ?_|refine qb tOk rfl ?_|refine qc ?_|refine qd ?_|refine qe ?_);simp)|refine AWP_block ?_|refine AWP_seq ?_
  refine AStep_PC rfl rfl (by simp) (pc_rComplete a) rfl ?_
  rintro _ rfl
  simp
  repeat first|((first|refine qa tOk rfl ?_|refine qb tOk rfl ?_|refine qc ?_|refine qd ?_|refine qe ?_);simp)|refine AWP_block ?_|refine AWP_seq ?_
  refine AStep_PC rfl rfl (by simp) (pc_lawake) rfl ?_
  rintro _ rfl
  simp
  repeat first|((first|refine qa tOk rfl ?_|refine qb tOk rfl ?_|refine qc ?_|refine qd ?_|refine qe ?_);simp)|refine AWP_block ?_|refine AWP_seq ?_
  refine AStep_PC rfl rfl (by simp) (pc_rSame (comF a).2) rfl ?_
  rintro _ rfl
  simp
  repeat first|((first|refine qa tOk rfl ?_|refine qb tOk rfl ?_|refine qc ?_|refine qd ?_|refine qe ?_);simp)|refine AWP_block ?_|refine AWP_seq ?_
end Go.Abs
