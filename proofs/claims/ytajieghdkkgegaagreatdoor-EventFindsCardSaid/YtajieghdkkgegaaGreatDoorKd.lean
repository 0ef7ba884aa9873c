/- Part Kd of the proof: an abstract machine over the model, and what the functions of the program hand back in its terms. No condition. -/
import Derived.Test.YtajieghdkkgegaaGreatDoorKc
import Derived.Lib.Join
import Derived.Lib.ItoaLen
import Derived.Shelf.Strings.Builder1
import Derived.Shelf.Strings.Builder2
import Derived.Shelf.Strings.Search1
import Derived.Shelf.Strings.Search2
import Derived.Shelf.Strings.Cut
import Derived.Shelf.LaysM
import Derived.Shelf.Strings.Shaped
import Derived.Shelf.Strings.Prefix
import Derived.Shelf.Strings.Runes
import Derived.Shelf.Strings.AsciiSet
import Derived.Test.YtajieghdkkgegaaGreatDoorProg
import Derived.Lib.IndexMore
import Derived.Test.YtajieghdkkgegaaGreatDoorKb
set_option linter.all false
set_option maxRecDepth 100000
namespace Go.Abs
open Go Go.Proofs
set_option linter.unusedSimpArgs false
/-- The fields of an event's type. -/
def fldsOf (l : List Sch) (e : Ev) : List Fld := (l.getD e.type.toNat default).fields
theorem ev_ok {l : List Sch} {e : Ev} (h : ckEv l e = 0) : ckSchs l = 0 ∧ (∃ k : Nat, e.type = k ∧ ∃ hk : k < l.length, fldsOf l e = l[k].fields) ∧ e.values.length = (fldsOf l e).length ∧ (fldsOf l e).length ≤ 8 ∧ numsR e = 0 ∧ valsR e.values (fldsOf l e) = 0 := by
  unfold ckEv at h
  by_cases h0 : ckSchs l ≠ 0
  · rw [if_pos h0] at h; exact absurd h h0
  rw [if_neg h0] at h
  have h0' : ckSchs l = 0 := by simpa using h0
  unfold validR at h
  by_cases h1 : numsR e ≠ 0
  · rw [if_pos h1] at h; exact absurd h h1
  rw [if_neg h1] at h
  by_cases h2 : e.type < 0 ∨ (l.length : Int) ≤ e.type
  · rw [if_pos h2] at h; cases h
  rw [if_neg h2] at h
  by_cases h3 : e.values.length ≠ (l.getD e.type.toNat default).fields.length
  · rw [if_pos h3] at h; cases h
  rw [if_neg h3] at h
  have hk : e.type.toNat < l.length := by omega
  have hf : fldsOf l e = l[e.type.toNat].fields := by unfold fldsOf; rw [List.getD_eq_getElem?_getD]; simp [hk]
  refine ⟨h0', ⟨e.type.toNat, by omega, hk, hf⟩, by unfold fldsOf; omega, ?_, by simpa using h1, h⟩
  rw [hf]
  exact ckSch_fields (ckSchs_all h0' _ (List.getElem_mem hk))
def findF : List Fld → List Val → List UInt8 → Val × Int
  | f :: fs, v :: vs, n => if f.name = n then (v, 0) else findF fs vs n
  | _, _, _ => (zeroV, 6)
def fieldR (l : List Sch) (e : Ev) (n : List UInt8) : Val × Int :=
  if ckEv l e ≠ 0 then (zeroV, ckEv l e) else if n = timeT then (⟨0, e.time, []⟩, 0) else findF (fldsOf l e) e.values n
attribute [local irreducible] ckEv numsR
set_option maxHeartbeats 2000000 in
theorem pc_eField (l : List Sch) (e : Ev) (n : List UInt8) : PC Tryz.prog 9 [.list (l.map encSch), encE e, .str n] (fun r => r = .tup [encV (fieldR l e n).1, .i (fieldR l e n).2]) := by
  refine PC_body tOk Tryz.func9 rfl Tryz.results9 rfl (by simp [Tryz.ntmps9]) ?_
  rw [Tryz.ntmps9]
  simp only [argSlots]
  obtain ⟨R, hR⟩ : ∃ R, fieldR l e n = R := ⟨_, rfl⟩
  rw [hR]
  rw [fieldR] at hR
  repeat (first
    | (refine AWP_seq (AWP_regS tOk rfl ?_); simp)
    | (refine AWP_regS tOk rfl ?_; simp)
    | (refine AWP_skip ?_; simp)
    | (refine AWP_exit ?_; simp)
    | (refine AWP_ret ?_; simp)
    | refine AWP_block ?_
    | refine AWP_seq ?_)
  refine AStep_PC rfl rfl (by simp) (pc_eCheck l e) rfl ?_
  rintro _ rfl
  simp
  repeat (first
    | (refine AWP_seq (AWP_regS tOk rfl ?_); simp)
    | (refine AWP_regS tOk rfl ?_; simp)
    | (refine AWP_skip ?_; simp)
    | (refine AWP_exit ?_; simp)
    | (refine AWP_ret ?_; simp)
    | refine AWP_block ?_
    | refine AWP_seq ?_)
  refine AWP_cond2 rfl (fun h => ?_) (fun h => ?_)
  · repeat (first
      | (refine AWP_seq (AWP_regS tOk rfl ?_); simp)
      | (refine AWP_regS tOk rfl ?_; simp)
      | (refine AWP_skip ?_; simp)
      | (refine AWP_exit ?_; simp)
      | (refine AWP_ret ?_; simp)
      | refine AWP_block ?_
      | refine AWP_seq ?_)
    rw [if_pos (by simpa using h)] at hR
    rw [← hR]
    simp [zeroV]
  rw [if_neg (by simpa using h)] at hR
  obtain ⟨h0, ⟨k, hk, hkl, hfs⟩, hlv, hl8, _, _⟩ := ev_ok (l := l) (e := e) (by simpa using h)
  clear h
  repeat (first
    | (refine AWP_seq (AWP_regS tOk rfl ?_); simp)
    | (refine AWP_regS tOk rfl ?_; simp)
    | (refine AWP_skip ?_; simp)
    | (refine AWP_exit ?_; simp)
    | (refine AWP_ret ?_; simp)
    | refine AWP_block ?_
    | refine AWP_seq ?_)
  refine AWP_cond2 rfl (fun h => ?_) (fun h => ?_)
  · repeat (first
      | (refine AWP_seq (AWP_regS tOk rfl ?_); simp)
      | (refine AWP_regS tOk rfl ?_; simp)
      | (refine AWP_skip ?_; simp)
      | (refine AWP_exit ?_; simp)
      | (refine AWP_ret ?_; simp)
      | refine AWP_block ?_
      | refine AWP_seq ?_)
    rw [if_pos (by simpa [timeT] using h)] at hR
    rw [← hR]
    simp
  rw [if_neg (by simpa [timeT] using h)] at hR
  rw [hfs] at hR hlv hl8
  generalize hfs2 : l[k].fields = fs at *
  obtain ⟨es, eq, et, em, vs⟩ := e
  simp only at hk hR hlv
  subst hk
  repeat (first
    | (refine AWP_seq (AWP_regS tOk rfl ?_); simp [hkl, hfs2])
    | (refine AWP_regS tOk rfl ?_; simp [hkl, hfs2])
    | (refine AWP_skip ?_; simp [hkl, hfs2])
    | (refine AWP_exit ?_; simp [hkl, hfs2])
    | (refine AWP_ret ?_; simp [hkl, hfs2])
    | refine AWP_block ?_
    | refine AWP_seq ?_)
  refine AWP_loop (ALoop_keep (sl' := [(2, .str n), (4, .vptr 0 0), (6, .vptr 1 0), (28, .list (fs.map encF)), (29, .i fs.length), (30, .i 0)]) ?_ (by simp))
  refine ALoop_wf (F := fun (u : Nat × List AObj) => ⟨[(2, .str n), (4, .vptr 0 0), (6, .vptr 1 0), (28, .list (fs.map encF)), (29, .i fs.length), (30, .i u.1)], u.2⟩)
    (fun u => u.1 ≤ fs.length ∧ u.2[0]? = some (.vars [.i es, .i eq, .i k, .i em, .list (vs.map encV)]) ∧ u.2[1]? = some (.vars [.i 0, .i 0, .str []]) ∧ findF (fs.drop u.1) (vs.drop u.1) n = R) (fun u => fs.length - u.1) ?_ (0, _) ⟨by simp, rfl, rfl, by simpa using hR⟩
  rintro ⟨j, H2⟩ ⟨hj, g0, g1, g2⟩ ih
  simp only at hj g0 g1 g2 ih ⊢
  repeat (first
    | (refine AWP_seq (AWP_regS tOk rfl ?_); simp)
    | (refine AWP_regS tOk rfl ?_; simp)
    | (refine AWP_skip ?_; simp)
    | (refine AWP_exit ?_; simp)
    | (refine AWP_ret ?_; simp)
    | refine AWP_block ?_
    | refine AWP_seq ?_)
  refine AWP_cond2 rfl (fun hlt => ?_) (fun hge => ?_)
  · have hlt' : j < fs.length := by simpa using hlt
    have hltv : j < vs.length := by omega
    have hw : IntKind.i64.wrap ((j : Int) + 1) = j + 1 := wrap_i64 _ (by omega) (by omega)
    rw [drop_get hlt', drop_get hltv, findF] at g2
    repeat (first
      | (refine AWP_seq (AWP_regS tOk rfl ?_); simp [hlt'])
      | (refine AWP_regS tOk rfl ?_; simp [hlt'])
      | (refine AWP_skip ?_; simp [hlt'])
      | (refine AWP_exit ?_; simp [hlt'])
      | (refine AWP_ret ?_; simp [hlt'])
      | refine AWP_block ?_
      | refine AWP_seq ?_)
    refine AWP_cond2 rfl (fun h4 => ?_) (fun h4 => ?_)
    · rw [if_pos (by simpa using h4)] at g2
      have gs : ∀ y G, (H2.set 1 y ++ G)[1]? = some y := fun y G => get_app (get_self g1 y) G
      repeat (first
        | (refine AWP_seq (AWP_regS tOk rfl ?_); simp [hltv, get_app g0, get_app' g0, get_app g1, get_app' g1, set_app g1, gs])
        | (refine AWP_regS tOk rfl ?_; simp [hltv, get_app g0, get_app' g0, get_app g1, get_app' g1, set_app g1, gs])
        | (refine AWP_skip ?_; simp [hltv, get_app g0, get_app' g0, get_app g1, get_app' g1, set_app g1, gs])
        | (refine AWP_exit ?_; simp [hltv, get_app g0, get_app' g0, get_app g1, get_app' g1, set_app g1, gs])
        | (refine AWP_ret ?_; simp [hltv, get_app g0, get_app' g0, get_app g1, get_app' g1, set_app g1, gs])
        | refine AWP_block ?_
        | refine AWP_seq ?_)
      rw [← g2]
      simp
    rw [if_neg (by simpa using h4)] at g2
    repeat (first
      | (refine AWP_seq (AWP_regS tOk rfl ?_); simp [hw])
      | (refine AWP_regS tOk rfl ?_; simp [hw])
      | (refine AWP_skip ?_; simp [hw])
      | (refine AWP_exit ?_; simp [hw])
      | (refine AWP_ret ?_; simp [hw])
      | refine AWP_block ?_
      | refine AWP_seq ?_)
    exact ALoop_keep (sl' := [(2, .str n), (4, .vptr 0 0), (6, .vptr 1 0), (28, .list (fs.map encF)), (29, .i fs.length), (30, .i (j + 1 : Nat))]) (ih (j + 1, _) ⟨by simp; omega, get_app g0 _, get_app g1 _, g2⟩ (by simp; omega)) (by simp)
  · have hge' : j = fs.length := by simp at hge; omega
    subst hge'
    rw [List.drop_length, findF] at g2
    · have gs : ∀ y, (H2.set 1 y)[1]? = some y := fun y => get_self g1 y
      repeat (first
        | (refine AWP_seq (AWP_regS tOk rfl ?_); simp [get_app g1, get_app' g1, g1, gs])
        | (refine AWP_regS tOk rfl ?_; simp [get_app g1, get_app' g1, g1, gs])
        | (refine AWP_skip ?_; simp [get_app g1, get_app' g1, g1, gs])
        | (refine AWP_exit ?_; simp [get_app g1, get_app' g1, g1, gs])
        | (refine AWP_ret ?_; simp [get_app g1, get_app' g1, g1, gs])
        | refine AWP_block ?_
        | refine AWP_seq ?_)
      rw [← g2]
      simp [zeroV]
    · intro f fs' v vs' h1 h2; cases h1
/-- What a key's numbers have to be. -/
def keyBad : List Int → List Sch → Bool
  | k :: ks, s :: l => decide (k < -1) || decide ((s.fields.length : Int) ≤ k) || keyBad ks l
  | _, _ => false
def keyR (l : List Sch) (key : List Int) (e : Ev) : Val × Bool × Int :=
  if ckEv l e ≠ 0 then (zeroV, false, ckEv l e) else if key = [] then (zeroV, true, 0) else if key.length ≠ l.length then (zeroV, false, 15) else
    if keyBad key l = true then (zeroV, false, 16) else
      if 0 ≤ key.getD e.type.toNat 0 then (e.values.getD (key.getD e.type.toNat 0).toNat zeroV, true, 0) else (zeroV, false, 0)
theorem keyBad_get : ∀ (key : List Int) (l : List Sch), keyBad key l = false → ∀ (i : Nat) (h1 : i < key.length) (h2 : i < l.length), -1 ≤ key[i] ∧ key[i] < l[i].fields.length
  | k :: ks, s :: l, h, 0, _, _ => by
    simp only [keyBad, Bool.or_eq_false_iff, decide_eq_false_iff_not] at h
    simp only [List.getElem_cons_zero]
    omega
  | k :: ks, s :: l, h, i + 1, h1, h2 => by
    simp only [keyBad, Bool.or_eq_false_iff] at h
    exact keyBad_get ks l h.2 i (by simpa using h1) (by simpa using h2)
attribute [simp] T35
set_option maxHeartbeats 4000000 in
theorem pc_eKey (l : List Sch) (key : List Int) (e : Ev) (hkl0 : key.length ≤ 1000000) : PC Tryz.prog 10 [.list (l.map encSch), .list (key.map (AV.int .i64)), encE e] (fun r => r = .tup [encV (keyR l key e).1, .bool (keyR l key e).2.1, .i (keyR l key e).2.2]) := by
  refine PC_body tOk Tryz.func10 rfl Tryz.results10 rfl (by simp [Tryz.ntmps10]) ?_
  rw [Tryz.ntmps10]
  simp only [argSlots]
  obtain ⟨R, hR⟩ : ∃ R, keyR l key e = R := ⟨_, rfl⟩
  rw [hR]
  rw [keyR] at hR
  repeat (first
    | (refine AWP_seq (AWP_regS tOk rfl ?_); simp)
    | (refine AWP_regS tOk rfl ?_; simp)
    | (refine AWP_skip ?_; simp)
    | (refine AWP_exit ?_; simp)
    | (refine AWP_ret ?_; simp)
    | refine AWP_block ?_
    | refine AWP_seq ?_)
  refine AStep_PC rfl rfl (by simp) (pc_eCheck l e) rfl ?_
  rintro _ rfl
  simp
  repeat (first
    | (refine AWP_seq (AWP_regS tOk rfl ?_); simp)
    | (refine AWP_regS tOk rfl ?_; simp)
    | (refine AWP_skip ?_; simp)
    | (refine AWP_exit ?_; simp)
    | (refine AWP_ret ?_; simp)
    | refine AWP_block ?_
    | refine AWP_seq ?_)
  refine AWP_cond2 rfl (fun h => ?_) (fun h => ?_)
  · repeat (first
      | (refine AWP_seq (AWP_regS tOk rfl ?_); simp)
      | (refine AWP_regS tOk rfl ?_; simp)
      | (refine AWP_skip ?_; simp)
      | (refine AWP_exit ?_; simp)
      | (refine AWP_ret ?_; simp)
      | refine AWP_block ?_
      | refine AWP_seq ?_)
    rw [if_pos (by simpa using h)] at hR
    rw [← hR]
    simp [zeroV]
  rw [if_neg (by simpa using h)] at hR
  obtain ⟨h0, ⟨k, hk, hkl, hfs⟩, hlv, hl8, _, _⟩ := ev_ok (l := l) (e := e) (by simpa using h)
  have hll := ckSchs_len h0
  clear h
  by_cases hkey : key = []
  · rw [if_pos hkey] at hR
    subst hkey
    repeat (first
      | (refine AWP_seq (AWP_regS tOk rfl ?_); simp)
      | (refine AWP_regS tOk rfl ?_; simp)
      | (refine AWP_skip ?_; simp)
      | (refine AWP_exit ?_; simp)
      | (refine AWP_ret ?_; simp)
      | refine AWP_block ?_
      | refine AWP_seq ?_)
    refine AWP_cond rfl ?_
    repeat (first
      | (refine AWP_seq (AWP_regS tOk rfl ?_); simp)
      | (refine AWP_regS tOk rfl ?_; simp)
      | (refine AWP_skip ?_; simp)
      | (refine AWP_exit ?_; simp)
      | (refine AWP_ret ?_; simp)
      | refine AWP_block ?_
      | refine AWP_seq ?_)
    rw [← hR]
    simp [zeroV]
  rw [if_neg hkey] at hR
  have hk1 : ((key.length : Int) == 0) = false := beq_eq_false_iff_ne.2 (by have := List.length_pos_iff.2 hkey; omega)
  repeat (first
    | (refine AWP_seq (AWP_regS tOk rfl ?_); simp)
    | (refine AWP_regS tOk rfl ?_; simp)
    | (refine AWP_skip ?_; simp)
    | (refine AWP_exit ?_; simp)
    | (refine AWP_ret ?_; simp)
    | refine AWP_block ?_
    | refine AWP_seq ?_)
  refine AWP_cond2 rfl (fun h => by rw [hk1] at h; cases h) (fun _ => ?_)
  repeat (first
    | (refine AWP_seq (AWP_regS tOk rfl ?_); simp)
    | (refine AWP_regS tOk rfl ?_; simp)
    | (refine AWP_skip ?_; simp)
    | (refine AWP_exit ?_; simp)
    | (refine AWP_ret ?_; simp)
    | refine AWP_block ?_
    | refine AWP_seq ?_)
  refine AWP_cond2 rfl (fun h => ?_) (fun h => ?_)
  · repeat (first
      | (refine AWP_seq (AWP_regS tOk rfl ?_); simp)
      | (refine AWP_regS tOk rfl ?_; simp)
      | (refine AWP_skip ?_; simp)
      | (refine AWP_exit ?_; simp)
      | (refine AWP_ret ?_; simp)
      | refine AWP_block ?_
      | refine AWP_seq ?_)
    rw [if_pos (by simp at h; omega)] at hR
    rw [← hR]
    simp [zeroV]
  have hkll : key.length = l.length := by simp at h; omega
  rw [if_neg (by omega)] at hR
  clear h
  obtain ⟨B, hB⟩ : ∃ B, keyBad key l = B := ⟨_, rfl⟩
  rw [hB] at hR
  obtain ⟨es, eq, et, em, vs⟩ := e
  simp only at hk hR hlv
  subst hk
  repeat (first
    | (refine AWP_seq (AWP_regS tOk rfl ?_); simp)
    | (refine AWP_regS tOk rfl ?_; simp)
    | (refine AWP_skip ?_; simp)
    | (refine AWP_exit ?_; simp)
    | (refine AWP_ret ?_; simp)
    | refine AWP_block ?_
    | refine AWP_seq ?_)
  refine AWP_loop (ALoop_keep (sl' := [(0, .list (l.map encSch)), (1, .list (key.map (AV.int .i64))), (5, .vptr 0 0), (6, .vptr 1 0), (30, .list (key.map (AV.int .i64))), (31, .i key.length), (32, .i 0)]) ?_ (by simp))
  refine ALoop_wf (F := fun (u : Nat) => ⟨[(0, .list (l.map encSch)), (1, .list (key.map (AV.int .i64))), (5, .vptr 0 0), (6, .vptr 1 0), (30, .list (key.map (AV.int .i64))), (31, .i key.length), (32, .i u)], [.vars [.i es, .i eq, .i k, .i em, .list (vs.map encV)], .vars [.i 0, .i 0, .str []]]⟩)
    (fun u => u ≤ key.length ∧ keyBad (key.drop u) (l.drop u) = B) (fun u => key.length - u) ?_ 0 ⟨by simp, by simpa using hB⟩
  rintro j ⟨hj, g0⟩ ih
  repeat (first
    | (refine AWP_seq (AWP_regS tOk rfl ?_); simp)
    | (refine AWP_regS tOk rfl ?_; simp)
    | (refine AWP_skip ?_; simp)
    | (refine AWP_exit ?_; simp)
    | (refine AWP_ret ?_; simp)
    | refine AWP_block ?_
    | refine AWP_seq ?_)
  refine AWP_cond2 rfl (fun hlt => ?_) (fun hge => ?_)
  · have hlt' : j < key.length := by simpa using hlt
    have hltl : j < l.length := by omega
    have hw : IntKind.i64.wrap ((j : Int) + 1) = j + 1 := wrap_i64 _ (by omega) (by omega)
    rw [drop_get hlt', drop_get hltl, keyBad] at g0
    repeat (first
      | (refine AWP_seq (AWP_regS tOk rfl ?_); simp [hlt', hltl])
      | (refine AWP_regS tOk rfl ?_; simp [hlt', hltl])
      | (refine AWP_skip ?_; simp [hlt', hltl])
      | (refine AWP_exit ?_; simp [hlt', hltl])
      | (refine AWP_ret ?_; simp [hlt', hltl])
      | refine AWP_block ?_
      | refine AWP_seq ?_)
    cases hb : (decide (key[j] < -1) || decide ((l[j].fields.length : Int) ≤ key[j])) with
    | true =>
      rw [hb, Bool.true_or] at g0
      refine AWP_cond2 rfl (fun _ => ?_) (fun h => by first | (simp at h hb; done) | (simp at h hb; omega))
      repeat (first
        | (refine AWP_seq (AWP_regS tOk rfl ?_); simp)
        | (refine AWP_regS tOk rfl ?_; simp)
        | (refine AWP_skip ?_; simp)
        | (refine AWP_exit ?_; simp)
        | (refine AWP_ret ?_; simp)
        | refine AWP_block ?_
        | refine AWP_seq ?_)
      rw [← g0, if_pos rfl] at hR
      rw [← hR]
      simp [zeroV]
    | false =>
      rw [hb, Bool.false_or] at g0
      refine AWP_cond2 rfl (fun h => by first | (simp at h hb; done) | (simp at h hb; omega)) (fun _ => ?_)
      repeat (first
        | (refine AWP_seq (AWP_regS tOk rfl ?_); simp [hw])
        | (refine AWP_regS tOk rfl ?_; simp [hw])
        | (refine AWP_skip ?_; simp [hw])
        | (refine AWP_exit ?_; simp [hw])
        | (refine AWP_ret ?_; simp [hw])
        | refine AWP_block ?_
        | refine AWP_seq ?_)
      exact ALoop_keep (sl' := [(0, .list (l.map encSch)), (1, .list (key.map (AV.int .i64))), (5, .vptr 0 0), (6, .vptr 1 0), (30, .list (key.map (AV.int .i64))), (31, .i key.length), (32, .i (j + 1 : Nat))]) (ih (j + 1) ⟨by omega, g0⟩ (by omega)) (by simp)
  · have hge' : j = key.length := by simp at hge; omega
    subst hge'
    rw [List.drop_length, keyBad] at g0
    · subst g0
      rw [if_neg (by simp)] at hR
      have hkk : k < key.length := by omega
      have hb := keyBad_get key l hB k hkk hkl
      have hgd : key.getD (k : Int).toNat 0 = key[k] := by rw [List.getD_eq_getElem?_getD]; simp [hkk]
      rw [hgd] at hR
      repeat (first
        | (refine AWP_seq (AWP_regS tOk rfl ?_); simp [hkk])
        | (refine AWP_regS tOk rfl ?_; simp [hkk])
        | (refine AWP_skip ?_; simp [hkk])
        | (refine AWP_exit ?_; simp [hkk])
        | (refine AWP_ret ?_; simp [hkk])
        | refine AWP_block ?_
        | refine AWP_seq ?_)
      by_cases h0k : 0 ≤ key[k]
      · rw [if_pos h0k] at hR
        obtain ⟨m, hm⟩ : ∃ m : Nat, key[k] = m := ⟨key[k].toNat, by omega⟩
        have hmv : m < vs.length := by rw [hlv, hfs]; omega
        have hgv : vs.getD (key[k]).toNat zeroV = vs[m] := by rw [hm, List.getD_eq_getElem?_getD]; simp [hmv]
        rw [hgv] at hR
        rw [hm]
        repeat (first
          | (refine AWP_seq (AWP_regS tOk rfl ?_); simp)
          | (refine AWP_regS tOk rfl ?_; simp)
          | (refine AWP_skip ?_; simp)
          | (refine AWP_exit ?_; simp)
          | (refine AWP_ret ?_; simp)
          | refine AWP_block ?_
          | refine AWP_seq ?_)
        refine AWP_cond2 rfl (fun _ => ?_) (fun h => by first | (simp at h; done) | (simp at h; omega))
        repeat (first
          | (refine AWP_seq (AWP_regS tOk rfl ?_); simp [hmv])
          | (refine AWP_regS tOk rfl ?_; simp [hmv])
          | (refine AWP_skip ?_; simp [hmv])
          | (refine AWP_exit ?_; simp [hmv])
          | (refine AWP_ret ?_; simp [hmv])
          | refine AWP_block ?_
          | refine AWP_seq ?_)
        rw [← hR]
        simp
      · rw [if_neg h0k] at hR
        repeat (first
          | (refine AWP_seq (AWP_regS tOk rfl ?_); simp)
          | (refine AWP_regS tOk rfl ?_; simp)
          | (refine AWP_skip ?_; simp)
          | (refine AWP_exit ?_; simp)
          | (refine AWP_ret ?_; simp)
          | refine AWP_block ?_
          | refine AWP_seq ?_)
        refine AWP_cond2 rfl (fun h => absurd (by simpa using h) h0k) (fun _ => ?_)
        repeat (first
          | (refine AWP_seq (AWP_regS tOk rfl ?_); simp)
          | (refine AWP_regS tOk rfl ?_; simp)
          | (refine AWP_skip ?_; simp)
          | (refine AWP_exit ?_; simp)
          | (refine AWP_ret ?_; simp)
          | refine AWP_block ?_
          | refine AWP_seq ?_)
        rw [← hR]
        simp [zeroV]
    · intro a b c d h1 h2; cases h1
end Go.Abs
set_option maxRecDepth 100000
namespace Go.Abs
open Go Go.Proofs
set_option linter.unusedSimpArgs false
attribute [simp] T60
set_option maxHeartbeats 400000 in
theorem fc_bgrow (n : Nat) (h0 : 0 < n) (hn : n ≤ 100000000) : FC Tryz.prog 50 [.vptr 0 0, .i n] [.vars [.vptr 0 0, .nils], .tag 0 76] (fun r H' => r = .tup [] ∧ H' = bld (.vptr 0 0) []) := by
  refine FC_body tOk Tryz.func50 rfl Tryz.results50 rfl (by simp [Tryz.ntmps50]) ?_
  rw [Tryz.ntmps50]
  simp only [argSlots]
  have hw : IntKind.i64.wrap (n : Int) = n := wrap_i64 _ (by omega) (by omega)
  have hw0 : IntKind.i64.wrap 0 = 0 := wrap_i64 _ (by omega) (by omega)
  repeat (first
    | (refine AWP_seq (AWP_regS tOk rfl ?_); simp)
    | (refine AWP_regS tOk rfl ?_; simp)
    | (refine AWP_skip ?_; simp)
    | (refine AWP_exit ?_; simp)
    | (refine AWP_ret ?_; simp)
    | refine AWP_block ?_
    | refine AWP_seq ?_)
  refine AWP_drawT tOk mixed [] (.val 0 (.val 1 (.val 2 (.val 3 (.val 6 (.val 9 (.val 10 (.val 11 (.val 12 (.val 13 (.one 4 (.val 5 (.val 7 (.one 8 (.val 14 (.val 15 (.done))))))))))))))))) rfl (by kernel_rfl) ?_
  simp [hw]
  refine AStep_capNil tOk rfl rfl T74 rfl rfl rfl ?_
  simp [hw]
  refine AStep_makeNoZero tOk rfl rfl (n := n) (ps := #[3]) (t := 74) (e := 5) (by simp [hw0, hw]) Tryz.func66 (by kernel_rfl) (by kernel_rfl) (by kernel_rfl) (by kernel_rfl) T74 rfl (by omega) ?_
  simp
  refine AWP_keep (sl' := [(0, .vptr 0 0), (4, .sl 2 1 0 0)]) ?_ (by simp)
  refine AWP_trunc 2 0 rfl ?_
  simp
  repeat (first
    | (refine AWP_seq (AWP_regS tOk rfl ?_); simp)
    | (refine AWP_regS tOk rfl ?_; simp)
    | (refine AWP_skip ?_; simp)
    | (refine AWP_exit ?_; simp)
    | (refine AWP_ret ?_; simp)
    | refine AWP_block ?_
    | refine AWP_seq ?_)
  refine AStep_copy tOk rfl rfl T74 rfl T5 rfl (ys := []) rfl rfl rfl (by simp) (by simp) rfl ?_
  simp
  repeat (first
    | (refine AWP_seq (AWP_regS tOk rfl ?_); simp)
    | (refine AWP_regS tOk rfl ?_; simp)
    | (refine AWP_skip ?_; simp)
    | (refine AWP_exit ?_; simp)
    | (refine AWP_ret ?_; simp)
    | refine AWP_block ?_
    | refine AWP_seq ?_)
  simp [bld]
set_option maxHeartbeats 400000 in
theorem fc_bGrow (n : Nat) (h0 : 0 < n) (hn : n ≤ 100000000) : FC Tryz.prog 34 [.vptr 0 0, .i n] [.vars [.nilp, .nils], .tag 0 76] (fun r H' => r = .tup [] ∧ H' = bld (.vptr 0 0) []) := by
  refine FC_body tOk Tryz.func34 rfl Tryz.results34 rfl (by simp [Tryz.ntmps34]) ?_
  rw [Tryz.ntmps34]
  simp only [argSlots]
  have hw0 : IntKind.i64.wrap 0 = 0 := wrap_i64 _ (by omega) (by omega)
  have hn1 : ¬ (n : Int) < 0 := by omega
  have hn2 : (0 : Int) < n := by omega
  repeat (first
    | (refine AWP_seq (AWP_regS tOk rfl ?_); simp)
    | (refine AWP_regS tOk rfl ?_; simp)
    | (refine AWP_skip ?_; simp)
    | (refine AWP_exit ?_; simp)
    | (refine AWP_ret ?_; simp)
    | refine AWP_block ?_
    | refine AWP_seq ?_)
  refine AStep_FC rfl rfl (fc_copyCheck _ 0 1 .nilp _ (.inl rfl) rfl rfl) rfl ?_
  rintro _ _ ⟨rfl, rfl⟩
  simp
  repeat (first
    | (refine AWP_seq (AWP_regS tOk rfl ?_); simp [hn1])
    | (refine AWP_regS tOk rfl ?_; simp [hn1])
    | (refine AWP_skip ?_; simp [hn1])
    | (refine AWP_exit ?_; simp [hn1])
    | (refine AWP_ret ?_; simp [hn1])
    | refine AWP_block ?_
    | refine AWP_seq ?_)
  refine AWP_cond rfl ?_
  repeat (first
    | (refine AWP_seq (AWP_regS tOk rfl ?_); simp)
    | (refine AWP_regS tOk rfl ?_; simp)
    | (refine AWP_skip ?_; simp)
    | (refine AWP_exit ?_; simp)
    | (refine AWP_ret ?_; simp)
    | refine AWP_block ?_
    | refine AWP_seq ?_)
  refine AWP_drawT tOk mixed [] (.val 0 (.val 1 (.val 2 (.val 3 (.val 5 (.val 6 (.val 7 (.val 8 (.val 9 (.val 11 (.one 4 (.val 10 (.val 12 (.done)))))))))))))) rfl (by kernel_rfl) ?_
  simp [hw0]
  refine AStep_capNil tOk rfl rfl T74 rfl rfl rfl ?_
  simp [hw0]
  repeat (first
    | (refine AWP_seq (AWP_regS tOk rfl ?_); simp [hn2, hw0])
    | (refine AWP_regS tOk rfl ?_; simp [hn2, hw0])
    | (refine AWP_skip ?_; simp [hn2, hw0])
    | (refine AWP_exit ?_; simp [hn2, hw0])
    | (refine AWP_ret ?_; simp [hn2, hw0])
    | refine AWP_block ?_
    | refine AWP_seq ?_)
  refine AWP_cond rfl ?_
  rw [if_pos (by simpa using h0)]
  repeat (first
    | (refine AWP_seq (AWP_regS tOk rfl ?_); simp)
    | (refine AWP_regS tOk rfl ?_; simp)
    | (refine AWP_skip ?_; simp)
    | (refine AWP_exit ?_; simp)
    | (refine AWP_ret ?_; simp)
    | refine AWP_block ?_
    | refine AWP_seq ?_)
  refine AStep_FC rfl rfl (fc_bgrow n h0 hn) rfl ?_
  rintro _ _ ⟨rfl, rfl⟩
  simp
  repeat (first
    | (refine AWP_seq (AWP_regS tOk rfl ?_); simp)
    | (refine AWP_regS tOk rfl ?_; simp)
    | (refine AWP_skip ?_; simp)
    | (refine AWP_exit ?_; simp)
    | (refine AWP_ret ?_; simp)
    | refine AWP_block ?_
    | refine AWP_seq ?_)
theorem join_cons2 (x : List UInt8) (r : List (List UInt8)) (sep : List UInt8) (j : Nat) (h : j < r.length) : Lib.join (x :: r.take (j + 1)) sep = Lib.join (x :: r.take j) sep ++ (sep ++ r[j]) := by
  rw [Lib.join_cons, Lib.join_cons, List.take_succ_eq_append_getElem h, Lib.joinTail, Lib.joinTail, List.map_append, List.flatten_append, List.append_assoc]
  simp
def lensR (l : List (List UInt8)) : Nat := (l.map List.length).sum
theorem lensR_snoc (l : List (List UInt8)) (j : Nat) (h : j < l.length) : lensR (l.take (j + 1)) = lensR (l.take j) + l[j].length := by
  rw [List.take_succ_eq_append_getElem h, lensR, lensR, List.map_append, List.sum_append]; simp
theorem lensR_le (l : List (List UInt8)) (hx : ∀ x ∈ l, x.length ≤ 1000) : ∀ j, lensR (l.take j) ≤ 1000 * j
  | 0 => by simp [lensR]
  | j + 1 => by
    have ih := lensR_le l hx j
    by_cases h : j < l.length
    · have := hx _ (List.getElem_mem h)
      rw [lensR_snoc l j h]; omega
    · have e : l.take (j + 1) = l.take j := by rw [List.take_of_length_le (by omega), List.take_of_length_le (by omega)]
      rw [e]; omega
theorem join_len (x : List UInt8) (t : List (List UInt8)) (sep : List UInt8) (hs : sep.length ≤ 1000) (hx : x.length ≤ 1000) (ht : ∀ z ∈ t, z.length ≤ 1000) : ∀ j, (Lib.join (x :: t.take j) sep).length ≤ 1000 + 2000 * j
  | 0 => by rw [List.take_zero, Lib.join_one]; omega
  | j + 1 => by
    have ih := join_len x t sep hs hx ht j
    by_cases h : j < t.length
    · have := ht _ (List.getElem_mem h)
      rw [join_cons2 x t sep j h, List.length_append, List.length_append]; omega
    · have e : t.take (j + 1) = t.take j := by rw [List.take_of_length_le (by omega), List.take_of_length_le (by omega)]
      rw [e]; omega
theorem join_ne (x : List UInt8) (t : List (List UInt8)) (sep : List UInt8) (h0 : sep ≠ []) (h : t ≠ []) : Lib.join (x :: t) sep ≠ [] := by
  rw [Lib.join_cons]
  cases t with
  | nil => exact absurd rfl h
  | cons y r => simp [Lib.joinTail, h0]
theorem quo_big (k : Nat) (h0 : 0 < k) (h1 : k ≤ 1000) : (9223372036854775 : Int) ≤ Int.tdiv 9223372036854775807 k ∧ Int.tdiv 9223372036854775807 k ≤ 9223372036854775807 := by
  rw [Int.tdiv_eq_ediv_of_nonneg (by decide)]
  constructor
  · rw [Int.le_ediv_iff_mul_le (by omega)]; omega
  · exact Int.ediv_le_self _ (by decide)
set_option maxHeartbeats 2000000 in
theorem pc_Join (l : List (List UInt8)) (sep : List UInt8) (h0 : sep ≠ []) (hs : sep.length ≤ 1000) (hl : l.length ≤ 1000) (hx : ∀ x ∈ l, x.length ≤ 1000) : PC Tryz.prog 23 [.list (l.map AV.str), .str sep] (fun r => r = .str (Lib.join l sep)) := by
  refine PC_body tOk Tryz.func23 rfl Tryz.results23 rfl (by simp [Tryz.ntmps23]) ?_
  rw [Tryz.ntmps23]
  simp only [argSlots]
  match l, hl, hx with
  | [], _, _ =>
    repeat (first
      | (refine AWP_seq (AWP_regS tOk rfl ?_); simp)
      | (refine AWP_regS tOk rfl ?_; simp)
      | (refine AWP_skip ?_; simp)
      | (refine AWP_exit ?_; simp)
      | (refine AWP_ret ?_; simp)
      | refine AWP_block ?_
      | refine AWP_seq ?_)
    refine AWP_cond rfl ?_
    repeat (first
      | (refine AWP_seq (AWP_regS tOk rfl ?_); simp)
      | (refine AWP_regS tOk rfl ?_; simp)
      | (refine AWP_skip ?_; simp)
      | (refine AWP_exit ?_; simp)
      | (refine AWP_ret ?_; simp)
      | refine AWP_block ?_
      | refine AWP_seq ?_)
    exact (Lib.join_nil sep).symm
  | [x], _, _ =>
    repeat (first
      | (refine AWP_seq (AWP_regS tOk rfl ?_); simp)
      | (refine AWP_regS tOk rfl ?_; simp)
      | (refine AWP_skip ?_; simp)
      | (refine AWP_exit ?_; simp)
      | (refine AWP_ret ?_; simp)
      | refine AWP_block ?_
      | refine AWP_seq ?_)
    refine AWP_cond rfl ?_
    repeat (first
      | (refine AWP_seq (AWP_regS tOk rfl ?_); simp)
      | (refine AWP_regS tOk rfl ?_; simp)
      | (refine AWP_skip ?_; simp)
      | (refine AWP_exit ?_; simp)
      | (refine AWP_ret ?_; simp)
      | refine AWP_block ?_
      | refine AWP_seq ?_)
    refine AWP_cond rfl ?_
    repeat (first
      | (refine AWP_seq (AWP_regS tOk rfl ?_); simp)
      | (refine AWP_regS tOk rfl ?_; simp)
      | (refine AWP_skip ?_; simp)
      | (refine AWP_exit ?_; simp)
      | (refine AWP_ret ?_; simp)
      | refine AWP_block ?_
      | refine AWP_seq ?_)
    exact (Lib.join_one x sep).symm
  | x :: y :: r, hl, hx =>
    obtain ⟨l, hL⟩ : ∃ l, x :: y :: r = l := ⟨_, rfl⟩
    have hl2 : 2 ≤ l.length := by rw [← hL]; simp
    have hx0 : l[0]? = some x := by rw [← hL]; rfl
    rw [hL] at hl hx ⊢
    have c1 : ((l.length : Int) == 0) = false := beq_eq_false_iff_ne.2 (by omega)
    have c2 : ((l.length : Int) == 1) = false := beq_eq_false_iff_ne.2 (by omega)
    have c0 : 0 < sep.length := List.length_pos_iff.2 h0
    obtain ⟨k, hk⟩ : ∃ k : Nat, k = l.length - 1 := ⟨_, rfl⟩
    have hw1 : IntKind.i64.wrap ((l.length : Int) - 1) = k := by rw [wrap_i64 _ (by omega) (by omega)]; omega
    have hk0 : ¬ k = 0 := by omega
    have hq := quo_big k (by omega) (by omega)
    have hw2 : IntKind.i64.wrap (Int.tdiv 9223372036854775807 k) = Int.tdiv 9223372036854775807 k := wrap_i64 _ (by omega) (by omega)
    have hw3 : ¬ Int.tdiv 9223372036854775807 k ≤ sep.length := by omega
    repeat (first
      | (refine AWP_seq (AWP_regS tOk rfl ?_); simp)
      | (refine AWP_regS tOk rfl ?_; simp)
      | (refine AWP_skip ?_; simp)
      | (refine AWP_exit ?_; simp)
      | (refine AWP_ret ?_; simp)
      | refine AWP_block ?_
      | refine AWP_seq ?_)
    refine AWP_cond2 rfl (fun h => by rw [c1] at h; cases h) (fun _ => ?_)
    repeat (first
      | (refine AWP_seq (AWP_regS tOk rfl ?_); simp)
      | (refine AWP_regS tOk rfl ?_; simp)
      | (refine AWP_skip ?_; simp)
      | (refine AWP_exit ?_; simp)
      | (refine AWP_ret ?_; simp)
      | refine AWP_block ?_
      | refine AWP_seq ?_)
    refine AWP_cond2 rfl (fun h => by rw [c2] at h; cases h) (fun _ => ?_)
    repeat (first
      | (refine AWP_seq (AWP_regS tOk rfl ?_); simp)
      | (refine AWP_regS tOk rfl ?_; simp)
      | (refine AWP_skip ?_; simp)
      | (refine AWP_exit ?_; simp)
      | (refine AWP_ret ?_; simp)
      | refine AWP_block ?_
      | refine AWP_seq ?_)
    refine AWP_cond2 rfl (fun _ => ?_) (fun h => by have h' := of_decide_eq_false h; omega)
    repeat (first
      | (refine AWP_seq (AWP_regS tOk rfl ?_); simp [hw1, hw2, hk0])
      | (refine AWP_regS tOk rfl ?_; simp [hw1, hw2, hk0])
      | (refine AWP_skip ?_; simp [hw1, hw2, hk0])
      | (refine AWP_exit ?_; simp [hw1, hw2, hk0])
      | (refine AWP_ret ?_; simp [hw1, hw2, hk0])
      | refine AWP_block ?_
      | refine AWP_seq ?_)
    refine AWP_cond2 rfl (fun h => absurd (by simpa [hw1, hw2] using h) hw3) (fun _ => ?_)
    obtain ⟨A, hA⟩ : ∃ A : Nat, A = sep.length * k := ⟨_, rfl⟩
    have hA1 : A ≤ 1000 * 1000 := by rw [hA]; exact Nat.mul_le_mul hs (by omega)
    have hA0 : 0 < A := by rw [hA]; exact Nat.mul_pos c0 (by omega)
    have hw4 : IntKind.i64.wrap ((sep.length : Int) * k) = A := by rw [wrap_i64 _ (by rw [← Int.natCast_mul, ← hA]; omega) (by rw [← Int.natCast_mul, ← hA]; omega), ← Int.natCast_mul, ← hA]
    have hw5 : IntKind.i64.wrap (A : Int) = A := wrap_i64 _ (by omega) (by omega)
    repeat (first
      | (refine AWP_seq (AWP_regS tOk rfl ?_); simp [hw1, hw4, hw5])
      | (refine AWP_regS tOk rfl ?_; simp [hw1, hw4, hw5])
      | (refine AWP_skip ?_; simp [hw1, hw4, hw5])
      | (refine AWP_exit ?_; simp [hw1, hw4, hw5])
      | (refine AWP_ret ?_; simp [hw1, hw4, hw5])
      | refine AWP_block ?_
      | refine AWP_seq ?_)
    refine AWP_keep (sl' := [(0, .list (l.map AV.str)), (1, .str sep), (4, .str []), (5, .i A), (39, .list (l.map AV.str)), (40, .i l.length), (41, .i 0)]) ?_ (by simp)
    refine AWP_countI l.length (fun j => True) (fun j => [(0, .list (l.map AV.str)), (1, .str sep), (4, .str []), (5, .i (A + lensR (l.take j) : Nat)), (39, .list (l.map AV.str)), (40, .i l.length), (41, .i j)]) (fun _ => []) rfl (by simp [lensR]) (by simp [lensR]) (by simp [lensR]) (by simp [lensR]) (by simp [lensR]) ?_
    intro j hj _ ih
    have hb := lensR_le l hx j
    repeat (first
      | (refine AWP_seq (AWP_regS tOk rfl ?_); simp)
      | (refine AWP_regS tOk rfl ?_; simp)
      | (refine AWP_skip ?_; simp)
      | (refine AWP_exit ?_; simp)
      | (refine AWP_ret ?_; simp)
      | refine AWP_block ?_
      | refine AWP_seq ?_)
    refine AWP_cond2 rfl (fun hlt => ?_) (fun hge => ?_)
    · have hlt' : j < l.length := by simpa using hlt
      have hxj := hx _ (List.getElem_mem hlt')
      have hw : IntKind.i64.wrap ((j : Int) + 1) = j + 1 := wrap_i64 _ (by omega) (by omega)
      have hn := lensR_snoc l j hlt'
      have hw6 : IntKind.i64.wrap (9223372036854775807 - ((A : Int) + (lensR (l.take j)))) = 9223372036854775807 - ((A : Int) + (lensR (l.take j))) := wrap_i64 _ (by omega) (by omega)
      have hw7 : IntKind.i64.wrap ((A : Int) + (lensR (l.take j)) + l[j].length) = (A : Int) + (lensR (l.take j)) + l[j].length := wrap_i64 _ (by omega) (by omega)
      repeat (first
        | (refine AWP_seq (AWP_regS tOk rfl ?_); simp [hlt', hw6])
        | (refine AWP_regS tOk rfl ?_; simp [hlt', hw6])
        | (refine AWP_skip ?_; simp [hlt', hw6])
        | (refine AWP_exit ?_; simp [hlt', hw6])
        | (refine AWP_ret ?_; simp [hlt', hw6])
        | refine AWP_block ?_
        | refine AWP_seq ?_)
      refine AWP_cond2 rfl (fun h => by have h' := of_decide_eq_true h; omega) (fun _ => ?_)
      repeat (first
        | (refine AWP_seq (AWP_regS tOk rfl ?_); simp [hw, hw7])
        | (refine AWP_regS tOk rfl ?_; simp [hw, hw7])
        | (refine AWP_skip ?_; simp [hw, hw7])
        | (refine AWP_exit ?_; simp [hw, hw7])
        | (refine AWP_ret ?_; simp [hw, hw7])
        | refine AWP_block ?_
        | refine AWP_seq ?_)
      refine ALoop_end _ (ih hlt' trivial) rfl (by simp) ?_ (by simp) (by simp)
      simp [hn]
      omega
    · have hge' : j = l.length := by simp at hge; omega
      subst hge'
      have hbl := lensR_le l hx l.length
      rw [List.take_length] at hbl ⊢
      refine AWP_exit ?_
      simp
      refine AWP_keep (sl' := [(0, .list (l.map AV.str)), (1, .str sep), (5, .i (A + lensR l : Nat))]) ?_ (by simp)
      obtain ⟨N, hN⟩ : ∃ N, N = A + lensR l := ⟨_, rfl⟩
      rw [← hN]
      have hN0 : 0 < N := by omega
      have hN1 : N ≤ 100000000 := by omega
      obtain ⟨t, ht⟩ : ∃ t, y :: r = t := ⟨_, rfl⟩
      rw [ht] at hL
      have htl : t.length ≤ 1000 := by rw [← hL] at hl; simp at hl; omega
      have hxx : x.length ≤ 1000 := hx x (by rw [← hL]; simp)
      have hxt : ∀ z ∈ t, z.length ≤ 1000 := fun z hz => hx z (by rw [← hL]; simp [hz])
      clear hx hbl hb hN hA ih hk hq hw2 hw3 hw4 hw5 hA0 hA1 hx0 c1 c2 hl2 hj hge
      subst hL
      refine AWP_seq (AWP_reg1 (AStep_allocT tOk rfl rfl T76 rfl ?_))
      simp
      refine AWP_seq (AWP_regS tOk rfl ?_)
      simp
      refine AStep_FC rfl rfl (fc_bGrow N hN0 hN1) rfl ?_
      rintro _ _ ⟨rfl, rfl⟩
      simp
      refine AWP_seq (AWP_regS tOk rfl ?_)
      simp
      refine AStep_FC rfl rfl (fc_WriteString (.vptr 0 0) (.inr rfl) [] x (by simp) (by omega)) rfl ?_
      rintro _ _ ⟨rfl, rfl⟩
      simp
      have hone : (1 : Int) ≤ t.length + 1 := by omega
      repeat (first
        | (refine AWP_seq (AWP_regS tOk rfl ?_); simp [hone])
        | (refine AWP_regS tOk rfl ?_; simp [hone])
        | (refine AWP_skip ?_; simp [hone])
        | (refine AWP_exit ?_; simp [hone])
        | (refine AWP_ret ?_; simp [hone])
        | refine AWP_block ?_
        | refine AWP_seq ?_)
      refine AWP_ren [0, 1, 3] (sl' := [(1, .str sep), (8, .vptr 0 0), (63, .list (t.map AV.str)), (64, .i t.length), (65, .i 0)]) (H' := bld (.vptr 0 0) x) ?_ (by simp [bld]) (by decide) (by simp) rfl (by simp [bld]) (by simp [bld]) (by simp)
      refine AWP_count t.length (fun j => [(1, .str sep), (8, .vptr 0 0), (63, .list (t.map AV.str)), (64, .i t.length), (65, .i j)]) (fun j => bld (.vptr 0 0) (Lib.join (x :: t.take j) sep)) (G := []) (by simp [Lib.join_one]) (by simp) (by simp) (by simp [bld]) (by simp [bld]) ?_
      intro j hj ih
      have hq := join_len x t sep hs hxx hxt j
      have hq' : (Lib.join (x :: t.take j) sep).length ≤ 100000000 := by omega
      repeat (first
        | (refine AWP_seq (AWP_regS tOk rfl ?_); simp)
        | (refine AWP_regS tOk rfl ?_; simp)
        | (refine AWP_skip ?_; simp)
        | (refine AWP_exit ?_; simp)
        | (refine AWP_ret ?_; simp)
        | refine AWP_block ?_
        | refine AWP_seq ?_)
      refine AWP_cond2 rfl (fun hlt => ?_) (fun hge => ?_)
      · have hlt' : j < t.length := by simpa using hlt
        have hw : IntKind.i64.wrap ((j : Int) + 1) = j + 1 := wrap_i64 _ (by omega) (by omega)
        have hj2 := join_cons2 x t sep j hlt'
        have htj := hxt _ (List.getElem_mem hlt')
        generalize Lib.join (x :: t.take j) sep = J at hq hq' hj2 ⊢
        repeat (first
          | (refine AWP_seq (AWP_regS tOk rfl ?_); simp [hlt'])
          | (refine AWP_regS tOk rfl ?_; simp [hlt'])
          | (refine AWP_skip ?_; simp [hlt'])
          | (refine AWP_exit ?_; simp [hlt'])
          | (refine AWP_ret ?_; simp [hlt'])
          | refine AWP_block ?_
          | refine AWP_seq ?_)
        refine AStep_FC rfl rfl (fc_WriteString (.vptr 0 0) (.inr rfl) J sep hq' (by omega)) rfl ?_
        rintro _ _ ⟨rfl, rfl⟩
        simp
        refine AWP_ren [0, 1, 3] (sl' := [(1, .str sep), (8, .vptr 0 0), (10, .str t[j]), (63, .list (t.map AV.str)), (64, .i t.length), (65, .i j)]) (H' := bld (.vptr 0 0) (J ++ sep)) ?_ (by simp [bld]) (by decide) (by simp) rfl (by simp [bld]) (by simp [bld]) (by simp)
        repeat (first
          | (refine AWP_seq (AWP_regS tOk rfl ?_); simp)
          | (refine AWP_regS tOk rfl ?_; simp)
          | (refine AWP_skip ?_; simp)
          | (refine AWP_exit ?_; simp)
          | (refine AWP_ret ?_; simp)
          | refine AWP_block ?_
          | refine AWP_seq ?_)
        refine AStep_FC rfl rfl (fc_WriteString (.vptr 0 0) (.inr rfl) (J ++ sep) t[j] (by simp; omega) (by omega)) rfl ?_
        rintro _ _ ⟨rfl, rfl⟩
        simp
        repeat (first
          | (refine AWP_seq (AWP_regS tOk rfl ?_); simp [hw])
          | (refine AWP_regS tOk rfl ?_; simp [hw])
          | (refine AWP_skip ?_; simp [hw])
          | (refine AWP_exit ?_; simp [hw])
          | (refine AWP_ret ?_; simp [hw])
          | refine AWP_block ?_
          | refine AWP_seq ?_)
        refine ALoop_ren [0, 1, 3] (sl' := [(1, .str sep), (8, .vptr 0 0), (63, .list (t.map AV.str)), (64, .i t.length), (65, .i (j + 1 : Nat))]) (H' := bld (.vptr 0 0) (Lib.join (x :: t.take (j + 1)) sep)) (ih hlt') ?_ (by decide) (by simp) rfl (by simp [bld]) (by simp [bld]) ?_
        · rw [hj2]; simp [bld]
        · simp
      · have hge' : j = t.length := by simp at hge; omega
        subst hge'
        rw [List.take_length] at hq' ⊢
        repeat (first
          | (refine AWP_seq (AWP_regS tOk rfl ?_); simp)
          | (refine AWP_regS tOk rfl ?_; simp)
          | (refine AWP_skip ?_; simp)
          | (refine AWP_exit ?_; simp)
          | (refine AWP_ret ?_; simp)
          | refine AWP_block ?_
          | refine AWP_seq ?_)
        refine AStep_FC rfl rfl (FC_bString (Lib.join (x :: t) sep) (join_ne x t sep h0 (by rw [← ht]; simp)) hq') rfl ?_
        rintro _ H' rfl
        simp
        repeat (first
          | (refine AWP_seq (AWP_regS tOk rfl ?_); simp)
          | (refine AWP_regS tOk rfl ?_; simp)
          | (refine AWP_skip ?_; simp)
          | (refine AWP_exit ?_; simp)
          | (refine AWP_ret ?_; simp)
          | refine AWP_block ?_
          | refine AWP_seq ?_)
end Go.Abs
set_option maxRecDepth 100000
namespace Go.Abs
open Go Go.Proofs
set_option linter.unusedSimpArgs false
/-- The text of a well-formed event. -/
def partsR (l : List Sch) (e : Ev) : List (List UInt8) :=
  [(l.getD e.type.toNat default).name, Lib.itoa e.source ++ ([46] ++ Lib.itoa e.seq), 64 :: Lib.itoa e.time] ++ e.values.map (fun v => (formatR v).1)
def evFmtR (l : List Sch) (e : Ev) : List UInt8 × Int := if ckEv l e ≠ 0 then ([], ckEv l e) else (Lib.join (partsR l e) [32], 0)
attribute [local irreducible] ckEv numsR formatR Lib.itoa Lib.join checkR
theorem vals_ok : ∀ (vs : List Val) (fs : List Fld), valsR vs fs = 0 → vs.length = fs.length → ∀ v ∈ vs, checkR v = 0
  | [], _, _, _, v, hv => by simp at hv
  | x :: vs, [], _, hl, _, _ => by simp at hl
  | x :: vs, f :: fs, h, hl, v, hv => by
    rw [valsR] at h
    by_cases hx : checkR x ≠ 0
    · rw [if_pos hx] at h; exact absurd h hx
    rw [if_neg hx] at h
    by_cases hk : x.kind ≠ f.kind
    · rw [if_pos hk] at h; cases h
    rw [if_neg hk] at h
    rcases List.mem_cons.1 hv with rfl | hv
    · simpa using hx
    · exact vals_ok vs fs h (by simpa using hl) v hv
theorem nums_ok {e : Ev} (h : numsR e = 0) : 0 ≤ e.source ∧ e.source < 8 ∧ 0 ≤ e.seq ∧ e.seq ≤ 1099511627776 ∧ 0 ≤ e.time ∧ e.time ≤ 1099511627776 := by
  unfold numsR at h
  cases hs : badS e with
  | true => rw [hs, if_pos rfl] at h; cases h
  | false =>
    rw [hs, if_neg (by simp)] at h
    cases hn : badN e with
    | true => rw [hn, if_pos rfl] at h; cases h
    | false =>
      simp [badS] at hs
      simp [badN] at hn
      omega
set_option maxHeartbeats 4000000 in
theorem pc_eFormat (l : List Sch) (e : Ev) (hfl : ∀ v, checkR v = 0 → (formatR v).1.length ≤ 1000 ∧ (formatR v).2 = 0) : PC Tryz.prog 11 [.list (l.map encSch), encE e] (fun r => r = .tup [.str (evFmtR l e).1, .i (evFmtR l e).2]) := by
  refine PC_body tOk Tryz.func11 rfl Tryz.results11 rfl (by simp [Tryz.ntmps11]) ?_
  rw [Tryz.ntmps11]
  simp only [argSlots]
  obtain ⟨R, hR⟩ : ∃ R, evFmtR l e = R := ⟨_, rfl⟩
  rw [hR]
  rw [evFmtR] at hR
  repeat (first
    | (refine AWP_seq (AWP_regS tOk rfl ?_); simp)
    | (refine AWP_regS tOk rfl ?_; simp)
    | (refine AWP_skip ?_; simp)
    | (refine AWP_exit ?_; simp)
    | (refine AWP_ret ?_; simp)
    | refine AWP_block ?_
    | refine AWP_seq ?_)
  refine AStep_PC rfl rfl (by simp) (pc_eCheck l e) rfl ?_
  rintro _ rfl
  simp
  repeat (first
    | (refine AWP_seq (AWP_regS tOk rfl ?_); simp)
    | (refine AWP_regS tOk rfl ?_; simp)
    | (refine AWP_skip ?_; simp)
    | (refine AWP_exit ?_; simp)
    | (refine AWP_ret ?_; simp)
    | refine AWP_block ?_
    | refine AWP_seq ?_)
  refine AWP_cond2 rfl (fun h => ?_) (fun h => ?_)
  · repeat (first
      | (refine AWP_seq (AWP_regS tOk rfl ?_); simp)
      | (refine AWP_regS tOk rfl ?_; simp)
      | (refine AWP_skip ?_; simp)
      | (refine AWP_exit ?_; simp)
      | (refine AWP_ret ?_; simp)
      | refine AWP_block ?_
      | refine AWP_seq ?_)
    rw [if_pos (by simpa using h)] at hR
    rw [← hR]
    exact ⟨rfl, rfl⟩
  rw [if_neg (by simpa using h)] at hR
  obtain ⟨h0, ⟨k, hk, hkl, hfs⟩, hlv, hl8, hnum, hvals⟩ := ev_ok (l := l) (e := e) (by simpa using h)
  have hn := nums_ok hnum
  have hvok := vals_ok _ _ hvals hlv
  have hnm := name_len (ckSch_name (ckSchs_all h0 _ (List.getElem_mem hkl)))
  have hgd : (l.getD e.type.toNat default).name = l[k].name := by rw [hk, List.getD_eq_getElem?_getD]; simp [hkl]
  clear h hvals hnum
  unfold partsR at hR
  rw [hgd] at hR
  rw [hfs] at hlv hl8
  obtain ⟨es, eq, et, em, vs⟩ := e
  simp only at hk hR hlv hn hvok
  subst hk
  have hi1 := Lib.itoa_length_le es (by omega) (by omega)
  have hi2 := Lib.itoa_length_le eq (by omega) (by omega)
  have hi3 := Lib.itoa_length_le em (by omega) (by omega)
  have hA : (Lib.itoa es).length + 1 ≤ 9223372036854775807 := by omega
  have hB : (Lib.itoa es).length + 1 + (Lib.itoa eq).length ≤ 9223372036854775807 := by omega
  have hC : 1 + (Lib.itoa em).length ≤ 9223372036854775807 := by omega
  have r3 : List.range 3 = [0, 1, 2] := rfl
  repeat (first
    | (refine AWP_seq (AWP_regS tOk rfl ?_); simp)
    | (refine AWP_regS tOk rfl ?_; simp)
    | (refine AWP_skip ?_; simp)
    | (refine AWP_exit ?_; simp)
    | (refine AWP_ret ?_; simp)
    | refine AWP_block ?_
    | refine AWP_seq ?_)
  refine AWP_drawT tOk mixed [] (.val 0 (.val 1 (.val 2 (.val 3 (.val 4 (.val 5 (.val 6 (.val 7 (.val 10 (.val 11 (.val 14 (.val 15 (.one 8 (.val 9 (.one 12 (.val 13 (.one 16 (.val 17 (.one 18 (.val 19 (.done))))))))))))))))))))) rfl (by kernel_rfl) ?_
  simp [hkl]
  refine AStep_PC rfl rfl (by simp) (pc_Itoa es (by omega) (by omega)) rfl ?_
  rintro _ rfl
  simp [hA]
  refine AStep_PC rfl rfl (by simp) (pc_Itoa eq (by omega) (by omega)) rfl ?_
  rintro _ rfl
  simp [hA, hB]
  refine AStep_PC rfl rfl (by simp) (pc_Itoa em (by omega) (by omega)) rfl ?_
  rintro _ rfl
  simp [hA, hB, hC, r3]
  obtain ⟨P, hP⟩ : ∃ P, ([l[k].name, Lib.itoa es ++ ([46] ++ Lib.itoa eq), 64 :: Lib.itoa em] ++ vs.map (fun v => (formatR v).1)) = P := ⟨_, rfl⟩
  rw [hP] at hR
  have hPl : ∀ x ∈ P, x.length ≤ 1000 := fun x hx => by
    rw [← hP] at hx
    rcases List.mem_append.1 hx with h | h
    · simp at h
      rcases h with rfl | rfl | rfl
      · omega
      · simp; omega
      · simp; omega
    · obtain ⟨v, hv, rfl⟩ := List.mem_map.1 h
      exact (hfl v (hvok v hv)).1
  have hPn : P.length ≤ 11 := by rw [← hP]; simp; omega
  repeat (first
    | (refine AWP_seq (AWP_regS tOk rfl ?_); simp)
    | (refine AWP_regS tOk rfl ?_; simp)
    | (refine AWP_skip ?_; simp)
    | (refine AWP_exit ?_; simp)
    | (refine AWP_ret ?_; simp)
    | refine AWP_block ?_
    | refine AWP_seq ?_)
  refine AWP_loop (ALoop_keep (sl' := [(7, .sl 1 1 0 3), (38, .list (vs.map encV)), (39, .i vs.length), (40, .i 0)]) ?_ (by simp))
  refine ALoop_wf (F := fun (u : Nat × Nat × List (List UInt8) × List AObj) => ⟨[(7, .sl u.2.1 1 0 u.2.2.1.length), (38, .list (vs.map encV)), (39, .i vs.length), (40, .i u.1)], u.2.2.2⟩)
    (fun u => u.1 ≤ vs.length ∧ u.2.2.2[u.2.1]? = some (.arr 9 1 (u.2.2.1.map AV.str)) ∧ u.2.2.1 ++ (vs.drop u.1).map (fun v => (formatR v).1) = P) (fun u => vs.length - u.1) ?_ (0, 1, [l[k].name, Lib.itoa es ++ ([46] ++ Lib.itoa eq), 64 :: Lib.itoa em], _) ⟨by simp, rfl, by simpa using hP⟩
  rintro ⟨j, q, acc, H2⟩ ⟨hj, g1, g2⟩ ih
  simp only at hj g1 g2 ih ⊢
  have hal : acc.length ≤ 11 := by have := congrArg List.length g2; simp at this; omega
  repeat (first
    | (refine AWP_seq (AWP_regS tOk rfl ?_); simp)
    | (refine AWP_regS tOk rfl ?_; simp)
    | (refine AWP_skip ?_; simp)
    | (refine AWP_exit ?_; simp)
    | (refine AWP_ret ?_; simp)
    | refine AWP_block ?_
    | refine AWP_seq ?_)
  refine AWP_cond2 rfl (fun hlt => ?_) (fun hge => ?_)
  · have hlt' : j < vs.length := by simpa using hlt
    have hw : IntKind.i64.wrap ((j : Int) + 1) = j + 1 := wrap_i64 _ (by omega) (by omega)
    have hf := hfl vs[j] (hvok _ (List.getElem_mem hlt'))
    rw [drop_get hlt', List.map_cons] at g2
    repeat (first
      | (refine AWP_seq (AWP_regS tOk rfl ?_); simp [hlt'])
      | (refine AWP_regS tOk rfl ?_; simp [hlt'])
      | (refine AWP_skip ?_; simp [hlt'])
      | (refine AWP_exit ?_; simp [hlt'])
      | (refine AWP_ret ?_; simp [hlt'])
      | refine AWP_block ?_
      | refine AWP_seq ?_)
    refine AStep_PC rfl rfl (by simp) (pc_Format vs[j]) rfl ?_
    rintro _ rfl
    simp
    rw [hf.2]
    repeat (first
      | (refine AWP_seq (AWP_regS tOk rfl ?_); simp)
      | (refine AWP_regS tOk rfl ?_; simp)
      | (refine AWP_skip ?_; simp)
      | (refine AWP_exit ?_; simp)
      | (refine AWP_ret ?_; simp)
      | refine AWP_block ?_
      | refine AWP_seq ?_)
    refine AWP_cond rfl ?_
    generalize (formatR vs[j]).1 = x at *
    repeat (first
      | (refine AWP_seq (AWP_regS tOk rfl ?_); simp)
      | (refine AWP_regS tOk rfl ?_; simp)
      | (refine AWP_skip ?_; simp)
      | (refine AWP_exit ?_; simp)
      | (refine AWP_ret ?_; simp)
      | refine AWP_block ?_
      | refine AWP_seq ?_)
    refine AStep_appendS tOk rfl rfl T60 rfl T9 rfl (by decide) (by decide) rfl rfl rfl ?_
    simp [get_app g1, set_app g1]
    refine ⟨by simp [appOk, get_app g1, set_app g1] <;> omega, ?_⟩
    repeat (first
      | (refine AWP_seq (AWP_regS tOk rfl ?_); simp [hw])
      | (refine AWP_regS tOk rfl ?_; simp [hw])
      | (refine AWP_skip ?_; simp [hw])
      | (refine AWP_exit ?_; simp [hw])
      | (refine AWP_ret ?_; simp [hw])
      | refine AWP_block ?_
      | refine AWP_seq ?_)
    exact ALoop_keep (sl' := [(7, .sl (H2.length + 2) 1 0 (acc.length + 1)), (38, .list (vs.map encV)), (39, .i vs.length), (40, .i (j + 1 : Nat))]) (by
      have := ih (j + 1, H2.length + 2, acc ++ [x], H2.set q .dead ++ [.vars [.i vs[j].kind, .i vs[j].num, .str vs[j].text], .arr 9 1 [.str x], .arr 9 1 ((acc ++ [x]).map AV.str)]) ⟨by simp; omega, by simp only; rw [List.getElem?_append_right (by simp)]; simp, by simpa using g2⟩ (by simp; omega)
      simpa using this) (by simp)
  · have hge' : j = vs.length := by simp at hge; omega
    subst hge'
    rw [List.drop_length, List.map_nil, List.append_nil] at g2
    subst g2
    repeat (first
      | (refine AWP_seq (AWP_regS tOk rfl ?_); simp)
      | (refine AWP_regS tOk rfl ?_; simp)
      | (refine AWP_skip ?_; simp)
      | (refine AWP_exit ?_; simp)
      | (refine AWP_ret ?_; simp)
      | refine AWP_block ?_
      | refine AWP_seq ?_)
    refine AStep_freeze q g1 ?_
    simp
    rw [List.take_of_length_le (by simp)]
    have hJ := pc_Join acc [32] (by simp) (by simp) (by omega) hPl
    refine AStep_PC rfl rfl (by simp) (hJ) rfl ?_
    rintro _ rfl
    simp
    repeat (first
      | (refine AWP_seq (AWP_regS tOk rfl ?_); simp)
      | (refine AWP_regS tOk rfl ?_; simp)
      | (refine AWP_skip ?_; simp)
      | (refine AWP_exit ?_; simp)
      | (refine AWP_ret ?_; simp)
      | refine AWP_block ?_
      | refine AWP_seq ?_)
    rw [← hR]
    exact ⟨rfl, rfl⟩
end Go.Abs
/-
  DERIVED: THE SHELF's CONTRACTS AT THIS DUMP, IN PLAIN WORDS (tools/lay-plain.mjs out of 'TryzShelf.lean', which tools/lay-shelf.mjs wrote): THE SAME DECLARATIONS UNDER THE SAME NAMES: 'import', 'namespace', 'open', 'def', 'theorem' AND NOTHING ELSE: no command of the shelf's: FOR A HAND-IN. Each laying: the table of numbers ('.._ren') and one theorem, a field a fact of the dump's own or the kernel's comparison; each contract: ONE APPLICATION.
-/
namespace Go.Proofs
open Go.Shelf
def Tryz.lays145_ren : Go.Shelf.Ren := ⟨fun | 145 => 52 | 220 => 68 | 219 => 83 | 217 => 67 | 225 => 96 | 224 => 97 | 267 => 98 | 266 => 82 | 314 => 108 | n => n, fun | 9 => 9 | 4 => 4 | 59 => 95 | 3 => 3 | 5 => 5 | 46 => 92 | 146 => 147 | 51 => 122 | n => n, fun | 1 => 1 | n => n⟩
theorem Tryz.lays145 : Go.Proofs.Lays.n145 Tryz.prog Tryz.lays145_ren := {
  mixed := by kernel_rfl
  f145 := Tryz.func52.trans (congrArg some (by kernel_rfl))
  f217 := Tryz.func67.trans (congrArg some (by kernel_rfl))
  f219 := Tryz.func83.trans (congrArg some (by kernel_rfl))
  f220 := Tryz.func68.trans (congrArg some (by kernel_rfl))
  f224 := Tryz.func97.trans (congrArg some (by kernel_rfl))
  f225 := Tryz.func96.trans (congrArg some (by kernel_rfl))
  f266 := Tryz.func82.trans (congrArg some (by kernel_rfl))
  f267 := Tryz.func98.trans (congrArg some (by kernel_rfl))
  f314 := Tryz.func108.trans (congrArg some (by kernel_rfl))
  t3 := Tryz.underlying3
  a3 := Tryz.isAgg3
  z3 := Tryz.sizeOf3
  v3 := Tryz.zeroValue3
  t4 := Tryz.underlying4
  a4 := Tryz.isAgg4
  z4 := Tryz.sizeOf4
  v4 := Tryz.zeroValue4
  t5 := Tryz.underlying5
  a5 := Tryz.isAgg5
  z5 := Tryz.sizeOf5
  v5 := Tryz.zeroValue5
  t9 := Tryz.underlying9
  a9 := Tryz.isAgg9
  z9 := Tryz.sizeOf9
  v9 := Tryz.zeroValue9
  t46 := Tryz.underlying92
  a46 := Tryz.isAgg92
  z46 := Tryz.sizeOf92
  v46 := Tryz.zeroValue92
  t51 := Tryz.underlying122
  a51 := Tryz.isAgg122
  z51 := Tryz.sizeOf122
  v51 := Tryz.zeroValue122
  t59 := Tryz.underlying95
  a59 := Tryz.isAgg95
  z59 := Tryz.sizeOf95
  v59 := Tryz.zeroValue95
  t146 := Tryz.underlying147
  a146 := Tryz.isAgg147
  z146 := Tryz.sizeOf147
  v146 := Tryz.zeroValue147
  g1 := by kernel_rfl }
open Go.RowKit Go.Lib in
/-- strings.Cut: "Cut slices s around the first instance of sep, returning the text before and after sep. The found result reports whether sep appears in s. If sep does not appear in s, cut returns s, "", false.": IT RETURNS 'Lib.cut s sep'; the world is as it was but for the count of draws. (LAID: no walk: one application.) -/
theorem Tryz.strings_Cut (s sep : ByteArray) (m : Int) (w : World) (hs : s.size < 4294967281) (hm : w.cell? ⟨1, 0, none⟩ = some (.int .i64 m)) :
    Calls Tryz.prog 52 #[.string s, .string sep] w fun e w' => e = .returned (.tuple #[.string ⟨(Lib.cut s.data.toList sep.data.toList).1.toArray⟩, .string ⟨(Lib.cut s.data.toList sep.data.toList).2.1.toArray⟩, .bool (Lib.cut s.data.toList sep.data.toList).2.2]) ∧ ∃ n, w' = w.drewN n := Any.strings_Cut Tryz.lays145 s sep m w hs hm
end Go.Proofs
set_option maxRecDepth 100000
namespace Go.Abs
open Go Go.Proofs Go.RowKit
set_option linter.unusedSimpArgs false
theorem callable_Cut : Callable Tryz.prog 52 := callable Tryz.func52 rfl (by kernel_rfl)
theorem pc_Cut (s sub : List UInt8) (hs : s.length ≤ 1000000) : PC Tryz.prog 52 [.str s, .str sub] (fun r => r = .tup [.str (Lib.cut s sub).1, .str (Lib.cut s sub).2.1, .bool (Lib.cut s sub).2.2]) :=
  PC_ext (us := [.string ⟨s.toArray⟩, .string ⟨sub.toArray⟩]) callable_Cut rfl fun w I hE => by
    obtain ⟨m, hm⟩ := maxLen_cell hE
    refine (Tryz.strings_Cut ⟨s.toArray⟩ ⟨sub.toArray⟩ m w (by show s.toArray.size < _; simp; omega) hm).mono fun e w' ⟨h, n, hw⟩ => ⟨⟨_, _, rfl, h, .tup _ _ rfl fun i v x hv hx => ?_⟩, by rw [hw]; exact ⟨rfl, rfl, rfl, Nat.le_refl _, fun _ _ => rfl⟩⟩
    match i, hv, hx with
    | 0, hv, hx => cases hv; cases hx; exact .str _
    | 1, hv, hx => cases hv; cases hx; exact .str _
    | 2, hv, hx => cases hv; cases hx; exact .bool _
    | _ + 3, hv, hx => simp at hx
end Go.Abs
set_option maxRecDepth 100000
namespace Go.Abs
open Go Go.Proofs
set_option linter.unusedSimpArgs false
/-- The numeral, at most one more than the greatest number. -/
def nstep (n : Int) (c : UInt8) : Int := min (10 * n + ((c.toNat : Int) - 48)) 1099511627777
def nval (s : List UInt8) : Int := s.foldl nstep 0
def numeR (s : List UInt8) : Int × Bool := if s = [] ∨ s.all isD = false then (0, false) else (nval s, true)
theorem nval_snoc (s : List UInt8) (c : UInt8) : nval (s ++ [c]) = nstep (nval s) c := by simp [nval]
theorem nval_bd (s : List UInt8) (hd : s.all isD = true) : ∀ j, 0 ≤ nval (s.take j) ∧ nval (s.take j) ≤ 1099511627777
  | 0 => by simp [nval]
  | j + 1 => by
    have ih := nval_bd s hd j
    by_cases h : j < s.length
    · have hc := (isD_iff s[j]).1 (List.all_eq_true.1 hd _ (List.getElem_mem h))
      rw [List.take_succ_eq_append_getElem h, nval_snoc, nstep]
      omega
    · have e : s.take (j + 1) = s.take j := by rw [List.take_of_length_le (by omega), List.take_of_length_le (by omega)]
      rw [e]; exact ih
theorem nval_nil : nval [] = 0 := rfl
attribute [local irreducible] nval isD trimS
set_option maxHeartbeats 1000000 in
theorem pc_enumeral (s : List UInt8) (hs : s.length ≤ 1000000) : PC Tryz.prog 53 [.str s] (fun r => r = .tup [.i (numeR s).1, .bool (numeR s).2]) := by
  refine PC_body tOk Tryz.func53 rfl Tryz.results53 rfl (by simp [Tryz.ntmps53]) ?_
  rw [Tryz.ntmps53]
  simp only [argSlots]
  obtain ⟨R, hR⟩ : ∃ R, numeR s = R := ⟨_, rfl⟩
  rw [hR]
  rw [numeR] at hR
  rcases s with _ | ⟨c, r⟩
  · repeat (first
      | (refine AWP_seq (AWP_regS tOk rfl ?_); simp)
      | (refine AWP_regS tOk rfl ?_; simp)
      | (refine AWP_skip ?_; simp)
      | (refine AWP_exit ?_; simp)
      | (refine AWP_ret ?_; simp)
      | refine AWP_block ?_
      | refine AWP_seq ?_)
    refine AStep_skip rfl rfl ?_
    simp
    repeat (first
      | (refine AWP_seq (AWP_regS tOk rfl ?_); simp)
      | (refine AWP_regS tOk rfl ?_; simp)
      | (refine AWP_skip ?_; simp)
      | (refine AWP_exit ?_; simp)
      | (refine AWP_ret ?_; simp)
      | refine AWP_block ?_
      | refine AWP_seq ?_)
    refine AWP_cond rfl ?_
    repeat (first
      | (refine AWP_seq (AWP_regS tOk rfl ?_); simp)
      | (refine AWP_regS tOk rfl ?_; simp)
      | (refine AWP_skip ?_; simp)
      | (refine AWP_exit ?_; simp)
      | (refine AWP_ret ?_; simp)
      | refine AWP_block ?_
      | refine AWP_seq ?_)
    rw [if_pos (.inl rfl)] at hR
    rw [← hR]
    exact ⟨rfl, rfl⟩
  repeat (first
    | (refine AWP_seq (AWP_regS tOk rfl ?_); simp)
    | (refine AWP_regS tOk rfl ?_; simp)
    | (refine AWP_skip ?_; simp)
    | (refine AWP_exit ?_; simp)
    | (refine AWP_ret ?_; simp)
    | refine AWP_block ?_
    | refine AWP_seq ?_)
  refine AStep_PC rfl rfl (by simp) (pc_Trim digs (c :: r) digs_lt (by decide) (by decide) (by omega) (by simp)) rfl ?_
  rintro _ rfl
  simp
  repeat (first
    | (refine AWP_seq (AWP_regS tOk rfl ?_); simp)
    | (refine AWP_regS tOk rfl ?_; simp)
    | (refine AWP_skip ?_; simp)
    | (refine AWP_exit ?_; simp)
    | (refine AWP_ret ?_; simp)
    | refine AWP_block ?_
    | refine AWP_seq ?_)
  rw [trim_digs']
  cases hd : (c :: r).all isD with
  | false =>
    refine AWP_cond2 rfl (fun _ => ?_) (fun h => by cases h)
    repeat (first
      | (refine AWP_seq (AWP_regS tOk rfl ?_); simp)
      | (refine AWP_regS tOk rfl ?_; simp)
      | (refine AWP_skip ?_; simp)
      | (refine AWP_exit ?_; simp)
      | (refine AWP_ret ?_; simp)
      | refine AWP_block ?_
      | refine AWP_seq ?_)
    rw [if_pos (.inr hd)] at hR
    rw [← hR]
    exact ⟨rfl, rfl⟩
  | true =>
  refine AWP_cond2 rfl (fun h => by cases h) (fun _ => ?_)
  rw [if_neg (by simp [hd])] at hR
  obtain ⟨t, ht⟩ : ∃ t, c :: r = t := ⟨_, rfl⟩
  rw [ht] at hd hs hR ⊢
  repeat (first
    | (refine AWP_seq (AWP_regS tOk rfl ?_); simp)
    | (refine AWP_regS tOk rfl ?_; simp)
    | (refine AWP_skip ?_; simp)
    | (refine AWP_exit ?_; simp)
    | (refine AWP_ret ?_; simp)
    | refine AWP_block ?_
    | refine AWP_seq ?_)
  refine AStep_toBytes tOk rfl rfl T74 rfl T5 rfl T9 rfl (by omega) rfl ?_
  simp
  repeat (first
    | (refine AWP_seq (AWP_regS tOk rfl ?_); simp)
    | (refine AWP_regS tOk rfl ?_; simp)
    | (refine AWP_skip ?_; simp)
    | (refine AWP_exit ?_; simp)
    | (refine AWP_ret ?_; simp)
    | refine AWP_block ?_
    | refine AWP_seq ?_)
  refine AWP_count t.length (fun j => [(4, .i (nval (t.take j))), (15, .list (t.map byteAV)), (16, .i t.length), (17, .i j)]) (fun _ => []) (G := []) rfl (by simp [nval_nil]) (by simp [nval_nil]) (by simp [nval_nil]) (by simp [nval_nil]) ?_
  intro j hj ih
  have hbd := nval_bd t hd j
  repeat (first
    | (refine AWP_seq (AWP_regS tOk rfl ?_); simp)
    | (refine AWP_regS tOk rfl ?_; simp)
    | (refine AWP_skip ?_; simp)
    | (refine AWP_exit ?_; simp)
    | (refine AWP_ret ?_; simp)
    | refine AWP_block ?_
    | refine AWP_seq ?_)
  refine AWP_cond2 rfl (fun hlt => ?_) (fun hge => ?_)
  · have hlt' : j < t.length := by simpa using hlt
    have hc := (isD_iff t[j]).1 (List.all_eq_true.1 hd _ (List.getElem_mem hlt'))
    have hw : IntKind.i64.wrap ((j : Int) + 1) = j + 1 := wrap_i64 _ (by omega) (by omega)
    have hu : IntKind.u8.wrap ((t[j].toNat : Int) - 48) = (t[j].toNat : Int) - 48 := by rw [IntKind.wrap_u8]; omega
    have e1 : IntKind.i64.wrap (10 * nval (t.take j)) = 10 * nval (t.take j) := wrap_i64 _ (by omega) (by omega)
    have e2 : IntKind.i64.wrap ((t[j].toNat : Int) - 48) = (t[j].toNat : Int) - 48 := wrap_i64 _ (by omega) (by omega)
    have e3 : IntKind.i64.wrap (10 * nval (t.take j) + ((t[j].toNat : Int) - 48)) = 10 * nval (t.take j) + ((t[j].toNat : Int) - 48) := wrap_i64 _ (by omega) (by omega)
    have hf : nval (t.take (j + 1)) = min (10 * nval (t.take j) + ((t[j].toNat : Int) - 48)) 1099511627777 := by rw [List.take_succ_eq_append_getElem hlt', nval_snoc, nstep]
    have hm : min (10 * nval (t.take j) + ((t[j].toNat : Int) - 48)) 1099511627777 = if 1099511627777 < 10 * nval (t.take j) + ((t[j].toNat : Int) - 48) then 1099511627777 else 10 * nval (t.take j) + ((t[j].toNat : Int) - 48) := by split <;> omega
    rw [hm] at hf
    clear hm
    generalize nval (t.take j) = N at hbd e1 e3 hf ⊢
    repeat (first
      | (refine AWP_seq (AWP_regS tOk rfl ?_); simp [hlt', hu, e1, e2, e3, hw])
      | (refine AWP_regS tOk rfl ?_; simp [hlt', hu, e1, e2, e3, hw])
      | (refine AWP_skip ?_; simp [hlt', hu, e1, e2, e3, hw])
      | (refine AWP_exit ?_; simp [hlt', hu, e1, e2, e3, hw])
      | (refine AWP_ret ?_; simp [hlt', hu, e1, e2, e3, hw])
      | refine AWP_block ?_
      | refine AWP_seq ?_)
    refine ALoop_end [] (ih hlt') rfl (by simp) ?_ (by simp) (by simp)
    rw [hf]
    simp
  · have hge' : j = t.length := by simp at hge; omega
    subst hge'
    rw [List.take_length]
    repeat (first
      | (refine AWP_seq (AWP_regS tOk rfl ?_); simp)
      | (refine AWP_regS tOk rfl ?_; simp)
      | (refine AWP_skip ?_; simp)
      | (refine AWP_exit ?_; simp)
      | (refine AWP_ret ?_; simp)
      | refine AWP_block ?_
      | refine AWP_seq ?_)
    rw [← hR]
    exact ⟨rfl, rfl⟩

/-- CutPrefix. -/
def cutPre (s p : List UInt8) : List UInt8 × Bool := if hasPre s p = true then (s.drop p.length, true) else (s, false)
theorem pc_slCutPrefix (s p : List UInt8) : PC Tryz.prog 70 [.str s, .str p] (fun r => r = .tup [.str (cutPre s p).1, .bool (cutPre s p).2]) := by
  refine PC_body tOk Tryz.func70 rfl Tryz.results70 rfl (by simp [Tryz.ntmps70]) ?_
  rw [Tryz.ntmps70]
  simp only [argSlots]
  repeat (first
    | (refine AWP_seq (AWP_regS tOk rfl ?_); simp)
    | (refine AWP_regS tOk rfl ?_; simp)
    | (refine AWP_skip ?_; simp)
    | (refine AWP_exit ?_; simp)
    | (refine AWP_ret ?_; simp)
    | refine AWP_block ?_
    | refine AWP_seq ?_)
  refine AStep_PC rfl rfl (by simp) (pc_slHasPrefix s p) rfl ?_
  rintro _ rfl
  simp
  repeat (first
    | (refine AWP_seq (AWP_regS tOk rfl ?_); simp)
    | (refine AWP_regS tOk rfl ?_; simp)
    | (refine AWP_skip ?_; simp)
    | (refine AWP_exit ?_; simp)
    | (refine AWP_ret ?_; simp)
    | refine AWP_block ?_
    | refine AWP_seq ?_)
  refine AWP_cond2 rfl (fun h => ?_) (fun h => ?_)
  · repeat (first
      | (refine AWP_seq (AWP_regS tOk rfl ?_); simp)
      | (refine AWP_regS tOk rfl ?_; simp)
      | (refine AWP_skip ?_; simp)
      | (refine AWP_exit ?_; simp)
      | (refine AWP_ret ?_; simp)
      | refine AWP_block ?_
      | refine AWP_seq ?_)
    rw [cutPre, ite_f (by simpa using h)]
    exact ⟨rfl, rfl⟩
  · have h : hasPre s p = true := by simpa using h
    have hl : p.length ≤ s.length := by
      by_cases hl : p.length ≤ s.length
      · exact hl
      · rw [hasPre_short s p (by omega)] at h; cases h
    have h' : (p.length : Int) ≤ s.length := by omega
    repeat (first
      | (refine AWP_seq (AWP_regS tOk rfl ?_); simp [hl, h'])
      | (refine AWP_regS tOk rfl ?_; simp [hl, h'])
      | (refine AWP_skip ?_; simp [hl, h'])
      | (refine AWP_exit ?_; simp [hl, h'])
      | (refine AWP_ret ?_; simp [hl, h'])
      | refine AWP_block ?_
      | refine AWP_seq ?_)
    rw [cutPre, ite_t h]
    exact ⟨rfl, rfl⟩
theorem pc_CutPrefix (s p : List UInt8) : PC Tryz.prog 54 [.str s, .str p] (fun r => r = .tup [.str (cutPre s p).1, .bool (cutPre s p).2]) := by
  refine PC_body tOk Tryz.func54 rfl Tryz.results54 rfl (by simp [Tryz.ntmps54]) ?_
  rw [Tryz.ntmps54]
  simp only [argSlots]
  repeat (first
    | (refine AWP_seq (AWP_regS tOk rfl ?_); simp)
    | (refine AWP_regS tOk rfl ?_; simp)
    | (refine AWP_skip ?_; simp)
    | (refine AWP_exit ?_; simp)
    | (refine AWP_ret ?_; simp)
    | refine AWP_block ?_
    | refine AWP_seq ?_)
  refine AStep_PC rfl rfl (by simp) (pc_slCutPrefix s p) rfl ?_
  rintro _ rfl
  simp
  repeat (first
    | (refine AWP_seq (AWP_regS tOk rfl ?_); simp)
    | (refine AWP_regS tOk rfl ?_; simp)
    | (refine AWP_skip ?_; simp)
    | (refine AWP_exit ?_; simp)
    | (refine AWP_ret ?_; simp)
    | refine AWP_block ?_
    | refine AWP_seq ?_)
/-- The length of the quoted word behind its first quote. -/
def qR : List UInt8 → Nat
  | [] => 0
  | [_] => 1
  | c :: d :: t => if c = 34 then 1 else if c = 92 then 2 + qR t else 1 + qR (d :: t)
def lenR : List UInt8 → Nat
  | [] => 0
  | c :: t => if c = 34 then 1 + qR t else ((c :: t).takeWhile (fun x => x != 32)).length
theorem ixb_cases (s : List UInt8) (c : UInt8) : (Lib.indexByte s c = -1 ∧ (s.takeWhile (fun x => x != c)).length = s.length) ∨ (∃ i : Nat, Lib.indexByte s c = i ∧ (s.takeWhile (fun x => x != c)).length = i) := by
  induction s with
  | nil => exact .inl ⟨rfl, rfl⟩
  | cons b l ih =>
    rw [Lib.indexByte]
    by_cases hb : (b == c) = true
    · rw [if_pos hb]
      exact .inr ⟨0, rfl, by simp at hb; simp [List.takeWhile, hb]⟩
    · rw [if_neg hb]
      have hb' : (b != c) = true := by simp at hb; simp [hb]
      have hcons : (b :: l).takeWhile (fun x => x != c) = b :: l.takeWhile (fun x => x != c) := by rw [List.takeWhile_cons]; rw [if_pos hb']
      rw [hcons]
      rcases ih with ⟨h1, h2⟩ | ⟨i, h1, h2⟩
      · rw [h1]; exact .inl ⟨rfl, by simp [h2]⟩
      · rw [h1]
        have : ((i : Int) == -1) = false := by rw [beq_eq_false_iff_ne]; omega
        rw [this]
        exact .inr ⟨i + 1, by simp, by simp [h2]⟩
theorem qR_le : ∀ s, qR s ≤ s.length
  | [] => by simp [qR]
  | [_] => by simp [qR]
  | c :: d :: t => by
    have h1 := qR_le t
    have h2 := qR_le (d :: t)
    rw [qR]
    split
    · simp
    · split
      · simp; omega
      · simp at h2 ⊢; omega
theorem lenR_le : ∀ s, lenR s ≤ s.length
  | [] => by simp [lenR]
  | c :: t => by
    rw [lenR]
    split
    · have := qR_le t; simp; omega
    · exact (List.takeWhile_prefix _).length_le
theorem lenR_pos (c : UInt8) (t : List UInt8) (h : c ≠ 32) : 0 < lenR (c :: t) := by
  rw [lenR]
  split
  · omega
  · rw [List.takeWhile_cons, if_pos (by simp [h])]; simp
theorem qR_one (c : UInt8) : qR [c] = 1 := rfl
theorem qR_hit (c : UInt8) (t : List UInt8) (h : c = 34) : qR (c :: t) = 1 := by
  cases t with
  | nil => rfl
  | cons d t => rw [qR, if_pos h]
theorem qR_step (c : UInt8) (t : List UInt8) (h : c ≠ 34) (h2 : c ≠ 92) : qR (c :: t) = 1 + qR t := by
  cases t with
  | nil => rfl
  | cons d t => rw [qR, if_neg h, if_neg h2]
theorem qR_esc (c d : UInt8) (t : List UInt8) (h2 : c = 92) : qR (c :: d :: t) = 2 + qR t := by
  rw [qR, if_neg (by rw [h2]; decide), if_pos h2]
attribute [local irreducible] Lib.indexByte qR
set_option maxHeartbeats 1000000 in
theorem pc_elength (c : UInt8) (t : List UInt8) (hs : t.length ≤ 1000000) : PC Tryz.prog 41 [.str (c :: t)] (fun r => r = .i (lenR (c :: t))) := by
  refine PC_body tOk Tryz.func41 rfl Tryz.results41 rfl (by simp [Tryz.ntmps41]) ?_
  rw [Tryz.ntmps41]
  simp only [argSlots]
  by_cases hc : c = 34
  · have hc' : ((c.toNat : Int) != 34) = false := by rw [hc]; rfl
    rw [lenR, if_pos hc]
    obtain ⟨R, hR⟩ : ∃ R, 1 + qR t = R := ⟨_, rfl⟩
    rw [hR]
    repeat (first
      | (refine AWP_seq (AWP_regS tOk rfl ?_); simp [hc'])
      | (refine AWP_regS tOk rfl ?_; simp [hc'])
      | (refine AWP_skip ?_; simp [hc'])
      | (refine AWP_exit ?_; simp [hc'])
      | (refine AWP_ret ?_; simp [hc'])
      | refine AWP_block ?_
      | refine AWP_seq ?_)
    refine AWP_cond rfl ?_
    repeat (first
      | (refine AWP_seq (AWP_regS tOk rfl ?_); simp)
      | (refine AWP_regS tOk rfl ?_; simp)
      | (refine AWP_skip ?_; simp)
      | (refine AWP_exit ?_; simp)
      | (refine AWP_ret ?_; simp)
      | refine AWP_block ?_
      | refine AWP_seq ?_)
    obtain ⟨s, hss⟩ : ∃ s, c :: t = s := ⟨_, rfl⟩
    have hsl : s.length = t.length + 1 := by rw [← hss]; rfl
    rw [hss]
    refine AWP_loop (ALoop_keep (sl' := [(0, .str s), (4, .i 1)]) ?_ (by simp))
    refine ALoop_wf (F := fun (u : Nat) => ⟨[(0, .str s), (4, .i u)], []⟩)
      (fun u => u ≤ s.length + 1 ∧ min u s.length + qR (s.drop u) = R) (fun u => s.length + 1 - u) ?_ 1 ⟨by omega, by rw [← hss]; simp; omega⟩
    rintro j ⟨hj, g⟩ ih
    repeat (first
      | (refine AWP_seq (AWP_regS tOk rfl ?_); simp)
      | (refine AWP_regS tOk rfl ?_; simp)
      | (refine AWP_skip ?_; simp)
      | (refine AWP_exit ?_; simp)
      | (refine AWP_ret ?_; simp)
      | refine AWP_block ?_
      | refine AWP_seq ?_)
    refine AWP_cond2 rfl (fun hlt => ?_) (fun hge => ?_)
    · have hlt' : j < s.length := by simpa using hlt
      have hw : IntKind.i64.wrap ((j : Int) + 1) = j + 1 := wrap_i64 _ (by omega) (by omega)
      have hw2 : IntKind.i64.wrap ((j : Int) + 1 + 1) = j + 2 := by rw [wrap_i64 _ (by omega) (by omega)]; omega
      rw [drop_get hlt'] at g
      by_cases h34 : s[j] = 34
      · have h34' : ((s[j].toNat : Int) == 34) = true := by rw [h34]; rfl
        rw [qR_hit _ _ h34] at g
        repeat (first
          | (refine AWP_seq (AWP_regS tOk rfl ?_); simp [hlt', h34'])
          | (refine AWP_regS tOk rfl ?_; simp [hlt', h34'])
          | (refine AWP_skip ?_; simp [hlt', h34'])
          | (refine AWP_exit ?_; simp [hlt', h34'])
          | (refine AWP_ret ?_; simp [hlt', h34'])
          | refine AWP_block ?_
          | refine AWP_seq ?_)
        refine AWP_cond rfl ?_
        repeat (first
          | (refine AWP_seq (AWP_regS tOk rfl ?_); simp [hw])
          | (refine AWP_regS tOk rfl ?_; simp [hw])
          | (refine AWP_skip ?_; simp [hw])
          | (refine AWP_exit ?_; simp [hw])
          | (refine AWP_ret ?_; simp [hw])
          | refine AWP_block ?_
          | refine AWP_seq ?_)
        omega
      have h34' : ((s[j].toNat : Int) == 34) = false := by
        rw [beq_eq_false_iff_ne]; intro e; apply h34; exact UInt8.toNat_inj.1 (by simpa using (by omega : s[j].toNat = 34))
      repeat (first
        | (refine AWP_seq (AWP_regS tOk rfl ?_); simp [hlt', h34'])
        | (refine AWP_regS tOk rfl ?_; simp [hlt', h34'])
        | (refine AWP_skip ?_; simp [hlt', h34'])
        | (refine AWP_exit ?_; simp [hlt', h34'])
        | (refine AWP_ret ?_; simp [hlt', h34'])
        | refine AWP_block ?_
        | refine AWP_seq ?_)
      refine AWP_cond rfl ?_
      repeat (first
        | (refine AWP_seq (AWP_regS tOk rfl ?_); simp)
        | (refine AWP_regS tOk rfl ?_; simp)
        | (refine AWP_skip ?_; simp)
        | (refine AWP_exit ?_; simp)
        | (refine AWP_ret ?_; simp)
        | refine AWP_block ?_
        | refine AWP_seq ?_)
      by_cases h92 : s[j] = 92
      · have h92' : ((s[j].toNat : Int) == 92) = true := by rw [h92]; rfl
        repeat (first
          | (refine AWP_seq (AWP_regS tOk rfl ?_); simp)
          | (refine AWP_regS tOk rfl ?_; simp)
          | (refine AWP_skip ?_; simp)
          | (refine AWP_exit ?_; simp)
          | (refine AWP_ret ?_; simp)
          | refine AWP_block ?_
          | refine AWP_seq ?_)
        refine AWP_cond2 rfl (fun _ => ?_) (fun h => by rw [h92'] at h; cases h)
        repeat (first
          | (refine AWP_seq (AWP_regS tOk rfl ?_); simp [hw, hw2])
          | (refine AWP_regS tOk rfl ?_; simp [hw, hw2])
          | (refine AWP_skip ?_; simp [hw, hw2])
          | (refine AWP_exit ?_; simp [hw, hw2])
          | (refine AWP_ret ?_; simp [hw, hw2])
          | refine AWP_block ?_
          | refine AWP_seq ?_)
        refine ALoop_keep (sl' := [(0, .str s), (4, .i (j + 2 : Nat))]) (ih (j + 2) ⟨by omega, ?_⟩ (by omega)) (by simp)
        by_cases hj2 : j + 1 < s.length
        · rw [drop_get hj2, qR_esc _ _ _ h92, show j + 1 + 1 = j + 2 from rfl] at g
          rw [← g]
          omega
        · have e1 : s.drop (j + 1) = [] := List.drop_of_length_le (by omega)
          have e2 : s.drop (j + 2) = [] := List.drop_of_length_le (by omega)
          rw [e1, qR_one] at g
          rw [e2, ← g]
          simp [qR]
          omega
      · have h92' : ((s[j].toNat : Int) == 92) = false := by
          rw [beq_eq_false_iff_ne]; intro e; apply h92; exact UInt8.toNat_inj.1 (by simpa using (by omega : s[j].toNat = 92))
        repeat (first
          | (refine AWP_seq (AWP_regS tOk rfl ?_); simp)
          | (refine AWP_regS tOk rfl ?_; simp)
          | (refine AWP_skip ?_; simp)
          | (refine AWP_exit ?_; simp)
          | (refine AWP_ret ?_; simp)
          | refine AWP_block ?_
          | refine AWP_seq ?_)
        refine AWP_cond2 rfl (fun h => by rw [h92'] at h; cases h) (fun _ => ?_)
        repeat (first
          | (refine AWP_seq (AWP_regS tOk rfl ?_); simp [hw])
          | (refine AWP_regS tOk rfl ?_; simp [hw])
          | (refine AWP_skip ?_; simp [hw])
          | (refine AWP_exit ?_; simp [hw])
          | (refine AWP_ret ?_; simp [hw])
          | refine AWP_block ?_
          | refine AWP_seq ?_)
        refine ALoop_keep (sl' := [(0, .str s), (4, .i (j + 1 : Nat))]) (ih (j + 1) ⟨by omega, ?_⟩ (by omega)) (by simp)
        rw [qR_step _ _ h34 h92] at g
        rw [← g]
        omega
    · have hge' : s.length ≤ j := by simp at hge; omega
      rw [List.drop_of_length_le hge'] at g
      have q0 : qR [] = 0 := by simp [qR]
      rw [q0] at g
      repeat (first
        | (refine AWP_seq (AWP_regS tOk rfl ?_); simp)
        | (refine AWP_regS tOk rfl ?_; simp)
        | (refine AWP_skip ?_; simp)
        | (refine AWP_exit ?_; simp)
        | (refine AWP_ret ?_; simp)
        | refine AWP_block ?_
        | refine AWP_seq ?_)
      omega
  · have hc' : ((c.toNat : Int) != 34) = true := by
      rw [bne_iff_ne]; intro e; apply hc; exact UInt8.toNat_inj.1 (by simpa using (by omega : c.toNat = 34))
    rw [lenR, if_neg hc]
    repeat (first
      | (refine AWP_seq (AWP_regS tOk rfl ?_); simp [hc'])
      | (refine AWP_regS tOk rfl ?_; simp [hc'])
      | (refine AWP_skip ?_; simp [hc'])
      | (refine AWP_exit ?_; simp [hc'])
      | (refine AWP_ret ?_; simp [hc'])
      | refine AWP_block ?_
      | refine AWP_seq ?_)
    refine AWP_cond rfl ?_
    repeat (first
      | (refine AWP_seq (AWP_regS tOk rfl ?_); simp)
      | (refine AWP_regS tOk rfl ?_; simp)
      | (refine AWP_skip ?_; simp)
      | (refine AWP_exit ?_; simp)
      | (refine AWP_ret ?_; simp)
      | refine AWP_block ?_
      | refine AWP_seq ?_)
    refine AStep_PC rfl rfl (by simp) (pc_Ixb (c :: t) 32) rfl ?_
    rintro _ rfl
    simp
    rcases ixb_cases (c :: t) 32 with ⟨h1, h2⟩ | ⟨i, h1, h2⟩
    · rw [h2]
      repeat (first
        | (refine AWP_seq (AWP_regS tOk rfl ?_); simp [h1])
        | (refine AWP_regS tOk rfl ?_; simp [h1])
        | (refine AWP_skip ?_; simp [h1])
        | (refine AWP_exit ?_; simp [h1])
        | (refine AWP_ret ?_; simp [h1])
        | refine AWP_block ?_
        | refine AWP_seq ?_)
      refine AWP_cond rfl ?_
      repeat (first
        | (refine AWP_seq (AWP_regS tOk rfl ?_); simp)
        | (refine AWP_regS tOk rfl ?_; simp)
        | (refine AWP_skip ?_; simp)
        | (refine AWP_exit ?_; simp)
        | (refine AWP_ret ?_; simp)
        | refine AWP_block ?_
        | refine AWP_seq ?_)
    · rw [h2]
      repeat (first
        | (refine AWP_seq (AWP_regS tOk rfl ?_); simp [h1])
        | (refine AWP_regS tOk rfl ?_; simp [h1])
        | (refine AWP_skip ?_; simp [h1])
        | (refine AWP_exit ?_; simp [h1])
        | (refine AWP_ret ?_; simp [h1])
        | refine AWP_block ?_
        | refine AWP_seq ?_)
      refine AWP_cond rfl ?_
      repeat (first
        | (refine AWP_seq (AWP_regS tOk rfl ?_); simp)
        | (refine AWP_regS tOk rfl ?_; simp)
        | (refine AWP_skip ?_; simp)
        | (refine AWP_exit ?_; simp)
        | (refine AWP_ret ?_; simp)
        | refine AWP_block ?_
        | refine AWP_seq ?_)
end Go.Abs
set_option maxRecDepth 100000
namespace Go.Abs
open Go Go.Proofs
set_option linter.unusedSimpArgs false
/-- The index of the event type with a name. -/
def whereR : List Sch → List UInt8 → Option Nat
  | [], _ => none
  | s :: l, n => if s.name = n then some 0 else (whereR l n).map (· + 1)
def findR (l : List Sch) (n : List UInt8) : Int × Int :=
  if ckSchs l ≠ 0 then (0, ckSchs l) else match whereR l n with | some k => (k, 0) | none => (0, 6)
attribute [local irreducible] ckSchs
theorem pc_sFind (l : List Sch) (n : List UInt8) : PC Tryz.prog 42 [.list (l.map encSch), .str n] (fun r => r = .tup [.i (findR l n).1, .i (findR l n).2]) := by
  refine PC_body tOk Tryz.func42 rfl Tryz.results42 rfl (by simp [Tryz.ntmps42]) ?_
  rw [Tryz.ntmps42]
  simp only [argSlots]
  obtain ⟨R, hR⟩ : ∃ R, findR l n = R := ⟨_, rfl⟩
  rw [hR]
  rw [findR] at hR
  repeat (first
    | (refine AWP_seq (AWP_regS tOk rfl ?_); simp)
    | (refine AWP_regS tOk rfl ?_; simp)
    | (refine AWP_skip ?_; simp)
    | (refine AWP_exit ?_; simp)
    | (refine AWP_ret ?_; simp)
    | refine AWP_block ?_
    | refine AWP_seq ?_)
  refine AStep_PC rfl rfl (by simp) (pc_sCheckAll l) rfl ?_
  rintro _ rfl
  simp
  repeat (first
    | (refine AWP_seq (AWP_regS tOk rfl ?_); simp)
    | (refine AWP_regS tOk rfl ?_; simp)
    | (refine AWP_skip ?_; simp)
    | (refine AWP_exit ?_; simp)
    | (refine AWP_ret ?_; simp)
    | refine AWP_block ?_
    | refine AWP_seq ?_)
  refine AWP_cond2 rfl (fun h => ?_) (fun h => ?_)
  · repeat (first
      | (refine AWP_seq (AWP_regS tOk rfl ?_); simp)
      | (refine AWP_regS tOk rfl ?_; simp)
      | (refine AWP_skip ?_; simp)
      | (refine AWP_exit ?_; simp)
      | (refine AWP_ret ?_; simp)
      | refine AWP_block ?_
      | refine AWP_seq ?_)
    rw [if_pos (by simpa using h)] at hR
    rw [← hR]
    exact ⟨rfl, rfl⟩
  rw [if_neg (by simpa using h)] at hR
  have hll := ckSchs_len (l := l) (by simpa using h)
  clear h
  repeat (first
    | (refine AWP_seq (AWP_regS tOk rfl ?_); simp)
    | (refine AWP_regS tOk rfl ?_; simp)
    | (refine AWP_skip ?_; simp)
    | (refine AWP_exit ?_; simp)
    | (refine AWP_ret ?_; simp)
    | refine AWP_block ?_
    | refine AWP_seq ?_)
  refine AWP_loop (ALoop_keep (sl' := [(1, .str n), (14, .list (l.map encSch)), (15, .i l.length), (16, .i 0)]) ?_ (by simp))
  refine ALoop_wf (F := fun (u : Nat × List AObj) => ⟨[(1, .str n), (14, .list (l.map encSch)), (15, .i l.length), (16, .i u.1)], u.2⟩)
    (fun u => u.1 ≤ l.length ∧ (match (whereR (l.drop u.1) n).map (· + u.1) with | some k => ((k : Int), (0 : Int)) | none => (0, 6)) = R) (fun u => l.length - u.1) ?_ (0, _) ⟨by simp, by simpa using hR⟩
  rintro ⟨j, H2⟩ ⟨hj, g1⟩ ih
  simp only at hj g1 ih ⊢
  repeat (first
    | (refine AWP_seq (AWP_regS tOk rfl ?_); simp)
    | (refine AWP_regS tOk rfl ?_; simp)
    | (refine AWP_skip ?_; simp)
    | (refine AWP_exit ?_; simp)
    | (refine AWP_ret ?_; simp)
    | refine AWP_block ?_
    | refine AWP_seq ?_)
  refine AWP_cond2 rfl (fun hlt => ?_) (fun hge => ?_)
  · have hlt' : j < l.length := by simpa using hlt
    have hw : IntKind.i64.wrap ((j : Int) + 1) = j + 1 := wrap_i64 _ (by omega) (by omega)
    rw [drop_get hlt', whereR] at g1
    repeat (first
      | (refine AWP_seq (AWP_regS tOk rfl ?_); simp [hlt'])
      | (refine AWP_regS tOk rfl ?_; simp [hlt'])
      | (refine AWP_skip ?_; simp [hlt'])
      | (refine AWP_exit ?_; simp [hlt'])
      | (refine AWP_ret ?_; simp [hlt'])
      | refine AWP_block ?_
      | refine AWP_seq ?_)
    refine AWP_cond2 rfl (fun h4 => ?_) (fun h4 => ?_)
    · rw [if_pos (by simpa using h4)] at g1
      simp at g1
      repeat (first
        | (refine AWP_seq (AWP_regS tOk rfl ?_); simp)
        | (refine AWP_regS tOk rfl ?_; simp)
        | (refine AWP_skip ?_; simp)
        | (refine AWP_exit ?_; simp)
        | (refine AWP_ret ?_; simp)
        | refine AWP_block ?_
        | refine AWP_seq ?_)
      rw [← g1]
      exact ⟨rfl, rfl⟩
    rw [if_neg (by simpa using h4)] at g1
    repeat (first
      | (refine AWP_seq (AWP_regS tOk rfl ?_); simp [hw])
      | (refine AWP_regS tOk rfl ?_; simp [hw])
      | (refine AWP_skip ?_; simp [hw])
      | (refine AWP_exit ?_; simp [hw])
      | (refine AWP_ret ?_; simp [hw])
      | refine AWP_block ?_
      | refine AWP_seq ?_)
    refine ALoop_keep (sl' := [(1, .str n), (14, .list (l.map encSch)), (15, .i l.length), (16, .i (j + 1 : Nat))]) (ih (j + 1, _) ⟨by simp; omega, ?_⟩ (by simp; omega)) (by simp)
    rw [← g1, Option.map_map]
    have : ((fun x : Nat => x + j) ∘ fun x => x + 1) = fun x => x + (j + 1) := by funext x; simp; omega
    simp only [this]
  · have hge' : j = l.length := by simp at hge; omega
    subst hge'
    rw [List.drop_length, whereR] at g1
    simp at g1
    repeat (first
      | (refine AWP_seq (AWP_regS tOk rfl ?_); simp)
      | (refine AWP_regS tOk rfl ?_; simp)
      | (refine AWP_skip ?_; simp)
      | (refine AWP_exit ?_; simp)
      | (refine AWP_ret ?_; simp)
      | refine AWP_block ?_
      | refine AWP_seq ?_)
    rw [← g1]
    exact ⟨rfl, rfl⟩
/-- Where an event lies while it is read. -/
def vX (n : Nat) (o : Option Nat) : AV := match o with | none => .nils | some p => .sl p 3 0 n
def evX (e : Ev) (o : Option Nat) : AObj := .vars [.i e.source, .i e.seq, .i e.type, .i e.time, vX e.values.length o]
def evAt (H : List AObj) (q : Nat) (e : Ev) (o : Option Nat) : Prop := H[q]? = some (evX e o) ∧ match o with | none => e.values = [] | some p => H[p]? = some (.arr 39 3 (e.values.map encV)) ∧ p ≠ q
theorem nums_vals (a b c d : Int) (vs : List Val) : numsR ⟨a, b, c, d, vs⟩ = numsR ⟨a, b, c, d, []⟩ := rfl
def identR (e : Ev) (s : List UInt8) : Ev × Int :=
  if (Lib.cut s [46]).2.2 = false ∨ (numeR (Lib.cut s [46]).1).2 = false ∨ (numeR (Lib.cut s [46]).2.1).2 = false then (e, 4)
  else ({ e with source := (numeR (Lib.cut s [46]).1).1, seq := (numeR (Lib.cut s [46]).2.1).1 }, numsR { e with source := (numeR (Lib.cut s [46]).1).1, seq := (numeR (Lib.cut s [46]).2.1).1 })
def momR (e : Ev) (s : List UInt8) : Ev × Int :=
  if (cutPre s [64]).2 = false ∨ (numeR (cutPre s [64]).1).2 = false then (e, 4)
  else ({ e with time := (numeR (cutPre s [64]).1).1 }, numsR { e with time := (numeR (cutPre s [64]).1).1 })
theorem set_hold {H : List AObj} {q : Nat} {x : AObj} (h : H[q]? = some x) : H.set q x = H := by
  apply List.ext_getElem?
  intro i
  by_cases hi : q = i
  · subst hi; rw [h]; exact List.getElem?_set_self (List.getElem?_eq_some_iff.1 h).1
  · rw [List.getElem?_set_ne hi]
theorem cut_len (s p : List UInt8) : (Lib.cut s p).1.length ≤ s.length ∧ (Lib.cut s p).2.1.length ≤ s.length := by
  unfold Lib.cut
  split
  · simp; omega
  · simp
theorem cutPre_len (s p : List UInt8) : (cutPre s p).1.length ≤ s.length := by unfold cutPre; split <;> simp
attribute [local irreducible] numsR numeR cutPre Lib.cut
set_option maxHeartbeats 1000000 in
theorem fc_identity (H : List AObj) (q : Nat) (e : Ev) (hq : H[q]? = some (evX e none)) (s : List UInt8) (hs : s.length ≤ 1000000) : FC Tryz.prog 43 [.vptr q 0, .str s] H (fun r H' => r = .i (identR e s).2 ∧ H' = H.set q (evX (identR e s).1 none)) := by
  refine FC_body tOk Tryz.func43 rfl Tryz.results43 rfl (by simp [Tryz.ntmps43]) ?_
  rw [Tryz.ntmps43]
  simp only [argSlots]
  obtain ⟨R, hR⟩ : ∃ R, identR e s = R := ⟨_, rfl⟩
  rw [hR]
  rw [identR] at hR
  have hcl := cut_len s [46]
  repeat (first
    | (refine AWP_seq (AWP_regS tOk rfl ?_); simp)
    | (refine AWP_regS tOk rfl ?_; simp)
    | (refine AWP_skip ?_; simp)
    | (refine AWP_exit ?_; simp)
    | (refine AWP_ret ?_; simp)
    | refine AWP_block ?_
    | refine AWP_seq ?_)
  refine AStep_PC rfl rfl (by simp) (pc_Cut s [46] hs) rfl ?_
  rintro _ rfl
  simp
  generalize Lib.cut s [46] = c at *
  obtain ⟨c1, c2, c3⟩ := c
  simp only at hR hcl
  repeat (first
    | (refine AWP_seq (AWP_regS tOk rfl ?_); simp)
    | (refine AWP_regS tOk rfl ?_; simp)
    | (refine AWP_skip ?_; simp)
    | (refine AWP_exit ?_; simp)
    | (refine AWP_ret ?_; simp)
    | refine AWP_block ?_
    | refine AWP_seq ?_)
  refine AStep_PC rfl rfl (by simp) (pc_enumeral c1 (by omega)) rfl ?_
  rintro _ rfl
  simp
  repeat (first
    | (refine AWP_seq (AWP_regS tOk rfl ?_); simp)
    | (refine AWP_regS tOk rfl ?_; simp)
    | (refine AWP_skip ?_; simp)
    | (refine AWP_exit ?_; simp)
    | (refine AWP_ret ?_; simp)
    | refine AWP_block ?_
    | refine AWP_seq ?_)
  refine AStep_PC rfl rfl (by simp) (pc_enumeral c2 (by omega)) rfl ?_
  rintro _ rfl
  simp
  repeat (first
    | (refine AWP_seq (AWP_regS tOk rfl ?_); simp)
    | (refine AWP_regS tOk rfl ?_; simp)
    | (refine AWP_skip ?_; simp)
    | (refine AWP_exit ?_; simp)
    | (refine AWP_ret ?_; simp)
    | refine AWP_block ?_
    | refine AWP_seq ?_)
  generalize numeR c1 = m at *
  generalize numeR c2 = n at *
  obtain ⟨m1, m2⟩ := m
  obtain ⟨n1, n2⟩ := n
  simp only at hR
  cases hb : (!c3 || !m2 || !n2) with
  | true =>
    rw [if_pos (by cases c3 <;> cases m2 <;> cases n2 <;> simp_all)] at hR
    refine AWP_cond2 rfl (fun _ => ?_) (fun h => by simp_all)
    repeat (first
      | (refine AWP_seq (AWP_regS tOk rfl ?_); simp)
      | (refine AWP_regS tOk rfl ?_; simp)
      | (refine AWP_skip ?_; simp)
      | (refine AWP_exit ?_; simp)
      | (refine AWP_ret ?_; simp)
      | refine AWP_block ?_
      | refine AWP_seq ?_)
    rw [← hR]
    exact ⟨rfl, (set_hold hq).symm⟩
  | false =>
    rw [if_neg (by cases c3 <;> cases m2 <;> cases n2 <;> simp_all)] at hR
    refine AWP_cond2 rfl (fun h => by simp_all) (fun _ => ?_)
    have hq' : H[q]? = some (.vars [.i e.source, .i e.seq, .i e.type, .i e.time, .nils]) := hq
    have gs : ∀ y, (H.set q y)[q]? = some y := fun y => get_self hq y
    repeat (first
      | (refine AWP_seq (AWP_regS tOk rfl ?_); simp [hq', gs])
      | (refine AWP_regS tOk rfl ?_; simp [hq', gs])
      | (refine AWP_skip ?_; simp [hq', gs])
      | (refine AWP_exit ?_; simp [hq', gs])
      | (refine AWP_ret ?_; simp [hq', gs])
      | refine AWP_block ?_
      | refine AWP_seq ?_)
    refine AStep_PC rfl rfl (by simp) (pc_enumbers ⟨m1, n1, e.type, e.time, []⟩) rfl ?_
    rintro _ rfl
    simp
    repeat (first
      | (refine AWP_seq (AWP_regS tOk rfl ?_); simp)
      | (refine AWP_regS tOk rfl ?_; simp)
      | (refine AWP_skip ?_; simp)
      | (refine AWP_exit ?_; simp)
      | (refine AWP_ret ?_; simp)
      | refine AWP_block ?_
      | refine AWP_seq ?_)
    rw [← hR]
    exact ⟨by rw [nums_vals _ _ _ _ e.values], rfl⟩
set_option maxHeartbeats 1000000 in
theorem fc_moment (H : List AObj) (q : Nat) (e : Ev) (hq : H[q]? = some (evX e none)) (s : List UInt8) (hs : s.length ≤ 1000000) : FC Tryz.prog 44 [.vptr q 0, .str s] H (fun r H' => r = .i (momR e s).2 ∧ H' = H.set q (evX (momR e s).1 none)) := by
  refine FC_body tOk Tryz.func44 rfl Tryz.results44 rfl (by simp [Tryz.ntmps44]) ?_
  rw [Tryz.ntmps44]
  simp only [argSlots]
  obtain ⟨R, hR⟩ : ∃ R, momR e s = R := ⟨_, rfl⟩
  rw [hR]
  rw [momR] at hR
  have hcl := cutPre_len s [64]
  repeat (first
    | (refine AWP_seq (AWP_regS tOk rfl ?_); simp)
    | (refine AWP_regS tOk rfl ?_; simp)
    | (refine AWP_skip ?_; simp)
    | (refine AWP_exit ?_; simp)
    | (refine AWP_ret ?_; simp)
    | refine AWP_block ?_
    | refine AWP_seq ?_)
  refine AStep_PC rfl rfl (by simp) (pc_CutPrefix s [64]) rfl ?_
  rintro _ rfl
  simp
  generalize cutPre s [64] = c at *
  obtain ⟨c1, c3⟩ := c
  simp only at hR hcl
  repeat (first
    | (refine AWP_seq (AWP_regS tOk rfl ?_); simp)
    | (refine AWP_regS tOk rfl ?_; simp)
    | (refine AWP_skip ?_; simp)
    | (refine AWP_exit ?_; simp)
    | (refine AWP_ret ?_; simp)
    | refine AWP_block ?_
    | refine AWP_seq ?_)
  refine AStep_PC rfl rfl (by simp) (pc_enumeral c1 (by omega)) rfl ?_
  rintro _ rfl
  simp
  repeat (first
    | (refine AWP_seq (AWP_regS tOk rfl ?_); simp)
    | (refine AWP_regS tOk rfl ?_; simp)
    | (refine AWP_skip ?_; simp)
    | (refine AWP_exit ?_; simp)
    | (refine AWP_ret ?_; simp)
    | refine AWP_block ?_
    | refine AWP_seq ?_)
  generalize numeR c1 = m at *
  obtain ⟨m1, m2⟩ := m
  simp only at hR
  cases hb : (!c3 || !m2) with
  | true =>
    rw [if_pos (by cases c3 <;> cases m2 <;> simp_all)] at hR
    refine AWP_cond2 rfl (fun _ => ?_) (fun h => by simp_all)
    repeat (first
      | (refine AWP_seq (AWP_regS tOk rfl ?_); simp)
      | (refine AWP_regS tOk rfl ?_; simp)
      | (refine AWP_skip ?_; simp)
      | (refine AWP_exit ?_; simp)
      | (refine AWP_ret ?_; simp)
      | refine AWP_block ?_
      | refine AWP_seq ?_)
    rw [← hR]
    exact ⟨rfl, (set_hold hq).symm⟩
  | false =>
    rw [if_neg (by cases c3 <;> cases m2 <;> simp_all)] at hR
    refine AWP_cond2 rfl (fun h => by simp_all) (fun _ => ?_)
    have hq' : H[q]? = some (.vars [.i e.source, .i e.seq, .i e.type, .i e.time, .nils]) := hq
    have gs : ∀ y, (H.set q y)[q]? = some y := fun y => get_self hq y
    repeat (first
      | (refine AWP_seq (AWP_regS tOk rfl ?_); simp [hq', gs])
      | (refine AWP_regS tOk rfl ?_; simp [hq', gs])
      | (refine AWP_skip ?_; simp [hq', gs])
      | (refine AWP_exit ?_; simp [hq', gs])
      | (refine AWP_ret ?_; simp [hq', gs])
      | refine AWP_block ?_
      | refine AWP_seq ?_)
    refine AStep_PC rfl rfl (by simp) (pc_enumbers ⟨e.source, e.seq, e.type, m1, []⟩) rfl ?_
    rintro _ rfl
    simp
    repeat (first
      | (refine AWP_seq (AWP_regS tOk rfl ?_); simp)
      | (refine AWP_regS tOk rfl ?_; simp)
      | (refine AWP_skip ?_; simp)
      | (refine AWP_exit ?_; simp)
      | (refine AWP_ret ?_; simp)
      | refine AWP_block ?_
      | refine AWP_seq ?_)
    rw [← hR]
    exact ⟨by rw [nums_vals _ _ _ _ e.values], rfl⟩
/-- What a word does to an event, and the error. -/
def wordR (l : List Sch) (e : Ev) (i : Nat) (s : List UInt8) : Ev × Int :=
  if i = 0 then (if (findR l s).2 ≠ 0 then (e, 8) else ({ e with type := (findR l s).1 }, 0))
  else if i = 1 then identR e s else if i = 2 then momR e s
  else if (fldsOf l e).length ≤ i - 3 then (e, 4)
  else if (parseR s).2 ≠ 0 then (e, (parseR s).2)
  else if (parseR s).1.kind ≠ ((fldsOf l e).getD (i - 3) default).kind then (e, 9)
  else ({ e with values := e.values ++ [(parseR s).1] }, 0)
theorem ident_vals (e : Ev) (s : List UInt8) : (identR e s).1.values = e.values := by unfold identR; split <;> rfl
theorem mom_vals (e : Ev) (s : List UInt8) : (momR e s).1.values = e.values := by unfold momR; split <;> rfl
def WordQ (H : List AObj) (q : Nat) (o : Option Nat) (i : Nat) (R : Ev × Int) (r : AV) (H' : List AObj) : Prop :=
  r = .i R.2 ∧ H.length ≤ H'.length ∧ ∃ o', (R.2 = 0 → evAt H' q R.1 o') ∧ (o' = o ∨ 3 ≤ i ∧ ∃ p, o' = some p ∧ H.length ≤ p) ∧ ∀ j, j < H.length → j ≠ q → some j ≠ o → H'[j]? = H[j]?
attribute [local irreducible] identR momR parseR findR
theorem wordQ_bad {H : List AObj} {q i : Nat} {o : Option Nat} {e : Ev} {n : Int} (hn : n ≠ 0) {H' : List AObj} (hH : ∃ G, H' = H ++ G) : WordQ H q o i (e, n) (.i n) H' := by
  obtain ⟨G, rfl⟩ := hH
  exact ⟨rfl, by simp, o, fun h => absurd h hn, .inl rfl, fun j hj _ _ => List.getElem?_append_left hj⟩
theorem wordQ_set {H : List AObj} {q i : Nat} {e e' : Ev} {n : Int} (hq : H[q]? = some (evX e none)) (hv : e'.values = []) : WordQ H q none i (e', n) (.i n) (H.set q (evX e' none)) :=
  ⟨rfl, by simp, none, fun _ => ⟨get_self hq _, hv⟩, .inl rfl, fun j _ hj _ => List.getElem?_set_ne (fun h => hj h.symm)⟩
set_option maxHeartbeats 2000000 in
theorem fc_word (H : List AObj) (l : List Sch) (hl : l.length ≤ 1000000) (hf8 : ∀ s ∈ l, s.fields.length ≤ 8) (q : Nat) (e : Ev) (o : Option Nat) (i : Nat) (hi : i ≤ 1000000) (s : List UInt8) (hs : s.length ≤ 1000000) (he : evAt H q e o) (hi3 : i < 3 → o = none)
    (hty : 0 < i → 0 ≤ e.type ∧ e.type < l.length) (hvl : e.values.length ≤ 8) :
    FC Tryz.prog 29 [.list (l.map encSch), .vptr q 0, .i i, .str s] H (WordQ H q o i (wordR l e i s)) := by
  refine FC_body tOk Tryz.func29 rfl Tryz.results29 rfl (by simp [Tryz.ntmps29]) ?_
  rw [Tryz.ntmps29]
  simp only [argSlots]
  obtain ⟨R, hR⟩ : ∃ R, wordR l e i s = R := ⟨_, rfl⟩
  rw [hR]
  rw [wordR] at hR
  by_cases h0 : i = 0
  · rw [if_pos h0] at hR
    subst h0
    obtain rfl := hi3 (by omega)
    obtain ⟨hq, hv0⟩ := he
    have hq' : H[q]? = some (.vars [.i e.source, .i e.seq, .i e.type, .i e.time, .nils]) := hq
    repeat (first
      | (refine AWP_seq (AWP_regS tOk rfl ?_); simp)
      | (refine AWP_regS tOk rfl ?_; simp)
      | (refine AWP_skip ?_; simp)
      | (refine AWP_exit ?_; simp)
      | (refine AWP_ret ?_; simp)
      | refine AWP_block ?_
      | refine AWP_seq ?_)
    refine AWP_cond rfl ?_
    repeat (first
      | (refine AWP_seq (AWP_regS tOk rfl ?_); simp)
      | (refine AWP_regS tOk rfl ?_; simp)
      | (refine AWP_skip ?_; simp)
      | (refine AWP_exit ?_; simp)
      | (refine AWP_ret ?_; simp)
      | refine AWP_block ?_
      | refine AWP_seq ?_)
    refine AStep_PC rfl rfl (by simp) (pc_sFind l s) rfl ?_
    rintro _ rfl
    simp
    repeat (first
      | (refine AWP_seq (AWP_regS tOk rfl ?_); simp)
      | (refine AWP_regS tOk rfl ?_; simp)
      | (refine AWP_skip ?_; simp)
      | (refine AWP_exit ?_; simp)
      | (refine AWP_ret ?_; simp)
      | refine AWP_block ?_
      | refine AWP_seq ?_)
    refine AWP_cond2 rfl (fun h => ?_) (fun h => ?_)
    · repeat (first
        | (refine AWP_seq (AWP_regS tOk rfl ?_); simp)
        | (refine AWP_regS tOk rfl ?_; simp)
        | (refine AWP_skip ?_; simp)
        | (refine AWP_exit ?_; simp)
        | (refine AWP_ret ?_; simp)
        | refine AWP_block ?_
        | refine AWP_seq ?_)
      rw [if_pos (by simpa using h)] at hR
      rw [← hR]
      exact wordQ_bad (by decide) ⟨[], by simp⟩
    rw [if_neg (by simpa using h)] at hR
    repeat (first
      | (refine AWP_seq (AWP_regS tOk rfl ?_); simp [hq'])
      | (refine AWP_regS tOk rfl ?_; simp [hq'])
      | (refine AWP_skip ?_; simp [hq'])
      | (refine AWP_exit ?_; simp [hq'])
      | (refine AWP_ret ?_; simp [hq'])
      | refine AWP_block ?_
      | refine AWP_seq ?_)
    rw [← hR]
    exact wordQ_set (e' := { e with type := (findR l s).1 }) hq hv0
  rw [if_neg h0] at hR
  have h0' : ((i : Int) == 0) = false := beq_eq_false_iff_ne.2 (by omega)
  repeat (first
    | (refine AWP_seq (AWP_regS tOk rfl ?_); simp)
    | (refine AWP_regS tOk rfl ?_; simp)
    | (refine AWP_skip ?_; simp)
    | (refine AWP_exit ?_; simp)
    | (refine AWP_ret ?_; simp)
    | refine AWP_block ?_
    | refine AWP_seq ?_)
  refine AWP_cond2 rfl (fun h => by rw [h0'] at h; cases h) (fun _ => ?_)
  repeat (first
    | (refine AWP_seq (AWP_regS tOk rfl ?_); simp)
    | (refine AWP_regS tOk rfl ?_; simp)
    | (refine AWP_skip ?_; simp)
    | (refine AWP_exit ?_; simp)
    | (refine AWP_ret ?_; simp)
    | refine AWP_block ?_
    | refine AWP_seq ?_)
  by_cases h1 : i = 1
  · rw [if_pos h1] at hR
    subst h1
    obtain rfl := hi3 (by omega)
    obtain ⟨hq, hv0⟩ := he
    refine AWP_cond rfl ?_
    repeat (first
      | (refine AWP_seq (AWP_regS tOk rfl ?_); simp)
      | (refine AWP_regS tOk rfl ?_; simp)
      | (refine AWP_skip ?_; simp)
      | (refine AWP_exit ?_; simp)
      | (refine AWP_ret ?_; simp)
      | refine AWP_block ?_
      | refine AWP_seq ?_)
    refine AStep_FC rfl rfl (fc_identity H q e hq s hs) rfl ?_
    rintro _ _ ⟨rfl, rfl⟩
    simp
    repeat (first
      | (refine AWP_seq (AWP_regS tOk rfl ?_); simp)
      | (refine AWP_regS tOk rfl ?_; simp)
      | (refine AWP_skip ?_; simp)
      | (refine AWP_exit ?_; simp)
      | (refine AWP_ret ?_; simp)
      | refine AWP_block ?_
      | refine AWP_seq ?_)
    rw [← hR]
    exact wordQ_set hq (by rw [ident_vals]; exact hv0)
  rw [if_neg h1] at hR
  have h1' : ((i : Int) == 1) = false := beq_eq_false_iff_ne.2 (by omega)
  refine AWP_cond2 rfl (fun h => by rw [h1'] at h; cases h) (fun _ => ?_)
  repeat (first
    | (refine AWP_seq (AWP_regS tOk rfl ?_); simp)
    | (refine AWP_regS tOk rfl ?_; simp)
    | (refine AWP_skip ?_; simp)
    | (refine AWP_exit ?_; simp)
    | (refine AWP_ret ?_; simp)
    | refine AWP_block ?_
    | refine AWP_seq ?_)
  by_cases h2 : i = 2
  · rw [if_pos h2] at hR
    subst h2
    obtain rfl := hi3 (by omega)
    obtain ⟨hq, hv0⟩ := he
    refine AWP_cond rfl ?_
    repeat (first
      | (refine AWP_seq (AWP_regS tOk rfl ?_); simp)
      | (refine AWP_regS tOk rfl ?_; simp)
      | (refine AWP_skip ?_; simp)
      | (refine AWP_exit ?_; simp)
      | (refine AWP_ret ?_; simp)
      | refine AWP_block ?_
      | refine AWP_seq ?_)
    refine AStep_FC rfl rfl (fc_moment H q e hq s hs) rfl ?_
    rintro _ _ ⟨rfl, rfl⟩
    simp
    repeat (first
      | (refine AWP_seq (AWP_regS tOk rfl ?_); simp)
      | (refine AWP_regS tOk rfl ?_; simp)
      | (refine AWP_skip ?_; simp)
      | (refine AWP_exit ?_; simp)
      | (refine AWP_ret ?_; simp)
      | refine AWP_block ?_
      | refine AWP_seq ?_)
    rw [← hR]
    exact wordQ_set hq (by rw [mom_vals]; exact hv0)
  rw [if_neg h2] at hR
  have h2' : ((i : Int) == 2) = false := beq_eq_false_iff_ne.2 (by omega)
  refine AWP_cond2 rfl (fun h => by rw [h2'] at h; cases h) (fun _ => ?_)
  obtain ⟨k, hk⟩ : ∃ k : Nat, e.type = k := ⟨e.type.toNat, by have := hty (by omega); omega⟩
  have hkl : k < l.length := by have := hty (by omega); omega
  have hfs : fldsOf l e = l[k].fields := by unfold fldsOf; rw [hk, List.getD_eq_getElem?_getD]; simp [hkl]
  have hfl : l[k].fields.length ≤ 8 := hf8 _ (List.getElem_mem hkl)
  rw [hfs] at hR
  generalize hfs2 : l[k].fields = fs at *
  have hq' : H[q]? = some (.vars [.i e.source, .i e.seq, .i k, .i e.time, vX e.values.length o]) := by rw [← hk]; exact he.1
  obtain ⟨m, hm⟩ : ∃ m, i = m + 3 := ⟨i - 3, by omega⟩
  have hwi : IntKind.i64.wrap (m : Int) = m := wrap_i64 _ (by omega) (by omega)
  have hmi : i - 3 = m := by omega
  rw [hmi] at hR
  subst hm
  repeat (first
    | (refine AWP_seq (AWP_regS tOk rfl ?_); simp [hq', hkl, hfs2, hwi])
    | (refine AWP_regS tOk rfl ?_; simp [hq', hkl, hfs2, hwi])
    | (refine AWP_skip ?_; simp [hq', hkl, hfs2, hwi])
    | (refine AWP_exit ?_; simp [hq', hkl, hfs2, hwi])
    | (refine AWP_ret ?_; simp [hq', hkl, hfs2, hwi])
    | refine AWP_block ?_
    | refine AWP_seq ?_)
  refine AWP_cond2 rfl (fun h => ?_) (fun h => ?_)
  · repeat (first
      | (refine AWP_seq (AWP_regS tOk rfl ?_); simp)
      | (refine AWP_regS tOk rfl ?_; simp)
      | (refine AWP_skip ?_; simp)
      | (refine AWP_exit ?_; simp)
      | (refine AWP_ret ?_; simp)
      | refine AWP_block ?_
      | refine AWP_seq ?_)
    rw [if_pos (by simp [hwi] at h; omega)] at hR
    rw [← hR]
    exact wordQ_bad (by decide) ⟨[], by simp⟩
  have hmf : m < fs.length := by simp [hwi] at h; omega
  rw [if_neg (by omega)] at hR
  repeat (first
    | (refine AWP_seq (AWP_regS tOk rfl ?_); simp)
    | (refine AWP_regS tOk rfl ?_; simp)
    | (refine AWP_skip ?_; simp)
    | (refine AWP_exit ?_; simp)
    | (refine AWP_ret ?_; simp)
    | refine AWP_block ?_
    | refine AWP_seq ?_)
  refine AStep_PC rfl rfl (by simp) (pc_Parse s) rfl ?_
  rintro _ rfl
  simp
  repeat (first
    | (refine AWP_seq (AWP_regS tOk rfl ?_); simp)
    | (refine AWP_regS tOk rfl ?_; simp)
    | (refine AWP_skip ?_; simp)
    | (refine AWP_exit ?_; simp)
    | (refine AWP_ret ?_; simp)
    | refine AWP_block ?_
    | refine AWP_seq ?_)
  refine AWP_cond2 rfl (fun h => ?_) (fun h => ?_)
  · repeat (first
      | (refine AWP_seq (AWP_regS tOk rfl ?_); simp)
      | (refine AWP_regS tOk rfl ?_; simp)
      | (refine AWP_skip ?_; simp)
      | (refine AWP_exit ?_; simp)
      | (refine AWP_ret ?_; simp)
      | refine AWP_block ?_
      | refine AWP_seq ?_)
    rw [if_pos (by simpa using h)] at hR
    rw [← hR]
    exact wordQ_bad (by simpa using h) ⟨_, rfl⟩
  rw [if_neg (by simpa using h)] at hR
  have hgd : fs.getD m default = fs[m] := by rw [List.getD_eq_getElem?_getD]; simp [hmf]
  rw [hgd] at hR
  generalize (parseR s).1 = v at *
  repeat (first
    | (refine AWP_seq (AWP_regS tOk rfl ?_); simp)
    | (refine AWP_regS tOk rfl ?_; simp)
    | (refine AWP_skip ?_; simp)
    | (refine AWP_exit ?_; simp)
    | (refine AWP_ret ?_; simp)
    | refine AWP_block ?_
    | refine AWP_seq ?_)
  refine AWP_drawT tOk mixed [] (.val 0 (.val 1 (.val 2 (.val 3 (.val 4 (.val 5 (.val 6 (.val 7 (.val 8 (.done)))))))))) rfl (by kernel_rfl) ?_
  simp [hmf, hwi]
  repeat (first
    | (refine AWP_seq (AWP_regS tOk rfl ?_); simp)
    | (refine AWP_regS tOk rfl ?_; simp)
    | (refine AWP_skip ?_; simp)
    | (refine AWP_exit ?_; simp)
    | (refine AWP_ret ?_; simp)
    | refine AWP_block ?_
    | refine AWP_seq ?_)
  refine AWP_cond2 rfl (fun h => ?_) (fun h => ?_)
  · repeat (first
      | (refine AWP_seq (AWP_regS tOk rfl ?_); simp)
      | (refine AWP_regS tOk rfl ?_; simp)
      | (refine AWP_skip ?_; simp)
      | (refine AWP_exit ?_; simp)
      | (refine AWP_ret ?_; simp)
      | refine AWP_block ?_
      | refine AWP_seq ?_)
    rw [if_pos (by simpa using h)] at hR
    rw [← hR]
    exact wordQ_bad (by decide) ⟨_, rfl⟩
  rw [if_neg (by simpa using h)] at hR
  have hlq : q < H.length := (List.getElem?_eq_some_iff.1 hq').1
  have ho : ∀ p, o = some p → p < H.length := fun p hp => by
    subst hp
    exact (List.getElem?_eq_some_iff.1 he.2.1).1
  cases o with
  | none =>
    have hv0 : e.values = [] := he.2
    refine AWP_nilOwn q 4 39 3 (get_app hq' _) rfl ?_
    simp [set_app hq']
    have g1 := fun y : AObj => get_app (get_self hq' y) [AObj.vars [AV.int IntKind.i64 v.kind, AV.int IntKind.i64 v.num, AV.str v.text], AObj.arr 39 3 []]
    have g2 : ∀ y : AObj, (H.set q y ++ [AObj.vars [AV.int IntKind.i64 v.kind, AV.int IntKind.i64 v.num, AV.str v.text], AObj.arr 39 3 []])[H.length + 1]? = some (AObj.arr 39 3 []) := fun y => by rw [List.getElem?_append_right (by simp)]; simp
    have g3 : ∀ y : AObj, (H.set q y ++ [AObj.vars [AV.int IntKind.i64 v.kind, AV.int IntKind.i64 v.num, AV.str v.text], AObj.arr 39 3 []])[H.length]? = some (AObj.vars [AV.int IntKind.i64 v.kind, AV.int IntKind.i64 v.num, AV.str v.text]) := fun y => by rw [List.getElem?_append_right (by simp)]; simp
    have g5 : ∀ (y : AObj) (j : Nat), j < H.length → j ≠ q → (H.set q y ++ [AObj.vars [AV.int IntKind.i64 v.kind, AV.int IntKind.i64 v.num, AV.str v.text], AObj.arr 39 3 []])[j]? = H[j]? := fun y j h1 h2 => by rw [List.getElem?_append_left (by simpa using h1), List.getElem?_set_ne (fun h => h2 h.symm)]
    have g6 : ∀ y : AObj, (H.set q y ++ [AObj.vars [AV.int IntKind.i64 v.kind, AV.int IntKind.i64 v.num, AV.str v.text], AObj.arr 39 3 []]).length = H.length + 2 := fun y => by simp
    obtain ⟨p, hp⟩ : ∃ p, p = H.length + 1 := ⟨_, rfl⟩
    rw [← hp] at g2 ⊢
    specialize g1 (AObj.vars [AV.i e.source, AV.i e.seq, AV.i k, AV.i e.time, AV.sl p 3 0 0])
    specialize g2 (AObj.vars [AV.i e.source, AV.i e.seq, AV.i k, AV.i e.time, AV.sl p 3 0 0])
    specialize g3 (AObj.vars [AV.i e.source, AV.i e.seq, AV.i k, AV.i e.time, AV.sl p 3 0 0])
    specialize g5 (AObj.vars [AV.i e.source, AV.i e.seq, AV.i k, AV.i e.time, AV.sl p 3 0 0])
    specialize g6 (AObj.vars [AV.i e.source, AV.i e.seq, AV.i k, AV.i e.time, AV.sl p 3 0 0])
    generalize (H.set q (AObj.vars [AV.i e.source, AV.i e.seq, AV.i k, AV.i e.time, AV.sl p 3 0 0]) ++ [AObj.vars [AV.int IntKind.i64 v.kind, AV.int IntKind.i64 v.num, AV.str v.text], AObj.arr 39 3 []]) = G at *
    have g4 : (G.set p .dead)[q]? = some (.vars [.i e.source, .i e.seq, .i k, .i e.time, .sl p 3 0 0]) := get_set (by omega) g1 _
    repeat (first
      | (refine AWP_seq (AWP_regS tOk rfl ?_); simp)
      | (refine AWP_regS tOk rfl ?_; simp)
      | (refine AWP_skip ?_; simp)
      | (refine AWP_exit ?_; simp)
      | (refine AWP_ret ?_; simp)
      | refine AWP_block ?_
      | refine AWP_seq ?_)
    refine AWP_drawT tOk mixed [7, 10] (.val 0 (.val 1 (.val 2 (.val 3 (.val 4 (.val 5 (.one 6 (.one 7 (.val 8 (.val 9 (.one 10 (.done)))))))))))) rfl (by kernel_rfl) ?_
    simp [g1, g3, get_app g1, set_app g1, get_app g3]
    refine AStep_appendS tOk rfl rfl T23 rfl T39 rfl (by decide) (by decide) rfl rfl rfl ?_
    simp [get_app g1, set_app g1, get_app g2, set_app g2, g4, get_app g4, set_app g4]
    refine ⟨by simp [appOk, get_app g1, set_app g1, get_app g2, set_app g2, g4, get_app g4, set_app g4] <;> omega, ?_⟩
    repeat (first
      | (refine AWP_seq (AWP_regS tOk rfl ?_); simp)
      | (refine AWP_regS tOk rfl ?_; simp)
      | (refine AWP_skip ?_; simp)
      | (refine AWP_exit ?_; simp)
      | (refine AWP_ret ?_; simp)
      | refine AWP_block ?_
      | refine AWP_seq ?_)
    rw [← hR]
    have z2 : G.length ≤ ((G.set p .dead).set q (.vars [AV.i e.source, AV.i e.seq, AV.i k, AV.i e.time, AV.sl (G.length + 1) 3 0 1])).length := by simp
    refine ⟨rfl, by simp; omega, some (G.length + 1), fun _ => ⟨?_, ?_, by omega⟩, .inr ⟨by omega, _, rfl, by omega⟩, fun j h1 h2 h3 => ?_⟩
    · rw [evX]; simp only [hv0, vX, hk]; exact get_app (get_self g4 _) _
    · rw [List.getElem?_append_right (by simp)]; simp [hv0]
    · rw [List.getElem?_append_left (by simp; omega), List.getElem?_set_ne (by omega), List.getElem?_set_ne (by omega)]; exact g5 j h1 h2
  | some p =>
    have e0 := ho p rfl
    have e1 : H[q]? = some (.vars [.i e.source, .i e.seq, .i k, .i e.time, .sl p 3 0 e.values.length]) := hq'
    have e2 : H[p]? = some (.arr 39 3 (e.values.map encV)) := he.2.1
    have e3 : p ≠ q := he.2.2
    have e4 : (H.set p .dead)[q]? = some (.vars [.i e.source, .i e.seq, .i k, .i e.time, .sl p 3 0 e.values.length]) := get_set e3 e1 _
    repeat (first
      | (refine AWP_seq (AWP_regS tOk rfl ?_); simp)
      | (refine AWP_regS tOk rfl ?_; simp)
      | (refine AWP_skip ?_; simp)
      | (refine AWP_exit ?_; simp)
      | (refine AWP_ret ?_; simp)
      | refine AWP_block ?_
      | refine AWP_seq ?_)
    refine AWP_drawT tOk mixed [7, 10] (.val 0 (.val 1 (.val 2 (.val 3 (.val 4 (.val 5 (.one 6 (.one 7 (.val 8 (.val 9 (.one 10 (.done)))))))))))) rfl (by kernel_rfl) ?_
    simp [get_app e1, set_app e1]
    refine AStep_appendS tOk rfl rfl T23 rfl T39 rfl (by decide) (by decide) rfl rfl rfl ?_
    simp [get_app e1, set_app e1, get_app e2, set_app e2, e4, get_app e4, set_app e4]
    refine ⟨by simp [appOk, get_app e1, set_app e1, get_app e2, set_app e2, e4, get_app e4, set_app e4] <;> omega, ?_⟩
    repeat (first
      | (refine AWP_seq (AWP_regS tOk rfl ?_); simp)
      | (refine AWP_regS tOk rfl ?_; simp)
      | (refine AWP_skip ?_; simp)
      | (refine AWP_exit ?_; simp)
      | (refine AWP_ret ?_; simp)
      | refine AWP_block ?_
      | refine AWP_seq ?_)
    rw [← hR]
    refine ⟨rfl, by simp, some (H.length + 2), fun _ => ⟨?_, ?_, by omega⟩, .inr ⟨by omega, _, rfl, by omega⟩, fun j h1 h2 h3 => ?_⟩
    · rw [evX]; simp only [vX, hk, List.length_append, List.length_singleton]; exact get_app (get_self e4 _) _
    · rw [List.getElem?_append_right (by simp)]; simp
    · rw [List.getElem?_append_left (by simp; omega), List.getElem?_set_ne (by omega), List.getElem?_set_ne (by intro h; exact h3 (by rw [h]))]
end Go.Abs
set_option maxRecDepth 100000
namespace Go.Abs
open Go Go.Proofs
set_option linter.unusedSimpArgs false
/-- The words of a text with their offsets. -/
def wordsF : Nat → Nat → List UInt8 → List (Nat × List UInt8)
  | 0, _, _ => []
  | _ + 1, _, [] => []
  | n + 1, a, c :: t => if c = 32 then wordsF n (a + 1) t else (a, (c :: t).take (lenR (c :: t))) :: wordsF n (a + lenR (c :: t)) ((c :: t).drop (lenR (c :: t)))
def wordsE (a : Nat) (s : List UInt8) : List (Nat × List UInt8) := wordsF s.length a s
theorem wordsF_eq : ∀ (n m : Nat) (a : Nat) (s : List UInt8), s.length ≤ n → s.length ≤ m → wordsF n a s = wordsF m a s
  | n, m, a, [], _, _ => by cases n <;> cases m <;> rfl
  | 0, _, _, _ :: _, h, _ => by simp at h
  | _ + 1, 0, _, _ :: _, _, h => by simp at h
  | n + 1, m + 1, a, c :: t, h1, h2 => by
    simp at h1 h2
    rw [wordsF, wordsF]
    by_cases hc : c = 32
    · rw [if_pos hc, if_pos hc, wordsF_eq n m _ t h1 h2]
    · rw [if_neg hc, if_neg hc]
      have hp := lenR_pos c t hc
      rw [wordsF_eq n m _ ((c :: t).drop (lenR (c :: t))) (by simp; omega) (by simp; omega)]
theorem wordsE_nil (a : Nat) : wordsE a [] = [] := rfl
theorem wordsE_sp (a : Nat) (c : UInt8) (t : List UInt8) (h : c = 32) : wordsE a (c :: t) = wordsE (a + 1) t := by
  rw [wordsE, List.length_cons, wordsF, if_pos h, wordsE]
theorem wordsE_w (a : Nat) (c : UInt8) (t : List UInt8) (h : c ≠ 32) : wordsE a (c :: t) = (a, (c :: t).take (lenR (c :: t))) :: wordsE (a + lenR (c :: t)) ((c :: t).drop (lenR (c :: t))) := by
  rw [wordsE, List.length_cons, wordsF, if_neg h, wordsE]
  have hp := lenR_pos c t h
  rw [wordsF_eq t.length _ _ ((c :: t).drop (lenR (c :: t))) (by simp; omega) (Nat.le_refl _)]
/-- The words of a text, one behind the other. -/
def goW (l : List Sch) : List (Nat × List UInt8) → Nat → Ev → Ev × Nat × Nat × Int
  | [], i, e => (e, i, 0, 0)
  | (a, w) :: r, i, e => if (wordR l e i w).2 ≠ 0 then (e, i, a, (wordR l e i w).2) else goW l r (i + 1) (wordR l e i w).1
def zeroE : Ev := ⟨0, 0, 0, 0, []⟩
def evParseR (l : List Sch) (s : List UInt8) : Ev × Nat × Int :=
  if ckSchs l ≠ 0 then (zeroE, 0, ckSchs l) else if 65536 < s.length then (zeroE, 0, 13)
  else if (goW l (wordsE 0 s) 0 zeroE).2.2.2 ≠ 0 then (zeroE, (goW l (wordsE 0 s) 0 zeroE).2.2.1, (goW l (wordsE 0 s) 0 zeroE).2.2.2)
  else if (goW l (wordsE 0 s) 0 zeroE).2.1 < 3 ∨ (goW l (wordsE 0 s) 0 zeroE).1.values.length < (fldsOf l (goW l (wordsE 0 s) 0 zeroE).1).length then (zeroE, s.length, 4)
  else ((goW l (wordsE 0 s) 0 zeroE).1, 0, 0)
theorem where_lt : ∀ (l : List Sch) (n : List UInt8) (k : Nat), whereR l n = some k → k < l.length
  | s :: l, n, k, h => by
    rw [whereR] at h
    by_cases hn : s.name = n
    · rw [if_pos hn] at h; cases h; simp
    · rw [if_neg hn] at h
      obtain ⟨j, hj, rfl⟩ := Option.map_eq_some_iff.1 h
      have := where_lt l n j hj
      simp; omega
theorem find_ok {l : List Sch} {n : List UInt8} (h : (findR l n).2 = 0) : 0 ≤ (findR l n).1 ∧ (findR l n).1 < l.length := by
  unfold findR at h ⊢
  by_cases h0 : ckSchs l ≠ 0
  · rw [if_pos h0] at h; exact absurd h h0
  · rw [if_neg h0] at h ⊢
    cases hw : whereR l n with
    | none => rw [hw] at h; cases h
    | some k => have := where_lt l n k hw; simp; omega
theorem word_ok {l : List Sch} {e : Ev} {i : Nat} {s : List UInt8} (hf8 : ∀ s ∈ l, s.fields.length ≤ 8) (hty : 0 < i → 0 ≤ e.type ∧ e.type < l.length) (hv : e.values.length = i - 3) (h11 : i ≤ 11) (h : (wordR l e i s).2 = 0) :
    (0 ≤ (wordR l e i s).1.type ∧ (wordR l e i s).1.type < l.length) ∧ (wordR l e i s).1.values.length = i + 1 - 3 ∧ i + 1 ≤ 11 := by
  unfold wordR at h ⊢
  by_cases h0 : i = 0
  · rw [if_pos h0] at h ⊢
    by_cases h1 : (findR l s).2 ≠ 0
    · rw [if_pos h1] at h; cases h
    · rw [if_neg h1] at h ⊢
      exact ⟨find_ok (by simpa using h1), by simp; omega, by omega⟩
  have ht := hty (by omega)
  rw [if_neg h0] at h ⊢
  by_cases h1 : i = 1
  · rw [if_pos h1] at h ⊢
    refine ⟨?_, by rw [ident_vals]; omega, by omega⟩
    unfold identR; split <;> exact ht
  rw [if_neg h1] at h ⊢
  by_cases h2 : i = 2
  · rw [if_pos h2] at h ⊢
    refine ⟨?_, by rw [mom_vals]; omega, by omega⟩
    unfold momR; split <;> exact ht
  rw [if_neg h2] at h ⊢
  by_cases h3 : (fldsOf l e).length ≤ i - 3
  · rw [if_pos h3] at h; cases h
  rw [if_neg h3] at h ⊢
  by_cases h4 : (parseR s).2 ≠ 0
  · rw [if_pos h4] at h; exact absurd h h4
  rw [if_neg h4] at h ⊢
  by_cases h5 : (parseR s).1.kind ≠ ((fldsOf l e).getD (i - 3) default).kind
  · rw [if_pos h5] at h; cases h
  rw [if_neg h5]
  have hkl : e.type.toNat < l.length := by omega
  have hfs : fldsOf l e = l[e.type.toNat].fields := by unfold fldsOf; rw [List.getD_eq_getElem?_getD]; simp [hkl]
  have := hf8 _ (List.getElem_mem hkl)
  rw [hfs] at h3
  exact ⟨ht, by simp; omega, by omega⟩
theorem evAt_mono {H H' : List AObj} {q : Nat} {e : Ev} {o : Option Nat} (h : evAt H q e o) (hq : H'[q]? = H[q]?) (ho : ∀ p, o = some p → H'[p]? = H[p]?) : evAt H' q e o := by
  refine ⟨by rw [hq]; exact h.1, ?_⟩
  cases o with
  | none => exact h.2
  | some p => exact ⟨by rw [ho p rfl]; exact h.2.1, h.2.2⟩
theorem fc_words (H : List AObj) (s : List UInt8) : FC Tryz.prog 28 [.str s] H (fun r H' => r = .fn (.func 40) [] [.vptr H.length 0] ∧ H' = H ++ [.vars [.str s]]) := by
  refine FC_body tOk Tryz.func28 rfl Tryz.results28 rfl (by simp [Tryz.ntmps28]) ?_
  rw [Tryz.ntmps28]
  simp only [argSlots]
  repeat (first
    | (refine AWP_seq (AWP_regS tOk rfl ?_); simp)
    | (refine AWP_regS tOk rfl ?_; simp)
    | (refine AWP_skip ?_; simp)
    | (refine AWP_exit ?_; simp)
    | (refine AWP_ret ?_; simp)
    | refine AWP_block ?_
    | refine AWP_seq ?_)
attribute [local irreducible] wordR lenR ckSchs
set_option maxHeartbeats 4000000 in
theorem pc_eParse (l : List Sch) (s : List UInt8) : PC Tryz.prog 18 [.list (l.map encSch), .str s] (fun r => r = .tup [encE (evParseR l s).1, .i (evParseR l s).2.1, .i (evParseR l s).2.2]) := by
  refine PC_body tOk Tryz.func18 rfl Tryz.results18 rfl (by simp [Tryz.ntmps18]) ?_
  rw [Tryz.ntmps18]
  simp only [argSlots]
  obtain ⟨R, hR⟩ : ∃ R, evParseR l s = R := ⟨_, rfl⟩
  rw [hR]
  rw [evParseR] at hR
  repeat (first
    | (refine AWP_seq (AWP_regS tOk rfl ?_); simp)
    | (refine AWP_regS tOk rfl ?_; simp)
    | (refine AWP_skip ?_; simp)
    | (refine AWP_exit ?_; simp)
    | (refine AWP_ret ?_; simp)
    | refine AWP_block ?_
    | refine AWP_seq ?_)
  refine AStep_PC rfl rfl (by simp) (pc_sCheckAll l) rfl ?_
  rintro _ rfl
  simp
  repeat (first
    | (refine AWP_seq (AWP_regS tOk rfl ?_); simp)
    | (refine AWP_regS tOk rfl ?_; simp)
    | (refine AWP_skip ?_; simp)
    | (refine AWP_exit ?_; simp)
    | (refine AWP_ret ?_; simp)
    | refine AWP_block ?_
    | refine AWP_seq ?_)
  refine AWP_cond2 rfl (fun h => ?_) (fun h => ?_)
  · repeat (first
      | (refine AWP_seq (AWP_regS tOk rfl ?_); simp)
      | (refine AWP_regS tOk rfl ?_; simp)
      | (refine AWP_skip ?_; simp)
      | (refine AWP_exit ?_; simp)
      | (refine AWP_ret ?_; simp)
      | refine AWP_block ?_
      | refine AWP_seq ?_)
    rw [if_pos (by simpa using h)] at hR
    rw [← hR]
    simp [zeroE]
  rw [if_neg (by simpa using h)] at hR
  have h0 : ckSchs l = 0 := by simpa using h
  have hll := ckSchs_len h0
  have hf8 : ∀ s ∈ l, s.fields.length ≤ 8 := fun s hs => ckSch_fields (ckSchs_all h0 s hs)
  clear h
  repeat (first
    | (refine AWP_seq (AWP_regS tOk rfl ?_); simp)
    | (refine AWP_regS tOk rfl ?_; simp)
    | (refine AWP_skip ?_; simp)
    | (refine AWP_exit ?_; simp)
    | (refine AWP_ret ?_; simp)
    | refine AWP_block ?_
    | refine AWP_seq ?_)
  refine AWP_cond2 rfl (fun h => ?_) (fun h => ?_)
  · repeat (first
      | (refine AWP_seq (AWP_regS tOk rfl ?_); simp)
      | (refine AWP_regS tOk rfl ?_; simp)
      | (refine AWP_skip ?_; simp)
      | (refine AWP_exit ?_; simp)
      | (refine AWP_ret ?_; simp)
      | refine AWP_block ?_
      | refine AWP_seq ?_)
    rw [if_pos (by simp at h; omega)] at hR
    rw [← hR]
    simp [zeroE]
  have hsl : s.length ≤ 65536 := by simp at h; omega
  rw [if_neg (by omega)] at hR
  clear h
  obtain ⟨G, hG⟩ : ∃ G, goW l (wordsE 0 s) 0 zeroE = G := ⟨_, rfl⟩
  rw [hG] at hR
  repeat (first
    | (refine AWP_seq (AWP_regS tOk rfl ?_); simp)
    | (refine AWP_regS tOk rfl ?_; simp)
    | (refine AWP_skip ?_; simp)
    | (refine AWP_exit ?_; simp)
    | (refine AWP_ret ?_; simp)
    | refine AWP_block ?_
    | refine AWP_seq ?_)
  refine AStep_FC rfl rfl (fc_words _ s) rfl ?_
  rintro _ _ ⟨rfl, rfl⟩
  simp
  repeat (first
    | (refine AWP_seq (AWP_regS tOk rfl ?_); simp)
    | (refine AWP_regS tOk rfl ?_; simp)
    | (refine AWP_skip ?_; simp)
    | (refine AWP_exit ?_; simp)
    | (refine AWP_ret ?_; simp)
    | refine AWP_block ?_
    | refine AWP_seq ?_)
  refine AWP_rangeFunc rfl (Rf := fun _ H' => (∃ pend sl' ps' a' b', H'[7]? = some (.lp (Option.isNone pend) pend 57 sl' ps' a' b') ∧ 7 < H'.length ∧
    if G.2.2.2 ≠ 0 then pend = some Code.ret ∧ H'[1]? = some (evX zeroE none) ∧ H'[2]? = some (.vars [.i G.2.2.1]) ∧ H'[3]? = some (.vars [.i G.2.2.2])
    else pend = none ∧ H'[0]? = some (.vars [.list (l.map encSch)]) ∧ H'[1]? = some (evX zeroE none) ∧ H'[2]? = some (.vars [.i 0]) ∧ H'[3]? = some (.vars [.i 0]) ∧ (∃ o, evAt H' 4 G.1 o ∧ ∀ p, o = some p → 7 < p) ∧ H'[5]? = some (.vars [.i G.2.1]) ∧
      (0 < G.2.1 → 0 ≤ G.1.type ∧ G.1.type < l.length) ∧ G.1.values.length ≤ 8 ∧ G.2.1 ≤ 11)) ?_ ?_
  · simp
    refine gen_FC fun H1 hH1 => ?_
    have f0 : H1[0]? = some (.vars [.list (l.map encSch)]) := by rw [hH1]; rfl
    have f1 : H1[1]? = some (evX zeroE none) := by rw [hH1]; rfl
    have f2 : H1[2]? = some (.vars [.i 0]) := by rw [hH1]; rfl
    have f3 : H1[3]? = some (.vars [.i 0]) := by rw [hH1]; rfl
    have f4 : H1[4]? = some (evX zeroE none) := by rw [hH1]; rfl
    have f5 : H1[5]? = some (.vars [.i 0]) := by rw [hH1]; rfl
    have f6 : H1[6]? = some (.vars [.str s]) := by rw [hH1]; rfl
    have f7 := congrArg (fun h : List AObj => h[7]?) hH1
    simp at f7
    have hlen1 : H1.length = 8 := by rw [hH1]; simp
    clear hH1
    refine FC_body tOk Tryz.func40 rfl Tryz.results40 rfl (by simp [Tryz.ntmps40]) ?_
    rw [Tryz.ntmps40]
    simp only [argSlots]
    repeat (first
      | (refine AWP_seq (AWP_regS tOk rfl ?_); simp)
      | (refine AWP_regS tOk rfl ?_; simp)
      | (refine AWP_skip ?_; simp)
      | (refine AWP_exit ?_; simp)
      | (refine AWP_ret ?_; simp)
      | refine AWP_block ?_
      | refine AWP_seq ?_)
    refine AWP_loop (ALoop_keep (sl' := [(0, .yld 7), (1, .vptr 6 0), (3, .i 0)]) ?_ (by simp))
    refine ALoop_wf (F := fun (u : Nat × Nat × Ev × Option Nat × List AObj) => ⟨[(0, .yld 7), (1, .vptr 6 0), (3, .i u.1)], u.2.2.2.2⟩)
      (fun u => u.1 ≤ s.length ∧ H1.length ≤ u.2.2.2.2.length ∧ u.2.2.2.2[0]? = some (.vars [.list (l.map encSch)]) ∧ u.2.2.2.2[1]? = some (evX zeroE none) ∧ u.2.2.2.2[2]? = some (.vars [.i 0]) ∧ u.2.2.2.2[3]? = some (.vars [.i 0]) ∧ evAt u.2.2.2.2 4 u.2.2.1 u.2.2.2.1 ∧ u.2.2.2.2[5]? = some (.vars [.i u.2.1]) ∧ u.2.2.2.2[6]? = some (.vars [.str s]) ∧ u.2.2.2.2[7]? = H1[7]? ∧
        (∀ p, u.2.2.2.1 = some p → 7 < p) ∧ (u.2.1 ≤ 3 → u.2.2.2.1 = none) ∧ (0 < u.2.1 → 0 ≤ u.2.2.1.type ∧ u.2.2.1.type < l.length) ∧ u.2.2.1.values.length = u.2.1 - 3 ∧ u.2.1 ≤ 11 ∧ goW l (wordsE u.1 (s.drop u.1)) u.2.1 u.2.2.1 = G) (fun u => s.length - u.1) ?_ (0, 0, zeroE, none, H1) ⟨by simp, Nat.le_refl _, f0, f1, f2, f3, ⟨f4, rfl⟩, f5, f6, rfl, fun _ h => by simp at h, fun _ => rfl, fun h => absurd h (by simp), rfl, by simp, hG⟩
    rintro ⟨a, i, e, o, H2⟩ ⟨ha, g00, g0, g1, g2, g3, g4, g5, g6, g7, g8, g9, g10, g11, g12, g13⟩ ih
    simp only at ha g00 g0 g1 g2 g3 g4 g5 g6 g7 g8 g9 g10 g11 g12 g13 ih ⊢
    repeat (first
      | (refine AWP_seq (AWP_regS tOk rfl ?_); simp [g6])
      | (refine AWP_regS tOk rfl ?_; simp [g6])
      | (refine AWP_skip ?_; simp [g6])
      | (refine AWP_exit ?_; simp [g6])
      | (refine AWP_ret ?_; simp [g6])
      | refine AWP_block ?_
      | refine AWP_seq ?_)
    refine AWP_cond2 rfl (fun hlt => ?_) (fun hge => ?_)
    · have hlt' : a < s.length := by simpa using hlt
      have hw : IntKind.i64.wrap ((a : Int) + 1) = a + 1 := wrap_i64 _ (by omega) (by omega)
      rw [drop_get hlt'] at g13
      obtain ⟨c, hc⟩ : ∃ c, s[a] = c := ⟨_, rfl⟩
      repeat (first
        | (refine AWP_seq (AWP_regS tOk rfl ?_); simp [g6, hlt', hc])
        | (refine AWP_regS tOk rfl ?_; simp [g6, hlt', hc])
        | (refine AWP_skip ?_; simp [g6, hlt', hc])
        | (refine AWP_exit ?_; simp [g6, hlt', hc])
        | (refine AWP_ret ?_; simp [g6, hlt', hc])
        | refine AWP_block ?_
        | refine AWP_seq ?_)
      rw [hc] at g13
      refine AWP_cond2 rfl (fun h32 => ?_) (fun h32 => ?_)
      · have h32' : c = 32 := by
          have h : (c.toNat : Int) = 32 := by simpa using h32
          exact UInt8.toNat_inj.1 (by simpa using (by omega : c.toNat = 32))
        rw [wordsE_sp _ _ _ h32'] at g13
        repeat (first
          | (refine AWP_seq (AWP_regS tOk rfl ?_); simp [hw])
          | (refine AWP_regS tOk rfl ?_; simp [hw])
          | (refine AWP_skip ?_; simp [hw])
          | (refine AWP_exit ?_; simp [hw])
          | (refine AWP_ret ?_; simp [hw])
          | refine AWP_block ?_
          | refine AWP_seq ?_)
        refine ALoop_keep (sl' := [(0, .yld 7), (1, .vptr 6 0), (3, .i (a + 1 : Nat))]) (ih (a + 1, i, e, o, H2) ⟨by simp only; omega, g00, g0, g1, g2, g3, g4, g5, g6, g7, g8, g9, g10, g11, g12, g13⟩ (by simp only; omega)) (by simp)
      have h32' : c ≠ 32 := fun h => by rw [h] at h32; simp at h32
      rw [wordsE_w _ _ _ h32'] at g13
      have hlp := lenR_pos c (s.drop (a + 1)) h32'
      have hle := lenR_le (c :: s.drop (a + 1))
      have hsd : s.drop a = c :: s.drop (a + 1) := by rw [drop_get hlt', hc]
      rw [← hsd] at g13 hlp hle
      rw [List.drop_drop] at g13
      have hdl : (s.drop a).length = s.length - a := by simp
      obtain ⟨n, hn⟩ : ∃ n, lenR (s.drop a) = n := ⟨_, rfl⟩
      rw [hn] at g13 hlp hle
      have hw1 : IntKind.i64.wrap (n : Int) = n := wrap_i64 _ (by omega) (by omega)
      have hw2 : IntKind.i64.wrap ((a : Int) + n) = a + n := wrap_i64 _ (by omega) (by omega)
      have hpc := pc_elength c (s.drop (a + 1)) (by simp; omega)
      rw [← hsd, hn] at hpc
      repeat (first
        | (refine AWP_seq (AWP_regS tOk rfl ?_); simp [g6, ha])
        | (refine AWP_regS tOk rfl ?_; simp [g6, ha])
        | (refine AWP_skip ?_; simp [g6, ha])
        | (refine AWP_exit ?_; simp [g6, ha])
        | (refine AWP_ret ?_; simp [g6, ha])
        | refine AWP_block ?_
        | refine AWP_seq ?_)
      refine AStep_PC rfl rfl (by simp) (hpc) rfl ?_
      rintro _ rfl
      simp
      have hle2 : (a : Int) + n ≤ s.length := by omega
      have hle3 : (a : Int) ≤ a + n := by omega
      have hle4 : ((a : Int) + n).toNat = a + n := by omega
      have hle5 : a + n ≤ s.length := by omega
      have hle6 : (0 : Int) ≤ (a : Int) + n := by omega
      have hww : List.drop a (List.take (a + n) s) = List.take n (List.drop a s) := by rw [List.drop_take]; congr 1; omega
      obtain ⟨w, hwd⟩ : ∃ w, List.take n (List.drop a s) = w := ⟨_, rfl⟩
      have hwl : w.length ≤ 1000000 := by rw [← hwd]; simp; omega
      rw [hwd] at hww g13
      repeat (first
        | (refine AWP_seq (AWP_regS tOk rfl ?_); simp [g6, ha, hw1, hw2, hle2, hle4, hle5, hle6, hww])
        | (refine AWP_regS tOk rfl ?_; simp [g6, ha, hw1, hw2, hle2, hle4, hle5, hle6, hww])
        | (refine AWP_skip ?_; simp [g6, ha, hw1, hw2, hle2, hle4, hle5, hle6, hww])
        | (refine AWP_exit ?_; simp [g6, ha, hw1, hw2, hle2, hle4, hle5, hle6, hww])
        | (refine AWP_ret ?_; simp [g6, ha, hw1, hw2, hle2, hle4, hle5, hle6, hww])
        | refine AWP_block ?_
        | refine AWP_seq ?_)
      rw [goW] at g13
      rw [f7] at g7
      by_cases hok : (wordR l e i w).2 = 0
      · rw [if_neg (by simpa using hok)] at g13
        obtain ⟨hk1, hk2, hk3⟩ := word_ok hf8 g10 g11 g12 hok
        obtain ⟨PQ, hPQ⟩ : ∃ PQ : Option Code → List AObj → Prop, PQ = fun jm H4 => jm = none ∧ H2.length ≤ H4.length ∧ (∃ o', evAt H4 4 (wordR l e i w).1 o' ∧ (o' = o ∨ 3 ≤ i ∧ ∃ p, o' = some p ∧ H2.length ≤ p)) ∧ H4[5]? = some (.vars [.i (i + 1 : Nat)]) ∧ ∀ j, j < H2.length → j ≠ 4 → j ≠ 5 → j ≠ 7 → some j ≠ o → H4[j]? = H2[j]? := ⟨_, rfl⟩
        refine AStep_yield rfl rfl (q := 7) rfl rfl g7 rfl rfl rfl PQ ?_ ?_
        · simp [putMany]
          obtain ⟨H3, hH3⟩ : ∃ H3, H2.set 7 .dead = H3 := ⟨_, rfl⟩
          have e0 : H3[0]? = some (.vars [.list (l.map encSch)]) := by rw [← hH3]; exact get_set (by omega) g0 _
          have e5 : H3[5]? = some (.vars [.i i]) := by rw [← hH3]; exact get_set (by omega) g5 _
          have e7 : H3[7]? = some .dead := by rw [← hH3]; exact get_self g7 _
          have e8 : H3.length = H2.length := by rw [← hH3]; simp
          have e9 : ∀ j, j ≠ 7 → H3[j]? = H2[j]? := fun j hj => by rw [← hH3, List.getElem?_set_ne (by omega)]
          have e4 : evAt H3 4 e o := evAt_mono g4 (e9 4 (by omega)) (fun p hp => e9 p (by have := g8 p hp; omega))
          rw [hH3]
          repeat (first
            | (refine AWP_seq (AWP_regS tOk rfl ?_); simp [e0, e5])
            | (refine AWP_regS tOk rfl ?_; simp [e0, e5])
            | (refine AWP_skip ?_; simp [e0, e5])
            | (refine AWP_exit ?_; simp [e0, e5])
            | (refine AWP_ret ?_; simp [e0, e5])
            | refine AWP_block ?_
            | refine AWP_seq ?_)
          refine AStep_FC rfl rfl (fc_word H3 l (by omega) hf8 4 e o i (by omega) w hwl e4 (fun h => g9 (by omega)) g10 (by omega)) rfl ?_
          rintro _ H4 ⟨rfl, h1, o', h2, h3, h4⟩
          have h2 := h2 hok
          have hne : ∀ j, j ≤ 7 → some j ≠ o := fun j hj h => by have := g8 j h.symm; omega
          have k0 : H4[0]? = some (.vars [.list (l.map encSch)]) := by rw [h4 0 (by omega) (by omega) (hne 0 (by omega))]; exact e0
          have k5 : H4[5]? = some (.vars [.i i]) := by rw [h4 5 (by omega) (by omega) (hne 5 (by omega))]; exact e5
          have k7 : H4[7]? = some .dead := by rw [h4 7 (by omega) (by omega) (hne 7 (by omega))]; exact e7
          have hwi : IntKind.i64.wrap ((i : Int) + 1) = i + 1 := wrap_i64 _ (by omega) (by omega)
          simp [hok]
          repeat (first
            | (refine AWP_seq (AWP_regS tOk rfl ?_); simp)
            | (refine AWP_regS tOk rfl ?_; simp)
            | (refine AWP_skip ?_; simp)
            | (refine AWP_exit ?_; simp)
            | (refine AWP_ret ?_; simp)
            | refine AWP_block ?_
            | refine AWP_seq ?_)
          refine AWP_cond rfl ?_
          repeat (first
            | (refine AWP_seq (AWP_regS tOk rfl ?_); simp [k5, hwi])
            | (refine AWP_regS tOk rfl ?_; simp [k5, hwi])
            | (refine AWP_skip ?_; simp [k5, hwi])
            | (refine AWP_exit ?_; simp [k5, hwi])
            | (refine AWP_ret ?_; simp [k5, hwi])
            | refine AWP_block ?_
            | refine AWP_seq ?_)
          have hm5 : ∀ j, j ≠ 5 → ∀ y, (H4.set 5 y)[j]? = H4[j]? := fun j hj y => List.getElem?_set_ne (by omega)
          have ho5 : ∀ p, o' = some p → 7 < p := fun p hp => by
            rcases h3 with h3 | ⟨_, p', h3, h5⟩
            · exact g8 p (by rw [← h3, hp])
            · rw [hp] at h3; cases h3; omega
          refine ⟨by rw [hm5 7 (by omega)]; exact k7, ?_⟩
          rw [hPQ]
          refine ⟨rfl, by simp; omega, ⟨o', evAt_mono h2 (hm5 4 (by omega) _) (fun p hp => hm5 p (by have := ho5 p hp; omega) _), h3.imp_right fun ⟨h5, p, h6, h7⟩ => ⟨h5, p, h6, by omega⟩⟩, by rw [get_self k5]; rfl, fun j j1 j2 j3 j4 j5 => ?_⟩
          rw [hm5 j j3, h4 j (by omega) j2 j5, e9 j j4]
        · intro jm H4 hP4
          rw [hPQ] at hP4
          obtain ⟨rfl, k1, ⟨o', k2, k3⟩, k4, k5⟩ := hP4
          simp
          obtain ⟨y7, hy7⟩ : ∃ q, H4[7]? = some q := ⟨_, List.getElem?_eq_getElem (by omega)⟩
          generalize hH5 : H4.set 7 _ = H5
          have m7 : H5[7]? = H1[7]? := by rw [f7, ← hH5]; exact get_self hy7 _
          have m8 : H5.length = H4.length := by rw [← hH5]; simp
          have m9 : ∀ j, j ≠ 7 → H5[j]? = H4[j]? := fun j hj => by rw [← hH5, List.getElem?_set_ne (by omega)]
          clear hH5
          have hne : ∀ j, j ≤ 7 → some j ≠ o := fun j hj h => by have := g8 j h.symm; omega
          have m6 : ∀ j, j ≤ 7 → j ≠ 4 → j ≠ 5 → j ≠ 7 → H5[j]? = H2[j]? := fun j j1 j2 j3 j4 => by rw [m9 j j4]; exact k5 j (by omega) j2 j3 j4 (hne j j1)
          have ho' : ∀ p, o' = some p → 7 < p := fun p hp => by
            rcases k3 with h3 | ⟨_, p', h3, h5⟩
            · exact g8 p (by rw [← h3, hp])
            · rw [hp] at h3; cases h3; omega
          repeat (first
            | (refine AWP_seq (AWP_regS tOk rfl ?_); simp)
            | (refine AWP_regS tOk rfl ?_; simp)
            | (refine AWP_skip ?_; simp)
            | (refine AWP_exit ?_; simp)
            | (refine AWP_ret ?_; simp)
            | refine AWP_block ?_
            | refine AWP_seq ?_)
          refine AWP_cond rfl ?_
          repeat (first
            | (refine AWP_seq (AWP_regS tOk rfl ?_); simp [hw1, hw2])
            | (refine AWP_regS tOk rfl ?_; simp [hw1, hw2])
            | (refine AWP_skip ?_; simp [hw1, hw2])
            | (refine AWP_exit ?_; simp [hw1, hw2])
            | (refine AWP_ret ?_; simp [hw1, hw2])
            | refine AWP_block ?_
            | refine AWP_seq ?_)
          refine ALoop_keep (sl' := [(0, .yld 7), (1, .vptr 6 0), (3, .i (a + n : Nat))]) ?_ (by simp)
          have key := ih (a + n, i + 1, (wordR l e i w).1, o', H5) ⟨by simp only; omega, by simp only; omega, (m6 0 (by omega) (by omega) (by omega) (by omega)).trans g0, (m6 1 (by omega) (by omega) (by omega) (by omega)).trans g1, (m6 2 (by omega) (by omega) (by omega) (by omega)).trans g2, (m6 3 (by omega) (by omega) (by omega) (by omega)).trans g3,
            evAt_mono k2 (m9 4 (by omega)) (fun p hp => m9 p (by have := ho' p hp; omega)), (m9 5 (by omega)).trans k4, (m6 6 (by omega) (by omega) (by omega) (by omega)).trans g6, m7, ho', ?_, fun _ => hk1, hk2, hk3, g13⟩ (by simp only; omega)
          · simp only at key
            first | exact key | (rw [hlen1] at key; exact key)
          · intro h
            rcases k3 with h3 | ⟨h3, _⟩
            · rw [h3]; exact g9 (by simp only at h; omega)
            · simp only at h; omega
      · rw [if_pos (by simpa using hok)] at g13
        obtain ⟨c0, hc0⟩ : ∃ c0, (wordR l e i w).2 = c0 := ⟨_, rfl⟩
        obtain ⟨PQ, hPQ⟩ : ∃ PQ : Option Code → List AObj → Prop, PQ = fun jm H4 => jm = some .ret ∧ 7 < H4.length ∧ H4[1]? = some (evX zeroE none) ∧ H4[2]? = some (.vars [.i a]) ∧ H4[3]? = some (.vars [.i c0]) := ⟨_, rfl⟩
        rw [hc0] at hok g13
        refine AStep_yield rfl rfl (q := 7) rfl rfl g7 rfl rfl rfl PQ ?_ ?_
        · simp [putMany]
          obtain ⟨H3, hH3⟩ : ∃ H3, H2.set 7 .dead = H3 := ⟨_, rfl⟩
          have e0 : H3[0]? = some (.vars [.list (l.map encSch)]) := by rw [← hH3]; exact get_set (by omega) g0 _
          have e5 : H3[5]? = some (.vars [.i i]) := by rw [← hH3]; exact get_set (by omega) g5 _
          have e7 : H3[7]? = some .dead := by rw [← hH3]; exact get_self g7 _
          have e8 : H3.length = H2.length := by rw [← hH3]; simp
          have e9 : ∀ j, j ≠ 7 → H3[j]? = H2[j]? := fun j hj => by rw [← hH3, List.getElem?_set_ne (by omega)]
          have e4 : evAt H3 4 e o := evAt_mono g4 (e9 4 (by omega)) (fun p hp => e9 p (by have := g8 p hp; omega))
          rw [hH3]
          repeat (first
            | (refine AWP_seq (AWP_regS tOk rfl ?_); simp [e0, e5])
            | (refine AWP_regS tOk rfl ?_; simp [e0, e5])
            | (refine AWP_skip ?_; simp [e0, e5])
            | (refine AWP_exit ?_; simp [e0, e5])
            | (refine AWP_ret ?_; simp [e0, e5])
            | refine AWP_block ?_
            | refine AWP_seq ?_)
          refine AStep_FC rfl rfl (fc_word H3 l (by omega) hf8 4 e o i (by omega) w hwl e4 (fun h => g9 (by omega)) g10 (by omega)) rfl ?_
          rintro _ H4 ⟨rfl, h1, o', h2, h3, h4⟩
          have hne : ∀ j, j ≤ 7 → some j ≠ o := fun j hj h => by have := g8 j h.symm; omega
          have k1 : H4[1]? = some (.vars [.i 0, .i 0, .i 0, .i 0, .nils]) := by rw [h4 1 (by omega) (by omega) (hne 1 (by omega)), e9 1 (by omega)]; exact g1
          have k2 : H4[2]? = some (.vars [.i 0]) := by rw [h4 2 (by omega) (by omega) (hne 2 (by omega)), e9 2 (by omega)]; exact g2
          have k3 : H4[3]? = some (.vars [.i 0]) := by rw [h4 3 (by omega) (by omega) (hne 3 (by omega)), e9 3 (by omega)]; exact g3
          have k7 : H4[7]? = some .dead := by rw [h4 7 (by omega) (by omega) (hne 7 (by omega))]; exact e7
          have kl : 7 < H4.length := by omega
          clear h2 h3 h4
          rw [hc0]
          have n1 : ∀ y, (H4.set 1 y)[2]? = some (.vars [.i 0]) := fun y => get_set (by omega) k2 y
          have n2 : ∀ y z, ((H4.set 1 y).set 2 z)[3]? = some (.vars [.i 0]) := fun y z => get_set (by omega) (get_set (by omega) k3 y) z
          simp
          repeat (first
            | (refine AWP_seq (AWP_regS tOk rfl ?_); simp)
            | (refine AWP_regS tOk rfl ?_; simp)
            | (refine AWP_skip ?_; simp)
            | (refine AWP_exit ?_; simp)
            | (refine AWP_ret ?_; simp)
            | refine AWP_block ?_
            | refine AWP_seq ?_)
          refine AWP_cond2 rfl (fun _ => ?_) (fun h => absurd h (by simpa using hok))
          repeat (first
            | (refine AWP_seq (AWP_regS tOk rfl ?_); simp [k1, k2, k3, n1, n2])
            | (refine AWP_regS tOk rfl ?_; simp [k1, k2, k3, n1, n2])
            | (refine AWP_skip ?_; simp [k1, k2, k3, n1, n2])
            | (refine AWP_exit ?_; simp [k1, k2, k3, n1, n2])
            | (refine AWP_ret ?_; simp [k1, k2, k3, n1, n2])
            | refine AWP_block ?_
            | refine AWP_seq ?_)
          have z1 : ∀ x y z, (((H4.set 1 x).set 2 y).set 3 z)[7]? = some .dead := fun x y z => get_set (by omega) (get_set (by omega) (get_set (by omega) k7 _) _) _
          refine ⟨z1 _ _ _, ?_⟩
          rw [hPQ]
          exact ⟨rfl, by simp; omega, get_set (by omega) (get_set (by omega) (get_self k1 _) _) _, get_set (by omega) (get_self (n1 _) _) _, get_self (n2 _ _) _⟩
        · intro jm H4 hP4
          rw [hPQ] at hP4
          obtain ⟨rfl, kl, k1, k2, k3⟩ := hP4
          simp
          obtain ⟨y7, hy7⟩ : ∃ q, H4[7]? = some q := ⟨_, List.getElem?_eq_getElem (by omega)⟩
          have kk : ∀ (y : AObj) (j : Nat), j < 7 → (H4.set 7 y)[j]? = H4[j]? := fun y j hj => List.getElem?_set_ne (by omega)
          repeat (first
            | (refine AWP_seq (AWP_regS tOk rfl ?_); simp)
            | (refine AWP_regS tOk rfl ?_; simp)
            | (refine AWP_skip ?_; simp)
            | (refine AWP_exit ?_; simp)
            | (refine AWP_ret ?_; simp)
            | refine AWP_block ?_
            | refine AWP_seq ?_)
          refine AWP_cond rfl ?_
          repeat (first
            | (refine AWP_seq (AWP_regS tOk rfl ?_); simp)
            | (refine AWP_regS tOk rfl ?_; simp)
            | (refine AWP_skip ?_; simp)
            | (refine AWP_exit ?_; simp)
            | (refine AWP_ret ?_; simp)
            | refine AWP_block ?_
            | refine AWP_seq ?_)
          refine ⟨some .ret, ⟨_, _, _, _, get_self hy7 _⟩, kl, ?_⟩
          rw [← g13, if_neg hok]
          exact ⟨rfl, k1, k2, k3⟩
    · have hge' : a = s.length := by simp at hge; omega
      subst hge'
      rw [List.drop_length, wordsE_nil, goW] at g13
      repeat (first
        | (refine AWP_seq (AWP_regS tOk rfl ?_); simp)
        | (refine AWP_regS tOk rfl ?_; simp)
        | (refine AWP_skip ?_; simp)
        | (refine AWP_exit ?_; simp)
        | (refine AWP_ret ?_; simp)
        | refine AWP_block ?_
        | refine AWP_seq ?_)
      refine ⟨none, ⟨_, _, _, _, g7.trans f7⟩, by omega, ?_⟩
      rw [← g13, if_pos rfl]
      exact ⟨rfl, g0, g1, g2, g3, ⟨o, g4, g8⟩, g5, g10, by simp only; omega, g12⟩
  · rintro r H' ⟨pend, sl', ps', a', b', h7, hl7, h2⟩
    refine ⟨_, _, _, _, _, _, _, by simpa using h7, ?_⟩
    have hm : ∀ j, j < 7 → (H'.set 7 .dead)[j]? = H'[j]? := fun j hj => List.getElem?_set_ne (by omega)
    by_cases hg : G.2.2.2 ≠ 0
    · rw [if_pos hg] at h2 hR
      obtain ⟨rfl, h3, h4, h5⟩ := h2
      simp
      have k1 : (H'.set 7 .dead)[1]? = some (.vars [.i 0, .i 0, .i 0, .i 0, .nils]) := (hm 1 (by omega)).trans h3
      have k2 := (hm 2 (by omega)).trans h4
      have k3 := (hm 3 (by omega)).trans h5
      generalize H'.set 7 .dead = K at *
      repeat (first
        | (refine AWP_seq (AWP_regS tOk rfl ?_); simp [k1, k2, k3])
        | (refine AWP_regS tOk rfl ?_; simp [k1, k2, k3])
        | (refine AWP_skip ?_; simp [k1, k2, k3])
        | (refine AWP_exit ?_; simp [k1, k2, k3])
        | (refine AWP_ret ?_; simp [k1, k2, k3])
        | refine AWP_block ?_
        | refine AWP_seq ?_)
      rw [← hR]
      simp [zeroE]
    · rw [if_neg hg] at h2 hR
      obtain ⟨rfl, h3, h4, h5, h6, ⟨o, h8, h9⟩, h10, h11, h12, h13⟩ := h2
      simp
      replace h3 := (hm 0 (by omega)).trans h3
      replace h4 := (hm 1 (by omega)).trans h4
      replace h5 := (hm 2 (by omega)).trans h5
      replace h6 := (hm 3 (by omega)).trans h6
      replace h10 := (hm 5 (by omega)).trans h10
      replace h8 : evAt (H'.set 7 .dead) 4 G.1 o := evAt_mono h8 (hm 4 (by omega)) (fun p hp => by have := h9 p hp; rw [List.getElem?_set_ne]; omega)
      have hl8 : (H'.set 7 .dead).length = H'.length := by simp
      generalize H'.set 7 .dead = K at *
      obtain ⟨⟨es, eq, et, em, vs⟩, gi, g3, g4⟩ := G
      simp only at hR h8 h10 h11 h12 h13 hg
      cases o with
      | none =>
        obtain ⟨h8, hv0⟩ := h8
        simp only at hv0
        subst hv0
        refine AWP_nilOwn 4 4 39 3 h8 rfl ?_
        have k0 : ∀ y, (K.set 4 y ++ [.arr 39 3 []])[0]? = some (.vars [.list (l.map encSch)]) := fun y => get_app (get_set (by omega) h3 _) _
        have k1 : ∀ y, (K.set 4 y ++ [.arr 39 3 []])[1]? = some (.vars [.i 0, .i 0, .i 0, .i 0, .nils]) := fun y => get_app (get_set (by omega) h4 _) _
        have k2 : ∀ y, (K.set 4 y ++ [.arr 39 3 []])[2]? = some (.vars [.i 0]) := fun y => get_app (get_set (by omega) h5 _) _
        have k3 : ∀ y, (K.set 4 y ++ [.arr 39 3 []])[3]? = some (.vars [.i 0]) := fun y => get_app (get_set (by omega) h6 _) _
        have k4 : ∀ y, (K.set 4 y ++ [.arr 39 3 []])[4]? = some y := fun y => get_app (get_self h8 _) _
        have k5 : ∀ y, (K.set 4 y ++ [.arr 39 3 []])[5]? = some (.vars [.i gi]) := fun y => get_app (get_set (by omega) h10 _) _
        have kp : ∀ y, (K.set 4 y ++ [.arr 39 3 []])[K.length]? = some (.arr 39 3 (([] : List Val).map encV)) := fun y => by rw [List.getElem?_append_right (by simp)]; simp
        simp [vX]
        obtain ⟨p, hp⟩ : ∃ p, p = K.length := ⟨_, rfl⟩
        rw [← hp] at kp ⊢
        have hp5 : 5 < p := by omega
        obtain ⟨y, hy⟩ : ∃ y, y = AObj.vars [.i es, .i eq, .i et, .i em, .sl p 3 0 0] := ⟨_, rfl⟩
        rw [← hy]
        specialize k0 y; specialize k1 y; specialize k2 y; specialize k3 y; specialize k4 y; specialize k5 y; specialize kp y
        replace k4 := k4.trans (by rw [hy])
        generalize K.set 4 y ++ [.arr 39 3 []] = L at *
        refine AWP_freeze p kp ?_
        have m0 := get_map (get_set (j := p) (by omega) k0 .dead) (AObj.fz p 3 (([] : List Val).map encV))
        have m1 := get_map (get_set (j := p) (by omega) k1 .dead) (AObj.fz p 3 (([] : List Val).map encV))
        have m2 := get_map (get_set (j := p) (by omega) k2 .dead) (AObj.fz p 3 (([] : List Val).map encV))
        have m3 := get_map (get_set (j := p) (by omega) k3 .dead) (AObj.fz p 3 (([] : List Val).map encV))
        have m4 := get_map (get_set (j := p) (by omega) k4 .dead) (AObj.fz p 3 (([] : List Val).map encV))
        have m5 := get_map (get_set (j := p) (by omega) k5 .dead) (AObj.fz p 3 (([] : List Val).map encV))
        generalize (L.set p .dead).map (AObj.fz p 3 (([] : List Val).map encV)) = M at *
        simp [fz_nils, fz_int, fz_list] at m0 m1 m2 m3 m5
        simp at m4
        try rw [List.take_of_length_le (by simp)] at m4
        have n4 : M[4]? = some (.vars [.i es, .i eq, .i et, .i em, .list (([] : List Val).map encV)]) := m4
        simp
        repeat (first
          | (refine AWP_seq (AWP_regS tOk rfl ?_); simp)
          | (refine AWP_regS tOk rfl ?_; simp)
          | (refine AWP_skip ?_; simp)
          | (refine AWP_exit ?_; simp)
          | (refine AWP_ret ?_; simp)
          | refine AWP_block ?_
          | refine AWP_seq ?_)
        clear m4 k0 k1 k2 k3 k4 k5 kp
        have m12 : ∀ y, (M.set 1 y)[2]? = some (.vars [.i 0]) := fun y => get_set (by omega) m2 y
        have m23 : ∀ y z, ((M.set 1 y).set 2 z)[3]? = some (.vars [.i 0]) := fun y z => get_set (by omega) (get_set (by omega) m3 y) z
        have q1 : ∀ y z u, (((M.set 1 y).set 2 z).set 3 u)[1]? = some y := fun y z u => get_set (by omega) (get_set (by omega) (get_self m1 y) z) u
        have q2 : ∀ y z u, (((M.set 1 y).set 2 z).set 3 u)[2]? = some z := fun y z u => get_set (by omega) (get_self (m12 y) z) u
        have q3 : ∀ y z u, (((M.set 1 y).set 2 z).set 3 u)[3]? = some u := fun y z u => get_self (m23 y z) u
        by_cases ht : 0 ≤ et ∧ et < l.length
        · obtain ⟨k, rfl⟩ : ∃ k : Nat, et = k := ⟨et.toNat, by omega⟩
          have hkl : k < l.length := by omega
          have hfs : fldsOf l ⟨es, eq, k, em, ([] : List Val)⟩ = l[k].fields := by unfold fldsOf; rw [List.getD_eq_getElem?_getD]; simp [hkl]
          rw [hfs] at hR
          generalize hfs2 : l[k].fields = fs at *
          refine AWP_drawT tOk mixed [] (.val 0 (.val 1 (.val 2 (.val 3 (.val 4 (.val 5 (.val 6 (.val 7 (.val 8 (.val 9 (.val 10 (.val 11 (.val 12 (.val 13 (.val 14 (.done)))))))))))))))) rfl (by kernel_rfl) ?_
          simp [m5, m0, n4, hkl, hfs2]
          refine AWP_cond2 rfl (fun h => ?_) (fun h => ?_)
          · rw [if_pos (by first | simpa using h | (simp at h ⊢; omega))] at hR
            repeat (first
              | (refine AWP_seq (AWP_regS tOk rfl ?_); simp [m1, m2, m3, m12, m23, q1, q2, q3])
              | (refine AWP_regS tOk rfl ?_; simp [m1, m2, m3, m12, m23, q1, q2, q3])
              | (refine AWP_skip ?_; simp [m1, m2, m3, m12, m23, q1, q2, q3])
              | (refine AWP_exit ?_; simp [m1, m2, m3, m12, m23, q1, q2, q3])
              | (refine AWP_ret ?_; simp [m1, m2, m3, m12, m23, q1, q2, q3])
              | refine AWP_block ?_
              | refine AWP_seq ?_)
            rw [← hR]
            simp [zeroE]
          · rw [if_neg (by simp only [Bool.or_eq_false_iff, decide_eq_false_iff_not] at h; exact fun h' => h'.elim (fun x => h.1 (by omega)) (fun x => h.2 (by simpa using x)))] at hR
            repeat (first
              | (refine AWP_seq (AWP_regS tOk rfl ?_); simp [m1, m2, m3, m12, m23, n4, q1, q2, q3])
              | (refine AWP_regS tOk rfl ?_; simp [m1, m2, m3, m12, m23, n4, q1, q2, q3])
              | (refine AWP_skip ?_; simp [m1, m2, m3, m12, m23, n4, q1, q2, q3])
              | (refine AWP_exit ?_; simp [m1, m2, m3, m12, m23, n4, q1, q2, q3])
              | (refine AWP_ret ?_; simp [m1, m2, m3, m12, m23, n4, q1, q2, q3])
              | refine AWP_block ?_
              | refine AWP_seq ?_)
            rw [← hR]
            simp
        · have h0g : gi = 0 := by
            rcases Nat.eq_zero_or_pos gi with h | h
            · exact h
            · exact absurd (h11 h) ht
          subst h0g
          rw [if_pos (.inl (by decide))] at hR
          repeat (first
            | (refine AWP_seq (AWP_regS tOk rfl ?_); simp)
            | (refine AWP_regS tOk rfl ?_; simp)
            | (refine AWP_skip ?_; simp)
            | (refine AWP_exit ?_; simp)
            | (refine AWP_ret ?_; simp)
            | refine AWP_block ?_
            | refine AWP_seq ?_)
          refine AWP_drawT tOk mixed [] (.val 0 (.val 1 (.val 2 (.val 3 (.val 4 (.val 5 (.val 6 (.val 7 (.val 8 (.one 9 (.one 10 (.one 11 (.one 12 (.one 13 (.val 14 (.done)))))))))))))))) rfl (by kernel_rfl) ?_
          simp [m5, m0, n4, ht]
          repeat (refine AStep_skip rfl rfl ?_; simp)
          refine AWP_cond rfl ?_
          repeat (first
            | (refine AWP_seq (AWP_regS tOk rfl ?_); simp [m1, m2, m3, m12, m23, q1, q2, q3])
            | (refine AWP_regS tOk rfl ?_; simp [m1, m2, m3, m12, m23, q1, q2, q3])
            | (refine AWP_skip ?_; simp [m1, m2, m3, m12, m23, q1, q2, q3])
            | (refine AWP_exit ?_; simp [m1, m2, m3, m12, m23, q1, q2, q3])
            | (refine AWP_ret ?_; simp [m1, m2, m3, m12, m23, q1, q2, q3])
            | refine AWP_block ?_
            | refine AWP_seq ?_)
          rw [← hR]
          simp [zeroE]
      | some p =>
        obtain ⟨k4, kp, hp4⟩ := h8
        have hp5 : 5 < p := by have := h9 p rfl; omega
        have k0 := h3
        have k1 : K[1]? = some (.vars [.i 0, .i 0, .i 0, .i 0, .nils]) := h4
        have k2 := h5
        have k3 := h6
        have k5 := h10
        rw [evX, vX] at k4
        simp only at k4 kp
        clear h3 h4 h5 h6 h10 hm hl8
        generalize K = L at *
        refine AWP_freeze p kp ?_
        have m0 := get_map (get_set (j := p) (by omega) k0 .dead) (AObj.fz p 3 ((vs).map encV))
        have m1 := get_map (get_set (j := p) (by omega) k1 .dead) (AObj.fz p 3 ((vs).map encV))
        have m2 := get_map (get_set (j := p) (by omega) k2 .dead) (AObj.fz p 3 ((vs).map encV))
        have m3 := get_map (get_set (j := p) (by omega) k3 .dead) (AObj.fz p 3 ((vs).map encV))
        have m4 := get_map (get_set (j := p) (by omega) k4 .dead) (AObj.fz p 3 ((vs).map encV))
        have m5 := get_map (get_set (j := p) (by omega) k5 .dead) (AObj.fz p 3 ((vs).map encV))
        generalize (L.set p .dead).map (AObj.fz p 3 ((vs).map encV)) = M at *
        simp [fz_nils, fz_int, fz_list] at m0 m1 m2 m3 m5
        simp at m4
        try rw [List.take_of_length_le (by simp)] at m4
        have n4 : M[4]? = some (.vars [.i es, .i eq, .i et, .i em, .list ((vs).map encV)]) := m4
        simp
        repeat (first
          | (refine AWP_seq (AWP_regS tOk rfl ?_); simp)
          | (refine AWP_regS tOk rfl ?_; simp)
          | (refine AWP_skip ?_; simp)
          | (refine AWP_exit ?_; simp)
          | (refine AWP_ret ?_; simp)
          | refine AWP_block ?_
          | refine AWP_seq ?_)
        clear m4 k0 k1 k2 k3 k4 k5 kp
        have m12 : ∀ y, (M.set 1 y)[2]? = some (.vars [.i 0]) := fun y => get_set (by omega) m2 y
        have m23 : ∀ y z, ((M.set 1 y).set 2 z)[3]? = some (.vars [.i 0]) := fun y z => get_set (by omega) (get_set (by omega) m3 y) z
        have q1 : ∀ y z u, (((M.set 1 y).set 2 z).set 3 u)[1]? = some y := fun y z u => get_set (by omega) (get_set (by omega) (get_self m1 y) z) u
        have q2 : ∀ y z u, (((M.set 1 y).set 2 z).set 3 u)[2]? = some z := fun y z u => get_set (by omega) (get_self (m12 y) z) u
        have q3 : ∀ y z u, (((M.set 1 y).set 2 z).set 3 u)[3]? = some u := fun y z u => get_self (m23 y z) u
        by_cases ht : 0 ≤ et ∧ et < l.length
        · obtain ⟨k, rfl⟩ : ∃ k : Nat, et = k := ⟨et.toNat, by omega⟩
          have hkl : k < l.length := by omega
          have hfs : fldsOf l ⟨es, eq, k, em, (vs)⟩ = l[k].fields := by unfold fldsOf; rw [List.getD_eq_getElem?_getD]; simp [hkl]
          rw [hfs] at hR
          generalize hfs2 : l[k].fields = fs at *
          refine AWP_drawT tOk mixed [] (.val 0 (.val 1 (.val 2 (.val 3 (.val 4 (.val 5 (.val 6 (.val 7 (.val 8 (.val 9 (.val 10 (.val 11 (.val 12 (.val 13 (.val 14 (.done)))))))))))))))) rfl (by kernel_rfl) ?_
          simp [m5, m0, n4, hkl, hfs2]
          refine AWP_cond2 rfl (fun h => ?_) (fun h => ?_)
          · rw [if_pos (by first | simpa using h | (simp at h ⊢; omega))] at hR
            repeat (first
              | (refine AWP_seq (AWP_regS tOk rfl ?_); simp [m1, m2, m3, m12, m23, q1, q2, q3])
              | (refine AWP_regS tOk rfl ?_; simp [m1, m2, m3, m12, m23, q1, q2, q3])
              | (refine AWP_skip ?_; simp [m1, m2, m3, m12, m23, q1, q2, q3])
              | (refine AWP_exit ?_; simp [m1, m2, m3, m12, m23, q1, q2, q3])
              | (refine AWP_ret ?_; simp [m1, m2, m3, m12, m23, q1, q2, q3])
              | refine AWP_block ?_
              | refine AWP_seq ?_)
            rw [← hR]
            simp [zeroE]
          · rw [if_neg (by simp only [Bool.or_eq_false_iff, decide_eq_false_iff_not] at h; exact fun h' => h'.elim (fun x => h.1 (by omega)) (fun x => h.2 (by simpa using x)))] at hR
            repeat (first
              | (refine AWP_seq (AWP_regS tOk rfl ?_); simp [m1, m2, m3, m12, m23, n4, q1, q2, q3])
              | (refine AWP_regS tOk rfl ?_; simp [m1, m2, m3, m12, m23, n4, q1, q2, q3])
              | (refine AWP_skip ?_; simp [m1, m2, m3, m12, m23, n4, q1, q2, q3])
              | (refine AWP_exit ?_; simp [m1, m2, m3, m12, m23, n4, q1, q2, q3])
              | (refine AWP_ret ?_; simp [m1, m2, m3, m12, m23, n4, q1, q2, q3])
              | refine AWP_block ?_
              | refine AWP_seq ?_)
            rw [← hR]
            simp
        · have h0g : gi = 0 := by
            rcases Nat.eq_zero_or_pos gi with h | h
            · exact h
            · exact absurd (h11 h) ht
          subst h0g
          rw [if_pos (.inl (by decide))] at hR
          repeat (first
            | (refine AWP_seq (AWP_regS tOk rfl ?_); simp)
            | (refine AWP_regS tOk rfl ?_; simp)
            | (refine AWP_skip ?_; simp)
            | (refine AWP_exit ?_; simp)
            | (refine AWP_ret ?_; simp)
            | refine AWP_block ?_
            | refine AWP_seq ?_)
          refine AWP_drawT tOk mixed [] (.val 0 (.val 1 (.val 2 (.val 3 (.val 4 (.val 5 (.val 6 (.val 7 (.val 8 (.one 9 (.one 10 (.one 11 (.one 12 (.one 13 (.val 14 (.done)))))))))))))))) rfl (by kernel_rfl) ?_
          simp [m5, m0, n4, ht]
          repeat (refine AStep_skip rfl rfl ?_; simp)
          refine AWP_cond rfl ?_
          repeat (first
            | (refine AWP_seq (AWP_regS tOk rfl ?_); simp [m1, m2, m3, m12, m23, q1, q2, q3])
            | (refine AWP_regS tOk rfl ?_; simp [m1, m2, m3, m12, m23, q1, q2, q3])
            | (refine AWP_skip ?_; simp [m1, m2, m3, m12, m23, q1, q2, q3])
            | (refine AWP_exit ?_; simp [m1, m2, m3, m12, m23, q1, q2, q3])
            | (refine AWP_ret ?_; simp [m1, m2, m3, m12, m23, q1, q2, q3])
            | refine AWP_block ?_
            | refine AWP_seq ?_)
          rw [← hR]
          simp [zeroE]
end Go.Abs
set_option maxRecDepth 100000
namespace Go.Abs
open Go Go.Proofs
set_option linter.unusedSimpArgs false
def ixF (p : UInt8 → Bool) : List UInt8 → Nat → Int
  | [], _ => -1
  | c :: r, i => if p c = true then i else ixF p r (i + 1)
attribute [local irreducible] formatR parseR hashR compR boolV
end Go.Abs
set_option maxRecDepth 100000
namespace Go.Abs
open Go Go.Proofs
set_option linter.unusedSimpArgs false
/-- A total order, as a comparison of -1, 0 and 1. -/
structure TO {α : Type} (f : α → α → Int) : Prop where
  neg : ∀ a b, f b a = - f a b
  rng : ∀ a b, -1 ≤ f a b ∧ f a b ≤ 1
  zero : ∀ a b, f a b = 0 ↔ a = b
  trans : ∀ a b c, f a b ≤ 0 → f b c ≤ 0 → f a c ≤ 0
def lexC {α β : Type} (f : α → α → Int) (g : β → β → Int) (p q : α × β) : Int := if (f p.1 q.1 != 0) = true then f p.1 q.1 else g p.2 q.2
end Go.Abs
set_option maxRecDepth 100000
namespace Go.Abs
open Go Go.Proofs
set_option linter.unusedSimpArgs false
end Go.Abs
set_option maxRecDepth 100000
namespace Go.Abs
open Go Go.Proofs
set_option linter.unusedSimpArgs false
/-! Strings: what is quoted reads as it was. -/
theorem hexD_ix : ∀ a : Fin 16, ∀ b : Fin 16, hexV (hexD a.val) (hexD b.val) = UInt8.ofNat (16 * a.val + b.val) ∧ 0 ≤ hexI (hexD a.val) ∧ 0 ≤ hexI (hexD b.val) := by decide +kernel
theorem escX_hex (c : UInt8) (r : List UInt8) : escX (hexD (c.toNat / 16) :: hexD (c.toNat % 16) :: r) = some (c, r) := by
  have hc := c.toNat_lt
  obtain ⟨h1, h2, h3⟩ := hexD_ix ⟨c.toNat / 16, by omega⟩ ⟨c.toNat % 16, by omega⟩
  simp only at h1 h2 h3
  rw [escX, if_neg (by simp; omega), h1]
  congr 2
  apply UInt8.toNat_inj.1
  simp
  omega
def stepsTo (e : UInt8 → List UInt8) : Prop := ∀ (c : UInt8) (n : Nat) (r out : List UInt8), unqF (n + 1) (e c ++ r) out = unqF n r (out ++ [c])
theorem unq_steps {e : UInt8 → List UInt8} (he : stepsTo e) : ∀ (t : List UInt8) (n : Nat) (rest out : List UInt8), t.length < n → unqF n (t.flatMap e ++ 34 :: rest) out = (out ++ t, ((34 : UInt8) :: rest) == [34])
  | [], n, rest, out, h => by
    obtain ⟨n, rfl⟩ : ∃ k, n = k + 1 := ⟨n - 1, by simp at h; omega⟩
    simp [unqF]
  | c :: t, n, rest, out, h => by
    obtain ⟨n, rfl⟩ : ∃ k, n = k + 1 := ⟨n - 1, by simp at h; omega⟩
    rw [List.flatMap_cons, List.append_assoc, he c n _ out, unq_steps he t n rest (out ++ [c]) (by simp at h; omega)]
    simp
theorem steps_hexq : stepsTo hexq := fun c n r out => by
  unfold hexq
  have e : escR (120 :: hexD (c.toNat / 16) :: hexD (c.toNat % 16) :: r) = some (c, r) := by
    rw [escR, ite_f (by rfl), ite_f (by rfl), ite_t (by rfl)]; exact escX_hex c r
  show unqF (n + 1) (92 :: 120 :: hexD (c.toNat / 16) :: hexD (c.toNat % 16) :: r) out = _
  rw [unqF, ite_f (by rfl), ite_t (by rfl), e]
theorem steps_escB : stepsTo escB := fun c n r out => by
  rw [escB]
  split
  · rename_i h
    have e : escR (c :: r) = some (c, r) := by rw [escR, ite_t h]
    show unqF (n + 1) (92 :: c :: r) out = _
    rw [unqF, ite_f (by rfl), ite_t (by rfl), e]
  · rename_i h
    split
    · rename_i h2
      have hc : c = 10 := by apply UInt8.toNat_inj.1; simp at h2; show c.toNat = 10; omega
      have e : escR (110 :: r) = some (10, r) := by rw [escR, ite_f (by rfl), ite_t (by rfl)]
      show unqF (n + 1) (92 :: 110 :: r) out = _
      rw [unqF, ite_f (by rfl), ite_t (by rfl), e, hc]
    · split
      · exact steps_hexq c n r out
      · rename_i h3
        simp only [Bool.or_eq_true, not_or, Bool.not_eq_true] at h
        show unqF (n + 1) (c :: r) out = _
        rw [unqF, ite_f h.1, ite_f h.2, ite_t]
        simp at h3
        simp [printB]
        omega
theorem unqR_of {e : UInt8 → List UInt8} (he : stepsTo e) (hl : ∀ c, 1 ≤ (e c).length) (t rest : List UInt8) : unqR (34 :: (t.flatMap e ++ 34 :: rest)) = (t, ((34 : UInt8) :: rest) == [34]) := by
  have hlen : t.length ≤ (t.flatMap e).length := by
    induction t with
    | nil => simp
    | cons c t ih => have := hl c; simp only [List.flatMap_cons, List.length_append, List.length_cons]; omega
  unfold unqR
  rw [List.drop_one, List.tail_cons, unq_steps he t _ rest [] (by simp only [List.length_append, List.length_cons]; omega)]
  simp
theorem hasPre34 (r : List UInt8) : hasPre (34 :: r) [34] = true := by simp [hasPre, List.isPrefixOf]
theorem parse_str (r t : List UInt8) (b : Bool) (hl : r.length < 65536) (h : unqR (34 :: r) = (t, b)) : parseR (34 :: r) = if b = true then checkedV ⟨2, 0, t⟩ else (zeroV, 4) := by
  rw [parseR, ite_f (by simp; omega), ite_f (by simp [sTrue, sFalse]), ite_t (hasPre34 r), h]
  cases b <;> rfl
theorem checkedV_ok {v : Val} (h : checkR v = 0) : checkedV v = (v, 0) := by rw [checkedV, ite_f (by rw [h]; rfl)]
theorem parse_quote (t : List UInt8) (hl : t.length ≤ 64) : parseR (quoteR t) = (⟨2, 0, t⟩, 0) := by
  have h1 : quoteR t = 34 :: (t.flatMap escB ++ 34 :: []) := rfl
  have h2 := quoteTo_len t
  unfold quoteTo at h2
  rw [List.length_cons] at h2
  have hl1 : ∀ c, 1 ≤ (escB c).length := by
    intro c; unfold escB hexq; repeat' split
    all_goals exact Nat.le_of_ble_eq_true rfl
  rw [h1, parse_str _ t true (by simp only [List.length_append, List.length_cons, List.length_nil]; omega) (by rw [unqR_of steps_escB hl1]; rfl), if_pos rfl, checkedV_ok]
  unfold checkR sizeR
  have : ¬ (64 : Int) < t.length := by omega
  simp [this]
def hexText (s : List UInt8) : List UInt8 := 34 :: (s.flatMap hexq ++ 34 :: [])
end Go.Abs
set_option maxRecDepth 100000
namespace Go.Abs
open Go Go.Proofs
set_option linter.unusedSimpArgs false
/-! Integers: their decimal text reads as they were. -/
theorem dg_toNat (d : Nat) (h : d < 10) : (UInt8.ofNat (48 + d)).toNat = 48 + d := by simp; omega
theorem isD_dg (d : Nat) (h : d < 10) : isD (UInt8.ofNat (48 + d)) = true := by rw [isD_iff, dg_toNat d h]; omega
theorem decDigits_all : ∀ (u : Nat), (Lib.decDigits u).all isD = true := fun u => by
  induction u using Nat.strongRecOn with
  | ind u ih =>
    rw [Lib.decDigits]
    split
    · rename_i h; rw [List.all_cons, isD_dg u h]; rfl
    · rename_i h; rw [List.all_append, ih (u / 10) (by omega), List.all_cons, isD_dg (u % 10) (by omega)]; rfl
theorem dval_decDigits : ∀ (u : Nat), dval (Lib.decDigits u) = u := fun u => by
  induction u using Nat.strongRecOn with
  | ind u ih =>
    rw [Lib.decDigits]
    split
    · rename_i h
      rw [dval, List.foldl_cons, List.foldl_nil, dstep, dg_toNat u h]; omega
    · rename_i h
      rw [dval_snoc, ih (u / 10) (by omega), dstep, dg_toNat (u % 10) (by omega)]; omega
theorem decDigits_head : ∀ (u : Nat), 0 < u → ∃ c r, Lib.decDigits u = c :: r ∧ c.toNat ≠ 48 := fun u => by
  induction u using Nat.strongRecOn with
  | ind u ih =>
    intro hu
    rw [Lib.decDigits]
    split
    · rename_i h; exact ⟨_, [], rfl, by rw [dg_toNat u h]; omega⟩
    · rename_i h
      obtain ⟨c, r, e, hc⟩ := ih (u / 10) (by omega) (by omega)
      exact ⟨c, r ++ [UInt8.ofNat (48 + u % 10)], by rw [e]; rfl, hc⟩
theorem decDigits_len (u : Nat) (h : u ≤ 1099511627776) : (Lib.decDigits u).length ≤ 13 := by
  rw [Lib.decDigits_length]
  rcases Nat.lt_or_ge 13 (Lib.nDigits u) with h1 | h1
  · exfalso
    have := Lib.decDigits_length u
    have key : ∀ k u, u < 10 ^ (k + 1) → Lib.nDigits u ≤ k + 1 := fun k => by
      induction k with
      | zero => intro u hu; rw [Lib.nDigits_small (by simpa using hu)]; exact Nat.le_refl _
      | succ k ih =>
        intro u hu
        by_cases h10 : u < 10
        · rw [Lib.nDigits_small h10]; omega
        · rw [Lib.nDigits_big h10]
          have := ih (u / 10) (by rw [Nat.pow_succ] at hu; omega)
          omega
    have := key 12 u (by omega)
    omega
  · exact h1
theorem isD_ne {c : UInt8} (h : isD c = true) : c ≠ 45 ∧ c ≠ 34 ∧ c ≠ 116 ∧ c ≠ 102 := by
  have := (isD_iff c).1 h
  refine ⟨?_, ?_, ?_, ?_⟩ <;> (intro e; subst e; revert this; decide)
theorem trimPre_digs (c : UInt8) (r : List UInt8) (h : isD c = true) : trimPre (c :: r) [45] = c :: r := by
  have := (isD_ne h).1
  unfold trimPre hasPre
  rw [if_neg]
  simp [List.isPrefixOf, this.symm]
theorem trimPre_minus (r : List UInt8) : trimPre (45 :: r) [45] = r := by simp [trimPre, hasPre, List.isPrefixOf]
theorem intR_dig (u : Nat) (h : u ≤ 1099511627776) : intR (Lib.decDigits u) = ((u : Int), true) := by
  have hd := decDigits_all u
  have hl := decDigits_len u h
  have hv := dval_decDigits u
  obtain ⟨c, r, e⟩ : ∃ c r, Lib.decDigits u = c :: r := by
    rcases Nat.eq_zero_or_pos u with h0 | h0
    · subst h0; exact ⟨48, [], by rw [Lib.decDigits]; rfl⟩
    · obtain ⟨c, r, e, _⟩ := decDigits_head u h0; exact ⟨c, r, e⟩
  have hz : c.toNat = 48 → Lib.decDigits u = [48] := by
    intro hc
    rcases Nat.eq_zero_or_pos u with h0 | h0
    · subst h0; rw [Lib.decDigits]; rfl
    · obtain ⟨c', r', e', hc'⟩ := decDigits_head u h0
      rw [e] at e'; cases e'; exact absurd hc hc'
  rw [e] at hd hl hv hz ⊢
  have hc : isD c = true := by simp at hd; exact hd.1
  have hb : intB (c :: r) (c :: r) = true := by
    rw [intB, hd]
    by_cases h48 : c.toNat = 48
    · rw [hz h48]; simp
    · have : ((c.toNat : Int) == 48) = false := by simp; omega
      rw [this]; rfl
  rw [intR, trimPre_digs c r hc, ite_t hb, intV, ite_f (by simp), List.take_of_length_le (by omega), hv]
theorem intR_neg (u : Nat) (h0 : 0 < u) (h : u ≤ 1099511627776) : intR (45 :: Lib.decDigits u) = (-(u : Int), true) := by
  have hd := decDigits_all u
  have hl := decDigits_len u h
  have hv := dval_decDigits u
  obtain ⟨c, r, e, hc⟩ := decDigits_head u h0
  rw [e] at hd hl hv ⊢
  have hb : intB (c :: r) (45 :: c :: r) = true := by
    have : ((c.toNat : Int) == 48) = false := by simp; omega
    rw [intB, hd, this]; rfl
  rw [intR, trimPre_minus, ite_t hb, intV, ite_t (by simp), List.take_of_length_le (by omega), hv]
  rw [show W (0 - (u : Int)) = 0 - (u : Int) from wrap_i64 _ (by omega) (by omega)]
  simp
theorem itoa_cases (n : Int) : (∃ u : Nat, n = u ∧ Lib.itoa n = Lib.decDigits u) ∨ (∃ u : Nat, 0 < u ∧ n = -(u : Int) ∧ Lib.itoa n = 45 :: Lib.decDigits u) := by
  unfold Lib.itoa
  by_cases h : n < 0
  · right; refine ⟨n.natAbs, by omega, by omega, by rw [if_pos h]⟩
  · left; refine ⟨n.toNat, by omega, by rw [if_neg h]⟩
theorem parse_itoa (n : Int) (h1 : -1099511627776 ≤ n) (h2 : n ≤ 1099511627776) : parseR (Lib.itoa n) = (⟨0, n, []⟩, 0) := by
  have hck : checkedV ⟨0, n, []⟩ = (⟨0, n, []⟩, 0) := checkedV_ok (by
    unfold checkR sizeR
    have e1 : ¬ n < -1099511627776 := by omega
    have e2 : ¬ 1099511627776 < n := by omega
    simp [e1, e2])
  have key : ∀ s, intR s = (n, true) → s.length ≤ 14 → (∀ c r, s = c :: r → c = 45 ∨ isD c = true) → s ≠ [] → parseR s = (⟨0, n, []⟩, 0) := fun s hi hl hc hne => by
    rcases s with _ | ⟨c, r⟩
    · exact absurd rfl hne
    have hcc : c ≠ 34 ∧ c ≠ 116 ∧ c ≠ 102 := by
      rcases hc c r rfl with rfl | h
      · decide
      · exact (isD_ne h).2
    rw [parseR, ite_f (by simp only [decide_eq_false_iff_not]; omega), ite_f (by simp [sTrue, sFalse, hcc.2.1, hcc.2.2]), ite_f (by simp [hasPre, List.isPrefixOf, hcc.1.symm]), hi]
    exact hck
  rcases itoa_cases n with ⟨u, rfl, e⟩ | ⟨u, h0, rfl, e⟩
  · rw [e]
    have hd := decDigits_all u
    refine key _ (intR_dig u (by omega)) (by have := decDigits_len u (by omega); omega) (fun c r hs => ?_) (fun hs => ?_)
    · rw [hs] at hd; simp at hd; exact .inr hd.1
    · have := Lib.decDigits_length u; rw [hs] at this; have := Lib.nDigits_pos u; simp only [List.length_nil] at *; omega
  · rw [e]
    refine key _ (intR_neg u h0 (by omega)) (by have := decDigits_len u (by omega); simp; omega) (fun c r hs => ?_) (by simp)
    cases hs; exact .inl rfl
theorem parse_bool (b : Bool) : parseR (boolS b) = (boolV b, 0) := by cases b <;> kernel_rfl
/-- The text of a well-formed value reads as the value. -/
theorem parse_format (v : Val) (h : (formatR v).2 = 0) : checkR v = 0 ∧ parseR (formatR v).1 = (v, 0) := by
  have hc : checkR v = 0 := by
    unfold formatR at h
    by_cases hc : checkR v = 0
    · exact hc
    · rw [ite_t (by simpa using hc)] at h; exact h
  refine ⟨hc, ?_⟩
  rw [formatR, ite_f (by rw [hc]; rfl), fmtText]
  rcases checkR_zero hc with ⟨hk, ht, h1, h2⟩ | ⟨hk, ht, hn⟩ | ⟨hk, hn, hl⟩
  · rw [ite_t (by rw [hk]; rfl), parse_itoa _ h1 h2]
    rcases v with ⟨k, n, t⟩; simp at hk ht; subst hk; subst ht; rfl
  · rw [ite_f (by rw [hk]; rfl), ite_t (by rw [hk]; rfl), parse_bool]
    rcases v with ⟨k, n, t⟩; simp at hk ht hn; subst hk; subst ht
    rcases hn with rfl | rfl <;> rfl
  · rw [ite_f (by rw [hk]; rfl), ite_f (by rw [hk]; rfl), parse_quote _ hl]
    rcases v with ⟨k, n, t⟩; simp at hk hn; subst hk; subst hn; rfl
/-! All bytes of a text can be printed. -/
def npB (c : UInt8) : Bool := decide ((c.toNat : Int) < 32) || decide ((126 : Int) < c.toNat)
end Go.Abs
set_option maxRecDepth 100000
namespace Go.Abs
open Go Go.Proofs
set_option linter.unusedSimpArgs false
attribute [local irreducible] isD letR
/-- The index of the field with a name, or -1. -/
def posR : List Fld → List UInt8 → Int
  | [], _ => -1
  | f :: l, n => if f.name = n then 0 else if posR l n = -1 then -1 else posR l n + 1
def shP (p : Int) (u : Nat) : Int := if p = -1 then -1 else p + u
attribute [local irreducible] shP posR
end Go.Abs
set_option maxRecDepth 100000
namespace Go.Abs
open Go Go.Proofs
set_option linter.unusedSimpArgs false
attribute [local irreducible] formatR parseR hashR compR boolV checkR checkAllR checkedV
theorem eqA_val (k n k' n' : Int) (t t' : List UInt8) : eqA T 9 39 (.agg [.int .i64 k, .int .i64 n, .str t]) (.agg [.int .i64 k', .int .i64 n', .str t']) = some (k == k' && (n == n' && t == t')) := by
  simp [eqA, eqFieldsA, outOf, TI.agg]
end Go.Abs
set_option maxRecDepth 100000
namespace Go.Abs
open Go Go.Proofs
set_option linter.unusedSimpArgs false
attribute [local irreducible] nameR fnameR posR whereR
attribute [local irreducible] ckSch
/-- Few event types with few fields. -/
def fewL : List Sch → Bool
  | [] => true
  | s :: l => !(decide (20 < s.fields.length) || decide (100 < s.name.length)) && fewL l
def fewS (l : List Sch) : Bool := fewL l && decide (l.length ≤ 20)
theorem pc_r3Few (l : List Sch) (hl : l.length ≤ 9000000000000000000) (hf : ∀ s ∈ l, s.fields.length ≤ 9000000000000000000 ∧ s.name.length ≤ 9000000000000000000) : PC Tryz.prog 4 [.list (l.map encSch)] (fun r => r = .bool (fewS l)) := by
  refine PC_body tOk Tryz.func4 rfl Tryz.results4 rfl (by simp [Tryz.ntmps4]) ?_
  rw [Tryz.ntmps4]
  simp only [argSlots]
  obtain ⟨R, hR⟩ : ∃ R, fewS l = R := ⟨_, rfl⟩
  rw [hR]
  rw [fewS] at hR
  repeat (first
    | (refine AWP_seq (AWP_regS tOk rfl ?_); simp)
    | (refine AWP_regS tOk rfl ?_; simp)
    | (refine AWP_skip ?_; simp)
    | (refine AWP_exit ?_; simp)
    | (refine AWP_ret ?_; simp)
    | refine AWP_block ?_
    | refine AWP_seq ?_)
  refine AWP_loop (ALoop_keep (sl' := [(0, .list (l.map encSch)), (3, .i 0)]) ?_ (by simp))
  refine ALoop_wf (F := fun (u : Nat) => ⟨[(0, .list (l.map encSch)), (3, .i u)], []⟩)
    (fun u => u ≤ l.length ∧ (fewL (l.drop u) && decide (l.length ≤ 20)) = R) (fun u => l.length - u) ?_ 0 ⟨by simp, by simpa using hR⟩
  rintro j ⟨hj, g3⟩ ih
  repeat (first
    | (refine AWP_seq (AWP_regS tOk rfl ?_); simp)
    | (refine AWP_regS tOk rfl ?_; simp)
    | (refine AWP_skip ?_; simp)
    | (refine AWP_exit ?_; simp)
    | (refine AWP_ret ?_; simp)
    | refine AWP_block ?_
    | refine AWP_seq ?_)
  refine AWP_cond2 rfl (fun hlt => ?_) (fun hge => ?_)
  · have hlt' : j < l.length := by simpa using hlt
    have hw : IntKind.i64.wrap ((j : Int) + 1) = j + 1 := wrap_i64 _ (by omega) (by omega)
    obtain ⟨h1, h2⟩ := hf _ (List.getElem_mem hlt')
    rw [drop_get hlt', fewL] at g3
    repeat (first
      | (refine AWP_seq (AWP_regS tOk rfl ?_); simp [hlt'])
      | (refine AWP_regS tOk rfl ?_; simp [hlt'])
      | (refine AWP_skip ?_; simp [hlt'])
      | (refine AWP_exit ?_; simp [hlt'])
      | (refine AWP_ret ?_; simp [hlt'])
      | refine AWP_block ?_
      | refine AWP_seq ?_)
    refine AWP_cond2 rfl (fun h => ?_) (fun h => ?_)
    · rw [show (decide (20 < l[j].fields.length) || decide (100 < l[j].name.length)) = true by simp at h ⊢ <;> omega] at g3
      repeat (first
        | (refine AWP_seq (AWP_regS tOk rfl ?_); simp)
        | (refine AWP_regS tOk rfl ?_; simp)
        | (refine AWP_skip ?_; simp)
        | (refine AWP_exit ?_; simp)
        | (refine AWP_ret ?_; simp)
        | refine AWP_block ?_
        | refine AWP_seq ?_)
      rw [← g3]; rfl
    · rw [show (decide (20 < l[j].fields.length) || decide (100 < l[j].name.length)) = false by simp at h ⊢ <;> omega] at g3
      repeat (first
        | (refine AWP_seq (AWP_regS tOk rfl ?_); simp [hw])
        | (refine AWP_regS tOk rfl ?_; simp [hw])
        | (refine AWP_skip ?_; simp [hw])
        | (refine AWP_exit ?_; simp [hw])
        | (refine AWP_ret ?_; simp [hw])
        | refine AWP_block ?_
        | refine AWP_seq ?_)
      exact ALoop_keep (sl' := [(0, .list (l.map encSch)), (3, .i (j + 1 : Nat))]) (ih (j + 1) ⟨by omega, by simpa using g3⟩ (by omega)) (by simp)
  · have hge' : j = l.length := by simp at hge; omega
    subst hge'
    rw [List.drop_length, fewL] at g3
    repeat (first
      | (refine AWP_seq (AWP_regS tOk rfl ?_); simp)
      | (refine AWP_regS tOk rfl ?_; simp)
      | (refine AWP_skip ?_; simp)
      | (refine AWP_exit ?_; simp)
      | (refine AWP_ret ?_; simp)
      | refine AWP_block ?_
      | refine AWP_seq ?_)
    rw [← g3, Bool.true_and]
    rw [Bool.eq_iff_iff]; simp; omega
/-- Few small values. -/
def fewVL : Nat → List Val → Bool
  | 0, _ => true
  | _, [] => true
  | n + 1, v :: l => !decide (128 < v.text.length) && fewVL n l
def fewV (l : List Val) : Bool := fewVL 40 l && decide (l.length < 40)
theorem pc_r1Few (l : List Val) (hl : l.length ≤ 9000000000000000000) : PC Tryz.prog 14 [.list (l.map encV)] (fun r => r = .bool (fewV l)) := by
  refine PC_body tOk Tryz.func14 rfl Tryz.results14 rfl (by simp [Tryz.ntmps14]) ?_
  rw [Tryz.ntmps14]
  simp only [argSlots]
  obtain ⟨R, hR⟩ : ∃ R, fewV l = R := ⟨_, rfl⟩
  rw [hR]
  rw [fewV] at hR
  repeat (first
    | (refine AWP_seq (AWP_regS tOk rfl ?_); simp)
    | (refine AWP_regS tOk rfl ?_; simp)
    | (refine AWP_skip ?_; simp)
    | (refine AWP_exit ?_; simp)
    | (refine AWP_ret ?_; simp)
    | refine AWP_block ?_
    | refine AWP_seq ?_)
  refine AWP_loop (ALoop_keep (sl' := [(0, .list (l.map encV)), (3, .i 0)]) ?_ (by simp))
  refine ALoop_wf (F := fun (u : Nat) => ⟨[(0, .list (l.map encV)), (3, .i u)], []⟩)
    (fun u => u ≤ l.length ∧ u ≤ 40 ∧ (fewVL (40 - u) (l.drop u) && decide (l.length < 40)) = R) (fun u => l.length - u) ?_ 0 ⟨by simp, by omega, by simpa using hR⟩
  rintro j ⟨hj, hj4, g3⟩ ih
  by_cases hlt' : j < l.length
  · have hlti : (j : Int) < l.length := by omega
    by_cases h40 : j < 40
    · have h40i : (j : Int) < 40 := by omega
      repeat (first
        | (refine AWP_seq (AWP_regS tOk rfl ?_); simp [hlt', h40i, hlti])
        | (refine AWP_regS tOk rfl ?_; simp [hlt', h40i, hlti])
        | (refine AWP_skip ?_; simp [hlt', h40i, hlti])
        | (refine AWP_exit ?_; simp [hlt', h40i, hlti])
        | (refine AWP_ret ?_; simp [hlt', h40i, hlti])
        | refine AWP_block ?_
        | refine AWP_seq ?_)
      refine AWP_cond2 rfl (fun _ => ?_) (fun h => by simp at h <;> omega)
      have hw : IntKind.i64.wrap ((j : Int) + 1) = j + 1 := wrap_i64 _ (by omega) (by omega)
      rw [drop_get hlt', show 40 - j = (40 - (j + 1)) + 1 by omega, fewVL] at g3
      repeat (first
        | (refine AWP_seq (AWP_regS tOk rfl ?_); simp [hlt'])
        | (refine AWP_regS tOk rfl ?_; simp [hlt'])
        | (refine AWP_skip ?_; simp [hlt'])
        | (refine AWP_exit ?_; simp [hlt'])
        | (refine AWP_ret ?_; simp [hlt'])
        | refine AWP_block ?_
        | refine AWP_seq ?_)
      refine AWP_cond2 rfl (fun h => ?_) (fun h => ?_)
      · rw [decide_eq_true (show 128 < l[j].text.length by simp at h <;> omega)] at g3
        repeat (first
          | (refine AWP_seq (AWP_regS tOk rfl ?_); simp)
          | (refine AWP_regS tOk rfl ?_; simp)
          | (refine AWP_skip ?_; simp)
          | (refine AWP_exit ?_; simp)
          | (refine AWP_ret ?_; simp)
          | refine AWP_block ?_
          | refine AWP_seq ?_)
        rw [← g3]; rfl
      · rw [decide_eq_false (show ¬ 128 < l[j].text.length by simp at h <;> omega)] at g3
        repeat (first
          | (refine AWP_seq (AWP_regS tOk rfl ?_); simp [hw])
          | (refine AWP_regS tOk rfl ?_; simp [hw])
          | (refine AWP_skip ?_; simp [hw])
          | (refine AWP_exit ?_; simp [hw])
          | (refine AWP_ret ?_; simp [hw])
          | refine AWP_block ?_
          | refine AWP_seq ?_)
        exact ALoop_keep (sl' := [(0, .list (l.map encV)), (3, .i (j + 1 : Nat))]) (ih (j + 1) ⟨by omega, by omega, by simpa using g3⟩ (by omega)) (by simp)
    · have h40i : ¬ (j : Int) < 40 := by omega
      have hj40 : j = 40 := by omega
      repeat (first
        | (refine AWP_seq (AWP_regS tOk rfl ?_); simp [hlt', h40i, hlti])
        | (refine AWP_regS tOk rfl ?_; simp [hlt', h40i, hlti])
        | (refine AWP_skip ?_; simp [hlt', h40i, hlti])
        | (refine AWP_exit ?_; simp [hlt', h40i, hlti])
        | (refine AWP_ret ?_; simp [hlt', h40i, hlti])
        | refine AWP_block ?_
        | refine AWP_seq ?_)
      refine AWP_cond2 rfl (fun h => by simp at h <;> omega) (fun _ => ?_)
      repeat (first
        | (refine AWP_seq (AWP_regS tOk rfl ?_); simp)
        | (refine AWP_regS tOk rfl ?_; simp)
        | (refine AWP_skip ?_; simp)
        | (refine AWP_exit ?_; simp)
        | (refine AWP_ret ?_; simp)
        | refine AWP_block ?_
        | refine AWP_seq ?_)
      rw [← g3, hj40]
      rw [decide_eq_false (show ¬ l.length < 40 by omega)]
      simp [fewVL]
      omega
  · have hge' : j = l.length := by omega
    have hlti : ¬ (j : Int) < l.length := by omega
    repeat (first
      | (refine AWP_seq (AWP_regS tOk rfl ?_); simp [hlt', hlti])
      | (refine AWP_regS tOk rfl ?_; simp [hlt', hlti])
      | (refine AWP_skip ?_; simp [hlt', hlti])
      | (refine AWP_exit ?_; simp [hlt', hlti])
      | (refine AWP_ret ?_; simp [hlt', hlti])
      | refine AWP_block ?_
      | refine AWP_seq ?_)
    refine AWP_cond2 rfl (fun h => by simp at h <;> omega) (fun _ => ?_)
    repeat (first
      | (refine AWP_seq (AWP_regS tOk rfl ?_); simp)
      | (refine AWP_regS tOk rfl ?_; simp)
      | (refine AWP_skip ?_; simp)
      | (refine AWP_exit ?_; simp)
      | (refine AWP_ret ?_; simp)
      | refine AWP_block ?_
      | refine AWP_seq ?_)
    rw [← g3, hge', List.drop_length]
    have : fewVL (40 - l.length) [] = true := by cases (40 - l.length) <;> rfl
    rw [this, Bool.true_and, Bool.eq_iff_iff]; simp; omega
/-- ref01.Same. -/
theorem pc_r1Same (a b : List Val) (hl : a.length ≤ 9000000000000000000) (hb : b.length ≤ 9000000000000000000) : PC Tryz.prog 13 [.list (a.map encV), .list (b.map encV)] (fun r => r = .bool (decide (a = b))) := by
  refine PC_body tOk Tryz.func13 rfl Tryz.results13 rfl (by simp [Tryz.ntmps13]) ?_
  rw [Tryz.ntmps13]
  simp only [argSlots]
  obtain ⟨R, hR⟩ : ∃ R, decide (a = b) = R := ⟨_, rfl⟩
  rw [hR]
  repeat (first
    | (refine AWP_seq (AWP_regS tOk rfl ?_); simp)
    | (refine AWP_regS tOk rfl ?_; simp)
    | (refine AWP_skip ?_; simp)
    | (refine AWP_exit ?_; simp)
    | (refine AWP_ret ?_; simp)
    | refine AWP_block ?_
    | refine AWP_seq ?_)
  refine AWP_cond2 rfl (fun h => ?_) (fun h => ?_)
  · repeat (first
      | (refine AWP_seq (AWP_regS tOk rfl ?_); simp)
      | (refine AWP_regS tOk rfl ?_; simp)
      | (refine AWP_skip ?_; simp)
      | (refine AWP_exit ?_; simp)
      | (refine AWP_ret ?_; simp)
      | refine AWP_block ?_
      | refine AWP_seq ?_)
    rw [← hR]
    have hne : ¬ a = b := by rintro rfl; simp at h
    exact decide_eq_false hne
  have hll : a.length = b.length := by simp at h <;> omega
  repeat (first
    | (refine AWP_seq (AWP_regS tOk rfl ?_); simp)
    | (refine AWP_regS tOk rfl ?_; simp)
    | (refine AWP_skip ?_; simp)
    | (refine AWP_exit ?_; simp)
    | (refine AWP_ret ?_; simp)
    | refine AWP_block ?_
    | refine AWP_seq ?_)
  refine AWP_loop (ALoop_keep (sl' := [(0, .list (a.map encV)), (1, .list (b.map encV)), (5, .i 0)]) ?_ (by simp))
  refine ALoop_wf (F := fun (u : Nat) => ⟨[(0, .list (a.map encV)), (1, .list (b.map encV)), (5, .i u)], []⟩)
    (fun u => u ≤ a.length ∧ decide (a.drop u = b.drop u) = R) (fun u => a.length - u) ?_ 0 ⟨by simp, by simpa using hR⟩
  rintro j ⟨hj, g3⟩ ih
  repeat (first
    | (refine AWP_seq (AWP_regS tOk rfl ?_); simp)
    | (refine AWP_regS tOk rfl ?_; simp)
    | (refine AWP_skip ?_; simp)
    | (refine AWP_exit ?_; simp)
    | (refine AWP_ret ?_; simp)
    | refine AWP_block ?_
    | refine AWP_seq ?_)
  refine AWP_cond2 rfl (fun hlt => ?_) (fun hge => ?_)
  · have hlt' : j < a.length := by simpa using hlt
    have hltb : j < b.length := by omega
    have hw : IntKind.i64.wrap ((j : Int) + 1) = j + 1 := wrap_i64 _ (by omega) (by omega)
    rw [drop_get hlt', drop_get hltb] at g3
    repeat (first
      | (refine AWP_seq (AWP_regS tOk rfl ?_); simp [hlt', hltb])
      | (refine AWP_regS tOk rfl ?_; simp [hlt', hltb])
      | (refine AWP_skip ?_; simp [hlt', hltb])
      | (refine AWP_exit ?_; simp [hlt', hltb])
      | (refine AWP_ret ?_; simp [hlt', hltb])
      | refine AWP_block ?_
      | refine AWP_seq ?_)
    refine AWP_drawT tOk mixed [] (.val 0 (.val 1 (.val 2 (.val 3 (.val 4 (.val 5 (.val 6 (.val 7 (.val 8 (.done)))))))))) rfl (by kernel_rfl) ?_
    simp [hlt', hltb, eqA_val]
    cases he : decide (a[j] = b[j]) with
    | true =>
      have he' := of_decide_eq_true he
      refine AWP_cond2 rfl (fun h => by rw [he'] at h; simp at h) (fun _ => ?_)
      repeat (first
        | (refine AWP_seq (AWP_regS tOk rfl ?_); simp [hw])
        | (refine AWP_regS tOk rfl ?_; simp [hw])
        | (refine AWP_skip ?_; simp [hw])
        | (refine AWP_exit ?_; simp [hw])
        | (refine AWP_ret ?_; simp [hw])
        | refine AWP_block ?_
        | refine AWP_seq ?_)
      exact ALoop_keep (sl' := [(0, .list (a.map encV)), (1, .list (b.map encV)), (5, .i (j + 1 : Nat))]) (ih (j + 1) ⟨by omega, by rw [he'] at g3; rw [← g3]; exact decide_eq_decide.2 ⟨fun h => by rw [h], fun h => (List.cons.inj h).2⟩⟩ (by omega)) (by simp)
    | false =>
      have he' := of_decide_eq_false he
      refine AWP_cond2 rfl (fun _ => ?_) (fun h => absurd ?_ he')
      · repeat (first
          | (refine AWP_seq (AWP_regS tOk rfl ?_); simp)
          | (refine AWP_regS tOk rfl ?_; simp)
          | (refine AWP_skip ?_; simp)
          | (refine AWP_exit ?_; simp)
          | (refine AWP_ret ?_; simp)
          | refine AWP_block ?_
          | refine AWP_seq ?_)
        rw [← g3]
        exact decide_eq_false (fun h => he' (List.cons.inj h).1)
      · simp at h
        generalize a[j] = x at *
        generalize b[j] = y at *
        cases x; cases y
        simp_all
  · have hge' : j = a.length := by simp at hge; omega
    rw [hge', List.drop_length, hll, List.drop_length] at g3
    repeat (first
      | (refine AWP_seq (AWP_regS tOk rfl ?_); simp)
      | (refine AWP_regS tOk rfl ?_; simp)
      | (refine AWP_skip ?_; simp)
      | (refine AWP_exit ?_; simp)
      | (refine AWP_ret ?_; simp)
      | refine AWP_block ?_
      | refine AWP_seq ?_)
    simpa using g3
end Go.Abs
set_option maxRecDepth 100000
namespace Go.Abs
open Go Go.Proofs
set_option linter.unusedSimpArgs false
attribute [local irreducible] numsR checkR
attribute [local irreducible] ckSchs validR
theorem pc_r4Few (e : Ev) (hl : e.values.length ≤ 9000000000000000000) : PC Tryz.prog 5 [encE e] (fun r => r = .bool (fewV e.values)) := by
  refine PC_body tOk Tryz.func5 rfl Tryz.results5 rfl (by simp [Tryz.ntmps5]) ?_
  rw [Tryz.ntmps5]
  simp only [argSlots]
  repeat (first
    | (refine AWP_seq (AWP_regS tOk rfl ?_); simp)
    | (refine AWP_regS tOk rfl ?_; simp)
    | (refine AWP_skip ?_; simp)
    | (refine AWP_exit ?_; simp)
    | (refine AWP_ret ?_; simp)
    | refine AWP_block ?_
    | refine AWP_seq ?_)
  refine AStep_PC rfl rfl (by simp) (pc_r1Few e.values hl) rfl ?_
  rintro _ rfl
  simp
  repeat (first
    | (refine AWP_seq (AWP_regS tOk rfl ?_); simp)
    | (refine AWP_regS tOk rfl ?_; simp)
    | (refine AWP_skip ?_; simp)
    | (refine AWP_exit ?_; simp)
    | (refine AWP_ret ?_; simp)
    | refine AWP_block ?_
    | refine AWP_seq ?_)
attribute [local irreducible] ckEv posR
/-- What CheckKey says. -/
def ckKey (l : List Sch) (key : List Int) : Int := if key = [] then 0 else if key.length ≠ l.length then 15 else if keyBad key l = true then 16 else 0
end Go.Abs
set_option maxRecDepth 100000
namespace Go.Abs
open Go Go.Proofs
set_option linter.unusedSimpArgs false
attribute [local irreducible] ckEv posR
/-- The key of a well-formed event for a well-formed key. -/
def koR (key : List Int) (e : Ev) : Val × Bool := if key = [] then (zeroV, true) else if 0 ≤ key.getD e.type.toNat 0 then (e.values.getD (key.getD e.type.toNat 0).toNat zeroV, true) else (zeroV, false)
attribute [local irreducible] ckKey koR
end Go.Abs
set_option maxRecDepth 100000
namespace Go.Abs
open Go Go.Proofs
set_option linter.unusedSimpArgs false
def encRef (e : Ev) : AV := .agg [.int .i64 e.time, .int .i64 e.source, .int .i64 e.seq]
theorem pc_r4Ref (e : Ev) : PC Tryz.prog 30 [encE e] (fun r => r = .agg [.int .i64 e.time, .int .i64 e.source, .int .i64 e.seq]) := by
  refine PC_body tOk Tryz.func30 rfl Tryz.results30 rfl (by simp [Tryz.ntmps30]) ?_
  rw [Tryz.ntmps30]
  simp only [argSlots]
  repeat (first
    | (refine AWP_seq (AWP_regS tOk rfl ?_); simp)
    | (refine AWP_regS tOk rfl ?_; simp)
    | (refine AWP_skip ?_; simp)
    | (refine AWP_exit ?_; simp)
    | (refine AWP_ret ?_; simp)
    | refine AWP_block ?_
    | refine AWP_seq ?_)
theorem pc_eRef (e : Ev) : PC Tryz.prog 12 [encE e] (fun r => r = .agg [.int .i64 e.time, .int .i64 e.source, .int .i64 e.seq]) := by
  refine PC_body tOk Tryz.func12 rfl Tryz.results12 rfl (by simp [Tryz.ntmps12]) ?_
  rw [Tryz.ntmps12]
  simp only [argSlots]
  repeat (first
    | (refine AWP_seq (AWP_regS tOk rfl ?_); simp)
    | (refine AWP_regS tOk rfl ?_; simp)
    | (refine AWP_skip ?_; simp)
    | (refine AWP_exit ?_; simp)
    | (refine AWP_ret ?_; simp)
    | refine AWP_block ?_
    | refine AWP_seq ?_)
theorem eqA_ref (a b c a' b' c' : Int) : eqA T 9 47 (.agg [.int .i64 a, .int .i64 b, .int .i64 c]) (.agg [.int .i64 a', .int .i64 b', .int .i64 c']) = some (a == a' && (b == b' && c == c')) := by
  simp [eqA, eqFieldsA, outOf, TI.agg]
def sameE (a b : Ev) : Bool := (a.time == b.time && (a.source == b.source && a.seq == b.seq)) && (a.type == b.type) && decide (a.values = b.values)
theorem sameE_iff (a b : Ev) : sameE a b = decide (a = b) := by
  obtain ⟨a1, a2, a3, a4, a5⟩ := a
  obtain ⟨b1, b2, b3, b4, b5⟩ := b
  rw [Bool.eq_iff_iff]
  simp [sameE]
  constructor
  · rintro ⟨⟨⟨h1, h2, h3⟩, h4⟩, h5⟩; exact ⟨h2, h3, h4, h1, h5⟩
  · rintro ⟨h2, h3, h4, h1, h5⟩; exact ⟨⟨⟨h1, h2, h3⟩, h4⟩, h5⟩
set_option maxHeartbeats 2000000 in
theorem pc_r4SameEvent (a b : Ev) (ha : a.values.length ≤ 1000000) (hb : b.values.length ≤ 1000000) : PC Tryz.prog 20 [encE a, encE b] (fun r => r = .bool (decide (a = b))) := by
  refine PC_body tOk Tryz.func20 rfl Tryz.results20 rfl (by simp [Tryz.ntmps20]) ?_
  rw [Tryz.ntmps20]
  simp only [argSlots]
  rw [← sameE_iff, sameE]
  obtain ⟨a1, a2, a3, a4, a5⟩ := a
  obtain ⟨b1, b2, b3, b4, b5⟩ := b
  repeat (first
    | (refine AWP_seq (AWP_regS tOk rfl ?_); simp)
    | (refine AWP_regS tOk rfl ?_; simp)
    | (refine AWP_skip ?_; simp)
    | (refine AWP_exit ?_; simp)
    | (refine AWP_ret ?_; simp)
    | refine AWP_block ?_
    | refine AWP_seq ?_)
  refine AWP_drawT tOk mixed [] (.val 0 (.val 2 (.one 1 (.one 3 (.val 4 (.val 5 (.val 6 (.val 7 (.val 8 (.val 9 (.val 10 (.val 11 (.val 12 (.val 13 (.val 14 (.val 15 (.val 16 (.one 17 (.val 18 (.val 19 (.done))))))))))))))))))))) rfl (by kernel_rfl) ?_
  simp
  refine AStep_PC rfl rfl (by simp) (pc_r4Ref ⟨a1, a2, a3, a4, a5⟩) rfl ?_
  rintro _ rfl
  simp [eqA_ref]
  refine AStep_PC rfl rfl (by simp) (pc_r4Ref ⟨b1, b2, b3, b4, b5⟩) rfl ?_
  rintro _ rfl
  simp [eqA_ref]
  generalize hB : (a4 == b4 && (a1 == b1 && a2 == b2) && a3 == b3) = B
  cases B with
  | true =>
    refine AStep_PC rfl rfl (by simp) (pc_r1Same a5 b5 (by simp at ha; omega) (by simp at hb; omega)) rfl ?_
    rintro _ rfl
    simp
    repeat (first
      | (refine AWP_seq (AWP_regS tOk rfl ?_); simp)
      | (refine AWP_regS tOk rfl ?_; simp)
      | (refine AWP_skip ?_; simp)
      | (refine AWP_exit ?_; simp)
      | (refine AWP_ret ?_; simp)
      | refine AWP_block ?_
      | refine AWP_seq ?_)
  | false =>
    refine AStep_skip rfl rfl ?_
    simp
    repeat (first
      | (refine AWP_seq (AWP_regS tOk rfl ?_); simp)
      | (refine AWP_regS tOk rfl ?_; simp)
      | (refine AWP_skip ?_; simp)
      | (refine AWP_exit ?_; simp)
      | (refine AWP_ret ?_; simp)
      | refine AWP_block ?_
      | refine AWP_seq ?_)
/-- The order of events. -/
def evCmp (a b : Ev) : Int := if cmpI a.time b.time ≠ 0 then cmpI a.time b.time else if cmpI a.source b.source ≠ 0 then cmpI a.source b.source else cmpI a.seq b.seq
def orR : List Int → Int
  | [] => 0
  | x :: l => if x ≠ 0 then x else orR l
attribute [local irreducible] cmpI
end Go.Abs
