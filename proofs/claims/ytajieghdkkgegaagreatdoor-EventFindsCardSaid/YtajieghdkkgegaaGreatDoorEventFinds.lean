/- Part EventFinds of the proof: an abstract machine over the model, and what the functions of the program hand back in its terms. No condition. -/
import Derived.Test.YtajieghdkkgegaaGreatDoorKe
import Derived.Test.YtajieghdkkgegaaGreatDoorKf
set_option linter.all false
set_option maxRecDepth 100000
namespace Go.Abs
open Go Go.Proofs
set_option linter.unusedSimpArgs false
theorem find_self : ∀ (fs : List Fld) (vs : List Val) (seen : List (List UInt8)), fieldsR seen fs = 0 → vs.length = fs.length → ∀ i (h : i < fs.length) (h' : i < vs.length), fs[i].name ∉ seen ∧ fs[i].name ≠ timeT ∧ findF fs vs fs[i].name = (vs[i], 0)
  | [], _, _, _, _, i, h, _ => by simp at h
  | f :: fs, [], _, _, hl, _, _, _ => by simp at hl
  | f :: fs, v :: vs, seen, hf, hl, i, h, h' => by
    rw [fieldsR] at hf
    by_cases h1 : fnameR f.name = false
    · rw [if_pos h1] at hf; cases hf
    rw [if_neg h1] at hf
    by_cases h2 : f.name ∈ seen
    · rw [if_pos h2] at hf; cases hf
    rw [if_neg h2] at hf
    by_cases h3 : f.kind < 0 ∨ 3 ≤ f.kind
    · rw [if_pos h3] at hf; cases hf
    rw [if_neg h3] at hf
    cases i with
    | zero =>
      refine ⟨h2, fun e => h1 ?_, by simp [findF]⟩
      simp only [List.getElem_cons_zero] at e
      rw [fnameR, e]; simp
    | succ i =>
      obtain ⟨h4, h5, h6⟩ := find_self fs vs _ hf (by simpa using hl) i (by simpa using h) (by simpa using h')
      simp only [List.getElem_cons_succ]
      refine ⟨fun hm => h4 (by simp [hm]), h5, ?_⟩
      rw [findF, if_neg (fun e => h4 (by rw [← e]; simp)), h6]
theorem field_self {l : List Sch} {e : Ev} (h : ckEv l e = 0) (k : Nat) (hk : e.type = k) (hkl : k < l.length) (i : Nat) (hi : i < l[k].fields.length) (hi' : i < e.values.length) : fieldR l e l[k].fields[i].name = (e.values[i], 0) := by
  obtain ⟨h0, ⟨k', hk', hkl', hfs⟩, hlv, hl8, hnum, hvals⟩ := ev_ok h
  have hkk : k' = k := by omega
  subst hkk
  have hc := ckSchs_all h0 _ (List.getElem_mem hkl)
  have hf : fieldsR [] l[k'].fields = 0 := by
    unfold ckSch at hc
    by_cases h1 : nameR l[k'].name = false
    · rw [if_pos h1] at hc; cases hc
    rw [if_neg h1] at hc
    by_cases h2 : 8 < l[k'].fields.length
    · rw [if_pos h2] at hc; cases hc
    rwa [if_neg h2] at hc
  rw [hfs] at hlv
  obtain ⟨_, h5, h6⟩ := find_self _ e.values [] hf hlv i hi hi'
  rw [fieldR, if_neg (fun h' => h' h), if_neg h5, hfs, h6]
def keyL (n k : Nat) (x : Int) : List Int := (List.replicate n (-1)).set k x
theorem keyL_len (n k : Nat) (x : Int) : (keyL n k x).length = n := by simp [keyL]
theorem keyL_set (n k : Nat) (x y : Int) : (keyL n k x).set k y = keyL n k y := by simp [keyL]
theorem keyL_none (n k : Nat) : keyL n k (-1) = List.replicate n (-1) := by
  apply List.ext_getElem?
  intro i
  unfold keyL
  by_cases h : k = i
  · subst h
    by_cases hk : k < n
    · rw [List.getElem?_set_self (by simpa using hk)]; simp [hk]
    · rw [List.set_eq_of_length_le (by simp; omega)]
  · rw [List.getElem?_set_ne h]
theorem keyBad_ok : ∀ (key : List Int) (l : List Sch), (∀ i (h : i < key.length) (h' : i < l.length), -1 ≤ key[i] ∧ key[i] < l[i].fields.length) → keyBad key l = false
  | [], _, _ => by simp [keyBad]
  | _ :: _, [], _ => by simp [keyBad]
  | x :: key, s :: l, h => by
    have h0 := h 0 (by simp) (by simp)
    have ih := keyBad_ok key l (fun i h1 h2 => by
      have := h (i + 1) (by simpa using h1) (by simpa using h2)
      simpa using this)
    simp only [List.getElem_cons_zero] at h0
    rw [keyBad, ih]
    simp
    omega
theorem key_self {l : List Sch} {e : Ev} (h : ckEv l e = 0) (k : Nat) (hk : e.type = k) (hkl : k < l.length) (x : Int) (h1 : -1 ≤ x) (h2 : x < l[k].fields.length) :
    keyR l (keyL l.length k x) e = if 0 ≤ x then (e.values.getD x.toNat zeroV, true, 0) else (zeroV, false, 0) := by
  have hget : ∀ i (hi : i < (keyL l.length k x).length), (keyL l.length k x)[i] = if k = i then x else -1 := fun i hi => by
    have hi' : i < l.length := by rw [keyL_len] at hi; exact hi
    have h1 : (keyL l.length k x)[i]? = some (if k = i then x else -1) := by
      unfold keyL
      rw [List.getElem?_set]
      by_cases h : k = i
      · rw [if_pos h, if_pos h, if_pos (by simp; omega)]
      · rw [if_neg h, if_neg h]; simp [hi']
    rw [List.getElem?_eq_getElem hi] at h1
    exact Option.some.inj h1
  have hn := keyL_len l.length k x
  have hb : keyBad (keyL l.length k x) l = false := keyBad_ok _ _ fun i h1' h2' => by
    rw [hget i h1']
    split
    · rename_i hki; subst hki; exact ⟨h1, h2⟩
    · exact ⟨by omega, by omega⟩
  have hg : (keyL l.length k x).getD e.type.toNat 0 = x := by
    rw [hk, List.getD_eq_getElem?_getD, Int.toNat_natCast, List.getElem?_eq_getElem (by omega), hget k (by omega)]
    simp
  rw [keyR, if_neg (fun h' => h' h), if_neg (fun h0 => by rw [h0] at hn; simp at hn; omega), if_neg (by omega), hb, if_neg (by simp), hg]
/-- The key while it is filled. -/
def keyFill (n j : Nat) : List AV := List.replicate j (.i (-1)) ++ List.replicate (n - j) (.i 0)
theorem fill_zero (n : Nat) : keyFill n 0 = List.replicate n (.i 0) := by simp [keyFill]
theorem fill_none (n k : Nat) : keyFill n n = (keyL n k (-1)).map (AV.int .i64) := by rw [keyL_none]; simp [keyFill]
theorem fill_len (n j : Nat) (h : j ≤ n) : (keyFill n j).length = n := by simp [keyFill]; omega
theorem fill_get (n j : Nat) (h : j < n) : (keyFill n j)[j]? = some (.i 0) := by
  rw [keyFill, List.getElem?_append_right (by simp), List.length_replicate, Nat.sub_self, List.getElem?_replicate, if_pos (by omega)]
theorem fill_set (n j : Nat) (h : j < n) : (keyFill n j).set j (.i (-1)) = keyFill n (j + 1) := by
  rw [keyFill, List.set_append_right _ _ (by simp), List.length_replicate, Nat.sub_self]
  obtain ⟨m, hm⟩ : ∃ m, n - j = m + 1 := ⟨n - j - 1, by omega⟩
  have hm2 : n - (j + 1) = m := by omega
  rw [keyFill, hm, hm2, List.replicate_succ, List.set_cons_zero, List.replicate_succ' (n := j)]
  simp
attribute [local irreducible] keyFill
theorem key_nil {l : List Sch} {e : Ev} (h : ckEv l e = 0) : keyR l [] e = (zeroV, true, 0) := by rw [keyR, if_neg (fun h' => h' h), if_pos rfl]
theorem fmt_bad {l : List Sch} {e : Ev} (h : ckEv l e ≠ 0) : evFmtR l e = ([], ckEv l e) := by rw [evFmtR, if_pos h]
theorem fmt_ok {l : List Sch} {e : Ev} (h : ckEv l e = 0) : evFmtR l e = (Lib.join (partsR l e) [32], 0) := by rw [evFmtR, if_neg (fun h' => h' h)]
attribute [local irreducible] evCmp ckEv evParseR evFmtR ckSchs fewS fewV Lib.join fieldR keyR keyL
set_option maxHeartbeats 8000000 in
theorem law_Finds (l : List Sch) (e o : Ev) (hl : schOk l) (he : evOk e) (ho : evOk o) : PC Tryz.prog 3 [.list (l.map encSch), encE e, encE o] (fun r => r = .bool true) := by
  refine PC_body tOk Tryz.func3 rfl Tryz.results3 rfl (by simp [Tryz.ntmps3]) ?_
  rw [Tryz.ntmps3]
  simp only [argSlots]
  by_cases ht : 0 ≤ e.type ∧ e.type < l.length
  · obtain ⟨k, hk⟩ : ∃ k : Nat, e.type = k := ⟨e.type.toNat, by omega⟩
    have hkl : k < l.length := by omega
    obtain ⟨es, eq, et, em, vs⟩ := e
    simp only at hk
    subst hk
    have hfl8 := (hl.2 _ (List.getElem_mem hkl)).1
    obtain ⟨fs, hfs⟩ : ∃ fs, l[k].fields = fs := ⟨_, rfl⟩
    rw [hfs] at hfl8
    repeat (first
      | (refine AWP_seq (AWP_regS tOk rfl ?_); simp)
      | (refine AWP_regS tOk rfl ?_; simp)
      | (refine AWP_skip ?_; simp)
      | (refine AWP_exit ?_; simp)
      | (refine AWP_ret ?_; simp)
      | refine AWP_block ?_
      | refine AWP_seq ?_)
    refine AWP_drawT tOk mixed [] (.val 0 (.one 1 (.val 2 (.val 3 (.val 4 (.one 5 (.val 6 (.val 7 (.val 8 (.val 9 (.one 10 (.val 11 (.val 12 (.val 13 (.val 14 (.val 15 (.one 16 (.val 17 (.val 18 (.val 19 (.val 20 (.one 21 (.val 22 (.val 23 (.val 24 (.val 25 (.val 26 (.val 27 (.val 28 (.val 29 (.val 30 (.val 31 (.val 32 (.val 33 (.val 34 (.val 35 (.val 36 (.val 37 (.val 38 (.val 39 (.val 40 (.val 41 (.val 42 (.val 43 (.val 44 (.val 45 (.val 46 (.val 47 (.val 48 (.done)))))))))))))))))))))))))))))))))))))))))))))))))) rfl (by kernel_rfl) ?_
    simp [hkl, hfs]
    refine AStep_PC rfl rfl (by simp) (pc_r3Few l hl.1 hl.2) rfl ?_
    rintro _ rfl
    simp [hkl, hfs]
    cases hf1 : fewS l with
    | false =>
      simp [hkl, hfs]
      repeat (refine AStep_skip rfl rfl ?_; simp [hkl, hfs])
      refine AWP_cond rfl ?_
      repeat (first
        | (refine AWP_seq (AWP_regS tOk rfl ?_); simp)
        | (refine AWP_regS tOk rfl ?_; simp)
        | (refine AWP_skip ?_; simp)
        | (refine AWP_exit ?_; simp)
        | (refine AWP_ret ?_; simp)
        | refine AWP_block ?_
        | refine AWP_seq ?_)
      refine AStep_PC rfl rfl (by simp) (pc_awake) rfl ?_
      rintro _ rfl
      simp
      repeat (first
        | (refine AWP_seq (AWP_regS tOk rfl ?_); simp)
        | (refine AWP_regS tOk rfl ?_; simp)
        | (refine AWP_skip ?_; simp)
        | (refine AWP_exit ?_; simp)
        | (refine AWP_ret ?_; simp)
        | refine AWP_block ?_
        | refine AWP_seq ?_)
    | true =>
    simp [hkl, hfs]
    refine AStep_PC rfl rfl (by simp) (pc_r4Few ⟨es, eq, k, em, vs⟩ he) rfl ?_
    rintro _ rfl
    simp [hkl, hfs]
    cases hf2 : fewV vs with
    | false =>
      simp [hkl, hfs]
      repeat (refine AStep_skip rfl rfl ?_; simp [hkl, hfs])
      refine AWP_cond rfl ?_
      repeat (first
        | (refine AWP_seq (AWP_regS tOk rfl ?_); simp)
        | (refine AWP_regS tOk rfl ?_; simp)
        | (refine AWP_skip ?_; simp)
        | (refine AWP_exit ?_; simp)
        | (refine AWP_ret ?_; simp)
        | refine AWP_block ?_
        | refine AWP_seq ?_)
      refine AStep_PC rfl rfl (by simp) (pc_awake) rfl ?_
      rintro _ rfl
      simp
      repeat (first
        | (refine AWP_seq (AWP_regS tOk rfl ?_); simp)
        | (refine AWP_regS tOk rfl ?_; simp)
        | (refine AWP_skip ?_; simp)
        | (refine AWP_exit ?_; simp)
        | (refine AWP_ret ?_; simp)
        | refine AWP_block ?_
        | refine AWP_seq ?_)
    | true =>
    simp [hkl, hfs]
    refine AStep_PC rfl rfl (by simp) (pc_r4Few o ho) rfl ?_
    rintro _ rfl
    simp [hkl, hfs]
    cases hf3 : fewV o.values with
    | false =>
      simp [hkl, hfs]
      repeat (refine AStep_skip rfl rfl ?_; simp [hkl, hfs])
      refine AWP_cond rfl ?_
      repeat (first
        | (refine AWP_seq (AWP_regS tOk rfl ?_); simp)
        | (refine AWP_regS tOk rfl ?_; simp)
        | (refine AWP_skip ?_; simp)
        | (refine AWP_exit ?_; simp)
        | (refine AWP_ret ?_; simp)
        | refine AWP_block ?_
        | refine AWP_seq ?_)
      refine AStep_PC rfl rfl (by simp) (pc_awake) rfl ?_
      rintro _ rfl
      simp
      repeat (first
        | (refine AWP_seq (AWP_regS tOk rfl ?_); simp)
        | (refine AWP_regS tOk rfl ?_; simp)
        | (refine AWP_skip ?_; simp)
        | (refine AWP_exit ?_; simp)
        | (refine AWP_ret ?_; simp)
        | refine AWP_block ?_
        | refine AWP_seq ?_)
    | true =>
    simp [hkl, hfs]
    refine AStep_PC rfl rfl (by simp) (pc_eCheck l ⟨es, eq, k, em, vs⟩) rfl ?_
    rintro _ rfl
    simp [hkl, hfs]
    by_cases hc : ckEv l ⟨es, eq, k, em, vs⟩ = 0
    · obtain ⟨h0, ⟨k', hk', _, hfe⟩, hlv, hl8, hnum, hvals⟩ := ev_ok hc
      have hkk : k' = k := by simp only at hk'; omega
      subst hkk
      rw [hfe, hfs] at hlv hl8
      have hll := ckSchs_len h0
      have hv := fewV_len hf2
      have hlv : vs.length = fs.length := hlv
      have hne : ((vs.length : Int) != (fs.length : Int)) = false := by rw [hlv]; simp
      simp [hkl, hfs, hc]
      have hnk : ¬ l.length ≤ k' := by omega
      refine AStep_PC rfl rfl (by simp) (pc_sCheckAll l) rfl ?_
      rintro _ rfl
      simp [hkl, hfs, h0, hne, hnk]
      refine AWP_cond rfl ?_
      repeat (first
        | (refine AWP_seq (AWP_regS tOk rfl ?_); simp)
        | (refine AWP_regS tOk rfl ?_; simp)
        | (refine AWP_skip ?_; simp)
        | (refine AWP_exit ?_; simp)
        | (refine AWP_ret ?_; simp)
        | refine AWP_block ?_
        | refine AWP_seq ?_)
      have hfield := fun (i : Nat) (hi : i < fs.length) (hi' : i < vs.length) => field_self hc k' rfl hkl i (by rw [hfs]; exact hi) hi'
      simp only [hfs] at hfield
      have hkey := fun (x : Int) (h1 : -1 ≤ x) (h2 : x < fs.length) => key_self hc k' rfl hkl x h1 (by rw [hfs]; exact h2)
      have hkn := fill_none l.length k'
      refine AStep_makeSlice tOk rfl rfl rfl T35 rfl T3 rfl rfl rfl (n := l.length) (by simp; omega) (by unfold maxLen; omega) (.i 0) rfl ?_
      simp
      rw [← fill_zero l.length]
      repeat (first
        | (refine AWP_seq (AWP_regS tOk rfl ?_); simp)
        | (refine AWP_regS tOk rfl ?_; simp)
        | (refine AWP_skip ?_; simp)
        | (refine AWP_exit ?_; simp)
        | (refine AWP_ret ?_; simp)
        | refine AWP_block ?_
        | refine AWP_seq ?_)
      refine AWP_loop (ALoop_keep (sl' := [(0, .list (l.map encSch)), (4, .vptr 0 0), (5, .vptr 1 0), (7, .sl 2 1 0 l.length), (78, .i l.length), (79, .i 0)]) ?_ (by simp))
      refine ALoop_wf (F := fun (u : Nat) => ⟨[(0, .list (l.map encSch)), (4, .vptr 0 0), (5, .vptr 1 0), (7, .sl 2 1 0 l.length), (78, .i l.length), (79, .i u)], [.vars [.i es, .i eq, .i k', .i em, .list (vs.map encV)], .vars [.i o.source, .i o.seq, .i o.type, .i o.time, .list (o.values.map encV)], .arr 3 1 (keyFill l.length u)]⟩)
        (fun u => u ≤ l.length) (fun u => l.length - u) ?_ 0 (by simp)
      rintro j hj ih
      repeat (first
        | (refine AWP_seq (AWP_regS tOk rfl ?_); simp)
        | (refine AWP_regS tOk rfl ?_; simp)
        | (refine AWP_skip ?_; simp)
        | (refine AWP_exit ?_; simp)
        | (refine AWP_ret ?_; simp)
        | refine AWP_block ?_
        | refine AWP_seq ?_)
      refine AWP_cond2 rfl (fun hlt => ?_) (fun hge => ?_)
      · have hlt' : j < l.length := by simpa using hlt
        have hw : IntKind.i64.wrap ((j : Int) + 1) = j + 1 := wrap_i64 _ (by omega) (by omega)
        have f1 := fill_len l.length j hj
        have f2 := fill_get l.length j hlt'
        have f3 := fill_set l.length j hlt'
        have f4 : (keyFill l.length j)[j]'(by rw [f1]; exact hlt') = .i 0 := by rw [List.getElem?_eq_getElem (by rw [f1]; exact hlt')] at f2; exact Option.some.inj f2
        repeat (first
          | (refine AWP_seq (AWP_regS tOk rfl ?_); simp [hlt', f1, f3, f4, hw])
          | (refine AWP_regS tOk rfl ?_; simp [hlt', f1, f3, f4, hw])
          | (refine AWP_skip ?_; simp [hlt', f1, f3, f4, hw])
          | (refine AWP_exit ?_; simp [hlt', f1, f3, f4, hw])
          | (refine AWP_ret ?_; simp [hlt', f1, f3, f4, hw])
          | refine AWP_block ?_
          | refine AWP_seq ?_)
        exact ALoop_keep (sl' := [(0, .list (l.map encSch)), (4, .vptr 0 0), (5, .vptr 1 0), (7, .sl 2 1 0 l.length), (78, .i l.length), (79, .i (j + 1 : Nat))]) (ih (j + 1) (by omega) (by omega)) (by simp)
      have hge' : j = l.length := by simp at hge; omega
      subst hge'
      rw [hkn]
      repeat (first
        | (refine AWP_seq (AWP_regS tOk rfl ?_); simp [hkl, hfs])
        | (refine AWP_regS tOk rfl ?_; simp [hkl, hfs])
        | (refine AWP_skip ?_; simp [hkl, hfs])
        | (refine AWP_exit ?_; simp [hkl, hfs])
        | (refine AWP_ret ?_; simp [hkl, hfs])
        | refine AWP_block ?_
        | refine AWP_seq ?_)
      refine AWP_loop (ALoop_keep (sl' := [(0, .list (l.map encSch)), (4, .vptr 0 0), (5, .vptr 1 0), (7, .sl 2 1 0 l.length), (91, .list (fs.map encF)), (92, .i fs.length), (93, .i 0)]) ?_ (by simp))
      have hks : ∀ x y : Int, (List.map (AV.int .i64) (keyL l.length k' x)).set k' (.int .i64 y) = List.map (AV.int .i64) (keyL l.length k' y) := fun x y => by rw [← List.map_set, keyL_set]
      have hkt : ∀ x : Int, List.take l.length (List.map (AV.int .i64) (keyL l.length k' x)) = List.map (AV.int .i64) (keyL l.length k' x) := fun x => List.take_of_length_le (by simp [keyL_len])
      refine ALoop_wf (F := fun (u : Nat × Int) => ⟨[(0, .list (l.map encSch)), (4, .vptr 0 0), (5, .vptr 1 0), (7, .sl 2 1 0 l.length), (91, .list (fs.map encF)), (92, .i fs.length), (93, .i u.1)], [.vars [.i es, .i eq, .i k', .i em, .list (vs.map encV)], .vars [.i o.source, .i o.seq, .i o.type, .i o.time, .list (o.values.map encV)], .arr 3 1 ((keyL l.length k' u.2).map (AV.int .i64))]⟩)
        (fun u => u.1 ≤ fs.length) (fun u => fs.length - u.1) ?_ (0, -1) (by simp)
      rintro ⟨j, x⟩ hj ih
      simp only at hj ih ⊢
      repeat (first
        | (refine AWP_seq (AWP_regS tOk rfl ?_); simp)
        | (refine AWP_regS tOk rfl ?_; simp)
        | (refine AWP_skip ?_; simp)
        | (refine AWP_exit ?_; simp)
        | (refine AWP_ret ?_; simp)
        | refine AWP_block ?_
        | refine AWP_seq ?_)
      refine AWP_cond2 rfl (fun hlt => ?_) (fun hge => ?_)
      · have hlt' : j < fs.length := by simpa using hlt
        have hltv : j < vs.length := by omega
        have hw : IntKind.i64.wrap ((j : Int) + 1) = j + 1 := wrap_i64 _ (by omega) (by omega)
        have hF := pc_eField l ⟨es, eq, k', em, vs⟩ fs[j].name
        rw [hfield j hlt' hltv] at hF
        have hK := pc_eKey l (keyL l.length k' j) ⟨es, eq, k', em, vs⟩ (by rw [keyL_len]; omega)
        rw [hkey j (by omega) (by omega), if_pos (by omega), List.getD_eq_getElem?_getD, Int.toNat_natCast, List.getElem?_eq_getElem hltv, Option.getD_some] at hK
        repeat (first
          | (refine AWP_seq (AWP_regS tOk rfl ?_); simp [hlt'])
          | (refine AWP_regS tOk rfl ?_; simp [hlt'])
          | (refine AWP_skip ?_; simp [hlt'])
          | (refine AWP_exit ?_; simp [hlt'])
          | (refine AWP_ret ?_; simp [hlt'])
          | refine AWP_block ?_
          | refine AWP_seq ?_)
        refine AStep_PC rfl rfl (by simp) (hF) rfl ?_
        rintro _ rfl
        simp
        repeat (first
          | (refine AWP_seq (AWP_regS tOk rfl ?_); simp [hkl, keyL_len, hks])
          | (refine AWP_regS tOk rfl ?_; simp [hkl, keyL_len, hks])
          | (refine AWP_skip ?_; simp [hkl, keyL_len, hks])
          | (refine AWP_exit ?_; simp [hkl, keyL_len, hks])
          | (refine AWP_ret ?_; simp [hkl, keyL_len, hks])
          | refine AWP_block ?_
          | refine AWP_seq ?_)
        refine AStep_PCflat rfl rfl (by first | (simp [keyL_len, hkt]; done) | (simp [keyL_len, hkt]; rfl)) (hK) rfl ?_
        rintro _ rfl
        refine ⟨by first | simp | rfl | trivial, ?_⟩
        simp [keyL_len, hkt]
        repeat (first
          | (refine AWP_seq (AWP_regS tOk rfl ?_); simp)
          | (refine AWP_regS tOk rfl ?_; simp)
          | (refine AWP_skip ?_; simp)
          | (refine AWP_exit ?_; simp)
          | (refine AWP_ret ?_; simp)
          | refine AWP_block ?_
          | refine AWP_seq ?_)
        refine AWP_drawT tOk mixed [] (.val 0 (.val 1 (.val 2 (.val 3 (.val 4 (.val 5 (.val 6 (.val 7 (.val 8 (.val 9 (.val 10 (.val 11 (.val 12 (.val 13 (.val 14 (.val 15 (.val 16 (.val 17 (.val 18 (.val 19 (.val 20 (.val 21 (.val 22 (.val 23 (.done))))))))))))))))))))))))) rfl (by kernel_rfl) ?_
        simp [hltv, eqA_val]
        refine AWP_cond rfl ?_
        repeat (first
          | (refine AWP_seq (AWP_regS tOk rfl ?_); simp [hw])
          | (refine AWP_regS tOk rfl ?_; simp [hw])
          | (refine AWP_skip ?_; simp [hw])
          | (refine AWP_exit ?_; simp [hw])
          | (refine AWP_ret ?_; simp [hw])
          | refine AWP_block ?_
          | refine AWP_seq ?_)
        exact ALoop_end _ (ih (j + 1, (j : Int)) (by simp only; omega) (by simp only; omega)) rfl (by simp) (by simp) (by simp) (by simp)
      have hge' : j = fs.length := by simp at hge; omega
      subst hge'
      have hK := pc_eKey l (keyL l.length k' (-1)) ⟨es, eq, k', em, vs⟩ (by rw [keyL_len]; omega)
      rw [hkey (-1) (by omega) (by omega), if_neg (by omega)] at hK
      have hN := pc_eKey l [] ⟨es, eq, k', em, vs⟩ (by simp)
      rw [key_nil hc] at hN
      have hA := pc_eFormat' l ⟨es, eq, k', em, vs⟩
      rw [fmt_ok hc] at hA
      have hB := pc_eFormat' l o
      simp only [zeroV, encV] at hK hN
      repeat (first
        | (refine AWP_seq (AWP_regS tOk rfl ?_); simp [hkl, keyL_len, hks])
        | (refine AWP_regS tOk rfl ?_; simp [hkl, keyL_len, hks])
        | (refine AWP_skip ?_; simp [hkl, keyL_len, hks])
        | (refine AWP_exit ?_; simp [hkl, keyL_len, hks])
        | (refine AWP_ret ?_; simp [hkl, keyL_len, hks])
        | refine AWP_block ?_
        | refine AWP_seq ?_)
      refine AStep_PCflat rfl rfl (by first | (simp [keyL_len, hkt]; done) | (simp [keyL_len, hkt]; rfl)) (hK) rfl ?_
      rintro _ rfl
      refine ⟨by first | simp | rfl | trivial, ?_⟩
      simp [keyL_len, hkt]
      repeat (first
        | (refine AWP_seq (AWP_regS tOk rfl ?_); simp)
        | (refine AWP_regS tOk rfl ?_; simp)
        | (refine AWP_skip ?_; simp)
        | (refine AWP_exit ?_; simp)
        | (refine AWP_ret ?_; simp)
        | refine AWP_block ?_
        | refine AWP_seq ?_)
      refine AStep_PC rfl rfl (by simp) (hN) rfl ?_
      rintro _ rfl
      simp
      repeat (first
        | (refine AWP_seq (AWP_regS tOk rfl ?_); simp [eqA_val])
        | (refine AWP_regS tOk rfl ?_; simp [eqA_val])
        | (refine AWP_skip ?_; simp [eqA_val])
        | (refine AWP_exit ?_; simp [eqA_val])
        | (refine AWP_ret ?_; simp [eqA_val])
        | refine AWP_block ?_
        | refine AWP_seq ?_)
      refine AWP_cond rfl ?_
      repeat (first
        | (refine AWP_seq (AWP_regS tOk rfl ?_); simp)
        | (refine AWP_regS tOk rfl ?_; simp)
        | (refine AWP_skip ?_; simp)
        | (refine AWP_exit ?_; simp)
        | (refine AWP_ret ?_; simp)
        | refine AWP_block ?_
        | refine AWP_seq ?_)
      refine AStep_PC rfl rfl (by simp) (hA) rfl ?_
      rintro _ rfl
      simp
      repeat (first
        | (refine AWP_seq (AWP_regS tOk rfl ?_); simp)
        | (refine AWP_regS tOk rfl ?_; simp)
        | (refine AWP_skip ?_; simp)
        | (refine AWP_exit ?_; simp)
        | (refine AWP_ret ?_; simp)
        | refine AWP_block ?_
        | refine AWP_seq ?_)
      refine AStep_PC rfl rfl (by simp) (hB) rfl ?_
      rintro _ rfl
      simp
      by_cases ho2 : ckEv l o = 0
      · rw [fmt_ok ho2]
        repeat (first
          | (refine AWP_seq (AWP_regS tOk rfl ?_); simp)
          | (refine AWP_regS tOk rfl ?_; simp)
          | (refine AWP_skip ?_; simp)
          | (refine AWP_exit ?_; simp)
          | (refine AWP_ret ?_; simp)
          | refine AWP_block ?_
          | refine AWP_seq ?_)
        refine AWP_cond rfl ?_
        repeat (first
          | (refine AWP_seq (AWP_regS tOk rfl ?_); simp)
          | (refine AWP_regS tOk rfl ?_; simp)
          | (refine AWP_skip ?_; simp)
          | (refine AWP_exit ?_; simp)
          | (refine AWP_ret ?_; simp)
          | refine AWP_block ?_
          | refine AWP_seq ?_)
        have htx : Lib.join (partsR l ⟨es, eq, k', em, vs⟩) [32] = Lib.join (partsR l o) [32] ↔ (⟨es, eq, k', em, vs⟩ : Ev) = o := ⟨fun h => text_inj hc ho2 h, fun h => by rw [h]⟩
        obtain ⟨os, oq, ot, om, us⟩ := o
        generalize Lib.join (partsR l ⟨es, eq, k', em, vs⟩) [32] = s at *
        generalize Lib.join (partsR l ⟨os, oq, ot, om, us⟩) [32] = t at *
        have hla : vs.length ≤ 9000000000000000000 := he
        have hlb : us.length ≤ 9000000000000000000 := ho
        have p1 := pc_eRef ⟨es, eq, k', em, vs⟩
        have p2 := pc_eRef ⟨os, oq, ot, om, us⟩
        have p3 := pc_r1Same vs us hla hlb
        refine AWP_drawT tOk mixed [] (.one 0 (.val 1 (.val 2 (.val 3 (.val 4 (.val 5 (.val 7 (.one 6 (.one 8 (.val 9 (.val 10 (.val 11 (.val 12 (.val 13 (.val 14 (.val 15 (.val 16 (.val 17 (.val 18 (.val 19 (.val 20 (.val 21 (.one 22 (.val 23 (.val 24 (.val 25 (.val 26 (.done)))))))))))))))))))))))))))) rfl (by kernel_rfl) ?_
        simp
        refine AStep_PC rfl rfl (by simp) (pc_awake) rfl ?_
        rintro _ rfl
        simp
        refine AStep_PC rfl rfl (by simp) (p1) rfl ?_
        rintro _ rfl
        simp
        by_cases hr : em = om ∧ es = os ∧ eq = oq
        · obtain ⟨rfl, rfl, rfl⟩ := hr
          by_cases hty : (k' : Int) = ot
          · subst hty
            have hb : (s == t) = decide (vs = us) := by
              rw [Bool.eq_iff_iff]
              simp only [beq_iff_eq, decide_eq_true_eq, htx]
              simp
            refine AStep_PC rfl rfl (by simp) (p2) rfl ?_
            rintro _ rfl
            simp [eqA_ref]
            refine AStep_PC rfl rfl (by simp) (p3) rfl ?_
            rintro _ rfl
            simp [hb]
            repeat (first
              | (refine AWP_seq (AWP_regS tOk rfl ?_); simp)
              | (refine AWP_regS tOk rfl ?_; simp)
              | (refine AWP_skip ?_; simp)
              | (refine AWP_exit ?_; simp)
              | (refine AWP_ret ?_; simp)
              | refine AWP_block ?_
              | refine AWP_seq ?_)
          · have hb : (s == t) = false := by
              rw [beq_eq_false_iff_ne]
              intro h
              have := htx.1 h
              simp at this
              exact hty this.1
            have hty' : ((k' : Int) == ot) = false := beq_eq_false_iff_ne.2 hty
            refine AStep_PC rfl rfl (by simp) (p2) rfl ?_
            rintro _ rfl
            simp [eqA_ref, hty']
            refine AStep_skip rfl rfl ?_
            simp [hb, hty']
            repeat (first
              | (refine AWP_seq (AWP_regS tOk rfl ?_); simp)
              | (refine AWP_regS tOk rfl ?_; simp)
              | (refine AWP_skip ?_; simp)
              | (refine AWP_exit ?_; simp)
              | (refine AWP_ret ?_; simp)
              | refine AWP_block ?_
              | refine AWP_seq ?_)
        · have hb : (s == t) = false := by
            rw [beq_eq_false_iff_ne]
            intro h
            have := htx.1 h
            simp at this
            exact hr ⟨this.2.2.2.1, this.1, this.2.1⟩
          have hE : (em == om && (es == os && eq == oq)) = false := by
            rw [Bool.eq_false_iff]
            intro h
            simp at h
            exact hr h
          refine AStep_PC rfl rfl (by simp) (p2) rfl ?_
          rintro _ rfl
          simp [eqA_ref, hE]
          refine AStep_skip rfl rfl ?_
          simp [hb, hE]
          repeat (first
            | (refine AWP_seq (AWP_regS tOk rfl ?_); simp)
            | (refine AWP_regS tOk rfl ?_; simp)
            | (refine AWP_skip ?_; simp)
            | (refine AWP_exit ?_; simp)
            | (refine AWP_ret ?_; simp)
            | refine AWP_block ?_
            | refine AWP_seq ?_)
      · rw [fmt_bad ho2]
        repeat (first
          | (refine AWP_seq (AWP_regS tOk rfl ?_); simp)
          | (refine AWP_regS tOk rfl ?_; simp)
          | (refine AWP_skip ?_; simp)
          | (refine AWP_exit ?_; simp)
          | (refine AWP_ret ?_; simp)
          | refine AWP_block ?_
          | refine AWP_seq ?_)
        refine AWP_cond2 rfl (fun _ => ?_) (fun h => absurd (by simpa using h) ho2)
        repeat (first
          | (refine AWP_seq (AWP_regS tOk rfl ?_); simp)
          | (refine AWP_regS tOk rfl ?_; simp)
          | (refine AWP_skip ?_; simp)
          | (refine AWP_exit ?_; simp)
          | (refine AWP_ret ?_; simp)
          | refine AWP_block ?_
          | refine AWP_seq ?_)
        refine AStep_PC rfl rfl (by simp) (pc_awake) rfl ?_
        rintro _ rfl
        simp
        repeat (first
          | (refine AWP_seq (AWP_regS tOk rfl ?_); simp)
          | (refine AWP_regS tOk rfl ?_; simp)
          | (refine AWP_skip ?_; simp)
          | (refine AWP_exit ?_; simp)
          | (refine AWP_ret ?_; simp)
          | refine AWP_block ?_
          | refine AWP_seq ?_)
    · have hc' : (ckEv l ⟨es, eq, k, em, vs⟩ != 0) = true := by simpa using hc
      simp [hkl, hfs, hc']
      repeat (refine AStep_skip rfl rfl ?_; simp [hkl, hfs])
      refine AWP_cond rfl ?_
      repeat (first
        | (refine AWP_seq (AWP_regS tOk rfl ?_); simp)
        | (refine AWP_regS tOk rfl ?_; simp)
        | (refine AWP_skip ?_; simp)
        | (refine AWP_exit ?_; simp)
        | (refine AWP_ret ?_; simp)
        | refine AWP_block ?_
        | refine AWP_seq ?_)
      refine AStep_PC rfl rfl (by simp) (pc_awake) rfl ?_
      rintro _ rfl
      simp
      repeat (first
        | (refine AWP_seq (AWP_regS tOk rfl ?_); simp)
        | (refine AWP_regS tOk rfl ?_; simp)
        | (refine AWP_skip ?_; simp)
        | (refine AWP_exit ?_; simp)
        | (refine AWP_ret ?_; simp)
        | refine AWP_block ?_
        | refine AWP_seq ?_)
  · repeat (first
      | (refine AWP_seq (AWP_regS tOk rfl ?_); simp)
      | (refine AWP_regS tOk rfl ?_; simp)
      | (refine AWP_skip ?_; simp)
      | (refine AWP_exit ?_; simp)
      | (refine AWP_ret ?_; simp)
      | refine AWP_block ?_
      | refine AWP_seq ?_)
    refine AWP_drawT tOk mixed [] (.val 0 (.one 1 (.val 2 (.val 3 (.val 4 (.one 5 (.val 6 (.val 7 (.val 8 (.val 9 (.one 10 (.val 11 (.val 12 (.val 13 (.val 14 (.val 15 (.one 16 (.val 17 (.val 18 (.val 19 (.val 20 (.one 21 (.val 22 (.val 23 (.val 24 (.val 25 (.val 26 (.val 27 (.val 28 (.val 29 (.val 30 (.val 31 (.val 32 (.val 33 (.val 34 (.val 35 (.val 36 (.val 37 (.val 38 (.val 39 (.val 40 (.val 41 (.val 42 (.val 43 (.val 44 (.val 45 (.val 46 (.val 47 (.val 48 (.done)))))))))))))))))))))))))))))))))))))))))))))))))) rfl (by kernel_rfl) ?_
    simp [ht]
    refine AStep_PC rfl rfl (by simp) (pc_r3Few l hl.1 hl.2) rfl ?_
    rintro _ rfl
    simp [ht]
    cases hf1 : fewS l with
    | false =>
      simp [ht]
      repeat (refine AStep_skip rfl rfl ?_; simp [ht])
      refine AWP_cond rfl ?_
      repeat (first
        | (refine AWP_seq (AWP_regS tOk rfl ?_); simp)
        | (refine AWP_regS tOk rfl ?_; simp)
        | (refine AWP_skip ?_; simp)
        | (refine AWP_exit ?_; simp)
        | (refine AWP_ret ?_; simp)
        | refine AWP_block ?_
        | refine AWP_seq ?_)
      refine AStep_PC rfl rfl (by simp) (pc_awake) rfl ?_
      rintro _ rfl
      simp
      repeat (first
        | (refine AWP_seq (AWP_regS tOk rfl ?_); simp)
        | (refine AWP_regS tOk rfl ?_; simp)
        | (refine AWP_skip ?_; simp)
        | (refine AWP_exit ?_; simp)
        | (refine AWP_ret ?_; simp)
        | refine AWP_block ?_
        | refine AWP_seq ?_)
    | true =>
    simp [ht]
    refine AStep_PC rfl rfl (by simp) (pc_r4Few e he) rfl ?_
    rintro _ rfl
    simp [ht]
    cases hf2 : fewV e.values with
    | false =>
      simp [ht]
      repeat (refine AStep_skip rfl rfl ?_; simp [ht])
      refine AWP_cond rfl ?_
      repeat (first
        | (refine AWP_seq (AWP_regS tOk rfl ?_); simp)
        | (refine AWP_regS tOk rfl ?_; simp)
        | (refine AWP_skip ?_; simp)
        | (refine AWP_exit ?_; simp)
        | (refine AWP_ret ?_; simp)
        | refine AWP_block ?_
        | refine AWP_seq ?_)
      refine AStep_PC rfl rfl (by simp) (pc_awake) rfl ?_
      rintro _ rfl
      simp
      repeat (first
        | (refine AWP_seq (AWP_regS tOk rfl ?_); simp)
        | (refine AWP_regS tOk rfl ?_; simp)
        | (refine AWP_skip ?_; simp)
        | (refine AWP_exit ?_; simp)
        | (refine AWP_ret ?_; simp)
        | refine AWP_block ?_
        | refine AWP_seq ?_)
    | true =>
    simp [ht]
    refine AStep_PC rfl rfl (by simp) (pc_r4Few o ho) rfl ?_
    rintro _ rfl
    simp [ht]
    cases hf3 : fewV o.values with
    | false =>
      simp [ht]
      repeat (refine AStep_skip rfl rfl ?_; simp [ht])
      refine AWP_cond rfl ?_
      repeat (first
        | (refine AWP_seq (AWP_regS tOk rfl ?_); simp)
        | (refine AWP_regS tOk rfl ?_; simp)
        | (refine AWP_skip ?_; simp)
        | (refine AWP_exit ?_; simp)
        | (refine AWP_ret ?_; simp)
        | refine AWP_block ?_
        | refine AWP_seq ?_)
      refine AStep_PC rfl rfl (by simp) (pc_awake) rfl ?_
      rintro _ rfl
      simp
      repeat (first
        | (refine AWP_seq (AWP_regS tOk rfl ?_); simp)
        | (refine AWP_regS tOk rfl ?_; simp)
        | (refine AWP_skip ?_; simp)
        | (refine AWP_exit ?_; simp)
        | (refine AWP_ret ?_; simp)
        | refine AWP_block ?_
        | refine AWP_seq ?_)
    | true =>
    simp [ht]
    have hc : ckEv l e ≠ 0 := fun h => by
      obtain ⟨_, ⟨k, hk, hkl, _⟩, _⟩ := ev_ok h
      exact ht (by omega)
    have hc' : (ckEv l e != 0) = true := by simpa using hc
    refine AStep_PC rfl rfl (by simp) (pc_eCheck l e) rfl ?_
    rintro _ rfl
    simp [ht, hc']
    repeat (refine AStep_skip rfl rfl ?_; simp [ht])
    refine AWP_cond rfl ?_
    repeat (first
      | (refine AWP_seq (AWP_regS tOk rfl ?_); simp)
      | (refine AWP_regS tOk rfl ?_; simp)
      | (refine AWP_skip ?_; simp)
      | (refine AWP_exit ?_; simp)
      | (refine AWP_ret ?_; simp)
      | refine AWP_block ?_
      | refine AWP_seq ?_)
    refine AStep_PC rfl rfl (by simp) (pc_awake) rfl ?_
    rintro _ rfl
    simp
    repeat (first
      | (refine AWP_seq (AWP_regS tOk rfl ?_); simp)
      | (refine AWP_regS tOk rfl ?_; simp)
      | (refine AWP_skip ?_; simp)
      | (refine AWP_exit ?_; simp)
      | (refine AWP_ret ?_; simp)
      | refine AWP_block ?_
      | refine AWP_seq ?_)
end Go.Abs
/- Field and Key return the values by the names and by the key, and different events have different texts: EventFinds returns true for every input. Conditions: those of the given row (the laid tables), tied by the given card. -/
set_option maxRecDepth 100000
namespace Go.Abs
open Go Go.Proofs Go.Proofs.YtajieghdkkgegaaGreatDoor Go.RowKit
noncomputable def args_EventFinds : Array Value := #[.slice none 0 0, .agg #[.int .i64 0, .int .i64 0, .int .i64 0, .int .i64 0, .slice none 0 0], .agg #[.int .i64 0, .int .i64 0, .int .i64 0, .int .i64 0, .slice none 0 0]]
theorem laid_EventFinds (os : Os) : laidMetH Tryz.prog Rows.eventFindsRow.laid ((World.laidAll Tryz.prog os Rows.eventFindsRow.laid).forCall (fun _ _ => 0) ⟨#[], args_EventFinds, []⟩).memory :=
  laidMet_laidAll _ (by kernel_rfl) (by kernel_rfl)
theorem reads_EventFinds (os : Os) {H : Type} (enc : TypeId × Value → H) : ∃ ds places, DataW.whole enc Tryz.prog ((World.laidAll Tryz.prog os Rows.eventFindsRow.laid).forCall (fun _ _ => 0) ⟨#[], args_EventFinds, []⟩).memory Tryz.f3.params.toList Rows.eventFindsSpec.vars false args_EventFinds.toList 8 = some (ds, [], places) :=
  ⟨[.nil, .agg [.lit (.int .i64 0), .lit (.int .i64 0), .lit (.int .i64 0), .lit (.int .i64 0), .nil], .agg [.lit (.int .i64 0), .lit (.int .i64 0), .lit (.int .i64 0), .lit (.int .i64 0), .nil]], [], by kernel_rfl⟩
theorem lawPC_EventFinds (xs : List AV) (h : ArgsShp T 8 Tryz.f3.params.toList xs) : PC Tryz.prog 3 xs (fun r => r = .bool true) := by
  rw [Tryz.params3] at h
  obtain ⟨l, _, rfl, hl, h_1⟩ := argLSch h
  obtain ⟨e, _, rfl, he, h_2⟩ := argE h_1
  obtain ⟨o, _, rfl, ho, h_3⟩ := argE h_2
  obtain rfl := argsNil h_3
  exact law_Finds l e o hl he ho
theorem lifted_EventFinds (os : Os) (started : os.Started) (H : Type) (enc : TypeId × Value → H) (F : Stop.Interp) :
    ReturnsInHanded {} Tryz.checked os 3 .any ((OpenSpec.ofChange Rows.eventFindsSpec).preRow enc Tryz.prog Tryz.f3 Rows.eventFindsRow.domain false Rows.eventFindsRow.laid) (((OpenSpec.ofChange Rows.eventFindsSpec).at F).post enc Tryz.prog Tryz.f3 false true false false) := by
  obtain ⟨ds, places, hx⟩ := reads_EventFinds os enc
  refine returnsInHanded_of_row (C := Tryz.checked) (s := OpenSpec.ofChange Rows.eventFindsSpec) own started (by kernel_rfl) Tryz.func3
    (witness_row_atRef (enc := enc) (C := Tryz.checked) false (World.laidAll Tryz.prog os Rows.eventFindsRow.laid) args_EventFinds (World.laidAll_os _ _ _) (by kernel_rfl) (by kernel_rfl) (by kernel_rfl)
      (OpenSpec.preRow_of_cond 8 hx (by kernel_rfl) (fun k hk => by cases hk) (by kernel_rfl) (laid_EventFinds os))) ?_
  intro W base args ds gs before hval hW _ _ hwt hL hS _
  exact row_of_PC tOk laidOut (d := 8) (tb := 4) (by kernel_rfl) (by kernel_rfl) (by kernel_rfl) (by kernel_rfl) (eok_of hL hS (by kernel_rfl)) lawPC_EventFinds rfl (fun ds h => by
    match ds, h with
    | [_, _, _], _ => rfl) hval hW rfl hwt
theorem jfA_EventFinds : (Rows.eventFindsRow.inPlace == Tryz.pinned.checked.prog.inPlace 3) = true := by kernel_rfl
theorem jfB_EventFinds : (Rows.eventFindsRow.unfollowed == Tryz.pinned.checked.prog.unfollowed 3) = true := by kernel_rfl
theorem jfC_EventFinds : (Rows.eventFindsRow.recurses == Tryz.pinned.checked.prog.recurses 3) = true := by kernel_rfl
theorem jfD_EventFinds : (Rows.eventFindsRow.named == Tryz.pinned.checked.prog.varsNamed 3) = true := by kernel_rfl
theorem jf_EventFinds : joinedFacts Tryz.pinned.checked.prog 3 Tryz.f3 (OpenSpec.ofChange Rows.eventFindsSpec).bare Rows.eventFindsRow = true := by
  unfold joinedFacts
  rw [jfA_EventFinds, jfB_EventFinds, jfC_EventFinds, jfD_EventFinds]
  kernel_rfl
theorem said_EventFinds : Rows.EventFindsSaid :=
  OpenClaim.holds_of_cond 3 Tryz.f3 rfl rfl rfl rfl rfl rfl rfl ⟨rfl, rfl, rfl, rfl, rfl⟩ rfl rfl rfl rfl rfl (by kernel_rfl) Tryz.func3 jf_EventFinds
    (of_decide_eq_true (by kernel_rfl)) (by unfold Func.isWrapper; first | (rw [if_pos (by decide +kernel)]; kernel_rfl) | (rw [if_neg (by decide +kernel)]; exact ⟨rfl, rfl⟩))
    (fun os started H enc _ F => by rw [OpenClaim.pre_eq_preRow]; exact lifted_EventFinds os started H enc F)
theorem plain_EventFinds (f : FuncId) (fn : Func) (hf : Tryz.pinned.checked.prog.funcNamed "tidegate/tidegatelaw04.EventFinds" = some f) (hfn : Tryz.pinned.checked.prog.funcs[f]? = some fn) :
    true = Tryz.pinned.checked.prog.looks [] ∧ ∀ (j : Nat) t, fn.params[j]? = some t → Tryz.pinned.checked.prog.wantsStandIn t = false := by
  obtain rfl : f = 3 := Option.some.inj ((show Tryz.prog.funcNamed "tidegate/tidegatelaw04.EventFinds" = some 3 by kernel_rfl).symm.trans hf) |>.symm
  obtain rfl : fn = Tryz.f3 := (Option.some.inj (Tryz.func3.symm.trans hfn)).symm
  refine ⟨by kernel_rfl, fun j t ht => ?_⟩
  have hall : (Tryz.f3.params.toList.all fun t => Tryz.prog.wantsStandIn t == false) = true := by kernel_rfl
  have hm : t ∈ Tryz.f3.params.toList := by simpa using Array.mem_of_getElem? ht
  exact beq_iff_eq.1 (List.all_eq_true.1 hall t hm)
end Go.Abs
namespace Go.Proofs.YtajieghdkkgegaaGreatDoor
open Go Go.Abs
theorem eventFinds_card : Rows.EventFindsCardSaid :=
  Claim7.holds_tied_plain_at .later [] _ _ _ _ said_EventFinds (fun _ h => by cases h) (by kernel_rfl) (fun _ h => by cases h) eventFinds_row_tie rfl ⟨rfl, rfl⟩ (by kernel_rfl) rfl plain_EventFinds (by kernel_rfl)
end Go.Proofs.YtajieghdkkgegaaGreatDoor
