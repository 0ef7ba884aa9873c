/- Part Kg of the proof: an abstract machine over the model, and what the functions of the program hand back in its terms. No condition. -/
import Derived.Test.YtmfoegilknpcnaaGreatDoorKe
import Derived.Test.YtmfoegilknpcnaaGreatDoorKf
import Derived.Test.YtmfoegilknpcnaaGreatDoorKc
set_option linter.all false
set_option maxRecDepth 100000
namespace Go.Abs
open Go Go.Proofs
set_option linter.unusedSimpArgs false
/-- What every string and list that is read obeys. -/
structure DB (d : Disk) : Prop where
  files : d.files.length ≤ 140737488355328
  name : ∀ f ∈ d.files, f.name.length ≤ 140737488355328
  dur : ∀ f ∈ d.files, f.dur.length ≤ 140737488355328
  vol : ∀ f ∈ d.files, f.vol.length ≤ 140737488355328
end Go.Abs
set_option maxRecDepth 100000
namespace Go.Abs
open Go Go.Proofs

/-! The plain laws of the disk: what the program computes is what the reference computes. -/
theorem lessF_iff (f : File) (s : List UInt8) : lessF f s = !strLe s f.name := by
  unfold lessF
  cases h : Op.bytesLess f.name s
  · cases h2 : strLe s f.name
    · have := strLe_false h2
      rw [h] at this; cases this
    · rfl
  · cases h2 : strLe s f.name
    · rfl
    · unfold strLe at h2
      simp only [Bool.or_eq_true, beq_iff_eq] at h2
      rcases h2 with h2 | rfl
      · have := bl_trans _ _ _ h h2
        rw [bl_irrefl] at this; cases this
      · rw [bl_irrefl] at h; cases h

theorem fold_true (f : File) : ∀ (fs out : List File), fs.foldl (putStep f) (true, out) = (true, out ++ fs.filter (fun g => g.name != f.name))
  | [], out => by simp
  | g :: fs, out => by
    rw [List.foldl_cons]
    cases h : g.name != f.name
    · have : putStep f (true, out) g = (true, out) := by simp only [putStep, h]; simp
      rw [this, fold_true f fs out, List.filter_cons_of_neg (by simp [h])]
    · have : putStep f (true, out) g = (true, out ++ [g]) := by simp only [putStep, h]; simp
      rw [this, fold_true f fs _, List.filter_cons_of_pos (by simp [h])]
      simp
def endP (f : File) (r : Bool × List File) : List File := if r.1 = true then r.2 else r.2 ++ [f]
theorem endP_true (f : File) (l : List File) : endP f (true, l) = l := rfl
theorem fold_false (f : File) : ∀ (fs out : List File), endP f (fs.foldl (putStep f) (false, out)) =
    out ++ fs.takeWhile (lessF · f.name) ++ f :: (fs.dropWhile (lessF · f.name)).filter (fun g => g.name != f.name)
  | [], out => by simp [endP]
  | g :: fs, out => by
    simp only [List.foldl_cons, List.takeWhile_cons, List.dropWhile_cons]
    cases h : lessF g f.name
    · have hle : strLe f.name g.name = true := by rw [lessF_iff] at h; simpa using h
      cases hn : g.name != f.name
      · have : putStep f (false, out) g = (true, out ++ [f]) := by simp [putStep, hle, hn]
        rw [this, fold_true, endP_true]
        simp [List.filter_cons, hn]
      · have : putStep f (false, out) g = (true, out ++ [f] ++ [g]) := by simp [putStep, hle, hn]
        rw [this, fold_true, endP_true]
        simp [List.filter_cons, hn]
    · have hle : strLe f.name g.name = false := by rw [lessF_iff] at h; simpa using h
      have hn : (g.name != f.name) = true := by
        simp only [bne_iff_ne, ne_eq]
        intro e
        rw [e] at hle
        simp [strLe] at hle
      have : putStep f (false, out) g = (false, out ++ [g]) := by simp [putStep, hle, hn]
      rw [this, fold_false f fs (out ++ [g])]
      simp
theorem putR_eq (d : Disk) (f : File) : putR d f = ⟨d.files.takeWhile (lessF · f.name) ++ f :: (d.files.dropWhile (lessF · f.name)).filter (fun g => g.name != f.name), d.space⟩ := by
  have := fold_false f d.files []
  simp only [List.nil_append] at this
  rw [← this]
  rfl

theorem tw_take (fs : List File) (s : List UInt8) : fs.takeWhile (lessF · s) = fs.take (lb fs s) := by
  unfold lb
  induction fs with
  | nil => rfl
  | cons g fs ih =>
    rw [List.takeWhile_cons]
    split
    · rw [List.length_cons, List.take_succ_cons, ← ih]
    · rfl
theorem dw_drop (fs : List File) (s : List UInt8) : fs.dropWhile (lessF · s) = fs.drop (lb fs s) := by
  unfold lb
  induction fs with
  | nil => rfl
  | cons g fs ih =>
    rw [List.dropWhile_cons, List.takeWhile_cons]
    split
    · rw [List.length_cons, List.drop_succ_cons, ← ih]
    · rfl
theorem Sorted.drop {fs : List File} (h : Sorted fs) (n : Nat) : Sorted (fs.drop n) := List.Pairwise.sublist (List.drop_sublist n fs) h
theorem lb_head {fs : List File} {s : List UInt8} (h : lb fs s < fs.length) : lessF fs[lb fs s] s = false := by
  unfold lb at h ⊢
  induction fs with
  | nil => simp at h
  | cons g fs ih =>
    by_cases hg : lessF g s = true
    · simp only [List.takeWhile_cons, hg, if_true, List.length_cons, List.getElem_cons_succ]
      exact ih (by simpa [List.takeWhile_cons, hg] using h)
    · simp only [List.takeWhile_cons, hg, Bool.false_eq_true, if_false, List.length_nil, List.getElem_cons_zero]
/-- Behind the place of a name stand only greater names, the name itself apart. -/
theorem drop_gt {fs : List File} (hs : Sorted fs) {s : List UInt8} (h : lb fs s < fs.length) : ∀ g ∈ fs.drop (lb fs s + 1), Op.bytesLess s g.name = true := fun g hg => by
  have h1 : Op.bytesLess fs[lb fs s].name g.name = true := by
    have hd := hs.drop (lb fs s)
    rw [List.drop_eq_getElem_cons h] at hd
    exact (List.pairwise_cons.1 hd).1 g hg
  have h2 := lb_head h
  rw [lessF_iff] at h2
  simp only [Bool.not_eq_false', strLe, Bool.or_eq_true, beq_iff_eq] at h2
  rcases h2 with h2 | h2
  · exact bl_trans _ _ _ h2 h1
  · rw [h2]; exact h1
theorem ne_of_bl {a b : List UInt8} (h : Op.bytesLess a b = true) : b ≠ a := fun e => by rw [e, bl_irrefl] at h; cases h
theorem tw_mem {α : Type} {p : α → Bool} {l : List α} {x : α} (h : x ∈ l.takeWhile p) : p x = true := by
  induction l with
  | nil => cases h
  | cons a l ih =>
    rw [List.takeWhile_cons] at h
    split at h
    · rcases List.mem_cons.1 h with rfl | h
      · assumption
      · exact ih h
    · cases h
theorem take_ne (fs : List File) (s : List UInt8) : ∀ g ∈ fs.take (lb fs s), g.name ≠ s := fun g hg => by
  rw [← tw_take] at hg
  have := tw_mem hg
  intro e
  simp only [lessF, e, bl_irrefl] at this
  cases this
theorem drop_filter {fs : List File} (hs : Sorted fs) (s : List UInt8) : (fs.drop (lb fs s)).filter (fun g => g.name != s) = if foundAt fs s (lb fs s) = true then fs.drop (lb fs s + 1) else fs.drop (lb fs s) := by
  rcases Nat.lt_or_ge (lb fs s) fs.length with h | h
  · rw [List.drop_eq_getElem_cons h, foundAt_iff _ _ _ h]
    have hf : (fs.drop (lb fs s + 1)).filter (fun g => g.name != s) = fs.drop (lb fs s + 1) := List.filter_eq_self.2 fun g hg => by
      have := ne_of_bl (drop_gt hs h g hg)
      simpa using this
    cases hn : fs[lb fs s].name == s
    · rw [List.filter_cons_of_pos (by simpa using hn), hf, if_neg (by simp)]
    · rw [List.filter_cons_of_neg (by simpa using hn), hf, if_pos rfl]
  · rw [List.drop_eq_nil_of_le h]
    have : foundAt fs s (lb fs s) = false := by
      cases hf : foundAt fs s (lb fs s)
      · rfl
      · have := foundAt_lt hf; omega
    rw [this]; rfl
theorem putR_sorted {d : Disk} (hs : Sorted d.files) (f : File) : putR d f = ⟨if foundAt d.files f.name (lb d.files f.name) = true then d.files.set (lb d.files f.name) f else insAt d.files (lb d.files f.name) f, d.space⟩ := by
  rw [putR_eq, tw_take, dw_drop, drop_filter hs]
  congr 1
  split
  · rename_i h
    rw [List.set_eq_take_append_cons_drop, if_pos (foundAt_lt h)]
  · rfl

theorem sumD_set (fs : List File) (i : Nat) (f : File) (h : i < fs.length) (e : f.dur = fs[i].dur) : sumD (fs.set i f) = sumD fs := by
  have : (fs.set i f).map (·.dur.length) = fs.map (·.dur.length) := by
    rw [List.map_set, e, ← List.getElem_map (fun f : File => f.dur.length) (h := by simpa using h)]
    exact List.set_getElem_self _
  simp only [sumD, this]
theorem sumV_set (fs : List File) (i : Nat) (f : File) (h : i < fs.length) (e : f.vol = fs[i].vol) : sumV (fs.set i f) = sumV fs := by
  have : (fs.set i f).map (·.vol.length) = fs.map (·.vol.length) := by
    rw [List.map_set, e, ← List.getElem_map (fun f : File => f.vol.length) (h := by simpa using h)]
    exact List.set_getElem_self _
  simp only [sumV, this]
theorem sumD_ins (fs : List File) (i : Nat) (f : File) (e : f.dur = []) : sumD (insAt fs i f) = sumD fs := by
  have h : sumD fs = sumD (fs.take i ++ fs.drop i) := by rw [List.take_append_drop]
  rw [h]
  simp only [sumD, insAt, List.map_append, List.map_cons, List.sum_append, List.sum_cons, e, List.length_nil, Nat.zero_add]
theorem checkR_over {d : Disk} (h : checkD d = 0) : ¬ d.space < W (sumV d.files) ∧ ¬ d.space < W (sumD d.files) := by
  unfold checkD at h
  split at h
  · cases h
  · split at h
    · cases h
    · split at h
      · split at h
        · cases h
        · rename_i ho
          simpa [overB] using ho
      · rename_i h1; exact absurd h h1

theorem fin_fit (L : List File) (space : Int) (h : ¬ space < W (sumD L)) : finR L space = fitD ⟨L, space⟩ := by
  unfold finR fitD
  simp [overB, h]

theorem oldR_found {d : Disk} (hs : Sorted d.files) (s : List UInt8) : oldR d s = if foundAt d.files s (lb d.files s) = true then (d.files[lb d.files s]?.getD ⟨s, [], []⟩) else ⟨s, [], []⟩ := by
  rw [oldR, placeAV d s hs]
  split
  · rename_i h
    split at h
    · cases h
    · rename_i h2; rw [if_neg h2]
  · rename_i i h
    split at h
    · rename_i h2; rw [if_pos h2]; cases h; rfl
    · cases h
theorem changed_law (d : Disk) (s : List UInt8) (g : List UInt8 → List UInt8) : changedR d s g = if namedR d s = 0 then fitD (putR d { oldR d s with vol := g (oldR d s).vol }) else (zeroD, namedR d s) := by
  unfold changedR
  split
  · rename_i h
    have hc := namedR_check h
    have hs := checkR_sorted hc
    have ho := checkR_over hc
    have hold := oldR_found hs s
    by_cases hf : foundAt d.files s (lb d.files s) = true
    · have hlt := foundAt_lt hf
      have hn : d.files[lb d.files s].name = s := by rw [foundAt_iff _ _ _ hlt] at hf; simpa using hf
      rw [if_pos hf, List.getElem?_eq_getElem hlt, Option.getD_some] at hold
      rw [hold, putR_sorted hs]
      simp only [hn]
      rw [if_pos hf, openAt, if_pos hf, setVol, List.getElem?_eq_getElem hlt]
      simp only
      rw [fin_fit _ _ (by rw [sumD_set _ _ _ hlt (by rfl)]; exact ho.2)]
      simp only [hn]
    · rw [if_neg hf] at hold
      rw [hold, putR_sorted hs]
      simp only
      rw [if_neg hf, openAt, if_neg hf]
      have hl : lb d.files s < (insAt d.files (lb d.files s) ⟨s, [], []⟩).length := by rw [insAt_len _ _ _ (lb_le _ _)]; have := lb_le d.files s; omega
      have hset : setVol (insAt d.files (lb d.files s) ⟨s, [], []⟩) (lb d.files s) g = insAt d.files (lb d.files s) ⟨s, [], g []⟩ := by
        have hl2 : (d.files.take (lb d.files s)).length = lb d.files s := by have := lb_le d.files s; simp; omega
        have hg : (insAt d.files (lb d.files s) ⟨s, [], []⟩)[lb d.files s]? = some ⟨s, [], []⟩ := by
          rw [insAt, List.getElem?_append_right (by omega), hl2]; simp
        rw [setVol, hg]
        simp only [insAt]
        rw [List.set_append_right _ _ (by omega), hl2]
        simp
      rw [hset, fin_fit]
      rw [sumD_ins _ _ _ rfl]
      exact ho.2
  · rfl
theorem sync_law (d : Disk) (s : List UInt8) : syncPR d s = syncR d s := by
  unfold syncPR syncR
  split
  · rename_i h
    have hc := namedR_check h
    have hs := checkR_sorted hc
    have ho := checkR_over hc
    have hlen := checkR_len hc
    rw [placeAV d s hs]
    by_cases hf : foundAt d.files s (lb d.files s) = true
    · have hlt := foundAt_lt hf
      have hn : d.files[lb d.files s].name = s := by rw [foundAt_iff _ _ _ hlt] at hf; simpa using hf
      simp only [if_pos hf]
      rw [putR_sorted hs]
      have hb : d.files[lb d.files s]! = d.files[lb d.files s] := by simp [hlt]
      simp only [hb, hn]
      rw [if_pos hf, syncF, List.getElem?_eq_getElem hlt]
      simp only
      have hv := sumV_set d.files (lb d.files s) { name := s, dur := d.files[lb d.files s].vol, vol := d.files[lb d.files s].vol } hlt rfl
      have h256 : ¬ (256 : Int) < d.files.length := by omega
      simp [finD, fitD, overB, hv, h256, ho.1, hn]
    · simp only [if_neg hf]
  · rfl

theorem lb_filter {fs : List File} (hs : Sorted fs) (t : List UInt8) : (fs.filter (fun g => g.name != t)).takeWhile (lessF · t) = fs.takeWhile (lessF · t) ∧ (fs.filter (fun g => g.name != t)).dropWhile (lessF · t) = (fs.dropWhile (lessF · t)).filter (fun g => g.name != t) := by
  have hsplit : fs.filter (fun g => g.name != t) = fs.take (lb fs t) ++ (fs.drop (lb fs t)).filter (fun g => g.name != t) := by
    conv => lhs; rw [← List.take_append_drop (lb fs t) fs]
    rw [List.filter_append]
    congr 1
    exact List.filter_eq_self.2 fun g hg => by simpa using take_ne fs t g hg
  have h1 : ∀ g ∈ fs.take (lb fs t), lessF g t = true := fun g hg => by rw [← tw_take] at hg; exact tw_mem (p := (lessF · t)) hg
  have h2 : ∀ g ∈ (fs.drop (lb fs t)).filter (fun g => g.name != t), lessF g t = false := fun g hg => by
    rw [drop_filter hs] at hg
    have hall : ∀ g ∈ fs.drop (lb fs t), lessF g t = false := fun g hg => by
      rcases Nat.lt_or_ge (lb fs t) fs.length with h | h
      · rw [List.drop_eq_getElem_cons h] at hg
        rcases List.mem_cons.1 hg with rfl | hg
        · exact lb_head h
        · have := drop_gt hs h g hg
          cases hl : lessF g t
          · rfl
          · have := bl_trans _ _ _ hl this
            rw [bl_irrefl] at this; cases this
      · rw [List.drop_eq_nil_of_le h] at hg; cases hg
    split at hg
    · refine hall g ?_
      rcases Nat.lt_or_ge (lb fs t) fs.length with h | h
      · rw [List.drop_eq_getElem_cons h]; exact List.mem_cons_of_mem _ hg
      · rw [List.drop_eq_nil_of_le (by omega)] at hg; cases hg
    · exact hall g hg
  have h3 : ((fs.drop (lb fs t)).filter (fun g => g.name != t)).takeWhile (lessF · t) = [] := by
    cases hc : (fs.drop (lb fs t)).filter (fun g => g.name != t) with
    | nil => rfl
    | cons g r => rw [List.takeWhile_cons, h2 g (by rw [hc]; simp)]; rfl
  have h4 : ((fs.drop (lb fs t)).filter (fun g => g.name != t)).dropWhile (lessF · t) = (fs.drop (lb fs t)).filter (fun g => g.name != t) := by
    cases hc : (fs.drop (lb fs t)).filter (fun g => g.name != t) with
    | nil => rfl
    | cons g r => rw [List.dropWhile_cons, h2 g (by rw [hc]; simp)]; rfl
  constructor
  · rw [hsplit, List.takeWhile_append_of_pos h1, h3, List.append_nil, tw_take]
  · rw [hsplit, List.dropWhile_append_of_pos h1, h4, dw_drop]
theorem rename_law (d : Disk) (s t : List UInt8) : renamePR d s t = renameR d s t := by
  unfold renamePR renameR checkedR namedR
  by_cases hc : checkD d = 0
  · simp only [if_pos hc]
    have hs := checkR_sorted hc
    by_cases h1 : nameOk s = true
    · simp only [if_pos h1]
      by_cases h2 : nameOk t = true
      · simp only [List.all_cons, h1, h2, List.all_nil, Bool.and_self, if_true]
        cases hfd : findF d.files s 0 with
        | none => rfl
        | some i =>
          simp only
          rw [putR_eq]
          have hF : Sorted (withoutR d s).files := hs.filter _
          obtain ⟨e1, e2⟩ := lb_filter hF t
          have hfil : d.files.filter (not2 s t) = (withoutR d s).files.filter (fun g => g.name != t) := by
            rw [withoutR, List.filter_filter]
            congr 1
            funext g
            simp only [not2]
            rw [Bool.and_comm]
          simp only [hfil, insAt]
          rw [← tw_take, ← dw_drop, e1, e2]
          rfl
      · simp [h1, h2]
    · simp [h1]
  · simp [hc]

end Go.Abs
set_option maxRecDepth 100000
namespace Go.Abs
open Go Go.Proofs

theorem findR_at : ∀ (fs : List File) (s : List UInt8) (k i : Nat) (x : File), fs[i]? = some x → x.name = s → (∀ j y, j < i → fs[j]? = some y → y.name ≠ s) → findF fs s k = some (k + i)
  | [], _, _, _, _, h, _, _ => by simp at h
  | f :: fs, s, k, i, x, h, hn, hne => by
    rcases i with _ | i
    · simp only [List.getElem?_cons_zero, Option.some.injEq] at h
      subst h
      rw [findF, if_pos hn, Nat.add_zero]
    · have h0 := hne 0 f (by omega) rfl
      rw [findF, if_neg h0, findR_at fs s (k + 1) i x (by simpa using h) hn (fun j y hj hy => hne (j + 1) y (by omega) (by simpa using hy))]
      congr 1; omega
theorem findR_sorted {fs : List File} (hs : Sorted fs) {i : Nat} {x : File} (h : fs[i]? = some x) : findF fs x.name 0 = some i := by
  have := findR_at fs x.name 0 i x h rfl (fun j y hj hy e => by
    obtain ⟨hi, rfl⟩ := List.getElem?_eq_some_iff.1 h
    obtain ⟨hj', rfl⟩ := List.getElem?_eq_some_iff.1 hy
    have := List.pairwise_iff_getElem.1 hs j i hj' hi hj
    rw [e, bl_irrefl] at this; cases this)
  simpa using this
theorem findR_mem {fs : List File} (hs : Sorted fs) {x : File} (h : x ∈ fs) : ∃ i, i < fs.length ∧ fs[i]? = some x ∧ findF fs x.name 0 = some i := by
  obtain ⟨i, hi⟩ := List.mem_iff_getElem?.1 h
  exact ⟨i, (List.getElem?_eq_some_iff.1 hi).1, hi, findR_sorted hs hi⟩
/-- In order and with good names, the files are well-formed. -/
theorem chkL_of : ∀ (fs : List File) (p : Option (List UInt8)), Sorted fs → (∀ f ∈ fs, nameOk f.name = true) → (∀ q, p = some q → ∀ f ∈ fs, Op.bytesLess q f.name = true) → chkL p fs = 0
  | [], _, _, _, _ => rfl
  | f :: fs, p, hs, hn, hp => by
    rw [chkL, if_neg (by simp [hn f (by simp)]), if_neg ?_]
    · exact chkL_of fs (some f.name) (List.pairwise_cons.1 hs).2 (fun g hg => hn g (by simp [hg])) (fun q hq g hg => by cases hq; exact (List.pairwise_cons.1 hs).1 g hg)
    · cases p with
      | none => simp [badPrev]
      | some q =>
        have h1 := hp q rfl f (by simp)
        simp only [badPrev, strLe, Bool.or_eq_true, beq_iff_eq, not_or]
        refine ⟨fun h2 => ?_, fun h2 => ?_⟩
        · have := bl_trans _ _ _ h1 h2; rw [bl_irrefl] at this; cases this
        · rw [h2, bl_irrefl] at h1; cases h1
structure Good (d : Disk) : Prop where
  sp : badSp d.space = false
  len : d.files.length ≤ 256
  sorted : Sorted d.files
  names : ∀ f ∈ d.files, nameOk f.name = true
  vol : ¬ d.space < W (sumV d.files)
  dur : ¬ d.space < W (sumD d.files)
theorem good_iff {d : Disk} : checkD d = 0 ↔ Good d := by
  constructor
  · intro h
    have hs := chkL_sorted _ _ (checkR_chkL h)
    refine ⟨?_, checkR_len h, hs.1, hs.2.1, (checkR_over h).1, (checkR_over h).2⟩
    unfold checkD at h
    split at h
    · cases h
    · rename_i hb; simpa using hb
  · intro h
    unfold checkD
    rw [h.sp, if_neg (by simp), if_neg (by have := h.len; omega), if_pos (chkL_of _ _ h.sorted h.names (by simp)), overB]
    simp [h.vol, h.dur]

theorem fitR_ok {d : Disk} : (fitD d).2 = 0 → (fitD d).1 = d ∧ d.files.length ≤ 256 ∧ ¬ d.space < W (sumV d.files) ∧ ¬ d.space < W (sumD d.files) := by
  unfold fitD
  split
  · intro h; cases h
  · rename_i h1
    split
    · intro h; cases h
    · rename_i h2
      intro _
      simp only [overB, Bool.or_eq_true, decide_eq_true_eq, not_or] at h2
      exact ⟨rfl, by omega, h2.1, h2.2⟩
theorem fitR_err (d : Disk) : (fitD d).2 = 0 ∨ (fitD d).2 = 27 ∨ ((fitD d).2 = 5 ∧ 256 < d.files.length) := by
  unfold fitD
  split
  · rename_i h; exact .inr (.inr ⟨rfl, by omega⟩)
  · split
    · exact .inr (.inl rfl)
    · exact .inl rfl
theorem namedR_good {d : Disk} (h : checkD d = 0) (s : List UInt8) : namedR d s = if nameOk s = true then 0 else 8 := by rw [namedR, if_pos h]

/-- The files with one of them written. -/
def putL (fs : List File) (f : File) : List File := if foundAt fs f.name (lb fs f.name) = true then fs.set (lb fs f.name) f else insAt fs (lb fs f.name) f
theorem insAt_sorted {fs : List File} (hs : Sorted fs) (f : File) (hf : ¬ foundAt fs f.name (lb fs f.name) = true) : Sorted (insAt fs (lb fs f.name) f) := by
  have h1 : ∀ g ∈ fs.take (lb fs f.name), Op.bytesLess g.name f.name = true := fun g hg => by rw [← tw_take] at hg; exact tw_mem (p := (lessF · f.name)) hg
  have h2 : ∀ g ∈ fs.drop (lb fs f.name), Op.bytesLess f.name g.name = true := fun g hg => by
    rcases Nat.lt_or_ge (lb fs f.name) fs.length with h | h
    · rw [List.drop_eq_getElem_cons h] at hg
      rcases List.mem_cons.1 hg with rfl | hg
      · have hl := lb_head h
        have hne : fs[lb fs f.name].name ≠ f.name := by rw [foundAt_iff _ _ _ h] at hf; simpa using hf
        exact bl_total _ _ hl hne
      · exact drop_gt hs h g hg
    · rw [List.drop_eq_nil_of_le h] at hg; cases hg
  unfold insAt
  refine List.pairwise_append.2 ⟨List.Pairwise.sublist (List.take_sublist _ _) hs, List.pairwise_cons.2 ⟨h2, hs.drop _⟩, fun a ha b hb => ?_⟩
  rcases List.mem_cons.1 hb with rfl | hb
  · exact h1 a ha
  · exact bl_trans _ _ _ (h1 a ha) (h2 b hb)
theorem set_sorted {fs : List File} (hs : Sorted fs) (i : Nat) (f : File) (h : i < fs.length) (hn : fs[i].name = f.name) : Sorted (fs.set i f) := by
  refine List.pairwise_iff_getElem.2 fun a b ha hb hab => ?_
  have ha' : a < fs.length := by simpa using ha
  have hb' : b < fs.length := by simpa using hb
  have hh := List.pairwise_iff_getElem.1 hs a b ha' hb' hab
  rw [List.getElem_set, List.getElem_set]
  split
  · rename_i e; subst e
    rw [if_neg (by omega), ← hn]; exact hh
  · split
    · rename_i e; subst e; rw [← hn]; exact hh
    · exact hh
theorem putL_sorted {fs : List File} (hs : Sorted fs) (f : File) : Sorted (putL fs f) := by
  unfold putL
  split
  · rename_i h
    have hlt := foundAt_lt h
    exact set_sorted hs _ f hlt (by rw [foundAt_iff _ _ _ hlt] at h; simpa using h)
  · rename_i h; exact insAt_sorted hs f h
theorem putL_self (fs : List File) (f : File) : (putL fs f)[lb fs f.name]? = some f := by
  unfold putL
  split
  · rename_i h; rw [List.getElem?_set_self (foundAt_lt h)]
  · have := lb_le fs f.name
    rw [insAt, List.getElem?_append_right (by simp; omega)]
    simp [Nat.min_eq_left this]
theorem putL_mem {fs : List File} {f g : File} (hg : g ∈ fs) (hn : g.name ≠ f.name) : g ∈ putL fs f := by
  unfold putL
  split
  · rename_i h
    have hlt := foundAt_lt h
    obtain ⟨i, hi⟩ := List.mem_iff_getElem?.1 hg
    refine List.mem_iff_getElem?.2 ⟨i, ?_⟩
    rw [List.getElem?_set_ne ?_]
    · exact hi
    · intro e
      subst e
      rw [List.getElem?_eq_getElem hlt] at hi
      rw [foundAt_iff _ _ _ hlt] at h
      cases hi
      simp at h
      exact hn h
  · rw [insAt]
    rw [← List.take_append_drop (lb fs f.name) fs] at hg
    rcases List.mem_append.1 hg with h | h
    · exact List.mem_append_left _ h
    · exact List.mem_append_right _ (List.mem_cons_of_mem _ h)
theorem mem_putL {fs : List File} {f g : File} (hg : g ∈ putL fs f) : g = f ∨ g ∈ fs := by
  unfold putL at hg
  split at hg
  · rcases List.mem_or_eq_of_mem_set hg with h | h
    · exact .inr h
    · exact .inl h
  · rw [insAt] at hg
    rcases List.mem_append.1 hg with h | h
    · exact .inr (List.mem_of_mem_take h)
    · rcases List.mem_cons.1 h with h | h
      · exact .inl h
      · exact .inr (List.mem_of_mem_drop h)
theorem putR_putL {d : Disk} (hs : Sorted d.files) (f : File) : putR d f = ⟨putL d.files f, d.space⟩ := putR_sorted hs f
theorem old_name {d : Disk} (hs : Sorted d.files) (s : List UInt8) : (oldR d s).name = s := by
  rw [oldR_found hs]
  split
  · rename_i h
    have hlt := foundAt_lt h
    rw [List.getElem?_eq_getElem hlt, Option.getD_some]
    rw [foundAt_iff _ _ _ hlt] at h
    simpa using h
  · rfl
/-- What writing gives. -/
theorem changed_good {d : Disk} (h : Good d) {s : List UInt8} {g : List UInt8 → List UInt8} (hok : (changedR d s g).2 = 0) :
    nameOk s = true ∧ ∃ f : File, f.name = s ∧ f.vol = g (oldR d s).vol ∧ f.dur = (oldR d s).dur ∧ (changedR d s g).1 = ⟨putL d.files f, d.space⟩ ∧ Good ⟨putL d.files f, d.space⟩ := by
  rw [changed_law] at hok ⊢
  rw [namedR_good (good_iff.2 h)] at hok ⊢
  by_cases hn : nameOk s = true
  · rw [if_pos hn, if_pos rfl] at hok ⊢
    refine ⟨hn, { oldR d s with vol := g (oldR d s).vol }, old_name h.sorted s, rfl, rfl, ?_⟩
    rw [putR_putL h.sorted] at hok ⊢
    obtain ⟨e1, e2, e3, e4⟩ := fitR_ok hok
    refine ⟨e1, h.sp, e2, putL_sorted h.sorted _, fun f hf => ?_, e3, e4⟩
    rcases mem_putL hf with rfl | hf
    · simpa [old_name h.sorted s] using hn
    · exact h.names f hf
  · rw [if_neg hn] at hok
    simp at hok
theorem putL_len {fs : List File} {f : File} (h : foundAt fs f.name (lb fs f.name) = true) : (putL fs f).length = fs.length := by rw [putL, if_pos h, List.length_set]
theorem found_of {fs : List File} (hs : Sorted fs) {x : File} (hx : x ∈ fs) : foundAt fs x.name (lb fs x.name) = true := by
  obtain ⟨i, _, _, hf⟩ := findR_mem hs hx
  have := placeAV ⟨fs, 0⟩ x.name hs
  rw [hf] at this
  split at this
  · assumption
  · cases this
theorem crashF_get : ∀ (fs : List File) (out : List File) (cs : List Int) (i : Nat) (x : File), fs[i]? = some x → ∃ cs', (fs.foldl crashStep (out, cs)).1[out.length + i]? = some ⟨x.name, (afterR x cs').1, (afterR x cs').1⟩
  | [], _, _, _, _, h => by simp at h
  | f :: fs, out, cs, i, x, h => by
    rw [List.foldl_cons]
    rcases i with _ | i
    · simp only [List.getElem?_cons_zero, Option.some.injEq] at h
      subst h
      refine ⟨cs, ?_⟩
      have key : ∀ (l : List File) (st : List File × List Int) (j : Nat) (y : File), st.1[j]? = some y → (l.foldl crashStep st).1[j]? = some y := by
        intro l
        induction l with
        | nil => intro st j y h; exact h
        | cons g l ih =>
          intro st j y h
          rw [List.foldl_cons]
          refine ih _ j y ?_
          rw [crashStep]; simp only
          rw [List.getElem?_append_left (List.getElem?_eq_some_iff.1 h).1]; exact h
      exact key fs _ _ _ (by simp [crashStep])
    · obtain ⟨cs', hc⟩ := crashF_get fs (out ++ [⟨f.name, (afterR f cs).1, (afterR f cs).1⟩]) (afterR f cs).2 i x (by simpa using h)
      refine ⟨cs', ?_⟩
      simp only [List.length_append, List.length_singleton] at hc
      rw [show out.length + (i + 1) = out.length + 1 + i by omega]
      exact hc
theorem afterR_content (f : File) (cs : List Int) : ((afterR f cs).1 = f.dur ∨ (afterR f cs).1.isPrefixOf f.vol = true) ∧ (f.dur = f.vol → (afterR f cs).1 = f.dur) := by
  unfold afterR
  split
  · exact ⟨.inl rfl, fun _ => rfl⟩
  · rename_i hne
    refine ⟨?_, fun e => absurd e hne⟩
    simp only
    split
    · exact .inl rfl
    · split
      · exact .inr (by rw [List.isPrefixOf_iff_prefix]; exact List.prefix_refl _)
      · split
        · exact .inr (by simp)
        · exact .inr (by rw [List.isPrefixOf_iff_prefix]; exact List.take_prefix _ _)
theorem crashF_same {fs : List File} (h : ∀ f ∈ fs, f.dur = f.vol) (out : List File) (cs : List Int) : fs.foldl crashStep (out, cs) = (out ++ fs, cs) := by
  induction fs generalizing out with
  | nil => simp
  | cons f fs ih =>
    have hf := h f (by simp)
    have : crashStep (out, cs) f = (out ++ [f], cs) := by
      have ha : afterR f cs = (f.dur, cs) := by rw [afterR, if_pos hf]
      rw [crashStep]
      simp only [ha]
      cases f
      simp only at hf
      subst hf
      rfl
    rw [List.foldl_cons, this, ih (fun g hg => h g (by simp [hg]))]
    simp
theorem crashF_names (fs : List File) (cs : List Int) : (crashF fs cs).1.map (·.name) = fs.map (·.name) := by
  refine List.ext_getElem? fun i => ?_
  rw [List.getElem?_map, List.getElem?_map]
  cases hx : fs[i]? with
  | none =>
    have := crashF_len fs cs
    rw [List.getElem?_eq_none (by have := List.getElem?_eq_none_iff.1 hx; omega)]
  | some x =>
    obtain ⟨cs', hc⟩ := crashF_get fs [] cs i x hx
    simp only [List.length_nil, Nat.zero_add] at hc
    rw [crashF, hc]; rfl
theorem sorted_names {fs gs : List File} (h : fs.map (·.name) = gs.map (·.name)) (hs : Sorted gs) : Sorted fs := by
  have h1 : (fs.map (·.name)).Pairwise (fun a b => Op.bytesLess a b = true) := by rw [h]; exact List.pairwise_map.2 hs
  exact List.pairwise_map.1 h1
theorem names_ok {fs gs : List File} (h : fs.map (·.name) = gs.map (·.name)) (hs : ∀ f ∈ gs, nameOk f.name = true) : ∀ f ∈ fs, nameOk f.name = true := fun f hf => by
  have : f.name ∈ gs.map (·.name) := by rw [← h]; exact List.mem_map.2 ⟨f, hf, rfl⟩
  obtain ⟨g, hg, e⟩ := List.mem_map.1 this
  rw [← e]; exact hs g hg
/-- The statement on crashes. -/
theorem crash_good {d : Disk} (h : Good d) (cs : List Int) : (crashR d cs).2.2 = 27 ∨ (crashR d cs).2.2 = 0 ∧ (crashR d cs).1 = ⟨(crashF d.files cs).1, d.space⟩ ∧ (crashR d cs).2.1 = (crashF d.files cs).2 ∧ Good ⟨(crashF d.files cs).1, d.space⟩ := by
  rw [crashR, if_pos (good_iff.2 h)]
  simp only
  have hlen := crashF_len d.files cs
  rcases fitR_err ⟨(crashF d.files cs).1, d.space⟩ with h1 | h1 | h1
  · rw [if_pos h1]
    obtain ⟨e1, e2, e3, e4⟩ := fitR_ok h1
    exact .inr ⟨rfl, e1, rfl, h.sp, e2, sorted_names (crashF_names _ _) h.sorted, names_ok (crashF_names _ _) h.names, e3, e4⟩
  · rw [if_neg (by rw [h1]; decide)]
    exact .inl h1
  · exfalso
    have := h1.2
    simp only at this
    have := h.len
    omega
theorem crash_again {d : Disk} (h : Good d) (hs : ∀ f ∈ d.files, f.dur = f.vol) (cs : List Int) : crashR d cs = (d, cs, 0) := by
  have hf : crashF d.files cs = (d.files, cs) := by rw [crashF, crashF_same hs]; rfl
  rcases crash_good h cs with h1 | ⟨h1, h2, h3, _⟩
  · exfalso
    rw [crashR, if_pos (good_iff.2 h), hf] at h1
    simp only at h1
    have hfit : fitD d = (d, 0) := by
      rw [fitD, if_neg (by have := h.len; omega), overB]
      simp [h.vol, h.dur]
    rw [show (⟨d.files, d.space⟩ : Disk) = d from rfl, hfit] at h1
    simp at h1
  · rw [hf] at h2 h3
    have : crashR d cs = ((crashR d cs).1, (crashR d cs).2.1, (crashR d cs).2.2) := rfl
    rw [this, h1, h2, h3]
end Go.Abs
set_option maxRecDepth 100000
namespace Go.Abs
open Go Go.Proofs
set_option linter.unusedSimpArgs false
def commitR (d : Disk) (n : Int) : Disk × Int := if checkD d ≠ 0 then (zeroD, checkD d) else if (nameR n).2 ≠ 0 then (zeroD, (nameR n).2) else if (syncR d (nameW n)).2 ≠ 0 then (zeroD, (syncR d (nameW n)).2) else renameR (syncR d (nameW n)).1 (nameW n) (nameC n)
attribute [local irreducible] numbR nameR checkD syncR renameR nameW
end Go.Abs
set_option maxRecDepth 100000
namespace Go.Abs
open Go Go.Proofs
set_option linter.unusedSimpArgs false
attribute [local irreducible] numbR checkD
end Go.Abs
set_option maxRecDepth 100000
namespace Go.Abs
open Go Go.Proofs
set_option linter.unusedSimpArgs false
theorem nl_ok {d : Disk} (h : checkD d = 0) : NL d.files := by
  have g := good_iff.1 h
  refine ⟨by have := g.len; omega, fun f hf => ?_⟩
  have := g.names f hf
  unfold nameOk at this
  simp at this
  omega
attribute [local irreducible] checkD commitR commitC pruneR
end Go.Abs
set_option maxRecDepth 100000
namespace Go.Abs
open Go Go.Proofs Go.RowKit Go.Proofs.YtmfoegilknpcnaaGreatDoor
theorem shpFile {d : Nat} {zs : List AV} (h : Shp T (d + 2) 66 zs) : ∃ f : File, zs = (encFl f).cells ∧ f.name.length ≤ reachBytes ∧ f.dur.length ≤ reachBytes ∧ f.vol.length ≤ reachBytes := by
  simp only [Shp, T66, T9, ShpI, ShpF, List.map_cons, List.map_nil] at h
  obtain ⟨_, _, rfl, ⟨a, rfl, ha⟩, _, _, rfl, ⟨b, rfl, hb⟩, _, _, rfl, ⟨c, rfl, hc⟩, rfl⟩ := h
  exact ⟨⟨a, b, c⟩, rfl, ha, hb, hc⟩
theorem shpDisk {d : Nat} {zs : List AV} (h : Shp T (d + 4) 24 zs) : ∃ k : Disk, zs = (encD k).cells ∧ DB k := by
  simp only [Shp, T24, ShpI, ShpF, List.map_cons, List.map_nil] at h
  obtain ⟨_, _, rfl, h1, _, _, rfl, h2, rfl⟩ := h
  simp only [T22, ShpI] at h1
  simp only [T3, ShpI] at h2
  obtain ⟨ei, xs, he, rfl, hl, hx⟩ := h1
  obtain ⟨n, rfl, _, _⟩ := h2
  rw [T66] at he
  cases he
  obtain ⟨l, rfl, hq⟩ := list_of (g := encFl) (Q := fun f => f.name.length ≤ reachBytes ∧ f.dur.length ≤ reachBytes ∧ f.vol.length ≤ reachBytes) xs (fun x hxm => by
    obtain ⟨zs, rfl, hz⟩ := hx x hxm
    obtain ⟨f, rfl, hf⟩ := shpFile (d := d) hz
    exact ⟨f, rfl, hf⟩)
  have hr := reach_le
  refine ⟨⟨l, n⟩, rfl, ?_, fun f hf => ?_, fun f hf => ?_, fun f hf => ?_⟩
  · simp only [List.length_map] at hl; simp only; omega
  · have := hq f hf; omega
  · have := hq f hf; omega
  · have := hq f hf; omega
theorem argD {d : Nat} {ts : List Nat} {xs : List AV} (h : ArgsShp T (d + 4) (24 :: ts) xs) : ∃ (k : Disk) (r : List AV), xs = encD k :: r ∧ DB k ∧ ArgsShp T (d + 4) ts r := by
  obtain ⟨i, zs, r, hi, rfl, h1, h⟩ := h
  rw [T24] at hi; cases hi
  obtain ⟨k, rfl, hk⟩ := shpDisk (d := d) h1
  exact ⟨k, r, rfl, hk, h⟩
end Go.Abs
