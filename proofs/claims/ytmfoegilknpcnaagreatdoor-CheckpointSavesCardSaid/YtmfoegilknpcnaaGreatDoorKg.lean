/- Part Kg of the proof: an abstract machine over the model, and what the functions of the program hand back in its terms. No condition. -/
import Derived.Test.YtmfoegilknpcnaaGreatDoorKe
import Derived.Test.YtmfoegilknpcnaaGreatDoorKf
import Derived.Test.YtmfoegilknpcnaaGreatDoorKc
set_option linter.all false
set_option maxRecDepth 100000
namespace Go.Abs
open Go Go.Proofs
set_option linter.unusedSimpArgs false
/-- What every string and list that is read obeys. -/
structure DB (d : Disk) : Prop where
  files : d.files.length ≤ 140737488355328
  name : ∀ f ∈ d.files, f.name.length ≤ 140737488355328
  dur : ∀ f ∈ d.files, f.dur.length ≤ 140737488355328
  vol : ∀ f ∈ d.files, f.vol.length ≤ 140737488355328
theorem DB.nb {d : Disk} (h : DB d) : NB d.files := fun f hf => by have := h.name f hf; omega
end Go.Abs
set_option maxRecDepth 100000
namespace Go.Abs
open Go Go.Proofs

/-! The plain laws of the disk: what the program computes is what the reference computes. -/
theorem lessF_iff (f : File) (s : List UInt8) : lessF f s = !strLe s f.name := by
  unfold lessF
  cases h : Op.bytesLess f.name s
  · cases h2 : strLe s f.name
    · have := strLe_false h2
      rw [h] at this; cases this
    · rfl
  · cases h2 : strLe s f.name
    · rfl
    · unfold strLe at h2
      simp only [Bool.or_eq_true, beq_iff_eq] at h2
      rcases h2 with h2 | rfl
      · have := bl_trans _ _ _ h h2
        rw [bl_irrefl] at this; cases this
      · rw [bl_irrefl] at h; cases h

theorem fold_true (f : File) : ∀ (fs out : List File), fs.foldl (putStep f) (true, out) = (true, out ++ fs.filter (fun g => g.name != f.name))
  | [], out => by simp
  | g :: fs, out => by
    rw [List.foldl_cons]
    cases h : g.name != f.name
    · have : putStep f (true, out) g = (true, out) := by simp only [putStep, h]; simp
      rw [this, fold_true f fs out, List.filter_cons_of_neg (by simp [h])]
    · have : putStep f (true, out) g = (true, out ++ [g]) := by simp only [putStep, h]; simp
      rw [this, fold_true f fs _, List.filter_cons_of_pos (by simp [h])]
      simp
def endP (f : File) (r : Bool × List File) : List File := if r.1 = true then r.2 else r.2 ++ [f]
theorem endP_true (f : File) (l : List File) : endP f (true, l) = l := rfl
theorem fold_false (f : File) : ∀ (fs out : List File), endP f (fs.foldl (putStep f) (false, out)) =
    out ++ fs.takeWhile (lessF · f.name) ++ f :: (fs.dropWhile (lessF · f.name)).filter (fun g => g.name != f.name)
  | [], out => by simp [endP]
  | g :: fs, out => by
    simp only [List.foldl_cons, List.takeWhile_cons, List.dropWhile_cons]
    cases h : lessF g f.name
    · have hle : strLe f.name g.name = true := by rw [lessF_iff] at h; simpa using h
      cases hn : g.name != f.name
      · have : putStep f (false, out) g = (true, out ++ [f]) := by simp [putStep, hle, hn]
        rw [this, fold_true, endP_true]
        simp [List.filter_cons, hn]
      · have : putStep f (false, out) g = (true, out ++ [f] ++ [g]) := by simp [putStep, hle, hn]
        rw [this, fold_true, endP_true]
        simp [List.filter_cons, hn]
    · have hle : strLe f.name g.name = false := by rw [lessF_iff] at h; simpa using h
      have hn : (g.name != f.name) = true := by
        simp only [bne_iff_ne, ne_eq]
        intro e
        rw [e] at hle
        simp [strLe] at hle
      have : putStep f (false, out) g = (false, out ++ [g]) := by simp [putStep, hle, hn]
      rw [this, fold_false f fs (out ++ [g])]
      simp
theorem putR_eq (d : Disk) (f : File) : putR d f = ⟨d.files.takeWhile (lessF · f.name) ++ f :: (d.files.dropWhile (lessF · f.name)).filter (fun g => g.name != f.name), d.space⟩ := by
  have := fold_false f d.files []
  simp only [List.nil_append] at this
  rw [← this]
  rfl

theorem tw_take (fs : List File) (s : List UInt8) : fs.takeWhile (lessF · s) = fs.take (lb fs s) := by
  unfold lb
  induction fs with
  | nil => rfl
  | cons g fs ih =>
    rw [List.takeWhile_cons]
    split
    · rw [List.length_cons, List.take_succ_cons, ← ih]
    · rfl
theorem dw_drop (fs : List File) (s : List UInt8) : fs.dropWhile (lessF · s) = fs.drop (lb fs s) := by
  unfold lb
  induction fs with
  | nil => rfl
  | cons g fs ih =>
    rw [List.dropWhile_cons, List.takeWhile_cons]
    split
    · rw [List.length_cons, List.drop_succ_cons, ← ih]
    · rfl
theorem Sorted.drop {fs : List File} (h : Sorted fs) (n : Nat) : Sorted (fs.drop n) := List.Pairwise.sublist (List.drop_sublist n fs) h
theorem lb_head {fs : List File} {s : List UInt8} (h : lb fs s < fs.length) : lessF fs[lb fs s] s = false := by
  unfold lb at h ⊢
  induction fs with
  | nil => simp at h
  | cons g fs ih =>
    by_cases hg : lessF g s = true
    · simp only [List.takeWhile_cons, hg, if_true, List.length_cons, List.getElem_cons_succ]
      exact ih (by simpa [List.takeWhile_cons, hg] using h)
    · simp only [List.takeWhile_cons, hg, Bool.false_eq_true, if_false, List.length_nil, List.getElem_cons_zero]
/-- Behind the place of a name stand only greater names, the name itself apart. -/
theorem drop_gt {fs : List File} (hs : Sorted fs) {s : List UInt8} (h : lb fs s < fs.length) : ∀ g ∈ fs.drop (lb fs s + 1), Op.bytesLess s g.name = true := fun g hg => by
  have h1 : Op.bytesLess fs[lb fs s].name g.name = true := by
    have hd := hs.drop (lb fs s)
    rw [List.drop_eq_getElem_cons h] at hd
    exact (List.pairwise_cons.1 hd).1 g hg
  have h2 := lb_head h
  rw [lessF_iff] at h2
  simp only [Bool.not_eq_false', strLe, Bool.or_eq_true, beq_iff_eq] at h2
  rcases h2 with h2 | h2
  · exact bl_trans _ _ _ h2 h1
  · rw [h2]; exact h1
theorem ne_of_bl {a b : List UInt8} (h : Op.bytesLess a b = true) : b ≠ a := fun e => by rw [e, bl_irrefl] at h; cases h
theorem tw_mem {α : Type} {p : α → Bool} {l : List α} {x : α} (h : x ∈ l.takeWhile p) : p x = true := by
  induction l with
  | nil => cases h
  | cons a l ih =>
    rw [List.takeWhile_cons] at h
    split at h
    · rcases List.mem_cons.1 h with rfl | h
      · assumption
      · exact ih h
    · cases h
theorem take_ne (fs : List File) (s : List UInt8) : ∀ g ∈ fs.take (lb fs s), g.name ≠ s := fun g hg => by
  rw [← tw_take] at hg
  have := tw_mem hg
  intro e
  simp only [lessF, e, bl_irrefl] at this
  cases this
theorem drop_filter {fs : List File} (hs : Sorted fs) (s : List UInt8) : (fs.drop (lb fs s)).filter (fun g => g.name != s) = if foundAt fs s (lb fs s) = true then fs.drop (lb fs s + 1) else fs.drop (lb fs s) := by
  rcases Nat.lt_or_ge (lb fs s) fs.length with h | h
  · rw [List.drop_eq_getElem_cons h, foundAt_iff _ _ _ h]
    have hf : (fs.drop (lb fs s + 1)).filter (fun g => g.name != s) = fs.drop (lb fs s + 1) := List.filter_eq_self.2 fun g hg => by
      have := ne_of_bl (drop_gt hs h g hg)
      simpa using this
    cases hn : fs[lb fs s].name == s
    · rw [List.filter_cons_of_pos (by simpa using hn), hf, if_neg (by simp)]
    · rw [List.filter_cons_of_neg (by simpa using hn), hf, if_pos rfl]
  · rw [List.drop_eq_nil_of_le h]
    have : foundAt fs s (lb fs s) = false := by
      cases hf : foundAt fs s (lb fs s)
      · rfl
      · have := foundAt_lt hf; omega
    rw [this]; rfl
theorem putR_sorted {d : Disk} (hs : Sorted d.files) (f : File) : putR d f = ⟨if foundAt d.files f.name (lb d.files f.name) = true then d.files.set (lb d.files f.name) f else insAt d.files (lb d.files f.name) f, d.space⟩ := by
  rw [putR_eq, tw_take, dw_drop, drop_filter hs]
  congr 1
  split
  · rename_i h
    rw [List.set_eq_take_append_cons_drop, if_pos (foundAt_lt h)]
  · rfl

theorem sumD_set (fs : List File) (i : Nat) (f : File) (h : i < fs.length) (e : f.dur = fs[i].dur) : sumD (fs.set i f) = sumD fs := by
  have : (fs.set i f).map (·.dur.length) = fs.map (·.dur.length) := by
    rw [List.map_set, e, ← List.getElem_map (fun f : File => f.dur.length) (h := by simpa using h)]
    exact List.set_getElem_self _
  simp only [sumD, this]
theorem sumV_set (fs : List File) (i : Nat) (f : File) (h : i < fs.length) (e : f.vol = fs[i].vol) : sumV (fs.set i f) = sumV fs := by
  have : (fs.set i f).map (·.vol.length) = fs.map (·.vol.length) := by
    rw [List.map_set, e, ← List.getElem_map (fun f : File => f.vol.length) (h := by simpa using h)]
    exact List.set_getElem_self _
  simp only [sumV, this]
theorem sumD_ins (fs : List File) (i : Nat) (f : File) (e : f.dur = []) : sumD (insAt fs i f) = sumD fs := by
  have h : sumD fs = sumD (fs.take i ++ fs.drop i) := by rw [List.take_append_drop]
  rw [h]
  simp only [sumD, insAt, List.map_append, List.map_cons, List.sum_append, List.sum_cons, e, List.length_nil, Nat.zero_add]
theorem checkR_over {d : Disk} (h : checkD d = 0) : ¬ d.space < W (sumV d.files) ∧ ¬ d.space < W (sumD d.files) := by
  unfold checkD at h
  split at h
  · cases h
  · split at h
    · cases h
    · split at h
      · split at h
        · cases h
        · rename_i ho
          simpa [overB] using ho
      · rename_i h1; exact absurd h h1

theorem fin_fit (L : List File) (space : Int) (h : ¬ space < W (sumD L)) : finR L space = fitD ⟨L, space⟩ := by
  unfold finR fitD
  simp [overB, h]

theorem oldR_found {d : Disk} (hs : Sorted d.files) (s : List UInt8) : oldR d s = if foundAt d.files s (lb d.files s) = true then (d.files[lb d.files s]?.getD ⟨s, [], []⟩) else ⟨s, [], []⟩ := by
  rw [oldR, placeAV d s hs]
  split
  · rename_i h
    split at h
    · cases h
    · rename_i h2; rw [if_neg h2]
  · rename_i i h
    split at h
    · rename_i h2; rw [if_pos h2]; cases h; rfl
    · cases h
theorem changed_law (d : Disk) (s : List UInt8) (g : List UInt8 → List UInt8) : changedR d s g = if namedR d s = 0 then fitD (putR d { oldR d s with vol := g (oldR d s).vol }) else (zeroD, namedR d s) := by
  unfold changedR
  split
  · rename_i h
    have hc := namedR_check h
    have hs := checkR_sorted hc
    have ho := checkR_over hc
    have hold := oldR_found hs s
    by_cases hf : foundAt d.files s (lb d.files s) = true
    · have hlt := foundAt_lt hf
      have hn : d.files[lb d.files s].name = s := by rw [foundAt_iff _ _ _ hlt] at hf; simpa using hf
      rw [if_pos hf, List.getElem?_eq_getElem hlt, Option.getD_some] at hold
      rw [hold, putR_sorted hs]
      simp only [hn]
      rw [if_pos hf, openAt, if_pos hf, setVol, List.getElem?_eq_getElem hlt]
      simp only
      rw [fin_fit _ _ (by rw [sumD_set _ _ _ hlt (by rfl)]; exact ho.2)]
      simp only [hn]
    · rw [if_neg hf] at hold
      rw [hold, putR_sorted hs]
      simp only
      rw [if_neg hf, openAt, if_neg hf]
      have hl : lb d.files s < (insAt d.files (lb d.files s) ⟨s, [], []⟩).length := by rw [insAt_len _ _ _ (lb_le _ _)]; have := lb_le d.files s; omega
      have hset : setVol (insAt d.files (lb d.files s) ⟨s, [], []⟩) (lb d.files s) g = insAt d.files (lb d.files s) ⟨s, [], g []⟩ := by
        have hl2 : (d.files.take (lb d.files s)).length = lb d.files s := by have := lb_le d.files s; simp; omega
        have hg : (insAt d.files (lb d.files s) ⟨s, [], []⟩)[lb d.files s]? = some ⟨s, [], []⟩ := by
          rw [insAt, List.getElem?_append_right (by omega), hl2]; simp
        rw [setVol, hg]
        simp only [insAt]
        rw [List.set_append_right _ _ (by omega), hl2]
        simp
      rw [hset, fin_fit]
      rw [sumD_ins _ _ _ rfl]
      exact ho.2
  · rfl
theorem write_law (d : Disk) (s b : List UInt8) : changedR d s (wrG b) = writeR d s b := by rw [changed_law]; rfl

theorem sync_law (d : Disk) (s : List UInt8) : syncPR d s = syncR d s := by
  unfold syncPR syncR
  split
  · rename_i h
    have hc := namedR_check h
    have hs := checkR_sorted hc
    have ho := checkR_over hc
    have hlen := checkR_len hc
    rw [placeAV d s hs]
    by_cases hf : foundAt d.files s (lb d.files s) = true
    · have hlt := foundAt_lt hf
      have hn : d.files[lb d.files s].name = s := by rw [foundAt_iff _ _ _ hlt] at hf; simpa using hf
      simp only [if_pos hf]
      rw [putR_sorted hs]
      have hb : d.files[lb d.files s]! = d.files[lb d.files s] := by simp [hlt]
      simp only [hb, hn]
      rw [if_pos hf, syncF, List.getElem?_eq_getElem hlt]
      simp only
      have hv := sumV_set d.files (lb d.files s) { name := s, dur := d.files[lb d.files s].vol, vol := d.files[lb d.files s].vol } hlt rfl
      have h256 : ¬ (256 : Int) < d.files.length := by omega
      simp [finD, fitD, overB, hv, h256, ho.1, hn]
    · simp only [if_neg hf]
  · rfl

theorem lb_filter {fs : List File} (hs : Sorted fs) (t : List UInt8) : (fs.filter (fun g => g.name != t)).takeWhile (lessF · t) = fs.takeWhile (lessF · t) ∧ (fs.filter (fun g => g.name != t)).dropWhile (lessF · t) = (fs.dropWhile (lessF · t)).filter (fun g => g.name != t) := by
  have hsplit : fs.filter (fun g => g.name != t) = fs.take (lb fs t) ++ (fs.drop (lb fs t)).filter (fun g => g.name != t) := by
    conv => lhs; rw [← List.take_append_drop (lb fs t) fs]
    rw [List.filter_append]
    congr 1
    exact List.filter_eq_self.2 fun g hg => by simpa using take_ne fs t g hg
  have h1 : ∀ g ∈ fs.take (lb fs t), lessF g t = true := fun g hg => by rw [← tw_take] at hg; exact tw_mem (p := (lessF · t)) hg
  have h2 : ∀ g ∈ (fs.drop (lb fs t)).filter (fun g => g.name != t), lessF g t = false := fun g hg => by
    rw [drop_filter hs] at hg
    have hall : ∀ g ∈ fs.drop (lb fs t), lessF g t = false := fun g hg => by
      rcases Nat.lt_or_ge (lb fs t) fs.length with h | h
      · rw [List.drop_eq_getElem_cons h] at hg
        rcases List.mem_cons.1 hg with rfl | hg
        · exact lb_head h
        · have := drop_gt hs h g hg
          cases hl : lessF g t
          · rfl
          · have := bl_trans _ _ _ hl this
            rw [bl_irrefl] at this; cases this
      · rw [List.drop_eq_nil_of_le h] at hg; cases hg
    split at hg
    · refine hall g ?_
      rcases Nat.lt_or_ge (lb fs t) fs.length with h | h
      · rw [List.drop_eq_getElem_cons h]; exact List.mem_cons_of_mem _ hg
      · rw [List.drop_eq_nil_of_le (by omega)] at hg; cases hg
    · exact hall g hg
  have h3 : ((fs.drop (lb fs t)).filter (fun g => g.name != t)).takeWhile (lessF · t) = [] := by
    cases hc : (fs.drop (lb fs t)).filter (fun g => g.name != t) with
    | nil => rfl
    | cons g r => rw [List.takeWhile_cons, h2 g (by rw [hc]; simp)]; rfl
  have h4 : ((fs.drop (lb fs t)).filter (fun g => g.name != t)).dropWhile (lessF · t) = (fs.drop (lb fs t)).filter (fun g => g.name != t) := by
    cases hc : (fs.drop (lb fs t)).filter (fun g => g.name != t) with
    | nil => rfl
    | cons g r => rw [List.dropWhile_cons, h2 g (by rw [hc]; simp)]; rfl
  constructor
  · rw [hsplit, List.takeWhile_append_of_pos h1, h3, List.append_nil, tw_take]
  · rw [hsplit, List.dropWhile_append_of_pos h1, h4, dw_drop]
theorem rename_law (d : Disk) (s t : List UInt8) : renamePR d s t = renameR d s t := by
  unfold renamePR renameR checkedR namedR
  by_cases hc : checkD d = 0
  · simp only [if_pos hc]
    have hs := checkR_sorted hc
    by_cases h1 : nameOk s = true
    · simp only [if_pos h1]
      by_cases h2 : nameOk t = true
      · simp only [List.all_cons, h1, h2, List.all_nil, Bool.and_self, if_true]
        cases hfd : findF d.files s 0 with
        | none => rfl
        | some i =>
          simp only
          rw [putR_eq]
          have hF : Sorted (withoutR d s).files := hs.filter _
          obtain ⟨e1, e2⟩ := lb_filter hF t
          have hfil : d.files.filter (not2 s t) = (withoutR d s).files.filter (fun g => g.name != t) := by
            rw [withoutR, List.filter_filter]
            congr 1
            funext g
            simp only [not2]
            rw [Bool.and_comm]
          simp only [hfil, insAt]
          rw [← tw_take, ← dw_drop, e1, e2]
          rfl
      · simp [h1, h2]
    · simp [h1]
  · simp [hc]

end Go.Abs
set_option maxRecDepth 100000
namespace Go.Abs
open Go Go.Proofs

/-- In order and with good names, the files are well-formed. -/
theorem chkL_of : ∀ (fs : List File) (p : Option (List UInt8)), Sorted fs → (∀ f ∈ fs, nameOk f.name = true) → (∀ q, p = some q → ∀ f ∈ fs, Op.bytesLess q f.name = true) → chkL p fs = 0
  | [], _, _, _, _ => rfl
  | f :: fs, p, hs, hn, hp => by
    rw [chkL, if_neg (by simp [hn f (by simp)]), if_neg ?_]
    · exact chkL_of fs (some f.name) (List.pairwise_cons.1 hs).2 (fun g hg => hn g (by simp [hg])) (fun q hq g hg => by cases hq; exact (List.pairwise_cons.1 hs).1 g hg)
    · cases p with
      | none => simp [badPrev]
      | some q =>
        have h1 := hp q rfl f (by simp)
        simp only [badPrev, strLe, Bool.or_eq_true, beq_iff_eq, not_or]
        refine ⟨fun h2 => ?_, fun h2 => ?_⟩
        · have := bl_trans _ _ _ h1 h2; rw [bl_irrefl] at this; cases this
        · rw [h2, bl_irrefl] at h1; cases h1
structure Good (d : Disk) : Prop where
  sp : badSp d.space = false
  len : d.files.length ≤ 256
  sorted : Sorted d.files
  names : ∀ f ∈ d.files, nameOk f.name = true
  vol : ¬ d.space < W (sumV d.files)
  dur : ¬ d.space < W (sumD d.files)
theorem good_iff {d : Disk} : checkD d = 0 ↔ Good d := by
  constructor
  · intro h
    have hs := chkL_sorted _ _ (checkR_chkL h)
    refine ⟨?_, checkR_len h, hs.1, hs.2.1, (checkR_over h).1, (checkR_over h).2⟩
    unfold checkD at h
    split at h
    · cases h
    · rename_i hb; simpa using hb
  · intro h
    unfold checkD
    rw [h.sp, if_neg (by simp), if_neg (by have := h.len; omega), if_pos (chkL_of _ _ h.sorted h.names (by simp)), overB]
    simp [h.vol, h.dur]

theorem fitR_ok {d : Disk} : (fitD d).2 = 0 → (fitD d).1 = d ∧ d.files.length ≤ 256 ∧ ¬ d.space < W (sumV d.files) ∧ ¬ d.space < W (sumD d.files) := by
  unfold fitD
  split
  · intro h; cases h
  · rename_i h1
    split
    · intro h; cases h
    · rename_i h2
      intro _
      simp only [overB, Bool.or_eq_true, decide_eq_true_eq, not_or] at h2
      exact ⟨rfl, by omega, h2.1, h2.2⟩
theorem namedR_good {d : Disk} (h : checkD d = 0) (s : List UInt8) : namedR d s = if nameOk s = true then 0 else 8 := by rw [namedR, if_pos h]

/-- The files with one of them written. -/
def putL (fs : List File) (f : File) : List File := if foundAt fs f.name (lb fs f.name) = true then fs.set (lb fs f.name) f else insAt fs (lb fs f.name) f
theorem insAt_sorted {fs : List File} (hs : Sorted fs) (f : File) (hf : ¬ foundAt fs f.name (lb fs f.name) = true) : Sorted (insAt fs (lb fs f.name) f) := by
  have h1 : ∀ g ∈ fs.take (lb fs f.name), Op.bytesLess g.name f.name = true := fun g hg => by rw [← tw_take] at hg; exact tw_mem (p := (lessF · f.name)) hg
  have h2 : ∀ g ∈ fs.drop (lb fs f.name), Op.bytesLess f.name g.name = true := fun g hg => by
    rcases Nat.lt_or_ge (lb fs f.name) fs.length with h | h
    · rw [List.drop_eq_getElem_cons h] at hg
      rcases List.mem_cons.1 hg with rfl | hg
      · have hl := lb_head h
        have hne : fs[lb fs f.name].name ≠ f.name := by rw [foundAt_iff _ _ _ h] at hf; simpa using hf
        exact bl_total _ _ hl hne
      · exact drop_gt hs h g hg
    · rw [List.drop_eq_nil_of_le h] at hg; cases hg
  unfold insAt
  refine List.pairwise_append.2 ⟨List.Pairwise.sublist (List.take_sublist _ _) hs, List.pairwise_cons.2 ⟨h2, hs.drop _⟩, fun a ha b hb => ?_⟩
  rcases List.mem_cons.1 hb with rfl | hb
  · exact h1 a ha
  · exact bl_trans _ _ _ (h1 a ha) (h2 b hb)
theorem set_sorted {fs : List File} (hs : Sorted fs) (i : Nat) (f : File) (h : i < fs.length) (hn : fs[i].name = f.name) : Sorted (fs.set i f) := by
  refine List.pairwise_iff_getElem.2 fun a b ha hb hab => ?_
  have ha' : a < fs.length := by simpa using ha
  have hb' : b < fs.length := by simpa using hb
  have hh := List.pairwise_iff_getElem.1 hs a b ha' hb' hab
  rw [List.getElem_set, List.getElem_set]
  split
  · rename_i e; subst e
    rw [if_neg (by omega), ← hn]; exact hh
  · split
    · rename_i e; subst e; rw [← hn]; exact hh
    · exact hh
theorem putL_sorted {fs : List File} (hs : Sorted fs) (f : File) : Sorted (putL fs f) := by
  unfold putL
  split
  · rename_i h
    have hlt := foundAt_lt h
    exact set_sorted hs _ f hlt (by rw [foundAt_iff _ _ _ hlt] at h; simpa using h)
  · rename_i h; exact insAt_sorted hs f h
theorem mem_putL {fs : List File} {f g : File} (hg : g ∈ putL fs f) : g = f ∨ g ∈ fs := by
  unfold putL at hg
  split at hg
  · rcases List.mem_or_eq_of_mem_set hg with h | h
    · exact .inr h
    · exact .inl h
  · rw [insAt] at hg
    rcases List.mem_append.1 hg with h | h
    · exact .inr (List.mem_of_mem_take h)
    · rcases List.mem_cons.1 h with h | h
      · exact .inl h
      · exact .inr (List.mem_of_mem_drop h)
theorem putR_putL {d : Disk} (hs : Sorted d.files) (f : File) : putR d f = ⟨putL d.files f, d.space⟩ := putR_sorted hs f
theorem old_name {d : Disk} (hs : Sorted d.files) (s : List UInt8) : (oldR d s).name = s := by
  rw [oldR_found hs]
  split
  · rename_i h
    have hlt := foundAt_lt h
    rw [List.getElem?_eq_getElem hlt, Option.getD_some]
    rw [foundAt_iff _ _ _ hlt] at h
    simpa using h
  · rfl
/-- What writing gives. -/
theorem changed_good {d : Disk} (h : Good d) {s : List UInt8} {g : List UInt8 → List UInt8} (hok : (changedR d s g).2 = 0) :
    nameOk s = true ∧ ∃ f : File, f.name = s ∧ f.vol = g (oldR d s).vol ∧ f.dur = (oldR d s).dur ∧ (changedR d s g).1 = ⟨putL d.files f, d.space⟩ ∧ Good ⟨putL d.files f, d.space⟩ := by
  rw [changed_law] at hok ⊢
  rw [namedR_good (good_iff.2 h)] at hok ⊢
  by_cases hn : nameOk s = true
  · rw [if_pos hn, if_pos rfl] at hok ⊢
    refine ⟨hn, { oldR d s with vol := g (oldR d s).vol }, old_name h.sorted s, rfl, rfl, ?_⟩
    rw [putR_putL h.sorted] at hok ⊢
    obtain ⟨e1, e2, e3, e4⟩ := fitR_ok hok
    refine ⟨e1, h.sp, e2, putL_sorted h.sorted _, fun f hf => ?_, e3, e4⟩
    rcases mem_putL hf with rfl | hf
    · simpa [old_name h.sorted s] using hn
    · exact h.names f hf
  · rw [if_neg hn] at hok
    simp at hok
end Go.Abs
set_option maxRecDepth 100000
namespace Go.Abs
open Go Go.Proofs
set_option linter.unusedSimpArgs false
def commitR (d : Disk) (n : Int) : Disk × Int := if checkD d ≠ 0 then (zeroD, checkD d) else if (nameR n).2 ≠ 0 then (zeroD, (nameR n).2) else if (syncR d (nameW n)).2 ≠ 0 then (zeroD, (syncR d (nameW n)).2) else renameR (syncR d (nameW n)).1 (nameW n) (nameC n)
theorem renameR_err {d : Disk} {s t : List UInt8} (h : (renameR d s t).2 ≠ 0) : (renameR d s t).1 = zeroD := by
  unfold renameR at h ⊢
  by_cases h1 : namedR d s = 0
  · rw [if_pos h1] at h ⊢
    by_cases h2 : nameOk t = true
    · rw [if_pos h2] at h ⊢
      cases h3 : findF d.files s 0 with
      | none => rfl
      | some i => rw [h3] at h; exact absurd rfl h
    · rw [if_neg h2]
  · rw [if_neg h1]
theorem commit_law (d : Disk) (n : Int) : commitC d n = commitR d n := by
  unfold commitC stepsR commitR coms
  by_cases hc : checkD d ≠ 0
  · rw [if_pos hc, if_pos hc]
  rw [if_neg hc, if_neg hc]
  simp only [runR, sync_law, rename_law]
  by_cases hv : validN n = 0
  · have hn : nameR n = (nameC n, 0) := by rw [nameR, if_neg (fun h => h hv)]
    rw [if_neg (fun h => h hv), hn, if_neg (show ¬ ((nameC n, (0 : Int)).2 ≠ 0) from fun h => h rfl)]
    by_cases hs : (syncR d (nameW n)).2 ≠ 0
    · rw [if_pos hs, if_pos hs]
    rw [if_neg hs, if_neg hs]
    by_cases hr : (renameR (syncR d (nameW n)).1 (nameW n) (nameC n)).2 ≠ 0
    · rw [if_pos hr, ← renameR_err hr]
    · rw [if_neg hr]
      have h0 : (renameR (syncR d (nameW n)).1 (nameW n) (nameC n)).2 = 0 := by simpa using hr
      exact Prod.ext rfl h0.symm
  · have hn : nameR n = ([], validN n) := by rw [nameR, if_pos hv]
    rw [if_pos hv, hn, if_pos hv]
theorem namesW (n : Int) (h0 : -9223372036854775808 ≤ n) (h1 : n ≤ 9223372036854775807) : (nameW n).length ≤ 1000 ∧ (nameC n).length ≤ 1000 := by
  have := Lib.itoa_length_le n (by omega) (by omega)
  simp [nameW, nameC, preW, preC]; omega
attribute [local irreducible] numbR nameR checkD syncR renameR nameW
set_option maxHeartbeats 2000000 in
theorem pc_rCommit (d : Disk) (n : Int) (h0 : -9223372036854775808 ≤ n) (h1 : n ≤ 9223372036854775807) (hnb : NB d.files) (hnb2 : (syncR d (nameW n)).2 = 0 → NB (syncR d (nameW n)).1.files) : PC Tryz.prog 29 [encD d, .i n] (fun r => r = .tup [encD (commitR d n).1, .i (commitR d n).2]) := by
  refine PC_body tOk Tryz.func29 rfl Tryz.results29 rfl (by simp [Tryz.ntmps29]) ?_
  rw [Tryz.ntmps29]
  simp only [argSlots]
  simp only [encD]
  obtain ⟨hw1, hw2⟩ := namesW n h0 h1
  obtain ⟨R, hR⟩ : ∃ R, commitR d n = R := ⟨_, rfl⟩
  rw [hR]
  rw [commitR] at hR
  repeat first|((first|refine qa tOk rfl ?_|refine qb tOk rfl ?_|refine qc ?_|refine qd ?_|refine qe ?_);simp)|refine AWP_block ?_|refine AWP_seq ?_
  refine AStep_PC rfl rfl (by simp) (dpc26 d hnb) rfl ?_
  rintro _ rfl
  simp
  repeat first|((first|refine qa tOk rfl ?_|refine qb tOk rfl ?_|refine qc ?_|refine qd ?_|refine qe ?_);simp)|refine AWP_block ?_|refine AWP_seq ?_
  by_cases hc : checkD d = 0
  rotate_left
  · rw [if_pos hc] at hR
    refine AWP_cond2 rfl (fun h => ?_) (fun h => by simp [hc] at h)
    repeat first|((first|refine qa tOk rfl ?_|refine qb tOk rfl ?_|refine qc ?_|refine qd ?_|refine qe ?_);simp)|refine AWP_block ?_|refine AWP_seq ?_
    rw [← hR]
    simp [zeroD]
  rw [if_neg (fun h => h hc)] at hR
  refine AWP_cond2 rfl (fun h => by simp [hc] at h) (fun h => ?_)
  repeat first|((first|refine qa tOk rfl ?_|refine qb tOk rfl ?_|refine qc ?_|refine qd ?_|refine qe ?_);simp)|refine AWP_block ?_|refine AWP_seq ?_
  refine AStep_PC rfl rfl (by simp) (pc_rName n h0 h1) rfl ?_
  rintro _ rfl
  simp
  repeat first|((first|refine qa tOk rfl ?_|refine qb tOk rfl ?_|refine qc ?_|refine qd ?_|refine qe ?_);simp)|refine AWP_block ?_|refine AWP_seq ?_
  by_cases hv : (nameR n).2 = 0
  rotate_left
  · rw [if_pos hv] at hR
    refine AWP_cond2 rfl (fun h => ?_) (fun h => by simp [hv] at h)
    repeat first|((first|refine qa tOk rfl ?_|refine qb tOk rfl ?_|refine qc ?_|refine qd ?_|refine qe ?_);simp)|refine AWP_block ?_|refine AWP_seq ?_
    rw [← hR]
    simp [zeroD]
  rw [if_neg (fun h => h hv)] at hR
  refine AWP_cond2 rfl (fun h => by simp [hv] at h) (fun h => ?_)
  repeat first|((first|refine qa tOk rfl ?_|refine qb tOk rfl ?_|refine qc ?_|refine qd ?_|refine qe ?_);simp)|refine AWP_block ?_|refine AWP_seq ?_
  refine AWP_drawC tOk mixed [8] (.val 0 (.val 1 (.two 2 (.two 3 (.val 4 (.val 5 (.val 6 (.one 7 (.one 8 (.val 9 (.done))))))) 7 (.one 3 (.val 4 (.val 5 (.val 6 (.one 8 (.val 9 (.done)))))))) 7 (.one 2 (.one 3 (.val 4 (.val 5 (.val 6 (.one 8 (.val 9 (.done))))))))))) (⟨[(1, .i n), (2, .vptr 0 0), (4, .vptr 1 0), (5, .i 0), (7, .str (nameR n).1), (8, .i (syncR d (nameW n)).2), (9, .vptr 2 0)], [.vars [.list (d.files.map encFl), .i d.space], .vars [.nils, .i 0], .vars [.list ((syncR d (nameW n)).1.files.map encFl), .i (syncR d (nameW n)).1.space]]⟩) rfl (by kernel_rfl) ?_ ?_
  simp
  · refine ⟨?_, ?_⟩
    · refine AStep_PC rfl rfl (by simp) (pc_writing n h0 h1) rfl ?_
      rintro _ rfl
      simp
      refine ⟨?_, ?_⟩
      · refine AStep_PC rfl rfl (by simp) (dpc31 d hnb (nameW n) (by omega)) rfl ?_
        rintro _ rfl
        simp
        exact RenTo_keep (by simp)
      · refine AStep_PC rfl rfl (by simp) (dpc31 d hnb (nameW n) (by omega)) rfl ?_
        rintro _ rfl
        simp
        exact RenTo_keep (by simp)
    · refine AStep_PC rfl rfl (by simp) (pc_writing n h0 h1) rfl ?_
      rintro _ rfl
      simp
      refine AStep_PC rfl rfl (by simp) (dpc31 d hnb (nameW n) (by omega)) rfl ?_
      rintro _ rfl
      simp
      exact RenTo_keep (by simp)
  refine AWP_seq ?_
  repeat first|((first|refine qa tOk rfl ?_|refine qb tOk rfl ?_|refine qc ?_|refine qd ?_|refine qe ?_);simp)|refine AWP_block ?_|refine AWP_seq ?_
  by_cases hs : (syncR d (nameW n)).2 = 0
  rotate_left
  · rw [if_pos hs] at hR
    refine AWP_cond2 rfl (fun h => ?_) (fun h => by simp [hs] at h)
    repeat first|((first|refine qa tOk rfl ?_|refine qb tOk rfl ?_|refine qc ?_|refine qd ?_|refine qe ?_);simp)|refine AWP_block ?_|refine AWP_seq ?_
    rw [← hR]
    simp [zeroD]
  rw [if_neg (fun h => h hs)] at hR
  refine AWP_cond2 rfl (fun h => by simp [hs] at h) (fun h => ?_)
  repeat first|((first|refine qa tOk rfl ?_|refine qb tOk rfl ?_|refine qc ?_|refine qd ?_|refine qe ?_);simp)|refine AWP_block ?_|refine AWP_seq ?_
  have hnc : (nameR n).1 = nameC n := by
    rw [nameR] at hv ⊢
    split
    · rename_i h; rw [if_pos h] at hv; exact absurd hv h
    · rfl
  rw [hnc]
  refine AWP_drawT tOk mixed [7] (.val 0 (.val 1 (.val 3 (.one 2 (.one 4 (.val 5 (.val 6 (.one 7 (.val 8 (.done)))))))))) rfl (by kernel_rfl) ?_
  simp
  refine AStep_PC rfl rfl (by simp) (pc_writing n h0 h1) rfl ?_
  rintro _ rfl
  simp
  refine AStep_PC rfl rfl (by simp) (dpc32 (syncR d (nameW n)).1 (hnb2 hs) (nameW n) (nameC n) (by omega) (by omega)) rfl ?_
  rintro _ rfl
  simp
  repeat first|((first|refine qa tOk rfl ?_|refine qb tOk rfl ?_|refine qc ?_|refine qd ?_|refine qe ?_);simp)|refine AWP_block ?_|refine AWP_seq ?_
  rw [← hR]
  simp
end Go.Abs
set_option maxRecDepth 100000
namespace Go.Abs
open Go Go.Proofs
set_option linter.unusedSimpArgs false
attribute [local irreducible] numbR checkD
end Go.Abs
set_option maxRecDepth 100000
namespace Go.Abs
open Go Go.Proofs
set_option linter.unusedSimpArgs false
theorem sync_nb {d : Disk} (h : NB d.files) (s : List UInt8) : NB (syncPR d s).1.files := by
  have hz : NB zeroD.files := by intro f hf; simp [zeroD] at hf
  unfold syncPR
  split
  · split
    · exact hz
    · rename_i i _
      unfold finD
      split
      · exact hz
      · intro f hf
        simp only [syncF] at hf
        split at hf
        · rename_i g hg
          rcases List.mem_or_eq_of_mem_set hf with hf | rfl
          · exact h f hf
          · exact h g (List.mem_of_getElem? hg)
        · exact h f hf
  · exact hz
theorem nl_ok {d : Disk} (h : checkD d = 0) : NL d.files := by
  have g := good_iff.1 h
  refine ⟨by have := g.len; omega, fun f hf => ?_⟩
  have := g.names f hf
  unfold nameOk at this
  simp at this
  omega
attribute [local irreducible] checkD commitR commitC pruneR
end Go.Abs
set_option maxRecDepth 100000
namespace Go.Abs
open Go Go.Proofs Go.RowKit Go.Proofs.YtmfoegilknpcnaaGreatDoor
theorem shpFile {d : Nat} {zs : List AV} (h : Shp T (d + 2) 66 zs) : ∃ f : File, zs = (encFl f).cells ∧ f.name.length ≤ reachBytes ∧ f.dur.length ≤ reachBytes ∧ f.vol.length ≤ reachBytes := by
  simp only [Shp, T66, T9, ShpI, ShpF, List.map_cons, List.map_nil] at h
  obtain ⟨_, _, rfl, ⟨a, rfl, ha⟩, _, _, rfl, ⟨b, rfl, hb⟩, _, _, rfl, ⟨c, rfl, hc⟩, rfl⟩ := h
  exact ⟨⟨a, b, c⟩, rfl, ha, hb, hc⟩
theorem shpDisk {d : Nat} {zs : List AV} (h : Shp T (d + 4) 24 zs) : ∃ k : Disk, zs = (encD k).cells ∧ DB k := by
  simp only [Shp, T24, ShpI, ShpF, List.map_cons, List.map_nil] at h
  obtain ⟨_, _, rfl, h1, _, _, rfl, h2, rfl⟩ := h
  simp only [T22, ShpI] at h1
  simp only [T3, ShpI] at h2
  obtain ⟨ei, xs, he, rfl, hl, hx⟩ := h1
  obtain ⟨n, rfl, _, _⟩ := h2
  rw [T66] at he
  cases he
  obtain ⟨l, rfl, hq⟩ := list_of (g := encFl) (Q := fun f => f.name.length ≤ reachBytes ∧ f.dur.length ≤ reachBytes ∧ f.vol.length ≤ reachBytes) xs (fun x hxm => by
    obtain ⟨zs, rfl, hz⟩ := hx x hxm
    obtain ⟨f, rfl, hf⟩ := shpFile (d := d) hz
    exact ⟨f, rfl, hf⟩)
  have hr := reach_le
  refine ⟨⟨l, n⟩, rfl, ?_, fun f hf => ?_, fun f hf => ?_, fun f hf => ?_⟩
  · simp only [List.length_map] at hl; simp only; omega
  · have := hq f hf; omega
  · have := hq f hf; omega
  · have := hq f hf; omega
theorem argD {d : Nat} {ts : List Nat} {xs : List AV} (h : ArgsShp T (d + 4) (24 :: ts) xs) : ∃ (k : Disk) (r : List AV), xs = encD k :: r ∧ DB k ∧ ArgsShp T (d + 4) ts r := by
  obtain ⟨i, zs, r, hi, rfl, h1, h⟩ := h
  rw [T24] at hi; cases hi
  obtain ⟨k, rfl, hk⟩ := shpDisk (d := d) h1
  exact ⟨k, r, rfl, hk, h⟩
end Go.Abs
