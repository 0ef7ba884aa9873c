/- Part Kj of the proof: an abstract machine over the model, and what the functions of the program hand back in its terms. No condition. -/
import Derived.Test.YtmfoegilknpcnaaGreatDoorKi
import Derived.Test.YtmfoegilknpcnaaGreatDoorKc
import Derived.Test.YtmfoegilknpcnaaGreatDoorKf
set_option linter.all false
set_option maxRecDepth 100000
namespace Go.Abs
open Go Go.Proofs
set_option linter.unusedSimpArgs false
attribute [local irreducible] numbR decodeR encodeR
def syncAll (d : Disk) : Disk := ⟨d.files.map (fun f => ⟨f.name, f.vol, f.vol⟩), d.space⟩
theorem syncAll_good {d : Disk} (h : Good d) : Good (syncAll d) := by
  have hn : (syncAll d).files.map (·.name) = d.files.map (·.name) := by simp [syncAll]
  have hv : sumV (syncAll d).files = sumV d.files := by simp [sumV, syncAll, Function.comp_def]
  have hd : sumD (syncAll d).files = sumV d.files := by simp [sumV, sumD, syncAll, Function.comp_def]
  refine ⟨h.sp, ?_, sorted_names hn h.sorted, names_ok hn h.names, ?_, ?_⟩
  · simp [syncAll]; exact h.len
  · rw [hv]; exact h.vol
  · rw [hd]; exact h.vol
theorem syncAll_same (d : Disk) : ∀ f ∈ (syncAll d).files, f.dur = f.vol := by
  intro f hf
  obtain ⟨g, _, rfl⟩ := List.mem_map.1 hf
  rfl
/-- A crash of a disk that is synchronized but for a file that is no checkpoint's. -/
theorem crash_load {st : Disk} (g : Good st) (hall : ∀ f ∈ st.files, f.dur = f.vol) {f : File} {n : Int} (hf : f.name = nameW n) (ga : Good ⟨putL st.files f, st.space⟩) (cs : List Int) : (crashR ⟨putL st.files f, st.space⟩ cs).2.2 = 27 ∨ ((crashR ⟨putL st.files f, st.space⟩ cs).2.2 = 0 ∧ Good (crashR ⟨putL st.files f, st.space⟩ cs).1 ∧ loadR (crashR ⟨putL st.files f, st.space⟩ cs).1 = loadR st) := by
  rcases crash_good ga cs with h1 | ⟨h1, h2, _, h4⟩
  · exact .inl h1
  right
  rw [h2]
  refine ⟨h1, h4, load_congr h4 g (fun m u => ?_)⟩
  have hlen : (crashF (putL st.files f) cs).1.length = (putL st.files f).length := by
    have := congrArg List.length (crashF_names (putL st.files f) cs)
    simpa using this
  have hget : ∀ i z, (putL st.files f)[i]? = some z → ∃ cs', (crashF (putL st.files f) cs).1[i]? = some (⟨z.name, (afterR z cs').1, (afterR z cs').1⟩ : File) := fun i z hz => by
    obtain ⟨cs', hc⟩ := crashF_get (putL st.files f) [] cs i z hz
    simp only [List.length_nil, Nat.zero_add] at hc
    exact ⟨cs', hc⟩
  constructor
  · rintro ⟨y, hy, e, hv, q1, q2⟩
    obtain ⟨i, hi⟩ := List.mem_iff_getElem?.1 hy
    have hil : i < (putL st.files f).length := by rw [← hlen]; exact (List.getElem?_eq_some_iff.1 hi).1
    obtain ⟨cs', hc⟩ := hget i _ (List.getElem?_eq_getElem hil)
    simp only at hi
    rw [hi] at hc
    obtain rfl := Option.some.inj hc
    simp only at e q1
    have hz : (putL st.files f)[i] ∈ st.files := by
      rcases mem_putL (List.getElem_mem hil) with h | h
      · exfalso; rw [h, hf] at e; exact nameWC _ _ e
      · exact h
    have hdv := hall _ hz
    rw [(afterR_content _ cs').2 hdv, hdv] at q1
    exact ⟨_, hz, e, hv, q1, q2⟩
  · rintro ⟨z, hz, e, hv, q1, q2⟩
    have hzp : z ∈ putL st.files f := putL_mem hz (by rw [e, hf]; exact fun h => nameWC _ _ h.symm)
    obtain ⟨i, hi⟩ := List.mem_iff_getElem?.1 hzp
    obtain ⟨cs', hc⟩ := hget i z hi
    refine ⟨_, List.mem_of_getElem? hc, e, hv, ?_, q2⟩
    simp only
    rw [(afterR_content z cs').2 (hall z hz), hall z hz]
    exact q1
end Go.Abs
set_option maxRecDepth 100000
namespace Go.Abs
open Go Go.Proofs
set_option linter.unusedSimpArgs false
attribute [local irreducible] numbR decodeR encodeR
theorem le_sum_mem : ∀ (l : List Nat) (x : Nat), x ∈ l → x ≤ l.sum
  | [], x, h => by simp at h
  | a :: l, x, h => by
    rw [List.sum_cons]
    rcases List.mem_cons.1 h with rfl | h
    · omega
    · have := le_sum_mem l x h; omega
theorem good_vl {d : Disk} (h : Good d) (hb : BD d.files) : VL d.files := fun f hf => by
  have hdl := h.len
  have hvb : sumV d.files ≤ 9223372036854775807 := Nat.le_trans (sum_bound d.files _ 140737488355328 256 (by omega) (fun f hf => (hb f hf).2)) (by decide)
  have h1 := h.vol
  have h2 := h.sp
  rw [W, wrap_i64 _ (by omega) (by omega)] at h1
  unfold badSp at h2
  simp at h2
  have h3 : f.vol.length ≤ sumV d.files := by
    unfold sumV
    exact le_sum_mem _ _ (List.mem_map.2 ⟨f, hf, rfl⟩)
  omega
theorem crash_BD {a : Disk} (ba : BD a.files) (cs : List Int) : BD (crashF a.files cs).1 := fun y hy => by
  have hlen : (crashF a.files cs).1.length = a.files.length := by
    have := congrArg List.length (crashF_names a.files cs)
    simpa using this
  obtain ⟨i, hi⟩ := List.mem_iff_getElem?.1 hy
  have hil : i < a.files.length := by rw [← hlen]; exact (List.getElem?_eq_some_iff.1 hi).1
  obtain ⟨cs', hc⟩ := crashF_get a.files [] cs i _ (List.getElem?_eq_getElem hil)
  simp only [List.length_nil, Nat.zero_add] at hc
  have hc' : (crashF a.files cs).1[i]? = some (⟨a.files[i].name, (afterR a.files[i] cs').1, (afterR a.files[i] cs').1⟩ : File) := hc
  rw [hi] at hc'
  obtain rfl := Option.some.inj hc'
  have hz := ba _ (List.getElem_mem hil)
  have : (afterR a.files[i] cs').1.length ≤ 140737488355328 := by
    rcases (afterR_content a.files[i] cs').1 with h | h
    · rw [h]; exact hz.1
    · rw [List.isPrefixOf_iff_prefix] at h
      exact Nat.le_trans h.length_le hz.2
  exact ⟨this, this⟩
/-- Behind a committed checkpoint. -/
theorem survive_load {st c : Disk} (g : Good st) (gc : Good c) {s : Snp} (hs : Has c s.number s) (h : ∀ m u, m ≠ s.number → (Has c m u ↔ Has st m u)) :
    ((loadR st).2 = 0 ∧ s.number < (loadR st).1.number ∧ loadR c = loadR st) ∨ (¬ ((loadR st).2 = 0 ∧ s.number < (loadR st).1.number) ∧ loadR c = (s, 0)) := by
  rcases load_has g with ⟨h1, h2⟩ | ⟨k, old, h1, h2, h3⟩
  · right
    rw [h1]
    refine ⟨fun h => absurd h.1 (by decide), load_eq gc hs (fun m u hh => ?_)⟩
    by_cases hm : m = s.number
    · omega
    · exact absurd ((h m u hm).1 hh) (h2 m u)
  · have hk : old.number = k := by obtain ⟨_, _, _, _, _, e⟩ := h1; exact e
    rw [h2]
    by_cases hlt : s.number < k
    · left
      refine ⟨rfl, by simp only; omega, load_eq gc ((h k old (by omega)).2 h1) (fun m u hh => ?_)⟩
      by_cases hm : m = s.number
      · omega
      · exact h3 m u ((h m u hm).1 hh)
    · right
      refine ⟨fun hh => by simp only at hh; omega, load_eq gc hs (fun m u hh => ?_)⟩
      by_cases hm : m = s.number
      · omega
      · have := h3 m u ((h m u hm).1 hh); omega
theorem survive_spec {st : Disk} (g : Good st) (hall : ∀ f ∈ st.files, f.dur = f.vol) (hb : BD st.files) {s : Snp} (hi : iSnp s) (hel : (encodeR s).1.length ≤ 140737488355328) (e : (writeC st s).2 = 0) :
    ∃ a : Disk, writeC st s = (a, 0) ∧ Good a ∧ BD a.files ∧ (∀ cs, (crashR a cs).2.2 = 27 ∨ ((crashR a cs).2.2 = 0 ∧ Good (crashR a cs).1 ∧ loadR (crashR a cs).1 = loadR st)) ∧
      ((commitC a s.number).2 = 27 ∨ ∃ c : Disk, commitC a s.number = (c, 0) ∧ Good c ∧ BD c.files ∧ (∀ cs, crashR c cs = (c, cs, 0)) ∧
        (((loadR st).2 = 0 ∧ s.number < (loadR st).1.number ∧ loadR c = loadR st) ∨ (¬ ((loadR st).2 = 0 ∧ s.number < (loadR st).1.number) ∧ loadR c = (s, 0)))) := by
  obtain ⟨hv, he, f, k1, k2, k3, k4, k5⟩ := write_spec g e
  have hfm : f ∈ putL st.files f := List.mem_of_getElem? (putL_self st.files f)
  have hba : BD (putL st.files f) := putL_BD hb ⟨by rw [k3]; exact oldR_dur (fun f hf => (hb f hf).1) _, by rw [k2]; exact hel⟩
  refine ⟨_, k4, k5, hba, fun cs => crash_load g hall k1 k5 cs, ?_⟩
  rcases commit_spec (n := s.number) k5 hba hv hfm k1 with h1 | ⟨b, hbe, gb, h2, gc⟩
  · exact .inl h1
  right
  have hmem : ∀ z, z ∈ putL (withoutR b (nameW s.number)).files ⟨nameC s.number, f.vol, f.vol⟩ → z = ⟨nameC s.number, f.vol, f.vol⟩ ∨ z ∈ st.files := fun z hz => by
    rcases mem_putL hz with h | h
    · exact .inl h
    obtain ⟨h, hn⟩ := without_mem.1 h
    rw [hbe] at h
    rcases mem_putL h with rfl | h
    · exact absurd k1 hn
    rcases mem_putL h with rfl | h
    · exact absurd k1 hn
    exact .inr h
  have hin : ∀ z ∈ st.files, z.name ≠ nameW s.number → z.name ≠ nameC s.number → z ∈ putL (withoutR b (nameW s.number)).files ⟨nameC s.number, f.vol, f.vol⟩ := fun z hz h1 h2 => by
    refine putL_mem (without_mem.2 ⟨?_, h1⟩) h2
    rw [hbe]
    exact putL_mem (putL_mem hz (by rw [k1]; exact h1)) (by simp only; rw [k1]; exact h1)
  have hself : (⟨nameC s.number, f.vol, f.vol⟩ : File) ∈ putL (withoutR b (nameW s.number)).files ⟨nameC s.number, f.vol, f.vol⟩ := List.mem_of_getElem? (putL_self (withoutR b (nameW s.number)).files ⟨nameC s.number, f.vol, f.vol⟩)
  refine ⟨_, h2, gc, fun z hz => ?_, fun cs => crash_again gc (fun z hz => ?_) cs, survive_load g gc ?_ (fun m u hm => ?_)⟩
  · rcases hmem z hz with rfl | h
    · exact ⟨by rw [k2]; exact hel, by rw [k2]; exact hel⟩
    · exact hb z h
  · rcases hmem z hz with rfl | h
    · rfl
    · exact hall z h
  · refine ⟨_, hself, rfl, hv, ?_, rfl⟩
    simp only
    rw [k2]
    exact decode_encode he hi
  · constructor
    · rintro ⟨z, hz, e1, hvm, q1, q2⟩
      rcases hmem z hz with rfl | h
      · exact absurd (nameC_inj hv hvm e1).symm hm
      · exact ⟨z, h, e1, hvm, q1, q2⟩
    · rintro ⟨z, hz, e1, hvm, q1, q2⟩
      exact ⟨z, hin z hz (by rw [e1]; exact fun h => nameWC _ _ h.symm) (by rw [e1]; exact fun h => hm (nameC_inj hvm hv h)), e1, hvm, q1, q2⟩
end Go.Abs
set_option maxRecDepth 100000
namespace Go.Abs
open Go Go.Proofs
set_option linter.unusedSimpArgs false
def syncT (fs : List File) (j : Nat) : List File := (fs.take j).map (fun f => ⟨f.name, f.vol, f.vol⟩) ++ fs.drop j
theorem syncT_len (fs : List File) (j : Nat) : (syncT fs j).length = fs.length := by simp [syncT]; omega
theorem syncT_get (fs : List File) (j : Nat) (h : j < fs.length) : (syncT fs j)[j]? = some fs[j] := by
  unfold syncT
  rw [List.getElem?_append_right (by simp; omega), List.getElem?_drop]
  have : j + (j - (List.map (fun f : File => (⟨f.name, f.vol, f.vol⟩ : File)) (List.take j fs)).length) = j := by simp; omega
  rw [this, List.getElem?_eq_getElem h]
theorem syncT_succ (fs : List File) (j : Nat) (h : j < fs.length) : (syncT fs j).set j ⟨fs[j].name, fs[j].vol, fs[j].vol⟩ = syncT fs (j + 1) := by
  have hl : ((fs.take j).map (fun f : File => (⟨f.name, f.vol, f.vol⟩ : File))).length = j := by simp; omega
  unfold syncT
  rw [List.drop_eq_getElem_cons h, List.take_succ_eq_append_getElem h, List.map_append]
  rw [List.set_append_right _ _ (by omega), hl, Nat.sub_self, List.set_cons_zero, List.append_assoc]
  rfl
theorem pc_synced (d : Disk) (hb : d.files.length ≤ 1000) : PC Tryz.prog 35 [encD d] (fun r => r = encD (syncAll d)) := by
  refine PC_body tOk Tryz.func35 rfl Tryz.results35 rfl (by simp [Tryz.ntmps35]) ?_
  rw [Tryz.ntmps35]
  simp only [argSlots]
  simp only [encD]
  repeat first|((first|refine qa tOk rfl ?_|refine qb tOk rfl ?_|refine qc ?_|refine qd ?_|refine qe ?_);simp)|refine AWP_block ?_|refine AWP_seq ?_
  refine AWP_drawC tOk mixed [7] (.val 0 (.val 1 (.val 2 (.val 3 (.two 4 (.val 5 (.one 6 (.one 7 (.done)))) 6 (.one 4 (.val 5 (.one 7 (.done))))))))) (⟨[(1, .vptr 0 0), (2, .vptr 1 0), (3, .vptr 2 0)], [.vars [.list (d.files.map encFl), .i d.space], .vars [.nils, .i 0], .vars [.sl 3 3 0 d.files.length, .i d.space], .arr 66 3 (d.files.map encFl)]⟩) rfl (by kernel_rfl) ?_ ?_
  simp
  · refine ⟨?_, ?_⟩
    · refine AStep_FR rfl rfl (by simp) (fr55 d.files (by omega)) rfl ?_
      rintro _ rfl
      simp
      exact RenTo_ren [0, 1, 3, 2] (by simp) (by decide) (by simp) rfl (by simp) (by simp) (by simp)
    · refine AStep_FR rfl rfl (by simp) (fr55 d.files (by omega)) rfl ?_
      rintro _ rfl
      simp
      exact RenTo_keep (by simp)
  refine AWP_seq ?_
  repeat first|((first|refine qa tOk rfl ?_|refine qb tOk rfl ?_|refine qc ?_|refine qd ?_|refine qe ?_);simp)|refine AWP_block ?_|refine AWP_seq ?_
  refine AWP_count d.files.length (fun j => [(2, .vptr 1 0), (3, .vptr 2 0), (13, .sl 3 3 0 d.files.length), (14, .i d.files.length), (15, .i j)]) (fun j => [.vars [.list (d.files.map encFl), .i d.space], .vars [.nils, .i 0], .vars [.sl 3 3 0 d.files.length, .i d.space], .arr 66 3 ((syncT d.files j).map encFl)]) rfl (by simp) (by simp [syncT]) (by simp) (by simp) ?_
  intro j hj ih
  repeat first|((first|refine qa tOk rfl ?_|refine qb tOk rfl ?_|refine qc ?_|refine qd ?_|refine qe ?_);simp)|refine AWP_block ?_|refine AWP_seq ?_
  refine AWP_cond2 rfl (fun hlt => ?_) (fun hge => ?_)
  · have hlt' : j < d.files.length := by simpa using hlt
    have hg := syncT_get d.files j hlt'
    have hl := syncT_len d.files j
    have hsu := syncT_succ d.files j hlt'
    have hih := ih hlt'
    obtain ⟨z, hz⟩ : ∃ z, d.files[j] = z := ⟨_, rfl⟩
    rw [hz] at hg hsu
    generalize syncT d.files j = N at hg hl hsu ⊢
    generalize syncT d.files (j + 1) = M at hsu hih
    have hjN : j < N.length := by omega
    have hNz : N[j] = z := (List.getElem?_eq_some_iff.1 hg).2
    repeat first|((first|refine qa tOk rfl ?_|refine qb tOk rfl ?_|refine qc ?_|refine qd ?_|refine qe ?_);simp [hlt', hjN, hNz, hg, hl])|refine AWP_block ?_|refine AWP_seq ?_
    have hmap : (N.map encFl).set j (.agg [.str z.name, .str z.vol, .str z.vol]) = M.map encFl := by rw [← hsu, List.map_set]; rfl
    refine ALoop_end [.vars [.str z.name, .str z.dur, .str z.vol]] hih (by simp [hmap]) (by simp) ?_ (by simp) (by simp)
    simp
    exact wrap_i64 _ (by omega) (by omega)
  · have hge' : j = d.files.length := by simp at hge; omega
    subst hge'
    repeat first|((first|refine qa tOk rfl ?_|refine qb tOk rfl ?_|refine qc ?_|refine qd ?_|refine qe ?_);simp)|refine AWP_block ?_|refine AWP_seq ?_
    have he : syncT d.files d.files.length = (syncAll d).files := by simp [syncT, syncAll]
    rw [he]
    have hl : (syncAll d).files.length = d.files.length := by simp [syncAll]
    rw [if_pos (by omega), List.take_of_length_le (by simp; omega)]
    rfl
end Go.Abs
set_option maxRecDepth 100000
namespace Go.Abs
open Go Go.Proofs
set_option linter.unusedSimpArgs false
attribute [local irreducible] numbR nameR checkD writeC commitC fewS few nameC nameW encodeR loadR crashR syncAll zeroS
set_option maxHeartbeats 4000000 in
theorem law_Survives (d : Disk) (s : Snp) (cs : List Int) (hd : DB d) (hs : rSnp s) : PC Tryz.prog 9 [encD d, avSnp s, .list (cs.map encI)] (fun r => r = .bool true) := by
  refine PC_body tOk Tryz.func9 rfl Tryz.results9 rfl (by simp [Tryz.ntmps9]) ?_
  rw [Tryz.ntmps9]
  simp only [argSlots]
  have pS := pc_fewS s
  have pBB := pc_Same s
  have pOO := pc_Same (loadR (syncAll d)).1
  simp only [encD, avSnp] at pS pBB pOO ⊢
  repeat first|((first|refine qa tOk rfl ?_|refine qb tOk rfl ?_|refine qc ?_|refine qd ?_|refine qe ?_);simp)|refine AWP_block ?_|refine AWP_seq ?_
  refine AStep_PC rfl rfl (by simp) (dpc11 d) rfl ?_
  rintro _ rfl
  simp
  cases hB : few d with
  | false =>
    try simp
    refine AStep_skip rfl rfl ?_
    simp
    refine AStep_skip rfl rfl ?_
    simp
    refine AWP_cond2 rfl (fun h => ?_) (fun h => by simp at h)
    repeat first|((first|refine qa tOk rfl ?_|refine qb tOk rfl ?_|refine qc ?_|refine qd ?_|refine qe ?_);simp)|refine AWP_block ?_|refine AWP_seq ?_
    refine AStep_PC rfl rfl (by simp) (pc_awake50) rfl ?_
    rintro _ rfl
    simp
    repeat (first|((first|refine qa tOk rfl ?_|refine qb tOk rfl ?_|refine qc ?_|refine qd ?_|refine qe ?_);simp)|refine AWP_block ?_|refine AWP_seq ?_)
  | true =>
  try simp
  refine AStep_PC rfl rfl (by simp) (pS) rfl ?_
  rintro _ rfl
  simp
  cases hS : fewS s with
  | false =>
    try simp
    refine AStep_skip rfl rfl ?_
    simp
    refine AWP_cond2 rfl (fun h => ?_) (fun h => by simp at h)
    repeat first|((first|refine qa tOk rfl ?_|refine qb tOk rfl ?_|refine qc ?_|refine qd ?_|refine qe ?_);simp)|refine AWP_block ?_|refine AWP_seq ?_
    refine AStep_PC rfl rfl (by simp) (pc_awake50) rfl ?_
    rintro _ rfl
    simp
    repeat (first|((first|refine qa tOk rfl ?_|refine qb tOk rfl ?_|refine qc ?_|refine qd ?_|refine qe ?_);simp)|refine AWP_block ?_|refine AWP_seq ?_)
  | true =>
  try simp
  by_cases hcs : cs.length ≤ 50
  rotate_left
  · have hci : decide ((50 : Int) < (cs.length : Int)) = true := by simp; omega
    try simp only [hci]
    refine AStep_skip rfl rfl ?_
    simp
    refine AWP_cond2 rfl (fun h => ?_) (fun h => by simp at h)
    repeat first|((first|refine qa tOk rfl ?_|refine qb tOk rfl ?_|refine qc ?_|refine qd ?_|refine qe ?_);simp)|refine AWP_block ?_|refine AWP_seq ?_
    refine AStep_PC rfl rfl (by simp) (pc_awake50) rfl ?_
    rintro _ rfl
    simp
    repeat first|((first|refine qa tOk rfl ?_|refine qb tOk rfl ?_|refine qc ?_|refine qd ?_|refine qe ?_);simp)|refine AWP_block ?_|refine AWP_seq ?_
  have hci : decide ((50 : Int) < (cs.length : Int)) = false := by simp; omega
  try simp only [hci]
  refine AStep_PC rfl rfl (by simp) (dpc25 d) rfl ?_
  rintro _ rfl
  simp
  by_cases hc : checkD d = 0
  rotate_left
  · refine AWP_cond2 rfl (fun h => ?_) (fun h => by simp [hc] at h)
    repeat first|((first|refine qa tOk rfl ?_|refine qb tOk rfl ?_|refine qc ?_|refine qd ?_|refine qe ?_);simp)|refine AWP_block ?_|refine AWP_seq ?_
    refine AStep_PC rfl rfl (by simp) (pc_awake50) rfl ?_
    rintro _ rfl
    simp
    repeat first|((first|refine qa tOk rfl ?_|refine qb tOk rfl ?_|refine qc ?_|refine qd ?_|refine qe ?_);simp)|refine AWP_block ?_|refine AWP_seq ?_
  refine AWP_cond2 rfl (fun h => by simp [hc, hci] at h) (fun _ => ?_)
  have hg := good_iff.1 hc
  obtain ⟨hj, hl⟩ := few_j hS hs
  have g := syncAll_good hg
  have hall := syncAll_same d
  have bst : BD (syncAll d).files := fun f hf => by
    unfold syncAll at hf
    obtain ⟨z, hz, rfl⟩ := List.mem_map.1 hf
    exact ⟨hd.vol z hz, hd.vol z hz⟩
  have l1 := encodeR_le s
  have p1 := pc_synced d (by have := hg.len; omega)
  have p2 := pc_cLoad (syncAll d) (fun h => nl_ok h) (fun _ => good_vl g bst)
  have p3 := pc_cWrite (syncAll d) s hj (by omega)
  by_cases hok : (writeC (syncAll d) s).2 = 0
  rotate_left
  · simp only [encD, avSnp] at p1 p2 p3
    repeat first|((first|refine qa tOk rfl ?_|refine qb tOk rfl ?_|refine qc ?_|refine qd ?_|refine qe ?_);simp)|refine AWP_block ?_|refine AWP_seq ?_
    refine AStep_PC rfl rfl (by simp) (p1) rfl ?_
    rintro _ rfl
    simp
    repeat first|((first|refine qa tOk rfl ?_|refine qb tOk rfl ?_|refine qc ?_|refine qd ?_|refine qe ?_);simp)|refine AWP_block ?_|refine AWP_seq ?_
    refine AStep_PC rfl rfl (by simp) (p2) rfl ?_
    rintro _ rfl
    simp
    repeat first|((first|refine qa tOk rfl ?_|refine qb tOk rfl ?_|refine qc ?_|refine qd ?_|refine qe ?_);simp)|refine AWP_block ?_|refine AWP_seq ?_
    refine AStep_PC rfl rfl (by simp) (p3) rfl ?_
    rintro _ rfl
    simp
    repeat first|((first|refine qa tOk rfl ?_|refine qb tOk rfl ?_|refine qc ?_|refine qd ?_|refine qe ?_);simp)|refine AWP_block ?_|refine AWP_seq ?_
    refine AWP_cond2 rfl (fun h => ?_) (fun h => by simp [hok] at h)
    repeat first|((first|refine qa tOk rfl ?_|refine qb tOk rfl ?_|refine qc ?_|refine qd ?_|refine qe ?_);simp)|refine AWP_block ?_|refine AWP_seq ?_
    refine AStep_PC rfl rfl (by simp) (pc_awake50) rfl ?_
    rintro _ rfl
    simp
    repeat first|((first|refine qa tOk rfl ?_|refine qb tOk rfl ?_|refine qc ?_|refine qd ?_|refine qe ?_);simp)|refine AWP_block ?_|refine AWP_seq ?_
  obtain ⟨a, hw, ga, ba, hcr, hcm⟩ := survive_spec g hall bst (iSnp_of hs) (by omega) hok
  have p4 := pc_cCommit a s.number hs.1.1 hs.1.2
  have p5 := dpc18 a (fun f hf => by have := (ba f hf).2; omega) cs (by omega)
  have hcr' := hcr cs
  rw [hw] at p3
  generalize hst : syncAll d = st at *
  simp only [encD, avSnp] at p1 p2 p3 p4 p5
  rcases hcm with hc27 | ⟨c, hce, gc, bc, hcc, hlc⟩
  · rw [hc27] at p4
    rcases hcr' with h27 | ⟨h0, _, _⟩
    · rw [h27] at p5
      repeat first|((first|refine qa tOk rfl ?_|refine qb tOk rfl ?_|refine qc ?_|refine qd ?_|refine qe ?_);simp)|refine AWP_block ?_|refine AWP_seq ?_
      refine AStep_PC rfl rfl (by simp) (p1) rfl ?_
      rintro _ rfl
      simp
      repeat first|((first|refine qa tOk rfl ?_|refine qb tOk rfl ?_|refine qc ?_|refine qd ?_|refine qe ?_);simp)|refine AWP_block ?_|refine AWP_seq ?_
      refine AStep_PC rfl rfl (by simp) (p2) rfl ?_
      rintro _ rfl
      simp
      repeat first|((first|refine qa tOk rfl ?_|refine qb tOk rfl ?_|refine qc ?_|refine qd ?_|refine qe ?_);simp)|refine AWP_block ?_|refine AWP_seq ?_
      refine AStep_PC rfl rfl (by simp) (p3) rfl ?_
      rintro _ rfl
      simp
      repeat first|((first|refine qa tOk rfl ?_|refine qb tOk rfl ?_|refine qc ?_|refine qd ?_|refine qe ?_);simp)|refine AWP_block ?_|refine AWP_seq ?_
      refine AWP_cond2 rfl (fun h => by simp at h) (fun _ => ?_)
      repeat first|((first|refine qa tOk rfl ?_|refine qb tOk rfl ?_|refine qc ?_|refine qd ?_|refine qe ?_);simp)|refine AWP_block ?_|refine AWP_seq ?_
      refine AStep_PC rfl rfl (by simp) (p4) rfl ?_
      rintro _ rfl
      simp
      repeat first|((first|refine qa tOk rfl ?_|refine qb tOk rfl ?_|refine qc ?_|refine qd ?_|refine qe ?_);simp)|refine AWP_block ?_|refine AWP_seq ?_
      refine AStep_PC rfl rfl (by simp) (p5) rfl ?_
      rintro _ rfl
      simp
      repeat first|((first|refine qa tOk rfl ?_|refine qb tOk rfl ?_|refine qc ?_|refine qd ?_|refine qe ?_);simp)|refine AWP_block ?_|refine AWP_seq ?_
      refine AWP_cond2 rfl (fun _ => ?_) (fun h => by simp at h)
      repeat first|((first|refine qa tOk rfl ?_|refine qb tOk rfl ?_|refine qc ?_|refine qd ?_|refine qe ?_);simp)|refine AWP_block ?_|refine AWP_seq ?_
      refine AStep_PC rfl rfl (by simp) (pc_awake50) rfl ?_
      rintro _ rfl
      simp
      repeat first|((first|refine qa tOk rfl ?_|refine qb tOk rfl ?_|refine qc ?_|refine qd ?_|refine qe ?_);simp)|refine AWP_block ?_|refine AWP_seq ?_
    · rw [h0] at p5
      repeat first|((first|refine qa tOk rfl ?_|refine qb tOk rfl ?_|refine qc ?_|refine qd ?_|refine qe ?_);simp)|refine AWP_block ?_|refine AWP_seq ?_
      refine AStep_PC rfl rfl (by simp) (p1) rfl ?_
      rintro _ rfl
      simp
      repeat first|((first|refine qa tOk rfl ?_|refine qb tOk rfl ?_|refine qc ?_|refine qd ?_|refine qe ?_);simp)|refine AWP_block ?_|refine AWP_seq ?_
      refine AStep_PC rfl rfl (by simp) (p2) rfl ?_
      rintro _ rfl
      simp
      repeat first|((first|refine qa tOk rfl ?_|refine qb tOk rfl ?_|refine qc ?_|refine qd ?_|refine qe ?_);simp)|refine AWP_block ?_|refine AWP_seq ?_
      refine AStep_PC rfl rfl (by simp) (p3) rfl ?_
      rintro _ rfl
      simp
      repeat first|((first|refine qa tOk rfl ?_|refine qb tOk rfl ?_|refine qc ?_|refine qd ?_|refine qe ?_);simp)|refine AWP_block ?_|refine AWP_seq ?_
      refine AWP_cond2 rfl (fun h => by simp at h) (fun _ => ?_)
      repeat first|((first|refine qa tOk rfl ?_|refine qb tOk rfl ?_|refine qc ?_|refine qd ?_|refine qe ?_);simp)|refine AWP_block ?_|refine AWP_seq ?_
      refine AStep_PC rfl rfl (by simp) (p4) rfl ?_
      rintro _ rfl
      simp
      repeat first|((first|refine qa tOk rfl ?_|refine qb tOk rfl ?_|refine qc ?_|refine qd ?_|refine qe ?_);simp)|refine AWP_block ?_|refine AWP_seq ?_
      refine AStep_PC rfl rfl (by simp) (p5) rfl ?_
      rintro _ rfl
      simp
      repeat first|((first|refine qa tOk rfl ?_|refine qb tOk rfl ?_|refine qc ?_|refine qd ?_|refine qe ?_);simp)|refine AWP_block ?_|refine AWP_seq ?_
      refine AWP_cond2 rfl (fun _ => ?_) (fun h => by simp at h)
      repeat first|((first|refine qa tOk rfl ?_|refine qb tOk rfl ?_|refine qc ?_|refine qd ?_|refine qe ?_);simp)|refine AWP_block ?_|refine AWP_seq ?_
      refine AStep_PC rfl rfl (by simp) (pc_awake50) rfl ?_
      rintro _ rfl
      simp
      repeat first|((first|refine qa tOk rfl ?_|refine qb tOk rfl ?_|refine qc ?_|refine qd ?_|refine qe ?_);simp)|refine AWP_block ?_|refine AWP_seq ?_
  rw [hce] at p4
  rcases hcr' with h27 | ⟨h0, gx, hlx⟩
  · rw [h27] at p5
    repeat first|((first|refine qa tOk rfl ?_|refine qb tOk rfl ?_|refine qc ?_|refine qd ?_|refine qe ?_);simp)|refine AWP_block ?_|refine AWP_seq ?_
    refine AStep_PC rfl rfl (by simp) (p1) rfl ?_
    rintro _ rfl
    simp
    repeat first|((first|refine qa tOk rfl ?_|refine qb tOk rfl ?_|refine qc ?_|refine qd ?_|refine qe ?_);simp)|refine AWP_block ?_|refine AWP_seq ?_
    refine AStep_PC rfl rfl (by simp) (p2) rfl ?_
    rintro _ rfl
    simp
    repeat first|((first|refine qa tOk rfl ?_|refine qb tOk rfl ?_|refine qc ?_|refine qd ?_|refine qe ?_);simp)|refine AWP_block ?_|refine AWP_seq ?_
    refine AStep_PC rfl rfl (by simp) (p3) rfl ?_
    rintro _ rfl
    simp
    repeat first|((first|refine qa tOk rfl ?_|refine qb tOk rfl ?_|refine qc ?_|refine qd ?_|refine qe ?_);simp)|refine AWP_block ?_|refine AWP_seq ?_
    refine AWP_cond2 rfl (fun h => by simp at h) (fun _ => ?_)
    repeat first|((first|refine qa tOk rfl ?_|refine qb tOk rfl ?_|refine qc ?_|refine qd ?_|refine qe ?_);simp)|refine AWP_block ?_|refine AWP_seq ?_
    refine AStep_PC rfl rfl (by simp) (p4) rfl ?_
    rintro _ rfl
    simp
    repeat first|((first|refine qa tOk rfl ?_|refine qb tOk rfl ?_|refine qc ?_|refine qd ?_|refine qe ?_);simp)|refine AWP_block ?_|refine AWP_seq ?_
    refine AStep_PC rfl rfl (by simp) (p5) rfl ?_
    rintro _ rfl
    simp
    repeat first|((first|refine qa tOk rfl ?_|refine qb tOk rfl ?_|refine qc ?_|refine qd ?_|refine qe ?_);simp)|refine AWP_block ?_|refine AWP_seq ?_
    refine AWP_cond2 rfl (fun _ => ?_) (fun h => by simp at h)
    repeat first|((first|refine qa tOk rfl ?_|refine qb tOk rfl ?_|refine qc ?_|refine qd ?_|refine qe ?_);simp)|refine AWP_block ?_|refine AWP_seq ?_
    refine AStep_PC rfl rfl (by simp) (pc_awake50) rfl ?_
    rintro _ rfl
    simp
    repeat first|((first|refine qa tOk rfl ?_|refine qb tOk rfl ?_|refine qc ?_|refine qd ?_|refine qe ?_);simp)|refine AWP_block ?_|refine AWP_seq ?_
  rw [h0] at p5
  have hxe : (crashR a cs).1 = ⟨(crashF a.files cs).1, a.space⟩ := by
    rcases crash_good ga cs with h | ⟨_, h, _⟩
    · rw [h0] at h; cases h
    · exact h
  have p6 := pc_cLoad (crashR a cs).1 (fun h => nl_ok h) (fun _ => good_vl gx (by rw [hxe]; exact crash_BD ba cs))
  have p7 := dpc18 c (fun f hf => by have := (bc f hf).2; omega) cs (by omega)
  have p8 := pc_cLoad c (fun h => nl_ok h) (fun _ => good_vl gc bc)
  rw [hlx] at p6
  rw [hcc cs] at p7
  simp only [encD, avSnp] at p4 p6 p7 p8
  rcases hlc with ⟨e0, elt, ec⟩ | ⟨en, ec⟩
  · rw [ec] at p8
    repeat first|((first|refine qa tOk rfl ?_|refine qb tOk rfl ?_|refine qc ?_|refine qd ?_|refine qe ?_);simp)|refine AWP_block ?_|refine AWP_seq ?_
    refine AStep_PC rfl rfl (by simp) (p1) rfl ?_
    rintro _ rfl
    simp
    repeat first|((first|refine qa tOk rfl ?_|refine qb tOk rfl ?_|refine qc ?_|refine qd ?_|refine qe ?_);simp)|refine AWP_block ?_|refine AWP_seq ?_
    refine AStep_PC rfl rfl (by simp) (p2) rfl ?_
    rintro _ rfl
    simp
    repeat first|((first|refine qa tOk rfl ?_|refine qb tOk rfl ?_|refine qc ?_|refine qd ?_|refine qe ?_);simp)|refine AWP_block ?_|refine AWP_seq ?_
    refine AStep_PC rfl rfl (by simp) (p3) rfl ?_
    rintro _ rfl
    simp
    repeat first|((first|refine qa tOk rfl ?_|refine qb tOk rfl ?_|refine qc ?_|refine qd ?_|refine qe ?_);simp)|refine AWP_block ?_|refine AWP_seq ?_
    refine AWP_cond2 rfl (fun h => by simp at h) (fun _ => ?_)
    repeat first|((first|refine qa tOk rfl ?_|refine qb tOk rfl ?_|refine qc ?_|refine qd ?_|refine qe ?_);simp)|refine AWP_block ?_|refine AWP_seq ?_
    refine AStep_PC rfl rfl (by simp) (p4) rfl ?_
    rintro _ rfl
    simp
    repeat first|((first|refine qa tOk rfl ?_|refine qb tOk rfl ?_|refine qc ?_|refine qd ?_|refine qe ?_);simp)|refine AWP_block ?_|refine AWP_seq ?_
    refine AStep_PC rfl rfl (by simp) (p5) rfl ?_
    rintro _ rfl
    simp
    repeat first|((first|refine qa tOk rfl ?_|refine qb tOk rfl ?_|refine qc ?_|refine qd ?_|refine qe ?_);simp)|refine AWP_block ?_|refine AWP_seq ?_
    refine AWP_cond2 rfl (fun h => by simp at h) (fun _ => ?_)
    repeat first|((first|refine qa tOk rfl ?_|refine qb tOk rfl ?_|refine qc ?_|refine qd ?_|refine qe ?_);simp)|refine AWP_block ?_|refine AWP_seq ?_
    refine AStep_PC rfl rfl (by simp) (p6) rfl ?_
    rintro _ rfl
    simp
    repeat first|((first|refine qa tOk rfl ?_|refine qb tOk rfl ?_|refine qc ?_|refine qd ?_|refine qe ?_);simp)|refine AWP_block ?_|refine AWP_seq ?_
    refine AStep_PC rfl rfl (by simp) (pOO) rfl ?_
    rintro _ rfl
    simp
    refine AWP_cond2 rfl (fun h => by simp at h) (fun _ => ?_)
    repeat first|((first|refine qa tOk rfl ?_|refine qb tOk rfl ?_|refine qc ?_|refine qd ?_|refine qe ?_);simp)|refine AWP_block ?_|refine AWP_seq ?_
    refine AStep_PC rfl rfl (by simp) (p7) rfl ?_
    rintro _ rfl
    simp
    repeat first|((first|refine qa tOk rfl ?_|refine qb tOk rfl ?_|refine qc ?_|refine qd ?_|refine qe ?_);simp)|refine AWP_block ?_|refine AWP_seq ?_
    refine AStep_PC rfl rfl (by simp) (p8) rfl ?_
    rintro _ rfl
    simp
    repeat first|((first|refine qa tOk rfl ?_|refine qb tOk rfl ?_|refine qc ?_|refine qd ?_|refine qe ?_);simp [e0])|refine AWP_block ?_|refine AWP_seq ?_
    refine AWP_cond2 rfl (fun h => by simp at h) (fun _ => ?_)
    repeat first|((first|refine qa tOk rfl ?_|refine qb tOk rfl ?_|refine qc ?_|refine qd ?_|refine qe ?_);simp [e0, elt])|refine AWP_block ?_|refine AWP_seq ?_
    refine AWP_cond2 rfl (fun _ => ?_) (fun h => by simp at h)
    repeat first|((first|refine qa tOk rfl ?_|refine qb tOk rfl ?_|refine qc ?_|refine qd ?_|refine qe ?_);simp)|refine AWP_block ?_|refine AWP_seq ?_
    refine AStep_PC rfl rfl (by simp) (pOO) rfl ?_
    rintro _ rfl
    simp
    refine AStep_PC rfl rfl (by simp) (pc_awake50) rfl ?_
    rintro _ rfl
    simp
    repeat first|((first|refine qa tOk rfl ?_|refine qb tOk rfl ?_|refine qc ?_|refine qd ?_|refine qe ?_);simp)|refine AWP_block ?_|refine AWP_seq ?_
  · rw [ec] at p8
    simp only [avSnp] at p8
    repeat first|((first|refine qa tOk rfl ?_|refine qb tOk rfl ?_|refine qc ?_|refine qd ?_|refine qe ?_);simp)|refine AWP_block ?_|refine AWP_seq ?_
    refine AStep_PC rfl rfl (by simp) (p1) rfl ?_
    rintro _ rfl
    simp
    repeat first|((first|refine qa tOk rfl ?_|refine qb tOk rfl ?_|refine qc ?_|refine qd ?_|refine qe ?_);simp)|refine AWP_block ?_|refine AWP_seq ?_
    refine AStep_PC rfl rfl (by simp) (p2) rfl ?_
    rintro _ rfl
    simp
    repeat first|((first|refine qa tOk rfl ?_|refine qb tOk rfl ?_|refine qc ?_|refine qd ?_|refine qe ?_);simp)|refine AWP_block ?_|refine AWP_seq ?_
    refine AStep_PC rfl rfl (by simp) (p3) rfl ?_
    rintro _ rfl
    simp
    repeat first|((first|refine qa tOk rfl ?_|refine qb tOk rfl ?_|refine qc ?_|refine qd ?_|refine qe ?_);simp)|refine AWP_block ?_|refine AWP_seq ?_
    refine AWP_cond2 rfl (fun h => by simp at h) (fun _ => ?_)
    repeat first|((first|refine qa tOk rfl ?_|refine qb tOk rfl ?_|refine qc ?_|refine qd ?_|refine qe ?_);simp)|refine AWP_block ?_|refine AWP_seq ?_
    refine AStep_PC rfl rfl (by simp) (p4) rfl ?_
    rintro _ rfl
    simp
    repeat first|((first|refine qa tOk rfl ?_|refine qb tOk rfl ?_|refine qc ?_|refine qd ?_|refine qe ?_);simp)|refine AWP_block ?_|refine AWP_seq ?_
    refine AStep_PC rfl rfl (by simp) (p5) rfl ?_
    rintro _ rfl
    simp
    repeat first|((first|refine qa tOk rfl ?_|refine qb tOk rfl ?_|refine qc ?_|refine qd ?_|refine qe ?_);simp)|refine AWP_block ?_|refine AWP_seq ?_
    refine AWP_cond2 rfl (fun h => by simp at h) (fun _ => ?_)
    repeat first|((first|refine qa tOk rfl ?_|refine qb tOk rfl ?_|refine qc ?_|refine qd ?_|refine qe ?_);simp)|refine AWP_block ?_|refine AWP_seq ?_
    refine AStep_PC rfl rfl (by simp) (p6) rfl ?_
    rintro _ rfl
    simp
    repeat first|((first|refine qa tOk rfl ?_|refine qb tOk rfl ?_|refine qc ?_|refine qd ?_|refine qe ?_);simp)|refine AWP_block ?_|refine AWP_seq ?_
    refine AStep_PC rfl rfl (by simp) (pOO) rfl ?_
    rintro _ rfl
    simp
    refine AWP_cond2 rfl (fun h => by simp at h) (fun _ => ?_)
    repeat first|((first|refine qa tOk rfl ?_|refine qb tOk rfl ?_|refine qc ?_|refine qd ?_|refine qe ?_);simp)|refine AWP_block ?_|refine AWP_seq ?_
    refine AStep_PC rfl rfl (by simp) (p7) rfl ?_
    rintro _ rfl
    simp
    repeat first|((first|refine qa tOk rfl ?_|refine qb tOk rfl ?_|refine qc ?_|refine qd ?_|refine qe ?_);simp)|refine AWP_block ?_|refine AWP_seq ?_
    refine AStep_PC rfl rfl (by simp) (p8) rfl ?_
    rintro _ rfl
    simp
    repeat first|((first|refine qa tOk rfl ?_|refine qb tOk rfl ?_|refine qc ?_|refine qd ?_|refine qe ?_);simp)|refine AWP_block ?_|refine AWP_seq ?_
    refine AWP_cond2 rfl (fun h => by simp at h) (fun _ => ?_)
    repeat first|((first|refine qa tOk rfl ?_|refine qb tOk rfl ?_|refine qc ?_|refine qd ?_|refine qe ?_);simp)|refine AWP_block ?_|refine AWP_seq ?_
    refine AWP_cond2 rfl (fun h => by exfalso; apply en; simpa using h) (fun _ => ?_)
    repeat first|((first|refine qa tOk rfl ?_|refine qb tOk rfl ?_|refine qc ?_|refine qd ?_|refine qe ?_);simp)|refine AWP_block ?_|refine AWP_seq ?_
    refine AStep_PC rfl rfl (by simp) (pc_awake50) rfl ?_
    rintro _ rfl
    simp
    refine AStep_PC rfl rfl (by simp) (pBB) rfl ?_
    rintro _ rfl
    simp
    repeat first|((first|refine qa tOk rfl ?_|refine qb tOk rfl ?_|refine qc ?_|refine qd ?_|refine qe ?_);simp)|refine AWP_block ?_|refine AWP_seq ?_
end Go.Abs
