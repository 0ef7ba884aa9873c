/- Part Kh of the proof: an abstract machine over the model, and what the functions of the program hand back in its terms. No condition. -/
import Derived.Test.YtmfoegilknpcnaaGreatDoorKg
import Derived.Test.YtmfoegilknpcnaaGreatDoorKc
import Derived.Test.YtmfoegilknpcnaaGreatDoorKe
import Derived.Test.YtmfoegilknpcnaaGreatDoorKf
set_option linter.all false
set_option maxRecDepth 100000
namespace Go.Abs
open Go Go.Proofs

def newF : List UInt8 := [110, 101, 119, 45, 102, 105, 108, 101]
end Go.Abs
set_option maxRecDepth 100000
namespace Go.Abs
open Go Go.Proofs
set_option linter.unusedSimpArgs false
theorem allT_false {α : Type} {l : List α} {p : α → Bool} {m j : Nat} (hj : j < l.length) (hm : j < m) (h : p l[j] = false) : (l.take m).all p = false := by
  rw [List.all_eq_false]
  refine ⟨l[j], ?_, by simp [h]⟩
  rw [List.mem_iff_getElem]
  exact ⟨j, by simp; omega, by simp⟩
theorem allT_end {α : Type} {l : List α} {p : α → Bool} {m j : Nat} (hj : j = min l.length m) (h : (l.take j).all p = true) : (l.take m).all p = true := by
  subst hj
  rw [← h]
  congr 1
  rw [List.take_eq_take_iff]; omega
def fewVs (l : List Val) : Bool := (l.take 40).all (fun v => decide (v.text.length ≤ 128)) && decide (l.length < 40)
def fewEs (l : List Ev) : Bool := (l.take 20).all (fun e => decide (e.values.length ≤ 12) && fewVs e.values) && decide (l.length ≤ 12)
def fewC (c : Cfg) : Bool := decide (c.binds.length ≤ 12) && decide (c.starts.length ≤ 12)
def fewEng (x : Eng) : Bool := (x.runs.take 12).all fewC && (decide (x.runs.length ≤ 12) && fewEs x.waiting && fewEs x.held)
def fewK (k : Kyd) : Bool := decide (k.key.text.length ≤ 200) && fewEng k.eng
def fewO (o : Opr) : Bool := decide (o.marks.length ≤ 12) && decide (o.engines.length ≤ 4) && o.engines.all fewK
def fewRd (r : Rdr) : Bool := decide (r.trk.beyond.length ≤ 12) && decide (r.trk.points.length ≤ 12)
def fewS (s : Snp) : Bool := (s.readers.take 6).all fewRd && (s.operators.take 6).all fewO && (decide (s.readers.length ≤ 5) && decide (s.operators.length ≤ 5))
theorem pc_fewVs (l : List Val) : PC Tryz.prog 129 [.list (l.map encV)] (fun r => r = .bool (fewVs l)) := by
  refine PC_body tOk Tryz.func129 rfl Tryz.results129 rfl (by simp [Tryz.ntmps129]) ?_
  rw [Tryz.ntmps129]
  simp only [argSlots]
  refine AWP_len 0 rfl (fun hlen => ?_)
  rw [List.length_map] at hlen
  obtain ⟨R, hR⟩ : ∃ R, fewVs l = R := ⟨_, rfl⟩
  rw [hR]
  rw [fewVs] at hR
  repeat first|((first|refine qa tOk rfl ?_|refine qb tOk rfl ?_|refine qc ?_|refine qd ?_|refine qe ?_);simp)|refine AWP_block ?_|refine AWP_seq ?_
  refine AWP_countI (min l.length 40) (fun j => (l.take j).all (fun v => decide (v.text.length ≤ 128)) = true) (fun j => [(0, .list (l.map encV)), (3, .i j)]) (fun _ => []) rfl (by simp) (by simp) (by simp) (by simp) (by simp) ?_
  intro j hj hI ih
  repeat first|((first|refine qa tOk rfl ?_|refine qb tOk rfl ?_|refine qc ?_|refine qd ?_|refine qe ?_);simp)|refine AWP_block ?_|refine AWP_seq ?_
  refine AWP_cond2 rfl (fun hlt => ?_) (fun hge => ?_)
  · have hlt' : j < l.length ∧ j < 40 := by simp at hlt; omega
    obtain ⟨h1, h2⟩ := hlt'
    repeat first|((first|refine qa tOk rfl ?_|refine qb tOk rfl ?_|refine qc ?_|refine qd ?_|refine qe ?_);simp [h1])|refine AWP_block ?_|refine AWP_seq ?_
    refine AWP_cond2 rfl (fun h => ?_) (fun h => ?_)
    · repeat first|((first|refine qa tOk rfl ?_|refine qb tOk rfl ?_|refine qc ?_|refine qd ?_|refine qe ?_);simp)|refine AWP_block ?_|refine AWP_seq ?_
      rw [← hR, allT_false h1 h2 (by simp at h ⊢; omega)]; rfl
    · repeat first|((first|refine qa tOk rfl ?_|refine qb tOk rfl ?_|refine qc ?_|refine qd ?_|refine qe ?_);simp)|refine AWP_block ?_|refine AWP_seq ?_
      refine ALoop_end _ (ih (by omega) (by rw [all_take_succ l _ j h1, hI]; simp at h ⊢; omega)) rfl (by simp) ?_ (by simp) (by simp)
      simp
      exact wrap_i64 _ (by omega) (by omega)
  · have hge' : j = min l.length 40 := by simp at hge; omega
    repeat first|((first|refine qa tOk rfl ?_|refine qb tOk rfl ?_|refine qc ?_|refine qd ?_|refine qe ?_);simp)|refine AWP_block ?_|refine AWP_seq ?_
    rw [← hR, allT_end hge' hI]
    simp
    omega
attribute [local irreducible] fewVs
set_option maxHeartbeats 1000000 in
theorem pc_fewEs (l : List Ev) : PC Tryz.prog 87 [.list (l.map encE)] (fun r => r = .bool (fewEs l)) := by
  refine PC_body tOk Tryz.func87 rfl Tryz.results87 rfl (by simp [Tryz.ntmps87]) ?_
  rw [Tryz.ntmps87]
  simp only [argSlots]
  refine AWP_len 0 rfl (fun hlen => ?_)
  rw [List.length_map] at hlen
  obtain ⟨R, hR⟩ : ∃ R, fewEs l = R := ⟨_, rfl⟩
  rw [hR]
  rw [fewEs] at hR
  repeat first|((first|refine qa tOk rfl ?_|refine qb tOk rfl ?_|refine qc ?_|refine qd ?_|refine qe ?_);simp)|refine AWP_block ?_|refine AWP_seq ?_
  refine AWP_countI (min l.length 20) (fun j => (l.take j).all (fun e => decide (e.values.length ≤ 12) && fewVs e.values) = true) (fun j => [(0, .list (l.map encE)), (3, .i j)]) (fun _ => []) rfl (by simp) (by simp) (by simp) (by simp) (by simp) ?_
  intro j hj hI ih
  repeat first|((first|refine qa tOk rfl ?_|refine qb tOk rfl ?_|refine qc ?_|refine qd ?_|refine qe ?_);simp)|refine AWP_block ?_|refine AWP_seq ?_
  refine AWP_cond2 rfl (fun hlt => ?_) (fun hge => ?_)
  · have hlt' : j < l.length ∧ j < 20 := by simp at hlt; omega
    obtain ⟨h1, h2⟩ := hlt'
    have hs := all_take_succ l (fun e => decide (e.values.length ≤ 12) && fewVs e.values) j h1
    by_cases hb : l[j].values.length ≤ 12
    · have hbi : decide (12 < (l[j].values.length : Int)) = false := by simp; omega
      have hbn : decide (l[j].values.length ≤ 12) = true := by simpa using hb
      repeat first|((first|refine qa tOk rfl ?_|refine qb tOk rfl ?_|refine qc ?_|refine qd ?_|refine qe ?_);simp [h1, hbi])|refine AWP_block ?_|refine AWP_seq ?_
      refine AStep_PC rfl rfl (by simp) (pc_fewVs l[j].values) rfl ?_
      rintro _ rfl
      simp [h1, hbi]
      repeat first|((first|refine qa tOk rfl ?_|refine qb tOk rfl ?_|refine qc ?_|refine qd ?_|refine qe ?_);simp [h1, hbi])|refine AWP_block ?_|refine AWP_seq ?_
      refine AWP_cond2 rfl (fun h => ?_) (fun h => ?_)
      · repeat first|((first|refine qa tOk rfl ?_|refine qb tOk rfl ?_|refine qc ?_|refine qd ?_|refine qe ?_);simp)|refine AWP_block ?_|refine AWP_seq ?_
        rw [← hR, allT_false h1 h2 (by simp [hbn] at h ⊢; exact h)]; rfl
      · repeat first|((first|refine qa tOk rfl ?_|refine qb tOk rfl ?_|refine qc ?_|refine qd ?_|refine qe ?_);simp)|refine AWP_block ?_|refine AWP_seq ?_
        refine ALoop_end _ (ih (by omega) (by rw [hs, hI]; simp [hbn] at h ⊢; exact h)) rfl (by simp) ?_ (by simp) (by simp)
        simp
        exact wrap_i64 _ (by omega) (by omega)
    · have hbi : decide (12 < (l[j].values.length : Int)) = true := by simp; omega
      have hbn : decide (l[j].values.length ≤ 12) = false := by simpa using hb
      repeat first|((first|refine qa tOk rfl ?_|refine qb tOk rfl ?_|refine qc ?_|refine qd ?_|refine qe ?_);simp [h1, hbi])|refine AWP_block ?_|refine AWP_seq ?_
      refine AStep_skip rfl rfl ?_
      simp
      refine AWP_cond2 rfl (fun h => ?_) (fun h => by simp [hbi] at h)
      repeat first|((first|refine qa tOk rfl ?_|refine qb tOk rfl ?_|refine qc ?_|refine qd ?_|refine qe ?_);simp)|refine AWP_block ?_|refine AWP_seq ?_
      rw [← hR, allT_false h1 h2 (by simp [hbn])]; rfl
  · have hge' : j = min l.length 20 := by simp at hge; omega
    repeat first|((first|refine qa tOk rfl ?_|refine qb tOk rfl ?_|refine qc ?_|refine qd ?_|refine qe ?_);simp)|refine AWP_block ?_|refine AWP_seq ?_
    rw [← hR, allT_end hge' hI]
    simp
    omega
attribute [local irreducible] fewEs
set_option maxHeartbeats 1000000 in
theorem pc_fewEng (x : Eng) : PC Tryz.prog 48 [avEng x] (fun r => r = .bool (fewEng x)) := by
  refine PC_body tOk Tryz.func48 rfl Tryz.results48 rfl (by simp [Tryz.ntmps48]) ?_
  rw [Tryz.ntmps48]
  simp only [argSlots]
  obtain ⟨R, hR⟩ : ∃ R, fewEng x = R := ⟨_, rfl⟩
  rw [hR]
  rw [fewEng] at hR
  obtain ⟨mk, ws, rs, hs⟩ := x
  simp only [avEng] at hR ⊢
  refine AWP_lenAgg 0 2 rfl rfl (fun hlen => ?_)
  rw [List.length_map] at hlen
  repeat first|((first|refine qa tOk rfl ?_|refine qb tOk rfl ?_|refine qc ?_|refine qd ?_|refine qe ?_);simp)|refine AWP_block ?_|refine AWP_seq ?_
  refine AWP_countI (min rs.length 12) (fun j => (rs.take j).all fewC = true) (fun j => [(1, .vptr 0 0), (3, .i j)]) (fun _ => [.vars [.i mk, .list (ws.map encE), .list (rs.map avCfg), .list (hs.map encE)]]) rfl (by simp) (by simp) (by simp) (by simp) (by simp) ?_
  intro j hj hI ih
  repeat first|((first|refine qa tOk rfl ?_|refine qb tOk rfl ?_|refine qc ?_|refine qd ?_|refine qe ?_);simp)|refine AWP_block ?_|refine AWP_seq ?_
  refine AWP_cond2 rfl (fun hlt => ?_) (fun hge => ?_)
  · have hlt' : j < rs.length ∧ j < 12 := by simp at hlt; omega
    obtain ⟨h1, h2⟩ := hlt'
    have ht := all_take_succ rs fewC j h1
    repeat first|((first|refine qa tOk rfl ?_|refine qb tOk rfl ?_|refine qc ?_|refine qd ?_|refine qe ?_);simp [h1])|refine AWP_block ?_|refine AWP_seq ?_
    refine AWP_cond2 rfl (fun h => ?_) (fun h => ?_)
    · repeat first|((first|refine qa tOk rfl ?_|refine qb tOk rfl ?_|refine qc ?_|refine qd ?_|refine qe ?_);simp)|refine AWP_block ?_|refine AWP_seq ?_
      rw [← hR, allT_false h1 h2 (by rw [fewC]; simp at h ⊢; omega)]; rfl
    · repeat first|((first|refine qa tOk rfl ?_|refine qb tOk rfl ?_|refine qc ?_|refine qd ?_|refine qe ?_);simp)|refine AWP_block ?_|refine AWP_seq ?_
      refine ALoop_end _ (ih (by omega) (by rw [ht, hI, fewC]; simp at h ⊢; omega)) rfl (by simp) ?_ (by simp) (by simp)
      simp
      exact wrap_i64 _ (by omega) (by omega)
  · have hge' : j = min rs.length 12 := by simp at hge; omega
    rw [allT_end hge' hI] at hR
    by_cases hl : rs.length ≤ 12
    · have hli : decide ((rs.length : Int) ≤ 12) = true := by simp; omega
      have hln : decide (rs.length ≤ 12) = true := by simpa using hl
      repeat first|((first|refine qa tOk rfl ?_|refine qb tOk rfl ?_|refine qc ?_|refine qd ?_|refine qe ?_);simp [hli])|refine AWP_block ?_|refine AWP_seq ?_
      refine AStep_PC rfl rfl (by simp) (pc_fewEs ws) rfl ?_
      rintro _ rfl
      simp [hli]
      rw [hln] at hR
      cases hB : fewEs ws with
      | true =>
        try simp
        refine AStep_PC rfl rfl (by simp) (pc_fewEs hs) rfl ?_
        rintro _ rfl
        simp
        repeat first|((first|refine qa tOk rfl ?_|refine qb tOk rfl ?_|refine qc ?_|refine qd ?_|refine qe ?_);simp)|refine AWP_block ?_|refine AWP_seq ?_
        rw [← hR, hB]; simp
      | false =>
        try simp
        refine AStep_skip rfl rfl ?_
        try simp
        repeat first|((first|refine qa tOk rfl ?_|refine qb tOk rfl ?_|refine qc ?_|refine qd ?_|refine qe ?_);simp)|refine AWP_block ?_|refine AWP_seq ?_
        rw [← hR, hB]; simp
    · have hli : decide ((rs.length : Int) ≤ 12) = false := by simp; omega
      have hln : decide (rs.length ≤ 12) = false := by simpa using hl
      repeat first|((first|refine qa tOk rfl ?_|refine qb tOk rfl ?_|refine qc ?_|refine qd ?_|refine qe ?_);simp [hli])|refine AWP_block ?_|refine AWP_seq ?_
      refine AStep_skip rfl rfl ?_
      try simp
      refine AStep_skip rfl rfl ?_
      simp
      repeat first|((first|refine qa tOk rfl ?_|refine qb tOk rfl ?_|refine qc ?_|refine qd ?_|refine qe ?_);simp)|refine AWP_block ?_|refine AWP_seq ?_
      rw [← hR, hln]; simp
end Go.Abs
set_option maxRecDepth 100000
namespace Go.Abs
open Go Go.Proofs
set_option linter.unusedSimpArgs false
attribute [local irreducible] fewEng
set_option maxHeartbeats 4000000 in
theorem pc_fewS (s : Snp) : PC Tryz.prog 18 [avSnp s] (fun r => r = .bool (fewS s)) := by
  refine PC_body tOk Tryz.func18 rfl Tryz.results18 rfl (by simp [Tryz.ntmps18]) ?_
  rw [Tryz.ntmps18]
  simp only [argSlots]
  obtain ⟨R, hR⟩ : ∃ R, fewS s = R := ⟨_, rfl⟩
  rw [hR]
  rw [fewS] at hR
  obtain ⟨n, rs, os⟩ := s
  simp only [avSnp] at hR ⊢
  refine AWP_lenAgg 0 1 rfl rfl (fun hlen => ?_)
  rw [List.length_map] at hlen
  refine AWP_lenAgg 0 2 rfl rfl (fun hlen2 => ?_)
  rw [List.length_map] at hlen2
  repeat first|((first|refine qa tOk rfl ?_|refine qb tOk rfl ?_|refine qc ?_|refine qd ?_|refine qe ?_);simp)|refine AWP_block ?_|refine AWP_seq ?_
  refine AWP_countI (min rs.length 6) (fun j => (rs.take j).all fewRd = true) (fun j => [(1, .vptr 0 0), (3, .i j)]) (fun _ => [.vars [.i n, .list (rs.map avRdr), .list (os.map avOpr)]]) rfl (by simp) (by simp) (by simp) (by simp) (by simp) ?_
  intro j hj hI ih
  repeat first|((first|refine qa tOk rfl ?_|refine qb tOk rfl ?_|refine qc ?_|refine qd ?_|refine qe ?_);simp)|refine AWP_block ?_|refine AWP_seq ?_
  refine AWP_cond2 rfl (fun hlt => ?_) (fun hge => ?_)
  · have hlt' : j < rs.length ∧ j < 6 := by simp at hlt; omega
    obtain ⟨h1, h2⟩ := hlt'
    have ht := all_take_succ rs fewRd j h1
    repeat first|((first|refine qa tOk rfl ?_|refine qb tOk rfl ?_|refine qc ?_|refine qd ?_|refine qe ?_);simp [h1])|refine AWP_block ?_|refine AWP_seq ?_
    refine AWP_cond2 rfl (fun h => ?_) (fun h => ?_)
    · repeat first|((first|refine qa tOk rfl ?_|refine qb tOk rfl ?_|refine qc ?_|refine qd ?_|refine qe ?_);simp)|refine AWP_block ?_|refine AWP_seq ?_
      rw [← hR, allT_false h1 h2 (by rw [fewRd]; simp at h ⊢; omega)]; rfl
    · repeat first|((first|refine qa tOk rfl ?_|refine qb tOk rfl ?_|refine qc ?_|refine qd ?_|refine qe ?_);simp)|refine AWP_block ?_|refine AWP_seq ?_
      refine ALoop_end _ (ih (by omega) (by rw [ht, hI, fewRd]; simp at h ⊢; omega)) rfl (by simp) ?_ (by simp) (by simp)
      simp
      exact wrap_i64 _ (by omega) (by omega)
  have hge' : j = min rs.length 6 := by simp at hge; omega
  rw [allT_end hge' hI] at hR
  repeat first|((first|refine qa tOk rfl ?_|refine qb tOk rfl ?_|refine qc ?_|refine qd ?_|refine qe ?_);simp)|refine AWP_block ?_|refine AWP_seq ?_
  refine AWP_countI (min os.length 6) (fun j => (os.take j).all fewO = true) (fun j => [(1, .vptr 0 0), (4, .i j)]) (fun _ => [.vars [.i n, .list (rs.map avRdr), .list (os.map avOpr)]]) rfl (by simp) (by simp) (by simp) (by simp) (by simp) ?_
  intro j hj hI ih
  repeat first|((first|refine qa tOk rfl ?_|refine qb tOk rfl ?_|refine qc ?_|refine qd ?_|refine qe ?_);simp)|refine AWP_block ?_|refine AWP_seq ?_
  refine AWP_cond2 rfl (fun hlt => ?_) (fun hge => ?_)
  · have hlt' : j < os.length ∧ j < 6 := by simp at hlt; omega
    obtain ⟨h1, h2⟩ := hlt'
    have ht := all_take_succ os fewO j h1
    repeat first|((first|refine qa tOk rfl ?_|refine qb tOk rfl ?_|refine qc ?_|refine qd ?_|refine qe ?_);simp [h1])|refine AWP_block ?_|refine AWP_seq ?_
    refine AWP_cond2 rfl (fun h => ?_) (fun h => ?_)
    · repeat first|((first|refine qa tOk rfl ?_|refine qb tOk rfl ?_|refine qc ?_|refine qd ?_|refine qe ?_);simp)|refine AWP_block ?_|refine AWP_seq ?_
      rw [← hR, allT_false h1 h2 (by rw [fewO]; simp at h ⊢; omega)]; rfl
    have hm : os[j].marks.length ≤ 12 ∧ os[j].engines.length ≤ 4 := by simp at h; omega
    repeat first|((first|refine qa tOk rfl ?_|refine qb tOk rfl ?_|refine qc ?_|refine qd ?_|refine qe ?_);simp)|refine AWP_block ?_|refine AWP_seq ?_
    refine AWP_countI os[j].engines.length (fun i => (os[j].engines.take i).all fewK = true) (fun i => [(1, .vptr 0 0), (4, .i j), (5, .i i)]) (fun _ => [.vars [.i n, .list (rs.map avRdr), .list (os.map avOpr)]]) rfl (by simp) (by simp) (by simp) (by simp) (by simp) ?_
    intro i hi hIi ihi
    repeat first|((first|refine qa tOk rfl ?_|refine qb tOk rfl ?_|refine qc ?_|refine qd ?_|refine qe ?_);simp [h1])|refine AWP_block ?_|refine AWP_seq ?_
    refine AWP_cond2 rfl (fun hlt => ?_) (fun hge => ?_)
    · have g1 : i < os[j].engines.length := by simpa using hlt
      have hti := all_take_succ os[j].engines fewK i g1
      by_cases hb : os[j].engines[i].key.text.length ≤ 200
      · have hbi : decide (200 < (os[j].engines[i].key.text.length : Int)) = false := by simp; omega
        have hbn : decide (os[j].engines[i].key.text.length ≤ 200) = true := by simpa using hb
        repeat first|((first|refine qa tOk rfl ?_|refine qb tOk rfl ?_|refine qc ?_|refine qd ?_|refine qe ?_);simp [h1, g1, hbi])|refine AWP_block ?_|refine AWP_seq ?_
        refine AStep_PC rfl rfl (by simp) (pc_fewEng os[j].engines[i].eng) rfl ?_
        rintro _ rfl
        simp [h1, g1, hbi]
        repeat first|((first|refine qa tOk rfl ?_|refine qb tOk rfl ?_|refine qc ?_|refine qd ?_|refine qe ?_);simp [h1, g1, hbi])|refine AWP_block ?_|refine AWP_seq ?_
        refine AWP_cond2 rfl (fun h => ?_) (fun h => ?_)
        · repeat first|((first|refine qa tOk rfl ?_|refine qb tOk rfl ?_|refine qc ?_|refine qd ?_|refine qe ?_);simp)|refine AWP_block ?_|refine AWP_seq ?_
          have hk : fewO os[j] = false := by
            rw [fewO, Bool.and_eq_false_iff]
            right
            rw [List.all_eq_false]
            exact ⟨_, List.getElem_mem g1, by simp at h; simp [fewK, h]⟩
          rw [← hR, allT_false h1 h2 hk]; rfl
        · repeat first|((first|refine qa tOk rfl ?_|refine qb tOk rfl ?_|refine qc ?_|refine qd ?_|refine qe ?_);simp)|refine AWP_block ?_|refine AWP_seq ?_
          refine ALoop_end _ (ihi (by omega) (by rw [hti, hIi, fewK]; simp [hbn] at h ⊢; exact h)) rfl (by simp) ?_ (by simp) (by simp)
          simp
          exact wrap_i64 _ (by omega) (by omega)
      · have hbi : decide (200 < (os[j].engines[i].key.text.length : Int)) = true := by simp; omega
        have hbn : decide (os[j].engines[i].key.text.length ≤ 200) = false := by simpa using hb
        repeat first|((first|refine qa tOk rfl ?_|refine qb tOk rfl ?_|refine qc ?_|refine qd ?_|refine qe ?_);simp [h1, g1, hbi])|refine AWP_block ?_|refine AWP_seq ?_
        refine AStep_skip rfl rfl ?_
        simp
        refine AWP_cond2 rfl (fun h => ?_) (fun h => by simp [hbi] at h)
        repeat first|((first|refine qa tOk rfl ?_|refine qb tOk rfl ?_|refine qc ?_|refine qd ?_|refine qe ?_);simp)|refine AWP_block ?_|refine AWP_seq ?_
        have hk : fewO os[j] = false := by
          rw [fewO, Bool.and_eq_false_iff]
          right
          rw [List.all_eq_false]
          exact ⟨_, List.getElem_mem g1, by simp [fewK, hbn]⟩
        rw [← hR, allT_false h1 h2 hk]; rfl
    · have hge' : i = os[j].engines.length := by simp at hge; omega
      subst hge'
      rw [List.take_length] at hIi
      repeat first|((first|refine qa tOk rfl ?_|refine qb tOk rfl ?_|refine qc ?_|refine qd ?_|refine qe ?_);simp)|refine AWP_block ?_|refine AWP_seq ?_
      refine ALoop_end _ (ih (by omega) (by rw [ht, hI, fewO, hIi]; simp; omega)) rfl (by simp) ?_ (by simp) (by simp)
      simp
      exact wrap_i64 _ (by omega) (by omega)
  · have hge' : j = min os.length 6 := by simp at hge; omega
    rw [allT_end hge' hI] at hR
    repeat first|((first|refine qa tOk rfl ?_|refine qb tOk rfl ?_|refine qc ?_|refine qd ?_|refine qe ?_);simp)|refine AWP_block ?_|refine AWP_seq ?_
    rw [← hR]
    simp
    try (rw [Bool.eq_iff_iff]; simp; omega)
end Go.Abs
set_option maxRecDepth 100000
namespace Go.Abs
open Go Go.Proofs
set_option linter.unusedSimpArgs false
def rEv (e : Ev) : Prop := iEv e ∧ ∀ v ∈ e.values, jV v
def rEng (x : Eng) : Prop := i64 x.mark ∧ (∀ e ∈ x.waiting, rEv e) ∧ (∀ c ∈ x.runs, iCfg c) ∧ ∀ e ∈ x.held, rEv e
def rKyd (k : Kyd) : Prop := i64 k.query ∧ jV k.key ∧ rEng k.eng
def rOpr (o : Opr) : Prop := (∀ n ∈ o.marks, i64 n) ∧ ∀ k ∈ o.engines, rKyd k
/-- The integers of a snapshot are of 64 bits. -/
def rSnp (s : Snp) : Prop := i64 s.number ∧ (∀ r ∈ s.readers, iRdr r) ∧ ∀ o ∈ s.operators, rOpr o
theorem allT_all {α : Type} {l : List α} {p : α → Bool} {m : Nat} (h : (l.take m).all p = true) (hl : l.length ≤ m) : ∀ x ∈ l, p x = true := by
  rw [List.take_of_length_le hl, List.all_eq_true] at h
  exact h
theorem flat_len {α : Type} {enc : α → List UInt8} {k : Nat} : ∀ (l : List α), (∀ x ∈ l, (enc x).length ≤ k) → (l.flatMap enc).length ≤ l.length * k
  | [], _ => by simp
  | x :: l, h => by
    have h1 := h x (by simp)
    have h2 := flat_len l (fun y hy => h y (by simp [hy]))
    simp only [List.flatMap_cons, List.length_append, List.length_cons, Nat.add_mul]
    omega
theorem encL_len {α : Type} {enc : α → List UInt8} {l : List α} {m k : Nat} (hl : l.length ≤ m) (h : ∀ x ∈ l, (enc x).length ≤ k) : (encL enc l).length ≤ 10 + m * k := by
  have h1 := flat_len l h
  have h2 := encN_len (l.length : Int)
  have h3 : l.length * k ≤ m * k := Nat.mul_le_mul_right k hl
  rw [encL, List.length_append]
  omega
theorem few_vs {l : List Val} (h : fewVs l = true) : l.length < 40 ∧ ∀ v ∈ l, v.text.length ≤ 128 := by
  rw [fewVs, Bool.and_eq_true, decide_eq_true_eq] at h
  exact ⟨h.2, fun v hv => by simpa using allT_all h.1 (by omega) v hv⟩
theorem encVal_len {v : Val} {m : Nat} (h : v.text.length ≤ m) : (encVal v).length ≤ 20 + m := by
  have h1 := encN_len v.kind
  have h2 := encN_len v.num
  have h3 := encN_len (v.text.length : Int)
  rw [encVal, List.length_append]
  split
  · rw [encT, List.length_append]; omega
  · omega
theorem few_es {l : List Ev} (h : fewEs l = true) : l.length ≤ 12 ∧ ∀ e ∈ l, e.values.length ≤ 12 ∧ (encEv e).length ≤ 2000 := by
  rw [fewEs, Bool.and_eq_true, decide_eq_true_eq] at h
  refine ⟨h.2, fun e he => ?_⟩
  have h1 := allT_all h.1 (by omega) e he
  simp only [Bool.and_eq_true, decide_eq_true_eq] at h1
  have h2 := few_vs h1.2
  have h3 : (encL encVal e.values).length ≤ 10 + 12 * 148 := encL_len h1.1 (fun v hv => encVal_len (h2.2 v hv))
  have a := encN_len e.source
  have b := encN_len e.seq
  have c := encN_len e.type
  have d := encN_len e.time
  refine ⟨h1.1, ?_⟩
  simp only [encEv, List.length_append]
  omega
theorem few_c {c : Cfg} (h : fewC c = true) : c.binds.length ≤ 12 ∧ c.starts.length ≤ 12 ∧ (encCfg c).length ≤ 1000 := by
  rw [fewC, Bool.and_eq_true, decide_eq_true_eq, decide_eq_true_eq] at h
  have h1 : (encL encBnd c.binds).length ≤ 10 + 12 * 40 := encL_len h.1 (fun b _ => by
    have a1 := encN_len b.var
    have a2 := encN_len b.ref.time
    have a3 := encN_len b.ref.source
    have a4 := encN_len b.ref.seq
    simp only [encBnd, List.length_append]; omega)
  have h2 : (encL encStt c.starts).length ≤ 10 + 12 * 20 := encL_len h.2 (fun b _ => by
    have a1 := encN_len b.scope
    have a2 := encN_len b.time
    simp only [encStt, List.length_append]; omega)
  have h3 := encN_len c.state
  refine ⟨h.1, h.2, ?_⟩
  simp only [encCfg, List.length_append]; omega
theorem few_eng {x : Eng} (h : fewEng x = true) (hr : rEng x) : jEng x ∧ (encEng x).length ≤ 70000 := by
  simp only [fewEng, Bool.and_eq_true, decide_eq_true_eq] at h
  obtain ⟨h1, ⟨h2, h3⟩, h4⟩ := h
  have hc := allT_all h1 h2
  have hw := few_es h3
  have hh := few_es h4
  obtain ⟨r1, r2, r3, r4⟩ := hr
  refine ⟨⟨r1, ⟨by omega, fun e he => ⟨(r2 e he).1, by have := (hw.2 e he).1; omega, (r2 e he).2⟩⟩, ⟨by omega, fun c hcm => ⟨r3 c hcm, by have := (few_c (hc c hcm)); omega, by have := (few_c (hc c hcm)); omega⟩⟩, ⟨by omega, fun e he => ⟨(r4 e he).1, by have := (hh.2 e he).1; omega, (r4 e he).2⟩⟩⟩, ?_⟩
  have l1 : (encL encEv x.waiting).length ≤ 10 + 12 * 2000 := encL_len hw.1 (fun e he => (hw.2 e he).2)
  have l2 : (encL encEv x.held).length ≤ 10 + 12 * 2000 := encL_len hh.1 (fun e he => (hh.2 e he).2)
  have l3 : (encL encCfg x.runs).length ≤ 10 + 12 * 1000 := encL_len h2 (fun c hcm => (few_c (hc c hcm)).2.2)
  have l4 := encN_len x.mark
  simp only [encEng, List.length_append]; omega
theorem few_k {k : Kyd} (h : fewK k = true) (hr : rKyd k) : jKyd k ∧ (encKyd k).length ≤ 71000 := by
  simp only [fewK, Bool.and_eq_true, decide_eq_true_eq] at h
  obtain ⟨h1, h2⟩ := few_eng h.2 hr.2.2
  refine ⟨⟨hr.1, hr.2.1, h1⟩, ?_⟩
  have l1 := encN_len k.query
  have l2 := encVal_len h.1
  simp only [encKyd, List.length_append]; omega
theorem few_o {o : Opr} (h : fewO o = true) (hr : rOpr o) : jOpr o ∧ (encOpr o).length ≤ 290000 := by
  simp only [fewO, Bool.and_eq_true, decide_eq_true_eq, List.all_eq_true] at h
  obtain ⟨⟨h1, h2⟩, h3⟩ := h
  refine ⟨⟨⟨by omega, hr.1⟩, by omega, fun k hk => (few_k (h3 k hk) (hr.2 k hk)).1⟩, ?_⟩
  have l1 : (encL encN o.marks).length ≤ 10 + 12 * 10 := encL_len h1 (fun n _ => encN_len n)
  have l2 : (encL encKyd o.engines).length ≤ 10 + 4 * 71000 := encL_len h2 (fun k hk => (few_k (h3 k hk) (hr.2 k hk)).2)
  simp only [encOpr, List.length_append]; omega
theorem few_rd {r : Rdr} (h : fewRd r = true) : r.trk.beyond.length ≤ 12 ∧ r.trk.points.length ≤ 12 ∧ (encRdr r).length ≤ 1000 := by
  rw [fewRd, Bool.and_eq_true, decide_eq_true_eq, decide_eq_true_eq] at h
  refine ⟨h.1, h.2, ?_⟩
  have l1 : (encL encN r.trk.beyond).length ≤ 10 + 12 * 10 := encL_len h.1 (fun n _ => encN_len n)
  have l2 : (encL encPnt r.trk.points).length ≤ 10 + 12 * 20 := encL_len h.2 (fun p _ => by
    have a1 := encN_len p.seq
    have a2 := encN_len p.time
    simp only [encPnt, List.length_append]; omega)
  have a1 := encN_len r.source
  have a2 := encN_len r.offset
  have a3 := encN_len r.trk.next
  have a4 := encN_len r.trk.mark
  simp only [encRdr, encTrk, List.length_append]; omega
/-- What a small snapshot obeys. -/
theorem few_j {s : Snp} (h : fewS s = true) (hr : rSnp s) : jSnp s ∧ (encSnp s).length ≤ 2000000 := by
  simp only [fewS, Bool.and_eq_true, decide_eq_true_eq] at h
  obtain ⟨⟨h1, h2⟩, h3, h4⟩ := h
  have hrd := allT_all h1 (by omega)
  have hop := allT_all h2 (by omega)
  refine ⟨⟨hr.1, ⟨by omega, fun r hrm => ⟨hr.2.1 r hrm, by have := few_rd (hrd r hrm); omega, by have := few_rd (hrd r hrm); omega⟩⟩, by omega, fun o ho => (few_o (hop o ho) (hr.2.2 o ho)).1⟩, ?_⟩
  have l1 : (encL encRdr s.readers).length ≤ 10 + 5 * 1000 := encL_len h3 (fun r hrm => (few_rd (hrd r hrm)).2.2)
  have l2 : (encL encOpr s.operators).length ≤ 10 + 5 * 290000 := encL_len h4 (fun o ho => (few_o (hop o ho) (hr.2.2 o ho)).2)
  have l3 := encN_len s.number
  simp only [encSnp, List.length_append]; omega
end Go.Abs
set_option maxRecDepth 100000
namespace Go.Abs
open Go Go.Proofs
set_option linter.unusedSimpArgs false
def sB : Nat := 140737488355328
def BD (fs : List File) : Prop := ∀ f ∈ fs, f.dur.length ≤ 140737488355328 ∧ f.vol.length ≤ 140737488355328
attribute [local irreducible] encodeR
/-- What writing a checkpoint gives. -/
theorem write_spec {d : Disk} {s : Snp} (h : Good d) (hok : (writeC d s).2 = 0) : validN s.number = 0 ∧ (encodeR s).2 = 0 ∧
    ∃ f : File, f.name = nameW s.number ∧ f.vol = (encodeR s).1 ∧ f.dur = (oldR d (nameW s.number)).dur ∧ writeC d s = (⟨putL d.files f, d.space⟩, 0) ∧ Good ⟨putL d.files f, d.space⟩ := by
  have hc := good_iff.2 h
  have hrun : writeC d s = if (wrS s d).2 ≠ 0 then (zeroD, (wrS s d).2) else ((wrS s d).1, 0) := by
    unfold writeC stepsR
    rw [if_neg (fun h => h hc)]
    rfl
  rw [hrun] at hok ⊢
  by_cases hw : (wrS s d).2 ≠ 0
  · rw [if_pos hw] at hok; exact absurd hok hw
  rw [if_neg hw] at hok ⊢
  have hw0 : (wrS s d).2 = 0 := by simpa using hw
  unfold wrS at hw0 ⊢
  by_cases hv : validN s.number = 0
  · rw [if_neg (fun h => h hv)] at hw0 ⊢
    by_cases he : (encodeR s).2 = 0
    · rw [if_neg (fun h => h he)] at hw0 ⊢
      obtain ⟨_, f, k1, k2, k3, k4, k5⟩ := changed_good h hw0
      exact ⟨hv, he, f, k1, k2, k3, by rw [k4], k5⟩
    · rw [if_pos he] at hw0; exact absurd hw0 he
  · rw [if_pos hv] at hw0; exact absurd hw0 hv
end Go.Abs
set_option maxRecDepth 100000
namespace Go.Abs
open Go Go.Proofs
set_option linter.unusedSimpArgs false
attribute [local irreducible] encodeR
theorem save_split {d : Disk} {s : Snp} (h : Good d) : ((writeC d s).2 ≠ 0 ∧ saveC d s = (zeroD, (writeC d s).2)) ∨ ((writeC d s).2 = 0 ∧ saveC d s = commitC (writeC d s).1 s.number) := by
  have hc := good_iff.2 h
  have hrun : writeC d s = if (wrS s d).2 ≠ 0 then (zeroD, (wrS s d).2) else ((wrS s d).1, 0) := by
    unfold writeC stepsR
    rw [if_neg (fun h => h hc)]
    rfl
  have hsav : saveC d s = if (wrS s d).2 ≠ 0 then (zeroD, (wrS s d).2) else runR (coms s.number) (wrS s d).1 := by
    unfold saveC stepsR
    rw [if_neg (fun h => h hc)]
    rfl
  by_cases hw : (wrS s d).2 ≠ 0
  · left
    rw [hrun, hsav, if_pos hw, if_pos hw]
    exact ⟨hw, rfl⟩
  · right
    have hw0 : (writeC d s).2 = 0 := by rw [hrun, if_neg hw]
    refine ⟨hw0, ?_⟩
    obtain ⟨_, _, f, _, _, _, h4, h5⟩ := write_spec h hw0
    have h6 : (wrS s d).1 = ⟨putL d.files f, d.space⟩ := by
      rw [hrun, if_neg hw] at h4
      exact (Prod.mk.inj h4).1
    rw [hsav, if_neg hw, h6, h4]
    unfold commitC stepsR
    rw [if_neg (fun h => h (good_iff.2 h5))]
end Go.Abs
set_option maxRecDepth 100000
namespace Go.Abs
open Go Go.Proofs
set_option linter.unusedSimpArgs false
attribute [local irreducible] numbR nameR checkD saveC pruneR fewS few nameC nameW encodeR keepF
end Go.Abs
set_option maxRecDepth 100000
namespace Go.Abs
open Go Go.Proofs Go.RowKit Go.Proofs.YtmfoegilknpcnaaGreatDoor
theorem shpInt' {d : Nat} {zs : List AV} (h : Shp T (d + 1) 3 zs) : ∃ n : Int, zs = [.i n] ∧ i64 n := by
  obtain ⟨n, h1, h2, h3⟩ := shpInt h
  exact ⟨n, h1, h2, h3⟩
theorem shpStr' {d : Nat} {zs : List AV} (h : Shp T (d + 1) 9 zs) : ∃ s : List UInt8, zs = [.str s] ∧ True := by
  obtain ⟨n, h1, _⟩ := shpStr h
  exact ⟨n, h1, trivial⟩
theorem shpVal {d : Nat} {zs : List AV} (h : Shp T (d + 2) 94 zs) : ∃ v : Val, zs = (encV v).cells ∧ jV v := by
  rw [Shp, T94] at h
  simp only [ShpI, ShpF, List.map_cons, List.map_nil] at h
  obtain ⟨_, _, rfl, h1, _, _, rfl, h2, _, _, rfl, h3, rfl⟩ := h
  obtain ⟨v1, rfl, p1⟩ := shpInt' (d := d + 0) h1
  obtain ⟨v2, rfl, p2⟩ := shpInt' (d := d + 0) h2
  obtain ⟨v3, rfl, p3⟩ := shpStr' (d := d + 0) h3
  exact ⟨⟨v1, v2, v3⟩, rfl, ⟨p1, p2⟩⟩
theorem shpLVal {d : Nat} {zs : List AV} (h : Shp T (d + 3) 193 zs) : ∃ l : List Val, zs = [.list (l.map encV)] ∧ ∀ a ∈ l, jV a := by
  rw [Shp, T193] at h
  simp only [ShpI] at h
  obtain ⟨ei, xs, he, rfl, hl, hx⟩ := h
  rw [T94] at he
  cases he
  obtain ⟨l, rfl, hq⟩ := list_of (g := encV) (Q := jV) xs (fun x hxm => by
    obtain ⟨zs, rfl, hz⟩ := hx x hxm
    obtain ⟨v, rfl, hv⟩ := shpVal (d := d) hz
    exact ⟨v, rfl, hv⟩)
  exact ⟨l, rfl, hq⟩
theorem shpEv {d : Nat} {zs : List AV} (h : Shp T (d + 4) 195 zs) : ∃ v : Ev, zs = (encE v).cells ∧ rEv v := by
  rw [Shp, T195] at h
  simp only [ShpI, ShpF, List.map_cons, List.map_nil] at h
  obtain ⟨_, _, rfl, h1, _, _, rfl, h2, _, _, rfl, h3, _, _, rfl, h4, _, _, rfl, h5, rfl⟩ := h
  obtain ⟨v1, rfl, p1⟩ := shpInt' (d := d + 2) h1
  obtain ⟨v2, rfl, p2⟩ := shpInt' (d := d + 2) h2
  obtain ⟨v3, rfl, p3⟩ := shpInt' (d := d + 2) h3
  obtain ⟨v4, rfl, p4⟩ := shpInt' (d := d + 2) h4
  obtain ⟨v5, rfl, p5⟩ := shpLVal (d := d + 0) h5
  exact ⟨⟨v1, v2, v3, v4, v5⟩, rfl, ⟨⟨p1, p2, p3, p4⟩, p5⟩⟩
theorem shpLEv {d : Nat} {zs : List AV} (h : Shp T (d + 5) 95 zs) : ∃ l : List Ev, zs = [.list (l.map encE)] ∧ ∀ a ∈ l, rEv a := by
  rw [Shp, T95] at h
  simp only [ShpI] at h
  obtain ⟨ei, xs, he, rfl, hl, hx⟩ := h
  rw [T195] at he
  cases he
  obtain ⟨l, rfl, hq⟩ := list_of (g := encE) (Q := rEv) xs (fun x hxm => by
    obtain ⟨zs, rfl, hz⟩ := hx x hxm
    obtain ⟨v, rfl, hv⟩ := shpEv (d := d) hz
    exact ⟨v, rfl, hv⟩)
  exact ⟨l, rfl, hq⟩
def rRf (r : Rf) : Prop := i64 r.time ∧ i64 r.source ∧ i64 r.seq
theorem shpRf {d : Nat} {zs : List AV} (h : Shp T (d + 2) 241 zs) : ∃ v : Rf, zs = (avRf v).cells ∧ rRf v := by
  rw [Shp, T241] at h
  simp only [ShpI, ShpF, List.map_cons, List.map_nil] at h
  obtain ⟨_, _, rfl, h1, _, _, rfl, h2, _, _, rfl, h3, rfl⟩ := h
  obtain ⟨v1, rfl, p1⟩ := shpInt' (d := d + 0) h1
  obtain ⟨v2, rfl, p2⟩ := shpInt' (d := d + 0) h2
  obtain ⟨v3, rfl, p3⟩ := shpInt' (d := d + 0) h3
  exact ⟨⟨v1, v2, v3⟩, rfl, ⟨p1, p2, p3⟩⟩
theorem shpBnd {d : Nat} {zs : List AV} (h : Shp T (d + 3) 243 zs) : ∃ v : Bnd, zs = (avBnd v).cells ∧ okBnd v := by
  rw [Shp, T243] at h
  simp only [ShpI, ShpF, List.map_cons, List.map_nil] at h
  obtain ⟨_, _, rfl, h1, _, _, rfl, h2, rfl⟩ := h
  obtain ⟨v1, rfl, p1⟩ := shpInt' (d := d + 1) h1
  obtain ⟨v2, rfl, p2⟩ := shpRf (d := d + 0) h2
  exact ⟨⟨v1, v2⟩, rfl, ⟨p1, p2⟩⟩
theorem shpLBnd {d : Nat} {zs : List AV} (h : Shp T (d + 4) 145 zs) : ∃ l : List Bnd, zs = [.list (l.map avBnd)] ∧ ∀ a ∈ l, okBnd a := by
  rw [Shp, T145] at h
  simp only [ShpI] at h
  obtain ⟨ei, xs, he, rfl, hl, hx⟩ := h
  rw [T243] at he
  cases he
  obtain ⟨l, rfl, hq⟩ := list_of (g := avBnd) (Q := okBnd) xs (fun x hxm => by
    obtain ⟨zs, rfl, hz⟩ := hx x hxm
    obtain ⟨v, rfl, hv⟩ := shpBnd (d := d) hz
    exact ⟨v, rfl, hv⟩)
  exact ⟨l, rfl, hq⟩
theorem shpStt {d : Nat} {zs : List AV} (h : Shp T (d + 2) 245 zs) : ∃ v : Stt, zs = (avStt v).cells ∧ okStt v := by
  rw [Shp, T245] at h
  simp only [ShpI, ShpF, List.map_cons, List.map_nil] at h
  obtain ⟨_, _, rfl, h1, _, _, rfl, h2, rfl⟩ := h
  obtain ⟨v1, rfl, p1⟩ := shpInt' (d := d + 0) h1
  obtain ⟨v2, rfl, p2⟩ := shpInt' (d := d + 0) h2
  exact ⟨⟨v1, v2⟩, rfl, ⟨p1, p2⟩⟩
theorem shpLStt {d : Nat} {zs : List AV} (h : Shp T (d + 3) 146 zs) : ∃ l : List Stt, zs = [.list (l.map avStt)] ∧ ∀ a ∈ l, okStt a := by
  rw [Shp, T146] at h
  simp only [ShpI] at h
  obtain ⟨ei, xs, he, rfl, hl, hx⟩ := h
  rw [T245] at he
  cases he
  obtain ⟨l, rfl, hq⟩ := list_of (g := avStt) (Q := okStt) xs (fun x hxm => by
    obtain ⟨zs, rfl, hz⟩ := hx x hxm
    obtain ⟨v, rfl, hv⟩ := shpStt (d := d) hz
    exact ⟨v, rfl, hv⟩)
  exact ⟨l, rfl, hq⟩
theorem shpCfg {d : Nat} {zs : List AV} (h : Shp T (d + 5) 148 zs) : ∃ v : Cfg, zs = (avCfg v).cells ∧ iCfg v := by
  rw [Shp, T148] at h
  simp only [ShpI, ShpF, List.map_cons, List.map_nil] at h
  obtain ⟨_, _, rfl, h1, _, _, rfl, h2, _, _, rfl, h3, rfl⟩ := h
  obtain ⟨v1, rfl, p1⟩ := shpInt' (d := d + 3) h1
  obtain ⟨v2, rfl, p2⟩ := shpLBnd (d := d + 0) h2
  obtain ⟨v3, rfl, p3⟩ := shpLStt (d := d + 1) h3
  exact ⟨⟨v1, v2, v3⟩, rfl, ⟨p1, p2, p3⟩⟩
theorem shpLCfg {d : Nat} {zs : List AV} (h : Shp T (d + 6) 96 zs) : ∃ l : List Cfg, zs = [.list (l.map avCfg)] ∧ ∀ a ∈ l, iCfg a := by
  rw [Shp, T96] at h
  simp only [ShpI] at h
  obtain ⟨ei, xs, he, rfl, hl, hx⟩ := h
  rw [T148] at he
  cases he
  obtain ⟨l, rfl, hq⟩ := list_of (g := avCfg) (Q := iCfg) xs (fun x hxm => by
    obtain ⟨zs, rfl, hz⟩ := hx x hxm
    obtain ⟨v, rfl, hv⟩ := shpCfg (d := d) hz
    exact ⟨v, rfl, hv⟩)
  exact ⟨l, rfl, hq⟩
theorem shpEng {d : Nat} {zs : List AV} (h : Shp T (d + 7) 98 zs) : ∃ v : Eng, zs = (avEng v).cells ∧ rEng v := by
  rw [Shp, T98] at h
  simp only [ShpI, ShpF, List.map_cons, List.map_nil] at h
  obtain ⟨_, _, rfl, h1, _, _, rfl, h2, _, _, rfl, h3, _, _, rfl, h4, rfl⟩ := h
  obtain ⟨v1, rfl, p1⟩ := shpInt' (d := d + 5) h1
  obtain ⟨v2, rfl, p2⟩ := shpLEv (d := d + 1) h2
  obtain ⟨v3, rfl, p3⟩ := shpLCfg (d := d + 0) h3
  obtain ⟨v4, rfl, p4⟩ := shpLEv (d := d + 1) h4
  exact ⟨⟨v1, v2, v3, v4⟩, rfl, ⟨p1, p2, p3, p4⟩⟩
theorem shpPnt {d : Nat} {zs : List AV} (h : Shp T (d + 2) 143 zs) : ∃ v : Pnt, zs = (avPnt v).cells ∧ okPnt v := by
  rw [Shp, T143] at h
  simp only [ShpI, ShpF, List.map_cons, List.map_nil] at h
  obtain ⟨_, _, rfl, h1, _, _, rfl, h2, rfl⟩ := h
  obtain ⟨v1, rfl, p1⟩ := shpInt' (d := d + 0) h1
  obtain ⟨v2, rfl, p2⟩ := shpInt' (d := d + 0) h2
  exact ⟨⟨v1, v2⟩, rfl, ⟨p1, p2⟩⟩
theorem shpLPnt {d : Nat} {zs : List AV} (h : Shp T (d + 3) 84 zs) : ∃ l : List Pnt, zs = [.list (l.map avPnt)] ∧ ∀ a ∈ l, okPnt a := by
  rw [Shp, T84] at h
  simp only [ShpI] at h
  obtain ⟨ei, xs, he, rfl, hl, hx⟩ := h
  rw [T143] at he
  cases he
  obtain ⟨l, rfl, hq⟩ := list_of (g := avPnt) (Q := okPnt) xs (fun x hxm => by
    obtain ⟨zs, rfl, hz⟩ := hx x hxm
    obtain ⟨v, rfl, hv⟩ := shpPnt (d := d) hz
    exact ⟨v, rfl, hv⟩)
  exact ⟨l, rfl, hq⟩
theorem shpLI {d : Nat} {zs : List AV} (h : Shp T (d + 2) 27 zs) : ∃ l : List Int, zs = [.list (l.map encI)] ∧ ∀ a ∈ l, i64 a := by
  rw [Shp, T27] at h
  simp only [ShpI] at h
  obtain ⟨ei, xs, he, rfl, hl, hx⟩ := h
  rw [T3] at he
  cases he
  obtain ⟨l, rfl, hq⟩ := list_of (g := encI) (Q := i64) xs (fun x hxm => by
    obtain ⟨zs, rfl, hz⟩ := hx x hxm
    obtain ⟨v, rfl, hv⟩ := shpInt' (d := d) hz
    exact ⟨v, rfl, hv⟩)
  exact ⟨l, rfl, hq⟩
theorem shpTrk {d : Nat} {zs : List AV} (h : Shp T (d + 4) 86 zs) : ∃ v : Trk, zs = (avTrk v).cells ∧ iTrk v := by
  rw [Shp, T86] at h
  simp only [ShpI, ShpF, List.map_cons, List.map_nil] at h
  obtain ⟨_, _, rfl, h1, _, _, rfl, h2, _, _, rfl, h3, _, _, rfl, h4, rfl⟩ := h
  obtain ⟨v1, rfl, p1⟩ := shpInt' (d := d + 2) h1
  obtain ⟨v2, rfl, p2⟩ := shpLI (d := d + 1) h2
  obtain ⟨v3, rfl, p3⟩ := shpLPnt (d := d + 0) h3
  obtain ⟨v4, rfl, p4⟩ := shpInt' (d := d + 2) h4
  exact ⟨⟨v1, v2, v3, v4⟩, rfl, ⟨p1, p2, p3, p4⟩⟩
theorem shpRdr {d : Nat} {zs : List AV} (h : Shp T (d + 5) 88 zs) : ∃ v : Rdr, zs = (avRdr v).cells ∧ iRdr v := by
  rw [Shp, T88] at h
  simp only [ShpI, ShpF, List.map_cons, List.map_nil] at h
  obtain ⟨_, _, rfl, h1, _, _, rfl, h2, _, _, rfl, h3, rfl⟩ := h
  obtain ⟨v1, rfl, p1⟩ := shpInt' (d := d + 3) h1
  obtain ⟨v2, rfl, p2⟩ := shpInt' (d := d + 3) h2
  obtain ⟨v3, rfl, p3⟩ := shpTrk (d := d + 0) h3
  exact ⟨⟨v1, v2, v3⟩, rfl, ⟨p1, p2, p3⟩⟩
theorem shpLRdr {d : Nat} {zs : List AV} (h : Shp T (d + 6) 33 zs) : ∃ l : List Rdr, zs = [.list (l.map avRdr)] ∧ ∀ a ∈ l, iRdr a := by
  rw [Shp, T33] at h
  simp only [ShpI] at h
  obtain ⟨ei, xs, he, rfl, hl, hx⟩ := h
  rw [T88] at he
  cases he
  obtain ⟨l, rfl, hq⟩ := list_of (g := avRdr) (Q := iRdr) xs (fun x hxm => by
    obtain ⟨zs, rfl, hz⟩ := hx x hxm
    obtain ⟨v, rfl, hv⟩ := shpRdr (d := d) hz
    exact ⟨v, rfl, hv⟩)
  exact ⟨l, rfl, hq⟩
theorem shpKyd {d : Nat} {zs : List AV} (h : Shp T (d + 8) 100 zs) : ∃ v : Kyd, zs = (avKyd v).cells ∧ rKyd v := by
  rw [Shp, T100] at h
  simp only [ShpI, ShpF, List.map_cons, List.map_nil] at h
  obtain ⟨_, _, rfl, h1, _, _, rfl, h2, _, _, rfl, h3, rfl⟩ := h
  obtain ⟨v1, rfl, p1⟩ := shpInt' (d := d + 6) h1
  obtain ⟨v2, rfl, p2⟩ := shpVal (d := d + 5) h2
  obtain ⟨v3, rfl, p3⟩ := shpEng (d := d + 0) h3
  exact ⟨⟨v1, v2, v3⟩, rfl, ⟨p1, p2, p3⟩⟩
theorem shpLKyd {d : Nat} {zs : List AV} (h : Shp T (d + 9) 90 zs) : ∃ l : List Kyd, zs = [.list (l.map avKyd)] ∧ ∀ a ∈ l, rKyd a := by
  rw [Shp, T90] at h
  simp only [ShpI] at h
  obtain ⟨ei, xs, he, rfl, hl, hx⟩ := h
  rw [T100] at he
  cases he
  obtain ⟨l, rfl, hq⟩ := list_of (g := avKyd) (Q := rKyd) xs (fun x hxm => by
    obtain ⟨zs, rfl, hz⟩ := hx x hxm
    obtain ⟨v, rfl, hv⟩ := shpKyd (d := d) hz
    exact ⟨v, rfl, hv⟩)
  exact ⟨l, rfl, hq⟩
theorem shpOpr {d : Nat} {zs : List AV} (h : Shp T (d + 10) 92 zs) : ∃ v : Opr, zs = (avOpr v).cells ∧ rOpr v := by
  rw [Shp, T92] at h
  simp only [ShpI, ShpF, List.map_cons, List.map_nil] at h
  obtain ⟨_, _, rfl, h1, _, _, rfl, h2, rfl⟩ := h
  obtain ⟨v1, rfl, p1⟩ := shpLI (d := d + 7) h1
  obtain ⟨v2, rfl, p2⟩ := shpLKyd (d := d + 0) h2
  exact ⟨⟨v1, v2⟩, rfl, ⟨p1, p2⟩⟩
theorem shpLOpr {d : Nat} {zs : List AV} (h : Shp T (d + 11) 34 zs) : ∃ l : List Opr, zs = [.list (l.map avOpr)] ∧ ∀ a ∈ l, rOpr a := by
  rw [Shp, T34] at h
  simp only [ShpI] at h
  obtain ⟨ei, xs, he, rfl, hl, hx⟩ := h
  rw [T92] at he
  cases he
  obtain ⟨l, rfl, hq⟩ := list_of (g := avOpr) (Q := rOpr) xs (fun x hxm => by
    obtain ⟨zs, rfl, hz⟩ := hx x hxm
    obtain ⟨v, rfl, hv⟩ := shpOpr (d := d) hz
    exact ⟨v, rfl, hv⟩)
  exact ⟨l, rfl, hq⟩
theorem shpSnp {d : Nat} {zs : List AV} (h : Shp T (d + 12) 36 zs) : ∃ v : Snp, zs = (avSnp v).cells ∧ rSnp v := by
  rw [Shp, T36] at h
  simp only [ShpI, ShpF, List.map_cons, List.map_nil] at h
  obtain ⟨_, _, rfl, h1, _, _, rfl, h2, _, _, rfl, h3, rfl⟩ := h
  obtain ⟨v1, rfl, p1⟩ := shpInt' (d := d + 10) h1
  obtain ⟨v2, rfl, p2⟩ := shpLRdr (d := d + 5) h2
  obtain ⟨v3, rfl, p3⟩ := shpLOpr (d := d + 0) h3
  exact ⟨⟨v1, v2, v3⟩, rfl, ⟨p1, p2, p3⟩⟩
theorem argSnp {d : Nat} {ts : List Nat} {xs : List AV} (h : ArgsShp T (d + 12) (36 :: ts) xs) : ∃ (v : Snp) (r : List AV), xs = avSnp v :: r ∧ rSnp v ∧ ArgsShp T (d + 12) ts r := by
  obtain ⟨i, zs, r, hi, rfl, h1, h⟩ := h
  rw [T36] at hi; cases hi
  obtain ⟨v, rfl, hv⟩ := shpSnp (d := d) h1
  exact ⟨v, r, rfl, hv, h⟩
end Go.Abs
