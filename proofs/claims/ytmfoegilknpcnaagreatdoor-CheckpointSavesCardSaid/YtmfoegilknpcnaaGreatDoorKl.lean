/- Part Kl of the proof: an abstract machine over the model, and what the functions of the program hand back in its terms. No condition. -/
import Derived.Test.YtmfoegilknpcnaaGreatDoorKk
import Derived.Test.YtmfoegilknpcnaaGreatDoorKe
import Derived.Test.YtmfoegilknpcnaaGreatDoorKg
import Derived.Test.YtmfoegilknpcnaaGreatDoorKh
import Derived.Test.YtmfoegilknpcnaaGreatDoorKf
set_option linter.all false
set_option maxRecDepth 100000
namespace Go.Abs
open Go Go.Proofs
set_option linter.unusedSimpArgs false
attribute [local irreducible] ckStep ckSum encSnp errSnp sumB
set_option maxHeartbeats 1000000 in
theorem pc_rSeal (s : List UInt8) (hs : s.length ≤ 1000000000) : PC Tryz.prog 120 [.str s] (fun r => r = .str (sealR s)) := by
  refine PC_body tOk Tryz.func120 rfl Tryz.results120 rfl (by simp [Tryz.ntmps120]) ?_
  rw [Tryz.ntmps120]
  simp only [argSlots]
  repeat first|((first|refine qa tOk rfl ?_|refine qb tOk rfl ?_|refine qc ?_|refine qd ?_|refine qe ?_);simp)|refine AWP_block ?_|refine AWP_seq ?_
  refine AStep_PC rfl rfl (by simp) (pc_rChecksum s hs) rfl ?_
  rintro _ rfl
  simp
  generalize hc : ckSum s = c at *
  have hb : s.length + 4 ≤ 9223372036854775807 := by omega
  repeat first|((first|refine qa tOk rfl ?_|refine qb tOk rfl ?_|refine qc ?_|refine qd ?_|refine qe ?_);simp)|refine AWP_block ?_|refine AWP_seq ?_
  rw [shBs]
  have htk : List.take 4 ((sumB c).map byteAV) = (sumB c).map byteAV := List.take_of_length_le (by rw [List.length_map, sumB_len]; exact Nat.le_refl 4)
  refine AStep_toStr tOk rfl rfl T117 rfl T5 rfl T9 rfl rfl (s := sumB c) (by simp [htk, sumB_len]) rfl ?_
  simp [hb, sumB_len]
  repeat first|((first|refine qa tOk rfl ?_|refine qb tOk rfl ?_|refine qc ?_|refine qd ?_|refine qe ?_);simp)|refine AWP_block ?_|refine AWP_seq ?_
  rw [sealR, hc]
/-- What a writer seals. -/
def sealD (d : Dc) : List UInt8 × Int := if d.e ≠ 0 then ([], d.e) else if 1048572 < d.s.length then ([], 13) else (sealR d.s, 0)
set_option maxHeartbeats 1000000 in
theorem fc_rseal (H : List AObj) (q : Nat) (d : Dc) (hd : H[q]? = some (dX d)) (hs : d.s.length ≤ 1000000000) : FC Tryz.prog 91 [.vptr q 0] H (fun r _ => r = .tup [.str (sealD d).1, .i (sealD d).2]) := by
  refine FC_body tOk Tryz.func91 rfl Tryz.results91 rfl (by simp [Tryz.ntmps91]) ?_
  rw [Tryz.ntmps91]
  simp only [argSlots]
  obtain ⟨R, hR⟩ : ∃ R, sealD d = R := ⟨_, rfl⟩
  rw [hR]
  rw [sealD] at hR
  have h0 : H[q]? = some (.vars [.str d.s, .i d.e]) := hd
  repeat first|((first|refine qa tOk rfl ?_|refine qb tOk rfl ?_|refine qc ?_|refine qd ?_|refine qe ?_);simp [h0])|refine AWP_block ?_|refine AWP_seq ?_
  by_cases he : d.e ≠ 0
  · rw [if_pos he] at hR
    refine AWP_cond2 rfl (fun h => ?_) (fun h => by simp [he] at h)
    repeat first|((first|refine qa tOk rfl ?_|refine qb tOk rfl ?_|refine qc ?_|refine qd ?_|refine qe ?_);simp)|refine AWP_block ?_|refine AWP_seq ?_
    refine AWP_drawT tOk mixed [] (.val 0 (.val 1 (.val 2 (.val 3 (.val 4 (.val 5 (.done))))))) rfl (by kernel_rfl) ?_
    simp [h0]
    repeat first|((first|refine qa tOk rfl ?_|refine qb tOk rfl ?_|refine qc ?_|refine qd ?_|refine qe ?_);simp)|refine AWP_block ?_|refine AWP_seq ?_
    rw [← hR]
    exact ⟨rfl, rfl⟩
  rw [if_neg he] at hR
  refine AWP_cond2 rfl (fun h => by exfalso; apply he; simpa using h) (fun h => ?_)
  have hw : IntKind.i64.wrap ((d.s.length : Int) + 4) = d.s.length + 4 := wrap_i64 _ (by omega) (by omega)
  repeat first|((first|refine qa tOk rfl ?_|refine qb tOk rfl ?_|refine qc ?_|refine qd ?_|refine qe ?_);simp [h0, hw])|refine AWP_block ?_|refine AWP_seq ?_
  by_cases hl : 1048572 < d.s.length
  · rw [if_pos hl] at hR
    refine AWP_cond2 rfl (fun h => ?_) (fun h => by simp at h; omega)
    repeat first|((first|refine qa tOk rfl ?_|refine qb tOk rfl ?_|refine qc ?_|refine qd ?_|refine qe ?_);simp)|refine AWP_block ?_|refine AWP_seq ?_
    rw [← hR]
    exact ⟨rfl, rfl⟩
  rw [if_neg hl] at hR
  refine AWP_cond2 rfl (fun h => by simp at h; omega) (fun h => ?_)
  repeat first|((first|refine qa tOk rfl ?_|refine qb tOk rfl ?_|refine qc ?_|refine qd ?_|refine qe ?_);simp [h0])|refine AWP_block ?_|refine AWP_seq ?_
  refine AStep_PC rfl rfl (by simp) (pc_rSeal d.s hs) rfl ?_
  rintro _ rfl
  simp
  repeat first|((first|refine qa tOk rfl ?_|refine qb tOk rfl ?_|refine qc ?_|refine qd ?_|refine qe ?_);simp)|refine AWP_block ?_|refine AWP_seq ?_
  rw [← hR]
  exact ⟨rfl, rfl⟩
set_option maxHeartbeats 1000000 in
theorem pc_rEncode (x : Snp) (hi : jSnp x) (hb : (encSnp x).length ≤ 900000000) : PC Tryz.prog 52 [avSnp x] (fun r => r = .tup [.str (encodeR x).1, .i (encodeR x).2]) := by
  refine PC_body tOk Tryz.func52 rfl Tryz.results52 rfl (by simp [Tryz.ntmps52]) ?_
  rw [Tryz.ntmps52]
  simp only [argSlots]
  have ht := fc_rsnapshot x hi [.vars (cSnp x), dX ⟨[], 0⟩] 1 ⟨[], 0⟩ rfl (by simp; omega)
  simp only [avSnp, cSnp, dX] at ht ⊢
  repeat first|((first|refine qa tOk rfl ?_|refine qb tOk rfl ?_|refine qc ?_|refine qd ?_|refine qe ?_);simp)|refine AWP_block ?_|refine AWP_seq ?_
  refine AStep_FC rfl rfl ht rfl ?_
  rintro _ G ⟨rfl, d, k, f, s1, s2, s3⟩
  simp at s1 s2 s3
  rw [orE_z] at s1 s3
  simp
  repeat first|((first|refine qa tOk rfl ?_|refine qb tOk rfl ?_|refine qc ?_|refine qd ?_|refine qe ?_);simp)|refine AWP_block ?_|refine AWP_seq ?_
  refine AStep_FC rfl rfl (fc_rseal G 1 d k (by omega)) rfl ?_
  rintro _ G2 rfl
  simp
  repeat first|((first|refine qa tOk rfl ?_|refine qb tOk rfl ?_|refine qc ?_|refine qd ?_|refine qe ?_);simp)|refine AWP_block ?_|refine AWP_seq ?_
  have he : sealD d = encodeR x := by
    unfold sealD encodeR
    rw [s1]
    by_cases h : errSnp x = 0
    · rw [s3 h]
    · rw [if_pos h, if_pos h]
  rw [he]
  exact ⟨rfl, rfl⟩
end Go.Abs
set_option maxRecDepth 100000
namespace Go.Abs
open Go Go.Proofs
set_option linter.unusedSimpArgs false
def writeF (d : Disk) (s : Snp) : Disk × Int := if checkD d ≠ 0 then (zeroD, checkD d) else if validN s.number ≠ 0 then (zeroD, 2) else if (encodeR s).2 ≠ 0 then (zeroD, (encodeR s).2) else writeR d (nameW s.number) (encodeR s).1
def saveF (d : Disk) (s : Snp) : Disk × Int := if (writeF d s).2 ≠ 0 then (zeroD, (writeF d s).2) else commitR (writeF d s).1 s.number
theorem writeR_err {d : Disk} {s b : List UInt8} (h : (writeR d s b).2 ≠ 0) : (writeR d s b).1 = zeroD := by
  unfold writeR at h ⊢
  split
  · rename_i h1
    rw [if_pos h1] at h
    unfold fitD at h ⊢
    split
    · rfl
    · rename_i h2
      rw [if_neg h2] at h
      split
      · rfl
      · rename_i h3
        rw [if_neg h3] at h
        exact absurd rfl h
  · rfl
theorem writeC_law (d : Disk) (s : Snp) : writeC d s = writeF d s := by
  unfold writeC stepsR writeF
  by_cases hc : checkD d ≠ 0
  · rw [if_pos hc, if_pos hc]
  rw [if_neg hc, if_neg hc]
  show (if (wrS s d).2 ≠ 0 then (zeroD, (wrS s d).2) else ((wrS s d).1, 0)) = _
  unfold wrS
  by_cases hv : validN s.number ≠ 0
  · have h2 : validN s.number = 2 := by unfold validN at hv ⊢; split <;> simp_all
    rw [if_pos hv, if_pos hv, if_pos hv, h2]
  rw [if_neg hv, if_neg hv]
  by_cases he : (encodeR s).2 ≠ 0
  · rw [if_pos he, if_pos he, if_pos he]
  rw [if_neg he, if_neg he, write_law]
  by_cases hw : (writeR d (nameW s.number) (encodeR s).1).2 ≠ 0
  · rw [if_pos hw, ← writeR_err hw]
  · rw [if_neg hw]
    have h0 : (writeR d (nameW s.number) (encodeR s).1).2 = 0 := by simpa using hw
    exact Prod.ext rfl h0.symm
theorem saveC_law (d : Disk) (s : Snp) : saveC d s = saveF d s := by
  unfold saveF
  rw [← writeC_law]
  by_cases hc : checkD d = 0
  · rcases save_split (s := s) (good_iff.1 hc) with ⟨h1, h2⟩ | ⟨h1, h2⟩
    · rw [if_pos h1, h2]
    · rw [if_neg (fun h => h h1), h2, commit_law]
  · have hw : writeC d s = (zeroD, checkD d) := by unfold writeC stepsR; rw [if_pos hc]
    rw [hw, if_pos hc]
    unfold saveC stepsR
    rw [if_pos hc]
attribute [local irreducible] numbR nameR checkD writeR nameW encodeR validN
set_option maxHeartbeats 2000000 in
theorem pc_rWrite (d : Disk) (s : Snp) (hnb : NB d.files) (hj : jSnp s) (hb : (encSnp s).length ≤ 900000000) (h0 : -9223372036854775808 ≤ s.number) (h1 : s.number ≤ 9223372036854775807) : PC Tryz.prog 20 [encD d, avSnp s] (fun r => r = .tup [encD (writeF d s).1, .i (writeF d s).2]) := by
  refine PC_body tOk Tryz.func20 rfl Tryz.results20 rfl (by simp [Tryz.ntmps20]) ?_
  rw [Tryz.ntmps20]
  simp only [argSlots]
  have pE := pc_rEncode s hj hb
  simp only [encD, avSnp] at pE ⊢
  obtain ⟨hw1, hw2⟩ := namesW s.number h0 h1
  obtain ⟨R, hR⟩ : ∃ R, writeF d s = R := ⟨_, rfl⟩
  rw [hR]
  rw [writeF] at hR
  repeat first|((first|refine qa tOk rfl ?_|refine qb tOk rfl ?_|refine qc ?_|refine qd ?_|refine qe ?_);simp)|refine AWP_block ?_|refine AWP_seq ?_
  refine AStep_PC rfl rfl (by simp) (dpc26 d hnb) rfl ?_
  rintro _ rfl
  simp
  repeat first|((first|refine qa tOk rfl ?_|refine qb tOk rfl ?_|refine qc ?_|refine qd ?_|refine qe ?_);simp)|refine AWP_block ?_|refine AWP_seq ?_
  by_cases hc : checkD d = 0
  rotate_left
  · rw [if_pos hc] at hR
    refine AWP_cond2 rfl (fun h => ?_) (fun h => by simp [hc] at h)
    repeat first|((first|refine qa tOk rfl ?_|refine qb tOk rfl ?_|refine qc ?_|refine qd ?_|refine qe ?_);simp)|refine AWP_block ?_|refine AWP_seq ?_
    rw [← hR]
    simp [zeroD]
  rw [if_neg (fun h => h hc)] at hR
  refine AWP_cond2 rfl (fun h => by simp [hc] at h) (fun h => ?_)
  repeat first|((first|refine qa tOk rfl ?_|refine qb tOk rfl ?_|refine qc ?_|refine qd ?_|refine qe ?_);simp)|refine AWP_block ?_|refine AWP_seq ?_
  refine AStep_PC rfl rfl (by simp) (pc_rvalid s.number) rfl ?_
  rintro _ rfl
  simp
  repeat first|((first|refine qa tOk rfl ?_|refine qb tOk rfl ?_|refine qc ?_|refine qd ?_|refine qe ?_);simp)|refine AWP_block ?_|refine AWP_seq ?_
  by_cases hv : validN s.number = 0
  rotate_left
  · rw [if_pos hv] at hR
    refine AWP_cond2 rfl (fun h => ?_) (fun h => by simp [hv] at h)
    repeat first|((first|refine qa tOk rfl ?_|refine qb tOk rfl ?_|refine qc ?_|refine qd ?_|refine qe ?_);simp)|refine AWP_block ?_|refine AWP_seq ?_
    rw [← hR]
    simp [zeroD]
  rw [if_neg (fun h => h hv)] at hR
  refine AWP_cond2 rfl (fun h => by simp [hv] at h) (fun h => ?_)
  repeat first|((first|refine qa tOk rfl ?_|refine qb tOk rfl ?_|refine qc ?_|refine qd ?_|refine qe ?_);simp)|refine AWP_block ?_|refine AWP_seq ?_
  refine AStep_PC rfl rfl (by simp) (pE) rfl ?_
  rintro _ rfl
  simp
  repeat first|((first|refine qa tOk rfl ?_|refine qb tOk rfl ?_|refine qc ?_|refine qd ?_|refine qe ?_);simp)|refine AWP_block ?_|refine AWP_seq ?_
  by_cases he : (encodeR s).2 = 0
  rotate_left
  · rw [if_pos he] at hR
    refine AWP_cond2 rfl (fun h => ?_) (fun h => by simp [he] at h)
    repeat first|((first|refine qa tOk rfl ?_|refine qb tOk rfl ?_|refine qc ?_|refine qd ?_|refine qe ?_);simp)|refine AWP_block ?_|refine AWP_seq ?_
    rw [← hR]
    simp [zeroD]
  rw [if_neg (fun h => h he)] at hR
  refine AWP_cond2 rfl (fun h => by simp [he] at h) (fun h => ?_)
  repeat first|((first|refine qa tOk rfl ?_|refine qb tOk rfl ?_|refine qc ?_|refine qd ?_|refine qe ?_);simp)|refine AWP_block ?_|refine AWP_seq ?_
  refine AWP_drawT tOk mixed [8] (.val 0 (.val 1 (.val 2 (.val 4 (.one 3 (.one 5 (.val 6 (.val 7 (.one 8 (.val 9 (.done))))))))))) rfl (by kernel_rfl) ?_
  simp
  refine AStep_PC rfl rfl (by simp) (pc_writing s.number h0 h1) rfl ?_
  rintro _ rfl
  simp
  refine AStep_PC rfl rfl (by simp) (dpc14 d hnb (nameW s.number) (encodeR s).1 (by omega)) rfl ?_
  rintro _ rfl
  simp
  repeat first|((first|refine qa tOk rfl ?_|refine qb tOk rfl ?_|refine qc ?_|refine qd ?_|refine qe ?_);simp)|refine AWP_block ?_|refine AWP_seq ?_
  rw [← hR]
  simp
attribute [local irreducible] writeF commitR
set_option maxHeartbeats 2000000 in
theorem pc_rSave (d : Disk) (s : Snp) (hnb : NB d.files) (hj : jSnp s) (hb : (encSnp s).length ≤ 900000000) (h0 : -9223372036854775808 ≤ s.number) (h1 : s.number ≤ 9223372036854775807)
    (hnb2 : (writeF d s).2 = 0 → NB (writeF d s).1.files ∧ ((syncR (writeF d s).1 (nameW s.number)).2 = 0 → NB (syncR (writeF d s).1 (nameW s.number)).1.files)) :
    PC Tryz.prog 22 [encD d, avSnp s] (fun r => r = .tup [encD (saveF d s).1, .i (saveF d s).2]) := by
  refine PC_body tOk Tryz.func22 rfl Tryz.results22 rfl (by simp [Tryz.ntmps22]) ?_
  rw [Tryz.ntmps22]
  simp only [argSlots]
  have pW := pc_rWrite d s hnb hj hb h0 h1
  simp only [encD, avSnp] at pW ⊢
  obtain ⟨R, hR⟩ : ∃ R, saveF d s = R := ⟨_, rfl⟩
  rw [hR]
  rw [saveF] at hR
  repeat first|((first|refine qa tOk rfl ?_|refine qb tOk rfl ?_|refine qc ?_|refine qd ?_|refine qe ?_);simp)|refine AWP_block ?_|refine AWP_seq ?_
  refine AStep_PC rfl rfl (by simp) (pW) rfl ?_
  rintro _ rfl
  simp
  repeat first|((first|refine qa tOk rfl ?_|refine qb tOk rfl ?_|refine qc ?_|refine qd ?_|refine qe ?_);simp)|refine AWP_block ?_|refine AWP_seq ?_
  by_cases hw : (writeF d s).2 = 0
  rotate_left
  · rw [if_pos hw] at hR
    refine AWP_cond2 rfl (fun h => ?_) (fun h => by simp [hw] at h)
    repeat first|((first|refine qa tOk rfl ?_|refine qb tOk rfl ?_|refine qc ?_|refine qd ?_|refine qe ?_);simp)|refine AWP_block ?_|refine AWP_seq ?_
    rw [← hR]
    simp [zeroD]
  rw [if_neg (fun h => h hw)] at hR
  refine AWP_cond2 rfl (fun h => by simp [hw] at h) (fun h => ?_)
  have pC := pc_rCommit (writeF d s).1 s.number h0 h1 (hnb2 hw).1 (hnb2 hw).2
  simp only [encD] at pC
  repeat first|((first|refine qa tOk rfl ?_|refine qb tOk rfl ?_|refine qc ?_|refine qd ?_|refine qe ?_);simp)|refine AWP_block ?_|refine AWP_seq ?_
  refine AStep_PC rfl rfl (by simp) (pC) rfl ?_
  rintro _ rfl
  simp
  repeat first|((first|refine qa tOk rfl ?_|refine qb tOk rfl ?_|refine qc ?_|refine qd ?_|refine qe ?_);simp)|refine AWP_block ?_|refine AWP_seq ?_
  rw [← hR]
  simp
end Go.Abs
set_option maxRecDepth 100000
namespace Go.Abs
open Go Go.Proofs
set_option linter.unusedSimpArgs false
theorem writeF_nb {d : Disk} {s : Snp} (h : (writeF d s).2 = 0) : NB (writeF d s).1.files := by
  have hc : checkD d = 0 := by
    by_cases hc : checkD d = 0
    · exact hc
    · rw [writeF, if_pos hc] at h; exact absurd h hc
  rw [← writeC_law] at h ⊢
  obtain ⟨_, _, f, _, _, _, h4, h5⟩ := write_spec (good_iff.1 hc) h
  rw [h4]
  intro g hg
  have := (nl_ok (good_iff.2 h5)).2 g hg
  omega
attribute [local irreducible] checkD writeF saveF writeC saveC few fewS
set_option maxHeartbeats 4000000 in
theorem law_Saves (d : Disk) (s : Snp) (hd : DB d) (hs : rSnp s) : PC Tryz.prog 4 [encD d, avSnp s] (fun r => r = .bool true) := by
  refine PC_body tOk Tryz.func4 rfl Tryz.results4 rfl (by simp [Tryz.ntmps4]) ?_
  rw [Tryz.ntmps4]
  simp only [argSlots]
  have pS := pc_fewS s
  have p5 := dpc17 (writeF d s).1 (writeF d s).1
  have p6 := dpc17 (saveF d s).1 (saveF d s).1
  simp only [encD, avSnp] at pS p5 p6 ⊢
  repeat first|((first|refine qa tOk rfl ?_|refine qb tOk rfl ?_|refine qc ?_|refine qd ?_|refine qe ?_);simp)|refine AWP_block ?_|refine AWP_seq ?_
  refine AStep_PC rfl rfl (by simp) (dpc11 d) rfl ?_
  rintro _ rfl
  simp
  cases hB : few d with
  | false =>
    try simp
    refine AStep_skip rfl rfl ?_
    simp
    refine AWP_cond2 rfl (fun h => ?_) (fun h => by simp at h)
    repeat first|((first|refine qa tOk rfl ?_|refine qb tOk rfl ?_|refine qc ?_|refine qd ?_|refine qe ?_);simp)|refine AWP_block ?_|refine AWP_seq ?_
    refine AStep_PC rfl rfl (by simp) (pc_awake50) rfl ?_
    rintro _ rfl
    simp
    repeat (first|((first|refine qa tOk rfl ?_|refine qb tOk rfl ?_|refine qc ?_|refine qd ?_|refine qe ?_);simp)|refine AWP_block ?_|refine AWP_seq ?_)
  | true =>
  try simp
  refine AStep_PC rfl rfl (by simp) (pS) rfl ?_
  rintro _ rfl
  simp
  cases hS : fewS s with
  | false =>
    try simp
    refine AWP_cond2 rfl (fun h => ?_) (fun h => by simp at h)
    repeat first|((first|refine qa tOk rfl ?_|refine qb tOk rfl ?_|refine qc ?_|refine qd ?_|refine qe ?_);simp)|refine AWP_block ?_|refine AWP_seq ?_
    refine AStep_PC rfl rfl (by simp) (pc_awake50) rfl ?_
    rintro _ rfl
    simp
    repeat (first|((first|refine qa tOk rfl ?_|refine qb tOk rfl ?_|refine qc ?_|refine qd ?_|refine qe ?_);simp)|refine AWP_block ?_|refine AWP_seq ?_)
  | true =>
  try simp
  refine AWP_cond2 rfl (fun h => by simp at h) (fun _ => ?_)
  obtain ⟨hj, hl⟩ := few_j hS hs
  have p1 := pc_cWrite d s hj (by omega)
  have p2 := pc_rWrite d s hd.nb hj (by omega) hs.1.1 hs.1.2
  have p3 := pc_cSave d s hj (by omega) hs.1
  have p4 := pc_rSave d s hd.nb hj (by omega) hs.1.1 hs.1.2 (fun h => ⟨writeF_nb h, fun _ => by rw [← sync_law]; exact sync_nb (writeF_nb h) _⟩)
  rw [writeC_law] at p1
  rw [saveC_law] at p3
  simp only [encD, avSnp] at p1 p2 p3 p4
  repeat first|((first|refine qa tOk rfl ?_|refine qb tOk rfl ?_|refine qc ?_|refine qd ?_|refine qe ?_);simp)|refine AWP_block ?_|refine AWP_seq ?_
  refine AStep_PC rfl rfl (by simp) (p1) rfl ?_
  rintro _ rfl
  simp
  repeat first|((first|refine qa tOk rfl ?_|refine qb tOk rfl ?_|refine qc ?_|refine qd ?_|refine qe ?_);simp)|refine AWP_block ?_|refine AWP_seq ?_
  refine AStep_PC rfl rfl (by simp) (p2) rfl ?_
  rintro _ rfl
  simp
  repeat first|((first|refine qa tOk rfl ?_|refine qb tOk rfl ?_|refine qc ?_|refine qd ?_|refine qe ?_);simp)|refine AWP_block ?_|refine AWP_seq ?_
  refine AStep_PC rfl rfl (by simp) (p3) rfl ?_
  rintro _ rfl
  simp
  repeat first|((first|refine qa tOk rfl ?_|refine qb tOk rfl ?_|refine qc ?_|refine qd ?_|refine qe ?_);simp)|refine AWP_block ?_|refine AWP_seq ?_
  refine AStep_PC rfl rfl (by simp) (p4) rfl ?_
  rintro _ rfl
  simp
  repeat first|((first|refine qa tOk rfl ?_|refine qb tOk rfl ?_|refine qc ?_|refine qd ?_|refine qe ?_);simp)|refine AWP_block ?_|refine AWP_seq ?_
  refine AStep_PC rfl rfl (by simp) (pc_awake50) rfl ?_
  rintro _ rfl
  simp
  refine AStep_PC rfl rfl (by simp) (p5) rfl ?_
  rintro _ rfl
  simp
  refine AStep_PC rfl rfl (by simp) (p6) rfl ?_
  rintro _ rfl
  simp
  repeat first|((first|refine qa tOk rfl ?_|refine qb tOk rfl ?_|refine qc ?_|refine qd ?_|refine qe ?_);simp)|refine AWP_block ?_|refine AWP_seq ?_
end Go.Abs
