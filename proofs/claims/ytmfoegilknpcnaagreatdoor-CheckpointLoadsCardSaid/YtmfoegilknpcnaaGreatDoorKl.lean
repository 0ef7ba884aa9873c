/- Part Kl of the proof: an abstract machine over the model, and what the functions of the program hand back in its terms. No condition. -/
import Derived.Test.YtmfoegilknpcnaaGreatDoorKk
import Derived.Test.YtmfoegilknpcnaaGreatDoorKe
import Derived.Test.YtmfoegilknpcnaaGreatDoorKg
import Derived.Test.YtmfoegilknpcnaaGreatDoorKh
import Derived.Test.YtmfoegilknpcnaaGreatDoorKf
set_option linter.all false
set_option maxRecDepth 100000
namespace Go.Abs
open Go Go.Proofs
set_option linter.unusedSimpArgs false
attribute [local irreducible] ckStep ckSum encSnp errSnp sumB
set_option maxHeartbeats 1000000 in
theorem pc_rSeal (s : List UInt8) (hs : s.length ≤ 1000000000) : PC Tryz.prog 120 [.str s] (fun r => r = .str (sealR s)) := by
  refine PC_body tOk Tryz.func120 rfl Tryz.results120 rfl (by simp [Tryz.ntmps120]) ?_
  rw [Tryz.ntmps120]
  simp only [argSlots]
  repeat first|((first|refine qa tOk rfl ?_|refine qb tOk rfl ?_|refine qc ?_|refine qd ?_|refine qe ?_);simp)|refine AWP_block ?_|refine AWP_seq ?_
  refine AStep_PC rfl rfl (by simp) (pc_rChecksum s hs) rfl ?_
  rintro _ rfl
  simp
  generalize hc : ckSum s = c at *
  have hb : s.length + 4 ≤ 9223372036854775807 := by omega
  repeat first|((first|refine qa tOk rfl ?_|refine qb tOk rfl ?_|refine qc ?_|refine qd ?_|refine qe ?_);simp)|refine AWP_block ?_|refine AWP_seq ?_
  rw [shBs]
  have htk : List.take 4 ((sumB c).map byteAV) = (sumB c).map byteAV := List.take_of_length_le (by rw [List.length_map, sumB_len]; exact Nat.le_refl 4)
  refine AStep_toStr tOk rfl rfl T117 rfl T5 rfl T9 rfl rfl (s := sumB c) (by simp [htk, sumB_len]) rfl ?_
  simp [hb, sumB_len]
  repeat first|((first|refine qa tOk rfl ?_|refine qb tOk rfl ?_|refine qc ?_|refine qd ?_|refine qe ?_);simp)|refine AWP_block ?_|refine AWP_seq ?_
  rw [sealR, hc]
/-- What a writer seals. -/
def sealD (d : Dc) : List UInt8 × Int := if d.e ≠ 0 then ([], d.e) else if 1048572 < d.s.length then ([], 13) else (sealR d.s, 0)
end Go.Abs
set_option maxRecDepth 100000
namespace Go.Abs
open Go Go.Proofs
set_option linter.unusedSimpArgs false
def writeF (d : Disk) (s : Snp) : Disk × Int := if checkD d ≠ 0 then (zeroD, checkD d) else if validN s.number ≠ 0 then (zeroD, 2) else if (encodeR s).2 ≠ 0 then (zeroD, (encodeR s).2) else writeR d (nameW s.number) (encodeR s).1
def saveF (d : Disk) (s : Snp) : Disk × Int := if (writeF d s).2 ≠ 0 then (zeroD, (writeF d s).2) else commitR (writeF d s).1 s.number
attribute [local irreducible] numbR nameR checkD writeR nameW encodeR validN
attribute [local irreducible] writeF commitR
end Go.Abs
set_option maxRecDepth 100000
namespace Go.Abs
open Go Go.Proofs
set_option linter.unusedSimpArgs false
attribute [local irreducible] checkD writeF saveF writeC saveC few fewS
end Go.Abs
