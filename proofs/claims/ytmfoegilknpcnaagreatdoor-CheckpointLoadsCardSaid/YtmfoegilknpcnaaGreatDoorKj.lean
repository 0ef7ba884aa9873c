/- Part Kj of the proof: an abstract machine over the model, and what the functions of the program hand back in its terms. No condition. -/
import Derived.Test.YtmfoegilknpcnaaGreatDoorKi
import Derived.Test.YtmfoegilknpcnaaGreatDoorKc
import Derived.Test.YtmfoegilknpcnaaGreatDoorKf
set_option linter.all false
set_option maxRecDepth 100000
namespace Go.Abs
open Go Go.Proofs
set_option linter.unusedSimpArgs false
attribute [local irreducible] numbR decodeR encodeR
def syncAll (d : Disk) : Disk := ⟨d.files.map (fun f => ⟨f.name, f.vol, f.vol⟩), d.space⟩
end Go.Abs
set_option maxRecDepth 100000
namespace Go.Abs
open Go Go.Proofs
set_option linter.unusedSimpArgs false
attribute [local irreducible] numbR decodeR encodeR
theorem le_sum_mem : ∀ (l : List Nat) (x : Nat), x ∈ l → x ≤ l.sum
  | [], x, h => by simp at h
  | a :: l, x, h => by
    rw [List.sum_cons]
    rcases List.mem_cons.1 h with rfl | h
    · omega
    · have := le_sum_mem l x h; omega
theorem good_vl {d : Disk} (h : Good d) (hb : BD d.files) : VL d.files := fun f hf => by
  have hdl := h.len
  have hvb : sumV d.files ≤ 9223372036854775807 := Nat.le_trans (sum_bound d.files _ 140737488355328 256 (by omega) (fun f hf => (hb f hf).2)) (by decide)
  have h1 := h.vol
  have h2 := h.sp
  rw [W, wrap_i64 _ (by omega) (by omega)] at h1
  unfold badSp at h2
  simp at h2
  have h3 : f.vol.length ≤ sumV d.files := by
    unfold sumV
    exact le_sum_mem _ _ (List.mem_map.2 ⟨f, hf, rfl⟩)
  omega
end Go.Abs
set_option maxRecDepth 100000
namespace Go.Abs
open Go Go.Proofs
set_option linter.unusedSimpArgs false
def syncT (fs : List File) (j : Nat) : List File := (fs.take j).map (fun f => ⟨f.name, f.vol, f.vol⟩) ++ fs.drop j
end Go.Abs
set_option maxRecDepth 100000
namespace Go.Abs
open Go Go.Proofs
set_option linter.unusedSimpArgs false
attribute [local irreducible] numbR nameR checkD writeC commitC fewS few nameC nameW encodeR loadR crashR syncAll zeroS
end Go.Abs
