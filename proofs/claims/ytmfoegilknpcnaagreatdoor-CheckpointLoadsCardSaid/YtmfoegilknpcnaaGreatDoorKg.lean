/- Part Kg of the proof: an abstract machine over the model, and what the functions of the program hand back in its terms. No condition. -/
import Derived.Test.YtmfoegilknpcnaaGreatDoorKe
import Derived.Test.YtmfoegilknpcnaaGreatDoorKf
import Derived.Test.YtmfoegilknpcnaaGreatDoorKc
set_option linter.all false
set_option maxRecDepth 100000
namespace Go.Abs
open Go Go.Proofs
set_option linter.unusedSimpArgs false
/-- What every string and list that is read obeys. -/
structure DB (d : Disk) : Prop where
  files : d.files.length ≤ 140737488355328
  name : ∀ f ∈ d.files, f.name.length ≤ 140737488355328
  dur : ∀ f ∈ d.files, f.dur.length ≤ 140737488355328
  vol : ∀ f ∈ d.files, f.vol.length ≤ 140737488355328
theorem DB.nb {d : Disk} (h : DB d) : NB d.files := fun f hf => by have := h.name f hf; omega
end Go.Abs
set_option maxRecDepth 100000
namespace Go.Abs
open Go Go.Proofs

/-! The plain laws of the disk: what the program computes is what the reference computes. -/
def endP (f : File) (r : Bool × List File) : List File := if r.1 = true then r.2 else r.2 ++ [f]
theorem Sorted.drop {fs : List File} (h : Sorted fs) (n : Nat) : Sorted (fs.drop n) := List.Pairwise.sublist (List.drop_sublist n fs) h
theorem checkR_over {d : Disk} (h : checkD d = 0) : ¬ d.space < W (sumV d.files) ∧ ¬ d.space < W (sumD d.files) := by
  unfold checkD at h
  split at h
  · cases h
  · split at h
    · cases h
    · split at h
      · split at h
        · cases h
        · rename_i ho
          simpa [overB] using ho
      · rename_i h1; exact absurd h h1

end Go.Abs
set_option maxRecDepth 100000
namespace Go.Abs
open Go Go.Proofs

/-- In order and with good names, the files are well-formed. -/
theorem chkL_of : ∀ (fs : List File) (p : Option (List UInt8)), Sorted fs → (∀ f ∈ fs, nameOk f.name = true) → (∀ q, p = some q → ∀ f ∈ fs, Op.bytesLess q f.name = true) → chkL p fs = 0
  | [], _, _, _, _ => rfl
  | f :: fs, p, hs, hn, hp => by
    rw [chkL, if_neg (by simp [hn f (by simp)]), if_neg ?_]
    · exact chkL_of fs (some f.name) (List.pairwise_cons.1 hs).2 (fun g hg => hn g (by simp [hg])) (fun q hq g hg => by cases hq; exact (List.pairwise_cons.1 hs).1 g hg)
    · cases p with
      | none => simp [badPrev]
      | some q =>
        have h1 := hp q rfl f (by simp)
        simp only [badPrev, strLe, Bool.or_eq_true, beq_iff_eq, not_or]
        refine ⟨fun h2 => ?_, fun h2 => ?_⟩
        · have := bl_trans _ _ _ h1 h2; rw [bl_irrefl] at this; cases this
        · rw [h2, bl_irrefl] at h1; cases h1
structure Good (d : Disk) : Prop where
  sp : badSp d.space = false
  len : d.files.length ≤ 256
  sorted : Sorted d.files
  names : ∀ f ∈ d.files, nameOk f.name = true
  vol : ¬ d.space < W (sumV d.files)
  dur : ¬ d.space < W (sumD d.files)
theorem good_iff {d : Disk} : checkD d = 0 ↔ Good d := by
  constructor
  · intro h
    have hs := chkL_sorted _ _ (checkR_chkL h)
    refine ⟨?_, checkR_len h, hs.1, hs.2.1, (checkR_over h).1, (checkR_over h).2⟩
    unfold checkD at h
    split at h
    · cases h
    · rename_i hb; simpa using hb
  · intro h
    unfold checkD
    rw [h.sp, if_neg (by simp), if_neg (by have := h.len; omega), if_pos (chkL_of _ _ h.sorted h.names (by simp)), overB]
    simp [h.vol, h.dur]

/-- The files with one of them written. -/
def putL (fs : List File) (f : File) : List File := if foundAt fs f.name (lb fs f.name) = true then fs.set (lb fs f.name) f else insAt fs (lb fs f.name) f
end Go.Abs
set_option maxRecDepth 100000
namespace Go.Abs
open Go Go.Proofs
set_option linter.unusedSimpArgs false
def commitR (d : Disk) (n : Int) : Disk × Int := if checkD d ≠ 0 then (zeroD, checkD d) else if (nameR n).2 ≠ 0 then (zeroD, (nameR n).2) else if (syncR d (nameW n)).2 ≠ 0 then (zeroD, (syncR d (nameW n)).2) else renameR (syncR d (nameW n)).1 (nameW n) (nameC n)
theorem namesW (n : Int) (h0 : -9223372036854775808 ≤ n) (h1 : n ≤ 9223372036854775807) : (nameW n).length ≤ 1000 ∧ (nameC n).length ≤ 1000 := by
  have := Lib.itoa_length_le n (by omega) (by omega)
  simp [nameW, nameC, preW, preC]; omega
attribute [local irreducible] numbR nameR checkD syncR renameR nameW
end Go.Abs
set_option maxRecDepth 100000
namespace Go.Abs
open Go Go.Proofs
set_option linter.unusedSimpArgs false
attribute [local irreducible] numbR checkD
end Go.Abs
set_option maxRecDepth 100000
namespace Go.Abs
open Go Go.Proofs
set_option linter.unusedSimpArgs false
theorem nl_ok {d : Disk} (h : checkD d = 0) : NL d.files := by
  have g := good_iff.1 h
  refine ⟨by have := g.len; omega, fun f hf => ?_⟩
  have := g.names f hf
  unfold nameOk at this
  simp at this
  omega
attribute [local irreducible] checkD commitR commitC pruneR
end Go.Abs
set_option maxRecDepth 100000
namespace Go.Abs
open Go Go.Proofs Go.RowKit Go.Proofs.YtmfoegilknpcnaaGreatDoor
theorem shpFile {d : Nat} {zs : List AV} (h : Shp T (d + 2) 66 zs) : ∃ f : File, zs = (encFl f).cells ∧ f.name.length ≤ reachBytes ∧ f.dur.length ≤ reachBytes ∧ f.vol.length ≤ reachBytes := by
  simp only [Shp, T66, T9, ShpI, ShpF, List.map_cons, List.map_nil] at h
  obtain ⟨_, _, rfl, ⟨a, rfl, ha⟩, _, _, rfl, ⟨b, rfl, hb⟩, _, _, rfl, ⟨c, rfl, hc⟩, rfl⟩ := h
  exact ⟨⟨a, b, c⟩, rfl, ha, hb, hc⟩
theorem shpDisk {d : Nat} {zs : List AV} (h : Shp T (d + 4) 24 zs) : ∃ k : Disk, zs = (encD k).cells ∧ DB k := by
  simp only [Shp, T24, ShpI, ShpF, List.map_cons, List.map_nil] at h
  obtain ⟨_, _, rfl, h1, _, _, rfl, h2, rfl⟩ := h
  simp only [T22, ShpI] at h1
  simp only [T3, ShpI] at h2
  obtain ⟨ei, xs, he, rfl, hl, hx⟩ := h1
  obtain ⟨n, rfl, _, _⟩ := h2
  rw [T66] at he
  cases he
  obtain ⟨l, rfl, hq⟩ := list_of (g := encFl) (Q := fun f => f.name.length ≤ reachBytes ∧ f.dur.length ≤ reachBytes ∧ f.vol.length ≤ reachBytes) xs (fun x hxm => by
    obtain ⟨zs, rfl, hz⟩ := hx x hxm
    obtain ⟨f, rfl, hf⟩ := shpFile (d := d) hz
    exact ⟨f, rfl, hf⟩)
  have hr := reach_le
  refine ⟨⟨l, n⟩, rfl, ?_, fun f hf => ?_, fun f hf => ?_, fun f hf => ?_⟩
  · simp only [List.length_map] at hl; simp only; omega
  · have := hq f hf; omega
  · have := hq f hf; omega
  · have := hq f hf; omega
theorem argD {d : Nat} {ts : List Nat} {xs : List AV} (h : ArgsShp T (d + 4) (24 :: ts) xs) : ∃ (k : Disk) (r : List AV), xs = encD k :: r ∧ DB k ∧ ArgsShp T (d + 4) ts r := by
  obtain ⟨i, zs, r, hi, rfl, h1, h⟩ := h
  rw [T24] at hi; cases hi
  obtain ⟨k, rfl, hk⟩ := shpDisk (d := d) h1
  exact ⟨k, r, rfl, hk, h⟩
end Go.Abs
