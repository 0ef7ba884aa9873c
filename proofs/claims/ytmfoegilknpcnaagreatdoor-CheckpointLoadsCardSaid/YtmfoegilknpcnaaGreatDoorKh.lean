/- Part Kh of the proof: an abstract machine over the model, and what the functions of the program hand back in its terms. No condition. -/
import Derived.Test.YtmfoegilknpcnaaGreatDoorKg
import Derived.Test.YtmfoegilknpcnaaGreatDoorKc
import Derived.Test.YtmfoegilknpcnaaGreatDoorKe
import Derived.Test.YtmfoegilknpcnaaGreatDoorKf
set_option linter.all false
set_option maxRecDepth 100000
namespace Go.Abs
open Go Go.Proofs

theorem sum_bound (l : List File) (g : File → Nat) (n m : Nat) (hl : l.length ≤ m) (hb : ∀ f ∈ l, g f ≤ n) : (l.map g).sum ≤ m * n := by
  induction l generalizing m with
  | nil => simp
  | cons a l ih =>
    rcases m with _ | m
    · simp at hl
    · have := ih m (by simpa using hl) (fun f hf => hb f (by simp [hf]))
      have h2 := hb a (by simp)
      simp only [List.map_cons, List.sum_cons]
      rw [Nat.add_mul, Nat.one_mul]; omega
def newF : List UInt8 := [110, 101, 119, 45, 102, 105, 108, 101]
end Go.Abs
set_option maxRecDepth 100000
namespace Go.Abs
open Go Go.Proofs
set_option linter.unusedSimpArgs false
def fewVs (l : List Val) : Bool := (l.take 40).all (fun v => decide (v.text.length ≤ 128)) && decide (l.length < 40)
def fewEs (l : List Ev) : Bool := (l.take 20).all (fun e => decide (e.values.length ≤ 12) && fewVs e.values) && decide (l.length ≤ 12)
def fewC (c : Cfg) : Bool := decide (c.binds.length ≤ 12) && decide (c.starts.length ≤ 12)
def fewEng (x : Eng) : Bool := (x.runs.take 12).all fewC && (decide (x.runs.length ≤ 12) && fewEs x.waiting && fewEs x.held)
def fewK (k : Kyd) : Bool := decide (k.key.text.length ≤ 200) && fewEng k.eng
def fewO (o : Opr) : Bool := decide (o.marks.length ≤ 12) && decide (o.engines.length ≤ 4) && o.engines.all fewK
def fewRd (r : Rdr) : Bool := decide (r.trk.beyond.length ≤ 12) && decide (r.trk.points.length ≤ 12)
def fewS (s : Snp) : Bool := (s.readers.take 6).all fewRd && (s.operators.take 6).all fewO && (decide (s.readers.length ≤ 5) && decide (s.operators.length ≤ 5))
attribute [local irreducible] fewVs
attribute [local irreducible] fewEs
end Go.Abs
set_option maxRecDepth 100000
namespace Go.Abs
open Go Go.Proofs
set_option linter.unusedSimpArgs false
attribute [local irreducible] fewEng
end Go.Abs
set_option maxRecDepth 100000
namespace Go.Abs
open Go Go.Proofs
set_option linter.unusedSimpArgs false
def rEv (e : Ev) : Prop := iEv e ∧ ∀ v ∈ e.values, jV v
def rEng (x : Eng) : Prop := i64 x.mark ∧ (∀ e ∈ x.waiting, rEv e) ∧ (∀ c ∈ x.runs, iCfg c) ∧ ∀ e ∈ x.held, rEv e
def rKyd (k : Kyd) : Prop := i64 k.query ∧ jV k.key ∧ rEng k.eng
def rOpr (o : Opr) : Prop := (∀ n ∈ o.marks, i64 n) ∧ ∀ k ∈ o.engines, rKyd k
/-- The integers of a snapshot are of 64 bits. -/
def rSnp (s : Snp) : Prop := i64 s.number ∧ (∀ r ∈ s.readers, iRdr r) ∧ ∀ o ∈ s.operators, rOpr o
end Go.Abs
set_option maxRecDepth 100000
namespace Go.Abs
open Go Go.Proofs
set_option linter.unusedSimpArgs false
def sB : Nat := 140737488355328
def BD (fs : List File) : Prop := ∀ f ∈ fs, f.dur.length ≤ 140737488355328 ∧ f.vol.length ≤ 140737488355328
theorem dg_allowed {c : UInt8} (h : isDg c = true) : allowedN c.toNat = true := by
  unfold isDg at h
  unfold allowedN
  simp at h ⊢
  omega
theorem itoa_valid {n : Int} (h : validN n = 0) : (Lib.itoa n).all (fun c => allowedN c.toNat) = true ∧ (Lib.itoa n).length ≤ 30 := by
  have h2 := (validN_iff n).1 h
  refine ⟨?_, by have := Lib.itoa_length_le n (by omega) (by omega); omega⟩
  rw [itoa_dec (by omega)]
  have := dec_all n.toNat
  rw [List.all_eq_true] at this ⊢
  exact fun c hc => dg_allowed (this c hc)
theorem nameC_ok {n : Int} (h : validN n = 0) : nameOk (nameC n) = true := by
  obtain ⟨h1, h2⟩ := itoa_valid h
  unfold nameOk nameC preC
  rw [List.all_append, h1]
  simp [allowedN]
  omega
attribute [local irreducible] encodeR
end Go.Abs
set_option maxRecDepth 100000
namespace Go.Abs
open Go Go.Proofs
set_option linter.unusedSimpArgs false
attribute [local irreducible] encodeR
end Go.Abs
set_option maxRecDepth 100000
namespace Go.Abs
open Go Go.Proofs
set_option linter.unusedSimpArgs false
attribute [local irreducible] numbR nameR checkD saveC pruneR fewS few nameC nameW encodeR keepF
end Go.Abs
set_option maxRecDepth 100000
namespace Go.Abs
open Go Go.Proofs Go.RowKit Go.Proofs.YtmfoegilknpcnaaGreatDoor
def rRf (r : Rf) : Prop := i64 r.time ∧ i64 r.source ∧ i64 r.seq
end Go.Abs
