/- Part Kd of the proof: an abstract machine over the model, and what the functions of the program hand back in its terms. No condition. -/
import Derived.Test.YtmfoegilknpcnaaGreatDoorKc
import Derived.Test.YtmfoegilknpcnaaGreatDoorKb
import Derived.Lib.Zigzag
import Derived.Lib.VarintBits
set_option linter.all false
set_option maxRecDepth 100000
namespace Go.Abs
open Go Go.Proofs

def namedR (d : Disk) (s : List UInt8) : Int := if checkD d = 0 then (if nameOk s = true then 0 else 8) else checkD d
set_option maxHeartbeats 400000 in
theorem dpc39 (d : Disk) (hnb : NB d.files) (s : List UInt8) (hs : s.length ≤ 9223372036854775807) : PC Tryz.prog 80 [encD d, .str s] (fun r => r = .i (namedR d s)) := by
  refine PC_body tOk Tryz.func80 rfl Tryz.results80 rfl (by simp [Tryz.ntmps80]) ?_
  rw [Tryz.ntmps80]
  simp only [argSlots]
  simp only [encD]
  repeat first|((first|refine qa tOk rfl ?_|refine qb tOk rfl ?_|refine qc ?_|refine qd ?_|refine qe ?_);simp)|refine AWP_block ?_|refine AWP_seq ?_
  refine AStep_PC rfl rfl (by simp) (dpc26 d hnb) rfl ?_
  rintro _ rfl
  simp
  repeat first|((first|refine qa tOk rfl ?_|refine qb tOk rfl ?_|refine qc ?_|refine qd ?_|refine qe ?_);simp)|refine AWP_block ?_|refine AWP_seq ?_
  refine AWP_cond2 rfl (fun h => ?_) (fun h1 => ?_)
  · repeat first|((first|refine qa tOk rfl ?_|refine qb tOk rfl ?_|refine qc ?_|refine qd ?_|refine qe ?_);simp)|refine AWP_block ?_|refine AWP_seq ?_
    simp at h
    simp [namedR, h]
  repeat first|((first|refine qa tOk rfl ?_|refine qb tOk rfl ?_|refine qc ?_|refine qd ?_|refine qe ?_);simp)|refine AWP_block ?_|refine AWP_seq ?_
  refine AStep_PC rfl rfl (by simp) (dpc54 _ hs) rfl ?_
  rintro _ rfl
  simp
  simp at h1
  refine AWP_cond2 rfl (fun h => ?_) (fun h2 => ?_)
  · repeat first|((first|refine qa tOk rfl ?_|refine qb tOk rfl ?_|refine qc ?_|refine qd ?_|refine qe ?_);simp)|refine AWP_block ?_|refine AWP_seq ?_
    simp at h
    simp [namedR, h, h1]
  · repeat first|((first|refine qa tOk rfl ?_|refine qb tOk rfl ?_|refine qc ?_|refine qd ?_|refine qe ?_);simp)|refine AWP_block ?_|refine AWP_seq ?_
    simp at h2
    simp [namedR, h1, h2]

def findF : List File → List UInt8 → Nat → Option Nat
  | [], _, _ => none
  | f :: r, s, i => if f.name = s then some i else findF r s (i + 1)
theorem findR_drop (fs : List File) (s : List UInt8) (i : Nat) : ∀ r, findF fs s i = some r → i ≤ r ∧ r < i + fs.length := by
  induction fs generalizing i with
  | nil => intro r h; cases h
  | cons f fs ih =>
    intro r h
    rw [findF] at h
    split at h
    · cases h; simp
    · have := ih _ _ h; simp; omega
def findAV : Option Nat → AV
  | none => .tup [.i 0, .bool false]
  | some i => .tup [.i i, .bool true]
set_option maxHeartbeats 1000000 in
theorem dpc24 (d : Disk) (s : List UInt8) : PC Tryz.prog 81 [encD d, .str s] (fun r => r = findAV (findF d.files s 0)) := by
  refine PC_body tOk Tryz.func81 rfl Tryz.results81 rfl (by simp [Tryz.ntmps81]) ?_
  rw [Tryz.ntmps81]
  simp only [argSlots]
  simp only [encD]
  refine AWP_lenAgg 0 0 rfl rfl (fun hlen => ?_)
  rw [List.length_map] at hlen
  repeat first|((first|refine qa tOk rfl ?_|refine qb tOk rfl ?_|refine qc ?_|refine qd ?_|refine qe ?_);simp)|refine AWP_block ?_|refine AWP_seq ?_
  refine AWP_countI d.files.length (fun j => findF d.files s 0 = findF (d.files.drop j) s j) (fun j => [(1, .str s), (2, .vptr 0 0), (6, .i j)]) (fun _ => [.vars [.list (d.files.map encFl), .i d.space]]) rfl (by simp) (by simp) (by simp) (by simp) (by simp) ?_
  intro j hj hI ih
  repeat first|((first|refine qa tOk rfl ?_|refine qb tOk rfl ?_|refine qc ?_|refine qd ?_|refine qe ?_);simp)|refine AWP_block ?_|refine AWP_seq ?_
  refine AWP_cond2 rfl (fun hlt => ?_) (fun hge => ?_)
  · have hlt' : j < d.files.length := by simpa using hlt
    rw [drop_getF hlt', findF] at hI
    repeat first|((first|refine qa tOk rfl ?_|refine qb tOk rfl ?_|refine qc ?_|refine qd ?_|refine qe ?_);simp [hlt'])|refine AWP_block ?_|refine AWP_seq ?_
    refine AWP_cond2 rfl (fun h => ?_) (fun h => ?_)
    · repeat first|((first|refine qa tOk rfl ?_|refine qb tOk rfl ?_|refine qc ?_|refine qd ?_|refine qe ?_);simp)|refine AWP_block ?_|refine AWP_seq ?_
      simp at h
      rw [hI, if_pos h]; rfl
    · repeat first|((first|refine qa tOk rfl ?_|refine qb tOk rfl ?_|refine qc ?_|refine qd ?_|refine qe ?_);simp)|refine AWP_block ?_|refine AWP_seq ?_
      simp at h
      rw [if_neg h] at hI
      refine ALoop_end _ (ih hlt' hI) rfl (by simp) ?_ (by simp) (by simp)
      simp
      exact wrap_i64 _ (by omega) (by omega)
  · have hge' : j = d.files.length := by simp at hge; omega
    subst hge'
    repeat first|((first|refine qa tOk rfl ?_|refine qb tOk rfl ?_|refine qc ?_|refine qd ?_|refine qe ?_);simp)|refine AWP_block ?_|refine AWP_seq ?_
    rw [hI, List.drop_length]; rfl

def readR (d : Disk) (s : List UInt8) : List UInt8 × Int := if namedR d s = 0 then (match findF d.files s 0 with
  | none => ([], 6)
  | some i => ((d.files[i]?.map (·.vol)).getD [], 0)) else ([], namedR d s)
def oldR (d : Disk) (s : List UInt8) : File := match findF d.files s 0 with
  | none => ⟨s, [], []⟩
  | some i => d.files[i]?.getD ⟨s, [], []⟩
set_option maxHeartbeats 1000000 in
theorem dpc40 (d : Disk) (s : List UInt8) : PC Tryz.prog 92 [encD d, .str s] (fun r => r = encFl (oldR d s)) := by
  refine PC_body tOk Tryz.func92 rfl Tryz.results92 rfl (by simp [Tryz.ntmps92]) ?_
  rw [Tryz.ntmps92]
  simp only [argSlots]
  simp only [encD]
  repeat first|((first|refine qa tOk rfl ?_|refine qb tOk rfl ?_|refine qc ?_|refine qd ?_|refine qe ?_);simp)|refine AWP_block ?_|refine AWP_seq ?_
  refine AStep_PC rfl rfl (by simp) (dpc24 d s) rfl ?_
  rintro _ rfl
  simp
  have hf := findR_drop d.files s 0
  generalize hfd : findF d.files s 0 = fr at hf
  rcases fr with _ | i
  · simp only [findAV]
    repeat first|((first|refine qa tOk rfl ?_|refine qb tOk rfl ?_|refine qc ?_|refine qd ?_|refine qe ?_);simp)|refine AWP_block ?_|refine AWP_seq ?_
    refine AWP_cond rfl ?_
    repeat first|((first|refine qa tOk rfl ?_|refine qb tOk rfl ?_|refine qc ?_|refine qd ?_|refine qe ?_);simp)|refine AWP_block ?_|refine AWP_seq ?_
    simp [oldR, hfd]
  · have hi : i < d.files.length := by have := (hf i rfl).2; omega
    simp only [findAV]
    repeat first|((first|refine qa tOk rfl ?_|refine qb tOk rfl ?_|refine qc ?_|refine qd ?_|refine qe ?_);simp)|refine AWP_block ?_|refine AWP_seq ?_
    refine AWP_cond rfl ?_
    repeat first|((first|refine qa tOk rfl ?_|refine qb tOk rfl ?_|refine qc ?_|refine qd ?_|refine qe ?_);simp [hi])|refine AWP_block ?_|refine AWP_seq ?_
    simp [oldR, hfd, hi]

def zeroD : Disk := ⟨[], 0⟩
def fitD (d : Disk) : Disk × Int := if (256 : Int) < d.files.length then (zeroD, 5) else if overB d = true then (zeroD, 27) else (d, 0)
set_option maxHeartbeats 1000000 in
theorem dpc41 (d : Disk) : PC Tryz.prog 93 [encD d] (fun r => r = .tup [encD (fitD d).1, .i (fitD d).2]) := by
  refine PC_body tOk Tryz.func93 rfl Tryz.results93 rfl (by simp [Tryz.ntmps93]) ?_
  rw [Tryz.ntmps93]
  simp only [argSlots]
  simp only [encD]
  repeat first|((first|refine qa tOk rfl ?_|refine qb tOk rfl ?_|refine qc ?_|refine qd ?_|refine qe ?_);simp)|refine AWP_block ?_|refine AWP_seq ?_
  refine AWP_cond2 rfl (fun h => ?_) (fun h1 => ?_)
  · repeat first|((first|refine qa tOk rfl ?_|refine qb tOk rfl ?_|refine qc ?_|refine qd ?_|refine qe ?_);simp)|refine AWP_block ?_|refine AWP_seq ?_
    simp at h
    simp [fitD, h, zeroD]
  simp at h1
  repeat first|((first|refine qa tOk rfl ?_|refine qb tOk rfl ?_|refine qc ?_|refine qd ?_|refine qe ?_);simp)|refine AWP_block ?_|refine AWP_seq ?_
  refine AStep_PC rfl rfl (by simp) (dpc35 _) rfl ?_
  rintro _ rfl
  simp
  repeat first|((first|refine qa tOk rfl ?_|refine qb tOk rfl ?_|refine qc ?_|refine qd ?_|refine qe ?_);simp)|refine AWP_block ?_|refine AWP_seq ?_
  refine AWP_cond2 rfl (fun h => ?_) (fun h2 => ?_)
  · repeat first|((first|refine qa tOk rfl ?_|refine qb tOk rfl ?_|refine qc ?_|refine qd ?_|refine qe ?_);simp)|refine AWP_block ?_|refine AWP_seq ?_
    rw [fitD, if_neg (by omega), if_pos (show overB d = true from h)]
    simp [zeroD]
  · repeat first|((first|refine qa tOk rfl ?_|refine qb tOk rfl ?_|refine qc ?_|refine qd ?_|refine qe ?_);simp)|refine AWP_block ?_|refine AWP_seq ?_
    rw [fitD, if_neg (by omega), if_neg (show ¬ overB d = true by rw [overB, h2]; simp)]
    simp
end Go.Abs
set_option maxRecDepth 100000
namespace Go.Abs
open Go Go.Proofs
set_option linter.unusedSimpArgs false

/-- ref.without -/
def withoutR (d : Disk) (s : List UInt8) : Disk := ⟨d.files.filter (fun f => f.name != s), d.space⟩
theorem filter_take_succ {α : Type} (l : List α) (p : α → Bool) (j : Nat) (h : j < l.length) : (l.take (j + 1)).filter p = (l.take j).filter p ++ (if p l[j] = true then [l[j]] else []) := by
  rw [List.take_succ_eq_append_getElem h, List.filter_append]; simp [List.filter_cons]
set_option maxHeartbeats 1000000 in
theorem dpc58 (d : Disk) (s : List UInt8) (hb : d.files.length ≤ 1000000) : PC Tryz.prog 103 [encD d, .str s] (fun r => r = encD (withoutR d s)) := by
  refine PC_body tOk Tryz.func103 rfl Tryz.results103 rfl (by simp [Tryz.ntmps103]) ?_
  rw [Tryz.ntmps103]
  simp only [argSlots]
  simp only [encD]
  repeat first|((first|refine qa tOk rfl ?_|refine qb tOk rfl ?_|refine qc ?_|refine qd ?_|refine qe ?_);simp)|refine AWP_block ?_|refine AWP_seq ?_
  refine AWP_nilOwn 2 0 66 3 rfl rfl ?_
  simp
  refine AWP_count d.files.length (fun j => [(1, .str s), (2, .vptr 0 0), (4, .vptr 1 0), (5, .vptr 2 0), (6, .i j)]) (fun j => [.vars [.list (d.files.map encFl), .i d.space], .vars [.nils, .i 0], .vars [.sl 3 3 0 ((d.files.take j).filter (fun f => f.name != s)).length, .i d.space], .arr 66 3 (((d.files.take j).filter (fun f => f.name != s)).map encFl)]) rfl (by simp) (by simp) (by simp) (by simp) ?_
  intro j hj ih
  have hfl : ((d.files.take j).filter (fun f => f.name != s)).length ≤ j := by
    have := List.length_filter_le (fun f : File => f.name != s) (d.files.take j)
    rw [List.length_take] at this; omega
  repeat first|((first|refine qa tOk rfl ?_|refine qb tOk rfl ?_|refine qc ?_|refine qd ?_|refine qe ?_);simp)|refine AWP_block ?_|refine AWP_seq ?_
  refine AWP_cond2 rfl (fun hlt => ?_) (fun hge => ?_)
  · have hlt' : j < d.files.length := by simpa using hlt
    have hfs := filter_take_succ d.files (fun f => f.name != s) j hlt'
    repeat first|((first|refine qa tOk rfl ?_|refine qb tOk rfl ?_|refine qc ?_|refine qd ?_|refine qe ?_);simp [hlt'])|refine AWP_block ?_|refine AWP_seq ?_
    refine AWP_cond2 rfl (fun h => ?_) (fun h => ?_)
    · refine AWP_draw tOk mixed [8, 10] [0, 1, 2, 3, 4, 5, 6, 7, 8, 9, 10] rfl (by kernel_rfl) ?_
      simp [hlt']
      refine AStep_appendS tOk rfl rfl T22 rfl T66 rfl (by decide) (by decide) rfl rfl rfl ?_
      simp
      refine ⟨by simp [appOk] <;> omega, ?_⟩
      repeat first|((first|refine qa tOk rfl ?_|refine qb tOk rfl ?_|refine qc ?_|refine qd ?_|refine qe ?_);simp)|refine AWP_block ?_|refine AWP_seq ?_
      have h' : (d.files[j].name != s) = true := h
      rw [if_pos h'] at hfs
      refine ALoop_ren [0, 1, 2, 5] (ih hlt') (by rw [hfs]; simp) (by decide) (by simp) (by simp) (by simp) (by simp) ?_
      simp
      exact wrap_i64 _ (by omega) (by omega)
    · repeat first|((first|refine qa tOk rfl ?_|refine qb tOk rfl ?_|refine qc ?_|refine qd ?_|refine qe ?_);simp)|refine AWP_block ?_|refine AWP_seq ?_
      have h' : (d.files[j].name != s) = false := h
      rw [if_neg (by rw [h']; simp), List.append_nil] at hfs
      refine ALoop_end [] (ih hlt') (by rw [hfs]; simp) (by simp) ?_ (by simp) (by simp)
      simp
      exact wrap_i64 _ (by omega) (by omega)
  · have hge' : j = d.files.length := by simp at hge; omega
    subst hge'
    repeat first|((first|refine qa tOk rfl ?_|refine qb tOk rfl ?_|refine qc ?_|refine qd ?_|refine qe ?_);simp)|refine AWP_block ?_|refine AWP_seq ?_
    rw [List.take_of_length_le (by simp)]
    simp [withoutR]

def le2 (a b : List UInt8) : Bool := strLe a b
/-- ref.Put: the rounds -/
def putStep (f : File) (st : Bool × List File) (g : File) : Bool × List File :=
  let st1 := if (!st.1 && strLe f.name g.name) = true then (true, st.2 ++ [f]) else st
  if (g.name != f.name) = true then (st1.1, st1.2 ++ [g]) else st1
def putFold (f : File) (fs : List File) : Bool × List File := fs.foldl (putStep f) (false, [])
def putR (d : Disk) (f : File) : Disk := ⟨if (putFold f d.files).1 = true then (putFold f d.files).2 else (putFold f d.files).2 ++ [f], d.space⟩
theorem putFold_len (f : File) (fs : List File) : (putFold f fs).2.length ≤ 2 * fs.length := by
  have key : ∀ (l : List File) (st : Bool × List File), (l.foldl (putStep f) st).2.length ≤ st.2.length + 2 * l.length := by
    intro l
    induction l with
    | nil => intro st; simp
    | cons g l ih =>
      intro st
      rw [List.foldl_cons]
      have h1 := ih (putStep f st g)
      have h2 : (putStep f st g).2.length ≤ st.2.length + 2 := by
        unfold putStep
        split <;> split <;> simp
      simp; omega
  have := key fs (false, [])
  simpa [putFold] using this
theorem putFold_succ (f : File) (fs : List File) (j : Nat) (h : j < fs.length) : putFold f (fs.take (j + 1)) = putStep f (putFold f (fs.take j)) fs[j] := by
  rw [putFold, List.take_succ_eq_append_getElem h, List.foldl_append]; rfl
set_option maxHeartbeats 1000000 in
theorem dpc42 (d : Disk) (f : File) (hb : d.files.length ≤ 1000000) : PC Tryz.prog 94 [encD d, encFl f] (fun r => r = encD (putR d f)) := by
  refine PC_body tOk Tryz.func94 rfl Tryz.results94 rfl (by simp [Tryz.ntmps94]) ?_
  rw [Tryz.ntmps94]
  simp only [argSlots]
  simp only [encD, encFl]
  repeat first|((first|refine qa tOk rfl ?_|refine qb tOk rfl ?_|refine qc ?_|refine qd ?_|refine qe ?_);simp)|refine AWP_block ?_|refine AWP_seq ?_
  refine AWP_nilOwn 3 0 66 3 rfl rfl ?_
  simp
  refine AWP_count d.files.length (fun j => [(2, .vptr 0 0), (3, .vptr 1 0), (4, .vptr 2 0), (5, .vptr 3 0), (6, .bool (putFold f (d.files.take j)).1), (7, .i j)]) (fun j => [.vars [.list (d.files.map encFl), .i d.space], .vars [.str f.name, .str f.dur, .str f.vol], .vars [.nils, .i 0], .vars [.sl 4 3 0 (putFold f (d.files.take j)).2.length, .i d.space], .arr 66 3 ((putFold f (d.files.take j)).2.map encFl)]) rfl (by simp) (by simp [putFold]) (by simp) (by simp) ?_
  intro j hj ih
  have hfl := putFold_len f (d.files.take j)
  rw [List.length_take] at hfl
  repeat first|((first|refine qa tOk rfl ?_|refine qb tOk rfl ?_|refine qc ?_|refine qd ?_|refine qe ?_);simp)|refine AWP_block ?_|refine AWP_seq ?_
  refine AWP_cond2 rfl (fun hlt => ?_) (fun hge => ?_)
  · have hlt' : j < d.files.length := by simpa using hlt
    have hfs := putFold_succ f d.files j hlt'
    generalize hst : putFold f (d.files.take j) = st at hfs hfl
    obtain ⟨done, out⟩ := st
    simp only at hfl
    repeat first|((first|refine qa tOk rfl ?_|refine qb tOk rfl ?_|refine qc ?_|refine qd ?_|refine qe ?_);simp [hlt'])|refine AWP_block ?_|refine AWP_seq ?_
    refine AWP_draw tOk mixed [] [0, 1, 2, 3, 4, 5, 6, 7, 8, 9, 10, 11, 12] rfl (by kernel_rfl) ?_
    simp [hlt']
    refine AWP_cond2 rfl (fun h => ?_) (fun h => ?_)
    · repeat first|((first|refine qa tOk rfl ?_|refine qb tOk rfl ?_|refine qc ?_|refine qd ?_|refine qe ?_);simp)|refine AWP_block ?_|refine AWP_seq ?_
      refine AStep_appendS tOk rfl rfl T22 rfl T66 rfl (by decide) (by decide) rfl rfl rfl ?_
      simp
      refine ⟨by simp [appOk] <;> omega, ?_⟩
      repeat first|((first|refine qa tOk rfl ?_|refine qb tOk rfl ?_|refine qc ?_|refine qd ?_|refine qe ?_);simp)|refine AWP_block ?_|refine AWP_seq ?_
      refine AWP_draw tOk mixed [] [0, 1, 2, 3, 4, 5, 6, 7, 8] rfl (by kernel_rfl) ?_
      simp [hlt']
      refine AWP_cond2 rfl (fun h2 => ?_) (fun h2 => ?_)
      · have hn : putFold f (List.take (j + 1) d.files) = (true, out ++ [f] ++ [d.files[j]]) := by
          rw [hfs]; simp only [putStep]; rw [if_pos (show (!done && strLe f.name d.files[j].name) = true from h), if_pos (show (d.files[j].name != f.name) = true from h2)]
        refine AWP_draw tOk mixed [8, 10] [0, 1, 2, 3, 4, 5, 6, 7, 8, 9, 10] rfl (by kernel_rfl) ?_
        simp [hlt']
        refine AStep_appendS tOk rfl rfl T22 rfl T66 rfl (by decide) (by decide) rfl rfl rfl ?_
        simp
        refine ⟨by simp [appOk] <;> omega, ?_⟩
        repeat first|((first|refine qa tOk rfl ?_|refine qb tOk rfl ?_|refine qc ?_|refine qd ?_|refine qe ?_);simp)|refine AWP_block ?_|refine AWP_seq ?_
        refine ALoop_ren [0, 1, 2, 3, 8] (ih hlt') (by rw [hn]; simp) (by decide) (by simp) (by simp) (by simp) (by simp) ?_
        simp [hn]
        exact wrap_i64 _ (by omega) (by omega)
      · have hn : putFold f (List.take (j + 1) d.files) = (true, out ++ [f]) := by
          rw [hfs]; simp only [putStep]; rw [if_pos (show (!done && strLe f.name d.files[j].name) = true from h), if_neg (show ¬ (d.files[j].name != f.name) = true from by rw [show (d.files[j].name != f.name) = false from h2]; simp)]
        repeat first|((first|refine qa tOk rfl ?_|refine qb tOk rfl ?_|refine qc ?_|refine qd ?_|refine qe ?_);simp)|refine AWP_block ?_|refine AWP_seq ?_
        refine ALoop_ren [0, 1, 2, 3, 6] (ih hlt') (by rw [hn]; simp) (by decide) (by simp) (by simp) (by simp) (by simp) ?_
        simp [hn]
        exact wrap_i64 _ (by omega) (by omega)
    · repeat first|((first|refine qa tOk rfl ?_|refine qb tOk rfl ?_|refine qc ?_|refine qd ?_|refine qe ?_);simp)|refine AWP_block ?_|refine AWP_seq ?_
      replace h : ¬ (!done && strLe f.name d.files[j].name) = true := by rw [show (!done && strLe f.name d.files[j].name) = false from h]; simp
      refine AWP_draw tOk mixed [] [0, 1, 2, 3, 4, 5, 6, 7, 8] rfl (by kernel_rfl) ?_
      simp [hlt']
      refine AWP_cond2 rfl (fun h2 => ?_) (fun h2 => ?_)
      · have hn : putFold f (List.take (j + 1) d.files) = (done, out ++ [d.files[j]]) := by
          rw [hfs]; simp only [putStep]; rw [if_neg h, if_pos (show (d.files[j].name != f.name) = true from h2)]
        refine AWP_draw tOk mixed [8, 10] [0, 1, 2, 3, 4, 5, 6, 7, 8, 9, 10] rfl (by kernel_rfl) ?_
        simp [hlt']
        refine AStep_appendS tOk rfl rfl T22 rfl T66 rfl (by decide) (by decide) rfl rfl rfl ?_
        simp
        refine ⟨by simp [appOk] <;> omega, ?_⟩
        repeat first|((first|refine qa tOk rfl ?_|refine qb tOk rfl ?_|refine qc ?_|refine qd ?_|refine qe ?_);simp)|refine AWP_block ?_|refine AWP_seq ?_
        refine ALoop_ren [0, 1, 2, 3, 6] (ih hlt') (by rw [hn]; simp) (by decide) (by simp) (by simp) (by simp) (by simp) ?_
        simp [hn]
        exact wrap_i64 _ (by omega) (by omega)
      · have hn : putFold f (List.take (j + 1) d.files) = (done, out) := by
          rw [hfs]; simp only [putStep]; rw [if_neg h, if_neg (show ¬ (d.files[j].name != f.name) = true from by rw [show (d.files[j].name != f.name) = false from h2]; simp)]
        repeat first|((first|refine qa tOk rfl ?_|refine qb tOk rfl ?_|refine qc ?_|refine qd ?_|refine qe ?_);simp)|refine AWP_block ?_|refine AWP_seq ?_
        refine ALoop_ren [0, 1, 2, 3, 4] (ih hlt') (by rw [hn]; simp) (by decide) (by simp) (by simp) (by simp) (by simp) ?_
        simp [hn]
        exact wrap_i64 _ (by omega) (by omega)
  · have hge' : j = d.files.length := by simp at hge; omega
    subst hge'
    rw [List.take_length] at hfl ⊢
    repeat first|((first|refine qa tOk rfl ?_|refine qb tOk rfl ?_|refine qc ?_|refine qd ?_|refine qe ?_);simp)|refine AWP_block ?_|refine AWP_seq ?_
    refine AWP_cond2 rfl (fun h => ?_) (fun h => ?_)
    · repeat first|((first|refine qa tOk rfl ?_|refine qb tOk rfl ?_|refine qc ?_|refine qd ?_|refine qe ?_);simp)|refine AWP_block ?_|refine AWP_seq ?_
      refine AStep_appendS tOk rfl rfl T22 rfl T66 rfl (by decide) (by decide) rfl rfl rfl ?_
      simp
      refine ⟨by simp [appOk] <;> omega, ?_⟩
      repeat first|((first|refine qa tOk rfl ?_|refine qb tOk rfl ?_|refine qc ?_|refine qd ?_|refine qe ?_);simp)|refine AWP_block ?_|refine AWP_seq ?_
      simp at h
      rw [List.take_of_length_le (by simp)]
      simp [putR, h]
    · repeat first|((first|refine qa tOk rfl ?_|refine qb tOk rfl ?_|refine qc ?_|refine qd ?_|refine qe ?_);simp)|refine AWP_block ?_|refine AWP_seq ?_
      simp at h
      rw [List.take_of_length_le (by simp)]
      simp [putR, h]
end Go.Abs
set_option maxRecDepth 100000
namespace Go.Abs
open Go Go.Proofs
set_option linter.unusedSimpArgs false

theorem checkR_len {d : Disk} (h : checkD d = 0) : d.files.length ≤ 256 := by
  unfold checkD at h
  split at h
  · cases h
  · split at h
    · cases h
    · omega
theorem namedR_check {d : Disk} {s : List UInt8} (h : namedR d s = 0) : checkD d = 0 := by
  unfold namedR at h
  split at h
  · assumption
  · exact h
theorem findR_lt {fs : List File} {s : List UInt8} {i : Nat} (h : findF fs s 0 = some i) : i < fs.length := by have := (findR_drop fs s 0 i h).2; omega

def writeR (d : Disk) (s b : List UInt8) : Disk × Int := if namedR d s = 0 then fitD (putR d { oldR d s with vol := b }) else (zeroD, namedR d s)
set_option maxHeartbeats 1000000 in
theorem dpc14 (d : Disk) (hnb : NB d.files) (s b : List UInt8) (hs : s.length ≤ 9223372036854775807) : PC Tryz.prog 53 [encD d, .str s, .str b] (fun r => r = .tup [encD (writeR d s b).1, .i (writeR d s b).2]) := by
  refine PC_body tOk Tryz.func53 rfl Tryz.results53 rfl (by simp [Tryz.ntmps53]) ?_
  rw [Tryz.ntmps53]
  simp only [argSlots]
  simp only [encD]
  repeat first|((first|refine qa tOk rfl ?_|refine qb tOk rfl ?_|refine qc ?_|refine qd ?_|refine qe ?_);simp)|refine AWP_block ?_|refine AWP_seq ?_
  refine AStep_PC rfl rfl (by simp) (dpc39 d hnb s hs) rfl ?_
  rintro _ rfl
  simp
  repeat first|((first|refine qa tOk rfl ?_|refine qb tOk rfl ?_|refine qc ?_|refine qd ?_|refine qe ?_);simp)|refine AWP_block ?_|refine AWP_seq ?_
  refine AWP_cond2 rfl (fun h => ?_) (fun h1 => ?_)
  · repeat first|((first|refine qa tOk rfl ?_|refine qb tOk rfl ?_|refine qc ?_|refine qd ?_|refine qe ?_);simp)|refine AWP_block ?_|refine AWP_seq ?_
    simp at h
    simp [writeR, h, zeroD]
  simp at h1
  have hl := checkR_len (namedR_check h1)
  repeat first|((first|refine qa tOk rfl ?_|refine qb tOk rfl ?_|refine qc ?_|refine qd ?_|refine qe ?_);simp)|refine AWP_block ?_|refine AWP_seq ?_
  refine AStep_PC rfl rfl (by simp) (dpc40 d s) rfl ?_
  rintro _ rfl
  simp
  repeat first|((first|refine qa tOk rfl ?_|refine qb tOk rfl ?_|refine qc ?_|refine qd ?_|refine qe ?_);simp)|refine AWP_block ?_|refine AWP_seq ?_
  refine AStep_PC rfl rfl (by simp) (dpc42 d { oldR d s with vol := b } (by omega)) rfl ?_
  rintro _ rfl
  simp
  refine AStep_PC rfl rfl (by simp) (dpc41 (putR d { oldR d s with vol := b })) rfl ?_
  rintro _ rfl
  simp
  repeat first|((first|refine qa tOk rfl ?_|refine qb tOk rfl ?_|refine qc ?_|refine qd ?_|refine qe ?_);simp)|refine AWP_block ?_|refine AWP_seq ?_
  simp [writeR, h1]

def appendR (d : Disk) (s b : List UInt8) : Disk × Int := if namedR d s = 0 then fitD (putR d { oldR d s with vol := (oldR d s).vol ++ b }) else (zeroD, namedR d s)
def syncR (d : Disk) (s : List UInt8) : Disk × Int := if namedR d s = 0 then (match findF d.files s 0 with
  | none => (zeroD, 6)
  | some i => fitD (putR d { d.files[i]! with dur := d.files[i]!.vol })) else (zeroD, namedR d s)
set_option maxHeartbeats 1000000 in
theorem dpc31 (d : Disk) (hnb : NB d.files) (s : List UInt8) (hs : s.length ≤ 9223372036854775807) : PC Tryz.prog 61 [encD d, .str s] (fun r => r = .tup [encD (syncR d s).1, .i (syncR d s).2]) := by
  refine PC_body tOk Tryz.func61 rfl Tryz.results61 rfl (by simp [Tryz.ntmps61]) ?_
  rw [Tryz.ntmps61]
  simp only [argSlots]
  simp only [encD]
  repeat first|((first|refine qa tOk rfl ?_|refine qb tOk rfl ?_|refine qc ?_|refine qd ?_|refine qe ?_);simp)|refine AWP_block ?_|refine AWP_seq ?_
  refine AStep_PC rfl rfl (by simp) (dpc39 d hnb s hs) rfl ?_
  rintro _ rfl
  simp
  repeat first|((first|refine qa tOk rfl ?_|refine qb tOk rfl ?_|refine qc ?_|refine qd ?_|refine qe ?_);simp)|refine AWP_block ?_|refine AWP_seq ?_
  refine AWP_cond2 rfl (fun h => ?_) (fun h1 => ?_)
  · repeat first|((first|refine qa tOk rfl ?_|refine qb tOk rfl ?_|refine qc ?_|refine qd ?_|refine qe ?_);simp)|refine AWP_block ?_|refine AWP_seq ?_
    simp at h
    simp [syncR, h, zeroD]
  simp at h1
  have hl := checkR_len (namedR_check h1)
  repeat first|((first|refine qa tOk rfl ?_|refine qb tOk rfl ?_|refine qc ?_|refine qd ?_|refine qe ?_);simp)|refine AWP_block ?_|refine AWP_seq ?_
  refine AStep_PC rfl rfl (by simp) (dpc24 d s) rfl ?_
  rintro _ rfl
  simp
  rcases hfd : findF d.files s 0 with _ | i
  · simp only [findAV]
    repeat first|((first|refine qa tOk rfl ?_|refine qb tOk rfl ?_|refine qc ?_|refine qd ?_|refine qe ?_);simp)|refine AWP_block ?_|refine AWP_seq ?_
    refine AWP_cond rfl ?_
    repeat first|((first|refine qa tOk rfl ?_|refine qb tOk rfl ?_|refine qc ?_|refine qd ?_|refine qe ?_);simp)|refine AWP_block ?_|refine AWP_seq ?_
    simp [syncR, h1, hfd, zeroD]
  · have hi := findR_lt hfd
    simp only [findAV]
    repeat first|((first|refine qa tOk rfl ?_|refine qb tOk rfl ?_|refine qc ?_|refine qd ?_|refine qe ?_);simp)|refine AWP_block ?_|refine AWP_seq ?_
    refine AWP_cond rfl ?_
    repeat first|((first|refine qa tOk rfl ?_|refine qb tOk rfl ?_|refine qc ?_|refine qd ?_|refine qe ?_);simp [hi])|refine AWP_block ?_|refine AWP_seq ?_
    refine AStep_PC rfl rfl (by simp) (dpc42 d { d.files[i] with dur := d.files[i].vol } (by omega)) rfl ?_
    rintro _ rfl
    simp
    refine AStep_PC rfl rfl (by simp) (dpc41 (putR d { d.files[i] with dur := d.files[i].vol })) rfl ?_
    rintro _ rfl
    simp
    repeat first|((first|refine qa tOk rfl ?_|refine qb tOk rfl ?_|refine qc ?_|refine qd ?_|refine qe ?_);simp)|refine AWP_block ?_|refine AWP_seq ?_
    simp [syncR, h1, hfd, hi]

theorem withoutR_len (d : Disk) (s : List UInt8) : (withoutR d s).files.length ≤ d.files.length := List.length_filter_le _ _
def renameR (d : Disk) (s t : List UInt8) : Disk × Int := if namedR d s = 0 then (if nameOk t = true then (match findF d.files s 0 with
  | none => (zeroD, 6)
  | some i => (putR (withoutR d s) { d.files[i]! with name := t }, 0)) else (zeroD, 8)) else (zeroD, namedR d s)
set_option maxHeartbeats 1000000 in
theorem dpc32 (d : Disk) (hnb : NB d.files) (s t : List UInt8) (hs : s.length ≤ 9223372036854775807) (ht : t.length ≤ 9223372036854775807) : PC Tryz.prog 62 [encD d, .str s, .str t] (fun r => r = .tup [encD (renameR d s t).1, .i (renameR d s t).2]) := by
  refine PC_body tOk Tryz.func62 rfl Tryz.results62 rfl (by simp [Tryz.ntmps62]) ?_
  rw [Tryz.ntmps62]
  simp only [argSlots]
  simp only [encD]
  repeat first|((first|refine qa tOk rfl ?_|refine qb tOk rfl ?_|refine qc ?_|refine qd ?_|refine qe ?_);simp)|refine AWP_block ?_|refine AWP_seq ?_
  refine AStep_PC rfl rfl (by simp) (dpc39 d hnb s hs) rfl ?_
  rintro _ rfl
  simp
  repeat first|((first|refine qa tOk rfl ?_|refine qb tOk rfl ?_|refine qc ?_|refine qd ?_|refine qe ?_);simp)|refine AWP_block ?_|refine AWP_seq ?_
  refine AWP_cond2 rfl (fun h => ?_) (fun h1 => ?_)
  · repeat first|((first|refine qa tOk rfl ?_|refine qb tOk rfl ?_|refine qc ?_|refine qd ?_|refine qe ?_);simp)|refine AWP_block ?_|refine AWP_seq ?_
    simp at h
    simp [renameR, h, zeroD]
  simp at h1
  have hl := checkR_len (namedR_check h1)
  repeat first|((first|refine qa tOk rfl ?_|refine qb tOk rfl ?_|refine qc ?_|refine qd ?_|refine qe ?_);simp)|refine AWP_block ?_|refine AWP_seq ?_
  refine AStep_PC rfl rfl (by simp) (dpc54 t ht) rfl ?_
  rintro _ rfl
  simp
  refine AWP_cond2 rfl (fun h => ?_) (fun h2 => ?_)
  · repeat first|((first|refine qa tOk rfl ?_|refine qb tOk rfl ?_|refine qc ?_|refine qd ?_|refine qe ?_);simp)|refine AWP_block ?_|refine AWP_seq ?_
    simp at h
    simp [renameR, h1, h, zeroD]
  simp at h2
  repeat first|((first|refine qa tOk rfl ?_|refine qb tOk rfl ?_|refine qc ?_|refine qd ?_|refine qe ?_);simp)|refine AWP_block ?_|refine AWP_seq ?_
  refine AStep_PC rfl rfl (by simp) (dpc24 d s) rfl ?_
  rintro _ rfl
  simp
  rcases hfd : findF d.files s 0 with _ | i
  · simp only [findAV]
    repeat first|((first|refine qa tOk rfl ?_|refine qb tOk rfl ?_|refine qc ?_|refine qd ?_|refine qe ?_);simp)|refine AWP_block ?_|refine AWP_seq ?_
    refine AWP_cond rfl ?_
    repeat first|((first|refine qa tOk rfl ?_|refine qb tOk rfl ?_|refine qc ?_|refine qd ?_|refine qe ?_);simp)|refine AWP_block ?_|refine AWP_seq ?_
    simp [renameR, h1, h2, hfd, zeroD]
  · have hi := findR_lt hfd
    have hw := withoutR_len d s
    simp only [findAV]
    repeat first|((first|refine qa tOk rfl ?_|refine qb tOk rfl ?_|refine qc ?_|refine qd ?_|refine qe ?_);simp)|refine AWP_block ?_|refine AWP_seq ?_
    refine AWP_cond rfl ?_
    repeat first|((first|refine qa tOk rfl ?_|refine qb tOk rfl ?_|refine qc ?_|refine qd ?_|refine qe ?_);simp [hi])|refine AWP_block ?_|refine AWP_seq ?_
    refine AWP_draw tOk mixed [5] [0, 1, 3, 2, 4, 5, 6] rfl (by kernel_rfl) ?_
    simp [hi]
    refine AStep_PC rfl rfl (by simp) (dpc58 d s (by omega)) rfl ?_
    rintro _ rfl
    simp
    refine AStep_PC rfl rfl (by simp) (dpc42 (withoutR d s) { d.files[i] with name := t } (by omega)) rfl ?_
    rintro _ rfl
    simp
    repeat first|((first|refine qa tOk rfl ?_|refine qb tOk rfl ?_|refine qc ?_|refine qd ?_|refine qe ?_);simp)|refine AWP_block ?_|refine AWP_seq ?_
    simp [renameR, h1, h2, hfd, hi]

def removeR (d : Disk) (s : List UInt8) : Disk × Int := if namedR d s = 0 then (match findF d.files s 0 with
  | none => (zeroD, 6)
  | some _ => (withoutR d s, 0)) else (zeroD, namedR d s)
end Go.Abs
set_option maxRecDepth 100000
namespace Go.Abs
open Go Go.Proofs
set_option linter.unusedSimpArgs false
theorem take_succ_eq {α : Type} {a b : List α} {j : Nat} (ha : j < a.length) (hb : j < b.length) (h : a.take j = b.take j) (he : a[j] = b[j]) : a.take (j + 1) = b.take (j + 1) := by
  rw [List.take_succ_eq_append_getElem ha, List.take_succ_eq_append_getElem hb, h, he]
theorem file_eq (f g : File) (h : (f.name == g.name && (f.dur == g.dur && f.vol == g.vol)) = true) : f = g := by
  cases f; cases g; simp at h; simp [h]
set_option maxHeartbeats 1000000 in
theorem dpc17 (a b : Disk) : PC Tryz.prog 23 [encD a, encD b] (fun r => r = .bool (decide (a = b))) := by
  refine PC_body tOk Tryz.func23 rfl Tryz.results23 rfl (by simp [Tryz.ntmps23]) ?_
  rw [Tryz.ntmps23]
  simp only [argSlots]
  simp only [encD]
  refine AWP_lenAgg 0 0 rfl rfl (fun hlen => ?_)
  rw [List.length_map] at hlen
  repeat first|((first|refine qa tOk rfl ?_|refine qb tOk rfl ?_|refine qc ?_|refine qd ?_|refine qe ?_);simp)|refine AWP_block ?_|refine AWP_seq ?_
  refine AWP_cond2 rfl (fun h => ?_) (fun h1 => ?_)
  · repeat first|((first|refine qa tOk rfl ?_|refine qb tOk rfl ?_|refine qc ?_|refine qd ?_|refine qe ?_);simp)|refine AWP_block ?_|refine AWP_seq ?_
    rintro rfl
    simp at h
  simp at h1
  have h1s : a.space = b.space := by grind
  have h1l : a.files.length = b.files.length := by grind
  repeat first|((first|refine qa tOk rfl ?_|refine qb tOk rfl ?_|refine qc ?_|refine qd ?_|refine qe ?_);simp)|refine AWP_block ?_|refine AWP_seq ?_
  refine AWP_countI a.files.length (fun j => a.files.take j = b.files.take j) (fun j => [(2, .vptr 0 0), (3, .vptr 1 0), (5, .i j)]) (fun _ => [.vars [.list (a.files.map encFl), .i a.space], .vars [.list (b.files.map encFl), .i b.space]]) rfl (by simp) (by simp) (by simp) (by simp) (by simp) ?_
  intro j hj hI ih
  repeat first|((first|refine qa tOk rfl ?_|refine qb tOk rfl ?_|refine qc ?_|refine qd ?_|refine qe ?_);simp)|refine AWP_block ?_|refine AWP_seq ?_
  refine AWP_cond2 rfl (fun hlt => ?_) (fun hge => ?_)
  · have hlt' : j < a.files.length := by simpa using hlt
    have hltb : j < b.files.length := by omega
    repeat first|((first|refine qa tOk rfl ?_|refine qb tOk rfl ?_|refine qc ?_|refine qd ?_|refine qe ?_);simp)|refine AWP_block ?_|refine AWP_seq ?_
    refine AWP_draw tOk mixed [] [0, 1, 2, 3, 4, 5, 6, 7, 8, 9, 10] rfl (by kernel_rfl) ?_
    simp [hlt', hltb]
    refine AWP_cond2 rfl (fun h => ?_) (fun h => ?_)
    · repeat first|((first|refine qa tOk rfl ?_|refine qb tOk rfl ?_|refine qc ?_|refine qd ?_|refine qe ?_);simp)|refine AWP_block ?_|refine AWP_seq ?_
      rintro rfl
      simp at h
    · repeat first|((first|refine qa tOk rfl ?_|refine qb tOk rfl ?_|refine qc ?_|refine qd ?_|refine qe ?_);simp)|refine AWP_block ?_|refine AWP_seq ?_
      have he : a.files[j] = b.files[j] := by
        simp only [Bool.not_eq_false', Bool.and_true] at h
        exact file_eq _ _ h
      refine ALoop_end _ (ih hlt' (take_succ_eq hlt' hltb hI he)) rfl (by simp) ?_ (by simp) (by simp)
      simp
      exact wrap_i64 _ (by omega) (by omega)
  · have hge' : j = a.files.length := by simp at hge; omega
    subst hge'
    repeat first|((first|refine qa tOk rfl ?_|refine qb tOk rfl ?_|refine qc ?_|refine qd ?_|refine qe ?_);simp)|refine AWP_block ?_|refine AWP_seq ?_
    rw [List.take_length, h1l, List.take_length] at hI
    cases a; cases b; simp at h1s hI ⊢; exact ⟨hI, h1s⟩

theorem take_map_len {α β : Type} (l : List α) (f : α → β) : List.take l.length (l.map f) = l.map f := List.take_of_length_le (by simp)
def modI (c n : Int) : Int := if c.tmod n < 0 then W (c.tmod n + n) else c.tmod n
def decideR (cs : List Int) (n : Int) : Int × List Int := match cs with
  | [] => (0, [])
  | c :: r => (modI c n, r)
def afterR (f : File) (cs : List Int) : List UInt8 × List Int :=
  if f.dur = f.vol then (f.dur, cs) else
  let p := decideR cs 3
  if p.1 = 0 then (f.dur, p.2) else if p.1 = 1 then (f.vol, p.2) else if f.vol = [] then ([], p.2) else
  let q := decideR p.2 f.vol.length
  (f.vol.take q.1.toNat, q.2)
def crashStep (st : List File × List Int) (f : File) : List File × List Int := (st.1 ++ [⟨f.name, (afterR f st.2).1, (afterR f st.2).1⟩], (afterR f st.2).2)
def crashF (fs : List File) (cs : List Int) : List File × List Int := fs.foldl crashStep ([], cs)
def VB (fs : List File) : Prop := ∀ f ∈ fs, f.vol.length ≤ 9223372036854775807
def crashR (d : Disk) (cs : List Int) : Disk × List Int × Int := if checkD d = 0 then
  let p := crashF d.files cs
  let q := fitD ⟨p.1, d.space⟩
  if q.2 = 0 then (q.1, p.2, 0) else (zeroD, [], q.2)
  else (zeroD, [], checkD d)
end Go.Abs
set_option maxRecDepth 100000
namespace Go.Abs
open Go Go.Proofs
set_option linter.unusedSimpArgs false
section

def boolTab (p : Nat → Bool) : List AV := (List.range 256).map (fun i => .bool (p i))
def zAs : Value := match look T 215 with
  | some i => i.zero
  | none => .bool false
theorem TAsz : look T 215 = some { desc := .array 256 4, zero := zAs, size := 256, bytes := 256 } := rfl
theorem zAs_cells : zAs.cells.toList.map zeroCell = boolTab (fun _ => false) := by kernel_rfl
theorem zAs_cells' : List.map zeroCell (match zAs with | Value.agg cs => cs | v => #[v]).toList = boolTab (fun _ => false) := zAs_cells
@[simp] theorem boolTab_len (p : Nat → Bool) : (boolTab p).length = 256 := by simp [boolTab]
@[simp] theorem boolTab_take (p : Nat → Bool) : (boolTab p).take 256 = boolTab p := List.take_of_length_le (by simp)
theorem boolTab_get (p : Nat → Bool) (i : Nat) (h : i < 256) : (boolTab p)[i]? = some (.bool (p i)) := by simp [boolTab, h]
theorem boolTab_drop (p : Nat → Bool) (i : Nat) (h : i < 256) : (boolTab p).drop i = .bool (p i) :: (boolTab p).drop (i + 1) := by
  rw [List.drop_eq_getElem_cons (by simpa using h)]
  congr 1
  simp [boolTab]
theorem boolTab_set (p : Nat → Bool) (i : Nat) (h : i < 256) : (boolTab p).set i (.bool true) = boolTab (fun j => j == i || p j) := by
  refine List.ext_getElem? fun k => ?_
  by_cases hk : k < 256
  · rw [boolTab_get _ _ hk]
    by_cases hki : i = k
    · subst hki; rw [List.getElem?_set_self (by simpa using h)]; simp
    · rw [List.getElem?_set_ne hki, boolTab_get _ _ hk]; simp [show k ≠ i from fun e => hki e.symm]
  · rw [List.getElem?_eq_none (by simp; omega), List.getElem?_eq_none (by simp; omega)]
@[simp] theorem boolTab_leaf (p : Nat → Bool) : (boolTab p).all AV.leaf = true := by simp [boolTab, AV.leaf]
@[simp] theorem boolTab_leaf' (p : Nat → Bool) : (∀ x, x ∈ boolTab p → x.leaf = true) ↔ True := by have := boolTab_leaf p; rw [List.all_eq_true] at this; simp only [iff_true]; exact this
@[simp] theorem boolTab_pure (p : Nat → Bool) : (boolTab p).all AV.pure = true := by simp [boolTab, AV.pure]
@[simp] theorem boolTab_flat (p : Nat → Bool) : (boolTab p).all AV.flat = true := by simp [boolTab, AV.flat]
@[simp] theorem boolTab_under (p : Nat → Bool) (n : Nat) : (boolTab p).all (AV.under n) = true := by simp [boolTab, AV.under]
theorem setCells_app (ds xs ys zs : List AV) (h : ys.length = xs.length) : setCells (ds ++ ys ++ zs) ds.length xs = ds ++ xs ++ zs := by
  induction xs generalizing ds ys with
  | nil => simp at h; subst h; simp [setCells]
  | cons x xs ih =>
    rcases ys with _ | ⟨y, ys⟩
    · simp at h
    · rw [setCells]
      have := ih (ds ++ [x]) ys (by simpa using h)
      simp at this ⊢
      exact this
@[simp] theorem boolTab_setCells (p q : Nat → Bool) : setCells (boolTab p) 0 (boolTab q) = boolTab q := by
  have := setCells_app [] (boolTab q) (boolTab p) [] (by simp)
  simpa using this
theorem allSome_map {α β : Type} (f : α → Option β) (g : α → β) (l : List α) (h : ∀ x ∈ l, f x = some (g x)) : allSome (l.map f) = some (l.map g) := by
  induction l with
  | nil => rfl
  | cons x l ih => rw [List.map_cons, h x (by simp), allSome, ih (fun y hy => h y (by simp [hy]))]; rfl
@[simp] theorem boolTab_snap0 (H : List AObj) (p : Nat → Bool) : allSome ((boolTab p).map (snap0 H)) = some (boolTab p) := by
  rw [allSome_map (snap0 H) id _ (fun x hx => ?_)]
  · simp
  · obtain ⟨i, _, rfl⟩ := List.mem_map.1 hx; simp
@[simp] theorem boolTab_snap1 (H : List AObj) (p : Nat → Bool) : allSome ((boolTab p).map (snap1 H)) = some (boolTab p) := by
  rw [allSome_map (snap1 H) id _ (fun x hx => ?_)]
  · simp
  · obtain ⟨i, _, rfl⟩ := List.mem_map.1 hx; simp
attribute [simp] TAsz zAs_cells zAs_cells'
attribute [irreducible] zAs boolTab

set_option maxHeartbeats 400000 in
theorem pc_asc_contains (p : Nat → Bool) (c : Nat) (hc : c < 256) : PC Tryz.prog 199 [.iptr (boolTab p), .int .u8 c] (fun r => r = .bool (p c)) := by
  refine PC_body tOk Tryz.func199 rfl Tryz.results199 rfl (by simp [Tryz.ntmps199]) ?_
  rw [Tryz.ntmps199]
  simp only [argSlots]
  have hc' : (c : Int) < 256 := by omega
  repeat first|((first|refine qa tOk rfl ?_|refine qb tOk rfl ?_|refine qc ?_|refine qd ?_|refine qe ?_);simp [hc', boolTab_drop p c hc])|refine AWP_block ?_|refine AWP_seq ?_

def setOf (cs : List UInt8) (i : Nat) : Bool := cs.any (fun c => c.toNat == i)
theorem setOf_succ (cs : List UInt8) (j : Nat) (h : j < cs.length) : setOf (cs.take (j + 1)) = fun i => (i == cs[j].toNat || setOf (cs.take j) i) := by
  funext i
  rw [setOf, List.take_succ_eq_append_getElem h, List.any_append, setOf]
  simp only [List.any_cons, List.any_nil, Bool.or_false]
  rw [Bool.or_comm]
  congr 1
  rw [Bool.beq_comm]
set_option maxHeartbeats 1000000 in
theorem pc_makeASCIISet (cs : List UInt8) (hcs : ∀ c ∈ cs, c.toNat < 128) (hlen : cs.length ≤ 1000000) : PC Tryz.prog 149 [.str cs] (fun r => r = .tup [.agg (boolTab (setOf cs)), .bool true]) := by
  refine PC_body tOk Tryz.func149 rfl Tryz.results149 rfl (by simp [Tryz.ntmps149]) ?_
  rw [Tryz.ntmps149]
  simp only [argSlots]
  repeat first|((first|refine qa tOk rfl ?_|refine qb tOk rfl ?_|refine qc ?_|refine qd ?_|refine qe ?_);simp [-Value.cells])|refine AWP_block ?_|refine AWP_seq ?_
  refine AWP_count cs.length (fun j => [(0, .str cs), (2, .vptr 0 0), (4, .i j)]) (fun j => [.vars (boolTab (setOf (cs.take j)))]) rfl (by simp) (by simp [setOf]) (by simp) (by simp) ?_
  intro j hj ih
  repeat first|((first|refine qa tOk rfl ?_|refine qb tOk rfl ?_|refine qc ?_|refine qd ?_|refine qe ?_);simp)|refine AWP_block ?_|refine AWP_seq ?_
  refine AWP_cond2 rfl (fun hlt => ?_) (fun hge => ?_)
  · have hlt' : j < cs.length := by simpa using hlt
    have hcj := hcs cs[j] (List.getElem_mem hlt')
    repeat first|((first|refine qa tOk rfl ?_|refine qb tOk rfl ?_|refine qc ?_|refine qd ?_|refine qe ?_);simp [hlt'])|refine AWP_block ?_|refine AWP_seq ?_
    refine AWP_cond (b := false) ?_ ?_
    · simp; omega
    have h1 : (cs[j].toNat : Int) < 256 := by omega
    have h2 : cs[j].toNat ≤ 255 := by omega
    repeat first|((first|refine qa tOk rfl ?_|refine qb tOk rfl ?_|refine qc ?_|refine qd ?_|refine qe ?_);simp [hlt', h1, h2, boolTab_set (setOf (cs.take j)) cs[j].toNat (by omega)])|refine AWP_block ?_|refine AWP_seq ?_
    refine ALoop_end [] (ih hlt') ?_ (by simp) ?_ (by simp) (by simp)
    · rw [setOf_succ cs j hlt']; simp
    · simp
      exact wrap_i64 _ (by omega) (by omega)
  · have hge' : j = cs.length := by simp at hge; omega
    subst hge'
    repeat first|((first|refine qa tOk rfl ?_|refine qb tOk rfl ?_|refine qc ?_|refine qd ?_|refine qe ?_);simp)|refine AWP_block ?_|refine AWP_seq ?_

def rtrim (p : UInt8 → Bool) (s : List UInt8) : List UInt8 := (s.reverse.dropWhile p).reverse
theorem rtrim_app (p : UInt8 → Bool) (s : List UInt8) (c : UInt8) : rtrim p (s ++ [c]) = if p c = true then rtrim p s else s ++ [c] := by
  simp only [rtrim, List.reverse_append, List.reverse_cons, List.reverse_nil, List.nil_append, List.cons_append, List.dropWhile_cons]
  split <;> simp
set_option maxHeartbeats 1000000 in
theorem pc_trimRightASCII (p : Nat → Bool) (s : List UInt8) (hlen : s.length ≤ 1000000) : PC Tryz.prog 151 [.str s, .iptr (boolTab p)] (fun r => r = .str (rtrim (fun c => p c.toNat) s)) := by
  refine PC_body tOk Tryz.func151 rfl Tryz.results151 rfl (by simp [Tryz.ntmps151]) ?_
  rw [Tryz.ntmps151]
  simp only [argSlots]
  repeat first|((first|refine qa tOk rfl ?_|refine qb tOk rfl ?_|refine qc ?_|refine qd ?_|refine qe ?_);simp)|refine AWP_block ?_|refine AWP_seq ?_
  refine AWP_loop (ALoop_keep (sl' := [(0, .str s), (1, .iptr (boolTab p))]) ?_ (by simp))
  refine ALoop_wf (F := fun u => ⟨[(0, .str u), (1, .iptr (boolTab p))], []⟩) (fun u => u.length ≤ s.length ∧ rtrim (fun c => p c.toNat) u = rtrim (fun c => p c.toNat) s) (fun u => u.length) ?_ s ⟨Nat.le_refl _, rfl⟩
  rintro u ⟨hu, hr⟩ ih
  rcases List.eq_nil_or_concat u with rfl | ⟨v, c, rfl⟩
  · repeat first|((first|refine qa tOk rfl ?_|refine qb tOk rfl ?_|refine qc ?_|refine qd ?_|refine qe ?_);simp)|refine AWP_block ?_|refine AWP_seq ?_
    refine AWP_cond rfl ?_
    repeat first|((first|refine qa tOk rfl ?_|refine qb tOk rfl ?_|refine qc ?_|refine qd ?_|refine qe ?_);simp)|refine AWP_block ?_|refine AWP_seq ?_
    rw [← hr]; rfl
  · rw [List.concat_eq_append] at *
    simp at hu
    have hw : IntKind.i64.wrap (v.length : Int) = v.length := wrap_i64 _ (by omega) (by omega)
    rw [rtrim_app] at hr
    repeat first|((first|refine qa tOk rfl ?_|refine qb tOk rfl ?_|refine qc ?_|refine qd ?_|refine qe ?_);simp)|refine AWP_block ?_|refine AWP_seq ?_
    refine AWP_cond (b := true) ?_ ?_
    · simp
    repeat first|((first|refine qa tOk rfl ?_|refine qb tOk rfl ?_|refine qc ?_|refine qd ?_|refine qe ?_);simp [hw])|refine AWP_block ?_|refine AWP_seq ?_
    refine AStep_PC rfl rfl (by simp) (pc_asc_contains p c.toNat (by have := c.toNat_lt; omega)) rfl ?_
    rintro _ rfl
    simp
    refine AWP_cond2 rfl (fun h => ?_) (fun h => ?_)
    · repeat first|((first|refine qa tOk rfl ?_|refine qb tOk rfl ?_|refine qc ?_|refine qd ?_|refine qe ?_);simp)|refine AWP_block ?_|refine AWP_seq ?_
      simp at h
      rw [h] at hr
      simpa using hr
    · have h0 : (v.length : Int) ≤ v.length + 1 := by omega
      repeat first|((first|refine qa tOk rfl ?_|refine qb tOk rfl ?_|refine qc ?_|refine qd ?_|refine qe ?_);simp [hw, h0])|refine AWP_block ?_|refine AWP_seq ?_
      simp at h
      rw [if_pos h] at hr
      refine ALoop_end [] (ih v ⟨by omega, hr⟩ (by simp)) rfl (by simp) ?_ (by simp) (by simp)
      simp

set_option maxHeartbeats 1000000 in
theorem pc_trimLeftASCII (p : Nat → Bool) (s : List UInt8) (hlen : s.length ≤ 1000000) : PC Tryz.prog 150 [.str s, .iptr (boolTab p)] (fun r => r = .str (s.dropWhile (fun c => p c.toNat))) := by
  refine PC_body tOk Tryz.func150 rfl Tryz.results150 rfl (by simp [Tryz.ntmps150]) ?_
  rw [Tryz.ntmps150]
  simp only [argSlots]
  repeat first|((first|refine qa tOk rfl ?_|refine qb tOk rfl ?_|refine qc ?_|refine qd ?_|refine qe ?_);simp)|refine AWP_block ?_|refine AWP_seq ?_
  refine AWP_loop (ALoop_keep (sl' := [(0, .str s), (1, .iptr (boolTab p))]) ?_ (by simp))
  refine ALoop_wf (F := fun u => ⟨[(0, .str u), (1, .iptr (boolTab p))], []⟩) (fun u => u.length ≤ s.length ∧ u.dropWhile (fun c => p c.toNat) = s.dropWhile (fun c => p c.toNat)) (fun u => u.length) ?_ s ⟨Nat.le_refl _, rfl⟩
  rintro u ⟨hu, hr⟩ ih
  rcases u with _ | ⟨c, v⟩
  · repeat first|((first|refine qa tOk rfl ?_|refine qb tOk rfl ?_|refine qc ?_|refine qd ?_|refine qe ?_);simp)|refine AWP_block ?_|refine AWP_seq ?_
    refine AWP_cond rfl ?_
    repeat first|((first|refine qa tOk rfl ?_|refine qb tOk rfl ?_|refine qc ?_|refine qd ?_|refine qe ?_);simp)|refine AWP_block ?_|refine AWP_seq ?_
    rw [← hr]; rfl
  · simp at hu
    rw [List.dropWhile_cons] at hr
    repeat first|((first|refine qa tOk rfl ?_|refine qb tOk rfl ?_|refine qc ?_|refine qd ?_|refine qe ?_);simp)|refine AWP_block ?_|refine AWP_seq ?_
    refine AWP_cond (b := true) ?_ ?_
    · simp
    repeat first|((first|refine qa tOk rfl ?_|refine qb tOk rfl ?_|refine qc ?_|refine qd ?_|refine qe ?_);simp)|refine AWP_block ?_|refine AWP_seq ?_
    refine AStep_PC rfl rfl (by simp) (pc_asc_contains p c.toNat (by have := c.toNat_lt; omega)) rfl ?_
    rintro _ rfl
    simp
    refine AWP_cond2 rfl (fun h => ?_) (fun h => ?_)
    · repeat first|((first|refine qa tOk rfl ?_|refine qb tOk rfl ?_|refine qc ?_|refine qd ?_|refine qe ?_);simp)|refine AWP_block ?_|refine AWP_seq ?_
      simp at h
      rw [h] at hr
      simpa using hr
    · have h0 : (1 : Int) ≤ v.length + 1 := by omega
      repeat first|((first|refine qa tOk rfl ?_|refine qb tOk rfl ?_|refine qc ?_|refine qd ?_|refine qe ?_);simp [h0])|refine AWP_block ?_|refine AWP_seq ?_
      simp at h
      rw [if_pos h] at hr
      refine ALoop_end [] (ih v ⟨by omega, hr⟩ (by simp)) rfl (by simp) ?_ (by simp) (by simp)
      simp

def trimS (cs s : List UInt8) : List UInt8 := (rtrim (fun c => setOf cs c.toNat) s).dropWhile (fun c => setOf cs c.toNat)
theorem rtrim_len (p : UInt8 → Bool) (s : List UInt8) : (rtrim p s).length ≤ s.length := by
  simp only [rtrim, List.length_reverse]
  have := (List.dropWhile_sublist p (l := s.reverse)).length_le
  simpa using this
set_option maxHeartbeats 1000000 in
theorem pc_Trim (cs s : List UInt8) (hcs : ∀ c ∈ cs, c.toNat < 128) (hlen : cs.length ≤ 1000000) (h2 : 2 ≤ cs.length) (hs : s.length ≤ 1000000) (hs0 : s ≠ []) : PC Tryz.prog 108 [.str s, .str cs] (fun r => r = .str (trimS cs s)) := by
  refine PC_body tOk Tryz.func108 rfl Tryz.results108 rfl (by simp [Tryz.ntmps108]) ?_
  rw [Tryz.ntmps108]
  simp only [argSlots]
  repeat first|((first|refine qa tOk rfl ?_|refine qb tOk rfl ?_|refine qc ?_|refine qd ?_|refine qe ?_);simp)|refine AWP_block ?_|refine AWP_seq ?_
  rcases cs with _ | ⟨a, _ | ⟨b, r⟩⟩
  · simp at h2
  · simp at h2
  generalize hcc : a :: b :: r = cs at *
  have hc0 : cs ≠ [] := by rw [← hcc]; simp
  refine AWP_cond (b := false) (by simp [hs0, hc0]) ?_
  have hne : ((cs.length : Int) == 1) = false := by simp; omega
  have hg : cs[0]? = some a := by rw [← hcc]; rfl
  repeat first|((first|refine qa tOk rfl ?_|refine qb tOk rfl ?_|refine qc ?_|refine qd ?_|refine qe ?_);simp [hne, hg])|refine AWP_block ?_|refine AWP_seq ?_
  refine AWP_cond rfl ?_
  repeat first|((first|refine qa tOk rfl ?_|refine qb tOk rfl ?_|refine qc ?_|refine qd ?_|refine qe ?_);simp [-Value.cells, -AV.leaf])|refine AWP_block ?_|refine AWP_seq ?_
  refine AStep_PC rfl rfl (by simp) (pc_makeASCIISet cs hcs hlen) rfl ?_
  rintro _ rfl
  simp [-Value.cells, -AV.leaf]
  repeat first|((first|refine qa tOk rfl ?_|refine qb tOk rfl ?_|refine qc ?_|refine qd ?_|refine qe ?_);simp [-Value.cells, -AV.leaf])|refine AWP_block ?_|refine AWP_seq ?_
  refine AWP_cond rfl ?_
  repeat first|((first|refine qa tOk rfl ?_|refine qb tOk rfl ?_|refine qc ?_|refine qd ?_|refine qe ?_);simp)|refine AWP_block ?_|refine AWP_seq ?_
  refine AStep_PCflat rfl rfl (by first | (simp; done) | (simp; rfl)) (pc_trimRightASCII (setOf cs) s hs) rfl ?_
  rintro _ rfl
  refine ⟨by first | simp | rfl | trivial, ?_⟩
  simp
  refine AStep_PCflat rfl rfl (by first | (simp; done) | (simp; rfl)) (pc_trimLeftASCII (setOf cs) _ (Nat.le_trans (rtrim_len _ s) hs)) rfl ?_
  rintro _ rfl
  refine ⟨by first | simp | rfl | trivial, ?_⟩
  simp
  repeat first|((first|refine qa tOk rfl ?_|refine qb tOk rfl ?_|refine qc ?_|refine qd ?_|refine qe ?_);simp)|refine AWP_block ?_|refine AWP_seq ?_
  rfl

theorem dw_nil {α : Type} (p : α → Bool) (l : List α) : l.dropWhile p = [] ↔ ∀ x ∈ l, p x = true := by
  induction l with
  | nil => simp
  | cons a l ih =>
    rw [List.dropWhile_cons]
    split
    · rename_i h; rw [ih]; simp [h]
    · rename_i h; simp [h]
theorem dw_mem {α : Type} (p : α → Bool) (l : List α) (x : α) (h : x ∈ l) : p x = true ∨ x ∈ l.dropWhile p := by
  induction l with
  | nil => cases h
  | cons a l ih =>
    rw [List.dropWhile_cons]
    split
    · rename_i ha
      rcases List.mem_cons.1 h with rfl | h
      · exact .inl ha
      · exact ih h
    · exact .inr h
theorem trimS_nil (cs s : List UInt8) : (trimS cs s == []) = s.all (fun c => setOf cs c.toNat) := by
  rw [Bool.eq_iff_iff]
  simp only [beq_iff_eq, trimS, List.all_eq_true]
  rw [dw_nil]
  constructor
  · intro h x hx
    rcases dw_mem (fun c => setOf cs c.toNat) s.reverse x (by simpa using hx) with h1 | h1
    · exact h1
    · exact h x (by simpa [rtrim] using h1)
  · intro h x hx
    refine h x ?_
    have := (List.dropWhile_sublist (fun c : UInt8 => setOf cs c.toNat) (l := s.reverse)).subset (by simpa [rtrim] using hx)
    simpa using this


end
end Go.Abs
set_option maxRecDepth 100000
namespace Go.Abs
open Go Go.Proofs
set_option linter.unusedSimpArgs false
def charset : List UInt8 := [97, 98, 99, 100, 101, 102, 103, 104, 105, 106, 107, 108, 109, 110, 111, 112, 113, 114, 115, 116, 117, 118, 119, 120, 121, 122, 65, 66, 67, 68, 69, 70, 71, 72, 73, 74, 75, 76, 77, 78, 79, 80, 81, 82, 83, 84, 85, 86, 87, 88, 89, 90, 48, 49, 50, 51, 52, 53, 54, 55, 56, 57, 95, 46, 45]
theorem charset_ok : ∀ n : Fin 256, setOf charset n.val = allowedN n.val := by decide +kernel
theorem charset_set (c : UInt8) : setOf charset c.toNat = allowedN c.toNat := charset_ok ⟨c.toNat, c.toNat_lt⟩
theorem charset_lt : ∀ c ∈ charset, c.toNat < 128 := by decide +kernel

set_option maxHeartbeats 1000000 in
theorem dpc53 (s : List UInt8) : PC Tryz.prog 65 [.str s] (fun r => r = .bool (nameOk s)) := by
  refine PC_body tOk Tryz.func65 rfl Tryz.results65 rfl (by simp [Tryz.ntmps65]) ?_
  rw [Tryz.ntmps65]
  simp only [argSlots]
  rcases s with _ | ⟨c, r⟩
  · repeat first|((first|refine qa tOk rfl ?_|refine qb tOk rfl ?_|refine qc ?_|refine qd ?_|refine qe ?_);simp)|refine AWP_block ?_|refine AWP_seq ?_
    refine AStep_skip rfl rfl ?_
    simp
    repeat first|((first|refine qa tOk rfl ?_|refine qb tOk rfl ?_|refine qc ?_|refine qd ?_|refine qe ?_);simp)|refine AWP_block ?_|refine AWP_seq ?_
    rfl
  generalize hs : c :: r = s
  have hs0 : s ≠ [] := by rw [← hs]; simp
  have hem : s.isEmpty = false := by rw [← hs]; rfl
  have hpos : 0 < s.length := List.length_pos_iff.2 hs0
  by_cases hl : s.length ≤ 48
  · have hl' : (s.length : Int) ≤ 48 := by omega
    repeat first|((first|refine qa tOk rfl ?_|refine qb tOk rfl ?_|refine qc ?_|refine qd ?_|refine qe ?_);simp [hem, hl'])|refine AWP_block ?_|refine AWP_seq ?_
    refine AStep_PC rfl rfl (by simp) (pc_Trim charset s charset_lt (by decide) (by decide) (by omega) hs0) rfl ?_
    rintro _ rfl
    simp
    repeat first|((first|refine qa tOk rfl ?_|refine qb tOk rfl ?_|refine qc ?_|refine qd ?_|refine qe ?_);simp)|refine AWP_block ?_|refine AWP_seq ?_
    rw [show (trimS charset s).isEmpty = (trimS charset s == []) by cases trimS charset s <;> rfl, trimS_nil]
    simp only [charset_set, nameOk]
    rw [decide_eq_true hl', decide_eq_true (show (1 : Int) ≤ s.length by omega)]
    simp
  · have hl' : ¬ (s.length : Int) ≤ 48 := by omega
    have hl2 : (48 : Int) < s.length := by omega
    repeat first|((first|refine qa tOk rfl ?_|refine qb tOk rfl ?_|refine qc ?_|refine qd ?_|refine qe ?_);simp [hem, hl'])|refine AWP_block ?_|refine AWP_seq ?_
    refine AStep_skip (by simp [hem, hl2]) rfl ?_
    simp [hem, hl2]
    repeat first|((first|refine qa tOk rfl ?_|refine qb tOk rfl ?_|refine qc ?_|refine qd ?_|refine qe ?_);simp)|refine AWP_block ?_|refine AWP_seq ?_
    simp [nameOk, hl']
end Go.Abs
set_option maxRecDepth 100000
namespace Go.Abs
open Go Go.Proofs
set_option linter.unusedSimpArgs false

set_option maxHeartbeats 2000000 in
theorem dpc25 (d : Disk) : PC Tryz.prog 33 [encD d] (fun r => r = .i (checkD d)) := by
  refine PC_body tOk Tryz.func33 rfl Tryz.results33 rfl (by simp [Tryz.ntmps33]) ?_
  rw [Tryz.ntmps33]
  simp only [argSlots]
  simp only [encD]
  refine AWP_lenAgg 0 0 rfl rfl (fun hlen => ?_)
  rw [List.length_map] at hlen
  repeat first|((first|refine qa tOk rfl ?_|refine qb tOk rfl ?_|refine qc ?_|refine qd ?_|refine qe ?_);simp)|refine AWP_block ?_|refine AWP_seq ?_
  refine AWP_cond2 rfl (fun h => ?_) (fun h1 => ?_)
  · repeat first|((first|refine qa tOk rfl ?_|refine qb tOk rfl ?_|refine qc ?_|refine qd ?_|refine qe ?_);simp)|refine AWP_block ?_|refine AWP_seq ?_
    simp [checkD, badSp, h]
  repeat first|((first|refine qa tOk rfl ?_|refine qb tOk rfl ?_|refine qc ?_|refine qd ?_|refine qe ?_);simp)|refine AWP_block ?_|refine AWP_seq ?_
  refine AWP_cond2 rfl (fun h => ?_) (fun h2 => ?_)
  · repeat first|((first|refine qa tOk rfl ?_|refine qb tOk rfl ?_|refine qc ?_|refine qd ?_|refine qe ?_);simp)|refine AWP_block ?_|refine AWP_seq ?_
    simp only [checkD, badSp, h1]
    simp at h
    simp [h]
  repeat first|((first|refine qa tOk rfl ?_|refine qb tOk rfl ?_|refine qc ?_|refine qd ?_|refine qe ?_);simp)|refine AWP_block ?_|refine AWP_seq ?_
  refine AWP_countI d.files.length (fun j => chkL none d.files = chkL (prevN d.files j) (d.files.drop j)) (fun j => [(1, .vptr 0 0), (22, .list (d.files.map encFl)), (23, .i d.files.length), (24, .i j)]) (fun _ => [.vars [.list (d.files.map encFl), .i d.space]]) rfl (by simp) (by simp) (by simp) (by simp) (by simp [prevN]) ?_
  intro j hj hI ih
  repeat first|((first|refine qa tOk rfl ?_|refine qb tOk rfl ?_|refine qc ?_|refine qd ?_|refine qe ?_);simp)|refine AWP_block ?_|refine AWP_seq ?_
  refine AWP_cond2 rfl (fun hlt => ?_) (fun hge => ?_)
  · have hlt' : j < d.files.length := by simpa using hlt
    rw [drop_getF hlt', chkL] at hI
    repeat first|((first|refine qa tOk rfl ?_|refine qb tOk rfl ?_|refine qc ?_|refine qd ?_|refine qe ?_);simp [hlt'])|refine AWP_block ?_|refine AWP_seq ?_
    refine AStep_PC rfl rfl (by simp) (dpc53 _) rfl ?_
    rintro _ rfl
    simp [hlt']
    refine AWP_cond2 rfl (fun hno => ?_) (fun hok => ?_)
    · repeat first|((first|refine qa tOk rfl ?_|refine qb tOk rfl ?_|refine qc ?_|refine qd ?_|refine qe ?_);simp)|refine AWP_block ?_|refine AWP_seq ?_
      simp at hno
      rw [if_pos hno] at hI
      simp at h2
      rw [checkD, if_neg (by simp [badSp, h1]), if_neg (by omega), hI]
      simp
    · simp at hok
      rw [if_neg (by simp [hok])] at hI
      have hbp : ∀ b, badPrev (prevN d.files j) d.files[j].name = b → b = true → (8 : Int) + 6 = checkD d := fun b e1 e2 => by
        rw [e1, if_pos e2] at hI
        simp at h2
        rw [checkD, if_neg (by simp [badSp, h1]), if_neg (by omega), hI]
        simp
      have hbn : badPrev (prevN d.files j) d.files[j].name = false → chkL none d.files = chkL (prevN d.files (j + 1)) (d.files.drop (j + 1)) := fun e => by
        rw [e, if_neg (by simp)] at hI
        rw [prevN_succ hlt', hI]
      rcases j with _ | j
      · repeat first|((first|refine qa tOk rfl ?_|refine qb tOk rfl ?_|refine qc ?_|refine qd ?_|refine qe ?_);simp)|refine AWP_block ?_|refine AWP_seq ?_
        refine AWP_draw tOk mixed [] [0, 1, 2, 3, 4, 5, 6, 7, 8, 9, 10, 11, 12, 13, 14] rfl (by kernel_rfl) ?_
        simp [hlt']
        refine AWP_cond rfl ?_
        repeat first|((first|refine qa tOk rfl ?_|refine qb tOk rfl ?_|refine qc ?_|refine qd ?_|refine qe ?_);simp)|refine AWP_block ?_|refine AWP_seq ?_
        refine ALoop_end _ (ih hlt' (hbn rfl)) rfl (by simp) ?_ (by simp) (by simp)
        simp
        exact wrap_i64 _ (by omega) (by omega)
      · have hj1 : j < d.files.length := by omega
        have hw : IntKind.i64.wrap (j : Int) = j := wrap_i64 _ (by omega) (by omega)
        have g1 : (0 : Int) ≤ (j : Int) + 1 := by omega
        have g2 : (j : Int) + 1 < d.files.length := by omega
        repeat first|((first|refine qa tOk rfl ?_|refine qb tOk rfl ?_|refine qc ?_|refine qd ?_|refine qe ?_);simp)|refine AWP_block ?_|refine AWP_seq ?_
        refine AWP_draw tOk mixed [] [0, 1, 2, 3, 4, 5, 6, 7, 8, 9, 10, 11, 12, 13, 14] rfl (by kernel_rfl) ?_
        simp [hlt', hj1, hw, g1, g2]
        refine AWP_cond2 rfl (fun hb => ?_) (fun hb => ?_)
        · repeat first|((first|refine qa tOk rfl ?_|refine qb tOk rfl ?_|refine qc ?_|refine qd ?_|refine qe ?_);simp)|refine AWP_block ?_|refine AWP_seq ?_
          exact hbp _ rfl (by rw [prevN_succ hj1]; exact hb)
        · repeat first|((first|refine qa tOk rfl ?_|refine qb tOk rfl ?_|refine qc ?_|refine qd ?_|refine qe ?_);simp)|refine AWP_block ?_|refine AWP_seq ?_
          refine ALoop_end _ (ih hlt' (hbn (by rw [prevN_succ hj1]; exact hb))) rfl (by simp) ?_ (by simp) (by simp)
          simp
          exact wrap_i64 _ (by omega) (by omega)
  · have hge' : j = d.files.length := by simp at hge; omega
    subst hge'
    repeat first|((first|refine qa tOk rfl ?_|refine qb tOk rfl ?_|refine qc ?_|refine qd ?_|refine qe ?_);simp)|refine AWP_block ?_|refine AWP_seq ?_
    refine AStep_PC rfl rfl (by simp) (dpc46 _) rfl ?_
    rintro _ rfl
    simp
    repeat first|((first|refine qa tOk rfl ?_|refine qb tOk rfl ?_|refine qc ?_|refine qd ?_|refine qe ?_);simp)|refine AWP_block ?_|refine AWP_seq ?_
    rw [List.drop_length, chkL] at hI
    simp at h2
    rw [checkD, if_neg (by simp [badSp, h1]), if_neg (by omega), if_pos hI]
    refine AWP_cond2 rfl (fun hb => ?_) (fun hb => ?_)
    · repeat first|((first|refine qa tOk rfl ?_|refine qb tOk rfl ?_|refine qc ?_|refine qd ?_|refine qe ?_);simp)|refine AWP_block ?_|refine AWP_seq ?_
      rw [overB, hb]
    · repeat first|((first|refine qa tOk rfl ?_|refine qb tOk rfl ?_|refine qc ?_|refine qd ?_|refine qe ?_);simp)|refine AWP_block ?_|refine AWP_seq ?_
      rw [overB, hb]

@[simp] def encS (s : List UInt8) : AV := .str s
def checkedR (d : Disk) (ns : List (List UInt8)) : Int := if checkD d = 0 then (if ns.all nameOk = true then 0 else 8) else checkD d
set_option maxHeartbeats 1000000 in
theorem dpc49 (d : Disk) (ns : List (List UInt8)) : PC Tryz.prog 104 [encD d, .list (ns.map encS)] (fun r => r = .i (checkedR d ns)) := by
  refine PC_body tOk Tryz.func104 rfl Tryz.results104 rfl (by simp [Tryz.ntmps104]) ?_
  rw [Tryz.ntmps104]
  simp only [argSlots]
  simp only [encD]
  refine AWP_len 1 rfl (fun hlen => ?_)
  rw [List.length_map] at hlen
  repeat first|((first|refine qa tOk rfl ?_|refine qb tOk rfl ?_|refine qc ?_|refine qd ?_|refine qe ?_);simp)|refine AWP_block ?_|refine AWP_seq ?_
  refine AStep_PC rfl rfl (by simp) (dpc25 d) rfl ?_
  rintro _ rfl
  simp
  repeat first|((first|refine qa tOk rfl ?_|refine qb tOk rfl ?_|refine qc ?_|refine qd ?_|refine qe ?_);simp)|refine AWP_block ?_|refine AWP_seq ?_
  refine AWP_cond2 rfl (fun h => ?_) (fun h1 => ?_)
  · repeat first|((first|refine qa tOk rfl ?_|refine qb tOk rfl ?_|refine qc ?_|refine qd ?_|refine qe ?_);simp)|refine AWP_block ?_|refine AWP_seq ?_
    simp at h
    simp [checkedR, h]
  simp at h1
  repeat first|((first|refine qa tOk rfl ?_|refine qb tOk rfl ?_|refine qc ?_|refine qd ?_|refine qe ?_);simp)|refine AWP_block ?_|refine AWP_seq ?_
  refine AWP_countI ns.length (fun j => (ns.take j).all nameOk = true) (fun j => [(13, .list (ns.map encS)), (14, .i ns.length), (15, .i j)]) (fun _ => []) rfl (by simp) (by simp) (by simp) (by simp) (by simp) ?_
  intro j hj hI ih
  repeat first|((first|refine qa tOk rfl ?_|refine qb tOk rfl ?_|refine qc ?_|refine qd ?_|refine qe ?_);simp)|refine AWP_block ?_|refine AWP_seq ?_
  refine AWP_cond2 rfl (fun hlt => ?_) (fun hge => ?_)
  · have hlt' : j < ns.length := by simpa using hlt
    repeat first|((first|refine qa tOk rfl ?_|refine qb tOk rfl ?_|refine qc ?_|refine qd ?_|refine qe ?_);simp [hlt'])|refine AWP_block ?_|refine AWP_seq ?_
    refine AStep_PC rfl rfl (by simp) (dpc53 _) rfl ?_
    rintro _ rfl
    simp
    refine AWP_cond2 rfl (fun hno => ?_) (fun hok => ?_)
    · repeat first|((first|refine qa tOk rfl ?_|refine qb tOk rfl ?_|refine qc ?_|refine qd ?_|refine qe ?_);simp)|refine AWP_block ?_|refine AWP_seq ?_
      have := all_false_of ns nameOk j hlt' (by simpa using hno)
      simp [checkedR, h1, this]
    · repeat first|((first|refine qa tOk rfl ?_|refine qb tOk rfl ?_|refine qc ?_|refine qd ?_|refine qe ?_);simp)|refine AWP_block ?_|refine AWP_seq ?_
      refine ALoop_end _ (ih hlt' ?_) rfl (by simp) ?_ (by simp) (by simp)
      · rw [all_take_succ ns _ j hlt', hI]; simpa using hok
      · simp
        exact wrap_i64 _ (by omega) (by omega)
  · have hge' : j = ns.length := by simp at hge; omega
    subst hge'
    repeat first|((first|refine qa tOk rfl ?_|refine qb tOk rfl ?_|refine qc ?_|refine qd ?_|refine qe ?_);simp)|refine AWP_block ?_|refine AWP_seq ?_
    rw [List.take_length] at hI
    simp [checkedR, h1, hI]
end Go.Abs
set_option maxRecDepth 100000
namespace Go.Abs
open Go Go.Proofs
set_option linter.unusedSimpArgs false

theorem dpc68 (s : List UInt8) : PC Tryz.prog 198 [.str s] (fun r => r = .bool false) := by
  refine PC_body tOk Tryz.func198 rfl Tryz.results198 rfl (by simp [Tryz.ntmps198]) ?_
  rw [Tryz.ntmps198]
  simp only [argSlots]
  repeat first|((first|refine qa tOk rfl ?_|refine qb tOk rfl ?_|refine qc ?_|refine qd ?_|refine qe ?_);simp)|refine AWP_block ?_|refine AWP_seq ?_
def cmpSD (a b : List UInt8) : Int := if Op.bytesLess a b = true then -1 else if strLe a b = false then 1 else 0
theorem dpc63 (a b : List UInt8) : PC Tryz.prog 146 [.str a, .str b] (fun r => r = .i (cmpSD a b)) := by
  refine PC_body tOk Tryz.func146 rfl Tryz.results146 rfl (by simp [Tryz.ntmps146]) ?_
  rw [Tryz.ntmps146]
  simp only [argSlots]
  repeat first|((first|refine qa tOk rfl ?_|refine qb tOk rfl ?_|refine qc ?_|refine qd ?_|refine qe ?_);simp)|refine AWP_block ?_|refine AWP_seq ?_
  refine AStep_PC rfl rfl (by simp) (dpc68 a) rfl ?_
  rintro _ rfl
  simp
  repeat first|((first|refine qa tOk rfl ?_|refine qb tOk rfl ?_|refine qc ?_|refine qd ?_|refine qe ?_);simp)|refine AWP_block ?_|refine AWP_seq ?_
  refine AStep_PC rfl rfl (by simp) (dpc68 b) rfl ?_
  rintro _ rfl
  simp
  repeat first|((first|refine qa tOk rfl ?_|refine qb tOk rfl ?_|refine qc ?_|refine qd ?_|refine qe ?_);simp)|refine AWP_block ?_|refine AWP_seq ?_
  refine AWP_cond rfl ?_
  repeat first|((first|refine qa tOk rfl ?_|refine qb tOk rfl ?_|refine qc ?_|refine qd ?_|refine qe ?_);simp)|refine AWP_block ?_|refine AWP_seq ?_
  refine AWP_cond rfl ?_
  repeat first|((first|refine qa tOk rfl ?_|refine qb tOk rfl ?_|refine qc ?_|refine qd ?_|refine qe ?_);simp)|refine AWP_block ?_|refine AWP_seq ?_
  refine AWP_cond2 rfl (fun h => ?_) (fun h => ?_)
  · repeat first|((first|refine qa tOk rfl ?_|refine qb tOk rfl ?_|refine qc ?_|refine qd ?_|refine qe ?_);simp)|refine AWP_block ?_|refine AWP_seq ?_
    simp [cmpSD, h]
  repeat first|((first|refine qa tOk rfl ?_|refine qb tOk rfl ?_|refine qc ?_|refine qd ?_|refine qe ?_);simp)|refine AWP_block ?_|refine AWP_seq ?_
  refine AWP_cond2 rfl (fun h2 => ?_) (fun h2 => ?_)
  · repeat first|((first|refine qa tOk rfl ?_|refine qb tOk rfl ?_|refine qc ?_|refine qd ?_|refine qe ?_);simp)|refine AWP_block ?_|refine AWP_seq ?_
    have h3 : strLe a b = false := by unfold strLe; revert h2; cases Op.bytesLess a b <;> cases (a == b) <;> simp
    simp [cmpSD, h, h3]
  · repeat first|((first|refine qa tOk rfl ?_|refine qb tOk rfl ?_|refine qc ?_|refine qd ?_|refine qe ?_);simp)|refine AWP_block ?_|refine AWP_seq ?_
    have h3 : strLe a b = true := by unfold strLe; revert h2; cases Op.bytesLess a b <;> cases (a == b) <;> simp
    simp [cmpSD, h, h3]
theorem dpc62 (f : File) (s : List UInt8) : PC Tryz.prog 145 [encFl f, .str s] (fun r => r = .i (cmpSD f.name s)) := by
  refine PC_body tOk Tryz.func145 rfl Tryz.results145 rfl (by simp [Tryz.ntmps145]) ?_
  rw [Tryz.ntmps145]
  simp only [argSlots]
  simp only [encFl]
  repeat first|((first|refine qa tOk rfl ?_|refine qb tOk rfl ?_|refine qc ?_|refine qd ?_|refine qe ?_);simp)|refine AWP_block ?_|refine AWP_seq ?_
  refine AStep_PC rfl rfl (by simp) (dpc63 f.name s) rfl ?_
  rintro _ rfl
  simp
  repeat first|((first|refine qa tOk rfl ?_|refine qb tOk rfl ?_|refine qc ?_|refine qd ?_|refine qe ?_);simp)|refine AWP_block ?_|refine AWP_seq ?_

def lessF (f : File) (s : List UInt8) : Bool := Op.bytesLess f.name s
theorem cmpS_neg (a b : List UInt8) : decide (cmpSD a b < 0) = Op.bytesLess a b := by
  unfold cmpSD
  cases h : Op.bytesLess a b
  · simp; split <;> simp
  · simp
def lb (fs : List File) (s : List UInt8) : Nat := (fs.takeWhile (lessF · s)).length
def foundAt (fs : List File) (s : List UInt8) (i : Nat) : Bool := match fs[i]? with
  | some f => cmpSD f.name s == 0
  | none => false
theorem lb_uniq (fs : List File) (s : List UInt8) (i : Nat) (hi : i ≤ fs.length) (h1 : ∀ k, (h : k < fs.length) → k < i → lessF fs[k] s = true) (h2 : ∀ k, (h : k < fs.length) → i ≤ k → lessF fs[k] s = false) : i = lb fs s := by
  induction fs generalizing i with
  | nil => simp at hi; subst hi; rfl
  | cons f fs ih =>
    unfold lb
    rw [List.takeWhile_cons]
    rcases i with _ | i
    · have := h2 0 (by simp) (Nat.le_refl _)
      simp at this
      simp [this]
    · have := h1 0 (by simp) (by omega)
      simp at this
      simp only [this, if_true, List.length_cons]
      have := ih i (by simpa using hi) (fun k h hk => by have := h1 (k + 1) (by simpa using h) (by omega); simpa using this) (fun k h hk => by have := h2 (k + 1) (by simpa using h) (by omega); simpa using this)
      rw [this]; rfl

set_option maxHeartbeats 2000000 in
theorem dpc61 (fs : List File) (s : List UInt8) (hn : fs.length ≤ 1000000) (hmono : ∀ a b, (ha : a ≤ b) → (hb : b < fs.length) → lessF fs[b] s = true → lessF (fs[a]'(by omega)) s = true) :
    PC Tryz.prog 144 [.list (fs.map encFl), .str s, .fn (.func 145) [] []] (fun r => r = .tup [.i (lb fs s), .bool (foundAt fs s (lb fs s))]) := by
  refine PC_body tOk Tryz.func144 rfl Tryz.results144 rfl (by simp [Tryz.ntmps144]) ?_
  rw [Tryz.ntmps144]
  simp only [argSlots]
  repeat first|((first|refine qa tOk rfl ?_|refine qb tOk rfl ?_|refine qc ?_|refine qd ?_|refine qe ?_);simp)|refine AWP_block ?_|refine AWP_seq ?_
  refine AWP_loop (ALoop_keep (sl' := [(0, .list (fs.map encFl)), (1, .str s), (2, .fn (.func 145) [] []), (8, .i fs.length), (9, .i 0), (10, .i fs.length)]) ?_ (by simp))
  refine ALoop_wf (F := fun (p : Nat × Nat) => ⟨[(0, .list (fs.map encFl)), (1, .str s), (2, .fn (.func 145) [] []), (8, .i fs.length), (9, .i p.1), (10, .i p.2)], []⟩)
    (fun p => p.1 ≤ p.2 ∧ p.2 ≤ fs.length ∧ (∀ k, (h : k < fs.length) → k < p.1 → lessF fs[k] s = true) ∧ (∀ k, (h : k < fs.length) → p.2 ≤ k → lessF fs[k] s = false)) (fun p => p.2 - p.1) ?_ (0, fs.length) ⟨Nat.zero_le _, Nat.le_refl _, fun k _ hk => by omega, fun k h hk => by omega⟩
  rintro ⟨i, j⟩ ⟨hij, hj, h1, h2⟩ ih
  simp only at hij hj h1 h2
  repeat first|((first|refine qa tOk rfl ?_|refine qb tOk rfl ?_|refine qc ?_|refine qd ?_|refine qe ?_);simp)|refine AWP_block ?_|refine AWP_seq ?_
  refine AWP_cond2 rfl (fun h => ?_) (fun h => ?_)
  · have hlt : i < j := by simpa using h
    obtain ⟨m, hm, hm1, hm2⟩ : ∃ m : Nat, IntKind.i64.wrap ((IntKind.u64.wrap (IntKind.i64.wrap (↑i + ↑j))).fdiv (2 ^ min 1 IntKind.u64.bits)) = (m : Int) ∧ i ≤ m ∧ m < j := by
      refine ⟨(i + j) / 2, ?_, by omega, by omega⟩
      rw [wrap_i64 ((i : Int) + j) (by omega) (by omega)]
      rw [show IntKind.u64.wrap ((i : Int) + j) = (i : Int) + j by rw [IntKind.wrap_u64]; omega]
      rw [show (2 : Int) ^ min 1 IntKind.u64.bits = 2 by rfl, Int.fdiv_eq_ediv_of_nonneg _ (by omega)]
      rw [wrap_i64 _ (by omega) (by omega)]
      omega
    have hml : m < fs.length := by omega
    repeat first|((first|refine qa tOk rfl ?_|refine qb tOk rfl ?_|refine qc ?_|refine qd ?_|refine qe ?_);simp [hm, hml])|refine AWP_block ?_|refine AWP_seq ?_
    refine AStep_PC rfl rfl (by simp) (dpc62 fs[m] s) rfl ?_
    rintro _ rfl
    simp
    refine AWP_cond2 rfl (fun h => ?_) (fun h => ?_)
    · rw [cmpS_neg] at h
      repeat first|((first|refine qa tOk rfl ?_|refine qb tOk rfl ?_|refine qc ?_|refine qd ?_|refine qe ?_);simp)|refine AWP_block ?_|refine AWP_seq ?_
      refine ALoop_end [] (ih (m + 1, j) ⟨by simp only; omega, hj, fun k hk hkm => ?_, h2⟩ (by simp only; omega)) rfl (by simp) ?_ (by simp) (by simp)
      · exact hmono k m (by simp only at hkm; omega) hml h
      · simp
        exact wrap_i64 _ (by omega) (by omega)
    · rw [cmpS_neg] at h
      repeat first|((first|refine qa tOk rfl ?_|refine qb tOk rfl ?_|refine qc ?_|refine qd ?_|refine qe ?_);simp)|refine AWP_block ?_|refine AWP_seq ?_
      refine ALoop_end [] (ih (i, m) ⟨hm1, by simp only; omega, h1, fun k hk hkm => ?_⟩ (by simp only; omega)) rfl (by simp) ?_ (by simp) (by simp)
      · cases hl : lessF fs[k] s
        · rfl
        · have := hmono m k hkm hk hl
          rw [lessF, h] at this
          cases this
      · simp
  · have hge : i = j := by simp at h; omega
    subst hge
    have hlb := lb_uniq fs s i hj h1 h2
    by_cases hi : i < fs.length
    · repeat first|((first|refine qa tOk rfl ?_|refine qb tOk rfl ?_|refine qc ?_|refine qd ?_|refine qe ?_);simp [hi])|refine AWP_block ?_|refine AWP_seq ?_
      refine AStep_PC rfl rfl (by simp) (dpc62 fs[i] s) rfl ?_
      rintro _ rfl
      simp
      repeat first|((first|refine qa tOk rfl ?_|refine qb tOk rfl ?_|refine qc ?_|refine qd ?_|refine qe ?_);simp)|refine AWP_block ?_|refine AWP_seq ?_
      rw [← hlb]
      simp [foundAt, hi]
    · repeat first|((first|refine qa tOk rfl ?_|refine qb tOk rfl ?_|refine qc ?_|refine qd ?_|refine qe ?_);simp [hi])|refine AWP_block ?_|refine AWP_seq ?_
      have hi2 : fs.length ≤ i := by omega
      refine AStep_skip (by simp [hi2]) rfl ?_
      simp [hi2]
      repeat first|((first|refine qa tOk rfl ?_|refine qb tOk rfl ?_|refine qc ?_|refine qd ?_|refine qe ?_);simp)|refine AWP_block ?_|refine AWP_seq ?_
      rw [← hlb]
      simp [foundAt, hi]

end Go.Abs
set_option maxRecDepth 100000
namespace Go.Abs
open Go Go.Proofs
set_option linter.unusedSimpArgs false

theorem bl_irrefl : ∀ a : List UInt8, Op.bytesLess a a = false
  | [] => rfl
  | x :: a => by
    rw [Op.bytesLess, bl_irrefl a]
    simp
theorem bl_trans : ∀ a b c : List UInt8, Op.bytesLess a b = true → Op.bytesLess b c = true → Op.bytesLess a c = true
  | _, _, [], _, h => by cases ‹List UInt8› <;> simp [Op.bytesLess] at h
  | [], _, _ :: _, _, _ => rfl
  | x :: a, [], _ :: _, h, _ => by simp [Op.bytesLess] at h
  | x :: a, y :: b, z :: c, h1, h2 => by
    have ih := bl_trans a b c
    simp only [Op.bytesLess, Bool.or_eq_true, Bool.and_eq_true, decide_eq_true_eq, beq_iff_eq] at h1 h2 ⊢
    rcases h1 with h1 | ⟨rfl, h1⟩ <;> rcases h2 with h2 | ⟨rfl, h2⟩
    · exact .inl (UInt8.lt_trans h1 h2)
    · exact .inl h1
    · exact .inl h2
    · exact .inr ⟨rfl, ih h1 h2⟩
theorem bl_total : ∀ a b : List UInt8, Op.bytesLess a b = false → a ≠ b → Op.bytesLess b a = true
  | [], [], _, h => absurd rfl h
  | _ :: _, [], _, _ => rfl
  | [], _ :: _, h, _ => by simp [Op.bytesLess] at h
  | x :: a, y :: b, h, hne => by
    have ih := bl_total a b
    simp only [Op.bytesLess, Bool.or_eq_false_iff, Bool.and_eq_false_iff, decide_eq_false_iff_not] at h
    simp only [Op.bytesLess, Bool.or_eq_true, Bool.and_eq_true, decide_eq_true_eq, beq_iff_eq]
    rcases UInt8.lt_or_lt_of_ne (a := x) (b := y) |> fun f => (if hxy : x = y then .inr hxy else .inl (f hxy) : (x < y ∨ y < x) ∨ x = y) with (h1 | h1) | rfl
    · exact absurd h1 h.1
    · exact .inl h1
    · refine .inr ⟨rfl, ih ?_ (fun e => hne (by rw [e]))⟩
      rcases h.2 with h2 | h2
      · simp at h2
      · exact h2
theorem strLe_false {a b : List UInt8} (h : strLe a b = false) : Op.bytesLess b a = true := by
  unfold strLe at h
  simp only [Bool.or_eq_false_iff, beq_eq_false_iff_ne] at h
  exact bl_total a b h.1 h.2

/-- The names stand in order. -/
def Sorted (fs : List File) : Prop := fs.Pairwise (fun f g => Op.bytesLess f.name g.name = true)
theorem chkL_sorted : ∀ (fs : List File) (p : Option (List UInt8)), chkL p fs = 0 → Sorted fs ∧ (∀ f ∈ fs, nameOk f.name = true) ∧ ∀ q, p = some q → ∀ f ∈ fs, Op.bytesLess q f.name = true
  | [], _, _ => ⟨List.Pairwise.nil, by simp, by simp⟩
  | f :: fs, p, h => by
    rw [chkL] at h
    split at h
    · cases h
    · rename_i hn
      split at h
      · cases h
      · rename_i hb
        obtain ⟨h1, h2, h3⟩ := chkL_sorted fs (some f.name) h
        refine ⟨List.Pairwise.cons (h3 f.name rfl) h1, fun g hg => ?_, fun q hq g hg => ?_⟩
        · rcases List.mem_cons.1 hg with rfl | hg
          · simpa using hn
          · exact h2 g hg
        · subst hq
          have hq : Op.bytesLess q f.name = true := strLe_false (by simpa [badPrev] using hb)
          rcases List.mem_cons.1 hg with rfl | hg
          · exact hq
          · exact bl_trans _ _ _ hq (h3 f.name rfl g hg)
theorem checkR_chkL {d : Disk} (h : checkD d = 0) : chkL none d.files = 0 := by
  unfold checkD at h
  split at h
  · cases h
  · split at h
    · cases h
    · split at h
      · assumption
      · exact h
theorem checkR_sorted {d : Disk} (h : checkD d = 0) : Sorted d.files := (chkL_sorted _ _ (checkR_chkL h)).1
theorem Sorted.mono {fs : List File} (h : Sorted fs) (s : List UInt8) : ∀ a b, (ha : a ≤ b) → (hb : b < fs.length) → lessF fs[b] s = true → lessF (fs[a]'(by omega)) s = true := fun a b ha hb hl => by
  rcases Nat.lt_or_eq_of_le ha with h1 | rfl
  · have := List.pairwise_iff_getElem.1 h a b (by omega) hb h1
    exact bl_trans _ _ _ this hl
  · exact hl

set_option maxHeartbeats 1000000 in
theorem dpc50 (d : Disk) (s : List UInt8) (hn : d.files.length ≤ 1000000) (hs : Sorted d.files) : PC Tryz.prog 105 [encD d, .str s] (fun r => r = .tup [.i (lb d.files s), .bool (foundAt d.files s (lb d.files s))]) := by
  refine PC_body tOk Tryz.func105 rfl Tryz.results105 rfl (by simp [Tryz.ntmps105]) ?_
  rw [Tryz.ntmps105]
  simp only [argSlots]
  simp only [encD]
  repeat first|((first|refine qa tOk rfl ?_|refine qb tOk rfl ?_|refine qc ?_|refine qd ?_|refine qe ?_);simp)|refine AWP_block ?_|refine AWP_seq ?_
  refine AStep_PC rfl rfl (by simp) (dpc61 d.files s hn (hs.mono s)) rfl ?_
  rintro _ rfl
  simp
  repeat first|((first|refine qa tOk rfl ?_|refine qb tOk rfl ?_|refine qc ?_|refine qd ?_|refine qe ?_);simp)|refine AWP_block ?_|refine AWP_seq ?_

/-- In order, the binary search finds what the plain search finds. -/
theorem foundAt_iff (fs : List File) (s : List UInt8) (i : Nat) (hi : i < fs.length) : foundAt fs s i = (fs[i].name == s) := by
  by_cases h : fs[i].name = s
  · simp [foundAt, hi, cmpSD, h, bl_irrefl, strLe]
  · have h2 : (fs[i].name == s) = false := by simp [h]
    by_cases hb : Op.bytesLess fs[i].name s = true
    · simp [foundAt, hi, cmpSD, strLe, hb, h2]
    · simp [foundAt, hi, cmpSD, strLe, hb, h2]

theorem findR_lb (fs : List File) (s : List UInt8) (k : Nat) (hs : Sorted fs) : findF fs s k = if foundAt fs s (lb fs s) = true then some (k + lb fs s) else none := by
  induction fs generalizing k with
  | nil => rfl
  | cons f fs ih =>
    have hs' : Sorted fs := (List.pairwise_cons.1 hs).2
    have hlb : lb (f :: fs) s = if lessF f s = true then lb fs s + 1 else 0 := by
      simp only [lb, List.takeWhile_cons]; split <;> simp
    rw [findF, hlb]
    by_cases hf : f.name = s
    · have h1 : lessF f s = false := by rw [lessF, hf, bl_irrefl]
      simp only [h1, Bool.false_eq_true, if_false]
      rw [if_pos hf, foundAt_iff _ _ _ (by simp)]
      simp [hf]
    · rw [if_neg hf, ih _ hs']
      cases h1 : lessF f s
      · -- all behind are greater still
        have hgt : Op.bytesLess s f.name = true := bl_total _ _ h1 hf
        have hz : lb fs s = 0 := by
          cases fs with
          | nil => rfl
          | cons g fs =>
            have hfg := (List.pairwise_cons.1 hs).1 g (by simp)
            have : lessF g s = false := by
              cases hg : lessF g s
              · rfl
              · have := bl_trans _ _ _ (bl_trans _ _ _ hgt hfg) hg
                rw [bl_irrefl] at this; cases this
            simp [lb, this]
        have hfa : foundAt fs s 0 = false := by
          cases fs with
          | nil => rfl
          | cons g fs =>
            rw [foundAt_iff _ _ _ (by simp)]
            have hfg := (List.pairwise_cons.1 hs).1 g (by simp)
            have := bl_trans _ _ _ hgt hfg
            simp only [List.getElem_cons_zero, beq_eq_false_iff_ne]
            rintro e
            rw [e, bl_irrefl] at this; cases this
        rw [hz, hfa]
        simp only [Bool.false_eq_true, if_false]
        rw [foundAt_iff _ _ _ (by simp)]
        simp [hf]
      · simp only [if_true]
        have : foundAt (f :: fs) s (lb fs s + 1) = foundAt fs s (lb fs s) := by simp [foundAt]
        rw [this]
        split
        · congr 1; omega
        · rfl
end Go.Abs
set_option maxRecDepth 100000
namespace Go.Abs
open Go Go.Proofs
set_option linter.unusedSimpArgs false

theorem dpc52 (f : File) (s : List UInt8) : PC Tryz.prog 68 [encFl f, .iptr [.str s]] (fun r => r = .bool (f.name == s)) := by
  refine PC_body tOk Tryz.func68 rfl Tryz.results68 rfl (by simp [Tryz.ntmps68]) ?_
  rw [Tryz.ntmps68]
  simp only [argSlots]
  simp only [encFl]
  repeat first|((first|refine qa tOk rfl ?_|refine qb tOk rfl ?_|refine qc ?_|refine qd ?_|refine qe ?_);simp)|refine AWP_block ?_|refine AWP_seq ?_

def indexR (fs : List File) (s : List UInt8) : Int := match findF fs s 0 with
  | none => -1
  | some i => i
set_option maxHeartbeats 1000000 in
theorem dpc51 (fs : List File) (s : List UInt8) : PC Tryz.prog 67 [.list (fs.map encFl), .fn (.func 68) [] [.iptr [.str s]]] (fun r => r = .i (indexR fs s)) := by
  refine PC_body tOk Tryz.func67 rfl Tryz.results67 rfl (by simp [Tryz.ntmps67]) ?_
  rw [Tryz.ntmps67]
  simp only [argSlots]
  refine AWP_len 0 rfl (fun hlen => ?_)
  rw [List.length_map] at hlen
  repeat first|((first|refine qa tOk rfl ?_|refine qb tOk rfl ?_|refine qc ?_|refine qd ?_|refine qe ?_);simp)|refine AWP_block ?_|refine AWP_seq ?_
  refine AWP_countI fs.length (fun j => findF fs s 0 = findF (fs.drop j) s j) (fun j => [(0, .list (fs.map encFl)), (1, .fn (.func 68) [] [.iptr [.str s]]), (7, .i fs.length), (8, .i j)]) (fun _ => []) rfl (by simp) (by simp) (by simp) (by simp) (by simp) ?_
  intro j hj hI ih
  repeat first|((first|refine qa tOk rfl ?_|refine qb tOk rfl ?_|refine qc ?_|refine qd ?_|refine qe ?_);simp)|refine AWP_block ?_|refine AWP_seq ?_
  refine AWP_cond2 rfl (fun hlt => ?_) (fun hge => ?_)
  · have hlt' : j < fs.length := by simpa using hlt
    rw [drop_getF hlt', findF] at hI
    repeat first|((first|refine qa tOk rfl ?_|refine qb tOk rfl ?_|refine qc ?_|refine qd ?_|refine qe ?_);simp [hlt'])|refine AWP_block ?_|refine AWP_seq ?_
    refine AStep_PC rfl rfl (by simp) (dpc52 fs[j] s) rfl ?_
    rintro _ rfl
    simp
    refine AWP_cond2 rfl (fun h => ?_) (fun h => ?_)
    · repeat first|((first|refine qa tOk rfl ?_|refine qb tOk rfl ?_|refine qc ?_|refine qd ?_|refine qe ?_);simp)|refine AWP_block ?_|refine AWP_seq ?_
      simp at h
      rw [if_pos h] at hI
      simp [indexR, hI]
    · repeat first|((first|refine qa tOk rfl ?_|refine qb tOk rfl ?_|refine qc ?_|refine qd ?_|refine qe ?_);simp)|refine AWP_block ?_|refine AWP_seq ?_
      simp at h
      rw [if_neg h] at hI
      refine ALoop_end _ (ih hlt' hI) rfl (by simp) ?_ (by simp) (by simp)
      simp
      exact wrap_i64 _ (by omega) (by omega)
  · have hge' : j = fs.length := by simp at hge; omega
    subst hge'
    repeat first|((first|refine qa tOk rfl ?_|refine qb tOk rfl ?_|refine qc ?_|refine qd ?_|refine qe ?_);simp)|refine AWP_block ?_|refine AWP_seq ?_
    rw [List.drop_length] at hI
    simp [indexR, hI, findF]

set_option maxHeartbeats 1000000 in
theorem dpc23 (d : Disk) (s : List UInt8) : PC Tryz.prog 34 [encD d, .str s] (fun r => r = findAV (findF d.files s 0)) := by
  refine PC_body tOk Tryz.func34 rfl Tryz.results34 rfl (by simp [Tryz.ntmps34]) ?_
  rw [Tryz.ntmps34]
  simp only [argSlots]
  simp only [encD]
  repeat first|((first|refine qa tOk rfl ?_|refine qb tOk rfl ?_|refine qc ?_|refine qd ?_|refine qe ?_);simp)|refine AWP_block ?_|refine AWP_seq ?_
  refine AStep_PCflat rfl rfl (by first | (simp; done) | (simp; rfl)) (dpc51 d.files s) rfl ?_
  rintro _ rfl
  refine ⟨by first | simp | rfl | trivial, ?_⟩
  simp
  repeat first|((first|refine qa tOk rfl ?_|refine qb tOk rfl ?_|refine qc ?_|refine qd ?_|refine qe ?_);simp)|refine AWP_block ?_|refine AWP_seq ?_
  rcases hfd : findF d.files s 0 with _ | i
  · simp [indexR, hfd, findAV]
  · simp [indexR, hfd, findAV]
    intro h; omega

theorem checkedR_one (d : Disk) (s : List UInt8) : checkedR d [s] = namedR d s := by simp [checkedR, namedR]
theorem placeAV (d : Disk) (s : List UInt8) (hs : Sorted d.files) : findF d.files s 0 = if foundAt d.files s (lb d.files s) = true then some (lb d.files s) else none := by
  rw [findR_lb d.files s 0 hs]; simp
set_option maxHeartbeats 1000000 in
theorem dpc21 (d : Disk) (s : List UInt8) : PC Tryz.prog 63 [encD d, .str s] (fun r => r = .tup [.str (readR d s).1, .i (readR d s).2]) := by
  refine PC_body tOk Tryz.func63 rfl Tryz.results63 rfl (by simp [Tryz.ntmps63]) ?_
  rw [Tryz.ntmps63]
  simp only [argSlots]
  simp only [encD]
  repeat first|((first|refine qa tOk rfl ?_|refine qb tOk rfl ?_|refine qc ?_|refine qd ?_|refine qe ?_);simp)|refine AWP_block ?_|refine AWP_seq ?_
  refine AStep_PCflat rfl rfl (by first | (simp; done) | (simp; rfl)) (dpc49 d [s]) rfl ?_
  rintro _ rfl
  refine ⟨by first | simp | rfl | trivial, ?_⟩
  simp
  repeat first|((first|refine qa tOk rfl ?_|refine qb tOk rfl ?_|refine qc ?_|refine qd ?_|refine qe ?_);simp)|refine AWP_block ?_|refine AWP_seq ?_
  rw [checkedR_one]
  refine AWP_cond2 rfl (fun h => ?_) (fun h1 => ?_)
  · repeat first|((first|refine qa tOk rfl ?_|refine qb tOk rfl ?_|refine qc ?_|refine qd ?_|refine qe ?_);simp)|refine AWP_block ?_|refine AWP_seq ?_
    simp at h
    simp [readR, h]
  simp at h1
  have hc := namedR_check h1
  have hl := checkR_len hc
  have hso := checkR_sorted hc
  repeat first|((first|refine qa tOk rfl ?_|refine qb tOk rfl ?_|refine qc ?_|refine qd ?_|refine qe ?_);simp)|refine AWP_block ?_|refine AWP_seq ?_
  refine AStep_PC rfl rfl (by simp) (dpc50 d s (by omega) hso) rfl ?_
  rintro _ rfl
  simp
  repeat first|((first|refine qa tOk rfl ?_|refine qb tOk rfl ?_|refine qc ?_|refine qd ?_|refine qe ?_);simp)|refine AWP_block ?_|refine AWP_seq ?_
  have hp := placeAV d s hso
  cases hf : foundAt d.files s (lb d.files s)
  · rw [hf] at hp
    refine AWP_cond rfl ?_
    repeat first|((first|refine qa tOk rfl ?_|refine qb tOk rfl ?_|refine qc ?_|refine qd ?_|refine qe ?_);simp)|refine AWP_block ?_|refine AWP_seq ?_
    simp at hp
    simp [readR, h1, hp]
  · rw [hf] at hp
    simp at hp
    have hi := findR_lt hp
    refine AWP_cond rfl ?_
    repeat first|((first|refine qa tOk rfl ?_|refine qb tOk rfl ?_|refine qc ?_|refine qd ?_|refine qe ?_);simp [hi])|refine AWP_block ?_|refine AWP_seq ?_
    simp [readR, h1, hp, hi]
end Go.Abs
set_option maxRecDepth 100000
namespace Go.Abs
open Go Go.Proofs
set_option linter.unusedSimpArgs false

set_option maxHeartbeats 1000000 in
theorem dpc38 (s b : List UInt8) : PC Tryz.prog 107 [.str s, .iptr [.str b]] (fun r => r = .str b) := by
  refine PC_body tOk Tryz.func107 rfl Tryz.results107 rfl (by simp [Tryz.ntmps107]) ?_
  rw [Tryz.ntmps107]
  simp only [argSlots]
  repeat first|((first|refine qa tOk rfl ?_|refine qb tOk rfl ?_|refine qc ?_|refine qd ?_|refine qe ?_);simp)|refine AWP_block ?_|refine AWP_seq ?_
set_option maxHeartbeats 1000000 in
theorem dpc20 (a b : List Int) : PC Tryz.prog 16 [.list (a.map encI), .list (b.map encI)] (fun r => r = .bool (decide (a = b))) := by
  refine PC_body tOk Tryz.func16 rfl Tryz.results16 rfl (by simp [Tryz.ntmps16]) ?_
  rw [Tryz.ntmps16]
  simp only [argSlots]
  refine AWP_len 0 rfl (fun hlen => ?_)
  rw [List.length_map] at hlen
  repeat first|((first|refine qa tOk rfl ?_|refine qb tOk rfl ?_|refine qc ?_|refine qd ?_|refine qe ?_);simp)|refine AWP_block ?_|refine AWP_seq ?_
  refine AWP_cond2 rfl (fun h => ?_) (fun h1 => ?_)
  · repeat first|((first|refine qa tOk rfl ?_|refine qb tOk rfl ?_|refine qc ?_|refine qd ?_|refine qe ?_);simp)|refine AWP_block ?_|refine AWP_seq ?_
    rintro rfl
    simp at h
  have hl : a.length = b.length := by simp at h1; omega
  repeat first|((first|refine qa tOk rfl ?_|refine qb tOk rfl ?_|refine qc ?_|refine qd ?_|refine qe ?_);simp)|refine AWP_block ?_|refine AWP_seq ?_
  refine AWP_countI a.length (fun j => a.take j = b.take j) (fun j => [(0, .list (a.map encI)), (1, .list (b.map encI)), (12, .i a.length), (13, .i j)]) (fun _ => []) rfl (by simp) (by simp) (by simp) (by simp) (by simp) ?_
  intro j hj hI ih
  repeat first|((first|refine qa tOk rfl ?_|refine qb tOk rfl ?_|refine qc ?_|refine qd ?_|refine qe ?_);simp)|refine AWP_block ?_|refine AWP_seq ?_
  refine AWP_cond2 rfl (fun hlt => ?_) (fun hge => ?_)
  · have hlt' : j < a.length := by simpa using hlt
    have hltb : j < b.length := by omega
    repeat first|((first|refine qa tOk rfl ?_|refine qb tOk rfl ?_|refine qc ?_|refine qd ?_|refine qe ?_);simp)|refine AWP_block ?_|refine AWP_seq ?_
    refine AWP_draw tOk mixed [] [0, 1, 2, 3, 4, 5, 6, 7, 8] rfl (by kernel_rfl) ?_
    simp [hlt', hltb]
    refine AWP_cond2 rfl (fun h => ?_) (fun h => ?_)
    · repeat first|((first|refine qa tOk rfl ?_|refine qb tOk rfl ?_|refine qc ?_|refine qd ?_|refine qe ?_);simp)|refine AWP_block ?_|refine AWP_seq ?_
      rintro rfl
      simp at h
    · repeat first|((first|refine qa tOk rfl ?_|refine qb tOk rfl ?_|refine qc ?_|refine qd ?_|refine qe ?_);simp)|refine AWP_block ?_|refine AWP_seq ?_
      have he : a[j] = b[j] := by simpa using h
      refine ALoop_end _ (ih hlt' (take_succ_eq hlt' hltb hI he)) rfl (by simp) ?_ (by simp) (by simp)
      simp
      exact wrap_i64 _ (by omega) (by omega)
  · have hge' : j = a.length := by simp at hge; omega
    subst hge'
    repeat first|((first|refine qa tOk rfl ?_|refine qb tOk rfl ?_|refine qc ?_|refine qd ?_|refine qe ?_);simp)|refine AWP_block ?_|refine AWP_seq ?_
    rw [List.take_length, hl, List.take_length] at hI
    exact hI

set_option maxHeartbeats 1000000 in
theorem fr55 (fs : List File) (hb : fs.length ≤ 1000000) : FR Tryz.prog 69 [.list (fs.map encFl)] 66 3 (fun r => r = fs.map encFl) := by
  refine FR_body tOk Tryz.func69 rfl Tryz.results69 rfl (by simp [Tryz.ntmps69]) ?_
  rw [Tryz.ntmps69]
  simp only [argSlots]
  repeat first|((first|refine qa tOk rfl ?_|refine qb tOk rfl ?_|refine qc ?_|refine qd ?_|refine qe ?_);simp)|refine AWP_block ?_|refine AWP_seq ?_
  refine AStep_isnil tOk rfl rfl T22 rfl rfl rfl (fun b hb2 => ?_)
  simp
  refine AWP_cond2 rfl (fun h => ?_) (fun h => ?_)
  · subst h
    have : fs = [] := by
      cases fs
      · rfl
      · have := hb2 (by simp); cases this
    subst this
    repeat first|((first|refine qa tOk rfl ?_|refine qb tOk rfl ?_|refine qc ?_|refine qd ?_|refine qe ?_);simp)|refine AWP_block ?_|refine AWP_seq ?_
  · repeat first|((first|refine qa tOk rfl ?_|refine qb tOk rfl ?_|refine qc ?_|refine qd ?_|refine qe ?_);simp)|refine AWP_block ?_|refine AWP_seq ?_
    refine AStep_appendS tOk rfl rfl T22 rfl T66 rfl (by decide) (by decide) rfl rfl rfl ?_
    simp
    refine ⟨by simp [appOk] <;> omega, ?_⟩
    repeat first|((first|refine qa tOk rfl ?_|refine qb tOk rfl ?_|refine qc ?_|refine qd ?_|refine qe ?_);simp)|refine AWP_block ?_|refine AWP_seq ?_
end Go.Abs
set_option maxRecDepth 100000
namespace Go.Abs
open Go Go.Proofs
set_option linter.unusedSimpArgs false
attribute [simp] T124

end Go.Abs
set_option maxRecDepth 100000
namespace Go.Abs
open Go Go.Proofs
set_option linter.unusedSimpArgs false

end Go.Abs
set_option maxRecDepth 100000
namespace Go.Abs
theorem split_at (A : List AV) (i n : Nat) (hA : A.length = n) (hi : i < n) : ∃ B c C, A = B ++ c :: C ∧ B.length = i ∧ n = B.length + (C.length + 1) := by
  refine ⟨A.take i, A[i]'(by omega), A.drop (i + 1), ?_, by simp; omega, by simp; omega⟩
  rw [List.getElem_cons_drop]; exact (List.take_append_drop i A).symm
theorem ins_x1 (A : List AV) (i n : Nat) (x Z : AV) (hA : A.length = n) (hi : i < n) :
    List.take i (A.take i ++ List.replicate (n + 1 - i) Z) ++ List.take (n + 1 - i) [x] ++ List.drop (i + Nat.min [x].length (n + 1 - i)) (A.take i ++ List.replicate (n + 1 - i) Z) = A.take i ++ x :: List.replicate (n - i) Z := by
  obtain ⟨B, c, C, rfl, rfl, rfl⟩ := split_at A i n hA hi
  have e1 : B.length + (C.length + 1) + 1 - B.length = C.length + 2 := by omega
  have e2 : B.length + (C.length + 1) - B.length = C.length + 1 := by omega
  have hm : Nat.min [x].length (C.length + 2) = 1 := Nat.min_eq_left (by simp)
  rw [e1, e2, hm]
  simp [List.replicate_succ]
theorem ins_x2 (A : List AV) (i n : Nat) (x Z : AV) (hA : A.length = n) (hi : i < n) :
    List.take (i + 1) (A.take i ++ x :: List.replicate (n - i) Z) ++ List.take (n - i) ((A.drop i).take (n - i)) ++ List.drop (i + 1 + Nat.min ((A.drop i).take (n - i)).length (n - i)) (A.take i ++ x :: List.replicate (n - i) Z) = A.take i ++ x :: A.drop i := by
  obtain ⟨B, c, C, rfl, rfl, rfl⟩ := split_at A i n hA hi
  have e2 : B.length + (C.length + 1) - B.length = C.length + 1 := by omega
  have hd : (List.drop B.length (B ++ c :: C)) = c :: C := by simp
  have ht : (c :: C).take (C.length + 1) = c :: C := List.take_of_length_le (by simp)
  have hm : Nat.min (c :: C).length (C.length + 1) = C.length + 1 := Nat.min_self _
  rw [e2, hd, ht, hm, ht]
  have h1 : List.take B.length (B ++ c :: C) = B := by simp
  rw [h1]
  have h2 : List.drop (B.length + 1 + (C.length + 1)) (B ++ x :: List.replicate (C.length + 1) Z) = [] := List.drop_eq_nil_of_le (by simp; omega)
  rw [h2]
  have h3 : List.take (B.length + 1) (B ++ x :: List.replicate (C.length + 1) Z) = B ++ [x] := by
    rw [List.take_append, List.take_of_length_le (by omega), show B.length + 1 - B.length = 1 by omega]; simp
  rw [h3]
  simp
/-- in place: the tail moves up by one, then the element goes in -/
theorem ins_y1 (A : List AV) (i n : Nat) (Z : AV) (hA : A.length = n) (hi : i < n) :
    List.take (i + 1) (A ++ [Z]) ++ List.take (n - i) (((A ++ [Z]).drop i).take (n + 1 - i)) ++ List.drop (i + 1 + Nat.min (((A ++ [Z]).drop i).take (n + 1 - i)).length (n - i)) (A ++ [Z]) = A.take (i + 1) ++ A.drop i := by
  obtain ⟨B, c, C, rfl, rfl, rfl⟩ := split_at A i n hA hi
  have e1 : B.length + (C.length + 1) + 1 - B.length = C.length + 2 := by omega
  have e2 : B.length + (C.length + 1) - B.length = C.length + 1 := by omega
  have h0 : B ++ c :: C ++ [Z] = B ++ (c :: (C ++ [Z])) := by simp
  have hd : List.drop B.length (B ++ (c :: (C ++ [Z]))) = c :: (C ++ [Z]) := by simp
  have hd' : List.drop B.length (B ++ c :: C) = c :: C := by simp
  have ht : (c :: (C ++ [Z])).take (C.length + 2) = c :: (C ++ [Z]) := List.take_of_length_le (by simp)
  have ht2 : (c :: (C ++ [Z])).take (C.length + 1) = c :: C := by simp
  have hm : Nat.min (c :: (C ++ [Z])).length (C.length + 1) = C.length + 1 := Nat.min_eq_right (by simp)
  rw [e1, e2, h0, hd, ht, ht2, hm, hd']
  have h2 : List.drop (B.length + 1 + (C.length + 1)) (B ++ c :: (C ++ [Z])) = [] := List.drop_eq_nil_of_le (by simp; omega)
  have h3 : ∀ D : List AV, List.take (B.length + 1) (B ++ c :: D) = B ++ [c] := fun D => by
    rw [List.take_append, List.take_of_length_le (by omega), show B.length + 1 - B.length = 1 by omega]; simp
  rw [h2, h3, h3]
  simp
theorem ins_y0 (A : List AV) (i n : Nat) (Z : AV) (hA : A.length = n) (hi : i < n) : List.take (n - i) (((A ++ [Z]).drop i).take (n + 1 - i)) = A.drop i := by
  obtain ⟨B, c, C, rfl, rfl, rfl⟩ := split_at A i n hA hi
  have e1 : B.length + (C.length + 1) + 1 - B.length = C.length + 2 := by omega
  have e2 : B.length + (C.length + 1) - B.length = C.length + 1 := by omega
  have h0 : B ++ c :: C ++ [Z] = B ++ (c :: (C ++ [Z])) := by simp
  have hd : List.drop B.length (B ++ (c :: (C ++ [Z]))) = c :: (C ++ [Z]) := by simp
  have hd' : List.drop B.length (B ++ c :: C) = c :: C := by simp
  have ht : (c :: (C ++ [Z])).take (C.length + 2) = c :: (C ++ [Z]) := List.take_of_length_le (by simp)
  rw [e1, e2, h0, hd, ht, hd']
  simp
theorem ins_y2 (A : List AV) (i n : Nat) (x : AV) (hA : A.length = n) (hi : i < n) :
    List.take i (A.take (i + 1) ++ A.drop i) ++ List.take (n + 1 - i) [x] ++ List.drop (i + Nat.min [x].length (n + 1 - i)) (A.take (i + 1) ++ A.drop i) = A.take i ++ x :: A.drop i := by
  obtain ⟨B, c, C, rfl, rfl, rfl⟩ := split_at A i n hA hi
  have e1 : B.length + (C.length + 1) + 1 - B.length = C.length + 2 := by omega
  have hm : Nat.min [x].length (C.length + 2) = 1 := Nat.min_eq_left (by simp)
  have h3 : List.take (B.length + 1) (B ++ c :: C) = B ++ [c] := by
    rw [List.take_append, List.take_of_length_le (by omega), show B.length + 1 - B.length = 1 by omega]; simp
  rw [e1, hm, h3]
  have h4 : List.drop (B.length + 1) (B ++ [c] ++ List.drop B.length (B ++ c :: C)) = c :: C := by
    rw [List.drop_left' (by simp)]; simp
  rw [h4]
  simp
end Go.Abs
set_option maxRecDepth 100000
namespace Go.Abs
open Go Go.Proofs
set_option linter.unusedSimpArgs false

def insAt (fs : List File) (i : Nat) (x : File) : List File := fs.take i ++ x :: fs.drop i
set_option maxHeartbeats 2000000 in
theorem fc56 (H : List AObj) (id id2 : Nat) (fs : List File) (i : Nat) (x : File) (hid : H[id]? = some (.arr 66 3 (fs.map encFl))) (hid2 : H[id2]? = some (.arr 66 3 [encFl x])) (hne : id ≠ id2) (hi : i ≤ fs.length) (hb : fs.length ≤ 1000000) :
    FC Tryz.prog 139 [.sl id 3 0 fs.length, .int .i64 i, .sl id2 3 0 1] H (fun r H' => r = .sl H.length 3 0 (fs.length + 1) ∧ ∃ G, H' = H.set id .dead ++ .arr 66 3 ((insAt fs i x).map encFl) :: G) := by
  refine FC_body tOk Tryz.func139 rfl Tryz.results139 rfl (by simp [Tryz.ntmps139]) ?_
  rw [Tryz.ntmps139]
  simp only [argSlots]
  have hidl : id < H.length := (List.getElem?_eq_some_iff.1 hid).1
  have hii : (i : Int) ≤ fs.length := by omega
  repeat first|((first|refine qa tOk rfl ?_|refine qb tOk rfl ?_|refine qc ?_|refine qd ?_|refine qe ?_);simp [hi])|refine AWP_block ?_|refine AWP_seq ?_
  refine AWP_cond rfl ?_
  repeat first|((first|refine qa tOk rfl ?_|refine qb tOk rfl ?_|refine qc ?_|refine qd ?_|refine qe ?_);simp)|refine AWP_block ?_|refine AWP_seq ?_
  refine AWP_cond2 rfl (fun h => ?_) (fun h => ?_)
  · have he : i = fs.length := by simp at h; omega
    subst he
    repeat first|((first|refine qa tOk rfl ?_|refine qb tOk rfl ?_|refine qc ?_|refine qd ?_|refine qe ?_);simp)|refine AWP_block ?_|refine AWP_seq ?_
    refine AStep_appendS tOk rfl rfl T22 rfl T66 rfl (by decide) (by decide) rfl rfl rfl ?_
    simp [hid, hid2]
    refine ⟨by simp [appOk]; omega, ?_⟩
    repeat first|((first|refine qa tOk rfl ?_|refine qb tOk rfl ?_|refine qc ?_|refine qd ?_|refine qe ?_);simp)|refine AWP_block ?_|refine AWP_seq ?_
    simp [insAt]
  · have hlt : i < fs.length := by simp at h; omega
    have hw1 : IntKind.i64.wrap ((fs.length : Int) + 1) = fs.length + 1 := wrap_i64 _ (by omega) (by omega)
    have hid2l : id2 < H.length := (List.getElem?_eq_some_iff.1 hid2).1
    have g2 : ∀ v l, (H.set id v ++ l)[id2]? = some (.arr 66 3 [encFl x]) := by
      intro v l; rw [List.getElem?_append_left (by simpa using hid2l), List.getElem?_set_ne hne]; exact hid2
    have g0 : ∀ v a, (H.set id v ++ [a])[H.length]? = some a := by intro v a; simp
    have gs : ∀ v a b, (H.set id v ++ [a]).set H.length b = H.set id v ++ [b] := by intro v a b; simp
    have g1 : ∀ v l, (H.set id v ++ l)[id]? = some v := by
      intro v l; rw [List.getElem?_append_left (by simpa using hidl), List.getElem?_set_self hidl]
    have gk : ∀ v l b, (H.set id v ++ l).set id b = H.set id b ++ l := by
      intro v l b; rw [List.set_append_left _ _ (by simpa using hidl), List.set_set]
    have hi1 : i ≤ fs.length + 1 := by omega
    have hfls : ¬ ((fs.length : Int) + 1 ≤ fs.length) := by omega
    have hsub : i + (fs.length + 1 - i) = fs.length + 1 := by omega
    repeat first|((first|refine qa tOk rfl ?_|refine qb tOk rfl ?_|refine qc ?_|refine qd ?_|refine qe ?_);simp [hw1])|refine AWP_block ?_|refine AWP_seq ?_
    refine AStep_capSplit (xs := fs.map encFl) (e := 66) (c := 3) (id := id) 0 (by decide) (by simp) hid (by simp; omega) ?_ ?_
    · refine AStep_capGe tOk rfl rfl T22 rfl (by decide) rfl (List.getElem?_set_self hidl) rfl (fun n hn => ?_)
      simp at hn
      simp
      refine AWP_cond (b := false) (by simp; omega) ?_
      repeat first|((first|refine qa tOk rfl ?_|refine qb tOk rfl ?_|refine qc ?_|refine qd ?_|refine qe ?_);simp [hw1, hfls])|refine AWP_block ?_|refine AWP_seq ?_
      refine AStep_reslice (id := id) (len := fs.length) (hi := fs.length + 1) (e' := 66) (xs := fs.map encFl ++ [.agg [.top, .top, .top]]) tOk rfl rfl T22 rfl T66 rfl (by simp) (by decide) (by simp [hidl]) (by simp) (by omega) rfl ?_
      simp
      have hw3 : IntKind.i64.wrap ((i : Int) + 1) = (i : Int) + 1 := wrap_i64 _ (by omega) (by omega)
      have hi2 : (0 : Int) ≤ (i : Int) + 1 ∧ (i : Int) + 1 ≤ (fs.length : Int) + 1 := by omega
      repeat first|((first|refine qa tOk rfl ?_|refine qb tOk rfl ?_|refine qc ?_|refine qd ?_|refine qe ?_);simp [hw3, hi2, hi1])|refine AWP_block ?_|refine AWP_seq ?_
      refine AStep_overlaps (i := id2) (j := id) (c := 3) tOk rfl rfl Tryz.func186 (by kernel_rfl) (fun vs w => run_callFunc_extern Tryz.func186 (by kernel_rfl) (by kernel_rfl) (by kernel_rfl) (e := Extern.SlicesOverlaps.overlaps #[22, 22] #[4]) (by kernel_rfl) vs w) T22 rfl T66 (by decide) rfl rfl (by rw [List.getElem?_set_ne hne]; exact hid2) (List.getElem?_set_self hidl) hne.symm (by omega) (by omega) rfl ?_
      simp
      refine AWP_cond rfl ?_
      repeat first|((first|refine qa tOk rfl ?_|refine qb tOk rfl ?_|refine qc ?_|refine qd ?_|refine qe ?_);simp [hw3])|refine AWP_block ?_|refine AWP_seq ?_
      refine AWP_draw tOk mixed [8] [0, 1, 2, 3, 4, 5, 6, 7, 8] rfl (by kernel_rfl) ?_
      simp [hw3, hi2, hi1]
      refine AStep_copy (id := id) (lo := i + 1) (len := fs.length - i) (ys := ((fs.map encFl ++ [AV.agg [.top, .top, .top]]).drop i).take (fs.length + 1 - i)) tOk rfl rfl T22 rfl T66 rfl rfl (by simp [contA, hidl]; omega) (List.getElem?_set_self hidl) (by simp; omega) ?_ rfl ?_
      · intro y hy
        rw [ins_y0 (fs.map encFl) i fs.length _ (by simp) hlt] at hy
        have := List.mem_of_mem_drop hy
        simp at this; obtain ⟨g, _, rfl⟩ := this; simp
      rw [ins_y1 (fs.map encFl) i fs.length _ (by simp) hlt]
      simp
      repeat first|((first|refine qa tOk rfl ?_|refine qb tOk rfl ?_|refine qc ?_|refine qd ?_|refine qe ?_);simp [hi1])|refine AWP_block ?_|refine AWP_seq ?_
      refine AStep_copy (id := id) (lo := i) (len := fs.length + 1 - i) (ys := [encFl x]) tOk rfl rfl T22 rfl T66 rfl rfl (by simp [contA]; rw [List.getElem?_set_ne hne, hid2]; simp) (List.getElem?_set_self hidl) (by simp; omega) ?_ rfl ?_
      · intro y hy
        have := List.mem_of_mem_take hy
        simp at this; subst this; simp
      have hy2 := ins_y2 (fs.map encFl) i fs.length (encFl x) (by simp) hlt
      rw [hy2]
      simp
      refine AWP_move 0 (id := id) (c := 3) (len := fs.length + 1) (e := 66) (xs := (fs.take i ++ x :: fs.drop i).map encFl) (by simp) (by simp [hidl]) ?_
      simp
      repeat first|((first|refine qa tOk rfl ?_|refine qb tOk rfl ?_|refine qc ?_|refine qd ?_|refine qe ?_);simp)|refine AWP_block ?_|refine AWP_seq ?_
      simp [insAt]
    · refine AStep_capEq tOk rfl rfl T22 rfl (by decide) rfl (List.getElem?_set_self hidl) fs.length ?_ rfl ?_
      · have := (flatMap_get 3 (fs.map encFl) (by simp)).1
        simpa using this
      · simp
        refine AWP_cond (b := true) (by simp; omega) ?_
        have hw2 : IntKind.i64.wrap ((fs.length : Int) + 1 - i) = ((fs.length + 1 - i : Nat) : Int) := by rw [wrap_i64 _ (by omega) (by omega)]; omega
        repeat first|((first|refine qa tOk rfl ?_|refine qb tOk rfl ?_|refine qc ?_|refine qd ?_|refine qe ?_);simp [hw1, hw2, hi])|refine AWP_block ?_|refine AWP_seq ?_
        refine AStep_appendMake (xs := fs.map encFl) (id := id) (i := i) (n := fs.length + 1 - i) tOk rfl rfl T22 rfl T3 rfl T66 rfl (by decide) rfl rfl (by simp [hidl]) (by simp) (by simpa using hi) (by simp; omega) (by omega) (by simp; omega) (by omega) (.agg [.str [], .str [], .str []]) rfl rfl ?_
        simp [hsub]
        refine AWP_unfull id 3 (xs := fs.map encFl) (g1 _ _) (by simp) (by simp; omega) (fun e' => ?_)
        rw [gk]
        repeat first|((first|refine qa tOk rfl ?_|refine qb tOk rfl ?_|refine qc ?_|refine qd ?_|refine qe ?_);simp [hi1])|refine AWP_block ?_|refine AWP_seq ?_
        refine AStep_copy (id := H.length) (lo := i) (len := fs.length + 1 - i) (ys := [encFl x]) (e' := 66) (xs := (fs.map encFl).take i ++ List.replicate (fs.length + 1 - i) (.agg [.str [], .str [], .str []])) tOk rfl rfl T22 rfl T66 rfl rfl (by simp [g2]) (by simp) (by simp; omega) ?_ rfl ?_
        · intro y hy
          have := List.mem_of_mem_take hy
          simp at this; subst this; simp
        rw [ins_x1 (fs.map encFl) i fs.length _ _ (by simp) hlt]
        have hmn : Nat.min [encFl x].length (fs.length + 1 - i) = 1 := Nat.min_eq_left (by simp; omega)
        rw [hmn]
        simp
        have hw3 : IntKind.i64.wrap ((i : Int) + 1) = (i : Int) + 1 := wrap_i64 _ (by omega) (by omega)
        have hi2 : (0 : Int) ≤ (i : Int) + 1 ∧ (i : Int) + 1 ≤ (fs.length : Int) + 1 := by omega
        have hi3 : i ≤ fs.length := hi
        repeat first|((first|refine qa tOk rfl ?_|refine qb tOk rfl ?_|refine qc ?_|refine qd ?_|refine qe ?_);simp [hi1])|refine AWP_block ?_|refine AWP_seq ?_
        refine AWP_draw tOk mixed [8] [0, 1, 2, 3, 4, 5, 6, 7, 8] rfl (by kernel_rfl) ?_
        simp [hw3, hi2, hi3]
        refine AStep_copy (id := H.length) (lo := i + 1) (len := fs.length - i) (ys := ((fs.map encFl).drop i).take (fs.length - i)) tOk rfl rfl T22 rfl T66 rfl rfl (by simp [contA, g1]; omega) (g0 _ _) (by simp; omega) ?_ rfl ?_
        · intro y hy
          have := List.mem_of_mem_drop (List.mem_of_mem_take (List.mem_of_mem_take hy))
          simp at this; obtain ⟨g, _, rfl⟩ := this; simp
        have hx2 := ins_x2 (fs.map encFl) i fs.length (encFl x) (.agg [.str [], .str [], .str []]) (by simp) hlt
        simp only [encFl] at hx2
        rw [hx2]
        simp
        refine AWP_kill id ?_
        rw [gk]
        repeat first|((first|refine qa tOk rfl ?_|refine qb tOk rfl ?_|refine qc ?_|refine qd ?_|refine qe ?_);simp)|refine AWP_block ?_|refine AWP_seq ?_
        simp [insAt]
end Go.Abs
set_option maxRecDepth 100000
namespace Go.Abs
open Go Go.Proofs
set_option linter.unusedSimpArgs false

end Go.Abs
set_option maxRecDepth 100000
namespace Go.Abs
open Go Go.Proofs
set_option linter.unusedSimpArgs false

/-- The files with a place for the name. -/
def openAt (d : Disk) (s : List UInt8) : List File := if foundAt d.files s (lb d.files s) = true then d.files else insAt d.files (lb d.files s) ⟨s, [], []⟩
def setVol (fs : List File) (p : Nat) (g : List UInt8 → List UInt8) : List File := match fs[p]? with
  | some f => fs.set p { f with vol := g f.vol }
  | none => fs
def finR (fs : List File) (space : Int) : Disk × Int := if (256 : Int) < fs.length then (zeroD, 5) else if space < W (sumV fs) then (zeroD, 27) else (⟨fs, space⟩, 0)
def changedR (d : Disk) (s : List UInt8) (g : List UInt8 → List UInt8) : Disk × Int := if namedR d s = 0 then finR (setVol (openAt d s) (lb d.files s) g) d.space else (zeroD, namedR d s)
theorem lb_le (fs : List File) (s : List UInt8) : lb fs s ≤ fs.length := (List.takeWhile_sublist _).length_le
theorem foundAt_lt {fs : List File} {s : List UInt8} {i : Nat} (h : foundAt fs s i = true) : i < fs.length := by
  unfold foundAt at h
  split at h
  · rename_i f hf; exact (List.getElem?_eq_some_iff.1 hf).1
  · cases h
theorem insAt_len (fs : List File) (i : Nat) (x : File) (h : i ≤ fs.length) : (insAt fs i x).length = fs.length + 1 := by simp [insAt]; omega

set_option maxHeartbeats 4000000 in
theorem dpc37 (f : Nat) (b : List UInt8) (g : List UInt8 → List UInt8) (d : Disk) (s : List UInt8) (hg : ∀ v : List UInt8, (v = [] ∨ ∃ x ∈ d.files, x.vol = v) → PC Tryz.prog f [.str v, .iptr [.str b]] (fun r => r = .str (g v))) :
    PC Tryz.prog 106 [encD d, .str s, .fn (.func f) [] [.iptr [.str b]]] (fun r => r = .tup [encD (changedR d s g).1, .i (changedR d s g).2]) := by
  refine PC_body tOk Tryz.func106 rfl Tryz.results106 rfl (by simp [Tryz.ntmps106]) ?_
  rw [Tryz.ntmps106]
  simp only [argSlots]
  simp only [encD]
  repeat first|((first|refine qa tOk rfl ?_|refine qb tOk rfl ?_|refine qc ?_|refine qd ?_|refine qe ?_);simp)|refine AWP_block ?_|refine AWP_seq ?_
  refine AStep_PCflat rfl rfl (by first | (simp; done) | (simp; rfl)) (dpc49 d [s]) rfl ?_
  rintro _ rfl
  refine ⟨by first | simp | rfl | trivial, ?_⟩
  simp
  repeat first|((first|refine qa tOk rfl ?_|refine qb tOk rfl ?_|refine qc ?_|refine qd ?_|refine qe ?_);simp)|refine AWP_block ?_|refine AWP_seq ?_
  rw [checkedR_one]
  refine AWP_cond2 rfl (fun h => ?_) (fun h1 => ?_)
  · repeat first|((first|refine qa tOk rfl ?_|refine qb tOk rfl ?_|refine qc ?_|refine qd ?_|refine qe ?_);simp)|refine AWP_block ?_|refine AWP_seq ?_
    simp at h
    simp [changedR, h, zeroD]
  simp at h1
  have hc := namedR_check h1
  have hl := checkR_len hc
  have hso := checkR_sorted hc
  have hp := lb_le d.files s
  repeat first|((first|refine qa tOk rfl ?_|refine qb tOk rfl ?_|refine qc ?_|refine qd ?_|refine qe ?_);simp)|refine AWP_block ?_|refine AWP_seq ?_
  refine AWP_drawT tOk mixed [7] (.val 0 (.val 1 (.val 3 (.val 4 (.two 2 (.val 5 (.one 6 (.one 7 .done))) 6 (.one 2 (.one 5 (.one 7 .done)))))))) rfl (by kernel_rfl) ?_
  simp
  refine ⟨?_, ?_⟩
  · refine AStep_FR rfl rfl (by simp) (fr55 d.files (by omega)) rfl ?_
    rintro _ rfl
    simp
    refine AWP_keep (sl' := [(1, .str s), (2, .fn (.func f) [] [.iptr [.str b]]), (3, .vptr 0 0), (6, .vptr 1 0), (7, .i 0), (9, .vptr 4 0)]) ?_ (by simp)
    repeat first|((first|refine qa tOk rfl ?_|refine qb tOk rfl ?_|refine qc ?_|refine qd ?_|refine qe ?_);simp)|refine AWP_block ?_|refine AWP_seq ?_
    refine AStep_PC rfl rfl (by simp) (dpc50 d s (by omega) hso) rfl ?_
    rintro _ rfl
    simp
    repeat first|((first|refine qa tOk rfl ?_|refine qb tOk rfl ?_|refine qc ?_|refine qd ?_|refine qe ?_);simp)|refine AWP_block ?_|refine AWP_seq ?_
    refine AWP_cond2 rfl (fun hnf => ?_) (fun hf => ?_)
    · simp at hnf
      repeat first|((first|refine qa tOk rfl ?_|refine qb tOk rfl ?_|refine qc ?_|refine qd ?_|refine qe ?_);simp)|refine AWP_block ?_|refine AWP_seq ?_
      have hlt := insAt_len d.files (lb d.files s) ⟨s, [], []⟩ hp
      have hpL : lb d.files s < (insAt d.files (lb d.files s) ⟨s, [], []⟩).length := by omega
      have hopen : openAt d s = insAt d.files (lb d.files s) ⟨s, [], []⟩ := by rw [openAt, if_neg (by simp [hnf])]
      have hgL : ((insAt d.files (lb d.files s) ⟨s, [], []⟩).map encFl)[lb d.files s]? = some (encFl (insAt d.files (lb d.files s) ⟨s, [], []⟩)[lb d.files s]) := by simp [hpL]
      have hvv : (insAt d.files (lb d.files s) ⟨s, [], []⟩)[lb d.files s].vol = [] := by simp [insAt, hp]
      refine AStep_FC rfl rfl (fc56 _ 3 5 d.files (lb d.files s) ⟨s, [], []⟩ rfl rfl (by decide) hp (by omega)) rfl ?_
      rintro _ _ ⟨rfl, G, rfl⟩
      rw [← hlt]
      simp
      repeat first|((first|refine qa tOk rfl ?_|refine qb tOk rfl ?_|refine qc ?_|refine qd ?_|refine qe ?_);simp)|refine AWP_block ?_|refine AWP_seq ?_
      refine AWP_draw tOk mixed [13] [0, 1, 2, 3, 4, 5, 6, 7, 8, 9, 10, 11, 12, 13] rfl (by kernel_rfl) ?_
      simp [hpL, hgL]
      refine AStep_PC rfl rfl (by simp) (hg _ (.inl hvv)) rfl ?_
      rintro _ rfl
      simp [hpL, hgL]
      repeat first|((first|refine qa tOk rfl ?_|refine qb tOk rfl ?_|refine qc ?_|refine qd ?_|refine qe ?_);simp)|refine AWP_block ?_|refine AWP_seq ?_
      have hsv : setVol (openAt d s) (lb d.files s) g = (insAt d.files (lb d.files s) ⟨s, [], []⟩).set (lb d.files s) { (insAt d.files (lb d.files s) ⟨s, [], []⟩)[lb d.files s] with vol := g (insAt d.files (lb d.files s) ⟨s, [], []⟩)[lb d.files s].vol } := by rw [hopen, setVol, List.getElem?_eq_getElem hpL]
      have hls : ((insAt d.files (lb d.files s) ⟨s, [], []⟩).set (lb d.files s) { (insAt d.files (lb d.files s) ⟨s, [], []⟩)[lb d.files s] with vol := g (insAt d.files (lb d.files s) ⟨s, [], []⟩)[lb d.files s].vol }).length = (insAt d.files (lb d.files s) ⟨s, [], []⟩).length := by simp
      have hmap : ((insAt d.files (lb d.files s) ⟨s, [], []⟩).map encFl).set (lb d.files s) (.agg [.str (insAt d.files (lb d.files s) ⟨s, [], []⟩)[lb d.files s].name, .str (insAt d.files (lb d.files s) ⟨s, [], []⟩)[lb d.files s].dur, .str (g (insAt d.files (lb d.files s) ⟨s, [], []⟩)[lb d.files s].vol)]) = ((insAt d.files (lb d.files s) ⟨s, [], []⟩).set (lb d.files s) { (insAt d.files (lb d.files s) ⟨s, [], []⟩)[lb d.files s] with vol := g (insAt d.files (lb d.files s) ⟨s, [], []⟩)[lb d.files s].vol }).map encFl := by rw [List.map_set]; rfl
      rw [hmap]
      refine AWP_keep (sl' := [(6, .vptr 1 0), (7, .i 0), (9, .vptr 4 0), (60, .bool (decide ((256 : Int) < (insAt d.files (lb d.files s) ⟨s, [], []⟩).length)))]) ?_ (by simp)
      generalize (insAt d.files (lb d.files s) ⟨s, [], []⟩).set (lb d.files s) { (insAt d.files (lb d.files s) ⟨s, [], []⟩)[lb d.files s] with vol := g (insAt d.files (lb d.files s) ⟨s, [], []⟩)[lb d.files s].vol } = N at hsv hls
      rw [← hls]
      refine AWP_cond2 rfl (fun h => ?_) (fun h2 => ?_)
      · repeat first|((first|refine qa tOk rfl ?_|refine qb tOk rfl ?_|refine qc ?_|refine qd ?_|refine qe ?_);simp)|refine AWP_block ?_|refine AWP_seq ?_
        simp at h
        simp [changedR, h1, hsv, finR, h, zeroD]
      simp at h2
      repeat first|((first|refine qa tOk rfl ?_|refine qb tOk rfl ?_|refine qc ?_|refine qd ?_|refine qe ?_);simp)|refine AWP_block ?_|refine AWP_seq ?_
      refine AStep_PCflat rfl rfl (by first | (simp [take_map_len]; done) | (simp [take_map_len]; rfl)) (dpc46 N) rfl ?_
      rintro _ rfl
      refine ⟨by first | simp | rfl | trivial, ?_⟩
      simp [take_map_len]
      repeat first|((first|refine qa tOk rfl ?_|refine qb tOk rfl ?_|refine qc ?_|refine qd ?_|refine qe ?_);simp)|refine AWP_block ?_|refine AWP_seq ?_
      refine AWP_cond2 rfl (fun h => ?_) (fun h3 => ?_)
      · repeat first|((first|refine qa tOk rfl ?_|refine qb tOk rfl ?_|refine qc ?_|refine qd ?_|refine qe ?_);simp)|refine AWP_block ?_|refine AWP_seq ?_
        simp at h
        rw [changedR, if_pos h1, hsv, finR, if_neg (by omega), if_pos h]
        simp [zeroD]
      simp at h3
      repeat first|((first|refine qa tOk rfl ?_|refine qb tOk rfl ?_|refine qc ?_|refine qd ?_|refine qe ?_);simp [take_map_len])|refine AWP_block ?_|refine AWP_seq ?_
      rw [changedR, if_pos h1, hsv, finR, if_neg (by omega), if_neg (by omega)]
      simp [take_map_len]
    · simp at hf
      have hpL : lb d.files s < d.files.length := foundAt_lt hf
      have hopen : openAt d s = d.files := by rw [openAt, if_pos hf]
      have hgL : (d.files.map encFl)[lb d.files s]? = some (encFl d.files[lb d.files s]) := by simp [hpL]
      repeat first|((first|refine qa tOk rfl ?_|refine qb tOk rfl ?_|refine qc ?_|refine qd ?_|refine qe ?_);simp)|refine AWP_block ?_|refine AWP_seq ?_
      refine AWP_draw tOk mixed [13] [0, 1, 2, 3, 4, 5, 6, 7, 8, 9, 10, 11, 12, 13] rfl (by kernel_rfl) ?_
      simp [hpL, hgL]
      refine AStep_PC rfl rfl (by simp) (hg _ (.inr ⟨_, List.getElem_mem hpL, rfl⟩)) rfl ?_
      rintro _ rfl
      simp [hpL, hgL]
      repeat first|((first|refine qa tOk rfl ?_|refine qb tOk rfl ?_|refine qc ?_|refine qd ?_|refine qe ?_);simp)|refine AWP_block ?_|refine AWP_seq ?_
      have hsv : setVol (openAt d s) (lb d.files s) g = d.files.set (lb d.files s) { d.files[lb d.files s] with vol := g d.files[lb d.files s].vol } := by rw [hopen, setVol, List.getElem?_eq_getElem hpL]
      have hls : (d.files.set (lb d.files s) { d.files[lb d.files s] with vol := g d.files[lb d.files s].vol }).length = d.files.length := by simp
      have hmap : (d.files.map encFl).set (lb d.files s) (.agg [.str d.files[lb d.files s].name, .str d.files[lb d.files s].dur, .str (g d.files[lb d.files s].vol)]) = (d.files.set (lb d.files s) { d.files[lb d.files s] with vol := g d.files[lb d.files s].vol }).map encFl := by rw [List.map_set]; rfl
      rw [hmap]
      refine AWP_keep (sl' := [(6, .vptr 1 0), (7, .i 0), (9, .vptr 4 0), (60, .bool (decide ((256 : Int) < d.files.length)))]) ?_ (by simp)
      generalize d.files.set (lb d.files s) { d.files[lb d.files s] with vol := g d.files[lb d.files s].vol } = N at hsv hls
      rw [← hls]
      refine AWP_cond2 rfl (fun h => ?_) (fun h2 => ?_)
      · repeat first|((first|refine qa tOk rfl ?_|refine qb tOk rfl ?_|refine qc ?_|refine qd ?_|refine qe ?_);simp)|refine AWP_block ?_|refine AWP_seq ?_
        simp at h
        simp [changedR, h1, hsv, finR, h, zeroD]
      simp at h2
      repeat first|((first|refine qa tOk rfl ?_|refine qb tOk rfl ?_|refine qc ?_|refine qd ?_|refine qe ?_);simp)|refine AWP_block ?_|refine AWP_seq ?_
      refine AStep_PCflat rfl rfl (by first | (simp [take_map_len]; done) | (simp [take_map_len]; rfl)) (dpc46 N) rfl ?_
      rintro _ rfl
      refine ⟨by first | simp | rfl | trivial, ?_⟩
      simp [take_map_len]
      repeat first|((first|refine qa tOk rfl ?_|refine qb tOk rfl ?_|refine qc ?_|refine qd ?_|refine qe ?_);simp)|refine AWP_block ?_|refine AWP_seq ?_
      refine AWP_cond2 rfl (fun h => ?_) (fun h3 => ?_)
      · repeat first|((first|refine qa tOk rfl ?_|refine qb tOk rfl ?_|refine qc ?_|refine qd ?_|refine qe ?_);simp)|refine AWP_block ?_|refine AWP_seq ?_
        simp at h
        rw [changedR, if_pos h1, hsv, finR, if_neg (by omega), if_pos h]
        simp [zeroD]
      simp at h3
      repeat first|((first|refine qa tOk rfl ?_|refine qb tOk rfl ?_|refine qc ?_|refine qd ?_|refine qe ?_);simp [take_map_len])|refine AWP_block ?_|refine AWP_seq ?_
      rw [changedR, if_pos h1, hsv, finR, if_neg (by omega), if_neg (by omega)]
      simp [take_map_len]
  · refine AStep_FR rfl rfl (by simp) (fr55 d.files (by omega)) rfl ?_
    rintro _ rfl
    simp
    refine AWP_ren (sl' := [(1, .str s), (2, .fn (.func f) [] [.iptr [.str b]]), (3, .vptr 0 0), (6, .vptr 1 0), (7, .i 0), (9, .vptr 4 0)]) (H' := [.vars [.list (d.files.map encFl), .i d.space], .vars [.nils, .i 0], .arr 9 1 [.str s], .arr 66 3 (d.files.map encFl), .vars [.sl 3 3 0 d.files.length, .i d.space]]) [0, 1, 2, 4, 3] ?_ (by simp) (by decide) (by simp) (by simp) (by simp) (by simp) (by simp)
    repeat first|((first|refine qa tOk rfl ?_|refine qb tOk rfl ?_|refine qc ?_|refine qd ?_|refine qe ?_);simp)|refine AWP_block ?_|refine AWP_seq ?_
    refine AStep_PC rfl rfl (by simp) (dpc50 d s (by omega) hso) rfl ?_
    rintro _ rfl
    simp
    repeat first|((first|refine qa tOk rfl ?_|refine qb tOk rfl ?_|refine qc ?_|refine qd ?_|refine qe ?_);simp)|refine AWP_block ?_|refine AWP_seq ?_
    refine AWP_cond2 rfl (fun hnf => ?_) (fun hf => ?_)
    · simp at hnf
      repeat first|((first|refine qa tOk rfl ?_|refine qb tOk rfl ?_|refine qc ?_|refine qd ?_|refine qe ?_);simp)|refine AWP_block ?_|refine AWP_seq ?_
      have hlt := insAt_len d.files (lb d.files s) ⟨s, [], []⟩ hp
      have hpL : lb d.files s < (insAt d.files (lb d.files s) ⟨s, [], []⟩).length := by omega
      have hopen : openAt d s = insAt d.files (lb d.files s) ⟨s, [], []⟩ := by rw [openAt, if_neg (by simp [hnf])]
      have hgL : ((insAt d.files (lb d.files s) ⟨s, [], []⟩).map encFl)[lb d.files s]? = some (encFl (insAt d.files (lb d.files s) ⟨s, [], []⟩)[lb d.files s]) := by simp [hpL]
      have hvv : (insAt d.files (lb d.files s) ⟨s, [], []⟩)[lb d.files s].vol = [] := by simp [insAt, hp]
      refine AStep_FC rfl rfl (fc56 _ 3 5 d.files (lb d.files s) ⟨s, [], []⟩ rfl rfl (by decide) hp (by omega)) rfl ?_
      rintro _ _ ⟨rfl, G, rfl⟩
      rw [← hlt]
      simp
      repeat first|((first|refine qa tOk rfl ?_|refine qb tOk rfl ?_|refine qc ?_|refine qd ?_|refine qe ?_);simp)|refine AWP_block ?_|refine AWP_seq ?_
      refine AWP_draw tOk mixed [13] [0, 1, 2, 3, 4, 5, 6, 7, 8, 9, 10, 11, 12, 13] rfl (by kernel_rfl) ?_
      simp [hpL, hgL]
      refine AStep_PC rfl rfl (by simp) (hg _ (.inl hvv)) rfl ?_
      rintro _ rfl
      simp [hpL, hgL]
      repeat first|((first|refine qa tOk rfl ?_|refine qb tOk rfl ?_|refine qc ?_|refine qd ?_|refine qe ?_);simp)|refine AWP_block ?_|refine AWP_seq ?_
      have hsv : setVol (openAt d s) (lb d.files s) g = (insAt d.files (lb d.files s) ⟨s, [], []⟩).set (lb d.files s) { (insAt d.files (lb d.files s) ⟨s, [], []⟩)[lb d.files s] with vol := g (insAt d.files (lb d.files s) ⟨s, [], []⟩)[lb d.files s].vol } := by rw [hopen, setVol, List.getElem?_eq_getElem hpL]
      have hls : ((insAt d.files (lb d.files s) ⟨s, [], []⟩).set (lb d.files s) { (insAt d.files (lb d.files s) ⟨s, [], []⟩)[lb d.files s] with vol := g (insAt d.files (lb d.files s) ⟨s, [], []⟩)[lb d.files s].vol }).length = (insAt d.files (lb d.files s) ⟨s, [], []⟩).length := by simp
      have hmap : ((insAt d.files (lb d.files s) ⟨s, [], []⟩).map encFl).set (lb d.files s) (.agg [.str (insAt d.files (lb d.files s) ⟨s, [], []⟩)[lb d.files s].name, .str (insAt d.files (lb d.files s) ⟨s, [], []⟩)[lb d.files s].dur, .str (g (insAt d.files (lb d.files s) ⟨s, [], []⟩)[lb d.files s].vol)]) = ((insAt d.files (lb d.files s) ⟨s, [], []⟩).set (lb d.files s) { (insAt d.files (lb d.files s) ⟨s, [], []⟩)[lb d.files s] with vol := g (insAt d.files (lb d.files s) ⟨s, [], []⟩)[lb d.files s].vol }).map encFl := by rw [List.map_set]; rfl
      rw [hmap]
      refine AWP_keep (sl' := [(6, .vptr 1 0), (7, .i 0), (9, .vptr 4 0), (60, .bool (decide ((256 : Int) < (insAt d.files (lb d.files s) ⟨s, [], []⟩).length)))]) ?_ (by simp)
      generalize (insAt d.files (lb d.files s) ⟨s, [], []⟩).set (lb d.files s) { (insAt d.files (lb d.files s) ⟨s, [], []⟩)[lb d.files s] with vol := g (insAt d.files (lb d.files s) ⟨s, [], []⟩)[lb d.files s].vol } = N at hsv hls
      rw [← hls]
      refine AWP_cond2 rfl (fun h => ?_) (fun h2 => ?_)
      · repeat first|((first|refine qa tOk rfl ?_|refine qb tOk rfl ?_|refine qc ?_|refine qd ?_|refine qe ?_);simp)|refine AWP_block ?_|refine AWP_seq ?_
        simp at h
        simp [changedR, h1, hsv, finR, h, zeroD]
      simp at h2
      repeat first|((first|refine qa tOk rfl ?_|refine qb tOk rfl ?_|refine qc ?_|refine qd ?_|refine qe ?_);simp)|refine AWP_block ?_|refine AWP_seq ?_
      refine AStep_PCflat rfl rfl (by first | (simp [take_map_len]; done) | (simp [take_map_len]; rfl)) (dpc46 N) rfl ?_
      rintro _ rfl
      refine ⟨by first | simp | rfl | trivial, ?_⟩
      simp [take_map_len]
      repeat first|((first|refine qa tOk rfl ?_|refine qb tOk rfl ?_|refine qc ?_|refine qd ?_|refine qe ?_);simp)|refine AWP_block ?_|refine AWP_seq ?_
      refine AWP_cond2 rfl (fun h => ?_) (fun h3 => ?_)
      · repeat first|((first|refine qa tOk rfl ?_|refine qb tOk rfl ?_|refine qc ?_|refine qd ?_|refine qe ?_);simp)|refine AWP_block ?_|refine AWP_seq ?_
        simp at h
        rw [changedR, if_pos h1, hsv, finR, if_neg (by omega), if_pos h]
        simp [zeroD]
      simp at h3
      repeat first|((first|refine qa tOk rfl ?_|refine qb tOk rfl ?_|refine qc ?_|refine qd ?_|refine qe ?_);simp [take_map_len])|refine AWP_block ?_|refine AWP_seq ?_
      rw [changedR, if_pos h1, hsv, finR, if_neg (by omega), if_neg (by omega)]
      simp [take_map_len]
    · simp at hf
      have hpL : lb d.files s < d.files.length := foundAt_lt hf
      have hopen : openAt d s = d.files := by rw [openAt, if_pos hf]
      have hgL : (d.files.map encFl)[lb d.files s]? = some (encFl d.files[lb d.files s]) := by simp [hpL]
      repeat first|((first|refine qa tOk rfl ?_|refine qb tOk rfl ?_|refine qc ?_|refine qd ?_|refine qe ?_);simp)|refine AWP_block ?_|refine AWP_seq ?_
      refine AWP_draw tOk mixed [13] [0, 1, 2, 3, 4, 5, 6, 7, 8, 9, 10, 11, 12, 13] rfl (by kernel_rfl) ?_
      simp [hpL, hgL]
      refine AStep_PC rfl rfl (by simp) (hg _ (.inr ⟨_, List.getElem_mem hpL, rfl⟩)) rfl ?_
      rintro _ rfl
      simp [hpL, hgL]
      repeat first|((first|refine qa tOk rfl ?_|refine qb tOk rfl ?_|refine qc ?_|refine qd ?_|refine qe ?_);simp)|refine AWP_block ?_|refine AWP_seq ?_
      have hsv : setVol (openAt d s) (lb d.files s) g = d.files.set (lb d.files s) { d.files[lb d.files s] with vol := g d.files[lb d.files s].vol } := by rw [hopen, setVol, List.getElem?_eq_getElem hpL]
      have hls : (d.files.set (lb d.files s) { d.files[lb d.files s] with vol := g d.files[lb d.files s].vol }).length = d.files.length := by simp
      have hmap : (d.files.map encFl).set (lb d.files s) (.agg [.str d.files[lb d.files s].name, .str d.files[lb d.files s].dur, .str (g d.files[lb d.files s].vol)]) = (d.files.set (lb d.files s) { d.files[lb d.files s] with vol := g d.files[lb d.files s].vol }).map encFl := by rw [List.map_set]; rfl
      rw [hmap]
      refine AWP_keep (sl' := [(6, .vptr 1 0), (7, .i 0), (9, .vptr 4 0), (60, .bool (decide ((256 : Int) < d.files.length)))]) ?_ (by simp)
      generalize d.files.set (lb d.files s) { d.files[lb d.files s] with vol := g d.files[lb d.files s].vol } = N at hsv hls
      rw [← hls]
      refine AWP_cond2 rfl (fun h => ?_) (fun h2 => ?_)
      · repeat first|((first|refine qa tOk rfl ?_|refine qb tOk rfl ?_|refine qc ?_|refine qd ?_|refine qe ?_);simp)|refine AWP_block ?_|refine AWP_seq ?_
        simp at h
        simp [changedR, h1, hsv, finR, h, zeroD]
      simp at h2
      repeat first|((first|refine qa tOk rfl ?_|refine qb tOk rfl ?_|refine qc ?_|refine qd ?_|refine qe ?_);simp)|refine AWP_block ?_|refine AWP_seq ?_
      refine AStep_PCflat rfl rfl (by first | (simp [take_map_len]; done) | (simp [take_map_len]; rfl)) (dpc46 N) rfl ?_
      rintro _ rfl
      refine ⟨by first | simp | rfl | trivial, ?_⟩
      simp [take_map_len]
      repeat first|((first|refine qa tOk rfl ?_|refine qb tOk rfl ?_|refine qc ?_|refine qd ?_|refine qe ?_);simp)|refine AWP_block ?_|refine AWP_seq ?_
      refine AWP_cond2 rfl (fun h => ?_) (fun h3 => ?_)
      · repeat first|((first|refine qa tOk rfl ?_|refine qb tOk rfl ?_|refine qc ?_|refine qd ?_|refine qe ?_);simp)|refine AWP_block ?_|refine AWP_seq ?_
        simp at h
        rw [changedR, if_pos h1, hsv, finR, if_neg (by omega), if_pos h]
        simp [zeroD]
      simp at h3
      repeat first|((first|refine qa tOk rfl ?_|refine qb tOk rfl ?_|refine qc ?_|refine qd ?_|refine qe ?_);simp [take_map_len])|refine AWP_block ?_|refine AWP_seq ?_
      rw [changedR, if_pos h1, hsv, finR, if_neg (by omega), if_neg (by omega)]
      simp [take_map_len]
end Go.Abs
set_option maxRecDepth 100000
namespace Go.Abs
open Go Go.Proofs
set_option linter.unusedSimpArgs false

def wrG (b : List UInt8) (_ : List UInt8) : List UInt8 := b
def apG (b v : List UInt8) : List UInt8 := v ++ b
set_option maxHeartbeats 2000000 in
theorem dpc13 (d : Disk) (s b : List UInt8) : PC Tryz.prog 64 [encD d, .str s, .str b] (fun r => r = .tup [encD (changedR d s (wrG b)).1, .i (changedR d s (wrG b)).2]) := by
  refine PC_body tOk Tryz.func64 rfl Tryz.results64 rfl (by simp [Tryz.ntmps64]) ?_
  rw [Tryz.ntmps64]
  simp only [argSlots]
  simp only [encD]
  repeat first|((first|refine qa tOk rfl ?_|refine qb tOk rfl ?_|refine qc ?_|refine qd ?_|refine qe ?_);simp)|refine AWP_block ?_|refine AWP_seq ?_
  refine AStep_freezeV 1 (xs := [.str b]) (ys := [.str b]) (by simp) rfl ?_
  simp
  refine AStep_PC rfl rfl (by simp) (dpc37 107 b (wrG b) d s (fun v _ => dpc38 v b)) rfl ?_
  rintro _ rfl
  simp
  repeat first|((first|refine qa tOk rfl ?_|refine qb tOk rfl ?_|refine qc ?_|refine qd ?_|refine qe ?_);simp)|refine AWP_block ?_|refine AWP_seq ?_

def finD (fs : List File) (space : Int) : Disk × Int := if space < W (sumD fs) then (zeroD, 27) else (⟨fs, space⟩, 0)
def syncF (fs : List File) (p : Nat) : List File := match fs[p]? with
  | some f => fs.set p { f with dur := f.vol }
  | none => fs
def syncPR (d : Disk) (s : List UInt8) : Disk × Int := if namedR d s = 0 then (match findF d.files s 0 with
  | none => (zeroD, 6)
  | some i => finD (syncF d.files i) d.space) else (zeroD, namedR d s)
set_option maxHeartbeats 2000000 in
theorem dpc28 (d : Disk) (s : List UInt8) : PC Tryz.prog 97 [encD d, .str s] (fun r => r = .tup [encD (syncPR d s).1, .i (syncPR d s).2]) := by
  refine PC_body tOk Tryz.func97 rfl Tryz.results97 rfl (by simp [Tryz.ntmps97]) ?_
  rw [Tryz.ntmps97]
  simp only [argSlots]
  simp only [encD]
  repeat first|((first|refine qa tOk rfl ?_|refine qb tOk rfl ?_|refine qc ?_|refine qd ?_|refine qe ?_);simp)|refine AWP_block ?_|refine AWP_seq ?_
  refine AStep_PCflat rfl rfl (by first | (simp; done) | (simp; rfl)) (dpc49 d [s]) rfl ?_
  rintro _ rfl
  refine ⟨by first | simp | rfl | trivial, ?_⟩
  simp
  repeat first|((first|refine qa tOk rfl ?_|refine qb tOk rfl ?_|refine qc ?_|refine qd ?_|refine qe ?_);simp)|refine AWP_block ?_|refine AWP_seq ?_
  rw [checkedR_one]
  refine AWP_cond2 rfl (fun h => ?_) (fun h1 => ?_)
  · repeat first|((first|refine qa tOk rfl ?_|refine qb tOk rfl ?_|refine qc ?_|refine qd ?_|refine qe ?_);simp)|refine AWP_block ?_|refine AWP_seq ?_
    simp at h
    simp [syncPR, h, zeroD]
  simp at h1
  have hc := namedR_check h1
  have hl := checkR_len hc
  have hso := checkR_sorted hc
  have hp := placeAV d s hso
  repeat first|((first|refine qa tOk rfl ?_|refine qb tOk rfl ?_|refine qc ?_|refine qd ?_|refine qe ?_);simp)|refine AWP_block ?_|refine AWP_seq ?_
  refine AStep_PC rfl rfl (by simp) (dpc50 d s (by omega) hso) rfl ?_
  rintro _ rfl
  simp
  repeat first|((first|refine qa tOk rfl ?_|refine qb tOk rfl ?_|refine qc ?_|refine qd ?_|refine qe ?_);simp)|refine AWP_block ?_|refine AWP_seq ?_
  cases hf : foundAt d.files s (lb d.files s)
  · rw [hf] at hp
    simp at hp
    refine AWP_cond rfl ?_
    repeat first|((first|refine qa tOk rfl ?_|refine qb tOk rfl ?_|refine qc ?_|refine qd ?_|refine qe ?_);simp)|refine AWP_block ?_|refine AWP_seq ?_
    simp [syncPR, h1, hp, zeroD]
  rw [hf] at hp
  have hp2 : findF d.files s 0 = some (lb d.files s) := by simpa using hp
  have hi := findR_lt hp2
  refine AWP_cond rfl ?_
  repeat first|((first|refine qa tOk rfl ?_|refine qb tOk rfl ?_|refine qc ?_|refine qd ?_|refine qe ?_);simp)|refine AWP_block ?_|refine AWP_seq ?_
  refine AWP_drawT tOk mixed [7] (.val 0 (.val 1 (.val 3 (.val 4 (.two 2 (.val 5 (.one 6 (.one 7 .done))) 6 (.one 2 (.one 5 (.one 7 .done)))))))) rfl (by kernel_rfl) ?_
  simp
  refine ⟨?_, ?_⟩
  · refine AStep_FR rfl rfl (by simp) (fr55 d.files (by omega)) rfl ?_
    rintro _ rfl
    simp
    refine AWP_keep (sl' := [(4, .vptr 1 0), (5, .i 0), (7, .i (lb d.files s)), (9, .vptr 4 0)]) ?_ (by simp)
    repeat first|((first|refine qa tOk rfl ?_|refine qb tOk rfl ?_|refine qc ?_|refine qd ?_|refine qe ?_);simp)|refine AWP_block ?_|refine AWP_seq ?_
    refine AWP_draw tOk mixed [11] [0, 1, 2, 3, 4, 5, 6, 7, 8, 9, 10, 11] rfl (by kernel_rfl) ?_
    simp [hi]
    have hsv : syncF d.files (lb d.files s) = d.files.set (lb d.files s) { d.files[lb d.files s] with dur := d.files[lb d.files s].vol } := by rw [syncF, List.getElem?_eq_getElem hi]
    have hmap : (d.files.map encFl).set (lb d.files s) (.agg [.str d.files[lb d.files s].name, .str d.files[lb d.files s].vol, .str d.files[lb d.files s].vol]) = (d.files.set (lb d.files s) { d.files[lb d.files s] with dur := d.files[lb d.files s].vol }).map encFl := by rw [List.map_set]; rfl
    have hls : (d.files.set (lb d.files s) { d.files[lb d.files s] with dur := d.files[lb d.files s].vol }).length = d.files.length := by simp
    rw [hmap]
    refine AWP_keep (sl' := [(4, .vptr 1 0), (5, .i 0), (9, .vptr 4 0)]) ?_ (by simp)
    generalize d.files.set (lb d.files s) { d.files[lb d.files s] with dur := d.files[lb d.files s].vol } = N at hsv hls
    rw [← hls]
    repeat first|((first|refine qa tOk rfl ?_|refine qb tOk rfl ?_|refine qc ?_|refine qd ?_|refine qe ?_);simp)|refine AWP_block ?_|refine AWP_seq ?_
    refine AStep_PCflat rfl rfl (by first | (simp [take_map_len]; done) | (simp [take_map_len]; rfl)) (dpc46 N) rfl ?_
    rintro _ rfl
    refine ⟨by first | simp | rfl | trivial, ?_⟩
    simp [take_map_len]
    repeat first|((first|refine qa tOk rfl ?_|refine qb tOk rfl ?_|refine qc ?_|refine qd ?_|refine qe ?_);simp)|refine AWP_block ?_|refine AWP_seq ?_
    refine AWP_cond2 rfl (fun h => ?_) (fun h3 => ?_)
    · repeat first|((first|refine qa tOk rfl ?_|refine qb tOk rfl ?_|refine qc ?_|refine qd ?_|refine qe ?_);simp)|refine AWP_block ?_|refine AWP_seq ?_
      simp at h
      simp only [syncPR, if_pos h1, hp2, hsv]
      rw [finD, if_pos h]
      simp [zeroD]
    simp at h3
    repeat first|((first|refine qa tOk rfl ?_|refine qb tOk rfl ?_|refine qc ?_|refine qd ?_|refine qe ?_);simp [take_map_len])|refine AWP_block ?_|refine AWP_seq ?_
    simp only [syncPR, if_pos h1, hp2, hsv]
    rw [finD, if_neg (by omega)]
    simp [take_map_len]
  · refine AStep_FR rfl rfl (by simp) (fr55 d.files (by omega)) rfl ?_
    rintro _ rfl
    simp
    refine AWP_ren (sl' := [(4, .vptr 1 0), (5, .i 0), (7, .i (lb d.files s)), (9, .vptr 4 0)]) (H' := [.vars [.list (d.files.map encFl), .i d.space], .vars [.nils, .i 0], .arr 9 1 [.str s], .arr 66 3 (d.files.map encFl), .vars [.sl 3 3 0 d.files.length, .i d.space]]) [0, 1, 2, 4, 3] ?_ (by simp) (by decide) (by simp) (by simp) (by simp) (by simp) (by simp)
    repeat first|((first|refine qa tOk rfl ?_|refine qb tOk rfl ?_|refine qc ?_|refine qd ?_|refine qe ?_);simp)|refine AWP_block ?_|refine AWP_seq ?_
    refine AWP_draw tOk mixed [11] [0, 1, 2, 3, 4, 5, 6, 7, 8, 9, 10, 11] rfl (by kernel_rfl) ?_
    simp [hi]
    have hsv : syncF d.files (lb d.files s) = d.files.set (lb d.files s) { d.files[lb d.files s] with dur := d.files[lb d.files s].vol } := by rw [syncF, List.getElem?_eq_getElem hi]
    have hmap : (d.files.map encFl).set (lb d.files s) (.agg [.str d.files[lb d.files s].name, .str d.files[lb d.files s].vol, .str d.files[lb d.files s].vol]) = (d.files.set (lb d.files s) { d.files[lb d.files s] with dur := d.files[lb d.files s].vol }).map encFl := by rw [List.map_set]; rfl
    have hls : (d.files.set (lb d.files s) { d.files[lb d.files s] with dur := d.files[lb d.files s].vol }).length = d.files.length := by simp
    rw [hmap]
    refine AWP_keep (sl' := [(4, .vptr 1 0), (5, .i 0), (9, .vptr 4 0)]) ?_ (by simp)
    generalize d.files.set (lb d.files s) { d.files[lb d.files s] with dur := d.files[lb d.files s].vol } = N at hsv hls
    rw [← hls]
    repeat first|((first|refine qa tOk rfl ?_|refine qb tOk rfl ?_|refine qc ?_|refine qd ?_|refine qe ?_);simp)|refine AWP_block ?_|refine AWP_seq ?_
    refine AStep_PCflat rfl rfl (by first | (simp [take_map_len]; done) | (simp [take_map_len]; rfl)) (dpc46 N) rfl ?_
    rintro _ rfl
    refine ⟨by first | simp | rfl | trivial, ?_⟩
    simp [take_map_len]
    repeat first|((first|refine qa tOk rfl ?_|refine qb tOk rfl ?_|refine qc ?_|refine qd ?_|refine qe ?_);simp)|refine AWP_block ?_|refine AWP_seq ?_
    refine AWP_cond2 rfl (fun h => ?_) (fun h3 => ?_)
    · repeat first|((first|refine qa tOk rfl ?_|refine qb tOk rfl ?_|refine qc ?_|refine qd ?_|refine qe ?_);simp)|refine AWP_block ?_|refine AWP_seq ?_
      simp at h
      simp only [syncPR, if_pos h1, hp2, hsv]
      rw [finD, if_pos h]
      simp [zeroD]
    simp at h3
    repeat first|((first|refine qa tOk rfl ?_|refine qb tOk rfl ?_|refine qc ?_|refine qd ?_|refine qe ?_);simp [take_map_len])|refine AWP_block ?_|refine AWP_seq ?_
    simp only [syncPR, if_pos h1, hp2, hsv]
    rw [finD, if_neg (by omega)]
    simp [take_map_len]

def removePR (d : Disk) (s : List UInt8) : Disk × Int := if namedR d s = 0 then (match findF d.files s 0 with
  | none => (zeroD, 6)
  | some i => (⟨d.files.eraseIdx i, d.space⟩, 0)) else (zeroD, namedR d s)
end Go.Abs
set_option maxRecDepth 100000
namespace Go.Abs
open Go Go.Proofs
set_option linter.unusedSimpArgs false

def not2 (s t : List UInt8) (f : File) : Bool := f.name != s && f.name != t
def renamePR (d : Disk) (s t : List UInt8) : Disk × Int := if checkedR d [s, t] = 0 then (match findF d.files s 0 with
  | none => (zeroD, 6)
  | some i => (⟨insAt (d.files.filter (not2 s t)) (lb (d.files.filter (not2 s t)) t) { d.files[i]! with name := t }, d.space⟩, 0)) else (zeroD, checkedR d [s, t])
theorem checkedR_check {d : Disk} {l : List (List UInt8)} (h : checkedR d l = 0) : checkD d = 0 := by
  unfold checkedR at h
  split at h
  · assumption
  · exact h
theorem Sorted.filter {fs : List File} (h : Sorted fs) (p : File → Bool) : Sorted (fs.filter p) := List.Pairwise.filter _ h
set_option maxHeartbeats 2000000 in
theorem dpc29 (d : Disk) (s t : List UInt8) : PC Tryz.prog 99 [encD d, .str s, .str t] (fun r => r = .tup [encD (renamePR d s t).1, .i (renamePR d s t).2]) := by
  refine PC_body tOk Tryz.func99 rfl Tryz.results99 rfl (by simp [Tryz.ntmps99]) ?_
  rw [Tryz.ntmps99]
  simp only [argSlots]
  simp only [encD]
  repeat first|((first|refine qa tOk rfl ?_|refine qb tOk rfl ?_|refine qc ?_|refine qd ?_|refine qe ?_);simp)|refine AWP_block ?_|refine AWP_seq ?_
  refine AStep_PCflat rfl rfl (by first | (simp; done) | (simp; rfl)) (dpc49 d [s, t]) rfl ?_
  rintro _ rfl
  refine ⟨by first | simp | rfl | trivial, ?_⟩
  simp
  repeat first|((first|refine qa tOk rfl ?_|refine qb tOk rfl ?_|refine qc ?_|refine qd ?_|refine qe ?_);simp)|refine AWP_block ?_|refine AWP_seq ?_
  refine AWP_cond2 rfl (fun h => ?_) (fun h1 => ?_)
  · repeat first|((first|refine qa tOk rfl ?_|refine qb tOk rfl ?_|refine qc ?_|refine qd ?_|refine qe ?_);simp)|refine AWP_block ?_|refine AWP_seq ?_
    simp at h
    simp [renamePR, h, zeroD]
  simp at h1
  have hc := checkedR_check h1
  have hl := checkR_len hc
  have hso := checkR_sorted hc
  have hp := placeAV d s hso
  repeat first|((first|refine qa tOk rfl ?_|refine qb tOk rfl ?_|refine qc ?_|refine qd ?_|refine qe ?_);simp)|refine AWP_block ?_|refine AWP_seq ?_
  refine AStep_PC rfl rfl (by simp) (dpc50 d s (by omega) hso) rfl ?_
  rintro _ rfl
  simp
  repeat first|((first|refine qa tOk rfl ?_|refine qb tOk rfl ?_|refine qc ?_|refine qd ?_|refine qe ?_);simp)|refine AWP_block ?_|refine AWP_seq ?_
  cases hf : foundAt d.files s (lb d.files s)
  · rw [hf] at hp
    simp at hp
    refine AWP_cond rfl ?_
    repeat first|((first|refine qa tOk rfl ?_|refine qb tOk rfl ?_|refine qc ?_|refine qd ?_|refine qe ?_);simp)|refine AWP_block ?_|refine AWP_seq ?_
    simp [renamePR, h1, hp, zeroD]
  rw [hf] at hp
  have hp2 : findF d.files s 0 = some (lb d.files s) := by simpa using hp
  have hi := findR_lt hp2
  refine AWP_cond rfl ?_
  repeat first|((first|refine qa tOk rfl ?_|refine qb tOk rfl ?_|refine qc ?_|refine qd ?_|refine qe ?_);simp [hi])|refine AWP_block ?_|refine AWP_seq ?_
  refine AWP_nilOwn 4 0 66 3 rfl rfl ?_
  simp
  refine AWP_count d.files.length (fun j => [(1, .str s), (2, .str t), (6, .vptr 1 0), (11, .vptr 3 0), (12, .vptr 4 0), (46, .list (d.files.map encFl)), (47, .i d.files.length), (48, .i j)]) (fun j => [.vars [.list (d.files.map encFl), .i d.space], .vars [.nils, .i 0], .arr 9 1 [.str s, .str t], .vars [.str t, .str d.files[lb d.files s].dur, .str d.files[lb d.files s].vol], .vars [.sl 5 3 0 ((d.files.take j).filter (not2 s t)).length, .i d.space], .arr 66 3 (((d.files.take j).filter (not2 s t)).map encFl)]) rfl (by simp) (by simp) (by simp) (by simp) ?_
  intro j hj ih
  have hfl : ((d.files.take j).filter (not2 s t)).length ≤ j := by
    have := List.length_filter_le (not2 s t) (d.files.take j)
    rw [List.length_take] at this; omega
  repeat first|((first|refine qa tOk rfl ?_|refine qb tOk rfl ?_|refine qc ?_|refine qd ?_|refine qe ?_);simp)|refine AWP_block ?_|refine AWP_seq ?_
  refine AWP_cond2 rfl (fun hlt => ?_) (fun hge => ?_)
  · have hlt' : j < d.files.length := by simpa using hlt
    have hfs := filter_take_succ d.files (not2 s t) j hlt'
    repeat first|((first|refine qa tOk rfl ?_|refine qb tOk rfl ?_|refine qc ?_|refine qd ?_|refine qe ?_);simp [hlt'])|refine AWP_block ?_|refine AWP_seq ?_
    refine AWP_cond2 rfl (fun h => ?_) (fun h => ?_)
    · repeat first|((first|refine qa tOk rfl ?_|refine qb tOk rfl ?_|refine qc ?_|refine qd ?_|refine qe ?_);simp)|refine AWP_block ?_|refine AWP_seq ?_
      refine AStep_appendS tOk rfl rfl T22 rfl T66 rfl (by decide) (by decide) rfl rfl rfl ?_
      simp
      refine ⟨by simp [appOk] <;> omega, ?_⟩
      repeat first|((first|refine qa tOk rfl ?_|refine qb tOk rfl ?_|refine qc ?_|refine qd ?_|refine qe ?_);simp)|refine AWP_block ?_|refine AWP_seq ?_
      have h' : not2 s t d.files[j] = true := h
      rw [if_pos h'] at hfs
      refine ALoop_ren [0, 1, 2, 3, 4, 8] (ih hlt') (by rw [hfs]; simp) (by decide) (by simp) (by simp) (by simp) (by simp) ?_
      simp
      exact wrap_i64 _ (by omega) (by omega)
    · repeat first|((first|refine qa tOk rfl ?_|refine qb tOk rfl ?_|refine qc ?_|refine qd ?_|refine qe ?_);simp)|refine AWP_block ?_|refine AWP_seq ?_
      have h' : not2 s t d.files[j] = false := h
      rw [if_neg (by rw [h']; simp), List.append_nil] at hfs
      refine ALoop_end _ (ih hlt') (by rw [hfs]; simp; rfl) (by simp) ?_ (by simp) (by simp)
      simp
      exact wrap_i64 _ (by omega) (by omega)
  · have hge' : j = d.files.length := by simp at hge; omega
    subst hge'
    rw [List.take_length] at hfl ⊢
    repeat first|((first|refine qa tOk rfl ?_|refine qb tOk rfl ?_|refine qc ?_|refine qd ?_|refine qe ?_);simp)|refine AWP_block ?_|refine AWP_seq ?_
    refine AStep_PCflat rfl rfl (by first | (simp [take_map_len]; done) | (simp [take_map_len]; rfl)) (dpc50 ⟨d.files.filter (not2 s t), d.space⟩ t (by simp only; omega) (hso.filter _)) rfl ?_
    rintro _ rfl
    refine ⟨by first | simp | rfl | trivial, ?_⟩
    simp [take_map_len]
    repeat first|((first|refine qa tOk rfl ?_|refine qb tOk rfl ?_|refine qc ?_|refine qd ?_|refine qe ?_);simp)|refine AWP_block ?_|refine AWP_seq ?_
    refine AStep_FC rfl rfl (fc56 _ 5 6 (d.files.filter (not2 s t)) (lb (d.files.filter (not2 s t)) t) ⟨t, d.files[lb d.files s].dur, d.files[lb d.files s].vol⟩ rfl rfl (by decide) (lb_le _ _) (by omega)) rfl ?_
    rintro _ _ ⟨rfl, G, rfl⟩
    rw [← insAt_len (d.files.filter (not2 s t)) (lb (d.files.filter (not2 s t)) t) ⟨t, d.files[lb d.files s].dur, d.files[lb d.files s].vol⟩ (lb_le _ _)]
    simp
    repeat first|((first|refine qa tOk rfl ?_|refine qb tOk rfl ?_|refine qc ?_|refine qd ?_|refine qe ?_);simp)|refine AWP_block ?_|refine AWP_seq ?_
    simp [renamePR, h1, hp2, hi, take_map_len]

set_option maxHeartbeats 400000 in
theorem dpc57 (s t : List UInt8) (hs : s.length ≤ 9223372036854775807) (ht : t.length ≤ 9223372036854775807) : PC Tryz.prog 192 [.str s, .str t] (fun r => r = .bool (t.isPrefixOf s)) := by
  refine PC_body tOk Tryz.func192 rfl Tryz.results192 rfl (by simp [Tryz.ntmps192]) ?_
  rw [Tryz.ntmps192]
  simp only [argSlots]
  by_cases h : t.length ≤ s.length
  · have h2 : ¬ s.length < t.length := by omega
    repeat first|((first|refine qa tOk rfl ?_|refine qb tOk rfl ?_|refine qc ?_|refine qd ?_|refine qe ?_);simp [h, h2])|refine AWP_block ?_|refine AWP_seq ?_
    rw [Bool.eq_iff_iff]
    simp [List.prefix_iff_eq_take]
    exact eq_comm
  · have h2 : s.length < t.length := by omega
    repeat first|((first|refine qa tOk rfl ?_|refine qb tOk rfl ?_|refine qc ?_|refine qd ?_|refine qe ?_);simp [h, h2])|refine AWP_block ?_|refine AWP_seq ?_
    rw [← Bool.not_eq_true, List.isPrefixOf_iff_prefix]
    intro hp
    have := hp.length_le
    omega
end Go.Abs
set_option maxRecDepth 100000
namespace Go.Abs
open Go Go.Proofs
set_option linter.unusedSimpArgs false
theorem pc_valid (n : Int) : PC Tryz.prog 56 [.i n] (fun r => r = .i (validN n)) := by
  refine PC_body tOk Tryz.func56 rfl Tryz.results56 rfl (by simp [Tryz.ntmps56]) ?_
  rw [Tryz.ntmps56]
  simp only [argSlots]
  rw [validN]
  repeat first|((first|refine qa tOk rfl ?_|refine qb tOk rfl ?_|refine qc ?_|refine qd ?_|refine qe ?_);simp)|refine AWP_block ?_|refine AWP_seq ?_
  by_cases h0 : n < 1 ∨ 1099511627776 < n
  · rw [if_pos h0]
    refine AWP_cond2 rfl (fun h => ?_) (fun h => by exfalso; rw [Bool.eq_false_iff] at h; apply h; simpa only [Bool.or_eq_true, decide_eq_true_eq] using h0)
    repeat first|((first|refine qa tOk rfl ?_|refine qb tOk rfl ?_|refine qc ?_|refine qd ?_|refine qe ?_);simp)|refine AWP_block ?_|refine AWP_seq ?_
  · rw [if_neg h0]
    refine AWP_cond2 rfl (fun h => by exfalso; apply h0; simpa only [Bool.or_eq_true, decide_eq_true_eq] using h) (fun h => ?_)
    repeat first|((first|refine qa tOk rfl ?_|refine qb tOk rfl ?_|refine qc ?_|refine qd ?_|refine qe ?_);simp)|refine AWP_block ?_|refine AWP_seq ?_
theorem validN_iff (n : Int) : validN n = 0 ↔ 1 ≤ n ∧ n ≤ 1099511627776 := by unfold validN; split <;> omega
theorem pc_rvalid (n : Int) : PC Tryz.prog 51 [.i n] (fun r => r = .bool (validN n == 0)) := by
  refine PC_body tOk Tryz.func51 rfl Tryz.results51 rfl (by simp [Tryz.ntmps51]) ?_
  rw [Tryz.ntmps51]
  simp only [argSlots]
  repeat first|((first|refine qa tOk rfl ?_|refine qb tOk rfl ?_|refine qc ?_|refine qd ?_|refine qe ?_);simp)|refine AWP_block ?_|refine AWP_seq ?_
  rw [Bool.eq_iff_iff, beq_iff_eq, validN_iff]
  simp
theorem pc_rName (n : Int) (h0 : -9223372036854775808 ≤ n) (h1 : n ≤ 9223372036854775807) : PC Tryz.prog 25 [.i n] (fun r => r = .tup [.str (nameR n).1, .i (nameR n).2]) := by
  refine PC_body tOk Tryz.func25 rfl Tryz.results25 rfl (by simp [Tryz.ntmps25]) ?_
  rw [Tryz.ntmps25]
  simp only [argSlots]
  obtain ⟨R, hR⟩ : ∃ R, nameR n = R := ⟨_, rfl⟩
  rw [hR]
  rw [nameR] at hR
  repeat first|((first|refine qa tOk rfl ?_|refine qb tOk rfl ?_|refine qc ?_|refine qd ?_|refine qe ?_);simp)|refine AWP_block ?_|refine AWP_seq ?_
  refine AStep_PC rfl rfl (by simp) (pc_rvalid n) rfl ?_
  rintro _ rfl
  simp
  repeat first|((first|refine qa tOk rfl ?_|refine qb tOk rfl ?_|refine qc ?_|refine qd ?_|refine qe ?_);simp)|refine AWP_block ?_|refine AWP_seq ?_
  by_cases hv : validN n = 0
  · rw [if_neg (fun h => h hv)] at hR
    refine AWP_cond2 rfl (fun h => by simp [hv] at h) (fun h => ?_)
    have hl := Lib.itoa_length_le n (by omega) (by omega)
    have hl2 : 11 + (Lib.itoa n).length ≤ 9223372036854775807 := by omega
    repeat first|((first|refine qa tOk rfl ?_|refine qb tOk rfl ?_|refine qc ?_|refine qd ?_|refine qe ?_);simp)|refine AWP_block ?_|refine AWP_seq ?_
    refine AStep_PC rfl rfl (by simp) (pc_rDecimal n.natAbs n (Nat.le_refl _) h0 h1) rfl ?_
    rintro _ rfl
    simp [hl2]
    repeat first|((first|refine qa tOk rfl ?_|refine qb tOk rfl ?_|refine qc ?_|refine qd ?_|refine qe ?_);simp [hl2])|refine AWP_block ?_|refine AWP_seq ?_
    rw [← hR]
    exact ⟨rfl, rfl⟩
  · rw [if_pos hv] at hR
    refine AWP_cond2 rfl (fun h => ?_) (fun h => by simp [hv] at h)
    repeat first|((first|refine qa tOk rfl ?_|refine qb tOk rfl ?_|refine qc ?_|refine qd ?_|refine qe ?_);simp)|refine AWP_block ?_|refine AWP_seq ?_
    have h2 : validN n = 2 := by unfold validN at *; split <;> simp_all
    rw [← hR, h2]
    exact ⟨rfl, rfl⟩
theorem pc_writing (n : Int) (h0 : -9223372036854775808 ≤ n) (h1 : n ≤ 9223372036854775807) : PC Tryz.prog 54 [.i n] (fun r => r = .str (nameW n)) := by
  refine PC_body tOk Tryz.func54 rfl Tryz.results54 rfl (by simp [Tryz.ntmps54]) ?_
  rw [Tryz.ntmps54]
  simp only [argSlots]
  have hl := Lib.itoa_length_le n (by omega) (by omega)
  have hl2 : 8 + (Lib.itoa n).length ≤ 9223372036854775807 := by omega
  repeat first|((first|refine qa tOk rfl ?_|refine qb tOk rfl ?_|refine qc ?_|refine qd ?_|refine qe ?_);simp)|refine AWP_block ?_|refine AWP_seq ?_
  refine AStep_PC rfl rfl (by simp) (pc_rDecimal n.natAbs n (Nat.le_refl _) h0 h1) rfl ?_
  rintro _ rfl
  simp [hl2]
  repeat first|((first|refine qa tOk rfl ?_|refine qb tOk rfl ?_|refine qc ?_|refine qd ?_|refine qe ?_);simp [hl2])|refine AWP_block ?_|refine AWP_seq ?_
  rfl
def cutP (s p : List UInt8) : List UInt8 × Bool := if p.isPrefixOf s = true then (s.drop p.length, true) else (s, false)
theorem pc_slCut (s p : List UInt8) (hs : s.length ≤ 1000000000) (hp : p.length ≤ 1000000000) : PC Tryz.prog 141 [.str s, .str p] (fun r => r = .tup [.str (cutP s p).1, .bool (cutP s p).2]) := by
  refine PC_body tOk Tryz.func141 rfl Tryz.results141 rfl (by simp [Tryz.ntmps141]) ?_
  rw [Tryz.ntmps141]
  simp only [argSlots]
  obtain ⟨R, hR⟩ : ∃ R, cutP s p = R := ⟨_, rfl⟩
  rw [hR]
  rw [cutP] at hR
  repeat first|((first|refine qa tOk rfl ?_|refine qb tOk rfl ?_|refine qc ?_|refine qd ?_|refine qe ?_);simp)|refine AWP_block ?_|refine AWP_seq ?_
  refine AStep_PC rfl rfl (by simp) (dpc57 s p (by omega) (by omega)) rfl ?_
  rintro _ rfl
  simp
  repeat first|((first|refine qa tOk rfl ?_|refine qb tOk rfl ?_|refine qc ?_|refine qd ?_|refine qe ?_);simp)|refine AWP_block ?_|refine AWP_seq ?_
  by_cases hv : p.isPrefixOf s = true
  · rw [if_pos hv] at hR
    refine AWP_cond2 rfl (fun h => by simp [hv] at h) (fun h => ?_)
    rw [List.isPrefixOf_iff_prefix] at hv
    have hl := hv.length_le
    have hl' : (p.length : Int) ≤ s.length := by omega
    repeat first|((first|refine qa tOk rfl ?_|refine qb tOk rfl ?_|refine qc ?_|refine qd ?_|refine qe ?_);simp [hl, hl'])|refine AWP_block ?_|refine AWP_seq ?_
    rw [← hR]
    exact ⟨rfl, rfl⟩
  · rw [if_neg hv] at hR
    refine AWP_cond2 rfl (fun h => ?_) (fun h => by simp [hv] at h)
    repeat first|((first|refine qa tOk rfl ?_|refine qb tOk rfl ?_|refine qc ?_|refine qd ?_|refine qe ?_);simp)|refine AWP_block ?_|refine AWP_seq ?_
    rw [← hR]
    exact ⟨rfl, rfl⟩
theorem pc_sCutPrefix (s p : List UInt8) (hs : s.length ≤ 1000000000) (hp : p.length ≤ 1000000000) : PC Tryz.prog 101 [.str s, .str p] (fun r => r = .tup [.str (cutP s p).1, .bool (cutP s p).2]) := by
  refine PC_body tOk Tryz.func101 rfl Tryz.results101 rfl (by simp [Tryz.ntmps101]) ?_
  rw [Tryz.ntmps101]
  simp only [argSlots]
  repeat first|((first|refine qa tOk rfl ?_|refine qb tOk rfl ?_|refine qc ?_|refine qd ?_|refine qe ?_);simp)|refine AWP_block ?_|refine AWP_seq ?_
  refine AStep_PC rfl rfl (by simp) (pc_slCut s p hs hp) rfl ?_
  rintro _ rfl
  simp
  repeat first|((first|refine qa tOk rfl ?_|refine qb tOk rfl ?_|refine qc ?_|refine qd ?_|refine qe ?_);simp)|refine AWP_block ?_|refine AWP_seq ?_
set_option maxHeartbeats 1000000 in
theorem pc_numbered (p s : List UInt8) (hs : s.length ≤ 1000000000) (hp : p.length ≤ 1000000000) : PC Tryz.prog 59 [.str p, .str s] (fun r => r = .tup [.i (numbR p s).1, .bool (numbR p s).2]) := by
  refine PC_body tOk Tryz.func59 rfl Tryz.results59 rfl (by simp [Tryz.ntmps59]) ?_
  rw [Tryz.ntmps59]
  simp only [argSlots]
  obtain ⟨R, hR⟩ : ∃ R, numbR p s = R := ⟨_, rfl⟩
  rw [hR]
  repeat first|((first|refine qa tOk rfl ?_|refine qb tOk rfl ?_|refine qc ?_|refine qd ?_|refine qe ?_);simp)|refine AWP_block ?_|refine AWP_seq ?_
  refine AStep_PC rfl rfl (by simp) (pc_sCutPrefix s p hs hp) rfl ?_
  rintro _ rfl
  simp
  repeat first|((first|refine qa tOk rfl ?_|refine qb tOk rfl ?_|refine qc ?_|refine qd ?_|refine qe ?_);simp)|refine AWP_block ?_|refine AWP_seq ?_
  by_cases hv : p.isPrefixOf s = true
  · rw [List.isPrefixOf_iff_prefix] at hv
    obtain ⟨t, rfl⟩ := hv
    have hc : cutP (p ++ t) p = (t, true) := by rw [cutP, if_pos (by rw [List.isPrefixOf_iff_prefix]; exact List.prefix_append _ _)]; simp
    rw [hc]
    have htl : t.length ≤ 1000000000 := by simp at hs; omega
    simp
    refine AStep_PC rfl rfl (by simp) (pc_Atoi t htl) rfl ?_
    rintro _ rfl
    simp
    rw [atoiAV]
    cases ha : Lib.atoiAll t with
    | ok v =>
      simp only
      repeat first|((first|refine qa tOk rfl ?_|refine qb tOk rfl ?_|refine qc ?_|refine qd ?_|refine qe ?_);simp)|refine AWP_block ?_|refine AWP_seq ?_
      refine AStep_nilI (b := false) tOk rfl rfl rfl T163 rfl rfl ?_
      simp
      refine AStep_PC rfl rfl (by simp) (pc_valid v) rfl ?_
      rintro _ rfl
      simp
      by_cases hv : validN v = 0
      · have hv2 := (validN_iff v).1 hv
        have hvb : (validN v != 0) = false := by simp [hv]
        have hvb' : (validN v == 0) = true := by simp [hv]
        simp [hvb, hvb', hv]
        refine AStep_PC rfl rfl (by simp) (pc_Itoa v (by omega) (by omega)) rfl ?_
        rintro _ rfl
        simp
        repeat first|((first|refine qa tOk rfl ?_|refine qb tOk rfl ?_|refine qc ?_|refine qd ?_|refine qe ?_);simp)|refine AWP_block ?_|refine AWP_seq ?_
        by_cases hi : Lib.itoa v = t
        · refine AWP_cond2 rfl (fun h => by simp [hi] at h) (fun h => ?_)
          repeat first|((first|refine qa tOk rfl ?_|refine qb tOk rfl ?_|refine qc ?_|refine qd ?_|refine qe ?_);simp)|refine AWP_block ?_|refine AWP_seq ?_
          rw [numb_of hv2.1 hv2.2 hi] at hR
          rw [← hR]
          exact ⟨rfl, rfl⟩
        · refine AWP_cond2 rfl (fun h => ?_) (fun h => by simp [hi] at h)
          repeat first|((first|refine qa tOk rfl ?_|refine qb tOk rfl ?_|refine qc ?_|refine qd ?_|refine qe ?_);simp)|refine AWP_block ?_|refine AWP_seq ?_
          rw [numb_false] at hR
          · rw [← hR]; exact ⟨rfl, rfl⟩
          · intro u h1 h2 h3
            have h4 := List.append_cancel_left h3
            obtain ⟨m, rfl⟩ := Int.eq_ofNat_of_zero_le (show (0 : Int) ≤ u by omega)
            rw [Lib.itoa_nonneg] at h4
            rw [h4, atoi_dec m (by omega)] at ha
            injection ha with ha
            apply hi
            rw [h4, ← ha, Lib.itoa_nonneg]
      · have hvb : (validN v != 0) = true := by simp [hv]
        have hvb' : (validN v == 0) = false := by simp [hv]
        simp [hvb, hvb', hv]
        repeat first|((first|refine qa tOk rfl ?_|refine qb tOk rfl ?_|refine qc ?_|refine qd ?_|refine qe ?_);simp [hvb, hvb', hv])|refine AWP_block ?_|refine AWP_seq ?_
        refine AStep_skip (by simp [hv]) rfl ?_
        simp [hvb, hvb', hv]
        repeat first|((first|refine qa tOk rfl ?_|refine qb tOk rfl ?_|refine qc ?_|refine qd ?_|refine qe ?_);simp)|refine AWP_block ?_|refine AWP_seq ?_
        refine AWP_cond2 rfl (fun h => ?_) (fun h => by simp [hv] at h)
        repeat first|((first|refine qa tOk rfl ?_|refine qb tOk rfl ?_|refine qc ?_|refine qd ?_|refine qe ?_);simp)|refine AWP_block ?_|refine AWP_seq ?_
        rw [numb_false] at hR
        · rw [← hR]; exact ⟨rfl, rfl⟩
        · intro u h1 h2 h3
          have h4 := List.append_cancel_left h3
          obtain ⟨m, rfl⟩ := Int.eq_ofNat_of_zero_le (show (0 : Int) ≤ u by omega)
          rw [Lib.itoa_nonneg] at h4
          rw [h4, atoi_dec m (by omega)] at ha
          injection ha with ha
          rw [← ha] at hv
          exact hv ((validN_iff _).2 ⟨by omega, by omega⟩)
    | range =>
      simp only
      repeat first|((first|refine qa tOk rfl ?_|refine qb tOk rfl ?_|refine qc ?_|refine qd ?_|refine qe ?_);simp)|refine AWP_block ?_|refine AWP_seq ?_
      refine AStep_nilIfc (b := true) tOk rfl rfl rfl T163 rfl rfl ?_
      simp
      refine AStep_skip rfl rfl ?_
      simp
      refine AStep_skip rfl rfl ?_
      simp
      repeat first|((first|refine qa tOk rfl ?_|refine qb tOk rfl ?_|refine qc ?_|refine qd ?_|refine qe ?_);simp)|refine AWP_block ?_|refine AWP_seq ?_
      refine AWP_cond rfl ?_
      repeat first|((first|refine qa tOk rfl ?_|refine qb tOk rfl ?_|refine qc ?_|refine qd ?_|refine qe ?_);simp)|refine AWP_block ?_|refine AWP_seq ?_
      rw [numb_false] at hR
      · rw [← hR]; exact ⟨rfl, rfl⟩
      · intro u h1 h2 h3
        have h4 := List.append_cancel_left h3
        obtain ⟨m, rfl⟩ := Int.eq_ofNat_of_zero_le (show (0 : Int) ≤ u by omega)
        rw [Lib.itoa_nonneg] at h4
        rw [h4, atoi_dec m (by omega)] at ha
        cases ha
    | _ =>
      simp only
      repeat first|((first|refine qa tOk rfl ?_|refine qb tOk rfl ?_|refine qc ?_|refine qd ?_|refine qe ?_);simp)|refine AWP_block ?_|refine AWP_seq ?_
      refine AStep_nilIfc (b := true) tOk rfl rfl rfl T163 rfl rfl ?_
      simp
      refine AStep_skip rfl rfl ?_
      simp
      refine AStep_skip rfl rfl ?_
      simp
      repeat first|((first|refine qa tOk rfl ?_|refine qb tOk rfl ?_|refine qc ?_|refine qd ?_|refine qe ?_);simp)|refine AWP_block ?_|refine AWP_seq ?_
      refine AWP_cond rfl ?_
      repeat first|((first|refine qa tOk rfl ?_|refine qb tOk rfl ?_|refine qc ?_|refine qd ?_|refine qe ?_);simp)|refine AWP_block ?_|refine AWP_seq ?_
      rw [numb_false] at hR
      · rw [← hR]; exact ⟨rfl, rfl⟩
      · intro u h1 h2 h3
        have h4 := List.append_cancel_left h3
        obtain ⟨m, rfl⟩ := Int.eq_ofNat_of_zero_le (show (0 : Int) ≤ u by omega)
        rw [Lib.itoa_nonneg] at h4
        rw [h4, atoi_dec m (by omega)] at ha
        cases ha
  · have hc : cutP s p = (s, false) := by rw [cutP, if_neg hv]
    rw [hc]
    simp
    refine AStep_PC rfl rfl (by simp) (pc_Atoi s hs) rfl ?_
    rintro _ rfl
    simp
    rw [numb_false (fun u _ _ h => by rw [h] at hv; apply hv; rw [List.isPrefixOf_iff_prefix]; exact List.prefix_append _ _)] at hR
    rw [atoiAV]
    cases ha : Lib.atoiAll s with
    | ok v =>
      simp
      repeat first|((first|refine qa tOk rfl ?_|refine qb tOk rfl ?_|refine qc ?_|refine qd ?_|refine qe ?_);simp)|refine AWP_block ?_|refine AWP_seq ?_
      refine AStep_skip rfl rfl ?_
      simp
      refine AStep_skip rfl rfl ?_
      simp
      repeat first|((first|refine qa tOk rfl ?_|refine qb tOk rfl ?_|refine qc ?_|refine qd ?_|refine qe ?_);simp)|refine AWP_block ?_|refine AWP_seq ?_
      refine AWP_cond rfl ?_
      repeat first|((first|refine qa tOk rfl ?_|refine qb tOk rfl ?_|refine qc ?_|refine qd ?_|refine qe ?_);simp)|refine AWP_block ?_|refine AWP_seq ?_
      rw [← hR]
      exact ⟨rfl, rfl⟩
    | range =>
      simp
      repeat first|((first|refine qa tOk rfl ?_|refine qb tOk rfl ?_|refine qc ?_|refine qd ?_|refine qe ?_);simp)|refine AWP_block ?_|refine AWP_seq ?_
      refine AStep_skip rfl rfl ?_
      simp
      refine AStep_skip rfl rfl ?_
      simp
      repeat first|((first|refine qa tOk rfl ?_|refine qb tOk rfl ?_|refine qc ?_|refine qd ?_|refine qe ?_);simp)|refine AWP_block ?_|refine AWP_seq ?_
      refine AWP_cond rfl ?_
      repeat first|((first|refine qa tOk rfl ?_|refine qb tOk rfl ?_|refine qc ?_|refine qd ?_|refine qe ?_);simp)|refine AWP_block ?_|refine AWP_seq ?_
      rw [← hR]
      exact ⟨rfl, rfl⟩
    | _ =>
      simp
      repeat first|((first|refine qa tOk rfl ?_|refine qb tOk rfl ?_|refine qc ?_|refine qd ?_|refine qe ?_);simp)|refine AWP_block ?_|refine AWP_seq ?_
      refine AStep_skip rfl rfl ?_
      simp
      refine AStep_skip rfl rfl ?_
      simp
      repeat first|((first|refine qa tOk rfl ?_|refine qb tOk rfl ?_|refine qc ?_|refine qd ?_|refine qe ?_);simp)|refine AWP_block ?_|refine AWP_seq ?_
      refine AWP_cond rfl ?_
      repeat first|((first|refine qa tOk rfl ?_|refine qb tOk rfl ?_|refine qc ?_|refine qd ?_|refine qe ?_);simp)|refine AWP_block ?_|refine AWP_seq ?_
      rw [← hR]
      exact ⟨rfl, rfl⟩
theorem pc_Number (s : List UInt8) (hs : s.length ≤ 1000000000) : PC Tryz.prog 26 [.str s] (fun r => r = .tup [.i (numbR preC s).1, .bool (numbR preC s).2]) := by
  refine PC_body tOk Tryz.func26 rfl Tryz.results26 rfl (by simp [Tryz.ntmps26]) ?_
  rw [Tryz.ntmps26]
  simp only [argSlots]
  repeat first|((first|refine qa tOk rfl ?_|refine qb tOk rfl ?_|refine qc ?_|refine qd ?_|refine qe ?_);simp)|refine AWP_block ?_|refine AWP_seq ?_
  refine AStep_PC rfl rfl (by simp) (pc_numbered preC s hs (by decide)) rfl ?_
  rintro _ rfl
  simp
  repeat first|((first|refine qa tOk rfl ?_|refine qb tOk rfl ?_|refine qc ?_|refine qd ?_|refine qe ?_);simp)|refine AWP_block ?_|refine AWP_seq ?_
end Go.Abs
set_option maxRecDepth 100000
namespace Go.Abs
open Go Go.Proofs
set_option linter.unusedSimpArgs false
/-- Where a writer lies: its bytes are nil, or memory of the call's own. -/
def wOut (n : Nat) (o : Option Nat) : AV := match o with | none => .nils | some p => .sl p 1 0 n
def wX (n : Nat) (e : Int) (o : Option Nat) : AObj := .vars [wOut n o, .i e]
def WA (H : List AObj) (q : Nat) (out : List UInt8) (e : Int) (o : Option Nat) : Prop :=
  H[q]? = some (wX out.length e o) ∧ match o with | none => out = [] | some p => H[p]? = some (.arr 5 1 (out.map byteAV)) ∧ p ≠ q
/-- What goes on: all but the writer and its bytes. -/
def Fr (H H' : List AObj) (q : Nat) (o o' : Option Nat) : Prop :=
  H.length ≤ H'.length ∧ (o' = o ∨ ∃ p, o' = some p ∧ H.length ≤ p) ∧ ∀ j, j < H.length → j ≠ q → some j ≠ o → H'[j]? = H[j]?
theorem Fr.refl (H : List AObj) (q : Nat) (o : Option Nat) : Fr H H q o o := ⟨Nat.le_refl _, .inl rfl, fun _ _ _ _ => rfl⟩
theorem Fr.trans {H H1 H2 : List AObj} {q : Nat} {o o1 o2 : Option Nat} (a : Fr H H1 q o o1) (b : Fr H1 H2 q o1 o2) : Fr H H2 q o o2 := by
  refine ⟨Nat.le_trans a.1 b.1, ?_, fun j hj h1 h2 => ?_⟩
  · rcases b.2.1 with h | ⟨p, h, hp⟩
    · rw [h]; exact a.2.1
    · exact .inr ⟨p, h, Nat.le_trans a.1 hp⟩
  · rw [b.2.2 j (Nat.lt_of_lt_of_le hj a.1) h1, a.2.2 j hj h1 h2]
    rcases a.2.1 with h | ⟨p, h, hp⟩
    · rw [h]; exact h2
    · rw [h]; intro e; cases e; omega
theorem Fr.cut {H G H' : List AObj} {q : Nat} {o o' : Option Nat} (a : Fr (H ++ G) H' q o o') : Fr H H' q o o' :=
  ⟨by have := a.1; simp at this; omega, by
    rcases a.2.1 with h | ⟨p, h, hp⟩
    · exact .inl h
    · exact .inr ⟨p, h, by simp at hp; omega⟩, fun j hj h1 h2 => by rw [a.2.2 j (by simp; omega) h1 h2, List.getElem?_append_left hj]⟩
theorem WA.lt {H : List AObj} {q : Nat} {out : List UInt8} {e : Int} {o : Option Nat} (h : WA H q out e o) : q < H.length := (List.getElem?_eq_some_iff.1 h.1).1
theorem WA.olt {H : List AObj} {q : Nat} {out : List UInt8} {e : Int} {o : Option Nat} (h : WA H q out e o) {p : Nat} (hp : o = some p) : p < H.length := by
  subst hp; exact (List.getElem?_eq_some_iff.1 h.2.1).1
theorem WA.app {H : List AObj} {q : Nat} {out : List UInt8} {e : Int} {o : Option Nat} (h : WA H q out e o) (G : List AObj) : WA (H ++ G) q out e o := by
  refine ⟨get_app h.1 G, ?_⟩
  have := h.2
  cases o with
  | none => exact this
  | some p => exact ⟨get_app this.1 G, this.2⟩
/-- What a writing function leaves: 'bs' behind the bytes if there was no error, and the first error. -/
def WP (H : List AObj) (q : Nat) (o : Option Nat) (out : List UInt8) (e : Int) (bs : List UInt8) (er : Int) (r : AV) (H' : List AObj) : Prop :=
  r = .tup [] ∧ ∃ out' o', WA H' q out' (orE e er) o' ∧ Fr H H' q o o' ∧ out'.length ≤ out.length + bs.length ∧ (orE e er = 0 → out' = out ++ bs)
theorem orE_assoc (a b c : Int) : orE (orE a b) c = orE a (orE b c) := by
  unfold orE; by_cases h : a = 0 <;> simp [h]
theorem orE_self (a : Int) : orE a 0 = a := by unfold orE; split <;> simp_all
theorem orE_z (a : Int) : orE 0 a = a := by simp [orE]
theorem orE_left {a b : Int} (h : orE a b = 0) : a = 0 := (orE_zero h).1

theorem WA.err {H : List AObj} {q : Nat} {out : List UInt8} {e : Int} {o : Option Nat} (h : WA H q out e o) (e' : Int) : WA (H.set q (wX out.length e' o)) q out e' o := by
  refine ⟨get_self h.1 _, ?_⟩
  have := h.2
  cases o with
  | none => exact this
  | some p => exact ⟨get_set (fun x => this.2 x.symm) this.1 _, this.2⟩
theorem Fr.set (H : List AObj) (q : Nat) (o : Option Nat) (x : AObj) : Fr H (H.set q x) q o o := ⟨by simp, .inl rfl, fun j _ h1 _ => List.getElem?_set_ne (fun e => h1 e.symm)⟩
/-- What a function leaves that writes just these bytes. -/
def WI (H : List AObj) (q : Nat) (o : Option Nat) (out : List UInt8) (e : Int) (bs : List UInt8) (r : AV) (H' : List AObj) : Prop :=
  r = .tup [] ∧ ∃ o', WA H' q (out ++ bs) e o' ∧ Fr H H' q o o' ∧ (bs ≠ [] → o' ≠ none)
theorem WI.wp {H : List AObj} {q : Nat} {o : Option Nat} {out : List UInt8} {e : Int} {bs : List UInt8} {r : AV} {H' : List AObj} (h : WI H q o out e bs r H') : WP H q o out e bs 0 r H' := by
  obtain ⟨h1, o', h2, h3, _⟩ := h
  exact ⟨h1, _, o', by rw [orE_self]; exact h2, h3, by simp, fun _ => rfl⟩
theorem WP.trans {H H1 H2 : List AObj} {q : Nat} {o o1 : Option Nat} {out out1 : List UInt8} {e : Int} {b1 b2 : List UInt8} {r1 r2 : Int} {r : AV} (hf : Fr H H1 q o o1) (hl : out1.length ≤ out.length + b1.length) (ho : orE e r1 = 0 → out1 = out ++ b1)
    (h : WP H1 q o1 out1 (orE e r1) b2 r2 r H2) : WP H q o out e (b1 ++ b2) (orE r1 r2) r H2 := by
  obtain ⟨h1, out2, o2, h2, h3, h4, h5⟩ := h
  rw [orE_assoc] at h2 h5
  refine ⟨h1, out2, o2, h2, hf.trans h3, by simp; omega, fun h => ?_⟩
  rw [h5 h, ho (orE_left (b := r2) (by rw [orE_assoc]; exact h)), List.append_assoc]
theorem WP.cut {H G H' : List AObj} {q : Nat} {o : Option Nat} {out : List UInt8} {e : Int} {b : List UInt8} {x : Int} {r : AV} (h : WP (H ++ G) q o out e b x r H') : WP H q o out e b x r H' := by
  obtain ⟨h1, out2, o2, h2, h3, h4, h5⟩ := h
  exact ⟨h1, out2, o2, h2, h3.cut, h4, h5⟩
/-- New bytes behind the old ones. -/
theorem wa_put {H : List AObj} {q : Nat} {out : List UInt8} {e : Int} {o : Option Nat} (h : WA H q out e o) (A : AObj) (bs : List UInt8) (H1 : List AObj) (hH1 : H1 = match o with | none => H ++ [A] | some p => (H ++ [A]).set p .dead) :
    WA ((H1 ++ [AObj.arr 5 1 ((out ++ bs).map byteAV)]).set q (wX (out ++ bs).length e (some (H.length + 1)))) q (out ++ bs) e (some (H.length + 1)) ∧
    Fr H ((H1 ++ [AObj.arr 5 1 ((out ++ bs).map byteAV)]).set q (wX (out ++ bs).length e (some (H.length + 1)))) q o (some (H.length + 1)) := by
  have hq := h.lt
  have hl : H1.length = H.length + 1 := by rw [hH1]; cases o <;> simp
  refine ⟨⟨?_, ?_, by omega⟩, by simp; omega, .inr ⟨_, rfl, by omega⟩, fun j hj h1 h2 => ?_⟩
  · rw [List.getElem?_set_self (by simp; omega)]
  · rw [List.getElem?_set_ne (by omega), ← hl, List.getElem?_concat_length]
  · rw [List.getElem?_set_ne (fun x => h1 x.symm), List.getElem?_append_left (by omega), hH1]
    cases o with
    | none => exact List.getElem?_append_left hj
    | some p => simp only; rw [List.getElem?_set_ne (fun x => h2 (by rw [x])), List.getElem?_append_left hj]
theorem wa_put0 {H : List AObj} {q : Nat} {out : List UInt8} {e : Int} {p : Nat} (h : WA H q out e (some p)) (bs : List UInt8) :
    WA ((H.set p .dead ++ [AObj.arr 5 1 ((out ++ bs).map byteAV)]).set q (wX (out ++ bs).length e (some H.length))) q (out ++ bs) e (some H.length) ∧
    Fr H ((H.set p .dead ++ [AObj.arr 5 1 ((out ++ bs).map byteAV)]).set q (wX (out ++ bs).length e (some H.length))) q (some p) (some H.length) := by
  have hq := h.lt
  have hl : (H.set p .dead).length = H.length := by simp
  refine ⟨⟨?_, ?_, by omega⟩, by simp, .inr ⟨_, rfl, by omega⟩, fun j hj h1 h2 => ?_⟩
  · rw [List.getElem?_set_self (by simp; omega)]
  · rw [List.getElem?_set_ne (by omega)]
    have := List.getElem?_concat_length (l := H.set p .dead) (a := AObj.arr 5 1 ((out ++ bs).map byteAV))
    rw [hl] at this
    exact this
  · rw [List.getElem?_set_ne (fun x => h1 x.symm), List.getElem?_append_left (by omega), List.getElem?_set_ne (fun x => h2 (by rw [x]))]
attribute [irreducible] wOut
theorem wOut_none (n : Nat) : wOut n none = .nils := by unfold wOut; rfl
theorem wOut_some (n p : Nat) : wOut n (some p) = .sl p 1 0 n := by unfold wOut; rfl
theorem firstE_app {α : Type} (f : α → Int) : ∀ (a b : List α), firstE f (a ++ b) = orE (firstE f a) (firstE f b)
  | [], b => by rw [List.nil_append, firstE, orE_z]
  | x :: a, b => by rw [List.cons_append, firstE, firstE, firstE_app f a b, orE_assoc]
theorem firstE_take {α : Type} (f : α → Int) (l : List α) (j : Nat) (h : j < l.length) : firstE f (l.take (j + 1)) = orE (firstE f (l.take j)) (f l[j]) := by
  rw [List.take_succ_eq_append_getElem h, firstE_app, firstE, firstE, orE_self]
theorem orE_ne {a b : Int} (h : a ≠ 0) : orE a b = a := by rw [orE, if_pos h]
theorem flat_take {α : Type} (f : α → List UInt8) (l : List α) (j : Nat) (h : j < l.length) : (l.take (j + 1)).flatMap f = (l.take j).flatMap f ++ f l[j] := by
  rw [List.take_succ_eq_append_getElem h, List.flatMap_append]; simp
theorem flat_le {α : Type} (f : α → List UInt8) (l : List α) (j : Nat) : ((l.take j).flatMap f).length ≤ (l.flatMap f).length := by
  conv => rhs; rw [← List.take_append_drop j l, List.flatMap_append, List.length_append]
  omega
end Go.Abs
set_option maxRecDepth 100000
namespace Go.Abs
open Go Go.Proofs
set_option linter.unusedSimpArgs false
theorem fc_wfail (H : List AObj) (q : Nat) (o : Option Nat) (out : List UInt8) (e x : Int) (hw : WA H q out e o) : FC Tryz.prog 176 [.vptr q 0, .i x] H (fun r H' => r = .tup [] ∧ H' = H.set q (wX out.length (orE e x) o)) := by
  refine FC_body tOk Tryz.func176 rfl Tryz.results176 rfl (by simp [Tryz.ntmps176]) ?_
  rw [Tryz.ntmps176]
  simp only [argSlots]
  have h0 : H[q]? = some (.vars [wOut out.length o, .i e]) := hw.1
  repeat first|((first|refine qa tOk rfl ?_|refine qb tOk rfl ?_|refine qc ?_|refine qd ?_|refine qe ?_);simp [h0])|refine AWP_block ?_|refine AWP_seq ?_
  refine AWP_cond2 rfl (fun h => ?_) (fun h => ?_)
  · have h' : e = 0 := by simpa using h
    subst h'
    repeat first|((first|refine qa tOk rfl ?_|refine qb tOk rfl ?_|refine qc ?_|refine qd ?_|refine qe ?_);simp [h0])|refine AWP_block ?_|refine AWP_seq ?_
    rw [orE_z]
    rfl
  · have h' : e ≠ 0 := by simpa using h
    repeat first|((first|refine qa tOk rfl ?_|refine qb tOk rfl ?_|refine qc ?_|refine qd ?_|refine qe ?_);simp)|refine AWP_block ?_|refine AWP_seq ?_
    rw [orE_ne h']
    exact (set_hold' h0).symm
theorem zig_nat (n : Int) (h : i64 n) : zig n < 18446744073709551616 := by
  obtain ⟨h1, h2⟩ := h
  unfold zig; split <;> omega
theorem zig_bits (n : Int) (h : i64 n) : bits .xor .u64 (IntKind.u64.wrap (IntKind.i64.wrap (n * 2 ^ min 1 IntKind.i64.bits))) (IntKind.u64.wrap (n.fdiv (2 ^ min 63 IntKind.i64.bits))) = (zig n : Int) := by
  obtain ⟨h1, h2⟩ := h
  have e1 : (2 : Int) ^ min 1 IntKind.i64.bits = 2 := by decide
  have e2 : (2 : Int) ^ min 63 IntKind.i64.bits = 9223372036854775808 := by decide
  rw [e1, e2, Int.fdiv_eq_ediv_of_nonneg _ (by omega)]
  unfold zig
  split
  · rename_i h0
    have d : n / 9223372036854775808 = 0 := by omega
    have w : IntKind.u64.wrap (IntKind.i64.wrap (n * 2)) = ((2 * n).toNat : Int) := by rw [IntKind.wrap_u64, IntKind.wrap_i64]; omega
    rw [d, w, show IntKind.u64.wrap 0 = ((0 : Nat) : Int) by decide, bits_xor_u64_nat _ _ (by omega) (by omega), Nat.xor_zero]
  · rename_i h0
    have d : n / 9223372036854775808 = -1 := by omega
    have w : IntKind.u64.wrap (IntKind.i64.wrap (n * 2)) = ((2 * n + 18446744073709551616).toNat : Int) := by rw [IntKind.wrap_u64, IntKind.wrap_i64]; omega
    rw [d, w, show IntKind.u64.wrap (-1) = ((2 ^ 64 - 1 : Nat) : Int) by decide, bits_xor_u64_nat _ _ (by omega) (by decide), Nat.xor_comm, Lib.xor_ones64 _ (by omega)]
    omega
theorem or128_all : (List.range 256).all (fun n => bits .or .u8 n 128 == ((n % 128 + 128 : Nat) : Int)) = true := by kernel_rfl
theorem or128 (u : Nat) : bits .or .u8 (IntKind.u8.wrap u) 128 = ((u % 128 + 128 : Nat) : Int) := by
  have h := List.all_eq_true.1 or128_all (u % 256) (List.mem_range.2 (by omega))
  have e : IntKind.u8.wrap (u : Int) = ((u % 256 : Nat) : Int) := by simp [IntKind.wrap, IntKind.bits, IntKind.signed]
  rw [e, eq_of_beq h]
  congr 2
  omega
theorem shr7 (u : Nat) : (u : Int).fdiv (2 ^ min 7 IntKind.u64.bits) = ((u / 128 : Nat) : Int) := by
  have e2 : (2 : Int) ^ min 7 IntKind.u64.bits = 128 := by decide
  rw [e2, Int.fdiv_eq_ediv_of_nonneg _ (by omega)]
  omega
theorem byte_nat (n : Nat) (h : n < 256) : byteAV (UInt8.ofNat n) = .int .u8 n := by
  simp [byteAV]; omega
theorem u8_wrap_nat (u : Nat) (h : u < 256) : IntKind.u8.wrap (u : Int) = u := by simp [IntKind.wrap, IntKind.bits, IntKind.signed]; omega
set_option maxHeartbeats 2000000 in
theorem fc_wint (H : List AObj) (q : Nat) (o : Option Nat) (out : List UInt8) (e n : Int) (hn : i64 n) (hw : WA H q out e o) (hb : out.length + (encN n).length ≤ 1000000000) : FC Tryz.prog 177 [.vptr q 0, .i n] H (WI H q o out e (encN n)) := by
  refine FC_body tOk Tryz.func177 rfl Tryz.results177 rfl (by simp [Tryz.ntmps177]) ?_
  rw [Tryz.ntmps177]
  simp only [argSlots]
  repeat first|((first|refine qa tOk rfl ?_|refine qb tOk rfl ?_|refine qc ?_|refine qd ?_|refine qe ?_);simp)|refine AWP_block ?_|refine AWP_seq ?_
  refine AWP_loop (ALoop_keep (sl' := [(0, .vptr q 0), (4, .int .u64 (zig n))]) ?_ (by simp [zig_bits n hn]))
  refine ALoop_wf (F := fun (u : Nat × Nat × List UInt8 × Option Nat × List AObj) => ⟨[(0, .vptr q 0), (4, .int .u64 u.2.1)], u.2.2.2.2⟩)
    (fun u => WA u.2.2.2.2 q u.2.2.1 e u.2.2.2.1 ∧ Fr H u.2.2.2.2 q o u.2.2.2.1 ∧ u.2.2.1 ++ varF (u.1 + 1) u.2.1 = out ++ encN n ∧ u.1 ≤ 9 ∧ u.2.1 < 2 ^ (7 * u.1 + 1)) (fun u => u.1) ?_ (9, zig n, out, o, H) ⟨hw, Fr.refl .., rfl, Nat.le_refl _, by have := zig_nat n hn; simpa using this⟩
  rintro ⟨k, u, t, p, G⟩ ⟨g1, g2, g3, g4, g5⟩ ih
  simp only at g1 g2 g3 g4 g5 ih ⊢
  have hlen : t.length + (varF (k + 1) u).length = out.length + (encN n).length := by rw [← List.length_append, ← List.length_append, g3]
  have g0 : G[q]? = some (.vars [wOut t.length p, .i e]) := g1.1
  repeat first|((first|refine qa tOk rfl ?_|refine qb tOk rfl ?_|refine qc ?_|refine qd ?_|refine qe ?_);simp)|refine AWP_block ?_|refine AWP_seq ?_
  refine AWP_cond2 rfl (fun h => ?_) (fun h => ?_)
  · have hu : 128 ≤ u := by simp at h; omega
    cases k with
    | zero => simp at g5; omega
    | succ k =>
      rw [varF, if_neg (by omega)] at g3 hlen
      have hlt : t.length ≤ 1000000000 := by omega
      have hub : (.int .u8 (bits .or .u8 (IntKind.u8.wrap (u : Int)) 128) : AV) = byteAV (UInt8.ofNat (u % 128 + 128)) := by rw [byte_nat _ (by omega), or128]
      obtain ⟨c, hc⟩ : ∃ c, UInt8.ofNat (u % 128 + 128) = c := ⟨_, rfl⟩
      rw [hc] at hub g3 hlen
      have ih2 := ih (k, u / 128, t ++ [c], _, _) ⟨(wa_put g1 (.arr 5 1 [byteAV c]) [c] _ rfl).1, g2.trans (wa_put g1 (.arr 5 1 [byteAV c]) [c] _ rfl).2, by rw [List.append_assoc]; exact g3, by omega, by
        have : 7 * (k + 1) + 1 = (7 * k + 1) + 7 := by omega
        rw [this, Nat.pow_add] at g5; show u / 128 < 2 ^ (7 * k + 1); omega⟩ (by simp only; omega)
      cases p with
      | none =>
        obtain rfl : t = [] := g1.2
        rw [wOut_none] at g0
        repeat first|((first|refine qa tOk rfl ?_|refine qb tOk rfl ?_|refine qc ?_|refine qd ?_|refine qe ?_);simp [g0])|refine AWP_block ?_|refine AWP_seq ?_
        rw [hub]
        have b0' : ∀ A B : AObj, (G ++ [A, B])[q]? = some (.vars [.nils, .i e]) := fun A B => get_app g0 _
        refine AStep_appendS tOk rfl rfl T117 rfl T5 rfl (by decide) (by decide) rfl rfl rfl ?_
        simp [b0']
        refine ⟨by simp [appOk, b0'] <;> omega, ?_⟩
        repeat first|((first|refine qa tOk rfl ?_|refine qb tOk rfl ?_|refine qc ?_|refine qd ?_|refine qe ?_);simp [b0', shr7])|refine AWP_block ?_|refine AWP_seq ?_
        simp [wX, wOut_some] at ih2
        exact ALoop_keep ih2 (by simp)
      | some p =>
        rw [wOut_some] at g0
        have g6 := g1.2.1
        repeat first|((first|refine qa tOk rfl ?_|refine qb tOk rfl ?_|refine qc ?_|refine qd ?_|refine qe ?_);simp [g0])|refine AWP_block ?_|refine AWP_seq ?_
        rw [hub]
        have b6 : ∀ A : AObj, (G ++ [A])[p]? = some (AObj.arr 5 1 (List.map byteAV t)) := fun A => get_app g6 _
        have b0 : ∀ A B : AObj, ((G ++ [A]).set p .dead ++ [B])[q]? = some (.vars [.sl p 1 0 t.length, .i e]) := fun A B => get_app (get_set g1.2.2 (get_app g0 _) _) _
        refine AStep_appendS tOk rfl rfl T117 rfl T5 rfl (by decide) (by decide) rfl rfl rfl ?_
        simp [b6, b0, hlt]
        refine ⟨by simp [appOk, b6, b0, hlt] <;> omega, ?_⟩
        repeat first|((first|refine qa tOk rfl ?_|refine qb tOk rfl ?_|refine qc ?_|refine qd ?_|refine qe ?_);simp [b6, b0, shr7])|refine AWP_block ?_|refine AWP_seq ?_
        simp [wX, wOut_some] at ih2
        exact ALoop_keep ih2 (by simp)
  · have hu : u < 128 := by simp at h; omega
    rw [varF, if_pos hu] at g3 hlen
    have hlt : t.length ≤ 1000000000 := by omega
    have hub : (.int .u8 (IntKind.u8.wrap (u : Int)) : AV) = byteAV (UInt8.ofNat u) := by rw [byte_nat _ (by omega), u8_wrap_nat _ (by omega)]
    obtain ⟨c, hc⟩ : ∃ c, UInt8.ofNat u = c := ⟨_, rfl⟩
    rw [hc] at hub g3 hlen
    have key := wa_put g1 (.arr 5 1 [byteAV c]) [c] _ rfl
    cases p with
    | none =>
      obtain rfl : t = [] := g1.2
      rw [wOut_none] at g0
      repeat first|((first|refine qa tOk rfl ?_|refine qb tOk rfl ?_|refine qc ?_|refine qd ?_|refine qe ?_);simp [g0])|refine AWP_block ?_|refine AWP_seq ?_
      rw [hub]
      have b0' : ∀ A B : AObj, (G ++ [A, B])[q]? = some (.vars [.nils, .i e]) := fun A B => get_app g0 _
      refine AStep_appendS tOk rfl rfl T117 rfl T5 rfl (by decide) (by decide) rfl rfl rfl ?_
      simp [b0']
      refine ⟨by simp [appOk, b0'] <;> omega, ?_⟩
      repeat first|((first|refine qa tOk rfl ?_|refine qb tOk rfl ?_|refine qc ?_|refine qd ?_|refine qe ?_);simp [b0'])|refine AWP_block ?_|refine AWP_seq ?_
      simp [wX, wOut_some] at key
      have g3' : [c] = out ++ encN n := by simpa using g3
      refine ⟨rfl, some (G.length + 1), ?_, g2.trans ?_, by simp⟩
      · rw [← g3']; exact key.1
      · exact key.2
    | some p =>
      rw [wOut_some] at g0
      have g6 := g1.2.1
      repeat first|((first|refine qa tOk rfl ?_|refine qb tOk rfl ?_|refine qc ?_|refine qd ?_|refine qe ?_);simp [g0])|refine AWP_block ?_|refine AWP_seq ?_
      rw [hub]
      have b6 : ∀ A : AObj, (G ++ [A])[p]? = some (AObj.arr 5 1 (List.map byteAV t)) := fun A => get_app g6 _
      have b0 : ∀ A B : AObj, ((G ++ [A]).set p .dead ++ [B])[q]? = some (.vars [.sl p 1 0 t.length, .i e]) := fun A B => get_app (get_set g1.2.2 (get_app g0 _) _) _
      refine AStep_appendS tOk rfl rfl T117 rfl T5 rfl (by decide) (by decide) rfl rfl rfl ?_
      simp [b6, b0, hlt]
      refine ⟨by simp [appOk, b6, b0, hlt] <;> omega, ?_⟩
      repeat first|((first|refine qa tOk rfl ?_|refine qb tOk rfl ?_|refine qc ?_|refine qd ?_|refine qe ?_);simp [b6, b0])|refine AWP_block ?_|refine AWP_seq ?_
      simp [wX, wOut_some] at key
      refine ⟨rfl, some (G.length + 1), ?_, g2.trans ?_, by simp⟩
      · rw [← g3]; exact key.1
      · exact key.2
end Go.Abs
set_option maxRecDepth 100000
namespace Go.Abs
open Go Go.Proofs
set_option linter.unusedSimpArgs false
theorem encN_ne (n : Int) : encN n ≠ [] := fun h => by have := encN_pos n; rw [h] at this; simp at this
theorem Fr.keep {H H' : List AObj} {q j : Nat} {o o' : Option Nat} {x : AObj} (a : Fr H H' q o o') (h : H[j]? = some x) (h1 : j ≠ q) (h2 : some j ≠ o) : H'[j]? = some x := by
  rw [a.2.2 j (List.getElem?_eq_some_iff.1 h).1 h1 h2]; exact h
theorem Fr.own {H H' : List AObj} {q j : Nat} {o o' : Option Nat} (a : Fr H H' q o o') (h1 : j < H.length) (h2 : some j ≠ o) : some j ≠ o' := by
  rcases a.2.1 with h | ⟨p, h, hp⟩
  · rw [h]; exact h2
  · rw [h]; intro e; cases e; omega
set_option maxHeartbeats 2000000 in
theorem fc_wints (l : List Int) (hl : l.length ≤ 1000000) (hi : ∀ n ∈ l, i64 n) (H : List AObj) (q : Nat) (o : Option Nat) (out : List UInt8) (e : Int) (s : Nat) (hw : WA H q out e o) (hs : H[s]? = some (.arr 3 1 (l.map encI))) (hsq : s ≠ q) (hso : some s ≠ o) (hb : out.length + (l.flatMap encN).length ≤ 1000000000) :
    FC Tryz.prog 214 [.vptr q 0, .sl s 1 0 l.length] H (WI H q o out e (l.flatMap encN)) := by
  refine FC_body tOk Tryz.func214 rfl Tryz.results214 rfl (by simp [Tryz.ntmps214]) ?_
  rw [Tryz.ntmps214]
  simp only [argSlots]
  repeat first|((first|refine qa tOk rfl ?_|refine qb tOk rfl ?_|refine qc ?_|refine qd ?_|refine qe ?_);simp)|refine AWP_block ?_|refine AWP_seq ?_
  refine AWP_loop (ALoop_keep (sl' := [(0, .vptr q 0), (6, .sl s 1 0 l.length), (7, .i l.length), (8, .i 0)]) ?_ (by simp))
  refine ALoop_wf (F := fun (u : Nat × Option Nat × List AObj) => ⟨[(0, .vptr q 0), (6, .sl s 1 0 l.length), (7, .i l.length), (8, .i u.1)], u.2.2⟩)
    (fun u => WA u.2.2 q (out ++ (l.take u.1).flatMap encN) e u.2.1 ∧ Fr H u.2.2 q o u.2.1 ∧ u.1 ≤ l.length ∧ (0 < u.1 → u.2.1 ≠ none)) (fun u => l.length - u.1) ?_ (0, o, H) ⟨by simpa using hw, Fr.refl .., Nat.zero_le _, fun h => absurd h (by simp)⟩
  rintro ⟨j, p, G⟩ ⟨g1, g2, g3, g4⟩ ih
  simp only at g1 g2 g3 g4 ih ⊢
  repeat first|((first|refine qa tOk rfl ?_|refine qb tOk rfl ?_|refine qc ?_|refine qd ?_|refine qe ?_);simp)|refine AWP_block ?_|refine AWP_seq ?_
  refine AWP_cond2 rfl (fun h => ?_) (fun h => ?_)
  · have hlt : j < l.length := by simpa using h
    have hs2 := g2.keep hs hsq hso
    have hw1 : IntKind.i64.wrap ((j : Int) + 1) = j + 1 := wrap_i64 _ (by omega) (by omega)
    have hle := flat_le encN l (j + 1)
    rw [flat_take encN l j hlt] at hle
    repeat first|((first|refine qa tOk rfl ?_|refine qb tOk rfl ?_|refine qc ?_|refine qd ?_|refine qe ?_);simp [hs2, hlt])|refine AWP_block ?_|refine AWP_seq ?_
    refine AStep_FC rfl rfl (fc_wint G q p _ e l[j] (hi _ (List.getElem_mem hlt)) g1 (by rw [List.length_append] at hle ⊢; omega)) rfl ?_
    rintro _ G2 ⟨rfl, p2, k1, k2, k3⟩
    simp
    repeat first|((first|refine qa tOk rfl ?_|refine qb tOk rfl ?_|refine qc ?_|refine qd ?_|refine qe ?_);simp [hw1])|refine AWP_block ?_|refine AWP_seq ?_
    refine ALoop_keep (ih (j + 1, p2, G2) ⟨?_, g2.trans k2, hlt, fun _ => k3 (encN_ne _)⟩ (by simp only; omega)) (by simp)
    simp only
    rw [flat_take encN l j hlt, ← List.append_assoc]; exact k1
  · have hge : j = l.length := by simp at h; omega
    subst hge
    repeat first|((first|refine qa tOk rfl ?_|refine qb tOk rfl ?_|refine qc ?_|refine qd ?_|refine qe ?_);simp)|refine AWP_block ?_|refine AWP_seq ?_
    rw [List.take_length] at g1
    refine ⟨rfl, p, g1, g2, fun hn => g4 ?_⟩
    rcases l with _ | ⟨a, l⟩
    · exact absurd rfl hn
    · simp
attribute [local irreducible] checkR
set_option maxHeartbeats 2000000 in
theorem fc_wvalue (v : Val) (hi : i64 v.kind ∧ i64 v.num) (H : List AObj) (q : Nat) (o : Option Nat) (out : List UInt8) (e : Int) (hw : WA H q out e o) (hb : out.length + (encVal v).length ≤ 1000000000) :
    FC Tryz.prog 220 [.vptr q 0, encV v] H (WP H q o out e (encVal v) (checkR v)) := by
  refine FC_body tOk Tryz.func220 rfl Tryz.results220 rfl (by simp [Tryz.ntmps220]) ?_
  rw [Tryz.ntmps220]
  simp only [argSlots]
  repeat first|((first|refine qa tOk rfl ?_|refine qb tOk rfl ?_|refine qc ?_|refine qd ?_|refine qe ?_);simp)|refine AWP_block ?_|refine AWP_seq ?_
  refine AStep_PC rfl rfl (by simp) (pc_Check v) rfl ?_
  rintro _ rfl
  simp
  repeat first|((first|refine qa tOk rfl ?_|refine qb tOk rfl ?_|refine qc ?_|refine qd ?_|refine qe ?_);simp)|refine AWP_block ?_|refine AWP_seq ?_
  refine AWP_cond2 rfl (fun h => ?_) (fun h => ?_)
  · have h' : checkR v ≠ 0 := by simpa using h
    repeat first|((first|refine qa tOk rfl ?_|refine qb tOk rfl ?_|refine qc ?_|refine qd ?_|refine qe ?_);simp)|refine AWP_block ?_|refine AWP_seq ?_
    refine AStep_FC rfl rfl (fc_wfail _ q o out e (checkR v) (hw.app _)) rfl ?_
    rintro _ _ ⟨rfl, rfl⟩
    simp
    repeat first|((first|refine qa tOk rfl ?_|refine qb tOk rfl ?_|refine qc ?_|refine qd ?_|refine qe ?_);simp)|refine AWP_block ?_|refine AWP_seq ?_
    refine WP.cut (G := [.vars [.i v.kind, .i v.num, .str v.text]]) ⟨rfl, out, o, (hw.app _).err _, Fr.set .., by omega, fun h2 => ?_⟩
    unfold orE at h2
    split at h2 <;> simp_all
  · have h' : checkR v = 0 := by simpa using h
    rw [h']
    clear h
    have hne : H.length ≠ q := by have := hw.lt; omega
    have hno : some H.length ≠ o := fun h => by have := hw.olt h.symm; omega
    repeat first|((first|refine qa tOk rfl ?_|refine qb tOk rfl ?_|refine qc ?_|refine qd ?_|refine qe ?_);simp)|refine AWP_block ?_|refine AWP_seq ?_
    have hlen : (encVal v).length = (encN v.kind).length + (if v.kind = 2 then encT v.text else encN v.num).length := by rw [encVal, List.length_append]
    refine AStep_FC rfl rfl (fc_wint _ q o out e v.kind hi.1 (hw.app _) (by omega)) rfl ?_
    rintro _ G1 ⟨rfl, o1, w1, f1, n1⟩
    have c1 := f1.keep (j := H.length) (x := .vars [.i v.kind, .i v.num, .str v.text]) (by simp) hne hno
    have hno1 := f1.own (j := H.length) (by simp) hno
    simp
    repeat first|((first|refine qa tOk rfl ?_|refine qb tOk rfl ?_|refine qc ?_|refine qd ?_|refine qe ?_);simp [c1])|refine AWP_block ?_|refine AWP_seq ?_
    refine AWP_cond2 rfl (fun h => ?_) (fun h => ?_)
    · have hk : v.kind ≠ 2 := by simpa using h
      rw [if_neg hk] at hlen
      repeat first|((first|refine qa tOk rfl ?_|refine qb tOk rfl ?_|refine qc ?_|refine qd ?_|refine qe ?_);simp [c1])|refine AWP_block ?_|refine AWP_seq ?_
      refine AStep_FC rfl rfl (fc_wint _ q o1 _ e v.num hi.2 w1 (by rw [List.length_append]; omega)) rfl ?_
      rintro _ G2 ⟨rfl, o2, w2, f2, n2⟩
      simp
      repeat first|((first|refine qa tOk rfl ?_|refine qb tOk rfl ?_|refine qc ?_|refine qd ?_|refine qe ?_);simp)|refine AWP_block ?_|refine AWP_seq ?_
      rw [encVal, if_neg hk]
      exact WP.cut (WI.wp ⟨rfl, o2, by rw [← List.append_assoc]; exact w2, f1.trans f2, fun _ => n2 (encN_ne _)⟩)
    · have hk : v.kind = 2 := by simpa using h
      rw [if_pos hk, encT, List.length_append] at hlen
      repeat first|((first|refine qa tOk rfl ?_|refine qb tOk rfl ?_|refine qc ?_|refine qd ?_|refine qe ?_);simp [c1])|refine AWP_block ?_|refine AWP_seq ?_
      refine AStep_FC rfl rfl (fc_wint _ q o1 _ e v.text.length (by constructor <;> omega) w1 (by rw [List.length_append]; omega)) rfl ?_
      rintro _ G2 ⟨rfl, o2, w2, f2, n2⟩
      have c2 := f2.keep c1 hne hno1
      simp
      cases o2 with
      | none => exact absurd rfl (n2 (encN_ne _))
      | some p =>
        generalize hout : out ++ encN v.kind ++ encN (v.text.length : Int) = out2 at *
        have hol : out2.length + v.text.length ≤ 1000000000 := by rw [← hout, List.length_append, List.length_append]; omega
        have g0 := w2.1
        rw [wX, wOut_some] at g0
        have g6 := w2.2.1
        have b0 : ∀ B : AObj, (G2.set p .dead ++ [B])[q]? = some (.vars [.sl p 1 0 out2.length, .i e]) := fun B => get_app (get_set w2.2.2 g0 _) _
        have key := wa_put0 w2 v.text
        simp [wX, wOut_some] at key
        repeat first|((first|refine qa tOk rfl ?_|refine qb tOk rfl ?_|refine qc ?_|refine qd ?_|refine qe ?_);simp)|refine AWP_block ?_|refine AWP_seq ?_
        refine AWP_drawT tOk mixed [7, 10] (.val 0 (.val 1 (.val 2 (.val 3 (.val 4 (.val 5 (.val 6 (.one 7 (.val 8 (.val 9 (.one 10 (.done)))))))))))) rfl (by kernel_rfl) ?_
        simp [g0, c2]
        refine AStep_appendStrS tOk rfl rfl T9 rfl rfl T117 rfl T5 rfl (by decide) rfl rfl rfl ?_
        simp [g6, b0]
        refine ⟨by omega, ?_⟩
        rw [encVal, if_pos hk, encT]
        refine WP.cut (WI.wp ⟨rfl, some G2.length, ?_, f1.trans (f2.trans key.2), fun _ => by simp⟩)
        have e2 : out2 ++ v.text = out ++ (encN v.kind ++ (encN v.text.length ++ v.text)) := by rw [← hout]; simp
        rw [← e2]
        exact key.1
end Go.Abs
