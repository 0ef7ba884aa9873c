/- Part Kd of the proof: an abstract machine over the model, and what the functions of the program hand back in its terms. No condition. -/
import Derived.Test.YtbhafingccfjgaaGreatDoorKc
import Derived.Lib.ItoaLen
import Derived.Lib.ItoaMem
import Derived.Test.YtbhafingccfjgaaGreatDoorKb
import Derived.Lay
import Derived.LaidSub
import Derived.Deep.DeepWitnessRowRef
import Derived.Test.YtbhafingccfjgaaGreatDoorCards
import Derived.Test.YtbhafingccfjgaaGreatDoorTie
import Derived.Lib.LaidTab
set_option linter.all false
set_option maxRecDepth 100000
namespace Go.Abs
open Go Go.Proofs
set_option linter.unusedSimpArgs false

def boolTab (p : Nat → Bool) : List AV := (List.range 256).map (fun i => .bool (p i))
def zAs : Value := match look T 80 with
  | some i => i.zero
  | none => .bool false
theorem TAsz : look T 80 = some { desc := .array 256 4, zero := zAs, size := 256, bytes := 256 } := rfl
theorem zAs_cells : zAs.cells.toList.map zeroCell = boolTab (fun _ => false) := by kernel_rfl
theorem zAs_cells' : List.map zeroCell (match zAs with | Value.agg cs => cs | v => #[v]).toList = boolTab (fun _ => false) := zAs_cells
@[simp] theorem boolTab_len (p : Nat → Bool) : (boolTab p).length = 256 := by simp [boolTab]
@[simp] theorem boolTab_take (p : Nat → Bool) : (boolTab p).take 256 = boolTab p := List.take_of_length_le (by simp)
theorem boolTab_get (p : Nat → Bool) (i : Nat) (h : i < 256) : (boolTab p)[i]? = some (.bool (p i)) := by simp [boolTab, h]
theorem boolTab_drop (p : Nat → Bool) (i : Nat) (h : i < 256) : (boolTab p).drop i = .bool (p i) :: (boolTab p).drop (i + 1) := by
  rw [List.drop_eq_getElem_cons (by simpa using h)]
  congr 1
  simp [boolTab]
theorem boolTab_set (p : Nat → Bool) (i : Nat) (h : i < 256) : (boolTab p).set i (.bool true) = boolTab (fun j => j == i || p j) := by
  refine List.ext_getElem? fun k => ?_
  by_cases hk : k < 256
  · rw [boolTab_get _ _ hk]
    by_cases hki : i = k
    · subst hki; rw [List.getElem?_set_self (by simpa using h)]; simp
    · rw [List.getElem?_set_ne hki, boolTab_get _ _ hk]; simp [show k ≠ i from fun e => hki e.symm]
  · rw [List.getElem?_eq_none (by simp; omega), List.getElem?_eq_none (by simp; omega)]
@[simp] theorem boolTab_leaf (p : Nat → Bool) : (boolTab p).all AV.leaf = true := by simp [boolTab, AV.leaf]
@[simp] theorem boolTab_leaf' (p : Nat → Bool) : (∀ x, x ∈ boolTab p → x.leaf = true) ↔ True := by have := boolTab_leaf p; rw [List.all_eq_true] at this; simp only [iff_true]; exact this
@[simp] theorem boolTab_pure (p : Nat → Bool) : (boolTab p).all AV.pure = true := by simp [boolTab, AV.pure]
@[simp] theorem boolTab_flat (p : Nat → Bool) : (boolTab p).all AV.flat = true := by simp [boolTab, AV.flat]
@[simp] theorem boolTab_under (p : Nat → Bool) (n : Nat) : (boolTab p).all (AV.under n) = true := by simp [boolTab, AV.under]
theorem setCells_app (ds xs ys zs : List AV) (h : ys.length = xs.length) : setCells (ds ++ ys ++ zs) ds.length xs = ds ++ xs ++ zs := by
  induction xs generalizing ds ys with
  | nil => simp at h; subst h; simp [setCells]
  | cons x xs ih =>
    rcases ys with _ | ⟨y, ys⟩
    · simp at h
    · rw [setCells]
      have := ih (ds ++ [x]) ys (by simpa using h)
      simp at this ⊢
      exact this
@[simp] theorem boolTab_setCells (p q : Nat → Bool) : setCells (boolTab p) 0 (boolTab q) = boolTab q := by
  have := setCells_app [] (boolTab q) (boolTab p) [] (by simp)
  simpa using this
theorem allSome_map {α β : Type} (f : α → Option β) (g : α → β) (l : List α) (h : ∀ x ∈ l, f x = some (g x)) : allSome (l.map f) = some (l.map g) := by
  induction l with
  | nil => rfl
  | cons x l ih => rw [List.map_cons, h x (by simp), allSome, ih (fun y hy => h y (by simp [hy]))]; rfl
@[simp] theorem boolTab_snap0 (H : List AObj) (p : Nat → Bool) : allSome ((boolTab p).map (snap0 H)) = some (boolTab p) := by
  rw [allSome_map (snap0 H) id _ (fun x hx => ?_)]
  · simp
  · obtain ⟨i, _, rfl⟩ := List.mem_map.1 hx; simp
@[simp] theorem boolTab_snap1 (H : List AObj) (p : Nat → Bool) : allSome ((boolTab p).map (snap1 H)) = some (boolTab p) := by
  rw [allSome_map (snap1 H) id _ (fun x hx => ?_)]
  · simp
  · obtain ⟨i, _, rfl⟩ := List.mem_map.1 hx; simp
attribute [simp] TAsz zAs_cells zAs_cells'
attribute [irreducible] zAs boolTab

set_option maxHeartbeats 400000 in
theorem pc_asc_contains (p : Nat → Bool) (c : Nat) (hc : c < 256) : PC Tryz.prog 68 [.iptr (boolTab p), .int .u8 c] (fun r => r = .bool (p c)) := by
  refine PC_body tOk Tryz.func68 rfl Tryz.results68 rfl (by simp [Tryz.ntmps68]) ?_
  rw [Tryz.ntmps68]
  simp only [argSlots]
  have hc' : (c : Int) < 256 := by omega
  repeat (first
    | (refine AWP_seq (AWP_regS tOk rfl ?_); simp [hc', boolTab_drop p c hc])
    | (refine AWP_regS tOk rfl ?_; simp [hc', boolTab_drop p c hc])
    | (refine AWP_skip ?_; simp [hc', boolTab_drop p c hc])
    | (refine AWP_exit ?_; simp [hc', boolTab_drop p c hc])
    | (refine AWP_ret ?_; simp [hc', boolTab_drop p c hc])
    | refine AWP_block ?_
    | refine AWP_seq ?_)

def setOf (cs : List UInt8) (i : Nat) : Bool := cs.any (fun c => c.toNat == i)
theorem setOf_succ (cs : List UInt8) (j : Nat) (h : j < cs.length) : setOf (cs.take (j + 1)) = fun i => (i == cs[j].toNat || setOf (cs.take j) i) := by
  funext i
  rw [setOf, List.take_succ_eq_append_getElem h, List.any_append, setOf]
  simp only [List.any_cons, List.any_nil, Bool.or_false]
  rw [Bool.or_comm]
  congr 1
  rw [Bool.beq_comm]
set_option maxHeartbeats 1000000 in
theorem pc_makeASCIISet (cs : List UInt8) (hcs : ∀ c ∈ cs, c.toNat < 128) (hlen : cs.length ≤ 1000000) : PC Tryz.prog 56 [.str cs] (fun r => r = .tup [.agg (boolTab (setOf cs)), .bool true]) := by
  refine PC_body tOk Tryz.func56 rfl Tryz.results56 rfl (by simp [Tryz.ntmps56]) ?_
  rw [Tryz.ntmps56]
  simp only [argSlots]
  repeat (first
    | (refine AWP_seq (AWP_regS tOk rfl ?_); simp [-Value.cells])
    | (refine AWP_regS tOk rfl ?_; simp [-Value.cells])
    | (refine AWP_skip ?_; simp [-Value.cells])
    | (refine AWP_exit ?_; simp [-Value.cells])
    | (refine AWP_ret ?_; simp [-Value.cells])
    | refine AWP_block ?_
    | refine AWP_seq ?_)
  refine AWP_count cs.length (fun j => [(0, .str cs), (2, .vptr 0 0), (4, .i j)]) (fun j => [.vars (boolTab (setOf (cs.take j)))]) rfl (by simp) (by simp [setOf]) (by simp) (by simp) ?_
  intro j hj ih
  repeat (first
    | (refine AWP_seq (AWP_regS tOk rfl ?_); simp)
    | (refine AWP_regS tOk rfl ?_; simp)
    | (refine AWP_skip ?_; simp)
    | (refine AWP_exit ?_; simp)
    | (refine AWP_ret ?_; simp)
    | refine AWP_block ?_
    | refine AWP_seq ?_)
  refine AWP_cond2 rfl (fun hlt => ?_) (fun hge => ?_)
  · have hlt' : j < cs.length := by simpa using hlt
    have hcj := hcs cs[j] (List.getElem_mem hlt')
    repeat (first
      | (refine AWP_seq (AWP_regS tOk rfl ?_); simp [hlt'])
      | (refine AWP_regS tOk rfl ?_; simp [hlt'])
      | (refine AWP_skip ?_; simp [hlt'])
      | (refine AWP_exit ?_; simp [hlt'])
      | (refine AWP_ret ?_; simp [hlt'])
      | refine AWP_block ?_
      | refine AWP_seq ?_)
    refine AWP_cond (b := false) ?_ ?_
    · simp; omega
    have h1 : (cs[j].toNat : Int) < 256 := by omega
    have h2 : cs[j].toNat ≤ 255 := by omega
    repeat (first
      | (refine AWP_seq (AWP_regS tOk rfl ?_); simp [hlt', h1, h2, boolTab_set (setOf (cs.take j)) cs[j].toNat (by omega)])
      | (refine AWP_regS tOk rfl ?_; simp [hlt', h1, h2, boolTab_set (setOf (cs.take j)) cs[j].toNat (by omega)])
      | (refine AWP_skip ?_; simp [hlt', h1, h2, boolTab_set (setOf (cs.take j)) cs[j].toNat (by omega)])
      | (refine AWP_exit ?_; simp [hlt', h1, h2, boolTab_set (setOf (cs.take j)) cs[j].toNat (by omega)])
      | (refine AWP_ret ?_; simp [hlt', h1, h2, boolTab_set (setOf (cs.take j)) cs[j].toNat (by omega)])
      | refine AWP_block ?_
      | refine AWP_seq ?_)
    refine ALoop_end [] (ih hlt') ?_ (by simp) ?_ (by simp) (by simp)
    · rw [setOf_succ cs j hlt']; simp
    · simp
      exact wrap_i64 _ (by omega) (by omega)
  · have hge' : j = cs.length := by simp at hge; omega
    subst hge'
    repeat (first
      | (refine AWP_seq (AWP_regS tOk rfl ?_); simp)
      | (refine AWP_regS tOk rfl ?_; simp)
      | (refine AWP_skip ?_; simp)
      | (refine AWP_exit ?_; simp)
      | (refine AWP_ret ?_; simp)
      | refine AWP_block ?_
      | refine AWP_seq ?_)

def rtrim (p : UInt8 → Bool) (s : List UInt8) : List UInt8 := (s.reverse.dropWhile p).reverse
theorem rtrim_nil (p : UInt8 → Bool) : rtrim p [] = [] := rfl
theorem rtrim_app (p : UInt8 → Bool) (s : List UInt8) (c : UInt8) : rtrim p (s ++ [c]) = if p c = true then rtrim p s else s ++ [c] := by
  simp only [rtrim, List.reverse_append, List.reverse_cons, List.reverse_nil, List.nil_append, List.cons_append, List.dropWhile_cons]
  split <;> simp
set_option maxHeartbeats 1000000 in
theorem pc_trimRightASCII (p : Nat → Bool) (s : List UInt8) (hlen : s.length ≤ 1000000) : PC Tryz.prog 58 [.str s, .iptr (boolTab p)] (fun r => r = .str (rtrim (fun c => p c.toNat) s)) := by
  refine PC_body tOk Tryz.func58 rfl Tryz.results58 rfl (by simp [Tryz.ntmps58]) ?_
  rw [Tryz.ntmps58]
  simp only [argSlots]
  repeat (first
    | (refine AWP_seq (AWP_regS tOk rfl ?_); simp)
    | (refine AWP_regS tOk rfl ?_; simp)
    | (refine AWP_skip ?_; simp)
    | (refine AWP_exit ?_; simp)
    | (refine AWP_ret ?_; simp)
    | refine AWP_block ?_
    | refine AWP_seq ?_)
  refine AWP_loop (ALoop_keep (sl' := [(0, .str s), (1, .iptr (boolTab p))]) ?_ (by simp))
  refine ALoop_wf (F := fun u => ⟨[(0, .str u), (1, .iptr (boolTab p))], []⟩) (fun u => u.length ≤ s.length ∧ rtrim (fun c => p c.toNat) u = rtrim (fun c => p c.toNat) s) (fun u => u.length) ?_ s ⟨Nat.le_refl _, rfl⟩
  rintro u ⟨hu, hr⟩ ih
  rcases List.eq_nil_or_concat u with rfl | ⟨v, c, rfl⟩
  · repeat (first
      | (refine AWP_seq (AWP_regS tOk rfl ?_); simp)
      | (refine AWP_regS tOk rfl ?_; simp)
      | (refine AWP_skip ?_; simp)
      | (refine AWP_exit ?_; simp)
      | (refine AWP_ret ?_; simp)
      | refine AWP_block ?_
      | refine AWP_seq ?_)
    refine AWP_cond rfl ?_
    repeat (first
      | (refine AWP_seq (AWP_regS tOk rfl ?_); simp)
      | (refine AWP_regS tOk rfl ?_; simp)
      | (refine AWP_skip ?_; simp)
      | (refine AWP_exit ?_; simp)
      | (refine AWP_ret ?_; simp)
      | refine AWP_block ?_
      | refine AWP_seq ?_)
    rw [← hr]; rfl
  · rw [List.concat_eq_append] at *
    simp at hu
    have hw : IntKind.i64.wrap (v.length : Int) = v.length := wrap_i64 _ (by omega) (by omega)
    rw [rtrim_app] at hr
    repeat (first
      | (refine AWP_seq (AWP_regS tOk rfl ?_); simp)
      | (refine AWP_regS tOk rfl ?_; simp)
      | (refine AWP_skip ?_; simp)
      | (refine AWP_exit ?_; simp)
      | (refine AWP_ret ?_; simp)
      | refine AWP_block ?_
      | refine AWP_seq ?_)
    refine AWP_cond (b := true) ?_ ?_
    · simp
    repeat (first
      | (refine AWP_seq (AWP_regS tOk rfl ?_); simp [hw])
      | (refine AWP_regS tOk rfl ?_; simp [hw])
      | (refine AWP_skip ?_; simp [hw])
      | (refine AWP_exit ?_; simp [hw])
      | (refine AWP_ret ?_; simp [hw])
      | refine AWP_block ?_
      | refine AWP_seq ?_)
    refine AStep_PC rfl rfl (by simp) (pc_asc_contains p c.toNat (by have := c.toNat_lt; omega)) rfl ?_
    rintro _ rfl
    simp
    refine AWP_cond2 rfl (fun h => ?_) (fun h => ?_)
    · repeat (first
        | (refine AWP_seq (AWP_regS tOk rfl ?_); simp)
        | (refine AWP_regS tOk rfl ?_; simp)
        | (refine AWP_skip ?_; simp)
        | (refine AWP_exit ?_; simp)
        | (refine AWP_ret ?_; simp)
        | refine AWP_block ?_
        | refine AWP_seq ?_)
      simp at h
      rw [h] at hr
      simpa using hr
    · have h0 : (v.length : Int) ≤ v.length + 1 := by omega
      repeat (first
        | (refine AWP_seq (AWP_regS tOk rfl ?_); simp [hw, h0])
        | (refine AWP_regS tOk rfl ?_; simp [hw, h0])
        | (refine AWP_skip ?_; simp [hw, h0])
        | (refine AWP_exit ?_; simp [hw, h0])
        | (refine AWP_ret ?_; simp [hw, h0])
        | refine AWP_block ?_
        | refine AWP_seq ?_)
      simp at h
      rw [if_pos h] at hr
      refine ALoop_end [] (ih v ⟨by omega, hr⟩ (by simp)) rfl (by simp) ?_ (by simp) (by simp)
      simp

set_option maxHeartbeats 1000000 in
theorem pc_trimLeftASCII (p : Nat → Bool) (s : List UInt8) (hlen : s.length ≤ 1000000) : PC Tryz.prog 57 [.str s, .iptr (boolTab p)] (fun r => r = .str (s.dropWhile (fun c => p c.toNat))) := by
  refine PC_body tOk Tryz.func57 rfl Tryz.results57 rfl (by simp [Tryz.ntmps57]) ?_
  rw [Tryz.ntmps57]
  simp only [argSlots]
  repeat (first
    | (refine AWP_seq (AWP_regS tOk rfl ?_); simp)
    | (refine AWP_regS tOk rfl ?_; simp)
    | (refine AWP_skip ?_; simp)
    | (refine AWP_exit ?_; simp)
    | (refine AWP_ret ?_; simp)
    | refine AWP_block ?_
    | refine AWP_seq ?_)
  refine AWP_loop (ALoop_keep (sl' := [(0, .str s), (1, .iptr (boolTab p))]) ?_ (by simp))
  refine ALoop_wf (F := fun u => ⟨[(0, .str u), (1, .iptr (boolTab p))], []⟩) (fun u => u.length ≤ s.length ∧ u.dropWhile (fun c => p c.toNat) = s.dropWhile (fun c => p c.toNat)) (fun u => u.length) ?_ s ⟨Nat.le_refl _, rfl⟩
  rintro u ⟨hu, hr⟩ ih
  rcases u with _ | ⟨c, v⟩
  · repeat (first
      | (refine AWP_seq (AWP_regS tOk rfl ?_); simp)
      | (refine AWP_regS tOk rfl ?_; simp)
      | (refine AWP_skip ?_; simp)
      | (refine AWP_exit ?_; simp)
      | (refine AWP_ret ?_; simp)
      | refine AWP_block ?_
      | refine AWP_seq ?_)
    refine AWP_cond rfl ?_
    repeat (first
      | (refine AWP_seq (AWP_regS tOk rfl ?_); simp)
      | (refine AWP_regS tOk rfl ?_; simp)
      | (refine AWP_skip ?_; simp)
      | (refine AWP_exit ?_; simp)
      | (refine AWP_ret ?_; simp)
      | refine AWP_block ?_
      | refine AWP_seq ?_)
    rw [← hr]; rfl
  · simp at hu
    rw [List.dropWhile_cons] at hr
    repeat (first
      | (refine AWP_seq (AWP_regS tOk rfl ?_); simp)
      | (refine AWP_regS tOk rfl ?_; simp)
      | (refine AWP_skip ?_; simp)
      | (refine AWP_exit ?_; simp)
      | (refine AWP_ret ?_; simp)
      | refine AWP_block ?_
      | refine AWP_seq ?_)
    refine AWP_cond (b := true) ?_ ?_
    · simp
    repeat (first
      | (refine AWP_seq (AWP_regS tOk rfl ?_); simp)
      | (refine AWP_regS tOk rfl ?_; simp)
      | (refine AWP_skip ?_; simp)
      | (refine AWP_exit ?_; simp)
      | (refine AWP_ret ?_; simp)
      | refine AWP_block ?_
      | refine AWP_seq ?_)
    refine AStep_PC rfl rfl (by simp) (pc_asc_contains p c.toNat (by have := c.toNat_lt; omega)) rfl ?_
    rintro _ rfl
    simp
    refine AWP_cond2 rfl (fun h => ?_) (fun h => ?_)
    · repeat (first
        | (refine AWP_seq (AWP_regS tOk rfl ?_); simp)
        | (refine AWP_regS tOk rfl ?_; simp)
        | (refine AWP_skip ?_; simp)
        | (refine AWP_exit ?_; simp)
        | (refine AWP_ret ?_; simp)
        | refine AWP_block ?_
        | refine AWP_seq ?_)
      simp at h
      rw [h] at hr
      simpa using hr
    · have h0 : (1 : Int) ≤ v.length + 1 := by omega
      repeat (first
        | (refine AWP_seq (AWP_regS tOk rfl ?_); simp [h0])
        | (refine AWP_regS tOk rfl ?_; simp [h0])
        | (refine AWP_skip ?_; simp [h0])
        | (refine AWP_exit ?_; simp [h0])
        | (refine AWP_ret ?_; simp [h0])
        | refine AWP_block ?_
        | refine AWP_seq ?_)
      simp at h
      rw [if_pos h] at hr
      refine ALoop_end [] (ih v ⟨by omega, hr⟩ (by simp)) rfl (by simp) ?_ (by simp) (by simp)
      simp

def trimS (cs s : List UInt8) : List UInt8 := (rtrim (fun c => setOf cs c.toNat) s).dropWhile (fun c => setOf cs c.toNat)
theorem rtrim_len (p : UInt8 → Bool) (s : List UInt8) : (rtrim p s).length ≤ s.length := by
  simp only [rtrim, List.length_reverse]
  have := (List.dropWhile_sublist p (l := s.reverse)).length_le
  simpa using this
set_option maxHeartbeats 1000000 in
theorem pc_Trim (cs s : List UInt8) (hcs : ∀ c ∈ cs, c.toNat < 128) (hlen : cs.length ≤ 1000000) (h2 : 2 ≤ cs.length) (hs : s.length ≤ 1000000) (hs0 : s ≠ []) : PC Tryz.prog 37 [.str s, .str cs] (fun r => r = .str (trimS cs s)) := by
  refine PC_body tOk Tryz.func37 rfl Tryz.results37 rfl (by simp [Tryz.ntmps37]) ?_
  rw [Tryz.ntmps37]
  simp only [argSlots]
  repeat (first
    | (refine AWP_seq (AWP_regS tOk rfl ?_); simp)
    | (refine AWP_regS tOk rfl ?_; simp)
    | (refine AWP_skip ?_; simp)
    | (refine AWP_exit ?_; simp)
    | (refine AWP_ret ?_; simp)
    | refine AWP_block ?_
    | refine AWP_seq ?_)
  rcases cs with _ | ⟨a, _ | ⟨b, r⟩⟩
  · simp at h2
  · simp at h2
  generalize hcc : a :: b :: r = cs at *
  have hc0 : cs ≠ [] := by rw [← hcc]; simp
  refine AWP_cond (b := false) (by simp [hs0, hc0]) ?_
  have hne : ((cs.length : Int) == 1) = false := by simp; omega
  have hg : cs[0]? = some a := by rw [← hcc]; rfl
  repeat (first
    | (refine AWP_seq (AWP_regS tOk rfl ?_); simp [hne, hg])
    | (refine AWP_regS tOk rfl ?_; simp [hne, hg])
    | (refine AWP_skip ?_; simp [hne, hg])
    | (refine AWP_exit ?_; simp [hne, hg])
    | (refine AWP_ret ?_; simp [hne, hg])
    | refine AWP_block ?_
    | refine AWP_seq ?_)
  refine AWP_cond rfl ?_
  repeat (first
    | (refine AWP_seq (AWP_regS tOk rfl ?_); simp [-Value.cells, -AV.leaf])
    | (refine AWP_regS tOk rfl ?_; simp [-Value.cells, -AV.leaf])
    | (refine AWP_skip ?_; simp [-Value.cells, -AV.leaf])
    | (refine AWP_exit ?_; simp [-Value.cells, -AV.leaf])
    | (refine AWP_ret ?_; simp [-Value.cells, -AV.leaf])
    | refine AWP_block ?_
    | refine AWP_seq ?_)
  refine AStep_PC rfl rfl (by simp) (pc_makeASCIISet cs hcs hlen) rfl ?_
  rintro _ rfl
  simp [-Value.cells, -AV.leaf]
  repeat (first
    | (refine AWP_seq (AWP_regS tOk rfl ?_); simp [-Value.cells, -AV.leaf])
    | (refine AWP_regS tOk rfl ?_; simp [-Value.cells, -AV.leaf])
    | (refine AWP_skip ?_; simp [-Value.cells, -AV.leaf])
    | (refine AWP_exit ?_; simp [-Value.cells, -AV.leaf])
    | (refine AWP_ret ?_; simp [-Value.cells, -AV.leaf])
    | refine AWP_block ?_
    | refine AWP_seq ?_)
  refine AWP_cond rfl ?_
  repeat (first
    | (refine AWP_seq (AWP_regS tOk rfl ?_); simp)
    | (refine AWP_regS tOk rfl ?_; simp)
    | (refine AWP_skip ?_; simp)
    | (refine AWP_exit ?_; simp)
    | (refine AWP_ret ?_; simp)
    | refine AWP_block ?_
    | refine AWP_seq ?_)
  refine AStep_PCflat rfl rfl (by first | (simp; done) | (simp; rfl)) (pc_trimRightASCII (setOf cs) s hs) rfl ?_
  rintro _ rfl
  refine ⟨by simp, ?_⟩
  simp
  refine AStep_PCflat rfl rfl (by first | (simp; done) | (simp; rfl)) (pc_trimLeftASCII (setOf cs) _ (Nat.le_trans (rtrim_len _ s) hs)) rfl ?_
  rintro _ rfl
  refine ⟨by simp, ?_⟩
  simp
  repeat (first
    | (refine AWP_seq (AWP_regS tOk rfl ?_); simp)
    | (refine AWP_regS tOk rfl ?_; simp)
    | (refine AWP_skip ?_; simp)
    | (refine AWP_exit ?_; simp)
    | (refine AWP_ret ?_; simp)
    | refine AWP_block ?_
    | refine AWP_seq ?_)
  rfl

theorem dw_nil {α : Type} (p : α → Bool) (l : List α) : l.dropWhile p = [] ↔ ∀ x ∈ l, p x = true := by
  induction l with
  | nil => simp
  | cons a l ih =>
    rw [List.dropWhile_cons]
    split
    · rename_i h; rw [ih]; simp [h]
    · rename_i h; simp [h]
theorem dw_mem {α : Type} (p : α → Bool) (l : List α) (x : α) (h : x ∈ l) : p x = true ∨ x ∈ l.dropWhile p := by
  induction l with
  | nil => cases h
  | cons a l ih =>
    rw [List.dropWhile_cons]
    split
    · rename_i ha
      rcases List.mem_cons.1 h with rfl | h
      · exact .inl ha
      · exact ih h
    · exact .inr h
theorem trimS_nil (cs s : List UInt8) : (trimS cs s == []) = s.all (fun c => setOf cs c.toNat) := by
  rw [Bool.eq_iff_iff]
  simp only [beq_iff_eq, trimS, List.all_eq_true]
  rw [dw_nil]
  constructor
  · intro h x hx
    rcases dw_mem (fun c => setOf cs c.toNat) s.reverse x (by simpa using hx) with h1 | h1
    · exact h1
    · exact h x (by simpa [rtrim] using h1)
  · intro h x hx
    refine h x ?_
    have := (List.dropWhile_sublist (fun c : UInt8 => setOf cs c.toNat) (l := s.reverse)).subset (by simpa [rtrim] using hx)
    simpa using this

end Go.Abs
set_option maxRecDepth 100000
namespace Go.Abs
open Go Go.Proofs
set_option linter.unusedSimpArgs false
def hasPre (s p : List UInt8) : Bool := p.isPrefixOf s
theorem hasPre_eq (s p : List UInt8) (h : p.length ≤ s.length) : (s.take p.length == p) = hasPre s p := by
  rw [Bool.eq_iff_iff, beq_iff_eq, hasPre, List.isPrefixOf_iff_prefix, List.prefix_iff_eq_take]
  exact eq_comm
theorem hasPre_short (s p : List UInt8) (h : s.length < p.length) : hasPre s p = false := by
  rw [Bool.eq_false_iff, hasPre]
  intro h'
  have := (List.isPrefixOf_iff_prefix.1 h').length_le
  omega
theorem pc_slHasPrefix (s p : List UInt8) : PC Tryz.prog 32 [.str s, .str p] (fun r => r = .bool (hasPre s p)) := by
  refine PC_body tOk Tryz.func32 rfl Tryz.results32 rfl (by simp [Tryz.ntmps32]) ?_
  rw [Tryz.ntmps32]
  simp only [argSlots]
  by_cases h : p.length ≤ s.length
  · have h' : (p.length : Int) ≤ s.length := by omega
    repeat (first
      | (refine AWP_seq (AWP_regS tOk rfl ?_); simp [h, h'])
      | (refine AWP_regS tOk rfl ?_; simp [h, h'])
      | (refine AWP_skip ?_; simp [h, h'])
      | (refine AWP_exit ?_; simp [h, h'])
      | (refine AWP_ret ?_; simp [h, h'])
      | refine AWP_block ?_
      | refine AWP_seq ?_)
    exact hasPre_eq s p h
  · have h' : ¬ (p.length : Int) ≤ s.length := by omega
    repeat (first
      | (refine AWP_seq (AWP_regS tOk rfl ?_); simp [h, h'])
      | (refine AWP_regS tOk rfl ?_; simp [h, h'])
      | (refine AWP_skip ?_; simp [h, h'])
      | (refine AWP_exit ?_; simp [h, h'])
      | (refine AWP_ret ?_; simp [h, h'])
      | refine AWP_block ?_
      | refine AWP_seq ?_)
    rw [hasPre_short s p (by omega)]
theorem pc_HasPrefix (s p : List UInt8) : PC Tryz.prog 12 [.str s, .str p] (fun r => r = .bool (hasPre s p)) := by
  refine PC_body tOk Tryz.func12 rfl Tryz.results12 rfl (by simp [Tryz.ntmps12]) ?_
  rw [Tryz.ntmps12]
  simp only [argSlots]
  repeat (first
    | (refine AWP_seq (AWP_regS tOk rfl ?_); simp)
    | (refine AWP_regS tOk rfl ?_; simp)
    | (refine AWP_skip ?_; simp)
    | (refine AWP_exit ?_; simp)
    | (refine AWP_ret ?_; simp)
    | refine AWP_block ?_
    | refine AWP_seq ?_)
  refine AStep_PC rfl rfl (by simp) (pc_slHasPrefix s p) rfl ?_
  rintro _ rfl
  simp
  repeat (first
    | (refine AWP_seq (AWP_regS tOk rfl ?_); simp)
    | (refine AWP_regS tOk rfl ?_; simp)
    | (refine AWP_skip ?_; simp)
    | (refine AWP_exit ?_; simp)
    | (refine AWP_ret ?_; simp)
    | refine AWP_block ?_
    | refine AWP_seq ?_)
def trimPre (s p : List UInt8) : List UInt8 := if hasPre s p = true then s.drop p.length else s
theorem pc_slTrimPrefix (s p : List UInt8) : PC Tryz.prog 53 [.str s, .str p] (fun r => r = .str (trimPre s p)) := by
  refine PC_body tOk Tryz.func53 rfl Tryz.results53 rfl (by simp [Tryz.ntmps53]) ?_
  rw [Tryz.ntmps53]
  simp only [argSlots]
  repeat (first
    | (refine AWP_seq (AWP_regS tOk rfl ?_); simp)
    | (refine AWP_regS tOk rfl ?_; simp)
    | (refine AWP_skip ?_; simp)
    | (refine AWP_exit ?_; simp)
    | (refine AWP_ret ?_; simp)
    | refine AWP_block ?_
    | refine AWP_seq ?_)
  refine AStep_PC rfl rfl (by simp) (pc_slHasPrefix s p) rfl ?_
  rintro _ rfl
  simp
  repeat (first
    | (refine AWP_seq (AWP_regS tOk rfl ?_); simp)
    | (refine AWP_regS tOk rfl ?_; simp)
    | (refine AWP_skip ?_; simp)
    | (refine AWP_exit ?_; simp)
    | (refine AWP_ret ?_; simp)
    | refine AWP_block ?_
    | refine AWP_seq ?_)
  refine AWP_cond2 rfl (fun h => ?_) (fun h => ?_)
  · have hl : p.length ≤ s.length := by
      by_cases hl : p.length ≤ s.length
      · exact hl
      · rw [hasPre_short s p (by omega)] at h; cases h
    have h' : (p.length : Int) ≤ s.length := by omega
    repeat (first
      | (refine AWP_seq (AWP_regS tOk rfl ?_); simp [hl, h'])
      | (refine AWP_regS tOk rfl ?_; simp [hl, h'])
      | (refine AWP_skip ?_; simp [hl, h'])
      | (refine AWP_exit ?_; simp [hl, h'])
      | (refine AWP_ret ?_; simp [hl, h'])
      | refine AWP_block ?_
      | refine AWP_seq ?_)
    rw [trimPre, ite_t h]
  · repeat (first
      | (refine AWP_seq (AWP_regS tOk rfl ?_); simp)
      | (refine AWP_regS tOk rfl ?_; simp)
      | (refine AWP_skip ?_; simp)
      | (refine AWP_exit ?_; simp)
      | (refine AWP_ret ?_; simp)
      | refine AWP_block ?_
      | refine AWP_seq ?_)
    rw [trimPre, ite_f h]
theorem pc_TrimPrefix (s p : List UInt8) : PC Tryz.prog 36 [.str s, .str p] (fun r => r = .str (trimPre s p)) := by
  refine PC_body tOk Tryz.func36 rfl Tryz.results36 rfl (by simp [Tryz.ntmps36]) ?_
  rw [Tryz.ntmps36]
  simp only [argSlots]
  repeat (first
    | (refine AWP_seq (AWP_regS tOk rfl ?_); simp)
    | (refine AWP_regS tOk rfl ?_; simp)
    | (refine AWP_skip ?_; simp)
    | (refine AWP_exit ?_; simp)
    | (refine AWP_ret ?_; simp)
    | refine AWP_block ?_
    | refine AWP_seq ?_)
  refine AStep_PC rfl rfl (by simp) (pc_slTrimPrefix s p) rfl ?_
  rintro _ rfl
  simp
  repeat (first
    | (refine AWP_seq (AWP_regS tOk rfl ?_); simp)
    | (refine AWP_regS tOk rfl ?_; simp)
    | (refine AWP_skip ?_; simp)
    | (refine AWP_exit ?_; simp)
    | (refine AWP_ret ?_; simp)
    | refine AWP_block ?_
    | refine AWP_seq ?_)
end Go.Abs
set_option maxRecDepth 100000
namespace Go.Abs
open Go Go.Proofs
set_option linter.unusedSimpArgs false
def isD (c : UInt8) : Bool := decide (48 ≤ c.toNat) && decide (c.toNat ≤ 57)
def dstep (n : Int) (c : UInt8) : Int := n * 10 + ((c.toNat : Int) - 48)
def dval (s : List UInt8) : Int := s.foldl dstep 0
theorem dval_snoc (s : List UInt8) (c : UInt8) : dval (s ++ [c]) = dstep (dval s) c := by simp [dval]
theorem isD_iff (c : UInt8) : isD c = true ↔ 48 ≤ c.toNat ∧ c.toNat ≤ 57 := by simp [isD]
theorem dval_take (s : List UInt8) (hd : s.all isD = true) (hl : s.length ≤ 15) (j : Nat) (hj : j ≤ s.length) : 0 ≤ dval (s.take j) ∧ dval (s.take j) < 10 ^ j := by
  induction j with
  | zero => simp [dval]
  | succ j ih =>
    have h := ih (by omega)
    have hlt : j < s.length := by omega
    rw [List.take_succ_eq_append_getElem hlt, dval_snoc, dstep]
    have hc := (isD_iff s[j]).1 (List.all_eq_true.1 hd _ (List.getElem_mem hlt))
    rw [Int.pow_succ]
    omega
theorem pow_le15 (j : Nat) (h : j ≤ 15) : (10 : Int) ^ j ≤ 1000000000000000 := by
  have : (10 : Nat) ^ j ≤ 10 ^ 15 := Nat.pow_le_pow_right (by omega) h
  have h2 : ((10 ^ j : Nat) : Int) ≤ ((10 ^ 15 : Nat) : Int) := by exact_mod_cast this
  simpa using h2
set_option maxHeartbeats 1000000 in
theorem pc_iAtoi (s : List UInt8) (h0 : s ≠ []) (hl : s.length ≤ 15) (hd : s.all isD = true) : PC Tryz.prog 61 [.str s] (fun r => r = .tup [.i (dval s), .nili]) := by
  refine PC_body tOk Tryz.func61 rfl Tryz.results61 rfl (by simp [Tryz.ntmps61]) ?_
  rw [Tryz.ntmps61]
  simp only [argSlots]
  have hp : 0 < s.length := List.length_pos_iff.2 h0
  have hp2 : (s.length : Int) < 19 := by omega
  have hc0 := (isD_iff s[0]).1 (List.all_eq_true.1 hd _ (List.getElem_mem hp))
  have hn1 : ((s[0].toNat : Int) == 45) = false := by simp; omega
  have hn2 : ((s[0].toNat : Int) == 43) = false := by simp; omega
  repeat (first
    | (refine AWP_seq (AWP_regS tOk rfl ?_); simp [h0, hp, hp2])
    | (refine AWP_regS tOk rfl ?_; simp [h0, hp, hp2])
    | (refine AWP_skip ?_; simp [h0, hp, hp2])
    | (refine AWP_exit ?_; simp [h0, hp, hp2])
    | (refine AWP_ret ?_; simp [h0, hp, hp2])
    | refine AWP_block ?_
    | refine AWP_seq ?_)
  refine AWP_cond rfl ?_
  repeat (first
    | (refine AWP_seq (AWP_regS tOk rfl ?_); simp [hp, hn1, hn2])
    | (refine AWP_regS tOk rfl ?_; simp [hp, hn1, hn2])
    | (refine AWP_skip ?_; simp [hp, hn1, hn2])
    | (refine AWP_exit ?_; simp [hp, hn1, hn2])
    | (refine AWP_ret ?_; simp [hp, hn1, hn2])
    | refine AWP_block ?_
    | refine AWP_seq ?_)
  refine AWP_cond rfl ?_
  repeat (first
    | (refine AWP_seq (AWP_regS tOk rfl ?_); simp)
    | (refine AWP_regS tOk rfl ?_; simp)
    | (refine AWP_skip ?_; simp)
    | (refine AWP_exit ?_; simp)
    | (refine AWP_ret ?_; simp)
    | refine AWP_block ?_
    | refine AWP_seq ?_)
  refine AStep_toBytes tOk rfl rfl T53 rfl T5 rfl T9 rfl (by omega) rfl ?_
  simp
  repeat (first
    | (refine AWP_seq (AWP_regS tOk rfl ?_); simp)
    | (refine AWP_regS tOk rfl ?_; simp)
    | (refine AWP_skip ?_; simp)
    | (refine AWP_exit ?_; simp)
    | (refine AWP_ret ?_; simp)
    | refine AWP_block ?_
    | refine AWP_seq ?_)
  refine AWP_count s.length (fun j => [(5, .str s), (6, .i (dval (s.take j))), (47, .list (s.map byteAV)), (48, .i s.length), (49, .i j)]) (fun _ => []) (G := []) rfl (by simp) (by simp [dval]) (by simp) (by simp) ?_
  intro j hj ih
  repeat (first
    | (refine AWP_seq (AWP_regS tOk rfl ?_); simp)
    | (refine AWP_regS tOk rfl ?_; simp)
    | (refine AWP_skip ?_; simp)
    | (refine AWP_exit ?_; simp)
    | (refine AWP_ret ?_; simp)
    | refine AWP_block ?_
    | refine AWP_seq ?_)
  refine AWP_cond2 rfl (fun hlt => ?_) (fun hge => ?_)
  · have hlt' : j < s.length := by simpa using hlt
    have hc := (isD_iff s[j]).1 (List.all_eq_true.1 hd _ (List.getElem_mem hlt'))
    have hw : IntKind.i64.wrap ((j : Int) + 1) = j + 1 := wrap_i64 _ (by omega) (by omega)
    have hu : IntKind.u8.wrap ((s[j].toNat : Int) - 48) = (s[j].toNat : Int) - 48 := by rw [IntKind.wrap_u8]; omega
    have hb := dval_take s hd hl j hj
    have hb2 := pow_le15 j (by omega)
    have e1 : IntKind.i64.wrap (dval (s.take j) * 10) = dval (s.take j) * 10 := wrap_i64 _ (by omega) (by omega)
    have e2 : IntKind.i64.wrap ((s[j].toNat : Int) - 48) = (s[j].toNat : Int) - 48 := wrap_i64 _ (by omega) (by omega)
    have e3 : IntKind.i64.wrap (dval (s.take j) * 10 + ((s[j].toNat : Int) - 48)) = dval (s.take j) * 10 + ((s[j].toNat : Int) - 48) := wrap_i64 _ (by omega) (by omega)
    have hf : dval (s.take (j + 1)) = dval (s.take j) * 10 + ((s[j].toNat : Int) - 48) := by rw [List.take_succ_eq_append_getElem hlt', dval_snoc, dstep]
    repeat (first
      | (refine AWP_seq (AWP_regS tOk rfl ?_); simp [hlt', hu])
      | (refine AWP_regS tOk rfl ?_; simp [hlt', hu])
      | (refine AWP_skip ?_; simp [hlt', hu])
      | (refine AWP_exit ?_; simp [hlt', hu])
      | (refine AWP_ret ?_; simp [hlt', hu])
      | refine AWP_block ?_
      | refine AWP_seq ?_)
    refine AWP_cond (b := false) ?_ ?_
    · simp; omega
    repeat (first
      | (refine AWP_seq (AWP_regS tOk rfl ?_); simp [e1, e2, e3, hw])
      | (refine AWP_regS tOk rfl ?_; simp [e1, e2, e3, hw])
      | (refine AWP_skip ?_; simp [e1, e2, e3, hw])
      | (refine AWP_exit ?_; simp [e1, e2, e3, hw])
      | (refine AWP_ret ?_; simp [e1, e2, e3, hw])
      | refine AWP_block ?_
      | refine AWP_seq ?_)
    refine ALoop_end [] (ih hlt') rfl (by simp) ?_ (by simp) (by simp)
    rw [hf]
    simp
  · have hge' : j = s.length := by simp at hge; omega
    subst hge'
    rw [List.take_length]
    repeat (first
      | (refine AWP_seq (AWP_regS tOk rfl ?_); simp [hp, hn1])
      | (refine AWP_regS tOk rfl ?_; simp [hp, hn1])
      | (refine AWP_skip ?_; simp [hp, hn1])
      | (refine AWP_exit ?_; simp [hp, hn1])
      | (refine AWP_ret ?_; simp [hp, hn1])
      | refine AWP_block ?_
      | refine AWP_seq ?_)
    refine AWP_cond rfl ?_
    repeat (first
      | (refine AWP_seq (AWP_regS tOk rfl ?_); simp)
      | (refine AWP_regS tOk rfl ?_; simp)
      | (refine AWP_skip ?_; simp)
      | (refine AWP_exit ?_; simp)
      | (refine AWP_ret ?_; simp)
      | refine AWP_block ?_
      | refine AWP_seq ?_)
theorem pc_Atoi (s : List UInt8) (h0 : s ≠ []) (hl : s.length ≤ 15) (hd : s.all isD = true) : PC Tryz.prog 38 [.str s] (fun r => r = .tup [.i (dval s), .nili]) := by
  refine PC_body tOk Tryz.func38 rfl Tryz.results38 rfl (by simp [Tryz.ntmps38]) ?_
  rw [Tryz.ntmps38]
  simp only [argSlots]
  repeat (first
    | (refine AWP_seq (AWP_regS tOk rfl ?_); simp)
    | (refine AWP_regS tOk rfl ?_; simp)
    | (refine AWP_skip ?_; simp)
    | (refine AWP_exit ?_; simp)
    | (refine AWP_ret ?_; simp)
    | refine AWP_block ?_
    | refine AWP_seq ?_)
  refine AStep_PC rfl rfl (by simp) (pc_iAtoi s h0 hl hd) rfl ?_
  rintro _ rfl
  simp
  repeat (first
    | (refine AWP_seq (AWP_regS tOk rfl ?_); simp)
    | (refine AWP_regS tOk rfl ?_; simp)
    | (refine AWP_skip ?_; simp)
    | (refine AWP_exit ?_; simp)
    | (refine AWP_ret ?_; simp)
    | refine AWP_block ?_
    | refine AWP_seq ?_)
  refine AStep_nilI (b := false) tOk rfl rfl rfl T64 rfl rfl ?_
  simp
  repeat (first
    | (refine AWP_seq (AWP_regS tOk rfl ?_); simp)
    | (refine AWP_regS tOk rfl ?_; simp)
    | (refine AWP_skip ?_; simp)
    | (refine AWP_exit ?_; simp)
    | (refine AWP_ret ?_; simp)
    | refine AWP_block ?_
    | refine AWP_seq ?_)
  refine AWP_cond rfl ?_
  repeat (first
    | (refine AWP_seq (AWP_regS tOk rfl ?_); simp)
    | (refine AWP_regS tOk rfl ?_; simp)
    | (refine AWP_skip ?_; simp)
    | (refine AWP_exit ?_; simp)
    | (refine AWP_ret ?_; simp)
    | refine AWP_block ?_
    | refine AWP_seq ?_)
end Go.Abs
set_option maxRecDepth 100000
namespace Go.Abs
open Go Go.Proofs
set_option linter.unusedSimpArgs false
def digs : List UInt8 := [48, 49, 50, 51, 52, 53, 54, 55, 56, 57]
theorem digs_ok : ∀ n : Fin 256, setOf digs n.val = (decide (48 ≤ n.val) && decide (n.val ≤ 57)) := by decide +kernel
theorem digs_set (c : UInt8) : setOf digs c.toNat = isD c := digs_ok ⟨c.toNat, c.toNat_lt⟩
theorem digs_lt : ∀ c ∈ digs, c.toNat < 128 := by decide +kernel
theorem trim_digs (t : List UInt8) : (trimS digs t == []) = t.all isD := by
  rw [trimS_nil]
  congr 1
  funext c
  exact digs_set c
theorem trim_digs' (t : List UInt8) : (trimS digs t).isEmpty = t.all isD := by
  rw [← trim_digs]; cases trimS digs t <;> rfl
theorem isEmpty_eq (t : List UInt8) : t.isEmpty = (t == []) := by cases t <;> rfl
def intB (t s : List UInt8) : Bool := match t with
  | [] => false
  | c :: r => (c :: r).all isD && !(((c.toNat : Int) == 48) && !(s == [48]))
def intV (t s : List UInt8) : Int := if decide (t.length < s.length) = true then W (0 - dval (t.take 15)) else dval (t.take 15)
def intR (s : List UInt8) : Int × Bool := if intB (trimPre s [45]) s = true then (intV (trimPre s [45]) s, true) else (0, false)
attribute [local irreducible] trimS dval isD trimPre
set_option maxHeartbeats 1000000 in
theorem pc_integer (s : List UInt8) (hs : s.length ≤ 1000000) : PC Tryz.prog 15 [.str s] (fun r => r = .tup [.i (intR s).1, .bool (intR s).2]) := by
  refine PC_body tOk Tryz.func15 rfl Tryz.results15 rfl (by simp [Tryz.ntmps15]) ?_
  rw [Tryz.ntmps15]
  simp only [argSlots]
  repeat (first
    | (refine AWP_seq (AWP_regS tOk rfl ?_); simp)
    | (refine AWP_regS tOk rfl ?_; simp)
    | (refine AWP_skip ?_; simp)
    | (refine AWP_exit ?_; simp)
    | (refine AWP_ret ?_; simp)
    | refine AWP_block ?_
    | refine AWP_seq ?_)
  refine AStep_PC rfl rfl (by simp) (pc_TrimPrefix s [45]) rfl ?_
  rintro _ rfl
  simp
  have htl : (trimPre s [45]).length ≤ s.length := by unfold trimPre; split <;> simp
  rw [intR]
  generalize ht : trimPre s [45] = t at *
  repeat (first
    | (refine AWP_seq (AWP_regS tOk rfl ?_); simp)
    | (refine AWP_regS tOk rfl ?_; simp)
    | (refine AWP_skip ?_; simp)
    | (refine AWP_exit ?_; simp)
    | (refine AWP_ret ?_; simp)
    | refine AWP_block ?_
    | refine AWP_seq ?_)
  rcases t with _ | ⟨c, t⟩
  · repeat (first
      | (refine AWP_seq (AWP_regS tOk rfl ?_); simp)
      | (refine AWP_regS tOk rfl ?_; simp)
      | (refine AWP_skip ?_; simp)
      | (refine AWP_exit ?_; simp)
      | (refine AWP_ret ?_; simp)
      | refine AWP_block ?_
      | refine AWP_seq ?_)
    refine AStep_skip rfl rfl ?_
    simp
    repeat (first
      | (refine AWP_seq (AWP_regS tOk rfl ?_); simp)
      | (refine AWP_regS tOk rfl ?_; simp)
      | (refine AWP_skip ?_; simp)
      | (refine AWP_exit ?_; simp)
      | (refine AWP_ret ?_; simp)
      | refine AWP_block ?_
      | refine AWP_seq ?_)
    refine AWP_cond rfl ?_
    repeat (first
      | (refine AWP_seq (AWP_regS tOk rfl ?_); simp)
      | (refine AWP_regS tOk rfl ?_; simp)
      | (refine AWP_skip ?_; simp)
      | (refine AWP_exit ?_; simp)
      | (refine AWP_ret ?_; simp)
      | refine AWP_block ?_
      | refine AWP_seq ?_)
    simp [intB]
  refine AStep_PC rfl rfl (by simp) (pc_Trim digs (c :: t) digs_lt (by decide) (by decide) (by omega) (by simp)) rfl ?_
  rintro _ rfl
  simp
  repeat (first
    | (refine AWP_seq (AWP_regS tOk rfl ?_); simp)
    | (refine AWP_regS tOk rfl ?_; simp)
    | (refine AWP_skip ?_; simp)
    | (refine AWP_exit ?_; simp)
    | (refine AWP_ret ?_; simp)
    | refine AWP_block ?_
    | refine AWP_seq ?_)
  rw [trim_digs']
  have hb : intB (c :: t) s = !(!(c :: t).all isD || (((c.toNat : Int) == 48) && !(s == [48]))) := by simp [intB]
  refine AWP_cond2 rfl (fun h1 => ?_) (fun h1 => ?_)
  · repeat (first
      | (refine AWP_seq (AWP_regS tOk rfl ?_); simp)
      | (refine AWP_regS tOk rfl ?_; simp)
      | (refine AWP_skip ?_; simp)
      | (refine AWP_exit ?_; simp)
      | (refine AWP_ret ?_; simp)
      | refine AWP_block ?_
      | refine AWP_seq ?_)
    rw [ite_f (by rw [hb, h1]; rfl)]
    exact ⟨rfl, rfl⟩
  have hbt : intB (c :: t) s = true := by rw [hb, h1]; rfl
  have hd : (c :: t).all isD = true := by
    have := Bool.or_eq_false_iff.1 h1
    simpa using this.1
  rw [ite_t hbt]
  obtain ⟨u, hu⟩ : ∃ u, (c :: t).take 15 = u := ⟨_, rfl⟩
  have hu0 : u ≠ [] := by rw [← hu]; simp
  have hul : u.length ≤ 15 := by rw [← hu]; simp; omega
  have hud : u.all isD = true := by
    rw [List.all_eq_true] at hd ⊢
    intro x hx
    rw [← hu] at hx
    exact hd x (List.mem_of_mem_take hx)
  obtain ⟨R, hR⟩ : ∃ R, intV (c :: t) s = R := ⟨_, rfl⟩
  rw [hR]
  have hlt15 : t.length + 1 ≤ s.length := by simpa using htl
  repeat (first
    | (refine AWP_seq (AWP_regS tOk rfl ?_); simp)
    | (refine AWP_regS tOk rfl ?_; simp)
    | (refine AWP_skip ?_; simp)
    | (refine AWP_exit ?_; simp)
    | (refine AWP_ret ?_; simp)
    | refine AWP_block ?_
    | refine AWP_seq ?_)
  refine AWP_cond2 rfl (fun h2 => ?_) (fun h2 => ?_)
  · have hl : (15 : Int) ≤ (t.length : Int) + 1 := by simp at h2; omega
    have he : c :: List.take 14 t = u := by rw [← hu]; rfl
    repeat (first
      | (refine AWP_seq (AWP_regS tOk rfl ?_); simp [hl, he])
      | (refine AWP_regS tOk rfl ?_; simp [hl, he])
      | (refine AWP_skip ?_; simp [hl, he])
      | (refine AWP_exit ?_; simp [hl, he])
      | (refine AWP_ret ?_; simp [hl, he])
      | refine AWP_block ?_
      | refine AWP_seq ?_)
    refine AStep_PC rfl rfl (by simp) (pc_Atoi u hu0 hul hud) rfl ?_
    rintro _ rfl
    simp
    repeat (first
      | (refine AWP_seq (AWP_regS tOk rfl ?_); simp)
      | (refine AWP_regS tOk rfl ?_; simp)
      | (refine AWP_skip ?_; simp)
      | (refine AWP_exit ?_; simp)
      | (refine AWP_ret ?_; simp)
      | refine AWP_block ?_
      | refine AWP_seq ?_)
    refine AStep_PC rfl rfl (by simp) (pc_TrimPrefix s [45]) rfl ?_
    rintro _ rfl
    simp
    rw [ht]
    repeat (first
      | (refine AWP_seq (AWP_regS tOk rfl ?_); simp)
      | (refine AWP_regS tOk rfl ?_; simp)
      | (refine AWP_skip ?_; simp)
      | (refine AWP_exit ?_; simp)
      | (refine AWP_ret ?_; simp)
      | refine AWP_block ?_
      | refine AWP_seq ?_)
    refine AWP_cond2 rfl (fun h3 => ?_) (fun h3 => ?_)
    · repeat (first
        | (refine AWP_seq (AWP_regS tOk rfl ?_); simp)
        | (refine AWP_regS tOk rfl ?_; simp)
        | (refine AWP_skip ?_; simp)
        | (refine AWP_exit ?_; simp)
        | (refine AWP_ret ?_; simp)
        | refine AWP_block ?_
        | refine AWP_seq ?_)
      rw [← hR, intV, hu, ite_t (by simpa using h3)]
      simp
    · repeat (first
        | (refine AWP_seq (AWP_regS tOk rfl ?_); simp)
        | (refine AWP_regS tOk rfl ?_; simp)
        | (refine AWP_skip ?_; simp)
        | (refine AWP_exit ?_; simp)
        | (refine AWP_ret ?_; simp)
        | refine AWP_block ?_
        | refine AWP_seq ?_)
      rw [← hR, intV, hu, ite_f (by simpa using h3)]
  · have he : c :: t = u := by rw [← hu]; symm; apply List.take_of_length_le; simp at h2; simp; omega
    repeat (first
      | (refine AWP_seq (AWP_regS tOk rfl ?_); simp)
      | (refine AWP_regS tOk rfl ?_; simp)
      | (refine AWP_skip ?_; simp)
      | (refine AWP_exit ?_; simp)
      | (refine AWP_ret ?_; simp)
      | refine AWP_block ?_
      | refine AWP_seq ?_)
    rw [he]
    refine AStep_PC rfl rfl (by simp) (pc_Atoi u hu0 hul hud) rfl ?_
    rintro _ rfl
    simp
    repeat (first
      | (refine AWP_seq (AWP_regS tOk rfl ?_); simp)
      | (refine AWP_regS tOk rfl ?_; simp)
      | (refine AWP_skip ?_; simp)
      | (refine AWP_exit ?_; simp)
      | (refine AWP_ret ?_; simp)
      | refine AWP_block ?_
      | refine AWP_seq ?_)
    refine AStep_PC rfl rfl (by simp) (pc_TrimPrefix s [45]) rfl ?_
    rintro _ rfl
    simp
    rw [ht]
    repeat (first
      | (refine AWP_seq (AWP_regS tOk rfl ?_); simp)
      | (refine AWP_regS tOk rfl ?_; simp)
      | (refine AWP_skip ?_; simp)
      | (refine AWP_exit ?_; simp)
      | (refine AWP_ret ?_; simp)
      | refine AWP_block ?_
      | refine AWP_seq ?_)
    refine AWP_cond2 rfl (fun h3 => ?_) (fun h3 => ?_)
    · repeat (first
        | (refine AWP_seq (AWP_regS tOk rfl ?_); simp)
        | (refine AWP_regS tOk rfl ?_; simp)
        | (refine AWP_skip ?_; simp)
        | (refine AWP_exit ?_; simp)
        | (refine AWP_ret ?_; simp)
        | refine AWP_block ?_
        | refine AWP_seq ?_)
      rw [← hR, intV, hu, ite_t (by simpa using h3)]
      simp
    · repeat (first
        | (refine AWP_seq (AWP_regS tOk rfl ?_); simp)
        | (refine AWP_regS tOk rfl ?_; simp)
        | (refine AWP_skip ?_; simp)
        | (refine AWP_exit ?_; simp)
        | (refine AWP_ret ?_; simp)
        | refine AWP_block ?_
        | refine AWP_seq ?_)
      rw [← hR, intV, hu, ite_f (by simpa using h3)]
end Go.Abs
set_option maxRecDepth 100000
namespace Go.Abs
open Go Go.Proofs
set_option linter.unusedSimpArgs false
def sTrue : List UInt8 := [116, 114, 117, 101]
def sFalse : List UInt8 := [102, 97, 108, 115, 101]
def unqR (s : List UInt8) : List UInt8 × Bool := unqF (s.length - 1) (s.drop 1) []
def parseR (s : List UInt8) : Val × Int :=
  if decide ((65536 : Int) < s.length) = true then (zeroV, 13)
  else if (s == sTrue || s == sFalse) = true then (boolV (s == sTrue), 0)
  else if hasPre s [34] = true then (if (!(unqR s).2) = true then (zeroV, 4) else checkedV ⟨2, 0, (unqR s).1⟩)
  else if (!(intR s).2) = true then (zeroV, 4) else checkedV ⟨0, (intR s).1, []⟩
attribute [local irreducible] unqF intR hasPre checkedV boolV
set_option maxHeartbeats 1000000 in
theorem pc_Parse (s : List UInt8) : PC Tryz.prog 5 [.str s] (fun r => r = .tup [encV (parseR s).1, .i (parseR s).2]) := by
  refine PC_body tOk Tryz.func5 rfl Tryz.results5 rfl (by simp [Tryz.ntmps5]) ?_
  rw [Tryz.ntmps5]
  simp only [argSlots]
  repeat (first
    | (refine AWP_seq (AWP_regS tOk rfl ?_); simp)
    | (refine AWP_regS tOk rfl ?_; simp)
    | (refine AWP_skip ?_; simp)
    | (refine AWP_exit ?_; simp)
    | (refine AWP_ret ?_; simp)
    | refine AWP_block ?_
    | refine AWP_seq ?_)
  refine AWP_cond2 rfl (fun h => ?_) (fun h => ?_)
  · repeat (first
      | (refine AWP_seq (AWP_regS tOk rfl ?_); simp)
      | (refine AWP_regS tOk rfl ?_; simp)
      | (refine AWP_skip ?_; simp)
      | (refine AWP_exit ?_; simp)
      | (refine AWP_ret ?_; simp)
      | refine AWP_block ?_
      | refine AWP_seq ?_)
    rw [parseR, ite_t h]
    simp [zeroV]
  have hs : s.length ≤ 65536 := by simp at h; omega
  repeat (first
    | (refine AWP_seq (AWP_regS tOk rfl ?_); simp)
    | (refine AWP_regS tOk rfl ?_; simp)
    | (refine AWP_skip ?_; simp)
    | (refine AWP_exit ?_; simp)
    | (refine AWP_ret ?_; simp)
    | refine AWP_block ?_
    | refine AWP_seq ?_)
  refine AWP_cond2 rfl (fun h1 : (s == sTrue || s == sFalse) = true => ?_) (fun h1 : (s == sTrue || s == sFalse) = false => ?_)
  · repeat (first
      | (refine AWP_seq (AWP_regS tOk rfl ?_); simp)
      | (refine AWP_regS tOk rfl ?_; simp)
      | (refine AWP_skip ?_; simp)
      | (refine AWP_exit ?_; simp)
      | (refine AWP_ret ?_; simp)
      | refine AWP_block ?_
      | refine AWP_seq ?_)
    refine AStep_PC rfl rfl (by simp) (pc_Bool (s == sTrue)) rfl ?_
    rintro _ rfl
    simp
    repeat (first
      | (refine AWP_seq (AWP_regS tOk rfl ?_); simp)
      | (refine AWP_regS tOk rfl ?_; simp)
      | (refine AWP_skip ?_; simp)
      | (refine AWP_exit ?_; simp)
      | (refine AWP_ret ?_; simp)
      | refine AWP_block ?_
      | refine AWP_seq ?_)
    rw [parseR, ite_f h, ite_t h1]
    simp
  repeat (first
    | (refine AWP_seq (AWP_regS tOk rfl ?_); simp)
    | (refine AWP_regS tOk rfl ?_; simp)
    | (refine AWP_skip ?_; simp)
    | (refine AWP_exit ?_; simp)
    | (refine AWP_ret ?_; simp)
    | refine AWP_block ?_
    | refine AWP_seq ?_)
  refine AStep_PC rfl rfl (by simp) (pc_HasPrefix s [34]) rfl ?_
  rintro _ rfl
  simp
  repeat (first
    | (refine AWP_seq (AWP_regS tOk rfl ?_); simp)
    | (refine AWP_regS tOk rfl ?_; simp)
    | (refine AWP_skip ?_; simp)
    | (refine AWP_exit ?_; simp)
    | (refine AWP_ret ?_; simp)
    | refine AWP_block ?_
    | refine AWP_seq ?_)
  refine AWP_cond2 rfl (fun h2 => ?_) (fun h2 => ?_)
  · repeat (first
      | (refine AWP_seq (AWP_regS tOk rfl ?_); simp)
      | (refine AWP_regS tOk rfl ?_; simp)
      | (refine AWP_skip ?_; simp)
      | (refine AWP_exit ?_; simp)
      | (refine AWP_ret ?_; simp)
      | refine AWP_block ?_
      | refine AWP_seq ?_)
    obtain ⟨c, u, rfl⟩ : ∃ c u, s = c :: u := by
      cases s with
      | nil => rw [hasPre_short [] [34] (by simp)] at h2; cases h2
      | cons c u => exact ⟨c, u, rfl⟩
    refine AStep_PC rfl rfl (by simp) (pc_unquoted c u (by simp at hs; omega)) rfl ?_
    rintro _ rfl
    simp
    repeat (first
      | (refine AWP_seq (AWP_regS tOk rfl ?_); simp)
      | (refine AWP_regS tOk rfl ?_; simp)
      | (refine AWP_skip ?_; simp)
      | (refine AWP_exit ?_; simp)
      | (refine AWP_ret ?_; simp)
      | refine AWP_block ?_
      | refine AWP_seq ?_)
    have hu : unqR (c :: u) = unqF u.length u [] := rfl
    refine AWP_cond2 rfl (fun h3 => ?_) (fun h3 => ?_)
    · repeat (first
        | (refine AWP_seq (AWP_regS tOk rfl ?_); simp)
        | (refine AWP_regS tOk rfl ?_; simp)
        | (refine AWP_skip ?_; simp)
        | (refine AWP_exit ?_; simp)
        | (refine AWP_ret ?_; simp)
        | refine AWP_block ?_
        | refine AWP_seq ?_)
      rw [parseR, ite_f h, ite_f h1, ite_t h2, hu, ite_t h3]
      simp [zeroV]
    · repeat (first
        | (refine AWP_seq (AWP_regS tOk rfl ?_); simp)
        | (refine AWP_regS tOk rfl ?_; simp)
        | (refine AWP_skip ?_; simp)
        | (refine AWP_exit ?_; simp)
        | (refine AWP_ret ?_; simp)
        | refine AWP_block ?_
        | refine AWP_seq ?_)
      refine AStep_PC rfl rfl (by simp) (pc_String (unqF u.length u []).1) rfl ?_
      rintro _ rfl
      simp
      repeat (first
        | (refine AWP_seq (AWP_regS tOk rfl ?_); simp)
        | (refine AWP_regS tOk rfl ?_; simp)
        | (refine AWP_skip ?_; simp)
        | (refine AWP_exit ?_; simp)
        | (refine AWP_ret ?_; simp)
        | refine AWP_block ?_
        | refine AWP_seq ?_)
      rw [parseR, ite_f h, ite_f h1, ite_t h2, hu, ite_f h3]
      simp
  · repeat (first
      | (refine AWP_seq (AWP_regS tOk rfl ?_); simp)
      | (refine AWP_regS tOk rfl ?_; simp)
      | (refine AWP_skip ?_; simp)
      | (refine AWP_exit ?_; simp)
      | (refine AWP_ret ?_; simp)
      | refine AWP_block ?_
      | refine AWP_seq ?_)
    refine AStep_PC rfl rfl (by simp) (pc_integer s (by omega)) rfl ?_
    rintro _ rfl
    simp
    repeat (first
      | (refine AWP_seq (AWP_regS tOk rfl ?_); simp)
      | (refine AWP_regS tOk rfl ?_; simp)
      | (refine AWP_skip ?_; simp)
      | (refine AWP_exit ?_; simp)
      | (refine AWP_ret ?_; simp)
      | refine AWP_block ?_
      | refine AWP_seq ?_)
    refine AWP_cond2 rfl (fun h3 => ?_) (fun h3 => ?_)
    · repeat (first
        | (refine AWP_seq (AWP_regS tOk rfl ?_); simp)
        | (refine AWP_regS tOk rfl ?_; simp)
        | (refine AWP_skip ?_; simp)
        | (refine AWP_exit ?_; simp)
        | (refine AWP_ret ?_; simp)
        | refine AWP_block ?_
        | refine AWP_seq ?_)
      rw [parseR, ite_f h, ite_f h1, ite_f h2, ite_t h3]
      simp [zeroV]
    · repeat (first
        | (refine AWP_seq (AWP_regS tOk rfl ?_); simp)
        | (refine AWP_regS tOk rfl ?_; simp)
        | (refine AWP_skip ?_; simp)
        | (refine AWP_exit ?_; simp)
        | (refine AWP_ret ?_; simp)
        | refine AWP_block ?_
        | refine AWP_seq ?_)
      refine AStep_PC rfl rfl (by simp) (pc_Int (intR s).1) rfl ?_
      rintro _ rfl
      simp
      repeat (first
        | (refine AWP_seq (AWP_regS tOk rfl ?_); simp)
        | (refine AWP_regS tOk rfl ?_; simp)
        | (refine AWP_skip ?_; simp)
        | (refine AWP_exit ?_; simp)
        | (refine AWP_ret ?_; simp)
        | refine AWP_block ?_
        | refine AWP_seq ?_)
      rw [parseR, ite_f h, ite_f h1, ite_f h2, ite_f h3]
      simp
end Go.Abs
set_option maxRecDepth 100000
namespace Go.Abs
open Go Go.Proofs
set_option linter.unusedSimpArgs false
def ixF (p : UInt8 → Bool) : List UInt8 → Nat → Int
  | [], _ => -1
  | c :: r, i => if p c = true then i else ixF p r (i + 1)
theorem ixF_any (p : UInt8 → Bool) (s : List UInt8) (i : Nat) : decide (0 ≤ ixF p s i) = s.any p := by
  induction s generalizing i with
  | nil => rfl
  | cons c r ih =>
    rw [ixF, List.any_cons]
    split
    · rename_i h; simp [h]
    · rename_i h; rw [ih, Bool.eq_false_iff.2 h, Bool.false_or]
theorem aw1 : formatR ⟨0, -12, []⟩ = ([45, 49, 50], 0) := by kernel_rfl
theorem aw2 : formatR (boolV true) = (sTrue, 0) := by kernel_rfl
theorem aw3 : formatR ⟨2, 0, [97, 34, 98, 10, 255]⟩ = ([34, 97, 92, 34, 98, 92, 110, 92, 120, 102, 102, 34], 0) := by kernel_rfl
theorem aw4 : parseR [34, 97, 92, 34, 98, 92, 110, 92, 120, 102, 102, 34] = (⟨2, 0, [97, 34, 98, 10, 255]⟩, 0) := by kernel_rfl
theorem aw5 : hashR ⟨2, 0, []⟩ = (118251589, 0) := by kernel_rfl
theorem aw6 : hashR ⟨2, 0, [97]⟩ = (1014716588, 0) := by kernel_rfl
theorem aw7 : compR (boolV false) ⟨0, 1099511627776, []⟩ = 1 := by kernel_rfl
theorem aw8 : compR (boolV false) ⟨2, 0, []⟩ = -1 := by kernel_rfl
attribute [local irreducible] formatR parseR hashR compR boolV
set_option maxHeartbeats 1000000 in
theorem pc_awake : PC Tryz.prog 4 [] (fun r => r = .bool true) := by
  refine PC_body tOk Tryz.func4 rfl Tryz.results4 rfl (by simp [Tryz.ntmps4]) ?_
  rw [Tryz.ntmps4]
  simp only [argSlots]
  repeat (first
    | (refine AWP_seq (AWP_regS tOk rfl ?_); simp)
    | (refine AWP_regS tOk rfl ?_; simp)
    | (refine AWP_skip ?_; simp)
    | (refine AWP_exit ?_; simp)
    | (refine AWP_ret ?_; simp)
    | refine AWP_block ?_
    | refine AWP_seq ?_)
  refine AStep_PC rfl rfl (by simp) (pc_Format ⟨0, -12, []⟩) rfl ?_
  rintro _ rfl
  simp [aw1]
  repeat (first
    | (refine AWP_seq (AWP_regS tOk rfl ?_); simp)
    | (refine AWP_regS tOk rfl ?_; simp)
    | (refine AWP_skip ?_; simp)
    | (refine AWP_exit ?_; simp)
    | (refine AWP_ret ?_; simp)
    | refine AWP_block ?_
    | refine AWP_seq ?_)
  refine AStep_PC rfl rfl (by simp) (pc_Bool true) rfl ?_
  rintro _ rfl
  simp
  refine AStep_PC rfl rfl (by simp) (pc_Format (boolV true)) rfl ?_
  rintro _ rfl
  simp [aw2]
  repeat (first
    | (refine AWP_seq (AWP_regS tOk rfl ?_); simp)
    | (refine AWP_regS tOk rfl ?_; simp)
    | (refine AWP_skip ?_; simp)
    | (refine AWP_exit ?_; simp)
    | (refine AWP_ret ?_; simp)
    | refine AWP_block ?_
    | refine AWP_seq ?_)
  refine AStep_PC rfl rfl (by simp) (pc_Format ⟨2, 0, [97, 34, 98, 10, 255]⟩) rfl ?_
  rintro _ rfl
  simp [aw3]
  repeat (first
    | (refine AWP_seq (AWP_regS tOk rfl ?_); simp)
    | (refine AWP_regS tOk rfl ?_; simp)
    | (refine AWP_skip ?_; simp)
    | (refine AWP_exit ?_; simp)
    | (refine AWP_ret ?_; simp)
    | refine AWP_block ?_
    | refine AWP_seq ?_)
  refine AStep_PC rfl rfl (by simp) (pc_Parse [34, 97, 92, 34, 98, 92, 110, 92, 120, 102, 102, 34]) rfl ?_
  rintro _ rfl
  simp [aw4]
  repeat (first
    | (refine AWP_seq (AWP_regS tOk rfl ?_); simp)
    | (refine AWP_regS tOk rfl ?_; simp)
    | (refine AWP_skip ?_; simp)
    | (refine AWP_exit ?_; simp)
    | (refine AWP_ret ?_; simp)
    | refine AWP_block ?_
    | refine AWP_seq ?_)
  refine AStep_PC rfl rfl (by simp) (pc_Hash ⟨2, 0, []⟩) rfl ?_
  rintro _ rfl
  simp [aw5]
  repeat (first
    | (refine AWP_seq (AWP_regS tOk rfl ?_); simp)
    | (refine AWP_regS tOk rfl ?_; simp)
    | (refine AWP_skip ?_; simp)
    | (refine AWP_exit ?_; simp)
    | (refine AWP_ret ?_; simp)
    | refine AWP_block ?_
    | refine AWP_seq ?_)
  refine AStep_PC rfl rfl (by simp) (pc_Hash ⟨2, 0, [97]⟩) rfl ?_
  rintro _ rfl
  simp [aw6]
  repeat (first
    | (refine AWP_seq (AWP_regS tOk rfl ?_); simp)
    | (refine AWP_regS tOk rfl ?_; simp)
    | (refine AWP_skip ?_; simp)
    | (refine AWP_exit ?_; simp)
    | (refine AWP_ret ?_; simp)
    | refine AWP_block ?_
    | refine AWP_seq ?_)
  refine AWP_cond rfl ?_
  repeat (first
    | (refine AWP_seq (AWP_regS tOk rfl ?_); simp)
    | (refine AWP_regS tOk rfl ?_; simp)
    | (refine AWP_skip ?_; simp)
    | (refine AWP_exit ?_; simp)
    | (refine AWP_ret ?_; simp)
    | refine AWP_block ?_
    | refine AWP_seq ?_)
  refine AStep_PC rfl rfl (by simp) (pc_Bool false) rfl ?_
  rintro _ rfl
  simp
  repeat (first
    | (refine AWP_seq (AWP_regS tOk rfl ?_); simp)
    | (refine AWP_regS tOk rfl ?_; simp)
    | (refine AWP_skip ?_; simp)
    | (refine AWP_exit ?_; simp)
    | (refine AWP_ret ?_; simp)
    | refine AWP_block ?_
    | refine AWP_seq ?_)
  refine AStep_PC rfl rfl (by simp) (pc_Compare (boolV false) ⟨0, 1099511627776, []⟩) rfl ?_
  rintro _ rfl
  simp [aw7]
  refine AStep_PC rfl rfl (by simp) (pc_Compare (boolV false) ⟨2, 0, []⟩) rfl ?_
  rintro _ rfl
  simp [aw8]
  repeat (first
    | (refine AWP_seq (AWP_regS tOk rfl ?_); simp)
    | (refine AWP_regS tOk rfl ?_; simp)
    | (refine AWP_skip ?_; simp)
    | (refine AWP_exit ?_; simp)
    | (refine AWP_ret ?_; simp)
    | refine AWP_block ?_
    | refine AWP_seq ?_)
  rfl
end Go.Abs
set_option maxRecDepth 100000
namespace Go.Abs
open Go Go.Proofs
set_option linter.unusedSimpArgs false
/-- A total order, as a comparison of -1, 0 and 1. -/
structure TO {α : Type} (f : α → α → Int) : Prop where
  neg : ∀ a b, f b a = - f a b
  rng : ∀ a b, -1 ≤ f a b ∧ f a b ≤ 1
  zero : ∀ a b, f a b = 0 ↔ a = b
  trans : ∀ a b c, f a b ≤ 0 → f b c ≤ 0 → f a c ≤ 0
def lexC {α β : Type} (f : α → α → Int) (g : β → β → Int) (p q : α × β) : Int := if (f p.1 q.1 != 0) = true then f p.1 q.1 else g p.2 q.2
theorem lexC_z {α β : Type} {f : α → α → Int} {g : β → β → Int} {p q : α × β} (h : f p.1 q.1 = 0) : lexC f g p q = g p.2 q.2 := by simp [lexC, h]
theorem lexC_n {α β : Type} {f : α → α → Int} {g : β → β → Int} {p q : α × β} (h : f p.1 q.1 ≠ 0) : lexC f g p q = f p.1 q.1 := by simp [lexC, h]
theorem TO.lex {α β : Type} {f : α → α → Int} {g : β → β → Int} (hf : TO f) (hg : TO g) : TO (lexC f g) := by
  refine ⟨fun p q => ?_, fun p q => ?_, fun p q => ?_, fun p q r h1 h2 => ?_⟩
  · have h := hf.neg p.1 q.1
    by_cases h0 : f p.1 q.1 = 0
    · rw [lexC_z h0, lexC_z (by omega)]; exact hg.neg _ _
    · rw [lexC_n h0, lexC_n (by omega)]; exact h
  · by_cases h0 : f p.1 q.1 = 0
    · rw [lexC_z h0]; exact hg.rng _ _
    · rw [lexC_n h0]; exact hf.rng _ _
  · by_cases h0 : f p.1 q.1 = 0
    · rw [lexC_z h0, hg.zero]
      constructor
      · intro h; exact Prod.ext ((hf.zero _ _).1 h0) h
      · intro h; rw [h]
    · rw [lexC_n h0]
      constructor
      · intro h; exact absurd h h0
      · intro h; rw [h] at h0; exact absurd ((hf.zero _ _).2 rfl) h0
  · have a1 : f p.1 q.1 ≤ 0 := by
      by_cases h0 : f p.1 q.1 = 0
      · omega
      · rw [lexC_n h0] at h1; exact h1
    have a2 : f q.1 r.1 ≤ 0 := by
      by_cases h0 : f q.1 r.1 = 0
      · omega
      · rw [lexC_n h0] at h2; exact h2
    have a3 := hf.trans _ _ _ a1 a2
    by_cases h0 : f p.1 r.1 = 0
    · have e := (hf.zero _ _).1 h0
      have a4 : f q.1 p.1 ≤ 0 := by rw [e]; exact a2
      have a5 := hf.neg p.1 q.1
      have a6 : f p.1 q.1 = 0 := by omega
      have a7 : f q.1 r.1 = 0 := by rw [← e]; omega
      rw [lexC_z a6] at h1
      rw [lexC_z a7] at h2
      rw [lexC_z h0]
      exact hg.trans _ _ _ h1 h2
    · rw [lexC_n h0]; exact a3
theorem TO.cmap {α β : Type} {f : β → β → Int} (hf : TO f) (k : α → β) (hk : ∀ a b, k a = k b → a = b) : TO (fun a b => f (k a) (k b)) :=
  ⟨fun _ _ => hf.neg _ _, fun _ _ => hf.rng _ _, fun a b => ⟨fun h => hk _ _ ((hf.zero _ _).1 h), fun h => (hf.zero _ _).2 (by rw [h])⟩, fun _ _ _ => hf.trans _ _ _⟩
theorem to_cmpI : TO cmpI := by
  refine ⟨fun a b => ?_, fun a b => ?_, fun a b => ?_, fun a b c => ?_⟩ <;> unfold cmpI <;> simp only [decide_eq_true_eq] <;> repeat' split
  all_goals omega
theorem to_cmpB : TO Lib.compareBytes := by
  refine ⟨fun a b => ?_, fun a b => ?_, fun a b => ?_, fun a b c => ?_⟩
  · induction a generalizing b with
    | nil => cases b <;> rfl
    | cons x a ih =>
      cases b with
      | nil => rfl
      | cons y b =>
        simp only [Lib.compareBytes]
        by_cases h1 : x < y
        · have h2 : ¬ y < x := by intro h2; rw [UInt8.lt_iff_toNat_lt] at h1 h2; omega
          rw [if_pos h1, if_neg h2, if_pos h1]; rfl
        · by_cases h2 : y < x
          · rw [if_pos h2, if_neg h1, if_pos h2]
          · rw [if_neg h1, if_neg h2, if_neg h2, if_neg h1]; exact ih b
  · induction a generalizing b with
    | nil => cases b <;> simp [Lib.compareBytes]
    | cons x a ih =>
      cases b with
      | nil => simp [Lib.compareBytes]
      | cons y b =>
        simp only [Lib.compareBytes]
        repeat' split
        · omega
        · omega
        · exact ih b
  · induction a generalizing b with
    | nil => cases b <;> simp [Lib.compareBytes]
    | cons x a ih =>
      cases b with
      | nil => simp [Lib.compareBytes]
      | cons y b =>
        simp only [Lib.compareBytes]
        by_cases h1 : x < y
        · rw [if_pos h1]
          constructor
          · intro h; omega
          · intro h; cases h; rw [UInt8.lt_iff_toNat_lt] at h1; omega
        · by_cases h2 : y < x
          · rw [if_neg h1, if_pos h2]
            constructor
            · intro h; omega
            · intro h; cases h; exact absurd h2 h1
          · rw [if_neg h1, if_neg h2, ih b]
            have e : x = y := by rw [UInt8.lt_iff_toNat_lt] at h1 h2; exact UInt8.toNat_inj.1 (by omega)
            simp [e]
  · induction a generalizing b c with
    | nil => intro _ _; cases c <;> simp [Lib.compareBytes]
    | cons x a ih =>
      rcases b with _ | ⟨y, b⟩
      · intro h; simp [Lib.compareBytes] at h
      · rcases c with _ | ⟨z, c⟩
        · intro _ h; simp [Lib.compareBytes] at h
        · simp only [Lib.compareBytes]
          intro h1 h2
          by_cases e1 : x < y
          · by_cases e2 : y < z
            · rw [if_pos (by rw [UInt8.lt_iff_toNat_lt] at *; omega)]; decide
            · rw [if_neg e2] at h2
              by_cases e3 : z < y
              · rw [if_pos e3] at h2; omega
              · have : x < z := by rw [UInt8.lt_iff_toNat_lt] at *; omega
                rw [if_pos this]; decide
          · rw [if_neg e1] at h1
            by_cases e4 : y < x
            · rw [if_pos e4] at h1; omega
            · rw [if_neg e4] at h1
              have e : x = y := by rw [UInt8.lt_iff_toNat_lt] at e1 e4; exact UInt8.toNat_inj.1 (by omega)
              subst e
              by_cases e2 : x < z
              · rw [if_pos e2]; decide
              · rw [if_neg e2] at h2 ⊢
                by_cases e3 : z < x
                · rw [if_pos e3] at h2; omega
                · rw [if_neg e3] at h2 ⊢
                  exact ih b c h1 h2
theorem compR_lex (a b : Val) : compR a b = lexC cmpI (lexC cmpI Lib.compareBytes) (a.kind, a.num, a.text) (b.kind, b.num, b.text) := rfl
theorem to_compR : TO compR := by
  have := (to_cmpI.lex (to_cmpI.lex to_cmpB)).cmap (fun v : Val => (v.kind, v.num, v.text)) (by rintro ⟨⟩ ⟨⟩ h; simpa using h)
  exact this
theorem cmpB_less (a b : List UInt8) : Lib.compareBytes a b = if Op.bytesLess a b = true then -1 else if (!Op.bytesLess a b && !a == b) = true then 1 else 0 := by
  induction a generalizing b with
  | nil => cases b <;> simp [Lib.compareBytes, Op.bytesLess]
  | cons x a ih =>
    cases b with
    | nil => simp [Lib.compareBytes, Op.bytesLess]
    | cons y b =>
      simp only [Lib.compareBytes, Op.bytesLess]
      by_cases h1 : x < y
      · simp [h1]
      · by_cases h2 : y < x
        · have hne : x ≠ y := by intro e; subst e; exact h1 h2
          simp [h1, h2, hne]
        · have e : x = y := by rw [UInt8.lt_iff_toNat_lt] at h1 h2; exact UInt8.toNat_inj.1 (by omega)
          subst e
          rw [if_neg h1, if_neg h2, ih b]
          simp
theorem rCompR_eq (a b : Val) : rCompR a b = compR a b := by
  have hk := to_cmpI.zero a.kind b.kind
  have hn := to_cmpI.zero a.num b.num
  unfold rCompR compR
  by_cases h1 : a.kind = b.kind
  · have e1 : (a.kind != b.kind) = false := by simp [h1]
    have e2 : (cmpI a.kind b.kind != 0) = false := by rw [hk.2 h1]; rfl
    rw [ite_f e1, ite_f e2]
    by_cases h2 : a.num = b.num
    · have e3 : (a.num != b.num) = false := by simp [h2]
      have e4 : (cmpI a.num b.num != 0) = false := by rw [hn.2 h2]; rfl
      rw [ite_f e3, ite_f e4, cmpB_less]
    · have e3 : (a.num != b.num) = true := by simpa using h2
      have e4 : (cmpI a.num b.num != 0) = true := by rw [bne_iff_ne]; exact fun h => h2 (hn.1 h)
      rw [ite_t e3, ite_t e4]
  · have e1 : (a.kind != b.kind) = true := by simpa using h1
    have e2 : (cmpI a.kind b.kind != 0) = true := by rw [bne_iff_ne]; exact fun h => h1 (hk.1 h)
    rw [ite_t e1, ite_t e2]
theorem rCheckR_eq (v : Val) : rCheckR v = checkR v := by
  unfold rCheckR checkR sizeR
  rcases v with ⟨k, n, t⟩
  simp only [Bool.or_eq_true, Bool.and_eq_true, decide_eq_true_eq, beq_iff_eq, bne_iff_ne, Bool.not_eq_true', ne_eq]
  by_cases h0 : k = 0
  · subst h0
    cases t with
    | nil => simp
    | cons c t => simp
  · by_cases h1 : k = 1
    · subst h1
      cases t with
      | nil => simp; repeat' split
               all_goals omega
      | cons c t => simp
    · by_cases h2 : k = 2
      · subst h2; simp
      · have : k < 0 ∨ 2 < k := by omega
        simp [h0, h1, h2, this]
theorem rIntR_eq (n : Int) : rIntR n = checkedV ⟨0, n, []⟩ := by
  unfold rIntR checkedV checkR sizeR
  simp only [Bool.or_eq_true, Bool.and_eq_true, decide_eq_true_eq, beq_iff_eq, bne_iff_ne, Bool.not_eq_true', ne_eq]
  by_cases h : n < -1099511627776 ∨ 1099511627776 < n
  · simp [h]
  · simp [h]
theorem rStringR_eq (s : List UInt8) : rStringR s = checkedV ⟨2, 0, s⟩ := by
  unfold rStringR checkedV checkR sizeR
  by_cases h : (64 : Int) < s.length
  · simp [h]
  · simp [h]
end Go.Abs
set_option maxRecDepth 100000
namespace Go.Abs
open Go Go.Proofs
set_option linter.unusedSimpArgs false
theorem xor_nat (k : IntKind) (j : Nat) (hj : j ≤ k.bits) (hk : ∀ n : Int, 0 ≤ n → n < 2 ^ j → k.wrap n = n) (a b : Nat) (ha : a < 2 ^ j) (hb : b < 2 ^ j) : bits .xor k a b = ((a ^^^ b : Nat) : Int) := by
  have hp : 2 ^ j ≤ 2 ^ k.bits := Nat.pow_le_pow_right (by decide) hj
  have ha' : a % 2 ^ k.bits = a := Nat.mod_eq_of_lt (Nat.lt_of_lt_of_le ha hp)
  have hb' : b % 2 ^ k.bits = b := Nat.mod_eq_of_lt (Nat.lt_of_lt_of_le hb hp)
  simp only [bits, BitVec.ofInt_natCast, BitVec.toNat_xor, BitVec.toNat_ofNat, ha', hb']
  have h : (a ^^^ b) < 2 ^ j := Nat.xor_lt_two_pow ha hb
  exact hk _ (Int.natCast_nonneg _) (by exact_mod_cast h)
theorem wrap_u32i (n : Int) : IntKind.u32.wrap n = n % 4294967296 := by simp [IntKind.wrap, IntKind.signed, IntKind.bits]
theorem step_eq (h z : Int) (h0 : 0 ≤ h) (h1 : h < 4294967296) (z0 : 0 ≤ z) (z1 : z < 256) : rmix h z = hstep h z ∧ 0 ≤ hstep h z ∧ hstep h z < 4294967296 := by
  obtain ⟨a, rfl⟩ := Int.eq_ofNat_of_zero_le h0
  obtain ⟨b, rfl⟩ := Int.eq_ofNat_of_zero_le z0
  have ha : a < 2 ^ 32 := by omega
  have hb : b < 2 ^ 32 := by omega
  have e1 : IntKind.u32.wrap (b : Int) = b := by rw [wrap_u32i]; omega
  have e2 : W (b : Int) = b := wrap_i64 _ (by omega) (by omega)
  have e3 : bits .xor .u32 a b = ((a ^^^ b : Nat) : Int) := xor_nat .u32 32 (by decide) (fun n n0 n1 => by rw [wrap_u32i]; omega) a b ha hb
  have e4 : bits .xor .i64 a b = ((a ^^^ b : Nat) : Int) := xor_nat .i64 32 (by decide) (fun n n0 n1 => wrap_i64 _ (by omega) (by omega)) a b ha hb
  have hx : (a ^^^ b) < 2 ^ 32 := Nat.xor_lt_two_pow ha hb
  unfold rmix hstep
  rw [e1, e2, e3, e4, wrap_u32i]
  generalize (a ^^^ b) = x at hx
  have e5 : W ((x : Int) * 16777619) = x * 16777619 := wrap_i64 _ (by omega) (by omega)
  rw [e5, Int.tmod_eq_emod_of_nonneg (by omega)]
  omega
theorem fold_eq (zs : List Int) (hz : ∀ z ∈ zs, 0 ≤ z ∧ z < 256) (h : Int) (h0 : 0 ≤ h) (h1 : h < 4294967296) : zs.foldl rmix h = zs.foldl hstep h ∧ 0 ≤ zs.foldl hstep h ∧ zs.foldl hstep h < 4294967296 := by
  induction zs generalizing h with
  | nil => exact ⟨rfl, h0, h1⟩
  | cons z zs ih =>
    obtain ⟨e, p0, p1⟩ := step_eq h z h0 h1 (hz z (by simp)).1 (hz z (by simp)).2
    rw [List.foldl_cons, List.foldl_cons, e]
    exact ih (fun y hy => hz y (by simp [hy])) _ p0 p1
theorem u8_rng (n : Int) : 0 ≤ IntKind.u8.wrap n ∧ IntKind.u8.wrap n < 256 := by rw [IntKind.wrap_u8]; omega
theorem hashB_rng (v : Val) : ∀ z ∈ hashB v, 0 ≤ z ∧ z < 256 := by
  intro z hz
  unfold hashB at hz
  rcases List.mem_cons.1 hz with rfl | hz
  · exact u8_rng _
  · split at hz
    · obtain ⟨c, _, rfl⟩ := List.mem_map.1 hz
      have := c.toNat_lt
      omega
    · obtain ⟨j, _, rfl⟩ := List.mem_map.1 hz
      exact u8_rng _
theorem rnumB_eq (n : Int) : rnumB n 8 = numB n 8 := by
  unfold rnumB numB
  refine List.map_congr_left fun j hj => ?_
  unfold rsh shB
  rw [show (8 * (7 - (j : Int))) = 56 - 8 * (j : Int) by omega]
theorem rHashR_eq (v : Val) : rHashR v = hashR v := by
  unfold rHashR hashR
  rw [rCheckR_eq]
  split
  · rfl
  obtain ⟨e, p0, p1⟩ := fold_eq (hashB v) (hashB_rng v) 2166136261 (by decide) (by decide)
  have e2 : W ((hashB v).foldl hstep 2166136261) = (hashB v).foldl hstep 2166136261 := wrap_i64 _ (by omega) (by omega)
  rw [e2, ← e]
  unfold hashB
  rw [List.foldl_cons]
  split
  · rfl
  · rw [rnumB_eq]
theorem hashR_rng (v : Val) : 0 ≤ (hashR v).1 ∧ (hashR v).1 < 4294967296 := by
  unfold hashR
  split
  · exact ⟨Int.le_refl 0, by show (0 : Int) < 4294967296; decide⟩
  · obtain ⟨e, p0, p1⟩ := fold_eq (hashB v) (hashB_rng v) 2166136261 (by decide) (by decide)
    have e2 : W ((hashB v).foldl hstep 2166136261) = (hashB v).foldl hstep 2166136261 := wrap_i64 _ (by omega) (by omega)
    simp only [e2]
    exact ⟨p0, p1⟩
theorem rCheckAll_eq (l : List Val) : checkAllR rCheckR l = checkAllR checkR l := by
  rw [show rCheckR = checkR from funext rCheckR_eq]
end Go.Abs
set_option maxRecDepth 100000
namespace Go.Abs
open Go Go.Proofs
set_option linter.unusedSimpArgs false
/-! Strings: what is quoted reads as it was. -/
theorem hexD_ix : ∀ a : Fin 16, ∀ b : Fin 16, hexV (hexD a.val) (hexD b.val) = UInt8.ofNat (16 * a.val + b.val) ∧ 0 ≤ hexI (hexD a.val) ∧ 0 ≤ hexI (hexD b.val) := by decide +kernel
theorem u8_all (p : UInt8 → Bool) (h : (List.range 256).all (fun n => p (UInt8.ofNat n)) = true) (c : UInt8) : p c = true := by
  have := List.all_eq_true.1 h c.toNat (List.mem_range.2 c.toNat_lt)
  simpa using this
theorem escX_hex (c : UInt8) (r : List UInt8) : escX (hexD (c.toNat / 16) :: hexD (c.toNat % 16) :: r) = some (c, r) := by
  have hc := c.toNat_lt
  obtain ⟨h1, h2, h3⟩ := hexD_ix ⟨c.toNat / 16, by omega⟩ ⟨c.toNat % 16, by omega⟩
  simp only at h1 h2 h3
  rw [escX, if_neg (by simp; omega), h1]
  congr 2
  apply UInt8.toNat_inj.1
  simp
  omega
def stepsTo (e : UInt8 → List UInt8) : Prop := ∀ (c : UInt8) (n : Nat) (r out : List UInt8), unqF (n + 1) (e c ++ r) out = unqF n r (out ++ [c])
theorem unq_steps {e : UInt8 → List UInt8} (he : stepsTo e) : ∀ (t : List UInt8) (n : Nat) (rest out : List UInt8), t.length < n → unqF n (t.flatMap e ++ 34 :: rest) out = (out ++ t, ((34 : UInt8) :: rest) == [34])
  | [], n, rest, out, h => by
    obtain ⟨n, rfl⟩ : ∃ k, n = k + 1 := ⟨n - 1, by simp at h; omega⟩
    simp [unqF]
  | c :: t, n, rest, out, h => by
    obtain ⟨n, rfl⟩ : ∃ k, n = k + 1 := ⟨n - 1, by simp at h; omega⟩
    rw [List.flatMap_cons, List.append_assoc, he c n _ out, unq_steps he t n rest (out ++ [c]) (by simp at h; omega)]
    simp
theorem steps_hexq : stepsTo hexq := fun c n r out => by
  unfold hexq
  have e : escR (120 :: hexD (c.toNat / 16) :: hexD (c.toNat % 16) :: r) = some (c, r) := by
    rw [escR, ite_f (by rfl), ite_f (by rfl), ite_t (by rfl)]; exact escX_hex c r
  show unqF (n + 1) (92 :: 120 :: hexD (c.toNat / 16) :: hexD (c.toNat % 16) :: r) out = _
  rw [unqF, ite_f (by rfl), ite_t (by rfl), e]
theorem steps_escB : stepsTo escB := fun c n r out => by
  rw [escB]
  split
  · rename_i h
    have e : escR (c :: r) = some (c, r) := by rw [escR, ite_t h]
    show unqF (n + 1) (92 :: c :: r) out = _
    rw [unqF, ite_f (by rfl), ite_t (by rfl), e]
  · rename_i h
    split
    · rename_i h2
      have hc : c = 10 := by apply UInt8.toNat_inj.1; simp at h2; show c.toNat = 10; omega
      have e : escR (110 :: r) = some (10, r) := by rw [escR, ite_f (by rfl), ite_t (by rfl)]
      show unqF (n + 1) (92 :: 110 :: r) out = _
      rw [unqF, ite_f (by rfl), ite_t (by rfl), e, hc]
    · split
      · exact steps_hexq c n r out
      · rename_i h3
        simp only [Bool.or_eq_true, not_or, Bool.not_eq_true] at h
        show unqF (n + 1) (c :: r) out = _
        rw [unqF, ite_f h.1, ite_f h.2, ite_t]
        simp at h3
        simp [printB]
        omega
theorem unqR_of {e : UInt8 → List UInt8} (he : stepsTo e) (hl : ∀ c, 1 ≤ (e c).length) (t rest : List UInt8) : unqR (34 :: (t.flatMap e ++ 34 :: rest)) = (t, ((34 : UInt8) :: rest) == [34]) := by
  have hlen : t.length ≤ (t.flatMap e).length := by
    induction t with
    | nil => simp
    | cons c t ih => have := hl c; simp only [List.flatMap_cons, List.length_append, List.length_cons]; omega
  unfold unqR
  rw [List.drop_one, List.tail_cons, unq_steps he t _ rest [] (by simp only [List.length_append, List.length_cons]; omega)]
  simp
theorem hasPre34 (r : List UInt8) : hasPre (34 :: r) [34] = true := by simp [hasPre, List.isPrefixOf]
theorem parse_str (r t : List UInt8) (b : Bool) (hl : r.length < 65536) (h : unqR (34 :: r) = (t, b)) : parseR (34 :: r) = if b = true then checkedV ⟨2, 0, t⟩ else (zeroV, 4) := by
  rw [parseR, ite_f (by simp; omega), ite_f (by simp [sTrue, sFalse]), ite_t (hasPre34 r), h]
  cases b <;> rfl
theorem checkedV_ok {v : Val} (h : checkR v = 0) : checkedV v = (v, 0) := by rw [checkedV, ite_f (by rw [h]; rfl)]
theorem parse_quote (t : List UInt8) (hl : t.length ≤ 64) : parseR (quoteR t) = (⟨2, 0, t⟩, 0) := by
  have h1 : quoteR t = 34 :: (t.flatMap escB ++ 34 :: []) := rfl
  have h2 := quoteTo_len t
  unfold quoteTo at h2
  rw [List.length_cons] at h2
  have hl1 : ∀ c, 1 ≤ (escB c).length := by
    intro c; unfold escB hexq; repeat' split
    all_goals exact Nat.le_of_ble_eq_true rfl
  rw [h1, parse_str _ t true (by simp only [List.length_append, List.length_cons, List.length_nil]; omega) (by rw [unqR_of steps_escB hl1]; rfl), if_pos rfl, checkedV_ok]
  unfold checkR sizeR
  have : ¬ (64 : Int) < t.length := by omega
  simp [this]
def hexText (s : List UInt8) : List UInt8 := 34 :: (s.flatMap hexq ++ 34 :: [])
theorem hexq_len (s : List UInt8) : (s.flatMap hexq).length = 4 * s.length := by
  induction s with
  | nil => rfl
  | cons c s ih => rw [List.flatMap_cons, List.length_append, ih]; simp [hexq]; omega
theorem parse_hexText (t : List UInt8) (hl : t.length ≤ 64) : parseR (hexText t) = (⟨2, 0, t⟩, 0) := by
  have h2 := hexq_len t
  rw [hexText, parse_str _ t true (by simp only [List.length_append, List.length_cons, List.length_nil]; omega) (by rw [unqR_of steps_hexq (fun c => by simp [hexq])]; rfl), if_pos rfl, checkedV_ok]
  unfold checkR sizeR
  have : ¬ (64 : Int) < t.length := by omega
  simp [this]
theorem parse_hexText2 (t : List UInt8) (hl : t.length ≤ 64) : parseR (hexText t ++ hexText t) = (zeroV, 4) := by
  have h2 := hexq_len t
  have h1 : hexText t ++ hexText t = 34 :: (t.flatMap hexq ++ 34 :: hexText t) := by simp [hexText]
  rw [h1, parse_str _ t false (by simp only [hexText, List.length_append, List.length_cons, List.length_nil]; omega) (by rw [unqR_of steps_hexq (fun c => by simp [hexq])]; simp [hexText])]
  rfl
end Go.Abs
set_option maxRecDepth 100000
namespace Go.Abs
open Go Go.Proofs
set_option linter.unusedSimpArgs false
/-! Integers: their decimal text reads as they were. -/
theorem dg_toNat (d : Nat) (h : d < 10) : (UInt8.ofNat (48 + d)).toNat = 48 + d := by simp; omega
theorem isD_dg (d : Nat) (h : d < 10) : isD (UInt8.ofNat (48 + d)) = true := by rw [isD_iff, dg_toNat d h]; omega
theorem decDigits_all : ∀ (u : Nat), (Lib.decDigits u).all isD = true := fun u => by
  induction u using Nat.strongRecOn with
  | ind u ih =>
    rw [Lib.decDigits]
    split
    · rename_i h; rw [List.all_cons, isD_dg u h]; rfl
    · rename_i h; rw [List.all_append, ih (u / 10) (by omega), List.all_cons, isD_dg (u % 10) (by omega)]; rfl
theorem dval_decDigits : ∀ (u : Nat), dval (Lib.decDigits u) = u := fun u => by
  induction u using Nat.strongRecOn with
  | ind u ih =>
    rw [Lib.decDigits]
    split
    · rename_i h
      rw [dval, List.foldl_cons, List.foldl_nil, dstep, dg_toNat u h]; omega
    · rename_i h
      rw [dval_snoc, ih (u / 10) (by omega), dstep, dg_toNat (u % 10) (by omega)]; omega
theorem decDigits_head : ∀ (u : Nat), 0 < u → ∃ c r, Lib.decDigits u = c :: r ∧ c.toNat ≠ 48 := fun u => by
  induction u using Nat.strongRecOn with
  | ind u ih =>
    intro hu
    rw [Lib.decDigits]
    split
    · rename_i h; exact ⟨_, [], rfl, by rw [dg_toNat u h]; omega⟩
    · rename_i h
      obtain ⟨c, r, e, hc⟩ := ih (u / 10) (by omega) (by omega)
      exact ⟨c, r ++ [UInt8.ofNat (48 + u % 10)], by rw [e]; rfl, hc⟩
theorem decDigits_len (u : Nat) (h : u ≤ 1099511627776) : (Lib.decDigits u).length ≤ 13 := by
  rw [Lib.decDigits_length]
  rcases Nat.lt_or_ge 13 (Lib.nDigits u) with h1 | h1
  · exfalso
    have := Lib.decDigits_length u
    have key : ∀ k u, u < 10 ^ (k + 1) → Lib.nDigits u ≤ k + 1 := fun k => by
      induction k with
      | zero => intro u hu; rw [Lib.nDigits_small (by simpa using hu)]; exact Nat.le_refl _
      | succ k ih =>
        intro u hu
        by_cases h10 : u < 10
        · rw [Lib.nDigits_small h10]; omega
        · rw [Lib.nDigits_big h10]
          have := ih (u / 10) (by rw [Nat.pow_succ] at hu; omega)
          omega
    have := key 12 u (by omega)
    omega
  · exact h1
theorem isD_ne {c : UInt8} (h : isD c = true) : c ≠ 45 ∧ c ≠ 34 ∧ c ≠ 116 ∧ c ≠ 102 := by
  have := (isD_iff c).1 h
  refine ⟨?_, ?_, ?_, ?_⟩ <;> (intro e; subst e; revert this; decide)
theorem trimPre_digs (c : UInt8) (r : List UInt8) (h : isD c = true) : trimPre (c :: r) [45] = c :: r := by
  have := (isD_ne h).1
  unfold trimPre hasPre
  rw [if_neg]
  simp [List.isPrefixOf, this.symm]
theorem trimPre_minus (r : List UInt8) : trimPre (45 :: r) [45] = r := by simp [trimPre, hasPre, List.isPrefixOf]
theorem intR_dig (u : Nat) (h : u ≤ 1099511627776) : intR (Lib.decDigits u) = ((u : Int), true) := by
  have hd := decDigits_all u
  have hl := decDigits_len u h
  have hv := dval_decDigits u
  obtain ⟨c, r, e⟩ : ∃ c r, Lib.decDigits u = c :: r := by
    rcases Nat.eq_zero_or_pos u with h0 | h0
    · subst h0; exact ⟨48, [], by rw [Lib.decDigits]; rfl⟩
    · obtain ⟨c, r, e, _⟩ := decDigits_head u h0; exact ⟨c, r, e⟩
  have hz : c.toNat = 48 → Lib.decDigits u = [48] := by
    intro hc
    rcases Nat.eq_zero_or_pos u with h0 | h0
    · subst h0; rw [Lib.decDigits]; rfl
    · obtain ⟨c', r', e', hc'⟩ := decDigits_head u h0
      rw [e] at e'; cases e'; exact absurd hc hc'
  rw [e] at hd hl hv hz ⊢
  have hc : isD c = true := by simp at hd; exact hd.1
  have hb : intB (c :: r) (c :: r) = true := by
    rw [intB, hd]
    by_cases h48 : c.toNat = 48
    · rw [hz h48]; simp
    · have : ((c.toNat : Int) == 48) = false := by simp; omega
      rw [this]; rfl
  rw [intR, trimPre_digs c r hc, ite_t hb, intV, ite_f (by simp), List.take_of_length_le (by omega), hv]
theorem intR_neg (u : Nat) (h0 : 0 < u) (h : u ≤ 1099511627776) : intR (45 :: Lib.decDigits u) = (-(u : Int), true) := by
  have hd := decDigits_all u
  have hl := decDigits_len u h
  have hv := dval_decDigits u
  obtain ⟨c, r, e, hc⟩ := decDigits_head u h0
  rw [e] at hd hl hv ⊢
  have hb : intB (c :: r) (45 :: c :: r) = true := by
    have : ((c.toNat : Int) == 48) = false := by simp; omega
    rw [intB, hd, this]; rfl
  rw [intR, trimPre_minus, ite_t hb, intV, ite_t (by simp), List.take_of_length_le (by omega), hv]
  rw [show W (0 - (u : Int)) = 0 - (u : Int) from wrap_i64 _ (by omega) (by omega)]
  simp
theorem itoa_cases (n : Int) : (∃ u : Nat, n = u ∧ Lib.itoa n = Lib.decDigits u) ∨ (∃ u : Nat, 0 < u ∧ n = -(u : Int) ∧ Lib.itoa n = 45 :: Lib.decDigits u) := by
  unfold Lib.itoa
  by_cases h : n < 0
  · right; refine ⟨n.natAbs, by omega, by omega, by rw [if_pos h]⟩
  · left; refine ⟨n.toNat, by omega, by rw [if_neg h]⟩
theorem parse_itoa (n : Int) (h1 : -1099511627776 ≤ n) (h2 : n ≤ 1099511627776) : parseR (Lib.itoa n) = (⟨0, n, []⟩, 0) := by
  have hck : checkedV ⟨0, n, []⟩ = (⟨0, n, []⟩, 0) := checkedV_ok (by
    unfold checkR sizeR
    have e1 : ¬ n < -1099511627776 := by omega
    have e2 : ¬ 1099511627776 < n := by omega
    simp [e1, e2])
  have key : ∀ s, intR s = (n, true) → s.length ≤ 14 → (∀ c r, s = c :: r → c = 45 ∨ isD c = true) → s ≠ [] → parseR s = (⟨0, n, []⟩, 0) := fun s hi hl hc hne => by
    rcases s with _ | ⟨c, r⟩
    · exact absurd rfl hne
    have hcc : c ≠ 34 ∧ c ≠ 116 ∧ c ≠ 102 := by
      rcases hc c r rfl with rfl | h
      · decide
      · exact (isD_ne h).2
    rw [parseR, ite_f (by simp only [decide_eq_false_iff_not]; omega), ite_f (by simp [sTrue, sFalse, hcc.2.1, hcc.2.2]), ite_f (by simp [hasPre, List.isPrefixOf, hcc.1.symm]), hi]
    exact hck
  rcases itoa_cases n with ⟨u, rfl, e⟩ | ⟨u, h0, rfl, e⟩
  · rw [e]
    have hd := decDigits_all u
    refine key _ (intR_dig u (by omega)) (by have := decDigits_len u (by omega); omega) (fun c r hs => ?_) (fun hs => ?_)
    · rw [hs] at hd; simp at hd; exact .inr hd.1
    · have := Lib.decDigits_length u; rw [hs] at this; have := Lib.nDigits_pos u; simp only [List.length_nil] at *; omega
  · rw [e]
    refine key _ (intR_neg u h0 (by omega)) (by have := decDigits_len u (by omega); simp; omega) (fun c r hs => ?_) (by simp)
    cases hs; exact .inl rfl
theorem parse_bool (b : Bool) : parseR (boolS b) = (boolV b, 0) := by cases b <;> kernel_rfl
/-- The text of a well-formed value reads as the value. -/
theorem parse_format (v : Val) (h : (formatR v).2 = 0) : checkR v = 0 ∧ parseR (formatR v).1 = (v, 0) := by
  have hc : checkR v = 0 := by
    unfold formatR at h
    by_cases hc : checkR v = 0
    · exact hc
    · rw [ite_t (by simpa using hc)] at h; exact h
  refine ⟨hc, ?_⟩
  rw [formatR, ite_f (by rw [hc]; rfl), fmtText]
  rcases checkR_zero hc with ⟨hk, ht, h1, h2⟩ | ⟨hk, ht, hn⟩ | ⟨hk, hn, hl⟩
  · rw [ite_t (by rw [hk]; rfl), parse_itoa _ h1 h2]
    rcases v with ⟨k, n, t⟩; simp at hk ht; subst hk; subst ht; rfl
  · rw [ite_f (by rw [hk]; rfl), ite_t (by rw [hk]; rfl), parse_bool]
    rcases v with ⟨k, n, t⟩; simp at hk ht hn; subst hk; subst ht
    rcases hn with rfl | rfl <;> rfl
  · rw [ite_f (by rw [hk]; rfl), ite_f (by rw [hk]; rfl), parse_quote _ hl]
    rcases v with ⟨k, n, t⟩; simp at hk hn; subst hk; subst hn; rfl
/-! All bytes of a text can be printed. -/
def npB (c : UInt8) : Bool := decide ((c.toNat : Int) < 32) || decide ((126 : Int) < c.toNat)
theorem np_isD {c : UInt8} (h : isD c = true) : npB c = false := by have := (isD_iff c).1 h; simp [npB]; omega
theorem np_hexD : ∀ a : Fin 16, npB (hexD a.val) = false := by decide +kernel
theorem np_escB (c : UInt8) : (escB c).any npB = false := by
  have hc := c.toNat_lt
  unfold escB
  split
  · rename_i h
    have : npB c = false := by simp at h; simp [npB]; omega
    simp only [List.any_cons, List.any_nil, this]; decide
  · split
    · decide
    · split
      · have h1 := np_hexD ⟨c.toNat / 16, by omega⟩
        have h2 := np_hexD ⟨c.toNat % 16, by omega⟩
        simp only [hexq, List.any_cons, List.any_nil, h1, h2]; decide
      · rename_i h; simp only [Bool.not_eq_true] at h; simp only [List.any_cons, List.any_nil, Bool.or_false]; exact h
theorem np_format (v : Val) (h : (formatR v).2 = 0) : (formatR v).1.any npB = false := by
  have hc := (parse_format v h).1
  have hdd : ∀ u, (Lib.decDigits u).any npB = false := fun u => by
    have := decDigits_all u
    rw [List.any_eq_false]
    intro c hcm
    rw [List.all_eq_true] at this
    simp [np_isD (this c hcm)]
  rw [formatR, ite_f (by rw [hc]; rfl), fmtText]
  split
  · rcases itoa_cases v.num with ⟨u, _, e⟩ | ⟨u, _, _, e⟩
    · simp only [e]; exact hdd u
    · simp only [e, List.any_cons, hdd u]; decide
  · split
    · cases (v.num == 1) <;> decide
    · simp only [quoteR, quoteTo, List.any_append, List.any_cons, List.any_flatMap, List.any_nil]
      have : v.text.any (fun x => (escB x).any npB) = false := by rw [List.any_eq_false]; intro c _; simp only [np_escB c]; decide
      simp only [this]; decide
end Go.Abs
set_option maxRecDepth 100000
namespace Go.Abs
open Go Go.Proofs
set_option linter.unusedSimpArgs false
attribute [local irreducible] checkR
def rDigR (c : UInt8) : Int := if (decide ((48 : Int) ≤ c.toNat) && decide ((c.toNat : Int) ≤ 57)) = true then (c.toNat : Int) - 48 else if (decide ((97 : Int) ≤ c.toNat) && decide ((c.toNat : Int) ≤ 102)) = true then (c.toNat : Int) - 87 else -1
theorem pc_rDigit (c : UInt8) : PC Tryz.prog 39 [.int .u8 c.toNat] (fun r => r = .i (rDigR c)) := by
  refine PC_body tOk Tryz.func39 rfl Tryz.results39 rfl (by simp [Tryz.ntmps39]) ?_
  rw [Tryz.ntmps39]
  simp only [argSlots]
  repeat (first
    | (refine AWP_seq (AWP_regS tOk rfl ?_); simp)
    | (refine AWP_regS tOk rfl ?_; simp)
    | (refine AWP_skip ?_; simp)
    | (refine AWP_exit ?_; simp)
    | (refine AWP_ret ?_; simp)
    | refine AWP_block ?_
    | refine AWP_seq ?_)
  refine AWP_cond2 rfl (fun h => ?_) (fun h => ?_)
  · have h' : 48 ≤ c.toNat ∧ c.toNat ≤ 57 := by simp at h; omega
    have e : IntKind.u8.wrap ((c.toNat : Int) - 48) = (c.toNat : Int) - 48 := by rw [IntKind.wrap_u8]; omega
    have e2 : IntKind.i64.wrap ((c.toNat : Int) - 48) = (c.toNat : Int) - 48 := wrap_i64 _ (by omega) (by omega)
    repeat (first
      | (refine AWP_seq (AWP_regS tOk rfl ?_); simp [e, e2])
      | (refine AWP_regS tOk rfl ?_; simp [e, e2])
      | (refine AWP_skip ?_; simp [e, e2])
      | (refine AWP_exit ?_; simp [e, e2])
      | (refine AWP_ret ?_; simp [e, e2])
      | refine AWP_block ?_
      | refine AWP_seq ?_)
    rw [rDigR, ite_t h]
  repeat (first
    | (refine AWP_seq (AWP_regS tOk rfl ?_); simp)
    | (refine AWP_regS tOk rfl ?_; simp)
    | (refine AWP_skip ?_; simp)
    | (refine AWP_exit ?_; simp)
    | (refine AWP_ret ?_; simp)
    | refine AWP_block ?_
    | refine AWP_seq ?_)
  refine AWP_cond2 rfl (fun h1 => ?_) (fun h1 => ?_)
  · have h' : 97 ≤ c.toNat ∧ c.toNat ≤ 102 := by simp at h1; omega
    have e : IntKind.u8.wrap ((c.toNat : Int) - 97) = (c.toNat : Int) - 97 := by rw [IntKind.wrap_u8]; omega
    have e2 : IntKind.i64.wrap ((c.toNat : Int) - 97) = (c.toNat : Int) - 97 := wrap_i64 _ (by omega) (by omega)
    have e3 : IntKind.i64.wrap ((c.toNat : Int) - 97 + 10) = (c.toNat : Int) - 87 := by rw [wrap_i64 _ (by omega) (by omega)]; omega
    repeat (first
      | (refine AWP_seq (AWP_regS tOk rfl ?_); simp [e, e2, e3])
      | (refine AWP_regS tOk rfl ?_; simp [e, e2, e3])
      | (refine AWP_skip ?_; simp [e, e2, e3])
      | (refine AWP_exit ?_; simp [e, e2, e3])
      | (refine AWP_ret ?_; simp [e, e2, e3])
      | refine AWP_block ?_
      | refine AWP_seq ?_)
    rw [rDigR, ite_f h, ite_t h1]
  repeat (first
    | (refine AWP_seq (AWP_regS tOk rfl ?_); simp)
    | (refine AWP_regS tOk rfl ?_; simp)
    | (refine AWP_skip ?_; simp)
    | (refine AWP_exit ?_; simp)
    | (refine AWP_ret ?_; simp)
    | refine AWP_block ?_
    | refine AWP_seq ?_)
  rw [rDigR, ite_f h, ite_f h1]
theorem rDigR_all : ∀ n : Fin 256, rDigR (UInt8.ofNat n.val) = hexI (UInt8.ofNat n.val) := by decide +kernel
theorem rDigR_eq (c : UInt8) : rDigR c = hexI c := by
  have := rDigR_all ⟨c.toNat, c.toNat_lt⟩
  simpa using this
theorem pc_rDigit' (c : UInt8) : PC Tryz.prog 39 [.int .u8 c.toNat] (fun r => r = .i (hexI c)) := by
  have := pc_rDigit c
  rw [rDigR_eq] at this
  exact this
def digS : List UInt8 := [48, 49, 50, 51, 52, 53, 54, 55, 56, 57]
theorem digS_cut (d : Nat) (h : d < 10) : (digS.take (d + 1)).drop d = [UInt8.ofNat (48 + d)] := by
  rw [drop_take_one digS d (by show d < 10; exact h)]
  have : ∀ d : Fin 10, digS[d.val]'(d.isLt) = UInt8.ofNat (48 + d.val) := by decide
  exact congrArg (fun x => [x]) (this ⟨d, h⟩)
theorem itoa_step (u : Nat) (h : ¬ u < 10) : Lib.decDigits u = Lib.decDigits (u / 10) ++ [UInt8.ofNat (48 + u % 10)] := by
  rw [Lib.decDigits, dif_neg h]
set_option maxHeartbeats 1000000 in
theorem pc_rDecimal (k : Nat) : ∀ n : Int, n.natAbs ≤ k → -9223372036854775808 ≤ n → n ≤ 9223372036854775807 → PC Tryz.prog 48 [.i n] (fun r => r = .str (Lib.itoa n)) := by
  induction k using Nat.strongRecOn with
  | ind k ih =>
  intro n hk h1 h2
  refine PC_body tOk Tryz.func48 rfl Tryz.results48 rfl (by simp [Tryz.ntmps48]) ?_
  rw [Tryz.ntmps48]
  simp only [argSlots]
  repeat (first
    | (refine AWP_seq (AWP_regS tOk rfl ?_); simp)
    | (refine AWP_regS tOk rfl ?_; simp)
    | (refine AWP_skip ?_; simp)
    | (refine AWP_exit ?_; simp)
    | (refine AWP_ret ?_; simp)
    | refine AWP_block ?_
    | refine AWP_seq ?_)
  have cut : ∀ d : Nat, d < 10 → List.drop d (48 :: List.take d [49, 50, 51, 52, 53, 54, 55, 56, 57]) = [UInt8.ofNat (48 + d)] := fun d h => digS_cut d h
  refine AWP_cond2 rfl (fun h => ?_) (fun h => ?_)
  · have hn : n < 0 := by simpa using h
    obtain ⟨u, hu⟩ : ∃ u : Nat, u = n.natAbs := ⟨_, rfl⟩
    obtain ⟨d, hd⟩ : ∃ d, d = u % 10 := ⟨_, rfl⟩
    have e1 : n.tmod 10 = -(d : Int) := by rw [show n = -(u : Int) by omega, Int.neg_tmod, Int.tmod_eq_emod_of_nonneg (by omega)]; omega
    have e2 : IntKind.i64.wrap (d : Int) = d := wrap_i64 _ (by omega) (by omega)
    have e3 : IntKind.i64.wrap ((d : Int) + 1) = d + 1 := wrap_i64 _ (by omega) (by omega)
    have e4 : (d : Int) + 1 ≤ 10 := by omega
    have e5 : (0 : Int) ≤ (d : Int) + 1 := by omega
    obtain ⟨c, hc⟩ : ∃ c, UInt8.ofNat (48 + d) = c := ⟨_, rfl⟩
    have e6 := cut d (by omega)
    rw [hc] at e6
    have e7 : n.tdiv 10 = -((u / 10 : Nat) : Int) := by rw [show n = -(u : Int) by omega, Int.neg_tdiv, Int.tdiv_eq_ediv_of_nonneg (by omega)]; omega
    obtain ⟨q, hq⟩ : ∃ q, q = n.tdiv 10 := ⟨_, rfl⟩
    have e8 : IntKind.i64.wrap q = q := wrap_i64 _ (by omega) (by omega)
    have hi : Lib.itoa n = 45 :: Lib.decDigits u := by rw [Lib.itoa, if_pos hn, hu]
    repeat (first
      | (refine AWP_seq (AWP_regS tOk rfl ?_); simp [e1, e2, e3, e4, e5, e6])
      | (refine AWP_regS tOk rfl ?_; simp [e1, e2, e3, e4, e5, e6])
      | (refine AWP_skip ?_; simp [e1, e2, e3, e4, e5, e6])
      | (refine AWP_exit ?_; simp [e1, e2, e3, e4, e5, e6])
      | (refine AWP_ret ?_; simp [e1, e2, e3, e4, e5, e6])
      | refine AWP_block ?_
      | refine AWP_seq ?_)
    refine AWP_cond2 rfl (fun h3 => ?_) (fun h3 => ?_)
    · have h3' : -10 < n := by simpa using h3
      repeat (first
        | (refine AWP_seq (AWP_regS tOk rfl ?_); simp)
        | (refine AWP_regS tOk rfl ?_; simp)
        | (refine AWP_skip ?_; simp)
        | (refine AWP_exit ?_; simp)
        | (refine AWP_ret ?_; simp)
        | refine AWP_block ?_
        | refine AWP_seq ?_)
      rw [hi, Lib.decDigits, dif_pos (by omega), ← hc, show d = u by omega]
    · have h3' : n ≤ -10 := by simpa using h3
      have hi2 : Lib.itoa q = 45 :: Lib.decDigits (u / 10) := by rw [Lib.itoa, if_pos (by omega), show q.natAbs = u / 10 by omega]
      have hl := Lib.itoa_length_le q (by omega) (by omega)
      have hl2 : (Lib.itoa q).length + 1 ≤ 9223372036854775807 := by omega
      repeat (first
        | (refine AWP_seq (AWP_regS tOk rfl ?_); simp [← hq, e8])
        | (refine AWP_regS tOk rfl ?_; simp [← hq, e8])
        | (refine AWP_skip ?_; simp [← hq, e8])
        | (refine AWP_exit ?_; simp [← hq, e8])
        | (refine AWP_ret ?_; simp [← hq, e8])
        | refine AWP_block ?_
        | refine AWP_seq ?_)
      refine AStep_PC rfl rfl (by simp) (ih q.natAbs (by omega) q (Nat.le_refl _) (by omega) (by omega)) rfl ?_
      rintro _ rfl
      simp [hl2]
      repeat (first
        | (refine AWP_seq (AWP_regS tOk rfl ?_); simp)
        | (refine AWP_regS tOk rfl ?_; simp)
        | (refine AWP_skip ?_; simp)
        | (refine AWP_exit ?_; simp)
        | (refine AWP_ret ?_; simp)
        | refine AWP_block ?_
        | refine AWP_seq ?_)
      rw [hi, hi2, itoa_step u (by omega), ← hd, hc]
      rfl
  · have hn : 0 ≤ n := by simpa using h
    obtain ⟨u, rfl⟩ := Int.eq_ofNat_of_zero_le hn
    have hi : ∀ v : Nat, Lib.itoa (v : Int) = Lib.decDigits v := Lib.itoa_nonneg
    repeat (first
      | (refine AWP_seq (AWP_regS tOk rfl ?_); simp)
      | (refine AWP_regS tOk rfl ?_; simp)
      | (refine AWP_skip ?_; simp)
      | (refine AWP_exit ?_; simp)
      | (refine AWP_ret ?_; simp)
      | refine AWP_block ?_
      | refine AWP_seq ?_)
    refine AWP_cond2 rfl (fun h3 => ?_) (fun h3 => ?_)
    · have h3' : u < 10 := by simp at h3; omega
      have e3 : IntKind.i64.wrap ((u : Int) + 1) = u + 1 := wrap_i64 _ (by omega) (by omega)
      have e4 : (u : Int) + 1 ≤ 10 := by omega
      have e5 : (0 : Int) ≤ (u : Int) + 1 := by omega
      obtain ⟨c, hc⟩ : ∃ c, UInt8.ofNat (48 + u) = c := ⟨_, rfl⟩
      have e6 := cut u h3'
      rw [hc] at e6
      repeat (first
        | (refine AWP_seq (AWP_regS tOk rfl ?_); simp [e3, e4, e5, e6])
        | (refine AWP_regS tOk rfl ?_; simp [e3, e4, e5, e6])
        | (refine AWP_skip ?_; simp [e3, e4, e5, e6])
        | (refine AWP_exit ?_; simp [e3, e4, e5, e6])
        | (refine AWP_ret ?_; simp [e3, e4, e5, e6])
        | refine AWP_block ?_
        | refine AWP_seq ?_)
      rw [hi, Lib.decDigits, dif_pos h3', hc]
    · have h3' : 10 ≤ u := by simp at h3; omega
      obtain ⟨d, hd⟩ : ∃ d, d = u % 10 := ⟨_, rfl⟩
      obtain ⟨q, hq⟩ : ∃ q, q = u / 10 := ⟨_, rfl⟩
      have e1 : (u : Int).tmod 10 = d := by rw [Int.tmod_eq_emod_of_nonneg (by omega)]; omega
      have e1' : (u : Int) % 10 = d := by omega
      have e7 : (u : Int).tdiv 10 = q := by rw [Int.tdiv_eq_ediv_of_nonneg (by omega)]; omega
      have e7' : (u : Int) / 10 = q := by omega
      have e8 : IntKind.i64.wrap (q : Int) = q := wrap_i64 _ (by omega) (by omega)
      have e3 : IntKind.i64.wrap ((d : Int) + 1) = d + 1 := wrap_i64 _ (by omega) (by omega)
      have e4 : (d : Int) + 1 ≤ 10 := by omega
      have e5 : (0 : Int) ≤ (d : Int) + 1 := by omega
      obtain ⟨c, hc⟩ : ∃ c, UInt8.ofNat (48 + d) = c := ⟨_, rfl⟩
      have e6 := cut d (by omega)
      rw [hc] at e6
      have hl := Lib.itoa_length_le (q : Int) (by omega) (by omega)
      have hl2 : (Lib.itoa (q : Int)).length + 1 ≤ 9223372036854775807 := by omega
      repeat (first
        | (refine AWP_seq (AWP_regS tOk rfl ?_); simp)
        | (refine AWP_regS tOk rfl ?_; simp)
        | (refine AWP_skip ?_; simp)
        | (refine AWP_exit ?_; simp)
        | (refine AWP_ret ?_; simp)
        | refine AWP_block ?_
        | refine AWP_seq ?_)
      refine AWP_drawT tOk mixed [] (.val 0 (.val 1 (.val 3 (.val 4 (.val 5 (.val 6 (.val 7 (.val 8 (.one 2 (.val 9 (.val 10 (.done)))))))))))) rfl (by kernel_rfl) ?_
      simp [e1, e1', e7, e7', e8, e3, e4, e5, e6]
      refine AStep_PC rfl rfl (by simp) (ih q (by omega) (q : Int) (by omega) (by omega) (by omega)) rfl ?_
      rintro _ rfl
      simp [hl2]
      repeat (first
        | (refine AWP_seq (AWP_regS tOk rfl ?_); simp)
        | (refine AWP_regS tOk rfl ?_; simp)
        | (refine AWP_skip ?_; simp)
        | (refine AWP_exit ?_; simp)
        | (refine AWP_ret ?_; simp)
        | refine AWP_block ?_
        | refine AWP_seq ?_)
      rw [hi, hi, itoa_step u (by omega), ← hd, hc, ← hq]
end Go.Abs
set_option maxRecDepth 100000
namespace Go.Abs
open Go Go.Proofs
set_option linter.unusedSimpArgs false
attribute [local irreducible] checkR Lib.itoa
set_option maxHeartbeats 1000000 in
theorem pc_rHex (c : UInt8) : PC Tryz.prog 65 [.int .u8 c.toNat] (fun r => r = .str [hexD (c.toNat / 16), hexD (c.toNat % 16)]) := by
  refine PC_body tOk Tryz.func65 rfl Tryz.results65 rfl (by simp [Tryz.ntmps65]) ?_
  rw [Tryz.ntmps65]
  simp only [argSlots]
  have hn := c.toNat_lt
  obtain ⟨x, hx⟩ : ∃ x, x = c.toNat / 16 := ⟨_, rfl⟩
  obtain ⟨y, hy⟩ : ∃ y, y = c.toNat % 16 := ⟨_, rfl⟩
  rw [← hx, ← hy]
  have e1 : IntKind.u8.wrap ((c.toNat : Int) / 16) = x := by rw [IntKind.wrap_u8]; omega
  have e1' : IntKind.u8.wrap ((c.toNat : Int).tdiv 16) = x := by rw [IntKind.wrap_u8, Int.tdiv_eq_ediv_of_nonneg (by omega)]; omega
  have e2 : ((c.toNat : Int).tmod 16) = y := by rw [Int.tmod_eq_emod_of_nonneg (by omega)]; omega
  have e2' : ((c.toNat : Int) % 16) = y := by omega
  obtain ⟨x3, x4, x5, x6⟩ := nib_u8 x (by omega)
  obtain ⟨y3, y4, y5, y6⟩ := nib_u8 y (by omega)
  have hcx := hexD_drop x (by omega)
  have hcy := hexD_drop y (by omega)
  repeat (first
    | (refine AWP_seq (AWP_regS tOk rfl ?_); simp)
    | (refine AWP_regS tOk rfl ?_; simp)
    | (refine AWP_skip ?_; simp)
    | (refine AWP_exit ?_; simp)
    | (refine AWP_ret ?_; simp)
    | refine AWP_block ?_
    | refine AWP_seq ?_)
  refine AWP_drawT tOk mixed [] (.val 0 (.val 1 (.val 2 (.val 3 (.val 4 (.val 5 (.val 6 (.val 7 (.val 8 (.val 9 (.val 10 (.val 11 (.val 12 (.val 13 (.val 14 (.val 15 (.done))))))))))))))))) rfl (by kernel_rfl) ?_
  simp [e1, e1', e2, e2', x3, x4, x5, x6, y3, y4, y5, y6, hcx, hcy]
  repeat (first
    | (refine AWP_seq (AWP_regS tOk rfl ?_); simp)
    | (refine AWP_regS tOk rfl ?_; simp)
    | (refine AWP_skip ?_; simp)
    | (refine AWP_exit ?_; simp)
    | (refine AWP_ret ?_; simp)
    | refine AWP_block ?_
    | refine AWP_seq ?_)
set_option maxHeartbeats 1000000 in
theorem pc_rQuote (s : List UInt8) (hs : s.length ≤ 1000000) : PC Tryz.prog 49 [.str s] (fun r => r = .str (quoteR s)) := by
  refine PC_body tOk Tryz.func49 rfl Tryz.results49 rfl (by simp [Tryz.ntmps49]) ?_
  rw [Tryz.ntmps49]
  simp only [argSlots]
  repeat (first
    | (refine AWP_seq (AWP_regS tOk rfl ?_); simp)
    | (refine AWP_regS tOk rfl ?_; simp)
    | (refine AWP_skip ?_; simp)
    | (refine AWP_exit ?_; simp)
    | (refine AWP_ret ?_; simp)
    | refine AWP_block ?_
    | refine AWP_seq ?_)
  refine AWP_count s.length (fun j => [(0, .str s), (3, .str (quoteTo (s.take j))), (4, .i j)]) (fun _ => []) (G := []) rfl (by simp) (by simp [quoteTo]) (by simp) (by simp) ?_
  intro j hj ih
  have hq := quoteTo_len (s.take j)
  rw [List.length_take] at hq
  have hq1 : (quoteTo (s.take j)).length + 1 ≤ 9223372036854775807 := by omega
  have hq2 : (quoteTo (s.take j)).length + 2 ≤ 9223372036854775807 := by omega
  have hq4 : (quoteTo (s.take j)).length + 4 ≤ 9223372036854775807 := by omega
  repeat (first
    | (refine AWP_seq (AWP_regS tOk rfl ?_); simp)
    | (refine AWP_regS tOk rfl ?_; simp)
    | (refine AWP_skip ?_; simp)
    | (refine AWP_exit ?_; simp)
    | (refine AWP_ret ?_; simp)
    | refine AWP_block ?_
    | refine AWP_seq ?_)
  refine AWP_cond2 rfl (fun hlt => ?_) (fun hge => ?_)
  · have hlt' : j < s.length := by simpa using hlt
    have hesc := quoteTo_succ s j hlt'
    have hw1 : IntKind.i64.wrap ((j : Int) + 1) = j + 1 := wrap_i64 _ (by omega) (by omega)
    have hw2 : (0 : Int) ≤ (j : Int) + 1 := by omega
    have hw3 : (j : Int) + 1 ≤ s.length := by omega
    have hw4 : ((j : Int) + 1).toNat = j + 1 := by omega
    have hcut := drop_take_one s j hlt'
    repeat (first
      | (refine AWP_seq (AWP_regS tOk rfl ?_); simp [hlt'])
      | (refine AWP_regS tOk rfl ?_; simp [hlt'])
      | (refine AWP_skip ?_; simp [hlt'])
      | (refine AWP_exit ?_; simp [hlt'])
      | (refine AWP_ret ?_; simp [hlt'])
      | refine AWP_block ?_
      | refine AWP_seq ?_)
    refine AWP_cond2 rfl (fun h1 => ?_) (fun h1 => ?_)
    · rw [escB, ite_t h1] at hesc
      repeat (first
        | (refine AWP_seq (AWP_regS tOk rfl ?_); simp [hlt', hw1, hw2, hw3, hw4, hcut, hq2])
        | (refine AWP_regS tOk rfl ?_; simp [hlt', hw1, hw2, hw3, hw4, hcut, hq2])
        | (refine AWP_skip ?_; simp [hlt', hw1, hw2, hw3, hw4, hcut, hq2])
        | (refine AWP_exit ?_; simp [hlt', hw1, hw2, hw3, hw4, hcut, hq2])
        | (refine AWP_ret ?_; simp [hlt', hw1, hw2, hw3, hw4, hcut, hq2])
        | refine AWP_block ?_
        | refine AWP_seq ?_)
      have he : quoteTo (s.take (j + 1)) = quoteTo (s.take j) ++ [92, s[j]] := by rw [hesc]
      repeat (first
        | (refine AWP_seq (AWP_regS tOk rfl ?_); simp [hw1])
        | (refine AWP_regS tOk rfl ?_; simp [hw1])
        | (refine AWP_skip ?_; simp [hw1])
        | (refine AWP_exit ?_; simp [hw1])
        | (refine AWP_ret ?_; simp [hw1])
        | refine AWP_block ?_
        | refine AWP_seq ?_)
      refine ALoop_end [] (ih hlt') rfl (by simp) ?_ (by simp) (by simp)
      rw [he]
      simp [hw1]
    · rw [escB, ite_f h1] at hesc
      repeat (first
        | (refine AWP_seq (AWP_regS tOk rfl ?_); simp [hlt'])
        | (refine AWP_regS tOk rfl ?_; simp [hlt'])
        | (refine AWP_skip ?_; simp [hlt'])
        | (refine AWP_exit ?_; simp [hlt'])
        | (refine AWP_ret ?_; simp [hlt'])
        | refine AWP_block ?_
        | refine AWP_seq ?_)
      refine AWP_cond2 rfl (fun h2 => ?_) (fun h2 => ?_)
      · rw [ite_t h2] at hesc
        repeat (first
          | (refine AWP_seq (AWP_regS tOk rfl ?_); simp [hq2])
          | (refine AWP_regS tOk rfl ?_; simp [hq2])
          | (refine AWP_skip ?_; simp [hq2])
          | (refine AWP_exit ?_; simp [hq2])
          | (refine AWP_ret ?_; simp [hq2])
          | refine AWP_block ?_
          | refine AWP_seq ?_)
        have he : quoteTo (s.take (j + 1)) = quoteTo (s.take j) ++ [92, 110] := by rw [hesc]
        repeat (first
          | (refine AWP_seq (AWP_regS tOk rfl ?_); simp [hw1])
          | (refine AWP_regS tOk rfl ?_; simp [hw1])
          | (refine AWP_skip ?_; simp [hw1])
          | (refine AWP_exit ?_; simp [hw1])
          | (refine AWP_ret ?_; simp [hw1])
          | refine AWP_block ?_
          | refine AWP_seq ?_)
        refine ALoop_end [] (ih hlt') rfl (by simp) ?_ (by simp) (by simp)
        rw [he]
        simp [hw1]
      · rw [ite_f h2] at hesc
        repeat (first
          | (refine AWP_seq (AWP_regS tOk rfl ?_); simp [hlt'])
          | (refine AWP_regS tOk rfl ?_; simp [hlt'])
          | (refine AWP_skip ?_; simp [hlt'])
          | (refine AWP_exit ?_; simp [hlt'])
          | (refine AWP_ret ?_; simp [hlt'])
          | refine AWP_block ?_
          | refine AWP_seq ?_)
        refine AWP_cond2 rfl (fun h3 => ?_) (fun h3 => ?_)
        · rw [ite_t h3, hexq] at hesc
          repeat (first
            | (refine AWP_seq (AWP_regS tOk rfl ?_); simp)
            | (refine AWP_regS tOk rfl ?_; simp)
            | (refine AWP_skip ?_; simp)
            | (refine AWP_exit ?_; simp)
            | (refine AWP_ret ?_; simp)
            | refine AWP_block ?_
            | refine AWP_seq ?_)
          refine AStep_PC rfl rfl (by simp) (pc_rHex s[j]) rfl ?_
          rintro _ rfl
          simp [hq4]
          have he : quoteTo (s.take (j + 1)) = quoteTo (s.take j) ++ [92, 120, hexD (s[j].toNat / 16), hexD (s[j].toNat % 16)] := by rw [hesc]
          repeat (first
            | (refine AWP_seq (AWP_regS tOk rfl ?_); simp [hw1])
            | (refine AWP_regS tOk rfl ?_; simp [hw1])
            | (refine AWP_skip ?_; simp [hw1])
            | (refine AWP_exit ?_; simp [hw1])
            | (refine AWP_ret ?_; simp [hw1])
            | refine AWP_block ?_
            | refine AWP_seq ?_)
          refine ALoop_end [] (ih hlt') rfl (by simp) ?_ (by simp) (by simp)
          rw [he]
          simp [hw1]
        · rw [ite_f h3] at hesc
          repeat (first
            | (refine AWP_seq (AWP_regS tOk rfl ?_); simp [hlt', hw1, hw2, hw3, hw4, hcut, hq1])
            | (refine AWP_regS tOk rfl ?_; simp [hlt', hw1, hw2, hw3, hw4, hcut, hq1])
            | (refine AWP_skip ?_; simp [hlt', hw1, hw2, hw3, hw4, hcut, hq1])
            | (refine AWP_exit ?_; simp [hlt', hw1, hw2, hw3, hw4, hcut, hq1])
            | (refine AWP_ret ?_; simp [hlt', hw1, hw2, hw3, hw4, hcut, hq1])
            | refine AWP_block ?_
            | refine AWP_seq ?_)
          have he : quoteTo (s.take (j + 1)) = quoteTo (s.take j) ++ [s[j]] := by rw [hesc]
          repeat (first
            | (refine AWP_seq (AWP_regS tOk rfl ?_); simp [hw1])
            | (refine AWP_regS tOk rfl ?_; simp [hw1])
            | (refine AWP_skip ?_; simp [hw1])
            | (refine AWP_exit ?_; simp [hw1])
            | (refine AWP_ret ?_; simp [hw1])
            | refine AWP_block ?_
            | refine AWP_seq ?_)
          refine ALoop_end [] (ih hlt') rfl (by simp) ?_ (by simp) (by simp)
          rw [he]
          simp [hw1]
  · have hge' : j = s.length := by simp at hge; omega
    subst hge'
    rw [List.take_length] at hq1 ⊢
    repeat (first
      | (refine AWP_seq (AWP_regS tOk rfl ?_); simp [hq1])
      | (refine AWP_regS tOk rfl ?_; simp [hq1])
      | (refine AWP_skip ?_; simp [hq1])
      | (refine AWP_exit ?_; simp [hq1])
      | (refine AWP_ret ?_; simp [hq1])
      | refine AWP_block ?_
      | refine AWP_seq ?_)
    rfl
attribute [local irreducible] quoteR
def showR (v : Val) : List UInt8 := if (v.kind == 0) = true then Lib.itoa v.num else if (v.kind == 2) = true then quoteR v.text else if (v.num == 1) = true then [116, 114, 117, 101] else [102, 97, 108, 115, 101]
theorem pc_rShow (v : Val) (hv : checkR v = 0) : PC Tryz.prog 27 [encV v] (fun r => r = .str (showR v)) := by
  refine PC_body tOk Tryz.func27 rfl Tryz.results27 rfl (by simp [Tryz.ntmps27]) ?_
  rw [Tryz.ntmps27]
  simp only [argSlots]
  simp only [encV]
  have hz := checkR_zero hv
  repeat (first
    | (refine AWP_seq (AWP_regS tOk rfl ?_); simp)
    | (refine AWP_regS tOk rfl ?_; simp)
    | (refine AWP_skip ?_; simp)
    | (refine AWP_exit ?_; simp)
    | (refine AWP_ret ?_; simp)
    | refine AWP_block ?_
    | refine AWP_seq ?_)
  refine AWP_cond2 rfl (fun h0 => ?_) (fun h0 => ?_)
  · have hk : v.kind = 0 := by simpa using h0
    repeat (first
      | (refine AWP_seq (AWP_regS tOk rfl ?_); simp)
      | (refine AWP_regS tOk rfl ?_; simp)
      | (refine AWP_skip ?_; simp)
      | (refine AWP_exit ?_; simp)
      | (refine AWP_ret ?_; simp)
      | refine AWP_block ?_
      | refine AWP_seq ?_)
    refine AStep_PC rfl rfl (by simp) (pc_rDecimal v.num.natAbs v.num (Nat.le_refl _) (by omega) (by omega)) rfl ?_
    rintro _ rfl
    simp
    repeat (first
      | (refine AWP_seq (AWP_regS tOk rfl ?_); simp)
      | (refine AWP_regS tOk rfl ?_; simp)
      | (refine AWP_skip ?_; simp)
      | (refine AWP_exit ?_; simp)
      | (refine AWP_ret ?_; simp)
      | refine AWP_block ?_
      | refine AWP_seq ?_)
    rw [showR, ite_t h0]
  repeat (first
    | (refine AWP_seq (AWP_regS tOk rfl ?_); simp)
    | (refine AWP_regS tOk rfl ?_; simp)
    | (refine AWP_skip ?_; simp)
    | (refine AWP_exit ?_; simp)
    | (refine AWP_ret ?_; simp)
    | refine AWP_block ?_
    | refine AWP_seq ?_)
  refine AWP_cond2 rfl (fun h1 => ?_) (fun h1 => ?_)
  · have hk : v.kind = 2 := by simpa using h1
    repeat (first
      | (refine AWP_seq (AWP_regS tOk rfl ?_); simp)
      | (refine AWP_regS tOk rfl ?_; simp)
      | (refine AWP_skip ?_; simp)
      | (refine AWP_exit ?_; simp)
      | (refine AWP_ret ?_; simp)
      | refine AWP_block ?_
      | refine AWP_seq ?_)
    refine AStep_PC rfl rfl (by simp) (pc_rQuote v.text (by omega)) rfl ?_
    rintro _ rfl
    simp
    repeat (first
      | (refine AWP_seq (AWP_regS tOk rfl ?_); simp)
      | (refine AWP_regS tOk rfl ?_; simp)
      | (refine AWP_skip ?_; simp)
      | (refine AWP_exit ?_; simp)
      | (refine AWP_ret ?_; simp)
      | refine AWP_block ?_
      | refine AWP_seq ?_)
    rw [showR, ite_f h0, ite_t h1]
  repeat (first
    | (refine AWP_seq (AWP_regS tOk rfl ?_); simp)
    | (refine AWP_regS tOk rfl ?_; simp)
    | (refine AWP_skip ?_; simp)
    | (refine AWP_exit ?_; simp)
    | (refine AWP_ret ?_; simp)
    | refine AWP_block ?_
    | refine AWP_seq ?_)
  refine AWP_cond2 rfl (fun h2 => ?_) (fun h2 => ?_)
  · repeat (first
      | (refine AWP_seq (AWP_regS tOk rfl ?_); simp)
      | (refine AWP_regS tOk rfl ?_; simp)
      | (refine AWP_skip ?_; simp)
      | (refine AWP_exit ?_; simp)
      | (refine AWP_ret ?_; simp)
      | refine AWP_block ?_
      | refine AWP_seq ?_)
    rw [showR, ite_f h0, ite_f h1, ite_t h2]
  · repeat (first
      | (refine AWP_seq (AWP_regS tOk rfl ?_); simp)
      | (refine AWP_regS tOk rfl ?_; simp)
      | (refine AWP_skip ?_; simp)
      | (refine AWP_exit ?_; simp)
      | (refine AWP_ret ?_; simp)
      | refine AWP_block ?_
      | refine AWP_seq ?_)
    rw [showR, ite_f h0, ite_f h1, ite_f h2]
theorem showR_eq (v : Val) (hv : checkR v = 0) : showR v = fmtText v := by
  unfold showR fmtText
  rcases checkR_zero hv with ⟨hk, _⟩ | ⟨hk, _, hn⟩ | ⟨hk, _⟩
  · simp [hk]
  · rw [hk]; cases (v.num == 1) <;> rfl
  · simp [hk]
theorem pc_rFormat (v : Val) : PC Tryz.prog 8 [encV v] (fun r => r = .tup [.str (formatR v).1, .i (formatR v).2]) := by
  refine PC_body tOk Tryz.func8 rfl Tryz.results8 rfl (by simp [Tryz.ntmps8]) ?_
  rw [Tryz.ntmps8]
  simp only [argSlots]
  simp only [encV]
  repeat (first
    | (refine AWP_seq (AWP_regS tOk rfl ?_); simp)
    | (refine AWP_regS tOk rfl ?_; simp)
    | (refine AWP_skip ?_; simp)
    | (refine AWP_exit ?_; simp)
    | (refine AWP_ret ?_; simp)
    | refine AWP_block ?_
    | refine AWP_seq ?_)
  refine AStep_PC rfl rfl (by simp) (pc_rCheck v) rfl ?_
  rintro _ rfl
  simp
  rw [rCheckR_eq]
  repeat (first
    | (refine AWP_seq (AWP_regS tOk rfl ?_); simp)
    | (refine AWP_regS tOk rfl ?_; simp)
    | (refine AWP_skip ?_; simp)
    | (refine AWP_exit ?_; simp)
    | (refine AWP_ret ?_; simp)
    | refine AWP_block ?_
    | refine AWP_seq ?_)
  refine AWP_cond2 rfl (fun h => ?_) (fun h => ?_)
  · repeat (first
      | (refine AWP_seq (AWP_regS tOk rfl ?_); simp)
      | (refine AWP_regS tOk rfl ?_; simp)
      | (refine AWP_skip ?_; simp)
      | (refine AWP_exit ?_; simp)
      | (refine AWP_ret ?_; simp)
      | refine AWP_block ?_
      | refine AWP_seq ?_)
    rw [formatR, ite_t h]
    simp
  repeat (first
    | (refine AWP_seq (AWP_regS tOk rfl ?_); simp)
    | (refine AWP_regS tOk rfl ?_; simp)
    | (refine AWP_skip ?_; simp)
    | (refine AWP_exit ?_; simp)
    | (refine AWP_ret ?_; simp)
    | refine AWP_block ?_
    | refine AWP_seq ?_)
  refine AStep_PC rfl rfl (by simp) (pc_rShow v (by simpa using h)) rfl ?_
  rintro _ rfl
  simp
  repeat (first
    | (refine AWP_seq (AWP_regS tOk rfl ?_); simp)
    | (refine AWP_regS tOk rfl ?_; simp)
    | (refine AWP_skip ?_; simp)
    | (refine AWP_exit ?_; simp)
    | (refine AWP_ret ?_; simp)
    | refine AWP_block ?_
    | refine AWP_seq ?_)
  rw [formatR, ite_f h, showR_eq v (by simpa using h)]
  simp
end Go.Abs
set_option maxRecDepth 100000
namespace Go.Abs
open Go Go.Proofs
set_option linter.unusedSimpArgs false
/-! The reference's reading of an integer. -/
def satS (n : Int) (c : UInt8) : Int := if 1099511627777 < dstep n c then 1099511627777 else dstep n c
def satV (s : List UInt8) : Int := s.foldl satS 0
theorem satV_snoc (s : List UInt8) (c : UInt8) : satV (s ++ [c]) = satS (satV s) c := by simp [satV]
theorem satV_rng (s : List UInt8) (hd : s.all isD = true) : 0 ≤ satV s ∧ satV s ≤ 1099511627777 := by
  have key : ∀ (s : List UInt8) (n : Int), s.all isD = true → 0 ≤ n → n ≤ 1099511627777 → 0 ≤ s.foldl satS n ∧ s.foldl satS n ≤ 1099511627777 := by
    intro s
    induction s with
    | nil => intro n _ h0 h1; exact ⟨h0, h1⟩
    | cons c s ih =>
      intro n hd h0 h1
      rw [List.all_cons, Bool.and_eq_true] at hd
      have hc := (isD_iff c).1 hd.1
      rw [List.foldl_cons]
      refine ih _ hd.2 ?_ ?_ <;> (unfold satS dstep; split <;> omega)
  exact key s 0 hd (by omega) (by omega)
def rNumB (t : List UInt8) (neg : Bool) : Bool := match t with
  | [] => false
  | c :: r => !(((c.toNat : Int) == 48) && (decide (0 < r.length) || neg)) && (c :: r).all isD
def rNumV (t : List UInt8) (neg : Bool) : Int := if neg = true then -satV t else satV t
def isNeg : List UInt8 → Bool
  | [] => false
  | c :: _ => (c.toNat : Int) == 45
def rNumR (s : List UInt8) : Int × Bool := if rNumB (if isNeg s = true then s.drop 1 else s) (isNeg s) = true then (rNumV (if isNeg s = true then s.drop 1 else s) (isNeg s), true) else (0, false)
set_option maxHeartbeats 1000000 in
theorem pc_rNumber (s : List UInt8) (hs : s.length ≤ 1000000) : PC Tryz.prog 20 [.str s] (fun r => r = .tup [.i (rNumR s).1, .bool (rNumR s).2]) := by
  refine PC_body tOk Tryz.func20 rfl Tryz.results20 rfl (by simp [Tryz.ntmps20]) ?_
  rw [Tryz.ntmps20]
  simp only [argSlots]
  obtain ⟨R, hR⟩ : ∃ R, rNumR s = R := ⟨_, rfl⟩
  rw [hR]
  rw [rNumR] at hR
  repeat (first
    | (refine AWP_seq (AWP_regS tOk rfl ?_); simp)
    | (refine AWP_regS tOk rfl ?_; simp)
    | (refine AWP_skip ?_; simp)
    | (refine AWP_exit ?_; simp)
    | (refine AWP_ret ?_; simp)
    | refine AWP_block ?_
    | refine AWP_seq ?_)
  rcases s with _ | ⟨c0, s⟩
  · repeat (first
      | (refine AWP_seq (AWP_regS tOk rfl ?_); simp)
      | (refine AWP_regS tOk rfl ?_; simp)
      | (refine AWP_skip ?_; simp)
      | (refine AWP_exit ?_; simp)
      | (refine AWP_ret ?_; simp)
      | refine AWP_block ?_
      | refine AWP_seq ?_)
    refine AWP_cond rfl ?_
    repeat (first
      | (refine AWP_seq (AWP_regS tOk rfl ?_); simp)
      | (refine AWP_regS tOk rfl ?_; simp)
      | (refine AWP_skip ?_; simp)
      | (refine AWP_exit ?_; simp)
      | (refine AWP_ret ?_; simp)
      | refine AWP_block ?_
      | refine AWP_seq ?_)
    refine AWP_cond rfl ?_
    repeat (first
      | (refine AWP_seq (AWP_regS tOk rfl ?_); simp)
      | (refine AWP_regS tOk rfl ?_; simp)
      | (refine AWP_skip ?_; simp)
      | (refine AWP_exit ?_; simp)
      | (refine AWP_ret ?_; simp)
      | refine AWP_block ?_
      | refine AWP_seq ?_)
    obtain rfl : (0, false) = R := by rw [← hR]; rfl
    exact ⟨rfl, rfl⟩
  · repeat (first
      | (refine AWP_seq (AWP_regS tOk rfl ?_); simp)
      | (refine AWP_regS tOk rfl ?_; simp)
      | (refine AWP_skip ?_; simp)
      | (refine AWP_exit ?_; simp)
      | (refine AWP_ret ?_; simp)
      | refine AWP_block ?_
      | refine AWP_seq ?_)
    simp only [isNeg, List.drop_one, List.tail_cons] at hR
    refine AWP_cond2 rfl (fun h => ?_) (fun h => ?_)
    · rw [ite_t h] at hR
      rcases s with _ | ⟨c, r⟩
      · repeat (first
          | (refine AWP_seq (AWP_regS tOk rfl ?_); simp [h])
          | (refine AWP_regS tOk rfl ?_; simp [h])
          | (refine AWP_skip ?_; simp [h])
          | (refine AWP_exit ?_; simp [h])
          | (refine AWP_ret ?_; simp [h])
          | refine AWP_block ?_
          | refine AWP_seq ?_)
        refine AWP_cond rfl ?_
        repeat (first
          | (refine AWP_seq (AWP_regS tOk rfl ?_); simp)
          | (refine AWP_regS tOk rfl ?_; simp)
          | (refine AWP_skip ?_; simp)
          | (refine AWP_exit ?_; simp)
          | (refine AWP_ret ?_; simp)
          | refine AWP_block ?_
          | refine AWP_seq ?_)
        obtain rfl : (0, false) = R := by rw [← hR]; rfl
        exact ⟨rfl, rfl⟩
      · rw [h] at hR
        have hr1 : (1 : Int) ≤ (r.length : Int) + 1 + 1 := by omega
        have hz0 : (((r.length : Int) + 1) == 0) = false := by simp; omega
        repeat (first
          | (refine AWP_seq (AWP_regS tOk rfl ?_); simp [h, hr1, hz0])
          | (refine AWP_regS tOk rfl ?_; simp [h, hr1, hz0])
          | (refine AWP_skip ?_; simp [h, hr1, hz0])
          | (refine AWP_exit ?_; simp [h, hr1, hz0])
          | (refine AWP_ret ?_; simp [h, hr1, hz0])
          | refine AWP_block ?_
          | refine AWP_seq ?_)
        have hz : (((r.length : Int) + 1) == 0) = false := by simp; omega
        have h1l : decide ((1 : Int) < (r.length : Int) + 1) = decide (0 < r.length) := by rw [Bool.eq_iff_iff]; simp; omega
        have hb0 : rNumB (c :: r) true = (!(((c.toNat : Int) == 48) && (decide (0 < r.length) || true)) && (c :: r).all isD) := rfl
        rw [hb0] at hR
        repeat (first
          | (refine AWP_seq (AWP_regS tOk rfl ?_); simp [hz, h1l, h, hr1])
          | (refine AWP_regS tOk rfl ?_; simp [hz, h1l, h, hr1])
          | (refine AWP_skip ?_; simp [hz, h1l, h, hr1])
          | (refine AWP_exit ?_; simp [hz, h1l, h, hr1])
          | (refine AWP_ret ?_; simp [hz, h1l, h, hr1])
          | refine AWP_block ?_
          | refine AWP_seq ?_)
        refine AWP_cond2 rfl (fun h1 => ?_) (fun h1 => ?_)
        · repeat (first
            | (refine AWP_seq (AWP_regS tOk rfl ?_); simp)
            | (refine AWP_regS tOk rfl ?_; simp)
            | (refine AWP_skip ?_; simp)
            | (refine AWP_exit ?_; simp)
            | (refine AWP_ret ?_; simp)
            | refine AWP_block ?_
            | refine AWP_seq ?_)
          rw [ite_f (by revert h1; cases ((c.toNat : Int) == 48) <;> cases (decide (0 < r.length)) <;> simp)] at hR
          subst hR
          exact ⟨rfl, rfl⟩
        rw [show (((c.toNat : Int) == 48) && (decide (0 < r.length) || true)) = false by revert h1; cases ((c.toNat : Int) == 48) <;> cases (decide (0 < r.length)) <;> simp] at hR
        simp only [Bool.not_false, Bool.true_and] at hR
        generalize hcc : c :: r = t at *
        have htl' : t.length = r.length + 1 := by rw [← hcc]; rfl
        have htl2 : t.length ≤ 1000001 := by first | omega | (simp at hs; omega)
        repeat (first
          | (refine AWP_seq (AWP_regS tOk rfl ?_); simp)
          | (refine AWP_regS tOk rfl ?_; simp)
          | (refine AWP_skip ?_; simp)
          | (refine AWP_exit ?_; simp)
          | (refine AWP_ret ?_; simp)
          | refine AWP_block ?_
          | refine AWP_seq ?_)
        refine AWP_countI t.length (fun j => (t.take j).all isD = true) (fun j => [(0, .str t), (4, .bool true), (5, .i (satV (t.take j))), (6, .i j)]) (fun _ => []) rfl (by simp) (by simp [satV]) (by simp) (by simp) (by simp) ?_
        intro j hj hI ih
        repeat (first
          | (refine AWP_seq (AWP_regS tOk rfl ?_); simp)
          | (refine AWP_regS tOk rfl ?_; simp)
          | (refine AWP_skip ?_; simp)
          | (refine AWP_exit ?_; simp)
          | (refine AWP_ret ?_; simp)
          | refine AWP_block ?_
          | refine AWP_seq ?_)
        refine AWP_cond2 rfl (fun hlt => ?_) (fun hge => ?_)
        · have hlt' : j < t.length := by simpa using hlt
          have hsr := satV_rng (t.take j) hI
          have hI2 : (t.take (j + 1)).all isD = isD t[j] := by rw [List.take_succ_eq_append_getElem hlt', List.all_append, hI]; simp
          have hall : t.all isD = true → isD t[j] = true := fun h => List.all_eq_true.1 h _ (List.getElem_mem hlt')
          repeat (first
            | (refine AWP_seq (AWP_regS tOk rfl ?_); simp [hlt'])
            | (refine AWP_regS tOk rfl ?_; simp [hlt'])
            | (refine AWP_skip ?_; simp [hlt'])
            | (refine AWP_exit ?_; simp [hlt'])
            | (refine AWP_ret ?_; simp [hlt'])
            | refine AWP_block ?_
            | refine AWP_seq ?_)
          refine AWP_cond2 rfl (fun h2 => ?_) (fun h2 => ?_)
          · have hnd : isD t[j] = false := by rw [Bool.eq_false_iff]; intro hd; have := (isD_iff t[j]).1 hd; simp at h2; omega
            repeat (first
              | (refine AWP_seq (AWP_regS tOk rfl ?_); simp)
              | (refine AWP_regS tOk rfl ?_; simp)
              | (refine AWP_skip ?_; simp)
              | (refine AWP_exit ?_; simp)
              | (refine AWP_ret ?_; simp)
              | refine AWP_block ?_
              | refine AWP_seq ?_)
            rw [ite_f (by rw [Bool.eq_false_iff]; intro hd; rw [hall hd] at hnd; cases hnd)] at hR
            subst hR
            exact ⟨rfl, rfl⟩
          · have hd : 48 ≤ t[j].toNat ∧ t[j].toNat ≤ 57 := by simp at h2; omega
            have hdj : isD t[j] = true := (isD_iff t[j]).2 hd
            have hw : IntKind.i64.wrap ((j : Int) + 1) = j + 1 := wrap_i64 _ (by omega) (by omega)
            have hu : IntKind.u8.wrap ((t[j].toNat : Int) - 48) = (t[j].toNat : Int) - 48 := by rw [IntKind.wrap_u8]; omega
            have e1 : IntKind.i64.wrap (10 * satV (t.take j)) = 10 * satV (t.take j) := wrap_i64 _ (by omega) (by omega)
            have e2 : IntKind.i64.wrap ((t[j].toNat : Int) - 48) = (t[j].toNat : Int) - 48 := wrap_i64 _ (by omega) (by omega)
            have e3 : IntKind.i64.wrap (10 * satV (t.take j) + ((t[j].toNat : Int) - 48)) = 10 * satV (t.take j) + ((t[j].toNat : Int) - 48) := wrap_i64 _ (by omega) (by omega)
            have hst : satV (t.take (j + 1)) = if 1099511627777 < 10 * satV (t.take j) + ((t[j].toNat : Int) - 48) then 1099511627777 else 10 * satV (t.take j) + ((t[j].toNat : Int) - 48) := by
              rw [List.take_succ_eq_append_getElem hlt', satV_snoc, satS, dstep, Int.mul_comm]
            repeat (first
              | (refine AWP_seq (AWP_regS tOk rfl ?_); simp [hlt', hu, e1, e2, e3, hw])
              | (refine AWP_regS tOk rfl ?_; simp [hlt', hu, e1, e2, e3, hw])
              | (refine AWP_skip ?_; simp [hlt', hu, e1, e2, e3, hw])
              | (refine AWP_exit ?_; simp [hlt', hu, e1, e2, e3, hw])
              | (refine AWP_ret ?_; simp [hlt', hu, e1, e2, e3, hw])
              | refine AWP_block ?_
              | refine AWP_seq ?_)
            refine ALoop_end [] (ih hlt' (by rw [hI2]; exact hdj)) rfl (by simp) ?_ (by simp) (by simp)
            rw [hst]
            simp
        · have hge' : j = t.length := by simp at hge; omega
          subst hge'
          rw [List.take_length] at hI ⊢
          rw [ite_t hI] at hR
          have hsr := satV_rng t hI
          subst hR
          repeat (first
            | (refine AWP_seq (AWP_regS tOk rfl ?_); simp)
            | (refine AWP_regS tOk rfl ?_; simp)
            | (refine AWP_skip ?_; simp)
            | (refine AWP_exit ?_; simp)
            | (refine AWP_ret ?_; simp)
            | refine AWP_block ?_
            | refine AWP_seq ?_)
          refine AWP_cond rfl ?_
          repeat (first
            | (refine AWP_seq (AWP_regS tOk rfl ?_); simp)
            | (refine AWP_regS tOk rfl ?_; simp)
            | (refine AWP_skip ?_; simp)
            | (refine AWP_exit ?_; simp)
            | (refine AWP_ret ?_; simp)
            | refine AWP_block ?_
            | refine AWP_seq ?_)
          have hwn : IntKind.i64.wrap (-satV t) = -satV t := wrap_i64 _ (by omega) (by omega)
          simp [rNumV, hwn]
    · rw [ite_f h] at hR
      rw [h] at hR
      have hz : (((s.length : Int) + 1) == 0) = false := by simp; omega
      have h1l : decide ((1 : Int) < (s.length : Int) + 1) = decide (0 < s.length) := by rw [Bool.eq_iff_iff]; simp; omega
      have hb0 : rNumB (c0 :: s) false = (!(((c0.toNat : Int) == 48) && (decide (0 < s.length) || false)) && (c0 :: s).all isD) := rfl
      rw [hb0] at hR
      repeat (first
        | (refine AWP_seq (AWP_regS tOk rfl ?_); simp [hz, h1l, h])
        | (refine AWP_regS tOk rfl ?_; simp [hz, h1l, h])
        | (refine AWP_skip ?_; simp [hz, h1l, h])
        | (refine AWP_exit ?_; simp [hz, h1l, h])
        | (refine AWP_ret ?_; simp [hz, h1l, h])
        | refine AWP_block ?_
        | refine AWP_seq ?_)
      refine AWP_cond2 rfl (fun h1 => ?_) (fun h1 => ?_)
      · repeat (first
          | (refine AWP_seq (AWP_regS tOk rfl ?_); simp)
          | (refine AWP_regS tOk rfl ?_; simp)
          | (refine AWP_skip ?_; simp)
          | (refine AWP_exit ?_; simp)
          | (refine AWP_ret ?_; simp)
          | refine AWP_block ?_
          | refine AWP_seq ?_)
        rw [ite_f (by revert h1; cases ((c0.toNat : Int) == 48) <;> cases (decide (0 < s.length)) <;> simp)] at hR
        subst hR
        exact ⟨rfl, rfl⟩
      rw [show (((c0.toNat : Int) == 48) && (decide (0 < s.length) || false)) = false by revert h1; cases ((c0.toNat : Int) == 48) <;> cases (decide (0 < s.length)) <;> simp] at hR
      simp only [Bool.not_false, Bool.true_and] at hR
      generalize hcc : c0 :: s = t at *
      have htl' : t.length = s.length + 1 := by rw [← hcc]; rfl
      have htl2 : t.length ≤ 1000001 := by first | omega | (simp at hs; omega)
      repeat (first
        | (refine AWP_seq (AWP_regS tOk rfl ?_); simp)
        | (refine AWP_regS tOk rfl ?_; simp)
        | (refine AWP_skip ?_; simp)
        | (refine AWP_exit ?_; simp)
        | (refine AWP_ret ?_; simp)
        | refine AWP_block ?_
        | refine AWP_seq ?_)
      refine AWP_countI t.length (fun j => (t.take j).all isD = true) (fun j => [(0, .str t), (4, .bool false), (5, .i (satV (t.take j))), (6, .i j)]) (fun _ => []) rfl (by simp) (by simp [satV]) (by simp) (by simp) (by simp) ?_
      intro j hj hI ih
      repeat (first
        | (refine AWP_seq (AWP_regS tOk rfl ?_); simp)
        | (refine AWP_regS tOk rfl ?_; simp)
        | (refine AWP_skip ?_; simp)
        | (refine AWP_exit ?_; simp)
        | (refine AWP_ret ?_; simp)
        | refine AWP_block ?_
        | refine AWP_seq ?_)
      refine AWP_cond2 rfl (fun hlt => ?_) (fun hge => ?_)
      · have hlt' : j < t.length := by simpa using hlt
        have hsr := satV_rng (t.take j) hI
        have hI2 : (t.take (j + 1)).all isD = isD t[j] := by rw [List.take_succ_eq_append_getElem hlt', List.all_append, hI]; simp
        have hall : t.all isD = true → isD t[j] = true := fun h => List.all_eq_true.1 h _ (List.getElem_mem hlt')
        repeat (first
          | (refine AWP_seq (AWP_regS tOk rfl ?_); simp [hlt'])
          | (refine AWP_regS tOk rfl ?_; simp [hlt'])
          | (refine AWP_skip ?_; simp [hlt'])
          | (refine AWP_exit ?_; simp [hlt'])
          | (refine AWP_ret ?_; simp [hlt'])
          | refine AWP_block ?_
          | refine AWP_seq ?_)
        refine AWP_cond2 rfl (fun h2 => ?_) (fun h2 => ?_)
        · have hnd : isD t[j] = false := by rw [Bool.eq_false_iff]; intro hd; have := (isD_iff t[j]).1 hd; simp at h2; omega
          repeat (first
            | (refine AWP_seq (AWP_regS tOk rfl ?_); simp)
            | (refine AWP_regS tOk rfl ?_; simp)
            | (refine AWP_skip ?_; simp)
            | (refine AWP_exit ?_; simp)
            | (refine AWP_ret ?_; simp)
            | refine AWP_block ?_
            | refine AWP_seq ?_)
          rw [ite_f (by rw [Bool.eq_false_iff]; intro hd; rw [hall hd] at hnd; cases hnd)] at hR
          subst hR
          exact ⟨rfl, rfl⟩
        · have hd : 48 ≤ t[j].toNat ∧ t[j].toNat ≤ 57 := by simp at h2; omega
          have hdj : isD t[j] = true := (isD_iff t[j]).2 hd
          have hw : IntKind.i64.wrap ((j : Int) + 1) = j + 1 := wrap_i64 _ (by omega) (by omega)
          have hu : IntKind.u8.wrap ((t[j].toNat : Int) - 48) = (t[j].toNat : Int) - 48 := by rw [IntKind.wrap_u8]; omega
          have e1 : IntKind.i64.wrap (10 * satV (t.take j)) = 10 * satV (t.take j) := wrap_i64 _ (by omega) (by omega)
          have e2 : IntKind.i64.wrap ((t[j].toNat : Int) - 48) = (t[j].toNat : Int) - 48 := wrap_i64 _ (by omega) (by omega)
          have e3 : IntKind.i64.wrap (10 * satV (t.take j) + ((t[j].toNat : Int) - 48)) = 10 * satV (t.take j) + ((t[j].toNat : Int) - 48) := wrap_i64 _ (by omega) (by omega)
          have hst : satV (t.take (j + 1)) = if 1099511627777 < 10 * satV (t.take j) + ((t[j].toNat : Int) - 48) then 1099511627777 else 10 * satV (t.take j) + ((t[j].toNat : Int) - 48) := by
            rw [List.take_succ_eq_append_getElem hlt', satV_snoc, satS, dstep, Int.mul_comm]
          repeat (first
            | (refine AWP_seq (AWP_regS tOk rfl ?_); simp [hlt', hu, e1, e2, e3, hw])
            | (refine AWP_regS tOk rfl ?_; simp [hlt', hu, e1, e2, e3, hw])
            | (refine AWP_skip ?_; simp [hlt', hu, e1, e2, e3, hw])
            | (refine AWP_exit ?_; simp [hlt', hu, e1, e2, e3, hw])
            | (refine AWP_ret ?_; simp [hlt', hu, e1, e2, e3, hw])
            | refine AWP_block ?_
            | refine AWP_seq ?_)
          refine ALoop_end [] (ih hlt' (by rw [hI2]; exact hdj)) rfl (by simp) ?_ (by simp) (by simp)
          rw [hst]
          simp
      · have hge' : j = t.length := by simp at hge; omega
        subst hge'
        rw [List.take_length] at hI ⊢
        rw [ite_t hI] at hR
        have hsr := satV_rng t hI
        subst hR
        repeat (first
          | (refine AWP_seq (AWP_regS tOk rfl ?_); simp)
          | (refine AWP_regS tOk rfl ?_; simp)
          | (refine AWP_skip ?_; simp)
          | (refine AWP_exit ?_; simp)
          | (refine AWP_ret ?_; simp)
          | refine AWP_block ?_
          | refine AWP_seq ?_)
        refine AWP_cond rfl ?_
        repeat (first
          | (refine AWP_seq (AWP_regS tOk rfl ?_); simp)
          | (refine AWP_regS tOk rfl ?_; simp)
          | (refine AWP_skip ?_; simp)
          | (refine AWP_exit ?_; simp)
          | (refine AWP_ret ?_; simp)
          | refine AWP_block ?_
          | refine AWP_seq ?_)
        have hwn : IntKind.i64.wrap (-satV t) = -satV t := wrap_i64 _ (by omega) (by omega)
        simp [rNumV, hwn]
end Go.Abs
set_option maxRecDepth 100000
namespace Go.Abs
open Go Go.Proofs
set_option linter.unusedSimpArgs false
/-! The reference's reading of a string. -/
def unqG : Nat → List UInt8 → List UInt8 → Option (List UInt8 × List UInt8)
  | 0, _, _ => none
  | _ + 1, [], _ => none
  | n + 1, c :: r, out => if ((c.toNat : Int) == 34) = true then some (out, r) else if ((c.toNat : Int) == 92) = true then (match escR r with
      | none => none
      | some (b, r') => unqG n r' (out ++ [b])) else if printB c = true then unqG n r (out ++ [c]) else none
def gF (x : Option (List UInt8 × List UInt8)) : List UInt8 × Bool := match x with
  | none => ([], false)
  | some (o, r) => (o, r == [])
theorem unqF_G (n : Nat) (rest out : List UInt8) : unqF n rest out = gF (unqG n rest out) := by
  induction n generalizing rest out with
  | zero => rfl
  | succ n ih =>
    cases rest with
    | nil => rfl
    | cons c r =>
      rw [unqF, unqG]
      split
      · rename_i h
        have hc : c = 34 := by apply UInt8.toNat_inj.1; simp at h; show c.toNat = 34; omega
        subst hc
        rw [gF]
        congr 1
      · split
        · cases escR r with
          | none => rfl
          | some p => exact ih _ _
        · split
          · exact ih _ _
          · rfl
theorem unqG_nil (n : Nat) (out : List UInt8) : unqG n [] out = none := by cases n <;> rfl
def unqN (len : Nat) (x : Option (List UInt8 × List UInt8)) : List UInt8 × Int := match x with
  | none => ([], 0)
  | some (o, r) => (o, (len : Int) - r.length)
theorem cut2 (s : List UInt8) (i j : Nat) (a : UInt8) (h : s[i]? = some a) (hj : j = i + 1) : (s.take j).drop i = [a] := by
  have hl : i < s.length := (List.getElem?_eq_some_iff.1 h).1
  subst hj
  rw [drop_take_one s i hl]
  rw [List.getElem?_eq_getElem hl] at h
  cases h; rfl
attribute [local irreducible] hexI hexV printB
theorem dget (s l : List UInt8) (k m : Nat) (h : s.drop k = l) : s[k + m]? = l[m]? := by rw [← h, List.getElem?_drop]
theorem drop_succ2 {s r : List UInt8} {i : Nat} {a : UInt8} (h : s.drop (i + 1) = a :: r) : s.drop (i + 2) = r := by
  have := congrArg (List.drop 1) h
  rw [List.drop_drop] at this
  exact this
set_option maxHeartbeats 4000000 in
theorem pc_rUnquote (c0 : UInt8) (s0 : List UInt8) (hs : s0.length ≤ 1000000) (hq : ((c0.toNat : Int) == 34) = true) : PC Tryz.prog 18 [.str (c0 :: s0)] (fun r => r = .tup [.str (unqN (s0.length + 1) (unqG s0.length s0 [])).1, .i (unqN (s0.length + 1) (unqG s0.length s0 [])).2]) := by
  refine PC_body tOk Tryz.func18 rfl Tryz.results18 rfl (by simp [Tryz.ntmps18]) ?_
  rw [Tryz.ntmps18]
  simp only [argSlots]
  obtain ⟨RES, hres⟩ : ∃ RES, unqG s0.length s0 [] = RES := ⟨_, rfl⟩
  rw [hres]
  have hne : ((c0.toNat : Int) != 34) = false := by simpa using hq
  have hz : (((s0.length : Int) + 1) == 0) = false := by simp; omega
  repeat (first
    | (refine AWP_seq (AWP_regS tOk rfl ?_); simp [hq, hne, hz])
    | (refine AWP_regS tOk rfl ?_; simp [hq, hne, hz])
    | (refine AWP_skip ?_; simp [hq, hne, hz])
    | (refine AWP_exit ?_; simp [hq, hne, hz])
    | (refine AWP_ret ?_; simp [hq, hne, hz])
    | refine AWP_block ?_
    | refine AWP_seq ?_)
  refine AWP_cond rfl ?_
  repeat (first
    | (refine AWP_seq (AWP_regS tOk rfl ?_); simp)
    | (refine AWP_regS tOk rfl ?_; simp)
    | (refine AWP_skip ?_; simp)
    | (refine AWP_exit ?_; simp)
    | (refine AWP_ret ?_; simp)
    | refine AWP_block ?_
    | refine AWP_seq ?_)
  obtain ⟨s, hss⟩ : ∃ s, c0 :: s0 = s := ⟨_, rfl⟩
  have hsl : s.length = s0.length + 1 := by rw [← hss]; rfl
  have hs0 : s.drop 1 = s0 := by rw [← hss]; rfl
  rw [hss, ← hsl]
  refine AWP_loop (ALoop_keep (sl' := [(0, .str s), (4, .str []), (5, .i 1)]) ?_ (by simp))
  refine ALoop_wf (F := fun (u : Nat × List UInt8) => ⟨[(0, .str s), (4, .str u.2), (5, .i u.1)], []⟩) (fun u => (1 ≤ u.1 ∧ u.1 ≤ s.length) ∧ u.2.length ≤ u.1 ∧ ∃ n, s.length ≤ n + u.1 ∧ unqG n (s.drop u.1) u.2 = RES) (fun u => s.length - u.1) ?_ (1, []) ⟨by simp; omega, by simp, s0.length, by simp; omega, by simp only [hs0]; exact hres⟩
  rintro ⟨i, out⟩ ⟨⟨hi0, hi1⟩, ho, n, hn, hI⟩ ih
  simp only at hi0 hi1 ho hn hI ih ⊢
  repeat (first
    | (refine AWP_seq (AWP_regS tOk rfl ?_); simp)
    | (refine AWP_regS tOk rfl ?_; simp)
    | (refine AWP_skip ?_; simp)
    | (refine AWP_exit ?_; simp)
    | (refine AWP_ret ?_; simp)
    | refine AWP_block ?_
    | refine AWP_seq ?_)
  refine AWP_cond2 rfl (fun hlt => ?_) (fun hge => ?_)
  · have hlt' : i < s.length := by simpa using hlt
    obtain ⟨c, hc⟩ : ∃ c, s[i] = c := ⟨_, rfl⟩
    have hcq : s[i]? = some c := by rw [List.getElem?_eq_getElem hlt', hc]
    obtain ⟨r, hr⟩ : ∃ r, s.drop (i + 1) = r := ⟨_, rfl⟩
    have hrl : r.length = s.length - (i + 1) := by rw [← hr]; simp
    rw [drop_get hlt', hc, hr] at hI
    obtain ⟨n, rfl⟩ : ∃ k, n = k + 1 := ⟨n - 1, by omega⟩
    rw [unqG] at hI
    have hw1 : IntKind.i64.wrap ((i : Int) + 1) = i + 1 := wrap_i64 _ (by omega) (by omega)
    have hw2 : IntKind.i64.wrap ((i : Int) + 2) = i + 2 := wrap_i64 _ (by omega) (by omega)
    have hw3 : IntKind.i64.wrap ((i : Int) + 3) = i + 3 := wrap_i64 _ (by omega) (by omega)
    have hw4 : IntKind.i64.wrap ((i : Int) + 4) = i + 4 := wrap_i64 _ (by omega) (by omega)
    have hp1 : (0 : Int) ≤ (i : Int) + 1 := by omega
    have hp2 : (0 : Int) ≤ (i : Int) + 2 := by omega
    have hp3 : (0 : Int) ≤ (i : Int) + 3 := by omega
    have ht1 : ((i : Int) + 1).toNat = i + 1 := by omega
    have ht2 : ((i : Int) + 2).toNat = i + 2 := by omega
    have ht3 : ((i : Int) + 3).toNat = i + 3 := by omega
    have hol : out.length + 1 ≤ 9223372036854775807 := by omega
    repeat (first
      | (refine AWP_seq (AWP_regS tOk rfl ?_); simp [hlt', hc])
      | (refine AWP_regS tOk rfl ?_; simp [hlt', hc])
      | (refine AWP_skip ?_; simp [hlt', hc])
      | (refine AWP_exit ?_; simp [hlt', hc])
      | (refine AWP_ret ?_; simp [hlt', hc])
      | refine AWP_block ?_
      | refine AWP_seq ?_)
    refine AWP_cond2 rfl (fun h1 => ?_) (fun h1 => ?_)
    · rw [ite_t h1] at hI
      repeat (first
        | (refine AWP_seq (AWP_regS tOk rfl ?_); simp [hw1])
        | (refine AWP_regS tOk rfl ?_; simp [hw1])
        | (refine AWP_skip ?_; simp [hw1])
        | (refine AWP_exit ?_; simp [hw1])
        | (refine AWP_ret ?_; simp [hw1])
        | refine AWP_block ?_
        | refine AWP_seq ?_)
      subst hI
      simp [unqN]
      omega
    rw [ite_f h1] at hI
    repeat (first
      | (refine AWP_seq (AWP_regS tOk rfl ?_); simp)
      | (refine AWP_regS tOk rfl ?_; simp)
      | (refine AWP_skip ?_; simp)
      | (refine AWP_exit ?_; simp)
      | (refine AWP_ret ?_; simp)
      | refine AWP_block ?_
      | refine AWP_seq ?_)
    refine AWP_cond2 rfl (fun h2 => ?_) (fun h2 => ?_)
    · have hc92 : ((c.toNat : Int) == 92) = false := by simp at h2 ⊢; omega
      have hpb : printB c = false := by unfold printB; simp at h2 ⊢; omega
      rw [ite_f hc92, if_neg (by rw [hpb]; decide)] at hI
      repeat (first
        | (refine AWP_seq (AWP_regS tOk rfl ?_); simp)
        | (refine AWP_regS tOk rfl ?_; simp)
        | (refine AWP_skip ?_; simp)
        | (refine AWP_exit ?_; simp)
        | (refine AWP_ret ?_; simp)
        | refine AWP_block ?_
        | refine AWP_seq ?_)
      subst hI
      exact ⟨rfl, rfl⟩
    have hpb : printB c = true := by unfold printB; simp at h2 ⊢; omega
    repeat (first
      | (refine AWP_seq (AWP_regS tOk rfl ?_); simp)
      | (refine AWP_regS tOk rfl ?_; simp)
      | (refine AWP_skip ?_; simp)
      | (refine AWP_exit ?_; simp)
      | (refine AWP_ret ?_; simp)
      | refine AWP_block ?_
      | refine AWP_seq ?_)
    refine AWP_cond2 rfl (fun h3 => ?_) (fun h3 => ?_)
    · have hc92 : ((c.toNat : Int) == 92) = false := by simpa using h3
      rw [ite_f hc92, if_pos hpb] at hI
      have hcut := cut2 s i (i + 1) c hcq rfl
      have hle : (i : Int) + 1 ≤ s.length := by omega
      repeat (first
        | (refine AWP_seq (AWP_regS tOk rfl ?_); simp [hw1, hp1, ht1, hcut, hle, hol])
        | (refine AWP_regS tOk rfl ?_; simp [hw1, hp1, ht1, hcut, hle, hol])
        | (refine AWP_skip ?_; simp [hw1, hp1, ht1, hcut, hle, hol])
        | (refine AWP_exit ?_; simp [hw1, hp1, ht1, hcut, hle, hol])
        | (refine AWP_ret ?_; simp [hw1, hp1, ht1, hcut, hle, hol])
        | refine AWP_block ?_
        | refine AWP_seq ?_)
      refine ALoop_end [] (ih (i + 1, out ++ [c]) ⟨by simp; omega, by simp; omega, n, by simp; omega, by simp only [hr]; exact hI⟩ (by simp; omega)) rfl (by simp) ?_ (by simp) (by simp)
      simp
    have hc92 : ((c.toNat : Int) == 92) = true := by simpa using h3
    rw [ite_t hc92] at hI
    have n1 : s[i + 1]? = r[0]? := dget s r (i + 1) 0 hr
    have n2 : s[i + 2]? = r[1]? := dget s r (i + 1) 1 hr
    have n3 : s[i + 3]? = r[2]? := dget s r (i + 1) 2 hr
    rcases r with _ | ⟨a, r⟩
    · have hb1 : ¬ (i : Int) + 1 < s.length := by simp at hrl; omega
      have hb3 : ¬ (i : Int) + 3 < s.length := by simp at hrl; omega
      simp only [List.getElem?_nil] at n1 n2 n3
      repeat (first
        | (refine AWP_seq (AWP_regS tOk rfl ?_); simp [hw1, hb1, hp1, ht1, n1])
        | (refine AWP_regS tOk rfl ?_; simp [hw1, hb1, hp1, ht1, n1])
        | (refine AWP_skip ?_; simp [hw1, hb1, hp1, ht1, n1])
        | (refine AWP_exit ?_; simp [hw1, hb1, hp1, ht1, n1])
        | (refine AWP_ret ?_; simp [hw1, hb1, hp1, ht1, n1])
        | refine AWP_block ?_
        | refine AWP_seq ?_)
      refine AWP_cond rfl ?_
      repeat (first
        | (refine AWP_seq (AWP_regS tOk rfl ?_); simp [hw1, hb1, hp1, ht1, n1])
        | (refine AWP_regS tOk rfl ?_; simp [hw1, hb1, hp1, ht1, n1])
        | (refine AWP_skip ?_; simp [hw1, hb1, hp1, ht1, n1])
        | (refine AWP_exit ?_; simp [hw1, hb1, hp1, ht1, n1])
        | (refine AWP_ret ?_; simp [hw1, hb1, hp1, ht1, n1])
        | refine AWP_block ?_
        | refine AWP_seq ?_)
      refine AWP_cond rfl ?_
      have hI : none = RES := hI
      repeat (first
        | (refine AWP_seq (AWP_regS tOk rfl ?_); simp [hw1, hw2, hw3, hb3, hp1, ht1, n1, hp2, ht2, n2, hp3, ht3, n3, hw1])
        | (refine AWP_regS tOk rfl ?_; simp [hw1, hw2, hw3, hb3, hp1, ht1, n1, hp2, ht2, n2, hp3, ht3, n3, hw1])
        | (refine AWP_skip ?_; simp [hw1, hw2, hw3, hb3, hp1, ht1, n1, hp2, ht2, n2, hp3, ht3, n3, hw1])
        | (refine AWP_exit ?_; simp [hw1, hw2, hw3, hb3, hp1, ht1, n1, hp2, ht2, n2, hp3, ht3, n3, hw1])
        | (refine AWP_ret ?_; simp [hw1, hw2, hw3, hb3, hp1, ht1, n1, hp2, ht2, n2, hp3, ht3, n3, hw1])
        | refine AWP_block ?_
        | refine AWP_seq ?_)
      refine AStep_skip rfl rfl ?_
      simp [hw3, hp3, ht3, n3]
      refine AStep_skip rfl rfl ?_
      simp
      refine AWP_cond rfl ?_
      repeat (first
        | (refine AWP_seq (AWP_regS tOk rfl ?_); simp)
        | (refine AWP_regS tOk rfl ?_; simp)
        | (refine AWP_skip ?_; simp)
        | (refine AWP_exit ?_; simp)
        | (refine AWP_ret ?_; simp)
        | refine AWP_block ?_
        | refine AWP_seq ?_)
      subst hI
      exact ⟨rfl, rfl⟩
    · have hl1 : (i : Int) + 1 < s.length := by simp at hrl; omega
      have hl2 : (i : Int) + 2 ≤ s.length := by simp at hrl; omega
      have hcut := cut2 s (i + 1) (i + 2) a (by rw [n1]; rfl) rfl
      simp only [List.getElem?_cons_zero, List.getElem?_cons_succ] at n1 n2 n3
      repeat (first
        | (refine AWP_seq (AWP_regS tOk rfl ?_); simp [hw1, hl1, hp1, ht1, n1])
        | (refine AWP_regS tOk rfl ?_; simp [hw1, hl1, hp1, ht1, n1])
        | (refine AWP_skip ?_; simp [hw1, hl1, hp1, ht1, n1])
        | (refine AWP_exit ?_; simp [hw1, hl1, hp1, ht1, n1])
        | (refine AWP_ret ?_; simp [hw1, hl1, hp1, ht1, n1])
        | refine AWP_block ?_
        | refine AWP_seq ?_)
      refine AWP_cond2 rfl (fun h4 => ?_) (fun h4 => ?_)
      · have he : escR (a :: r) = some (a, r) := by rw [escR, ite_t (by simpa using h4)]
        rw [he] at hI
        repeat (first
          | (refine AWP_seq (AWP_regS tOk rfl ?_); simp [hw1, hw2, hp1, ht1, hp2, ht2, hcut, hl2, hol])
          | (refine AWP_regS tOk rfl ?_; simp [hw1, hw2, hp1, ht1, hp2, ht2, hcut, hl2, hol])
          | (refine AWP_skip ?_; simp [hw1, hw2, hp1, ht1, hp2, ht2, hcut, hl2, hol])
          | (refine AWP_exit ?_; simp [hw1, hw2, hp1, ht1, hp2, ht2, hcut, hl2, hol])
          | (refine AWP_ret ?_; simp [hw1, hw2, hp1, ht1, hp2, ht2, hcut, hl2, hol])
          | refine AWP_block ?_
          | refine AWP_seq ?_)
        refine ALoop_end [] (ih (i + 2, out ++ [a]) ⟨by simp; omega, by simp; omega, n, by simp; omega, by simp only [drop_succ2 hr]; exact hI⟩ (by simp; omega)) rfl (by simp) ?_ (by simp) (by simp)
        simp
      have h4' : ((a.toNat : Int) == 34 || (a.toNat : Int) == 92) = false := by simpa using h4
      repeat (first
        | (refine AWP_seq (AWP_regS tOk rfl ?_); simp [hw1, hl1, hp1, ht1, n1])
        | (refine AWP_regS tOk rfl ?_; simp [hw1, hl1, hp1, ht1, n1])
        | (refine AWP_skip ?_; simp [hw1, hl1, hp1, ht1, n1])
        | (refine AWP_exit ?_; simp [hw1, hl1, hp1, ht1, n1])
        | (refine AWP_ret ?_; simp [hw1, hl1, hp1, ht1, n1])
        | refine AWP_block ?_
        | refine AWP_seq ?_)
      refine AWP_cond2 rfl (fun h5 => ?_) (fun h5 => ?_)
      · have he : escR (a :: r) = some (10, r) := by rw [escR, ite_f h4', ite_t (by simpa using h5)]
        rw [he] at hI
        repeat (first
          | (refine AWP_seq (AWP_regS tOk rfl ?_); simp [hw2, hol])
          | (refine AWP_regS tOk rfl ?_; simp [hw2, hol])
          | (refine AWP_skip ?_; simp [hw2, hol])
          | (refine AWP_exit ?_; simp [hw2, hol])
          | (refine AWP_ret ?_; simp [hw2, hol])
          | refine AWP_block ?_
          | refine AWP_seq ?_)
        refine ALoop_end [] (ih (i + 2, out ++ [10]) ⟨by simp; omega, by simp; omega, n, by simp; omega, by simp only [drop_succ2 hr]; exact hI⟩ (by simp; omega)) rfl (by simp) ?_ (by simp) (by simp)
        simp
      have h5' : ((a.toNat : Int) == 110) = false := by simpa using h5
      by_cases h6 : ((a.toNat : Int) == 120) = true
      · have he : escR (a :: r) = escX r := by rw [escR, ite_f h4', ite_f h5', ite_t h6]
        rw [he] at hI
        rcases r with _ | ⟨b, _ | ⟨d, r⟩⟩
        · have hb3 : ¬ (i : Int) + 3 < s.length := by simp at hrl; omega
          simp only [List.getElem?_nil] at n2 n3
          have hI : none = RES := hI
          repeat (first
            | (refine AWP_seq (AWP_regS tOk rfl ?_); simp [hw1, hw2, hw3, hb3, hp1, ht1, n1, hp2, ht2, n2, hp3, ht3, n3, h6])
            | (refine AWP_regS tOk rfl ?_; simp [hw1, hw2, hw3, hb3, hp1, ht1, n1, hp2, ht2, n2, hp3, ht3, n3, h6])
            | (refine AWP_skip ?_; simp [hw1, hw2, hw3, hb3, hp1, ht1, n1, hp2, ht2, n2, hp3, ht3, n3, h6])
            | (refine AWP_exit ?_; simp [hw1, hw2, hw3, hb3, hp1, ht1, n1, hp2, ht2, n2, hp3, ht3, n3, h6])
            | (refine AWP_ret ?_; simp [hw1, hw2, hw3, hb3, hp1, ht1, n1, hp2, ht2, n2, hp3, ht3, n3, h6])
            | refine AWP_block ?_
            | refine AWP_seq ?_)
          refine AStep_skip rfl rfl ?_
          simp [hw3, hp3, ht3, n3]
          refine AStep_skip rfl rfl ?_
          simp
          refine AWP_cond rfl ?_
          repeat (first
            | (refine AWP_seq (AWP_regS tOk rfl ?_); simp)
            | (refine AWP_regS tOk rfl ?_; simp)
            | (refine AWP_skip ?_; simp)
            | (refine AWP_exit ?_; simp)
            | (refine AWP_ret ?_; simp)
            | refine AWP_block ?_
            | refine AWP_seq ?_)
          subst hI
          exact ⟨rfl, rfl⟩
        · have hb3 : ¬ (i : Int) + 3 < s.length := by simp at hrl; omega
          simp only [List.getElem?_nil, List.getElem?_cons_zero, List.getElem?_cons_succ] at n2 n3
          have hI : none = RES := hI
          repeat (first
            | (refine AWP_seq (AWP_regS tOk rfl ?_); simp [hw1, hw2, hw3, hb3, hp1, ht1, n1, hp2, ht2, n2, hp3, ht3, n3, h6])
            | (refine AWP_regS tOk rfl ?_; simp [hw1, hw2, hw3, hb3, hp1, ht1, n1, hp2, ht2, n2, hp3, ht3, n3, h6])
            | (refine AWP_skip ?_; simp [hw1, hw2, hw3, hb3, hp1, ht1, n1, hp2, ht2, n2, hp3, ht3, n3, h6])
            | (refine AWP_exit ?_; simp [hw1, hw2, hw3, hb3, hp1, ht1, n1, hp2, ht2, n2, hp3, ht3, n3, h6])
            | (refine AWP_ret ?_; simp [hw1, hw2, hw3, hb3, hp1, ht1, n1, hp2, ht2, n2, hp3, ht3, n3, h6])
            | refine AWP_block ?_
            | refine AWP_seq ?_)
          refine AStep_skip rfl rfl ?_
          simp [hw3, hp3, ht3, n3]
          refine AStep_skip rfl rfl ?_
          simp
          refine AWP_cond rfl ?_
          repeat (first
            | (refine AWP_seq (AWP_regS tOk rfl ?_); simp)
            | (refine AWP_regS tOk rfl ?_; simp)
            | (refine AWP_skip ?_; simp)
            | (refine AWP_exit ?_; simp)
            | (refine AWP_ret ?_; simp)
            | refine AWP_block ?_
            | refine AWP_seq ?_)
          subst hI
          exact ⟨rfl, rfl⟩
        · have hb3 : (i : Int) + 3 < s.length := by simp at hrl; omega
          have hl4 : (i : Int) + 4 ≤ s.length := by simp at hrl; omega
          simp only [List.getElem?_cons_zero, List.getElem?_cons_succ] at n2 n3
          have bb := hexI_bound b
          have bd := hexI_bound d
          rw [escX] at hI
          repeat (first
            | (refine AWP_seq (AWP_regS tOk rfl ?_); simp [hw1, hw2, hw3, hb3, hp1, ht1, n1, hp2, ht2, n2, hp3, ht3, n3, h6])
            | (refine AWP_regS tOk rfl ?_; simp [hw1, hw2, hw3, hb3, hp1, ht1, n1, hp2, ht2, n2, hp3, ht3, n3, h6])
            | (refine AWP_skip ?_; simp [hw1, hw2, hw3, hb3, hp1, ht1, n1, hp2, ht2, n2, hp3, ht3, n3, h6])
            | (refine AWP_exit ?_; simp [hw1, hw2, hw3, hb3, hp1, ht1, n1, hp2, ht2, n2, hp3, ht3, n3, h6])
            | (refine AWP_ret ?_; simp [hw1, hw2, hw3, hb3, hp1, ht1, n1, hp2, ht2, n2, hp3, ht3, n3, h6])
            | refine AWP_block ?_
            | refine AWP_seq ?_)
          refine AStep_PC rfl rfl (by simp) (pc_rDigit' b) rfl ?_
          rintro _ rfl
          simp [hw3, hp3, ht3, n3]
          by_cases h7 : 0 ≤ hexI b
          · simp [h7, hw3, hp3, ht3, n3]
            refine AStep_PC rfl rfl (by simp) (pc_rDigit' d) rfl ?_
            rintro _ rfl
            simp
            by_cases h8 : 0 ≤ hexI d
            · rw [ite_f (by simp; omega)] at hI
              have e1 : IntKind.i64.wrap (16 * hexI b) = 16 * hexI b := wrap_i64 _ (by omega) (by omega)
              have e2 : IntKind.i64.wrap (16 * hexI b + hexI d) = 16 * hexI b + hexI d := wrap_i64 _ (by omega) (by omega)
              have e3 : IntKind.u8.wrap (16 * hexI b + hexI d) = (hexV b d).toNat := by rw [hexV_int b d h7 h8, IntKind.wrap_u8]; omega
              simp [h8]
              refine AWP_cond rfl ?_
              repeat (first
                | (refine AWP_seq (AWP_regS tOk rfl ?_); simp)
                | (refine AWP_regS tOk rfl ?_; simp)
                | (refine AWP_skip ?_; simp)
                | (refine AWP_exit ?_; simp)
                | (refine AWP_ret ?_; simp)
                | refine AWP_block ?_
                | refine AWP_seq ?_)
              refine AWP_drawT tOk mixed [] (.val 0 (.val 1 (.val 2 (.val 3 (.val 4 (.val 7 (.val 8 (.val 9 (.val 10 (.one 5 (.val 6 (.one 11 (.val 12 (.one 13 (.one 14 (.one 15 (.val 16 (.val 17 (.done))))))))))))))))))) rfl (by kernel_rfl) ?_
              simp [hw2, hw3, hp2, ht2, n2, hp3, ht3, n3]
              refine AStep_PC rfl rfl (by simp) (pc_rDigit' b) rfl ?_
              rintro _ rfl
              simp [e1]
              refine AStep_PC rfl rfl (by simp) (pc_rDigit' d) rfl ?_
              rintro _ rfl
              simp [e2, e3]
              refine AStep_toStr tOk rfl rfl T53 rfl T5 rfl T9 rfl rfl (s := [hexV b d]) (by simp) rfl ?_
              simp [hol]
              repeat (first
                | (refine AWP_seq (AWP_regS tOk rfl ?_); simp [hw4])
                | (refine AWP_regS tOk rfl ?_; simp [hw4])
                | (refine AWP_skip ?_; simp [hw4])
                | (refine AWP_exit ?_; simp [hw4])
                | (refine AWP_ret ?_; simp [hw4])
                | refine AWP_block ?_
                | refine AWP_seq ?_)
              refine ALoop_end [.arr 5 1 [.int .u8 (hexV b d).toNat]] (ih (i + 4, out ++ [hexV b d]) ⟨by simp; omega, by simp; omega, n, by simp; omega, by simp only [drop_succ2 (drop_succ2 (drop_succ2 hr))]; exact hI⟩ (by simp; omega)) rfl (by simp) ?_ (by simp) (by simp)
              simp
            · rw [ite_t (by simp; omega)] at hI
              simp [h8]
              refine AWP_cond rfl ?_
              repeat (first
                | (refine AWP_seq (AWP_regS tOk rfl ?_); simp)
                | (refine AWP_regS tOk rfl ?_; simp)
                | (refine AWP_skip ?_; simp)
                | (refine AWP_exit ?_; simp)
                | (refine AWP_ret ?_; simp)
                | refine AWP_block ?_
                | refine AWP_seq ?_)
              subst hI
              exact ⟨rfl, rfl⟩
          · rw [ite_t (by simp; omega)] at hI
            simp [h7, hw3, hp3, ht3, n3]
            refine AStep_skip rfl rfl ?_
            simp
            refine AWP_cond rfl ?_
            repeat (first
              | (refine AWP_seq (AWP_regS tOk rfl ?_); simp)
              | (refine AWP_regS tOk rfl ?_; simp)
              | (refine AWP_skip ?_; simp)
              | (refine AWP_exit ?_; simp)
              | (refine AWP_ret ?_; simp)
              | refine AWP_block ?_
              | refine AWP_seq ?_)
            subst hI
            exact ⟨rfl, rfl⟩
      · have h6' : ((a.toNat : Int) == 120) = false := by simpa using h6
        have he : escR (a :: r) = none := by rw [escR, ite_f h4', ite_f h5', ite_f h6']
        rw [he] at hI
        have hI : none = RES := hI
        rcases r with _ | ⟨b, _ | ⟨d, r⟩⟩
        · have hb3 : ¬ (i : Int) + 3 < s.length := by simp at hrl; omega
          simp only [List.getElem?_nil] at n2 n3
          repeat (first
            | (refine AWP_seq (AWP_regS tOk rfl ?_); simp [hw1, hw2, hw3, hb3, hp1, ht1, n1, hp2, ht2, n2, hp3, ht3, n3, h6'])
            | (refine AWP_regS tOk rfl ?_; simp [hw1, hw2, hw3, hb3, hp1, ht1, n1, hp2, ht2, n2, hp3, ht3, n3, h6'])
            | (refine AWP_skip ?_; simp [hw1, hw2, hw3, hb3, hp1, ht1, n1, hp2, ht2, n2, hp3, ht3, n3, h6'])
            | (refine AWP_exit ?_; simp [hw1, hw2, hw3, hb3, hp1, ht1, n1, hp2, ht2, n2, hp3, ht3, n3, h6'])
            | (refine AWP_ret ?_; simp [hw1, hw2, hw3, hb3, hp1, ht1, n1, hp2, ht2, n2, hp3, ht3, n3, h6'])
            | refine AWP_block ?_
            | refine AWP_seq ?_)
          refine AStep_skip rfl rfl ?_
          simp [hw3, hp3, ht3, n3]
          refine AStep_skip rfl rfl ?_
          simp
          refine AWP_cond rfl ?_
          repeat (first
            | (refine AWP_seq (AWP_regS tOk rfl ?_); simp)
            | (refine AWP_regS tOk rfl ?_; simp)
            | (refine AWP_skip ?_; simp)
            | (refine AWP_exit ?_; simp)
            | (refine AWP_ret ?_; simp)
            | refine AWP_block ?_
            | refine AWP_seq ?_)
          subst hI
          exact ⟨rfl, rfl⟩
        · have hb3 : ¬ (i : Int) + 3 < s.length := by simp at hrl; omega
          simp only [List.getElem?_nil, List.getElem?_cons_zero, List.getElem?_cons_succ] at n2 n3
          repeat (first
            | (refine AWP_seq (AWP_regS tOk rfl ?_); simp [hw1, hw2, hw3, hb3, hp1, ht1, n1, hp2, ht2, n2, hp3, ht3, n3, h6'])
            | (refine AWP_regS tOk rfl ?_; simp [hw1, hw2, hw3, hb3, hp1, ht1, n1, hp2, ht2, n2, hp3, ht3, n3, h6'])
            | (refine AWP_skip ?_; simp [hw1, hw2, hw3, hb3, hp1, ht1, n1, hp2, ht2, n2, hp3, ht3, n3, h6'])
            | (refine AWP_exit ?_; simp [hw1, hw2, hw3, hb3, hp1, ht1, n1, hp2, ht2, n2, hp3, ht3, n3, h6'])
            | (refine AWP_ret ?_; simp [hw1, hw2, hw3, hb3, hp1, ht1, n1, hp2, ht2, n2, hp3, ht3, n3, h6'])
            | refine AWP_block ?_
            | refine AWP_seq ?_)
          refine AStep_skip rfl rfl ?_
          simp [hw3, hp3, ht3, n3]
          refine AStep_skip rfl rfl ?_
          simp
          refine AWP_cond rfl ?_
          repeat (first
            | (refine AWP_seq (AWP_regS tOk rfl ?_); simp)
            | (refine AWP_regS tOk rfl ?_; simp)
            | (refine AWP_skip ?_; simp)
            | (refine AWP_exit ?_; simp)
            | (refine AWP_ret ?_; simp)
            | refine AWP_block ?_
            | refine AWP_seq ?_)
          subst hI
          exact ⟨rfl, rfl⟩
        · have hb3 : (i : Int) + 3 < s.length := by simp at hrl; omega
          simp only [List.getElem?_cons_zero, List.getElem?_cons_succ] at n2 n3
          repeat (first
            | (refine AWP_seq (AWP_regS tOk rfl ?_); simp [hw1, hw2, hw3, hb3, hp1, ht1, n1, hp2, ht2, n2, hp3, ht3, n3, h6'])
            | (refine AWP_regS tOk rfl ?_; simp [hw1, hw2, hw3, hb3, hp1, ht1, n1, hp2, ht2, n2, hp3, ht3, n3, h6'])
            | (refine AWP_skip ?_; simp [hw1, hw2, hw3, hb3, hp1, ht1, n1, hp2, ht2, n2, hp3, ht3, n3, h6'])
            | (refine AWP_exit ?_; simp [hw1, hw2, hw3, hb3, hp1, ht1, n1, hp2, ht2, n2, hp3, ht3, n3, h6'])
            | (refine AWP_ret ?_; simp [hw1, hw2, hw3, hb3, hp1, ht1, n1, hp2, ht2, n2, hp3, ht3, n3, h6'])
            | refine AWP_block ?_
            | refine AWP_seq ?_)
          refine AStep_skip rfl rfl ?_
          simp [hw3, hp3, ht3, n3]
          refine AStep_skip rfl rfl ?_
          simp
          refine AWP_cond rfl ?_
          repeat (first
            | (refine AWP_seq (AWP_regS tOk rfl ?_); simp)
            | (refine AWP_regS tOk rfl ?_; simp)
            | (refine AWP_skip ?_; simp)
            | (refine AWP_exit ?_; simp)
            | (refine AWP_ret ?_; simp)
            | refine AWP_block ?_
            | refine AWP_seq ?_)
          subst hI
          exact ⟨rfl, rfl⟩
  · have hge' : i = s.length := by simp at hge; omega
    have hdn : s.drop i = [] := by rw [hge', List.drop_length]
    rw [hdn, unqG_nil] at hI
    subst hI
    repeat (first
      | (refine AWP_seq (AWP_regS tOk rfl ?_); simp)
      | (refine AWP_regS tOk rfl ?_; simp)
      | (refine AWP_skip ?_; simp)
      | (refine AWP_exit ?_; simp)
      | (refine AWP_ret ?_; simp)
      | refine AWP_block ?_
      | refine AWP_seq ?_)
    exact ⟨rfl, rfl⟩
end Go.Abs
set_option maxRecDepth 100000
namespace Go.Abs
open Go Go.Proofs
set_option linter.unusedSimpArgs false
theorem satV_min (t : List UInt8) (hd : t.all isD = true) : satV t = min (dval t) 1099511627777 ∧ 0 ≤ dval t := by
  have key : ∀ (k : Nat) (t : List UInt8), t.length = k → t.all isD = true → satV t = min (dval t) 1099511627777 ∧ 0 ≤ dval t := by
    intro k
    induction k with
    | zero => intro t ht _; have := List.eq_nil_of_length_eq_zero ht; subst this; exact ⟨rfl, Int.le_refl _⟩
    | succ k ih =>
      intro t ht hd
      rcases List.eq_nil_or_concat t with rfl | ⟨u, c, rfl⟩
      · simp at ht
      · rw [List.concat_eq_append] at *
        rw [List.all_append, Bool.and_eq_true] at hd
        obtain ⟨h1, h2⟩ := ih u (by simpa using ht) hd.1
        have hc := (isD_iff c).1 (by simpa using hd.2)
        rw [satV_snoc, dval_snoc, satS, h1]
        unfold dstep
        refine ⟨?_, by omega⟩
        split <;> omega
  exact key t.length t rfl hd
theorem dval_ge (c : UInt8) (hc : 49 ≤ c.toNat) : ∀ (k : Nat) (r : List UInt8), r.length = k → r.all isD = true → (10 : Int) ^ k ≤ dval (c :: r) := fun k => by
  induction k with
  | zero =>
    intro r hr _
    have := List.eq_nil_of_length_eq_zero hr; subst this
    show (1 : Int) ≤ 0 * 10 + ((c.toNat : Int) - 48)
    omega
  | succ k ih =>
    intro r hr hd
    rcases List.eq_nil_or_concat r with rfl | ⟨u, d, rfl⟩
    · simp at hr
    · rw [List.concat_eq_append] at *
      rw [List.all_append, Bool.and_eq_true] at hd
      have h1 := ih u (by simpa using hr) hd.1
      have hdd := (isD_iff d).1 (by simpa using hd.2)
      rw [← List.cons_append, dval_snoc, dstep, Int.pow_succ]
      omega
theorem isNeg_trim (s : List UInt8) : trimPre s [45] = if isNeg s = true then s.drop 1 else s := by
  rcases s with _ | ⟨c, r⟩
  · rfl
  · by_cases h : c = 45
    · subst h; rw [trimPre_minus]; rfl
    · have hn : isNeg (c :: r) = false := by
        simp only [isNeg, beq_eq_false_iff_ne, ne_eq]
        intro e
        exact h (UInt8.toNat_inj.1 (by show c.toNat = 45; omega))
      rw [hn, if_neg (by decide)]
      unfold trimPre hasPre
      rw [if_neg]
      simp [List.isPrefixOf, Ne.symm h]
theorem isNeg_cons {s : List UInt8} (h : isNeg s = true) : ∃ r, s = 45 :: r := by
  rcases s with _ | ⟨c, r⟩
  · cases h
  · have hc : c = 45 := by apply UInt8.toNat_inj.1; simp [isNeg] at h; show c.toNat = 45; omega
    exact ⟨r, by rw [hc]⟩
theorem numB_eq (s t : List UInt8) (ht : t = if isNeg s = true then s.drop 1 else s) : intB t s = rNumB t (isNeg s) := by
  rcases t with _ | ⟨c, r⟩
  · rfl
  · have hs48 : ((c.toNat : Int) == 48) = true → (s == [48]) = !(decide (0 < r.length) || isNeg s) := by
      intro hc
      have hc48 : c = 48 := by apply UInt8.toNat_inj.1; simp at hc; show c.toNat = 48; omega
      cases hn : isNeg s with
      | true =>
        obtain ⟨u, rfl⟩ := isNeg_cons hn
        simp
      | false =>
        rw [hn, if_neg (by decide)] at ht
        rw [← ht, hc48]
        cases r <;> simp
    unfold intB rNumB
    cases hc : ((c.toNat : Int) == 48) with
    | false => simp [hc]
    | true => rw [hs48 hc]; simp [hc, Bool.and_comm]
theorem rIntR_big {n : Int} (h : n < -1099511627776 ∨ 1099511627776 < n) : rIntR n = (zeroV, 2) := by
  rw [rIntR, ite_t]
  simpa using h
theorem num_eq (s : List UInt8) : (rNumR s).2 = (intR s).2 ∧ ((intR s).2 = true → rIntR (rNumR s).1 = checkedV ⟨0, (intR s).1, []⟩) := by
  rw [← rIntR_eq]
  obtain ⟨t, ht⟩ : ∃ t, t = if isNeg s = true then s.drop 1 else s := ⟨_, rfl⟩
  have hb := numB_eq s t ht
  rw [rNumR, intR, isNeg_trim, ← ht, hb]
  by_cases hB : rNumB t (isNeg s) = true
  · rw [if_pos hB, if_pos hB]
    refine ⟨rfl, fun _ => ?_⟩
    simp only
    rcases t with _ | ⟨c, r⟩
    · cases hB
    have hd : (c :: r).all isD = true := by
      have := hB; unfold rNumB at this; rw [Bool.and_eq_true] at this; exact this.2
    have hneg : decide ((c :: r).length < s.length) = isNeg s := by
      cases hn : isNeg s with
      | true =>
        obtain ⟨u, rfl⟩ := isNeg_cons hn
        rw [hn, if_pos rfl] at ht
        rw [ht]; simp
      | false => rw [hn, if_neg (by decide)] at ht; rw [ht]; simp
    obtain ⟨hs1, hs2⟩ := satV_min (c :: r) hd
    unfold rNumV intV
    rw [hneg]
    by_cases hl : (c :: r).length ≤ 15
    · rw [List.take_of_length_le hl]
      have hb1 := dval_take (c :: r) hd hl (c :: r).length (Nat.le_refl _)
      rw [List.take_length] at hb1
      have hb2 := pow_le15 (c :: r).length hl
      have hw : W (0 - dval (c :: r)) = 0 - dval (c :: r) := wrap_i64 _ (by omega) (by omega)
      rw [hw, hs1]
      by_cases hbig : dval (c :: r) ≤ 1099511627776
      · rw [Int.min_eq_left (by omega)]; simp
      · rw [Int.min_eq_right (by omega)]
        cases isNeg s
        · rw [if_neg (by decide), if_neg (by decide), rIntR_big (by omega), rIntR_big (by omega)]
        · rw [if_pos rfl, if_pos rfl, rIntR_big (by omega), rIntR_big (by omega)]
    · have hc : 49 ≤ c.toNat := by
        have h1 := (isD_iff c).1 (by rw [List.all_cons, Bool.and_eq_true] at hd; exact hd.1)
        have h2 := hB
        unfold rNumB at h2
        rw [Bool.and_eq_true] at h2
        have h3 : decide (0 < r.length) = true := by simp at hl ⊢; omega
        rw [h3] at h2
        simp at h2
        omega
      have hr : r.all isD = true := by rw [List.all_cons, Bool.and_eq_true] at hd; exact hd.2
      have g1 := dval_ge c hc r.length r rfl hr
      have g2 := dval_ge c hc (r.take 14).length (r.take 14) rfl (by rw [List.all_eq_true] at hr ⊢; exact fun x hx => hr x (List.mem_of_mem_take hx))
      have hl' : 15 ≤ r.length := by simp at hl; omega
      have e14 : (r.take 14).length = 14 := by rw [List.length_take]; omega
      rw [e14] at g2
      have hp : (10 : Int) ^ 14 ≤ 10 ^ r.length := by
        have : (10 : Nat) ^ 14 ≤ 10 ^ r.length := Nat.pow_le_pow_right (by omega) (by omega)
        exact_mod_cast this
      have et : (c :: r).take 15 = c :: r.take 14 := rfl
      have hd2 : (c :: r.take 14).all isD = true := by rw [← et, List.all_eq_true] ; rw [List.all_eq_true] at hd; exact fun x hx => hd x (List.mem_of_mem_take hx)
      have hb1 := dval_take (c :: r.take 14) hd2 (by simp; omega) (c :: r.take 14).length (Nat.le_refl _)
      rw [List.take_length] at hb1
      have hb2 := pow_le15 (c :: r.take 14).length (by simp; omega)
      rw [et, hs1, Int.min_eq_right (by omega)]
      have hw : W (0 - dval (c :: r.take 14)) = 0 - dval (c :: r.take 14) := wrap_i64 _ (by omega) (by omega)
      rw [hw]
      cases isNeg s
      · rw [if_neg (by decide), if_neg (by decide), rIntR_big (by omega), rIntR_big (by omega)]
      · rw [if_pos rfl, if_pos rfl, rIntR_big (by omega), rIntR_big (by omega)]
  · rw [if_neg hB, if_neg hB]
    exact ⟨rfl, fun h => by cases h⟩
def rParseT : List UInt8 → Val × Int
  | [] => (zeroV, 4)
  | c :: r => if ((c.toNat : Int) == 34) = true then (if ((unqN (r.length + 1) (unqG r.length r [])).2 != ((r.length : Int) + 1)) = true then (zeroV, 4) else rStringR (unqN (r.length + 1) (unqG r.length r [])).1)
      else if (!(rNumR (c :: r)).2) = true then (zeroV, 4) else rIntR (rNumR (c :: r)).1
def rParseR (s : List UInt8) : Val × Int :=
  if decide ((65536 : Int) < s.length) = true then (zeroV, 13)
  else if (s == sTrue || s == sFalse) = true then (boolV (s == sTrue), 0)
  else rParseT s
theorem unqG_len (n : Nat) (rest out o r : List UInt8) (h : unqG n rest out = some (o, r)) : r.length < rest.length := by
  induction n generalizing rest out with
  | zero => cases h
  | succ n ih =>
    cases rest with
    | nil => cases h
    | cons c u =>
      rw [unqG] at h
      split at h
      · cases h; simp
      · split at h
        · cases he : escR u with
          | none => rw [he] at h; cases h
          | some p =>
            obtain ⟨b, r'⟩ := p
            rw [he] at h
            have h1 := ih _ _ h
            have h2 := escR_len he
            simp; omega
        · split at h
          · have h1 := ih _ _ h; simp; omega
          · cases h
theorem rParseR_eq (s : List UInt8) : rParseR s = parseR s := by
  rw [rParseR, parseR]
  by_cases h1 : decide ((65536 : Int) < s.length) = true
  · rw [if_pos h1, if_pos h1]
  rw [if_neg h1, if_neg h1]
  by_cases h2 : (s == sTrue || s == sFalse) = true
  · rw [if_pos h2, if_pos h2]
  rw [if_neg h2, if_neg h2]
  have hnum := num_eq s
  have key : (if (!(rNumR s).2) = true then (zeroV, 4) else rIntR (rNumR s).1) = if (!(intR s).2) = true then (zeroV, 4) else checkedV ⟨0, (intR s).1, []⟩ := by
    rw [hnum.1]
    by_cases h : (intR s).2 = true
    · rw [if_neg (by rw [h]; decide), if_neg (by rw [h]; decide), hnum.2 h]
    · rw [if_pos (by simpa using h), if_pos (by simpa using h)]
  rcases s with _ | ⟨c, r⟩
  · rfl
  rw [rParseT]
  by_cases h3 : ((c.toNat : Int) == 34) = true
  · have hc : c = 34 := by apply UInt8.toNat_inj.1; simp at h3; show c.toNat = 34; omega
    subst hc
    rw [if_pos h3, if_pos (hasPre34 r)]
    have hu : unqR (34 :: r) = gF (unqG r.length r []) := unqF_G _ _ _
    rw [hu]
    cases hg : unqG r.length r [] with
    | none =>
      have : ((unqN (r.length + 1) none).2 != ((r.length : Int) + 1)) = true := by
        show ((0 : Int) != (r.length : Int) + 1) = true
        rw [bne_iff_ne]; omega
      rw [if_pos this]; rfl
    | some p =>
      obtain ⟨o, u⟩ := p
      have hl := unqG_len _ _ _ _ _ hg
      rw [rStringR_eq]
      show (if (((((r.length + 1 : Nat) : Int) - (u.length : Int)) != ((r.length : Int) + 1)) = true) then (zeroV, 4) else checkedV ⟨2, 0, o⟩) = if (!(u == [])) = true then (zeroV, 4) else checkedV ⟨2, 0, o⟩
      cases u with
      | nil => rw [if_neg (by simp), if_neg (by simp)]
      | cons d u => rw [if_pos (by rw [bne_iff_ne]; simp only [List.length_cons]; omega), if_pos (by simp)]
  · have hp : ¬ hasPre (c :: r) [34] = true := by
      intro h
      simp [hasPre, List.isPrefixOf] at h
      apply h3
      rw [← h]; rfl
    rw [if_neg h3, if_neg hp]
    exact key
end Go.Abs
set_option maxRecDepth 100000
namespace Go.Abs
open Go Go.Proofs
set_option linter.unusedSimpArgs false
attribute [local irreducible] unqG unqN rNumR rStringR rIntR boolV
set_option maxHeartbeats 1000000 in
theorem pc_rParse (s : List UInt8) : PC Tryz.prog 6 [.str s] (fun r => r = .tup [encV (parseR s).1, .i (parseR s).2]) := by
  rw [← rParseR_eq]
  refine PC_body tOk Tryz.func6 rfl Tryz.results6 rfl (by simp [Tryz.ntmps6]) ?_
  rw [Tryz.ntmps6]
  simp only [argSlots]
  repeat (first
    | (refine AWP_seq (AWP_regS tOk rfl ?_); simp)
    | (refine AWP_regS tOk rfl ?_; simp)
    | (refine AWP_skip ?_; simp)
    | (refine AWP_exit ?_; simp)
    | (refine AWP_ret ?_; simp)
    | refine AWP_block ?_
    | refine AWP_seq ?_)
  refine AWP_cond2 rfl (fun h => ?_) (fun h => ?_)
  · repeat (first
      | (refine AWP_seq (AWP_regS tOk rfl ?_); simp)
      | (refine AWP_regS tOk rfl ?_; simp)
      | (refine AWP_skip ?_; simp)
      | (refine AWP_exit ?_; simp)
      | (refine AWP_ret ?_; simp)
      | refine AWP_block ?_
      | refine AWP_seq ?_)
    rw [rParseR, ite_t h]
    simp [zeroV]
  have hs : s.length ≤ 65536 := by simp at h; omega
  repeat (first
    | (refine AWP_seq (AWP_regS tOk rfl ?_); simp)
    | (refine AWP_regS tOk rfl ?_; simp)
    | (refine AWP_skip ?_; simp)
    | (refine AWP_exit ?_; simp)
    | (refine AWP_ret ?_; simp)
    | refine AWP_block ?_
    | refine AWP_seq ?_)
  refine AWP_cond2 rfl (fun h1 : (s == sTrue || s == sFalse) = true => ?_) (fun h1 : (s == sTrue || s == sFalse) = false => ?_)
  · repeat (first
      | (refine AWP_seq (AWP_regS tOk rfl ?_); simp)
      | (refine AWP_regS tOk rfl ?_; simp)
      | (refine AWP_skip ?_; simp)
      | (refine AWP_exit ?_; simp)
      | (refine AWP_ret ?_; simp)
      | refine AWP_block ?_
      | refine AWP_seq ?_)
    refine AStep_PC rfl rfl (by simp) (pc_rBool (s == sTrue)) rfl ?_
    rintro _ rfl
    simp
    repeat (first
      | (refine AWP_seq (AWP_regS tOk rfl ?_); simp)
      | (refine AWP_regS tOk rfl ?_; simp)
      | (refine AWP_skip ?_; simp)
      | (refine AWP_exit ?_; simp)
      | (refine AWP_ret ?_; simp)
      | refine AWP_block ?_
      | refine AWP_seq ?_)
    rw [rParseR, ite_f h, ite_t h1]
    simp
  rw [show rParseR s = rParseT s by rw [rParseR, ite_f h, ite_f h1]]
  rcases s with _ | ⟨c, r⟩
  · repeat (first
      | (refine AWP_seq (AWP_regS tOk rfl ?_); simp)
      | (refine AWP_regS tOk rfl ?_; simp)
      | (refine AWP_skip ?_; simp)
      | (refine AWP_exit ?_; simp)
      | (refine AWP_ret ?_; simp)
      | refine AWP_block ?_
      | refine AWP_seq ?_)
    refine AWP_cond rfl ?_
    repeat (first
      | (refine AWP_seq (AWP_regS tOk rfl ?_); simp)
      | (refine AWP_regS tOk rfl ?_; simp)
      | (refine AWP_skip ?_; simp)
      | (refine AWP_exit ?_; simp)
      | (refine AWP_ret ?_; simp)
      | refine AWP_block ?_
      | refine AWP_seq ?_)
    refine AStep_PC rfl rfl (by simp) (pc_rNumber [] (by simp)) rfl ?_
    rintro _ rfl
    simp
    rw [show rNumR [] = (0, false) by unfold rNumR; rfl]
    repeat (first
      | (refine AWP_seq (AWP_regS tOk rfl ?_); simp)
      | (refine AWP_regS tOk rfl ?_; simp)
      | (refine AWP_skip ?_; simp)
      | (refine AWP_exit ?_; simp)
      | (refine AWP_ret ?_; simp)
      | refine AWP_block ?_
      | refine AWP_seq ?_)
    refine AWP_cond rfl ?_
    repeat (first
      | (refine AWP_seq (AWP_regS tOk rfl ?_); simp)
      | (refine AWP_regS tOk rfl ?_; simp)
      | (refine AWP_skip ?_; simp)
      | (refine AWP_exit ?_; simp)
      | (refine AWP_ret ?_; simp)
      | refine AWP_block ?_
      | refine AWP_seq ?_)
    simp [rParseT, zeroV]
  obtain ⟨R, hR⟩ : ∃ R, rParseT (c :: r) = R := ⟨_, rfl⟩
  rw [hR]
  rw [rParseT] at hR
  repeat (first
    | (refine AWP_seq (AWP_regS tOk rfl ?_); simp)
    | (refine AWP_regS tOk rfl ?_; simp)
    | (refine AWP_skip ?_; simp)
    | (refine AWP_exit ?_; simp)
    | (refine AWP_ret ?_; simp)
    | refine AWP_block ?_
    | refine AWP_seq ?_)
  refine AWP_cond2 rfl (fun h2 => ?_) (fun h2 => ?_)
  · rw [ite_t h2] at hR
    repeat (first
      | (refine AWP_seq (AWP_regS tOk rfl ?_); simp)
      | (refine AWP_regS tOk rfl ?_; simp)
      | (refine AWP_skip ?_; simp)
      | (refine AWP_exit ?_; simp)
      | (refine AWP_ret ?_; simp)
      | refine AWP_block ?_
      | refine AWP_seq ?_)
    refine AStep_PC rfl rfl (by simp) (pc_rUnquote c r (by simp at hs; omega) h2) rfl ?_
    rintro _ rfl
    simp
    repeat (first
      | (refine AWP_seq (AWP_regS tOk rfl ?_); simp)
      | (refine AWP_regS tOk rfl ?_; simp)
      | (refine AWP_skip ?_; simp)
      | (refine AWP_exit ?_; simp)
      | (refine AWP_ret ?_; simp)
      | refine AWP_block ?_
      | refine AWP_seq ?_)
    refine AWP_cond2 rfl (fun h3 => ?_) (fun h3 => ?_)
    · rw [ite_t h3] at hR
      subst hR
      repeat (first
        | (refine AWP_seq (AWP_regS tOk rfl ?_); simp)
        | (refine AWP_regS tOk rfl ?_; simp)
        | (refine AWP_skip ?_; simp)
        | (refine AWP_exit ?_; simp)
        | (refine AWP_ret ?_; simp)
        | refine AWP_block ?_
        | refine AWP_seq ?_)
      simp [zeroV]
    · rw [ite_f h3] at hR
      subst hR
      repeat (first
        | (refine AWP_seq (AWP_regS tOk rfl ?_); simp)
        | (refine AWP_regS tOk rfl ?_; simp)
        | (refine AWP_skip ?_; simp)
        | (refine AWP_exit ?_; simp)
        | (refine AWP_ret ?_; simp)
        | refine AWP_block ?_
        | refine AWP_seq ?_)
      refine AStep_PC rfl rfl (by simp) (pc_rString (unqN (r.length + 1) (unqG r.length r [])).1) rfl ?_
      rintro _ rfl
      simp
      repeat (first
        | (refine AWP_seq (AWP_regS tOk rfl ?_); simp)
        | (refine AWP_regS tOk rfl ?_; simp)
        | (refine AWP_skip ?_; simp)
        | (refine AWP_exit ?_; simp)
        | (refine AWP_ret ?_; simp)
        | refine AWP_block ?_
        | refine AWP_seq ?_)
  · rw [ite_f h2] at hR
    repeat (first
      | (refine AWP_seq (AWP_regS tOk rfl ?_); simp)
      | (refine AWP_regS tOk rfl ?_; simp)
      | (refine AWP_skip ?_; simp)
      | (refine AWP_exit ?_; simp)
      | (refine AWP_ret ?_; simp)
      | refine AWP_block ?_
      | refine AWP_seq ?_)
    refine AStep_PC rfl rfl (by simp) (pc_rNumber (c :: r) (by omega)) rfl ?_
    rintro _ rfl
    simp
    repeat (first
      | (refine AWP_seq (AWP_regS tOk rfl ?_); simp)
      | (refine AWP_regS tOk rfl ?_; simp)
      | (refine AWP_skip ?_; simp)
      | (refine AWP_exit ?_; simp)
      | (refine AWP_ret ?_; simp)
      | refine AWP_block ?_
      | refine AWP_seq ?_)
    refine AWP_cond2 rfl (fun h3 => ?_) (fun h3 => ?_)
    · rw [ite_t h3] at hR
      subst hR
      repeat (first
        | (refine AWP_seq (AWP_regS tOk rfl ?_); simp)
        | (refine AWP_regS tOk rfl ?_; simp)
        | (refine AWP_skip ?_; simp)
        | (refine AWP_exit ?_; simp)
        | (refine AWP_ret ?_; simp)
        | refine AWP_block ?_
        | refine AWP_seq ?_)
      simp [zeroV]
    · rw [ite_f h3] at hR
      subst hR
      repeat (first
        | (refine AWP_seq (AWP_regS tOk rfl ?_); simp)
        | (refine AWP_regS tOk rfl ?_; simp)
        | (refine AWP_skip ?_; simp)
        | (refine AWP_exit ?_; simp)
        | (refine AWP_ret ?_; simp)
        | refine AWP_block ?_
        | refine AWP_seq ?_)
      refine AStep_PC rfl rfl (by simp) (pc_rInt (rNumR (c :: r)).1) rfl ?_
      rintro _ rfl
      simp
      repeat (first
        | (refine AWP_seq (AWP_regS tOk rfl ?_); simp)
        | (refine AWP_regS tOk rfl ?_; simp)
        | (refine AWP_skip ?_; simp)
        | (refine AWP_exit ?_; simp)
        | (refine AWP_ret ?_; simp)
        | refine AWP_block ?_
        | refine AWP_seq ?_)
theorem eqA_val (k n k' n' : Int) (t t' : List UInt8) : eqA T 9 23 (.agg [.int .i64 k, .int .i64 n, .str t]) (.agg [.int .i64 k', .int .i64 n', .str t']) = some (k == k' && (n == n' && t == t')) := by
  simp [eqA, eqFieldsA, outOf, TI.agg]
attribute [local irreducible] parseR formatR
set_option maxHeartbeats 1000000 in
theorem law_Texts (s : List UInt8) (v : Val) : PC Tryz.prog 3 [.str s, encV v] (fun r => r = .bool true) := by
  refine PC_body tOk Tryz.func3 rfl Tryz.results3 rfl (by simp [Tryz.ntmps3]) ?_
  rw [Tryz.ntmps3]
  simp only [argSlots]
  simp only [encV]
  repeat (first
    | (refine AWP_seq (AWP_regS tOk rfl ?_); simp)
    | (refine AWP_regS tOk rfl ?_; simp)
    | (refine AWP_skip ?_; simp)
    | (refine AWP_exit ?_; simp)
    | (refine AWP_ret ?_; simp)
    | refine AWP_block ?_
    | refine AWP_seq ?_)
  refine AWP_cond2 rfl (fun h => ?_) (fun h => ?_)
  · repeat (first
      | (refine AWP_seq (AWP_regS tOk rfl ?_); simp)
      | (refine AWP_regS tOk rfl ?_; simp)
      | (refine AWP_skip ?_; simp)
      | (refine AWP_exit ?_; simp)
      | (refine AWP_ret ?_; simp)
      | refine AWP_block ?_
      | refine AWP_seq ?_)
    refine AStep_PC rfl rfl (by simp) (pc_awake) rfl ?_
    rintro _ rfl
    simp
    repeat (first
      | (refine AWP_seq (AWP_regS tOk rfl ?_); simp)
      | (refine AWP_regS tOk rfl ?_; simp)
      | (refine AWP_skip ?_; simp)
      | (refine AWP_exit ?_; simp)
      | (refine AWP_ret ?_; simp)
      | refine AWP_block ?_
      | refine AWP_seq ?_)
  repeat (first
    | (refine AWP_seq (AWP_regS tOk rfl ?_); simp)
    | (refine AWP_regS tOk rfl ?_; simp)
    | (refine AWP_skip ?_; simp)
    | (refine AWP_exit ?_; simp)
    | (refine AWP_ret ?_; simp)
    | refine AWP_block ?_
    | refine AWP_seq ?_)
  refine AStep_PC rfl rfl (by simp) (pc_Parse s) rfl ?_
  rintro _ rfl
  simp
  repeat (first
    | (refine AWP_seq (AWP_regS tOk rfl ?_); simp)
    | (refine AWP_regS tOk rfl ?_; simp)
    | (refine AWP_skip ?_; simp)
    | (refine AWP_exit ?_; simp)
    | (refine AWP_ret ?_; simp)
    | refine AWP_block ?_
    | refine AWP_seq ?_)
  refine AStep_PC rfl rfl (by simp) (pc_rParse s) rfl ?_
  rintro _ rfl
  simp
  repeat (first
    | (refine AWP_seq (AWP_regS tOk rfl ?_); simp)
    | (refine AWP_regS tOk rfl ?_; simp)
    | (refine AWP_skip ?_; simp)
    | (refine AWP_exit ?_; simp)
    | (refine AWP_ret ?_; simp)
    | refine AWP_block ?_
    | refine AWP_seq ?_)
  refine AStep_PC rfl rfl (by simp) (pc_Format v) rfl ?_
  rintro _ rfl
  simp
  repeat (first
    | (refine AWP_seq (AWP_regS tOk rfl ?_); simp)
    | (refine AWP_regS tOk rfl ?_; simp)
    | (refine AWP_skip ?_; simp)
    | (refine AWP_exit ?_; simp)
    | (refine AWP_ret ?_; simp)
    | refine AWP_block ?_
    | refine AWP_seq ?_)
  refine AStep_PC rfl rfl (by simp) (pc_rFormat v) rfl ?_
  rintro _ rfl
  simp
  repeat (first
    | (refine AWP_seq (AWP_regS tOk rfl ?_); simp [eqA_val])
    | (refine AWP_regS tOk rfl ?_; simp [eqA_val])
    | (refine AWP_skip ?_; simp [eqA_val])
    | (refine AWP_exit ?_; simp [eqA_val])
    | (refine AWP_ret ?_; simp [eqA_val])
    | refine AWP_block ?_
    | refine AWP_seq ?_)
  refine AStep_PC rfl rfl (by simp) (pc_awake) rfl ?_
  rintro _ rfl
  simp
  repeat (first
    | (refine AWP_seq (AWP_regS tOk rfl ?_); simp)
    | (refine AWP_regS tOk rfl ?_; simp)
    | (refine AWP_skip ?_; simp)
    | (refine AWP_exit ?_; simp)
    | (refine AWP_ret ?_; simp)
    | refine AWP_block ?_
    | refine AWP_seq ?_)
end Go.Abs
set_option maxRecDepth 100000
namespace Go.Abs
open Go Go.Proofs Go.RowKit Go.Proofs.YtbhafingccfjgaaGreatDoor
theorem laidOut : laidOutB Tryz.prog = true := by kernel_rfl
theorem own : ownKnob Tryz.prog.godebug = none := by kernel_rfl
theorem list_of {α : Type} {g : α → AV} {Q : α → Prop} : ∀ xs : List AV, (∀ x ∈ xs, ∃ a, x = g a ∧ Q a) → ∃ l : List α, xs = l.map g ∧ ∀ a ∈ l, Q a
  | [], _ => ⟨[], rfl, by simp⟩
  | x :: xs, h => by
    obtain ⟨a, rfl, ha⟩ := h x (by simp)
    obtain ⟨l, rfl, hl⟩ := list_of xs (fun y hy => h y (by simp [hy]))
    exact ⟨a :: l, rfl, by simpa using ⟨ha, hl⟩⟩
theorem reach_le : reachBytes ≤ 140737488355328 := by decide
theorem shpInt {d : Nat} {zs : List AV} (h : Shp T (d + 1) 3 zs) : ∃ n : Int, zs = [.i n] ∧ -9223372036854775808 ≤ n ∧ n ≤ 9223372036854775807 := by
  simp only [Shp, T3, ShpI] at h
  obtain ⟨n, rfl, h1, h2⟩ := h
  exact ⟨n, rfl, h1, h2⟩
theorem shpBool {d : Nat} {zs : List AV} (h : Shp T (d + 1) 4 zs) : ∃ b : Bool, zs = [.bool b] := by
  simp only [Shp, T4, ShpI] at h
  exact h
theorem shpStr {d : Nat} {zs : List AV} (h : Shp T (d + 1) 9 zs) : ∃ s : List UInt8, zs = [.str s] ∧ s.length ≤ 140737488355328 := by
  simp only [Shp, T9, ShpI] at h
  obtain ⟨s, rfl, hs⟩ := h
  exact ⟨s, rfl, Nat.le_trans hs reach_le⟩
theorem argsNil {d : Nat} {xs : List AV} (h : ArgsShp T d [] xs) : xs = [] := h
theorem argInt {d : Nat} {ts : List Nat} {xs : List AV} (h : ArgsShp T (d + 1) (3 :: ts) xs) : ∃ (n : Int) (r : List AV), xs = .i n :: r ∧ (-9223372036854775808 ≤ n ∧ n ≤ 9223372036854775807) ∧ ArgsShp T (d + 1) ts r := by
  obtain ⟨i, zs, r, hi, rfl, h1, h⟩ := h
  rw [T3] at hi; cases hi
  obtain ⟨n, rfl, hn⟩ := shpInt h1
  exact ⟨n, r, rfl, hn, h⟩
theorem argBool {d : Nat} {ts : List Nat} {xs : List AV} (h : ArgsShp T (d + 1) (4 :: ts) xs) : ∃ (b : Bool) (r : List AV), xs = .bool b :: r ∧ ArgsShp T (d + 1) ts r := by
  obtain ⟨i, zs, r, hi, rfl, h1, h⟩ := h
  rw [T4] at hi; cases hi
  obtain ⟨b, rfl⟩ := shpBool h1
  exact ⟨b, r, rfl, h⟩
theorem argStr {d : Nat} {ts : List Nat} {xs : List AV} (h : ArgsShp T (d + 1) (9 :: ts) xs) : ∃ (s : List UInt8) (r : List AV), xs = .str s :: r ∧ s.length ≤ 140737488355328 ∧ ArgsShp T (d + 1) ts r := by
  obtain ⟨i, zs, r, hi, rfl, h1, h⟩ := h
  rw [T9] at hi; cases hi
  obtain ⟨s, rfl, hs⟩ := shpStr h1
  exact ⟨s, r, rfl, hs, h⟩
/-- What a tie's reading of a table of integers comes to: the block's cells. -/
theorem tab_in {l : List (String × DataW Unit)} {w : World} {name : String} {k : IntKind} {zs : List Int} {g : Nat} {t e : TypeId} {n : Nat} (h : laidMetH Tryz.prog l w) (hl : l.filter (fun x => x.1 == name) = [(name, Lib.tabData k zs)])
    (hg : Tryz.prog.globalNamed name = some g) (hty : (Tryz.prog.globals[g]?).map (·.type) = some t) (ht : Tryz.prog.underlying t = some (.array n e)) (he : Tryz.prog.underlying e = some (.int k)) (hce : Tryz.prog.cellsOf e = 1) (hct : Tryz.prog.cellsOf t = n) :
    g < w.heap.size ∧ ∃ t fr, w.heap[g]? = some (.cells (zs.map fun z => Value.int k z).toArray t fr) := by
  have h1 := h.filter (fun x => x.1 == name)
  rw [hl] at h1
  have h2 : Lib.TabIs Tryz.prog w name k zs := Lib.tabIs_of_head hg hty ht he hce hct h1
  unfold Lib.TabIs World.var? at h2
  rw [hg] at h2
  simp only [Option.bind_some] at h2
  cases ho : w.heap[g]? with
  | none => rw [ho] at h2; simp at h2
  | some o =>
    rw [ho] at h2
    refine ⟨(Array.getElem?_eq_some_iff.1 ho).1, ?_⟩
    cases o <;> simp at h2
    rename_i cs t fr
    exact ⟨t, fr, by rw [h2]⟩
end Go.Abs
set_option maxRecDepth 100000
namespace Go.Abs
open Go Go.Proofs Go.RowKit Go.Proofs.YtbhafingccfjgaaGreatDoor
theorem shpV {d : Nat} {zs : List AV} (h : Shp T (d + 2) 23 zs) : ∃ v : Val, zs = (encV v).cells ∧ v.text.length ≤ 140737488355328 := by
  simp only [Shp, T23, T3, T9, ShpI, ShpF, List.map_cons, List.map_nil] at h
  obtain ⟨_, _, rfl, ⟨a, rfl, ha⟩, _, _, rfl, ⟨b, rfl, hb⟩, _, _, rfl, ⟨c, rfl, hc⟩, rfl⟩ := h
  exact ⟨⟨a, b, c⟩, rfl, Nat.le_trans hc reach_le⟩
theorem argV {d : Nat} {ts : List Nat} {xs : List AV} (h : ArgsShp T (d + 2) (23 :: ts) xs) : ∃ (v : Val) (r : List AV), xs = encV v :: r ∧ v.text.length ≤ 140737488355328 ∧ ArgsShp T (d + 2) ts r := by
  obtain ⟨i, zs, r, hi, rfl, h1, h⟩ := h
  rw [T23] at hi; cases hi
  obtain ⟨v, rfl, hv⟩ := shpV h1
  exact ⟨v, r, rfl, hv, h⟩
theorem eok_of {l : List (String × DataW Unit)} {w : World} (h : laidMetH Tryz.prog l w) (hl : l.filter (fun x => x.1 == "internal/strconv.uint64pow10") = [("internal/strconv.uint64pow10", Lib.tabData .u64 Lib.pow10Tab)]) : EOK Tryz.prog w (· < w.heap.size) := fun g cs hm => by
  have e := List.mem_singleton.1 hm
  cases e
  exact tab_in (t := 115) (e := 100) (n := 20) h hl (by kernel_rfl) (by kernel_rfl) (by kernel_rfl) (by kernel_rfl) (by kernel_rfl) (by kernel_rfl)
end Go.Abs
