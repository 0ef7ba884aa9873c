/- Part Kd of the proof: an abstract machine over the model, and what the functions of the program hand back in its terms. No condition. -/
import Derived.Test.YtbhafingccfjgaaDoorKc
import Derived.Test.YtbhafingccfjgaaDoorKb
import Derived.Lay
import Derived.LaidSub
import Derived.Deep.DeepWitnessRowRef
import Derived.Test.YtbhafingccfjgaaDoorCards
import Derived.Test.YtbhafingccfjgaaDoorTie
import Derived.Lib.LaidTab
set_option linter.all false
set_option maxRecDepth 100000
namespace Go.Abs
open Go Go.Proofs
set_option linter.unusedSimpArgs false

def boolTab (p : Nat → Bool) : List AV := (List.range 256).map (fun i => .bool (p i))
def zAs : Value := match look T 89 with
  | some i => i.zero
  | none => .bool false
theorem TAsz : look T 89 = some { desc := .array 256 4, zero := zAs, size := 256, bytes := 256 } := rfl
theorem zAs_cells : zAs.cells.toList.map zeroCell = boolTab (fun _ => false) := by kernel_rfl
theorem zAs_cells' : List.map zeroCell (match zAs with | Value.agg cs => cs | v => #[v]).toList = boolTab (fun _ => false) := zAs_cells
@[simp] theorem boolTab_len (p : Nat → Bool) : (boolTab p).length = 256 := by simp [boolTab]
@[simp] theorem boolTab_take (p : Nat → Bool) : (boolTab p).take 256 = boolTab p := List.take_of_length_le (by simp)
theorem boolTab_get (p : Nat → Bool) (i : Nat) (h : i < 256) : (boolTab p)[i]? = some (.bool (p i)) := by simp [boolTab, h]
theorem boolTab_drop (p : Nat → Bool) (i : Nat) (h : i < 256) : (boolTab p).drop i = .bool (p i) :: (boolTab p).drop (i + 1) := by
  rw [List.drop_eq_getElem_cons (by simpa using h)]
  congr 1
  simp [boolTab]
theorem boolTab_set (p : Nat → Bool) (i : Nat) (h : i < 256) : (boolTab p).set i (.bool true) = boolTab (fun j => j == i || p j) := by
  refine List.ext_getElem? fun k => ?_
  by_cases hk : k < 256
  · rw [boolTab_get _ _ hk]
    by_cases hki : i = k
    · subst hki; rw [List.getElem?_set_self (by simpa using h)]; simp
    · rw [List.getElem?_set_ne hki, boolTab_get _ _ hk]; simp [show k ≠ i from fun e => hki e.symm]
  · rw [List.getElem?_eq_none (by simp; omega), List.getElem?_eq_none (by simp; omega)]
@[simp] theorem boolTab_leaf (p : Nat → Bool) : (boolTab p).all AV.leaf = true := by simp [boolTab, AV.leaf]
@[simp] theorem boolTab_leaf' (p : Nat → Bool) : (∀ x, x ∈ boolTab p → x.leaf = true) ↔ True := by have := boolTab_leaf p; rw [List.all_eq_true] at this; simp only [iff_true]; exact this
@[simp] theorem boolTab_pure (p : Nat → Bool) : (boolTab p).all AV.pure = true := by simp [boolTab, AV.pure]
@[simp] theorem boolTab_flat (p : Nat → Bool) : (boolTab p).all AV.flat = true := by simp [boolTab, AV.flat]
@[simp] theorem boolTab_under (p : Nat → Bool) (n : Nat) : (boolTab p).all (AV.under n) = true := by simp [boolTab, AV.under]
theorem setCells_app (ds xs ys zs : List AV) (h : ys.length = xs.length) : setCells (ds ++ ys ++ zs) ds.length xs = ds ++ xs ++ zs := by
  induction xs generalizing ds ys with
  | nil => simp at h; subst h; simp [setCells]
  | cons x xs ih =>
    rcases ys with _ | ⟨y, ys⟩
    · simp at h
    · rw [setCells]
      have := ih (ds ++ [x]) ys (by simpa using h)
      simp at this ⊢
      exact this
@[simp] theorem boolTab_setCells (p q : Nat → Bool) : setCells (boolTab p) 0 (boolTab q) = boolTab q := by
  have := setCells_app [] (boolTab q) (boolTab p) [] (by simp)
  simpa using this
theorem allSome_map {α β : Type} (f : α → Option β) (g : α → β) (l : List α) (h : ∀ x ∈ l, f x = some (g x)) : allSome (l.map f) = some (l.map g) := by
  induction l with
  | nil => rfl
  | cons x l ih => rw [List.map_cons, h x (by simp), allSome, ih (fun y hy => h y (by simp [hy]))]; rfl
@[simp] theorem boolTab_snap0 (H : List AObj) (p : Nat → Bool) : allSome ((boolTab p).map (snap0 H)) = some (boolTab p) := by
  rw [allSome_map (snap0 H) id _ (fun x hx => ?_)]
  · simp
  · obtain ⟨i, _, rfl⟩ := List.mem_map.1 hx; simp
@[simp] theorem boolTab_snap1 (H : List AObj) (p : Nat → Bool) : allSome ((boolTab p).map (snap1 H)) = some (boolTab p) := by
  rw [allSome_map (snap1 H) id _ (fun x hx => ?_)]
  · simp
  · obtain ⟨i, _, rfl⟩ := List.mem_map.1 hx; simp
attribute [simp] TAsz zAs_cells zAs_cells'
attribute [irreducible] zAs boolTab

set_option maxHeartbeats 400000 in
theorem pc_asc_contains (p : Nat → Bool) (c : Nat) (hc : c < 256) : PC Tryd.prog 74 [.iptr (boolTab p), .int .u8 c] (fun r => r = .bool (p c)) := by
  refine PC_body tOk Tryd.func74 rfl Tryd.results74 rfl (by simp [Tryd.ntmps74]) ?_
  rw [Tryd.ntmps74]
  simp only [argSlots]
  have hc' : (c : Int) < 256 := by omega
  repeat (first
    | (refine AWP_seq (AWP_regS tOk rfl ?_); simp [hc', boolTab_drop p c hc])
    | (refine AWP_regS tOk rfl ?_; simp [hc', boolTab_drop p c hc])
    | (refine AWP_skip ?_; simp [hc', boolTab_drop p c hc])
    | (refine AWP_exit ?_; simp [hc', boolTab_drop p c hc])
    | (refine AWP_ret ?_; simp [hc', boolTab_drop p c hc])
    | refine AWP_block ?_
    | refine AWP_seq ?_)

def setOf (cs : List UInt8) (i : Nat) : Bool := cs.any (fun c => c.toNat == i)
theorem setOf_succ (cs : List UInt8) (j : Nat) (h : j < cs.length) : setOf (cs.take (j + 1)) = fun i => (i == cs[j].toNat || setOf (cs.take j) i) := by
  funext i
  rw [setOf, List.take_succ_eq_append_getElem h, List.any_append, setOf]
  simp only [List.any_cons, List.any_nil, Bool.or_false]
  rw [Bool.or_comm]
  congr 1
  rw [Bool.beq_comm]
set_option maxHeartbeats 1000000 in
theorem pc_makeASCIISet (cs : List UInt8) (hcs : ∀ c ∈ cs, c.toNat < 128) (hlen : cs.length ≤ 1000000) : PC Tryd.prog 64 [.str cs] (fun r => r = .tup [.agg (boolTab (setOf cs)), .bool true]) := by
  refine PC_body tOk Tryd.func64 rfl Tryd.results64 rfl (by simp [Tryd.ntmps64]) ?_
  rw [Tryd.ntmps64]
  simp only [argSlots]
  repeat (first
    | (refine AWP_seq (AWP_regS tOk rfl ?_); simp [-Value.cells])
    | (refine AWP_regS tOk rfl ?_; simp [-Value.cells])
    | (refine AWP_skip ?_; simp [-Value.cells])
    | (refine AWP_exit ?_; simp [-Value.cells])
    | (refine AWP_ret ?_; simp [-Value.cells])
    | refine AWP_block ?_
    | refine AWP_seq ?_)
  refine AWP_count cs.length (fun j => [(0, .str cs), (2, .vptr 0 0), (4, .i j)]) (fun j => [.vars (boolTab (setOf (cs.take j)))]) rfl (by simp) (by simp [setOf]) (by simp) (by simp) ?_
  intro j hj ih
  repeat (first
    | (refine AWP_seq (AWP_regS tOk rfl ?_); simp)
    | (refine AWP_regS tOk rfl ?_; simp)
    | (refine AWP_skip ?_; simp)
    | (refine AWP_exit ?_; simp)
    | (refine AWP_ret ?_; simp)
    | refine AWP_block ?_
    | refine AWP_seq ?_)
  refine AWP_cond2 rfl (fun hlt => ?_) (fun hge => ?_)
  · have hlt' : j < cs.length := by simpa using hlt
    have hcj := hcs cs[j] (List.getElem_mem hlt')
    repeat (first
      | (refine AWP_seq (AWP_regS tOk rfl ?_); simp [hlt'])
      | (refine AWP_regS tOk rfl ?_; simp [hlt'])
      | (refine AWP_skip ?_; simp [hlt'])
      | (refine AWP_exit ?_; simp [hlt'])
      | (refine AWP_ret ?_; simp [hlt'])
      | refine AWP_block ?_
      | refine AWP_seq ?_)
    refine AWP_cond (b := false) ?_ ?_
    · simp; omega
    have h1 : (cs[j].toNat : Int) < 256 := by omega
    have h2 : cs[j].toNat ≤ 255 := by omega
    repeat (first
      | (refine AWP_seq (AWP_regS tOk rfl ?_); simp [hlt', h1, h2, boolTab_set (setOf (cs.take j)) cs[j].toNat (by omega)])
      | (refine AWP_regS tOk rfl ?_; simp [hlt', h1, h2, boolTab_set (setOf (cs.take j)) cs[j].toNat (by omega)])
      | (refine AWP_skip ?_; simp [hlt', h1, h2, boolTab_set (setOf (cs.take j)) cs[j].toNat (by omega)])
      | (refine AWP_exit ?_; simp [hlt', h1, h2, boolTab_set (setOf (cs.take j)) cs[j].toNat (by omega)])
      | (refine AWP_ret ?_; simp [hlt', h1, h2, boolTab_set (setOf (cs.take j)) cs[j].toNat (by omega)])
      | refine AWP_block ?_
      | refine AWP_seq ?_)
    refine ALoop_end [] (ih hlt') ?_ (by simp) ?_ (by simp) (by simp)
    · rw [setOf_succ cs j hlt']; simp
    · simp
      exact wrap_i64 _ (by omega) (by omega)
  · have hge' : j = cs.length := by simp at hge; omega
    subst hge'
    repeat (first
      | (refine AWP_seq (AWP_regS tOk rfl ?_); simp)
      | (refine AWP_regS tOk rfl ?_; simp)
      | (refine AWP_skip ?_; simp)
      | (refine AWP_exit ?_; simp)
      | (refine AWP_ret ?_; simp)
      | refine AWP_block ?_
      | refine AWP_seq ?_)

def rtrim (p : UInt8 → Bool) (s : List UInt8) : List UInt8 := (s.reverse.dropWhile p).reverse
theorem rtrim_nil (p : UInt8 → Bool) : rtrim p [] = [] := rfl
theorem rtrim_app (p : UInt8 → Bool) (s : List UInt8) (c : UInt8) : rtrim p (s ++ [c]) = if p c = true then rtrim p s else s ++ [c] := by
  simp only [rtrim, List.reverse_append, List.reverse_cons, List.reverse_nil, List.nil_append, List.cons_append, List.dropWhile_cons]
  split <;> simp
set_option maxHeartbeats 1000000 in
theorem pc_trimRightASCII (p : Nat → Bool) (s : List UInt8) (hlen : s.length ≤ 1000000) : PC Tryd.prog 66 [.str s, .iptr (boolTab p)] (fun r => r = .str (rtrim (fun c => p c.toNat) s)) := by
  refine PC_body tOk Tryd.func66 rfl Tryd.results66 rfl (by simp [Tryd.ntmps66]) ?_
  rw [Tryd.ntmps66]
  simp only [argSlots]
  repeat (first
    | (refine AWP_seq (AWP_regS tOk rfl ?_); simp)
    | (refine AWP_regS tOk rfl ?_; simp)
    | (refine AWP_skip ?_; simp)
    | (refine AWP_exit ?_; simp)
    | (refine AWP_ret ?_; simp)
    | refine AWP_block ?_
    | refine AWP_seq ?_)
  refine AWP_loop (ALoop_keep (sl' := [(0, .str s), (1, .iptr (boolTab p))]) ?_ (by simp))
  refine ALoop_wf (F := fun u => ⟨[(0, .str u), (1, .iptr (boolTab p))], []⟩) (fun u => u.length ≤ s.length ∧ rtrim (fun c => p c.toNat) u = rtrim (fun c => p c.toNat) s) (fun u => u.length) ?_ s ⟨Nat.le_refl _, rfl⟩
  rintro u ⟨hu, hr⟩ ih
  rcases List.eq_nil_or_concat u with rfl | ⟨v, c, rfl⟩
  · repeat (first
      | (refine AWP_seq (AWP_regS tOk rfl ?_); simp)
      | (refine AWP_regS tOk rfl ?_; simp)
      | (refine AWP_skip ?_; simp)
      | (refine AWP_exit ?_; simp)
      | (refine AWP_ret ?_; simp)
      | refine AWP_block ?_
      | refine AWP_seq ?_)
    refine AWP_cond rfl ?_
    repeat (first
      | (refine AWP_seq (AWP_regS tOk rfl ?_); simp)
      | (refine AWP_regS tOk rfl ?_; simp)
      | (refine AWP_skip ?_; simp)
      | (refine AWP_exit ?_; simp)
      | (refine AWP_ret ?_; simp)
      | refine AWP_block ?_
      | refine AWP_seq ?_)
    rw [← hr]; rfl
  · rw [List.concat_eq_append] at *
    simp at hu
    have hw : IntKind.i64.wrap (v.length : Int) = v.length := wrap_i64 _ (by omega) (by omega)
    rw [rtrim_app] at hr
    repeat (first
      | (refine AWP_seq (AWP_regS tOk rfl ?_); simp)
      | (refine AWP_regS tOk rfl ?_; simp)
      | (refine AWP_skip ?_; simp)
      | (refine AWP_exit ?_; simp)
      | (refine AWP_ret ?_; simp)
      | refine AWP_block ?_
      | refine AWP_seq ?_)
    refine AWP_cond (b := true) ?_ ?_
    · simp
    repeat (first
      | (refine AWP_seq (AWP_regS tOk rfl ?_); simp [hw])
      | (refine AWP_regS tOk rfl ?_; simp [hw])
      | (refine AWP_skip ?_; simp [hw])
      | (refine AWP_exit ?_; simp [hw])
      | (refine AWP_ret ?_; simp [hw])
      | refine AWP_block ?_
      | refine AWP_seq ?_)
    refine AStep_PC rfl rfl (by simp) (pc_asc_contains p c.toNat (by have := c.toNat_lt; omega)) rfl ?_
    rintro _ rfl
    simp
    refine AWP_cond2 rfl (fun h => ?_) (fun h => ?_)
    · repeat (first
        | (refine AWP_seq (AWP_regS tOk rfl ?_); simp)
        | (refine AWP_regS tOk rfl ?_; simp)
        | (refine AWP_skip ?_; simp)
        | (refine AWP_exit ?_; simp)
        | (refine AWP_ret ?_; simp)
        | refine AWP_block ?_
        | refine AWP_seq ?_)
      simp at h
      rw [h] at hr
      simpa using hr
    · have h0 : (v.length : Int) ≤ v.length + 1 := by omega
      repeat (first
        | (refine AWP_seq (AWP_regS tOk rfl ?_); simp [hw, h0])
        | (refine AWP_regS tOk rfl ?_; simp [hw, h0])
        | (refine AWP_skip ?_; simp [hw, h0])
        | (refine AWP_exit ?_; simp [hw, h0])
        | (refine AWP_ret ?_; simp [hw, h0])
        | refine AWP_block ?_
        | refine AWP_seq ?_)
      simp at h
      rw [if_pos h] at hr
      refine ALoop_end [] (ih v ⟨by omega, hr⟩ (by simp)) rfl (by simp) ?_ (by simp) (by simp)
      simp

set_option maxHeartbeats 1000000 in
theorem pc_trimLeftASCII (p : Nat → Bool) (s : List UInt8) (hlen : s.length ≤ 1000000) : PC Tryd.prog 65 [.str s, .iptr (boolTab p)] (fun r => r = .str (s.dropWhile (fun c => p c.toNat))) := by
  refine PC_body tOk Tryd.func65 rfl Tryd.results65 rfl (by simp [Tryd.ntmps65]) ?_
  rw [Tryd.ntmps65]
  simp only [argSlots]
  repeat (first
    | (refine AWP_seq (AWP_regS tOk rfl ?_); simp)
    | (refine AWP_regS tOk rfl ?_; simp)
    | (refine AWP_skip ?_; simp)
    | (refine AWP_exit ?_; simp)
    | (refine AWP_ret ?_; simp)
    | refine AWP_block ?_
    | refine AWP_seq ?_)
  refine AWP_loop (ALoop_keep (sl' := [(0, .str s), (1, .iptr (boolTab p))]) ?_ (by simp))
  refine ALoop_wf (F := fun u => ⟨[(0, .str u), (1, .iptr (boolTab p))], []⟩) (fun u => u.length ≤ s.length ∧ u.dropWhile (fun c => p c.toNat) = s.dropWhile (fun c => p c.toNat)) (fun u => u.length) ?_ s ⟨Nat.le_refl _, rfl⟩
  rintro u ⟨hu, hr⟩ ih
  rcases u with _ | ⟨c, v⟩
  · repeat (first
      | (refine AWP_seq (AWP_regS tOk rfl ?_); simp)
      | (refine AWP_regS tOk rfl ?_; simp)
      | (refine AWP_skip ?_; simp)
      | (refine AWP_exit ?_; simp)
      | (refine AWP_ret ?_; simp)
      | refine AWP_block ?_
      | refine AWP_seq ?_)
    refine AWP_cond rfl ?_
    repeat (first
      | (refine AWP_seq (AWP_regS tOk rfl ?_); simp)
      | (refine AWP_regS tOk rfl ?_; simp)
      | (refine AWP_skip ?_; simp)
      | (refine AWP_exit ?_; simp)
      | (refine AWP_ret ?_; simp)
      | refine AWP_block ?_
      | refine AWP_seq ?_)
    rw [← hr]; rfl
  · simp at hu
    rw [List.dropWhile_cons] at hr
    repeat (first
      | (refine AWP_seq (AWP_regS tOk rfl ?_); simp)
      | (refine AWP_regS tOk rfl ?_; simp)
      | (refine AWP_skip ?_; simp)
      | (refine AWP_exit ?_; simp)
      | (refine AWP_ret ?_; simp)
      | refine AWP_block ?_
      | refine AWP_seq ?_)
    refine AWP_cond (b := true) ?_ ?_
    · simp
    repeat (first
      | (refine AWP_seq (AWP_regS tOk rfl ?_); simp)
      | (refine AWP_regS tOk rfl ?_; simp)
      | (refine AWP_skip ?_; simp)
      | (refine AWP_exit ?_; simp)
      | (refine AWP_ret ?_; simp)
      | refine AWP_block ?_
      | refine AWP_seq ?_)
    refine AStep_PC rfl rfl (by simp) (pc_asc_contains p c.toNat (by have := c.toNat_lt; omega)) rfl ?_
    rintro _ rfl
    simp
    refine AWP_cond2 rfl (fun h => ?_) (fun h => ?_)
    · repeat (first
        | (refine AWP_seq (AWP_regS tOk rfl ?_); simp)
        | (refine AWP_regS tOk rfl ?_; simp)
        | (refine AWP_skip ?_; simp)
        | (refine AWP_exit ?_; simp)
        | (refine AWP_ret ?_; simp)
        | refine AWP_block ?_
        | refine AWP_seq ?_)
      simp at h
      rw [h] at hr
      simpa using hr
    · have h0 : (1 : Int) ≤ v.length + 1 := by omega
      repeat (first
        | (refine AWP_seq (AWP_regS tOk rfl ?_); simp [h0])
        | (refine AWP_regS tOk rfl ?_; simp [h0])
        | (refine AWP_skip ?_; simp [h0])
        | (refine AWP_exit ?_; simp [h0])
        | (refine AWP_ret ?_; simp [h0])
        | refine AWP_block ?_
        | refine AWP_seq ?_)
      simp at h
      rw [if_pos h] at hr
      refine ALoop_end [] (ih v ⟨by omega, hr⟩ (by simp)) rfl (by simp) ?_ (by simp) (by simp)
      simp

def trimS (cs s : List UInt8) : List UInt8 := (rtrim (fun c => setOf cs c.toNat) s).dropWhile (fun c => setOf cs c.toNat)
theorem rtrim_len (p : UInt8 → Bool) (s : List UInt8) : (rtrim p s).length ≤ s.length := by
  simp only [rtrim, List.length_reverse]
  have := (List.dropWhile_sublist p (l := s.reverse)).length_le
  simpa using this
set_option maxHeartbeats 1000000 in
theorem pc_Trim (cs s : List UInt8) (hcs : ∀ c ∈ cs, c.toNat < 128) (hlen : cs.length ≤ 1000000) (h2 : 2 ≤ cs.length) (hs : s.length ≤ 1000000) (hs0 : s ≠ []) : PC Tryd.prog 52 [.str s, .str cs] (fun r => r = .str (trimS cs s)) := by
  refine PC_body tOk Tryd.func52 rfl Tryd.results52 rfl (by simp [Tryd.ntmps52]) ?_
  rw [Tryd.ntmps52]
  simp only [argSlots]
  repeat (first
    | (refine AWP_seq (AWP_regS tOk rfl ?_); simp)
    | (refine AWP_regS tOk rfl ?_; simp)
    | (refine AWP_skip ?_; simp)
    | (refine AWP_exit ?_; simp)
    | (refine AWP_ret ?_; simp)
    | refine AWP_block ?_
    | refine AWP_seq ?_)
  rcases cs with _ | ⟨a, _ | ⟨b, r⟩⟩
  · simp at h2
  · simp at h2
  generalize hcc : a :: b :: r = cs at *
  have hc0 : cs ≠ [] := by rw [← hcc]; simp
  refine AWP_cond (b := false) (by simp [hs0, hc0]) ?_
  have hne : ((cs.length : Int) == 1) = false := by simp; omega
  have hg : cs[0]? = some a := by rw [← hcc]; rfl
  repeat (first
    | (refine AWP_seq (AWP_regS tOk rfl ?_); simp [hne, hg])
    | (refine AWP_regS tOk rfl ?_; simp [hne, hg])
    | (refine AWP_skip ?_; simp [hne, hg])
    | (refine AWP_exit ?_; simp [hne, hg])
    | (refine AWP_ret ?_; simp [hne, hg])
    | refine AWP_block ?_
    | refine AWP_seq ?_)
  refine AWP_cond rfl ?_
  repeat (first
    | (refine AWP_seq (AWP_regS tOk rfl ?_); simp [-Value.cells, -AV.leaf])
    | (refine AWP_regS tOk rfl ?_; simp [-Value.cells, -AV.leaf])
    | (refine AWP_skip ?_; simp [-Value.cells, -AV.leaf])
    | (refine AWP_exit ?_; simp [-Value.cells, -AV.leaf])
    | (refine AWP_ret ?_; simp [-Value.cells, -AV.leaf])
    | refine AWP_block ?_
    | refine AWP_seq ?_)
  refine AStep_PC rfl rfl (by simp) (pc_makeASCIISet cs hcs hlen) rfl ?_
  rintro _ rfl
  simp [-Value.cells, -AV.leaf]
  repeat (first
    | (refine AWP_seq (AWP_regS tOk rfl ?_); simp [-Value.cells, -AV.leaf])
    | (refine AWP_regS tOk rfl ?_; simp [-Value.cells, -AV.leaf])
    | (refine AWP_skip ?_; simp [-Value.cells, -AV.leaf])
    | (refine AWP_exit ?_; simp [-Value.cells, -AV.leaf])
    | (refine AWP_ret ?_; simp [-Value.cells, -AV.leaf])
    | refine AWP_block ?_
    | refine AWP_seq ?_)
  refine AWP_cond rfl ?_
  repeat (first
    | (refine AWP_seq (AWP_regS tOk rfl ?_); simp)
    | (refine AWP_regS tOk rfl ?_; simp)
    | (refine AWP_skip ?_; simp)
    | (refine AWP_exit ?_; simp)
    | (refine AWP_ret ?_; simp)
    | refine AWP_block ?_
    | refine AWP_seq ?_)
  refine AStep_PCflat rfl rfl (by first | (simp; done) | (simp; rfl)) (pc_trimRightASCII (setOf cs) s hs) rfl ?_
  rintro _ rfl
  refine ⟨by simp, ?_⟩
  simp
  refine AStep_PCflat rfl rfl (by first | (simp; done) | (simp; rfl)) (pc_trimLeftASCII (setOf cs) _ (Nat.le_trans (rtrim_len _ s) hs)) rfl ?_
  rintro _ rfl
  refine ⟨by simp, ?_⟩
  simp
  repeat (first
    | (refine AWP_seq (AWP_regS tOk rfl ?_); simp)
    | (refine AWP_regS tOk rfl ?_; simp)
    | (refine AWP_skip ?_; simp)
    | (refine AWP_exit ?_; simp)
    | (refine AWP_ret ?_; simp)
    | refine AWP_block ?_
    | refine AWP_seq ?_)
  rfl

theorem dw_nil {α : Type} (p : α → Bool) (l : List α) : l.dropWhile p = [] ↔ ∀ x ∈ l, p x = true := by
  induction l with
  | nil => simp
  | cons a l ih =>
    rw [List.dropWhile_cons]
    split
    · rename_i h; rw [ih]; simp [h]
    · rename_i h; simp [h]
theorem dw_mem {α : Type} (p : α → Bool) (l : List α) (x : α) (h : x ∈ l) : p x = true ∨ x ∈ l.dropWhile p := by
  induction l with
  | nil => cases h
  | cons a l ih =>
    rw [List.dropWhile_cons]
    split
    · rename_i ha
      rcases List.mem_cons.1 h with rfl | h
      · exact .inl ha
      · exact ih h
    · exact .inr h
theorem trimS_nil (cs s : List UInt8) : (trimS cs s == []) = s.all (fun c => setOf cs c.toNat) := by
  rw [Bool.eq_iff_iff]
  simp only [beq_iff_eq, trimS, List.all_eq_true]
  rw [dw_nil]
  constructor
  · intro h x hx
    rcases dw_mem (fun c => setOf cs c.toNat) s.reverse x (by simpa using hx) with h1 | h1
    · exact h1
    · exact h x (by simpa [rtrim] using h1)
  · intro h x hx
    refine h x ?_
    have := (List.dropWhile_sublist (fun c : UInt8 => setOf cs c.toNat) (l := s.reverse)).subset (by simpa [rtrim] using hx)
    simpa using this

end Go.Abs
set_option maxRecDepth 100000
namespace Go.Abs
open Go Go.Proofs
set_option linter.unusedSimpArgs false
def hasPre (s p : List UInt8) : Bool := p.isPrefixOf s
theorem hasPre_eq (s p : List UInt8) (h : p.length ≤ s.length) : (s.take p.length == p) = hasPre s p := by
  rw [Bool.eq_iff_iff, beq_iff_eq, hasPre, List.isPrefixOf_iff_prefix, List.prefix_iff_eq_take]
  exact eq_comm
theorem hasPre_short (s p : List UInt8) (h : s.length < p.length) : hasPre s p = false := by
  rw [Bool.eq_false_iff, hasPre]
  intro h'
  have := (List.isPrefixOf_iff_prefix.1 h').length_le
  omega
theorem pc_slHasPrefix (s p : List UInt8) : PC Tryd.prog 48 [.str s, .str p] (fun r => r = .bool (hasPre s p)) := by
  refine PC_body tOk Tryd.func48 rfl Tryd.results48 rfl (by simp [Tryd.ntmps48]) ?_
  rw [Tryd.ntmps48]
  simp only [argSlots]
  by_cases h : p.length ≤ s.length
  · have h' : (p.length : Int) ≤ s.length := by omega
    repeat (first
      | (refine AWP_seq (AWP_regS tOk rfl ?_); simp [h, h'])
      | (refine AWP_regS tOk rfl ?_; simp [h, h'])
      | (refine AWP_skip ?_; simp [h, h'])
      | (refine AWP_exit ?_; simp [h, h'])
      | (refine AWP_ret ?_; simp [h, h'])
      | refine AWP_block ?_
      | refine AWP_seq ?_)
    exact hasPre_eq s p h
  · have h' : ¬ (p.length : Int) ≤ s.length := by omega
    repeat (first
      | (refine AWP_seq (AWP_regS tOk rfl ?_); simp [h, h'])
      | (refine AWP_regS tOk rfl ?_; simp [h, h'])
      | (refine AWP_skip ?_; simp [h, h'])
      | (refine AWP_exit ?_; simp [h, h'])
      | (refine AWP_ret ?_; simp [h, h'])
      | refine AWP_block ?_
      | refine AWP_seq ?_)
    rw [hasPre_short s p (by omega)]
theorem pc_HasPrefix (s p : List UInt8) : PC Tryd.prog 38 [.str s, .str p] (fun r => r = .bool (hasPre s p)) := by
  refine PC_body tOk Tryd.func38 rfl Tryd.results38 rfl (by simp [Tryd.ntmps38]) ?_
  rw [Tryd.ntmps38]
  simp only [argSlots]
  repeat (first
    | (refine AWP_seq (AWP_regS tOk rfl ?_); simp)
    | (refine AWP_regS tOk rfl ?_; simp)
    | (refine AWP_skip ?_; simp)
    | (refine AWP_exit ?_; simp)
    | (refine AWP_ret ?_; simp)
    | refine AWP_block ?_
    | refine AWP_seq ?_)
  refine AStep_PC rfl rfl (by simp) (pc_slHasPrefix s p) rfl ?_
  rintro _ rfl
  simp
  repeat (first
    | (refine AWP_seq (AWP_regS tOk rfl ?_); simp)
    | (refine AWP_regS tOk rfl ?_; simp)
    | (refine AWP_skip ?_; simp)
    | (refine AWP_exit ?_; simp)
    | (refine AWP_ret ?_; simp)
    | refine AWP_block ?_
    | refine AWP_seq ?_)
def trimPre (s p : List UInt8) : List UInt8 := if hasPre s p = true then s.drop p.length else s
theorem pc_slTrimPrefix (s p : List UInt8) : PC Tryd.prog 61 [.str s, .str p] (fun r => r = .str (trimPre s p)) := by
  refine PC_body tOk Tryd.func61 rfl Tryd.results61 rfl (by simp [Tryd.ntmps61]) ?_
  rw [Tryd.ntmps61]
  simp only [argSlots]
  repeat (first
    | (refine AWP_seq (AWP_regS tOk rfl ?_); simp)
    | (refine AWP_regS tOk rfl ?_; simp)
    | (refine AWP_skip ?_; simp)
    | (refine AWP_exit ?_; simp)
    | (refine AWP_ret ?_; simp)
    | refine AWP_block ?_
    | refine AWP_seq ?_)
  refine AStep_PC rfl rfl (by simp) (pc_slHasPrefix s p) rfl ?_
  rintro _ rfl
  simp
  repeat (first
    | (refine AWP_seq (AWP_regS tOk rfl ?_); simp)
    | (refine AWP_regS tOk rfl ?_; simp)
    | (refine AWP_skip ?_; simp)
    | (refine AWP_exit ?_; simp)
    | (refine AWP_ret ?_; simp)
    | refine AWP_block ?_
    | refine AWP_seq ?_)
  refine AWP_cond2 rfl (fun h => ?_) (fun h => ?_)
  · have hl : p.length ≤ s.length := by
      by_cases hl : p.length ≤ s.length
      · exact hl
      · rw [hasPre_short s p (by omega)] at h; cases h
    have h' : (p.length : Int) ≤ s.length := by omega
    repeat (first
      | (refine AWP_seq (AWP_regS tOk rfl ?_); simp [hl, h'])
      | (refine AWP_regS tOk rfl ?_; simp [hl, h'])
      | (refine AWP_skip ?_; simp [hl, h'])
      | (refine AWP_exit ?_; simp [hl, h'])
      | (refine AWP_ret ?_; simp [hl, h'])
      | refine AWP_block ?_
      | refine AWP_seq ?_)
    rw [trimPre, ite_t h]
  · repeat (first
      | (refine AWP_seq (AWP_regS tOk rfl ?_); simp)
      | (refine AWP_regS tOk rfl ?_; simp)
      | (refine AWP_skip ?_; simp)
      | (refine AWP_exit ?_; simp)
      | (refine AWP_ret ?_; simp)
      | refine AWP_block ?_
      | refine AWP_seq ?_)
    rw [trimPre, ite_f h]
theorem pc_TrimPrefix (s p : List UInt8) : PC Tryd.prog 51 [.str s, .str p] (fun r => r = .str (trimPre s p)) := by
  refine PC_body tOk Tryd.func51 rfl Tryd.results51 rfl (by simp [Tryd.ntmps51]) ?_
  rw [Tryd.ntmps51]
  simp only [argSlots]
  repeat (first
    | (refine AWP_seq (AWP_regS tOk rfl ?_); simp)
    | (refine AWP_regS tOk rfl ?_; simp)
    | (refine AWP_skip ?_; simp)
    | (refine AWP_exit ?_; simp)
    | (refine AWP_ret ?_; simp)
    | refine AWP_block ?_
    | refine AWP_seq ?_)
  refine AStep_PC rfl rfl (by simp) (pc_slTrimPrefix s p) rfl ?_
  rintro _ rfl
  simp
  repeat (first
    | (refine AWP_seq (AWP_regS tOk rfl ?_); simp)
    | (refine AWP_regS tOk rfl ?_; simp)
    | (refine AWP_skip ?_; simp)
    | (refine AWP_exit ?_; simp)
    | (refine AWP_ret ?_; simp)
    | refine AWP_block ?_
    | refine AWP_seq ?_)
end Go.Abs
set_option maxRecDepth 100000
namespace Go.Abs
open Go Go.Proofs
set_option linter.unusedSimpArgs false
def isD (c : UInt8) : Bool := decide (48 ≤ c.toNat) && decide (c.toNat ≤ 57)
def dstep (n : Int) (c : UInt8) : Int := n * 10 + ((c.toNat : Int) - 48)
def dval (s : List UInt8) : Int := s.foldl dstep 0
theorem dval_snoc (s : List UInt8) (c : UInt8) : dval (s ++ [c]) = dstep (dval s) c := by simp [dval]
theorem isD_iff (c : UInt8) : isD c = true ↔ 48 ≤ c.toNat ∧ c.toNat ≤ 57 := by simp [isD]
theorem dval_take (s : List UInt8) (hd : s.all isD = true) (hl : s.length ≤ 15) (j : Nat) (hj : j ≤ s.length) : 0 ≤ dval (s.take j) ∧ dval (s.take j) < 10 ^ j := by
  induction j with
  | zero => simp [dval]
  | succ j ih =>
    have h := ih (by omega)
    have hlt : j < s.length := by omega
    rw [List.take_succ_eq_append_getElem hlt, dval_snoc, dstep]
    have hc := (isD_iff s[j]).1 (List.all_eq_true.1 hd _ (List.getElem_mem hlt))
    rw [Int.pow_succ]
    omega
theorem pow_le15 (j : Nat) (h : j ≤ 15) : (10 : Int) ^ j ≤ 1000000000000000 := by
  have : (10 : Nat) ^ j ≤ 10 ^ 15 := Nat.pow_le_pow_right (by omega) h
  have h2 : ((10 ^ j : Nat) : Int) ≤ ((10 ^ 15 : Nat) : Int) := by exact_mod_cast this
  simpa using h2
set_option maxHeartbeats 1000000 in
theorem pc_iAtoi (s : List UInt8) (h0 : s ≠ []) (hl : s.length ≤ 15) (hd : s.all isD = true) : PC Tryd.prog 69 [.str s] (fun r => r = .tup [.i (dval s), .nili]) := by
  refine PC_body tOk Tryd.func69 rfl Tryd.results69 rfl (by simp [Tryd.ntmps69]) ?_
  rw [Tryd.ntmps69]
  simp only [argSlots]
  have hp : 0 < s.length := List.length_pos_iff.2 h0
  have hp2 : (s.length : Int) < 19 := by omega
  have hc0 := (isD_iff s[0]).1 (List.all_eq_true.1 hd _ (List.getElem_mem hp))
  have hn1 : ((s[0].toNat : Int) == 45) = false := by simp; omega
  have hn2 : ((s[0].toNat : Int) == 43) = false := by simp; omega
  repeat (first
    | (refine AWP_seq (AWP_regS tOk rfl ?_); simp [h0, hp, hp2])
    | (refine AWP_regS tOk rfl ?_; simp [h0, hp, hp2])
    | (refine AWP_skip ?_; simp [h0, hp, hp2])
    | (refine AWP_exit ?_; simp [h0, hp, hp2])
    | (refine AWP_ret ?_; simp [h0, hp, hp2])
    | refine AWP_block ?_
    | refine AWP_seq ?_)
  refine AWP_cond rfl ?_
  repeat (first
    | (refine AWP_seq (AWP_regS tOk rfl ?_); simp [hp, hn1, hn2])
    | (refine AWP_regS tOk rfl ?_; simp [hp, hn1, hn2])
    | (refine AWP_skip ?_; simp [hp, hn1, hn2])
    | (refine AWP_exit ?_; simp [hp, hn1, hn2])
    | (refine AWP_ret ?_; simp [hp, hn1, hn2])
    | refine AWP_block ?_
    | refine AWP_seq ?_)
  refine AWP_cond rfl ?_
  repeat (first
    | (refine AWP_seq (AWP_regS tOk rfl ?_); simp)
    | (refine AWP_regS tOk rfl ?_; simp)
    | (refine AWP_skip ?_; simp)
    | (refine AWP_exit ?_; simp)
    | (refine AWP_ret ?_; simp)
    | refine AWP_block ?_
    | refine AWP_seq ?_)
  refine AStep_toBytes tOk rfl rfl T42 rfl T5 rfl T9 rfl (by omega) rfl ?_
  simp
  repeat (first
    | (refine AWP_seq (AWP_regS tOk rfl ?_); simp)
    | (refine AWP_regS tOk rfl ?_; simp)
    | (refine AWP_skip ?_; simp)
    | (refine AWP_exit ?_; simp)
    | (refine AWP_ret ?_; simp)
    | refine AWP_block ?_
    | refine AWP_seq ?_)
  refine AWP_count s.length (fun j => [(5, .str s), (6, .i (dval (s.take j))), (47, .list (s.map byteAV)), (48, .i s.length), (49, .i j)]) (fun _ => []) (G := []) rfl (by simp) (by simp [dval]) (by simp) (by simp) ?_
  intro j hj ih
  repeat (first
    | (refine AWP_seq (AWP_regS tOk rfl ?_); simp)
    | (refine AWP_regS tOk rfl ?_; simp)
    | (refine AWP_skip ?_; simp)
    | (refine AWP_exit ?_; simp)
    | (refine AWP_ret ?_; simp)
    | refine AWP_block ?_
    | refine AWP_seq ?_)
  refine AWP_cond2 rfl (fun hlt => ?_) (fun hge => ?_)
  · have hlt' : j < s.length := by simpa using hlt
    have hc := (isD_iff s[j]).1 (List.all_eq_true.1 hd _ (List.getElem_mem hlt'))
    have hw : IntKind.i64.wrap ((j : Int) + 1) = j + 1 := wrap_i64 _ (by omega) (by omega)
    have hu : IntKind.u8.wrap ((s[j].toNat : Int) - 48) = (s[j].toNat : Int) - 48 := by rw [IntKind.wrap_u8]; omega
    have hb := dval_take s hd hl j hj
    have hb2 := pow_le15 j (by omega)
    have e1 : IntKind.i64.wrap (dval (s.take j) * 10) = dval (s.take j) * 10 := wrap_i64 _ (by omega) (by omega)
    have e2 : IntKind.i64.wrap ((s[j].toNat : Int) - 48) = (s[j].toNat : Int) - 48 := wrap_i64 _ (by omega) (by omega)
    have e3 : IntKind.i64.wrap (dval (s.take j) * 10 + ((s[j].toNat : Int) - 48)) = dval (s.take j) * 10 + ((s[j].toNat : Int) - 48) := wrap_i64 _ (by omega) (by omega)
    have hf : dval (s.take (j + 1)) = dval (s.take j) * 10 + ((s[j].toNat : Int) - 48) := by rw [List.take_succ_eq_append_getElem hlt', dval_snoc, dstep]
    repeat (first
      | (refine AWP_seq (AWP_regS tOk rfl ?_); simp [hlt', hu])
      | (refine AWP_regS tOk rfl ?_; simp [hlt', hu])
      | (refine AWP_skip ?_; simp [hlt', hu])
      | (refine AWP_exit ?_; simp [hlt', hu])
      | (refine AWP_ret ?_; simp [hlt', hu])
      | refine AWP_block ?_
      | refine AWP_seq ?_)
    refine AWP_cond (b := false) ?_ ?_
    · simp; omega
    repeat (first
      | (refine AWP_seq (AWP_regS tOk rfl ?_); simp [e1, e2, e3, hw])
      | (refine AWP_regS tOk rfl ?_; simp [e1, e2, e3, hw])
      | (refine AWP_skip ?_; simp [e1, e2, e3, hw])
      | (refine AWP_exit ?_; simp [e1, e2, e3, hw])
      | (refine AWP_ret ?_; simp [e1, e2, e3, hw])
      | refine AWP_block ?_
      | refine AWP_seq ?_)
    refine ALoop_end [] (ih hlt') rfl (by simp) ?_ (by simp) (by simp)
    rw [hf]
    simp
  · have hge' : j = s.length := by simp at hge; omega
    subst hge'
    rw [List.take_length]
    repeat (first
      | (refine AWP_seq (AWP_regS tOk rfl ?_); simp [hp, hn1])
      | (refine AWP_regS tOk rfl ?_; simp [hp, hn1])
      | (refine AWP_skip ?_; simp [hp, hn1])
      | (refine AWP_exit ?_; simp [hp, hn1])
      | (refine AWP_ret ?_; simp [hp, hn1])
      | refine AWP_block ?_
      | refine AWP_seq ?_)
    refine AWP_cond rfl ?_
    repeat (first
      | (refine AWP_seq (AWP_regS tOk rfl ?_); simp)
      | (refine AWP_regS tOk rfl ?_; simp)
      | (refine AWP_skip ?_; simp)
      | (refine AWP_exit ?_; simp)
      | (refine AWP_ret ?_; simp)
      | refine AWP_block ?_
      | refine AWP_seq ?_)
theorem pc_Atoi (s : List UInt8) (h0 : s ≠ []) (hl : s.length ≤ 15) (hd : s.all isD = true) : PC Tryd.prog 53 [.str s] (fun r => r = .tup [.i (dval s), .nili]) := by
  refine PC_body tOk Tryd.func53 rfl Tryd.results53 rfl (by simp [Tryd.ntmps53]) ?_
  rw [Tryd.ntmps53]
  simp only [argSlots]
  repeat (first
    | (refine AWP_seq (AWP_regS tOk rfl ?_); simp)
    | (refine AWP_regS tOk rfl ?_; simp)
    | (refine AWP_skip ?_; simp)
    | (refine AWP_exit ?_; simp)
    | (refine AWP_ret ?_; simp)
    | refine AWP_block ?_
    | refine AWP_seq ?_)
  refine AStep_PC rfl rfl (by simp) (pc_iAtoi s h0 hl hd) rfl ?_
  rintro _ rfl
  simp
  repeat (first
    | (refine AWP_seq (AWP_regS tOk rfl ?_); simp)
    | (refine AWP_regS tOk rfl ?_; simp)
    | (refine AWP_skip ?_; simp)
    | (refine AWP_exit ?_; simp)
    | (refine AWP_ret ?_; simp)
    | refine AWP_block ?_
    | refine AWP_seq ?_)
  refine AStep_nilI (b := false) tOk rfl rfl rfl T77 rfl rfl ?_
  simp
  repeat (first
    | (refine AWP_seq (AWP_regS tOk rfl ?_); simp)
    | (refine AWP_regS tOk rfl ?_; simp)
    | (refine AWP_skip ?_; simp)
    | (refine AWP_exit ?_; simp)
    | (refine AWP_ret ?_; simp)
    | refine AWP_block ?_
    | refine AWP_seq ?_)
  refine AWP_cond rfl ?_
  repeat (first
    | (refine AWP_seq (AWP_regS tOk rfl ?_); simp)
    | (refine AWP_regS tOk rfl ?_; simp)
    | (refine AWP_skip ?_; simp)
    | (refine AWP_exit ?_; simp)
    | (refine AWP_ret ?_; simp)
    | refine AWP_block ?_
    | refine AWP_seq ?_)
end Go.Abs
set_option maxRecDepth 100000
namespace Go.Abs
open Go Go.Proofs
set_option linter.unusedSimpArgs false
def digs : List UInt8 := [48, 49, 50, 51, 52, 53, 54, 55, 56, 57]
theorem digs_ok : ∀ n : Fin 256, setOf digs n.val = (decide (48 ≤ n.val) && decide (n.val ≤ 57)) := by decide +kernel
theorem digs_set (c : UInt8) : setOf digs c.toNat = isD c := digs_ok ⟨c.toNat, c.toNat_lt⟩
theorem digs_lt : ∀ c ∈ digs, c.toNat < 128 := by decide +kernel
theorem trim_digs (t : List UInt8) : (trimS digs t == []) = t.all isD := by
  rw [trimS_nil]
  congr 1
  funext c
  exact digs_set c
theorem trim_digs' (t : List UInt8) : (trimS digs t).isEmpty = t.all isD := by
  rw [← trim_digs]; cases trimS digs t <;> rfl
theorem isEmpty_eq (t : List UInt8) : t.isEmpty = (t == []) := by cases t <;> rfl
def intB (t s : List UInt8) : Bool := match t with
  | [] => false
  | c :: r => (c :: r).all isD && !(((c.toNat : Int) == 48) && !(s == [48]))
def intV (t s : List UInt8) : Int := if decide (t.length < s.length) = true then W (0 - dval (t.take 15)) else dval (t.take 15)
def intR (s : List UInt8) : Int × Bool := if intB (trimPre s [45]) s = true then (intV (trimPre s [45]) s, true) else (0, false)
attribute [local irreducible] trimS dval isD trimPre
set_option maxHeartbeats 1000000 in
theorem pc_integer (s : List UInt8) (hs : s.length ≤ 1000000) : PC Tryd.prog 40 [.str s] (fun r => r = .tup [.i (intR s).1, .bool (intR s).2]) := by
  refine PC_body tOk Tryd.func40 rfl Tryd.results40 rfl (by simp [Tryd.ntmps40]) ?_
  rw [Tryd.ntmps40]
  simp only [argSlots]
  repeat (first
    | (refine AWP_seq (AWP_regS tOk rfl ?_); simp)
    | (refine AWP_regS tOk rfl ?_; simp)
    | (refine AWP_skip ?_; simp)
    | (refine AWP_exit ?_; simp)
    | (refine AWP_ret ?_; simp)
    | refine AWP_block ?_
    | refine AWP_seq ?_)
  refine AStep_PC rfl rfl (by simp) (pc_TrimPrefix s [45]) rfl ?_
  rintro _ rfl
  simp
  have htl : (trimPre s [45]).length ≤ s.length := by unfold trimPre; split <;> simp
  rw [intR]
  generalize ht : trimPre s [45] = t at *
  repeat (first
    | (refine AWP_seq (AWP_regS tOk rfl ?_); simp)
    | (refine AWP_regS tOk rfl ?_; simp)
    | (refine AWP_skip ?_; simp)
    | (refine AWP_exit ?_; simp)
    | (refine AWP_ret ?_; simp)
    | refine AWP_block ?_
    | refine AWP_seq ?_)
  rcases t with _ | ⟨c, t⟩
  · repeat (first
      | (refine AWP_seq (AWP_regS tOk rfl ?_); simp)
      | (refine AWP_regS tOk rfl ?_; simp)
      | (refine AWP_skip ?_; simp)
      | (refine AWP_exit ?_; simp)
      | (refine AWP_ret ?_; simp)
      | refine AWP_block ?_
      | refine AWP_seq ?_)
    refine AStep_skip rfl rfl ?_
    simp
    repeat (first
      | (refine AWP_seq (AWP_regS tOk rfl ?_); simp)
      | (refine AWP_regS tOk rfl ?_; simp)
      | (refine AWP_skip ?_; simp)
      | (refine AWP_exit ?_; simp)
      | (refine AWP_ret ?_; simp)
      | refine AWP_block ?_
      | refine AWP_seq ?_)
    refine AWP_cond rfl ?_
    repeat (first
      | (refine AWP_seq (AWP_regS tOk rfl ?_); simp)
      | (refine AWP_regS tOk rfl ?_; simp)
      | (refine AWP_skip ?_; simp)
      | (refine AWP_exit ?_; simp)
      | (refine AWP_ret ?_; simp)
      | refine AWP_block ?_
      | refine AWP_seq ?_)
    simp [intB]
  refine AStep_PC rfl rfl (by simp) (pc_Trim digs (c :: t) digs_lt (by decide) (by decide) (by omega) (by simp)) rfl ?_
  rintro _ rfl
  simp
  repeat (first
    | (refine AWP_seq (AWP_regS tOk rfl ?_); simp)
    | (refine AWP_regS tOk rfl ?_; simp)
    | (refine AWP_skip ?_; simp)
    | (refine AWP_exit ?_; simp)
    | (refine AWP_ret ?_; simp)
    | refine AWP_block ?_
    | refine AWP_seq ?_)
  rw [trim_digs']
  have hb : intB (c :: t) s = !(!(c :: t).all isD || (((c.toNat : Int) == 48) && !(s == [48]))) := by simp [intB]
  refine AWP_cond2 rfl (fun h1 => ?_) (fun h1 => ?_)
  · repeat (first
      | (refine AWP_seq (AWP_regS tOk rfl ?_); simp)
      | (refine AWP_regS tOk rfl ?_; simp)
      | (refine AWP_skip ?_; simp)
      | (refine AWP_exit ?_; simp)
      | (refine AWP_ret ?_; simp)
      | refine AWP_block ?_
      | refine AWP_seq ?_)
    rw [ite_f (by rw [hb, h1]; rfl)]
    exact ⟨rfl, rfl⟩
  have hbt : intB (c :: t) s = true := by rw [hb, h1]; rfl
  have hd : (c :: t).all isD = true := by
    have := Bool.or_eq_false_iff.1 h1
    simpa using this.1
  rw [ite_t hbt]
  obtain ⟨u, hu⟩ : ∃ u, (c :: t).take 15 = u := ⟨_, rfl⟩
  have hu0 : u ≠ [] := by rw [← hu]; simp
  have hul : u.length ≤ 15 := by rw [← hu]; simp; omega
  have hud : u.all isD = true := by
    rw [List.all_eq_true] at hd ⊢
    intro x hx
    rw [← hu] at hx
    exact hd x (List.mem_of_mem_take hx)
  obtain ⟨R, hR⟩ : ∃ R, intV (c :: t) s = R := ⟨_, rfl⟩
  rw [hR]
  have hlt15 : t.length + 1 ≤ s.length := by simpa using htl
  repeat (first
    | (refine AWP_seq (AWP_regS tOk rfl ?_); simp)
    | (refine AWP_regS tOk rfl ?_; simp)
    | (refine AWP_skip ?_; simp)
    | (refine AWP_exit ?_; simp)
    | (refine AWP_ret ?_; simp)
    | refine AWP_block ?_
    | refine AWP_seq ?_)
  refine AWP_cond2 rfl (fun h2 => ?_) (fun h2 => ?_)
  · have hl : (15 : Int) ≤ (t.length : Int) + 1 := by simp at h2; omega
    have he : c :: List.take 14 t = u := by rw [← hu]; rfl
    repeat (first
      | (refine AWP_seq (AWP_regS tOk rfl ?_); simp [hl, he])
      | (refine AWP_regS tOk rfl ?_; simp [hl, he])
      | (refine AWP_skip ?_; simp [hl, he])
      | (refine AWP_exit ?_; simp [hl, he])
      | (refine AWP_ret ?_; simp [hl, he])
      | refine AWP_block ?_
      | refine AWP_seq ?_)
    refine AStep_PC rfl rfl (by simp) (pc_Atoi u hu0 hul hud) rfl ?_
    rintro _ rfl
    simp
    repeat (first
      | (refine AWP_seq (AWP_regS tOk rfl ?_); simp)
      | (refine AWP_regS tOk rfl ?_; simp)
      | (refine AWP_skip ?_; simp)
      | (refine AWP_exit ?_; simp)
      | (refine AWP_ret ?_; simp)
      | refine AWP_block ?_
      | refine AWP_seq ?_)
    refine AStep_PC rfl rfl (by simp) (pc_TrimPrefix s [45]) rfl ?_
    rintro _ rfl
    simp
    rw [ht]
    repeat (first
      | (refine AWP_seq (AWP_regS tOk rfl ?_); simp)
      | (refine AWP_regS tOk rfl ?_; simp)
      | (refine AWP_skip ?_; simp)
      | (refine AWP_exit ?_; simp)
      | (refine AWP_ret ?_; simp)
      | refine AWP_block ?_
      | refine AWP_seq ?_)
    refine AWP_cond2 rfl (fun h3 => ?_) (fun h3 => ?_)
    · repeat (first
        | (refine AWP_seq (AWP_regS tOk rfl ?_); simp)
        | (refine AWP_regS tOk rfl ?_; simp)
        | (refine AWP_skip ?_; simp)
        | (refine AWP_exit ?_; simp)
        | (refine AWP_ret ?_; simp)
        | refine AWP_block ?_
        | refine AWP_seq ?_)
      rw [← hR, intV, hu, ite_t (by simpa using h3)]
      simp
    · repeat (first
        | (refine AWP_seq (AWP_regS tOk rfl ?_); simp)
        | (refine AWP_regS tOk rfl ?_; simp)
        | (refine AWP_skip ?_; simp)
        | (refine AWP_exit ?_; simp)
        | (refine AWP_ret ?_; simp)
        | refine AWP_block ?_
        | refine AWP_seq ?_)
      rw [← hR, intV, hu, ite_f (by simpa using h3)]
  · have he : c :: t = u := by rw [← hu]; symm; apply List.take_of_length_le; simp at h2; simp; omega
    repeat (first
      | (refine AWP_seq (AWP_regS tOk rfl ?_); simp)
      | (refine AWP_regS tOk rfl ?_; simp)
      | (refine AWP_skip ?_; simp)
      | (refine AWP_exit ?_; simp)
      | (refine AWP_ret ?_; simp)
      | refine AWP_block ?_
      | refine AWP_seq ?_)
    rw [he]
    refine AStep_PC rfl rfl (by simp) (pc_Atoi u hu0 hul hud) rfl ?_
    rintro _ rfl
    simp
    repeat (first
      | (refine AWP_seq (AWP_regS tOk rfl ?_); simp)
      | (refine AWP_regS tOk rfl ?_; simp)
      | (refine AWP_skip ?_; simp)
      | (refine AWP_exit ?_; simp)
      | (refine AWP_ret ?_; simp)
      | refine AWP_block ?_
      | refine AWP_seq ?_)
    refine AStep_PC rfl rfl (by simp) (pc_TrimPrefix s [45]) rfl ?_
    rintro _ rfl
    simp
    rw [ht]
    repeat (first
      | (refine AWP_seq (AWP_regS tOk rfl ?_); simp)
      | (refine AWP_regS tOk rfl ?_; simp)
      | (refine AWP_skip ?_; simp)
      | (refine AWP_exit ?_; simp)
      | (refine AWP_ret ?_; simp)
      | refine AWP_block ?_
      | refine AWP_seq ?_)
    refine AWP_cond2 rfl (fun h3 => ?_) (fun h3 => ?_)
    · repeat (first
        | (refine AWP_seq (AWP_regS tOk rfl ?_); simp)
        | (refine AWP_regS tOk rfl ?_; simp)
        | (refine AWP_skip ?_; simp)
        | (refine AWP_exit ?_; simp)
        | (refine AWP_ret ?_; simp)
        | refine AWP_block ?_
        | refine AWP_seq ?_)
      rw [← hR, intV, hu, ite_t (by simpa using h3)]
      simp
    · repeat (first
        | (refine AWP_seq (AWP_regS tOk rfl ?_); simp)
        | (refine AWP_regS tOk rfl ?_; simp)
        | (refine AWP_skip ?_; simp)
        | (refine AWP_exit ?_; simp)
        | (refine AWP_ret ?_; simp)
        | refine AWP_block ?_
        | refine AWP_seq ?_)
      rw [← hR, intV, hu, ite_f (by simpa using h3)]
end Go.Abs
set_option maxRecDepth 100000
namespace Go.Abs
open Go Go.Proofs
set_option linter.unusedSimpArgs false
def sTrue : List UInt8 := [116, 114, 117, 101]
def sFalse : List UInt8 := [102, 97, 108, 115, 101]
def unqR (s : List UInt8) : List UInt8 × Bool := unqF (s.length - 1) (s.drop 1) []
def parseR (s : List UInt8) : Val × Int :=
  if decide ((65536 : Int) < s.length) = true then (zeroV, 13)
  else if (s == sTrue || s == sFalse) = true then (boolV (s == sTrue), 0)
  else if hasPre s [34] = true then (if (!(unqR s).2) = true then (zeroV, 4) else checkedV ⟨2, 0, (unqR s).1⟩)
  else if (!(intR s).2) = true then (zeroV, 4) else checkedV ⟨0, (intR s).1, []⟩
attribute [local irreducible] unqF intR hasPre checkedV boolV
set_option maxHeartbeats 1000000 in
theorem pc_Parse (s : List UInt8) : PC Tryd.prog 21 [.str s] (fun r => r = .tup [encV (parseR s).1, .i (parseR s).2]) := by
  refine PC_body tOk Tryd.func21 rfl Tryd.results21 rfl (by simp [Tryd.ntmps21]) ?_
  rw [Tryd.ntmps21]
  simp only [argSlots]
  repeat (first
    | (refine AWP_seq (AWP_regS tOk rfl ?_); simp)
    | (refine AWP_regS tOk rfl ?_; simp)
    | (refine AWP_skip ?_; simp)
    | (refine AWP_exit ?_; simp)
    | (refine AWP_ret ?_; simp)
    | refine AWP_block ?_
    | refine AWP_seq ?_)
  refine AWP_cond2 rfl (fun h => ?_) (fun h => ?_)
  · repeat (first
      | (refine AWP_seq (AWP_regS tOk rfl ?_); simp)
      | (refine AWP_regS tOk rfl ?_; simp)
      | (refine AWP_skip ?_; simp)
      | (refine AWP_exit ?_; simp)
      | (refine AWP_ret ?_; simp)
      | refine AWP_block ?_
      | refine AWP_seq ?_)
    rw [parseR, ite_t h]
    simp [zeroV]
  have hs : s.length ≤ 65536 := by simp at h; omega
  repeat (first
    | (refine AWP_seq (AWP_regS tOk rfl ?_); simp)
    | (refine AWP_regS tOk rfl ?_; simp)
    | (refine AWP_skip ?_; simp)
    | (refine AWP_exit ?_; simp)
    | (refine AWP_ret ?_; simp)
    | refine AWP_block ?_
    | refine AWP_seq ?_)
  refine AWP_cond2 rfl (fun h1 : (s == sTrue || s == sFalse) = true => ?_) (fun h1 : (s == sTrue || s == sFalse) = false => ?_)
  · repeat (first
      | (refine AWP_seq (AWP_regS tOk rfl ?_); simp)
      | (refine AWP_regS tOk rfl ?_; simp)
      | (refine AWP_skip ?_; simp)
      | (refine AWP_exit ?_; simp)
      | (refine AWP_ret ?_; simp)
      | refine AWP_block ?_
      | refine AWP_seq ?_)
    refine AStep_PC rfl rfl (by simp) (pc_Bool (s == sTrue)) rfl ?_
    rintro _ rfl
    simp
    repeat (first
      | (refine AWP_seq (AWP_regS tOk rfl ?_); simp)
      | (refine AWP_regS tOk rfl ?_; simp)
      | (refine AWP_skip ?_; simp)
      | (refine AWP_exit ?_; simp)
      | (refine AWP_ret ?_; simp)
      | refine AWP_block ?_
      | refine AWP_seq ?_)
    rw [parseR, ite_f h, ite_t h1]
    simp
  repeat (first
    | (refine AWP_seq (AWP_regS tOk rfl ?_); simp)
    | (refine AWP_regS tOk rfl ?_; simp)
    | (refine AWP_skip ?_; simp)
    | (refine AWP_exit ?_; simp)
    | (refine AWP_ret ?_; simp)
    | refine AWP_block ?_
    | refine AWP_seq ?_)
  refine AStep_PC rfl rfl (by simp) (pc_HasPrefix s [34]) rfl ?_
  rintro _ rfl
  simp
  repeat (first
    | (refine AWP_seq (AWP_regS tOk rfl ?_); simp)
    | (refine AWP_regS tOk rfl ?_; simp)
    | (refine AWP_skip ?_; simp)
    | (refine AWP_exit ?_; simp)
    | (refine AWP_ret ?_; simp)
    | refine AWP_block ?_
    | refine AWP_seq ?_)
  refine AWP_cond2 rfl (fun h2 => ?_) (fun h2 => ?_)
  · repeat (first
      | (refine AWP_seq (AWP_regS tOk rfl ?_); simp)
      | (refine AWP_regS tOk rfl ?_; simp)
      | (refine AWP_skip ?_; simp)
      | (refine AWP_exit ?_; simp)
      | (refine AWP_ret ?_; simp)
      | refine AWP_block ?_
      | refine AWP_seq ?_)
    obtain ⟨c, u, rfl⟩ : ∃ c u, s = c :: u := by
      cases s with
      | nil => rw [hasPre_short [] [34] (by simp)] at h2; cases h2
      | cons c u => exact ⟨c, u, rfl⟩
    refine AStep_PC rfl rfl (by simp) (pc_unquoted c u (by simp at hs; omega)) rfl ?_
    rintro _ rfl
    simp
    repeat (first
      | (refine AWP_seq (AWP_regS tOk rfl ?_); simp)
      | (refine AWP_regS tOk rfl ?_; simp)
      | (refine AWP_skip ?_; simp)
      | (refine AWP_exit ?_; simp)
      | (refine AWP_ret ?_; simp)
      | refine AWP_block ?_
      | refine AWP_seq ?_)
    have hu : unqR (c :: u) = unqF u.length u [] := rfl
    refine AWP_cond2 rfl (fun h3 => ?_) (fun h3 => ?_)
    · repeat (first
        | (refine AWP_seq (AWP_regS tOk rfl ?_); simp)
        | (refine AWP_regS tOk rfl ?_; simp)
        | (refine AWP_skip ?_; simp)
        | (refine AWP_exit ?_; simp)
        | (refine AWP_ret ?_; simp)
        | refine AWP_block ?_
        | refine AWP_seq ?_)
      rw [parseR, ite_f h, ite_f h1, ite_t h2, hu, ite_t h3]
      simp [zeroV]
    · repeat (first
        | (refine AWP_seq (AWP_regS tOk rfl ?_); simp)
        | (refine AWP_regS tOk rfl ?_; simp)
        | (refine AWP_skip ?_; simp)
        | (refine AWP_exit ?_; simp)
        | (refine AWP_ret ?_; simp)
        | refine AWP_block ?_
        | refine AWP_seq ?_)
      refine AStep_PC rfl rfl (by simp) (pc_String (unqF u.length u []).1) rfl ?_
      rintro _ rfl
      simp
      repeat (first
        | (refine AWP_seq (AWP_regS tOk rfl ?_); simp)
        | (refine AWP_regS tOk rfl ?_; simp)
        | (refine AWP_skip ?_; simp)
        | (refine AWP_exit ?_; simp)
        | (refine AWP_ret ?_; simp)
        | refine AWP_block ?_
        | refine AWP_seq ?_)
      rw [parseR, ite_f h, ite_f h1, ite_t h2, hu, ite_f h3]
      simp
  · repeat (first
      | (refine AWP_seq (AWP_regS tOk rfl ?_); simp)
      | (refine AWP_regS tOk rfl ?_; simp)
      | (refine AWP_skip ?_; simp)
      | (refine AWP_exit ?_; simp)
      | (refine AWP_ret ?_; simp)
      | refine AWP_block ?_
      | refine AWP_seq ?_)
    refine AStep_PC rfl rfl (by simp) (pc_integer s (by omega)) rfl ?_
    rintro _ rfl
    simp
    repeat (first
      | (refine AWP_seq (AWP_regS tOk rfl ?_); simp)
      | (refine AWP_regS tOk rfl ?_; simp)
      | (refine AWP_skip ?_; simp)
      | (refine AWP_exit ?_; simp)
      | (refine AWP_ret ?_; simp)
      | refine AWP_block ?_
      | refine AWP_seq ?_)
    refine AWP_cond2 rfl (fun h3 => ?_) (fun h3 => ?_)
    · repeat (first
        | (refine AWP_seq (AWP_regS tOk rfl ?_); simp)
        | (refine AWP_regS tOk rfl ?_; simp)
        | (refine AWP_skip ?_; simp)
        | (refine AWP_exit ?_; simp)
        | (refine AWP_ret ?_; simp)
        | refine AWP_block ?_
        | refine AWP_seq ?_)
      rw [parseR, ite_f h, ite_f h1, ite_f h2, ite_t h3]
      simp [zeroV]
    · repeat (first
        | (refine AWP_seq (AWP_regS tOk rfl ?_); simp)
        | (refine AWP_regS tOk rfl ?_; simp)
        | (refine AWP_skip ?_; simp)
        | (refine AWP_exit ?_; simp)
        | (refine AWP_ret ?_; simp)
        | refine AWP_block ?_
        | refine AWP_seq ?_)
      refine AStep_PC rfl rfl (by simp) (pc_Int (intR s).1) rfl ?_
      rintro _ rfl
      simp
      repeat (first
        | (refine AWP_seq (AWP_regS tOk rfl ?_); simp)
        | (refine AWP_regS tOk rfl ?_; simp)
        | (refine AWP_skip ?_; simp)
        | (refine AWP_exit ?_; simp)
        | (refine AWP_ret ?_; simp)
        | refine AWP_block ?_
        | refine AWP_seq ?_)
      rw [parseR, ite_f h, ite_f h1, ite_f h2, ite_f h3]
      simp
end Go.Abs
set_option maxRecDepth 100000
namespace Go.Abs
open Go Go.Proofs
set_option linter.unusedSimpArgs false
theorem pc_ret1 (c : UInt8) : PC Tryd.prog 28 [.int .u8 c.toNat] (fun r => r = .bool (decide ((c.toNat : Int) < 32) || decide ((126 : Int) < c.toNat))) := by
  refine PC_body tOk Tryd.func28 rfl Tryd.results28 rfl (by simp [Tryd.ntmps28]) ?_
  rw [Tryd.ntmps28]
  simp only [argSlots]
  repeat (first
    | (refine AWP_seq (AWP_regS tOk rfl ?_); simp)
    | (refine AWP_regS tOk rfl ?_; simp)
    | (refine AWP_skip ?_; simp)
    | (refine AWP_exit ?_; simp)
    | (refine AWP_ret ?_; simp)
    | refine AWP_block ?_
    | refine AWP_seq ?_)
def ixF (p : UInt8 → Bool) : List UInt8 → Nat → Int
  | [], _ => -1
  | c :: r, i => if p c = true then i else ixF p r (i + 1)
theorem ixF_any (p : UInt8 → Bool) (s : List UInt8) (i : Nat) : decide (0 ≤ ixF p s i) = s.any p := by
  induction s generalizing i with
  | nil => rfl
  | cons c r ih =>
    rw [ixF, List.any_cons]
    split
    · rename_i h; simp [h]
    · rename_i h; rw [ih, Bool.eq_false_iff.2 h, Bool.false_or]
set_option maxHeartbeats 1000000 in
theorem pc_IndexFuncB (f : Nat) (p : UInt8 → Bool) (hp : ∀ c : UInt8, PC Tryd.prog f [.int .u8 c.toNat] (fun r => r = .bool (p c))) (s : List UInt8) (hs : s.length ≤ 1000000) :
    PC Tryd.prog 45 [.list (s.map byteAV), .fn (.func f) [] []] (fun r => r = .i (ixF p s 0)) := by
  refine PC_body tOk Tryd.func45 rfl Tryd.results45 rfl (by simp [Tryd.ntmps45]) ?_
  rw [Tryd.ntmps45]
  simp only [argSlots]
  repeat (first
    | (refine AWP_seq (AWP_regS tOk rfl ?_); simp)
    | (refine AWP_regS tOk rfl ?_; simp)
    | (refine AWP_skip ?_; simp)
    | (refine AWP_exit ?_; simp)
    | (refine AWP_ret ?_; simp)
    | refine AWP_block ?_
    | refine AWP_seq ?_)
  refine AWP_countI s.length (fun j => ixF p s 0 = ixF p (s.drop j) j) (fun j => [(0, .list (s.map byteAV)), (1, .fn (.func f) [] []), (7, .i s.length), (8, .i j)]) (fun _ => []) rfl (by simp) (by simp) (by simp) (by simp) (by simp) ?_
  intro j hj hI ih
  repeat (first
    | (refine AWP_seq (AWP_regS tOk rfl ?_); simp)
    | (refine AWP_regS tOk rfl ?_; simp)
    | (refine AWP_skip ?_; simp)
    | (refine AWP_exit ?_; simp)
    | (refine AWP_ret ?_; simp)
    | refine AWP_block ?_
    | refine AWP_seq ?_)
  refine AWP_cond2 rfl (fun hlt => ?_) (fun hge => ?_)
  · have hlt' : j < s.length := by simpa using hlt
    rw [drop_get hlt', ixF] at hI
    repeat (first
      | (refine AWP_seq (AWP_regS tOk rfl ?_); simp [hlt'])
      | (refine AWP_regS tOk rfl ?_; simp [hlt'])
      | (refine AWP_skip ?_; simp [hlt'])
      | (refine AWP_exit ?_; simp [hlt'])
      | (refine AWP_ret ?_; simp [hlt'])
      | refine AWP_block ?_
      | refine AWP_seq ?_)
    refine AStep_PC rfl rfl (by simp) (hp s[j]) rfl ?_
    rintro _ rfl
    simp
    repeat (first
      | (refine AWP_seq (AWP_regS tOk rfl ?_); simp)
      | (refine AWP_regS tOk rfl ?_; simp)
      | (refine AWP_skip ?_; simp)
      | (refine AWP_exit ?_; simp)
      | (refine AWP_ret ?_; simp)
      | refine AWP_block ?_
      | refine AWP_seq ?_)
    refine AWP_cond2 rfl (fun h2 => ?_) (fun h2 => ?_)
    · repeat (first
        | (refine AWP_seq (AWP_regS tOk rfl ?_); simp)
        | (refine AWP_regS tOk rfl ?_; simp)
        | (refine AWP_skip ?_; simp)
        | (refine AWP_exit ?_; simp)
        | (refine AWP_ret ?_; simp)
        | refine AWP_block ?_
        | refine AWP_seq ?_)
      rw [hI, ite_t h2]
    · repeat (first
        | (refine AWP_seq (AWP_regS tOk rfl ?_); simp)
        | (refine AWP_regS tOk rfl ?_; simp)
        | (refine AWP_skip ?_; simp)
        | (refine AWP_exit ?_; simp)
        | (refine AWP_ret ?_; simp)
        | refine AWP_block ?_
        | refine AWP_seq ?_)
      rw [ite_f h2] at hI
      refine ALoop_end _ (ih hlt' hI) rfl (by simp) ?_ (by simp) (by simp)
      simp
      exact wrap_i64 _ (by omega) (by omega)
  · have hge' : j = s.length := by simp at hge; omega
    subst hge'
    repeat (first
      | (refine AWP_seq (AWP_regS tOk rfl ?_); simp)
      | (refine AWP_regS tOk rfl ?_; simp)
      | (refine AWP_skip ?_; simp)
      | (refine AWP_exit ?_; simp)
      | (refine AWP_ret ?_; simp)
      | refine AWP_block ?_
      | refine AWP_seq ?_)
    rw [hI, List.drop_length]; rfl
theorem pc_ContainsFuncB (f : Nat) (p : UInt8 → Bool) (hp : ∀ c : UInt8, PC Tryd.prog f [.int .u8 c.toNat] (fun r => r = .bool (p c))) (s : List UInt8) (hs : s.length ≤ 1000000) :
    PC Tryd.prog 27 [.list (s.map byteAV), .fn (.func f) [] []] (fun r => r = .bool (s.any p)) := by
  refine PC_body tOk Tryd.func27 rfl Tryd.results27 rfl (by simp [Tryd.ntmps27]) ?_
  rw [Tryd.ntmps27]
  simp only [argSlots]
  repeat (first
    | (refine AWP_seq (AWP_regS tOk rfl ?_); simp)
    | (refine AWP_regS tOk rfl ?_; simp)
    | (refine AWP_skip ?_; simp)
    | (refine AWP_exit ?_; simp)
    | (refine AWP_ret ?_; simp)
    | refine AWP_block ?_
    | refine AWP_seq ?_)
  refine AStep_PC rfl rfl (by simp) (pc_IndexFuncB f p hp s hs) rfl ?_
  rintro _ rfl
  simp
  repeat (first
    | (refine AWP_seq (AWP_regS tOk rfl ?_); simp)
    | (refine AWP_regS tOk rfl ?_; simp)
    | (refine AWP_skip ?_; simp)
    | (refine AWP_exit ?_; simp)
    | (refine AWP_ret ?_; simp)
    | refine AWP_block ?_
    | refine AWP_seq ?_)
  exact ixF_any p s 0
theorem aw1 : formatR ⟨0, -12, []⟩ = ([45, 49, 50], 0) := by kernel_rfl
theorem aw2 : formatR (boolV true) = (sTrue, 0) := by kernel_rfl
theorem aw3 : formatR ⟨2, 0, [97, 34, 98, 10, 255]⟩ = ([34, 97, 92, 34, 98, 92, 110, 92, 120, 102, 102, 34], 0) := by kernel_rfl
theorem aw4 : parseR [34, 97, 92, 34, 98, 92, 110, 92, 120, 102, 102, 34] = (⟨2, 0, [97, 34, 98, 10, 255]⟩, 0) := by kernel_rfl
theorem aw5 : hashR ⟨2, 0, []⟩ = (118251589, 0) := by kernel_rfl
theorem aw6 : hashR ⟨2, 0, [97]⟩ = (1014716588, 0) := by kernel_rfl
theorem aw7 : compR (boolV false) ⟨0, 1099511627776, []⟩ = 1 := by kernel_rfl
theorem aw8 : compR (boolV false) ⟨2, 0, []⟩ = -1 := by kernel_rfl
attribute [local irreducible] formatR parseR hashR compR boolV
set_option maxHeartbeats 1000000 in
theorem pc_awake : PC Tryd.prog 16 [] (fun r => r = .bool true) := by
  refine PC_body tOk Tryd.func16 rfl Tryd.results16 rfl (by simp [Tryd.ntmps16]) ?_
  rw [Tryd.ntmps16]
  simp only [argSlots]
  repeat (first
    | (refine AWP_seq (AWP_regS tOk rfl ?_); simp)
    | (refine AWP_regS tOk rfl ?_; simp)
    | (refine AWP_skip ?_; simp)
    | (refine AWP_exit ?_; simp)
    | (refine AWP_ret ?_; simp)
    | refine AWP_block ?_
    | refine AWP_seq ?_)
  refine AStep_PC rfl rfl (by simp) (pc_Format ⟨0, -12, []⟩) rfl ?_
  rintro _ rfl
  simp [aw1]
  repeat (first
    | (refine AWP_seq (AWP_regS tOk rfl ?_); simp)
    | (refine AWP_regS tOk rfl ?_; simp)
    | (refine AWP_skip ?_; simp)
    | (refine AWP_exit ?_; simp)
    | (refine AWP_ret ?_; simp)
    | refine AWP_block ?_
    | refine AWP_seq ?_)
  refine AStep_PC rfl rfl (by simp) (pc_Bool true) rfl ?_
  rintro _ rfl
  simp
  refine AStep_PC rfl rfl (by simp) (pc_Format (boolV true)) rfl ?_
  rintro _ rfl
  simp [aw2]
  repeat (first
    | (refine AWP_seq (AWP_regS tOk rfl ?_); simp)
    | (refine AWP_regS tOk rfl ?_; simp)
    | (refine AWP_skip ?_; simp)
    | (refine AWP_exit ?_; simp)
    | (refine AWP_ret ?_; simp)
    | refine AWP_block ?_
    | refine AWP_seq ?_)
  refine AStep_PC rfl rfl (by simp) (pc_Format ⟨2, 0, [97, 34, 98, 10, 255]⟩) rfl ?_
  rintro _ rfl
  simp [aw3]
  repeat (first
    | (refine AWP_seq (AWP_regS tOk rfl ?_); simp)
    | (refine AWP_regS tOk rfl ?_; simp)
    | (refine AWP_skip ?_; simp)
    | (refine AWP_exit ?_; simp)
    | (refine AWP_ret ?_; simp)
    | refine AWP_block ?_
    | refine AWP_seq ?_)
  refine AStep_PC rfl rfl (by simp) (pc_Parse [34, 97, 92, 34, 98, 92, 110, 92, 120, 102, 102, 34]) rfl ?_
  rintro _ rfl
  simp [aw4]
  repeat (first
    | (refine AWP_seq (AWP_regS tOk rfl ?_); simp)
    | (refine AWP_regS tOk rfl ?_; simp)
    | (refine AWP_skip ?_; simp)
    | (refine AWP_exit ?_; simp)
    | (refine AWP_ret ?_; simp)
    | refine AWP_block ?_
    | refine AWP_seq ?_)
  refine AStep_PC rfl rfl (by simp) (pc_Hash ⟨2, 0, []⟩) rfl ?_
  rintro _ rfl
  simp [aw5]
  repeat (first
    | (refine AWP_seq (AWP_regS tOk rfl ?_); simp)
    | (refine AWP_regS tOk rfl ?_; simp)
    | (refine AWP_skip ?_; simp)
    | (refine AWP_exit ?_; simp)
    | (refine AWP_ret ?_; simp)
    | refine AWP_block ?_
    | refine AWP_seq ?_)
  refine AStep_PC rfl rfl (by simp) (pc_Hash ⟨2, 0, [97]⟩) rfl ?_
  rintro _ rfl
  simp [aw6]
  repeat (first
    | (refine AWP_seq (AWP_regS tOk rfl ?_); simp)
    | (refine AWP_regS tOk rfl ?_; simp)
    | (refine AWP_skip ?_; simp)
    | (refine AWP_exit ?_; simp)
    | (refine AWP_ret ?_; simp)
    | refine AWP_block ?_
    | refine AWP_seq ?_)
  refine AWP_cond rfl ?_
  repeat (first
    | (refine AWP_seq (AWP_regS tOk rfl ?_); simp)
    | (refine AWP_regS tOk rfl ?_; simp)
    | (refine AWP_skip ?_; simp)
    | (refine AWP_exit ?_; simp)
    | (refine AWP_ret ?_; simp)
    | refine AWP_block ?_
    | refine AWP_seq ?_)
  refine AStep_PC rfl rfl (by simp) (pc_Bool false) rfl ?_
  rintro _ rfl
  simp
  repeat (first
    | (refine AWP_seq (AWP_regS tOk rfl ?_); simp)
    | (refine AWP_regS tOk rfl ?_; simp)
    | (refine AWP_skip ?_; simp)
    | (refine AWP_exit ?_; simp)
    | (refine AWP_ret ?_; simp)
    | refine AWP_block ?_
    | refine AWP_seq ?_)
  refine AStep_PC rfl rfl (by simp) (pc_Compare (boolV false) ⟨0, 1099511627776, []⟩) rfl ?_
  rintro _ rfl
  simp [aw7]
  refine AStep_PC rfl rfl (by simp) (pc_Compare (boolV false) ⟨2, 0, []⟩) rfl ?_
  rintro _ rfl
  simp [aw8]
  repeat (first
    | (refine AWP_seq (AWP_regS tOk rfl ?_); simp)
    | (refine AWP_regS tOk rfl ?_; simp)
    | (refine AWP_skip ?_; simp)
    | (refine AWP_exit ?_; simp)
    | (refine AWP_ret ?_; simp)
    | refine AWP_block ?_
    | refine AWP_seq ?_)
  rfl
end Go.Abs
set_option maxRecDepth 100000
namespace Go.Abs
open Go Go.Proofs
set_option linter.unusedSimpArgs false
/-- A total order, as a comparison of -1, 0 and 1. -/
structure TO {α : Type} (f : α → α → Int) : Prop where
  neg : ∀ a b, f b a = - f a b
  rng : ∀ a b, -1 ≤ f a b ∧ f a b ≤ 1
  zero : ∀ a b, f a b = 0 ↔ a = b
  trans : ∀ a b c, f a b ≤ 0 → f b c ≤ 0 → f a c ≤ 0
def lexC {α β : Type} (f : α → α → Int) (g : β → β → Int) (p q : α × β) : Int := if (f p.1 q.1 != 0) = true then f p.1 q.1 else g p.2 q.2
theorem lexC_z {α β : Type} {f : α → α → Int} {g : β → β → Int} {p q : α × β} (h : f p.1 q.1 = 0) : lexC f g p q = g p.2 q.2 := by simp [lexC, h]
theorem lexC_n {α β : Type} {f : α → α → Int} {g : β → β → Int} {p q : α × β} (h : f p.1 q.1 ≠ 0) : lexC f g p q = f p.1 q.1 := by simp [lexC, h]
theorem TO.lex {α β : Type} {f : α → α → Int} {g : β → β → Int} (hf : TO f) (hg : TO g) : TO (lexC f g) := by
  refine ⟨fun p q => ?_, fun p q => ?_, fun p q => ?_, fun p q r h1 h2 => ?_⟩
  · have h := hf.neg p.1 q.1
    by_cases h0 : f p.1 q.1 = 0
    · rw [lexC_z h0, lexC_z (by omega)]; exact hg.neg _ _
    · rw [lexC_n h0, lexC_n (by omega)]; exact h
  · by_cases h0 : f p.1 q.1 = 0
    · rw [lexC_z h0]; exact hg.rng _ _
    · rw [lexC_n h0]; exact hf.rng _ _
  · by_cases h0 : f p.1 q.1 = 0
    · rw [lexC_z h0, hg.zero]
      constructor
      · intro h; exact Prod.ext ((hf.zero _ _).1 h0) h
      · intro h; rw [h]
    · rw [lexC_n h0]
      constructor
      · intro h; exact absurd h h0
      · intro h; rw [h] at h0; exact absurd ((hf.zero _ _).2 rfl) h0
  · have a1 : f p.1 q.1 ≤ 0 := by
      by_cases h0 : f p.1 q.1 = 0
      · omega
      · rw [lexC_n h0] at h1; exact h1
    have a2 : f q.1 r.1 ≤ 0 := by
      by_cases h0 : f q.1 r.1 = 0
      · omega
      · rw [lexC_n h0] at h2; exact h2
    have a3 := hf.trans _ _ _ a1 a2
    by_cases h0 : f p.1 r.1 = 0
    · have e := (hf.zero _ _).1 h0
      have a4 : f q.1 p.1 ≤ 0 := by rw [e]; exact a2
      have a5 := hf.neg p.1 q.1
      have a6 : f p.1 q.1 = 0 := by omega
      have a7 : f q.1 r.1 = 0 := by rw [← e]; omega
      rw [lexC_z a6] at h1
      rw [lexC_z a7] at h2
      rw [lexC_z h0]
      exact hg.trans _ _ _ h1 h2
    · rw [lexC_n h0]; exact a3
theorem TO.cmap {α β : Type} {f : β → β → Int} (hf : TO f) (k : α → β) (hk : ∀ a b, k a = k b → a = b) : TO (fun a b => f (k a) (k b)) :=
  ⟨fun _ _ => hf.neg _ _, fun _ _ => hf.rng _ _, fun a b => ⟨fun h => hk _ _ ((hf.zero _ _).1 h), fun h => (hf.zero _ _).2 (by rw [h])⟩, fun _ _ _ => hf.trans _ _ _⟩
theorem to_cmpI : TO cmpI := by
  refine ⟨fun a b => ?_, fun a b => ?_, fun a b => ?_, fun a b c => ?_⟩ <;> unfold cmpI <;> simp only [decide_eq_true_eq] <;> repeat' split
  all_goals omega
theorem to_cmpB : TO Lib.compareBytes := by
  refine ⟨fun a b => ?_, fun a b => ?_, fun a b => ?_, fun a b c => ?_⟩
  · induction a generalizing b with
    | nil => cases b <;> rfl
    | cons x a ih =>
      cases b with
      | nil => rfl
      | cons y b =>
        simp only [Lib.compareBytes]
        by_cases h1 : x < y
        · have h2 : ¬ y < x := by intro h2; rw [UInt8.lt_iff_toNat_lt] at h1 h2; omega
          rw [if_pos h1, if_neg h2, if_pos h1]; rfl
        · by_cases h2 : y < x
          · rw [if_pos h2, if_neg h1, if_pos h2]
          · rw [if_neg h1, if_neg h2, if_neg h2, if_neg h1]; exact ih b
  · induction a generalizing b with
    | nil => cases b <;> simp [Lib.compareBytes]
    | cons x a ih =>
      cases b with
      | nil => simp [Lib.compareBytes]
      | cons y b =>
        simp only [Lib.compareBytes]
        repeat' split
        · omega
        · omega
        · exact ih b
  · induction a generalizing b with
    | nil => cases b <;> simp [Lib.compareBytes]
    | cons x a ih =>
      cases b with
      | nil => simp [Lib.compareBytes]
      | cons y b =>
        simp only [Lib.compareBytes]
        by_cases h1 : x < y
        · rw [if_pos h1]
          constructor
          · intro h; omega
          · intro h; cases h; rw [UInt8.lt_iff_toNat_lt] at h1; omega
        · by_cases h2 : y < x
          · rw [if_neg h1, if_pos h2]
            constructor
            · intro h; omega
            · intro h; cases h; exact absurd h2 h1
          · rw [if_neg h1, if_neg h2, ih b]
            have e : x = y := by rw [UInt8.lt_iff_toNat_lt] at h1 h2; exact UInt8.toNat_inj.1 (by omega)
            simp [e]
  · induction a generalizing b c with
    | nil => intro _ _; cases c <;> simp [Lib.compareBytes]
    | cons x a ih =>
      rcases b with _ | ⟨y, b⟩
      · intro h; simp [Lib.compareBytes] at h
      · rcases c with _ | ⟨z, c⟩
        · intro _ h; simp [Lib.compareBytes] at h
        · simp only [Lib.compareBytes]
          intro h1 h2
          by_cases e1 : x < y
          · by_cases e2 : y < z
            · rw [if_pos (by rw [UInt8.lt_iff_toNat_lt] at *; omega)]; decide
            · rw [if_neg e2] at h2
              by_cases e3 : z < y
              · rw [if_pos e3] at h2; omega
              · have : x < z := by rw [UInt8.lt_iff_toNat_lt] at *; omega
                rw [if_pos this]; decide
          · rw [if_neg e1] at h1
            by_cases e4 : y < x
            · rw [if_pos e4] at h1; omega
            · rw [if_neg e4] at h1
              have e : x = y := by rw [UInt8.lt_iff_toNat_lt] at e1 e4; exact UInt8.toNat_inj.1 (by omega)
              subst e
              by_cases e2 : x < z
              · rw [if_pos e2]; decide
              · rw [if_neg e2] at h2 ⊢
                by_cases e3 : z < x
                · rw [if_pos e3] at h2; omega
                · rw [if_neg e3] at h2 ⊢
                  exact ih b c h1 h2
theorem compR_lex (a b : Val) : compR a b = lexC cmpI (lexC cmpI Lib.compareBytes) (a.kind, a.num, a.text) (b.kind, b.num, b.text) := rfl
theorem to_compR : TO compR := by
  have := (to_cmpI.lex (to_cmpI.lex to_cmpB)).cmap (fun v : Val => (v.kind, v.num, v.text)) (by rintro ⟨⟩ ⟨⟩ h; simpa using h)
  exact this
theorem cmpB_less (a b : List UInt8) : Lib.compareBytes a b = if Op.bytesLess a b = true then -1 else if (!Op.bytesLess a b && !a == b) = true then 1 else 0 := by
  induction a generalizing b with
  | nil => cases b <;> simp [Lib.compareBytes, Op.bytesLess]
  | cons x a ih =>
    cases b with
    | nil => simp [Lib.compareBytes, Op.bytesLess]
    | cons y b =>
      simp only [Lib.compareBytes, Op.bytesLess]
      by_cases h1 : x < y
      · simp [h1]
      · by_cases h2 : y < x
        · have hne : x ≠ y := by intro e; subst e; exact h1 h2
          simp [h1, h2, hne]
        · have e : x = y := by rw [UInt8.lt_iff_toNat_lt] at h1 h2; exact UInt8.toNat_inj.1 (by omega)
          subst e
          rw [if_neg h1, if_neg h2, ih b]
          simp
theorem rCompR_eq (a b : Val) : rCompR a b = compR a b := by
  have hk := to_cmpI.zero a.kind b.kind
  have hn := to_cmpI.zero a.num b.num
  unfold rCompR compR
  by_cases h1 : a.kind = b.kind
  · have e1 : (a.kind != b.kind) = false := by simp [h1]
    have e2 : (cmpI a.kind b.kind != 0) = false := by rw [hk.2 h1]; rfl
    rw [ite_f e1, ite_f e2]
    by_cases h2 : a.num = b.num
    · have e3 : (a.num != b.num) = false := by simp [h2]
      have e4 : (cmpI a.num b.num != 0) = false := by rw [hn.2 h2]; rfl
      rw [ite_f e3, ite_f e4, cmpB_less]
    · have e3 : (a.num != b.num) = true := by simpa using h2
      have e4 : (cmpI a.num b.num != 0) = true := by rw [bne_iff_ne]; exact fun h => h2 (hn.1 h)
      rw [ite_t e3, ite_t e4]
  · have e1 : (a.kind != b.kind) = true := by simpa using h1
    have e2 : (cmpI a.kind b.kind != 0) = true := by rw [bne_iff_ne]; exact fun h => h1 (hk.1 h)
    rw [ite_t e1, ite_t e2]
theorem rCheckR_eq (v : Val) : rCheckR v = checkR v := by
  unfold rCheckR checkR sizeR
  rcases v with ⟨k, n, t⟩
  simp only [Bool.or_eq_true, Bool.and_eq_true, decide_eq_true_eq, beq_iff_eq, bne_iff_ne, Bool.not_eq_true', ne_eq]
  by_cases h0 : k = 0
  · subst h0
    cases t with
    | nil => simp
    | cons c t => simp
  · by_cases h1 : k = 1
    · subst h1
      cases t with
      | nil => simp; repeat' split
               all_goals omega
      | cons c t => simp
    · by_cases h2 : k = 2
      · subst h2; simp
      · have : k < 0 ∨ 2 < k := by omega
        simp [h0, h1, h2, this]
theorem rIntR_eq (n : Int) : rIntR n = checkedV ⟨0, n, []⟩ := by
  unfold rIntR checkedV checkR sizeR
  simp only [Bool.or_eq_true, Bool.and_eq_true, decide_eq_true_eq, beq_iff_eq, bne_iff_ne, Bool.not_eq_true', ne_eq]
  by_cases h : n < -1099511627776 ∨ 1099511627776 < n
  · simp [h]
  · simp [h]
theorem rStringR_eq (s : List UInt8) : rStringR s = checkedV ⟨2, 0, s⟩ := by
  unfold rStringR checkedV checkR sizeR
  by_cases h : (64 : Int) < s.length
  · simp [h]
  · simp [h]
end Go.Abs
set_option maxRecDepth 100000
namespace Go.Abs
open Go Go.Proofs
set_option linter.unusedSimpArgs false
theorem xor_nat (k : IntKind) (j : Nat) (hj : j ≤ k.bits) (hk : ∀ n : Int, 0 ≤ n → n < 2 ^ j → k.wrap n = n) (a b : Nat) (ha : a < 2 ^ j) (hb : b < 2 ^ j) : bits .xor k a b = ((a ^^^ b : Nat) : Int) := by
  have hp : 2 ^ j ≤ 2 ^ k.bits := Nat.pow_le_pow_right (by decide) hj
  have ha' : a % 2 ^ k.bits = a := Nat.mod_eq_of_lt (Nat.lt_of_lt_of_le ha hp)
  have hb' : b % 2 ^ k.bits = b := Nat.mod_eq_of_lt (Nat.lt_of_lt_of_le hb hp)
  simp only [bits, BitVec.ofInt_natCast, BitVec.toNat_xor, BitVec.toNat_ofNat, ha', hb']
  have h : (a ^^^ b) < 2 ^ j := Nat.xor_lt_two_pow ha hb
  exact hk _ (Int.natCast_nonneg _) (by exact_mod_cast h)
theorem wrap_u32i (n : Int) : IntKind.u32.wrap n = n % 4294967296 := by simp [IntKind.wrap, IntKind.signed, IntKind.bits]
theorem step_eq (h z : Int) (h0 : 0 ≤ h) (h1 : h < 4294967296) (z0 : 0 ≤ z) (z1 : z < 256) : rmix h z = hstep h z ∧ 0 ≤ hstep h z ∧ hstep h z < 4294967296 := by
  obtain ⟨a, rfl⟩ := Int.eq_ofNat_of_zero_le h0
  obtain ⟨b, rfl⟩ := Int.eq_ofNat_of_zero_le z0
  have ha : a < 2 ^ 32 := by omega
  have hb : b < 2 ^ 32 := by omega
  have e1 : IntKind.u32.wrap (b : Int) = b := by rw [wrap_u32i]; omega
  have e2 : W (b : Int) = b := wrap_i64 _ (by omega) (by omega)
  have e3 : bits .xor .u32 a b = ((a ^^^ b : Nat) : Int) := xor_nat .u32 32 (by decide) (fun n n0 n1 => by rw [wrap_u32i]; omega) a b ha hb
  have e4 : bits .xor .i64 a b = ((a ^^^ b : Nat) : Int) := xor_nat .i64 32 (by decide) (fun n n0 n1 => wrap_i64 _ (by omega) (by omega)) a b ha hb
  have hx : (a ^^^ b) < 2 ^ 32 := Nat.xor_lt_two_pow ha hb
  unfold rmix hstep
  rw [e1, e2, e3, e4, wrap_u32i]
  generalize (a ^^^ b) = x at hx
  have e5 : W ((x : Int) * 16777619) = x * 16777619 := wrap_i64 _ (by omega) (by omega)
  rw [e5, Int.tmod_eq_emod_of_nonneg (by omega)]
  omega
theorem fold_eq (zs : List Int) (hz : ∀ z ∈ zs, 0 ≤ z ∧ z < 256) (h : Int) (h0 : 0 ≤ h) (h1 : h < 4294967296) : zs.foldl rmix h = zs.foldl hstep h ∧ 0 ≤ zs.foldl hstep h ∧ zs.foldl hstep h < 4294967296 := by
  induction zs generalizing h with
  | nil => exact ⟨rfl, h0, h1⟩
  | cons z zs ih =>
    obtain ⟨e, p0, p1⟩ := step_eq h z h0 h1 (hz z (by simp)).1 (hz z (by simp)).2
    rw [List.foldl_cons, List.foldl_cons, e]
    exact ih (fun y hy => hz y (by simp [hy])) _ p0 p1
theorem u8_rng (n : Int) : 0 ≤ IntKind.u8.wrap n ∧ IntKind.u8.wrap n < 256 := by rw [IntKind.wrap_u8]; omega
theorem hashB_rng (v : Val) : ∀ z ∈ hashB v, 0 ≤ z ∧ z < 256 := by
  intro z hz
  unfold hashB at hz
  rcases List.mem_cons.1 hz with rfl | hz
  · exact u8_rng _
  · split at hz
    · obtain ⟨c, _, rfl⟩ := List.mem_map.1 hz
      have := c.toNat_lt
      omega
    · obtain ⟨j, _, rfl⟩ := List.mem_map.1 hz
      exact u8_rng _
theorem rnumB_eq (n : Int) : rnumB n 8 = numB n 8 := by
  unfold rnumB numB
  refine List.map_congr_left fun j hj => ?_
  unfold rsh shB
  rw [show (8 * (7 - (j : Int))) = 56 - 8 * (j : Int) by omega]
theorem rHashR_eq (v : Val) : rHashR v = hashR v := by
  unfold rHashR hashR
  rw [rCheckR_eq]
  split
  · rfl
  obtain ⟨e, p0, p1⟩ := fold_eq (hashB v) (hashB_rng v) 2166136261 (by decide) (by decide)
  have e2 : W ((hashB v).foldl hstep 2166136261) = (hashB v).foldl hstep 2166136261 := wrap_i64 _ (by omega) (by omega)
  rw [e2, ← e]
  unfold hashB
  rw [List.foldl_cons]
  split
  · rfl
  · rw [rnumB_eq]
theorem hashR_rng (v : Val) : 0 ≤ (hashR v).1 ∧ (hashR v).1 < 4294967296 := by
  unfold hashR
  split
  · exact ⟨Int.le_refl 0, by show (0 : Int) < 4294967296; decide⟩
  · obtain ⟨e, p0, p1⟩ := fold_eq (hashB v) (hashB_rng v) 2166136261 (by decide) (by decide)
    have e2 : W ((hashB v).foldl hstep 2166136261) = (hashB v).foldl hstep 2166136261 := wrap_i64 _ (by omega) (by omega)
    simp only [e2]
    exact ⟨p0, p1⟩
theorem rCheckAll_eq (l : List Val) : checkAllR rCheckR l = checkAllR checkR l := by
  rw [show rCheckR = checkR from funext rCheckR_eq]
end Go.Abs
set_option maxRecDepth 100000
namespace Go.Abs
open Go Go.Proofs
set_option linter.unusedSimpArgs false
/-! Strings: what is quoted reads as it was. -/
theorem hexD_ix : ∀ a : Fin 16, ∀ b : Fin 16, hexV (hexD a.val) (hexD b.val) = UInt8.ofNat (16 * a.val + b.val) ∧ 0 ≤ hexI (hexD a.val) ∧ 0 ≤ hexI (hexD b.val) := by decide +kernel
theorem u8_all (p : UInt8 → Bool) (h : (List.range 256).all (fun n => p (UInt8.ofNat n)) = true) (c : UInt8) : p c = true := by
  have := List.all_eq_true.1 h c.toNat (List.mem_range.2 c.toNat_lt)
  simpa using this
theorem escX_hex (c : UInt8) (r : List UInt8) : escX (hexD (c.toNat / 16) :: hexD (c.toNat % 16) :: r) = some (c, r) := by
  have hc := c.toNat_lt
  obtain ⟨h1, h2, h3⟩ := hexD_ix ⟨c.toNat / 16, by omega⟩ ⟨c.toNat % 16, by omega⟩
  simp only at h1 h2 h3
  rw [escX, if_neg (by simp; omega), h1]
  congr 2
  apply UInt8.toNat_inj.1
  simp
  omega
def stepsTo (e : UInt8 → List UInt8) : Prop := ∀ (c : UInt8) (n : Nat) (r out : List UInt8), unqF (n + 1) (e c ++ r) out = unqF n r (out ++ [c])
theorem unq_steps {e : UInt8 → List UInt8} (he : stepsTo e) : ∀ (t : List UInt8) (n : Nat) (rest out : List UInt8), t.length < n → unqF n (t.flatMap e ++ 34 :: rest) out = (out ++ t, ((34 : UInt8) :: rest) == [34])
  | [], n, rest, out, h => by
    obtain ⟨n, rfl⟩ : ∃ k, n = k + 1 := ⟨n - 1, by simp at h; omega⟩
    simp [unqF]
  | c :: t, n, rest, out, h => by
    obtain ⟨n, rfl⟩ : ∃ k, n = k + 1 := ⟨n - 1, by simp at h; omega⟩
    rw [List.flatMap_cons, List.append_assoc, he c n _ out, unq_steps he t n rest (out ++ [c]) (by simp at h; omega)]
    simp
theorem steps_hexq : stepsTo hexq := fun c n r out => by
  unfold hexq
  have e : escR (120 :: hexD (c.toNat / 16) :: hexD (c.toNat % 16) :: r) = some (c, r) := by
    rw [escR, ite_f (by rfl), ite_f (by rfl), ite_t (by rfl)]; exact escX_hex c r
  show unqF (n + 1) (92 :: 120 :: hexD (c.toNat / 16) :: hexD (c.toNat % 16) :: r) out = _
  rw [unqF, ite_f (by rfl), ite_t (by rfl), e]
theorem steps_escB : stepsTo escB := fun c n r out => by
  rw [escB]
  split
  · rename_i h
    have e : escR (c :: r) = some (c, r) := by rw [escR, ite_t h]
    show unqF (n + 1) (92 :: c :: r) out = _
    rw [unqF, ite_f (by rfl), ite_t (by rfl), e]
  · rename_i h
    split
    · rename_i h2
      have hc : c = 10 := by apply UInt8.toNat_inj.1; simp at h2; show c.toNat = 10; omega
      have e : escR (110 :: r) = some (10, r) := by rw [escR, ite_f (by rfl), ite_t (by rfl)]
      show unqF (n + 1) (92 :: 110 :: r) out = _
      rw [unqF, ite_f (by rfl), ite_t (by rfl), e, hc]
    · split
      · exact steps_hexq c n r out
      · rename_i h3
        simp only [Bool.or_eq_true, not_or, Bool.not_eq_true] at h
        show unqF (n + 1) (c :: r) out = _
        rw [unqF, ite_f h.1, ite_f h.2, ite_t]
        simp at h3
        simp [printB]
        omega
theorem unqR_of {e : UInt8 → List UInt8} (he : stepsTo e) (hl : ∀ c, 1 ≤ (e c).length) (t rest : List UInt8) : unqR (34 :: (t.flatMap e ++ 34 :: rest)) = (t, ((34 : UInt8) :: rest) == [34]) := by
  have hlen : t.length ≤ (t.flatMap e).length := by
    induction t with
    | nil => simp
    | cons c t ih => have := hl c; simp only [List.flatMap_cons, List.length_append, List.length_cons]; omega
  unfold unqR
  rw [List.drop_one, List.tail_cons, unq_steps he t _ rest [] (by simp only [List.length_append, List.length_cons]; omega)]
  simp
theorem hasPre34 (r : List UInt8) : hasPre (34 :: r) [34] = true := by simp [hasPre, List.isPrefixOf]
theorem parse_str (r t : List UInt8) (b : Bool) (hl : r.length < 65536) (h : unqR (34 :: r) = (t, b)) : parseR (34 :: r) = if b = true then checkedV ⟨2, 0, t⟩ else (zeroV, 4) := by
  rw [parseR, ite_f (by simp; omega), ite_f (by simp [sTrue, sFalse]), ite_t (hasPre34 r), h]
  cases b <;> rfl
theorem checkedV_ok {v : Val} (h : checkR v = 0) : checkedV v = (v, 0) := by rw [checkedV, ite_f (by rw [h]; rfl)]
theorem parse_quote (t : List UInt8) (hl : t.length ≤ 64) : parseR (quoteR t) = (⟨2, 0, t⟩, 0) := by
  have h1 : quoteR t = 34 :: (t.flatMap escB ++ 34 :: []) := rfl
  have h2 := quoteTo_len t
  unfold quoteTo at h2
  rw [List.length_cons] at h2
  have hl1 : ∀ c, 1 ≤ (escB c).length := by
    intro c; unfold escB hexq; repeat' split
    all_goals exact Nat.le_of_ble_eq_true rfl
  rw [h1, parse_str _ t true (by simp only [List.length_append, List.length_cons, List.length_nil]; omega) (by rw [unqR_of steps_escB hl1]; rfl), if_pos rfl, checkedV_ok]
  unfold checkR sizeR
  have : ¬ (64 : Int) < t.length := by omega
  simp [this]
def hexText (s : List UInt8) : List UInt8 := 34 :: (s.flatMap hexq ++ 34 :: [])
theorem hexq_len (s : List UInt8) : (s.flatMap hexq).length = 4 * s.length := by
  induction s with
  | nil => rfl
  | cons c s ih => rw [List.flatMap_cons, List.length_append, ih]; simp [hexq]; omega
theorem parse_hexText (t : List UInt8) (hl : t.length ≤ 64) : parseR (hexText t) = (⟨2, 0, t⟩, 0) := by
  have h2 := hexq_len t
  rw [hexText, parse_str _ t true (by simp only [List.length_append, List.length_cons, List.length_nil]; omega) (by rw [unqR_of steps_hexq (fun c => by simp [hexq])]; rfl), if_pos rfl, checkedV_ok]
  unfold checkR sizeR
  have : ¬ (64 : Int) < t.length := by omega
  simp [this]
theorem parse_hexText2 (t : List UInt8) (hl : t.length ≤ 64) : parseR (hexText t ++ hexText t) = (zeroV, 4) := by
  have h2 := hexq_len t
  have h1 : hexText t ++ hexText t = 34 :: (t.flatMap hexq ++ 34 :: hexText t) := by simp [hexText]
  rw [h1, parse_str _ t false (by simp only [hexText, List.length_append, List.length_cons, List.length_nil]; omega) (by rw [unqR_of steps_hexq (fun c => by simp [hexq])]; simp [hexText])]
  rfl
end Go.Abs
set_option maxRecDepth 100000
namespace Go.Abs
open Go Go.Proofs
set_option linter.unusedSimpArgs false
/-! Integers: their decimal text reads as they were. -/
theorem dg_toNat (d : Nat) (h : d < 10) : (UInt8.ofNat (48 + d)).toNat = 48 + d := by simp; omega
theorem isD_dg (d : Nat) (h : d < 10) : isD (UInt8.ofNat (48 + d)) = true := by rw [isD_iff, dg_toNat d h]; omega
theorem decDigits_all : ∀ (u : Nat), (Lib.decDigits u).all isD = true := fun u => by
  induction u using Nat.strongRecOn with
  | ind u ih =>
    rw [Lib.decDigits]
    split
    · rename_i h; rw [List.all_cons, isD_dg u h]; rfl
    · rename_i h; rw [List.all_append, ih (u / 10) (by omega), List.all_cons, isD_dg (u % 10) (by omega)]; rfl
theorem dval_decDigits : ∀ (u : Nat), dval (Lib.decDigits u) = u := fun u => by
  induction u using Nat.strongRecOn with
  | ind u ih =>
    rw [Lib.decDigits]
    split
    · rename_i h
      rw [dval, List.foldl_cons, List.foldl_nil, dstep, dg_toNat u h]; omega
    · rename_i h
      rw [dval_snoc, ih (u / 10) (by omega), dstep, dg_toNat (u % 10) (by omega)]; omega
theorem decDigits_head : ∀ (u : Nat), 0 < u → ∃ c r, Lib.decDigits u = c :: r ∧ c.toNat ≠ 48 := fun u => by
  induction u using Nat.strongRecOn with
  | ind u ih =>
    intro hu
    rw [Lib.decDigits]
    split
    · rename_i h; exact ⟨_, [], rfl, by rw [dg_toNat u h]; omega⟩
    · rename_i h
      obtain ⟨c, r, e, hc⟩ := ih (u / 10) (by omega) (by omega)
      exact ⟨c, r ++ [UInt8.ofNat (48 + u % 10)], by rw [e]; rfl, hc⟩
theorem decDigits_len (u : Nat) (h : u ≤ 1099511627776) : (Lib.decDigits u).length ≤ 13 := by
  rw [Lib.decDigits_length]
  rcases Nat.lt_or_ge 13 (Lib.nDigits u) with h1 | h1
  · exfalso
    have := Lib.decDigits_length u
    have key : ∀ k u, u < 10 ^ (k + 1) → Lib.nDigits u ≤ k + 1 := fun k => by
      induction k with
      | zero => intro u hu; rw [Lib.nDigits_small (by simpa using hu)]; exact Nat.le_refl _
      | succ k ih =>
        intro u hu
        by_cases h10 : u < 10
        · rw [Lib.nDigits_small h10]; omega
        · rw [Lib.nDigits_big h10]
          have := ih (u / 10) (by rw [Nat.pow_succ] at hu; omega)
          omega
    have := key 12 u (by omega)
    omega
  · exact h1
theorem isD_ne {c : UInt8} (h : isD c = true) : c ≠ 45 ∧ c ≠ 34 ∧ c ≠ 116 ∧ c ≠ 102 := by
  have := (isD_iff c).1 h
  refine ⟨?_, ?_, ?_, ?_⟩ <;> (intro e; subst e; revert this; decide)
theorem trimPre_digs (c : UInt8) (r : List UInt8) (h : isD c = true) : trimPre (c :: r) [45] = c :: r := by
  have := (isD_ne h).1
  unfold trimPre hasPre
  rw [if_neg]
  simp [List.isPrefixOf, this.symm]
theorem trimPre_minus (r : List UInt8) : trimPre (45 :: r) [45] = r := by simp [trimPre, hasPre, List.isPrefixOf]
theorem intR_dig (u : Nat) (h : u ≤ 1099511627776) : intR (Lib.decDigits u) = ((u : Int), true) := by
  have hd := decDigits_all u
  have hl := decDigits_len u h
  have hv := dval_decDigits u
  obtain ⟨c, r, e⟩ : ∃ c r, Lib.decDigits u = c :: r := by
    rcases Nat.eq_zero_or_pos u with h0 | h0
    · subst h0; exact ⟨48, [], by rw [Lib.decDigits]; rfl⟩
    · obtain ⟨c, r, e, _⟩ := decDigits_head u h0; exact ⟨c, r, e⟩
  have hz : c.toNat = 48 → Lib.decDigits u = [48] := by
    intro hc
    rcases Nat.eq_zero_or_pos u with h0 | h0
    · subst h0; rw [Lib.decDigits]; rfl
    · obtain ⟨c', r', e', hc'⟩ := decDigits_head u h0
      rw [e] at e'; cases e'; exact absurd hc hc'
  rw [e] at hd hl hv hz ⊢
  have hc : isD c = true := by simp at hd; exact hd.1
  have hb : intB (c :: r) (c :: r) = true := by
    rw [intB, hd]
    by_cases h48 : c.toNat = 48
    · rw [hz h48]; simp
    · have : ((c.toNat : Int) == 48) = false := by simp; omega
      rw [this]; rfl
  rw [intR, trimPre_digs c r hc, ite_t hb, intV, ite_f (by simp), List.take_of_length_le (by omega), hv]
theorem intR_neg (u : Nat) (h0 : 0 < u) (h : u ≤ 1099511627776) : intR (45 :: Lib.decDigits u) = (-(u : Int), true) := by
  have hd := decDigits_all u
  have hl := decDigits_len u h
  have hv := dval_decDigits u
  obtain ⟨c, r, e, hc⟩ := decDigits_head u h0
  rw [e] at hd hl hv ⊢
  have hb : intB (c :: r) (45 :: c :: r) = true := by
    have : ((c.toNat : Int) == 48) = false := by simp; omega
    rw [intB, hd, this]; rfl
  rw [intR, trimPre_minus, ite_t hb, intV, ite_t (by simp), List.take_of_length_le (by omega), hv]
  rw [show W (0 - (u : Int)) = 0 - (u : Int) from wrap_i64 _ (by omega) (by omega)]
  simp
theorem itoa_cases (n : Int) : (∃ u : Nat, n = u ∧ Lib.itoa n = Lib.decDigits u) ∨ (∃ u : Nat, 0 < u ∧ n = -(u : Int) ∧ Lib.itoa n = 45 :: Lib.decDigits u) := by
  unfold Lib.itoa
  by_cases h : n < 0
  · right; refine ⟨n.natAbs, by omega, by omega, by rw [if_pos h]⟩
  · left; refine ⟨n.toNat, by omega, by rw [if_neg h]⟩
theorem parse_itoa (n : Int) (h1 : -1099511627776 ≤ n) (h2 : n ≤ 1099511627776) : parseR (Lib.itoa n) = (⟨0, n, []⟩, 0) := by
  have hck : checkedV ⟨0, n, []⟩ = (⟨0, n, []⟩, 0) := checkedV_ok (by
    unfold checkR sizeR
    have e1 : ¬ n < -1099511627776 := by omega
    have e2 : ¬ 1099511627776 < n := by omega
    simp [e1, e2])
  have key : ∀ s, intR s = (n, true) → s.length ≤ 14 → (∀ c r, s = c :: r → c = 45 ∨ isD c = true) → s ≠ [] → parseR s = (⟨0, n, []⟩, 0) := fun s hi hl hc hne => by
    rcases s with _ | ⟨c, r⟩
    · exact absurd rfl hne
    have hcc : c ≠ 34 ∧ c ≠ 116 ∧ c ≠ 102 := by
      rcases hc c r rfl with rfl | h
      · decide
      · exact (isD_ne h).2
    rw [parseR, ite_f (by simp only [decide_eq_false_iff_not]; omega), ite_f (by simp [sTrue, sFalse, hcc.2.1, hcc.2.2]), ite_f (by simp [hasPre, List.isPrefixOf, hcc.1.symm]), hi]
    exact hck
  rcases itoa_cases n with ⟨u, rfl, e⟩ | ⟨u, h0, rfl, e⟩
  · rw [e]
    have hd := decDigits_all u
    refine key _ (intR_dig u (by omega)) (by have := decDigits_len u (by omega); omega) (fun c r hs => ?_) (fun hs => ?_)
    · rw [hs] at hd; simp at hd; exact .inr hd.1
    · have := Lib.decDigits_length u; rw [hs] at this; have := Lib.nDigits_pos u; simp only [List.length_nil] at *; omega
  · rw [e]
    refine key _ (intR_neg u h0 (by omega)) (by have := decDigits_len u (by omega); simp; omega) (fun c r hs => ?_) (by simp)
    cases hs; exact .inl rfl
theorem parse_bool (b : Bool) : parseR (boolS b) = (boolV b, 0) := by cases b <;> kernel_rfl
/-- The text of a well-formed value reads as the value. -/
theorem parse_format (v : Val) (h : (formatR v).2 = 0) : checkR v = 0 ∧ parseR (formatR v).1 = (v, 0) := by
  have hc : checkR v = 0 := by
    unfold formatR at h
    by_cases hc : checkR v = 0
    · exact hc
    · rw [ite_t (by simpa using hc)] at h; exact h
  refine ⟨hc, ?_⟩
  rw [formatR, ite_f (by rw [hc]; rfl), fmtText]
  rcases checkR_zero hc with ⟨hk, ht, h1, h2⟩ | ⟨hk, ht, hn⟩ | ⟨hk, hn, hl⟩
  · rw [ite_t (by rw [hk]; rfl), parse_itoa _ h1 h2]
    rcases v with ⟨k, n, t⟩; simp at hk ht; subst hk; subst ht; rfl
  · rw [ite_f (by rw [hk]; rfl), ite_t (by rw [hk]; rfl), parse_bool]
    rcases v with ⟨k, n, t⟩; simp at hk ht hn; subst hk; subst ht
    rcases hn with rfl | rfl <;> rfl
  · rw [ite_f (by rw [hk]; rfl), ite_f (by rw [hk]; rfl), parse_quote _ hl]
    rcases v with ⟨k, n, t⟩; simp at hk hn; subst hk; subst hn; rfl
/-! All bytes of a text can be printed. -/
def npB (c : UInt8) : Bool := decide ((c.toNat : Int) < 32) || decide ((126 : Int) < c.toNat)
theorem np_isD {c : UInt8} (h : isD c = true) : npB c = false := by have := (isD_iff c).1 h; simp [npB]; omega
theorem np_hexD : ∀ a : Fin 16, npB (hexD a.val) = false := by decide +kernel
theorem np_escB (c : UInt8) : (escB c).any npB = false := by
  have hc := c.toNat_lt
  unfold escB
  split
  · rename_i h
    have : npB c = false := by simp at h; simp [npB]; omega
    simp only [List.any_cons, List.any_nil, this]; decide
  · split
    · decide
    · split
      · have h1 := np_hexD ⟨c.toNat / 16, by omega⟩
        have h2 := np_hexD ⟨c.toNat % 16, by omega⟩
        simp only [hexq, List.any_cons, List.any_nil, h1, h2]; decide
      · rename_i h; simp only [Bool.not_eq_true] at h; simp only [List.any_cons, List.any_nil, Bool.or_false]; exact h
theorem np_format (v : Val) (h : (formatR v).2 = 0) : (formatR v).1.any npB = false := by
  have hc := (parse_format v h).1
  have hdd : ∀ u, (Lib.decDigits u).any npB = false := fun u => by
    have := decDigits_all u
    rw [List.any_eq_false]
    intro c hcm
    rw [List.all_eq_true] at this
    simp [np_isD (this c hcm)]
  rw [formatR, ite_f (by rw [hc]; rfl), fmtText]
  split
  · rcases itoa_cases v.num with ⟨u, _, e⟩ | ⟨u, _, _, e⟩
    · simp only [e]; exact hdd u
    · simp only [e, List.any_cons, hdd u]; decide
  · split
    · cases (v.num == 1) <;> decide
    · simp only [quoteR, quoteTo, List.any_append, List.any_cons, List.any_flatMap, List.any_nil]
      have : v.text.any (fun x => (escB x).any npB) = false := by rw [List.any_eq_false]; intro c _; simp only [np_escB c]; decide
      simp only [this]; decide
end Go.Abs
set_option maxRecDepth 100000
namespace Go.Abs
open Go Go.Proofs
set_option linter.unusedSimpArgs false
theorem pc_rHash' (v : Val) : PC Tryd.prog 18 [encV v] (fun r => r = .tup [.i (hashR v).1, .i (hashR v).2]) := by
  have := pc_rHash v
  rw [rHashR_eq] at this
  exact this
theorem pc_rCheck' (v : Val) : PC Tryd.prog 23 [encV v] (fun r => r = .i (checkR v)) := by
  have := pc_rCheck v
  rw [rCheckR_eq] at this
  exact this
theorem pc_rCheckAll' (l : List Val) : PC Tryd.prog 25 [.list (l.map encV)] (fun r => r = .i (checkAllR checkR l)) := by
  have := pc_rCheckAll l
  rw [rCheckAll_eq] at this
  exact this
theorem pc_rCompare' (a b : Val) : PC Tryd.prog 20 [encV a, encV b] (fun r => r = .i (compR a b)) := by
  have := pc_rCompare a b
  rw [rCompR_eq] at this
  exact this
theorem pc_rInt' (n : Int) : PC Tryd.prog 11 [.i n] (fun r => r = .tup [encV (checkedV ⟨0, n, []⟩).1, .i (checkedV ⟨0, n, []⟩).2]) := by
  have := pc_rInt n
  rw [rIntR_eq] at this
  exact this
theorem pc_rString' (s : List UInt8) : PC Tryd.prog 13 [.str s] (fun r => r = .tup [encV (checkedV ⟨2, 0, s⟩).1, .i (checkedV ⟨2, 0, s⟩).2]) := by
  have := pc_rString s
  rw [rStringR_eq] at this
  exact this
attribute [local irreducible] formatR parseR hashR compR boolV checkR checkAllR checkedV
theorem eqA_val (k n k' n' : Int) (t t' : List UInt8) : eqA T 9 23 (.agg [.int .i64 k, .int .i64 n, .str t]) (.agg [.int .i64 k', .int .i64 n', .str t']) = some (k == k' && (n == n' && t == t')) := by
  simp [eqA, eqFieldsA, outOf, TI.agg]
theorem beq_self_true {α : Type} [DecidableEq α] (a : α) : (a == a) = true := by simp
set_option maxHeartbeats 1000000 in
theorem law_Compares (a b : Val) : PC Tryd.prog 5 [encV a, encV b] (fun r => r = .bool true) := by
  refine PC_body tOk Tryd.func5 rfl Tryd.results5 rfl (by simp [Tryd.ntmps5]) ?_
  rw [Tryd.ntmps5]
  simp only [argSlots]
  simp only [encV]
  repeat (first
    | (refine AWP_seq (AWP_regS tOk rfl ?_); simp)
    | (refine AWP_regS tOk rfl ?_; simp)
    | (refine AWP_skip ?_; simp)
    | (refine AWP_exit ?_; simp)
    | (refine AWP_ret ?_; simp)
    | refine AWP_block ?_
    | refine AWP_seq ?_)
  refine AWP_drawT tOk mixed [] (.val 0 (.val 1 (.val 3 (.val 4 (.one 2 (.one 5 (.val 6 (.val 7 (.one 8 (.val 9 (.val 10 (.done)))))))))))) rfl (by kernel_rfl) ?_
  simp
  refine AStep_PC rfl rfl (by simp) (pc_Compare a b) rfl ?_
  rintro _ rfl
  simp
  refine AStep_PC rfl rfl (by simp) (pc_rCompare' a b) rfl ?_
  rintro _ rfl
  simp
  refine AStep_PC rfl rfl (by simp) (pc_awake) rfl ?_
  rintro _ rfl
  simp
  repeat (first
    | (refine AWP_seq (AWP_regS tOk rfl ?_); simp)
    | (refine AWP_regS tOk rfl ?_; simp)
    | (refine AWP_skip ?_; simp)
    | (refine AWP_exit ?_; simp)
    | (refine AWP_ret ?_; simp)
    | refine AWP_block ?_
    | refine AWP_seq ?_)
set_option maxHeartbeats 1000000 in
theorem law_Checks (v : Val) (l : List Val) : PC Tryd.prog 8 [encV v, .list (l.map encV)] (fun r => r = .bool true) := by
  refine PC_body tOk Tryd.func8 rfl Tryd.results8 rfl (by simp [Tryd.ntmps8]) ?_
  rw [Tryd.ntmps8]
  simp only [argSlots]
  simp only [encV]
  repeat (first
    | (refine AWP_seq (AWP_regS tOk rfl ?_); simp)
    | (refine AWP_regS tOk rfl ?_; simp)
    | (refine AWP_skip ?_; simp)
    | (refine AWP_exit ?_; simp)
    | (refine AWP_ret ?_; simp)
    | refine AWP_block ?_
    | refine AWP_seq ?_)
  refine AWP_drawT tOk mixed [] (.val 0 (.val 2 (.one 1 (.one 3 (.val 4 (.val 5 (.val 6 (.val 8 (.one 7 (.one 9 (.val 10 (.val 11 (.val 12 (.one 13 (.val 14 (.val 15 (.done))))))))))))))))) rfl (by kernel_rfl) ?_
  simp
  refine AStep_PC rfl rfl (by simp) (pc_Check v) rfl ?_
  rintro _ rfl
  simp
  refine AStep_PC rfl rfl (by simp) (pc_rCheck' v) rfl ?_
  rintro _ rfl
  simp
  refine AStep_PC rfl rfl (by simp) (pc_CheckAll l) rfl ?_
  rintro _ rfl
  simp
  refine AStep_PC rfl rfl (by simp) (pc_rCheckAll' l) rfl ?_
  rintro _ rfl
  simp
  refine AStep_PC rfl rfl (by simp) (pc_awake) rfl ?_
  rintro _ rfl
  simp
  repeat (first
    | (refine AWP_seq (AWP_regS tOk rfl ?_); simp)
    | (refine AWP_regS tOk rfl ?_; simp)
    | (refine AWP_skip ?_; simp)
    | (refine AWP_exit ?_; simp)
    | (refine AWP_ret ?_; simp)
    | refine AWP_block ?_
    | refine AWP_seq ?_)
set_option maxHeartbeats 1000000 in
theorem law_Hashes (v : Val) : PC Tryd.prog 4 [encV v] (fun r => r = .bool true) := by
  refine PC_body tOk Tryd.func4 rfl Tryd.results4 rfl (by simp [Tryd.ntmps4]) ?_
  rw [Tryd.ntmps4]
  simp only [argSlots]
  simp only [encV]
  have hr := hashR_rng v
  repeat (first
    | (refine AWP_seq (AWP_regS tOk rfl ?_); simp)
    | (refine AWP_regS tOk rfl ?_; simp)
    | (refine AWP_skip ?_; simp)
    | (refine AWP_exit ?_; simp)
    | (refine AWP_ret ?_; simp)
    | refine AWP_block ?_
    | refine AWP_seq ?_)
  refine AStep_PC rfl rfl (by simp) (pc_Hash v) rfl ?_
  rintro _ rfl
  simp
  repeat (first
    | (refine AWP_seq (AWP_regS tOk rfl ?_); simp)
    | (refine AWP_regS tOk rfl ?_; simp)
    | (refine AWP_skip ?_; simp)
    | (refine AWP_exit ?_; simp)
    | (refine AWP_ret ?_; simp)
    | refine AWP_block ?_
    | refine AWP_seq ?_)
  refine AStep_PC rfl rfl (by simp) (pc_rHash' v) rfl ?_
  rintro _ rfl
  simp
  repeat (first
    | (refine AWP_seq (AWP_regS tOk rfl ?_); simp [hr.1, hr.2])
    | (refine AWP_regS tOk rfl ?_; simp [hr.1, hr.2])
    | (refine AWP_skip ?_; simp [hr.1, hr.2])
    | (refine AWP_exit ?_; simp [hr.1, hr.2])
    | (refine AWP_ret ?_; simp [hr.1, hr.2])
    | refine AWP_block ?_
    | refine AWP_seq ?_)
  refine AStep_PC rfl rfl (by simp) (pc_awake) rfl ?_
  rintro _ rfl
  simp
  repeat (first
    | (refine AWP_seq (AWP_regS tOk rfl ?_); simp)
    | (refine AWP_regS tOk rfl ?_; simp)
    | (refine AWP_skip ?_; simp)
    | (refine AWP_exit ?_; simp)
    | (refine AWP_ret ?_; simp)
    | refine AWP_block ?_
    | refine AWP_seq ?_)
set_option maxHeartbeats 1000000 in
theorem law_Makes (n : Int) (b : Bool) (s : List UInt8) : PC Tryd.prog 3 [.i n, .bool b, .str s] (fun r => r = .bool true) := by
  refine PC_body tOk Tryd.func3 rfl Tryd.results3 rfl (by simp [Tryd.ntmps3]) ?_
  rw [Tryd.ntmps3]
  simp only [argSlots]
  repeat (first
    | (refine AWP_seq (AWP_regS tOk rfl ?_); simp)
    | (refine AWP_regS tOk rfl ?_; simp)
    | (refine AWP_skip ?_; simp)
    | (refine AWP_exit ?_; simp)
    | (refine AWP_ret ?_; simp)
    | refine AWP_block ?_
    | refine AWP_seq ?_)
  refine AStep_PC rfl rfl (by simp) (pc_Int n) rfl ?_
  rintro _ rfl
  simp
  repeat (first
    | (refine AWP_seq (AWP_regS tOk rfl ?_); simp)
    | (refine AWP_regS tOk rfl ?_; simp)
    | (refine AWP_skip ?_; simp)
    | (refine AWP_exit ?_; simp)
    | (refine AWP_ret ?_; simp)
    | refine AWP_block ?_
    | refine AWP_seq ?_)
  refine AStep_PC rfl rfl (by simp) (pc_rInt' n) rfl ?_
  rintro _ rfl
  simp
  repeat (first
    | (refine AWP_seq (AWP_regS tOk rfl ?_); simp)
    | (refine AWP_regS tOk rfl ?_; simp)
    | (refine AWP_skip ?_; simp)
    | (refine AWP_exit ?_; simp)
    | (refine AWP_ret ?_; simp)
    | refine AWP_block ?_
    | refine AWP_seq ?_)
  refine AStep_PC rfl rfl (by simp) (pc_String s) rfl ?_
  rintro _ rfl
  simp
  repeat (first
    | (refine AWP_seq (AWP_regS tOk rfl ?_); simp)
    | (refine AWP_regS tOk rfl ?_; simp)
    | (refine AWP_skip ?_; simp)
    | (refine AWP_exit ?_; simp)
    | (refine AWP_ret ?_; simp)
    | refine AWP_block ?_
    | refine AWP_seq ?_)
  refine AStep_PC rfl rfl (by simp) (pc_rString' s) rfl ?_
  rintro _ rfl
  simp
  repeat (first
    | (refine AWP_seq (AWP_regS tOk rfl ?_); simp [eqA_val])
    | (refine AWP_regS tOk rfl ?_; simp [eqA_val])
    | (refine AWP_skip ?_; simp [eqA_val])
    | (refine AWP_exit ?_; simp [eqA_val])
    | (refine AWP_ret ?_; simp [eqA_val])
    | refine AWP_block ?_
    | refine AWP_seq ?_)
  refine AStep_PC rfl rfl (by simp) (pc_Bool b) rfl ?_
  rintro _ rfl
  simp
  refine AStep_PC rfl rfl (by simp) (pc_rBool b) rfl ?_
  rintro _ rfl
  simp [eqA_val]
  refine AStep_PC rfl rfl (by simp) (pc_awake) rfl ?_
  rintro _ rfl
  simp
  repeat (first
    | (refine AWP_seq (AWP_regS tOk rfl ?_); simp)
    | (refine AWP_regS tOk rfl ?_; simp)
    | (refine AWP_skip ?_; simp)
    | (refine AWP_exit ?_; simp)
    | (refine AWP_ret ?_; simp)
    | refine AWP_block ?_
    | refine AWP_seq ?_)
set_option maxHeartbeats 1000000 in
theorem law_Orders (a b c : Val) : PC Tryd.prog 6 [encV a, encV b, encV c] (fun r => r = .bool true) := by
  refine PC_body tOk Tryd.func6 rfl Tryd.results6 rfl (by simp [Tryd.ntmps6]) ?_
  rw [Tryd.ntmps6]
  simp only [argSlots]
  simp only [encV]
  repeat (first
    | (refine AWP_seq (AWP_regS tOk rfl ?_); simp)
    | (refine AWP_regS tOk rfl ?_; simp)
    | (refine AWP_skip ?_; simp)
    | (refine AWP_exit ?_; simp)
    | (refine AWP_ret ?_; simp)
    | refine AWP_block ?_
    | refine AWP_seq ?_)
  refine AWP_drawT tOk mixed [] (.val 0 (.val 1 (.val 3 (.val 4 (.val 6 (.val 7 (.one 2 (.one 5 (.one 8 (.val 9 (.val 10 (.val 11 (.done))))))))))))) rfl (by kernel_rfl) ?_
  simp
  refine AStep_PC rfl rfl (by simp) (pc_Compare a b) rfl ?_
  rintro _ rfl
  simp
  refine AStep_PC rfl rfl (by simp) (pc_Compare b c) rfl ?_
  rintro _ rfl
  simp
  refine AStep_PC rfl rfl (by simp) (pc_Compare a c) rfl ?_
  rintro _ rfl
  simp
  have hneg := to_compR.neg a b
  have hr := to_compR.rng a b
  have hz : (a.kind == b.kind && (a.num == b.num && a.text == b.text)) = (compR a b == 0) := by
    rw [Bool.eq_iff_iff]
    simp only [Bool.and_eq_true, beq_iff_eq, to_compR.zero]
    rcases a with ⟨⟩; rcases b with ⟨⟩; simp
  have ht1 : compR a b ≤ 0 → compR b c ≤ 0 → compR a c ≤ 0 := to_compR.trans a b c
  have ht2 : 0 ≤ compR a b → 0 ≤ compR b c → 0 ≤ compR a c := by
    have h1 := to_compR.neg a b
    have h2 := to_compR.neg b c
    have h3 := to_compR.neg a c
    have := to_compR.trans c b a
    omega
  generalize compR a b = x at *
  generalize compR b c = y at *
  generalize compR a c = z at *
  have hw : IntKind.i64.wrap x = x := wrap_i64 _ (by omega) (by omega)
  have hr1 : ¬ x < -1 := by omega
  have hr2 : ¬ 1 < x := by omega
  have hA : (decide (0 < x) || decide (0 < y) || decide (z ≤ 0)) = true := by simp; omega
  have hB : (decide (x < 0) || decide (y < 0) || decide (0 ≤ z)) = true := by simp; omega
  repeat (first
    | (refine AWP_seq (AWP_regS tOk rfl ?_); simp)
    | (refine AWP_regS tOk rfl ?_; simp)
    | (refine AWP_skip ?_; simp)
    | (refine AWP_exit ?_; simp)
    | (refine AWP_ret ?_; simp)
    | refine AWP_block ?_
    | refine AWP_seq ?_)
  refine AStep_PC rfl rfl (by simp) (pc_Compare b a) rfl ?_
  rintro _ rfl
  simp [hneg, hw, eqA_val, hz, hr1, hr2]
  refine AWP_cond rfl ?_
  repeat (first
    | (refine AWP_seq (AWP_regS tOk rfl ?_); simp [hA, hB])
    | (refine AWP_regS tOk rfl ?_; simp [hA, hB])
    | (refine AWP_skip ?_; simp [hA, hB])
    | (refine AWP_exit ?_; simp [hA, hB])
    | (refine AWP_ret ?_; simp [hA, hB])
    | refine AWP_block ?_
    | refine AWP_seq ?_)
  refine AStep_PC rfl rfl (by simp) (pc_awake) rfl ?_
  rintro _ rfl
  simp
  repeat (first
    | (refine AWP_seq (AWP_regS tOk rfl ?_); simp)
    | (refine AWP_regS tOk rfl ?_; simp)
    | (refine AWP_skip ?_; simp)
    | (refine AWP_exit ?_; simp)
    | (refine AWP_ret ?_; simp)
    | refine AWP_block ?_
    | refine AWP_seq ?_)
end Go.Abs
set_option maxRecDepth 100000
namespace Go.Abs
open Go Go.Proofs
set_option linter.unusedSimpArgs false
theorem fmt_len (v : Val) (h : checkR v = 0) : (formatR v).1.length ≤ 400 := by
  rw [formatR, ite_f (by rw [h]; rfl), fmtText]
  rcases checkR_zero h with ⟨hk, ht, h1, h2⟩ | ⟨hk, ht, hn⟩ | ⟨hk, hn, hl⟩
  · rw [ite_t (by rw [hk]; rfl)]
    rcases itoa_cases v.num with ⟨u, e, e'⟩ | ⟨u, h0, e, e'⟩
    · have := decDigits_len u (by omega); simp only [e']; omega
    · have := decDigits_len u (by omega); simp only [e', List.length_cons]; omega
  · rw [ite_f (by rw [hk]; rfl), ite_t (by rw [hk]; rfl)]
    cases (v.num == 1) <;> decide
  · rw [ite_f (by rw [hk]; rfl), ite_f (by rw [hk]; rfl)]
    have := quoteTo_len v.text
    simp only [quoteR, List.length_append, List.length_cons, List.length_nil]
    omega
theorem val_beq (a b : Val) : (a.kind == b.kind && (a.num == b.num && a.text == b.text)) = decide (a = b) := by
  rw [Bool.eq_iff_iff]
  rcases a with ⟨⟩; rcases b with ⟨⟩; simp
theorem fmt_inj (a b : Val) (ha : (formatR a).2 = 0) (hb : (formatR b).2 = 0) : ((formatR a).1 == (formatR b).1) = decide (a = b) := by
  rw [Bool.eq_iff_iff]
  simp only [beq_iff_eq, decide_eq_true_eq]
  constructor
  · intro h
    have h1 := (parse_format a ha).2
    have h2 := (parse_format b hb).2
    rw [h, h2] at h1
    exact (congrArg Prod.fst h1).symm
  · intro h; rw [h]
attribute [local irreducible] hexText formatR parseR hashR compR boolV checkR checkAllR checkedV npB hexq
set_option maxHeartbeats 1000000 in
theorem law_Returns (a b : Val) : PC Tryd.prog 9 [encV a, encV b] (fun r => r = .bool true) := by
  refine PC_body tOk Tryd.func9 rfl Tryd.results9 rfl (by simp [Tryd.ntmps9]) ?_
  rw [Tryd.ntmps9]
  simp only [argSlots]
  simp only [encV]
  repeat (first
    | (refine AWP_seq (AWP_regS tOk rfl ?_); simp)
    | (refine AWP_regS tOk rfl ?_; simp)
    | (refine AWP_skip ?_; simp)
    | (refine AWP_exit ?_; simp)
    | (refine AWP_ret ?_; simp)
    | refine AWP_block ?_
    | refine AWP_seq ?_)
  refine AStep_PC rfl rfl (by simp) (pc_Format a) rfl ?_
  rintro _ rfl
  simp
  repeat (first
    | (refine AWP_seq (AWP_regS tOk rfl ?_); simp)
    | (refine AWP_regS tOk rfl ?_; simp)
    | (refine AWP_skip ?_; simp)
    | (refine AWP_exit ?_; simp)
    | (refine AWP_ret ?_; simp)
    | refine AWP_block ?_
    | refine AWP_seq ?_)
  refine AStep_PC rfl rfl (by simp) (pc_Format b) rfl ?_
  rintro _ rfl
  simp
  repeat (first
    | (refine AWP_seq (AWP_regS tOk rfl ?_); simp)
    | (refine AWP_regS tOk rfl ?_; simp)
    | (refine AWP_skip ?_; simp)
    | (refine AWP_exit ?_; simp)
    | (refine AWP_ret ?_; simp)
    | refine AWP_block ?_
    | refine AWP_seq ?_)
  refine AWP_cond2 rfl (fun h => ?_) (fun h => ?_)
  · repeat (first
      | (refine AWP_seq (AWP_regS tOk rfl ?_); simp)
      | (refine AWP_regS tOk rfl ?_; simp)
      | (refine AWP_skip ?_; simp)
      | (refine AWP_exit ?_; simp)
      | (refine AWP_ret ?_; simp)
      | refine AWP_block ?_
      | refine AWP_seq ?_)
    refine AStep_PC rfl rfl (by simp) (pc_awake) rfl ?_
    rintro _ rfl
    simp
    repeat (first
      | (refine AWP_seq (AWP_regS tOk rfl ?_); simp)
      | (refine AWP_regS tOk rfl ?_; simp)
      | (refine AWP_skip ?_; simp)
      | (refine AWP_exit ?_; simp)
      | (refine AWP_ret ?_; simp)
      | refine AWP_block ?_
      | refine AWP_seq ?_)
  have ha : (formatR a).2 = 0 := by simp at h; exact h.1
  have hb : (formatR b).2 = 0 := by simp at h; exact h.2
  obtain ⟨ha1, ha2⟩ := parse_format a ha
  have hnp := np_format a ha
  have hl := fmt_len a ha1
  have hi := fmt_inj a b ha hb
  rw [← val_beq] at hi
  repeat (first
    | (refine AWP_seq (AWP_regS tOk rfl ?_); simp)
    | (refine AWP_regS tOk rfl ?_; simp)
    | (refine AWP_skip ?_; simp)
    | (refine AWP_exit ?_; simp)
    | (refine AWP_ret ?_; simp)
    | refine AWP_block ?_
    | refine AWP_seq ?_)
  refine AStep_PC rfl rfl (by simp) (pc_Parse (formatR a).1) rfl ?_
  rintro _ rfl
  simp [ha2]
  repeat (first
    | (refine AWP_seq (AWP_regS tOk rfl ?_); simp)
    | (refine AWP_regS tOk rfl ?_; simp)
    | (refine AWP_skip ?_; simp)
    | (refine AWP_exit ?_; simp)
    | (refine AWP_ret ?_; simp)
    | refine AWP_block ?_
    | refine AWP_seq ?_)
  refine AStep_toBytes tOk rfl rfl T42 rfl T5 rfl T9 rfl (by omega) rfl ?_
  simp
  refine AStep_PC rfl rfl (by simp) (pc_ContainsFuncB 28 npB (fun c => by unfold npB; exact pc_ret1 c) (formatR a).1 (by omega)) rfl ?_
  rintro _ rfl
  simp [hnp]
  repeat (first
    | (refine AWP_seq (AWP_regS tOk rfl ?_); simp [eqA_val, hi])
    | (refine AWP_regS tOk rfl ?_; simp [eqA_val, hi])
    | (refine AWP_skip ?_; simp [eqA_val, hi])
    | (refine AWP_exit ?_; simp [eqA_val, hi])
    | (refine AWP_ret ?_; simp [eqA_val, hi])
    | refine AWP_block ?_
    | refine AWP_seq ?_)
  refine AStep_PC rfl rfl (by simp) (pc_awake) rfl ?_
  rintro _ rfl
  simp
  repeat (first
    | (refine AWP_seq (AWP_regS tOk rfl ?_); simp)
    | (refine AWP_regS tOk rfl ?_; simp)
    | (refine AWP_skip ?_; simp)
    | (refine AWP_exit ?_; simp)
    | (refine AWP_ret ?_; simp)
    | refine AWP_block ?_
    | refine AWP_seq ?_)
theorem hexText_def (s : List UInt8) : hexText s = 34 :: (s.flatMap hexq ++ 34 :: []) := by unfold hexText; rfl
def escTo (s : List UInt8) : List UInt8 := 34 :: s.flatMap hexq
theorem escTo_succ (s : List UInt8) (j : Nat) (h : j < s.length) : escTo (s.take (j + 1)) = escTo (s.take j) ++ hexq s[j] := by
  rw [escTo, escTo, List.take_succ_eq_append_getElem h, List.flatMap_append, List.flatMap_cons, List.flatMap_nil, List.append_nil]
  rfl
theorem escTo_len (s : List UInt8) : (escTo s).length = 4 * s.length + 1 := by rw [escTo, List.length_cons, hexq_len]
theorem hexT (n : Nat) (h : n < 16) : ([48, 49, 50, 51, 52, 53, 54, 55, 56, 57, 97, 98, 99, 100, 101, 102] : List UInt8)[n]? = some (hexD n) := by
  rw [hexD, List.getD_eq_getElem?_getD, List.getElem?_eq_getElem (by show n < 16; omega), List.getElem?_eq_getElem (by show n < 16; omega)]
  rfl
set_option maxHeartbeats 2000000 in
theorem law_Escapes (s : List UInt8) : PC Tryd.prog 7 [.str s] (fun r => r = .bool true) := by
  refine PC_body tOk Tryd.func7 rfl Tryd.results7 rfl (by simp [Tryd.ntmps7]) ?_
  rw [Tryd.ntmps7]
  simp only [argSlots]
  repeat (first
    | (refine AWP_seq (AWP_regS tOk rfl ?_); simp)
    | (refine AWP_regS tOk rfl ?_; simp)
    | (refine AWP_skip ?_; simp)
    | (refine AWP_exit ?_; simp)
    | (refine AWP_ret ?_; simp)
    | refine AWP_block ?_
    | refine AWP_seq ?_)
  refine AWP_cond2 rfl (fun h => ?_) (fun h => ?_)
  · repeat (first
      | (refine AWP_seq (AWP_regS tOk rfl ?_); simp)
      | (refine AWP_regS tOk rfl ?_; simp)
      | (refine AWP_skip ?_; simp)
      | (refine AWP_exit ?_; simp)
      | (refine AWP_ret ?_; simp)
      | refine AWP_block ?_
      | refine AWP_seq ?_)
    refine AStep_PC rfl rfl (by simp) (pc_awake) rfl ?_
    rintro _ rfl
    simp
    repeat (first
      | (refine AWP_seq (AWP_regS tOk rfl ?_); simp)
      | (refine AWP_regS tOk rfl ?_; simp)
      | (refine AWP_skip ?_; simp)
      | (refine AWP_exit ?_; simp)
      | (refine AWP_ret ?_; simp)
      | refine AWP_block ?_
      | refine AWP_seq ?_)
  have hl : s.length ≤ 64 := by simp at h; omega
  repeat (first
    | (refine AWP_seq (AWP_regS tOk rfl ?_); simp)
    | (refine AWP_regS tOk rfl ?_; simp)
    | (refine AWP_skip ?_; simp)
    | (refine AWP_exit ?_; simp)
    | (refine AWP_ret ?_; simp)
    | refine AWP_block ?_
    | refine AWP_seq ?_)
  refine AStep_toBytes tOk rfl rfl T42 rfl T5 rfl T9 rfl (by omega) rfl ?_
  simp
  repeat (first
    | (refine AWP_seq (AWP_regS tOk rfl ?_); simp)
    | (refine AWP_regS tOk rfl ?_; simp)
    | (refine AWP_skip ?_; simp)
    | (refine AWP_exit ?_; simp)
    | (refine AWP_ret ?_; simp)
    | refine AWP_block ?_
    | refine AWP_seq ?_)
  refine AWP_count s.length (fun j => [(0, .str s), (3, .sl 0 1 0 (escTo (s.take j)).length), (16, .list (s.map byteAV)), (17, .i s.length), (18, .i j)]) (fun j => [.arr 5 1 ((escTo (s.take j)).map byteAV)]) (G := []) (by simp [escTo]) (by simp) (by simp [escTo]) (by simp) (by simp) ?_
  intro j hj ih
  have hb := escTo_len (s.take j)
  rw [List.length_take] at hb
  repeat (first
    | (refine AWP_seq (AWP_regS tOk rfl ?_); simp)
    | (refine AWP_regS tOk rfl ?_; simp)
    | (refine AWP_skip ?_; simp)
    | (refine AWP_exit ?_; simp)
    | (refine AWP_ret ?_; simp)
    | refine AWP_block ?_
    | refine AWP_seq ?_)
  refine AWP_cond2 rfl (fun hlt => ?_) (fun hge => ?_)
  · have hlt' : j < s.length := by simpa using hlt
    have hc := s[j].toNat_lt
    have hw : IntKind.i64.wrap ((j : Int) + 1) = j + 1 := wrap_i64 _ (by omega) (by omega)
    obtain ⟨p, hp⟩ : ∃ p, p = s[j].toNat / 16 := ⟨_, rfl⟩
    obtain ⟨q, hq⟩ : ∃ q, q = s[j].toNat % 16 := ⟨_, rfl⟩
    have e1 : IntKind.u8.wrap ((s[j].toNat : Int) / 16) = p := by rw [IntKind.wrap_u8]; omega
    have e2 : ((s[j].toNat : Int).tmod 16) = q := by rw [Int.tmod_eq_emod_of_nonneg (by omega)]; omega
    have e2' : ((s[j].toNat : Int) % 16) = q := by omega
    have e3 := hexT p (by omega)
    have e4 := hexT q (by omega)
    have hq : hexq s[j] = [92, 120, hexD p, hexD q] := by rw [hp, hq]; unfold hexq; rfl
    repeat (first
      | (refine AWP_seq (AWP_regS tOk rfl ?_); simp [hlt'])
      | (refine AWP_regS tOk rfl ?_; simp [hlt'])
      | (refine AWP_skip ?_; simp [hlt'])
      | (refine AWP_exit ?_; simp [hlt'])
      | (refine AWP_ret ?_; simp [hlt'])
      | refine AWP_block ?_
      | refine AWP_seq ?_)
    refine AWP_drawT tOk mixed [8] (.val 0 (.val 1 (.val 2 (.val 3 (.val 4 (.val 5 (.val 6 (.one 7 (.one 8 (.val 9 (.done))))))))))) rfl (by kernel_rfl) ?_
    simp [hlt', e1, e2, e2', e3, e4]
    refine AStep_appendS tOk rfl rfl T42 rfl T5 rfl (by decide) (by decide) rfl rfl rfl ?_
    simp
    refine ⟨by simp [appOk]; omega, ?_⟩
    repeat (first
      | (refine AWP_seq (AWP_regS tOk rfl ?_); simp [hw])
      | (refine AWP_regS tOk rfl ?_; simp [hw])
      | (refine AWP_skip ?_; simp [hw])
      | (refine AWP_exit ?_; simp [hw])
      | (refine AWP_ret ?_; simp [hw])
      | refine AWP_block ?_
      | refine AWP_seq ?_)
    refine ALoop_ren [2] (sl' := [(0, .str s), (3, .sl 0 1 0 (escTo (s.take (j + 1))).length), (16, .list (s.map byteAV)), (17, .i s.length), (18, .i (j + 1 : Nat))]) (H' := [.arr 5 1 ((escTo (s.take (j + 1))).map byteAV)]) (ih hlt') ?_ (by decide) (by simp) rfl (by simp) (by simp) ?_
    · rw [escTo_succ s j hlt', hq]; simp
    · rw [escTo_succ s j hlt', hq]; simp
  · have hge' : j = s.length := by simp at hge; omega
    subst hge'
    rw [List.take_length] at hb ⊢
    repeat (first
      | (refine AWP_seq (AWP_regS tOk rfl ?_); simp)
      | (refine AWP_regS tOk rfl ?_; simp)
      | (refine AWP_skip ?_; simp)
      | (refine AWP_exit ?_; simp)
      | (refine AWP_ret ?_; simp)
      | refine AWP_block ?_
      | refine AWP_seq ?_)
    refine AStep_appendS tOk rfl rfl T42 rfl T5 rfl (by decide) (by decide) rfl rfl rfl ?_
    simp
    refine ⟨by simp [appOk]; omega, ?_⟩
    repeat (first
      | (refine AWP_seq (AWP_regS tOk rfl ?_); simp)
      | (refine AWP_regS tOk rfl ?_; simp)
      | (refine AWP_skip ?_; simp)
      | (refine AWP_exit ?_; simp)
      | (refine AWP_ret ?_; simp)
      | refine AWP_block ?_
      | refine AWP_seq ?_)
    have hx : hexText s = escTo s ++ [34] := by rw [hexText_def]; rfl
    refine AStep_toStr tOk rfl rfl T42 rfl T5 rfl T9 rfl rfl (s := hexText s) (by rw [hx]; simp [List.take_of_length_le]) rfl ?_
    simp
    refine AStep_PC rfl rfl (by simp) (pc_Parse (hexText s)) rfl ?_
    rintro _ rfl
    simp [parse_hexText s hl]
    repeat (first
      | (refine AWP_seq (AWP_regS tOk rfl ?_); simp)
      | (refine AWP_regS tOk rfl ?_; simp)
      | (refine AWP_skip ?_; simp)
      | (refine AWP_exit ?_; simp)
      | (refine AWP_ret ?_; simp)
      | refine AWP_block ?_
      | refine AWP_seq ?_)
    refine AStep_toStr tOk rfl rfl T42 rfl T5 rfl T9 rfl rfl (s := hexText s) (by rw [hx]; simp [List.take_of_length_le]) rfl ?_
    simp
    refine AStep_toStr tOk rfl rfl T42 rfl T5 rfl T9 rfl rfl (s := hexText s) (by rw [hx]; simp [List.take_of_length_le]) rfl ?_
    have hxl : (hexText s).length + (hexText s).length ≤ 9223372036854775807 := by rw [hx, List.length_append]; simp only [List.length_cons, List.length_nil]; omega
    simp [hxl]
    refine AStep_PC rfl rfl (by simp) (pc_Parse (hexText s ++ hexText s)) rfl ?_
    rintro _ rfl
    simp [parse_hexText2 s hl]
    repeat (first
      | (refine AWP_seq (AWP_regS tOk rfl ?_); simp [eqA_val])
      | (refine AWP_regS tOk rfl ?_; simp [eqA_val])
      | (refine AWP_skip ?_; simp [eqA_val])
      | (refine AWP_exit ?_; simp [eqA_val])
      | (refine AWP_ret ?_; simp [eqA_val])
      | refine AWP_block ?_
      | refine AWP_seq ?_)
    refine AStep_PC rfl rfl (by simp) (pc_awake) rfl ?_
    rintro _ rfl
    simp
    repeat (first
      | (refine AWP_seq (AWP_regS tOk rfl ?_); simp)
      | (refine AWP_regS tOk rfl ?_; simp)
      | (refine AWP_skip ?_; simp)
      | (refine AWP_exit ?_; simp)
      | (refine AWP_ret ?_; simp)
      | refine AWP_block ?_
      | refine AWP_seq ?_)
end Go.Abs
set_option maxRecDepth 100000
namespace Go.Abs
open Go Go.Proofs Go.RowKit Go.Proofs.YtbhafingccfjgaaDoor
theorem laidOut : laidOutB Tryd.prog = true := by kernel_rfl
theorem own : ownKnob Tryd.prog.godebug = none := by kernel_rfl
theorem list_of {α : Type} {g : α → AV} {Q : α → Prop} : ∀ xs : List AV, (∀ x ∈ xs, ∃ a, x = g a ∧ Q a) → ∃ l : List α, xs = l.map g ∧ ∀ a ∈ l, Q a
  | [], _ => ⟨[], rfl, by simp⟩
  | x :: xs, h => by
    obtain ⟨a, rfl, ha⟩ := h x (by simp)
    obtain ⟨l, rfl, hl⟩ := list_of xs (fun y hy => h y (by simp [hy]))
    exact ⟨a :: l, rfl, by simpa using ⟨ha, hl⟩⟩
theorem reach_le : reachBytes ≤ 140737488355328 := by decide
theorem shpInt {d : Nat} {zs : List AV} (h : Shp T (d + 1) 3 zs) : ∃ n : Int, zs = [.i n] ∧ -9223372036854775808 ≤ n ∧ n ≤ 9223372036854775807 := by
  simp only [Shp, T3, ShpI] at h
  obtain ⟨n, rfl, h1, h2⟩ := h
  exact ⟨n, rfl, h1, h2⟩
theorem shpBool {d : Nat} {zs : List AV} (h : Shp T (d + 1) 4 zs) : ∃ b : Bool, zs = [.bool b] := by
  simp only [Shp, T4, ShpI] at h
  exact h
theorem shpStr {d : Nat} {zs : List AV} (h : Shp T (d + 1) 9 zs) : ∃ s : List UInt8, zs = [.str s] ∧ s.length ≤ 140737488355328 := by
  simp only [Shp, T9, ShpI] at h
  obtain ⟨s, rfl, hs⟩ := h
  exact ⟨s, rfl, Nat.le_trans hs reach_le⟩
theorem argsNil {d : Nat} {xs : List AV} (h : ArgsShp T d [] xs) : xs = [] := h
theorem argInt {d : Nat} {ts : List Nat} {xs : List AV} (h : ArgsShp T (d + 1) (3 :: ts) xs) : ∃ (n : Int) (r : List AV), xs = .i n :: r ∧ (-9223372036854775808 ≤ n ∧ n ≤ 9223372036854775807) ∧ ArgsShp T (d + 1) ts r := by
  obtain ⟨i, zs, r, hi, rfl, h1, h⟩ := h
  rw [T3] at hi; cases hi
  obtain ⟨n, rfl, hn⟩ := shpInt h1
  exact ⟨n, r, rfl, hn, h⟩
theorem argBool {d : Nat} {ts : List Nat} {xs : List AV} (h : ArgsShp T (d + 1) (4 :: ts) xs) : ∃ (b : Bool) (r : List AV), xs = .bool b :: r ∧ ArgsShp T (d + 1) ts r := by
  obtain ⟨i, zs, r, hi, rfl, h1, h⟩ := h
  rw [T4] at hi; cases hi
  obtain ⟨b, rfl⟩ := shpBool h1
  exact ⟨b, r, rfl, h⟩
theorem argStr {d : Nat} {ts : List Nat} {xs : List AV} (h : ArgsShp T (d + 1) (9 :: ts) xs) : ∃ (s : List UInt8) (r : List AV), xs = .str s :: r ∧ s.length ≤ 140737488355328 ∧ ArgsShp T (d + 1) ts r := by
  obtain ⟨i, zs, r, hi, rfl, h1, h⟩ := h
  rw [T9] at hi; cases hi
  obtain ⟨s, rfl, hs⟩ := shpStr h1
  exact ⟨s, r, rfl, hs, h⟩
/-- What a tie's reading of a table of integers comes to: the block's cells. -/
theorem tab_in {l : List (String × DataW Unit)} {w : World} {name : String} {k : IntKind} {zs : List Int} {g : Nat} {t e : TypeId} {n : Nat} (h : laidMetH Tryd.prog l w) (hl : l.filter (fun x => x.1 == name) = [(name, Lib.tabData k zs)])
    (hg : Tryd.prog.globalNamed name = some g) (hty : (Tryd.prog.globals[g]?).map (·.type) = some t) (ht : Tryd.prog.underlying t = some (.array n e)) (he : Tryd.prog.underlying e = some (.int k)) (hce : Tryd.prog.cellsOf e = 1) (hct : Tryd.prog.cellsOf t = n) :
    g < w.heap.size ∧ ∃ t fr, w.heap[g]? = some (.cells (zs.map fun z => Value.int k z).toArray t fr) := by
  have h1 := h.filter (fun x => x.1 == name)
  rw [hl] at h1
  have h2 : Lib.TabIs Tryd.prog w name k zs := Lib.tabIs_of_head hg hty ht he hce hct h1
  unfold Lib.TabIs World.var? at h2
  rw [hg] at h2
  simp only [Option.bind_some] at h2
  cases ho : w.heap[g]? with
  | none => rw [ho] at h2; simp at h2
  | some o =>
    rw [ho] at h2
    refine ⟨(Array.getElem?_eq_some_iff.1 ho).1, ?_⟩
    cases o <;> simp at h2
    rename_i cs t fr
    exact ⟨t, fr, by rw [h2]⟩
end Go.Abs
set_option maxRecDepth 100000
namespace Go.Abs
open Go Go.Proofs Go.RowKit Go.Proofs.YtbhafingccfjgaaDoor
theorem shpV {d : Nat} {zs : List AV} (h : Shp T (d + 2) 23 zs) : ∃ v : Val, zs = (encV v).cells ∧ v.text.length ≤ 140737488355328 := by
  simp only [Shp, T23, T3, T9, ShpI, ShpF, List.map_cons, List.map_nil] at h
  obtain ⟨_, _, rfl, ⟨a, rfl, ha⟩, _, _, rfl, ⟨b, rfl, hb⟩, _, _, rfl, ⟨c, rfl, hc⟩, rfl⟩ := h
  exact ⟨⟨a, b, c⟩, rfl, Nat.le_trans hc reach_le⟩
theorem argV {d : Nat} {ts : List Nat} {xs : List AV} (h : ArgsShp T (d + 2) (23 :: ts) xs) : ∃ (v : Val) (r : List AV), xs = encV v :: r ∧ v.text.length ≤ 140737488355328 ∧ ArgsShp T (d + 2) ts r := by
  obtain ⟨i, zs, r, hi, rfl, h1, h⟩ := h
  rw [T23] at hi; cases hi
  obtain ⟨v, rfl, hv⟩ := shpV h1
  exact ⟨v, r, rfl, hv, h⟩
theorem argLV {d : Nat} {ts : List Nat} {xs : List AV} (h : ArgsShp T (d + 3) (44 :: ts) xs) : ∃ (l : List Val) (r : List AV), xs = .list (l.map encV) :: r ∧ (∀ v ∈ l, v.text.length ≤ 140737488355328) ∧ ArgsShp T (d + 3) ts r := by
  obtain ⟨i, zs, r, hi, rfl, h1, h⟩ := h
  rw [T44] at hi; cases hi
  simp only [Shp, T44, ShpI] at h1
  obtain ⟨ei, xs, he, rfl, hl, hx⟩ := h1
  rw [T23] at he
  cases he
  obtain ⟨l, rfl, hq⟩ := list_of (g := encV) (Q := fun v => v.text.length ≤ 140737488355328) xs (fun x hxm => by
    obtain ⟨zs, rfl, hz⟩ := hx x hxm
    obtain ⟨v, rfl, hv⟩ := shpV (d := d) hz
    exact ⟨v, rfl, hv⟩)
  exact ⟨l, r, rfl, hq, h⟩
theorem eok_of {l : List (String × DataW Unit)} {w : World} (h : laidMetH Tryd.prog l w) (hl : l.filter (fun x => x.1 == "internal/strconv.uint64pow10") = [("internal/strconv.uint64pow10", Lib.tabData .u64 Lib.pow10Tab)]) : EOK Tryd.prog w (· < w.heap.size) := fun g cs hm => by
  have e := List.mem_singleton.1 hm
  cases e
  exact tab_in (t := 122) (e := 107) (n := 20) h hl (by kernel_rfl) (by kernel_rfl) (by kernel_rfl) (by kernel_rfl) (by kernel_rfl) (by kernel_rfl)
end Go.Abs
