/- Part Kf of the proof: an abstract machine over the model, and what the functions of the program hand back in its terms. No condition. -/
import Derived.Test.YtajieghdkkgegaaGreatDoorKb
import Derived.Test.YtajieghdkkgegaaGreatDoorKc
import Derived.Lay
import Derived.LaidSub
import Derived.Deep.DeepWitnessRowRef
import Derived.Test.YtajieghdkkgegaaGreatDoorCards
import Derived.Test.YtajieghdkkgegaaGreatDoorTie
import Derived.Lib.LaidTab
import Derived.Test.YtajieghdkkgegaaGreatDoorKe
import Derived.Shelf.Vars
import Derived.Laws.MakeOwn
set_option linter.all false
set_option maxRecDepth 100000
namespace Go.Abs
open Go Go.Proofs Go.RowKit Go.Proofs.YtajieghdkkgegaaGreatDoor
theorem laidOut : laidOutB Tryz.prog = true := by kernel_rfl
theorem own : ownKnob Tryz.prog.godebug = none := by kernel_rfl
theorem list_of {α : Type} {g : α → AV} {Q : α → Prop} : ∀ xs : List AV, (∀ x ∈ xs, ∃ a, x = g a ∧ Q a) → ∃ l : List α, xs = l.map g ∧ ∀ a ∈ l, Q a
  | [], _ => ⟨[], rfl, by simp⟩
  | x :: xs, h => by
    obtain ⟨a, rfl, ha⟩ := h x (by simp)
    obtain ⟨l, rfl, hl⟩ := list_of xs (fun y hy => h y (by simp [hy]))
    exact ⟨a :: l, rfl, by simpa using ⟨ha, hl⟩⟩
theorem reach_le : reachBytes ≤ 140737488355328 := by decide
theorem shpInt {d : Nat} {zs : List AV} (h : Shp T (d + 1) 3 zs) : ∃ n : Int, zs = [.i n] ∧ -9223372036854775808 ≤ n ∧ n ≤ 9223372036854775807 := by
  simp only [Shp, T3, ShpI] at h
  obtain ⟨n, rfl, h1, h2⟩ := h
  exact ⟨n, rfl, h1, h2⟩
theorem shpStr {d : Nat} {zs : List AV} (h : Shp T (d + 1) 9 zs) : ∃ s : List UInt8, zs = [.str s] ∧ s.length ≤ 140737488355328 := by
  simp only [Shp, T9, ShpI] at h
  obtain ⟨s, rfl, hs⟩ := h
  exact ⟨s, rfl, Nat.le_trans hs reach_le⟩
theorem argsNil {d : Nat} {xs : List AV} (h : ArgsShp T d [] xs) : xs = [] := h
/-- What a tie's reading of a table of integers comes to: the block's cells. -/
theorem tab_in {l : List (String × DataW Unit)} {w : World} {name : String} {k : IntKind} {zs : List Int} {g : Nat} {t e : TypeId} {n : Nat} (h : laidMetH Tryz.prog l w) (hl : l.filter (fun x => x.1 == name) = [(name, Lib.tabData k zs)])
    (hg : Tryz.prog.globalNamed name = some g) (hty : (Tryz.prog.globals[g]?).map (·.type) = some t) (ht : Tryz.prog.underlying t = some (.array n e)) (he : Tryz.prog.underlying e = some (.int k)) (hce : Tryz.prog.cellsOf e = 1) (hct : Tryz.prog.cellsOf t = n) :
    g < w.heap.size ∧ ∃ t fr, w.heap[g]? = some (.cells (zs.map fun z => Value.int k z).toArray t fr) := by
  have h1 := h.filter (fun x => x.1 == name)
  rw [hl] at h1
  have h2 : Lib.TabIs Tryz.prog w name k zs := Lib.tabIs_of_head hg hty ht he hce hct h1
  unfold Lib.TabIs World.var? at h2
  rw [hg] at h2
  simp only [Option.bind_some] at h2
  cases ho : w.heap[g]? with
  | none => rw [ho] at h2; simp at h2
  | some o =>
    rw [ho] at h2
    refine ⟨(Array.getElem?_eq_some_iff.1 ho).1, ?_⟩
    cases o <;> simp at h2
    rename_i cs t fr
    exact ⟨t, fr, by rw [h2]⟩
end Go.Abs
set_option maxRecDepth 100000
namespace Go.Abs
open Go Go.Proofs Go.RowKit Go.Proofs.YtajieghdkkgegaaGreatDoor
theorem shpV {d : Nat} {zs : List AV} (h : Shp T (d + 2) 39 zs) : ∃ v : Val, zs = (encV v).cells ∧ v.text.length ≤ 140737488355328 := by
  simp only [Shp, T39, T3, T9, ShpI, ShpF, List.map_cons, List.map_nil] at h
  obtain ⟨_, _, rfl, ⟨a, rfl, ha⟩, _, _, rfl, ⟨b, rfl, hb⟩, _, _, rfl, ⟨c, rfl, hc⟩, rfl⟩ := h
  exact ⟨⟨a, b, c⟩, rfl, Nat.le_trans hc reach_le⟩
theorem len_of_bytes {n b : Nat} (h : n * b ≤ reachBytes) (hb : 0 < b) : n ≤ 140737488355328 := Nat.le_trans (Nat.le_mul_of_pos_right n hb) (Nat.le_trans h reach_le)
theorem shpF {d : Nat} {zs : List AV} (h : Shp T (d + 2) 37 zs) : ∃ f : Fld, zs = (encF f).cells := by
  simp only [Shp, T37, T3, T9, ShpI, ShpF, List.map_cons, List.map_nil] at h
  obtain ⟨_, _, rfl, ⟨a, rfl, ha⟩, _, _, rfl, ⟨b, rfl, hb⟩, rfl⟩ := h
  exact ⟨⟨a, b⟩, rfl⟩
theorem shpLF {d : Nat} {zs : List AV} (h : Shp T (d + 3) 31 zs) : ∃ l : List Fld, zs = [.list (l.map encF)] ∧ l.length ≤ 140737488355328 := by
  simp only [Shp, T31, ShpI] at h
  obtain ⟨ei, xs, he, rfl, hl, hx⟩ := h
  rw [T37] at he
  cases he
  obtain ⟨l, rfl, _⟩ := list_of (g := encF) (Q := fun _ => True) xs (fun x hxm => by
    obtain ⟨zs, rfl, hz⟩ := hx x hxm
    obtain ⟨v, rfl⟩ := shpF (d := d) hz
    exact ⟨v, rfl, trivial⟩)
  rw [List.length_map] at hl
  exact ⟨l, rfl, len_of_bytes hl (by decide)⟩
theorem shpSch {d : Nat} {zs : List AV} (h : Shp T (d + 4) 33 zs) : ∃ s : Sch, zs = (encSch s).cells ∧ s.fields.length ≤ 140737488355328 ∧ s.name.length ≤ 140737488355328 := by
  rw [Shp, T33] at h
  simp only [ShpI, ShpF, List.map_cons, List.map_nil] at h
  obtain ⟨_, _, rfl, h1, _, _, rfl, h2, rfl⟩ := h
  obtain ⟨a, rfl, ha⟩ := shpStr (d := d + 2) h1
  obtain ⟨l, rfl, hl⟩ := shpLF (d := d) h2
  exact ⟨⟨a, l⟩, rfl, hl, ha⟩
theorem argLSch {d : Nat} {ts : List Nat} {xs : List AV} (h : ArgsShp T (d + 5) (22 :: ts) xs) : ∃ (l : List Sch) (r : List AV), xs = .list (l.map encSch) :: r ∧ schOk l ∧ ArgsShp T (d + 5) ts r := by
  obtain ⟨i, zs, r, hi, rfl, h1, h⟩ := h
  rw [T22] at hi; cases hi
  rw [Shp, T22] at h1
  simp only [ShpI] at h1
  obtain ⟨ei, xs, he, rfl, hl, hx⟩ := h1
  rw [T33] at he
  cases he
  obtain ⟨l, rfl, hq⟩ := list_of (g := encSch) (Q := fun s => s.fields.length ≤ 140737488355328 ∧ s.name.length ≤ 140737488355328) xs (fun x hxm => by
    obtain ⟨zs, rfl, hz⟩ := hx x hxm
    obtain ⟨v, rfl, hv⟩ := shpSch (d := d) hz
    exact ⟨v, rfl, hv⟩)
  rw [List.length_map] at hl
  have := len_of_bytes hl (by decide)
  exact ⟨l, r, rfl, ⟨by omega, fun s hs => by have := hq s hs; omega⟩, h⟩
theorem shpLV {d : Nat} {zs : List AV} (h : Shp T (d + 3) 23 zs) : ∃ l : List Val, zs = [.list (l.map encV)] ∧ l.length ≤ 140737488355328 := by
  simp only [Shp, T23, ShpI] at h
  obtain ⟨ei, xs, he, rfl, hl, hx⟩ := h
  rw [T39] at he
  cases he
  obtain ⟨l, rfl, _⟩ := list_of (g := encV) (Q := fun _ => True) xs (fun x hxm => by
    obtain ⟨zs, rfl, hz⟩ := hx x hxm
    obtain ⟨v, rfl, _⟩ := shpV (d := d) hz
    exact ⟨v, rfl, trivial⟩)
  rw [List.length_map] at hl
  exact ⟨l, rfl, len_of_bytes hl (by decide)⟩
theorem argE {d : Nat} {ts : List Nat} {xs : List AV} (h : ArgsShp T (d + 4) (25 :: ts) xs) : ∃ (e : Ev) (r : List AV), xs = encE e :: r ∧ evOk e ∧ ArgsShp T (d + 4) ts r := by
  obtain ⟨i, zs, r, hi, rfl, h1, h⟩ := h
  rw [T25] at hi; cases hi
  rw [Shp, T25] at h1
  simp only [ShpI, ShpF, List.map_cons, List.map_nil] at h1
  obtain ⟨_, _, rfl, h1, _, _, rfl, h2, _, _, rfl, h3, _, _, rfl, h4, _, _, rfl, h5, rfl⟩ := h1
  obtain ⟨a, rfl, _⟩ := shpInt (d := d + 2) h1
  obtain ⟨b, rfl, _⟩ := shpInt (d := d + 2) h2
  obtain ⟨c, rfl, _⟩ := shpInt (d := d + 2) h3
  obtain ⟨t, rfl, _⟩ := shpInt (d := d + 2) h4
  obtain ⟨l, rfl, hl⟩ := shpLV (d := d) h5
  exact ⟨⟨a, b, c, t, l⟩, r, rfl, by unfold evOk; simp only; omega, h⟩
theorem maxLen_in {w : World} (h : w.ShapedOpen Tryz.prog) : 1 < w.heap.size ∧ ∃ (cs : List Value) (t : TypeId) (fr : Nat × Nat), someInt cs ∧ w.heap[1]? = some (.cells cs.toArray t fr) := by
  obtain ⟨m, hm⟩ := Go.Proofs.cell_of_shapedOpen_int (zero := #[.int .i64 0]) (t := 3) (g := 1) h (of_decide_eq_true (by kernel_rfl)) (by kernel_rfl) rfl (by kernel_rfl) (by kernel_rfl) Tryz.underlying3
  obtain ⟨cs, hh, hs, _⟩ := h.1 1 #[.int .i64 0] 3 (of_decide_eq_true (by kernel_rfl)) (by kernel_rfl)
  refine ⟨(Array.getElem?_eq_some_iff.1 hh).1, cs.toList, 3, _, ⟨m, ?_⟩, by simpa using hh⟩
  rw [Lib.cell_of_heap hh] at hm
  rcases cs with ⟨cs⟩
  match cs, hs with
  | [v], _ => simpa using hm
theorem eok_of {l : List (String × DataW Unit)} {w : World} (h : laidMetH Tryz.prog l w) (hS : w.ShapedOpen Tryz.prog) (hl : l.filter (fun x => x.1 == "internal/strconv.uint64pow10") = [("internal/strconv.uint64pow10", Lib.tabData .u64 Lib.pow10Tab)]) : EOK Tryz.prog w (· < w.heap.size) := fun g cs hm => by
  rcases List.mem_cons.1 hm with e | hm
  · cases e
    obtain ⟨h1, t, fr, h2⟩ := tab_in (t := 121) (e := 106) (n := 20) h hl (by kernel_rfl) (by kernel_rfl) (by kernel_rfl) (by kernel_rfl) (by kernel_rfl) (by kernel_rfl)
    exact ⟨h1, _, t, fr, rfl, h2⟩
  · have e := List.mem_singleton.1 hm
    cases e
    exact maxLen_in hS
end Go.Abs
namespace Go.Abs
open Go Go.RowKit
section
variable {P : Program} [Env P] {T : TT} {nt k : Nat} {S : AS} {ops : Array Oper} {o : Oper} {R : AS → Prop}
theorem made_get (z : Array Value) (n p j : Nat) (hp : p < n) (hj : j < z.size) : (madeCells z (n * z.size))[p * z.size + j]? = z[j]? := by
  have hlt : p * z.size + j < n * z.size := by
    have : (p + 1) * z.size ≤ n * z.size := Nat.mul_le_mul_right _ hp
    rw [Nat.add_mul] at this; omega
  unfold madeCells
  rw [Array.getElem?_map]
  simp only [Array.getElem?_range, hlt]
  simp only [if_true, Option.map_some]
  rw [Nat.mul_comm p, Nat.mul_add_mod, Nat.mod_eq_of_lt hj]
  simp [hj]
/-- make([]T, n) -/
theorem AStep_makeSlice (hT : TOk P T) {wr : Bool} (hw : wantedA ops S o = some true) (hd : dstOk nt o = true) {t e : TypeId} {l c : Operand} (ho : o.op = .makeSlice t l c) {it ei : TI} (ht : look T t = some it) (hit : it.desc = .slice e) (he : look T e = some ei)
    (hz : ei.zero.cells.size = ei.size) {kl kc : IntKind} {n : Nat} (hl : rho S.sl l = some (.int kl n)) (hc : rho S.sl c = some (.int kc n)) (hb : ei.bytes * n ≤ 281474976710656) (hn : n ≤ maxLen) (z : AV) (hzc : z.cells = ei.zeros)
    (hR : R (({ S with hp := S.hp ++ [.arr e ei.size (List.replicate n z)] } : AS).putD o.dst (.sl S.hp.length ei.size 0 n))) : AStep P nt k wr ops o S R := fun C a w K Q hst hK => by
  unfold OpW
  rw [if_pos (hst.wanted hw)]
  obtain ⟨I, m, hws, hsl, hk', hE⟩ := hst
  have hut := hT.und ht
  rw [hit] at hut
  obtain ⟨i, hi, i1, i2, i3⟩ := hT.info he
  have hlv := (rho_sound hsl hl).int_inv
  have hcv := (rho_sound hsl hc).int_inv
  have h63 : (n : Int) ≤ 9223372036854775807 := by unfold maxLen at hn; omega
  have hbi : (i.bytes : Int) * (n : Int) ≤ 281474976710656 := by
    have h : ((i.bytes * n : Nat) : Int) ≤ 281474976710656 := by rw [i3]; omega
    rwa [Int.natCast_mul] at h
  have hrun0 := run_make (P := P) w t e i ei.zero hut hi i1 kl kc n n (by omega) (Int.le_refl _) hbi h63
  simp only [Int.toNat_natCast] at hrun0
  rw [i2, ← hz] at hrun0
  obtain ⟨cs, hcs⟩ : ∃ cs, madeCells ei.zero.cells (n * ei.zero.cells.size) = cs := ⟨_, rfl⟩
  have hcz : cs.size = n * ei.size := by rw [← hcs, ← hz]; simp [madeCells]
  have hget : ∀ p j, p < n → j < ei.size → cs[p * ei.size + j]? = ei.zero.cells[j]? := fun p j hp hj => by
    rw [← hcs, ← hz]; exact made_get _ _ _ _ hp (by omega)
  rw [hcs] at hrun0
  have hrun : (execOp a.eval o).run P w = .ok (.value (.slice (some ⟨w.heap.size, 0, none⟩) n n)) (w.alloc (.cells cs e)) := by
    simp [execOp, ho, hlv, hcv, hrun0]
  have hbl : Below w.heap.size w (w.alloc (.cells cs e)) := (Below.refl _ _).alloc (Nat.le_refl _) _
  have hzl : z.cells.length = ei.size := by rw [hzc, TI.zeros, List.length_map, Array.length_toList, hz]
  obtain ⟨g1, g2⟩ := hws.push hbl (some w.heap.size) (fun b e => by injection e with e; subst e; simp) (.arr e ei.size (List.replicate n z)) (fun m' hf hm => .inr ⟨w.heap.size, n, cs, rfl, heap_alloc_new w _, by simp, hn, hcz,
    fun y hy => by rw [List.eq_of_mem_replicate hy]; exact hzl, fun p y hp j v hv => by
      rw [List.getElem?_replicate] at hp
      split at hp
      · rename_i hpn
        obtain rfl := Option.some.inj hp
        have hj : j < ei.size := by rw [← hzl]; exact (List.getElem?_eq_some_iff.1 hv).1
        rw [hzc, TI.zeros, List.getElem?_map] at hv
        obtain ⟨u, hu, rfl⟩ := Option.map_eq_some_iff.1 hv
        rw [Array.getElem?_toList] at hu
        exact ⟨u, by rw [hget p j hpn hj]; exact hu, zeroCell_sound u⟩
      · cases hp⟩)
  unfold wpA
  rw [hrun]
  refine hK _ _ _ hR (St.value hsl hk' hE g1 g2 (by simp) (dstOk_spec hd) ?_) (fun _ => Held.of_below hbl)
  have := VR.sl (w := w.alloc (.cells cs e)) (I := I) (m := upd m S.hp.length (some w.heap.size)) (n := S.hp.length + 1) S.hp.length ei.size 0 n n w.heap.size e (by omega) (upd_same _ _ _)
    (by have := heap_alloc_new w (.cells cs e); simp only [World.shape?, this, Nat.zero_add]; rw [hcz]) (Nat.le_refl _) (by omega)
  simpa using this
end
end Go.Abs
