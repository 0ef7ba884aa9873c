/- Part Kc of the proof: an abstract machine over the model, and what the functions of the program hand back in its terms. No condition. -/
import Derived.Test.YteghceocnldccaaGreatDoorKb
import Derived.Lib.MakeNoZero
import Derived.Carry
import Derived.Maps.Keyed
import Derived.Laws.MakeOwn
import Derived.Shelf.Sort.Plain
import Derived.Shelf.Slices.In.SortNone
import Derived.Ground.SlgcProg
import Derived.Shelf.SlicesG.Cmp
import Derived.Test.YteghceocnldccaaGreatDoorProg
import Derived.Test.YteghceocnldccaaGreatDoorChecked
import Derived.KernelRfl
import Derived.Lib.LaidTab
import Derived.Lib.ItoaNum
import Derived.Shelf.SlGeneric
import Derived.Ground.SlsfProg
import Derived.Shelf.SlSortCmp.WholeK
import Derived.Ground.Names2Prog
import Derived.Shelf.Slices.CompactI
import Derived.Shelf.Slices.Cells
set_option linter.all false
set_option maxRecDepth 100000
namespace Go.Abs
open Go Go.RowKit
section
variable {P : Program} [Env P] {T : TT} {nt k : Nat} {S : AS} {ops : Array Oper} {o : Oper} {R : AS → Prop} {Q : Exit → AS → Prop}
theorem AWP_trunc {c : Code} {sl : List (Nat × AV)} {H : List AObj} (i k' : Nat) {e : TypeId} {cw : Nat} {xs : List AV} (hi : H[i]? = some (.arr e cw xs)) (h : AWP P nt k c Q ⟨sl, H.set i (.arr e cw (xs.take k'))⟩) : AWP P nt k c Q ⟨sl, H⟩ := fun C a w hs => by
 obtain ⟨I, m, hw, hsl, hk, hf⟩ := hs
 have hlen : (H.set i (.arr e cw (xs.take k'))).length = H.length := by simp
 rcases hw.obj i _ hi with ⟨e1, e2⟩ | ⟨b, cap, vs, hb, hh, q1, q2, q3, q4, hr⟩
 ·subst e2
  have : H.set i (.arr e cw (([] : List AV).take k')) = H := by
   rw [List.take_nil]
   exact List.ext_getElem? fun j => by
    by_cases hj : j = i
    ·subst hj; rw [hi, List.getElem?_set_self (List.getElem?_eq_some_iff.1 hi).1]
    ·rw [List.getElem?_set_ne (fun e => hj e.symm)]
  rw [this] at h
  exact h C a w ⟨I, m, hw, hsl, hk, hf⟩
 ·obtain ⟨g1, g2⟩ := hw.set (w' := w) (o' := .arr e cw (xs.take k')) hi rfl hb (World.grownBy.refl _ _) (fun _ h => h) (fun m' hf' => .inr ⟨b, cap, vs, rfl, hh, by simp; omega, q2, q3, fun x hx => q4 x (List.mem_of_mem_take hx), fun j x hx => by
   rw [List.getElem?_take] at hx
   split at hx
   ·exact hr j x hx
   ·cases hx⟩)
  refine h C a w ⟨I, m, g1, ⟨hsl.1, hsl.2.1, fun t x hx => ?_⟩, by rw [hlen]; exact hk, hf⟩
  obtain ⟨v, hv, hr'⟩ := hsl.2.2 t x hx
  exact ⟨v, hv, by simpa using hr'⟩
end
end Go.Abs
set_option maxRecDepth 100000
namespace Go.Abs
open Go Go.Sort
section
variable {W0 : World} {I0 : Nat → Prop} {w : World} {I : Nat → Prop} {m : Nat → Option Nat} {H : List AObj} {p b : Nat} {e : TypeId} {k : Nat} {xs : List AV} {F : Array Value}
theorem FC_rowS {P : Program} [Env P] {f : FuncId} (hc : Callable P f) {len : Nat} (hxs : xs.length = len) (ho : H[p]? = some (.arr e k xs)) (hF : RowOf k xs F)
  (Rx : List AV → Nat → Prop) (hRl : ∀ ys n, Rx ys n → n ≤ len)
  (h : ∀ (b cap : Nat) (w : World), Holds id w b 0 F → b < w.heap.size → len ≤ cap → cap ≤ maxLen → Calls P f (#[.slice (some ⟨b, 0, none⟩) len cap]) w fun en w' => ∃ (xs' : List AV) (F' : Array Value) (n len' : Nat), en = .returned (.slice (some ⟨b, 0, none⟩) len' cap) ∧ Rx xs' len' ∧ xs'.length = xs.length ∧ RowOf k xs' F' ∧ w' = putRow id (Sort.ahead w n) b 0 F')
  (h0 : xs = [] → Rx [] 0 ∧ ∀ (w : World), Calls P f (#[.slice none 0 0]) w fun en w' => en = .returned (.slice none 0 0) ∧ w' = w) :
  FC P f [.sl p k 0 len] H (fun r H' => ∃ xs' len', r = .sl p k 0 len' ∧ Rx xs' len' ∧ H' = H.set p (.arr e k xs')) := by
 refine ⟨hc, fun W0 I0 w I m vals hE hws hsz hv => ?_⟩
 rcases vals with ⟨vals⟩
 match vals, hsz with
 | [v], _ =>
  have hv0 := hv 0 v _ rfl rfl
  rcases hv0.sl_inv with ⟨b, cap, t, hb, hn, hsh, hle, hmax, hse⟩ | ⟨hb, hn, _, hl0, hse⟩ | ⟨_, _, hlo, _, _⟩
  ·subst hse
   obtain ⟨g1, g2⟩ := own_row hws ho hb hF
   have := h b cap w g1 g2 hle (by omega)
   simp only [Nat.zero_mul]
   refine Calls.mono this ?_
   rintro en w' ⟨xs', F', n, len', rfl, hx, hl, hF', rfl⟩
   obtain ⟨k1, k2⟩ := own_put hws ho hb hF hl hF' n #[]
   rw [grow_empty] at k1 k2
   refine ⟨_, _, _, I, m, ⟨xs', len', rfl, hx, rfl⟩, rfl, k1, by simp, k2, ?_⟩
   have := VR.sl (w := putRow id (Sort.ahead w n) b 0 F') (I := I) (m := m) (n := (H.set p (.arr e k xs')).length) p k 0 len' cap b t (by simpa using hn) hb (k2.shape _ _ hsh) (Nat.le_trans (hRl _ _ hx) hle) (by omega)
   simpa using this
  ·subst hse
   have hx0 : xs = [] := by cases xs with | nil => rfl | cons => simp at hxs; omega
   obtain ⟨r0, r1⟩ := h0 hx0
   subst hl0
   refine Calls.mono (r1 w) ?_
   rintro en w' ⟨rfl, rfl⟩
   refine ⟨_, _, H, I, m, ⟨[], 0, rfl, r0, ?_⟩, rfl, hws, Nat.le_refl _, .refl _ _ _ _, .slnone p k hn hb⟩
   rw [← hx0]
   exact (List.ext_getElem? fun i => by
    by_cases hi : i = p
    ·subst hi; rw [ho, List.getElem?_set_self (List.getElem?_eq_some_iff.1 ho).1]
    ·rw [List.getElem?_set_ne (fun h => hi h.symm)])
  ·omega
theorem rowI (zs : List Int) : RowOf 1 (zs.map (AV.int .i64)) (zs.map (Value.int .i64)).toArray where
 size := by simp
 width x hx := by
  obtain ⟨y, _, rfl⟩ := List.mem_map.1 hx
  rfl
 cell i x hx j y hy := by
  rw [List.getElem?_map] at hx
  obtain ⟨z, hz, rfl⟩ := Option.map_eq_some_iff.1 hx
  obtain ⟨hi, rfl⟩ := List.getElem?_eq_some_iff.1 hz
  have hj : j = 0 := by have := (List.getElem?_eq_some_iff.1 hy).1; simp [AV.cells] at this; exact this
  subst hj
  simp [AV.cells] at hy
  subst hy
  rw [Nat.mul_one, Nat.add_zero, getElem!_pos _ i (by simpa using hi)]
  simp [AV.val]
theorem holds_int {w : World} {b : Nat} {zs : List Int} (h : Holds id w b 0 (zs.map (Value.int .i64)).toArray) : Holds (Value.int .i64) w b 0 zs.toArray := fun j hj => by
 have hj' : j < zs.length := by simpa using hj
 have := h j (by simpa using hj')
 rw [getElem!_pos _ j (by simpa using hj')] at this
 rw [getElem!_pos _ j (by simpa using hj')]
 simpa using this
theorem putRow_int (w : World) (b : Nat) (zs : List Int) : putRow (Value.int .i64) w b 0 zs.toArray = putRow id w b 0 (zs.map (Value.int .i64)).toArray := by
 unfold putRow
 refine mapBlock_congr _ _ _ _ fun c e fr _ => ?_
 unfold putCells
 refine Array.ext (by simp) fun i h1 h2 => ?_
 simp only [Array.getElem_mapIdx, List.size_toArray, List.length_map, id]
 split
 ·rename_i hh
  have hi : i - 0 < zs.length := by omega
  rw [getElem!_pos _ (i - 0) (by simpa using hi), getElem!_pos _ (i - 0) (by simpa using hi)]
  simp
 ·rfl
end
end Go.Abs
set_option maxRecDepth 100000
namespace Go.Abs
open Go Go.RowKit
section
variable {P : Program} [Env P] {T : TT} {nt k : Nat} {S : AS} {ops : Array Oper} {o : Oper} {R : AS → Prop} {Q : Exit → AS → Prop}
end
end Go.Abs
set_option maxRecDepth 100000
namespace Go.Abs
open Go Go.RowKit Go.Maps
theorem AV.val_inj {x y : AV} {u : Value} (hx : x.val = some u) (hy : y.val = some u) : x = y := by
 cases x <;> simp [AV.val] at hx <;> subst hx <;> cases y <;> simp [AV.val] at hy
 ·rw [hy]
 ·rw [hy.1, hy.2]
 ·rw [hy]
theorem MpSz.push {es : Array MapEntry} {ck : Nat} {kvs : List (AV × AV)} (h : MpSz es ck kvs) (u v : Value) (p : AV × AV) : MpSz (es.push ⟨u, v, ck⟩) (ck + 1) (kvs ++ [p]) := by
 refine ⟨by simp [h.size], fun x hx => ?_, ?_⟩
 ·simp only [Array.toList_push, List.mem_append, List.mem_singleton] at hx
  rcases hx with hx | rfl
  ·have := h.born x hx; omega
  ·simp
 ·simp only [Array.toList_push, List.map_append, List.map_cons, List.map_nil]
  refine List.nodup_append.2 ⟨h.nodup, by simp, fun a ha b hb => ?_⟩
  obtain ⟨x, hx, rfl⟩ := List.mem_map.1 ha
  have := h.born x hx
  simp at hb
  omega
theorem MpSz.modify {es : Array MapEntry} {ck : Nat} {kvs : List (AV × AV)} (h : MpSz es ck kvs) (j : Nat) (u v : Value) (p : AV × AV) : MpSz (es.modify j fun e => { e with key := u, val := v }) ck (kvs.set j p) := by
 have hb : ((es.modify j fun e => { e with key := u, val := v }).toList.map (·.born)) = es.toList.map (·.born) := by
  apply List.ext_getElem?
  intro i
  simp only [List.getElem?_map, Array.getElem?_toList, Array.getElem?_modify]
  split
  ·subst_vars
   cases es[i]? <;> rfl
  ·rfl
 refine ⟨by simp [h.size], fun x hx => ?_, by rw [hb]; exact h.nodup⟩
 have h1 : x.born ∈ es.toList.map (·.born) := by rw [← hb]; exact List.mem_map_of_mem hx
 obtain ⟨y, hy, e⟩ := List.mem_map.1 h1
 have := h.born y hy
 omega
def AV.kv : AV → Option Value
 | .agg cs => (allSome (cs.map AV.val)).map fun l => .agg l.toArray
 | .bool b => some (.bool b)
 | .int k n => some (.int k n)
 | .str s => some (.string ⟨s.toArray⟩)
 | _ => none
theorem allSome_map {α β : Type} {f : α → Option β} : ∀ {l : List α} {r : List β}, allSome (l.map f) = some r → r.length = l.length ∧ ∀ (i : Nat) (x : α), l[i]? = some x → ∃ y, r[i]? = some y ∧ f x = some y
 | [], r, h => by
  simp [allSome] at h
  subst h
  exact ⟨rfl, fun i x hx => by simp at hx⟩
 | x :: l, r, h => by
  rw [List.map_cons] at h
  cases hf : f x with
  | none => simp [allSome, hf] at h
  | some y =>
   cases hr : allSome (l.map f) with
   | none => simp [allSome, hf, hr] at h
   | some r' =>
    simp [allSome, hf, hr] at h
    subst h
    obtain ⟨h1, h2⟩ := allSome_map hr
    refine ⟨by simp [h1], fun i z hz => ?_⟩
    cases i with
    | zero =>
     simp at hz
     subst hz
     exact ⟨y, rfl, hf⟩
    | succ i => exact h2 i z (by simpa using hz)
theorem PVR.kv {w : World} {I : Nat → Prop} {v u : Value} {x : AV} (h : PVR w I v x) (hx : x.kv = some u) : v = u := by
 cases x with
 | agg cs =>
  simp only [AV.kv] at hx
  cases hr : allSome (cs.map AV.val) with
  | none => rw [hr] at hx; cases hx
  | some l =>
   rw [hr] at hx
   simp only [Option.map_some, Option.some.injEq] at hx
   subst hx
   obtain ⟨h1, h2⟩ := allSome_map hr
   cases h with
   | agg vs _ hl hall =>
    congr 1
    refine Array.ext (by simp [h1, hl]) fun i g1 g2 => ?_
    have hc : i < cs.length := by omega
    obtain ⟨y, hy, hv⟩ := h2 i cs[i] (by simp [hc])
    have := (hall i vs[i] cs[i] (by simp [g1]) (by simp [hc])).val hv
    rw [this]
    have e : l[i]? = some y := hy
    obtain ⟨q1, q2⟩ := List.getElem?_eq_some_iff.1 e
    simpa using q2.symm
 | bool b => simp only [AV.kv, Option.some.injEq] at hx; subst hx; exact h.val rfl
 | int k n => simp only [AV.kv, Option.some.injEq] at hx; subst hx; exact h.val rfl
 | str s => simp only [AV.kv, Option.some.injEq] at hx; subst hx; exact h.val rfl
 | _ => simp [AV.kv] at hx
theorem AV.kv_inj {x y : AV} {u : Value} (hx : x.kv = some u) (hy : y.kv = some u) : x = y := by
 have hval : ∀ {z : AV}, (∀ cs, z ≠ .agg cs) → z.kv = z.val := fun {z} hz => by
  cases z <;> first | rfl | exact absurd rfl (hz _)
 have hagg : ∀ {z : AV} {cs : List AV}, z.val = some u → (AV.agg cs).kv = some u → False := fun {z cs} h1 h2 => by
  simp only [AV.kv] at h2
  obtain ⟨l, _, rfl⟩ := Option.map_eq_some_iff.1 h2
  cases z <;> simp [AV.val] at h1
 by_cases h1 : ∃ cs, x = .agg cs
 ·obtain ⟨cs, rfl⟩ := h1
  by_cases h2 : ∃ ds, y = .agg ds
  ·obtain ⟨ds, rfl⟩ := h2
   simp only [AV.kv] at hx hy
   obtain ⟨l, e1, e2⟩ := Option.map_eq_some_iff.1 hx
   obtain ⟨r, e3, e4⟩ := Option.map_eq_some_iff.1 hy
   have e5 : l = r := by rw [← e4] at e2; simpa using e2
   subst e5
   obtain ⟨l1, f1⟩ := allSome_map e1
   obtain ⟨l2, f2⟩ := allSome_map e3
   congr 1
   refine List.ext_getElem (by omega) fun i g1 g2 => ?_
   obtain ⟨y1, a1, b1⟩ := f1 i cs[i] (by simp [g1])
   obtain ⟨y2, a2, b2⟩ := f2 i ds[i] (by simp [g2])
   rw [a1] at a2
   cases a2
   exact AV.val_inj b1 b2
  ·rw [hval (fun cs e => h2 ⟨cs, e⟩)] at hy
   exact (hagg hy hx).elim
 ·rw [hval (fun cs e => h1 ⟨cs, e⟩)] at hx
  by_cases h2 : ∃ ds, y = .agg ds
  ·obtain ⟨ds, rfl⟩ := h2
   exact (hagg hx hy).elim
  ·rw [hval (fun cs e => h2 ⟨cs, e⟩)] at hy
   exact AV.val_inj hx hy
theorem AV.kv_pure {x : AV} {u : Value} (h : x.kv = some u) : x.pure = true := by
 cases x with
 | agg cs =>
  simp only [AV.kv] at h
  obtain ⟨l, e1, _⟩ := Option.map_eq_some_iff.1 h
  obtain ⟨_, f1⟩ := allSome_map e1
  unfold AV.pure
  simp only [List.all_subtype, List.unattach_attach, List.all_eq_true]
  intro z hz
  obtain ⟨i, hi⟩ := List.mem_iff_getElem?.1 hz
  obtain ⟨y, _, hy⟩ := f1 i z hi
  cases z <;> simp [AV.val] at hy <;> simp [AV.pure]
 | _ => first | (simp [AV.pure]; done) | (simp [AV.kv] at h)
def isKey (P : Program) (k : TypeId) (x : AV) : Prop := ∃ u l, x.kv = some u ∧ keyOf P k u = some l
section
variable {P : Program} [Env P] {T : TT} {nt k : Nat} {S : AS} {ops : Array Oper} {o : Oper} {R : AS → Prop} {Q : Exit → AS → Prop}
theorem AStep_makeMap {wr : Bool} (hw : wantedA ops S o = some true) (hd : dstOk nt o = true) {t : TypeId} (ho : o.op = .makeMap t none)
  (hR : R (({ S with hp := S.hp ++ [.mp []] } : AS).putD o.dst (.mref S.hp.length))) : AStep P nt k wr ops o S R := fun C a w K Q hst hK => by
 unfold OpW
 rw [if_pos (hst.wanted hw)]
 obtain ⟨I, m, hws, hsl, hk', hE⟩ := hst
 have hrun : (execOp a.eval o).run P w = .ok (.value (.map (some w.heap.size))) (w.alloc (.map #[] 0)) := by
  have h0 := run_makeMap (P := P) t w
  simp [execOp, ho, h0]
 have hbl : Below w.heap.size w (w.alloc (.map #[] 0)) := (Below.refl _ _).alloc (Nat.le_refl _) _
 have hh : (w.alloc (.map #[] 0)).heap[w.heap.size]? = some (.map #[] 0) := heap_alloc_new w _
 obtain ⟨g1, g2⟩ := hws.push hbl (some w.heap.size) (fun b e => by injection e with e; subst e; exact ⟨Nat.le_refl _, (Array.getElem?_eq_some_iff.1 hh).1⟩) (.mp []) (fun m' hf hm => ⟨w.heap.size, #[], 0, rfl, hh, ⟨rfl, by simp, by simp⟩, fun i e p he _ => by simp at he⟩)
 unfold wpA
 rw [hrun]
 refine hK _ _ _ hR (St.value hsl hk' hE g1 g2 (by simp) (dstOk_spec hd) (.mref _ _ (by simp) (upd_same _ _ _))) (fun _ => Held.of_below hbl)
theorem map_find {w : World} {I : Nat → Prop} {es : Array MapEntry} {kvs : List (AV × AV)} {kt : TypeId} (K : Keyed P kt) (hl : es.size = kvs.length)
  (hr' : ∀ (i : Nat) (e : MapEntry) (p : AV × AV), es[i]? = some e → kvs[i]? = some p → PVR w I e.key p.1) {kx : AV} {u : Value} {lk : Lit} (hu : kx.kv = some u) (hk : keyOf P kt u = some lk) (hks : ∀ p ∈ kvs, isKey P kt p.1) :
  ((Instr.findKey kt u es.toList).run P w = .ok none w ∧ ∀ p ∈ kvs, p.1 ≠ kx) ∨
  ∃ j e p, (Instr.findKey kt u es.toList).run P w = .ok (some (j, e.val)) w ∧ es[j]? = some e ∧ kvs[j]? = some p ∧ p.1 = kx ∧ e.key = u := by
 have hpair : ∀ (i : Nat) (e : MapEntry), es[i]? = some e → ∃ p, kvs[i]? = some p := fun i e he => by
  have hi : i < es.size := (Array.getElem?_eq_some_iff.1 he).1
  exact ⟨kvs[i]'(by omega), by simp⟩
 rcases K.find w hk es.toList (fun e he => by
  obtain ⟨i, hi, rfl⟩ := List.getElem_of_mem he
  have hi' : i < es.size := by simpa using hi
  have he' : es[i]? = some es[i] := by simp [hi']
  obtain ⟨p, hp⟩ := hpair i _ he'
  obtain ⟨v, l, hv, hl'⟩ := hks p (List.mem_of_getElem? hp)
  have := (hr' i _ p he' hp).kv hv
  refine ⟨l, ?_⟩
  simp only [Array.getElem_toList]
  rw [this]; exact hl') with ⟨h1, h2⟩ | ⟨j, e, h1, h2, h3⟩
 ·refine .inl ⟨h1, fun p hp hpk => ?_⟩
  obtain ⟨i, hi, rfl⟩ := List.getElem_of_mem hp
  have hi' : i < es.size := by omega
  have he' : es[i]? = some es[i] := by simp [hi']
  have := (hr' i _ kvs[i] he' (by simp)).kv (by rw [hpk]; exact hu)
  exact h2 es[i] (by rw [← Array.getElem_toList]; exact List.getElem_mem _) this
 ·have h2' : es[j]? = some e := by rw [← Array.getElem?_toList]; exact h2
  obtain ⟨p, hp⟩ := hpair j e h2'
  obtain ⟨v, l, hv, _⟩ := hks p (List.mem_of_getElem? hp)
  have h4 := (hr' j e p h2' hp).kv hv
  refine .inr ⟨j, e, p, h1, h2', hp, ?_, h3⟩
  exact AV.kv_inj hv (by rw [hu, ← h4, h3])
theorem AStep_lookup (hT : TOk P T) {wr : Bool} (hw : wantedA ops S o = some true) (hd : dstOk nt o = true) {t kt et : TypeId} {x ix : Operand} (ho : o.op = .lookup t x ix false) {it ei : TI} (ht : look T t = some it) (hit : it.desc = .map kt et) (he : look T et = some ei)
  (K : Keyed P kt) {id : Nat} (hx : rho S.sl x = some (.mref id)) {kx : AV} (hix : rho S.sl ix = some kx) {kvs : List (AV × AV)} (hob : S.hp[id]? = some (.mp kvs)) (hkx : isKey P kt kx) (hks : ∀ p ∈ kvs, isKey P kt p.1) {z : AV} (hz : z.val = some ei.zero)
  (hR1 : ∀ (j : Nat) (p : AV × AV), kvs[j]? = some p → p.1 = kx → R (S.putD o.dst p.2)) (hR2 : (∀ p ∈ kvs, p.1 ≠ kx) → R (S.putD o.dst z)) : AStep P nt k wr ops o S R := fun C a w K' Q hst hK => by
 unfold OpW
 rw [if_pos (hst.wanted hw)]
 obtain ⟨I, m, hws, hsl, hk, hE⟩ := hst
 have hut := hT.und ht
 rw [hit] at hut
 obtain ⟨b, hb, _, hxe⟩ := (rho_sound hsl hx).mref_inv
 obtain ⟨u, lk, hu, hlk⟩ := hkx
 have hpu : kx.pure = true := AV.kv_pure hu
 have hixe := ((rho_sound hsl hix).toPure hpu).kv hu
 obtain ⟨b', es, ck, hb', hh, hz0, hr⟩ := hws.obj id _ hob
 have hl := hz0.size
 obtain rfl : b = b' := by rw [hb] at hb'; exact Option.some.inj hb'
 have hzr := hT.zero he w
 unfold wpA
 rcases map_find K hl (fun i e p a b => (hr i e p a b).1) hu hlk hks with ⟨h1, h2⟩ | ⟨j, e, p, h1, h2, h3, h4, h5⟩
 ·have : (execOp a.eval o).run P w = .ok (.value ei.zero) w := by
   simp [execOp, ho, hxe, hixe, Instr.lookup, run_underlying hut, MapKept.run_getObj_map hh, K.check w _ hlk, h1, hzr, Result.andThen]
  rw [this]
  refine hK _ _ w (hR2 h2) (St.value hsl hk hE hws (Fut.refl _ _ _ _) (Nat.le_refl _) (dstOk_spec hd) (.pure ?_)) (fun _ => Held.refl w)
  cases z <;> simp [AV.val] at hz <;> rw [← hz]
  ·exact .bool _
  ·exact .int _ _
  ·exact .str _
 ·have : (execOp a.eval o).run P w = .ok (.value e.val) w := by
   simp [execOp, ho, hxe, hixe, Instr.lookup, run_underlying hut, MapKept.run_getObj_map hh, K.check w _ hlk, h1, Result.andThen]
  rw [this]
  exact hK _ _ w (hR1 j p h3 h4) (St.value hsl hk hE hws (Fut.refl _ _ _ _) (Nat.le_refl _) (dstOk_spec hd) (.pure (hr j e p h2 h3).2)) (fun _ => Held.refl w)
theorem AStep_mapUpdate (hT : TOk P T) (hw : wantedA ops S o = some true) (hd : dstOk nt o = true) {t kt et : TypeId} {x ix y : Operand} (ho : o.op = .mapUpdate t x ix y) {it : TI} (ht : look T t = some it) (hit : it.desc = .map kt et)
  (K : Keyed P kt) {id : Nat} (hx : rho S.sl x = some (.mref id)) {kx : AV} (hix : rho S.sl ix = some kx) {vy : AV} (hy : rho S.sl y = some vy) (hpy : vy.pure = true) {kvs : List (AV × AV)} (hob : S.hp[id]? = some (.mp kvs)) (hkx : isKey P kt kx) (hks : ∀ p ∈ kvs, isKey P kt p.1)
  (hR1 : ∀ (j : Nat) (p : AV × AV), kvs[j]? = some p → p.1 = kx → R (({ S with hp := S.hp.set id (.mp (kvs.set j (kx, vy))) } : AS).putD o.dst (.tup [])))
  (hR2 : (∀ p ∈ kvs, p.1 ≠ kx) → R (({ S with hp := S.hp.set id (.mp (kvs ++ [(kx, vy)])) } : AS).putD o.dst (.tup []))) : AStep P nt k true ops o S R := fun C a w K' Q hst hK => by
 unfold OpW
 rw [if_pos (hst.wanted hw)]
 obtain ⟨I, m, hws, hsl, hk, hE⟩ := hst
 have hut := hT.und ht
 rw [hit] at hut
 obtain ⟨b, hb, _, hxe⟩ := (rho_sound hsl hx).mref_inv
 obtain ⟨u, lk, hu, hlk⟩ := hkx
 have hpu : kx.pure = true := AV.kv_pure hu
 have hixp := (rho_sound hsl hix).toPure hpu
 have hixe := hixp.kv hu
 have hixp' : PVR w I u kx := by rw [← hixe]; exact hixp
 have hyp := (rho_sound hsl hy).toPure hpy
 obtain ⟨b', es, ck, hb', hh, hz0, hr⟩ := hws.obj id _ hob
 have hl := hz0.size
 obtain rfl : b = b' := by rw [hb] at hb'; exact Option.some.inj hb'
 have hnshape : w.shape? b = none := by simp [World.shape?, hh]
 have hgrow : ∀ o' : Obj, w.grownBy { w with heap := w.heap.setIfInBounds b o' } (some b) := fun o' => ⟨rfl, rfl, rfl, by simp, fun i _ hi => by
  simp only []
  rw [Array.getElem?_setIfInBounds_ne (fun e => hi (by rw [e]))]⟩
 have hself : ∀ o' : Obj, ({ w with heap := w.heap.setIfInBounds b o' } : World).heap[b]? = some o' := fun o' => by
  have : b < w.heap.size := (Array.getElem?_eq_some_iff.1 hh).1
  simp [this]
 unfold wpA
 rcases map_find K hl (fun i e p a b => (hr i e p a b).1) hu hlk hks with ⟨h1, h2⟩ | ⟨j, e, p, h1, h2, h3, h4, h5⟩
 ·have : (execOp a.eval o).run P w = .ok .skip { w with heap := w.heap.setIfInBounds b (.map (es.push ⟨u, a.eval y, ck⟩) (ck + 1)) } := by
   simp [execOp, ho, hxe, hixe, Instr.mapUpdate, run_underlying hut, MapKept.run_getObj_map hh, K.check w _ hlk, h1, MapKept.run_setObj_map _ hh, Result.andThen]
  rw [this]
  obtain ⟨g1, g2⟩ := hws.set (o' := .mp (kvs ++ [(kx, vy)])) hob rfl hb (hgrow (.map (es.push ⟨u, a.eval y, ck⟩) (ck + 1))) (fun s hs => by rw [hnshape] at hs; cases hs) (fun m' hf => ⟨b, _, _, rfl, hself _, hz0.push _ _ _, fun i e' p' he hp' => by
   rw [Array.getElem?_push] at he
   split at he
   ·rename_i hi
    cases he
    rw [List.getElem?_append_right (by omega)] at hp'
    have : i - kvs.length = 0 := by omega
    rw [this] at hp'
    cases hp'
    exact ⟨hixp'.mono hf.ext, hyp.mono hf.ext⟩
   ·rename_i hi
    have hi' : i < es.size := (Array.getElem?_eq_some_iff.1 he).1
    rw [List.getElem?_append_left (by omega)] at hp'
    have := hr i e' p' he hp'
    exact ⟨this.1.mono hf.ext, this.2.mono hf.ext⟩⟩)
  exact hK _ _ _ (hR2 h2) (St.value hsl hk hE g1 g2 (by simp) (dstOk_spec hd) (undef_VR _ _ _ _)) (fun e => by cases e)
 ·have : (execOp a.eval o).run P w = .ok .skip { w with heap := w.heap.setIfInBounds b (.map (es.modify j fun e => { e with key := u, val := a.eval y }) ck) } := by
   have hst' := K.stays w hlk
   simp [execOp, ho, hxe, hixe, Instr.mapUpdate, run_underlying hut, MapKept.run_getObj_map hh, K.check w _ hlk, h1, h2, h5, hst', MapKept.run_setObj_map _ hh, Result.andThen]
  rw [this]
  obtain ⟨g1, g2⟩ := hws.set (o' := .mp (kvs.set j (kx, vy))) hob rfl hb (hgrow (.map (es.modify j fun e => { e with key := u, val := a.eval y }) ck)) (fun s hs => by rw [hnshape] at hs; cases hs) (fun m' hf => ⟨b, _, _, rfl, hself _, hz0.modify _ _ _ _, fun i e' p' he hp' => by
   rw [Array.getElem?_modify] at he
   by_cases hij : j = i
   ·subst hij
    rw [if_pos rfl, h2] at he
    rw [List.getElem?_set_self (List.getElem?_eq_some_iff.1 h3).1] at hp'
    cases he
    cases hp'
    exact ⟨hixp'.mono hf.ext, hyp.mono hf.ext⟩
   ·rw [if_neg hij] at he
    rw [List.getElem?_set_ne hij] at hp'
    have := hr i e' p' he hp'
    exact ⟨this.1.mono hf.ext, this.2.mono hf.ext⟩⟩)
  exact hK _ _ _ (hR1 j p h3 h4) (St.value hsl hk hE g1 g2 (by simp) (dstOk_spec hd) (undef_VR _ _ _ _)) (fun e => by cases e)
theorem AStep_insert (hT : TOk P T) (hw : wantedA ops S o = some true) (hd : dstOk nt o = true) {t kt et : TypeId} {x ix y : Operand} (ho : o.op = .insert t x ix y) {it : TI} (ht : look T t = some it) (hit : it.desc = .map kt et)
  (K : Keyed P kt) {id : Nat} (hx : rho S.sl x = some (.mref id)) {kx : AV} (hix : rho S.sl ix = some kx) {vy : AV} (hy : rho S.sl y = some vy) (hpy : vy.pure = true) {kvs : List (AV × AV)} (hob : S.hp[id]? = some (.mp kvs)) (hkx : isKey P kt kx) (hks : ∀ p ∈ kvs, isKey P kt p.1)
  (hR1 : ∀ (j : Nat) (p : AV × AV), kvs[j]? = some p → p.1 = kx → R (({ S with hp := S.hp.set id (.mp (kvs.set j (kx, vy))) } : AS).putD o.dst (.tup [])))
  (hR2 : (∀ p ∈ kvs, p.1 ≠ kx) → R (({ S with hp := S.hp.set id (.mp (kvs ++ [(kx, vy)])) } : AS).putD o.dst (.tup []))) : AStep P nt k true ops o S R := fun C a w K' Q hst hK => by
 unfold OpW
 rw [if_pos (hst.wanted hw)]
 obtain ⟨I, m, hws, hsl, hk, hE⟩ := hst
 have hut := hT.und ht
 rw [hit] at hut
 obtain ⟨b, hb, _, hxe⟩ := (rho_sound hsl hx).mref_inv
 obtain ⟨u, lk, hu, hlk⟩ := hkx
 have hpu : kx.pure = true := AV.kv_pure hu
 have hixp := (rho_sound hsl hix).toPure hpu
 have hixe := hixp.kv hu
 have hixp' : PVR w I u kx := by rw [← hixe]; exact hixp
 have hyp := (rho_sound hsl hy).toPure hpy
 obtain ⟨b', es, ck, hb', hh, hz0, hr⟩ := hws.obj id _ hob
 have hl := hz0.size
 obtain rfl : b = b' := by rw [hb] at hb'; exact Option.some.inj hb'
 have hnshape : w.shape? b = none := by simp [World.shape?, hh]
 have hgrow : ∀ o' : Obj, w.grownBy { w with heap := w.heap.setIfInBounds b o' } (some b) := fun o' => ⟨rfl, rfl, rfl, by simp, fun i _ hi => by
  simp only []
  rw [Array.getElem?_setIfInBounds_ne (fun e => hi (by rw [e]))]⟩
 have hself : ∀ o' : Obj, ({ w with heap := w.heap.setIfInBounds b o' } : World).heap[b]? = some o' := fun o' => by
  have : b < w.heap.size := (Array.getElem?_eq_some_iff.1 hh).1
  simp [this]
 unfold wpA
 rcases map_find K hl (fun i e p a b => (hr i e p a b).1) hu hlk hks with ⟨h1, h2⟩ | ⟨j, e, p, h1, h2, h3, h4, h5⟩
 ·have : (execOp a.eval o).run P w = .ok .skip { w with heap := w.heap.setIfInBounds b (.map (es.push ⟨u, a.eval y, ck⟩) (ck + 1)) } := by
   simp [execOp, ho, hxe, hixe, Instr.mapUpdate, run_underlying hut, MapKept.run_getObj_map hh, K.check w _ hlk, h1, MapKept.run_setObj_map _ hh, Result.andThen]
  rw [this]
  obtain ⟨g1, g2⟩ := hws.set (o' := .mp (kvs ++ [(kx, vy)])) hob rfl hb (hgrow (.map (es.push ⟨u, a.eval y, ck⟩) (ck + 1))) (fun s hs => by rw [hnshape] at hs; cases hs) (fun m' hf => ⟨b, _, _, rfl, hself _, hz0.push _ _ _, fun i e' p' he hp' => by
   rw [Array.getElem?_push] at he
   split at he
   ·rename_i hi
    cases he
    rw [List.getElem?_append_right (by omega)] at hp'
    have : i - kvs.length = 0 := by omega
    rw [this] at hp'
    cases hp'
    exact ⟨hixp'.mono hf.ext, hyp.mono hf.ext⟩
   ·rename_i hi
    have hi' : i < es.size := (Array.getElem?_eq_some_iff.1 he).1
    rw [List.getElem?_append_left (by omega)] at hp'
    have := hr i e' p' he hp'
    exact ⟨this.1.mono hf.ext, this.2.mono hf.ext⟩⟩)
  exact hK _ _ _ (hR2 h2) (St.value hsl hk hE g1 g2 (by simp) (dstOk_spec hd) (undef_VR _ _ _ _)) (fun e => by cases e)
 ·have : (execOp a.eval o).run P w = .ok .skip { w with heap := w.heap.setIfInBounds b (.map (es.modify j fun e => { e with key := u, val := a.eval y }) ck) } := by
   have hst' := K.stays w hlk
   simp [execOp, ho, hxe, hixe, Instr.mapUpdate, run_underlying hut, MapKept.run_getObj_map hh, K.check w _ hlk, h1, h2, h5, hst', MapKept.run_setObj_map _ hh, Result.andThen]
  rw [this]
  obtain ⟨g1, g2⟩ := hws.set (o' := .mp (kvs.set j (kx, vy))) hob rfl hb (hgrow (.map (es.modify j fun e => { e with key := u, val := a.eval y }) ck)) (fun s hs => by rw [hnshape] at hs; cases hs) (fun m' hf => ⟨b, _, _, rfl, hself _, hz0.modify _ _ _ _, fun i e' p' he hp' => by
   rw [Array.getElem?_modify] at he
   by_cases hij : j = i
   ·subst hij
    rw [if_pos rfl, h2] at he
    rw [List.getElem?_set_self (List.getElem?_eq_some_iff.1 h3).1] at hp'
    cases he
    cases hp'
    exact ⟨hixp'.mono hf.ext, hyp.mono hf.ext⟩
   ·rw [if_neg hij] at he
    rw [List.getElem?_set_ne hij] at hp'
    have := hr i e' p' he hp'
    exact ⟨this.1.mono hf.ext, this.2.mono hf.ext⟩⟩)
  exact hK _ _ _ (hR1 j p h3 h4) (St.value hsl hk hE g1 g2 (by simp) (dstOk_spec hd) (undef_VR _ _ _ _)) (fun e => by cases e)
end
end Go.Abs
namespace Go.Abs
open Go Go.RowKit

inductive PlanM where
 | done
 | val (i : Nat) (p : PlanM)
 | one (i : Nat) (p : PlanM)
 | two (i : Nat) (p : PlanM) (j : Nat) (q : PlanM)
 | three (i : Nat) (p : PlanM) (j : Nat) (q : PlanM) (m : Nat) (r : PlanM)

def PlanM.size : PlanM → Nat
 | .done => 0
 | .val _ p => p.size + 1
 | .one _ p => p.size + 1
 | .two _ p _ _ => p.size + 1
 | .three _ p _ _ _ _ => p.size + 1

def planM (ops : Array Oper) (cl : List (List Nat)) (Wr : List Nat) : PlanM → Array Bool → Bool
 | .done, l => (Region.ready .any ops l).isEmpty
 | .val i p, l => (match ops[i]? with
   | none => false
   | some o => isVal o.op && freeOk ops cl Wr l i && (Region.ready .any ops l).contains i) && planM ops cl Wr p (l.setIfInBounds i true)
 | .one i p, l => (ops[i]?).isSome && Region.ready .any ops l == [i] && planM ops cl Wr p (l.setIfInBounds i true)
 | .two i p j q, l => (ops[i]?).isSome && (ops[j]?).isSome && Region.ready .any ops l == [i, j] && p.size == q.size && planM ops cl Wr p (l.setIfInBounds i true) && planM ops cl Wr q (l.setIfInBounds j true)
 | .three i p j q m r, l => (ops[i]?).isSome && (ops[j]?).isSome && (ops[m]?).isSome && Region.ready .any ops l == [i, j, m] && p.size == q.size && p.size == r.size && planM ops cl Wr p (l.setIfInBounds i true) && planM ops cl Wr q (l.setIfInBounds j true) && planM ops cl Wr r (l.setIfInBounds m true)

def ASeqM (P : Program) [Env P] (T : TT) (nt k : Nat) (ops : Array Oper) (W : Nat → Bool) (Q : AS → Prop) : PlanM → AS → Prop
 | .done, S => Q S
 | .val i p, S => stepT P T nt k ops W i (ASeqM P T nt k ops W Q p) S
 | .one i p, S => stepT1 P T nt k ops W i (ASeqM P T nt k ops W Q p) S
 | .two i p j q, S => stepT1 P T nt k ops W i (ASeqM P T nt k ops W Q p) S ∧ stepT1 P T nt k ops W j (ASeqM P T nt k ops W Q q) S
 | .three i p j q m r, S => stepT1 P T nt k ops W i (ASeqM P T nt k ops W Q p) S ∧ stepT1 P T nt k ops W j (ASeqM P T nt k ops W Q q) S ∧ stepT1 P T nt k ops W m (ASeqM P T nt k ops W Q r) S

section
variable {P : Program} [Env P] {T : TT} {nt k : Nat} {S : AS} {ops : Array Oper} {o : Oper} {R : AS → Prop} {Wr : List Nat}

theorem ASeqM_any (hT : TOk P T) {C : Cx P} (hd : dstsOk nt ops.toList = true) (hns : Region.noSelect ops = true) : ∀ (p : PlanM) (listed : Array Bool) (S : AS) (a : Act) (w : World), closedL ops listed → planM ops (closTo ops.toList []) Wr p listed = true → ASeqM P T nt k ops Wr.contains R p S → St C nt k S a w →
  wpAnyR P ops Wr (PstN C nt k R) p.size listed a w
 | .done, listed, S, a, w, _, hp, h, hs => ⟨by simpa [planM] using hp, S, h, hs⟩
 | .val i p, listed, S, a, w, hcl, hp, h, hs => by
  unfold planM at hp
  unfold ASeqM stepT at h
  rw [Bool.and_eq_true] at hp
  obtain ⟨hp1, hp2⟩ := hp
  cases ho : ops[i]? with
  | none => rw [ho] at h; exact h.elim
  | some o =>
   rw [ho] at h hp1
   simp only at h hp1
   have hdo : dstOk nt o = true := List.all_eq_true.1 hd o (by simpa using Array.mem_of_getElem? ho)
   simp only [Bool.and_eq_true] at hp1
   obtain ⟨⟨hv, hf⟩, hr⟩ := hp1
   have hau : isAuto o.op = true := by cases hop : o.op <;> rw [hop] at hv <;> first | rfl | exact hv | (simp [isVal] at hv)
   rw [if_pos hau] at h
   have hrd : i ∈ Region.ready .any ops listed := by simpa using hr
   split at h
   ·rename_i S' hS'
    obtain ⟨v, hy, hs'⟩ := hs.yields hT hdo hv hS'
    exact wpAnyR_first ho (Region.noSelect_spec hns) (fun c a w hq => hq) (fun x y => readsMem o.op = true → Held x y) (fun w _ => Held.refl w) (fun x y z h1 h2 hr => (h1 hr).trans (h2 hr)) p.size listed a w
     (fun j oj hj hne hun hno => free_all ho hf j oj hj hne hun hno) hcl hrd hy (ASeqM_any hT hd hns p _ S' _ w (hcl.set hrd) hp2 h.2 hs')
   ·exact h.elim
 | .one i p, listed, S, a, w, hcl, hp, h, hs => by
  unfold planM at hp
  simp only [Bool.and_eq_true, beq_iff_eq] at hp
  obtain ⟨⟨_, hrd⟩, hp2⟩ := hp
  have hrm : i ∈ Region.ready .any ops listed := by rw [hrd]; simp
  refine ⟨fun h0 => (by rw [hrd] at h0; cases h0), fun j hj => ?_⟩
  rw [hrd] at hj
  obtain rfl : j = i := by simpa using hj
  exact stepT_op hT hd h hs fun S' a' w' hR hs' => ASeqM_any hT hd hns p _ S' a' w' (hcl.set hrm) hp2 hR hs'
 | .two i p j q, listed, S, a, w, hcl, hp, h, hs => by
  unfold planM at hp
  simp only [Bool.and_eq_true, beq_iff_eq] at hp
  obtain ⟨⟨⟨⟨_, hrd⟩, hsz⟩, hp2⟩, hp3⟩ := hp
  have hri : i ∈ Region.ready .any ops listed := by rw [hrd]; simp
  have hrj : j ∈ Region.ready .any ops listed := by rw [hrd]; simp
  refine ⟨fun h0 => (by rw [hrd] at h0; cases h0), fun m hm => ?_⟩
  rw [hrd] at hm
  rcases (by simpa using hm : m = i ∨ m = j) with rfl | rfl
  ·exact stepT_op hT hd h.1 hs fun S' a' w' hR hs' => ASeqM_any hT hd hns p _ S' a' w' (hcl.set hri) hp2 hR hs'
  ·refine stepT_op hT hd h.2 hs fun S' a' w' hR hs' => ?_
   have := ASeqM_any hT hd hns q _ S' a' w' (hcl.set hrj) hp3 hR hs'
   rw [← hsz] at this
   exact this
 | .three i p j q g r, listed, S, a, w, hcl, hp, h, hs => by
  unfold planM at hp
  simp only [Bool.and_eq_true, beq_iff_eq] at hp
  obtain ⟨⟨⟨⟨⟨⟨_, hrd⟩, hsz⟩, hsz2⟩, hp2⟩, hp3⟩, hp4⟩ := hp
  have hri : i ∈ Region.ready .any ops listed := by rw [hrd]; simp
  have hrj : j ∈ Region.ready .any ops listed := by rw [hrd]; simp
  have hrg : g ∈ Region.ready .any ops listed := by rw [hrd]; simp
  refine ⟨fun h0 => (by rw [hrd] at h0; cases h0), fun m hm => ?_⟩
  rw [hrd] at hm
  rcases (by simpa using hm : m = i ∨ m = j ∨ m = g) with rfl | rfl | rfl
  ·exact stepT_op hT hd h.1 hs fun S' a' w' hR hs' => ASeqM_any hT hd hns p _ S' a' w' (hcl.set hri) hp2 hR hs'
  ·refine stepT_op hT hd h.2.1 hs fun S' a' w' hR hs' => ?_
   have := ASeqM_any hT hd hns q _ S' a' w' (hcl.set hrj) hp3 hR hs'
   rw [← hsz] at this
   exact this
  ·refine stepT_op hT hd h.2.2 hs fun S' a' w' hR hs' => ?_
   have := ASeqM_any hT hd hns r _ S' a' w' (hcl.set hrg) hp4 hR hs'
   rw [← hsz2] at this
   exact this

theorem AWP_drawM (hT : TOk P T) (hm : P.follows .mixedOrders = true) {Q : Exit → AS → Prop} {id : Nat} {l : List Oper} (Wr : List Nat) (p : PlanM) (hd : dstsOk nt l = true)
  (hp : (Region.noSelect l.toArray && p.size == l.length && planM l.toArray (closTo l []) Wr p (Array.replicate l.length false)) = true)
  (h : ASeqM P T nt k l.toArray Wr.contains (Q .normal) p S) : AWP P nt k (.region id l.toArray true) Q S := fun C a w hs => by
 simp only [Bool.and_eq_true, beq_iff_eq] at hp
 obtain ⟨⟨h1, h2⟩, h3⟩ := hp
 refine Pst_of_N (wpIn_region_any hm (wpAny_of_R (Wr := Wr) _ _ _ _ ?_))
 have hs' : St C nt k S a { w with drawn := w.drawn + 1 } := by
  obtain ⟨I, m, hw, hsl, hk, hE⟩ := hs
  have hb : Below w.heap.size w { w with drawn := w.drawn + 1 } := ⟨rfl, rfl, rfl, Nat.le_refl _, fun _ _ => rfl⟩
  obtain ⟨g1, g2⟩ := hw.step hb (fun _ h => h) (fun b hb' => ⟨(hw.iw b hb').1, .inl hb'⟩)
  exact ⟨I, m, g1, ⟨hsl.1, hsl.2.1, fun t x hx => by obtain ⟨v, hv, hr⟩ := hsl.2.2 t x hx; exact ⟨v, hv, hr.mono g2 (Nat.le_refl _)⟩⟩, hk, hE.trans hk g2⟩
 have := ASeqM_any hT (C := C) (nt := nt) (k := k) (R := Q .normal) (by simpa using hd) h1 p (Array.replicate l.length false) S a _ (fun j o ho hj => by
  have hlt := (Array.getElem?_eq_some_iff.1 ho).1
  simp at hlt
  simp [hlt] at hj) (by simpa using h3) h hs'
 rw [h2] at this
 simpa using this

theorem AStep.mono {wr : Bool} {R' : AS → Prop} (h : AStep P nt k wr ops o S R) (hr : ∀ S, R S → R' S) : AStep P nt k wr ops o S R' :=
 fun C a w K Q hs hK => h C a w K Q hs fun S' a' w' hR => hK S' a' w' (hr S' hR)
theorem stepT_mono {W : Nat → Bool} {i : Nat} {R' : AS → Prop} (hr : ∀ S, R S → R' S) (h : stepT P T nt k ops W i R S) : stepT P T nt k ops W i R' S := by
 unfold stepT at h ⊢
 split at h
 ·exact h
 ·split at h
  ·rename_i hau
   rw [if_pos hau]
   split at h
   ·exact ⟨h.1, hr _ h.2⟩
   ·exact h
  ·rename_i hau
   rw [if_neg hau]
   exact h.mono hr
theorem stepT1_mono {W : Nat → Bool} {i : Nat} {R' : AS → Prop} (hr : ∀ S, R S → R' S) (h : stepT1 P T nt k ops W i R S) : stepT1 P T nt k ops W i R' S := by
 unfold stepT1 at h ⊢
 split at h
 ·exact h
 ·split at h
  ·rename_i hau
   rw [if_pos hau]
   split at h
   ·exact ⟨h.1, hr _ h.2⟩
   ·exact h.mono hr
  ·rename_i hau
   rw [if_neg hau]
   exact h.mono hr
theorem ASeqM_and {W : Nat → Bool} {Q Q' : AS → Prop} (hq : ∀ S, Q S → Q' S) : ∀ (p : PlanM) (S : AS), ASeqM P T nt k ops W Q p S → ASeqM P T nt k ops W Q' p S
 | .done, S, h => hq S h
 | .val i p, S, h => stepT_mono (fun S => ASeqM_and hq p S) h
 | .one i p, S, h => stepT1_mono (fun S => ASeqM_and hq p S) h
 | .two i p j q, S, h => ⟨stepT1_mono (fun S => ASeqM_and hq p S) h.1, stepT1_mono (fun S => ASeqM_and hq q S) h.2⟩
 | .three i p j q m r, S, h => ⟨stepT1_mono (fun S => ASeqM_and hq p S) h.1, stepT1_mono (fun S => ASeqM_and hq q S) h.2.1, stepT1_mono (fun S => ASeqM_and hq r S) h.2.2⟩
theorem St.nrmSlot {C : Cx P} {a : Act} {w : World} {sl : List (Nat × AV)} {H : List AObj} (hs : St C nt k ⟨sl, H⟩ a w) (t : Nat) {x : AV} (ht : look sl t = some x) (hp : x.pure = true) : St C nt k ⟨put sl t x.nrm, H⟩ a w := by
 obtain ⟨I, m, hw, hsl, hk, hf⟩ := hs
 refine ⟨I, m, hw, ⟨hsl.1, hsl.2.1, fun s y hy => ?_⟩, hk, hf⟩
 simp only [look_put] at hy
 by_cases hst : s = t
 ·rw [if_pos hst] at hy
  cases hy
  obtain ⟨v, hv, hr⟩ := hsl.2.2 t _ ht
  rw [hst]
  exact ⟨v, hv, .pure (hr.toPure hp).nrm⟩
 ·rw [if_neg hst] at hy
  exact hsl.2.2 s y hy
theorem AStep_nrmSlot {wr : Bool} {sl : List (Nat × AV)} {H : List AObj} (t : Nat) {x : AV} (ht : look sl t = some x) (hp : x.pure = true) (h : AStep P nt k wr ops o ⟨put sl t x.nrm, H⟩ R) : AStep P nt k wr ops o ⟨sl, H⟩ R := fun C a w K Q hs => h C a w K Q (hs.nrmSlot t ht hp)
def RenTo (P : Program) [Env P] (nt k : Nat) (S S' : AS) : Prop := ∀ (C : Cx P) (a : Act) (w : World), St C nt k S a w → St C nt k S' a w
theorem RenTo_ren {sl sl' : List (Nat × AV)} {H H' : List AObj} (ix : List Nat)
  (h1 : ix.map (fun i => H[i]?) = H'.map (fun o => some (o.ren (rn ix)))) (h2 : ix.Nodup) (h3 : k ≤ ix.length) (h3' : ix.take k = List.range k)
  (h4 : sl'.all (fun p => p.2.under H'.length) = true) (h4' : H'.all (objBelow H'.length) = true) (h5 : keepOk sl (sl'.map fun p => (p.1, p.2.ren (rn ix)))) : RenTo P nt k ⟨sl, H⟩ ⟨sl', H'⟩ :=
 fun C a w hs => hs.ren ix h1 h2 h3 h3' h4 h4' h5
theorem RenTo_keep {sl sl' : List (Nat × AV)} {H : List AObj} (hk : keepOk sl sl') : RenTo P nt k ⟨sl, H⟩ ⟨sl', H⟩ := fun _ _ _ hs => hs.sub rfl (look_of_keepOk hk)
theorem AWP_drawC (hT : TOk P T) (hm : P.follows .mixedOrders = true) {Q Q' : Exit → AS → Prop} {id : Nat} {l : List Oper} {next : Code} (Wr : List Nat) (p : PlanM) (Sc : AS) (hd : dstsOk nt l = true)
  (hp : (Region.noSelect l.toArray && p.size == l.length && planM l.toArray (closTo l []) Wr p (Array.replicate l.length false)) = true)
  (h : ASeqM P T nt k l.toArray Wr.contains (fun S => RenTo P nt k S Sc) p S) (hn : AWP P nt k next Q Sc) : AWP P nt k (.region id l.toArray true) (thenQ (AWP P nt k next Q) Q') S :=
 (AWP_drawM (Q := fun e S => e = .normal ∧ RenTo P nt k S Sc) hT hm Wr p hd hp (ASeqM_and (fun _ h => ⟨rfl, h⟩) p S h)).mono fun e S ⟨he, hr⟩ => by
  subst he
  exact fun C a w hs => hn C a w (hr C a w hs)
end
attribute [simp] ASeqM AV.nrm AV.nrm1
end Go.Abs
namespace Go.Abs
open Go Go.RowKit
section
variable {P : Program} [Env P] {T : TT} {nt k : Nat} {S : AS} {ops : Array Oper} {o : Oper} {R : AS → Prop}
theorem made_get (z : Array Value) (n p j : Nat) (hp : p < n) (hj : j < z.size) : (madeCells z (n * z.size))[p * z.size + j]? = z[j]? := by
 have hlt : p * z.size + j < n * z.size := by
  have : (p + 1) * z.size ≤ n * z.size := Nat.mul_le_mul_right _ hp
  rw [Nat.add_mul] at this; omega
 unfold madeCells
 rw [Array.getElem?_map]
 simp only [Array.getElem?_range, hlt]
 simp only [if_true, Option.map_some]
 rw [Nat.mul_comm p, Nat.mul_add_mod, Nat.mod_eq_of_lt hj]
 simp [hj]
theorem AStep_makeSlice (hT : TOk P T) {wr : Bool} (hw : wantedA ops S o = some true) (hd : dstOk nt o = true) {t e : TypeId} {l c : Operand} (ho : o.op = .makeSlice t l c) {it ei : TI} (ht : look T t = some it) (hit : it.desc = .slice e) (he : look T e = some ei)
  (hz : ei.zero.cells.size = ei.size) {kl kc : IntKind} {n : Nat} (hl : rho S.sl l = some (.int kl n)) (hc : rho S.sl c = some (.int kc n)) (hb : ei.bytes * n ≤ 281474976710656) (hn : n ≤ maxLen) (z : AV) (hzc : z.cells = ei.zeros)
  (hR : R (({ S with hp := S.hp ++ [.arr e ei.size (List.replicate n z)] } : AS).putD o.dst (.sl S.hp.length ei.size 0 n))) : AStep P nt k wr ops o S R := fun C a w K Q hst hK => by
 unfold OpW
 rw [if_pos (hst.wanted hw)]
 obtain ⟨I, m, hws, hsl, hk', hE⟩ := hst
 have hut := hT.und ht
 rw [hit] at hut
 obtain ⟨i, hi, i1, i2, i3⟩ := hT.info he
 have hlv := (rho_sound hsl hl).int_inv
 have hcv := (rho_sound hsl hc).int_inv
 have h63 : (n : Int) ≤ 9223372036854775807 := by unfold maxLen at hn; omega
 have hbi : (i.bytes : Int) * (n : Int) ≤ 281474976710656 := by
  have h : ((i.bytes * n : Nat) : Int) ≤ 281474976710656 := by rw [i3]; omega
  rwa [Int.natCast_mul] at h
 have hrun0 := run_make (P := P) w t e i ei.zero hut hi i1 kl kc n n (by omega) (Int.le_refl _) hbi h63
 simp only [Int.toNat_natCast] at hrun0
 rw [i2, ← hz] at hrun0
 obtain ⟨cs, hcs⟩ : ∃ cs, madeCells ei.zero.cells (n * ei.zero.cells.size) = cs := ⟨_, rfl⟩
 have hcz : cs.size = n * ei.size := by rw [← hcs, ← hz]; simp [madeCells]
 have hget : ∀ p j, p < n → j < ei.size → cs[p * ei.size + j]? = ei.zero.cells[j]? := fun p j hp hj => by
  rw [← hcs, ← hz]; exact made_get _ _ _ _ hp (by omega)
 rw [hcs] at hrun0
 have hrun : (execOp a.eval o).run P w = .ok (.value (.slice (some ⟨w.heap.size, 0, none⟩) n n)) (w.alloc (.cells cs e)) := by
  simp [execOp, ho, hlv, hcv, hrun0]
 have hbl : Below w.heap.size w (w.alloc (.cells cs e)) := (Below.refl _ _).alloc (Nat.le_refl _) _
 have hzl : z.cells.length = ei.size := by rw [hzc, TI.zeros, List.length_map, Array.length_toList, hz]
 obtain ⟨g1, g2⟩ := hws.push hbl (some w.heap.size) (fun b e => by injection e with e; subst e; simp) (.arr e ei.size (List.replicate n z)) (fun m' hf hm => .inr ⟨w.heap.size, n, cs, rfl, heap_alloc_new w _, by simp, hn, hcz,
  fun y hy => by rw [List.eq_of_mem_replicate hy]; exact hzl, fun p y hp j v hv => by
   rw [List.getElem?_replicate] at hp
   split at hp
   ·rename_i hpn
    obtain rfl := Option.some.inj hp
    have hj : j < ei.size := by rw [← hzl]; exact (List.getElem?_eq_some_iff.1 hv).1
    rw [hzc, TI.zeros, List.getElem?_map] at hv
    obtain ⟨u, hu, rfl⟩ := Option.map_eq_some_iff.1 hv
    rw [Array.getElem?_toList] at hu
    exact ⟨u, by rw [hget p j hpn hj]; exact hu, zeroCell_sound u⟩
   ·cases hp⟩)
 unfold wpA
 rw [hrun]
 refine hK _ _ _ hR (St.value hsl hk' hE g1 g2 (by simp) (dstOk_spec hd) ?_) (fun _ => Held.of_below hbl)
 have := VR.sl (w := w.alloc (.cells cs e)) (I := I) (m := upd m S.hp.length (some w.heap.size)) (n := S.hp.length + 1) S.hp.length ei.size 0 n n w.heap.size e (by omega) (upd_same _ _ _)
  (by have := heap_alloc_new w (.cells cs e); simp only [World.shape?, this, Nat.zero_add]; rw [hcz]) (Nat.le_refl _) (by omega)
 simpa using this
end
end Go.Abs
set_option maxRecDepth 100000
namespace Go.Abs
open Go Go.RowKit
section
variable {P : Program} [Env P] {nt k : Nat} {Q : Exit → AS → Prop}
theorem AWP_nilCell {c : Code} {sl : List (Nat × AV)} {H : List AObj} (i j e sz : Nat) {xs : List AV} (hi : H[i]? = some (.vars xs)) (hj : xs[j]? = some .nils)
  (h : AWP P nt k c Q ⟨sl, (H ++ [AObj.arr e sz []]).set i (.vars (xs.set j (.sl H.length sz 0 0)))⟩) : AWP P nt k c Q ⟨sl, H⟩ := fun C a w hs => by
 obtain ⟨I, m, hw, hsl, hk, hf⟩ := hs
 obtain ⟨g1, g2⟩ := hw.push (Below.refl _ _) none (fun b e => by cases e) (.arr e sz []) (fun m' _ _ => .inl ⟨rfl, rfl⟩)
 have hil : i < H.length := (List.getElem?_eq_some_iff.1 hi).1
 have hi' : (H ++ [AObj.arr e sz []])[i]? = some (.vars xs) := by rw [List.getElem?_append_left hil]; exact hi
 obtain ⟨b, t, vs, hb, hh, hsz, hr⟩ := g1.obj i _ hi'
 obtain ⟨g3, g4⟩ := g1.set (w' := w) (o' := .vars (xs.set j (.sl H.length sz 0 0))) hi' rfl hb (World.grownBy.refl _ _) (fun _ h => h) (fun m' hf' => ⟨b, t, vs, rfl, hh, by simp [hsz], fun q v x hv hx => by
  by_cases hq : j = q
  ·subst hq
   rw [List.getElem?_set_self (List.getElem?_eq_some_iff.1 hj).1] at hx
   cases hx
   have := (hr j v _ hv hj).nils_inv
   subst this
   exact .slnone H.length sz (by simp) (by rw [hf'.ids _ (by simp)]; exact upd_same ..)
  ·rw [List.getElem?_set_ne hq] at hx
   exact (hr q v x hv hx).mono hf' (Nat.le_refl _)⟩)
 have hlen : ((H ++ [AObj.arr e sz []]).set i (.vars (xs.set j (.sl H.length sz 0 0)))).length = H.length + 1 := by simp
 refine h C a w ⟨I, upd m H.length none, g3, ⟨hsl.1, hsl.2.1, fun s x hx => ?_⟩, by simp at hk ⊢; omega, hf.trans hk g2⟩
 obtain ⟨v, hv, hr'⟩ := hsl.2.2 s x hx
 refine ⟨v, hv, ?_⟩
 have := hr'.mono (n' := H.length + 1) g2 (by simp)
 rw [hlen]
 exact this
theorem St.freeze1 {C : Cx P} {a : Act} {w : World} {sl : List (Nat × AV)} {H : List AObj} (hs : St C nt k ⟨sl, H⟩ a w) (i : Nat) {e c : Nat} {xs : List AV} (hi : H[i]? = some (.arr e c xs)) :
  St C nt k ⟨sl.map fun p => (p.1, p.2.fz i c xs), H.set i .dead⟩ a w := by
 obtain ⟨I, m, hw, hsl, hk, hf⟩ := hs
 have hext : Ext w w I (fun b => I b ∨ m i = some b) := ⟨fun _ h => .inl h, fun _ _ => rfl⟩
 have hfut : Fut H.length w I m w (fun b => I b ∨ m i = some b) m := ⟨hext, fun _ _ => rfl, fun _ _ h => h⟩
 have hlen : (H.set i .dead).length = H.length := by simp
 have hcase : ∀ (id : Nat) (o : AObj), (H.set i .dead)[id]? = some o → o.live = true → id ≠ i ∧ H[id]? = some o := fun id o ho hl => by
  by_cases hid : id = i
  ·subst hid
   rw [List.getElem?_set_self (List.getElem?_eq_some_iff.1 hi).1] at ho
   cases ho
   simp [AObj.live] at hl
  ·rw [List.getElem?_set_ne (by omega)] at ho
   exact ⟨hid, ho⟩
 refine ⟨fun b => I b ∨ m i = some b, m, ⟨hw.below, fun b hb => .inl (hw.i0 b hb), fun b hb => ?_, fun id o ho => ?_, fun id o b ho hl hm => ?_, fun a b oa ob d ha hb la lb ma mb => ?_⟩, ⟨hsl.1, hsl.2.1, fun t x hx => ?_⟩, by rw [hlen]; exact hk, hf.trans hk hfut⟩
 ·rcases hb with hb | hb
  ·exact hw.iw b hb
  ·have := hw.own i _ b hi rfl hb
   exact ⟨this.2.2, .inr this.1⟩
 ·rw [hlen]
  by_cases hid : id = i
  ·subst hid
   rw [List.getElem?_set_self (List.getElem?_eq_some_iff.1 hi).1] at ho
   cases ho
   trivial
  ·rw [List.getElem?_set_ne (by omega)] at ho
   exact ObjR.mono (hw.obj id o ho) hfut (Nat.le_refl _) (fun _ _ _ => rfl)
 ·obtain ⟨hne, ho'⟩ := hcase id o ho hl
  have h1 := hw.own id o b ho' hl hm
  refine ⟨h1.1, fun hc => ?_, h1.2.2⟩
  rcases hc with hc | hc
  ·exact h1.2.1 hc
  ·exact hne (hw.inj id i o _ b ho' hi hl rfl hm hc)
 ·obtain ⟨_, ha'⟩ := hcase a oa ha la
  obtain ⟨_, hb'⟩ := hcase b ob hb lb
  exact hw.inj a b oa ob d ha' hb' la lb ma mb
 ·rw [hlen]
  have := look_fz hx
  obtain ⟨y, hy, rfl⟩ := this
  obtain ⟨v, hv, hr⟩ := hsl.2.2 t y hy
  exact ⟨v, hv, hr.fz hw hi⟩
theorem AWP_freeze1 {cd : Code} {sl : List (Nat × AV)} {H : List AObj} (i : Nat) {e c : Nat} {xs : List AV} (hi : H[i]? = some (.arr e c xs)) (h : AWP P nt k cd Q ⟨sl.map fun p => (p.1, p.2.fz i c xs), H.set i .dead⟩) : AWP P nt k cd Q ⟨sl, H⟩ :=
 fun C a w hs => h C a w (hs.freeze1 i hi)
theorem AStep_freeze1 {wr : Bool} {ops : Array Oper} {o : Oper} {R : AS → Prop} {sl : List (Nat × AV)} {H : List AObj} (i : Nat) {e c : Nat} {xs : List AV} (hi : H[i]? = some (.arr e c xs)) (h : AStep P nt k wr ops o ⟨sl.map fun p => (p.1, p.2.fz i c xs), H.set i .dead⟩ R) : AStep P nt k wr ops o ⟨sl, H⟩ R :=
 fun C a w K Q hs => h C a w K Q (hs.freeze1 i hi)
theorem St.freezeC {C : Cx P} {a : Act} {w : World} {sl : List (Nat × AV)} {H : List AObj} (hs : St C nt k ⟨sl, H⟩ a w) (i : Nat) {e c : Nat} {xs : List AV} (hi : H[i]? = some (.arr e c xs)) (t : Nat) {cs : List AV} (ht : H[t]? = some (.vars cs)) :
  St C nt k ⟨sl.map fun p => (p.1, p.2.fz i c xs), (H.set i .dead).set t (.vars (cs.map fun x => x.fz i c xs))⟩ a w := by
 obtain ⟨I, m, hw, hsl, hk, hf⟩ := hs
 have hti : t ≠ i := fun h => by rw [h, hi] at ht; cases ht
 have htl : t < H.length := (List.getElem?_eq_some_iff.1 ht).1
 have hext : Ext w w I (fun b => I b ∨ m i = some b) := ⟨fun _ h => .inl h, fun _ _ => rfl⟩
 have hfut : Fut H.length w I m w (fun b => I b ∨ m i = some b) m := ⟨hext, fun _ _ => rfl, fun _ _ h => h⟩
 have hlen : ((H.set i .dead).set t (.vars (cs.map fun x => x.fz i c xs))).length = H.length := by simp
 have hcase : ∀ (id : Nat) (o : AObj), ((H.set i .dead).set t (.vars (cs.map fun x => x.fz i c xs)))[id]? = some o → o.live = true → id ≠ i ∧ ∃ o', H[id]? = some o' ∧ o'.live = true := fun id o ho hl => by
  by_cases hid : id = i
  ·subst hid
   rw [List.getElem?_set_ne hti, List.getElem?_set_self (List.getElem?_eq_some_iff.1 hi).1] at ho
   cases ho
   simp [AObj.live] at hl
  ·by_cases hit : id = t
   ·subst hit; exact ⟨hid, _, ht, rfl⟩
   ·rw [List.getElem?_set_ne (by omega), List.getElem?_set_ne (by omega)] at ho
    exact ⟨hid, _, ho, hl⟩
 refine ⟨fun b => I b ∨ m i = some b, m, ⟨hw.below, fun b hb => .inl (hw.i0 b hb), fun b hb => ?_, fun id o ho => ?_, fun id o b ho hl hm => ?_, fun a b oa ob d ha hb la lb ma mb => ?_⟩, ⟨hsl.1, hsl.2.1, fun t x hx => ?_⟩, by rw [hlen]; exact hk, hf.trans hk hfut⟩
 ·rcases hb with hb | hb
  ·exact hw.iw b hb
  ·have := hw.own i _ b hi rfl hb
   exact ⟨this.2.2, .inr this.1⟩
 ·rw [hlen]
  by_cases hid : id = i
  ·subst hid
   rw [List.getElem?_set_ne hti, List.getElem?_set_self (List.getElem?_eq_some_iff.1 hi).1] at ho
   cases ho
   trivial
  ·by_cases hit : id = t
   ·subst hit
    rw [List.getElem?_set_self (by simpa using htl)] at ho
    cases ho
    exact (hw.obj id _ ht).fz hw hi
   rw [List.getElem?_set_ne (by omega), List.getElem?_set_ne (by omega)] at ho
   exact ObjR.mono (hw.obj id o ho) hfut (Nat.le_refl _) (fun _ _ _ => rfl)
 ·obtain ⟨hne, o', ho', hl'⟩ := hcase id o ho hl
  have h1 := hw.own id o' b ho' hl' hm
  refine ⟨h1.1, fun hc => ?_, h1.2.2⟩
  rcases hc with hc | hc
  ·exact h1.2.1 hc
  ·exact hne (hw.inj id i o' _ b ho' hi hl' rfl hm hc)
 ·obtain ⟨_, oa', ha', la'⟩ := hcase a oa ha la
  obtain ⟨_, ob', hb', lb'⟩ := hcase b ob hb lb
  exact hw.inj a b oa' ob' d ha' hb' la' lb' ma mb
 ·rw [hlen]
  have := look_fz hx
  obtain ⟨y, hy, rfl⟩ := this
  obtain ⟨v, hv, hr⟩ := hsl.2.2 t y hy
  exact ⟨v, hv, hr.fz hw hi⟩
theorem AWP_freezeC {cd : Code} {sl : List (Nat × AV)} {H : List AObj} (i : Nat) {e c : Nat} {xs : List AV} (hi : H[i]? = some (.arr e c xs)) (t : Nat) {cs : List AV} (ht : H[t]? = some (.vars cs)) (h : AWP P nt k cd Q ⟨sl.map fun p => (p.1, p.2.fz i c xs), (H.set i .dead).set t (.vars (cs.map fun x => x.fz i c xs))⟩) : AWP P nt k cd Q ⟨sl, H⟩ :=
 fun C a w hs => h C a w (hs.freezeC i hi t ht)
end
end Go.Abs
set_option maxRecDepth 100000
namespace Go.Abs
open Go Go.RowKit
theorem nrm_cells (x : AV) : x.nrm.cells.length = x.cells.length ∧ ∀ (j : Nat) (y' : AV), x.nrm.cells[j]? = some y' → ∃ y, x.cells[j]? = some y ∧ ∀ (w : World) (I : Nat → Prop) (v : Value), PVR w I v y → PVR w I v y' := by
 cases x with
 | agg cs =>
  refine ⟨by simp [AV.nrm, AV.cells], fun j y' h => ?_⟩
  simp only [AV.nrm, AV.cells, List.getElem?_map] at h
  obtain ⟨y, hy, rfl⟩ := Option.map_eq_some_iff.1 h
  exact ⟨y, hy, fun w I v h => h.nrm1⟩
 | nils =>
  refine ⟨rfl, fun j y' h => ?_⟩
  cases j with
  | zero => cases h; exact ⟨.nils, rfl, fun w I v h => h.nrm1⟩
  | succ j => cases h
 | fn f xs ys =>
  refine ⟨rfl, fun j y' h => ?_⟩
  cases j with
  | zero => cases h; exact ⟨.fn f xs ys, rfl, fun w I v h => h.nrm⟩
  | succ j => cases h
 | _ => exact ⟨rfl, fun j y' h => ⟨y', h, fun w I v h => h⟩⟩
def AV.nrmL : AV → AV
 | .list xs => .list (xs.map AV.nrm)
 | x => x
theorem PVR.nrmL {w : World} {I : Nat → Prop} {v : Value} {x : AV} (h : PVR w I v x) : PVR w I v x.nrmL := by
 cases x with
 | list xs =>
  cases h with
  | list a _ cap c _ u hn hcap hmax hc ha hu =>
   refine .list a _ cap c _ u (by simpa using hn) (by simpa using hcap) hmax (fun x hx => ?_) (by simpa using ha) (fun i x hx j y hy => ?_)
   ·obtain ⟨x', hx', rfl⟩ := List.mem_map.1 hx
    rw [(nrm_cells x').1]; exact hc x' hx'
   ·rw [List.getElem?_map] at hx
    obtain ⟨x', hx', rfl⟩ := Option.map_eq_some_iff.1 hx
    obtain ⟨y', h1, h2⟩ := (nrm_cells x').2 j y hy
    exact h2 _ _ _ (hu i x' hx' j y' h1)
 | _ => exact h
section
variable {P : Program} [Env P] {nt k : Nat} {Q : Exit → AS → Prop}
end
attribute [simp] AV.nrmL
end Go.Abs
namespace Go.Abs
open Go Go.RowKit
section
variable {P : Program} [Env P] {T : TT} {nt k : Nat} {S : AS} {ops : Array Oper} {o : Oper} {R : AS → Prop}
section
variable {W0 w w' : World} {I0 I : Nat → Prop} {m : Nat → Option Nat} {H : List AObj}

def contV (H : List AObj) : AV → Option (List AV)
 | .list ys => some ys
 | .sl id c lo len => match H[id]? with
  | some (.arr _ c' xs) => if c = c' ∧ lo + len ≤ xs.length then some ((xs.drop lo).take len) else none
  | some (.va _ c' xs) => if c = c' ∧ lo + len ≤ xs.length then some ((xs.drop lo).take len) else none
  | _ => none
 | .nils => some []
 | _ => none

theorem contV_sound (hw : WS W0 I0 w I m H) {v : Value} {x : AV} {ys : List AV} (hv : VR w I m H.length v x) (h : contV H x = some ys) :
  ∃ (ao : Option Addr) (cap : Nat) (u : Nat → Nat → Value), v = .slice ao ys.length cap ∧
   (0 < ys.length → ∃ ad, ao = some ad ∧ ∃ c, (∀ y ∈ ys, y.cells.length = c) ∧ ∀ i j, i < ys.length → j < c → w.cell? (ad.add (i * c + j)) = some (u i j)) ∧
   (∀ (i : Nat) (x : AV), ys[i]? = some x → ∀ (j : Nat) (y : AV), x.cells[j]? = some y → VR w I m H.length (u i j) y) := by
 cases x with
 | list zs =>
  simp only [contV, Option.some.injEq] at h
  subst h
  obtain ⟨a, cap, c, u, rfl, _, _, hc, ha, hu⟩ := hv.list_inv.list_inv
  exact ⟨a, cap, u, rfl, fun h0 => by obtain ⟨ad, e, _, hcell⟩ := ha h0; exact ⟨ad, e, c, hc, hcell⟩, fun i x hx j y hy => .pure (hu i x hx j y hy)⟩
 | nils =>
  simp only [contV, Option.some.injEq] at h
  subst h
  obtain rfl := hv.nils_inv
  exact ⟨none, 0, fun _ _ => undef, rfl, fun h0 => by simp at h0, fun i x hx => by simp at hx⟩
 | sl id c lo len =>
  simp only [contV] at h
  split at h
  ·rename_i e c' xs ho
   split at h
   ·rename_i hc
    obtain ⟨rfl, hl⟩ := hc
    simp only [Option.some.injEq] at h
    subst h
    have hlen : ((xs.drop lo).take len).length = len := by simp; omega
    rcases hv.sl_inv with ⟨b, cap, t, hb, hn, hs, hl', hmax, rfl⟩ | ⟨hb, hn, rfl, rfl, rfl⟩ | ⟨ad, hn, hlo, rfl, rfl⟩
    ·rcases hw.obj id _ ho with ⟨e1, rfl⟩ | ⟨b', cap', vs, hb', hh, q1, q2, q3, q4, hr⟩
     ·rw [hb] at e1; cases e1
     obtain rfl : b = b' := by rw [hb] at hb'; exact Option.some.inj hb'
     refine ⟨_, cap, fun i j => vs.getD ((lo + i) * c + j) undef, by rw [hlen], fun _ => ⟨_, rfl, c, fun x hx => q4 x (List.mem_of_mem_drop (List.mem_of_mem_take hx)), fun i j hi hj => ?_⟩, fun i x hx j z hz => ?_⟩
     ·rw [hlen] at hi
      rw [Addr.add_lit, cell_of_row w b _ vs e (0, 0) hh]
      simp only [Nat.add_mul]
      have hlt : (lo + i) * c + j < vs.size := by
       rw [q3]
       have : (lo + i + 1) * c ≤ cap' * c := Nat.mul_le_mul_right c (by omega)
       rw [Nat.add_mul (lo + i)] at this; omega
      rw [Nat.add_mul] at hlt
      rw [show lo * c + (i * c + j) = lo * c + i * c + j by omega]
      simp [hlt]
     ·rw [List.getElem?_take] at hx
      split at hx
      ·rw [List.getElem?_drop] at hx
       obtain ⟨v, hv, hp⟩ := hr (lo + i) x hx j z hz
       simp only [Array.getD_eq_getD_getElem?, hv, Option.getD_some]
       exact .pure hp
      ·cases hx
    ·exact ⟨none, 0, fun _ _ => undef, by rw [hlen], fun h0 => by simp at h0, fun i x hx => by simp at hx⟩
    ·exact ⟨some ad, 0, fun _ _ => undef, by rw [hlen], fun h0 => by simp at h0, fun i x hx => by simp at hx⟩
   ·cases h
  ·rename_i e c' xs ho
   split at h
   ·rename_i hc
    obtain ⟨rfl, hl⟩ := hc
    simp only [Option.some.injEq] at h
    subst h
    have hlen : ((xs.drop lo).take len).length = len := by simp; omega
    rcases hv.sl_inv with ⟨b, cap, t, hb, hn, hs, hl', hmax, rfl⟩ | ⟨hb, hn, rfl, rfl, rfl⟩ | ⟨ad, hn, hlo, rfl, rfl⟩
    ·rcases hw.obj id _ ho with ⟨e1, rfl⟩ | ⟨b', cap', vs, hb', hh, q1, q2, q3, q4, hr⟩
     ·rw [hb] at e1; cases e1
     obtain rfl : b = b' := by rw [hb] at hb'; exact Option.some.inj hb'
     refine ⟨_, cap, fun i j => vs.getD ((lo + i) * c + j) undef, by rw [hlen], fun _ => ⟨_, rfl, c, fun x hx => q4 x (List.mem_of_mem_drop (List.mem_of_mem_take hx)), fun i j hi hj => ?_⟩, fun i x hx j z hz => ?_⟩
     ·rw [hlen] at hi
      rw [Addr.add_lit, cell_of_row w b _ vs e (0, 0) hh]
      simp only [Nat.add_mul]
      have hlt : (lo + i) * c + j < vs.size := by
       rw [q3]
       have : (lo + i + 1) * c ≤ cap' * c := Nat.mul_le_mul_right c (by omega)
       rw [Nat.add_mul (lo + i)] at this; omega
      rw [Nat.add_mul] at hlt
      rw [show lo * c + (i * c + j) = lo * c + i * c + j by omega]
      simp [hlt]
     ·rw [List.getElem?_take] at hx
      split at hx
      ·rw [List.getElem?_drop] at hx
       obtain ⟨v, hv, hp⟩ := hr (lo + i) x hx j z hz
       simp only [Array.getD_eq_getD_getElem?, hv, Option.getD_some]
       exact hp
      ·cases hx
    ·exact ⟨none, 0, fun _ _ => undef, by rw [hlen], fun h0 => by simp at h0, fun i x hx => by simp at hx⟩
    ·exact ⟨some ad, 0, fun _ _ => undef, by rw [hlen], fun h0 => by simp at h0, fun i x hx => by simp at hx⟩
   ·cases h
  ·cases h
 | _ => simp [contV] at h
end

def appBaseV (S : AS) (e : TypeId) (c : Nat) : AV → Option (List AV × List AObj)
 | .nils => some ([], S.hp)
 | .sl id c' 0 len => match S.hp[id]? with
  | some (.va e' c'' xs) => if c' = c ∧ c'' = c ∧ e' = e ∧ len = xs.length then some (xs, S.hp.set id .dead) else none
  | _ => none
 | _ => none

theorem AStep_appendV (hT : TOk P T) (hw : wantedA ops S o = some true) {s x : Operand} {t e : TypeId} (ho : o.op = .call ⟨.builtin .append, #[s, x], #[t, t]⟩) {it ei : TI} (ht : look T t = some it) (hit : it.desc = .slice e) (he : look T e = some ei)
  (hz : ei.zero.cells.size = ei.size) (hsz : 0 < ei.size) {sv xv : AV} (hs : rho S.sl s = some sv) (hx : rho S.sl x = some xv) {xs ys : List AV} {H1 : List AObj} (hb : appBaseV S e ei.size sv = some (xs, H1)) (hy : contV S.hp xv = some ys)
  (hck : ∀ y ∈ ys, y.cells.length = ei.size ∧ y.cells.all AV.leaf = true) (hbound : (xs.length + ys.length) * ei.bytes ≤ 140737488355328) (hlen : xs.length + ys.length ≤ 9223372036854775807) (hd : dstOk nt o = true)
  (hR : R (({ S with hp := H1 ++ [.va e ei.size (xs ++ ys)] } : AS).putD o.dst (.sl S.hp.length ei.size 0 (xs.length + ys.length)))) : AStep P nt k true ops o S R := fun C a w K Q hst hK => by
 unfold OpW
 rw [if_pos (hst.wanted hw)]
 obtain ⟨I, m, hws, hsl, hk, hE⟩ := hst
 obtain ⟨ao, cap, u, hxv, hcell, hpv⟩ := contV_sound hws (rho_sound hsl hx) hy
 have hsv := rho_sound hsl hs
 obtain ⟨ti, hti, tz, ts, tb⟩ := hT.info he
 have hut := hT.und ht
 rw [hit] at hut
 have hn1 : H1.length = S.hp.length := by
  unfold appBaseV at hb
  split at hb
  ·simp only [Option.some.injEq, Prod.mk.injEq] at hb; rw [← hb.2]
  ·split at hb
   ·split at hb
    ·simp only [Option.some.injEq, Prod.mk.injEq] at hb; rw [← hb.2]; simp
    ·cases hb
   ·cases hb
  ·cases hb
 -- what the run comes to decides all
 have fin : ∀ (v : Value) (w' : World) (m' : Nat → Option Nat), (Builtin.append_ #[t, t] o.type #[a.eval s, a.eval x]).run P w = .ok v w' → WS C.W0 C.I0 w' I m' (H1 ++ [.va e ei.size (xs ++ ys)]) → Fut S.hp.length w I m w' I m' →
   VR w' I m' (S.hp.length + 1) v (.sl S.hp.length ei.size 0 (xs.length + ys.length)) → wpA P o a w K Q := fun v w' m' hrun g1 g2 g3 => by
  unfold wpA
  have : (execOp a.eval o).run P w = .ok (.value v) w' := by simp [execOp, ho, resolve, invoke, builtin, hrun]
  rw [this]
  exact hK _ _ w' hR (St.value hsl hk hE g1 g2 (by simp [hn1]) (dstOk_spec hd) (by simpa [hn1] using g3)) (fun e => by cases e)
 -- nothing is appended
 have zero : ys = [] → ∀ (b0 : Option Addr) (n0 c0 : Nat), n0 ≤ c0 → a.eval s = .slice b0 n0 c0 → (Builtin.append_ #[t, t] o.type #[a.eval s, a.eval x]).run P w = .ok (.slice b0 n0 c0) w := fun hy0 b0 n0 c0 hle hs0 => by
  rw [hs0, hxv, hy0]
  cases ao <;> cases b0 <;> simp [Builtin.append_, run_underlying hut, sizeOf, typeInfo, hti, Builtin.lenOf, Builtin.firstCells, hle, loadCells, loadCellsFrom, storeCells]
 -- a new row
 have newrow : ∀ (cap' : Nat) (cs : Array Value), xs.length + ys.length ≤ cap' → cap' ≤ maxLen → cs.size = cap' * ei.size →
   (∀ (i : Nat) (z : AV), (xs ++ ys)[i]? = some z → z.cells.length = ei.size ∧ ∀ (j : Nat) (y : AV), z.cells[j]? = some y → ∃ v, cs[i * ei.size + j]? = some v ∧ VR w I m S.hp.length v y) →
   (Builtin.append_ #[t, t] o.type #[a.eval s, a.eval x]).run P w = .ok (.slice (some ⟨w.heap.size, 0, none⟩) (xs.length + ys.length) cap') (w.drew.alloc (.cells cs e)) → WS C.W0 C.I0 w I m H1 → wpA P o a w K Q := fun cap' cs h1 h2 h3 h4 hrun hw1 => by
  have hbl : Below w.heap.size w (w.drew.alloc (.cells cs e)) := (Below.refl _ _).drew.alloc (Nat.le_refl _) _
  obtain ⟨g1, g2⟩ := hw1.push hbl (some w.heap.size) (fun b e => by injection e with e; subst e; simp) (.va e ei.size (xs ++ ys)) (fun m' hf hm => .inr ⟨w.heap.size, cap', cs, rfl, heap_alloc_new w.drew _, by simpa using h1, h2, h3,
   fun z hz' => by obtain ⟨i, hi⟩ := List.mem_iff_getElem?.1 hz'; exact (h4 i z hi).1, fun i z hi j y hy => by obtain ⟨v, q1, q2⟩ := (h4 i z hi).2 j y hy; exact ⟨v, q1, q2.mono (by rw [← hn1]; exact hf) (by omega)⟩⟩)
  rw [hn1] at g1 g2
  refine fin _ _ _ hrun g1 g2 ?_
  have := VR.sl (w := w.drew.alloc (.cells cs e)) (I := I) (m := upd m S.hp.length (some w.heap.size)) (n := S.hp.length + 1) S.hp.length ei.size 0 (xs.length + ys.length) cap' w.heap.size e (by omega) (upd_same _ _ _)
   (by have := heap_alloc_new w.drew (.cells cs e); simp only [World.size_drew] at this; simp only [World.shape?, this, h3, Nat.zero_add]) h1 (by omega)
  simpa using this
 have ysz : ∀ y ∈ ys, y.cells.length = ei.size := fun y hy => (hck y hy).1
 have news : 0 < ys.length → ∃ ad, ao = some ad ∧ ∀ (q : Nat) (v : Value), (flatCells u ys.length ei.size)[q]? = some v → w.cell? (ad.add q) = some v := fun h0 => by
  obtain ⟨ad, e1, c, h1, h2⟩ := hcell h0
  have hc : c = ei.size := by rw [← h1 _ (List.getElem_mem h0), ysz _ (List.getElem_mem h0)]
  subst hc
  refine ⟨ad, e1, fun q v hq => ?_⟩
  obtain ⟨_, _, q1, q2, q3, rfl⟩ := flatCells_of _ _ _ _ _ hq
  have := h2 _ _ q1 q2
  rw [← q3] at this
  exact this
 have one : ∀ v ∈ flatCells u ys.length ei.size, v.oneCell' = true := fun v hv => by
  obtain ⟨q, hq⟩ := List.mem_iff_getElem?.1 hv
  obtain ⟨_, _, q1, q2, q3, rfl⟩ := flatCells_of _ _ _ _ _ hq
  have hyq : ys[q / ei.size]? = some ys[q / ei.size] := List.getElem?_eq_getElem q1
  have hcq := ysz _ (List.getElem_mem q1)
  have hzq : (ys[q / ei.size]).cells[q % ei.size]? = some ((ys[q / ei.size]).cells[q % ei.size]'(by omega)) := List.getElem?_eq_getElem (by omega)
  exact (hpv _ _ hyq _ _ hzq).oneCell (List.all_eq_true.1 (hck _ (List.getElem_mem q1)).2 _ (List.mem_of_getElem? hzq))
 have yrel : ∀ (i : Nat) (z : AV), ys[i]? = some z → ∀ (j : Nat) (y : AV), z.cells[j]? = some y → (flatCells u ys.length ei.size)[i * ei.size + j]? = some (u i j) ∧ VR w I m S.hp.length (u i j) y := fun i z hz' j y hy => by
  have hi := (List.getElem?_eq_some_iff.1 hz').1
  have hj := (List.getElem?_eq_some_iff.1 hy).1
  rw [ysz z (List.mem_of_getElem? hz')] at hj
  exact ⟨flatCells_get _ _ _ _ _ hi hj, hpv i z hz' j y hy⟩
 have capw : ∀ old, xs.length + ys.length ≤ grownCap w (xs.length + ys.length) old e ∧ grownCap w (xs.length + ys.length) old e ≤ maxLen := fun old =>
  ⟨grownCap_ge _ _ _ _, grownCap_le_maxLen w _ old e (by unfold maxLen; omega)⟩
 have fromNone : a.eval s = .slice none 0 0 → xs = [] → WS C.W0 C.I0 w I m H1 → wpA P o a w K Q := fun hs0 hx0 hw1 => by
  subst hx0
  rcases Nat.eq_zero_or_pos ys.length with h0 | h0
  ·have hy0 := List.eq_nil_of_length_eq_zero h0
   have hrun := zero hy0 none 0 0 (Nat.le_refl _) hs0
   obtain ⟨g1, g2⟩ := hw1.push (Below.refl _ _) none (fun b e => by cases e) (.va e ei.size ([] ++ ys)) (fun m' _ _ => .inl ⟨rfl, by simp [hy0]⟩)
   rw [hn1] at g1 g2
   refine fin _ _ _ hrun g1 g2 ?_
   rw [h0]
   exact .slnone _ _ (by omega) (upd_same _ _ _)
  ·obtain ⟨ad, rfl, hnew⟩ := news h0
   have hrun := run_append_nil (P := P) w t o.type e ti ei.zero hut hti tz ad ys.length cap (flatCells u ys.length ei.size) (by rw [flatCells_length, ts]) hnew h0 (by simp at hlen; omega) (by rw [tb]; simp at hbound; omega)
   obtain ⟨c1, c2⟩ := capw 0
   simp only [List.length_nil, Nat.zero_add] at c1 c2
   refine newrow (grownCap w ys.length 0 e) _ (by simpa using c1) c2 ?_ ?_ (by rw [hs0, hxv]; simpa using hrun) hw1
   ·have key : ∀ cs : Array Value, cs.size = ei.size → ((flatCells u ys.length ei.size).toArray ++ Builtin.zeroCells cs (grownCap w ys.length 0 e - ys.length)).size = grownCap w ys.length 0 e * ei.size := fun cs hcs => by
     simp only [Array.size_append, List.size_toArray, flatCells_length, size_zeroCells, hcs, ← Nat.add_mul]
     congr 1; omega
    exact key _ hz
   ·intro i z hi
    simp only [List.nil_append] at hi
    refine ⟨ysz z (List.mem_of_getElem? hi), fun j y hy => ?_⟩
    obtain ⟨q1, q2⟩ := yrel i z hi j y hy
    exact ⟨_, by rw [Array.getElem?_append_left (by simpa using (List.getElem?_eq_some_iff.1 q1).1)]; simpa using q1, q2⟩
 unfold appBaseV at hb
 split at hb
 ·simp only [Option.some.injEq, Prod.mk.injEq] at hb
  obtain ⟨rfl, rfl⟩ := hb
  exact fromNone hsv.nils_inv rfl hws
 ·rename_i id c' len
  split at hb
  ·rename_i e' c'' xs' hob
   split at hb
   ·rename_i hc
    obtain ⟨rfl, rfl, rfl, rfl⟩ := hc
    simp only [Option.some.injEq, Prod.mk.injEq] at hb
    obtain ⟨rfl, rfl⟩ := hb
    have hkill := hws.kill id
    rcases hsv.sl_inv with ⟨b, cp, t', hb, hn, hsh, hl', hmax, hse⟩ | ⟨hb, hn, _, hl0, hse⟩ | ⟨ad, hn, hlo, _, _⟩
    ·rcases hws.obj id _ hob with ⟨e1, _⟩ | ⟨b', cp', vs, hb', hh, q1, q2, q3, q4, hr⟩
     ·rw [hb] at e1; cases e1
     obtain rfl : b = b' := by rw [hb] at hb'; exact Option.some.inj hb'
     have hcp : cp = cp' := by
      have : w.shape? b = some (e', vs.size) := by simp [World.shape?, hh]
      rw [this] at hsh
      simp only [Option.some.injEq, Prod.mk.injEq, Nat.zero_add, q3] at hsh
      exact (Nat.eq_of_mul_eq_mul_right hsz hsh.2).symm
     subst hcp
     simp only [Nat.zero_mul] at hse
     have xrel : ∀ (i : Nat) (z : AV), xs'[i]? = some z → ∀ j, j < ei.size → i * ei.size + j < xs'.length * ei.size := fun i z hi j hj => by
      have : (i + 1) * ei.size ≤ xs'.length * ei.size := Nat.mul_le_mul_right _ (List.getElem?_eq_some_iff.1 hi).1
      rw [Nat.add_mul] at this; omega
     have hxv' : xs'.length * ei.size ≤ vs.size := by rw [q3]; exact Nat.mul_le_mul_right _ q1
     have slv : ∀ (w' : World), w'.shape? b = some (e', cp * ei.size) → xs'.length + ys.length ≤ cp → VR w' I (upd m S.hp.length (some b)) (S.hp.length + 1) (.slice (some ⟨b, 0, none⟩) (xs'.length + ys.length) cp) (.sl S.hp.length ei.size 0 (xs'.length + ys.length)) := fun w' hs' hle => by
      have := VR.sl (w := w') (I := I) (m := upd m S.hp.length (some b)) (n := S.hp.length + 1) S.hp.length ei.size 0 (xs'.length + ys.length) cp b e' (by omega) (upd_same _ _ _) (by simpa using hs') hle (by omega)
      simpa using this
     rcases Nat.eq_zero_or_pos ys.length with h0 | h0
     ·have hy0 := List.eq_nil_of_length_eq_zero h0
      have hrun := zero hy0 _ _ _ hl' hse
      obtain ⟨g1, g2⟩ := hws.adopt (w' := w) (o' := .va e' ei.size (xs' ++ ys)) hob rfl hb (World.grownBy.refl _ _) (fun _ h => h) (fun m' hf => .inr ⟨b, cp, vs, rfl, hh, by simp [hy0, q1], q2, q3, by simpa [hy0] using q4, fun i z hi j y hy => by obtain ⟨v, p1, p2⟩ := hr i z (by simpa [hy0] using hi) j y hy; exact ⟨v, p1, p2.mono hf (Nat.le_succ _)⟩⟩)
      refine fin _ _ _ hrun g1 g2 ?_
      have := slv w (by simp [World.shape?, hh, q3]) (by omega)
      rw [h0] at this ⊢
      exact this
     ·obtain ⟨ad, rfl, hnew⟩ := news h0
      by_cases hroom : xs'.length + ys.length ≤ cp
      ·have hfit : xs'.length * ti.size + (flatCells u ys.length ei.size).length ≤ vs.size := by rw [flatCells_length, ts, q3, ← Nat.add_mul]; exact Nat.mul_le_mul_right _ hroom
       have hrun := run_append_room (P := P) w t o.type e' ti hut hti b xs'.length cp vs hh ad ys.length cap (flatCells u ys.length ei.size) (by rw [flatCells_length, ts]) hnew one hroom hfit
       rw [ts] at hrun hfit
       have hspl : (vs.toList.take (xs'.length * ei.size) ++ flatCells u ys.length ei.size ++ vs.toList.drop (xs'.length * ei.size + (flatCells u ys.length ei.size).length)).toArray = spl vs (xs'.length * ei.size) (flatCells u ys.length ei.size).toArray := by simp [spl]
       rw [hspl] at hrun
       have hfs : xs'.length * ei.size + (flatCells u ys.length ei.size).toArray.size ≤ vs.size := by simpa using hfit
       have hsz' := spl_size vs (xs'.length * ei.size) (flatCells u ys.length ei.size).toArray hfs
       obtain ⟨g1, g2⟩ := hws.adopt (o' := .va e' ei.size (xs' ++ ys)) hob rfl hb (grownBy_setRow w b (spl vs (xs'.length * ei.size) (flatCells u ys.length ei.size).toArray)) (shape_setRow hh hsz')
        (fun m' hf => .inr ⟨b, cp, _, rfl, setRow_heap w b vs _ e' _ hh, by simpa using hroom, q2, by rw [hsz', q3], fun z hz' => by
          rcases List.mem_append.1 hz' with h1 | h1
          ·exact q4 z h1
          ·exact ysz z h1, fun i z hi j y hy => by
          rw [spl_get _ _ _ _ hfs]
          by_cases hix : i < xs'.length
          ·rw [List.getElem?_append_left hix] at hi
           have hj : j < ei.size := by have := (List.getElem?_eq_some_iff.1 hy).1; rw [q4 z (List.mem_of_getElem? hi)] at this; exact this
           have := xrel i z hi j hj
           rw [if_neg (by omega)]
           obtain ⟨v, p1, p2⟩ := hr i z hi j y hy
           exact ⟨v, p1, p2.mono hf (Nat.le_succ _)⟩
          ·rw [List.getElem?_append_right (by omega)] at hi
           obtain ⟨p1, p2⟩ := yrel _ z hi j y hy
           have p3 := (List.getElem?_eq_some_iff.1 p1).1
           have p4 : i * ei.size = xs'.length * ei.size + (i - xs'.length) * ei.size := by rw [← Nat.add_mul]; congr 1; omega
           rw [if_pos (by simp only [List.size_toArray]; omega)]
           exact ⟨_, by rw [show i * ei.size + j - xs'.length * ei.size = (i - xs'.length) * ei.size + j by omega]; simpa using p1, p2.mono hf (Nat.le_succ _)⟩⟩)
       refine fin _ _ _ (by rw [hse, hxv]; exact hrun) g1 g2 (slv _ ?_ hroom)
       simp [World.shape?, setRow_heap w b vs _ e' _ hh, hsz', q3]
      ·have holds : ∀ (j : Nat) (v : Value), (vs.toList.take (xs'.length * ei.size))[j]? = some v → w.cell? ((⟨b, 0, none⟩ : Addr).add j) = some v := fun j v hj => by
        rw [Addr.add_lit, Nat.zero_add, cell_of_row w b j vs e' (0, 0) hh]
        rw [List.getElem?_take] at hj
        split at hj
        ·simpa using hj
        ·cases hj
       have hrun := run_append_grow (P := P) w t o.type e' ti ei.zero hut hti tz ⟨b, 0, none⟩ xs'.length cp (vs.toList.take (xs'.length * ei.size)) (by rw [ts]; simp; omega) holds ad ys.length cap (flatCells u ys.length ei.size) (by rw [flatCells_length, ts]) hnew (by omega) (by omega)
        (growslice_fits (by omega) (by rw [tb]; exact hbound))
       obtain ⟨c1, c2⟩ := capw cp
       refine newrow _ _ c1 c2 ?_ ?_ (by rw [hse, hxv]; exact hrun) hkill
       ·have : (vs.toList.take (xs'.length * ei.size)).length = xs'.length * ei.size := by simp; omega
        simp only [Array.size_append, List.size_toArray, flatCells_length, size_zeroCells, hz, this, ← Nat.add_mul]
        congr 1; omega
       ·intro i z hi
        have hl1 : (vs.toList.take (xs'.length * ei.size)).length = xs'.length * ei.size := by simp; omega
        by_cases hix : i < xs'.length
        ·rw [List.getElem?_append_left hix] at hi
         refine ⟨q4 z (List.mem_of_getElem? hi), fun j y hy => ?_⟩
         have hj : j < ei.size := by have := (List.getElem?_eq_some_iff.1 hy).1; rw [q4 z (List.mem_of_getElem? hi)] at this; exact this
         have hlt := xrel i z hi j hj
         obtain ⟨v, p1, p2⟩ := hr i z hi j y hy
         refine ⟨v, ?_, p2⟩
         rw [Array.getElem?_append_left (by simp; omega), Array.getElem?_append_left (by simp; omega), List.getElem?_toArray, List.getElem?_take, if_pos hlt]
         simpa using p1
        ·rw [List.getElem?_append_right (by omega)] at hi
         refine ⟨ysz z (List.mem_of_getElem? hi), fun j y hy => ?_⟩
         obtain ⟨p1, p2⟩ := yrel _ z hi j y hy
         have p3 := (List.getElem?_eq_some_iff.1 p1).1
         have p4 : i * ei.size = xs'.length * ei.size + (i - xs'.length) * ei.size := by rw [← Nat.add_mul]; congr 1; omega
         refine ⟨_, ?_, p2⟩
         rw [Array.getElem?_append_left (by simp only [Array.size_append, List.size_toArray, hl1]; omega), Array.getElem?_append_right (by simp only [List.size_toArray, hl1]; omega)]
         simp only [List.size_toArray, hl1]
         rw [show i * ei.size + j - xs'.length * ei.size = (i - xs'.length) * ei.size + j by omega]
         simpa using p1
    ·rcases hws.obj id _ hob with ⟨_, e1⟩ | ⟨b', _, _, hb', _⟩
     ·exact fromNone hse e1 hkill
     ·rw [hb] at hb'; cases hb'
    ·omega
   ·cases hb
  ·cases hb
 ·cases hb


end
end Go.Abs
namespace Go.Abs
open Go Go.RowKit
section
variable {P : Program} [Env P] {T : TT} {nt k : Nat} {S : AS} {ops : Array Oper} {o : Oper} {R : AS → Prop}

theorem AStep_appendVS (hT : TOk P T) (hw : wantedA ops S o = some true) {s x : Operand} {t e : TypeId} (ho : o.op = .call ⟨.builtin .append, #[s, x], #[t, t]⟩) {it ei : TI} (ht : look T t = some it) (hit : it.desc = .slice e) (he : look T e = some ei)
  (hz : ei.zero.cells.size = ei.size) (hsz : 0 < ei.size) (hby : 0 < ei.bytes) {sv xv : AV} (hs : rho S.sl s = some sv) (hx : rho S.sl x = some xv) (hd : dstOk nt o = true)
  (hR : match appBaseV S e ei.size sv, contV S.hp xv with
   | some (xs, H1), some ys => appOk ei xs ys ∧ R (({ S with hp := H1 ++ [.va e ei.size (xs ++ ys)] } : AS).putD o.dst (.sl S.hp.length ei.size 0 (xs.length + ys.length)))
   | _, _ => False) : AStep P nt k true ops o S R := by
 cases hb : appBaseV S e ei.size sv with
 | none => rw [hb] at hR; exact hR.elim
 | some p =>
  obtain ⟨xs, H1⟩ := p
  cases hy : contV S.hp xv with
  | none => rw [hb, hy] at hR; exact hR.elim
  | some ys =>
   rw [hb, hy] at hR
   obtain ⟨⟨h1, h2⟩, h3⟩ := hR
   refine AStep_appendV hT hw ho ht hit he hz hsz hs hx hb hy h1 h2 ?_ hd h3
   have := Nat.le_mul_of_pos_right (xs.length + ys.length) hby
   omega
theorem WS.swap {W0 w : World} {I0 I : Nat → Prop} {m : Nat → Option Nat} {H : List AObj} (h : WS W0 I0 w I m H) {i : Nat} {o o' : AObj} (hi : H[i]? = some o) (hl : o.live = true) (hO : ObjR w I m H.length (m i) o') : WS W0 I0 w I m (H.set i o') := by
 have hcase : ∀ (k : Nat) (p : AObj), (H.set i o')[k]? = some p → (k = i ∧ p = o') ∨ (k ≠ i ∧ H[k]? = some p) := fun k p hp => by
  by_cases hk : k = i
  ·subst hk
   rw [List.getElem?_set_self (List.getElem?_eq_some_iff.1 hi).1] at hp
   exact .inl ⟨rfl, (Option.some.inj hp).symm⟩
  ·rw [List.getElem?_set_ne (by omega)] at hp
   exact .inr ⟨hk, hp⟩
 have hlive : ∀ (k : Nat) (p : AObj), (H.set i o')[k]? = some p → p.live = true → ∃ q, H[k]? = some q ∧ q.live = true := fun k p hp lp => by
  rcases hcase k p hp with ⟨rfl, rfl⟩ | ⟨_, h2⟩
  ·exact ⟨o, hi, hl⟩
  ·exact ⟨p, h2, lp⟩
 refine ⟨h.below, h.i0, h.iw, fun k p hp => ?_, fun k p c hp lp mc => ?_, fun a b oa ob c ha hb la lb ma mb => ?_⟩
 ·rw [List.length_set]
  rcases hcase k p hp with ⟨rfl, rfl⟩ | ⟨_, h2⟩
  ·exact hO
  ·exact h.obj k p h2
 ·obtain ⟨q, hq, lq⟩ := hlive k p hp lp
  exact h.own k q c hq lq mc
 ·obtain ⟨qa, h1, h2⟩ := hlive a oa ha la
  obtain ⟨qb, h3, h4⟩ := hlive b ob hb lb
  exact h.inj a b qa qb c h1 h3 h2 h4 ma mb
variable {Q : Exit → AS → Prop}
theorem St.swap {C : Cx P} {a : Act} {w : World} {sl : List (Nat × AV)} {H : List AObj} (hs : St C nt k ⟨sl, H⟩ a w) {i : Nat} {o o' : AObj} (hi : H[i]? = some o) (hl : o.live = true) (hO : ∀ I m, ObjR w I m H.length (m i) o → ObjR w I m H.length (m i) o') :
  St C nt k ⟨sl, H.set i o'⟩ a w := by
 obtain ⟨I, m, hw, hsl, hk, hf⟩ := hs
 refine ⟨I, m, hw.swap hi hl (hO I m (hw.obj i o hi)), ⟨hsl.1, hsl.2.1, fun t x hx => ?_⟩, by simpa using hk, hf⟩
 obtain ⟨v, hv, hr⟩ := hsl.2.2 t x hx
 exact ⟨v, hv, by simpa using hr⟩
theorem ObjR.toVa {w : World} {I : Nat → Prop} {m : Nat → Option Nat} {n : Nat} {b? : Option Nat} {e c : Nat} {xs : List AV} (h : ObjR w I m n b? (.arr e c xs)) : ObjR w I m n b? (.va e c xs) := by
 rcases h with h | ⟨b, cap, vs, e1, hh, h1, h2, h3, h4, hr⟩
 ·exact .inl h
 ·exact .inr ⟨b, cap, vs, e1, hh, h1, h2, h3, h4, fun i x hx j y hy => by obtain ⟨v, hv, hp⟩ := hr i x hx j y hy; exact ⟨v, hv, .pure hp⟩⟩
theorem ObjR.toArr {w : World} {I : Nat → Prop} {m : Nat → Option Nat} {n : Nat} {b? : Option Nat} {e c : Nat} {xs : List AV} (hp : xs.all (fun x => x.cells.all AV.pure) = true) (h : ObjR w I m n b? (.va e c xs)) : ObjR w I m n b? (.arr e c xs) := by
 simp only [List.all_eq_true] at hp
 rcases h with h | ⟨b, cap, vs, e1, hh, h1, h2, h3, h4, hr⟩
 ·exact .inl h
 ·exact .inr ⟨b, cap, vs, e1, hh, h1, h2, h3, h4, fun i x hx j y hy => by obtain ⟨v, hv, hq⟩ := hr i x hx j y hy; exact ⟨v, hv, hq.toPure (hp x (List.mem_of_getElem? hx) y (List.mem_of_getElem? hy))⟩⟩
theorem AWP_toVa {cd : Code} {sl : List (Nat × AV)} {H : List AObj} (i : Nat) {e c : Nat} {xs : List AV} (hi : H[i]? = some (.arr e c xs)) (h : AWP P nt k cd Q ⟨sl, H.set i (.va e c xs)⟩) : AWP P nt k cd Q ⟨sl, H⟩ :=
 fun C a w hs => h C a w (hs.swap hi rfl (fun _ _ => ObjR.toVa))
theorem AWP_toArr {cd : Code} {sl : List (Nat × AV)} {H : List AObj} (i : Nat) {e c : Nat} {xs : List AV} (hi : H[i]? = some (.va e c xs)) (hp : xs.all (fun x => x.cells.all AV.pure) = true) (h : AWP P nt k cd Q ⟨sl, H.set i (.arr e c xs)⟩) : AWP P nt k cd Q ⟨sl, H⟩ :=
 fun C a w hs => h C a w (hs.swap hi rfl (fun _ _ => ObjR.toArr hp))
theorem AStep_toArr {wr : Bool} {sl : List (Nat × AV)} {H : List AObj} (i : Nat) {e c : Nat} {xs : List AV} (hi : H[i]? = some (.va e c xs)) (hp : xs.all (fun x => x.cells.all AV.pure) = true) (h : AStep P nt k wr ops o ⟨sl, H.set i (.arr e c xs)⟩ R) : AStep P nt k wr ops o ⟨sl, H⟩ R :=
 fun C a w K Q hs => h C a w K Q (hs.swap hi rfl (fun _ _ => ObjR.toArr hp))
theorem St.freezeO {C : Cx P} {a : Act} {w : World} {sl : List (Nat × AV)} {H : List AObj} (hs : St C nt k ⟨sl, H⟩ a w) (i : Nat) {e c : Nat} {xs : List AV} (hi : H[i]? = some (.arr e c xs)) (t : Nat) {o0 : AObj} (ht : H[t]? = some o0) (hti : t ≠ i) (hlo : o0.live = true) :
  St C nt k ⟨sl.map fun p => (p.1, p.2.fz i c xs), (H.set i .dead).set t (o0.fz i c xs)⟩ a w := by
 obtain ⟨I, m, hw, hsl, hk, hf⟩ := hs
 have htl : t < H.length := (List.getElem?_eq_some_iff.1 ht).1
 have hext : Ext w w I (fun b => I b ∨ m i = some b) := ⟨fun _ h => .inl h, fun _ _ => rfl⟩
 have hfut : Fut H.length w I m w (fun b => I b ∨ m i = some b) m := ⟨hext, fun _ _ => rfl, fun _ _ h => h⟩
 have hlen : ((H.set i .dead).set t (o0.fz i c xs)).length = H.length := by simp
 have hcase : ∀ (id : Nat) (o : AObj), ((H.set i .dead).set t (o0.fz i c xs))[id]? = some o → o.live = true → id ≠ i ∧ ∃ o', H[id]? = some o' ∧ o'.live = true := fun id o ho hl => by
  by_cases hid : id = i
  ·subst hid
   rw [List.getElem?_set_ne hti, List.getElem?_set_self (List.getElem?_eq_some_iff.1 hi).1] at ho
   cases ho
   simp [AObj.live] at hl
  ·by_cases hit : id = t
   ·subst hit; exact ⟨hid, _, ht, hlo⟩
   ·rw [List.getElem?_set_ne (by omega), List.getElem?_set_ne (by omega)] at ho
    exact ⟨hid, _, ho, hl⟩
 refine ⟨fun b => I b ∨ m i = some b, m, ⟨hw.below, fun b hb => .inl (hw.i0 b hb), fun b hb => ?_, fun id o ho => ?_, fun id o b ho hl hm => ?_, fun a b oa ob d ha hb la lb ma mb => ?_⟩, ⟨hsl.1, hsl.2.1, fun t x hx => ?_⟩, by rw [hlen]; exact hk, hf.trans hk hfut⟩
 ·rcases hb with hb | hb
  ·exact hw.iw b hb
  ·have := hw.own i _ b hi rfl hb
   exact ⟨this.2.2, .inr this.1⟩
 ·rw [hlen]
  by_cases hid : id = i
  ·subst hid
   rw [List.getElem?_set_ne hti, List.getElem?_set_self (List.getElem?_eq_some_iff.1 hi).1] at ho
   cases ho
   trivial
  ·by_cases hit : id = t
   ·subst hit
    rw [List.getElem?_set_self (by simpa using htl)] at ho
    cases ho
    exact (hw.obj id _ ht).fz hw hi
   rw [List.getElem?_set_ne (by omega), List.getElem?_set_ne (by omega)] at ho
   exact ObjR.mono (hw.obj id o ho) hfut (Nat.le_refl _) (fun _ _ _ => rfl)
 ·obtain ⟨hne, o', ho', hl'⟩ := hcase id o ho hl
  have h1 := hw.own id o' b ho' hl' hm
  refine ⟨h1.1, fun hc => ?_, h1.2.2⟩
  rcases hc with hc | hc
  ·exact h1.2.1 hc
  ·exact hne (hw.inj id i o' _ b ho' hi hl' rfl hm hc)
 ·obtain ⟨_, oa', ha', la'⟩ := hcase a oa ha la
  obtain ⟨_, ob', hb', lb'⟩ := hcase b ob hb lb
  exact hw.inj a b oa' ob' d ha' hb' la' lb' ma mb
 ·rw [hlen]
  have := look_fz hx
  obtain ⟨y, hy, rfl⟩ := this
  obtain ⟨v, hv, hr⟩ := hsl.2.2 t y hy
  exact ⟨v, hv, hr.fz hw hi⟩
theorem AWP_freezeO {cd : Code} {sl : List (Nat × AV)} {H : List AObj} (i : Nat) {e c : Nat} {xs : List AV} (hi : H[i]? = some (.arr e c xs)) (t : Nat) {o0 : AObj} (ht : H[t]? = some o0) (hti : t ≠ i) (hlo : o0.live = true) (h : AWP P nt k cd Q ⟨sl.map fun p => (p.1, p.2.fz i c xs), (H.set i .dead).set t (o0.fz i c xs)⟩) : AWP P nt k cd Q ⟨sl, H⟩ :=
 fun C a w hs => h C a w (hs.freezeO i hi t ht hti hlo)
theorem AStep_freezeO {wr : Bool} {sl : List (Nat × AV)} {H : List AObj} (i : Nat) {e c : Nat} {xs : List AV} (hi : H[i]? = some (.arr e c xs)) (t : Nat) {o0 : AObj} (ht : H[t]? = some o0) (hti : t ≠ i) (hlo : o0.live = true) (h : AStep P nt k wr ops o ⟨sl.map fun p => (p.1, p.2.fz i c xs), (H.set i .dead).set t (o0.fz i c xs)⟩ R) : AStep P nt k wr ops o ⟨sl, H⟩ R :=
 fun C a w K Q hs => h C a w K Q (hs.freezeO i hi t ht hti hlo)
end
end Go.Abs
set_option maxRecDepth 100000
set_option linter.unusedSimpArgs false
namespace Go.Abs
open Go Go.RowKit
section
variable {P : Program} [Env P] {T : TT} {nt k : Nat} {S : AS} {ops : Array Oper} {o : Oper} {R : AS → Prop} {Q : Exit → AS → Prop}
theorem AWP_nilVa {cd : Code} {sl : List (Nat × AV)} {H : List AObj} (i j e sz : Nat) {e' : TypeId} {xs : List AV} (hi : H[i]? = some (.va e' 1 xs)) (hj : xs[j]? = some .nils)
  (h : AWP P nt k cd Q ⟨sl, (H ++ [AObj.arr e sz []]).set i (.va e' 1 (xs.set j (.sl H.length sz 0 0)))⟩) : AWP P nt k cd Q ⟨sl, H⟩ := fun C a w hs => by
 obtain ⟨I, m, hw, hsl, hk, hf⟩ := hs
 obtain ⟨g1, g2⟩ := hw.push (Below.refl _ _) none (fun b e => by cases e) (.arr e sz []) (fun m' _ _ => .inl ⟨rfl, rfl⟩)
 have hil : i < H.length := (List.getElem?_eq_some_iff.1 hi).1
 have hi' : (H ++ [AObj.arr e sz []])[i]? = some (.va e' 1 xs) := by rw [List.getElem?_append_left hil]; exact hi
 have hO : ObjR w I (upd m H.length none) (H ++ [AObj.arr e sz []]).length (upd m H.length none i) (.va e' 1 (xs.set j (.sl H.length sz 0 0))) := by
  rcases g1.obj i _ hi' with ⟨_, rfl⟩ | ⟨b, cap, vs, e1, hh, h1, h2, h3, h4, hr⟩
  ·simp at hj
  ·refine .inr ⟨b, cap, vs, e1, hh, by simpa using h1, h2, h3, fun x hx => ?_, fun q x hx t y hy => ?_⟩
   ·rcases List.mem_or_eq_of_mem_set hx with hx | rfl
    ·exact h4 x hx
    ·rfl
   ·by_cases hq : j = q
    ·subst hq
     rw [List.getElem?_set_self (List.getElem?_eq_some_iff.1 hj).1] at hx
     cases hx
     cases t with
     | zero =>
      simp only [AV.cells, List.getElem?_cons_zero, Option.some.injEq] at hy
      subst hy
      obtain ⟨v, hv, hp⟩ := hr j _ hj 0 .nils rfl
      have := hp.nils_inv
      subst this
      exact ⟨_, hv, .slnone H.length sz (by simp) (upd_same ..)⟩
     | succ t => simp [AV.cells] at hy
    ·rw [List.getElem?_set_ne hq] at hx
     exact hr q x hx t y hy
 have g3 := g1.swap hi' rfl hO
 have hlen : ((H ++ [AObj.arr e sz []]).set i (.va e' 1 (xs.set j (.sl H.length sz 0 0)))).length = H.length + 1 := by simp
 refine h C a w ⟨I, upd m H.length none, g3, ⟨hsl.1, hsl.2.1, fun s x hx => ?_⟩, by simp at hk ⊢; omega, hf.trans hk g2⟩
 obtain ⟨v, hv, hr'⟩ := hsl.2.2 s x hx
 refine ⟨v, hv, ?_⟩
 have := hr'.mono (n' := H.length + 1) g2 (by simp)
 rw [hlen]
 exact this
end
end Go.Abs
set_option maxRecDepth 100000
namespace Go.Abs
open Go
section
variable {P : Program} [Env P] {T : TT} {nt k : Nat} {S : AS}
theorem AWP_drawF (hT : TOk P T) (hm : P.follows .mixedOrders = true) {Q Q' : Exit → AS → Prop} {id : Nat} {l : List Oper} {next : Code} (Wr : List Nat) (p : PlanM) (Ph : AS → Prop) (hd : dstsOk nt l = true)
  (hp : (Region.noSelect l.toArray && p.size == l.length && planM l.toArray (closTo l []) Wr p (Array.replicate l.length false)) = true)
  (h : ASeqM P T nt k l.toArray Wr.contains Ph p S) (hn : ∀ S', Ph S' → AWP P nt k next Q S') : AWP P nt k (.region id l.toArray true) (thenQ (AWP P nt k next Q) Q') S :=
 (AWP_drawM (Q := fun e S => e = .normal ∧ Ph S) hT hm Wr p hd hp (ASeqM_and (fun _ h => ⟨rfl, h⟩) p S h)).mono fun e S ⟨he, hr⟩ => by
  subst he
  exact hn S hr
theorem AWP_abs {cd : Code} {Q : Exit → AS → Prop} {sl : List (Nat × AV)} {H : List AObj} (h : ∀ Z, Z = H → AWP P nt k cd Q ⟨sl, Z⟩) : AWP P nt k cd Q ⟨sl, H⟩ := h H rfl
theorem AStep_abs {wr : Bool} {ops : Array Oper} {o : Oper} {R : AS → Prop} {sl : List (Nat × AV)} {H : List AObj} (h : ∀ Z, Z = H → AStep P nt k wr ops o ⟨sl, Z⟩ R) : AStep P nt k wr ops o ⟨sl, H⟩ R := h H rfl
end
end Go.Abs
set_option maxRecDepth 100000
namespace Go.Abs
open Go Go.RowKit Go.Maps
section
variable {P : Program} [Env P] {T : TT} {nt k : Nat} {S : AS} {ops : Array Oper} {o : Oper} {R : AS → Prop} {Q : Exit → AS → Prop}
theorem WS.still {W0 w : World} {I0 I : Nat → Prop} {m : Nat → Option Nat} {H : List AObj} (hw : WS W0 I0 w I m H) {i : Nat} {o : AObj} (hi : H[i]? = some o) (hl0 : o.live = true) :
  WS W0 I0 w (fun b => I b ∨ m i = some b) m (H.set i .dead) ∧ Fut H.length w I m w (fun b => I b ∨ m i = some b) m := by
 have hext : Ext w w I (fun b => I b ∨ m i = some b) := ⟨fun _ h => .inl h, fun _ _ => rfl⟩
 have hfut : Fut H.length w I m w (fun b => I b ∨ m i = some b) m := ⟨hext, fun _ _ => rfl, fun _ _ h => h⟩
 have hlen : (H.set i .dead).length = H.length := by simp
 have hcase : ∀ (id : Nat) (o : AObj), (H.set i .dead)[id]? = some o → o.live = true → id ≠ i ∧ H[id]? = some o := fun id o ho hl => by
  by_cases hid : id = i
  ·subst hid
   rw [List.getElem?_set_self (List.getElem?_eq_some_iff.1 hi).1] at ho
   cases ho
   simp [AObj.live] at hl
  ·rw [List.getElem?_set_ne (by omega)] at ho
   exact ⟨hid, ho⟩
 refine ⟨⟨hw.below, fun b hb => .inl (hw.i0 b hb), fun b hb => ?_, fun id o ho => ?_, fun id o b ho hl hm => ?_, fun a b oa ob d ha hb la lb ma mb => ?_⟩, hfut⟩
 ·rcases hb with hb | hb
  ·exact hw.iw b hb
  ·have := hw.own i _ b hi hl0 hb
   exact ⟨this.2.2, .inr this.1⟩
 ·rw [hlen]
  by_cases hid : id = i
  ·subst hid
   rw [List.getElem?_set_self (List.getElem?_eq_some_iff.1 hi).1] at ho
   cases ho
   trivial
  ·rw [List.getElem?_set_ne (by omega)] at ho
   exact ObjR.mono (hw.obj id o ho) hfut (Nat.le_refl _) (fun _ _ _ => rfl)
 ·obtain ⟨hne, ho'⟩ := hcase id o ho hl
  have h1 := hw.own id o b ho' hl hm
  refine ⟨h1.1, fun hc => ?_, h1.2.2⟩
  rcases hc with hc | hc
  ·exact h1.2.1 hc
  ·exact hne (hw.inj id i o _ b ho' hi hl hl0 hm hc)
 ·obtain ⟨_, ha'⟩ := hcase a oa ha la
  obtain ⟨_, hb'⟩ := hcase b ob hb lb
  exact hw.inj a b oa ob d ha' hb' la lb ma mb
theorem leftOf_sub {es : Array MapEntry} {seen : Array Nat} {e : MapEntry} (h : e ∈ (leftOf es seen).toList) : e ∈ es.toList := by
 unfold leftOf at h
 simp at h
 simpa using h.1
theorem leftOf_nil (es : Array MapEntry) : leftOf es #[] = es := by
 unfold leftOf
 exact Array.filter_eq_self.2 (fun x _ => by simp)
theorem filter_erase : ∀ (L : List MapEntry) (j : Nat) (e : MapEntry), (L.map (·.born)).Nodup → L[j]? = some e → L.filter (fun x => !(x.born == e.born)) = L.eraseIdx j
 | [], j, e, _, h => by simp at h
 | x :: L, 0, e, hn, h => by
  simp at h
  subst h
  simp only [List.map_cons, List.nodup_cons] at hn
  rw [List.eraseIdx_cons_zero, List.filter_cons, if_neg (by simp)]
  refine List.filter_eq_self.2 (fun y hy => ?_)
  have : y.born ≠ x.born := fun h => hn.1 (by rw [← h]; exact List.mem_map_of_mem hy)
  simpa using this
 | x :: L, j + 1, e, hn, h => by
  simp at h
  simp only [List.map_cons, List.nodup_cons] at hn
  have hne : x.born ≠ e.born := fun h' => hn.1 (by rw [h']; exact List.mem_map_of_mem (List.mem_of_getElem? h))
  rw [List.eraseIdx_cons_succ, List.filter_cons, if_pos (by simpa using hne), filter_erase L j e hn.2 h]
theorem leftOf_push (es : Array MapEntry) (seen : Array Nat) (hn : (es.toList.map (·.born)).Nodup) {j : Nat} {e : MapEntry} (h : (leftOf es seen)[j]? = some e) : (leftOf es (seen.push e.born)).toList = (leftOf es seen).toList.eraseIdx j := by
 have h1 : (leftOf es seen).toList = es.toList.filter (fun x => !seen.contains x.born) := by simp [leftOf]
 have h2 : (leftOf es (seen.push e.born)).toList = es.toList.filter (fun x => !(seen.push e.born).contains x.born) := by simp [leftOf]
 have hn' : ((leftOf es seen).toList.map (·.born)).Nodup := by
  rw [h1]
  exact hn.sublist ((List.filter_sublist (p := fun x : MapEntry => !seen.contains x.born) (l := es.toList)).map _)
 rw [← filter_erase _ j e hn' (by rw [Array.getElem?_toList]; exact h), h1, h2, List.filter_filter]
 congr 1
 funext x
 rw [contains_push]
 cases seen.contains x.born <;> cases (x.born == e.born) <;> rfl
theorem AStep_range (hT : TOk P T) {wr : Bool} (hw : wantedA ops S o = some true) (hd : dstOk nt o = true) {t kt et : TypeId} {x : Operand} (ho : o.op = .range t x) {it : TI} (ht : look T t = some it) (hit : it.desc = .map kt et)
  {id : Nat} (hx : rho S.sl x = some (.mref id)) {kvs : List (AV × AV)} (hob : S.hp[id]? = some (.mp kvs))
  (hR : R (({ S with hp := S.hp.set id .dead ++ [.it kvs none] } : AS).putD o.dst (.vptr S.hp.length 0))) : AStep P nt k wr ops o S R := fun C a w K' Q hst hK => by
 unfold OpW
 rw [if_pos (hst.wanted hw)]
 obtain ⟨I, m, hws, hsl, hk, hE⟩ := hst
 have hut := hT.und ht
 rw [hit] at hut
 obtain ⟨b, hb, _, hxe⟩ := (rho_sound hsl hx).mref_inv
 obtain ⟨b', es, ck, hb', hh, hz, hr⟩ := hws.obj id _ hob
 obtain rfl : b = b' := by rw [hb] at hb'; exact Option.some.inj hb'
 have hrun := run_range_map (P := P) w t kt et b es ck hut hh
 have hex : (execOp a.eval o).run P w = .ok (.value (.pointer (some ⟨w.heap.size, 0, none⟩))) (w.alloc (.mapIter (some b) ck #[] ck)) := by
  simp [execOp, ho, hxe, hrun]
 obtain ⟨s1, s2⟩ := hws.still hob rfl
 have hbl : Below w.heap.size w (w.alloc (.mapIter (some b) ck #[] ck)) := (Below.refl _ _).alloc (Nat.le_refl _) _
 have hnew : (w.alloc (.mapIter (some b) ck #[] ck)).heap[w.heap.size]? = some (.mapIter (some b) ck #[] ck) := heap_alloc_new w _
 have hbw : b < w.heap.size := (hws.own id _ b hob rfl hb).2.2
 have hold : (w.alloc (.mapIter (some b) ck #[] ck)).heap[b]? = some (.map es ck) := by rw [hbl.block b hbw]; exact hh
 obtain ⟨g1, g2⟩ := s1.push hbl (some w.heap.size) (fun c e => by injection e with e; subst e; exact ⟨Nat.le_refl _, (Array.getElem?_eq_some_iff.1 hnew).1⟩) (.it kvs none) (fun m' hf hm => ⟨w.heap.size, b, es, ck, ck, #[], ck, rfl, hnew, .inr hb, hold, hz.born, Nat.le_refl _, Nat.le_refl _, hz.nodup, by rw [leftOf_nil]; exact hz.size,
  fun i e p he hp => by rw [leftOf_nil] at he; exact ⟨((hr i e p he hp).1.mono s2.ext).mono hf.ext, ((hr i e p he hp).2.mono s2.ext).mono hf.ext⟩, fun p hp => by cases hp⟩)
 unfold wpA
 rw [hex]
 have hl : (S.hp.set id .dead).length = S.hp.length := by simp
 rw [hl] at g1 g2
 refine hK _ _ _ hR (St.value hsl hk hE g1 (s2.trans (Nat.le_refl _) g2) (by simp) (dstOk_spec hd) (.vptr _ _ _ (by simp) (upd_same _ _ _))) (fun _ => Held.of_below hbl)
theorem AStep_next (hw : wantedA ops S o = some true) (hd : dstOk nt o = true) {x : Operand} (ho : o.op = .next x false) {id : Nat} (hx : rho S.sl x = some (.vptr id 0)) {left : List (AV × AV)} {cur : Option (AV × AV)} (hob : S.hp[id]? = some (.it left cur))
  (hR0 : left = [] → R (S.putD o.dst (.tup [.bool false])))
  (hR1 : ∀ (j : Nat) (p : AV × AV), left[j]? = some p → R (({ S with hp := S.hp.set id (.it (left.eraseIdx j) (some p)) } : AS).putD o.dst (.tup [.bool true, p.1, p.2]))) : AStep P nt k true ops o S R := fun C a w K' Q hst hK => by
 unfold OpW
 rw [if_pos (hst.wanted hw)]
 obtain ⟨I, m, hws, hsl, hk, hE⟩ := hst
 obtain ⟨r, hb, _, hxe⟩ := (rho_sound hsl hx).vptr_inv
 obtain ⟨r', bm, es, ck, since, seen, c0, hb', hh, hI, hm, h1, h2, h3, h4, h5, hr, hcu⟩ := hws.obj id _ hob
 obtain rfl : r = r' := by rw [hb] at hb'; exact Option.some.inj hb'
 unfold wpA
 rcases run_next_at (P := P) w o.type r bm since c0 seen es ck hh hm h1 h2 with ⟨hz, hrun⟩ | ⟨e, he, w1, hal, hrun⟩
 ·have hl : left = [] := List.eq_nil_of_length_eq_zero (by rw [← h5]; exact hz)
  have hex : (execOp a.eval o).run P w = .ok (.value (.tuple #[.bool false])) w := by simp [execOp, ho, hxe, hrun]
  rw [hex]
  refine hK _ _ _ (hR0 hl) (St.value hsl hk hE hws (Fut.refl _ _ _ _) (Nat.le_refl _) (dstOk_spec hd) (.pure (.tup _ _ rfl (fun i v x hv hx => ?_)))) (fun e => by cases e)
  cases i with
  | zero => simp at hv hx; subst hv; subst hx; exact .bool _
  | succ i => simp at hx
 ·obtain ⟨j, hj, rfl⟩ := List.getElem_of_mem he
  have hj' : j < (leftOf es seen).size := by simpa using hj
  have hge : (leftOf es seen)[j]? = some ((leftOf es seen).toList[j]) := by simp [hj']
  generalize (leftOf es seen).toList[j] = e at *
  obtain ⟨p, hp⟩ : ∃ p, left[j]? = some p := ⟨left[j]'(by omega), by simp⟩
  have hnd : es.toList.Nodup ∨ True := .inr trivial
  have hr1 : w1.heap[r]? = some (.mapIter (some bm) since seen c0) := by rcases hal with rfl | rfl <;> exact hh
  have hm1 : w1.heap[bm]? = some (.map es ck) := by rcases hal with rfl | rfl <;> exact hm
  have hset := MapKept.heap_set (o' := .mapIter (some bm) since (seen.push e.born) ck) hr1
  have hne : bm ≠ r := fun h => by rw [h, hh] at hm; cases hm
  have hm2 : (ChangeMaps.setBlock w1 r (.mapIter (some bm) since (seen.push e.born) ck)).heap[bm]? = some (.map es ck) := (hset.2 bm hne).trans hm1
  have hg : w.grownBy (ChangeMaps.setBlock w1 r (.mapIter (some bm) since (seen.push e.born) ck)) (some r) := by
   rcases hal with rfl | rfl <;> exact ⟨rfl, rfl, rfl, by simp [ChangeMaps.setBlock], fun i _ hi => hset.2 i (fun e1 => hi (by rw [e1]))⟩
  have hnshape : w.shape? r = none := by simp [World.shape?, hh]
  have hpush := leftOf_push es seen h4 hge
  have hsz : (leftOf es (seen.push e.born)).size = (left.eraseIdx j).length := by
   have := congrArg List.length hpush
   rw [Array.length_toList, List.length_eraseIdx, Array.length_toList] at this
   rw [this, List.length_eraseIdx, h5]
  have hpr : ∀ (i : Nat) (x : MapEntry) (q : AV × AV), (leftOf es (seen.push e.born))[i]? = some x → (left.eraseIdx j)[i]? = some q → PVR w I x.key q.1 ∧ PVR w I x.val q.2 := by
   intro i x q hx hq
   rw [← Array.getElem?_toList, hpush, List.getElem?_eraseIdx] at hx
   rw [List.getElem?_eraseIdx] at hq
   split at hx
   ·rename_i hij
    rw [if_pos hij] at hq
    exact hr i x q (by rw [← Array.getElem?_toList]; exact hx) hq
   ·rename_i hij
    rw [if_neg hij] at hq
    exact hr (i + 1) x q (by rw [← Array.getElem?_toList]; exact hx) hq
  have hkv := hr j e p hge hp
  have hmem : e ∈ es.toList := leftOf_sub (Array.mem_toList_iff.2 (Array.mem_of_getElem? hge))
  obtain ⟨g1, g2⟩ := hws.set (o' := .it (left.eraseIdx j) (some p)) hob rfl hb hg (fun s hs => by rw [hnshape] at hs; cases hs) (fun m' hf => ⟨r, bm, es, ck, since, seen.push e.born, ck, rfl, hset.1, hI, hm2, h1, h3, h3, h4, hsz, fun i x q hx hq => ⟨(hpr i x q hx hq).1.mono hf.ext, (hpr i x q hx hq).2.mono hf.ext⟩, fun q hq => by cases hq; exact ⟨e, seen, rfl, rfl, hmem, hkv.1.mono hf.ext, hkv.2.mono hf.ext⟩⟩)
  have hex : (execOp a.eval o).run P w = .ok (.value (.tuple #[.bool true, e.key, e.val])) (ChangeMaps.setBlock w1 r (.mapIter (some bm) since (seen.push e.born) ck)) := by simp [execOp, ho, hxe, hrun]
  rw [hex]
  refine hK _ _ _ (hR1 j p hp) (St.value hsl hk hE g1 g2 (by simp) (dstOk_spec hd) (.pure (.tup _ _ rfl (fun i v x hv hx => ?_)))) (fun e => by cases e)
  match i, hv, hx with
  | 0, hv, hx => simp at hv hx; subst hv; subst hx; exact .bool _
  | 1, hv, hx => simp at hv hx; subst hv; subst hx; exact hkv.1.mono g2.ext
  | 2, hv, hx => simp at hv hx; subst hv; subst hx; exact hkv.2.mono g2.ext
  | i + 3, hv, hx => simp at hx
theorem AStep_entry {wr : Bool} (hw : wantedA ops S o = some true) (hd : dstOk nt o = true) {x : Operand} (ho : o.op = .entry x) {id : Nat} (hx : rho S.sl x = some (.vptr id 0)) {left : List (AV × AV)} {p : AV × AV} (hob : S.hp[id]? = some (.it left (some p)))
  (hR : R (S.putD o.dst (.tup [p.1, p.2]))) : AStep P nt k wr ops o S R := fun C a w K' Q hst hK => by
 unfold OpW
 rw [if_pos (hst.wanted hw)]
 obtain ⟨I, m, hws, hsl, hk, hE⟩ := hst
 obtain ⟨r, hb, _, hxe⟩ := (rho_sound hsl hx).vptr_inv
 obtain ⟨r', bm, es, ck, since, seen, c0, hb', hh, hI, hm, h1, h2, h3, h4, h5, hr, hcu⟩ := hws.obj id _ hob
 obtain rfl : r = r' := by rw [hb] at hb'; exact Option.some.inj hb'
 obtain ⟨e, sn, rfl, rfl, he, hp1, hp2⟩ := hcu p rfl
 unfold wpA
 have hrun := run_entry_at (P := P) w r bm since sn es c0 e hh hm he h4
 have hex : (execOp a.eval o).run P w = .ok (.value (.tuple #[e.key, e.val])) w := by simp [execOp, ho, hxe, hrun]
 rw [hex]
 refine hK _ _ _ hR (St.value hsl hk hE hws (Fut.refl _ _ _ _) (Nat.le_refl _) (dstOk_spec hd) (.pure (.tup _ _ rfl (fun i v x hv hx => ?_)))) (fun _ => Held.refl w)
 match i, hv, hx with
 | 0, hv, hx => simp at hv hx; subst hv; subst hx; exact hp1
 | 1, hv, hx => simp at hv hx; subst hv; subst hx; exact hp2
 | i + 2, hv, hx => simp at hx
end
end Go.Abs
set_option maxRecDepth 100000
set_option linter.unusedSimpArgs false
namespace Go.Abs
open Go Go.RowKit Go.Maps
section
variable {P : Program} [Env P] {T : TT} {nt k : Nat} {S : AS} {ops : Array Oper} {o : Oper} {R : AS → Prop} {Q : Exit → AS → Prop}
theorem AStep_lookupOk (hT : TOk P T) {wr : Bool} (hw : wantedA ops S o = some true) (hd : dstOk nt o = true) {t kt et : TypeId} {x ix : Operand} (ho : o.op = .lookup t x ix true) {it ei : TI} (ht : look T t = some it) (hit : it.desc = .map kt et) (he : look T et = some ei)
  (K : Keyed P kt) {id : Nat} (hx : rho S.sl x = some (.mref id)) {kx : AV} (hix : rho S.sl ix = some kx) {kvs : List (AV × AV)} (hob : S.hp[id]? = some (.mp kvs)) (hkx : isKey P kt kx) (hks : ∀ p ∈ kvs, isKey P kt p.1) {z : AV} (hz : z.val = some ei.zero)
  (hR1 : ∀ (j : Nat) (p : AV × AV), kvs[j]? = some p → p.1 = kx → R (S.putD o.dst (.tup [p.2, .bool true]))) (hR2 : (∀ p ∈ kvs, p.1 ≠ kx) → R (S.putD o.dst (.tup [z, .bool false]))) : AStep P nt k wr ops o S R := fun C a w K' Q hst hK => by
 unfold OpW
 rw [if_pos (hst.wanted hw)]
 obtain ⟨I, m, hws, hsl, hk, hE⟩ := hst
 have hut := hT.und ht
 rw [hit] at hut
 obtain ⟨b, hb, _, hxe⟩ := (rho_sound hsl hx).mref_inv
 obtain ⟨u, lk, hu, hlk⟩ := hkx
 have hpu : kx.pure = true := AV.kv_pure hu
 have hixe := ((rho_sound hsl hix).toPure hpu).kv hu
 obtain ⟨b', es, ck, hb', hh, hz0, hr⟩ := hws.obj id _ hob
 have hl := hz0.size
 obtain rfl : b = b' := by rw [hb] at hb'; exact Option.some.inj hb'
 have hzr := hT.zero he w
 have two : ∀ (v : Value) (y : AV) (q : Bool), PVR w I v y → PVR w I (.tuple #[v, .bool q]) (.tup [y, .bool q]) := fun v y q h => .tup _ _ rfl (fun i v' x' hv hx => by
  match i with
  | 0 => simp at hv hx; subst hv hx; exact h
  | 1 => simp at hv hx; subst hv hx; exact .bool _
  | i + 2 => simp at hv)
 unfold wpA
 rcases map_find K hl (fun i e p a b => (hr i e p a b).1) hu hlk hks with ⟨h1, h2⟩ | ⟨j, e, p, h1, h2, h3, h4, h5⟩
 ·have : (execOp a.eval o).run P w = .ok (.value (.tuple #[ei.zero, .bool false])) w := by
   simp [execOp, ho, hxe, hixe, Instr.lookup, run_underlying hut, MapKept.run_getObj_map hh, K.check w _ hlk, h1, hzr, Result.andThen]
  rw [this]
  refine hK _ _ w (hR2 h2) (St.value hsl hk hE hws (Fut.refl _ _ _ _) (Nat.le_refl _) (dstOk_spec hd) (.pure (two _ _ _ ?_))) (fun _ => Held.refl w)
  cases z <;> simp [AV.val] at hz <;> rw [← hz]
  ·exact .bool _
  ·exact .int _ _
  ·exact .str _
 ·have : (execOp a.eval o).run P w = .ok (.value (.tuple #[e.val, .bool true])) w := by
   simp [execOp, ho, hxe, hixe, Instr.lookup, run_underlying hut, MapKept.run_getObj_map hh, K.check w _ hlk, h1, Result.andThen]
  rw [this]
  exact hK _ _ w (hR1 j p h3 h4) (St.value hsl hk hE hws (Fut.refl _ _ _ _) (Nat.le_refl _) (dstOk_spec hd) (.pure (two _ _ _ (hr j e p h2 h3).2))) (fun _ => Held.refl w)
end
end Go.Abs
/-
 DERIVED: THE SHELF's CONTRACTS AT THIS DUMP, IN PLAIN WORDS (tools/lay-plain.mjs out of 'TryzShelf.lean', which tools/lay-shelf.mjs wrote): THE SAME DECLARATIONS UNDER THE SAME NAMES: 'import', 'namespace', 'open', 'def', 'theorem' AND NOTHING ELSE: no command of the shelf's: FOR A HAND-IN. Each laying: the table of numbers ('.._ren') and one theorem, a field a fact of the dump's own or the kernel's comparison; each contract: ONE APPLICATION.
-/
namespace Go.Proofs
open Go.Shelf
def Tryz.lays189_ren : Go.Shelf.Ren := ⟨fun | 189 => 176 | 125 => 199 | 257 => 198 | 128 => 216 | 129 => 217 | 294 => 207 | 295 => 208 | 296 => 209 | 297 => 210 | 298 => 211 | 299 => 212 | 216 => 213 | 300 => 214 | 301 => 215 | 328 => 235 | 329 => 236 | 330 => 237 | 331 => 238 | 332 => 239 | 215 => 202 | 343 => 250 | n => n, fun | 28 => 40 | 3 => 3 | 46 => 213 | 0 => 0 | 51 => 247 | 53 => 250 | 4 => 4 | 183 => 263 | 182 => 262 | 131 => 134 | 5 => 5 | 9 => 9 | 218 => 281 | 222 => 285 | 228 => 296 | 229 => 297 | n => n, fun | n => n⟩
theorem Tryz.lays189 : Go.Proofs.Lays.n189 Tryz.prog Tryz.lays189_ren := {
 mixed := by kernel_rfl
 f125 := Tryz.func199.trans (congrArg some (by kernel_rfl))
 f128 := Tryz.func216.trans (congrArg some (by kernel_rfl))
 f129 := Tryz.func217.trans (congrArg some (by kernel_rfl))
 f189 := Tryz.func176.trans (congrArg some (by kernel_rfl))
 f215 := Tryz.func202.trans (congrArg some (by kernel_rfl))
 f216 := Tryz.func213.trans (congrArg some (by kernel_rfl))
 f257 := Tryz.func198.trans (congrArg some (by kernel_rfl))
 f294 := Tryz.func207.trans (congrArg some (by kernel_rfl))
 f295 := Tryz.func208.trans (congrArg some (by kernel_rfl))
 f296 := Tryz.func209.trans (congrArg some (by kernel_rfl))
 f297 := Tryz.func210.trans (congrArg some (by kernel_rfl))
 f298 := Tryz.func211.trans (congrArg some (by kernel_rfl))
 f299 := Tryz.func212.trans (congrArg some (by kernel_rfl))
 f300 := Tryz.func214.trans (congrArg some (by kernel_rfl))
 f301 := Tryz.func215.trans (congrArg some (by kernel_rfl))
 f328 := Tryz.func235.trans (congrArg some (by kernel_rfl))
 f329 := Tryz.func236.trans (congrArg some (by kernel_rfl))
 f330 := Tryz.func237.trans (congrArg some (by kernel_rfl))
 f331 := Tryz.func238.trans (congrArg some (by kernel_rfl))
 f332 := Tryz.func239.trans (congrArg some (by kernel_rfl))
 f343 := Tryz.func250.trans (congrArg some (by kernel_rfl))
 t0 := Tryz.underlying0
 a0 := Tryz.isAgg0
 z0 := Tryz.sizeOf0
 v0 := Tryz.zeroValue0
 t3 := Tryz.underlying3
 a3 := Tryz.isAgg3
 z3 := Tryz.sizeOf3
 v3 := Tryz.zeroValue3
 t4 := Tryz.underlying4
 a4 := Tryz.isAgg4
 z4 := Tryz.sizeOf4
 v4 := Tryz.zeroValue4
 t5 := Tryz.underlying5
 a5 := Tryz.isAgg5
 z5 := Tryz.sizeOf5
 v5 := Tryz.zeroValue5
 t9 := Tryz.underlying9
 a9 := Tryz.isAgg9
 z9 := Tryz.sizeOf9
 v9 := Tryz.zeroValue9
 t28 := Tryz.underlying40
 a28 := Tryz.isAgg40
 z28 := Tryz.sizeOf40
 v28 := Tryz.zeroValue40
 t46 := Tryz.underlying213
 a46 := Tryz.isAgg213
 z46 := Tryz.sizeOf213
 v46 := Tryz.zeroValue213
 t51 := Tryz.underlying247
 a51 := Tryz.isAgg247
 z51 := Tryz.sizeOf247
 v51 := Tryz.zeroValue247
 t53 := Tryz.underlying250
 a53 := Tryz.isAgg250
 z53 := Tryz.sizeOf250
 v53 := Tryz.zeroValue250
 t131 := Tryz.underlying134
 a131 := Tryz.isAgg134
 z131 := Tryz.sizeOf134
 v131 := Tryz.zeroValue134
 t182 := Tryz.underlying262
 a182 := Tryz.isAgg262
 z182 := Tryz.sizeOf262
 v182 := Tryz.zeroValue262
 t183 := Tryz.underlying263
 a183 := Tryz.isAgg263
 z183 := Tryz.sizeOf263
 v183 := Tryz.zeroValue263
 t218 := Tryz.underlying281
 a218 := Tryz.isAgg281
 z218 := Tryz.sizeOf281
 v218 := Tryz.zeroValue281
 t222 := Tryz.underlying285
 a222 := Tryz.isAgg285
 z222 := Tryz.sizeOf285
 v222 := Tryz.zeroValue285
 t228 := Tryz.underlying296
 a228 := Tryz.isAgg296
 z228 := Tryz.sizeOf296
 v228 := Tryz.zeroValue296
 t229 := Tryz.underlying297
 a229 := Tryz.isAgg297
 z229 := Tryz.sizeOf297
 v229 := Tryz.zeroValue297 }
open Go.Sort Go.RowKit in
theorem Tryz.slices_Sort_int (blk off cap : Nat) (zs : List Int) (w : World) (hH : Holds (Value.int .i64) w blk off zs.toArray) (hblk : blk < w.heap.size) (hsz : zs.length < 4611686018427387904) :
  Calls Tryz.prog 176 #[.slice (some ⟨blk, off, none⟩) zs.length cap] w fun e w' =>
   e = .returned (.tuple #[]) ∧ ∃ n os, w' = grow (putRow (Value.int .i64) (Sort.ahead w n) blk off (zs.mergeSort fun x y => decide (x ≤ y)).toArray) os := Any.slices_Sort_int Tryz.lays189 blk off cap zs w hH hblk hsz
open Go.RowKit Go.Sort in
theorem Tryz.slices_Sort_int_none (p : Option Addr) (cap : Nat) (w : World) :
  Calls Tryz.prog 176 #[.slice p 0 cap] w fun e w' => e = .returned (.tuple #[]) ∧ w' = w := Any.slices_Sort_int_none Tryz.lays189 p cap w
end Go.Proofs
/- The types of the program, as the abstract machine is told of them. -/
set_option maxRecDepth 100000
namespace Go.Abs
open Go Go.Proofs

def T : TT := [
 (2, { desc := .int .i64, zero := (.int .i64 0), size := 1, bytes := 8 }),
 (3, { desc := .int .i64, zero := (.int .i64 0), size := 1, bytes := 8 }),
 (4, { desc := .bool, zero := (.bool false), size := 1, bytes := 1 }),
 (5, { desc := .int .u8, zero := (.int .u8 0), size := 1, bytes := 1 }),
 (9, { desc := .string, zero := (.string ⟨#[]⟩), size := 1, bytes := 16 }),
 (22, { desc := .slice 4, zero := (.slice none 0 0), size := 1, bytes := 24 }),
 (23, { desc := .slice 78, zero := (.slice none 0 0), size := 1, bytes := 24 }),
 (25, { desc := .struct #[{ name := "Types", type := 3, offset := 0, embedded := false, tag := "", pkgPath := "", byteOffset := 0 }, { name := "Finals", type := 22, offset := 1, embedded := false, tag := "", pkgPath := "", byteOffset := 8 }, { name := "Moves", type := 23, offset := 2, embedded := false, tag := "", pkgPath := "", byteOffset := 32 }], zero := (.agg #[(.int .i64 0), (.slice none 0 0), (.slice none 0 0)]), size := 3, bytes := 56 }),
 (28, { desc := .slice 40, zero := (.slice none 0 0), size := 1, bytes := 24 }),
 (29, { desc := .int .i64, zero := (.int .i64 0), size := 1, bytes := 8 }),
 (40, { desc := .slice 3, zero := (.slice none 0 0), size := 1, bytes := 24 }),
 (45, { desc := .slice 53, zero := (.slice none 0 0), size := 1, bytes := 24 }),
 (53, { desc := .struct #[{ name := "Type", type := 3, offset := 0, embedded := false, tag := "", pkgPath := "", byteOffset := 0 }, { name := "Num", type := 3, offset := 1, embedded := false, tag := "", pkgPath := "", byteOffset := 8 }], zero := (.agg #[(.int .i64 0), (.int .i64 0)]), size := 2, bytes := 16, eqv := true }),
 (55, { desc := .array 2 5, zero := (.agg #[(.int .u8 0), (.int .u8 0)]), size := 2, bytes := 2 }),
 (60, { desc := .slice 147, zero := (.slice none 0 0), size := 1, bytes := 24 }),
 (74, { desc := .slice 171, zero := (.slice none 0 0), size := 1, bytes := 24 }),
 (76, { desc := .struct #[{ name := "Sets", type := 74, offset := 0, embedded := false, tag := "", pkgPath := "", byteOffset := 0 }], zero := (.agg #[(.slice none 0 0)]), size := 1, bytes := 24 }),
 (78, { desc := .struct #[{ name := "From", type := 3, offset := 0, embedded := false, tag := "", pkgPath := "", byteOffset := 0 }, { name := "To", type := 3, offset := 1, embedded := false, tag := "", pkgPath := "", byteOffset := 8 }, { name := "On", type := 76, offset := 2, embedded := false, tag := "", pkgPath := "", byteOffset := 16 }], zero := (.agg #[(.int .i64 0), (.int .i64 0), (.slice none 0 0)]), size := 3, bytes := 40 }),
 (84, { desc := .struct #[{ name := "l", type := 45, offset := 0, embedded := false, tag := "", pkgPath := "tidegate/tidegatelaw29", byteOffset := 0 }, { name := "ok", type := 4, offset := 1, embedded := false, tag := "", pkgPath := "tidegate/tidegatelaw29", byteOffset := 24 }], zero := (.agg #[(.slice none 0 0), (.bool false)]), size := 2, bytes := 32 }),
 (86, { desc := .slice 84, zero := (.slice none 0 0), size := 1, bytes := 24 }),
 (88, { desc := .pointer 94, zero := (.pointer none), size := 1, bytes := 8 }),
 (91, { desc := .slice 76, zero := (.slice none 0 0), size := 1, bytes := 24 }),
 (92, { desc := .map 9 3, zero := (.map none), size := 1, bytes := 8 }),
 (94, { desc := .struct #[{ name := "a", type := 25, offset := 0, embedded := false, tag := "", pkgPath := "tidegate/determinize", byteOffset := 0 }, { name := "classes", type := 91, offset := 3, embedded := false, tag := "", pkgPath := "tidegate/determinize", byteOffset := 56 }, { name := "sets", type := 28, offset := 4, embedded := false, tag := "", pkgPath := "tidegate/determinize", byteOffset := 80 }, { name := "number", type := 92, offset := 5, embedded := false, tag := "", pkgPath := "tidegate/determinize", byteOffset := 104 }], zero := (.agg #[(.int .i64 0), (.slice none 0 0), (.slice none 0 0), (.slice none 0 0), (.slice none 0 0), (.map none)]), size := 6, bytes := 112 }),
 (99, { desc := .func #[3] #[4] false, zero := .nilFunc, size := 1, bytes := 8 }),
 (101, { desc := .func #[179] #[] false, zero := .nilFunc, size := 1, bytes := 8 }),
 (105, { desc := .func #[78] #[4] false, zero := .nilFunc, size := 1, bytes := 8 }),
 (123, { desc := .slice 23, zero := (.slice none 0 0), size := 1, bytes := 24 }),
 (125, { desc := .struct #[{ name := "Symbolic", type := 25, offset := 0, embedded := true, tag := "", pkgPath := "", byteOffset := 0 }, { name := "moves", type := 123, offset := 3, embedded := false, tag := "", pkgPath := "tidegate/minimize", byteOffset := 56 }], zero := (.agg #[(.int .i64 0), (.slice none 0 0), (.slice none 0 0), (.slice none 0 0)]), size := 4, bytes := 80 }),
 (132, { desc := .map 135 3, zero := (.map none), size := 1, bytes := 8 }),
 (135, { desc := .array 2 3, zero := (.agg #[(.int .i64 0), (.int .i64 0)]), size := 2, bytes := 16 }),
 (144, { desc := .func #[199] #[] false, zero := .nilFunc, size := 1, bytes := 8 }),
 (147, { desc := .struct #[{ name := "A", type := 3, offset := 0, embedded := false, tag := "", pkgPath := "", byteOffset := 0 }, { name := "B", type := 3, offset := 1, embedded := false, tag := "", pkgPath := "", byteOffset := 8 }, { name := "Word", type := 45, offset := 2, embedded := false, tag := "", pkgPath := "", byteOffset := 16 }], zero := (.agg #[(.int .i64 0), (.int .i64 0), (.slice none 0 0)]), size := 3, bytes := 40 }),
 (154, { desc := .slice 25, zero := (.slice none 0 0), size := 1, bytes := 24 }),
 (158, { desc := .func #[219] #[] false, zero := .nilFunc, size := 1, bytes := 8 }),
 (161, { desc := .struct #[{ name := "x", type := 53, offset := 0, embedded := false, tag := "", pkgPath := "tidegate/minimize", byteOffset := 0 }, { name := "p", type := 3, offset := 2, embedded := false, tag := "", pkgPath := "tidegate/minimize", byteOffset := 16 }, { name := "q", type := 3, offset := 3, embedded := false, tag := "", pkgPath := "tidegate/minimize", byteOffset := 24 }], zero := (.agg #[(.int .i64 0), (.int .i64 0), (.int .i64 0), (.int .i64 0)]), size := 4, bytes := 32, eqv := true }),
 (165, { desc := .map 3 4, zero := (.map none), size := 1, bytes := 8 }),
 (167, { desc := .func #[105] #[] false, zero := .nilFunc, size := 1, bytes := 8 }),
 (170, { desc := .func #[171] #[4] false, zero := .nilFunc, size := 1, bytes := 8 }),
 (171, { desc := .slice 187, zero := (.slice none 0 0), size := 1, bytes := 24 }),
 (187, { desc := .struct #[{ name := "Low", type := 3, offset := 0, embedded := false, tag := "", pkgPath := "", byteOffset := 0 }, { name := "High", type := 3, offset := 1, embedded := false, tag := "", pkgPath := "", byteOffset := 8 }], zero := (.agg #[(.int .i64 0), (.int .i64 0)]), size := 2, bytes := 16, eqv := true }),
 (191, { desc := .func #[171, 171] #[4] false, zero := .nilFunc, size := 1, bytes := 8 }),
 (192, { desc := .map 3 3, zero := (.map none), size := 1, bytes := 8 }),
 (199, { desc := .func #[3, 3] #[4] false, zero := .nilFunc, size := 1, bytes := 8 }),
 (200, { desc := .slice 135, zero := (.slice none 0 0), size := 1, bytes := 24 }),
 (204, { desc := .struct #[{ name := "p", type := 3, offset := 0, embedded := false, tag := "", pkgPath := "tidegate/tidegateref30", byteOffset := 0 }, { name := "q", type := 3, offset := 1, embedded := false, tag := "", pkgPath := "tidegate/tidegateref30", byteOffset := 8 }, { name := "word", type := 45, offset := 2, embedded := false, tag := "", pkgPath := "tidegate/tidegateref30", byteOffset := 16 }], zero := (.agg #[(.int .i64 0), (.int .i64 0), (.slice none 0 0)]), size := 3, bytes := 40 }),
 (205, { desc := .slice 204, zero := (.slice none 0 0), size := 1, bytes := 24 }),
 (210, { desc := .func #[3] #[171, 29] false, zero := .nilFunc, size := 1, bytes := 8 }),
 (213, { desc := .int .u64, zero := (.int .u64 0), size := 1, bytes := 8 }),
 (229, { desc := .func #[254] #[] false, zero := .nilFunc, size := 1, bytes := 8 }),
 (234, { desc := .slice 5, zero := (.slice none 0 0), size := 1, bytes := 24 }),
 (238, { desc := .func #[187, 187] #[3] false, zero := .nilFunc, size := 1, bytes := 8 }),
 (241, { desc := .map 3 91, zero := (.map none), size := 1, bytes := 8 }),
 (243, { desc := .func #[78, 78] #[3] false, zero := .nilFunc, size := 1, bytes := 8 }),
 (247, { desc := .int .u32, zero := (.int .u32 0), size := 1, bytes := 4 }),
 (250, { desc := .int .u64, zero := (.int .u64 0), size := 1, bytes := 8 }),
 (260, { desc := .func #[187, 3] #[3] false, zero := .nilFunc, size := 1, bytes := 8 }),
 (262, { desc := .int .i64, zero := (.int .i64 0), size := 1, bytes := 8 }),
 (281, { desc := .int .u64, zero := (.int .u64 0), size := 1, bytes := 8 }),
 (285, { desc := .pointer 3, zero := (.pointer none), size := 1, bytes := 8 }),
 (288, { desc := .array 24 5, zero := (.agg #[(.int .u8 0), (.int .u8 0), (.int .u8 0), (.int .u8 0), (.int .u8 0), (.int .u8 0), (.int .u8 0), (.int .u8 0), (.int .u8 0), (.int .u8 0), (.int .u8 0), (.int .u8 0), (.int .u8 0), (.int .u8 0), (.int .u8 0), (.int .u8 0), (.int .u8 0), (.int .u8 0), (.int .u8 0), (.int .u8 0), (.int .u8 0), (.int .u8 0), (.int .u8 0), (.int .u8 0)]), size := 24, bytes := 24 }),
 (300, { desc := .array 20 250, zero := (.agg #[(.int .u64 0), (.int .u64 0), (.int .u64 0), (.int .u64 0), (.int .u64 0), (.int .u64 0), (.int .u64 0), (.int .u64 0), (.int .u64 0), (.int .u64 0), (.int .u64 0), (.int .u64 0), (.int .u64 0), (.int .u64 0), (.int .u64 0), (.int .u64 0), (.int .u64 0), (.int .u64 0), (.int .u64 0), (.int .u64 0)]), size := 20, bytes := 160 }),
 (301, { desc := .array 65 5, zero := (.agg #[(.int .u8 0), (.int .u8 0), (.int .u8 0), (.int .u8 0), (.int .u8 0), (.int .u8 0), (.int .u8 0), (.int .u8 0), (.int .u8 0), (.int .u8 0), (.int .u8 0), (.int .u8 0), (.int .u8 0), (.int .u8 0), (.int .u8 0), (.int .u8 0), (.int .u8 0), (.int .u8 0), (.int .u8 0), (.int .u8 0), (.int .u8 0), (.int .u8 0), (.int .u8 0), (.int .u8 0), (.int .u8 0), (.int .u8 0), (.int .u8 0), (.int .u8 0), (.int .u8 0), (.int .u8 0), (.int .u8 0), (.int .u8 0), (.int .u8 0), (.int .u8 0), (.int .u8 0), (.int .u8 0), (.int .u8 0), (.int .u8 0), (.int .u8 0), (.int .u8 0), (.int .u8 0), (.int .u8 0), (.int .u8 0), (.int .u8 0), (.int .u8 0), (.int .u8 0), (.int .u8 0), (.int .u8 0), (.int .u8 0), (.int .u8 0), (.int .u8 0), (.int .u8 0), (.int .u8 0), (.int .u8 0), (.int .u8 0), (.int .u8 0), (.int .u8 0), (.int .u8 0), (.int .u8 0), (.int .u8 0), (.int .u8 0), (.int .u8 0), (.int .u8 0), (.int .u8 0), (.int .u8 0)]), size := 65, bytes := 65 }),
 (304, { desc := .array 32 5, zero := (.agg #[(.int .u8 0), (.int .u8 0), (.int .u8 0), (.int .u8 0), (.int .u8 0), (.int .u8 0), (.int .u8 0), (.int .u8 0), (.int .u8 0), (.int .u8 0), (.int .u8 0), (.int .u8 0), (.int .u8 0), (.int .u8 0), (.int .u8 0), (.int .u8 0), (.int .u8 0), (.int .u8 0), (.int .u8 0), (.int .u8 0), (.int .u8 0), (.int .u8 0), (.int .u8 0), (.int .u8 0), (.int .u8 0), (.int .u8 0), (.int .u8 0), (.int .u8 0), (.int .u8 0), (.int .u8 0), (.int .u8 0), (.int .u8 0)]), size := 32, bytes := 32 }),
 (305, { desc := .array 64 5, zero := (.agg #[(.int .u8 0), (.int .u8 0), (.int .u8 0), (.int .u8 0), (.int .u8 0), (.int .u8 0), (.int .u8 0), (.int .u8 0), (.int .u8 0), (.int .u8 0), (.int .u8 0), (.int .u8 0), (.int .u8 0), (.int .u8 0), (.int .u8 0), (.int .u8 0), (.int .u8 0), (.int .u8 0), (.int .u8 0), (.int .u8 0), (.int .u8 0), (.int .u8 0), (.int .u8 0), (.int .u8 0), (.int .u8 0), (.int .u8 0), (.int .u8 0), (.int .u8 0), (.int .u8 0), (.int .u8 0), (.int .u8 0), (.int .u8 0), (.int .u8 0), (.int .u8 0), (.int .u8 0), (.int .u8 0), (.int .u8 0), (.int .u8 0), (.int .u8 0), (.int .u8 0), (.int .u8 0), (.int .u8 0), (.int .u8 0), (.int .u8 0), (.int .u8 0), (.int .u8 0), (.int .u8 0), (.int .u8 0), (.int .u8 0), (.int .u8 0), (.int .u8 0), (.int .u8 0), (.int .u8 0), (.int .u8 0), (.int .u8 0), (.int .u8 0), (.int .u8 0), (.int .u8 0), (.int .u8 0), (.int .u8 0), (.int .u8 0), (.int .u8 0), (.int .u8 0), (.int .u8 0)]), size := 64, bytes := 64 })]

def OkRow (P : Program) (T : TT) (t : Nat) (i : TI) : Prop := P.underlying t = some i.desc ∧ (P.info? t).map (fun j => (j.zero, j.size, j.bytes)) = some (some i.zero, i.size, i.bytes) ∧
 (i.eqv = true → P.stoodInHeld t = false ∧ P.eqGuardType P.depth t = false) ∧ (∀ fs, i.desc = .struct fs → fieldsKnown T fs = true)

theorem row2 : OkRow Tryz.prog T 2 { desc := .int .i64, zero := (.int .i64 0), size := 1, bytes := 8 } :=
 ⟨by kernel_rfl, by kernel_rfl, fun h => (by cases h), fun fs h => (by cases h)⟩
theorem row3 : OkRow Tryz.prog T 3 { desc := .int .i64, zero := (.int .i64 0), size := 1, bytes := 8 } :=
 ⟨by kernel_rfl, by kernel_rfl, fun h => (by cases h), fun fs h => (by cases h)⟩
theorem row4 : OkRow Tryz.prog T 4 { desc := .bool, zero := (.bool false), size := 1, bytes := 1 } :=
 ⟨by kernel_rfl, by kernel_rfl, fun h => (by cases h), fun fs h => (by cases h)⟩
theorem row5 : OkRow Tryz.prog T 5 { desc := .int .u8, zero := (.int .u8 0), size := 1, bytes := 1 } :=
 ⟨by kernel_rfl, by kernel_rfl, fun h => (by cases h), fun fs h => (by cases h)⟩
theorem row9 : OkRow Tryz.prog T 9 { desc := .string, zero := (.string ⟨#[]⟩), size := 1, bytes := 16 } :=
 ⟨by kernel_rfl, by kernel_rfl, fun h => (by cases h), fun fs h => (by cases h)⟩
theorem row22 : OkRow Tryz.prog T 22 { desc := .slice 4, zero := (.slice none 0 0), size := 1, bytes := 24 } :=
 ⟨by kernel_rfl, by kernel_rfl, fun h => (by cases h), fun fs h => (by cases h)⟩
theorem row23 : OkRow Tryz.prog T 23 { desc := .slice 78, zero := (.slice none 0 0), size := 1, bytes := 24 } :=
 ⟨by kernel_rfl, by kernel_rfl, fun h => (by cases h), fun fs h => (by cases h)⟩
theorem row25 : OkRow Tryz.prog T 25 { desc := .struct #[{ name := "Types", type := 3, offset := 0, embedded := false, tag := "", pkgPath := "", byteOffset := 0 }, { name := "Finals", type := 22, offset := 1, embedded := false, tag := "", pkgPath := "", byteOffset := 8 }, { name := "Moves", type := 23, offset := 2, embedded := false, tag := "", pkgPath := "", byteOffset := 32 }], zero := (.agg #[(.int .i64 0), (.slice none 0 0), (.slice none 0 0)]), size := 3, bytes := 56 } :=
 ⟨by kernel_rfl, by kernel_rfl, fun h => (by cases h), fun fs h => (by cases h; kernel_rfl)⟩
theorem row28 : OkRow Tryz.prog T 28 { desc := .slice 40, zero := (.slice none 0 0), size := 1, bytes := 24 } :=
 ⟨by kernel_rfl, by kernel_rfl, fun h => (by cases h), fun fs h => (by cases h)⟩
theorem row29 : OkRow Tryz.prog T 29 { desc := .int .i64, zero := (.int .i64 0), size := 1, bytes := 8 } :=
 ⟨by kernel_rfl, by kernel_rfl, fun h => (by cases h), fun fs h => (by cases h)⟩
theorem row40 : OkRow Tryz.prog T 40 { desc := .slice 3, zero := (.slice none 0 0), size := 1, bytes := 24 } :=
 ⟨by kernel_rfl, by kernel_rfl, fun h => (by cases h), fun fs h => (by cases h)⟩
theorem row45 : OkRow Tryz.prog T 45 { desc := .slice 53, zero := (.slice none 0 0), size := 1, bytes := 24 } :=
 ⟨by kernel_rfl, by kernel_rfl, fun h => (by cases h), fun fs h => (by cases h)⟩
theorem row53 : OkRow Tryz.prog T 53 { desc := .struct #[{ name := "Type", type := 3, offset := 0, embedded := false, tag := "", pkgPath := "", byteOffset := 0 }, { name := "Num", type := 3, offset := 1, embedded := false, tag := "", pkgPath := "", byteOffset := 8 }], zero := (.agg #[(.int .i64 0), (.int .i64 0)]), size := 2, bytes := 16, eqv := true } :=
 ⟨by kernel_rfl, by kernel_rfl, fun _ => ⟨by kernel_rfl, by kernel_rfl⟩, fun fs h => (by cases h; kernel_rfl)⟩
theorem row55 : OkRow Tryz.prog T 55 { desc := .array 2 5, zero := (.agg #[(.int .u8 0), (.int .u8 0)]), size := 2, bytes := 2 } :=
 ⟨by kernel_rfl, by kernel_rfl, fun h => (by cases h), fun fs h => (by cases h)⟩
theorem row60 : OkRow Tryz.prog T 60 { desc := .slice 147, zero := (.slice none 0 0), size := 1, bytes := 24 } :=
 ⟨by kernel_rfl, by kernel_rfl, fun h => (by cases h), fun fs h => (by cases h)⟩
theorem row74 : OkRow Tryz.prog T 74 { desc := .slice 171, zero := (.slice none 0 0), size := 1, bytes := 24 } :=
 ⟨by kernel_rfl, by kernel_rfl, fun h => (by cases h), fun fs h => (by cases h)⟩
theorem row76 : OkRow Tryz.prog T 76 { desc := .struct #[{ name := "Sets", type := 74, offset := 0, embedded := false, tag := "", pkgPath := "", byteOffset := 0 }], zero := (.agg #[(.slice none 0 0)]), size := 1, bytes := 24 } :=
 ⟨by kernel_rfl, by kernel_rfl, fun h => (by cases h), fun fs h => (by cases h; kernel_rfl)⟩
theorem row78 : OkRow Tryz.prog T 78 { desc := .struct #[{ name := "From", type := 3, offset := 0, embedded := false, tag := "", pkgPath := "", byteOffset := 0 }, { name := "To", type := 3, offset := 1, embedded := false, tag := "", pkgPath := "", byteOffset := 8 }, { name := "On", type := 76, offset := 2, embedded := false, tag := "", pkgPath := "", byteOffset := 16 }], zero := (.agg #[(.int .i64 0), (.int .i64 0), (.slice none 0 0)]), size := 3, bytes := 40 } :=
 ⟨by kernel_rfl, by kernel_rfl, fun h => (by cases h), fun fs h => (by cases h; kernel_rfl)⟩
theorem row84 : OkRow Tryz.prog T 84 { desc := .struct #[{ name := "l", type := 45, offset := 0, embedded := false, tag := "", pkgPath := "tidegate/tidegatelaw29", byteOffset := 0 }, { name := "ok", type := 4, offset := 1, embedded := false, tag := "", pkgPath := "tidegate/tidegatelaw29", byteOffset := 24 }], zero := (.agg #[(.slice none 0 0), (.bool false)]), size := 2, bytes := 32 } :=
 ⟨by kernel_rfl, by kernel_rfl, fun h => (by cases h), fun fs h => (by cases h; kernel_rfl)⟩
theorem row86 : OkRow Tryz.prog T 86 { desc := .slice 84, zero := (.slice none 0 0), size := 1, bytes := 24 } :=
 ⟨by kernel_rfl, by kernel_rfl, fun h => (by cases h), fun fs h => (by cases h)⟩
theorem row88 : OkRow Tryz.prog T 88 { desc := .pointer 94, zero := (.pointer none), size := 1, bytes := 8 } :=
 ⟨by kernel_rfl, by kernel_rfl, fun h => (by cases h), fun fs h => (by cases h)⟩
theorem row91 : OkRow Tryz.prog T 91 { desc := .slice 76, zero := (.slice none 0 0), size := 1, bytes := 24 } :=
 ⟨by kernel_rfl, by kernel_rfl, fun h => (by cases h), fun fs h => (by cases h)⟩
theorem row92 : OkRow Tryz.prog T 92 { desc := .map 9 3, zero := (.map none), size := 1, bytes := 8 } :=
 ⟨by kernel_rfl, by kernel_rfl, fun h => (by cases h), fun fs h => (by cases h)⟩
theorem row94 : OkRow Tryz.prog T 94 { desc := .struct #[{ name := "a", type := 25, offset := 0, embedded := false, tag := "", pkgPath := "tidegate/determinize", byteOffset := 0 }, { name := "classes", type := 91, offset := 3, embedded := false, tag := "", pkgPath := "tidegate/determinize", byteOffset := 56 }, { name := "sets", type := 28, offset := 4, embedded := false, tag := "", pkgPath := "tidegate/determinize", byteOffset := 80 }, { name := "number", type := 92, offset := 5, embedded := false, tag := "", pkgPath := "tidegate/determinize", byteOffset := 104 }], zero := (.agg #[(.int .i64 0), (.slice none 0 0), (.slice none 0 0), (.slice none 0 0), (.slice none 0 0), (.map none)]), size := 6, bytes := 112 } :=
 ⟨by kernel_rfl, by kernel_rfl, fun h => (by cases h), fun fs h => (by cases h; kernel_rfl)⟩
theorem row99 : OkRow Tryz.prog T 99 { desc := .func #[3] #[4] false, zero := .nilFunc, size := 1, bytes := 8 } :=
 ⟨by kernel_rfl, by kernel_rfl, fun h => (by cases h), fun fs h => (by cases h)⟩
theorem row101 : OkRow Tryz.prog T 101 { desc := .func #[179] #[] false, zero := .nilFunc, size := 1, bytes := 8 } :=
 ⟨by kernel_rfl, by kernel_rfl, fun h => (by cases h), fun fs h => (by cases h)⟩
theorem row105 : OkRow Tryz.prog T 105 { desc := .func #[78] #[4] false, zero := .nilFunc, size := 1, bytes := 8 } :=
 ⟨by kernel_rfl, by kernel_rfl, fun h => (by cases h), fun fs h => (by cases h)⟩
theorem row123 : OkRow Tryz.prog T 123 { desc := .slice 23, zero := (.slice none 0 0), size := 1, bytes := 24 } :=
 ⟨by kernel_rfl, by kernel_rfl, fun h => (by cases h), fun fs h => (by cases h)⟩
theorem row125 : OkRow Tryz.prog T 125 { desc := .struct #[{ name := "Symbolic", type := 25, offset := 0, embedded := true, tag := "", pkgPath := "", byteOffset := 0 }, { name := "moves", type := 123, offset := 3, embedded := false, tag := "", pkgPath := "tidegate/minimize", byteOffset := 56 }], zero := (.agg #[(.int .i64 0), (.slice none 0 0), (.slice none 0 0), (.slice none 0 0)]), size := 4, bytes := 80 } :=
 ⟨by kernel_rfl, by kernel_rfl, fun h => (by cases h), fun fs h => (by cases h; kernel_rfl)⟩
theorem row132 : OkRow Tryz.prog T 132 { desc := .map 135 3, zero := (.map none), size := 1, bytes := 8 } :=
 ⟨by kernel_rfl, by kernel_rfl, fun h => (by cases h), fun fs h => (by cases h)⟩
theorem row135 : OkRow Tryz.prog T 135 { desc := .array 2 3, zero := (.agg #[(.int .i64 0), (.int .i64 0)]), size := 2, bytes := 16 } :=
 ⟨by kernel_rfl, by kernel_rfl, fun h => (by cases h), fun fs h => (by cases h)⟩
theorem row144 : OkRow Tryz.prog T 144 { desc := .func #[199] #[] false, zero := .nilFunc, size := 1, bytes := 8 } :=
 ⟨by kernel_rfl, by kernel_rfl, fun h => (by cases h), fun fs h => (by cases h)⟩
theorem row147 : OkRow Tryz.prog T 147 { desc := .struct #[{ name := "A", type := 3, offset := 0, embedded := false, tag := "", pkgPath := "", byteOffset := 0 }, { name := "B", type := 3, offset := 1, embedded := false, tag := "", pkgPath := "", byteOffset := 8 }, { name := "Word", type := 45, offset := 2, embedded := false, tag := "", pkgPath := "", byteOffset := 16 }], zero := (.agg #[(.int .i64 0), (.int .i64 0), (.slice none 0 0)]), size := 3, bytes := 40 } :=
 ⟨by kernel_rfl, by kernel_rfl, fun h => (by cases h), fun fs h => (by cases h; kernel_rfl)⟩
theorem row154 : OkRow Tryz.prog T 154 { desc := .slice 25, zero := (.slice none 0 0), size := 1, bytes := 24 } :=
 ⟨by kernel_rfl, by kernel_rfl, fun h => (by cases h), fun fs h => (by cases h)⟩
theorem row158 : OkRow Tryz.prog T 158 { desc := .func #[219] #[] false, zero := .nilFunc, size := 1, bytes := 8 } :=
 ⟨by kernel_rfl, by kernel_rfl, fun h => (by cases h), fun fs h => (by cases h)⟩
theorem row161 : OkRow Tryz.prog T 161 { desc := .struct #[{ name := "x", type := 53, offset := 0, embedded := false, tag := "", pkgPath := "tidegate/minimize", byteOffset := 0 }, { name := "p", type := 3, offset := 2, embedded := false, tag := "", pkgPath := "tidegate/minimize", byteOffset := 16 }, { name := "q", type := 3, offset := 3, embedded := false, tag := "", pkgPath := "tidegate/minimize", byteOffset := 24 }], zero := (.agg #[(.int .i64 0), (.int .i64 0), (.int .i64 0), (.int .i64 0)]), size := 4, bytes := 32, eqv := true } :=
 ⟨by kernel_rfl, by kernel_rfl, fun _ => ⟨by kernel_rfl, by kernel_rfl⟩, fun fs h => (by cases h; kernel_rfl)⟩
theorem row165 : OkRow Tryz.prog T 165 { desc := .map 3 4, zero := (.map none), size := 1, bytes := 8 } :=
 ⟨by kernel_rfl, by kernel_rfl, fun h => (by cases h), fun fs h => (by cases h)⟩
theorem row167 : OkRow Tryz.prog T 167 { desc := .func #[105] #[] false, zero := .nilFunc, size := 1, bytes := 8 } :=
 ⟨by kernel_rfl, by kernel_rfl, fun h => (by cases h), fun fs h => (by cases h)⟩
theorem row170 : OkRow Tryz.prog T 170 { desc := .func #[171] #[4] false, zero := .nilFunc, size := 1, bytes := 8 } :=
 ⟨by kernel_rfl, by kernel_rfl, fun h => (by cases h), fun fs h => (by cases h)⟩
theorem row171 : OkRow Tryz.prog T 171 { desc := .slice 187, zero := (.slice none 0 0), size := 1, bytes := 24 } :=
 ⟨by kernel_rfl, by kernel_rfl, fun h => (by cases h), fun fs h => (by cases h)⟩
theorem row187 : OkRow Tryz.prog T 187 { desc := .struct #[{ name := "Low", type := 3, offset := 0, embedded := false, tag := "", pkgPath := "", byteOffset := 0 }, { name := "High", type := 3, offset := 1, embedded := false, tag := "", pkgPath := "", byteOffset := 8 }], zero := (.agg #[(.int .i64 0), (.int .i64 0)]), size := 2, bytes := 16, eqv := true } :=
 ⟨by kernel_rfl, by kernel_rfl, fun _ => ⟨by kernel_rfl, by kernel_rfl⟩, fun fs h => (by cases h; kernel_rfl)⟩
theorem row191 : OkRow Tryz.prog T 191 { desc := .func #[171, 171] #[4] false, zero := .nilFunc, size := 1, bytes := 8 } :=
 ⟨by kernel_rfl, by kernel_rfl, fun h => (by cases h), fun fs h => (by cases h)⟩
theorem row192 : OkRow Tryz.prog T 192 { desc := .map 3 3, zero := (.map none), size := 1, bytes := 8 } :=
 ⟨by kernel_rfl, by kernel_rfl, fun h => (by cases h), fun fs h => (by cases h)⟩
theorem row199 : OkRow Tryz.prog T 199 { desc := .func #[3, 3] #[4] false, zero := .nilFunc, size := 1, bytes := 8 } :=
 ⟨by kernel_rfl, by kernel_rfl, fun h => (by cases h), fun fs h => (by cases h)⟩
theorem row200 : OkRow Tryz.prog T 200 { desc := .slice 135, zero := (.slice none 0 0), size := 1, bytes := 24 } :=
 ⟨by kernel_rfl, by kernel_rfl, fun h => (by cases h), fun fs h => (by cases h)⟩
theorem row204 : OkRow Tryz.prog T 204 { desc := .struct #[{ name := "p", type := 3, offset := 0, embedded := false, tag := "", pkgPath := "tidegate/tidegateref30", byteOffset := 0 }, { name := "q", type := 3, offset := 1, embedded := false, tag := "", pkgPath := "tidegate/tidegateref30", byteOffset := 8 }, { name := "word", type := 45, offset := 2, embedded := false, tag := "", pkgPath := "tidegate/tidegateref30", byteOffset := 16 }], zero := (.agg #[(.int .i64 0), (.int .i64 0), (.slice none 0 0)]), size := 3, bytes := 40 } :=
 ⟨by kernel_rfl, by kernel_rfl, fun h => (by cases h), fun fs h => (by cases h; kernel_rfl)⟩
theorem row205 : OkRow Tryz.prog T 205 { desc := .slice 204, zero := (.slice none 0 0), size := 1, bytes := 24 } :=
 ⟨by kernel_rfl, by kernel_rfl, fun h => (by cases h), fun fs h => (by cases h)⟩
theorem row210 : OkRow Tryz.prog T 210 { desc := .func #[3] #[171, 29] false, zero := .nilFunc, size := 1, bytes := 8 } :=
 ⟨by kernel_rfl, by kernel_rfl, fun h => (by cases h), fun fs h => (by cases h)⟩
theorem row213 : OkRow Tryz.prog T 213 { desc := .int .u64, zero := (.int .u64 0), size := 1, bytes := 8 } :=
 ⟨by kernel_rfl, by kernel_rfl, fun h => (by cases h), fun fs h => (by cases h)⟩
theorem row229 : OkRow Tryz.prog T 229 { desc := .func #[254] #[] false, zero := .nilFunc, size := 1, bytes := 8 } :=
 ⟨by kernel_rfl, by kernel_rfl, fun h => (by cases h), fun fs h => (by cases h)⟩
theorem row234 : OkRow Tryz.prog T 234 { desc := .slice 5, zero := (.slice none 0 0), size := 1, bytes := 24 } :=
 ⟨by kernel_rfl, by kernel_rfl, fun h => (by cases h), fun fs h => (by cases h)⟩
theorem row238 : OkRow Tryz.prog T 238 { desc := .func #[187, 187] #[3] false, zero := .nilFunc, size := 1, bytes := 8 } :=
 ⟨by kernel_rfl, by kernel_rfl, fun h => (by cases h), fun fs h => (by cases h)⟩
theorem row241 : OkRow Tryz.prog T 241 { desc := .map 3 91, zero := (.map none), size := 1, bytes := 8 } :=
 ⟨by kernel_rfl, by kernel_rfl, fun h => (by cases h), fun fs h => (by cases h)⟩
theorem row243 : OkRow Tryz.prog T 243 { desc := .func #[78, 78] #[3] false, zero := .nilFunc, size := 1, bytes := 8 } :=
 ⟨by kernel_rfl, by kernel_rfl, fun h => (by cases h), fun fs h => (by cases h)⟩
theorem row247 : OkRow Tryz.prog T 247 { desc := .int .u32, zero := (.int .u32 0), size := 1, bytes := 4 } :=
 ⟨by kernel_rfl, by kernel_rfl, fun h => (by cases h), fun fs h => (by cases h)⟩
theorem row250 : OkRow Tryz.prog T 250 { desc := .int .u64, zero := (.int .u64 0), size := 1, bytes := 8 } :=
 ⟨by kernel_rfl, by kernel_rfl, fun h => (by cases h), fun fs h => (by cases h)⟩
theorem row260 : OkRow Tryz.prog T 260 { desc := .func #[187, 3] #[3] false, zero := .nilFunc, size := 1, bytes := 8 } :=
 ⟨by kernel_rfl, by kernel_rfl, fun h => (by cases h), fun fs h => (by cases h)⟩
theorem row262 : OkRow Tryz.prog T 262 { desc := .int .i64, zero := (.int .i64 0), size := 1, bytes := 8 } :=
 ⟨by kernel_rfl, by kernel_rfl, fun h => (by cases h), fun fs h => (by cases h)⟩
theorem row281 : OkRow Tryz.prog T 281 { desc := .int .u64, zero := (.int .u64 0), size := 1, bytes := 8 } :=
 ⟨by kernel_rfl, by kernel_rfl, fun h => (by cases h), fun fs h => (by cases h)⟩
theorem row285 : OkRow Tryz.prog T 285 { desc := .pointer 3, zero := (.pointer none), size := 1, bytes := 8 } :=
 ⟨by kernel_rfl, by kernel_rfl, fun h => (by cases h), fun fs h => (by cases h)⟩
theorem row288 : OkRow Tryz.prog T 288 { desc := .array 24 5, zero := (.agg #[(.int .u8 0), (.int .u8 0), (.int .u8 0), (.int .u8 0), (.int .u8 0), (.int .u8 0), (.int .u8 0), (.int .u8 0), (.int .u8 0), (.int .u8 0), (.int .u8 0), (.int .u8 0), (.int .u8 0), (.int .u8 0), (.int .u8 0), (.int .u8 0), (.int .u8 0), (.int .u8 0), (.int .u8 0), (.int .u8 0), (.int .u8 0), (.int .u8 0), (.int .u8 0), (.int .u8 0)]), size := 24, bytes := 24 } :=
 ⟨by kernel_rfl, by kernel_rfl, fun h => (by cases h), fun fs h => (by cases h)⟩
theorem row300 : OkRow Tryz.prog T 300 { desc := .array 20 250, zero := (.agg #[(.int .u64 0), (.int .u64 0), (.int .u64 0), (.int .u64 0), (.int .u64 0), (.int .u64 0), (.int .u64 0), (.int .u64 0), (.int .u64 0), (.int .u64 0), (.int .u64 0), (.int .u64 0), (.int .u64 0), (.int .u64 0), (.int .u64 0), (.int .u64 0), (.int .u64 0), (.int .u64 0), (.int .u64 0), (.int .u64 0)]), size := 20, bytes := 160 } :=
 ⟨by kernel_rfl, by kernel_rfl, fun h => (by cases h), fun fs h => (by cases h)⟩
theorem row301 : OkRow Tryz.prog T 301 { desc := .array 65 5, zero := (.agg #[(.int .u8 0), (.int .u8 0), (.int .u8 0), (.int .u8 0), (.int .u8 0), (.int .u8 0), (.int .u8 0), (.int .u8 0), (.int .u8 0), (.int .u8 0), (.int .u8 0), (.int .u8 0), (.int .u8 0), (.int .u8 0), (.int .u8 0), (.int .u8 0), (.int .u8 0), (.int .u8 0), (.int .u8 0), (.int .u8 0), (.int .u8 0), (.int .u8 0), (.int .u8 0), (.int .u8 0), (.int .u8 0), (.int .u8 0), (.int .u8 0), (.int .u8 0), (.int .u8 0), (.int .u8 0), (.int .u8 0), (.int .u8 0), (.int .u8 0), (.int .u8 0), (.int .u8 0), (.int .u8 0), (.int .u8 0), (.int .u8 0), (.int .u8 0), (.int .u8 0), (.int .u8 0), (.int .u8 0), (.int .u8 0), (.int .u8 0), (.int .u8 0), (.int .u8 0), (.int .u8 0), (.int .u8 0), (.int .u8 0), (.int .u8 0), (.int .u8 0), (.int .u8 0), (.int .u8 0), (.int .u8 0), (.int .u8 0), (.int .u8 0), (.int .u8 0), (.int .u8 0), (.int .u8 0), (.int .u8 0), (.int .u8 0), (.int .u8 0), (.int .u8 0), (.int .u8 0), (.int .u8 0)]), size := 65, bytes := 65 } :=
 ⟨by kernel_rfl, by kernel_rfl, fun h => (by cases h), fun fs h => (by cases h)⟩
theorem row304 : OkRow Tryz.prog T 304 { desc := .array 32 5, zero := (.agg #[(.int .u8 0), (.int .u8 0), (.int .u8 0), (.int .u8 0), (.int .u8 0), (.int .u8 0), (.int .u8 0), (.int .u8 0), (.int .u8 0), (.int .u8 0), (.int .u8 0), (.int .u8 0), (.int .u8 0), (.int .u8 0), (.int .u8 0), (.int .u8 0), (.int .u8 0), (.int .u8 0), (.int .u8 0), (.int .u8 0), (.int .u8 0), (.int .u8 0), (.int .u8 0), (.int .u8 0), (.int .u8 0), (.int .u8 0), (.int .u8 0), (.int .u8 0), (.int .u8 0), (.int .u8 0), (.int .u8 0), (.int .u8 0)]), size := 32, bytes := 32 } :=
 ⟨by kernel_rfl, by kernel_rfl, fun h => (by cases h), fun fs h => (by cases h)⟩
theorem row305 : OkRow Tryz.prog T 305 { desc := .array 64 5, zero := (.agg #[(.int .u8 0), (.int .u8 0), (.int .u8 0), (.int .u8 0), (.int .u8 0), (.int .u8 0), (.int .u8 0), (.int .u8 0), (.int .u8 0), (.int .u8 0), (.int .u8 0), (.int .u8 0), (.int .u8 0), (.int .u8 0), (.int .u8 0), (.int .u8 0), (.int .u8 0), (.int .u8 0), (.int .u8 0), (.int .u8 0), (.int .u8 0), (.int .u8 0), (.int .u8 0), (.int .u8 0), (.int .u8 0), (.int .u8 0), (.int .u8 0), (.int .u8 0), (.int .u8 0), (.int .u8 0), (.int .u8 0), (.int .u8 0), (.int .u8 0), (.int .u8 0), (.int .u8 0), (.int .u8 0), (.int .u8 0), (.int .u8 0), (.int .u8 0), (.int .u8 0), (.int .u8 0), (.int .u8 0), (.int .u8 0), (.int .u8 0), (.int .u8 0), (.int .u8 0), (.int .u8 0), (.int .u8 0), (.int .u8 0), (.int .u8 0), (.int .u8 0), (.int .u8 0), (.int .u8 0), (.int .u8 0), (.int .u8 0), (.int .u8 0), (.int .u8 0), (.int .u8 0), (.int .u8 0), (.int .u8 0), (.int .u8 0), (.int .u8 0), (.int .u8 0), (.int .u8 0)]), size := 64, bytes := 64 } :=
 ⟨by kernel_rfl, by kernel_rfl, fun h => (by cases h), fun fs h => (by cases h)⟩
theorem tOk : TOk Tryz.prog T := fun t i h => by
 have hm := look_mem h
 simp only [T, List.mem_cons, List.not_mem_nil, or_false, Prod.mk.injEq] at hm
 rcases hm with ⟨rfl, rfl⟩ | ⟨rfl, rfl⟩ | ⟨rfl, rfl⟩ | ⟨rfl, rfl⟩ | ⟨rfl, rfl⟩ | ⟨rfl, rfl⟩ | ⟨rfl, rfl⟩ | ⟨rfl, rfl⟩ | ⟨rfl, rfl⟩ | ⟨rfl, rfl⟩ | ⟨rfl, rfl⟩ | ⟨rfl, rfl⟩ | ⟨rfl, rfl⟩ | ⟨rfl, rfl⟩ | ⟨rfl, rfl⟩ | ⟨rfl, rfl⟩ | ⟨rfl, rfl⟩ | ⟨rfl, rfl⟩ | ⟨rfl, rfl⟩ | ⟨rfl, rfl⟩ | ⟨rfl, rfl⟩ | ⟨rfl, rfl⟩ | ⟨rfl, rfl⟩ | ⟨rfl, rfl⟩ | ⟨rfl, rfl⟩ | ⟨rfl, rfl⟩ | ⟨rfl, rfl⟩ | ⟨rfl, rfl⟩ | ⟨rfl, rfl⟩ | ⟨rfl, rfl⟩ | ⟨rfl, rfl⟩ | ⟨rfl, rfl⟩ | ⟨rfl, rfl⟩ | ⟨rfl, rfl⟩ | ⟨rfl, rfl⟩ | ⟨rfl, rfl⟩ | ⟨rfl, rfl⟩ | ⟨rfl, rfl⟩ | ⟨rfl, rfl⟩ | ⟨rfl, rfl⟩ | ⟨rfl, rfl⟩ | ⟨rfl, rfl⟩ | ⟨rfl, rfl⟩ | ⟨rfl, rfl⟩ | ⟨rfl, rfl⟩ | ⟨rfl, rfl⟩ | ⟨rfl, rfl⟩ | ⟨rfl, rfl⟩ | ⟨rfl, rfl⟩ | ⟨rfl, rfl⟩ | ⟨rfl, rfl⟩ | ⟨rfl, rfl⟩ | ⟨rfl, rfl⟩ | ⟨rfl, rfl⟩ | ⟨rfl, rfl⟩ | ⟨rfl, rfl⟩ | ⟨rfl, rfl⟩ | ⟨rfl, rfl⟩ | ⟨rfl, rfl⟩ | ⟨rfl, rfl⟩ | ⟨rfl, rfl⟩ | ⟨rfl, rfl⟩ | ⟨rfl, rfl⟩ | ⟨rfl, rfl⟩ | ⟨rfl, rfl⟩
 ·exact row2
 ·exact row3
 ·exact row4
 ·exact row5
 ·exact row9
 ·exact row22
 ·exact row23
 ·exact row25
 ·exact row28
 ·exact row29
 ·exact row40
 ·exact row45
 ·exact row53
 ·exact row55
 ·exact row60
 ·exact row74
 ·exact row76
 ·exact row78
 ·exact row84
 ·exact row86
 ·exact row88
 ·exact row91
 ·exact row92
 ·exact row94
 ·exact row99
 ·exact row101
 ·exact row105
 ·exact row123
 ·exact row125
 ·exact row132
 ·exact row135
 ·exact row144
 ·exact row147
 ·exact row154
 ·exact row158
 ·exact row161
 ·exact row165
 ·exact row167
 ·exact row170
 ·exact row171
 ·exact row187
 ·exact row191
 ·exact row192
 ·exact row199
 ·exact row200
 ·exact row204
 ·exact row205
 ·exact row210
 ·exact row213
 ·exact row229
 ·exact row234
 ·exact row238
 ·exact row241
 ·exact row243
 ·exact row247
 ·exact row250
 ·exact row260
 ·exact row262
 ·exact row281
 ·exact row285
 ·exact row288
 ·exact row300
 ·exact row301
 ·exact row304
 ·exact row305
theorem T2 : look T 2 = some { desc := .int .i64, zero := (.int .i64 0), size := 1, bytes := 8 } := rfl
theorem T3 : look T 3 = some { desc := .int .i64, zero := (.int .i64 0), size := 1, bytes := 8 } := rfl
theorem T4 : look T 4 = some { desc := .bool, zero := (.bool false), size := 1, bytes := 1 } := rfl
theorem T5 : look T 5 = some { desc := .int .u8, zero := (.int .u8 0), size := 1, bytes := 1 } := rfl
theorem T9 : look T 9 = some { desc := .string, zero := (.string ⟨#[]⟩), size := 1, bytes := 16 } := rfl
theorem T22 : look T 22 = some { desc := .slice 4, zero := (.slice none 0 0), size := 1, bytes := 24 } := rfl
theorem T23 : look T 23 = some { desc := .slice 78, zero := (.slice none 0 0), size := 1, bytes := 24 } := rfl
theorem T25 : look T 25 = some { desc := .struct #[{ name := "Types", type := 3, offset := 0, embedded := false, tag := "", pkgPath := "", byteOffset := 0 }, { name := "Finals", type := 22, offset := 1, embedded := false, tag := "", pkgPath := "", byteOffset := 8 }, { name := "Moves", type := 23, offset := 2, embedded := false, tag := "", pkgPath := "", byteOffset := 32 }], zero := (.agg #[(.int .i64 0), (.slice none 0 0), (.slice none 0 0)]), size := 3, bytes := 56 } := rfl
theorem T28 : look T 28 = some { desc := .slice 40, zero := (.slice none 0 0), size := 1, bytes := 24 } := rfl
theorem T29 : look T 29 = some { desc := .int .i64, zero := (.int .i64 0), size := 1, bytes := 8 } := rfl
theorem T40 : look T 40 = some { desc := .slice 3, zero := (.slice none 0 0), size := 1, bytes := 24 } := rfl
theorem T45 : look T 45 = some { desc := .slice 53, zero := (.slice none 0 0), size := 1, bytes := 24 } := rfl
theorem T53 : look T 53 = some { desc := .struct #[{ name := "Type", type := 3, offset := 0, embedded := false, tag := "", pkgPath := "", byteOffset := 0 }, { name := "Num", type := 3, offset := 1, embedded := false, tag := "", pkgPath := "", byteOffset := 8 }], zero := (.agg #[(.int .i64 0), (.int .i64 0)]), size := 2, bytes := 16, eqv := true } := rfl
theorem T74 : look T 74 = some { desc := .slice 171, zero := (.slice none 0 0), size := 1, bytes := 24 } := rfl
theorem T76 : look T 76 = some { desc := .struct #[{ name := "Sets", type := 74, offset := 0, embedded := false, tag := "", pkgPath := "", byteOffset := 0 }], zero := (.agg #[(.slice none 0 0)]), size := 1, bytes := 24 } := rfl
theorem T78 : look T 78 = some { desc := .struct #[{ name := "From", type := 3, offset := 0, embedded := false, tag := "", pkgPath := "", byteOffset := 0 }, { name := "To", type := 3, offset := 1, embedded := false, tag := "", pkgPath := "", byteOffset := 8 }, { name := "On", type := 76, offset := 2, embedded := false, tag := "", pkgPath := "", byteOffset := 16 }], zero := (.agg #[(.int .i64 0), (.int .i64 0), (.slice none 0 0)]), size := 3, bytes := 40 } := rfl
theorem T84 : look T 84 = some { desc := .struct #[{ name := "l", type := 45, offset := 0, embedded := false, tag := "", pkgPath := "tidegate/tidegatelaw29", byteOffset := 0 }, { name := "ok", type := 4, offset := 1, embedded := false, tag := "", pkgPath := "tidegate/tidegatelaw29", byteOffset := 24 }], zero := (.agg #[(.slice none 0 0), (.bool false)]), size := 2, bytes := 32 } := rfl
theorem T86 : look T 86 = some { desc := .slice 84, zero := (.slice none 0 0), size := 1, bytes := 24 } := rfl
theorem T88 : look T 88 = some { desc := .pointer 94, zero := (.pointer none), size := 1, bytes := 8 } := rfl
theorem T91 : look T 91 = some { desc := .slice 76, zero := (.slice none 0 0), size := 1, bytes := 24 } := rfl
theorem T92 : look T 92 = some { desc := .map 9 3, zero := (.map none), size := 1, bytes := 8 } := rfl
theorem T94 : look T 94 = some { desc := .struct #[{ name := "a", type := 25, offset := 0, embedded := false, tag := "", pkgPath := "tidegate/determinize", byteOffset := 0 }, { name := "classes", type := 91, offset := 3, embedded := false, tag := "", pkgPath := "tidegate/determinize", byteOffset := 56 }, { name := "sets", type := 28, offset := 4, embedded := false, tag := "", pkgPath := "tidegate/determinize", byteOffset := 80 }, { name := "number", type := 92, offset := 5, embedded := false, tag := "", pkgPath := "tidegate/determinize", byteOffset := 104 }], zero := (.agg #[(.int .i64 0), (.slice none 0 0), (.slice none 0 0), (.slice none 0 0), (.slice none 0 0), (.map none)]), size := 6, bytes := 112 } := rfl
theorem T165 : look T 165 = some { desc := .map 3 4, zero := (.map none), size := 1, bytes := 8 } := rfl
theorem T171 : look T 171 = some { desc := .slice 187, zero := (.slice none 0 0), size := 1, bytes := 24 } := rfl
theorem T187 : look T 187 = some { desc := .struct #[{ name := "Low", type := 3, offset := 0, embedded := false, tag := "", pkgPath := "", byteOffset := 0 }, { name := "High", type := 3, offset := 1, embedded := false, tag := "", pkgPath := "", byteOffset := 8 }], zero := (.agg #[(.int .i64 0), (.int .i64 0)]), size := 2, bytes := 16, eqv := true } := rfl
theorem T234 : look T 234 = some { desc := .slice 5, zero := (.slice none 0 0), size := 1, bytes := 24 } := rfl
theorem T247 : look T 247 = some { desc := .int .u32, zero := (.int .u32 0), size := 1, bytes := 4 } := rfl
theorem T250 : look T 250 = some { desc := .int .u64, zero := (.int .u64 0), size := 1, bytes := 8 } := rfl
theorem mixed : Tryz.prog.follows .mixedOrders = true := by kernel_rfl
end Go.Abs
set_option maxRecDepth 100000
namespace Go.Abs
open Go Go.Proofs
def pow10Cells : List Value := Lib.pow10Tab.map fun z => Value.int .u64 z
def someInt (cs : List Value) : Prop := ∃ m, cs = [.int .i64 m]
def someErr (cs : List Value) : Prop := ∃ ev, cs = [ev] ∧ (ev = .nilIface ∨ ∃ te pe, ev = .iface te pe)
noncomputable instance env : Env Tryz.prog := ⟨[(0, (· = pow10Cells))]⟩
theorem pow10_tab {w : World} {I : Nat → Prop} (h : EOK Tryz.prog w I) : Lib.TabIs Tryz.prog w "internal/strconv.uint64pow10" .u64 Lib.pow10Tab := by
 obtain ⟨_, _, t, fr, rfl, hb⟩ := h 0 (· = pow10Cells) (by first | exact List.mem_singleton.2 rfl | exact List.mem_cons_self)
 unfold Lib.TabIs World.var?
 rw [show Tryz.prog.globalNamed "internal/strconv.uint64pow10" = some 0 by kernel_rfl]
 simp only [Option.bind_some, hb]
 rfl
end Go.Abs
set_option maxRecDepth 100000
namespace Go.Abs
open Go Go.Proofs
set_option linter.unusedSimpArgs false
attribute [simp] T3 T4 T5 T9 T234 T29 T247 T2 T250
theorem ite_t {α : Type} {c : Bool} {a b : α} (h : c = true) : (if c = true then a else b) = a := by rw [if_pos h]
theorem ite_f {α : Type} {c : Bool} {a b : α} (h : c = false) : (if c = true then a else b) = b := by rw [if_neg (by rw [h]; decide)]
@[simp] def encI (n : Int) : AV := .int .i64 n
abbrev AV.i (n : Int) : AV := .int .i64 n
abbrev W (n : Int) : Int := IntKind.i64.wrap n
theorem wrap_i64 (n : Int) (h1 : -9223372036854775808 ≤ n) (h2 : n ≤ 9223372036854775807) : IntKind.i64.wrap n = n := by
 rw [IntKind.wrap_i64]; omega
theorem wrap_one : IntKind.i64.wrap 1 = 1 := wrap_i64 _ (by omega) (by omega)
end Go.Abs
set_option maxRecDepth 100000
namespace Go.Abs
open Go Go.Proofs
set_option linter.unusedSimpArgs false
attribute [simp] T187 T171
structure Iv where
 lo : Int
 hi : Int
deriving Inhabited, DecidableEq
@[simp] def encIv (v : Iv) : AV := .agg [.int .i64 v.lo, .int .i64 v.hi]
abbrev LIv (l : List Iv) : AV := .list (l.map encIv)
def inB (n : Int) : Bool := decide (-1099511627776 ≤ n) && decide (n ≤ 1099511627776)
def oneR (x : Iv) : Int := if (!inB x.lo || !inB x.hi) = true then 2 else if decide (x.hi < x.lo) = true then 3 else 0
theorem inB_or (a b : Int) : (decide (a < -1099511627776) || decide (1099511627776 < a) || decide (b < -1099511627776) || decide (1099511627776 < b)) = (!inB a || !inB b) := by
 unfold inB
 rw [Bool.eq_iff_iff]
 simp
 omega
theorem inB_iff (a : Int) : inB a = true ↔ -1099511627776 ≤ a ∧ a ≤ 1099511627776 := by simp [inB]
theorem pc_formed (x : Iv) : PC Tryz.prog 189 [encIv x] (fun r => r = .i (oneR x)) := by
 refine PC_body tOk Tryz.func189 rfl Tryz.results189 rfl (by simp [Tryz.ntmps189]) ?_
 rw [Tryz.ntmps189]
 simp only [argSlots]
 simp only [encIv]
 repeat first|((first|refine qa tOk rfl ?_|refine qb tOk rfl ?_|refine qh rfl ?_);simp)|refine qf ?_|refine qg ?_
 rw [inB_or]
 refine AWP_cond2 rfl (fun h => ?_) (fun h => ?_)
 ·repeat first|((first|refine qa tOk rfl ?_|refine qb tOk rfl ?_|refine qh rfl ?_);simp)|refine qf ?_|refine qg ?_
  rw [oneR, ite_t h]
 repeat first|((first|refine qa tOk rfl ?_|refine qb tOk rfl ?_|refine qh rfl ?_);simp)|refine qf ?_|refine qg ?_
 refine AWP_cond2 rfl (fun h1 => ?_) (fun h1 => ?_)
 ·repeat first|((first|refine qa tOk rfl ?_|refine qb tOk rfl ?_|refine qh rfl ?_);simp)|refine qf ?_|refine qg ?_
  rw [oneR, ite_f h, ite_t h1]
 repeat first|((first|refine qa tOk rfl ?_|refine qb tOk rfl ?_|refine qh rfl ?_);simp)|refine qf ?_|refine qg ?_
 rw [oneR, ite_f h, ite_f h1]
theorem pc_rIn (n : Int) : PC Tryz.prog 206 [.i n] (fun r => r = .bool (inB n)) := by
 refine PC_body tOk Tryz.func206 rfl Tryz.results206 rfl (by simp [Tryz.ntmps206]) ?_
 rw [Tryz.ntmps206]
 simp only [argSlots]
 repeat first|((first|refine qa tOk rfl ?_|refine qb tOk rfl ?_|refine qh rfl ?_);simp)|refine qf ?_|refine qg ?_
 rfl
attribute [local irreducible] inB
theorem pc_rOne (x : Iv) : PC Tryz.prog 196 [encIv x] (fun r => r = .i (oneR x)) := by
 refine PC_body tOk Tryz.func196 rfl Tryz.results196 rfl (by simp [Tryz.ntmps196]) ?_
 rw [Tryz.ntmps196]
 simp only [argSlots]
 simp only [encIv]
 repeat first|((first|refine qa tOk rfl ?_|refine qb tOk rfl ?_|refine qh rfl ?_);simp)|refine qf ?_|refine qg ?_
 cases hp : inB x.lo with
 | false =>
  refine AStep_PC rfl rfl (by simp) (pc_rIn x.lo) rfl ?_
  rintro _ rfl
  simp [hp]
  refine AStep_skip rfl rfl ?_
  simp
  refine AWP_cond rfl ?_
  repeat first|((first|refine qa tOk rfl ?_|refine qb tOk rfl ?_|refine qh rfl ?_);simp)|refine qf ?_|refine qg ?_
  rw [oneR, ite_t (by rw [hp]; rfl)]
 | true =>
  refine AStep_PC rfl rfl (by simp) (pc_rIn x.lo) rfl ?_
  rintro _ rfl
  simp [hp]
  refine AStep_PC rfl rfl (by simp) (pc_rIn x.hi) rfl ?_
  rintro _ rfl
  simp
  have he : (!inB x.lo || !inB x.hi) = !inB x.hi := by rw [hp]; rfl
  refine AWP_cond2 rfl (fun h => ?_) (fun h => ?_)
  ·repeat first|((first|refine qa tOk rfl ?_|refine qb tOk rfl ?_|refine qh rfl ?_);simp)|refine qf ?_|refine qg ?_
   rw [oneR, he, ite_t h]
  repeat first|((first|refine qa tOk rfl ?_|refine qb tOk rfl ?_|refine qh rfl ?_);simp)|refine qf ?_|refine qg ?_
  refine AWP_cond2 rfl (fun h1 => ?_) (fun h1 => ?_)
  ·repeat first|((first|refine qa tOk rfl ?_|refine qb tOk rfl ?_|refine qh rfl ?_);simp)|refine qf ?_|refine qg ?_
   rw [oneR, he, ite_f h, ite_t h1]
  repeat first|((first|refine qa tOk rfl ?_|refine qb tOk rfl ?_|refine qh rfl ?_);simp)|refine qf ?_|refine qg ?_
  rw [oneR, he, ite_f h, ite_f h1]
def gapB (l : List Iv) (j : Nat) (x : Iv) : Bool := decide (0 < j) && (match l[j - 1]? with | some y => decide (x.lo < W (y.hi + 2)) | none => false)
def ckFrom (l : List Iv) : Nat → List Iv → Int
 | _, [] => 0
 | j, x :: r => if (oneR x != 0) = true then oneR x else if gapB l j x = true then 14 else ckFrom l (j + 1) r
def ckR (l : List Iv) : Int := if decide ((256 : Int) < l.length) = true then 5 else ckFrom l 0 l
attribute [local irreducible] oneR
theorem drop_get {α : Type} {l : List α} {j : Nat} (h : j < l.length) : l.drop j = l[j] :: l.drop (j + 1) := List.drop_eq_getElem_cons h
set_option maxHeartbeats 1000000 in
theorem pc_Check (l : List Iv) : PC Tryz.prog 140 [LIv l] (fun r => r = .i (ckR l)) := by
 refine PC_body tOk Tryz.func140 rfl Tryz.results140 rfl (by simp [Tryz.ntmps140]) ?_
 rw [Tryz.ntmps140]
 simp only [argSlots]
 refine AWP_len 0 rfl (fun hlen => ?_)
 rw [List.length_map] at hlen
 repeat first|((first|refine qa tOk rfl ?_|refine qb tOk rfl ?_|refine qh rfl ?_);simp)|refine qf ?_|refine qg ?_
 refine AWP_cond2 rfl (fun h => ?_) (fun h => ?_)
 ·repeat first|((first|refine qa tOk rfl ?_|refine qb tOk rfl ?_|refine qh rfl ?_);simp)|refine qf ?_|refine qg ?_
  rw [ckR, ite_t h]
 repeat first|((first|refine qa tOk rfl ?_|refine qb tOk rfl ?_|refine qh rfl ?_);simp)|refine qf ?_|refine qg ?_
 refine AWP_countI l.length (fun j => ckFrom l 0 l = ckFrom l j (l.drop j)) (fun j => [(0, LIv l), (9, LIv l), (10, .i l.length), (11, .i j)]) (fun _ => []) rfl (by simp) (by simp) (by simp) (by simp) (by simp) ?_
 intro j hj hI ih
 repeat first|((first|refine qa tOk rfl ?_|refine qb tOk rfl ?_|refine qh rfl ?_);simp)|refine qf ?_|refine qg ?_
 refine AWP_cond2 rfl (fun hlt => ?_) (fun hge => ?_)
 ·have hlt' : j < l.length := by simpa using hlt
  have hw : IntKind.i64.wrap ((j : Int) + 1) = j + 1 := wrap_i64 _ (by omega) (by omega)
  rw [drop_get hlt', ckFrom] at hI
  repeat first|((first|refine qa tOk rfl ?_|refine qb tOk rfl ?_|refine qh rfl ?_);simp [hlt'])|refine qf ?_|refine qg ?_
  refine AStep_PC rfl rfl (by simp) (pc_formed l[j]) rfl ?_
  rintro _ rfl
  simp
  repeat first|((first|refine qa tOk rfl ?_|refine qb tOk rfl ?_|refine qh rfl ?_);simp)|refine qf ?_|refine qg ?_
  refine AWP_cond2 rfl (fun h2 => ?_) (fun h2 => ?_)
  ·repeat first|((first|refine qa tOk rfl ?_|refine qb tOk rfl ?_|refine qh rfl ?_);simp)|refine qf ?_|refine qg ?_
   rw [ckR, ite_f h, hI, ite_t h2]
  rw [ite_f h2] at hI
  repeat first|((first|refine qa tOk rfl ?_|refine qb tOk rfl ?_|refine qh rfl ?_);simp)|refine qf ?_|refine qg ?_
  rcases j with _ | j
  ·refine AWP_drawT tOk mixed [] (.val 0 (.val 1 (.val 2 (.val 3 (.val 4 (.val 5 (.val 6 (.val 7 (.val 8 (.val 9 (.val 10 (.val 11 (.val 12 (.val 13 (.done))))))))))))))) rfl (by kernel_rfl) ?_
   simp [hlt']
   refine AWP_cond rfl ?_
   repeat first|((first|refine qa tOk rfl ?_|refine qb tOk rfl ?_|refine qh rfl ?_);simp [hw])|refine qf ?_|refine qg ?_
   refine ALoop_end _ (ih hlt' ?_) rfl (by simp) ?_ (by simp) (by simp)
   ·rw [hI, ite_f (by simp [gapB])]
   ·simp [wrap_one]
  ·have hj1 : j < l.length := by omega
   have hgp : gapB l (j + 1) l[j + 1] = decide (l[j + 1].lo < W (l[j].hi + 2)) := by simp [gapB, hj1]
   have hw2 : IntKind.i64.wrap ((j : Int) + 1 - 1) = j := by rw [wrap_i64 _ (by omega) (by omega)]; omega
   have hw4 : IntKind.i64.wrap (j : Int) = j := wrap_i64 _ (by omega) (by omega)
   have hp : (0 : Int) < (j : Int) + 1 := by omega
   have hw3 : IntKind.i64.wrap ((j : Int) + 1 + 1) = j + 1 + 1 := wrap_i64 _ (by omega) (by omega)
   have ht1 : ((j : Int) + 1).toNat = j + 1 := by omega
   have hp1 : (0 : Int) ≤ (j : Int) + 1 := by omega
   have hp2 : (j : Int) + 1 < l.length := by omega
   have hp3 : (j : Int) < l.length := by omega
   refine AWP_drawT tOk mixed [] (.val 0 (.val 1 (.val 2 (.val 3 (.val 4 (.val 5 (.val 6 (.val 7 (.val 8 (.val 9 (.val 10 (.val 11 (.val 12 (.val 13 (.done))))))))))))))) rfl (by kernel_rfl) ?_
   simp [hlt', hj1, hw2, hw4, hp, ht1, hp1, hp2, hp3]
   refine AWP_cond2 rfl (fun h3 => ?_) (fun h3 => ?_)
   ·repeat first|((first|refine qa tOk rfl ?_|refine qb tOk rfl ?_|refine qh rfl ?_);simp)|refine qf ?_|refine qg ?_
    rw [ckR, ite_f h, hI, ite_t (by rw [hgp]; exact h3)]
   ·rw [ite_f (by rw [hgp]; exact h3)] at hI
    repeat first|((first|refine qa tOk rfl ?_|refine qb tOk rfl ?_|refine qh rfl ?_);simp [hw3])|refine qf ?_|refine qg ?_
    refine ALoop_end _ (ih hlt' hI) rfl (by simp) ?_ (by simp) (by simp)
    simp
 ·have hge' : j = l.length := by simp at hge; omega
  subst hge'
  repeat first|((first|refine qa tOk rfl ?_|refine qb tOk rfl ?_|refine qh rfl ?_);simp)|refine qf ?_|refine qg ?_
  rw [ckR, ite_f h, hI, List.drop_length]; rfl
set_option maxHeartbeats 1000000 in
theorem pc_rCheck (l : List Iv) : PC Tryz.prog 171 [LIv l] (fun r => r = .i (ckR l)) := by
 refine PC_body tOk Tryz.func171 rfl Tryz.results171 rfl (by simp [Tryz.ntmps171]) ?_
 rw [Tryz.ntmps171]
 simp only [argSlots]
 refine AWP_len 0 rfl (fun hlen => ?_)
 rw [List.length_map] at hlen
 repeat first|((first|refine qa tOk rfl ?_|refine qb tOk rfl ?_|refine qh rfl ?_);simp)|refine qf ?_|refine qg ?_
 refine AWP_cond2 rfl (fun h => ?_) (fun h => ?_)
 ·repeat first|((first|refine qa tOk rfl ?_|refine qb tOk rfl ?_|refine qh rfl ?_);simp)|refine qf ?_|refine qg ?_
  rw [ckR, ite_t h]
 repeat first|((first|refine qa tOk rfl ?_|refine qb tOk rfl ?_|refine qh rfl ?_);simp)|refine qf ?_|refine qg ?_
 refine AWP_countI l.length (fun j => ckFrom l 0 l = ckFrom l j (l.drop j)) (fun j => [(0, LIv l), (3, .i j)]) (fun _ => []) rfl (by simp) (by simp) (by simp) (by simp) (by simp) ?_
 intro j hj hI ih
 repeat first|((first|refine qa tOk rfl ?_|refine qb tOk rfl ?_|refine qh rfl ?_);simp)|refine qf ?_|refine qg ?_
 refine AWP_cond2 rfl (fun hlt => ?_) (fun hge => ?_)
 ·have hlt' : j < l.length := by simpa using hlt
  have hw : IntKind.i64.wrap ((j : Int) + 1) = j + 1 := wrap_i64 _ (by omega) (by omega)
  rw [drop_get hlt', ckFrom] at hI
  repeat first|((first|refine qa tOk rfl ?_|refine qb tOk rfl ?_|refine qh rfl ?_);simp [hlt'])|refine qf ?_|refine qg ?_
  refine AStep_PC rfl rfl (by simp) (pc_rOne l[j]) rfl ?_
  rintro _ rfl
  simp
  repeat first|((first|refine qa tOk rfl ?_|refine qb tOk rfl ?_|refine qh rfl ?_);simp)|refine qf ?_|refine qg ?_
  refine AWP_cond2 rfl (fun h2 => ?_) (fun h2 => ?_)
  ·repeat first|((first|refine qa tOk rfl ?_|refine qb tOk rfl ?_|refine qh rfl ?_);simp)|refine qf ?_|refine qg ?_
   rw [ckR, ite_f h, hI, ite_t h2]
  rw [ite_f h2] at hI
  repeat first|((first|refine qa tOk rfl ?_|refine qb tOk rfl ?_|refine qh rfl ?_);simp)|refine qf ?_|refine qg ?_
  rcases j with _ | j
  ·refine AWP_drawT tOk mixed [] (.val 0 (.val 1 (.val 2 (.val 3 (.val 4 (.val 5 (.val 6 (.val 7 (.val 8 (.val 9 (.val 10 (.val 11 (.val 12 (.val 13 (.val 14 (.val 15 (.val 16 (.done)))))))))))))))))) rfl (by kernel_rfl) ?_
   simp [hlt']
   refine AWP_cond rfl ?_
   repeat first|((first|refine qa tOk rfl ?_|refine qb tOk rfl ?_|refine qh rfl ?_);simp [hw])|refine qf ?_|refine qg ?_
   refine ALoop_end _ (ih hlt' ?_) rfl (by simp) ?_ (by simp) (by simp)
   ·rw [hI, ite_f (by simp [gapB])]
   ·simp [wrap_one]
  ·have hj1 : j < l.length := by omega
   have hgp : gapB l (j + 1) l[j + 1] = decide (l[j + 1].lo < W (l[j].hi + 2)) := by simp [gapB, hj1]
   have hw2 : IntKind.i64.wrap ((j : Int) + 1 - 1) = j := by rw [wrap_i64 _ (by omega) (by omega)]; omega
   have hw4 : IntKind.i64.wrap (j : Int) = j := wrap_i64 _ (by omega) (by omega)
   have hp : (0 : Int) < (j : Int) + 1 := by omega
   have hw3 : IntKind.i64.wrap ((j : Int) + 1 + 1) = j + 1 + 1 := wrap_i64 _ (by omega) (by omega)
   have ht1 : ((j : Int) + 1).toNat = j + 1 := by omega
   have hp1 : (0 : Int) ≤ (j : Int) + 1 := by omega
   have hp2 : (j : Int) + 1 < l.length := by omega
   have hp3 : (j : Int) < l.length := by omega
   refine AWP_drawT tOk mixed [] (.val 0 (.val 1 (.val 2 (.val 3 (.val 4 (.val 5 (.val 6 (.val 7 (.val 8 (.val 9 (.val 10 (.val 11 (.val 12 (.val 13 (.val 14 (.val 15 (.val 16 (.done)))))))))))))))))) rfl (by kernel_rfl) ?_
   simp [hlt', hj1, hw2, hw4, hp, ht1, hp1, hp2, hp3]
   refine AWP_cond2 rfl (fun h3 => ?_) (fun h3 => ?_)
   ·repeat first|((first|refine qa tOk rfl ?_|refine qb tOk rfl ?_|refine qh rfl ?_);simp)|refine qf ?_|refine qg ?_
    rw [ckR, ite_f h, hI, ite_t (by rw [hgp]; exact h3)]
   ·rw [ite_f (by rw [hgp]; exact h3)] at hI
    repeat first|((first|refine qa tOk rfl ?_|refine qb tOk rfl ?_|refine qh rfl ?_);simp [hw3])|refine qf ?_|refine qg ?_
    refine ALoop_end _ (ih hlt' hI) rfl (by simp) ?_ (by simp) (by simp)
    simp
 ·have hge' : j = l.length := by simp at hge; omega
  subst hge'
  repeat first|((first|refine qa tOk rfl ?_|refine qb tOk rfl ?_|refine qh rfl ?_);simp)|refine qf ?_|refine qg ?_
  rw [ckR, ite_f h, hI, List.drop_length]; rfl
end Go.Abs
set_option maxRecDepth 100000
namespace Go.Abs
open Go Go.Proofs
set_option linter.unusedSimpArgs false
theorem get_app {H : List AObj} {i : Nat} {x : AObj} (h : H[i]? = some x) (G : List AObj) : (H ++ G)[i]? = some x := by
 rw [List.getElem?_append_left (List.getElem?_eq_some_iff.1 h).1]; exact h
theorem set_app {H : List AObj} {i : Nat} {x : AObj} (h : H[i]? = some x) (G : List AObj) (y : AObj) : (H ++ G).set i y = H.set i y ++ G :=
 List.set_append_left _ _ (List.getElem?_eq_some_iff.1 h).1
theorem get_set {H : List AObj} {i j : Nat} {x : AObj} (hne : j ≠ i) (h : H[i]? = some x) (y : AObj) : (H.set j y)[i]? = some x := by rw [List.getElem?_set_ne hne]; exact h
theorem get_self {H : List AObj} {i : Nat} {x : AObj} (h : H[i]? = some x) (y : AObj) : (H.set i y)[i]? = some y := List.getElem?_set_self (List.getElem?_eq_some_iff.1 h).1
theorem gen_FC {P : Program} [Env P] {f : Nat} {args : List AV} {H0 : List AObj} {R : AV → List AObj → Prop} (h : ∀ H1, H1 = H0 → FC P f args H1 R) : FC P f args H0 R := h _ rfl
end Go.Abs
/-
 DERIVED: THE SHELF's CONTRACTS AT THIS DUMP, IN PLAIN WORDS (tools/lay-plain.mjs out of 'TryzShelf.lean', which tools/lay-shelf.mjs wrote): THE SAME DECLARATIONS UNDER THE SAME NAMES: 'import', 'namespace', 'open', 'def', 'theorem' AND NOTHING ELSE: no command of the shelf's: FOR A HAND-IN. Each laying: the table of numbers ('.._ren') and one theorem, a field a fact of the dump's own or the kernel's comparison; each contract: ONE APPLICATION.
-/
namespace Go.Proofs
open Go.Shelf
def Tryz.sortIv_ren : Go.Shelf.Ren := ⟨fun | 6 => 179 | 15 => 199 | 14 => 201 | 28 => 216 | 29 => 217 | 20 => 219 | 21 => 220 | 22 => 221 | 23 => 222 | 24 => 223 | 25 => 224 | 26 => 225 | 27 => 226 | 46 => 244 | 47 => 236 | 48 => 237 | 49 => 245 | 50 => 246 | 57 => 255 | n => n, fun | 22 => 171 | 24 => 187 | 25 => 238 | 3 => 3 | 39 => 213 | 0 => 0 | 53 => 247 | 55 => 250 | 4 => 4 | 46 => 263 | 45 => 262 | 50 => 134 | 5 => 5 | 9 => 9 | 66 => 281 | 70 => 285 | 76 => 296 | 77 => 297 | n => n, fun | n => n⟩
theorem Tryz.sortIv : Go.Proofs.SlLaysF0.n6 Tryz.prog Tryz.sortIv_ren := {
 mixed := by kernel_rfl
 f6 := ⟨Tryz.f179.name, by decide, Tryz.func179.trans (congrArg some (by kernel_rfl))⟩
 f14 := ⟨Tryz.f201.name, by decide, Tryz.func201.trans (congrArg some (by kernel_rfl))⟩
 f15 := Tryz.func199.trans (congrArg some (by kernel_rfl))
 f20 := ⟨Tryz.f219.name, by decide, Tryz.func219.trans (congrArg some (by kernel_rfl))⟩
 f21 := ⟨Tryz.f220.name, by decide, Tryz.func220.trans (congrArg some (by kernel_rfl))⟩
 f22 := ⟨Tryz.f221.name, by decide, Tryz.func221.trans (congrArg some (by kernel_rfl))⟩
 f23 := ⟨Tryz.f222.name, by decide, Tryz.func222.trans (congrArg some (by kernel_rfl))⟩
 f24 := ⟨Tryz.f223.name, by decide, Tryz.func223.trans (congrArg some (by kernel_rfl))⟩
 f25 := ⟨Tryz.f224.name, by decide, Tryz.func224.trans (congrArg some (by kernel_rfl))⟩
 f26 := ⟨Tryz.f225.name, by decide, Tryz.func225.trans (congrArg some (by kernel_rfl))⟩
 f27 := ⟨Tryz.f226.name, by decide, Tryz.func226.trans (congrArg some (by kernel_rfl))⟩
 f28 := Tryz.func216.trans (congrArg some (by kernel_rfl))
 f29 := Tryz.func217.trans (congrArg some (by kernel_rfl))
 f46 := ⟨Tryz.f244.name, by decide, Tryz.func244.trans (congrArg some (by kernel_rfl))⟩
 f47 := Tryz.func236.trans (congrArg some (by kernel_rfl))
 f48 := Tryz.func237.trans (congrArg some (by kernel_rfl))
 f49 := ⟨Tryz.f245.name, by decide, Tryz.func245.trans (congrArg some (by kernel_rfl))⟩
 f50 := ⟨Tryz.f246.name, by decide, Tryz.func246.trans (congrArg some (by kernel_rfl))⟩
 f57 := ⟨Tryz.f255.name, by decide, Tryz.func255.trans (congrArg some (by kernel_rfl))⟩
 t0 := Tryz.underlying0
 a0 := Tryz.isAgg0
 z0 := Tryz.sizeOf0
 v0 := Tryz.zeroValue0
 t3 := Tryz.underlying3
 a3 := Tryz.isAgg3
 z3 := Tryz.sizeOf3
 v3 := Tryz.zeroValue3
 t4 := Tryz.underlying4
 a4 := Tryz.isAgg4
 z4 := Tryz.sizeOf4
 v4 := Tryz.zeroValue4
 t5 := Tryz.underlying5
 a5 := Tryz.isAgg5
 z5 := Tryz.sizeOf5
 v5 := Tryz.zeroValue5
 t9 := Tryz.underlying9
 a9 := Tryz.isAgg9
 z9 := Tryz.sizeOf9
 v9 := Tryz.zeroValue9
 t22 := Tryz.underlying171
 a22 := Tryz.isAgg171
 z22 := Tryz.sizeOf171
 v22 := Tryz.zeroValue171
 t25 := Tryz.underlying238
 a25 := Tryz.isAgg238
 z25 := Tryz.sizeOf238
 v25 := Tryz.zeroValue238
 t39 := Tryz.underlying213
 a39 := Tryz.isAgg213
 z39 := Tryz.sizeOf213
 v39 := Tryz.zeroValue213
 t45 := Tryz.underlying262
 a45 := Tryz.isAgg262
 z45 := Tryz.sizeOf262
 v45 := Tryz.zeroValue262
 t46 := Tryz.underlying263
 a46 := Tryz.isAgg263
 z46 := Tryz.sizeOf263
 v46 := Tryz.zeroValue263
 t50 := Tryz.underlying134
 a50 := Tryz.isAgg134
 z50 := Tryz.sizeOf134
 v50 := Tryz.zeroValue134
 t53 := Tryz.underlying247
 a53 := Tryz.isAgg247
 z53 := Tryz.sizeOf247
 v53 := Tryz.zeroValue247
 t55 := Tryz.underlying250
 a55 := Tryz.isAgg250
 z55 := Tryz.sizeOf250
 v55 := Tryz.zeroValue250
 t66 := Tryz.underlying281
 a66 := Tryz.isAgg281
 z66 := Tryz.sizeOf281
 v66 := Tryz.zeroValue281
 t70 := Tryz.underlying285
 a70 := Tryz.isAgg285
 z70 := Tryz.sizeOf285
 v70 := Tryz.zeroValue285
 t76 := Tryz.underlying296
 a76 := Tryz.isAgg296
 z76 := Tryz.sizeOf296
 v76 := Tryz.zeroValue296
 t77 := Tryz.underlying297
 a77 := Tryz.isAgg297
 z77 := Tryz.sizeOf297
 v77 := Tryz.zeroValue297 }
end Go.Proofs
/-
 DERIVED: THE SHELF's CONTRACTS AT THIS DUMP, IN PLAIN WORDS (tools/lay-plain.mjs out of 'TryzShelf.lean', which tools/lay-shelf.mjs wrote): THE SAME DECLARATIONS UNDER THE SAME NAMES: 'import', 'namespace', 'open', 'def', 'theorem' AND NOTHING ELSE: no command of the shelf's: FOR A HAND-IN. Each laying: the table of numbers ('.._ren') and one theorem, a field a fact of the dump's own or the kernel's comparison; each contract: ONE APPLICATION.
-/
namespace Go.Proofs
open Go.Shelf
def Tryz.laysNm220_ren : Go.Shelf.Ren := ⟨fun | 20 => 177 | n => n, fun | 22 => 40 | 3 => 3 | 4 => 4 | 0 => 0 | n => n, fun | n => n⟩
theorem Tryz.laysNm220 : Go.Proofs.Lays2.n20 Tryz.prog Tryz.laysNm220_ren := {
 mixed := by kernel_rfl
 f20 := Tryz.func177.trans (congrArg some (by kernel_rfl))
 t0 := Tryz.underlying0
 a0 := Tryz.isAgg0
 z0 := Tryz.sizeOf0
 v0 := Tryz.zeroValue0
 t3 := Tryz.underlying3
 a3 := Tryz.isAgg3
 z3 := Tryz.sizeOf3
 v3 := Tryz.zeroValue3
 t4 := Tryz.underlying4
 a4 := Tryz.isAgg4
 z4 := Tryz.sizeOf4
 v4 := Tryz.zeroValue4
 t22 := Tryz.underlying40
 a22 := Tryz.isAgg40
 z22 := Tryz.sizeOf40
 v22 := Tryz.zeroValue40
 i3 := by kernel_rfl }
open Go.RowKit Go.Lib Go.Sort in
theorem Tryz.slices_Compact_int (blk off cap : Nat) (zs : List Int) (w : World) (hH : Holds (Value.int .i64) w blk off zs.toArray) (hsz : zs.length ≤ 9223372036854775807) (hcap : zs.length ≤ cap) :
  Calls Tryz.prog 177 #[.slice (some ⟨blk, off, none⟩) zs.length cap] w fun e w' => e = .returned (.slice (some ⟨blk, off, none⟩) (Lib.compact zs).length cap) ∧ ∃ q, w' = putRow (Value.int .i64) (Sort.ahead w q) blk off (Lib.compact zs ++ List.replicate (zs.length - (Lib.compact zs).length) 0).toArray := Any.slices_Compact_int Tryz.laysNm220 blk off cap zs w hH hsz hcap
open Go.RowKit Go.Lib Go.Sort in
theorem Tryz.slices_Compact_int_empty (a : Option Addr) (cap : Nat) (w : World) :
  Calls Tryz.prog 177 #[.slice a 0 cap] w fun e w' => e = .returned (.slice a 0 cap) ∧ w' = w := Any.slices_Compact_int_empty Tryz.laysNm220 a cap w
def Tryz.laysSlC25_f181_ren : Go.Shelf.Ren := ⟨fun | 5 => 181 | 7 => 202 | n => n, fun | 22 => 3 | 3 => 3 | 4 => 4 | n => n, fun | n => n⟩
theorem Tryz.laysSlC25_f181 : Go.Proofs.SlLaysC2.n5 Tryz.prog Tryz.laysSlC25_f181_ren := {
 mixed := by kernel_rfl
 f5 := ⟨Tryz.f181.name, by decide, Tryz.func181.trans (congrArg some (by kernel_rfl))⟩
 f7 := ⟨Tryz.f202.name, by decide, Tryz.func202.trans (congrArg some (by kernel_rfl))⟩
 t3 := Tryz.underlying3
 a3 := Tryz.isAgg3
 z3 := Tryz.sizeOf3
 v3 := Tryz.zeroValue3
 t4 := Tryz.underlying4
 a4 := Tryz.isAgg4
 z4 := Tryz.sizeOf4
 v4 := Tryz.zeroValue4
 t22 := Tryz.underlying3
 a22 := Tryz.isAgg3
 z22 := Tryz.sizeOf3
 v22 := Tryz.zeroValue3 }
open Go.Lib in
theorem Tryz.cmp_Compare_int (x y : Int) (w : World) :
  Calls Tryz.prog 181 #[.int .i64 x, .int .i64 y] w fun e w' => e = .returned (.int .i64 (Lib.compareInt x y)) ∧ w' = w := AnyG.cmp_Compare_int Tryz.laysSlC25_f181 x y w
end Go.Proofs
set_option maxRecDepth 100000
namespace Go.Abs
open Go Go.Proofs Go.RowKit Go.Shelf Go.Lib Go.Sort
set_option linter.unusedSimpArgs false
def valsIv (x : Iv) : List Value := [.int .i64 x.lo, .int .i64 x.hi]
theorem ltLo (x y : Iv) : ltOf (fun x y : Iv => Lib.compareInt x.lo y.lo) x y = decide (x.lo < y.lo) := by
 unfold ltOf Lib.compareInt
 by_cases h1 : x.lo < y.lo
 ·simp [h1]
 ·by_cases h2 : y.lo < x.lo <;> simp [h1, h2]
theorem swoLo : SWO (ltOf fun x y : Iv => Lib.compareInt x.lo y.lo) where
 irrefl x := by rw [ltLo]; simp
 trans x y z h1 h2 := by rw [ltLo] at *; simp at *; omega
 ntrans x y z h1 h2 := by rw [ltLo] at *; simp at *; omega
theorem rowIv (l : List Iv) : RowOf 2 (l.map encIv) (flatK valsIv 2 l.toArray) where
 size := by simp
 width x hx := by
  obtain ⟨y, _, rfl⟩ := List.mem_map.1 hx
  rfl
 cell i x hx j y hy := by
  rw [List.getElem?_map] at hx
  obtain ⟨z, hz, rfl⟩ := Option.map_eq_some_iff.1 hx
  obtain ⟨hi, rfl⟩ := List.getElem?_eq_some_iff.1 hz
  have hj : j < 2 := (List.getElem?_eq_some_iff.1 hy).1
  rw [get_flatK _ _ _ _ (by simp; omega)]
  rw [show (i * 2 + j) / 2 = i by omega, show (i * 2 + j) % 2 = j by omega]
  rw [getElem!_pos l.toArray i (by simpa using hi)]
  match j, hj with
  | 0, _ => simp [encIv, AV.cells] at hy; subst hy; rfl
  | 1, _ => simp [encIv, AV.cells] at hy; subst hy; rfl
theorem VR.fn0 {w : World} {I : Nat → Prop} {m : Nat → Option Nat} {n g : Nat} {v : Value} (h : VR w I m n v (.fn (.func g) [] [])) : v = .func (.func g) #[] #[] := by
 cases h with
 | pure h =>
  cases h with
  | fn f vs us xs ys hl h hl' h' =>
   obtain rfl : vs = #[] := Array.size_eq_zero_iff.1 (by simpa using hl)
   obtain rfl : us = #[] := Array.size_eq_zero_iff.1 (by simpa using hl')
   rfl
 | fn f vs us xs ys hl h hl' h' =>
  obtain rfl : vs = #[] := Array.size_eq_zero_iff.1 (by simpa using hl)
  obtain rfl : us = #[] := Array.size_eq_zero_iff.1 (by simpa using hl')
  rfl
theorem rest_fn (g : Nat) (w : World) (I : Nat → Prop) (m : Nat → Option Nat) (n : Nat) (vs : List Value) (hl : vs.length = [AV.fn (.func g) [] []].length) (h : ∀ (i : Nat) (v : Value) (x : AV), vs[i]? = some v → [AV.fn (.func g) [] []][i]? = some x → VR w I m n v x) : vs = [.func (.func g) #[] #[]] := by
 match vs, hl with
 | [v], _ =>
  have := h 0 v _ rfl rfl
  rw [VR.fn0 this]
def byLo (l : List Iv) : Prop := l.Pairwise (fun x y => x.lo ≤ y.lo)
end Go.Abs
set_option maxRecDepth 100000
namespace Go.Abs
open Go Go.Proofs
set_option linter.unusedSimpArgs false
end Go.Abs
set_option maxRecDepth 100000
namespace Go.Abs
open Go Go.Proofs
set_option linter.unusedSimpArgs false
def pushR : List Iv → Iv → List Iv
 | acc, x => match acc.getLast? with
  | some y => if x.lo ≤ y.hi + 1 then acc.dropLast ++ [⟨y.lo, if y.hi < x.hi then x.hi else y.hi⟩] else acc ++ [x]
  | none => [x]
def ivIn (x : Iv) : Prop := inB x.lo = true ∧ inB x.hi = true
def wideI (x : Iv) : Prop := -4398046511104 ≤ x.hi ∧ x.hi ≤ 4398046511104
theorem ivIn.wide {x : Iv} (h : ivIn x) : wideI x := by have := (inB_iff _).1 h.2; unfold wideI; omega
end Go.Abs
set_option maxRecDepth 100000
namespace Go.Abs
open Go Go.Proofs
set_option linter.unusedSimpArgs false
def badR : List Iv → Int
 | [] => 0
 | x :: r => if (oneR x != 0) = true then oneR x else badR r
def pushes (acc l : List Iv) : List Iv := l.foldl pushR acc
def makeE (l : List Iv) : Int := if decide ((256 : Int) < l.length) = true then 5 else badR l
def MakeQ (l : List Iv) (r : AV) : Prop := (makeE l ≠ 0 ∧ r = .tup [.list [], .i (makeE l)]) ∨ (makeE l = 0 ∧ l.length ≤ 256 ∧ badR l = 0 ∧ ∃ l' : List Iv, l'.Perm l ∧ byLo l' ∧ r = .tup [LIv (pushes [] l'), .i 0])
theorem one_in {x : Iv} (h : oneR x = 0) : ivIn x ∧ x.lo ≤ x.hi := by
 unfold oneR at h
 by_cases h1 : (!inB x.lo || !inB x.hi) = true
 ·rw [if_pos h1] at h; cases h
 ·rw [if_neg h1] at h
  by_cases h2 : decide (x.hi < x.lo) = true
  ·rw [if_pos h2] at h; cases h
  ·exact ⟨by simpa [ivIn] using h1, by simpa using h2⟩
theorem push_in {acc : List Iv} {x : Iv} (ha : ∀ y ∈ acc, ivIn y) (hx : ivIn x) : ∀ y ∈ pushR acc x, ivIn y := by
 rcases List.eq_nil_or_concat acc with rfl | ⟨ini, z, rfl⟩
 ·simpa [pushR] using hx
 ·have hz := ha z (by simp)
  have hi : ∀ y ∈ ini, ivIn y := fun y hy => ha y (by simp [hy])
  intro y hy
  simp only [pushR, List.concat_eq_append, List.getLast?_append, List.getLast?_singleton, Option.some_or, List.dropLast_concat] at hy
  split at hy
  ·rcases List.mem_append.1 hy with h | h
   ·exact hi y h
   ·simp at h; subst h
    refine ⟨hz.1, ?_⟩
    simp only
    split
    ·exact hx.2
    ·exact hz.2
  ·rcases List.mem_append.1 hy with h | h
   ·rcases List.mem_append.1 h with h | h
    ·exact hi y h
    ·simp at h; subst h; exact hz
   ·simp at h; subst h; exact hx
theorem push_len (acc : List Iv) (x : Iv) : (pushR acc x).length ≤ acc.length + 1 := by
 rcases List.eq_nil_or_concat acc with rfl | ⟨ini, z, rfl⟩
 ·simp [pushR]
 ·simp only [pushR, List.concat_eq_append, List.getLast?_append, List.getLast?_singleton, Option.some_or, List.dropLast_concat]
  split <;> simp
theorem pushes_snoc (acc l : List Iv) (x : Iv) : pushes acc (l ++ [x]) = pushR (pushes acc l) x := by simp [pushes]
theorem pushes_len : ∀ (l acc : List Iv), (pushes acc l).length ≤ acc.length + l.length
 | [], acc => by simp [pushes]
 | x :: r, acc => by
  have := pushes_len r (pushR acc x)
  have := push_len acc x
  simp only [pushes, List.foldl_cons, List.length_cons] at *
  omega
theorem pushes_in : ∀ (l acc : List Iv), (∀ y ∈ acc, ivIn y) → (∀ y ∈ l, ivIn y) → ∀ y ∈ pushes acc l, ivIn y
 | [], acc, h, _ => by simpa [pushes] using h
 | x :: r, acc, h, hl => pushes_in r (pushR acc x) (push_in h (hl x (by simp))) (fun y hy => hl y (by simp [hy]))
attribute [local irreducible] oneR
end Go.Abs
set_option maxRecDepth 100000
namespace Go.Abs
open Go Go.Proofs
set_option linter.unusedSimpArgs false
def gtAt (s : List Iv) (j : Nat) (x : Iv) : Bool := match s[j]? with | some y => decide (x.lo < y.lo) | none => false
def insPos (s : List Iv) (x : Iv) : Nat → Nat
 | 0 => 0
 | j + 1 => if gtAt s j x = true then insPos s x j else j + 1
def insR (s : List Iv) (x : Iv) : List Iv := s.take (insPos s x s.length) ++ x :: s.drop (insPos s x s.length)
def isortR (l : List Iv) : List Iv := l.foldl insR []
theorem insPos_le (s : List Iv) (x : Iv) : ∀ j, insPos s x j ≤ j
 | 0 => Nat.le_refl _
 | j + 1 => by
  rw [insPos]
  split
  ·exact Nat.le_succ_of_le (insPos_le s x j)
  ·exact Nat.le_refl _
theorem insR_len (s : List Iv) (x : Iv) : (insR s x).length = s.length + 1 := by
 have := insPos_le s x s.length
 simp [insR]; omega
theorem isort_snoc (l : List Iv) (x : Iv) : isortR (l ++ [x]) = insR (isortR l) x := by simp [isortR]
theorem isort_len0 : ∀ (l acc : List Iv), (l.foldl insR acc).length = acc.length + l.length
 | [], acc => by simp
 | x :: r, acc => by rw [List.foldl_cons, isort_len0 r, insR_len, List.length_cons]; omega
theorem isort_len (l : List Iv) : (isortR l).length = l.length := by rw [isortR, isort_len0]; simp
set_option maxHeartbeats 2000000 in
theorem pc_sorted (l : List Iv) (hl : l.length ≤ 1000000000) : PC Tryz.prog 184 [LIv l] (fun r => r = LIv (isortR l)) := by
 refine PC_body tOk Tryz.func184 rfl Tryz.results184 rfl (by simp [Tryz.ntmps184]) ?_
 rw [Tryz.ntmps184]
 simp only [argSlots]
 repeat first|((first|refine qa tOk rfl ?_|refine qb tOk rfl ?_|refine qh rfl ?_);simp)|refine qf ?_|refine qg ?_
 refine AWP_nilList 3 rfl ?_
 simp
 refine AWP_countI l.length (fun _ => True) (fun j => [(0, LIv l), (3, LIv (isortR (l.take j))), (4, .i j)]) (fun _ => []) rfl (by simp) (by simp [isortR]) (by simp) (by simp) trivial ?_
 intro j hj _ ih
 obtain ⟨s, hs⟩ : ∃ s, isortR (l.take j) = s := ⟨_, rfl⟩
 have hsl : s.length = j := by rw [← hs, isort_len, List.length_take]; omega
 rw [hs]
 repeat first|((first|refine qa tOk rfl ?_|refine qb tOk rfl ?_|refine qh rfl ?_);simp)|refine qf ?_|refine qg ?_
 refine AWP_cond2 rfl (fun hlt => ?_) (fun hge => ?_)
 ·have hlt' : j < l.length := by simpa using hlt
  have hw : IntKind.i64.wrap ((j : Int) + 1) = j + 1 := wrap_i64 _ (by omega) (by omega)
  have hnx : isortR (l.take (j + 1)) = insR s l[j] := by rw [List.take_succ_eq_append_getElem hlt', isort_snoc, hs]
  repeat first|((first|refine qa tOk rfl ?_|refine qb tOk rfl ?_|refine qh rfl ?_);simp)|refine qf ?_|refine qg ?_
  obtain ⟨q, hq⟩ : ∃ q, insPos s l[j] s.length = q := ⟨_, rfl⟩
  refine AWP_loop (ALoop_keep (sl' := [(0, LIv l), (3, LIv s), (4, .i j), (5, .i s.length)]) ?_ (by simp))
  refine ALoop_wf (F := fun (u : Nat) => ⟨[(0, LIv l), (3, LIv s), (4, .i j), (5, .i u)], []⟩) (fun u => u ≤ s.length ∧ insPos s l[j] u = q) (fun u => u) ?_ s.length ⟨Nat.le_refl _, hq⟩
  rintro u ⟨hu, hI⟩ ih2
  repeat first|((first|refine qa tOk rfl ?_|refine qb tOk rfl ?_|refine qh rfl ?_);simp)|refine qf ?_|refine qg ?_
  rcases u with _ | u
  ·have hwm : IntKind.i64.wrap (-1) = -1 := by decide
   refine AWP_drawT tOk mixed [] (.val 0 (.val 1 (.val 2 (.val 3 (.val 4 (.val 5 (.val 6 (.val 7 (.val 8 (.val 9 (.val 10 (.val 11 (.val 12 (.val 13 (.val 14 (.val 15 (.done))))))))))))))))) rfl (by kernel_rfl) ?_
   simp [hwm, hlt']
   refine AWP_cond rfl ?_
   repeat first|((first|refine qa tOk rfl ?_|refine qb tOk rfl ?_|refine qh rfl ?_);simp)|refine qf ?_|refine qg ?_
   have hq0 : q = 0 := hI.symm
   subst hq0
   refine AStep_appendS tOk rfl rfl T171 rfl T187 rfl (by decide) (by decide) rfl rfl rfl ?_
   simp [hlt']
   refine ⟨by simp [appOk, hlt'] <;> omega, ?_⟩
   repeat first|((first|refine qa tOk rfl ?_|refine qb tOk rfl ?_|refine qh rfl ?_);simp [hlt', hlt'])|refine qf ?_|refine qg ?_
   refine AStep_appendS tOk rfl rfl T171 rfl T187 rfl (by decide) (by decide) rfl rfl rfl ?_
   simp [hlt']
   refine ⟨by simp [appOk, hlt'] <;> omega, ?_⟩
   repeat first|((first|refine qa tOk rfl ?_|refine qb tOk rfl ?_|refine qh rfl ?_);simp [hlt', hlt'])|refine qf ?_|refine qg ?_
   refine AStep_appendS tOk rfl rfl T171 rfl T187 rfl (by decide) (by decide) rfl rfl rfl ?_
   simp [hlt']
   refine ⟨by simp [appOk, hlt'] <;> omega, ?_⟩
   repeat first|((first|refine qa tOk rfl ?_|refine qb tOk rfl ?_|refine qh rfl ?_);simp [hlt', hw])|refine qf ?_|refine qg ?_
   refine ALoop_freeze 4 rfl ?_
   simp [hlt']
   refine ALoop_end _ (ih hlt' trivial) rfl (by simp) ?_ (by simp) (by simp)
   rw [hnx]
   simp
   rw [List.take_of_length_le (by simp; omega)]
   rw [if_pos (by omega)]
   subst_vars
   simp [insR, *]
  ·have hu' : u < s.length := by omega
   have hwu : IntKind.i64.wrap (u : Int) = u := wrap_i64 _ (by omega) (by omega)
   have hu2 : (u : Int) < s.length := by omega
   have hgt : gtAt s u l[j] = decide (l[j].lo < s[u].lo) := by simp [gtAt, hu']
   rw [insPos, hgt] at hI
   refine AWP_drawT tOk mixed [] (.val 0 (.val 1 (.val 2 (.val 3 (.val 4 (.val 5 (.val 6 (.val 7 (.val 8 (.val 9 (.val 10 (.val 11 (.val 12 (.val 13 (.val 14 (.val 15 (.done))))))))))))))))) rfl (by kernel_rfl) ?_
   simp [hu', hlt', hwu, hu2]
   refine AWP_cond2 rfl (fun h1 => ?_) (fun h1 => ?_)
   ·rw [if_pos h1] at hI
    repeat first|((first|refine qa tOk rfl ?_|refine qb tOk rfl ?_|refine qh rfl ?_);simp [hwu])|refine qf ?_|refine qg ?_
    exact ALoop_keep (sl' := [(0, LIv l), (3, LIv s), (4, .i j), (5, .i u)]) (ih2 u ⟨by omega, hI⟩ (by omega)) (by simp)
   ·rw [if_neg (by simpa using h1)] at hI
    have hu3 : (u : Int) + 1 ≤ s.length := by omega
    have hu4 : (0 : Int) ≤ (u : Int) + 1 := by omega
    repeat first|((first|refine qa tOk rfl ?_|refine qb tOk rfl ?_|refine qh rfl ?_);simp [hu3, hu4])|refine qf ?_|refine qg ?_
    refine AStep_appendS tOk rfl rfl T171 rfl T187 rfl (by decide) (by decide) rfl rfl rfl ?_
    simp [hu3, hu4, -List.map_take, ← List.map_take, -List.map_drop, ← List.map_drop]
    refine ⟨by simp [appOk, hu3, hu4, -List.map_take, ← List.map_take, -List.map_drop, ← List.map_drop] <;> omega, ?_⟩
    repeat first|((first|refine qa tOk rfl ?_|refine qb tOk rfl ?_|refine qh rfl ?_);simp [hlt', hu3, hu4, -List.map_take, ← List.map_take, -List.map_drop, ← List.map_drop])|refine qf ?_|refine qg ?_
    refine AStep_appendS tOk rfl rfl T171 rfl T187 rfl (by decide) (by decide) rfl rfl rfl ?_
    simp [hu3, hu4, -List.map_take, ← List.map_take, -List.map_drop, ← List.map_drop]
    refine ⟨by simp [appOk, hu3, hu4, -List.map_take, ← List.map_take, -List.map_drop, ← List.map_drop] <;> omega, ?_⟩
    repeat first|((first|refine qa tOk rfl ?_|refine qb tOk rfl ?_|refine qh rfl ?_);simp [hlt', hu3, hu4, -List.map_take, ← List.map_take, -List.map_drop, ← List.map_drop])|refine qf ?_|refine qg ?_
    refine AStep_appendS tOk rfl rfl T171 rfl T187 rfl (by decide) (by decide) rfl rfl rfl ?_
    simp [hu3, hu4, -List.map_take, ← List.map_take, -List.map_drop, ← List.map_drop]
    refine ⟨by simp [appOk, hu3, hu4, -List.map_take, ← List.map_take, -List.map_drop, ← List.map_drop] <;> omega, ?_⟩
    repeat first|((first|refine qa tOk rfl ?_|refine qb tOk rfl ?_|refine qh rfl ?_);simp [hu3, hu4, -List.map_take, ← List.map_take, -List.map_drop, ← List.map_drop, hw])|refine qf ?_|refine qg ?_
    refine ALoop_freeze 4 rfl ?_
    simp [hu3, hu4, -List.map_take, ← List.map_take, -List.map_drop, ← List.map_drop]
    refine ALoop_end _ (ih hlt' trivial) rfl (by simp) ?_ (by simp) (by simp)
    rw [hnx]
    simp
    rw [List.take_of_length_le (by simp; omega)]
    rw [if_pos (by omega)]
    subst_vars
    simp [insR, *]
 ·have hge' : j = l.length := by simp at hge; omega
  subst hge'
  repeat first|((first|refine qa tOk rfl ?_|refine qb tOk rfl ?_|refine qh rfl ?_);simp)|refine qf ?_|refine qg ?_
  rw [← hs, List.take_length]
end Go.Abs
set_option maxRecDepth 100000
namespace Go.Abs
open Go Go.Proofs
set_option linter.unusedSimpArgs false
def normR (l : List Iv) : List Iv := pushes [] (isortR l)
theorem pushR_concat (ini : List Iv) (y x : Iv) : pushR (ini ++ [y]) x = if x.lo ≤ y.hi + 1 then ini ++ [⟨y.lo, if y.hi < x.hi then x.hi else y.hi⟩] else ini ++ [y] ++ [x] := by
 simp [pushR]
theorem insR_mem (s : List Iv) (x y : Iv) : y ∈ insR s x ↔ y = x ∨ y ∈ s := by
 have : (s.take (insPos s x s.length) ++ s.drop (insPos s x s.length)) = s := List.take_append_drop _ _
 rw [insR, List.mem_append, List.mem_cons]
 conv => rhs; rw [← this, List.mem_append]
 constructor <;> rintro (h | h | h) <;> simp [h]
theorem isort_mem0 : ∀ (l acc : List Iv) (y : Iv), y ∈ l.foldl insR acc ↔ y ∈ acc ∨ y ∈ l
 | [], acc, y => by simp
 | x :: r, acc, y => by
  rw [List.foldl_cons, isort_mem0 r, insR_mem, List.mem_cons]
  constructor
  ·rintro ((h | h) | h) <;> simp [h]
  ·rintro (h | h | h) <;> simp [h]
theorem isort_mem (l : List Iv) (y : Iv) : y ∈ isortR l ↔ y ∈ l := by rw [isortR, isort_mem0]; simp
attribute [local irreducible] isortR
set_option maxHeartbeats 2000000 in
theorem pc_Normal (l : List Iv) (hl : l.length ≤ 1000000000) (hin : ∀ y ∈ l, ivIn y) : PC Tryz.prog 128 [LIv l] (fun r => r = LIv (normR l)) := by
 refine PC_body tOk Tryz.func128 rfl Tryz.results128 rfl (by simp [Tryz.ntmps128]) ?_
 rw [Tryz.ntmps128]
 simp only [argSlots]
 repeat first|((first|refine qa tOk rfl ?_|refine qb tOk rfl ?_|refine qh rfl ?_);simp)|refine qf ?_|refine qg ?_
 refine AStep_PC rfl rfl (by simp) (pc_sorted l hl) rfl ?_
 rintro _ rfl
 simp
 repeat first|((first|refine qa tOk rfl ?_|refine qb tOk rfl ?_|refine qh rfl ?_);simp)|refine qf ?_|refine qg ?_
 have hl' : (isortR l).length ≤ 1000000000 := by rw [isort_len]; exact hl
 have hin' : ∀ y ∈ isortR l, ivIn y := fun y hy => hin y ((isort_mem l y).1 hy)
 unfold normR
 generalize isortR l = s at hl' hin' ⊢
 refine AWP_nilSlot 4 187 2 rfl ?_
 simp
 refine AWP_loop (ALoop_keep (sl' := [(3, LIv s), (4, .sl 0 2 0 0), (5, .i 0)]) ?_ (by simp))
 refine ALoop_wf (F := fun (u : Nat × Nat × List AObj) => ⟨[(3, LIv s), (4, .sl u.2.1 2 0 (pushes [] (s.take u.1)).length), (5, .i u.1)], u.2.2⟩)
  (fun u => u.1 ≤ s.length ∧ u.2.2[u.2.1]? = some (.arr 187 2 ((pushes [] (s.take u.1)).map encIv))) (fun u => s.length - u.1) ?_ (0, 0, [.arr 187 2 []]) ⟨by simp, rfl⟩
 rintro ⟨j, q, H2⟩ ⟨hj, g1⟩ ih
 simp only at hj g1 ih ⊢
 repeat first|((first|refine qa tOk rfl ?_|refine qb tOk rfl ?_|refine qh rfl ?_);simp)|refine qf ?_|refine qg ?_
 refine AWP_cond2 rfl (fun hlt => ?_) (fun hge => ?_)
 ·have hlt' : j < s.length := by simpa using hlt
  have hw : IntKind.i64.wrap ((j : Int) + 1) = j + 1 := wrap_i64 _ (by omega) (by omega)
  have hpl : (pushes [] (s.take j)).length ≤ 1000000000 := Nat.le_trans (pushes_len _ _) (by simp; omega)
  have hpi : ∀ y ∈ pushes [] (s.take j), ivIn y := pushes_in _ _ (by simp) (fun y hy => hin' y (List.mem_of_mem_take hy))
  have hnx : pushes [] (s.take (j + 1)) = pushR (pushes [] (s.take j)) s[j] := by rw [List.take_succ_eq_append_getElem hlt', pushes_snoc]
  have ih' : ∀ (q' : Nat) (H' : List AObj), H'[q']? = some (.arr 187 2 ((pushR (pushes [] (s.take j)) s[j]).map encIv)) → _ := fun q' H' h => ih (j + 1, q', H') ⟨by simp; omega, by rw [hnx]; exact h⟩ (by simp; omega)
  clear ih
  simp only [hnx] at ih'
  generalize pushes [] (s.take j) = acc at g1 hpl hpi ih' ⊢
  repeat first|((first|refine qa tOk rfl ?_|refine qb tOk rfl ?_|refine qh rfl ?_);simp)|refine qf ?_|refine qg ?_
  rcases List.eq_nil_or_concat acc with rfl | ⟨ini, y, rfl⟩
  ·have hwm : IntKind.i64.wrap (-1) = -1 := by decide
   repeat first|((first|refine qa tOk rfl ?_|refine qb tOk rfl ?_|refine qh rfl ?_);simp [hwm])|refine qf ?_|refine qg ?_
   refine AWP_drawT tOk mixed [] (.val 0 (.val 1 (.val 2 (.val 3 (.val 4 (.val 5 (.val 6 (.val 7 (.val 8 (.val 9 (.val 10 (.val 11 (.val 12 (.val 13 (.val 14 (.val 15 (.done))))))))))))))))) rfl (by kernel_rfl) ?_
   simp [hwm, hlt', g1]
   refine AWP_cond rfl ?_
   simp
   repeat first|((first|refine qa tOk rfl ?_|refine qb tOk rfl ?_|refine qh rfl ?_);simp [hlt', g1])|refine qf ?_|refine qg ?_
   refine AStep_appendS tOk rfl rfl T171 rfl T187 rfl (by decide) (by decide) rfl rfl rfl ?_
   simp [get_app g1, set_app g1]
   refine ⟨by simp [appOk, get_app g1, set_app g1] <;> omega, ?_⟩
   repeat first|((first|refine qa tOk rfl ?_|refine qb tOk rfl ?_|refine qh rfl ?_);simp [hw])|refine qf ?_|refine qg ?_
   exact ALoop_keep (sl' := [(3, LIv s), (4, .sl (H2.length + 1) 2 0 1), (5, .i (j + 1 : Nat))]) (ih' (H2.length + 1) _ (by rw [List.getElem?_append_right (by simp)]; simp [pushR])) (by simp)
  ·have hy := hpi y (by simp)
   have hy1 := (inB_iff _).1 hy.2
   have hw2 : IntKind.i64.wrap (y.hi + 1) = y.hi + 1 := wrap_i64 _ (by omega) (by omega)
   rw [List.concat_eq_append] at g1 hpl hpi ih' ⊢
   have hlen : (ini ++ [y]).length = ini.length + 1 := by simp
   rw [hlen] at hpl ⊢
   have hwn : IntKind.i64.wrap (ini.length : Int) = ini.length := wrap_i64 _ (by omega) (by omega)
   have hg : ((ini ++ [y]).map encIv)[ini.length]? = some (encIv y) := by simp
   have hlt2 : (ini.length : Int) < ini.length + 1 := by omega
   repeat first|((first|refine qa tOk rfl ?_|refine qb tOk rfl ?_|refine qh rfl ?_);simp [hwn])|refine qf ?_|refine qg ?_
   have hneg : ¬ ((ini.length : Int) < 0) := by omega
   refine AWP_drawT tOk mixed [] (.val 0 (.val 1 (.val 2 (.val 3 (.val 4 (.val 5 (.val 6 (.val 7 (.val 8 (.val 9 (.val 10 (.val 11 (.val 12 (.val 13 (.val 14 (.val 15 (.done))))))))))))))))) rfl (by kernel_rfl) ?_
   simp [hlt', g1, hwn, hg, hw2, hlt2, hneg]
   rw [pushR_concat] at ih'
   refine AWP_cond2 rfl (fun h1 => ?_) (fun h1 => ?_)
   ·have h1' : ¬ (s[j].lo ≤ y.hi + 1) := by simp at h1; omega
    rw [if_neg h1'] at ih'
    repeat first|((first|refine qa tOk rfl ?_|refine qb tOk rfl ?_|refine qh rfl ?_);simp [hlt', g1])|refine qf ?_|refine qg ?_
    refine AStep_appendS tOk rfl rfl T171 rfl T187 rfl (by decide) (by decide) rfl rfl rfl ?_
    simp [get_app g1, set_app g1]
    refine ⟨by simp [appOk, get_app g1, set_app g1] <;> omega, ?_⟩
    repeat first|((first|refine qa tOk rfl ?_|refine qb tOk rfl ?_|refine qh rfl ?_);simp [hw])|refine qf ?_|refine qg ?_
    exact ALoop_keep (sl' := [(3, LIv s), (4, .sl (H2.length + 1) 2 0 (ini.length + 1 + 1)), (5, .i (j + 1 : Nat))]) (by
     have := ih' (H2.length + 1) (H2.set q .dead ++ [.arr 187 2 [encIv s[j]], .arr 187 2 ((ini ++ [y] ++ [s[j]]).map encIv)]) (by rw [List.getElem?_append_right (by simp)]; simp)
     simpa using this) (by simp)
   ·have h1' : s[j].lo ≤ y.hi + 1 := by simp at h1; omega
    rw [if_pos h1'] at ih'
    repeat first|((first|refine qa tOk rfl ?_|refine qb tOk rfl ?_|refine qh rfl ?_);simp)|refine qf ?_|refine qg ?_
    refine AWP_drawT tOk mixed [] (.val 0 (.val 1 (.val 2 (.val 3 (.val 4 (.val 5 (.val 6 (.val 7 (.val 8 (.val 9 (.val 10 (.done)))))))))))) rfl (by kernel_rfl) ?_
    simp [hlt', g1, hwn, hg, hw2, hlt2, hneg]
    refine AWP_cond2 rfl (fun h2 => ?_) (fun h2 => ?_)
    ·have h2' : y.hi < s[j].hi := by simpa using h2
     rw [if_pos h2'] at ih'
     repeat first|((first|refine qa tOk rfl ?_|refine qb tOk rfl ?_|refine qh rfl ?_);simp [hlt', g1, hg, hwn, hlt2, hw])|refine qf ?_|refine qg ?_
     exact ALoop_keep (sl' := [(3, LIv s), (4, .sl q 2 0 (ini.length + 1)), (5, .i (j + 1 : Nat))]) (by
      have := ih' q (H2.set q (.arr 187 2 ((ini ++ [(⟨y.lo, s[j].hi⟩ : Iv)]).map encIv))) (get_self g1 _)
      simpa using this) (by simp)
    ·have h2' : ¬ (y.hi < s[j].hi) := by simpa using h2
     rw [if_neg h2'] at ih'
     repeat first|((first|refine qa tOk rfl ?_|refine qb tOk rfl ?_|refine qh rfl ?_);simp [hw])|refine qf ?_|refine qg ?_
     exact ALoop_keep (sl' := [(3, LIv s), (4, .sl q 2 0 (ini.length + 1)), (5, .i (j + 1 : Nat))]) (by
      have := ih' q H2 g1
      simpa using this) (by simp)
 ·have hge' : j = s.length := by simp at hge; omega
  subst hge'
  rw [List.take_length] at g1
  repeat first|((first|refine qa tOk rfl ?_|refine qb tOk rfl ?_|refine qh rfl ?_);simp [g1])|refine qf ?_|refine qg ?_
  rw [List.take_of_length_le (by simp)]
end Go.Abs
set_option maxRecDepth 100000
namespace Go.Abs
open Go Go.Proofs
set_option linter.unusedSimpArgs false
attribute [local irreducible] normR
def rMakeR (l : List Iv) : AV := if makeE l = 0 then .tup [LIv (normR l), .i 0] else .tup [.list [], .i (makeE l)]
attribute [local irreducible] oneR
theorem eqA_iv (a b c d : Int) : eqA T 9 187 (.agg [.int .i64 a, .int .i64 b]) (.agg [.int .i64 c, .int .i64 d]) = some (a == c && b == d) := by
 simp [eqA, eqFieldsA, outOf, TI.agg]
theorem pc_Same (a b : List Iv) : PC Tryz.prog 133 [LIv a, LIv b] (fun r => r = .bool (decide (a = b))) := by
 refine PC_body tOk Tryz.func133 rfl Tryz.results133 rfl (by simp [Tryz.ntmps133]) ?_
 rw [Tryz.ntmps133]
 simp only [argSlots]
 refine AWP_len 0 rfl (fun hlen => ?_)
 rw [List.length_map] at hlen
 repeat first|((first|refine qa tOk rfl ?_|refine qb tOk rfl ?_|refine qh rfl ?_);simp)|refine qf ?_|refine qg ?_
 refine AWP_cond2 rfl (fun h => ?_) (fun h => ?_)
 ·repeat first|((first|refine qa tOk rfl ?_|refine qb tOk rfl ?_|refine qh rfl ?_);simp)|refine qf ?_|refine qg ?_
  have : a ≠ b := fun e => by subst e; simp at h
  simp [this]
 have hab : a.length = b.length := by simp at h; omega
 repeat first|((first|refine qa tOk rfl ?_|refine qb tOk rfl ?_|refine qh rfl ?_);simp)|refine qf ?_|refine qg ?_
 refine AWP_countI a.length (fun j => decide (a = b) = decide (a.drop j = b.drop j)) (fun j => [(0, LIv a), (1, LIv b), (5, .i j)]) (fun _ => []) rfl (by simp) (by simp) (by simp) (by simp) (by simp) ?_
 intro j hj hI ih
 repeat first|((first|refine qa tOk rfl ?_|refine qb tOk rfl ?_|refine qh rfl ?_);simp)|refine qf ?_|refine qg ?_
 refine AWP_cond2 rfl (fun hlt => ?_) (fun hge => ?_)
 ·have hlt' : j < a.length := by simpa using hlt
  have hlt2 : j < b.length := by omega
  have hlt3 : (j : Int) < b.length := by omega
  have hw : IntKind.i64.wrap ((j : Int) + 1) = j + 1 := wrap_i64 _ (by omega) (by omega)
  rw [drop_get hlt', drop_get hlt2] at hI
  repeat first|((first|refine qa tOk rfl ?_|refine qb tOk rfl ?_|refine qh rfl ?_);simp)|refine qf ?_|refine qg ?_
  refine AWP_drawT tOk mixed [] (.val 0 (.val 1 (.val 2 (.val 3 (.val 4 (.val 5 (.val 6 (.val 7 (.val 8 (.done)))))))))) rfl (by kernel_rfl) ?_
  simp [hlt', hlt2, hlt3, eqA_iv]
  refine AWP_cond2 rfl (fun h2 => ?_) (fun h2 => ?_)
  ·repeat first|((first|refine qa tOk rfl ?_|refine qb tOk rfl ?_|refine qh rfl ?_);simp)|refine qf ?_|refine qg ?_
   have : a ≠ b := fun e => by subst e; simp at h2
   simp [this]
  ·repeat first|((first|refine qa tOk rfl ?_|refine qb tOk rfl ?_|refine qh rfl ?_);simp [hw])|refine qf ?_|refine qg ?_
   have he : a[j] = b[j] := by
    cases hx : a[j]; cases hy : b[j]; rw [hx, hy] at h2; simpa using h2
   refine ALoop_end _ (ih hlt' ?_) rfl (by simp) ?_ (by simp) (by simp)
   ·rw [hI, he]; simp only [List.cons.injEq, true_and]
   ·simp
 ·have hge' : j = a.length := by simp at hge; omega
  subst hge'
  rw [List.drop_length, List.drop_of_length_le (by omega)] at hI
  repeat first|((first|refine qa tOk rfl ?_|refine qb tOk rfl ?_|refine qh rfl ?_);simp)|refine qf ?_|refine qg ?_
  simpa using hI
theorem pc_Few (l : List Iv) : PC Tryz.prog 112 [LIv l] (fun r => r = .bool (decide ((l.length : Int) ≤ 12))) := by
 refine PC_body tOk Tryz.func112 rfl Tryz.results112 rfl (by simp [Tryz.ntmps112]) ?_
 rw [Tryz.ntmps112]
 simp only [argSlots]
 repeat first|((first|refine qa tOk rfl ?_|refine qb tOk rfl ?_|refine qh rfl ?_);simp)|refine qf ?_|refine qg ?_
end Go.Abs
set_option maxRecDepth 100000
namespace Go.Abs
open Go Go.Proofs
set_option linter.unusedSimpArgs false
attribute [simp] T74
@[simp] def encL (l : List Iv) : AV := .list (l.map encIv)
def fitR1 (l : List Iv) : Bool := !((decide ((12 : Int) < l.length) && decide ((l.length : Int) ≤ 254)) || decide ((258 : Int) < l.length))
def fitR (ls : List (List Iv)) : Bool := ls.all fitR1
def goodR1 (l : List Iv) : Bool := decide ((l.length : Int) ≤ 12) && decide (ckR l = 0)
def goodR (ls : List (List Iv)) : Bool := ls.all goodR1
attribute [local irreducible] ckR
end Go.Abs
set_option maxRecDepth 100000
namespace Go.Abs
open Go Go.Proofs
set_option linter.unusedSimpArgs false
structure CanonL (l : List Iv) : Prop where
 len : l.length ≤ 256
 one : ∀ y ∈ l, oneR y = 0
 gap : ∀ j, ∀ h : j + 1 < l.length, l[j].hi + 2 ≤ l[j + 1].lo
theorem gapB_succ {l : List Iv} {j : Nat} {x : Iv} (h : j < l.length) (hi : ivIn l[j]) : gapB l (j + 1) x = decide (x.lo < l[j].hi + 2) := by
 have h1 := (inB_iff _).1 hi.2
 have : W (l[j].hi + 2) = l[j].hi + 2 := wrap_i64 _ (by omega) (by omega)
 simp [gapB, h, this]
theorem ckFrom_zero (l : List Iv) (hl : l.length ≤ 256) : ∀ (n j : Nat), l.length - j = n → j ≤ l.length → (∀ h : 0 < j, ∀ h' : j - 1 < l.length, oneR l[j - 1] = 0) → (ckFrom l j (l.drop j) = 0 ↔ (∀ i, j ≤ i → ∀ h : i < l.length, oneR l[i] = 0) ∧ ∀ i, j ≤ i + 1 → ∀ h : i + 1 < l.length, l[i].hi + 2 ≤ l[i + 1].lo)
 | 0, j, hn, hj, _ => by
  have : j = l.length := by omega
  subst this
  rw [List.drop_length, ckFrom]
  exact ⟨fun _ => ⟨fun i h1 h2 => by omega, fun i h1 h2 => by omega⟩, fun _ => rfl⟩
 | n + 1, j, hn, hj, hp => by
  have hlt : j < l.length := by omega
  rw [drop_get hlt, ckFrom]
  by_cases h1 : (oneR l[j] != 0) = true
  ·rw [if_pos h1]
   have h1' : oneR l[j] ≠ 0 := by simpa using h1
   exact ⟨fun h => absurd h h1', fun h => absurd (h.1 j (Nat.le_refl _) hlt) h1'⟩
  ·rw [if_neg h1]
   have h1' : oneR l[j] = 0 := by simpa using h1
   have ih := ckFrom_zero l hl n (j + 1) (by omega) (by omega) (fun _ _ => h1')
   by_cases h2 : gapB l j l[j] = true
   ·rw [if_pos h2]
    refine ⟨fun h => (by cases h), fun h => ?_⟩
    rcases j with _ | j
    ·simp [gapB] at h2
    ·have hq : oneR l[j] = 0 := hp (by omega) (by simp; omega)
     rw [gapB_succ (by omega) (one_in hq).1] at h2
     have := h.2 j (Nat.le_refl _) hlt
     simp at h2
     omega
   ·rw [if_neg h2, ih]
    constructor
    ·rintro ⟨a, b⟩
     refine ⟨fun i hi h => ?_, fun i hi h => ?_⟩
     ·by_cases e : i = j
      ·subst e; exact h1'
      ·exact a i (by omega) h
     ·by_cases e : j = i + 1
      ·subst e
       have hq : oneR l[i] = 0 := hp (by omega) (by simp; omega)
       rw [gapB_succ (by omega) (one_in hq).1] at h2
       simp at h2
       exact h2
      ·exact b i (by omega) h
    ·rintro ⟨a, b⟩
     exact ⟨fun i hi h => a i (by omega) h, fun i hi h => b i (by omega) h⟩
theorem ck_iff (l : List Iv) : ckR l = 0 ↔ CanonL l := by
 rw [ckR]
 by_cases h : decide ((256 : Int) < l.length) = true
 ·rw [if_pos h]
  simp at h
  exact ⟨fun e => (by cases e), fun e => (by have := e.len; omega)⟩
 ·rw [if_neg h]
  simp at h
  have hl : l.length ≤ 256 := by omega
  have := ckFrom_zero l hl l.length 0 rfl (Nat.zero_le _) (fun h => by omega)
  rw [List.drop_zero] at this
  rw [this]
  constructor
  ·rintro ⟨a, b⟩
   refine ⟨hl, fun y hy => ?_, fun j h => b j (by omega) h⟩
   obtain ⟨i, hi, rfl⟩ := List.getElem_of_mem hy
   exact a i (by omega) hi
  ·rintro ⟨_, a, b⟩
   exact ⟨fun i _ h => a _ (List.getElem_mem h), fun i _ h => b i h⟩
theorem CanonL.iv {l : List Iv} (h : CanonL l) {j : Nat} (hj : j < l.length) : -1099511627776 ≤ l[j].lo ∧ l[j].lo ≤ l[j].hi ∧ l[j].hi ≤ 1099511627776 := by
 obtain ⟨⟨h1, h2⟩, h3⟩ := one_in (h.one _ (List.getElem_mem hj))
 have := (inB_iff _).1 h1
 have := (inB_iff _).1 h2
 omega
def sizeS : List Iv → Int
 | [] => 0
 | x :: r => (x.hi - x.lo + 1) + sizeS r
attribute [local irreducible] ckR
end Go.Abs
set_option maxRecDepth 100000
namespace Go.Abs
open Go Go.Proofs
set_option linter.unusedSimpArgs false
attribute [local irreducible] ckR
def bothR (a b : List Iv) : Int := if ckR a = 0 then ckR b else ckR a
def limR (l : List Iv) : AV := if l.length ≤ 256 then .tup [LIv l, .i 0] else .tup [.list [], .i 5]
def atFrom : List Iv → Int → Int × Int
 | [], _ => (0, 2)
 | x :: r, i => if i < x.hi - x.lo + 1 then (x.lo + i, 0) else atFrom r (i - (x.hi - x.lo + 1))
def atR (l : List Iv) (i : Int) : Int × Int := if ckR l = 0 then (if i < 0 then (0, 2) else atFrom l i) else (0, ckR l)
def cmpI (x : Iv) (n : Int) : Int := if x.hi < n then -1 else if n < x.lo then 1 else 0
theorem pc_has1 (x : Iv) (n : Int) : PC Tryz.prog 205 [encIv x, .i n] (fun r => r = .i (cmpI x n)) := by
 refine PC_body tOk Tryz.func205 rfl Tryz.results205 rfl (by simp [Tryz.ntmps205]) ?_
 rw [Tryz.ntmps205]
 simp only [argSlots]
 simp only [encIv]
 repeat first|((first|refine qa tOk rfl ?_|refine qb tOk rfl ?_|refine qh rfl ?_);simp)|refine qf ?_|refine qg ?_
 refine AWP_cond2 rfl (fun h => ?_) (fun h => ?_)
 ·repeat first|((first|refine qa tOk rfl ?_|refine qb tOk rfl ?_|refine qh rfl ?_);simp)|refine qf ?_|refine qg ?_
  rw [cmpI, if_pos (by simpa using h)]
 repeat first|((first|refine qa tOk rfl ?_|refine qb tOk rfl ?_|refine qh rfl ?_);simp)|refine qf ?_|refine qg ?_
 refine AWP_cond2 rfl (fun h2 => ?_) (fun h2 => ?_)
 ·repeat first|((first|refine qa tOk rfl ?_|refine qb tOk rfl ?_|refine qh rfl ?_);simp)|refine qf ?_|refine qg ?_
  rw [cmpI, if_neg (by simpa using h), if_pos (by simpa using h2)]
 repeat first|((first|refine qa tOk rfl ?_|refine qb tOk rfl ?_|refine qh rfl ?_);simp)|refine qf ?_|refine qg ?_
 rw [cmpI, if_neg (by simpa using h), if_neg (by simpa using h2)]
def hasR (l : List Iv) (n : Int) : Bool := l.any fun x => decide (x.lo ≤ n) && decide (n ≤ x.hi)
theorem canon_mono {l : List Iv} (hc : CanonL l) : ∀ {i j : Nat}, i < j → ∀ (hj : j < l.length), ∀ (hi : i < l.length), l[i].hi + 2 ≤ l[j].lo := by
 intro i j hij hj hi
 obtain ⟨d, rfl⟩ : ∃ d, j = i + 1 + d := ⟨j - (i + 1), by omega⟩
 induction d with
 | zero => exact hc.gap i hj
 | succ d ih =>
  have h1 := ih (by omega) (by omega)
  have h2 := hc.gap (i + 1 + d) (by omega)
  have h3 := hc.iv (show i + 1 + d < l.length by omega)
  have h4 : i + 1 + (d + 1) = i + 1 + d + 1 := by omega
  simp only [h4]
  omega
theorem cmp_neg (x : Iv) (n : Int) : cmpI x n < 0 ↔ x.hi < n := by
 unfold cmpI
 by_cases h : x.hi < n
 ·rw [if_pos h]; simp [h]
 ·rw [if_neg h]
  by_cases h2 : n < x.lo
  ·rw [if_pos h2]; simp [h]
  ·rw [if_neg h2]; simp [h]
theorem cmp_zero (x : Iv) (n : Int) : cmpI x n = 0 ↔ x.lo ≤ n ∧ n ≤ x.hi := by
 unfold cmpI
 by_cases h : x.hi < n
 ·rw [if_pos h]; constructor <;> intro h' <;> omega
 ·rw [if_neg h]
  by_cases h2 : n < x.lo
  ·rw [if_pos h2]; constructor <;> intro h' <;> omega
  ·rw [if_neg h2]; constructor <;> intro h' <;> omega
theorem mid_eq {i j m : Nat} (hm : (i + j) / 2 = m) (h : i + j ≤ 1000000000) : IntKind.i64.wrap ((IntKind.u64.wrap ((i : Int) + j)).fdiv (2 ^ min 1 IntKind.u64.bits)) = m := by
 have h1 : IntKind.u64.wrap ((i : Int) + j) = i + j := by simp [IntKind.wrap, IntKind.bits, IntKind.signed]; omega
 have h2 : min 1 IntKind.u64.bits = 1 := by decide
 rw [h1, h2, Int.fdiv_eq_ediv_of_nonneg _ (by decide), wrap_i64 _ (by omega) (by omega)]
 omega
attribute [local irreducible] cmpI
set_option maxHeartbeats 2000000 in
theorem pc_BinSearch (l : List Iv) (n : Int) (hc : CanonL l) : PC Tryz.prog 204 [LIv l, .i n, .fn (.func 205) [] []] (fun r => ∃ k : Int, r = .tup [.i k, .bool (hasR l n)]) := by
 refine PC_body tOk Tryz.func204 rfl Tryz.results204 rfl (by simp [Tryz.ntmps204]) ?_
 rw [Tryz.ntmps204]
 simp only [argSlots]
 have hlen := hc.len
 repeat first|((first|refine qa tOk rfl ?_|refine qb tOk rfl ?_|refine qh rfl ?_);simp)|refine qf ?_|refine qg ?_
 refine AWP_loop (ALoop_keep (sl' := [(0, LIv l), (1, .i n), (2, .fn (.func 205) [] []), (8, .i l.length), (9, .i 0), (10, .i l.length)]) ?_ (by simp))
 refine ALoop_wf (F := fun (u : Nat × Nat) => ⟨[(0, LIv l), (1, .i n), (2, .fn (.func 205) [] []), (8, .i l.length), (9, .i u.1), (10, .i u.2)], []⟩) (fun u => u.1 ≤ u.2 ∧ u.2 ≤ l.length ∧ (∀ k, k < u.1 → ∀ hk : k < l.length, cmpI l[k] n < 0) ∧ (∀ k, u.2 ≤ k → ∀ hk : k < l.length, ¬ cmpI l[k] n < 0)) (fun u => u.2 - u.1) ?_ (0, l.length) ⟨by simp, by simp, fun k hk => by simp at hk, fun k hk hk' => by simp only at hk; omega⟩
 rintro ⟨i, j⟩ ⟨h1, h2, h3, h4⟩ ih
 simp only at h1 h2 h3 h4 ih ⊢
 repeat first|((first|refine qa tOk rfl ?_|refine qb tOk rfl ?_|refine qh rfl ?_);simp)|refine qf ?_|refine qg ?_
 refine AWP_cond2 rfl (fun hlt => ?_) (fun hge => ?_)
 ·have hlt' : i < j := by simpa using hlt
  have hw : IntKind.i64.wrap ((i : Int) + j) = i + j := wrap_i64 _ (by omega) (by omega)
  obtain ⟨m, hm⟩ : ∃ m, (i + j) / 2 = m := ⟨_, rfl⟩
  have hmid : IntKind.i64.wrap ((IntKind.u64.wrap ((i : Int) + j)).fdiv (2 ^ min 1 IntKind.u64.bits)) = m := mid_eq hm (by omega)
  have hml : m < l.length := by omega
  have hml' : (m : Int) < l.length := by omega
  have hw1 : IntKind.i64.wrap ((m : Int) + 1) = m + 1 := wrap_i64 _ (by omega) (by omega)
  repeat first|((first|refine qa tOk rfl ?_|refine qb tOk rfl ?_|refine qh rfl ?_);simp [hw, hmid, hml, hml'])|refine qf ?_|refine qg ?_
  refine AStep_PC rfl rfl (by simp) (pc_has1 l[m] n) rfl ?_
  rintro _ rfl
  simp
  refine AWP_cond2 rfl (fun h5 => ?_) (fun h5 => ?_)
  ·repeat first|((first|refine qa tOk rfl ?_|refine qb tOk rfl ?_|refine qh rfl ?_);simp [hw1])|refine qf ?_|refine qg ?_
   refine ALoop_keep (sl' := [(0, LIv l), (1, .i n), (2, .fn (.func 205) [] []), (8, .i l.length), (9, .i (m + 1 : Nat)), (10, .i j)]) (ih (m + 1, j) ⟨by simp only; omega, h2, fun k hk hk' => ?_, h4⟩ (by simp only; omega)) (by simp)
   have hkm := hc.iv hk'
   have hmm := hc.iv hml
   have h5' : cmpI l[m] n < 0 := by simpa using h5
   by_cases e : k = m
   ·subst e; exact h5'
   ·have := canon_mono hc (show k < m by omega) hml hk'
    rw [cmp_neg] at h5' ⊢
    omega
  ·repeat first|((first|refine qa tOk rfl ?_|refine qb tOk rfl ?_|refine qh rfl ?_);simp)|refine qf ?_|refine qg ?_
   refine ALoop_keep (sl' := [(0, LIv l), (1, .i n), (2, .fn (.func 205) [] []), (8, .i l.length), (9, .i i), (10, .i m)]) (ih (i, m) ⟨by simp only; omega, by simp only; omega, h3, fun k hk hk' => ?_⟩ (by simp only; omega)) (by simp)
   have hkm := hc.iv hk'
   have hmm := hc.iv hml
   have h5' : ¬ cmpI l[m] n < 0 := by simpa using h5
   by_cases e : k = m
   ·subst e; exact h5'
   ·have := canon_mono hc (show m < k by omega) hk' hml
    rw [cmp_neg] at h5' ⊢
    omega
 ·have hge' : i = j := by simp at hge; omega
  subst hge'
  by_cases hil : i < l.length
  ·repeat first|((first|refine qa tOk rfl ?_|refine qb tOk rfl ?_|refine qh rfl ?_);simp [hil])|refine qf ?_|refine qg ?_
   refine AStep_PC rfl rfl (by simp) (pc_has1 l[i] n) rfl ?_
   rintro _ rfl
   simp
   repeat first|((first|refine qa tOk rfl ?_|refine qb tOk rfl ?_|refine qh rfl ?_);simp)|refine qf ?_|refine qg ?_
   have hh : hasR l n = (cmpI l[i] n == 0) := by
    rw [Bool.eq_iff_iff, beq_iff_eq, cmp_zero, hasR, List.any_eq_true]
    constructor
    ·rintro ⟨x, hx, hx2⟩
     obtain ⟨k, hk, rfl⟩ := List.getElem_of_mem hx
     simp at hx2
     have e : k = i := by
      by_cases e1 : k < i
      ·have := (cmp_neg _ _).1 (h3 k e1 hk)
       omega
      ·by_cases e2 : i < k
       ·have := canon_mono hc e2 hk hil
        have : ¬ l[i].hi < n := fun e => h4 i (Nat.le_refl _) hil ((cmp_neg l[i] n).2 e)
        omega
       ·omega
     subst e
     exact hx2
    ·intro h
     exact ⟨l[i], List.getElem_mem hil, by simpa using h⟩
   rw [hh]
  ·repeat first|((first|refine qa tOk rfl ?_|refine qb tOk rfl ?_|refine qh rfl ?_);simp [hil])|refine qf ?_|refine qg ?_
   refine AStep_skip rfl rfl ?_
   simp
   repeat first|((first|refine qa tOk rfl ?_|refine qb tOk rfl ?_|refine qh rfl ?_);simp)|refine qf ?_|refine qg ?_
   have hh : hasR l n = false := by
    rw [hasR, List.any_eq_false]
    intro x hx
    obtain ⟨k, hk, rfl⟩ := List.getElem_of_mem hx
    have := (cmp_neg _ _).1 (h3 k (by omega) hk)
    simp
    intro _
    omega
   rw [hh]
theorem pc_has (l : List Iv) (n : Int) (hc : CanonL l) : PC Tryz.prog 192 [LIv l, .i n] (fun r => r = .bool (hasR l n)) := by
 refine PC_body tOk Tryz.func192 rfl Tryz.results192 rfl (by simp [Tryz.ntmps192]) ?_
 rw [Tryz.ntmps192]
 simp only [argSlots]
 repeat first|((first|refine qa tOk rfl ?_|refine qb tOk rfl ?_|refine qh rfl ?_);simp)|refine qf ?_|refine qg ?_
 refine AStep_PC rfl rfl (by simp) (pc_BinSearch l n hc) rfl ?_
 rintro _ ⟨k, rfl⟩
 simp
 repeat first|((first|refine qa tOk rfl ?_|refine qb tOk rfl ?_|refine qh rfl ?_);simp)|refine qf ?_|refine qg ?_
attribute [local irreducible] hasR
def conR (l : List Iv) (n : Int) : Bool × Int := if ckR l = 0 then (hasR l n, 0) else (false, ckR l)
theorem pc_Contains (l : List Iv) (n : Int) : PC Tryz.prog 158 [LIv l, .i n] (fun r => r = .tup [.bool (conR l n).1, .i (conR l n).2]) := by
 refine PC_body tOk Tryz.func158 rfl Tryz.results158 rfl (by simp [Tryz.ntmps158]) ?_
 rw [Tryz.ntmps158]
 simp only [argSlots]
 repeat first|((first|refine qa tOk rfl ?_|refine qb tOk rfl ?_|refine qh rfl ?_);simp)|refine qf ?_|refine qg ?_
 refine AStep_PC rfl rfl (by simp) (pc_Check l) rfl ?_
 rintro _ rfl
 simp
 repeat first|((first|refine qa tOk rfl ?_|refine qb tOk rfl ?_|refine qh rfl ?_);simp)|refine qf ?_|refine qg ?_
 refine AWP_cond2 rfl (fun h => ?_) (fun h => ?_)
 ·repeat first|((first|refine qa tOk rfl ?_|refine qb tOk rfl ?_|refine qh rfl ?_);simp)|refine qf ?_|refine qg ?_
  rw [conR, if_neg (by simpa using h)]; exact ⟨rfl, rfl⟩
 have h0 : ckR l = 0 := by simpa using h
 repeat first|((first|refine qa tOk rfl ?_|refine qb tOk rfl ?_|refine qh rfl ?_);simp)|refine qf ?_|refine qg ?_
 refine AStep_PC rfl rfl (by simp) (pc_has l n ((ck_iff l).1 h0)) rfl ?_
 rintro _ rfl
 simp
 repeat first|((first|refine qa tOk rfl ?_|refine qb tOk rfl ?_|refine qh rfl ?_);simp)|refine qf ?_|refine qg ?_
 rw [conR, if_pos h0]; exact ⟨rfl, rfl⟩
end Go.Abs
set_option maxRecDepth 100000
namespace Go.Abs
open Go Go.Proofs
set_option linter.unusedSimpArgs false
attribute [local irreducible] ckR
def clipR (d : Int) (x : Iv) : Option Iv :=
 let a := if x.lo + d < -1099511627776 then -1099511627776 else x.lo + d
 let b := if 1099511627776 < x.hi + d then 1099511627776 else x.hi + d
 if a ≤ b then some ⟨a, b⟩ else none
def shiftR (l : List Iv) (d : Int) : List Iv × Int := if ckR l = 0 then (if d < -2199023255552 ∨ 2199023255552 < d then ([], 0) else (l.filterMap (clipR d), 0)) else ([], ckR l)
end Go.Abs
set_option maxRecDepth 100000
namespace Go.Abs
open Go Go.Proofs
set_option linter.unusedSimpArgs false
def catL (ls : List (List Iv)) : List Iv := ls.flatten
attribute [local irreducible] catL
end Go.Abs
set_option maxRecDepth 100000
namespace Go.Abs
open Go Go.Proofs Go.RowKit Go.Shelf Go.Lib Go.Sort
set_option linter.unusedSimpArgs false
def sortI (zs : List Int) : List Int := zs.mergeSort fun x y => decide (x ≤ y)
theorem sortI_len (zs : List Int) : (sortI zs).length = zs.length := by simp [sortI]
theorem fc_SortInt (H : List AObj) (p : Nat) (zs : List Int) (hp : H[p]? = some (.arr 3 1 (zs.map (AV.int .i64)))) (hl : zs.length ≤ 1000000) :
  FC Tryz.prog 176 [.sl p 1 0 zs.length] H (fun r H' => r = .tup [] ∧ H' = H.set p (.arr 3 1 ((sortI zs).map (AV.int .i64)))) := by
 refine (FC_row (xs := zs.map (AV.int .i64)) (rest := []) (callable Tryz.func176 rfl rfl) (by simp) hp (rowI zs) [] (fun w I m vs a b => by simpa using a) (fun xs' => xs' = (sortI zs).map (AV.int .i64)) ?_ ?_).mono ?_
 ·intro b cap w hH hb hc
  have := Tryz.slices_Sort_int b 0 cap zs w (holds_int hH) hb (by omega)
  refine Calls.mono (by simpa using this) ?_
  rintro e w' ⟨rfl, n, os, rfl⟩
  exact ⟨rfl, _, ((sortI zs).map (Value.int .i64)).toArray, n, os, rfl, by simp [sortI_len], rowI _, by rw [putRow_int]; rfl⟩
 ·rintro h
  have hl0 : zs = [] := by simpa using h
  subst hl0
  exact ⟨by simp [sortI], fun w => by simpa using Tryz.slices_Sort_int_none none 0 w⟩
 ·rintro r H' ⟨rfl, xs', rfl, rfl⟩
  exact ⟨rfl, rfl⟩
theorem fc_CompactInt (H : List AObj) (p : Nat) (zs : List Int) (hp : H[p]? = some (.arr 3 1 (zs.map (AV.int .i64)))) (hl : zs.length ≤ 1000000) (hcl : (Lib.compact zs).length ≤ zs.length) :
  FC Tryz.prog 177 [.sl p 1 0 zs.length] H (fun r H' => r = .sl p 1 0 (Lib.compact zs).length ∧ ∃ G : List Int, H' = H.set p (.arr 3 1 ((Lib.compact zs ++ G).map (AV.int .i64)))) := by
 refine (FC_rowS (xs := zs.map (AV.int .i64)) (callable Tryz.func177 rfl rfl) (by simp) hp (rowI zs) (fun xs' n => n = (Lib.compact zs).length ∧ ∃ G : List Int, xs' = (Lib.compact zs ++ G).map (AV.int .i64)) (fun ys n h => by rw [h.1]; exact hcl) ?_ ?_).mono ?_
 ·intro b cap w hH hb hc hm
  have := Tryz.slices_Compact_int b 0 cap zs w (holds_int hH) (by omega) hc
  refine Calls.mono (by simpa using this) ?_
  rintro e w' ⟨rfl, q, rfl⟩
  exact ⟨_, ((Lib.compact zs ++ List.replicate (zs.length - (Lib.compact zs).length) 0).map (Value.int .i64)).toArray, q, _, rfl, ⟨rfl, _, rfl⟩, by simp; omega, rowI _, by rw [← putRow_int]⟩
 ·rintro h
  have hl0 : zs = [] := by simpa using h
  subst hl0
  exact ⟨⟨rfl, [], rfl⟩, fun w => by simpa using Tryz.slices_Compact_int_empty none 0 w⟩
 ·rintro r H' ⟨xs', n, rfl, ⟨rfl, G, rfl⟩, rfl⟩
  exact ⟨rfl, G, rfl⟩
end Go.Abs
set_option maxRecDepth 100000
namespace Go.Abs
open Go Go.Proofs
set_option linter.unusedSimpArgs false
attribute [simp] T40
def ptsR : List Iv → List Int
 | [] => []
 | x :: r => x.lo :: (x.hi + 1) :: ptsR r
theorem pts_snoc : ∀ (l : List Iv) (x : Iv), ptsR (l ++ [x]) = ptsR l ++ [x.lo, x.hi + 1]
 | [], x => rfl
 | y :: r, x => by rw [List.cons_append, ptsR, pts_snoc r, ptsR]; rfl
theorem pts_len : ∀ (l : List Iv), (ptsR l).length = 2 * l.length
 | [] => rfl
 | x :: r => by rw [ptsR, List.length_cons, List.length_cons, pts_len r, List.length_cons]; omega
def cutsR (l : List Iv) : List Int := Lib.compact (sortI (ptsR l))
def swFrom (f : Int → Bool) : List Int → List Iv → List Iv
 | c :: d :: r, acc => swFrom f (d :: r) (if f c = true then pushR acc ⟨c, d - 1⟩ else acc)
 | _, acc => acc
def sweepR (op : Bool → Bool → Bool) (a b : List Iv) : List Iv := swFrom (fun n => op (hasR a n) (hasR b n)) (cutsR (a ++ b)) []
theorem compact_len (zs : List Int) : (Lib.compact zs).length ≤ zs.length := by
 unfold Lib.compact Lib.compactUpTo
 rw [List.length_map]
 exact Nat.le_trans (List.length_filter_le _ _) (by simp)
attribute [local irreducible] ckR hasR catL pushR sortI Lib.compact ptsR
end Go.Abs
set_option maxRecDepth 100000
namespace Go.Abs
open Go Go.Proofs
set_option linter.unusedSimpArgs false
attribute [local irreducible] ckR sweepR
def opMinus (x y : Bool) : Bool := x && !y
def combR (op : Bool → Bool → Bool) (a b : List Iv) : AV := if bothR a b = 0 then limR (sweepR op a b) else .tup [.list [], .i (bothR a b)]
attribute [local irreducible] bothR
attribute [local irreducible] combR
end Go.Abs
set_option maxRecDepth 100000
namespace Go.Abs
theorem push_comm (acc : List Iv) (x y : Iv) (h : x.lo = y.lo) (hx : x.lo ≤ x.hi) (hy : y.lo ≤ y.hi) : pushR (pushR acc x) y = pushR (pushR acc y) x := by
 have one : ∀ (u v : Iv), u.lo = v.lo → u.lo ≤ u.hi → ∀ ini : List Iv, pushR (ini ++ [u]) v = ini ++ [⟨u.lo, if u.hi < v.hi then v.hi else u.hi⟩] := fun u v huv hu ini => by
  rw [pushR_concat, if_pos (by omega)]
 rcases List.eq_nil_or_concat acc with rfl | ⟨ini, z, rfl⟩
 ·have e1 : pushR [] x = [] ++ [x] := rfl
  have e2 : pushR [] y = [] ++ [y] := rfl
  rw [e1, e2, one x y h hx, one y x h.symm hy, h]
  congr 3
  split <;> split <;> omega
 ·rw [List.concat_eq_append]
  by_cases hz : x.lo ≤ z.hi + 1
  ·have mrg : ∀ (w u : Iv), u.lo ≤ w.hi + 1 → pushR (ini ++ [w]) u = ini ++ [⟨w.lo, if w.hi < u.hi then u.hi else w.hi⟩] := fun w u h => by rw [pushR_concat, if_pos h]
   rw [mrg z x hz, mrg z y (by omega), mrg _ y (by simp only; split <;> omega), mrg _ x (by simp only; split <;> omega)]
   congr 3
   simp only
   repeat split
   all_goals omega
  ·have ap : ∀ u : Iv, u.lo = x.lo → pushR (ini ++ [z]) u = ini ++ [z] ++ [u] := fun u h => by rw [pushR_concat, if_neg (by omega)]
   rw [ap x rfl, ap y h.symm, one x y h hx, one y x h.symm hy, h]
   congr 3
   split <;> split <;> omega
theorem pushes_bring : ∀ (A : List Iv) (acc : List Iv) (x : Iv) (B : List Iv), (∀ y ∈ A, y.lo = x.lo ∧ y.lo ≤ y.hi) → x.lo ≤ x.hi → pushes acc (A ++ x :: B) = pushes acc (x :: (A ++ B))
 | [], acc, x, B, _, _ => rfl
 | y :: A, acc, x, B, h, hx => by
  have hy := h y (by simp)
  have ih := pushes_bring A (pushR acc y) x B (fun z hz => h z (by simp [hz])) hx
  simp only [pushes, List.cons_append, List.foldl_cons] at ih ⊢
  rw [ih, push_comm acc y x hy.1 hy.2 hx]
theorem pushes_perm : ∀ (l l' : List Iv) (acc : List Iv), l.Perm l' → byLo l → byLo l' → (∀ y ∈ l, y.lo ≤ y.hi) → pushes acc l = pushes acc l'
 | [], l', acc, hp, _, _, _ => by rw [hp.nil_eq]
 | x :: l, l', acc, hp, h1, h2, hf => by
  obtain ⟨A, B, rfl⟩ := List.append_of_mem (hp.mem_iff.1 (List.mem_cons_self))
  have hp2 : l.Perm (A ++ B) := (List.perm_cons x).1 (hp.trans List.perm_middle)
  have hA : ∀ y ∈ A, y.lo = x.lo ∧ y.lo ≤ y.hi := fun y hy => by
   have hyl : y ∈ x :: l := hp.mem_iff.2 (by simp [hy])
   have a1 : y.lo ≤ x.lo := (List.pairwise_append.1 h2).2.2 y hy x (by simp)
   have a2 : x.lo ≤ y.lo := by
    rcases List.mem_cons.1 hyl with rfl | h
    ·exact Int.le_refl _
    ·exact (List.pairwise_cons.1 h1).1 y h
   exact ⟨by omega, hf y hyl⟩
  rw [pushes_bring A acc x B hA (hf x (by simp))]
  have hb : byLo (A ++ B) := h2.sublist (List.Sublist.append_left (List.sublist_cons_self x B) A)
  exact pushes_perm l (A ++ B) (pushR acc x) hp2 (List.pairwise_cons.1 h1).2 hb (fun y hy => hf y (by simp [hy]))
end Go.Abs
set_option maxRecDepth 100000
namespace Go.Abs
theorem insR_perm (s : List Iv) (x : Iv) : (insR s x).Perm (x :: s) := by
 unfold insR
 refine List.perm_middle.trans ?_
 rw [List.take_append_drop]
theorem insPos_spec (s : List Iv) (x : Iv) : ∀ j, j ≤ s.length → (∀ k, insPos s x j ≤ k → k < j → ∀ h : k < s.length, x.lo < s[k].lo) ∧ (∀ k, k + 1 = insPos s x j → ∀ h : k < s.length, s[k].lo ≤ x.lo)
 | 0, _ => ⟨fun k _ h => by omega, fun k h => by simp [insPos] at h⟩
 | j + 1, hj => by
  obtain ⟨a, b⟩ := insPos_spec s x j (by omega)
  have hg : gtAt s j x = decide (x.lo < s[j].lo) := by simp [gtAt, show j < s.length by omega]
  rw [insPos, hg]
  by_cases h : decide (x.lo < s[j].lo) = true
  ·rw [if_pos h]
   refine ⟨fun k h1 h2 h3 => ?_, b⟩
   by_cases e : k = j
   ·subst e; simpa using h
   ·exact a k h1 (by omega) h3
  ·rw [if_neg h]
   refine ⟨fun k h1 h2 => by omega, fun k h1 h2 => ?_⟩
   have e : k = j := by omega
   subst e
   simp at h; omega
theorem insR_byLo (s : List Iv) (x : Iv) (hs : byLo s) : byLo (insR s x) := by
 obtain ⟨a, b⟩ := insPos_spec s x s.length (Nat.le_refl _)
 have hq := insPos_le s x s.length
 unfold insR
 generalize insPos s x s.length = q at a b hq
 have hmono : ∀ i j, i < j → ∀ hi : i < s.length, ∀ hj : j < s.length, s[i].lo ≤ s[j].lo := fun i j h hi hj => List.pairwise_iff_getElem.1 hs i j hi hj h
 have htk : ∀ y ∈ s.take q, y.lo ≤ x.lo := fun y hy => by
  obtain ⟨i, hi, rfl⟩ := List.getElem_of_mem hy
  have hi' : i < q := by rw [List.length_take] at hi; omega
  rw [List.getElem_take]
  have h1 := b (q - 1) (by omega) (by omega)
  by_cases e : i = q - 1
  ·subst e; exact h1
  ·have := hmono i (q - 1) (by omega) (by omega) (by omega); omega
 have hdr : ∀ y ∈ s.drop q, x.lo ≤ y.lo := fun y hy => by
  obtain ⟨i, hi, rfl⟩ := List.getElem_of_mem hy
  rw [List.length_drop] at hi
  rw [List.getElem_drop]
  have := a (q + i) (by omega) (by omega) (by omega)
  omega
 have hsplit := hs
 unfold byLo at hsplit ⊢
 rw [← List.take_append_drop q s, List.pairwise_append] at hsplit
 obtain ⟨p1, p2, p3⟩ := hsplit
 refine List.pairwise_append.2 ⟨p1, List.pairwise_cons.2 ⟨hdr, p2⟩, fun y hy z hz => ?_⟩
 rcases List.mem_cons.1 hz with rfl | h
 ·exact htk y hy
 ·exact p3 y hy z h
theorem isort_spec0 : ∀ (l acc : List Iv), byLo acc → (l.foldl insR acc).Perm (acc ++ l) ∧ byLo (l.foldl insR acc)
 | [], acc, h => ⟨by simp, h⟩
 | x :: r, acc, h => by
  obtain ⟨a, b⟩ := isort_spec0 r (insR acc x) (insR_byLo acc x h)
  refine ⟨a.trans ?_, b⟩
  exact ((insR_perm acc x).append_right r).trans List.perm_middle.symm
theorem isort_spec (l : List Iv) : (isortR l).Perm l ∧ byLo (isortR l) := by
 have := isort_spec0 l [] .nil
 simpa [isortR] using this
end Go.Abs
