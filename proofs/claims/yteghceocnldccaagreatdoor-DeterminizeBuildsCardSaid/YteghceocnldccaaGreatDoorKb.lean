/- Part Kb of the proof: an abstract machine over the model, and what the functions of the program hand back in its terms. No condition. -/
import Derived.Test.YteghceocnldccaaGreatDoorKa
import Derived.Lib.SliceRun
import Derived.Laws.CopyRow
import Derived.Lib.AppendZeros
import Derived.Lib.Overlaps
import Derived.ProofKit
import Derived.OpenShut
import Derived.Carry
import Derived.Deep.DeepHandedRow
import Derived.Lib.ConvBytes
import Derived.Laws.BytesString
import Derived.Laws.IdiomStrings
import Derived.Lib.BufferRead
import Derived.Lib.AppendStr
import Derived.Lib.Builder
import Derived.Lib.UnsafeStr
import Derived.Laws.Externs
import Derived.RangeFuncOwn
import Derived.RangeFuncNested
import Derived.Shelf.GgSortFunc.RowK
import Derived.Shelf.SlSortCmp.WholeK
import Derived.Shelf.SlSortCmp.NoneTotal
set_option linter.all false
namespace Go.Abs
open Go Go.RowKit
section
variable {P : Program} [Env P] {T : TT} {nt k : Nat} {S : AS} {ops : Array Oper} {o : Oper} {R : AS → Prop}

section
variable {W0 w w' : World} {I0 I : Nat → Prop} {m : Nat → Option Nat} {H : List AObj}

theorem WS.adopt (h : WS W0 I0 w I m H) {id : Nat} {o o' : AObj} {b : Nat} (ho : H[id]? = some o) (hl : o.live = true) (hm : m id = some b) (hg : w.grownBy w' (some b))
  (hsh : ∀ s, w.shape? b = some s → w'.shape? b = some s) (hO : ∀ m', Fut H.length w I m w' I m' → ObjR w' I m' (H.length + 1) (some b) o') :
  WS W0 I0 w' I (upd m H.length (some b)) (H.set id .dead ++ [o']) ∧ Fut H.length w I m w' I (upd m H.length (some b)) := by
 obtain ⟨hb1, hb2, hb3⟩ := h.own id o b ho hl hm
 have hid : id < H.length := (List.getElem?_eq_some_iff.1 ho).1
 have hf : Fut H.length w I m w' I (upd m H.length (some b)) := ⟨⟨fun _ h => h, fun c hc => hg.block c (h.iw c hc).1 (fun e => hb2 (by injection e with e; exact e ▸ hc))⟩, fun _ hid => upd_lt hid, fun c s hs => by
  by_cases hcb : c = b
  ·subst hcb; exact hsh s hs
  ·rw [shape_of_block (hg.block c (shape_lt hs) (fun e => hcb (by injection e)))]; exact hs⟩
 have hcase : ∀ (k : Nat) (p : AObj), (H.set id .dead ++ [o'])[k]? = some p → (k < H.length ∧ p = .dead) ∨ (k < H.length ∧ k ≠ id ∧ H[k]? = some p) ∨ (k = H.length ∧ p = o') := fun k p hp => by
  rcases Nat.lt_trichotomy k H.length with h1 | h1 | h1
  ·rw [List.getElem?_append_left (by simpa using h1)] at hp
   by_cases hk : k = id
   ·subst hk
    rw [List.getElem?_set_self h1] at hp
    exact .inl ⟨h1, (Option.some.inj hp).symm⟩
   ·rw [List.getElem?_set_ne (by omega)] at hp
    exact .inr (.inl ⟨h1, hk, hp⟩)
  ·subst h1
   rw [List.getElem?_append_right (by simp)] at hp
   simp at hp
   exact .inr (.inr ⟨rfl, hp.symm⟩)
  ·have := (List.getElem?_eq_some_iff.1 hp).1; simp at this; omega
 refine ⟨⟨h.below.grown hg h.below.size (fun k hk => by injection hk with hk; omega), h.i0, fun c hc => ⟨Nat.lt_of_lt_of_le (h.iw c hc).1 hg.size, (h.iw c hc).2⟩, fun k p hp => ?_, fun k p c hp lp mc => ?_, fun i j oi oj c hi hj li lj mi mj => ?_⟩, hf⟩
 ·rw [List.length_append, List.length_set, List.length_singleton]
  rcases hcase k p hp with ⟨h1, rfl⟩ | ⟨h1, h2, h3⟩ | ⟨rfl, rfl⟩
  ·trivial
  ·rw [upd_lt h1]
   by_cases hlp : p.live = true
   ·exact (h.obj k p h3).mono hf (by omega) (fun _ c hc => hg.block c (h.own k p c h3 hlp hc).2.2 (fun e => h2 (by injection e with e; subst e; exact h.inj k id p o c h3 ho hlp hl hc hm)))
   ·exact (h.obj k p h3).mono hf (by omega) (fun hl' => absurd hl' hlp)
  ·rw [upd_same]; exact hO _ hf
 ·rcases hcase k p hp with ⟨h1, rfl⟩ | ⟨h1, h2, h3⟩ | ⟨rfl, rfl⟩
  ·simp [AObj.live] at lp
  ·rw [upd_lt h1] at mc
   obtain ⟨h3, h4, h5⟩ := h.own k p c h3 lp mc
   exact ⟨h3, h4, Nat.lt_of_lt_of_le h5 hg.size⟩
  ·rw [upd_same] at mc
   cases mc
   exact ⟨hb1, hb2, Nat.lt_of_lt_of_le hb3 hg.size⟩
 ·rcases hcase i oi hi with ⟨h1, rfl⟩ | ⟨h1, h2, h3⟩ | ⟨rfl, rfl⟩
  ·simp [AObj.live] at li
  ·rcases hcase j oj hj with ⟨g1, rfl⟩ | ⟨g1, g2, g3⟩ | ⟨rfl, rfl⟩
   ·simp [AObj.live] at lj
   ·rw [upd_lt h1] at mi; rw [upd_lt g1] at mj
    exact h.inj i j oi oj c h3 g3 li lj mi mj
   ·rw [upd_lt h1] at mi; rw [upd_same] at mj
    cases mj
    exact absurd (h.inj i id oi o b h3 ho li hl mi hm) h2
  ·rcases hcase j oj hj with ⟨g1, rfl⟩ | ⟨g1, g2, g3⟩ | ⟨rfl, rfl⟩
   ·simp [AObj.live] at lj
   ·rw [upd_lt g1] at mj; rw [upd_same] at mi
    cases mi
    exact absurd (h.inj j id oj o b g3 ho lj hl mj hm) g2
   ·rfl

def contA (H : List AObj) : AV → Option (List AV)
 | .list ys => some ys
 | .sl id c lo len => match H[id]? with
  | some (.arr _ c' xs) => if c = c' ∧ lo + len ≤ xs.length then some ((xs.drop lo).take len) else none
  | _ => none
 | .nils => some []
 | _ => none

theorem contA_sound (hw : WS W0 I0 w I m H) {v : Value} {x : AV} {ys : List AV} (hv : VR w I m H.length v x) (h : contA H x = some ys) :
  ∃ (ao : Option Addr) (cap : Nat) (u : Nat → Nat → Value), v = .slice ao ys.length cap ∧
   (0 < ys.length → ∃ ad, ao = some ad ∧ ∃ c, (∀ y ∈ ys, y.cells.length = c) ∧ ∀ i j, i < ys.length → j < c → w.cell? (ad.add (i * c + j)) = some (u i j)) ∧
   (∀ (i : Nat) (x : AV), ys[i]? = some x → ∀ (j : Nat) (y : AV), x.cells[j]? = some y → PVR w I (u i j) y) := by
 cases x with
 | list zs =>
  simp only [contA, Option.some.injEq] at h
  subst h
  obtain ⟨a, cap, c, u, rfl, _, _, hc, ha, hu⟩ := hv.list_inv.list_inv
  exact ⟨a, cap, u, rfl, fun h0 => by obtain ⟨ad, e, _, hcell⟩ := ha h0; exact ⟨ad, e, c, hc, hcell⟩, hu⟩
 | nils =>
  simp only [contA, Option.some.injEq] at h
  subst h
  obtain rfl := hv.nils_inv
  exact ⟨none, 0, fun _ _ => undef, rfl, fun h0 => by simp at h0, fun i x hx => by simp at hx⟩
 | sl id c lo len =>
  simp only [contA] at h
  split at h
  ·rename_i e c' xs ho
   split at h
   ·rename_i hc
    obtain ⟨rfl, hl⟩ := hc
    simp only [Option.some.injEq] at h
    subst h
    have hlen : ((xs.drop lo).take len).length = len := by simp; omega
    rcases hv.sl_inv with ⟨b, cap, t, hb, hn, hs, hl', hmax, rfl⟩ | ⟨hb, hn, rfl, rfl, rfl⟩ | ⟨ad, hn, hlo, rfl, rfl⟩
    ·rcases hw.obj id _ ho with ⟨e1, rfl⟩ | ⟨b', cap', vs, hb', hh, q1, q2, q3, q4, hr⟩
     ·rw [hb] at e1; cases e1
     obtain rfl : b = b' := by rw [hb] at hb'; exact Option.some.inj hb'
     refine ⟨_, cap, fun i j => vs.getD ((lo + i) * c + j) undef, by rw [hlen], fun _ => ⟨_, rfl, c, fun x hx => q4 x (List.mem_of_mem_drop (List.mem_of_mem_take hx)), fun i j hi hj => ?_⟩, fun i x hx j z hz => ?_⟩
     ·rw [hlen] at hi
      rw [Addr.add_lit, cell_of_row w b _ vs e (0, 0) hh]
      simp only [Nat.add_mul]
      have hlt : (lo + i) * c + j < vs.size := by
       rw [q3]
       have : (lo + i + 1) * c ≤ cap' * c := Nat.mul_le_mul_right c (by omega)
       rw [Nat.add_mul (lo + i)] at this; omega
      rw [Nat.add_mul] at hlt
      rw [show lo * c + (i * c + j) = lo * c + i * c + j by omega]
      simp [hlt]
     ·rw [List.getElem?_take] at hx
      split at hx
      ·rw [List.getElem?_drop] at hx
       obtain ⟨v, hv, hp⟩ := hr (lo + i) x hx j z hz
       simp only [Array.getD_eq_getD_getElem?, hv, Option.getD_some]
       exact hp
      ·cases hx
    ·exact ⟨none, 0, fun _ _ => undef, by rw [hlen], fun h0 => by simp at h0, fun i x hx => by simp at hx⟩
    ·exact ⟨some ad, 0, fun _ _ => undef, by rw [hlen], fun h0 => by simp at h0, fun i x hx => by simp at hx⟩
   ·cases h
  ·cases h
 | _ => simp [contA] at h
end

def flatCells (u : Nat → Nat → Value) (n c : Nat) : List Value := (List.range (n * c)).map fun q => u (q / c) (q % c)
theorem flatCells_length (u : Nat → Nat → Value) (n c : Nat) : (flatCells u n c).length = n * c := by simp [flatCells]
theorem flatCells_get (u : Nat → Nat → Value) (n c i j : Nat) (hi : i < n) (hj : j < c) : (flatCells u n c)[i * c + j]? = some (u i j) := by
 have hlt : i * c + j < n * c := by
  have : (i + 1) * c ≤ n * c := Nat.mul_le_mul_right c hi
  rw [Nat.add_mul] at this; omega
 have h1 : (i * c + j) / c = i := by
  rw [Nat.add_comm, Nat.add_mul_div_right _ _ (by omega), Nat.div_eq_of_lt hj]; omega
 have h2 : (i * c + j) % c = j := by rw [Nat.add_comm, Nat.add_mul_mod_self_right, Nat.mod_eq_of_lt hj]
 simp [flatCells, List.getElem?_range hlt, h1, h2]
theorem flatCells_of (u : Nat → Nat → Value) (n c q : Nat) (v : Value) (h : (flatCells u n c)[q]? = some v) : q < n * c ∧ 0 < c ∧ q / c < n ∧ q % c < c ∧ q = q / c * c + q % c ∧ v = u (q / c) (q % c) := by
 have hlt : q < n * c := by have := (List.getElem?_eq_some_iff.1 h).1; rwa [flatCells_length] at this
 have hc : 0 < c := by
  rcases Nat.eq_zero_or_pos c with h0 | h0
  ·subst h0; simp at hlt
  ·exact h0
 refine ⟨hlt, hc, (Nat.div_lt_iff_lt_mul hc).2 hlt, Nat.mod_lt _ hc, by rw [Nat.mul_comm]; exact (Nat.div_add_mod q c).symm, ?_⟩
 simp only [flatCells, List.getElem?_map, List.getElem?_range hlt, Option.map_some, Option.some.injEq] at h
 exact h.symm

def appBase (S : AS) (e : TypeId) (c : Nat) : AV → Option (List AV × List AObj)
 | .nils => some ([], S.hp)
 | .sl id c' 0 len => match S.hp[id]? with
  | some (.arr e' c'' xs) => if c' = c ∧ c'' = c ∧ e' = e ∧ len = xs.length then some (xs, S.hp.set id .dead) else none
  | _ => none
 | _ => none

theorem AStep_append (hT : TOk P T) (hw : wantedA ops S o = some true) {s x : Operand} {t e : TypeId} (ho : o.op = .call ⟨.builtin .append, #[s, x], #[t, t]⟩) {it ei : TI} (ht : look T t = some it) (hit : it.desc = .slice e) (he : look T e = some ei)
  (hz : ei.zero.cells.size = ei.size) (hsz : 0 < ei.size) {sv xv : AV} (hs : rho S.sl s = some sv) (hx : rho S.sl x = some xv) {xs ys : List AV} {H1 : List AObj} (hb : appBase S e ei.size sv = some (xs, H1)) (hy : contA S.hp xv = some ys)
  (hck : ∀ y ∈ ys, y.cells.length = ei.size ∧ y.cells.all AV.leaf = true) (hbound : (xs.length + ys.length) * ei.bytes ≤ 140737488355328) (hlen : xs.length + ys.length ≤ 9223372036854775807) (hd : dstOk nt o = true)
  (hR : R (({ S with hp := H1 ++ [.arr e ei.size (xs ++ ys)] } : AS).putD o.dst (.sl S.hp.length ei.size 0 (xs.length + ys.length)))) : AStep P nt k true ops o S R := fun C a w K Q hst hK => by
 unfold OpW
 rw [if_pos (hst.wanted hw)]
 obtain ⟨I, m, hws, hsl, hk, hE⟩ := hst
 obtain ⟨ao, cap, u, hxv, hcell, hpv⟩ := contA_sound hws (rho_sound hsl hx) hy
 have hsv := rho_sound hsl hs
 obtain ⟨ti, hti, tz, ts, tb⟩ := hT.info he
 have hut := hT.und ht
 rw [hit] at hut
 have hn1 : H1.length = S.hp.length := by
  unfold appBase at hb
  split at hb
  ·simp only [Option.some.injEq, Prod.mk.injEq] at hb; rw [← hb.2]
  ·split at hb
   ·split at hb
    ·simp only [Option.some.injEq, Prod.mk.injEq] at hb; rw [← hb.2]; simp
    ·cases hb
   ·cases hb
  ·cases hb
 -- what the run comes to decides all
 have fin : ∀ (v : Value) (w' : World) (m' : Nat → Option Nat), (Builtin.append_ #[t, t] o.type #[a.eval s, a.eval x]).run P w = .ok v w' → WS C.W0 C.I0 w' I m' (H1 ++ [.arr e ei.size (xs ++ ys)]) → Fut S.hp.length w I m w' I m' →
   VR w' I m' (S.hp.length + 1) v (.sl S.hp.length ei.size 0 (xs.length + ys.length)) → wpA P o a w K Q := fun v w' m' hrun g1 g2 g3 => by
  unfold wpA
  have : (execOp a.eval o).run P w = .ok (.value v) w' := by simp [execOp, ho, resolve, invoke, builtin, hrun]
  rw [this]
  exact hK _ _ w' hR (St.value hsl hk hE g1 g2 (by simp [hn1]) (dstOk_spec hd) (by simpa [hn1] using g3)) (fun e => by cases e)
 -- nothing is appended
 have zero : ys = [] → ∀ (b0 : Option Addr) (n0 c0 : Nat), n0 ≤ c0 → a.eval s = .slice b0 n0 c0 → (Builtin.append_ #[t, t] o.type #[a.eval s, a.eval x]).run P w = .ok (.slice b0 n0 c0) w := fun hy0 b0 n0 c0 hle hs0 => by
  rw [hs0, hxv, hy0]
  cases ao <;> cases b0 <;> simp [Builtin.append_, run_underlying hut, sizeOf, typeInfo, hti, Builtin.lenOf, Builtin.firstCells, hle, loadCells, loadCellsFrom, storeCells]
 -- a new row
 have newrow : ∀ (cap' : Nat) (cs : Array Value), xs.length + ys.length ≤ cap' → cap' ≤ maxLen → cs.size = cap' * ei.size →
   (∀ (i : Nat) (z : AV), (xs ++ ys)[i]? = some z → z.cells.length = ei.size ∧ ∀ (j : Nat) (y : AV), z.cells[j]? = some y → ∃ v, cs[i * ei.size + j]? = some v ∧ PVR w I v y) →
   (Builtin.append_ #[t, t] o.type #[a.eval s, a.eval x]).run P w = .ok (.slice (some ⟨w.heap.size, 0, none⟩) (xs.length + ys.length) cap') (w.drew.alloc (.cells cs e)) → WS C.W0 C.I0 w I m H1 → wpA P o a w K Q := fun cap' cs h1 h2 h3 h4 hrun hw1 => by
  have hbl : Below w.heap.size w (w.drew.alloc (.cells cs e)) := (Below.refl _ _).drew.alloc (Nat.le_refl _) _
  obtain ⟨g1, g2⟩ := hw1.push hbl (some w.heap.size) (fun b e => by injection e with e; subst e; simp) (.arr e ei.size (xs ++ ys)) (fun m' hf hm => .inr ⟨w.heap.size, cap', cs, rfl, heap_alloc_new w.drew _, by simpa using h1, h2, h3,
   fun z hz' => by obtain ⟨i, hi⟩ := List.mem_iff_getElem?.1 hz'; exact (h4 i z hi).1, fun i z hi j y hy => by obtain ⟨v, q1, q2⟩ := (h4 i z hi).2 j y hy; exact ⟨v, q1, q2.mono hf.ext⟩⟩)
  rw [hn1] at g1 g2
  refine fin _ _ _ hrun g1 g2 ?_
  have := VR.sl (w := w.drew.alloc (.cells cs e)) (I := I) (m := upd m S.hp.length (some w.heap.size)) (n := S.hp.length + 1) S.hp.length ei.size 0 (xs.length + ys.length) cap' w.heap.size e (by omega) (upd_same _ _ _)
   (by have := heap_alloc_new w.drew (.cells cs e); simp only [World.size_drew] at this; simp only [World.shape?, this, h3, Nat.zero_add]) h1 (by omega)
  simpa using this
 have ysz : ∀ y ∈ ys, y.cells.length = ei.size := fun y hy => (hck y hy).1
 have news : 0 < ys.length → ∃ ad, ao = some ad ∧ ∀ (q : Nat) (v : Value), (flatCells u ys.length ei.size)[q]? = some v → w.cell? (ad.add q) = some v := fun h0 => by
  obtain ⟨ad, e1, c, h1, h2⟩ := hcell h0
  have hc : c = ei.size := by rw [← h1 _ (List.getElem_mem h0), ysz _ (List.getElem_mem h0)]
  subst hc
  refine ⟨ad, e1, fun q v hq => ?_⟩
  obtain ⟨_, _, q1, q2, q3, rfl⟩ := flatCells_of _ _ _ _ _ hq
  have := h2 _ _ q1 q2
  rw [← q3] at this
  exact this
 have one : ∀ v ∈ flatCells u ys.length ei.size, v.oneCell' = true := fun v hv => by
  obtain ⟨q, hq⟩ := List.mem_iff_getElem?.1 hv
  obtain ⟨_, _, q1, q2, q3, rfl⟩ := flatCells_of _ _ _ _ _ hq
  have hyq : ys[q / ei.size]? = some ys[q / ei.size] := List.getElem?_eq_getElem q1
  have hcq := ysz _ (List.getElem_mem q1)
  have hzq : (ys[q / ei.size]).cells[q % ei.size]? = some ((ys[q / ei.size]).cells[q % ei.size]'(by omega)) := List.getElem?_eq_getElem (by omega)
  exact (VR.pure (m := m) (n := 0) (hpv _ _ hyq _ _ hzq)).oneCell (List.all_eq_true.1 (hck _ (List.getElem_mem q1)).2 _ (List.mem_of_getElem? hzq))
 have yrel : ∀ (i : Nat) (z : AV), ys[i]? = some z → ∀ (j : Nat) (y : AV), z.cells[j]? = some y → (flatCells u ys.length ei.size)[i * ei.size + j]? = some (u i j) ∧ PVR w I (u i j) y := fun i z hz' j y hy => by
  have hi := (List.getElem?_eq_some_iff.1 hz').1
  have hj := (List.getElem?_eq_some_iff.1 hy).1
  rw [ysz z (List.mem_of_getElem? hz')] at hj
  exact ⟨flatCells_get _ _ _ _ _ hi hj, hpv i z hz' j y hy⟩
 have capw : ∀ old, xs.length + ys.length ≤ grownCap w (xs.length + ys.length) old e ∧ grownCap w (xs.length + ys.length) old e ≤ maxLen := fun old =>
  ⟨grownCap_ge _ _ _ _, grownCap_le_maxLen w _ old e (by unfold maxLen; omega)⟩
 have fromNone : a.eval s = .slice none 0 0 → xs = [] → WS C.W0 C.I0 w I m H1 → wpA P o a w K Q := fun hs0 hx0 hw1 => by
  subst hx0
  rcases Nat.eq_zero_or_pos ys.length with h0 | h0
  ·have hy0 := List.eq_nil_of_length_eq_zero h0
   have hrun := zero hy0 none 0 0 (Nat.le_refl _) hs0
   obtain ⟨g1, g2⟩ := hw1.push (Below.refl _ _) none (fun b e => by cases e) (.arr e ei.size ([] ++ ys)) (fun m' _ _ => .inl ⟨rfl, by simp [hy0]⟩)
   rw [hn1] at g1 g2
   refine fin _ _ _ hrun g1 g2 ?_
   rw [h0]
   exact .slnone _ _ (by omega) (upd_same _ _ _)
  ·obtain ⟨ad, rfl, hnew⟩ := news h0
   have hrun := run_append_nil (P := P) w t o.type e ti ei.zero hut hti tz ad ys.length cap (flatCells u ys.length ei.size) (by rw [flatCells_length, ts]) hnew h0 (by simp at hlen; omega) (by rw [tb]; simp at hbound; omega)
   obtain ⟨c1, c2⟩ := capw 0
   simp only [List.length_nil, Nat.zero_add] at c1 c2
   refine newrow (grownCap w ys.length 0 e) _ (by simpa using c1) c2 ?_ ?_ (by rw [hs0, hxv]; simpa using hrun) hw1
   ·simp only [Array.size_append, List.size_toArray, flatCells_length, size_zeroCells, hz, ← Nat.add_mul]
    congr 1; omega
   ·intro i z hi
    simp only [List.nil_append] at hi
    refine ⟨ysz z (List.mem_of_getElem? hi), fun j y hy => ?_⟩
    obtain ⟨q1, q2⟩ := yrel i z hi j y hy
    exact ⟨_, by rw [Array.getElem?_append_left (by simpa using (List.getElem?_eq_some_iff.1 q1).1)]; simpa using q1, q2⟩
 unfold appBase at hb
 split at hb
 ·simp only [Option.some.injEq, Prod.mk.injEq] at hb
  obtain ⟨rfl, rfl⟩ := hb
  exact fromNone hsv.nils_inv rfl hws
 ·rename_i id c' len
  split at hb
  ·rename_i e' c'' xs' hob
   split at hb
   ·rename_i hc
    obtain ⟨rfl, rfl, rfl, rfl⟩ := hc
    simp only [Option.some.injEq, Prod.mk.injEq] at hb
    obtain ⟨rfl, rfl⟩ := hb
    have hkill := hws.kill id
    rcases hsv.sl_inv with ⟨b, cp, t', hb, hn, hsh, hl', hmax, hse⟩ | ⟨hb, hn, _, hl0, hse⟩ | ⟨ad, hn, hlo, _, _⟩
    ·rcases hws.obj id _ hob with ⟨e1, _⟩ | ⟨b', cp', vs, hb', hh, q1, q2, q3, q4, hr⟩
     ·rw [hb] at e1; cases e1
     obtain rfl : b = b' := by rw [hb] at hb'; exact Option.some.inj hb'
     have hcp : cp = cp' := by
      have : w.shape? b = some (e', vs.size) := by simp [World.shape?, hh]
      rw [this] at hsh
      simp only [Option.some.injEq, Prod.mk.injEq, Nat.zero_add, q3] at hsh
      exact (Nat.eq_of_mul_eq_mul_right hsz hsh.2).symm
     subst hcp
     simp only [Nat.zero_mul] at hse
     have xrel : ∀ (i : Nat) (z : AV), xs'[i]? = some z → ∀ j, j < ei.size → i * ei.size + j < xs'.length * ei.size := fun i z hi j hj => by
      have : (i + 1) * ei.size ≤ xs'.length * ei.size := Nat.mul_le_mul_right _ (List.getElem?_eq_some_iff.1 hi).1
      rw [Nat.add_mul] at this; omega
     have hxv' : xs'.length * ei.size ≤ vs.size := by rw [q3]; exact Nat.mul_le_mul_right _ q1
     have slv : ∀ (w' : World), w'.shape? b = some (e', cp * ei.size) → xs'.length + ys.length ≤ cp → VR w' I (upd m S.hp.length (some b)) (S.hp.length + 1) (.slice (some ⟨b, 0, none⟩) (xs'.length + ys.length) cp) (.sl S.hp.length ei.size 0 (xs'.length + ys.length)) := fun w' hs' hle => by
      have := VR.sl (w := w') (I := I) (m := upd m S.hp.length (some b)) (n := S.hp.length + 1) S.hp.length ei.size 0 (xs'.length + ys.length) cp b e' (by omega) (upd_same _ _ _) (by simpa using hs') hle (by omega)
      simpa using this
     rcases Nat.eq_zero_or_pos ys.length with h0 | h0
     ·have hy0 := List.eq_nil_of_length_eq_zero h0
      have hrun := zero hy0 _ _ _ hl' hse
      obtain ⟨g1, g2⟩ := hws.adopt (w' := w) (o' := .arr e' ei.size (xs' ++ ys)) hob rfl hb (World.grownBy.refl _ _) (fun _ h => h) (fun m' hf => .inr ⟨b, cp, vs, rfl, hh, by simp [hy0, q1], q2, q3, by simpa [hy0] using q4, by simpa [hy0] using hr⟩)
      refine fin _ _ _ hrun g1 g2 ?_
      have := slv w (by simp [World.shape?, hh, q3]) (by omega)
      rw [h0] at this ⊢
      exact this
     ·obtain ⟨ad, rfl, hnew⟩ := news h0
      by_cases hroom : xs'.length + ys.length ≤ cp
      ·have hfit : xs'.length * ti.size + (flatCells u ys.length ei.size).length ≤ vs.size := by rw [flatCells_length, ts, q3, ← Nat.add_mul]; exact Nat.mul_le_mul_right _ hroom
       have hrun := run_append_room (P := P) w t o.type e' ti hut hti b xs'.length cp vs hh ad ys.length cap (flatCells u ys.length ei.size) (by rw [flatCells_length, ts]) hnew one hroom hfit
       rw [ts] at hrun hfit
       have hspl : (vs.toList.take (xs'.length * ei.size) ++ flatCells u ys.length ei.size ++ vs.toList.drop (xs'.length * ei.size + (flatCells u ys.length ei.size).length)).toArray = spl vs (xs'.length * ei.size) (flatCells u ys.length ei.size).toArray := by simp [spl]
       rw [hspl] at hrun
       have hfs : xs'.length * ei.size + (flatCells u ys.length ei.size).toArray.size ≤ vs.size := by simpa using hfit
       have hsz' := spl_size vs (xs'.length * ei.size) (flatCells u ys.length ei.size).toArray hfs
       obtain ⟨g1, g2⟩ := hws.adopt (o' := .arr e' ei.size (xs' ++ ys)) hob rfl hb (grownBy_setRow w b (spl vs (xs'.length * ei.size) (flatCells u ys.length ei.size).toArray)) (shape_setRow hh hsz')
        (fun m' hf => .inr ⟨b, cp, _, rfl, setRow_heap w b vs _ e' _ hh, by simpa using hroom, q2, by rw [hsz', q3], fun z hz' => by
          rcases List.mem_append.1 hz' with h1 | h1
          ·exact q4 z h1
          ·exact ysz z h1, fun i z hi j y hy => by
          rw [spl_get _ _ _ _ hfs]
          by_cases hix : i < xs'.length
          ·rw [List.getElem?_append_left hix] at hi
           have hj : j < ei.size := by have := (List.getElem?_eq_some_iff.1 hy).1; rw [q4 z (List.mem_of_getElem? hi)] at this; exact this
           have := xrel i z hi j hj
           rw [if_neg (by omega)]
           obtain ⟨v, p1, p2⟩ := hr i z hi j y hy
           exact ⟨v, p1, p2.mono hf.ext⟩
          ·rw [List.getElem?_append_right (by omega)] at hi
           obtain ⟨p1, p2⟩ := yrel _ z hi j y hy
           have p3 := (List.getElem?_eq_some_iff.1 p1).1
           have p4 : i * ei.size = xs'.length * ei.size + (i - xs'.length) * ei.size := by rw [← Nat.add_mul]; congr 1; omega
           rw [if_pos (by simp only [List.size_toArray]; omega)]
           exact ⟨_, by rw [show i * ei.size + j - xs'.length * ei.size = (i - xs'.length) * ei.size + j by omega]; simpa using p1, p2.mono hf.ext⟩⟩)
       refine fin _ _ _ (by rw [hse, hxv]; exact hrun) g1 g2 (slv _ ?_ hroom)
       simp [World.shape?, setRow_heap w b vs _ e' _ hh, hsz', q3]
      ·have holds : ∀ (j : Nat) (v : Value), (vs.toList.take (xs'.length * ei.size))[j]? = some v → w.cell? ((⟨b, 0, none⟩ : Addr).add j) = some v := fun j v hj => by
        rw [Addr.add_lit, Nat.zero_add, cell_of_row w b j vs e' (0, 0) hh]
        rw [List.getElem?_take] at hj
        split at hj
        ·simpa using hj
        ·cases hj
       have hrun := run_append_grow (P := P) w t o.type e' ti ei.zero hut hti tz ⟨b, 0, none⟩ xs'.length cp (vs.toList.take (xs'.length * ei.size)) (by rw [ts]; simp; omega) holds ad ys.length cap (flatCells u ys.length ei.size) (by rw [flatCells_length, ts]) hnew (by omega) (by omega)
        (growslice_fits (by omega) (by rw [tb]; exact hbound))
       obtain ⟨c1, c2⟩ := capw cp
       refine newrow _ _ c1 c2 ?_ ?_ (by rw [hse, hxv]; exact hrun) hkill
       ·have : (vs.toList.take (xs'.length * ei.size)).length = xs'.length * ei.size := by simp; omega
        simp only [Array.size_append, List.size_toArray, flatCells_length, size_zeroCells, hz, this, ← Nat.add_mul]
        congr 1; omega
       ·intro i z hi
        have hl1 : (vs.toList.take (xs'.length * ei.size)).length = xs'.length * ei.size := by simp; omega
        by_cases hix : i < xs'.length
        ·rw [List.getElem?_append_left hix] at hi
         refine ⟨q4 z (List.mem_of_getElem? hi), fun j y hy => ?_⟩
         have hj : j < ei.size := by have := (List.getElem?_eq_some_iff.1 hy).1; rw [q4 z (List.mem_of_getElem? hi)] at this; exact this
         have hlt := xrel i z hi j hj
         obtain ⟨v, p1, p2⟩ := hr i z hi j y hy
         refine ⟨v, ?_, p2⟩
         rw [Array.getElem?_append_left (by simp; omega), Array.getElem?_append_left (by simp; omega), List.getElem?_toArray, List.getElem?_take, if_pos hlt]
         simpa using p1
        ·rw [List.getElem?_append_right (by omega)] at hi
         refine ⟨ysz z (List.mem_of_getElem? hi), fun j y hy => ?_⟩
         obtain ⟨p1, p2⟩ := yrel _ z hi j y hy
         have p3 := (List.getElem?_eq_some_iff.1 p1).1
         have p4 : i * ei.size = xs'.length * ei.size + (i - xs'.length) * ei.size := by rw [← Nat.add_mul]; congr 1; omega
         refine ⟨_, ?_, p2⟩
         rw [Array.getElem?_append_left (by simp only [Array.size_append, List.size_toArray, hl1]; omega), Array.getElem?_append_right (by simp only [List.size_toArray, hl1]; omega)]
         simp only [List.size_toArray, hl1]
         rw [show i * ei.size + j - xs'.length * ei.size = (i - xs'.length) * ei.size + j by omega]
         simpa using p1
    ·rcases hws.obj id _ hob with ⟨_, e1⟩ | ⟨b', _, _, hb', _⟩
     ·exact fromNone hse e1 hkill
     ·rw [hb] at hb'; cases hb'
    ·omega
   ·cases hb
  ·cases hb
 ·cases hb

end
end Go.Abs
namespace Go.Abs
open Go Go.RowKit
section
variable {P : Program} [Env P] {T : TT} {nt k : Nat} {S : AS} {Q : Exit → AS → Prop}

def ASeqS (P : Program) [Env P] (T : TT) (nt k : Nat) (ops : Array Oper) (Q : AS → Prop) : List Oper → AS → Prop
 | [], S => Q S
 | o :: l, S => if isAuto o.op then (match stepA T ops S o with
   | some S' => ASeqS P T nt k ops Q l S'
   | none => AStep P nt k true ops o S (ASeqS P T nt k ops Q l))
  else AStep P nt k true ops o S (ASeqS P T nt k ops Q l)

theorem ASeqS_list (hT : TOk P T) {ops : Array Oper} {R : AS → Prop} {C : Cx P} : ∀ (l : List Oper) (S : AS) (a : Act) (w : World), dstsOk nt l = true → ASeqS P T nt k ops R l S → St C nt k S a w → wpListA P ops (PstN C nt k R) l a w
 | [], S, a, w, _, h, hs => wpListA_nil ⟨S, h, hs⟩
 | o :: l, S, a, w, hd, h, hs => by
  simp only [dstsOk, List.all_cons, Bool.and_eq_true] at hd
  unfold ASeqS at h
  have key : AStep P nt k true ops o S (ASeqS P T nt k ops R l) := by
   split at h
   ·split at h
    ·rename_i S' hS'
     exact AStep_auto hT hS' hd.1 (fun _ => rfl) (by assumption) h
    ·exact h
   ·exact h
  have := key C a w (wpListA P ops (PstN C nt k R) l) (PstN C nt k R) hs (fun S' a' w' hR hs' _ => ASeqS_list hT l S' a' w' hd.2 hR hs')
  unfold wpListA
  exact this

theorem AWP_regS (hT : TOk P T) {id : Nat} {l : List Oper} (hd : dstsOk nt l = true) (h : ASeqS P T nt k l.toArray (Q .normal) l S) : AWP P nt k (.region id l.toArray false) Q S := fun C a w hs =>
 Pst_of_N (wpQ_region_lit (ASeqS_list hT l S a w hd h hs))

theorem ALoop_wf {α : Type} {c : Code} (F : α → AS) (Inv : α → Prop) (mu : α → Nat)
  (h : ∀ x, Inv x → (∀ y, Inv y → mu y < mu x → ALoop P nt k c Q (F y)) → AWP P nt k c (thenQ (ALoop P nt k c Q) Q) (F x)) : ∀ x, Inv x → ALoop P nt k c Q (F x) := by
 have key : ∀ n x, mu x = n → Inv x → ALoop P nt k c Q (F x) := by
  intro n
  induction n using Nat.strongRecOn with
  | _ n ih => exact fun x hx hI => ALoop_round (h x hI fun y hy hlt => ih (mu y) (by omega) y rfl hy)
 exact fun x hI => key _ x rfl hI

theorem ALoop_end {c : Code} {sl sl' : List (Nat × AV)} {H H' : List AObj} (G : List AObj) (h : ALoop P nt k c Q ⟨sl', H'⟩) (hH : H = H' ++ G) (hk : k ≤ H'.length) (h0 : keepOk sl sl')
  (hu : sl'.all (fun p => p.2.under H'.length) = true) (hu' : H'.all (objBelow H'.length) = true) : ALoop P nt k c Q ⟨sl, H⟩ := by
 subst hH
 exact ALoop_keep (sl' := sl') (ALoop_drop G h hk hu hu') h0

end

theorem deref_bool (g : Bool) (b : Bool) : deref g (.bool b) = some (.bool b) := rfl
theorem snap0_bool (H : List AObj) (b : Bool) : snap0 H (.bool b) = some (.bool b) := by simp [snap0, AV.pure]
theorem snap1_bool (H : List AObj) (b : Bool) : snap1 H (.bool b) = some (.bool b) := by simp [snap1, snap0, AV.pure]
theorem snapB_bool (H : List AObj) (b : Bool) : snapB H (.bool b) = some (.bool b) := by simp [snapB, snap1, snap0, AV.pure]
theorem snapA_bool (H : List AObj) (b : Bool) : snapA H (.bool b) = some (.bool b) := by simp [snapA, snapB, snap1, snap0, AV.pure]
theorem nrm1_bool (b : Bool) : AV.nrm1 (.bool b) = (.bool b) := rfl
theorem nrm_bool (b : Bool) : AV.nrm (.bool b) = (.bool b) := rfl
theorem deref_int (g : Bool) (k : IntKind) (n : Int) : deref g (.int k n) = some (.int k n) := rfl
theorem snap0_int (H : List AObj) (k : IntKind) (n : Int) : snap0 H (.int k n) = some (.int k n) := by simp [snap0, AV.pure]
theorem snap1_int (H : List AObj) (k : IntKind) (n : Int) : snap1 H (.int k n) = some (.int k n) := by simp [snap1, snap0, AV.pure]
theorem snapB_int (H : List AObj) (k : IntKind) (n : Int) : snapB H (.int k n) = some (.int k n) := by simp [snapB, snap1, snap0, AV.pure]
theorem snapA_int (H : List AObj) (k : IntKind) (n : Int) : snapA H (.int k n) = some (.int k n) := by simp [snapA, snapB, snap1, snap0, AV.pure]
theorem nrm1_int (k : IntKind) (n : Int) : AV.nrm1 (.int k n) = (.int k n) := rfl
theorem nrm_int (k : IntKind) (n : Int) : AV.nrm (.int k n) = (.int k n) := rfl
theorem deref_str (g : Bool) (s : List UInt8) : deref g (.str s) = some (.str s) := rfl
theorem snap0_str (H : List AObj) (s : List UInt8) : snap0 H (.str s) = some (.str s) := by simp [snap0, AV.pure]
theorem snap1_str (H : List AObj) (s : List UInt8) : snap1 H (.str s) = some (.str s) := by simp [snap1, snap0, AV.pure]
theorem snapB_str (H : List AObj) (s : List UInt8) : snapB H (.str s) = some (.str s) := by simp [snapB, snap1, snap0, AV.pure]
theorem snapA_str (H : List AObj) (s : List UInt8) : snapA H (.str s) = some (.str s) := by simp [snapA, snapB, snap1, snap0, AV.pure]
theorem nrm1_str (s : List UInt8) : AV.nrm1 (.str s) = (.str s) := rfl
theorem nrm_str (s : List UInt8) : AV.nrm (.str s) = (.str s) := rfl
theorem deref_list (g : Bool) (s : List AV) : deref g (.list s) = some (.list s) := rfl
theorem snap0_list (H : List AObj) (s : List AV) : snap0 H (.list s) = some (.list s) := by simp [snap0, AV.pure]
theorem snap1_list (H : List AObj) (s : List AV) : snap1 H (.list s) = some (.list s) := by simp [snap1, snap0, AV.pure]
theorem snapB_list (H : List AObj) (s : List AV) : snapB H (.list s) = some (.list s) := by simp [snapB, snap1, snap0, AV.pure]
theorem snapA_list (H : List AObj) (s : List AV) : snapA H (.list s) = some (.list s) := by simp [snapA, snapB, snap1, snap0, AV.pure]
theorem nrm1_lst (s : List AV) : AV.nrm1 (.list s) = (.list s) := rfl
theorem nrm_list (s : List AV) : AV.nrm (.list s) = (.list s) := rfl
theorem deref_nils (g : Bool)  : deref g .nils = some .nils := rfl
theorem deref_nilp (g : Bool)  : deref g .nilp = some .nilp := rfl
theorem snap0_nilp (H : List AObj)  : snap0 H .nilp = some .nilp := by simp [snap0, AV.pure]
theorem snap1_nilp (H : List AObj)  : snap1 H .nilp = some .nilp := by simp [snap1, snap0, AV.pure]
theorem snapB_nilp (H : List AObj)  : snapB H .nilp = some .nilp := by simp [snapB, snap1, snap0, AV.pure]
theorem snapA_nilp (H : List AObj)  : snapA H .nilp = some .nilp := by simp [snapA, snapB, snap1, snap0, AV.pure]
theorem nrm1_nilp  : AV.nrm1 .nilp = .nilp := rfl
theorem nrm_nilp  : AV.nrm .nilp = .nilp := rfl
theorem deref_nilf (g : Bool)  : deref g .nilf = some .nilf := rfl
theorem deref_nili (g : Bool)  : deref g .nili = some .nili := rfl
theorem deref_ifc (g : Bool)  : deref g .ifc = some .ifc := rfl
theorem snap0_nilf (H : List AObj)  : snap0 H .nilf = some .nilf := by simp [snap0, AV.pure]
theorem snap0_nili (H : List AObj)  : snap0 H .nili = some .nili := by simp [snap0, AV.pure]
theorem snap0_ifc (H : List AObj)  : snap0 H .ifc = some .ifc := by simp [snap0, AV.pure]
theorem snap1_nilf (H : List AObj)  : snap1 H .nilf = some .nilf := by simp [snap1, snap0, AV.pure]
theorem snap1_nili (H : List AObj)  : snap1 H .nili = some .nili := by simp [snap1, snap0, AV.pure]
theorem snap1_ifc (H : List AObj)  : snap1 H .ifc = some .ifc := by simp [snap1, snap0, AV.pure]
theorem snapB_nilf (H : List AObj)  : snapB H .nilf = some .nilf := by simp [snapB, snap1, snap0, AV.pure]
theorem snapB_nili (H : List AObj)  : snapB H .nili = some .nili := by simp [snapB, snap1, snap0, AV.pure]
theorem snapB_ifc (H : List AObj)  : snapB H .ifc = some .ifc := by simp [snapB, snap1, snap0, AV.pure]
theorem snapA_nilf (H : List AObj)  : snapA H .nilf = some .nilf := by simp [snapA, snapB, snap1, snap0, AV.pure]
theorem snapA_nili (H : List AObj)  : snapA H .nili = some .nili := by simp [snapA, snapB, snap1, snap0, AV.pure]
theorem snapA_ifc (H : List AObj)  : snapA H .ifc = some .ifc := by simp [snapA, snapB, snap1, snap0, AV.pure]
theorem nrm1_nilf  : AV.nrm1 .nilf = .nilf := rfl
theorem nrm1_nili  : AV.nrm1 .nili = .nili := rfl
theorem nrm1_ifc  : AV.nrm1 .ifc = .ifc := rfl
theorem nrm_nilf  : AV.nrm .nilf = .nilf := rfl
theorem nrm_nili  : AV.nrm .nili = .nili := rfl
theorem nrm_ifc  : AV.nrm .ifc = .ifc := rfl
theorem deref_iptr (g : Bool) (s : List AV) : deref g (.iptr s) = some (.iptr s) := rfl
theorem snap0_iptr (H : List AObj) (s : List AV) : snap0 H (.iptr s) = some (.iptr s) := by simp [snap0, AV.pure]
theorem snap1_iptr (H : List AObj) (s : List AV) : snap1 H (.iptr s) = some (.iptr s) := by simp [snap1, snap0, AV.pure]
theorem snapB_iptr (H : List AObj) (s : List AV) : snapB H (.iptr s) = some (.iptr s) := by simp [snapB, snap1, snap0, AV.pure]
theorem snapA_iptr (H : List AObj) (s : List AV) : snapA H (.iptr s) = some (.iptr s) := by simp [snapA, snapB, snap1, snap0, AV.pure]
theorem nrm1_iptr (s : List AV) : AV.nrm1 (.iptr s) = (.iptr s) := rfl
theorem nrm_iptr (s : List AV) : AV.nrm (.iptr s) = (.iptr s) := rfl
theorem deref_top (g : Bool)  : deref g .top = some .top := rfl
theorem snap0_top (H : List AObj)  : snap0 H .top = some .top := by simp [snap0, AV.pure]
theorem snap1_top (H : List AObj)  : snap1 H .top = some .top := by simp [snap1, snap0, AV.pure]
theorem snapB_top (H : List AObj)  : snapB H .top = some .top := by simp [snapB, snap1, snap0, AV.pure]
theorem snapA_top (H : List AObj)  : snapA H .top = some .top := by simp [snapA, snapB, snap1, snap0, AV.pure]
theorem nrm1_top  : AV.nrm1 .top = .top := rfl
theorem nrm_top  : AV.nrm .top = .top := rfl
theorem deref_agg (g : Bool) (s : List AV) : deref g (.agg s) = some (.agg s) := rfl
theorem deref_tup (g : Bool) (s : List AV) : deref g (.tup s) = some (.tup s) := rfl
theorem deref_fn (g : Bool) (f : Fn) (s t : List AV) : deref g (.fn f s t) = some (.fn f s t) := rfl
theorem deref_mref (g : Bool) (a : Nat) : deref g (.mref a) = some (.mref a) := rfl
theorem pure_mref (a : Nat) : AV.pure (.mref a) = false := by simp [AV.pure]
theorem under_mref (m a : Nat) : AV.under m (.mref a) = decide (a < m) := by simp [AV.under]
theorem deref_yld (g : Bool) (a : Nat) : deref g (.yld a) = some (.yld a) := rfl
theorem pure_yld (a : Nat) : AV.pure (.yld a) = false := by simp [AV.pure]
theorem under_yld (m a : Nat) : AV.under m (.yld a) = decide (a < m) := by simp [AV.under]
theorem deref_vptr (g : Bool) (a b : Nat) : deref g (.vptr a b) = some (.vptr a b) := rfl
theorem deref_ept (g : Bool) (a b c d : Nat) : deref g (.ept a b c d) = some (.ept a b c d) := rfl
theorem deref_sl (g : Bool) (a b c d : Nat) : deref g (.sl a b c d) = some (.sl a b c d) := rfl
theorem deref_opt (g p : Bool) (x : AV) : deref g (.opt p x) = if (!g || p) = true then some x else none := rfl
theorem snap0_nils (H : List AObj) : snap0 H .nils = some (.list []) := rfl
theorem snap1_nils (H : List AObj) : snap1 H .nils = some (.list []) := rfl
theorem snapB_nils (H : List AObj) : snapB H .nils = some (.list []) := rfl
theorem snapA_nils (H : List AObj) : snapA H .nils = some (.list []) := rfl
theorem nrm1_nils : AV.nrm1 .nils = .list [] := rfl
theorem nrm_nils : AV.nrm .nils = .list [] := rfl
theorem nrm1_agg (s : List AV) : AV.nrm1 (.agg s) = .agg s := rfl
theorem nrm1_fn (f : Fn) (s t : List AV) : AV.nrm1 (.fn f s t) = .fn f s t := rfl
theorem nrm_agg (s : List AV) : AV.nrm (.agg s) = .agg (s.map AV.nrm1) := rfl
theorem nrm_fn (f : Fn) (s t : List AV) : AV.nrm (.fn f s t) = .fn f (s.map AV.nrm1) (t.map AV.nrm1) := rfl
theorem snap0_agg (H : List AObj) (s : List AV) : snap0 H (.agg s) = if s.all AV.pure = true then some (.agg s) else none := by rw [snap0]; simp [AV.pure]; all_goals simp
theorem snap1_agg (H : List AObj) (s : List AV) : snap1 H (.agg s) = snap0 H (.agg s) := rfl
theorem snapB_agg (H : List AObj) (s : List AV) : snapB H (.agg s) = (allSome (s.map (snap1 H))).map .agg := rfl
theorem snapA_agg (H : List AObj) (s : List AV) : snapA H (.agg s) = (allSome (s.map (snap1 H))).map .agg := rfl
theorem snapA_tup (H : List AObj) (s : List AV) : snapA H (.tup s) = (allSome (s.map (snapB H))).map .tup := rfl
theorem snap0_sl (H : List AObj) (id c lo len : Nat) : snap0 H (.sl id c lo len) = match H[id]? with
  | some (.arr _ c' xs) => if c = c' ∧ lo + len ≤ xs.length then some (.list ((xs.drop lo).take len)) else none
  | _ => none := rfl
theorem snap1_sl (H : List AObj) (id c lo len : Nat) : snap1 H (.sl id c lo len) = snap0 H (.sl id c lo len) := rfl
theorem snapB_sl (H : List AObj) (id c lo len : Nat) : snapB H (.sl id c lo len) = snap0 H (.sl id c lo len) := rfl
theorem snapA_sl (H : List AObj) (id c lo len : Nat) : snapA H (.sl id c lo len) = snap0 H (.sl id c lo len) := rfl
theorem snap1_vptr (H : List AObj) (id off : Nat) : snap1 H (.vptr id off) = match H[id]? with
  | some (.vars cs) => (allSome (cs.map (snap0 H))).map fun ys => .iptr (ys.drop off)
  | _ => none := rfl
theorem snapB_vptr (H : List AObj) (id off : Nat) : snapB H (.vptr id off) = snap1 H (.vptr id off) := rfl
theorem snapA_vptr (H : List AObj) (id off : Nat) : snapA H (.vptr id off) = snap1 H (.vptr id off) := rfl
theorem snapB_fn (H : List AObj) (f : Fn) (xs ys : List AV) : snapB H (.fn f xs ys) = match allSome (xs.map (snap1 H)), allSome (ys.map (snap1 H)) with
  | some xs, some ys => some (.fn f xs ys)
  | _, _ => none := rfl
theorem snapA_fn (H : List AObj) (f : Fn) (xs ys : List AV) : snapA H (.fn f xs ys) = snapB H (.fn f xs ys) := rfl

theorem pure_agg (cs : List AV) : AV.pure (.agg cs) = cs.all AV.pure := by rw [AV.pure]; simp
theorem pure_tup (cs : List AV) : AV.pure (.tup cs) = cs.all AV.pure := by rw [AV.pure]; simp
theorem pure_fn (f : Fn) (xs ys : List AV) : AV.pure (.fn f xs ys) = (xs.all AV.pure && ys.all AV.pure) := by rw [AV.pure]; simp
theorem pure_bool (b : Bool) : AV.pure (.bool b) = true := by simp [AV.pure]
theorem pure_int (k : IntKind) (n : Int) : AV.pure (.int k n) = true := by simp [AV.pure]
theorem pure_str (s : List UInt8) : AV.pure (.str s) = true := by simp [AV.pure]
theorem pure_list (s : List AV) : AV.pure (.list s) = true := by simp [AV.pure]
theorem pure_nils : AV.pure .nils = true := by simp [AV.pure]
theorem pure_nilp : AV.pure .nilp = true := by simp [AV.pure]
theorem pure_nilf : AV.pure .nilf = true := by simp [AV.pure]
theorem pure_nili : AV.pure .nili = true := by simp [AV.pure]
theorem pure_ifc : AV.pure .ifc = true := by simp [AV.pure]
theorem pure_top : AV.pure .top = true := by simp [AV.pure]
theorem pure_iptr (s : List AV) : AV.pure (.iptr s) = true := by simp [AV.pure]
theorem pure_vptr (a b : Nat) : AV.pure (.vptr a b) = false := by simp [AV.pure]
theorem pure_ept (a b c d : Nat) : AV.pure (.ept a b c d) = false := by simp [AV.pure]
theorem pure_sl (a b c d : Nat) : AV.pure (.sl a b c d) = false := by simp [AV.pure]
theorem flat_agg (cs : List AV) : AV.flat (.agg cs) = cs.all AV.flat := by rw [AV.flat]; simp
theorem flat_tup (cs : List AV) : AV.flat (.tup cs) = cs.all AV.flat := by rw [AV.flat]; simp
theorem flat_bool (b : Bool) : AV.flat (.bool b) = true := by simp [AV.flat]
theorem flat_int (k : IntKind) (n : Int) : AV.flat (.int k n) = true := by simp [AV.flat]
theorem flat_str (s : List UInt8) : AV.flat (.str s) = true := by simp [AV.flat]
theorem under_agg (n : Nat) (cs : List AV) : AV.under n (.agg cs) = cs.all (AV.under n) := by rw [AV.under]; simp
theorem under_tup (n : Nat) (cs : List AV) : AV.under n (.tup cs) = cs.all (AV.under n) := by rw [AV.under]; simp
theorem under_fn (n : Nat) (f : Fn) (xs ys : List AV) : AV.under n (.fn f xs ys) = (xs.all (AV.under n) && ys.all (AV.under n)) := by rw [AV.under]; simp
theorem under_bool (m : Nat) (b : Bool) : AV.under m (.bool b) = true := by simp [AV.under]
theorem under_int (m : Nat) (k : IntKind) (n : Int) : AV.under m (.int k n) = true := by simp [AV.under]
theorem under_str (m : Nat) (s : List UInt8) : AV.under m (.str s) = true := by simp [AV.under]
theorem under_list (m : Nat) (s : List AV) : AV.under m (.list s) = true := by simp [AV.under]
theorem under_iptr (m : Nat) (s : List AV) : AV.under m (.iptr s) = true := by simp [AV.under]
theorem under_nils (m : Nat) : AV.under m .nils = true := by simp [AV.under]
theorem under_nilp (m : Nat) : AV.under m .nilp = true := by simp [AV.under]
theorem under_nilf (m : Nat) : AV.under m .nilf = true := by simp [AV.under]
theorem under_nili (m : Nat) : AV.under m .nili = true := by simp [AV.under]
theorem under_ifc (m : Nat) : AV.under m .ifc = true := by simp [AV.under]
theorem under_top (m : Nat) : AV.under m .top = true := by simp [AV.under]
theorem under_opt (m : Nat) (p : Bool) (x : AV) : AV.under m (.opt p x) = x.under m := by simp [AV.under]
theorem under_vptr (m a b : Nat) : AV.under m (.vptr a b) = decide (a < m) := by simp [AV.under]
theorem under_ept (m a b c d : Nat) : AV.under m (.ept a b c d) = decide (a < m) := by simp [AV.under]
theorem under_sl (m a b c d : Nat) : AV.under m (.sl a b c d) = decide (a < m) := by simp [AV.under]

attribute [simp] deref_mref pure_mref under_mref deref_yld pure_yld under_yld look put AS.putD ofConst rho rhoG TI.agg outOf cellsAt loadA fieldAddrA indexAddrA indexA fieldA intA strA binA nilEqA unA convA setCells AV.cells AV.leaf AV.isTop fillA fieldPlaces bnd sliceA lenA extractA pickA allSome minmaxA nilCheckA builtinA
 valA_move valA_assign valA_pick valA_load valA_nilCheck valA_binOp valA_unOp valA_convert valA_build valA_makeFunc valA_slice valA_fieldAddr valA_field valA_indexAddr valA_index valA_extract valA_call newA AV.withCells storeA wantedA stepA buildA
 isVal isAuto isStore ASeqS thenQ blockQ keepOk objBelow TI.zeros zeroCell argSlots Value.cells EndQ resA res1 deref_bool snap0_bool snap1_bool snapB_bool snapA_bool nrm1_bool nrm_bool deref_int snap0_int snap1_int snapB_int snapA_int nrm1_int nrm_int deref_str snap0_str snap1_str snapB_str snapA_str nrm1_str nrm_str deref_list snap0_list snap1_list snapB_list snapA_list nrm1_lst nrm_list deref_nils deref_nilp snap0_nilp snap1_nilp snapB_nilp snapA_nilp nrm1_nilp nrm_nilp deref_nilf deref_nili deref_ifc snap0_nilf snap0_nili snap0_ifc snap1_nilf snap1_nili snap1_ifc snapB_nilf snapB_nili snapB_ifc snapA_nilf snapA_nili snapA_ifc nrm1_nilf nrm1_nili nrm1_ifc nrm_nilf nrm_nili nrm_ifc deref_iptr snap0_iptr snap1_iptr snapB_iptr snapA_iptr nrm1_iptr nrm_iptr deref_top snap0_top snap1_top snapB_top snapA_top nrm1_top nrm_top deref_agg deref_tup deref_fn deref_vptr deref_ept deref_sl deref_opt snap0_nils snap1_nils snapB_nils snapA_nils nrm1_nils nrm_nils nrm1_agg nrm1_fn nrm_agg nrm_fn snap0_agg snap1_agg snapB_agg snapA_agg snapA_tup snap0_sl snap1_sl snapB_sl snapA_sl snap1_vptr snapB_vptr snapA_vptr snapB_fn snapA_fn ASeq pure_agg pure_tup pure_fn pure_bool pure_int pure_str pure_list pure_nils pure_nilp pure_nilf pure_nili pure_ifc pure_top pure_iptr pure_vptr pure_ept pure_sl flat_agg flat_tup flat_bool flat_int flat_str under_agg under_tup under_fn under_bool under_int under_str under_list under_iptr under_nils under_nilp under_nilf under_nili under_ifc under_top under_opt under_vptr under_ept under_sl contA appBase callArgs

end Go.Abs
set_option maxRecDepth 100000
namespace Go.Abs
open Go Go.RowKit
section
variable {P : Program} [Env P] {T : TT} {nt k : Nat} {Q : Exit → AS → Prop} {S : AS}
theorem qa {y : Code} (hT : TOk P T) {id : Nat} {l : List Oper} (hd : dstsOk nt l = true) (h : ASeqS P T nt k l.toArray (thenQ (AWP P nt k y Q) Q .normal) l S) : AWP P nt k (.seq (.region id l.toArray false) y) Q S := AWP_seq (AWP_regS hT hd h)
theorem qb (hT : TOk P T) {id : Nat} {l : List Oper} (hd : dstsOk nt l = true) (h : ASeqS P T nt k l.toArray (Q .normal) l S) : AWP P nt k (.region id l.toArray false) Q S := AWP_regS hT hd h
def leafE : Code → Option Exit
 | .skip => some .normal
 | .exit id => some (.exit id)
 | .ret => some .ret
 | _ => none
theorem qh {c : Code} {e : Exit} (he : leafE c = some e) (h : Q e S) : AWP P nt k c Q S := by
 cases c <;> simp only [leafE, Option.some.injEq, reduceCtorEq] at he <;> subst he
 ·exact AWP_skip h
 ·exact AWP_exit h
 ·exact AWP_ret h
theorem qf {id : Nat} {c : Code} (h : AWP P nt k c (blockQ id Q) S) : AWP P nt k (.block id c) Q S := AWP_block h
theorem qg {x y : Code} (h : AWP P nt k x (thenQ (AWP P nt k y Q) Q) S) : AWP P nt k (.seq x y) Q S := AWP_seq h
end
end Go.Abs
namespace Go.Abs
open Go Go.RowKit
section
variable {P : Program} [Env P] {T : TT} {nt k : Nat} {S : AS} {Q : Exit → AS → Prop}

theorem AWP_len {c : Code} (t : Nat) {xs : List AV} (h : look S.sl t = some (.list xs)) (hk : xs.length ≤ 9223372036854775807 → AWP P nt k c Q S) : AWP P nt k c Q S := fun C a w hs => by
 obtain ⟨I, m, hw, hsl, hk', hf⟩ := hs
 obtain ⟨v, _, hv⟩ := hsl.2.2 t _ h
 obtain ⟨_, cap, _, _, _, h1, h2, _⟩ := hv.list_inv.list_inv
 exact hk (by unfold maxLen at h2; omega) C a w ⟨I, m, hw, hsl, hk', hf⟩

theorem AWP_lenAgg {c : Code} (t i : Nat) {cs xs : List AV} (h : look S.sl t = some (.agg cs)) (hi : cs[i]? = some (.list xs)) (hk : xs.length ≤ 9223372036854775807 → AWP P nt k c Q S) : AWP P nt k c Q S := fun C a w hs => by
 obtain ⟨I, m, hw, hsl, hk', hf⟩ := hs
 obtain ⟨v, _, hv⟩ := hsl.2.2 t _ h
 obtain ⟨vs, rfl, hl, hall⟩ := hv.agg_inv
 have hlt : i < vs.size := by rw [hl]; exact (List.getElem?_eq_some_iff.1 hi).1
 have hv' := hall i vs[i] _ (by simp [hlt]) hi
 obtain ⟨_, cap, _, _, _, h1, h2, _⟩ := hv'.list_inv.list_inv
 exact hk (by unfold maxLen at h2; omega) C a w ⟨I, m, hw, hsl, hk', hf⟩

theorem AWP_countI {c : Code} (n : Nat) (Inv : Nat → Prop) (sl : Nat → List (Nat × AV)) (H : Nat → List AObj) {sl0 : List (Nat × AV)} {H0 G : List AObj} (hH : H0 = H 0 ++ G) (hk : k ≤ (H 0).length) (h0 : keepOk sl0 (sl 0))
  (hu : (sl 0).all (fun p => p.2.under (H 0).length) = true) (hu' : (H 0).all (objBelow (H 0).length) = true) (hI : Inv 0)
  (h : ∀ j, j ≤ n → Inv j → (j < n → Inv (j + 1) → ALoop P nt k c Q ⟨sl (j + 1), H (j + 1)⟩) → AWP P nt k c (thenQ (ALoop P nt k c Q) Q) ⟨sl j, H j⟩) : AWP P nt k (.loop c) Q ⟨sl0, H0⟩ := by
 subst hH
 refine AWP_loop (ALoop_keep (sl' := sl 0) (ALoop_drop G ?_ hk hu hu') h0)
 exact ALoop_wf (F := fun j => ⟨sl j, H j⟩) (fun j => j ≤ n ∧ Inv j) (fun j => n - j) (fun j hj ih => h j hj.1 hj.2 fun hlt hi => ih (j + 1) ⟨by omega, hi⟩ (by omega)) 0 ⟨Nat.zero_le _, hI⟩
end
theorem deref_self (g : Bool) (x : AV) : deref g (.opt g x) = some x := by rw [deref_opt]; cases g <;> rfl
theorem deref_andl (g p : Bool) (x : AV) : deref (g && p) (.opt g x) = some x := by rw [deref_opt]; cases g <;> cases p <;> rfl
theorem deref_andr (g p : Bool) (x : AV) : deref (p && g) (.opt g x) = some x := by rw [deref_opt]; cases g <;> cases p <;> rfl
theorem deref_andl2 (g p q : Bool) (x : AV) : deref ((g && p) && q) (.opt g x) = some x := by rw [deref_opt]; cases g <;> cases p <;> cases q <;> rfl
attribute [simp high] deref_self deref_andl deref_andr deref_andl2
end Go.Abs
namespace Go.Abs
open Go Go.RowKit

def AV.ren (s : Nat → Nat) : AV → AV
 | .agg cs => .agg (cs.attach.map fun ⟨x, _⟩ => x.ren s)
 | .tup cs => .tup (cs.attach.map fun ⟨x, _⟩ => x.ren s)
 | .fn f xs ys => .fn f (xs.attach.map fun ⟨x, _⟩ => x.ren s) (ys.attach.map fun ⟨x, _⟩ => x.ren s)
 | .vptr id off => .vptr (s id) off
 | .yld id => .yld (s id)
 | .mref id => .mref (s id)
 | .ept id c i off => .ept (s id) c i off
 | .sl id c lo len => .sl (s id) c lo len
 | .opt p x => .opt p (x.ren s)
 | x => x

section
variable (s : Nat → Nat)
theorem ren_agg (cs : List AV) : (AV.agg cs).ren s = .agg (cs.map (AV.ren s)) := by rw [AV.ren]; simp
theorem ren_tup (cs : List AV) : (AV.tup cs).ren s = .tup (cs.map (AV.ren s)) := by rw [AV.ren]; simp
theorem ren_fn (f : Fn) (xs ys : List AV) : (AV.fn f xs ys).ren s = .fn f (xs.map (AV.ren s)) (ys.map (AV.ren s)) := by rw [AV.ren]; simp
theorem ren_bool (b : Bool) : (AV.bool b).ren s = .bool b := by simp [AV.ren]
theorem ren_int (k : IntKind) (n : Int) : (AV.int k n).ren s = .int k n := by simp [AV.ren]
theorem ren_str (x : List UInt8) : (AV.str x).ren s = .str x := by simp [AV.ren]
theorem ren_list (x : List AV) : (AV.list x).ren s = .list x := by simp [AV.ren]
theorem ren_iptr (x : List AV) : (AV.iptr x).ren s = .iptr x := by simp [AV.ren]
theorem ren_nils : (AV.nils).ren s = .nils := by simp [AV.ren]
theorem ren_nilp : (AV.nilp).ren s = .nilp := by simp [AV.ren]
theorem ren_nilf : (AV.nilf).ren s = .nilf := by simp [AV.ren]
theorem ren_nili : (AV.nili).ren s = .nili := by simp [AV.ren]
theorem ren_ifc : (AV.ifc).ren s = .ifc := by simp [AV.ren]
theorem ren_top : (AV.top).ren s = .top := by simp [AV.ren]
theorem ren_mref (a : Nat) : (AV.mref a).ren s = .mref (s a) := by simp [AV.ren]
theorem ren_yld (a : Nat) : (AV.yld a).ren s = .yld (s a) := by simp [AV.ren]
theorem ren_vptr (a b : Nat) : (AV.vptr a b).ren s = .vptr (s a) b := by simp [AV.ren]
theorem ren_ept (a b c d : Nat) : (AV.ept a b c d).ren s = .ept (s a) b c d := by simp [AV.ren]
theorem ren_sl (a b c d : Nat) : (AV.sl a b c d).ren s = .sl (s a) b c d := by simp [AV.ren]
theorem ren_opt (p : Bool) (x : AV) : (AV.opt p x).ren s = .opt p (x.ren s) := by simp [AV.ren]
end

def AObj.ren (s : Nat → Nat) : AObj → AObj
 | .vars cs => .vars (cs.map (AV.ren s))
 | .arr e c xs => .arr e c xs
 | .dead => .dead
 | .tag id t => .tag (s id) t
 | .lp rdy pend nt sl ps asg body => .lp rdy pend nt (sl.map fun p => (p.1, p.2.ren s)) ps asg body
 | .mp kvs => .mp kvs
 | .va e c xs => .va e c (xs.map (AV.ren s))
 | .it left cur => .it left cur
 | .mv kvs => .mv (kvs.map fun p => (p.1, p.2.ren s))
theorem ren_cells (s : Nat → Nat) (x : AV) : (x.ren s).cells = x.cells.map (AV.ren s) := by
 cases x <;> simp [AV.ren, AV.cells]

theorem VR.ren {w : World} {I : Nat → Prop} {m : Nat → Option Nat} {n n' : Nat} {s : Nat → Nat} (x : AV) (v : Value) (h : VR w I m n v (x.ren s)) (hu : x.under n' = true) : VR w I (fun i => m (s i)) n' v x := by
 match x, v, h, hu with
 | .agg cs, v, h, hu =>
  rw [ren_agg] at h
  rw [under_agg, List.all_eq_true] at hu
  obtain ⟨vs, rfl, hl, hall⟩ := h.agg_inv
  refine .agg vs cs (by simpa using hl) fun i v x hv hx => ?_
  have hm := List.mem_of_getElem? hx
  exact VR.ren x v (hall i v _ hv (by simp [hx])) (hu x hm)
 | .tup cs, v, h, hu =>
  rw [ren_tup] at h
  rw [under_tup, List.all_eq_true] at hu
  obtain ⟨vs, rfl, hl, hall⟩ := h.tup_inv
  refine .tup vs cs (by simpa using hl) fun i v x hv hx => ?_
  have hm := List.mem_of_getElem? hx
  exact VR.ren x v (hall i v _ hv (by simp [hx])) (hu x hm)
 | .fn f xs ys, v, h, hu =>
  rw [ren_fn] at h
  rw [under_fn, Bool.and_eq_true, List.all_eq_true, List.all_eq_true] at hu
  obtain ⟨vs, us, rfl, hl, hall, hl', hall'⟩ := h.fn_inv
  refine .fn f vs us xs ys (by simpa using hl) (fun i v x hv hx => ?_) (by simpa using hl') (fun i v x hv hx => ?_)
  ·have hm := List.mem_of_getElem? hx
   exact VR.ren x v (hall i v _ hv (by simp [hx])) (hu.1 x hm)
  ·have hm := List.mem_of_getElem? hx
   exact VR.ren x v (hall' i v _ hv (by simp [hx])) (hu.2 x hm)
 | .bool b, v, h, _ => rw [ren_bool] at h; rw [h.bool_inv]; exact .pure (.bool b)
 | .int k z, v, h, _ => rw [ren_int] at h; rw [h.int_inv]; exact .pure (.int k z)
 | .str x, v, h, _ => rw [ren_str] at h; rw [h.str_inv]; exact .pure (.str x)
 | .list xs, v, h, _ => rw [ren_list] at h; exact .pure h.list_inv
 | .iptr xs, v, h, _ => rw [ren_iptr] at h; exact .pure h.iptr_inv
 | .nils, v, h, _ => rw [ren_nils] at h; rw [h.nils_inv]; exact .pure .nils
 | .nilp, v, h, _ => rw [ren_nilp] at h; rw [h.nilp_inv]; exact .pure .nilp
 | .nilf, v, h, _ => rw [ren_nilf] at h; rw [h.nilf_inv]; exact .pure .nilf
 | .nili, v, h, _ => rw [ren_nili] at h; rw [h.nili_inv]; exact .pure .nili
 | .ifc, v, h, _ => rw [ren_ifc] at h; obtain ⟨t, u, rfl⟩ := h.ifc_inv; exact .pure (.ifc t u)
 | .top, v, _, _ => exact .pure (.top v)
 | .vptr id off, v, h, hu =>
  rw [ren_vptr] at h
  obtain ⟨b, hb, _, rfl⟩ := h.vptr_inv
  exact .vptr id off b (by simpa [under_vptr] using hu) hb
 | .ept id c i off, v, h, hu =>
  rw [ren_ept] at h
  obtain ⟨b, hb, _, rfl⟩ := h.ept_inv
  exact .ept id c i off b (by simpa [under_ept] using hu) hb
 | .sl id c lo len, v, h, hu =>
  rw [ren_sl] at h
  have hn : id < n' := by simpa [under_sl] using hu
  rcases h.sl_inv with ⟨b, cap, t, hb, _, hs, hl, hmax, rfl⟩ | ⟨hb, _, rfl, rfl, rfl⟩ | ⟨a, _, hlo, rfl, rfl⟩
  ·exact .sl id c lo len cap b t hn hb hs hl hmax
  ·exact .slnone id c hn hb
  ·exact .slend id c lo a hn hlo
 | .yld id, v, h, hu =>
  rw [ren_yld] at h
  obtain ⟨b, hb, _, rfl⟩ := h.yld_inv
  exact .yld id b (by simpa [under_yld] using hu) hb
 | .mref id, v, h, hu =>
  rw [ren_mref] at h
  obtain ⟨b, hb, _, rfl⟩ := h.mref_inv
  exact .mref id b (by simpa [under_mref] using hu) hb
 | .opt p x, v, h, hu =>
  rw [ren_opt] at h
  rw [under_opt] at hu
  obtain ⟨h1, h2⟩ := h.opt_inv
  exact .opt p x (fun e => VR.ren x v (h1 e) hu) h2
termination_by SizeOf.sizeOf x
decreasing_by all_goals (first | (have := List.sizeOf_lt_of_mem hm; simp; omega) | (simp; omega) | simp)

theorem look_ren (s : Nat → Nat) {t : Nat} {x : AV} : ∀ {sl : List (Nat × AV)}, look sl t = some x → look (sl.map fun p => (p.1, p.2.ren s)) t = some (x.ren s)
 | [], hx => by cases hx
 | (t', y) :: r, hx => by
  simp only [List.map_cons, look] at hx ⊢
  split
  ·rename_i e; subst e; simp at hx; rw [hx]
  ·rename_i e; rw [if_neg e] at hx; exact look_ren s hx

def rn (ix : List Nat) (i : Nat) : Nat := ix.getD i i

section
variable {P : Program} [Env P] {nt k : Nat} {Q : Exit → AS → Prop}

theorem St.ren {C : Cx P} {a : Act} {w : World} {sl sl' : List (Nat × AV)} {H H' : List AObj} (ix : List Nat) (hs : St C nt k ⟨sl, H⟩ a w)
  (h1 : ix.map (fun i => H[i]?) = H'.map (fun o => some (o.ren (rn ix)))) (h2 : ix.Nodup) (h3 : k ≤ ix.length) (h3' : ix.take k = List.range k)
  (h4 : sl'.all (fun p => p.2.under H'.length) = true) (h4' : H'.all (objBelow H'.length) = true) (h5 : keepOk sl (sl'.map fun p => (p.1, p.2.ren (rn ix)))) : St C nt k ⟨sl', H'⟩ a w := by
 obtain ⟨I, m, hw, hsl, hk, hf⟩ := hs
 have hlen : H'.length = ix.length := by have := congrArg List.length h1; simpa using this.symm
 have hget : ∀ (i : Nat) (o : AObj), H'[i]? = some o → H[rn ix i]? = some (o.ren (rn ix)) ∧ ix[i]? = some (rn ix i) := fun i o ho => by
  have hi : i < ix.length := by have := (List.getElem?_eq_some_iff.1 ho).1; omega
  have e1 : ix[i]? = some (rn ix i) := by simp [rn, hi]
  have := congrArg (fun l => l[i]?) h1
  simp only [List.getElem?_map, ho, e1, Option.map_some, Option.some.injEq] at this
  exact ⟨this, e1⟩
 refine ⟨I, fun i => m (rn ix i), ⟨hw.below, hw.i0, hw.iw, fun id o ho => ?_, fun id o b ho hl hm => ?_, fun i j oi oj b hi hj li lj mi mj => ?_⟩, ⟨hsl.1, hsl.2.1, fun t x hx => ?_⟩, by rw [hlen]; exact h3, ?_⟩
 ·have h6 := hw.obj _ _ (hget id o ho).1
  cases o with
  | vars cs =>
   obtain ⟨b, t, vs, e, hh, hl, hr⟩ := h6
   refine ⟨b, t, vs, e, hh, by simpa using hl, fun j v x hv hx => VR.ren x v (hr j v _ hv (by simp [hx])) ?_⟩
   have := List.all_eq_true.1 h4' _ (List.mem_of_getElem? ho)
   simp only [objBelow, List.all_eq_true] at this
   exact this x (List.mem_of_getElem? hx)
  | arr e c xs => exact h6
  | va e c xs =>
   have hb := List.all_eq_true.1 h4' _ (List.mem_of_getElem? ho)
   simp only [objBelow, List.all_eq_true] at hb
   rcases h6 with ⟨h7, h8⟩ | ⟨b, cap, vs, e1, hh, q1, q2, q3, q4, hr⟩
   ·exact .inl ⟨h7, by simpa using h8⟩
   ·refine .inr ⟨b, cap, vs, e1, hh, by simpa using q1, q2, q3, fun x hx => ?_, fun i x hx j y hy => ?_⟩
    ·have := q4 (x.ren (rn ix)) (List.mem_map.2 ⟨x, hx, rfl⟩)
     rwa [ren_cells, List.length_map] at this
    ·obtain ⟨v, hv, hp⟩ := hr i (x.ren (rn ix)) (by rw [List.getElem?_map, hx]; rfl) j (y.ren (rn ix)) (by rw [ren_cells, List.getElem?_map, hy]; rfl)
     exact ⟨v, hv, VR.ren y v hp (hb x (List.mem_of_getElem? hx) y (List.mem_of_getElem? hy))⟩
  | dead => trivial
  | tag id t =>
   have := List.all_eq_true.1 h4' _ (List.mem_of_getElem? ho)
   simp only [objBelow, decide_eq_true_eq] at this
   exact ⟨this, h6.2⟩
  | lp rdy pend nt sl ps asg body =>
   obtain ⟨b, r, e, hh, q1, q2, q3, q4, q5, q6, q7⟩ := h6
   refine ⟨b, r, e, hh, q1, q2, q3, q4, q5, q6, fun t x hx => ?_⟩
   obtain ⟨v, hv, hr⟩ := q7 t _ (look_ren (rn ix) hx)
   have := List.all_eq_true.1 h4' _ (List.mem_of_getElem? ho)
   exact ⟨v, hv, VR.ren x v hr (List.all_eq_true.1 this _ (look_mem hx))⟩
  | mp kvs => exact h6
  | it left cur => exact h6
  | mv kvs =>
   have hb := List.all_eq_true.1 h4' _ (List.mem_of_getElem? ho)
   simp only [objBelow, List.all_eq_true] at hb
   obtain ⟨b, es, ck, e1, hh, hl, hr⟩ := h6
   refine ⟨b, es, ck, e1, hh, ⟨by simpa using hl.size, hl.born, hl.nodup⟩, fun i x p a c => ?_⟩
   have := hr i x (p.1, p.2.ren (rn ix)) a (by rw [List.getElem?_map, c]; rfl)
   exact ⟨this.1, VR.ren p.2 _ this.2 (hb p (List.mem_of_getElem? c))⟩
 ·exact hw.own _ _ b (hget id o ho).1 (by cases o <;> exact hl) hm
 ·obtain ⟨p1, p2⟩ := hget i oi hi
  obtain ⟨q1, q2⟩ := hget j oj hj
  have := hw.inj _ _ _ _ b p1 q1 (by cases oi <;> exact li) (by cases oj <;> exact lj) mi mj
  exact (List.getElem?_inj (List.getElem?_eq_some_iff.1 p2).1 h2).1 (by rw [p2, q2, this])
 ·have hmem := look_mem hx
  have h6 := look_ren (rn ix) hx
  obtain ⟨v, hv, hr⟩ := hsl.2.2 t _ (look_of_keepOk h5 _ _ h6)
  exact ⟨v, hv, VR.ren x v hr (List.all_eq_true.1 h4 _ hmem)⟩
 ·refine ⟨⟨hf.fut.ext, fun id hid => ?_, hf.fut.shape⟩, hf.defs, hf.rnd⟩
  have : rn ix id = id := by
   have h7 := congrArg (fun l => l[id]?) h3'
   simp only [List.getElem?_take, if_pos hid] at h7
   rw [List.getElem?_range hid] at h7
   simp [rn, h7]
  simp only [this]
  exact hf.fut.ids id hid

end

theorem rn_def (ix : List Nat) (i : Nat) : rn ix i = ix.getD i i := rfl
attribute [simp] ren_mref ren_yld ren_agg ren_tup ren_fn ren_bool ren_int ren_str ren_list ren_iptr ren_nils ren_nilp ren_nilf ren_nili ren_ifc ren_top ren_vptr ren_ept ren_sl ren_opt AObj.ren rn_def
end Go.Abs
namespace Go.Abs
open Go Go.RowKit
section
variable {P : Program} [Env P] {T : TT} {nt k : Nat} {S : AS} {ops : Array Oper} {o : Oper} {R : AS → Prop}

def appOk (ei : TI) (xs ys : List AV) : Prop := (∀ y ∈ ys, y.cells.length = ei.size ∧ y.cells.all AV.leaf = true) ∧ (xs.length + ys.length) * ei.bytes ≤ 140737488355328
theorem AStep_appendS (hT : TOk P T) (hw : wantedA ops S o = some true) {s x : Operand} {t e : TypeId} (ho : o.op = .call ⟨.builtin .append, #[s, x], #[t, t]⟩) {it ei : TI} (ht : look T t = some it) (hit : it.desc = .slice e) (he : look T e = some ei)
  (hz : ei.zero.cells.size = ei.size) (hsz : 0 < ei.size) (hby : 0 < ei.bytes) {sv xv : AV} (hs : rho S.sl s = some sv) (hx : rho S.sl x = some xv) (hd : dstOk nt o = true)
  (hR : match appBase S e ei.size sv, contA S.hp xv with
   | some (xs, H1), some ys => appOk ei xs ys ∧ R (({ S with hp := H1 ++ [.arr e ei.size (xs ++ ys)] } : AS).putD o.dst (.sl S.hp.length ei.size 0 (xs.length + ys.length)))
   | _, _ => False) : AStep P nt k true ops o S R := by
 cases hb : appBase S e ei.size sv with
 | none => rw [hb] at hR; exact hR.elim
 | some p =>
  obtain ⟨xs, H1⟩ := p
  cases hy : contA S.hp xv with
  | none => rw [hb, hy] at hR; exact hR.elim
  | some ys =>
   rw [hb, hy] at hR
   obtain ⟨⟨h1, h2⟩, h3⟩ := hR
   refine AStep_append hT hw ho ht hit he hz hsz hs hx hb hy h1 h2 ?_ hd h3
   have := Nat.le_mul_of_pos_right (xs.length + ys.length) hby
   omega
end
end Go.Abs
namespace Go.Abs
open Go Go.RowKit

def AV.fz (i c : Nat) (xs : List AV) : AV → AV
 | .agg cs => .agg (cs.attach.map fun ⟨x, _⟩ => x.fz i c xs)
 | .tup cs => .tup (cs.attach.map fun ⟨x, _⟩ => x.fz i c xs)
 | .fn f ys zs => .fn f (ys.attach.map fun ⟨x, _⟩ => x.fz i c xs) (zs.attach.map fun ⟨x, _⟩ => x.fz i c xs)
 | .sl id c' lo len => if id = i ∧ c' = c ∧ lo + len ≤ xs.length then .list ((xs.drop lo).take len) else .sl id c' lo len
 | .opt p x => .opt p (x.fz i c xs)
 | x => x
section
variable (i c : Nat) (xs : List AV)
theorem fz_agg (cs : List AV) : (AV.agg cs).fz i c xs = .agg (cs.map (AV.fz i c xs)) := by rw [AV.fz]; simp
theorem fz_tup (cs : List AV) : (AV.tup cs).fz i c xs = .tup (cs.map (AV.fz i c xs)) := by rw [AV.fz]; simp
theorem fz_fn (f : Fn) (ys zs : List AV) : (AV.fn f ys zs).fz i c xs = .fn f (ys.map (AV.fz i c xs)) (zs.map (AV.fz i c xs)) := by rw [AV.fz]; simp
theorem fz_bool (b : Bool) : (AV.bool b).fz i c xs = .bool b := by simp [AV.fz]
theorem fz_int (k : IntKind) (n : Int) : (AV.int k n).fz i c xs = .int k n := by simp [AV.fz]
theorem fz_str (x : List UInt8) : (AV.str x).fz i c xs = .str x := by simp [AV.fz]
theorem fz_list (x : List AV) : (AV.list x).fz i c xs = .list x := by simp [AV.fz]
theorem fz_iptr (x : List AV) : (AV.iptr x).fz i c xs = .iptr x := by simp [AV.fz]
theorem fz_nils : (AV.nils).fz i c xs = .nils := by simp [AV.fz]
theorem fz_nilp : (AV.nilp).fz i c xs = .nilp := by simp [AV.fz]
theorem fz_nilf : (AV.nilf).fz i c xs = .nilf := by simp [AV.fz]
theorem fz_nili : (AV.nili).fz i c xs = .nili := by simp [AV.fz]
theorem fz_ifc : (AV.ifc).fz i c xs = .ifc := by simp [AV.fz]
theorem fz_top : (AV.top).fz i c xs = .top := by simp [AV.fz]
theorem fz_mref (a : Nat) : (AV.mref a).fz i c xs = .mref a := by simp [AV.fz]
theorem fz_yld (a : Nat) : (AV.yld a).fz i c xs = .yld a := by simp [AV.fz]
theorem fz_vptr (a b : Nat) : (AV.vptr a b).fz i c xs = .vptr a b := by simp [AV.fz]
theorem fz_ept (a b d e : Nat) : (AV.ept a b d e).fz i c xs = .ept a b d e := by simp [AV.fz]
theorem fz_sl (id c' lo len : Nat) : (AV.sl id c' lo len).fz i c xs = if id = i ∧ c' = c ∧ lo + len ≤ xs.length then .list ((xs.drop lo).take len) else .sl id c' lo len := by rw [AV.fz]
theorem fz_opt (p : Bool) (x : AV) : (AV.opt p x).fz i c xs = .opt p (x.fz i c xs) := by simp [AV.fz]
end
def AObj.fz (i c : Nat) (xs : List AV) : AObj → AObj
 | .vars cs => .vars (cs.map (AV.fz i c xs))
 | .arr e c' ys => .arr e c' ys
 | .dead => .dead
 | .tag id t => .tag id t
 | .lp rdy pend nt sl ps asg body => .lp rdy pend nt (sl.map fun p => (p.1, p.2.fz i c xs)) ps asg body
 | .mp kvs => .mp kvs
 | .va e c' ys => .va e c' (ys.map (AV.fz i c xs))
 | .it left cur => .it left cur
 | .mv kvs => .mv (kvs.map fun p => (p.1, p.2.fz i c xs))
theorem fz_cells (i c : Nat) (xs : List AV) (x : AV) : (x.fz i c xs).cells = x.cells.map (AV.fz i c xs) := by
 cases x with
 | sl a b d e => by_cases h : a = i ∧ b = c ∧ d + e ≤ xs.length <;> simp [AV.fz, AV.cells, h]
 | _ => simp [AV.fz, AV.cells]

theorem fz_pure {w : World} {I : Nat → Prop} {v : Value} {x : AV} (i c : Nat) (xs : List AV) (h : PVR w I v x) : x.fz i c xs = x := by
 have key : ∀ (vs : Array Value) (cs : List AV), vs.size = cs.length → (∀ (k : Nat) (v : Value) (x : AV), vs[k]? = some v → cs[k]? = some x → x.fz i c xs = x) → cs.map (AV.fz i c xs) = cs := fun vs cs hl ih => by
  refine List.ext_getElem? fun k => ?_
  rw [List.getElem?_map]
  cases hx : cs[k]? with
  | none => rfl
  | some x =>
   have hk : k < vs.size := by rw [hl]; exact (List.getElem?_eq_some_iff.1 hx).1
   rw [Option.map_some, ih k vs[k] x (by simp [hk]) hx]
 induction h with
 | agg vs cs hl h ih => rw [fz_agg, key vs cs hl ih]
 | tup vs cs hl h ih => rw [fz_tup, key vs cs hl ih]
 | fn f vs us ys zs hl h hl' h' ih ih' => rw [fz_fn, key vs ys hl ih, key us zs hl' ih']
 | _ => simp [AV.fz]

section
variable {P : Program} [Env P] {nt k : Nat} {Q : Exit → AS → Prop} {W0 w : World} {I0 I : Nat → Prop} {m : Nat → Option Nat} {H : List AObj}

theorem VR.fz (hw : WS W0 I0 w I m H) {i e c : Nat} {xs : List AV} (hi : H[i]? = some (.arr e c xs)) {v : Value} {x : AV} (h : VR w I m H.length v x) :
  VR w (fun b => I b ∨ m i = some b) m H.length v (x.fz i c xs) := by
 have hext : Ext w w I (fun b => I b ∨ m i = some b) := ⟨fun _ h => .inl h, fun _ _ => rfl⟩
 have hil : i < H.length := (List.getElem?_eq_some_iff.1 hi).1
 -- the other objects set aside
 have hget : ∀ (id : Nat) (o : AObj), ((List.replicate H.length AObj.dead).set i (.arr e c xs))[id]? = some o → (id = i ∧ o = .arr e c xs) ∨ o = .dead := fun id o ho => by
  by_cases hid : id = i
  ·subst hid
   rw [List.getElem?_set_self (by simpa using hil)] at ho
   exact .inl ⟨rfl, (Option.some.inj ho).symm⟩
  ·rw [List.getElem?_set_ne (by omega), List.getElem?_replicate] at ho
   split at ho
   ·exact .inr (Option.some.inj ho).symm
   ·cases ho
 have hw1 : WS W0 I0 w I m ((List.replicate H.length AObj.dead).set i (.arr e c xs)) := by
  refine ⟨hw.below, hw.i0, hw.iw, fun id o ho => ?_, fun id o b ho hl hm => ?_, fun a b oa ob d ha hb la lb ma mb => ?_⟩
  ·rcases hget id o ho with ⟨rfl, rfl⟩ | rfl
   ·have := hw.obj _ _ hi; simpa using this
   ·trivial
  ·rcases hget id o ho with ⟨rfl, rfl⟩ | rfl
   ·exact hw.own _ _ b hi rfl hm
   ·cases hl
  ·rcases hget a oa ha with ⟨rfl, rfl⟩ | rfl
   ·rcases hget b ob hb with ⟨rfl, rfl⟩ | rfl
    ·rfl
    ·cases lb
   ·cases la
 have hall : ∀ b, IAll I m ((List.replicate H.length AObj.dead).set i (.arr e c xs)) b → I b ∨ m i = some b := fun b hb => by
  rcases hb with hb | ⟨id, o, ho, hl, hm⟩
  ·exact .inl hb
  ·rcases hget id o ho with ⟨rfl, rfl⟩ | rfl
   ·exact .inr hm
   ·cases hl
 induction h with
 | pure h => rw [fz_pure i c xs h]; exact .pure (h.mono hext)
 | agg vs cs hl h ih =>
  rw [fz_agg]
  refine .agg vs _ (by simpa using hl) fun j v x hv hx => ?_
  rw [List.getElem?_map] at hx
  obtain ⟨y, hy, rfl⟩ := Option.map_eq_some_iff.1 hx
  exact ih j v y hv hy
 | tup vs cs hl h ih =>
  rw [fz_tup]
  refine .tup vs _ (by simpa using hl) fun j v x hv hx => ?_
  rw [List.getElem?_map] at hx
  obtain ⟨y, hy, rfl⟩ := Option.map_eq_some_iff.1 hx
  exact ih j v y hv hy
 | fn f vs us ys zs hl h hl' h' ih ih' =>
  rw [fz_fn]
  refine .fn f vs us _ _ (by simpa using hl) (fun j v x hv hx => ?_) (by simpa using hl') (fun j v x hv hx => ?_)
  ·rw [List.getElem?_map] at hx
   obtain ⟨y, hy, rfl⟩ := Option.map_eq_some_iff.1 hx
   exact ih j v y hv hy
  ·rw [List.getElem?_map] at hx
   obtain ⟨y, hy, rfl⟩ := Option.map_eq_some_iff.1 hx
   exact ih' j v y hv hy
 | vptr id off b hn hb => rw [fz_vptr]; exact .vptr id off b hn hb
 | ept id c' j off b hn hb => rw [fz_ept]; exact .ept id c' j off b hn hb
 | yld id b hn hb => rw [fz_yld]; exact .yld id b hn hb
 | mref id b hn hb => rw [fz_mref]; exact .mref id b hn hb
 | opt p x h1 h2 ih => rw [fz_opt]; exact .opt p _ ih h2
 | sl id c' lo len cap b t hn hb hs hl hmax =>
  rw [fz_sl]
  have hv : VR w I m H.length _ _ := .sl id c' lo len cap b t hn hb hs hl hmax
  split
  ·rename_i hc
   obtain ⟨rfl, rfl, hb'⟩ := hc
   have := snap0_sound hw1 (by simpa using hv) (y := .list ((xs.drop lo).take len)) (by simp [snap0, List.getElem?_set_self, hil, hb'])
   exact .pure (this.mono ⟨hall, fun _ _ => rfl⟩)
  ·exact .sl id c' lo len cap b t hn hb hs hl hmax
 | slnone id c' hn hb =>
  rw [fz_sl]
  split
  ·refine .pure ?_
   simp only [List.drop_zero, List.take_zero]
   exact .list _ _ _ 0 _ (fun _ _ => undef) rfl (by simp) (by unfold maxLen; omega) (fun x hx => by simp at hx) (fun h0 => by simp at h0) (fun i x hx => by simp at hx)
  ·exact .slnone id c' hn hb
 | slend id c' lo a hn hlo =>
  rw [fz_sl]
  split
  ·refine .pure ?_
   simp only [List.take_zero]
   exact .list _ _ _ 0 _ (fun _ _ => undef) rfl (by simp) (by unfold maxLen; omega) (fun x hx => by simp at hx) (fun h0 => by simp at h0) (fun i x hx => by simp at hx)
  ·exact .slend id c' lo a hn hlo

theorem look_fz {i c : Nat} {xs : List AV} {t : Nat} {x : AV} : ∀ {sl : List (Nat × AV)}, look (sl.map fun p => (p.1, p.2.fz i c xs)) t = some x → ∃ y, look sl t = some y ∧ x = y.fz i c xs
 | [], hx => by cases hx
 | (t', y) :: r, hx => by
  simp only [List.map_cons, look] at hx ⊢
  split
  ·rename_i e; subst e; simp at hx; exact ⟨y, rfl, hx.symm⟩
  ·rename_i e; rw [if_neg e] at hx; exact look_fz hx


theorem ObjR.fz (hw : WS W0 I0 w I m H) {i e c : Nat} {xs : List AV} (hi : H[i]? = some (.arr e c xs)) {b? : Option Nat} {o : AObj} (h : ObjR w I m H.length b? o) :
  ObjR w (fun b => I b ∨ m i = some b) m H.length b? (o.fz i c xs) := by
 have hext : Ext w w I (fun b => I b ∨ m i = some b) := ⟨fun _ h => .inl h, fun _ _ => rfl⟩
 cases o with
 | vars cs =>
  obtain ⟨b, t, vs, e1, hh, hl, hr⟩ := h
  refine ⟨b, t, vs, e1, hh, by simpa using hl, fun j v x hv hx => ?_⟩
  rw [List.getElem?_map] at hx
  obtain ⟨y, hy, rfl⟩ := Option.map_eq_some_iff.1 hx
  exact (hr j v y hv hy).fz hw hi
 | arr e' c' ys =>
  rcases h with h | ⟨b, cap, vs, e1, hh, h1, h2, h3, h4, hr⟩
  ·exact .inl h
  ·exact .inr ⟨b, cap, vs, e1, hh, h1, h2, h3, h4, fun i x hx j y hy => by obtain ⟨v, hv, hp⟩ := hr i x hx j y hy; exact ⟨v, hv, hp.mono hext⟩⟩
 | it left cur =>
  obtain ⟨r, bm, es, ck, since, seen, c0, e1, hh, hI, hm, h1, h2, h3, h4, h5, hr, hcu⟩ := h
  exact ⟨r, bm, es, ck, since, seen, c0, e1, hh, .inl hI, hm, h1, h2, h3, h4, h5, fun i x p a d => ⟨(hr i x p a d).1.mono hext, (hr i x p a d).2.mono hext⟩, fun p hp => by obtain ⟨e2, sn, q1, q2, q3, q4, q5⟩ := hcu p hp; exact ⟨e2, sn, q1, q2, q3, q4.mono hext, q5.mono hext⟩⟩
 | va e' c' ys =>
  rcases h with ⟨h7, h8⟩ | ⟨b, cap, vs, e1, hh, h1, h2, h3, h4, hr⟩
  ·exact .inl ⟨h7, by rw [h8]; rfl⟩
  ·refine .inr ⟨b, cap, vs, e1, hh, by simpa using h1, h2, h3, fun x hx => ?_, fun k x hx j y hy => ?_⟩
   ·obtain ⟨z, hz, rfl⟩ := List.mem_map.1 hx
    rw [fz_cells, List.length_map]; exact h4 z hz
   ·rw [List.getElem?_map] at hx
    obtain ⟨z, hz, rfl⟩ := Option.map_eq_some_iff.1 hx
    rw [fz_cells, List.getElem?_map] at hy
    obtain ⟨u, hu, rfl⟩ := Option.map_eq_some_iff.1 hy
    obtain ⟨v, hv, hp⟩ := hr k z hz j u hu
    exact ⟨v, hv, hp.fz hw hi⟩
 | dead => trivial
 | tag j t => exact h
 | lp rdy pend nt sl ps asg body =>
  obtain ⟨b, r, e1, hh, q1, q2, q3, q4, q5, q6, q7⟩ := h
  refine ⟨b, r, e1, hh, q1, q2, q3, q4, q5, q6, fun t x hx => ?_⟩
  obtain ⟨y, hy, rfl⟩ := look_fz hx
  obtain ⟨v, hv, hr⟩ := q7 t y hy
  exact ⟨v, hv, hr.fz hw hi⟩
 | mp kvs =>
  obtain ⟨b, es, ck, e1, hh, hl, hr⟩ := h
  exact ⟨b, es, ck, e1, hh, hl, fun i x p a d => ⟨(hr i x p a d).1.mono hext, (hr i x p a d).2.mono hext⟩⟩
 | mv kvs =>
  obtain ⟨b, es, ck, e1, hh, hl, hr⟩ := h
  refine ⟨b, es, ck, e1, hh, ⟨by simpa using hl.size, hl.born, hl.nodup⟩, fun i x p a d => ?_⟩
  rw [List.getElem?_map] at d
  obtain ⟨q, hq, rfl⟩ := Option.map_eq_some_iff.1 d
  exact ⟨(hr i x q a hq).1.mono hext, (hr i x q a hq).2.fz hw hi⟩

theorem St.freeze {C : Cx P} {a : Act} {w : World} {sl : List (Nat × AV)} {H : List AObj} (hs : St C nt k ⟨sl, H⟩ a w) (i : Nat) {e c : Nat} {xs : List AV} (hi : H[i]? = some (.arr e c xs)) :
  St C nt k ⟨sl.map fun p => (p.1, p.2.fz i c xs), (H.set i .dead).map (AObj.fz i c xs)⟩ a w := by
 obtain ⟨I, m, hw, hsl, hk, hf⟩ := hs
 have hext : Ext w w I (fun b => I b ∨ m i = some b) := ⟨fun _ h => .inl h, fun _ _ => rfl⟩
 have hlen : ((H.set i .dead).map (AObj.fz i c xs)).length = H.length := by simp
 have hcase : ∀ (id : Nat) (o : AObj), ((H.set i .dead).map (AObj.fz i c xs))[id]? = some o → o.live = true → id ≠ i ∧ ∃ o', H[id]? = some o' ∧ o = o'.fz i c xs ∧ o'.live = true := fun id o ho hl => by
  rw [List.getElem?_map] at ho
  obtain ⟨o', ho', rfl⟩ := Option.map_eq_some_iff.1 ho
  by_cases hid : id = i
  ·subst hid
   rw [List.getElem?_set_self (List.getElem?_eq_some_iff.1 hi).1] at ho'
   cases ho'
   simp [AObj.fz, AObj.live] at hl
  ·rw [List.getElem?_set_ne (by omega)] at ho'
   exact ⟨hid, o', ho', rfl, by cases o' <;> exact hl⟩
 refine ⟨fun b => I b ∨ m i = some b, m, ⟨hw.below, fun b hb => .inl (hw.i0 b hb), fun b hb => ?_, fun id o ho => ?_, fun id o b ho hl hm => ?_, fun a b oa ob d ha hb la lb ma mb => ?_⟩, ⟨hsl.1, hsl.2.1, fun t x hx => ?_⟩, by rw [hlen]; exact hk, hf.trans hk ⟨hext, fun _ _ => rfl, fun _ _ h => h⟩⟩
 ·rcases hb with hb | hb
  ·exact hw.iw b hb
  ·have := hw.own i _ b hi rfl hb
   exact ⟨this.2.2, .inr this.1⟩
 ·rw [hlen]
  by_cases hl : o.live = true
  ·obtain ⟨_, o', ho', rfl, _⟩ := hcase id o ho hl
   exact (hw.obj id o' ho').fz hw hi
  ·rw [List.getElem?_map] at ho
   obtain ⟨o', ho', rfl⟩ := Option.map_eq_some_iff.1 ho
   by_cases hid : id = i
   ·subst hid
    rw [List.getElem?_set_self (List.getElem?_eq_some_iff.1 hi).1] at ho'
    cases ho'
    trivial
   ·rw [List.getElem?_set_ne (by omega)] at ho'
    cases o' with
    | vars cs => exact absurd rfl hl
    | arr e c xs => exact absurd rfl hl
    | dead => trivial
    | tag j t => exact hw.obj id _ ho'
    | lp rdy pend nt sl ps asg body => exact absurd rfl hl
    | mp kvs => exact absurd rfl hl
    | va e c xs => exact absurd rfl hl
    | it left cur => exact absurd rfl hl
    | mv kvs => exact absurd rfl hl
 ·obtain ⟨hne, o', ho', rfl, hl'⟩ := hcase id o ho hl
  have h1 := hw.own id o' b ho' hl' hm
  refine ⟨h1.1, fun hc => ?_, h1.2.2⟩
  rcases hc with hc | hc
  ·exact h1.2.1 hc
  ·exact hne (hw.inj id i o' _ b ho' hi hl' rfl hm hc)
 ·obtain ⟨_, oa', ha', _, la'⟩ := hcase a oa ha la
  obtain ⟨_, ob', hb', _, lb'⟩ := hcase b ob hb lb
  exact hw.inj a b oa' ob' d ha' hb' la' lb' ma mb
 ·rw [hlen]
  have := look_fz hx
  obtain ⟨y, hy, rfl⟩ := this
  obtain ⟨v, hv, hr⟩ := hsl.2.2 t y hy
  exact ⟨v, hv, hr.fz hw hi⟩

theorem AStep_freeze {wr : Bool} {ops : Array Oper} {o : Oper} {R : AS → Prop} {sl : List (Nat × AV)} {H : List AObj} (i : Nat) {e c : Nat} {xs : List AV} (hi : H[i]? = some (.arr e c xs)) (h : AStep P nt k wr ops o ⟨sl.map fun p => (p.1, p.2.fz i c xs), (H.set i .dead).map (AObj.fz i c xs)⟩ R) : AStep P nt k wr ops o ⟨sl, H⟩ R :=
 fun C a w K Q hs => h C a w K Q (hs.freeze i hi)
end
attribute [simp] fz_mref fz_yld fz_agg fz_tup fz_fn fz_bool fz_int fz_str fz_list fz_iptr fz_nils fz_nilp fz_nilf fz_nili fz_ifc fz_top fz_vptr fz_ept fz_sl fz_opt AObj.fz
end Go.Abs
namespace Go.Abs
open Go Go.RowKit
section
variable {P : Program} [Env P] {T : TT} {nt k : Nat} {S : AS} {ops : Array Oper} {o : Oper} {R : AS → Prop}

theorem AStep_isnil (hT : TOk P T) {wr : Bool} (hw : wantedA ops S o = some true) {t u e : TypeId} {x : Operand} (ho : o.op = .binOp .eql t x (.const (.slice none 0 0)) u) {it : TI} (ht : look T t = some it) (hit : it.desc = .slice e)
  {xs : List AV} (hx : rho S.sl x = some (.list xs)) (hd : dstOk nt o = true) (hR : ∀ b, (xs ≠ [] → b = false) → R (S.putD o.dst (.bool b))) : AStep P nt k wr ops o S R := fun C a w K Q hs hK => by
 unfold OpW
 rw [if_pos (hs.wanted hw)]
 obtain ⟨I, m, hws, hsl, hk, hE⟩ := hs
 obtain ⟨ad, cap, c, uu, hv, h1, h2, h3, h4, h5⟩ := (rho_sound hsl hx).list_inv.list_inv
 have hut := hT.und ht
 rw [hit] at hut
 have hrun : (execOp a.eval o).run P w = .ok (.value (.bool ad.isNone)) w := by
  have := Go.Lib.run_eql_slice_nil (P := P) w t e ad xs.length cap 0 0 hut
  have hc : a.eval (.const (.slice none 0 0)) = .slice none 0 0 := rfl
  simp [execOp, ho, hv, eqGuard, hc, this]
 unfold wpA
 rw [hrun]
 refine hK _ _ w (hR ad.isNone fun hne => ?_) (St.value hsl hk hE hws (Fut.refl _ _ _ _) (Nat.le_refl _) (dstOk_spec hd) (.pure (.bool _))) (fun _ => Held.refl w)
 obtain ⟨ad', rfl, _⟩ := h4 (List.length_pos_iff.2 hne)
 rfl
end
end Go.Abs
namespace Go.Abs
open Go Go.RowKit

inductive Plan where
 | done
 | val (i : Nat) (p : Plan)
 | one (i : Nat) (p : Plan)
 | two (i : Nat) (p : Plan) (j : Nat) (q : Plan)

def Plan.size : Plan → Nat
 | .done => 0
 | .val _ p => p.size + 1
 | .one _ p => p.size + 1
 | .two _ p _ _ => p.size + 1

def planT (ops : Array Oper) (cl : List (List Nat)) (Wr : List Nat) : Plan → Array Bool → Bool
 | .done, l => (Region.ready .any ops l).isEmpty
 | .val i p, l => (match ops[i]? with
   | none => false
   | some o => isVal o.op && freeOk ops cl Wr l i && (Region.ready .any ops l).contains i) && planT ops cl Wr p (l.setIfInBounds i true)
 | .one i p, l => (ops[i]?).isSome && Region.ready .any ops l == [i] && planT ops cl Wr p (l.setIfInBounds i true)
 | .two i p j q, l => (ops[i]?).isSome && (ops[j]?).isSome && Region.ready .any ops l == [i, j] && p.size == q.size && planT ops cl Wr p (l.setIfInBounds i true) && planT ops cl Wr q (l.setIfInBounds j true)

def stepT (P : Program) [Env P] (T : TT) (nt k : Nat) (ops : Array Oper) (W : Nat → Bool) (i : Nat) (R : AS → Prop) (S : AS) : Prop := match ops[i]? with
 | none => False
 | some o => if isAuto o.op then (match stepA T ops S o with
   | some S' => (isStore o.op = true → W i = true) ∧ R S'
   | none => False)
  else AStep P nt k (W i) ops o S R

def stepT1 (P : Program) [Env P] (T : TT) (nt k : Nat) (ops : Array Oper) (W : Nat → Bool) (i : Nat) (R : AS → Prop) (S : AS) : Prop := match ops[i]? with
 | none => False
 | some o => if isAuto o.op then (match stepA T ops S o with
   | some S' => (isStore o.op = true → W i = true) ∧ R S'
   | none => AStep P nt k (W i) ops o S R)
  else AStep P nt k (W i) ops o S R

def ASeqT (P : Program) [Env P] (T : TT) (nt k : Nat) (ops : Array Oper) (W : Nat → Bool) (Q : AS → Prop) : Plan → AS → Prop
 | .done, S => Q S
 | .val i p, S => stepT P T nt k ops W i (ASeqT P T nt k ops W Q p) S
 | .one i p, S => stepT1 P T nt k ops W i (ASeqT P T nt k ops W Q p) S
 | .two i p j q, S => stepT1 P T nt k ops W i (ASeqT P T nt k ops W Q p) S ∧ stepT1 P T nt k ops W j (ASeqT P T nt k ops W Q q) S

section
variable {P : Program} [Env P] {T : TT} {nt k : Nat} {S : AS} {ops : Array Oper} {o : Oper} {R : AS → Prop} {Wr : List Nat}

theorem stepT_op (hT : TOk P T) {C : Cx P} (hd : dstsOk nt ops.toList = true) {i : Nat} {R' : AS → Prop} {N : Act → World → Prop} {a : Act} {w : World} (h : stepT1 P T nt k ops Wr.contains i R' S) (hs : St C nt k S a w)
  (hN : ∀ S' a' w', R' S' → St C nt k S' a' w' → N a' w') : wpOpA P ops (PstN C nt k R) i (fun a' w' => (Wr.contains i = false → Held w w') ∧ N a' w') a w := by
 unfold stepT1 at h
 cases ho : ops[i]? with
 | none => rw [ho] at h; exact h.elim
 | some o =>
  rw [ho] at h
  simp only at h
  have hdo : dstOk nt o = true := List.all_eq_true.1 hd o (by simpa using Array.mem_of_getElem? ho)
  have key : AStep P nt k (Wr.contains i) ops o S R' := by
   split at h
   ·split at h
    ·rename_i S' hS'
     exact AStep_auto hT hS' hdo h.1 (by assumption) h.2
    ·exact h
   ·exact h
  have := key C a w (fun a' w' => (Wr.contains i = false → Held w w') ∧ N a' w') (PstN C nt k R) hs (fun S' a' w' hR hs' hh => ⟨hh, hN S' a' w' hR hs'⟩)
  unfold wpOpA
  rw [ho]
  exact this

theorem ASeqT_any (hT : TOk P T) {C : Cx P} (hd : dstsOk nt ops.toList = true) (hns : Region.noSelect ops = true) : ∀ (p : Plan) (listed : Array Bool) (S : AS) (a : Act) (w : World), closedL ops listed → planT ops (closTo ops.toList []) Wr p listed = true → ASeqT P T nt k ops Wr.contains R p S → St C nt k S a w →
  wpAnyR P ops Wr (PstN C nt k R) p.size listed a w
 | .done, listed, S, a, w, _, hp, h, hs => ⟨by simpa [planT] using hp, S, h, hs⟩
 | .val i p, listed, S, a, w, hcl, hp, h, hs => by
  unfold planT at hp
  unfold ASeqT stepT at h
  rw [Bool.and_eq_true] at hp
  obtain ⟨hp1, hp2⟩ := hp
  cases ho : ops[i]? with
  | none => rw [ho] at h; exact h.elim
  | some o =>
   rw [ho] at h hp1
   simp only at h hp1
   have hdo : dstOk nt o = true := List.all_eq_true.1 hd o (by simpa using Array.mem_of_getElem? ho)
   simp only [Bool.and_eq_true] at hp1
   obtain ⟨⟨hv, hf⟩, hr⟩ := hp1
   have hau : isAuto o.op = true := by cases hop : o.op <;> rw [hop] at hv <;> first | rfl | exact hv | (simp [isVal] at hv)
   rw [if_pos hau] at h
   have hrd : i ∈ Region.ready .any ops listed := by simpa using hr
   split at h
   ·rename_i S' hS'
    obtain ⟨v, hy, hs'⟩ := hs.yields hT hdo hv hS'
    exact wpAnyR_first ho (Region.noSelect_spec hns) (fun c a w hq => hq) (fun x y => readsMem o.op = true → Held x y) (fun w _ => Held.refl w) (fun x y z h1 h2 hr => (h1 hr).trans (h2 hr)) p.size listed a w
     (fun j oj hj hne hun hno => free_all ho hf j oj hj hne hun hno) hcl hrd hy (ASeqT_any hT hd hns p _ S' _ w (hcl.set hrd) hp2 h.2 hs')
   ·exact h.elim
 | .one i p, listed, S, a, w, hcl, hp, h, hs => by
  unfold planT at hp
  simp only [Bool.and_eq_true, beq_iff_eq] at hp
  obtain ⟨⟨_, hrd⟩, hp2⟩ := hp
  have hrm : i ∈ Region.ready .any ops listed := by rw [hrd]; simp
  refine ⟨fun h0 => (by rw [hrd] at h0; cases h0), fun j hj => ?_⟩
  rw [hrd] at hj
  obtain rfl : j = i := by simpa using hj
  exact stepT_op hT hd h hs fun S' a' w' hR hs' => ASeqT_any hT hd hns p _ S' a' w' (hcl.set hrm) hp2 hR hs'
 | .two i p j q, listed, S, a, w, hcl, hp, h, hs => by
  unfold planT at hp
  simp only [Bool.and_eq_true, beq_iff_eq] at hp
  obtain ⟨⟨⟨⟨_, hrd⟩, hsz⟩, hp2⟩, hp3⟩ := hp
  have hri : i ∈ Region.ready .any ops listed := by rw [hrd]; simp
  have hrj : j ∈ Region.ready .any ops listed := by rw [hrd]; simp
  refine ⟨fun h0 => (by rw [hrd] at h0; cases h0), fun m hm => ?_⟩
  rw [hrd] at hm
  rcases (by simpa using hm : m = i ∨ m = j) with rfl | rfl
  ·exact stepT_op hT hd h.1 hs fun S' a' w' hR hs' => ASeqT_any hT hd hns p _ S' a' w' (hcl.set hri) hp2 hR hs'
  ·refine stepT_op hT hd h.2 hs fun S' a' w' hR hs' => ?_
   have := ASeqT_any hT hd hns q _ S' a' w' (hcl.set hrj) hp3 hR hs'
   rw [← hsz] at this
   exact this

theorem AWP_drawT (hT : TOk P T) (hm : P.follows .mixedOrders = true) {Q : Exit → AS → Prop} {id : Nat} {l : List Oper} (Wr : List Nat) (p : Plan) (hd : dstsOk nt l = true)
  (hp : (Region.noSelect l.toArray && p.size == l.length && planT l.toArray (closTo l []) Wr p (Array.replicate l.length false)) = true)
  (h : ASeqT P T nt k l.toArray Wr.contains (Q .normal) p S) : AWP P nt k (.region id l.toArray true) Q S := fun C a w hs => by
 simp only [Bool.and_eq_true, beq_iff_eq] at hp
 obtain ⟨⟨h1, h2⟩, h3⟩ := hp
 refine Pst_of_N (wpIn_region_any hm (wpAny_of_R (Wr := Wr) _ _ _ _ ?_))
 have hs' : St C nt k S a { w with drawn := w.drawn + 1 } := by
  obtain ⟨I, m, hw, hsl, hk, hE⟩ := hs
  have hb : Below w.heap.size w { w with drawn := w.drawn + 1 } := ⟨rfl, rfl, rfl, Nat.le_refl _, fun _ _ => rfl⟩
  obtain ⟨g1, g2⟩ := hw.step hb (fun _ h => h) (fun b hb' => ⟨(hw.iw b hb').1, .inl hb'⟩)
  exact ⟨I, m, g1, ⟨hsl.1, hsl.2.1, fun t x hx => by obtain ⟨v, hv, hr⟩ := hsl.2.2 t x hx; exact ⟨v, hv, hr.mono g2 (Nat.le_refl _)⟩⟩, hk, hE.trans hk g2⟩
 have := ASeqT_any hT (C := C) (nt := nt) (k := k) (R := Q .normal) (by simpa using hd) h1 p (Array.replicate l.length false) S a _ (fun j o ho hj => by
  have hlt := (Array.getElem?_eq_some_iff.1 ho).1
  simp at hlt
  simp [hlt] at hj) (by simpa using h3) h hs'
 rw [h2] at this
 simpa using this
end
attribute [simp] ASeqT stepT stepT1
end Go.Abs
namespace Go.Abs
open Go Go.RowKit
section
variable {P : Program} [Env P] {T : TT} {nt k : Nat} {S : AS} {ops : Array Oper} {o : Oper} {R : AS → Prop}

end
end Go.Abs
namespace Go.Abs
open Go Go.RowKit
section
variable {P : Program} [Env P] {T : TT} {nt k : Nat} {S : AS} {ops : Array Oper} {o : Oper} {R : AS → Prop}

end
end Go.Abs
namespace Go.Abs
open Go Go.RowKit
section
variable {P : Program} [Env P] {T : TT} {nt k : Nat} {S : AS} {ops : Array Oper} {o : Oper} {R : AS → Prop} {Q : Exit → AS → Prop}

end
end Go.Abs
namespace Go.Abs
open Go Go.RowKit
section
variable {P : Program} [Env P] {T : TT} {nt k : Nat} {S : AS} {ops : Array Oper} {o : Oper} {R : AS → Prop} {Q : Exit → AS → Prop}

end
end Go.Abs
namespace Go.Abs
open Go Go.RowKit
section
variable {P : Program} [Env P] {T : TT} {nt k : Nat} {S : AS} {ops : Array Oper} {o : Oper} {R : AS → Prop} {Q : Exit → AS → Prop}

end
end Go.Abs
namespace Go.Abs
open Go Go.RowKit
section
variable {P : Program} [Env P] {T : TT} {nt k : Nat} {S : AS} {ops : Array Oper} {o : Oper} {R : AS → Prop} {Q : Exit → AS → Prop}

end
end Go.Abs
namespace Go.Abs
open Go Go.RowKit
section
variable {P : Program} [Env P] {T : TT} {nt k : Nat} {S : AS} {ops : Array Oper} {o : Oper} {R : AS → Prop}

@[simp] theorem valA_slice3 (T : TT) (S : AS) (g : Bool) (t : TypeId) (x : Operand) (lo hi : Option Operand) (mx : Operand) : valA T S g (.slice t x lo hi (some mx)) = none := rfl

end
end Go.Abs
namespace Go.Abs
open Go Go.RowKit

def AV.fv (i : Nat) (xs : List AV) : AV → AV
 | .agg cs => .agg (cs.attach.map fun ⟨x, _⟩ => x.fv i xs)
 | .tup cs => .tup (cs.attach.map fun ⟨x, _⟩ => x.fv i xs)
 | .fn f ys zs => .fn f (ys.attach.map fun ⟨x, _⟩ => x.fv i xs) (zs.attach.map fun ⟨x, _⟩ => x.fv i xs)
 | .vptr id off => if id = i then .iptr (xs.drop off) else .vptr id off
 | .opt p x => .opt p (x.fv i xs)
 | x => x
section
variable (i : Nat) (xs : List AV)
theorem fv_agg (cs : List AV) : (AV.agg cs).fv i xs = .agg (cs.map (AV.fv i xs)) := by rw [AV.fv]; simp
theorem fv_tup (cs : List AV) : (AV.tup cs).fv i xs = .tup (cs.map (AV.fv i xs)) := by rw [AV.fv]; simp
theorem fv_fn (f : Fn) (ys zs : List AV) : (AV.fn f ys zs).fv i xs = .fn f (ys.map (AV.fv i xs)) (zs.map (AV.fv i xs)) := by rw [AV.fv]; simp
theorem fv_bool (b : Bool) : (AV.bool b).fv i xs = .bool b := by simp [AV.fv]
theorem fv_int (k : IntKind) (n : Int) : (AV.int k n).fv i xs = .int k n := by simp [AV.fv]
theorem fv_str (x : List UInt8) : (AV.str x).fv i xs = .str x := by simp [AV.fv]
theorem fv_list (x : List AV) : (AV.list x).fv i xs = .list x := by simp [AV.fv]
theorem fv_iptr (x : List AV) : (AV.iptr x).fv i xs = .iptr x := by simp [AV.fv]
theorem fv_nils : (AV.nils).fv i xs = .nils := by simp [AV.fv]
theorem fv_nilp : (AV.nilp).fv i xs = .nilp := by simp [AV.fv]
theorem fv_nilf : (AV.nilf).fv i xs = .nilf := by simp [AV.fv]
theorem fv_nili : (AV.nili).fv i xs = .nili := by simp [AV.fv]
theorem fv_ifc : (AV.ifc).fv i xs = .ifc := by simp [AV.fv]
theorem fv_top : (AV.top).fv i xs = .top := by simp [AV.fv]
theorem fv_sl (a b d e : Nat) : (AV.sl a b d e).fv i xs = .sl a b d e := by simp [AV.fv]
theorem fv_ept (a b d e : Nat) : (AV.ept a b d e).fv i xs = .ept a b d e := by simp [AV.fv]
theorem fv_mref (a : Nat) : (AV.mref a).fv i xs = .mref a := by simp [AV.fv]
theorem fv_yld (a : Nat) : (AV.yld a).fv i xs = .yld a := by simp [AV.fv]
theorem fv_vptr (id off : Nat) : (AV.vptr id off).fv i xs = if id = i then .iptr (xs.drop off) else .vptr id off := by rw [AV.fv]
theorem fv_opt (p : Bool) (x : AV) : (AV.opt p x).fv i xs = .opt p (x.fv i xs) := by simp [AV.fv]
end
def AObj.fv (i : Nat) (xs : List AV) : AObj → AObj
 | .vars cs => .vars (cs.map (AV.fv i xs))
 | .arr e c' ys => .arr e c' ys
 | .dead => .dead
 | .tag id t => .tag id t
 | .lp rdy pend nt sl ps asg body => .lp rdy pend nt (sl.map fun p => (p.1, p.2.fv i xs)) ps asg body
 | .mp kvs => .mp kvs
 | .va e c' ys => .va e c' (ys.map (AV.fv i xs))
 | .it left cur => .it left cur
 | .mv kvs => .mv (kvs.map fun p => (p.1, p.2.fv i xs))
theorem fv_cells (i : Nat) (xs : List AV) (x : AV) : (x.fv i xs).cells = x.cells.map (AV.fv i xs) := by
 cases x with
 | vptr a b => by_cases h : a = i <;> simp [AV.fv, AV.cells, h]
 | _ => simp [AV.fv, AV.cells]

theorem fv_pure {w : World} {I : Nat → Prop} {v : Value} {x : AV} (i : Nat) (xs : List AV) (h : PVR w I v x) : x.fv i xs = x := by
 have key : ∀ (vs : Array Value) (cs : List AV), vs.size = cs.length → (∀ (k : Nat) (v : Value) (x : AV), vs[k]? = some v → cs[k]? = some x → x.fv i xs = x) → cs.map (AV.fv i xs) = cs := fun vs cs hl ih => by
  refine List.ext_getElem? fun k => ?_
  rw [List.getElem?_map]
  cases hx : cs[k]? with
  | none => rfl
  | some x =>
   have hk : k < vs.size := by rw [hl]; exact (List.getElem?_eq_some_iff.1 hx).1
   rw [Option.map_some, ih k vs[k] x (by simp [hk]) hx]
 induction h with
 | agg vs cs hl h ih => rw [fv_agg, key vs cs hl ih]
 | tup vs cs hl h ih => rw [fv_tup, key vs cs hl ih]
 | fn f vs us ys zs hl h hl' h' ih ih' => rw [fv_fn, key vs ys hl ih, key us zs hl' ih']
 | _ => simp [AV.fv]

theorem allSome_snap0 {H : List AObj} {xs ys : List AV} (h : allSome (xs.map (snap0 [])) = some ys) : allSome (xs.map (snap0 H)) = some ys := by
 induction xs generalizing ys with
 | nil => exact h
 | cons x xs ih =>
  simp only [List.map_cons] at h ⊢
  cases hx : snap0 [] x with
  | none => rw [hx] at h; cases h
  | some y =>
   rw [hx] at h
   have : snap0 H x = some y := by
    cases x <;> first | exact hx | (simp [snap0] at hx)
   rw [this]
   simp only [allSome] at h ⊢
   obtain ⟨zs, hz, rfl⟩ := Option.map_eq_some_iff.1 h
   rw [ih hz]; rfl

section
variable {P : Program} [Env P] {nt k : Nat} {Q : Exit → AS → Prop} {W0 w : World} {I0 I : Nat → Prop} {m : Nat → Option Nat} {H : List AObj}

theorem VR.fv (hw : WS W0 I0 w I m H) {i : Nat} {xs ys : List AV} (hys : allSome (xs.map (snap0 [])) = some ys) (hi : H[i]? = some (.vars xs)) {v : Value} {x : AV} (h : VR w I m H.length v x) :
  VR w (fun b => I b ∨ m i = some b) m H.length v (x.fv i ys) := by
 have hext : Ext w w I (fun b => I b ∨ m i = some b) := ⟨fun _ h => .inl h, fun _ _ => rfl⟩
 have hil : i < H.length := (List.getElem?_eq_some_iff.1 hi).1
 -- the other objects set aside
 have hget : ∀ (id : Nat) (o : AObj), ((List.replicate H.length AObj.dead).set i (.vars xs))[id]? = some o → (id = i ∧ o = .vars xs) ∨ o = .dead := fun id o ho => by
  by_cases hid : id = i
  ·subst hid
   rw [List.getElem?_set_self (by simpa using hil)] at ho
   exact .inl ⟨rfl, (Option.some.inj ho).symm⟩
  ·rw [List.getElem?_set_ne (by omega), List.getElem?_replicate] at ho
   split at ho
   ·exact .inr (Option.some.inj ho).symm
   ·cases ho
 have hw1 : WS W0 I0 w I m ((List.replicate H.length AObj.dead).set i (.vars xs)) := by
  refine ⟨hw.below, hw.i0, hw.iw, fun id o ho => ?_, fun id o b ho hl hm => ?_, fun a b oa ob d ha hb la lb ma mb => ?_⟩
  ·rcases hget id o ho with ⟨rfl, rfl⟩ | rfl
   ·have := hw.obj _ _ hi; simpa using this
   ·trivial
  ·rcases hget id o ho with ⟨rfl, rfl⟩ | rfl
   ·exact hw.own _ _ b hi rfl hm
   ·cases hl
  ·rcases hget a oa ha with ⟨rfl, rfl⟩ | rfl
   ·rcases hget b ob hb with ⟨rfl, rfl⟩ | rfl
    ·rfl
    ·cases lb
   ·cases la
 have hall : ∀ b, IAll I m ((List.replicate H.length AObj.dead).set i (.vars xs)) b → I b ∨ m i = some b := fun b hb => by
  rcases hb with hb | ⟨id, o, ho, hl, hm⟩
  ·exact .inl hb
  ·rcases hget id o ho with ⟨rfl, rfl⟩ | rfl
   ·exact .inr hm
   ·cases hl
 induction h with
 | pure h => rw [fv_pure i ys h]; exact .pure (h.mono hext)
 | agg vs cs hl h ih =>
  rw [fv_agg]
  refine .agg vs _ (by simpa using hl) fun j v x hv hx => ?_
  rw [List.getElem?_map] at hx
  obtain ⟨y, hy, rfl⟩ := Option.map_eq_some_iff.1 hx
  exact ih j v y hv hy
 | tup vs cs hl h ih =>
  rw [fv_tup]
  refine .tup vs _ (by simpa using hl) fun j v x hv hx => ?_
  rw [List.getElem?_map] at hx
  obtain ⟨y, hy, rfl⟩ := Option.map_eq_some_iff.1 hx
  exact ih j v y hv hy
 | fn f vs us ps qs hl h hl' h' ih ih' =>
  rw [fv_fn]
  refine .fn f vs us _ _ (by simpa using hl) (fun j v x hv hx => ?_) (by simpa using hl') (fun j v x hv hx => ?_)
  ·rw [List.getElem?_map] at hx
   obtain ⟨y, hy, rfl⟩ := Option.map_eq_some_iff.1 hx
   exact ih j v y hv hy
  ·rw [List.getElem?_map] at hx
   obtain ⟨y, hy, rfl⟩ := Option.map_eq_some_iff.1 hx
   exact ih' j v y hv hy
 | vptr id off b hn hb =>
  rw [fv_vptr]
  have hv : VR w I m H.length _ _ := .vptr id off b hn hb
  split
  ·rename_i hc
   subst hc
   have := snap1_sound hw1 (by simpa using hv) (y := .iptr (ys.drop off)) (by
    simp only [snap1, List.getElem?_set_self (show id < (List.replicate H.length AObj.dead).length by simpa using hil)]
    rw [allSome_snap0 hys]; rfl)
   exact .pure (this.mono ⟨hall, fun _ _ => rfl⟩)
  ·exact .vptr id off b hn hb
 | ept id c' j off b hn hb => rw [fv_ept]; exact .ept id c' j off b hn hb
 | yld id b hn hb => rw [fv_yld]; exact .yld id b hn hb
 | mref id b hn hb => rw [fv_mref]; exact .mref id b hn hb
 | opt p x h1 h2 ih => rw [fv_opt]; exact .opt p _ ih h2
 | sl id c' lo len cap b t hn hb hs hl hmax => rw [fv_sl]; exact .sl id c' lo len cap b t hn hb hs hl hmax
 | slnone id c' hn hb => rw [fv_sl]; exact .slnone id c' hn hb
 | slend id c' lo a hn hlo => rw [fv_sl]; exact .slend id c' lo a hn hlo

theorem look_fv {i : Nat} {ys : List AV} {t : Nat} {x : AV} : ∀ {sl : List (Nat × AV)}, look (sl.map fun p => (p.1, p.2.fv i ys)) t = some x → ∃ y, look sl t = some y ∧ x = y.fv i ys
 | [], hx => by cases hx
 | (t', y) :: r, hx => by
  simp only [List.map_cons, look] at hx ⊢
  split
  ·rename_i e; subst e; simp at hx; exact ⟨y, rfl, hx.symm⟩
  ·rename_i e; rw [if_neg e] at hx; exact look_fv hx


theorem ObjR.fv (hw : WS W0 I0 w I m H) {i : Nat} {xs ys : List AV} (hys : allSome (xs.map (snap0 [])) = some ys) (hi : H[i]? = some (.vars xs)) {b? : Option Nat} {o : AObj} (h : ObjR w I m H.length b? o) :
  ObjR w (fun b => I b ∨ m i = some b) m H.length b? (o.fv i ys) := by
 have hext : Ext w w I (fun b => I b ∨ m i = some b) := ⟨fun _ h => .inl h, fun _ _ => rfl⟩
 cases o with
 | vars cs =>
  obtain ⟨b, t, vs, e1, hh, hl, hr⟩ := h
  refine ⟨b, t, vs, e1, hh, by simpa using hl, fun j v x hv hx => ?_⟩
  rw [List.getElem?_map] at hx
  obtain ⟨y, hy, rfl⟩ := Option.map_eq_some_iff.1 hx
  exact (hr j v y hv hy).fv hw hys hi
 | arr e' c' zs =>
  rcases h with h | ⟨b, cap, vs, e1, hh, h1, h2, h3, h4, hr⟩
  ·exact .inl h
  ·exact .inr ⟨b, cap, vs, e1, hh, h1, h2, h3, h4, fun i x hx j y hy => by obtain ⟨v, hv, hp⟩ := hr i x hx j y hy; exact ⟨v, hv, hp.mono hext⟩⟩
 | it left cur =>
  obtain ⟨r, bm, es, ck, since, seen, c0, e1, hh, hI, hm, h1, h2, h3, h4, h5, hr, hcu⟩ := h
  exact ⟨r, bm, es, ck, since, seen, c0, e1, hh, .inl hI, hm, h1, h2, h3, h4, h5, fun i x p a d => ⟨(hr i x p a d).1.mono hext, (hr i x p a d).2.mono hext⟩, fun p hp => by obtain ⟨e2, sn, q1, q2, q3, q4, q5⟩ := hcu p hp; exact ⟨e2, sn, q1, q2, q3, q4.mono hext, q5.mono hext⟩⟩
 | va e' c' zs =>
  rcases h with ⟨h7, h8⟩ | ⟨b, cap, vs, e1, hh, h1, h2, h3, h4, hr⟩
  ·exact .inl ⟨h7, by rw [h8]; rfl⟩
  ·refine .inr ⟨b, cap, vs, e1, hh, by simpa using h1, h2, h3, fun x hx => ?_, fun k x hx j y hy => ?_⟩
   ·obtain ⟨z, hz, rfl⟩ := List.mem_map.1 hx
    rw [fv_cells, List.length_map]; exact h4 z hz
   ·rw [List.getElem?_map] at hx
    obtain ⟨z, hz, rfl⟩ := Option.map_eq_some_iff.1 hx
    rw [fv_cells, List.getElem?_map] at hy
    obtain ⟨u, hu, rfl⟩ := Option.map_eq_some_iff.1 hy
    obtain ⟨v, hv, hp⟩ := hr k z hz j u hu
    exact ⟨v, hv, hp.fv hw hys hi⟩
 | dead => trivial
 | tag j t => exact h
 | lp rdy pend nt sl ps asg body =>
  obtain ⟨b, r, e1, hh, q1, q2, q3, q4, q5, q6, q7⟩ := h
  refine ⟨b, r, e1, hh, q1, q2, q3, q4, q5, q6, fun t x hx => ?_⟩
  obtain ⟨y, hy, rfl⟩ := look_fv hx
  obtain ⟨v, hv, hr⟩ := q7 t y hy
  exact ⟨v, hv, hr.fv hw hys hi⟩
 | mp kvs =>
  obtain ⟨b, es, ck, e1, hh, hl, hr⟩ := h
  exact ⟨b, es, ck, e1, hh, hl, fun i x p a d => ⟨(hr i x p a d).1.mono hext, (hr i x p a d).2.mono hext⟩⟩
 | mv kvs =>
  obtain ⟨b, es, ck, e1, hh, hl, hr⟩ := h
  refine ⟨b, es, ck, e1, hh, ⟨by simpa using hl.size, hl.born, hl.nodup⟩, fun i x p a d => ?_⟩
  rw [List.getElem?_map] at d
  obtain ⟨q, hq, rfl⟩ := Option.map_eq_some_iff.1 d
  exact ⟨(hr i x q a hq).1.mono hext, (hr i x q a hq).2.fv hw hys hi⟩

end
attribute [simp] fv_mref fv_yld fv_agg fv_tup fv_fn fv_bool fv_int fv_str fv_list fv_iptr fv_nils fv_nilp fv_nilf fv_nili fv_ifc fv_top fv_vptr fv_ept fv_sl fv_opt AObj.fv
end Go.Abs
/- From a reading of the arguments to abstract values; from a function's contract to what a row asks. -/
namespace Go.Abs
open Go Go.RowKit Go.ChangeShapes Go.WideShapes
section
variable {H : Type} {enc : TypeId × Value → H} {P : Program} [Env P] {T : TT} {W : World}

theorem TOk.cellsOf (hT : TOk P T) {t : TypeId} {i : TI} (h : look T t = some i) : P.cellsOf t = i.size := by
 obtain ⟨j, hj, _, hs, _⟩ := TOk.info hT h
 simp [Program.cellsOf, hj, hs]
theorem TOk.bytesOf (hT : TOk P T) {t : TypeId} {i : TI} (h : look T t = some i) : P.bytesOf t = i.bytes := by
 obtain ⟨j, hj, _, _, hs⟩ := TOk.info hT h
 simp [Program.bytesOf, hj, hs]

def mkAV (i : TI) (zs : List AV) : AV := if i.agg then .agg zs else zs.headD .top

def ShpF (R : TypeId → List AV → Prop) : List TypeId → List AV → Prop
 | [], ys => ys = []
 | t :: ts, ys => ∃ zs rest, ys = zs ++ rest ∧ R t zs ∧ ShpF R ts rest
def ShpN (R : List AV → Prop) : Nat → List AV → Prop
 | 0, ys => ys = []
 | n + 1, ys => ∃ zs rest, ys = zs ++ rest ∧ R zs ∧ ShpN R n rest

def ShpI (T : TT) (R : TypeId → List AV → Prop) (i : TI) (ys : List AV) : Prop := match i.desc with
 | .bool => ∃ b, ys = [.bool b]
 | .int k => ∃ n, ys = [.int k n] ∧ k.min ≤ n ∧ n ≤ k.max
 | .string => ∃ s : List UInt8, ys = [.str s] ∧ s.length ≤ reachBytes
 | .slice e => ∃ ei xs, look T e = some ei ∧ ys = [.list xs] ∧ xs.length * ei.bytes ≤ reachBytes ∧ ∀ x ∈ xs, ∃ zs, x = mkAV ei zs ∧ R e zs
 | .struct fs => ShpF R (fs.toList.map (·.type)) ys
 | .array n e => ShpN (R e) n ys
 | _ => False

def Shp (T : TT) : Nat → TypeId → List AV → Prop
 | 0, _, _ => False
 | d + 1, t, ys => match look T t with
  | some i => ShpI T (Shp T d) i ys
  | none => False

def contig (T : TT) : List Field → Nat → Nat → Bool
 | [], off, size => off == size
 | f :: fs, off, size => f.offset == off && (match look T f.type with
  | some i => contig T fs (off + i.size) size
  | none => false)

def simpleT (T : TT) : Nat → TypeId → Bool
 | 0, _ => false
 | d + 1, t => match look T t with
  | some i => match i.desc with
   | .bool | .int _ | .string => i.size == 1
   | .slice e => i.size == 1 && simpleT T d e && (match look T e with
    | some ei => (ei.agg || ei.size == 1) && decide (0 < ei.size)
    | none => false)
   | .struct fs => contig T fs.toList 0 i.size && fs.toList.all fun f => simpleT T d f.type
   | .array n e => simpleT T d e && (match look T e with
    | some ei => i.size == n * ei.size
    | none => false)
   | _ => false
  | none => false

def CellsR (W : World) (cs : List Value) (ys : List AV) : Prop := cs.length = ys.length ∧ ∀ (j : Nat) (v : Value) (y : AV), cs[j]? = some v → ys[j]? = some y → PVR W (· < W.heap.size) v y

theorem CellsR.one {v : Value} {y : AV} (h : PVR W (· < W.heap.size) v y) : CellsR W [v] [y] := by
 refine ⟨rfl, fun j u z hu hz => ?_⟩
 rcases j with _ | j
 ·simp only [List.getElem?_cons_zero, Option.some.injEq] at hu hz; subst hu; subst hz; exact h
 ·simp at hu
theorem CellsR.app {cs cs' : List Value} {ys ys' : List AV} (h : CellsR W cs ys) (h' : CellsR W cs' ys') : CellsR W (cs ++ cs') (ys ++ ys') := by
 refine ⟨by simp [h.1, h'.1], fun j u z hu hz => ?_⟩
 rw [List.getElem?_append] at hu hz
 rw [h.1] at hu
 split at hu
 ·rename_i hj; rw [if_pos hj] at hz; exact h.2 j u z hu hz
 ·rename_i hj; rw [if_neg hj] at hz; exact h'.2 _ u z hu hz

theorem mapM_cons_some {α β : Type} {f : α → Option β} {a : α} {l : List α} {r : List β} (h : (a :: l).mapM f = some r) : ∃ b bs, f a = some b ∧ l.mapM f = some bs ∧ r = b :: bs := by
 rw [List.mapM_cons] at h
 simp only [Option.pure_def, Option.bind_eq_bind, Option.bind_eq_some_iff, Option.some.injEq] at h
 obtain ⟨b, hb, bs, hbs, rfl⟩ := h
 exact ⟨b, bs, hb, hbs, rfl⟩

def Goal (enc : TypeId × Value → H) (P : Program) (T : TT) (W : World) (d : Nat) (t : TypeId) : Prop := ∀ (fuel : Nat) (cs : List Value) (x : DataW H × List MemPlace),
 DataW.trod enc P W 0 (fun _ => true) true fuel t cs = some x → (∀ n ∈ x.1.weights P t, n ≤ reachBytes) → ∃ ys, Shp T d t ys ∧ CellsR W cs ys

theorem fields_read (hT : TOk P T) {d : Nat} : ∀ (fs : List Field) (off size : Nat) (cs : List Value), contig T fs off size = true → cs.length = size → (∀ f ∈ fs, Goal enc P T W d f.type) → ∀ (fuel : Nat) (xs : List (DataW H × List MemPlace)),
  (fs.mapM fun f => DataW.trod enc P W 0 (fun _ => true) true fuel f.type ((cs.drop f.offset).take (P.cellsOf f.type))) = some xs → (∀ n ∈ DataW.weightsEach P (fs.map (·.type)) (xs.map (·.1)), n ≤ reachBytes) →
  ∃ ys, ShpF (Shp T d) (fs.map (·.type)) ys ∧ CellsR W (cs.drop off) ys
 | [], off, size, cs, hc, hl, _, fuel, xs, h, _ => by
  simp only [contig, beq_iff_eq] at hc
  refine ⟨[], rfl, ?_⟩
  rw [List.drop_eq_nil_of_le (by omega)]
  exact ⟨rfl, by simp⟩
 | f :: fs, off, size, cs, hc, hl, hg, fuel, xs, h, hw => by
  simp only [contig, Bool.and_eq_true, beq_iff_eq] at hc
  obtain ⟨hoff, hc⟩ := hc
  split at hc
  ·rename_i i hi
   obtain ⟨b, bs, hb, hbs, rfl⟩ := mapM_cons_some h
   simp only [List.map_cons, DataW.weightsEach, List.mem_append] at hw
   have hsz : P.cellsOf f.type = i.size := TOk.cellsOf hT hi
   rw [hoff, hsz] at hb
   obtain ⟨zs, hz1, hz2⟩ := hg f (by simp) fuel _ b hb (fun n hn => hw n (.inl hn))
   obtain ⟨rest, hr1, hr2⟩ := fields_read hT fs (off + i.size) size cs hc hl (fun g hgm => hg g (by simp [hgm])) fuel bs hbs (fun n hn => hw n (.inr hn))
   refine ⟨zs ++ rest, ⟨zs, rest, rfl, hz1, hr1⟩, ?_⟩
   have : cs.drop off = (cs.drop off).take i.size ++ cs.drop (off + i.size) := by
    rw [← List.drop_drop, List.take_append_drop]
   rw [this]
   exact hz2.app hr2
  ·cases hc

theorem elems_read {d : Nat} {e : TypeId} {c : Nat} (hg : Goal enc P T W d e) : ∀ (n s : Nat) (cs : List Value), cs.length = (s + n) * c → ∀ (fuel : Nat) (xs : List (DataW H × List MemPlace)),
  ((List.range' s n).mapM fun i => DataW.trod enc P W 0 (fun _ => true) true fuel e ((cs.drop (i * c)).take c)) = some xs → (∀ k ∈ DataW.weightsAll P e (xs.map (·.1)), k ≤ reachBytes) →
  ∃ ys, ShpN (Shp T d e) n ys ∧ CellsR W (cs.drop (s * c)) ys
 | 0, s, cs, hl, fuel, xs, h, _ => by
  refine ⟨[], rfl, ?_⟩
  rw [List.drop_eq_nil_of_le (by rw [hl]; simp)]
  exact ⟨rfl, by simp⟩
 | n + 1, s, cs, hl, fuel, xs, h, hw => by
  rw [List.range'_succ] at h
  obtain ⟨b, bs, hb, hbs, rfl⟩ := mapM_cons_some h
  simp only [List.map_cons, DataW.weightsAll, List.mem_append] at hw
  obtain ⟨zs, hz1, hz2⟩ := hg fuel _ b hb (fun k hk => hw k (.inl hk))
  obtain ⟨rest, hr1, hr2⟩ := elems_read hg n (s + 1) cs (by rw [hl]; congr 1; omega) fuel bs hbs (fun k hk => hw k (.inr hk))
  refine ⟨zs ++ rest, ⟨zs, rest, rfl, hz1, hr1⟩, ?_⟩
  have : cs.drop (s * c) = (cs.drop (s * c)).take c ++ cs.drop ((s + 1) * c) := by
   rw [Nat.add_mul, Nat.one_mul, ← List.drop_drop, List.take_append_drop]
  rw [this]
  exact hz2.app hr2

theorem slice_read {d : Nat} {e : TypeId} {c : Nat} (hg : Goal enc P T W d e) {a : Addr} (fuel : Nat) : ∀ (n s : Nat) (xs : List (DataW H × List MemPlace)),
  ((List.range' s n).mapM fun i => (W.cells? 0 (a.add (i * c)) c).bind (DataW.trod enc P W 0 (fun _ => true) true fuel e)) = some xs → (∀ k ∈ DataW.weightsAll P e (xs.map (·.1)), k ≤ reachBytes) →
  ∃ yss : List (List AV), yss.length = n ∧ (∀ ys ∈ yss, Shp T d e ys ∧ ys.length = c) ∧ ∀ i ys, yss[i]? = some ys → ∃ cs, W.cells? 0 (a.add ((s + i) * c)) c = some cs ∧ CellsR W cs ys
 | 0, s, xs, h, _ => ⟨[], rfl, by simp, by simp⟩
 | n + 1, s, xs, h, hw => by
  rw [List.range'_succ] at h
  obtain ⟨b, bs, hb, hbs, rfl⟩ := mapM_cons_some h
  simp only [List.map_cons, DataW.weightsAll, List.mem_append] at hw
  obtain ⟨cs, hcs, hb⟩ := Option.bind_eq_some_iff.1 hb
  obtain ⟨zs, hz1, hz2⟩ := hg fuel _ b hb (fun k hk => hw k (.inl hk))
  obtain ⟨yss, h1, h2, h3⟩ := slice_read hg fuel n (s + 1) bs hbs (fun k hk => hw k (.inr hk))
  have hcl := (World.cells?_some hcs).2.1
  refine ⟨zs :: yss, by simp [h1], fun ys hys => ?_, fun i ys hi => ?_⟩
  ·rcases List.mem_cons.1 hys with rfl | hys
   ·exact ⟨hz1, by rw [← hz2.1, hcl]⟩
   ·exact h2 ys hys
  ·rcases i with _ | i
   ·simp only [List.getElem?_cons_zero, Option.some.injEq] at hi; subst hi
    exact ⟨cs, by simpa using hcs, hz2⟩
   ·obtain ⟨cs', h4, h5⟩ := h3 i ys (by simpa using hi)
    exact ⟨cs', by rw [show s + (i + 1) = s + 1 + i by omega]; exact h4, h5⟩

theorem cell_lt {a : Addr} {v : Value} (h : W.cell? a = some v) : a.block < W.heap.size := by
 rcases Nat.lt_or_ge a.block W.heap.size with h' | h'
 ·exact h'
 ·simp [World.cell?, Array.getElem?_eq_none h'] at h

theorem mkAV_cells {ei : TI} {zs : List AV} (hsz : ei.agg = true ∨ zs.length = 1) (hl : ei.agg = false → ∀ z ∈ zs, z.cells = [z]) : (mkAV ei zs).cells = zs := by
 unfold mkAV
 split
 ·rfl
 ·rename_i h
  have h' : ei.agg = false := by simpa using h
  rcases hsz with h1 | h1
  ·rw [h1] at h'; cases h'
  ·obtain ⟨z, rfl⟩ := List.length_eq_one_iff.1 h1
   exact hl h' z (by simp)

theorem Shp.leafs {d : Nat} {e : TypeId} {ei : TI} {ys : List AV} (h : Shp T d e ys) (he : look T e = some ei) (ha : ei.agg = false) : ∀ z ∈ ys, z.cells = [z] := by
 cases d with
 | zero => exact h.elim
 | succ d =>
  unfold Shp at h
  rw [he] at h
  simp only [ShpI] at h
  unfold TI.agg at ha
  split at h
  ·obtain ⟨b, rfl⟩ := h; simp [AV.cells]
  ·obtain ⟨n, rfl, _⟩ := h; simp [AV.cells]
  ·obtain ⟨s, rfl, _⟩ := h; simp [AV.cells]
  ·obtain ⟨_, xs, _, rfl, _⟩ := h; simp [AV.cells]
  ·rename_i hd; rw [hd] at ha; cases ha
  ·rename_i hd; rw [hd] at ha; cases ha
  ·exact h.elim

theorem read_sound (hT : TOk P T) : ∀ (d : Nat) (t : TypeId), simpleT T d t = true → Goal enc P T W d t
 | 0, _, hs => by cases hs
 | d + 1, t, hs => by
  intro fuel cs x h hw
  unfold simpleT at hs
  cases hi : look T t with
  | none => rw [hi] at hs; cases hs
  | some i =>
   rw [hi] at hs
   simp only at hs
   have hu := TOk.und hT hi
   have hc := TOk.cellsOf hT hi
   cases fuel with
   | zero => simp [DataW.trod] at h
   | succ fuel =>
    unfold DataW.trod at h
    simp only [Shp, hi, ShpI]
    have hdd : ∀ {q : TypeDesc}, P.underlying t = some q → i.desc = q := fun hq => by rw [hu] at hq; exact Option.some.inj hq
    split at h
    case h_1 b hq =>
     rw [hdd hq] at hs ⊢
     simp only [Option.some.injEq] at h
     exact ⟨_, ⟨b, rfl⟩, .one (.bool b)⟩
    case h_2 k k' n hq =>
     rw [hdd hq] at hs ⊢
     split at h
     ·rename_i hk
      obtain ⟨rfl, hk⟩ := hk
      simp only [Lit.wf, Bool.and_eq_true, decide_eq_true_eq] at hk
      exact ⟨_, ⟨n, rfl, hk.1, hk.2⟩, .one (.int _ n)⟩
     ·cases h
    case h_4 s hq =>
     rw [hdd hq] at hs ⊢
     split at h
     ·simp only [Option.some.injEq] at h
      subst h
      refine ⟨_, ⟨s.data.toList, rfl, hw _ (by simp [DataW.weights])⟩, .one ?_⟩
      have : Value.string s = .string ⟨s.data.toList.toArray⟩ := by cases s; simp
      rw [this]
      exact .str _
     ·cases h
    case h_7 e hq =>
     rw [hdd hq] at hs ⊢
     simp only [Bool.and_eq_true] at hs
     obtain ⟨⟨_, hs1⟩, hs2⟩ := hs
     cases he : look T e with
     | none => rw [he] at hs2; cases hs2
     | some ei => exact ⟨_, ⟨ei, [], he, rfl, by simp, by simp⟩, .one (.list _ _ _ 0 _ (fun _ _ => undef) rfl (by simp) (by unfold maxLen; omega) (by simp) (fun h0 => by simp at h0) (by simp))⟩
    case h_8 e a len cap hq =>
     rw [hdd hq] at hs ⊢
     simp only [Bool.and_eq_true] at hs
     obtain ⟨⟨_, hs1⟩, hs2⟩ := hs
     cases he : look T e with
     | none => rw [he] at hs2; cases hs2
     | some ei =>
      rw [he] at hs2
      simp only [Bool.and_eq_true, Bool.or_eq_true, beq_iff_eq, decide_eq_true_eq] at hs2
      obtain ⟨hs2, hz⟩ := hs2
      have hce := TOk.cellsOf hT he
      have hbe := TOk.bytesOf hT he
      rw [hce] at h
      split at h
      ·rename_i hcap
       simp only [Option.bind_eq_some_iff, Option.map_eq_some_iff] at h
       obtain ⟨elems, hel, rest, _, rfl⟩ := h
       simp only [DataW.weights, hq, List.mem_cons, List.mem_append] at hw
       rw [List.range_eq_range'] at hel
       obtain ⟨yss, h1, h2, h3⟩ := slice_read (read_sound hT d e hs1) fuel len 0 elems hel (fun k hk => hw k (.inr (.inl hk)))
       have hlen : elems.length = len := by
        have := mapM_some_length hel
        simpa using this
       have hcel : ∀ ys ∈ yss, (mkAV ei ys).cells = ys := fun ys hys => by
        have := h2 ys hys
        refine mkAV_cells (hs2.imp_right fun h => by rw [this.2, h]) (fun ha => this.1.leafs he ha)
       refine ⟨_, ⟨ei, yss.map (mkAV ei), he, rfl, ?_, fun x hx => ?_⟩, .one ?_⟩
       ·have := hw _ (.inl rfl)
        simp only [List.length_map] at this ⊢
        rw [hbe] at this
        rw [h1]
        refine Nat.le_trans (Nat.mul_le_mul_right _ ?_) this
        omega
       ·obtain ⟨ys, hys, rfl⟩ := List.mem_map.1 hx
        exact ⟨ys, rfl, (h2 ys hys).1⟩
       ·refine .list (some a) len cap ei.size _ (fun i j => (((W.cells? 0 (a.add (i * ei.size)) ei.size).getD [])[j]?).getD undef) (by simp [h1]) (by simp [h1]; exact hcap.2.1) hcap.2.2 (fun x hx => ?_) (fun h0 => ?_) (fun i x hx j y hy => ?_)
        ·obtain ⟨ys, hys, rfl⟩ := List.mem_map.1 hx
         rw [hcel ys hys]; exact (h2 ys hys).2
        ·have key : ∀ i j, i < (yss.map (mkAV ei)).length → j < ei.size → W.cell? (a.add (i * ei.size + j)) = some ((((W.cells? 0 (a.add (i * ei.size)) ei.size).getD [])[j]?).getD undef) := fun i j hi' hj => by
          simp only [List.length_map] at hi'
          obtain ⟨cs, hcs, hr⟩ := h3 i yss[i] (by simp [hi'])
          rw [Nat.zero_add] at hcs
          rw [hcs, Option.getD_some]
          obtain ⟨_, q2, q3⟩ := World.cells?_some hcs
          have := q3 j hj
          rw [add_add] at this
          rw [this]
          have hjl : j < cs.length := by omega
          simp [hjl]
         refine ⟨a, rfl, fun _ => ?_, key⟩
         have := cell_lt (key 0 0 h0 hz)
         rwa [block_add] at this
        ·rw [List.getElem?_map] at hx
         obtain ⟨ys, hys, rfl⟩ := Option.map_eq_some_iff.1 hx
         have hm := List.mem_of_getElem? hys
         rw [hcel ys hm] at hy
         obtain ⟨cs, hcs, hr⟩ := h3 i ys hys
         rw [Nat.zero_add] at hcs
         rw [hcs, Option.getD_some]
         have hj : j < cs.length := by rw [hr.1]; exact (List.getElem?_eq_some_iff.1 hy).1
         have := hr.2 j cs[j] y (by simp [hj]) hy
         simpa [hj] using this
      ·cases h
    case h_9 cs _ _ fs hq =>
     rw [hdd hq] at hs ⊢
     simp only [Bool.and_eq_true, List.all_eq_true] at hs
     split at h
     ·rename_i hl
      rw [hc] at hl
      obtain ⟨xs, hxs, rfl⟩ := Option.map_eq_some_iff.1 h
      simp only [DataW.weights, hq] at hw
      obtain ⟨ys, h1, h2⟩ := fields_read hT fs.toList 0 i.size cs hs.1 hl (fun f hf => read_sound hT d f.type (hs.2 f hf)) fuel xs hxs hw
      exact ⟨ys, h1, by simpa using h2⟩
     ·cases h
    case h_10 cs _ _ n e hq =>
     rw [hdd hq] at hs ⊢
     simp only [Bool.and_eq_true] at hs
     cases he : look T e with
     | none => rw [he] at hs; cases hs.2
     | some ei =>
      rw [he] at hs
      simp only [beq_iff_eq] at hs
      have hce := TOk.cellsOf hT he
      split at h
      ·rename_i hl
       rw [hc, hs.2] at hl
       obtain ⟨xs, hxs, rfl⟩ := Option.map_eq_some_iff.1 h
       simp only [DataW.weights, hq] at hw
       rw [hce, List.range_eq_range'] at hxs
       obtain ⟨ys, h1, h2⟩ := elems_read (read_sound hT d e hs.1) n 0 cs (by simpa using hl) fuel xs hxs hw
       exact ⟨ys, h1, by simpa using h2⟩
      ·cases h
    all_goals first
     | (cases h; done)
     | (rename_i hq; rw [hdd hq] at hs; cases hs; done)
     | (rename_i hq _; rw [hdd hq] at hs; cases hs; done)
     | (rename_i hq _ _; rw [hdd hq] at hs; cases hs; done)
     | skip

def ArgsShp (T : TT) (d : Nat) : List TypeId → List AV → Prop
 | [], xs => xs = []
 | t :: ts, xs => ∃ i zs rest, look T t = some i ∧ xs = mkAV i zs :: rest ∧ Shp T d t zs ∧ ArgsShp T d ts rest

theorem arg_read (hT : TOk P T) {d : Nat} {t : TypeId} (hs : simpleT T d t = true) {r : Reach} {base : Nat} {v : Value} (hok : Value.okWide P W r base t v) {D : DataW H} {ps : List MemPlace} (h : DataW.Trod enc P W 0 (fun _ => true) true t v D ps)
  (hw : ∀ n ∈ D.weights P t, n ≤ reachBytes) : ∃ i zs, look T t = some i ∧ Shp T d t zs ∧ PVR W (· < W.heap.size) v (mkAV i zs) := by
 obtain ⟨fuel, hf⟩ := h
 obtain ⟨ys, h1, h2⟩ := read_sound hT d t hs fuel _ _ hf hw
 cases d with
 | zero => cases hs
 | succ d =>
  have h1' := h1
  unfold Shp at h1
  cases hi : look T t with
  | none => rw [hi] at h1; exact h1.elim
  | some i =>
   rw [hi] at h1
   have hu := TOk.und hT hi
   refine ⟨i, ys, rfl, h1', ?_⟩
   unfold Value.okWide at hok
   rw [hu] at hok
   unfold mkAV
   by_cases ha : i.agg = true
   ·rw [if_pos ha]
    unfold TI.agg at ha
    have : ∃ cs, v = .agg cs := by
     split at ha
     ·rename_i hd; rw [hd] at hok; obtain ⟨cs, hc, _⟩ := hok; exact ⟨cs, hc⟩
     ·rename_i hd; rw [hd] at hok; obtain ⟨cs, hc, _⟩ := hok; exact ⟨cs, hc⟩
     ·cases ha
    obtain ⟨cs, rfl⟩ := this
    exact .agg cs ys (by simpa [Value.cells] using h2.1) (fun j u y hu hy => h2.2 j u y (by simpa [Value.cells] using hu) hy)
   ·rw [if_neg ha]
    have hlf : ∃ y, ys = [y] := by
     simp only [ShpI] at h1
     unfold TI.agg at ha
     split at h1
     ·obtain ⟨b, rfl⟩ := h1; exact ⟨_, rfl⟩
     ·obtain ⟨b, rfl, _⟩ := h1; exact ⟨_, rfl⟩
     ·obtain ⟨b, rfl, _⟩ := h1; exact ⟨_, rfl⟩
     ·obtain ⟨_, xs, _, rfl, _⟩ := h1; exact ⟨_, rfl⟩
     ·rename_i hd; rw [hd] at ha; exact absurd rfl ha
     ·rename_i hd; rw [hd] at ha; exact absurd rfl ha
     ·exact h1.elim
    obtain ⟨y, rfl⟩ := hlf
    have hnv : ∀ cs, v ≠ .agg cs := by
     rintro cs rfl
     have hcell : Cell.okWide P W r base t (.agg cs) := by
      unfold TI.agg at ha
      split at hok
      ·rename_i heq; rw [Option.some.inj heq] at ha; exact absurd rfl ha
      ·rename_i heq; rw [Option.some.inj heq] at ha; exact absurd rfl ha
      ·exact hok
     simp only [ShpI] at h1
     unfold Cell.okWide at hcell
     rw [hu] at hcell
     split at h1
     all_goals first | (exact h1.elim) | skip
     all_goals (rename_i hd; rw [hd] at hcell)
     all_goals first | (simp [Cell.ok, hu, hd] at hcell; done) | skip
    have hvc : v.cells.toList = [v] := by
     cases v <;> first | rfl | exact absurd rfl (hnv _)
    rw [hvc] at h2
    exact h2.2 0 v y rfl rfl

theorem args_read (hT : TOk P T) {d : Nat} {r : Reach} {base : Nat} : ∀ (ts : List TypeId) (vs : List Value) (ds : List (DataW H)) (ps : List MemPlace), ts.all (simpleT T d) = true → DataW.TrodAll enc P W 0 (fun _ => true) true ts vs ds ps →
  (∀ (j : Nat) t v, ts[j]? = some t → vs[j]? = some v → Value.okWide P W r base t v) → (∀ n ∈ DataW.weightsEach P ts ds, n ≤ reachBytes) →
  ds.length = ts.length ∧ ∃ xs, ArgsShp T d ts xs ∧ vs.length = xs.length ∧ ∀ (j : Nat) (v : Value) (x : AV), vs[j]? = some v → xs[j]? = some x → PVR W (· < W.heap.size) v x
 | [], vs, ds, ps, _, h, _, _ => by
  obtain ⟨rfl, rfl, _⟩ := trodAll_nil h
  exact ⟨rfl, [], rfl, rfl, by simp⟩
 | t :: ts, vs, ds, ps, hs, h, hok, hw => by
  obtain ⟨v, vs', D, ds', p, q, rfl, rfl, rfl, h0, h1⟩ := trodAll_cons h
  simp only [List.all_cons, Bool.and_eq_true] at hs
  simp only [DataW.weightsEach, List.mem_append] at hw
  obtain ⟨i, zs, g1, g2, g3⟩ := arg_read hT hs.1 (hok 0 t v rfl rfl) h0 (fun n hn => hw n (.inl hn))
  obtain ⟨k0, xs, k1, k2, k3⟩ := args_read hT ts vs' ds' q hs.2 h1 (fun j t v a b => hok (j + 1) t v (by simpa using a) (by simpa using b)) (fun n hn => hw n (.inr hn))
  refine ⟨by simp [k0], mkAV i zs :: xs, ⟨i, zs, xs, g1, rfl, g2, k1⟩, by simp [k2], fun j u x hu hx => ?_⟩
  rcases j with _ | j
  ·simp only [List.getElem?_cons_zero, Option.some.injEq] at hu hx; subst hu; subst hx; exact g3
  ·exact k3 j u x (by simpa using hu) (by simpa using hx)

theorem trodAll_stays (hl : laidOutB P = true) {W' : World} {sp : Nat → Bool} : ∀ (ts : List TypeId) (vs : List Value) (ds : List (DataW H)) (ps : List MemPlace), (ts.all fun t => P.readableRec t && decide (t < P.types.size)) = true →
  DataW.TrodAll enc P W 0 (fun _ => true) true ts vs ds ps → (∀ p ∈ ps, W.sameAt W' p) → (∀ p ∈ ps, sp p.block = true) → DataW.TrodAll enc P W' 0 sp true ts vs ds ps
 | [], vs, ds, ps, _, h, _, _ => by
  obtain ⟨rfl, rfl, rfl⟩ := trodAll_nil h
  rfl
 | t :: ts, vs, ds, ps, hr, h, hsame, hsp => by
  obtain ⟨v, vs', D, ds', p, q, rfl, rfl, rfl, h0, h1⟩ := trodAll_cons h
  simp only [List.all_cons, Bool.and_eq_true, decide_eq_true_eq] at hr
  exact ⟨p, q, WideElems.Trod_stays hl hr.1.1 hr.1.2 h0 (fun x hx => hsame x (by simp [hx])) (fun x hx => hsp x (by simp [hx])),
   trodAll_stays hl ts vs' ds' q hr.2 h1 (fun x hx => hsame x (by simp [hx])) (fun x hx => hsp x (by simp [hx])), rfl⟩

theorem post_below {fn : Func} {s : ChangeSpec} {apart fresh handsOn again : Bool} {W' : World} {args : Array Value} {ds : List (DataW H)} {before : List MemPlace} {tb : TypeId} (hl : laidOutB P = true)
  (hres : fn.resultTypes = #[tb]) (hb : P.underlying tb = some .bool) (hread : (fn.params.toList.all fun t => P.readableRec t && decide (t < P.types.size)) = true) (hvars : s.vars = [])
  (hfn : s.fn H ds = { results := [.lit (.bool true)], args := ds })
  (hW : DataW.Whole enc P fn.params.toList s.vars apart W args.toList ds [] before) (hbl : Below W.heap.size W W') : s.post enc P fn apart fresh handsOn again W args (.bool true) W' := by
 have hlt := hW.lt
 have hW' := hW
 obtain ⟨p, q, hA, hV, rfl, hz, hn⟩ := hW
 rw [hvars] at hV
 obtain ⟨_, rfl⟩ := trodVars_none hV
 simp only [List.append_nil] at hW' hlt hz hn
 have hst : ∀ sp : Nat → Bool, (∀ x ∈ p, sp x.block = true) → DataW.TrodAll enc P W' 0 sp true fn.params.toList args.toList ds p := fun sp hsp => trodAll_stays hl _ _ _ _ hread hA (fun x hx => hbl.same (hlt x hx)) hsp
 have hold : ∀ x ∈ p, (fun b => decide (b < W.heap.size)) x.block = true := fun x hx => by simpa using hlt x hx
 have hrs : ∀ (b : Nat) (sp : Nat → Bool) (hd : Bool), DataW.TrodAll enc P W' b sp hd fn.resultTypes.toList ((Value.bool true).resultList fn.resultTypes.size) (s.fn H ds).results [] := fun b sp hd => by
  rw [hres, hfn]
  exact trodAll_mk1 (shut_bool hb true)
 refine ⟨ds, [], p, [], p, [], hW', by simpa using hrs _ _ _, by simpa [hfn] using hst _ hold, by rw [List.append_nil, hfn, hvars]; rfl, World.keptBut_mono (fun x hx => ⟨hx, .inr (.inl hx)⟩) (hbl.frame (· ∈ p)), fun _ => ?_⟩
 refine ⟨ok_one hres rfl (okWide_bool_mk hb true), _, [], ([] ++ p) ++ [], ⟨[] ++ p, [], trodAll_append (by simpa [hfn] using hst _ (fun _ _ => rfl)) (by simpa using hrs _ _ _), by rw [hvars]; rfl, rfl, ?_, ?_⟩, ?_⟩
 ·intro b off hp
  simp only [List.nil_append, List.append_nil] at hp
  have hb2 := hlt _ hp
  rw [hbl.frozen hb2]
  exact hz b off hp
 ·intro ha
  simpa using hn ha
 ·intro x hx _
  simpa using hx

theorem row_of_PC (hT : TOk P T) (hl : laidOutB P = true) {f : FuncId} {fn : Func} {d : Nat} {tb : TypeId} (hres : fn.resultTypes = #[tb]) (hb : P.underlying tb = some .bool)
  (hread : (fn.params.toList.all fun t => P.readableRec t && decide (t < P.types.size)) = true) (hsimple : fn.params.toList.all (simpleT T d) = true)
  (hE : EOK P W (· < W.heap.size)) (hPC : ∀ xs, ArgsShp T d fn.params.toList xs → PC P f xs (fun r => r = .bool true)) {s : ChangeSpec} (hvars : s.vars = [])
  (hfn : ∀ ds : List (DataW H), ds.length = fn.params.toList.length → s.fn H ds = { results := [.lit (.bool true)], args := ds }) {apart fresh handsOn again : Bool}
  {base : Nat} {args : Array Value} {ds gs : List (DataW H)} {before : List MemPlace} (hval : ∀ (j : Nat) t v, fn.params[j]? = some t → args[j]? = some v → Value.okWide P W .any base t v)
  (hW : DataW.Whole enc P fn.params.toList s.vars apart W args.toList ds gs before) {vt : List TypeId} (hvt : vt = []) (hwt : (DataW.weightsEach P (fn.params.toList ++ vt) (ds ++ gs)).all (· ≤ reachBytes) = true) :
  Calls P f args W fun e W' => ∃ v, e = .returned v ∧ s.post enc P fn apart fresh handsOn again W args v W' := by
 have hW' := hW
 obtain ⟨p, q, hA, hV, rfl, hz, hn⟩ := hW
 rw [hvars] at hV
 obtain ⟨rfl, rfl⟩ := trodVars_none hV
 rw [hvt, List.append_nil, List.append_nil] at hwt
 have hw : ∀ n ∈ DataW.weightsEach P fn.params.toList ds, n ≤ reachBytes := fun n hn => by simpa using List.all_eq_true.1 hwt n hn
 obtain ⟨hlen, xs, hx, hxl, hxr⟩ := args_read hT fn.params.toList args.toList ds p hsimple hA (fun j t v a b => hval j t v (by simpa using a) (by simpa using b)) hw
 refine ((hPC xs hx).2 W (· < W.heap.size) args hE (fun _ h => h) (by simpa using hxl) (fun j v x a b => hxr j v x (by simpa using a) b)).mono ?_
 rintro e W' ⟨v, I', r, rfl, rfl, hbl, _, _, hv⟩
 cases hv
 exact ⟨_, rfl, post_below hl hres hb hread hvars (hfn ds hlen) (by simpa using hW') hbl⟩
end
end Go.Abs
/- Bytes and strings: the conversions, and append of a string. -/
namespace Go.Abs
open Go Go.RowKit
section
variable {P : Program} [Env P] {T : TT} {nt k : Nat} {S : AS} {ops : Array Oper} {o : Oper} {R : AS → Prop}

@[simp] def byteAV (c : UInt8) : AV := .int .u8 c.toNat
theorem AStep_toStr (hT : TOk P T) {wr : Bool} (hw : wantedA ops S o = some true) {x : Operand} {src dst e : TypeId} (ho : o.op = .convert src dst x) {it ei idst : TI} (ht : look T src = some it) (hit : it.desc = .slice e) (he : look T e = some ei) (hei : ei.desc = .int .u8)
  (hdst : look T dst = some idst) (hid : idst.desc = .string) {xv : AV} (hx : rho S.sl x = some xv) {s : List UInt8} (hs : contA S.hp xv = some (s.map byteAV)) (hd : dstOk nt o = true) (hR : R (S.putD o.dst (.str s))) : AStep P nt k wr ops o S R := fun C a w K Q hst hK => by
 unfold OpW
 rw [if_pos (hst.wanted hw)]
 obtain ⟨I, m, hws, hsl, hk, hE⟩ := hst
 obtain ⟨ao, cap, u, hxv, hcell, hpv⟩ := contA_sound hws (rho_sound hsl hx) hs
 have hus := hT.und ht
 rw [hit] at hus
 have hue := hT.und he
 rw [hei] at hue
 have hud := hT.und hdst
 rw [hid] at hud
 rw [List.length_map] at hxv hcell
 have hrun : (convert src dst (a.eval x)).run P w = .ok (.string ⟨s.toArray⟩) w := by
  rw [hxv]
  rcases Nat.eq_zero_or_pos s.length with h0 | h0
  ·have hs0 := List.eq_nil_of_length_eq_zero h0
   subst hs0
   cases ao with
   | none =>
    rw [run_convert_bytes_string w src dst e none _ cap hus hue hud]
    simp [Conv.bytesToString]
    rfl
   | some ad => exact run_convert_bytes_back w src dst e ad cap [] hus hue hud (fun j hj => by simp at hj)
  ·obtain ⟨ad, rfl, c, hc1, hc2⟩ := hcell h0
   refine run_convert_bytes_back w src dst e ad cap s hus hue hud (fun j hj => ?_)
   have hc : c = 1 := by
    rw [← hc1 (byteAV s[0]) (List.mem_map.2 ⟨s[0], List.getElem_mem h0, rfl⟩)]; rfl
   subst hc
   have h1 := hc2 j 0 hj (by omega)
   rw [Nat.mul_one, Nat.add_zero] at h1
   have h2 := hpv j (byteAV s[j]) (by simp [hj]) 0 (byteAV s[j]) rfl
   rw [h1]
   have h3 : u j 0 = .int .u8 (s[j]).toNat := (VR.pure (m := m) (n := 0) h2).int_inv
   rw [h3]
 unfold wpA
 have : (execOp a.eval o).run P w = .ok (.value (.string ⟨s.toArray⟩)) w := by
  simp only [execOp, ho]
  rw [Sem.run_bind, hrun]
  rfl
 rw [this]
 exact hK _ _ w hR (St.value hsl hk hE hws (Fut.refl _ _ _ _) (Nat.le_refl _) (dstOk_spec hd) (.pure (.str _))) (fun _ => Held.refl w)

end
end Go.Abs
namespace Go.Abs
open Go Go.RowKit

def AV.val : AV → Option Value
 | .bool b => some (.bool b)
 | .int k n => some (.int k n)
 | .str s => some (.string ⟨s.toArray⟩)
 | _ => none

theorem PVR.val {w : World} {I : Nat → Prop} {v u : Value} {x : AV} (h : PVR w I v x) (hx : x.val = some u) : v = u := by
 cases x <;> simp [AV.val] at hx <;> subst hx <;> cases h <;> rfl

end Go.Abs
/- What strings.Builder asks: pointers through unsafe.Pointer, unsafe.SliceData, unsafe.String; nil interfaces. -/
namespace Go.Abs
open Go Go.RowKit
section
variable {P : Program} [Env P] {T : TT} {nt k : Nat} {Q : Exit → AS → Prop} {S : AS} {ops : Array Oper} {o : Oper} {R : AS → Prop}

end
end Go.Abs
namespace Go.Abs
open Go Go.RowKit

section
variable {W0 w : World} {I0 I : Nat → Prop} {m : Nat → Option Nat} {H : List AObj}
theorem WS.addI (h : WS W0 I0 w I m H) {l : Nat} (h1 : l < w.heap.size) (h2 : W0.heap.size ≤ l) (h3 : ∀ (id : Nat) (o : AObj), H[id]? = some o → o.live = true → m id ≠ some l) : WS W0 I0 w (fun b => I b ∨ b = l) m H := by
 have hf : Fut H.length w I m w (fun b => I b ∨ b = l) m := ⟨⟨fun _ h => .inl h, fun _ _ => rfl⟩, fun _ _ => rfl, fun _ _ h => h⟩
 refine ⟨h.below, fun b hb => .inl (h.i0 b hb), fun b hb => ?_, fun id o ho => (h.obj id o ho).mono hf (Nat.le_refl _) (fun _ _ _ => rfl), fun id o b ho hl hm => ?_, h.inj⟩
 ·rcases hb with hb | rfl
  ·exact h.iw b hb
  ·exact ⟨h1, .inr h2⟩
 ·have := h.own id o b ho hl hm
  refine ⟨this.1, fun hc => ?_, this.2.2⟩
  rcases hc with hc | rfl
  ·exact this.2.1 hc
  ·exact h3 id o ho hl hm
theorem WS.revive (h : WS W0 I0 w I m H) {q l : Nat} {o' : AObj} (ho : H[q]? = some .dead) (hm : m q = some l) (h1 : l < w.heap.size) (h2 : W0.heap.size ≤ l) (hI : ¬ I l) (h3 : ∀ (id : Nat) (o : AObj), H[id]? = some o → o.live = true → m id ≠ some l)
  (hO : ObjR w I m H.length (some l) o') : WS W0 I0 w I m (H.set q o') := by
 have hq : q < H.length := (List.getElem?_eq_some_iff.1 ho).1
 have hcase : ∀ (k : Nat) (p : AObj), (H.set q o')[k]? = some p → (k ≠ q ∧ H[k]? = some p) ∨ (k = q ∧ p = o') := fun k p hp => by
  by_cases hk : k = q
  ·subst hk
   rw [List.getElem?_set_self hq] at hp
   exact .inr ⟨rfl, (Option.some.inj hp).symm⟩
  ·rw [List.getElem?_set_ne (by omega)] at hp; exact .inl ⟨hk, hp⟩
 refine ⟨h.below, h.i0, h.iw, fun k p hp => ?_, fun k p c hp lp mc => ?_, fun i j oi oj c hi hj li lj mi mj => ?_⟩
 ·rw [List.length_set]
  rcases hcase k p hp with ⟨_, h5⟩ | ⟨rfl, rfl⟩
  ·exact h.obj k p h5
  ·rw [hm]; exact hO
 ·rcases hcase k p hp with ⟨_, h5⟩ | ⟨rfl, rfl⟩
  ·exact h.own k p c h5 lp mc
  ·rw [hm] at mc; cases mc; exact ⟨h2, hI, h1⟩
 ·rcases hcase i oi hi with ⟨a1, a2⟩ | ⟨rfl, rfl⟩
  ·rcases hcase j oj hj with ⟨b1, b2⟩ | ⟨rfl, rfl⟩
   ·exact h.inj i j oi oj c a2 b2 li lj mi mj
   ·rw [hm] at mj; cases mj; exact absurd mi (h3 i oi a2 li)
  ·rcases hcase j oj hj with ⟨b1, b2⟩ | ⟨rfl, rfl⟩
   ·rw [hm] at mi; cases mi; exact absurd mj (h3 j oj b2 lj)
   ·rfl
end

def putMany : List (Nat × AV) → List Tmp → List AV → List (Nat × AV)
 | sl, p :: ps, x :: xs => putMany (put sl p x) ps xs
 | sl, _, _ => sl
theorem putMany_sound {w : World} {I : Nat → Prop} {m : Nat → Option Nat} {n nt : Nat} : ∀ (ps : List Tmp) (xs : List AV) (vs : List Value) (sl : List (Nat × AV)) (tm : Array Value), ps.length = xs.length → vs.length = xs.length → (ps.all fun p => decide (p < nt)) = true →
  (∀ (i : Nat) (v : Value) (x : AV), vs[i]? = some v → xs[i]? = some x → VR w I m n v x) → tm.size = nt → (∀ (t : Nat) (x : AV), look sl t = some x → ∃ v, tm[t]? = some v ∧ VR w I m n v x) →
  ((ps.zip vs).foldl (fun (tm : Array Value) (p : Tmp × Value) => tm.setIfInBounds p.1 p.2) tm).size = nt ∧ ∀ (t : Nat) (x : AV), look (putMany sl ps xs) t = some x → ∃ v, ((ps.zip vs).foldl (fun (tm : Array Value) (p : Tmp × Value) => tm.setIfInBounds p.1 p.2) tm)[t]? = some v ∧ VR w I m n v x
 | [], _, _, sl, tm, _, _, _, _, h1, h2 => ⟨h1, h2⟩
 | p :: ps, [], _, _, _, hl, _, _, _, _, _ => by cases hl
 | p :: ps, x :: xs, [], _, _, _, hl, _, _, _, _ => by cases hl
 | p :: ps, x :: xs, v :: vs, sl, tm, hl1, hl2, hp, hv, h1, h2 => by
  simp only [List.all_cons, Bool.and_eq_true, decide_eq_true_eq] at hp
  simp only [List.zip_cons_cons, List.foldl_cons, putMany]
  refine putMany_sound ps xs vs (put sl p x) _ (by simpa using hl1) (by simpa using hl2) hp.2 (fun i v x a b => hv (i + 1) v x a b) (by simpa using h1) (fun t y hy => ?_)
  rw [look_put] at hy
  by_cases ht : t = p
  ·subst ht
   rw [if_pos rfl] at hy
   cases hy
   exact ⟨v, by simp [h1, hp.1], hv 0 v _ rfl rfl⟩
  ·rw [if_neg ht] at hy
   obtain ⟨u, hu, hr⟩ := h2 t y hy
   exact ⟨u, by rw [Array.getElem?_setIfInBounds_ne (Ne.symm ht)]; exact hu, hr⟩

section
variable {P : Program} [Env P] {T : TT} {nt k : Nat} {S : AS} {ops : Array Oper} {o : Oper} {R : AS → Prop}

def RoundQ (q : Nat) (Rr : Option Code → List AObj → Prop) : Exit → AS → Prop
 | .normal, S => S.hp[q]? = some .dead ∧ Rr none S.hp
 | .ret, S => S.hp[q]? = some .dead ∧ Rr (some .ret) S.hp
 | .exit id, S => S.hp[q]? = some .dead ∧ Rr (some (.exit id)) S.hp
 | _, _ => False

theorem run_callYield {a : Act} {w : World} {cf : Operand} {args : Array Operand} {ts : Array TypeId} (ho : o.op = .call ⟨.value cf, args, ts⟩) {l : Nat} (hf : a.eval cf = .func (.yield l) #[] #[]) {r : Loop} (hr : w.heap[l]? = some (.loop r)) (hs : args.size = r.params.size) :
  (execOp a.eval o).run P w = .ok (.round l r.fn ((r.params.zip (args.map a.eval)).foldl (fun tmps (t, a) => tmps.setIfInBounds t a) r.tmps) r.assign r.body) w := by
 have := run_yield (P := P) (args := args.map a.eval) hr (by simpa using hs)
 simp only [execOp, ho, resolve, hf, Deferred.ofValue, invoke]
 simp [this]

theorem AStep_yield {cf : Operand} {args : Array Operand} {ts : Array TypeId} (hw : wantedA ops S o = some true) (ho : o.op = .call ⟨.value cf, args, ts⟩) {q : Nat} (hcf : rho S.sl cf = some (.yld q)) {xs : List AV} (hxs : allSome (args.toList.map (rho S.sl)) = some xs)
  {nt' : Nat} {sl' : List (Nat × AV)} {ps : List Tmp} {asg body : Code} (hob : S.hp[q]? = some (.lp true none nt' sl' ps asg body)) (hlen : ps.length = xs.length) (hps : (ps.all fun p => decide (p < nt')) = true) (hd : dstOk nt o = true)
  (Rr : Option Code → List AObj → Prop)
  (hround : AWP P nt' S.hp.length asg (thenQ (AWP P nt' S.hp.length body (RoundQ q Rr)) (fun _ _ => False)) ⟨putMany sl' ps xs, S.hp.set q .dead⟩)
  (hR : ∀ (jump : Option Code) (H' : List AObj), Rr jump H' → R (({ S with hp := H'.set q (.lp jump.isNone jump nt' sl' ps asg body) } : AS).putD o.dst (.bool jump.isNone))) : AStep P nt k true ops o S R := fun C a w K Q hst hK => by
 unfold OpW
 rw [if_pos (hst.wanted hw)]
 obtain ⟨I, m, hws, hsl, hk, hE⟩ := hst
 obtain ⟨l, hml, hq, hev⟩ := (rho_sound hsl hcf).yld_inv
 obtain ⟨e5, e6⟩ := rho_all (g := true) rfl hsl hxs
 obtain ⟨b, r, hb, hh, q1, q2, q3, q4, q5, q6, q7⟩ := hws.obj q _ hob
 obtain rfl : l = b := by rw [hml] at hb; exact Option.some.inj hb
 obtain ⟨o1, o2, o3⟩ := hws.own q _ l hob rfl hml
 have hsz : args.size = r.params.size := by rw [q3]; simp at e5 ⊢; omega
 unfold wpA
 rw [run_callYield ho hev hh hsz]
 simp only [uponA]
 have hfold : (r.params.zip (args.map a.eval)).foldl (fun tmps (t, a) => tmps.setIfInBounds t a) r.tmps = (ps.zip (args.map a.eval).toList).foldl (fun (tm : Array Value) (p : Tmp × Value) => tm.setIfInBounds p.1 p.2) r.tmps := by
  rw [q3, ← Array.foldl_toList, Array.toList_zip]
 rw [hfold]
 obtain ⟨s1, s2⟩ := putMany_sound (w := w) (I := I) (m := m) (n := S.hp.length) ps xs (args.map a.eval).toList sl' r.tmps hlen (by simpa using e5) hps (fun i v x hv hx => e6 i v x (by simpa using hv) hx) q6 q7
 generalize hTM : (ps.zip (args.map a.eval).toList).foldl (fun (tm : Array Value) (p : Tmp × Value) => tm.setIfInBounds p.1 p.2) r.tmps = TM at *
 refine roundIn_of_wpIn trivial ?_
 obtain ⟨f1, f2⟩ := hws.freeze hob rfl hml
 rw [q4, q5]
 have hI1 : ∀ b, I b → b ≠ l := fun b hb e => o2 (e ▸ hb)
 refine wpIn_mono (hround ⟨C.W0, C.I0, w, fun c => I c ∨ c = l, m, C.hE, some l⟩ { tmps := TM, defers := [] } w ⟨_, m, f1, ⟨s1, trivial, fun t x hx => by
  obtain ⟨v, hv, hr⟩ := s2 t x hx
  exact ⟨v, hv, by simpa using hr.mono f2 (Nat.le_refl _)⟩⟩, by simp, ⟨.refl _ _ _ _, (fun h => (by cases h)), fun l' hl' => by cases hl'; exact ⟨.inr rfl, r, hh⟩⟩⟩) ?_
 rintro e a2 w2 ⟨S2, hQ, I2, m2, g1, g2, g3, g4⟩
 cases e with
 | normal =>
  have hI2l : I2 l := g4.fut.ext.sub l (.inr rfl)
  have hh2 : w2.heap[l]? = some (.loop r) := (g4.fut.ext.imm l (.inr rfl)).trans hh
  have hl2 : l < w2.heap.size := (Array.getElem?_eq_some_iff.1 hh2).1
  refine ⟨w2.putObj l (.loop { r with state := .busy }), run_beginRound hh2 (by rw [q1]; rfl), ?_⟩
  have hsh : Shut w2 (w2.putObj l (.loop { r with state := .busy })) I2 (· = l) := ⟨World.putObj_size, fun b hb => World.putObj_heap_other hb, fun b o hb ho => by subst hb; rw [hh2] at ho; cases ho; rfl, fun b es ck hb hm => by subst hb; rw [hh2] at hm; cases hm⟩
  have hbl : Below C.W0.heap.size w2 (w2.putObj l (.loop { r with state := .busy })) := ⟨rfl, rfl, rfl, by simp, fun b hb => World.putObj_heap_other (by omega)⟩
  have hnI0 : ∀ b, b = l → ¬ C.I0 b := fun b hb h => by subst hb; exact o2 (hws.i0 _ h)
  have g1' := g1.shut hsh hbl hnI0 (fun b hb => by subst hb; exact hI2l)
  have hno : ∀ (id : Nat) (o : AObj), S2.hp[id]? = some o → o.live = true → m2 id ≠ some l := fun id o ho hl hm => (g1.own id o l ho hl hm).2.1 hI2l
  have g1'' := g1'.addI (l := l) (by simpa using hl2) o1 hno
  have hIeq : (fun b => (I2 b ∧ ¬ b = l) ∨ b = l) = I2 := by
   funext b
   apply propext
   by_cases hb : b = l
   ·subst hb; simp [hI2l]
   ·simp [hb]
  rw [hIeq] at g1''
  have hfa : Fut S2.hp.length (w2.putObj l (.loop { r with state := .busy })) (fun b => I2 b ∧ ¬ b = l) m2 (w2.putObj l (.loop { r with state := .busy })) I2 m2 := ⟨⟨fun _ h => h.1, fun _ _ => rfl⟩, fun _ _ => rfl, fun _ _ h => h⟩
  have g2' := g2.shut hsh
  have hhb : (w2.putObj l (.loop { r with state := .busy })).heap[l]? = some (.loop { r with state := .busy }) := World.putObj_heap_same hl2
  refine wpIn_mono (hQ ⟨C.W0, C.I0, w2.putObj l (.loop { r with state := .busy }), I2, m2, C.hE, some l⟩ a2 _ ⟨I2, m2, g1'', ⟨g2'.1, trivial, fun t x hx => by
   obtain ⟨v, hv, hr⟩ := g2'.2.2 t x hx
   exact ⟨v, hv, hr.mono hfa (Nat.le_refl _)⟩⟩, g3, ⟨.refl _ _ _ _, (fun h => (by cases h)), fun l' hl' => by cases hl'; exact ⟨hI2l, _, hhb⟩⟩⟩) ?_
  rintro e4 a4 w4 ⟨S4, hQ4, I4, m4, k1, k2, k3, k4⟩
  have hI4l : I4 l := k4.fut.ext.sub l hI2l
  have hh4 : w4.heap[l]? = some (.loop { r with state := .busy }) := (k4.fut.ext.imm l hI2l).trans hhb
  have hl4 : l < w4.heap.size := (Array.getElem?_eq_some_iff.1 hh4).1
  have key : ∀ jump : Option Code, S4.hp[q]? = some .dead → Rr jump S4.hp → ∃ v w', (Instr.endRound l jump).run P w4 = .ok v w' ∧ K (a.put o.dst v) w' := fun jump hdq hrr => by
   refine ⟨_, _, run_endRound jump hh4, ?_⟩
   generalize hrec : ({ ({ r with state := .busy } : Loop) with state := if jump.isNone = true then LoopState.ready else LoopState.done, pending := jump } : Loop) = r5
   have hsh5 : Shut w4 (w4.putObj l (.loop r5)) I4 (· = l) := ⟨World.putObj_size, fun b hb => World.putObj_heap_other hb, fun b o hb ho => by subst hb; rw [hh4] at ho; cases ho; rfl, fun b es ck hb hm => by subst hb; rw [hh4] at hm; cases hm⟩
   have hbl5 : Below C.W0.heap.size w4 (w4.putObj l (.loop r5)) := ⟨rfl, rfl, rfl, by simp, fun b hb => World.putObj_heap_other (by omega)⟩
   have k1' := k1.shut hsh5 hbl5 hnI0 (fun b hb => by subst hb; exact hI4l)
   have hfut : Fut S.hp.length w I m (w4.putObj l (.loop r5)) (fun b => I4 b ∧ ¬ b = l) m4 := by
    refine ⟨⟨fun b hb => ⟨k4.fut.ext.sub b (g4.fut.ext.sub b (.inl hb)), hI1 b hb⟩, fun b hb => ?_⟩, fun id hid => ?_, fun b s hs => ?_⟩
    ·rw [hsh5.same b (hI1 b hb), k4.fut.ext.imm b (g4.fut.ext.sub b (.inl hb)), hsh.same b (hI1 b hb), g4.fut.ext.imm b (.inl hb)]
    ·exact (k4.fut.ids id hid).trans (g4.fut.ids id hid)
    ·exact (hsh5.fut (m := m) 0).shape _ _ (k4.fut.shape _ _ ((hsh.fut (m := m) 0).shape _ _ (g4.fut.shape _ _ hs)))
   have hm4 : m4 q = some l := (hfut.ids q hq).trans hml
   have k1'' := k1'.revive (o' := .lp jump.isNone jump nt' sl' ps asg body) hdq hm4 (by simpa using hl4) o1 (fun h => h.2 rfl) (fun id o ho hl hm => (k1.own id o l ho hl hm).2.1 hI4l)
    ⟨l, r5, rfl, World.putObj_heap_same hl4, by rw [← hrec], by rw [← hrec], by rw [← hrec]; exact q3, by rw [← hrec]; exact q4, by rw [← hrec]; exact q5, by rw [← hrec]; exact q6, fun t x hx => by
     obtain ⟨v, hv, hr⟩ := q7 t x hx
     exact ⟨v, by rw [← hrec]; exact hv, hr.mono hfut k3⟩⟩
   exact hK _ _ _ (hR jump S4.hp hrr) (St.value hsl hk hE k1'' hfut (by simpa using k3) (dstOk_spec hd) (.pure (.bool _))) (fun h => by cases h)
  cases e4 with
  | normal => exact key none hQ4.1 hQ4.2
  | ret => exact key (some .ret) hQ4.1 hQ4.2
  | exit id => exact key (some (.exit id)) hQ4.1 hQ4.2
  | goto l => exact hQ4.elim
  | panic c => exact hQ4.elim
  | outgrown => exact hQ4.elim
 | exit id => exact hQ.elim
 | goto l => exact hQ.elim
 | ret => exact hQ.elim
 | panic c => exact hQ.elim
 | outgrown => exact hQ.elim
theorem run_rangeCall {P : Program} {a : Act} {w : World} {g : Operand} {l : Nat} {f : FuncId} {us : Array Value} (hg : a.eval g = .func (.func f) #[] us) (hc : Callable P f) :
  ∃ d : Deferred, (resolve a.eval (rangeCall g l) 0).run P w = .ok d w ∧ (invoke d.target d.args).run P w = .ok (.enter f (#[.func (.yield l) #[] #[]] ++ us)) w := by
 obtain ⟨fn, h1, h2, h3⟩ := hc
 have h3' : ¬ fn.name = "runtime.NumGoroutine" := by simpa using h3
 refine ⟨_, by simp only [resolve, hg]; rfl, ?_⟩
 simp [Deferred.ofValue, invoke, callFunc, h1, h3', Act.eval]
 exact fun hb => absurd h2 (by simp [hb])

theorem enter_lays {C : Cx P} {a : Act} {w : World} {I : Nat → Prop} {m : Nat → Option Nat} {fnum : FuncId} {ps : List Tmp} {asg body : Code} (hE : FutC C k a w I m) : ∃ (l : Nat) (mark : List Nat) (w1 : World) (r : Loop), (Instr.enterLoop fnum a.tmps ps.toArray asg body C.ro).run P w = .ok (l, mark.map markOf) w1 ∧ Below w.heap.size w w1 ∧ w.heap.size ≤ l ∧ l < w1.heap.size ∧ w1.heap[l]? = some (.loop r) ∧
   r.state = .ready ∧ r.pending = none ∧ r.params = ps.toArray ∧ r.assign = asg ∧ r.body = body ∧ r.tmps = a.tmps ∧ mark.Nodup ∧ ∀ D ∈ mark, w.heap.size ≤ D ∧ D < w1.heap.size ∧ D ≠ l ∧ w1.heap[D]? = some (.deferred (some [])) := by
 cases hro : C.ro with
 | none =>
  refine ⟨_, [w.heap.size], _, ({ state := .ready, pending := none, fn := fnum, tmps := a.tmps, params := ps.toArray, assign := asg, body := body, defers := w.heap.size } : Loop), run_enterLoop_outer _ _ _ _ _, ⟨rfl, rfl, rfl, by simp; omega, fun b hb => ?_⟩, by omega, by simp, ?_, rfl, rfl, rfl, rfl, rfl, rfl, by simp, fun D hD => ?_⟩
  ·simp only [World.alloc, Array.getElem?_push]
   rw [if_neg (by simp; omega), if_neg (by omega)]
  ·have := World.alloc_heap_new (w.alloc (.deferred (some []))) (.loop { state := .ready, pending := none, fn := fnum, tmps := a.tmps, params := ps.toArray, assign := asg, body := body, defers := w.heap.size })
   rw [World.size_alloc] at this
   exact this
  ·obtain rfl := List.mem_singleton.1 hD
   refine ⟨Nat.le_refl _, by simp; omega, by omega, ?_⟩
   simp only [World.alloc, Array.getElem?_push]
   simp
 | some l0 =>
  obtain ⟨_, r0, h0⟩ := hE.rnd l0 hro
  refine ⟨_, [], _, ({ state := .ready, pending := none, fn := fnum, tmps := a.tmps, params := ps.toArray, assign := asg, body := body, defers := r0.defers } : Loop), run_enterLoop_inner h0 _ _ _ _ _, ⟨rfl, rfl, rfl, by simp, fun b hb => ?_⟩, Nat.le_refl _, by simp, World.alloc_heap_new _ _, rfl, rfl, rfl, rfl, rfl, rfl, by simp, fun D hD => by cases hD⟩
  simp only [World.alloc, Array.getElem?_push]
  rw [if_neg (by omega)]

theorem range_end {C : Cx P} {a : Act} {w w1 w3 : World} {I I' : Nat → Prop} {m m' : Nat → Option Nat} {l : Nat} {mark : List Nat} {H' : List AObj} {rdy : Bool} {pend : Option Code} {nt' : Nat} {sl' : List (Nat × AV)} {ps' : List Tmp} {asg' body' : Code}
  (hws : WS C.W0 C.I0 w I m S.hp) (hsl : SlotsR nt S.sl a w I m S.hp.length) (hk : k ≤ S.hp.length) (hE : FutC C k a w I m) (hb1 : Below w.heap.size w w1) (hl0 : w.heap.size ≤ l) (hnd : mark.Nodup)
  (hmk : ∀ D ∈ mark, w.heap.size ≤ D ∧ D < w1.heap.size ∧ D ≠ l ∧ w1.heap[D]? = some (.deferred (some []))) (g2 : Fut S.hp.length w I m w1 (fun b => I b ∨ b ∈ mark) (upd m S.hp.length (some l)))
  (k1 : WS C.W0 C.I0 w3 I' m' H') (k2 : S.hp.length + 1 ≤ H'.length) (k3 : Fut (S.hp.length + 1) w1 (fun b => I b ∨ b ∈ mark) (upd m S.hp.length (some l)) w3 I' m') (hob : H'[S.hp.length]? = some (.lp rdy pend nt' sl' ps' asg' body')) :
  ∃ r3 : Loop, w3.heap[l]? = some (.loop r3) ∧ r3.state ≠ .busy ∧ r3.pending = pend ∧ St C nt k ⟨S.sl, H'.set S.hp.length .dead⟩ { a with defers := mark.map markOf ++ a.defers } (w3.putObj l (.loop { r3 with state := .exhausted })) := by
 obtain ⟨b, r3, hb3, hh3, p1, p2, p3, p4, p5, p6, p7⟩ := k1.obj _ _ hob
 have hm3 : m' S.hp.length = some l := (k3.ids _ (by omega)).trans (upd_same _ _ _)
 have hbl : b = l := by rw [hm3] at hb3; exact (Option.some.inj hb3).symm
 rw [hbl] at hh3
 refine ⟨r3, hh3, by rw [p1]; cases rdy <;> simp, p2, ?_⟩
 generalize hO : Obj.loop { r3 with state := .exhausted } = O
 obtain ⟨n1, n2⟩ := k1.set (w' := w3.putObj l O) (o' := .dead) hob rfl hm3 (grownBy_putObj' _ _ _) (fun s hs => by
  unfold World.shape? at hs; rw [hh3] at hs; cases hs) (fun _ _ => trivial)
 have hF : Fut S.hp.length w I m (w3.putObj l O) I' m' := (g2.trans (Nat.le_succ _) k3).trans (Nat.le_of_succ_le k2) n2
 refine ⟨I', m', n1, ⟨hsl.1, trivial, fun t x hx => ?_⟩, by simp; omega, ⟨hE.fut.trans hk hF, fun hro => ?_, fun l' hl' => ?_⟩⟩
 ·obtain ⟨v, hv, hr⟩ := hsl.2.2 t x hx
  exact ⟨v, hv, hr.mono hF (by simp; omega)⟩
 ·obtain ⟨ds, d1, d2, d3⟩ := hE.defs hro
  refine ⟨mark ++ ds, by simp [d1], List.nodup_append.2 ⟨hnd, d2, fun x hx y hy e => ?_⟩, fun D hD => ?_⟩
  ·subst e
   have h1 := (hws.iw x (d3 x hy).1).1
   have h2 := (hmk x hx).1
   omega
  ·rcases List.mem_append.1 hD with hD | hD
   ·have hI1 : (fun b => I b ∨ b ∈ mark) D := .inr hD
    refine ⟨k3.ext.sub D hI1, ⟨fun hc => ?_, Nat.le_trans hws.below.size (hmk D hD).1⟩, ?_⟩
    ·have h1 := (hws.iw D (hE.fut.ext.sub D hc)).1
     have h2 := (hmk D hD).1
     omega
    ·rw [World.putObj_heap_other (hmk D hD).2.2.1, k3.ext.imm D hI1]; exact (hmk D hD).2.2.2
   ·have := d3 D hD
    exact ⟨hF.ext.sub D this.1, this.2.1, by rw [hF.ext.imm D this.1]; exact this.2.2⟩
 ·obtain ⟨h1, r', h2⟩ := hE.rnd l' hl'
  exact ⟨hF.ext.sub l' h1, r', by rw [hF.ext.imm l' h1]; exact h2⟩

set_option maxHeartbeats 2000000 in
theorem AWP_rangeFunc {Q : Exit → AS → Prop} {g : Operand} {ps : List Tmp} {asg body : Code} {f : FuncId} {cs : List AV} (hg : rho S.sl g = some (.fn (.func f) [] cs)) {Rf : AV → List AObj → Prop}
  (hc : FC P f (.yld S.hp.length :: cs) (S.hp ++ [.lp true none nt S.sl ps asg body]) Rf)
  (hR : ∀ (r : AV) (H' : List AObj), Rf r H' → ∃ (rdy : Bool) (pend : Option Code) (nt' : Nat) (sl' : List (Nat × AV)) (ps' : List Tmp) (asg' body' : Code), H'[S.hp.length]? = some (.lp rdy pend nt' sl' ps' asg' body') ∧
   (match pend with
   | none => Q .normal ⟨S.sl, H'.set S.hp.length .dead⟩
   | some c => AWP P nt k c Q ⟨S.sl, H'.set S.hp.length .dead⟩)) : AWP P nt k (.rangeFunc g ps.toArray asg body) Q S := fun C a w hst => by
 obtain ⟨I, m, hws, hsl, hk, hE⟩ := hst
 obtain ⟨vs, us, hev, e1, e2, e3, e4⟩ := (rho_sound hsl hg).fn_inv
 have hvs : vs = #[] := Array.eq_empty_of_size_eq_zero (by simpa using e1)
 subst hvs
 refine wpIn_rangeFunc (F := FW C.ro) fun fnum _ => ?_
 -- what entering the loop lays
 have hent := enter_lays (C := C) (fnum := fnum) (ps := ps) (asg := asg) (body := body) hE
 obtain ⟨l, mark, w1, r, hrun, hb1, hl0, hl1, hh1, q1, q2, q3, q4, q5, q6, hnd, hmk⟩ := hent
 have g0 := hws.push' (I' := fun b => I b ∨ b ∈ mark) hb1 (fun _ h => .inl h) (fun b hb => by
  rcases hb with hb | hb
  ·exact ⟨Nat.lt_of_lt_of_le (hws.iw b hb).1 hb1.size, .inl hb⟩
  ·exact ⟨(hmk b hb).2.1, .inr (hmk b hb).1⟩) (some l) (fun b hb => by
   cases hb
   exact ⟨hl0, hl1, fun hc => by
    rcases hc with hc | hc
    ·have := (hws.iw l hc).1; omega
    ·exact (hmk l hc).2.2.1 rfl⟩) (.lp true none nt S.sl ps asg body) (fun m' hf' hm' => ⟨l, r, rfl, hh1, by rw [q1]; rfl, q2, q3, q4, q5, by rw [q6]; exact hsl.1, fun t x hx => by
    obtain ⟨v, hv, hr⟩ := hsl.2.2 t x hx
    exact ⟨v, by rw [q6]; exact hv, hr.mono hf' (Nat.le_succ _)⟩⟩)
 obtain ⟨g1, g2⟩ := g0
 obtain ⟨d, hd1, hd2⟩ := run_rangeCall (w := w1) (l := l) hev hc.1
 refine ⟨l, mark.map markOf, w1, d, w1, f, _, w1, hrun, hd1, fun _ _ => trivial, hd2, (fun h => (by cases h)), callsIn_FW ?_⟩
 have hlen : (S.hp ++ [AObj.lp true none nt S.sl ps asg body]).length = S.hp.length + 1 := by simp
 refine (hc.2 C.W0 C.I0 w1 _ _ (#[.func (.yield l) #[] #[]] ++ us) C.hE g1 (by simp at e3 ⊢; omega) (fun i v x hv hx => ?_)).mono ?_
 ·rcases i with _ | i
  ·rw [Array.getElem?_append_left (by simp)] at hv
   simp at hv hx
   subst hv; subst hx
   exact .yld _ _ (by simp) (upd_same _ _ _)
  ·rw [Array.getElem?_append_right (by simp)] at hv
   simp at hv hx
   exact (e4 i v x hv hx).mono g2 (by simp)
 rintro e w3 ⟨v, rv, H', I', m', hRf, rfl, k1, k2, k3, k4⟩
 rw [hlen] at k2 k3
 obtain ⟨rdy, pend, nt', sl', ps', asg', body', hob, hcont⟩ := hR rv H' hRf
 obtain ⟨r3, hh3, hst3, hp3, hstq⟩ := range_end hws hsl hk hE hb1 hl0 hnd hmk g2 k1 k2 k3 hob
 refine ⟨pend, _, (run_endLoop hh3 hst3).trans (congrArg (fun x => Result.ok x _) hp3), ?_⟩
 cases pend with
 | none => exact ⟨_, hcont, hstq⟩
 | some c => exact hcont C _ _ hstq
end
end Go.Abs
set_option maxRecDepth 100000
namespace Go.Abs
open Go Go.Sort

theorem PVR.of_val {w : World} {I : Nat → Prop} {u : Value} {x : AV} (hx : x.val = some u) : PVR w I u x := by
 cases x <;> simp [AV.val] at hx <;> subst hx
 ·exact .bool _
 ·exact .int _ _
 ·exact .str _

structure RowOf (k : Nat) (xs : List AV) (F : Array Value) : Prop where
 size : F.size = xs.length * k
 width : ∀ x ∈ xs, x.cells.length = k
 cell : ∀ (i : Nat) (x : AV), xs[i]? = some x → ∀ (j : Nat) (y : AV), x.cells[j]? = some y → y.val = some F[i * k + j]!

section
variable {W0 : World} {I0 : Nat → Prop} {w : World} {I : Nat → Prop} {m : Nat → Option Nat} {H : List AObj} {p b : Nat} {e : TypeId} {k : Nat} {xs : List AV} {F : Array Value}

theorem own_row (hws : WS W0 I0 w I m H) (ho : H[p]? = some (.arr e k xs)) (hm : m p = some b) (hF : RowOf k xs F) : Holds id w b 0 F ∧ b < w.heap.size := by
 obtain ⟨_, _, hb⟩ := hws.own p _ b ho rfl hm
 refine ⟨fun j hj => ?_, hb⟩
 rcases hws.obj p _ ho with ⟨e1, _⟩ | ⟨b', cap, vs, hb', hh, q1, q2, q3, q4, hr⟩
 ·rw [hm] at e1; cases e1
 obtain rfl : b = b' := by rw [hm] at hb'; exact Option.some.inj hb'
 have hk : 0 < k := by
  rcases Nat.eq_zero_or_pos k with h | h
  ·rw [hF.size, h] at hj; simp at hj
  ·exact h
 have hjs : j < xs.length * k := by rw [← hF.size]; exact hj
 have hi : j / k < xs.length := Nat.div_lt_of_lt_mul (by rwa [Nat.mul_comm] at hjs)
 have hc := hF.width _ (List.getElem_mem hi)
 have hmod : j % k < (xs[j / k]).cells.length := by rw [hc]; exact Nat.mod_lt _ hk
 have hdm : j / k * k + j % k = j := by rw [Nat.mul_comm]; exact Nat.div_add_mod _ _
 obtain ⟨v, hv, hp⟩ := hr (j / k) _ (List.getElem?_eq_getElem hi) (j % k) _ (List.getElem?_eq_getElem hmod)
 have := hp.val (hF.cell _ _ (List.getElem?_eq_getElem hi) _ _ (List.getElem?_eq_getElem hmod))
 rw [hdm] at hv this
 subst this
 simp [World.cell?, World.frozen?, hh, hv]

theorem own_put (hws : WS W0 I0 w I m H) (ho : H[p]? = some (.arr e k xs)) (hm : m p = some b) (hF : RowOf k xs F) {xs' : List AV} {F' : Array Value} (hl : xs'.length = xs.length) (hF' : RowOf k xs' F') (n : Nat) (os : Array Obj) :
  WS W0 I0 (grow (putRow id (Sort.ahead w n) b 0 F') os) I m (H.set p (.arr e k xs')) ∧ Fut H.length w I m (grow (putRow id (Sort.ahead w n) b 0 F') os) I m := by
 obtain ⟨_, _, hb⟩ := hws.own p _ b ho rfl hm
 rcases hws.obj p _ ho with ⟨e1, _⟩ | ⟨b', cap, vs, hb', hh, q1, q2, q3, q4, hr⟩
 ·rw [hm] at e1; cases e1
 obtain rfl : b = b' := by rw [hm] at hb'; exact Option.some.inj hb'
 have hheap : ∀ c, c < w.heap.size → (grow (putRow id (Sort.ahead w n) b 0 F') os).heap[c]? = if b = c then (w.heap[c]?).map (onCells (putCells id 0 F')) else w.heap[c]? := by
  intro c hc
  simp only [grow, putRow, mapBlock, Sort.ahead]
  rw [Array.getElem?_append_left (by simpa using hc), Array.getElem?_modify]
 have hhb : (grow (putRow id (Sort.ahead w n) b 0 F') os).heap[b]? = some (.cells (putCells id 0 F' vs) e (0, 0)) := by
  rw [hheap b hb, if_pos rfl, hh]; rfl
 have hg : w.grownBy (grow (putRow id (Sort.ahead w n) b 0 F') os) (some b) := ⟨rfl, rfl, rfl, by simp [grow, putRow, mapBlock, Sort.ahead], fun c hc hne => by
  rw [hheap c hc, if_neg (fun h => hne (by rw [h]))]⟩
 refine hws.set (o' := .arr e k xs') ho rfl hm hg (fun s hs => ?_) (fun m' hf => .inr ⟨b, cap, putCells id 0 F' vs, rfl, hhb, by omega, q2, by simp [putCells, q3], hF'.width, fun i x hx j y hy => ?_⟩)
 ·simp only [World.shape?, hh] at hs
  simp only [World.shape?, hhb]
  simpa [putCells] using hs
 ·have hi : i < xs'.length := (List.getElem?_eq_some_iff.1 hx).1
  have hj : j < k := by
   have := hF'.width x (List.mem_of_getElem? hx)
   rw [← this]; exact (List.getElem?_eq_some_iff.1 hy).1
  have hij : i * k + j < xs'.length * k := by
   have := Nat.mul_le_mul_right k (show i + 1 ≤ xs'.length from hi)
   rw [Nat.add_mul, Nat.one_mul] at this
   omega
  have hij' : i * k + j < vs.size := by
   rw [q3]
   have := Nat.mul_le_mul_right k (show xs'.length ≤ cap by omega)
   omega
  refine ⟨F'[i * k + j]!, ?_, PVR.of_val (hF'.cell i x hx j y hy)⟩
  have := hF'.size
  simp only [putCells, Array.getElem?_mapIdx, Array.getElem?_eq_getElem hij', Option.map_some]
  rw [if_pos (by omega)]
  rfl

theorem cons_arr (v : Value) (us : List Value) : #[v] ++ us.toArray = ⟨v :: us⟩ := by simp

theorem FC_row {P : Program} [Env P] {f : FuncId} {rest : List AV} (hc : Callable P f) {len : Nat} (hxs : xs.length = len) (ho : H[p]? = some (.arr e k xs)) (hF : RowOf k xs F)
  (us : List Value) (hu : ∀ (w : World) (I : Nat → Prop) (m : Nat → Option Nat) (vs : List Value), vs.length = rest.length → (∀ (i : Nat) (v : Value) (x : AV), vs[i]? = some v → rest[i]? = some x → VR w I m H.length v x) → vs = us)
  (Rx : List AV → Prop)
  (h : ∀ (b cap : Nat) (w : World), Holds id w b 0 F → b < w.heap.size → len ≤ cap → Calls P f (#[.slice (some ⟨b, 0, none⟩) len cap] ++ us.toArray) w fun en w' => en = .returned (.tuple #[]) ∧ ∃ (xs' : List AV) (F' : Array Value) (n : Nat) (os : Array Obj), Rx xs' ∧ xs'.length = xs.length ∧ RowOf k xs' F' ∧ w' = grow (putRow id (Sort.ahead w n) b 0 F') os)
  (h0 : xs = [] → Rx [] ∧ ∀ (w : World), Calls P f (#[.slice none 0 0] ++ us.toArray) w fun en w' => en = .returned (.tuple #[]) ∧ w' = w) :
  FC P f (.sl p k 0 len :: rest) H (fun r H' => r = .tup [] ∧ ∃ xs', Rx xs' ∧ H' = H.set p (.arr e k xs')) := by
 refine ⟨hc, fun W0 I0 w I m vals hE hws hsz hv => ?_⟩
 rcases vals with ⟨vals⟩
 cases vals with
 | nil => simp at hsz
 | cons v vs =>
  have hvs : vs = us := hu w I m vs (by simpa using hsz) fun i v x a b => hv (i + 1) v x (by simpa using a) (by simpa using b)
  subst hvs
  have hv0 := hv 0 v _ rfl rfl
  have tupR : ∀ (w : World) (I : Nat → Prop) (m : Nat → Option Nat) (n : Nat), VR w I m n (.tuple #[]) (.tup []) := fun w I m n => .tup _ _ rfl (fun i v x a => by simp at a)
  rcases hv0.sl_inv with ⟨b, cap, t, hb, hn, hsh, hle, hmax, hse⟩ | ⟨hb, hn, _, hl0, hse⟩ | ⟨_, _, hlo, _, _⟩
  ·subst hse
   obtain ⟨g1, g2⟩ := own_row hws ho hb hF
   have := h b cap w g1 g2 hle
   simp only [Nat.zero_mul]
   refine Calls.mono (by rw [cons_arr] at this; exact this) ?_
   rintro en w' ⟨rfl, xs', F', n, os, hx, hl, hF', rfl⟩
   obtain ⟨k1, k2⟩ := own_put hws ho hb hF hl hF' n os
   exact ⟨_, _, _, I, m, ⟨rfl, xs', hx, rfl⟩, rfl, k1, by simp, k2, tupR _ _ _ _⟩
  ·subst hse
   have hx0 : xs = [] := by cases xs with | nil => rfl | cons => simp at hxs; omega
   obtain ⟨r0, r1⟩ := h0 hx0
   subst hl0
   refine Calls.mono (by have := r1 w; rw [cons_arr] at this; exact this) ?_
   rintro en w' ⟨rfl, rfl⟩
   refine ⟨_, _, H, I, m, ⟨rfl, [], r0, ?_⟩, rfl, hws, Nat.le_refl _, .refl _ _ _ _, tupR _ _ _ _⟩
   rw [← hx0]
   exact (List.ext_getElem? fun i => by
    by_cases hi : i = p
    ·subst hi; rw [ho, List.getElem?_set_self (List.getElem?_eq_some_iff.1 ho).1]
    ·rw [List.getElem?_set_ne (fun h => hi h.symm)])
  ·omega
end
end Go.Abs
set_option maxRecDepth 100000
namespace Go.Abs
open Go Go.RowKit
section
variable {P : Program} [Env P] {nt k : Nat} {Q : Exit → AS → Prop}
theorem AWP_nilSlot {c : Code} {sl : List (Nat × AV)} {H : List AObj} (t e sz : Nat) (ht : look sl t = some .nils)
  (h : AWP P nt k c Q ⟨put sl t (.sl H.length sz 0 0), H ++ [.arr e sz []]⟩) : AWP P nt k c Q ⟨sl, H⟩ := fun C a w hs => by
 obtain ⟨I, m, hw, hsl, hk, hf⟩ := hs
 obtain ⟨g1, g2⟩ := hw.push (Below.refl _ _) none (fun b e => by cases e) (.arr e sz []) (fun m' _ _ => .inl ⟨rfl, rfl⟩)
 refine h C a w ⟨I, upd m H.length none, g1, ⟨hsl.1, hsl.2.1, fun s x hx => ?_⟩, by simp at hk ⊢; omega, hf.trans hk g2⟩
 simp only [look_put] at hx
 by_cases hst : s = t
 ·rw [if_pos hst] at hx
  cases hx
  obtain ⟨v, hv, hr⟩ := hsl.2.2 t _ ht
  rw [hst]
  have := hr.nils_inv
  subst this
  exact ⟨_, hv, .slnone H.length sz (by simp) (upd_same ..)⟩
 ·rw [if_neg hst] at hx
  obtain ⟨v, hv, hr⟩ := hsl.2.2 s x hx
  refine ⟨v, hv, ?_⟩
  have := hr.mono (n' := (H ++ [AObj.arr e sz []]).length) g2 (by simp)
  simpa using this
theorem AWP_nilList {c : Code} {sl : List (Nat × AV)} {H : List AObj} (t : Nat) (ht : look sl t = some .nils)
  (h : AWP P nt k c Q ⟨put sl t (.list []), H⟩) : AWP P nt k c Q ⟨sl, H⟩ := fun C a w hs => by
 obtain ⟨I, m, hw, hsl, hk, hf⟩ := hs
 refine h C a w ⟨I, m, hw, ⟨hsl.1, hsl.2.1, fun s x hx => ?_⟩, hk, hf⟩
 simp only [look_put] at hx
 by_cases hst : s = t
 ·rw [if_pos hst] at hx
  cases hx
  obtain ⟨v, hv, hr⟩ := hsl.2.2 t _ ht
  rw [hst]
  have := hr.nils_inv
  subst this
  exact ⟨_, hv, .pure (.list none 0 0 0 [] (fun _ _ => .bool false) rfl (Nat.le_refl _) (by simp [maxLen]) (fun x hx => by simp at hx) (fun h => by simp at h) (fun i x hx => by simp at hx))⟩
 ·rw [if_neg hst] at hx
  exact hsl.2.2 s x hx
theorem ALoop_freeze {cd : Code} {sl : List (Nat × AV)} {H : List AObj} (i : Nat) {e c : Nat} {xs : List AV} (hi : H[i]? = some (.arr e c xs)) (h : ALoop P nt k cd Q ⟨sl.map fun p => (p.1, p.2.fz i c xs), (H.set i .dead).map (AObj.fz i c xs)⟩) : ALoop P nt k cd Q ⟨sl, H⟩ :=
 fun C a w hs => h C a w (hs.freeze i hi)
end
end Go.Abs
