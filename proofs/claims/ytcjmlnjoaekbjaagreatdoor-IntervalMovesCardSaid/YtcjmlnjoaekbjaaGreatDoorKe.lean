/- Part Ke of the proof: an abstract machine over the model, and what the functions of the program hand back in its terms. No condition. -/
import Derived.Test.YtcjmlnjoaekbjaaGreatDoorKb
import Derived.RangeFuncOwn
import Derived.RangeFuncNested
import Derived.Shelf.GgSortFunc.RowK
import Derived.Shelf.SlSortCmp.WholeK
import Derived.Shelf.SlSortCmp.NoneTotal
import Derived.Lib.MakeNoZero
set_option linter.all false
namespace Go.Abs
open Go Go.RowKit
/-! A range over a function: the loop's record is an object of the caller's own ('.lp'); the function that is handed to the iterator is '.yld'. -/

section
variable {W0 w : World} {I0 I : Nat → Prop} {m : Nat → Option Nat} {H : List AObj}
theorem WS.addI (h : WS W0 I0 w I m H) {l : Nat} (h1 : l < w.heap.size) (h2 : W0.heap.size ≤ l) (h3 : ∀ (id : Nat) (o : AObj), H[id]? = some o → o.live = true → m id ≠ some l) : WS W0 I0 w (fun b => I b ∨ b = l) m H := by
  have hf : Fut H.length w I m w (fun b => I b ∨ b = l) m := ⟨⟨fun _ h => .inl h, fun _ _ => rfl⟩, fun _ _ => rfl, fun _ _ h => h⟩
  refine ⟨h.below, fun b hb => .inl (h.i0 b hb), fun b hb => ?_, fun id o ho => (h.obj id o ho).mono hf (Nat.le_refl _) (fun _ _ _ => rfl), fun id o b ho hl hm => ?_, h.inj⟩
  · rcases hb with hb | rfl
    · exact h.iw b hb
    · exact ⟨h1, .inr h2⟩
  · have := h.own id o b ho hl hm
    refine ⟨this.1, fun hc => ?_, this.2.2⟩
    rcases hc with hc | rfl
    · exact this.2.1 hc
    · exact h3 id o ho hl hm
theorem WS.revive (h : WS W0 I0 w I m H) {q l : Nat} {o' : AObj} (ho : H[q]? = some .dead) (hm : m q = some l) (h1 : l < w.heap.size) (h2 : W0.heap.size ≤ l) (hI : ¬ I l) (h3 : ∀ (id : Nat) (o : AObj), H[id]? = some o → o.live = true → m id ≠ some l)
    (hO : ObjR w I m H.length (some l) o') : WS W0 I0 w I m (H.set q o') := by
  have hq : q < H.length := (List.getElem?_eq_some_iff.1 ho).1
  have hcase : ∀ (k : Nat) (p : AObj), (H.set q o')[k]? = some p → (k ≠ q ∧ H[k]? = some p) ∨ (k = q ∧ p = o') := fun k p hp => by
    by_cases hk : k = q
    · subst hk
      rw [List.getElem?_set_self hq] at hp
      exact .inr ⟨rfl, (Option.some.inj hp).symm⟩
    · rw [List.getElem?_set_ne (by omega)] at hp; exact .inl ⟨hk, hp⟩
  refine ⟨h.below, h.i0, h.iw, fun k p hp => ?_, fun k p c hp lp mc => ?_, fun i j oi oj c hi hj li lj mi mj => ?_⟩
  · rw [List.length_set]
    rcases hcase k p hp with ⟨_, h5⟩ | ⟨rfl, rfl⟩
    · exact h.obj k p h5
    · rw [hm]; exact hO
  · rcases hcase k p hp with ⟨_, h5⟩ | ⟨rfl, rfl⟩
    · exact h.own k p c h5 lp mc
    · rw [hm] at mc; cases mc; exact ⟨h2, hI, h1⟩
  · rcases hcase i oi hi with ⟨a1, a2⟩ | ⟨rfl, rfl⟩
    · rcases hcase j oj hj with ⟨b1, b2⟩ | ⟨rfl, rfl⟩
      · exact h.inj i j oi oj c a2 b2 li lj mi mj
      · rw [hm] at mj; cases mj; exact absurd mi (h3 i oi a2 li)
    · rcases hcase j oj hj with ⟨b1, b2⟩ | ⟨rfl, rfl⟩
      · rw [hm] at mi; cases mi; exact absurd mj (h3 j oj b2 lj)
      · rfl
end

/-- The parameters of a round. -/
def putMany : List (Nat × AV) → List Tmp → List AV → List (Nat × AV)
  | sl, p :: ps, x :: xs => putMany (put sl p x) ps xs
  | sl, _, _ => sl
theorem putMany_sound {w : World} {I : Nat → Prop} {m : Nat → Option Nat} {n nt : Nat} : ∀ (ps : List Tmp) (xs : List AV) (vs : List Value) (sl : List (Nat × AV)) (tm : Array Value), ps.length = xs.length → vs.length = xs.length → (ps.all fun p => decide (p < nt)) = true →
    (∀ (i : Nat) (v : Value) (x : AV), vs[i]? = some v → xs[i]? = some x → VR w I m n v x) → tm.size = nt → (∀ (t : Nat) (x : AV), look sl t = some x → ∃ v, tm[t]? = some v ∧ VR w I m n v x) →
    ((ps.zip vs).foldl (fun (tm : Array Value) (p : Tmp × Value) => tm.setIfInBounds p.1 p.2) tm).size = nt ∧ ∀ (t : Nat) (x : AV), look (putMany sl ps xs) t = some x → ∃ v, ((ps.zip vs).foldl (fun (tm : Array Value) (p : Tmp × Value) => tm.setIfInBounds p.1 p.2) tm)[t]? = some v ∧ VR w I m n v x
  | [], _, _, sl, tm, _, _, _, _, h1, h2 => ⟨h1, h2⟩
  | p :: ps, [], _, _, _, hl, _, _, _, _, _ => by cases hl
  | p :: ps, x :: xs, [], _, _, _, hl, _, _, _, _ => by cases hl
  | p :: ps, x :: xs, v :: vs, sl, tm, hl1, hl2, hp, hv, h1, h2 => by
    simp only [List.all_cons, Bool.and_eq_true, decide_eq_true_eq] at hp
    simp only [List.zip_cons_cons, List.foldl_cons, putMany]
    refine putMany_sound ps xs vs (put sl p x) _ (by simpa using hl1) (by simpa using hl2) hp.2 (fun i v x a b => hv (i + 1) v x a b) (by simpa using h1) (fun t y hy => ?_)
    rw [look_put] at hy
    by_cases ht : t = p
    · subst ht
      rw [if_pos rfl] at hy
      cases hy
      exact ⟨v, by simp [h1, hp.1], hv 0 v _ rfl rfl⟩
    · rw [if_neg ht] at hy
      obtain ⟨u, hu, hr⟩ := h2 t y hy
      exact ⟨u, by rw [Array.getElem?_setIfInBounds_ne (Ne.symm ht)]; exact hu, hr⟩

section
variable {P : Program} [Env P] {T : TT} {nt k : Nat} {S : AS} {ops : Array Oper} {o : Oper} {R : AS → Prop}

/-- How a round ends: on; by a jump that is put off. -/
def RoundQ (q : Nat) (Rr : Option Code → List AObj → Prop) : Exit → AS → Prop
  | .normal, S => S.hp[q]? = some .dead ∧ Rr none S.hp
  | .ret, S => S.hp[q]? = some .dead ∧ Rr (some .ret) S.hp
  | .exit id, S => S.hp[q]? = some .dead ∧ Rr (some (.exit id)) S.hp
  | _, _ => False

theorem run_callYield {a : Act} {w : World} {cf : Operand} {args : Array Operand} {ts : Array TypeId} (ho : o.op = .call ⟨.value cf, args, ts⟩) {l : Nat} (hf : a.eval cf = .func (.yield l) #[] #[]) {r : Loop} (hr : w.heap[l]? = some (.loop r)) (hs : args.size = r.params.size) :
    (execOp a.eval o).run P w = .ok (.round l r.fn ((r.params.zip (args.map a.eval)).foldl (fun tmps (t, a) => tmps.setIfInBounds t a) r.tmps) r.assign r.body) w := by
  have := run_yield (P := P) (args := args.map a.eval) hr (by simpa using hs)
  simp only [execOp, ho, resolve, hf, Deferred.ofValue, invoke]
  simp [this]

/-- yield, called: a round of the loop. -/
theorem AStep_yield {cf : Operand} {args : Array Operand} {ts : Array TypeId} (hw : wantedA ops S o = some true) (ho : o.op = .call ⟨.value cf, args, ts⟩) {q : Nat} (hcf : rho S.sl cf = some (.yld q)) {xs : List AV} (hxs : allSome (args.toList.map (rho S.sl)) = some xs)
    {nt' : Nat} {sl' : List (Nat × AV)} {ps : List Tmp} {asg body : Code} (hob : S.hp[q]? = some (.lp true none nt' sl' ps asg body)) (hlen : ps.length = xs.length) (hps : (ps.all fun p => decide (p < nt')) = true) (hd : dstOk nt o = true)
    (Rr : Option Code → List AObj → Prop)
    (hround : AWP P nt' S.hp.length asg (thenQ (AWP P nt' S.hp.length body (RoundQ q Rr)) (fun _ _ => False)) ⟨putMany sl' ps xs, S.hp.set q .dead⟩)
    (hR : ∀ (jump : Option Code) (H' : List AObj), Rr jump H' → R (({ S with hp := H'.set q (.lp jump.isNone jump nt' sl' ps asg body) } : AS).putD o.dst (.bool jump.isNone))) : AStep P nt k true ops o S R := fun C a w K Q hst hK => by
  unfold OpW
  rw [if_pos (hst.wanted hw)]
  obtain ⟨I, m, hws, hsl, hk, hE⟩ := hst
  obtain ⟨l, hml, hq, hev⟩ := (rho_sound hsl hcf).yld_inv
  obtain ⟨e5, e6⟩ := rho_all (g := true) rfl hsl hxs
  obtain ⟨b, r, hb, hh, q1, q2, q3, q4, q5, q6, q7⟩ := hws.obj q _ hob
  obtain rfl : l = b := by rw [hml] at hb; exact Option.some.inj hb
  obtain ⟨o1, o2, o3⟩ := hws.own q _ l hob rfl hml
  have hsz : args.size = r.params.size := by rw [q3]; simp at e5 ⊢; omega
  unfold wpA
  rw [run_callYield ho hev hh hsz]
  simp only [uponA]
  have hfold : (r.params.zip (args.map a.eval)).foldl (fun tmps (t, a) => tmps.setIfInBounds t a) r.tmps = (ps.zip (args.map a.eval).toList).foldl (fun (tm : Array Value) (p : Tmp × Value) => tm.setIfInBounds p.1 p.2) r.tmps := by
    rw [q3, ← Array.foldl_toList, Array.toList_zip]
  rw [hfold]
  obtain ⟨s1, s2⟩ := putMany_sound (w := w) (I := I) (m := m) (n := S.hp.length) ps xs (args.map a.eval).toList sl' r.tmps hlen (by simpa using e5) hps (fun i v x hv hx => e6 i v x (by simpa using hv) hx) q6 q7
  generalize hTM : (ps.zip (args.map a.eval).toList).foldl (fun (tm : Array Value) (p : Tmp × Value) => tm.setIfInBounds p.1 p.2) r.tmps = TM at *
  refine roundIn_of_wpIn trivial ?_
  obtain ⟨f1, f2⟩ := hws.freeze hob rfl hml
  rw [q4, q5]
  have hI1 : ∀ b, I b → b ≠ l := fun b hb e => o2 (e ▸ hb)
  refine wpIn_mono (hround ⟨C.W0, C.I0, w, fun c => I c ∨ c = l, m, C.hE, some l⟩ { tmps := TM, defers := [] } w ⟨_, m, f1, ⟨s1, trivial, fun t x hx => by
    obtain ⟨v, hv, hr⟩ := s2 t x hx
    exact ⟨v, hv, by simpa using hr.mono f2 (Nat.le_refl _)⟩⟩, by simp, ⟨.refl _ _ _ _, (fun h => (by cases h)), fun l' hl' => by cases hl'; exact ⟨.inr rfl, r, hh⟩⟩⟩) ?_
  rintro e a2 w2 ⟨S2, hQ, I2, m2, g1, g2, g3, g4⟩
  cases e with
  | normal =>
    have hI2l : I2 l := g4.fut.ext.sub l (.inr rfl)
    have hh2 : w2.heap[l]? = some (.loop r) := (g4.fut.ext.imm l (.inr rfl)).trans hh
    have hl2 : l < w2.heap.size := (Array.getElem?_eq_some_iff.1 hh2).1
    refine ⟨w2.putObj l (.loop { r with state := .busy }), run_beginRound hh2 (by rw [q1]; rfl), ?_⟩
    have hsh : Shut w2 (w2.putObj l (.loop { r with state := .busy })) I2 (· = l) := ⟨World.putObj_size, fun b hb => World.putObj_heap_other hb, fun b o hb ho => by subst hb; rw [hh2] at ho; cases ho; rfl⟩
    have hbl : Below C.W0.heap.size w2 (w2.putObj l (.loop { r with state := .busy })) := ⟨rfl, rfl, rfl, by simp, fun b hb => World.putObj_heap_other (by omega)⟩
    have hnI0 : ∀ b, b = l → ¬ C.I0 b := fun b hb h => by subst hb; exact o2 (hws.i0 _ h)
    have g1' := g1.shut hsh hbl hnI0 (fun b hb => by subst hb; exact hI2l)
    have hno : ∀ (id : Nat) (o : AObj), S2.hp[id]? = some o → o.live = true → m2 id ≠ some l := fun id o ho hl hm => (g1.own id o l ho hl hm).2.1 hI2l
    have g1'' := g1'.addI (l := l) (by simpa using hl2) o1 hno
    have hIeq : (fun b => (I2 b ∧ ¬ b = l) ∨ b = l) = I2 := by
      funext b
      apply propext
      by_cases hb : b = l
      · subst hb; simp [hI2l]
      · simp [hb]
    rw [hIeq] at g1''
    have hfa : Fut S2.hp.length (w2.putObj l (.loop { r with state := .busy })) (fun b => I2 b ∧ ¬ b = l) m2 (w2.putObj l (.loop { r with state := .busy })) I2 m2 := ⟨⟨fun _ h => h.1, fun _ _ => rfl⟩, fun _ _ => rfl, fun _ _ h => h⟩
    have g2' := g2.shut hsh
    have hhb : (w2.putObj l (.loop { r with state := .busy })).heap[l]? = some (.loop { r with state := .busy }) := World.putObj_heap_same hl2
    refine wpIn_mono (hQ ⟨C.W0, C.I0, w2.putObj l (.loop { r with state := .busy }), I2, m2, C.hE, some l⟩ a2 _ ⟨I2, m2, g1'', ⟨g2'.1, trivial, fun t x hx => by
      obtain ⟨v, hv, hr⟩ := g2'.2.2 t x hx
      exact ⟨v, hv, hr.mono hfa (Nat.le_refl _)⟩⟩, g3, ⟨.refl _ _ _ _, (fun h => (by cases h)), fun l' hl' => by cases hl'; exact ⟨hI2l, _, hhb⟩⟩⟩) ?_
    rintro e4 a4 w4 ⟨S4, hQ4, I4, m4, k1, k2, k3, k4⟩
    have hI4l : I4 l := k4.fut.ext.sub l hI2l
    have hh4 : w4.heap[l]? = some (.loop { r with state := .busy }) := (k4.fut.ext.imm l hI2l).trans hhb
    have hl4 : l < w4.heap.size := (Array.getElem?_eq_some_iff.1 hh4).1
    have key : ∀ jump : Option Code, S4.hp[q]? = some .dead → Rr jump S4.hp → ∃ v w', (Instr.endRound l jump).run P w4 = .ok v w' ∧ K (a.put o.dst v) w' := fun jump hdq hrr => by
      refine ⟨_, _, run_endRound jump hh4, ?_⟩
      generalize hrec : ({ ({ r with state := .busy } : Loop) with state := if jump.isNone = true then LoopState.ready else LoopState.done, pending := jump } : Loop) = r5
      have hsh5 : Shut w4 (w4.putObj l (.loop r5)) I4 (· = l) := ⟨World.putObj_size, fun b hb => World.putObj_heap_other hb, fun b o hb ho => by subst hb; rw [hh4] at ho; cases ho; rfl⟩
      have hbl5 : Below C.W0.heap.size w4 (w4.putObj l (.loop r5)) := ⟨rfl, rfl, rfl, by simp, fun b hb => World.putObj_heap_other (by omega)⟩
      have k1' := k1.shut hsh5 hbl5 hnI0 (fun b hb => by subst hb; exact hI4l)
      have hfut : Fut S.hp.length w I m (w4.putObj l (.loop r5)) (fun b => I4 b ∧ ¬ b = l) m4 := by
        refine ⟨⟨fun b hb => ⟨k4.fut.ext.sub b (g4.fut.ext.sub b (.inl hb)), hI1 b hb⟩, fun b hb => ?_⟩, fun id hid => ?_, fun b s hs => ?_⟩
        · rw [hsh5.same b (hI1 b hb), k4.fut.ext.imm b (g4.fut.ext.sub b (.inl hb)), hsh.same b (hI1 b hb), g4.fut.ext.imm b (.inl hb)]
        · exact (k4.fut.ids id hid).trans (g4.fut.ids id hid)
        · exact (hsh5.fut (m := m) 0).shape _ _ (k4.fut.shape _ _ ((hsh.fut (m := m) 0).shape _ _ (g4.fut.shape _ _ hs)))
      have hm4 : m4 q = some l := (hfut.ids q hq).trans hml
      have k1'' := k1'.revive (o' := .lp jump.isNone jump nt' sl' ps asg body) hdq hm4 (by simpa using hl4) o1 (fun h => h.2 rfl) (fun id o ho hl hm => (k1.own id o l ho hl hm).2.1 hI4l)
        ⟨l, r5, rfl, World.putObj_heap_same hl4, by rw [← hrec], by rw [← hrec], by rw [← hrec]; exact q3, by rw [← hrec]; exact q4, by rw [← hrec]; exact q5, by rw [← hrec]; exact q6, fun t x hx => by
          obtain ⟨v, hv, hr⟩ := q7 t x hx
          exact ⟨v, by rw [← hrec]; exact hv, hr.mono hfut k3⟩⟩
      exact hK _ _ _ (hR jump S4.hp hrr) (St.value hsl hk hE k1'' hfut (by simpa using k3) (dstOk_spec hd) (.pure (.bool _))) (fun h => by cases h)
    cases e4 with
    | normal => exact key none hQ4.1 hQ4.2
    | ret => exact key (some .ret) hQ4.1 hQ4.2
    | exit id => exact key (some (.exit id)) hQ4.1 hQ4.2
    | goto l => exact hQ4.elim
    | panic c => exact hQ4.elim
    | outgrown => exact hQ4.elim
  | exit id => exact hQ.elim
  | goto l => exact hQ.elim
  | ret => exact hQ.elim
  | panic c => exact hQ.elim
  | outgrown => exact hQ.elim
theorem run_rangeCall {P : Program} {a : Act} {w : World} {g : Operand} {l : Nat} {f : FuncId} {us : Array Value} (hg : a.eval g = .func (.func f) #[] us) (hc : Callable P f) :
    ∃ d : Deferred, (resolve a.eval (rangeCall g l) 0).run P w = .ok d w ∧ (invoke d.target d.args).run P w = .ok (.enter f (#[.func (.yield l) #[] #[]] ++ us)) w := by
  obtain ⟨fn, h1, h2, h3⟩ := hc
  have h3' : ¬ fn.name = "runtime.NumGoroutine" := by simpa using h3
  refine ⟨_, by simp only [resolve, hg]; rfl, ?_⟩
  simp [Deferred.ofValue, invoke, callFunc, h1, h3', Act.eval]
  exact fun hb => absurd h2 (by simp [hb])

theorem enter_lays {C : Cx P} {a : Act} {w : World} {I : Nat → Prop} {m : Nat → Option Nat} {fnum : FuncId} {ps : List Tmp} {asg body : Code} (hE : FutC C k a w I m) : ∃ (l : Nat) (mark : List Nat) (w1 : World) (r : Loop), (Instr.enterLoop fnum a.tmps ps.toArray asg body C.ro).run P w = .ok (l, mark.map markOf) w1 ∧ Below w.heap.size w w1 ∧ w.heap.size ≤ l ∧ l < w1.heap.size ∧ w1.heap[l]? = some (.loop r) ∧
      r.state = .ready ∧ r.pending = none ∧ r.params = ps.toArray ∧ r.assign = asg ∧ r.body = body ∧ r.tmps = a.tmps ∧ mark.Nodup ∧ ∀ D ∈ mark, w.heap.size ≤ D ∧ D < w1.heap.size ∧ D ≠ l ∧ w1.heap[D]? = some (.deferred (some [])) := by
  cases hro : C.ro with
  | none =>
    refine ⟨_, [w.heap.size], _, ({ state := .ready, pending := none, fn := fnum, tmps := a.tmps, params := ps.toArray, assign := asg, body := body, defers := w.heap.size } : Loop), run_enterLoop_outer _ _ _ _ _, ⟨rfl, rfl, rfl, by simp; omega, fun b hb => ?_⟩, by omega, by simp, ?_, rfl, rfl, rfl, rfl, rfl, rfl, by simp, fun D hD => ?_⟩
    · simp only [World.alloc, Array.getElem?_push]
      rw [if_neg (by simp; omega), if_neg (by omega)]
    · have := World.alloc_heap_new (w.alloc (.deferred (some []))) (.loop { state := .ready, pending := none, fn := fnum, tmps := a.tmps, params := ps.toArray, assign := asg, body := body, defers := w.heap.size })
      rw [World.size_alloc] at this
      exact this
    · obtain rfl := List.mem_singleton.1 hD
      refine ⟨Nat.le_refl _, by simp; omega, by omega, ?_⟩
      simp only [World.alloc, Array.getElem?_push]
      simp
  | some l0 =>
    obtain ⟨_, r0, h0⟩ := hE.rnd l0 hro
    refine ⟨_, [], _, ({ state := .ready, pending := none, fn := fnum, tmps := a.tmps, params := ps.toArray, assign := asg, body := body, defers := r0.defers } : Loop), run_enterLoop_inner h0 _ _ _ _ _, ⟨rfl, rfl, rfl, by simp, fun b hb => ?_⟩, Nat.le_refl _, by simp, World.alloc_heap_new _ _, rfl, rfl, rfl, rfl, rfl, rfl, by simp, fun D hD => by cases hD⟩
    simp only [World.alloc, Array.getElem?_push]
    rw [if_neg (by omega)]

theorem range_end {C : Cx P} {a : Act} {w w1 w3 : World} {I I' : Nat → Prop} {m m' : Nat → Option Nat} {l : Nat} {mark : List Nat} {H' : List AObj} {rdy : Bool} {pend : Option Code} {nt' : Nat} {sl' : List (Nat × AV)} {ps' : List Tmp} {asg' body' : Code}
    (hws : WS C.W0 C.I0 w I m S.hp) (hsl : SlotsR nt S.sl a w I m S.hp.length) (hk : k ≤ S.hp.length) (hE : FutC C k a w I m) (hb1 : Below w.heap.size w w1) (hl0 : w.heap.size ≤ l) (hnd : mark.Nodup)
    (hmk : ∀ D ∈ mark, w.heap.size ≤ D ∧ D < w1.heap.size ∧ D ≠ l ∧ w1.heap[D]? = some (.deferred (some []))) (g2 : Fut S.hp.length w I m w1 (fun b => I b ∨ b ∈ mark) (upd m S.hp.length (some l)))
    (k1 : WS C.W0 C.I0 w3 I' m' H') (k2 : S.hp.length + 1 ≤ H'.length) (k3 : Fut (S.hp.length + 1) w1 (fun b => I b ∨ b ∈ mark) (upd m S.hp.length (some l)) w3 I' m') (hob : H'[S.hp.length]? = some (.lp rdy pend nt' sl' ps' asg' body')) :
    ∃ r3 : Loop, w3.heap[l]? = some (.loop r3) ∧ r3.state ≠ .busy ∧ r3.pending = pend ∧ St C nt k ⟨S.sl, H'.set S.hp.length .dead⟩ { a with defers := mark.map markOf ++ a.defers } (w3.putObj l (.loop { r3 with state := .exhausted })) := by
  obtain ⟨b, r3, hb3, hh3, p1, p2, p3, p4, p5, p6, p7⟩ := k1.obj _ _ hob
  have hm3 : m' S.hp.length = some l := (k3.ids _ (by omega)).trans (upd_same _ _ _)
  have hbl : b = l := by rw [hm3] at hb3; exact (Option.some.inj hb3).symm
  rw [hbl] at hh3
  refine ⟨r3, hh3, by rw [p1]; cases rdy <;> simp, p2, ?_⟩
  generalize hO : Obj.loop { r3 with state := .exhausted } = O
  obtain ⟨n1, n2⟩ := k1.set (w' := w3.putObj l O) (o' := .dead) hob rfl hm3 (grownBy_putObj' _ _ _) (fun s hs => by
    unfold World.shape? at hs; rw [hh3] at hs; cases hs) (fun _ _ => trivial)
  have hF : Fut S.hp.length w I m (w3.putObj l O) I' m' := (g2.trans (Nat.le_succ _) k3).trans (Nat.le_of_succ_le k2) n2
  refine ⟨I', m', n1, ⟨hsl.1, trivial, fun t x hx => ?_⟩, by simp; omega, ⟨hE.fut.trans hk hF, fun hro => ?_, fun l' hl' => ?_⟩⟩
  · obtain ⟨v, hv, hr⟩ := hsl.2.2 t x hx
    exact ⟨v, hv, hr.mono hF (by simp; omega)⟩
  · obtain ⟨ds, d1, d2, d3⟩ := hE.defs hro
    refine ⟨mark ++ ds, by simp [d1], List.nodup_append.2 ⟨hnd, d2, fun x hx y hy e => ?_⟩, fun D hD => ?_⟩
    · subst e
      have h1 := (hws.iw x (d3 x hy).1).1
      have h2 := (hmk x hx).1
      omega
    · rcases List.mem_append.1 hD with hD | hD
      · have hI1 : (fun b => I b ∨ b ∈ mark) D := .inr hD
        refine ⟨k3.ext.sub D hI1, ⟨fun hc => ?_, Nat.le_trans hws.below.size (hmk D hD).1⟩, ?_⟩
        · have h1 := (hws.iw D (hE.fut.ext.sub D hc)).1
          have h2 := (hmk D hD).1
          omega
        · rw [World.putObj_heap_other (hmk D hD).2.2.1, k3.ext.imm D hI1]; exact (hmk D hD).2.2.2
      · have := d3 D hD
        exact ⟨hF.ext.sub D this.1, this.2.1, by rw [hF.ext.imm D this.1]; exact this.2.2⟩
  · obtain ⟨h1, r', h2⟩ := hE.rnd l' hl'
    exact ⟨hF.ext.sub l' h1, r', by rw [hF.ext.imm l' h1]; exact h2⟩

set_option maxHeartbeats 2000000 in
/-- A range over a function whose contract is told, over the loop's record. -/
theorem AWP_rangeFunc {Q : Exit → AS → Prop} {g : Operand} {ps : List Tmp} {asg body : Code} {f : FuncId} {cs : List AV} (hg : rho S.sl g = some (.fn (.func f) [] cs)) {Rf : AV → List AObj → Prop}
    (hc : FC P f (.yld S.hp.length :: cs) (S.hp ++ [.lp true none nt S.sl ps asg body]) Rf)
    (hR : ∀ (r : AV) (H' : List AObj), Rf r H' → ∃ (rdy : Bool) (pend : Option Code) (nt' : Nat) (sl' : List (Nat × AV)) (ps' : List Tmp) (asg' body' : Code), H'[S.hp.length]? = some (.lp rdy pend nt' sl' ps' asg' body') ∧
      (match pend with
       | none => Q .normal ⟨S.sl, H'.set S.hp.length .dead⟩
       | some c => AWP P nt k c Q ⟨S.sl, H'.set S.hp.length .dead⟩)) : AWP P nt k (.rangeFunc g ps.toArray asg body) Q S := fun C a w hst => by
  obtain ⟨I, m, hws, hsl, hk, hE⟩ := hst
  obtain ⟨vs, us, hev, e1, e2, e3, e4⟩ := (rho_sound hsl hg).fn_inv
  have hvs : vs = #[] := Array.eq_empty_of_size_eq_zero (by simpa using e1)
  subst hvs
  refine wpIn_rangeFunc (F := FW C.ro) fun fnum _ => ?_
  -- what entering the loop lays
  have hent := enter_lays (C := C) (fnum := fnum) (ps := ps) (asg := asg) (body := body) hE
  obtain ⟨l, mark, w1, r, hrun, hb1, hl0, hl1, hh1, q1, q2, q3, q4, q5, q6, hnd, hmk⟩ := hent
  have g0 := hws.push' (I' := fun b => I b ∨ b ∈ mark) hb1 (fun _ h => .inl h) (fun b hb => by
    rcases hb with hb | hb
    · exact ⟨Nat.lt_of_lt_of_le (hws.iw b hb).1 hb1.size, .inl hb⟩
    · exact ⟨(hmk b hb).2.1, .inr (hmk b hb).1⟩) (some l) (fun b hb => by
      cases hb
      exact ⟨hl0, hl1, fun hc => by
        rcases hc with hc | hc
        · have := (hws.iw l hc).1; omega
        · exact (hmk l hc).2.2.1 rfl⟩) (.lp true none nt S.sl ps asg body) (fun m' hf' hm' => ⟨l, r, rfl, hh1, by rw [q1]; rfl, q2, q3, q4, q5, by rw [q6]; exact hsl.1, fun t x hx => by
        obtain ⟨v, hv, hr⟩ := hsl.2.2 t x hx
        exact ⟨v, by rw [q6]; exact hv, hr.mono hf' (Nat.le_succ _)⟩⟩)
  obtain ⟨g1, g2⟩ := g0
  obtain ⟨d, hd1, hd2⟩ := run_rangeCall (w := w1) (l := l) hev hc.1
  refine ⟨l, mark.map markOf, w1, d, w1, f, _, w1, hrun, hd1, fun _ _ => trivial, hd2, (fun h => (by cases h)), callsIn_FW ?_⟩
  have hlen : (S.hp ++ [AObj.lp true none nt S.sl ps asg body]).length = S.hp.length + 1 := by simp
  refine (hc.2 C.W0 C.I0 w1 _ _ (#[.func (.yield l) #[] #[]] ++ us) C.hE g1 (by simp at e3 ⊢; omega) (fun i v x hv hx => ?_)).mono ?_
  · rcases i with _ | i
    · rw [Array.getElem?_append_left (by simp)] at hv
      simp at hv hx
      subst hv; subst hx
      exact .yld _ _ (by simp) (upd_same _ _ _)
    · rw [Array.getElem?_append_right (by simp)] at hv
      simp at hv hx
      exact (e4 i v x hv hx).mono g2 (by simp)
  rintro e w3 ⟨v, rv, H', I', m', hRf, rfl, k1, k2, k3, k4⟩
  rw [hlen] at k2 k3
  obtain ⟨rdy, pend, nt', sl', ps', asg', body', hob, hcont⟩ := hR rv H' hRf
  obtain ⟨r3, hh3, hst3, hp3, hstq⟩ := range_end hws hsl hk hE hb1 hl0 hnd hmk g2 k1 k2 k3 hob
  refine ⟨pend, _, (run_endLoop hh3 hst3).trans (congrArg (fun x => Result.ok x _) hp3), ?_⟩
  cases pend with
  | none => exact ⟨_, hcont, hstq⟩
  | some c => exact hcont C _ _ hstq
end
end Go.Abs
set_option maxRecDepth 100000
namespace Go.Abs
open Go Go.Sort

theorem PVR.of_val {w : World} {I : Nat → Prop} {u : Value} {x : AV} (hx : x.val = some u) : PVR w I u x := by
  cases x <;> simp [AV.val] at hx <;> subst hx
  · exact .bool _
  · exact .int _ _
  · exact .str _

/-- A row of plain cells behind an own slice, in the sort kit's words. -/
structure RowOf (k : Nat) (xs : List AV) (F : Array Value) : Prop where
  size : F.size = xs.length * k
  width : ∀ x ∈ xs, x.cells.length = k
  cell : ∀ (i : Nat) (x : AV), xs[i]? = some x → ∀ (j : Nat) (y : AV), x.cells[j]? = some y → y.val = some F[i * k + j]!

section
variable {W0 : World} {I0 : Nat → Prop} {w : World} {I : Nat → Prop} {m : Nat → Option Nat} {H : List AObj} {p b : Nat} {e : TypeId} {k : Nat} {xs : List AV} {F : Array Value}

theorem own_row (hws : WS W0 I0 w I m H) (ho : H[p]? = some (.arr e k xs)) (hm : m p = some b) (hF : RowOf k xs F) : Holds id w b 0 F ∧ b < w.heap.size := by
  obtain ⟨_, _, hb⟩ := hws.own p _ b ho rfl hm
  refine ⟨fun j hj => ?_, hb⟩
  rcases hws.obj p _ ho with ⟨e1, _⟩ | ⟨b', cap, vs, hb', hh, q1, q2, q3, q4, hr⟩
  · rw [hm] at e1; cases e1
  obtain rfl : b = b' := by rw [hm] at hb'; exact Option.some.inj hb'
  have hk : 0 < k := by
    rcases Nat.eq_zero_or_pos k with h | h
    · rw [hF.size, h] at hj; simp at hj
    · exact h
  have hjs : j < xs.length * k := by rw [← hF.size]; exact hj
  have hi : j / k < xs.length := Nat.div_lt_of_lt_mul (by rwa [Nat.mul_comm] at hjs)
  have hc := hF.width _ (List.getElem_mem hi)
  have hmod : j % k < (xs[j / k]).cells.length := by rw [hc]; exact Nat.mod_lt _ hk
  have hdm : j / k * k + j % k = j := by rw [Nat.mul_comm]; exact Nat.div_add_mod _ _
  obtain ⟨v, hv, hp⟩ := hr (j / k) _ (List.getElem?_eq_getElem hi) (j % k) _ (List.getElem?_eq_getElem hmod)
  have := hp.val (hF.cell _ _ (List.getElem?_eq_getElem hi) _ _ (List.getElem?_eq_getElem hmod))
  rw [hdm] at hv this
  subst this
  simp [World.cell?, World.frozen?, hh, hv]

theorem own_put (hws : WS W0 I0 w I m H) (ho : H[p]? = some (.arr e k xs)) (hm : m p = some b) (hF : RowOf k xs F) {xs' : List AV} {F' : Array Value} (hl : xs'.length = xs.length) (hF' : RowOf k xs' F') (n : Nat) (os : Array Obj) :
    WS W0 I0 (grow (putRow id (Sort.ahead w n) b 0 F') os) I m (H.set p (.arr e k xs')) ∧ Fut H.length w I m (grow (putRow id (Sort.ahead w n) b 0 F') os) I m := by
  obtain ⟨_, _, hb⟩ := hws.own p _ b ho rfl hm
  rcases hws.obj p _ ho with ⟨e1, _⟩ | ⟨b', cap, vs, hb', hh, q1, q2, q3, q4, hr⟩
  · rw [hm] at e1; cases e1
  obtain rfl : b = b' := by rw [hm] at hb'; exact Option.some.inj hb'
  have hheap : ∀ c, c < w.heap.size → (grow (putRow id (Sort.ahead w n) b 0 F') os).heap[c]? = if b = c then (w.heap[c]?).map (onCells (putCells id 0 F')) else w.heap[c]? := by
    intro c hc
    simp only [grow, putRow, mapBlock, Sort.ahead]
    rw [Array.getElem?_append_left (by simpa using hc), Array.getElem?_modify]
  have hhb : (grow (putRow id (Sort.ahead w n) b 0 F') os).heap[b]? = some (.cells (putCells id 0 F' vs) e (0, 0)) := by
    rw [hheap b hb, if_pos rfl, hh]; rfl
  have hg : w.grownBy (grow (putRow id (Sort.ahead w n) b 0 F') os) (some b) := ⟨rfl, rfl, rfl, by simp [grow, putRow, mapBlock, Sort.ahead], fun c hc hne => by
    rw [hheap c hc, if_neg (fun h => hne (by rw [h]))]⟩
  refine hws.set (o' := .arr e k xs') ho rfl hm hg (fun s hs => ?_) (fun m' hf => .inr ⟨b, cap, putCells id 0 F' vs, rfl, hhb, by omega, q2, by simp [putCells, q3], hF'.width, fun i x hx j y hy => ?_⟩)
  · simp only [World.shape?, hh] at hs
    simp only [World.shape?, hhb]
    simpa [putCells] using hs
  · have hi : i < xs'.length := (List.getElem?_eq_some_iff.1 hx).1
    have hj : j < k := by
      have := hF'.width x (List.mem_of_getElem? hx)
      rw [← this]; exact (List.getElem?_eq_some_iff.1 hy).1
    have hij : i * k + j < xs'.length * k := by
      have := Nat.mul_le_mul_right k (show i + 1 ≤ xs'.length from hi)
      rw [Nat.add_mul, Nat.one_mul] at this
      omega
    have hij' : i * k + j < vs.size := by
      rw [q3]
      have := Nat.mul_le_mul_right k (show xs'.length ≤ cap by omega)
      omega
    refine ⟨F'[i * k + j]!, ?_, PVR.of_val (hF'.cell i x hx j y hy)⟩
    have := hF'.size
    simp only [putCells, Array.getElem?_mapIdx, Array.getElem?_eq_getElem hij', Option.map_some]
    rw [if_pos (by omega)]
    rfl

theorem cons_arr (v : Value) (us : List Value) : #[v] ++ us.toArray = ⟨v :: us⟩ := by simp

/-- A library function that turns a row in place. -/
theorem FC_row {P : Program} [Env P] {f : FuncId} {rest : List AV} (hc : Callable P f) {len : Nat} (hxs : xs.length = len) (ho : H[p]? = some (.arr e k xs)) (hF : RowOf k xs F)
    (us : List Value) (hu : ∀ (w : World) (I : Nat → Prop) (m : Nat → Option Nat) (vs : List Value), vs.length = rest.length → (∀ (i : Nat) (v : Value) (x : AV), vs[i]? = some v → rest[i]? = some x → VR w I m H.length v x) → vs = us)
    (Rx : List AV → Prop)
    (h : ∀ (b cap : Nat) (w : World), Holds id w b 0 F → b < w.heap.size → len ≤ cap → Calls P f (#[.slice (some ⟨b, 0, none⟩) len cap] ++ us.toArray) w fun en w' => en = .returned (.tuple #[]) ∧ ∃ (xs' : List AV) (F' : Array Value) (n : Nat) (os : Array Obj), Rx xs' ∧ xs'.length = xs.length ∧ RowOf k xs' F' ∧ w' = grow (putRow id (Sort.ahead w n) b 0 F') os)
    (h0 : xs = [] → Rx [] ∧ ∀ (w : World), Calls P f (#[.slice none 0 0] ++ us.toArray) w fun en w' => en = .returned (.tuple #[]) ∧ w' = w) :
    FC P f (.sl p k 0 len :: rest) H (fun r H' => r = .tup [] ∧ ∃ xs', Rx xs' ∧ H' = H.set p (.arr e k xs')) := by
  refine ⟨hc, fun W0 I0 w I m vals hE hws hsz hv => ?_⟩
  rcases vals with ⟨vals⟩
  cases vals with
  | nil => simp at hsz
  | cons v vs =>
    have hvs : vs = us := hu w I m vs (by simpa using hsz) fun i v x a b => hv (i + 1) v x (by simpa using a) (by simpa using b)
    subst hvs
    have hv0 := hv 0 v _ rfl rfl
    have tupR : ∀ (w : World) (I : Nat → Prop) (m : Nat → Option Nat) (n : Nat), VR w I m n (.tuple #[]) (.tup []) := fun w I m n => .tup _ _ rfl (fun i v x a => by simp at a)
    rcases hv0.sl_inv with ⟨b, cap, t, hb, hn, hsh, hle, hmax, hse⟩ | ⟨hb, hn, _, hl0, hse⟩ | ⟨_, _, hlo, _, _⟩
    · subst hse
      obtain ⟨g1, g2⟩ := own_row hws ho hb hF
      have := h b cap w g1 g2 hle
      simp only [Nat.zero_mul]
      refine Calls.mono (by rw [cons_arr] at this; exact this) ?_
      rintro en w' ⟨rfl, xs', F', n, os, hx, hl, hF', rfl⟩
      obtain ⟨k1, k2⟩ := own_put hws ho hb hF hl hF' n os
      exact ⟨_, _, _, I, m, ⟨rfl, xs', hx, rfl⟩, rfl, k1, by simp, k2, tupR _ _ _ _⟩
    · subst hse
      have hx0 : xs = [] := by cases xs with | nil => rfl | cons => simp at hxs; omega
      obtain ⟨r0, r1⟩ := h0 hx0
      subst hl0
      refine Calls.mono (by have := r1 w; rw [cons_arr] at this; exact this) ?_
      rintro en w' ⟨rfl, rfl⟩
      refine ⟨_, _, H, I, m, ⟨rfl, [], r0, ?_⟩, rfl, hws, Nat.le_refl _, .refl _ _ _ _, tupR _ _ _ _⟩
      rw [← hx0]
      exact (List.ext_getElem? fun i => by
        by_cases hi : i = p
        · subst hi; rw [ho, List.getElem?_set_self (List.getElem?_eq_some_iff.1 ho).1]
        · rw [List.getElem?_set_ne (fun h => hi h.symm)])
    · omega
end
end Go.Abs
set_option maxRecDepth 100000
namespace Go.Abs
open Go Go.RowKit
section
variable {P : Program} [Env P] {nt k : Nat} {Q : Exit → AS → Prop}
/-- A nil slice in a slot, as an own slice without elements. -/
theorem AWP_nilSlot {c : Code} {sl : List (Nat × AV)} {H : List AObj} (t e sz : Nat) (ht : look sl t = some .nils)
    (h : AWP P nt k c Q ⟨put sl t (.sl H.length sz 0 0), H ++ [.arr e sz []]⟩) : AWP P nt k c Q ⟨sl, H⟩ := fun C a w hs => by
  obtain ⟨I, m, hw, hsl, hk, hf⟩ := hs
  obtain ⟨g1, g2⟩ := hw.push (Below.refl _ _) none (fun b e => by cases e) (.arr e sz []) (fun m' _ _ => .inl ⟨rfl, rfl⟩)
  refine h C a w ⟨I, upd m H.length none, g1, ⟨hsl.1, hsl.2.1, fun s x hx => ?_⟩, by simp at hk ⊢; omega, hf.trans hk g2⟩
  simp only [look_put] at hx
  by_cases hst : s = t
  · rw [if_pos hst] at hx
    cases hx
    obtain ⟨v, hv, hr⟩ := hsl.2.2 t _ ht
    rw [hst]
    have := hr.nils_inv
    subst this
    exact ⟨_, hv, .slnone H.length sz (by simp) (upd_same ..)⟩
  · rw [if_neg hst] at hx
    obtain ⟨v, hv, hr⟩ := hsl.2.2 s x hx
    refine ⟨v, hv, ?_⟩
    have := hr.mono (n' := (H ++ [AObj.arr e sz []]).length) g2 (by simp)
    simpa using this
/-- A nil slice in a slot, as data. -/
theorem AWP_nilList {c : Code} {sl : List (Nat × AV)} {H : List AObj} (t : Nat) (ht : look sl t = some .nils)
    (h : AWP P nt k c Q ⟨put sl t (.list []), H⟩) : AWP P nt k c Q ⟨sl, H⟩ := fun C a w hs => by
  obtain ⟨I, m, hw, hsl, hk, hf⟩ := hs
  refine h C a w ⟨I, m, hw, ⟨hsl.1, hsl.2.1, fun s x hx => ?_⟩, hk, hf⟩
  simp only [look_put] at hx
  by_cases hst : s = t
  · rw [if_pos hst] at hx
    cases hx
    obtain ⟨v, hv, hr⟩ := hsl.2.2 t _ ht
    rw [hst]
    have := hr.nils_inv
    subst this
    exact ⟨_, hv, .pure (.list none 0 0 0 [] (fun _ _ => .bool false) rfl (Nat.le_refl _) (by simp [maxLen]) (fun x hx => by simp at hx) (fun h => by simp at h) (fun i x hx => by simp at hx))⟩
  · rw [if_neg hst] at hx
    exact hsl.2.2 s x hx
theorem ALoop_freeze {cd : Code} {sl : List (Nat × AV)} {H : List AObj} (i : Nat) {e c : Nat} {xs : List AV} (hi : H[i]? = some (.arr e c xs)) (h : ALoop P nt k cd Q ⟨sl.map fun p => (p.1, p.2.fz i c xs), (H.set i .dead).map (AObj.fz i c xs)⟩) : ALoop P nt k cd Q ⟨sl, H⟩ :=
  fun C a w hs => h C a w (hs.freeze i hi)
end
end Go.Abs
set_option maxRecDepth 100000
namespace Go.Abs
open Go Go.RowKit
section
variable {P : Program} [Env P] {T : TT} {nt k : Nat} {S : AS} {ops : Array Oper} {o : Oper} {R : AS → Prop} {Q : Exit → AS → Prop}
theorem run_append_make_nil {w : World} (t tn ty e : TypeId) (i : TypeInfo) (z : Value) (kk kn : IntKind) (ht : P.underlying t = some (.slice e)) (htn : P.underlying tn = some (.int kn)) (hi : P.info? e = some i) (hz : i.zero = some z)
    (n : Nat) (h0 : 0 < n) (hs : 0 < i.size) (h63 : (n : Int) ≤ 9223372036854775807) (h48 : n * i.bytes ≤ 281474976710656) (hfit : Builtin.nextslicecap n 0 * i.bytes ≤ 281474976710656) :
    (Builtin.append_ #[t, tn] ty #[.slice none 0 0, .int kk n]).run P w =
      .ok (.slice (some ⟨w.heap.size, 0, none⟩) n (grownCap w n 0 e))
        (w.drew.alloc (.cells (Builtin.zeroCells z.cells n ++ Builtin.zeroCells z.cells (grownCap w n 0 e - n)) e)) := by
  have hn : n ≠ 0 := by omega
  have hw : IntKind.i64.wrap (n : Int) = n := by rw [IntKind.wrap_i64]; omega
  have h63' : ¬ (9223372036854775807 < ((0 : Int) + (n : Int))) := by omega
  have h63'' : ¬ (9223372036854775807 < (n : Int)) := by omega
  have h48' : ¬ (281474976710656 < Builtin.nextslicecap n 0 * i.bytes) := by omega
  have h48i : ¬ (281474976710656 < (n : Int) * (i.bytes : Int)) := by
    rw [← Int.natCast_mul]
    omega
  have hneg : ¬ ((n : Int) < 0) := by omega
  have hns : ¬ (n * i.size = 0) := Nat.mul_ne_zero hn (by omega)
  simp [Builtin.append_, run_underlying ht, run_underlying htn, sizeOf, typeInfo, zeroValue, hi, hz, asInt, asIntOf, hw, hn, hneg, hns, h63', h63'', h48', h48i, Question.forced, run_firstCells_none, newRow, grownCap]

/-- append([]T(nil), make([]T, n)...). -/
theorem AStep_appendMakeNil (hT : TOk P T) (hw : wantedA ops S o = some true) {s x : Operand} {t tn e : TypeId} (ho : o.op = .call ⟨.builtin .append, #[s, x], #[t, tn]⟩) {it itn ei : TI} (ht : look T t = some it) (hit : it.desc = .slice e)
    (htn : look T tn = some itn) {kn : IntKind} (hitn : itn.desc = .int kn) (he : look T e = some ei) (hz : ei.zero.cells.size = ei.size) (hsz : 0 < ei.size) {n : Nat} (hs : rho S.sl s = some .nils) (hx : rho S.sl x = some (.int .i64 n))
    (h0 : 0 < n) (hbound : n * ei.bytes ≤ 140737488355328) (hlen : n ≤ 9223372036854775807)
    (z : AV) (hzc : z.cells = ei.zeros) (hd : dstOk nt o = true)
    (hR : R (({ S with hp := S.hp ++ [.arr e ei.size (List.replicate n z)] } : AS).putD o.dst (.sl S.hp.length ei.size 0 n))) : AStep P nt k true ops o S R := fun C a w K Q hst hK => by
  unfold OpW
  rw [if_pos (hst.wanted hw)]
  obtain ⟨I, m, hws, hsl, hk', hE⟩ := hst
  obtain ⟨ti, hti, tz, ts, tb⟩ := hT.info he
  have hut := hT.und ht
  rw [hit] at hut
  have hutn := hT.und htn
  rw [hitn] at hutn
  have hxv := (rho_sound hsl hx).int_inv
  have hse := (rho_sound hsl hs).nils_inv
  have hrun := run_append_make_nil (P := P) (w := w) t tn o.type e ti ei.zero .i64 kn hut hutn hti tz n h0 (by omega) (by omega) (by rw [tb]; omega)
    (growslice_fits (by omega) (by rw [tb]; exact hbound))
  have c1 := grownCap_ge w n 0 e
  have c2 : grownCap w n 0 e ≤ maxLen := grownCap_le_maxLen w _ 0 e (by unfold maxLen; omega)
  have hzs : (Builtin.zeroCells ei.zero.cells n).size = n * ei.size := by rw [size_zeroCells, hz]
  generalize hcs : Builtin.zeroCells ei.zero.cells n ++ Builtin.zeroCells ei.zero.cells (grownCap w n 0 e - n) = cs at hrun
  have hcsz : cs.size = grownCap w n 0 e * ei.size := by
    rw [← hcs]
    simp only [Array.size_append, size_zeroCells, hz, ← Nat.add_mul]
    congr 1; omega
  have hzl : z.cells.length = ei.size := by rw [hzc, TI.zeros, List.length_map, Array.length_toList]; exact hz
  have hbl : Below w.heap.size w (w.drew.alloc (.cells cs e)) := (Below.refl _ _).drew.alloc (Nat.le_refl _) _
  obtain ⟨g1, g2⟩ := hws.push hbl (some w.heap.size) (fun b e => by injection e with e; subst e; simp) (.arr e ei.size (List.replicate n z)) (fun m' hf hm => .inr ⟨w.heap.size, grownCap w n 0 e, cs, rfl, heap_alloc_new w.drew _, by simp; omega, c2, hcsz,
    fun y hy => by rw [List.eq_of_mem_replicate hy]; exact hzl, fun p y hp j v hv => by
      rw [List.getElem?_replicate] at hp
      split at hp
      · rename_i hpn
        obtain rfl := Option.some.inj hp
        have hj : j < ei.size := by have := (List.getElem?_eq_some_iff.1 hv).1; omega
        have hq2 : p * ei.size + j < n * ei.size := by
          have : (p + 1) * ei.size ≤ n * ei.size := Nat.mul_le_mul_right _ (by omega)
          rw [Nat.add_mul] at this; omega
        have hjz : j < ei.zero.cells.size := by omega
        refine ⟨ei.zero.cells[j], ?_, ?_⟩
        · rw [← hcs, Array.getElem?_append_left (by rw [hzs]; exact hq2), Array.getElem?_eq_getElem (by rw [hzs]; exact hq2)]
          simp only [Builtin.zeroCells, Array.getElem_map, Array.getElem_range, Option.some.injEq]
          rw [hz, Nat.add_comm, Nat.add_mul_mod_self_right, Nat.mod_eq_of_lt hj]
          exact getElem!_pos ei.zero.cells j hjz
        · have : v = zeroCell ei.zero.cells[j] := by
            rw [hzc, TI.zeros, List.getElem?_map] at hv
            have h5 : ei.zero.cells.toList[j]? = some ei.zero.cells[j] := by simp [hjz]
            rw [h5] at hv
            exact (Option.some.inj hv).symm
          rw [this]
          exact zeroCell_sound _
      · cases hp⟩)
  unfold wpA
  have : (execOp a.eval o).run P w = .ok (.value (.slice (some ⟨w.heap.size, 0, none⟩) n (grownCap w n 0 e))) (w.drew.alloc (.cells cs e)) := by simp [execOp, ho, resolve, invoke, builtin, hse, hxv, hrun]
  rw [this]
  refine hK _ _ _ hR (St.value hsl hk' hE g1 g2 (by simp) (dstOk_spec hd) ?_) (fun e => by cases e)
  have := VR.sl (w := w.drew.alloc (.cells cs e)) (I := I) (m := upd m S.hp.length (some w.heap.size)) (n := S.hp.length + 1) S.hp.length ei.size 0 n (grownCap w n 0 e) w.heap.size e (by omega) (upd_same _ _ _)
    (by have := heap_alloc_new w.drew (.cells cs e); simp only [World.size_drew] at this; simp only [World.shape?, this, hcsz, Nat.zero_add]) c1 (by omega)
  simpa using this
theorem AStep_capNil (hT : TOk P T) {wr : Bool} (hw : wantedA ops S o = some true) {x : Operand} {t e : TypeId} (ho : o.op = .call ⟨.builtin .cap, #[x], #[t]⟩) {it : TI} (ht : look T t = some it) (hit : it.desc = .slice e)
    (hx : rho S.sl x = some .nils) (hd : dstOk nt o = true) (hR : R (S.putD o.dst (.int .i64 (0 : Nat)))) : AStep P nt k wr ops o S R := fun C a w K Q hst hK => by
  unfold OpW
  rw [if_pos (hst.wanted hw)]
  obtain ⟨I, m, hws, hsl, hk, hE⟩ := hst
  have hut := hT.und ht
  rw [hit] at hut
  have hse := (rho_sound hsl hx).nils_inv
  unfold wpA
  have : (execOp a.eval o).run P w = .ok (.value (goInt 0)) w := by simp [execOp, ho, resolve, invoke, builtin, hse, cap_run hut]
  rw [this]
  exact hK _ _ w hR (St.value hsl hk hE hws (Fut.refl _ _ _ _) (Nat.le_refl _) (dstOk_spec hd) (.pure (.int _ _))) (fun _ => Held.refl w)
/-- An own slice's object, cut short. -/
theorem AWP_trunc {c : Code} {sl : List (Nat × AV)} {H : List AObj} (i k' : Nat) {e : TypeId} {cw : Nat} {xs : List AV} (hi : H[i]? = some (.arr e cw xs)) (h : AWP P nt k c Q ⟨sl, H.set i (.arr e cw (xs.take k'))⟩) : AWP P nt k c Q ⟨sl, H⟩ := fun C a w hs => by
  obtain ⟨I, m, hw, hsl, hk, hf⟩ := hs
  have hlen : (H.set i (.arr e cw (xs.take k'))).length = H.length := by simp
  rcases hw.obj i _ hi with ⟨e1, e2⟩ | ⟨b, cap, vs, hb, hh, q1, q2, q3, q4, hr⟩
  · subst e2
    have : H.set i (.arr e cw (([] : List AV).take k')) = H := by
      rw [List.take_nil]
      exact List.ext_getElem? fun j => by
        by_cases hj : j = i
        · subst hj; rw [hi, List.getElem?_set_self (List.getElem?_eq_some_iff.1 hi).1]
        · rw [List.getElem?_set_ne (fun e => hj e.symm)]
    rw [this] at h
    exact h C a w ⟨I, m, hw, hsl, hk, hf⟩
  · obtain ⟨g1, g2⟩ := hw.set (w' := w) (o' := .arr e cw (xs.take k')) hi rfl hb (World.grownBy.refl _ _) (fun _ h => h) (fun m' hf' => .inr ⟨b, cap, vs, rfl, hh, by simp; omega, q2, q3, fun x hx => q4 x (List.mem_of_mem_take hx), fun j x hx => by
      rw [List.getElem?_take] at hx
      split at hx
      · exact hr j x hx
      · cases hx⟩)
    refine h C a w ⟨I, m, g1, ⟨hsl.1, hsl.2.1, fun t x hx => ?_⟩, by rw [hlen]; exact hk, hf⟩
    obtain ⟨v, hv, hr'⟩ := hsl.2.2 t x hx
    exact ⟨v, hv, by simpa using hr'⟩
end
end Go.Abs
set_option maxRecDepth 100000
namespace Go.Abs
open Go Go.Sort
section
variable {W0 : World} {I0 : Nat → Prop} {w : World} {I : Nat → Prop} {m : Nat → Option Nat} {H : List AObj} {p b : Nat} {e : TypeId} {k : Nat} {xs : List AV} {F : Array Value}
/-- A library function that turns a row in place and hands back its front. -/
theorem FC_rowS {P : Program} [Env P] {f : FuncId} (hc : Callable P f) {len : Nat} (hxs : xs.length = len) (ho : H[p]? = some (.arr e k xs)) (hF : RowOf k xs F)
    (Rx : List AV → Nat → Prop) (hRl : ∀ ys n, Rx ys n → n ≤ len)
    (h : ∀ (b cap : Nat) (w : World), Holds id w b 0 F → b < w.heap.size → len ≤ cap → cap ≤ maxLen → Calls P f (#[.slice (some ⟨b, 0, none⟩) len cap]) w fun en w' => ∃ (xs' : List AV) (F' : Array Value) (n len' : Nat), en = .returned (.slice (some ⟨b, 0, none⟩) len' cap) ∧ Rx xs' len' ∧ xs'.length = xs.length ∧ RowOf k xs' F' ∧ w' = putRow id (Sort.ahead w n) b 0 F')
    (h0 : xs = [] → Rx [] 0 ∧ ∀ (w : World), Calls P f (#[.slice none 0 0]) w fun en w' => en = .returned (.slice none 0 0) ∧ w' = w) :
    FC P f [.sl p k 0 len] H (fun r H' => ∃ xs' len', r = .sl p k 0 len' ∧ Rx xs' len' ∧ H' = H.set p (.arr e k xs')) := by
  refine ⟨hc, fun W0 I0 w I m vals hE hws hsz hv => ?_⟩
  rcases vals with ⟨vals⟩
  match vals, hsz with
  | [v], _ =>
    have hv0 := hv 0 v _ rfl rfl
    rcases hv0.sl_inv with ⟨b, cap, t, hb, hn, hsh, hle, hmax, hse⟩ | ⟨hb, hn, _, hl0, hse⟩ | ⟨_, _, hlo, _, _⟩
    · subst hse
      obtain ⟨g1, g2⟩ := own_row hws ho hb hF
      have := h b cap w g1 g2 hle (by omega)
      simp only [Nat.zero_mul]
      refine Calls.mono this ?_
      rintro en w' ⟨xs', F', n, len', rfl, hx, hl, hF', rfl⟩
      obtain ⟨k1, k2⟩ := own_put hws ho hb hF hl hF' n #[]
      rw [grow_empty] at k1 k2
      refine ⟨_, _, _, I, m, ⟨xs', len', rfl, hx, rfl⟩, rfl, k1, by simp, k2, ?_⟩
      have := VR.sl (w := putRow id (Sort.ahead w n) b 0 F') (I := I) (m := m) (n := (H.set p (.arr e k xs')).length) p k 0 len' cap b t (by simpa using hn) hb (k2.shape _ _ hsh) (Nat.le_trans (hRl _ _ hx) hle) (by omega)
      simpa using this
    · subst hse
      have hx0 : xs = [] := by cases xs with | nil => rfl | cons => simp at hxs; omega
      obtain ⟨r0, r1⟩ := h0 hx0
      subst hl0
      refine Calls.mono (r1 w) ?_
      rintro en w' ⟨rfl, rfl⟩
      refine ⟨_, _, H, I, m, ⟨[], 0, rfl, r0, ?_⟩, rfl, hws, Nat.le_refl _, .refl _ _ _ _, .slnone p k hn hb⟩
      rw [← hx0]
      exact (List.ext_getElem? fun i => by
        by_cases hi : i = p
        · subst hi; rw [ho, List.getElem?_set_self (List.getElem?_eq_some_iff.1 ho).1]
        · rw [List.getElem?_set_ne (fun h => hi h.symm)])
    · omega
/-- Rows of one cell. -/
theorem rowI (zs : List Int) : RowOf 1 (zs.map (AV.int .i64)) (zs.map (Value.int .i64)).toArray where
  size := by simp
  width x hx := by
    obtain ⟨y, _, rfl⟩ := List.mem_map.1 hx
    rfl
  cell i x hx j y hy := by
    rw [List.getElem?_map] at hx
    obtain ⟨z, hz, rfl⟩ := Option.map_eq_some_iff.1 hx
    obtain ⟨hi, rfl⟩ := List.getElem?_eq_some_iff.1 hz
    have hj : j = 0 := by have := (List.getElem?_eq_some_iff.1 hy).1; simp [AV.cells] at this; exact this
    subst hj
    simp [AV.cells] at hy
    subst hy
    rw [Nat.mul_one, Nat.add_zero, getElem!_pos _ i (by simpa using hi)]
    simp [AV.val]
theorem holds_int {w : World} {b : Nat} {zs : List Int} (h : Holds id w b 0 (zs.map (Value.int .i64)).toArray) : Holds (Value.int .i64) w b 0 zs.toArray := fun j hj => by
  have hj' : j < zs.length := by simpa using hj
  have := h j (by simpa using hj')
  rw [getElem!_pos _ j (by simpa using hj')] at this
  rw [getElem!_pos _ j (by simpa using hj')]
  simpa using this
theorem putRow_int (w : World) (b : Nat) (zs : List Int) : putRow (Value.int .i64) w b 0 zs.toArray = putRow id w b 0 (zs.map (Value.int .i64)).toArray := by
  unfold putRow
  refine mapBlock_congr _ _ _ _ fun c e fr _ => ?_
  unfold putCells
  refine Array.ext (by simp) fun i h1 h2 => ?_
  simp only [Array.getElem_mapIdx, List.size_toArray, List.length_map, id]
  split
  · rename_i hh
    have hi : i - 0 < zs.length := by omega
    rw [getElem!_pos _ (i - 0) (by simpa using hi), getElem!_pos _ (i - 0) (by simpa using hi)]
    simp
  · rfl
end
end Go.Abs
set_option maxRecDepth 100000
namespace Go.Abs
open Go Go.RowKit
section
variable {P : Program} [Env P] {T : TT} {nt k : Nat} {S : AS} {ops : Array Oper} {o : Oper} {R : AS → Prop} {Q : Exit → AS → Prop}
theorem one_call {w : World} {I : Nat → Prop} {m : Nat → Option Nat} {n : Nat} {f : FuncId} {x : AV} {a : Act} (hsl : SlotsR nt S.sl a w I m n) (hc : callArgs S o.op = some (f, [x])) :
    ∃ v : Value, (execOp a.eval o).run P w = (callFunc f #[v]).run P w ∧ VR w I m n v x := by
  have hcall : ∃ vals : Array Value, (execOp a.eval o).run P w = (callFunc f vals).run P w ∧ vals.size = 1 ∧ ∀ (v : Value), vals[0]? = some v → VR w I m n v x := by
    unfold callArgs at hc
    split at hc
    · rename_i c hop
      obtain ⟨callee, args, ts⟩ := c
      simp only at hc
      split at hc
      · rename_i cf
        split at hc
        · rename_i f' fs cs ys h1 h2
          simp only [Option.some.injEq, Prod.mk.injEq] at hc
          obtain ⟨rfl, hxs⟩ := hc
          obtain ⟨vs, us, hev, e1, e2, e3, e4⟩ := (rho_sound hsl h1).fn_inv
          obtain ⟨e5, e6⟩ := rho_all (g := true) rfl hsl h2
          have hlen : fs.length + ys.length + cs.length = 1 := by have := congrArg List.length hxs; simpa [Nat.add_assoc] using this
          refine ⟨vs ++ args.map a.eval ++ us, ?_, by simp only [Array.size_append]; omega, fun v hv => ?_⟩
          · simp [execOp, hop, resolve, hev, Deferred.ofValue, invoke]
          · have hx : (fs ++ ys ++ cs)[0]? = some x := by rw [hxs]; rfl
            rw [Array.getElem?_append] at hv
            rw [List.getElem?_append] at hx
            simp only [Array.size_append, List.length_append] at hv hx
            by_cases c1 : 0 < vs.size + (args.map a.eval).size
            · rw [if_pos c1] at hv
              rw [if_pos (by omega)] at hx
              rw [Array.getElem?_append] at hv
              rw [List.getElem?_append] at hx
              by_cases c2 : 0 < vs.size
              · rw [if_pos c2] at hv
                rw [if_pos (by omega)] at hx
                exact e2 0 v x hv hx
              · rw [if_neg c2] at hv
                rw [if_neg (by omega), ← e1] at hx
                exact e6 _ v x hv hx
            · rw [if_neg c1] at hv
              rw [if_neg (by omega), ← e1, ← e5] at hx
              exact e4 _ v x hv hx
        · cases hc
      · cases hc
    · cases hc
  obtain ⟨vals, hrun, hsz, hval⟩ := hcall
  obtain ⟨v, rfl⟩ : ∃ v, vals = #[v] := by
    rcases vals with ⟨vs⟩
    match vs, hsz with
    | [v], _ => exact ⟨v, rfl⟩
  exact ⟨v, hrun, hval v rfl⟩
/-- internal/bytealg.MakeNoZero: a new slice of bytes that nothing is known of. -/
theorem AStep_makeNoZero (hT : TOk P T) {wr : Bool} (hw : wantedA ops S o = some true) (hd : dstOk nt o = true) {f : FuncId} {fn : Func} {n : Nat} (hc : callArgs S o.op = some (f, [.int .i64 n])) (hf : P.funcs[f]? = some fn)
    (hname : (fn.name == "runtime.NumGoroutine") = false) (hb : fn.body.isNone = true) (hn : Extern.findNext fn = none) {ps : Array TypeId} {t e : TypeId} (he : Extern.find fn = some (Extern.BytealgMakeNoZero.makeNoZero ps #[t]))
    {it : TI} (ht : look T t = some it) (hit : it.desc = .slice e) (hbound : n ≤ 140737488355328)
    (hR : R (({ S with hp := S.hp ++ [.arr e 1 (List.replicate n .top)] } : AS).putD o.dst (.sl S.hp.length 1 0 n))) : AStep P nt k wr ops o S R := fun C a w K Q hst hK => by
  unfold OpW
  rw [if_pos (hst.wanted hw)]
  obtain ⟨I, m, hws, hsl, hk', hE⟩ := hst
  have hut := hT.und ht
  rw [hit] at hut
  obtain ⟨v, hrun, hv⟩ := one_call (P := P) hsl hc
  have hv := hv.int_inv
  subst hv
  obtain ⟨cs, h1, h2, h3⟩ := Lib.run_makeNoZero (P := P) w ps t e hut n (by omega)
  have h3 := h3 (by unfold maxLen; omega)
  have hrun2 : (execOp a.eval o).run P w = .ok (.value (.slice (some ⟨w.heap.size, 0, none⟩) n cs.size)) (w.drew.drew.alloc (.cells cs e)) := by
    rw [hrun, run_callFunc_extern hf hname hb hn he, h1]
    rfl
  have hbl : Below w.heap.size w (w.drew.drew.alloc (.cells cs e)) := (Below.refl _ _).drew.drew.alloc (Nat.le_refl _) _
  obtain ⟨g1, g2⟩ := hws.push hbl (some w.heap.size) (fun b e => by injection e with e; subst e; simp) (.arr e 1 (List.replicate n .top)) (fun m' hf hm => .inr ⟨w.heap.size, cs.size, cs, rfl, heap_alloc_new w.drew.drew _, by simp; omega, h3, by simp,
    fun y hy => by rw [List.eq_of_mem_replicate hy]; rfl, fun p y hp j v hv => by
      rw [List.getElem?_replicate] at hp
      split at hp
      · rename_i hpn
        obtain rfl := Option.some.inj hp
        have hj : j = 0 := by
          have := (List.getElem?_eq_some_iff.1 hv).1
          simp [AV.cells] at this; omega
        subst hj
        have : v = .top := by simpa [AV.cells] using hv.symm
        subst this
        exact ⟨cs[p]'(by omega), by simp, .top _⟩
      · cases hp⟩)
  unfold wpA
  rw [hrun2]
  refine hK _ _ _ hR (St.value hsl hk' hE g1 g2 (by simp) (dstOk_spec hd) ?_) (fun _ => Held.of_below hbl)
  have := VR.sl (w := w.drew.drew.alloc (.cells cs e)) (I := I) (m := upd m S.hp.length (some w.heap.size)) (n := S.hp.length + 1) S.hp.length 1 0 n cs.size w.heap.size e (by omega) (upd_same _ _ _)
    (by have := heap_alloc_new w.drew.drew (.cells cs e); simp only [World.size_drew] at this; simp only [World.shape?, this, Nat.zero_add, Nat.mul_one]) h2 (by omega)
  simpa using this
end
end Go.Abs
