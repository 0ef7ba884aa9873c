/- Part Ke of the proof: an abstract machine over the model, and what the functions of the program hand back in its terms. No condition. -/
import Derived.Test.YtajieghdkkgegaaGreatDoorKd
import Derived.Lib.ItoaLen
import Derived.Lib.ItoaMem
import Derived.Lib.IndexBytes
import Derived.Test.YtajieghdkkgegaaGreatDoorKb
import Derived.Test.YtajieghdkkgegaaGreatDoorKc
set_option linter.all false
set_option maxRecDepth 100000
namespace Go.Abs
open Go Go.Proofs
set_option linter.unusedSimpArgs false
attribute [local irreducible] checkR
def rDigR (c : UInt8) : Int := if (decide ((48 : Int) ≤ c.toNat) && decide ((c.toNat : Int) ≤ 57)) = true then (c.toNat : Int) - 48 else if (decide ((97 : Int) ≤ c.toNat) && decide ((c.toNat : Int) ≤ 102)) = true then (c.toNat : Int) - 87 else -1
def digS : List UInt8 := [48, 49, 50, 51, 52, 53, 54, 55, 56, 57]
end Go.Abs
set_option maxRecDepth 100000
namespace Go.Abs
open Go Go.Proofs
set_option linter.unusedSimpArgs false
attribute [local irreducible] checkR Lib.itoa
attribute [local irreducible] quoteR
def showR (v : Val) : List UInt8 := if (v.kind == 0) = true then Lib.itoa v.num else if (v.kind == 2) = true then quoteR v.text else if (v.num == 1) = true then [116, 114, 117, 101] else [102, 97, 108, 115, 101]
end Go.Abs
set_option maxRecDepth 100000
namespace Go.Abs
open Go Go.Proofs
set_option linter.unusedSimpArgs false
/-! The reference's reading of an integer. -/
def satS (n : Int) (c : UInt8) : Int := if 1099511627777 < dstep n c then 1099511627777 else dstep n c
def satV (s : List UInt8) : Int := s.foldl satS 0
def rNumB (t : List UInt8) (neg : Bool) : Bool := match t with
  | [] => false
  | c :: r => !(((c.toNat : Int) == 48) && (decide (0 < r.length) || neg)) && (c :: r).all isD
def rNumV (t : List UInt8) (neg : Bool) : Int := if neg = true then -satV t else satV t
def isNeg : List UInt8 → Bool
  | [] => false
  | c :: _ => (c.toNat : Int) == 45
def rNumR (s : List UInt8) : Int × Bool := if rNumB (if isNeg s = true then s.drop 1 else s) (isNeg s) = true then (rNumV (if isNeg s = true then s.drop 1 else s) (isNeg s), true) else (0, false)
end Go.Abs
set_option maxRecDepth 100000
namespace Go.Abs
open Go Go.Proofs
set_option linter.unusedSimpArgs false
/-! The reference's reading of a string. -/
def unqG : Nat → List UInt8 → List UInt8 → Option (List UInt8 × List UInt8)
  | 0, _, _ => none
  | _ + 1, [], _ => none
  | n + 1, c :: r, out => if ((c.toNat : Int) == 34) = true then some (out, r) else if ((c.toNat : Int) == 92) = true then (match escR r with
      | none => none
      | some (b, r') => unqG n r' (out ++ [b])) else if printB c = true then unqG n r (out ++ [c]) else none
def gF (x : Option (List UInt8 × List UInt8)) : List UInt8 × Bool := match x with
  | none => ([], false)
  | some (o, r) => (o, r == [])
def unqN (len : Nat) (x : Option (List UInt8 × List UInt8)) : List UInt8 × Int := match x with
  | none => ([], 0)
  | some (o, r) => (o, (len : Int) - r.length)
attribute [local irreducible] hexI hexV printB
end Go.Abs
set_option maxRecDepth 100000
namespace Go.Abs
open Go Go.Proofs
set_option linter.unusedSimpArgs false
def rParseT : List UInt8 → Val × Int
  | [] => (zeroV, 4)
  | c :: r => if ((c.toNat : Int) == 34) = true then (if ((unqN (r.length + 1) (unqG r.length r [])).2 != ((r.length : Int) + 1)) = true then (zeroV, 4) else rStringR (unqN (r.length + 1) (unqG r.length r [])).1)
      else if (!(rNumR (c :: r)).2) = true then (zeroV, 4) else rIntR (rNumR (c :: r)).1
def rParseR (s : List UInt8) : Val × Int :=
  if decide ((65536 : Int) < s.length) = true then (zeroV, 13)
  else if (s == sTrue || s == sFalse) = true then (boolV (s == sTrue), 0)
  else rParseT s
end Go.Abs
set_option maxRecDepth 100000
namespace Go.Abs
open Go Go.Proofs
set_option linter.unusedSimpArgs false
attribute [local irreducible] unqG unqN rNumR rStringR rIntR boolV
attribute [local irreducible] parseR formatR
end Go.Abs
set_option maxRecDepth 100000
namespace Go.Abs
open Go Go.Proofs
set_option linter.unusedSimpArgs false
theorem fmt_len (v : Val) (h : checkR v = 0) : (formatR v).1.length ≤ 400 := by
  rw [formatR, ite_f (by rw [h]; rfl), fmtText]
  rcases checkR_zero h with ⟨hk, ht, h1, h2⟩ | ⟨hk, ht, hn⟩ | ⟨hk, hn, hl⟩
  · rw [ite_t (by rw [hk]; rfl)]
    rcases itoa_cases v.num with ⟨u, e, e'⟩ | ⟨u, h0, e, e'⟩
    · have := decDigits_len u (by omega); simp only [e']; omega
    · have := decDigits_len u (by omega); simp only [e', List.length_cons]; omega
  · rw [ite_f (by rw [hk]; rfl), ite_t (by rw [hk]; rfl)]
    cases (v.num == 1) <;> decide
  · rw [ite_f (by rw [hk]; rfl), ite_f (by rw [hk]; rfl)]
    have := quoteTo_len v.text
    simp only [quoteR, List.length_append, List.length_cons, List.length_nil]
    omega
attribute [local irreducible] hexText formatR parseR hashR compR boolV checkR checkAllR checkedV npB hexq
def escTo (s : List UInt8) : List UInt8 := 34 :: s.flatMap hexq
end Go.Abs
set_option maxRecDepth 100000
namespace Go.Abs
open Go Go.Proofs
set_option linter.unusedSimpArgs false
/-- The words behind the first of an event's text. -/
def tailR (e : Ev) : List (List UInt8) := (Lib.itoa e.source ++ ([46] ++ Lib.itoa e.seq)) :: (64 :: Lib.itoa e.time) :: e.values.map (fun v => (formatR v).1)
theorem formatR_ok {v : Val} (h : checkR v = 0) : formatR v = (fmtText v, 0) := by rw [formatR, if_neg (by simpa using h)]
theorem fmt_len' {v : Val} (h : checkR v = 0) : (formatR v).1.length ≤ 1000 ∧ (formatR v).2 = 0 := by
  have := fmt_len v h
  exact ⟨by omega, by rw [formatR_ok h]⟩
attribute [local irreducible] ckEv numsR formatR Lib.itoa Lib.join checkR showR fmtText
theorem pc_eFormat' (l : List Sch) (e : Ev) : PC Tryz.prog 11 [.list (l.map encSch), encE e] (fun r => r = .tup [.str (evFmtR l e).1, .i (evFmtR l e).2]) :=
  pc_eFormat l e fun _ h => fmt_len' h
end Go.Abs
set_option maxRecDepth 100000
namespace Go.Abs
open Go Go.Proofs
set_option linter.unusedSimpArgs false
def tw (p : UInt8 → Bool) (s : List UInt8) : Nat := (s.takeWhile p).length
attribute [local irreducible] tw
def sp (c : UInt8) : Bool := c == 32
attribute [local irreducible] qR
attribute [local irreducible] lenR
end Go.Abs
set_option maxRecDepth 100000
namespace Go.Abs
open Go Go.Proofs
set_option linter.unusedSimpArgs false
def rNumeR (s : List UInt8) : Int := if (numeR s).2 = true then (numeR s).1 else -1
attribute [local irreducible] nval isD
/-- What a word with two numerals says. -/
def idR (s : List UInt8) : Int × Int × Int :=
  if (Lib.cut s [46]).2.2 = false ∨ (numeR (Lib.cut s [46]).1).2 = false ∨ (numeR (Lib.cut s [46]).2.1).2 = false then (0, 0, 4)
  else if 8 ≤ (numeR (Lib.cut s [46]).1).1 then (0, 0, 32) else if 1099511627776 < (numeR (Lib.cut s [46]).2.1).1 then (0, 0, 2)
  else ((numeR (Lib.cut s [46]).1).1, (numeR (Lib.cut s [46]).2.1).1, 0)
theorem cut_tw (s : List UInt8) : Lib.cut s [46] = if tw (fun x => x != 46) s = s.length then (s, [], false) else (s.take (tw (fun x => x != 46) s), s.drop (tw (fun x => x != 46) s + 1), true) := by
  rw [Lib.cut, Lib.index_one]
  rcases ixb_cases s 46 with ⟨h1, h2⟩ | ⟨i, h1, h2⟩
  · rw [h1, if_neg (by decide), if_pos (by unfold tw; exact h2)]
  · have h3 := Lib.indexByte_some h1
    have hil : i < s.length := (List.getElem?_eq_some_iff.1 h3.1).1
    have h4 : tw (fun x => x != 46) s = i := by unfold tw; exact h2
    rw [h1, if_pos (by omega), h4, if_neg (by omega)]
    simp
attribute [local irreducible] numeR Lib.cut
/-- What a word with a time says. -/
def mtR (s : List UInt8) : Int × Int := if (cutPre s [64]).2 = false ∨ (numeR (cutPre s [64]).1).2 = false then (0, 4) else if 1099511627776 < (numeR (cutPre s [64]).1).1 then (0, 2) else ((numeR (cutPre s [64]).1).1, 0)
/-- What a word says for a field of a kind. -/
def rvalR (s : List UInt8) (k : Int) : Val × Int := if (parseR s).2 ≠ 0 then (zeroV, (parseR s).2) else if (parseR s).1.kind ≠ k then (zeroV, 9) else ((parseR s).1, 0)
attribute [local irreducible] parseR
end Go.Abs
set_option maxRecDepth 100000
namespace Go.Abs
open Go Go.Proofs
set_option linter.unusedSimpArgs false
/-- The rest is none, or begins with a space. -/
def brk (r : List UInt8) : Prop := r = [] ∨ ∃ t, r = 32 :: t
/-- A word as the texts of events have it. -/
def wok (w : List UInt8) : Prop := ∃ c t, w = c :: t ∧ c ≠ 32 ∧ ∀ r, brk r → lenR (c :: (t ++ r)) = (c :: t).length
def lay : List (Nat × List UInt8) → Nat → List UInt8
  | [], m => List.replicate m 32
  | (n, w) :: r, m => List.replicate n 32 ++ (w ++ lay r m)
theorem brk_lay : ∀ (l : List (Nat × List UInt8)) (m : Nat), (∀ p ∈ l, 1 ≤ p.1) → brk (lay l m)
  | [], 0, _ => .inl rfl
  | [], m + 1, _ => .inr ⟨_, List.replicate_succ⟩
  | (n, w) :: r, m, h => by
    have := h (n, w) (by simp)
    obtain ⟨k, rfl⟩ : ∃ k, n = k + 1 := ⟨n - 1, by simp at this; omega⟩
    exact .inr ⟨List.replicate k 32 ++ (w ++ lay r m), by simp [lay, List.replicate_succ]⟩
theorem words_sp : ∀ (n a : Nat) (t : List UInt8), wordsE a (List.replicate n 32 ++ t) = wordsE (a + n) t
  | 0, a, t => by simp
  | n + 1, a, t => by rw [List.replicate_succ, List.cons_append, wordsE_sp _ _ _ rfl, words_sp n (a + 1) t]; congr 1; omega
theorem words_lay : ∀ (l : List (Nat × List UInt8)) (m a : Nat), (∀ p ∈ l, wok p.2) → (∀ p ∈ l.tail, 1 ≤ p.1) → (wordsE a (lay l m)).map Prod.snd = l.map Prod.snd
  | [], m, a, _, _ => by
    have := words_sp m a []
    simp at this
    simp [lay, this, wordsE_nil]
  | (n, w) :: r, m, a, h1, h2 => by
    obtain ⟨c, t, hw, hc, hl⟩ := h1 (n, w) (by simp)
    simp only at hw
    subst hw
    have hb := brk_lay r m (fun p hp => h2 p (by simpa using hp))
    have hlr := hl _ hb
    rw [lay, words_sp, List.cons_append, wordsE_w _ _ _ hc, hlr]
    simp only [List.map_cons]
    rw [← List.cons_append, List.take_left' rfl, List.drop_left' rfl, words_lay r m _ (fun p hp => h1 p (by simp [hp])) (fun p hp => h2 p (by simp; exact List.mem_of_mem_tail hp))]
theorem wok_plain (w : List UInt8) (h0 : w ≠ []) (h : w.all (fun c => c != 32) = true) (h34 : w.head? ≠ some 34) : wok w := by
  obtain ⟨c, t, rfl⟩ := List.exists_cons_of_ne_nil h0
  have hc : c ≠ 32 := by have := List.all_eq_true.1 h c (by simp); simpa using this
  refine ⟨c, t, rfl, hc, fun r hr => ?_⟩
  rw [lenR, if_neg (by simpa using h34)]
  have : (c :: (t ++ r)).takeWhile (fun x => x != 32) = c :: t := by
    rw [← List.cons_append, List.takeWhile_append_of_pos (fun a ha => List.all_eq_true.1 h a ha)]
    rcases hr with rfl | ⟨u, rfl⟩ <;> simp
  rw [this]
theorem hexD_ne : ∀ a : Fin 16, hexD a.val ≠ 34 ∧ hexD a.val ≠ 92 := by decide +kernel
theorem qR_escB (c : UInt8) (d : UInt8) (r : List UInt8) : qR (escB c ++ d :: r) = (escB c).length + qR (d :: r) := by
  unfold escB
  by_cases h1 : ((c.toNat : Int) == 34 || (c.toNat : Int) == 92) = true
  · rw [if_pos h1]; exact qR_esc 92 c _ rfl
  rw [if_neg h1]
  by_cases h2 : ((c.toNat : Int) == 10) = true
  · rw [if_pos h2]; exact qR_esc 92 110 _ rfl
  rw [if_neg h2]
  by_cases h3 : (decide ((c.toNat : Int) < 32) || decide ((126 : Int) < c.toNat)) = true
  · rw [if_pos h3]
    have hlt : c.toNat < 256 := c.toNat_lt
    have e1 := hexD_ne ⟨c.toNat / 16, by omega⟩
    have e2 := hexD_ne ⟨c.toNat % 16, by omega⟩
    simp only at e1 e2
    unfold hexq
    simp only [List.cons_append, List.nil_append]
    rw [qR_esc 92 120 _ rfl, qR_step _ _ e1.1 e1.2, qR_step _ _ e2.1 e2.2]
    simp; omega
  rw [if_neg h3]
  have hc : c ≠ 34 ∧ c ≠ 92 := by
    refine ⟨fun e => h1 (by rw [e]; rfl), fun e => h1 (by rw [e]; rfl)⟩
  simp only [List.cons_append, List.nil_append]
  rw [qR_step _ _ hc.1 hc.2]
  simp
theorem qR_flat : ∀ (t r : List UInt8), qR (t.flatMap escB ++ 34 :: r) = (t.flatMap escB).length + 1
  | [], r => by simp [qR_hit]
  | c :: t, r => by
    have ih := qR_flat t r
    rw [List.flatMap_cons, List.append_assoc]
    obtain ⟨d, u, hd⟩ : ∃ d u, t.flatMap escB ++ 34 :: r = d :: u := List.exists_cons_of_ne_nil (by simp)
    rw [hd] at ih ⊢
    rw [qR_escB, ih, List.length_append]
    omega
theorem wok_quote (t : List UInt8) : wok (quoteR t) := by
  refine ⟨34, t.flatMap escB ++ [34], rfl, by decide, fun r _ => ?_⟩
  rw [lenR, if_pos rfl, List.append_assoc, List.cons_append, List.nil_append, qR_flat]
  simp; omega
theorem isD_ne2 {c : UInt8} (h : isD c = true) : c ≠ 32 ∧ c ≠ 34 ∧ c ≠ 46 := by
  have := (isD_iff c).1 h
  refine ⟨fun e => ?_, fun e => ?_, fun e => ?_⟩ <;> (subst e; simp at this)
theorem digsW (u : Nat) : Lib.decDigits u ≠ [] ∧ (Lib.decDigits u).all (fun c => c != 32) = true ∧ (Lib.decDigits u).head? ≠ some 34 ∧ (Lib.decDigits u).all (fun c => c != 46) = true := by
  have h := decDigits_all u
  have h0 : Lib.decDigits u ≠ [] := by
    intro e
    rcases Nat.eq_zero_or_pos u with rfl | hu
    · rw [Lib.decDigits_one (by omega)] at e; cases e
    · obtain ⟨c, r, e2, _⟩ := decDigits_head u hu
      rw [e2] at e; cases e
  rw [List.all_eq_true] at h
  refine ⟨h0, List.all_eq_true.2 fun c hc => by have := isD_ne2 (h c hc); simpa using this.1, fun e => ?_, List.all_eq_true.2 fun c hc => by have := isD_ne2 (h c hc); simpa using this.2.2⟩
  exact (isD_ne2 (h 34 (List.mem_of_head? e))).2.1 rfl
theorem itoa_wok (n : Int) : wok (Lib.itoa n) := by
  rcases itoa_cases n with ⟨u, _, h⟩ | ⟨u, _, _, h⟩
  · rw [h]; obtain ⟨h1, h2, h3, _⟩ := digsW u; exact wok_plain _ h1 h2 h3
  · rw [h]; obtain ⟨h1, h2, h3, _⟩ := digsW u; exact wok_plain _ (by simp) (by rw [List.all_cons, h2]; rfl) (by simp)
theorem fmt_wok (v : Val) : wok (fmtText v) := by
  unfold fmtText
  split
  · exact itoa_wok _
  split
  · cases v.num == 1 <;> exact wok_plain _ (by simp [boolS]) (by rfl) (by simp [boolS])
  · exact wok_quote _
theorem okC_ne {c : UInt8} (h : okC c = true) : c ≠ 32 ∧ c ≠ 34 := by
  refine ⟨fun e => ?_, fun e => ?_⟩ <;> (subst e; revert h; decide)
theorem name_wok {s : List UInt8} (h : nameR s = true) : wok s := by
  cases s with
  | nil => cases h
  | cons c r =>
    rw [nameR, Bool.and_eq_true] at h
    have h2 := List.all_eq_true.1 h.2
    refine wok_plain _ (by simp) (List.all_eq_true.2 fun c hc => by have := okC_ne (h2 c hc); simpa using this.1) ?_
    simp only [List.head?_cons, ne_eq, Option.some.injEq]
    exact (okC_ne (h2 c (by simp))).2
theorem itoa_nat (n : Int) (h : 0 ≤ n) : ∃ u : Nat, n = u ∧ Lib.itoa n = Lib.decDigits u := by
  obtain ⟨u, rfl⟩ : ∃ u : Nat, n = u := ⟨n.toNat, by omega⟩
  exact ⟨u, rfl, Lib.itoa_nonneg u⟩
theorem ident_wok (a b : Int) (ha : 0 ≤ a) (hb : 0 ≤ b) : wok (Lib.itoa a ++ ([46] ++ Lib.itoa b)) := by
  obtain ⟨u, rfl, e1⟩ := itoa_nat a ha
  obtain ⟨v, rfl, e2⟩ := itoa_nat b hb
  rw [e1, e2]
  obtain ⟨h1, h2, h3, _⟩ := digsW u
  obtain ⟨k1, k2, k3, _⟩ := digsW v
  refine wok_plain _ (by simp [h1]) (by rw [List.all_append, h2, List.all_append, k2]; rfl) ?_
  rw [List.head?_append]
  cases hh : (Lib.decDigits u).head? with
  | none => rw [List.head?_eq_none_iff] at hh; exact absurd hh h1
  | some c => rw [hh] at h3; simpa using h3
theorem mom_wok (a : Int) (ha : 0 ≤ a) : wok (64 :: Lib.itoa a) := by
  obtain ⟨u, rfl, e1⟩ := itoa_nat a ha
  rw [e1]
  obtain ⟨h1, h2, h3, _⟩ := digsW u
  exact wok_plain _ (by simp) (by rw [List.all_cons, h2]; rfl) (by simp)
theorem nval_dval (s : List UInt8) (hd : s.all isD = true) : ∀ j, j ≤ s.length → 0 ≤ dval (s.take j) ∧ nval (s.take j) = min (dval (s.take j)) 1099511627777
  | 0, _ => by simp [nval, dval]; rfl
  | j + 1, hj => by
    have ih := nval_dval s hd j (by omega)
    have hc := (isD_iff s[j]).1 (List.all_eq_true.1 hd _ (List.getElem_mem hj))
    rw [List.take_succ_eq_append_getElem hj, nval_snoc, nstep, dval_snoc, dstep, ih.2]
    omega
theorem nume_digs (u : Nat) (h : u ≤ 1099511627776) : numeR (Lib.decDigits u) = ((u : Int), true) := by
  have hd := decDigits_all u
  have hn := (nval_dval _ hd _ (Nat.le_refl _)).2
  rw [List.take_length, dval_decDigits] at hn
  rw [numeR, if_neg (fun h => by rcases h with h | h; exact (digsW u).1 h; rw [hd] at h; cases h), hn]
  rw [Int.min_eq_left (by omega)]
theorem nume_itoa (n : Int) (h0 : 0 ≤ n) (h : n ≤ 1099511627776) : numeR (Lib.itoa n) = (n, true) := by
  obtain ⟨u, rfl, e⟩ := itoa_nat n h0
  rw [e, nume_digs u (by omega)]
theorem cut_id (a : Int) (ha : 0 ≤ a) (t : List UInt8) : Lib.cut (Lib.itoa a ++ ([46] ++ t)) [46] = (Lib.itoa a, t, true) := by
  obtain ⟨u, rfl, e⟩ := itoa_nat a ha
  rw [e]
  have h4 := (digsW u).2.2.2
  have htw : tw (fun x => x != 46) (Lib.decDigits u ++ ([46] ++ t)) = (Lib.decDigits u).length := by
    unfold tw
    rw [List.takeWhile_append_of_pos (fun a ha => List.all_eq_true.1 h4 a ha)]
    simp
  rw [cut_tw, htw, if_neg (by simp), List.take_left' rfl]
  congr 2
  rw [← List.append_assoc, List.drop_left' (by simp)]
theorem where_self (l : List Sch) (h : schsR [] l = 0) (k : Nat) (hk : k < l.length) : whereR l l[k].name = some k := by
  have key : ∀ (l : List Sch) (seen : List (List UInt8)), schsR seen l = 0 → ∀ k (hk : k < l.length), l[k].name ∉ seen ∧ whereR l l[k].name = some k := by
    intro l
    induction l with
    | nil => intro seen _ k hk; simp at hk
    | cons s r ih =>
      intro seen h k hk
      rw [schsR] at h
      by_cases h1 : ckSch s ≠ 0
      · rw [if_pos h1] at h; exact absurd h h1
      rw [if_neg h1] at h
      by_cases h2 : s.name ∈ seen
      · rw [if_pos h2] at h; cases h
      rw [if_neg h2] at h
      cases k with
      | zero => exact ⟨h2, by simp [whereR]⟩
      | succ k =>
        obtain ⟨h3, h4⟩ := ih _ h k (by simpa using hk)
        simp only [List.getElem_cons_succ]
        refine ⟨fun hm => h3 (by simp [hm]), ?_⟩
        rw [whereR, if_neg (fun e => h3 (by rw [← e]; simp)), h4]
        rfl
  exact (key l [] h k hk).2
end Go.Abs
set_option maxRecDepth 100000
namespace Go.Abs
open Go Go.Proofs
set_option linter.unusedSimpArgs false
theorem goW_snd (l : List Sch) : ∀ (ws ws' : List (Nat × List UInt8)) (i : Nat) (e : Ev), ws.map Prod.snd = ws'.map Prod.snd → (goW l ws i e).1 = (goW l ws' i e).1 ∧ (goW l ws i e).2.1 = (goW l ws' i e).2.1 ∧ (goW l ws i e).2.2.2 = (goW l ws' i e).2.2.2
  | [], [], _, _, _ => ⟨rfl, rfl, rfl⟩
  | [], _ :: _, _, _, h => by simp at h
  | _ :: _, [], _, _, h => by simp at h
  | (a, w) :: r, (b, u) :: r', i, e, h => by
    simp only [List.map_cons, List.cons.injEq] at h
    obtain ⟨h1, h2⟩ := h
    subst h1
    rw [goW, goW]
    split
    · exact ⟨rfl, rfl, rfl⟩
    · exact goW_snd l r r' (i+1) _ h2
theorem goW_vals (l : List Sch) : ∀ (vs : List Val) (e : Ev), valsR vs ((fldsOf l e).drop e.values.length) = 0 → e.values.length + vs.length = (fldsOf l e).length → goW l (vs.map fun v => (0, (formatR v).1)) (3 + e.values.length) e = ({ e with values := e.values ++ vs }, 3 + e.values.length + vs.length, 0, 0)
  | [], e, _, _ => by simp [goW]
  | v :: vs, e, h, hl => by
    have hlt : e.values.length < (fldsOf l e).length := by simp at hl; omega
    rw [drop_get hlt, valsR] at h
    by_cases h1 : checkR v ≠ 0
    · rw [if_pos h1] at h; exact absurd h h1
    rw [if_neg h1] at h
    by_cases h2 : v.kind ≠ (fldsOf l e)[e.values.length].kind
    · rw [if_pos h2] at h; cases h
    rw [if_neg h2] at h
    have hf := formatR_ok (show checkR v = 0 by simpa using h1)
    obtain ⟨_, hp⟩ := parse_format v (by rw [hf])
    have hw : wordR l e (3 + e.values.length) (formatR v).1 = ({ e with values := e.values ++ [v] }, 0) := by
      unfold wordR
      rw [if_neg (by omega), if_neg (by omega), if_neg (by omega), if_neg (by omega), hp]
      simp only
      rw [if_neg (by decide), if_neg]
      rw [Nat.add_sub_cancel_left, List.getD_eq_getElem?_getD, List.getElem?_eq_getElem hlt]; simpa using h2
    rw [List.map_cons, goW, hw, if_neg (fun h => h rfl)]
    have := goW_vals l vs { e with values := e.values ++ [v] } (by simpa [fldsOf] using h) (by simp [fldsOf] at hl ⊢; omega)
    simp only [List.length_append, List.length_cons, List.length_nil, List.append_assoc, List.cons_append, List.nil_append] at this ⊢
    rw [show 3 + e.values.length + 1 = 3 + (e.values.length + (0 + 1)) by omega, this]
    simp only [Prod.mk.injEq, true_and, and_true]
    omega
theorem parse_words (l : List Sch) (e : Ev) (h : ckEv l e = 0) (s : List UInt8) (hl : s.length ≤ 65536) (hw : (wordsE 0 s).map Prod.snd = partsR l e) : evParseR l s = (e, 0, 0) := by
  obtain ⟨h0, ⟨k, hk, hkl, hfs⟩, hlv, hl8, hnum, hvals⟩ := ev_ok h
  have hn := nums_ok hnum
  have hgd : (l.getD e.type.toNat default).name = l[k].name := by rw [hk, List.getD_eq_getElem?_getD]; simp [hkl]
  have hsr : schsR [] l = 0 := by
    unfold ckSchs at h0
    by_cases h16 : 16 < l.length
    · rw [if_pos h16] at h0; cases h0
    · rwa [if_neg h16] at h0
  have hwh := where_self l hsr k hkl
  obtain ⟨g1, g2, g3⟩ := goW_snd l (wordsE 0 s) ((partsR l e).map fun w => (0, w)) 0 zeroE (by rw [hw]; simp [Function.comp_def])
  have hgo : goW l ((partsR l e).map fun w => (0, w)) 0 zeroE = (e, 3 + e.values.length, 0, 0) := by
    obtain ⟨es, eq, et, em, vs⟩ := e
    simp only at hk hn hgd hlv hvals hnum ⊢
    subst hk
    unfold partsR
    simp only [hgd, List.cons_append, List.nil_append, List.map_cons, List.map_map]
    have w0 : wordR l zeroE 0 l[k].name = (⟨0, 0, k, 0, []⟩, 0) := by
      have hf : findR l l[k].name = ((k : Int), 0) := by
        unfold findR
        rw [if_neg (by simpa using h0), hwh]
      unfold wordR
      rw [if_pos rfl, hf, if_neg (fun h => h rfl)]
      rfl
    have w1 : wordR l ⟨0, 0, k, 0, []⟩ 1 (Lib.itoa es ++ ([46] ++ Lib.itoa eq)) = (⟨es, eq, k, 0, []⟩, 0) := by
      unfold wordR identR
      rw [if_neg (by decide), if_pos rfl, cut_id es hn.1, nume_itoa es hn.1 (by omega), nume_itoa eq hn.2.2.1 hn.2.2.2.1, if_neg (by simp)]
      have : numsR ⟨es, eq, k, 0, []⟩ = 0 := by
        unfold numsR badS badN
        simp
        omega
      rw [this]
    have w2 : wordR l ⟨es, eq, k, 0, []⟩ 2 (64 :: Lib.itoa em) = (⟨es, eq, k, em, []⟩, 0) := by
      unfold wordR momR
      have hc : cutPre (64 :: Lib.itoa em) [64] = (Lib.itoa em, true) := by unfold cutPre; rw [if_pos (by simp [hasPre, List.isPrefixOf])]; rfl
      rw [if_neg (by decide), if_neg (by decide), if_pos rfl, hc, nume_itoa em hn.2.2.2.2.1 hn.2.2.2.2.2, if_neg (by simp)]
      have : numsR ⟨es, eq, k, em, []⟩ = 0 := by
        unfold numsR badS badN
        simp
        omega
      rw [this]
    simp only [List.cons_append, List.nil_append] at w1
    rw [goW, w0, if_neg (fun h => h rfl), goW, w1, if_neg (fun h => h rfl), goW, w2, if_neg (fun h => h rfl)]
    have hv := goW_vals l vs ⟨es, eq, k, em, []⟩ (by simpa [fldsOf] using hvals) (by simpa [fldsOf] using hlv)
    simpa [Function.comp_def] using hv
  rw [hgo] at g1 g2 g3
  simp only at g1 g2 g3
  unfold evParseR
  rw [if_neg (by simpa using h0), if_neg (by omega), g1, g2, g3, if_neg (by decide), if_neg (by omega)]
/-- What is so of an event while it is read. -/
structure WInv (l : List Sch) (i : Nat) (e : Ev) : Prop where
  ty : 0 < i → 0 ≤ e.type ∧ e.type < l.length
  id : i ≤ 1 → e.source = 0 ∧ e.seq = 0
  tm : i ≤ 2 → e.time = 0
  nm : numsR e = 0
  vl : e.values.length = i - 3
  fl : 3 < i → i - 3 ≤ (fldsOf l e).length
  vs : valsR e.values ((fldsOf l e).take (i - 3)) = 0
end Go.Abs
set_option maxRecDepth 100000
namespace Go.Abs
open Go Go.Proofs
set_option linter.unusedSimpArgs false
attribute [local irreducible] tw lenR sp
def fromA (ws : List (Nat × List UInt8)) : List AV := ws.map fun p => .i p.1
def toA (ws : List (Nat × List UInt8)) : List AV := ws.map fun p => .i (p.1 + p.2.length : Nat)
end Go.Abs
set_option maxRecDepth 100000
namespace Go.Abs
open Go Go.Proofs
set_option linter.unusedSimpArgs false
attribute [local irreducible] ckSchs wordR identR momR idR mtR rvalR whereR parseR numsR
end Go.Abs
namespace Go.Abs
open Go Go.RowKit

/-- In which orders a drawn region is walked, up to four operations that may come. -/
inductive PlanM where
  | done
  | val (i : Nat) (p : PlanM)
  | one (i : Nat) (p : PlanM)
  | two (i : Nat) (p : PlanM) (j : Nat) (q : PlanM)
  | three (i : Nat) (p : PlanM) (j : Nat) (q : PlanM) (m : Nat) (r : PlanM)

def PlanM.size : PlanM → Nat
  | .done => 0
  | .val _ p => p.size + 1
  | .one _ p => p.size + 1
  | .two _ p _ _ => p.size + 1
  | .three _ p _ _ _ _ => p.size + 1

def planM (ops : Array Oper) (cl : List (List Nat)) (Wr : List Nat) : PlanM → Array Bool → Bool
  | .done, l => (Region.ready .any ops l).isEmpty
  | .val i p, l => (match ops[i]? with
      | none => false
      | some o => isVal o.op && freeOk ops cl Wr l i && (Region.ready .any ops l).contains i) && planM ops cl Wr p (l.setIfInBounds i true)
  | .one i p, l => (ops[i]?).isSome && Region.ready .any ops l == [i] && planM ops cl Wr p (l.setIfInBounds i true)
  | .two i p j q, l => (ops[i]?).isSome && (ops[j]?).isSome && Region.ready .any ops l == [i, j] && p.size == q.size && planM ops cl Wr p (l.setIfInBounds i true) && planM ops cl Wr q (l.setIfInBounds j true)
  | .three i p j q m r, l => (ops[i]?).isSome && (ops[j]?).isSome && (ops[m]?).isSome && Region.ready .any ops l == [i, j, m] && p.size == q.size && p.size == r.size && planM ops cl Wr p (l.setIfInBounds i true) && planM ops cl Wr q (l.setIfInBounds j true) && planM ops cl Wr r (l.setIfInBounds m true)

def ASeqM (P : Program) [Env P] (T : TT) (nt k : Nat) (ops : Array Oper) (W : Nat → Bool) (Q : AS → Prop) : PlanM → AS → Prop
  | .done, S => Q S
  | .val i p, S => stepT P T nt k ops W i (ASeqM P T nt k ops W Q p) S
  | .one i p, S => stepT1 P T nt k ops W i (ASeqM P T nt k ops W Q p) S
  | .two i p j q, S => stepT1 P T nt k ops W i (ASeqM P T nt k ops W Q p) S ∧ stepT1 P T nt k ops W j (ASeqM P T nt k ops W Q q) S
  | .three i p j q m r, S => stepT1 P T nt k ops W i (ASeqM P T nt k ops W Q p) S ∧ stepT1 P T nt k ops W j (ASeqM P T nt k ops W Q q) S ∧ stepT1 P T nt k ops W m (ASeqM P T nt k ops W Q r) S

section
variable {P : Program} [Env P] {T : TT} {nt k : Nat} {S : AS} {ops : Array Oper} {o : Oper} {R : AS → Prop} {Wr : List Nat}

theorem ASeqM_any (hT : TOk P T) {C : Cx P} (hd : dstsOk nt ops.toList = true) (hns : Region.noSelect ops = true) : ∀ (p : PlanM) (listed : Array Bool) (S : AS) (a : Act) (w : World), closedL ops listed → planM ops (closTo ops.toList []) Wr p listed = true → ASeqM P T nt k ops Wr.contains R p S → St C nt k S a w →
    wpAnyR P ops Wr (PstN C nt k R) p.size listed a w
  | .done, listed, S, a, w, _, hp, h, hs => ⟨by simpa [planM] using hp, S, h, hs⟩
  | .val i p, listed, S, a, w, hcl, hp, h, hs => by
    unfold planM at hp
    unfold ASeqM stepT at h
    rw [Bool.and_eq_true] at hp
    obtain ⟨hp1, hp2⟩ := hp
    cases ho : ops[i]? with
    | none => rw [ho] at h; exact h.elim
    | some o =>
      rw [ho] at h hp1
      simp only at h hp1
      have hdo : dstOk nt o = true := List.all_eq_true.1 hd o (by simpa using Array.mem_of_getElem? ho)
      simp only [Bool.and_eq_true] at hp1
      obtain ⟨⟨hv, hf⟩, hr⟩ := hp1
      have hau : isAuto o.op = true := by cases hop : o.op <;> rw [hop] at hv <;> first | rfl | exact hv | (simp [isVal] at hv)
      rw [if_pos hau] at h
      have hrd : i ∈ Region.ready .any ops listed := by simpa using hr
      split at h
      · rename_i S' hS'
        obtain ⟨v, hy, hs'⟩ := hs.yields hT hdo hv hS'
        exact wpAnyR_first ho (Region.noSelect_spec hns) (fun c a w hq => hq) (fun x y => readsMem o.op = true → Held x y) (fun w _ => Held.refl w) (fun x y z h1 h2 hr => (h1 hr).trans (h2 hr)) p.size listed a w
          (fun j oj hj hne hun hno => free_all ho hf j oj hj hne hun hno) hcl hrd hy (ASeqM_any hT hd hns p _ S' _ w (hcl.set hrd) hp2 h.2 hs')
      · exact h.elim
  | .one i p, listed, S, a, w, hcl, hp, h, hs => by
    unfold planM at hp
    simp only [Bool.and_eq_true, beq_iff_eq] at hp
    obtain ⟨⟨_, hrd⟩, hp2⟩ := hp
    have hrm : i ∈ Region.ready .any ops listed := by rw [hrd]; simp
    refine ⟨fun h0 => (by rw [hrd] at h0; cases h0), fun j hj => ?_⟩
    rw [hrd] at hj
    obtain rfl : j = i := by simpa using hj
    exact stepT_op hT hd h hs fun S' a' w' hR hs' => ASeqM_any hT hd hns p _ S' a' w' (hcl.set hrm) hp2 hR hs'
  | .two i p j q, listed, S, a, w, hcl, hp, h, hs => by
    unfold planM at hp
    simp only [Bool.and_eq_true, beq_iff_eq] at hp
    obtain ⟨⟨⟨⟨_, hrd⟩, hsz⟩, hp2⟩, hp3⟩ := hp
    have hri : i ∈ Region.ready .any ops listed := by rw [hrd]; simp
    have hrj : j ∈ Region.ready .any ops listed := by rw [hrd]; simp
    refine ⟨fun h0 => (by rw [hrd] at h0; cases h0), fun m hm => ?_⟩
    rw [hrd] at hm
    rcases (by simpa using hm : m = i ∨ m = j) with rfl | rfl
    · exact stepT_op hT hd h.1 hs fun S' a' w' hR hs' => ASeqM_any hT hd hns p _ S' a' w' (hcl.set hri) hp2 hR hs'
    · refine stepT_op hT hd h.2 hs fun S' a' w' hR hs' => ?_
      have := ASeqM_any hT hd hns q _ S' a' w' (hcl.set hrj) hp3 hR hs'
      rw [← hsz] at this
      exact this
  | .three i p j q g r, listed, S, a, w, hcl, hp, h, hs => by
    unfold planM at hp
    simp only [Bool.and_eq_true, beq_iff_eq] at hp
    obtain ⟨⟨⟨⟨⟨⟨_, hrd⟩, hsz⟩, hsz2⟩, hp2⟩, hp3⟩, hp4⟩ := hp
    have hri : i ∈ Region.ready .any ops listed := by rw [hrd]; simp
    have hrj : j ∈ Region.ready .any ops listed := by rw [hrd]; simp
    have hrg : g ∈ Region.ready .any ops listed := by rw [hrd]; simp
    refine ⟨fun h0 => (by rw [hrd] at h0; cases h0), fun m hm => ?_⟩
    rw [hrd] at hm
    rcases (by simpa using hm : m = i ∨ m = j ∨ m = g) with rfl | rfl | rfl
    · exact stepT_op hT hd h.1 hs fun S' a' w' hR hs' => ASeqM_any hT hd hns p _ S' a' w' (hcl.set hri) hp2 hR hs'
    · refine stepT_op hT hd h.2.1 hs fun S' a' w' hR hs' => ?_
      have := ASeqM_any hT hd hns q _ S' a' w' (hcl.set hrj) hp3 hR hs'
      rw [← hsz] at this
      exact this
    · refine stepT_op hT hd h.2.2 hs fun S' a' w' hR hs' => ?_
      have := ASeqM_any hT hd hns r _ S' a' w' (hcl.set hrg) hp4 hR hs'
      rw [← hsz2] at this
      exact this

/-- A region that draws its order, by a plan with branches. -/
theorem AWP_drawM (hT : TOk P T) (hm : P.follows .mixedOrders = true) {Q : Exit → AS → Prop} {id : Nat} {l : List Oper} (Wr : List Nat) (p : PlanM) (hd : dstsOk nt l = true)
    (hp : (Region.noSelect l.toArray && p.size == l.length && planM l.toArray (closTo l []) Wr p (Array.replicate l.length false)) = true)
    (h : ASeqM P T nt k l.toArray Wr.contains (Q .normal) p S) : AWP P nt k (.region id l.toArray true) Q S := fun C a w hs => by
  simp only [Bool.and_eq_true, beq_iff_eq] at hp
  obtain ⟨⟨h1, h2⟩, h3⟩ := hp
  refine Pst_of_N (wpIn_region_any hm (wpAny_of_R (Wr := Wr) _ _ _ _ ?_))
  have hs' : St C nt k S a { w with drawn := w.drawn + 1 } := by
    obtain ⟨I, m, hw, hsl, hk, hE⟩ := hs
    have hb : Below w.heap.size w { w with drawn := w.drawn + 1 } := ⟨rfl, rfl, rfl, Nat.le_refl _, fun _ _ => rfl⟩
    obtain ⟨g1, g2⟩ := hw.step hb (fun _ h => h) (fun b hb' => ⟨(hw.iw b hb').1, .inl hb'⟩)
    exact ⟨I, m, g1, ⟨hsl.1, hsl.2.1, fun t x hx => by obtain ⟨v, hv, hr⟩ := hsl.2.2 t x hx; exact ⟨v, hv, hr.mono g2 (Nat.le_refl _)⟩⟩, hk, hE.trans hk g2⟩
  have := ASeqM_any hT (C := C) (nt := nt) (k := k) (R := Q .normal) (by simpa using hd) h1 p (Array.replicate l.length false) S a _ (fun j o ho hj => by
    have hlt := (Array.getElem?_eq_some_iff.1 ho).1
    simp at hlt
    simp [hlt] at hj) (by simpa using h3) h hs'
  rw [h2] at this
  simpa using this

theorem AStep.mono {wr : Bool} {R' : AS → Prop} (h : AStep P nt k wr ops o S R) (hr : ∀ S, R S → R' S) : AStep P nt k wr ops o S R' :=
  fun C a w K Q hs hK => h C a w K Q hs fun S' a' w' hR => hK S' a' w' (hr S' hR)
theorem stepT_mono {W : Nat → Bool} {i : Nat} {R' : AS → Prop} (hr : ∀ S, R S → R' S) (h : stepT P T nt k ops W i R S) : stepT P T nt k ops W i R' S := by
  unfold stepT at h ⊢
  split at h
  · exact h
  · split at h
    · rename_i hau
      rw [if_pos hau]
      split at h
      · exact ⟨h.1, hr _ h.2⟩
      · exact h
    · rename_i hau
      rw [if_neg hau]
      exact h.mono hr
theorem stepT1_mono {W : Nat → Bool} {i : Nat} {R' : AS → Prop} (hr : ∀ S, R S → R' S) (h : stepT1 P T nt k ops W i R S) : stepT1 P T nt k ops W i R' S := by
  unfold stepT1 at h ⊢
  split at h
  · exact h
  · split at h
    · rename_i hau
      rw [if_pos hau]
      split at h
      · exact ⟨h.1, hr _ h.2⟩
      · exact h.mono hr
    · rename_i hau
      rw [if_neg hau]
      exact h.mono hr
theorem ASeqM_and {W : Nat → Bool} {Q Q' : AS → Prop} (hq : ∀ S, Q S → Q' S) : ∀ (p : PlanM) (S : AS), ASeqM P T nt k ops W Q p S → ASeqM P T nt k ops W Q' p S
  | .done, S, h => hq S h
  | .val i p, S, h => stepT_mono (fun S => ASeqM_and hq p S) h
  | .one i p, S, h => stepT1_mono (fun S => ASeqM_and hq p S) h
  | .two i p j q, S, h => ⟨stepT1_mono (fun S => ASeqM_and hq p S) h.1, stepT1_mono (fun S => ASeqM_and hq q S) h.2⟩
  | .three i p j q m r, S, h => ⟨stepT1_mono (fun S => ASeqM_and hq p S) h.1, stepT1_mono (fun S => ASeqM_and hq q S) h.2.1, stepT1_mono (fun S => ASeqM_and hq r S) h.2.2⟩
/-- Nil slices inside a slot's data are empty lists. -/
theorem St.nrmSlot {C : Cx P} {a : Act} {w : World} {sl : List (Nat × AV)} {H : List AObj} (hs : St C nt k ⟨sl, H⟩ a w) (t : Nat) {x : AV} (ht : look sl t = some x) (hp : x.pure = true) : St C nt k ⟨put sl t x.nrm, H⟩ a w := by
  obtain ⟨I, m, hw, hsl, hk, hf⟩ := hs
  refine ⟨I, m, hw, ⟨hsl.1, hsl.2.1, fun s y hy => ?_⟩, hk, hf⟩
  simp only [look_put] at hy
  by_cases hst : s = t
  · rw [if_pos hst] at hy
    cases hy
    obtain ⟨v, hv, hr⟩ := hsl.2.2 t _ ht
    rw [hst]
    exact ⟨v, hv, .pure (hr.toPure hp).nrm⟩
  · rw [if_neg hst] at hy
    exact hsl.2.2 s y hy
theorem AStep_nrmSlot {wr : Bool} {sl : List (Nat × AV)} {H : List AObj} (t : Nat) {x : AV} (ht : look sl t = some x) (hp : x.pure = true) (h : AStep P nt k wr ops o ⟨put sl t x.nrm, H⟩ R) : AStep P nt k wr ops o ⟨sl, H⟩ R := fun C a w K Q hs => h C a w K Q (hs.nrmSlot t ht hp)
/-- An operation that yields or stores, tried once more in the state as it is now. -/
theorem AStep_redo (hT : TOk P T) {wr : Bool} (hd : dstOk nt o = true) (hwr : isStore o.op = true → wr = true) (hv : isAuto o.op = true) (h : match stepA T ops S o with | some S' => R S' | none => False) : AStep P nt k wr ops o S R := by
  cases hs : stepA T ops S o with
  | none => rw [hs] at h; exact h.elim
  | some S' => rw [hs] at h; exact AStep_auto hT hs hd hwr hv h

/-- What holds of the one state holds of the other. -/
def RenTo (P : Program) [Env P] (nt k : Nat) (S S' : AS) : Prop := ∀ (C : Cx P) (a : Act) (w : World), St C nt k S a w → St C nt k S' a w
theorem RenTo_ren {sl sl' : List (Nat × AV)} {H H' : List AObj} (ix : List Nat)
    (h1 : ix.map (fun i => H[i]?) = H'.map (fun o => some (o.ren (rn ix)))) (h2 : ix.Nodup) (h3 : k ≤ ix.length) (h3' : ix.take k = List.range k)
    (h4 : sl'.all (fun p => p.2.under H'.length) = true) (h4' : H'.all (objBelow H'.length) = true) (h5 : keepOk sl (sl'.map fun p => (p.1, p.2.ren (rn ix)))) : RenTo P nt k ⟨sl, H⟩ ⟨sl', H'⟩ :=
  fun C a w hs => hs.ren ix h1 h2 h3 h3' h4 h4' h5
theorem RenTo_keep {sl sl' : List (Nat × AV)} {H : List AObj} (hk : keepOk sl sl') : RenTo P nt k ⟨sl, H⟩ ⟨sl', H⟩ := fun _ _ _ hs => hs.sub rfl (look_of_keepOk hk)
/-- A region that draws its order, all orders brought to one state; the rest from there. -/
theorem AWP_drawC (hT : TOk P T) (hm : P.follows .mixedOrders = true) {Q Q' : Exit → AS → Prop} {id : Nat} {l : List Oper} {next : Code} (Wr : List Nat) (p : PlanM) (Sc : AS) (hd : dstsOk nt l = true)
    (hp : (Region.noSelect l.toArray && p.size == l.length && planM l.toArray (closTo l []) Wr p (Array.replicate l.length false)) = true)
    (h : ASeqM P T nt k l.toArray Wr.contains (fun S => RenTo P nt k S Sc) p S) (hn : AWP P nt k next Q Sc) : AWP P nt k (.region id l.toArray true) (thenQ (AWP P nt k next Q) Q') S :=
  (AWP_drawM (Q := fun e S => e = .normal ∧ RenTo P nt k S Sc) hT hm Wr p hd hp (ASeqM_and (fun _ h => ⟨rfl, h⟩) p S h)).mono fun e S ⟨he, hr⟩ => by
    subst he
    exact fun C a w hs => hn C a w (hr C a w hs)
end
attribute [simp] ASeqM AV.nrm AV.nrm1
end Go.Abs
set_option maxRecDepth 100000
namespace Go.Abs
open Go Go.Proofs
set_option linter.unusedSimpArgs false
def typesL : List Sch := [⟨[116, 114, 97, 100, 101], [⟨[115, 121, 109, 98, 111, 108], 2⟩, ⟨[112, 114, 105, 99, 101], 0⟩]⟩, ⟨[99, 108, 111, 99, 107], []⟩]
theorem pc_types : PC Tryz.prog 17 [] (fun r => r = .list (typesL.map encSch)) := by
  refine PC_body tOk Tryz.func17 rfl Tryz.results17 rfl (by simp [Tryz.ntmps17]) ?_
  rw [Tryz.ntmps17]
  simp only [argSlots]
  have r2 : List.range 2 = [0, 1] := rfl
  repeat (first
    | (refine AWP_seq (AWP_regS tOk rfl ?_); simp [r2])
    | (refine AWP_regS tOk rfl ?_; simp [r2])
    | (refine AWP_skip ?_; simp [r2])
    | (refine AWP_exit ?_; simp [r2])
    | (refine AWP_ret ?_; simp [r2])
    | refine AWP_block ?_
    | refine AWP_seq ?_)
  refine AStep_freeze 0 rfl ?_
  simp [r2]
  refine AStep_nrmSlot 5 rfl (by simp [AV.pure]) ?_
  simp
  refine AStep_redo tOk rfl (fun _ => rfl) rfl ?_
  simp [r2]
  repeat (first
    | (refine AWP_seq (AWP_regS tOk rfl ?_); simp)
    | (refine AWP_regS tOk rfl ?_; simp)
    | (refine AWP_skip ?_; simp)
    | (refine AWP_exit ?_; simp)
    | (refine AWP_ret ?_; simp)
    | refine AWP_block ?_
    | refine AWP_seq ?_)
  simp [typesL]
def evt0 : Ev := ⟨2, 17, 0, 5, [⟨2, 0, [65, 32, 98]⟩, ⟨0, -3, []⟩]⟩
def txt0 : List UInt8 := [116, 114, 97, 100, 101, 32, 50, 46, 49, 55, 32, 64, 53, 32, 34, 65, 32, 98, 34, 32, 45, 51]
theorem ea1 : evFmtR typesL evt0 = (txt0, 0) := by kernel_rfl
theorem ea2 : evParseR typesL txt0 = (evt0, 0, 0) := by kernel_rfl
theorem ea3 : fieldR typesL evt0 [112, 114, 105, 99, 101] = (⟨0, -3, []⟩, 0) := by kernel_rfl
theorem ea4 : fieldR typesL evt0 [116, 105, 109, 101] = (⟨0, 5, []⟩, 0) := by kernel_rfl
theorem ea5 : keyR typesL [0, -1] evt0 = (⟨2, 0, [65, 32, 98]⟩, true, 0) := by kernel_rfl
theorem ea6 : evParseR typesL [99, 108, 111, 99, 107, 32, 48, 46, 48, 32, 64, 49, 32, 55] = (zeroE, 13, 4) := by kernel_rfl
theorem ea7 : evParseR typesL [99, 108, 111, 99, 107, 32, 56, 46, 48, 32, 64, 49] = (zeroE, 6, 32) := by kernel_rfl
theorem ea8 : evParseR typesL [116, 114, 97, 100, 101, 32, 48, 46, 48, 32, 64, 49, 32, 116, 114, 117, 101] = (zeroE, 13, 9) := by kernel_rfl
theorem ea9 : evParseR typesL [116, 114, 97, 100, 101, 32, 48, 46, 48, 32, 64, 49] = (zeroE, 12, 4) := by kernel_rfl
attribute [local irreducible] evParseR evFmtR fieldR keyR
theorem pc_awake1 (s : List UInt8) (n x : Int) : PC Tryz.prog 19 [.str s, .i n, .i x] (fun r => r = .bool (((evParseR typesL s).2.1 : Int) == n && (evParseR typesL s).2.2 == x)) := by
  refine PC_body tOk Tryz.func19 rfl Tryz.results19 rfl (by simp [Tryz.ntmps19]) ?_
  rw [Tryz.ntmps19]
  simp only [argSlots]
  repeat (first
    | (refine AWP_seq (AWP_regS tOk rfl ?_); simp)
    | (refine AWP_regS tOk rfl ?_; simp)
    | (refine AWP_skip ?_; simp)
    | (refine AWP_exit ?_; simp)
    | (refine AWP_ret ?_; simp)
    | refine AWP_block ?_
    | refine AWP_seq ?_)
  refine AStep_PC rfl rfl (by simp) (pc_types) rfl ?_
  rintro _ rfl
  simp
  repeat (first
    | (refine AWP_seq (AWP_regS tOk rfl ?_); simp)
    | (refine AWP_regS tOk rfl ?_; simp)
    | (refine AWP_skip ?_; simp)
    | (refine AWP_exit ?_; simp)
    | (refine AWP_ret ?_; simp)
    | refine AWP_block ?_
    | refine AWP_seq ?_)
  refine AStep_PC rfl rfl (by simp) (pc_eParse typesL s) rfl ?_
  rintro _ rfl
  simp
  repeat (first
    | (refine AWP_seq (AWP_regS tOk rfl ?_); simp)
    | (refine AWP_regS tOk rfl ?_; simp)
    | (refine AWP_skip ?_; simp)
    | (refine AWP_exit ?_; simp)
    | (refine AWP_ret ?_; simp)
    | refine AWP_block ?_
    | refine AWP_seq ?_)
set_option maxHeartbeats 2000000 in
theorem pc_awake : PC Tryz.prog 8 [] (fun r => r = .bool true) := by
  refine PC_body tOk Tryz.func8 rfl Tryz.results8 rfl (by simp [Tryz.ntmps8]) ?_
  rw [Tryz.ntmps8]
  simp only [argSlots]
  have r2 : List.range 2 = [0, 1] := rfl
  have p1 := pc_eFormat' typesL evt0
  have p2 := pc_eParse typesL txt0
  have p3 := pc_eField typesL evt0 [112, 114, 105, 99, 101]
  have p4 := pc_eField typesL evt0 [116, 105, 109, 101]
  have p5 := pc_eKey typesL [0, -1] evt0 (by simp)
  have p6 := pc_r4SameEvent evt0 evt0 (by simp [evt0]) (by simp [evt0])
  rw [ea1] at p1
  rw [ea2] at p2
  rw [ea3] at p3
  rw [ea4] at p4
  rw [ea5] at p5
  simp only [evt0, txt0, encE, List.map_cons, List.map_nil] at p1 p2 p3 p4 p5 p6
  repeat (first
    | (refine AWP_seq (AWP_regS tOk rfl ?_); simp [r2])
    | (refine AWP_regS tOk rfl ?_; simp [r2])
    | (refine AWP_skip ?_; simp [r2])
    | (refine AWP_exit ?_; simp [r2])
    | (refine AWP_ret ?_; simp [r2])
    | refine AWP_block ?_
    | refine AWP_seq ?_)
  refine AWP_freeze 0 rfl ?_
  simp
  refine AWP_drawT tOk mixed [] (.val 1 (.one 0 (.one 2 (.val 3 (.val 4 (.val 5 (.val 6 (.val 7 (.done))))))))) rfl (by kernel_rfl) ?_
  simp
  refine AStep_PC rfl rfl (by simp) (pc_types) rfl ?_
  rintro _ rfl
  simp
  refine AStep_PC rfl rfl (by simp) (p1) rfl ?_
  rintro _ rfl
  simp
  repeat (first
    | (refine AWP_seq (AWP_regS tOk rfl ?_); simp)
    | (refine AWP_regS tOk rfl ?_; simp)
    | (refine AWP_skip ?_; simp)
    | (refine AWP_exit ?_; simp)
    | (refine AWP_ret ?_; simp)
    | refine AWP_block ?_
    | refine AWP_seq ?_)
  refine AStep_PC rfl rfl (by simp) (pc_types) rfl ?_
  rintro _ rfl
  simp
  refine AStep_PC rfl rfl (by simp) (p2) rfl ?_
  rintro _ rfl
  simp
  repeat (first
    | (refine AWP_seq (AWP_regS tOk rfl ?_); simp)
    | (refine AWP_regS tOk rfl ?_; simp)
    | (refine AWP_skip ?_; simp)
    | (refine AWP_exit ?_; simp)
    | (refine AWP_ret ?_; simp)
    | refine AWP_block ?_
    | refine AWP_seq ?_)
  refine AWP_drawC tOk mixed [7] (.val 1 (.two 0 (.two 2 (.val 3 (.val 4 (.val 5 (.one 6 (.one 7 (.val 8 (.done))))))) 6 (.one 2 (.val 3 (.val 4 (.val 5 (.one 7 (.val 8 (.done)))))))) 6 (.one 0 (.one 2 (.val 3 (.val 4 (.val 5 (.one 7 (.val 8 (.done)))))))))) (⟨[(0, .bool false), (1, .vptr 1 0), (2, .str txt0), (3, .i 0), (4, .vptr 2 0), (5, .i 0), (6, .i 0), (7, .vptr 3 0), (8, .i 0)], [.dead, .vars [.i 2, .i 17, .i 0, .i 5, .list (evt0.values.map encV)], .vars [.i 2, .i 17, .i 0, .i 5, .list (evt0.values.map encV)], .vars [.i 0, .i (-3), .str []]]⟩) rfl (by kernel_rfl) ?_ ?_
  simp
  · refine ⟨?_, ?_⟩
    · refine AStep_PC rfl rfl (by simp) (pc_types) rfl ?_
      rintro _ rfl
      simp
      refine ⟨?_, ?_⟩
      · refine AStep_PC rfl rfl (by simp) (p3) rfl ?_
        rintro _ rfl
        simp
        exact RenTo_keep (by simp [txt0])
      · refine AStep_PC rfl rfl (by simp) (p3) rfl ?_
        rintro _ rfl
        simp
        exact RenTo_keep (by simp [txt0])
    · refine AStep_PC rfl rfl (by simp) (pc_types) rfl ?_
      rintro _ rfl
      simp
      refine AStep_PC rfl rfl (by simp) (p3) rfl ?_
      rintro _ rfl
      simp
      exact RenTo_keep (by simp [txt0])
  refine AWP_seq ?_
  refine AWP_drawC tOk mixed [7] (.val 1 (.two 0 (.two 2 (.val 3 (.val 4 (.val 5 (.one 6 (.one 7 (.val 8 (.done))))))) 6 (.one 2 (.val 3 (.val 4 (.val 5 (.one 7 (.val 8 (.done)))))))) 6 (.one 0 (.one 2 (.val 3 (.val 4 (.val 5 (.one 7 (.val 8 (.done)))))))))) (⟨[(0, .bool false), (1, .vptr 1 0), (2, .str txt0), (3, .i 0), (4, .vptr 2 0), (5, .i 0), (6, .i 0), (7, .vptr 3 0), (8, .i 0), (9, .vptr 4 0), (10, .i 0)], [.dead, .vars [.i 2, .i 17, .i 0, .i 5, .list (evt0.values.map encV)], .vars [.i 2, .i 17, .i 0, .i 5, .list (evt0.values.map encV)], .vars [.i 0, .i (-3), .str []], .vars [.i 0, .i 5, .str []]]⟩) rfl (by kernel_rfl) ?_ ?_
  simp
  · refine ⟨?_, ?_⟩
    · refine AStep_PC rfl rfl (by simp) (pc_types) rfl ?_
      rintro _ rfl
      simp
      refine ⟨?_, ?_⟩
      · refine AStep_PC rfl rfl (by simp) (p4) rfl ?_
        rintro _ rfl
        simp
        exact RenTo_keep (by simp [txt0])
      · refine AStep_PC rfl rfl (by simp) (p4) rfl ?_
        rintro _ rfl
        simp
        exact RenTo_keep (by simp [txt0])
    · refine AStep_PC rfl rfl (by simp) (pc_types) rfl ?_
      rintro _ rfl
      simp
      refine AStep_PC rfl rfl (by simp) (p4) rfl ?_
      rintro _ rfl
      simp
      exact RenTo_keep (by simp [txt0])
  refine AWP_seq ?_
  refine AWP_drawC tOk mixed [9] (.val 2 (.three 0 (.two 1 (.two 3 (.val 4 (.val 5 (.val 6 (.val 7 (.one 8 (.one 9 (.val 10 (.val 11 (.done))))))))) 8 (.one 3 (.val 4 (.val 5 (.val 6 (.val 7 (.one 9 (.val 10 (.val 11 (.done)))))))))) 8 (.one 1 (.one 3 (.val 4 (.val 5 (.val 6 (.val 7 (.one 9 (.val 10 (.val 11 (.done))))))))))) 1 (.two 0 (.two 3 (.val 4 (.val 5 (.val 6 (.val 7 (.one 8 (.one 9 (.val 10 (.val 11 (.done))))))))) 8 (.one 3 (.val 4 (.val 5 (.val 6 (.val 7 (.one 9 (.val 10 (.val 11 (.done)))))))))) 8 (.one 0 (.one 3 (.val 4 (.val 5 (.val 6 (.val 7 (.one 9 (.val 10 (.val 11 (.done))))))))))) 8 (.two 0 (.one 1 (.one 3 (.val 4 (.val 5 (.val 6 (.val 7 (.one 9 (.val 10 (.val 11 (.done)))))))))) 1 (.one 0 (.one 3 (.val 4 (.val 5 (.val 6 (.val 7 (.one 9 (.val 10 (.val 11 (.done))))))))))))) (⟨[(0, .bool false), (1, .vptr 0 0), (2, .str txt0), (3, .i 0), (4, .vptr 1 0), (5, .i 0), (6, .i 0), (7, .vptr 2 0), (8, .i 0), (9, .vptr 3 0), (10, .i 0), (11, .vptr 4 0), (12, .bool true), (13, .i 0)], [.vars [.i 2, .i 17, .i 0, .i 5, .list (evt0.values.map encV)], .vars [.i 2, .i 17, .i 0, .i 5, .list (evt0.values.map encV)], .vars [.i 0, .i (-3), .str []], .vars [.i 0, .i 5, .str []], .vars [.i 2, .i 0, .str [65, 32, 98]]]⟩) rfl (by kernel_rfl) ?_ ?_
  simp [r2]
  · refine ⟨?_, ?_, ?_⟩
    · refine AStep_PC rfl rfl (by simp) (pc_types) rfl ?_
      rintro _ rfl
      simp
      refine ⟨?_, ?_⟩
      · refine ⟨?_, ?_⟩
        · refine AStep_freeze 5 rfl ?_
          simp
          refine AStep_PC rfl rfl (by simp) (p5) rfl ?_
          rintro _ rfl
          simp
          exact RenTo_ren [1, 2, 3, 4, 6] (by simp) (by decide) (by simp) rfl (by simp) (by simp) (by simp [txt0])
        · refine AStep_freeze 5 rfl ?_
          simp
          refine AStep_PC rfl rfl (by simp) (p5) rfl ?_
          rintro _ rfl
          simp
          exact RenTo_ren [1, 2, 3, 4, 6] (by simp) (by decide) (by simp) rfl (by simp) (by simp) (by simp [txt0])
      · refine AStep_freeze 6 rfl ?_
        simp
        refine AStep_PC rfl rfl (by simp) (p5) rfl ?_
        rintro _ rfl
        simp
        exact RenTo_ren [1, 2, 3, 4, 5] (by simp) (by decide) (by simp) rfl (by simp) (by simp) (by simp [txt0])
    · refine ⟨?_, ?_⟩
      · refine AStep_PC rfl rfl (by simp) (pc_types) rfl ?_
        rintro _ rfl
        simp
        refine ⟨?_, ?_⟩
        · refine AStep_freeze 5 rfl ?_
          simp
          refine AStep_PC rfl rfl (by simp) (p5) rfl ?_
          rintro _ rfl
          simp
          exact RenTo_ren [1, 2, 3, 4, 6] (by simp) (by decide) (by simp) rfl (by simp) (by simp) (by simp [txt0])
        · refine AStep_freeze 5 rfl ?_
          simp
          refine AStep_PC rfl rfl (by simp) (p5) rfl ?_
          rintro _ rfl
          simp
          exact RenTo_ren [1, 2, 3, 4, 6] (by simp) (by decide) (by simp) rfl (by simp) (by simp) (by simp [txt0])
      · refine AStep_PC rfl rfl (by simp) (pc_types) rfl ?_
        rintro _ rfl
        simp
        refine AStep_freeze 5 rfl ?_
        simp
        refine AStep_PC rfl rfl (by simp) (p5) rfl ?_
        rintro _ rfl
        simp
        exact RenTo_ren [1, 2, 3, 4, 6] (by simp) (by decide) (by simp) rfl (by simp) (by simp) (by simp [txt0])
    · refine ⟨?_, ?_⟩
      · refine AStep_PC rfl rfl (by simp) (pc_types) rfl ?_
        rintro _ rfl
        simp
        refine AStep_freeze 6 rfl ?_
        simp
        refine AStep_PC rfl rfl (by simp) (p5) rfl ?_
        rintro _ rfl
        simp
        exact RenTo_ren [1, 2, 3, 4, 5] (by simp) (by decide) (by simp) rfl (by simp) (by simp) (by simp [txt0])
      · refine AStep_PC rfl rfl (by simp) (pc_types) rfl ?_
        rintro _ rfl
        simp
        refine AStep_freeze 6 rfl ?_
        simp
        refine AStep_PC rfl rfl (by simp) (p5) rfl ?_
        rintro _ rfl
        simp
        exact RenTo_ren [1, 2, 3, 4, 5] (by simp) (by decide) (by simp) rfl (by simp) (by simp) (by simp [txt0])
  have q1 := pc_awake1 [99, 108, 111, 99, 107, 32, 48, 46, 48, 32, 64, 49, 32, 55] 13 4
  have q2 := pc_awake1 [99, 108, 111, 99, 107, 32, 56, 46, 48, 32, 64, 49] 6 32
  have q3 := pc_awake1 [116, 114, 97, 100, 101, 32, 48, 46, 48, 32, 64, 49, 32, 116, 114, 117, 101] 13 9
  have q4 := pc_awake1 [116, 114, 97, 100, 101, 32, 48, 46, 48, 32, 64, 49] 12 4
  rw [ea6] at q1
  rw [ea7] at q2
  rw [ea8] at q3
  rw [ea9] at q4
  simp only [evt0, txt0, List.map_cons, List.map_nil]
  repeat (first
    | (refine AWP_seq (AWP_regS tOk rfl ?_); simp)
    | (refine AWP_regS tOk rfl ?_; simp)
    | (refine AWP_skip ?_; simp)
    | (refine AWP_exit ?_; simp)
    | (refine AWP_ret ?_; simp)
    | refine AWP_block ?_
    | refine AWP_seq ?_)
  refine AStep_PC rfl rfl (by simp) (p6) rfl ?_
  rintro _ rfl
  simp
  repeat (first
    | (refine AWP_seq (AWP_regS tOk rfl ?_); simp)
    | (refine AWP_regS tOk rfl ?_; simp)
    | (refine AWP_skip ?_; simp)
    | (refine AWP_exit ?_; simp)
    | (refine AWP_ret ?_; simp)
    | refine AWP_block ?_
    | refine AWP_seq ?_)
  refine AStep_PC rfl rfl (by simp) (q1) rfl ?_
  rintro _ rfl
  simp
  refine AStep_PC rfl rfl (by simp) (q2) rfl ?_
  rintro _ rfl
  simp
  refine AStep_PC rfl rfl (by simp) (q3) rfl ?_
  rintro _ rfl
  simp
  refine AStep_PC rfl rfl (by simp) (q4) rfl ?_
  rintro _ rfl
  simp
  repeat (first
    | (refine AWP_seq (AWP_regS tOk rfl ?_); simp)
    | (refine AWP_regS tOk rfl ?_; simp)
    | (refine AWP_skip ?_; simp)
    | (refine AWP_exit ?_; simp)
    | (refine AWP_ret ?_; simp)
    | refine AWP_block ?_
    | refine AWP_seq ?_)
  rfl
end Go.Abs
namespace Go.Abs
end Go.Abs
set_option maxRecDepth 100000
namespace Go.Abs
open Go Go.Proofs Go.RowKit
set_option linter.unusedSimpArgs false
def replQ (A B C n : List UInt8) : List UInt8 := A ++ n ++ B ++ n ++ C
end Go.Abs
set_option maxRecDepth 100000
namespace Go.Abs
open Go Go.Proofs
set_option linter.unusedSimpArgs false
def schOk (l : List Sch) : Prop := l.length ≤ 9000000000000000000 ∧ ∀ s ∈ l, s.fields.length ≤ 9000000000000000000 ∧ s.name.length ≤ 9000000000000000000
def evOk (e : Ev) : Prop := e.values.length ≤ 9000000000000000000
theorem fewV_len {l : List Val} (h : fewV l = true) : l.length ≤ 1000000 := by
  unfold fewV at h
  simp at h
  omega

theorem tail_lay : ∀ (r : List (List UInt8)) (m : Nat), lay (r.map fun w => (1, w)) m = Lib.joinTail [32] r ++ List.replicate m 32
  | [], m => by simp [lay, Lib.joinTail]
  | w :: r, m => by
    have ih := tail_lay r m
    simp only [List.map_cons, lay, ih]
    simp [Lib.joinTail, List.replicate]
theorem parts_wok {l : List Sch} {e : Ev} (h : ckEv l e = 0) : ∀ w ∈ partsR l e, wok w := by
  obtain ⟨h0, ⟨k, hk, hkl, hfs⟩, hlv, hl8, hnum, hvals⟩ := ev_ok h
  have hn := nums_ok hnum
  have hvok := vals_ok _ _ hvals hlv
  have hgd : (l.getD e.type.toNat default).name = l[k].name := by rw [hk, List.getD_eq_getElem?_getD]; simp [hkl]
  have hnm := ckSch_name (ckSchs_all h0 _ (List.getElem_mem hkl))
  intro w hw
  unfold partsR at hw
  rw [hgd] at hw
  simp only [List.mem_append, List.mem_cons, List.mem_map, List.not_mem_nil, or_false] at hw
  rcases hw with (rfl | rfl | rfl) | ⟨v, hv, rfl⟩
  · exact name_wok hnm
  · exact ident_wok _ _ hn.1 hn.2.2.1
  · exact mom_wok _ hn.2.2.2.2.1
  · rw [formatR_ok (hvok v hv)]; exact fmt_wok v
theorem parts_len {l : List Sch} {e : Ev} (h : ckEv l e = 0) : (∀ w ∈ partsR l e, w.length ≤ 1000) ∧ (partsR l e).length ≤ 11 := by
  obtain ⟨h0, ⟨k, hk, hkl, hfs⟩, hlv, hl8, hnum, hvals⟩ := ev_ok h
  have hn := nums_ok hnum
  have hvok := vals_ok _ _ hvals hlv
  have hgd : (l.getD e.type.toNat default).name = l[k].name := by rw [hk, List.getD_eq_getElem?_getD]; simp [hkl]
  have hnm := name_len (ckSch_name (ckSchs_all h0 _ (List.getElem_mem hkl)))
  have hi1 := Lib.itoa_length_le e.source (by omega) (by omega)
  have hi2 := Lib.itoa_length_le e.seq (by omega) (by omega)
  have hi3 := Lib.itoa_length_le e.time (by omega) (by omega)
  unfold partsR
  rw [hgd]
  refine ⟨fun w hw => ?_, by simp; omega⟩
  simp only [List.mem_append, List.mem_cons, List.mem_map, List.not_mem_nil, or_false] at hw
  rcases hw with (rfl | rfl | rfl) | ⟨v, hv, rfl⟩
  · omega
  · simp; omega
  · simp; omega
  · exact (fmt_len' (hvok v hv)).1
theorem words_join {l : List Sch} {e : Ev} (h : ckEv l e = 0) : (wordsE 0 (Lib.join (partsR l e) [32])).map Prod.snd = partsR l e := by
  have hw := parts_wok h
  obtain ⟨a, t, hp⟩ : ∃ a t, partsR l e = a :: t := ⟨_, _, rfl⟩
  rw [hp] at hw ⊢
  have hl : Lib.join (a :: t) [32] = lay ((0, a) :: t.map fun w => (1, w)) 0 := by
    rw [lay, tail_lay, Lib.join_cons]; simp
  rw [hl, words_lay _ _ _ (fun p hp => ?_) (fun p hp => ?_)]
  · simp [Function.comp_def]
  · simp only [List.mem_cons, List.mem_map] at hp
    rcases hp with rfl | ⟨w, hw', rfl⟩
    · exact hw a (by simp)
    · exact hw w (by simp [hw'])
  · simp only [List.tail_cons, List.mem_map] at hp
    obtain ⟨w, _, rfl⟩ := hp
    exact Nat.le_refl _
theorem join_short {l : List Sch} {e : Ev} (h : ckEv l e = 0) : (Lib.join (partsR l e) [32]).length ≤ 30000 := by
  obtain ⟨h1, h2⟩ := parts_len h
  obtain ⟨a, t, hp⟩ : ∃ a t, partsR l e = a :: t := ⟨_, _, rfl⟩
  rw [hp] at h1 h2 ⊢
  have := join_len a t [32] (by simp) (h1 a (by simp)) (fun z hz => h1 z (by simp [hz])) t.length
  rw [List.take_length] at this
  simp at h2
  omega
theorem parse_format_ev {l : List Sch} {e : Ev} (h : ckEv l e = 0) : evParseR l (Lib.join (partsR l e) [32]) = (e, 0, 0) :=
  parse_words l e h _ (by have := join_short h; omega) (words_join h)
theorem text_inj {l : List Sch} {e o : Ev} (h : ckEv l e = 0) (h' : ckEv l o = 0) (ht : Lib.join (partsR l e) [32] = Lib.join (partsR l o) [32]) : e = o := by
  have h1 := parse_format_ev h
  have h2 := parse_format_ev h'
  rw [ht, h2] at h1
  exact (Prod.mk.inj h1).1.symm
end Go.Abs
