/- Part Ke of the proof: an abstract machine over the model, and what the functions of the program hand back in its terms. No condition. -/
import Derived.Test.YtmfoegilknpcnaaGreatDoorKd
import Derived.Test.YtmfoegilknpcnaaGreatDoorKc
set_option linter.all false
set_option maxRecDepth 100000
namespace Go.Abs
open Go Go.Proofs
set_option linter.unusedSimpArgs false
theorem enc_len {α : Type} (bs : α → List UInt8) (l : List α) : (encL bs l).length = (encN l.length).length + (l.flatMap bs).length := by rw [encL, List.length_append]
theorem many_ne (e : Int) : orE e 5 ≠ 0 := by unfold orE; split <;> simp_all
set_option maxHeartbeats 2000000 in
theorem fc_put_Value (l : List Val) (hl : l.length ≤ 1000000) (f : FuncId) (fs cs : List AV) (bs : Val → List UInt8) (er : Val → Int) (H : List AObj) (q : Nat) (o : Option Nat) (out : List UInt8) (e : Int) (hw : WA H q out e o) (hb : out.length + (encL bs l).length ≤ 1000000000)
    (hone : ∀ x ∈ l, ∀ (H' : List AObj) (o' : Option Nat) (out' : List UInt8) (e' : Int), WA H' q out' e' o' → Fr H H' q o o' → out'.length + (bs x).length ≤ 1000000000 → FC Tryz.prog f (fs ++ [encV x] ++ cs) H' (WP H' q o' out' e' (bs x) (er x))) :
    FC Tryz.prog 259 [.vptr q 0, .list (l.map encV), .fn (.func f) fs cs] H (WP H q o out e (encL bs l) (errL er l)) := by
  refine FC_body tOk Tryz.func259 rfl Tryz.results259 rfl (by simp [Tryz.ntmps259]) ?_
  rw [Tryz.ntmps259]
  simp only [argSlots]
  have hel := enc_len bs l
  repeat first|((first|refine qa tOk rfl ?_|refine qb tOk rfl ?_|refine qc ?_|refine qd ?_|refine qe ?_);simp)|refine AWP_block ?_|refine AWP_seq ?_
  by_cases hm : 4096 < l.length
  · refine AWP_cond2 rfl (fun _ => ?_) (fun h => by simp at h; omega)
    repeat first|((first|refine qa tOk rfl ?_|refine qb tOk rfl ?_|refine qc ?_|refine qd ?_|refine qe ?_);simp)|refine AWP_block ?_|refine AWP_seq ?_
    refine AStep_FC rfl rfl (fc_wfail H q o out e 5 hw) rfl ?_
    rintro _ _ ⟨rfl, rfl⟩
    have w1 := hw.err (orE e 5)
    have f1 := Fr.set H q o (wX out.length (orE e 5) o)
    have hne := many_ne e
    generalize H.set q (wX out.length (orE e 5) o) = H1 at *
    simp
    repeat first|((first|refine qa tOk rfl ?_|refine qb tOk rfl ?_|refine qc ?_|refine qd ?_|refine qe ?_);simp)|refine AWP_block ?_|refine AWP_seq ?_
    refine AStep_FC rfl rfl (fc_wint H1 q o out _ l.length (by constructor <;> omega) w1 (by omega)) rfl ?_
    rintro _ H2 ⟨rfl, o2, w2, f2, _⟩
    simp
    repeat first|((first|refine qa tOk rfl ?_|refine qb tOk rfl ?_|refine qc ?_|refine qd ?_|refine qe ?_);simp)|refine AWP_block ?_|refine AWP_seq ?_
    refine AWP_loop (ALoop_round ?_)
    have h0 : 0 < l.length := by omega
    repeat first|((first|refine qa tOk rfl ?_|refine qb tOk rfl ?_|refine qc ?_|refine qd ?_|refine qe ?_);simp)|refine AWP_block ?_|refine AWP_seq ?_
    refine AWP_cond2 rfl (fun _ => ?_) (fun h => by have := of_decide_eq_false h; omega)
    have g2 : ∀ A : AObj, (H2 ++ [A])[q]? = some (.vars [wOut (out ++ encN l.length).length o2, .i (orE e 5)]) := fun A => get_app w2.1 _
    repeat first|((first|refine qa tOk rfl ?_|refine qb tOk rfl ?_|refine qc ?_|refine qd ?_|refine qe ?_);simp [h0, g2])|refine AWP_block ?_|refine AWP_seq ?_
    refine AWP_cond2 rfl (fun _ => ?_) (fun h => by simp [hne] at h)
    repeat first|((first|refine qa tOk rfl ?_|refine qb tOk rfl ?_|refine qc ?_|refine qd ?_|refine qe ?_);simp)|refine AWP_block ?_|refine AWP_seq ?_
    refine ⟨rfl, out ++ encN l.length, o2, ?_, ?_, ?_, fun h => ?_⟩
    · rw [errL, if_pos hm]; exact w2.app _
    · exact f1.trans (f2.trans ⟨by simp, .inl rfl, fun j hj _ _ => List.getElem?_append_left hj⟩)
    · rw [List.length_append]; omega
    · rw [errL, if_pos hm] at h; exact absurd h hne
  · refine AWP_cond2 rfl (fun h => by simp at h; omega) (fun _ => ?_)
    rw [errL, if_neg hm]
    repeat first|((first|refine qa tOk rfl ?_|refine qb tOk rfl ?_|refine qc ?_|refine qd ?_|refine qe ?_);simp)|refine AWP_block ?_|refine AWP_seq ?_
    refine AStep_FC rfl rfl (fc_wint H q o out e l.length (by constructor <;> omega) hw (by omega)) rfl ?_
    rintro _ H2 ⟨rfl, o2, w2, f2, _⟩
    simp
    repeat first|((first|refine qa tOk rfl ?_|refine qb tOk rfl ?_|refine qc ?_|refine qd ?_|refine qe ?_);simp)|refine AWP_block ?_|refine AWP_seq ?_
    refine AWP_loop (ALoop_keep (sl' := [(0, .vptr q 0), (2, .fn (.func f) fs cs), (17, .list (l.map encV)), (18, .i l.length), (19, .i 0)]) ?_ (by simp))
    refine ALoop_wf (F := fun (u : Nat × List UInt8 × Int × Option Nat × List AObj) => ⟨[(0, .vptr q 0), (2, .fn (.func f) fs cs), (17, .list (l.map encV)), (18, .i l.length), (19, .i u.1)], u.2.2.2.2⟩)
      (fun u => WA u.2.2.2.2 q u.2.1 u.2.2.1 u.2.2.2.1 ∧ Fr H u.2.2.2.2 q o u.2.2.2.1 ∧ u.1 ≤ l.length ∧ u.2.2.1 = orE e (firstE er (l.take u.1)) ∧ u.2.1.length ≤ out.length + (encN l.length).length + ((l.take u.1).flatMap bs).length ∧ (u.2.2.1 = 0 → u.2.1 = out ++ encN l.length ++ (l.take u.1).flatMap bs)) (fun u => l.length - u.1) ?_
      (0, out ++ encN l.length, e, o2, H2) ⟨w2, f2, Nat.zero_le _, by simp [firstE, orE_self], by simp, fun _ => by simp⟩
    rintro ⟨j, t, ej, p, G⟩ ⟨g1, g2, g3, g4, g5, g6⟩ ih
    simp only at g1 g2 g3 g4 g5 g6 ih ⊢
    repeat first|((first|refine qa tOk rfl ?_|refine qb tOk rfl ?_|refine qc ?_|refine qd ?_|refine qe ?_);simp)|refine AWP_block ?_|refine AWP_seq ?_
    refine AWP_cond2 rfl (fun h => ?_) (fun h => ?_)
    · have hlt : j < l.length := by simpa using h
      have hw1 : IntKind.i64.wrap ((j : Int) + 1) = j + 1 := wrap_i64 _ (by omega) (by omega)
      have q1 : ∀ A : AObj, (G ++ [A])[q]? = some (.vars [wOut t.length p, .i ej]) := fun A => get_app g1.1 _
      repeat first|((first|refine qa tOk rfl ?_|refine qb tOk rfl ?_|refine qc ?_|refine qd ?_|refine qe ?_);simp [hlt, q1])|refine AWP_block ?_|refine AWP_seq ?_
      refine AWP_cond2 rfl (fun hn => ?_) (fun hz => ?_)
      · have hn' : ej ≠ 0 := by simpa using hn
        repeat first|((first|refine qa tOk rfl ?_|refine qb tOk rfl ?_|refine qc ?_|refine qd ?_|refine qe ?_);simp)|refine AWP_block ?_|refine AWP_seq ?_
        have hfe : orE e (firstE er l) = ej := by
          conv => lhs; rw [← List.take_append_drop j l]
          rw [firstE_app, ← orE_assoc, ← g4, orE_ne hn']
        refine ⟨rfl, t, p, ?_, ?_, ?_, fun hz => ?_⟩
        · rw [hfe]; exact g1.app _
        · exact g2.trans ⟨by simp, .inl rfl, fun j hj _ _ => List.getElem?_append_left hj⟩
        · have := flat_le bs l j; omega
        · rw [hfe] at hz; exact absurd hz hn'
      · have hz' : ej = 0 := by simpa using hz
        have hle := flat_le bs l (j + 1)
        rw [flat_take bs l j hlt, List.length_append] at hle
        repeat first|((first|refine qa tOk rfl ?_|refine qb tOk rfl ?_|refine qc ?_|refine qd ?_|refine qe ?_);simp)|refine AWP_block ?_|refine AWP_seq ?_
        refine AStep_FC rfl rfl (hone l[j] (List.getElem_mem hlt) _ p t ej (g1.app _) (g2.trans ⟨by simp, .inl rfl, fun j hj _ _ => List.getElem?_append_left hj⟩) (by omega)) rfl ?_
        rintro _ G2 ⟨rfl, t2, p2, k1, k2, k3, k4⟩
        simp
        repeat first|((first|refine qa tOk rfl ?_|refine qb tOk rfl ?_|refine qc ?_|refine qd ?_|refine qe ?_);simp [hw1])|refine AWP_block ?_|refine AWP_seq ?_
        refine ALoop_keep (ih (j + 1, t2, orE ej (er l[j]), p2, G2) ⟨k1, g2.trans k2.cut, hlt, ?_, ?_, fun h => ?_⟩ (by simp only; omega)) (by simp)
        · simp only; rw [firstE_take er l j hlt, ← orE_assoc, ← g4]
        · simp only; rw [flat_take bs l j hlt, List.length_append]; omega
        · simp only at h ⊢; rw [k4 h, g6 hz', flat_take bs l j hlt]; simp
    · have hge : j = l.length := by simp at h; omega
      subst hge
      repeat first|((first|refine qa tOk rfl ?_|refine qb tOk rfl ?_|refine qc ?_|refine qd ?_|refine qe ?_);simp)|refine AWP_block ?_|refine AWP_seq ?_
      rw [List.take_length] at g4 g5 g6
      refine ⟨rfl, t, p, ?_, g2, by omega, fun h => ?_⟩
      · rw [← g4]; exact g1
      · rw [g6 (by rw [g4]; exact h), encL]; simp
set_option maxHeartbeats 2000000 in
theorem fc_put_Binding (l : List Bnd) (hl : l.length ≤ 1000000) (f : FuncId) (fs cs : List AV) (bs : Bnd → List UInt8) (er : Bnd → Int) (H : List AObj) (q : Nat) (o : Option Nat) (out : List UInt8) (e : Int) (hw : WA H q out e o) (hb : out.length + (encL bs l).length ≤ 1000000000)
    (hone : ∀ x ∈ l, ∀ (H' : List AObj) (o' : Option Nat) (out' : List UInt8) (e' : Int), WA H' q out' e' o' → Fr H H' q o o' → out'.length + (bs x).length ≤ 1000000000 → FC Tryz.prog f (fs ++ [avBnd x] ++ cs) H' (WP H' q o' out' e' (bs x) (er x))) :
    FC Tryz.prog 260 [.vptr q 0, .list (l.map avBnd), .fn (.func f) fs cs] H (WP H q o out e (encL bs l) (errL er l)) := by
  refine FC_body tOk Tryz.func260 rfl Tryz.results260 rfl (by simp [Tryz.ntmps260]) ?_
  rw [Tryz.ntmps260]
  simp only [argSlots]
  have hel := enc_len bs l
  repeat first|((first|refine qa tOk rfl ?_|refine qb tOk rfl ?_|refine qc ?_|refine qd ?_|refine qe ?_);simp)|refine AWP_block ?_|refine AWP_seq ?_
  by_cases hm : 4096 < l.length
  · refine AWP_cond2 rfl (fun _ => ?_) (fun h => by simp at h; omega)
    repeat first|((first|refine qa tOk rfl ?_|refine qb tOk rfl ?_|refine qc ?_|refine qd ?_|refine qe ?_);simp)|refine AWP_block ?_|refine AWP_seq ?_
    refine AStep_FC rfl rfl (fc_wfail H q o out e 5 hw) rfl ?_
    rintro _ _ ⟨rfl, rfl⟩
    have w1 := hw.err (orE e 5)
    have f1 := Fr.set H q o (wX out.length (orE e 5) o)
    have hne := many_ne e
    generalize H.set q (wX out.length (orE e 5) o) = H1 at *
    simp
    repeat first|((first|refine qa tOk rfl ?_|refine qb tOk rfl ?_|refine qc ?_|refine qd ?_|refine qe ?_);simp)|refine AWP_block ?_|refine AWP_seq ?_
    refine AStep_FC rfl rfl (fc_wint H1 q o out _ l.length (by constructor <;> omega) w1 (by omega)) rfl ?_
    rintro _ H2 ⟨rfl, o2, w2, f2, _⟩
    simp
    repeat first|((first|refine qa tOk rfl ?_|refine qb tOk rfl ?_|refine qc ?_|refine qd ?_|refine qe ?_);simp)|refine AWP_block ?_|refine AWP_seq ?_
    refine AWP_loop (ALoop_round ?_)
    have h0 : 0 < l.length := by omega
    repeat first|((first|refine qa tOk rfl ?_|refine qb tOk rfl ?_|refine qc ?_|refine qd ?_|refine qe ?_);simp)|refine AWP_block ?_|refine AWP_seq ?_
    refine AWP_cond2 rfl (fun _ => ?_) (fun h => by have := of_decide_eq_false h; omega)
    have g2 : ∀ A : AObj, (H2 ++ [A])[q]? = some (.vars [wOut (out ++ encN l.length).length o2, .i (orE e 5)]) := fun A => get_app w2.1 _
    repeat first|((first|refine qa tOk rfl ?_|refine qb tOk rfl ?_|refine qc ?_|refine qd ?_|refine qe ?_);simp [h0, g2])|refine AWP_block ?_|refine AWP_seq ?_
    refine AWP_cond2 rfl (fun _ => ?_) (fun h => by simp [hne] at h)
    repeat first|((first|refine qa tOk rfl ?_|refine qb tOk rfl ?_|refine qc ?_|refine qd ?_|refine qe ?_);simp)|refine AWP_block ?_|refine AWP_seq ?_
    refine ⟨rfl, out ++ encN l.length, o2, ?_, ?_, ?_, fun h => ?_⟩
    · rw [errL, if_pos hm]; exact w2.app _
    · exact f1.trans (f2.trans ⟨by simp, .inl rfl, fun j hj _ _ => List.getElem?_append_left hj⟩)
    · rw [List.length_append]; omega
    · rw [errL, if_pos hm] at h; exact absurd h hne
  · refine AWP_cond2 rfl (fun h => by simp at h; omega) (fun _ => ?_)
    rw [errL, if_neg hm]
    repeat first|((first|refine qa tOk rfl ?_|refine qb tOk rfl ?_|refine qc ?_|refine qd ?_|refine qe ?_);simp)|refine AWP_block ?_|refine AWP_seq ?_
    refine AStep_FC rfl rfl (fc_wint H q o out e l.length (by constructor <;> omega) hw (by omega)) rfl ?_
    rintro _ H2 ⟨rfl, o2, w2, f2, _⟩
    simp
    repeat first|((first|refine qa tOk rfl ?_|refine qb tOk rfl ?_|refine qc ?_|refine qd ?_|refine qe ?_);simp)|refine AWP_block ?_|refine AWP_seq ?_
    refine AWP_loop (ALoop_keep (sl' := [(0, .vptr q 0), (2, .fn (.func f) fs cs), (17, .list (l.map avBnd)), (18, .i l.length), (19, .i 0)]) ?_ (by simp))
    refine ALoop_wf (F := fun (u : Nat × List UInt8 × Int × Option Nat × List AObj) => ⟨[(0, .vptr q 0), (2, .fn (.func f) fs cs), (17, .list (l.map avBnd)), (18, .i l.length), (19, .i u.1)], u.2.2.2.2⟩)
      (fun u => WA u.2.2.2.2 q u.2.1 u.2.2.1 u.2.2.2.1 ∧ Fr H u.2.2.2.2 q o u.2.2.2.1 ∧ u.1 ≤ l.length ∧ u.2.2.1 = orE e (firstE er (l.take u.1)) ∧ u.2.1.length ≤ out.length + (encN l.length).length + ((l.take u.1).flatMap bs).length ∧ (u.2.2.1 = 0 → u.2.1 = out ++ encN l.length ++ (l.take u.1).flatMap bs)) (fun u => l.length - u.1) ?_
      (0, out ++ encN l.length, e, o2, H2) ⟨w2, f2, Nat.zero_le _, by simp [firstE, orE_self], by simp, fun _ => by simp⟩
    rintro ⟨j, t, ej, p, G⟩ ⟨g1, g2, g3, g4, g5, g6⟩ ih
    simp only at g1 g2 g3 g4 g5 g6 ih ⊢
    repeat first|((first|refine qa tOk rfl ?_|refine qb tOk rfl ?_|refine qc ?_|refine qd ?_|refine qe ?_);simp)|refine AWP_block ?_|refine AWP_seq ?_
    refine AWP_cond2 rfl (fun h => ?_) (fun h => ?_)
    · have hlt : j < l.length := by simpa using h
      have hw1 : IntKind.i64.wrap ((j : Int) + 1) = j + 1 := wrap_i64 _ (by omega) (by omega)
      have q1 : ∀ A : AObj, (G ++ [A])[q]? = some (.vars [wOut t.length p, .i ej]) := fun A => get_app g1.1 _
      repeat first|((first|refine qa tOk rfl ?_|refine qb tOk rfl ?_|refine qc ?_|refine qd ?_|refine qe ?_);simp [hlt, q1])|refine AWP_block ?_|refine AWP_seq ?_
      refine AWP_cond2 rfl (fun hn => ?_) (fun hz => ?_)
      · have hn' : ej ≠ 0 := by simpa using hn
        repeat first|((first|refine qa tOk rfl ?_|refine qb tOk rfl ?_|refine qc ?_|refine qd ?_|refine qe ?_);simp)|refine AWP_block ?_|refine AWP_seq ?_
        have hfe : orE e (firstE er l) = ej := by
          conv => lhs; rw [← List.take_append_drop j l]
          rw [firstE_app, ← orE_assoc, ← g4, orE_ne hn']
        refine ⟨rfl, t, p, ?_, ?_, ?_, fun hz => ?_⟩
        · rw [hfe]; exact g1.app _
        · exact g2.trans ⟨by simp, .inl rfl, fun j hj _ _ => List.getElem?_append_left hj⟩
        · have := flat_le bs l j; omega
        · rw [hfe] at hz; exact absurd hz hn'
      · have hz' : ej = 0 := by simpa using hz
        have hle := flat_le bs l (j + 1)
        rw [flat_take bs l j hlt, List.length_append] at hle
        repeat first|((first|refine qa tOk rfl ?_|refine qb tOk rfl ?_|refine qc ?_|refine qd ?_|refine qe ?_);simp)|refine AWP_block ?_|refine AWP_seq ?_
        refine AStep_FC rfl rfl (hone l[j] (List.getElem_mem hlt) _ p t ej (g1.app _) (g2.trans ⟨by simp, .inl rfl, fun j hj _ _ => List.getElem?_append_left hj⟩) (by omega)) rfl ?_
        rintro _ G2 ⟨rfl, t2, p2, k1, k2, k3, k4⟩
        simp
        repeat first|((first|refine qa tOk rfl ?_|refine qb tOk rfl ?_|refine qc ?_|refine qd ?_|refine qe ?_);simp [hw1])|refine AWP_block ?_|refine AWP_seq ?_
        refine ALoop_keep (ih (j + 1, t2, orE ej (er l[j]), p2, G2) ⟨k1, g2.trans k2.cut, hlt, ?_, ?_, fun h => ?_⟩ (by simp only; omega)) (by simp)
        · simp only; rw [firstE_take er l j hlt, ← orE_assoc, ← g4]
        · simp only; rw [flat_take bs l j hlt, List.length_append]; omega
        · simp only at h ⊢; rw [k4 h, g6 hz', flat_take bs l j hlt]; simp
    · have hge : j = l.length := by simp at h; omega
      subst hge
      repeat first|((first|refine qa tOk rfl ?_|refine qb tOk rfl ?_|refine qc ?_|refine qd ?_|refine qe ?_);simp)|refine AWP_block ?_|refine AWP_seq ?_
      rw [List.take_length] at g4 g5 g6
      refine ⟨rfl, t, p, ?_, g2, by omega, fun h => ?_⟩
      · rw [← g4]; exact g1
      · rw [g6 (by rw [g4]; exact h), encL]; simp
set_option maxHeartbeats 2000000 in
theorem fc_put_Start (l : List Stt) (hl : l.length ≤ 1000000) (f : FuncId) (fs cs : List AV) (bs : Stt → List UInt8) (er : Stt → Int) (H : List AObj) (q : Nat) (o : Option Nat) (out : List UInt8) (e : Int) (hw : WA H q out e o) (hb : out.length + (encL bs l).length ≤ 1000000000)
    (hone : ∀ x ∈ l, ∀ (H' : List AObj) (o' : Option Nat) (out' : List UInt8) (e' : Int), WA H' q out' e' o' → Fr H H' q o o' → out'.length + (bs x).length ≤ 1000000000 → FC Tryz.prog f (fs ++ [avStt x] ++ cs) H' (WP H' q o' out' e' (bs x) (er x))) :
    FC Tryz.prog 262 [.vptr q 0, .list (l.map avStt), .fn (.func f) fs cs] H (WP H q o out e (encL bs l) (errL er l)) := by
  refine FC_body tOk Tryz.func262 rfl Tryz.results262 rfl (by simp [Tryz.ntmps262]) ?_
  rw [Tryz.ntmps262]
  simp only [argSlots]
  have hel := enc_len bs l
  repeat first|((first|refine qa tOk rfl ?_|refine qb tOk rfl ?_|refine qc ?_|refine qd ?_|refine qe ?_);simp)|refine AWP_block ?_|refine AWP_seq ?_
  by_cases hm : 4096 < l.length
  · refine AWP_cond2 rfl (fun _ => ?_) (fun h => by simp at h; omega)
    repeat first|((first|refine qa tOk rfl ?_|refine qb tOk rfl ?_|refine qc ?_|refine qd ?_|refine qe ?_);simp)|refine AWP_block ?_|refine AWP_seq ?_
    refine AStep_FC rfl rfl (fc_wfail H q o out e 5 hw) rfl ?_
    rintro _ _ ⟨rfl, rfl⟩
    have w1 := hw.err (orE e 5)
    have f1 := Fr.set H q o (wX out.length (orE e 5) o)
    have hne := many_ne e
    generalize H.set q (wX out.length (orE e 5) o) = H1 at *
    simp
    repeat first|((first|refine qa tOk rfl ?_|refine qb tOk rfl ?_|refine qc ?_|refine qd ?_|refine qe ?_);simp)|refine AWP_block ?_|refine AWP_seq ?_
    refine AStep_FC rfl rfl (fc_wint H1 q o out _ l.length (by constructor <;> omega) w1 (by omega)) rfl ?_
    rintro _ H2 ⟨rfl, o2, w2, f2, _⟩
    simp
    repeat first|((first|refine qa tOk rfl ?_|refine qb tOk rfl ?_|refine qc ?_|refine qd ?_|refine qe ?_);simp)|refine AWP_block ?_|refine AWP_seq ?_
    refine AWP_loop (ALoop_round ?_)
    have h0 : 0 < l.length := by omega
    repeat first|((first|refine qa tOk rfl ?_|refine qb tOk rfl ?_|refine qc ?_|refine qd ?_|refine qe ?_);simp)|refine AWP_block ?_|refine AWP_seq ?_
    refine AWP_cond2 rfl (fun _ => ?_) (fun h => by have := of_decide_eq_false h; omega)
    have g2 : ∀ A : AObj, (H2 ++ [A])[q]? = some (.vars [wOut (out ++ encN l.length).length o2, .i (orE e 5)]) := fun A => get_app w2.1 _
    repeat first|((first|refine qa tOk rfl ?_|refine qb tOk rfl ?_|refine qc ?_|refine qd ?_|refine qe ?_);simp [h0, g2])|refine AWP_block ?_|refine AWP_seq ?_
    refine AWP_cond2 rfl (fun _ => ?_) (fun h => by simp [hne] at h)
    repeat first|((first|refine qa tOk rfl ?_|refine qb tOk rfl ?_|refine qc ?_|refine qd ?_|refine qe ?_);simp)|refine AWP_block ?_|refine AWP_seq ?_
    refine ⟨rfl, out ++ encN l.length, o2, ?_, ?_, ?_, fun h => ?_⟩
    · rw [errL, if_pos hm]; exact w2.app _
    · exact f1.trans (f2.trans ⟨by simp, .inl rfl, fun j hj _ _ => List.getElem?_append_left hj⟩)
    · rw [List.length_append]; omega
    · rw [errL, if_pos hm] at h; exact absurd h hne
  · refine AWP_cond2 rfl (fun h => by simp at h; omega) (fun _ => ?_)
    rw [errL, if_neg hm]
    repeat first|((first|refine qa tOk rfl ?_|refine qb tOk rfl ?_|refine qc ?_|refine qd ?_|refine qe ?_);simp)|refine AWP_block ?_|refine AWP_seq ?_
    refine AStep_FC rfl rfl (fc_wint H q o out e l.length (by constructor <;> omega) hw (by omega)) rfl ?_
    rintro _ H2 ⟨rfl, o2, w2, f2, _⟩
    simp
    repeat first|((first|refine qa tOk rfl ?_|refine qb tOk rfl ?_|refine qc ?_|refine qd ?_|refine qe ?_);simp)|refine AWP_block ?_|refine AWP_seq ?_
    refine AWP_loop (ALoop_keep (sl' := [(0, .vptr q 0), (2, .fn (.func f) fs cs), (17, .list (l.map avStt)), (18, .i l.length), (19, .i 0)]) ?_ (by simp))
    refine ALoop_wf (F := fun (u : Nat × List UInt8 × Int × Option Nat × List AObj) => ⟨[(0, .vptr q 0), (2, .fn (.func f) fs cs), (17, .list (l.map avStt)), (18, .i l.length), (19, .i u.1)], u.2.2.2.2⟩)
      (fun u => WA u.2.2.2.2 q u.2.1 u.2.2.1 u.2.2.2.1 ∧ Fr H u.2.2.2.2 q o u.2.2.2.1 ∧ u.1 ≤ l.length ∧ u.2.2.1 = orE e (firstE er (l.take u.1)) ∧ u.2.1.length ≤ out.length + (encN l.length).length + ((l.take u.1).flatMap bs).length ∧ (u.2.2.1 = 0 → u.2.1 = out ++ encN l.length ++ (l.take u.1).flatMap bs)) (fun u => l.length - u.1) ?_
      (0, out ++ encN l.length, e, o2, H2) ⟨w2, f2, Nat.zero_le _, by simp [firstE, orE_self], by simp, fun _ => by simp⟩
    rintro ⟨j, t, ej, p, G⟩ ⟨g1, g2, g3, g4, g5, g6⟩ ih
    simp only at g1 g2 g3 g4 g5 g6 ih ⊢
    repeat first|((first|refine qa tOk rfl ?_|refine qb tOk rfl ?_|refine qc ?_|refine qd ?_|refine qe ?_);simp)|refine AWP_block ?_|refine AWP_seq ?_
    refine AWP_cond2 rfl (fun h => ?_) (fun h => ?_)
    · have hlt : j < l.length := by simpa using h
      have hw1 : IntKind.i64.wrap ((j : Int) + 1) = j + 1 := wrap_i64 _ (by omega) (by omega)
      have q1 : ∀ A : AObj, (G ++ [A])[q]? = some (.vars [wOut t.length p, .i ej]) := fun A => get_app g1.1 _
      repeat first|((first|refine qa tOk rfl ?_|refine qb tOk rfl ?_|refine qc ?_|refine qd ?_|refine qe ?_);simp [hlt, q1])|refine AWP_block ?_|refine AWP_seq ?_
      refine AWP_cond2 rfl (fun hn => ?_) (fun hz => ?_)
      · have hn' : ej ≠ 0 := by simpa using hn
        repeat first|((first|refine qa tOk rfl ?_|refine qb tOk rfl ?_|refine qc ?_|refine qd ?_|refine qe ?_);simp)|refine AWP_block ?_|refine AWP_seq ?_
        have hfe : orE e (firstE er l) = ej := by
          conv => lhs; rw [← List.take_append_drop j l]
          rw [firstE_app, ← orE_assoc, ← g4, orE_ne hn']
        refine ⟨rfl, t, p, ?_, ?_, ?_, fun hz => ?_⟩
        · rw [hfe]; exact g1.app _
        · exact g2.trans ⟨by simp, .inl rfl, fun j hj _ _ => List.getElem?_append_left hj⟩
        · have := flat_le bs l j; omega
        · rw [hfe] at hz; exact absurd hz hn'
      · have hz' : ej = 0 := by simpa using hz
        have hle := flat_le bs l (j + 1)
        rw [flat_take bs l j hlt, List.length_append] at hle
        repeat first|((first|refine qa tOk rfl ?_|refine qb tOk rfl ?_|refine qc ?_|refine qd ?_|refine qe ?_);simp)|refine AWP_block ?_|refine AWP_seq ?_
        refine AStep_FC rfl rfl (hone l[j] (List.getElem_mem hlt) _ p t ej (g1.app _) (g2.trans ⟨by simp, .inl rfl, fun j hj _ _ => List.getElem?_append_left hj⟩) (by omega)) rfl ?_
        rintro _ G2 ⟨rfl, t2, p2, k1, k2, k3, k4⟩
        simp
        repeat first|((first|refine qa tOk rfl ?_|refine qb tOk rfl ?_|refine qc ?_|refine qd ?_|refine qe ?_);simp [hw1])|refine AWP_block ?_|refine AWP_seq ?_
        refine ALoop_keep (ih (j + 1, t2, orE ej (er l[j]), p2, G2) ⟨k1, g2.trans k2.cut, hlt, ?_, ?_, fun h => ?_⟩ (by simp only; omega)) (by simp)
        · simp only; rw [firstE_take er l j hlt, ← orE_assoc, ← g4]
        · simp only; rw [flat_take bs l j hlt, List.length_append]; omega
        · simp only at h ⊢; rw [k4 h, g6 hz', flat_take bs l j hlt]; simp
    · have hge : j = l.length := by simp at h; omega
      subst hge
      repeat first|((first|refine qa tOk rfl ?_|refine qb tOk rfl ?_|refine qc ?_|refine qd ?_|refine qe ?_);simp)|refine AWP_block ?_|refine AWP_seq ?_
      rw [List.take_length] at g4 g5 g6
      refine ⟨rfl, t, p, ?_, g2, by omega, fun h => ?_⟩
      · rw [← g4]; exact g1
      · rw [g6 (by rw [g4]; exact h), encL]; simp
set_option maxHeartbeats 2000000 in
theorem fc_put_Event (l : List Ev) (hl : l.length ≤ 1000000) (f : FuncId) (fs cs : List AV) (bs : Ev → List UInt8) (er : Ev → Int) (H : List AObj) (q : Nat) (o : Option Nat) (out : List UInt8) (e : Int) (hw : WA H q out e o) (hb : out.length + (encL bs l).length ≤ 1000000000)
    (hone : ∀ x ∈ l, ∀ (H' : List AObj) (o' : Option Nat) (out' : List UInt8) (e' : Int), WA H' q out' e' o' → Fr H H' q o o' → out'.length + (bs x).length ≤ 1000000000 → FC Tryz.prog f (fs ++ [encE x] ++ cs) H' (WP H' q o' out' e' (bs x) (er x))) :
    FC Tryz.prog 240 [.vptr q 0, .list (l.map encE), .fn (.func f) fs cs] H (WP H q o out e (encL bs l) (errL er l)) := by
  refine FC_body tOk Tryz.func240 rfl Tryz.results240 rfl (by simp [Tryz.ntmps240]) ?_
  rw [Tryz.ntmps240]
  simp only [argSlots]
  have hel := enc_len bs l
  repeat first|((first|refine qa tOk rfl ?_|refine qb tOk rfl ?_|refine qc ?_|refine qd ?_|refine qe ?_);simp)|refine AWP_block ?_|refine AWP_seq ?_
  by_cases hm : 4096 < l.length
  · refine AWP_cond2 rfl (fun _ => ?_) (fun h => by simp at h; omega)
    repeat first|((first|refine qa tOk rfl ?_|refine qb tOk rfl ?_|refine qc ?_|refine qd ?_|refine qe ?_);simp)|refine AWP_block ?_|refine AWP_seq ?_
    refine AStep_FC rfl rfl (fc_wfail H q o out e 5 hw) rfl ?_
    rintro _ _ ⟨rfl, rfl⟩
    have w1 := hw.err (orE e 5)
    have f1 := Fr.set H q o (wX out.length (orE e 5) o)
    have hne := many_ne e
    generalize H.set q (wX out.length (orE e 5) o) = H1 at *
    simp
    repeat first|((first|refine qa tOk rfl ?_|refine qb tOk rfl ?_|refine qc ?_|refine qd ?_|refine qe ?_);simp)|refine AWP_block ?_|refine AWP_seq ?_
    refine AStep_FC rfl rfl (fc_wint H1 q o out _ l.length (by constructor <;> omega) w1 (by omega)) rfl ?_
    rintro _ H2 ⟨rfl, o2, w2, f2, _⟩
    simp
    repeat first|((first|refine qa tOk rfl ?_|refine qb tOk rfl ?_|refine qc ?_|refine qd ?_|refine qe ?_);simp)|refine AWP_block ?_|refine AWP_seq ?_
    refine AWP_loop (ALoop_round ?_)
    have h0 : 0 < l.length := by omega
    repeat first|((first|refine qa tOk rfl ?_|refine qb tOk rfl ?_|refine qc ?_|refine qd ?_|refine qe ?_);simp)|refine AWP_block ?_|refine AWP_seq ?_
    refine AWP_cond2 rfl (fun _ => ?_) (fun h => by have := of_decide_eq_false h; omega)
    have g2 : ∀ A : AObj, (H2 ++ [A])[q]? = some (.vars [wOut (out ++ encN l.length).length o2, .i (orE e 5)]) := fun A => get_app w2.1 _
    repeat first|((first|refine qa tOk rfl ?_|refine qb tOk rfl ?_|refine qc ?_|refine qd ?_|refine qe ?_);simp [h0, g2])|refine AWP_block ?_|refine AWP_seq ?_
    refine AWP_cond2 rfl (fun _ => ?_) (fun h => by simp [hne] at h)
    repeat first|((first|refine qa tOk rfl ?_|refine qb tOk rfl ?_|refine qc ?_|refine qd ?_|refine qe ?_);simp)|refine AWP_block ?_|refine AWP_seq ?_
    refine ⟨rfl, out ++ encN l.length, o2, ?_, ?_, ?_, fun h => ?_⟩
    · rw [errL, if_pos hm]; exact w2.app _
    · exact f1.trans (f2.trans ⟨by simp, .inl rfl, fun j hj _ _ => List.getElem?_append_left hj⟩)
    · rw [List.length_append]; omega
    · rw [errL, if_pos hm] at h; exact absurd h hne
  · refine AWP_cond2 rfl (fun h => by simp at h; omega) (fun _ => ?_)
    rw [errL, if_neg hm]
    repeat first|((first|refine qa tOk rfl ?_|refine qb tOk rfl ?_|refine qc ?_|refine qd ?_|refine qe ?_);simp)|refine AWP_block ?_|refine AWP_seq ?_
    refine AStep_FC rfl rfl (fc_wint H q o out e l.length (by constructor <;> omega) hw (by omega)) rfl ?_
    rintro _ H2 ⟨rfl, o2, w2, f2, _⟩
    simp
    repeat first|((first|refine qa tOk rfl ?_|refine qb tOk rfl ?_|refine qc ?_|refine qd ?_|refine qe ?_);simp)|refine AWP_block ?_|refine AWP_seq ?_
    refine AWP_loop (ALoop_keep (sl' := [(0, .vptr q 0), (2, .fn (.func f) fs cs), (17, .list (l.map encE)), (18, .i l.length), (19, .i 0)]) ?_ (by simp))
    refine ALoop_wf (F := fun (u : Nat × List UInt8 × Int × Option Nat × List AObj) => ⟨[(0, .vptr q 0), (2, .fn (.func f) fs cs), (17, .list (l.map encE)), (18, .i l.length), (19, .i u.1)], u.2.2.2.2⟩)
      (fun u => WA u.2.2.2.2 q u.2.1 u.2.2.1 u.2.2.2.1 ∧ Fr H u.2.2.2.2 q o u.2.2.2.1 ∧ u.1 ≤ l.length ∧ u.2.2.1 = orE e (firstE er (l.take u.1)) ∧ u.2.1.length ≤ out.length + (encN l.length).length + ((l.take u.1).flatMap bs).length ∧ (u.2.2.1 = 0 → u.2.1 = out ++ encN l.length ++ (l.take u.1).flatMap bs)) (fun u => l.length - u.1) ?_
      (0, out ++ encN l.length, e, o2, H2) ⟨w2, f2, Nat.zero_le _, by simp [firstE, orE_self], by simp, fun _ => by simp⟩
    rintro ⟨j, t, ej, p, G⟩ ⟨g1, g2, g3, g4, g5, g6⟩ ih
    simp only at g1 g2 g3 g4 g5 g6 ih ⊢
    repeat first|((first|refine qa tOk rfl ?_|refine qb tOk rfl ?_|refine qc ?_|refine qd ?_|refine qe ?_);simp)|refine AWP_block ?_|refine AWP_seq ?_
    refine AWP_cond2 rfl (fun h => ?_) (fun h => ?_)
    · have hlt : j < l.length := by simpa using h
      have hw1 : IntKind.i64.wrap ((j : Int) + 1) = j + 1 := wrap_i64 _ (by omega) (by omega)
      have q1 : ∀ A : AObj, (G ++ [A])[q]? = some (.vars [wOut t.length p, .i ej]) := fun A => get_app g1.1 _
      repeat first|((first|refine qa tOk rfl ?_|refine qb tOk rfl ?_|refine qc ?_|refine qd ?_|refine qe ?_);simp [hlt, q1])|refine AWP_block ?_|refine AWP_seq ?_
      refine AWP_cond2 rfl (fun hn => ?_) (fun hz => ?_)
      · have hn' : ej ≠ 0 := by simpa using hn
        repeat first|((first|refine qa tOk rfl ?_|refine qb tOk rfl ?_|refine qc ?_|refine qd ?_|refine qe ?_);simp)|refine AWP_block ?_|refine AWP_seq ?_
        have hfe : orE e (firstE er l) = ej := by
          conv => lhs; rw [← List.take_append_drop j l]
          rw [firstE_app, ← orE_assoc, ← g4, orE_ne hn']
        refine ⟨rfl, t, p, ?_, ?_, ?_, fun hz => ?_⟩
        · rw [hfe]; exact g1.app _
        · exact g2.trans ⟨by simp, .inl rfl, fun j hj _ _ => List.getElem?_append_left hj⟩
        · have := flat_le bs l j; omega
        · rw [hfe] at hz; exact absurd hz hn'
      · have hz' : ej = 0 := by simpa using hz
        have hle := flat_le bs l (j + 1)
        rw [flat_take bs l j hlt, List.length_append] at hle
        repeat first|((first|refine qa tOk rfl ?_|refine qb tOk rfl ?_|refine qc ?_|refine qd ?_|refine qe ?_);simp)|refine AWP_block ?_|refine AWP_seq ?_
        refine AStep_FC rfl rfl (hone l[j] (List.getElem_mem hlt) _ p t ej (g1.app _) (g2.trans ⟨by simp, .inl rfl, fun j hj _ _ => List.getElem?_append_left hj⟩) (by omega)) rfl ?_
        rintro _ G2 ⟨rfl, t2, p2, k1, k2, k3, k4⟩
        simp
        repeat first|((first|refine qa tOk rfl ?_|refine qb tOk rfl ?_|refine qc ?_|refine qd ?_|refine qe ?_);simp [hw1])|refine AWP_block ?_|refine AWP_seq ?_
        refine ALoop_keep (ih (j + 1, t2, orE ej (er l[j]), p2, G2) ⟨k1, g2.trans k2.cut, hlt, ?_, ?_, fun h => ?_⟩ (by simp only; omega)) (by simp)
        · simp only; rw [firstE_take er l j hlt, ← orE_assoc, ← g4]
        · simp only; rw [flat_take bs l j hlt, List.length_append]; omega
        · simp only at h ⊢; rw [k4 h, g6 hz', flat_take bs l j hlt]; simp
    · have hge : j = l.length := by simp at h; omega
      subst hge
      repeat first|((first|refine qa tOk rfl ?_|refine qb tOk rfl ?_|refine qc ?_|refine qd ?_|refine qe ?_);simp)|refine AWP_block ?_|refine AWP_seq ?_
      rw [List.take_length] at g4 g5 g6
      refine ⟨rfl, t, p, ?_, g2, by omega, fun h => ?_⟩
      · rw [← g4]; exact g1
      · rw [g6 (by rw [g4]; exact h), encL]; simp
set_option maxHeartbeats 2000000 in
theorem fc_put_Config (l : List Cfg) (hl : l.length ≤ 1000000) (f : FuncId) (fs cs : List AV) (bs : Cfg → List UInt8) (er : Cfg → Int) (H : List AObj) (q : Nat) (o : Option Nat) (out : List UInt8) (e : Int) (hw : WA H q out e o) (hb : out.length + (encL bs l).length ≤ 1000000000)
    (hone : ∀ x ∈ l, ∀ (H' : List AObj) (o' : Option Nat) (out' : List UInt8) (e' : Int), WA H' q out' e' o' → Fr H H' q o o' → out'.length + (bs x).length ≤ 1000000000 → FC Tryz.prog f (fs ++ [avCfg x] ++ cs) H' (WP H' q o' out' e' (bs x) (er x))) :
    FC Tryz.prog 242 [.vptr q 0, .list (l.map avCfg), .fn (.func f) fs cs] H (WP H q o out e (encL bs l) (errL er l)) := by
  refine FC_body tOk Tryz.func242 rfl Tryz.results242 rfl (by simp [Tryz.ntmps242]) ?_
  rw [Tryz.ntmps242]
  simp only [argSlots]
  have hel := enc_len bs l
  repeat first|((first|refine qa tOk rfl ?_|refine qb tOk rfl ?_|refine qc ?_|refine qd ?_|refine qe ?_);simp)|refine AWP_block ?_|refine AWP_seq ?_
  by_cases hm : 4096 < l.length
  · refine AWP_cond2 rfl (fun _ => ?_) (fun h => by simp at h; omega)
    repeat first|((first|refine qa tOk rfl ?_|refine qb tOk rfl ?_|refine qc ?_|refine qd ?_|refine qe ?_);simp)|refine AWP_block ?_|refine AWP_seq ?_
    refine AStep_FC rfl rfl (fc_wfail H q o out e 5 hw) rfl ?_
    rintro _ _ ⟨rfl, rfl⟩
    have w1 := hw.err (orE e 5)
    have f1 := Fr.set H q o (wX out.length (orE e 5) o)
    have hne := many_ne e
    generalize H.set q (wX out.length (orE e 5) o) = H1 at *
    simp
    repeat first|((first|refine qa tOk rfl ?_|refine qb tOk rfl ?_|refine qc ?_|refine qd ?_|refine qe ?_);simp)|refine AWP_block ?_|refine AWP_seq ?_
    refine AStep_FC rfl rfl (fc_wint H1 q o out _ l.length (by constructor <;> omega) w1 (by omega)) rfl ?_
    rintro _ H2 ⟨rfl, o2, w2, f2, _⟩
    simp
    repeat first|((first|refine qa tOk rfl ?_|refine qb tOk rfl ?_|refine qc ?_|refine qd ?_|refine qe ?_);simp)|refine AWP_block ?_|refine AWP_seq ?_
    refine AWP_loop (ALoop_round ?_)
    have h0 : 0 < l.length := by omega
    repeat first|((first|refine qa tOk rfl ?_|refine qb tOk rfl ?_|refine qc ?_|refine qd ?_|refine qe ?_);simp)|refine AWP_block ?_|refine AWP_seq ?_
    refine AWP_cond2 rfl (fun _ => ?_) (fun h => by have := of_decide_eq_false h; omega)
    have g2 : ∀ A : AObj, (H2 ++ [A])[q]? = some (.vars [wOut (out ++ encN l.length).length o2, .i (orE e 5)]) := fun A => get_app w2.1 _
    repeat first|((first|refine qa tOk rfl ?_|refine qb tOk rfl ?_|refine qc ?_|refine qd ?_|refine qe ?_);simp [h0, g2])|refine AWP_block ?_|refine AWP_seq ?_
    refine AWP_cond2 rfl (fun _ => ?_) (fun h => by simp [hne] at h)
    repeat first|((first|refine qa tOk rfl ?_|refine qb tOk rfl ?_|refine qc ?_|refine qd ?_|refine qe ?_);simp)|refine AWP_block ?_|refine AWP_seq ?_
    refine ⟨rfl, out ++ encN l.length, o2, ?_, ?_, ?_, fun h => ?_⟩
    · rw [errL, if_pos hm]; exact w2.app _
    · exact f1.trans (f2.trans ⟨by simp, .inl rfl, fun j hj _ _ => List.getElem?_append_left hj⟩)
    · rw [List.length_append]; omega
    · rw [errL, if_pos hm] at h; exact absurd h hne
  · refine AWP_cond2 rfl (fun h => by simp at h; omega) (fun _ => ?_)
    rw [errL, if_neg hm]
    repeat first|((first|refine qa tOk rfl ?_|refine qb tOk rfl ?_|refine qc ?_|refine qd ?_|refine qe ?_);simp)|refine AWP_block ?_|refine AWP_seq ?_
    refine AStep_FC rfl rfl (fc_wint H q o out e l.length (by constructor <;> omega) hw (by omega)) rfl ?_
    rintro _ H2 ⟨rfl, o2, w2, f2, _⟩
    simp
    repeat first|((first|refine qa tOk rfl ?_|refine qb tOk rfl ?_|refine qc ?_|refine qd ?_|refine qe ?_);simp)|refine AWP_block ?_|refine AWP_seq ?_
    refine AWP_loop (ALoop_keep (sl' := [(0, .vptr q 0), (2, .fn (.func f) fs cs), (17, .list (l.map avCfg)), (18, .i l.length), (19, .i 0)]) ?_ (by simp))
    refine ALoop_wf (F := fun (u : Nat × List UInt8 × Int × Option Nat × List AObj) => ⟨[(0, .vptr q 0), (2, .fn (.func f) fs cs), (17, .list (l.map avCfg)), (18, .i l.length), (19, .i u.1)], u.2.2.2.2⟩)
      (fun u => WA u.2.2.2.2 q u.2.1 u.2.2.1 u.2.2.2.1 ∧ Fr H u.2.2.2.2 q o u.2.2.2.1 ∧ u.1 ≤ l.length ∧ u.2.2.1 = orE e (firstE er (l.take u.1)) ∧ u.2.1.length ≤ out.length + (encN l.length).length + ((l.take u.1).flatMap bs).length ∧ (u.2.2.1 = 0 → u.2.1 = out ++ encN l.length ++ (l.take u.1).flatMap bs)) (fun u => l.length - u.1) ?_
      (0, out ++ encN l.length, e, o2, H2) ⟨w2, f2, Nat.zero_le _, by simp [firstE, orE_self], by simp, fun _ => by simp⟩
    rintro ⟨j, t, ej, p, G⟩ ⟨g1, g2, g3, g4, g5, g6⟩ ih
    simp only at g1 g2 g3 g4 g5 g6 ih ⊢
    repeat first|((first|refine qa tOk rfl ?_|refine qb tOk rfl ?_|refine qc ?_|refine qd ?_|refine qe ?_);simp)|refine AWP_block ?_|refine AWP_seq ?_
    refine AWP_cond2 rfl (fun h => ?_) (fun h => ?_)
    · have hlt : j < l.length := by simpa using h
      have hw1 : IntKind.i64.wrap ((j : Int) + 1) = j + 1 := wrap_i64 _ (by omega) (by omega)
      have q1 : ∀ A : AObj, (G ++ [A])[q]? = some (.vars [wOut t.length p, .i ej]) := fun A => get_app g1.1 _
      repeat first|((first|refine qa tOk rfl ?_|refine qb tOk rfl ?_|refine qc ?_|refine qd ?_|refine qe ?_);simp [hlt, q1])|refine AWP_block ?_|refine AWP_seq ?_
      refine AWP_cond2 rfl (fun hn => ?_) (fun hz => ?_)
      · have hn' : ej ≠ 0 := by simpa using hn
        repeat first|((first|refine qa tOk rfl ?_|refine qb tOk rfl ?_|refine qc ?_|refine qd ?_|refine qe ?_);simp)|refine AWP_block ?_|refine AWP_seq ?_
        have hfe : orE e (firstE er l) = ej := by
          conv => lhs; rw [← List.take_append_drop j l]
          rw [firstE_app, ← orE_assoc, ← g4, orE_ne hn']
        refine ⟨rfl, t, p, ?_, ?_, ?_, fun hz => ?_⟩
        · rw [hfe]; exact g1.app _
        · exact g2.trans ⟨by simp, .inl rfl, fun j hj _ _ => List.getElem?_append_left hj⟩
        · have := flat_le bs l j; omega
        · rw [hfe] at hz; exact absurd hz hn'
      · have hz' : ej = 0 := by simpa using hz
        have hle := flat_le bs l (j + 1)
        rw [flat_take bs l j hlt, List.length_append] at hle
        repeat first|((first|refine qa tOk rfl ?_|refine qb tOk rfl ?_|refine qc ?_|refine qd ?_|refine qe ?_);simp)|refine AWP_block ?_|refine AWP_seq ?_
        refine AStep_FC rfl rfl (hone l[j] (List.getElem_mem hlt) _ p t ej (g1.app _) (g2.trans ⟨by simp, .inl rfl, fun j hj _ _ => List.getElem?_append_left hj⟩) (by omega)) rfl ?_
        rintro _ G2 ⟨rfl, t2, p2, k1, k2, k3, k4⟩
        simp
        repeat first|((first|refine qa tOk rfl ?_|refine qb tOk rfl ?_|refine qc ?_|refine qd ?_|refine qe ?_);simp [hw1])|refine AWP_block ?_|refine AWP_seq ?_
        refine ALoop_keep (ih (j + 1, t2, orE ej (er l[j]), p2, G2) ⟨k1, g2.trans k2.cut, hlt, ?_, ?_, fun h => ?_⟩ (by simp only; omega)) (by simp)
        · simp only; rw [firstE_take er l j hlt, ← orE_assoc, ← g4]
        · simp only; rw [flat_take bs l j hlt, List.length_append]; omega
        · simp only at h ⊢; rw [k4 h, g6 hz', flat_take bs l j hlt]; simp
    · have hge : j = l.length := by simp at h; omega
      subst hge
      repeat first|((first|refine qa tOk rfl ?_|refine qb tOk rfl ?_|refine qc ?_|refine qd ?_|refine qe ?_);simp)|refine AWP_block ?_|refine AWP_seq ?_
      rw [List.take_length] at g4 g5 g6
      refine ⟨rfl, t, p, ?_, g2, by omega, fun h => ?_⟩
      · rw [← g4]; exact g1
      · rw [g6 (by rw [g4]; exact h), encL]; simp
set_option maxHeartbeats 2000000 in
theorem fc_put_int (l : List Int) (hl : l.length ≤ 1000000) (f : FuncId) (fs cs : List AV) (bs : Int → List UInt8) (er : Int → Int) (H : List AObj) (q : Nat) (o : Option Nat) (out : List UInt8) (e : Int) (hw : WA H q out e o) (hb : out.length + (encL bs l).length ≤ 1000000000)
    (hone : ∀ x ∈ l, ∀ (H' : List AObj) (o' : Option Nat) (out' : List UInt8) (e' : Int), WA H' q out' e' o' → Fr H H' q o o' → out'.length + (bs x).length ≤ 1000000000 → FC Tryz.prog f (fs ++ [encI x] ++ cs) H' (WP H' q o' out' e' (bs x) (er x))) :
    FC Tryz.prog 215 [.vptr q 0, .list (l.map encI), .fn (.func f) fs cs] H (WP H q o out e (encL bs l) (errL er l)) := by
  refine FC_body tOk Tryz.func215 rfl Tryz.results215 rfl (by simp [Tryz.ntmps215]) ?_
  rw [Tryz.ntmps215]
  simp only [argSlots]
  have hel := enc_len bs l
  repeat first|((first|refine qa tOk rfl ?_|refine qb tOk rfl ?_|refine qc ?_|refine qd ?_|refine qe ?_);simp)|refine AWP_block ?_|refine AWP_seq ?_
  by_cases hm : 4096 < l.length
  · refine AWP_cond2 rfl (fun _ => ?_) (fun h => by simp at h; omega)
    repeat first|((first|refine qa tOk rfl ?_|refine qb tOk rfl ?_|refine qc ?_|refine qd ?_|refine qe ?_);simp)|refine AWP_block ?_|refine AWP_seq ?_
    refine AStep_FC rfl rfl (fc_wfail H q o out e 5 hw) rfl ?_
    rintro _ _ ⟨rfl, rfl⟩
    have w1 := hw.err (orE e 5)
    have f1 := Fr.set H q o (wX out.length (orE e 5) o)
    have hne := many_ne e
    generalize H.set q (wX out.length (orE e 5) o) = H1 at *
    simp
    repeat first|((first|refine qa tOk rfl ?_|refine qb tOk rfl ?_|refine qc ?_|refine qd ?_|refine qe ?_);simp)|refine AWP_block ?_|refine AWP_seq ?_
    refine AStep_FC rfl rfl (fc_wint H1 q o out _ l.length (by constructor <;> omega) w1 (by omega)) rfl ?_
    rintro _ H2 ⟨rfl, o2, w2, f2, _⟩
    simp
    repeat first|((first|refine qa tOk rfl ?_|refine qb tOk rfl ?_|refine qc ?_|refine qd ?_|refine qe ?_);simp)|refine AWP_block ?_|refine AWP_seq ?_
    refine AWP_loop (ALoop_round ?_)
    have h0 : 0 < l.length := by omega
    repeat first|((first|refine qa tOk rfl ?_|refine qb tOk rfl ?_|refine qc ?_|refine qd ?_|refine qe ?_);simp)|refine AWP_block ?_|refine AWP_seq ?_
    refine AWP_cond2 rfl (fun _ => ?_) (fun h => by have := of_decide_eq_false h; omega)
    have g2 : H2[q]? = some (.vars [wOut (out ++ encN l.length).length o2, .i (orE e 5)]) := w2.1
    repeat first|((first|refine qa tOk rfl ?_|refine qb tOk rfl ?_|refine qc ?_|refine qd ?_|refine qe ?_);simp [h0, g2])|refine AWP_block ?_|refine AWP_seq ?_
    refine AWP_cond2 rfl (fun _ => ?_) (fun h => by simp [hne] at h)
    repeat first|((first|refine qa tOk rfl ?_|refine qb tOk rfl ?_|refine qc ?_|refine qd ?_|refine qe ?_);simp)|refine AWP_block ?_|refine AWP_seq ?_
    refine ⟨rfl, out ++ encN l.length, o2, ?_, ?_, ?_, fun h => ?_⟩
    · rw [errL, if_pos hm]; exact w2
    · exact f1.trans (f2)
    · rw [List.length_append]; omega
    · rw [errL, if_pos hm] at h; exact absurd h hne
  · refine AWP_cond2 rfl (fun h => by simp at h; omega) (fun _ => ?_)
    rw [errL, if_neg hm]
    repeat first|((first|refine qa tOk rfl ?_|refine qb tOk rfl ?_|refine qc ?_|refine qd ?_|refine qe ?_);simp)|refine AWP_block ?_|refine AWP_seq ?_
    refine AStep_FC rfl rfl (fc_wint H q o out e l.length (by constructor <;> omega) hw (by omega)) rfl ?_
    rintro _ H2 ⟨rfl, o2, w2, f2, _⟩
    simp
    repeat first|((first|refine qa tOk rfl ?_|refine qb tOk rfl ?_|refine qc ?_|refine qd ?_|refine qe ?_);simp)|refine AWP_block ?_|refine AWP_seq ?_
    refine AWP_loop (ALoop_keep (sl' := [(0, .vptr q 0), (2, .fn (.func f) fs cs), (17, .list (l.map encI)), (18, .i l.length), (19, .i 0)]) ?_ (by simp))
    refine ALoop_wf (F := fun (u : Nat × List UInt8 × Int × Option Nat × List AObj) => ⟨[(0, .vptr q 0), (2, .fn (.func f) fs cs), (17, .list (l.map encI)), (18, .i l.length), (19, .i u.1)], u.2.2.2.2⟩)
      (fun u => WA u.2.2.2.2 q u.2.1 u.2.2.1 u.2.2.2.1 ∧ Fr H u.2.2.2.2 q o u.2.2.2.1 ∧ u.1 ≤ l.length ∧ u.2.2.1 = orE e (firstE er (l.take u.1)) ∧ u.2.1.length ≤ out.length + (encN l.length).length + ((l.take u.1).flatMap bs).length ∧ (u.2.2.1 = 0 → u.2.1 = out ++ encN l.length ++ (l.take u.1).flatMap bs)) (fun u => l.length - u.1) ?_
      (0, out ++ encN l.length, e, o2, H2) ⟨w2, f2, Nat.zero_le _, by simp [firstE, orE_self], by simp, fun _ => by simp⟩
    rintro ⟨j, t, ej, p, G⟩ ⟨g1, g2, g3, g4, g5, g6⟩ ih
    simp only at g1 g2 g3 g4 g5 g6 ih ⊢
    repeat first|((first|refine qa tOk rfl ?_|refine qb tOk rfl ?_|refine qc ?_|refine qd ?_|refine qe ?_);simp)|refine AWP_block ?_|refine AWP_seq ?_
    refine AWP_cond2 rfl (fun h => ?_) (fun h => ?_)
    · have hlt : j < l.length := by simpa using h
      have hw1 : IntKind.i64.wrap ((j : Int) + 1) = j + 1 := wrap_i64 _ (by omega) (by omega)
      have q1 : G[q]? = some (.vars [wOut t.length p, .i ej]) := g1.1
      repeat first|((first|refine qa tOk rfl ?_|refine qb tOk rfl ?_|refine qc ?_|refine qd ?_|refine qe ?_);simp [hlt, q1])|refine AWP_block ?_|refine AWP_seq ?_
      refine AWP_cond2 rfl (fun hn => ?_) (fun hz => ?_)
      · have hn' : ej ≠ 0 := by simpa using hn
        repeat first|((first|refine qa tOk rfl ?_|refine qb tOk rfl ?_|refine qc ?_|refine qd ?_|refine qe ?_);simp)|refine AWP_block ?_|refine AWP_seq ?_
        have hfe : orE e (firstE er l) = ej := by
          conv => lhs; rw [← List.take_append_drop j l]
          rw [firstE_app, ← orE_assoc, ← g4, orE_ne hn']
        refine ⟨rfl, t, p, ?_, ?_, ?_, fun hz => ?_⟩
        · rw [hfe]; exact g1
        · exact g2
        · have := flat_le bs l j; omega
        · rw [hfe] at hz; exact absurd hz hn'
      · have hz' : ej = 0 := by simpa using hz
        have hle := flat_le bs l (j + 1)
        rw [flat_take bs l j hlt, List.length_append] at hle
        repeat first|((first|refine qa tOk rfl ?_|refine qb tOk rfl ?_|refine qc ?_|refine qd ?_|refine qe ?_);simp)|refine AWP_block ?_|refine AWP_seq ?_
        refine AStep_FC rfl rfl (hone l[j] (List.getElem_mem hlt) _ p t ej g1 (g2) (by omega)) rfl ?_
        rintro _ G2 ⟨rfl, t2, p2, k1, k2, k3, k4⟩
        simp
        repeat first|((first|refine qa tOk rfl ?_|refine qb tOk rfl ?_|refine qc ?_|refine qd ?_|refine qe ?_);simp [hw1])|refine AWP_block ?_|refine AWP_seq ?_
        refine ALoop_keep (ih (j + 1, t2, orE ej (er l[j]), p2, G2) ⟨k1, g2.trans k2, hlt, ?_, ?_, fun h => ?_⟩ (by simp only; omega)) (by simp)
        · simp only; rw [firstE_take er l j hlt, ← orE_assoc, ← g4]
        · simp only; rw [flat_take bs l j hlt, List.length_append]; omega
        · simp only at h ⊢; rw [k4 h, g6 hz', flat_take bs l j hlt]; simp
    · have hge : j = l.length := by simp at h; omega
      subst hge
      repeat first|((first|refine qa tOk rfl ?_|refine qb tOk rfl ?_|refine qc ?_|refine qd ?_|refine qe ?_);simp)|refine AWP_block ?_|refine AWP_seq ?_
      rw [List.take_length] at g4 g5 g6
      refine ⟨rfl, t, p, ?_, g2, by omega, fun h => ?_⟩
      · rw [← g4]; exact g1
      · rw [g6 (by rw [g4]; exact h), encL]; simp
set_option maxHeartbeats 2000000 in
theorem fc_put_Point (l : List Pnt) (hl : l.length ≤ 1000000) (f : FuncId) (fs cs : List AV) (bs : Pnt → List UInt8) (er : Pnt → Int) (H : List AObj) (q : Nat) (o : Option Nat) (out : List UInt8) (e : Int) (hw : WA H q out e o) (hb : out.length + (encL bs l).length ≤ 1000000000)
    (hone : ∀ x ∈ l, ∀ (H' : List AObj) (o' : Option Nat) (out' : List UInt8) (e' : Int), WA H' q out' e' o' → Fr H H' q o o' → out'.length + (bs x).length ≤ 1000000000 → FC Tryz.prog f (fs ++ [avPnt x] ++ cs) H' (WP H' q o' out' e' (bs x) (er x))) :
    FC Tryz.prog 216 [.vptr q 0, .list (l.map avPnt), .fn (.func f) fs cs] H (WP H q o out e (encL bs l) (errL er l)) := by
  refine FC_body tOk Tryz.func216 rfl Tryz.results216 rfl (by simp [Tryz.ntmps216]) ?_
  rw [Tryz.ntmps216]
  simp only [argSlots]
  have hel := enc_len bs l
  repeat first|((first|refine qa tOk rfl ?_|refine qb tOk rfl ?_|refine qc ?_|refine qd ?_|refine qe ?_);simp)|refine AWP_block ?_|refine AWP_seq ?_
  by_cases hm : 4096 < l.length
  · refine AWP_cond2 rfl (fun _ => ?_) (fun h => by simp at h; omega)
    repeat first|((first|refine qa tOk rfl ?_|refine qb tOk rfl ?_|refine qc ?_|refine qd ?_|refine qe ?_);simp)|refine AWP_block ?_|refine AWP_seq ?_
    refine AStep_FC rfl rfl (fc_wfail H q o out e 5 hw) rfl ?_
    rintro _ _ ⟨rfl, rfl⟩
    have w1 := hw.err (orE e 5)
    have f1 := Fr.set H q o (wX out.length (orE e 5) o)
    have hne := many_ne e
    generalize H.set q (wX out.length (orE e 5) o) = H1 at *
    simp
    repeat first|((first|refine qa tOk rfl ?_|refine qb tOk rfl ?_|refine qc ?_|refine qd ?_|refine qe ?_);simp)|refine AWP_block ?_|refine AWP_seq ?_
    refine AStep_FC rfl rfl (fc_wint H1 q o out _ l.length (by constructor <;> omega) w1 (by omega)) rfl ?_
    rintro _ H2 ⟨rfl, o2, w2, f2, _⟩
    simp
    repeat first|((first|refine qa tOk rfl ?_|refine qb tOk rfl ?_|refine qc ?_|refine qd ?_|refine qe ?_);simp)|refine AWP_block ?_|refine AWP_seq ?_
    refine AWP_loop (ALoop_round ?_)
    have h0 : 0 < l.length := by omega
    repeat first|((first|refine qa tOk rfl ?_|refine qb tOk rfl ?_|refine qc ?_|refine qd ?_|refine qe ?_);simp)|refine AWP_block ?_|refine AWP_seq ?_
    refine AWP_cond2 rfl (fun _ => ?_) (fun h => by have := of_decide_eq_false h; omega)
    have g2 : ∀ A : AObj, (H2 ++ [A])[q]? = some (.vars [wOut (out ++ encN l.length).length o2, .i (orE e 5)]) := fun A => get_app w2.1 _
    repeat first|((first|refine qa tOk rfl ?_|refine qb tOk rfl ?_|refine qc ?_|refine qd ?_|refine qe ?_);simp [h0, g2])|refine AWP_block ?_|refine AWP_seq ?_
    refine AWP_cond2 rfl (fun _ => ?_) (fun h => by simp [hne] at h)
    repeat first|((first|refine qa tOk rfl ?_|refine qb tOk rfl ?_|refine qc ?_|refine qd ?_|refine qe ?_);simp)|refine AWP_block ?_|refine AWP_seq ?_
    refine ⟨rfl, out ++ encN l.length, o2, ?_, ?_, ?_, fun h => ?_⟩
    · rw [errL, if_pos hm]; exact w2.app _
    · exact f1.trans (f2.trans ⟨by simp, .inl rfl, fun j hj _ _ => List.getElem?_append_left hj⟩)
    · rw [List.length_append]; omega
    · rw [errL, if_pos hm] at h; exact absurd h hne
  · refine AWP_cond2 rfl (fun h => by simp at h; omega) (fun _ => ?_)
    rw [errL, if_neg hm]
    repeat first|((first|refine qa tOk rfl ?_|refine qb tOk rfl ?_|refine qc ?_|refine qd ?_|refine qe ?_);simp)|refine AWP_block ?_|refine AWP_seq ?_
    refine AStep_FC rfl rfl (fc_wint H q o out e l.length (by constructor <;> omega) hw (by omega)) rfl ?_
    rintro _ H2 ⟨rfl, o2, w2, f2, _⟩
    simp
    repeat first|((first|refine qa tOk rfl ?_|refine qb tOk rfl ?_|refine qc ?_|refine qd ?_|refine qe ?_);simp)|refine AWP_block ?_|refine AWP_seq ?_
    refine AWP_loop (ALoop_keep (sl' := [(0, .vptr q 0), (2, .fn (.func f) fs cs), (17, .list (l.map avPnt)), (18, .i l.length), (19, .i 0)]) ?_ (by simp))
    refine ALoop_wf (F := fun (u : Nat × List UInt8 × Int × Option Nat × List AObj) => ⟨[(0, .vptr q 0), (2, .fn (.func f) fs cs), (17, .list (l.map avPnt)), (18, .i l.length), (19, .i u.1)], u.2.2.2.2⟩)
      (fun u => WA u.2.2.2.2 q u.2.1 u.2.2.1 u.2.2.2.1 ∧ Fr H u.2.2.2.2 q o u.2.2.2.1 ∧ u.1 ≤ l.length ∧ u.2.2.1 = orE e (firstE er (l.take u.1)) ∧ u.2.1.length ≤ out.length + (encN l.length).length + ((l.take u.1).flatMap bs).length ∧ (u.2.2.1 = 0 → u.2.1 = out ++ encN l.length ++ (l.take u.1).flatMap bs)) (fun u => l.length - u.1) ?_
      (0, out ++ encN l.length, e, o2, H2) ⟨w2, f2, Nat.zero_le _, by simp [firstE, orE_self], by simp, fun _ => by simp⟩
    rintro ⟨j, t, ej, p, G⟩ ⟨g1, g2, g3, g4, g5, g6⟩ ih
    simp only at g1 g2 g3 g4 g5 g6 ih ⊢
    repeat first|((first|refine qa tOk rfl ?_|refine qb tOk rfl ?_|refine qc ?_|refine qd ?_|refine qe ?_);simp)|refine AWP_block ?_|refine AWP_seq ?_
    refine AWP_cond2 rfl (fun h => ?_) (fun h => ?_)
    · have hlt : j < l.length := by simpa using h
      have hw1 : IntKind.i64.wrap ((j : Int) + 1) = j + 1 := wrap_i64 _ (by omega) (by omega)
      have q1 : ∀ A : AObj, (G ++ [A])[q]? = some (.vars [wOut t.length p, .i ej]) := fun A => get_app g1.1 _
      repeat first|((first|refine qa tOk rfl ?_|refine qb tOk rfl ?_|refine qc ?_|refine qd ?_|refine qe ?_);simp [hlt, q1])|refine AWP_block ?_|refine AWP_seq ?_
      refine AWP_cond2 rfl (fun hn => ?_) (fun hz => ?_)
      · have hn' : ej ≠ 0 := by simpa using hn
        repeat first|((first|refine qa tOk rfl ?_|refine qb tOk rfl ?_|refine qc ?_|refine qd ?_|refine qe ?_);simp)|refine AWP_block ?_|refine AWP_seq ?_
        have hfe : orE e (firstE er l) = ej := by
          conv => lhs; rw [← List.take_append_drop j l]
          rw [firstE_app, ← orE_assoc, ← g4, orE_ne hn']
        refine ⟨rfl, t, p, ?_, ?_, ?_, fun hz => ?_⟩
        · rw [hfe]; exact g1.app _
        · exact g2.trans ⟨by simp, .inl rfl, fun j hj _ _ => List.getElem?_append_left hj⟩
        · have := flat_le bs l j; omega
        · rw [hfe] at hz; exact absurd hz hn'
      · have hz' : ej = 0 := by simpa using hz
        have hle := flat_le bs l (j + 1)
        rw [flat_take bs l j hlt, List.length_append] at hle
        repeat first|((first|refine qa tOk rfl ?_|refine qb tOk rfl ?_|refine qc ?_|refine qd ?_|refine qe ?_);simp)|refine AWP_block ?_|refine AWP_seq ?_
        refine AStep_FC rfl rfl (hone l[j] (List.getElem_mem hlt) _ p t ej (g1.app _) (g2.trans ⟨by simp, .inl rfl, fun j hj _ _ => List.getElem?_append_left hj⟩) (by omega)) rfl ?_
        rintro _ G2 ⟨rfl, t2, p2, k1, k2, k3, k4⟩
        simp
        repeat first|((first|refine qa tOk rfl ?_|refine qb tOk rfl ?_|refine qc ?_|refine qd ?_|refine qe ?_);simp [hw1])|refine AWP_block ?_|refine AWP_seq ?_
        refine ALoop_keep (ih (j + 1, t2, orE ej (er l[j]), p2, G2) ⟨k1, g2.trans k2.cut, hlt, ?_, ?_, fun h => ?_⟩ (by simp only; omega)) (by simp)
        · simp only; rw [firstE_take er l j hlt, ← orE_assoc, ← g4]
        · simp only; rw [flat_take bs l j hlt, List.length_append]; omega
        · simp only at h ⊢; rw [k4 h, g6 hz', flat_take bs l j hlt]; simp
    · have hge : j = l.length := by simp at h; omega
      subst hge
      repeat first|((first|refine qa tOk rfl ?_|refine qb tOk rfl ?_|refine qc ?_|refine qd ?_|refine qe ?_);simp)|refine AWP_block ?_|refine AWP_seq ?_
      rw [List.take_length] at g4 g5 g6
      refine ⟨rfl, t, p, ?_, g2, by omega, fun h => ?_⟩
      · rw [← g4]; exact g1
      · rw [g6 (by rw [g4]; exact h), encL]; simp
set_option maxHeartbeats 2000000 in
theorem fc_put_Reader (l : List Rdr) (hl : l.length ≤ 1000000) (f : FuncId) (fs cs : List AV) (bs : Rdr → List UInt8) (er : Rdr → Int) (H : List AObj) (q : Nat) (o : Option Nat) (out : List UInt8) (e : Int) (hw : WA H q out e o) (hb : out.length + (encL bs l).length ≤ 1000000000)
    (hone : ∀ x ∈ l, ∀ (H' : List AObj) (o' : Option Nat) (out' : List UInt8) (e' : Int), WA H' q out' e' o' → Fr H H' q o o' → out'.length + (bs x).length ≤ 1000000000 → FC Tryz.prog f (fs ++ [avRdr x] ++ cs) H' (WP H' q o' out' e' (bs x) (er x))) :
    FC Tryz.prog 178 [.vptr q 0, .list (l.map avRdr), .fn (.func f) fs cs] H (WP H q o out e (encL bs l) (errL er l)) := by
  refine FC_body tOk Tryz.func178 rfl Tryz.results178 rfl (by simp [Tryz.ntmps178]) ?_
  rw [Tryz.ntmps178]
  simp only [argSlots]
  have hel := enc_len bs l
  repeat first|((first|refine qa tOk rfl ?_|refine qb tOk rfl ?_|refine qc ?_|refine qd ?_|refine qe ?_);simp)|refine AWP_block ?_|refine AWP_seq ?_
  by_cases hm : 4096 < l.length
  · refine AWP_cond2 rfl (fun _ => ?_) (fun h => by simp at h; omega)
    repeat first|((first|refine qa tOk rfl ?_|refine qb tOk rfl ?_|refine qc ?_|refine qd ?_|refine qe ?_);simp)|refine AWP_block ?_|refine AWP_seq ?_
    refine AStep_FC rfl rfl (fc_wfail H q o out e 5 hw) rfl ?_
    rintro _ _ ⟨rfl, rfl⟩
    have w1 := hw.err (orE e 5)
    have f1 := Fr.set H q o (wX out.length (orE e 5) o)
    have hne := many_ne e
    generalize H.set q (wX out.length (orE e 5) o) = H1 at *
    simp
    repeat first|((first|refine qa tOk rfl ?_|refine qb tOk rfl ?_|refine qc ?_|refine qd ?_|refine qe ?_);simp)|refine AWP_block ?_|refine AWP_seq ?_
    refine AStep_FC rfl rfl (fc_wint H1 q o out _ l.length (by constructor <;> omega) w1 (by omega)) rfl ?_
    rintro _ H2 ⟨rfl, o2, w2, f2, _⟩
    simp
    repeat first|((first|refine qa tOk rfl ?_|refine qb tOk rfl ?_|refine qc ?_|refine qd ?_|refine qe ?_);simp)|refine AWP_block ?_|refine AWP_seq ?_
    refine AWP_loop (ALoop_round ?_)
    have h0 : 0 < l.length := by omega
    repeat first|((first|refine qa tOk rfl ?_|refine qb tOk rfl ?_|refine qc ?_|refine qd ?_|refine qe ?_);simp)|refine AWP_block ?_|refine AWP_seq ?_
    refine AWP_cond2 rfl (fun _ => ?_) (fun h => by have := of_decide_eq_false h; omega)
    have g2 : ∀ A : AObj, (H2 ++ [A])[q]? = some (.vars [wOut (out ++ encN l.length).length o2, .i (orE e 5)]) := fun A => get_app w2.1 _
    repeat first|((first|refine qa tOk rfl ?_|refine qb tOk rfl ?_|refine qc ?_|refine qd ?_|refine qe ?_);simp [h0, g2])|refine AWP_block ?_|refine AWP_seq ?_
    refine AWP_cond2 rfl (fun _ => ?_) (fun h => by simp [hne] at h)
    repeat first|((first|refine qa tOk rfl ?_|refine qb tOk rfl ?_|refine qc ?_|refine qd ?_|refine qe ?_);simp)|refine AWP_block ?_|refine AWP_seq ?_
    refine ⟨rfl, out ++ encN l.length, o2, ?_, ?_, ?_, fun h => ?_⟩
    · rw [errL, if_pos hm]; exact w2.app _
    · exact f1.trans (f2.trans ⟨by simp, .inl rfl, fun j hj _ _ => List.getElem?_append_left hj⟩)
    · rw [List.length_append]; omega
    · rw [errL, if_pos hm] at h; exact absurd h hne
  · refine AWP_cond2 rfl (fun h => by simp at h; omega) (fun _ => ?_)
    rw [errL, if_neg hm]
    repeat first|((first|refine qa tOk rfl ?_|refine qb tOk rfl ?_|refine qc ?_|refine qd ?_|refine qe ?_);simp)|refine AWP_block ?_|refine AWP_seq ?_
    refine AStep_FC rfl rfl (fc_wint H q o out e l.length (by constructor <;> omega) hw (by omega)) rfl ?_
    rintro _ H2 ⟨rfl, o2, w2, f2, _⟩
    simp
    repeat first|((first|refine qa tOk rfl ?_|refine qb tOk rfl ?_|refine qc ?_|refine qd ?_|refine qe ?_);simp)|refine AWP_block ?_|refine AWP_seq ?_
    refine AWP_loop (ALoop_keep (sl' := [(0, .vptr q 0), (2, .fn (.func f) fs cs), (17, .list (l.map avRdr)), (18, .i l.length), (19, .i 0)]) ?_ (by simp))
    refine ALoop_wf (F := fun (u : Nat × List UInt8 × Int × Option Nat × List AObj) => ⟨[(0, .vptr q 0), (2, .fn (.func f) fs cs), (17, .list (l.map avRdr)), (18, .i l.length), (19, .i u.1)], u.2.2.2.2⟩)
      (fun u => WA u.2.2.2.2 q u.2.1 u.2.2.1 u.2.2.2.1 ∧ Fr H u.2.2.2.2 q o u.2.2.2.1 ∧ u.1 ≤ l.length ∧ u.2.2.1 = orE e (firstE er (l.take u.1)) ∧ u.2.1.length ≤ out.length + (encN l.length).length + ((l.take u.1).flatMap bs).length ∧ (u.2.2.1 = 0 → u.2.1 = out ++ encN l.length ++ (l.take u.1).flatMap bs)) (fun u => l.length - u.1) ?_
      (0, out ++ encN l.length, e, o2, H2) ⟨w2, f2, Nat.zero_le _, by simp [firstE, orE_self], by simp, fun _ => by simp⟩
    rintro ⟨j, t, ej, p, G⟩ ⟨g1, g2, g3, g4, g5, g6⟩ ih
    simp only at g1 g2 g3 g4 g5 g6 ih ⊢
    repeat first|((first|refine qa tOk rfl ?_|refine qb tOk rfl ?_|refine qc ?_|refine qd ?_|refine qe ?_);simp)|refine AWP_block ?_|refine AWP_seq ?_
    refine AWP_cond2 rfl (fun h => ?_) (fun h => ?_)
    · have hlt : j < l.length := by simpa using h
      have hw1 : IntKind.i64.wrap ((j : Int) + 1) = j + 1 := wrap_i64 _ (by omega) (by omega)
      have q1 : ∀ A : AObj, (G ++ [A])[q]? = some (.vars [wOut t.length p, .i ej]) := fun A => get_app g1.1 _
      repeat first|((first|refine qa tOk rfl ?_|refine qb tOk rfl ?_|refine qc ?_|refine qd ?_|refine qe ?_);simp [hlt, q1])|refine AWP_block ?_|refine AWP_seq ?_
      refine AWP_cond2 rfl (fun hn => ?_) (fun hz => ?_)
      · have hn' : ej ≠ 0 := by simpa using hn
        repeat first|((first|refine qa tOk rfl ?_|refine qb tOk rfl ?_|refine qc ?_|refine qd ?_|refine qe ?_);simp)|refine AWP_block ?_|refine AWP_seq ?_
        have hfe : orE e (firstE er l) = ej := by
          conv => lhs; rw [← List.take_append_drop j l]
          rw [firstE_app, ← orE_assoc, ← g4, orE_ne hn']
        refine ⟨rfl, t, p, ?_, ?_, ?_, fun hz => ?_⟩
        · rw [hfe]; exact g1.app _
        · exact g2.trans ⟨by simp, .inl rfl, fun j hj _ _ => List.getElem?_append_left hj⟩
        · have := flat_le bs l j; omega
        · rw [hfe] at hz; exact absurd hz hn'
      · have hz' : ej = 0 := by simpa using hz
        have hle := flat_le bs l (j + 1)
        rw [flat_take bs l j hlt, List.length_append] at hle
        repeat first|((first|refine qa tOk rfl ?_|refine qb tOk rfl ?_|refine qc ?_|refine qd ?_|refine qe ?_);simp)|refine AWP_block ?_|refine AWP_seq ?_
        refine AStep_FC rfl rfl (hone l[j] (List.getElem_mem hlt) _ p t ej (g1.app _) (g2.trans ⟨by simp, .inl rfl, fun j hj _ _ => List.getElem?_append_left hj⟩) (by omega)) rfl ?_
        rintro _ G2 ⟨rfl, t2, p2, k1, k2, k3, k4⟩
        simp
        repeat first|((first|refine qa tOk rfl ?_|refine qb tOk rfl ?_|refine qc ?_|refine qd ?_|refine qe ?_);simp [hw1])|refine AWP_block ?_|refine AWP_seq ?_
        refine ALoop_keep (ih (j + 1, t2, orE ej (er l[j]), p2, G2) ⟨k1, g2.trans k2.cut, hlt, ?_, ?_, fun h => ?_⟩ (by simp only; omega)) (by simp)
        · simp only; rw [firstE_take er l j hlt, ← orE_assoc, ← g4]
        · simp only; rw [flat_take bs l j hlt, List.length_append]; omega
        · simp only at h ⊢; rw [k4 h, g6 hz', flat_take bs l j hlt]; simp
    · have hge : j = l.length := by simp at h; omega
      subst hge
      repeat first|((first|refine qa tOk rfl ?_|refine qb tOk rfl ?_|refine qc ?_|refine qd ?_|refine qe ?_);simp)|refine AWP_block ?_|refine AWP_seq ?_
      rw [List.take_length] at g4 g5 g6
      refine ⟨rfl, t, p, ?_, g2, by omega, fun h => ?_⟩
      · rw [← g4]; exact g1
      · rw [g6 (by rw [g4]; exact h), encL]; simp
set_option maxHeartbeats 2000000 in
theorem fc_put_Operator (l : List Opr) (hl : l.length ≤ 1000000) (f : FuncId) (fs cs : List AV) (bs : Opr → List UInt8) (er : Opr → Int) (H : List AObj) (q : Nat) (o : Option Nat) (out : List UInt8) (e : Int) (hw : WA H q out e o) (hb : out.length + (encL bs l).length ≤ 1000000000)
    (hone : ∀ x ∈ l, ∀ (H' : List AObj) (o' : Option Nat) (out' : List UInt8) (e' : Int), WA H' q out' e' o' → Fr H H' q o o' → out'.length + (bs x).length ≤ 1000000000 → FC Tryz.prog f (fs ++ [avOpr x] ++ cs) H' (WP H' q o' out' e' (bs x) (er x))) :
    FC Tryz.prog 180 [.vptr q 0, .list (l.map avOpr), .fn (.func f) fs cs] H (WP H q o out e (encL bs l) (errL er l)) := by
  refine FC_body tOk Tryz.func180 rfl Tryz.results180 rfl (by simp [Tryz.ntmps180]) ?_
  rw [Tryz.ntmps180]
  simp only [argSlots]
  have hel := enc_len bs l
  repeat first|((first|refine qa tOk rfl ?_|refine qb tOk rfl ?_|refine qc ?_|refine qd ?_|refine qe ?_);simp)|refine AWP_block ?_|refine AWP_seq ?_
  by_cases hm : 4096 < l.length
  · refine AWP_cond2 rfl (fun _ => ?_) (fun h => by simp at h; omega)
    repeat first|((first|refine qa tOk rfl ?_|refine qb tOk rfl ?_|refine qc ?_|refine qd ?_|refine qe ?_);simp)|refine AWP_block ?_|refine AWP_seq ?_
    refine AStep_FC rfl rfl (fc_wfail H q o out e 5 hw) rfl ?_
    rintro _ _ ⟨rfl, rfl⟩
    have w1 := hw.err (orE e 5)
    have f1 := Fr.set H q o (wX out.length (orE e 5) o)
    have hne := many_ne e
    generalize H.set q (wX out.length (orE e 5) o) = H1 at *
    simp
    repeat first|((first|refine qa tOk rfl ?_|refine qb tOk rfl ?_|refine qc ?_|refine qd ?_|refine qe ?_);simp)|refine AWP_block ?_|refine AWP_seq ?_
    refine AStep_FC rfl rfl (fc_wint H1 q o out _ l.length (by constructor <;> omega) w1 (by omega)) rfl ?_
    rintro _ H2 ⟨rfl, o2, w2, f2, _⟩
    simp
    repeat first|((first|refine qa tOk rfl ?_|refine qb tOk rfl ?_|refine qc ?_|refine qd ?_|refine qe ?_);simp)|refine AWP_block ?_|refine AWP_seq ?_
    refine AWP_loop (ALoop_round ?_)
    have h0 : 0 < l.length := by omega
    repeat first|((first|refine qa tOk rfl ?_|refine qb tOk rfl ?_|refine qc ?_|refine qd ?_|refine qe ?_);simp)|refine AWP_block ?_|refine AWP_seq ?_
    refine AWP_cond2 rfl (fun _ => ?_) (fun h => by have := of_decide_eq_false h; omega)
    have g2 : ∀ A : AObj, (H2 ++ [A])[q]? = some (.vars [wOut (out ++ encN l.length).length o2, .i (orE e 5)]) := fun A => get_app w2.1 _
    repeat first|((first|refine qa tOk rfl ?_|refine qb tOk rfl ?_|refine qc ?_|refine qd ?_|refine qe ?_);simp [h0, g2])|refine AWP_block ?_|refine AWP_seq ?_
    refine AWP_cond2 rfl (fun _ => ?_) (fun h => by simp [hne] at h)
    repeat first|((first|refine qa tOk rfl ?_|refine qb tOk rfl ?_|refine qc ?_|refine qd ?_|refine qe ?_);simp)|refine AWP_block ?_|refine AWP_seq ?_
    refine ⟨rfl, out ++ encN l.length, o2, ?_, ?_, ?_, fun h => ?_⟩
    · rw [errL, if_pos hm]; exact w2.app _
    · exact f1.trans (f2.trans ⟨by simp, .inl rfl, fun j hj _ _ => List.getElem?_append_left hj⟩)
    · rw [List.length_append]; omega
    · rw [errL, if_pos hm] at h; exact absurd h hne
  · refine AWP_cond2 rfl (fun h => by simp at h; omega) (fun _ => ?_)
    rw [errL, if_neg hm]
    repeat first|((first|refine qa tOk rfl ?_|refine qb tOk rfl ?_|refine qc ?_|refine qd ?_|refine qe ?_);simp)|refine AWP_block ?_|refine AWP_seq ?_
    refine AStep_FC rfl rfl (fc_wint H q o out e l.length (by constructor <;> omega) hw (by omega)) rfl ?_
    rintro _ H2 ⟨rfl, o2, w2, f2, _⟩
    simp
    repeat first|((first|refine qa tOk rfl ?_|refine qb tOk rfl ?_|refine qc ?_|refine qd ?_|refine qe ?_);simp)|refine AWP_block ?_|refine AWP_seq ?_
    refine AWP_loop (ALoop_keep (sl' := [(0, .vptr q 0), (2, .fn (.func f) fs cs), (17, .list (l.map avOpr)), (18, .i l.length), (19, .i 0)]) ?_ (by simp))
    refine ALoop_wf (F := fun (u : Nat × List UInt8 × Int × Option Nat × List AObj) => ⟨[(0, .vptr q 0), (2, .fn (.func f) fs cs), (17, .list (l.map avOpr)), (18, .i l.length), (19, .i u.1)], u.2.2.2.2⟩)
      (fun u => WA u.2.2.2.2 q u.2.1 u.2.2.1 u.2.2.2.1 ∧ Fr H u.2.2.2.2 q o u.2.2.2.1 ∧ u.1 ≤ l.length ∧ u.2.2.1 = orE e (firstE er (l.take u.1)) ∧ u.2.1.length ≤ out.length + (encN l.length).length + ((l.take u.1).flatMap bs).length ∧ (u.2.2.1 = 0 → u.2.1 = out ++ encN l.length ++ (l.take u.1).flatMap bs)) (fun u => l.length - u.1) ?_
      (0, out ++ encN l.length, e, o2, H2) ⟨w2, f2, Nat.zero_le _, by simp [firstE, orE_self], by simp, fun _ => by simp⟩
    rintro ⟨j, t, ej, p, G⟩ ⟨g1, g2, g3, g4, g5, g6⟩ ih
    simp only at g1 g2 g3 g4 g5 g6 ih ⊢
    repeat first|((first|refine qa tOk rfl ?_|refine qb tOk rfl ?_|refine qc ?_|refine qd ?_|refine qe ?_);simp)|refine AWP_block ?_|refine AWP_seq ?_
    refine AWP_cond2 rfl (fun h => ?_) (fun h => ?_)
    · have hlt : j < l.length := by simpa using h
      have hw1 : IntKind.i64.wrap ((j : Int) + 1) = j + 1 := wrap_i64 _ (by omega) (by omega)
      have q1 : ∀ A : AObj, (G ++ [A])[q]? = some (.vars [wOut t.length p, .i ej]) := fun A => get_app g1.1 _
      repeat first|((first|refine qa tOk rfl ?_|refine qb tOk rfl ?_|refine qc ?_|refine qd ?_|refine qe ?_);simp [hlt, q1])|refine AWP_block ?_|refine AWP_seq ?_
      refine AWP_cond2 rfl (fun hn => ?_) (fun hz => ?_)
      · have hn' : ej ≠ 0 := by simpa using hn
        repeat first|((first|refine qa tOk rfl ?_|refine qb tOk rfl ?_|refine qc ?_|refine qd ?_|refine qe ?_);simp)|refine AWP_block ?_|refine AWP_seq ?_
        have hfe : orE e (firstE er l) = ej := by
          conv => lhs; rw [← List.take_append_drop j l]
          rw [firstE_app, ← orE_assoc, ← g4, orE_ne hn']
        refine ⟨rfl, t, p, ?_, ?_, ?_, fun hz => ?_⟩
        · rw [hfe]; exact g1.app _
        · exact g2.trans ⟨by simp, .inl rfl, fun j hj _ _ => List.getElem?_append_left hj⟩
        · have := flat_le bs l j; omega
        · rw [hfe] at hz; exact absurd hz hn'
      · have hz' : ej = 0 := by simpa using hz
        have hle := flat_le bs l (j + 1)
        rw [flat_take bs l j hlt, List.length_append] at hle
        repeat first|((first|refine qa tOk rfl ?_|refine qb tOk rfl ?_|refine qc ?_|refine qd ?_|refine qe ?_);simp)|refine AWP_block ?_|refine AWP_seq ?_
        refine AStep_FC rfl rfl (hone l[j] (List.getElem_mem hlt) _ p t ej (g1.app _) (g2.trans ⟨by simp, .inl rfl, fun j hj _ _ => List.getElem?_append_left hj⟩) (by omega)) rfl ?_
        rintro _ G2 ⟨rfl, t2, p2, k1, k2, k3, k4⟩
        simp
        repeat first|((first|refine qa tOk rfl ?_|refine qb tOk rfl ?_|refine qc ?_|refine qd ?_|refine qe ?_);simp [hw1])|refine AWP_block ?_|refine AWP_seq ?_
        refine ALoop_keep (ih (j + 1, t2, orE ej (er l[j]), p2, G2) ⟨k1, g2.trans k2.cut, hlt, ?_, ?_, fun h => ?_⟩ (by simp only; omega)) (by simp)
        · simp only; rw [firstE_take er l j hlt, ← orE_assoc, ← g4]
        · simp only; rw [flat_take bs l j hlt, List.length_append]; omega
        · simp only at h ⊢; rw [k4 h, g6 hz', flat_take bs l j hlt]; simp
    · have hge : j = l.length := by simp at h; omega
      subst hge
      repeat first|((first|refine qa tOk rfl ?_|refine qb tOk rfl ?_|refine qc ?_|refine qd ?_|refine qe ?_);simp)|refine AWP_block ?_|refine AWP_seq ?_
      rw [List.take_length] at g4 g5 g6
      refine ⟨rfl, t, p, ?_, g2, by omega, fun h => ?_⟩
      · rw [← g4]; exact g1
      · rw [g6 (by rw [g4]; exact h), encL]; simp
set_option maxHeartbeats 2000000 in
theorem fc_put_Keyed (l : List Kyd) (hl : l.length ≤ 1000000) (f : FuncId) (fs cs : List AV) (bs : Kyd → List UInt8) (er : Kyd → Int) (H : List AObj) (q : Nat) (o : Option Nat) (out : List UInt8) (e : Int) (hw : WA H q out e o) (hb : out.length + (encL bs l).length ≤ 1000000000)
    (hone : ∀ x ∈ l, ∀ (H' : List AObj) (o' : Option Nat) (out' : List UInt8) (e' : Int), WA H' q out' e' o' → Fr H H' q o o' → out'.length + (bs x).length ≤ 1000000000 → FC Tryz.prog f (fs ++ [avKyd x] ++ cs) H' (WP H' q o' out' e' (bs x) (er x))) :
    FC Tryz.prog 218 [.vptr q 0, .list (l.map avKyd), .fn (.func f) fs cs] H (WP H q o out e (encL bs l) (errL er l)) := by
  refine FC_body tOk Tryz.func218 rfl Tryz.results218 rfl (by simp [Tryz.ntmps218]) ?_
  rw [Tryz.ntmps218]
  simp only [argSlots]
  have hel := enc_len bs l
  repeat first|((first|refine qa tOk rfl ?_|refine qb tOk rfl ?_|refine qc ?_|refine qd ?_|refine qe ?_);simp)|refine AWP_block ?_|refine AWP_seq ?_
  by_cases hm : 4096 < l.length
  · refine AWP_cond2 rfl (fun _ => ?_) (fun h => by simp at h; omega)
    repeat first|((first|refine qa tOk rfl ?_|refine qb tOk rfl ?_|refine qc ?_|refine qd ?_|refine qe ?_);simp)|refine AWP_block ?_|refine AWP_seq ?_
    refine AStep_FC rfl rfl (fc_wfail H q o out e 5 hw) rfl ?_
    rintro _ _ ⟨rfl, rfl⟩
    have w1 := hw.err (orE e 5)
    have f1 := Fr.set H q o (wX out.length (orE e 5) o)
    have hne := many_ne e
    generalize H.set q (wX out.length (orE e 5) o) = H1 at *
    simp
    repeat first|((first|refine qa tOk rfl ?_|refine qb tOk rfl ?_|refine qc ?_|refine qd ?_|refine qe ?_);simp)|refine AWP_block ?_|refine AWP_seq ?_
    refine AStep_FC rfl rfl (fc_wint H1 q o out _ l.length (by constructor <;> omega) w1 (by omega)) rfl ?_
    rintro _ H2 ⟨rfl, o2, w2, f2, _⟩
    simp
    repeat first|((first|refine qa tOk rfl ?_|refine qb tOk rfl ?_|refine qc ?_|refine qd ?_|refine qe ?_);simp)|refine AWP_block ?_|refine AWP_seq ?_
    refine AWP_loop (ALoop_round ?_)
    have h0 : 0 < l.length := by omega
    repeat first|((first|refine qa tOk rfl ?_|refine qb tOk rfl ?_|refine qc ?_|refine qd ?_|refine qe ?_);simp)|refine AWP_block ?_|refine AWP_seq ?_
    refine AWP_cond2 rfl (fun _ => ?_) (fun h => by have := of_decide_eq_false h; omega)
    have g2 : ∀ A : AObj, (H2 ++ [A])[q]? = some (.vars [wOut (out ++ encN l.length).length o2, .i (orE e 5)]) := fun A => get_app w2.1 _
    repeat first|((first|refine qa tOk rfl ?_|refine qb tOk rfl ?_|refine qc ?_|refine qd ?_|refine qe ?_);simp [h0, g2])|refine AWP_block ?_|refine AWP_seq ?_
    refine AWP_cond2 rfl (fun _ => ?_) (fun h => by simp [hne] at h)
    repeat first|((first|refine qa tOk rfl ?_|refine qb tOk rfl ?_|refine qc ?_|refine qd ?_|refine qe ?_);simp)|refine AWP_block ?_|refine AWP_seq ?_
    refine ⟨rfl, out ++ encN l.length, o2, ?_, ?_, ?_, fun h => ?_⟩
    · rw [errL, if_pos hm]; exact w2.app _
    · exact f1.trans (f2.trans ⟨by simp, .inl rfl, fun j hj _ _ => List.getElem?_append_left hj⟩)
    · rw [List.length_append]; omega
    · rw [errL, if_pos hm] at h; exact absurd h hne
  · refine AWP_cond2 rfl (fun h => by simp at h; omega) (fun _ => ?_)
    rw [errL, if_neg hm]
    repeat first|((first|refine qa tOk rfl ?_|refine qb tOk rfl ?_|refine qc ?_|refine qd ?_|refine qe ?_);simp)|refine AWP_block ?_|refine AWP_seq ?_
    refine AStep_FC rfl rfl (fc_wint H q o out e l.length (by constructor <;> omega) hw (by omega)) rfl ?_
    rintro _ H2 ⟨rfl, o2, w2, f2, _⟩
    simp
    repeat first|((first|refine qa tOk rfl ?_|refine qb tOk rfl ?_|refine qc ?_|refine qd ?_|refine qe ?_);simp)|refine AWP_block ?_|refine AWP_seq ?_
    refine AWP_loop (ALoop_keep (sl' := [(0, .vptr q 0), (2, .fn (.func f) fs cs), (17, .list (l.map avKyd)), (18, .i l.length), (19, .i 0)]) ?_ (by simp))
    refine ALoop_wf (F := fun (u : Nat × List UInt8 × Int × Option Nat × List AObj) => ⟨[(0, .vptr q 0), (2, .fn (.func f) fs cs), (17, .list (l.map avKyd)), (18, .i l.length), (19, .i u.1)], u.2.2.2.2⟩)
      (fun u => WA u.2.2.2.2 q u.2.1 u.2.2.1 u.2.2.2.1 ∧ Fr H u.2.2.2.2 q o u.2.2.2.1 ∧ u.1 ≤ l.length ∧ u.2.2.1 = orE e (firstE er (l.take u.1)) ∧ u.2.1.length ≤ out.length + (encN l.length).length + ((l.take u.1).flatMap bs).length ∧ (u.2.2.1 = 0 → u.2.1 = out ++ encN l.length ++ (l.take u.1).flatMap bs)) (fun u => l.length - u.1) ?_
      (0, out ++ encN l.length, e, o2, H2) ⟨w2, f2, Nat.zero_le _, by simp [firstE, orE_self], by simp, fun _ => by simp⟩
    rintro ⟨j, t, ej, p, G⟩ ⟨g1, g2, g3, g4, g5, g6⟩ ih
    simp only at g1 g2 g3 g4 g5 g6 ih ⊢
    repeat first|((first|refine qa tOk rfl ?_|refine qb tOk rfl ?_|refine qc ?_|refine qd ?_|refine qe ?_);simp)|refine AWP_block ?_|refine AWP_seq ?_
    refine AWP_cond2 rfl (fun h => ?_) (fun h => ?_)
    · have hlt : j < l.length := by simpa using h
      have hw1 : IntKind.i64.wrap ((j : Int) + 1) = j + 1 := wrap_i64 _ (by omega) (by omega)
      have q1 : ∀ A : AObj, (G ++ [A])[q]? = some (.vars [wOut t.length p, .i ej]) := fun A => get_app g1.1 _
      repeat first|((first|refine qa tOk rfl ?_|refine qb tOk rfl ?_|refine qc ?_|refine qd ?_|refine qe ?_);simp [hlt, q1])|refine AWP_block ?_|refine AWP_seq ?_
      refine AWP_cond2 rfl (fun hn => ?_) (fun hz => ?_)
      · have hn' : ej ≠ 0 := by simpa using hn
        repeat first|((first|refine qa tOk rfl ?_|refine qb tOk rfl ?_|refine qc ?_|refine qd ?_|refine qe ?_);simp)|refine AWP_block ?_|refine AWP_seq ?_
        have hfe : orE e (firstE er l) = ej := by
          conv => lhs; rw [← List.take_append_drop j l]
          rw [firstE_app, ← orE_assoc, ← g4, orE_ne hn']
        refine ⟨rfl, t, p, ?_, ?_, ?_, fun hz => ?_⟩
        · rw [hfe]; exact g1.app _
        · exact g2.trans ⟨by simp, .inl rfl, fun j hj _ _ => List.getElem?_append_left hj⟩
        · have := flat_le bs l j; omega
        · rw [hfe] at hz; exact absurd hz hn'
      · have hz' : ej = 0 := by simpa using hz
        have hle := flat_le bs l (j + 1)
        rw [flat_take bs l j hlt, List.length_append] at hle
        repeat first|((first|refine qa tOk rfl ?_|refine qb tOk rfl ?_|refine qc ?_|refine qd ?_|refine qe ?_);simp)|refine AWP_block ?_|refine AWP_seq ?_
        refine AStep_FC rfl rfl (hone l[j] (List.getElem_mem hlt) _ p t ej (g1.app _) (g2.trans ⟨by simp, .inl rfl, fun j hj _ _ => List.getElem?_append_left hj⟩) (by omega)) rfl ?_
        rintro _ G2 ⟨rfl, t2, p2, k1, k2, k3, k4⟩
        simp
        repeat first|((first|refine qa tOk rfl ?_|refine qb tOk rfl ?_|refine qc ?_|refine qd ?_|refine qe ?_);simp [hw1])|refine AWP_block ?_|refine AWP_seq ?_
        refine ALoop_keep (ih (j + 1, t2, orE ej (er l[j]), p2, G2) ⟨k1, g2.trans k2.cut, hlt, ?_, ?_, fun h => ?_⟩ (by simp only; omega)) (by simp)
        · simp only; rw [firstE_take er l j hlt, ← orE_assoc, ← g4]
        · simp only; rw [flat_take bs l j hlt, List.length_append]; omega
        · simp only at h ⊢; rw [k4 h, g6 hz', flat_take bs l j hlt]; simp
    · have hge : j = l.length := by simp at h; omega
      subst hge
      repeat first|((first|refine qa tOk rfl ?_|refine qb tOk rfl ?_|refine qc ?_|refine qd ?_|refine qe ?_);simp)|refine AWP_block ?_|refine AWP_seq ?_
      rw [List.take_length] at g4 g5 g6
      refine ⟨rfl, t, p, ?_, g2, by omega, fun h => ?_⟩
      · rw [← g4]; exact g1
      · rw [g6 (by rw [g4]; exact h), encL]; simp
end Go.Abs
set_option maxRecDepth 100000
namespace Go.Abs
open Go Go.Proofs
set_option linter.unusedSimpArgs false
def jV (v : Val) : Prop := i64 v.kind ∧ i64 v.num
def jEv (e : Ev) : Prop := iEv e ∧ e.values.length ≤ 1000000 ∧ ∀ v ∈ e.values, jV v
def jCfg (c : Cfg) : Prop := iCfg c ∧ c.binds.length ≤ 1000000 ∧ c.starts.length ≤ 1000000
def jEng (x : Eng) : Prop := i64 x.mark ∧ (x.waiting.length ≤ 1000000 ∧ ∀ e ∈ x.waiting, jEv e) ∧ (x.runs.length ≤ 1000000 ∧ ∀ c ∈ x.runs, jCfg c) ∧ (x.held.length ≤ 1000000 ∧ ∀ e ∈ x.held, jEv e)
def jRdr (r : Rdr) : Prop := iRdr r ∧ r.trk.beyond.length ≤ 1000000 ∧ r.trk.points.length ≤ 1000000
def jKyd (k : Kyd) : Prop := i64 k.query ∧ jV k.key ∧ jEng k.eng
def jOpr (o : Opr) : Prop := (o.marks.length ≤ 1000000 ∧ ∀ n ∈ o.marks, i64 n) ∧ o.engines.length ≤ 1000000 ∧ ∀ k ∈ o.engines, jKyd k
def jSnp (s : Snp) : Prop := i64 s.number ∧ (s.readers.length ≤ 1000000 ∧ ∀ r ∈ s.readers, jRdr r) ∧ s.operators.length ≤ 1000000 ∧ ∀ o ∈ s.operators, jOpr o
theorem WI.trans {H H1 H2 : List AObj} {q : Nat} {o o1 : Option Nat} {out : List UInt8} {e : Int} {b1 b2 : List UInt8} {r2 : Int} {r : AV} (hf : Fr H H1 q o o1)
    (h : WP H1 q o1 (out ++ b1) e b2 r2 r H2) : WP H q o out e (b1 ++ b2) r2 r H2 := by
  have h' : WP H1 q o1 (out ++ b1) (orE e 0) b2 r2 r H2 := by rw [orE_self]; exact h
  have := WP.trans (o := o) hf (by simp) (fun _ => rfl) h'
  rwa [orE_z] at this
theorem hne_of {H : List AObj} {q : Nat} {out : List UInt8} {e : Int} {o : Option Nat} (h : WA H q out e o) (k : Nat) : H.length + k ≠ q ∧ some (H.length + k) ≠ o :=
  ⟨by have := h.lt; omega, fun x => by have := h.olt x.symm; omega⟩
theorem hne_of0 {H : List AObj} {q : Nat} {out : List UInt8} {e : Int} {o : Option Nat} (h : WA H q out e o) : H.length ≠ q ∧ some H.length ≠ o := hne_of h 0
set_option maxHeartbeats 1000000 in
theorem fc_wevent (x : Ev) (hi : jEv x) (H : List AObj) (q : Nat) (o : Option Nat) (out : List UInt8) (e : Int) (hw : WA H q out e o) (hb : out.length + (encEv x).length ≤ 1000000000) :
    FC Tryz.prog 241 [.vptr q 0, encE x] H (WP H q o out e (encEv x) (errEv x)) := by
  refine FC_body tOk Tryz.func241 rfl Tryz.results241 rfl (by simp [Tryz.ntmps241]) ?_
  rw [Tryz.ntmps241]
  simp only [argSlots]
  have heq : encEv x = [x.source, x.seq, x.type, x.time].flatMap encN ++ encL encVal x.values := by simp [encEv]
  have hb' := hb
  rw [heq] at hb'
  rw [List.length_append] at hb'
  obtain ⟨⟨i1, i2, i3, i4⟩, hl, hv⟩ := hi
  repeat first|((first|refine qa tOk rfl ?_|refine qb tOk rfl ?_|refine qc ?_|refine qd ?_|refine qe ?_);simp)|refine AWP_block ?_|refine AWP_seq ?_
  refine AStep_FC rfl rfl (fc_wints [x.source, x.seq, x.type, x.time] (by simp) (by simp [i1, i2, i3, i4]) _ q o out e (H.length + 1) (hw.app _) (by simp) (hne_of hw 1).1 (hne_of hw 1).2 (by omega)) rfl ?_
  rintro _ G1 ⟨rfl, o1, w1, f1, _⟩
  have c1 := f1.keep (j := H.length) (x := .vars [.i x.source, .i x.seq, .i x.type, .i x.time, .list (x.values.map encV)]) (by simp) (hne_of0 hw).1 (hne_of0 hw).2
  simp
  repeat first|((first|refine qa tOk rfl ?_|refine qb tOk rfl ?_|refine qc ?_|refine qd ?_|refine qe ?_);simp [c1])|refine AWP_block ?_|refine AWP_seq ?_
  refine AStep_FC rfl rfl (fc_put_Value x.values hl _ [.vptr q 0] [] encVal checkR G1 q o1 _ e w1 (by rw [List.length_append]; omega) (fun v hv' H' o' out' e' a _ c => fc_wvalue v (hv v hv') H' q o' out' e' a c)) rfl ?_
  rintro _ G2 ⟨rfl, h⟩
  simp
  repeat first|((first|refine qa tOk rfl ?_|refine qb tOk rfl ?_|refine qc ?_|refine qd ?_|refine qe ?_);simp)|refine AWP_block ?_|refine AWP_seq ?_
  rw [heq, show errEv x = errL checkR x.values from rfl]
  exact WP.cut (WI.trans f1 ⟨rfl, h⟩)
theorem fc_wcfg1 (b : Bnd) (hi : okBnd b) (H : List AObj) (q : Nat) (o : Option Nat) (out : List UInt8) (e : Int) (c : Nat) (hw : WA H q out e o) (hc : H[c]? = some (.vars [.vptr q 0])) (hb : out.length + (encBnd b).length ≤ 1000000000) :
    FC Tryz.prog 261 [avBnd b, .vptr c 0] H (WP H q o out e (encBnd b) 0) := by
  refine FC_body tOk Tryz.func261 rfl Tryz.results261 rfl (by simp [Tryz.ntmps261]) ?_
  rw [Tryz.ntmps261]
  simp only [argSlots]
  have heq : encBnd b = [b.var, b.ref.time, b.ref.source, b.ref.seq].flatMap encN := by simp [encBnd]
  rw [heq] at hb
  obtain ⟨i1, i2, i3, i4⟩ := hi
  have hc' : ∀ A : AObj, (H ++ [A])[c]? = some (.vars [.vptr q 0]) := fun A => get_app hc _
  repeat first|((first|refine qa tOk rfl ?_|refine qb tOk rfl ?_|refine qc ?_|refine qd ?_|refine qe ?_);simp [hc'])|refine AWP_block ?_|refine AWP_seq ?_
  refine AStep_FC rfl rfl (fc_wints [b.var, b.ref.time, b.ref.source, b.ref.seq] (by simp) (by simp [i1, i2, i3, i4]) _ q o out e (H.length + 1) (hw.app _) (by simp) (hne_of hw 1).1 (hne_of hw 1).2 (by omega)) rfl ?_
  rintro _ G1 ⟨rfl, h⟩
  simp
  repeat first|((first|refine qa tOk rfl ?_|refine qb tOk rfl ?_|refine qc ?_|refine qd ?_|refine qe ?_);simp)|refine AWP_block ?_|refine AWP_seq ?_
  rw [heq]
  exact WP.cut (WI.wp ⟨rfl, h⟩)
theorem fc_wcfg2 (b : Stt) (hi : okStt b) (H : List AObj) (q : Nat) (o : Option Nat) (out : List UInt8) (e : Int) (c : Nat) (hw : WA H q out e o) (hc : H[c]? = some (.vars [.vptr q 0])) (hb : out.length + (encStt b).length ≤ 1000000000) :
    FC Tryz.prog 263 [avStt b, .vptr c 0] H (WP H q o out e (encStt b) 0) := by
  refine FC_body tOk Tryz.func263 rfl Tryz.results263 rfl (by simp [Tryz.ntmps263]) ?_
  rw [Tryz.ntmps263]
  simp only [argSlots]
  have heq : encStt b = [b.scope, b.time].flatMap encN := by simp [encStt]
  rw [heq] at hb
  obtain ⟨i1, i2⟩ := hi
  have hc' : ∀ A : AObj, (H ++ [A])[c]? = some (.vars [.vptr q 0]) := fun A => get_app hc _
  repeat first|((first|refine qa tOk rfl ?_|refine qb tOk rfl ?_|refine qc ?_|refine qd ?_|refine qe ?_);simp [hc'])|refine AWP_block ?_|refine AWP_seq ?_
  refine AStep_FC rfl rfl (fc_wints [b.scope, b.time] (by simp) (by simp [i1, i2]) _ q o out e (H.length + 1) (hw.app _) (by simp) (hne_of hw 1).1 (hne_of hw 1).2 (by omega)) rfl ?_
  rintro _ G1 ⟨rfl, h⟩
  simp
  repeat first|((first|refine qa tOk rfl ?_|refine qb tOk rfl ?_|refine qc ?_|refine qd ?_|refine qe ?_);simp)|refine AWP_block ?_|refine AWP_seq ?_
  rw [heq]
  exact WP.cut (WI.wp ⟨rfl, h⟩)
theorem fc_wrdr1 (b : Pnt) (hi : okPnt b) (H : List AObj) (q : Nat) (o : Option Nat) (out : List UInt8) (e : Int) (c : Nat) (hw : WA H q out e o) (hc : H[c]? = some (.vars [.vptr q 0])) (hb : out.length + (encPnt b).length ≤ 1000000000) :
    FC Tryz.prog 217 [avPnt b, .vptr c 0] H (WP H q o out e (encPnt b) 0) := by
  refine FC_body tOk Tryz.func217 rfl Tryz.results217 rfl (by simp [Tryz.ntmps217]) ?_
  rw [Tryz.ntmps217]
  simp only [argSlots]
  have heq : encPnt b = [b.seq, b.time].flatMap encN := by simp [encPnt]
  rw [heq] at hb
  obtain ⟨i1, i2⟩ := hi
  have hc' : ∀ A : AObj, (H ++ [A])[c]? = some (.vars [.vptr q 0]) := fun A => get_app hc _
  repeat first|((first|refine qa tOk rfl ?_|refine qb tOk rfl ?_|refine qc ?_|refine qd ?_|refine qe ?_);simp [hc'])|refine AWP_block ?_|refine AWP_seq ?_
  refine AStep_FC rfl rfl (fc_wints [b.seq, b.time] (by simp) (by simp [i1, i2]) _ q o out e (H.length + 1) (hw.app _) (by simp) (hne_of hw 1).1 (hne_of hw 1).2 (by omega)) rfl ?_
  rintro _ G1 ⟨rfl, h⟩
  simp
  repeat first|((first|refine qa tOk rfl ?_|refine qb tOk rfl ?_|refine qc ?_|refine qd ?_|refine qe ?_);simp)|refine AWP_block ?_|refine AWP_seq ?_
  rw [heq]
  exact WP.cut (WI.wp ⟨rfl, h⟩)
set_option maxHeartbeats 1000000 in
theorem fc_wconfig (x : Cfg) (hi : jCfg x) (H : List AObj) (q : Nat) (o : Option Nat) (out : List UInt8) (e : Int) (hw : WA H q out e o) (hb : out.length + (encCfg x).length ≤ 1000000000) :
    FC Tryz.prog 243 [.vptr q 0, avCfg x] H (WP H q o out e (encCfg x) (errCfg x)) := by
  refine FC_body tOk Tryz.func243 rfl Tryz.results243 rfl (by simp [Tryz.ntmps243]) ?_
  rw [Tryz.ntmps243]
  simp only [argSlots]
  have hle : (encCfg x).length = (encN x.state).length + ((encL encBnd x.binds).length + (encL encStt x.starts).length) := by simp [encCfg]
  obtain ⟨⟨i1, i2, i3⟩, hl, hv⟩ := hi
  repeat first|((first|refine qa tOk rfl ?_|refine qb tOk rfl ?_|refine qc ?_|refine qd ?_|refine qe ?_);simp)|refine AWP_block ?_|refine AWP_seq ?_
  refine AStep_FC rfl rfl (fc_wint _ q o out e x.state i1 (hw.app _) (by omega)) rfl ?_
  rintro _ G1 ⟨rfl, o1, w1, f1, _⟩
  have c1 := f1.keep (j := H.length) (x := .vars [.vptr q 0]) (by simp) (hne_of0 hw).1 (hne_of0 hw).2
  have d1 := f1.keep (j := H.length + 1) (x := .vars [.i x.state, .list (x.binds.map avBnd), .list (x.starts.map avStt)]) (by simp) (hne_of hw 1).1 (hne_of hw 1).2
  have n1 := f1.own (j := H.length) (by simp) (hne_of0 hw).2
  have m1 := f1.own (j := H.length + 1) (by simp) (hne_of hw 1).2
  simp
  repeat first|((first|refine qa tOk rfl ?_|refine qb tOk rfl ?_|refine qc ?_|refine qd ?_|refine qe ?_);simp [c1, d1])|refine AWP_block ?_|refine AWP_seq ?_
  refine AStep_FC rfl rfl (fc_put_Binding x.binds hl _ [] [.vptr H.length 0] encBnd noE G1 q o1 _ e w1 (by rw [List.length_append]; omega) (fun b hb' H' o' out' e' a fr c => fc_wcfg1 b (i2 b hb') H' q o' out' e' _ a (fr.keep c1 (hne_of0 hw).1 n1) c)) rfl ?_
  rintro _ G2 ⟨rfl, t2, o2, w2, f2, l2, e2⟩
  have c2 := f2.keep c1 (hne_of0 hw).1 n1
  have d2 := f2.keep d1 (hne_of hw 1).1 m1
  have n2 := f2.own (List.getElem?_eq_some_iff.1 c1).1 n1
  simp
  repeat first|((first|refine qa tOk rfl ?_|refine qb tOk rfl ?_|refine qc ?_|refine qd ?_|refine qe ?_);simp [c2, d2])|refine AWP_block ?_|refine AWP_seq ?_
  rw [List.length_append] at l2
  refine AStep_FC rfl rfl (fc_put_Start x.starts hv _ [] [.vptr H.length 0] encStt noE G2 q o2 _ _ w2 (by omega) (fun b hb' H' o' out' e' a fr c => fc_wcfg2 b (i3 b hb') H' q o' out' e' _ a (fr.keep c2 (hne_of0 hw).1 n2) c)) rfl ?_
  rintro _ G3 ⟨rfl, h⟩
  simp
  repeat first|((first|refine qa tOk rfl ?_|refine qb tOk rfl ?_|refine qc ?_|refine qd ?_|refine qe ?_);simp)|refine AWP_block ?_|refine AWP_seq ?_
  exact WP.cut (WI.trans f1 (WP.trans f2 (by rw [List.length_append]; omega) e2 ⟨rfl, h⟩))
set_option maxHeartbeats 1000000 in
theorem fc_wengine (x : Eng) (hi : jEng x) (H : List AObj) (q : Nat) (o : Option Nat) (out : List UInt8) (e : Int) (hw : WA H q out e o) (hb : out.length + (encEng x).length ≤ 1000000000) :
    FC Tryz.prog 221 [.vptr q 0, avEng x] H (WP H q o out e (encEng x) (errEng x)) := by
  refine FC_body tOk Tryz.func221 rfl Tryz.results221 rfl (by simp [Tryz.ntmps221]) ?_
  rw [Tryz.ntmps221]
  simp only [argSlots]
  have hle : (encEng x).length = (encN x.mark).length + ((encL encEv x.waiting).length + ((encL encCfg x.runs).length + (encL encEv x.held).length)) := by simp [encEng]
  obtain ⟨i1, ⟨l1, i2⟩, ⟨l2, i3⟩, l3, i4⟩ := hi
  repeat first|((first|refine qa tOk rfl ?_|refine qb tOk rfl ?_|refine qc ?_|refine qd ?_|refine qe ?_);simp)|refine AWP_block ?_|refine AWP_seq ?_
  refine AStep_FC rfl rfl (fc_wint _ q o out e x.mark i1 (hw.app _) (by omega)) rfl ?_
  rintro _ G1 ⟨rfl, o1, w1, f1, _⟩
  have d1 := f1.keep (j := H.length) (x := .vars [.i x.mark, .list (x.waiting.map encE), .list (x.runs.map avCfg), .list (x.held.map encE)]) (by simp) (hne_of0 hw).1 (hne_of0 hw).2
  have m1 := f1.own (j := H.length) (by simp) (hne_of0 hw).2
  simp
  repeat first|((first|refine qa tOk rfl ?_|refine qb tOk rfl ?_|refine qc ?_|refine qd ?_|refine qe ?_);simp [d1])|refine AWP_block ?_|refine AWP_seq ?_
  refine AStep_FC rfl rfl (fc_put_Event x.waiting l1 _ [.vptr q 0] [] encEv errEv G1 q o1 _ e w1 (by rw [List.length_append]; omega) (fun b hb' H' o' out' e' a fr c => fc_wevent b (i2 b hb') H' q o' out' e' a c)) rfl ?_
  rintro _ G2 ⟨rfl, t2, o2, w2, f2, k2, e2⟩
  have d2 := f2.keep d1 (hne_of0 hw).1 m1
  have m2 := f2.own (List.getElem?_eq_some_iff.1 d1).1 m1
  simp
  repeat first|((first|refine qa tOk rfl ?_|refine qb tOk rfl ?_|refine qc ?_|refine qd ?_|refine qe ?_);simp [d2])|refine AWP_block ?_|refine AWP_seq ?_
  rw [List.length_append] at k2
  refine AStep_FC rfl rfl (fc_put_Config x.runs l2 _ [.vptr q 0] [] encCfg errCfg G2 q o2 _ _ w2 (by omega) (fun b hb' H' o' out' e' a fr c => fc_wconfig b (i3 b hb') H' q o' out' e' a c)) rfl ?_
  rintro _ G3 ⟨rfl, t3, o3, w3, f3, k3, e3⟩
  have d3 := f3.keep d2 (hne_of0 hw).1 m2
  simp
  repeat first|((first|refine qa tOk rfl ?_|refine qb tOk rfl ?_|refine qc ?_|refine qd ?_|refine qe ?_);simp [d3])|refine AWP_block ?_|refine AWP_seq ?_
  refine AStep_FC rfl rfl (fc_put_Event x.held l3 _ [.vptr q 0] [] encEv errEv G3 q o3 _ _ w3 (by omega) (fun b hb' H' o' out' e' a fr c => fc_wevent b (i4 b hb') H' q o' out' e' a c)) rfl ?_
  rintro _ G4 ⟨rfl, h⟩
  simp
  repeat first|((first|refine qa tOk rfl ?_|refine qb tOk rfl ?_|refine qc ?_|refine qd ?_|refine qe ?_);simp)|refine AWP_block ?_|refine AWP_seq ?_
  exact WP.cut (WI.trans f1 (WP.trans f2 (by rw [List.length_append]; omega) e2 (WP.trans f3 k3 e3 ⟨rfl, h⟩)))
set_option maxHeartbeats 1000000 in
theorem fc_wreader (x : Rdr) (hi : jRdr x) (H : List AObj) (q : Nat) (o : Option Nat) (out : List UInt8) (e : Int) (hw : WA H q out e o) (hb : out.length + (encRdr x).length ≤ 1000000000) :
    FC Tryz.prog 179 [.vptr q 0, avRdr x] H (WP H q o out e (encRdr x) (errRdr x)) := by
  refine FC_body tOk Tryz.func179 rfl Tryz.results179 rfl (by simp [Tryz.ntmps179]) ?_
  rw [Tryz.ntmps179]
  simp only [argSlots]
  have heq : encRdr x = [x.source, x.offset, x.trk.next].flatMap encN ++ (encL encN x.trk.beyond ++ (encL encPnt x.trk.points ++ encN x.trk.mark)) := by simp [encRdr, encTrk]
  have hle : (encRdr x).length = ([x.source, x.offset, x.trk.next].flatMap encN).length + ((encL encN x.trk.beyond).length + ((encL encPnt x.trk.points).length + (encN x.trk.mark).length)) := by rw [heq]; simp only [List.length_append]
  obtain ⟨⟨i1, i2, i3, i4, i5, i6⟩, l1, l2⟩ := hi
  repeat first|((first|refine qa tOk rfl ?_|refine qb tOk rfl ?_|refine qc ?_|refine qd ?_|refine qe ?_);simp)|refine AWP_block ?_|refine AWP_seq ?_
  refine AStep_FC rfl rfl (fc_wints [x.source, x.offset, x.trk.next] (by simp) (by simp [i1, i2, i3]) _ q o out e (H.length + 2) (hw.app _) (by simp) (hne_of hw 2).1 (hne_of hw 2).2 (by omega)) rfl ?_
  rintro _ G1 ⟨rfl, o1, w1, f1, _⟩
  have c1 := f1.keep (j := H.length) (x := .vars [.vptr q 0]) (by simp) (hne_of0 hw).1 (hne_of0 hw).2
  have d1 := f1.keep (j := H.length + 1) (x := .vars [.i x.source, .i x.offset, .i x.trk.next, .list (x.trk.beyond.map encI), .list (x.trk.points.map avPnt), .i x.trk.mark]) (by simp) (hne_of hw 1).1 (hne_of hw 1).2
  have n1 := f1.own (j := H.length) (by simp) (hne_of0 hw).2
  have m1 := f1.own (j := H.length + 1) (by simp) (hne_of hw 1).2
  simp
  repeat first|((first|refine qa tOk rfl ?_|refine qb tOk rfl ?_|refine qc ?_|refine qd ?_|refine qe ?_);simp [c1, d1])|refine AWP_block ?_|refine AWP_seq ?_
  refine AStep_FC rfl rfl (fc_put_int x.trk.beyond l1 _ [.vptr q 0] [] encN noE G1 q o1 _ e w1 (by rw [List.length_append]; omega) (fun b hb' H' o' out' e' a fr c => (fc_wint H' q o' out' e' b (i4 b hb') a c).mono fun _ _ h => h.wp)) rfl ?_
  rintro _ G2 ⟨rfl, t2, o2, w2, f2, k2, e2⟩
  have c2 := f2.keep c1 (hne_of0 hw).1 n1
  have d2 := f2.keep d1 (hne_of hw 1).1 m1
  have n2 := f2.own (List.getElem?_eq_some_iff.1 c1).1 n1
  have m2 := f2.own (List.getElem?_eq_some_iff.1 d1).1 m1
  simp
  repeat first|((first|refine qa tOk rfl ?_|refine qb tOk rfl ?_|refine qc ?_|refine qd ?_|refine qe ?_);simp [c2, d2])|refine AWP_block ?_|refine AWP_seq ?_
  rw [List.length_append] at k2
  refine AStep_FC rfl rfl (fc_put_Point x.trk.points l2 _ [] [.vptr H.length 0] encPnt noE G2 q o2 _ _ w2 (by omega) (fun b hb' H' o' out' e' a fr c => fc_wrdr1 b (i5 b hb') H' q o' out' e' _ a (fr.keep c2 (hne_of0 hw).1 n2) c)) rfl ?_
  rintro _ G3 ⟨rfl, t3, o3, w3, f3, k3, e3⟩
  have c3 := f3.keep c2 (hne_of0 hw).1 n2
  have d3 := f3.keep d2 (hne_of hw 1).1 m2
  simp
  repeat first|((first|refine qa tOk rfl ?_|refine qb tOk rfl ?_|refine qc ?_|refine qd ?_|refine qe ?_);simp [c3, d3])|refine AWP_block ?_|refine AWP_seq ?_
  refine AStep_FC rfl rfl (fc_wint G3 q o3 _ _ x.trk.mark i6 w3 (by omega)) rfl ?_
  rintro _ G4 ⟨rfl, h⟩
  simp
  repeat first|((first|refine qa tOk rfl ?_|refine qb tOk rfl ?_|refine qc ?_|refine qd ?_|refine qe ?_);simp)|refine AWP_block ?_|refine AWP_seq ?_
  rw [heq, show errRdr x = orE (errL noE x.trk.beyond) (orE (errL noE x.trk.points) 0) by rw [orE_self]; rfl]
  exact WP.cut (WI.trans f1 (WP.trans f2 (by rw [List.length_append]; omega) e2 (WP.trans f3 k3 e3 (WI.wp ⟨rfl, h⟩))))
end Go.Abs
set_option maxRecDepth 100000
namespace Go.Abs
open Go Go.Proofs
set_option linter.unusedSimpArgs false
set_option maxHeartbeats 1000000 in
theorem fc_wop1 (x : Kyd) (hi : jKyd x) (H : List AObj) (q : Nat) (o : Option Nat) (out : List UInt8) (e : Int) (c : Nat) (hw : WA H q out e o) (hc : H[c]? = some (.vars [.vptr q 0])) (hcq : c ≠ q) (hco : some c ≠ o) (hb : out.length + (encKyd x).length ≤ 1000000000) :
    FC Tryz.prog 219 [avKyd x, .vptr c 0] H (WP H q o out e (encKyd x) (errKyd x)) := by
  refine FC_body tOk Tryz.func219 rfl Tryz.results219 rfl (by simp [Tryz.ntmps219]) ?_
  rw [Tryz.ntmps219]
  simp only [argSlots]
  have hle : (encKyd x).length = (encN x.query).length + ((encVal x.key).length + (encEng x.eng).length) := by simp [encKyd]
  obtain ⟨i1, i2, i3⟩ := hi
  have hc' : ∀ A : AObj, (H ++ [A])[c]? = some (.vars [.vptr q 0]) := fun A => get_app hc _
  repeat first|((first|refine qa tOk rfl ?_|refine qb tOk rfl ?_|refine qc ?_|refine qd ?_|refine qe ?_);simp [hc'])|refine AWP_block ?_|refine AWP_seq ?_
  refine AStep_FC rfl rfl (fc_wint _ q o out e x.query i1 (hw.app _) (by omega)) rfl ?_
  rintro _ G1 ⟨rfl, o1, w1, f1, _⟩
  have c1 := f1.keep (hc' _) hcq hco
  have n1 := f1.own (List.getElem?_eq_some_iff.1 (hc' _)).1 hco
  have d1 := f1.keep (j := H.length) (x := .vars [.i x.query, .i x.key.kind, .i x.key.num, .str x.key.text, .i x.eng.mark, .list (x.eng.waiting.map encE), .list (x.eng.runs.map avCfg), .list (x.eng.held.map encE)]) (by simp) (hne_of0 hw).1 (hne_of0 hw).2
  have m1 := f1.own (j := H.length) (by simp) (hne_of0 hw).2
  simp
  repeat first|((first|refine qa tOk rfl ?_|refine qb tOk rfl ?_|refine qc ?_|refine qd ?_|refine qe ?_);simp [c1, d1])|refine AWP_block ?_|refine AWP_seq ?_
  refine AStep_FC rfl rfl (fc_wvalue x.key i2 G1 q o1 _ e w1 (by rw [List.length_append]; omega)) rfl ?_
  rintro _ G2 ⟨rfl, t2, o2, w2, f2, k2, e2⟩
  have c2 := f2.keep c1 hcq n1
  have d2 := f2.keep d1 (hne_of0 hw).1 m1
  simp
  repeat first|((first|refine qa tOk rfl ?_|refine qb tOk rfl ?_|refine qc ?_|refine qd ?_|refine qe ?_);simp [c2, d2])|refine AWP_block ?_|refine AWP_seq ?_
  rw [List.length_append] at k2
  refine AStep_FC rfl rfl (fc_wengine x.eng i3 G2 q o2 _ _ w2 (by omega)) rfl ?_
  rintro _ G3 ⟨rfl, h⟩
  simp
  repeat first|((first|refine qa tOk rfl ?_|refine qb tOk rfl ?_|refine qc ?_|refine qd ?_|refine qe ?_);simp)|refine AWP_block ?_|refine AWP_seq ?_
  rw [show encKyd x = encN x.query ++ (encVal x.key ++ encEng x.eng) from rfl, show errKyd x = orE (checkR x.key) (errEng x.eng) from rfl]
  exact WP.cut (WI.trans f1 (WP.trans f2 (by rw [List.length_append]; omega) e2 ⟨rfl, h⟩))
set_option maxHeartbeats 1000000 in
theorem fc_woperator (x : Opr) (hi : jOpr x) (H : List AObj) (q : Nat) (o : Option Nat) (out : List UInt8) (e : Int) (hw : WA H q out e o) (hb : out.length + (encOpr x).length ≤ 1000000000) :
    FC Tryz.prog 181 [.vptr q 0, avOpr x] H (WP H q o out e (encOpr x) (errOpr x)) := by
  refine FC_body tOk Tryz.func181 rfl Tryz.results181 rfl (by simp [Tryz.ntmps181]) ?_
  rw [Tryz.ntmps181]
  simp only [argSlots]
  have hle : (encOpr x).length = (encL encN x.marks).length + (encL encKyd x.engines).length := by simp [encOpr]
  obtain ⟨⟨l1, i1⟩, l2, i2⟩ := hi
  repeat first|((first|refine qa tOk rfl ?_|refine qb tOk rfl ?_|refine qc ?_|refine qd ?_|refine qe ?_);simp)|refine AWP_block ?_|refine AWP_seq ?_
  refine AStep_FC rfl rfl (fc_put_int x.marks l1 _ [.vptr q 0] [] encN noE _ q o out e (hw.app _) (by omega) (fun b hb' H' o' out' e' a fr c => (fc_wint H' q o' out' e' b (i1 b hb') a c).mono fun _ _ h => h.wp)) rfl ?_
  rintro _ G1 ⟨rfl, t1, o1, w1, f1, k1, e1⟩
  have c1 := f1.keep (j := H.length) (x := .vars [.vptr q 0]) (by simp) (hne_of0 hw).1 (hne_of0 hw).2
  have d1 := f1.keep (j := H.length + 1) (x := .vars [.list (x.marks.map encI), .list (x.engines.map avKyd)]) (by simp) (hne_of hw 1).1 (hne_of hw 1).2
  have n1 := f1.own (j := H.length) (by simp) (hne_of0 hw).2
  have r1 := (List.getElem?_eq_some_iff.1 c1).1
  simp
  repeat first|((first|refine qa tOk rfl ?_|refine qb tOk rfl ?_|refine qc ?_|refine qd ?_|refine qe ?_);simp [c1, d1])|refine AWP_block ?_|refine AWP_seq ?_
  refine AStep_FC rfl rfl (fc_put_Keyed x.engines l2 _ [] [.vptr H.length 0] encKyd errKyd G1 q o1 _ _ w1 (by omega) (fun b hb' H' o' out' e' a fr c => fc_wop1 b (i2 b hb') H' q o' out' e' _ a (fr.keep c1 (hne_of0 hw).1 n1) (hne_of0 hw).1 (fr.own r1 n1) c)) rfl ?_
  rintro _ G2 ⟨rfl, h⟩
  simp
  repeat first|((first|refine qa tOk rfl ?_|refine qb tOk rfl ?_|refine qc ?_|refine qd ?_|refine qe ?_);simp)|refine AWP_block ?_|refine AWP_seq ?_
  rw [show encOpr x = encL encN x.marks ++ encL encKyd x.engines from rfl, show errOpr x = orE (errL noE x.marks) (errL errKyd x.engines) from rfl]
  exact WP.cut (WP.trans f1 k1 e1 ⟨rfl, h⟩)
set_option maxHeartbeats 1000000 in
theorem fc_wsnapshot (x : Snp) (hi : jSnp x) (H : List AObj) (q : Nat) (o : Option Nat) (out : List UInt8) (e : Int) (hw : WA H q out e o) (hb : out.length + (encSnp x).length ≤ 1000000000) :
    FC Tryz.prog 132 [.vptr q 0, avSnp x] H (WP H q o out e (encSnp x) (errSnp x)) := by
  refine FC_body tOk Tryz.func132 rfl Tryz.results132 rfl (by simp [Tryz.ntmps132]) ?_
  rw [Tryz.ntmps132]
  simp only [argSlots]
  have hle : (encSnp x).length = (encN x.number).length + ((encL encRdr x.readers).length + (encL encOpr x.operators).length) := by simp [encSnp]
  obtain ⟨i1, ⟨l1, i2⟩, l2, i3⟩ := hi
  repeat first|((first|refine qa tOk rfl ?_|refine qb tOk rfl ?_|refine qc ?_|refine qd ?_|refine qe ?_);simp)|refine AWP_block ?_|refine AWP_seq ?_
  refine AStep_FC rfl rfl (fc_wint _ q o out e x.number i1 (hw.app _) (by omega)) rfl ?_
  rintro _ G1 ⟨rfl, o1, w1, f1, _⟩
  have d1 := f1.keep (j := H.length) (x := .vars [.i x.number, .list (x.readers.map avRdr), .list (x.operators.map avOpr)]) (by simp) (hne_of0 hw).1 (hne_of0 hw).2
  have m1 := f1.own (j := H.length) (by simp) (hne_of0 hw).2
  simp
  repeat first|((first|refine qa tOk rfl ?_|refine qb tOk rfl ?_|refine qc ?_|refine qd ?_|refine qe ?_);simp [d1])|refine AWP_block ?_|refine AWP_seq ?_
  refine AStep_FC rfl rfl (fc_put_Reader x.readers l1 _ [.vptr q 0] [] encRdr errRdr G1 q o1 _ e w1 (by rw [List.length_append]; omega) (fun b hb' H' o' out' e' a fr c => fc_wreader b (i2 b hb') H' q o' out' e' a c)) rfl ?_
  rintro _ G2 ⟨rfl, t2, o2, w2, f2, k2, e2⟩
  have d2 := f2.keep d1 (hne_of0 hw).1 m1
  simp
  repeat first|((first|refine qa tOk rfl ?_|refine qb tOk rfl ?_|refine qc ?_|refine qd ?_|refine qe ?_);simp [d2])|refine AWP_block ?_|refine AWP_seq ?_
  rw [List.length_append] at k2
  refine AStep_FC rfl rfl (fc_put_Operator x.operators l2 _ [.vptr q 0] [] encOpr errOpr G2 q o2 _ _ w2 (by omega) (fun b hb' H' o' out' e' a fr c => fc_woperator b (i3 b hb') H' q o' out' e' a c)) rfl ?_
  rintro _ G3 ⟨rfl, h⟩
  simp
  repeat first|((first|refine qa tOk rfl ?_|refine qb tOk rfl ?_|refine qc ?_|refine qd ?_|refine qe ?_);simp)|refine AWP_block ?_|refine AWP_seq ?_
  rw [show encSnp x = encN x.number ++ (encL encRdr x.readers ++ encL encOpr x.operators) from rfl, show errSnp x = orE (errL errRdr x.readers) (errL errOpr x.operators) from rfl]
  exact WP.cut (WI.trans f1 (WP.trans f2 (by rw [List.length_append]; omega) e2 ⟨rfl, h⟩))
end Go.Abs
set_option maxRecDepth 100000
namespace Go.Abs
open Go Go.Proofs
set_option linter.unusedSimpArgs false
theorem xor_nat (k : IntKind) (j : Nat) (hj : j ≤ k.bits) (hk : ∀ n : Int, 0 ≤ n → n < 2 ^ j → k.wrap n = n) (a b : Nat) (ha : a < 2 ^ j) (hb : b < 2 ^ j) : bits .xor k a b = ((a ^^^ b : Nat) : Int) := by
  have hp : 2 ^ j ≤ 2 ^ k.bits := Nat.pow_le_pow_right (by decide) hj
  have ha' : a % 2 ^ k.bits = a := Nat.mod_eq_of_lt (Nat.lt_of_lt_of_le ha hp)
  have hb' : b % 2 ^ k.bits = b := Nat.mod_eq_of_lt (Nat.lt_of_lt_of_le hb hp)
  simp only [bits, BitVec.ofInt_natCast, BitVec.toNat_xor, BitVec.toNat_ofNat, ha', hb']
  have h : (a ^^^ b) < 2 ^ j := Nat.xor_lt_two_pow ha hb
  exact hk _ (by omega) (by exact_mod_cast h)
theorem u32_wrap_nat (u : Nat) (h : u < 4294967296) : IntKind.u32.wrap (u : Int) = u := by simp [IntKind.wrap, IntKind.bits, IntKind.signed]; omega
theorem ck_p (h : Nat) (c : UInt8) (hh : h < 4294967296) : IntKind.u32.wrap (bits .xor .u32 h (IntKind.u32.wrap c.toNat) * 16777619) = (ckStep h c : Int) := by
  have hc := c.toNat_lt
  rw [u32_wrap_nat _ (by omega), xor_nat .u32 32 (by decide) (fun n n0 n1 => by simp [IntKind.wrap, IntKind.bits, IntKind.signed]; omega) _ _ hh (by omega), ckStep]
  simp [IntKind.wrap, IntKind.bits, IntKind.signed]
theorem ck_r (h : Nat) (c : UInt8) (hh : h < 4294967296) : Int.tmod (IntKind.i64.wrap (bits .xor .i64 h (IntKind.i64.wrap c.toNat) * 16777619)) 4294967296 = (ckStep h c : Int) := by
  have hc := c.toNat_lt
  rw [wrap_i64 (c.toNat : Int) (by omega) (by omega), xor_nat .i64 32 (by decide) (fun n n0 n1 => wrap_i64 _ (by omega) (by omega)) _ _ hh (by omega), ckStep]
  have hx : (h ^^^ c.toNat) < 2 ^ 32 := Nat.xor_lt_two_pow hh (by omega)
  rw [wrap_i64 _ (by omega) (by omega), Int.tmod_eq_emod_of_nonneg (by omega)]
  omega
theorem ck_take (s : List UInt8) (j : Nat) (h : j < s.length) : ckSum (s.take (j + 1)) = ckStep (ckSum (s.take j)) s[j] := by
  rw [List.take_succ_eq_append_getElem h, ckSum, List.foldl_append, List.foldl_cons, List.foldl_nil, ckSum]
theorem ck_nil : ckSum [] = 2166136261 := by rw [ckSum, List.foldl_nil]
attribute [local irreducible] ckStep ckSum
set_option maxHeartbeats 1000000 in
theorem pc_Checksum (s : List UInt8) (hs : s.length ≤ 1000000000) : PC Tryz.prog 113 [.str s] (fun r => r = .i (ckSum s)) := by
  refine PC_body tOk Tryz.func113 rfl Tryz.results113 rfl (by simp [Tryz.ntmps113]) ?_
  rw [Tryz.ntmps113]
  simp only [argSlots]
  repeat first|((first|refine qa tOk rfl ?_|refine qb tOk rfl ?_|refine qc ?_|refine qd ?_|refine qe ?_);simp)|refine AWP_block ?_|refine AWP_seq ?_
  refine AWP_count s.length (fun j => [(0, .str s), (3, .int .u32 (ckSum (s.take j))), (6, .i s.length), (7, .i j)]) (fun _ => []) rfl (by simp) (by simp [ck_nil]) (by simp) (by simp) ?_
  intro j hj ih
  have hlt32 := ckSum_lt (s.take j)
  repeat first|((first|refine qa tOk rfl ?_|refine qb tOk rfl ?_|refine qc ?_|refine qd ?_|refine qe ?_);simp)|refine AWP_block ?_|refine AWP_seq ?_
  refine AWP_cond2 rfl (fun h => ?_) (fun h => ?_)
  · have hlt : j < s.length := by simpa using h
    have hw1 : IntKind.i64.wrap ((j : Int) + 1) = j + 1 := wrap_i64 _ (by omega) (by omega)
    repeat first|((first|refine qa tOk rfl ?_|refine qb tOk rfl ?_|refine qc ?_|refine qd ?_|refine qe ?_);simp [hlt, ck_p _ _ hlt32, hw1])|refine AWP_block ?_|refine AWP_seq ?_
    refine ALoop_end [] (ih hlt) rfl (by simp) ?_ (by simp) (by simp)
    simp [ck_take s j hlt]
  · have hge : j = s.length := by simp at h; omega
    subst hge
    rw [List.take_length] at *
    have := ckSum_lt s
    have hw : IntKind.i64.wrap (ckSum s : Int) = ckSum s := wrap_i64 _ (by omega) (by omega)
    repeat first|((first|refine qa tOk rfl ?_|refine qb tOk rfl ?_|refine qc ?_|refine qd ?_|refine qe ?_);simp [hw])|refine AWP_block ?_|refine AWP_seq ?_
set_option maxHeartbeats 1000000 in
theorem pc_rChecksum (s : List UInt8) (hs : s.length ≤ 1000000000) : PC Tryz.prog 170 [.str s] (fun r => r = .i (ckSum s)) := by
  refine PC_body tOk Tryz.func170 rfl Tryz.results170 rfl (by simp [Tryz.ntmps170]) ?_
  rw [Tryz.ntmps170]
  simp only [argSlots]
  repeat first|((first|refine qa tOk rfl ?_|refine qb tOk rfl ?_|refine qc ?_|refine qd ?_|refine qe ?_);simp)|refine AWP_block ?_|refine AWP_seq ?_
  refine AWP_count s.length (fun j => [(0, .str s), (3, .i (ckSum (s.take j))), (4, .i j)]) (fun _ => []) rfl (by simp) (by simp [ck_nil]) (by simp) (by simp) ?_
  intro j hj ih
  have hlt32 := ckSum_lt (s.take j)
  repeat first|((first|refine qa tOk rfl ?_|refine qb tOk rfl ?_|refine qc ?_|refine qd ?_|refine qe ?_);simp)|refine AWP_block ?_|refine AWP_seq ?_
  refine AWP_cond2 rfl (fun h => ?_) (fun h => ?_)
  · have hlt : j < s.length := by simpa using h
    have hw1 : IntKind.i64.wrap ((j : Int) + 1) = j + 1 := wrap_i64 _ (by omega) (by omega)
    repeat first|((first|refine qa tOk rfl ?_|refine qb tOk rfl ?_|refine qc ?_|refine qd ?_|refine qe ?_);simp [hlt, ck_r _ _ hlt32, hw1])|refine AWP_block ?_|refine AWP_seq ?_
    refine ALoop_end [] (ih hlt) rfl (by simp) ?_ (by simp) (by simp)
    simp [ck_take s j hlt]
  · have hge : j = s.length := by simp at h; omega
    subst hge
    rw [List.take_length] at *
    repeat first|((first|refine qa tOk rfl ?_|refine qb tOk rfl ?_|refine qc ?_|refine qd ?_|refine qe ?_);simp)|refine AWP_block ?_|refine AWP_seq ?_
end Go.Abs
set_option maxRecDepth 100000
namespace Go.Abs
open Go Go.Proofs
set_option linter.unusedSimpArgs false
attribute [local irreducible] ckStep ckSum encSnp errSnp
@[simp] theorem range4 : ([0, 1, 2, 3] = List.range 4) = True := by decide
theorem shB (c k j : Nat) (hk : (2 : Int) ^ min k IntKind.i64.bits = (j : Int)) (hj : 0 < j) : (.int .u8 (IntKind.u8.wrap ((c : Int).fdiv (2 ^ min k IntKind.i64.bits))) : AV) = byteAV (UInt8.ofNat (c / j)) := by
  rw [hk, Int.fdiv_eq_ediv_of_nonneg _ (by omega), ← Int.natCast_ediv]
  simp [byteAV, IntKind.wrap, IntKind.bits, IntKind.signed]
theorem shB0 (c : Nat) : (.int .u8 (IntKind.u8.wrap (c : Int)) : AV) = byteAV (UInt8.ofNat c) := by
  simp [byteAV, IntKind.wrap, IntKind.bits, IntKind.signed]
theorem shBs (c : Nat) : ([.int .u8 (IntKind.u8.wrap ((c : Int).fdiv (2 ^ min 24 IntKind.i64.bits))), .int .u8 (IntKind.u8.wrap ((c : Int).fdiv (2 ^ min 16 IntKind.i64.bits))), .int .u8 (IntKind.u8.wrap ((c : Int).fdiv (2 ^ min 8 IntKind.i64.bits))), .int .u8 (IntKind.u8.wrap (c : Int))] : List AV) = (sumB c).map byteAV := by
  rw [shB c 24 16777216 (by decide) (by decide), shB c 16 65536 (by decide) (by decide), shB c 8 256 (by decide) (by decide), shB0]
  rfl
theorem sumB_len (c : Nat) : (sumB c).length = 4 := rfl
attribute [local irreducible] sumB
def cSnp (x : Snp) : List AV := [.i x.number, .list (x.readers.map avRdr), .list (x.operators.map avOpr)]
theorem fc_Encode1 (x : Snp) (hi : jSnp x) (H : List AObj) (q : Nat) (o : Option Nat) (out : List UInt8) (e : Int) (c : Nat) (hw : WA H q out e o) (hc : H[c]? = some (.vars (cSnp x))) (hb : out.length + (encSnp x).length ≤ 1000000000) :
    FC Tryz.prog 131 [.vptr q 0, .vptr c 0] H (WP H q o out e (encSnp x) (errSnp x)) := by
  refine FC_body tOk Tryz.func131 rfl Tryz.results131 rfl (by simp [Tryz.ntmps131]) ?_
  rw [Tryz.ntmps131]
  simp only [argSlots]
  rw [cSnp] at hc
  repeat first|((first|refine qa tOk rfl ?_|refine qb tOk rfl ?_|refine qc ?_|refine qd ?_|refine qe ?_);simp [hc])|refine AWP_block ?_|refine AWP_seq ?_
  refine AStep_FC rfl rfl (fc_wsnapshot x hi H q o out e hw hb) rfl ?_
  rintro _ G ⟨rfl, h⟩
  simp
  repeat first|((first|refine qa tOk rfl ?_|refine qb tOk rfl ?_|refine qc ?_|refine qd ?_|refine qe ?_);simp)|refine AWP_block ?_|refine AWP_seq ?_
  exact ⟨rfl, h⟩
set_option maxHeartbeats 1000000 in
theorem fc_sealed (x : Snp) (hi : jSnp x) (hb : (encSnp x).length ≤ 900000000) :
    FC Tryz.prog 130 [.fn (.func 131) [] [.vptr 0 0]] [.vars (cSnp x)] (fun r _ => r = .tup [.str (encodeR x).1, .i (encodeR x).2]) := by
  refine FC_body tOk Tryz.func130 rfl Tryz.results130 rfl (by simp [Tryz.ntmps130]) ?_
  rw [Tryz.ntmps130]
  simp only [argSlots]
  obtain ⟨R, hR⟩ : ∃ R, encodeR x = R := ⟨_, rfl⟩
  rw [hR]
  rw [encodeR] at hR
  repeat first|((first|refine qa tOk rfl ?_|refine qb tOk rfl ?_|refine qc ?_|refine qd ?_|refine qe ?_);simp)|refine AWP_block ?_|refine AWP_seq ?_
  refine AStep_FC rfl rfl (fc_Encode1 x hi [.vars (cSnp x), .vars [.nils, .i 0]] 1 none [] 0 0 ⟨by unfold wX; rw [wOut_none]; rfl, rfl⟩ rfl (by simp; omega)) rfl ?_
  rintro _ G ⟨rfl, out, o, w1, f1, l1, e1⟩
  rw [orE_z] at w1 e1
  simp at l1
  simp
  by_cases hz : errSnp x = 0
  · have hout : out = encSnp x := by simpa using e1 hz
    rw [if_neg (by simpa using hz)] at hR
    rw [hz] at w1
    subst hout
    cases o with
    | none => 
      have h := w1.2
      have h2 : 0 < (encSnp x).length := by unfold encSnp; rw [List.length_append]; have := encN_pos x.number; omega
      rw [h] at h2; simp at h2
    | some p =>
      have g0 := w1.1
      rw [wX, wOut_some] at g0
      have g6 := w1.2.1
      repeat first|((first|refine qa tOk rfl ?_|refine qb tOk rfl ?_|refine qc ?_|refine qd ?_|refine qe ?_);simp [g0])|refine AWP_block ?_|refine AWP_seq ?_
      refine AWP_cond2 rfl (fun h => ?_) (fun h => ?_)
      · rw [if_pos (by simp at h; omega)] at hR
        repeat first|((first|refine qa tOk rfl ?_|refine qb tOk rfl ?_|refine qc ?_|refine qd ?_|refine qe ?_);simp [g0])|refine AWP_block ?_|refine AWP_seq ?_
        refine AStep_FC rfl rfl (fc_wfail G 1 _ _ _ 13 w1) rfl ?_
        rintro _ _ ⟨rfl, rfl⟩
        have w2 := (w1.err (orE 0 13)).1
        rw [orE_z] at w2 ⊢
        generalize G.set 1 (wX (encSnp x).length 13 (some p)) = G2 at *
        rw [wX] at w2
        simp
        repeat first|((first|refine qa tOk rfl ?_|refine qb tOk rfl ?_|refine qc ?_|refine qd ?_|refine qe ?_);simp [w2])|refine AWP_block ?_|refine AWP_seq ?_
        refine AWP_cond2 rfl (fun _ => ?_) (fun h => by cases h)
        repeat first|((first|refine qa tOk rfl ?_|refine qb tOk rfl ?_|refine qc ?_|refine qd ?_|refine qe ?_);simp)|refine AWP_block ?_|refine AWP_seq ?_
        refine AWP_drawT tOk mixed [] (.val 0 (.val 1 (.val 2 (.val 3 (.val 4 (.val 5 (.done))))))) rfl (by kernel_rfl) ?_
        simp [w2]
        repeat first|((first|refine qa tOk rfl ?_|refine qb tOk rfl ?_|refine qc ?_|refine qd ?_|refine qe ?_);simp)|refine AWP_block ?_|refine AWP_seq ?_
        rw [← hR]
        exact ⟨rfl, rfl⟩
      · rw [if_neg (by simp at h; omega)] at hR
        repeat first|((first|refine qa tOk rfl ?_|refine qb tOk rfl ?_|refine qc ?_|refine qd ?_|refine qe ?_);simp [g0])|refine AWP_block ?_|refine AWP_seq ?_
        refine AWP_cond rfl ?_
        repeat first|((first|refine qa tOk rfl ?_|refine qb tOk rfl ?_|refine qc ?_|refine qd ?_|refine qe ?_);simp [g0])|refine AWP_block ?_|refine AWP_seq ?_
        refine AStep_toStr tOk rfl rfl T117 rfl T5 rfl T9 rfl rfl (s := encSnp x) (by simp [g6]; rw [List.take_of_length_le (by simp)]) rfl ?_
        simp
        refine AStep_PC rfl rfl (by simp) (pc_Checksum (encSnp x) (by omega)) rfl ?_
        rintro _ rfl
        simp
        repeat first|((first|refine qa tOk rfl ?_|refine qb tOk rfl ?_|refine qc ?_|refine qd ?_|refine qe ?_);simp [g0])|refine AWP_block ?_|refine AWP_seq ?_
        rw [shBs]
        obtain ⟨a, b, c, d, hsb⟩ : ∃ a b c d, sumB (ckSum (encSnp x)) = [a, b, c, d] := ⟨_, _, _, _, by unfold sumB; rfl⟩
        rw [hsb]
        have b6 : ∀ A : AObj, (G ++ [A])[p]? = some (AObj.arr 5 1 (List.map byteAV (encSnp x))) := fun A => get_app g6 _
        have b7 : ∀ A B : AObj, ((G ++ [A]).set p .dead ++ [B])[G.length + 1]? = some B := fun A B => by
          have := List.getElem?_concat_length (l := (G ++ [A]).set p .dead) (a := B)
          simpa using this
        refine AStep_appendS tOk rfl rfl T117 rfl T5 rfl (by decide) (by decide) rfl rfl rfl ?_
        simp [b6]
        refine ⟨by simp [appOk, b6] <;> omega, ?_⟩
        refine AStep_toStr tOk rfl rfl T117 rfl T5 rfl T9 rfl rfl (s := encSnp x ++ [a, b, c, d]) (by simp [b7]; rw [List.take_of_length_le (by simp)]) rfl ?_
        simp
        repeat first|((first|refine qa tOk rfl ?_|refine qb tOk rfl ?_|refine qc ?_|refine qd ?_|refine qe ?_);simp)|refine AWP_block ?_|refine AWP_seq ?_
        rw [← hR, sealR, hsb]
        exact ⟨rfl, rfl⟩
  · rw [if_pos hz] at hR
    cases o with
    | none =>
      have g0 := w1.1
      rw [wX, wOut_none] at g0
      repeat first|((first|refine qa tOk rfl ?_|refine qb tOk rfl ?_|refine qc ?_|refine qd ?_|refine qe ?_);simp [g0])|refine AWP_block ?_|refine AWP_seq ?_
      refine AWP_cond2 rfl (fun h => by cases h) (fun h => ?_)
      repeat first|((first|refine qa tOk rfl ?_|refine qb tOk rfl ?_|refine qc ?_|refine qd ?_|refine qe ?_);simp [g0])|refine AWP_block ?_|refine AWP_seq ?_
      refine AWP_cond2 rfl (fun h => ?_) (fun h => by simp [hz] at h)
      repeat first|((first|refine qa tOk rfl ?_|refine qb tOk rfl ?_|refine qc ?_|refine qd ?_|refine qe ?_);simp)|refine AWP_block ?_|refine AWP_seq ?_
      refine AWP_drawT tOk mixed [] (.val 0 (.val 1 (.val 2 (.val 3 (.val 4 (.val 5 (.done))))))) rfl (by kernel_rfl) ?_
      simp [g0]
      repeat first|((first|refine qa tOk rfl ?_|refine qb tOk rfl ?_|refine qc ?_|refine qd ?_|refine qe ?_);simp)|refine AWP_block ?_|refine AWP_seq ?_
      rw [← hR]
      exact ⟨rfl, rfl⟩
    | some p =>
      have g0 := w1.1
      rw [wX, wOut_some] at g0
      have g6 := w1.2.1
      repeat first|((first|refine qa tOk rfl ?_|refine qb tOk rfl ?_|refine qc ?_|refine qd ?_|refine qe ?_);simp [g0])|refine AWP_block ?_|refine AWP_seq ?_
      refine AWP_cond2 rfl (fun h => ?_) (fun h => ?_)
      · repeat first|((first|refine qa tOk rfl ?_|refine qb tOk rfl ?_|refine qc ?_|refine qd ?_|refine qe ?_);simp [g0])|refine AWP_block ?_|refine AWP_seq ?_
        refine AStep_FC rfl rfl (fc_wfail G 1 _ _ _ 13 w1) rfl ?_
        rintro _ _ ⟨rfl, rfl⟩
        have w2 := (w1.err (orE (errSnp x) 13)).1
        rw [orE_ne hz] at w2 ⊢
        generalize G.set 1 (wX out.length (errSnp x) (some p)) = G2 at *
        rw [wX] at w2
        simp
        repeat first|((first|refine qa tOk rfl ?_|refine qb tOk rfl ?_|refine qc ?_|refine qd ?_|refine qe ?_);simp [w2])|refine AWP_block ?_|refine AWP_seq ?_
        refine AWP_cond2 rfl (fun h => ?_) (fun h => by simp [hz] at h)
        repeat first|((first|refine qa tOk rfl ?_|refine qb tOk rfl ?_|refine qc ?_|refine qd ?_|refine qe ?_);simp)|refine AWP_block ?_|refine AWP_seq ?_
        refine AWP_drawT tOk mixed [] (.val 0 (.val 1 (.val 2 (.val 3 (.val 4 (.val 5 (.done))))))) rfl (by kernel_rfl) ?_
        simp [w2]
        repeat first|((first|refine qa tOk rfl ?_|refine qb tOk rfl ?_|refine qc ?_|refine qd ?_|refine qe ?_);simp)|refine AWP_block ?_|refine AWP_seq ?_
        rw [← hR]
        exact ⟨rfl, rfl⟩
      · repeat first|((first|refine qa tOk rfl ?_|refine qb tOk rfl ?_|refine qc ?_|refine qd ?_|refine qe ?_);simp [g0])|refine AWP_block ?_|refine AWP_seq ?_
        refine AWP_cond2 rfl (fun h => ?_) (fun h => by simp [hz] at h)
        repeat first|((first|refine qa tOk rfl ?_|refine qb tOk rfl ?_|refine qc ?_|refine qd ?_|refine qe ?_);simp)|refine AWP_block ?_|refine AWP_seq ?_
        refine AWP_drawT tOk mixed [] (.val 0 (.val 1 (.val 2 (.val 3 (.val 4 (.val 5 (.done))))))) rfl (by kernel_rfl) ?_
        simp [g0]
        repeat first|((first|refine qa tOk rfl ?_|refine qb tOk rfl ?_|refine qc ?_|refine qd ?_|refine qe ?_);simp)|refine AWP_block ?_|refine AWP_seq ?_
        rw [← hR]
        exact ⟨rfl, rfl⟩
theorem pc_Encode (x : Snp) (hi : jSnp x) (hb : (encSnp x).length ≤ 900000000) : PC Tryz.prog 89 [avSnp x] (fun r => r = .tup [.str (encodeR x).1, .i (encodeR x).2]) := by
  refine PC_body tOk Tryz.func89 rfl Tryz.results89 rfl (by simp [Tryz.ntmps89]) ?_
  rw [Tryz.ntmps89]
  simp only [argSlots]
  repeat first|((first|refine qa tOk rfl ?_|refine qb tOk rfl ?_|refine qc ?_|refine qd ?_|refine qe ?_);simp)|refine AWP_block ?_|refine AWP_seq ?_
  refine AStep_FC rfl rfl (fc_sealed x hi hb) rfl ?_
  rintro _ G rfl
  simp
  repeat first|((first|refine qa tOk rfl ?_|refine qb tOk rfl ?_|refine qc ?_|refine qd ?_|refine qe ?_);simp)|refine AWP_block ?_|refine AWP_seq ?_
end Go.Abs
set_option maxRecDepth 100000
namespace Go.Abs
open Go Go.Proofs
set_option linter.unusedSimpArgs false
def exF : List UInt8 := [102]
def exG : List UInt8 := [103]
def exA : Disk := ⟨[⟨[102], [], [97, 98, 99]⟩], 10⟩
def exB : Disk := ⟨[⟨[102], [97, 98, 99], [97, 98, 99]⟩], 10⟩
def exC : Disk := ⟨[⟨[102], [97, 98, 99], [97, 98, 99, 100, 101]⟩], 10⟩
attribute [simp] exA exB exC
@[simp] theorem range2 : ([0, 1] = List.range 2) = True := by decide
@[simp] theorem range3 : ([0, 1, 2] = List.range 3) = True := by decide
def exD (v : List UInt8) : Disk := ⟨[⟨[102], v, v⟩], 10⟩
attribute [simp] exD
def tab3 : List AV := [.agg [.list [.i 0], .str [97, 98, 99]], .agg [.list [.i 1], .str [97, 98, 99, 100, 101]], .agg [.list [.i 2, .i 4], .str [97, 98, 99, 100]]]
end Go.Abs
set_option maxRecDepth 100000
namespace Go.Abs
open Go Go.Proofs
set_option linter.unusedSimpArgs false
attribute [simp] T104 T110
def wrS (s : Snp) (d : Disk) : Disk × Int := if validN s.number ≠ 0 then (d, validN s.number) else if (encodeR s).2 ≠ 0 then (d, (encodeR s).2) else changedR d (nameW s.number) (wrG (encodeR s).1)
theorem validN_i {n : Int} (h : validN n = 0) : -9223372036854775808 ≤ n ∧ n ≤ 9223372036854775807 := by have := (validN_iff n).1 h; omega
attribute [local irreducible] encodeR changedR checkD syncPR renamePR validN
set_option maxHeartbeats 1000000 in
theorem pc_writes1 (s : Snp) (hj : jSnp s) (hb : (encSnp s).length ≤ 900000000) (d : Disk) : PC Tryz.prog 88 [encD d, .iptr (cSnp s)] (fun r => r = .tup [encD (wrS s d).1, .i (wrS s d).2]) := by
  refine PC_body tOk Tryz.func88 rfl Tryz.results88 rfl (by simp [Tryz.ntmps88]) ?_
  rw [Tryz.ntmps88]
  simp only [argSlots]
  simp only [encD, cSnp]
  obtain ⟨R, hR⟩ : ∃ R, wrS s d = R := ⟨_, rfl⟩
  rw [hR]
  rw [wrS] at hR
  repeat first|((first|refine qa tOk rfl ?_|refine qb tOk rfl ?_|refine qc ?_|refine qd ?_|refine qe ?_);simp)|refine AWP_block ?_|refine AWP_seq ?_
  refine AStep_PC rfl rfl (by simp) (pc_valid s.number) rfl ?_
  rintro _ rfl
  simp
  repeat first|((first|refine qa tOk rfl ?_|refine qb tOk rfl ?_|refine qc ?_|refine qd ?_|refine qe ?_);simp)|refine AWP_block ?_|refine AWP_seq ?_
  by_cases hv : validN s.number = 0
  · rw [if_neg (fun h => h hv)] at hR
    refine AWP_cond2 rfl (fun h => by simp [hv] at h) (fun h => ?_)
    repeat first|((first|refine qa tOk rfl ?_|refine qb tOk rfl ?_|refine qc ?_|refine qd ?_|refine qe ?_);simp)|refine AWP_block ?_|refine AWP_seq ?_
    refine AStep_PC rfl rfl (by simp) (pc_Encode s hj hb) rfl ?_
    rintro _ rfl
    simp
    repeat first|((first|refine qa tOk rfl ?_|refine qb tOk rfl ?_|refine qc ?_|refine qd ?_|refine qe ?_);simp)|refine AWP_block ?_|refine AWP_seq ?_
    by_cases he : (encodeR s).2 = 0
    · rw [if_neg (fun h => h he)] at hR
      refine AWP_cond2 rfl (fun h => by simp [he] at h) (fun h => ?_)
      obtain ⟨i1, i2⟩ := validN_i hv
      have hl := Lib.itoa_length_le s.number (by omega) (by omega)
      have hl2 : 8 + (Lib.itoa s.number).length ≤ 9223372036854775807 := by omega
      repeat first|((first|refine qa tOk rfl ?_|refine qb tOk rfl ?_|refine qc ?_|refine qd ?_|refine qe ?_);simp)|refine AWP_block ?_|refine AWP_seq ?_
      refine AWP_drawT tOk mixed [9] (.val 0 (.val 1 (.val 2 (.val 5 (.one 3 (.val 4 (.one 6 (.val 7 (.val 8 (.one 9 (.val 10 (.done)))))))))))) rfl (by kernel_rfl) ?_
      simp
      refine AStep_PC rfl rfl (by simp) (pc_Itoa s.number i1 i2) rfl ?_
      rintro _ rfl
      simp [hl2]
      refine AStep_PC rfl rfl (by simp) (dpc13 d (nameW s.number) (encodeR s).1) rfl ?_
      rintro _ rfl
      simp
      repeat first|((first|refine qa tOk rfl ?_|refine qb tOk rfl ?_|refine qc ?_|refine qd ?_|refine qe ?_);simp)|refine AWP_block ?_|refine AWP_seq ?_
      rw [← hR]
      exact ⟨⟨rfl, rfl⟩, rfl⟩
    · rw [if_pos he] at hR
      refine AWP_cond2 rfl (fun h => ?_) (fun h => by simp [he] at h)
      repeat first|((first|refine qa tOk rfl ?_|refine qb tOk rfl ?_|refine qc ?_|refine qd ?_|refine qe ?_);simp)|refine AWP_block ?_|refine AWP_seq ?_
      rw [← hR]
      exact ⟨⟨rfl, rfl⟩, rfl⟩
  · rw [if_pos hv] at hR
    refine AWP_cond2 rfl (fun h => ?_) (fun h => by simp [hv] at h)
    repeat first|((first|refine qa tOk rfl ?_|refine qb tOk rfl ?_|refine qc ?_|refine qd ?_|refine qe ?_);simp)|refine AWP_block ?_|refine AWP_seq ?_
    rw [← hR]
    exact ⟨⟨rfl, rfl⟩, rfl⟩
theorem pc_writes (s : Snp) : PC Tryz.prog 50 [avSnp s] (fun r => r = .fn (.func 88) [] [.iptr (cSnp s)]) := by
  refine PC_body tOk Tryz.func50 rfl Tryz.results50 rfl (by simp [Tryz.ntmps50]) ?_
  rw [Tryz.ntmps50]
  simp only [argSlots]
  repeat first|((first|refine qa tOk rfl ?_|refine qb tOk rfl ?_|refine qc ?_|refine qd ?_|refine qe ?_);simp)|refine AWP_block ?_|refine AWP_seq ?_
  rfl
theorem pc_commits1 (n : Int) (d : Disk) : PC Tryz.prog 95 [encD d, .iptr [.i n]] (fun r => r = .tup [encD d, .i (validN n)]) := by
  refine PC_body tOk Tryz.func95 rfl Tryz.results95 rfl (by simp [Tryz.ntmps95]) ?_
  rw [Tryz.ntmps95]
  simp only [argSlots]
  simp only [encD]
  repeat first|((first|refine qa tOk rfl ?_|refine qb tOk rfl ?_|refine qc ?_|refine qd ?_|refine qe ?_);simp)|refine AWP_block ?_|refine AWP_seq ?_
  refine AWP_drawT tOk mixed [3] (.val 0 (.val 1 (.one 2 (.one 3 (.val 4 (.done)))))) rfl (by kernel_rfl) ?_
  simp
  refine AStep_PC rfl rfl (by simp) (pc_valid n) rfl ?_
  rintro _ rfl
  simp
  repeat first|((first|refine qa tOk rfl ?_|refine qb tOk rfl ?_|refine qc ?_|refine qd ?_|refine qe ?_);simp)|refine AWP_block ?_|refine AWP_seq ?_
theorem pc_commits2 (w : List UInt8) (d : Disk) : PC Tryz.prog 96 [encD d, .iptr [.str w]] (fun r => r = .tup [encD (syncPR d w).1, .i (syncPR d w).2]) := by
  refine PC_body tOk Tryz.func96 rfl Tryz.results96 rfl (by simp [Tryz.ntmps96]) ?_
  rw [Tryz.ntmps96]
  simp only [argSlots]
  simp only [encD]
  repeat first|((first|refine qa tOk rfl ?_|refine qb tOk rfl ?_|refine qc ?_|refine qd ?_|refine qe ?_);simp)|refine AWP_block ?_|refine AWP_seq ?_
  refine AStep_PC rfl rfl (by simp) (dpc28 d w) rfl ?_
  rintro _ rfl
  simp
  repeat first|((first|refine qa tOk rfl ?_|refine qb tOk rfl ?_|refine qc ?_|refine qd ?_|refine qe ?_);simp)|refine AWP_block ?_|refine AWP_seq ?_
theorem pc_commits3 (w : List UInt8) (n : Int) (h0 : -9223372036854775808 ≤ n) (h1 : n ≤ 9223372036854775807) (d : Disk) : PC Tryz.prog 98 [encD d, .iptr [.str w], .iptr [.i n]] (fun r => r = .tup [encD (renamePR d w (nameC n)).1, .i (renamePR d w (nameC n)).2]) := by
  refine PC_body tOk Tryz.func98 rfl Tryz.results98 rfl (by simp [Tryz.ntmps98]) ?_
  rw [Tryz.ntmps98]
  simp only [argSlots]
  simp only [encD]
  have hl := Lib.itoa_length_le n (by omega) (by omega)
  have hl2 : 11 + (Lib.itoa n).length ≤ 9223372036854775807 := by omega
  repeat first|((first|refine qa tOk rfl ?_|refine qb tOk rfl ?_|refine qc ?_|refine qd ?_|refine qe ?_);simp)|refine AWP_block ?_|refine AWP_seq ?_
  refine AWP_drawT tOk mixed [8] (.val 0 (.val 1 (.val 2 (.one 3 (.val 4 (.one 5 (.val 6 (.val 7 (.one 8 (.val 9 (.done))))))))))) rfl (by kernel_rfl) ?_
  simp
  refine AStep_PC rfl rfl (by simp) (pc_Itoa n h0 h1) rfl ?_
  rintro _ rfl
  simp [hl2]
  refine AStep_PC rfl rfl (by simp) (dpc29 d w (nameC n)) rfl ?_
  rintro _ rfl
  simp
  repeat first|((first|refine qa tOk rfl ?_|refine qb tOk rfl ?_|refine qc ?_|refine qd ?_|refine qe ?_);simp)|refine AWP_block ?_|refine AWP_seq ?_
abbrev Stp := FuncId × List AV × (Disk → Disk × Int)
def cloA (p : Stp) : AV := .fn (.func p.1) [] p.2.1
def coms (n : Int) : List Stp := [(95, [.iptr [.i n]], fun d => (d, validN n)), (96, [.iptr [.str (nameW n)]], fun d => syncPR d (nameW n)), (98, [.iptr [.str (nameW n)], .iptr [.i n]], fun d => renamePR d (nameW n) (nameC n))]
def wrs (s : Snp) : Stp := (88, [.iptr (cSnp s)], wrS s)
theorem pc_commits (n : Int) (h0 : -9223372036854775808 ≤ n) (h1 : n ≤ 9223372036854775807) : PC Tryz.prog 55 [.i n] (fun r => r = .list ((coms n).map cloA)) := by
  refine PC_body tOk Tryz.func55 rfl Tryz.results55 rfl (by simp [Tryz.ntmps55]) ?_
  rw [Tryz.ntmps55]
  simp only [argSlots]
  have hl := Lib.itoa_length_le n (by omega) (by omega)
  have hl2 : 8 + (Lib.itoa n).length ≤ 9223372036854775807 := by omega
  repeat first|((first|refine qa tOk rfl ?_|refine qb tOk rfl ?_|refine qc ?_|refine qd ?_|refine qe ?_);simp)|refine AWP_block ?_|refine AWP_seq ?_
  refine AStep_PC rfl rfl (by simp) (pc_Itoa n h0 h1) rfl ?_
  rintro _ rfl
  simp [hl2]
  repeat first|((first|refine qa tOk rfl ?_|refine qb tOk rfl ?_|refine qc ?_|refine qd ?_|refine qe ?_);simp [hl2])|refine AWP_block ?_|refine AWP_seq ?_
  refine AStep_freezeV (ys := [.i n]) 0 (by simp) rfl ?_
  simp
  refine AStep_freezeV (ys := [.str (nameW n)]) 1 (by simp [nameW, preW]) rfl ?_
  simp
  refine AStep_redo tOk rfl (fun h => by cases h) rfl ?_
  simp
  repeat first|((first|refine qa tOk rfl ?_|refine qb tOk rfl ?_|refine qc ?_|refine qd ?_|refine qe ?_);simp)|refine AWP_block ?_|refine AWP_seq ?_
  simp [coms, cloA]
def runR : List Stp → Disk → Disk × Int
  | [], d => (d, 0)
  | p :: l, d => if (p.2.2 d).2 ≠ 0 then (zeroD, (p.2.2 d).2) else runR l (p.2.2 d).1
def stepsR (l : List Stp) (d : Disk) : Disk × Int := if checkD d ≠ 0 then (zeroD, checkD d) else runR l d
set_option maxHeartbeats 1000000 in
theorem pc_steps (l : List Stp) (hl : l.length ≤ 1000) (hpc : ∀ p ∈ l, p.2.1.all AV.pure = true ∧ ∀ d, PC Tryz.prog p.1 (([encD d] ++ p.2.1).map AV.nrm) (fun r => r = .tup [encD (p.2.2 d).1, .i (p.2.2 d).2])) (d : Disk) :
    PC Tryz.prog 49 [encD d, .list (l.map cloA)] (fun r => r = .tup [encD (stepsR l d).1, .i (stepsR l d).2]) := by
  refine PC_body tOk Tryz.func49 rfl Tryz.results49 rfl (by simp [Tryz.ntmps49]) ?_
  rw [Tryz.ntmps49]
  simp only [argSlots]
  simp only [encD]
  obtain ⟨R, hR⟩ : ∃ R, stepsR l d = R := ⟨_, rfl⟩
  rw [hR]
  rw [stepsR] at hR
  repeat first|((first|refine qa tOk rfl ?_|refine qb tOk rfl ?_|refine qc ?_|refine qd ?_|refine qe ?_);simp)|refine AWP_block ?_|refine AWP_seq ?_
  refine AStep_PC rfl rfl (by simp) (dpc25 d) rfl ?_
  rintro _ rfl
  simp
  repeat first|((first|refine qa tOk rfl ?_|refine qb tOk rfl ?_|refine qc ?_|refine qd ?_|refine qe ?_);simp)|refine AWP_block ?_|refine AWP_seq ?_
  by_cases hc : checkD d = 0
  · rw [if_neg (fun h => h hc)] at hR
    refine AWP_cond2 rfl (fun h => by simp [hc] at h) (fun h => ?_)
    repeat first|((first|refine qa tOk rfl ?_|refine qb tOk rfl ?_|refine qc ?_|refine qd ?_|refine qe ?_);simp)|refine AWP_block ?_|refine AWP_seq ?_
    refine AWP_loop (ALoop_keep (sl' := [(1, .list (l.map cloA)), (2, .vptr 0 0), (4, .vptr 1 0), (17, .list (l.map cloA)), (18, .i l.length), (19, .i 0)]) ?_ (by simp))
    refine ALoop_wf (P := Tryz.prog) (F := fun (u : Nat × Disk) => ⟨[(1, .list (l.map cloA)), (2, .vptr 0 0), (4, .vptr 1 0), (17, .list (l.map cloA)), (18, .i l.length), (19, .i u.1)], [.vars [.list (u.2.files.map encFl), .i u.2.space], .vars [.nils, .i 0]]⟩)
      (fun u => u.1 ≤ l.length ∧ runR (l.drop u.1) u.2 = R) (fun u => l.length - u.1) ?_ (0, d) ⟨Nat.zero_le _, hR⟩
    rintro ⟨j, dj⟩ ⟨g1, g2⟩ ih
    simp only at g1 g2 ih ⊢
    repeat first|((first|refine qa tOk rfl ?_|refine qb tOk rfl ?_|refine qc ?_|refine qd ?_|refine qe ?_);simp)|refine AWP_block ?_|refine AWP_seq ?_
    refine AWP_cond2 rfl (fun h => ?_) (fun h => ?_)
    · have hlt : j < l.length := by simpa using h
      have hw1 : IntKind.i64.wrap ((j : Int) + 1) = j + 1 := wrap_i64 _ (by omega) (by omega)
      rw [List.drop_eq_getElem_cons hlt, runR] at g2
      have hp := hpc l[j] (List.getElem_mem hlt)
      repeat first|((first|refine qa tOk rfl ?_|refine qb tOk rfl ?_|refine qc ?_|refine qd ?_|refine qe ?_);simp [hlt])|refine AWP_block ?_|refine AWP_seq ?_
      generalize l[j] = p at *
      refine AStep_PC rfl rfl (by simp [hp.1]) (hp.2 dj) rfl ?_
      rintro _ rfl
      generalize p.2.2 dj = dn at *
      obtain ⟨d2, e2⟩ := dn
      simp only at g2
      simp
      repeat first|((first|refine qa tOk rfl ?_|refine qb tOk rfl ?_|refine qc ?_|refine qd ?_|refine qe ?_);simp)|refine AWP_block ?_|refine AWP_seq ?_
      by_cases he : e2 = 0
      · rw [if_neg (fun h => h he)] at g2
        refine AWP_cond2 rfl (fun h => by simp [he] at h) (fun h => ?_)
        repeat first|((first|refine qa tOk rfl ?_|refine qb tOk rfl ?_|refine qc ?_|refine qd ?_|refine qe ?_);simp [hw1])|refine AWP_block ?_|refine AWP_seq ?_
        refine ALoop_end _ (ih (j + 1, d2) ⟨hlt, g2⟩ (by simp only; omega)) rfl (by simp) ?_ (by simp) (by simp)
        simp
      · rw [if_pos he] at g2
        refine AWP_cond2 rfl (fun h => ?_) (fun h => by simp [he] at h)
        repeat first|((first|refine qa tOk rfl ?_|refine qb tOk rfl ?_|refine qc ?_|refine qd ?_|refine qe ?_);simp)|refine AWP_block ?_|refine AWP_seq ?_
        rw [← g2]
        simp [zeroD]
    · have hge : j = l.length := by simp at h; omega
      subst hge
      rw [List.drop_length, runR] at g2
      repeat first|((first|refine qa tOk rfl ?_|refine qb tOk rfl ?_|refine qc ?_|refine qd ?_|refine qe ?_);simp)|refine AWP_block ?_|refine AWP_seq ?_
      rw [← g2]
      exact ⟨⟨rfl, rfl⟩, rfl⟩
  · rw [if_pos hc] at hR
    refine AWP_cond2 rfl (fun h => ?_) (fun h => by simp [hc] at h)
    repeat first|((first|refine qa tOk rfl ?_|refine qb tOk rfl ?_|refine qc ?_|refine qd ?_|refine qe ?_);simp)|refine AWP_block ?_|refine AWP_seq ?_
    rw [← hR]
    simp [zeroD]
end Go.Abs
set_option maxRecDepth 100000
namespace Go.Abs
open Go Go.Proofs
set_option linter.unusedSimpArgs false
attribute [local irreducible] stepsR
theorem hpc_wrs (s : Snp) (hj : jSnp s) (hb : (encSnp s).length ≤ 900000000) : (wrs s).2.1.all AV.pure = true ∧ ∀ d, PC Tryz.prog (wrs s).1 (([encD d] ++ (wrs s).2.1).map AV.nrm) (fun r => r = .tup [encD ((wrs s).2.2 d).1, .i ((wrs s).2.2 d).2]) :=
  ⟨by simp [wrs], fun d => by have := pc_writes1 s hj hb d; simpa [wrs] using this⟩
theorem hpc_coms (n : Int) (h0 : -9223372036854775808 ≤ n) (h1 : n ≤ 9223372036854775807) : ∀ p ∈ coms n, p.2.1.all AV.pure = true ∧ ∀ d, PC Tryz.prog p.1 (([encD d] ++ p.2.1).map AV.nrm) (fun r => r = .tup [encD (p.2.2 d).1, .i (p.2.2 d).2]) := by
  intro p hp
  simp only [coms, List.mem_cons, List.not_mem_nil, or_false] at hp
  rcases hp with rfl | rfl | rfl
  · exact ⟨by simp, fun d => by have := pc_commits1 n d; simpa using this⟩
  · exact ⟨by simp, fun d => by have := pc_commits2 (nameW n) d; simpa using this⟩
  · exact ⟨by simp, fun d => by have := pc_commits3 (nameW n) n h0 h1 d; simpa using this⟩
def writeC (d : Disk) (s : Snp) : Disk × Int := stepsR [wrs s] d
def commitC (d : Disk) (n : Int) : Disk × Int := stepsR (coms n) d
def saveC (d : Disk) (s : Snp) : Disk × Int := stepsR (wrs s :: coms s.number) d
theorem pc_cWrite (d : Disk) (s : Snp) (hj : jSnp s) (hb : (encSnp s).length ≤ 900000000) : PC Tryz.prog 19 [encD d, avSnp s] (fun r => r = .tup [encD (writeC d s).1, .i (writeC d s).2]) := by
  refine PC_body tOk Tryz.func19 rfl Tryz.results19 rfl (by simp [Tryz.ntmps19]) ?_
  rw [Tryz.ntmps19]
  simp only [argSlots]
  simp only [encD]
  rw [writeC]
  repeat first|((first|refine qa tOk rfl ?_|refine qb tOk rfl ?_|refine qc ?_|refine qd ?_|refine qe ?_);simp)|refine AWP_block ?_|refine AWP_seq ?_
  refine AWP_drawT tOk mixed [7] (.val 0 (.val 1 (.one 2 (.one 3 (.one 4 (.val 5 (.val 6 (.one 7 (.val 8 (.done)))))))))) rfl (by kernel_rfl) ?_
  simp
  refine AStep_PC rfl rfl (by simp) (pc_writes s) rfl ?_
  rintro _ rfl
  simp
  refine AStep_freeze 3 rfl ?_
  simp
  refine AStep_PC rfl rfl (by simp) (pc_steps [wrs s] (by simp) (fun p hp => by rw [List.mem_singleton] at hp; rw [hp]; exact hpc_wrs s hj hb) d) rfl ?_
  rintro _ rfl
  simp
  repeat first|((first|refine qa tOk rfl ?_|refine qb tOk rfl ?_|refine qc ?_|refine qd ?_|refine qe ?_);simp)|refine AWP_block ?_|refine AWP_seq ?_
set_option maxHeartbeats 2000000 in
theorem pc_cSave (d : Disk) (s : Snp) (hj : jSnp s) (hb : (encSnp s).length ≤ 900000000) (hn : i64 s.number) : PC Tryz.prog 21 [encD d, avSnp s] (fun r => r = .tup [encD (saveC d s).1, .i (saveC d s).2]) := by
  refine PC_body tOk Tryz.func21 rfl Tryz.results21 rfl (by simp [Tryz.ntmps21]) ?_
  rw [Tryz.ntmps21]
  simp only [argSlots]
  simp only [encD]
  rw [saveC]
  repeat first|((first|refine qa tOk rfl ?_|refine qb tOk rfl ?_|refine qc ?_|refine qd ?_|refine qe ?_);simp)|refine AWP_block ?_|refine AWP_seq ?_
  refine AWP_drawM tOk mixed [7, 11] (.val 1 (.val 4 (.val 5 (.two 0 (.one 2 (.two 3 (.one 6 (.one 7 (.one 8 (.val 9 (.val 10 (.one 11 (.val 12 (.done)))))))) 6 (.one 3 (.one 7 (.one 8 (.val 9 (.val 10 (.one 11 (.val 12 (.done)))))))))) 2 (.three 0 (.two 3 (.one 6 (.one 7 (.one 8 (.val 9 (.val 10 (.one 11 (.val 12 (.done)))))))) 6 (.one 3 (.one 7 (.one 8 (.val 9 (.val 10 (.one 11 (.val 12 (.done))))))))) 3 (.two 0 (.one 6 (.one 7 (.one 8 (.val 9 (.val 10 (.one 11 (.val 12 (.done)))))))) 6 (.two 0 (.one 7 (.one 8 (.val 9 (.val 10 (.one 11 (.val 12 (.done))))))) 7 (.val 0 (.one 8 (.val 9 (.val 10 (.one 11 (.val 12 (.done))))))))) 6 (.two 0 (.one 3 (.one 7 (.one 8 (.val 9 (.val 10 (.one 11 (.val 12 (.done)))))))) 3 (.two 0 (.one 7 (.one 8 (.val 9 (.val 10 (.one 11 (.val 12 (.done))))))) 7 (.val 0 (.one 8 (.val 9 (.val 10 (.one 11 (.val 12 (.done)))))))))))))) rfl (by kernel_rfl) ?_
  simp
  have hcl : (coms s.number).length = 3 := rfl
  have hleaf : ∀ y ∈ (coms s.number).map cloA, y.cells.length = 1 ∧ y.cells.all AV.leaf = true := by
    intro y hy
    simp only [coms, List.map_cons, List.map_nil, List.mem_cons, List.not_mem_nil, or_false] at hy
    rcases hy with rfl | rfl | rfl <;> exact ⟨rfl, rfl⟩
  obtain ⟨L, hL⟩ : ∃ L, L = coms s.number := ⟨_, rfl⟩
  rw [← hL] at hcl hleaf
  have hpcs := pc_commits s.number hn.1 hn.2
  have hst := hpc_coms s.number hn.1 hn.2
  rw [← hL] at hpcs hst ⊢
  have hcl' : (L.map cloA).length = 3 := by simp [hcl]
  have hle1 : 1 + L.length ≤ L.length + 1 := by omega
  have htk : ∀ x : AV, List.take (1 + L.length) (x :: L.map cloA) = x :: L.map cloA := fun x => List.take_of_length_le (by simp; omega)
  have hpcl : ∀ p ∈ wrs s :: L, p.2.1.all AV.pure = true ∧ ∀ d, PC Tryz.prog p.1 (([encD d] ++ p.2.1).map AV.nrm) (fun r => r = .tup [encD (p.2.2 d).1, .i (p.2.2 d).2]) := fun p hp => by
    rcases List.mem_cons.1 hp with rfl | hp
    · exact hpc_wrs s hj hb
    · exact hst p hp
  have hfin : PC Tryz.prog 49 [encD d, .list (.fn (.func 88) [] [.iptr (cSnp s)] :: L.map cloA)] (fun r => r = .tup [encD (stepsR (wrs s :: L) d).1, .i (stepsR (wrs s :: L) d).2]) := pc_steps (wrs s :: L) (by simp [hcl]) hpcl d
  repeat' first
    | refine ⟨?_, ?_⟩
    | (refine AStep_PC rfl rfl (by simp) (pc_writes s) rfl ?_; rintro _ rfl; simp)
    | (refine AStep_PC rfl rfl (by simp) hpcs rfl ?_; rintro _ rfl; simp)
    | (refine AStep_redo tOk rfl (fun h => by cases h) rfl ?_; simp)
  all_goals (refine AStep_appendS tOk rfl rfl T110 rfl T104 rfl (by decide) (by decide) rfl rfl rfl ?_)
  all_goals simp
  all_goals refine ⟨⟨hleaf, by simp [hcl]⟩, ?_⟩
  all_goals try simp
  all_goals repeat' first
    | refine ⟨?_, ?_⟩
    | (refine AStep_PC rfl rfl (by simp) hpcs rfl ?_; rintro _ rfl; simp)
    | (refine AStep_redo tOk rfl (fun h => by cases h) rfl ?_; simp)
  all_goals refine AStep_freeze 4 rfl ?_
  all_goals simp [htk, hle1]
  all_goals refine AStep_PC rfl rfl (by simp) hfin rfl ?_
  all_goals rintro _ rfl
  all_goals simp
  all_goals (refine AWP_ret ?_; simp)
end Go.Abs
set_option maxRecDepth 100000
namespace Go.Abs
open Go Go.Proofs
set_option linter.unusedSimpArgs false
end Go.Abs
set_option maxRecDepth 100000
namespace Go.Abs
open Go Go.Proofs
set_option linter.unusedSimpArgs false
def dX (d : Dc) : AObj := .vars [.str d.s, .i d.e]
/-- What a reading function leaves. -/
def DP (H : List AObj) (q : Nat) (res : AV) (d' : Dc) (r : AV) (H' : List AObj) : Prop := r = res ∧ H'[q]? = some (dX d') ∧ Fr H H' q none none
theorem Fr.app (H G : List AObj) (q : Nat) : Fr H (H ++ G) q none none := ⟨by simp, .inl rfl, fun j hj _ _ => List.getElem?_append_left hj⟩
theorem Fr.kd {H H' : List AObj} {q j : Nat} {x : AObj} (a : Fr H H' q none none) (h : H[j]? = some x) (h1 : j ≠ q) : H'[j]? = some x := a.keep h h1 (by simp)
theorem fc_dfail (H : List AObj) (q : Nat) (d : Dc) (x : Int) (hd : H[q]? = some (dX d)) : FC Tryz.prog 114 [.vptr q 0, .i x] H (fun r H' => r = .tup [] ∧ H' = H.set q (dX (d.fail x))) := by
  refine FC_body tOk Tryz.func114 rfl Tryz.results114 rfl (by simp [Tryz.ntmps114]) ?_
  rw [Tryz.ntmps114]
  simp only [argSlots]
  rw [dX] at hd
  repeat first|((first|refine qa tOk rfl ?_|refine qb tOk rfl ?_|refine qc ?_|refine qd ?_|refine qe ?_);simp [hd])|refine AWP_block ?_|refine AWP_seq ?_
  unfold Dc.fail
  refine AWP_cond2 rfl (fun h => ?_) (fun h => ?_)
  · have h' : d.e = 0 := by simpa using h
    rw [if_pos h']
    repeat first|((first|refine qa tOk rfl ?_|refine qb tOk rfl ?_|refine qc ?_|refine qd ?_|refine qe ?_);simp [hd])|refine AWP_block ?_|refine AWP_seq ?_
    rfl
  · have h' : d.e ≠ 0 := by simpa using h
    rw [if_neg h']
    repeat first|((first|refine qa tOk rfl ?_|refine qb tOk rfl ?_|refine qc ?_|refine qd ?_|refine qe ?_);simp)|refine AWP_block ?_|refine AWP_seq ?_
    exact (set_hold' hd).symm
theorem pow7 (i : Nat) : (2 : Nat) ^ (7 * (i + 1)) = 2 ^ (7 * i) * 128 := by rw [show 7 * (i + 1) = 7 * i + 7 by omega, Nat.pow_add]
theorem pow7_le {i : Nat} (hi : i ≤ 9) : (2 : Nat) ^ (7 * i) ≤ 9223372036854775808 := by
  have : (2 : Nat) ^ (7 * i) ≤ 2 ^ 63 := Nat.pow_le_pow_right (by decide) (by omega)
  simpa using this
theorem pow7_le8 {i : Nat} (hi : i ≤ 8) : (2 : Nat) ^ (7 * i) ≤ 72057594037927936 := by
  have : (2 : Nat) ^ (7 * i) ≤ 2 ^ 56 := Nat.pow_le_pow_right (by decide) (by omega)
  simpa using this
theorem orv_prod {i c : Nat} (hi : i ≤ 9) (hc : c < 128) (h9 : i = 9 → c ≤ 1) : c * 2 ^ (7 * i) ≤ 9223372036854775808 := by
  by_cases h : i = 9
  · subst h
    have := h9 rfl
    have : c * 2 ^ (7 * 9) ≤ 1 * 2 ^ (7 * 9) := Nat.mul_le_mul_right _ this
    simpa using this
  · have h8 := pow7_le8 (i := i) (by omega)
    have : c * 2 ^ (7 * i) ≤ 127 * 72057594037927936 := Nat.mul_le_mul (by omega) h8
    omega
theorem orv (i u c : Nat) (hi : i ≤ 9) (hu : u < 2 ^ (7 * i)) (hc : c < 128) (h9 : i = 9 → c ≤ 1) :
    bits .or .u64 u (IntKind.u64.wrap ((c : Int) * 2 ^ min (7 * i) IntKind.u64.bits)) = ((u + c * 2 ^ (7 * i) : Nat) : Int) := by
  have hp := pow7_le hi
  have hm : min (7 * i) IntKind.u64.bits = 7 * i := by simp [IntKind.bits]; omega
  have hq := orv_prod hi hc h9
  have hw : IntKind.u64.wrap ((c : Int) * 2 ^ min (7 * i) IntKind.u64.bits) = ((c * 2 ^ (7 * i) : Nat) : Int) := by
    rw [hm]
    have e : (c : Int) * 2 ^ (7 * i) = ((c * 2 ^ (7 * i) : Nat) : Int) := by simp
    rw [e]
    generalize c * 2 ^ (7 * i) = y at *
    simp [IntKind.wrap, IntKind.bits, IntKind.signed]; omega
  rw [hw, bits_join_low .u64 64 (by decide) (fun n h0 h1 => by simp [IntKind.wrap, IntKind.bits, IntKind.signed]; omega) (7 * i) u _ (by omega) (by exact_mod_cast hu) (by omega) (by omega) (by
    have : ((c * 2 ^ (7 * i) : Nat) : Int) % ((2 ^ (7 * i) : Nat) : Int) = ((c * 2 ^ (7 * i) % 2 ^ (7 * i) : Nat) : Int) := by simp
    rw [Nat.mul_mod_left] at this
    simpa using this) (by omega)]
  simp
theorem bits_comm (op : BinOp) (h : op = .xor) (k : IntKind) (a b : Int) : bits op k a b = bits op k b a := by
  subst h
  simp only [bits, BitVec.xor_comm]
theorem zag_bits (u : Nat) (hu : u < 18446744073709551616) : bits .xor .i64 (IntKind.i64.wrap ((u : Int).fdiv (2 ^ min 1 IntKind.u64.bits))) (IntKind.i64.wrap (-IntKind.i64.wrap (bits .and .u64 u 1))) = zag u := by
  have e1 : (2 : Int) ^ min 1 IntKind.u64.bits = 2 := by decide
  rw [Lib.u64_and1 _ (by omega) (by omega), e1, Int.fdiv_eq_ediv_of_nonneg _ (by omega), show (u : Int) / 2 = ((u / 2 : Nat) : Int) by omega]
  rw [wrap_i64 ((u / 2 : Nat) : Int) (by omega) (by omega), wrap_i64 ((u : Int) % 2) (by omega) (by omega), wrap_i64 (-((u : Int) % 2)) (by omega) (by omega), zag]
  split
  · rename_i h
    rw [show -((u : Int) % 2) = ((0 : Nat) : Int) by omega, xor_nat .i64 63 (by decide) (fun n n0 n1 => wrap_i64 _ (by omega) (by omega)) _ _ (by omega) (by decide), Nat.xor_zero]
  · rename_i h
    rw [show -((u : Int) % 2) = -1 by omega, bits_comm .xor rfl, Lib.i64_not _ (by omega)]
set_option maxHeartbeats 2000000 in
theorem fc_dint (H : List AObj) (q : Nat) (d : Dc) (hd : H[q]? = some (dX d)) (hs : d.s.length ≤ 1000000000) : FC Tryz.prog 115 [.vptr q 0] H (DP H q (.i (pI d).1) (pI d).2) := by
  refine FC_body tOk Tryz.func115 rfl Tryz.results115 rfl (by simp [Tryz.ntmps115]) ?_
  rw [Tryz.ntmps115]
  simp only [argSlots]
  obtain ⟨R, hR⟩ : ∃ R, pI d = R := ⟨_, rfl⟩
  rw [hR]
  rw [pI] at hR
  have h0 : H[q]? = some (.vars [.str d.s, .i d.e]) := hd
  repeat first|((first|refine qa tOk rfl ?_|refine qb tOk rfl ?_|refine qc ?_|refine qd ?_|refine qe ?_);simp [h0])|refine AWP_block ?_|refine AWP_seq ?_
  refine AWP_cond2 rfl (fun h => ?_) (fun h => ?_)
  · repeat first|((first|refine qa tOk rfl ?_|refine qb tOk rfl ?_|refine qc ?_|refine qd ?_|refine qe ?_);simp)|refine AWP_block ?_|refine AWP_seq ?_
    rw [if_pos (by simpa using h)] at hR
    rw [← hR]
    exact ⟨rfl, hd, Fr.refl ..⟩
  rw [if_neg (by simpa using h)] at hR
  have he : d.e = 0 := by simpa using h
  obtain ⟨n, hn⟩ : ∃ n : Nat, n = min d.s.length 10 := ⟨_, rfl⟩
  have hmin : (if 10 < (d.s.length : Int) then 10 else (d.s.length : Int)) = n := by split <;> omega
  repeat first|((first|refine qa tOk rfl ?_|refine qb tOk rfl ?_|refine qc ?_|refine qd ?_|refine qe ?_);simp [h0, hmin])|refine AWP_block ?_|refine AWP_seq ?_
  refine AWP_loop (ALoop_keep (sl' := [(0, .vptr q 0), (2, .i 0), (3, .int .u64 0), (16, .i n), (17, .i 0)]) ?_ (by simp))
  refine ALoop_wf (F := fun (u : Nat × Nat) => ⟨[(0, .vptr q 0), (2, .i 0), (3, .int .u64 u.2), (16, .i n), (17, .i u.1)], H⟩)
    (fun u => u.1 ≤ n ∧ u.2 < 2 ^ (7 * u.1) ∧ (unvF (10 - u.1) u.1 u.2 (d.s.drop u.1)).map (fun p => (zag p.1, p.2)) = decN d.s) (fun u => n - u.1) ?_ (0, 0) ⟨Nat.zero_le _, by simp, by simp [decN]⟩
  rintro ⟨j, u⟩ ⟨g1, g2, g3⟩ ih
  simp only at g1 g2 g3 ih ⊢
  repeat first|((first|refine qa tOk rfl ?_|refine qb tOk rfl ?_|refine qc ?_|refine qd ?_|refine qe ?_);simp)|refine AWP_block ?_|refine AWP_seq ?_
  refine AWP_cond2 rfl (fun h => ?_) (fun h => ?_)
  · have hlt : j < n := by simpa using h
    have hj : j < d.s.length := by omega
    have hw1 : IntKind.i64.wrap ((j : Int) + 1) = j + 1 := wrap_i64 _ (by omega) (by omega)
    have hw7 : IntKind.i64.wrap (7 * (j : Int)) = ((7 * j : Nat) : Int) := by rw [wrap_i64 _ (by omega) (by omega)]; omega
    obtain ⟨k, hk⟩ : ∃ k, 10 - j = k + 1 := ⟨9 - j, by omega⟩
    rw [hk, List.drop_eq_getElem_cons hj] at g3
    obtain ⟨c, hc⟩ : ∃ c, d.s[j] = c := ⟨_, rfl⟩
    rw [hc, unvF] at g3
    have hcl := c.toNat_lt
    repeat first|((first|refine qa tOk rfl ?_|refine qb tOk rfl ?_|refine qc ?_|refine qd ?_|refine qe ?_);simp [h0, hj, hc])|refine AWP_block ?_|refine AWP_seq ?_
    by_cases hbad : (0 < j ∧ c.toNat = 0) ∨ (j = 9 ∧ 1 < c.toNat)
    · rw [if_pos hbad] at g3
      refine AWP_cond2 rfl (fun h => ?_) (fun h => ?_)
      · repeat first|((first|refine qa tOk rfl ?_|refine qb tOk rfl ?_|refine qc ?_|refine qd ?_|refine qe ?_);simp)|refine AWP_block ?_|refine AWP_seq ?_
        refine AStep_FC rfl rfl (fc_dfail H q d 26 hd) rfl ?_
        rintro _ _ ⟨rfl, rfl⟩
        simp
        repeat first|((first|refine qa tOk rfl ?_|refine qb tOk rfl ?_|refine qc ?_|refine qd ?_|refine qe ?_);simp)|refine AWP_block ?_|refine AWP_seq ?_
        rw [← g3] at hR
        rw [Dc.fail, if_pos he, ← hR]
        exact ⟨rfl, get_self hd _, Fr.set ..⟩
      · exfalso
        rw [Bool.eq_false_iff] at h
        apply h
        simp only [Bool.or_eq_true, Bool.and_eq_true, decide_eq_true_eq, beq_iff_eq]
        omega
    · rw [if_neg hbad] at g3
      refine AWP_cond2 rfl (fun h => ?_) (fun h => ?_)
      · exfalso
        apply hbad
        simp only [Bool.or_eq_true, Bool.and_eq_true, decide_eq_true_eq, beq_iff_eq] at h
        omega
      · obtain ⟨v, hv⟩ : ∃ v, u + c.toNat % 128 * 2 ^ (7 * j) = v := ⟨_, rfl⟩
        have h9 : j = 9 → c.toNat % 128 ≤ 1 := fun h => by omega
        have hox : bits .or .u64 (u : Int) (IntKind.u64.wrap (IntKind.u64.wrap (bits .and .u8 (c.toNat : Int) 127) * 2 ^ min (7 * (j : Int)).toNat IntKind.u64.bits)) = (v : Int) := by
          rw [u8_and127 _ (by omega) (by omega), show (7 * (j : Int)).toNat = 7 * j by omega, show (c.toNat : Int) % 128 = ((c.toNat % 128 : Nat) : Int) by omega, show IntKind.u64.wrap ((c.toNat % 128 : Nat) : Int) = ((c.toNat % 128 : Nat) : Int) by simp [IntKind.wrap, IntKind.bits, IntKind.signed]; omega, orv j u _ (by omega) g2 (by omega) h9, hv]
        have hvl : v < 2 ^ (7 * (j + 1)) := by
          rw [pow7, ← hv]
          have : c.toNat % 128 * 2 ^ (7 * j) ≤ 127 * 2 ^ (7 * j) := Nat.mul_le_mul_right _ (by omega)
          omega
        have hv64 : v < 18446744073709551616 := by
          have h1 := pow7_le (i := j) (by omega)
          have h2 := orv_prod (i := j) (c := c.toNat % 128) (by omega) (by omega) h9
          omega
        rw [hv] at g3
        repeat first|((first|refine qa tOk rfl ?_|refine qb tOk rfl ?_|refine qc ?_|refine qd ?_|refine qe ?_);simp [h0, hw7, hox])|refine AWP_block ?_|refine AWP_seq ?_
        refine AWP_cond2 rfl (fun h => ?_) (fun h => ?_)
        · rw [if_pos (by simp at h; omega)] at g3
          have j1 : (j : Int) + 1 ≤ d.s.length := by omega
          have j2 : (0 : Int) ≤ (j : Int) + 1 := by omega
          repeat first|((first|refine qa tOk rfl ?_|refine qb tOk rfl ?_|refine qc ?_|refine qd ?_|refine qe ?_);simp [h0, hw1, j1, j2])|refine AWP_block ?_|refine AWP_seq ?_
          rw [zag_bits v hv64]
          rw [← g3] at hR
          rw [← hR, he]
          exact ⟨rfl, get_self hd _, Fr.set ..⟩
        · rw [if_neg (by simp at h; omega)] at g3
          repeat first|((first|refine qa tOk rfl ?_|refine qb tOk rfl ?_|refine qc ?_|refine qd ?_|refine qe ?_);simp [hw1])|refine AWP_block ?_|refine AWP_seq ?_
          exact ALoop_keep (ih (j + 1, v) ⟨hlt, hvl, by rw [show 10 - (j + 1) = k by omega]; exact g3⟩ (by simp only; omega)) (by simp)
  · have hge : j = n := by simp at h; omega
    repeat first|((first|refine qa tOk rfl ?_|refine qb tOk rfl ?_|refine qc ?_|refine qd ?_|refine qe ?_);simp)|refine AWP_block ?_|refine AWP_seq ?_
    have hnone : unvF (10 - j) j u (d.s.drop j) = none := by
      by_cases h10 : j = 10
      · subst h10; rfl
      · obtain ⟨k, hk⟩ : ∃ k, 10 - j = k + 1 := ⟨9 - j, by omega⟩
        rw [hk, List.drop_eq_nil_of_le (by omega)]; rfl
    rw [hnone] at g3
    refine AStep_FC rfl rfl (fc_dfail H q d 26 hd) rfl ?_
    rintro _ _ ⟨rfl, rfl⟩
    simp
    repeat first|((first|refine qa tOk rfl ?_|refine qb tOk rfl ?_|refine qc ?_|refine qd ?_|refine qe ?_);simp)|refine AWP_block ?_|refine AWP_seq ?_
    rw [← g3] at hR
    rw [Dc.fail, if_pos he, ← hR]
    exact ⟨rfl, get_self hd _, Fr.set ..⟩
end Go.Abs
set_option maxRecDepth 100000
namespace Go.Abs
open Go Go.Proofs
set_option linter.unusedSimpArgs false
def Shr {α : Type} (F : Dc → α × Dc) : Prop := ∀ d, (F d).2.s.length ≤ d.s.length
theorem unvF_len : ∀ (k i u : Nat) (s : List UInt8) (v : Nat) (r : List UInt8), unvF k i u s = some (v, r) → r.length ≤ s.length
  | 0, _, _, _, _, _, h => by simp [unvF] at h
  | k + 1, i, u, [], _, _, h => by simp [unvF] at h
  | k + 1, i, u, c :: s, v, r, h => by
    rw [unvF] at h
    split at h
    · cases h
    · split at h
      · cases h; simp
      · have := unvF_len k _ _ s v r h; simp; omega
theorem shr_pI : Shr pI := fun d => by
  rw [pI]
  split
  · exact Nat.le_refl _
  · rw [decN]
    cases h : unvF 10 0 0 d.s with
    | none => exact Nat.le_refl _
    | some p => exact unvF_len _ _ _ _ p.1 p.2 h
theorem Shr.bd {α β : Type} {F : Dc → α × Dc} {G : α → Dc → β × Dc} (hF : Shr F) (hG : ∀ x, Shr (G x)) : Shr (bd F G) := fun d => Nat.le_trans (hG _ _) (hF d)
theorem Shr.rtn {α : Type} (x : α) : Shr (rtn x) := fun _ => Nat.le_refl _
theorem Shr.loop {α : Type} {F : Dc → α × Dc} (h : Shr F) : ∀ n, Shr (loopD F n)
  | 0 => fun _ => Nat.le_refl _
  | n + 1 => fun d => by
    rw [loopD]
    split
    · exact Nat.le_refl _
    · exact Nat.le_trans (Shr.loop h n _) (h d)
theorem fail_s (d : Dc) (x : Int) : (d.fail x).s = d.s := by unfold Dc.fail; split <;> rfl
theorem Shr.list {α : Type} {F : Dc → α × Dc} (h : Shr F) : Shr (pL F) := shr_pI.bd fun n d => by
  split
  · have := Shr.loop h n.toNat (d.fail 5); rwa [fail_s] at this
  · exact Shr.loop h n.toNat d
theorem loopD_bad {α : Type} (F : Dc → α × Dc) (n : Nat) {d : Dc} (h : d.e ≠ 0) : loopD F n d = ([], d) := by
  cases n with
  | zero => rfl
  | succ n => rw [loopD, if_pos h]
theorem fail_ne {d : Dc} {x : Int} (h : x ≠ 0) : (d.fail x).e ≠ 0 := by
  unfold Dc.fail
  split
  · exact h
  · assumption
theorem loopD_end {α : Type} (F : Dc → α × Dc) {n j : Nat} {d : Dc} {xs : List α} {R : List α × Dc} (h : R = (xs ++ (loopD F (n - j) d).1, (loopD F (n - j) d).2)) (hj : j = n ∨ d.e ≠ 0) : R = (xs, d) := by
  rw [h]
  rcases hj with rfl | hj
  · rw [Nat.sub_self, loopD, List.append_nil]
  · rw [loopD_bad F _ hj, List.append_nil]
theorem loopD_step {α : Type} (F : Dc → α × Dc) {n j : Nat} {d : Dc} {xs : List α} {R : List α × Dc} (h : R = (xs ++ (loopD F (n - j) d).1, (loopD F (n - j) d).2)) (hj : j < n) (he : d.e = 0) :
    R = ((xs ++ [(F d).1]) ++ (loopD F (n - (j + 1)) (F d).2).1, (loopD F (n - (j + 1)) (F d).2).2) := by
  rw [h]
  obtain ⟨k, hk⟩ : ∃ k, n - j = k + 1 := ⟨n - j - 1, by omega⟩
  rw [hk, show n - (j + 1) = k by omega, loopD, if_neg (by simp [he])]
  simp
theorem fr_kill {H G : List AObj} {q p : Nat} (f : Fr H G q none none) (hp : H.length ≤ p) : Fr H (G.set p .dead) q none none :=
  ⟨by simp; exact f.1, .inl rfl, fun j hj h1 h2 => by rw [List.getElem?_set_ne (by omega)]; exact f.2.2 j hj h1 h2⟩
theorem fr_push {H G : List AObj} {q : Nat} (f : Fr H G q none none) (A : AObj) : Fr H (G ++ [A]) q none none := f.trans (Fr.app G [A] q)
theorem fr_put {H G : List AObj} {q p : Nat} (f : Fr H G q none none) (hp : H.length ≤ p) (A B : AObj) : Fr H ((G ++ [A]).set p .dead ++ [B]) q none none := fr_push (fr_kill (fr_push f A) hp) B
theorem get_new (G : List AObj) (p : Nat) (A B : AObj) : ((G ++ [A]).set p .dead ++ [B])[G.length + 1]? = some B := by
  have := List.getElem?_concat_length (l := (G ++ [A]).set p .dead) (a := B)
  simpa using this
end Go.Abs
