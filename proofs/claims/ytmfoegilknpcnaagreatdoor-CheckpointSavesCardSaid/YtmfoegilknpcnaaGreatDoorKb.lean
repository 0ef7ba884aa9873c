/- Part Kb of the proof: an abstract machine over the model, and what the functions of the program hand back in its terms. No condition. -/
import Derived.Test.YtmfoegilknpcnaaGreatDoorKa
import Derived.Lib.SliceRun
import Derived.Laws.CopyRow
import Derived.Lib.AppendZeros
import Derived.Lib.Overlaps
import Derived.ProofKit
import Derived.OpenShut
import Derived.Carry
import Derived.Deep.DeepHandedRow
import Derived.Lib.ConvBytes
import Derived.Laws.BytesString
import Derived.Laws.IdiomStrings
import Derived.Lib.BufferRead
import Derived.Lib.AppendStr
import Derived.Lib.Builder
import Derived.Lib.UnsafeStr
import Derived.Laws.Externs
import Derived.RangeFuncOwn
import Derived.RangeFuncNested
set_option linter.all false
namespace Go.Abs
open Go Go.RowKit
section
variable {P : Program} [Env P] {T : TT} {nt k : Nat} {S : AS} {Q : Exit → AS → Prop}

/-- A region's operations in the order of the text. -/
def ASeqS (P : Program) [Env P] (T : TT) (nt k : Nat) (ops : Array Oper) (Q : AS → Prop) : List Oper → AS → Prop
  | [], S => Q S
  | o :: l, S => if isAuto o.op then (match stepA T ops S o with
      | some S' => ASeqS P T nt k ops Q l S'
      | none => AStep P nt k true ops o S (ASeqS P T nt k ops Q l))
    else AStep P nt k true ops o S (ASeqS P T nt k ops Q l)

theorem ASeqS_list (hT : TOk P T) {ops : Array Oper} {R : AS → Prop} {C : Cx P} : ∀ (l : List Oper) (S : AS) (a : Act) (w : World), dstsOk nt l = true → ASeqS P T nt k ops R l S → St C nt k S a w → wpListA P ops (PstN C nt k R) l a w
  | [], S, a, w, _, h, hs => wpListA_nil ⟨S, h, hs⟩
  | o :: l, S, a, w, hd, h, hs => by
    simp only [dstsOk, List.all_cons, Bool.and_eq_true] at hd
    unfold ASeqS at h
    have key : AStep P nt k true ops o S (ASeqS P T nt k ops R l) := by
      split at h
      · split at h
        · rename_i S' hS'
          exact AStep_auto hT hS' hd.1 (fun _ => rfl) (by assumption) h
        · exact h
      · exact h
    have := key C a w (wpListA P ops (PstN C nt k R) l) (PstN C nt k R) hs (fun S' a' w' hR hs' _ => ASeqS_list hT l S' a' w' hd.2 hR hs')
    unfold wpListA
    exact this

theorem AWP_regS (hT : TOk P T) {id : Nat} {l : List Oper} (hd : dstsOk nt l = true) (h : ASeqS P T nt k l.toArray (Q .normal) l S) : AWP P nt k (.region id l.toArray false) Q S := fun C a w hs =>
  Pst_of_N (wpQ_region_lit (ASeqS_list hT l S a w hd h hs))

/-- A loop, by a family of states and a measure. -/
theorem ALoop_wf {α : Type} {c : Code} (F : α → AS) (Inv : α → Prop) (mu : α → Nat)
    (h : ∀ x, Inv x → (∀ y, Inv y → mu y < mu x → ALoop P nt k c Q (F y)) → AWP P nt k c (thenQ (ALoop P nt k c Q) Q) (F x)) : ∀ x, Inv x → ALoop P nt k c Q (F x) := by
  have key : ∀ n x, mu x = n → Inv x → ALoop P nt k c Q (F x) := by
    intro n
    induction n using Nat.strongRecOn with
    | _ n ih => exact fun x hx hI => ALoop_round (h x hI fun y hy hlt => ih (mu y) (by omega) y rfl hy)
  exact fun x hI => key _ x rfl hI

/-- A loop that counts up to n. -/
theorem AWP_count {c : Code} (n : Nat) (sl : Nat → List (Nat × AV)) (H : Nat → List AObj) {sl0 : List (Nat × AV)} {H0 G : List AObj} (hH : H0 = H 0 ++ G) (hk : k ≤ (H 0).length) (h0 : keepOk sl0 (sl 0))
    (hu : (sl 0).all (fun p => p.2.under (H 0).length) = true) (hu' : (H 0).all (objBelow (H 0).length) = true)
    (h : ∀ j, j ≤ n → (j < n → ALoop P nt k c Q ⟨sl (j + 1), H (j + 1)⟩) → AWP P nt k c (thenQ (ALoop P nt k c Q) Q) ⟨sl j, H j⟩) : AWP P nt k (.loop c) Q ⟨sl0, H0⟩ := by
  subst hH
  refine AWP_loop (ALoop_keep (sl' := sl 0) (ALoop_drop G ?_ hk hu hu') h0)
  exact ALoop_wf (F := fun j => ⟨sl j, H j⟩) (fun j => j ≤ n) (fun j => n - j) (fun j hj ih => h j hj fun hlt => ih (j + 1) (by omega) (by omega)) 0 (Nat.zero_le _)

theorem ALoop_end {c : Code} {sl sl' : List (Nat × AV)} {H H' : List AObj} (G : List AObj) (h : ALoop P nt k c Q ⟨sl', H'⟩) (hH : H = H' ++ G) (hk : k ≤ H'.length) (h0 : keepOk sl sl')
    (hu : sl'.all (fun p => p.2.under H'.length) = true) (hu' : H'.all (objBelow H'.length) = true) : ALoop P nt k c Q ⟨sl, H⟩ := by
  subst hH
  exact ALoop_keep (sl' := sl') (ALoop_drop G h hk hu hu') h0

theorem thenQ_normal {N : AS → Prop} (h : N S) : thenQ N Q .normal S := h
theorem blockQ_normal {id : Nat} (h : Q .normal S) : blockQ id Q .normal S := h
end

theorem deref_bool (g : Bool) (b : Bool) : deref g (.bool b) = some (.bool b) := rfl
theorem snap0_bool (H : List AObj) (b : Bool) : snap0 H (.bool b) = some (.bool b) := by simp [snap0, AV.pure]
theorem snap1_bool (H : List AObj) (b : Bool) : snap1 H (.bool b) = some (.bool b) := by simp [snap1, snap0, AV.pure]
theorem snapB_bool (H : List AObj) (b : Bool) : snapB H (.bool b) = some (.bool b) := by simp [snapB, snap1, snap0, AV.pure]
theorem snapA_bool (H : List AObj) (b : Bool) : snapA H (.bool b) = some (.bool b) := by simp [snapA, snapB, snap1, snap0, AV.pure]
theorem nrm1_bool (b : Bool) : AV.nrm1 (.bool b) = (.bool b) := rfl
theorem nrm_bool (b : Bool) : AV.nrm (.bool b) = (.bool b) := rfl
theorem deref_int (g : Bool) (k : IntKind) (n : Int) : deref g (.int k n) = some (.int k n) := rfl
theorem snap0_int (H : List AObj) (k : IntKind) (n : Int) : snap0 H (.int k n) = some (.int k n) := by simp [snap0, AV.pure]
theorem snap1_int (H : List AObj) (k : IntKind) (n : Int) : snap1 H (.int k n) = some (.int k n) := by simp [snap1, snap0, AV.pure]
theorem snapB_int (H : List AObj) (k : IntKind) (n : Int) : snapB H (.int k n) = some (.int k n) := by simp [snapB, snap1, snap0, AV.pure]
theorem snapA_int (H : List AObj) (k : IntKind) (n : Int) : snapA H (.int k n) = some (.int k n) := by simp [snapA, snapB, snap1, snap0, AV.pure]
theorem nrm1_int (k : IntKind) (n : Int) : AV.nrm1 (.int k n) = (.int k n) := rfl
theorem nrm_int (k : IntKind) (n : Int) : AV.nrm (.int k n) = (.int k n) := rfl
theorem deref_str (g : Bool) (s : List UInt8) : deref g (.str s) = some (.str s) := rfl
theorem snap0_str (H : List AObj) (s : List UInt8) : snap0 H (.str s) = some (.str s) := by simp [snap0, AV.pure]
theorem snap1_str (H : List AObj) (s : List UInt8) : snap1 H (.str s) = some (.str s) := by simp [snap1, snap0, AV.pure]
theorem snapB_str (H : List AObj) (s : List UInt8) : snapB H (.str s) = some (.str s) := by simp [snapB, snap1, snap0, AV.pure]
theorem snapA_str (H : List AObj) (s : List UInt8) : snapA H (.str s) = some (.str s) := by simp [snapA, snapB, snap1, snap0, AV.pure]
theorem nrm1_str (s : List UInt8) : AV.nrm1 (.str s) = (.str s) := rfl
theorem nrm_str (s : List UInt8) : AV.nrm (.str s) = (.str s) := rfl
theorem deref_list (g : Bool) (s : List AV) : deref g (.list s) = some (.list s) := rfl
theorem snap0_list (H : List AObj) (s : List AV) : snap0 H (.list s) = some (.list s) := by simp [snap0, AV.pure]
theorem snap1_list (H : List AObj) (s : List AV) : snap1 H (.list s) = some (.list s) := by simp [snap1, snap0, AV.pure]
theorem snapB_list (H : List AObj) (s : List AV) : snapB H (.list s) = some (.list s) := by simp [snapB, snap1, snap0, AV.pure]
theorem snapA_list (H : List AObj) (s : List AV) : snapA H (.list s) = some (.list s) := by simp [snapA, snapB, snap1, snap0, AV.pure]
theorem nrm1_lst (s : List AV) : AV.nrm1 (.list s) = (.list s) := rfl
theorem nrm_list (s : List AV) : AV.nrm (.list s) = (.list s) := rfl
theorem deref_nils (g : Bool)  : deref g .nils = some .nils := rfl
theorem deref_nilp (g : Bool)  : deref g .nilp = some .nilp := rfl
theorem snap0_nilp (H : List AObj)  : snap0 H .nilp = some .nilp := by simp [snap0, AV.pure]
theorem snap1_nilp (H : List AObj)  : snap1 H .nilp = some .nilp := by simp [snap1, snap0, AV.pure]
theorem snapB_nilp (H : List AObj)  : snapB H .nilp = some .nilp := by simp [snapB, snap1, snap0, AV.pure]
theorem snapA_nilp (H : List AObj)  : snapA H .nilp = some .nilp := by simp [snapA, snapB, snap1, snap0, AV.pure]
theorem nrm1_nilp  : AV.nrm1 .nilp = .nilp := rfl
theorem nrm_nilp  : AV.nrm .nilp = .nilp := rfl
theorem deref_nilf (g : Bool)  : deref g .nilf = some .nilf := rfl
theorem deref_nili (g : Bool)  : deref g .nili = some .nili := rfl
theorem deref_ifc (g : Bool)  : deref g .ifc = some .ifc := rfl
theorem snap0_nilf (H : List AObj)  : snap0 H .nilf = some .nilf := by simp [snap0, AV.pure]
theorem snap0_nili (H : List AObj)  : snap0 H .nili = some .nili := by simp [snap0, AV.pure]
theorem snap0_ifc (H : List AObj)  : snap0 H .ifc = some .ifc := by simp [snap0, AV.pure]
theorem snap1_nilf (H : List AObj)  : snap1 H .nilf = some .nilf := by simp [snap1, snap0, AV.pure]
theorem snap1_nili (H : List AObj)  : snap1 H .nili = some .nili := by simp [snap1, snap0, AV.pure]
theorem snap1_ifc (H : List AObj)  : snap1 H .ifc = some .ifc := by simp [snap1, snap0, AV.pure]
theorem snapB_nilf (H : List AObj)  : snapB H .nilf = some .nilf := by simp [snapB, snap1, snap0, AV.pure]
theorem snapB_nili (H : List AObj)  : snapB H .nili = some .nili := by simp [snapB, snap1, snap0, AV.pure]
theorem snapB_ifc (H : List AObj)  : snapB H .ifc = some .ifc := by simp [snapB, snap1, snap0, AV.pure]
theorem snapA_nilf (H : List AObj)  : snapA H .nilf = some .nilf := by simp [snapA, snapB, snap1, snap0, AV.pure]
theorem snapA_nili (H : List AObj)  : snapA H .nili = some .nili := by simp [snapA, snapB, snap1, snap0, AV.pure]
theorem snapA_ifc (H : List AObj)  : snapA H .ifc = some .ifc := by simp [snapA, snapB, snap1, snap0, AV.pure]
theorem nrm1_nilf  : AV.nrm1 .nilf = .nilf := rfl
theorem nrm1_nili  : AV.nrm1 .nili = .nili := rfl
theorem nrm1_ifc  : AV.nrm1 .ifc = .ifc := rfl
theorem nrm_nilf  : AV.nrm .nilf = .nilf := rfl
theorem nrm_nili  : AV.nrm .nili = .nili := rfl
theorem nrm_ifc  : AV.nrm .ifc = .ifc := rfl
theorem deref_iptr (g : Bool) (s : List AV) : deref g (.iptr s) = some (.iptr s) := rfl
theorem snap0_iptr (H : List AObj) (s : List AV) : snap0 H (.iptr s) = some (.iptr s) := by simp [snap0, AV.pure]
theorem snap1_iptr (H : List AObj) (s : List AV) : snap1 H (.iptr s) = some (.iptr s) := by simp [snap1, snap0, AV.pure]
theorem snapB_iptr (H : List AObj) (s : List AV) : snapB H (.iptr s) = some (.iptr s) := by simp [snapB, snap1, snap0, AV.pure]
theorem snapA_iptr (H : List AObj) (s : List AV) : snapA H (.iptr s) = some (.iptr s) := by simp [snapA, snapB, snap1, snap0, AV.pure]
theorem nrm1_iptr (s : List AV) : AV.nrm1 (.iptr s) = (.iptr s) := rfl
theorem nrm_iptr (s : List AV) : AV.nrm (.iptr s) = (.iptr s) := rfl
theorem deref_top (g : Bool)  : deref g .top = some .top := rfl
theorem snap0_top (H : List AObj)  : snap0 H .top = some .top := by simp [snap0, AV.pure]
theorem snap1_top (H : List AObj)  : snap1 H .top = some .top := by simp [snap1, snap0, AV.pure]
theorem snapB_top (H : List AObj)  : snapB H .top = some .top := by simp [snapB, snap1, snap0, AV.pure]
theorem snapA_top (H : List AObj)  : snapA H .top = some .top := by simp [snapA, snapB, snap1, snap0, AV.pure]
theorem nrm1_top  : AV.nrm1 .top = .top := rfl
theorem nrm_top  : AV.nrm .top = .top := rfl
theorem deref_agg (g : Bool) (s : List AV) : deref g (.agg s) = some (.agg s) := rfl
theorem deref_tup (g : Bool) (s : List AV) : deref g (.tup s) = some (.tup s) := rfl
theorem deref_fn (g : Bool) (f : Fn) (s t : List AV) : deref g (.fn f s t) = some (.fn f s t) := rfl
theorem deref_mref (g : Bool) (a : Nat) : deref g (.mref a) = some (.mref a) := rfl
theorem pure_mref (a : Nat) : AV.pure (.mref a) = false := by simp [AV.pure]
theorem under_mref (m a : Nat) : AV.under m (.mref a) = decide (a < m) := by simp [AV.under]
theorem deref_yld (g : Bool) (a : Nat) : deref g (.yld a) = some (.yld a) := rfl
theorem pure_yld (a : Nat) : AV.pure (.yld a) = false := by simp [AV.pure]
theorem under_yld (m a : Nat) : AV.under m (.yld a) = decide (a < m) := by simp [AV.under]
theorem deref_vptr (g : Bool) (a b : Nat) : deref g (.vptr a b) = some (.vptr a b) := rfl
theorem deref_ept (g : Bool) (a b c d : Nat) : deref g (.ept a b c d) = some (.ept a b c d) := rfl
theorem deref_sl (g : Bool) (a b c d : Nat) : deref g (.sl a b c d) = some (.sl a b c d) := rfl
theorem deref_opt (g p : Bool) (x : AV) : deref g (.opt p x) = if (!g || p) = true then some x else none := rfl
theorem snap0_nils (H : List AObj) : snap0 H .nils = some (.list []) := rfl
theorem snap1_nils (H : List AObj) : snap1 H .nils = some (.list []) := rfl
theorem snapB_nils (H : List AObj) : snapB H .nils = some (.list []) := rfl
theorem snapA_nils (H : List AObj) : snapA H .nils = some (.list []) := rfl
theorem nrm1_nils : AV.nrm1 .nils = .list [] := rfl
theorem nrm_nils : AV.nrm .nils = .list [] := rfl
theorem nrm1_agg (s : List AV) : AV.nrm1 (.agg s) = .agg s := rfl
theorem nrm1_fn (f : Fn) (s t : List AV) : AV.nrm1 (.fn f s t) = .fn f s t := rfl
theorem nrm_agg (s : List AV) : AV.nrm (.agg s) = .agg (s.map AV.nrm1) := rfl
theorem nrm_fn (f : Fn) (s t : List AV) : AV.nrm (.fn f s t) = .fn f (s.map AV.nrm1) (t.map AV.nrm1) := rfl
theorem snap0_agg (H : List AObj) (s : List AV) : snap0 H (.agg s) = if s.all AV.pure = true then some (.agg s) else none := by rw [snap0]; simp [AV.pure]; all_goals simp
theorem snap1_agg (H : List AObj) (s : List AV) : snap1 H (.agg s) = snap0 H (.agg s) := rfl
theorem snapB_agg (H : List AObj) (s : List AV) : snapB H (.agg s) = (allSome (s.map (snap1 H))).map .agg := rfl
theorem snapA_agg (H : List AObj) (s : List AV) : snapA H (.agg s) = (allSome (s.map (snap1 H))).map .agg := rfl
theorem snapA_tup (H : List AObj) (s : List AV) : snapA H (.tup s) = (allSome (s.map (snapB H))).map .tup := rfl
theorem snap0_sl (H : List AObj) (id c lo len : Nat) : snap0 H (.sl id c lo len) = match H[id]? with
    | some (.arr _ c' xs) => if c = c' ∧ lo + len ≤ xs.length then some (.list ((xs.drop lo).take len)) else none
    | _ => none := rfl
theorem snap1_sl (H : List AObj) (id c lo len : Nat) : snap1 H (.sl id c lo len) = snap0 H (.sl id c lo len) := rfl
theorem snapB_sl (H : List AObj) (id c lo len : Nat) : snapB H (.sl id c lo len) = snap0 H (.sl id c lo len) := rfl
theorem snapA_sl (H : List AObj) (id c lo len : Nat) : snapA H (.sl id c lo len) = snap0 H (.sl id c lo len) := rfl
theorem snap1_vptr (H : List AObj) (id off : Nat) : snap1 H (.vptr id off) = match H[id]? with
    | some (.vars cs) => (allSome (cs.map (snap0 H))).map fun ys => .iptr (ys.drop off)
    | _ => none := rfl
theorem snapB_vptr (H : List AObj) (id off : Nat) : snapB H (.vptr id off) = snap1 H (.vptr id off) := rfl
theorem snapA_vptr (H : List AObj) (id off : Nat) : snapA H (.vptr id off) = snap1 H (.vptr id off) := rfl
theorem snapB_fn (H : List AObj) (f : Fn) (xs ys : List AV) : snapB H (.fn f xs ys) = match allSome (xs.map (snap1 H)), allSome (ys.map (snap1 H)) with
    | some xs, some ys => some (.fn f xs ys)
    | _, _ => none := rfl
theorem snapA_fn (H : List AObj) (f : Fn) (xs ys : List AV) : snapA H (.fn f xs ys) = snapB H (.fn f xs ys) := rfl

theorem pure_agg (cs : List AV) : AV.pure (.agg cs) = cs.all AV.pure := by rw [AV.pure]; simp
theorem pure_tup (cs : List AV) : AV.pure (.tup cs) = cs.all AV.pure := by rw [AV.pure]; simp
theorem pure_fn (f : Fn) (xs ys : List AV) : AV.pure (.fn f xs ys) = (xs.all AV.pure && ys.all AV.pure) := by rw [AV.pure]; simp
theorem pure_bool (b : Bool) : AV.pure (.bool b) = true := by simp [AV.pure]
theorem pure_int (k : IntKind) (n : Int) : AV.pure (.int k n) = true := by simp [AV.pure]
theorem pure_str (s : List UInt8) : AV.pure (.str s) = true := by simp [AV.pure]
theorem pure_list (s : List AV) : AV.pure (.list s) = true := by simp [AV.pure]
theorem pure_nils : AV.pure .nils = true := by simp [AV.pure]
theorem pure_nilp : AV.pure .nilp = true := by simp [AV.pure]
theorem pure_nilf : AV.pure .nilf = true := by simp [AV.pure]
theorem pure_nili : AV.pure .nili = true := by simp [AV.pure]
theorem pure_ifc : AV.pure .ifc = true := by simp [AV.pure]
theorem pure_top : AV.pure .top = true := by simp [AV.pure]
theorem pure_iptr (s : List AV) : AV.pure (.iptr s) = true := by simp [AV.pure]
theorem pure_vptr (a b : Nat) : AV.pure (.vptr a b) = false := by simp [AV.pure]
theorem pure_ept (a b c d : Nat) : AV.pure (.ept a b c d) = false := by simp [AV.pure]
theorem pure_sl (a b c d : Nat) : AV.pure (.sl a b c d) = false := by simp [AV.pure]
theorem flat_agg (cs : List AV) : AV.flat (.agg cs) = cs.all AV.flat := by rw [AV.flat]; simp
theorem flat_tup (cs : List AV) : AV.flat (.tup cs) = cs.all AV.flat := by rw [AV.flat]; simp
theorem flat_bool (b : Bool) : AV.flat (.bool b) = true := by simp [AV.flat]
theorem flat_int (k : IntKind) (n : Int) : AV.flat (.int k n) = true := by simp [AV.flat]
theorem flat_str (s : List UInt8) : AV.flat (.str s) = true := by simp [AV.flat]
theorem under_agg (n : Nat) (cs : List AV) : AV.under n (.agg cs) = cs.all (AV.under n) := by rw [AV.under]; simp
theorem under_tup (n : Nat) (cs : List AV) : AV.under n (.tup cs) = cs.all (AV.under n) := by rw [AV.under]; simp
theorem under_fn (n : Nat) (f : Fn) (xs ys : List AV) : AV.under n (.fn f xs ys) = (xs.all (AV.under n) && ys.all (AV.under n)) := by rw [AV.under]; simp
theorem under_bool (m : Nat) (b : Bool) : AV.under m (.bool b) = true := by simp [AV.under]
theorem under_int (m : Nat) (k : IntKind) (n : Int) : AV.under m (.int k n) = true := by simp [AV.under]
theorem under_str (m : Nat) (s : List UInt8) : AV.under m (.str s) = true := by simp [AV.under]
theorem under_list (m : Nat) (s : List AV) : AV.under m (.list s) = true := by simp [AV.under]
theorem under_iptr (m : Nat) (s : List AV) : AV.under m (.iptr s) = true := by simp [AV.under]
theorem under_nils (m : Nat) : AV.under m .nils = true := by simp [AV.under]
theorem under_nilp (m : Nat) : AV.under m .nilp = true := by simp [AV.under]
theorem under_nilf (m : Nat) : AV.under m .nilf = true := by simp [AV.under]
theorem under_nili (m : Nat) : AV.under m .nili = true := by simp [AV.under]
theorem under_ifc (m : Nat) : AV.under m .ifc = true := by simp [AV.under]
theorem under_top (m : Nat) : AV.under m .top = true := by simp [AV.under]
theorem under_opt (m : Nat) (p : Bool) (x : AV) : AV.under m (.opt p x) = x.under m := by simp [AV.under]
theorem under_vptr (m a b : Nat) : AV.under m (.vptr a b) = decide (a < m) := by simp [AV.under]
theorem under_ept (m a b c d : Nat) : AV.under m (.ept a b c d) = decide (a < m) := by simp [AV.under]
theorem under_sl (m a b c d : Nat) : AV.under m (.sl a b c d) = decide (a < m) := by simp [AV.under]

attribute [simp] deref_mref pure_mref under_mref deref_yld pure_yld under_yld look put AS.putD ofConst rho rhoG TI.agg outOf cellsAt loadA fieldAddrA indexAddrA indexA fieldA intA strA binA nilEqA unA convA setCells AV.cells AV.leaf AV.isTop fillA fieldPlaces bnd sliceA lenA extractA pickA allSome minmaxA nilCheckA builtinA
  valA_move valA_assign valA_pick valA_load valA_nilCheck valA_binOp valA_unOp valA_convert valA_build valA_makeFunc valA_slice valA_fieldAddr valA_field valA_indexAddr valA_index valA_extract valA_call newA AV.withCells storeA wantedA stepA buildA
  isVal isAuto isStore ASeqS thenQ blockQ keepOk objBelow TI.zeros zeroCell argSlots Value.cells EndQ resA res1 deref_bool snap0_bool snap1_bool snapB_bool snapA_bool nrm1_bool nrm_bool deref_int snap0_int snap1_int snapB_int snapA_int nrm1_int nrm_int deref_str snap0_str snap1_str snapB_str snapA_str nrm1_str nrm_str deref_list snap0_list snap1_list snapB_list snapA_list nrm1_lst nrm_list deref_nils deref_nilp snap0_nilp snap1_nilp snapB_nilp snapA_nilp nrm1_nilp nrm_nilp deref_nilf deref_nili deref_ifc snap0_nilf snap0_nili snap0_ifc snap1_nilf snap1_nili snap1_ifc snapB_nilf snapB_nili snapB_ifc snapA_nilf snapA_nili snapA_ifc nrm1_nilf nrm1_nili nrm1_ifc nrm_nilf nrm_nili nrm_ifc deref_iptr snap0_iptr snap1_iptr snapB_iptr snapA_iptr nrm1_iptr nrm_iptr deref_top snap0_top snap1_top snapB_top snapA_top nrm1_top nrm_top deref_agg deref_tup deref_fn deref_vptr deref_ept deref_sl deref_opt snap0_nils snap1_nils snapB_nils snapA_nils nrm1_nils nrm_nils nrm1_agg nrm1_fn nrm_agg nrm_fn snap0_agg snap1_agg snapB_agg snapA_agg snapA_tup snap0_sl snap1_sl snapB_sl snapA_sl snap1_vptr snapB_vptr snapA_vptr snapB_fn snapA_fn ASeq pure_agg pure_tup pure_fn pure_bool pure_int pure_str pure_list pure_nils pure_nilp pure_nilf pure_nili pure_ifc pure_top pure_iptr pure_vptr pure_ept pure_sl flat_agg flat_tup flat_bool flat_int flat_str under_agg under_tup under_fn under_bool under_int under_str under_list under_iptr under_nils under_nilp under_nilf under_nili under_ifc under_top under_opt under_vptr under_ept under_sl contA appBase callArgs

end Go.Abs
set_option maxRecDepth 100000
namespace Go.Abs
open Go Go.RowKit
section
variable {P : Program} [Env P] {T : TT} {nt k : Nat} {Q : Exit → AS → Prop} {S : AS}
theorem qa {y : Code} (hT : TOk P T) {id : Nat} {l : List Oper} (hd : dstsOk nt l = true) (h : ASeqS P T nt k l.toArray (thenQ (AWP P nt k y Q) Q .normal) l S) : AWP P nt k (.seq (.region id l.toArray false) y) Q S := AWP_seq (AWP_regS hT hd h)
theorem qb (hT : TOk P T) {id : Nat} {l : List Oper} (hd : dstsOk nt l = true) (h : ASeqS P T nt k l.toArray (Q .normal) l S) : AWP P nt k (.region id l.toArray false) Q S := AWP_regS hT hd h
theorem qc (h : Q .normal S) : AWP P nt k .skip Q S := AWP_skip h
theorem qd {id : Nat} (h : Q (.exit id) S) : AWP P nt k (.exit id) Q S := AWP_exit h
theorem qe (h : Q .ret S) : AWP P nt k .ret Q S := AWP_ret h
end
end Go.Abs
namespace Go.Abs
open Go Go.RowKit
section
variable {P : Program} [Env P] {T : TT} {nt k : Nat} {S : AS} {Q : Exit → AS → Prop}

/-- A list that a slot holds has a slice's length. -/
theorem AWP_len {c : Code} (t : Nat) {xs : List AV} (h : look S.sl t = some (.list xs)) (hk : xs.length ≤ 9223372036854775807 → AWP P nt k c Q S) : AWP P nt k c Q S := fun C a w hs => by
  obtain ⟨I, m, hw, hsl, hk', hf⟩ := hs
  obtain ⟨v, _, hv⟩ := hsl.2.2 t _ h
  obtain ⟨_, cap, _, _, _, h1, h2, _⟩ := hv.list_inv.list_inv
  exact hk (by unfold maxLen at h2; omega) C a w ⟨I, m, hw, hsl, hk', hf⟩

theorem AWP_lenAgg {c : Code} (t i : Nat) {cs xs : List AV} (h : look S.sl t = some (.agg cs)) (hi : cs[i]? = some (.list xs)) (hk : xs.length ≤ 9223372036854775807 → AWP P nt k c Q S) : AWP P nt k c Q S := fun C a w hs => by
  obtain ⟨I, m, hw, hsl, hk', hf⟩ := hs
  obtain ⟨v, _, hv⟩ := hsl.2.2 t _ h
  obtain ⟨vs, rfl, hl, hall⟩ := hv.agg_inv
  have hlt : i < vs.size := by rw [hl]; exact (List.getElem?_eq_some_iff.1 hi).1
  have hv' := hall i vs[i] _ (by simp [hlt]) hi
  obtain ⟨_, cap, _, _, _, h1, h2, _⟩ := hv'.list_inv.list_inv
  exact hk (by unfold maxLen at h2; omega) C a w ⟨I, m, hw, hsl, hk', hf⟩

/-- A loop that counts up to n, with what holds at each round's begin. -/
theorem AWP_countI {c : Code} (n : Nat) (Inv : Nat → Prop) (sl : Nat → List (Nat × AV)) (H : Nat → List AObj) {sl0 : List (Nat × AV)} {H0 G : List AObj} (hH : H0 = H 0 ++ G) (hk : k ≤ (H 0).length) (h0 : keepOk sl0 (sl 0))
    (hu : (sl 0).all (fun p => p.2.under (H 0).length) = true) (hu' : (H 0).all (objBelow (H 0).length) = true) (hI : Inv 0)
    (h : ∀ j, j ≤ n → Inv j → (j < n → Inv (j + 1) → ALoop P nt k c Q ⟨sl (j + 1), H (j + 1)⟩) → AWP P nt k c (thenQ (ALoop P nt k c Q) Q) ⟨sl j, H j⟩) : AWP P nt k (.loop c) Q ⟨sl0, H0⟩ := by
  subst hH
  refine AWP_loop (ALoop_keep (sl' := sl 0) (ALoop_drop G ?_ hk hu hu') h0)
  exact ALoop_wf (F := fun j => ⟨sl j, H j⟩) (fun j => j ≤ n ∧ Inv j) (fun j => n - j) (fun j hj ih => h j hj.1 hj.2 fun hlt hi => ih (j + 1) ⟨by omega, hi⟩ (by omega)) 0 ⟨Nat.zero_le _, hI⟩
end
theorem deref_self (g : Bool) (x : AV) : deref g (.opt g x) = some x := by rw [deref_opt]; cases g <;> rfl
theorem deref_andl (g p : Bool) (x : AV) : deref (g && p) (.opt g x) = some x := by rw [deref_opt]; cases g <;> cases p <;> rfl
theorem deref_andr (g p : Bool) (x : AV) : deref (p && g) (.opt g x) = some x := by rw [deref_opt]; cases g <;> cases p <;> rfl
theorem deref_andl2 (g p q : Bool) (x : AV) : deref ((g && p) && q) (.opt g x) = some x := by rw [deref_opt]; cases g <;> cases p <;> cases q <;> rfl
attribute [simp high] deref_self deref_andl deref_andr deref_andl2
end Go.Abs
namespace Go.Abs
open Go Go.RowKit

/-- A value with its objects' numbers changed. -/
def AV.ren (s : Nat → Nat) : AV → AV
  | .agg cs => .agg (cs.attach.map fun ⟨x, _⟩ => x.ren s)
  | .tup cs => .tup (cs.attach.map fun ⟨x, _⟩ => x.ren s)
  | .fn f xs ys => .fn f (xs.attach.map fun ⟨x, _⟩ => x.ren s) (ys.attach.map fun ⟨x, _⟩ => x.ren s)
  | .vptr id off => .vptr (s id) off
  | .yld id => .yld (s id)
  | .mref id => .mref (s id)
  | .ept id c i off => .ept (s id) c i off
  | .sl id c lo len => .sl (s id) c lo len
  | .opt p x => .opt p (x.ren s)
  | x => x

section
variable (s : Nat → Nat)
theorem ren_agg (cs : List AV) : (AV.agg cs).ren s = .agg (cs.map (AV.ren s)) := by rw [AV.ren]; simp
theorem ren_tup (cs : List AV) : (AV.tup cs).ren s = .tup (cs.map (AV.ren s)) := by rw [AV.ren]; simp
theorem ren_fn (f : Fn) (xs ys : List AV) : (AV.fn f xs ys).ren s = .fn f (xs.map (AV.ren s)) (ys.map (AV.ren s)) := by rw [AV.ren]; simp
theorem ren_bool (b : Bool) : (AV.bool b).ren s = .bool b := by simp [AV.ren]
theorem ren_int (k : IntKind) (n : Int) : (AV.int k n).ren s = .int k n := by simp [AV.ren]
theorem ren_str (x : List UInt8) : (AV.str x).ren s = .str x := by simp [AV.ren]
theorem ren_list (x : List AV) : (AV.list x).ren s = .list x := by simp [AV.ren]
theorem ren_iptr (x : List AV) : (AV.iptr x).ren s = .iptr x := by simp [AV.ren]
theorem ren_nils : (AV.nils).ren s = .nils := by simp [AV.ren]
theorem ren_nilp : (AV.nilp).ren s = .nilp := by simp [AV.ren]
theorem ren_nilf : (AV.nilf).ren s = .nilf := by simp [AV.ren]
theorem ren_nili : (AV.nili).ren s = .nili := by simp [AV.ren]
theorem ren_ifc : (AV.ifc).ren s = .ifc := by simp [AV.ren]
theorem ren_top : (AV.top).ren s = .top := by simp [AV.ren]
theorem ren_mref (a : Nat) : (AV.mref a).ren s = .mref (s a) := by simp [AV.ren]
theorem ren_yld (a : Nat) : (AV.yld a).ren s = .yld (s a) := by simp [AV.ren]
theorem ren_vptr (a b : Nat) : (AV.vptr a b).ren s = .vptr (s a) b := by simp [AV.ren]
theorem ren_ept (a b c d : Nat) : (AV.ept a b c d).ren s = .ept (s a) b c d := by simp [AV.ren]
theorem ren_sl (a b c d : Nat) : (AV.sl a b c d).ren s = .sl (s a) b c d := by simp [AV.ren]
theorem ren_opt (p : Bool) (x : AV) : (AV.opt p x).ren s = .opt p (x.ren s) := by simp [AV.ren]
end

def AObj.ren (s : Nat → Nat) : AObj → AObj
  | .vars cs => .vars (cs.map (AV.ren s))
  | .arr e c xs => .arr e c xs
  | .dead => .dead
  | .tag id t => .tag (s id) t
  | .lp rdy pend nt sl ps asg body => .lp rdy pend nt (sl.map fun p => (p.1, p.2.ren s)) ps asg body
  | .mp kvs => .mp kvs

theorem VR.ren {w : World} {I : Nat → Prop} {m : Nat → Option Nat} {n n' : Nat} {s : Nat → Nat} (x : AV) (v : Value) (h : VR w I m n v (x.ren s)) (hu : x.under n' = true) : VR w I (fun i => m (s i)) n' v x := by
  match x, v, h, hu with
  | .agg cs, v, h, hu =>
    rw [ren_agg] at h
    rw [under_agg, List.all_eq_true] at hu
    obtain ⟨vs, rfl, hl, hall⟩ := h.agg_inv
    refine .agg vs cs (by simpa using hl) fun i v x hv hx => ?_
    have hm := List.mem_of_getElem? hx
    exact VR.ren x v (hall i v _ hv (by simp [hx])) (hu x hm)
  | .tup cs, v, h, hu =>
    rw [ren_tup] at h
    rw [under_tup, List.all_eq_true] at hu
    obtain ⟨vs, rfl, hl, hall⟩ := h.tup_inv
    refine .tup vs cs (by simpa using hl) fun i v x hv hx => ?_
    have hm := List.mem_of_getElem? hx
    exact VR.ren x v (hall i v _ hv (by simp [hx])) (hu x hm)
  | .fn f xs ys, v, h, hu =>
    rw [ren_fn] at h
    rw [under_fn, Bool.and_eq_true, List.all_eq_true, List.all_eq_true] at hu
    obtain ⟨vs, us, rfl, hl, hall, hl', hall'⟩ := h.fn_inv
    refine .fn f vs us xs ys (by simpa using hl) (fun i v x hv hx => ?_) (by simpa using hl') (fun i v x hv hx => ?_)
    · have hm := List.mem_of_getElem? hx
      exact VR.ren x v (hall i v _ hv (by simp [hx])) (hu.1 x hm)
    · have hm := List.mem_of_getElem? hx
      exact VR.ren x v (hall' i v _ hv (by simp [hx])) (hu.2 x hm)
  | .bool b, v, h, _ => rw [ren_bool] at h; rw [h.bool_inv]; exact .pure (.bool b)
  | .int k z, v, h, _ => rw [ren_int] at h; rw [h.int_inv]; exact .pure (.int k z)
  | .str x, v, h, _ => rw [ren_str] at h; rw [h.str_inv]; exact .pure (.str x)
  | .list xs, v, h, _ => rw [ren_list] at h; exact .pure h.list_inv
  | .iptr xs, v, h, _ => rw [ren_iptr] at h; exact .pure h.iptr_inv
  | .nils, v, h, _ => rw [ren_nils] at h; rw [h.nils_inv]; exact .pure .nils
  | .nilp, v, h, _ => rw [ren_nilp] at h; rw [h.nilp_inv]; exact .pure .nilp
  | .nilf, v, h, _ => rw [ren_nilf] at h; rw [h.nilf_inv]; exact .pure .nilf
  | .nili, v, h, _ => rw [ren_nili] at h; rw [h.nili_inv]; exact .pure .nili
  | .ifc, v, h, _ => rw [ren_ifc] at h; obtain ⟨t, u, rfl⟩ := h.ifc_inv; exact .pure (.ifc t u)
  | .top, v, _, _ => exact .pure (.top v)
  | .vptr id off, v, h, hu =>
    rw [ren_vptr] at h
    obtain ⟨b, hb, _, rfl⟩ := h.vptr_inv
    exact .vptr id off b (by simpa [under_vptr] using hu) hb
  | .ept id c i off, v, h, hu =>
    rw [ren_ept] at h
    obtain ⟨b, hb, _, rfl⟩ := h.ept_inv
    exact .ept id c i off b (by simpa [under_ept] using hu) hb
  | .sl id c lo len, v, h, hu =>
    rw [ren_sl] at h
    have hn : id < n' := by simpa [under_sl] using hu
    rcases h.sl_inv with ⟨b, cap, t, hb, _, hs, hl, hmax, rfl⟩ | ⟨hb, _, rfl, rfl, rfl⟩ | ⟨a, _, hlo, rfl, rfl⟩
    · exact .sl id c lo len cap b t hn hb hs hl hmax
    · exact .slnone id c hn hb
    · exact .slend id c lo a hn hlo
  | .yld id, v, h, hu =>
    rw [ren_yld] at h
    obtain ⟨b, hb, _, rfl⟩ := h.yld_inv
    exact .yld id b (by simpa [under_yld] using hu) hb
  | .mref id, v, h, hu =>
    rw [ren_mref] at h
    obtain ⟨b, hb, _, rfl⟩ := h.mref_inv
    exact .mref id b (by simpa [under_mref] using hu) hb
  | .opt p x, v, h, hu =>
    rw [ren_opt] at h
    rw [under_opt] at hu
    obtain ⟨h1, h2⟩ := h.opt_inv
    exact .opt p x (fun e => VR.ren x v (h1 e) hu) h2
termination_by SizeOf.sizeOf x
decreasing_by all_goals (first | (have := List.sizeOf_lt_of_mem hm; simp; omega) | (simp; omega) | simp)

theorem look_ren (s : Nat → Nat) {t : Nat} {x : AV} : ∀ {sl : List (Nat × AV)}, look sl t = some x → look (sl.map fun p => (p.1, p.2.ren s)) t = some (x.ren s)
  | [], hx => by cases hx
  | (t', y) :: r, hx => by
    simp only [List.map_cons, look] at hx ⊢
    split
    · rename_i e; subst e; simp at hx; rw [hx]
    · rename_i e; rw [if_neg e] at hx; exact look_ren s hx

def rn (ix : List Nat) (i : Nat) : Nat := ix.getD i i

section
variable {P : Program} [Env P] {nt k : Nat} {Q : Exit → AS → Prop}

/-- The objects are numbered anew: ix: the old number of each; what no number leads to is forgotten. -/
theorem St.ren {C : Cx P} {a : Act} {w : World} {sl sl' : List (Nat × AV)} {H H' : List AObj} (ix : List Nat) (hs : St C nt k ⟨sl, H⟩ a w)
    (h1 : ix.map (fun i => H[i]?) = H'.map (fun o => some (o.ren (rn ix)))) (h2 : ix.Nodup) (h3 : k ≤ ix.length) (h3' : ix.take k = List.range k)
    (h4 : sl'.all (fun p => p.2.under H'.length) = true) (h4' : H'.all (objBelow H'.length) = true) (h5 : keepOk sl (sl'.map fun p => (p.1, p.2.ren (rn ix)))) : St C nt k ⟨sl', H'⟩ a w := by
  obtain ⟨I, m, hw, hsl, hk, hf⟩ := hs
  have hlen : H'.length = ix.length := by have := congrArg List.length h1; simpa using this.symm
  have hget : ∀ (i : Nat) (o : AObj), H'[i]? = some o → H[rn ix i]? = some (o.ren (rn ix)) ∧ ix[i]? = some (rn ix i) := fun i o ho => by
    have hi : i < ix.length := by have := (List.getElem?_eq_some_iff.1 ho).1; omega
    have e1 : ix[i]? = some (rn ix i) := by simp [rn, hi]
    have := congrArg (fun l => l[i]?) h1
    simp only [List.getElem?_map, ho, e1, Option.map_some, Option.some.injEq] at this
    exact ⟨this, e1⟩
  refine ⟨I, fun i => m (rn ix i), ⟨hw.below, hw.i0, hw.iw, fun id o ho => ?_, fun id o b ho hl hm => ?_, fun i j oi oj b hi hj li lj mi mj => ?_⟩, ⟨hsl.1, hsl.2.1, fun t x hx => ?_⟩, by rw [hlen]; exact h3, ?_⟩
  · have h6 := hw.obj _ _ (hget id o ho).1
    cases o with
    | vars cs =>
      obtain ⟨b, t, vs, e, hh, hl, hr⟩ := h6
      refine ⟨b, t, vs, e, hh, by simpa using hl, fun j v x hv hx => VR.ren x v (hr j v _ hv (by simp [hx])) ?_⟩
      have := List.all_eq_true.1 h4' _ (List.mem_of_getElem? ho)
      simp only [objBelow, List.all_eq_true] at this
      exact this x (List.mem_of_getElem? hx)
    | arr e c xs => exact h6
    | dead => trivial
    | tag id t =>
      have := List.all_eq_true.1 h4' _ (List.mem_of_getElem? ho)
      simp only [objBelow, decide_eq_true_eq] at this
      exact ⟨this, h6.2⟩
    | lp rdy pend nt sl ps asg body =>
      obtain ⟨b, r, e, hh, q1, q2, q3, q4, q5, q6, q7⟩ := h6
      refine ⟨b, r, e, hh, q1, q2, q3, q4, q5, q6, fun t x hx => ?_⟩
      obtain ⟨v, hv, hr⟩ := q7 t _ (look_ren (rn ix) hx)
      have := List.all_eq_true.1 h4' _ (List.mem_of_getElem? ho)
      exact ⟨v, hv, VR.ren x v hr (List.all_eq_true.1 this _ (look_mem hx))⟩
    | mp kvs => exact h6
  · exact hw.own _ _ b (hget id o ho).1 (by cases o <;> exact hl) hm
  · obtain ⟨p1, p2⟩ := hget i oi hi
    obtain ⟨q1, q2⟩ := hget j oj hj
    have := hw.inj _ _ _ _ b p1 q1 (by cases oi <;> exact li) (by cases oj <;> exact lj) mi mj
    exact (List.getElem?_inj (List.getElem?_eq_some_iff.1 p2).1 h2).1 (by rw [p2, q2, this])
  · have hmem := look_mem hx
    have h6 := look_ren (rn ix) hx
    obtain ⟨v, hv, hr⟩ := hsl.2.2 t _ (look_of_keepOk h5 _ _ h6)
    exact ⟨v, hv, VR.ren x v hr (List.all_eq_true.1 h4 _ hmem)⟩
  · refine ⟨⟨hf.fut.ext, fun id hid => ?_, hf.fut.shape⟩, hf.defs, hf.rnd⟩
    have : rn ix id = id := by
      have h7 := congrArg (fun l => l[id]?) h3'
      simp only [List.getElem?_take, if_pos hid] at h7
      rw [List.getElem?_range hid] at h7
      simp [rn, h7]
    simp only [this]
    exact hf.fut.ids id hid

theorem AWP_ren {c : Code} {sl sl' : List (Nat × AV)} {H H' : List AObj} (ix : List Nat) (h : AWP P nt k c Q ⟨sl', H'⟩)
    (h1 : ix.map (fun i => H[i]?) = H'.map (fun o => some (o.ren (rn ix)))) (h2 : ix.Nodup) (h3 : k ≤ ix.length) (h3' : ix.take k = List.range k)
    (h4 : sl'.all (fun p => p.2.under H'.length) = true) (h4' : H'.all (objBelow H'.length) = true) (h5 : keepOk sl (sl'.map fun p => (p.1, p.2.ren (rn ix)))) : AWP P nt k c Q ⟨sl, H⟩ :=
  fun C a w hs => h C a w (hs.ren ix h1 h2 h3 h3' h4 h4' h5)
theorem ALoop_ren {c : Code} {sl sl' : List (Nat × AV)} {H H' : List AObj} (ix : List Nat) (h : ALoop P nt k c Q ⟨sl', H'⟩)
    (h1 : ix.map (fun i => H[i]?) = H'.map (fun o => some (o.ren (rn ix)))) (h2 : ix.Nodup) (h3 : k ≤ ix.length) (h3' : ix.take k = List.range k)
    (h4 : sl'.all (fun p => p.2.under H'.length) = true) (h4' : H'.all (objBelow H'.length) = true) (h5 : keepOk sl (sl'.map fun p => (p.1, p.2.ren (rn ix)))) : ALoop P nt k c Q ⟨sl, H⟩ :=
  fun C a w hs => h C a w (hs.ren ix h1 h2 h3 h3' h4 h4' h5)

/-- A nil slice in a variable is an empty slice of the call's own. -/
theorem AWP_nilOwn {c : Code} {sl : List (Nat × AV)} {H : List AObj} (i f e sz : Nat) {cs : List AV} (hi : H[i]? = some (.vars cs)) (hfv : cs[f]? = some .nils)
    (h : AWP P nt k c Q ⟨sl, H.set i (.vars (cs.set f (.sl H.length sz 0 0))) ++ [.arr e sz []]⟩) : AWP P nt k c Q ⟨sl, H⟩ := fun C a w hs => by
  obtain ⟨I, m, hw, hsl, hk, hf⟩ := hs
  obtain ⟨g1, g2⟩ := hw.push (Below.refl _ _) none (fun b e => by cases e) (.arr e sz []) (fun m' _ _ => .inl ⟨rfl, rfl⟩)
  have hlt : i < H.length := (List.getElem?_eq_some_iff.1 hi).1
  refine h C a w ⟨I, upd m H.length none, ?_, ⟨hsl.1, hsl.2.1, fun t x hx => ?_⟩, by simp at hk ⊢; omega, ?_⟩
  · have hi' : (H ++ [AObj.arr e sz []])[i]? = some (.vars cs) := by rw [List.getElem?_append_left hlt]; exact hi
    have hob := g1.obj i _ hi'
    obtain ⟨b, t, vs, e1, hh, hl, hr⟩ := hob
    have := g1.set (o' := .vars (cs.set f (.sl H.length sz 0 0))) hi' rfl e1 (World.grownBy.refl _ _) (fun _ h => h) (fun m' hf' => ⟨b, t, vs, rfl, hh, by simpa using hl, fun j v x hv hx => ?_⟩)
    · have h2 := this.1
      rw [List.set_append_left _ _ hlt] at h2
      exact h2
    · by_cases hj : j = f
      · subst hj
        rw [List.getElem?_set_self (List.getElem?_eq_some_iff.1 hfv).1] at hx
        cases hx
        have := (hr j v _ hv hfv).nils_inv
        subst this
        refine .slnone H.length sz (by simp) ?_
        rw [hf'.ids _ (by simp), upd_same]
      · rw [List.getElem?_set_ne (by omega)] at hx
        exact (hr j v x hv hx).mono hf' (Nat.le_refl _)
  · obtain ⟨v, hv, hr⟩ := hsl.2.2 t x hx
    refine ⟨v, hv, ?_⟩
    have := hr.mono (n' := (H ++ [AObj.arr e sz []]).length) g2 (by simp)
    simpa using this
  · exact hf.trans hk g2
end

theorem rn_def (ix : List Nat) (i : Nat) : rn ix i = ix.getD i i := rfl
attribute [simp] ren_mref ren_yld ren_agg ren_tup ren_fn ren_bool ren_int ren_str ren_list ren_iptr ren_nils ren_nilp ren_nilf ren_nili ren_ifc ren_top ren_vptr ren_ept ren_sl ren_opt AObj.ren rn_def
end Go.Abs
namespace Go.Abs
open Go Go.RowKit
section
variable {P : Program} [Env P] {T : TT} {nt k : Nat} {S : AS} {ops : Array Oper} {o : Oper} {R : AS → Prop}

def appOk (ei : TI) (xs ys : List AV) : Prop := (∀ y ∈ ys, y.cells.length = ei.size ∧ y.cells.all AV.leaf = true) ∧ (xs.length + ys.length) * ei.bytes ≤ 140737488355328
theorem AStep_appendS (hT : TOk P T) (hw : wantedA ops S o = some true) {s x : Operand} {t e : TypeId} (ho : o.op = .call ⟨.builtin .append, #[s, x], #[t, t]⟩) {it ei : TI} (ht : look T t = some it) (hit : it.desc = .slice e) (he : look T e = some ei)
    (hz : ei.zero.cells.size = ei.size) (hsz : 0 < ei.size) (hby : 0 < ei.bytes) {sv xv : AV} (hs : rho S.sl s = some sv) (hx : rho S.sl x = some xv) (hd : dstOk nt o = true)
    (hR : match appBase S e ei.size sv, contA S.hp xv with
      | some (xs, H1), some ys => appOk ei xs ys ∧ R (({ S with hp := H1 ++ [.arr e ei.size (xs ++ ys)] } : AS).putD o.dst (.sl S.hp.length ei.size 0 (xs.length + ys.length)))
      | _, _ => False) : AStep P nt k true ops o S R := by
  cases hb : appBase S e ei.size sv with
  | none => rw [hb] at hR; exact hR.elim
  | some p =>
    obtain ⟨xs, H1⟩ := p
    cases hy : contA S.hp xv with
    | none => rw [hb, hy] at hR; exact hR.elim
    | some ys =>
      rw [hb, hy] at hR
      obtain ⟨⟨h1, h2⟩, h3⟩ := hR
      refine AStep_append hT hw ho ht hit he hz hsz hs hx hb hy h1 h2 ?_ hd h3
      have := Nat.le_mul_of_pos_right (xs.length + ys.length) hby
      omega
end
end Go.Abs
namespace Go.Abs
open Go Go.RowKit

/-- The object i is read as data. -/
def AV.fz (i c : Nat) (xs : List AV) : AV → AV
  | .agg cs => .agg (cs.attach.map fun ⟨x, _⟩ => x.fz i c xs)
  | .tup cs => .tup (cs.attach.map fun ⟨x, _⟩ => x.fz i c xs)
  | .fn f ys zs => .fn f (ys.attach.map fun ⟨x, _⟩ => x.fz i c xs) (zs.attach.map fun ⟨x, _⟩ => x.fz i c xs)
  | .sl id c' lo len => if id = i ∧ c' = c ∧ lo + len ≤ xs.length then .list ((xs.drop lo).take len) else .sl id c' lo len
  | .opt p x => .opt p (x.fz i c xs)
  | x => x
section
variable (i c : Nat) (xs : List AV)
theorem fz_agg (cs : List AV) : (AV.agg cs).fz i c xs = .agg (cs.map (AV.fz i c xs)) := by rw [AV.fz]; simp
theorem fz_tup (cs : List AV) : (AV.tup cs).fz i c xs = .tup (cs.map (AV.fz i c xs)) := by rw [AV.fz]; simp
theorem fz_fn (f : Fn) (ys zs : List AV) : (AV.fn f ys zs).fz i c xs = .fn f (ys.map (AV.fz i c xs)) (zs.map (AV.fz i c xs)) := by rw [AV.fz]; simp
theorem fz_bool (b : Bool) : (AV.bool b).fz i c xs = .bool b := by simp [AV.fz]
theorem fz_int (k : IntKind) (n : Int) : (AV.int k n).fz i c xs = .int k n := by simp [AV.fz]
theorem fz_str (x : List UInt8) : (AV.str x).fz i c xs = .str x := by simp [AV.fz]
theorem fz_list (x : List AV) : (AV.list x).fz i c xs = .list x := by simp [AV.fz]
theorem fz_iptr (x : List AV) : (AV.iptr x).fz i c xs = .iptr x := by simp [AV.fz]
theorem fz_nils : (AV.nils).fz i c xs = .nils := by simp [AV.fz]
theorem fz_nilp : (AV.nilp).fz i c xs = .nilp := by simp [AV.fz]
theorem fz_nilf : (AV.nilf).fz i c xs = .nilf := by simp [AV.fz]
theorem fz_nili : (AV.nili).fz i c xs = .nili := by simp [AV.fz]
theorem fz_ifc : (AV.ifc).fz i c xs = .ifc := by simp [AV.fz]
theorem fz_top : (AV.top).fz i c xs = .top := by simp [AV.fz]
theorem fz_mref (a : Nat) : (AV.mref a).fz i c xs = .mref a := by simp [AV.fz]
theorem fz_yld (a : Nat) : (AV.yld a).fz i c xs = .yld a := by simp [AV.fz]
theorem fz_vptr (a b : Nat) : (AV.vptr a b).fz i c xs = .vptr a b := by simp [AV.fz]
theorem fz_ept (a b d e : Nat) : (AV.ept a b d e).fz i c xs = .ept a b d e := by simp [AV.fz]
theorem fz_sl (id c' lo len : Nat) : (AV.sl id c' lo len).fz i c xs = if id = i ∧ c' = c ∧ lo + len ≤ xs.length then .list ((xs.drop lo).take len) else .sl id c' lo len := by rw [AV.fz]
theorem fz_opt (p : Bool) (x : AV) : (AV.opt p x).fz i c xs = .opt p (x.fz i c xs) := by simp [AV.fz]
end
def AObj.fz (i c : Nat) (xs : List AV) : AObj → AObj
  | .vars cs => .vars (cs.map (AV.fz i c xs))
  | .arr e c' ys => .arr e c' ys
  | .dead => .dead
  | .tag id t => .tag id t
  | .lp rdy pend nt sl ps asg body => .lp rdy pend nt (sl.map fun p => (p.1, p.2.fz i c xs)) ps asg body
  | .mp kvs => .mp kvs

theorem fz_pure {w : World} {I : Nat → Prop} {v : Value} {x : AV} (i c : Nat) (xs : List AV) (h : PVR w I v x) : x.fz i c xs = x := by
  have key : ∀ (vs : Array Value) (cs : List AV), vs.size = cs.length → (∀ (k : Nat) (v : Value) (x : AV), vs[k]? = some v → cs[k]? = some x → x.fz i c xs = x) → cs.map (AV.fz i c xs) = cs := fun vs cs hl ih => by
    refine List.ext_getElem? fun k => ?_
    rw [List.getElem?_map]
    cases hx : cs[k]? with
    | none => rfl
    | some x =>
      have hk : k < vs.size := by rw [hl]; exact (List.getElem?_eq_some_iff.1 hx).1
      rw [Option.map_some, ih k vs[k] x (by simp [hk]) hx]
  induction h with
  | agg vs cs hl h ih => rw [fz_agg, key vs cs hl ih]
  | tup vs cs hl h ih => rw [fz_tup, key vs cs hl ih]
  | fn f vs us ys zs hl h hl' h' ih ih' => rw [fz_fn, key vs ys hl ih, key us zs hl' ih']
  | _ => simp [AV.fz]

section
variable {P : Program} [Env P] {nt k : Nat} {Q : Exit → AS → Prop} {W0 w : World} {I0 I : Nat → Prop} {m : Nat → Option Nat} {H : List AObj}

theorem VR.fz (hw : WS W0 I0 w I m H) {i e c : Nat} {xs : List AV} (hi : H[i]? = some (.arr e c xs)) {v : Value} {x : AV} (h : VR w I m H.length v x) :
    VR w (fun b => I b ∨ m i = some b) m H.length v (x.fz i c xs) := by
  have hext : Ext w w I (fun b => I b ∨ m i = some b) := ⟨fun _ h => .inl h, fun _ _ => rfl⟩
  have hil : i < H.length := (List.getElem?_eq_some_iff.1 hi).1
  -- the other objects set aside
  have hget : ∀ (id : Nat) (o : AObj), ((List.replicate H.length AObj.dead).set i (.arr e c xs))[id]? = some o → (id = i ∧ o = .arr e c xs) ∨ o = .dead := fun id o ho => by
    by_cases hid : id = i
    · subst hid
      rw [List.getElem?_set_self (by simpa using hil)] at ho
      exact .inl ⟨rfl, (Option.some.inj ho).symm⟩
    · rw [List.getElem?_set_ne (by omega), List.getElem?_replicate] at ho
      split at ho
      · exact .inr (Option.some.inj ho).symm
      · cases ho
  have hw1 : WS W0 I0 w I m ((List.replicate H.length AObj.dead).set i (.arr e c xs)) := by
    refine ⟨hw.below, hw.i0, hw.iw, fun id o ho => ?_, fun id o b ho hl hm => ?_, fun a b oa ob d ha hb la lb ma mb => ?_⟩
    · rcases hget id o ho with ⟨rfl, rfl⟩ | rfl
      · have := hw.obj _ _ hi; simpa using this
      · trivial
    · rcases hget id o ho with ⟨rfl, rfl⟩ | rfl
      · exact hw.own _ _ b hi rfl hm
      · cases hl
    · rcases hget a oa ha with ⟨rfl, rfl⟩ | rfl
      · rcases hget b ob hb with ⟨rfl, rfl⟩ | rfl
        · rfl
        · cases lb
      · cases la
  have hall : ∀ b, IAll I m ((List.replicate H.length AObj.dead).set i (.arr e c xs)) b → I b ∨ m i = some b := fun b hb => by
    rcases hb with hb | ⟨id, o, ho, hl, hm⟩
    · exact .inl hb
    · rcases hget id o ho with ⟨rfl, rfl⟩ | rfl
      · exact .inr hm
      · cases hl
  induction h with
  | pure h => rw [fz_pure i c xs h]; exact .pure (h.mono hext)
  | agg vs cs hl h ih =>
    rw [fz_agg]
    refine .agg vs _ (by simpa using hl) fun j v x hv hx => ?_
    rw [List.getElem?_map] at hx
    obtain ⟨y, hy, rfl⟩ := Option.map_eq_some_iff.1 hx
    exact ih j v y hv hy
  | tup vs cs hl h ih =>
    rw [fz_tup]
    refine .tup vs _ (by simpa using hl) fun j v x hv hx => ?_
    rw [List.getElem?_map] at hx
    obtain ⟨y, hy, rfl⟩ := Option.map_eq_some_iff.1 hx
    exact ih j v y hv hy
  | fn f vs us ys zs hl h hl' h' ih ih' =>
    rw [fz_fn]
    refine .fn f vs us _ _ (by simpa using hl) (fun j v x hv hx => ?_) (by simpa using hl') (fun j v x hv hx => ?_)
    · rw [List.getElem?_map] at hx
      obtain ⟨y, hy, rfl⟩ := Option.map_eq_some_iff.1 hx
      exact ih j v y hv hy
    · rw [List.getElem?_map] at hx
      obtain ⟨y, hy, rfl⟩ := Option.map_eq_some_iff.1 hx
      exact ih' j v y hv hy
  | vptr id off b hn hb => rw [fz_vptr]; exact .vptr id off b hn hb
  | ept id c' j off b hn hb => rw [fz_ept]; exact .ept id c' j off b hn hb
  | yld id b hn hb => rw [fz_yld]; exact .yld id b hn hb
  | mref id b hn hb => rw [fz_mref]; exact .mref id b hn hb
  | opt p x h1 h2 ih => rw [fz_opt]; exact .opt p _ ih h2
  | sl id c' lo len cap b t hn hb hs hl hmax =>
    rw [fz_sl]
    have hv : VR w I m H.length _ _ := .sl id c' lo len cap b t hn hb hs hl hmax
    split
    · rename_i hc
      obtain ⟨rfl, rfl, hb'⟩ := hc
      have := snap0_sound hw1 (by simpa using hv) (y := .list ((xs.drop lo).take len)) (by simp [snap0, List.getElem?_set_self, hil, hb'])
      exact .pure (this.mono ⟨hall, fun _ _ => rfl⟩)
    · exact .sl id c' lo len cap b t hn hb hs hl hmax
  | slnone id c' hn hb =>
    rw [fz_sl]
    split
    · refine .pure ?_
      simp only [List.drop_zero, List.take_zero]
      exact .list _ _ _ 0 _ (fun _ _ => undef) rfl (by simp) (by unfold maxLen; omega) (fun x hx => by simp at hx) (fun h0 => by simp at h0) (fun i x hx => by simp at hx)
    · exact .slnone id c' hn hb
  | slend id c' lo a hn hlo =>
    rw [fz_sl]
    split
    · refine .pure ?_
      simp only [List.take_zero]
      exact .list _ _ _ 0 _ (fun _ _ => undef) rfl (by simp) (by unfold maxLen; omega) (fun x hx => by simp at hx) (fun h0 => by simp at h0) (fun i x hx => by simp at hx)
    · exact .slend id c' lo a hn hlo

theorem look_fz {i c : Nat} {xs : List AV} {t : Nat} {x : AV} : ∀ {sl : List (Nat × AV)}, look (sl.map fun p => (p.1, p.2.fz i c xs)) t = some x → ∃ y, look sl t = some y ∧ x = y.fz i c xs
  | [], hx => by cases hx
  | (t', y) :: r, hx => by
    simp only [List.map_cons, look] at hx ⊢
    split
    · rename_i e; subst e; simp at hx; exact ⟨y, rfl, hx.symm⟩
    · rename_i e; rw [if_neg e] at hx; exact look_fz hx

/-- The object i is given up, to be read as data for good. -/

theorem ObjR.fz (hw : WS W0 I0 w I m H) {i e c : Nat} {xs : List AV} (hi : H[i]? = some (.arr e c xs)) {b? : Option Nat} {o : AObj} (h : ObjR w I m H.length b? o) :
    ObjR w (fun b => I b ∨ m i = some b) m H.length b? (o.fz i c xs) := by
  have hext : Ext w w I (fun b => I b ∨ m i = some b) := ⟨fun _ h => .inl h, fun _ _ => rfl⟩
  cases o with
  | vars cs =>
    obtain ⟨b, t, vs, e1, hh, hl, hr⟩ := h
    refine ⟨b, t, vs, e1, hh, by simpa using hl, fun j v x hv hx => ?_⟩
    rw [List.getElem?_map] at hx
    obtain ⟨y, hy, rfl⟩ := Option.map_eq_some_iff.1 hx
    exact (hr j v y hv hy).fz hw hi
  | arr e' c' ys =>
    rcases h with h | ⟨b, cap, vs, e1, hh, h1, h2, h3, h4, hr⟩
    · exact .inl h
    · exact .inr ⟨b, cap, vs, e1, hh, h1, h2, h3, h4, fun i x hx j y hy => by obtain ⟨v, hv, hp⟩ := hr i x hx j y hy; exact ⟨v, hv, hp.mono hext⟩⟩
  | dead => trivial
  | tag j t => exact h
  | lp rdy pend nt sl ps asg body =>
    obtain ⟨b, r, e1, hh, q1, q2, q3, q4, q5, q6, q7⟩ := h
    refine ⟨b, r, e1, hh, q1, q2, q3, q4, q5, q6, fun t x hx => ?_⟩
    obtain ⟨y, hy, rfl⟩ := look_fz hx
    obtain ⟨v, hv, hr⟩ := q7 t y hy
    exact ⟨v, hv, hr.fz hw hi⟩
  | mp kvs =>
    obtain ⟨b, es, ck, e1, hh, hl, hr⟩ := h
    exact ⟨b, es, ck, e1, hh, hl, fun i x p a d => ⟨(hr i x p a d).1.mono hext, (hr i x p a d).2.mono hext⟩⟩

theorem St.freeze {C : Cx P} {a : Act} {w : World} {sl : List (Nat × AV)} {H : List AObj} (hs : St C nt k ⟨sl, H⟩ a w) (i : Nat) {e c : Nat} {xs : List AV} (hi : H[i]? = some (.arr e c xs)) :
    St C nt k ⟨sl.map fun p => (p.1, p.2.fz i c xs), (H.set i .dead).map (AObj.fz i c xs)⟩ a w := by
  obtain ⟨I, m, hw, hsl, hk, hf⟩ := hs
  have hext : Ext w w I (fun b => I b ∨ m i = some b) := ⟨fun _ h => .inl h, fun _ _ => rfl⟩
  have hlen : ((H.set i .dead).map (AObj.fz i c xs)).length = H.length := by simp
  have hcase : ∀ (id : Nat) (o : AObj), ((H.set i .dead).map (AObj.fz i c xs))[id]? = some o → o.live = true → id ≠ i ∧ ∃ o', H[id]? = some o' ∧ o = o'.fz i c xs ∧ o'.live = true := fun id o ho hl => by
    rw [List.getElem?_map] at ho
    obtain ⟨o', ho', rfl⟩ := Option.map_eq_some_iff.1 ho
    by_cases hid : id = i
    · subst hid
      rw [List.getElem?_set_self (List.getElem?_eq_some_iff.1 hi).1] at ho'
      cases ho'
      simp [AObj.fz, AObj.live] at hl
    · rw [List.getElem?_set_ne (by omega)] at ho'
      exact ⟨hid, o', ho', rfl, by cases o' <;> exact hl⟩
  refine ⟨fun b => I b ∨ m i = some b, m, ⟨hw.below, fun b hb => .inl (hw.i0 b hb), fun b hb => ?_, fun id o ho => ?_, fun id o b ho hl hm => ?_, fun a b oa ob d ha hb la lb ma mb => ?_⟩, ⟨hsl.1, hsl.2.1, fun t x hx => ?_⟩, by rw [hlen]; exact hk, hf.trans hk ⟨hext, fun _ _ => rfl, fun _ _ h => h⟩⟩
  · rcases hb with hb | hb
    · exact hw.iw b hb
    · have := hw.own i _ b hi rfl hb
      exact ⟨this.2.2, .inr this.1⟩
  · rw [hlen]
    by_cases hl : o.live = true
    · obtain ⟨_, o', ho', rfl, _⟩ := hcase id o ho hl
      exact (hw.obj id o' ho').fz hw hi
    · rw [List.getElem?_map] at ho
      obtain ⟨o', ho', rfl⟩ := Option.map_eq_some_iff.1 ho
      by_cases hid : id = i
      · subst hid
        rw [List.getElem?_set_self (List.getElem?_eq_some_iff.1 hi).1] at ho'
        cases ho'
        trivial
      · rw [List.getElem?_set_ne (by omega)] at ho'
        cases o' with
        | vars cs => exact absurd rfl hl
        | arr e c xs => exact absurd rfl hl
        | dead => trivial
        | tag j t => exact hw.obj id _ ho'
        | lp rdy pend nt sl ps asg body => exact absurd rfl hl
        | mp kvs => exact absurd rfl hl
  · obtain ⟨hne, o', ho', rfl, hl'⟩ := hcase id o ho hl
    have h1 := hw.own id o' b ho' hl' hm
    refine ⟨h1.1, fun hc => ?_, h1.2.2⟩
    rcases hc with hc | hc
    · exact h1.2.1 hc
    · exact hne (hw.inj id i o' _ b ho' hi hl' rfl hm hc)
  · obtain ⟨_, oa', ha', _, la'⟩ := hcase a oa ha la
    obtain ⟨_, ob', hb', _, lb'⟩ := hcase b ob hb lb
    exact hw.inj a b oa' ob' d ha' hb' la' lb' ma mb
  · rw [hlen]
    have := look_fz hx
    obtain ⟨y, hy, rfl⟩ := this
    obtain ⟨v, hv, hr⟩ := hsl.2.2 t y hy
    exact ⟨v, hv, hr.fz hw hi⟩

theorem AWP_freeze {cd : Code} {sl : List (Nat × AV)} {H : List AObj} (i : Nat) {e c : Nat} {xs : List AV} (hi : H[i]? = some (.arr e c xs)) (h : AWP P nt k cd Q ⟨sl.map fun p => (p.1, p.2.fz i c xs), (H.set i .dead).map (AObj.fz i c xs)⟩) : AWP P nt k cd Q ⟨sl, H⟩ :=
  fun C a w hs => h C a w (hs.freeze i hi)
theorem AStep_freeze {wr : Bool} {ops : Array Oper} {o : Oper} {R : AS → Prop} {sl : List (Nat × AV)} {H : List AObj} (i : Nat) {e c : Nat} {xs : List AV} (hi : H[i]? = some (.arr e c xs)) (h : AStep P nt k wr ops o ⟨sl.map fun p => (p.1, p.2.fz i c xs), (H.set i .dead).map (AObj.fz i c xs)⟩ R) : AStep P nt k wr ops o ⟨sl, H⟩ R :=
  fun C a w K Q hs => h C a w K Q (hs.freeze i hi)
end
attribute [simp] fz_mref fz_yld fz_agg fz_tup fz_fn fz_bool fz_int fz_str fz_list fz_iptr fz_nils fz_nilp fz_nilf fz_nili fz_ifc fz_top fz_vptr fz_ept fz_sl fz_opt AObj.fz
end Go.Abs
namespace Go.Abs
open Go Go.RowKit
section
variable {P : Program} [Env P] {T : TT} {nt k : Nat} {S : AS} {ops : Array Oper} {o : Oper} {R : AS → Prop}

/-- A slice that is data, against nil: a full one is not nil. -/
theorem AStep_isnil (hT : TOk P T) {wr : Bool} (hw : wantedA ops S o = some true) {t u e : TypeId} {x : Operand} (ho : o.op = .binOp .eql t x (.const (.slice none 0 0)) u) {it : TI} (ht : look T t = some it) (hit : it.desc = .slice e)
    {xs : List AV} (hx : rho S.sl x = some (.list xs)) (hd : dstOk nt o = true) (hR : ∀ b, (xs ≠ [] → b = false) → R (S.putD o.dst (.bool b))) : AStep P nt k wr ops o S R := fun C a w K Q hs hK => by
  unfold OpW
  rw [if_pos (hs.wanted hw)]
  obtain ⟨I, m, hws, hsl, hk, hE⟩ := hs
  obtain ⟨ad, cap, c, uu, hv, h1, h2, h3, h4, h5⟩ := (rho_sound hsl hx).list_inv.list_inv
  have hut := hT.und ht
  rw [hit] at hut
  have hrun : (execOp a.eval o).run P w = .ok (.value (.bool ad.isNone)) w := by
    have := Go.Lib.run_eql_slice_nil (P := P) w t e ad xs.length cap 0 0 hut
    have hc : a.eval (.const (.slice none 0 0)) = .slice none 0 0 := rfl
    simp [execOp, ho, hv, eqGuard, hc, this]
  unfold wpA
  rw [hrun]
  refine hK _ _ w (hR ad.isNone fun hne => ?_) (St.value hsl hk hE hws (Fut.refl _ _ _ _) (Nat.le_refl _) (dstOk_spec hd) (.pure (.bool _))) (fun _ => Held.refl w)
  obtain ⟨ad', rfl, _⟩ := h4 (List.length_pos_iff.2 hne)
  rfl
end
end Go.Abs
namespace Go.Abs
open Go Go.RowKit

/-- In which orders a drawn region is walked: 'val': an operation that only yields, whenever it comes; 'one': the only one that may come; 'two': one of two. -/
inductive Plan where
  | done
  | val (i : Nat) (p : Plan)
  | one (i : Nat) (p : Plan)
  | two (i : Nat) (p : Plan) (j : Nat) (q : Plan)

def Plan.size : Plan → Nat
  | .done => 0
  | .val _ p => p.size + 1
  | .one _ p => p.size + 1
  | .two _ p _ _ => p.size + 1

def planT (ops : Array Oper) (cl : List (List Nat)) (Wr : List Nat) : Plan → Array Bool → Bool
  | .done, l => (Region.ready .any ops l).isEmpty
  | .val i p, l => (match ops[i]? with
      | none => false
      | some o => isVal o.op && freeOk ops cl Wr l i && (Region.ready .any ops l).contains i) && planT ops cl Wr p (l.setIfInBounds i true)
  | .one i p, l => (ops[i]?).isSome && Region.ready .any ops l == [i] && planT ops cl Wr p (l.setIfInBounds i true)
  | .two i p j q, l => (ops[i]?).isSome && (ops[j]?).isSome && Region.ready .any ops l == [i, j] && p.size == q.size && planT ops cl Wr p (l.setIfInBounds i true) && planT ops cl Wr q (l.setIfInBounds j true)

def stepT (P : Program) [Env P] (T : TT) (nt k : Nat) (ops : Array Oper) (W : Nat → Bool) (i : Nat) (R : AS → Prop) (S : AS) : Prop := match ops[i]? with
  | none => False
  | some o => if isAuto o.op then (match stepA T ops S o with
      | some S' => (isStore o.op = true → W i = true) ∧ R S'
      | none => False)
    else AStep P nt k (W i) ops o S R

/-- The same where the machine may ask for a rule. -/
def stepT1 (P : Program) [Env P] (T : TT) (nt k : Nat) (ops : Array Oper) (W : Nat → Bool) (i : Nat) (R : AS → Prop) (S : AS) : Prop := match ops[i]? with
  | none => False
  | some o => if isAuto o.op then (match stepA T ops S o with
      | some S' => (isStore o.op = true → W i = true) ∧ R S'
      | none => AStep P nt k (W i) ops o S R)
    else AStep P nt k (W i) ops o S R

def ASeqT (P : Program) [Env P] (T : TT) (nt k : Nat) (ops : Array Oper) (W : Nat → Bool) (Q : AS → Prop) : Plan → AS → Prop
  | .done, S => Q S
  | .val i p, S => stepT P T nt k ops W i (ASeqT P T nt k ops W Q p) S
  | .one i p, S => stepT1 P T nt k ops W i (ASeqT P T nt k ops W Q p) S
  | .two i p j q, S => stepT1 P T nt k ops W i (ASeqT P T nt k ops W Q p) S ∧ stepT1 P T nt k ops W j (ASeqT P T nt k ops W Q q) S

section
variable {P : Program} [Env P] {T : TT} {nt k : Nat} {S : AS} {ops : Array Oper} {o : Oper} {R : AS → Prop} {Wr : List Nat}

theorem stepT_op (hT : TOk P T) {C : Cx P} (hd : dstsOk nt ops.toList = true) {i : Nat} {R' : AS → Prop} {N : Act → World → Prop} {a : Act} {w : World} (h : stepT1 P T nt k ops Wr.contains i R' S) (hs : St C nt k S a w)
    (hN : ∀ S' a' w', R' S' → St C nt k S' a' w' → N a' w') : wpOpA P ops (PstN C nt k R) i (fun a' w' => (Wr.contains i = false → Held w w') ∧ N a' w') a w := by
  unfold stepT1 at h
  cases ho : ops[i]? with
  | none => rw [ho] at h; exact h.elim
  | some o =>
    rw [ho] at h
    simp only at h
    have hdo : dstOk nt o = true := List.all_eq_true.1 hd o (by simpa using Array.mem_of_getElem? ho)
    have key : AStep P nt k (Wr.contains i) ops o S R' := by
      split at h
      · split at h
        · rename_i S' hS'
          exact AStep_auto hT hS' hdo h.1 (by assumption) h.2
        · exact h
      · exact h
    have := key C a w (fun a' w' => (Wr.contains i = false → Held w w') ∧ N a' w') (PstN C nt k R) hs (fun S' a' w' hR hs' hh => ⟨hh, hN S' a' w' hR hs'⟩)
    unfold wpOpA
    rw [ho]
    exact this

theorem ASeqT_any (hT : TOk P T) {C : Cx P} (hd : dstsOk nt ops.toList = true) (hns : Region.noSelect ops = true) : ∀ (p : Plan) (listed : Array Bool) (S : AS) (a : Act) (w : World), closedL ops listed → planT ops (closTo ops.toList []) Wr p listed = true → ASeqT P T nt k ops Wr.contains R p S → St C nt k S a w →
    wpAnyR P ops Wr (PstN C nt k R) p.size listed a w
  | .done, listed, S, a, w, _, hp, h, hs => ⟨by simpa [planT] using hp, S, h, hs⟩
  | .val i p, listed, S, a, w, hcl, hp, h, hs => by
    unfold planT at hp
    unfold ASeqT stepT at h
    rw [Bool.and_eq_true] at hp
    obtain ⟨hp1, hp2⟩ := hp
    cases ho : ops[i]? with
    | none => rw [ho] at h; exact h.elim
    | some o =>
      rw [ho] at h hp1
      simp only at h hp1
      have hdo : dstOk nt o = true := List.all_eq_true.1 hd o (by simpa using Array.mem_of_getElem? ho)
      simp only [Bool.and_eq_true] at hp1
      obtain ⟨⟨hv, hf⟩, hr⟩ := hp1
      have hau : isAuto o.op = true := by cases hop : o.op <;> rw [hop] at hv <;> first | rfl | exact hv | (simp [isVal] at hv)
      rw [if_pos hau] at h
      have hrd : i ∈ Region.ready .any ops listed := by simpa using hr
      split at h
      · rename_i S' hS'
        obtain ⟨v, hy, hs'⟩ := hs.yields hT hdo hv hS'
        exact wpAnyR_first ho (Region.noSelect_spec hns) (fun c a w hq => hq) (fun x y => readsMem o.op = true → Held x y) (fun w _ => Held.refl w) (fun x y z h1 h2 hr => (h1 hr).trans (h2 hr)) p.size listed a w
          (fun j oj hj hne hun hno => free_all ho hf j oj hj hne hun hno) hcl hrd hy (ASeqT_any hT hd hns p _ S' _ w (hcl.set hrd) hp2 h.2 hs')
      · exact h.elim
  | .one i p, listed, S, a, w, hcl, hp, h, hs => by
    unfold planT at hp
    simp only [Bool.and_eq_true, beq_iff_eq] at hp
    obtain ⟨⟨_, hrd⟩, hp2⟩ := hp
    have hrm : i ∈ Region.ready .any ops listed := by rw [hrd]; simp
    refine ⟨fun h0 => (by rw [hrd] at h0; cases h0), fun j hj => ?_⟩
    rw [hrd] at hj
    obtain rfl : j = i := by simpa using hj
    exact stepT_op hT hd h hs fun S' a' w' hR hs' => ASeqT_any hT hd hns p _ S' a' w' (hcl.set hrm) hp2 hR hs'
  | .two i p j q, listed, S, a, w, hcl, hp, h, hs => by
    unfold planT at hp
    simp only [Bool.and_eq_true, beq_iff_eq] at hp
    obtain ⟨⟨⟨⟨_, hrd⟩, hsz⟩, hp2⟩, hp3⟩ := hp
    have hri : i ∈ Region.ready .any ops listed := by rw [hrd]; simp
    have hrj : j ∈ Region.ready .any ops listed := by rw [hrd]; simp
    refine ⟨fun h0 => (by rw [hrd] at h0; cases h0), fun m hm => ?_⟩
    rw [hrd] at hm
    rcases (by simpa using hm : m = i ∨ m = j) with rfl | rfl
    · exact stepT_op hT hd h.1 hs fun S' a' w' hR hs' => ASeqT_any hT hd hns p _ S' a' w' (hcl.set hri) hp2 hR hs'
    · refine stepT_op hT hd h.2 hs fun S' a' w' hR hs' => ?_
      have := ASeqT_any hT hd hns q _ S' a' w' (hcl.set hrj) hp3 hR hs'
      rw [← hsz] at this
      exact this

/-- A region that draws its order, by a plan with branches. -/
theorem AWP_drawT (hT : TOk P T) (hm : P.follows .mixedOrders = true) {Q : Exit → AS → Prop} {id : Nat} {l : List Oper} (Wr : List Nat) (p : Plan) (hd : dstsOk nt l = true)
    (hp : (Region.noSelect l.toArray && p.size == l.length && planT l.toArray (closTo l []) Wr p (Array.replicate l.length false)) = true)
    (h : ASeqT P T nt k l.toArray Wr.contains (Q .normal) p S) : AWP P nt k (.region id l.toArray true) Q S := fun C a w hs => by
  simp only [Bool.and_eq_true, beq_iff_eq] at hp
  obtain ⟨⟨h1, h2⟩, h3⟩ := hp
  refine Pst_of_N (wpIn_region_any hm (wpAny_of_R (Wr := Wr) _ _ _ _ ?_))
  have hs' : St C nt k S a { w with drawn := w.drawn + 1 } := by
    obtain ⟨I, m, hw, hsl, hk, hE⟩ := hs
    have hb : Below w.heap.size w { w with drawn := w.drawn + 1 } := ⟨rfl, rfl, rfl, Nat.le_refl _, fun _ _ => rfl⟩
    obtain ⟨g1, g2⟩ := hw.step hb (fun _ h => h) (fun b hb' => ⟨(hw.iw b hb').1, .inl hb'⟩)
    exact ⟨I, m, g1, ⟨hsl.1, hsl.2.1, fun t x hx => by obtain ⟨v, hv, hr⟩ := hsl.2.2 t x hx; exact ⟨v, hv, hr.mono g2 (Nat.le_refl _)⟩⟩, hk, hE.trans hk g2⟩
  have := ASeqT_any hT (C := C) (nt := nt) (k := k) (R := Q .normal) (by simpa using hd) h1 p (Array.replicate l.length false) S a _ (fun j o ho hj => by
    have hlt := (Array.getElem?_eq_some_iff.1 ho).1
    simp at hlt
    simp [hlt] at hj) (by simpa using h3) h hs'
  rw [h2] at this
  simpa using this
end
attribute [simp] ASeqT stepT stepT1
end Go.Abs
namespace Go.Abs
open Go Go.RowKit
section
variable {P : Program} [Env P] {T : TT} {nt k : Nat} {S : AS} {ops : Array Oper} {o : Oper} {R : AS → Prop}

theorem run_copy_at {w : World} {dT sT ty e : TypeId} {ti : TypeInfo} (hu : P.underlying dT = some (.slice e)) (hi : P.info? e = some ti) (b off dLen dCap : Nat) (a : Addr) (sLen sCap : Nat) (cs : List Value) (cur : Array Value) (t : TypeId)
    (hn : cs.length = Nat.min sLen dLen * ti.size) (hsrc : ∀ j v, cs[j]? = some v → w.cell? (a.add j) = some v) (hg : w.heap[b]? = some (.cells cur t (0, 0))) (hfit : off + cs.length ≤ cur.size) (h1 : ∀ v ∈ cs, v.oneCell' = true) :
    (Builtin.copy_ #[dT, sT] ty #[.slice (some ⟨b, off, none⟩) dLen dCap, .slice (some a) sLen sCap]).run P w = .ok (goInt (Nat.min sLen dLen)) (w.setRow b (spl cur off cs.toArray)) := by
  have hl := run_loadCells_list (P := P) w a cs hsrc
  have hst := run_storeCells_at (P := P) b off t cs 0 cur w hg (by simpa using hfit) h1
  rw [hn] at hl
  simp [Builtin.copy_, run_underlying hu, Builtin.lenOf, Builtin.firstCells, sizeOf, typeInfo, hi, hl, hst, spl]
end
end Go.Abs
namespace Go.Abs
open Go Go.RowKit
section
variable {P : Program} [Env P] {T : TT} {nt k : Nat} {S : AS} {ops : Array Oper} {o : Oper} {R : AS → Prop}

theorem run_copy_zero {w : World} {dT sT ty e : TypeId} {ti : TypeInfo} (hu : P.underlying dT = some (.slice e)) (hi : P.info? e = some ti) (d a : Option Addr) (dLen dCap sLen sCap : Nat) (hn : Nat.min sLen dLen = 0) :
    (Builtin.copy_ #[dT, sT] ty #[.slice d dLen dCap, .slice a sLen sCap]).run P w = .ok (goInt 0) w := by
  have hl : ∀ (x : Addr), (loadCells x 0).run P w = .ok #[] w := fun x => by simpa using run_loadCells_list (P := P) w x [] (by simp)
  cases d <;> cases a <;> simp [Builtin.copy_, run_underlying hu, Builtin.lenOf, Builtin.firstCells, sizeOf, typeInfo, hi, hn, storeCells, hl]

/-- copy, into a slice of the call's own. -/
theorem AStep_copy (hT : TOk P T) (hw : wantedA ops S o = some true) {d s : Operand} {t t' e : TypeId} (ho : o.op = .call ⟨.builtin .copy, #[d, s], #[t, t']⟩) {it ei : TI} (ht : look T t = some it) (hit : it.desc = .slice e) (he : look T e = some ei)
    {id lo len : Nat} (hdv : rho S.sl d = some (.sl id ei.size lo len)) {sv : AV} (hsv : rho S.sl s = some sv) {ys : List AV} (hy : contA S.hp sv = some ys) {e' : TypeId} {xs : List AV} (hob : S.hp[id]? = some (.arr e' ei.size xs))
    (hlen : lo + len ≤ xs.length) (hck : ∀ y ∈ ys.take len, y.cells.length = ei.size ∧ y.cells.all AV.leaf = true) (hd : dstOk nt o = true)
    (hR : R (({ S with hp := S.hp.set id (.arr e' ei.size (xs.take lo ++ ys.take len ++ xs.drop (lo + Nat.min ys.length len))) } : AS).putD o.dst (.int .i64 (Nat.min ys.length len : Nat)))) : AStep P nt k true ops o S R := fun C a w K Q hst hK => by
  unfold OpW
  rw [if_pos (hst.wanted hw)]
  obtain ⟨I, m, hws, hsl, hk, hE⟩ := hst
  obtain ⟨ao, cap, u, hxv, hcell, hpv⟩ := contA_sound hws (rho_sound hsl hsv) hy
  obtain ⟨ti, hti, tz, ts, tb⟩ := hT.info he
  have hut := hT.und ht
  rw [hit] at hut
  have fin : ∀ (w' : World) (m' : Nat → Option Nat), (Builtin.copy_ #[t, t'] o.type #[a.eval d, a.eval s]).run P w = .ok (goInt (Nat.min ys.length len)) w' → WS C.W0 C.I0 w' I m' (S.hp.set id (.arr e' ei.size (xs.take lo ++ ys.take len ++ xs.drop (lo + Nat.min ys.length len)))) →
      Fut S.hp.length w I m w' I m' → wpA P o a w K Q := fun w' m' hrun g1 g2 => by
    unfold wpA
    have : (execOp a.eval o).run P w = .ok (.value (goInt (Nat.min ys.length len))) w' := by simp [execOp, ho, resolve, invoke, builtin, hrun]
    rw [this]
    exact hK _ _ w' hR (St.value hsl hk hE g1 g2 (by simp) (dstOk_spec hd) (.pure (.int _ _))) (fun e => by cases e)
  have zero : Nat.min ys.length len = 0 → ∀ (b0 : Option Addr) (n0 c0 : Nat), n0 = len → a.eval d = .slice b0 n0 c0 → wpA P o a w K Q := fun h0 b0 n0 c0 hn0 hd0 => by
    subst hn0
    have h1 : xs.take lo ++ ys.take n0 ++ xs.drop (lo + Nat.min ys.length n0) = xs := by
      have : ys.take n0 = [] := by apply List.eq_nil_of_length_eq_zero; rw [List.length_take, Nat.min_comm]; exact h0
      rw [this, h0]; simp
    have hset : S.hp.set id (.arr e' ei.size (xs.take lo ++ ys.take n0 ++ xs.drop (lo + Nat.min ys.length n0))) = S.hp := by
      rw [h1]
      refine List.ext_getElem? fun j => ?_
      by_cases hj : j = id
      · subst hj; rw [List.getElem?_set_self (List.getElem?_eq_some_iff.1 hob).1, hob]
      · rw [List.getElem?_set_ne (by omega)]
    refine fin w m ?_ (by rw [hset]; exact hws) (Fut.refl _ _ _ _)
    rw [hd0, hxv, h0]
    exact run_copy_zero hut hti _ _ _ _ _ _ h0
  rcases (rho_sound hsl hdv).sl_inv with ⟨b, cp, t2, hb, hn, hsh, hl', hmax, hse⟩ | ⟨hb, hn, hlo0, hl0, hse⟩ | ⟨ad, hn, hlo, hl0, hse⟩
  · rcases Nat.eq_zero_or_pos (Nat.min ys.length len) with h0 | h0
    · exact zero h0 _ _ _ rfl hse
    · have hy0 : 0 < ys.length := Nat.lt_of_lt_of_le h0 (Nat.min_le_left _ _)
      have hl0 : 0 < len := Nat.lt_of_lt_of_le h0 (Nat.min_le_right _ _)
      obtain ⟨ad, rfl, c, hc1, hc2⟩ := hcell hy0
      have hcz : c = ei.size := by
        have hm : ys[0] ∈ ys.take len := List.mem_of_getElem? (i := 0) (by rw [List.getElem?_take, if_pos hl0]; simp [hy0])
        rw [← hc1 _ (List.getElem_mem hy0), (hck _ hm).1]
      subst hcz
      rcases hws.obj id _ hob with ⟨e1, _⟩ | ⟨b', cp', vs, hb', hh, q1, q2, q3, q4, hr⟩
      · rw [hb] at e1; cases e1
      obtain rfl : b = b' := by rw [hb] at hb'; exact Option.some.inj hb'
      have hmin1 : Nat.min ys.length len ≤ ys.length := Nat.min_le_left _ _
      have hmin2 : Nat.min ys.length len ≤ len := Nat.min_le_right _ _
      generalize hnn : Nat.min ys.length len = n at *
      have htk : ys.take len = ys.take n := by
        rcases Nat.le_total ys.length len with h | h
        · rw [List.take_of_length_le h, ← hnn, show Nat.min ys.length len = ys.length from Nat.min_eq_left h, List.take_of_length_le (Nat.le_refl _)]
        · rw [← hnn, show Nat.min ys.length len = len from Nat.min_eq_right h]
      have hfitn : lo * ei.size + n * ei.size ≤ vs.size := by
        rw [q3, ← Nat.add_mul]; exact Nat.mul_le_mul_right _ (by omega)
      have hfit : lo * ei.size + (flatCells u n ei.size).length ≤ vs.size := by rw [flatCells_length]; exact hfitn
      have hget : ∀ i, i < n → ∃ y, ys[i]? = some y ∧ y.cells.length = ei.size ∧ y.cells.all AV.leaf = true := fun i hi => by
        have hlt : i < ys.length := by omega
        refine ⟨ys[i], by simp [hlt], hck _ (List.mem_of_getElem? (i := i) (by rw [List.getElem?_take, if_pos (by omega)]; simp [hlt]))⟩
      have one : ∀ v ∈ flatCells u n ei.size, v.oneCell' = true := fun v hv => by
        obtain ⟨q, hq⟩ := List.mem_iff_getElem?.1 hv
        obtain ⟨_, _, p1, p2, _, rfl⟩ := flatCells_of _ _ _ _ _ hq
        obtain ⟨y, hy1, hy2, hy3⟩ := hget _ p1
        have hz : y.cells[q % ei.size]? = some (y.cells[q % ei.size]'(by omega)) := List.getElem?_eq_getElem (by omega)
        exact (VR.pure (m := m) (n := 0) (hpv _ _ hy1 _ _ hz)).oneCell (List.all_eq_true.1 hy3 _ (List.mem_of_getElem? hz))
      have hsrc : ∀ (q : Nat) (v : Value), (flatCells u n ei.size)[q]? = some v → w.cell? (ad.add q) = some v := fun q v hq => by
        obtain ⟨_, _, p1, p2, p3, rfl⟩ := flatCells_of _ _ _ _ _ hq
        have := hc2 _ _ (show q / ei.size < ys.length by omega) p2
        rw [← p3] at this
        exact this
      have hrun := run_copy_at (P := P) (w := w) (dT := t) (sT := t') (ty := o.type) hut hti b (lo * ei.size) len cp ad ys.length cap (flatCells u n ei.size) vs e' (by rw [flatCells_length, ts, hnn]) hsrc hh hfit one
      rw [hnn] at hrun
      have hfs : lo * ei.size + (flatCells u n ei.size).toArray.size ≤ vs.size := by simpa using hfit
      have hsz' := spl_size vs (lo * ei.size) (flatCells u n ei.size).toArray hfs
      have hlen2 : (xs.take lo ++ ys.take len ++ xs.drop (lo + n)).length = xs.length := by
        rw [htk]; simp; omega
      have hmem : ∀ (i : Nat) (z : AV), (xs.take lo ++ ys.take len ++ xs.drop (lo + n))[i]? = some z → (lo ≤ i ∧ i < lo + n ∧ ys[i - lo]? = some z) ∨ ((i < lo ∨ lo + n ≤ i) ∧ xs[i]? = some z) := fun i z hz => by
        rw [htk] at hz
        have e1 : (xs.take lo).length = lo := by simp; omega
        have e2 : (ys.take n).length = n := by simp; omega
        rw [List.append_assoc, List.getElem?_append, e1] at hz
        split at hz
        · rw [List.getElem?_take, if_pos (by assumption)] at hz; exact .inr ⟨.inl (by assumption), hz⟩
        · rw [List.getElem?_append, e2] at hz
          split at hz
          · rw [List.getElem?_take, if_pos (by assumption)] at hz
            exact .inl ⟨by omega, by omega, hz⟩
          · rw [List.getElem?_drop, show lo + n + (i - lo - n) = i by omega] at hz
            exact .inr ⟨.inr (by omega), hz⟩
      have hlive : (AObj.arr e' ei.size xs).live = true := rfl
      obtain ⟨g1, g2⟩ := hws.set (o' := .arr e' ei.size (xs.take lo ++ ys.take len ++ xs.drop (lo + n))) hob hlive hb (grownBy_setRow w b (spl vs (lo * ei.size) (flatCells u n ei.size).toArray)) (shape_setRow hh hsz')
        (fun m' hf => .inr ⟨b, cp', _, rfl, setRow_heap w b vs _ e' _ hh, by rw [hlen2]; exact q1, q2, by rw [hsz', q3], fun z hz => by
            obtain ⟨i, hi⟩ := List.mem_iff_getElem?.1 hz
            rcases hmem i z hi with ⟨p1, p2, p3⟩ | ⟨_, p3⟩
            · obtain ⟨y, hy1, hy2, _⟩ := hget (i - lo) (by omega)
              rw [hy1] at p3; cases p3; exact hy2
            · exact q4 z (List.mem_of_getElem? p3), fun i z hi j y hyj => by
            rw [spl_get _ _ _ _ hfs]
            rcases hmem i z hi with ⟨p1, p2, p3⟩ | ⟨p1, p3⟩
            · obtain ⟨y', hy1, hy2, _⟩ := hget (i - lo) (by omega)
              have hzz : z = y' := by rw [hy1] at p3; exact (Option.some.inj p3).symm
              subst hzz
              have hj : j < ei.size := by have := (List.getElem?_eq_some_iff.1 hyj).1; omega
              have hfc := flatCells_get u n ei.size (i - lo) j (by omega) hj
              have hfl := (List.getElem?_eq_some_iff.1 hfc).1
              have he1 : i * ei.size = lo * ei.size + (i - lo) * ei.size := by rw [← Nat.add_mul]; congr 1; omega
              rw [if_pos (by simp only [List.size_toArray]; omega)]
              exact ⟨u (i - lo) j, by rw [show i * ei.size + j - lo * ei.size = (i - lo) * ei.size + j by omega]; simpa using hfc, (hpv _ _ hy1 _ _ hyj).mono hf.ext⟩
            · obtain ⟨v, hv1, hv2⟩ := hr i z p3 j y hyj
              have hj : j < ei.size := by have := (List.getElem?_eq_some_iff.1 hyj).1; rw [q4 z (List.mem_of_getElem? p3)] at this; exact this
              rw [if_neg ?_]
              · exact ⟨v, hv1, hv2.mono hf.ext⟩
              · simp only [List.size_toArray, flatCells_length]
                rintro ⟨r1, r2⟩
                rw [← Nat.add_mul] at r2
                rcases p1 with p1 | p1
                · have : (i + 1) * ei.size ≤ lo * ei.size := Nat.mul_le_mul_right _ (by omega)
                  rw [Nat.add_mul] at this; omega
                · have : (lo + n) * ei.size ≤ i * ei.size := Nat.mul_le_mul_right _ (by omega)
                  omega⟩)
      exact fin _ _ (by rw [hse, hxv]; exact hrun) g1 g2
  · subst hl0
    exact zero (Nat.min_zero _) _ _ _ rfl hse
  · subst hl0
    exact zero (Nat.min_zero _) _ _ _ rfl hse
end
end Go.Abs
namespace Go.Abs
open Go Go.RowKit
section
variable {P : Program} [Env P] {T : TT} {nt k : Nat} {S : AS} {ops : Array Oper} {o : Oper} {R : AS → Prop} {Q : Exit → AS → Prop}

theorem AWP_kill {c : Code} {sl : List (Nat × AV)} {H : List AObj} (id : Nat) (h : AWP P nt k c Q ⟨sl, H.set id .dead⟩) : AWP P nt k c Q ⟨sl, H⟩ := fun C a w ⟨I, m, hw, hsl, hk, hf⟩ =>
  h C a w ⟨I, m, hw.kill id, ⟨hsl.1, hsl.2.1, fun t x hx => by simpa using hsl.2.2 t x hx⟩, by simpa using hk, hf⟩

/-- A slice of the call's own whose object is named anew, at the end. -/
theorem AWP_move {cd : Code} {sl : List (Nat × AV)} {H : List AObj} (t : Nat) {id c len : Nat} {e : TypeId} {xs : List AV} (hsl : look sl t = some (.sl id c 0 len)) (hob : H[id]? = some (.arr e c xs))
    (h : AWP P nt k cd Q ⟨[(t, .sl H.length c 0 len)], H.set id .dead ++ [.arr e c xs]⟩) : AWP P nt k cd Q ⟨sl, H⟩ := fun C a w ⟨I, m, hw, hs, hk, hf⟩ => by
  obtain ⟨v, hv, hr⟩ := hs.2.2 t _ hsl
  have hid : id < H.length := (List.getElem?_eq_some_iff.1 hob).1
  have hlen : (H.set id .dead ++ [AObj.arr e c xs]).length = H.length + 1 := by simp
  have hone : ∀ (m' : Nat → Option Nat), VR w I m' (H.length + 1) v (.sl H.length c 0 len) → SlotsR nt [(t, AV.sl H.length c 0 len)] a w I m' (H.set id .dead ++ [AObj.arr e c xs]).length := fun m' hv' => ⟨hs.1, hs.2.1, fun t' x hx => by
    simp only [look] at hx
    split at hx
    · rename_i e; subst e; cases hx; exact ⟨v, hv, by rw [hlen]; exact hv'⟩
    · cases hx⟩
  cases hm : m id with
  | some b =>
    have hob' := hw.obj id _ hob
    rw [hm] at hob'
    obtain ⟨g1, g2⟩ := hw.adopt (w' := w) (o' := .arr e c xs) hob rfl hm (World.grownBy.refl _ _) (fun _ h => h) (fun m' hf' => by
      rcases hob' with h1 | ⟨b', cap, vs, e1, hh, q1, q2, q3, q4, q5⟩
      · exact .inl h1
      · exact .inr ⟨b', cap, vs, e1, hh, q1, q2, q3, q4, fun i x hx j y hy => by obtain ⟨v, hv, hp⟩ := q5 i x hx j y hy; exact ⟨v, hv, hp.mono hf'.ext⟩⟩)
    refine h C a w ⟨I, _, g1, hone _ ?_, by rw [hlen]; simp only at hk; omega, hf.trans hk g2⟩
    rcases hr.sl_inv with ⟨b', cap, t', hb, hn, hsh, hl, hmax, rfl⟩ | ⟨hb, hn, _, _, _⟩ | ⟨ad, hn, hlo, _, _⟩
    · rw [hm] at hb; cases hb
      exact .sl H.length c 0 len cap b t' (by omega) (upd_same _ _ _) hsh hl hmax
    · rw [hm] at hb; cases hb
    · omega
  | none =>
    have hob' := hw.obj id _ hob
    rw [hm] at hob'
    rcases hob' with ⟨_, rfl⟩ | ⟨_, _, _, e1, _⟩
    · obtain ⟨g1, g2⟩ := (hw.kill id).push (Below.refl _ _) none (fun b e => by cases e) (.arr e c []) (fun m' _ _ => .inl ⟨rfl, rfl⟩)
      simp only [List.length_set] at g1 g2
      refine h C a w ⟨I, _, g1, hone _ ?_, by rw [hlen]; simp only at hk; omega, hf.trans hk g2⟩
      rcases hr.sl_inv with ⟨b', cap, t', hb, hn, hsh, hl, hmax, rfl⟩ | ⟨hb, hn, _, rfl, rfl⟩ | ⟨ad, hn, hlo, _, _⟩
      · rw [hm] at hb; cases hb
      · exact .slnone H.length c (by omega) (upd_same _ _ _)
      · omega
    · cases e1

/-- Is there room for one more? -/
theorem St.capSplit {C : Cx P} {a : Act} {w : World} {sl : List (Nat × AV)} {H : List AObj} (t : Nat) {id c : Nat} {e : TypeId} {xs : List AV} (hc : 0 < c) (hsl : look sl t = some (.sl id c 0 xs.length)) (hob : H[id]? = some (.arr e c xs)) (h0 : 0 < xs.length)
    (hst : St C nt k ⟨sl, H⟩ a w) : St C nt k ⟨sl, H.set id (.arr e c (xs ++ [.agg (List.replicate c .top)]))⟩ a w ∨ St C nt k ⟨sl, H.set id (.vars (xs.flatMap AV.cells))⟩ a w := by
  obtain ⟨I, m, hw, hs, hk, hf⟩ := hst
  obtain ⟨v, hv, hr⟩ := hs.2.2 t _ hsl
  rcases hw.obj id _ hob with ⟨_, rfl⟩ | ⟨b, cap, vs, hb, hh, q1, q2, q3, q4, q5⟩
  · simp at h0
  have hset : ∀ o', (∀ m', Fut H.length w I m w I m' → ObjR w I m' H.length (some b) o') → St C nt k ⟨sl, H.set id o'⟩ a w := fun o' ho' => by
    obtain ⟨g1, g2⟩ := hw.set (o' := o') hob rfl hb (World.grownBy.refl _ _) (fun _ h => h) ho'
    exact ⟨I, m, g1, ⟨hs.1, hs.2.1, fun t x hx => by simpa using hs.2.2 t x hx⟩, by simpa using hk, hf⟩
  rcases Nat.lt_or_ge xs.length cap with hlt | hge
  · refine .inl (hset (.arr e c (xs ++ [.agg (List.replicate c .top)])) (fun m' hf' => .inr ⟨b, cap, vs, rfl, hh, by simp; omega, q2, q3, fun x hx => ?_, fun i x hx j y hy => ?_⟩))
    · rcases List.mem_append.1 hx with h1 | h1
      · exact q4 x h1
      · simp only [List.mem_singleton] at h1; subst h1; simp [AV.cells]
    · rw [List.getElem?_append] at hx
      split at hx
      · obtain ⟨v, h1, h2⟩ := q5 i x hx j y hy
        exact ⟨v, h1, h2.mono hf'.ext⟩
      · rename_i hi
        have hi1 := (List.getElem?_eq_some_iff.1 hx).1
        simp at hi1
        have hi2 : i = xs.length := by omega
        subst hi2
        simp at hx
        subst hx
        simp only [AV.cells] at hy
        have hj := (List.getElem?_eq_some_iff.1 hy).1
        simp at hj
        have hyt : y = .top := by rw [List.getElem?_replicate, if_pos hj] at hy; exact (Option.some.inj hy).symm
        subst hyt
        have hlt2 : xs.length * c + j < vs.size := by
          rw [q3]
          have : (xs.length + 1) * c ≤ cap * c := Nat.mul_le_mul_right _ hlt
          rw [Nat.add_mul] at this; omega
        exact ⟨vs[xs.length * c + j], by simp [hlt2], .top _⟩
  · have hcap : cap = xs.length := by omega
    subst hcap
    have hfl : ∀ (l : List AV), (∀ x ∈ l, x.cells.length = c) → (l.flatMap AV.cells).length = l.length * c ∧ ∀ (j : Nat) (y : AV), (l.flatMap AV.cells)[j]? = some y → ∃ i x, l[i]? = some x ∧ j = i * c + j % c ∧ x.cells[j % c]? = some y := by
      intro l
      induction l with
      | nil => intro _; exact ⟨by simp, by simp⟩
      | cons x l ih =>
        intro hl
        obtain ⟨i1, i2⟩ := ih (fun y hy => hl y (by simp [hy]))
        have hx := hl x (by simp)
        refine ⟨by rw [List.flatMap_cons, List.length_append, i1, hx, List.length_cons, Nat.add_mul, Nat.one_mul, Nat.add_comm], fun j y hj => ?_⟩
        rw [List.flatMap_cons, List.getElem?_append, hx] at hj
        split at hj
        · rename_i hlt
          exact ⟨0, x, rfl, by rw [Nat.mod_eq_of_lt hlt]; omega, by rw [Nat.mod_eq_of_lt hlt]; exact hj⟩
        · rename_i hge
          obtain ⟨i, z, h1, h2, h3⟩ := i2 _ _ hj
          have hmod : (j - c) % c = j % c := by
            conv => rhs; rw [show j = (j - c) + c by omega, Nat.add_mod_right]
          rw [hmod] at h2 h3
          exact ⟨i + 1, z, by simpa using h1, by
            have h2' := h2
            have hge' : c ≤ j := by omega
            rw [Nat.add_mul, Nat.one_mul]
            revert h2'
            generalize j % c = r
            generalize i * c = q
            intro h2'
            omega, h3⟩
    obtain ⟨f1, f2⟩ := hfl xs q4
    refine .inr (hset (.vars (xs.flatMap AV.cells)) (fun m' hf' => ⟨b, e, vs, rfl, hh, by rw [q3, f1], fun j v x hv hx => ?_⟩))
    obtain ⟨i, z, h1, h2, h3⟩ := f2 j x hx
    obtain ⟨v', h4, h5⟩ := q5 i z h1 _ _ h3
    rw [← h2, hv] at h4
    cases h4
    exact .pure (h5.mono hf'.ext)

theorem AStep_capSplit {wr : Bool} {sl : List (Nat × AV)} {H : List AObj} (t : Nat) {id c : Nat} {e : TypeId} {xs : List AV} (hc : 0 < c) (hsl : look sl t = some (.sl id c 0 xs.length)) (hob : H[id]? = some (.arr e c xs)) (h0 : 0 < xs.length)
    (hroom : AStep P nt k wr ops o ⟨sl, H.set id (.arr e c (xs ++ [.agg (List.replicate c .top)]))⟩ R) (hfull : AStep P nt k wr ops o ⟨sl, H.set id (.vars (xs.flatMap AV.cells))⟩ R) : AStep P nt k wr ops o ⟨sl, H⟩ R := fun C a w K Q hst => by
  rcases St.capSplit t hc hsl hob h0 hst with h | h
  · exact hroom C a w K Q h
  · exact hfull C a w K Q h

theorem cap_run {w : World} {t e : TypeId} {ty : TypeId} (hut : P.underlying t = some (.slice e)) (a : Option Addr) (n c : Nat) : (Builtin.cap_ #[t] ty #[.slice a n c]).run P w = .ok (goInt c) w := by
  simp [Builtin.cap_, run_underlying hut]

theorem AStep_capGe (hT : TOk P T) {wr : Bool} (hw : wantedA ops S o = some true) {x : Operand} {t e : TypeId} (ho : o.op = .call ⟨.builtin .cap, #[x], #[t]⟩) {it : TI} (ht : look T t = some it) (hit : it.desc = .slice e)
    {id c len : Nat} (hc : 0 < c) (hx : rho S.sl x = some (.sl id c 0 len)) {e' : TypeId} {xs : List AV} (hob : S.hp[id]? = some (.arr e' c xs)) (hd : dstOk nt o = true)
    (hR : ∀ n : Nat, xs.length ≤ n → R (S.putD o.dst (.int .i64 n))) : AStep P nt k wr ops o S R := fun C a w K Q hst hK => by
  unfold OpW
  rw [if_pos (hst.wanted hw)]
  obtain ⟨I, m, hws, hsl, hk, hE⟩ := hst
  have hut := hT.und ht
  rw [hit] at hut
  have fin : ∀ (b0 : Option Addr) (n0 c0 : Nat), a.eval x = .slice b0 n0 c0 → xs.length ≤ c0 → wpA P o a w K Q := fun b0 n0 c0 he hle => by
    unfold wpA
    have : (execOp a.eval o).run P w = .ok (.value (goInt c0)) w := by simp [execOp, ho, resolve, invoke, builtin, he, cap_run hut]
    rw [this]
    exact hK _ _ w (hR c0 hle) (St.value hsl hk hE hws (Fut.refl _ _ _ _) (Nat.le_refl _) (dstOk_spec hd) (.pure (.int _ _))) (fun _ => Held.refl w)
  rcases (rho_sound hsl hx).sl_inv with ⟨b, cp, t2, hb, hn, hsh, hl, hmax, hse⟩ | ⟨hb, hn, _, _, hse⟩ | ⟨ad, hn, hlo, _, _⟩
  · rcases hws.obj id _ hob with ⟨e1, _⟩ | ⟨b', cp', vs, hb', hh, q1, q2, q3, q4, hr⟩
    · rw [hb] at e1; cases e1
    obtain rfl : b = b' := by rw [hb] at hb'; exact Option.some.inj hb'
    refine fin _ _ _ hse ?_
    have : w.shape? b = some (e', vs.size) := by simp [World.shape?, hh]
    rw [this] at hsh
    simp only [Option.some.injEq, Prod.mk.injEq, Nat.zero_add, q3] at hsh
    rw [← Nat.eq_of_mul_eq_mul_right hc hsh.2]
    exact q1
  · rcases hws.obj id _ hob with ⟨_, e1⟩ | ⟨b', _, _, hb', _⟩
    · exact fin _ _ _ hse (by rw [e1]; simp)
    · rw [hb] at hb'; cases hb'
  · omega

theorem AStep_capEq (hT : TOk P T) {wr : Bool} (hw : wantedA ops S o = some true) {x : Operand} {t e : TypeId} (ho : o.op = .call ⟨.builtin .cap, #[x], #[t]⟩) {it : TI} (ht : look T t = some it) (hit : it.desc = .slice e)
    {id c len : Nat} (hc : 0 < c) (hx : rho S.sl x = some (.sl id c 0 len)) {cs : List AV} (hob : S.hp[id]? = some (.vars cs)) (n : Nat) (hcs : cs.length = n * c) (hd : dstOk nt o = true)
    (hR : R (S.putD o.dst (.int .i64 n))) : AStep P nt k wr ops o S R := fun C a w K Q hst hK => by
  unfold OpW
  rw [if_pos (hst.wanted hw)]
  obtain ⟨I, m, hws, hsl, hk, hE⟩ := hst
  have hut := hT.und ht
  rw [hit] at hut
  obtain ⟨b', t', vs, hb', hh, hl', hr⟩ := hws.obj id _ hob
  rcases (rho_sound hsl hx).sl_inv with ⟨b, cp, t2, hb, hn, hsh, hl, hmax, hse⟩ | ⟨hb, hn, _, _, hse⟩ | ⟨ad, hn, hlo, _, _⟩
  · obtain rfl : b = b' := by rw [hb] at hb'; exact Option.some.inj hb'
    have h1 : w.shape? b = some (t', vs.size) := by simp [World.shape?, hh]
    rw [h1] at hsh
    simp only [Option.some.injEq, Prod.mk.injEq, Nat.zero_add, hl', hcs] at hsh
    have hcp : n = cp := Nat.eq_of_mul_eq_mul_right hc hsh.2
    subst hcp
    unfold wpA
    have : (execOp a.eval o).run P w = .ok (.value (goInt n)) w := by simp [execOp, ho, resolve, invoke, builtin, hse, cap_run hut]
    rw [this]
    exact hK _ _ w hR (St.value hsl hk hE hws (Fut.refl _ _ _ _) (Nat.le_refl _) (dstOk_spec hd) (.pure (.int _ _))) (fun _ => Held.refl w)
  · rw [hb] at hb'; cases hb'
  · omega

/-- A slice of the call's own, cut longer. -/
theorem AStep_reslice (hT : TOk P T) {wr : Bool} (hw : wantedA ops S o = some true) {x y : Operand} {t e : TypeId} (ho : o.op = .slice t x none (some y) none) {it ei : TI} (ht : look T t = some it) (hit : it.desc = .slice e) (he : look T e = some ei)
    {id len : Nat} (hx : rho S.sl x = some (.sl id ei.size 0 len)) {hi : Nat} (hy : rho S.sl y = some (.int .i64 hi)) {e' : TypeId} {xs : List AV} (hc : 0 < ei.size) (hob : S.hp[id]? = some (.arr e' ei.size xs)) (hle : hi ≤ xs.length) (h0 : 0 < len) (hd : dstOk nt o = true)
    (hR : R (S.putD o.dst (.sl id ei.size 0 hi))) : AStep P nt k wr ops o S R := fun C a w K Q hst hK => by
  unfold OpW
  rw [if_pos (hst.wanted hw)]
  obtain ⟨I, m, hws, hsl, hk, hE⟩ := hst
  have hut := hT.und ht
  rw [hit] at hut
  obtain ⟨ti, hti, tz, ts, tb⟩ := hT.info he
  have hyv := (rho_sound hsl hy).int_inv
  rcases (rho_sound hsl hx).sl_inv with ⟨b, cp, t2, hb, hn, hsh, hl, hmax, hse⟩ | ⟨hb, hn, _, hl0, hse⟩ | ⟨ad, hn, hlo, _, _⟩
  · rcases hws.obj id _ hob with ⟨e1, _⟩ | ⟨b', cp', vs, hb', hh, q1, q2, q3, q4, hr⟩
    · rw [hb] at e1; cases e1
    obtain rfl : b = b' := by rw [hb] at hb'; exact Option.some.inj hb'
    have hcp : cp' = cp := by
      have : w.shape? b = some (e', vs.size) := by simp [World.shape?, hh]
      rw [this] at hsh
      simp only [Option.some.injEq, Prod.mk.injEq, Nat.zero_add, q3] at hsh
      exact Nat.eq_of_mul_eq_mul_right hc hsh.2
    subst hcp
    have hrun : (execOp a.eval o).run P w = .ok (.value (.slice (some ⟨b, 0 * ei.size, none⟩) hi cp')) w := by
      have he' : P.elem t = e := by simp [Program.elem, hut]
      have hb2 := sliceBounds_run (P := P) true len cp' 0 hi none (some (.int .i64 hi)) (.inr ⟨.i64, rfl, by omega⟩) (.inl ⟨rfl, rfl⟩) w
      have h1 : (Instr.sliceAt t (.slice (some ⟨b, 0 * ei.size, none⟩) len cp') none (some (.int .i64 hi)) none).run P w = .ok (sliced (some ⟨b, 0 * ei.size, none⟩) 0 hi cp' ei.size) w := by
        rw [run_sliceAt_slice w t _ _ _ _ (by rw [he']; exact hut), run_slice_any w t (some ⟨b, 0 * ei.size, none⟩) len cp' (by rw [he']; exact hut), hb2, he', Result.andThen_ok, hT.size he, Result.andThen_ok]
      have h2 : sliced (some ⟨b, 0 * ei.size, none⟩) 0 hi cp' ei.size = .slice (some ⟨b, 0 * ei.size, none⟩) hi cp' := by
        unfold sliced
        rw [if_neg (by omega)]
        simp [Addr.add]
      rw [h2] at h1
      simp only [execOp, ho, hse, Option.map_none, Option.map_some, hyv]
      rw [Sem.run_bind, h1]
      rfl
    unfold wpA
    rw [hrun]
    exact hK _ _ w hR (St.value hsl hk hE hws (Fut.refl _ _ _ _) (Nat.le_refl _) (dstOk_spec hd) (.sl id ei.size 0 hi cp' b t2 hn hb hsh (by omega) hmax)) (fun _ => Held.refl w)
  · omega
  · omega
end
end Go.Abs
namespace Go.Abs
open Go Go.RowKit
section
variable {P : Program} [Env P] {T : TT} {nt k : Nat} {S : AS} {ops : Array Oper} {o : Oper} {R : AS → Prop} {Q : Exit → AS → Prop}

theorem run_append_make {w : World} (t tn ty e : TypeId) (i : TypeInfo) (z : Value) (kk kn : IntKind) (ht : P.underlying t = some (.slice e)) (htn : P.underlying tn = some (.int kn)) (hi : P.info? e = some i) (hz : i.zero = some z)
    (b : Addr) (sLen sCap : Nat) (olds : List Value) (hlo : olds.length = sLen * i.size) (holds : ∀ (j : Nat) (v : Value), olds[j]? = some v → w.cell? (b.add j) = some v)
    (n : Nat) (h0 : 0 < n) (hs : 0 < i.size) (hg : sCap < sLen + n) (h63 : ((sLen + n : Nat) : Int) ≤ 9223372036854775807) (h48 : n * i.bytes ≤ 281474976710656) (hfit : Builtin.nextslicecap (sLen + n) sCap * i.bytes ≤ 281474976710656) :
    (Builtin.append_ #[t, tn] ty #[.slice (some b) sLen sCap, .int kk n]).run P w =
      .ok (.slice (some ⟨w.heap.size, 0, none⟩) (sLen + n) (grownCap w (sLen + n) sCap e))
        (w.drew.alloc (.cells (olds.toArray ++ Builtin.zeroCells z.cells n ++ Builtin.zeroCells z.cells (grownCap w (sLen + n) sCap e - (sLen + n))) e)) := by
  have hn : n ≠ 0 := by omega
  have hw : IntKind.i64.wrap (n : Int) = n := by rw [IntKind.wrap_i64]; omega
  have hnn : ¬ (sLen + n ≤ sCap) := by omega
  have h63' : ¬ (9223372036854775807 < ((sLen : Int) + (n : Int))) := by omega
  have h48' : ¬ (281474976710656 < Builtin.nextslicecap (sLen + n) sCap * i.bytes) := by omega
  have h48i : ¬ (281474976710656 < (n : Int) * (i.bytes : Int)) := by
    rw [← Int.natCast_mul]
    omega
  have hneg : ¬ ((n : Int) < 0) := by omega
  have hns : ¬ (n * i.size = 0) := Nat.mul_ne_zero hn (by omega)
  have hfo := run_firstCells_some (P := P) w.drew i.size sLen b sLen sCap olds hlo (by simpa using holds)
  simp [Builtin.append_, run_underlying ht, run_underlying htn, sizeOf, typeInfo, zeroValue, hi, hz, asInt, asIntOf, hw, hn, hnn, hneg, hns, h63', h48', h48i, Question.forced, hfo, newRow, grownCap]

theorem flatMap_get (c : Nat) : ∀ (l : List AV), (∀ x ∈ l, x.cells.length = c) → (l.flatMap AV.cells).length = l.length * c ∧ ∀ (p j : Nat) (x : AV), l[p]? = some x → j < c → (l.flatMap AV.cells)[p * c + j]? = x.cells[j]?
  | [], _ => ⟨by simp, by simp⟩
  | a :: l, h => by
    obtain ⟨i1, i2⟩ := flatMap_get c l (fun y hy => h y (by simp [hy]))
    have ha := h a (by simp)
    refine ⟨by rw [List.flatMap_cons, List.length_append, i1, ha, List.length_cons, Nat.add_mul, Nat.one_mul, Nat.add_comm], fun p j x hp hj => ?_⟩
    rw [List.flatMap_cons, List.getElem?_append, ha]
    rcases p with _ | p
    · simp at hp; subst hp
      rw [if_pos (by omega)]; congr 1; omega
    · rw [Nat.add_mul, Nat.one_mul, if_neg (by generalize p * c = q; omega)]
      rw [← i2 p j x (by simpa using hp) hj]
      congr 1
      generalize p * c = q
      omega

/-- append(s, make([]T, n)...) that must grow: the object is a block of which all cells are known. -/
theorem AStep_appendMake (hT : TOk P T) (hw : wantedA ops S o = some true) {s x : Operand} {t tn e : TypeId} (ho : o.op = .call ⟨.builtin .append, #[s, x], #[t, tn]⟩) {it itn ei : TI} (ht : look T t = some it) (hit : it.desc = .slice e)
    (htn : look T tn = some itn) {kn : IntKind} (hitn : itn.desc = .int kn) (he : look T e = some ei) (hz : ei.zero.cells.size = ei.size) (hsz : 0 < ei.size) {id i n : Nat} (hs : rho S.sl s = some (.sl id ei.size 0 i)) (hx : rho S.sl x = some (.int .i64 n))
    {xs : List AV} (hob : S.hp[id]? = some (.vars (xs.flatMap AV.cells))) (hxs : ∀ x ∈ xs, x.cells.length = ei.size ∧ x.cells.all AV.pure = true) (hi : i ≤ xs.length) (hk : xs.length < i + n) (h0 : 0 < n) (hbound : (i + n) * ei.bytes ≤ 140737488355328) (hlen : i + n ≤ 9223372036854775807)
    (z : AV) (hzc : z.cells = ei.zeros) (hd : dstOk nt o = true)
    (hR : R (({ S with hp := S.hp ++ [.arr e ei.size (xs.take i ++ List.replicate n z)] } : AS).putD o.dst (.sl S.hp.length ei.size 0 (i + n)))) : AStep P nt k true ops o S R := fun C a w K Q hst hK => by
  unfold OpW
  rw [if_pos (hst.wanted hw)]
  obtain ⟨I, m, hws, hsl, hk', hE⟩ := hst
  obtain ⟨ti, hti, tz, ts, tb⟩ := hT.info he
  have hut := hT.und ht
  rw [hit] at hut
  have hutn := hT.und htn
  rw [hitn] at hutn
  have hxv := (rho_sound hsl hx).int_inv
  obtain ⟨f1, f2⟩ := flatMap_get ei.size xs (fun x hx => (hxs x hx).1)
  obtain ⟨b', t', vs, hb', hh, hl', hr⟩ := hws.obj id _ hob
  rw [f1] at hl'
  rcases (rho_sound hsl hs).sl_inv with ⟨b, cp, t2, hb, hn, hsh, hl, hmax, hse⟩ | ⟨hb, hn, _, _, hse⟩ | ⟨ad, hn, hlo, _, _⟩
  · obtain rfl : b = b' := by rw [hb] at hb'; exact Option.some.inj hb'
    have h1 : w.shape? b = some (t', vs.size) := by simp [World.shape?, hh]
    rw [h1] at hsh
    simp only [Option.some.injEq, Prod.mk.injEq, Nat.zero_add, hl'] at hsh
    have hcp : xs.length = cp := Nat.eq_of_mul_eq_mul_right hsz hsh.2
    subst hcp
    have hiv : i * ei.size ≤ vs.size := by rw [hl']; exact Nat.mul_le_mul_right _ hi
    have holds : ∀ (j : Nat) (v : Value), (vs.toList.take (i * ei.size))[j]? = some v → w.cell? ((⟨b, 0, none⟩ : Addr).add j) = some v := fun j v hj => by
      rw [Addr.add_lit, Nat.zero_add, cell_of_row w b j vs t' (0, 0) hh]
      rw [List.getElem?_take] at hj
      split at hj
      · simpa using hj
      · cases hj
    have hnb : n * ei.bytes ≤ (i + n) * ei.bytes := Nat.mul_le_mul_right _ (by omega)
    have hrun := run_append_make (P := P) (w := w) t tn o.type e ti ei.zero .i64 kn hut hutn hti tz ⟨b, 0, none⟩ i xs.length (vs.toList.take (i * ei.size)) (by rw [ts]; simp; omega) holds n h0 (by omega) (by omega) (by omega)
      (by rw [tb]; omega) (growslice_fits (by omega) (by rw [tb]; exact hbound))
    simp only [Nat.zero_mul] at hse
    have c1 := grownCap_ge w (i + n) xs.length e
    have c2 : grownCap w (i + n) xs.length e ≤ maxLen := grownCap_le_maxLen w _ xs.length e (by unfold maxLen; omega)
    have hl1 : (vs.toList.take (i * ei.size)).length = i * ei.size := by simp; omega
    have hzs : (Builtin.zeroCells ei.zero.cells n).size = n * ei.size := by rw [size_zeroCells, hz]
    generalize hcs : (vs.toList.take (i * ei.size)).toArray ++ Builtin.zeroCells ei.zero.cells n ++ Builtin.zeroCells ei.zero.cells (grownCap w (i + n) xs.length e - (i + n)) = cs at hrun
    have hcsz : cs.size = grownCap w (i + n) xs.length e * ei.size := by
      rw [← hcs]
      simp only [Array.size_append, List.size_toArray, hl1, size_zeroCells, hz, ← Nat.add_mul]
      congr 1; omega
    have hzl : z.cells.length = ei.size := by rw [hzc, TI.zeros, List.length_map, Array.length_toList]; exact hz
    have hmem : ∀ (p : Nat) (y : AV), (xs.take i ++ List.replicate n z)[p]? = some y → (p < i ∧ xs[p]? = some y) ∨ (i ≤ p ∧ p < i + n ∧ y = z) := fun p y hp => by
      have e1 : (xs.take i).length = i := by simp; omega
      rw [List.getElem?_append, e1] at hp
      split at hp
      · rw [List.getElem?_take, if_pos (by assumption)] at hp; exact .inl ⟨by assumption, hp⟩
      · rw [List.getElem?_replicate] at hp
        split at hp
        · exact .inr ⟨by omega, by omega, (Option.some.inj hp).symm⟩
        · cases hp
    have hbl : Below w.heap.size w (w.drew.alloc (.cells cs e)) := (Below.refl _ _).drew.alloc (Nat.le_refl _) _
    obtain ⟨g1, g2⟩ := hws.push hbl (some w.heap.size) (fun b e => by injection e with e; subst e; simp) (.arr e ei.size (xs.take i ++ List.replicate n z)) (fun m' hf hm => .inr ⟨w.heap.size, grownCap w (i + n) xs.length e, cs, rfl, heap_alloc_new w.drew _, by simp; omega, c2, hcsz,
      fun y hy => by
        obtain ⟨p, hp⟩ := List.mem_iff_getElem?.1 hy
        rcases hmem p y hp with ⟨_, h2⟩ | ⟨_, _, rfl⟩
        · exact (hxs y (List.mem_of_getElem? h2)).1
        · exact hzl, fun p y hp j v hv => by
        have hsplit : ∀ q, q < i * ei.size + n * ei.size → cs[q]? = if q < i * ei.size then vs[q]? else (Builtin.zeroCells ei.zero.cells n)[q - i * ei.size]? := fun q hq => by
          rw [← hcs, Array.getElem?_append_left (by simp only [Array.size_append, List.size_toArray, hl1, hzs]; omega), Array.getElem?_append]
          simp only [List.size_toArray, hl1]
          split
          · rename_i hlt
            rw [List.getElem?_toArray, List.getElem?_take, if_pos hlt]; simp
          · rfl
        rcases hmem p y hp with ⟨h1, h2⟩ | ⟨h1, h2, rfl⟩
        · have hyl := hxs y (List.mem_of_getElem? h2)
          have hj : j < ei.size := by have := (List.getElem?_eq_some_iff.1 hv).1; omega
          have hlt : p * ei.size + j < i * ei.size := by
            have : (p + 1) * ei.size ≤ i * ei.size := Nat.mul_le_mul_right _ h1
            rw [Nat.add_mul] at this; omega
          have h3 := f2 p j y h2 hj
          rw [hv] at h3
          rw [hsplit _ (by omega), if_pos hlt]
          have hvs : p * ei.size + j < vs.size := by omega
          refine ⟨vs[p * ei.size + j], by simp [hvs], ?_⟩
          have h4 := hr (p * ei.size + j) vs[p * ei.size + j] v (by simp [hvs]) h3
          exact (h4.toPure (List.all_eq_true.1 hyl.2 v (List.mem_of_getElem? hv))).mono hf.ext
        · have hj : j < ei.size := by have := (List.getElem?_eq_some_iff.1 hv).1; omega
          have hge : ¬ p * ei.size + j < i * ei.size := by
            have : i * ei.size ≤ p * ei.size := Nat.mul_le_mul_right _ h1
            omega
          have hq : p * ei.size + j - i * ei.size = (p - i) * ei.size + j := by
            have : p * ei.size = i * ei.size + (p - i) * ei.size := by rw [← Nat.add_mul]; congr 1; omega
            omega
          have hq2 : (p - i) * ei.size + j < n * ei.size := by
            have : (p - i + 1) * ei.size ≤ n * ei.size := Nat.mul_le_mul_right _ (by omega)
            rw [Nat.add_mul] at this; omega
          rw [hsplit _ (by omega), if_neg hge, hq]
          have hjz : j < ei.zero.cells.size := by omega
          refine ⟨ei.zero.cells[j], ?_, ?_⟩
          · rw [Array.getElem?_eq_getElem (by rw [hzs]; exact hq2)]
            simp only [Builtin.zeroCells, Array.getElem_map, Array.getElem_range, Option.some.injEq]
            rw [hz, Nat.add_comm, Nat.add_mul_mod_self_right, Nat.mod_eq_of_lt hj]
            exact getElem!_pos ei.zero.cells j hjz
          · have : v = zeroCell ei.zero.cells[j] := by
              rw [hzc, TI.zeros, List.getElem?_map] at hv
              have h5 : ei.zero.cells.toList[j]? = some ei.zero.cells[j] := by simp [hjz]
              rw [h5] at hv
              exact (Option.some.inj hv).symm
            rw [this]
            exact zeroCell_sound _⟩)
    unfold wpA
    have : (execOp a.eval o).run P w = .ok (.value (.slice (some ⟨w.heap.size, 0, none⟩) (i + n) (grownCap w (i + n) xs.length e))) (w.drew.alloc (.cells cs e)) := by simp [execOp, ho, resolve, invoke, builtin, hse, hxv, hrun]
    rw [this]
    refine hK _ _ _ hR (St.value hsl hk' hE g1 g2 (by simp) (dstOk_spec hd) ?_) (fun e => by cases e)
    have := VR.sl (w := w.drew.alloc (.cells cs e)) (I := I) (m := upd m S.hp.length (some w.heap.size)) (n := S.hp.length + 1) S.hp.length ei.size 0 (i + n) (grownCap w (i + n) xs.length e) w.heap.size e (by omega) (upd_same _ _ _)
      (by have := heap_alloc_new w.drew (.cells cs e); simp only [World.size_drew] at this; simp only [World.shape?, this, hcsz, Nat.zero_add]) c1 (by omega)
    simpa using this
  · rw [hb] at hb'; cases hb'
  · omega
end
end Go.Abs
namespace Go.Abs
open Go Go.RowKit
section
variable {P : Program} [Env P] {T : TT} {nt k : Nat} {S : AS} {ops : Array Oper} {o : Oper} {R : AS → Prop} {Q : Exit → AS → Prop}

/-- slices.overlaps of slices in two objects of the call's own. -/
theorem AStep_overlaps (hT : TOk P T) (hw : wantedA ops S o = some true) {f : FuncId} {fn : Func} {x y : Operand} {ts : Array TypeId} (ho : o.op = .call ⟨.value (.func f), #[x, y], ts⟩) {tS tR e : TypeId}
    (hf : P.funcs[f]? = some fn) (hname : (fn.name == "runtime.NumGoroutine") = false)
    (hrun : ∀ (vs : Array Value) (w : World), (callFunc f vs).run P w = ((Extern.SlicesOverlaps.overlaps #[tS, tS] #[tR] vs).run P w).andThen fun v w' => .ok (.value v) w')
    {it ei : TI} (ht : look T tS = some it) (hit : it.desc = .slice e) (he : look T e = some ei) {i j c lo lo' n n' : Nat} (hc : 0 < c)
    (hx : rho S.sl x = some (.sl i c lo n)) (hy : rho S.sl y = some (.sl j c lo' n')) {e1 e2 : TypeId} {xs ys : List AV} (hi : S.hp[i]? = some (.arr e1 c xs)) (hj : S.hp[j]? = some (.arr e2 c ys)) (hij : i ≠ j) (hn : 0 < n) (hn' : 0 < n') (hd : dstOk nt o = true)
    (hR : R (S.putD o.dst (.bool false))) : AStep P nt k true ops o S R := fun C a w K Q hst hK => by
  unfold OpW
  rw [if_pos (hst.wanted hw)]
  obtain ⟨I, m, hws, hsl, hk', hE⟩ := hst
  have hut := hT.und ht
  rw [hit] at hut
  rcases (rho_sound hsl hx).sl_inv with ⟨b, cp, t2, hb, _, hsh, hl, hmax, hse⟩ | ⟨_, _, _, h0, _⟩ | ⟨_, _, _, h0, _⟩
  · rcases (rho_sound hsl hy).sl_inv with ⟨b', cp', t2', hb', _, hsh', hl', hmax', hse'⟩ | ⟨_, _, _, h0, _⟩ | ⟨_, _, _, h0, _⟩
    · rcases hws.obj i _ hi with ⟨h1, _⟩ | ⟨q, cap, vs, hq, hh, p1, p2, p3, p4, p5⟩
      · rw [hb] at h1; cases h1
      obtain rfl : b = q := by rw [hb] at hq; exact Option.some.inj hq
      have hne : b ≠ b' := fun e => hij (hws.inj i j _ _ b hi hj rfl rfl hb (e ▸ hb'))
      have h2 := Go.Lib.run_overlaps_apart (P := P) w tS tR e hut ei.size (fun w => hT.size he w) ⟨b, lo * c, none⟩ ⟨b', lo' * c, none⟩ n cp n' cp' hne t2 t2' _ _ hsh hsh' (by
          have : 0 < (lo' + cp') * c := Nat.mul_pos (by omega) hc
          omega) (by simp [World.frozen?, hh]) (by simp [World.frozen?, hh])
      unfold wpA
      have : (execOp a.eval o).run P w = .ok (.value (.bool false)) w := by
        have h3 := hrun #[.slice (some ⟨b, lo * c, none⟩) n cp, .slice (some ⟨b', lo' * c, none⟩) n' cp'] w
        rw [h2] at h3
        have hfe : a.eval (.func f) = .func (.func f) #[] #[] := rfl
        simp [execOp, ho, resolve, hfe, Deferred.ofValue, invoke, hse, hse', h3]
      rw [this]
      exact hK _ _ w hR (St.value hsl hk' hE hws (Fut.refl _ _ _ _) (Nat.le_refl _) (dstOk_spec hd) (.pure (.bool _))) (fun e => by cases e)
    · omega
    · omega
  · omega
  · omega
end
end Go.Abs
namespace Go.Abs
open Go Go.RowKit
section
variable {P : Program} [Env P] {T : TT} {nt k : Nat} {S : AS} {ops : Array Oper} {o : Oper} {R : AS → Prop} {Q : Exit → AS → Prop}

/-- A block of which all cells are known is read as a row of elements again. -/
theorem AWP_unfull {cd : Code} {sl : List (Nat × AV)} {H : List AObj} (id c : Nat) {xs : List AV} (hob : H[id]? = some (.vars (xs.flatMap AV.cells))) (hxs : ∀ x ∈ xs, x.cells.length = c ∧ x.cells.all AV.pure = true) (hlen : xs.length ≤ 9223372036854775807)
    (h : ∀ e, AWP P nt k cd Q ⟨sl, H.set id (.arr e c xs)⟩) : AWP P nt k cd Q ⟨sl, H⟩ := fun C a w ⟨I, m, hw, hs, hk, hf⟩ => by
  obtain ⟨b, t, vs, hb, hh, hl, hr⟩ := hw.obj id _ hob
  obtain ⟨f1, f2⟩ := flatMap_get c xs (fun x hx => (hxs x hx).1)
  obtain ⟨g1, g2⟩ := hw.set (o' := .arr t c xs) hob rfl hb (World.grownBy.refl _ _) (fun _ h => h) (fun m' hf' => .inr ⟨b, xs.length, vs, rfl, hh, Nat.le_refl _, by unfold maxLen; omega, by rw [hl, f1], fun x hx => (hxs x hx).1, fun i x hx j y hy => by
    have hxl := hxs x (List.mem_of_getElem? hx)
    have hj : j < c := by have := (List.getElem?_eq_some_iff.1 hy).1; omega
    have h3 := f2 i j x hx hj
    rw [hy] at h3
    have hlt : i * c + j < vs.size := by rw [hl]; exact (List.getElem?_eq_some_iff.1 h3).1
    exact ⟨vs[i * c + j], by simp [hlt], ((hr _ vs[i * c + j] y (by simp [hlt]) h3).toPure (List.all_eq_true.1 hxl.2 y (List.mem_of_getElem? hy))).mono hf'.ext⟩⟩)
  exact h t C a w ⟨I, m, g1, ⟨hs.1, hs.2.1, fun t x hx => by simpa using hs.2.2 t x hx⟩, by simpa using hk, hf⟩
end
end Go.Abs
namespace Go.Abs
open Go Go.RowKit
section
variable {P : Program} [Env P] {T : TT} {nt k : Nat} {S : AS} {ops : Array Oper} {o : Oper} {R : AS → Prop}

@[simp] theorem valA_slice3 (T : TT) (S : AS) (g : Bool) (t : TypeId) (x : Operand) (lo hi : Option Operand) (mx : Operand) : valA T S g (.slice t x lo hi (some mx)) = none := rfl

end
end Go.Abs
namespace Go.Abs
open Go Go.RowKit

/-- The object i is read as data. -/
def AV.fv (i : Nat) (xs : List AV) : AV → AV
  | .agg cs => .agg (cs.attach.map fun ⟨x, _⟩ => x.fv i xs)
  | .tup cs => .tup (cs.attach.map fun ⟨x, _⟩ => x.fv i xs)
  | .fn f ys zs => .fn f (ys.attach.map fun ⟨x, _⟩ => x.fv i xs) (zs.attach.map fun ⟨x, _⟩ => x.fv i xs)
  | .vptr id off => if id = i then .iptr (xs.drop off) else .vptr id off
  | .opt p x => .opt p (x.fv i xs)
  | x => x
section
variable (i : Nat) (xs : List AV)
theorem fv_agg (cs : List AV) : (AV.agg cs).fv i xs = .agg (cs.map (AV.fv i xs)) := by rw [AV.fv]; simp
theorem fv_tup (cs : List AV) : (AV.tup cs).fv i xs = .tup (cs.map (AV.fv i xs)) := by rw [AV.fv]; simp
theorem fv_fn (f : Fn) (ys zs : List AV) : (AV.fn f ys zs).fv i xs = .fn f (ys.map (AV.fv i xs)) (zs.map (AV.fv i xs)) := by rw [AV.fv]; simp
theorem fv_bool (b : Bool) : (AV.bool b).fv i xs = .bool b := by simp [AV.fv]
theorem fv_int (k : IntKind) (n : Int) : (AV.int k n).fv i xs = .int k n := by simp [AV.fv]
theorem fv_str (x : List UInt8) : (AV.str x).fv i xs = .str x := by simp [AV.fv]
theorem fv_list (x : List AV) : (AV.list x).fv i xs = .list x := by simp [AV.fv]
theorem fv_iptr (x : List AV) : (AV.iptr x).fv i xs = .iptr x := by simp [AV.fv]
theorem fv_nils : (AV.nils).fv i xs = .nils := by simp [AV.fv]
theorem fv_nilp : (AV.nilp).fv i xs = .nilp := by simp [AV.fv]
theorem fv_nilf : (AV.nilf).fv i xs = .nilf := by simp [AV.fv]
theorem fv_nili : (AV.nili).fv i xs = .nili := by simp [AV.fv]
theorem fv_ifc : (AV.ifc).fv i xs = .ifc := by simp [AV.fv]
theorem fv_top : (AV.top).fv i xs = .top := by simp [AV.fv]
theorem fv_sl (a b d e : Nat) : (AV.sl a b d e).fv i xs = .sl a b d e := by simp [AV.fv]
theorem fv_ept (a b d e : Nat) : (AV.ept a b d e).fv i xs = .ept a b d e := by simp [AV.fv]
theorem fv_mref (a : Nat) : (AV.mref a).fv i xs = .mref a := by simp [AV.fv]
theorem fv_yld (a : Nat) : (AV.yld a).fv i xs = .yld a := by simp [AV.fv]
theorem fv_vptr (id off : Nat) : (AV.vptr id off).fv i xs = if id = i then .iptr (xs.drop off) else .vptr id off := by rw [AV.fv]
theorem fv_opt (p : Bool) (x : AV) : (AV.opt p x).fv i xs = .opt p (x.fv i xs) := by simp [AV.fv]
end
def AObj.fv (i : Nat) (xs : List AV) : AObj → AObj
  | .vars cs => .vars (cs.map (AV.fv i xs))
  | .arr e c' ys => .arr e c' ys
  | .dead => .dead
  | .tag id t => .tag id t
  | .lp rdy pend nt sl ps asg body => .lp rdy pend nt (sl.map fun p => (p.1, p.2.fv i xs)) ps asg body
  | .mp kvs => .mp kvs

theorem fv_pure {w : World} {I : Nat → Prop} {v : Value} {x : AV} (i : Nat) (xs : List AV) (h : PVR w I v x) : x.fv i xs = x := by
  have key : ∀ (vs : Array Value) (cs : List AV), vs.size = cs.length → (∀ (k : Nat) (v : Value) (x : AV), vs[k]? = some v → cs[k]? = some x → x.fv i xs = x) → cs.map (AV.fv i xs) = cs := fun vs cs hl ih => by
    refine List.ext_getElem? fun k => ?_
    rw [List.getElem?_map]
    cases hx : cs[k]? with
    | none => rfl
    | some x =>
      have hk : k < vs.size := by rw [hl]; exact (List.getElem?_eq_some_iff.1 hx).1
      rw [Option.map_some, ih k vs[k] x (by simp [hk]) hx]
  induction h with
  | agg vs cs hl h ih => rw [fv_agg, key vs cs hl ih]
  | tup vs cs hl h ih => rw [fv_tup, key vs cs hl ih]
  | fn f vs us ys zs hl h hl' h' ih ih' => rw [fv_fn, key vs ys hl ih, key us zs hl' ih']
  | _ => simp [AV.fv]

theorem allSome_snap0 {H : List AObj} {xs ys : List AV} (h : allSome (xs.map (snap0 [])) = some ys) : allSome (xs.map (snap0 H)) = some ys := by
  induction xs generalizing ys with
  | nil => exact h
  | cons x xs ih =>
    simp only [List.map_cons] at h ⊢
    cases hx : snap0 [] x with
    | none => rw [hx] at h; cases h
    | some y =>
      rw [hx] at h
      have : snap0 H x = some y := by
        cases x <;> first | exact hx | (simp [snap0] at hx)
      rw [this]
      simp only [allSome] at h ⊢
      obtain ⟨zs, hz, rfl⟩ := Option.map_eq_some_iff.1 h
      rw [ih hz]; rfl

section
variable {P : Program} [Env P] {nt k : Nat} {Q : Exit → AS → Prop} {W0 w : World} {I0 I : Nat → Prop} {m : Nat → Option Nat} {H : List AObj}

theorem VR.fv (hw : WS W0 I0 w I m H) {i : Nat} {xs ys : List AV} (hys : allSome (xs.map (snap0 [])) = some ys) (hi : H[i]? = some (.vars xs)) {v : Value} {x : AV} (h : VR w I m H.length v x) :
    VR w (fun b => I b ∨ m i = some b) m H.length v (x.fv i ys) := by
  have hext : Ext w w I (fun b => I b ∨ m i = some b) := ⟨fun _ h => .inl h, fun _ _ => rfl⟩
  have hil : i < H.length := (List.getElem?_eq_some_iff.1 hi).1
  -- the other objects set aside
  have hget : ∀ (id : Nat) (o : AObj), ((List.replicate H.length AObj.dead).set i (.vars xs))[id]? = some o → (id = i ∧ o = .vars xs) ∨ o = .dead := fun id o ho => by
    by_cases hid : id = i
    · subst hid
      rw [List.getElem?_set_self (by simpa using hil)] at ho
      exact .inl ⟨rfl, (Option.some.inj ho).symm⟩
    · rw [List.getElem?_set_ne (by omega), List.getElem?_replicate] at ho
      split at ho
      · exact .inr (Option.some.inj ho).symm
      · cases ho
  have hw1 : WS W0 I0 w I m ((List.replicate H.length AObj.dead).set i (.vars xs)) := by
    refine ⟨hw.below, hw.i0, hw.iw, fun id o ho => ?_, fun id o b ho hl hm => ?_, fun a b oa ob d ha hb la lb ma mb => ?_⟩
    · rcases hget id o ho with ⟨rfl, rfl⟩ | rfl
      · have := hw.obj _ _ hi; simpa using this
      · trivial
    · rcases hget id o ho with ⟨rfl, rfl⟩ | rfl
      · exact hw.own _ _ b hi rfl hm
      · cases hl
    · rcases hget a oa ha with ⟨rfl, rfl⟩ | rfl
      · rcases hget b ob hb with ⟨rfl, rfl⟩ | rfl
        · rfl
        · cases lb
      · cases la
  have hall : ∀ b, IAll I m ((List.replicate H.length AObj.dead).set i (.vars xs)) b → I b ∨ m i = some b := fun b hb => by
    rcases hb with hb | ⟨id, o, ho, hl, hm⟩
    · exact .inl hb
    · rcases hget id o ho with ⟨rfl, rfl⟩ | rfl
      · exact .inr hm
      · cases hl
  induction h with
  | pure h => rw [fv_pure i ys h]; exact .pure (h.mono hext)
  | agg vs cs hl h ih =>
    rw [fv_agg]
    refine .agg vs _ (by simpa using hl) fun j v x hv hx => ?_
    rw [List.getElem?_map] at hx
    obtain ⟨y, hy, rfl⟩ := Option.map_eq_some_iff.1 hx
    exact ih j v y hv hy
  | tup vs cs hl h ih =>
    rw [fv_tup]
    refine .tup vs _ (by simpa using hl) fun j v x hv hx => ?_
    rw [List.getElem?_map] at hx
    obtain ⟨y, hy, rfl⟩ := Option.map_eq_some_iff.1 hx
    exact ih j v y hv hy
  | fn f vs us ps qs hl h hl' h' ih ih' =>
    rw [fv_fn]
    refine .fn f vs us _ _ (by simpa using hl) (fun j v x hv hx => ?_) (by simpa using hl') (fun j v x hv hx => ?_)
    · rw [List.getElem?_map] at hx
      obtain ⟨y, hy, rfl⟩ := Option.map_eq_some_iff.1 hx
      exact ih j v y hv hy
    · rw [List.getElem?_map] at hx
      obtain ⟨y, hy, rfl⟩ := Option.map_eq_some_iff.1 hx
      exact ih' j v y hv hy
  | vptr id off b hn hb =>
    rw [fv_vptr]
    have hv : VR w I m H.length _ _ := .vptr id off b hn hb
    split
    · rename_i hc
      subst hc
      have := snap1_sound hw1 (by simpa using hv) (y := .iptr (ys.drop off)) (by
        simp only [snap1, List.getElem?_set_self (show id < (List.replicate H.length AObj.dead).length by simpa using hil)]
        rw [allSome_snap0 hys]; rfl)
      exact .pure (this.mono ⟨hall, fun _ _ => rfl⟩)
    · exact .vptr id off b hn hb
  | ept id c' j off b hn hb => rw [fv_ept]; exact .ept id c' j off b hn hb
  | yld id b hn hb => rw [fv_yld]; exact .yld id b hn hb
  | mref id b hn hb => rw [fv_mref]; exact .mref id b hn hb
  | opt p x h1 h2 ih => rw [fv_opt]; exact .opt p _ ih h2
  | sl id c' lo len cap b t hn hb hs hl hmax => rw [fv_sl]; exact .sl id c' lo len cap b t hn hb hs hl hmax
  | slnone id c' hn hb => rw [fv_sl]; exact .slnone id c' hn hb
  | slend id c' lo a hn hlo => rw [fv_sl]; exact .slend id c' lo a hn hlo

theorem look_fv {i : Nat} {ys : List AV} {t : Nat} {x : AV} : ∀ {sl : List (Nat × AV)}, look (sl.map fun p => (p.1, p.2.fv i ys)) t = some x → ∃ y, look sl t = some y ∧ x = y.fv i ys
  | [], hx => by cases hx
  | (t', y) :: r, hx => by
    simp only [List.map_cons, look] at hx ⊢
    split
    · rename_i e; subst e; simp at hx; exact ⟨y, rfl, hx.symm⟩
    · rename_i e; rw [if_neg e] at hx; exact look_fv hx

/-- The object i is given up, to be read as data for good. -/

theorem ObjR.fv (hw : WS W0 I0 w I m H) {i : Nat} {xs ys : List AV} (hys : allSome (xs.map (snap0 [])) = some ys) (hi : H[i]? = some (.vars xs)) {b? : Option Nat} {o : AObj} (h : ObjR w I m H.length b? o) :
    ObjR w (fun b => I b ∨ m i = some b) m H.length b? (o.fv i ys) := by
  have hext : Ext w w I (fun b => I b ∨ m i = some b) := ⟨fun _ h => .inl h, fun _ _ => rfl⟩
  cases o with
  | vars cs =>
    obtain ⟨b, t, vs, e1, hh, hl, hr⟩ := h
    refine ⟨b, t, vs, e1, hh, by simpa using hl, fun j v x hv hx => ?_⟩
    rw [List.getElem?_map] at hx
    obtain ⟨y, hy, rfl⟩ := Option.map_eq_some_iff.1 hx
    exact (hr j v y hv hy).fv hw hys hi
  | arr e' c' zs =>
    rcases h with h | ⟨b, cap, vs, e1, hh, h1, h2, h3, h4, hr⟩
    · exact .inl h
    · exact .inr ⟨b, cap, vs, e1, hh, h1, h2, h3, h4, fun i x hx j y hy => by obtain ⟨v, hv, hp⟩ := hr i x hx j y hy; exact ⟨v, hv, hp.mono hext⟩⟩
  | dead => trivial
  | tag j t => exact h
  | lp rdy pend nt sl ps asg body =>
    obtain ⟨b, r, e1, hh, q1, q2, q3, q4, q5, q6, q7⟩ := h
    refine ⟨b, r, e1, hh, q1, q2, q3, q4, q5, q6, fun t x hx => ?_⟩
    obtain ⟨y, hy, rfl⟩ := look_fv hx
    obtain ⟨v, hv, hr⟩ := q7 t y hy
    exact ⟨v, hv, hr.fv hw hys hi⟩
  | mp kvs =>
    obtain ⟨b, es, ck, e1, hh, hl, hr⟩ := h
    exact ⟨b, es, ck, e1, hh, hl, fun i x p a d => ⟨(hr i x p a d).1.mono hext, (hr i x p a d).2.mono hext⟩⟩

theorem St.freezeV {C : Cx P} {a : Act} {w : World} {sl : List (Nat × AV)} {H : List AObj} (hs : St C nt k ⟨sl, H⟩ a w) (i : Nat) {xs ys : List AV} (hys : allSome (xs.map (snap0 [])) = some ys) (hi : H[i]? = some (.vars xs)) :
    St C nt k ⟨sl.map fun p => (p.1, p.2.fv i ys), (H.set i .dead).map (AObj.fv i ys)⟩ a w := by
  obtain ⟨I, m, hw, hsl, hk, hf⟩ := hs
  have hext : Ext w w I (fun b => I b ∨ m i = some b) := ⟨fun _ h => .inl h, fun _ _ => rfl⟩
  have hlen : ((H.set i .dead).map (AObj.fv i ys)).length = H.length := by simp
  have hcase : ∀ (id : Nat) (o : AObj), ((H.set i .dead).map (AObj.fv i ys))[id]? = some o → o.live = true → id ≠ i ∧ ∃ o', H[id]? = some o' ∧ o = o'.fv i ys ∧ o'.live = true := fun id o ho hl => by
    rw [List.getElem?_map] at ho
    obtain ⟨o', ho', rfl⟩ := Option.map_eq_some_iff.1 ho
    by_cases hid : id = i
    · subst hid
      rw [List.getElem?_set_self (List.getElem?_eq_some_iff.1 hi).1] at ho'
      cases ho'
      simp [AObj.fv, AObj.live] at hl
    · rw [List.getElem?_set_ne (by omega)] at ho'
      exact ⟨hid, o', ho', rfl, by cases o' <;> exact hl⟩
  refine ⟨fun b => I b ∨ m i = some b, m, ⟨hw.below, fun b hb => .inl (hw.i0 b hb), fun b hb => ?_, fun id o ho => ?_, fun id o b ho hl hm => ?_, fun a b oa ob d ha hb la lb ma mb => ?_⟩, ⟨hsl.1, hsl.2.1, fun t x hx => ?_⟩, by rw [hlen]; exact hk, hf.trans hk ⟨hext, fun _ _ => rfl, fun _ _ h => h⟩⟩
  · rcases hb with hb | hb
    · exact hw.iw b hb
    · have := hw.own i _ b hi rfl hb
      exact ⟨this.2.2, .inr this.1⟩
  · rw [hlen]
    by_cases hl : o.live = true
    · obtain ⟨_, o', ho', rfl, _⟩ := hcase id o ho hl
      exact (hw.obj id o' ho').fv hw hys hi
    · rw [List.getElem?_map] at ho
      obtain ⟨o', ho', rfl⟩ := Option.map_eq_some_iff.1 ho
      by_cases hid : id = i
      · subst hid
        rw [List.getElem?_set_self (List.getElem?_eq_some_iff.1 hi).1] at ho'
        cases ho'
        trivial
      · rw [List.getElem?_set_ne (by omega)] at ho'
        cases o' with
        | vars cs => exact absurd rfl hl
        | arr e c xs => exact absurd rfl hl
        | dead => trivial
        | tag j t => exact hw.obj id _ ho'
        | lp rdy pend nt sl ps asg body => exact absurd rfl hl
        | mp kvs => exact absurd rfl hl
  · obtain ⟨hne, o', ho', rfl, hl'⟩ := hcase id o ho hl
    have h1 := hw.own id o' b ho' hl' hm
    refine ⟨h1.1, fun hc => ?_, h1.2.2⟩
    rcases hc with hc | hc
    · exact h1.2.1 hc
    · exact hne (hw.inj id i o' _ b ho' hi hl' rfl hm hc)
  · obtain ⟨_, oa', ha', _, la'⟩ := hcase a oa ha la
    obtain ⟨_, ob', hb', _, lb'⟩ := hcase b ob hb lb
    exact hw.inj a b oa' ob' d ha' hb' la' lb' ma mb
  · rw [hlen]
    have := look_fv hx
    obtain ⟨y, hy, rfl⟩ := this
    obtain ⟨v, hv, hr⟩ := hsl.2.2 t y hy
    exact ⟨v, hv, hr.fv hw hys hi⟩

theorem AStep_freezeV {wr : Bool} {ops : Array Oper} {o : Oper} {R : AS → Prop} {sl : List (Nat × AV)} {H : List AObj} (i : Nat) {xs ys : List AV} (hys : allSome (xs.map (snap0 [])) = some ys) (hi : H[i]? = some (.vars xs)) (h : AStep P nt k wr ops o ⟨sl.map fun p => (p.1, p.2.fv i ys), (H.set i .dead).map (AObj.fv i ys)⟩ R) : AStep P nt k wr ops o ⟨sl, H⟩ R :=
  fun C a w K Q hs => h C a w K Q (hs.freezeV i hys hi)
end
attribute [simp] fv_mref fv_yld fv_agg fv_tup fv_fn fv_bool fv_int fv_str fv_list fv_iptr fv_nils fv_nilp fv_nilf fv_nili fv_ifc fv_top fv_vptr fv_ept fv_sl fv_opt AObj.fv
end Go.Abs
/- From a reading of the arguments to abstract values; from a function's contract to what a row asks. -/
namespace Go.Abs
open Go Go.RowKit Go.ChangeShapes Go.WideShapes
section
variable {H : Type} {enc : TypeId × Value → H} {P : Program} [Env P] {T : TT} {W : World}

theorem TOk.cellsOf (hT : TOk P T) {t : TypeId} {i : TI} (h : look T t = some i) : P.cellsOf t = i.size := by
  obtain ⟨j, hj, _, hs, _⟩ := TOk.info hT h
  simp [Program.cellsOf, hj, hs]
theorem TOk.bytesOf (hT : TOk P T) {t : TypeId} {i : TI} (h : look T t = some i) : P.bytesOf t = i.bytes := by
  obtain ⟨j, hj, _, _, hs⟩ := TOk.info hT h
  simp [Program.bytesOf, hj, hs]

/-- The cells of a value of a type, read as data. -/
def mkAV (i : TI) (zs : List AV) : AV := if i.agg then .agg zs else zs.headD .top

/-- A row of fields, one behind the other. -/
def ShpF (R : TypeId → List AV → Prop) : List TypeId → List AV → Prop
  | [], ys => ys = []
  | t :: ts, ys => ∃ zs rest, ys = zs ++ rest ∧ R t zs ∧ ShpF R ts rest
def ShpN (R : List AV → Prop) : Nat → List AV → Prop
  | 0, ys => ys = []
  | n + 1, ys => ∃ zs rest, ys = zs ++ rest ∧ R zs ∧ ShpN R n rest

def ShpI (T : TT) (R : TypeId → List AV → Prop) (i : TI) (ys : List AV) : Prop := match i.desc with
  | .bool => ∃ b, ys = [.bool b]
  | .int k => ∃ n, ys = [.int k n] ∧ k.min ≤ n ∧ n ≤ k.max
  | .string => ∃ s : List UInt8, ys = [.str s] ∧ s.length ≤ reachBytes
  | .slice e => ∃ ei xs, look T e = some ei ∧ ys = [.list xs] ∧ xs.length * ei.bytes ≤ reachBytes ∧ ∀ x ∈ xs, ∃ zs, x = mkAV ei zs ∧ R e zs
  | .struct fs => ShpF R (fs.toList.map (·.type)) ys
  | .array n e => ShpN (R e) n ys
  | _ => False

/-- What a value of a type reads as. -/
def Shp (T : TT) : Nat → TypeId → List AV → Prop
  | 0, _, _ => False
  | d + 1, t, ys => match look T t with
    | some i => ShpI T (Shp T d) i ys
    | none => False

/-- The fields stand one behind the other. -/
def contig (T : TT) : List Field → Nat → Nat → Bool
  | [], off, size => off == size
  | f :: fs, off, size => f.offset == off && (match look T f.type with
    | some i => contig T fs (off + i.size) size
    | none => false)

/-- Types of plain data, no pointers. -/
def simpleT (T : TT) : Nat → TypeId → Bool
  | 0, _ => false
  | d + 1, t => match look T t with
    | some i => match i.desc with
      | .bool | .int _ | .string => i.size == 1
      | .slice e => i.size == 1 && simpleT T d e && (match look T e with
        | some ei => (ei.agg || ei.size == 1) && decide (0 < ei.size)
        | none => false)
      | .struct fs => contig T fs.toList 0 i.size && fs.toList.all fun f => simpleT T d f.type
      | .array n e => simpleT T d e && (match look T e with
        | some ei => i.size == n * ei.size
        | none => false)
      | _ => false
    | none => false

def CellsR (W : World) (cs : List Value) (ys : List AV) : Prop := cs.length = ys.length ∧ ∀ (j : Nat) (v : Value) (y : AV), cs[j]? = some v → ys[j]? = some y → PVR W (· < W.heap.size) v y

theorem CellsR.one {v : Value} {y : AV} (h : PVR W (· < W.heap.size) v y) : CellsR W [v] [y] := by
  refine ⟨rfl, fun j u z hu hz => ?_⟩
  rcases j with _ | j
  · simp only [List.getElem?_cons_zero, Option.some.injEq] at hu hz; subst hu; subst hz; exact h
  · simp at hu
theorem CellsR.app {cs cs' : List Value} {ys ys' : List AV} (h : CellsR W cs ys) (h' : CellsR W cs' ys') : CellsR W (cs ++ cs') (ys ++ ys') := by
  refine ⟨by simp [h.1, h'.1], fun j u z hu hz => ?_⟩
  rw [List.getElem?_append] at hu hz
  rw [h.1] at hu
  split at hu
  · rename_i hj; rw [if_pos hj] at hz; exact h.2 j u z hu hz
  · rename_i hj; rw [if_neg hj] at hz; exact h'.2 _ u z hu hz

theorem mapM_cons_some {α β : Type} {f : α → Option β} {a : α} {l : List α} {r : List β} (h : (a :: l).mapM f = some r) : ∃ b bs, f a = some b ∧ l.mapM f = some bs ∧ r = b :: bs := by
  rw [List.mapM_cons] at h
  simp only [Option.pure_def, Option.bind_eq_bind, Option.bind_eq_some_iff, Option.some.injEq] at h
  obtain ⟨b, hb, bs, hbs, rfl⟩ := h
  exact ⟨b, bs, hb, hbs, rfl⟩

/-- What one reading of cells gives. -/
def Goal (enc : TypeId × Value → H) (P : Program) (T : TT) (W : World) (d : Nat) (t : TypeId) : Prop := ∀ (fuel : Nat) (cs : List Value) (x : DataW H × List MemPlace),
  DataW.trod enc P W 0 (fun _ => true) true fuel t cs = some x → (∀ n ∈ x.1.weights P t, n ≤ reachBytes) → ∃ ys, Shp T d t ys ∧ CellsR W cs ys

theorem fields_read (hT : TOk P T) {d : Nat} : ∀ (fs : List Field) (off size : Nat) (cs : List Value), contig T fs off size = true → cs.length = size → (∀ f ∈ fs, Goal enc P T W d f.type) → ∀ (fuel : Nat) (xs : List (DataW H × List MemPlace)),
    (fs.mapM fun f => DataW.trod enc P W 0 (fun _ => true) true fuel f.type ((cs.drop f.offset).take (P.cellsOf f.type))) = some xs → (∀ n ∈ DataW.weightsEach P (fs.map (·.type)) (xs.map (·.1)), n ≤ reachBytes) →
    ∃ ys, ShpF (Shp T d) (fs.map (·.type)) ys ∧ CellsR W (cs.drop off) ys
  | [], off, size, cs, hc, hl, _, fuel, xs, h, _ => by
    simp only [contig, beq_iff_eq] at hc
    refine ⟨[], rfl, ?_⟩
    rw [List.drop_eq_nil_of_le (by omega)]
    exact ⟨rfl, by simp⟩
  | f :: fs, off, size, cs, hc, hl, hg, fuel, xs, h, hw => by
    simp only [contig, Bool.and_eq_true, beq_iff_eq] at hc
    obtain ⟨hoff, hc⟩ := hc
    split at hc
    · rename_i i hi
      obtain ⟨b, bs, hb, hbs, rfl⟩ := mapM_cons_some h
      simp only [List.map_cons, DataW.weightsEach, List.mem_append] at hw
      have hsz : P.cellsOf f.type = i.size := TOk.cellsOf hT hi
      rw [hoff, hsz] at hb
      obtain ⟨zs, hz1, hz2⟩ := hg f (by simp) fuel _ b hb (fun n hn => hw n (.inl hn))
      obtain ⟨rest, hr1, hr2⟩ := fields_read hT fs (off + i.size) size cs hc hl (fun g hgm => hg g (by simp [hgm])) fuel bs hbs (fun n hn => hw n (.inr hn))
      refine ⟨zs ++ rest, ⟨zs, rest, rfl, hz1, hr1⟩, ?_⟩
      have : cs.drop off = (cs.drop off).take i.size ++ cs.drop (off + i.size) := by
        rw [← List.drop_drop, List.take_append_drop]
      rw [this]
      exact hz2.app hr2
    · cases hc

theorem elems_read {d : Nat} {e : TypeId} {c : Nat} (hg : Goal enc P T W d e) : ∀ (n s : Nat) (cs : List Value), cs.length = (s + n) * c → ∀ (fuel : Nat) (xs : List (DataW H × List MemPlace)),
    ((List.range' s n).mapM fun i => DataW.trod enc P W 0 (fun _ => true) true fuel e ((cs.drop (i * c)).take c)) = some xs → (∀ k ∈ DataW.weightsAll P e (xs.map (·.1)), k ≤ reachBytes) →
    ∃ ys, ShpN (Shp T d e) n ys ∧ CellsR W (cs.drop (s * c)) ys
  | 0, s, cs, hl, fuel, xs, h, _ => by
    refine ⟨[], rfl, ?_⟩
    rw [List.drop_eq_nil_of_le (by rw [hl]; simp)]
    exact ⟨rfl, by simp⟩
  | n + 1, s, cs, hl, fuel, xs, h, hw => by
    rw [List.range'_succ] at h
    obtain ⟨b, bs, hb, hbs, rfl⟩ := mapM_cons_some h
    simp only [List.map_cons, DataW.weightsAll, List.mem_append] at hw
    obtain ⟨zs, hz1, hz2⟩ := hg fuel _ b hb (fun k hk => hw k (.inl hk))
    obtain ⟨rest, hr1, hr2⟩ := elems_read hg n (s + 1) cs (by rw [hl]; congr 1; omega) fuel bs hbs (fun k hk => hw k (.inr hk))
    refine ⟨zs ++ rest, ⟨zs, rest, rfl, hz1, hr1⟩, ?_⟩
    have : cs.drop (s * c) = (cs.drop (s * c)).take c ++ cs.drop ((s + 1) * c) := by
      rw [Nat.add_mul, Nat.one_mul, ← List.drop_drop, List.take_append_drop]
    rw [this]
    exact hz2.app hr2

theorem slice_read {d : Nat} {e : TypeId} {c : Nat} (hg : Goal enc P T W d e) {a : Addr} (fuel : Nat) : ∀ (n s : Nat) (xs : List (DataW H × List MemPlace)),
    ((List.range' s n).mapM fun i => (W.cells? 0 (a.add (i * c)) c).bind (DataW.trod enc P W 0 (fun _ => true) true fuel e)) = some xs → (∀ k ∈ DataW.weightsAll P e (xs.map (·.1)), k ≤ reachBytes) →
    ∃ yss : List (List AV), yss.length = n ∧ (∀ ys ∈ yss, Shp T d e ys ∧ ys.length = c) ∧ ∀ i ys, yss[i]? = some ys → ∃ cs, W.cells? 0 (a.add ((s + i) * c)) c = some cs ∧ CellsR W cs ys
  | 0, s, xs, h, _ => ⟨[], rfl, by simp, by simp⟩
  | n + 1, s, xs, h, hw => by
    rw [List.range'_succ] at h
    obtain ⟨b, bs, hb, hbs, rfl⟩ := mapM_cons_some h
    simp only [List.map_cons, DataW.weightsAll, List.mem_append] at hw
    obtain ⟨cs, hcs, hb⟩ := Option.bind_eq_some_iff.1 hb
    obtain ⟨zs, hz1, hz2⟩ := hg fuel _ b hb (fun k hk => hw k (.inl hk))
    obtain ⟨yss, h1, h2, h3⟩ := slice_read hg fuel n (s + 1) bs hbs (fun k hk => hw k (.inr hk))
    have hcl := (World.cells?_some hcs).2.1
    refine ⟨zs :: yss, by simp [h1], fun ys hys => ?_, fun i ys hi => ?_⟩
    · rcases List.mem_cons.1 hys with rfl | hys
      · exact ⟨hz1, by rw [← hz2.1, hcl]⟩
      · exact h2 ys hys
    · rcases i with _ | i
      · simp only [List.getElem?_cons_zero, Option.some.injEq] at hi; subst hi
        exact ⟨cs, by simpa using hcs, hz2⟩
      · obtain ⟨cs', h4, h5⟩ := h3 i ys (by simpa using hi)
        exact ⟨cs', by rw [show s + (i + 1) = s + 1 + i by omega]; exact h4, h5⟩

theorem cell_lt {a : Addr} {v : Value} (h : W.cell? a = some v) : a.block < W.heap.size := by
  rcases Nat.lt_or_ge a.block W.heap.size with h' | h'
  · exact h'
  · simp [World.cell?, Array.getElem?_eq_none h'] at h

theorem mkAV_cells {ei : TI} {zs : List AV} (hsz : ei.agg = true ∨ zs.length = 1) (hl : ei.agg = false → ∀ z ∈ zs, z.cells = [z]) : (mkAV ei zs).cells = zs := by
  unfold mkAV
  split
  · rfl
  · rename_i h
    have h' : ei.agg = false := by simpa using h
    rcases hsz with h1 | h1
    · rw [h1] at h'; cases h'
    · obtain ⟨z, rfl⟩ := List.length_eq_one_iff.1 h1
      exact hl h' z (by simp)

theorem Shp.leafs {d : Nat} {e : TypeId} {ei : TI} {ys : List AV} (h : Shp T d e ys) (he : look T e = some ei) (ha : ei.agg = false) : ∀ z ∈ ys, z.cells = [z] := by
  cases d with
  | zero => exact h.elim
  | succ d =>
    unfold Shp at h
    rw [he] at h
    simp only [ShpI] at h
    unfold TI.agg at ha
    split at h
    · obtain ⟨b, rfl⟩ := h; simp [AV.cells]
    · obtain ⟨n, rfl, _⟩ := h; simp [AV.cells]
    · obtain ⟨s, rfl, _⟩ := h; simp [AV.cells]
    · obtain ⟨_, xs, _, rfl, _⟩ := h; simp [AV.cells]
    · rename_i hd; rw [hd] at ha; cases ha
    · rename_i hd; rw [hd] at ha; cases ha
    · exact h.elim

theorem read_sound (hT : TOk P T) : ∀ (d : Nat) (t : TypeId), simpleT T d t = true → Goal enc P T W d t
  | 0, _, hs => by cases hs
  | d + 1, t, hs => by
    intro fuel cs x h hw
    unfold simpleT at hs
    cases hi : look T t with
    | none => rw [hi] at hs; cases hs
    | some i =>
      rw [hi] at hs
      simp only at hs
      have hu := TOk.und hT hi
      have hc := TOk.cellsOf hT hi
      cases fuel with
      | zero => simp [DataW.trod] at h
      | succ fuel =>
        unfold DataW.trod at h
        simp only [Shp, hi, ShpI]
        have hdd : ∀ {q : TypeDesc}, P.underlying t = some q → i.desc = q := fun hq => by rw [hu] at hq; exact Option.some.inj hq
        split at h
        case h_1 b hq =>
          rw [hdd hq] at hs ⊢
          simp only [Option.some.injEq] at h
          exact ⟨_, ⟨b, rfl⟩, .one (.bool b)⟩
        case h_2 k k' n hq =>
          rw [hdd hq] at hs ⊢
          split at h
          · rename_i hk
            obtain ⟨rfl, hk⟩ := hk
            simp only [Lit.wf, Bool.and_eq_true, decide_eq_true_eq] at hk
            exact ⟨_, ⟨n, rfl, hk.1, hk.2⟩, .one (.int _ n)⟩
          · cases h
        case h_4 s hq =>
          rw [hdd hq] at hs ⊢
          split at h
          · simp only [Option.some.injEq] at h
            subst h
            refine ⟨_, ⟨s.data.toList, rfl, hw _ (by simp [DataW.weights])⟩, .one ?_⟩
            have : Value.string s = .string ⟨s.data.toList.toArray⟩ := by cases s; simp
            rw [this]
            exact .str _
          · cases h
        case h_7 e hq =>
          rw [hdd hq] at hs ⊢
          simp only [Bool.and_eq_true] at hs
          obtain ⟨⟨_, hs1⟩, hs2⟩ := hs
          cases he : look T e with
          | none => rw [he] at hs2; cases hs2
          | some ei => exact ⟨_, ⟨ei, [], he, rfl, by simp, by simp⟩, .one (.list _ _ _ 0 _ (fun _ _ => undef) rfl (by simp) (by unfold maxLen; omega) (by simp) (fun h0 => by simp at h0) (by simp))⟩
        case h_8 e a len cap hq =>
          rw [hdd hq] at hs ⊢
          simp only [Bool.and_eq_true] at hs
          obtain ⟨⟨_, hs1⟩, hs2⟩ := hs
          cases he : look T e with
          | none => rw [he] at hs2; cases hs2
          | some ei =>
            rw [he] at hs2
            simp only [Bool.and_eq_true, Bool.or_eq_true, beq_iff_eq, decide_eq_true_eq] at hs2
            obtain ⟨hs2, hz⟩ := hs2
            have hce := TOk.cellsOf hT he
            have hbe := TOk.bytesOf hT he
            rw [hce] at h
            split at h
            · rename_i hcap
              simp only [Option.bind_eq_some_iff, Option.map_eq_some_iff] at h
              obtain ⟨elems, hel, rest, _, rfl⟩ := h
              simp only [DataW.weights, hq, List.mem_cons, List.mem_append] at hw
              rw [List.range_eq_range'] at hel
              obtain ⟨yss, h1, h2, h3⟩ := slice_read (read_sound hT d e hs1) fuel len 0 elems hel (fun k hk => hw k (.inr (.inl hk)))
              have hlen : elems.length = len := by
                have := mapM_some_length hel
                simpa using this
              have hcel : ∀ ys ∈ yss, (mkAV ei ys).cells = ys := fun ys hys => by
                have := h2 ys hys
                refine mkAV_cells (hs2.imp_right fun h => by rw [this.2, h]) (fun ha => this.1.leafs he ha)
              refine ⟨_, ⟨ei, yss.map (mkAV ei), he, rfl, ?_, fun x hx => ?_⟩, .one ?_⟩
              · have := hw _ (.inl rfl)
                simp only [List.length_map] at this ⊢
                rw [hbe] at this
                rw [h1]
                refine Nat.le_trans (Nat.mul_le_mul_right _ ?_) this
                omega
              · obtain ⟨ys, hys, rfl⟩ := List.mem_map.1 hx
                exact ⟨ys, rfl, (h2 ys hys).1⟩
              · refine .list (some a) len cap ei.size _ (fun i j => (((W.cells? 0 (a.add (i * ei.size)) ei.size).getD [])[j]?).getD undef) (by simp [h1]) (by simp [h1]; exact hcap.2.1) hcap.2.2 (fun x hx => ?_) (fun h0 => ?_) (fun i x hx j y hy => ?_)
                · obtain ⟨ys, hys, rfl⟩ := List.mem_map.1 hx
                  rw [hcel ys hys]; exact (h2 ys hys).2
                · have key : ∀ i j, i < (yss.map (mkAV ei)).length → j < ei.size → W.cell? (a.add (i * ei.size + j)) = some ((((W.cells? 0 (a.add (i * ei.size)) ei.size).getD [])[j]?).getD undef) := fun i j hi' hj => by
                    simp only [List.length_map] at hi'
                    obtain ⟨cs, hcs, hr⟩ := h3 i yss[i] (by simp [hi'])
                    rw [Nat.zero_add] at hcs
                    rw [hcs, Option.getD_some]
                    obtain ⟨_, q2, q3⟩ := World.cells?_some hcs
                    have := q3 j hj
                    rw [add_add] at this
                    rw [this]
                    have hjl : j < cs.length := by omega
                    simp [hjl]
                  refine ⟨a, rfl, fun _ => ?_, key⟩
                  have := cell_lt (key 0 0 h0 hz)
                  rwa [block_add] at this
                · rw [List.getElem?_map] at hx
                  obtain ⟨ys, hys, rfl⟩ := Option.map_eq_some_iff.1 hx
                  have hm := List.mem_of_getElem? hys
                  rw [hcel ys hm] at hy
                  obtain ⟨cs, hcs, hr⟩ := h3 i ys hys
                  rw [Nat.zero_add] at hcs
                  rw [hcs, Option.getD_some]
                  have hj : j < cs.length := by rw [hr.1]; exact (List.getElem?_eq_some_iff.1 hy).1
                  have := hr.2 j cs[j] y (by simp [hj]) hy
                  simpa [hj] using this
            · cases h
        case h_9 cs _ _ fs hq =>
          rw [hdd hq] at hs ⊢
          simp only [Bool.and_eq_true, List.all_eq_true] at hs
          split at h
          · rename_i hl
            rw [hc] at hl
            obtain ⟨xs, hxs, rfl⟩ := Option.map_eq_some_iff.1 h
            simp only [DataW.weights, hq] at hw
            obtain ⟨ys, h1, h2⟩ := fields_read hT fs.toList 0 i.size cs hs.1 hl (fun f hf => read_sound hT d f.type (hs.2 f hf)) fuel xs hxs hw
            exact ⟨ys, h1, by simpa using h2⟩
          · cases h
        case h_10 cs _ _ n e hq =>
          rw [hdd hq] at hs ⊢
          simp only [Bool.and_eq_true] at hs
          cases he : look T e with
          | none => rw [he] at hs; cases hs.2
          | some ei =>
            rw [he] at hs
            simp only [beq_iff_eq] at hs
            have hce := TOk.cellsOf hT he
            split at h
            · rename_i hl
              rw [hc, hs.2] at hl
              obtain ⟨xs, hxs, rfl⟩ := Option.map_eq_some_iff.1 h
              simp only [DataW.weights, hq] at hw
              rw [hce, List.range_eq_range'] at hxs
              obtain ⟨ys, h1, h2⟩ := elems_read (read_sound hT d e hs.1) n 0 cs (by simpa using hl) fuel xs hxs hw
              exact ⟨ys, h1, by simpa using h2⟩
            · cases h
        all_goals first
          | (cases h; done)
          | (rename_i hq; rw [hdd hq] at hs; cases hs; done)
          | (rename_i hq _; rw [hdd hq] at hs; cases hs; done)
          | (rename_i hq _ _; rw [hdd hq] at hs; cases hs; done)
          | skip

/-- The arguments of a row, one by one. -/
def ArgsShp (T : TT) (d : Nat) : List TypeId → List AV → Prop
  | [], xs => xs = []
  | t :: ts, xs => ∃ i zs rest, look T t = some i ∧ xs = mkAV i zs :: rest ∧ Shp T d t zs ∧ ArgsShp T d ts rest

theorem arg_read (hT : TOk P T) {d : Nat} {t : TypeId} (hs : simpleT T d t = true) {r : Reach} {base : Nat} {v : Value} (hok : Value.okWide P W r base t v) {D : DataW H} {ps : List MemPlace} (h : DataW.Trod enc P W 0 (fun _ => true) true t v D ps)
    (hw : ∀ n ∈ D.weights P t, n ≤ reachBytes) : ∃ i zs, look T t = some i ∧ Shp T d t zs ∧ PVR W (· < W.heap.size) v (mkAV i zs) := by
  obtain ⟨fuel, hf⟩ := h
  obtain ⟨ys, h1, h2⟩ := read_sound hT d t hs fuel _ _ hf hw
  cases d with
  | zero => cases hs
  | succ d =>
    have h1' := h1
    unfold Shp at h1
    cases hi : look T t with
    | none => rw [hi] at h1; exact h1.elim
    | some i =>
      rw [hi] at h1
      have hu := TOk.und hT hi
      refine ⟨i, ys, rfl, h1', ?_⟩
      unfold Value.okWide at hok
      rw [hu] at hok
      unfold mkAV
      by_cases ha : i.agg = true
      · rw [if_pos ha]
        unfold TI.agg at ha
        have : ∃ cs, v = .agg cs := by
          split at ha
          · rename_i hd; rw [hd] at hok; obtain ⟨cs, hc, _⟩ := hok; exact ⟨cs, hc⟩
          · rename_i hd; rw [hd] at hok; obtain ⟨cs, hc, _⟩ := hok; exact ⟨cs, hc⟩
          · cases ha
        obtain ⟨cs, rfl⟩ := this
        exact .agg cs ys (by simpa [Value.cells] using h2.1) (fun j u y hu hy => h2.2 j u y (by simpa [Value.cells] using hu) hy)
      · rw [if_neg ha]
        have hlf : ∃ y, ys = [y] := by
          simp only [ShpI] at h1
          unfold TI.agg at ha
          split at h1
          · obtain ⟨b, rfl⟩ := h1; exact ⟨_, rfl⟩
          · obtain ⟨b, rfl, _⟩ := h1; exact ⟨_, rfl⟩
          · obtain ⟨b, rfl, _⟩ := h1; exact ⟨_, rfl⟩
          · obtain ⟨_, xs, _, rfl, _⟩ := h1; exact ⟨_, rfl⟩
          · rename_i hd; rw [hd] at ha; exact absurd rfl ha
          · rename_i hd; rw [hd] at ha; exact absurd rfl ha
          · exact h1.elim
        obtain ⟨y, rfl⟩ := hlf
        have hnv : ∀ cs, v ≠ .agg cs := by
          rintro cs rfl
          have hcell : Cell.okWide P W r base t (.agg cs) := by
            unfold TI.agg at ha
            split at hok
            · rename_i heq; rw [Option.some.inj heq] at ha; exact absurd rfl ha
            · rename_i heq; rw [Option.some.inj heq] at ha; exact absurd rfl ha
            · exact hok
          simp only [ShpI] at h1
          unfold Cell.okWide at hcell
          rw [hu] at hcell
          split at h1
          all_goals first | (exact h1.elim) | skip
          all_goals (rename_i hd; rw [hd] at hcell)
          all_goals first | (simp [Cell.ok, hu, hd] at hcell; done) | skip
        have hvc : v.cells.toList = [v] := by
          cases v <;> first | rfl | exact absurd rfl (hnv _)
        rw [hvc] at h2
        exact h2.2 0 v y rfl rfl

theorem args_read (hT : TOk P T) {d : Nat} {r : Reach} {base : Nat} : ∀ (ts : List TypeId) (vs : List Value) (ds : List (DataW H)) (ps : List MemPlace), ts.all (simpleT T d) = true → DataW.TrodAll enc P W 0 (fun _ => true) true ts vs ds ps →
    (∀ (j : Nat) t v, ts[j]? = some t → vs[j]? = some v → Value.okWide P W r base t v) → (∀ n ∈ DataW.weightsEach P ts ds, n ≤ reachBytes) →
    ds.length = ts.length ∧ ∃ xs, ArgsShp T d ts xs ∧ vs.length = xs.length ∧ ∀ (j : Nat) (v : Value) (x : AV), vs[j]? = some v → xs[j]? = some x → PVR W (· < W.heap.size) v x
  | [], vs, ds, ps, _, h, _, _ => by
    obtain ⟨rfl, rfl, _⟩ := trodAll_nil h
    exact ⟨rfl, [], rfl, rfl, by simp⟩
  | t :: ts, vs, ds, ps, hs, h, hok, hw => by
    obtain ⟨v, vs', D, ds', p, q, rfl, rfl, rfl, h0, h1⟩ := trodAll_cons h
    simp only [List.all_cons, Bool.and_eq_true] at hs
    simp only [DataW.weightsEach, List.mem_append] at hw
    obtain ⟨i, zs, g1, g2, g3⟩ := arg_read hT hs.1 (hok 0 t v rfl rfl) h0 (fun n hn => hw n (.inl hn))
    obtain ⟨k0, xs, k1, k2, k3⟩ := args_read hT ts vs' ds' q hs.2 h1 (fun j t v a b => hok (j + 1) t v (by simpa using a) (by simpa using b)) (fun n hn => hw n (.inr hn))
    refine ⟨by simp [k0], mkAV i zs :: xs, ⟨i, zs, xs, g1, rfl, g2, k1⟩, by simp [k2], fun j u x hu hx => ?_⟩
    rcases j with _ | j
    · simp only [List.getElem?_cons_zero, Option.some.injEq] at hu hx; subst hu; subst hx; exact g3
    · exact k3 j u x (by simpa using hu) (by simpa using hx)

theorem trodAll_stays (hl : laidOutB P = true) {W' : World} {sp : Nat → Bool} : ∀ (ts : List TypeId) (vs : List Value) (ds : List (DataW H)) (ps : List MemPlace), (ts.all fun t => P.readableRec t && decide (t < P.types.size)) = true →
    DataW.TrodAll enc P W 0 (fun _ => true) true ts vs ds ps → (∀ p ∈ ps, W.sameAt W' p) → (∀ p ∈ ps, sp p.block = true) → DataW.TrodAll enc P W' 0 sp true ts vs ds ps
  | [], vs, ds, ps, _, h, _, _ => by
    obtain ⟨rfl, rfl, rfl⟩ := trodAll_nil h
    rfl
  | t :: ts, vs, ds, ps, hr, h, hsame, hsp => by
    obtain ⟨v, vs', D, ds', p, q, rfl, rfl, rfl, h0, h1⟩ := trodAll_cons h
    simp only [List.all_cons, Bool.and_eq_true, decide_eq_true_eq] at hr
    exact ⟨p, q, WideElems.Trod_stays hl hr.1.1 hr.1.2 h0 (fun x hx => hsame x (by simp [hx])) (fun x hx => hsp x (by simp [hx])),
      trodAll_stays hl ts vs' ds' q hr.2 h1 (fun x hx => hsame x (by simp [hx])) (fun x hx => hsp x (by simp [hx])), rfl⟩

/-- What a row asks behind the call, of a law that answers true and writes nothing that stood. -/
theorem post_below {fn : Func} {s : ChangeSpec} {apart fresh handsOn again : Bool} {W' : World} {args : Array Value} {ds : List (DataW H)} {before : List MemPlace} {tb : TypeId} (hl : laidOutB P = true)
    (hres : fn.resultTypes = #[tb]) (hb : P.underlying tb = some .bool) (hread : (fn.params.toList.all fun t => P.readableRec t && decide (t < P.types.size)) = true) (hvars : s.vars = [])
    (hfn : s.fn H ds = { results := [.lit (.bool true)], args := ds })
    (hW : DataW.Whole enc P fn.params.toList s.vars apart W args.toList ds [] before) (hbl : Below W.heap.size W W') : s.post enc P fn apart fresh handsOn again W args (.bool true) W' := by
  have hlt := hW.lt
  have hW' := hW
  obtain ⟨p, q, hA, hV, rfl, hz, hn⟩ := hW
  rw [hvars] at hV
  obtain ⟨_, rfl⟩ := trodVars_none hV
  simp only [List.append_nil] at hW' hlt hz hn
  have hst : ∀ sp : Nat → Bool, (∀ x ∈ p, sp x.block = true) → DataW.TrodAll enc P W' 0 sp true fn.params.toList args.toList ds p := fun sp hsp => trodAll_stays hl _ _ _ _ hread hA (fun x hx => hbl.same (hlt x hx)) hsp
  have hold : ∀ x ∈ p, (fun b => decide (b < W.heap.size)) x.block = true := fun x hx => by simpa using hlt x hx
  have hrs : ∀ (b : Nat) (sp : Nat → Bool) (hd : Bool), DataW.TrodAll enc P W' b sp hd fn.resultTypes.toList ((Value.bool true).resultList fn.resultTypes.size) (s.fn H ds).results [] := fun b sp hd => by
    rw [hres, hfn]
    exact trodAll_mk1 (shut_bool hb true)
  refine ⟨ds, [], p, [], p, [], hW', by simpa using hrs _ _ _, by simpa [hfn] using hst _ hold, by rw [List.append_nil, hfn, hvars]; rfl, World.keptBut_mono (fun x hx => ⟨hx, .inr (.inl hx)⟩) (hbl.frame (· ∈ p)), fun _ => ?_⟩
  refine ⟨ok_one hres rfl (okWide_bool_mk hb true), _, [], ([] ++ p) ++ [], ⟨[] ++ p, [], trodAll_append (by simpa [hfn] using hst _ (fun _ _ => rfl)) (by simpa using hrs _ _ _), by rw [hvars]; rfl, rfl, ?_, ?_⟩, ?_⟩
  · intro b off hp
    simp only [List.nil_append, List.append_nil] at hp
    have hb2 := hlt _ hp
    rw [hbl.frozen hb2]
    exact hz b off hp
  · intro ha
    simpa using hn ha
  · intro x hx _
    simpa using hx

/-- From a law's contract to what its row asks. -/
theorem row_of_PC (hT : TOk P T) (hl : laidOutB P = true) {f : FuncId} {fn : Func} {d : Nat} {tb : TypeId} (hres : fn.resultTypes = #[tb]) (hb : P.underlying tb = some .bool)
    (hread : (fn.params.toList.all fun t => P.readableRec t && decide (t < P.types.size)) = true) (hsimple : fn.params.toList.all (simpleT T d) = true)
    (hE : EOK P W (· < W.heap.size)) (hPC : ∀ xs, ArgsShp T d fn.params.toList xs → PC P f xs (fun r => r = .bool true)) {s : ChangeSpec} (hvars : s.vars = [])
    (hfn : ∀ ds : List (DataW H), ds.length = fn.params.toList.length → s.fn H ds = { results := [.lit (.bool true)], args := ds }) {apart fresh handsOn again : Bool}
    {base : Nat} {args : Array Value} {ds gs : List (DataW H)} {before : List MemPlace} (hval : ∀ (j : Nat) t v, fn.params[j]? = some t → args[j]? = some v → Value.okWide P W .any base t v)
    (hW : DataW.Whole enc P fn.params.toList s.vars apart W args.toList ds gs before) {vt : List TypeId} (hvt : vt = []) (hwt : (DataW.weightsEach P (fn.params.toList ++ vt) (ds ++ gs)).all (· ≤ reachBytes) = true) :
    Calls P f args W fun e W' => ∃ v, e = .returned v ∧ s.post enc P fn apart fresh handsOn again W args v W' := by
  have hW' := hW
  obtain ⟨p, q, hA, hV, rfl, hz, hn⟩ := hW
  rw [hvars] at hV
  obtain ⟨rfl, rfl⟩ := trodVars_none hV
  rw [hvt, List.append_nil, List.append_nil] at hwt
  have hw : ∀ n ∈ DataW.weightsEach P fn.params.toList ds, n ≤ reachBytes := fun n hn => by simpa using List.all_eq_true.1 hwt n hn
  obtain ⟨hlen, xs, hx, hxl, hxr⟩ := args_read hT fn.params.toList args.toList ds p hsimple hA (fun j t v a b => hval j t v (by simpa using a) (by simpa using b)) hw
  refine ((hPC xs hx).2 W (· < W.heap.size) args hE (fun _ h => h) (by simpa using hxl) (fun j v x a b => hxr j v x (by simpa using a) b)).mono ?_
  rintro e W' ⟨v, I', r, rfl, rfl, hbl, _, _, hv⟩
  cases hv
  exact ⟨_, rfl, post_below hl hres hb hread hvars (hfn ds hlen) (by simpa using hW') hbl⟩
end
end Go.Abs
/- Bytes and strings: the conversions, and append of a string. -/
namespace Go.Abs
open Go Go.RowKit
section
variable {P : Program} [Env P] {T : TT} {nt k : Nat} {S : AS} {ops : Array Oper} {o : Oper} {R : AS → Prop}

@[simp] def byteAV (c : UInt8) : AV := .int .u8 c.toNat
theorem byteAV_cells (c : UInt8) : (byteAV c).cells = [byteAV c] := rfl
/-- string(b). -/
theorem AStep_toStr (hT : TOk P T) {wr : Bool} (hw : wantedA ops S o = some true) {x : Operand} {src dst e : TypeId} (ho : o.op = .convert src dst x) {it ei idst : TI} (ht : look T src = some it) (hit : it.desc = .slice e) (he : look T e = some ei) (hei : ei.desc = .int .u8)
    (hdst : look T dst = some idst) (hid : idst.desc = .string) {xv : AV} (hx : rho S.sl x = some xv) {s : List UInt8} (hs : contA S.hp xv = some (s.map byteAV)) (hd : dstOk nt o = true) (hR : R (S.putD o.dst (.str s))) : AStep P nt k wr ops o S R := fun C a w K Q hst hK => by
  unfold OpW
  rw [if_pos (hst.wanted hw)]
  obtain ⟨I, m, hws, hsl, hk, hE⟩ := hst
  obtain ⟨ao, cap, u, hxv, hcell, hpv⟩ := contA_sound hws (rho_sound hsl hx) hs
  have hus := hT.und ht
  rw [hit] at hus
  have hue := hT.und he
  rw [hei] at hue
  have hud := hT.und hdst
  rw [hid] at hud
  rw [List.length_map] at hxv hcell
  have hrun : (convert src dst (a.eval x)).run P w = .ok (.string ⟨s.toArray⟩) w := by
    rw [hxv]
    rcases Nat.eq_zero_or_pos s.length with h0 | h0
    · have hs0 := List.eq_nil_of_length_eq_zero h0
      subst hs0
      cases ao with
      | none =>
        rw [run_convert_bytes_string w src dst e none _ cap hus hue hud]
        simp [Conv.bytesToString]
        rfl
      | some ad => exact run_convert_bytes_back w src dst e ad cap [] hus hue hud (fun j hj => by simp at hj)
    · obtain ⟨ad, rfl, c, hc1, hc2⟩ := hcell h0
      refine run_convert_bytes_back w src dst e ad cap s hus hue hud (fun j hj => ?_)
      have hc : c = 1 := by
        rw [← hc1 (byteAV s[0]) (List.mem_map.2 ⟨s[0], List.getElem_mem h0, rfl⟩)]; rfl
      subst hc
      have h1 := hc2 j 0 hj (by omega)
      rw [Nat.mul_one, Nat.add_zero] at h1
      have h2 := hpv j (byteAV s[j]) (by simp [hj]) 0 (byteAV s[j]) rfl
      rw [h1]
      have h3 : u j 0 = .int .u8 (s[j]).toNat := (VR.pure (m := m) (n := 0) h2).int_inv
      rw [h3]
  unfold wpA
  have : (execOp a.eval o).run P w = .ok (.value (.string ⟨s.toArray⟩)) w := by
    simp only [execOp, ho]
    rw [Sem.run_bind, hrun]
    rfl
  rw [this]
  exact hK _ _ w hR (St.value hsl hk hE hws (Fut.refl _ _ _ _) (Nat.le_refl _) (dstOk_spec hd) (.pure (.str _))) (fun _ => Held.refl w)

/-- append of a string's bytes. -/
theorem AStep_appendStr (hT : TOk P T) (hw : wantedA ops S o = some true) {s x : Operand} {t tu e : TypeId} (ho : o.op = .call ⟨.builtin .append, #[s, x], #[t, tu]⟩) {it iu ei : TI} (htu : look T tu = some iu) (hiu : iu.desc = .string) (hei1 : ei.size = 1) (ht : look T t = some it) (hit : it.desc = .slice e) (he : look T e = some ei)
    (hz : ei.zero.cells.size = ei.size) (hsz : 0 < ei.size) {sv : AV} (hs : rho S.sl s = some sv) {str : List UInt8} (hx : rho S.sl x = some (.str str)) {xs : List AV} {H1 : List AObj} (hb : appBase S e ei.size sv = some (xs, H1)) (hbound : (xs.length + str.length) * ei.bytes ≤ 140737488355328) (hlen : xs.length + str.length ≤ 9223372036854775807) (hd : dstOk nt o = true)
    (hR : R (({ S with hp := H1 ++ [.arr e ei.size (xs ++ str.map byteAV)] } : AS).putD o.dst (.sl S.hp.length ei.size 0 (xs.length + str.length)))) : AStep P nt k true ops o S R := fun C a w K Q hst hK => by
  unfold OpW
  rw [if_pos (hst.wanted hw)]
  obtain ⟨I, m, hws, hsl, hk, hE⟩ := hst
  have hxv := (rho_sound hsl hx).str_inv
  have hutu := hT.und htu
  rw [hiu] at hutu
  obtain ⟨ys, hys⟩ : ∃ ys, ys = str.map byteAV := ⟨_, rfl⟩
  obtain ⟨u, hu⟩ : ∃ u : Nat → Nat → Value, u = fun i _ => .int .u8 (str.getD i 0).toNat := ⟨_, rfl⟩
  have hyl : ys.length = str.length := by rw [hys, List.length_map]
  rw [← hys, ← hyl] at hR
  rw [← hyl] at hbound hlen
  have hbs : (⟨str.toArray⟩ : ByteArray).size = ys.length := by rw [hyl]; simp [ByteArray.size]
  have hck : ∀ y ∈ ys, y.cells.length = ei.size ∧ y.cells.all AV.leaf = true := fun y hy => by
    rw [hys] at hy
    obtain ⟨c, _, rfl⟩ := List.mem_map.1 hy
    rw [hei1]; exact ⟨rfl, rfl⟩
  have hpv : ∀ (i : Nat) (x : AV), ys[i]? = some x → ∀ (j : Nat) (y : AV), x.cells[j]? = some y → PVR w I (u i j) y := fun i x hx j y hy => by
    rw [hys, List.getElem?_map] at hx
    obtain ⟨c, hc, rfl⟩ := Option.map_eq_some_iff.1 hx
    rw [byteAV_cells] at hy
    have hy' : y = byteAV c := by
      rcases j with _ | j
      · simpa using hy.symm
      · simp at hy
    subst hy'
    have : str.getD i 0 = c := by simp [List.getD, hc]
    rw [hu]
    simp only [this]
    exact .int _ _
  have hfc : Lib.strCells ⟨str.toArray⟩ = flatCells u ys.length ei.size := by
    refine List.ext_getElem? fun q => ?_
    rcases Nat.lt_or_ge q str.length with hq | hq
    · have := flatCells_get u ys.length 1 q 0 (by omega) (by omega)
      rw [Nat.mul_one, Nat.add_zero] at this
      rw [hei1, this, hu]
      simp [Lib.strCells, hq, List.getD]
    · rw [List.getElem?_eq_none (by rw [Lib.strCells_length, hbs]; omega), List.getElem?_eq_none (by rw [flatCells_length, hei1]; omega)]
  have hsv := rho_sound hsl hs
  obtain ⟨ti, hti, tz, ts, tb⟩ := hT.info he
  have hut := hT.und ht
  rw [hit] at hut
  have hn1 : H1.length = S.hp.length := by
    unfold appBase at hb
    split at hb
    · simp only [Option.some.injEq, Prod.mk.injEq] at hb; rw [← hb.2]
    · split at hb
      · split at hb
        · simp only [Option.some.injEq, Prod.mk.injEq] at hb; rw [← hb.2]; simp
        · cases hb
      · cases hb
    · cases hb
  -- what the run comes to decides all
  have fin : ∀ (v : Value) (w' : World) (m' : Nat → Option Nat), (Builtin.append_ #[t, tu] o.type #[a.eval s, a.eval x]).run P w = .ok v w' → WS C.W0 C.I0 w' I m' (H1 ++ [.arr e ei.size (xs ++ ys)]) → Fut S.hp.length w I m w' I m' →
      VR w' I m' (S.hp.length + 1) v (.sl S.hp.length ei.size 0 (xs.length + ys.length)) → wpA P o a w K Q := fun v w' m' hrun g1 g2 g3 => by
    unfold wpA
    have : (execOp a.eval o).run P w = .ok (.value v) w' := by simp [execOp, ho, resolve, invoke, builtin, hrun]
    rw [this]
    exact hK _ _ w' hR (St.value hsl hk hE g1 g2 (by simp [hn1]) (dstOk_spec hd) (by simpa [hn1] using g3)) (fun e => by cases e)
  -- nothing is appended
  have zero : ys = [] → ∀ (b0 : Option Addr) (n0 c0 : Nat), n0 ≤ c0 → a.eval s = .slice b0 n0 c0 → (Builtin.append_ #[t, tu] o.type #[a.eval s, a.eval x]).run P w = .ok (.slice b0 n0 c0) w := fun hy0 b0 n0 c0 hle hs0 => by
    have hs00 : str = [] := by rw [hy0] at hyl; exact List.eq_nil_of_length_eq_zero (by simpa using hyl.symm)
    rw [hs0, hxv, hs00]
    have hb0 : (⟨([] : List UInt8).toArray⟩ : ByteArray).size = 0 := rfl
    have hf := Lib.run_firstCells_string (P := P) (w := w) ti.size ⟨([] : List UInt8).toArray⟩
    rw [hb0] at hf
    have hsc : Lib.strCells ⟨([] : List UInt8).toArray⟩ = [] := rfl
    cases b0 <;> simp [Builtin.append_, run_underlying hut, run_underlying hutu, sizeOf, typeInfo, hti, Builtin.lenOf, hb0, hle, hf, hsc, storeCells]
  -- a new row
  have newrow : ∀ (cap' : Nat) (cs : Array Value), xs.length + ys.length ≤ cap' → cap' ≤ maxLen → cs.size = cap' * ei.size →
      (∀ (i : Nat) (z : AV), (xs ++ ys)[i]? = some z → z.cells.length = ei.size ∧ ∀ (j : Nat) (y : AV), z.cells[j]? = some y → ∃ v, cs[i * ei.size + j]? = some v ∧ PVR w I v y) →
      (Builtin.append_ #[t, tu] o.type #[a.eval s, a.eval x]).run P w = .ok (.slice (some ⟨w.heap.size, 0, none⟩) (xs.length + ys.length) cap') (w.drew.alloc (.cells cs e)) → WS C.W0 C.I0 w I m H1 → wpA P o a w K Q := fun cap' cs h1 h2 h3 h4 hrun hw1 => by
    have hbl : Below w.heap.size w (w.drew.alloc (.cells cs e)) := (Below.refl _ _).drew.alloc (Nat.le_refl _) _
    obtain ⟨g1, g2⟩ := hw1.push hbl (some w.heap.size) (fun b e => by injection e with e; subst e; simp) (.arr e ei.size (xs ++ ys)) (fun m' hf hm => .inr ⟨w.heap.size, cap', cs, rfl, heap_alloc_new w.drew _, by simpa using h1, h2, h3,
      fun z hz' => by obtain ⟨i, hi⟩ := List.mem_iff_getElem?.1 hz'; exact (h4 i z hi).1, fun i z hi j y hy => by obtain ⟨v, q1, q2⟩ := (h4 i z hi).2 j y hy; exact ⟨v, q1, q2.mono hf.ext⟩⟩)
    rw [hn1] at g1 g2
    refine fin _ _ _ hrun g1 g2 ?_
    have := VR.sl (w := w.drew.alloc (.cells cs e)) (I := I) (m := upd m S.hp.length (some w.heap.size)) (n := S.hp.length + 1) S.hp.length ei.size 0 (xs.length + ys.length) cap' w.heap.size e (by omega) (upd_same _ _ _)
      (by have := heap_alloc_new w.drew (.cells cs e); simp only [World.size_drew] at this; simp only [World.shape?, this, h3, Nat.zero_add]) h1 (by omega)
    simpa using this
  have ysz : ∀ y ∈ ys, y.cells.length = ei.size := fun y hy => (hck y hy).1
  have one : ∀ v ∈ flatCells u ys.length ei.size, v.oneCell' = true := fun v hv => by
    obtain ⟨q, hq⟩ := List.mem_iff_getElem?.1 hv
    obtain ⟨_, _, q1, q2, q3, rfl⟩ := flatCells_of _ _ _ _ _ hq
    have hyq : ys[q / ei.size]? = some ys[q / ei.size] := List.getElem?_eq_getElem q1
    have hcq := ysz _ (List.getElem_mem q1)
    have hzq : (ys[q / ei.size]).cells[q % ei.size]? = some ((ys[q / ei.size]).cells[q % ei.size]'(by omega)) := List.getElem?_eq_getElem (by omega)
    exact (VR.pure (m := m) (n := 0) (hpv _ _ hyq _ _ hzq)).oneCell (List.all_eq_true.1 (hck _ (List.getElem_mem q1)).2 _ (List.mem_of_getElem? hzq))
  have yrel : ∀ (i : Nat) (z : AV), ys[i]? = some z → ∀ (j : Nat) (y : AV), z.cells[j]? = some y → (flatCells u ys.length ei.size)[i * ei.size + j]? = some (u i j) ∧ PVR w I (u i j) y := fun i z hz' j y hy => by
    have hi := (List.getElem?_eq_some_iff.1 hz').1
    have hj := (List.getElem?_eq_some_iff.1 hy).1
    rw [ysz z (List.mem_of_getElem? hz')] at hj
    exact ⟨flatCells_get _ _ _ _ _ hi hj, hpv i z hz' j y hy⟩
  have capw : ∀ old, xs.length + ys.length ≤ grownCap w (xs.length + ys.length) old e ∧ grownCap w (xs.length + ys.length) old e ≤ maxLen := fun old =>
    ⟨grownCap_ge _ _ _ _, grownCap_le_maxLen w _ old e (by unfold maxLen; omega)⟩
  have fromNone : a.eval s = .slice none 0 0 → xs = [] → WS C.W0 C.I0 w I m H1 → wpA P o a w K Q := fun hs0 hx0 hw1 => by
    subst hx0
    rcases Nat.eq_zero_or_pos ys.length with h0 | h0
    · have hy0 := List.eq_nil_of_length_eq_zero h0
      have hrun := zero hy0 none 0 0 (Nat.le_refl _) hs0
      obtain ⟨g1, g2⟩ := hw1.push (Below.refl _ _) none (fun b e => by cases e) (.arr e ei.size ([] ++ ys)) (fun m' _ _ => .inl ⟨rfl, by simp [hy0]⟩)
      rw [hn1] at g1 g2
      refine fin _ _ _ hrun g1 g2 ?_
      rw [h0]
      exact .slnone _ _ (by omega) (upd_same _ _ _)
    · have hrun := run_append_nil_string (P := P) w t tu o.type e ti ei.zero hut hutu hti tz ⟨str.toArray⟩ (by omega) (by simp at hlen; omega) (by rw [tb, hbs]; simp at hbound; omega)
      have e1 : ((⟨str.toArray⟩ : ByteArray).data.map fun b => Value.int .u8 b.toNat) = (flatCells u ys.length ei.size).toArray := by
        rw [← hfc]; apply Array.ext'; simp [Lib.strCells]
      rw [e1, hbs] at hrun
      obtain ⟨c1, c2⟩ := capw 0
      simp only [List.length_nil, Nat.zero_add] at c1 c2
      refine newrow (grownCap w ys.length 0 e) _ (by simpa using c1) c2 ?_ ?_ (by rw [hs0, hxv]; simpa [-Value.cells] using hrun) hw1
      · simp only [Array.size_append, List.size_toArray, flatCells_length, size_zeroCells, hz, ← Nat.add_mul]
        congr 1; omega
      · intro i z hi
        simp only [List.nil_append] at hi
        refine ⟨ysz z (List.mem_of_getElem? hi), fun j y hy => ?_⟩
        obtain ⟨q1, q2⟩ := yrel i z hi j y hy
        exact ⟨_, by rw [Array.getElem?_append_left (by simpa using (List.getElem?_eq_some_iff.1 q1).1)]; simpa using q1, q2⟩
  unfold appBase at hb
  split at hb
  · simp only [Option.some.injEq, Prod.mk.injEq] at hb
    obtain ⟨rfl, rfl⟩ := hb
    exact fromNone hsv.nils_inv rfl hws
  · rename_i id c' len
    split at hb
    · rename_i e' c'' xs' hob
      split at hb
      · rename_i hc
        obtain ⟨rfl, rfl, rfl, rfl⟩ := hc
        simp only [Option.some.injEq, Prod.mk.injEq] at hb
        obtain ⟨rfl, rfl⟩ := hb
        have hkill := hws.kill id
        rcases hsv.sl_inv with ⟨b, cp, t', hb, hn, hsh, hl', hmax, hse⟩ | ⟨hb, hn, _, hl0, hse⟩ | ⟨ad, hn, hlo, _, _⟩
        · rcases hws.obj id _ hob with ⟨e1, _⟩ | ⟨b', cp', vs, hb', hh, q1, q2, q3, q4, hr⟩
          · rw [hb] at e1; cases e1
          obtain rfl : b = b' := by rw [hb] at hb'; exact Option.some.inj hb'
          have hcp : cp = cp' := by
            have : w.shape? b = some (e', vs.size) := by simp [World.shape?, hh]
            rw [this] at hsh
            simp only [Option.some.injEq, Prod.mk.injEq, Nat.zero_add, q3] at hsh
            exact (Nat.eq_of_mul_eq_mul_right hsz hsh.2).symm
          subst hcp
          simp only [Nat.zero_mul] at hse
          have xrel : ∀ (i : Nat) (z : AV), xs'[i]? = some z → ∀ j, j < ei.size → i * ei.size + j < xs'.length * ei.size := fun i z hi j hj => by
            have : (i + 1) * ei.size ≤ xs'.length * ei.size := Nat.mul_le_mul_right _ (List.getElem?_eq_some_iff.1 hi).1
            rw [Nat.add_mul] at this; omega
          have hxv' : xs'.length * ei.size ≤ vs.size := by rw [q3]; exact Nat.mul_le_mul_right _ q1
          have slv : ∀ (w' : World), w'.shape? b = some (e', cp * ei.size) → xs'.length + ys.length ≤ cp → VR w' I (upd m S.hp.length (some b)) (S.hp.length + 1) (.slice (some ⟨b, 0, none⟩) (xs'.length + ys.length) cp) (.sl S.hp.length ei.size 0 (xs'.length + ys.length)) := fun w' hs' hle => by
            have := VR.sl (w := w') (I := I) (m := upd m S.hp.length (some b)) (n := S.hp.length + 1) S.hp.length ei.size 0 (xs'.length + ys.length) cp b e' (by omega) (upd_same _ _ _) (by simpa using hs') hle (by omega)
            simpa using this
          rcases Nat.eq_zero_or_pos ys.length with h0 | h0
          · have hy0 := List.eq_nil_of_length_eq_zero h0
            have hrun := zero hy0 _ _ _ hl' hse
            obtain ⟨g1, g2⟩ := hws.adopt (w' := w) (o' := .arr e' ei.size (xs' ++ ys)) hob rfl hb (World.grownBy.refl _ _) (fun _ h => h) (fun m' hf => .inr ⟨b, cp, vs, rfl, hh, by simp [hy0, q1], q2, q3, by simpa [hy0] using q4, by simpa [hy0] using hr⟩)
            refine fin _ _ _ hrun g1 g2 ?_
            have := slv w (by simp [World.shape?, hh, q3]) (by omega)
            rw [h0] at this ⊢
            exact this
          · by_cases hroom : xs'.length + ys.length ≤ cp
            · have hfit : xs'.length * ti.size + (flatCells u ys.length ei.size).length ≤ vs.size := by rw [flatCells_length, ts, q3, ← Nat.add_mul]; exact Nat.mul_le_mul_right _ hroom
              have hrun := Lib.run_append_room_string (P := P) (w := w) t tu o.type e' ti hut hutu hti (by rw [ts]; exact hei1) b xs'.length cp vs hh ⟨str.toArray⟩ (by rw [hbs]; exact hroom) (by rw [hbs, q3, hei1, Nat.mul_one]; exact hroom)
              rw [ts] at hfit
              rw [hfc, hbs] at hrun
              have hrun : (Builtin.append_ #[t, tu] o.type #[.slice (some ⟨b, 0, none⟩) xs'.length cp, .string ⟨str.toArray⟩]).run P w = .ok (.slice (some ⟨b, 0, none⟩) (xs'.length + ys.length) cp) (w.setRow b (vs.toList.take (xs'.length * ei.size) ++ flatCells u ys.length ei.size ++ vs.toList.drop (xs'.length * ei.size + (flatCells u ys.length ei.size).length)).toArray) := by
                rw [hrun, flatCells_length, hei1, Nat.mul_one, Nat.mul_one]
              have hspl : (vs.toList.take (xs'.length * ei.size) ++ flatCells u ys.length ei.size ++ vs.toList.drop (xs'.length * ei.size + (flatCells u ys.length ei.size).length)).toArray = spl vs (xs'.length * ei.size) (flatCells u ys.length ei.size).toArray := by simp [spl]
              rw [hspl] at hrun
              have hfs : xs'.length * ei.size + (flatCells u ys.length ei.size).toArray.size ≤ vs.size := by simpa using hfit
              have hsz' := spl_size vs (xs'.length * ei.size) (flatCells u ys.length ei.size).toArray hfs
              obtain ⟨g1, g2⟩ := hws.adopt (o' := .arr e' ei.size (xs' ++ ys)) hob rfl hb (grownBy_setRow w b (spl vs (xs'.length * ei.size) (flatCells u ys.length ei.size).toArray)) (shape_setRow hh hsz')
                (fun m' hf => .inr ⟨b, cp, _, rfl, setRow_heap w b vs _ e' _ hh, by simpa using hroom, q2, by rw [hsz', q3], fun z hz' => by
                    rcases List.mem_append.1 hz' with h1 | h1
                    · exact q4 z h1
                    · exact ysz z h1, fun i z hi j y hy => by
                    rw [spl_get _ _ _ _ hfs]
                    by_cases hix : i < xs'.length
                    · rw [List.getElem?_append_left hix] at hi
                      have hj : j < ei.size := by have := (List.getElem?_eq_some_iff.1 hy).1; rw [q4 z (List.mem_of_getElem? hi)] at this; exact this
                      have := xrel i z hi j hj
                      rw [if_neg (by omega)]
                      obtain ⟨v, p1, p2⟩ := hr i z hi j y hy
                      exact ⟨v, p1, p2.mono hf.ext⟩
                    · rw [List.getElem?_append_right (by omega)] at hi
                      obtain ⟨p1, p2⟩ := yrel _ z hi j y hy
                      have p3 := (List.getElem?_eq_some_iff.1 p1).1
                      have p4 : i * ei.size = xs'.length * ei.size + (i - xs'.length) * ei.size := by rw [← Nat.add_mul]; congr 1; omega
                      rw [if_pos (by simp only [List.size_toArray]; omega)]
                      exact ⟨_, by rw [show i * ei.size + j - xs'.length * ei.size = (i - xs'.length) * ei.size + j by omega]; simpa using p1, p2.mono hf.ext⟩⟩)
              refine fin _ _ _ (by rw [hse, hxv]; exact hrun) g1 g2 (slv _ ?_ hroom)
              simp [World.shape?, setRow_heap w b vs _ e' _ hh, hsz', q3]
            · have holds : ∀ (j : Nat) (v : Value), (vs.toList.take (xs'.length * ei.size))[j]? = some v → w.cell? ((⟨b, 0, none⟩ : Addr).add j) = some v := fun j v hj => by
                rw [Addr.add_lit, Nat.zero_add, cell_of_row w b j vs e' (0, 0) hh]
                rw [List.getElem?_take] at hj
                split at hj
                · simpa using hj
                · cases hj
              have hrun := Lib.run_append_grow_string (P := P) (w := w) t tu o.type e' ti ei.zero hut hutu hti tz ⟨b, 0, none⟩ xs'.length cp (vs.toList.take (xs'.length * ei.size)) (by rw [ts]; simp; omega) holds ⟨str.toArray⟩ (by rw [hbs]; omega) (by rw [hbs]; omega) (by rw [hbs]; exact growslice_fits (by omega) (by rw [tb]; exact hbound))
              rw [hfc, hbs] at hrun
              obtain ⟨c1, c2⟩ := capw cp
              refine newrow _ _ c1 c2 ?_ ?_ (by rw [hse, hxv]; exact hrun) hkill
              · have : (vs.toList.take (xs'.length * ei.size)).length = xs'.length * ei.size := by simp; omega
                simp only [Array.size_append, List.size_toArray, flatCells_length, size_zeroCells, hz, this, ← Nat.add_mul]
                congr 1; omega
              · intro i z hi
                have hl1 : (vs.toList.take (xs'.length * ei.size)).length = xs'.length * ei.size := by simp; omega
                by_cases hix : i < xs'.length
                · rw [List.getElem?_append_left hix] at hi
                  refine ⟨q4 z (List.mem_of_getElem? hi), fun j y hy => ?_⟩
                  have hj : j < ei.size := by have := (List.getElem?_eq_some_iff.1 hy).1; rw [q4 z (List.mem_of_getElem? hi)] at this; exact this
                  have hlt := xrel i z hi j hj
                  obtain ⟨v, p1, p2⟩ := hr i z hi j y hy
                  refine ⟨v, ?_, p2⟩
                  rw [Array.getElem?_append_left (by simp; omega), Array.getElem?_append_left (by simp; omega), List.getElem?_toArray, List.getElem?_take, if_pos hlt]
                  simpa using p1
                · rw [List.getElem?_append_right (by omega)] at hi
                  refine ⟨ysz z (List.mem_of_getElem? hi), fun j y hy => ?_⟩
                  obtain ⟨p1, p2⟩ := yrel _ z hi j y hy
                  have p3 := (List.getElem?_eq_some_iff.1 p1).1
                  have p4 : i * ei.size = xs'.length * ei.size + (i - xs'.length) * ei.size := by rw [← Nat.add_mul]; congr 1; omega
                  refine ⟨_, ?_, p2⟩
                  rw [Array.getElem?_append_left (by simp only [Array.size_append, List.size_toArray, hl1]; omega), Array.getElem?_append_right (by simp only [List.size_toArray, hl1]; omega)]
                  simp only [List.size_toArray, hl1]
                  rw [show i * ei.size + j - xs'.length * ei.size = (i - xs'.length) * ei.size + j by omega]
                  simpa using p1
        · rcases hws.obj id _ hob with ⟨_, e1⟩ | ⟨b', _, _, hb', _⟩
          · exact fromNone hse e1 hkill
          · rw [hb] at hb'; cases hb'
        · omega
      · cases hb
    · cases hb
  · cases hb

end
end Go.Abs
namespace Go.Abs
open Go Go.RowKit

/-- A plain value as Lean data. -/
def AV.val : AV → Option Value
  | .bool b => some (.bool b)
  | .int k n => some (.int k n)
  | .str s => some (.string ⟨s.toArray⟩)
  | _ => none

theorem PVR.val {w : World} {I : Nat → Prop} {v u : Value} {x : AV} (h : PVR w I v x) (hx : x.val = some u) : v = u := by
  cases x <;> simp [AV.val] at hx <;> subst hx <;> cases h <;> rfl

theorem vals_eq {w : World} {I : Nat → Prop} : ∀ (args : List AV) (us : List Value) (vs : List Value), args.map AV.val = us.map some → vs.length = args.length →
    (∀ (i : Nat) (v : Value) (x : AV), vs[i]? = some v → args[i]? = some x → PVR w I v x) → vs = us
  | [], [], [], _, _, _ => rfl
  | x :: args, u :: us, v :: vs, h, hl, hv => by
    simp only [List.map_cons, List.cons.injEq] at h
    have h1 := (hv 0 v x rfl rfl).val h.1
    have h2 := vals_eq args us vs h.2 (by simpa using hl) (fun i v' x' a b => hv (i + 1) v' x' a b)
    rw [h1, h2]
  | [], _ :: _, _, h, _, _ => by simp at h
  | _ :: _, [], _, h, _, _ => by simp at h
  | [], _, _ :: _, _, hl, _ => by simp at hl
  | _ :: _, _, [], _, hl, _ => by simp at hl

/-- A contract of the kit's over plain arguments, as one of the machine's. -/
theorem PC_ext {P : Program} [Env P] {f : FuncId} {args : List AV} {us : List Value} {R : AV → Prop} (hc : Callable P f) (hu : args.map AV.val = us.map some)
    (h : ∀ (w : World) (I : Nat → Prop), EOK P w I → Calls P f us.toArray w fun e w' => (∃ (v : Value) (r : AV), R r ∧ e = .returned v ∧ PVR w' I v r) ∧ Below w.heap.size w w') : PC P f args R :=
  ⟨hc, fun w I vals hE hI hl hv => by
    have : vals = us.toArray := by
      rcases vals with ⟨vs⟩
      rw [vals_eq args us vs hu (by simpa using hl) (fun i v x a b => hv i v x (by simpa using a) b)]
    subst this
    refine (h w I hE).mono ?_
    rintro e w' ⟨⟨v, r, h1, h2, h3⟩, hb⟩
    exact ⟨v, I, r, h1, h2, hb, fun _ h => h, fun b hb' => ⟨Nat.lt_of_lt_of_le (hI b hb') hb.size, .inl hb'⟩, h3⟩⟩
end Go.Abs
/- What strings.Builder asks: pointers through unsafe.Pointer, unsafe.SliceData, unsafe.String; nil interfaces. -/
namespace Go.Abs
open Go Go.RowKit
section
variable {P : Program} [Env P] {T : TT} {nt k : Nat} {Q : Exit → AS → Prop} {S : AS} {ops : Array Oper} {o : Oper} {R : AS → Prop}

/-- A step that only yields a value. -/
theorem AStep_val {wr : Bool} (hw : wantedA ops S o = some true) (hd : dstOk nt o = true) {r : AV}
    (h : ∀ (W0 : World) (I0 : Nat → Prop) (w : World) (I : Nat → Prop) (m : Nat → Option Nat) (a : Act), WS W0 I0 w I m S.hp → SlotsR nt S.sl a w I m S.hp.length →
      ∃ v, (execOp a.eval o).run P w = .ok (.value v) w ∧ VR w I m S.hp.length v r) (hR : R (S.putD o.dst r)) : AStep P nt k wr ops o S R := fun C a w K Q hst hK => by
  unfold OpW
  rw [if_pos (hst.wanted hw)]
  obtain ⟨I, m, hws, hsl, hk, hE⟩ := hst
  obtain ⟨v, hrun, hv⟩ := h _ _ w I m a hws hsl
  unfold wpA
  rw [hrun]
  exact hK _ _ w hR (St.value hsl hk hE hws (Fut.refl _ _ _ _) (Nat.le_refl _) (dstOk_spec hd) hv) (fun _ => Held.refl w)

/-- An interface against the literal nil. -/
theorem AStep_nilI (hT : TOk P T) {wr : Bool} (hw : wantedA ops S o = some true) (hd : dstOk nt o = true) {t u : TypeId} {x : Operand} {b : Bool} (ho : o.op = .binOp (if b then .eql else .neq) t x (.const .nilIface) u)
    {it : TI} {ms : Array (String × TypeId)} (ht : look T t = some it) (hit : it.desc = .interface ms) (hx : rho S.sl x = some .nili) (hR : R (S.putD o.dst (.bool b))) : AStep P nt k wr ops o S R :=
  AStep_val hw hd (fun W0 I0 w I m a hws hsl => by
    have h1 := (rho_sound hsl hx).nili_inv
    have hu := hT.und ht
    rw [hit] at hu
    have hE : ∀ d : Nat, (Op.equalIn (d + 1) t .nilIface .nilIface).run P w = .ok true w := fun d => by simp [Op.equalIn, run_underlying hu]
    refine ⟨.bool b, ?_, .pure (.bool _)⟩
    have h2 : a.eval (.const .nilIface) = .nilIface := rfl
    have hG : ∀ op, (eqGuard op t x (.const .nilIface) .nilIface .nilIface).run P w = .ok () w := fun op => by cases op <;> simp [eqGuard]
    cases b <;> simp [execOp, ho, h1, h2, hG, binOp, Op.equal, Op.maxDepth, hE 9999]) hR

/-- An interface that holds something against the literal nil. -/
theorem AStep_nilIfc (hT : TOk P T) {wr : Bool} (hw : wantedA ops S o = some true) (hd : dstOk nt o = true) {t u : TypeId} {x : Operand} {b : Bool} (ho : o.op = .binOp (if b then .neq else .eql) t x (.const .nilIface) u)
    {it : TI} {ms : Array (String × TypeId)} (ht : look T t = some it) (hit : it.desc = .interface ms) (hx : rho S.sl x = some .ifc) (hR : R (S.putD o.dst (.bool b))) : AStep P nt k wr ops o S R :=
  AStep_val hw hd (fun W0 I0 w I m a hws hsl => by
    obtain ⟨tu, uu, h1⟩ := (rho_sound hsl hx).ifc_inv
    have hu := hT.und ht
    rw [hit] at hu
    have hE : ∀ d : Nat, (Op.equalIn (d + 1) t (.iface tu uu) .nilIface).run P w = .ok false w := fun d => by simp [Op.equalIn, run_underlying hu]
    refine ⟨.bool b, ?_, .pure (.bool _)⟩
    have h2 : a.eval (.const .nilIface) = .nilIface := rfl
    have hG : ∀ op, (eqGuard op t x (.const .nilIface) (.iface tu uu) .nilIface).run P w = .ok () w := fun op => by cases op <;> simp [eqGuard]
    cases b <;> simp [execOp, ho, h1, h2, hG, binOp, Op.equal, Op.maxDepth, hE 9999]) hR

/-- append(b, s...), as the walks use it. -/
theorem AStep_appendStrS (hT : TOk P T) (hw : wantedA ops S o = some true) {s x : Operand} {t tu e : TypeId} (ho : o.op = .call ⟨.builtin .append, #[s, x], #[t, tu]⟩) {it iu ei : TI} (htu : look T tu = some iu) (hiu : iu.desc = .string) (hei1 : ei.size = 1) (ht : look T t = some it) (hit : it.desc = .slice e) (he : look T e = some ei)
    (hz : ei.zero.cells.size = ei.size) (hsz : 0 < ei.size) {sv : AV} (hs : rho S.sl s = some sv) {str : List UInt8} (hx : rho S.sl x = some (.str str)) (hd : dstOk nt o = true)
    (hR : match appBase S e ei.size sv with
      | some (xs, H1) => ((xs.length + str.length) * ei.bytes ≤ 140737488355328 ∧ xs.length + str.length ≤ 9223372036854775807) ∧ R (({ S with hp := H1 ++ [.arr e ei.size (xs ++ str.map byteAV)] } : AS).putD o.dst (.sl S.hp.length ei.size 0 (xs.length + str.length)))
      | none => False) : AStep P nt k true ops o S R := by
  cases hb : appBase S e ei.size sv with
  | none => rw [hb] at hR; exact hR.elim
  | some p =>
    obtain ⟨xs, H1⟩ := p
    rw [hb] at hR
    exact AStep_appendStr hT hw ho htu hiu hei1 ht hit he hz hsz hs hx hb hR.1.1 hR.1.2 hd hR.2
end
end Go.Abs
namespace Go.Abs
open Go Go.RowKit
/-! A range over a function: the loop's record is an object of the caller's own ('.lp'); the function that is handed to the iterator is '.yld'. -/

section
variable {W0 w : World} {I0 I : Nat → Prop} {m : Nat → Option Nat} {H : List AObj}
theorem WS.addI (h : WS W0 I0 w I m H) {l : Nat} (h1 : l < w.heap.size) (h2 : W0.heap.size ≤ l) (h3 : ∀ (id : Nat) (o : AObj), H[id]? = some o → o.live = true → m id ≠ some l) : WS W0 I0 w (fun b => I b ∨ b = l) m H := by
  have hf : Fut H.length w I m w (fun b => I b ∨ b = l) m := ⟨⟨fun _ h => .inl h, fun _ _ => rfl⟩, fun _ _ => rfl, fun _ _ h => h⟩
  refine ⟨h.below, fun b hb => .inl (h.i0 b hb), fun b hb => ?_, fun id o ho => (h.obj id o ho).mono hf (Nat.le_refl _) (fun _ _ _ => rfl), fun id o b ho hl hm => ?_, h.inj⟩
  · rcases hb with hb | rfl
    · exact h.iw b hb
    · exact ⟨h1, .inr h2⟩
  · have := h.own id o b ho hl hm
    refine ⟨this.1, fun hc => ?_, this.2.2⟩
    rcases hc with hc | rfl
    · exact this.2.1 hc
    · exact h3 id o ho hl hm
theorem WS.revive (h : WS W0 I0 w I m H) {q l : Nat} {o' : AObj} (ho : H[q]? = some .dead) (hm : m q = some l) (h1 : l < w.heap.size) (h2 : W0.heap.size ≤ l) (hI : ¬ I l) (h3 : ∀ (id : Nat) (o : AObj), H[id]? = some o → o.live = true → m id ≠ some l)
    (hO : ObjR w I m H.length (some l) o') : WS W0 I0 w I m (H.set q o') := by
  have hq : q < H.length := (List.getElem?_eq_some_iff.1 ho).1
  have hcase : ∀ (k : Nat) (p : AObj), (H.set q o')[k]? = some p → (k ≠ q ∧ H[k]? = some p) ∨ (k = q ∧ p = o') := fun k p hp => by
    by_cases hk : k = q
    · subst hk
      rw [List.getElem?_set_self hq] at hp
      exact .inr ⟨rfl, (Option.some.inj hp).symm⟩
    · rw [List.getElem?_set_ne (by omega)] at hp; exact .inl ⟨hk, hp⟩
  refine ⟨h.below, h.i0, h.iw, fun k p hp => ?_, fun k p c hp lp mc => ?_, fun i j oi oj c hi hj li lj mi mj => ?_⟩
  · rw [List.length_set]
    rcases hcase k p hp with ⟨_, h5⟩ | ⟨rfl, rfl⟩
    · exact h.obj k p h5
    · rw [hm]; exact hO
  · rcases hcase k p hp with ⟨_, h5⟩ | ⟨rfl, rfl⟩
    · exact h.own k p c h5 lp mc
    · rw [hm] at mc; cases mc; exact ⟨h2, hI, h1⟩
  · rcases hcase i oi hi with ⟨a1, a2⟩ | ⟨rfl, rfl⟩
    · rcases hcase j oj hj with ⟨b1, b2⟩ | ⟨rfl, rfl⟩
      · exact h.inj i j oi oj c a2 b2 li lj mi mj
      · rw [hm] at mj; cases mj; exact absurd mi (h3 i oi a2 li)
    · rcases hcase j oj hj with ⟨b1, b2⟩ | ⟨rfl, rfl⟩
      · rw [hm] at mi; cases mi; exact absurd mj (h3 j oj b2 lj)
      · rfl
end

/-- The parameters of a round. -/
def putMany : List (Nat × AV) → List Tmp → List AV → List (Nat × AV)
  | sl, p :: ps, x :: xs => putMany (put sl p x) ps xs
  | sl, _, _ => sl
theorem putMany_sound {w : World} {I : Nat → Prop} {m : Nat → Option Nat} {n nt : Nat} : ∀ (ps : List Tmp) (xs : List AV) (vs : List Value) (sl : List (Nat × AV)) (tm : Array Value), ps.length = xs.length → vs.length = xs.length → (ps.all fun p => decide (p < nt)) = true →
    (∀ (i : Nat) (v : Value) (x : AV), vs[i]? = some v → xs[i]? = some x → VR w I m n v x) → tm.size = nt → (∀ (t : Nat) (x : AV), look sl t = some x → ∃ v, tm[t]? = some v ∧ VR w I m n v x) →
    ((ps.zip vs).foldl (fun (tm : Array Value) (p : Tmp × Value) => tm.setIfInBounds p.1 p.2) tm).size = nt ∧ ∀ (t : Nat) (x : AV), look (putMany sl ps xs) t = some x → ∃ v, ((ps.zip vs).foldl (fun (tm : Array Value) (p : Tmp × Value) => tm.setIfInBounds p.1 p.2) tm)[t]? = some v ∧ VR w I m n v x
  | [], _, _, sl, tm, _, _, _, _, h1, h2 => ⟨h1, h2⟩
  | p :: ps, [], _, _, _, hl, _, _, _, _, _ => by cases hl
  | p :: ps, x :: xs, [], _, _, _, hl, _, _, _, _ => by cases hl
  | p :: ps, x :: xs, v :: vs, sl, tm, hl1, hl2, hp, hv, h1, h2 => by
    simp only [List.all_cons, Bool.and_eq_true, decide_eq_true_eq] at hp
    simp only [List.zip_cons_cons, List.foldl_cons, putMany]
    refine putMany_sound ps xs vs (put sl p x) _ (by simpa using hl1) (by simpa using hl2) hp.2 (fun i v x a b => hv (i + 1) v x a b) (by simpa using h1) (fun t y hy => ?_)
    rw [look_put] at hy
    by_cases ht : t = p
    · subst ht
      rw [if_pos rfl] at hy
      cases hy
      exact ⟨v, by simp [h1, hp.1], hv 0 v _ rfl rfl⟩
    · rw [if_neg ht] at hy
      obtain ⟨u, hu, hr⟩ := h2 t y hy
      exact ⟨u, by rw [Array.getElem?_setIfInBounds_ne (Ne.symm ht)]; exact hu, hr⟩

section
variable {P : Program} [Env P] {T : TT} {nt k : Nat} {S : AS} {ops : Array Oper} {o : Oper} {R : AS → Prop}

/-- How a round ends: on; by a jump that is put off. -/
def RoundQ (q : Nat) (Rr : Option Code → List AObj → Prop) : Exit → AS → Prop
  | .normal, S => S.hp[q]? = some .dead ∧ Rr none S.hp
  | .ret, S => S.hp[q]? = some .dead ∧ Rr (some .ret) S.hp
  | .exit id, S => S.hp[q]? = some .dead ∧ Rr (some (.exit id)) S.hp
  | _, _ => False

theorem run_callYield {a : Act} {w : World} {cf : Operand} {args : Array Operand} {ts : Array TypeId} (ho : o.op = .call ⟨.value cf, args, ts⟩) {l : Nat} (hf : a.eval cf = .func (.yield l) #[] #[]) {r : Loop} (hr : w.heap[l]? = some (.loop r)) (hs : args.size = r.params.size) :
    (execOp a.eval o).run P w = .ok (.round l r.fn ((r.params.zip (args.map a.eval)).foldl (fun tmps (t, a) => tmps.setIfInBounds t a) r.tmps) r.assign r.body) w := by
  have := run_yield (P := P) (args := args.map a.eval) hr (by simpa using hs)
  simp only [execOp, ho, resolve, hf, Deferred.ofValue, invoke]
  simp [this]

/-- yield, called: a round of the loop. -/
theorem AStep_yield {cf : Operand} {args : Array Operand} {ts : Array TypeId} (hw : wantedA ops S o = some true) (ho : o.op = .call ⟨.value cf, args, ts⟩) {q : Nat} (hcf : rho S.sl cf = some (.yld q)) {xs : List AV} (hxs : allSome (args.toList.map (rho S.sl)) = some xs)
    {nt' : Nat} {sl' : List (Nat × AV)} {ps : List Tmp} {asg body : Code} (hob : S.hp[q]? = some (.lp true none nt' sl' ps asg body)) (hlen : ps.length = xs.length) (hps : (ps.all fun p => decide (p < nt')) = true) (hd : dstOk nt o = true)
    (Rr : Option Code → List AObj → Prop)
    (hround : AWP P nt' S.hp.length asg (thenQ (AWP P nt' S.hp.length body (RoundQ q Rr)) (fun _ _ => False)) ⟨putMany sl' ps xs, S.hp.set q .dead⟩)
    (hR : ∀ (jump : Option Code) (H' : List AObj), Rr jump H' → R (({ S with hp := H'.set q (.lp jump.isNone jump nt' sl' ps asg body) } : AS).putD o.dst (.bool jump.isNone))) : AStep P nt k true ops o S R := fun C a w K Q hst hK => by
  unfold OpW
  rw [if_pos (hst.wanted hw)]
  obtain ⟨I, m, hws, hsl, hk, hE⟩ := hst
  obtain ⟨l, hml, hq, hev⟩ := (rho_sound hsl hcf).yld_inv
  obtain ⟨e5, e6⟩ := rho_all (g := true) rfl hsl hxs
  obtain ⟨b, r, hb, hh, q1, q2, q3, q4, q5, q6, q7⟩ := hws.obj q _ hob
  obtain rfl : l = b := by rw [hml] at hb; exact Option.some.inj hb
  obtain ⟨o1, o2, o3⟩ := hws.own q _ l hob rfl hml
  have hsz : args.size = r.params.size := by rw [q3]; simp at e5 ⊢; omega
  unfold wpA
  rw [run_callYield ho hev hh hsz]
  simp only [uponA]
  have hfold : (r.params.zip (args.map a.eval)).foldl (fun tmps (t, a) => tmps.setIfInBounds t a) r.tmps = (ps.zip (args.map a.eval).toList).foldl (fun (tm : Array Value) (p : Tmp × Value) => tm.setIfInBounds p.1 p.2) r.tmps := by
    rw [q3, ← Array.foldl_toList, Array.toList_zip]
  rw [hfold]
  obtain ⟨s1, s2⟩ := putMany_sound (w := w) (I := I) (m := m) (n := S.hp.length) ps xs (args.map a.eval).toList sl' r.tmps hlen (by simpa using e5) hps (fun i v x hv hx => e6 i v x (by simpa using hv) hx) q6 q7
  generalize hTM : (ps.zip (args.map a.eval).toList).foldl (fun (tm : Array Value) (p : Tmp × Value) => tm.setIfInBounds p.1 p.2) r.tmps = TM at *
  refine roundIn_of_wpIn trivial ?_
  obtain ⟨f1, f2⟩ := hws.freeze hob rfl hml
  rw [q4, q5]
  have hI1 : ∀ b, I b → b ≠ l := fun b hb e => o2 (e ▸ hb)
  refine wpIn_mono (hround ⟨C.W0, C.I0, w, fun c => I c ∨ c = l, m, C.hE, some l⟩ { tmps := TM, defers := [] } w ⟨_, m, f1, ⟨s1, trivial, fun t x hx => by
    obtain ⟨v, hv, hr⟩ := s2 t x hx
    exact ⟨v, hv, by simpa using hr.mono f2 (Nat.le_refl _)⟩⟩, by simp, ⟨.refl _ _ _ _, (fun h => (by cases h)), fun l' hl' => by cases hl'; exact ⟨.inr rfl, r, hh⟩⟩⟩) ?_
  rintro e a2 w2 ⟨S2, hQ, I2, m2, g1, g2, g3, g4⟩
  cases e with
  | normal =>
    have hI2l : I2 l := g4.fut.ext.sub l (.inr rfl)
    have hh2 : w2.heap[l]? = some (.loop r) := (g4.fut.ext.imm l (.inr rfl)).trans hh
    have hl2 : l < w2.heap.size := (Array.getElem?_eq_some_iff.1 hh2).1
    refine ⟨w2.putObj l (.loop { r with state := .busy }), run_beginRound hh2 (by rw [q1]; rfl), ?_⟩
    have hsh : Shut w2 (w2.putObj l (.loop { r with state := .busy })) I2 (· = l) := ⟨World.putObj_size, fun b hb => World.putObj_heap_other hb, fun b o hb ho => by subst hb; rw [hh2] at ho; cases ho; rfl⟩
    have hbl : Below C.W0.heap.size w2 (w2.putObj l (.loop { r with state := .busy })) := ⟨rfl, rfl, rfl, by simp, fun b hb => World.putObj_heap_other (by omega)⟩
    have hnI0 : ∀ b, b = l → ¬ C.I0 b := fun b hb h => by subst hb; exact o2 (hws.i0 _ h)
    have g1' := g1.shut hsh hbl hnI0 (fun b hb => by subst hb; exact hI2l)
    have hno : ∀ (id : Nat) (o : AObj), S2.hp[id]? = some o → o.live = true → m2 id ≠ some l := fun id o ho hl hm => (g1.own id o l ho hl hm).2.1 hI2l
    have g1'' := g1'.addI (l := l) (by simpa using hl2) o1 hno
    have hIeq : (fun b => (I2 b ∧ ¬ b = l) ∨ b = l) = I2 := by
      funext b
      apply propext
      by_cases hb : b = l
      · subst hb; simp [hI2l]
      · simp [hb]
    rw [hIeq] at g1''
    have hfa : Fut S2.hp.length (w2.putObj l (.loop { r with state := .busy })) (fun b => I2 b ∧ ¬ b = l) m2 (w2.putObj l (.loop { r with state := .busy })) I2 m2 := ⟨⟨fun _ h => h.1, fun _ _ => rfl⟩, fun _ _ => rfl, fun _ _ h => h⟩
    have g2' := g2.shut hsh
    have hhb : (w2.putObj l (.loop { r with state := .busy })).heap[l]? = some (.loop { r with state := .busy }) := World.putObj_heap_same hl2
    refine wpIn_mono (hQ ⟨C.W0, C.I0, w2.putObj l (.loop { r with state := .busy }), I2, m2, C.hE, some l⟩ a2 _ ⟨I2, m2, g1'', ⟨g2'.1, trivial, fun t x hx => by
      obtain ⟨v, hv, hr⟩ := g2'.2.2 t x hx
      exact ⟨v, hv, hr.mono hfa (Nat.le_refl _)⟩⟩, g3, ⟨.refl _ _ _ _, (fun h => (by cases h)), fun l' hl' => by cases hl'; exact ⟨hI2l, _, hhb⟩⟩⟩) ?_
    rintro e4 a4 w4 ⟨S4, hQ4, I4, m4, k1, k2, k3, k4⟩
    have hI4l : I4 l := k4.fut.ext.sub l hI2l
    have hh4 : w4.heap[l]? = some (.loop { r with state := .busy }) := (k4.fut.ext.imm l hI2l).trans hhb
    have hl4 : l < w4.heap.size := (Array.getElem?_eq_some_iff.1 hh4).1
    have key : ∀ jump : Option Code, S4.hp[q]? = some .dead → Rr jump S4.hp → ∃ v w', (Instr.endRound l jump).run P w4 = .ok v w' ∧ K (a.put o.dst v) w' := fun jump hdq hrr => by
      refine ⟨_, _, run_endRound jump hh4, ?_⟩
      generalize hrec : ({ ({ r with state := .busy } : Loop) with state := if jump.isNone = true then LoopState.ready else LoopState.done, pending := jump } : Loop) = r5
      have hsh5 : Shut w4 (w4.putObj l (.loop r5)) I4 (· = l) := ⟨World.putObj_size, fun b hb => World.putObj_heap_other hb, fun b o hb ho => by subst hb; rw [hh4] at ho; cases ho; rfl⟩
      have hbl5 : Below C.W0.heap.size w4 (w4.putObj l (.loop r5)) := ⟨rfl, rfl, rfl, by simp, fun b hb => World.putObj_heap_other (by omega)⟩
      have k1' := k1.shut hsh5 hbl5 hnI0 (fun b hb => by subst hb; exact hI4l)
      have hfut : Fut S.hp.length w I m (w4.putObj l (.loop r5)) (fun b => I4 b ∧ ¬ b = l) m4 := by
        refine ⟨⟨fun b hb => ⟨k4.fut.ext.sub b (g4.fut.ext.sub b (.inl hb)), hI1 b hb⟩, fun b hb => ?_⟩, fun id hid => ?_, fun b s hs => ?_⟩
        · rw [hsh5.same b (hI1 b hb), k4.fut.ext.imm b (g4.fut.ext.sub b (.inl hb)), hsh.same b (hI1 b hb), g4.fut.ext.imm b (.inl hb)]
        · exact (k4.fut.ids id hid).trans (g4.fut.ids id hid)
        · exact (hsh5.fut (m := m) 0).shape _ _ (k4.fut.shape _ _ ((hsh.fut (m := m) 0).shape _ _ (g4.fut.shape _ _ hs)))
      have hm4 : m4 q = some l := (hfut.ids q hq).trans hml
      have k1'' := k1'.revive (o' := .lp jump.isNone jump nt' sl' ps asg body) hdq hm4 (by simpa using hl4) o1 (fun h => h.2 rfl) (fun id o ho hl hm => (k1.own id o l ho hl hm).2.1 hI4l)
        ⟨l, r5, rfl, World.putObj_heap_same hl4, by rw [← hrec], by rw [← hrec], by rw [← hrec]; exact q3, by rw [← hrec]; exact q4, by rw [← hrec]; exact q5, by rw [← hrec]; exact q6, fun t x hx => by
          obtain ⟨v, hv, hr⟩ := q7 t x hx
          exact ⟨v, by rw [← hrec]; exact hv, hr.mono hfut k3⟩⟩
      exact hK _ _ _ (hR jump S4.hp hrr) (St.value hsl hk hE k1'' hfut (by simpa using k3) (dstOk_spec hd) (.pure (.bool _))) (fun h => by cases h)
    cases e4 with
    | normal => exact key none hQ4.1 hQ4.2
    | ret => exact key (some .ret) hQ4.1 hQ4.2
    | exit id => exact key (some (.exit id)) hQ4.1 hQ4.2
    | goto l => exact hQ4.elim
    | panic c => exact hQ4.elim
    | outgrown => exact hQ4.elim
  | exit id => exact hQ.elim
  | goto l => exact hQ.elim
  | ret => exact hQ.elim
  | panic c => exact hQ.elim
  | outgrown => exact hQ.elim
theorem run_rangeCall {P : Program} {a : Act} {w : World} {g : Operand} {l : Nat} {f : FuncId} {us : Array Value} (hg : a.eval g = .func (.func f) #[] us) (hc : Callable P f) :
    ∃ d : Deferred, (resolve a.eval (rangeCall g l) 0).run P w = .ok d w ∧ (invoke d.target d.args).run P w = .ok (.enter f (#[.func (.yield l) #[] #[]] ++ us)) w := by
  obtain ⟨fn, h1, h2, h3⟩ := hc
  have h3' : ¬ fn.name = "runtime.NumGoroutine" := by simpa using h3
  refine ⟨_, by simp only [resolve, hg]; rfl, ?_⟩
  simp [Deferred.ofValue, invoke, callFunc, h1, h3', Act.eval]
  exact fun hb => absurd h2 (by simp [hb])

theorem enter_lays {C : Cx P} {a : Act} {w : World} {I : Nat → Prop} {m : Nat → Option Nat} {fnum : FuncId} {ps : List Tmp} {asg body : Code} (hE : FutC C k a w I m) : ∃ (l : Nat) (mark : List Nat) (w1 : World) (r : Loop), (Instr.enterLoop fnum a.tmps ps.toArray asg body C.ro).run P w = .ok (l, mark.map markOf) w1 ∧ Below w.heap.size w w1 ∧ w.heap.size ≤ l ∧ l < w1.heap.size ∧ w1.heap[l]? = some (.loop r) ∧
      r.state = .ready ∧ r.pending = none ∧ r.params = ps.toArray ∧ r.assign = asg ∧ r.body = body ∧ r.tmps = a.tmps ∧ mark.Nodup ∧ ∀ D ∈ mark, w.heap.size ≤ D ∧ D < w1.heap.size ∧ D ≠ l ∧ w1.heap[D]? = some (.deferred (some [])) := by
  cases hro : C.ro with
  | none =>
    refine ⟨_, [w.heap.size], _, ({ state := .ready, pending := none, fn := fnum, tmps := a.tmps, params := ps.toArray, assign := asg, body := body, defers := w.heap.size } : Loop), run_enterLoop_outer _ _ _ _ _, ⟨rfl, rfl, rfl, by simp; omega, fun b hb => ?_⟩, by omega, by simp, ?_, rfl, rfl, rfl, rfl, rfl, rfl, by simp, fun D hD => ?_⟩
    · simp only [World.alloc, Array.getElem?_push]
      rw [if_neg (by simp; omega), if_neg (by omega)]
    · have := World.alloc_heap_new (w.alloc (.deferred (some []))) (.loop { state := .ready, pending := none, fn := fnum, tmps := a.tmps, params := ps.toArray, assign := asg, body := body, defers := w.heap.size })
      rw [World.size_alloc] at this
      exact this
    · obtain rfl := List.mem_singleton.1 hD
      refine ⟨Nat.le_refl _, by simp; omega, by omega, ?_⟩
      simp only [World.alloc, Array.getElem?_push]
      simp
  | some l0 =>
    obtain ⟨_, r0, h0⟩ := hE.rnd l0 hro
    refine ⟨_, [], _, ({ state := .ready, pending := none, fn := fnum, tmps := a.tmps, params := ps.toArray, assign := asg, body := body, defers := r0.defers } : Loop), run_enterLoop_inner h0 _ _ _ _ _, ⟨rfl, rfl, rfl, by simp, fun b hb => ?_⟩, Nat.le_refl _, by simp, World.alloc_heap_new _ _, rfl, rfl, rfl, rfl, rfl, rfl, by simp, fun D hD => by cases hD⟩
    simp only [World.alloc, Array.getElem?_push]
    rw [if_neg (by omega)]

theorem range_end {C : Cx P} {a : Act} {w w1 w3 : World} {I I' : Nat → Prop} {m m' : Nat → Option Nat} {l : Nat} {mark : List Nat} {H' : List AObj} {rdy : Bool} {pend : Option Code} {nt' : Nat} {sl' : List (Nat × AV)} {ps' : List Tmp} {asg' body' : Code}
    (hws : WS C.W0 C.I0 w I m S.hp) (hsl : SlotsR nt S.sl a w I m S.hp.length) (hk : k ≤ S.hp.length) (hE : FutC C k a w I m) (hb1 : Below w.heap.size w w1) (hl0 : w.heap.size ≤ l) (hnd : mark.Nodup)
    (hmk : ∀ D ∈ mark, w.heap.size ≤ D ∧ D < w1.heap.size ∧ D ≠ l ∧ w1.heap[D]? = some (.deferred (some []))) (g2 : Fut S.hp.length w I m w1 (fun b => I b ∨ b ∈ mark) (upd m S.hp.length (some l)))
    (k1 : WS C.W0 C.I0 w3 I' m' H') (k2 : S.hp.length + 1 ≤ H'.length) (k3 : Fut (S.hp.length + 1) w1 (fun b => I b ∨ b ∈ mark) (upd m S.hp.length (some l)) w3 I' m') (hob : H'[S.hp.length]? = some (.lp rdy pend nt' sl' ps' asg' body')) :
    ∃ r3 : Loop, w3.heap[l]? = some (.loop r3) ∧ r3.state ≠ .busy ∧ r3.pending = pend ∧ St C nt k ⟨S.sl, H'.set S.hp.length .dead⟩ { a with defers := mark.map markOf ++ a.defers } (w3.putObj l (.loop { r3 with state := .exhausted })) := by
  obtain ⟨b, r3, hb3, hh3, p1, p2, p3, p4, p5, p6, p7⟩ := k1.obj _ _ hob
  have hm3 : m' S.hp.length = some l := (k3.ids _ (by omega)).trans (upd_same _ _ _)
  have hbl : b = l := by rw [hm3] at hb3; exact (Option.some.inj hb3).symm
  rw [hbl] at hh3
  refine ⟨r3, hh3, by rw [p1]; cases rdy <;> simp, p2, ?_⟩
  generalize hO : Obj.loop { r3 with state := .exhausted } = O
  obtain ⟨n1, n2⟩ := k1.set (w' := w3.putObj l O) (o' := .dead) hob rfl hm3 (grownBy_putObj' _ _ _) (fun s hs => by
    unfold World.shape? at hs; rw [hh3] at hs; cases hs) (fun _ _ => trivial)
  have hF : Fut S.hp.length w I m (w3.putObj l O) I' m' := (g2.trans (Nat.le_succ _) k3).trans (Nat.le_of_succ_le k2) n2
  refine ⟨I', m', n1, ⟨hsl.1, trivial, fun t x hx => ?_⟩, by simp; omega, ⟨hE.fut.trans hk hF, fun hro => ?_, fun l' hl' => ?_⟩⟩
  · obtain ⟨v, hv, hr⟩ := hsl.2.2 t x hx
    exact ⟨v, hv, hr.mono hF (by simp; omega)⟩
  · obtain ⟨ds, d1, d2, d3⟩ := hE.defs hro
    refine ⟨mark ++ ds, by simp [d1], List.nodup_append.2 ⟨hnd, d2, fun x hx y hy e => ?_⟩, fun D hD => ?_⟩
    · subst e
      have h1 := (hws.iw x (d3 x hy).1).1
      have h2 := (hmk x hx).1
      omega
    · rcases List.mem_append.1 hD with hD | hD
      · have hI1 : (fun b => I b ∨ b ∈ mark) D := .inr hD
        refine ⟨k3.ext.sub D hI1, ⟨fun hc => ?_, Nat.le_trans hws.below.size (hmk D hD).1⟩, ?_⟩
        · have h1 := (hws.iw D (hE.fut.ext.sub D hc)).1
          have h2 := (hmk D hD).1
          omega
        · rw [World.putObj_heap_other (hmk D hD).2.2.1, k3.ext.imm D hI1]; exact (hmk D hD).2.2.2
      · have := d3 D hD
        exact ⟨hF.ext.sub D this.1, this.2.1, by rw [hF.ext.imm D this.1]; exact this.2.2⟩
  · obtain ⟨h1, r', h2⟩ := hE.rnd l' hl'
    exact ⟨hF.ext.sub l' h1, r', by rw [hF.ext.imm l' h1]; exact h2⟩

set_option maxHeartbeats 2000000 in
/-- A range over a function whose contract is told, over the loop's record. -/
theorem AWP_rangeFunc {Q : Exit → AS → Prop} {g : Operand} {ps : List Tmp} {asg body : Code} {f : FuncId} {cs : List AV} (hg : rho S.sl g = some (.fn (.func f) [] cs)) {Rf : AV → List AObj → Prop}
    (hc : FC P f (.yld S.hp.length :: cs) (S.hp ++ [.lp true none nt S.sl ps asg body]) Rf)
    (hR : ∀ (r : AV) (H' : List AObj), Rf r H' → ∃ (rdy : Bool) (pend : Option Code) (nt' : Nat) (sl' : List (Nat × AV)) (ps' : List Tmp) (asg' body' : Code), H'[S.hp.length]? = some (.lp rdy pend nt' sl' ps' asg' body') ∧
      (match pend with
       | none => Q .normal ⟨S.sl, H'.set S.hp.length .dead⟩
       | some c => AWP P nt k c Q ⟨S.sl, H'.set S.hp.length .dead⟩)) : AWP P nt k (.rangeFunc g ps.toArray asg body) Q S := fun C a w hst => by
  obtain ⟨I, m, hws, hsl, hk, hE⟩ := hst
  obtain ⟨vs, us, hev, e1, e2, e3, e4⟩ := (rho_sound hsl hg).fn_inv
  have hvs : vs = #[] := Array.eq_empty_of_size_eq_zero (by simpa using e1)
  subst hvs
  refine wpIn_rangeFunc (F := FW C.ro) fun fnum _ => ?_
  -- what entering the loop lays
  have hent := enter_lays (C := C) (fnum := fnum) (ps := ps) (asg := asg) (body := body) hE
  obtain ⟨l, mark, w1, r, hrun, hb1, hl0, hl1, hh1, q1, q2, q3, q4, q5, q6, hnd, hmk⟩ := hent
  have g0 := hws.push' (I' := fun b => I b ∨ b ∈ mark) hb1 (fun _ h => .inl h) (fun b hb => by
    rcases hb with hb | hb
    · exact ⟨Nat.lt_of_lt_of_le (hws.iw b hb).1 hb1.size, .inl hb⟩
    · exact ⟨(hmk b hb).2.1, .inr (hmk b hb).1⟩) (some l) (fun b hb => by
      cases hb
      exact ⟨hl0, hl1, fun hc => by
        rcases hc with hc | hc
        · have := (hws.iw l hc).1; omega
        · exact (hmk l hc).2.2.1 rfl⟩) (.lp true none nt S.sl ps asg body) (fun m' hf' hm' => ⟨l, r, rfl, hh1, by rw [q1]; rfl, q2, q3, q4, q5, by rw [q6]; exact hsl.1, fun t x hx => by
        obtain ⟨v, hv, hr⟩ := hsl.2.2 t x hx
        exact ⟨v, by rw [q6]; exact hv, hr.mono hf' (Nat.le_succ _)⟩⟩)
  obtain ⟨g1, g2⟩ := g0
  obtain ⟨d, hd1, hd2⟩ := run_rangeCall (w := w1) (l := l) hev hc.1
  refine ⟨l, mark.map markOf, w1, d, w1, f, _, w1, hrun, hd1, fun _ _ => trivial, hd2, (fun h => (by cases h)), callsIn_FW ?_⟩
  have hlen : (S.hp ++ [AObj.lp true none nt S.sl ps asg body]).length = S.hp.length + 1 := by simp
  refine (hc.2 C.W0 C.I0 w1 _ _ (#[.func (.yield l) #[] #[]] ++ us) C.hE g1 (by simp at e3 ⊢; omega) (fun i v x hv hx => ?_)).mono ?_
  · rcases i with _ | i
    · rw [Array.getElem?_append_left (by simp)] at hv
      simp at hv hx
      subst hv; subst hx
      exact .yld _ _ (by simp) (upd_same _ _ _)
    · rw [Array.getElem?_append_right (by simp)] at hv
      simp at hv hx
      exact (e4 i v x hv hx).mono g2 (by simp)
  rintro e w3 ⟨v, rv, H', I', m', hRf, rfl, k1, k2, k3, k4⟩
  rw [hlen] at k2 k3
  obtain ⟨rdy, pend, nt', sl', ps', asg', body', hob, hcont⟩ := hR rv H' hRf
  obtain ⟨r3, hh3, hst3, hp3, hstq⟩ := range_end hws hsl hk hE hb1 hl0 hnd hmk g2 k1 k2 k3 hob
  refine ⟨pend, _, (run_endLoop hh3 hst3).trans (congrArg (fun x => Result.ok x _) hp3), ?_⟩
  cases pend with
  | none => exact ⟨_, hcont, hstq⟩
  | some c => exact hcont C _ _ hstq
end
end Go.Abs
