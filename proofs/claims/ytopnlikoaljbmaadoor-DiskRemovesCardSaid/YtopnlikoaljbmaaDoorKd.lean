/- Part Kd of the proof: an abstract machine over the model, and what the functions of the program hand back in its terms. No condition. -/
import Derived.Test.YtopnlikoaljbmaaDoorKc
import Derived.Test.YtopnlikoaljbmaaDoorKb
import Derived.Test.YtopnlikoaljbmaaDoorCards
import Derived.Test.YtopnlikoaljbmaaDoorTie
import Derived.Lib.LaidTab
set_option linter.all false
set_option maxRecDepth 100000
namespace Go.Abs
open Go Go.Proofs
set_option linter.unusedSimpArgs false

set_option maxHeartbeats 1000000 in
theorem pc38 (s b : List UInt8) : PC Tryd.prog 38 [.str s, .iptr [.str b]] (fun r => r = .str b) := by
  refine PC_body tOk Tryd.func38 rfl Tryd.results38 rfl (by simp [Tryd.ntmps38]) ?_
  rw [Tryd.ntmps38]
  simp only [argSlots]
  repeat (first
    | (refine AWP_seq (AWP_regS tOk rfl ?_); simp)
    | (refine AWP_regS tOk rfl ?_; simp)
    | (refine AWP_skip ?_; simp)
    | (refine AWP_exit ?_; simp)
    | (refine AWP_ret ?_; simp)
    | refine AWP_block ?_
    | refine AWP_seq ?_)
set_option maxHeartbeats 1000000 in
theorem pc43 (s b : List UInt8) (h : s.length + b.length ≤ 9223372036854775807) : PC Tryd.prog 43 [.str s, .iptr [.str b]] (fun r => r = .str (s ++ b)) := by
  refine PC_body tOk Tryd.func43 rfl Tryd.results43 rfl (by simp [Tryd.ntmps43]) ?_
  rw [Tryd.ntmps43]
  simp only [argSlots]
  repeat (first
    | (refine AWP_seq (AWP_regS tOk rfl ?_); simp [h])
    | (refine AWP_regS tOk rfl ?_; simp [h])
    | (refine AWP_skip ?_; simp [h])
    | (refine AWP_exit ?_; simp [h])
    | (refine AWP_ret ?_; simp [h])
    | refine AWP_block ?_
    | refine AWP_seq ?_)

set_option maxHeartbeats 1000000 in
theorem pc20 (a b : List Int) : PC Tryd.prog 20 [.list (a.map encI), .list (b.map encI)] (fun r => r = .bool (decide (a = b))) := by
  refine PC_body tOk Tryd.func20 rfl Tryd.results20 rfl (by simp [Tryd.ntmps20]) ?_
  rw [Tryd.ntmps20]
  simp only [argSlots]
  refine AWP_len 0 rfl (fun hlen => ?_)
  rw [List.length_map] at hlen
  repeat (first
    | (refine AWP_seq (AWP_regS tOk rfl ?_); simp)
    | (refine AWP_regS tOk rfl ?_; simp)
    | (refine AWP_skip ?_; simp)
    | (refine AWP_exit ?_; simp)
    | (refine AWP_ret ?_; simp)
    | refine AWP_block ?_
    | refine AWP_seq ?_)
  refine AWP_cond2 rfl (fun h => ?_) (fun h1 => ?_)
  · repeat (first
      | (refine AWP_seq (AWP_regS tOk rfl ?_); simp)
      | (refine AWP_regS tOk rfl ?_; simp)
      | (refine AWP_skip ?_; simp)
      | (refine AWP_exit ?_; simp)
      | (refine AWP_ret ?_; simp)
      | refine AWP_block ?_
      | refine AWP_seq ?_)
    rintro rfl
    simp at h
  have hl : a.length = b.length := by simp at h1; omega
  repeat (first
    | (refine AWP_seq (AWP_regS tOk rfl ?_); simp)
    | (refine AWP_regS tOk rfl ?_; simp)
    | (refine AWP_skip ?_; simp)
    | (refine AWP_exit ?_; simp)
    | (refine AWP_ret ?_; simp)
    | refine AWP_block ?_
    | refine AWP_seq ?_)
  refine AWP_countI a.length (fun j => a.take j = b.take j) (fun j => [(0, .list (a.map encI)), (1, .list (b.map encI)), (12, .i a.length), (13, .i j)]) (fun _ => []) rfl (by simp) (by simp) (by simp) (by simp) (by simp) ?_
  intro j hj hI ih
  repeat (first
    | (refine AWP_seq (AWP_regS tOk rfl ?_); simp)
    | (refine AWP_regS tOk rfl ?_; simp)
    | (refine AWP_skip ?_; simp)
    | (refine AWP_exit ?_; simp)
    | (refine AWP_ret ?_; simp)
    | refine AWP_block ?_
    | refine AWP_seq ?_)
  refine AWP_cond2 rfl (fun hlt => ?_) (fun hge => ?_)
  · have hlt' : j < a.length := by simpa using hlt
    have hltb : j < b.length := by omega
    repeat (first
      | (refine AWP_seq (AWP_regS tOk rfl ?_); simp)
      | (refine AWP_regS tOk rfl ?_; simp)
      | (refine AWP_skip ?_; simp)
      | (refine AWP_exit ?_; simp)
      | (refine AWP_ret ?_; simp)
      | refine AWP_block ?_
      | refine AWP_seq ?_)
    refine AWP_draw tOk mixed [] [0, 1, 2, 3, 4, 5, 6, 7, 8] rfl (by kernel_rfl) ?_
    simp [hlt', hltb]
    refine AWP_cond2 rfl (fun h => ?_) (fun h => ?_)
    · repeat (first
        | (refine AWP_seq (AWP_regS tOk rfl ?_); simp)
        | (refine AWP_regS tOk rfl ?_; simp)
        | (refine AWP_skip ?_; simp)
        | (refine AWP_exit ?_; simp)
        | (refine AWP_ret ?_; simp)
        | refine AWP_block ?_
        | refine AWP_seq ?_)
      rintro rfl
      simp at h
    · repeat (first
        | (refine AWP_seq (AWP_regS tOk rfl ?_); simp)
        | (refine AWP_regS tOk rfl ?_; simp)
        | (refine AWP_skip ?_; simp)
        | (refine AWP_exit ?_; simp)
        | (refine AWP_ret ?_; simp)
        | refine AWP_block ?_
        | refine AWP_seq ?_)
      have he : a[j] = b[j] := by simpa using h
      refine ALoop_end _ (ih hlt' (take_succ_eq hlt' hltb hI he)) rfl (by simp) ?_ (by simp) (by simp)
      simp
      exact wrap_i64 _ (by omega) (by omega)
  · have hge' : j = a.length := by simp at hge; omega
    subst hge'
    repeat (first
      | (refine AWP_seq (AWP_regS tOk rfl ?_); simp)
      | (refine AWP_regS tOk rfl ?_; simp)
      | (refine AWP_skip ?_; simp)
      | (refine AWP_exit ?_; simp)
      | (refine AWP_ret ?_; simp)
      | refine AWP_block ?_
      | refine AWP_seq ?_)
    rw [List.take_length, hl, List.take_length] at hI
    exact hI

set_option maxHeartbeats 1000000 in
theorem pc47 (a : List Int) (hb : a.length ≤ 1000000000000) : PC Tryd.prog 47 [.list (a.map encI)] (fun r => r = .list (a.map encI)) := by
  refine PC_body tOk Tryd.func47 rfl Tryd.results47 rfl (by simp [Tryd.ntmps47]) ?_
  rw [Tryd.ntmps47]
  simp only [argSlots]
  repeat (first
    | (refine AWP_seq (AWP_regS tOk rfl ?_); simp)
    | (refine AWP_regS tOk rfl ?_; simp)
    | (refine AWP_skip ?_; simp)
    | (refine AWP_exit ?_; simp)
    | (refine AWP_ret ?_; simp)
    | refine AWP_block ?_
    | refine AWP_seq ?_)
  refine AStep_isnil tOk rfl rfl T34 rfl rfl rfl (fun b hb2 => ?_)
  simp
  refine AWP_cond2 rfl (fun h => ?_) (fun h => ?_)
  · subst h
    have : a = [] := by
      cases a
      · rfl
      · have := hb2 (by simp); cases this
    subst this
    repeat (first
      | (refine AWP_seq (AWP_regS tOk rfl ?_); simp)
      | (refine AWP_regS tOk rfl ?_; simp)
      | (refine AWP_skip ?_; simp)
      | (refine AWP_exit ?_; simp)
      | (refine AWP_ret ?_; simp)
      | refine AWP_block ?_
      | refine AWP_seq ?_)
  · repeat (first
      | (refine AWP_seq (AWP_regS tOk rfl ?_); simp)
      | (refine AWP_regS tOk rfl ?_; simp)
      | (refine AWP_skip ?_; simp)
      | (refine AWP_exit ?_; simp)
      | (refine AWP_ret ?_; simp)
      | refine AWP_block ?_
      | refine AWP_seq ?_)
    refine AStep_appendS tOk rfl rfl T34 rfl T3 rfl (by decide) (by decide) rfl rfl rfl ?_
    simp
    refine ⟨by simp [appOk]; omega, ?_⟩
    repeat (first
      | (refine AWP_seq (AWP_regS tOk rfl ?_); simp)
      | (refine AWP_regS tOk rfl ?_; simp)
      | (refine AWP_skip ?_; simp)
      | (refine AWP_exit ?_; simp)
      | (refine AWP_ret ?_; simp)
      | refine AWP_block ?_
      | refine AWP_seq ?_)
    simp [take_map_len]

set_option maxHeartbeats 1000000 in
theorem fr55 (fs : List File) (hb : fs.length ≤ 1000000) : FR Tryd.prog 55 [.list (fs.map encF)] 52 3 (fun r => r = fs.map encF) := by
  refine FR_body tOk Tryd.func55 rfl Tryd.results55 rfl (by simp [Tryd.ntmps55]) ?_
  rw [Tryd.ntmps55]
  simp only [argSlots]
  repeat (first
    | (refine AWP_seq (AWP_regS tOk rfl ?_); simp)
    | (refine AWP_regS tOk rfl ?_; simp)
    | (refine AWP_skip ?_; simp)
    | (refine AWP_exit ?_; simp)
    | (refine AWP_ret ?_; simp)
    | refine AWP_block ?_
    | refine AWP_seq ?_)
  refine AStep_isnil tOk rfl rfl T22 rfl rfl rfl (fun b hb2 => ?_)
  simp
  refine AWP_cond2 rfl (fun h => ?_) (fun h => ?_)
  · subst h
    have : fs = [] := by
      cases fs
      · rfl
      · have := hb2 (by simp); cases this
    subst this
    repeat (first
      | (refine AWP_seq (AWP_regS tOk rfl ?_); simp)
      | (refine AWP_regS tOk rfl ?_; simp)
      | (refine AWP_skip ?_; simp)
      | (refine AWP_exit ?_; simp)
      | (refine AWP_ret ?_; simp)
      | refine AWP_block ?_
      | refine AWP_seq ?_)
  · repeat (first
      | (refine AWP_seq (AWP_regS tOk rfl ?_); simp)
      | (refine AWP_regS tOk rfl ?_; simp)
      | (refine AWP_skip ?_; simp)
      | (refine AWP_exit ?_; simp)
      | (refine AWP_ret ?_; simp)
      | refine AWP_block ?_
      | refine AWP_seq ?_)
    refine AStep_appendS tOk rfl rfl T22 rfl T52 rfl (by decide) (by decide) rfl rfl rfl ?_
    simp
    refine ⟨by simp [appOk]; omega, ?_⟩
    repeat (first
      | (refine AWP_seq (AWP_regS tOk rfl ?_); simp)
      | (refine AWP_regS tOk rfl ?_; simp)
      | (refine AWP_skip ?_; simp)
      | (refine AWP_exit ?_; simp)
      | (refine AWP_ret ?_; simp)
      | refine AWP_block ?_
      | refine AWP_seq ?_)
end Go.Abs
set_option maxRecDepth 100000
namespace Go.Abs
open Go Go.Proofs
set_option linter.unusedSimpArgs false
attribute [simp] T75

set_option maxHeartbeats 1000000 in
theorem fc45 (o0 o1 o3 o4 o5 o6 : AObj) (cs : List Int) (n : Int) (hn : 0 < n) : FC Tryd.prog 45 [.vptr 2 0, .int .i64 n] [o0, o1, .vars [.list (cs.map encI)], o3, o4, o5, o6]
    (fun r H' => r = .i (decideR cs n).1 ∧ H' = [o0, o1, .vars [.list ((decideR cs n).2.map encI)], o3, o4, o5, o6]) := by
  refine FC_body tOk Tryd.func45 rfl Tryd.results45 rfl (by simp [Tryd.ntmps45]) ?_
  rw [Tryd.ntmps45]
  simp only [argSlots]
  repeat (first
    | (refine AWP_seq (AWP_regS tOk rfl ?_); simp)
    | (refine AWP_regS tOk rfl ?_; simp)
    | (refine AWP_skip ?_; simp)
    | (refine AWP_exit ?_; simp)
    | (refine AWP_ret ?_; simp)
    | refine AWP_block ?_
    | refine AWP_seq ?_)
  rcases cs with _ | ⟨c, cs⟩
  · refine AWP_cond rfl ?_
    repeat (first
      | (refine AWP_seq (AWP_regS tOk rfl ?_); simp)
      | (refine AWP_regS tOk rfl ?_; simp)
      | (refine AWP_skip ?_; simp)
      | (refine AWP_exit ?_; simp)
      | (refine AWP_ret ?_; simp)
      | refine AWP_block ?_
      | refine AWP_seq ?_)
    simp [decideR]
  have hn0 : ¬ n = 0 := by omega
  refine AWP_cond (b := false) ?_ ?_
  · simp; omega
  have g : (1 : Int) ≤ (cs.length : Int) + 1 := by omega
  repeat (first
    | (refine AWP_seq (AWP_regS tOk rfl ?_); simp [hn0, g])
    | (refine AWP_regS tOk rfl ?_; simp [hn0, g])
    | (refine AWP_skip ?_; simp [hn0, g])
    | (refine AWP_exit ?_; simp [hn0, g])
    | (refine AWP_ret ?_; simp [hn0, g])
    | refine AWP_block ?_
    | refine AWP_seq ?_)
  refine AWP_cond2 rfl (fun h => ?_) (fun h => ?_)
  · repeat (first
      | (refine AWP_seq (AWP_regS tOk rfl ?_); simp)
      | (refine AWP_regS tOk rfl ?_; simp)
      | (refine AWP_skip ?_; simp)
      | (refine AWP_exit ?_; simp)
      | (refine AWP_ret ?_; simp)
      | refine AWP_block ?_
      | refine AWP_seq ?_)
    simp at h
    simp [decideR, modI, h]
  · repeat (first
      | (refine AWP_seq (AWP_regS tOk rfl ?_); simp)
      | (refine AWP_regS tOk rfl ?_; simp)
      | (refine AWP_skip ?_; simp)
      | (refine AWP_exit ?_; simp)
      | (refine AWP_ret ?_; simp)
      | refine AWP_block ?_
      | refine AWP_seq ?_)
    simp at h
    simp only [decideR, modI]
    rw [if_neg (by omega)]
    simp

set_option maxHeartbeats 2000000 in
theorem fc44 (o0 o1 o3 o4 o5 : AObj) (f : File) (cs : List Int) (hb : f.vol.length ≤ 9223372036854775807) : FC Tryd.prog 44 [encF f, .fn (.func 45) [.vptr 2 0] []] [o0, o1, .vars [.list (cs.map encI)], o3, o4, o5]
    (fun r H' => r = .str (afterR f cs).1 ∧ ∃ o6, H' = [o0, o1, .vars [.list ((afterR f cs).2.map encI)], o3, o4, o5, o6]) := by
  refine FC_body tOk Tryd.func44 rfl Tryd.results44 rfl (by simp [Tryd.ntmps44]) ?_
  rw [Tryd.ntmps44]
  simp only [argSlots]
  simp only [encF]
  repeat (first
    | (refine AWP_seq (AWP_regS tOk rfl ?_); simp)
    | (refine AWP_regS tOk rfl ?_; simp)
    | (refine AWP_skip ?_; simp)
    | (refine AWP_exit ?_; simp)
    | (refine AWP_ret ?_; simp)
    | refine AWP_block ?_
    | refine AWP_seq ?_)
  refine AWP_cond2 rfl (fun h => ?_) (fun h0 => ?_)
  · repeat (first
      | (refine AWP_seq (AWP_regS tOk rfl ?_); simp)
      | (refine AWP_regS tOk rfl ?_; simp)
      | (refine AWP_skip ?_; simp)
      | (refine AWP_exit ?_; simp)
      | (refine AWP_ret ?_; simp)
      | refine AWP_block ?_
      | refine AWP_seq ?_)
    simp at h
    simp [afterR, h]
  simp at h0
  repeat (first
    | (refine AWP_seq (AWP_regS tOk rfl ?_); simp)
    | (refine AWP_regS tOk rfl ?_; simp)
    | (refine AWP_skip ?_; simp)
    | (refine AWP_exit ?_; simp)
    | (refine AWP_ret ?_; simp)
    | refine AWP_block ?_
    | refine AWP_seq ?_)
  refine AStep_FC rfl rfl (fc45 o0 o1 o3 o4 o5 _ cs 3 (by omega)) rfl ?_
  rintro _ _ ⟨rfl, rfl⟩
  simp
  repeat (first
    | (refine AWP_seq (AWP_regS tOk rfl ?_); simp)
    | (refine AWP_regS tOk rfl ?_; simp)
    | (refine AWP_skip ?_; simp)
    | (refine AWP_exit ?_; simp)
    | (refine AWP_ret ?_; simp)
    | refine AWP_block ?_
    | refine AWP_seq ?_)
  refine AWP_cond2 rfl (fun h => ?_) (fun h1 => ?_)
  · repeat (first
      | (refine AWP_seq (AWP_regS tOk rfl ?_); simp)
      | (refine AWP_regS tOk rfl ?_; simp)
      | (refine AWP_skip ?_; simp)
      | (refine AWP_exit ?_; simp)
      | (refine AWP_ret ?_; simp)
      | refine AWP_block ?_
      | refine AWP_seq ?_)
    simp at h
    simp [afterR, h0, h]
  simp at h1
  repeat (first
    | (refine AWP_seq (AWP_regS tOk rfl ?_); simp)
    | (refine AWP_regS tOk rfl ?_; simp)
    | (refine AWP_skip ?_; simp)
    | (refine AWP_exit ?_; simp)
    | (refine AWP_ret ?_; simp)
    | refine AWP_block ?_
    | refine AWP_seq ?_)
  refine AWP_cond2 rfl (fun h => ?_) (fun h2 => ?_)
  · repeat (first
      | (refine AWP_seq (AWP_regS tOk rfl ?_); simp)
      | (refine AWP_regS tOk rfl ?_; simp)
      | (refine AWP_skip ?_; simp)
      | (refine AWP_exit ?_; simp)
      | (refine AWP_ret ?_; simp)
      | refine AWP_block ?_
      | refine AWP_seq ?_)
    simp at h
    simp [afterR, h0, h]
  simp at h2
  repeat (first
    | (refine AWP_seq (AWP_regS tOk rfl ?_); simp)
    | (refine AWP_regS tOk rfl ?_; simp)
    | (refine AWP_skip ?_; simp)
    | (refine AWP_exit ?_; simp)
    | (refine AWP_ret ?_; simp)
    | refine AWP_block ?_
    | refine AWP_seq ?_)
  refine AWP_cond2 rfl (fun h => ?_) (fun h3 => ?_)
  · repeat (first
      | (refine AWP_seq (AWP_regS tOk rfl ?_); simp)
      | (refine AWP_regS tOk rfl ?_; simp)
      | (refine AWP_skip ?_; simp)
      | (refine AWP_exit ?_; simp)
      | (refine AWP_ret ?_; simp)
      | refine AWP_block ?_
      | refine AWP_seq ?_)
    simp at h
    rw [h] at h0
    simp [afterR, h0, h1, h2, h]
  simp at h3
  have hpos : (0 : Int) < f.vol.length := by have := List.length_pos_iff.2 h3; omega
  have hq : 0 ≤ (decideR (decideR cs 3).2 f.vol.length).1 ∧ (decideR (decideR cs 3).2 f.vol.length).1 ≤ f.vol.length := by
    unfold decideR
    split
    · simp
    · have := modI_lt ‹Int› f.vol.length hpos (by omega)
      simp only
      omega
  repeat (first
    | (refine AWP_seq (AWP_regS tOk rfl ?_); simp)
    | (refine AWP_regS tOk rfl ?_; simp)
    | (refine AWP_skip ?_; simp)
    | (refine AWP_exit ?_; simp)
    | (refine AWP_ret ?_; simp)
    | refine AWP_block ?_
    | refine AWP_seq ?_)
  refine AWP_drawT tOk mixed [6] (.val 0 (.val 2 (.val 3 (.val 4 (.val 5 (.two 1 (.one 6 (.one 7 (.one 8 .done))) 6 (.one 1 (.one 7 (.one 8 .done))))))))) rfl (by kernel_rfl) ?_
  simp
  refine ⟨?_, ?_⟩
  · refine AStep_FC rfl rfl (fc45 o0 o1 o3 o4 o5 _ _ _ hpos) rfl ?_
    rintro _ _ ⟨rfl, rfl⟩
    simp [hq]
    repeat (first
      | (refine AWP_seq (AWP_regS tOk rfl ?_); simp)
      | (refine AWP_regS tOk rfl ?_; simp)
      | (refine AWP_skip ?_; simp)
      | (refine AWP_exit ?_; simp)
      | (refine AWP_ret ?_; simp)
      | refine AWP_block ?_
      | refine AWP_seq ?_)
    simp [afterR, h0, h1, h2, h3]
  · refine AStep_FC rfl rfl (fc45 o0 o1 o3 o4 o5 _ _ _ hpos) rfl ?_
    rintro _ _ ⟨rfl, rfl⟩
    simp [hq]
    repeat (first
      | (refine AWP_seq (AWP_regS tOk rfl ?_); simp)
      | (refine AWP_regS tOk rfl ?_; simp)
      | (refine AWP_skip ?_; simp)
      | (refine AWP_exit ?_; simp)
      | (refine AWP_ret ?_; simp)
      | refine AWP_block ?_
      | refine AWP_seq ?_)
    simp [afterR, h0, h1, h2, h3]
end Go.Abs
set_option maxRecDepth 100000
namespace Go.Abs
open Go Go.Proofs
set_option linter.unusedSimpArgs false

theorem afterR_len (f : File) (cs : List Int) : (afterR f cs).2.length ≤ cs.length := by
  have hd : ∀ (c : List Int) (n : Int), (decideR c n).2.length ≤ c.length := fun c n => by cases c <;> simp [decideR]
  unfold afterR
  split
  · simp
  · simp only
    split
    · exact hd _ _
    · split
      · exact hd _ _
      · split
        · exact hd _ _
        · exact Nat.le_trans (hd _ _) (hd _ _)
theorem crashF_facts (fs : List File) (cs : List Int) : (crashF fs cs).2.length ≤ cs.length ∧ sumV (crashF fs cs).1 = sumD (crashF fs cs).1 := by
  have key : ∀ (l : List File) (st : List File × List Int), st.2.length ≤ cs.length ∧ sumV st.1 = sumD st.1 → (l.foldl crashStep st).2.length ≤ cs.length ∧ sumV (l.foldl crashStep st).1 = sumD (l.foldl crashStep st).1 := by
    intro l
    induction l with
    | nil => intro st h; exact h
    | cons g l ih =>
      intro st h
      rw [List.foldl_cons]
      refine ih _ ⟨?_, ?_⟩
      · exact Nat.le_trans (afterR_len g st.2) h.1
      · have := h.2
        simp only [sumV, sumD, crashStep, List.map_append, List.sum_append, List.map_cons, List.map_nil, List.sum_cons, List.sum_nil] at this ⊢
        omega
  exact key fs ([], cs) ⟨Nat.le_refl _, rfl⟩

set_option maxHeartbeats 2000000 in
theorem pc18 (d : Disk) (hvb : VB d.files) (cs : List Int) (hcs : cs.length ≤ 1000000000000) : PC Tryd.prog 18 [encD d, .list (cs.map encI)] (fun r => r = .tup [encD (crashR d cs).1, .list ((crashR d cs).2.1.map encI), .i (crashR d cs).2.2]) := by
  refine PC_body tOk Tryd.func18 rfl Tryd.results18 rfl (by simp [Tryd.ntmps18]) ?_
  rw [Tryd.ntmps18]
  simp only [argSlots]
  simp only [encD]
  repeat (first
    | (refine AWP_seq (AWP_regS tOk rfl ?_); simp)
    | (refine AWP_regS tOk rfl ?_; simp)
    | (refine AWP_skip ?_; simp)
    | (refine AWP_exit ?_; simp)
    | (refine AWP_ret ?_; simp)
    | refine AWP_block ?_
    | refine AWP_seq ?_)
  refine AStep_PC rfl rfl (by simp) (pc25 d) rfl ?_
  rintro _ rfl
  simp
  repeat (first
    | (refine AWP_seq (AWP_regS tOk rfl ?_); simp)
    | (refine AWP_regS tOk rfl ?_; simp)
    | (refine AWP_skip ?_; simp)
    | (refine AWP_exit ?_; simp)
    | (refine AWP_ret ?_; simp)
    | refine AWP_block ?_
    | refine AWP_seq ?_)
  refine AWP_cond2 rfl (fun h => ?_) (fun h1 => ?_)
  · repeat (first
      | (refine AWP_seq (AWP_regS tOk rfl ?_); simp)
      | (refine AWP_regS tOk rfl ?_; simp)
      | (refine AWP_skip ?_; simp)
      | (refine AWP_exit ?_; simp)
      | (refine AWP_ret ?_; simp)
      | refine AWP_block ?_
      | refine AWP_seq ?_)
    simp at h
    simp [crashR, h, zeroD]
  simp at h1
  have hl := checkR_len h1
  repeat (first
    | (refine AWP_seq (AWP_regS tOk rfl ?_); simp)
    | (refine AWP_regS tOk rfl ?_; simp)
    | (refine AWP_skip ?_; simp)
    | (refine AWP_exit ?_; simp)
    | (refine AWP_ret ?_; simp)
    | refine AWP_block ?_
    | refine AWP_seq ?_)
  refine AWP_nilOwn 3 0 52 3 rfl rfl ?_
  simp
  refine AWP_count d.files.length (fun j => [(2, .vptr 0 0), (4, .vptr 1 0), (8, .vptr 2 0), (9, .vptr 3 0), (28, .list (d.files.map encF)), (29, .i d.files.length), (30, .i j)]) (fun j => [.vars [.list (d.files.map encF), .i d.space], .vars [.nils, .i 0], .vars [.list ((crashF (d.files.take j) cs).2.map encI)], .vars [.sl 4 3 0 (crashF (d.files.take j) cs).1.length, .i d.space], .arr 52 3 ((crashF (d.files.take j) cs).1.map encF)]) rfl (by simp) (by simp [crashF]) (by simp) (by simp) ?_
  intro j hj ih
  have hfl := crashF_len (d.files.take j) cs
  rw [List.length_take] at hfl
  repeat (first
    | (refine AWP_seq (AWP_regS tOk rfl ?_); simp)
    | (refine AWP_regS tOk rfl ?_; simp)
    | (refine AWP_skip ?_; simp)
    | (refine AWP_exit ?_; simp)
    | (refine AWP_ret ?_; simp)
    | refine AWP_block ?_
    | refine AWP_seq ?_)
  refine AWP_cond2 rfl (fun hlt => ?_) (fun hge => ?_)
  · have hlt' : j < d.files.length := by simpa using hlt
    have hfs := crashF_succ d.files cs j hlt'
    generalize hst : crashF (d.files.take j) cs = st at hfs hfl
    obtain ⟨out, ch⟩ := st
    simp only at hfl
    repeat (first
      | (refine AWP_seq (AWP_regS tOk rfl ?_); simp [hlt'])
      | (refine AWP_regS tOk rfl ?_; simp [hlt'])
      | (refine AWP_skip ?_; simp [hlt'])
      | (refine AWP_exit ?_; simp [hlt'])
      | (refine AWP_ret ?_; simp [hlt'])
      | refine AWP_block ?_
      | refine AWP_seq ?_)
    refine AStep_FC rfl rfl (fc44 _ _ _ _ _ d.files[j] ch (hvb _ (List.getElem_mem hlt'))) rfl ?_
    rintro _ _ ⟨rfl, o6, rfl⟩
    simp
    repeat (first
      | (refine AWP_seq (AWP_regS tOk rfl ?_); simp)
      | (refine AWP_regS tOk rfl ?_; simp)
      | (refine AWP_skip ?_; simp)
      | (refine AWP_exit ?_; simp)
      | (refine AWP_ret ?_; simp)
      | refine AWP_block ?_
      | refine AWP_seq ?_)
    refine AStep_appendS tOk rfl rfl T22 rfl T52 rfl (by decide) (by decide) rfl rfl rfl ?_
    simp
    refine ⟨by simp [appOk]; omega, ?_⟩
    repeat (first
      | (refine AWP_seq (AWP_regS tOk rfl ?_); simp)
      | (refine AWP_regS tOk rfl ?_; simp)
      | (refine AWP_skip ?_; simp)
      | (refine AWP_exit ?_; simp)
      | (refine AWP_ret ?_; simp)
      | refine AWP_block ?_
      | refine AWP_seq ?_)
    simp only [crashStep] at hfs
    refine ALoop_ren [0, 1, 2, 3, 8] (ih hlt') (by rw [hfs]; simp) (by decide) (by simp) (by simp) (by simp) (by simp) ?_
    simp
    exact wrap_i64 _ (by omega) (by omega)
  · have hge' : j = d.files.length := by simp at hge; omega
    subst hge'
    have hfa := crashF_facts d.files cs
    rw [List.take_length] at hfl ⊢
    repeat (first
      | (refine AWP_seq (AWP_regS tOk rfl ?_); simp)
      | (refine AWP_regS tOk rfl ?_; simp)
      | (refine AWP_skip ?_; simp)
      | (refine AWP_exit ?_; simp)
      | (refine AWP_ret ?_; simp)
      | refine AWP_block ?_
      | refine AWP_seq ?_)
    refine AStep_PCflat rfl rfl (by first | (simp [take_map_len]; done) | (simp [take_map_len]; rfl)) (pc46 (crashF d.files cs).1) rfl ?_
    rintro _ rfl
    refine ⟨by simp, ?_⟩
    simp [take_map_len]
    repeat (first
      | (refine AWP_seq (AWP_regS tOk rfl ?_); simp)
      | (refine AWP_regS tOk rfl ?_; simp)
      | (refine AWP_skip ?_; simp)
      | (refine AWP_exit ?_; simp)
      | (refine AWP_ret ?_; simp)
      | refine AWP_block ?_
      | refine AWP_seq ?_)
    have hlen : (crashF d.files cs).1.length = d.files.length := by omega
    have hfit : fitR ⟨(crashF d.files cs).1, d.space⟩ = if d.space < W (sumV (crashF d.files cs).1) then (zeroD, 27) else (⟨(crashF d.files cs).1, d.space⟩, 0) := by
      rw [fitR, if_neg (by simp only; omega)]
      simp only [overB, ← hfa.2]
      by_cases hh : d.space < W (sumV (crashF d.files cs).1) <;> simp [hh]
    refine AWP_cond2 rfl (fun h => ?_) (fun h2 => ?_)
    · repeat (first
        | (refine AWP_seq (AWP_regS tOk rfl ?_); simp)
        | (refine AWP_regS tOk rfl ?_; simp)
        | (refine AWP_skip ?_; simp)
        | (refine AWP_exit ?_; simp)
        | (refine AWP_ret ?_; simp)
        | refine AWP_block ?_
        | refine AWP_seq ?_)
      simp at h
      simp [crashR, h1, hfit, h, zeroD]
    · simp at h2
      repeat (first
        | (refine AWP_seq (AWP_regS tOk rfl ?_); simp)
        | (refine AWP_regS tOk rfl ?_; simp)
        | (refine AWP_skip ?_; simp)
        | (refine AWP_exit ?_; simp)
        | (refine AWP_ret ?_; simp)
        | refine AWP_block ?_
        | refine AWP_seq ?_)
      refine AWP_draw tOk mixed [6] [0, 1, 2, 3, 4, 5, 6, 7, 8] rfl (by kernel_rfl) ?_
      simp
      refine AStep_PC rfl rfl (by simp) (pc47 (crashF d.files cs).2 (by omega)) rfl ?_
      rintro _ rfl
      simp
      repeat (first
        | (refine AWP_seq (AWP_regS tOk rfl ?_); simp [take_map_len])
        | (refine AWP_regS tOk rfl ?_; simp [take_map_len])
        | (refine AWP_skip ?_; simp [take_map_len])
        | (refine AWP_exit ?_; simp [take_map_len])
        | (refine AWP_ret ?_; simp [take_map_len])
        | refine AWP_block ?_
        | refine AWP_seq ?_)
      simp [crashR, h1, hfit, show ¬ d.space < W (sumV (crashF d.files cs).1) by omega, take_map_len]
end Go.Abs
set_option maxRecDepth 100000
namespace Go.Abs
theorem split_at (A : List AV) (i n : Nat) (hA : A.length = n) (hi : i < n) : ∃ B c C, A = B ++ c :: C ∧ B.length = i ∧ n = B.length + (C.length + 1) := by
  refine ⟨A.take i, A[i]'(by omega), A.drop (i + 1), ?_, by simp; omega, by simp; omega⟩
  rw [List.getElem_cons_drop]; exact (List.take_append_drop i A).symm
theorem ins_x1 (A : List AV) (i n : Nat) (x Z : AV) (hA : A.length = n) (hi : i < n) :
    List.take i (A.take i ++ List.replicate (n + 1 - i) Z) ++ List.take (n + 1 - i) [x] ++ List.drop (i + Nat.min [x].length (n + 1 - i)) (A.take i ++ List.replicate (n + 1 - i) Z) = A.take i ++ x :: List.replicate (n - i) Z := by
  obtain ⟨B, c, C, rfl, rfl, rfl⟩ := split_at A i n hA hi
  have e1 : B.length + (C.length + 1) + 1 - B.length = C.length + 2 := by omega
  have e2 : B.length + (C.length + 1) - B.length = C.length + 1 := by omega
  have hm : Nat.min [x].length (C.length + 2) = 1 := Nat.min_eq_left (by simp)
  rw [e1, e2, hm]
  simp [List.replicate_succ]
theorem ins_x2 (A : List AV) (i n : Nat) (x Z : AV) (hA : A.length = n) (hi : i < n) :
    List.take (i + 1) (A.take i ++ x :: List.replicate (n - i) Z) ++ List.take (n - i) ((A.drop i).take (n - i)) ++ List.drop (i + 1 + Nat.min ((A.drop i).take (n - i)).length (n - i)) (A.take i ++ x :: List.replicate (n - i) Z) = A.take i ++ x :: A.drop i := by
  obtain ⟨B, c, C, rfl, rfl, rfl⟩ := split_at A i n hA hi
  have e2 : B.length + (C.length + 1) - B.length = C.length + 1 := by omega
  have hd : (List.drop B.length (B ++ c :: C)) = c :: C := by simp
  have ht : (c :: C).take (C.length + 1) = c :: C := List.take_of_length_le (by simp)
  have hm : Nat.min (c :: C).length (C.length + 1) = C.length + 1 := Nat.min_self _
  rw [e2, hd, ht, hm, ht]
  have h1 : List.take B.length (B ++ c :: C) = B := by simp
  rw [h1]
  have h2 : List.drop (B.length + 1 + (C.length + 1)) (B ++ x :: List.replicate (C.length + 1) Z) = [] := List.drop_eq_nil_of_le (by simp; omega)
  rw [h2]
  have h3 : List.take (B.length + 1) (B ++ x :: List.replicate (C.length + 1) Z) = B ++ [x] := by
    rw [List.take_append, List.take_of_length_le (by omega), show B.length + 1 - B.length = 1 by omega]; simp
  rw [h3]
  simp
/-- in place: the tail moves up by one, then the element goes in -/
theorem ins_y1 (A : List AV) (i n : Nat) (Z : AV) (hA : A.length = n) (hi : i < n) :
    List.take (i + 1) (A ++ [Z]) ++ List.take (n - i) (((A ++ [Z]).drop i).take (n + 1 - i)) ++ List.drop (i + 1 + Nat.min (((A ++ [Z]).drop i).take (n + 1 - i)).length (n - i)) (A ++ [Z]) = A.take (i + 1) ++ A.drop i := by
  obtain ⟨B, c, C, rfl, rfl, rfl⟩ := split_at A i n hA hi
  have e1 : B.length + (C.length + 1) + 1 - B.length = C.length + 2 := by omega
  have e2 : B.length + (C.length + 1) - B.length = C.length + 1 := by omega
  have h0 : B ++ c :: C ++ [Z] = B ++ (c :: (C ++ [Z])) := by simp
  have hd : List.drop B.length (B ++ (c :: (C ++ [Z]))) = c :: (C ++ [Z]) := by simp
  have hd' : List.drop B.length (B ++ c :: C) = c :: C := by simp
  have ht : (c :: (C ++ [Z])).take (C.length + 2) = c :: (C ++ [Z]) := List.take_of_length_le (by simp)
  have ht2 : (c :: (C ++ [Z])).take (C.length + 1) = c :: C := by simp
  have hm : Nat.min (c :: (C ++ [Z])).length (C.length + 1) = C.length + 1 := Nat.min_eq_right (by simp)
  rw [e1, e2, h0, hd, ht, ht2, hm, hd']
  have h2 : List.drop (B.length + 1 + (C.length + 1)) (B ++ c :: (C ++ [Z])) = [] := List.drop_eq_nil_of_le (by simp; omega)
  have h3 : ∀ D : List AV, List.take (B.length + 1) (B ++ c :: D) = B ++ [c] := fun D => by
    rw [List.take_append, List.take_of_length_le (by omega), show B.length + 1 - B.length = 1 by omega]; simp
  rw [h2, h3, h3]
  simp
theorem ins_y0 (A : List AV) (i n : Nat) (Z : AV) (hA : A.length = n) (hi : i < n) : List.take (n - i) (((A ++ [Z]).drop i).take (n + 1 - i)) = A.drop i := by
  obtain ⟨B, c, C, rfl, rfl, rfl⟩ := split_at A i n hA hi
  have e1 : B.length + (C.length + 1) + 1 - B.length = C.length + 2 := by omega
  have e2 : B.length + (C.length + 1) - B.length = C.length + 1 := by omega
  have h0 : B ++ c :: C ++ [Z] = B ++ (c :: (C ++ [Z])) := by simp
  have hd : List.drop B.length (B ++ (c :: (C ++ [Z]))) = c :: (C ++ [Z]) := by simp
  have hd' : List.drop B.length (B ++ c :: C) = c :: C := by simp
  have ht : (c :: (C ++ [Z])).take (C.length + 2) = c :: (C ++ [Z]) := List.take_of_length_le (by simp)
  rw [e1, e2, h0, hd, ht, hd']
  simp
theorem ins_y2 (A : List AV) (i n : Nat) (x : AV) (hA : A.length = n) (hi : i < n) :
    List.take i (A.take (i + 1) ++ A.drop i) ++ List.take (n + 1 - i) [x] ++ List.drop (i + Nat.min [x].length (n + 1 - i)) (A.take (i + 1) ++ A.drop i) = A.take i ++ x :: A.drop i := by
  obtain ⟨B, c, C, rfl, rfl, rfl⟩ := split_at A i n hA hi
  have e1 : B.length + (C.length + 1) + 1 - B.length = C.length + 2 := by omega
  have hm : Nat.min [x].length (C.length + 2) = 1 := Nat.min_eq_left (by simp)
  have h3 : List.take (B.length + 1) (B ++ c :: C) = B ++ [c] := by
    rw [List.take_append, List.take_of_length_le (by omega), show B.length + 1 - B.length = 1 by omega]; simp
  rw [e1, hm, h3]
  have h4 : List.drop (B.length + 1) (B ++ [c] ++ List.drop B.length (B ++ c :: C)) = c :: C := by
    rw [List.drop_left' (by simp)]; simp
  rw [h4]
  simp
end Go.Abs
set_option maxRecDepth 100000
namespace Go.Abs
open Go Go.Proofs
set_option linter.unusedSimpArgs false

def insAt (fs : List File) (i : Nat) (x : File) : List File := fs.take i ++ x :: fs.drop i
set_option maxHeartbeats 2000000 in
theorem fc56 (H : List AObj) (id id2 : Nat) (fs : List File) (i : Nat) (x : File) (hid : H[id]? = some (.arr 52 3 (fs.map encF))) (hid2 : H[id2]? = some (.arr 52 3 [encF x])) (hne : id ≠ id2) (hi : i ≤ fs.length) (hb : fs.length ≤ 1000000) :
    FC Tryd.prog 56 [.sl id 3 0 fs.length, .int .i64 i, .sl id2 3 0 1] H (fun r H' => r = .sl H.length 3 0 (fs.length + 1) ∧ ∃ G, H' = H.set id .dead ++ .arr 52 3 ((insAt fs i x).map encF) :: G) := by
  refine FC_body tOk Tryd.func56 rfl Tryd.results56 rfl (by simp [Tryd.ntmps56]) ?_
  rw [Tryd.ntmps56]
  simp only [argSlots]
  have hidl : id < H.length := (List.getElem?_eq_some_iff.1 hid).1
  have hii : (i : Int) ≤ fs.length := by omega
  repeat (first
    | (refine AWP_seq (AWP_regS tOk rfl ?_); simp [hi])
    | (refine AWP_regS tOk rfl ?_; simp [hi])
    | (refine AWP_skip ?_; simp [hi])
    | (refine AWP_exit ?_; simp [hi])
    | (refine AWP_ret ?_; simp [hi])
    | refine AWP_block ?_
    | refine AWP_seq ?_)
  refine AWP_cond rfl ?_
  repeat (first
    | (refine AWP_seq (AWP_regS tOk rfl ?_); simp)
    | (refine AWP_regS tOk rfl ?_; simp)
    | (refine AWP_skip ?_; simp)
    | (refine AWP_exit ?_; simp)
    | (refine AWP_ret ?_; simp)
    | refine AWP_block ?_
    | refine AWP_seq ?_)
  refine AWP_cond2 rfl (fun h => ?_) (fun h => ?_)
  · have he : i = fs.length := by simp at h; omega
    subst he
    repeat (first
      | (refine AWP_seq (AWP_regS tOk rfl ?_); simp)
      | (refine AWP_regS tOk rfl ?_; simp)
      | (refine AWP_skip ?_; simp)
      | (refine AWP_exit ?_; simp)
      | (refine AWP_ret ?_; simp)
      | refine AWP_block ?_
      | refine AWP_seq ?_)
    refine AStep_appendS tOk rfl rfl T22 rfl T52 rfl (by decide) (by decide) rfl rfl rfl ?_
    simp [hid, hid2]
    refine ⟨by simp [appOk]; omega, ?_⟩
    repeat (first
      | (refine AWP_seq (AWP_regS tOk rfl ?_); simp)
      | (refine AWP_regS tOk rfl ?_; simp)
      | (refine AWP_skip ?_; simp)
      | (refine AWP_exit ?_; simp)
      | (refine AWP_ret ?_; simp)
      | refine AWP_block ?_
      | refine AWP_seq ?_)
    simp [insAt]
  · have hlt : i < fs.length := by simp at h; omega
    have hw1 : IntKind.i64.wrap ((fs.length : Int) + 1) = fs.length + 1 := wrap_i64 _ (by omega) (by omega)
    have hid2l : id2 < H.length := (List.getElem?_eq_some_iff.1 hid2).1
    have g2 : ∀ v l, (H.set id v ++ l)[id2]? = some (.arr 52 3 [encF x]) := by
      intro v l; rw [List.getElem?_append_left (by simpa using hid2l), List.getElem?_set_ne hne]; exact hid2
    have g0 : ∀ v a, (H.set id v ++ [a])[H.length]? = some a := by intro v a; simp
    have gs : ∀ v a b, (H.set id v ++ [a]).set H.length b = H.set id v ++ [b] := by intro v a b; simp
    have g1 : ∀ v l, (H.set id v ++ l)[id]? = some v := by
      intro v l; rw [List.getElem?_append_left (by simpa using hidl), List.getElem?_set_self hidl]
    have gk : ∀ v l b, (H.set id v ++ l).set id b = H.set id b ++ l := by
      intro v l b; rw [List.set_append_left _ _ (by simpa using hidl), List.set_set]
    have hi1 : i ≤ fs.length + 1 := by omega
    have hfls : ¬ ((fs.length : Int) + 1 ≤ fs.length) := by omega
    have hsub : i + (fs.length + 1 - i) = fs.length + 1 := by omega
    repeat (first
      | (refine AWP_seq (AWP_regS tOk rfl ?_); simp [hw1])
      | (refine AWP_regS tOk rfl ?_; simp [hw1])
      | (refine AWP_skip ?_; simp [hw1])
      | (refine AWP_exit ?_; simp [hw1])
      | (refine AWP_ret ?_; simp [hw1])
      | refine AWP_block ?_
      | refine AWP_seq ?_)
    refine AStep_capSplit (xs := fs.map encF) (e := 52) (c := 3) (id := id) 0 (by decide) (by simp) hid (by simp; omega) ?_ ?_
    · refine AStep_capGe tOk rfl rfl T22 rfl (by decide) rfl (List.getElem?_set_self hidl) rfl (fun n hn => ?_)
      simp at hn
      simp
      refine AWP_cond (b := false) (by simp; omega) ?_
      repeat (first
        | (refine AWP_seq (AWP_regS tOk rfl ?_); simp [hw1, hfls])
        | (refine AWP_regS tOk rfl ?_; simp [hw1, hfls])
        | (refine AWP_skip ?_; simp [hw1, hfls])
        | (refine AWP_exit ?_; simp [hw1, hfls])
        | (refine AWP_ret ?_; simp [hw1, hfls])
        | refine AWP_block ?_
        | refine AWP_seq ?_)
      refine AStep_reslice (id := id) (len := fs.length) (hi := fs.length + 1) (e' := 52) (xs := fs.map encF ++ [.agg [.top, .top, .top]]) tOk rfl rfl T22 rfl T52 rfl (by simp) (by decide) (by simp [hidl]) (by simp) (by omega) rfl ?_
      simp
      have hw3 : IntKind.i64.wrap ((i : Int) + 1) = (i : Int) + 1 := wrap_i64 _ (by omega) (by omega)
      have hi2 : (0 : Int) ≤ (i : Int) + 1 ∧ (i : Int) + 1 ≤ (fs.length : Int) + 1 := by omega
      repeat (first
        | (refine AWP_seq (AWP_regS tOk rfl ?_); simp [hw3, hi2, hi1])
        | (refine AWP_regS tOk rfl ?_; simp [hw3, hi2, hi1])
        | (refine AWP_skip ?_; simp [hw3, hi2, hi1])
        | (refine AWP_exit ?_; simp [hw3, hi2, hi1])
        | (refine AWP_ret ?_; simp [hw3, hi2, hi1])
        | refine AWP_block ?_
        | refine AWP_seq ?_)
      refine AStep_overlaps (i := id2) (j := id) (c := 3) tOk rfl rfl Tryd.func66 (by kernel_rfl) (fun vs w => run_callFunc_extern Tryd.func66 (by kernel_rfl) (by kernel_rfl) (by kernel_rfl) (e := Extern.SlicesOverlaps.overlaps #[22, 22] #[4]) (by kernel_rfl) vs w) T22 rfl T52 (by decide) rfl rfl (by rw [List.getElem?_set_ne hne]; exact hid2) (List.getElem?_set_self hidl) hne.symm (by omega) (by omega) rfl ?_
      simp
      refine AWP_cond rfl ?_
      repeat (first
        | (refine AWP_seq (AWP_regS tOk rfl ?_); simp [hw3])
        | (refine AWP_regS tOk rfl ?_; simp [hw3])
        | (refine AWP_skip ?_; simp [hw3])
        | (refine AWP_exit ?_; simp [hw3])
        | (refine AWP_ret ?_; simp [hw3])
        | refine AWP_block ?_
        | refine AWP_seq ?_)
      refine AWP_draw tOk mixed [8] [0, 1, 2, 3, 4, 5, 6, 7, 8] rfl (by kernel_rfl) ?_
      simp [hw3, hi2, hi1]
      refine AStep_copy (id := id) (lo := i + 1) (len := fs.length - i) (ys := ((fs.map encF ++ [AV.agg [.top, .top, .top]]).drop i).take (fs.length + 1 - i)) tOk rfl rfl T22 rfl T52 rfl rfl (by simp [contA, hidl]; omega) (List.getElem?_set_self hidl) (by simp; omega) ?_ rfl ?_
      · intro y hy
        rw [ins_y0 (fs.map encF) i fs.length _ (by simp) hlt] at hy
        have := List.mem_of_mem_drop hy
        simp at this; obtain ⟨g, _, rfl⟩ := this; simp
      rw [ins_y1 (fs.map encF) i fs.length _ (by simp) hlt]
      simp
      repeat (first
        | (refine AWP_seq (AWP_regS tOk rfl ?_); simp [hi1])
        | (refine AWP_regS tOk rfl ?_; simp [hi1])
        | (refine AWP_skip ?_; simp [hi1])
        | (refine AWP_exit ?_; simp [hi1])
        | (refine AWP_ret ?_; simp [hi1])
        | refine AWP_block ?_
        | refine AWP_seq ?_)
      refine AStep_copy (id := id) (lo := i) (len := fs.length + 1 - i) (ys := [encF x]) tOk rfl rfl T22 rfl T52 rfl rfl (by simp [contA]; rw [List.getElem?_set_ne hne, hid2]; simp) (List.getElem?_set_self hidl) (by simp; omega) ?_ rfl ?_
      · intro y hy
        have := List.mem_of_mem_take hy
        simp at this; subst this; simp
      have hy2 := ins_y2 (fs.map encF) i fs.length (encF x) (by simp) hlt
      rw [hy2]
      simp
      refine AWP_move 0 (id := id) (c := 3) (len := fs.length + 1) (e := 52) (xs := (fs.take i ++ x :: fs.drop i).map encF) (by simp) (by simp [hidl]) ?_
      simp
      repeat (first
        | (refine AWP_seq (AWP_regS tOk rfl ?_); simp)
        | (refine AWP_regS tOk rfl ?_; simp)
        | (refine AWP_skip ?_; simp)
        | (refine AWP_exit ?_; simp)
        | (refine AWP_ret ?_; simp)
        | refine AWP_block ?_
        | refine AWP_seq ?_)
      simp [insAt]
    · refine AStep_capEq tOk rfl rfl T22 rfl (by decide) rfl (List.getElem?_set_self hidl) fs.length ?_ rfl ?_
      · have := (flatMap_get 3 (fs.map encF) (by simp)).1
        simpa using this
      · simp
        refine AWP_cond (b := true) (by simp; omega) ?_
        have hw2 : IntKind.i64.wrap ((fs.length : Int) + 1 - i) = ((fs.length + 1 - i : Nat) : Int) := by rw [wrap_i64 _ (by omega) (by omega)]; omega
        repeat (first
          | (refine AWP_seq (AWP_regS tOk rfl ?_); simp [hw1, hw2, hi])
          | (refine AWP_regS tOk rfl ?_; simp [hw1, hw2, hi])
          | (refine AWP_skip ?_; simp [hw1, hw2, hi])
          | (refine AWP_exit ?_; simp [hw1, hw2, hi])
          | (refine AWP_ret ?_; simp [hw1, hw2, hi])
          | refine AWP_block ?_
          | refine AWP_seq ?_)
        refine AStep_appendMake (xs := fs.map encF) (id := id) (i := i) (n := fs.length + 1 - i) tOk rfl rfl T22 rfl T3 rfl T52 rfl (by decide) rfl rfl (by simp [hidl]) (by simp) (by simpa using hi) (by simp; omega) (by omega) (by simp; omega) (by omega) (.agg [.str [], .str [], .str []]) rfl rfl ?_
        simp [hsub]
        refine AWP_unfull id 3 (xs := fs.map encF) (g1 _ _) (by simp) (by simp; omega) (fun e' => ?_)
        rw [gk]
        repeat (first
          | (refine AWP_seq (AWP_regS tOk rfl ?_); simp [hi1])
          | (refine AWP_regS tOk rfl ?_; simp [hi1])
          | (refine AWP_skip ?_; simp [hi1])
          | (refine AWP_exit ?_; simp [hi1])
          | (refine AWP_ret ?_; simp [hi1])
          | refine AWP_block ?_
          | refine AWP_seq ?_)
        refine AStep_copy (id := H.length) (lo := i) (len := fs.length + 1 - i) (ys := [encF x]) (e' := 52) (xs := (fs.map encF).take i ++ List.replicate (fs.length + 1 - i) (.agg [.str [], .str [], .str []])) tOk rfl rfl T22 rfl T52 rfl rfl (by simp [g2]) (by simp) (by simp; omega) ?_ rfl ?_
        · intro y hy
          have := List.mem_of_mem_take hy
          simp at this; subst this; simp
        rw [ins_x1 (fs.map encF) i fs.length _ _ (by simp) hlt]
        have hmn : Nat.min [encF x].length (fs.length + 1 - i) = 1 := Nat.min_eq_left (by simp; omega)
        rw [hmn]
        simp
        have hw3 : IntKind.i64.wrap ((i : Int) + 1) = (i : Int) + 1 := wrap_i64 _ (by omega) (by omega)
        have hi2 : (0 : Int) ≤ (i : Int) + 1 ∧ (i : Int) + 1 ≤ (fs.length : Int) + 1 := by omega
        have hi3 : i ≤ fs.length := hi
        repeat (first
          | (refine AWP_seq (AWP_regS tOk rfl ?_); simp [hi1])
          | (refine AWP_regS tOk rfl ?_; simp [hi1])
          | (refine AWP_skip ?_; simp [hi1])
          | (refine AWP_exit ?_; simp [hi1])
          | (refine AWP_ret ?_; simp [hi1])
          | refine AWP_block ?_
          | refine AWP_seq ?_)
        refine AWP_draw tOk mixed [8] [0, 1, 2, 3, 4, 5, 6, 7, 8] rfl (by kernel_rfl) ?_
        simp [hw3, hi2, hi3]
        refine AStep_copy (id := H.length) (lo := i + 1) (len := fs.length - i) (ys := ((fs.map encF).drop i).take (fs.length - i)) tOk rfl rfl T22 rfl T52 rfl rfl (by simp [contA, g1]; omega) (g0 _ _) (by simp; omega) ?_ rfl ?_
        · intro y hy
          have := List.mem_of_mem_drop (List.mem_of_mem_take (List.mem_of_mem_take hy))
          simp at this; obtain ⟨g, _, rfl⟩ := this; simp
        have hx2 := ins_x2 (fs.map encF) i fs.length (encF x) (.agg [.str [], .str [], .str []]) (by simp) hlt
        simp only [encF] at hx2
        rw [hx2]
        simp
        refine AWP_kill id ?_
        rw [gk]
        repeat (first
          | (refine AWP_seq (AWP_regS tOk rfl ?_); simp)
          | (refine AWP_regS tOk rfl ?_; simp)
          | (refine AWP_skip ?_; simp)
          | (refine AWP_exit ?_; simp)
          | (refine AWP_ret ?_; simp)
          | refine AWP_block ?_
          | refine AWP_seq ?_)
        simp [insAt]
end Go.Abs
set_option maxRecDepth 100000
namespace Go.Abs
open Go Go.Proofs
set_option linter.unusedSimpArgs false

theorem del_list {α : Type} (l : List α) (i : Nat) (z : α) (hi : i < l.length) : (l.take i ++ (l.drop (i + 1) ++ l.drop (l.length - 1))).take (l.length - 1) ++ z :: (l.take i ++ (l.drop (i + 1) ++ l.drop (l.length - 1))).drop (l.length - 1 + 1) = l.take i ++ l.drop (i + 1) ++ [z] := by
  have h1 : (l.take i ++ l.drop (i + 1)).length = l.length - 1 := by simp; omega
  have h2 : (l.take i ++ l.drop (i + 1) ++ l.drop (l.length - 1)).drop (l.length - 1 + 1) = [] := List.drop_eq_nil_of_le (by simp; omega)
  rw [← List.append_assoc, List.take_append_of_le_length (by omega), List.take_of_length_le (by omega), h2]
set_option maxHeartbeats 2000000 in
theorem fc59 (H : List AObj) (id : Nat) (fs : List File) (i : Nat) (hid : H[id]? = some (.arr 52 3 (fs.map encF))) (hi : i < fs.length) (hb : fs.length ≤ 1000000) :
    FC Tryd.prog 59 [.sl id 3 0 fs.length, .int .i64 i, .int .i64 ((i : Int) + 1)] H (fun r H' => r = .sl id 3 0 (fs.length - 1) ∧ ∃ z, H' = H.set id (.arr 52 3 ((fs.eraseIdx i).map encF ++ [z]))) := by
  refine FC_body tOk Tryd.func59 rfl Tryd.results59 rfl (by simp [Tryd.ntmps59]) ?_
  rw [Tryd.ntmps59]
  simp only [argSlots]
  have hidl : id < H.length := (List.getElem?_eq_some_iff.1 hid).1
  repeat (first
    | (refine AWP_seq (AWP_regS tOk rfl ?_); simp)
    | (refine AWP_regS tOk rfl ?_; simp)
    | (refine AWP_skip ?_; simp)
    | (refine AWP_exit ?_; simp)
    | (refine AWP_ret ?_; simp)
    | refine AWP_block ?_
    | refine AWP_seq ?_)
  refine AStep_slice3 (lo := i) (hi := i + 1) (mx := fs.length) tOk rfl rfl T22 rfl T52 rfl rfl (by simp) rfl (by omega) (by omega) (Nat.le_refl _) rfl ?_
  simp
  repeat (first
    | (refine AWP_seq (AWP_regS tOk rfl ?_); simp)
    | (refine AWP_regS tOk rfl ?_; simp)
    | (refine AWP_skip ?_; simp)
    | (refine AWP_exit ?_; simp)
    | (refine AWP_ret ?_; simp)
    | refine AWP_block ?_
    | refine AWP_seq ?_)
  refine AWP_cond2 rfl (fun h => ?_) (fun h => ?_)
  · simp at h; omega
  have h1 : (i : Int) ≤ fs.length := by omega
  have h2 : (i : Int) + 1 ≤ fs.length := by omega
  have h3 : (0 : Int) ≤ (i : Int) + 1 := by omega
  have h4 : ((i : Int) + 1).toNat = i + 1 := by omega
  have h5 : i ≤ fs.length := by omega
  have h6 : i + 1 + (fs.length - (i + 1)) ≤ fs.length := by omega
  repeat (first
    | (refine AWP_seq (AWP_regS tOk rfl ?_); simp)
    | (refine AWP_regS tOk rfl ?_; simp)
    | (refine AWP_skip ?_; simp)
    | (refine AWP_exit ?_; simp)
    | (refine AWP_ret ?_; simp)
    | refine AWP_block ?_
    | refine AWP_seq ?_)
  refine AWP_draw tOk mixed [6] [0, 1, 2, 3, 4, 5, 6, 7] rfl (by kernel_rfl) ?_
  simp [h1, h2, h3, h4, h5]
  refine AStep_appendIn (id := id) (len := i) (ys := (fs.map encF).drop (i + 1)) (xs := fs.map encF) tOk rfl rfl T22 rfl T52 (by decide) rfl rfl (by simp [contA, hid, h6]; rw [List.take_of_length_le (by simp)]) hid (by simp; omega) ?_ rfl ?_
  · intro y hy
    have := List.mem_of_mem_drop hy
    simp at this; obtain ⟨g, _, rfl⟩ := this; simp
  have e1 : i + ((fs.map encF).drop (i + 1)).length = fs.length - 1 := by simp; omega
  have e2 : ¬ fs.length ≤ fs.length - 1 := by omega
  rw [e1]
  simp
  repeat (first
    | (refine AWP_seq (AWP_regS tOk rfl ?_); simp [e2])
    | (refine AWP_regS tOk rfl ?_; simp [e2])
    | (refine AWP_skip ?_; simp [e2])
    | (refine AWP_exit ?_; simp [e2])
    | (refine AWP_ret ?_; simp [e2])
    | refine AWP_block ?_
    | refine AWP_seq ?_)
  refine AStep_resliceLo (id := id) (lo := fs.length - 1) (hi := fs.length) tOk rfl rfl T22 rfl T52 rfl rfl rfl (by decide) (List.getElem?_set_self hidl) (by omega) (by simp; omega) rfl ?_
  have e3 : fs.length - (fs.length - 1) = 1 := by omega
  simp [e3]
  refine AStep_clear (id := id) (lo := fs.length - 1) (len := 1) (z := .agg [.str [], .str [], .str []]) tOk rfl rfl T22 rfl T52 (by decide) rfl (by decide) rfl (List.getElem?_set_self hidl) (by omega) (by simp; omega) rfl rfl ?_
  simp
  repeat (first
    | (refine AWP_seq (AWP_regS tOk rfl ?_); simp)
    | (refine AWP_regS tOk rfl ?_; simp)
    | (refine AWP_skip ?_; simp)
    | (refine AWP_exit ?_; simp)
    | (refine AWP_ret ?_; simp)
    | refine AWP_block ?_
    | refine AWP_seq ?_)
  refine ⟨.agg [.str [], .str [], .str []], ?_⟩
  congr 2
  have := del_list (fs.map encF) i (.agg [.str [], .str [], .str []]) (by simpa using hi)
  simp only [List.length_map] at this
  rw [this, List.eraseIdx_eq_take_drop_succ, List.map_append, List.map_take, List.map_drop]
end Go.Abs
set_option maxRecDepth 100000
namespace Go.Abs
open Go Go.Proofs
set_option linter.unusedSimpArgs false

/-- The files with a place for the name. -/
def openAt (d : Disk) (s : List UInt8) : List File := if foundAt d.files s (lb d.files s) = true then d.files else insAt d.files (lb d.files s) ⟨s, [], []⟩
def setVol (fs : List File) (p : Nat) (g : List UInt8 → List UInt8) : List File := match fs[p]? with
  | some f => fs.set p { f with vol := g f.vol }
  | none => fs
def finR (fs : List File) (space : Int) : Disk × Int := if (256 : Int) < fs.length then (zeroD, 5) else if space < W (sumV fs) then (zeroD, 27) else (⟨fs, space⟩, 0)
def changedR (d : Disk) (s : List UInt8) (g : List UInt8 → List UInt8) : Disk × Int := if namedR d s = 0 then finR (setVol (openAt d s) (lb d.files s) g) d.space else (zeroD, namedR d s)
theorem lb_le (fs : List File) (s : List UInt8) : lb fs s ≤ fs.length := (List.takeWhile_sublist _).length_le
theorem foundAt_lt {fs : List File} {s : List UInt8} {i : Nat} (h : foundAt fs s i = true) : i < fs.length := by
  unfold foundAt at h
  split at h
  · rename_i f hf; exact (List.getElem?_eq_some_iff.1 hf).1
  · cases h
theorem insAt_len (fs : List File) (i : Nat) (x : File) (h : i ≤ fs.length) : (insAt fs i x).length = fs.length + 1 := by simp [insAt]; omega

set_option maxHeartbeats 4000000 in
theorem pc37 (f : Nat) (b : List UInt8) (g : List UInt8 → List UInt8) (d : Disk) (s : List UInt8) (hg : ∀ v : List UInt8, (v = [] ∨ ∃ x ∈ d.files, x.vol = v) → PC Tryd.prog f [.str v, .iptr [.str b]] (fun r => r = .str (g v))) :
    PC Tryd.prog 37 [encD d, .str s, .fn (.func f) [] [.iptr [.str b]]] (fun r => r = .tup [encD (changedR d s g).1, .i (changedR d s g).2]) := by
  refine PC_body tOk Tryd.func37 rfl Tryd.results37 rfl (by simp [Tryd.ntmps37]) ?_
  rw [Tryd.ntmps37]
  simp only [argSlots]
  simp only [encD]
  repeat (first
    | (refine AWP_seq (AWP_regS tOk rfl ?_); simp)
    | (refine AWP_regS tOk rfl ?_; simp)
    | (refine AWP_skip ?_; simp)
    | (refine AWP_exit ?_; simp)
    | (refine AWP_ret ?_; simp)
    | refine AWP_block ?_
    | refine AWP_seq ?_)
  refine AStep_PCflat rfl rfl (by first | (simp; done) | (simp; rfl)) (pc49 d [s]) rfl ?_
  rintro _ rfl
  refine ⟨by simp, ?_⟩
  simp
  repeat (first
    | (refine AWP_seq (AWP_regS tOk rfl ?_); simp)
    | (refine AWP_regS tOk rfl ?_; simp)
    | (refine AWP_skip ?_; simp)
    | (refine AWP_exit ?_; simp)
    | (refine AWP_ret ?_; simp)
    | refine AWP_block ?_
    | refine AWP_seq ?_)
  rw [checkedR_one]
  refine AWP_cond2 rfl (fun h => ?_) (fun h1 => ?_)
  · repeat (first
      | (refine AWP_seq (AWP_regS tOk rfl ?_); simp)
      | (refine AWP_regS tOk rfl ?_; simp)
      | (refine AWP_skip ?_; simp)
      | (refine AWP_exit ?_; simp)
      | (refine AWP_ret ?_; simp)
      | refine AWP_block ?_
      | refine AWP_seq ?_)
    simp at h
    simp [changedR, h, zeroD]
  simp at h1
  have hc := namedR_check h1
  have hl := checkR_len hc
  have hso := checkR_sorted hc
  have hp := lb_le d.files s
  repeat (first
    | (refine AWP_seq (AWP_regS tOk rfl ?_); simp)
    | (refine AWP_regS tOk rfl ?_; simp)
    | (refine AWP_skip ?_; simp)
    | (refine AWP_exit ?_; simp)
    | (refine AWP_ret ?_; simp)
    | refine AWP_block ?_
    | refine AWP_seq ?_)
  refine AWP_drawT tOk mixed [7] (.val 0 (.val 1 (.val 3 (.val 4 (.two 2 (.val 5 (.one 6 (.one 7 .done))) 6 (.one 2 (.one 5 (.one 7 .done)))))))) rfl (by kernel_rfl) ?_
  simp
  refine ⟨?_, ?_⟩
  · refine AStep_FR rfl rfl (by simp) (fr55 d.files (by omega)) rfl ?_
    rintro _ rfl
    simp
    refine AWP_keep (sl' := [(1, .str s), (2, .fn (.func f) [] [.iptr [.str b]]), (3, .vptr 0 0), (6, .vptr 1 0), (7, .i 0), (9, .vptr 4 0)]) ?_ (by simp)
    repeat (first
      | (refine AWP_seq (AWP_regS tOk rfl ?_); simp)
      | (refine AWP_regS tOk rfl ?_; simp)
      | (refine AWP_skip ?_; simp)
      | (refine AWP_exit ?_; simp)
      | (refine AWP_ret ?_; simp)
      | refine AWP_block ?_
      | refine AWP_seq ?_)
    refine AStep_PC rfl rfl (by simp) (pc50 d s (by omega) hso) rfl ?_
    rintro _ rfl
    simp
    repeat (first
      | (refine AWP_seq (AWP_regS tOk rfl ?_); simp)
      | (refine AWP_regS tOk rfl ?_; simp)
      | (refine AWP_skip ?_; simp)
      | (refine AWP_exit ?_; simp)
      | (refine AWP_ret ?_; simp)
      | refine AWP_block ?_
      | refine AWP_seq ?_)
    refine AWP_cond2 rfl (fun hnf => ?_) (fun hf => ?_)
    · simp at hnf
      repeat (first
        | (refine AWP_seq (AWP_regS tOk rfl ?_); simp)
        | (refine AWP_regS tOk rfl ?_; simp)
        | (refine AWP_skip ?_; simp)
        | (refine AWP_exit ?_; simp)
        | (refine AWP_ret ?_; simp)
        | refine AWP_block ?_
        | refine AWP_seq ?_)
      have hlt := insAt_len d.files (lb d.files s) ⟨s, [], []⟩ hp
      have hpL : lb d.files s < (insAt d.files (lb d.files s) ⟨s, [], []⟩).length := by omega
      have hopen : openAt d s = insAt d.files (lb d.files s) ⟨s, [], []⟩ := by rw [openAt, if_neg (by simp [hnf])]
      have hgL : ((insAt d.files (lb d.files s) ⟨s, [], []⟩).map encF)[lb d.files s]? = some (encF (insAt d.files (lb d.files s) ⟨s, [], []⟩)[lb d.files s]) := by simp [hpL]
      have hvv : (insAt d.files (lb d.files s) ⟨s, [], []⟩)[lb d.files s].vol = [] := by simp [insAt, hp]
      refine AStep_FC rfl rfl (fc56 _ 3 5 d.files (lb d.files s) ⟨s, [], []⟩ rfl rfl (by decide) hp (by omega)) rfl ?_
      rintro _ _ ⟨rfl, G, rfl⟩
      rw [← hlt]
      simp
      repeat (first
        | (refine AWP_seq (AWP_regS tOk rfl ?_); simp)
        | (refine AWP_regS tOk rfl ?_; simp)
        | (refine AWP_skip ?_; simp)
        | (refine AWP_exit ?_; simp)
        | (refine AWP_ret ?_; simp)
        | refine AWP_block ?_
        | refine AWP_seq ?_)
      refine AWP_draw tOk mixed [13] [0, 1, 2, 3, 4, 5, 6, 7, 8, 9, 10, 11, 12, 13] rfl (by kernel_rfl) ?_
      simp [hpL, hgL]
      refine AStep_PC rfl rfl (by simp) (hg _ (.inl hvv)) rfl ?_
      rintro _ rfl
      simp [hpL, hgL]
      repeat (first
        | (refine AWP_seq (AWP_regS tOk rfl ?_); simp)
        | (refine AWP_regS tOk rfl ?_; simp)
        | (refine AWP_skip ?_; simp)
        | (refine AWP_exit ?_; simp)
        | (refine AWP_ret ?_; simp)
        | refine AWP_block ?_
        | refine AWP_seq ?_)
      have hsv : setVol (openAt d s) (lb d.files s) g = (insAt d.files (lb d.files s) ⟨s, [], []⟩).set (lb d.files s) { (insAt d.files (lb d.files s) ⟨s, [], []⟩)[lb d.files s] with vol := g (insAt d.files (lb d.files s) ⟨s, [], []⟩)[lb d.files s].vol } := by rw [hopen, setVol, List.getElem?_eq_getElem hpL]
      have hls : ((insAt d.files (lb d.files s) ⟨s, [], []⟩).set (lb d.files s) { (insAt d.files (lb d.files s) ⟨s, [], []⟩)[lb d.files s] with vol := g (insAt d.files (lb d.files s) ⟨s, [], []⟩)[lb d.files s].vol }).length = (insAt d.files (lb d.files s) ⟨s, [], []⟩).length := by simp
      have hmap : ((insAt d.files (lb d.files s) ⟨s, [], []⟩).map encF).set (lb d.files s) (.agg [.str (insAt d.files (lb d.files s) ⟨s, [], []⟩)[lb d.files s].name, .str (insAt d.files (lb d.files s) ⟨s, [], []⟩)[lb d.files s].dur, .str (g (insAt d.files (lb d.files s) ⟨s, [], []⟩)[lb d.files s].vol)]) = ((insAt d.files (lb d.files s) ⟨s, [], []⟩).set (lb d.files s) { (insAt d.files (lb d.files s) ⟨s, [], []⟩)[lb d.files s] with vol := g (insAt d.files (lb d.files s) ⟨s, [], []⟩)[lb d.files s].vol }).map encF := by rw [List.map_set]; rfl
      rw [hmap]
      refine AWP_keep (sl' := [(6, .vptr 1 0), (7, .i 0), (9, .vptr 4 0), (60, .bool (decide ((256 : Int) < (insAt d.files (lb d.files s) ⟨s, [], []⟩).length)))]) ?_ (by simp)
      generalize (insAt d.files (lb d.files s) ⟨s, [], []⟩).set (lb d.files s) { (insAt d.files (lb d.files s) ⟨s, [], []⟩)[lb d.files s] with vol := g (insAt d.files (lb d.files s) ⟨s, [], []⟩)[lb d.files s].vol } = N at hsv hls
      rw [← hls]
      refine AWP_cond2 rfl (fun h => ?_) (fun h2 => ?_)
      · repeat (first
          | (refine AWP_seq (AWP_regS tOk rfl ?_); simp)
          | (refine AWP_regS tOk rfl ?_; simp)
          | (refine AWP_skip ?_; simp)
          | (refine AWP_exit ?_; simp)
          | (refine AWP_ret ?_; simp)
          | refine AWP_block ?_
          | refine AWP_seq ?_)
        simp at h
        simp [changedR, h1, hsv, finR, h, zeroD]
      simp at h2
      repeat (first
        | (refine AWP_seq (AWP_regS tOk rfl ?_); simp)
        | (refine AWP_regS tOk rfl ?_; simp)
        | (refine AWP_skip ?_; simp)
        | (refine AWP_exit ?_; simp)
        | (refine AWP_ret ?_; simp)
        | refine AWP_block ?_
        | refine AWP_seq ?_)
      refine AStep_PCflat rfl rfl (by first | (simp [take_map_len]; done) | (simp [take_map_len]; rfl)) (pc46 N) rfl ?_
      rintro _ rfl
      refine ⟨by simp, ?_⟩
      simp [take_map_len]
      repeat (first
        | (refine AWP_seq (AWP_regS tOk rfl ?_); simp)
        | (refine AWP_regS tOk rfl ?_; simp)
        | (refine AWP_skip ?_; simp)
        | (refine AWP_exit ?_; simp)
        | (refine AWP_ret ?_; simp)
        | refine AWP_block ?_
        | refine AWP_seq ?_)
      refine AWP_cond2 rfl (fun h => ?_) (fun h3 => ?_)
      · repeat (first
          | (refine AWP_seq (AWP_regS tOk rfl ?_); simp)
          | (refine AWP_regS tOk rfl ?_; simp)
          | (refine AWP_skip ?_; simp)
          | (refine AWP_exit ?_; simp)
          | (refine AWP_ret ?_; simp)
          | refine AWP_block ?_
          | refine AWP_seq ?_)
        simp at h
        rw [changedR, if_pos h1, hsv, finR, if_neg (by omega), if_pos h]
        simp [zeroD]
      simp at h3
      repeat (first
        | (refine AWP_seq (AWP_regS tOk rfl ?_); simp [take_map_len])
        | (refine AWP_regS tOk rfl ?_; simp [take_map_len])
        | (refine AWP_skip ?_; simp [take_map_len])
        | (refine AWP_exit ?_; simp [take_map_len])
        | (refine AWP_ret ?_; simp [take_map_len])
        | refine AWP_block ?_
        | refine AWP_seq ?_)
      rw [changedR, if_pos h1, hsv, finR, if_neg (by omega), if_neg (by omega)]
      simp [take_map_len]
    · simp at hf
      have hpL : lb d.files s < d.files.length := foundAt_lt hf
      have hopen : openAt d s = d.files := by rw [openAt, if_pos hf]
      have hgL : (d.files.map encF)[lb d.files s]? = some (encF d.files[lb d.files s]) := by simp [hpL]
      repeat (first
        | (refine AWP_seq (AWP_regS tOk rfl ?_); simp)
        | (refine AWP_regS tOk rfl ?_; simp)
        | (refine AWP_skip ?_; simp)
        | (refine AWP_exit ?_; simp)
        | (refine AWP_ret ?_; simp)
        | refine AWP_block ?_
        | refine AWP_seq ?_)
      refine AWP_draw tOk mixed [13] [0, 1, 2, 3, 4, 5, 6, 7, 8, 9, 10, 11, 12, 13] rfl (by kernel_rfl) ?_
      simp [hpL, hgL]
      refine AStep_PC rfl rfl (by simp) (hg _ (.inr ⟨_, List.getElem_mem hpL, rfl⟩)) rfl ?_
      rintro _ rfl
      simp [hpL, hgL]
      repeat (first
        | (refine AWP_seq (AWP_regS tOk rfl ?_); simp)
        | (refine AWP_regS tOk rfl ?_; simp)
        | (refine AWP_skip ?_; simp)
        | (refine AWP_exit ?_; simp)
        | (refine AWP_ret ?_; simp)
        | refine AWP_block ?_
        | refine AWP_seq ?_)
      have hsv : setVol (openAt d s) (lb d.files s) g = d.files.set (lb d.files s) { d.files[lb d.files s] with vol := g d.files[lb d.files s].vol } := by rw [hopen, setVol, List.getElem?_eq_getElem hpL]
      have hls : (d.files.set (lb d.files s) { d.files[lb d.files s] with vol := g d.files[lb d.files s].vol }).length = d.files.length := by simp
      have hmap : (d.files.map encF).set (lb d.files s) (.agg [.str d.files[lb d.files s].name, .str d.files[lb d.files s].dur, .str (g d.files[lb d.files s].vol)]) = (d.files.set (lb d.files s) { d.files[lb d.files s] with vol := g d.files[lb d.files s].vol }).map encF := by rw [List.map_set]; rfl
      rw [hmap]
      refine AWP_keep (sl' := [(6, .vptr 1 0), (7, .i 0), (9, .vptr 4 0), (60, .bool (decide ((256 : Int) < d.files.length)))]) ?_ (by simp)
      generalize d.files.set (lb d.files s) { d.files[lb d.files s] with vol := g d.files[lb d.files s].vol } = N at hsv hls
      rw [← hls]
      refine AWP_cond2 rfl (fun h => ?_) (fun h2 => ?_)
      · repeat (first
          | (refine AWP_seq (AWP_regS tOk rfl ?_); simp)
          | (refine AWP_regS tOk rfl ?_; simp)
          | (refine AWP_skip ?_; simp)
          | (refine AWP_exit ?_; simp)
          | (refine AWP_ret ?_; simp)
          | refine AWP_block ?_
          | refine AWP_seq ?_)
        simp at h
        simp [changedR, h1, hsv, finR, h, zeroD]
      simp at h2
      repeat (first
        | (refine AWP_seq (AWP_regS tOk rfl ?_); simp)
        | (refine AWP_regS tOk rfl ?_; simp)
        | (refine AWP_skip ?_; simp)
        | (refine AWP_exit ?_; simp)
        | (refine AWP_ret ?_; simp)
        | refine AWP_block ?_
        | refine AWP_seq ?_)
      refine AStep_PCflat rfl rfl (by first | (simp [take_map_len]; done) | (simp [take_map_len]; rfl)) (pc46 N) rfl ?_
      rintro _ rfl
      refine ⟨by simp, ?_⟩
      simp [take_map_len]
      repeat (first
        | (refine AWP_seq (AWP_regS tOk rfl ?_); simp)
        | (refine AWP_regS tOk rfl ?_; simp)
        | (refine AWP_skip ?_; simp)
        | (refine AWP_exit ?_; simp)
        | (refine AWP_ret ?_; simp)
        | refine AWP_block ?_
        | refine AWP_seq ?_)
      refine AWP_cond2 rfl (fun h => ?_) (fun h3 => ?_)
      · repeat (first
          | (refine AWP_seq (AWP_regS tOk rfl ?_); simp)
          | (refine AWP_regS tOk rfl ?_; simp)
          | (refine AWP_skip ?_; simp)
          | (refine AWP_exit ?_; simp)
          | (refine AWP_ret ?_; simp)
          | refine AWP_block ?_
          | refine AWP_seq ?_)
        simp at h
        rw [changedR, if_pos h1, hsv, finR, if_neg (by omega), if_pos h]
        simp [zeroD]
      simp at h3
      repeat (first
        | (refine AWP_seq (AWP_regS tOk rfl ?_); simp [take_map_len])
        | (refine AWP_regS tOk rfl ?_; simp [take_map_len])
        | (refine AWP_skip ?_; simp [take_map_len])
        | (refine AWP_exit ?_; simp [take_map_len])
        | (refine AWP_ret ?_; simp [take_map_len])
        | refine AWP_block ?_
        | refine AWP_seq ?_)
      rw [changedR, if_pos h1, hsv, finR, if_neg (by omega), if_neg (by omega)]
      simp [take_map_len]
  · refine AStep_FR rfl rfl (by simp) (fr55 d.files (by omega)) rfl ?_
    rintro _ rfl
    simp
    refine AWP_ren (sl' := [(1, .str s), (2, .fn (.func f) [] [.iptr [.str b]]), (3, .vptr 0 0), (6, .vptr 1 0), (7, .i 0), (9, .vptr 4 0)]) (H' := [.vars [.list (d.files.map encF), .i d.space], .vars [.nils, .i 0], .arr 9 1 [.str s], .arr 52 3 (d.files.map encF), .vars [.sl 3 3 0 d.files.length, .i d.space]]) [0, 1, 2, 4, 3] ?_ (by simp) (by decide) (by simp) (by simp) (by simp) (by simp) (by simp)
    repeat (first
      | (refine AWP_seq (AWP_regS tOk rfl ?_); simp)
      | (refine AWP_regS tOk rfl ?_; simp)
      | (refine AWP_skip ?_; simp)
      | (refine AWP_exit ?_; simp)
      | (refine AWP_ret ?_; simp)
      | refine AWP_block ?_
      | refine AWP_seq ?_)
    refine AStep_PC rfl rfl (by simp) (pc50 d s (by omega) hso) rfl ?_
    rintro _ rfl
    simp
    repeat (first
      | (refine AWP_seq (AWP_regS tOk rfl ?_); simp)
      | (refine AWP_regS tOk rfl ?_; simp)
      | (refine AWP_skip ?_; simp)
      | (refine AWP_exit ?_; simp)
      | (refine AWP_ret ?_; simp)
      | refine AWP_block ?_
      | refine AWP_seq ?_)
    refine AWP_cond2 rfl (fun hnf => ?_) (fun hf => ?_)
    · simp at hnf
      repeat (first
        | (refine AWP_seq (AWP_regS tOk rfl ?_); simp)
        | (refine AWP_regS tOk rfl ?_; simp)
        | (refine AWP_skip ?_; simp)
        | (refine AWP_exit ?_; simp)
        | (refine AWP_ret ?_; simp)
        | refine AWP_block ?_
        | refine AWP_seq ?_)
      have hlt := insAt_len d.files (lb d.files s) ⟨s, [], []⟩ hp
      have hpL : lb d.files s < (insAt d.files (lb d.files s) ⟨s, [], []⟩).length := by omega
      have hopen : openAt d s = insAt d.files (lb d.files s) ⟨s, [], []⟩ := by rw [openAt, if_neg (by simp [hnf])]
      have hgL : ((insAt d.files (lb d.files s) ⟨s, [], []⟩).map encF)[lb d.files s]? = some (encF (insAt d.files (lb d.files s) ⟨s, [], []⟩)[lb d.files s]) := by simp [hpL]
      have hvv : (insAt d.files (lb d.files s) ⟨s, [], []⟩)[lb d.files s].vol = [] := by simp [insAt, hp]
      refine AStep_FC rfl rfl (fc56 _ 3 5 d.files (lb d.files s) ⟨s, [], []⟩ rfl rfl (by decide) hp (by omega)) rfl ?_
      rintro _ _ ⟨rfl, G, rfl⟩
      rw [← hlt]
      simp
      repeat (first
        | (refine AWP_seq (AWP_regS tOk rfl ?_); simp)
        | (refine AWP_regS tOk rfl ?_; simp)
        | (refine AWP_skip ?_; simp)
        | (refine AWP_exit ?_; simp)
        | (refine AWP_ret ?_; simp)
        | refine AWP_block ?_
        | refine AWP_seq ?_)
      refine AWP_draw tOk mixed [13] [0, 1, 2, 3, 4, 5, 6, 7, 8, 9, 10, 11, 12, 13] rfl (by kernel_rfl) ?_
      simp [hpL, hgL]
      refine AStep_PC rfl rfl (by simp) (hg _ (.inl hvv)) rfl ?_
      rintro _ rfl
      simp [hpL, hgL]
      repeat (first
        | (refine AWP_seq (AWP_regS tOk rfl ?_); simp)
        | (refine AWP_regS tOk rfl ?_; simp)
        | (refine AWP_skip ?_; simp)
        | (refine AWP_exit ?_; simp)
        | (refine AWP_ret ?_; simp)
        | refine AWP_block ?_
        | refine AWP_seq ?_)
      have hsv : setVol (openAt d s) (lb d.files s) g = (insAt d.files (lb d.files s) ⟨s, [], []⟩).set (lb d.files s) { (insAt d.files (lb d.files s) ⟨s, [], []⟩)[lb d.files s] with vol := g (insAt d.files (lb d.files s) ⟨s, [], []⟩)[lb d.files s].vol } := by rw [hopen, setVol, List.getElem?_eq_getElem hpL]
      have hls : ((insAt d.files (lb d.files s) ⟨s, [], []⟩).set (lb d.files s) { (insAt d.files (lb d.files s) ⟨s, [], []⟩)[lb d.files s] with vol := g (insAt d.files (lb d.files s) ⟨s, [], []⟩)[lb d.files s].vol }).length = (insAt d.files (lb d.files s) ⟨s, [], []⟩).length := by simp
      have hmap : ((insAt d.files (lb d.files s) ⟨s, [], []⟩).map encF).set (lb d.files s) (.agg [.str (insAt d.files (lb d.files s) ⟨s, [], []⟩)[lb d.files s].name, .str (insAt d.files (lb d.files s) ⟨s, [], []⟩)[lb d.files s].dur, .str (g (insAt d.files (lb d.files s) ⟨s, [], []⟩)[lb d.files s].vol)]) = ((insAt d.files (lb d.files s) ⟨s, [], []⟩).set (lb d.files s) { (insAt d.files (lb d.files s) ⟨s, [], []⟩)[lb d.files s] with vol := g (insAt d.files (lb d.files s) ⟨s, [], []⟩)[lb d.files s].vol }).map encF := by rw [List.map_set]; rfl
      rw [hmap]
      refine AWP_keep (sl' := [(6, .vptr 1 0), (7, .i 0), (9, .vptr 4 0), (60, .bool (decide ((256 : Int) < (insAt d.files (lb d.files s) ⟨s, [], []⟩).length)))]) ?_ (by simp)
      generalize (insAt d.files (lb d.files s) ⟨s, [], []⟩).set (lb d.files s) { (insAt d.files (lb d.files s) ⟨s, [], []⟩)[lb d.files s] with vol := g (insAt d.files (lb d.files s) ⟨s, [], []⟩)[lb d.files s].vol } = N at hsv hls
      rw [← hls]
      refine AWP_cond2 rfl (fun h => ?_) (fun h2 => ?_)
      · repeat (first
          | (refine AWP_seq (AWP_regS tOk rfl ?_); simp)
          | (refine AWP_regS tOk rfl ?_; simp)
          | (refine AWP_skip ?_; simp)
          | (refine AWP_exit ?_; simp)
          | (refine AWP_ret ?_; simp)
          | refine AWP_block ?_
          | refine AWP_seq ?_)
        simp at h
        simp [changedR, h1, hsv, finR, h, zeroD]
      simp at h2
      repeat (first
        | (refine AWP_seq (AWP_regS tOk rfl ?_); simp)
        | (refine AWP_regS tOk rfl ?_; simp)
        | (refine AWP_skip ?_; simp)
        | (refine AWP_exit ?_; simp)
        | (refine AWP_ret ?_; simp)
        | refine AWP_block ?_
        | refine AWP_seq ?_)
      refine AStep_PCflat rfl rfl (by first | (simp [take_map_len]; done) | (simp [take_map_len]; rfl)) (pc46 N) rfl ?_
      rintro _ rfl
      refine ⟨by simp, ?_⟩
      simp [take_map_len]
      repeat (first
        | (refine AWP_seq (AWP_regS tOk rfl ?_); simp)
        | (refine AWP_regS tOk rfl ?_; simp)
        | (refine AWP_skip ?_; simp)
        | (refine AWP_exit ?_; simp)
        | (refine AWP_ret ?_; simp)
        | refine AWP_block ?_
        | refine AWP_seq ?_)
      refine AWP_cond2 rfl (fun h => ?_) (fun h3 => ?_)
      · repeat (first
          | (refine AWP_seq (AWP_regS tOk rfl ?_); simp)
          | (refine AWP_regS tOk rfl ?_; simp)
          | (refine AWP_skip ?_; simp)
          | (refine AWP_exit ?_; simp)
          | (refine AWP_ret ?_; simp)
          | refine AWP_block ?_
          | refine AWP_seq ?_)
        simp at h
        rw [changedR, if_pos h1, hsv, finR, if_neg (by omega), if_pos h]
        simp [zeroD]
      simp at h3
      repeat (first
        | (refine AWP_seq (AWP_regS tOk rfl ?_); simp [take_map_len])
        | (refine AWP_regS tOk rfl ?_; simp [take_map_len])
        | (refine AWP_skip ?_; simp [take_map_len])
        | (refine AWP_exit ?_; simp [take_map_len])
        | (refine AWP_ret ?_; simp [take_map_len])
        | refine AWP_block ?_
        | refine AWP_seq ?_)
      rw [changedR, if_pos h1, hsv, finR, if_neg (by omega), if_neg (by omega)]
      simp [take_map_len]
    · simp at hf
      have hpL : lb d.files s < d.files.length := foundAt_lt hf
      have hopen : openAt d s = d.files := by rw [openAt, if_pos hf]
      have hgL : (d.files.map encF)[lb d.files s]? = some (encF d.files[lb d.files s]) := by simp [hpL]
      repeat (first
        | (refine AWP_seq (AWP_regS tOk rfl ?_); simp)
        | (refine AWP_regS tOk rfl ?_; simp)
        | (refine AWP_skip ?_; simp)
        | (refine AWP_exit ?_; simp)
        | (refine AWP_ret ?_; simp)
        | refine AWP_block ?_
        | refine AWP_seq ?_)
      refine AWP_draw tOk mixed [13] [0, 1, 2, 3, 4, 5, 6, 7, 8, 9, 10, 11, 12, 13] rfl (by kernel_rfl) ?_
      simp [hpL, hgL]
      refine AStep_PC rfl rfl (by simp) (hg _ (.inr ⟨_, List.getElem_mem hpL, rfl⟩)) rfl ?_
      rintro _ rfl
      simp [hpL, hgL]
      repeat (first
        | (refine AWP_seq (AWP_regS tOk rfl ?_); simp)
        | (refine AWP_regS tOk rfl ?_; simp)
        | (refine AWP_skip ?_; simp)
        | (refine AWP_exit ?_; simp)
        | (refine AWP_ret ?_; simp)
        | refine AWP_block ?_
        | refine AWP_seq ?_)
      have hsv : setVol (openAt d s) (lb d.files s) g = d.files.set (lb d.files s) { d.files[lb d.files s] with vol := g d.files[lb d.files s].vol } := by rw [hopen, setVol, List.getElem?_eq_getElem hpL]
      have hls : (d.files.set (lb d.files s) { d.files[lb d.files s] with vol := g d.files[lb d.files s].vol }).length = d.files.length := by simp
      have hmap : (d.files.map encF).set (lb d.files s) (.agg [.str d.files[lb d.files s].name, .str d.files[lb d.files s].dur, .str (g d.files[lb d.files s].vol)]) = (d.files.set (lb d.files s) { d.files[lb d.files s] with vol := g d.files[lb d.files s].vol }).map encF := by rw [List.map_set]; rfl
      rw [hmap]
      refine AWP_keep (sl' := [(6, .vptr 1 0), (7, .i 0), (9, .vptr 4 0), (60, .bool (decide ((256 : Int) < d.files.length)))]) ?_ (by simp)
      generalize d.files.set (lb d.files s) { d.files[lb d.files s] with vol := g d.files[lb d.files s].vol } = N at hsv hls
      rw [← hls]
      refine AWP_cond2 rfl (fun h => ?_) (fun h2 => ?_)
      · repeat (first
          | (refine AWP_seq (AWP_regS tOk rfl ?_); simp)
          | (refine AWP_regS tOk rfl ?_; simp)
          | (refine AWP_skip ?_; simp)
          | (refine AWP_exit ?_; simp)
          | (refine AWP_ret ?_; simp)
          | refine AWP_block ?_
          | refine AWP_seq ?_)
        simp at h
        simp [changedR, h1, hsv, finR, h, zeroD]
      simp at h2
      repeat (first
        | (refine AWP_seq (AWP_regS tOk rfl ?_); simp)
        | (refine AWP_regS tOk rfl ?_; simp)
        | (refine AWP_skip ?_; simp)
        | (refine AWP_exit ?_; simp)
        | (refine AWP_ret ?_; simp)
        | refine AWP_block ?_
        | refine AWP_seq ?_)
      refine AStep_PCflat rfl rfl (by first | (simp [take_map_len]; done) | (simp [take_map_len]; rfl)) (pc46 N) rfl ?_
      rintro _ rfl
      refine ⟨by simp, ?_⟩
      simp [take_map_len]
      repeat (first
        | (refine AWP_seq (AWP_regS tOk rfl ?_); simp)
        | (refine AWP_regS tOk rfl ?_; simp)
        | (refine AWP_skip ?_; simp)
        | (refine AWP_exit ?_; simp)
        | (refine AWP_ret ?_; simp)
        | refine AWP_block ?_
        | refine AWP_seq ?_)
      refine AWP_cond2 rfl (fun h => ?_) (fun h3 => ?_)
      · repeat (first
          | (refine AWP_seq (AWP_regS tOk rfl ?_); simp)
          | (refine AWP_regS tOk rfl ?_; simp)
          | (refine AWP_skip ?_; simp)
          | (refine AWP_exit ?_; simp)
          | (refine AWP_ret ?_; simp)
          | refine AWP_block ?_
          | refine AWP_seq ?_)
        simp at h
        rw [changedR, if_pos h1, hsv, finR, if_neg (by omega), if_pos h]
        simp [zeroD]
      simp at h3
      repeat (first
        | (refine AWP_seq (AWP_regS tOk rfl ?_); simp [take_map_len])
        | (refine AWP_regS tOk rfl ?_; simp [take_map_len])
        | (refine AWP_skip ?_; simp [take_map_len])
        | (refine AWP_exit ?_; simp [take_map_len])
        | (refine AWP_ret ?_; simp [take_map_len])
        | refine AWP_block ?_
        | refine AWP_seq ?_)
      rw [changedR, if_pos h1, hsv, finR, if_neg (by omega), if_neg (by omega)]
      simp [take_map_len]
end Go.Abs
set_option maxRecDepth 100000
namespace Go.Abs
open Go Go.Proofs
set_option linter.unusedSimpArgs false

def wrG (b : List UInt8) (_ : List UInt8) : List UInt8 := b
def apG (b v : List UInt8) : List UInt8 := v ++ b
set_option maxHeartbeats 2000000 in
theorem pc13 (d : Disk) (s b : List UInt8) : PC Tryd.prog 13 [encD d, .str s, .str b] (fun r => r = .tup [encD (changedR d s (wrG b)).1, .i (changedR d s (wrG b)).2]) := by
  refine PC_body tOk Tryd.func13 rfl Tryd.results13 rfl (by simp [Tryd.ntmps13]) ?_
  rw [Tryd.ntmps13]
  simp only [argSlots]
  simp only [encD]
  repeat (first
    | (refine AWP_seq (AWP_regS tOk rfl ?_); simp)
    | (refine AWP_regS tOk rfl ?_; simp)
    | (refine AWP_skip ?_; simp)
    | (refine AWP_exit ?_; simp)
    | (refine AWP_ret ?_; simp)
    | refine AWP_block ?_
    | refine AWP_seq ?_)
  refine AStep_freezeV 1 (xs := [.str b]) (ys := [.str b]) (by simp) rfl ?_
  simp
  refine AStep_PC rfl rfl (by simp) (pc37 38 b (wrG b) d s (fun v _ => pc38 v b)) rfl ?_
  rintro _ rfl
  simp
  repeat (first
    | (refine AWP_seq (AWP_regS tOk rfl ?_); simp)
    | (refine AWP_regS tOk rfl ?_; simp)
    | (refine AWP_skip ?_; simp)
    | (refine AWP_exit ?_; simp)
    | (refine AWP_ret ?_; simp)
    | refine AWP_block ?_
    | refine AWP_seq ?_)

set_option maxHeartbeats 2000000 in
theorem pc15 (d : Disk) (s b : List UInt8) (hvb : ∀ x ∈ d.files, x.vol.length ≤ 4611686018427387904) (hb : b.length ≤ 4611686018427387903) : PC Tryd.prog 15 [encD d, .str s, .str b] (fun r => r = .tup [encD (changedR d s (apG b)).1, .i (changedR d s (apG b)).2]) := by
  refine PC_body tOk Tryd.func15 rfl Tryd.results15 rfl (by simp [Tryd.ntmps15]) ?_
  rw [Tryd.ntmps15]
  simp only [argSlots]
  simp only [encD]
  have hvl : ∀ v : List UInt8, (v = [] ∨ ∃ x ∈ d.files, x.vol = v) → v.length + b.length ≤ 9223372036854775807 := by
    intro v hv
    rcases hv with rfl | ⟨x, hx, rfl⟩
    · simp; omega
    · have := hvb x hx; omega
  repeat (first
    | (refine AWP_seq (AWP_regS tOk rfl ?_); simp)
    | (refine AWP_regS tOk rfl ?_; simp)
    | (refine AWP_skip ?_; simp)
    | (refine AWP_exit ?_; simp)
    | (refine AWP_ret ?_; simp)
    | refine AWP_block ?_
    | refine AWP_seq ?_)
  refine AStep_freezeV 1 (xs := [.str b]) (ys := [.str b]) (by simp) rfl ?_
  simp
  refine AStep_PC rfl rfl (by simp) (pc37 43 b (apG b) d s (fun v hv => pc43 v b (hvl v hv))) rfl ?_
  rintro _ rfl
  simp
  repeat (first
    | (refine AWP_seq (AWP_regS tOk rfl ?_); simp)
    | (refine AWP_regS tOk rfl ?_; simp)
    | (refine AWP_skip ?_; simp)
    | (refine AWP_exit ?_; simp)
    | (refine AWP_ret ?_; simp)
    | refine AWP_block ?_
    | refine AWP_seq ?_)

def finD (fs : List File) (space : Int) : Disk × Int := if space < W (sumD fs) then (zeroD, 27) else (⟨fs, space⟩, 0)
def syncF (fs : List File) (p : Nat) : List File := match fs[p]? with
  | some f => fs.set p { f with dur := f.vol }
  | none => fs
def syncPR (d : Disk) (s : List UInt8) : Disk × Int := if namedR d s = 0 then (match findR d.files s 0 with
  | none => (zeroD, 6)
  | some i => finD (syncF d.files i) d.space) else (zeroD, namedR d s)
set_option maxHeartbeats 2000000 in
theorem pc28 (d : Disk) (s : List UInt8) : PC Tryd.prog 28 [encD d, .str s] (fun r => r = .tup [encD (syncPR d s).1, .i (syncPR d s).2]) := by
  refine PC_body tOk Tryd.func28 rfl Tryd.results28 rfl (by simp [Tryd.ntmps28]) ?_
  rw [Tryd.ntmps28]
  simp only [argSlots]
  simp only [encD]
  repeat (first
    | (refine AWP_seq (AWP_regS tOk rfl ?_); simp)
    | (refine AWP_regS tOk rfl ?_; simp)
    | (refine AWP_skip ?_; simp)
    | (refine AWP_exit ?_; simp)
    | (refine AWP_ret ?_; simp)
    | refine AWP_block ?_
    | refine AWP_seq ?_)
  refine AStep_PCflat rfl rfl (by first | (simp; done) | (simp; rfl)) (pc49 d [s]) rfl ?_
  rintro _ rfl
  refine ⟨by simp, ?_⟩
  simp
  repeat (first
    | (refine AWP_seq (AWP_regS tOk rfl ?_); simp)
    | (refine AWP_regS tOk rfl ?_; simp)
    | (refine AWP_skip ?_; simp)
    | (refine AWP_exit ?_; simp)
    | (refine AWP_ret ?_; simp)
    | refine AWP_block ?_
    | refine AWP_seq ?_)
  rw [checkedR_one]
  refine AWP_cond2 rfl (fun h => ?_) (fun h1 => ?_)
  · repeat (first
      | (refine AWP_seq (AWP_regS tOk rfl ?_); simp)
      | (refine AWP_regS tOk rfl ?_; simp)
      | (refine AWP_skip ?_; simp)
      | (refine AWP_exit ?_; simp)
      | (refine AWP_ret ?_; simp)
      | refine AWP_block ?_
      | refine AWP_seq ?_)
    simp at h
    simp [syncPR, h, zeroD]
  simp at h1
  have hc := namedR_check h1
  have hl := checkR_len hc
  have hso := checkR_sorted hc
  have hp := placeAV d s hso
  repeat (first
    | (refine AWP_seq (AWP_regS tOk rfl ?_); simp)
    | (refine AWP_regS tOk rfl ?_; simp)
    | (refine AWP_skip ?_; simp)
    | (refine AWP_exit ?_; simp)
    | (refine AWP_ret ?_; simp)
    | refine AWP_block ?_
    | refine AWP_seq ?_)
  refine AStep_PC rfl rfl (by simp) (pc50 d s (by omega) hso) rfl ?_
  rintro _ rfl
  simp
  repeat (first
    | (refine AWP_seq (AWP_regS tOk rfl ?_); simp)
    | (refine AWP_regS tOk rfl ?_; simp)
    | (refine AWP_skip ?_; simp)
    | (refine AWP_exit ?_; simp)
    | (refine AWP_ret ?_; simp)
    | refine AWP_block ?_
    | refine AWP_seq ?_)
  cases hf : foundAt d.files s (lb d.files s)
  · rw [hf] at hp
    simp at hp
    refine AWP_cond rfl ?_
    repeat (first
      | (refine AWP_seq (AWP_regS tOk rfl ?_); simp)
      | (refine AWP_regS tOk rfl ?_; simp)
      | (refine AWP_skip ?_; simp)
      | (refine AWP_exit ?_; simp)
      | (refine AWP_ret ?_; simp)
      | refine AWP_block ?_
      | refine AWP_seq ?_)
    simp [syncPR, h1, hp, zeroD]
  rw [hf] at hp
  have hp2 : findR d.files s 0 = some (lb d.files s) := by simpa using hp
  have hi := findR_lt hp2
  refine AWP_cond rfl ?_
  repeat (first
    | (refine AWP_seq (AWP_regS tOk rfl ?_); simp)
    | (refine AWP_regS tOk rfl ?_; simp)
    | (refine AWP_skip ?_; simp)
    | (refine AWP_exit ?_; simp)
    | (refine AWP_ret ?_; simp)
    | refine AWP_block ?_
    | refine AWP_seq ?_)
  refine AWP_drawT tOk mixed [7] (.val 0 (.val 1 (.val 3 (.val 4 (.two 2 (.val 5 (.one 6 (.one 7 .done))) 6 (.one 2 (.one 5 (.one 7 .done)))))))) rfl (by kernel_rfl) ?_
  simp
  refine ⟨?_, ?_⟩
  · refine AStep_FR rfl rfl (by simp) (fr55 d.files (by omega)) rfl ?_
    rintro _ rfl
    simp
    refine AWP_keep (sl' := [(4, .vptr 1 0), (5, .i 0), (7, .i (lb d.files s)), (9, .vptr 4 0)]) ?_ (by simp)
    repeat (first
      | (refine AWP_seq (AWP_regS tOk rfl ?_); simp)
      | (refine AWP_regS tOk rfl ?_; simp)
      | (refine AWP_skip ?_; simp)
      | (refine AWP_exit ?_; simp)
      | (refine AWP_ret ?_; simp)
      | refine AWP_block ?_
      | refine AWP_seq ?_)
    refine AWP_draw tOk mixed [11] [0, 1, 2, 3, 4, 5, 6, 7, 8, 9, 10, 11] rfl (by kernel_rfl) ?_
    simp [hi]
    have hsv : syncF d.files (lb d.files s) = d.files.set (lb d.files s) { d.files[lb d.files s] with dur := d.files[lb d.files s].vol } := by rw [syncF, List.getElem?_eq_getElem hi]
    have hmap : (d.files.map encF).set (lb d.files s) (.agg [.str d.files[lb d.files s].name, .str d.files[lb d.files s].vol, .str d.files[lb d.files s].vol]) = (d.files.set (lb d.files s) { d.files[lb d.files s] with dur := d.files[lb d.files s].vol }).map encF := by rw [List.map_set]; rfl
    have hls : (d.files.set (lb d.files s) { d.files[lb d.files s] with dur := d.files[lb d.files s].vol }).length = d.files.length := by simp
    rw [hmap]
    refine AWP_keep (sl' := [(4, .vptr 1 0), (5, .i 0), (9, .vptr 4 0)]) ?_ (by simp)
    generalize d.files.set (lb d.files s) { d.files[lb d.files s] with dur := d.files[lb d.files s].vol } = N at hsv hls
    rw [← hls]
    repeat (first
      | (refine AWP_seq (AWP_regS tOk rfl ?_); simp)
      | (refine AWP_regS tOk rfl ?_; simp)
      | (refine AWP_skip ?_; simp)
      | (refine AWP_exit ?_; simp)
      | (refine AWP_ret ?_; simp)
      | refine AWP_block ?_
      | refine AWP_seq ?_)
    refine AStep_PCflat rfl rfl (by first | (simp [take_map_len]; done) | (simp [take_map_len]; rfl)) (pc46 N) rfl ?_
    rintro _ rfl
    refine ⟨by simp, ?_⟩
    simp [take_map_len]
    repeat (first
      | (refine AWP_seq (AWP_regS tOk rfl ?_); simp)
      | (refine AWP_regS tOk rfl ?_; simp)
      | (refine AWP_skip ?_; simp)
      | (refine AWP_exit ?_; simp)
      | (refine AWP_ret ?_; simp)
      | refine AWP_block ?_
      | refine AWP_seq ?_)
    refine AWP_cond2 rfl (fun h => ?_) (fun h3 => ?_)
    · repeat (first
        | (refine AWP_seq (AWP_regS tOk rfl ?_); simp)
        | (refine AWP_regS tOk rfl ?_; simp)
        | (refine AWP_skip ?_; simp)
        | (refine AWP_exit ?_; simp)
        | (refine AWP_ret ?_; simp)
        | refine AWP_block ?_
        | refine AWP_seq ?_)
      simp at h
      simp only [syncPR, if_pos h1, hp2, hsv]
      rw [finD, if_pos h]
      simp [zeroD]
    simp at h3
    repeat (first
      | (refine AWP_seq (AWP_regS tOk rfl ?_); simp [take_map_len])
      | (refine AWP_regS tOk rfl ?_; simp [take_map_len])
      | (refine AWP_skip ?_; simp [take_map_len])
      | (refine AWP_exit ?_; simp [take_map_len])
      | (refine AWP_ret ?_; simp [take_map_len])
      | refine AWP_block ?_
      | refine AWP_seq ?_)
    simp only [syncPR, if_pos h1, hp2, hsv]
    rw [finD, if_neg (by omega)]
    simp [take_map_len]
  · refine AStep_FR rfl rfl (by simp) (fr55 d.files (by omega)) rfl ?_
    rintro _ rfl
    simp
    refine AWP_ren (sl' := [(4, .vptr 1 0), (5, .i 0), (7, .i (lb d.files s)), (9, .vptr 4 0)]) (H' := [.vars [.list (d.files.map encF), .i d.space], .vars [.nils, .i 0], .arr 9 1 [.str s], .arr 52 3 (d.files.map encF), .vars [.sl 3 3 0 d.files.length, .i d.space]]) [0, 1, 2, 4, 3] ?_ (by simp) (by decide) (by simp) (by simp) (by simp) (by simp) (by simp)
    repeat (first
      | (refine AWP_seq (AWP_regS tOk rfl ?_); simp)
      | (refine AWP_regS tOk rfl ?_; simp)
      | (refine AWP_skip ?_; simp)
      | (refine AWP_exit ?_; simp)
      | (refine AWP_ret ?_; simp)
      | refine AWP_block ?_
      | refine AWP_seq ?_)
    refine AWP_draw tOk mixed [11] [0, 1, 2, 3, 4, 5, 6, 7, 8, 9, 10, 11] rfl (by kernel_rfl) ?_
    simp [hi]
    have hsv : syncF d.files (lb d.files s) = d.files.set (lb d.files s) { d.files[lb d.files s] with dur := d.files[lb d.files s].vol } := by rw [syncF, List.getElem?_eq_getElem hi]
    have hmap : (d.files.map encF).set (lb d.files s) (.agg [.str d.files[lb d.files s].name, .str d.files[lb d.files s].vol, .str d.files[lb d.files s].vol]) = (d.files.set (lb d.files s) { d.files[lb d.files s] with dur := d.files[lb d.files s].vol }).map encF := by rw [List.map_set]; rfl
    have hls : (d.files.set (lb d.files s) { d.files[lb d.files s] with dur := d.files[lb d.files s].vol }).length = d.files.length := by simp
    rw [hmap]
    refine AWP_keep (sl' := [(4, .vptr 1 0), (5, .i 0), (9, .vptr 4 0)]) ?_ (by simp)
    generalize d.files.set (lb d.files s) { d.files[lb d.files s] with dur := d.files[lb d.files s].vol } = N at hsv hls
    rw [← hls]
    repeat (first
      | (refine AWP_seq (AWP_regS tOk rfl ?_); simp)
      | (refine AWP_regS tOk rfl ?_; simp)
      | (refine AWP_skip ?_; simp)
      | (refine AWP_exit ?_; simp)
      | (refine AWP_ret ?_; simp)
      | refine AWP_block ?_
      | refine AWP_seq ?_)
    refine AStep_PCflat rfl rfl (by first | (simp [take_map_len]; done) | (simp [take_map_len]; rfl)) (pc46 N) rfl ?_
    rintro _ rfl
    refine ⟨by simp, ?_⟩
    simp [take_map_len]
    repeat (first
      | (refine AWP_seq (AWP_regS tOk rfl ?_); simp)
      | (refine AWP_regS tOk rfl ?_; simp)
      | (refine AWP_skip ?_; simp)
      | (refine AWP_exit ?_; simp)
      | (refine AWP_ret ?_; simp)
      | refine AWP_block ?_
      | refine AWP_seq ?_)
    refine AWP_cond2 rfl (fun h => ?_) (fun h3 => ?_)
    · repeat (first
        | (refine AWP_seq (AWP_regS tOk rfl ?_); simp)
        | (refine AWP_regS tOk rfl ?_; simp)
        | (refine AWP_skip ?_; simp)
        | (refine AWP_exit ?_; simp)
        | (refine AWP_ret ?_; simp)
        | refine AWP_block ?_
        | refine AWP_seq ?_)
      simp at h
      simp only [syncPR, if_pos h1, hp2, hsv]
      rw [finD, if_pos h]
      simp [zeroD]
    simp at h3
    repeat (first
      | (refine AWP_seq (AWP_regS tOk rfl ?_); simp [take_map_len])
      | (refine AWP_regS tOk rfl ?_; simp [take_map_len])
      | (refine AWP_skip ?_; simp [take_map_len])
      | (refine AWP_exit ?_; simp [take_map_len])
      | (refine AWP_ret ?_; simp [take_map_len])
      | refine AWP_block ?_
      | refine AWP_seq ?_)
    simp only [syncPR, if_pos h1, hp2, hsv]
    rw [finD, if_neg (by omega)]
    simp [take_map_len]

def removePR (d : Disk) (s : List UInt8) : Disk × Int := if namedR d s = 0 then (match findR d.files s 0 with
  | none => (zeroD, 6)
  | some i => (⟨d.files.eraseIdx i, d.space⟩, 0)) else (zeroD, namedR d s)
set_option maxHeartbeats 2000000 in
theorem pc33 (d : Disk) (s : List UInt8) : PC Tryd.prog 33 [encD d, .str s] (fun r => r = .tup [encD (removePR d s).1, .i (removePR d s).2]) := by
  refine PC_body tOk Tryd.func33 rfl Tryd.results33 rfl (by simp [Tryd.ntmps33]) ?_
  rw [Tryd.ntmps33]
  simp only [argSlots]
  simp only [encD]
  repeat (first
    | (refine AWP_seq (AWP_regS tOk rfl ?_); simp)
    | (refine AWP_regS tOk rfl ?_; simp)
    | (refine AWP_skip ?_; simp)
    | (refine AWP_exit ?_; simp)
    | (refine AWP_ret ?_; simp)
    | refine AWP_block ?_
    | refine AWP_seq ?_)
  refine AStep_PCflat rfl rfl (by first | (simp; done) | (simp; rfl)) (pc49 d [s]) rfl ?_
  rintro _ rfl
  refine ⟨by simp, ?_⟩
  simp
  repeat (first
    | (refine AWP_seq (AWP_regS tOk rfl ?_); simp)
    | (refine AWP_regS tOk rfl ?_; simp)
    | (refine AWP_skip ?_; simp)
    | (refine AWP_exit ?_; simp)
    | (refine AWP_ret ?_; simp)
    | refine AWP_block ?_
    | refine AWP_seq ?_)
  rw [checkedR_one]
  refine AWP_cond2 rfl (fun h => ?_) (fun h1 => ?_)
  · repeat (first
      | (refine AWP_seq (AWP_regS tOk rfl ?_); simp)
      | (refine AWP_regS tOk rfl ?_; simp)
      | (refine AWP_skip ?_; simp)
      | (refine AWP_exit ?_; simp)
      | (refine AWP_ret ?_; simp)
      | refine AWP_block ?_
      | refine AWP_seq ?_)
    simp at h
    simp [removePR, h, zeroD]
  simp at h1
  have hc := namedR_check h1
  have hl := checkR_len hc
  have hso := checkR_sorted hc
  have hp := placeAV d s hso
  repeat (first
    | (refine AWP_seq (AWP_regS tOk rfl ?_); simp)
    | (refine AWP_regS tOk rfl ?_; simp)
    | (refine AWP_skip ?_; simp)
    | (refine AWP_exit ?_; simp)
    | (refine AWP_ret ?_; simp)
    | refine AWP_block ?_
    | refine AWP_seq ?_)
  refine AStep_PC rfl rfl (by simp) (pc50 d s (by omega) hso) rfl ?_
  rintro _ rfl
  simp
  repeat (first
    | (refine AWP_seq (AWP_regS tOk rfl ?_); simp)
    | (refine AWP_regS tOk rfl ?_; simp)
    | (refine AWP_skip ?_; simp)
    | (refine AWP_exit ?_; simp)
    | (refine AWP_ret ?_; simp)
    | refine AWP_block ?_
    | refine AWP_seq ?_)
  cases hf : foundAt d.files s (lb d.files s)
  · rw [hf] at hp
    simp at hp
    refine AWP_cond rfl ?_
    repeat (first
      | (refine AWP_seq (AWP_regS tOk rfl ?_); simp)
      | (refine AWP_regS tOk rfl ?_; simp)
      | (refine AWP_skip ?_; simp)
      | (refine AWP_exit ?_; simp)
      | (refine AWP_ret ?_; simp)
      | refine AWP_block ?_
      | refine AWP_seq ?_)
    simp [removePR, h1, hp, zeroD]
  rw [hf] at hp
  have hp2 : findR d.files s 0 = some (lb d.files s) := by simpa using hp
  have hi := findR_lt hp2
  have hw : IntKind.i64.wrap ((lb d.files s : Int) + 1) = (lb d.files s : Int) + 1 := wrap_i64 _ (by omega) (by omega)
  have hle : (d.files.eraseIdx (lb d.files s)).length = d.files.length - 1 := List.length_eraseIdx_of_lt hi
  refine AWP_cond rfl ?_
  repeat (first
    | (refine AWP_seq (AWP_regS tOk rfl ?_); simp)
    | (refine AWP_regS tOk rfl ?_; simp)
    | (refine AWP_skip ?_; simp)
    | (refine AWP_exit ?_; simp)
    | (refine AWP_ret ?_; simp)
    | refine AWP_block ?_
    | refine AWP_seq ?_)
  refine AWP_drawT tOk mixed [6, 10] (.val 0 (.val 1 (.val 3 (.val 4 (.val 5 (.val 7 (.two 2 (.two 6 (.one 8 (.one 9 (.one 10 (.one 11 .done)))) 8 (.one 6 (.one 9 (.one 10 (.one 11 .done))))) 8 (.one 2 (.one 6 (.one 9 (.one 10 (.one 11 .done)))))))))))) rfl (by kernel_rfl) ?_
  simp [hw]
  refine ⟨?_, ?_⟩
  · refine AStep_FR rfl rfl (by simp) (fr55 d.files (by omega)) rfl ?_
    rintro _ rfl
    simp
    refine ⟨?_, ?_⟩
    · refine AStep_FC rfl rfl (fc59 _ 3 d.files (lb d.files s) rfl hi (by omega)) rfl ?_
      rintro _ _ ⟨rfl, z, rfl⟩
      have htk : List.take (d.files.length - 1) ((d.files.eraseIdx (lb d.files s)).map encF ++ [z]) = (d.files.eraseIdx (lb d.files s)).map encF := by
        rw [List.take_append_of_le_length (by simp; omega), List.take_of_length_le (by simp; omega)]
      have hsz : d.files.length ≤ (d.files.eraseIdx (lb d.files s)).length + 1 + 1 := by omega
      simp
      repeat (first
        | (refine AWP_seq (AWP_regS tOk rfl ?_); simp)
        | (refine AWP_regS tOk rfl ?_; simp)
        | (refine AWP_skip ?_; simp)
        | (refine AWP_exit ?_; simp)
        | (refine AWP_ret ?_; simp)
        | refine AWP_block ?_
        | refine AWP_seq ?_)
      simp only [htk, if_pos hsz]
      simp [removePR, h1, hp2]
    · refine AStep_FC rfl rfl (fc59 _ 3 d.files (lb d.files s) rfl hi (by omega)) rfl ?_
      rintro _ _ ⟨rfl, z, rfl⟩
      have htk : List.take (d.files.length - 1) ((d.files.eraseIdx (lb d.files s)).map encF ++ [z]) = (d.files.eraseIdx (lb d.files s)).map encF := by
        rw [List.take_append_of_le_length (by simp; omega), List.take_of_length_le (by simp; omega)]
      have hsz : d.files.length ≤ (d.files.eraseIdx (lb d.files s)).length + 1 + 1 := by omega
      simp
      repeat (first
        | (refine AWP_seq (AWP_regS tOk rfl ?_); simp)
        | (refine AWP_regS tOk rfl ?_; simp)
        | (refine AWP_skip ?_; simp)
        | (refine AWP_exit ?_; simp)
        | (refine AWP_ret ?_; simp)
        | refine AWP_block ?_
        | refine AWP_seq ?_)
      simp only [htk, if_pos hsz]
      simp [removePR, h1, hp2]
  · refine AStep_FR rfl rfl (by simp) (fr55 d.files (by omega)) rfl ?_
    rintro _ rfl
    simp
    refine AStep_FC rfl rfl (fc59 _ 3 d.files (lb d.files s) rfl hi (by omega)) rfl ?_
    rintro _ _ ⟨rfl, z, rfl⟩
    have htk : List.take (d.files.length - 1) ((d.files.eraseIdx (lb d.files s)).map encF ++ [z]) = (d.files.eraseIdx (lb d.files s)).map encF := by
      rw [List.take_append_of_le_length (by simp; omega), List.take_of_length_le (by simp; omega)]
    have hsz : d.files.length ≤ (d.files.eraseIdx (lb d.files s)).length + 1 + 1 := by omega
    simp
    repeat (first
      | (refine AWP_seq (AWP_regS tOk rfl ?_); simp)
      | (refine AWP_regS tOk rfl ?_; simp)
      | (refine AWP_skip ?_; simp)
      | (refine AWP_exit ?_; simp)
      | (refine AWP_ret ?_; simp)
      | refine AWP_block ?_
      | refine AWP_seq ?_)
    simp only [htk, if_pos hsz]
    simp [removePR, h1, hp2]

set_option maxHeartbeats 2000000 in
theorem pc27 (d : Disk) : PC Tryd.prog 27 [encD d] (fun r => r = .bool (few d && (decide ((d.files.length : Int) ≤ 20) && checkR d == 0))) := by
  refine PC_body tOk Tryd.func27 rfl Tryd.results27 rfl (by simp [Tryd.ntmps27]) ?_
  rw [Tryd.ntmps27]
  simp only [argSlots]
  simp only [encD]
  repeat (first
    | (refine AWP_seq (AWP_regS tOk rfl ?_); simp)
    | (refine AWP_regS tOk rfl ?_; simp)
    | (refine AWP_skip ?_; simp)
    | (refine AWP_exit ?_; simp)
    | (refine AWP_ret ?_; simp)
    | refine AWP_block ?_
    | refine AWP_seq ?_)
  refine AStep_PC rfl rfl (by simp) (pc11 d) rfl ?_
  rintro _ rfl
  simp
  generalize hb : (few d && decide ((d.files.length : Int) ≤ 20)) = b1
  cases b1
  · refine AStep_skip (by simp) rfl ?_
    simp
    repeat (first
      | (refine AWP_seq (AWP_regS tOk rfl ?_); simp)
      | (refine AWP_regS tOk rfl ?_; simp)
      | (refine AWP_skip ?_; simp)
      | (refine AWP_exit ?_; simp)
      | (refine AWP_ret ?_; simp)
      | refine AWP_block ?_
      | refine AWP_seq ?_)
    intro h2 h3
    simp [h2, h3] at hb
  · refine AStep_PC (by simp) rfl (by simp) (pc25 d) rfl ?_
    rintro _ rfl
    simp
    repeat (first
      | (refine AWP_seq (AWP_regS tOk rfl ?_); simp)
      | (refine AWP_regS tOk rfl ?_; simp)
      | (refine AWP_skip ?_; simp)
      | (refine AWP_exit ?_; simp)
      | (refine AWP_ret ?_; simp)
      | refine AWP_block ?_
      | refine AWP_seq ?_)
    rw [← Bool.and_assoc, hb]; rfl
end Go.Abs
set_option maxRecDepth 100000
namespace Go.Abs
open Go Go.Proofs
set_option linter.unusedSimpArgs false

def not2 (s t : List UInt8) (f : File) : Bool := f.name != s && f.name != t
def renamePR (d : Disk) (s t : List UInt8) : Disk × Int := if checkedR d [s, t] = 0 then (match findR d.files s 0 with
  | none => (zeroD, 6)
  | some i => (⟨insAt (d.files.filter (not2 s t)) (lb (d.files.filter (not2 s t)) t) { d.files[i]! with name := t }, d.space⟩, 0)) else (zeroD, checkedR d [s, t])
theorem checkedR_check {d : Disk} {l : List (List UInt8)} (h : checkedR d l = 0) : checkR d = 0 := by
  unfold checkedR at h
  split at h
  · assumption
  · exact h
theorem Sorted.filter {fs : List File} (h : Sorted fs) (p : File → Bool) : Sorted (fs.filter p) := List.Pairwise.filter _ h
set_option maxHeartbeats 2000000 in
theorem pc29 (d : Disk) (s t : List UInt8) : PC Tryd.prog 29 [encD d, .str s, .str t] (fun r => r = .tup [encD (renamePR d s t).1, .i (renamePR d s t).2]) := by
  refine PC_body tOk Tryd.func29 rfl Tryd.results29 rfl (by simp [Tryd.ntmps29]) ?_
  rw [Tryd.ntmps29]
  simp only [argSlots]
  simp only [encD]
  repeat (first
    | (refine AWP_seq (AWP_regS tOk rfl ?_); simp)
    | (refine AWP_regS tOk rfl ?_; simp)
    | (refine AWP_skip ?_; simp)
    | (refine AWP_exit ?_; simp)
    | (refine AWP_ret ?_; simp)
    | refine AWP_block ?_
    | refine AWP_seq ?_)
  refine AStep_PCflat rfl rfl (by first | (simp; done) | (simp; rfl)) (pc49 d [s, t]) rfl ?_
  rintro _ rfl
  refine ⟨by simp, ?_⟩
  simp
  repeat (first
    | (refine AWP_seq (AWP_regS tOk rfl ?_); simp)
    | (refine AWP_regS tOk rfl ?_; simp)
    | (refine AWP_skip ?_; simp)
    | (refine AWP_exit ?_; simp)
    | (refine AWP_ret ?_; simp)
    | refine AWP_block ?_
    | refine AWP_seq ?_)
  refine AWP_cond2 rfl (fun h => ?_) (fun h1 => ?_)
  · repeat (first
      | (refine AWP_seq (AWP_regS tOk rfl ?_); simp)
      | (refine AWP_regS tOk rfl ?_; simp)
      | (refine AWP_skip ?_; simp)
      | (refine AWP_exit ?_; simp)
      | (refine AWP_ret ?_; simp)
      | refine AWP_block ?_
      | refine AWP_seq ?_)
    simp at h
    simp [renamePR, h, zeroD]
  simp at h1
  have hc := checkedR_check h1
  have hl := checkR_len hc
  have hso := checkR_sorted hc
  have hp := placeAV d s hso
  repeat (first
    | (refine AWP_seq (AWP_regS tOk rfl ?_); simp)
    | (refine AWP_regS tOk rfl ?_; simp)
    | (refine AWP_skip ?_; simp)
    | (refine AWP_exit ?_; simp)
    | (refine AWP_ret ?_; simp)
    | refine AWP_block ?_
    | refine AWP_seq ?_)
  refine AStep_PC rfl rfl (by simp) (pc50 d s (by omega) hso) rfl ?_
  rintro _ rfl
  simp
  repeat (first
    | (refine AWP_seq (AWP_regS tOk rfl ?_); simp)
    | (refine AWP_regS tOk rfl ?_; simp)
    | (refine AWP_skip ?_; simp)
    | (refine AWP_exit ?_; simp)
    | (refine AWP_ret ?_; simp)
    | refine AWP_block ?_
    | refine AWP_seq ?_)
  cases hf : foundAt d.files s (lb d.files s)
  · rw [hf] at hp
    simp at hp
    refine AWP_cond rfl ?_
    repeat (first
      | (refine AWP_seq (AWP_regS tOk rfl ?_); simp)
      | (refine AWP_regS tOk rfl ?_; simp)
      | (refine AWP_skip ?_; simp)
      | (refine AWP_exit ?_; simp)
      | (refine AWP_ret ?_; simp)
      | refine AWP_block ?_
      | refine AWP_seq ?_)
    simp [renamePR, h1, hp, zeroD]
  rw [hf] at hp
  have hp2 : findR d.files s 0 = some (lb d.files s) := by simpa using hp
  have hi := findR_lt hp2
  refine AWP_cond rfl ?_
  repeat (first
    | (refine AWP_seq (AWP_regS tOk rfl ?_); simp [hi])
    | (refine AWP_regS tOk rfl ?_; simp [hi])
    | (refine AWP_skip ?_; simp [hi])
    | (refine AWP_exit ?_; simp [hi])
    | (refine AWP_ret ?_; simp [hi])
    | refine AWP_block ?_
    | refine AWP_seq ?_)
  refine AWP_nilOwn 4 0 52 3 rfl rfl ?_
  simp
  refine AWP_count d.files.length (fun j => [(1, .str s), (2, .str t), (6, .vptr 1 0), (11, .vptr 3 0), (12, .vptr 4 0), (46, .list (d.files.map encF)), (47, .i d.files.length), (48, .i j)]) (fun j => [.vars [.list (d.files.map encF), .i d.space], .vars [.nils, .i 0], .arr 9 1 [.str s, .str t], .vars [.str t, .str d.files[lb d.files s].dur, .str d.files[lb d.files s].vol], .vars [.sl 5 3 0 ((d.files.take j).filter (not2 s t)).length, .i d.space], .arr 52 3 (((d.files.take j).filter (not2 s t)).map encF)]) rfl (by simp) (by simp) (by simp) (by simp) ?_
  intro j hj ih
  have hfl : ((d.files.take j).filter (not2 s t)).length ≤ j := by
    have := List.length_filter_le (not2 s t) (d.files.take j)
    rw [List.length_take] at this; omega
  repeat (first
    | (refine AWP_seq (AWP_regS tOk rfl ?_); simp)
    | (refine AWP_regS tOk rfl ?_; simp)
    | (refine AWP_skip ?_; simp)
    | (refine AWP_exit ?_; simp)
    | (refine AWP_ret ?_; simp)
    | refine AWP_block ?_
    | refine AWP_seq ?_)
  refine AWP_cond2 rfl (fun hlt => ?_) (fun hge => ?_)
  · have hlt' : j < d.files.length := by simpa using hlt
    have hfs := filter_take_succ d.files (not2 s t) j hlt'
    repeat (first
      | (refine AWP_seq (AWP_regS tOk rfl ?_); simp [hlt'])
      | (refine AWP_regS tOk rfl ?_; simp [hlt'])
      | (refine AWP_skip ?_; simp [hlt'])
      | (refine AWP_exit ?_; simp [hlt'])
      | (refine AWP_ret ?_; simp [hlt'])
      | refine AWP_block ?_
      | refine AWP_seq ?_)
    refine AWP_cond2 rfl (fun h => ?_) (fun h => ?_)
    · repeat (first
        | (refine AWP_seq (AWP_regS tOk rfl ?_); simp)
        | (refine AWP_regS tOk rfl ?_; simp)
        | (refine AWP_skip ?_; simp)
        | (refine AWP_exit ?_; simp)
        | (refine AWP_ret ?_; simp)
        | refine AWP_block ?_
        | refine AWP_seq ?_)
      refine AStep_appendS tOk rfl rfl T22 rfl T52 rfl (by decide) (by decide) rfl rfl rfl ?_
      simp
      refine ⟨by simp [appOk]; omega, ?_⟩
      repeat (first
        | (refine AWP_seq (AWP_regS tOk rfl ?_); simp)
        | (refine AWP_regS tOk rfl ?_; simp)
        | (refine AWP_skip ?_; simp)
        | (refine AWP_exit ?_; simp)
        | (refine AWP_ret ?_; simp)
        | refine AWP_block ?_
        | refine AWP_seq ?_)
      have h' : not2 s t d.files[j] = true := h
      rw [if_pos h'] at hfs
      refine ALoop_ren [0, 1, 2, 3, 4, 8] (ih hlt') (by rw [hfs]; simp) (by decide) (by simp) (by simp) (by simp) (by simp) ?_
      simp
      exact wrap_i64 _ (by omega) (by omega)
    · repeat (first
        | (refine AWP_seq (AWP_regS tOk rfl ?_); simp)
        | (refine AWP_regS tOk rfl ?_; simp)
        | (refine AWP_skip ?_; simp)
        | (refine AWP_exit ?_; simp)
        | (refine AWP_ret ?_; simp)
        | refine AWP_block ?_
        | refine AWP_seq ?_)
      have h' : not2 s t d.files[j] = false := h
      rw [if_neg (by rw [h']; simp), List.append_nil] at hfs
      refine ALoop_end _ (ih hlt') (by rw [hfs]; simp; rfl) (by simp) ?_ (by simp) (by simp)
      simp
      exact wrap_i64 _ (by omega) (by omega)
  · have hge' : j = d.files.length := by simp at hge; omega
    subst hge'
    rw [List.take_length] at hfl ⊢
    repeat (first
      | (refine AWP_seq (AWP_regS tOk rfl ?_); simp)
      | (refine AWP_regS tOk rfl ?_; simp)
      | (refine AWP_skip ?_; simp)
      | (refine AWP_exit ?_; simp)
      | (refine AWP_ret ?_; simp)
      | refine AWP_block ?_
      | refine AWP_seq ?_)
    refine AStep_PCflat rfl rfl (by first | (simp [take_map_len]; done) | (simp [take_map_len]; rfl)) (pc50 ⟨d.files.filter (not2 s t), d.space⟩ t (by simp only; omega) (hso.filter _)) rfl ?_
    rintro _ rfl
    refine ⟨by simp, ?_⟩
    simp [take_map_len]
    repeat (first
      | (refine AWP_seq (AWP_regS tOk rfl ?_); simp)
      | (refine AWP_regS tOk rfl ?_; simp)
      | (refine AWP_skip ?_; simp)
      | (refine AWP_exit ?_; simp)
      | (refine AWP_ret ?_; simp)
      | refine AWP_block ?_
      | refine AWP_seq ?_)
    refine AStep_FC rfl rfl (fc56 _ 5 6 (d.files.filter (not2 s t)) (lb (d.files.filter (not2 s t)) t) ⟨t, d.files[lb d.files s].dur, d.files[lb d.files s].vol⟩ rfl rfl (by decide) (lb_le _ _) (by omega)) rfl ?_
    rintro _ _ ⟨rfl, G, rfl⟩
    rw [← insAt_len (d.files.filter (not2 s t)) (lb (d.files.filter (not2 s t)) t) ⟨t, d.files[lb d.files s].dur, d.files[lb d.files s].vol⟩ (lb_le _ _)]
    simp
    repeat (first
      | (refine AWP_seq (AWP_regS tOk rfl ?_); simp)
      | (refine AWP_regS tOk rfl ?_; simp)
      | (refine AWP_skip ?_; simp)
      | (refine AWP_exit ?_; simp)
      | (refine AWP_ret ?_; simp)
      | refine AWP_block ?_
      | refine AWP_seq ?_)
    simp [renamePR, h1, hp2, hi, take_map_len]

set_option maxHeartbeats 400000 in
theorem pc57 (s t : List UInt8) (hs : s.length ≤ 9223372036854775807) (ht : t.length ≤ 9223372036854775807) : PC Tryd.prog 57 [.str s, .str t] (fun r => r = .bool (t.isPrefixOf s)) := by
  refine PC_body tOk Tryd.func57 rfl Tryd.results57 rfl (by simp [Tryd.ntmps57]) ?_
  rw [Tryd.ntmps57]
  simp only [argSlots]
  by_cases h : t.length ≤ s.length
  · have h2 : ¬ s.length < t.length := by omega
    repeat (first
      | (refine AWP_seq (AWP_regS tOk rfl ?_); simp [h, h2])
      | (refine AWP_regS tOk rfl ?_; simp [h, h2])
      | (refine AWP_skip ?_; simp [h, h2])
      | (refine AWP_exit ?_; simp [h, h2])
      | (refine AWP_ret ?_; simp [h, h2])
      | refine AWP_block ?_
      | refine AWP_seq ?_)
    rw [Bool.eq_iff_iff]
    simp [List.prefix_iff_eq_take]
    exact eq_comm
  · have h2 : s.length < t.length := by omega
    repeat (first
      | (refine AWP_seq (AWP_regS tOk rfl ?_); simp [h, h2])
      | (refine AWP_regS tOk rfl ?_; simp [h, h2])
      | (refine AWP_skip ?_; simp [h, h2])
      | (refine AWP_exit ?_; simp [h, h2])
      | (refine AWP_ret ?_; simp [h, h2])
      | refine AWP_block ?_
      | refine AWP_seq ?_)
    rw [← Bool.not_eq_true, List.isPrefixOf_iff_prefix]
    intro hp
    have := hp.length_le
    omega
theorem pc30 (s t : List UInt8) (hs : s.length ≤ 9223372036854775807) (ht : t.length ≤ 9223372036854775807) : PC Tryd.prog 30 [.str s, .str t] (fun r => r = .bool (t.isPrefixOf s)) := by
  refine PC_body tOk Tryd.func30 rfl Tryd.results30 rfl (by simp [Tryd.ntmps30]) ?_
  rw [Tryd.ntmps30]
  simp only [argSlots]
  repeat (first
    | (refine AWP_seq (AWP_regS tOk rfl ?_); simp)
    | (refine AWP_regS tOk rfl ?_; simp)
    | (refine AWP_skip ?_; simp)
    | (refine AWP_exit ?_; simp)
    | (refine AWP_ret ?_; simp)
    | refine AWP_block ?_
    | refine AWP_seq ?_)
  refine AStep_PC rfl rfl (by simp) (pc57 s t hs ht) rfl ?_
  rintro _ rfl
  simp
  repeat (first
    | (refine AWP_seq (AWP_regS tOk rfl ?_); simp)
    | (refine AWP_regS tOk rfl ?_; simp)
    | (refine AWP_skip ?_; simp)
    | (refine AWP_exit ?_; simp)
    | (refine AWP_ret ?_; simp)
    | refine AWP_block ?_
    | refine AWP_seq ?_)
end Go.Abs
set_option maxRecDepth 100000
namespace Go.Abs
open Go Go.Proofs
set_option linter.unusedSimpArgs false
attribute [simp] T65 T66

def exF : List UInt8 := [102]
def exG : List UInt8 := [103]
def exA : Disk := ⟨[⟨[102], [], [97, 98, 99]⟩], 10⟩
def exB : Disk := ⟨[⟨[102], [97, 98, 99], [97, 98, 99]⟩], 10⟩
def exC : Disk := ⟨[⟨[102], [97, 98, 99], [97, 98, 99, 100, 101]⟩], 10⟩
attribute [simp] exA exB exC
@[simp] theorem range2 : ([0, 1] = List.range 2) = True := by decide
@[simp] theorem range3 : ([0, 1, 2] = List.range 3) = True := by decide
theorem ex_a : changedR ⟨[], 10⟩ [102] (wrG [97, 98, 99]) = (exA, 0) := by decide +kernel
theorem ex_b : syncPR exA [102] = (exB, 0) := by decide +kernel
theorem ex_c : changedR exB [102] (apG [100, 101]) = (exC, 0) := by decide +kernel

theorem pcxa : PC Tryd.prog 13 [encD ⟨[], 10⟩, .str [102], .str [97, 98, 99]] (fun r => r = .tup [encD exA, .i 0]) := by
  have := pc13 ⟨[], 10⟩ [102] [97, 98, 99]
  rw [ex_a] at this; exact this
theorem pcxb : PC Tryd.prog 28 [encD exA, .str [102]] (fun r => r = .tup [encD exB, .i 0]) := by
  have := pc28 exA [102]
  rw [ex_b] at this; exact this
theorem pcxc : PC Tryd.prog 15 [encD exB, .str [102], .str [100, 101]] (fun r => r = .tup [encD exC, .i 0]) := by
  have := pc15 exB [102] [100, 101] (by decide) (by decide)
  rw [ex_c] at this; exact this
theorem pcxd : PC Tryd.prog 21 [encD exC, .str [102]] (fun r => r = .tup [.str [97, 98, 99, 100, 101], .i 0]) := by
  have := pc21 exC [102]
  rw [show readR exC [102] = ([97, 98, 99, 100, 101], 0) by decide +kernel] at this; exact this
def exD (v : List UInt8) : Disk := ⟨[⟨[102], v, v⟩], 10⟩
attribute [simp] exD
theorem pcxe (cs : List Int) (v : List UInt8) (hl : cs.length ≤ 100) (h : crashR exC cs = (exD v, [], 0)) : PC Tryd.prog 18 [encD exC, .list (cs.map encI)] (fun r => r = .tup [encD (exD v), .list [], .i 0]) := by
  have := pc18 exC (by intro f hf; simp at hf; subst hf; simp) cs (by omega)
  rw [h] at this; exact this
theorem pcxf : PC Tryd.prog 15 [encD exC, .str [102], .str [49, 50, 51, 52, 53, 54]] (fun r => r = .tup [encD zeroD, .i 27]) := by
  have := pc15 exC [102] [49, 50, 51, 52, 53, 54] (by decide) (by decide)
  rw [show changedR exC [102] (apG [49, 50, 51, 52, 53, 54]) = (zeroD, 27) by decide +kernel] at this; exact this
theorem pcxg : PC Tryd.prog 29 [encD exC, .str [102], .str [103]] (fun r => r = .tup [encD ⟨[⟨[103], [97, 98, 99], [97, 98, 99, 100, 101]⟩], 10⟩, .i 0]) := by
  have := pc29 exC [102] [103]
  rw [show renamePR exC [102] [103] = (⟨[⟨[103], [97, 98, 99], [97, 98, 99, 100, 101]⟩], 10⟩, 0) by decide +kernel] at this; exact this

set_option maxHeartbeats 1000000 in
theorem pc36 : PC Tryd.prog 36 [] (fun r => r = .tup [encD exC, .bool true]) := by
  refine PC_body tOk Tryd.func36 rfl Tryd.results36 rfl (by simp [Tryd.ntmps36]) ?_
  rw [Tryd.ntmps36]
  simp only [argSlots]
  repeat (first
    | (refine AWP_seq (AWP_regS tOk rfl ?_); simp)
    | (refine AWP_regS tOk rfl ?_; simp)
    | (refine AWP_skip ?_; simp)
    | (refine AWP_exit ?_; simp)
    | (refine AWP_ret ?_; simp)
    | refine AWP_block ?_
    | refine AWP_seq ?_)
  refine AStep_PC rfl rfl (by simp) (pcxa) rfl ?_
  rintro _ rfl
  simp
  repeat (first
    | (refine AWP_seq (AWP_regS tOk rfl ?_); simp)
    | (refine AWP_regS tOk rfl ?_; simp)
    | (refine AWP_skip ?_; simp)
    | (refine AWP_exit ?_; simp)
    | (refine AWP_ret ?_; simp)
    | refine AWP_block ?_
    | refine AWP_seq ?_)
  refine AStep_PC rfl rfl (by simp) (pcxb) rfl ?_
  rintro _ rfl
  simp
  repeat (first
    | (refine AWP_seq (AWP_regS tOk rfl ?_); simp)
    | (refine AWP_regS tOk rfl ?_; simp)
    | (refine AWP_skip ?_; simp)
    | (refine AWP_exit ?_; simp)
    | (refine AWP_ret ?_; simp)
    | refine AWP_block ?_
    | refine AWP_seq ?_)
  refine AStep_PC rfl rfl (by simp) (pcxc) rfl ?_
  rintro _ rfl
  simp
  repeat (first
    | (refine AWP_seq (AWP_regS tOk rfl ?_); simp)
    | (refine AWP_regS tOk rfl ?_; simp)
    | (refine AWP_skip ?_; simp)
    | (refine AWP_exit ?_; simp)
    | (refine AWP_ret ?_; simp)
    | refine AWP_block ?_
    | refine AWP_seq ?_)
  rfl
def tab3 : List AV := [.agg [.list [.i 0], .str [97, 98, 99]], .agg [.list [.i 1], .str [97, 98, 99, 100, 101]], .agg [.list [.i 2, .i 4], .str [97, 98, 99, 100]]]
set_option maxHeartbeats 1000000 in
theorem pc12 : PC Tryd.prog 12 [] (fun r => r = .bool true) := by
  refine PC_body tOk Tryd.func12 rfl Tryd.results12 rfl (by simp [Tryd.ntmps12]) ?_
  rw [Tryd.ntmps12]
  simp only [argSlots]
  repeat (first
    | (refine AWP_seq (AWP_regS tOk rfl ?_); simp)
    | (refine AWP_regS tOk rfl ?_; simp)
    | (refine AWP_skip ?_; simp)
    | (refine AWP_exit ?_; simp)
    | (refine AWP_ret ?_; simp)
    | refine AWP_block ?_
    | refine AWP_seq ?_)
  refine AStep_PC rfl rfl (by simp) (pc36) rfl ?_
  rintro _ rfl
  simp
  repeat (first
    | (refine AWP_seq (AWP_regS tOk rfl ?_); simp)
    | (refine AWP_regS tOk rfl ?_; simp)
    | (refine AWP_skip ?_; simp)
    | (refine AWP_exit ?_; simp)
    | (refine AWP_ret ?_; simp)
    | refine AWP_block ?_
    | refine AWP_seq ?_)
  refine AStep_PC rfl rfl (by simp) (pcxd) rfl ?_
  rintro _ rfl
  simp
  repeat (first
    | (refine AWP_seq (AWP_regS tOk rfl ?_); simp)
    | (refine AWP_regS tOk rfl ?_; simp)
    | (refine AWP_skip ?_; simp)
    | (refine AWP_exit ?_; simp)
    | (refine AWP_ret ?_; simp)
    | refine AWP_block ?_
    | refine AWP_seq ?_)
  refine AWP_cond rfl ?_
  repeat (first
    | (refine AWP_seq (AWP_regS tOk rfl ?_); simp)
    | (refine AWP_regS tOk rfl ?_; simp)
    | (refine AWP_skip ?_; simp)
    | (refine AWP_exit ?_; simp)
    | (refine AWP_ret ?_; simp)
    | refine AWP_block ?_
    | refine AWP_seq ?_)
  refine AStep_freeze 1 rfl ?_
  refine AStep_freeze 2 rfl ?_
  refine AStep_freeze 3 rfl ?_
  simp
  refine AStep_auto tOk (by simp; rfl) rfl (by simp) rfl ?_
  simp
  refine AWP_freeze 4 rfl ?_
  simp
  refine AWP_block ?_
  refine AWP_countI 3 (fun _ => True) (fun j => [(0, .bool false), (1, .vptr 0 0), (37, .list tab3), (38, .i 3), (39, .i j)]) (fun _ => [.vars [.list [encF ⟨[102], [97, 98, 99], [97, 98, 99, 100, 101]⟩], .i 10]]) rfl (by simp) (by simp [tab3]) (by simp) (by simp) trivial ?_
  intro j hj _ ih
  repeat (first
    | (refine AWP_seq (AWP_regS tOk rfl ?_); simp)
    | (refine AWP_regS tOk rfl ?_; simp)
    | (refine AWP_skip ?_; simp)
    | (refine AWP_exit ?_; simp)
    | (refine AWP_ret ?_; simp)
    | refine AWP_block ?_
    | refine AWP_seq ?_)
  refine AWP_cond2 rfl (fun hlt => ?_) (fun hge => ?_)
  · have hlt' : j < 3 := by simp at hlt; omega
    have hih := ih hlt' trivial
    obtain rfl | rfl | rfl : j = 0 ∨ j = 1 ∨ j = 2 := by omega
    · repeat (first
        | (refine AWP_seq (AWP_regS tOk rfl ?_); simp [tab3])
        | (refine AWP_regS tOk rfl ?_; simp [tab3])
        | (refine AWP_skip ?_; simp [tab3])
        | (refine AWP_exit ?_; simp [tab3])
        | (refine AWP_ret ?_; simp [tab3])
        | refine AWP_block ?_
        | refine AWP_seq ?_)
      refine AStep_PC rfl rfl (by simp) (pcxe [0] [97, 98, 99] (by decide) (by decide +kernel)) rfl ?_
      rintro _ rfl
      simp
      repeat (first
        | (refine AWP_seq (AWP_regS tOk rfl ?_); simp)
        | (refine AWP_regS tOk rfl ?_; simp)
        | (refine AWP_skip ?_; simp)
        | (refine AWP_exit ?_; simp)
        | (refine AWP_ret ?_; simp)
        | refine AWP_block ?_
        | refine AWP_seq ?_)
      refine AWP_draw tOk mixed [] [0, 1, 2, 3, 4, 5, 6, 7, 8, 9, 10, 11, 12, 13, 14, 15, 16, 17, 18, 19, 20, 21, 22, 23, 24] rfl (by kernel_rfl) ?_
      simp
      refine AWP_cond rfl ?_
      repeat (first
        | (refine AWP_seq (AWP_regS tOk rfl ?_); simp)
        | (refine AWP_regS tOk rfl ?_; simp)
        | (refine AWP_skip ?_; simp)
        | (refine AWP_exit ?_; simp)
        | (refine AWP_ret ?_; simp)
        | refine AWP_block ?_
        | refine AWP_seq ?_)
      refine ALoop_end _ hih rfl (by simp) ?_ (by simp) (by simp)
      simp
      exact ⟨rfl, by decide +kernel⟩
    · repeat (first
        | (refine AWP_seq (AWP_regS tOk rfl ?_); simp [tab3])
        | (refine AWP_regS tOk rfl ?_; simp [tab3])
        | (refine AWP_skip ?_; simp [tab3])
        | (refine AWP_exit ?_; simp [tab3])
        | (refine AWP_ret ?_; simp [tab3])
        | refine AWP_block ?_
        | refine AWP_seq ?_)
      refine AStep_PC rfl rfl (by simp) (pcxe [1] [97, 98, 99, 100, 101] (by decide) (by decide +kernel)) rfl ?_
      rintro _ rfl
      simp
      repeat (first
        | (refine AWP_seq (AWP_regS tOk rfl ?_); simp)
        | (refine AWP_regS tOk rfl ?_; simp)
        | (refine AWP_skip ?_; simp)
        | (refine AWP_exit ?_; simp)
        | (refine AWP_ret ?_; simp)
        | refine AWP_block ?_
        | refine AWP_seq ?_)
      refine AWP_draw tOk mixed [] [0, 1, 2, 3, 4, 5, 6, 7, 8, 9, 10, 11, 12, 13, 14, 15, 16, 17, 18, 19, 20, 21, 22, 23, 24] rfl (by kernel_rfl) ?_
      simp
      refine AWP_cond rfl ?_
      repeat (first
        | (refine AWP_seq (AWP_regS tOk rfl ?_); simp)
        | (refine AWP_regS tOk rfl ?_; simp)
        | (refine AWP_skip ?_; simp)
        | (refine AWP_exit ?_; simp)
        | (refine AWP_ret ?_; simp)
        | refine AWP_block ?_
        | refine AWP_seq ?_)
      refine ALoop_end _ hih rfl (by simp) ?_ (by simp) (by simp)
      simp
      exact ⟨rfl, by decide +kernel⟩
    · repeat (first
        | (refine AWP_seq (AWP_regS tOk rfl ?_); simp [tab3])
        | (refine AWP_regS tOk rfl ?_; simp [tab3])
        | (refine AWP_skip ?_; simp [tab3])
        | (refine AWP_exit ?_; simp [tab3])
        | (refine AWP_ret ?_; simp [tab3])
        | refine AWP_block ?_
        | refine AWP_seq ?_)
      refine AStep_PC rfl rfl (by simp) (pcxe [2, 4] [97, 98, 99, 100] (by decide) (by decide +kernel)) rfl ?_
      rintro _ rfl
      simp
      repeat (first
        | (refine AWP_seq (AWP_regS tOk rfl ?_); simp)
        | (refine AWP_regS tOk rfl ?_; simp)
        | (refine AWP_skip ?_; simp)
        | (refine AWP_exit ?_; simp)
        | (refine AWP_ret ?_; simp)
        | refine AWP_block ?_
        | refine AWP_seq ?_)
      refine AWP_draw tOk mixed [] [0, 1, 2, 3, 4, 5, 6, 7, 8, 9, 10, 11, 12, 13, 14, 15, 16, 17, 18, 19, 20, 21, 22, 23, 24] rfl (by kernel_rfl) ?_
      simp
      refine AWP_cond rfl ?_
      repeat (first
        | (refine AWP_seq (AWP_regS tOk rfl ?_); simp)
        | (refine AWP_regS tOk rfl ?_; simp)
        | (refine AWP_skip ?_; simp)
        | (refine AWP_exit ?_; simp)
        | (refine AWP_ret ?_; simp)
        | refine AWP_block ?_
        | refine AWP_seq ?_)
      refine ALoop_end _ hih rfl (by simp) ?_ (by simp) (by simp)
      simp
      exact ⟨rfl, by decide +kernel⟩
  · have hge' : j = 3 := by simp at hge; omega
    subst hge'
    repeat (first
      | (refine AWP_seq (AWP_regS tOk rfl ?_); simp)
      | (refine AWP_regS tOk rfl ?_; simp)
      | (refine AWP_skip ?_; simp)
      | (refine AWP_exit ?_; simp)
      | (refine AWP_ret ?_; simp)
      | refine AWP_block ?_
      | refine AWP_seq ?_)
    refine AStep_PC rfl rfl (by simp) (pcxf) rfl ?_
    rintro _ rfl
    simp
    repeat (first
      | (refine AWP_seq (AWP_regS tOk rfl ?_); simp)
      | (refine AWP_regS tOk rfl ?_; simp)
      | (refine AWP_skip ?_; simp)
      | (refine AWP_exit ?_; simp)
      | (refine AWP_ret ?_; simp)
      | refine AWP_block ?_
      | refine AWP_seq ?_)
    refine AStep_PC rfl rfl (by simp) (pcxg) rfl ?_
    rintro _ rfl
    simp
    repeat (first
      | (refine AWP_seq (AWP_regS tOk rfl ?_); simp)
      | (refine AWP_regS tOk rfl ?_; simp)
      | (refine AWP_skip ?_; simp)
      | (refine AWP_exit ?_; simp)
      | (refine AWP_ret ?_; simp)
      | refine AWP_block ?_
      | refine AWP_seq ?_)
end Go.Abs
set_option maxRecDepth 100000
namespace Go.Abs
open Go Go.Proofs
set_option linter.unusedSimpArgs false

/-- What every string and list that is read obeys. -/
structure DB (d : Disk) : Prop where
  files : d.files.length ≤ 140737488355328
  name : ∀ f ∈ d.files, f.name.length ≤ 140737488355328
  dur : ∀ f ∈ d.files, f.dur.length ≤ 140737488355328
  vol : ∀ f ∈ d.files, f.vol.length ≤ 140737488355328

theorem oldR_vol {d : Disk} {n : Nat} (h : ∀ f ∈ d.files, f.vol.length ≤ n) (s : List UInt8) : (oldR d s).vol.length ≤ n := by
  unfold oldR
  split
  · simp
  · rename_i i _
    cases hi : d.files[i]? with
    | none => simp
    | some f => simpa using h f (List.mem_of_getElem? hi)
def WritesP (d : Disk) (s b : List UInt8) : Prop := few d = true → s.length ≤ 200 → changedR d s (wrG b) = writeR d s b ∧ changedR d s (apG b) = appendR d s b
set_option maxHeartbeats 4000000 in
theorem pc3 (d : Disk) (s b : List UInt8) (hd : DB d) (hs : s.length ≤ 140737488355328) (hb : b.length ≤ 140737488355328) (hp : WritesP d s b) : PC Tryd.prog 3 [encD d, .str s, .str b] (fun r => r = .bool true) := by
  refine PC_body tOk Tryd.func3 rfl Tryd.results3 rfl (by simp [Tryd.ntmps3]) ?_
  rw [Tryd.ntmps3]
  simp only [argSlots]
  simp only [encD]
  repeat (first
    | (refine AWP_seq (AWP_regS tOk rfl ?_); simp)
    | (refine AWP_regS tOk rfl ?_; simp)
    | (refine AWP_skip ?_; simp)
    | (refine AWP_exit ?_; simp)
    | (refine AWP_ret ?_; simp)
    | refine AWP_block ?_
    | refine AWP_seq ?_)
  refine AStep_PC rfl rfl (by simp) (pc11 d) rfl ?_
  rintro _ rfl
  simp
  repeat (first
    | (refine AWP_seq (AWP_regS tOk rfl ?_); simp)
    | (refine AWP_regS tOk rfl ?_; simp)
    | (refine AWP_skip ?_; simp)
    | (refine AWP_exit ?_; simp)
    | (refine AWP_ret ?_; simp)
    | refine AWP_block ?_
    | refine AWP_seq ?_)
  refine AWP_cond2 rfl (fun h => ?_) (fun h => ?_)
  · repeat (first
      | (refine AWP_seq (AWP_regS tOk rfl ?_); simp)
      | (refine AWP_regS tOk rfl ?_; simp)
      | (refine AWP_skip ?_; simp)
      | (refine AWP_exit ?_; simp)
      | (refine AWP_ret ?_; simp)
      | refine AWP_block ?_
      | refine AWP_seq ?_)
    refine AStep_PC rfl rfl (by simp) (pc12) rfl ?_
    rintro _ rfl
    simp
    repeat (first
      | (refine AWP_seq (AWP_regS tOk rfl ?_); simp)
      | (refine AWP_regS tOk rfl ?_; simp)
      | (refine AWP_skip ?_; simp)
      | (refine AWP_exit ?_; simp)
      | (refine AWP_ret ?_; simp)
      | refine AWP_block ?_
      | refine AWP_seq ?_)
  simp only [Bool.or_eq_false_iff, Bool.not_eq_false', decide_eq_false_iff_not] at h
  obtain ⟨⟨hf, hs2⟩, _⟩ := h
  obtain ⟨e1, e2⟩ := hp hf (by omega)
  have hov : (oldR d s).vol.length ≤ 140737488355328 := oldR_vol hd.vol s
  repeat (first
    | (refine AWP_seq (AWP_regS tOk rfl ?_); simp)
    | (refine AWP_regS tOk rfl ?_; simp)
    | (refine AWP_skip ?_; simp)
    | (refine AWP_exit ?_; simp)
    | (refine AWP_ret ?_; simp)
    | refine AWP_block ?_
    | refine AWP_seq ?_)
  refine AStep_PC rfl rfl (by simp) (pc13 d s b) rfl ?_
  rintro _ rfl
  simp
  repeat (first
    | (refine AWP_seq (AWP_regS tOk rfl ?_); simp)
    | (refine AWP_regS tOk rfl ?_; simp)
    | (refine AWP_skip ?_; simp)
    | (refine AWP_exit ?_; simp)
    | (refine AWP_ret ?_; simp)
    | refine AWP_block ?_
    | refine AWP_seq ?_)
  refine AStep_PC rfl rfl (by simp) (pc14 d (fun f hf => by have := hd.name f hf; omega) s b (by omega)) rfl ?_
  rintro _ rfl
  simp
  repeat (first
    | (refine AWP_seq (AWP_regS tOk rfl ?_); simp)
    | (refine AWP_regS tOk rfl ?_; simp)
    | (refine AWP_skip ?_; simp)
    | (refine AWP_exit ?_; simp)
    | (refine AWP_ret ?_; simp)
    | refine AWP_block ?_
    | refine AWP_seq ?_)
  refine AStep_PC rfl rfl (by simp) (pc15 d s b (fun f hf => by have := hd.vol f hf; omega) (by omega)) rfl ?_
  rintro _ rfl
  simp
  repeat (first
    | (refine AWP_seq (AWP_regS tOk rfl ?_); simp)
    | (refine AWP_regS tOk rfl ?_; simp)
    | (refine AWP_skip ?_; simp)
    | (refine AWP_exit ?_; simp)
    | (refine AWP_ret ?_; simp)
    | refine AWP_block ?_
    | refine AWP_seq ?_)
  refine AStep_PC rfl rfl (by simp) (pc16 d (fun f hf => by have := hd.name f hf; omega) s b (by omega) (by omega)) rfl ?_
  rintro _ rfl
  simp
  repeat (first
    | (refine AWP_seq (AWP_regS tOk rfl ?_); simp)
    | (refine AWP_regS tOk rfl ?_; simp)
    | (refine AWP_skip ?_; simp)
    | (refine AWP_exit ?_; simp)
    | (refine AWP_ret ?_; simp)
    | refine AWP_block ?_
    | refine AWP_seq ?_)
  refine AStep_PC rfl rfl (by simp) (pc12) rfl ?_
  rintro _ rfl
  simp
  repeat (first
    | (refine AWP_seq (AWP_regS tOk rfl ?_); simp)
    | (refine AWP_regS tOk rfl ?_; simp)
    | (refine AWP_skip ?_; simp)
    | (refine AWP_exit ?_; simp)
    | (refine AWP_ret ?_; simp)
    | refine AWP_block ?_
    | refine AWP_seq ?_)
  rw [e1, e2]
  refine AStep_PCflat rfl rfl (by first | (simp; done) | (simp; rfl)) (pc17 (writeR d s b).1 (writeR d s b).1) rfl ?_
  rintro _ rfl
  refine ⟨by simp, ?_⟩
  simp
  repeat (first
    | (refine AWP_seq (AWP_regS tOk rfl ?_); simp)
    | (refine AWP_regS tOk rfl ?_; simp)
    | (refine AWP_skip ?_; simp)
    | (refine AWP_exit ?_; simp)
    | (refine AWP_ret ?_; simp)
    | refine AWP_block ?_
    | refine AWP_seq ?_)
  refine AStep_PCflat rfl rfl (by first | (simp; done) | (simp; rfl)) (pc17 (appendR d s b).1 (appendR d s b).1) rfl ?_
  rintro _ rfl
  refine ⟨by simp, ?_⟩
  simp
  repeat (first
    | (refine AWP_seq (AWP_regS tOk rfl ?_); simp)
    | (refine AWP_regS tOk rfl ?_; simp)
    | (refine AWP_skip ?_; simp)
    | (refine AWP_exit ?_; simp)
    | (refine AWP_ret ?_; simp)
    | refine AWP_block ?_
    | refine AWP_seq ?_)

def CrashesP (d : Disk) (cs : List Int) : Prop := True
set_option maxHeartbeats 4000000 in
theorem pc4 (d : Disk) (cs : List Int) (hd : DB d) : PC Tryd.prog 4 [encD d, .list (cs.map encI)] (fun r => r = .bool true) := by
  refine PC_body tOk Tryd.func4 rfl Tryd.results4 rfl (by simp [Tryd.ntmps4]) ?_
  rw [Tryd.ntmps4]
  simp only [argSlots]
  simp only [encD]
  repeat (first
    | (refine AWP_seq (AWP_regS tOk rfl ?_); simp)
    | (refine AWP_regS tOk rfl ?_; simp)
    | (refine AWP_skip ?_; simp)
    | (refine AWP_exit ?_; simp)
    | (refine AWP_ret ?_; simp)
    | refine AWP_block ?_
    | refine AWP_seq ?_)
  refine AStep_PC rfl rfl (by simp) (pc11 d) rfl ?_
  rintro _ rfl
  simp
  repeat (first
    | (refine AWP_seq (AWP_regS tOk rfl ?_); simp)
    | (refine AWP_regS tOk rfl ?_; simp)
    | (refine AWP_skip ?_; simp)
    | (refine AWP_exit ?_; simp)
    | (refine AWP_ret ?_; simp)
    | refine AWP_block ?_
    | refine AWP_seq ?_)
  refine AWP_cond2 rfl (fun h => ?_) (fun h => ?_)
  · repeat (first
      | (refine AWP_seq (AWP_regS tOk rfl ?_); simp)
      | (refine AWP_regS tOk rfl ?_; simp)
      | (refine AWP_skip ?_; simp)
      | (refine AWP_exit ?_; simp)
      | (refine AWP_ret ?_; simp)
      | refine AWP_block ?_
      | refine AWP_seq ?_)
    refine AStep_PC rfl rfl (by simp) (pc12) rfl ?_
    rintro _ rfl
    simp
    repeat (first
      | (refine AWP_seq (AWP_regS tOk rfl ?_); simp)
      | (refine AWP_regS tOk rfl ?_; simp)
      | (refine AWP_skip ?_; simp)
      | (refine AWP_exit ?_; simp)
      | (refine AWP_ret ?_; simp)
      | refine AWP_block ?_
      | refine AWP_seq ?_)
  simp only [Bool.or_eq_false_iff, Bool.not_eq_false', decide_eq_false_iff_not] at h
  obtain ⟨hf, hs2⟩ := h
  have hvb : VB d.files := fun f hf => by have := hd.vol f hf; omega
  repeat (first
    | (refine AWP_seq (AWP_regS tOk rfl ?_); simp)
    | (refine AWP_regS tOk rfl ?_; simp)
    | (refine AWP_skip ?_; simp)
    | (refine AWP_exit ?_; simp)
    | (refine AWP_ret ?_; simp)
    | refine AWP_block ?_
    | refine AWP_seq ?_)
  refine AStep_PC rfl rfl (by simp) (pc18 d hvb cs (by omega)) rfl ?_
  rintro _ rfl
  simp
  repeat (first
    | (refine AWP_seq (AWP_regS tOk rfl ?_); simp)
    | (refine AWP_regS tOk rfl ?_; simp)
    | (refine AWP_skip ?_; simp)
    | (refine AWP_exit ?_; simp)
    | (refine AWP_ret ?_; simp)
    | refine AWP_block ?_
    | refine AWP_seq ?_)
  refine AStep_PC rfl rfl (by simp) (pc19 d (fun f hf => by have := hd.name f hf; omega) hvb cs) rfl ?_
  rintro _ rfl
  simp
  repeat (first
    | (refine AWP_seq (AWP_regS tOk rfl ?_); simp)
    | (refine AWP_regS tOk rfl ?_; simp)
    | (refine AWP_skip ?_; simp)
    | (refine AWP_exit ?_; simp)
    | (refine AWP_ret ?_; simp)
    | refine AWP_block ?_
    | refine AWP_seq ?_)
  refine AStep_PC rfl rfl (by simp) (pc12) rfl ?_
  rintro _ rfl
  simp
  repeat (first
    | (refine AWP_seq (AWP_regS tOk rfl ?_); simp)
    | (refine AWP_regS tOk rfl ?_; simp)
    | (refine AWP_skip ?_; simp)
    | (refine AWP_exit ?_; simp)
    | (refine AWP_ret ?_; simp)
    | refine AWP_block ?_
    | refine AWP_seq ?_)
  refine AStep_PCflat rfl rfl (by first | (simp; done) | (simp; rfl)) (pc17 (crashR d cs).1 (crashR d cs).1) rfl ?_
  rintro _ rfl
  refine ⟨by simp, ?_⟩
  simp
  repeat (first
    | (refine AWP_seq (AWP_regS tOk rfl ?_); simp)
    | (refine AWP_regS tOk rfl ?_; simp)
    | (refine AWP_skip ?_; simp)
    | (refine AWP_exit ?_; simp)
    | (refine AWP_ret ?_; simp)
    | refine AWP_block ?_
    | refine AWP_seq ?_)
  refine AStep_PC rfl rfl (by simp) (pc20 (crashR d cs).2.1 (crashR d cs).2.1) rfl ?_
  rintro _ rfl
  simp
  repeat (first
    | (refine AWP_seq (AWP_regS tOk rfl ?_); simp)
    | (refine AWP_regS tOk rfl ?_; simp)
    | (refine AWP_skip ?_; simp)
    | (refine AWP_exit ?_; simp)
    | (refine AWP_ret ?_; simp)
    | refine AWP_block ?_
    | refine AWP_seq ?_)
end Go.Abs
set_option maxRecDepth 100000
namespace Go.Abs
open Go Go.Proofs

/-! The plain laws of the disk: what the program computes is what the reference computes. -/
theorem lessF_iff (f : File) (s : List UInt8) : lessF f s = !strLe s f.name := by
  unfold lessF
  cases h : Op.bytesLess f.name s
  · cases h2 : strLe s f.name
    · have := strLe_false h2
      rw [h] at this; cases this
    · rfl
  · cases h2 : strLe s f.name
    · rfl
    · unfold strLe at h2
      simp only [Bool.or_eq_true, beq_iff_eq] at h2
      rcases h2 with h2 | rfl
      · have := bl_trans _ _ _ h h2
        rw [bl_irrefl] at this; cases this
      · rw [bl_irrefl] at h; cases h

theorem fold_true (f : File) : ∀ (fs out : List File), fs.foldl (putStep f) (true, out) = (true, out ++ fs.filter (fun g => g.name != f.name))
  | [], out => by simp
  | g :: fs, out => by
    rw [List.foldl_cons]
    cases h : g.name != f.name
    · have : putStep f (true, out) g = (true, out) := by simp only [putStep, h]; simp
      rw [this, fold_true f fs out, List.filter_cons_of_neg (by simp [h])]
    · have : putStep f (true, out) g = (true, out ++ [g]) := by simp only [putStep, h]; simp
      rw [this, fold_true f fs _, List.filter_cons_of_pos (by simp [h])]
      simp
def endP (f : File) (r : Bool × List File) : List File := if r.1 = true then r.2 else r.2 ++ [f]
theorem endP_true (f : File) (l : List File) : endP f (true, l) = l := rfl
theorem fold_false (f : File) : ∀ (fs out : List File), endP f (fs.foldl (putStep f) (false, out)) =
    out ++ fs.takeWhile (lessF · f.name) ++ f :: (fs.dropWhile (lessF · f.name)).filter (fun g => g.name != f.name)
  | [], out => by simp [endP]
  | g :: fs, out => by
    simp only [List.foldl_cons, List.takeWhile_cons, List.dropWhile_cons]
    cases h : lessF g f.name
    · have hle : strLe f.name g.name = true := by rw [lessF_iff] at h; simpa using h
      cases hn : g.name != f.name
      · have : putStep f (false, out) g = (true, out ++ [f]) := by simp [putStep, hle, hn]
        rw [this, fold_true, endP_true]
        simp [List.filter_cons, hn]
      · have : putStep f (false, out) g = (true, out ++ [f] ++ [g]) := by simp [putStep, hle, hn]
        rw [this, fold_true, endP_true]
        simp [List.filter_cons, hn]
    · have hle : strLe f.name g.name = false := by rw [lessF_iff] at h; simpa using h
      have hn : (g.name != f.name) = true := by
        simp only [bne_iff_ne, ne_eq]
        intro e
        rw [e] at hle
        simp [strLe] at hle
      have : putStep f (false, out) g = (false, out ++ [g]) := by simp [putStep, hle, hn]
      rw [this, fold_false f fs (out ++ [g])]
      simp
theorem putR_eq (d : Disk) (f : File) : putR d f = ⟨d.files.takeWhile (lessF · f.name) ++ f :: (d.files.dropWhile (lessF · f.name)).filter (fun g => g.name != f.name), d.space⟩ := by
  have := fold_false f d.files []
  simp only [List.nil_append] at this
  rw [← this]
  rfl

theorem tw_take (fs : List File) (s : List UInt8) : fs.takeWhile (lessF · s) = fs.take (lb fs s) := by
  unfold lb
  induction fs with
  | nil => rfl
  | cons g fs ih =>
    rw [List.takeWhile_cons]
    split
    · rw [List.length_cons, List.take_succ_cons, ← ih]
    · rfl
theorem dw_drop (fs : List File) (s : List UInt8) : fs.dropWhile (lessF · s) = fs.drop (lb fs s) := by
  unfold lb
  induction fs with
  | nil => rfl
  | cons g fs ih =>
    rw [List.dropWhile_cons, List.takeWhile_cons]
    split
    · rw [List.length_cons, List.drop_succ_cons, ← ih]
    · rfl
theorem Sorted.drop {fs : List File} (h : Sorted fs) (n : Nat) : Sorted (fs.drop n) := List.Pairwise.sublist (List.drop_sublist n fs) h
theorem lb_head {fs : List File} {s : List UInt8} (h : lb fs s < fs.length) : lessF fs[lb fs s] s = false := by
  unfold lb at h ⊢
  induction fs with
  | nil => simp at h
  | cons g fs ih =>
    by_cases hg : lessF g s = true
    · simp only [List.takeWhile_cons, hg, if_true, List.length_cons, List.getElem_cons_succ]
      exact ih (by simpa [List.takeWhile_cons, hg] using h)
    · simp only [List.takeWhile_cons, hg, Bool.false_eq_true, if_false, List.length_nil, List.getElem_cons_zero]
/-- Behind the place of a name stand only greater names, the name itself apart. -/
theorem drop_gt {fs : List File} (hs : Sorted fs) {s : List UInt8} (h : lb fs s < fs.length) : ∀ g ∈ fs.drop (lb fs s + 1), Op.bytesLess s g.name = true := fun g hg => by
  have h1 : Op.bytesLess fs[lb fs s].name g.name = true := by
    have hd := hs.drop (lb fs s)
    rw [List.drop_eq_getElem_cons h] at hd
    exact (List.pairwise_cons.1 hd).1 g hg
  have h2 := lb_head h
  rw [lessF_iff] at h2
  simp only [Bool.not_eq_false', strLe, Bool.or_eq_true, beq_iff_eq] at h2
  rcases h2 with h2 | h2
  · exact bl_trans _ _ _ h2 h1
  · rw [h2]; exact h1
theorem ne_of_bl {a b : List UInt8} (h : Op.bytesLess a b = true) : b ≠ a := fun e => by rw [e, bl_irrefl] at h; cases h
theorem tw_mem {α : Type} {p : α → Bool} {l : List α} {x : α} (h : x ∈ l.takeWhile p) : p x = true := by
  induction l with
  | nil => cases h
  | cons a l ih =>
    rw [List.takeWhile_cons] at h
    split at h
    · rcases List.mem_cons.1 h with rfl | h
      · assumption
      · exact ih h
    · cases h
theorem take_ne (fs : List File) (s : List UInt8) : ∀ g ∈ fs.take (lb fs s), g.name ≠ s := fun g hg => by
  rw [← tw_take] at hg
  have := tw_mem hg
  intro e
  simp only [lessF, e, bl_irrefl] at this
  cases this
theorem drop_filter {fs : List File} (hs : Sorted fs) (s : List UInt8) : (fs.drop (lb fs s)).filter (fun g => g.name != s) = if foundAt fs s (lb fs s) = true then fs.drop (lb fs s + 1) else fs.drop (lb fs s) := by
  rcases Nat.lt_or_ge (lb fs s) fs.length with h | h
  · rw [List.drop_eq_getElem_cons h, foundAt_iff _ _ _ h]
    have hf : (fs.drop (lb fs s + 1)).filter (fun g => g.name != s) = fs.drop (lb fs s + 1) := List.filter_eq_self.2 fun g hg => by
      have := ne_of_bl (drop_gt hs h g hg)
      simpa using this
    cases hn : fs[lb fs s].name == s
    · rw [List.filter_cons_of_pos (by simpa using hn), hf, if_neg (by simp)]
    · rw [List.filter_cons_of_neg (by simpa using hn), hf, if_pos rfl]
  · rw [List.drop_eq_nil_of_le h]
    have : foundAt fs s (lb fs s) = false := by
      cases hf : foundAt fs s (lb fs s)
      · rfl
      · have := foundAt_lt hf; omega
    rw [this]; rfl
theorem putR_sorted {d : Disk} (hs : Sorted d.files) (f : File) : putR d f = ⟨if foundAt d.files f.name (lb d.files f.name) = true then d.files.set (lb d.files f.name) f else insAt d.files (lb d.files f.name) f, d.space⟩ := by
  rw [putR_eq, tw_take, dw_drop, drop_filter hs]
  congr 1
  split
  · rename_i h
    rw [List.set_eq_take_append_cons_drop, if_pos (foundAt_lt h)]
  · rfl

theorem sumD_set (fs : List File) (i : Nat) (f : File) (h : i < fs.length) (e : f.dur = fs[i].dur) : sumD (fs.set i f) = sumD fs := by
  have : (fs.set i f).map (·.dur.length) = fs.map (·.dur.length) := by
    rw [List.map_set, e, ← List.getElem_map (fun f : File => f.dur.length) (h := by simpa using h)]
    exact List.set_getElem_self _
  simp only [sumD, this]
theorem sumV_set (fs : List File) (i : Nat) (f : File) (h : i < fs.length) (e : f.vol = fs[i].vol) : sumV (fs.set i f) = sumV fs := by
  have : (fs.set i f).map (·.vol.length) = fs.map (·.vol.length) := by
    rw [List.map_set, e, ← List.getElem_map (fun f : File => f.vol.length) (h := by simpa using h)]
    exact List.set_getElem_self _
  simp only [sumV, this]
theorem sumD_ins (fs : List File) (i : Nat) (f : File) (e : f.dur = []) : sumD (insAt fs i f) = sumD fs := by
  have h : sumD fs = sumD (fs.take i ++ fs.drop i) := by rw [List.take_append_drop]
  rw [h]
  simp only [sumD, insAt, List.map_append, List.map_cons, List.sum_append, List.sum_cons, e, List.length_nil, Nat.zero_add]
theorem checkR_over {d : Disk} (h : checkR d = 0) : ¬ d.space < W (sumV d.files) ∧ ¬ d.space < W (sumD d.files) := by
  unfold checkR at h
  split at h
  · cases h
  · split at h
    · cases h
    · split at h
      · split at h
        · cases h
        · rename_i ho
          simpa [overB] using ho
      · rename_i h1; exact absurd h h1

theorem fin_fit (L : List File) (space : Int) (h : ¬ space < W (sumD L)) : finR L space = fitR ⟨L, space⟩ := by
  unfold finR fitR
  simp [overB, h]

theorem oldR_found {d : Disk} (hs : Sorted d.files) (s : List UInt8) : oldR d s = if foundAt d.files s (lb d.files s) = true then (d.files[lb d.files s]?.getD ⟨s, [], []⟩) else ⟨s, [], []⟩ := by
  rw [oldR, placeAV d s hs]
  split
  · rename_i h
    split at h
    · cases h
    · rename_i h2; rw [if_neg h2]
  · rename_i i h
    split at h
    · rename_i h2; rw [if_pos h2]; cases h; rfl
    · cases h
theorem changed_law (d : Disk) (s : List UInt8) (g : List UInt8 → List UInt8) : changedR d s g = if namedR d s = 0 then fitR (putR d { oldR d s with vol := g (oldR d s).vol }) else (zeroD, namedR d s) := by
  unfold changedR
  split
  · rename_i h
    have hc := namedR_check h
    have hs := checkR_sorted hc
    have ho := checkR_over hc
    have hold := oldR_found hs s
    by_cases hf : foundAt d.files s (lb d.files s) = true
    · have hlt := foundAt_lt hf
      have hn : d.files[lb d.files s].name = s := by rw [foundAt_iff _ _ _ hlt] at hf; simpa using hf
      rw [if_pos hf, List.getElem?_eq_getElem hlt, Option.getD_some] at hold
      rw [hold, putR_sorted hs]
      simp only [hn]
      rw [if_pos hf, openAt, if_pos hf, setVol, List.getElem?_eq_getElem hlt]
      simp only
      rw [fin_fit _ _ (by rw [sumD_set _ _ _ hlt (by rfl)]; exact ho.2)]
      simp only [hn]
    · rw [if_neg hf] at hold
      rw [hold, putR_sorted hs]
      simp only
      rw [if_neg hf, openAt, if_neg hf]
      have hl : lb d.files s < (insAt d.files (lb d.files s) ⟨s, [], []⟩).length := by rw [insAt_len _ _ _ (lb_le _ _)]; have := lb_le d.files s; omega
      have hset : setVol (insAt d.files (lb d.files s) ⟨s, [], []⟩) (lb d.files s) g = insAt d.files (lb d.files s) ⟨s, [], g []⟩ := by
        have hl2 : (d.files.take (lb d.files s)).length = lb d.files s := by have := lb_le d.files s; simp; omega
        have hg : (insAt d.files (lb d.files s) ⟨s, [], []⟩)[lb d.files s]? = some ⟨s, [], []⟩ := by
          rw [insAt, List.getElem?_append_right (by omega), hl2]; simp
        rw [setVol, hg]
        simp only [insAt]
        rw [List.set_append_right _ _ (by omega), hl2]
        simp
      rw [hset, fin_fit]
      rw [sumD_ins _ _ _ rfl]
      exact ho.2
  · rfl
theorem writesP (d : Disk) (s b : List UInt8) : WritesP d s b := fun _ _ => ⟨by rw [changed_law]; rfl, by rw [changed_law]; rfl⟩

theorem sync_law (d : Disk) (s : List UInt8) : syncPR d s = syncR d s := by
  unfold syncPR syncR
  split
  · rename_i h
    have hc := namedR_check h
    have hs := checkR_sorted hc
    have ho := checkR_over hc
    have hlen := checkR_len hc
    rw [placeAV d s hs]
    by_cases hf : foundAt d.files s (lb d.files s) = true
    · have hlt := foundAt_lt hf
      have hn : d.files[lb d.files s].name = s := by rw [foundAt_iff _ _ _ hlt] at hf; simpa using hf
      simp only [if_pos hf]
      rw [putR_sorted hs]
      have hb : d.files[lb d.files s]! = d.files[lb d.files s] := by simp [hlt]
      simp only [hb, hn]
      rw [if_pos hf, syncF, List.getElem?_eq_getElem hlt]
      simp only
      have hv := sumV_set d.files (lb d.files s) { name := s, dur := d.files[lb d.files s].vol, vol := d.files[lb d.files s].vol } hlt rfl
      have h256 : ¬ (256 : Int) < d.files.length := by omega
      simp [finD, fitR, overB, hv, h256, ho.1, hn]
    · simp only [if_neg hf]
  · rfl

theorem lb_filter {fs : List File} (hs : Sorted fs) (t : List UInt8) : (fs.filter (fun g => g.name != t)).takeWhile (lessF · t) = fs.takeWhile (lessF · t) ∧ (fs.filter (fun g => g.name != t)).dropWhile (lessF · t) = (fs.dropWhile (lessF · t)).filter (fun g => g.name != t) := by
  have hsplit : fs.filter (fun g => g.name != t) = fs.take (lb fs t) ++ (fs.drop (lb fs t)).filter (fun g => g.name != t) := by
    conv => lhs; rw [← List.take_append_drop (lb fs t) fs]
    rw [List.filter_append]
    congr 1
    exact List.filter_eq_self.2 fun g hg => by simpa using take_ne fs t g hg
  have h1 : ∀ g ∈ fs.take (lb fs t), lessF g t = true := fun g hg => by rw [← tw_take] at hg; exact tw_mem (p := (lessF · t)) hg
  have h2 : ∀ g ∈ (fs.drop (lb fs t)).filter (fun g => g.name != t), lessF g t = false := fun g hg => by
    rw [drop_filter hs] at hg
    have hall : ∀ g ∈ fs.drop (lb fs t), lessF g t = false := fun g hg => by
      rcases Nat.lt_or_ge (lb fs t) fs.length with h | h
      · rw [List.drop_eq_getElem_cons h] at hg
        rcases List.mem_cons.1 hg with rfl | hg
        · exact lb_head h
        · have := drop_gt hs h g hg
          cases hl : lessF g t
          · rfl
          · have := bl_trans _ _ _ hl this
            rw [bl_irrefl] at this; cases this
      · rw [List.drop_eq_nil_of_le h] at hg; cases hg
    split at hg
    · refine hall g ?_
      rcases Nat.lt_or_ge (lb fs t) fs.length with h | h
      · rw [List.drop_eq_getElem_cons h]; exact List.mem_cons_of_mem _ hg
      · rw [List.drop_eq_nil_of_le (by omega)] at hg; cases hg
    · exact hall g hg
  have h3 : ((fs.drop (lb fs t)).filter (fun g => g.name != t)).takeWhile (lessF · t) = [] := by
    cases hc : (fs.drop (lb fs t)).filter (fun g => g.name != t) with
    | nil => rfl
    | cons g r => rw [List.takeWhile_cons, h2 g (by rw [hc]; simp)]; rfl
  have h4 : ((fs.drop (lb fs t)).filter (fun g => g.name != t)).dropWhile (lessF · t) = (fs.drop (lb fs t)).filter (fun g => g.name != t) := by
    cases hc : (fs.drop (lb fs t)).filter (fun g => g.name != t) with
    | nil => rfl
    | cons g r => rw [List.dropWhile_cons, h2 g (by rw [hc]; simp)]; rfl
  constructor
  · rw [hsplit, List.takeWhile_append_of_pos h1, h3, List.append_nil, tw_take]
  · rw [hsplit, List.dropWhile_append_of_pos h1, h4, dw_drop]
theorem rename_law (d : Disk) (s t : List UInt8) : renamePR d s t = renameR d s t := by
  unfold renamePR renameR checkedR namedR
  by_cases hc : checkR d = 0
  · simp only [if_pos hc]
    have hs := checkR_sorted hc
    by_cases h1 : nameOk s = true
    · simp only [if_pos h1]
      by_cases h2 : nameOk t = true
      · simp only [List.all_cons, h1, h2, List.all_nil, Bool.and_self, if_true]
        cases hfd : findR d.files s 0 with
        | none => rfl
        | some i =>
          simp only
          rw [putR_eq]
          have hF : Sorted (withoutR d s).files := hs.filter _
          obtain ⟨e1, e2⟩ := lb_filter hF t
          have hfil : d.files.filter (not2 s t) = (withoutR d s).files.filter (fun g => g.name != t) := by
            rw [withoutR, List.filter_filter]
            congr 1
            funext g
            simp only [not2]
            rw [Bool.and_comm]
          simp only [hfil, insAt]
          rw [← tw_take, ← dw_drop, e1, e2]
          rfl
      · simp [h1, h2]
    · simp [h1]
  · simp [hc]

theorem remove_law (d : Disk) (s : List UInt8) : removePR d s = removeR d s := by
  unfold removePR removeR
  split
  · rename_i h
    have hs := checkR_sorted (namedR_check h)
    rw [placeAV d s hs]
    by_cases hf : foundAt d.files s (lb d.files s) = true
    · simp only [if_pos hf, withoutR]
      congr 2
      have hd := drop_filter hs s
      rw [if_pos hf] at hd
      conv => rhs; rw [← List.take_append_drop (lb d.files s) d.files]
      rw [List.filter_append, hd, List.eraseIdx_eq_take_drop_succ]
      congr 1
      exact (List.filter_eq_self.2 fun g hg => by simpa using take_ne d.files s g hg).symm
    · simp only [if_neg hf]
  · rfl
end Go.Abs
set_option maxRecDepth 100000
namespace Go.Abs
open Go Go.Proofs
set_option linter.unusedSimpArgs false

set_option maxHeartbeats 4000000 in
theorem pc5 (d : Disk) (s : List UInt8) (hd : DB d) (hs : s.length ≤ 140737488355328) : PC Tryd.prog 5 [encD d, .str s] (fun r => r = .bool true) := by
  refine PC_body tOk Tryd.func5 rfl Tryd.results5 rfl (by simp [Tryd.ntmps5]) ?_
  rw [Tryd.ntmps5]
  simp only [argSlots]
  simp only [encD]
  repeat (first
    | (refine AWP_seq (AWP_regS tOk rfl ?_); simp)
    | (refine AWP_regS tOk rfl ?_; simp)
    | (refine AWP_skip ?_; simp)
    | (refine AWP_exit ?_; simp)
    | (refine AWP_ret ?_; simp)
    | refine AWP_block ?_
    | refine AWP_seq ?_)
  refine AStep_PC rfl rfl (by simp) (pc11 d) rfl ?_
  rintro _ rfl
  simp
  repeat (first
    | (refine AWP_seq (AWP_regS tOk rfl ?_); simp)
    | (refine AWP_regS tOk rfl ?_; simp)
    | (refine AWP_skip ?_; simp)
    | (refine AWP_exit ?_; simp)
    | (refine AWP_ret ?_; simp)
    | refine AWP_block ?_
    | refine AWP_seq ?_)
  refine AWP_cond2 rfl (fun h => ?_) (fun h => ?_)
  · repeat (first
      | (refine AWP_seq (AWP_regS tOk rfl ?_); simp)
      | (refine AWP_regS tOk rfl ?_; simp)
      | (refine AWP_skip ?_; simp)
      | (refine AWP_exit ?_; simp)
      | (refine AWP_ret ?_; simp)
      | refine AWP_block ?_
      | refine AWP_seq ?_)
    refine AStep_PC rfl rfl (by simp) (pc12) rfl ?_
    rintro _ rfl
    simp
    repeat (first
      | (refine AWP_seq (AWP_regS tOk rfl ?_); simp)
      | (refine AWP_regS tOk rfl ?_; simp)
      | (refine AWP_skip ?_; simp)
      | (refine AWP_exit ?_; simp)
      | (refine AWP_ret ?_; simp)
      | refine AWP_block ?_
      | refine AWP_seq ?_)
  simp only [Bool.or_eq_false_iff, Bool.not_eq_false', decide_eq_false_iff_not] at h
  obtain ⟨hf, hs2⟩ := h
  have hnb : NB d.files := fun f hf => by have := hd.name f hf; omega
  repeat (first
    | (refine AWP_seq (AWP_regS tOk rfl ?_); simp)
    | (refine AWP_regS tOk rfl ?_; simp)
    | (refine AWP_skip ?_; simp)
    | (refine AWP_exit ?_; simp)
    | (refine AWP_ret ?_; simp)
    | refine AWP_block ?_
    | refine AWP_seq ?_)
  refine AStep_PC rfl rfl (by simp) (pc21 d s) rfl ?_
  rintro _ rfl
  simp
  repeat (first
    | (refine AWP_seq (AWP_regS tOk rfl ?_); simp)
    | (refine AWP_regS tOk rfl ?_; simp)
    | (refine AWP_skip ?_; simp)
    | (refine AWP_exit ?_; simp)
    | (refine AWP_ret ?_; simp)
    | refine AWP_block ?_
    | refine AWP_seq ?_)
  refine AStep_PC rfl rfl (by simp) (pc22 d hnb s (by omega)) rfl ?_
  rintro _ rfl
  simp
  repeat (first
    | (refine AWP_seq (AWP_regS tOk rfl ?_); simp)
    | (refine AWP_regS tOk rfl ?_; simp)
    | (refine AWP_skip ?_; simp)
    | (refine AWP_exit ?_; simp)
    | (refine AWP_ret ?_; simp)
    | refine AWP_block ?_
    | refine AWP_seq ?_)
  refine AStep_PC rfl rfl (by simp) (pc23 d s) rfl ?_
  rintro _ rfl
  simp
  rcases hfd : findR d.files s 0 with _ | i
  · simp only [findAV]
    repeat (first
      | (refine AWP_seq (AWP_regS tOk rfl ?_); simp)
      | (refine AWP_regS tOk rfl ?_; simp)
      | (refine AWP_skip ?_; simp)
      | (refine AWP_exit ?_; simp)
      | (refine AWP_ret ?_; simp)
      | refine AWP_block ?_
      | refine AWP_seq ?_)
    refine AStep_PC rfl rfl (by simp) (pc24 d s) rfl ?_
    rintro _ rfl
    simp
    rw [hfd]
    simp only [findAV]
    repeat (first
      | (refine AWP_seq (AWP_regS tOk rfl ?_); simp)
      | (refine AWP_regS tOk rfl ?_; simp)
      | (refine AWP_skip ?_; simp)
      | (refine AWP_exit ?_; simp)
      | (refine AWP_ret ?_; simp)
      | refine AWP_block ?_
      | refine AWP_seq ?_)
    refine AWP_draw tOk mixed [] [0, 1, 2, 4, 3, 5, 6, 7, 8, 9, 10, 11, 12, 13, 14, 15, 16, 17, 18, 19, 20, 21, 22, 23, 24, 25, 26, 27, 28] rfl (by kernel_rfl) ?_
    simp
    refine AStep_PC rfl rfl (by simp) (pc12) rfl ?_
    rintro _ rfl
    simp
    refine AStep_PC (by simp) rfl (by simp) (pc25 d) rfl ?_
    rintro _ rfl
    simp
    refine AStep_PC (by simp) rfl (by simp) (pc26 d hnb) rfl ?_
    rintro _ rfl
    simp
    repeat (first
      | (refine AWP_seq (AWP_regS tOk rfl ?_); simp)
      | (refine AWP_regS tOk rfl ?_; simp)
      | (refine AWP_skip ?_; simp)
      | (refine AWP_exit ?_; simp)
      | (refine AWP_ret ?_; simp)
      | refine AWP_block ?_
      | refine AWP_seq ?_)
  · simp only [findAV]
    repeat (first
      | (refine AWP_seq (AWP_regS tOk rfl ?_); simp)
      | (refine AWP_regS tOk rfl ?_; simp)
      | (refine AWP_skip ?_; simp)
      | (refine AWP_exit ?_; simp)
      | (refine AWP_ret ?_; simp)
      | refine AWP_block ?_
      | refine AWP_seq ?_)
    refine AStep_PC rfl rfl (by simp) (pc24 d s) rfl ?_
    rintro _ rfl
    simp
    rw [hfd]
    simp only [findAV]
    repeat (first
      | (refine AWP_seq (AWP_regS tOk rfl ?_); simp)
      | (refine AWP_regS tOk rfl ?_; simp)
      | (refine AWP_skip ?_; simp)
      | (refine AWP_exit ?_; simp)
      | (refine AWP_ret ?_; simp)
      | refine AWP_block ?_
      | refine AWP_seq ?_)
    refine AWP_draw tOk mixed [] [0, 1, 2, 4, 3, 5, 6, 7, 8, 9, 10, 11, 12, 13, 14, 15, 16, 17, 18, 19, 20, 21, 22, 23, 24, 25, 26, 27, 28] rfl (by kernel_rfl) ?_
    simp
    refine AStep_PC rfl rfl (by simp) (pc12) rfl ?_
    rintro _ rfl
    simp
    refine AStep_PC (by simp) rfl (by simp) (pc25 d) rfl ?_
    rintro _ rfl
    simp
    refine AStep_PC (by simp) rfl (by simp) (pc26 d hnb) rfl ?_
    rintro _ rfl
    simp
    repeat (first
      | (refine AWP_seq (AWP_regS tOk rfl ?_); simp)
      | (refine AWP_regS tOk rfl ?_; simp)
      | (refine AWP_skip ?_; simp)
      | (refine AWP_exit ?_; simp)
      | (refine AWP_ret ?_; simp)
      | refine AWP_block ?_
      | refine AWP_seq ?_)

attribute [local irreducible] renameR removeR syncR
set_option maxHeartbeats 4000000 in
theorem pc9 (d : Disk) (s t : List UInt8) (hd : DB d) (hs : s.length ≤ 140737488355328) (ht : t.length ≤ 140737488355328) : PC Tryd.prog 9 [encD d, .str s, .str t] (fun r => r = .bool true) := by
  refine PC_body tOk Tryd.func9 rfl Tryd.results9 rfl (by simp [Tryd.ntmps9]) ?_
  rw [Tryd.ntmps9]
  simp only [argSlots]
  simp only [encD]
  repeat (first
    | (refine AWP_seq (AWP_regS tOk rfl ?_); simp)
    | (refine AWP_regS tOk rfl ?_; simp)
    | (refine AWP_skip ?_; simp)
    | (refine AWP_exit ?_; simp)
    | (refine AWP_ret ?_; simp)
    | refine AWP_block ?_
    | refine AWP_seq ?_)
  refine AStep_PC rfl rfl (by simp) (pc11 d) rfl ?_
  rintro _ rfl
  simp
  repeat (first
    | (refine AWP_seq (AWP_regS tOk rfl ?_); simp)
    | (refine AWP_regS tOk rfl ?_; simp)
    | (refine AWP_skip ?_; simp)
    | (refine AWP_exit ?_; simp)
    | (refine AWP_ret ?_; simp)
    | refine AWP_block ?_
    | refine AWP_seq ?_)
  refine AWP_cond2 rfl (fun h => ?_) (fun h => ?_)
  · repeat (first
      | (refine AWP_seq (AWP_regS tOk rfl ?_); simp)
      | (refine AWP_regS tOk rfl ?_; simp)
      | (refine AWP_skip ?_; simp)
      | (refine AWP_exit ?_; simp)
      | (refine AWP_ret ?_; simp)
      | refine AWP_block ?_
      | refine AWP_seq ?_)
    refine AStep_PC rfl rfl (by simp) (pc12) rfl ?_
    rintro _ rfl
    simp
    repeat (first
      | (refine AWP_seq (AWP_regS tOk rfl ?_); simp)
      | (refine AWP_regS tOk rfl ?_; simp)
      | (refine AWP_skip ?_; simp)
      | (refine AWP_exit ?_; simp)
      | (refine AWP_ret ?_; simp)
      | refine AWP_block ?_
      | refine AWP_seq ?_)
  have hnb : NB d.files := fun f hf => by have := hd.name f hf; omega
  repeat (first
    | (refine AWP_seq (AWP_regS tOk rfl ?_); simp)
    | (refine AWP_regS tOk rfl ?_; simp)
    | (refine AWP_skip ?_; simp)
    | (refine AWP_exit ?_; simp)
    | (refine AWP_ret ?_; simp)
    | refine AWP_block ?_
    | refine AWP_seq ?_)
  refine AStep_PC rfl rfl (by simp) (pc28 d s) rfl ?_
  rintro _ rfl
  simp
  repeat (first
    | (refine AWP_seq (AWP_regS tOk rfl ?_); simp)
    | (refine AWP_regS tOk rfl ?_; simp)
    | (refine AWP_skip ?_; simp)
    | (refine AWP_exit ?_; simp)
    | (refine AWP_ret ?_; simp)
    | refine AWP_block ?_
    | refine AWP_seq ?_)
  refine AStep_PC rfl rfl (by simp) (pc31 d hnb s (by omega)) rfl ?_
  rintro _ rfl
  simp
  repeat (first
    | (refine AWP_seq (AWP_regS tOk rfl ?_); simp)
    | (refine AWP_regS tOk rfl ?_; simp)
    | (refine AWP_skip ?_; simp)
    | (refine AWP_exit ?_; simp)
    | (refine AWP_ret ?_; simp)
    | refine AWP_block ?_
    | refine AWP_seq ?_)
  refine AStep_PC rfl rfl (by simp) (pc29 d s t) rfl ?_
  rintro _ rfl
  simp
  repeat (first
    | (refine AWP_seq (AWP_regS tOk rfl ?_); simp)
    | (refine AWP_regS tOk rfl ?_; simp)
    | (refine AWP_skip ?_; simp)
    | (refine AWP_exit ?_; simp)
    | (refine AWP_ret ?_; simp)
    | refine AWP_block ?_
    | refine AWP_seq ?_)
  refine AStep_PC rfl rfl (by simp) (pc32 d hnb s t (by omega) (by omega)) rfl ?_
  rintro _ rfl
  simp
  repeat (first
    | (refine AWP_seq (AWP_regS tOk rfl ?_); simp)
    | (refine AWP_regS tOk rfl ?_; simp)
    | (refine AWP_skip ?_; simp)
    | (refine AWP_exit ?_; simp)
    | (refine AWP_ret ?_; simp)
    | refine AWP_block ?_
    | refine AWP_seq ?_)
  refine AStep_PC rfl rfl (by simp) (pc33 d s) rfl ?_
  rintro _ rfl
  simp
  repeat (first
    | (refine AWP_seq (AWP_regS tOk rfl ?_); simp)
    | (refine AWP_regS tOk rfl ?_; simp)
    | (refine AWP_skip ?_; simp)
    | (refine AWP_exit ?_; simp)
    | (refine AWP_ret ?_; simp)
    | refine AWP_block ?_
    | refine AWP_seq ?_)
  rw [sync_law, rename_law]
  refine AStep_PC rfl rfl (by simp) (pc34 d hnb s (by omega)) rfl ?_
  rintro _ rfl
  simp
  rw [remove_law]
  refine AWP_keep (sl' := [(6, .bool false), (7, .vptr 1 0), (8, .i (syncR d s).2), (9, .vptr 2 0), (10, .i (syncR d s).2), (11, .vptr 3 0), (12, .i (renameR d s t).2), (13, .vptr 4 0), (14, .i (renameR d s t).2), (15, .vptr 5 0), (16, .i (removeR d s).2), (17, .vptr 6 0), (18, .i (removeR d s).2)]) ?_ (by simp)
  repeat (first
    | (refine AWP_seq (AWP_regS tOk rfl ?_); simp)
    | (refine AWP_regS tOk rfl ?_; simp)
    | (refine AWP_skip ?_; simp)
    | (refine AWP_exit ?_; simp)
    | (refine AWP_ret ?_; simp)
    | refine AWP_block ?_
    | refine AWP_seq ?_)
  refine AStep_PC rfl rfl (by simp) (pc12) rfl ?_
  rintro _ rfl
  simp
  repeat (first
    | (refine AWP_seq (AWP_regS tOk rfl ?_); simp)
    | (refine AWP_regS tOk rfl ?_; simp)
    | (refine AWP_skip ?_; simp)
    | (refine AWP_exit ?_; simp)
    | (refine AWP_ret ?_; simp)
    | refine AWP_block ?_
    | refine AWP_seq ?_)
  refine AStep_PCflat rfl rfl (by first | (simp; done) | (simp; rfl)) (pc17 (syncR d s).1 (syncR d s).1) rfl ?_
  rintro _ rfl
  refine ⟨by simp, ?_⟩
  simp
  repeat (first
    | (refine AWP_seq (AWP_regS tOk rfl ?_); simp)
    | (refine AWP_regS tOk rfl ?_; simp)
    | (refine AWP_skip ?_; simp)
    | (refine AWP_exit ?_; simp)
    | (refine AWP_ret ?_; simp)
    | refine AWP_block ?_
    | refine AWP_seq ?_)
  refine AStep_PCflat rfl rfl (by first | (simp; done) | (simp; rfl)) (pc17 (renameR d s t).1 (renameR d s t).1) rfl ?_
  rintro _ rfl
  refine ⟨by simp, ?_⟩
  simp
  repeat (first
    | (refine AWP_seq (AWP_regS tOk rfl ?_); simp)
    | (refine AWP_regS tOk rfl ?_; simp)
    | (refine AWP_skip ?_; simp)
    | (refine AWP_exit ?_; simp)
    | (refine AWP_ret ?_; simp)
    | refine AWP_block ?_
    | refine AWP_seq ?_)
  refine AStep_PCflat rfl rfl (by first | (simp; done) | (simp; rfl)) (pc17 (removeR d s).1 (removeR d s).1) rfl ?_
  rintro _ rfl
  refine ⟨by simp, ?_⟩
  simp
  repeat (first
    | (refine AWP_seq (AWP_regS tOk rfl ?_); simp)
    | (refine AWP_regS tOk rfl ?_; simp)
    | (refine AWP_skip ?_; simp)
    | (refine AWP_exit ?_; simp)
    | (refine AWP_ret ?_; simp)
    | refine AWP_block ?_
    | refine AWP_seq ?_)
end Go.Abs
set_option maxRecDepth 100000
namespace Go.Abs
open Go Go.Proofs

theorem findR_at : ∀ (fs : List File) (s : List UInt8) (k i : Nat) (x : File), fs[i]? = some x → x.name = s → (∀ j y, j < i → fs[j]? = some y → y.name ≠ s) → findR fs s k = some (k + i)
  | [], _, _, _, _, h, _, _ => by simp at h
  | f :: fs, s, k, i, x, h, hn, hne => by
    rcases i with _ | i
    · simp only [List.getElem?_cons_zero, Option.some.injEq] at h
      subst h
      rw [findR, if_pos hn, Nat.add_zero]
    · have h0 := hne 0 f (by omega) rfl
      rw [findR, if_neg h0, findR_at fs s (k + 1) i x (by simpa using h) hn (fun j y hj hy => hne (j + 1) y (by omega) (by simpa using hy))]
      congr 1; omega
theorem findR_sorted {fs : List File} (hs : Sorted fs) {i : Nat} {x : File} (h : fs[i]? = some x) : findR fs x.name 0 = some i := by
  have := findR_at fs x.name 0 i x h rfl (fun j y hj hy e => by
    obtain ⟨hi, rfl⟩ := List.getElem?_eq_some_iff.1 h
    obtain ⟨hj', rfl⟩ := List.getElem?_eq_some_iff.1 hy
    have := List.pairwise_iff_getElem.1 hs j i hj' hi hj
    rw [e, bl_irrefl] at this; cases this)
  simpa using this
theorem findR_mem {fs : List File} (hs : Sorted fs) {x : File} (h : x ∈ fs) : ∃ i, i < fs.length ∧ fs[i]? = some x ∧ findR fs x.name 0 = some i := by
  obtain ⟨i, hi⟩ := List.mem_iff_getElem?.1 h
  exact ⟨i, (List.getElem?_eq_some_iff.1 hi).1, hi, findR_sorted hs hi⟩
theorem findR_some {fs : List File} {s : List UInt8} : ∀ {k i : Nat}, findR fs s k = some i → ∃ x, fs[i - k]? = some x ∧ x.name = s ∧ k ≤ i := by
  induction fs with
  | nil => intro k i h; cases h
  | cons f fs ih =>
    intro k i h
    rw [findR] at h
    split at h
    · cases h; exact ⟨f, by simp, by assumption, Nat.le_refl _⟩
    · obtain ⟨x, hx, hn, hk⟩ := ih h
      refine ⟨x, ?_, hn, by omega⟩
      rw [show i - k = (i - (k + 1)) + 1 by omega]
      simpa using hx
theorem findR_none {fs : List File} {s : List UInt8} : ∀ {k : Nat}, (∀ x ∈ fs, x.name ≠ s) → findR fs s k = none := by
  induction fs with
  | nil => intro k _; rfl
  | cons f fs ih =>
    intro k h
    rw [findR, if_neg (h f (by simp)), ih (fun x hx => h x (by simp [hx]))]
theorem findR_none_iff {fs : List File} {s : List UInt8} : ∀ {k : Nat}, findR fs s k = none → ∀ x ∈ fs, x.name ≠ s := by
  induction fs with
  | nil => intro k _ x hx; cases hx
  | cons f fs ih =>
    intro k h x hx
    rw [findR] at h
    split at h
    · cases h
    · rcases List.mem_cons.1 hx with rfl | hx
      · assumption
      · exact ih h x hx

/-- In order and with good names, the files are well-formed. -/
theorem chkL_of : ∀ (fs : List File) (p : Option (List UInt8)), Sorted fs → (∀ f ∈ fs, nameOk f.name = true) → (∀ q, p = some q → ∀ f ∈ fs, Op.bytesLess q f.name = true) → chkL p fs = 0
  | [], _, _, _, _ => rfl
  | f :: fs, p, hs, hn, hp => by
    rw [chkL, if_neg (by simp [hn f (by simp)]), if_neg ?_]
    · exact chkL_of fs (some f.name) (List.pairwise_cons.1 hs).2 (fun g hg => hn g (by simp [hg])) (fun q hq g hg => by cases hq; exact (List.pairwise_cons.1 hs).1 g hg)
    · cases p with
      | none => simp [badPrev]
      | some q =>
        have h1 := hp q rfl f (by simp)
        simp only [badPrev, strLe, Bool.or_eq_true, beq_iff_eq, not_or]
        refine ⟨fun h2 => ?_, fun h2 => ?_⟩
        · have := bl_trans _ _ _ h1 h2; rw [bl_irrefl] at this; cases this
        · rw [h2, bl_irrefl] at h1; cases h1
structure Good (d : Disk) : Prop where
  sp : badSp d.space = false
  len : d.files.length ≤ 256
  sorted : Sorted d.files
  names : ∀ f ∈ d.files, nameOk f.name = true
  vol : ¬ d.space < W (sumV d.files)
  dur : ¬ d.space < W (sumD d.files)
theorem good_iff {d : Disk} : checkR d = 0 ↔ Good d := by
  constructor
  · intro h
    have hs := chkL_sorted _ _ (checkR_chkL h)
    refine ⟨?_, checkR_len h, hs.1, hs.2.1, (checkR_over h).1, (checkR_over h).2⟩
    unfold checkR at h
    split at h
    · cases h
    · rename_i hb; simpa using hb
  · intro h
    unfold checkR
    rw [h.sp, if_neg (by simp), if_neg (by have := h.len; omega), if_pos (chkL_of _ _ h.sorted h.names (by simp)), overB]
    simp [h.vol, h.dur]

theorem fitR_ok {d : Disk} : (fitR d).2 = 0 → (fitR d).1 = d ∧ d.files.length ≤ 256 ∧ ¬ d.space < W (sumV d.files) ∧ ¬ d.space < W (sumD d.files) := by
  unfold fitR
  split
  · intro h; cases h
  · rename_i h1
    split
    · intro h; cases h
    · rename_i h2
      intro _
      simp only [overB, Bool.or_eq_true, decide_eq_true_eq, not_or] at h2
      exact ⟨rfl, by omega, h2.1, h2.2⟩
theorem fitR_err (d : Disk) : (fitR d).2 = 0 ∨ (fitR d).2 = 27 ∨ ((fitR d).2 = 5 ∧ 256 < d.files.length) := by
  unfold fitR
  split
  · rename_i h; exact .inr (.inr ⟨rfl, by omega⟩)
  · split
    · exact .inr (.inl rfl)
    · exact .inl rfl
theorem namedR_good {d : Disk} (h : checkR d = 0) (s : List UInt8) : namedR d s = if nameOk s = true then 0 else 8 := by rw [namedR, if_pos h]

/-- The files with one of them written. -/
def putL (fs : List File) (f : File) : List File := if foundAt fs f.name (lb fs f.name) = true then fs.set (lb fs f.name) f else insAt fs (lb fs f.name) f
theorem insAt_sorted {fs : List File} (hs : Sorted fs) (f : File) (hf : ¬ foundAt fs f.name (lb fs f.name) = true) : Sorted (insAt fs (lb fs f.name) f) := by
  have h1 : ∀ g ∈ fs.take (lb fs f.name), Op.bytesLess g.name f.name = true := fun g hg => by rw [← tw_take] at hg; exact tw_mem (p := (lessF · f.name)) hg
  have h2 : ∀ g ∈ fs.drop (lb fs f.name), Op.bytesLess f.name g.name = true := fun g hg => by
    rcases Nat.lt_or_ge (lb fs f.name) fs.length with h | h
    · rw [List.drop_eq_getElem_cons h] at hg
      rcases List.mem_cons.1 hg with rfl | hg
      · have hl := lb_head h
        have hne : fs[lb fs f.name].name ≠ f.name := by rw [foundAt_iff _ _ _ h] at hf; simpa using hf
        exact bl_total _ _ hl hne
      · exact drop_gt hs h g hg
    · rw [List.drop_eq_nil_of_le h] at hg; cases hg
  unfold insAt
  refine List.pairwise_append.2 ⟨List.Pairwise.sublist (List.take_sublist _ _) hs, List.pairwise_cons.2 ⟨h2, hs.drop _⟩, fun a ha b hb => ?_⟩
  rcases List.mem_cons.1 hb with rfl | hb
  · exact h1 a ha
  · exact bl_trans _ _ _ (h1 a ha) (h2 b hb)
theorem set_sorted {fs : List File} (hs : Sorted fs) (i : Nat) (f : File) (h : i < fs.length) (hn : fs[i].name = f.name) : Sorted (fs.set i f) := by
  refine List.pairwise_iff_getElem.2 fun a b ha hb hab => ?_
  have ha' : a < fs.length := by simpa using ha
  have hb' : b < fs.length := by simpa using hb
  have hh := List.pairwise_iff_getElem.1 hs a b ha' hb' hab
  rw [List.getElem_set, List.getElem_set]
  split
  · rename_i e; subst e
    rw [if_neg (by omega), ← hn]; exact hh
  · split
    · rename_i e; subst e; rw [← hn]; exact hh
    · exact hh
theorem putL_sorted {fs : List File} (hs : Sorted fs) (f : File) : Sorted (putL fs f) := by
  unfold putL
  split
  · rename_i h
    have hlt := foundAt_lt h
    exact set_sorted hs _ f hlt (by rw [foundAt_iff _ _ _ hlt] at h; simpa using h)
  · rename_i h; exact insAt_sorted hs f h
theorem putL_self (fs : List File) (f : File) : (putL fs f)[lb fs f.name]? = some f := by
  unfold putL
  split
  · rename_i h; rw [List.getElem?_set_self (foundAt_lt h)]
  · have := lb_le fs f.name
    rw [insAt, List.getElem?_append_right (by simp; omega)]
    simp [Nat.min_eq_left this]
theorem putL_mem {fs : List File} {f g : File} (hg : g ∈ fs) (hn : g.name ≠ f.name) : g ∈ putL fs f := by
  unfold putL
  split
  · rename_i h
    have hlt := foundAt_lt h
    obtain ⟨i, hi⟩ := List.mem_iff_getElem?.1 hg
    refine List.mem_iff_getElem?.2 ⟨i, ?_⟩
    rw [List.getElem?_set_ne ?_]
    · exact hi
    · intro e
      subst e
      rw [List.getElem?_eq_getElem hlt] at hi
      rw [foundAt_iff _ _ _ hlt] at h
      cases hi
      simp at h
      exact hn h
  · rw [insAt]
    rw [← List.take_append_drop (lb fs f.name) fs] at hg
    rcases List.mem_append.1 hg with h | h
    · exact List.mem_append_left _ h
    · exact List.mem_append_right _ (List.mem_cons_of_mem _ h)
theorem mem_putL {fs : List File} {f g : File} (hg : g ∈ putL fs f) : g = f ∨ g ∈ fs := by
  unfold putL at hg
  split at hg
  · rcases List.mem_or_eq_of_mem_set hg with h | h
    · exact .inr h
    · exact .inl h
  · rw [insAt] at hg
    rcases List.mem_append.1 hg with h | h
    · exact .inr (List.mem_of_mem_take h)
    · rcases List.mem_cons.1 h with h | h
      · exact .inl h
      · exact .inr (List.mem_of_mem_drop h)
theorem putR_putL {d : Disk} (hs : Sorted d.files) (f : File) : putR d f = ⟨putL d.files f, d.space⟩ := putR_sorted hs f
theorem old_name {d : Disk} (hs : Sorted d.files) (s : List UInt8) : (oldR d s).name = s := by
  rw [oldR_found hs]
  split
  · rename_i h
    have hlt := foundAt_lt h
    rw [List.getElem?_eq_getElem hlt, Option.getD_some]
    rw [foundAt_iff _ _ _ hlt] at h
    simpa using h
  · rfl
theorem readR_good {d : Disk} (h : Good d) {s : List UInt8} (hn : nameOk s = true) {i : Nat} {x : File} (hx : d.files[i]? = some x) (hxn : x.name = s) : readR d s = (x.vol, 0) := by
  subst hxn
  have := findR_sorted h.sorted hx
  rw [readR, namedR_good (good_iff.2 h), if_pos hn, if_pos rfl, this]
  simp [hx]

theorem readR_some {d : Disk} {s : List UInt8} (h : (readR d s).2 = 0) : ∃ i, findR d.files s 0 = some i := by
  unfold readR at h
  split at h
  · split at h
    · cases h
    · rename_i i hi; exact ⟨i, hi⟩
  · rename_i hne; exact absurd h hne

/-- What writing gives. -/
theorem changed_good {d : Disk} (h : Good d) {s : List UInt8} {g : List UInt8 → List UInt8} (hok : (changedR d s g).2 = 0) :
    nameOk s = true ∧ ∃ f : File, f.name = s ∧ f.vol = g (oldR d s).vol ∧ f.dur = (oldR d s).dur ∧ (changedR d s g).1 = ⟨putL d.files f, d.space⟩ ∧ Good ⟨putL d.files f, d.space⟩ := by
  rw [changed_law] at hok ⊢
  rw [namedR_good (good_iff.2 h)] at hok ⊢
  by_cases hn : nameOk s = true
  · rw [if_pos hn, if_pos rfl] at hok ⊢
    refine ⟨hn, { oldR d s with vol := g (oldR d s).vol }, old_name h.sorted s, rfl, rfl, ?_⟩
    rw [putR_putL h.sorted] at hok ⊢
    obtain ⟨e1, e2, e3, e4⟩ := fitR_ok hok
    refine ⟨e1, h.sp, e2, putL_sorted h.sorted _, fun f hf => ?_, e3, e4⟩
    rcases mem_putL hf with rfl | hf
    · simpa [old_name h.sorted s] using hn
    · exact h.names f hf
  · rw [if_neg hn] at hok
    simp at hok
theorem changed_err {d : Disk} (h : Good d) (s : List UInt8) (g : List UInt8 → List UInt8) : (changedR d s g).2 = 0 ∨ (changedR d s g).2 = 8 ∨ (changedR d s g).2 = 27 ∨ (changedR d s g).2 = 5 := by
  rw [changed_law, namedR_good (good_iff.2 h)]
  by_cases hn : nameOk s = true
  · rw [if_pos hn, if_pos rfl]
    rcases fitR_err (putR d { oldR d s with vol := g (oldR d s).vol }) with h | h | h
    · exact .inl h
    · exact .inr (.inr (.inl h))
    · exact .inr (.inr (.inr h.1))
  · rw [if_neg hn, if_neg (by decide)]
    exact .inr (.inl rfl)
theorem putL_len {fs : List File} {f : File} (h : foundAt fs f.name (lb fs f.name) = true) : (putL fs f).length = fs.length := by rw [putL, if_pos h, List.length_set]
theorem found_of {fs : List File} (hs : Sorted fs) {x : File} (hx : x ∈ fs) : foundAt fs x.name (lb fs x.name) = true := by
  obtain ⟨i, _, _, hf⟩ := findR_mem hs hx
  have := placeAV ⟨fs, 0⟩ x.name hs
  rw [hf] at this
  split at this
  · assumption
  · cases this
theorem oldR_mem {d : Disk} (hs : Sorted d.files) {x : File} (hx : x ∈ d.files) : oldR d x.name = x := by
  obtain ⟨i, _, hi, hf⟩ := findR_mem hs hx
  rw [oldR, hf]
  simp [hi]
/-- A file that is there can be written, space apart. -/
theorem changed_err_found {d : Disk} (h : Good d) {x : File} (hx : x ∈ d.files) (g : List UInt8 → List UInt8) : (changedR d x.name g).2 = 0 ∨ (changedR d x.name g).2 = 27 := by
  rw [changed_law, namedR_good (good_iff.2 h), if_pos (h.names x hx), if_pos rfl]
  rcases fitR_err (putR d { oldR d x.name with vol := g (oldR d x.name).vol }) with h1 | h1 | h1
  · exact .inl h1
  · exact .inr h1
  · exfalso
    rw [putR_putL h.sorted] at h1
    have h2 := h1.2
    simp only at h2
    rw [putL_len (by rw [show ({ oldR d x.name with vol := g (oldR d x.name).vol } : File).name = x.name from old_name h.sorted _]; exact found_of h.sorted hx)] at h2
    have := h.len
    omega

/-- The statement on writing and appending. -/
theorem keeps_law {d : Disk} (h : Good d) {s a b : List UInt8} (hok : (changedR d s (wrG a)).2 = 0) :
    readR (changedR d s (wrG a)).1 s = (a, 0) ∧ checkR (changedR d s (wrG a)).1 = 0 ∧
    (∀ x ∈ (changedR d s (wrG a)).1.files, x.vol = a ∨ x ∈ d.files) ∧
    (∀ x ∈ d.files, x.name ≠ s → ∃ i, i < (changedR d s (wrG a)).1.files.length ∧ (changedR d s (wrG a)).1.files[i]? = some x ∧ findR (changedR d s (wrG a)).1.files x.name 0 = some i) ∧
    ((changedR (changedR d s (wrG a)).1 s (apG b)).2 = 27 ∨ (changedR (changedR d s (wrG a)).1 s (apG b)).2 = 0 ∧ readR (changedR (changedR d s (wrG a)).1 s (apG b)).1 s = (a ++ b, 0) ∧
      (changedR (changedR d s (wrG a)).1 s (apG b)).1.files.length = (changedR d s (wrG a)).1.files.length) := by
  obtain ⟨hn, f, hf1, hf2, _, e, hg⟩ := changed_good h hok
  rw [e]
  have hself := putL_self d.files f
  have hmem : f ∈ putL d.files f := List.mem_of_getElem? hself
  refine ⟨?_, good_iff.2 hg, fun x hx => (mem_putL hx).imp_left (fun e => by rw [e, hf2]; rfl), fun x hx hne => ?_, ?_⟩
  · rw [readR_good hg hn hself hf1, hf2]; rfl
  · obtain ⟨i, h1, h2, h3⟩ := findR_mem hg.sorted (putL_mem hx (by rw [hf1]; exact hne))
    exact ⟨i, h1, h2, h3⟩
  · have hold := oldR_mem hg.sorted hmem
    rw [hf1] at hold
    rcases changed_err_found hg hmem (apG b) with h1 | h1
    · rw [hf1] at h1
      obtain ⟨_, f2, k1, k2, _, e2, hg2⟩ := changed_good hg h1
      have hfd : foundAt (putL d.files f) f2.name (lb (putL d.files f) f2.name) = true := by
        rw [k1, ← hf1]; exact found_of hg.sorted hmem
      refine .inr ⟨h1, ?_, ?_⟩
      · rw [e2, readR_good hg2 hn (putL_self _ f2) k1, k2, hold, hf2]; rfl
      · rw [e2]; exact putL_len hfd
    · rw [hf1] at h1; exact .inl h1

theorem afterR_suffix (f : File) (cs : List Int) : ∃ k, (afterR f cs).2 = cs.drop k := by
  have hd : ∀ (c : List Int) (n : Int), ∃ k, (decideR c n).2 = c.drop k := fun c n => by
    cases c with
    | nil => exact ⟨0, rfl⟩
    | cons x r => exact ⟨1, rfl⟩
  unfold afterR
  split
  · exact ⟨0, rfl⟩
  · obtain ⟨k, hk⟩ := hd cs 3
    simp only
    split
    · exact ⟨k, hk⟩
    · split
      · exact ⟨k, hk⟩
      · split
        · exact ⟨k, hk⟩
        · obtain ⟨k2, hk2⟩ := hd (decideR cs 3).2 f.vol.length
          exact ⟨k + k2, by rw [hk2, hk, List.drop_drop]⟩
theorem crashF_suffix (fs : List File) (cs : List Int) : ∃ k, (crashF fs cs).2 = cs.drop k := by
  have key : ∀ (l : List File) (st : List File × List Int), (∃ k, st.2 = cs.drop k) → ∃ k, (l.foldl crashStep st).2 = cs.drop k := by
    intro l
    induction l with
    | nil => intro st h; exact h
    | cons g l ih =>
      intro st ⟨k, hk⟩
      rw [List.foldl_cons]
      obtain ⟨k2, hk2⟩ := afterR_suffix g st.2
      exact ih _ ⟨k + k2, by rw [crashStep]; simp only; rw [hk2, hk, List.drop_drop]⟩
  exact key fs ([], cs) ⟨0, rfl⟩
theorem drop_self {α : Type} (l : List α) (k : Nat) : l.drop (l.length - (l.drop k).length) = l.drop k := by
  rcases Nat.le_total k l.length with h | h
  · rw [List.length_drop]; congr 1; omega
  · rw [List.drop_eq_nil_of_le h]; simp
theorem crashF_get : ∀ (fs : List File) (out : List File) (cs : List Int) (i : Nat) (x : File), fs[i]? = some x → ∃ cs', (fs.foldl crashStep (out, cs)).1[out.length + i]? = some ⟨x.name, (afterR x cs').1, (afterR x cs').1⟩
  | [], _, _, _, _, h => by simp at h
  | f :: fs, out, cs, i, x, h => by
    rw [List.foldl_cons]
    rcases i with _ | i
    · simp only [List.getElem?_cons_zero, Option.some.injEq] at h
      subst h
      refine ⟨cs, ?_⟩
      have key : ∀ (l : List File) (st : List File × List Int) (j : Nat) (y : File), st.1[j]? = some y → (l.foldl crashStep st).1[j]? = some y := by
        intro l
        induction l with
        | nil => intro st j y h; exact h
        | cons g l ih =>
          intro st j y h
          rw [List.foldl_cons]
          refine ih _ j y ?_
          rw [crashStep]; simp only
          rw [List.getElem?_append_left (List.getElem?_eq_some_iff.1 h).1]; exact h
      exact key fs _ _ _ (by simp [crashStep])
    · obtain ⟨cs', hc⟩ := crashF_get fs (out ++ [⟨f.name, (afterR f cs).1, (afterR f cs).1⟩]) (afterR f cs).2 i x (by simpa using h)
      refine ⟨cs', ?_⟩
      simp only [List.length_append, List.length_singleton] at hc
      rw [show out.length + (i + 1) = out.length + 1 + i by omega]
      exact hc
theorem afterR_content (f : File) (cs : List Int) : ((afterR f cs).1 = f.dur ∨ (afterR f cs).1.isPrefixOf f.vol = true) ∧ (f.dur = f.vol → (afterR f cs).1 = f.dur) := by
  unfold afterR
  split
  · exact ⟨.inl rfl, fun _ => rfl⟩
  · rename_i hne
    refine ⟨?_, fun e => absurd e hne⟩
    simp only
    split
    · exact .inl rfl
    · split
      · exact .inr (by rw [List.isPrefixOf_iff_prefix]; exact List.prefix_refl _)
      · split
        · exact .inr (by simp)
        · exact .inr (by rw [List.isPrefixOf_iff_prefix]; exact List.take_prefix _ _)
theorem crashF_same {fs : List File} (h : ∀ f ∈ fs, f.dur = f.vol) (out : List File) (cs : List Int) : fs.foldl crashStep (out, cs) = (out ++ fs, cs) := by
  induction fs generalizing out with
  | nil => simp
  | cons f fs ih =>
    have hf := h f (by simp)
    have : crashStep (out, cs) f = (out ++ [f], cs) := by
      have ha : afterR f cs = (f.dur, cs) := by rw [afterR, if_pos hf]
      rw [crashStep]
      simp only [ha]
      cases f
      simp only at hf
      subst hf
      rfl
    rw [List.foldl_cons, this, ih (fun g hg => h g (by simp [hg]))]
    simp
theorem crashF_names (fs : List File) (cs : List Int) : (crashF fs cs).1.map (·.name) = fs.map (·.name) := by
  refine List.ext_getElem? fun i => ?_
  rw [List.getElem?_map, List.getElem?_map]
  cases hx : fs[i]? with
  | none =>
    have := crashF_len fs cs
    rw [List.getElem?_eq_none (by have := List.getElem?_eq_none_iff.1 hx; omega)]
  | some x =>
    obtain ⟨cs', hc⟩ := crashF_get fs [] cs i x hx
    simp only [List.length_nil, Nat.zero_add] at hc
    rw [crashF, hc]; rfl
theorem sorted_names {fs gs : List File} (h : fs.map (·.name) = gs.map (·.name)) (hs : Sorted gs) : Sorted fs := by
  have h1 : (fs.map (·.name)).Pairwise (fun a b => Op.bytesLess a b = true) := by rw [h]; exact List.pairwise_map.2 hs
  exact List.pairwise_map.1 h1
theorem names_ok {fs gs : List File} (h : fs.map (·.name) = gs.map (·.name)) (hs : ∀ f ∈ gs, nameOk f.name = true) : ∀ f ∈ fs, nameOk f.name = true := fun f hf => by
  have : f.name ∈ gs.map (·.name) := by rw [← h]; exact List.mem_map.2 ⟨f, hf, rfl⟩
  obtain ⟨g, hg, e⟩ := List.mem_map.1 this
  rw [← e]; exact hs g hg
/-- The statement on crashes. -/
theorem crash_good {d : Disk} (h : Good d) (cs : List Int) : (crashR d cs).2.2 = 27 ∨ (crashR d cs).2.2 = 0 ∧ (crashR d cs).1 = ⟨(crashF d.files cs).1, d.space⟩ ∧ (crashR d cs).2.1 = (crashF d.files cs).2 ∧ Good ⟨(crashF d.files cs).1, d.space⟩ := by
  rw [crashR, if_pos (good_iff.2 h)]
  simp only
  have hlen := crashF_len d.files cs
  rcases fitR_err ⟨(crashF d.files cs).1, d.space⟩ with h1 | h1 | h1
  · rw [if_pos h1]
    obtain ⟨e1, e2, e3, e4⟩ := fitR_ok h1
    exact .inr ⟨rfl, e1, rfl, h.sp, e2, sorted_names (crashF_names _ _) h.sorted, names_ok (crashF_names _ _) h.names, e3, e4⟩
  · rw [if_neg (by rw [h1]; decide)]
    exact .inl h1
  · exfalso
    have := h1.2
    simp only at this
    have := h.len
    omega
theorem crash_again {d : Disk} (h : Good d) (hs : ∀ f ∈ d.files, f.dur = f.vol) (cs : List Int) : crashR d cs = (d, cs, 0) := by
  have hf : crashF d.files cs = (d.files, cs) := by rw [crashF, crashF_same hs]; rfl
  rcases crash_good h cs with h1 | ⟨h1, h2, h3, _⟩
  · exfalso
    rw [crashR, if_pos (good_iff.2 h), hf] at h1
    simp only at h1
    have hfit : fitR d = (d, 0) := by
      rw [fitR, if_neg (by have := h.len; omega), overB]
      simp [h.vol, h.dur]
    rw [show (⟨d.files, d.space⟩ : Disk) = d from rfl, hfit] at h1
    simp at h1
  · rw [hf] at h2 h3
    have : crashR d cs = ((crashR d cs).1, (crashR d cs).2.1, (crashR d cs).2.2) := rfl
    rw [this, h1, h2, h3]
theorem crashF_durvol (fs : List File) (cs : List Int) : ∀ f ∈ (crashF fs cs).1, f.dur = f.vol := fun f hf => by
  obtain ⟨i, hi⟩ := List.mem_iff_getElem?.1 hf
  have hlt : i < fs.length := by have := (List.getElem?_eq_some_iff.1 hi).1; rw [crashF_len] at this; exact this
  obtain ⟨cs', hc⟩ := crashF_get fs [] cs i fs[i] (by simp [hlt])
  simp only [List.length_nil, Nat.zero_add] at hc
  rw [crashF, hc] at hi
  cases hi; rfl
end Go.Abs
set_option maxRecDepth 100000
namespace Go.Abs
open Go Go.Proofs
set_option linter.unusedSimpArgs false
attribute [local irreducible] changedR renamePR removePR syncPR crashR checkR readR few

@[simp] theorem eq52 (a b c a' b' c' : List UInt8) : eqA T 9 52 (.agg [.str a, .str b, .str c]) (.agg [.str a', .str b', .str c']) = some (.and (a == a') (.and (b == b') (.and (c == c') true))) := rfl
def smallB (d : Disk) : Bool := few d && (decide ((d.files.length : Int) ≤ 20) && checkR d == 0)
theorem smallB_good {d : Disk} (h : smallB d = true) : Good d ∧ d.files.length ≤ 20 := by
  simp only [smallB, Bool.and_eq_true, decide_eq_true_eq, beq_iff_eq] at h
  exact ⟨good_iff.1 h.2.2, by omega⟩
theorem pc27' (d : Disk) : PC Tryd.prog 27 [encD d] (fun r => r = .bool (smallB d)) := pc27 d
attribute [irreducible] smallB
theorem W_small {m n : Nat} {b : Int} (hb : n ≤ 140737488355328 * 140737488355328) (h : ¬ b < W (n : Int)) : True := trivial

set_option maxHeartbeats 4000000 in
theorem pc6 (d : Disk) (s a b : List UInt8) (hd : DB d) (hs : s.length ≤ 140737488355328) (ha : a.length ≤ 140737488355328) (hb : b.length ≤ 140737488355328) : PC Tryd.prog 6 [encD d, .str s, .agg [.str a, .str b]] (fun r => r = .bool true) := by
  refine PC_body tOk Tryd.func6 rfl Tryd.results6 rfl (by simp [Tryd.ntmps6]) ?_
  rw [Tryd.ntmps6]
  simp only [argSlots]
  simp only [encD]
  repeat (first
    | (refine AWP_seq (AWP_regS tOk rfl ?_); simp)
    | (refine AWP_regS tOk rfl ?_; simp)
    | (refine AWP_skip ?_; simp)
    | (refine AWP_exit ?_; simp)
    | (refine AWP_ret ?_; simp)
    | refine AWP_block ?_
    | refine AWP_seq ?_)
  refine AStep_PC rfl rfl (by simp) (pc27' d) rfl ?_
  rintro _ rfl
  simp
  repeat (first
    | (refine AWP_seq (AWP_regS tOk rfl ?_); simp)
    | (refine AWP_regS tOk rfl ?_; simp)
    | (refine AWP_skip ?_; simp)
    | (refine AWP_exit ?_; simp)
    | (refine AWP_ret ?_; simp)
    | refine AWP_block ?_
    | refine AWP_seq ?_)
  refine AWP_cond2 rfl (fun h => ?_) (fun h => ?_)
  · repeat (first
      | (refine AWP_seq (AWP_regS tOk rfl ?_); simp)
      | (refine AWP_regS tOk rfl ?_; simp)
      | (refine AWP_skip ?_; simp)
      | (refine AWP_exit ?_; simp)
      | (refine AWP_ret ?_; simp)
      | refine AWP_block ?_
      | refine AWP_seq ?_)
    refine AStep_PC rfl rfl (by simp) (pc12) rfl ?_
    rintro _ rfl
    simp
    repeat (first
      | (refine AWP_seq (AWP_regS tOk rfl ?_); simp)
      | (refine AWP_regS tOk rfl ?_; simp)
      | (refine AWP_skip ?_; simp)
      | (refine AWP_exit ?_; simp)
      | (refine AWP_ret ?_; simp)
      | refine AWP_block ?_
      | refine AWP_seq ?_)
  simp only [Bool.or_eq_false_iff, Bool.not_eq_false', decide_eq_false_iff_not] at h
  obtain ⟨⟨hsm, _⟩, _⟩ := h
  obtain ⟨hg, hl20⟩ := smallB_good hsm
  refine AWP_keep (sl' := [(1, .str s), (3, .vptr 0 0), (5, .vptr 1 0), (6, .bool false)]) ?_ (by simp)
  repeat (first
    | (refine AWP_seq (AWP_regS tOk rfl ?_); simp)
    | (refine AWP_regS tOk rfl ?_; simp)
    | (refine AWP_skip ?_; simp)
    | (refine AWP_exit ?_; simp)
    | (refine AWP_ret ?_; simp)
    | refine AWP_block ?_
    | refine AWP_seq ?_)
  refine AStep_PC rfl rfl (by simp) (pc13 d s a) rfl ?_
  rintro _ rfl
  simp
  repeat (first
    | (refine AWP_seq (AWP_regS tOk rfl ?_); simp)
    | (refine AWP_regS tOk rfl ?_; simp)
    | (refine AWP_skip ?_; simp)
    | (refine AWP_exit ?_; simp)
    | (refine AWP_ret ?_; simp)
    | refine AWP_block ?_
    | refine AWP_seq ?_)
  by_cases hok : (changedR d s (wrG a)).2 = 0
  · obtain ⟨k1, k2, k5, k3, k4⟩ := keeps_law (b := b) hg hok
    generalize hA : (changedR d s (wrG a)).1 = A at k1 k2 k3 k4 k5
    have hAv : ∀ x ∈ A.files, x.vol.length ≤ 140737488355328 := fun x hx => by
      rcases k5 x hx with e | e
      · rw [e]; exact ha
      · exact hd.vol x e
    rw [hok]
    refine AWP_cond rfl ?_
    repeat (first
      | (refine AWP_seq (AWP_regS tOk rfl ?_); simp)
      | (refine AWP_regS tOk rfl ?_; simp)
      | (refine AWP_skip ?_; simp)
      | (refine AWP_exit ?_; simp)
      | (refine AWP_ret ?_; simp)
      | refine AWP_block ?_
      | refine AWP_seq ?_)
    refine AStep_PC rfl rfl (by simp) (pc21 A s) rfl ?_
    rintro _ rfl
    simp
    rw [k1]
    repeat (first
      | (refine AWP_seq (AWP_regS tOk rfl ?_); simp)
      | (refine AWP_regS tOk rfl ?_; simp)
      | (refine AWP_skip ?_; simp)
      | (refine AWP_exit ?_; simp)
      | (refine AWP_ret ?_; simp)
      | refine AWP_block ?_
      | refine AWP_seq ?_)
    refine AStep_PC (by simp) rfl (by simp) (pc25 A) rfl ?_
    rintro _ rfl
    rw [k2]
    simp
    refine AWP_cond rfl ?_
    repeat (first
      | (refine AWP_seq (AWP_regS tOk rfl ?_); simp)
      | (refine AWP_regS tOk rfl ?_; simp)
      | (refine AWP_skip ?_; simp)
      | (refine AWP_exit ?_; simp)
      | (refine AWP_ret ?_; simp)
      | refine AWP_block ?_
      | refine AWP_seq ?_)
    refine AWP_count d.files.length (fun j => [(1, .str s), (5, .vptr 1 0), (6, .bool false), (7, .vptr 2 0), (81, .list (d.files.map encF)), (82, .i d.files.length), (83, .i j)]) (fun _ => [.vars [.list (d.files.map encF), .i d.space], .vars [.str a, .str b], .vars [.list (A.files.map encF), .i A.space]]) rfl (by simp) (by simp) (by simp) (by simp) ?_
    intro j hj ih
    repeat (first
      | (refine AWP_seq (AWP_regS tOk rfl ?_); simp)
      | (refine AWP_regS tOk rfl ?_; simp)
      | (refine AWP_skip ?_; simp)
      | (refine AWP_exit ?_; simp)
      | (refine AWP_ret ?_; simp)
      | refine AWP_block ?_
      | refine AWP_seq ?_)
    refine AWP_cond2 rfl (fun hlt => ?_) (fun hge => ?_)
    · have hlt' : j < d.files.length := by simpa using hlt
      repeat (first
        | (refine AWP_seq (AWP_regS tOk rfl ?_); simp [hlt'])
        | (refine AWP_regS tOk rfl ?_; simp [hlt'])
        | (refine AWP_skip ?_; simp [hlt'])
        | (refine AWP_exit ?_; simp [hlt'])
        | (refine AWP_ret ?_; simp [hlt'])
        | refine AWP_block ?_
        | refine AWP_seq ?_)
      refine AStep_PC rfl rfl (by simp) (pc23 A d.files[j].name) rfl ?_
      rintro _ rfl
      simp
      by_cases hn : d.files[j].name = s
      · obtain ⟨i, hfd⟩ := readR_some (show (readR A s).2 = 0 by rw [k1])
        have hi := findR_lt hfd
        rw [hn, hfd]
        simp only [findAV]
        repeat (first
          | (refine AWP_seq (AWP_regS tOk rfl ?_); simp)
          | (refine AWP_regS tOk rfl ?_; simp)
          | (refine AWP_skip ?_; simp)
          | (refine AWP_exit ?_; simp)
          | (refine AWP_ret ?_; simp)
          | refine AWP_block ?_
          | refine AWP_seq ?_)
        refine AWP_draw tOk mixed [] [0, 1, 2, 3, 4, 5, 6, 7, 8, 9, 10, 11, 12, 13, 14, 15, 16, 17, 18, 19, 20, 21, 22, 23] rfl (by kernel_rfl) ?_
        simp [hn, hi]
        refine AWP_cond (b := false) (by simp) ?_
        repeat (first
          | (refine AWP_seq (AWP_regS tOk rfl ?_); simp)
          | (refine AWP_regS tOk rfl ?_; simp)
          | (refine AWP_skip ?_; simp)
          | (refine AWP_exit ?_; simp)
          | (refine AWP_ret ?_; simp)
          | refine AWP_block ?_
          | refine AWP_seq ?_)
        refine ALoop_end _ (ih hlt') rfl (by simp) ?_ (by simp) (by simp)
        simp
        exact wrap_i64 _ (by omega) (by omega)
      · obtain ⟨i, g1, g2, g3⟩ := k3 d.files[j] (List.getElem_mem hlt') hn
        rw [g3]
        simp only [findAV]
        repeat (first
          | (refine AWP_seq (AWP_regS tOk rfl ?_); simp)
          | (refine AWP_regS tOk rfl ?_; simp)
          | (refine AWP_skip ?_; simp)
          | (refine AWP_exit ?_; simp)
          | (refine AWP_ret ?_; simp)
          | refine AWP_block ?_
          | refine AWP_seq ?_)
        have gi : A.files[i] = d.files[j] := by rw [List.getElem?_eq_getElem g1] at g2; exact Option.some.inj g2
        have hnl : ¬ (A.files.length : Int) ≤ i := by omega
        have g1' : (i : Int) < A.files.length := by omega
        refine AWP_draw tOk mixed [] [0, 1, 2, 3, 4, 5, 6, 7, 8, 9, 10, 11, 12, 13, 14, 15, 16, 17, 18, 19, 20, 21, 22, 23] rfl (by kernel_rfl) ?_
        simp [hn, hnl, g1, gi]
        refine AWP_cond (b := false) (by simp) ?_
        repeat (first
          | (refine AWP_seq (AWP_regS tOk rfl ?_); simp)
          | (refine AWP_regS tOk rfl ?_; simp)
          | (refine AWP_skip ?_; simp)
          | (refine AWP_exit ?_; simp)
          | (refine AWP_ret ?_; simp)
          | refine AWP_block ?_
          | refine AWP_seq ?_)
        refine ALoop_end _ (ih hlt') rfl (by simp) ?_ (by simp) (by simp)
        simp
        exact wrap_i64 _ (by omega) (by omega)
    · have hge' : j = d.files.length := by simp at hge; omega
      subst hge'
      repeat (first
        | (refine AWP_seq (AWP_regS tOk rfl ?_); simp)
        | (refine AWP_regS tOk rfl ?_; simp)
        | (refine AWP_skip ?_; simp)
        | (refine AWP_exit ?_; simp)
        | (refine AWP_ret ?_; simp)
        | refine AWP_block ?_
        | refine AWP_seq ?_)
      refine AStep_PC rfl rfl (by simp) (pc15 A s b (fun x hx => by have := hAv x hx; omega) (by omega)) rfl ?_
      rintro _ rfl
      simp
      repeat (first
        | (refine AWP_seq (AWP_regS tOk rfl ?_); simp)
        | (refine AWP_regS tOk rfl ?_; simp)
        | (refine AWP_skip ?_; simp)
        | (refine AWP_exit ?_; simp)
        | (refine AWP_ret ?_; simp)
        | refine AWP_block ?_
        | refine AWP_seq ?_)
      rcases k4 with k4 | ⟨k4, k6, k7⟩
      · rw [k4]
        refine AWP_cond rfl ?_
        repeat (first
          | (refine AWP_seq (AWP_regS tOk rfl ?_); simp)
          | (refine AWP_regS tOk rfl ?_; simp)
          | (refine AWP_skip ?_; simp)
          | (refine AWP_exit ?_; simp)
          | (refine AWP_ret ?_; simp)
          | refine AWP_block ?_
          | refine AWP_seq ?_)
        refine AStep_PC rfl rfl (by simp) (pc12) rfl ?_
        rintro _ rfl
        simp
        repeat (first
          | (refine AWP_seq (AWP_regS tOk rfl ?_); simp)
          | (refine AWP_regS tOk rfl ?_; simp)
          | (refine AWP_skip ?_; simp)
          | (refine AWP_exit ?_; simp)
          | (refine AWP_ret ?_; simp)
          | refine AWP_block ?_
          | refine AWP_seq ?_)
      · rw [k4]
        refine AWP_cond rfl ?_
        repeat (first
          | (refine AWP_seq (AWP_regS tOk rfl ?_); simp)
          | (refine AWP_regS tOk rfl ?_; simp)
          | (refine AWP_skip ?_; simp)
          | (refine AWP_exit ?_; simp)
          | (refine AWP_ret ?_; simp)
          | refine AWP_block ?_
          | refine AWP_seq ?_)
        refine AStep_PC rfl rfl (by simp) (pc21 (changedR A s (apG b)).1 s) rfl ?_
        rintro _ rfl
        simp
        rw [k6]
        have hab : a.length + b.length ≤ 9223372036854775807 := by omega
        repeat (first
          | (refine AWP_seq (AWP_regS tOk rfl ?_); simp)
          | (refine AWP_regS tOk rfl ?_; simp)
          | (refine AWP_skip ?_; simp)
          | (refine AWP_exit ?_; simp)
          | (refine AWP_ret ?_; simp)
          | refine AWP_block ?_
          | refine AWP_seq ?_)
        refine AStep_PC rfl rfl (by simp) (pc12) rfl ?_
        rintro _ rfl
        simp [hab, k7]
        repeat (first
          | (refine AWP_seq (AWP_regS tOk rfl ?_); simp)
          | (refine AWP_regS tOk rfl ?_; simp)
          | (refine AWP_skip ?_; simp)
          | (refine AWP_exit ?_; simp)
          | (refine AWP_ret ?_; simp)
          | refine AWP_block ?_
          | refine AWP_seq ?_)
  · rcases changed_err hg s (wrG a) with e | e | e | e
    · exact absurd e hok
    · rw [e]
      refine AWP_cond rfl ?_
      repeat (first
        | (refine AWP_seq (AWP_regS tOk rfl ?_); simp)
        | (refine AWP_regS tOk rfl ?_; simp)
        | (refine AWP_skip ?_; simp)
        | (refine AWP_exit ?_; simp)
        | (refine AWP_ret ?_; simp)
        | refine AWP_block ?_
        | refine AWP_seq ?_)
      refine AStep_PC rfl rfl (by simp) (pc12) rfl ?_
      rintro _ rfl
      simp
      repeat (first
        | (refine AWP_seq (AWP_regS tOk rfl ?_); simp)
        | (refine AWP_regS tOk rfl ?_; simp)
        | (refine AWP_skip ?_; simp)
        | (refine AWP_exit ?_; simp)
        | (refine AWP_ret ?_; simp)
        | refine AWP_block ?_
        | refine AWP_seq ?_)
    · rw [e]
      refine AWP_cond rfl ?_
      repeat (first
        | (refine AWP_seq (AWP_regS tOk rfl ?_); simp)
        | (refine AWP_regS tOk rfl ?_; simp)
        | (refine AWP_skip ?_; simp)
        | (refine AWP_exit ?_; simp)
        | (refine AWP_ret ?_; simp)
        | refine AWP_block ?_
        | refine AWP_seq ?_)
      refine AStep_PC rfl rfl (by simp) (pc12) rfl ?_
      rintro _ rfl
      simp
      repeat (first
        | (refine AWP_seq (AWP_regS tOk rfl ?_); simp)
        | (refine AWP_regS tOk rfl ?_; simp)
        | (refine AWP_skip ?_; simp)
        | (refine AWP_exit ?_; simp)
        | (refine AWP_ret ?_; simp)
        | refine AWP_block ?_
        | refine AWP_seq ?_)
    · rw [e]
      refine AWP_cond rfl ?_
      repeat (first
        | (refine AWP_seq (AWP_regS tOk rfl ?_); simp)
        | (refine AWP_regS tOk rfl ?_; simp)
        | (refine AWP_skip ?_; simp)
        | (refine AWP_exit ?_; simp)
        | (refine AWP_ret ?_; simp)
        | refine AWP_block ?_
        | refine AWP_seq ?_)
      refine AStep_PC rfl rfl (by simp) (pc12) rfl ?_
      rintro _ rfl
      simp
      repeat (first
        | (refine AWP_seq (AWP_regS tOk rfl ?_); simp)
        | (refine AWP_regS tOk rfl ?_; simp)
        | (refine AWP_skip ?_; simp)
        | (refine AWP_exit ?_; simp)
        | (refine AWP_ret ?_; simp)
        | refine AWP_block ?_
        | refine AWP_seq ?_)
end Go.Abs
set_option maxRecDepth 100000
namespace Go.Abs
open Go Go.Proofs
set_option linter.unusedSimpArgs false
attribute [local irreducible] changedR renamePR removePR syncPR crashR checkR readR few

theorem crash_facts {d : Disk} (h : Good d) (cs : List Int) (hok : (crashR d cs).2.2 = 0) : ∃ (fs : List File) (k : Nat), k ≤ cs.length ∧ (crashR d cs).1 = ⟨fs, d.space⟩ ∧ (crashR d cs).2.1 = cs.drop k ∧ fs.length = d.files.length ∧ Good ⟨fs, d.space⟩ ∧ (∀ f ∈ fs, f.dur = f.vol) ∧
    (∀ i, (hi : i < d.files.length) → ∃ c, fs[i]? = some ⟨d.files[i].name, c, c⟩ ∧ (c = d.files[i].dur ∨ c.isPrefixOf d.files[i].vol = true) ∧ (d.files[i].dur = d.files[i].vol → c = d.files[i].dur)) := by
  rcases crash_good h cs with h1 | ⟨_, h2, h3, h4⟩
  · rw [h1] at hok; cases hok
  · obtain ⟨k, hkl, hk⟩ : ∃ k, k ≤ cs.length ∧ (crashF d.files cs).2 = cs.drop k := by
      obtain ⟨k, hk⟩ := crashF_suffix d.files cs
      rcases Nat.le_total k cs.length with h | h
      · exact ⟨k, h, hk⟩
      · exact ⟨cs.length, Nat.le_refl _, by rw [hk, List.drop_eq_nil_of_le h, List.drop_eq_nil_of_le (Nat.le_refl _)]⟩
    refine ⟨_, k, hkl, h2, by rw [h3, hk], crashF_len _ _, h4, crashF_durvol _ _, fun i hi => ?_⟩
    obtain ⟨cs', hc⟩ := crashF_get d.files [] cs i d.files[i] (by simp [hi])
    simp only [List.length_nil, Nat.zero_add] at hc
    have := afterR_content d.files[i] cs'
    exact ⟨_, hc, this.1, this.2⟩

set_option maxHeartbeats 4000000 in
theorem pc8 (d : Disk) (cs os : List Int) (hd : DB d) : PC Tryd.prog 8 [encD d, .list (cs.map encI), .list (os.map encI)] (fun r => r = .bool true) := by
  refine PC_body tOk Tryd.func8 rfl Tryd.results8 rfl (by simp [Tryd.ntmps8]) ?_
  rw [Tryd.ntmps8]
  simp only [argSlots]
  simp only [encD]
  repeat (first
    | (refine AWP_seq (AWP_regS tOk rfl ?_); simp)
    | (refine AWP_regS tOk rfl ?_; simp)
    | (refine AWP_skip ?_; simp)
    | (refine AWP_exit ?_; simp)
    | (refine AWP_ret ?_; simp)
    | refine AWP_block ?_
    | refine AWP_seq ?_)
  refine AStep_PC rfl rfl (by simp) (pc27' d) rfl ?_
  rintro _ rfl
  simp
  repeat (first
    | (refine AWP_seq (AWP_regS tOk rfl ?_); simp)
    | (refine AWP_regS tOk rfl ?_; simp)
    | (refine AWP_skip ?_; simp)
    | (refine AWP_exit ?_; simp)
    | (refine AWP_ret ?_; simp)
    | refine AWP_block ?_
    | refine AWP_seq ?_)
  refine AWP_cond2 rfl (fun h => ?_) (fun h => ?_)
  · repeat (first
      | (refine AWP_seq (AWP_regS tOk rfl ?_); simp)
      | (refine AWP_regS tOk rfl ?_; simp)
      | (refine AWP_skip ?_; simp)
      | (refine AWP_exit ?_; simp)
      | (refine AWP_ret ?_; simp)
      | refine AWP_block ?_
      | refine AWP_seq ?_)
    refine AStep_PC rfl rfl (by simp) (pc12) rfl ?_
    rintro _ rfl
    simp
    repeat (first
      | (refine AWP_seq (AWP_regS tOk rfl ?_); simp)
      | (refine AWP_regS tOk rfl ?_; simp)
      | (refine AWP_skip ?_; simp)
      | (refine AWP_exit ?_; simp)
      | (refine AWP_ret ?_; simp)
      | refine AWP_block ?_
      | refine AWP_seq ?_)
  simp only [Bool.or_eq_false_iff, Bool.not_eq_false', decide_eq_false_iff_not] at h
  obtain ⟨⟨hsm, hc50⟩, ho50⟩ := h
  obtain ⟨hg, hl20⟩ := smallB_good hsm
  have hvb : VB d.files := fun f hf => by have := hd.vol f hf; omega
  refine AWP_keep (sl' := [(1, .list (cs.map encI)), (2, .list (os.map encI)), (3, .vptr 0 0), (6, .bool false)]) ?_ (by simp)
  repeat (first
    | (refine AWP_seq (AWP_regS tOk rfl ?_); simp)
    | (refine AWP_regS tOk rfl ?_; simp)
    | (refine AWP_skip ?_; simp)
    | (refine AWP_exit ?_; simp)
    | (refine AWP_ret ?_; simp)
    | refine AWP_block ?_
    | refine AWP_seq ?_)
  refine AStep_PC rfl rfl (by simp) (pc18 d hvb cs (by omega)) rfl ?_
  rintro _ rfl
  simp
  repeat (first
    | (refine AWP_seq (AWP_regS tOk rfl ?_); simp)
    | (refine AWP_regS tOk rfl ?_; simp)
    | (refine AWP_skip ?_; simp)
    | (refine AWP_exit ?_; simp)
    | (refine AWP_ret ?_; simp)
    | refine AWP_block ?_
    | refine AWP_seq ?_)
  rcases crash_good hg cs with he | he
  · rw [he]
    refine AWP_cond rfl ?_
    repeat (first
      | (refine AWP_seq (AWP_regS tOk rfl ?_); simp)
      | (refine AWP_regS tOk rfl ?_; simp)
      | (refine AWP_skip ?_; simp)
      | (refine AWP_exit ?_; simp)
      | (refine AWP_ret ?_; simp)
      | refine AWP_block ?_
      | refine AWP_seq ?_)
    refine AStep_PC rfl rfl (by simp) (pc12) rfl ?_
    rintro _ rfl
    simp
    repeat (first
      | (refine AWP_seq (AWP_regS tOk rfl ?_); simp)
      | (refine AWP_regS tOk rfl ?_; simp)
      | (refine AWP_skip ?_; simp)
      | (refine AWP_exit ?_; simp)
      | (refine AWP_ret ?_; simp)
      | refine AWP_block ?_
      | refine AWP_seq ?_)
  obtain ⟨fs, k, hkl, e1, e2, e3, e4, e5, e6⟩ := crash_facts hg cs he.1
  rw [he.1, e1, e2]
  refine AWP_cond rfl ?_
  have hwk : IntKind.i64.wrap ((cs.length : Int) - ((cs.length - k : Nat) : Int)) = k := by rw [wrap_i64 _ (by omega) (by omega)]; omega
  have hnl : ¬ cs.length < cs.length - k := by omega
  have hk0 : (k : Int) ≤ cs.length := by omega
  repeat (first
    | (refine AWP_seq (AWP_regS tOk rfl ?_); simp [hwk, hkl, e3, hnl])
    | (refine AWP_regS tOk rfl ?_; simp [hwk, hkl, e3, hnl])
    | (refine AWP_skip ?_; simp [hwk, hkl, e3, hnl])
    | (refine AWP_exit ?_; simp [hwk, hkl, e3, hnl])
    | (refine AWP_ret ?_; simp [hwk, hkl, e3, hnl])
    | refine AWP_block ?_
    | refine AWP_seq ?_)
  have hpc := pc20 (cs.drop k) (cs.drop k)
  rw [List.map_drop] at hpc
  refine AStep_PC (xs := [.list ((cs.map encI).drop k), .list ((cs.map encI).drop k)]) (by simp) rfl (by simp) hpc rfl ?_
  rintro _ rfl
  simp
  refine AWP_cond rfl ?_
  repeat (first
    | (refine AWP_seq (AWP_regS tOk rfl ?_); simp [e3])
    | (refine AWP_regS tOk rfl ?_; simp [e3])
    | (refine AWP_skip ?_; simp [e3])
    | (refine AWP_exit ?_; simp [e3])
    | (refine AWP_ret ?_; simp [e3])
    | refine AWP_block ?_
    | refine AWP_seq ?_)
  refine AWP_count d.files.length (fun j => [(2, .list (os.map encI)), (3, .vptr 0 0), (6, .bool false), (7, .vptr 1 0), (71, .list (d.files.map encF)), (72, .i d.files.length), (73, .i j)]) (fun _ => [.vars [.list (d.files.map encF), .i d.space], .vars [.list (fs.map encF), .i d.space]]) rfl (by simp) (by simp) (by simp) (by simp) ?_
  intro j hj ih
  repeat (first
    | (refine AWP_seq (AWP_regS tOk rfl ?_); simp)
    | (refine AWP_regS tOk rfl ?_; simp)
    | (refine AWP_skip ?_; simp)
    | (refine AWP_exit ?_; simp)
    | (refine AWP_ret ?_; simp)
    | refine AWP_block ?_
    | refine AWP_seq ?_)
  refine AWP_cond2 rfl (fun hlt => ?_) (fun hge => ?_)
  · have hlt' : j < d.files.length := by simpa using hlt
    obtain ⟨c, g1, g2, g3⟩ := e6 j hlt'
    have hjf : j < fs.length := by omega
    have gf : fs[j] = ⟨d.files[j].name, c, c⟩ := by rw [List.getElem?_eq_getElem hjf] at g1; exact Option.some.inj g1
    by_cases hc : c = d.files[j].dur
    · repeat (first
        | (refine AWP_seq (AWP_regS tOk rfl ?_); simp [hlt', hjf, gf, hc])
        | (refine AWP_regS tOk rfl ?_; simp [hlt', hjf, gf, hc])
        | (refine AWP_skip ?_; simp [hlt', hjf, gf, hc])
        | (refine AWP_exit ?_; simp [hlt', hjf, gf, hc])
        | (refine AWP_ret ?_; simp [hlt', hjf, gf, hc])
        | refine AWP_block ?_
        | refine AWP_seq ?_)
      refine AStep_skip (by simp) rfl ?_
      simp
      refine AWP_cond (b := false) (by simp) ?_
      repeat (first
        | (refine AWP_seq (AWP_regS tOk rfl ?_); simp)
        | (refine AWP_regS tOk rfl ?_; simp)
        | (refine AWP_skip ?_; simp)
        | (refine AWP_exit ?_; simp)
        | (refine AWP_ret ?_; simp)
        | refine AWP_block ?_
        | refine AWP_seq ?_)
      refine ALoop_end _ (ih hlt') rfl (by simp) ?_ (by simp) (by simp)
      simp
      exact wrap_i64 _ (by omega) (by omega)
    · have hp : c.isPrefixOf d.files[j].vol = true := by
        rcases g2 with g2 | g2
        · exact absurd g2 hc
        · exact g2
      have hdv : ¬ d.files[j].dur = d.files[j].vol := fun e => hc (g3 e)
      have hcb : (c == d.files[j].dur) = false := by simpa using hc
      have hdb : (d.files[j].dur == d.files[j].vol) = false := by simpa using hdv
      have hcl : c.length ≤ 9223372036854775807 := by
        have := (List.isPrefixOf_iff_prefix.1 hp).length_le
        have := hd.vol d.files[j] (List.getElem_mem hlt')
        omega
      repeat (first
        | (refine AWP_seq (AWP_regS tOk rfl ?_); simp [hlt', hjf, gf, hcb, hdb])
        | (refine AWP_regS tOk rfl ?_; simp [hlt', hjf, gf, hcb, hdb])
        | (refine AWP_skip ?_; simp [hlt', hjf, gf, hcb, hdb])
        | (refine AWP_exit ?_; simp [hlt', hjf, gf, hcb, hdb])
        | (refine AWP_ret ?_; simp [hlt', hjf, gf, hcb, hdb])
        | refine AWP_block ?_
        | refine AWP_seq ?_)
      refine AStep_PC (by simp) rfl (by simp) (pc30 d.files[j].vol c (by have := hd.vol d.files[j] (List.getElem_mem hlt'); omega) hcl) rfl ?_
      rintro _ rfl
      simp [hp, hcb, hdb]
      refine AWP_cond (b := false) (by simp) ?_
      repeat (first
        | (refine AWP_seq (AWP_regS tOk rfl ?_); simp)
        | (refine AWP_regS tOk rfl ?_; simp)
        | (refine AWP_skip ?_; simp)
        | (refine AWP_exit ?_; simp)
        | (refine AWP_ret ?_; simp)
        | refine AWP_block ?_
        | refine AWP_seq ?_)
      refine ALoop_end _ (ih hlt') rfl (by simp) ?_ (by simp) (by simp)
      simp
      exact wrap_i64 _ (by omega) (by omega)
  · have hge' : j = d.files.length := by simp at hge; omega
    subst hge'
    repeat (first
      | (refine AWP_seq (AWP_regS tOk rfl ?_); simp)
      | (refine AWP_regS tOk rfl ?_; simp)
      | (refine AWP_skip ?_; simp)
      | (refine AWP_exit ?_; simp)
      | (refine AWP_ret ?_; simp)
      | refine AWP_block ?_
      | refine AWP_seq ?_)
    have hvf : ∀ f ∈ fs, f.vol.length ≤ 140737488355328 := fun f hf => by
      obtain ⟨i, hi⟩ := List.mem_iff_getElem?.1 hf
      have hlt : i < d.files.length := by have := (List.getElem?_eq_some_iff.1 hi).1; omega
      obtain ⟨c, g1, g2, _⟩ := e6 i hlt
      rw [g1] at hi
      cases hi
      simp only
      rcases g2 with rfl | g2
      · exact hd.dur _ (List.getElem_mem hlt)
      · have := (List.isPrefixOf_iff_prefix.1 g2).length_le
        have := hd.vol d.files[i] (List.getElem_mem hlt)
        omega
    refine AStep_PC rfl rfl (by simp) (pc18 ⟨fs, d.space⟩ (fun f hf => by have := hvf f hf; omega) os (by omega)) rfl ?_
    rintro _ rfl
    simp
    rw [crash_again e4 e5]
    repeat (first
      | (refine AWP_seq (AWP_regS tOk rfl ?_); simp)
      | (refine AWP_regS tOk rfl ?_; simp)
      | (refine AWP_skip ?_; simp)
      | (refine AWP_exit ?_; simp)
      | (refine AWP_ret ?_; simp)
      | refine AWP_block ?_
      | refine AWP_seq ?_)
    refine AStep_PC rfl rfl (by simp) (pc12) rfl ?_
    rintro _ rfl
    simp
    repeat (first
      | (refine AWP_seq (AWP_regS tOk rfl ?_); simp)
      | (refine AWP_regS tOk rfl ?_; simp)
      | (refine AWP_skip ?_; simp)
      | (refine AWP_exit ?_; simp)
      | (refine AWP_ret ?_; simp)
      | refine AWP_block ?_
      | refine AWP_seq ?_)
    refine AStep_PC (by simp) rfl (by simp) (pc20 os os) rfl ?_
    rintro _ rfl
    simp
    refine AStep_PCflat rfl rfl (by first | (simp; done) | (simp; rfl)) (pc17 ⟨fs, d.space⟩ ⟨fs, d.space⟩) rfl ?_
    rintro _ rfl
    refine ⟨by simp, ?_⟩
    simp
    repeat (first
      | (refine AWP_seq (AWP_regS tOk rfl ?_); simp)
      | (refine AWP_regS tOk rfl ?_; simp)
      | (refine AWP_skip ?_; simp)
      | (refine AWP_exit ?_; simp)
      | (refine AWP_ret ?_; simp)
      | refine AWP_block ?_
      | refine AWP_seq ?_)
end Go.Abs
set_option maxRecDepth 100000
namespace Go.Abs
open Go Go.Proofs

theorem oldR_dur {d : Disk} {n : Nat} (h : ∀ f ∈ d.files, f.dur.length ≤ n) (s : List UInt8) : (oldR d s).dur.length ≤ n := by
  unfold oldR
  split
  · simp
  · rename_i i _
    cases hi : d.files[i]? with
    | none => simp
    | some f => simpa using h f (List.mem_of_getElem? hi)
theorem without_mem {d : Disk} {s : List UInt8} {x : File} : x ∈ (withoutR d s).files ↔ x ∈ d.files ∧ x.name ≠ s := by
  simp [withoutR]
theorem removeR_len {d : Disk} (h : Good d) {s : List UInt8} {i : Nat} (hf : findR d.files s 0 = some i) : (withoutR d s).files.length = d.files.length - 1 := by
  have hp := placeAV d s h.sorted
  rw [hf] at hp
  split at hp
  · rename_i hfd
    have hlt := foundAt_lt hfd
    have hd := drop_filter h.sorted s
    rw [if_pos hfd] at hd
    have : (withoutR d s).files = d.files.take (lb d.files s) ++ d.files.drop (lb d.files s + 1) := by
      show d.files.filter (fun g => g.name != s) = _
      conv => lhs; rw [← List.take_append_drop (lb d.files s) d.files]
      rw [List.filter_append, hd]
      congr 1
      exact List.filter_eq_self.2 fun g hg => by simpa using take_ne d.files s g hg
    rw [this]
    simp
    omega
  · cases hp
/-- The statement on removing and renaming. -/
theorem removes_law {d : Disk} (h : Good d) (s t : List UInt8) :
    (findR d.files s 0 = none ∧ ((removePR d s).2 = 8 ∨ (removePR d s).2 = 6) ∧ ((renamePR d s t).2 = 8 ∨ (renamePR d s t).2 = 6)) ∨
    ∃ (i : Nat) (x : File), findR d.files s 0 = some i ∧ d.files[i]? = some x ∧ i < d.files.length ∧ (removePR d s).2 = 0 ∧ findR (removePR d s).1.files s 0 = none ∧ (removePR d s).1.files.length = d.files.length - 1 ∧
      ((renamePR d s t).2 = 8 ∨ (renamePR d s t).2 = 0 ∧ (∃ k y, findR (renamePR d s t).1.files t 0 = some k ∧ (renamePR d s t).1.files[k]? = some y ∧ k < (renamePR d s t).1.files.length ∧ y.vol = x.vol ∧ y.dur = x.dur) ∧
        (if s = t then ∃ k, findR (renamePR d s t).1.files s 0 = some k else findR (renamePR d s t).1.files s 0 = none) ∧
        ∀ z ∈ d.files, z.name ≠ s → z.name ≠ t → ∃ k, k < (renamePR d s t).1.files.length ∧ (renamePR d s t).1.files[k]? = some z ∧ findR (renamePR d s t).1.files z.name 0 = some k) := by
  have hc := good_iff.2 h
  rw [remove_law, rename_law]
  by_cases hn : nameOk s = true
  · cases hf : findR d.files s 0 with
    | none =>
      refine .inl ⟨rfl, .inr ?_, ?_⟩
      · rw [removeR, namedR_good hc, if_pos hn, if_pos rfl, hf]
      · rw [renameR, namedR_good hc, if_pos hn, if_pos rfl]
        by_cases ht : nameOk t = true
        · rw [if_pos ht, hf]; exact .inr rfl
        · rw [if_neg ht]; exact .inl rfl
    | some i =>
      obtain ⟨x, hx, hxn, _⟩ := findR_some hf
      rw [Nat.sub_zero] at hx
      have hil := (List.getElem?_eq_some_iff.1 hx).1
      have e1 : removeR d s = (withoutR d s, 0) := by rw [removeR, namedR_good hc, if_pos hn, if_pos rfl, hf]
      refine .inr ⟨i, x, rfl, hx, hil, by rw [e1], ?_, by rw [e1]; exact removeR_len h hf, ?_⟩
      · rw [e1]; exact findR_none fun y hy => (without_mem.1 hy).2
      · by_cases ht : nameOk t = true
        · have e2 : renameR d s t = (putR (withoutR d s) { x with name := t }, 0) := by
            rw [renameR, namedR_good hc, if_pos hn, if_pos rfl, if_pos ht, hf]
            simp only
            have hxe : d.files[i]! = x := by
              have := (List.getElem?_eq_some_iff.1 hx).2
              simp [hil, this]
            rw [hxe]
          have hF : Sorted (withoutR d s).files := h.sorted.filter _
          rw [putR_putL hF] at e2
          have hS := putL_sorted hF { x with name := t }
          have hself := putL_self (withoutR d s).files { x with name := t }
          rw [e2]
          refine .inr ⟨rfl, ⟨_, _, findR_sorted hS hself, hself, (List.getElem?_eq_some_iff.1 hself).1, rfl, rfl⟩, ?_, fun z hz h1 h2 => ?_⟩
          · split
            · rename_i e; subst e; exact ⟨_, findR_sorted hS hself⟩
            · rename_i hne
              refine findR_none fun y hy => ?_
              rcases mem_putL hy with rfl | hy
              · exact fun e => hne e.symm
              · exact (without_mem.1 hy).2
          · obtain ⟨k, g1, g2, g3⟩ := findR_mem hS (putL_mem (without_mem.2 ⟨hz, h1⟩) h2)
            exact ⟨k, g1, g2, g3⟩
        · refine .inl ?_
          rw [renameR, namedR_good hc, if_pos hn, if_pos rfl, if_neg ht]
  · have hf : findR d.files s 0 = none := findR_none fun x hx e => hn (by rw [← e]; exact h.names x hx)
    refine .inl ⟨hf, .inl ?_, .inl ?_⟩
    · rw [removeR, namedR_good hc, if_neg hn, if_neg (by decide)]
    · rw [renameR, namedR_good hc, if_neg hn, if_neg (by decide)]

theorem sum_set (l : List Nat) (i y : Nat) (h : i < l.length) : (l.set i y).sum + l[i] = l.sum + y := by
  induction l generalizing i with
  | nil => simp at h
  | cons a l ih =>
    rcases i with _ | i
    · simp; omega
    · have := ih i (by simpa using h)
      simp only [List.set_cons_succ, List.sum_cons, List.getElem_cons_succ]; omega
theorem sum_filter_le (l : List File) (g : File → Nat) (s : List UInt8) (x : File) (hx : x ∈ l) (hn : x.name = s) : ((l.filter (fun f => f.name != s)).map g).sum + g x ≤ (l.map g).sum := by
  induction l with
  | nil => cases hx
  | cons a l ih =>
    rcases List.mem_cons.1 hx with rfl | hx
    · rw [List.filter_cons_of_neg (by simp [hn])]
      have : ((l.filter (fun f => f.name != s)).map g).sum ≤ (l.map g).sum := by
        clear ih hx
        induction l with
        | nil => simp
        | cons b l ih =>
          rw [List.filter_cons]
          split
          · simp only [List.map_cons, List.sum_cons]; omega
          · simp only [List.map_cons, List.sum_cons]; omega
      simp only [List.map_cons, List.sum_cons]; omega
    · have := ih hx
      rw [List.filter_cons]
      split
      · simp only [List.map_cons, List.sum_cons]; omega
      · simp only [List.map_cons, List.sum_cons]; omega
theorem sum_bound (l : List File) (g : File → Nat) (n m : Nat) (hl : l.length ≤ m) (hb : ∀ f ∈ l, g f ≤ n) : (l.map g).sum ≤ m * n := by
  induction l generalizing m with
  | nil => simp
  | cons a l ih =>
    rcases m with _ | m
    · simp at hl
    · have := ih m (by simpa using hl) (fun f hf => hb f (by simp [hf]))
      have h2 := hb a (by simp)
      simp only [List.map_cons, List.sum_cons]
      rw [Nat.add_mul, Nat.one_mul]; omega
theorem W_le {m n : Nat} {b : Int} (hmn : m ≤ n) (hn : n ≤ 9223372036854775807) (h : ¬ b < W (n : Int)) : ¬ b < W (m : Int) := by
  rw [W, wrap_i64 _ (by omega) (by omega)] at h ⊢
  omega

/-- Synchronizing a file that is there. -/
theorem sync_good {d : Disk} (h : Good d) {x : File} (hx : x ∈ d.files) : (syncPR d x.name).2 = 27 ∨ (syncPR d x.name).2 = 0 ∧ (syncPR d x.name).1 = ⟨putL d.files { x with dur := x.vol }, d.space⟩ ∧ Good ⟨putL d.files { x with dur := x.vol }, d.space⟩ := by
  rw [sync_law, syncR, namedR_good (good_iff.2 h), if_pos (h.names x hx), if_pos rfl]
  obtain ⟨i, hil, hi, hf⟩ := findR_mem h.sorted hx
  rw [hf]
  simp only
  have hxe : d.files[i]! = x := by
    have := (List.getElem?_eq_some_iff.1 hi).2
    simp [hil, this]
  rw [hxe, putR_putL h.sorted]
  have hfd : foundAt d.files ({ x with dur := x.vol } : File).name (lb d.files ({ x with dur := x.vol } : File).name) = true := by have := found_of h.sorted hx; exact this
  rcases fitR_err ⟨putL d.files { x with dur := x.vol }, d.space⟩ with h1 | h1 | h1
  · obtain ⟨e1, e2, e3, e4⟩ := fitR_ok h1
    refine .inr ⟨h1, e1, h.sp, e2, putL_sorted h.sorted _, fun f hf => ?_, e3, e4⟩
    rcases mem_putL hf with rfl | hf
    · exact h.names x hx
    · exact h.names f hf
  · exact .inl h1
  · exfalso
    have h2 := h1.2
    simp only at h2
    rw [putL_len hfd] at h2
    have := h.len
    omega
theorem putL_len_le (fs : List File) (f : File) : (putL fs f).length ≤ fs.length + 1 := by
  unfold putL
  split
  · simp
  · rw [insAt_len _ _ _ (lb_le _ _)]; exact Nat.le_refl _
/-- With room in the list, writing fails for want of space alone. -/
theorem changed_err_room {d : Disk} (h : Good d) {s : List UInt8} (hn : nameOk s = true) (hl : d.files.length < 256) (g : List UInt8 → List UInt8) : (changedR d s g).2 = 0 ∨ (changedR d s g).2 = 27 := by
  rw [changed_law, namedR_good (good_iff.2 h), if_pos hn, if_pos rfl]
  rcases fitR_err (putR d { oldR d s with vol := g (oldR d s).vol }) with h1 | h1 | h1
  · exact .inl h1
  · exact .inr h1
  · exfalso
    rw [putR_putL h.sorted] at h1
    have h2 := h1.2
    simp only at h2
    have := Nat.lt_of_lt_of_le h2 (putL_len_le _ _)
    omega
/-- A synchronized file is as it was behind a crash. -/
theorem crash_read {d : Disk} (h : Good d) {x : File} (hx : x ∈ d.files) (hdv : x.dur = x.vol) (cs : List Int) : (crashR d cs).2.2 = 27 ∨ (crashR d cs).2.2 = 0 ∧ readR (crashR d cs).1 x.name = (x.vol, 0) := by
  rcases crash_good h cs with h1 | ⟨h1, h2, h3, h4⟩
  · exact .inl h1
  · refine .inr ⟨h1, ?_⟩
    obtain ⟨i, hi⟩ := List.mem_iff_getElem?.1 hx
    obtain ⟨cs', hc⟩ := crashF_get d.files [] cs i x hi
    simp only [List.length_nil, Nat.zero_add] at hc
    rw [h2, readR_good h4 (h.names x hx) hc rfl]
    simp only
    rw [(afterR_content x cs').2 hdv, hdv]

def newF : List UInt8 := [110, 101, 119, 45, 102, 105, 108, 101]
theorem newF_ok : nameOk newF = true := by decide +kernel
/-- The statement on replacing. -/
theorem replaces_law {d : Disk} (h : Good d) (hb : ∀ f ∈ d.files, f.dur.length ≤ 140737488355328 ∧ f.vol.length ≤ 140737488355328) (hl : d.files.length ≤ 20) {x : File} (hx : x ∈ d.files) {data : List UInt8} (hdl : data.length ≤ 140737488355328) (cs : List Int) :
    (syncPR d x.name).2 = 27 ∨ (syncPR d x.name).2 = 0 ∧ ∃ start : Disk, (syncPR d x.name).1 = start ∧ readR start x.name = (x.vol, 0) ∧ (∀ f ∈ start.files, f.vol.length ≤ 140737488355328) ∧
      ((changedR start newF (wrG data)).2 = 27 ∨ (changedR start newF (wrG data)).2 = 0 ∧ (x.name = newF ∨ x.name ≠ newF ∧ ∃ a : Disk, (changedR start newF (wrG data)).1 = a ∧ (∀ f ∈ a.files, f.vol.length ≤ 140737488355328) ∧
        ((syncPR a newF).2 = 27 ∨ (syncPR a newF).2 = 0 ∧ ∃ b : Disk, (syncPR a newF).1 = b ∧ (∀ f ∈ b.files, f.vol.length ≤ 140737488355328) ∧ ∃ c : Disk, renamePR b newF x.name = (c, 0) ∧ (∀ f ∈ c.files, f.vol.length ≤ 140737488355328) ∧
          findR c.files newF 0 = none ∧ checkR c = 0 ∧
          ((crashR start cs).2.2 = 27 ∨ (crashR start cs).2.2 = 0 ∧ readR (crashR start cs).1 x.name = (x.vol, 0)) ∧ ((crashR a cs).2.2 = 27 ∨ (crashR a cs).2.2 = 0 ∧ readR (crashR a cs).1 x.name = (x.vol, 0)) ∧
          ((crashR b cs).2.2 = 27 ∨ (crashR b cs).2.2 = 0 ∧ readR (crashR b cs).1 x.name = (x.vol, 0)) ∧ ((crashR c cs).2.2 = 27 ∨ (crashR c cs).2.2 = 0 ∧ readR (crashR c cs).1 x.name = (data, 0))))) := by
  rcases sync_good h hx with h1 | ⟨h1, e1, hg1⟩
  · exact .inl h1
  refine .inr ⟨h1, _, e1, ?_⟩
  have hs1 := putL_self d.files { x with dur := x.vol }
  have hm1 : ({ x with dur := x.vol } : File) ∈ putL d.files { x with dur := x.vol } := List.mem_of_getElem? hs1
  have hb1 : ∀ f ∈ putL d.files { x with dur := x.vol }, f.dur.length ≤ 140737488355328 ∧ f.vol.length ≤ 140737488355328 := fun f hf => by
    rcases mem_putL hf with rfl | hf
    · exact ⟨(hb x hx).2, (hb x hx).2⟩
    · exact hb f hf
  refine ⟨readR_good hg1 (h.names x hx) (x := { x with dur := x.vol }) hs1 rfl, fun f hf => (hb1 f hf).2, ?_⟩
  have hl1 := putL_len_le d.files { x with dur := x.vol }
  generalize hst : putL d.files { x with dur := x.vol } = fs1 at *
  rcases changed_err_room hg1 newF_ok (by simp only; omega) (wrG data) with h2 | h2
  case inr => exact .inl h2
  refine .inr ⟨h2, ?_⟩
  by_cases hn : x.name = newF
  · exact .inl hn
  obtain ⟨_, f2, k1, k2, k3, e2, hg2⟩ := changed_good hg1 h2
  have hb2d : ∀ f ∈ putL fs1 f2, f.dur.length ≤ 140737488355328 := fun f hf => by
    rcases mem_putL hf with rfl | hf
    · rw [k3]; exact oldR_dur (d := ⟨fs1, d.space⟩) (fun f hf => (hb1 f hf).1) newF
    · exact (hb1 f hf).1
  refine .inr ⟨hn, _, e2, ?_⟩
  have hb2 : ∀ f ∈ putL fs1 f2, f.vol.length ≤ 140737488355328 := fun f hf => by
    rcases mem_putL hf with rfl | hf
    · rw [k2]; exact hdl
    · exact (hb1 f hf).2
  have hm2 : ({ x with dur := x.vol } : File) ∈ putL fs1 f2 := putL_mem hm1 (by rw [k1]; exact hn)
  have hf2 : f2 ∈ putL fs1 f2 := List.mem_of_getElem? (putL_self fs1 f2)
  refine ⟨hb2, ?_⟩
  have hl2 := putL_len_le fs1 f2
  generalize putL fs1 f2 = fs2 at *
  have hsy := sync_good hg2 hf2
  rw [k1] at hsy
  rcases hsy with h3 | ⟨h3, e3, hg3⟩
  · exact .inl h3
  refine .inr ⟨h3, _, e3, ?_⟩
  have hb3 : ∀ f ∈ putL fs2 { f2 with dur := f2.vol }, f.vol.length ≤ 140737488355328 := fun f hf => by
    rcases mem_putL hf with rfl | hf
    · exact hb2 f2 hf2
    · exact hb2 f hf
  have hm3 : ({ x with dur := x.vol } : File) ∈ putL fs2 { f2 with dur := f2.vol } := putL_mem hm2 (by simp only; rw [k1]; exact hn)
  have hf3 : ({ f2 with dur := f2.vol } : File) ∈ putL fs2 { f2 with dur := f2.vol } := List.mem_of_getElem? (putL_self fs2 { f2 with dur := f2.vol })
  simp only [k1] at hm3 hf3 hg3 hb3 ⊢
  have hl3 := putL_len_le fs2 { f2 with dur := f2.vol }
  simp only [k1] at hl3
  refine ⟨hb3, ?_⟩
  generalize hfs3 : putL fs2 ⟨newF, f2.vol, f2.vol⟩ = fs3 at *
  -- the renaming
  obtain ⟨i3, hi3l, hi3, hfi3⟩ := findR_mem hg3.sorted hf3
  simp only at hfi3 hi3 hi3l
  have e4 : renamePR ⟨fs3, d.space⟩ newF x.name = (⟨putL (withoutR ⟨fs3, d.space⟩ newF).files ⟨x.name, f2.vol, f2.vol⟩, d.space⟩, 0) := by
    rw [rename_law, renameR, namedR_good (good_iff.2 hg3), if_pos newF_ok, if_pos rfl, if_pos (h.names x hx)]
    simp only
    rw [hfi3]
    simp only
    have hxe : fs3[i3]! = ⟨newF, f2.vol, f2.vol⟩ := by
      have := (List.getElem?_eq_some_iff.1 hi3).2
      simp [hi3l, this]
    rw [hxe, putR_putL (hg3.sorted.filter _)]
    rfl
  refine ⟨_, e4, ?_⟩
  have hF : Sorted (withoutR ⟨fs3, d.space⟩ newF).files := hg3.sorted.filter _
  have hmF : ({ x with dur := x.vol } : File) ∈ (withoutR ⟨fs3, d.space⟩ newF).files := without_mem.2 ⟨hm3, hn⟩
  have hfdF : foundAt (withoutR ⟨fs3, d.space⟩ newF).files (⟨x.name, f2.vol, f2.vol⟩ : File).name (lb (withoutR ⟨fs3, d.space⟩ newF).files (⟨x.name, f2.vol, f2.vol⟩ : File).name) = true := by have := found_of hF hmF; exact this
  have hlF : (withoutR ⟨fs3, d.space⟩ newF).files.length ≤ fs3.length := List.length_filter_le _ _
  have hsum : ∀ g : File → Nat, g ⟨x.name, f2.vol, f2.vol⟩ = g ⟨newF, f2.vol, f2.vol⟩ → ((putL (withoutR ⟨fs3, d.space⟩ newF).files ⟨x.name, f2.vol, f2.vol⟩).map g).sum ≤ (fs3.map g).sum := fun g hgg => by
    have q1 := sum_filter_le fs3 g newF _ hf3 rfl
    rw [putL, if_pos hfdF, List.map_set]
    have hlt := foundAt_lt hfdF
    have q2 := sum_set ((withoutR ⟨fs3, d.space⟩ newF).files.map g) (lb (withoutR ⟨fs3, d.space⟩ newF).files (⟨x.name, f2.vol, f2.vol⟩ : File).name) (g ⟨x.name, f2.vol, f2.vol⟩) (by simpa using hlt)
    have q3 : ((withoutR ⟨fs3, d.space⟩ newF).files.map g).sum + g ⟨newF, f2.vol, f2.vol⟩ ≤ (fs3.map g).sum := q1
    omega
  have hb3d : ∀ f ∈ fs3, f.dur.length ≤ 140737488355328 := fun f hf => by
    rw [← hfs3] at hf
    rcases mem_putL hf with rfl | hf
    · exact hb2 f2 hf2
    · exact hb2d f hf
  have hvb : sumV fs3 ≤ 9223372036854775807 := Nat.le_trans (sum_bound fs3 _ 140737488355328 256 (by omega) hb3) (by decide)
  have hdb : sumD fs3 ≤ 9223372036854775807 := Nat.le_trans (sum_bound fs3 _ 140737488355328 256 (by omega) hb3d) (by decide)
  have hg4 : Good ⟨putL (withoutR ⟨fs3, d.space⟩ newF).files ⟨x.name, f2.vol, f2.vol⟩, d.space⟩ := by
    refine ⟨h.sp, ?_, putL_sorted hF _, fun f hf => ?_, W_le (hsum (·.vol.length) rfl) hvb hg3.vol, W_le (hsum (·.dur.length) rfl) hdb hg3.dur⟩
    · simp only; rw [putL_len hfdF]; omega
    · rcases mem_putL hf with rfl | hf
      · exact h.names x hx
      · exact hg3.names f (without_mem.1 hf).1
  have hm4 : (⟨x.name, f2.vol, f2.vol⟩ : File) ∈ putL (withoutR ⟨fs3, d.space⟩ newF).files ⟨x.name, f2.vol, f2.vol⟩ := List.mem_of_getElem? (putL_self _ ⟨x.name, f2.vol, f2.vol⟩)
  refine ⟨fun f hf => ?_, findR_none fun y hy => ?_, good_iff.2 hg4, crash_read hg1 hm1 rfl cs, crash_read hg2 hm2 rfl cs, crash_read hg3 hm3 rfl cs, ?_⟩
  · rcases mem_putL hf with rfl | hf
    · exact hb2 f2 hf2
    · exact hb3 f (without_mem.1 hf).1
  · rcases mem_putL hy with rfl | hy
    · exact hn
    · exact (without_mem.1 hy).2
  · have := crash_read hg4 hm4 rfl cs
    simp only [k2] at this ⊢
    exact this
end Go.Abs
set_option maxRecDepth 100000
namespace Go.Abs
open Go Go.Proofs
set_option linter.unusedSimpArgs false
attribute [local irreducible] changedR renamePR removePR syncPR crashR checkR readR few

set_option maxHeartbeats 4000000 in
theorem pc10 (d : Disk) (s t : List UInt8) (hd : DB d) (hs : s.length ≤ 140737488355328) (ht : t.length ≤ 140737488355328) : PC Tryd.prog 10 [encD d, .str s, .str t] (fun r => r = .bool true) := by
  refine PC_body tOk Tryd.func10 rfl Tryd.results10 rfl (by simp [Tryd.ntmps10]) ?_
  rw [Tryd.ntmps10]
  simp only [argSlots]
  simp only [encD]
  repeat (first
    | (refine AWP_seq (AWP_regS tOk rfl ?_); simp)
    | (refine AWP_regS tOk rfl ?_; simp)
    | (refine AWP_skip ?_; simp)
    | (refine AWP_exit ?_; simp)
    | (refine AWP_ret ?_; simp)
    | refine AWP_block ?_
    | refine AWP_seq ?_)
  refine AStep_PC rfl rfl (by simp) (pc27' d) rfl ?_
  rintro _ rfl
  simp
  repeat (first
    | (refine AWP_seq (AWP_regS tOk rfl ?_); simp)
    | (refine AWP_regS tOk rfl ?_; simp)
    | (refine AWP_skip ?_; simp)
    | (refine AWP_exit ?_; simp)
    | (refine AWP_ret ?_; simp)
    | refine AWP_block ?_
    | refine AWP_seq ?_)
  refine AWP_cond2 rfl (fun h => ?_) (fun h => ?_)
  · repeat (first
      | (refine AWP_seq (AWP_regS tOk rfl ?_); simp)
      | (refine AWP_regS tOk rfl ?_; simp)
      | (refine AWP_skip ?_; simp)
      | (refine AWP_exit ?_; simp)
      | (refine AWP_ret ?_; simp)
      | refine AWP_block ?_
      | refine AWP_seq ?_)
    refine AStep_PC rfl rfl (by simp) (pc12) rfl ?_
    rintro _ rfl
    simp
    repeat (first
      | (refine AWP_seq (AWP_regS tOk rfl ?_); simp)
      | (refine AWP_regS tOk rfl ?_; simp)
      | (refine AWP_skip ?_; simp)
      | (refine AWP_exit ?_; simp)
      | (refine AWP_ret ?_; simp)
      | refine AWP_block ?_
      | refine AWP_seq ?_)
  simp only [Bool.or_eq_false_iff, Bool.not_eq_false', decide_eq_false_iff_not] at h
  obtain ⟨⟨hsm, _⟩, _⟩ := h
  obtain ⟨hg, hl20⟩ := smallB_good hsm
  refine AWP_keep (sl' := [(1, .str s), (2, .str t), (3, .vptr 0 0), (6, .bool false)]) ?_ (by simp)
  repeat (first
    | (refine AWP_seq (AWP_regS tOk rfl ?_); simp)
    | (refine AWP_regS tOk rfl ?_; simp)
    | (refine AWP_skip ?_; simp)
    | (refine AWP_exit ?_; simp)
    | (refine AWP_ret ?_; simp)
    | refine AWP_block ?_
    | refine AWP_seq ?_)
  refine AStep_PC rfl rfl (by simp) (pc33 d s) rfl ?_
  rintro _ rfl
  simp
  repeat (first
    | (refine AWP_seq (AWP_regS tOk rfl ?_); simp)
    | (refine AWP_regS tOk rfl ?_; simp)
    | (refine AWP_skip ?_; simp)
    | (refine AWP_exit ?_; simp)
    | (refine AWP_ret ?_; simp)
    | refine AWP_block ?_
    | refine AWP_seq ?_)
  refine AStep_PC rfl rfl (by simp) (pc29 d s t) rfl ?_
  rintro _ rfl
  simp
  repeat (first
    | (refine AWP_seq (AWP_regS tOk rfl ?_); simp)
    | (refine AWP_regS tOk rfl ?_; simp)
    | (refine AWP_skip ?_; simp)
    | (refine AWP_exit ?_; simp)
    | (refine AWP_ret ?_; simp)
    | refine AWP_block ?_
    | refine AWP_seq ?_)
  refine AStep_PC rfl rfl (by simp) (pc23 d s) rfl ?_
  rintro _ rfl
  simp
  repeat (first
    | (refine AWP_seq (AWP_regS tOk rfl ?_); simp)
    | (refine AWP_regS tOk rfl ?_; simp)
    | (refine AWP_skip ?_; simp)
    | (refine AWP_exit ?_; simp)
    | (refine AWP_ret ?_; simp)
    | refine AWP_block ?_
    | refine AWP_seq ?_)
  rcases removes_law hg s t with ⟨k1, k2, k3⟩ | ⟨i, x, k1, k2, k3, k4, k5, k7, k8⟩
  · rw [k1]
    simp only [findAV]
    rcases k2 with k2 | k2 <;> rcases k3 with k3 | k3
    all_goals
      rw [k2, k3]
      repeat (first
        | (refine AWP_seq (AWP_regS tOk rfl ?_); simp)
        | (refine AWP_regS tOk rfl ?_; simp)
        | (refine AWP_skip ?_; simp)
        | (refine AWP_exit ?_; simp)
        | (refine AWP_ret ?_; simp)
        | refine AWP_block ?_
        | refine AWP_seq ?_)
      refine AWP_cond rfl ?_
      repeat (first
        | (refine AWP_seq (AWP_regS tOk rfl ?_); simp)
        | (refine AWP_regS tOk rfl ?_; simp)
        | (refine AWP_skip ?_; simp)
        | (refine AWP_exit ?_; simp)
        | (refine AWP_ret ?_; simp)
        | refine AWP_block ?_
        | refine AWP_seq ?_)
      refine AStep_PC rfl rfl (by simp) (pc12) rfl ?_
      rintro _ rfl
      simp
      repeat (first
        | (refine AWP_seq (AWP_regS tOk rfl ?_); simp)
        | (refine AWP_regS tOk rfl ?_; simp)
        | (refine AWP_skip ?_; simp)
        | (refine AWP_exit ?_; simp)
        | (refine AWP_ret ?_; simp)
        | refine AWP_block ?_
        | refine AWP_seq ?_)
  · rw [k1]
    simp only [findAV]
    have hnl : ¬ (d.files.length : Int) ≤ i := by omega
    rw [k4]
    generalize hA : (removePR d s).1 = A at k5 k7
    repeat (first
      | (refine AWP_seq (AWP_regS tOk rfl ?_); simp [hnl])
      | (refine AWP_regS tOk rfl ?_; simp [hnl])
      | (refine AWP_skip ?_; simp [hnl])
      | (refine AWP_exit ?_; simp [hnl])
      | (refine AWP_ret ?_; simp [hnl])
      | refine AWP_block ?_
      | refine AWP_seq ?_)
    refine AWP_cond (b := false) (by simp) ?_
    repeat (first
      | (refine AWP_seq (AWP_regS tOk rfl ?_); simp)
      | (refine AWP_regS tOk rfl ?_; simp)
      | (refine AWP_skip ?_; simp)
      | (refine AWP_exit ?_; simp)
      | (refine AWP_ret ?_; simp)
      | refine AWP_block ?_
      | refine AWP_seq ?_)
    refine AStep_PC rfl rfl (by simp) (pc23 A s) rfl ?_
    rintro _ rfl
    simp
    rw [k5]
    simp only [findAV]
    have hlw : IntKind.i64.wrap ((d.files.length : Int) - 1) = ((d.files.length - 1 : Nat) : Int) := by rw [wrap_i64 _ (by omega) (by omega)]; omega
    repeat (first
      | (refine AWP_seq (AWP_regS tOk rfl ?_); simp [k7, hlw])
      | (refine AWP_regS tOk rfl ?_; simp [k7, hlw])
      | (refine AWP_skip ?_; simp [k7, hlw])
      | (refine AWP_exit ?_; simp [k7, hlw])
      | (refine AWP_ret ?_; simp [k7, hlw])
      | refine AWP_block ?_
      | refine AWP_seq ?_)
    refine AWP_cond (b := false) (by simp) ?_
    repeat (first
      | (refine AWP_seq (AWP_regS tOk rfl ?_); simp)
      | (refine AWP_regS tOk rfl ?_; simp)
      | (refine AWP_skip ?_; simp)
      | (refine AWP_exit ?_; simp)
      | (refine AWP_ret ?_; simp)
      | refine AWP_block ?_
      | refine AWP_seq ?_)
    rcases k8 with k8 | ⟨k8, ⟨k, y, q1, q2, q3, q4, q5⟩, q6, k6⟩
    · rw [k8]
      refine AWP_cond rfl ?_
      repeat (first
        | (refine AWP_seq (AWP_regS tOk rfl ?_); simp)
        | (refine AWP_regS tOk rfl ?_; simp)
        | (refine AWP_skip ?_; simp)
        | (refine AWP_exit ?_; simp)
        | (refine AWP_ret ?_; simp)
        | refine AWP_block ?_
        | refine AWP_seq ?_)
      refine AStep_PC rfl rfl (by simp) (pc12) rfl ?_
      rintro _ rfl
      simp
      repeat (first
        | (refine AWP_seq (AWP_regS tOk rfl ?_); simp)
        | (refine AWP_regS tOk rfl ?_; simp)
        | (refine AWP_skip ?_; simp)
        | (refine AWP_exit ?_; simp)
        | (refine AWP_ret ?_; simp)
        | refine AWP_block ?_
        | refine AWP_seq ?_)
    · rw [k8]
      generalize hB : (renamePR d s t).1 = B at q1 q2 q3 q6 k6
      have hB0 : 0 < B.files.length := by omega
      refine AWP_cond rfl ?_
      repeat (first
        | (refine AWP_seq (AWP_regS tOk rfl ?_); simp)
        | (refine AWP_regS tOk rfl ?_; simp)
        | (refine AWP_skip ?_; simp)
        | (refine AWP_exit ?_; simp)
        | (refine AWP_ret ?_; simp)
        | refine AWP_block ?_
        | refine AWP_seq ?_)
      refine AStep_PC rfl rfl (by simp) (pc23 B t) rfl ?_
      rintro _ rfl
      simp
      rw [q1]
      simp only [findAV]
      repeat (first
        | (refine AWP_seq (AWP_regS tOk rfl ?_); simp)
        | (refine AWP_regS tOk rfl ?_; simp)
        | (refine AWP_skip ?_; simp)
        | (refine AWP_exit ?_; simp)
        | (refine AWP_ret ?_; simp)
        | refine AWP_block ?_
        | refine AWP_seq ?_)
      refine AStep_PC rfl rfl (by simp) (pc23 B s) rfl ?_
      rintro _ rfl
      simp
      have hxi : d.files[i] = x := (List.getElem?_eq_some_iff.1 k2).2
      have hyk : B.files[k] = y := (List.getElem?_eq_some_iff.1 q2).2
      have hnk : ¬ (B.files.length : Int) ≤ k := by omega
      by_cases hst : s = t
      · rw [if_pos hst] at q6
        obtain ⟨k9, q6⟩ := q6
        rw [q6]
        simp only [findAV]
        have hstb : (s == t) = true := by simpa using hst
        repeat (first
          | (refine AWP_seq (AWP_regS tOk rfl ?_); simp)
          | (refine AWP_regS tOk rfl ?_; simp)
          | (refine AWP_skip ?_; simp)
          | (refine AWP_exit ?_; simp)
          | (refine AWP_ret ?_; simp)
          | refine AWP_block ?_
          | refine AWP_seq ?_)
        refine AWP_draw tOk mixed [] [0, 1, 2, 3, 4, 5, 6, 7, 8, 9, 10, 11, 12, 13, 14, 15, 16, 17, 18, 19, 20, 21, 22, 23, 24, 25, 26, 27, 28, 29, 30, 31, 32, 33, 34, 35, 36, 37, 38, 39, 40, 41, 42, 43, 44, 45] rfl (by kernel_rfl) ?_
        simp [hnk, q3, k3, hxi, hyk, q4, q5, hstb]
        refine AWP_cond (b := false) (by simp [hstb]) ?_
        repeat (first
          | (refine AWP_seq (AWP_regS tOk rfl ?_); simp)
          | (refine AWP_regS tOk rfl ?_; simp)
          | (refine AWP_skip ?_; simp)
          | (refine AWP_exit ?_; simp)
          | (refine AWP_ret ?_; simp)
          | refine AWP_block ?_
          | refine AWP_seq ?_)
        refine AWP_count d.files.length (fun j => [(1, .str s), (2, .str t), (6, .bool false), (9, .vptr 2 0), (173, .list (d.files.map encF)), (174, .i d.files.length), (175, .i j)]) (fun _ => [.vars [.list (d.files.map encF), .i d.space], .vars [.list (A.files.map encF), .i A.space], .vars [.list (B.files.map encF), .i B.space]]) rfl (by simp) (by simp) (by simp) (by simp) ?_
        intro j hj ih
        repeat (first
          | (refine AWP_seq (AWP_regS tOk rfl ?_); simp)
          | (refine AWP_regS tOk rfl ?_; simp)
          | (refine AWP_skip ?_; simp)
          | (refine AWP_exit ?_; simp)
          | (refine AWP_ret ?_; simp)
          | refine AWP_block ?_
          | refine AWP_seq ?_)
        refine AWP_cond2 rfl (fun hlt => ?_) (fun hge => ?_)
        · have hlt' : j < d.files.length := by simpa using hlt
          repeat (first
            | (refine AWP_seq (AWP_regS tOk rfl ?_); simp [hlt'])
            | (refine AWP_regS tOk rfl ?_; simp [hlt'])
            | (refine AWP_skip ?_; simp [hlt'])
            | (refine AWP_exit ?_; simp [hlt'])
            | (refine AWP_ret ?_; simp [hlt'])
            | refine AWP_block ?_
            | refine AWP_seq ?_)
          refine AStep_PC rfl rfl (by simp) (pc23 B d.files[j].name) rfl ?_
          rintro _ rfl
          simp
          by_cases hc : d.files[j].name ≠ s ∧ d.files[j].name ≠ t
          · obtain ⟨i, g1, g2, g3⟩ := k6 d.files[j] (List.getElem_mem hlt') hc.1 hc.2
            rw [g3]
            simp only [findAV]
            repeat (first
              | (refine AWP_seq (AWP_regS tOk rfl ?_); simp)
              | (refine AWP_regS tOk rfl ?_; simp)
              | (refine AWP_skip ?_; simp)
              | (refine AWP_exit ?_; simp)
              | (refine AWP_ret ?_; simp)
              | refine AWP_block ?_
              | refine AWP_seq ?_)
            have gi : B.files[i] = d.files[j] := by rw [List.getElem?_eq_getElem g1] at g2; exact Option.some.inj g2
            have hnl : ¬ (B.files.length : Int) ≤ i := by omega
            have hc1 : (d.files[j].name == s) = false := by simpa using hc.1
            have hc2 : (d.files[j].name == t) = false := by simpa using hc.2
            refine AWP_draw tOk mixed [] [0, 1, 2, 3, 4, 5, 6, 7, 8, 9, 10, 11, 12, 13, 14, 15, 16, 17, 18, 19, 20, 21, 22, 23, 24, 25, 26, 27, 28, 29] rfl (by kernel_rfl) ?_
            simp [hc1, hc2, hnl, g1, gi]
            refine AWP_cond (b := false) (by simp) ?_
            repeat (first
              | (refine AWP_seq (AWP_regS tOk rfl ?_); simp)
              | (refine AWP_regS tOk rfl ?_; simp)
              | (refine AWP_skip ?_; simp)
              | (refine AWP_exit ?_; simp)
              | (refine AWP_ret ?_; simp)
              | refine AWP_block ?_
              | refine AWP_seq ?_)
            refine ALoop_end _ (ih hlt') rfl (by simp) ?_ (by simp) (by simp)
            simp
            exact wrap_i64 _ (by omega) (by omega)
          · have hcond : (!d.files[j].name == s && !d.files[j].name == t) = false := by
              rcases Decidable.em (d.files[j].name = s) with e | e
              · simp [e]
              · have e2 : d.files[j].name = t := Decidable.byContradiction fun e2 => hc ⟨e, e2⟩
                simp [e2]
            have hBne : 0 < B.files.length := hB0
            rcases hfd : findR B.files d.files[j].name 0 with _ | i
            · simp only [findAV]
              repeat (first
                | (refine AWP_seq (AWP_regS tOk rfl ?_); simp)
                | (refine AWP_regS tOk rfl ?_; simp)
                | (refine AWP_skip ?_; simp)
                | (refine AWP_exit ?_; simp)
                | (refine AWP_ret ?_; simp)
                | refine AWP_block ?_
                | refine AWP_seq ?_)
              refine AWP_draw tOk mixed [] [0, 1, 2, 3, 4, 5, 6, 7, 8, 9, 10, 11, 12, 13, 14, 15, 16, 17, 18, 19, 20, 21, 22, 23, 24, 25, 26, 27, 28, 29] rfl (by kernel_rfl) ?_
              simp [hcond, hBne]
              refine AWP_cond (b := false) (by simp [hcond]) ?_
              repeat (first
                | (refine AWP_seq (AWP_regS tOk rfl ?_); simp)
                | (refine AWP_regS tOk rfl ?_; simp)
                | (refine AWP_skip ?_; simp)
                | (refine AWP_exit ?_; simp)
                | (refine AWP_ret ?_; simp)
                | refine AWP_block ?_
                | refine AWP_seq ?_)
              refine ALoop_end _ (ih hlt') rfl (by simp) ?_ (by simp) (by simp)
              simp
              exact wrap_i64 _ (by omega) (by omega)
            · have hi := findR_lt hfd
              simp only [findAV]
              repeat (first
                | (refine AWP_seq (AWP_regS tOk rfl ?_); simp)
                | (refine AWP_regS tOk rfl ?_; simp)
                | (refine AWP_skip ?_; simp)
                | (refine AWP_exit ?_; simp)
                | (refine AWP_ret ?_; simp)
                | refine AWP_block ?_
                | refine AWP_seq ?_)
              refine AWP_draw tOk mixed [] [0, 1, 2, 3, 4, 5, 6, 7, 8, 9, 10, 11, 12, 13, 14, 15, 16, 17, 18, 19, 20, 21, 22, 23, 24, 25, 26, 27, 28, 29] rfl (by kernel_rfl) ?_
              simp [hcond, hi]
              refine AWP_cond (b := false) (by simp [hcond]) ?_
              repeat (first
                | (refine AWP_seq (AWP_regS tOk rfl ?_); simp)
                | (refine AWP_regS tOk rfl ?_; simp)
                | (refine AWP_skip ?_; simp)
                | (refine AWP_exit ?_; simp)
                | (refine AWP_ret ?_; simp)
                | refine AWP_block ?_
                | refine AWP_seq ?_)
              refine ALoop_end _ (ih hlt') rfl (by simp) ?_ (by simp) (by simp)
              simp
              exact wrap_i64 _ (by omega) (by omega)
        · have hge' : j = d.files.length := by simp at hge; omega
          subst hge'
          repeat (first
            | (refine AWP_seq (AWP_regS tOk rfl ?_); simp)
            | (refine AWP_regS tOk rfl ?_; simp)
            | (refine AWP_skip ?_; simp)
            | (refine AWP_exit ?_; simp)
            | (refine AWP_ret ?_; simp)
            | refine AWP_block ?_
            | refine AWP_seq ?_)
          refine AStep_PC rfl rfl (by simp) (pc12) rfl ?_
          rintro _ rfl
          simp
          repeat (first
            | (refine AWP_seq (AWP_regS tOk rfl ?_); simp)
            | (refine AWP_regS tOk rfl ?_; simp)
            | (refine AWP_skip ?_; simp)
            | (refine AWP_exit ?_; simp)
            | (refine AWP_ret ?_; simp)
            | refine AWP_block ?_
            | refine AWP_seq ?_)
      · rw [if_neg hst] at q6
        rw [q6]
        simp only [findAV]
        have hstb : (s == t) = false := by simpa using hst
        repeat (first
          | (refine AWP_seq (AWP_regS tOk rfl ?_); simp)
          | (refine AWP_regS tOk rfl ?_; simp)
          | (refine AWP_skip ?_; simp)
          | (refine AWP_exit ?_; simp)
          | (refine AWP_ret ?_; simp)
          | refine AWP_block ?_
          | refine AWP_seq ?_)
        refine AWP_draw tOk mixed [] [0, 1, 2, 3, 4, 5, 6, 7, 8, 9, 10, 11, 12, 13, 14, 15, 16, 17, 18, 19, 20, 21, 22, 23, 24, 25, 26, 27, 28, 29, 30, 31, 32, 33, 34, 35, 36, 37, 38, 39, 40, 41, 42, 43, 44, 45] rfl (by kernel_rfl) ?_
        simp [hnk, q3, k3, hxi, hyk, q4, q5, hstb]
        refine AWP_cond (b := false) (by simp [hstb]) ?_
        repeat (first
          | (refine AWP_seq (AWP_regS tOk rfl ?_); simp)
          | (refine AWP_regS tOk rfl ?_; simp)
          | (refine AWP_skip ?_; simp)
          | (refine AWP_exit ?_; simp)
          | (refine AWP_ret ?_; simp)
          | refine AWP_block ?_
          | refine AWP_seq ?_)
        refine AWP_count d.files.length (fun j => [(1, .str s), (2, .str t), (6, .bool false), (9, .vptr 2 0), (173, .list (d.files.map encF)), (174, .i d.files.length), (175, .i j)]) (fun _ => [.vars [.list (d.files.map encF), .i d.space], .vars [.list (A.files.map encF), .i A.space], .vars [.list (B.files.map encF), .i B.space]]) rfl (by simp) (by simp) (by simp) (by simp) ?_
        intro j hj ih
        repeat (first
          | (refine AWP_seq (AWP_regS tOk rfl ?_); simp)
          | (refine AWP_regS tOk rfl ?_; simp)
          | (refine AWP_skip ?_; simp)
          | (refine AWP_exit ?_; simp)
          | (refine AWP_ret ?_; simp)
          | refine AWP_block ?_
          | refine AWP_seq ?_)
        refine AWP_cond2 rfl (fun hlt => ?_) (fun hge => ?_)
        · have hlt' : j < d.files.length := by simpa using hlt
          repeat (first
            | (refine AWP_seq (AWP_regS tOk rfl ?_); simp [hlt'])
            | (refine AWP_regS tOk rfl ?_; simp [hlt'])
            | (refine AWP_skip ?_; simp [hlt'])
            | (refine AWP_exit ?_; simp [hlt'])
            | (refine AWP_ret ?_; simp [hlt'])
            | refine AWP_block ?_
            | refine AWP_seq ?_)
          refine AStep_PC rfl rfl (by simp) (pc23 B d.files[j].name) rfl ?_
          rintro _ rfl
          simp
          by_cases hc : d.files[j].name ≠ s ∧ d.files[j].name ≠ t
          · obtain ⟨i, g1, g2, g3⟩ := k6 d.files[j] (List.getElem_mem hlt') hc.1 hc.2
            rw [g3]
            simp only [findAV]
            repeat (first
              | (refine AWP_seq (AWP_regS tOk rfl ?_); simp)
              | (refine AWP_regS tOk rfl ?_; simp)
              | (refine AWP_skip ?_; simp)
              | (refine AWP_exit ?_; simp)
              | (refine AWP_ret ?_; simp)
              | refine AWP_block ?_
              | refine AWP_seq ?_)
            have gi : B.files[i] = d.files[j] := by rw [List.getElem?_eq_getElem g1] at g2; exact Option.some.inj g2
            have hnl : ¬ (B.files.length : Int) ≤ i := by omega
            have hc1 : (d.files[j].name == s) = false := by simpa using hc.1
            have hc2 : (d.files[j].name == t) = false := by simpa using hc.2
            refine AWP_draw tOk mixed [] [0, 1, 2, 3, 4, 5, 6, 7, 8, 9, 10, 11, 12, 13, 14, 15, 16, 17, 18, 19, 20, 21, 22, 23, 24, 25, 26, 27, 28, 29] rfl (by kernel_rfl) ?_
            simp [hc1, hc2, hnl, g1, gi]
            refine AWP_cond (b := false) (by simp) ?_
            repeat (first
              | (refine AWP_seq (AWP_regS tOk rfl ?_); simp)
              | (refine AWP_regS tOk rfl ?_; simp)
              | (refine AWP_skip ?_; simp)
              | (refine AWP_exit ?_; simp)
              | (refine AWP_ret ?_; simp)
              | refine AWP_block ?_
              | refine AWP_seq ?_)
            refine ALoop_end _ (ih hlt') rfl (by simp) ?_ (by simp) (by simp)
            simp
            exact wrap_i64 _ (by omega) (by omega)
          · have hcond : (!d.files[j].name == s && !d.files[j].name == t) = false := by
              rcases Decidable.em (d.files[j].name = s) with e | e
              · simp [e]
              · have e2 : d.files[j].name = t := Decidable.byContradiction fun e2 => hc ⟨e, e2⟩
                simp [e2]
            have hBne : 0 < B.files.length := hB0
            rcases hfd : findR B.files d.files[j].name 0 with _ | i
            · simp only [findAV]
              repeat (first
                | (refine AWP_seq (AWP_regS tOk rfl ?_); simp)
                | (refine AWP_regS tOk rfl ?_; simp)
                | (refine AWP_skip ?_; simp)
                | (refine AWP_exit ?_; simp)
                | (refine AWP_ret ?_; simp)
                | refine AWP_block ?_
                | refine AWP_seq ?_)
              refine AWP_draw tOk mixed [] [0, 1, 2, 3, 4, 5, 6, 7, 8, 9, 10, 11, 12, 13, 14, 15, 16, 17, 18, 19, 20, 21, 22, 23, 24, 25, 26, 27, 28, 29] rfl (by kernel_rfl) ?_
              simp [hcond, hBne]
              refine AWP_cond (b := false) (by simp [hcond]) ?_
              repeat (first
                | (refine AWP_seq (AWP_regS tOk rfl ?_); simp)
                | (refine AWP_regS tOk rfl ?_; simp)
                | (refine AWP_skip ?_; simp)
                | (refine AWP_exit ?_; simp)
                | (refine AWP_ret ?_; simp)
                | refine AWP_block ?_
                | refine AWP_seq ?_)
              refine ALoop_end _ (ih hlt') rfl (by simp) ?_ (by simp) (by simp)
              simp
              exact wrap_i64 _ (by omega) (by omega)
            · have hi := findR_lt hfd
              simp only [findAV]
              repeat (first
                | (refine AWP_seq (AWP_regS tOk rfl ?_); simp)
                | (refine AWP_regS tOk rfl ?_; simp)
                | (refine AWP_skip ?_; simp)
                | (refine AWP_exit ?_; simp)
                | (refine AWP_ret ?_; simp)
                | refine AWP_block ?_
                | refine AWP_seq ?_)
              refine AWP_draw tOk mixed [] [0, 1, 2, 3, 4, 5, 6, 7, 8, 9, 10, 11, 12, 13, 14, 15, 16, 17, 18, 19, 20, 21, 22, 23, 24, 25, 26, 27, 28, 29] rfl (by kernel_rfl) ?_
              simp [hcond, hi]
              refine AWP_cond (b := false) (by simp [hcond]) ?_
              repeat (first
                | (refine AWP_seq (AWP_regS tOk rfl ?_); simp)
                | (refine AWP_regS tOk rfl ?_; simp)
                | (refine AWP_skip ?_; simp)
                | (refine AWP_exit ?_; simp)
                | (refine AWP_ret ?_; simp)
                | refine AWP_block ?_
                | refine AWP_seq ?_)
              refine ALoop_end _ (ih hlt') rfl (by simp) ?_ (by simp) (by simp)
              simp
              exact wrap_i64 _ (by omega) (by omega)
        · have hge' : j = d.files.length := by simp at hge; omega
          subst hge'
          repeat (first
            | (refine AWP_seq (AWP_regS tOk rfl ?_); simp)
            | (refine AWP_regS tOk rfl ?_; simp)
            | (refine AWP_skip ?_; simp)
            | (refine AWP_exit ?_; simp)
            | (refine AWP_ret ?_; simp)
            | refine AWP_block ?_
            | refine AWP_seq ?_)
          refine AStep_PC rfl rfl (by simp) (pc12) rfl ?_
          rintro _ rfl
          simp
          repeat (first
            | (refine AWP_seq (AWP_regS tOk rfl ?_); simp)
            | (refine AWP_regS tOk rfl ?_; simp)
            | (refine AWP_skip ?_; simp)
            | (refine AWP_exit ?_; simp)
            | (refine AWP_ret ?_; simp)
            | refine AWP_block ?_
            | refine AWP_seq ?_)
end Go.Abs
set_option maxRecDepth 100000
namespace Go.Abs
open Go Go.Proofs
set_option linter.unusedSimpArgs false
attribute [local irreducible] changedR renamePR removePR syncPR crashR checkR readR few
attribute [simp] T55 T56

def ent (D : Disk) (w : List UInt8) : AV := .agg [.list (D.files.map encF), .i D.space, .str w]
def tab4 (S A B C : Disk) (v w : List UInt8) : List AV := [ent S v, ent A v, ent B v, ent C w]
@[simp] theorem range4 : ([0, 1, 2, 3] = List.range 4) = True := by decide
set_option maxHeartbeats 8000000 in
theorem pc7 (d : Disk) (s : List UInt8) (cs : List Int) (hd : DB d) (hs : s.length ≤ 140737488355328) : PC Tryd.prog 7 [encD d, .str s, .list (cs.map encI)] (fun r => r = .bool true) := by
  refine PC_body tOk Tryd.func7 rfl Tryd.results7 rfl (by simp [Tryd.ntmps7]) ?_
  rw [Tryd.ntmps7]
  simp only [argSlots]
  simp only [encD]
  repeat (first
    | (refine AWP_seq (AWP_regS tOk rfl ?_); simp)
    | (refine AWP_regS tOk rfl ?_; simp)
    | (refine AWP_skip ?_; simp)
    | (refine AWP_exit ?_; simp)
    | (refine AWP_ret ?_; simp)
    | refine AWP_block ?_
    | refine AWP_seq ?_)
  refine AStep_PC rfl rfl (by simp) (pc27' d) rfl ?_
  rintro _ rfl
  simp
  repeat (first
    | (refine AWP_seq (AWP_regS tOk rfl ?_); simp)
    | (refine AWP_regS tOk rfl ?_; simp)
    | (refine AWP_skip ?_; simp)
    | (refine AWP_exit ?_; simp)
    | (refine AWP_ret ?_; simp)
    | refine AWP_block ?_
    | refine AWP_seq ?_)
  refine AWP_cond2 rfl (fun h => ?_) (fun h => ?_)
  · repeat (first
      | (refine AWP_seq (AWP_regS tOk rfl ?_); simp)
      | (refine AWP_regS tOk rfl ?_; simp)
      | (refine AWP_skip ?_; simp)
      | (refine AWP_exit ?_; simp)
      | (refine AWP_ret ?_; simp)
      | refine AWP_block ?_
      | refine AWP_seq ?_)
    refine AStep_PC rfl rfl (by simp) (pc12) rfl ?_
    rintro _ rfl
    simp
    repeat (first
      | (refine AWP_seq (AWP_regS tOk rfl ?_); simp)
      | (refine AWP_regS tOk rfl ?_; simp)
      | (refine AWP_skip ?_; simp)
      | (refine AWP_exit ?_; simp)
      | (refine AWP_ret ?_; simp)
      | refine AWP_block ?_
      | refine AWP_seq ?_)
  simp only [Bool.or_eq_false_iff, Bool.not_eq_false', decide_eq_false_iff_not, beq_eq_false_iff_ne, ne_eq] at h
  obtain ⟨⟨⟨hsm, _⟩, hc50⟩, hne⟩ := h
  obtain ⟨hg, hl20⟩ := smallB_good hsm
  have h0 : 0 < d.files.length := by omega
  refine AWP_keep (sl' := [(1, .str s), (2, .list (cs.map encI)), (3, .vptr 0 0), (6, .bool false)]) ?_ (by simp)
  generalize hx : d.files[0] = x
  have hxm : x ∈ d.files := by rw [← hx]; exact List.getElem_mem h0
  repeat (first
    | (refine AWP_seq (AWP_regS tOk rfl ?_); simp [h0, hx])
    | (refine AWP_regS tOk rfl ?_; simp [h0, hx])
    | (refine AWP_skip ?_; simp [h0, hx])
    | (refine AWP_exit ?_; simp [h0, hx])
    | (refine AWP_ret ?_; simp [h0, hx])
    | refine AWP_block ?_
    | refine AWP_seq ?_)
  refine AStep_PC rfl rfl (by simp) (pc28 d x.name) rfl ?_
  rintro _ rfl
  simp
  have hlaw := replaces_law hg (fun f hf => ⟨hd.dur f hf, hd.vol f hf⟩) hl20 hxm hs cs
  rcases hlaw with k1 | ⟨k1, S, e1, k2, k3, hlaw⟩
  · repeat (first
      | (refine AWP_seq (AWP_regS tOk rfl ?_); simp [k1])
      | (refine AWP_regS tOk rfl ?_; simp [k1])
      | (refine AWP_skip ?_; simp [k1])
      | (refine AWP_exit ?_; simp [k1])
      | (refine AWP_ret ?_; simp [k1])
      | refine AWP_block ?_
      | refine AWP_seq ?_)
    refine AWP_cond rfl ?_
    repeat (first
      | (refine AWP_seq (AWP_regS tOk rfl ?_); simp)
      | (refine AWP_regS tOk rfl ?_; simp)
      | (refine AWP_skip ?_; simp)
      | (refine AWP_exit ?_; simp)
      | (refine AWP_ret ?_; simp)
      | refine AWP_block ?_
      | refine AWP_seq ?_)
    refine AStep_PC rfl rfl (by simp) (pc12) rfl ?_
    rintro _ rfl
    simp
    repeat (first
      | (refine AWP_seq (AWP_regS tOk rfl ?_); simp)
      | (refine AWP_regS tOk rfl ?_; simp)
      | (refine AWP_skip ?_; simp)
      | (refine AWP_exit ?_; simp)
      | (refine AWP_ret ?_; simp)
      | refine AWP_block ?_
      | refine AWP_seq ?_)
  rw [k1, e1]
  repeat (first
    | (refine AWP_seq (AWP_regS tOk rfl ?_); simp)
    | (refine AWP_regS tOk rfl ?_; simp)
    | (refine AWP_skip ?_; simp)
    | (refine AWP_exit ?_; simp)
    | (refine AWP_ret ?_; simp)
    | refine AWP_block ?_
    | refine AWP_seq ?_)
  refine AWP_cond rfl ?_
  repeat (first
    | (refine AWP_seq (AWP_regS tOk rfl ?_); simp)
    | (refine AWP_regS tOk rfl ?_; simp)
    | (refine AWP_skip ?_; simp)
    | (refine AWP_exit ?_; simp)
    | (refine AWP_ret ?_; simp)
    | refine AWP_block ?_
    | refine AWP_seq ?_)
  refine AStep_PC rfl rfl (by simp) (pc21 S x.name) rfl ?_
  rintro _ rfl
  simp
  rw [k2]
  repeat (first
    | (refine AWP_seq (AWP_regS tOk rfl ?_); simp)
    | (refine AWP_regS tOk rfl ?_; simp)
    | (refine AWP_skip ?_; simp)
    | (refine AWP_exit ?_; simp)
    | (refine AWP_ret ?_; simp)
    | refine AWP_block ?_
    | refine AWP_seq ?_)
  refine AStep_PC rfl rfl (by simp) (pc13 S newF s) rfl ?_
  rintro _ rfl
  simp
  rcases hlaw with k4 | ⟨k4, hlaw⟩
  · rw [k4]
    repeat (first
      | (refine AWP_seq (AWP_regS tOk rfl ?_); simp)
      | (refine AWP_regS tOk rfl ?_; simp)
      | (refine AWP_skip ?_; simp)
      | (refine AWP_exit ?_; simp)
      | (refine AWP_ret ?_; simp)
      | refine AWP_block ?_
      | refine AWP_seq ?_)
    refine AWP_cond rfl ?_
    repeat (first
      | (refine AWP_seq (AWP_regS tOk rfl ?_); simp)
      | (refine AWP_regS tOk rfl ?_; simp)
      | (refine AWP_skip ?_; simp)
      | (refine AWP_exit ?_; simp)
      | (refine AWP_ret ?_; simp)
      | refine AWP_block ?_
      | refine AWP_seq ?_)
    refine AStep_PC rfl rfl (by simp) (pc12) rfl ?_
    rintro _ rfl
    simp
    repeat (first
      | (refine AWP_seq (AWP_regS tOk rfl ?_); simp)
      | (refine AWP_regS tOk rfl ?_; simp)
      | (refine AWP_skip ?_; simp)
      | (refine AWP_exit ?_; simp)
      | (refine AWP_ret ?_; simp)
      | refine AWP_block ?_
      | refine AWP_seq ?_)
  rw [k4]
  rcases hlaw with k5 | ⟨k5, A, e2, k6, hlaw⟩
  · have hnb : (x.name == [110, 101, 119, 45, 102, 105, 108, 101]) = true := by rw [k5]; rfl
    repeat (first
      | (refine AWP_seq (AWP_regS tOk rfl ?_); simp [hnb])
      | (refine AWP_regS tOk rfl ?_; simp [hnb])
      | (refine AWP_skip ?_; simp [hnb])
      | (refine AWP_exit ?_; simp [hnb])
      | (refine AWP_ret ?_; simp [hnb])
      | refine AWP_block ?_
      | refine AWP_seq ?_)
    refine AWP_cond (b := true) (by simp [hnb]) ?_
    repeat (first
      | (refine AWP_seq (AWP_regS tOk rfl ?_); simp)
      | (refine AWP_regS tOk rfl ?_; simp)
      | (refine AWP_skip ?_; simp)
      | (refine AWP_exit ?_; simp)
      | (refine AWP_ret ?_; simp)
      | refine AWP_block ?_
      | refine AWP_seq ?_)
    refine AStep_PC rfl rfl (by simp) (pc12) rfl ?_
    rintro _ rfl
    simp
    repeat (first
      | (refine AWP_seq (AWP_regS tOk rfl ?_); simp)
      | (refine AWP_regS tOk rfl ?_; simp)
      | (refine AWP_skip ?_; simp)
      | (refine AWP_exit ?_; simp)
      | (refine AWP_ret ?_; simp)
      | refine AWP_block ?_
      | refine AWP_seq ?_)
  have hnb : (x.name == [110, 101, 119, 45, 102, 105, 108, 101]) = false := by simpa [newF] using k5
  rw [e2]
  repeat (first
    | (refine AWP_seq (AWP_regS tOk rfl ?_); simp [hnb])
    | (refine AWP_regS tOk rfl ?_; simp [hnb])
    | (refine AWP_skip ?_; simp [hnb])
    | (refine AWP_exit ?_; simp [hnb])
    | (refine AWP_ret ?_; simp [hnb])
    | refine AWP_block ?_
    | refine AWP_seq ?_)
  refine AWP_cond (b := false) (by simp [hnb]) ?_
  repeat (first
    | (refine AWP_seq (AWP_regS tOk rfl ?_); simp)
    | (refine AWP_regS tOk rfl ?_; simp)
    | (refine AWP_skip ?_; simp)
    | (refine AWP_exit ?_; simp)
    | (refine AWP_ret ?_; simp)
    | refine AWP_block ?_
    | refine AWP_seq ?_)
  refine AStep_PC rfl rfl (by simp) (pc28 A newF) rfl ?_
  rintro _ rfl
  simp
  rcases hlaw with k7 | ⟨k7, B, e3, k8, C, e4, k9, k10, k11, q1, q2, q3, q4⟩
  · rw [k7]
    repeat (first
      | (refine AWP_seq (AWP_regS tOk rfl ?_); simp)
      | (refine AWP_regS tOk rfl ?_; simp)
      | (refine AWP_skip ?_; simp)
      | (refine AWP_exit ?_; simp)
      | (refine AWP_ret ?_; simp)
      | refine AWP_block ?_
      | refine AWP_seq ?_)
    refine AStep_PC rfl rfl (by simp) (pc29 (syncPR A newF).1 newF x.name) rfl ?_
    rintro _ rfl
    simp
    repeat (first
      | (refine AWP_seq (AWP_regS tOk rfl ?_); simp)
      | (refine AWP_regS tOk rfl ?_; simp)
      | (refine AWP_skip ?_; simp)
      | (refine AWP_exit ?_; simp)
      | (refine AWP_ret ?_; simp)
      | refine AWP_block ?_
      | refine AWP_seq ?_)
    refine AWP_cond rfl ?_
    repeat (first
      | (refine AWP_seq (AWP_regS tOk rfl ?_); simp)
      | (refine AWP_regS tOk rfl ?_; simp)
      | (refine AWP_skip ?_; simp)
      | (refine AWP_exit ?_; simp)
      | (refine AWP_ret ?_; simp)
      | refine AWP_block ?_
      | refine AWP_seq ?_)
    refine AStep_PC rfl rfl (by simp) (pc12) rfl ?_
    rintro _ rfl
    simp
    repeat (first
      | (refine AWP_seq (AWP_regS tOk rfl ?_); simp)
      | (refine AWP_regS tOk rfl ?_; simp)
      | (refine AWP_skip ?_; simp)
      | (refine AWP_exit ?_; simp)
      | (refine AWP_ret ?_; simp)
      | refine AWP_block ?_
      | refine AWP_seq ?_)
  rw [k7, e3]
  repeat (first
    | (refine AWP_seq (AWP_regS tOk rfl ?_); simp)
    | (refine AWP_regS tOk rfl ?_; simp)
    | (refine AWP_skip ?_; simp)
    | (refine AWP_exit ?_; simp)
    | (refine AWP_ret ?_; simp)
    | refine AWP_block ?_
    | refine AWP_seq ?_)
  refine AStep_PC rfl rfl (by simp) (pc29 B newF x.name) rfl ?_
  rintro _ rfl
  simp
  rw [e4]
  repeat (first
    | (refine AWP_seq (AWP_regS tOk rfl ?_); simp)
    | (refine AWP_regS tOk rfl ?_; simp)
    | (refine AWP_skip ?_; simp)
    | (refine AWP_exit ?_; simp)
    | (refine AWP_ret ?_; simp)
    | refine AWP_block ?_
    | refine AWP_seq ?_)
  refine AWP_cond rfl ?_
  repeat (first
    | (refine AWP_seq (AWP_regS tOk rfl ?_); simp)
    | (refine AWP_regS tOk rfl ?_; simp)
    | (refine AWP_skip ?_; simp)
    | (refine AWP_exit ?_; simp)
    | (refine AWP_ret ?_; simp)
    | refine AWP_block ?_
    | refine AWP_seq ?_)
  refine AWP_freeze 5 rfl ?_
  simp
  refine AWP_countI 4 (fun _ => True) (fun j => [(2, .list (cs.map encI)), (6, .bool false), (7, .str x.name), (16, .vptr 4 0), (134, .list (tab4 S A B C x.vol s)), (135, .i 4), (136, .i j)]) (fun _ => [.vars [.list (d.files.map encF), .i d.space], .vars [.list (S.files.map encF), .i S.space], .vars [.list (A.files.map encF), .i A.space], .vars [.list (B.files.map encF), .i B.space], .vars [.list (C.files.map encF), .i C.space]]) rfl (by simp) (by simp [tab4, ent]) (by simp) (by simp) trivial ?_
  intro j hj _ ih
  repeat (first
    | (refine AWP_seq (AWP_regS tOk rfl ?_); simp)
    | (refine AWP_regS tOk rfl ?_; simp)
    | (refine AWP_skip ?_; simp)
    | (refine AWP_exit ?_; simp)
    | (refine AWP_ret ?_; simp)
    | refine AWP_block ?_
    | refine AWP_seq ?_)
  refine AWP_cond2 rfl (fun hlt => ?_) (fun hge => ?_)
  · have hlt' : j < 4 := by simp at hlt; omega
    have hih := ih hlt' trivial
    obtain rfl | rfl | rfl | rfl : j = 0 ∨ j = 1 ∨ j = 2 ∨ j = 3 := by omega
    · repeat (first
        | (refine AWP_seq (AWP_regS tOk rfl ?_); simp [tab4, ent])
        | (refine AWP_regS tOk rfl ?_; simp [tab4, ent])
        | (refine AWP_skip ?_; simp [tab4, ent])
        | (refine AWP_exit ?_; simp [tab4, ent])
        | (refine AWP_ret ?_; simp [tab4, ent])
        | refine AWP_block ?_
        | refine AWP_seq ?_)
      refine AStep_PC rfl rfl (by simp) (pc18 S (fun f hf => by have := k3 f hf; omega) cs (by omega)) rfl ?_
      rintro _ rfl
      simp
      repeat (first
        | (refine AWP_seq (AWP_regS tOk rfl ?_); simp)
        | (refine AWP_regS tOk rfl ?_; simp)
        | (refine AWP_skip ?_; simp)
        | (refine AWP_exit ?_; simp)
        | (refine AWP_ret ?_; simp)
        | refine AWP_block ?_
        | refine AWP_seq ?_)
      rcases q1 with e | ⟨e, e'⟩
      · rw [e]
        refine AWP_cond rfl ?_
        repeat (first
          | (refine AWP_seq (AWP_regS tOk rfl ?_); simp)
          | (refine AWP_regS tOk rfl ?_; simp)
          | (refine AWP_skip ?_; simp)
          | (refine AWP_exit ?_; simp)
          | (refine AWP_ret ?_; simp)
          | refine AWP_block ?_
          | refine AWP_seq ?_)
        refine AStep_PC rfl rfl (by simp) (pc12) rfl ?_
        rintro _ rfl
        simp
        repeat (first
          | (refine AWP_seq (AWP_regS tOk rfl ?_); simp)
          | (refine AWP_regS tOk rfl ?_; simp)
          | (refine AWP_skip ?_; simp)
          | (refine AWP_exit ?_; simp)
          | (refine AWP_ret ?_; simp)
          | refine AWP_block ?_
          | refine AWP_seq ?_)
      · rw [e]
        refine AWP_cond rfl ?_
        repeat (first
          | (refine AWP_seq (AWP_regS tOk rfl ?_); simp)
          | (refine AWP_regS tOk rfl ?_; simp)
          | (refine AWP_skip ?_; simp)
          | (refine AWP_exit ?_; simp)
          | (refine AWP_ret ?_; simp)
          | refine AWP_block ?_
          | refine AWP_seq ?_)
        refine AStep_PC rfl rfl (by simp) (pc21 (crashR S cs).1 x.name) rfl ?_
        rintro _ rfl
        simp
        rw [e']
        repeat (first
          | (refine AWP_seq (AWP_regS tOk rfl ?_); simp)
          | (refine AWP_regS tOk rfl ?_; simp)
          | (refine AWP_skip ?_; simp)
          | (refine AWP_exit ?_; simp)
          | (refine AWP_ret ?_; simp)
          | refine AWP_block ?_
          | refine AWP_seq ?_)
        refine AWP_cond (b := false) (by simp) ?_
        repeat (first
          | (refine AWP_seq (AWP_regS tOk rfl ?_); simp)
          | (refine AWP_regS tOk rfl ?_; simp)
          | (refine AWP_skip ?_; simp)
          | (refine AWP_exit ?_; simp)
          | (refine AWP_ret ?_; simp)
          | refine AWP_block ?_
          | refine AWP_seq ?_)
        refine ALoop_end _ hih rfl (by simp) ?_ (by simp) (by simp)
        simp
        exact ⟨rfl, by decide +kernel⟩
    · repeat (first
        | (refine AWP_seq (AWP_regS tOk rfl ?_); simp [tab4, ent])
        | (refine AWP_regS tOk rfl ?_; simp [tab4, ent])
        | (refine AWP_skip ?_; simp [tab4, ent])
        | (refine AWP_exit ?_; simp [tab4, ent])
        | (refine AWP_ret ?_; simp [tab4, ent])
        | refine AWP_block ?_
        | refine AWP_seq ?_)
      refine AStep_PC rfl rfl (by simp) (pc18 A (fun f hf => by have := k6 f hf; omega) cs (by omega)) rfl ?_
      rintro _ rfl
      simp
      repeat (first
        | (refine AWP_seq (AWP_regS tOk rfl ?_); simp)
        | (refine AWP_regS tOk rfl ?_; simp)
        | (refine AWP_skip ?_; simp)
        | (refine AWP_exit ?_; simp)
        | (refine AWP_ret ?_; simp)
        | refine AWP_block ?_
        | refine AWP_seq ?_)
      rcases q2 with e | ⟨e, e'⟩
      · rw [e]
        refine AWP_cond rfl ?_
        repeat (first
          | (refine AWP_seq (AWP_regS tOk rfl ?_); simp)
          | (refine AWP_regS tOk rfl ?_; simp)
          | (refine AWP_skip ?_; simp)
          | (refine AWP_exit ?_; simp)
          | (refine AWP_ret ?_; simp)
          | refine AWP_block ?_
          | refine AWP_seq ?_)
        refine AStep_PC rfl rfl (by simp) (pc12) rfl ?_
        rintro _ rfl
        simp
        repeat (first
          | (refine AWP_seq (AWP_regS tOk rfl ?_); simp)
          | (refine AWP_regS tOk rfl ?_; simp)
          | (refine AWP_skip ?_; simp)
          | (refine AWP_exit ?_; simp)
          | (refine AWP_ret ?_; simp)
          | refine AWP_block ?_
          | refine AWP_seq ?_)
      · rw [e]
        refine AWP_cond rfl ?_
        repeat (first
          | (refine AWP_seq (AWP_regS tOk rfl ?_); simp)
          | (refine AWP_regS tOk rfl ?_; simp)
          | (refine AWP_skip ?_; simp)
          | (refine AWP_exit ?_; simp)
          | (refine AWP_ret ?_; simp)
          | refine AWP_block ?_
          | refine AWP_seq ?_)
        refine AStep_PC rfl rfl (by simp) (pc21 (crashR A cs).1 x.name) rfl ?_
        rintro _ rfl
        simp
        rw [e']
        repeat (first
          | (refine AWP_seq (AWP_regS tOk rfl ?_); simp)
          | (refine AWP_regS tOk rfl ?_; simp)
          | (refine AWP_skip ?_; simp)
          | (refine AWP_exit ?_; simp)
          | (refine AWP_ret ?_; simp)
          | refine AWP_block ?_
          | refine AWP_seq ?_)
        refine AWP_cond (b := false) (by simp) ?_
        repeat (first
          | (refine AWP_seq (AWP_regS tOk rfl ?_); simp)
          | (refine AWP_regS tOk rfl ?_; simp)
          | (refine AWP_skip ?_; simp)
          | (refine AWP_exit ?_; simp)
          | (refine AWP_ret ?_; simp)
          | refine AWP_block ?_
          | refine AWP_seq ?_)
        refine ALoop_end _ hih rfl (by simp) ?_ (by simp) (by simp)
        simp
        exact ⟨rfl, by decide +kernel⟩
    · repeat (first
        | (refine AWP_seq (AWP_regS tOk rfl ?_); simp [tab4, ent])
        | (refine AWP_regS tOk rfl ?_; simp [tab4, ent])
        | (refine AWP_skip ?_; simp [tab4, ent])
        | (refine AWP_exit ?_; simp [tab4, ent])
        | (refine AWP_ret ?_; simp [tab4, ent])
        | refine AWP_block ?_
        | refine AWP_seq ?_)
      refine AStep_PC rfl rfl (by simp) (pc18 B (fun f hf => by have := k8 f hf; omega) cs (by omega)) rfl ?_
      rintro _ rfl
      simp
      repeat (first
        | (refine AWP_seq (AWP_regS tOk rfl ?_); simp)
        | (refine AWP_regS tOk rfl ?_; simp)
        | (refine AWP_skip ?_; simp)
        | (refine AWP_exit ?_; simp)
        | (refine AWP_ret ?_; simp)
        | refine AWP_block ?_
        | refine AWP_seq ?_)
      rcases q3 with e | ⟨e, e'⟩
      · rw [e]
        refine AWP_cond rfl ?_
        repeat (first
          | (refine AWP_seq (AWP_regS tOk rfl ?_); simp)
          | (refine AWP_regS tOk rfl ?_; simp)
          | (refine AWP_skip ?_; simp)
          | (refine AWP_exit ?_; simp)
          | (refine AWP_ret ?_; simp)
          | refine AWP_block ?_
          | refine AWP_seq ?_)
        refine AStep_PC rfl rfl (by simp) (pc12) rfl ?_
        rintro _ rfl
        simp
        repeat (first
          | (refine AWP_seq (AWP_regS tOk rfl ?_); simp)
          | (refine AWP_regS tOk rfl ?_; simp)
          | (refine AWP_skip ?_; simp)
          | (refine AWP_exit ?_; simp)
          | (refine AWP_ret ?_; simp)
          | refine AWP_block ?_
          | refine AWP_seq ?_)
      · rw [e]
        refine AWP_cond rfl ?_
        repeat (first
          | (refine AWP_seq (AWP_regS tOk rfl ?_); simp)
          | (refine AWP_regS tOk rfl ?_; simp)
          | (refine AWP_skip ?_; simp)
          | (refine AWP_exit ?_; simp)
          | (refine AWP_ret ?_; simp)
          | refine AWP_block ?_
          | refine AWP_seq ?_)
        refine AStep_PC rfl rfl (by simp) (pc21 (crashR B cs).1 x.name) rfl ?_
        rintro _ rfl
        simp
        rw [e']
        repeat (first
          | (refine AWP_seq (AWP_regS tOk rfl ?_); simp)
          | (refine AWP_regS tOk rfl ?_; simp)
          | (refine AWP_skip ?_; simp)
          | (refine AWP_exit ?_; simp)
          | (refine AWP_ret ?_; simp)
          | refine AWP_block ?_
          | refine AWP_seq ?_)
        refine AWP_cond (b := false) (by simp) ?_
        repeat (first
          | (refine AWP_seq (AWP_regS tOk rfl ?_); simp)
          | (refine AWP_regS tOk rfl ?_; simp)
          | (refine AWP_skip ?_; simp)
          | (refine AWP_exit ?_; simp)
          | (refine AWP_ret ?_; simp)
          | refine AWP_block ?_
          | refine AWP_seq ?_)
        refine ALoop_end _ hih rfl (by simp) ?_ (by simp) (by simp)
        simp
        exact ⟨rfl, by decide +kernel⟩
    · repeat (first
        | (refine AWP_seq (AWP_regS tOk rfl ?_); simp [tab4, ent])
        | (refine AWP_regS tOk rfl ?_; simp [tab4, ent])
        | (refine AWP_skip ?_; simp [tab4, ent])
        | (refine AWP_exit ?_; simp [tab4, ent])
        | (refine AWP_ret ?_; simp [tab4, ent])
        | refine AWP_block ?_
        | refine AWP_seq ?_)
      refine AStep_PC rfl rfl (by simp) (pc18 C (fun f hf => by have := k9 f hf; omega) cs (by omega)) rfl ?_
      rintro _ rfl
      simp
      repeat (first
        | (refine AWP_seq (AWP_regS tOk rfl ?_); simp)
        | (refine AWP_regS tOk rfl ?_; simp)
        | (refine AWP_skip ?_; simp)
        | (refine AWP_exit ?_; simp)
        | (refine AWP_ret ?_; simp)
        | refine AWP_block ?_
        | refine AWP_seq ?_)
      rcases q4 with e | ⟨e, e'⟩
      · rw [e]
        refine AWP_cond rfl ?_
        repeat (first
          | (refine AWP_seq (AWP_regS tOk rfl ?_); simp)
          | (refine AWP_regS tOk rfl ?_; simp)
          | (refine AWP_skip ?_; simp)
          | (refine AWP_exit ?_; simp)
          | (refine AWP_ret ?_; simp)
          | refine AWP_block ?_
          | refine AWP_seq ?_)
        refine AStep_PC rfl rfl (by simp) (pc12) rfl ?_
        rintro _ rfl
        simp
        repeat (first
          | (refine AWP_seq (AWP_regS tOk rfl ?_); simp)
          | (refine AWP_regS tOk rfl ?_; simp)
          | (refine AWP_skip ?_; simp)
          | (refine AWP_exit ?_; simp)
          | (refine AWP_ret ?_; simp)
          | refine AWP_block ?_
          | refine AWP_seq ?_)
      · rw [e]
        refine AWP_cond rfl ?_
        repeat (first
          | (refine AWP_seq (AWP_regS tOk rfl ?_); simp)
          | (refine AWP_regS tOk rfl ?_; simp)
          | (refine AWP_skip ?_; simp)
          | (refine AWP_exit ?_; simp)
          | (refine AWP_ret ?_; simp)
          | refine AWP_block ?_
          | refine AWP_seq ?_)
        refine AStep_PC rfl rfl (by simp) (pc21 (crashR C cs).1 x.name) rfl ?_
        rintro _ rfl
        simp
        rw [e']
        repeat (first
          | (refine AWP_seq (AWP_regS tOk rfl ?_); simp)
          | (refine AWP_regS tOk rfl ?_; simp)
          | (refine AWP_skip ?_; simp)
          | (refine AWP_exit ?_; simp)
          | (refine AWP_ret ?_; simp)
          | refine AWP_block ?_
          | refine AWP_seq ?_)
        refine AWP_cond (b := false) (by simp) ?_
        repeat (first
          | (refine AWP_seq (AWP_regS tOk rfl ?_); simp)
          | (refine AWP_regS tOk rfl ?_; simp)
          | (refine AWP_skip ?_; simp)
          | (refine AWP_exit ?_; simp)
          | (refine AWP_ret ?_; simp)
          | refine AWP_block ?_
          | refine AWP_seq ?_)
        refine ALoop_end _ hih rfl (by simp) ?_ (by simp) (by simp)
        simp
        exact ⟨rfl, by decide +kernel⟩
  · have hge' : j = 4 := by simp at hge; omega
    subst hge'
    repeat (first
      | (refine AWP_seq (AWP_regS tOk rfl ?_); simp)
      | (refine AWP_regS tOk rfl ?_; simp)
      | (refine AWP_skip ?_; simp)
      | (refine AWP_exit ?_; simp)
      | (refine AWP_ret ?_; simp)
      | refine AWP_block ?_
      | refine AWP_seq ?_)
    refine AStep_PC rfl rfl (by simp) (pc23 C newF) rfl ?_
    rintro _ rfl
    simp
    rw [k10]
    simp only [findAV]
    repeat (first
      | (refine AWP_seq (AWP_regS tOk rfl ?_); simp)
      | (refine AWP_regS tOk rfl ?_; simp)
      | (refine AWP_skip ?_; simp)
      | (refine AWP_exit ?_; simp)
      | (refine AWP_ret ?_; simp)
      | refine AWP_block ?_
      | refine AWP_seq ?_)
    refine AStep_PC rfl rfl (by simp) (pc12) rfl ?_
    rintro _ rfl
    simp
    repeat (first
      | (refine AWP_seq (AWP_regS tOk rfl ?_); simp)
      | (refine AWP_regS tOk rfl ?_; simp)
      | (refine AWP_skip ?_; simp)
      | (refine AWP_exit ?_; simp)
      | (refine AWP_ret ?_; simp)
      | refine AWP_block ?_
      | refine AWP_seq ?_)
    refine AStep_PC (by simp) rfl (by simp) (pc25 C) rfl ?_
    rintro _ rfl
    rw [k11]
    simp
    repeat (first
      | (refine AWP_seq (AWP_regS tOk rfl ?_); simp)
      | (refine AWP_regS tOk rfl ?_; simp)
      | (refine AWP_skip ?_; simp)
      | (refine AWP_exit ?_; simp)
      | (refine AWP_ret ?_; simp)
      | refine AWP_block ?_
      | refine AWP_seq ?_)
end Go.Abs
set_option maxRecDepth 100000
namespace Go.Abs
open Go Go.Proofs Go.RowKit

theorem list_of {α : Type} {g : α → AV} {Q : α → Prop} : ∀ xs : List AV, (∀ x ∈ xs, ∃ a, x = g a ∧ Q a) → ∃ l : List α, xs = l.map g ∧ ∀ a ∈ l, Q a
  | [], _ => ⟨[], rfl, by simp⟩
  | x :: xs, h => by
    obtain ⟨a, rfl, ha⟩ := h x (by simp)
    obtain ⟨l, rfl, hl⟩ := list_of xs (fun y hy => h y (by simp [hy]))
    exact ⟨a :: l, rfl, by simpa using ⟨ha, hl⟩⟩
theorem reach_le : reachBytes ≤ 140737488355328 := by decide
theorem shp52 {d : Nat} {zs : List AV} (h : Shp T (d + 2) 52 zs) : ∃ f : File, zs = (encF f).cells ∧ f.name.length ≤ reachBytes ∧ f.dur.length ≤ reachBytes ∧ f.vol.length ≤ reachBytes := by
  simp only [Shp, T52, T9, ShpI, ShpF, List.map_cons, List.map_nil] at h
  obtain ⟨_, _, rfl, ⟨a, rfl, ha⟩, _, _, rfl, ⟨b, rfl, hb⟩, _, _, rfl, ⟨c, rfl, hc⟩, rfl⟩ := h
  exact ⟨⟨a, b, c⟩, rfl, ha, hb, hc⟩
theorem shp24 {d : Nat} {zs : List AV} (h : Shp T (d + 4) 24 zs) : ∃ k : Disk, zs = (encD k).cells ∧ DB k := by
  simp only [Shp, T24, ShpI, ShpF, List.map_cons, List.map_nil] at h
  obtain ⟨_, _, rfl, h1, _, _, rfl, h2, rfl⟩ := h
  simp only [T22, ShpI] at h1
  simp only [T3, ShpI] at h2
  obtain ⟨ei, xs, he, rfl, hl, hx⟩ := h1
  obtain ⟨n, rfl, _, _⟩ := h2
  rw [T52] at he
  cases he
  obtain ⟨l, rfl, hq⟩ := list_of (g := encF) (Q := fun f => f.name.length ≤ reachBytes ∧ f.dur.length ≤ reachBytes ∧ f.vol.length ≤ reachBytes) xs (fun x hxm => by
    obtain ⟨zs, rfl, hz⟩ := hx x hxm
    obtain ⟨f, rfl, hf⟩ := shp52 (d := d) hz
    exact ⟨f, rfl, hf⟩)
  have hr := reach_le
  refine ⟨⟨l, n⟩, rfl, ?_, fun f hf => ?_, fun f hf => ?_, fun f hf => ?_⟩
  · simp only [List.length_map] at hl; simp only; omega
  · have := hq f hf; omega
  · have := hq f hf; omega
  · have := hq f hf; omega
theorem shp9 {d : Nat} {zs : List AV} (h : Shp T (d + 1) 9 zs) : ∃ s : List UInt8, zs = [.str s] ∧ s.length ≤ 140737488355328 := by
  simp only [Shp, T9, ShpI] at h
  obtain ⟨s, rfl, hs⟩ := h
  exact ⟨s, rfl, Nat.le_trans hs reach_le⟩
theorem shp34 {d : Nat} {zs : List AV} (h : Shp T (d + 2) 34 zs) : ∃ l : List Int, zs = [.list (l.map encI)] ∧ l.length ≤ 140737488355328 ∧ ∀ n ∈ l, -9223372036854775808 ≤ n ∧ n ≤ 9223372036854775807 := by
  simp only [Shp, T34, ShpI] at h
  obtain ⟨ei, xs, he, rfl, hl, hx⟩ := h
  rw [T3] at he
  cases he
  obtain ⟨l, rfl, hq⟩ := list_of (g := encI) (Q := fun n => -9223372036854775808 ≤ n ∧ n ≤ 9223372036854775807) xs (fun x hxm => by
    obtain ⟨zs, rfl, hz⟩ := hx x hxm
    simp only [T3, ShpI] at hz
    obtain ⟨n, rfl, h1, h2⟩ := hz
    exact ⟨n, rfl, h1, h2⟩)
  have hr := reach_le
  exact ⟨l, rfl, by simp at hl; omega, hq⟩
/-- The arguments, by their types. -/
theorem args_24_34 {xs : List AV} (h : ArgsShp T 8 [24, 34] xs) : ∃ (k : Disk) (l : List Int), xs = [encD k, .list (l.map encI)] ∧ DB k ∧ l.length ≤ 140737488355328 := by
  obtain ⟨i, zs, r, hi, rfl, h1, h⟩ := h
  obtain ⟨i2, zs2, r2, hi2, rfl, h2, rfl⟩ := h
  rw [T24] at hi; cases hi
  rw [T34] at hi2; cases hi2
  obtain ⟨k, rfl, hk⟩ := shp24 (d := 4) h1
  obtain ⟨l, rfl, hl, _⟩ := shp34 (d := 6) h2
  exact ⟨k, l, rfl, hk, hl⟩
theorem args_24_9 {xs : List AV} (h : ArgsShp T 8 [24, 9] xs) : ∃ (k : Disk) (s : List UInt8), xs = [encD k, .str s] ∧ DB k ∧ s.length ≤ 140737488355328 := by
  obtain ⟨i, zs, r, hi, rfl, h1, h⟩ := h
  obtain ⟨i2, zs2, r2, hi2, rfl, h2, rfl⟩ := h
  rw [T24] at hi; cases hi
  rw [T9] at hi2; cases hi2
  obtain ⟨k, rfl, hk⟩ := shp24 (d := 4) h1
  obtain ⟨s, rfl, hs⟩ := shp9 (d := 7) h2
  exact ⟨k, s, rfl, hk, hs⟩
theorem args_24_9_9 {xs : List AV} (h : ArgsShp T 8 [24, 9, 9] xs) : ∃ (k : Disk) (s t : List UInt8), xs = [encD k, .str s, .str t] ∧ DB k ∧ s.length ≤ 140737488355328 ∧ t.length ≤ 140737488355328 := by
  obtain ⟨i, zs, r, hi, rfl, h1, h⟩ := h
  obtain ⟨i2, zs2, r2, hi2, rfl, h2, h⟩ := h
  obtain ⟨i3, zs3, r3, hi3, rfl, h3, rfl⟩ := h
  rw [T24] at hi; cases hi
  rw [T9] at hi2; cases hi2
  rw [T9] at hi3; cases hi3
  obtain ⟨k, rfl, hk⟩ := shp24 (d := 4) h1
  obtain ⟨s, rfl, hs⟩ := shp9 (d := 7) h2
  obtain ⟨t, rfl, ht⟩ := shp9 (d := 7) h3
  exact ⟨k, s, t, rfl, hk, hs, ht⟩
theorem shp50 {d : Nat} {zs : List AV} (h : Shp T (d + 2) 50 zs) : ∃ a b : List UInt8, zs = [.str a, .str b] ∧ a.length ≤ 140737488355328 ∧ b.length ≤ 140737488355328 := by
  simp only [Shp, T50, T9, ShpI, ShpN] at h
  obtain ⟨_, _, rfl, ⟨a, rfl, ha⟩, _, _, rfl, ⟨b, rfl, hb⟩, rfl⟩ := h
  exact ⟨a, b, rfl, Nat.le_trans ha reach_le, Nat.le_trans hb reach_le⟩
theorem args_24_9_50 {xs : List AV} (h : ArgsShp T 8 [24, 9, 50] xs) : ∃ (k : Disk) (s a b : List UInt8), xs = [encD k, .str s, .agg [.str a, .str b]] ∧ DB k ∧ s.length ≤ 140737488355328 ∧ a.length ≤ 140737488355328 ∧ b.length ≤ 140737488355328 := by
  obtain ⟨i, zs, r, hi, rfl, h1, h⟩ := h
  obtain ⟨i2, zs2, r2, hi2, rfl, h2, h⟩ := h
  obtain ⟨i3, zs3, r3, hi3, rfl, h3, rfl⟩ := h
  rw [T24] at hi; cases hi
  rw [T9] at hi2; cases hi2
  rw [T50] at hi3; cases hi3
  obtain ⟨k, rfl, hk⟩ := shp24 (d := 4) h1
  obtain ⟨s, rfl, hs⟩ := shp9 (d := 7) h2
  obtain ⟨a, b, rfl, ha, hb⟩ := shp50 (d := 6) h3
  exact ⟨k, s, a, b, rfl, hk, hs, ha, hb⟩
theorem args_24_9_34 {xs : List AV} (h : ArgsShp T 8 [24, 9, 34] xs) : ∃ (k : Disk) (s : List UInt8) (l : List Int), xs = [encD k, .str s, .list (l.map encI)] ∧ DB k ∧ s.length ≤ 140737488355328 ∧ l.length ≤ 140737488355328 := by
  obtain ⟨i, zs, r, hi, rfl, h1, h⟩ := h
  obtain ⟨i2, zs2, r2, hi2, rfl, h2, h⟩ := h
  obtain ⟨i3, zs3, r3, hi3, rfl, h3, rfl⟩ := h
  rw [T24] at hi; cases hi
  rw [T9] at hi2; cases hi2
  rw [T34] at hi3; cases hi3
  obtain ⟨k, rfl, hk⟩ := shp24 (d := 4) h1
  obtain ⟨s, rfl, hs⟩ := shp9 (d := 7) h2
  obtain ⟨l, rfl, hl, _⟩ := shp34 (d := 6) h3
  exact ⟨k, s, l, rfl, hk, hs, hl⟩
theorem args_24_34_34 {xs : List AV} (h : ArgsShp T 8 [24, 34, 34] xs) : ∃ (k : Disk) (l m : List Int), xs = [encD k, .list (l.map encI), .list (m.map encI)] ∧ DB k ∧ l.length ≤ 140737488355328 ∧ m.length ≤ 140737488355328 := by
  obtain ⟨i, zs, r, hi, rfl, h1, h⟩ := h
  obtain ⟨i2, zs2, r2, hi2, rfl, h2, h⟩ := h
  obtain ⟨i3, zs3, r3, hi3, rfl, h3, rfl⟩ := h
  rw [T24] at hi; cases hi
  rw [T34] at hi2; cases hi2
  rw [T34] at hi3; cases hi3
  obtain ⟨k, rfl, hk⟩ := shp24 (d := 4) h1
  obtain ⟨l, rfl, hl, _⟩ := shp34 (d := 6) h2
  obtain ⟨m, rfl, hm, _⟩ := shp34 (d := 6) h3
  exact ⟨k, l, m, rfl, hk, hl, hm⟩
end Go.Abs
set_option maxRecDepth 100000
namespace Go.Abs
open Go Go.Proofs Go.Proofs.YtopnlikoaljbmaaDoor Go.RowKit

theorem laidOut : laidOutB Tryd.prog = true := by kernel_rfl
theorem own : ownKnob Tryd.prog.godebug = none := by kernel_rfl

/-- A world for the witness: the settled one, the two tables holding what Go's library lays. -/
def tabCells (d : DataW Unit) : List Value := match d with
  | .agg xs => xs.flatMap fun
    | .lit (.int k n) => [.int k n]
    | .agg [.lit (.int k n), .lit (.int k' n')] => [.int k n, .int k' n']
    | _ => []
  | _ => []
def setTab (d : DataW Unit) : Obj → Obj
  | .cells _ t frozen => .cells (tabCells d).toArray t frozen
  | o => o
noncomputable def laidWorld (os : Os) : World :=
  { World.holding Tryd.prog os ⟨#[], #[], []⟩ with heap := ((World.holding Tryd.prog os ⟨#[], #[], []⟩).heap.modify 0 (setTab Rows.laid_unicode_utf8_first)).modify 1 (setTab Rows.laid_unicode_utf8_acceptRanges) }
end Go.Abs
