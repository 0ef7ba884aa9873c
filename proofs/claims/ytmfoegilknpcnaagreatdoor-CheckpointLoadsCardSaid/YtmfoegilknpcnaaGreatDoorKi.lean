/- Part Ki of the proof: an abstract machine over the model, and what the functions of the program hand back in its terms. No condition. -/
import Derived.Test.YtmfoegilknpcnaaGreatDoorKc
import Derived.Test.YtmfoegilknpcnaaGreatDoorKh
import Derived.Test.YtmfoegilknpcnaaGreatDoorKf
set_option linter.all false
set_option maxRecDepth 100000
namespace Go.Abs
open Go Go.Proofs
set_option linter.unusedSimpArgs false
theorem eqA_val2 (a b a' b' : Int) (c c' : List UInt8) : eqA T 9 94 (.agg [.int .i64 a, .int .i64 b, .str c]) (.agg [.int .i64 a', .int .i64 b', .str c']) = some (a == a' && (b == b' && c == c')) := by
  simp [eqA, eqFieldsA, outOf, TI.agg]
theorem eqA_rf2 (a b c a' b' c' : Int) : eqA T 9 241 (.agg [.int .i64 a, .int .i64 b, .int .i64 c]) (.agg [.int .i64 a', .int .i64 b', .int .i64 c']) = some (a == a' && (b == b' && c == c')) := by
  simp [eqA, eqFieldsA, outOf, TI.agg]
theorem eqA_stt (a b a' b' : Int) : eqA T 9 245 (.agg [.int .i64 a, .int .i64 b]) (.agg [.int .i64 a', .int .i64 b']) = some (a == a' && b == b') := by
  simp [eqA, eqFieldsA, outOf, TI.agg]
theorem eqA_bnd (a b c d a' b' c' d' : Int) : eqA T 9 243 (.agg [.int .i64 a, .int .i64 b, .int .i64 c, .int .i64 d]) (.agg [.int .i64 a', .int .i64 b', .int .i64 c', .int .i64 d']) = some (a == a' && (b == b' && (c == c' && d == d'))) := by
  simp [eqA, eqFieldsA, outOf, TI.agg]
theorem pc_sameVals (a : List Val) : PC Tryz.prog 213 [.list (a.map encV), .list (a.map encV)] (fun r => r = .bool true) := by
  refine PC_body tOk Tryz.func213 rfl Tryz.results213 rfl (by simp [Tryz.ntmps213]) ?_
  rw [Tryz.ntmps213]
  simp only [argSlots]
  refine AWP_len 0 rfl (fun hlen => ?_)
  rw [List.length_map] at hlen
  repeat first|((first|refine qa tOk rfl ?_|refine qb tOk rfl ?_|refine qc ?_|refine qd ?_|refine qe ?_);simp)|refine AWP_block ?_|refine AWP_seq ?_
  refine AWP_cond2 rfl (fun h => by simp at h) (fun _ => ?_)
  repeat first|((first|refine qa tOk rfl ?_|refine qb tOk rfl ?_|refine qc ?_|refine qd ?_|refine qe ?_);simp)|refine AWP_block ?_|refine AWP_seq ?_
  refine AWP_countI a.length (fun _ => True) (fun j => [(0, .list (a.map encV)), (1, .list (a.map encV)), (5, .i j)]) (fun _ => []) rfl (by simp) (by simp) (by simp) (by simp) trivial ?_
  intro j hj hI ih
  repeat first|((first|refine qa tOk rfl ?_|refine qb tOk rfl ?_|refine qc ?_|refine qd ?_|refine qe ?_);simp)|refine AWP_block ?_|refine AWP_seq ?_
  refine AWP_cond2 rfl (fun hlt => ?_) (fun hge => ?_)
  · have hlt' : j < a.length := by simpa using hlt
    repeat first|((first|refine qa tOk rfl ?_|refine qb tOk rfl ?_|refine qc ?_|refine qd ?_|refine qe ?_);simp [hlt'])|refine AWP_block ?_|refine AWP_seq ?_
    refine AWP_drawT tOk mixed [] (.val 0 (.val 1 (.val 2 (.val 3 (.val 4 (.val 5 (.val 6 (.val 7 (.val 8 (.done)))))))))) rfl (by kernel_rfl) ?_
    simp [hlt', eqA_val2]
    refine AWP_cond2 rfl (fun h => by simp at h) (fun _ => ?_)
    repeat first|((first|refine qa tOk rfl ?_|refine qb tOk rfl ?_|refine qc ?_|refine qd ?_|refine qe ?_);simp)|refine AWP_block ?_|refine AWP_seq ?_
    refine ALoop_end _ (ih hlt' trivial) rfl (by simp) ?_ (by simp) (by simp)
    simp
    exact wrap_i64 _ (by omega) (by omega)
  · repeat first|((first|refine qa tOk rfl ?_|refine qb tOk rfl ?_|refine qc ?_|refine qd ?_|refine qe ?_);simp)|refine AWP_block ?_|refine AWP_seq ?_
theorem pc_r5Ref2 (e : Ev) : PC Tryz.prog 212 [encE e] (fun r => r = .agg [.i e.time, .i e.source, .i e.seq]) := by
  refine PC_body tOk Tryz.func212 rfl Tryz.results212 rfl (by simp [Tryz.ntmps212]) ?_
  rw [Tryz.ntmps212]
  simp only [argSlots]
  obtain ⟨a, b, c, t, l⟩ := e
  repeat first|((first|refine qa tOk rfl ?_|refine qb tOk rfl ?_|refine qc ?_|refine qd ?_|refine qe ?_);simp)|refine AWP_block ?_|refine AWP_seq ?_
theorem pc_evEqual (e : Ev) : PC Tryz.prog 175 [encE e, encE e] (fun r => r = .bool true) := by
  refine PC_body tOk Tryz.func175 rfl Tryz.results175 rfl (by simp [Tryz.ntmps175]) ?_
  rw [Tryz.ntmps175]
  simp only [argSlots]
  have p := pc_r5Ref2 e
  obtain ⟨a, b, c, t, l⟩ := e
  simp only [encE] at p ⊢
  repeat first|((first|refine qa tOk rfl ?_|refine qb tOk rfl ?_|refine qc ?_|refine qd ?_|refine qe ?_);simp)|refine AWP_block ?_|refine AWP_seq ?_
  refine AWP_drawT tOk mixed [] (.val 0 (.val 2 (.one 1 (.one 3 (.val 4 (.val 5 (.val 6 (.val 7 (.val 8 (.val 9 (.val 10 (.val 11 (.val 12 (.val 13 (.val 14 (.val 15 (.val 16 (.one 17 (.val 18 (.val 19 (.done))))))))))))))))))))) rfl (by kernel_rfl) ?_
  simp
  refine AStep_PC rfl rfl (by simp) (p) rfl ?_
  rintro _ rfl
  simp [eqA_rf2]
  refine AStep_PC rfl rfl (by simp) (p) rfl ?_
  rintro _ rfl
  simp [eqA_rf2]
  refine AStep_PC rfl rfl (by simp) (pc_sameVals l) rfl ?_
  rintro _ rfl
  simp
  repeat first|((first|refine qa tOk rfl ?_|refine qb tOk rfl ?_|refine qc ?_|refine qd ?_|refine qe ?_);simp)|refine AWP_block ?_|refine AWP_seq ?_
theorem pc_sameEvs (a : List Ev) : PC Tryz.prog 128 [.list (a.map encE), .list (a.map encE)] (fun r => r = .bool true) := by
  refine PC_body tOk Tryz.func128 rfl Tryz.results128 rfl (by simp [Tryz.ntmps128]) ?_
  rw [Tryz.ntmps128]
  simp only [argSlots]
  refine AWP_len 0 rfl (fun hlen => ?_)
  rw [List.length_map] at hlen
  repeat first|((first|refine qa tOk rfl ?_|refine qb tOk rfl ?_|refine qc ?_|refine qd ?_|refine qe ?_);simp)|refine AWP_block ?_|refine AWP_seq ?_
  refine AWP_cond2 rfl (fun h => by simp at h) (fun _ => ?_)
  repeat first|((first|refine qa tOk rfl ?_|refine qb tOk rfl ?_|refine qc ?_|refine qd ?_|refine qe ?_);simp)|refine AWP_block ?_|refine AWP_seq ?_
  refine AWP_countI a.length (fun _ => True) (fun j => [(0, .list (a.map encE)), (1, .list (a.map encE)), (5, .i j)]) (fun _ => []) rfl (by simp) (by simp) (by simp) (by simp) trivial ?_
  intro j hj hI ih
  repeat first|((first|refine qa tOk rfl ?_|refine qb tOk rfl ?_|refine qc ?_|refine qd ?_|refine qe ?_);simp)|refine AWP_block ?_|refine AWP_seq ?_
  refine AWP_cond2 rfl (fun hlt => ?_) (fun hge => ?_)
  · have hlt' : j < a.length := by simpa using hlt
    repeat first|((first|refine qa tOk rfl ?_|refine qb tOk rfl ?_|refine qc ?_|refine qd ?_|refine qe ?_);simp [hlt'])|refine AWP_block ?_|refine AWP_seq ?_
    refine AWP_drawT tOk mixed [] (.val 0 (.val 1 (.val 2 (.val 3 (.val 4 (.val 5 (.val 6 (.val 7 (.one 8 (.val 9 (.done))))))))))) rfl (by kernel_rfl) ?_
    simp [hlt']
    refine AStep_PC rfl rfl (by simp) (pc_evEqual a[j]) rfl ?_
    rintro _ rfl
    simp
    refine AWP_cond2 rfl (fun h => by simp at h) (fun _ => ?_)
    repeat first|((first|refine qa tOk rfl ?_|refine qb tOk rfl ?_|refine qc ?_|refine qd ?_|refine qe ?_);simp)|refine AWP_block ?_|refine AWP_seq ?_
    refine ALoop_end _ (ih hlt' trivial) rfl (by simp) ?_ (by simp) (by simp)
    simp
    exact wrap_i64 _ (by omega) (by omega)
  · repeat first|((first|refine qa tOk rfl ?_|refine qb tOk rfl ?_|refine qc ?_|refine qd ?_|refine qe ?_);simp)|refine AWP_block ?_|refine AWP_seq ?_
theorem pc_sameCfg (c : Cfg) : PC Tryz.prog 127 [avCfg c, avCfg c] (fun r => r = .bool true) := by
  refine PC_body tOk Tryz.func127 rfl Tryz.results127 rfl (by simp [Tryz.ntmps127]) ?_
  rw [Tryz.ntmps127]
  simp only [argSlots]
  obtain ⟨s, bs, ts⟩ := c
  simp only [avCfg]
  refine AWP_lenAgg 0 1 rfl rfl (fun hlen => ?_)
  rw [List.length_map] at hlen
  refine AWP_lenAgg 0 2 rfl rfl (fun hlen2 => ?_)
  rw [List.length_map] at hlen2
  repeat first|((first|refine qa tOk rfl ?_|refine qb tOk rfl ?_|refine qc ?_|refine qd ?_|refine qe ?_);simp)|refine AWP_block ?_|refine AWP_seq ?_
  refine AWP_cond2 rfl (fun h => by simp at h) (fun _ => ?_)
  repeat first|((first|refine qa tOk rfl ?_|refine qb tOk rfl ?_|refine qc ?_|refine qd ?_|refine qe ?_);simp)|refine AWP_block ?_|refine AWP_seq ?_
  refine AWP_countI bs.length (fun _ => True) (fun j => [(2, .vptr 0 0), (3, .vptr 1 0), (5, .i j)]) (fun _ => [.vars [.i s, .list (bs.map avBnd), .list (ts.map avStt)], .vars [.i s, .list (bs.map avBnd), .list (ts.map avStt)]]) rfl (by simp) (by simp) (by simp) (by simp) trivial ?_
  intro j hj hI ih
  repeat first|((first|refine qa tOk rfl ?_|refine qb tOk rfl ?_|refine qc ?_|refine qd ?_|refine qe ?_);simp)|refine AWP_block ?_|refine AWP_seq ?_
  refine AWP_cond2 rfl (fun hlt => ?_) (fun hge => ?_)
  · have hlt' : j < bs.length := by simpa using hlt
    repeat first|((first|refine qa tOk rfl ?_|refine qb tOk rfl ?_|refine qc ?_|refine qd ?_|refine qe ?_);simp [hlt'])|refine AWP_block ?_|refine AWP_seq ?_
    refine AWP_drawT tOk mixed [] (.val 0 (.val 1 (.val 2 (.val 3 (.val 4 (.val 5 (.val 6 (.val 7 (.val 8 (.val 9 (.val 10 (.done)))))))))))) rfl (by kernel_rfl) ?_
    simp [hlt', eqA_bnd]
    refine AWP_cond2 rfl (fun h => by simp at h) (fun _ => ?_)
    repeat first|((first|refine qa tOk rfl ?_|refine qb tOk rfl ?_|refine qc ?_|refine qd ?_|refine qe ?_);simp)|refine AWP_block ?_|refine AWP_seq ?_
    refine ALoop_end _ (ih hlt' trivial) rfl (by simp) ?_ (by simp) (by simp)
    simp
    exact wrap_i64 _ (by omega) (by omega)
  repeat first|((first|refine qa tOk rfl ?_|refine qb tOk rfl ?_|refine qc ?_|refine qd ?_|refine qe ?_);simp)|refine AWP_block ?_|refine AWP_seq ?_
  refine AWP_countI ts.length (fun _ => True) (fun j => [(2, .vptr 0 0), (3, .vptr 1 0), (6, .i j)]) (fun _ => [.vars [.i s, .list (bs.map avBnd), .list (ts.map avStt)], .vars [.i s, .list (bs.map avBnd), .list (ts.map avStt)]]) rfl (by simp) (by simp) (by simp) (by simp) trivial ?_
  intro j hj hI ih
  repeat first|((first|refine qa tOk rfl ?_|refine qb tOk rfl ?_|refine qc ?_|refine qd ?_|refine qe ?_);simp)|refine AWP_block ?_|refine AWP_seq ?_
  refine AWP_cond2 rfl (fun hlt => ?_) (fun hge => ?_)
  · have hlt' : j < ts.length := by simpa using hlt
    repeat first|((first|refine qa tOk rfl ?_|refine qb tOk rfl ?_|refine qc ?_|refine qd ?_|refine qe ?_);simp [hlt'])|refine AWP_block ?_|refine AWP_seq ?_
    refine AWP_drawT tOk mixed [] (.val 0 (.val 1 (.val 2 (.val 3 (.val 4 (.val 5 (.val 6 (.val 7 (.val 8 (.val 9 (.val 10 (.done)))))))))))) rfl (by kernel_rfl) ?_
    simp [hlt', eqA_stt]
    refine AWP_cond2 rfl (fun h => by simp at h) (fun _ => ?_)
    repeat first|((first|refine qa tOk rfl ?_|refine qb tOk rfl ?_|refine qc ?_|refine qd ?_|refine qe ?_);simp)|refine AWP_block ?_|refine AWP_seq ?_
    refine ALoop_end _ (ih hlt' trivial) rfl (by simp) ?_ (by simp) (by simp)
    simp
    exact wrap_i64 _ (by omega) (by omega)
  repeat first|((first|refine qa tOk rfl ?_|refine qb tOk rfl ?_|refine qc ?_|refine qd ?_|refine qe ?_);simp)|refine AWP_block ?_|refine AWP_seq ?_
theorem pc_sameEng (x : Eng) : PC Tryz.prog 86 [avEng x, avEng x] (fun r => r = .bool true) := by
  refine PC_body tOk Tryz.func86 rfl Tryz.results86 rfl (by simp [Tryz.ntmps86]) ?_
  rw [Tryz.ntmps86]
  simp only [argSlots]
  obtain ⟨s, ws, rs, hs⟩ := x
  simp only [avEng]
  refine AWP_lenAgg 0 2 rfl rfl (fun hlen => ?_)
  rw [List.length_map] at hlen
  repeat first|((first|refine qa tOk rfl ?_|refine qb tOk rfl ?_|refine qc ?_|refine qd ?_|refine qe ?_);simp)|refine AWP_block ?_|refine AWP_seq ?_
  refine AWP_cond2 rfl (fun h => by simp at h) (fun _ => ?_)
  repeat first|((first|refine qa tOk rfl ?_|refine qb tOk rfl ?_|refine qc ?_|refine qd ?_|refine qe ?_);simp)|refine AWP_block ?_|refine AWP_seq ?_
  refine AWP_countI rs.length (fun _ => True) (fun j => [(2, .vptr 0 0), (3, .vptr 1 0), (5, .i j)]) (fun _ => [.vars [.i s, .list (ws.map encE), .list (rs.map avCfg), .list (hs.map encE)], .vars [.i s, .list (ws.map encE), .list (rs.map avCfg), .list (hs.map encE)]]) rfl (by simp) (by simp) (by simp) (by simp) trivial ?_
  intro j hj hI ih
  repeat first|((first|refine qa tOk rfl ?_|refine qb tOk rfl ?_|refine qc ?_|refine qd ?_|refine qe ?_);simp)|refine AWP_block ?_|refine AWP_seq ?_
  refine AWP_cond2 rfl (fun hlt => ?_) (fun hge => ?_)
  · have hlt' : j < rs.length := by simpa using hlt
    repeat first|((first|refine qa tOk rfl ?_|refine qb tOk rfl ?_|refine qc ?_|refine qd ?_|refine qe ?_);simp [hlt'])|refine AWP_block ?_|refine AWP_seq ?_
    refine AWP_drawT tOk mixed [] (.val 0 (.val 1 (.val 2 (.val 3 (.val 4 (.val 5 (.val 6 (.val 7 (.val 8 (.val 9 (.one 10 (.val 11 (.done))))))))))))) rfl (by kernel_rfl) ?_
    simp [hlt']
    refine AStep_PC rfl rfl (by simp) (pc_sameCfg rs[j]) rfl ?_
    rintro _ rfl
    simp
    refine AWP_cond2 rfl (fun h => by simp at h) (fun _ => ?_)
    repeat first|((first|refine qa tOk rfl ?_|refine qb tOk rfl ?_|refine qc ?_|refine qd ?_|refine qe ?_);simp)|refine AWP_block ?_|refine AWP_seq ?_
    refine ALoop_end _ (ih hlt' trivial) rfl (by simp) ?_ (by simp) (by simp)
    simp
    exact wrap_i64 _ (by omega) (by omega)
  repeat first|((first|refine qa tOk rfl ?_|refine qb tOk rfl ?_|refine qc ?_|refine qd ?_|refine qe ?_);simp)|refine AWP_block ?_|refine AWP_seq ?_
  refine AStep_PC rfl rfl (by simp) (pc_sameEvs ws) rfl ?_
  rintro _ rfl
  simp
  refine AStep_PC rfl rfl (by simp) (pc_sameEvs hs) rfl ?_
  rintro _ rfl
  simp
  repeat first|((first|refine qa tOk rfl ?_|refine qb tOk rfl ?_|refine qc ?_|refine qd ?_|refine qe ?_);simp)|refine AWP_block ?_|refine AWP_seq ?_
set_option maxHeartbeats 4000000 in
theorem pc_sameOpr (o : Opr) : PC Tryz.prog 47 [avOpr o, avOpr o] (fun r => r = .bool true) := by
  refine PC_body tOk Tryz.func47 rfl Tryz.results47 rfl (by simp [Tryz.ntmps47]) ?_
  rw [Tryz.ntmps47]
  simp only [argSlots]
  obtain ⟨ms, es⟩ := o
  simp only [avOpr]
  refine AWP_lenAgg 0 1 rfl rfl (fun hlen => ?_)
  rw [List.length_map] at hlen
  repeat first|((first|refine qa tOk rfl ?_|refine qb tOk rfl ?_|refine qc ?_|refine qd ?_|refine qe ?_);simp)|refine AWP_block ?_|refine AWP_seq ?_
  refine AStep_PC rfl rfl (by simp) (pc_sameInts ms) rfl ?_
  rintro _ rfl
  simp
  repeat first|((first|refine qa tOk rfl ?_|refine qb tOk rfl ?_|refine qc ?_|refine qd ?_|refine qe ?_);simp)|refine AWP_block ?_|refine AWP_seq ?_
  refine AWP_cond2 rfl (fun h => by simp at h) (fun _ => ?_)
  repeat first|((first|refine qa tOk rfl ?_|refine qb tOk rfl ?_|refine qc ?_|refine qd ?_|refine qe ?_);simp)|refine AWP_block ?_|refine AWP_seq ?_
  refine AWP_countI es.length (fun _ => True) (fun j => [(2, .vptr 0 0), (3, .vptr 1 0), (5, .i j)]) (fun _ => [.vars [.list (ms.map encI), .list (es.map avKyd)], .vars [.list (ms.map encI), .list (es.map avKyd)]]) rfl (by simp) (by simp) (by simp) (by simp) trivial ?_
  intro j hj hI ih
  repeat first|((first|refine qa tOk rfl ?_|refine qb tOk rfl ?_|refine qc ?_|refine qd ?_|refine qe ?_);simp)|refine AWP_block ?_|refine AWP_seq ?_
  refine AWP_cond2 rfl (fun hlt => ?_) (fun hge => ?_)
  · have hlt' : j < es.length := by simpa using hlt
    obtain ⟨k, hk⟩ : ∃ k, es[j] = k := ⟨_, rfl⟩
    have pe := pc_sameEng k.eng
    obtain ⟨q, ⟨kk, kn, kt⟩, ⟨mk, ws, rs, hs⟩⟩ := k
    simp only [avEng] at pe
    repeat first|((first|refine qa tOk rfl ?_|refine qb tOk rfl ?_|refine qc ?_|refine qd ?_|refine qe ?_);simp [hlt'])|refine AWP_block ?_|refine AWP_seq ?_
    refine AWP_drawC tOk mixed [12, 13] (.val 0 (.val 1 (.val 2 (.val 3 (.val 4 (.val 5 (.val 7 (.three 6 (.val 8 (.three 9 (.two 10 (.one 11 (.one 12 (.one 13 (.done)))) 11 (.one 10 (.one 12 (.one 13 (.done))))) 10 (.two 9 (.one 11 (.one 12 (.one 13 (.done)))) 11 (.two 9 (.one 12 (.one 13 (.done))) 12 (.val 9 (.one 13 (.done))))) 11 (.two 9 (.one 10 (.one 12 (.one 13 (.done)))) 10 (.two 9 (.one 12 (.one 13 (.done))) 12 (.val 9 (.one 13 (.done))))))) 10 (.two 6 (.val 8 (.two 9 (.one 11 (.one 12 (.one 13 (.done)))) 11 (.two 9 (.one 12 (.one 13 (.done))) 12 (.val 9 (.one 13 (.done)))))) 11 (.two 6 (.val 8 (.two 9 (.one 12 (.one 13 (.done))) 12 (.val 9 (.one 13 (.done))))) 12 (.val 6 (.val 8 (.val 9 (.one 13 (.done))))))) 11 (.two 6 (.val 8 (.two 9 (.one 10 (.one 12 (.one 13 (.done)))) 10 (.two 9 (.one 12 (.one 13 (.done))) 12 (.val 9 (.one 13 (.done)))))) 10 (.two 6 (.val 8 (.two 9 (.one 12 (.one 13 (.done))) 12 (.val 9 (.one 13 (.done))))) 12 (.val 6 (.val 8 (.val 9 (.one 13 (.done))))))))))))))) (⟨[(2, .vptr 0 0), (3, .vptr 1 0), (5, .i j), (6, .vptr 2 0), (7, .vptr 3 0)], [.vars [.list (ms.map encI), .list (es.map avKyd)], .vars [.list (ms.map encI), .list (es.map avKyd)], .vars [.i q, .i kk, .i kn, .str kt, .i mk, .list (ws.map encE), .list (rs.map avCfg), .list (hs.map encE)], .vars [.i q, .i kk, .i kn, .str kt, .i mk, .list (ws.map encE), .list (rs.map avCfg), .list (hs.map encE)]]⟩) rfl (by kernel_rfl) ?_ ?_
    simp [hlt', hk]
    · repeat' apply And.intro
      all_goals first | (refine RenTo_keep ?_; simp; done) | exact RenTo_ren [0, 1, 3, 2] (by simp) (by decide) (by simp) rfl (by simp) (by simp) (by simp)
    refine AWP_seq ?_
    repeat first|((first|refine qa tOk rfl ?_|refine qb tOk rfl ?_|refine qc ?_|refine qd ?_|refine qe ?_);simp [eqA_val2])|refine AWP_block ?_|refine AWP_seq ?_
    refine AStep_PC rfl rfl (by simp) (pe) rfl ?_
    rintro _ rfl
    simp
    repeat first|((first|refine qa tOk rfl ?_|refine qb tOk rfl ?_|refine qc ?_|refine qd ?_|refine qe ?_);simp)|refine AWP_block ?_|refine AWP_seq ?_
    refine AWP_cond2 rfl (fun h => by simp at h) (fun _ => ?_)
    repeat first|((first|refine qa tOk rfl ?_|refine qb tOk rfl ?_|refine qc ?_|refine qd ?_|refine qe ?_);simp)|refine AWP_block ?_|refine AWP_seq ?_
    refine ALoop_end _ (ih hlt' trivial) rfl (by simp) ?_ (by simp) (by simp)
    simp
    exact wrap_i64 _ (by omega) (by omega)
  repeat first|((first|refine qa tOk rfl ?_|refine qb tOk rfl ?_|refine qc ?_|refine qd ?_|refine qe ?_);simp)|refine AWP_block ?_|refine AWP_seq ?_
theorem pc_Same (a : Snp) : PC Tryz.prog 17 [avSnp a, avSnp a] (fun r => r = .bool true) := by
  refine PC_body tOk Tryz.func17 rfl Tryz.results17 rfl (by simp [Tryz.ntmps17]) ?_
  rw [Tryz.ntmps17]
  simp only [argSlots]
  obtain ⟨n, rs, os⟩ := a
  simp only [avSnp]
  refine AWP_lenAgg 0 1 rfl rfl (fun hlen => ?_)
  rw [List.length_map] at hlen
  refine AWP_lenAgg 0 2 rfl rfl (fun hlen2 => ?_)
  rw [List.length_map] at hlen2
  repeat first|((first|refine qa tOk rfl ?_|refine qb tOk rfl ?_|refine qc ?_|refine qd ?_|refine qe ?_);simp)|refine AWP_block ?_|refine AWP_seq ?_
  refine AWP_cond2 rfl (fun h => by simp at h) (fun _ => ?_)
  repeat first|((first|refine qa tOk rfl ?_|refine qb tOk rfl ?_|refine qc ?_|refine qd ?_|refine qe ?_);simp)|refine AWP_block ?_|refine AWP_seq ?_
  refine AWP_countI rs.length (fun _ => True) (fun j => [(2, .vptr 0 0), (3, .vptr 1 0), (5, .i j)]) (fun _ => [.vars [.i n, .list (rs.map avRdr), .list (os.map avOpr)], .vars [.i n, .list (rs.map avRdr), .list (os.map avOpr)]]) rfl (by simp) (by simp) (by simp) (by simp) trivial ?_
  intro j hj hI ih
  repeat first|((first|refine qa tOk rfl ?_|refine qb tOk rfl ?_|refine qc ?_|refine qd ?_|refine qe ?_);simp)|refine AWP_block ?_|refine AWP_seq ?_
  refine AWP_cond2 rfl (fun hlt => ?_) (fun hge => ?_)
  · have hlt' : j < rs.length := by simpa using hlt
    repeat first|((first|refine qa tOk rfl ?_|refine qb tOk rfl ?_|refine qc ?_|refine qd ?_|refine qe ?_);simp [hlt'])|refine AWP_block ?_|refine AWP_seq ?_
    refine AWP_drawT tOk mixed [] (.val 0 (.val 1 (.val 2 (.val 3 (.val 4 (.val 5 (.val 6 (.val 7 (.val 8 (.val 9 (.one 10 (.val 11 (.done))))))))))))) rfl (by kernel_rfl) ?_
    simp [hlt']
    refine AStep_PC rfl rfl (by simp) (pc_sameReader rs[j]) rfl ?_
    rintro _ rfl
    simp
    refine AWP_cond2 rfl (fun h => by simp at h) (fun _ => ?_)
    repeat first|((first|refine qa tOk rfl ?_|refine qb tOk rfl ?_|refine qc ?_|refine qd ?_|refine qe ?_);simp)|refine AWP_block ?_|refine AWP_seq ?_
    refine ALoop_end _ (ih hlt' trivial) rfl (by simp) ?_ (by simp) (by simp)
    simp
    exact wrap_i64 _ (by omega) (by omega)
  repeat first|((first|refine qa tOk rfl ?_|refine qb tOk rfl ?_|refine qc ?_|refine qd ?_|refine qe ?_);simp)|refine AWP_block ?_|refine AWP_seq ?_
  refine AWP_countI os.length (fun _ => True) (fun j => [(2, .vptr 0 0), (3, .vptr 1 0), (6, .i j)]) (fun _ => [.vars [.i n, .list (rs.map avRdr), .list (os.map avOpr)], .vars [.i n, .list (rs.map avRdr), .list (os.map avOpr)]]) rfl (by simp) (by simp) (by simp) (by simp) trivial ?_
  intro j hj hI ih
  repeat first|((first|refine qa tOk rfl ?_|refine qb tOk rfl ?_|refine qc ?_|refine qd ?_|refine qe ?_);simp)|refine AWP_block ?_|refine AWP_seq ?_
  refine AWP_cond2 rfl (fun hlt => ?_) (fun hge => ?_)
  · have hlt' : j < os.length := by simpa using hlt
    repeat first|((first|refine qa tOk rfl ?_|refine qb tOk rfl ?_|refine qc ?_|refine qd ?_|refine qe ?_);simp [hlt'])|refine AWP_block ?_|refine AWP_seq ?_
    refine AWP_drawT tOk mixed [] (.val 0 (.val 1 (.val 2 (.val 3 (.val 4 (.val 5 (.val 6 (.val 7 (.val 8 (.val 9 (.one 10 (.val 11 (.done))))))))))))) rfl (by kernel_rfl) ?_
    simp [hlt']
    refine AStep_PC rfl rfl (by simp) (pc_sameOpr os[j]) rfl ?_
    rintro _ rfl
    simp
    refine AWP_cond2 rfl (fun h => by simp at h) (fun _ => ?_)
    repeat first|((first|refine qa tOk rfl ?_|refine qb tOk rfl ?_|refine qc ?_|refine qd ?_|refine qe ?_);simp)|refine AWP_block ?_|refine AWP_seq ?_
    refine ALoop_end _ (ih hlt' trivial) rfl (by simp) ?_ (by simp) (by simp)
    simp
    exact wrap_i64 _ (by omega) (by omega)
  repeat first|((first|refine qa tOk rfl ?_|refine qb tOk rfl ?_|refine qc ?_|refine qd ?_|refine qe ?_);simp)|refine AWP_block ?_|refine AWP_seq ?_
end Go.Abs
set_option maxRecDepth 100000
namespace Go.Abs
open Go Go.Proofs
set_option linter.unusedSimpArgs false
attribute [local irreducible] numbR decodeR
/-- The checkpoint of a number can be loaded. -/
def okN (d : Disk) (n : Int) : Prop := (decodeR (volN d n)).2 = 0 ∧ (decodeR (volN d n)).1.number = n
end Go.Abs
set_option maxRecDepth 100000
namespace Go.Abs
open Go Go.Proofs
set_option linter.unusedSimpArgs false
attribute [local irreducible] numbR decodeR encodeR
/-- A disk holds a checkpoint that can be loaded. -/
def Has (d : Disk) (n : Int) (s : Snp) : Prop := ∃ f ∈ d.files, f.name = nameC n ∧ validN n = 0 ∧ decodeR f.vol = (s, 0) ∧ s.number = n
/-- The file of a checkpoint. -/
def ckF (s : Snp) : File := ⟨nameC s.number, (encodeR s).1, (encodeR s).1⟩
end Go.Abs
set_option maxRecDepth 100000
namespace Go.Abs
open Go Go.Proofs
set_option linter.unusedSimpArgs false
attribute [local irreducible] numbR decodeR encodeR
end Go.Abs
set_option maxRecDepth 100000
namespace Go.Abs
open Go Go.Proofs
set_option linter.unusedSimpArgs false
end Go.Abs
set_option maxRecDepth 100000
namespace Go.Abs
open Go Go.Proofs
set_option linter.unusedSimpArgs false
attribute [local irreducible] numbR nameR checkD saveC pruneR fewS few nameC nameW encodeR keepF listR loadR spoilR ckF numbersR zeroS
end Go.Abs
