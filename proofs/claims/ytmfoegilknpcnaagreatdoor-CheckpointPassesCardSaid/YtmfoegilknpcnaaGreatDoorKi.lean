/- Part Ki of the proof: an abstract machine over the model, and what the functions of the program hand back in its terms. No condition. -/
import Derived.Test.YtmfoegilknpcnaaGreatDoorKc
import Derived.Test.YtmfoegilknpcnaaGreatDoorKh
import Derived.Test.YtmfoegilknpcnaaGreatDoorKf
set_option linter.all false
set_option maxRecDepth 100000
namespace Go.Abs
open Go Go.Proofs
set_option linter.unusedSimpArgs false
theorem eqA_val2 (a b a' b' : Int) (c c' : List UInt8) : eqA T 9 94 (.agg [.int .i64 a, .int .i64 b, .str c]) (.agg [.int .i64 a', .int .i64 b', .str c']) = some (a == a' && (b == b' && c == c')) := by
  simp [eqA, eqFieldsA, outOf, TI.agg]
theorem eqA_rf2 (a b c a' b' c' : Int) : eqA T 9 241 (.agg [.int .i64 a, .int .i64 b, .int .i64 c]) (.agg [.int .i64 a', .int .i64 b', .int .i64 c']) = some (a == a' && (b == b' && c == c')) := by
  simp [eqA, eqFieldsA, outOf, TI.agg]
theorem eqA_stt (a b a' b' : Int) : eqA T 9 245 (.agg [.int .i64 a, .int .i64 b]) (.agg [.int .i64 a', .int .i64 b']) = some (a == a' && b == b') := by
  simp [eqA, eqFieldsA, outOf, TI.agg]
theorem eqA_bnd (a b c d a' b' c' d' : Int) : eqA T 9 243 (.agg [.int .i64 a, .int .i64 b, .int .i64 c, .int .i64 d]) (.agg [.int .i64 a', .int .i64 b', .int .i64 c', .int .i64 d']) = some (a == a' && (b == b' && (c == c' && d == d'))) := by
  simp [eqA, eqFieldsA, outOf, TI.agg]
theorem pc_sameVals (a : List Val) : PC Tryz.prog 213 [.list (a.map encV), .list (a.map encV)] (fun r => r = .bool true) := by
  refine PC_body tOk Tryz.func213 rfl Tryz.results213 rfl (by simp [Tryz.ntmps213]) ?_
  rw [Tryz.ntmps213]
  simp only [argSlots]
  refine AWP_len 0 rfl (fun hlen => ?_)
  rw [List.length_map] at hlen
  repeat first|((first|refine qa tOk rfl ?_|refine qb tOk rfl ?_|refine qc ?_|refine qd ?_|refine qe ?_);simp)|refine AWP_block ?_|refine AWP_seq ?_
  refine AWP_cond2 rfl (fun h => by simp at h) (fun _ => ?_)
  repeat first|((first|refine qa tOk rfl ?_|refine qb tOk rfl ?_|refine qc ?_|refine qd ?_|refine qe ?_);simp)|refine AWP_block ?_|refine AWP_seq ?_
  refine AWP_countI a.length (fun _ => True) (fun j => [(0, .list (a.map encV)), (1, .list (a.map encV)), (5, .i j)]) (fun _ => []) rfl (by simp) (by simp) (by simp) (by simp) trivial ?_
  intro j hj hI ih
  repeat first|((first|refine qa tOk rfl ?_|refine qb tOk rfl ?_|refine qc ?_|refine qd ?_|refine qe ?_);simp)|refine AWP_block ?_|refine AWP_seq ?_
  refine AWP_cond2 rfl (fun hlt => ?_) (fun hge => ?_)
  · have hlt' : j < a.length := by simpa using hlt
    repeat first|((first|refine qa tOk rfl ?_|refine qb tOk rfl ?_|refine qc ?_|refine qd ?_|refine qe ?_);simp [hlt'])|refine AWP_block ?_|refine AWP_seq ?_
    refine AWP_drawT tOk mixed [] (.val 0 (.val 1 (.val 2 (.val 3 (.val 4 (.val 5 (.val 6 (.val 7 (.val 8 (.done)))))))))) rfl (by kernel_rfl) ?_
    simp [hlt', eqA_val2]
    refine AWP_cond2 rfl (fun h => by simp at h) (fun _ => ?_)
    repeat first|((first|refine qa tOk rfl ?_|refine qb tOk rfl ?_|refine qc ?_|refine qd ?_|refine qe ?_);simp)|refine AWP_block ?_|refine AWP_seq ?_
    refine ALoop_end _ (ih hlt' trivial) rfl (by simp) ?_ (by simp) (by simp)
    simp
    exact wrap_i64 _ (by omega) (by omega)
  · repeat first|((first|refine qa tOk rfl ?_|refine qb tOk rfl ?_|refine qc ?_|refine qd ?_|refine qe ?_);simp)|refine AWP_block ?_|refine AWP_seq ?_
theorem pc_r5Ref2 (e : Ev) : PC Tryz.prog 212 [encE e] (fun r => r = .agg [.i e.time, .i e.source, .i e.seq]) := by
  refine PC_body tOk Tryz.func212 rfl Tryz.results212 rfl (by simp [Tryz.ntmps212]) ?_
  rw [Tryz.ntmps212]
  simp only [argSlots]
  obtain ⟨a, b, c, t, l⟩ := e
  repeat first|((first|refine qa tOk rfl ?_|refine qb tOk rfl ?_|refine qc ?_|refine qd ?_|refine qe ?_);simp)|refine AWP_block ?_|refine AWP_seq ?_
theorem pc_evEqual (e : Ev) : PC Tryz.prog 175 [encE e, encE e] (fun r => r = .bool true) := by
  refine PC_body tOk Tryz.func175 rfl Tryz.results175 rfl (by simp [Tryz.ntmps175]) ?_
  rw [Tryz.ntmps175]
  simp only [argSlots]
  have p := pc_r5Ref2 e
  obtain ⟨a, b, c, t, l⟩ := e
  simp only [encE] at p ⊢
  repeat first|((first|refine qa tOk rfl ?_|refine qb tOk rfl ?_|refine qc ?_|refine qd ?_|refine qe ?_);simp)|refine AWP_block ?_|refine AWP_seq ?_
  refine AWP_drawT tOk mixed [] (.val 0 (.val 2 (.one 1 (.one 3 (.val 4 (.val 5 (.val 6 (.val 7 (.val 8 (.val 9 (.val 10 (.val 11 (.val 12 (.val 13 (.val 14 (.val 15 (.val 16 (.one 17 (.val 18 (.val 19 (.done))))))))))))))))))))) rfl (by kernel_rfl) ?_
  simp
  refine AStep_PC rfl rfl (by simp) (p) rfl ?_
  rintro _ rfl
  simp [eqA_rf2]
  refine AStep_PC rfl rfl (by simp) (p) rfl ?_
  rintro _ rfl
  simp [eqA_rf2]
  refine AStep_PC rfl rfl (by simp) (pc_sameVals l) rfl ?_
  rintro _ rfl
  simp
  repeat first|((first|refine qa tOk rfl ?_|refine qb tOk rfl ?_|refine qc ?_|refine qd ?_|refine qe ?_);simp)|refine AWP_block ?_|refine AWP_seq ?_
theorem pc_sameEvs (a : List Ev) : PC Tryz.prog 128 [.list (a.map encE), .list (a.map encE)] (fun r => r = .bool true) := by
  refine PC_body tOk Tryz.func128 rfl Tryz.results128 rfl (by simp [Tryz.ntmps128]) ?_
  rw [Tryz.ntmps128]
  simp only [argSlots]
  refine AWP_len 0 rfl (fun hlen => ?_)
  rw [List.length_map] at hlen
  repeat first|((first|refine qa tOk rfl ?_|refine qb tOk rfl ?_|refine qc ?_|refine qd ?_|refine qe ?_);simp)|refine AWP_block ?_|refine AWP_seq ?_
  refine AWP_cond2 rfl (fun h => by simp at h) (fun _ => ?_)
  repeat first|((first|refine qa tOk rfl ?_|refine qb tOk rfl ?_|refine qc ?_|refine qd ?_|refine qe ?_);simp)|refine AWP_block ?_|refine AWP_seq ?_
  refine AWP_countI a.length (fun _ => True) (fun j => [(0, .list (a.map encE)), (1, .list (a.map encE)), (5, .i j)]) (fun _ => []) rfl (by simp) (by simp) (by simp) (by simp) trivial ?_
  intro j hj hI ih
  repeat first|((first|refine qa tOk rfl ?_|refine qb tOk rfl ?_|refine qc ?_|refine qd ?_|refine qe ?_);simp)|refine AWP_block ?_|refine AWP_seq ?_
  refine AWP_cond2 rfl (fun hlt => ?_) (fun hge => ?_)
  · have hlt' : j < a.length := by simpa using hlt
    repeat first|((first|refine qa tOk rfl ?_|refine qb tOk rfl ?_|refine qc ?_|refine qd ?_|refine qe ?_);simp [hlt'])|refine AWP_block ?_|refine AWP_seq ?_
    refine AWP_drawT tOk mixed [] (.val 0 (.val 1 (.val 2 (.val 3 (.val 4 (.val 5 (.val 6 (.val 7 (.one 8 (.val 9 (.done))))))))))) rfl (by kernel_rfl) ?_
    simp [hlt']
    refine AStep_PC rfl rfl (by simp) (pc_evEqual a[j]) rfl ?_
    rintro _ rfl
    simp
    refine AWP_cond2 rfl (fun h => by simp at h) (fun _ => ?_)
    repeat first|((first|refine qa tOk rfl ?_|refine qb tOk rfl ?_|refine qc ?_|refine qd ?_|refine qe ?_);simp)|refine AWP_block ?_|refine AWP_seq ?_
    refine ALoop_end _ (ih hlt' trivial) rfl (by simp) ?_ (by simp) (by simp)
    simp
    exact wrap_i64 _ (by omega) (by omega)
  · repeat first|((first|refine qa tOk rfl ?_|refine qb tOk rfl ?_|refine qc ?_|refine qd ?_|refine qe ?_);simp)|refine AWP_block ?_|refine AWP_seq ?_
theorem pc_sameCfg (c : Cfg) : PC Tryz.prog 127 [avCfg c, avCfg c] (fun r => r = .bool true) := by
  refine PC_body tOk Tryz.func127 rfl Tryz.results127 rfl (by simp [Tryz.ntmps127]) ?_
  rw [Tryz.ntmps127]
  simp only [argSlots]
  obtain ⟨s, bs, ts⟩ := c
  simp only [avCfg]
  refine AWP_lenAgg 0 1 rfl rfl (fun hlen => ?_)
  rw [List.length_map] at hlen
  refine AWP_lenAgg 0 2 rfl rfl (fun hlen2 => ?_)
  rw [List.length_map] at hlen2
  repeat first|((first|refine qa tOk rfl ?_|refine qb tOk rfl ?_|refine qc ?_|refine qd ?_|refine qe ?_);simp)|refine AWP_block ?_|refine AWP_seq ?_
  refine AWP_cond2 rfl (fun h => by simp at h) (fun _ => ?_)
  repeat first|((first|refine qa tOk rfl ?_|refine qb tOk rfl ?_|refine qc ?_|refine qd ?_|refine qe ?_);simp)|refine AWP_block ?_|refine AWP_seq ?_
  refine AWP_countI bs.length (fun _ => True) (fun j => [(2, .vptr 0 0), (3, .vptr 1 0), (5, .i j)]) (fun _ => [.vars [.i s, .list (bs.map avBnd), .list (ts.map avStt)], .vars [.i s, .list (bs.map avBnd), .list (ts.map avStt)]]) rfl (by simp) (by simp) (by simp) (by simp) trivial ?_
  intro j hj hI ih
  repeat first|((first|refine qa tOk rfl ?_|refine qb tOk rfl ?_|refine qc ?_|refine qd ?_|refine qe ?_);simp)|refine AWP_block ?_|refine AWP_seq ?_
  refine AWP_cond2 rfl (fun hlt => ?_) (fun hge => ?_)
  · have hlt' : j < bs.length := by simpa using hlt
    repeat first|((first|refine qa tOk rfl ?_|refine qb tOk rfl ?_|refine qc ?_|refine qd ?_|refine qe ?_);simp [hlt'])|refine AWP_block ?_|refine AWP_seq ?_
    refine AWP_drawT tOk mixed [] (.val 0 (.val 1 (.val 2 (.val 3 (.val 4 (.val 5 (.val 6 (.val 7 (.val 8 (.val 9 (.val 10 (.done)))))))))))) rfl (by kernel_rfl) ?_
    simp [hlt', eqA_bnd]
    refine AWP_cond2 rfl (fun h => by simp at h) (fun _ => ?_)
    repeat first|((first|refine qa tOk rfl ?_|refine qb tOk rfl ?_|refine qc ?_|refine qd ?_|refine qe ?_);simp)|refine AWP_block ?_|refine AWP_seq ?_
    refine ALoop_end _ (ih hlt' trivial) rfl (by simp) ?_ (by simp) (by simp)
    simp
    exact wrap_i64 _ (by omega) (by omega)
  repeat first|((first|refine qa tOk rfl ?_|refine qb tOk rfl ?_|refine qc ?_|refine qd ?_|refine qe ?_);simp)|refine AWP_block ?_|refine AWP_seq ?_
  refine AWP_countI ts.length (fun _ => True) (fun j => [(2, .vptr 0 0), (3, .vptr 1 0), (6, .i j)]) (fun _ => [.vars [.i s, .list (bs.map avBnd), .list (ts.map avStt)], .vars [.i s, .list (bs.map avBnd), .list (ts.map avStt)]]) rfl (by simp) (by simp) (by simp) (by simp) trivial ?_
  intro j hj hI ih
  repeat first|((first|refine qa tOk rfl ?_|refine qb tOk rfl ?_|refine qc ?_|refine qd ?_|refine qe ?_);simp)|refine AWP_block ?_|refine AWP_seq ?_
  refine AWP_cond2 rfl (fun hlt => ?_) (fun hge => ?_)
  · have hlt' : j < ts.length := by simpa using hlt
    repeat first|((first|refine qa tOk rfl ?_|refine qb tOk rfl ?_|refine qc ?_|refine qd ?_|refine qe ?_);simp [hlt'])|refine AWP_block ?_|refine AWP_seq ?_
    refine AWP_drawT tOk mixed [] (.val 0 (.val 1 (.val 2 (.val 3 (.val 4 (.val 5 (.val 6 (.val 7 (.val 8 (.val 9 (.val 10 (.done)))))))))))) rfl (by kernel_rfl) ?_
    simp [hlt', eqA_stt]
    refine AWP_cond2 rfl (fun h => by simp at h) (fun _ => ?_)
    repeat first|((first|refine qa tOk rfl ?_|refine qb tOk rfl ?_|refine qc ?_|refine qd ?_|refine qe ?_);simp)|refine AWP_block ?_|refine AWP_seq ?_
    refine ALoop_end _ (ih hlt' trivial) rfl (by simp) ?_ (by simp) (by simp)
    simp
    exact wrap_i64 _ (by omega) (by omega)
  repeat first|((first|refine qa tOk rfl ?_|refine qb tOk rfl ?_|refine qc ?_|refine qd ?_|refine qe ?_);simp)|refine AWP_block ?_|refine AWP_seq ?_
theorem pc_sameEng (x : Eng) : PC Tryz.prog 86 [avEng x, avEng x] (fun r => r = .bool true) := by
  refine PC_body tOk Tryz.func86 rfl Tryz.results86 rfl (by simp [Tryz.ntmps86]) ?_
  rw [Tryz.ntmps86]
  simp only [argSlots]
  obtain ⟨s, ws, rs, hs⟩ := x
  simp only [avEng]
  refine AWP_lenAgg 0 2 rfl rfl (fun hlen => ?_)
  rw [List.length_map] at hlen
  repeat first|((first|refine qa tOk rfl ?_|refine qb tOk rfl ?_|refine qc ?_|refine qd ?_|refine qe ?_);simp)|refine AWP_block ?_|refine AWP_seq ?_
  refine AWP_cond2 rfl (fun h => by simp at h) (fun _ => ?_)
  repeat first|((first|refine qa tOk rfl ?_|refine qb tOk rfl ?_|refine qc ?_|refine qd ?_|refine qe ?_);simp)|refine AWP_block ?_|refine AWP_seq ?_
  refine AWP_countI rs.length (fun _ => True) (fun j => [(2, .vptr 0 0), (3, .vptr 1 0), (5, .i j)]) (fun _ => [.vars [.i s, .list (ws.map encE), .list (rs.map avCfg), .list (hs.map encE)], .vars [.i s, .list (ws.map encE), .list (rs.map avCfg), .list (hs.map encE)]]) rfl (by simp) (by simp) (by simp) (by simp) trivial ?_
  intro j hj hI ih
  repeat first|((first|refine qa tOk rfl ?_|refine qb tOk rfl ?_|refine qc ?_|refine qd ?_|refine qe ?_);simp)|refine AWP_block ?_|refine AWP_seq ?_
  refine AWP_cond2 rfl (fun hlt => ?_) (fun hge => ?_)
  · have hlt' : j < rs.length := by simpa using hlt
    repeat first|((first|refine qa tOk rfl ?_|refine qb tOk rfl ?_|refine qc ?_|refine qd ?_|refine qe ?_);simp [hlt'])|refine AWP_block ?_|refine AWP_seq ?_
    refine AWP_drawT tOk mixed [] (.val 0 (.val 1 (.val 2 (.val 3 (.val 4 (.val 5 (.val 6 (.val 7 (.val 8 (.val 9 (.one 10 (.val 11 (.done))))))))))))) rfl (by kernel_rfl) ?_
    simp [hlt']
    refine AStep_PC rfl rfl (by simp) (pc_sameCfg rs[j]) rfl ?_
    rintro _ rfl
    simp
    refine AWP_cond2 rfl (fun h => by simp at h) (fun _ => ?_)
    repeat first|((first|refine qa tOk rfl ?_|refine qb tOk rfl ?_|refine qc ?_|refine qd ?_|refine qe ?_);simp)|refine AWP_block ?_|refine AWP_seq ?_
    refine ALoop_end _ (ih hlt' trivial) rfl (by simp) ?_ (by simp) (by simp)
    simp
    exact wrap_i64 _ (by omega) (by omega)
  repeat first|((first|refine qa tOk rfl ?_|refine qb tOk rfl ?_|refine qc ?_|refine qd ?_|refine qe ?_);simp)|refine AWP_block ?_|refine AWP_seq ?_
  refine AStep_PC rfl rfl (by simp) (pc_sameEvs ws) rfl ?_
  rintro _ rfl
  simp
  refine AStep_PC rfl rfl (by simp) (pc_sameEvs hs) rfl ?_
  rintro _ rfl
  simp
  repeat first|((first|refine qa tOk rfl ?_|refine qb tOk rfl ?_|refine qc ?_|refine qd ?_|refine qe ?_);simp)|refine AWP_block ?_|refine AWP_seq ?_
set_option maxHeartbeats 4000000 in
theorem pc_sameOpr (o : Opr) : PC Tryz.prog 47 [avOpr o, avOpr o] (fun r => r = .bool true) := by
  refine PC_body tOk Tryz.func47 rfl Tryz.results47 rfl (by simp [Tryz.ntmps47]) ?_
  rw [Tryz.ntmps47]
  simp only [argSlots]
  obtain ⟨ms, es⟩ := o
  simp only [avOpr]
  refine AWP_lenAgg 0 1 rfl rfl (fun hlen => ?_)
  rw [List.length_map] at hlen
  repeat first|((first|refine qa tOk rfl ?_|refine qb tOk rfl ?_|refine qc ?_|refine qd ?_|refine qe ?_);simp)|refine AWP_block ?_|refine AWP_seq ?_
  refine AStep_PC rfl rfl (by simp) (pc_sameInts ms) rfl ?_
  rintro _ rfl
  simp
  repeat first|((first|refine qa tOk rfl ?_|refine qb tOk rfl ?_|refine qc ?_|refine qd ?_|refine qe ?_);simp)|refine AWP_block ?_|refine AWP_seq ?_
  refine AWP_cond2 rfl (fun h => by simp at h) (fun _ => ?_)
  repeat first|((first|refine qa tOk rfl ?_|refine qb tOk rfl ?_|refine qc ?_|refine qd ?_|refine qe ?_);simp)|refine AWP_block ?_|refine AWP_seq ?_
  refine AWP_countI es.length (fun _ => True) (fun j => [(2, .vptr 0 0), (3, .vptr 1 0), (5, .i j)]) (fun _ => [.vars [.list (ms.map encI), .list (es.map avKyd)], .vars [.list (ms.map encI), .list (es.map avKyd)]]) rfl (by simp) (by simp) (by simp) (by simp) trivial ?_
  intro j hj hI ih
  repeat first|((first|refine qa tOk rfl ?_|refine qb tOk rfl ?_|refine qc ?_|refine qd ?_|refine qe ?_);simp)|refine AWP_block ?_|refine AWP_seq ?_
  refine AWP_cond2 rfl (fun hlt => ?_) (fun hge => ?_)
  · have hlt' : j < es.length := by simpa using hlt
    obtain ⟨k, hk⟩ : ∃ k, es[j] = k := ⟨_, rfl⟩
    have pe := pc_sameEng k.eng
    obtain ⟨q, ⟨kk, kn, kt⟩, ⟨mk, ws, rs, hs⟩⟩ := k
    simp only [avEng] at pe
    repeat first|((first|refine qa tOk rfl ?_|refine qb tOk rfl ?_|refine qc ?_|refine qd ?_|refine qe ?_);simp [hlt'])|refine AWP_block ?_|refine AWP_seq ?_
    refine AWP_drawC tOk mixed [12, 13] (.val 0 (.val 1 (.val 2 (.val 3 (.val 4 (.val 5 (.val 7 (.three 6 (.val 8 (.three 9 (.two 10 (.one 11 (.one 12 (.one 13 (.done)))) 11 (.one 10 (.one 12 (.one 13 (.done))))) 10 (.two 9 (.one 11 (.one 12 (.one 13 (.done)))) 11 (.two 9 (.one 12 (.one 13 (.done))) 12 (.val 9 (.one 13 (.done))))) 11 (.two 9 (.one 10 (.one 12 (.one 13 (.done)))) 10 (.two 9 (.one 12 (.one 13 (.done))) 12 (.val 9 (.one 13 (.done))))))) 10 (.two 6 (.val 8 (.two 9 (.one 11 (.one 12 (.one 13 (.done)))) 11 (.two 9 (.one 12 (.one 13 (.done))) 12 (.val 9 (.one 13 (.done)))))) 11 (.two 6 (.val 8 (.two 9 (.one 12 (.one 13 (.done))) 12 (.val 9 (.one 13 (.done))))) 12 (.val 6 (.val 8 (.val 9 (.one 13 (.done))))))) 11 (.two 6 (.val 8 (.two 9 (.one 10 (.one 12 (.one 13 (.done)))) 10 (.two 9 (.one 12 (.one 13 (.done))) 12 (.val 9 (.one 13 (.done)))))) 10 (.two 6 (.val 8 (.two 9 (.one 12 (.one 13 (.done))) 12 (.val 9 (.one 13 (.done))))) 12 (.val 6 (.val 8 (.val 9 (.one 13 (.done))))))))))))))) (⟨[(2, .vptr 0 0), (3, .vptr 1 0), (5, .i j), (6, .vptr 2 0), (7, .vptr 3 0)], [.vars [.list (ms.map encI), .list (es.map avKyd)], .vars [.list (ms.map encI), .list (es.map avKyd)], .vars [.i q, .i kk, .i kn, .str kt, .i mk, .list (ws.map encE), .list (rs.map avCfg), .list (hs.map encE)], .vars [.i q, .i kk, .i kn, .str kt, .i mk, .list (ws.map encE), .list (rs.map avCfg), .list (hs.map encE)]]⟩) rfl (by kernel_rfl) ?_ ?_
    simp [hlt', hk]
    · repeat' apply And.intro
      all_goals first | (refine RenTo_keep ?_; simp; done) | exact RenTo_ren [0, 1, 3, 2] (by simp) (by decide) (by simp) rfl (by simp) (by simp) (by simp)
    refine AWP_seq ?_
    repeat first|((first|refine qa tOk rfl ?_|refine qb tOk rfl ?_|refine qc ?_|refine qd ?_|refine qe ?_);simp [eqA_val2])|refine AWP_block ?_|refine AWP_seq ?_
    refine AStep_PC rfl rfl (by simp) (pe) rfl ?_
    rintro _ rfl
    simp
    repeat first|((first|refine qa tOk rfl ?_|refine qb tOk rfl ?_|refine qc ?_|refine qd ?_|refine qe ?_);simp)|refine AWP_block ?_|refine AWP_seq ?_
    refine AWP_cond2 rfl (fun h => by simp at h) (fun _ => ?_)
    repeat first|((first|refine qa tOk rfl ?_|refine qb tOk rfl ?_|refine qc ?_|refine qd ?_|refine qe ?_);simp)|refine AWP_block ?_|refine AWP_seq ?_
    refine ALoop_end _ (ih hlt' trivial) rfl (by simp) ?_ (by simp) (by simp)
    simp
    exact wrap_i64 _ (by omega) (by omega)
  repeat first|((first|refine qa tOk rfl ?_|refine qb tOk rfl ?_|refine qc ?_|refine qd ?_|refine qe ?_);simp)|refine AWP_block ?_|refine AWP_seq ?_
theorem pc_Same (a : Snp) : PC Tryz.prog 17 [avSnp a, avSnp a] (fun r => r = .bool true) := by
  refine PC_body tOk Tryz.func17 rfl Tryz.results17 rfl (by simp [Tryz.ntmps17]) ?_
  rw [Tryz.ntmps17]
  simp only [argSlots]
  obtain ⟨n, rs, os⟩ := a
  simp only [avSnp]
  refine AWP_lenAgg 0 1 rfl rfl (fun hlen => ?_)
  rw [List.length_map] at hlen
  refine AWP_lenAgg 0 2 rfl rfl (fun hlen2 => ?_)
  rw [List.length_map] at hlen2
  repeat first|((first|refine qa tOk rfl ?_|refine qb tOk rfl ?_|refine qc ?_|refine qd ?_|refine qe ?_);simp)|refine AWP_block ?_|refine AWP_seq ?_
  refine AWP_cond2 rfl (fun h => by simp at h) (fun _ => ?_)
  repeat first|((first|refine qa tOk rfl ?_|refine qb tOk rfl ?_|refine qc ?_|refine qd ?_|refine qe ?_);simp)|refine AWP_block ?_|refine AWP_seq ?_
  refine AWP_countI rs.length (fun _ => True) (fun j => [(2, .vptr 0 0), (3, .vptr 1 0), (5, .i j)]) (fun _ => [.vars [.i n, .list (rs.map avRdr), .list (os.map avOpr)], .vars [.i n, .list (rs.map avRdr), .list (os.map avOpr)]]) rfl (by simp) (by simp) (by simp) (by simp) trivial ?_
  intro j hj hI ih
  repeat first|((first|refine qa tOk rfl ?_|refine qb tOk rfl ?_|refine qc ?_|refine qd ?_|refine qe ?_);simp)|refine AWP_block ?_|refine AWP_seq ?_
  refine AWP_cond2 rfl (fun hlt => ?_) (fun hge => ?_)
  · have hlt' : j < rs.length := by simpa using hlt
    repeat first|((first|refine qa tOk rfl ?_|refine qb tOk rfl ?_|refine qc ?_|refine qd ?_|refine qe ?_);simp [hlt'])|refine AWP_block ?_|refine AWP_seq ?_
    refine AWP_drawT tOk mixed [] (.val 0 (.val 1 (.val 2 (.val 3 (.val 4 (.val 5 (.val 6 (.val 7 (.val 8 (.val 9 (.one 10 (.val 11 (.done))))))))))))) rfl (by kernel_rfl) ?_
    simp [hlt']
    refine AStep_PC rfl rfl (by simp) (pc_sameReader rs[j]) rfl ?_
    rintro _ rfl
    simp
    refine AWP_cond2 rfl (fun h => by simp at h) (fun _ => ?_)
    repeat first|((first|refine qa tOk rfl ?_|refine qb tOk rfl ?_|refine qc ?_|refine qd ?_|refine qe ?_);simp)|refine AWP_block ?_|refine AWP_seq ?_
    refine ALoop_end _ (ih hlt' trivial) rfl (by simp) ?_ (by simp) (by simp)
    simp
    exact wrap_i64 _ (by omega) (by omega)
  repeat first|((first|refine qa tOk rfl ?_|refine qb tOk rfl ?_|refine qc ?_|refine qd ?_|refine qe ?_);simp)|refine AWP_block ?_|refine AWP_seq ?_
  refine AWP_countI os.length (fun _ => True) (fun j => [(2, .vptr 0 0), (3, .vptr 1 0), (6, .i j)]) (fun _ => [.vars [.i n, .list (rs.map avRdr), .list (os.map avOpr)], .vars [.i n, .list (rs.map avRdr), .list (os.map avOpr)]]) rfl (by simp) (by simp) (by simp) (by simp) trivial ?_
  intro j hj hI ih
  repeat first|((first|refine qa tOk rfl ?_|refine qb tOk rfl ?_|refine qc ?_|refine qd ?_|refine qe ?_);simp)|refine AWP_block ?_|refine AWP_seq ?_
  refine AWP_cond2 rfl (fun hlt => ?_) (fun hge => ?_)
  · have hlt' : j < os.length := by simpa using hlt
    repeat first|((first|refine qa tOk rfl ?_|refine qb tOk rfl ?_|refine qc ?_|refine qd ?_|refine qe ?_);simp [hlt'])|refine AWP_block ?_|refine AWP_seq ?_
    refine AWP_drawT tOk mixed [] (.val 0 (.val 1 (.val 2 (.val 3 (.val 4 (.val 5 (.val 6 (.val 7 (.val 8 (.val 9 (.one 10 (.val 11 (.done))))))))))))) rfl (by kernel_rfl) ?_
    simp [hlt']
    refine AStep_PC rfl rfl (by simp) (pc_sameOpr os[j]) rfl ?_
    rintro _ rfl
    simp
    refine AWP_cond2 rfl (fun h => by simp at h) (fun _ => ?_)
    repeat first|((first|refine qa tOk rfl ?_|refine qb tOk rfl ?_|refine qc ?_|refine qd ?_|refine qe ?_);simp)|refine AWP_block ?_|refine AWP_seq ?_
    refine ALoop_end _ (ih hlt' trivial) rfl (by simp) ?_ (by simp) (by simp)
    simp
    exact wrap_i64 _ (by omega) (by omega)
  repeat first|((first|refine qa tOk rfl ?_|refine qb tOk rfl ?_|refine qc ?_|refine qd ?_|refine qe ?_);simp)|refine AWP_block ?_|refine AWP_seq ?_
end Go.Abs
set_option maxRecDepth 100000
namespace Go.Abs
open Go Go.Proofs
set_option linter.unusedSimpArgs false
attribute [local irreducible] numbR decodeR
/-- The checkpoint of a number can be loaded. -/
def okN (d : Disk) (n : Int) : Prop := (decodeR (volN d n)).2 = 0 ∧ (decodeR (volN d n)).1.number = n
theorem loadL_spec (d : Disk) : ∀ l : List Int, l.Pairwise (fun a b => b ≤ a) → (loadL d l = none ∧ ∀ m ∈ l, ¬ okN d m) ∨ (∃ n ∈ l, okN d n ∧ loadL d l = some (decodeR (volN d n)).1 ∧ ∀ m ∈ l, okN d m → m ≤ n)
  | [], _ => .inl ⟨rfl, by simp⟩
  | n :: l, h => by
    rw [List.pairwise_cons] at h
    by_cases hn : okN d n
    · right
      refine ⟨n, by simp, hn, ?_, fun m hm _ => ?_⟩
      · rw [loadL]; exact if_pos hn
      · rcases List.mem_cons.1 hm with rfl | hm
        · exact Int.le_refl _
        · exact h.1 m hm
    · have e : loadL d (n :: l) = loadL d l := by rw [loadL]; exact if_neg hn
      rw [e]
      rcases loadL_spec d l h.2 with ⟨h1, h2⟩ | ⟨k, h1, h2, h3, h4⟩
      · exact .inl ⟨h1, fun m hm => by
          rcases List.mem_cons.1 hm with rfl | hm
          · exact hn
          · exact h2 m hm⟩
      · exact .inr ⟨k, by simp [h1], h2, h3, fun m hm hok => by
          rcases List.mem_cons.1 hm with rfl | hm
          · exact absurd hok hn
          · exact h4 m hm hok⟩
theorem sortI_sorted (l : List Int) : (sortI l).Pairwise (fun a b => a ≤ b) := by
  have := List.pairwise_mergeSort (le := fun x y : Int => decide (x ≤ y)) (fun a b c h1 h2 => by simp at h1 h2 ⊢; omega) (fun a b => by simp; omega) l
  exact this.imp (fun h => by simpa using h)
theorem mem_numbers {d : Disk} {n : Int} : n ∈ numbersR d ↔ ∃ f ∈ d.files, numbR preC f.name = (n, true) := by
  rw [numbersR, sortI, List.mem_mergeSort, numsOf, List.mem_filterMap]
  constructor
  · rintro ⟨f, hf, h⟩
    refine ⟨f, hf, ?_⟩
    rw [numF] at h
    split at h
    · rename_i hc
      injection h with h
      exact Prod.ext h hc
    · cases h
  · rintro ⟨f, hf, h⟩
    exact ⟨f, hf, by rw [numF, h]; rfl⟩
/-- What loading gives. -/
theorem load_spec {d : Disk} (hc : checkD d = 0) : (loadR d = (zeroS, 6) ∧ ∀ m ∈ numbersR d, ¬ okN d m) ∨ (∃ n ∈ numbersR d, okN d n ∧ loadR d = ((decodeR (volN d n)).1, 0) ∧ ∀ m ∈ numbersR d, okN d m → m ≤ n) := by
  have hs : (numbersR d).reverse.Pairwise (fun a b => b ≤ a) := by
    rw [List.pairwise_reverse]
    exact sortI_sorted _
  rw [loadR, if_neg (fun h => h hc)]
  rcases loadL_spec d _ hs with ⟨h1, h2⟩ | ⟨n, h1, h2, h3, h4⟩
  · left
    rw [h1]
    exact ⟨rfl, fun m hm => h2 m (List.mem_reverse.2 hm)⟩
  · right
    refine ⟨n, List.mem_reverse.1 h1, h2, by rw [h3], fun m hm => h4 m (List.mem_reverse.2 hm)⟩
theorem volN_of {d : Disk} (h : Good d) {f : File} (hf : f ∈ d.files) {n : Int} (hn : f.name = nameC n) : volN d n = f.vol := by
  obtain ⟨i, hil, hi, hfi⟩ := findR_mem h.sorted hf
  rw [volN, ← hn, hfi]
  simp [hi]
end Go.Abs
set_option maxRecDepth 100000
namespace Go.Abs
open Go Go.Proofs
set_option linter.unusedSimpArgs false
attribute [local irreducible] numbR decodeR encodeR
/-- A disk holds a checkpoint that can be loaded. -/
def Has (d : Disk) (n : Int) (s : Snp) : Prop := ∃ f ∈ d.files, f.name = nameC n ∧ validN n = 0 ∧ decodeR f.vol = (s, 0) ∧ s.number = n
theorem numb_iff {s : List UInt8} {n : Int} : numbR preC s = (n, true) ↔ s = nameC n ∧ validN n = 0 := by
  constructor
  · intro h
    obtain ⟨h1, h2, h3⟩ := numb_inv h
    exact ⟨h3, (validN_iff n).2 ⟨h1, h2⟩⟩
  · rintro ⟨rfl, h⟩
    have h2 := (validN_iff n).1 h
    exact numb_of h2.1 h2.2 rfl
theorem nameC_inj {n m : Int} (hn : validN n = 0) (hm : validN m = 0) (h : nameC n = nameC m) : n = m := by
  have h1 := (numb_iff (s := nameC n) (n := n)).2 ⟨rfl, hn⟩
  have h2 := (numb_iff (s := nameC n) (n := m)).2 ⟨h, hm⟩
  rw [h1] at h2
  exact (Prod.mk.inj h2).1
theorem has_iff {d : Disk} (h : Good d) {n : Int} : (n ∈ numbersR d ∧ okN d n) ↔ ∃ s, Has d n s ∧ (decodeR (volN d n)).1 = s := by
  constructor
  · rintro ⟨h1, h2, h3⟩
    obtain ⟨f, hf, hn⟩ := mem_numbers.1 h1
    obtain ⟨e, hv⟩ := numb_iff.1 hn
    have hv2 := volN_of h hf e
    refine ⟨_, ⟨f, hf, e, hv, ?_, h3⟩, rfl⟩
    rw [← hv2]
    exact Prod.ext rfl h2
  · rintro ⟨s, ⟨f, hf, e, hv, h1, h2⟩, rfl⟩
    have hv2 := volN_of h hf e
    refine ⟨mem_numbers.2 ⟨f, hf, numb_iff.2 ⟨e, hv⟩⟩, ?_, h2⟩
    rw [hv2, h1]
theorem has_snap {d : Disk} (h : Good d) {n : Int} {s : Snp} (hh : Has d n s) : (decodeR (volN d n)).1 = s := by
  obtain ⟨f, hf, e, hv, h1, h2⟩ := hh
  rw [volN_of h hf e, h1]
theorem load_has {d : Disk} (h : Good d) : (loadR d = (zeroS, 6) ∧ ∀ n s, ¬ Has d n s) ∨ ∃ n s, Has d n s ∧ loadR d = (s, 0) ∧ ∀ m u, Has d m u → m ≤ n := by
  rcases load_spec (good_iff.2 h) with ⟨h1, h2⟩ | ⟨n, h1, h2, h3, h4⟩
  · left
    refine ⟨h1, fun n s hh => ?_⟩
    obtain ⟨a, b⟩ := (has_iff h).2 ⟨s, hh, has_snap h hh⟩
    exact h2 n a b
  · right
    obtain ⟨s, hh, hs⟩ := (has_iff h).1 ⟨h1, h2⟩
    refine ⟨n, s, hh, by rw [h3, hs], fun m u hm => ?_⟩
    obtain ⟨a, b⟩ := (has_iff h).2 ⟨u, hm, has_snap h hm⟩
    exact h4 m a b
theorem load_eq {d : Disk} (h : Good d) {n : Int} {s : Snp} (hh : Has d n s) (hm : ∀ m u, Has d m u → m ≤ n) : loadR d = (s, 0) := by
  rcases load_has h with ⟨_, h2⟩ | ⟨k, u, h1, h2, h3⟩
  · exact absurd hh (h2 n s)
  · have := h3 n s hh
    have := hm k u h1
    obtain rfl : k = n := by omega
    rw [h2, ← has_snap h h1, has_snap h hh]
theorem load_none {d : Disk} (h : Good d) (hm : ∀ m u, ¬ Has d m u) : loadR d = (zeroS, 6) := by
  rcases load_has h with ⟨h1, _⟩ | ⟨k, u, h1, _, _⟩
  · exact h1
  · exact absurd h1 (hm k u)
theorem iSnp_of {s : Snp} (h : rSnp s) : iSnp s := ⟨h.1, h.2.1, fun o ho => ⟨(h.2.2 o ho).1, fun k hk => ⟨((h.2.2 o ho).2 k hk).1, ((h.2.2 o ho).2 k hk).2.2.1, fun e he => (((h.2.2 o ho).2 k hk).2.2.2.1 e he).1, ((h.2.2 o ho).2 k hk).2.2.2.2.1, fun e he => (((h.2.2 o ho).2 k hk).2.2.2.2.2 e he).1⟩⟩⟩
/-- The file of a checkpoint. -/
def ckF (s : Snp) : File := ⟨nameC s.number, (encodeR s).1, (encodeR s).1⟩
theorem has_ck {d : Disk} {s : Snp} (h : ckF s ∈ d.files) (hv : validN s.number = 0) (he : (encodeR s).2 = 0) (hi : iSnp s) : Has d s.number s := ⟨_, h, rfl, hv, decode_encode he hi, rfl⟩
theorem has_only {s : Snp} {n : Int} {u : Snp} (hn : validN n = 0) (hs : validN s.number = 0) (he : (encodeR s).2 = 0) (hi : iSnp s) (h : decodeR (ckF s).vol = (u, 0)) (e : (ckF s).name = nameC n) : n = s.number ∧ u = s := by
  have := decode_encode he hi
  rw [show (ckF s).vol = (encodeR s).1 from rfl, this] at h
  exact ⟨(nameC_inj hs hn e).symm, (Prod.mk.inj h).1.symm⟩
end Go.Abs
set_option maxRecDepth 100000
namespace Go.Abs
open Go Go.Proofs
set_option linter.unusedSimpArgs false
attribute [local irreducible] numbR decodeR encodeR
theorem uniq_name {d : Disk} (h : Good d) {f g : File} (hf : f ∈ d.files) (hg : g ∈ d.files) (e : f.name = g.name) : f = g := by
  obtain ⟨i, _, hi, h1⟩ := findR_mem h.sorted hf
  obtain ⟨k, _, hk, h2⟩ := findR_mem h.sorted hg
  rw [e, h2] at h1
  obtain rfl : k = i := Option.some.inj h1
  rw [hi] at hk
  exact Option.some.inj hk
/-- Two checkpoints on an empty disk. -/
theorem two_saves {d0 : Disk} (g0 : Good d0) (h0 : d0.files = []) {s t : Snp} (hs : iSnp s) (ht : iSnp t) (ls : (encodeR s).1.length ≤ 140737488355328) (lt : (encodeR t).1.length ≤ 140737488355328) (hlt : s.number < t.number)
    (e1 : (saveC d0 t).2 = 0) (e2 : (saveC (saveC d0 t).1 s).2 = 0) : validN s.number = 0 ∧ validN t.number = 0 ∧ (encodeR s).2 = 0 ∧ (encodeR t).2 = 0 ∧
    ∃ d, saveC (saveC d0 t).1 s = (d, 0) ∧ Good d ∧ BD d.files ∧ ckF s ∈ d.files ∧ ckF t ∈ d.files ∧ (∀ z ∈ d.files, z = ckF s ∨ z = ckF t) ∧ (d.files = [ckF s, ckF t] ∨ d.files = [ckF t, ckF s]) := by
  obtain ⟨vt, et, x, k1, k2, k3, _, k5, _, k7, k8⟩ := save_spec g0 (by rw [h0]; intro f hf; simp at hf) lt e1
  rw [k1] at e2 ⊢
  obtain ⟨vs, es, y, m1, m2, m3, _, m5, m6, m7, m8⟩ := save_spec k2 k3 ls e2
  have hx : ∀ z ∈ x.files, z = ckF t := fun z hz => by
    rcases k7 z hz with h | ⟨h, _⟩
    · exact h
    · rw [h0] at h; simp at h
  have hne : nameC t.number ≠ nameC s.number := fun e => by have := nameC_inj vt vs e; omega
  have hct : ckF t ∈ y.files := m6 _ k5 (fun e => nameWC _ _ e.symm) hne
  have hall : ∀ z ∈ y.files, z = ckF s ∨ z = ckF t := fun z hz => by
    rcases m7 z hz with h | ⟨h, _⟩
    · exact .inl h
    · exact .inr (hx z h)
  refine ⟨vs, vt, es, et, y, m1, m2, m3, m5, hct, hall, ?_⟩
  have hxl : x.files.length ≤ 1 := by rw [h0] at k8; simpa using k8
  have hyl : y.files.length ≤ 2 := by omega
  have hd : ckF s ≠ ckF t := fun e => hne (by have := congrArg File.name e; exact this.symm)
  have m5' : ckF s ∈ y.files := m5
  generalize y.files = l at *
  match l, hyl with
  | [], _ => simp at hct
  | [a], _ =>
    simp only [List.mem_singleton] at hct m5'
    exact absurd (m5'.trans hct.symm) hd
  | [a, b], _ =>
    have ha := hall a (by simp)
    have hb := hall b (by simp)
    rcases ha with rfl | rfl <;> rcases hb with rfl | rfl
    · simp at hct; exact absurd hct.symm hd
    · exact .inl rfl
    · exact .inr rfl
    · simp at m5'; exact absurd m5' hd
/-- The greater one is loaded. -/
theorem two_load {d : Disk} (g : Good d) {s t : Snp} (hs : iSnp s) (ht : iSnp t) (vs : validN s.number = 0) (vt : validN t.number = 0) (es : (encodeR s).2 = 0) (et : (encodeR t).2 = 0) (hlt : s.number < t.number) (hct : ckF t ∈ d.files) (hall : ∀ z ∈ d.files, z = ckF s ∨ z = ckF t) : loadR d = (t, 0) := by
  refine load_eq g (has_ck hct vt et ht) (fun m u hh => ?_)
  obtain ⟨f, hf, e, hv, h1, h2⟩ := hh
  rcases hall f hf with rfl | rfl
  · have := (has_only hv vs es hs h1 e).1; omega
  · have := (has_only hv vt et ht h1 e).1; omega
theorem one_load {d : Disk} (g : Good d) {t : Snp} (ht : iSnp t) (vt : validN t.number = 0) (et : (encodeR t).2 = 0) (hct : ckF t ∈ d.files) (hall : ∀ z ∈ d.files, z.name = (ckF t).name → z = ckF t) (hno : ∀ z ∈ d.files, z ≠ ckF t → ∀ m u, z.name = nameC m → validN m = 0 → decodeR z.vol ≠ (u, 0)) : loadR d = (t, 0) := by
  refine load_eq g (has_ck hct vt et ht) (fun m u hh => ?_)
  obtain ⟨f, hf, e, hv, h1, h2⟩ := hh
  by_cases hft : f = ckF t
  · subst hft
    have := (has_only hv vt et ht h1 e).1; omega
  · exact absurd h1 (hno f hf hft m u e hv)
theorem sealR_ne (out : List UInt8) : sealR out ≠ [] := by simp [sealR, sumB]
theorem sealR_last (out : List UInt8) : (sealR out).getLast? = some (UInt8.ofNat (ckSum out)) := by simp [sealR, sumB]
/-- The spoilt text is not read. -/
theorem dec_spoilt {t : Snp} (h : (encodeR t).2 = 0) : (decodeR (spoilS (encodeR t).1)).2 ≠ 0 ∧ (encodeR t).1 ≠ [] ∧ (spoilS (encodeR t).1).length = (encodeR t).1.length := by
  unfold encodeR at h ⊢
  by_cases h1 : errSnp t ≠ 0
  · rw [if_pos h1] at h; exact absurd h h1
  rw [if_neg h1] at h ⊢
  by_cases h2 : 1048572 < (encSnp t).length
  · rw [if_pos h2] at h; exact absurd h (by decide)
  rw [if_neg h2]
  have ho := open_spoilt (encSnp t) ((UInt8.ofNat (ckSum (encSnp t))) ^^^ 1) (by omega) (xor_one _)
  have hsp : spoilS (sealR (encSnp t)) = (sealR (encSnp t)).dropLast ++ [(UInt8.ofNat (ckSum (encSnp t))) ^^^ 1] := by rw [spoilS, sealR_last]; rfl
  refine ⟨?_, sealR_ne _, ?_⟩
  · simp only
    rw [hsp]
    unfold decodeR decodeBy
    rw [ho]
    simp
  · simp only
    rw [hsp]
    simp [sealR, sumB]
theorem changed_same {d : Disk} (h : Good d) {x : File} (hx : x ∈ d.files) {b : List UInt8} (hb : b.length = x.vol.length) :
    changedR d x.name (wrG b) = (⟨putL d.files ⟨x.name, x.dur, b⟩, d.space⟩, 0) ∧ Good ⟨putL d.files ⟨x.name, x.dur, b⟩, d.space⟩ := by
  have hfo := found_of h.sorted hx
  have hlt := foundAt_lt hfo
  have hself : d.files[lb d.files x.name]? = some x := by
    obtain ⟨i, hil, hi, hf⟩ := findR_mem h.sorted hx
    have := oldR_mem h.sorted hx
    rw [oldR_found h.sorted, if_pos hfo] at this
    rw [List.getElem?_eq_getElem hlt] at this ⊢
    exact congrArg some this
  have hxe : d.files[lb d.files x.name] = x := (List.getElem?_eq_some_iff.1 hself).2
  have hsum : ∀ g : File → Nat, g ⟨x.name, x.dur, b⟩ = g x → ((putL d.files ⟨x.name, x.dur, b⟩).map g).sum = (d.files.map g).sum := fun g hg => by
    rw [putL, if_pos hfo, List.map_set]
    have := sum_set (d.files.map g) (lb d.files x.name) (g ⟨x.name, x.dur, b⟩) (by simpa using hlt)
    rw [List.getElem_map, hxe, hg] at this
    rw [hg]
    show ((d.files.map g).set (lb d.files x.name) (g x)).sum = _
    omega
  have hV : sumV (putL d.files ⟨x.name, x.dur, b⟩) = sumV d.files := hsum (·.vol.length) hb
  have hD : sumD (putL d.files ⟨x.name, x.dur, b⟩) = sumD d.files := hsum (·.dur.length) rfl
  have hl : (putL d.files ⟨x.name, x.dur, b⟩).length = d.files.length := putL_len hfo
  have hgood : Good ⟨putL d.files ⟨x.name, x.dur, b⟩, d.space⟩ := by
    refine ⟨h.sp, by simp only; rw [hl]; exact h.len, putL_sorted h.sorted _, fun f hf => ?_, by simp only; rw [hV]; exact h.vol, by simp only; rw [hD]; exact h.dur⟩
    rcases mem_putL hf with rfl | hf
    · exact h.names x hx
    · exact h.names f hf
  refine ⟨?_, hgood⟩
  rw [changed_law, namedR_good (good_iff.2 h), if_pos (h.names x hx), if_pos rfl, putR_putL h.sorted, oldR_mem h.sorted hx]
  have ho : overB ⟨putL d.files ⟨x.name, x.dur, b⟩, d.space⟩ = false := by
    unfold overB
    rw [Bool.or_eq_false_iff]
    exact ⟨by simpa using hgood.vol, by simpa using hgood.dur⟩
  have hl2 : ¬ (256 : Int) < (putL d.files ⟨x.name, x.dur, b⟩).length := by have := hgood.len; simp only at this; omega
  show fitD ⟨putL d.files ⟨x.name, x.dur, b⟩, d.space⟩ = _
  unfold fitD
  rw [if_neg hl2, ho]
  rfl
end Go.Abs
set_option maxRecDepth 100000
namespace Go.Abs
open Go Go.Proofs
set_option linter.unusedSimpArgs false
theorem filt_sum (l : List File) (p : File → Bool) (g : File → Nat) : ((l.filter p).map g).sum ≤ (l.map g).sum := by
  induction l with
  | nil => simp
  | cons a l ih =>
    rw [List.filter_cons]
    split
    · simp only [List.map_cons, List.sum_cons]; omega
    · simp only [List.map_cons, List.sum_cons]; omega
theorem filter_good {d : Disk} (h : Good d) (hb : BD d.files) (p : File → Bool) : Good ⟨d.files.filter p, d.space⟩ := by
  have hdl := h.len
  have hvb : sumV d.files ≤ 9223372036854775807 := Nat.le_trans (sum_bound d.files _ 140737488355328 256 (by omega) (fun f hf => (hb f hf).2)) (by decide)
  have hdb : sumD d.files ≤ 9223372036854775807 := Nat.le_trans (sum_bound d.files _ 140737488355328 256 (by omega) (fun f hf => (hb f hf).1)) (by decide)
  exact ⟨h.sp, Nat.le_trans (List.length_filter_le _ _) h.len, h.sorted.filter _, fun f hf => h.names f (List.mem_filter.1 hf).1, W_le (filt_sum d.files p (·.vol.length)) hvb h.vol, W_le (filt_sum d.files p (·.dur.length)) hdb h.dur⟩
theorem keep_ck {s : Snp} (hv : validN s.number = 0) (below : Int) : keepF below (ckF s) = decide (below ≤ s.number) := by
  unfold keepF
  rw [show (ckF s).name = nameC s.number from rfl, numbW_C, show numbR preC (nameC s.number) = (s.number, true) from numb_iff.2 ⟨rfl, hv⟩]
  simp
theorem numF_ck {s : Snp} (hv : validN s.number = 0) : numF (ckF s) = some s.number := by
  rw [numF, show (ckF s).name = nameC s.number from rfl, show numbR preC (nameC s.number) = (s.number, true) from numb_iff.2 ⟨rfl, hv⟩]
  rfl
/-- The spoilt disk. -/
theorem spoilt_spec {d : Disk} (g : Good d) {s t : Snp} (hs : iSnp s) (vs : validN s.number = 0) (vt : validN t.number = 0) (es : (encodeR s).2 = 0) (et : (encodeR t).2 = 0) (hlt : s.number < t.number) (ms : ckF s ∈ d.files) (mt : ckF t ∈ d.files)
    (hall : ∀ z ∈ d.files, z = ckF s ∨ z = ckF t) : ∃ bad, readR d (nameC t.number) = ((encodeR t).1, 0) ∧ spoilR d (nameC t.number) = (bad, true) ∧ Good bad ∧ loadR bad = (s, 0) ∧ (∀ f ∈ bad.files, f.vol.length ≤ (encodeR s).1.length + (encodeR t).1.length) := by
  obtain ⟨q1, q2, q3⟩ := dec_spoilt et
  obtain ⟨i, hil, hi, hfi⟩ := findR_mem g.sorted mt
  have hr : readR d (nameC t.number) = ((encodeR t).1, 0) := readR_good g (nameC_ok vt) hi rfl
  obtain ⟨c1, c2⟩ := changed_same g mt (b := spoilS (encodeR t).1) q3
  refine ⟨⟨putL d.files ⟨nameC t.number, (encodeR t).1, spoilS (encodeR t).1⟩, d.space⟩, hr, ?_, c2, ?_, ?_⟩
  · have c1' : changedR d (nameC t.number) (wrG (spoilS (encodeR t).1)) = _ := c1
    rw [spoilR, hr]
    simp only
    rw [if_neg (by rintro (h | h); exact h rfl; exact q2 h), c1']
    rfl
  · have hne : (ckF s).name ≠ nameC t.number := fun e => by have := nameC_inj vs vt e; omega
    have hF : (⟨nameC t.number, (encodeR t).1, spoilS (encodeR t).1⟩ : File) ∈ putL d.files ⟨nameC t.number, (encodeR t).1, spoilS (encodeR t).1⟩ := List.mem_of_getElem? (putL_self d.files ⟨nameC t.number, (encodeR t).1, spoilS (encodeR t).1⟩)
    have hsm : ckF s ∈ putL d.files ⟨nameC t.number, (encodeR t).1, spoilS (encodeR t).1⟩ := putL_mem ms hne
    refine one_load c2 hs vs es hsm (fun z hz e => uniq_name c2 hz hsm e) (fun z hz hzs m u hn hv hdec => ?_)
    have hzF : z = ⟨nameC t.number, (encodeR t).1, spoilS (encodeR t).1⟩ := by
      rcases mem_putL hz with h | h
      · exact h
      rcases hall z h with h | h
      · exact absurd h hzs
      · exact uniq_name c2 hz hF (by rw [h]; rfl)
    rw [hzF] at hdec
    simp only at hdec
    rw [hdec] at q1
    exact q1 rfl
  · intro f hf
    rcases mem_putL hf with rfl | hf
    · simp only; rw [q3]; omega
    · rcases hall f hf with rfl | rfl
      · simp [ckF]
      · simp [ckF]
theorem encodeR_le (s : Snp) : (encodeR s).1.length ≤ 1048576 := by
  unfold encodeR
  split
  · simp
  split
  · simp
  · simp [sealR, sumB]; omega
theorem sortI_one (n : Int) : sortI [n] = [n] := by simp [sortI]
theorem sortI_nil : sortI [] = [] := by simp [sortI]
theorem good0 : Good ⟨[], 65536⟩ := good_iff.1 (by decide +kernel)
end Go.Abs
set_option maxRecDepth 100000
namespace Go.Abs
open Go Go.Proofs
set_option linter.unusedSimpArgs false
attribute [local irreducible] numbR nameR checkD saveC pruneR fewS few nameC nameW encodeR keepF listR loadR spoilR ckF numbersR zeroS
set_option maxHeartbeats 4000000 in
theorem law_Passes (s t : Snp) (below : Int) (hs : rSnp s) (ht : rSnp t) : PC Tryz.prog 7 [avSnp s, avSnp t, .i below] (fun r => r = .bool true) := by
  refine PC_body tOk Tryz.func7 rfl Tryz.results7 rfl (by simp [Tryz.ntmps7]) ?_
  rw [Tryz.ntmps7]
  simp only [argSlots]
  have pS := pc_fewS s
  have pT := pc_fewS t
  have pAA := pc_Same s
  have pBB := pc_Same t
  simp only [avSnp] at pS pT pAA pBB ⊢
  repeat first|((first|refine qa tOk rfl ?_|refine qb tOk rfl ?_|refine qc ?_|refine qd ?_|refine qe ?_);simp)|refine AWP_block ?_|refine AWP_seq ?_
  refine AStep_PC rfl rfl (by simp) (pS) rfl ?_
  rintro _ rfl
  simp
  cases hS : fewS s with
  | false =>
    try simp
    refine AStep_skip rfl rfl ?_
    simp
    refine AWP_cond2 rfl (fun h => ?_) (fun h => by simp at h)
    repeat first|((first|refine qa tOk rfl ?_|refine qb tOk rfl ?_|refine qc ?_|refine qd ?_|refine qe ?_);simp)|refine AWP_block ?_|refine AWP_seq ?_
    refine AStep_PC rfl rfl (by simp) (pc_awake50) rfl ?_
    rintro _ rfl
    simp
    repeat (first|((first|refine qa tOk rfl ?_|refine qb tOk rfl ?_|refine qc ?_|refine qd ?_|refine qe ?_);simp)|refine AWP_block ?_|refine AWP_seq ?_)
  | true =>
  try simp
  refine AStep_PC rfl rfl (by simp) (pT) rfl ?_
  rintro _ rfl
  simp
  cases hT : fewS t with
  | false =>
    try simp
    repeat first|((first|refine qa tOk rfl ?_|refine qb tOk rfl ?_|refine qc ?_|refine qd ?_|refine qe ?_);simp)|refine AWP_block ?_|refine AWP_seq ?_
    refine AWP_cond2 rfl (fun h => ?_) (fun h => by simp at h)
    repeat first|((first|refine qa tOk rfl ?_|refine qb tOk rfl ?_|refine qc ?_|refine qd ?_|refine qe ?_);simp)|refine AWP_block ?_|refine AWP_seq ?_
    refine AStep_PC rfl rfl (by simp) (pc_awake50) rfl ?_
    rintro _ rfl
    simp
    repeat (first|((first|refine qa tOk rfl ?_|refine qb tOk rfl ?_|refine qc ?_|refine qd ?_|refine qe ?_);simp)|refine AWP_block ?_|refine AWP_seq ?_)
  | true =>
  try simp
  repeat first|((first|refine qa tOk rfl ?_|refine qb tOk rfl ?_|refine qc ?_|refine qd ?_|refine qe ?_);simp)|refine AWP_block ?_|refine AWP_seq ?_
  by_cases hlt : s.number < t.number
  rotate_left
  · refine AWP_cond2 rfl (fun h => ?_) (fun h => by simp at h; omega)
    repeat first|((first|refine qa tOk rfl ?_|refine qb tOk rfl ?_|refine qc ?_|refine qd ?_|refine qe ?_);simp)|refine AWP_block ?_|refine AWP_seq ?_
    refine AStep_PC rfl rfl (by simp) (pc_awake50) rfl ?_
    rintro _ rfl
    simp
    repeat first|((first|refine qa tOk rfl ?_|refine qb tOk rfl ?_|refine qc ?_|refine qd ?_|refine qe ?_);simp)|refine AWP_block ?_|refine AWP_seq ?_
  refine AWP_cond2 rfl (fun h => by simp at h; omega) (fun _ => ?_)
  obtain ⟨hjs, hls⟩ := few_j hS hs
  obtain ⟨hjt, hlt2⟩ := few_j hT ht
  have p1 := pc_cSave ⟨[], 65536⟩ t hjt (by omega) hjt.1
  have p2 := pc_cSave (saveC ⟨[], 65536⟩ t).1 s hjs (by omega) hjs.1
  simp only [encD, avSnp, List.map_nil] at p1 p2
  by_cases hok : (saveC ⟨[], 65536⟩ t).2 = 0 ∧ (saveC (saveC ⟨[], 65536⟩ t).1 s).2 = 0
  rotate_left
  · repeat first|((first|refine qa tOk rfl ?_|refine qb tOk rfl ?_|refine qc ?_|refine qd ?_|refine qe ?_);simp)|refine AWP_block ?_|refine AWP_seq ?_
    refine AStep_PC rfl rfl (by simp) (p1) rfl ?_
    rintro _ rfl
    simp
    repeat first|((first|refine qa tOk rfl ?_|refine qb tOk rfl ?_|refine qc ?_|refine qd ?_|refine qe ?_);simp)|refine AWP_block ?_|refine AWP_seq ?_
    refine AStep_PC rfl rfl (by simp) (p2) rfl ?_
    rintro _ rfl
    simp
    repeat first|((first|refine qa tOk rfl ?_|refine qb tOk rfl ?_|refine qc ?_|refine qd ?_|refine qe ?_);simp)|refine AWP_block ?_|refine AWP_seq ?_
    refine AWP_cond2 rfl (fun h => ?_) (fun h => by exfalso; apply hok; simpa using h)
    repeat first|((first|refine qa tOk rfl ?_|refine qb tOk rfl ?_|refine qc ?_|refine qd ?_|refine qe ?_);simp)|refine AWP_block ?_|refine AWP_seq ?_
    refine AStep_PC rfl rfl (by simp) (pc_awake50) rfl ?_
    rintro _ rfl
    simp
    repeat first|((first|refine qa tOk rfl ?_|refine qb tOk rfl ?_|refine qc ?_|refine qd ?_|refine qe ?_);simp)|refine AWP_block ?_|refine AWP_seq ?_
  obtain ⟨e1, e2⟩ := hok
  obtain ⟨vs, vt, es, et, d, hd, gd, bd, ms, mt, hall, hfs⟩ := two_saves good0 rfl (iSnp_of hs) (iSnp_of ht) (by have := encodeR_le s; omega) (by have := encodeR_le t; omega) hlt e1 e2
  obtain ⟨bad, hr, hsp, gb, hlb, hvb⟩ := spoilt_spec gd (iSnp_of hs) vs vt es et hlt ms mt hall
  have hL := two_load gd (iSnp_of hs) (iSnp_of ht) vs vt es et hlt mt hall
  have n1 : nameR t.number = (nameC t.number, 0) := by rw [nameR, if_neg (fun h => h vt)]
  have l1 := encodeR_le s
  have l2 := encodeR_le t
  have vld : VL d.files := fun f hf => by
    rcases hall f hf with rfl | rfl
    · simp only [ckF]; omega
    · simp only [ckF]; omega
  have gp := filter_good gd bd (keepF below)
  have vlp : VL (d.files.filter (keepF below)) := fun f hf => vld f (List.mem_filter.1 hf).1
  have vlb : VL bad.files := fun f hf => by have := hvb f hf; omega
  have p3 := pc_cName t.number ht.1.1 ht.1.2
  have p4 := pc_cLoad d (fun h => nl_ok h) (fun _ => vld)
  have p5 := pc_spoilt d (nameC t.number) (by rw [hr]; simp only; omega)
  have p6 := pc_cLoad bad (fun h => nl_ok h) (fun _ => vlb)
  have p7 := pc_cPrune d below (fun h => nl_ok h)
  have p8 := pc_cList ⟨d.files.filter (keepF below), d.space⟩ (fun h => nl_ok h)
  have p9 := pc_cLoad ⟨d.files.filter (keepF below), d.space⟩ (fun h => nl_ok h) (fun _ => vlp)
  have hpr : pruneR d below = (⟨d.files.filter (keepF below), d.space⟩, 0) := by rw [pruneR, if_neg (fun h => h (good_iff.2 gd))]
  have hli : listR ⟨d.files.filter (keepF below), d.space⟩ = (numbersR ⟨d.files.filter (keepF below), d.space⟩, 0) := by rw [listR, if_neg (fun h => h (good_iff.2 gp))]
  have p10 := dpc17 d d
  have p11 := dpc20 [t.number] [t.number]
  have k1 := keep_ck vs below
  have k2 := keep_ck vt below
  have hfl : (below ≤ s.number → d.files.filter (keepF below) = d.files) ∧ (s.number < below → below ≤ t.number → d.files.filter (keepF below) = [ckF t]) ∧ (t.number < below → d.files.filter (keepF below) = []) := by
    refine ⟨fun h => ?_, fun h h' => ?_, fun h => ?_⟩
    · have h2 : below ≤ t.number := by omega
      rcases hfs with e | e <;> rw [e] <;> simp [List.filter_cons, k1, k2, h, h2]
    · have h2 : ¬ below ≤ s.number := by omega
      rcases hfs with e | e <;> rw [e] <;> simp [List.filter_cons, k1, k2, h', h2]
    · have h2 : ¬ below ≤ s.number := by omega
      have h3 : ¬ below ≤ t.number := by omega
      rcases hfs with e | e <;> rw [e] <;> simp [List.filter_cons, k1, k2, h3, h2]
  rw [hd] at p2
  rw [n1] at p3
  rw [hL] at p4
  rw [hsp] at p5
  rw [hlb] at p6
  rw [hpr] at p7
  rw [hli] at p8
  have hwz : IntKind.i64.wrap 0 = 0 := by decide
  generalize hx1 : (saveC ⟨[], 65536⟩ t).1 = x1 at *
  obtain ⟨ds, dsp⟩ := d
  simp only [encD, avSnp, e1] at p1 p2 p3 p4 p5 p6 p7 p8 p9 p10 gp hfl
  by_cases c1 : below ≤ s.number
  · have hf := hfl.1 c1
    rw [hf] at p7 p8 p9
    rw [hL] at p9
    simp only [avSnp] at p9
    repeat first|((first|refine qa tOk rfl ?_|refine qb tOk rfl ?_|refine qc ?_|refine qd ?_|refine qe ?_);simp)|refine AWP_block ?_|refine AWP_seq ?_
    refine AStep_PC rfl rfl (by simp) (p1) rfl ?_
    rintro _ rfl
    simp
    repeat first|((first|refine qa tOk rfl ?_|refine qb tOk rfl ?_|refine qc ?_|refine qd ?_|refine qe ?_);simp)|refine AWP_block ?_|refine AWP_seq ?_
    refine AStep_PC rfl rfl (by simp) (p2) rfl ?_
    rintro _ rfl
    simp
    repeat first|((first|refine qa tOk rfl ?_|refine qb tOk rfl ?_|refine qc ?_|refine qd ?_|refine qe ?_);simp)|refine AWP_block ?_|refine AWP_seq ?_
    refine AWP_cond2 rfl (fun h => by simp at h) (fun _ => ?_)
    repeat first|((first|refine qa tOk rfl ?_|refine qb tOk rfl ?_|refine qc ?_|refine qd ?_|refine qe ?_);simp)|refine AWP_block ?_|refine AWP_seq ?_
    refine AStep_PC rfl rfl (by simp) (p3) rfl ?_
    rintro _ rfl
    simp
    repeat first|((first|refine qa tOk rfl ?_|refine qb tOk rfl ?_|refine qc ?_|refine qd ?_|refine qe ?_);simp)|refine AWP_block ?_|refine AWP_seq ?_
    refine AStep_PC rfl rfl (by simp) (p4) rfl ?_
    rintro _ rfl
    simp
    repeat first|((first|refine qa tOk rfl ?_|refine qb tOk rfl ?_|refine qc ?_|refine qd ?_|refine qe ?_);simp)|refine AWP_block ?_|refine AWP_seq ?_
    refine AStep_PC rfl rfl (by simp) (p5) rfl ?_
    rintro _ rfl
    simp
    repeat first|((first|refine qa tOk rfl ?_|refine qb tOk rfl ?_|refine qc ?_|refine qd ?_|refine qe ?_);simp)|refine AWP_block ?_|refine AWP_seq ?_
    refine AStep_PC rfl rfl (by simp) (p6) rfl ?_
    rintro _ rfl
    simp
    repeat first|((first|refine qa tOk rfl ?_|refine qb tOk rfl ?_|refine qc ?_|refine qd ?_|refine qe ?_);simp [hwz])|refine AWP_block ?_|refine AWP_seq ?_
    refine AStep_PC rfl rfl (by simp) (pBB) rfl ?_
    rintro _ rfl
    simp [hwz]
    refine AStep_PC rfl rfl (by simp) (pAA) rfl ?_
    rintro _ rfl
    simp [hwz]
    refine AWP_cond2 rfl (fun h => by simp at h) (fun _ => ?_)
    repeat first|((first|refine qa tOk rfl ?_|refine qb tOk rfl ?_|refine qc ?_|refine qd ?_|refine qe ?_);simp)|refine AWP_block ?_|refine AWP_seq ?_
    refine AStep_PC rfl rfl (by simp) (p7) rfl ?_
    rintro _ rfl
    simp
    repeat first|((first|refine qa tOk rfl ?_|refine qb tOk rfl ?_|refine qc ?_|refine qd ?_|refine qe ?_);simp)|refine AWP_block ?_|refine AWP_seq ?_
    refine AStep_PC rfl rfl (by simp) (p8) rfl ?_
    rintro _ rfl
    simp
    repeat first|((first|refine qa tOk rfl ?_|refine qb tOk rfl ?_|refine qc ?_|refine qd ?_|refine qe ?_);simp)|refine AWP_block ?_|refine AWP_seq ?_
    refine AStep_PC rfl rfl (by simp) (p9) rfl ?_
    rintro _ rfl
    simp
    repeat first|((first|refine qa tOk rfl ?_|refine qb tOk rfl ?_|refine qc ?_|refine qd ?_|refine qe ?_);simp [hwz])|refine AWP_block ?_|refine AWP_seq ?_
    refine AWP_cond2 rfl (fun h => by simp at h) (fun _ => ?_)
    repeat first|((first|refine qa tOk rfl ?_|refine qb tOk rfl ?_|refine qc ?_|refine qd ?_|refine qe ?_);simp)|refine AWP_block ?_|refine AWP_seq ?_
    refine AWP_cond2 rfl (fun _ => ?_) (fun h => by simp at h; omega)
    repeat first|((first|refine qa tOk rfl ?_|refine qb tOk rfl ?_|refine qc ?_|refine qd ?_|refine qe ?_);simp)|refine AWP_block ?_|refine AWP_seq ?_
    refine AStep_PC rfl rfl (by simp) (p10) rfl ?_
    rintro _ rfl
    simp
    refine AStep_PC rfl rfl (by simp) (pc_awake50) rfl ?_
    rintro _ rfl
    simp
    repeat first|((first|refine qa tOk rfl ?_|refine qb tOk rfl ?_|refine qc ?_|refine qd ?_|refine qe ?_);simp)|refine AWP_block ?_|refine AWP_seq ?_
  by_cases c2 : below ≤ t.number
  · have hf := hfl.2.1 (by omega) c2
    rw [hf] at p7 p8 p9 gp
    have hnum : numbersR ⟨[ckF t], dsp⟩ = [t.number] := by
      rw [numbersR]
      show sortI ([ckF t].filterMap numF) = _
      rw [List.filterMap_cons, numF_ck vt]
      exact sortI_one _
    have hl3 : loadR ⟨[ckF t], dsp⟩ = (t, 0) := one_load gp (iSnp_of ht) vt et (by simp) (fun z hz _ => by simpa using hz) (fun z hz hzt => by simp at hz; exact absurd hz hzt)
    rw [hnum] at p8
    rw [hl3] at p9
    simp only [avSnp, List.map_cons, List.map_nil] at p7 p8 p9 p11
    repeat first|((first|refine qa tOk rfl ?_|refine qb tOk rfl ?_|refine qc ?_|refine qd ?_|refine qe ?_);simp)|refine AWP_block ?_|refine AWP_seq ?_
    refine AStep_PC rfl rfl (by simp) (p1) rfl ?_
    rintro _ rfl
    simp
    repeat first|((first|refine qa tOk rfl ?_|refine qb tOk rfl ?_|refine qc ?_|refine qd ?_|refine qe ?_);simp)|refine AWP_block ?_|refine AWP_seq ?_
    refine AStep_PC rfl rfl (by simp) (p2) rfl ?_
    rintro _ rfl
    simp
    repeat first|((first|refine qa tOk rfl ?_|refine qb tOk rfl ?_|refine qc ?_|refine qd ?_|refine qe ?_);simp)|refine AWP_block ?_|refine AWP_seq ?_
    refine AWP_cond2 rfl (fun h => by simp at h) (fun _ => ?_)
    repeat first|((first|refine qa tOk rfl ?_|refine qb tOk rfl ?_|refine qc ?_|refine qd ?_|refine qe ?_);simp)|refine AWP_block ?_|refine AWP_seq ?_
    refine AStep_PC rfl rfl (by simp) (p3) rfl ?_
    rintro _ rfl
    simp
    repeat first|((first|refine qa tOk rfl ?_|refine qb tOk rfl ?_|refine qc ?_|refine qd ?_|refine qe ?_);simp)|refine AWP_block ?_|refine AWP_seq ?_
    refine AStep_PC rfl rfl (by simp) (p4) rfl ?_
    rintro _ rfl
    simp
    repeat first|((first|refine qa tOk rfl ?_|refine qb tOk rfl ?_|refine qc ?_|refine qd ?_|refine qe ?_);simp)|refine AWP_block ?_|refine AWP_seq ?_
    refine AStep_PC rfl rfl (by simp) (p5) rfl ?_
    rintro _ rfl
    simp
    repeat first|((first|refine qa tOk rfl ?_|refine qb tOk rfl ?_|refine qc ?_|refine qd ?_|refine qe ?_);simp)|refine AWP_block ?_|refine AWP_seq ?_
    refine AStep_PC rfl rfl (by simp) (p6) rfl ?_
    rintro _ rfl
    simp
    repeat first|((first|refine qa tOk rfl ?_|refine qb tOk rfl ?_|refine qc ?_|refine qd ?_|refine qe ?_);simp [hwz])|refine AWP_block ?_|refine AWP_seq ?_
    refine AStep_PC rfl rfl (by simp) (pBB) rfl ?_
    rintro _ rfl
    simp [hwz]
    refine AStep_PC rfl rfl (by simp) (pAA) rfl ?_
    rintro _ rfl
    simp [hwz]
    refine AWP_cond2 rfl (fun h => by simp at h) (fun _ => ?_)
    repeat first|((first|refine qa tOk rfl ?_|refine qb tOk rfl ?_|refine qc ?_|refine qd ?_|refine qe ?_);simp)|refine AWP_block ?_|refine AWP_seq ?_
    refine AStep_PC rfl rfl (by simp) (p7) rfl ?_
    rintro _ rfl
    simp
    repeat first|((first|refine qa tOk rfl ?_|refine qb tOk rfl ?_|refine qc ?_|refine qd ?_|refine qe ?_);simp)|refine AWP_block ?_|refine AWP_seq ?_
    refine AStep_PC rfl rfl (by simp) (p8) rfl ?_
    rintro _ rfl
    simp
    repeat first|((first|refine qa tOk rfl ?_|refine qb tOk rfl ?_|refine qc ?_|refine qd ?_|refine qe ?_);simp)|refine AWP_block ?_|refine AWP_seq ?_
    refine AStep_PC rfl rfl (by simp) (p9) rfl ?_
    rintro _ rfl
    simp
    repeat first|((first|refine qa tOk rfl ?_|refine qb tOk rfl ?_|refine qc ?_|refine qd ?_|refine qe ?_);simp [hwz])|refine AWP_block ?_|refine AWP_seq ?_
    refine AWP_cond2 rfl (fun h => by simp at h) (fun _ => ?_)
    repeat first|((first|refine qa tOk rfl ?_|refine qb tOk rfl ?_|refine qc ?_|refine qd ?_|refine qe ?_);simp)|refine AWP_block ?_|refine AWP_seq ?_
    refine AWP_cond2 rfl (fun h => by simp at h; omega) (fun _ => ?_)
    repeat first|((first|refine qa tOk rfl ?_|refine qb tOk rfl ?_|refine qc ?_|refine qd ?_|refine qe ?_);simp)|refine AWP_block ?_|refine AWP_seq ?_
    refine AWP_cond2 rfl (fun _ => ?_) (fun h => by simp at h; omega)
    repeat first|((first|refine qa tOk rfl ?_|refine qb tOk rfl ?_|refine qc ?_|refine qd ?_|refine qe ?_);simp)|refine AWP_block ?_|refine AWP_seq ?_
    refine AStep_freeze 8 rfl ?_
    simp
    refine AStep_PC rfl rfl (by simp) (p11) rfl ?_
    rintro _ rfl
    simp
    refine AStep_PC rfl rfl (by simp) (pBB) rfl ?_
    rintro _ rfl
    simp
    refine AStep_PC rfl rfl (by simp) (pc_awake50) rfl ?_
    rintro _ rfl
    simp
    repeat first|((first|refine qa tOk rfl ?_|refine qb tOk rfl ?_|refine qc ?_|refine qd ?_|refine qe ?_);simp)|refine AWP_block ?_|refine AWP_seq ?_
  · have hf := hfl.2.2 (by omega)
    rw [hf] at p7 p8 p9 gp
    have hnum : numbersR ⟨[], dsp⟩ = [] := by
      rw [numbersR]
      show sortI [] = _
      exact sortI_nil
    have hl3 : loadR ⟨[], dsp⟩ = (zeroS, 6) := load_none gp (fun m u hh => by obtain ⟨f, hf, _⟩ := hh; simp at hf)
    rw [hnum] at p8
    rw [hl3] at p9
    simp only [avSnp, List.map_nil] at p7 p8 p9
    repeat first|((first|refine qa tOk rfl ?_|refine qb tOk rfl ?_|refine qc ?_|refine qd ?_|refine qe ?_);simp)|refine AWP_block ?_|refine AWP_seq ?_
    refine AStep_PC rfl rfl (by simp) (p1) rfl ?_
    rintro _ rfl
    simp
    repeat first|((first|refine qa tOk rfl ?_|refine qb tOk rfl ?_|refine qc ?_|refine qd ?_|refine qe ?_);simp)|refine AWP_block ?_|refine AWP_seq ?_
    refine AStep_PC rfl rfl (by simp) (p2) rfl ?_
    rintro _ rfl
    simp
    repeat first|((first|refine qa tOk rfl ?_|refine qb tOk rfl ?_|refine qc ?_|refine qd ?_|refine qe ?_);simp)|refine AWP_block ?_|refine AWP_seq ?_
    refine AWP_cond2 rfl (fun h => by simp at h) (fun _ => ?_)
    repeat first|((first|refine qa tOk rfl ?_|refine qb tOk rfl ?_|refine qc ?_|refine qd ?_|refine qe ?_);simp)|refine AWP_block ?_|refine AWP_seq ?_
    refine AStep_PC rfl rfl (by simp) (p3) rfl ?_
    rintro _ rfl
    simp
    repeat first|((first|refine qa tOk rfl ?_|refine qb tOk rfl ?_|refine qc ?_|refine qd ?_|refine qe ?_);simp)|refine AWP_block ?_|refine AWP_seq ?_
    refine AStep_PC rfl rfl (by simp) (p4) rfl ?_
    rintro _ rfl
    simp
    repeat first|((first|refine qa tOk rfl ?_|refine qb tOk rfl ?_|refine qc ?_|refine qd ?_|refine qe ?_);simp)|refine AWP_block ?_|refine AWP_seq ?_
    refine AStep_PC rfl rfl (by simp) (p5) rfl ?_
    rintro _ rfl
    simp
    repeat first|((first|refine qa tOk rfl ?_|refine qb tOk rfl ?_|refine qc ?_|refine qd ?_|refine qe ?_);simp)|refine AWP_block ?_|refine AWP_seq ?_
    refine AStep_PC rfl rfl (by simp) (p6) rfl ?_
    rintro _ rfl
    simp
    repeat first|((first|refine qa tOk rfl ?_|refine qb tOk rfl ?_|refine qc ?_|refine qd ?_|refine qe ?_);simp [hwz])|refine AWP_block ?_|refine AWP_seq ?_
    refine AStep_PC rfl rfl (by simp) (pBB) rfl ?_
    rintro _ rfl
    simp [hwz]
    refine AStep_PC rfl rfl (by simp) (pAA) rfl ?_
    rintro _ rfl
    simp [hwz]
    refine AWP_cond2 rfl (fun h => by simp at h) (fun _ => ?_)
    repeat first|((first|refine qa tOk rfl ?_|refine qb tOk rfl ?_|refine qc ?_|refine qd ?_|refine qe ?_);simp)|refine AWP_block ?_|refine AWP_seq ?_
    refine AStep_PC rfl rfl (by simp) (p7) rfl ?_
    rintro _ rfl
    simp
    repeat first|((first|refine qa tOk rfl ?_|refine qb tOk rfl ?_|refine qc ?_|refine qd ?_|refine qe ?_);simp)|refine AWP_block ?_|refine AWP_seq ?_
    refine AStep_PC rfl rfl (by simp) (p8) rfl ?_
    rintro _ rfl
    simp
    repeat first|((first|refine qa tOk rfl ?_|refine qb tOk rfl ?_|refine qc ?_|refine qd ?_|refine qe ?_);simp)|refine AWP_block ?_|refine AWP_seq ?_
    refine AStep_PC rfl rfl (by simp) (p9) rfl ?_
    rintro _ rfl
    simp
    repeat first|((first|refine qa tOk rfl ?_|refine qb tOk rfl ?_|refine qc ?_|refine qd ?_|refine qe ?_);simp [hwz])|refine AWP_block ?_|refine AWP_seq ?_
    refine AWP_cond2 rfl (fun h => by simp at h) (fun _ => ?_)
    repeat first|((first|refine qa tOk rfl ?_|refine qb tOk rfl ?_|refine qc ?_|refine qd ?_|refine qe ?_);simp)|refine AWP_block ?_|refine AWP_seq ?_
    refine AWP_cond2 rfl (fun h => by simp at h; omega) (fun _ => ?_)
    repeat first|((first|refine qa tOk rfl ?_|refine qb tOk rfl ?_|refine qc ?_|refine qd ?_|refine qe ?_);simp)|refine AWP_block ?_|refine AWP_seq ?_
    refine AWP_cond2 rfl (fun h => by simp at h; omega) (fun _ => ?_)
    repeat first|((first|refine qa tOk rfl ?_|refine qb tOk rfl ?_|refine qc ?_|refine qd ?_|refine qe ?_);simp)|refine AWP_block ?_|refine AWP_seq ?_
    refine AStep_PC rfl rfl (by simp) (pc_awake50) rfl ?_
    rintro _ rfl
    simp
    repeat first|((first|refine qa tOk rfl ?_|refine qb tOk rfl ?_|refine qc ?_|refine qd ?_|refine qe ?_);simp)|refine AWP_block ?_|refine AWP_seq ?_
end Go.Abs
