/- Part Kj of the proof: an abstract machine over the model, and what the functions of the program hand back in its terms. No condition. -/
import Derived.Test.YteghceocnldccaaGreatDoorKi
import Derived.Test.YteghceocnldccaaGreatDoorKg
import Derived.Test.YteghceocnldccaaGreatDoorKf
import Derived.Test.YteghceocnldccaaGreatDoorKb
import Derived.Test.YteghceocnldccaaGreatDoorKc
import Derived.Lay
import Derived.LaidSub
import Derived.Deep.DeepWitnessRowRef
import Derived.Test.YteghceocnldccaaGreatDoorCards
import Derived.Test.YteghceocnldccaaGreatDoorTie
import Derived.Lib.LaidTab
import Derived.Test.YteghceocnldccaaGreatDoorKd
import Derived.Shelf.Vars
set_option linter.all false
set_option linter.unusedSimpArgs false
set_option maxRecDepth 100000
namespace Go.Abs
open Go Go.Proofs Go.Maps Go.RowKit
attribute [local irreducible] R9 Sk Ej B8 Wt Ev Yf
set_option maxHeartbeats 4000000 in
theorem C1 (a:Aut):PC Tryz.prog 26 [encA a] (fun r=>r= .tup [encA (B8 a).2,.i (B8 a).1]):=by
 refine Ql tOk Tryz.func26 rfl Tryz.results26 rfl (by simp [Tryz.ntmps26]) ?_
 rw [Tryz.ntmps26];simp only [Qg];simp only [encA]
 obtain ⟨R,hR⟩:∃R,B8 a=R:=⟨_,rfl⟩
 rw [hR]
 repeat first|((first|refine ra ?_|refine rb ?_|refine rh ?_);simp)|refine qf ?_|refine qg ?_
 refine Qe rfl rfl (by simp) (Iu a) rfl ?_
 rintro _ rfl
 simp
 repeat first|((first|refine ra ?_|refine rb ?_|refine rh ?_);simp)|refine qf ?_|refine qg ?_
 refine Qb rfl (fun h=> ?_) (fun h=> ?_)
 ·have h':Wt a≠0:=by simpa using h
  rw [u1h h'] at hR;rw [←hR]
  repeat first|((first|refine ra ?_|refine rb ?_|refine rh ?_);simp)|refine qf ?_|refine qg ?_
  exact ⟨rfl,rfl,rfl⟩
 have z8:Wt a=0:=by simpa using h
 repeat first|((first|refine ra ?_|refine rb ?_|refine rh ?_);simp)|refine qf ?_|refine qg ?_
 refine Qe rfl rfl (by simp) (Hw a) rfl ?_
 rintro _ rfl
 simp
 repeat first|((first|refine ra ?_|refine rb ?_|refine rh ?_);simp)|refine qf ?_|refine qg ?_
 refine Qb rfl (fun h=> ?_) (fun h=> ?_)
 ·have h':(R9 a).1≠0:=by simpa using h
  rw [v0w h'] at hR;rw [←hR]
  repeat first|((first|refine ra ?_|refine rb ?_|refine rh ?_);simp)|refine qf ?_|refine qg ?_
  exact ⟨rfl,rfl,rfl⟩
 have hd:(R9 a).1=0:=by simpa using h
 have zc:=fun h=>u1m (a:=a) hd h
 have zd:=fun h=>g1s (a:=a) hd h
 have ze:=fun h=>q1a (a:=a) z8 hd h
 generalize (R9 a).2=d at *
 repeat first|((first|refine ra ?_|refine rb ?_|refine rh ?_);simp)|refine qf ?_|refine qg ?_
 refine Qe rfl rfl (by simp) (Gc d) rfl ?_
 rintro _ rfl
 simp
 repeat first|((first|refine ra ?_|refine rb ?_|refine rh ?_);simp)|refine qf ?_|refine qg ?_
 refine Qb rfl (fun h=> ?_) (fun h=> ?_)
 ·have h':(Sk d).1≠0:=by simpa using h
  rw [zc h'] at hR;rw [←hR]
  repeat first|((first|refine ra ?_|refine rb ?_|refine rh ?_);simp)|refine qf ?_|refine qg ?_
  exact ⟨rfl,rfl,rfl⟩
 have hc:(Sk d).1=0:=by simpa using h
 have z7:=zd hc
 have ha:=ze hc
 rw [hR] at z7;clear zd ze zc;generalize (Sk d).2=c at *
 repeat first|((first|refine ra ?_|refine rb ?_|refine rh ?_);simp)|refine qf ?_|refine qg ?_
 refine Qe rfl rfl (by simp) (Uf c ha.ok) rfl ?_
 rintro _ rfl
 simp
 refine Qe rfl rfl (by simp) (Bf c ha) rfl ?_
 rintro _ rfl
 simp
 repeat first|((first|refine ra ?_|refine rb ?_|refine rh ?_);simp)|refine qf ?_|refine qg ?_
 have zj:=fun (m:Mv) (hm:m∈(Ej c).mv)=>c06 ha hm
 have zp:(Ej c).mv.length≤2048:=Nat.le_trans (f0t ha) ha.ok.mvs
 have zf:B9 (Ej c)=(Ej c).mv.any fun k=>k.on.any fun s=>decide (256<s.length):=rfl
 have zk:(Ej c).types=c.types:=N7 c
 generalize Ej c=m at *;refine Wj fun Z hZ=> ?_
 have z1:Z[1]? =some (.vars [.i 0,.nils,.nils]):=by rw [hZ];rfl
 have z4:Z[4]? =some (.vars (Q3 m)):=by rw [hZ];rfl
 clear hZ;refine Qp (Qc (sl':=[(2,.vptr 1 0),(3,.i 0),(8,.vptr 4 0),(39,.list (m.mv.map encMv)),(40,.i m.mv.length),(41,.i (0:Nat))]) ?_ (by simp))
 refine Qo (P:=Tryz.prog) (F:=fun (u:Nat×List AObj)=>⟨[(2,.vptr 1 0),(3,.i 0),(8,.vptr 4 0),(39,.list (m.mv.map encMv)),(40,.i m.mv.length),(41,.i u.1)],u.2⟩)
  (fun u=>u.1≤m.mv.length∧u.2[1]? =some (.vars [.i 0,.nils,.nils])∧u.2[4]? =some (.vars (Q3 m))∧∀k∈m.mv.take u.1,(k.on.any fun s=>decide (256<s.length))=false) (fun u=>m.mv.length - u.1) ?_ (0,Z) ⟨Nat.zero_le _,z1,z4,by simp⟩
 clear z1 z4;clear Z
 rintro ⟨j,Z⟩ ⟨hj,z1,z4,za⟩ ih
 simp only at hj z1 z4 za ih ⊢
 repeat first|((first|refine ra ?_|refine rb ?_|refine rh ?_);simp)|refine qf ?_|refine qg ?_
 refine Qb rfl (fun zl=> ?_) (fun zm=> ?_)
 ·have z6:j<m.mv.length:=by simpa using zl
  have hw:IntKind.i64.wrap ((j:Int)+1)=j+1:=wrap_i64 _ (by omega) (by omega)
  have zg:=List.getElem_mem z6
  have z8:=zj _ zg
  have zn:∀k∈m.mv.take (j+1),k∈m.mv.take j∨k=m.mv[j]:=fun k hk=>by
   rw [List.take_succ_eq_append_getElem z6] at hk
   rcases List.mem_append.1 hk with h|h
   ·exact .inl h
   ·exact .inr (List.mem_singleton.1 h)
  have zh:(m.mv.map encMv)[j]? =some (encMv m.mv[j]):=by simp [z6]
  have zi:∀hh,(m.mv.map encMv)[j]'hh=encMv m.mv[j]:=fun hh=>by simp
  generalize zq:m.mv[j]=k at *;simp only [encMv] at zh zi
  have z4s:∀E,(Z++E)[4]? =some (.vars (Q3 m)):=fun E=>Qa z4 E
  have z4h:∀E hh,(Z++E)[4]'hh= .vars (Q3 m):=fun E hh=>(List.getElem_eq_iff hh).2 (z4s E)
  repeat first|((first|refine ra ?_|refine rb ?_|refine rh ?_);simp [zh,zi,z6,z4s,z4h])|refine qf ?_|refine qg ?_
  refine Qe rfl rfl (by simp) (Pt m.types k.on) rfl ?_
  rintro _ rfl
  simp
  rw [zk];refine Wj fun Y hY=> ?_
  have y1:Y[1]? =some (.vars [.i 0,.nils,.nils]):=by rw [hY];exact Qa z1 _
  have y4:Y[4]? =some (.vars (Q3 m)):=by rw [hY];exact Qa z4 _
  have yx:Y[Z.length]? =some (.vars [.i k.src,.i k.dst,.list (k.on.map encL)]):=by rw [hY,List.getElem?_append_right (by simp)];simp
  clear hY
  have y1s:∀X,(Y.set 1 X)[1]? =some X:=fun X=>Qj y1 X
  refine Qb rfl (fun h=> ?_) (fun h=> ?_)
  ·have h':B9 m=true:=by
    rw [zf,List.any_eq_true];refine ⟨k,zg,?_⟩
    have h2:Ev c.types k.on≠0:=by simpa using h
    cases hb:k.on.any fun s=>decide (256<s.length) with
    |true=>rfl
    |false=>exact absurd (z8.2 hb) h2
   rw [if_pos h'] at z7;rw [z7]
   repeat first|((first|refine ra ?_|refine rb ?_|refine rh ?_);simp [y1,y1s])|refine qf ?_|refine qg ?_
   exact ⟨rfl,rfl,rfl⟩
  ·have h2:Ev c.types k.on=0:=by simpa using h
   repeat first|((first|refine ra ?_|refine rb ?_|refine rh ?_);simp [hw])|refine qf ?_|refine qg ?_
   refine Qc (sl':=[(2,.vptr 1 0),(3,.i 0),(8,.vptr 4 0),(39,.list (m.mv.map encMv)),(40,.i m.mv.length),(41,.i (j+1:Nat))]) ?_ (by simp)
   refine ih (j+1,Y) ⟨by omega,y1,y4,fun k' zo=> ?_⟩ (by simp only;omega)
   rcases zn k' zo with e|rfl
   ·exact za k' e
   ·exact z8.1 h2
 ·have zb:j=m.mv.length:=by simp at zm;omega
  subst zb;rw [List.take_length] at za
  have h':B9 m=false:=by rw [zf,List.any_eq_false];exact fun k hk=>by rw [za k hk];simp
  rw [h',if_neg (by simp)] at z7
  rw [z7]
  have y1s:∀X,(Z.set 1 X)[1]? =some X:=fun X=>Qj z1 X
  repeat first|((first|refine ra ?_|refine rb ?_|refine rh ?_);simp [z4,z1,y1s])|refine qf ?_|refine qg ?_
end Go.Abs
namespace Go.Abs
open Go Go.Proofs Go.Maps Go.RowKit
attribute [local irreducible] exM B8 w0r q04
set_option maxHeartbeats 8000000 in
theorem C7:PC Tryz.prog 25 [] (fun r=>r= .bool true):=by
 refine Ql tOk Tryz.func25 rfl Tryz.results25 rfl (by simp [Tryz.ntmps25]) ?_
 rw [Tryz.ntmps25];simp only [Qg]
 have z6:List.range 2=[0,1]:=rfl
 have z7:List.range 3=[0,1,2]:=rfl
 repeat first|((first|refine ra ?_|refine rb ?_|refine rh ?_);simp)|refine qf ?_|refine qg ?_
 refine Qe rfl rfl (by simp) (Ui true) rfl ?_
 rintro _ rfl
 simp
 refine Qe rfl rfl (by simp) (De (exM true)) rfl ?_
 rintro _ rfl
 simp [d1p]
 repeat first|((first|refine ra ?_|refine rb ?_|refine rh ?_);simp)|refine qf ?_|refine qg ?_
 refine Qe rfl rfl (by simp) (Ui true) rfl ?_
 rintro _ rfl
 simp
 refine Qe rfl rfl (by simp) (C1 (exM true)) rfl ?_
 rintro _ rfl
 simp [c1a]
 repeat first|((first|refine ra ?_|refine rb ?_|refine rh ?_);simp)|refine qf ?_|refine qg ?_
 refine Qe rfl rfl (by simp) (Ui true) rfl ?_
 rintro _ rfl
 simp
 refine Qe rfl rfl (by simp) (Ty (exM true) 0 1) rfl ?_
 rintro _ rfl
 simp [w2z]
 simp [z08]
 repeat first|((first|refine ra ?_|refine rb ?_|refine rh ?_);simp)|refine qf ?_|refine qg ?_
 refine Qe rfl rfl (by simp) (Ui false) rfl ?_
 rintro _ rfl
 simp
 refine Qe rfl rfl (by simp) (Ty (exM false) 0 2) rfl ?_
 rintro _ rfl
 simp [w2f]
 simp [z08]
 repeat first|((first|refine ra ?_|refine rb ?_|refine rh ?_);simp)|refine qf ?_|refine qg ?_
 refine Qe rfl rfl (by simp) (Ak (-1099511627776) 1099511627776) rfl ?_
 rintro _ rfl
 simp
 have z8:IntKind.i64.wrap 0=0:=by decide
 refine F3 (Ar tOk rfl ?_)
 simp [z6]
 refine Qy (sl':=[(0,.bool false),(1,LI [0,1,1]),(2,.i 0),(3,.vptr 0 0),(4,.i 0),(5,.list []),(6,.bool true),(7,.i 0),(8,LSy [⟨0,5⟩]),(9,.bool true),(10,.i 0),(12,.vptr 4 0)]) ?_ (by simp)
 refine Wc 2 (e:=4) (c:=1) (xs:=[.bool false,.bool true]) rfl 4 rfl ?_
 simp
 refine Wc 3 (e:=78) (c:=3) (xs:=y0g.mv.map encMv) rfl 4 rfl ?_
 have z1:y0g.mv.length=2:=rfl
 simp [z1]
 rw [List.take_of_length_le (by simp [z1])]
 repeat first|((first|refine ra ?_|refine rb ?_|refine rh ?_);simp [z8,z7])|refine qf ?_|refine qg ?_
 refine Ew 5 rfl ?_
 simp
 refine Qe rfl rfl (by simp) (X8 [0,1,1] [0,1,1]) rfl ?_
 rintro _ rfl
 simp
 repeat first|((first|refine ra ?_|refine rb ?_|refine rh ?_);simp)|refine qf ?_|refine qg ?_
 refine Qe rfl rfl (by simp) (z1s y0g) rfl ?_
 rintro _ rfl
 simp
 repeat first|((first|refine ra ?_|refine rb ?_|refine rh ?_);simp)|refine qf ?_|refine qg ?_
 refine Ew 6 rfl ?_
 simp
 refine Qe rfl rfl (by simp) (Jx [⟨0,5⟩] [⟨0,5⟩]) rfl ?_
 rintro _ rfl
 simp
 repeat first|((first|refine ra ?_|refine rb ?_|refine rh ?_);simp)|refine qf ?_|refine qg ?_
end Go.Abs
namespace Go.Abs
open Go Go.Proofs Go.Maps Go.RowKit
attribute [local irreducible] u1s B8 w0r q04
set_option maxHeartbeats 4000000 in
theorem Cz (a:Aut) (p q:Int):PC Tryz.prog 7 [encA a,.i p,.i q] (fun r=>r= .bool true):=by
 refine Ql tOk Tryz.func7 rfl Tryz.results7 rfl (by simp [Tryz.ntmps7]) ?_
 rw [Tryz.ntmps7];simp only [Qg];simp only [encA]
 repeat first|((first|refine ra ?_|refine rb ?_|refine rh ?_);simp)|refine qf ?_|refine qg ?_
 refine Qe rfl rfl (by simp) (j1i a) rfl ?_
 rintro _ rfl
 simp
 repeat first|((first|refine ra ?_|refine rb ?_|refine rh ?_);simp)|refine qf ?_|refine qg ?_
 refine Qb rfl (fun _=> ?_) (fun _=> ?_)
 ·repeat first|((first|refine ra ?_|refine rb ?_|refine rh ?_);simp)|refine qf ?_|refine qg ?_
  refine Qe rfl rfl (by simp) (C7) rfl ?_
  rintro _ rfl
  simp
  repeat first|((first|refine ra ?_|refine rb ?_|refine rh ?_);simp)|refine qf ?_|refine qg ?_
 repeat first|((first|refine ra ?_|refine rb ?_|refine rh ?_);simp)|refine qf ?_|refine qg ?_
 refine Qe rfl rfl (by simp) (De a) rfl ?_
 rintro _ rfl
 simp
 repeat first|((first|refine ra ?_|refine rb ?_|refine rh ?_);simp)|refine qf ?_|refine qg ?_
 refine Qe rfl rfl (by simp) (X6 a) rfl ?_
 rintro _ rfl
 simp
 repeat first|((first|refine ra ?_|refine rb ?_|refine rh ?_);simp)|refine qf ?_|refine qg ?_
 refine Qe rfl rfl (by simp) (Ty a p q) rfl ?_
 rintro _ rfl
 simp
 simp [z08]
 repeat first|((first|refine ra ?_|refine rb ?_|refine rh ?_);simp)|refine qf ?_|refine qg ?_
 refine Qe rfl rfl (by simp) (Gv a p q) rfl ?_
 rintro _ rfl
 simp
 simp [z08]
 repeat first|((first|refine ra ?_|refine rb ?_|refine rh ?_);simp)|refine qf ?_|refine qg ?_
 refine Qe rfl rfl (by simp) (C7) rfl ?_
 rintro _ rfl
 simp
 repeat first|((first|refine ra ?_|refine rb ?_|refine rh ?_);simp)|refine qf ?_|refine qg ?_
 refine Qe rfl rfl (by simp) (X8 (w0r a).1 (w0r a).1) rfl ?_
 rintro _ rfl
 simp
 repeat first|((first|refine ra ?_|refine rb ?_|refine rh ?_);simp)|refine qf ?_|refine qg ?_
 refine Qe rfl rfl (by simp) (Jx ((q04 a p q).1.getD []) ((q04 a p q).1.getD [])) rfl ?_
 rintro _ rfl
 simp
 repeat first|((first|refine ra ?_|refine rb ?_|refine rh ?_);simp)|refine qf ?_|refine qg ?_
end Go.Abs
namespace Go.Abs
open Go Go.Proofs Go.RowKit Go.Proofs.YteghceocnldccaaGreatDoor
theorem laidOut:laidOutB Tryz.prog=true:=by kernel_rfl
theorem own:ownKnob Tryz.prog.godebug=none:=by kernel_rfl
theorem Fk {α:Type} {g:α→AV} {Q:α→Prop}:∀xs:List AV,(∀x∈xs,∃a,x=g a∧Q a)→∃l:List α,xs=l.map g∧∀a∈l,Q a
 |[],_=>⟨[],rfl,by simp⟩
 |x::xs,h=>by
  obtain ⟨a,rfl,ha⟩:=h x (by simp)
  obtain ⟨l,rfl,hl⟩:=Fk xs (fun y hy=>h y (by simp [hy]))
  exact ⟨a::l,rfl,by simpa using ⟨ha,hl⟩⟩
theorem q0e {d:Nat} {zs:List AV} (h:Shp T (d+1) 3 zs):∃n:Int,zs=[.i n]∧ -9223372036854775808≤n∧n≤9223372036854775807:=by
 simp only [Shp,T3,N2] at h
 obtain ⟨n,rfl,h1,h2⟩:=h
 exact ⟨n,rfl,h1,h2⟩
theorem u1c {d:Nat} {zs:List AV} (h:Shp T (d+1) 4 zs):∃b:Bool,zs=[.bool b]:=by
 simp only [Shp,T4,N2] at h;exact h
theorem k10 {d:Nat} {xs:List AV} (h:Y9 T d [] xs):xs=[]:=h
theorem y19 {d:Nat} {ts:List Nat} {xs:List AV} (h:Y9 T (d+1) (3::ts) xs):∃(n:Int) (r:List AV),xs= .i n::r∧(-9223372036854775808≤n∧n≤9223372036854775807)∧Y9 T (d+1) ts r:=by
 obtain ⟨i,zs,r,hi,rfl,h1,h⟩:=h
 rw [T3] at hi;cases hi
 obtain ⟨n,rfl,hn⟩:=q0e h1
 exact ⟨n,r,rfl,hn,h⟩
theorem c1n {l:List (String×DataW Unit)} {w:World} {name:String} {k:IntKind} {zs:List Int} {g:Nat} {t e:TypeId} {n:Nat} (h:laidMetH Tryz.prog l w) (hl:l.filter (fun x=>x.1==name)=[(name,Lib.tabData k zs)])
  (hg:Tryz.prog.globalNamed name=some g) (z1:(Tryz.prog.globals[g]?).map (·.type)=some t) (ht:Tryz.prog.underlying t=some (.array n e)) (he:Tryz.prog.underlying e=some (.int k)) (z6:Tryz.prog.cellsOf e=1) (z7:Tryz.prog.cellsOf t=n):
  g<w.heap.size∧∃t fr,w.heap[g]? =some (.cells (zs.map fun z=>Value.int k z).toArray t fr):=by
 have h1:=h.filter (fun x=>x.1==name)
 rw [hl] at h1
 have h2:Lib.TabIs Tryz.prog w name k zs:=Lib.tabIs_of_head hg z1 ht he z6 z7 h1
 unfold Lib.TabIs World.var? at h2;rw [hg] at h2;simp only [Option.bind_some] at h2
 cases ho:w.heap[g]? with
 |none=>rw [ho] at h2;simp at h2
 |some o=>
  rw [ho] at h2;refine ⟨(Array.getElem?_eq_some_iff.1 ho).1,?_⟩
  cases o<;>simp at h2
  rename_i cs t fr
  exact ⟨t,fr,by rw [h2]⟩
end Go.Abs
namespace Go.Abs
open Go Go.Proofs Go.RowKit Go.Proofs.YteghceocnldccaaGreatDoor
theorem z2s {d:Nat} {zs:List AV} (h:Shp T (d+2) 187 zs):∃v:Iv,zs=(encIv v).cells:=by
 simp only [Shp,Si,T3,N2,u1w,List.map_cons,List.map_nil] at h
 obtain ⟨_,_,rfl,⟨a,rfl,ha⟩,_,_,rfl,⟨b,rfl,hb⟩,rfl⟩:=h
 exact ⟨⟨a,b⟩,rfl⟩
theorem q26 {d:Nat} {zs:List AV} (h:Shp T (d+3) 171 zs):∃l:List Iv,zs=[encL l]:=by
 rw [Shp,Uv] at h;simp only [N2] at h
 obtain ⟨ei,xs,he,rfl,hl,hx⟩:=h
 rw [Si] at he
 cases he
 obtain ⟨l,rfl,hq⟩:=Fk (g:=encIv) (Q:=fun _=>True) xs (fun x z1=>by
  obtain ⟨zs,rfl,hz⟩:=hx x z1
  obtain ⟨v,rfl⟩:=z2s (d:=d) hz
  exact ⟨v,rfl,trivial⟩)
 exact ⟨l,rfl⟩
theorem d1d {d:Nat} {zs:List AV} (h:Shp T (d+4) 74 zs):∃p:Prd,zs=[.list (p.map encL)]:=by
 rw [Shp,T74] at h;simp only [N2] at h
 obtain ⟨ei,xs,he,rfl,hl,hx⟩:=h
 rw [Uv] at he
 cases he
 obtain ⟨l,rfl,hq⟩:=Fk (g:=encL) (Q:=fun _=>True) xs (fun x z1=>by
  obtain ⟨zs,rfl,hz⟩:=hx x z1
  obtain ⟨v,rfl⟩:=q26 (d:=d) hz
  exact ⟨v,rfl,trivial⟩)
 exact ⟨l,rfl⟩
theorem f1h {d:Nat} {zs:List AV} (h:Shp T (d+5) 76 zs):∃p:Prd,zs=[.list (p.map encL)]:=by
 rw [Shp,T76] at h;simp only [N2,u1w,List.map_cons,List.map_nil] at h
 obtain ⟨_,_,rfl,h1,rfl⟩:=h
 obtain ⟨p,rfl⟩:=d1d (d:=d) h1
 exact ⟨p,rfl⟩
theorem d1s {d:Nat} {zs:List AV} (h:Shp T (d+6) 78 zs):∃m:Mv,zs=(encMv m).cells:=by
 rw [Shp,T78] at h;simp only [N2,u1w,List.map_cons,List.map_nil] at h
 obtain ⟨_,_,rfl,h1,_,_,rfl,h2,_,_,rfl,h3,rfl⟩:=h
 obtain ⟨a,rfl,_⟩:=q0e (d:=d+4) h1
 obtain ⟨b,rfl,_⟩:=q0e (d:=d+4) h2
 obtain ⟨p,rfl⟩:=f1h (d:=d) h3
 exact ⟨⟨a,b,p⟩,rfl⟩
theorem u18 {d:Nat} {zs:List AV} (h:Shp T (d+7) 23 zs):∃l:List Mv,zs=[.list (l.map encMv)]:=by
 rw [Shp,T23] at h;simp only [N2] at h
 obtain ⟨ei,xs,he,rfl,hl,hx⟩:=h
 rw [T78] at he
 cases he
 obtain ⟨l,rfl,hq⟩:=Fk (g:=encMv) (Q:=fun _=>True) xs (fun x z1=>by
  obtain ⟨zs,rfl,hz⟩:=hx x z1
  obtain ⟨v,rfl⟩:=d1s (d:=d) hz
  exact ⟨v,rfl,trivial⟩)
 exact ⟨l,rfl⟩
theorem v1c {d:Nat} {zs:List AV} (h:Shp T (d+2) 22 zs):∃l:List Bool,zs=[.list (l.map .bool)]:=by
 rw [Shp,T22] at h;simp only [N2] at h
 obtain ⟨ei,xs,he,rfl,hl,hx⟩:=h
 rw [T4] at he
 cases he
 obtain ⟨l,rfl,hq⟩:=Fk (g:=AV.bool) (Q:=fun _=>True) xs (fun x z1=>by
  obtain ⟨zs,rfl,hz⟩:=hx x z1
  obtain ⟨v,rfl⟩:=u1c (d:=d) hz
  exact ⟨v,rfl,trivial⟩)
 exact ⟨l,rfl⟩
theorem q2m {d:Nat} {zs:List AV} (h:Shp T (d+8) 25 zs):∃a:Aut,zs=(encA a).cells:=by
 rw [Shp,T25] at h;simp only [N2,u1w,List.map_cons,List.map_nil] at h
 obtain ⟨_,_,rfl,h1,_,_,rfl,h2,_,_,rfl,h3,rfl⟩:=h
 obtain ⟨t,rfl,_⟩:=q0e (d:=d+6) h1
 obtain ⟨f,rfl⟩:=v1c (d:=d+5) h2
 obtain ⟨m,rfl⟩:=u18 (d:=d) h3
 exact ⟨⟨t,f,m⟩,rfl⟩
theorem c1w {d:Nat} {ts:List Nat} {xs:List AV} (h:Y9 T (d+8) (25::ts) xs):∃(a:Aut) (r:List AV),xs=encA a::r∧Y9 T (d+8) ts r:=by
 obtain ⟨i,zs,r,hi,rfl,h1,h⟩:=h
 rw [T25] at hi;cases hi
 obtain ⟨a,rfl⟩:=q2m (d:=d) h1
 exact ⟨a,r,rfl,h⟩
theorem g1l {l:List (String×DataW Unit)} {w:World} (h:laidMetH Tryz.prog l w) (hl:l.filter (fun x=>x.1== "internal/strconv.uint64pow10")=[("internal/strconv.uint64pow10",Lib.tabData .u64 Lib.pow10Tab)]):EOK Tryz.prog w (·<w.heap.size):=fun g pr hm=>by
 have e:=List.mem_singleton.1 hm
 cases e
 obtain ⟨h1,t,fr,h2⟩:=c1n (t:=300) (e:=250) (n:=20) h hl (by kernel_rfl) (by kernel_rfl) (by kernel_rfl) (by kernel_rfl) (by kernel_rfl) (by kernel_rfl)
 exact ⟨h1,_,t,fr,rfl,h2⟩
end Go.Abs
