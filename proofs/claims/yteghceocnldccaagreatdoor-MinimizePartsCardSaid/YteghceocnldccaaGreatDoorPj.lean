/- Part Pj of the proof: an abstract machine over the model, and what the functions of the program hand back in its terms. No condition. -/
import Derived.Test.YteghceocnldccaaGreatDoorPi
import Derived.Test.YteghceocnldccaaGreatDoorPg
import Derived.Test.YteghceocnldccaaGreatDoorPf
import Derived.Test.YteghceocnldccaaGreatDoorPe
import Derived.Test.YteghceocnldccaaGreatDoorPb
import Derived.Test.YteghceocnldccaaGreatDoorPc
import Derived.Lay
import Derived.LaidSub
import Derived.Deep.DeepWitnessRowRef
import Derived.Test.YteghceocnldccaaGreatDoorCards
import Derived.Test.YteghceocnldccaaGreatDoorTie
import Derived.Lib.LaidTab
import Derived.Test.YteghceocnldccaaGreatDoorPd
import Derived.Shelf.Vars
set_option linter.all false
set_option linter.unusedSimpArgs false
set_option maxRecDepth 100000
namespace Go.Abs
open Go Go.Proofs Go.Maps Go.RowKit
attribute [local irreducible] Er A1 Ee Nv Wk El Tp
set_option maxHeartbeats 4000000 in
theorem Xh (a:Aut):PC Tryz.prog 26 [encA a] (fun r=>r= .tup [encA (Nv a).2,.i (Nv a).1]):=by
 refine Qm tOk Tryz.func26 rfl Tryz.results26 rfl (by simp [Tryz.ntmps26]) ?_
 rw [Tryz.ntmps26];simp only [Qf];simp only [encA]
 obtain ⟨R,hR⟩:∃R,Nv a=R:=⟨_,rfl⟩
 rw [hR]
 repeat first|((first|refine ra ?_|refine rb ?_|refine rh ?_);simp)|refine qf ?_|refine qg ?_
 refine Qe rfl rfl (by simp) (Yw a) rfl ?_
 rintro _ rfl
 simp
 repeat first|((first|refine ra ?_|refine rb ?_|refine rh ?_);simp)|refine qf ?_|refine qg ?_
 refine Qb rfl (fun h=> ?_) (fun h=> ?_)
 ·have h':Wk a≠0:=by simpa using h
  rw [y18 h'] at hR;rw [←hR]
  repeat first|((first|refine ra ?_|refine rb ?_|refine rh ?_);simp)|refine qf ?_|refine qg ?_
  exact ⟨rfl,rfl,rfl⟩
 have z8:Wk a=0:=by simpa using h
 repeat first|((first|refine ra ?_|refine rb ?_|refine rh ?_);simp)|refine qf ?_|refine qg ?_
 refine Qe rfl rfl (by simp) (Oa a) rfl ?_
 rintro _ rfl
 simp
 repeat first|((first|refine ra ?_|refine rb ?_|refine rh ?_);simp)|refine qf ?_|refine qg ?_
 refine Qb rfl (fun h=> ?_) (fun h=> ?_)
 ·have h':(Er a).1≠0:=by simpa using h
  rw [u0w h'] at hR;rw [←hR]
  repeat first|((first|refine ra ?_|refine rb ?_|refine rh ?_);simp)|refine qf ?_|refine qg ?_
  exact ⟨rfl,rfl,rfl⟩
 have hd:(Er a).1=0:=by simpa using h
 have zc:=fun h=>y1l (a:=a) hd h
 have zd:=fun h=>g1v (a:=a) hd h
 have ze:=fun h=>c0o (a:=a) z8 hd h
 generalize (Er a).2=d at *
 repeat first|((first|refine ra ?_|refine rb ?_|refine rh ?_);simp)|refine qf ?_|refine qg ?_
 refine Qe rfl rfl (by simp) (Fl d) rfl ?_
 rintro _ rfl
 simp
 repeat first|((first|refine ra ?_|refine rb ?_|refine rh ?_);simp)|refine qf ?_|refine qg ?_
 refine Qb rfl (fun h=> ?_) (fun h=> ?_)
 ·have h':(A1 d).1≠0:=by simpa using h
  rw [zc h'] at hR;rw [←hR]
  repeat first|((first|refine ra ?_|refine rb ?_|refine rh ?_);simp)|refine qf ?_|refine qg ?_
  exact ⟨rfl,rfl,rfl⟩
 have hc:(A1 d).1=0:=by simpa using h
 have z7:=zd hc
 have ha:=ze hc
 rw [hR] at z7;clear zd ze zc;generalize (A1 d).2=c at *
 repeat first|((first|refine ra ?_|refine rb ?_|refine rh ?_);simp)|refine qf ?_|refine qg ?_
 refine Qe rfl rfl (by simp) (Y9 c ha.ok) rfl ?_
 rintro _ rfl
 simp
 refine Qe rfl rfl (by simp) (Vx c ha) rfl ?_
 rintro _ rfl
 simp
 repeat first|((first|refine ra ?_|refine rb ?_|refine rh ?_);simp)|refine qf ?_|refine qg ?_
 have zj:=fun (m:Mv) (hm:m∈(Ee c).mv)=>f00 ha hm
 have zp:(Ee c).mv.length≤2048:=Nat.le_trans (j0r ha) ha.ok.mvs
 have zf:Vd (Ee c)=(Ee c).mv.any fun k=>k.on.any fun s=>decide (256<s.length):=rfl
 have zk:(Ee c).types=c.types:=Vq c
 generalize Ee c=m at *;refine Wh fun Z hZ=> ?_
 have z1:Z[1]? =some (.vars [.i 0,.nils,.nils]):=by rw [hZ];rfl
 have z4:Z[4]? =some (.vars (Q4 m)):=by rw [hZ];rfl
 clear hZ;refine Qq (Qc (sl':=[(2,.vptr 1 0),(3,.i 0),(8,.vptr 4 0),(39,.list (m.mv.map encMv)),(40,.i m.mv.length),(41,.i (0:Nat))]) ?_ (by simp))
 refine Qp (P:=Tryz.prog) (F:=fun (u:Nat×List AObj)=>⟨[(2,.vptr 1 0),(3,.i 0),(8,.vptr 4 0),(39,.list (m.mv.map encMv)),(40,.i m.mv.length),(41,.i u.1)],u.2⟩)
  (fun u=>u.1≤m.mv.length∧u.2[1]? =some (.vars [.i 0,.nils,.nils])∧u.2[4]? =some (.vars (Q4 m))∧∀k∈m.mv.take u.1,(k.on.any fun s=>decide (256<s.length))=false) (fun u=>m.mv.length - u.1) ?_ (0,Z) ⟨Nat.zero_le _,z1,z4,by simp⟩
 clear z1 z4;clear Z
 rintro ⟨j,Z⟩ ⟨hj,z1,z4,za⟩ ih
 simp only at hj z1 z4 za ih ⊢
 repeat first|((first|refine ra ?_|refine rb ?_|refine rh ?_);simp)|refine qf ?_|refine qg ?_
 refine Qb rfl (fun zl=> ?_) (fun zm=> ?_)
 ·have z6:j<m.mv.length:=by simpa using zl
  have hw:IntKind.i64.wrap ((j:Int)+1)=j+1:=wrap_i64 _ (by omega) (by omega)
  have zg:=List.getElem_mem z6
  have z8:=zj _ zg
  have zn:∀k∈m.mv.take (j+1),k∈m.mv.take j∨k=m.mv[j]:=fun k hk=>by
   rw [List.take_succ_eq_append_getElem z6] at hk
   rcases List.mem_append.1 hk with h|h
   ·exact .inl h
   ·exact .inr (List.mem_singleton.1 h)
  have zh:(m.mv.map encMv)[j]? =some (encMv m.mv[j]):=by simp [z6]
  have zi:∀hh,(m.mv.map encMv)[j]'hh=encMv m.mv[j]:=fun hh=>by simp
  generalize zq:m.mv[j]=k at *;simp only [encMv] at zh zi
  have z4s:∀E,(Z++E)[4]? =some (.vars (Q4 m)):=fun E=>Qa z4 E
  have z4h:∀E hh,(Z++E)[4]'hh= .vars (Q4 m):=fun E hh=>(List.getElem_eq_iff hh).2 (z4s E)
  repeat first|((first|refine ra ?_|refine rb ?_|refine rh ?_);simp [zh,zi,z6,z4s,z4h])|refine qf ?_|refine qg ?_
  refine Qe rfl rfl (by simp) (P4 m.types k.on) rfl ?_
  rintro _ rfl
  simp
  rw [zk];refine Wh fun Y hY=> ?_
  have y1:Y[1]? =some (.vars [.i 0,.nils,.nils]):=by rw [hY];exact Qa z1 _
  have y4:Y[4]? =some (.vars (Q4 m)):=by rw [hY];exact Qa z4 _
  have yx:Y[Z.length]? =some (.vars [.i k.src,.i k.dst,.list (k.on.map encL)]):=by rw [hY,List.getElem?_append_right (by simp)];simp
  clear hY
  have y1s:∀X,(Y.set 1 X)[1]? =some X:=fun X=>Qi y1 X
  refine Qb rfl (fun h=> ?_) (fun h=> ?_)
  ·have h':Vd m=true:=by
    rw [zf,List.any_eq_true];refine ⟨k,zg,?_⟩
    have h2:El c.types k.on≠0:=by simpa using h
    cases hb:k.on.any fun s=>decide (256<s.length) with
    |true=>rfl
    |false=>exact absurd (z8.2 hb) h2
   rw [if_pos h'] at z7;rw [z7]
   repeat first|((first|refine ra ?_|refine rb ?_|refine rh ?_);simp [y1,y1s])|refine qf ?_|refine qg ?_
   exact ⟨rfl,rfl,rfl⟩
  ·have h2:El c.types k.on=0:=by simpa using h
   repeat first|((first|refine ra ?_|refine rb ?_|refine rh ?_);simp [hw])|refine qf ?_|refine qg ?_
   refine Qc (sl':=[(2,.vptr 1 0),(3,.i 0),(8,.vptr 4 0),(39,.list (m.mv.map encMv)),(40,.i m.mv.length),(41,.i (j+1:Nat))]) ?_ (by simp)
   refine ih (j+1,Y) ⟨by omega,y1,y4,fun k' zo=> ?_⟩ (by simp only;omega)
   rcases zn k' zo with e|rfl
   ·exact za k' e
   ·exact z8.1 h2
 ·have zb:j=m.mv.length:=by simp at zm;omega
  subst zb;rw [List.take_length] at za
  have h':Vd m=false:=by rw [zf,List.any_eq_false];exact fun k hk=>by rw [za k hk];simp
  rw [h',if_neg (by simp)] at z7
  rw [z7]
  have y1s:∀X,(Z.set 1 X)[1]? =some X:=fun X=>Qi z1 X
  repeat first|((first|refine ra ?_|refine rb ?_|refine rh ?_);simp [z4,z1,y1s])|refine qf ?_|refine qg ?_
end Go.Abs
namespace Go.Abs
open Go Go.Proofs Go.Maps Go.RowKit
attribute [local irreducible] exM Nv f0r j05
set_option maxHeartbeats 8000000 in
theorem P6:PC Tryz.prog 25 [] (fun r=>r= .bool true):=by
 refine Qm tOk Tryz.func25 rfl Tryz.results25 rfl (by simp [Tryz.ntmps25]) ?_
 rw [Tryz.ntmps25];simp only [Qf]
 have z6:List.range 2=[0,1]:=rfl
 have z7:List.range 3=[0,1,2]:=rfl
 repeat first|((first|refine ra ?_|refine rb ?_|refine rh ?_);simp)|refine qf ?_|refine qg ?_
 refine Qe rfl rfl (by simp) (Y8 true) rfl ?_
 rintro _ rfl
 simp
 refine Qe rfl rfl (by simp) (Sk (exM true)) rfl ?_
 rintro _ rfl
 simp [g1h]
 repeat first|((first|refine ra ?_|refine rb ?_|refine rh ?_);simp)|refine qf ?_|refine qg ?_
 refine Qe rfl rfl (by simp) (Y8 true) rfl ?_
 rintro _ rfl
 simp
 refine Qe rfl rfl (by simp) (Xh (exM true)) rfl ?_
 rintro _ rfl
 simp [d1b]
 repeat first|((first|refine ra ?_|refine rb ?_|refine rh ?_);simp)|refine qf ?_|refine qg ?_
 refine Qe rfl rfl (by simp) (Y8 true) rfl ?_
 rintro _ rfl
 simp
 refine Qe rfl rfl (by simp) (Ti (exM true) 0 1) rfl ?_
 rintro _ rfl
 simp [c18]
 simp [f06]
 repeat first|((first|refine ra ?_|refine rb ?_|refine rh ?_);simp)|refine qf ?_|refine qg ?_
 refine Qe rfl rfl (by simp) (Y8 false) rfl ?_
 rintro _ rfl
 simp
 refine Qe rfl rfl (by simp) (Ti (exM false) 0 2) rfl ?_
 rintro _ rfl
 simp [d1s]
 simp [f06]
 repeat first|((first|refine ra ?_|refine rb ?_|refine rh ?_);simp)|refine qf ?_|refine qg ?_
 refine Qe rfl rfl (by simp) (Ac (-1099511627776) 1099511627776) rfl ?_
 rintro _ rfl
 simp
 have z8:IntKind.i64.wrap 0=0:=by decide
 refine D8 (Aj tOk rfl ?_)
 simp [z6]
 refine Q0 (sl':=[(0,.bool false),(1,LI [0,1,1]),(2,.i 0),(3,.vptr 0 0),(4,.i 0),(5,.list []),(6,.bool true),(7,.i 0),(8,LSy [⟨0,5⟩]),(9,.bool true),(10,.i 0),(12,.vptr 4 0)]) ?_ (by simp)
 refine Wc 2 (e:=4) (c:=1) (xs:=[.bool false,.bool true]) rfl 4 rfl ?_
 simp
 refine Wc 3 (e:=78) (c:=3) (xs:=w0d.mv.map encMv) rfl 4 rfl ?_
 have z1:w0d.mv.length=2:=rfl
 simp [z1]
 rw [List.take_of_length_le (by simp [z1])]
 repeat first|((first|refine ra ?_|refine rb ?_|refine rh ?_);simp [z8,z7])|refine qf ?_|refine qg ?_
 refine W7 5 rfl ?_
 simp
 refine Qe rfl rfl (by simp) (k05 [0,1,1] [0,1,1]) rfl ?_
 rintro _ rfl
 simp
 repeat first|((first|refine ra ?_|refine rb ?_|refine rh ?_);simp)|refine qf ?_|refine qg ?_
 refine Qe rfl rfl (by simp) (w11 w0d) rfl ?_
 rintro _ rfl
 simp
 repeat first|((first|refine ra ?_|refine rb ?_|refine rh ?_);simp)|refine qf ?_|refine qg ?_
 refine W7 6 rfl ?_
 simp
 refine Qe rfl rfl (by simp) (w0f [⟨0,5⟩] [⟨0,5⟩]) rfl ?_
 rintro _ rfl
 simp
 repeat first|((first|refine ra ?_|refine rb ?_|refine rh ?_);simp)|refine qf ?_|refine qg ?_
end Go.Abs
namespace Go.Abs
open Go Go.Proofs Go.Maps Go.RowKit
theorem w15 (a:Aut) (s:Int) (w:List Sy) (x:Sy):stF a s (w++[x])=toL a (stF a s w) x:=by simp [stF,List.foldl_append]
theorem Bw (a:Aut) (s:Int) (w:List Sy) {j:Nat} (h:j<w.length):stF a s (w.take (j+1))=toL a (stF a s (w.take j)) w[j]:=by rw [List.take_succ_eq_append_getElem h,w15]
attribute [local irreducible] stF toL Ak
set_option maxHeartbeats 4000000 in
theorem Mz (c:Aut) (hc:Dfa c) (p q:Int) (hp:inS c p) (hq:inS c q) (w:List Sy) (hw:∀x∈w,Eg c x):PC Tryz.prog 35 [encA c,.i p,.i q,LSy w] (fun r=>r= .tup [.bool (H8 c p w != H8 c q w),.bool true]):=by
 refine Qm tOk Tryz.func35 rfl Tryz.results35 rfl (by simp [Tryz.ntmps35]) ?_
 rw [Tryz.ntmps35];simp only [Qf];simp only [encA];refine Y7 3 rfl (fun hlen=> ?_)
 rw [List.length_map] at hlen
 repeat first|((first|refine ra ?_|refine rb ?_|refine rh ?_);simp)|refine qf ?_|refine qg ?_
 refine Qq (Qc (sl':=[(1,.i (stF c p (w.take 0))),(2,.i (stF c q (w.take 0))),(4,.vptr 0 0),(8,.bool false),(9,.bool false),(16,LSy w),(17,.i w.length),(18,.i (0:Nat))]) ?_ (by simp [stF]))
 refine Qp (P:=Tryz.prog) (F:=fun (u:Nat×List AObj)=>⟨[(1,.i (stF c p (w.take u.1))),(2,.i (stF c q (w.take u.1))),(4,.vptr 0 0),(8,.bool false),(9,.bool false),(16,LSy w),(17,.i w.length),(18,.i u.1)],u.2⟩)
  (fun u=>u.1≤w.length∧u.2[0]? =some (.vars (Q4 c))) (fun u=>w.length - u.1) ?_ (0,_) ⟨Nat.zero_le _,rfl⟩
 rintro ⟨j,H⟩ ⟨hj,h0⟩ ih
 simp only at hj h0 ih ⊢
 have z7:∀x∈w.take j,Eg c x:=fun x hx=>hw x (List.mem_of_mem_take hx)
 have ip:=(hc.run (w.take j) p hp z7).1
 have iq:=(hc.run (w.take j) q hq z7).1
 repeat first|((first|refine ra ?_|refine rb ?_|refine rh ?_);simp)|refine qf ?_|refine qg ?_
 refine Qb rfl (fun zf=> ?_) (fun zg=> ?_)
 ·have z1:j<w.length:=by simpa using zf
  have zh:IntKind.i64.wrap ((j:Int)+1)=j+1:=wrap_i64 _ (by omega) (by omega)
  have hx:=hw _ (List.getElem_mem z1)
  have e1:=Bw c p w z1
  have e2:=Bw c q w z1
  have z8:=fun H'=>ih (j+1,H')
  simp only [e1,e2] at z8;clear e1 e2
  have zp:=hc.ok.fin
  generalize hP:stF c p (w.take j)=P at *;generalize hQ:stF c q (w.take j)=Q at *
  have n1:Ak c [P] w[j]=(0,[toL c P w[j]]):=by rw [j0o hc.ok (by simp) (fun s hs=>by rw [List.mem_singleton.1 hs];exact ip) hx,(hc.next ip hx).2]
  have n2:Ak c [Q] w[j]=(0,[toL c Q w[j]]):=by rw [j0o hc.ok (by simp) (fun s hs=>by rw [List.mem_singleton.1 hs];exact iq) hx,(hc.next iq hx).2]
  have i1:=(hc.next ip hx).1
  have i2:=(hc.next iq hx).1
  have za:∀E,(H++E)[0]? =some (.vars (Q4 c)):=fun E=>Qa h0 E
  have zi:∀E hh,(H++E)[0]'hh= .vars (Q4 c):=fun E hh=>(List.getElem_eq_iff hh).2 (za E)
  have zq:=Qg h0
  repeat first|((first|refine ra ?_|refine rb ?_|refine rh ?_);simp [z1,za,zi])|refine qf ?_|refine qg ?_
  generalize w[j]=x at *;generalize toL c P x=P2 at *;generalize toL c Q x=Q2 at *;refine Tu fun Y hY=> ?_
  have yl:Y.length=H.length+2:=by rw [hY];simp
  have y0:Y[0]? =some (.vars (Q4 c)):=by rw [hY];exact Qa h0 _
  have yx:Y[H.length]? =some (.vars [.i x.ty,.i x.num]):=by rw [hY,List.getElem?_append_right (by simp)];simp
  have yq:Y[H.length+1]? =some (.arr 3 1 [.i P]):=by rw [hY,List.getElem?_append_right (by simp)];simp
  clear hY;refine W7 (H.length+1) yq ?_
  simp
  refine Tu fun X hX=> ?_
  have x0:X[0]? =some (.vars (Q4 c)):=by rw [hX];exact Qd (by omega) y0 _
  have xx:X[H.length]? =some (.vars [.i x.ty,.i x.num]):=by rw [hX];exact Qd (by omega) yx _
  have xl:X.length=H.length+2:=by rw [hX];simp [yl]
  clear hX y0 yx yq yl;refine Qe rfl rfl (by simp) (x0o c [P] x) rfl ?_
  rintro _ rfl
  simp [n1]
  have x0s:∀E,(X++E)[0]? =some (.vars (Q4 c)):=fun E=>Qa x0 E
  have x0h:∀E hh,(X++E)[0]'hh= .vars (Q4 c):=fun E hh=>(List.getElem_eq_iff hh).2 (x0s E)
  have zb:∀E,(X++E)[H.length]? =some (.vars [.i x.ty,.i x.num]):=fun E=>Qa xx E
  have zj:∀E hh,(X++E)[H.length]'hh= .vars [.i x.ty,.i x.num]:=fun E hh=>(List.getElem_eq_iff hh).2 (zb E)
  repeat first|((first|refine ra ?_|refine rb ?_|refine rh ?_);simp [x0,xx,x0s,x0h,zb,zj])|refine qf ?_|refine qg ?_
  refine Tu fun Y hY=> ?_
  have y0:Y[0]? =some (.vars (Q4 c)):=by rw [hY];exact x0s _
  have yq:Y[H.length+2]? =some (.arr 3 1 [.i Q]):=by rw [hY,List.getElem?_append_right (by omega)];simp [xl]
  have zk:X.length=H.length+2:=xl
  clear hY;rw [zk];refine W7 (H.length+2) yq ?_
  simp
  refine Tu fun X2 zc=> ?_
  have w0:X2[0]? =some (.vars (Q4 c)):=by rw [zc];exact Qd (by omega) y0 _
  clear zc y0 yq;refine Qe rfl rfl (by simp) (x0o c [Q] x) rfl ?_
  rintro _ rfl
  simp [n2]
  repeat first|((first|refine ra ?_|refine rb ?_|refine rh ?_);simp)|refine qf ?_|refine qg ?_
  have a1:decide (P2<0)=false:=by have:=i1.1;simp;omega
  have a2:decide ((c.fin.length:Int)≤P2)=false:=by have:=i1.2;simp;omega
  have a3:decide (Q2<0)=false:=by have:=i2.1;simp;omega
  have a4:decide ((c.fin.length:Int)≤Q2)=false:=by have:=i2.2;simp;omega
  refine Qo tOk mixed [] (.val 0 (.val 1 (.val 2 (.val 3 (.val 4 (.val 5 (.val 6 (.val 7 (.val 8 (.val 9 (.val 10 (.val 11 (.val 12 (.val 13 (.val 14 (.val 15 (.val 16 (.val 17 (.val 18 (.val 19 (.val 20 (.val 21 (.val 22 (.val 23 (.val 24 (.val 25 (.val 26 (.val 27 (.val 28 (.val 29 (.val 30 (.val 31 (.val 32 (.val 33 (.val 34 (.val 35 (.val 36 (.val 37 (.val 38 (.val 39 (.val 40 (.val 41 (.val 42 (.val 43 (.val 44 (.val 45 (.done))))))))))))))))))))))))))))))))))))))))))))))) rfl (by kernel_rfl) ?_
  simp [w0,a1,a2,a3,a4]
  refine Qb rfl (fun h=>by first|(simp at h;done)|(simp at h;omega)) (fun _=> ?_)
  repeat first|((first|refine ra ?_|refine rb ?_|refine rh ?_);simp)|refine qf ?_|refine qg ?_
  refine Qo tOk mixed [] (.val 0 (.val 1 (.val 2 (.val 3 (.val 4 (.val 5 (.val 6 (.val 7 (.done))))))))) rfl (by kernel_rfl) ?_
  simp
  repeat first|((first|refine ra ?_|refine rb ?_|refine rh ?_);simp [zh])|refine qf ?_|refine qg ?_
  refine Qc (sl':=[(1,.i P2),(2,.i Q2),(4,.vptr 0 0),(8,.bool false),(9,.bool false),(16,LSy w),(17,.i w.length),(18,.i (j+1:Nat))]) ?_ (by simp)
  exact z8 X2 ⟨by omega,w0⟩ (by omega)
 ·have z6:j=w.length:=by simp at zg;omega
  subst z6;rw [List.take_length] at ip iq ⊢
  have e1:H8 c p w=c.fin.getD (stF c p w).toNat false:=rfl
  have e2:H8 c q w=c.fin.getD (stF c q w).toNat false:=rfl
  rw [e1,e2];generalize hP:stF c p w=P at *;generalize hQ:stF c q w=Q at *
  have zl:=ip.1
  have zm:=ip.2
  have zn:=iq.1
  have zo:=iq.2
  have zd:P.toNat<c.fin.length:=by omega
  have ze:Q.toNat<c.fin.length:=by omega
  have gP:c.fin[P.toNat]? =some (c.fin.getD P.toNat false):=by simp [List.getD,zd]
  have gQ:c.fin[Q.toNat]? =some (c.fin.getD Q.toNat false):=by simp [List.getD,ze]
  generalize c.fin.getD P.toNat false=bP at *;generalize c.fin.getD Q.toNat false=bQ at *
  have gPh:∀hh,c.fin[P.toNat]'hh=bP:=fun hh=>(List.getElem_eq_iff hh).2 gP
  have gQh:∀hh,c.fin[Q.toNat]'hh=bQ:=fun hh=>(List.getElem_eq_iff hh).2 gQ
  repeat first|((first|refine ra ?_|refine rb ?_|refine rh ?_);simp)|refine qf ?_|refine qg ?_
  refine Qo tOk mixed [] (.val 0 (.val 1 (.val 2 (.val 3 (.val 4 (.val 5 (.val 6 (.val 7 (.val 8 (.val 9 (.val 10 (.val 11 (.val 12 (.done)))))))))))))) rfl (by kernel_rfl) ?_
  simp [h0,zl,zm,zn,zo,gP,gQ,gPh,gQh,zd,ze]
  repeat first|((first|refine ra ?_|refine rb ?_|refine rh ?_);simp)|refine qf ?_|refine qg ?_
  cases bP<;>cases bQ<;>rfl
attribute [local irreducible] z1i f0q
theorem j08 (a:Aut) (w:List Sy):PC Tryz.prog 34 [encA a,LSy w] (fun r=>r= .bool (Zp a w)):=by
 refine Qm tOk Tryz.func34 rfl Tryz.results34 rfl (by simp [Tryz.ntmps34]) ?_
 rw [Tryz.ntmps34];simp only [Qf];simp only [encA]
 repeat first|((first|refine ra ?_|refine rb ?_|refine rh ?_);simp)|refine qf ?_|refine qg ?_
 refine Qe rfl rfl (by simp) (Vy a w) rfl ?_
 rintro _ rfl
 simp
 repeat first|((first|refine ra ?_|refine rb ?_|refine rh ?_);simp)|refine qf ?_|refine qg ?_
 refine Qe rfl rfl (by simp) (x16 a) rfl ?_
 rintro _ rfl
 simp
 repeat first|((first|refine ra ?_|refine rb ?_|refine rh ?_);simp)|refine qf ?_|refine qg ?_
 have:decide ((w.length:Int)≤12)=decide (w.length≤12):=by rw [decide_eq_decide];omega
 rw [this];rfl
end Go.Abs
namespace Go.Abs
theorem u13 {v w:List Sy} (h:lle v w):v.length≤w.length:=by
 rcases h with rfl|h
 ·exact Nat.le_refl _
 ·unfold ll at h;omega
theorem q0s {c:Aut} (hc:Dfa c) {p q:Int} (hp:inS c p) (hq:inS c q):(T0 c c p q).1.isSome= !decide ((clA c).getD p.toNat 0=(clA c).getD q.toNat 0):=by
 have h1:=Yp hp
 have h2:=Yp hq
 have h3:=v1c hc hp hq
 unfold E9 at h3
 rcases P8 hc hc rfl hp hq with ⟨w,e,hw⟩|⟨e,hw⟩
 ·have z1:¬(clA c).getD p.toNat 0=(clA c).getD q.toNat 0:=fun k=>(Io c c p q w).1 hw.goodw (h3.1 k w hw.okw)
  rw [e];simp only [Option.isSome_some];rw [decide_eq_false z1];rfl
 ·have z1:(clA c).getD p.toNat 0=(clA c).getD q.toNat 0:=h3.2 fun w hx=>hw w hx
  rw [e];simp only [Option.isSome_none];rw [decide_eq_true z1];rfl
theorem q0j {c:Aut} (hc:Dfa c) {p q:Int} (hp:inS c p) (hq:inS c q):(∀x∈(T0 c c p q).1.getD [],Eg c x)∧(H8 c p ((T0 c c p q).1.getD []) != H8 c q ((T0 c c p q).1.getD []))=(T0 c c p q).1.isSome∧
  ∀v,(∀x∈v,Eg c x)→(H8 c p v != H8 c q v)=true→(T0 c c p q).1.isSome=true∧((T0 c c p q).1.getD []).length≤v.length:=by
 rcases P8 hc hc rfl hp hq with ⟨w,e,hw⟩|⟨e,hw⟩
 ·rw [e];simp only [Option.getD_some,Option.isSome_some];refine ⟨hw.okw,by simpa using (Io c c p q w).1 hw.goodw,fun v hv z1=>⟨trivial,?_⟩⟩
  exact u13 (hw.least v hv ((Io c c p q v).2 (by simpa using z1)))
 ·rw [e];simp only [Option.getD_none,Option.isSome_none];refine ⟨by simp,by have:=hw [] (by simp);simpa using this,fun v hv z1=> ?_⟩
  have:=hw v hv
  simp [this] at z1
end Go.Abs
namespace Go.Abs
open Go Go.Proofs Go.Maps Go.RowKit
theorem g0h {a:Aut} {w:List Sy} (h:Zp a w=true):z1i a=true∧w.length≤12∧OkA a∧∀x∈w,Eg a x:=by
 simp only [Zp,Bool.and_eq_true,decide_eq_true_eq,beq_iff_eq] at h
 obtain ⟨⟨h1,h2⟩,h3⟩:=h
 have h4:y0n a w=0:=by
  by_cases he:y0n a w=0
  ·exact he
  ·rw [f0q,if_pos he] at h3;exact absurd h3 he
 obtain ⟨h5,_,h7⟩:=c0r.1 h4
 exact ⟨h1,h2,h5,h7⟩
attribute [simp] T55 T5
attribute [local irreducible] Zp J3 f0r j05 T0 clA H8
set_option maxHeartbeats 8000000 in
theorem z0n (a:Aut) (x y:Int) (hx:0≤x∧x≤255) (hy:0≤y∧y≤255) (w:List Sy):PC Tryz.prog 8 [encA a,.agg [.int .u8 x,.int .u8 y],LSy w] (fun r=>r= .bool true):=by
 refine Qm tOk Tryz.func8 rfl Tryz.results8 rfl (by simp [Tryz.ntmps8]) ?_
 rw [Tryz.ntmps8];simp only [Qf];simp only [encA]
 repeat first|((first|refine ra ?_|refine rb ?_|refine rh ?_);simp)|refine qf ?_|refine qg ?_
 refine Qe rfl rfl (by simp) (j08 a w) rfl ?_
 rintro _ rfl
 simp
 repeat first|((first|refine ra ?_|refine rb ?_|refine rh ?_);simp)|refine qf ?_|refine qg ?_
 cases hv:Zp a w with
 |false=>
  refine Qj rfl ?_
  repeat first|((first|refine ra ?_|refine rb ?_|refine rh ?_);simp)|refine qf ?_|refine qg ?_
  refine Qe rfl rfl (by simp) (P6) rfl ?_
  rintro _ rfl
  simp
  repeat (first|((first|refine ra ?_|refine rb ?_|refine rh ?_);simp)|refine qf ?_|refine qg ?_)
 |true=>
  obtain ⟨zh,zp,z7,hw⟩:=g0h hv
  refine Qj rfl ?_
  repeat first|((first|refine ra ?_|refine rb ?_|refine rh ?_);simp)|refine qf ?_|refine qg ?_
  refine Qe rfl rfl (by simp) (Lx a) rfl ?_
  rintro _ rfl
  simp
  repeat first|((first|refine ra ?_|refine rb ?_|refine rh ?_);simp)|refine qf ?_|refine qg ?_
  by_cases he:(J3 a).1=0
  ·obtain ⟨c1,c2,c3,c4,_⟩:=w16 z7 (c:=(J3 a).2) (Prod.ext he rfl)
   have hc:Dfa (J3 a).2:=⟨c1,c2,c3⟩
   rw [he]
   have z8:∀x∈w,Eg (J3 a).2 x:=fun x hx=>(v1g c4).2 (hw x hx)
   generalize (J3 a).2=c at *
   have hf:=hc.ok.fin
   have hz:=hc.zero
   refine Qb rfl (fun h=>by first|(simp at h;done)|(simp at h;have:=hf.1;rw [h] at this;simp at this;done)|(simp at h;have:=hf.1;omega)) (fun _=> ?_)
   have zi:IntKind.i64.wrap x=x:=wrap_i64 _ (by omega) (by omega)
   have zj:IntKind.i64.wrap y=y:=wrap_i64 _ (by omega) (by omega)
   have zk:¬c.fin=[]:=fun k=>by have:=hf.1;rw [k] at this;simp at this
   have zl:¬(c.fin.length:Int)=0:=by have:=hf.1;omega
   repeat first|((first|refine ra ?_|refine rb ?_|refine rh ?_);simp)|refine qf ?_|refine qg ?_
   refine Qo tOk mixed [] (.val 0 (.val 1 (.val 3 (.val 4 (.val 5 (.val 7 (.val 8 (.val 10 (.val 11 (.val 12 (.two 2 (.val 6 (.val 14 (.one 9 (.val 13 (.val 15 (.done)))))) 9 (.val 13 (.one 2 (.val 6 (.val 14 (.val 15 (.done))))))))))))))))) rfl (by kernel_rfl) ?_
   simp [zi,zj,zl,zk]
   have ip:inS c (x.tmod (c.fin.length:Int)):=⟨Int.tmod_nonneg _ hx.1,Int.tmod_lt_of_pos _ (by have:=hf.1;omega)⟩
   have iq:inS c (y.tmod (c.fin.length:Int)):=⟨Int.tmod_nonneg _ hy.1,Int.tmod_lt_of_pos _ (by have:=hf.1;omega)⟩
   generalize x.tmod (c.fin.length:Int)=P at *;generalize y.tmod (c.fin.length:Int)=Q at *
   have za:=(Kg c).2 hc
   have hd:j05 c P Q=((T0 c c P Q).1,0):=by unfold j05;rw [if_neg (fun k=>k za),if_pos ⟨ip,iq⟩]
   have hk:f0r c=(R0 (clA c),0):=by unfold f0r;rw [if_neg (fun k=>k za)]
   have zb:=q0s hc ip iq
   obtain ⟨zm,zc,zn⟩:=q0j hc ip iq
   have hv:=zn w z8
   have zo:=(k1a hc).len
   have z1:(clA c).length=c.fin.length:=zo
   have lp:=Yp ip
   have lq:=Yp iq
   have cP:=Mz c hc P Q ip iq _ zm
   have cW:=Mz c hc P Q ip iq w z8
   generalize (T0 c c P Q).1=R at *
   repeat first|((first|refine ra ?_|refine rb ?_|refine rh ?_);simp)|refine qf ?_|refine qg ?_
   refine Qe rfl rfl (by simp) (Ti c P Q) rfl ?_
   rintro _ rfl
   simp [hd]
   simp [f06]
   repeat first|((first|refine ra ?_|refine rb ?_|refine rh ?_);simp)|refine qf ?_|refine qg ?_
   refine Qe rfl rfl (by simp) (Sk c) rfl ?_
   rintro _ rfl
   simp [hk]
   have zd:IntKind.i64.wrap 0=0:=by decide
   have p0:=ip.1
   have p1:=ip.2
   have q0:=iq.1
   have q1:=iq.2
   have gp:(clA c)[P.toNat]? =some ((clA c).getD P.toNat 0):=by rw [List.getD,List.getElem?_eq_getElem (by omega)];rfl
   have gq:(clA c)[Q.toNat]? =some ((clA c).getD Q.toNat 0):=by rw [List.getD,List.getElem?_eq_getElem (by omega)];rfl
   generalize (clA c).getD P.toNat 0=cp at *;generalize (clA c).getD Q.toNat 0=cq at *
   have ze:∀hh,(clA c)[P.toNat]'hh=cp:=fun hh=>(List.getElem_eq_iff hh).2 gp
   have zf:∀hh,(clA c)[Q.toNat]'hh=cq:=fun hh=>(List.getElem_eq_iff hh).2 gq
   have zg:((clA c).length:Int)=c.fin.length:=by omega
   repeat first|((first|refine ra ?_|refine rb ?_|refine rh ?_);simp)|refine qf ?_|refine qg ?_
   cases R with
   |none=>
    have z6:cp=cq:=by simpa using zb
    simp only [Option.getD_none,Option.isSome_none] at *;refine Qo tOk mixed [] (.val 0 (.val 1 (.val 2 (.val 3 (.val 4 (.val 5 (.val 6 (.val 7 (.val 8 (.val 9 (.val 10 (.val 11 (.val 12 (.val 13 (.val 14 (.val 15 (.val 16 (.val 17 (.val 18 (.val 19 (.val 20 (.val 21 (.val 22 (.val 23 (.val 24 (.done)))))))))))))))))))))))))) rfl (by kernel_rfl) ?_
    simp [zd,p0,p1,q0,q1,gp,gq,ze,zf,zg,z1,z6]
    refine Qb rfl (fun h=>by first|(simp at h;done)|(simp [z6] at h;done)) (fun _=> ?_)
    refine Q0 (sl':=[(2,LSy w),(6,.bool false),(7,.vptr 2 0),(9,.i P),(10,.i Q),(11,LSy []),(12,.bool false)]) ?_ (by simp)
    repeat first|((first|refine ra ?_|refine rb ?_|refine rh ?_);simp)|refine qf ?_|refine qg ?_
    refine Qe rfl rfl (by simp) (cP) rfl ?_
    rintro _ rfl
    simp
    repeat first|((first|refine ra ?_|refine rb ?_|refine rh ?_);simp)|refine qf ?_|refine qg ?_
    refine Qe rfl rfl (by simp) (cW) rfl ?_
    rintro _ rfl
    simp
    repeat first|((first|refine ra ?_|refine rb ?_|refine rh ?_);simp)|refine qf ?_|refine qg ?_
    refine Qb rfl (fun h=>by simp at h) (fun _=> ?_)
    repeat first|((first|refine ra ?_|refine rb ?_|refine rh ?_);simp)|refine qf ?_|refine qg ?_
    refine Qe rfl rfl (by simp) (P6) rfl ?_
    rintro _ rfl
    simp
    repeat first|((first|refine ra ?_|refine rb ?_|refine rh ?_);simp)|refine qf ?_|refine qg ?_
    exact ⟨by simpa using zc,Decidable.byContradiction fun k=>by have:=(hv (by simpa using k)).1;simp at this⟩
   |some r=>
    have z6:¬(cp:Int)=cq:=fun e=>by have:cp=cq:=(by omega);simp [this] at zb
    simp only [Option.getD_some,Option.isSome_some] at *;refine Qo tOk mixed [] (.val 0 (.val 1 (.val 2 (.val 3 (.val 4 (.val 5 (.val 6 (.val 7 (.val 8 (.val 9 (.val 10 (.val 11 (.val 12 (.val 13 (.val 14 (.val 15 (.val 16 (.val 17 (.val 18 (.val 19 (.val 20 (.val 21 (.val 22 (.val 23 (.val 24 (.done)))))))))))))))))))))))))) rfl (by kernel_rfl) ?_
    simp [zd,p0,p1,q0,q1,gp,gq,ze,zf,zg,z1,z6]
    refine Qb rfl (fun h=>by first|(simp at h;done)|(simp [z6] at h;done)) (fun _=> ?_)
    refine Q0 (sl':=[(2,LSy w),(6,.bool false),(7,.vptr 2 0),(9,.i P),(10,.i Q),(11,LSy r),(12,.bool true)]) ?_ (by simp)
    repeat first|((first|refine ra ?_|refine rb ?_|refine rh ?_);simp)|refine qf ?_|refine qg ?_
    refine Qe rfl rfl (by simp) (cP) rfl ?_
    rintro _ rfl
    simp
    repeat first|((first|refine ra ?_|refine rb ?_|refine rh ?_);simp)|refine qf ?_|refine qg ?_
    refine Qe rfl rfl (by simp) (cW) rfl ?_
    rintro _ rfl
    simp
    repeat first|((first|refine ra ?_|refine rb ?_|refine rh ?_);simp)|refine qf ?_|refine qg ?_
    refine Qb rfl (fun h=>by simp at h) (fun _=> ?_)
    repeat first|((first|refine ra ?_|refine rb ?_|refine rh ?_);simp)|refine qf ?_|refine qg ?_
    refine Qe rfl rfl (by simp) (P6) rfl ?_
    rintro _ rfl
    simp
    repeat first|((first|refine ra ?_|refine rb ?_|refine rh ?_);simp)|refine qf ?_|refine qg ?_
    refine ⟨by simpa using zc,?_⟩
    by_cases e:H8 c P w=H8 c Q w
    ·exact .inl e
    ·exact .inr (hv (by simpa using e)).2
  ·have h5:(J3 a).1=5:=(x1o z7).resolve_left he
   rw [h5];refine Qb rfl (fun _=> ?_) (fun h=>by simp at h)
   repeat first|((first|refine ra ?_|refine rb ?_|refine rh ?_);simp)|refine qf ?_|refine qg ?_
   refine Qe rfl rfl (by simp) (P6) rfl ?_
   rintro _ rfl
   simp
   repeat first|((first|refine ra ?_|refine rb ?_|refine rh ?_);simp)|refine qf ?_|refine qg ?_
end Go.Abs
namespace Go.Abs
open Go Go.Proofs Go.RowKit Go.Proofs.YteghceocnldccaaGreatDoor
theorem laidOut:laidOutB Tryz.prog=true:=by kernel_rfl
theorem own:ownKnob Tryz.prog.godebug=none:=by kernel_rfl
theorem Ao {α:Type} {g:α→AV} {Q:α→Prop}:∀xs:List AV,(∀x∈xs,∃a,x=g a∧Q a)→∃l:List α,xs=l.map g∧∀a∈l,Q a
 |[],_=>⟨[],rfl,by simp⟩
 |x::xs,h=>by
  obtain ⟨a,rfl,ha⟩:=h x (by simp)
  obtain ⟨l,rfl,hl⟩:=Ao xs (fun y hy=>h y (by simp [hy]))
  exact ⟨a::l,rfl,by simpa using ⟨ha,hl⟩⟩
theorem v0t {d:Nat} {zs:List AV} (h:Shp T (d+1) 3 zs):∃n:Int,zs=[.i n]∧ -9223372036854775808≤n∧n≤9223372036854775807:=by
 simp only [Shp,T3,Kd] at h
 obtain ⟨n,rfl,h1,h2⟩:=h
 exact ⟨n,rfl,h1,h2⟩
theorem y16 {d:Nat} {zs:List AV} (h:Shp T (d+1) 4 zs):∃b:Bool,zs=[.bool b]:=by
 simp only [Shp,T4,Kd] at h;exact h
theorem v15 {d:Nat} {xs:List AV} (h:Tr T d [] xs):xs=[]:=h
theorem f1v {l:List (String×DataW Unit)} {w:World} {name:String} {k:IntKind} {zs:List Int} {g:Nat} {t e:TypeId} {n:Nat} (h:laidMetH Tryz.prog l w) (hl:l.filter (fun x=>x.1==name)=[(name,Lib.tabData k zs)])
  (hg:Tryz.prog.globalNamed name=some g) (z1:(Tryz.prog.globals[g]?).map (·.type)=some t) (ht:Tryz.prog.underlying t=some (.array n e)) (he:Tryz.prog.underlying e=some (.int k)) (z6:Tryz.prog.cellsOf e=1) (z7:Tryz.prog.cellsOf t=n):
  g<w.heap.size∧∃t fr,w.heap[g]? =some (.cells (zs.map fun z=>Value.int k z).toArray t fr):=by
 have h1:=h.filter (fun x=>x.1==name)
 rw [hl] at h1
 have h2:Lib.TabIs Tryz.prog w name k zs:=Lib.tabIs_of_head hg z1 ht he z6 z7 h1
 unfold Lib.TabIs World.var? at h2;rw [hg] at h2;simp only [Option.bind_some] at h2
 cases ho:w.heap[g]? with
 |none=>rw [ho] at h2;simp at h2
 |some o=>
  rw [ho] at h2;refine ⟨(Array.getElem?_eq_some_iff.1 ho).1,?_⟩
  cases o<;>simp at h2
  rename_i cs t fr
  exact ⟨t,fr,by rw [h2]⟩
end Go.Abs
namespace Go.Abs
open Go Go.Proofs Go.RowKit Go.Proofs.YteghceocnldccaaGreatDoor
theorem q2x {d:Nat} {zs:List AV} (h:Shp T (d+2) 187 zs):∃v:Iv,zs=(encIv v).cells:=by
 simp only [Shp,Cq,T3,Kd,z14,List.map_cons,List.map_nil] at h
 obtain ⟨_,_,rfl,⟨a,rfl,ha⟩,_,_,rfl,⟨b,rfl,hb⟩,rfl⟩:=h
 exact ⟨⟨a,b⟩,rfl⟩
theorem q2f {d:Nat} {zs:List AV} (h:Shp T (d+3) 171 zs):∃l:List Iv,zs=[encL l]:=by
 rw [Shp,G4] at h;simp only [Kd] at h
 obtain ⟨ei,xs,he,rfl,hl,hx⟩:=h
 rw [Cq] at he
 cases he
 obtain ⟨l,rfl,hq⟩:=Ao (g:=encIv) (Q:=fun _=>True) xs (fun x z1=>by
  obtain ⟨zs,rfl,hz⟩:=hx x z1
  obtain ⟨v,rfl⟩:=q2x (d:=d) hz
  exact ⟨v,rfl,trivial⟩)
 exact ⟨l,rfl⟩
theorem g1d {d:Nat} {zs:List AV} (h:Shp T (d+4) 74 zs):∃p:Prd,zs=[.list (p.map encL)]:=by
 rw [Shp,T74] at h;simp only [Kd] at h
 obtain ⟨ei,xs,he,rfl,hl,hx⟩:=h
 rw [G4] at he
 cases he
 obtain ⟨l,rfl,hq⟩:=Ao (g:=encL) (Q:=fun _=>True) xs (fun x z1=>by
  obtain ⟨zs,rfl,hz⟩:=hx x z1
  obtain ⟨v,rfl⟩:=q2f (d:=d) hz
  exact ⟨v,rfl,trivial⟩)
 exact ⟨l,rfl⟩
theorem f1g {d:Nat} {zs:List AV} (h:Shp T (d+5) 76 zs):∃p:Prd,zs=[.list (p.map encL)]:=by
 rw [Shp,T76] at h;simp only [Kd,z14,List.map_cons,List.map_nil] at h
 obtain ⟨_,_,rfl,h1,rfl⟩:=h
 obtain ⟨p,rfl⟩:=g1d (d:=d) h1
 exact ⟨p,rfl⟩
theorem j1k {d:Nat} {zs:List AV} (h:Shp T (d+6) 78 zs):∃m:Mv,zs=(encMv m).cells:=by
 rw [Shp,T78] at h;simp only [Kd,z14,List.map_cons,List.map_nil] at h
 obtain ⟨_,_,rfl,h1,_,_,rfl,h2,_,_,rfl,h3,rfl⟩:=h
 obtain ⟨a,rfl,_⟩:=v0t (d:=d+4) h1
 obtain ⟨b,rfl,_⟩:=v0t (d:=d+4) h2
 obtain ⟨p,rfl⟩:=f1g (d:=d) h3
 exact ⟨⟨a,b,p⟩,rfl⟩
theorem u1z {d:Nat} {zs:List AV} (h:Shp T (d+7) 23 zs):∃l:List Mv,zs=[.list (l.map encMv)]:=by
 rw [Shp,T23] at h;simp only [Kd] at h
 obtain ⟨ei,xs,he,rfl,hl,hx⟩:=h
 rw [T78] at he
 cases he
 obtain ⟨l,rfl,hq⟩:=Ao (g:=encMv) (Q:=fun _=>True) xs (fun x z1=>by
  obtain ⟨zs,rfl,hz⟩:=hx x z1
  obtain ⟨v,rfl⟩:=j1k (d:=d) hz
  exact ⟨v,rfl,trivial⟩)
 exact ⟨l,rfl⟩
theorem v1a {d:Nat} {zs:List AV} (h:Shp T (d+2) 22 zs):∃l:List Bool,zs=[.list (l.map .bool)]:=by
 rw [Shp,T22] at h;simp only [Kd] at h
 obtain ⟨ei,xs,he,rfl,hl,hx⟩:=h
 rw [T4] at he
 cases he
 obtain ⟨l,rfl,hq⟩:=Ao (g:=AV.bool) (Q:=fun _=>True) xs (fun x z1=>by
  obtain ⟨zs,rfl,hz⟩:=hx x z1
  obtain ⟨v,rfl⟩:=y16 (d:=d) hz
  exact ⟨v,rfl,trivial⟩)
 exact ⟨l,rfl⟩
theorem c1x {d:Nat} {zs:List AV} (h:Shp T (d+8) 25 zs):∃a:Aut,zs=(encA a).cells:=by
 rw [Shp,T25] at h;simp only [Kd,z14,List.map_cons,List.map_nil] at h
 obtain ⟨_,_,rfl,h1,_,_,rfl,h2,_,_,rfl,h3,rfl⟩:=h
 obtain ⟨t,rfl,_⟩:=v0t (d:=d+6) h1
 obtain ⟨f,rfl⟩:=v1a (d:=d+5) h2
 obtain ⟨m,rfl⟩:=u1z (d:=d) h3
 exact ⟨⟨t,f,m⟩,rfl⟩
theorem k11 {d:Nat} {ts:List Nat} {xs:List AV} (h:Tr T (d+8) (25::ts) xs):∃(a:Aut) (r:List AV),xs=encA a::r∧Tr T (d+8) ts r:=by
 obtain ⟨i,zs,r,hi,rfl,h1,h⟩:=h
 rw [T25] at hi;cases hi
 obtain ⟨a,rfl⟩:=c1x (d:=d) h1
 exact ⟨a,r,rfl,h⟩
theorem q27 {d:Nat} {zs:List AV} (h:Shp T (d+2) 53 zs):∃x:Sy,zs=(encSy x).cells:=by
 simp only [Shp,T53,T3,Kd,z14,List.map_cons,List.map_nil] at h
 obtain ⟨_,_,rfl,⟨a,rfl,ha⟩,_,_,rfl,⟨b,rfl,hb⟩,rfl⟩:=h
 exact ⟨⟨a,b⟩,rfl⟩
theorem j1c {d:Nat} {ts:List Nat} {xs:List AV} (h:Tr T (d+3) (45::ts) xs):∃(w:List Sy) (r:List AV),xs= .list (w.map encSy)::r∧Tr T (d+3) ts r:=by
 obtain ⟨i,zs,r,hi,rfl,h1,h⟩:=h
 rw [T45] at hi;cases hi
 rw [Shp,T45] at h1;simp only [Kd] at h1
 obtain ⟨ei,xs,he,rfl,hl,hx⟩:=h1
 rw [T53] at he
 cases he
 obtain ⟨l,rfl,hq⟩:=Ao (g:=encSy) (Q:=fun _=>True) xs (fun x z1=>by
  obtain ⟨zs,rfl,hz⟩:=hx x z1
  obtain ⟨v,rfl⟩:=q27 (d:=d) hz
  exact ⟨v,rfl,trivial⟩)
 exact ⟨l,r,rfl,h⟩
theorem f1a {l:List (String×DataW Unit)} {w:World} (h:laidMetH Tryz.prog l w) (hl:l.filter (fun x=>x.1== "internal/strconv.uint64pow10")=[("internal/strconv.uint64pow10",Lib.tabData .u64 Lib.pow10Tab)]):EOK Tryz.prog w (·<w.heap.size):=fun g pr hm=>by
 have e:=List.mem_singleton.1 hm
 cases e
 obtain ⟨h1,t,fr,h2⟩:=f1v (t:=300) (e:=250) (n:=20) h hl (by kernel_rfl) (by kernel_rfl) (by kernel_rfl) (by kernel_rfl) (by kernel_rfl) (by kernel_rfl)
 exact ⟨h1,_,t,fr,rfl,h2⟩
end Go.Abs
namespace Go.Abs
open Go Go.RowKit Go.Proofs.YteghceocnldccaaGreatDoor
theorem k1y {d:Nat} {zs:List AV} (h:Shp T (d+1) 5 zs):∃n:Int,zs=[.int .u8 n]∧0≤n∧n≤255:=by
 simp only [Shp,T5,Kd] at h
 obtain ⟨n,rfl,h1,h2⟩:=h
 exact ⟨n,rfl,h1,h2⟩
theorem q2d {d:Nat} {ts:List Nat} {xs:List AV} (h:Tr T (d+2) (55::ts) xs):∃(u:Int×Int) (r:List AV),xs= .agg [.int .u8 u.1,.int .u8 u.2]::r∧((0≤u.1∧u.1≤255)∧(0≤u.2∧u.2≤255))∧Tr T (d+2) ts r:=by
 obtain ⟨i,zs,r,hi,rfl,h1,h⟩:=h
 rw [T55] at hi;cases hi
 rw [Shp,T55] at h1;simp only [Kd,d1e] at h1
 obtain ⟨z1,r1,rfl,a1,z2,r2,rfl,a2,rfl⟩:=h1
 obtain ⟨n,rfl,hn⟩:=k1y a1
 obtain ⟨m,rfl,hm⟩:=k1y a2
 exact ⟨(n,m),r,rfl,⟨hn,hm⟩,h⟩
end Go.Abs
