/- Part Zg of the proof: steps on the way to the last part. No condition. -/
import Derived.Test.YtdcnaocpompcpaaGreatDoorZf
import Derived.Shelf.Small.Strs
import Derived.Shelf.Sort.Plain
import Derived.Shelf.Slices.In.SortNone
import Derived.Ground.SlgcProg
import Derived.Shelf.SlicesG.Cmp
import Derived.Test.YtdcnaocpompcpaaGreatDoorProg
import Derived.Test.YtdcnaocpompcpaaGreatDoorZc
import Derived.Test.YtdcnaocpompcpaaGreatDoorZe
set_option linter.all false
open Bool renaming eq_false_iff->yF,or_eq_true->yE,and_eq_true->zX,not_eq_true->ul
open Int renaming toNat_natCast->xn
open Nat renaming zero_le->yO,le_refl->zR,le_trans->yD
open List renaming getElem?_eq_some_iff->zD,take_of_length_le->zY,getElem?_append_left->zK,getElem?_set_ne->zI,getElem?_eq_getElem->zG,drop_eq_getElem_cons->yU,take_succ_eq_append_getElem->yI,getElem_mem->yB,take_length->yV,mem_cons->y_,mem_filterMap->u9,mem_mergeSort->ua,getElem?_append_right->zF,reverse_nil->um,getElem?_set_self->zJ,sum_cons->xH,all_append->vE,mem_of_getElem?->zE,mem_reverse->vm,length_append->zL
open Option renaming isNone->uv
open Prod renaming ext->uN
set_option maxHeartbeats 4000000
set_option linter.unusedSimpArgs false
set_option maxRecDepth 100000
open Go.Proofs.Tryz
namespace Go.Abs
open Go Go.Proofs
def Lm (F:DD Val) (za:Shr F) (f:FuncId) (fs cs:List AV) (H:List AObj) (q:Nat) (d:Dc) (hd:H[q]?=some (dX d)) (hs:d.s.length<=1000000000)
  (z1:∀(H':List AObj) (d':Dc),H'[q]?=some (dX d')->d'.s.length<=1000000000->Fr H H' q none none->FC prog f (fs++[]++cs) H' (DP H' q (encV (F d').1) (F d').2)):
  FC prog 240 [.vptr q 0,.fn (.func f) fs cs] H (DP H q (.list ((pL F d).1.map encV)) (pL F d).2):=by
 refine fcB func240 results240 ntmps240 ?_;simp only[Qf];obtain⟨R,hR⟩:∃R,pL F d=R:=⟨_,rfl⟩
 rw[hR];rw[pL,bd]at hR;repeat(refine s_ ?_;simp)
 refine Qd rfl rfl (Wa H q d hd hs) rfl ?_;rintro _ G ⟨rfl,k1,f1⟩;have ze:=Qz d;generalize (pI d).1=n at *;generalize (pI d).2=d1 at *
 simp;repeat(refine s_ ?_;simp)
 by_cases hbad:n<0\/4096<n
 ·refine Qb rfl (λh=>?_) (λh=>by exfalso;rw[yF]at h;apply h;simpa only[yE,decide_eq_true_eq]using hbad);rw[if_pos hbad,Rk F _ (Wy (by decide))]at hR;repeat(refine s_ ?_;simp)
  refine Qd rfl rfl (Ww G q d1 5 k1) rfl ?_;rintro _ _ ⟨rfl,rfl⟩;have zb:(d1.fail 5).e≠0:=Wy (by decide);have k2:=Qe k1 (dX (d1.fail 5));have f2:=f1.trans (Fr.set G q none (dX (d1.fail 5)));generalize G.set q (dX (d1.fail 5))=G2 at *;generalize d1.fail 5=d2 at *;rw[dX]at k2
  have hb:(d2.e==0)=false:=by simpa using zb
  simp;repeat(refine s_ ?_;simp)
  refine Qk (Q3 ?_);repeat(refine s_ ?_;simp[k2,hb])
  refine Qb rfl (λh=>by simp at h) (λ_=>?_);refine Eh 6 rfl ?_;simp;repeat(refine s_ ?_;simp)
  rw[<-hR];exact⟨rfl,k2,f2⟩
 refine Qb rfl (λh=>by exfalso;apply hbad;simpa only[yE,decide_eq_true_eq]using h) (λ_=>?_);rw[if_neg hbad]at hR;obtain⟨N,rfl⟩:∃N:Nat,n=N:=⟨n.toNat,by omega⟩
 have hN:N<=4096:=by omega
 simp only[xn]at hR;repeat(refine s_ ?_;simp)
 refine W4 6 100 3 rfl ?_;simp;refine Qk (Qg (sl':=[(0,.vptr q 0),(1,.fn (.func f) fs cs),(5,.i N),(6,.sl G.length 3 0 0),(7,.i 0)]) ?_ (by simp));refine Qp (P:=prog) (F:=λ(u:Nat×List Val×Dc×Nat×List AObj)=>⟨[(0,.vptr q 0),(1,.fn (.func f) fs cs),(5,.i N),(6,.sl u.2.2.2.1 3 0 u.2.1.length),(7,.i u.1)],u.2.2.2.2⟩)
  (λu=>u.1<=N/\u.2.1.length=u.1/\u.2.2.2.2[q]?=some (dX u.2.2.1)/\u.2.2.2.2[u.2.2.2.1]?=some (.arr 100 3 (u.2.1.map encV))/\u.2.2.2.1≠q/\H.length<=u.2.2.2.1/\Fr H u.2.2.2.2 q none none/\u.2.2.1.s.length<=1000000000/\R=(u.2.1++(E7 F (N - u.1) u.2.2.1).1,(E7 F (N - u.1) u.2.2.1).2)) (λu=>N - u.1) ?_
  (0,[],d1,G.length,G++[.arr 100 3 []]) ⟨yO _,rfl,Qc k1 _,by simp,by have:=(zD.1 k1).1;simp only;omega,f1.1,Ec f1 _,by simp only;omega,by simpa using hR.symm⟩
 rintro⟨j,xs,dj,p,G1⟩ ⟨g1,g2,g3,g4,g5,g6,g7,g8,g9⟩ ih;simp only at g1 g2 g3 g4 g5 g6 g7 g8 g9 ih |-;have zc:G1[q]?=some (.vars [.str dj.s,.i dj.e]):=g3;repeat(refine s_ ?_;simp[zc])
 refine Qb rfl (λh=>?_) (λh=>?_)
 ·have z8:j<N/\dj.e=0:=by simpa only[zX,decide_eq_true_eq,beq_iff_eq]using h
  obtain⟨hj,he⟩:=z8;have hw1:=wz j (by omega);have zf:=za dj;have zd:=E8 F g9 hj he;repeat(refine s_ ?_;simp)
  refine Qd rfl rfl (z1 G1 dj g3 g8 g7) rfl ?_;rintro _ G2 ⟨rfl,m1,m2⟩;have m4:=m2.kd g4 g5;have b6:∀A:AObj,(G2++[A])[p]?=some (.arr 100 3 (xs.map encV)):=λA=>Qc m4 _;generalize (F dj).1=x at *;generalize (F dj).2=d3 at *
  have hx:xs.length<=4096:=by omega
  simp;repeat(refine s_ ?_;simp)
  refine apS k1e u15 ?_;simp[b6,hx];refine⟨by simp[Em,b6,hx]<;>omega,?_⟩;repeat(refine s_ ?_;simp[hw1])
  have key:=ih (j+1,xs++[x],d3,G2.length+1,(G2++[AObj.arr 100 3 [encV x]]).set p .dead++[AObj.arr 100 3 ((xs++[x]).map encV)])
   ⟨by simp only;omega,by simp[g2],Qc (Qa g5 (Qc m1 _) _) _,Ym ..,by have:=(zD.1 m1).1;simp only;omega,by have:=g7.1;have:=m2.1;simp only;omega,Oi (g7.trans m2) g6 _ _,by simp only;omega,zd⟩ (by simp only;omega)
  simp at key;exact Qg key (by simp)
 have z8:j=N\/dj.e≠0:=by rw[yF]at h;simp only[ne_eq,zX,decide_eq_true_eq,beq_iff_eq]at h;omega
 have hr:=R4 F g9 z8;refine Eb p g4 ?_;simp;try rw[zY (by simp)]
 repeat(refine s_ ?_;simp)
 rw[hr];exact⟨rfl,Qa g5 g3 _,Yd g7 g6⟩
def F7 (F:DD Bnd) (za:Shr F) (f:FuncId) (fs cs:List AV) (H:List AObj) (q:Nat) (d:Dc) (hd:H[q]?=some (dX d)) (hs:d.s.length<=1000000000)
  (z1:∀(H':List AObj) (d':Dc),H'[q]?=some (dX d')->d'.s.length<=1000000000->Fr H H' q none none->FC prog f (fs++[]++cs) H' (DP H' q (avBnd (F d').1) (F d').2)):
  FC prog 241 [.vptr q 0,.fn (.func f) fs cs] H (DP H q (.list ((pL F d).1.map avBnd)) (pL F d).2):=by
 refine fcB func241 results241 ntmps241 ?_;simp only[Qf];obtain⟨R,hR⟩:∃R,pL F d=R:=⟨_,rfl⟩
 rw[hR];rw[pL,bd]at hR;repeat(refine s_ ?_;simp)
 refine Qd rfl rfl (Wa H q d hd hs) rfl ?_;rintro _ G ⟨rfl,k1,f1⟩;have ze:=Qz d;generalize (pI d).1=n at *;generalize (pI d).2=d1 at *
 simp;repeat(refine s_ ?_;simp)
 by_cases hbad:n<0\/4096<n
 ·refine Qb rfl (λh=>?_) (λh=>by exfalso;rw[yF]at h;apply h;simpa only[yE,decide_eq_true_eq]using hbad);rw[if_pos hbad,Rk F _ (Wy (by decide))]at hR;repeat(refine s_ ?_;simp)
  refine Qd rfl rfl (Ww G q d1 5 k1) rfl ?_;rintro _ _ ⟨rfl,rfl⟩;have zb:(d1.fail 5).e≠0:=Wy (by decide);have k2:=Qe k1 (dX (d1.fail 5));have f2:=f1.trans (Fr.set G q none (dX (d1.fail 5)));generalize G.set q (dX (d1.fail 5))=G2 at *;generalize d1.fail 5=d2 at *;rw[dX]at k2
  have hb:(d2.e==0)=false:=by simpa using zb
  simp;repeat(refine s_ ?_;simp)
  refine Qk (Q3 ?_);repeat(refine s_ ?_;simp[k2,hb])
  refine Qb rfl (λh=>by simp at h) (λ_=>?_);refine Eh 6 rfl ?_;simp;repeat(refine s_ ?_;simp)
  rw[<-hR];exact⟨rfl,k2,f2⟩
 refine Qb rfl (λh=>by exfalso;apply hbad;simpa only[yE,decide_eq_true_eq]using h) (λ_=>?_);rw[if_neg hbad]at hR;obtain⟨N,rfl⟩:∃N:Nat,n=N:=⟨n.toNat,by omega⟩
 have hN:N<=4096:=by omega
 simp only[xn]at hR;repeat(refine s_ ?_;simp)
 refine W4 6 126 4 rfl ?_;simp;refine Qk (Qg (sl':=[(0,.vptr q 0),(1,.fn (.func f) fs cs),(5,.i N),(6,.sl G.length 4 0 0),(7,.i 0)]) ?_ (by simp));refine Qp (P:=prog) (F:=λ(u:Nat×List Bnd×Dc×Nat×List AObj)=>⟨[(0,.vptr q 0),(1,.fn (.func f) fs cs),(5,.i N),(6,.sl u.2.2.2.1 4 0 u.2.1.length),(7,.i u.1)],u.2.2.2.2⟩)
  (λu=>u.1<=N/\u.2.1.length=u.1/\u.2.2.2.2[q]?=some (dX u.2.2.1)/\u.2.2.2.2[u.2.2.2.1]?=some (.arr 126 4 (u.2.1.map avBnd))/\u.2.2.2.1≠q/\H.length<=u.2.2.2.1/\Fr H u.2.2.2.2 q none none/\u.2.2.1.s.length<=1000000000/\R=(u.2.1++(E7 F (N - u.1) u.2.2.1).1,(E7 F (N - u.1) u.2.2.1).2)) (λu=>N - u.1) ?_
  (0,[],d1,G.length,G++[.arr 126 4 []]) ⟨yO _,rfl,Qc k1 _,by simp,by have:=(zD.1 k1).1;simp only;omega,f1.1,Ec f1 _,by simp only;omega,by simpa using hR.symm⟩
 rintro⟨j,xs,dj,p,G1⟩ ⟨g1,g2,g3,g4,g5,g6,g7,g8,g9⟩ ih;simp only at g1 g2 g3 g4 g5 g6 g7 g8 g9 ih |-;have zc:G1[q]?=some (.vars [.str dj.s,.i dj.e]):=g3;repeat(refine s_ ?_;simp[zc])
 refine Qb rfl (λh=>?_) (λh=>?_)
 ·have z8:j<N/\dj.e=0:=by simpa only[zX,decide_eq_true_eq,beq_iff_eq]using h
  obtain⟨hj,he⟩:=z8;have hw1:=wz j (by omega);have zf:=za dj;have zd:=E8 F g9 hj he;repeat(refine s_ ?_;simp)
  refine Qd rfl rfl (z1 G1 dj g3 g8 g7) rfl ?_;rintro _ G2 ⟨rfl,m1,m2⟩;have m4:=m2.kd g4 g5;have b6:∀A:AObj,(G2++[A])[p]?=some (.arr 126 4 (xs.map avBnd)):=λA=>Qc m4 _;generalize (F dj).1=x at *;generalize (F dj).2=d3 at *
  have hx:xs.length<=4096:=by omega
  simp;repeat(refine s_ ?_;simp)
  refine apS T74 v1k ?_;simp[b6,hx];refine⟨by simp[Em,b6,hx]<;>omega,?_⟩;repeat(refine s_ ?_;simp[hw1])
  have key:=ih (j+1,xs++[x],d3,G2.length+1,(G2++[AObj.arr 126 4 [avBnd x]]).set p .dead++[AObj.arr 126 4 ((xs++[x]).map avBnd)])
   ⟨by simp only;omega,by simp[g2],Qc (Qa g5 (Qc m1 _) _) _,Ym ..,by have:=(zD.1 m1).1;simp only;omega,by have:=g7.1;have:=m2.1;simp only;omega,Oi (g7.trans m2) g6 _ _,by simp only;omega,zd⟩ (by simp only;omega)
  simp at key;exact Qg key (by simp)
 have z8:j=N\/dj.e≠0:=by rw[yF]at h;simp only[ne_eq,zX,decide_eq_true_eq,beq_iff_eq]at h;omega
 have hr:=R4 F g9 z8;refine Eb p g4 ?_;simp;try rw[zY (by simp)]
 repeat(refine s_ ?_;simp)
 rw[hr];exact⟨rfl,Qa g5 g3 _,Yd g7 g6⟩
def Zj (F:DD Stt) (za:Shr F) (f:FuncId) (fs cs:List AV) (H:List AObj) (q:Nat) (d:Dc) (hd:H[q]?=some (dX d)) (hs:d.s.length<=1000000000)
  (z1:∀(H':List AObj) (d':Dc),H'[q]?=some (dX d')->d'.s.length<=1000000000->Fr H H' q none none->FC prog f (fs++[]++cs) H' (DP H' q (avStt (F d').1) (F d').2)):
  FC prog 243 [.vptr q 0,.fn (.func f) fs cs] H (DP H q (.list ((pL F d).1.map avStt)) (pL F d).2):=by
 refine fcB func243 results243 ntmps243 ?_;simp only[Qf];obtain⟨R,hR⟩:∃R,pL F d=R:=⟨_,rfl⟩
 rw[hR];rw[pL,bd]at hR;repeat(refine s_ ?_;simp)
 refine Qd rfl rfl (Wa H q d hd hs) rfl ?_;rintro _ G ⟨rfl,k1,f1⟩;have ze:=Qz d;generalize (pI d).1=n at *;generalize (pI d).2=d1 at *
 simp;repeat(refine s_ ?_;simp)
 by_cases hbad:n<0\/4096<n
 ·refine Qb rfl (λh=>?_) (λh=>by exfalso;rw[yF]at h;apply h;simpa only[yE,decide_eq_true_eq]using hbad);rw[if_pos hbad,Rk F _ (Wy (by decide))]at hR;repeat(refine s_ ?_;simp)
  refine Qd rfl rfl (Ww G q d1 5 k1) rfl ?_;rintro _ _ ⟨rfl,rfl⟩;have zb:(d1.fail 5).e≠0:=Wy (by decide);have k2:=Qe k1 (dX (d1.fail 5));have f2:=f1.trans (Fr.set G q none (dX (d1.fail 5)));generalize G.set q (dX (d1.fail 5))=G2 at *;generalize d1.fail 5=d2 at *;rw[dX]at k2
  have hb:(d2.e==0)=false:=by simpa using zb
  simp;repeat(refine s_ ?_;simp)
  refine Qk (Q3 ?_);repeat(refine s_ ?_;simp[k2,hb])
  refine Qb rfl (λh=>by simp at h) (λ_=>?_);refine Eh 6 rfl ?_;simp;repeat(refine s_ ?_;simp)
  rw[<-hR];exact⟨rfl,k2,f2⟩
 refine Qb rfl (λh=>by exfalso;apply hbad;simpa only[yE,decide_eq_true_eq]using h) (λ_=>?_);rw[if_neg hbad]at hR;obtain⟨N,rfl⟩:∃N:Nat,n=N:=⟨n.toNat,by omega⟩
 have hN:N<=4096:=by omega
 simp only[xn]at hR;repeat(refine s_ ?_;simp)
 refine W4 6 317 2 rfl ?_;simp;refine Qk (Qg (sl':=[(0,.vptr q 0),(1,.fn (.func f) fs cs),(5,.i N),(6,.sl G.length 2 0 0),(7,.i 0)]) ?_ (by simp));refine Qp (P:=prog) (F:=λ(u:Nat×List Stt×Dc×Nat×List AObj)=>⟨[(0,.vptr q 0),(1,.fn (.func f) fs cs),(5,.i N),(6,.sl u.2.2.2.1 2 0 u.2.1.length),(7,.i u.1)],u.2.2.2.2⟩)
  (λu=>u.1<=N/\u.2.1.length=u.1/\u.2.2.2.2[q]?=some (dX u.2.2.1)/\u.2.2.2.2[u.2.2.2.1]?=some (.arr 317 2 (u.2.1.map avStt))/\u.2.2.2.1≠q/\H.length<=u.2.2.2.1/\Fr H u.2.2.2.2 q none none/\u.2.2.1.s.length<=1000000000/\R=(u.2.1++(E7 F (N - u.1) u.2.2.1).1,(E7 F (N - u.1) u.2.2.1).2)) (λu=>N - u.1) ?_
  (0,[],d1,G.length,G++[.arr 317 2 []]) ⟨yO _,rfl,Qc k1 _,by simp,by have:=(zD.1 k1).1;simp only;omega,f1.1,Ec f1 _,by simp only;omega,by simpa using hR.symm⟩
 rintro⟨j,xs,dj,p,G1⟩ ⟨g1,g2,g3,g4,g5,g6,g7,g8,g9⟩ ih;simp only at g1 g2 g3 g4 g5 g6 g7 g8 g9 ih |-;have zc:G1[q]?=some (.vars [.str dj.s,.i dj.e]):=g3;repeat(refine s_ ?_;simp[zc])
 refine Qb rfl (λh=>?_) (λh=>?_)
 ·have z8:j<N/\dj.e=0:=by simpa only[zX,decide_eq_true_eq,beq_iff_eq]using h
  obtain⟨hj,he⟩:=z8;have hw1:=wz j (by omega);have zf:=za dj;have zd:=E8 F g9 hj he;repeat(refine s_ ?_;simp)
  refine Qd rfl rfl (z1 G1 dj g3 g8 g7) rfl ?_;rintro _ G2 ⟨rfl,m1,m2⟩;have m4:=m2.kd g4 g5;have b6:∀A:AObj,(G2++[A])[p]?=some (.arr 317 2 (xs.map avStt)):=λA=>Qc m4 _;generalize (F dj).1=x at *;generalize (F dj).2=d3 at *
  have hx:xs.length<=4096:=by omega
  simp;repeat(refine s_ ?_;simp)
  refine apS k1g k1i ?_;simp[b6,hx];refine⟨by simp[Em,b6,hx]<;>omega,?_⟩;repeat(refine s_ ?_;simp[hw1])
  have key:=ih (j+1,xs++[x],d3,G2.length+1,(G2++[AObj.arr 317 2 [avStt x]]).set p .dead++[AObj.arr 317 2 ((xs++[x]).map avStt)])
   ⟨by simp only;omega,by simp[g2],Qc (Qa g5 (Qc m1 _) _) _,Ym ..,by have:=(zD.1 m1).1;simp only;omega,by have:=g7.1;have:=m2.1;simp only;omega,Oi (g7.trans m2) g6 _ _,by simp only;omega,zd⟩ (by simp only;omega)
  simp at key;exact Qg key (by simp)
 have z8:j=N\/dj.e≠0:=by rw[yF]at h;simp only[ne_eq,zX,decide_eq_true_eq,beq_iff_eq]at h;omega
 have hr:=R4 F g9 z8;refine Eb p g4 ?_;simp;try rw[zY (by simp)]
 repeat(refine s_ ?_;simp)
 rw[hr];exact⟨rfl,Qa g5 g3 _,Yd g7 g6⟩
def Sf (F:DD Ev) (za:Shr F) (f:FuncId) (fs cs:List AV) (H:List AObj) (q:Nat) (d:Dc) (hd:H[q]?=some (dX d)) (hs:d.s.length<=1000000000)
  (z1:∀(H':List AObj) (d':Dc),H'[q]?=some (dX d')->d'.s.length<=1000000000->Fr H H' q none none->FC prog f (fs++[]++cs) H' (DP H' q (encE (F d').1) (F d').2)):
  FC prog 233 [.vptr q 0,.fn (.func f) fs cs] H (DP H q (.list ((pL F d).1.map encE)) (pL F d).2):=by
 refine fcB func233 results233 ntmps233 ?_;simp only[Qf];obtain⟨R,hR⟩:∃R,pL F d=R:=⟨_,rfl⟩
 rw[hR];rw[pL,bd]at hR;repeat(refine s_ ?_;simp)
 refine Qd rfl rfl (Wa H q d hd hs) rfl ?_;rintro _ G ⟨rfl,k1,f1⟩;have ze:=Qz d;generalize (pI d).1=n at *;generalize (pI d).2=d1 at *
 simp;repeat(refine s_ ?_;simp)
 by_cases hbad:n<0\/4096<n
 ·refine Qb rfl (λh=>?_) (λh=>by exfalso;rw[yF]at h;apply h;simpa only[yE,decide_eq_true_eq]using hbad);rw[if_pos hbad,Rk F _ (Wy (by decide))]at hR;repeat(refine s_ ?_;simp)
  refine Qd rfl rfl (Ww G q d1 5 k1) rfl ?_;rintro _ _ ⟨rfl,rfl⟩;have zb:(d1.fail 5).e≠0:=Wy (by decide);have k2:=Qe k1 (dX (d1.fail 5));have f2:=f1.trans (Fr.set G q none (dX (d1.fail 5)));generalize G.set q (dX (d1.fail 5))=G2 at *;generalize d1.fail 5=d2 at *;rw[dX]at k2
  have hb:(d2.e==0)=false:=by simpa using zb
  simp;repeat(refine s_ ?_;simp)
  refine Qk (Q3 ?_);repeat(refine s_ ?_;simp[k2,hb])
  refine Qb rfl (λh=>by simp at h) (λ_=>?_);refine Eh 6 rfl ?_;simp;repeat(refine s_ ?_;simp)
  rw[<-hR];exact⟨rfl,k2,f2⟩
 refine Qb rfl (λh=>by exfalso;apply hbad;simpa only[yE,decide_eq_true_eq]using h) (λ_=>?_);rw[if_neg hbad]at hR;obtain⟨N,rfl⟩:∃N:Nat,n=N:=⟨n.toNat,by omega⟩
 have hN:N<=4096:=by omega
 simp only[xn]at hR;repeat(refine s_ ?_;simp)
 refine W4 6 289 5 rfl ?_;simp;refine Qk (Qg (sl':=[(0,.vptr q 0),(1,.fn (.func f) fs cs),(5,.i N),(6,.sl G.length 5 0 0),(7,.i 0)]) ?_ (by simp));refine Qp (P:=prog) (F:=λ(u:Nat×List Ev×Dc×Nat×List AObj)=>⟨[(0,.vptr q 0),(1,.fn (.func f) fs cs),(5,.i N),(6,.sl u.2.2.2.1 5 0 u.2.1.length),(7,.i u.1)],u.2.2.2.2⟩)
  (λu=>u.1<=N/\u.2.1.length=u.1/\u.2.2.2.2[q]?=some (dX u.2.2.1)/\u.2.2.2.2[u.2.2.2.1]?=some (.arr 289 5 (u.2.1.map encE))/\u.2.2.2.1≠q/\H.length<=u.2.2.2.1/\Fr H u.2.2.2.2 q none none/\u.2.2.1.s.length<=1000000000/\R=(u.2.1++(E7 F (N - u.1) u.2.2.1).1,(E7 F (N - u.1) u.2.2.1).2)) (λu=>N - u.1) ?_
  (0,[],d1,G.length,G++[.arr 289 5 []]) ⟨yO _,rfl,Qc k1 _,by simp,by have:=(zD.1 k1).1;simp only;omega,f1.1,Ec f1 _,by simp only;omega,by simpa using hR.symm⟩
 rintro⟨j,xs,dj,p,G1⟩ ⟨g1,g2,g3,g4,g5,g6,g7,g8,g9⟩ ih;simp only at g1 g2 g3 g4 g5 g6 g7 g8 g9 ih |-;have zc:G1[q]?=some (.vars [.str dj.s,.i dj.e]):=g3;repeat(refine s_ ?_;simp[zc])
 refine Qb rfl (λh=>?_) (λh=>?_)
 ·have z8:j<N/\dj.e=0:=by simpa only[zX,decide_eq_true_eq,beq_iff_eq]using h
  obtain⟨hj,he⟩:=z8;have hw1:=wz j (by omega);have zf:=za dj;have zd:=E8 F g9 hj he;repeat(refine s_ ?_;simp)
  refine Qd rfl rfl (z1 G1 dj g3 g8 g7) rfl ?_;rintro _ G2 ⟨rfl,m1,m2⟩;have m4:=m2.kd g4 g5;have b6:∀A:AObj,(G2++[A])[p]?=some (.arr 289 5 (xs.map encE)):=λA=>Qc m4 _;generalize (F dj).1=x at *;generalize (F dj).2=d3 at *
  have hx:xs.length<=4096:=by omega
  simp;repeat(refine s_ ?_;simp)
  refine apS k1a v1p ?_;simp[b6,hx];refine⟨by simp[Em,b6,hx]<;>omega,?_⟩;repeat(refine s_ ?_;simp[hw1])
  have key:=ih (j+1,xs++[x],d3,G2.length+1,(G2++[AObj.arr 289 5 [encE x]]).set p .dead++[AObj.arr 289 5 ((xs++[x]).map encE)])
   ⟨by simp only;omega,by simp[g2],Qc (Qa g5 (Qc m1 _) _) _,Ym ..,by have:=(zD.1 m1).1;simp only;omega,by have:=g7.1;have:=m2.1;simp only;omega,Oi (g7.trans m2) g6 _ _,by simp only;omega,zd⟩ (by simp only;omega)
  simp at key;exact Qg key (by simp)
 have z8:j=N\/dj.e≠0:=by rw[yF]at h;simp only[ne_eq,zX,decide_eq_true_eq,beq_iff_eq]at h;omega
 have hr:=R4 F g9 z8;refine Eb p g4 ?_;simp;try rw[zY (by simp)]
 repeat(refine s_ ?_;simp)
 rw[hr];exact⟨rfl,Qa g5 g3 _,Yd g7 g6⟩
def Hy (F:DD Cfg) (za:Shr F) (f:FuncId) (fs cs:List AV) (H:List AObj) (q:Nat) (d:Dc) (hd:H[q]?=some (dX d)) (hs:d.s.length<=1000000000)
  (z1:∀(H':List AObj) (d':Dc),H'[q]?=some (dX d')->d'.s.length<=1000000000->Fr H H' q none none->FC prog f (fs++[]++cs) H' (DP H' q (avCfg (F d').1) (F d').2)):
  FC prog 235 [.vptr q 0,.fn (.func f) fs cs] H (DP H q (.list ((pL F d).1.map avCfg)) (pL F d).2):=by
 refine fcB func235 results235 ntmps235 ?_;simp only[Qf];obtain⟨R,hR⟩:∃R,pL F d=R:=⟨_,rfl⟩
 rw[hR];rw[pL,bd]at hR;repeat(refine s_ ?_;simp)
 refine Qd rfl rfl (Wa H q d hd hs) rfl ?_;rintro _ G ⟨rfl,k1,f1⟩;have ze:=Qz d;generalize (pI d).1=n at *;generalize (pI d).2=d1 at *
 simp;repeat(refine s_ ?_;simp)
 by_cases hbad:n<0\/4096<n
 ·refine Qb rfl (λh=>?_) (λh=>by exfalso;rw[yF]at h;apply h;simpa only[yE,decide_eq_true_eq]using hbad);rw[if_pos hbad,Rk F _ (Wy (by decide))]at hR;repeat(refine s_ ?_;simp)
  refine Qd rfl rfl (Ww G q d1 5 k1) rfl ?_;rintro _ _ ⟨rfl,rfl⟩;have zb:(d1.fail 5).e≠0:=Wy (by decide);have k2:=Qe k1 (dX (d1.fail 5));have f2:=f1.trans (Fr.set G q none (dX (d1.fail 5)));generalize G.set q (dX (d1.fail 5))=G2 at *;generalize d1.fail 5=d2 at *;rw[dX]at k2
  have hb:(d2.e==0)=false:=by simpa using zb
  simp;repeat(refine s_ ?_;simp)
  refine Qk (Q3 ?_);repeat(refine s_ ?_;simp[k2,hb])
  refine Qb rfl (λh=>by simp at h) (λ_=>?_);refine Eh 6 rfl ?_;simp;repeat(refine s_ ?_;simp)
  rw[<-hR];exact⟨rfl,k2,f2⟩
 refine Qb rfl (λh=>by exfalso;apply hbad;simpa only[yE,decide_eq_true_eq]using h) (λ_=>?_);rw[if_neg hbad]at hR;obtain⟨N,rfl⟩:∃N:Nat,n=N:=⟨n.toNat,by omega⟩
 have hN:N<=4096:=by omega
 simp only[xn]at hR;repeat(refine s_ ?_;simp)
 refine W4 6 294 3 rfl ?_;simp;refine Qk (Qg (sl':=[(0,.vptr q 0),(1,.fn (.func f) fs cs),(5,.i N),(6,.sl G.length 3 0 0),(7,.i 0)]) ?_ (by simp));refine Qp (P:=prog) (F:=λ(u:Nat×List Cfg×Dc×Nat×List AObj)=>⟨[(0,.vptr q 0),(1,.fn (.func f) fs cs),(5,.i N),(6,.sl u.2.2.2.1 3 0 u.2.1.length),(7,.i u.1)],u.2.2.2.2⟩)
  (λu=>u.1<=N/\u.2.1.length=u.1/\u.2.2.2.2[q]?=some (dX u.2.2.1)/\u.2.2.2.2[u.2.2.2.1]?=some (.arr 294 3 (u.2.1.map avCfg))/\u.2.2.2.1≠q/\H.length<=u.2.2.2.1/\Fr H u.2.2.2.2 q none none/\u.2.2.1.s.length<=1000000000/\R=(u.2.1++(E7 F (N - u.1) u.2.2.1).1,(E7 F (N - u.1) u.2.2.1).2)) (λu=>N - u.1) ?_
  (0,[],d1,G.length,G++[.arr 294 3 []]) ⟨yO _,rfl,Qc k1 _,by simp,by have:=(zD.1 k1).1;simp only;omega,f1.1,Ec f1 _,by simp only;omega,by simpa using hR.symm⟩
 rintro⟨j,xs,dj,p,G1⟩ ⟨g1,g2,g3,g4,g5,g6,g7,g8,g9⟩ ih;simp only at g1 g2 g3 g4 g5 g6 g7 g8 g9 ih |-;have zc:G1[q]?=some (.vars [.str dj.s,.i dj.e]):=g3;repeat(refine s_ ?_;simp[zc])
 refine Qb rfl (λh=>?_) (λh=>?_)
 ·have z8:j<N/\dj.e=0:=by simpa only[zX,decide_eq_true_eq,beq_iff_eq]using h
  obtain⟨hj,he⟩:=z8;have hw1:=wz j (by omega);have zf:=za dj;have zd:=E8 F g9 hj he;repeat(refine s_ ?_;simp)
  refine Qd rfl rfl (z1 G1 dj g3 g8 g7) rfl ?_;rintro _ G2 ⟨rfl,m1,m2⟩;have m4:=m2.kd g4 g5;have b6:∀A:AObj,(G2++[A])[p]?=some (.arr 294 3 (xs.map avCfg)):=λA=>Qc m4 _;generalize (F dj).1=x at *;generalize (F dj).2=d3 at *
  have hx:xs.length<=4096:=by omega
  simp;repeat(refine s_ ?_;simp)
  refine apS u17 u12 ?_;simp[b6,hx];refine⟨by simp[Em,b6,hx]<;>omega,?_⟩;repeat(refine s_ ?_;simp[hw1])
  have key:=ih (j+1,xs++[x],d3,G2.length+1,(G2++[AObj.arr 294 3 [avCfg x]]).set p .dead++[AObj.arr 294 3 ((xs++[x]).map avCfg)])
   ⟨by simp only;omega,by simp[g2],Qc (Qa g5 (Qc m1 _) _) _,Ym ..,by have:=(zD.1 m1).1;simp only;omega,by have:=g7.1;have:=m2.1;simp only;omega,Oi (g7.trans m2) g6 _ _,by simp only;omega,zd⟩ (by simp only;omega)
  simp at key;exact Qg key (by simp)
 have z8:j=N\/dj.e≠0:=by rw[yF]at h;simp only[ne_eq,zX,decide_eq_true_eq,beq_iff_eq]at h;omega
 have hr:=R4 F g9 z8;refine Eb p g4 ?_;simp;try rw[zY (by simp)]
 repeat(refine s_ ?_;simp)
 rw[hr];exact⟨rfl,Qa g5 g3 _,Yd g7 g6⟩
def G0 (F:DD Int) (za:Shr F) (f:FuncId) (fs cs:List AV) (H:List AObj) (q:Nat) (d:Dc) (hd:H[q]?=some (dX d)) (hs:d.s.length<=1000000000)
  (z1:∀(H':List AObj) (d':Dc),H'[q]?=some (dX d')->d'.s.length<=1000000000->Fr H H' q none none->FC prog f (fs++[]++cs) H' (DP H' q (encI (F d').1) (F d').2)):
  FC prog 190 [.vptr q 0,.fn (.func f) fs cs] H (DP H q (.list ((pL F d).1.map encI)) (pL F d).2):=by
 refine fcB func190 results190 ntmps190 ?_;simp only[Qf];obtain⟨R,hR⟩:∃R,pL F d=R:=⟨_,rfl⟩
 rw[hR];rw[pL,bd]at hR;repeat(refine s_ ?_;simp)
 refine Qd rfl rfl (Wa H q d hd hs) rfl ?_;rintro _ G ⟨rfl,k1,f1⟩;have ze:=Qz d;generalize (pI d).1=n at *;generalize (pI d).2=d1 at *
 simp;repeat(refine s_ ?_;simp)
 by_cases hbad:n<0\/4096<n
 ·refine Qb rfl (λh=>?_) (λh=>by exfalso;rw[yF]at h;apply h;simpa only[yE,decide_eq_true_eq]using hbad);rw[if_pos hbad,Rk F _ (Wy (by decide))]at hR;repeat(refine s_ ?_;simp)
  refine Qd rfl rfl (Ww G q d1 5 k1) rfl ?_;rintro _ _ ⟨rfl,rfl⟩;have zb:(d1.fail 5).e≠0:=Wy (by decide);have k2:=Qe k1 (dX (d1.fail 5));have f2:=f1.trans (Fr.set G q none (dX (d1.fail 5)));generalize G.set q (dX (d1.fail 5))=G2 at *;generalize d1.fail 5=d2 at *;rw[dX]at k2
  have hb:(d2.e==0)=false:=by simpa using zb
  simp;repeat(refine s_ ?_;simp)
  refine Qk (Q3 ?_);repeat(refine s_ ?_;simp[k2,hb])
  refine Qb rfl (λh=>by simp at h) (λ_=>?_);refine Eh 6 rfl ?_;simp;repeat(refine s_ ?_;simp)
  rw[<-hR];exact⟨rfl,k2,f2⟩
 refine Qb rfl (λh=>by exfalso;apply hbad;simpa only[yE,decide_eq_true_eq]using h) (λ_=>?_);rw[if_neg hbad]at hR;obtain⟨N,rfl⟩:∃N:Nat,n=N:=⟨n.toNat,by omega⟩
 have hN:N<=4096:=by omega
 simp only[xn]at hR;repeat(refine s_ ?_;simp)
 refine W4 6 3 1 rfl ?_;simp;refine Qk (Qg (sl':=[(0,.vptr q 0),(1,.fn (.func f) fs cs),(5,.i N),(6,.sl G.length 1 0 0),(7,.i 0)]) ?_ (by simp));refine Qp (P:=prog) (F:=λ(u:Nat×List Int×Dc×Nat×List AObj)=>⟨[(0,.vptr q 0),(1,.fn (.func f) fs cs),(5,.i N),(6,.sl u.2.2.2.1 1 0 u.2.1.length),(7,.i u.1)],u.2.2.2.2⟩)
  (λu=>u.1<=N/\u.2.1.length=u.1/\u.2.2.2.2[q]?=some (dX u.2.2.1)/\u.2.2.2.2[u.2.2.2.1]?=some (.arr 3 1 (u.2.1.map encI))/\u.2.2.2.1≠q/\H.length<=u.2.2.2.1/\Fr H u.2.2.2.2 q none none/\u.2.2.1.s.length<=1000000000/\R=(u.2.1++(E7 F (N - u.1) u.2.2.1).1,(E7 F (N - u.1) u.2.2.1).2)) (λu=>N - u.1) ?_
  (0,[],d1,G.length,G++[.arr 3 1 []]) ⟨yO _,rfl,Qc k1 _,by simp,by have:=(zD.1 k1).1;simp only;omega,f1.1,Ec f1 _,by simp only;omega,by simpa using hR.symm⟩
 rintro⟨j,xs,dj,p,G1⟩ ⟨g1,g2,g3,g4,g5,g6,g7,g8,g9⟩ ih;simp only at g1 g2 g3 g4 g5 g6 g7 g8 g9 ih |-;have zc:G1[q]?=some (.vars [.str dj.s,.i dj.e]):=g3;repeat(refine s_ ?_;simp[zc])
 refine Qb rfl (λh=>?_) (λh=>?_)
 ·have z8:j<N/\dj.e=0:=by simpa only[zX,decide_eq_true_eq,beq_iff_eq]using h
  obtain⟨hj,he⟩:=z8;have hw1:=wz j (by omega);have zf:=za dj;have zd:=E8 F g9 hj he;repeat(refine s_ ?_;simp)
  refine Qd rfl rfl (z1 G1 dj g3 g8 g7) rfl ?_;rintro _ G2 ⟨rfl,m1,m2⟩;have m4:=m2.kd g4 g5;have b6:∀A:AObj,(G2++[A])[p]?=some (.arr 3 1 (xs.map encI)):=λA=>Qc m4 _;generalize (F dj).1=x at *;generalize (F dj).2=d3 at *
  have hx:xs.length<=4096:=by omega
  simp;repeat(refine s_ ?_;simp)
  refine apS T23 T3 ?_;simp[b6,hx];refine⟨by simp[Em,b6,hx]<;>omega,?_⟩;repeat(refine s_ ?_;simp[hw1])
  have key:=ih (j+1,xs++[x],d3,G2.length+1,(G2++[AObj.arr 3 1 [encI x]]).set p .dead++[AObj.arr 3 1 ((xs++[x]).map encI)])
   ⟨by simp only;omega,by simp[g2],Qc (Qa g5 (Qc m1 _) _) _,Ym ..,by have:=(zD.1 m1).1;simp only;omega,by have:=g7.1;have:=m2.1;simp only;omega,Oi (g7.trans m2) g6 _ _,by simp only;omega,zd⟩ (by simp only;omega)
  simp at key;exact Qg key (by simp)
 have z8:j=N\/dj.e≠0:=by rw[yF]at h;simp only[ne_eq,zX,decide_eq_true_eq,beq_iff_eq]at h;omega
 have hr:=R4 F g9 z8;refine Eb p g4 ?_;simp;try rw[zY (by simp)]
 repeat(refine s_ ?_;simp)
 rw[hr];exact⟨rfl,Qa g5 g3 _,Yd g7 g6⟩
def K7 (F:DD Pnt) (za:Shr F) (f:FuncId) (fs cs:List AV) (H:List AObj) (q:Nat) (d:Dc) (hd:H[q]?=some (dX d)) (hs:d.s.length<=1000000000)
  (z1:∀(H':List AObj) (d':Dc),H'[q]?=some (dX d')->d'.s.length<=1000000000->Fr H H' q none none->FC prog f (fs++[]++cs) H' (DP H' q (avPnt (F d').1) (F d').2)):
  FC prog 191 [.vptr q 0,.fn (.func f) fs cs] H (DP H q (.list ((pL F d).1.map avPnt)) (pL F d).2):=by
 refine fcB func191 results191 ntmps191 ?_;simp only[Qf];obtain⟨R,hR⟩:∃R,pL F d=R:=⟨_,rfl⟩
 rw[hR];rw[pL,bd]at hR;repeat(refine s_ ?_;simp)
 refine Qd rfl rfl (Wa H q d hd hs) rfl ?_;rintro _ G ⟨rfl,k1,f1⟩;have ze:=Qz d;generalize (pI d).1=n at *;generalize (pI d).2=d1 at *
 simp;repeat(refine s_ ?_;simp)
 by_cases hbad:n<0\/4096<n
 ·refine Qb rfl (λh=>?_) (λh=>by exfalso;rw[yF]at h;apply h;simpa only[yE,decide_eq_true_eq]using hbad);rw[if_pos hbad,Rk F _ (Wy (by decide))]at hR;repeat(refine s_ ?_;simp)
  refine Qd rfl rfl (Ww G q d1 5 k1) rfl ?_;rintro _ _ ⟨rfl,rfl⟩;have zb:(d1.fail 5).e≠0:=Wy (by decide);have k2:=Qe k1 (dX (d1.fail 5));have f2:=f1.trans (Fr.set G q none (dX (d1.fail 5)));generalize G.set q (dX (d1.fail 5))=G2 at *;generalize d1.fail 5=d2 at *;rw[dX]at k2
  have hb:(d2.e==0)=false:=by simpa using zb
  simp;repeat(refine s_ ?_;simp)
  refine Qk (Q3 ?_);repeat(refine s_ ?_;simp[k2,hb])
  refine Qb rfl (λh=>by simp at h) (λ_=>?_);refine Eh 6 rfl ?_;simp;repeat(refine s_ ?_;simp)
  rw[<-hR];exact⟨rfl,k2,f2⟩
 refine Qb rfl (λh=>by exfalso;apply hbad;simpa only[yE,decide_eq_true_eq]using h) (λ_=>?_);rw[if_neg hbad]at hR;obtain⟨N,rfl⟩:∃N:Nat,n=N:=⟨n.toNat,by omega⟩
 have hN:N<=4096:=by omega
 simp only[xn]at hR;repeat(refine s_ ?_;simp)
 refine W4 6 258 2 rfl ?_;simp;refine Qk (Qg (sl':=[(0,.vptr q 0),(1,.fn (.func f) fs cs),(5,.i N),(6,.sl G.length 2 0 0),(7,.i 0)]) ?_ (by simp));refine Qp (P:=prog) (F:=λ(u:Nat×List Pnt×Dc×Nat×List AObj)=>⟨[(0,.vptr q 0),(1,.fn (.func f) fs cs),(5,.i N),(6,.sl u.2.2.2.1 2 0 u.2.1.length),(7,.i u.1)],u.2.2.2.2⟩)
  (λu=>u.1<=N/\u.2.1.length=u.1/\u.2.2.2.2[q]?=some (dX u.2.2.1)/\u.2.2.2.2[u.2.2.2.1]?=some (.arr 258 2 (u.2.1.map avPnt))/\u.2.2.2.1≠q/\H.length<=u.2.2.2.1/\Fr H u.2.2.2.2 q none none/\u.2.2.1.s.length<=1000000000/\R=(u.2.1++(E7 F (N - u.1) u.2.2.1).1,(E7 F (N - u.1) u.2.2.1).2)) (λu=>N - u.1) ?_
  (0,[],d1,G.length,G++[.arr 258 2 []]) ⟨yO _,rfl,Qc k1 _,by simp,by have:=(zD.1 k1).1;simp only;omega,f1.1,Ec f1 _,by simp only;omega,by simpa using hR.symm⟩
 rintro⟨j,xs,dj,p,G1⟩ ⟨g1,g2,g3,g4,g5,g6,g7,g8,g9⟩ ih;simp only at g1 g2 g3 g4 g5 g6 g7 g8 g9 ih |-;have zc:G1[q]?=some (.vars [.str dj.s,.i dj.e]):=g3;repeat(refine s_ ?_;simp[zc])
 refine Qb rfl (λh=>?_) (λh=>?_)
 ·have z8:j<N/\dj.e=0:=by simpa only[zX,decide_eq_true_eq,beq_iff_eq]using h
  obtain⟨hj,he⟩:=z8;have hw1:=wz j (by omega);have zf:=za dj;have zd:=E8 F g9 hj he;repeat(refine s_ ?_;simp)
  refine Qd rfl rfl (z1 G1 dj g3 g8 g7) rfl ?_;rintro _ G2 ⟨rfl,m1,m2⟩;have m4:=m2.kd g4 g5;have b6:∀A:AObj,(G2++[A])[p]?=some (.arr 258 2 (xs.map avPnt)):=λA=>Qc m4 _;generalize (F dj).1=x at *;generalize (F dj).2=d3 at *
  have hx:xs.length<=4096:=by omega
  simp;repeat(refine s_ ?_;simp)
  refine apS T48 k1k ?_;simp[b6,hx];refine⟨by simp[Em,b6,hx]<;>omega,?_⟩;repeat(refine s_ ?_;simp[hw1])
  have key:=ih (j+1,xs++[x],d3,G2.length+1,(G2++[AObj.arr 258 2 [avPnt x]]).set p .dead++[AObj.arr 258 2 ((xs++[x]).map avPnt)])
   ⟨by simp only;omega,by simp[g2],Qc (Qa g5 (Qc m1 _) _) _,Ym ..,by have:=(zD.1 m1).1;simp only;omega,by have:=g7.1;have:=m2.1;simp only;omega,Oi (g7.trans m2) g6 _ _,by simp only;omega,zd⟩ (by simp only;omega)
  simp at key;exact Qg key (by simp)
 have z8:j=N\/dj.e≠0:=by rw[yF]at h;simp only[ne_eq,zX,decide_eq_true_eq,beq_iff_eq]at h;omega
 have hr:=R4 F g9 z8;refine Eb p g4 ?_;simp;try rw[zY (by simp)]
 repeat(refine s_ ?_;simp)
 rw[hr];exact⟨rfl,Qa g5 g3 _,Yd g7 g6⟩
def Jv (F:DD Rdr) (za:Shr F) (f:FuncId) (fs cs:List AV) (H:List AObj) (q:Nat) (d:Dc) (hd:H[q]?=some (dX d)) (hs:d.s.length<=1000000000)
  (z1:∀(H':List AObj) (d':Dc),H'[q]?=some (dX d')->d'.s.length<=1000000000->Fr H H' q none none->FC prog f (fs++[]++cs) H' (DP H' q (avRdr (F d').1) (F d').2)):
  FC prog 159 [.vptr q 0,.fn (.func f) fs cs] H (DP H q (.list ((pL F d).1.map avRdr)) (pL F d).2):=by
 refine fcB func159 results159 ntmps159 ?_;simp only[Qf];obtain⟨R,hR⟩:∃R,pL F d=R:=⟨_,rfl⟩
 rw[hR];rw[pL,bd]at hR;repeat(refine s_ ?_;simp)
 refine Qd rfl rfl (Wa H q d hd hs) rfl ?_;rintro _ G ⟨rfl,k1,f1⟩;have ze:=Qz d;generalize (pI d).1=n at *;generalize (pI d).2=d1 at *
 simp;repeat(refine s_ ?_;simp)
 by_cases hbad:n<0\/4096<n
 ·refine Qb rfl (λh=>?_) (λh=>by exfalso;rw[yF]at h;apply h;simpa only[yE,decide_eq_true_eq]using hbad);rw[if_pos hbad,Rk F _ (Wy (by decide))]at hR;repeat(refine s_ ?_;simp)
  refine Qd rfl rfl (Ww G q d1 5 k1) rfl ?_;rintro _ _ ⟨rfl,rfl⟩;have zb:(d1.fail 5).e≠0:=Wy (by decide);have k2:=Qe k1 (dX (d1.fail 5));have f2:=f1.trans (Fr.set G q none (dX (d1.fail 5)));generalize G.set q (dX (d1.fail 5))=G2 at *;generalize d1.fail 5=d2 at *;rw[dX]at k2
  have hb:(d2.e==0)=false:=by simpa using zb
  simp;repeat(refine s_ ?_;simp)
  refine Qk (Q3 ?_);repeat(refine s_ ?_;simp[k2,hb])
  refine Qb rfl (λh=>by simp at h) (λ_=>?_);refine Eh 6 rfl ?_;simp;repeat(refine s_ ?_;simp)
  rw[<-hR];exact⟨rfl,k2,f2⟩
 refine Qb rfl (λh=>by exfalso;apply hbad;simpa only[yE,decide_eq_true_eq]using h) (λ_=>?_);rw[if_neg hbad]at hR;obtain⟨N,rfl⟩:∃N:Nat,n=N:=⟨n.toNat,by omega⟩
 have hN:N<=4096:=by omega
 simp only[xn]at hR;repeat(refine s_ ?_;simp)
 refine W4 6 52 6 rfl ?_;simp;refine Qk (Qg (sl':=[(0,.vptr q 0),(1,.fn (.func f) fs cs),(5,.i N),(6,.sl G.length 6 0 0),(7,.i 0)]) ?_ (by simp));refine Qp (P:=prog) (F:=λ(u:Nat×List Rdr×Dc×Nat×List AObj)=>⟨[(0,.vptr q 0),(1,.fn (.func f) fs cs),(5,.i N),(6,.sl u.2.2.2.1 6 0 u.2.1.length),(7,.i u.1)],u.2.2.2.2⟩)
  (λu=>u.1<=N/\u.2.1.length=u.1/\u.2.2.2.2[q]?=some (dX u.2.2.1)/\u.2.2.2.2[u.2.2.2.1]?=some (.arr 52 6 (u.2.1.map avRdr))/\u.2.2.2.1≠q/\H.length<=u.2.2.2.1/\Fr H u.2.2.2.2 q none none/\u.2.2.1.s.length<=1000000000/\R=(u.2.1++(E7 F (N - u.1) u.2.2.1).1,(E7 F (N - u.1) u.2.2.1).2)) (λu=>N - u.1) ?_
  (0,[],d1,G.length,G++[.arr 52 6 []]) ⟨yO _,rfl,Qc k1 _,by simp,by have:=(zD.1 k1).1;simp only;omega,f1.1,Ec f1 _,by simp only;omega,by simpa using hR.symm⟩
 rintro⟨j,xs,dj,p,G1⟩ ⟨g1,g2,g3,g4,g5,g6,g7,g8,g9⟩ ih;simp only at g1 g2 g3 g4 g5 g6 g7 g8 g9 ih |-;have zc:G1[q]?=some (.vars [.str dj.s,.i dj.e]):=g3;repeat(refine s_ ?_;simp[zc])
 refine Qb rfl (λh=>?_) (λh=>?_)
 ·have z8:j<N/\dj.e=0:=by simpa only[zX,decide_eq_true_eq,beq_iff_eq]using h
  obtain⟨hj,he⟩:=z8;have hw1:=wz j (by omega);have zf:=za dj;have zd:=E8 F g9 hj he;repeat(refine s_ ?_;simp)
  refine Qd rfl rfl (z1 G1 dj g3 g8 g7) rfl ?_;rintro _ G2 ⟨rfl,m1,m2⟩;have m4:=m2.kd g4 g5;have b6:∀A:AObj,(G2++[A])[p]?=some (.arr 52 6 (xs.map avRdr)):=λA=>Qc m4 _;generalize (F dj).1=x at *;generalize (F dj).2=d3 at *
  have hx:xs.length<=4096:=by omega
  simp;repeat(refine s_ ?_;simp)
  refine apS T53 T52 ?_;simp[b6,hx];refine⟨by simp[Em,b6,hx]<;>omega,?_⟩;repeat(refine s_ ?_;simp[hw1])
  have key:=ih (j+1,xs++[x],d3,G2.length+1,(G2++[AObj.arr 52 6 [avRdr x]]).set p .dead++[AObj.arr 52 6 ((xs++[x]).map avRdr)])
   ⟨by simp only;omega,by simp[g2],Qc (Qa g5 (Qc m1 _) _) _,Ym ..,by have:=(zD.1 m1).1;simp only;omega,by have:=g7.1;have:=m2.1;simp only;omega,Oi (g7.trans m2) g6 _ _,by simp only;omega,zd⟩ (by simp only;omega)
  simp at key;exact Qg key (by simp)
 have z8:j=N\/dj.e≠0:=by rw[yF]at h;simp only[ne_eq,zX,decide_eq_true_eq,beq_iff_eq]at h;omega
 have hr:=R4 F g9 z8;refine Eb p g4 ?_;simp;try rw[zY (by simp)]
 repeat(refine s_ ?_;simp)
 rw[hr];exact⟨rfl,Qa g5 g3 _,Yd g7 g6⟩
def Dl (F:DD Opr) (za:Shr F) (f:FuncId) (fs cs:List AV) (H:List AObj) (q:Nat) (d:Dc) (hd:H[q]?=some (dX d)) (hs:d.s.length<=1000000000)
  (z1:∀(H':List AObj) (d':Dc),H'[q]?=some (dX d')->d'.s.length<=1000000000->Fr H H' q none none->FC prog f (fs++[]++cs) H' (DP H' q (avOpr (F d').1) (F d').2)):
  FC prog 161 [.vptr q 0,.fn (.func f) fs cs] H (DP H q (.list ((pL F d).1.map avOpr)) (pL F d).2):=by
 refine fcB func161 results161 ntmps161 ?_;simp only[Qf];obtain⟨R,hR⟩:∃R,pL F d=R:=⟨_,rfl⟩
 rw[hR];rw[pL,bd]at hR;repeat(refine s_ ?_;simp)
 refine Qd rfl rfl (Wa H q d hd hs) rfl ?_;rintro _ G ⟨rfl,k1,f1⟩;have ze:=Qz d;generalize (pI d).1=n at *;generalize (pI d).2=d1 at *
 simp;repeat(refine s_ ?_;simp)
 by_cases hbad:n<0\/4096<n
 ·refine Qb rfl (λh=>?_) (λh=>by exfalso;rw[yF]at h;apply h;simpa only[yE,decide_eq_true_eq]using hbad);rw[if_pos hbad,Rk F _ (Wy (by decide))]at hR;repeat(refine s_ ?_;simp)
  refine Qd rfl rfl (Ww G q d1 5 k1) rfl ?_;rintro _ _ ⟨rfl,rfl⟩;have zb:(d1.fail 5).e≠0:=Wy (by decide);have k2:=Qe k1 (dX (d1.fail 5));have f2:=f1.trans (Fr.set G q none (dX (d1.fail 5)));generalize G.set q (dX (d1.fail 5))=G2 at *;generalize d1.fail 5=d2 at *;rw[dX]at k2
  have hb:(d2.e==0)=false:=by simpa using zb
  simp;repeat(refine s_ ?_;simp)
  refine Qk (Q3 ?_);repeat(refine s_ ?_;simp[k2,hb])
  refine Qb rfl (λh=>by simp at h) (λ_=>?_);refine Eh 6 rfl ?_;simp;repeat(refine s_ ?_;simp)
  rw[<-hR];exact⟨rfl,k2,f2⟩
 refine Qb rfl (λh=>by exfalso;apply hbad;simpa only[yE,decide_eq_true_eq]using h) (λ_=>?_);rw[if_neg hbad]at hR;obtain⟨N,rfl⟩:∃N:Nat,n=N:=⟨n.toNat,by omega⟩
 have hN:N<=4096:=by omega
 simp only[xn]at hR;repeat(refine s_ ?_;simp)
 refine W4 6 58 2 rfl ?_;simp;refine Qk (Qg (sl':=[(0,.vptr q 0),(1,.fn (.func f) fs cs),(5,.i N),(6,.sl G.length 2 0 0),(7,.i 0)]) ?_ (by simp));refine Qp (P:=prog) (F:=λ(u:Nat×List Opr×Dc×Nat×List AObj)=>⟨[(0,.vptr q 0),(1,.fn (.func f) fs cs),(5,.i N),(6,.sl u.2.2.2.1 2 0 u.2.1.length),(7,.i u.1)],u.2.2.2.2⟩)
  (λu=>u.1<=N/\u.2.1.length=u.1/\u.2.2.2.2[q]?=some (dX u.2.2.1)/\u.2.2.2.2[u.2.2.2.1]?=some (.arr 58 2 (u.2.1.map avOpr))/\u.2.2.2.1≠q/\H.length<=u.2.2.2.1/\Fr H u.2.2.2.2 q none none/\u.2.2.1.s.length<=1000000000/\R=(u.2.1++(E7 F (N - u.1) u.2.2.1).1,(E7 F (N - u.1) u.2.2.1).2)) (λu=>N - u.1) ?_
  (0,[],d1,G.length,G++[.arr 58 2 []]) ⟨yO _,rfl,Qc k1 _,by simp,by have:=(zD.1 k1).1;simp only;omega,f1.1,Ec f1 _,by simp only;omega,by simpa using hR.symm⟩
 rintro⟨j,xs,dj,p,G1⟩ ⟨g1,g2,g3,g4,g5,g6,g7,g8,g9⟩ ih;simp only at g1 g2 g3 g4 g5 g6 g7 g8 g9 ih |-;have zc:G1[q]?=some (.vars [.str dj.s,.i dj.e]):=g3;repeat(refine s_ ?_;simp[zc])
 refine Qb rfl (λh=>?_) (λh=>?_)
 ·have z8:j<N/\dj.e=0:=by simpa only[zX,decide_eq_true_eq,beq_iff_eq]using h
  obtain⟨hj,he⟩:=z8;have hw1:=wz j (by omega);have zf:=za dj;have zd:=E8 F g9 hj he;repeat(refine s_ ?_;simp)
  refine Qd rfl rfl (z1 G1 dj g3 g8 g7) rfl ?_;rintro _ G2 ⟨rfl,m1,m2⟩;have m4:=m2.kd g4 g5;have b6:∀A:AObj,(G2++[A])[p]?=some (.arr 58 2 (xs.map avOpr)):=λA=>Qc m4 _;generalize (F dj).1=x at *;generalize (F dj).2=d3 at *
  have hx:xs.length<=4096:=by omega
  simp;repeat(refine s_ ?_;simp)
  refine apS T59 T58 ?_;simp[b6,hx];refine⟨by simp[Em,b6,hx]<;>omega,?_⟩;repeat(refine s_ ?_;simp[hw1])
  have key:=ih (j+1,xs++[x],d3,G2.length+1,(G2++[AObj.arr 58 2 [avOpr x]]).set p .dead++[AObj.arr 58 2 ((xs++[x]).map avOpr)])
   ⟨by simp only;omega,by simp[g2],Qc (Qa g5 (Qc m1 _) _) _,Ym ..,by have:=(zD.1 m1).1;simp only;omega,by have:=g7.1;have:=m2.1;simp only;omega,Oi (g7.trans m2) g6 _ _,by simp only;omega,zd⟩ (by simp only;omega)
  simp at key;exact Qg key (by simp)
 have z8:j=N\/dj.e≠0:=by rw[yF]at h;simp only[ne_eq,zX,decide_eq_true_eq,beq_iff_eq]at h;omega
 have hr:=R4 F g9 z8;refine Eb p g4 ?_;simp;try rw[zY (by simp)]
 repeat(refine s_ ?_;simp)
 rw[hr];exact⟨rfl,Qa g5 g3 _,Yd g7 g6⟩
def Zt (F:DD Kyd) (za:Shr F) (f:FuncId) (fs cs:List AV) (H:List AObj) (q:Nat) (d:Dc) (hd:H[q]?=some (dX d)) (hs:d.s.length<=1000000000)
  (z1:∀(H':List AObj) (d':Dc),H'[q]?=some (dX d')->d'.s.length<=1000000000->Fr H H' q none none->FC prog f (fs++[]++cs) H' (DP H' q (avKyd (F d').1) (F d').2)):
  FC prog 193 [.vptr q 0,.fn (.func f) fs cs] H (DP H q (.list ((pL F d).1.map avKyd)) (pL F d).2):=by
 refine fcB func193 results193 ntmps193 ?_;simp only[Qf];obtain⟨R,hR⟩:∃R,pL F d=R:=⟨_,rfl⟩
 rw[hR];rw[pL,bd]at hR;repeat(refine s_ ?_;simp)
 refine Qd rfl rfl (Wa H q d hd hs) rfl ?_;rintro _ G ⟨rfl,k1,f1⟩;have ze:=Qz d;generalize (pI d).1=n at *;generalize (pI d).2=d1 at *
 simp;repeat(refine s_ ?_;simp)
 by_cases hbad:n<0\/4096<n
 ·refine Qb rfl (λh=>?_) (λh=>by exfalso;rw[yF]at h;apply h;simpa only[yE,decide_eq_true_eq]using hbad);rw[if_pos hbad,Rk F _ (Wy (by decide))]at hR;repeat(refine s_ ?_;simp)
  refine Qd rfl rfl (Ww G q d1 5 k1) rfl ?_;rintro _ _ ⟨rfl,rfl⟩;have zb:(d1.fail 5).e≠0:=Wy (by decide);have k2:=Qe k1 (dX (d1.fail 5));have f2:=f1.trans (Fr.set G q none (dX (d1.fail 5)));generalize G.set q (dX (d1.fail 5))=G2 at *;generalize d1.fail 5=d2 at *;rw[dX]at k2
  have hb:(d2.e==0)=false:=by simpa using zb
  simp;repeat(refine s_ ?_;simp)
  refine Qk (Q3 ?_);repeat(refine s_ ?_;simp[k2,hb])
  refine Qb rfl (λh=>by simp at h) (λ_=>?_);refine Eh 6 rfl ?_;simp;repeat(refine s_ ?_;simp)
  rw[<-hR];exact⟨rfl,k2,f2⟩
 refine Qb rfl (λh=>by exfalso;apply hbad;simpa only[yE,decide_eq_true_eq]using h) (λ_=>?_);rw[if_neg hbad]at hR;obtain⟨N,rfl⟩:∃N:Nat,n=N:=⟨n.toNat,by omega⟩
 have hN:N<=4096:=by omega
 simp only[xn]at hR;repeat(refine s_ ?_;simp)
 refine W4 6 106 8 rfl ?_;simp;refine Qk (Qg (sl':=[(0,.vptr q 0),(1,.fn (.func f) fs cs),(5,.i N),(6,.sl G.length 8 0 0),(7,.i 0)]) ?_ (by simp));refine Qp (P:=prog) (F:=λ(u:Nat×List Kyd×Dc×Nat×List AObj)=>⟨[(0,.vptr q 0),(1,.fn (.func f) fs cs),(5,.i N),(6,.sl u.2.2.2.1 8 0 u.2.1.length),(7,.i u.1)],u.2.2.2.2⟩)
  (λu=>u.1<=N/\u.2.1.length=u.1/\u.2.2.2.2[q]?=some (dX u.2.2.1)/\u.2.2.2.2[u.2.2.2.1]?=some (.arr 106 8 (u.2.1.map avKyd))/\u.2.2.2.1≠q/\H.length<=u.2.2.2.1/\Fr H u.2.2.2.2 q none none/\u.2.2.1.s.length<=1000000000/\R=(u.2.1++(E7 F (N - u.1) u.2.2.1).1,(E7 F (N - u.1) u.2.2.1).2)) (λu=>N - u.1) ?_
  (0,[],d1,G.length,G++[.arr 106 8 []]) ⟨yO _,rfl,Qc k1 _,by simp,by have:=(zD.1 k1).1;simp only;omega,f1.1,Ec f1 _,by simp only;omega,by simpa using hR.symm⟩
 rintro⟨j,xs,dj,p,G1⟩ ⟨g1,g2,g3,g4,g5,g6,g7,g8,g9⟩ ih;simp only at g1 g2 g3 g4 g5 g6 g7 g8 g9 ih |-;have zc:G1[q]?=some (.vars [.str dj.s,.i dj.e]):=g3;repeat(refine s_ ?_;simp[zc])
 refine Qb rfl (λh=>?_) (λh=>?_)
 ·have z8:j<N/\dj.e=0:=by simpa only[zX,decide_eq_true_eq,beq_iff_eq]using h
  obtain⟨hj,he⟩:=z8;have hw1:=wz j (by omega);have zf:=za dj;have zd:=E8 F g9 hj he;repeat(refine s_ ?_;simp)
  refine Qd rfl rfl (z1 G1 dj g3 g8 g7) rfl ?_;rintro _ G2 ⟨rfl,m1,m2⟩;have m4:=m2.kd g4 g5;have b6:∀A:AObj,(G2++[A])[p]?=some (.arr 106 8 (xs.map avKyd)):=λA=>Qc m4 _;generalize (F dj).1=x at *;generalize (F dj).2=d3 at *
  have hx:xs.length<=4096:=by omega
  simp;repeat(refine s_ ?_;simp)
  refine apS T56 v1f ?_;simp[b6,hx];refine⟨by simp[Em,b6,hx]<;>omega,?_⟩;repeat(refine s_ ?_;simp[hw1])
  have key:=ih (j+1,xs++[x],d3,G2.length+1,(G2++[AObj.arr 106 8 [avKyd x]]).set p .dead++[AObj.arr 106 8 ((xs++[x]).map avKyd)])
   ⟨by simp only;omega,by simp[g2],Qc (Qa g5 (Qc m1 _) _) _,Ym ..,by have:=(zD.1 m1).1;simp only;omega,by have:=g7.1;have:=m2.1;simp only;omega,Oi (g7.trans m2) g6 _ _,by simp only;omega,zd⟩ (by simp only;omega)
  simp at key;exact Qg key (by simp)
 have z8:j=N\/dj.e≠0:=by rw[yF]at h;simp only[ne_eq,zX,decide_eq_true_eq,beq_iff_eq]at h;omega
 have hr:=R4 F g9 z8;refine Eb p g4 ?_;simp;try rw[zY (by simp)]
 repeat(refine s_ ?_;simp)
 rw[hr];exact⟨rfl,Qa g5 g3 _,Yd g7 g6⟩
def j0z:Shr Sj:=Qz.bd λn d=>by
 simp only;obtain⟨d',z1⟩:∃d',(if n<0\/64<n then d.fail 13 else if(d.s.length:Int)<n then d.fail 26 else d)=d':=⟨_,rfl⟩
 have hs:d'.s=d.s:=by rw[<-z1];split;exact G8 _ _;split;exact G8 _ _;rfl
 rw[z1];split
 ·rw[hs];exact zR _
 simp[hs]
def v1s(v:Val)(d:Dc):(C2 v d).2.s=d.s:=by unfold C2;simp only;split;exact G8 _ _;rfl
def y0t(v:Val):Shr (C2 v):=λd=>by rw[v1s];exact zR _
def w1l(k:Int)(d:Dc):(f05 k d).s=d.s:=by unfold f05;split;exact G8 _ _;rfl
def k0t(k:Int):Shr (Ls k):=λd=>by
 unfold Ls;split
 ·exact(j0z.bd λt=>y0t _) d
 exact(Qz.bd λn=>y0t _) d
def Dx:Shr Z6:=Qz.bd λk d=>by have:=k0t k (f05 k d);rwa [w1l]at this
def Ba(H:List AObj)(q:Nat)(d:Dc)(hd:H[q]?=some (dX d))(hs:d.s.length<=1000000000):FC prog 232 [.vptr q 0] H (DP H q (.str (Sj d).1) (Sj d).2):=by
 refine fcB func232 results232 ntmps232 ?_;simp only[Qf];obtain⟨R,hR⟩:∃R,Sj d=R:=⟨_,rfl⟩
 rw[hR];rw[Sj,bd]at hR;repeat(refine s_ ?_;simp)
 refine Qd rfl rfl (Wa H q d hd hs) rfl ?_;rintro _ G ⟨rfl,k1,f1⟩;have zd:=Qz d;generalize (pI d).1=n at *;generalize (pI d).2=d1 at *;simp only at hR
 simp;repeat(refine s_ ?_;simp)
 by_cases hb:n<0\/64<n
 ·rw[if_pos hb,if_pos (Wy (by decide))]at hR;refine Qb rfl (λh=>?_) (λh=>by exfalso;rw[yF]at h;apply h;simpa only[yE,decide_eq_true_eq]using hb);repeat(refine s_ ?_;simp)
  refine Qd rfl rfl (Ww G q d1 13 k1) rfl ?_;rintro _ _ ⟨rfl,rfl⟩;have z1:(d1.fail 13).e≠0:=Wy (by decide);have k2:=Qe k1 (dX (d1.fail 13));have f2:=f1.trans (Fr.set G q none (dX (d1.fail 13)));generalize G.set q (dX (d1.fail 13))=G2 at *;generalize d1.fail 13=d2 at *
  have z8:G2[q]?=some (.vars [.str d2.s,.i d2.e]):=k2;simp;repeat(refine s_ ?_;simp[z8])
  refine Qb rfl (λh=>?_) (λh=>by simp[z1]at h);repeat(refine s_ ?_;simp)
  rw[<-hR];exact⟨rfl,k2,f2⟩
 rw[if_neg hb]at hR;refine Qb rfl (λh=>by exfalso;apply hb;simpa only[yE,decide_eq_true_eq]using h) (λh=>?_);have za:G[q]?=some (.vars [.str d1.s,.i d1.e]):=k1;obtain⟨N,rfl⟩:∃N:Nat,n=N:=⟨n.toNat,by omega⟩
 repeat(refine s_ ?_;simp[za])
 by_cases hl:(d1.s.length:Int)<N
 ·rw[if_pos hl,if_pos (Wy (by decide))]at hR;refine Qb rfl (λh=>?_) (λh=>by simp at h;omega);repeat(refine s_ ?_;simp)
  refine Qd rfl rfl (Ww G q d1 26 k1) rfl ?_;rintro _ _ ⟨rfl,rfl⟩;have z1:(d1.fail 26).e≠0:=Wy (by decide);have k2:=Qe k1 (dX (d1.fail 26));have f2:=f1.trans (Fr.set G q none (dX (d1.fail 26)));generalize G.set q (dX (d1.fail 26))=G2 at *;generalize d1.fail 26=d2 at *
  have z8:G2[q]?=some (.vars [.str d2.s,.i d2.e]):=k2;simp;repeat(refine s_ ?_;simp[z8])
  refine Qb rfl (λh=>?_) (λh=>by simp[z1]at h);repeat(refine s_ ?_;simp)
  rw[<-hR];exact⟨rfl,k2,f2⟩
 rw[if_neg hl]at hR;refine Qb rfl (λh=>by simp at h;omega) (λh=>?_);repeat(refine s_ ?_;simp[za])
 refine Qb rfl (λh=>?_) (λh=>?_)
 ·rw[if_pos (by simpa using h)]at hR;repeat(refine s_ ?_;simp)
  rw[<-hR];exact⟨rfl,k1,f1⟩
 rw[if_neg (by simpa using h)]at hR;have zb:N<=d1.s.length:=by omega
 have zc:(N:Int)<=d1.s.length:=by omega
 repeat(refine s_ ?_;simp[za,zb,zc])
 rw[<-hR];exact⟨rfl,Qe k1 _,f1.trans (Fr.set G q none _)⟩
section
attribute [local irreducible] Ej
def Zr(H:List AObj)(q:Nat)(d:Dc)(hd:H[q]?=some (dX d))(hs:d.s.length<=1000000000):FC prog 215 [.vptr q 0] H (DP H q (encV (Z6 d).1) (Z6 d).2):=by
 refine fcB func215 results215 ntmps215 ?_;simp only[Qf];obtain⟨R,hR⟩:∃R,Z6 d=R:=⟨_,rfl⟩
 rw[hR];rw[Z6,bd]at hR;have zp:=(zD.1 hd).1;have zb:H.length≠q:=by omega
 repeat(refine s_ ?_;simp)
 refine Qd rfl rfl (Wa _ q d (Qc hd _) hs) rfl ?_;rintro _ G ⟨rfl,k1,f1⟩;have r1:=f1.kd (j:=H.length) (x:= .vars [.i 0,.i 0,.str []]) (by simp) zb;have zq:=Qz d;have zl:=f1.1;simp at zl;have zm:Fr H G q none none:=⟨by omega,.inl rfl,λj hj h1 h2=>by rw[f1.2.2 j (by simp;omega) h1 h2,zK hj]⟩
 generalize (pI d).1=k at *;generalize (pI d).2=d1 at *
 simp;repeat(refine s_ ?_;simp)
 obtain⟨G1,zf⟩:∃G1,G++[AObj.vars [.i k,.i 0,.str []]]=G1:=⟨_,rfl⟩
 obtain⟨s,zk⟩:∃s,G.length=s:=⟨_,rfl⟩
 have ks:G1[q]?=some (dX d1):=by rw[<-zf];exact Qc k1 _
 have ss:G1[s]?=some (.vars [.i k,.i 0,.str []]):=by rw[<-zf,<-zk];simp
 have rs:G1[H.length]?=some (.vars [.i 0,.i 0,.str []]):=by rw[<-zf];exact Qc r1 _
 have fs:Fr H G1 q none none:=by rw[<-zf];exact Ec zm _
 have z1:s≠q:=by omega
 rw[zf,zk];clear zf;by_cases hb:k<0\/2<k
 ·rw[f05,if_pos hb]at hR;refine Qb rfl (λh=>?_) (λh=>by exfalso;rw[yF]at h;apply h;simpa only[yE,decide_eq_true_eq]using hb);repeat(refine s_ ?_;simp)
  refine Qd rfl rfl (Ww G1 q d1 1 ks) rfl ?_;rintro _ _ ⟨rfl,rfl⟩;have k2:=Qe ks (dX (d1.fail 1));have s2:=Qa (j:=q) (λh=>z1 h.symm) ss (dX (d1.fail 1));have r2:=Qa (j:=q) (λh=>zb h.symm) rs (dX (d1.fail 1));have f2:=fs.trans (Fr.set G1 q none (dX (d1.fail 1)));have zn:=G8 d1 1;generalize G1.set q (dX (d1.fail 1))=G2 at *;generalize d1.fail 1=d2 at *
  have zo:d2.s.length=d1.s.length:=by rw[zn]
  have zg:G2[q]?=some (.vars [.str d2.s,.i d2.e]):=k2;simp;by_cases h2:d2.e=0/\k=2
  ·rw[Ls,if_pos h2,bd]at hR;obtain⟨zi,rfl⟩:=h2;repeat(refine s_ ?_;simp[zg,s2,zi])
   refine Qb rfl (λh=>?_) (λh=>by simp at h);repeat(refine s_ ?_;simp)
   refine Qd rfl rfl (Ba G2 q d2 k2 (by omega)) rfl ?_;rintro _ G3 ⟨rfl,k3,f3⟩;have s3:=f3.kd s2 z1;have r3:=f3.kd r2 zb;have f4:=f2.trans f3;have zj:=f4.1;generalize (Sj d2).1=t at *;generalize (Sj d2).2=d3 at *
   have za:G3[q]?=some (.vars [.str d3.s,.i d3.e]):=k3;have gs:∀y,(G3.set s y)[s]?=some y:=λy=>Qe s3 y;have gr:∀y,(G3.set s y)[H.length]?=some (.vars [.i 0,.i 0,.str []]):=λy=>Qa (by omega) r3 y;have zc:∀y z,((G3.set s y).set H.length z)[H.length]?=some z:=λy z=>Qe (gr y) z;have gq:∀y,(G3.set s y)[q]?=some (.vars [.str d3.s,.i d3.e]):=λy=>Qa z1 za y;simp[s3,gs,gr,zc,gq];repeat(refine s_ ?_;simp[s3,gs,gr,zc,gq])
   by_cases hz:d3.e=0
   ·refine Qb rfl (λh=>?_) (λh=>by simp[hz]at h);repeat(refine s_ ?_;simp[gs])
    refine pcL (Pj (⟨2,0,t⟩)) ?_;simp;repeat(refine s_ ?_;simp)
    refine Qd rfl rfl (Ww _ q d3 (Ej (⟨2,0,t⟩)) (Qa z1 za _)) rfl ?_;rintro _ _ ⟨rfl,rfl⟩;have ze:∀y z,((G3.set s y).set q z)[s]?=some y:=λy z=>Qa (λh=>z1 h.symm) (gs y) z;have zd:∀y z,((G3.set s y).set q z)[H.length]?=some (.vars [.i 0,.i 0,.str []]):=λy z=>Qa (λh=>zb h.symm) (gr y) z;have z8:∀y z u,(((G3.set s y).set q z).set H.length u)[H.length]?=some u:=λy z u=>Qe (zd y z) u;simp[ze,zd,z8];repeat(refine s_ ?_;simp[ze,zd,z8])
    rw[<-hR,C2,if_pos hz];exact⟨rfl,Qa zb (Qe (Qa z1 za _) _) _,⟨by simp;omega,.inl rfl,λj hj h1 h2=>by rw[zI (by omega),zI (by omega),zI (by omega)];exact f4.2.2 j hj h1 h2⟩⟩
   refine Qb rfl (λh=>by simp[hz]at h) (λh=>?_);repeat(refine s_ ?_;simp[gs,gr,zc])
   rw[<-hR,C2,if_neg hz];exact⟨rfl,Qa zb (Qa z1 za _) _,⟨by simp;omega,.inl rfl,λj hj h1 h2=>by rw[zI (by omega),zI (by omega)];exact f4.2.2 j hj h1 h2⟩⟩
  rw[Ls,if_neg h2,bd]at hR;have zh:(d2.e==0 && k==2)=false:=by rw[yF];simpa only[ne_eq,zX,beq_iff_eq]using h2
  repeat(refine s_ ?_;simp[zg,s2])
  refine Qb rfl (λh=>by exfalso;rw[<-ul]at zh;exact zh (by simpa using h)) (λh=>?_);repeat(refine s_ ?_;simp)
  refine Qd rfl rfl (Wa G2 q d2 k2 (by omega)) rfl ?_;rintro _ G3 ⟨rfl,k3,f3⟩;have s3:=f3.kd s2 z1;have r3:=f3.kd r2 zb;have f4:=f2.trans f3;have zj:=f4.1;generalize (pI d2).1=t at *;generalize (pI d2).2=d3 at *
  have za:G3[q]?=some (.vars [.str d3.s,.i d3.e]):=k3;have gs:∀y,(G3.set s y)[s]?=some y:=λy=>Qe s3 y;have gr:∀y,(G3.set s y)[H.length]?=some (.vars [.i 0,.i 0,.str []]):=λy=>Qa (by omega) r3 y;have zc:∀y z,((G3.set s y).set H.length z)[H.length]?=some z:=λy z=>Qe (gr y) z;have gq:∀y,(G3.set s y)[q]?=some (.vars [.str d3.s,.i d3.e]):=λy=>Qa z1 za y;simp[s3,gs,gr,zc,gq];repeat(refine s_ ?_;simp[s3,gs,gr,zc,gq])
  by_cases hz:d3.e=0
  ·refine Qb rfl (λh=>?_) (λh=>by simp[hz]at h);repeat(refine s_ ?_;simp[gs])
   refine pcL (Pj (⟨k,t,[]⟩)) ?_;simp;repeat(refine s_ ?_;simp)
   refine Qd rfl rfl (Ww _ q d3 (Ej (⟨k,t,[]⟩)) (Qa z1 za _)) rfl ?_;rintro _ _ ⟨rfl,rfl⟩;have ze:∀y z,((G3.set s y).set q z)[s]?=some y:=λy z=>Qa (λh=>z1 h.symm) (gs y) z;have zd:∀y z,((G3.set s y).set q z)[H.length]?=some (.vars [.i 0,.i 0,.str []]):=λy z=>Qa (λh=>zb h.symm) (gr y) z;have z8:∀y z u,(((G3.set s y).set q z).set H.length u)[H.length]?=some u:=λy z u=>Qe (zd y z) u;simp[ze,zd,z8];repeat(refine s_ ?_;simp[ze,zd,z8])
   rw[<-hR,C2,if_pos hz];exact⟨rfl,Qa zb (Qe (Qa z1 za _) _) _,⟨by simp;omega,.inl rfl,λj hj h1 h2=>by rw[zI (by omega),zI (by omega),zI (by omega)];exact f4.2.2 j hj h1 h2⟩⟩
  refine Qb rfl (λh=>by simp[hz]at h) (λh=>?_);repeat(refine s_ ?_;simp[gs,gr,zc])
  rw[<-hR,C2,if_neg hz];exact⟨rfl,Qa zb (Qa z1 za _) _,⟨by simp;omega,.inl rfl,λj hj h1 h2=>by rw[zI (by omega),zI (by omega)];exact f4.2.2 j hj h1 h2⟩⟩
 rw[f05,if_neg hb]at hR;refine Qb rfl (λh=>by exfalso;apply hb;simpa only[yE,decide_eq_true_eq]using h) (λh=>?_);have k2:=ks;have s2:=ss;have r2:=rs;have f2:=fs;generalize G1=G2 at *;generalize d1=d2 at *
 have zg:G2[q]?=some (.vars [.str d2.s,.i d2.e]):=k2;by_cases h2:d2.e=0/\k=2
 ·rw[Ls,if_pos h2,bd]at hR;obtain⟨zi,rfl⟩:=h2;repeat(refine s_ ?_;simp[zg,s2,zi])
  refine Qb rfl (λh=>?_) (λh=>by simp at h);repeat(refine s_ ?_;simp)
  refine Qd rfl rfl (Ba G2 q d2 k2 (by omega)) rfl ?_;rintro _ G3 ⟨rfl,k3,f3⟩;have s3:=f3.kd s2 z1;have r3:=f3.kd r2 zb;have f4:=f2.trans f3;have zj:=f4.1;generalize (Sj d2).1=t at *;generalize (Sj d2).2=d3 at *
  have za:G3[q]?=some (.vars [.str d3.s,.i d3.e]):=k3;have gs:∀y,(G3.set s y)[s]?=some y:=λy=>Qe s3 y;have gr:∀y,(G3.set s y)[H.length]?=some (.vars [.i 0,.i 0,.str []]):=λy=>Qa (by omega) r3 y;have zc:∀y z,((G3.set s y).set H.length z)[H.length]?=some z:=λy z=>Qe (gr y) z;have gq:∀y,(G3.set s y)[q]?=some (.vars [.str d3.s,.i d3.e]):=λy=>Qa z1 za y;simp[s3,gs,gr,zc,gq];repeat(refine s_ ?_;simp[s3,gs,gr,zc,gq])
  by_cases hz:d3.e=0
  ·refine Qb rfl (λh=>?_) (λh=>by simp[hz]at h);repeat(refine s_ ?_;simp[gs])
   refine pcL (Pj (⟨2,0,t⟩)) ?_;simp;repeat(refine s_ ?_;simp)
   refine Qd rfl rfl (Ww _ q d3 (Ej (⟨2,0,t⟩)) (Qa z1 za _)) rfl ?_;rintro _ _ ⟨rfl,rfl⟩;have ze:∀y z,((G3.set s y).set q z)[s]?=some y:=λy z=>Qa (λh=>z1 h.symm) (gs y) z;have zd:∀y z,((G3.set s y).set q z)[H.length]?=some (.vars [.i 0,.i 0,.str []]):=λy z=>Qa (λh=>zb h.symm) (gr y) z;have z8:∀y z u,(((G3.set s y).set q z).set H.length u)[H.length]?=some u:=λy z u=>Qe (zd y z) u;simp[ze,zd,z8];repeat(refine s_ ?_;simp[ze,zd,z8])
   rw[<-hR,C2,if_pos hz];exact⟨rfl,Qa zb (Qe (Qa z1 za _) _) _,⟨by simp;omega,.inl rfl,λj hj h1 h2=>by rw[zI (by omega),zI (by omega),zI (by omega)];exact f4.2.2 j hj h1 h2⟩⟩
  refine Qb rfl (λh=>by simp[hz]at h) (λh=>?_);repeat(refine s_ ?_;simp[gs,gr,zc])
  rw[<-hR,C2,if_neg hz];exact⟨rfl,Qa zb (Qa z1 za _) _,⟨by simp;omega,.inl rfl,λj hj h1 h2=>by rw[zI (by omega),zI (by omega)];exact f4.2.2 j hj h1 h2⟩⟩
 rw[Ls,if_neg h2,bd]at hR;have zh:(d2.e==0 && k==2)=false:=by rw[yF];simpa only[ne_eq,zX,beq_iff_eq]using h2
 repeat(refine s_ ?_;simp[zg,s2])
 refine Qb rfl (λh=>by exfalso;rw[<-ul]at zh;exact zh (by simpa using h)) (λh=>?_);repeat(refine s_ ?_;simp)
 refine Qd rfl rfl (Wa G2 q d2 k2 (by omega)) rfl ?_;rintro _ G3 ⟨rfl,k3,f3⟩;have s3:=f3.kd s2 z1;have r3:=f3.kd r2 zb;have f4:=f2.trans f3;have zj:=f4.1;generalize (pI d2).1=t at *;generalize (pI d2).2=d3 at *
 have za:G3[q]?=some (.vars [.str d3.s,.i d3.e]):=k3;have gs:∀y,(G3.set s y)[s]?=some y:=λy=>Qe s3 y;have gr:∀y,(G3.set s y)[H.length]?=some (.vars [.i 0,.i 0,.str []]):=λy=>Qa (by omega) r3 y;have zc:∀y z,((G3.set s y).set H.length z)[H.length]?=some z:=λy z=>Qe (gr y) z;have gq:∀y,(G3.set s y)[q]?=some (.vars [.str d3.s,.i d3.e]):=λy=>Qa z1 za y;simp[s3,gs,gr,zc,gq];repeat(refine s_ ?_;simp[s3,gs,gr,zc,gq])
 by_cases hz:d3.e=0
 ·refine Qb rfl (λh=>?_) (λh=>by simp[hz]at h);repeat(refine s_ ?_;simp[gs])
  refine pcL (Pj (⟨k,t,[]⟩)) ?_;simp;repeat(refine s_ ?_;simp)
  refine Qd rfl rfl (Ww _ q d3 (Ej (⟨k,t,[]⟩)) (Qa z1 za _)) rfl ?_;rintro _ _ ⟨rfl,rfl⟩;have ze:∀y z,((G3.set s y).set q z)[s]?=some y:=λy z=>Qa (λh=>z1 h.symm) (gs y) z;have zd:∀y z,((G3.set s y).set q z)[H.length]?=some (.vars [.i 0,.i 0,.str []]):=λy z=>Qa (λh=>zb h.symm) (gr y) z;have z8:∀y z u,(((G3.set s y).set q z).set H.length u)[H.length]?=some u:=λy z u=>Qe (zd y z) u;simp[ze,zd,z8];repeat(refine s_ ?_;simp[ze,zd,z8])
  rw[<-hR,C2,if_pos hz];exact⟨rfl,Qa zb (Qe (Qa z1 za _) _) _,⟨by simp;omega,.inl rfl,λj hj h1 h2=>by rw[zI (by omega),zI (by omega),zI (by omega)];exact f4.2.2 j hj h1 h2⟩⟩
 refine Qb rfl (λh=>by simp[hz]at h) (λh=>?_);repeat(refine s_ ?_;simp[gs,gr,zc])
 rw[<-hR,C2,if_neg hz];exact⟨rfl,Qa zb (Qa z1 za _) _,⟨by simp;omega,.inl rfl,λj hj h1 h2=>by rw[zI (by omega),zI (by omega)];exact f4.2.2 j hj h1 h2⟩⟩
end
def Wt{H G:List AObj}{q S:Nat}(f:Fr H G q none none)(hp:H.length<=S)(Y:AObj):Fr H (G.set S Y) q none none:=
 ⟨by simp;exact f.1,.inl rfl,λj hj h1 h2=>by rw[zI (by omega)];exact f.2.2 j hj h1 h2⟩
def v0m{α:Type}(F:DD α):pH.L F=pL F:=rfl
def v0l:pH.V=Z6:=rfl
def Hg:Shr pH.ev:=Qz.bd λ_=>Qz.bd λ_=>Qz.bd λ_=>Qz.bd λ_=>(Shr.list Dx).bd λ_=>Shr.rtn _
def Va:Shr How.bnd:=Qz.bd λ_=>Qz.bd λ_=>Qz.bd λ_=>Qz.bd λ_=>Shr.rtn _
def Vk:Shr How.stt:=Qz.bd λ_=>Qz.bd λ_=>Shr.rtn _
def X1:Shr How.pnt:=Qz.bd λ_=>Qz.bd λ_=>Shr.rtn _
def Vg:Shr pH.cfg:=Qz.bd λ_=>(Shr.list Va).bd λ_=>(Shr.list Vk).bd λ_=>Shr.rtn _
def y0a:Shr pH.eng:=Qz.bd λ_=>(Shr.list Hg).bd λ_=>(Shr.list Vg).bd λ_=>(Shr.list Hg).bd λ_=>Shr.rtn _
def d0w:Shr pH.trk:=Qz.bd λ_=>(Shr.list Qz).bd λ_=>(Shr.list X1).bd λ_=>Qz.bd λ_=>Shr.rtn _
def w0f:Shr pH.rdr:=Qz.bd λ_=>Qz.bd λ_=>d0w.bd λ_=>Shr.rtn _
def Vl:Shr pH.kyd:=Qz.bd λ_=>Dx.bd λ_=>y0a.bd λ_=>Shr.rtn _
def y0e:Shr pH.opr:=(Shr.list Qz).bd λ_=>(Shr.list Vl).bd λ_=>Shr.rtn _
def x0u(H:List AObj)(q:Nat)(d:Dc)(hd:H[q]?=some (dX d))(hs:d.s.length<=1000000000):FC prog 244 [.vptr q 0] H (DP H q (avStt (How.stt d).1) (How.stt d).2):=by
 refine fcB func244 results244 ntmps244 ?_;simp only[Qf];obtain⟨R,hR⟩:∃R,How.stt d=R:=⟨_,rfl⟩
 rw[hR];simp only[How.stt,bd,v0m,v0l,rtn]at hR;have ze:=(zD.1 hd).1;have za:H.length≠q:=by omega
 have z1:d.s.length<=1000000000:=hs;repeat(refine s_ ?_;simp)
 refine Qd rfl rfl (Wa _ q d (Qc hd _) z1) rfl ?_;rintro _ G1 ⟨rfl,k1,f1⟩;have r1:=f1.kd (j:=H.length) (x:= .vars [.i 0,.i 0]) (by simp) za;have zb:=f1.1;simp at zb;have e1:Fr H G1 q none none:=(Fr.app H _ q).trans f1;have z8:(pI d).2.s.length<=1000000000:=yD (Qz d) z1;generalize (pI d).1=v1 at *;generalize (pI d).2=d1 at *
 simp;repeat(refine s_ ?_;simp)
 refine Qd rfl rfl (Wa G1 q d1 k1 z8) rfl ?_;rintro _ G2 ⟨rfl,k2,f2⟩;have r2:=f2.kd r1 za;have zf:H.length+1<=G2.length:=yD zb f2.1;have e2:=e1.trans f2;have zd:(pI d1).2.s.length<=1000000000:=yD (Qz d1) z8;generalize (pI d1).1=v2 at *;generalize (pI d1).2=d2 at *
 have zc:∀z,(G2.set H.length z)[H.length]?=some z:=λz=>Qe r2 z;simp[r2,zc];repeat(refine s_ ?_;simp[r2,zc])
 rw[<-hR];exact⟨rfl,Qa za k2 _,Wt e2 (zR _) _⟩
def x08(H:List AObj)(q:Nat)(d:Dc)(hd:H[q]?=some (dX d))(hs:d.s.length<=1000000000):FC prog 192 [.vptr q 0] H (DP H q (avPnt (How.pnt d).1) (How.pnt d).2):=by
 refine fcB func192 results192 ntmps192 ?_;simp only[Qf];obtain⟨R,hR⟩:∃R,How.pnt d=R:=⟨_,rfl⟩
 rw[hR];simp only[How.pnt,bd,v0m,v0l,rtn]at hR;have ze:=(zD.1 hd).1;have za:H.length≠q:=by omega
 have z1:d.s.length<=1000000000:=hs;repeat(refine s_ ?_;simp)
 refine Qd rfl rfl (Wa _ q d (Qc hd _) z1) rfl ?_;rintro _ G1 ⟨rfl,k1,f1⟩;have r1:=f1.kd (j:=H.length) (x:= .vars [.i 0,.i 0]) (by simp) za;have zb:=f1.1;simp at zb;have e1:Fr H G1 q none none:=(Fr.app H _ q).trans f1;have z8:(pI d).2.s.length<=1000000000:=yD (Qz d) z1;generalize (pI d).1=v1 at *;generalize (pI d).2=d1 at *
 simp;repeat(refine s_ ?_;simp)
 refine Qd rfl rfl (Wa G1 q d1 k1 z8) rfl ?_;rintro _ G2 ⟨rfl,k2,f2⟩;have r2:=f2.kd r1 za;have zf:H.length+1<=G2.length:=yD zb f2.1;have e2:=e1.trans f2;have zd:(pI d1).2.s.length<=1000000000:=yD (Qz d1) z8;generalize (pI d1).1=v2 at *;generalize (pI d1).2=d2 at *
 have zc:∀z,(G2.set H.length z)[H.length]?=some z:=λz=>Qe r2 z;simp[r2,zc];repeat(refine s_ ?_;simp[r2,zc])
 rw[<-hR];exact⟨rfl,Qa za k2 _,Wt e2 (zR _) _⟩
def Vf(H:List AObj)(q:Nat)(d:Dc)(hd:H[q]?=some (dX d))(hs:d.s.length<=1000000000):FC prog 242 [.vptr q 0] H (DP H q (avBnd (How.bnd d).1) (How.bnd d).2):=by
 refine fcB func242 results242 ntmps242 ?_;simp only[Qf];obtain⟨R,hR⟩:∃R,How.bnd d=R:=⟨_,rfl⟩
 rw[hR];simp only[How.bnd,bd,v0m,v0l,rtn]at hR;have zl:=(zD.1 hd).1;have z1:H.length≠q:=by omega
 have z8:d.s.length<=1000000000:=hs;repeat(refine s_ ?_;simp)
 refine Qd rfl rfl (Wa _ q d (Qc hd _) z8) rfl ?_;rintro _ G1 ⟨rfl,k1,f1⟩;have r1:=f1.kd (j:=H.length) (x:= .vars [.i 0,.i 0,.i 0,.i 0]) (by simp) z1;have zf:=f1.1;simp at zf;have e1:Fr H G1 q none none:=(Fr.app H _ q).trans f1;have za:(pI d).2.s.length<=1000000000:=yD (Qz d) z8;generalize (pI d).1=v1 at *;generalize (pI d).2=d1 at *
 simp;repeat(refine s_ ?_;simp)
 refine Qd rfl rfl (Wa _ q d1 (Qc k1 _) za) rfl ?_;rintro _ G2 ⟨rfl,k2,f2⟩;obtain⟨S,hS⟩:∃S,G1.length=S:=⟨_,rfl⟩
 have zd:S≠q:=by have:=(zD.1 k1).1;omega
 have zg:S≠H.length:=by omega
 have zh:H.length<=S:=by omega
 have zi:H.length+1<=G2.length:=by have h1:=f2.1;simp at h1;omega
 have r2:=f2.kd (Qc r1 _) z1;have s2:=f2.kd (j:=S) (x:= .vars [.i v1,.i 0,.i 0,.i 0]) (by rw[<-hS];simp) zd;have e2:=(Ec e1 _).trans f2;rw[hS];have zb:(pI d1).2.s.length<=1000000000:=yD (Qz d1) za;generalize (pI d1).1=v2 at *;generalize (pI d1).2=d2 at *
 simp[s2];repeat(refine s_ ?_;simp[s2])
 refine Qd rfl rfl (Wa G2 q d2 k2 zb) rfl ?_;rintro _ G3 ⟨rfl,k3,f3⟩;have r3:=f3.kd r2 z1;have zj:H.length+1<=G3.length:=yD zi f3.1;have e3:=e2.trans f3;have s3:=f3.kd s2 zd;have zc:(pI d2).2.s.length<=1000000000:=yD (Qz d2) zb;generalize (pI d2).1=v3 at *;generalize (pI d2).2=d3 at *
 simp[s3];repeat(refine s_ ?_;simp[s3])
 refine Qd rfl rfl (Wa G3 q d3 k3 zc) rfl ?_;rintro _ G4 ⟨rfl,k4,f4⟩;have r4:=f4.kd r3 z1;have zm:H.length+1<=G4.length:=yD zj f4.1;have e4:=e3.trans f4;have s4:=f4.kd s3 zd;have zk:(pI d3).2.s.length<=1000000000:=yD (Qz d3) zc;generalize (pI d3).1=v4 at *;generalize (pI d3).2=d4 at *
 have gs:∀y,(G4.set S y)[S]?=some y:=λy=>Qe s4 y;have gr:∀y,(G4.set S y)[H.length]?=some (.vars [.i 0,.i 0,.i 0,.i 0]):=λy=>Qa zg r4 y;have ze:∀y z,((G4.set S y).set H.length z)[H.length]?=some z:=λy z=>Qe (gr y) z;simp[s4,gs,gr,ze];repeat(refine s_ ?_;simp[s4,gs,gr,ze])
 rw[<-hR];exact⟨rfl,Qa z1 (Qa zd k4 _) _,Wt (Wt e4 zh _) (zR _) _⟩
def Lw(H:List AObj)(q:Nat)(d:Dc)(hd:H[q]?=some (dX d))(hs:d.s.length<=1000000000):FC prog 234 [.vptr q 0] H (DP H q (encE (pH.ev d).1) (pH.ev d).2):=by
 refine fcB func234 results234 ntmps234 ?_;simp only[Qf];obtain⟨R,hR⟩:∃R,pH.ev d=R:=⟨_,rfl⟩
 rw[hR];simp only[How.ev,bd,v0m,v0l,rtn]at hR;have zm:=(zD.1 hd).1;have z1:H.length≠q:=by omega
 have z8:d.s.length<=1000000000:=hs;repeat(refine s_ ?_;simp)
 refine Qd rfl rfl (Wa _ q d (Qc hd _) z8) rfl ?_;rintro _ G1 ⟨rfl,k1,f1⟩;have r1:=f1.kd (j:=H.length) (x:= .vars [.i 0,.i 0,.i 0,.i 0,.nils]) (by simp) z1;have ze:=f1.1;simp at ze;have e1:Fr H G1 q none none:=(Fr.app H _ q).trans f1;have za:(pI d).2.s.length<=1000000000:=yD (Qz d) z8;generalize (pI d).1=v1 at *;generalize (pI d).2=d1 at *
 simp;repeat(refine s_ ?_;simp)
 refine Qd rfl rfl (Wa G1 q d1 k1 za) rfl ?_;rintro _ G2 ⟨rfl,k2,f2⟩;have r2:=f2.kd r1 z1;have zh:H.length+1<=G2.length:=yD ze f2.1;have e2:=e1.trans f2;have zb:(pI d1).2.s.length<=1000000000:=yD (Qz d1) za;generalize (pI d1).1=v2 at *;generalize (pI d1).2=d2 at *
 simp;repeat(refine s_ ?_;simp)
 refine Qd rfl rfl (Wa G2 q d2 k2 zb) rfl ?_;rintro _ G3 ⟨rfl,k3,f3⟩;have r3:=f3.kd r2 z1;have zi:H.length+1<=G3.length:=yD zh f3.1;have e3:=e2.trans f3;have zc:(pI d2).2.s.length<=1000000000:=yD (Qz d2) zb;generalize (pI d2).1=v3 at *;generalize (pI d2).2=d3 at *
 simp;repeat(refine s_ ?_;simp)
 refine Qd rfl rfl (Wa G3 q d3 k3 zc) rfl ?_;rintro _ G4 ⟨rfl,k4,f4⟩;have r4:=f4.kd r3 z1;have zn:H.length+1<=G4.length:=yD zi f4.1;have e4:=e3.trans f4;have zd:(pI d3).2.s.length<=1000000000:=yD (Qz d3) zc;generalize (pI d3).1=v4 at *;generalize (pI d3).2=d4 at *
 simp;repeat(refine s_ ?_;simp)
 refine Qd rfl rfl (Lm Z6 Dx _ [.vptr q 0] [] _ q d4 (Qc k4 _) zd (λH1 d1 a b c=>Zr H1 q d1 a b)) rfl ?_;rintro _ G5 ⟨rfl,k5,f5⟩;obtain⟨S,hS⟩:∃S,G4.length=S:=⟨_,rfl⟩
 have zf:S≠q:=by have:=(zD.1 k4).1;omega
 have zj:S≠H.length:=by omega
 have zk:H.length<=S:=by omega
 have zo:H.length+1<=G5.length:=by have h1:=f5.1;simp at h1;omega
 have r5:=f5.kd (Qc r4 _) z1;have s5:=f5.kd (j:=S) (x:= .vars [.i v1,.i v2,.i v3,.i v4,.nils]) (by rw[<-hS];simp) zf;have e5:=(Ec e4 _).trans f5;rw[hS];have zl:(pL Z6 d4).2.s.length<=1000000000:=yD ((Shr.list Dx) d4) zd;generalize (pL Z6 d4).1=v5 at *;generalize (pL Z6 d4).2=d5 at *
 have gs:∀y,(G5.set S y)[S]?=some y:=λy=>Qe s5 y;have gr:∀y,(G5.set S y)[H.length]?=some (.vars [.i 0,.i 0,.i 0,.i 0,.nils]):=λy=>Qa zj r5 y;have zg:∀y z,((G5.set S y).set H.length z)[H.length]?=some z:=λy z=>Qe (gr y) z;simp[s5,gs,gr,zg];repeat(refine s_ ?_;simp[s5,gs,gr,zg])
 rw[<-hR];exact⟨rfl,Qa z1 (Qa zf k5 _) _,Wt (Wt e5 zk _) (zR _) _⟩
def Ns(H:List AObj)(q:Nat)(d:Dc)(hd:H[q]?=some (dX d))(hs:d.s.length<=1000000000):FC prog 236 [.vptr q 0] H (DP H q (avCfg (pH.cfg d).1) (pH.cfg d).2):=by
 refine fcB func236 results236 ntmps236 ?_;simp only[Qf];obtain⟨R,hR⟩:∃R,pH.cfg d=R:=⟨_,rfl⟩
 rw[hR];simp only[How.cfg,bd,v0m,v0l,rtn]at hR;have zi:=(zD.1 hd).1;have zb:H.length≠q:=by omega
 have z1:d.s.length<=1000000000:=hs;repeat(refine s_ ?_;simp)
 refine Qd rfl rfl (Wa _ q d (Qc hd _) z1) rfl ?_;rintro _ G1 ⟨rfl,k1,f1⟩;have r1:=f1.kd (j:=H.length) (x:= .vars [.i 0,.nils,.nils]) (by simp) zb;have zg:=f1.1;simp at zg;have e1:Fr H G1 q none none:=(Fr.app H _ q).trans f1;have z8:(pI d).2.s.length<=1000000000:=yD (Qz d) z1;generalize (pI d).1=v1 at *;generalize (pI d).2=d1 at *
 simp;repeat(refine s_ ?_;simp)
 refine Qd rfl rfl (F7 How.bnd Va _ [.vptr q 0] [] _ q d1 (Qc k1 _) z8 (λH1 d1 a b c=>Vf H1 q d1 a b)) rfl ?_;rintro _ G2 ⟨rfl,k2,f2⟩;obtain⟨S,hS⟩:∃S,G1.length=S:=⟨_,rfl⟩
 have zc:S≠q:=by have:=(zD.1 k1).1;omega
 have zd:S≠H.length:=by omega
 have ze:H.length<=S:=by omega
 have zj:H.length+1<=G2.length:=by have h1:=f2.1;simp at h1;omega
 have r2:=f2.kd (Qc r1 _) zb;have s2:=f2.kd (j:=S) (x:= .vars [.i v1,.nils,.nils]) (by rw[<-hS];simp) zc;have e2:=(Ec e1 _).trans f2;rw[hS];have za:(pL How.bnd d1).2.s.length<=1000000000:=yD ((Shr.list Va) d1) z8;generalize (pL How.bnd d1).1=v2 at *;generalize (pL How.bnd d1).2=d2 at *
 simp[s2];repeat(refine s_ ?_;simp[s2])
 refine Qd rfl rfl (Zj How.stt Vk _ [.vptr q 0] [] _ q d2 (Qa zc k2 _) za (λH1 d1 a b c=>x0u H1 q d1 a b)) rfl ?_;rintro _ G3 ⟨rfl,k3,f3⟩;have r3:=f3.kd (Qa zd r2 _) zb;have s3:=f3.kd (Qe s2 _) zc;have e3:=(Wt e2 ze _).trans f3;have zh:(pL How.stt d2).2.s.length<=1000000000:=yD ((Shr.list Vk) d2) za;generalize (pL How.stt d2).1=v3 at *;generalize (pL How.stt d2).2=d3 at *
 have gs:∀y,(G3.set S y)[S]?=some y:=λy=>Qe s3 y;have gr:∀y,(G3.set S y)[H.length]?=some (.vars [.i 0,.nils,.nils]):=λy=>Qa zd r3 y;have zf:∀y z,((G3.set S y).set H.length z)[H.length]?=some z:=λy z=>Qe (gr y) z;simp[s3,gs,gr,zf];repeat(refine s_ ?_;simp[s3,gs,gr,zf])
 rw[<-hR];exact⟨rfl,Qa zb (Qa zc k3 _) _,Wt (Wt e3 ze _) (zR _) _⟩
def q0u(H:List AObj)(q:Nat)(d:Dc)(hd:H[q]?=some (dX d))(hs:d.s.length<=1000000000):FC prog 216 [.vptr q 0] H (DP H q (avEng (pH.eng d).1) (pH.eng d).2):=by
 refine fcB func216 results216 ntmps216 ?_;simp only[Qf];obtain⟨R,hR⟩:∃R,pH.eng d=R:=⟨_,rfl⟩
 rw[hR];simp only[How.eng,bd,v0m,v0l,rtn]at hR;have zj:=(zD.1 hd).1;have z8:H.length≠q:=by omega
 have za:d.s.length<=1000000000:=hs;repeat(refine s_ ?_;simp)
 refine Qd rfl rfl (Wa _ q d (Qc hd _) za) rfl ?_;rintro _ G1 ⟨rfl,k1,f1⟩;have r1:=f1.kd (j:=H.length) (x:= .vars [.i 0,.nils,.nils,.nils]) (by simp) z8;have zh:=f1.1;simp at zh;have e1:Fr H G1 q none none:=(Fr.app H _ q).trans f1;have zb:(pI d).2.s.length<=1000000000:=yD (Qz d) za;generalize (pI d).1=v1 at *;generalize (pI d).2=d1 at *
 simp;repeat(refine s_ ?_;simp)
 refine Qd rfl rfl (Sf pH.ev Hg _ [.vptr q 0] [] _ q d1 (Qc k1 _) zb (λH1 d1 a b c=>Lw H1 q d1 a b)) rfl ?_;rintro _ G2 ⟨rfl,k2,f2⟩;obtain⟨S,hS⟩:∃S,G1.length=S:=⟨_,rfl⟩
 have z1:S≠q:=by have:=(zD.1 k1).1;omega
 have ze:S≠H.length:=by omega
 have zf:H.length<=S:=by omega
 have zk:H.length+1<=G2.length:=by have h1:=f2.1;simp at h1;omega
 have r2:=f2.kd (Qc r1 _) z8;have s2:=f2.kd (j:=S) (x:= .vars [.i v1,.nils,.nils,.nils]) (by rw[<-hS];simp) z1;have e2:=(Ec e1 _).trans f2;rw[hS];have zc:(pL pH.ev d1).2.s.length<=1000000000:=yD ((Shr.list Hg) d1) zb;generalize (pL pH.ev d1).1=v2 at *;generalize (pL pH.ev d1).2=d2 at *
 simp[s2];repeat(refine s_ ?_;simp[s2])
 refine Qd rfl rfl (Hy pH.cfg Vg _ [.vptr q 0] [] _ q d2 (Qa z1 k2 _) zc (λH1 d1 a b c=>Ns H1 q d1 a b)) rfl ?_;rintro _ G3 ⟨rfl,k3,f3⟩;have r3:=f3.kd (Qa ze r2 _) z8;have s3:=f3.kd (Qe s2 _) z1;have e3:=(Wt e2 zf _).trans f3;have zd:(pL pH.cfg d2).2.s.length<=1000000000:=yD ((Shr.list Vg) d2) zc;generalize (pL pH.cfg d2).1=v3 at *;generalize (pL pH.cfg d2).2=d3 at *
 simp[s3];repeat(refine s_ ?_;simp[s3])
 refine Qd rfl rfl (Sf pH.ev Hg _ [.vptr q 0] [] _ q d3 (Qa z1 k3 _) zd (λH1 d1 a b c=>Lw H1 q d1 a b)) rfl ?_;rintro _ G4 ⟨rfl,k4,f4⟩;have r4:=f4.kd (Qa ze r3 _) z8;have s4:=f4.kd (Qe s3 _) z1;have e4:=(Wt e3 zf _).trans f4;have zi:(pL pH.ev d3).2.s.length<=1000000000:=yD ((Shr.list Hg) d3) zd;generalize (pL pH.ev d3).1=v4 at *;generalize (pL pH.ev d3).2=d4 at *
 have gs:∀y,(G4.set S y)[S]?=some y:=λy=>Qe s4 y;have gr:∀y,(G4.set S y)[H.length]?=some (.vars [.i 0,.nils,.nils,.nils]):=λy=>Qa ze r4 y;have zg:∀y z,((G4.set S y).set H.length z)[H.length]?=some z:=λy z=>Qe (gr y) z;simp[s4,gs,gr,zg];repeat(refine s_ ?_;simp[s4,gs,gr,zg])
 rw[<-hR];exact⟨rfl,Qa z8 (Qa z1 k4 _) _,Wt (Wt e4 zf _) (zR _) _⟩
def q0p(H:List AObj)(q:Nat)(d:Dc)(hd:H[q]?=some (dX d))(hs:d.s.length<=1000000000):FC prog 160 [.vptr q 0] H (DP H q (avRdr (pH.rdr d).1) (pH.rdr d).2):=by
 refine fcB func160 results160 ntmps160 ?_;simp only[Qf];obtain⟨R,hR⟩:∃R,pH.rdr d=R:=⟨_,rfl⟩
 rw[hR];simp only[How.rdr,How.trk,bd,v0m,v0l,rtn]at hR;have zl:=(zD.1 hd).1;have z8:H.length≠q:=by omega
 have za:d.s.length<=1000000000:=hs;repeat(refine s_ ?_;simp)
 refine Qd rfl rfl (Wa _ q d (Qc hd _) za) rfl ?_;rintro _ G1 ⟨rfl,k1,f1⟩;have r1:=f1.kd (j:=H.length) (x:= .vars [.i 0,.i 0,.i 0,.nils,.nils,.i 0]) (by simp) z8;have zi:=f1.1;simp at zi;have e1:Fr H G1 q none none:=(Fr.app H _ q).trans f1;have zb:(pI d).2.s.length<=1000000000:=yD (Qz d) za;generalize (pI d).1=v1 at *;generalize (pI d).2=d1 at *
 simp;repeat(refine s_ ?_;simp)
 refine Qd rfl rfl (Wa G1 q d1 k1 zb) rfl ?_;rintro _ G2 ⟨rfl,k2,f2⟩;have r2:=f2.kd r1 z8;have zm:H.length+1<=G2.length:=yD zi f2.1;have e2:=e1.trans f2;have zc:(pI d1).2.s.length<=1000000000:=yD (Qz d1) zb;generalize (pI d1).1=v2 at *;generalize (pI d1).2=d2 at *
 simp;repeat(refine s_ ?_;simp)
 refine Qd rfl rfl (Wa _ q d2 (Qc k2 _) zc) rfl ?_;rintro _ G3 ⟨rfl,k3,f3⟩;obtain⟨S,hS⟩:∃S,G2.length=S:=⟨_,rfl⟩
 have z1:S≠q:=by have:=(zD.1 k2).1;omega
 have zg:S≠H.length:=by omega
 have zh:H.length<=S:=by omega
 have zn:H.length+1<=G3.length:=by have h1:=f3.1;simp at h1;omega
 have r3:=f3.kd (Qc r2 _) z8;have s3:=f3.kd (j:=S) (x:= .vars [.i v1,.i v2,.i 0,.nils,.nils,.i 0]) (by rw[<-hS];simp) z1;have e3:=(Ec e2 _).trans f3;rw[hS];have zd:(pI d2).2.s.length<=1000000000:=yD (Qz d2) zc;generalize (pI d2).1=v3 at *;generalize (pI d2).2=d3 at *
 simp[s3];repeat(refine s_ ?_;simp[s3])
 refine Qd rfl rfl (G0 pI Qz _ [.vptr q 0] [] _ q d3 (Qa z1 k3 _) zd (λH1 d1 a b c=>Wa H1 q d1 a b)) rfl ?_;rintro _ G4 ⟨rfl,k4,f4⟩;have r4:=f4.kd (Qa zg r3 _) z8;have s4:=f4.kd (Qe s3 _) z1;have e4:=(Wt e3 zh _).trans f4;have ze:(pL pI d3).2.s.length<=1000000000:=yD ((Shr.list Qz) d3) zd;generalize (pL pI d3).1=v4 at *;generalize (pL pI d3).2=d4 at *
 simp[s4];repeat(refine s_ ?_;simp[s4])
 refine Qd rfl rfl (K7 How.pnt X1 _ [.vptr q 0] [] _ q d4 (Qa z1 k4 _) ze (λH1 d1 a b c=>x08 H1 q d1 a b)) rfl ?_;rintro _ G5 ⟨rfl,k5,f5⟩;have r5:=f5.kd (Qa zg r4 _) z8;have s5:=f5.kd (Qe s4 _) z1;have e5:=(Wt e4 zh _).trans f5;have zf:(pL How.pnt d4).2.s.length<=1000000000:=yD ((Shr.list X1) d4) ze;generalize (pL How.pnt d4).1=v5 at *;generalize (pL How.pnt d4).2=d5 at *
 simp[s5];repeat(refine s_ ?_;simp[s5])
 refine Qd rfl rfl (Wa _ q d5 (Qa z1 k5 _) zf) rfl ?_;rintro _ G6 ⟨rfl,k6,f6⟩;have r6:=f6.kd (Qa zg r5 _) z8;have s6:=f6.kd (Qe s5 _) z1;have e6:=(Wt e5 zh _).trans f6;have zk:(pI d5).2.s.length<=1000000000:=yD (Qz d5) zf;generalize (pI d5).1=v6 at *;generalize (pI d5).2=d6 at *
 have gs:∀y,(G6.set S y)[S]?=some y:=λy=>Qe s6 y;have gr:∀y,(G6.set S y)[H.length]?=some (.vars [.i 0,.i 0,.i 0,.nils,.nils,.i 0]):=λy=>Qa zg r6 y;have zj:∀y z,((G6.set S y).set H.length z)[H.length]?=some z:=λy z=>Qe (gr y) z;simp[s6,gs,gr,zj];repeat(refine s_ ?_;simp[s6,gs,gr,zj])
 rw[<-hR];exact⟨rfl,Qa z8 (Qa z1 k6 _) _,Wt (Wt e6 zh _) (zR _) _⟩
def z0u(H:List AObj)(q:Nat)(d:Dc)(hd:H[q]?=some (dX d))(hs:d.s.length<=1000000000):FC prog 194 [.vptr q 0] H (DP H q (avKyd (pH.kyd d).1) (pH.kyd d).2):=by
 refine fcB func194 results194 ntmps194 ?_;simp only[Qf];obtain⟨R,hR⟩:∃R,pH.kyd d=R:=⟨_,rfl⟩
 rw[hR];simp only[How.kyd,bd,v0m,v0l,rtn]at hR;have zi:=(zD.1 hd).1;have zb:H.length≠q:=by omega
 have z1:d.s.length<=1000000000:=hs;repeat(refine s_ ?_;simp)
 refine Qd rfl rfl (Wa _ q d (Qc hd _) z1) rfl ?_;rintro _ G1 ⟨rfl,k1,f1⟩;have r1:=f1.kd (j:=H.length) (x:= .vars [.i 0,.i 0,.i 0,.str [],.i 0,.nils,.nils,.nils]) (by simp) zb;have zg:=f1.1;simp at zg;have e1:Fr H G1 q none none:=(Fr.app H _ q).trans f1;have z8:(pI d).2.s.length<=1000000000:=yD (Qz d) z1;generalize (pI d).1=v1 at *;generalize (pI d).2=d1 at *
 simp;repeat(refine s_ ?_;simp)
 refine Qd rfl rfl (Zr _ q d1 (Qc k1 _) z8) rfl ?_;rintro _ G2 ⟨rfl,k2,f2⟩;obtain⟨S,hS⟩:∃S,G1.length=S:=⟨_,rfl⟩
 have zc:S≠q:=by have:=(zD.1 k1).1;omega
 have zd:S≠H.length:=by omega
 have ze:H.length<=S:=by omega
 have zj:H.length+1<=G2.length:=by have h1:=f2.1;simp at h1;omega
 have r2:=f2.kd (Qc r1 _) zb;have s2:=f2.kd (j:=S) (x:= .vars [.i v1,.i 0,.i 0,.str [],.i 0,.nils,.nils,.nils]) (by rw[<-hS];simp) zc;have e2:=(Ec e1 _).trans f2;rw[hS];have za:(Z6 d1).2.s.length<=1000000000:=yD (Dx d1) z8;generalize (Z6 d1).1=v2 at *;generalize (Z6 d1).2=d2 at *
 simp[s2];repeat(refine s_ ?_;simp[s2])
 refine Qd rfl rfl (q0u _ q d2 (Qa zc k2 _) za) rfl ?_;rintro _ G3 ⟨rfl,k3,f3⟩;have r3:=f3.kd (Qa zd r2 _) zb;have s3:=f3.kd (Qe s2 _) zc;have e3:=(Wt e2 ze _).trans f3;have zh:(pH.eng d2).2.s.length<=1000000000:=yD (y0a d2) za;generalize (pH.eng d2).1=v3 at *;generalize (pH.eng d2).2=d3 at *
 have gs:∀y,(G3.set S y)[S]?=some y:=λy=>Qe s3 y;have gr:∀y,(G3.set S y)[H.length]?=some (.vars [.i 0,.i 0,.i 0,.str [],.i 0,.nils,.nils,.nils]):=λy=>Qa zd r3 y;have zf:∀y z,((G3.set S y).set H.length z)[H.length]?=some z:=λy z=>Qe (gr y) z;simp[s3,gs,gr,zf];repeat(refine s_ ?_;simp[s3,gs,gr,zf])
 rw[<-hR];exact⟨rfl,Qa zb (Qa zc k3 _) _,Wt (Wt e3 ze _) (zR _) _⟩
def Xr(H:List AObj)(q:Nat)(d:Dc)(hd:H[q]?=some (dX d))(hs:d.s.length<=1000000000):FC prog 162 [.vptr q 0] H (DP H q (avOpr (pH.opr d).1) (pH.opr d).2):=by
 refine fcB func162 results162 ntmps162 ?_;simp only[Qf];obtain⟨R,hR⟩:∃R,pH.opr d=R:=⟨_,rfl⟩
 rw[hR];simp only[How.opr,bd,v0m,v0l,rtn]at hR;have zh:=(zD.1 hd).1;have za:H.length≠q:=by omega
 have z1:d.s.length<=1000000000:=hs;repeat(refine s_ ?_;simp)
 refine Qd rfl rfl (G0 pI Qz _ [.vptr q 0] [] _ q d (Qc hd _) z1 (λH1 d1 a b c=>Wa H1 q d1 a b)) rfl ?_;rintro _ G1 ⟨rfl,k1,f1⟩;have r1:=f1.kd (j:=H.length) (x:= .vars [.nils,.nils]) (by simp) za;have zd:=f1.1;simp at zd;have e1:Fr H G1 q none none:=(Fr.app H _ q).trans f1;have z8:(pL pI d).2.s.length<=1000000000:=yD ((Shr.list Qz) d) z1;generalize (pL pI d).1=v1 at *;generalize (pL pI d).2=d1 at *
 simp;repeat(refine s_ ?_;simp)
 refine Qd rfl rfl (Zt pH.kyd Vl _ [.vptr q 0] [] _ q d1 (Qc k1 _) z8 (λH1 d1 a b c=>z0u H1 q d1 a b)) rfl ?_;rintro _ G2 ⟨rfl,k2,f2⟩;obtain⟨S,hS⟩:∃S,G1.length=S:=⟨_,rfl⟩
 have zb:S≠q:=by have:=(zD.1 k1).1;omega
 have ze:S≠H.length:=by omega
 have zf:H.length<=S:=by omega
 have zi:H.length+1<=G2.length:=by have h1:=f2.1;simp at h1;omega
 have r2:=f2.kd (Qc r1 _) za;have s2:=f2.kd (j:=S) (x:= .vars [.list (v1.map encI),.nils]) (by rw[<-hS];simp) zb;have e2:=(Ec e1 _).trans f2;rw[hS];have zg:(pL pH.kyd d1).2.s.length<=1000000000:=yD ((Shr.list Vl) d1) z8;generalize (pL pH.kyd d1).1=v2 at *;generalize (pL pH.kyd d1).2=d2 at *
 have gs:∀y,(G2.set S y)[S]?=some y:=λy=>Qe s2 y;have gr:∀y,(G2.set S y)[H.length]?=some (.vars [.nils,.nils]):=λy=>Qa ze r2 y;have zc:∀y z,((G2.set S y).set H.length z)[H.length]?=some z:=λy z=>Qe (gr y) z;simp[s2,gs,gr,zc];repeat(refine s_ ?_;simp[s2,gs,gr,zc])
 rw[<-hR];exact⟨rfl,Qa za (Qa zb k2 _) _,Wt (Wt e2 zf _) (zR _) _⟩
def Xi(H:List AObj)(q:Nat)(d:Dc)(hd:H[q]?=some (dX d))(hs:d.s.length<=1000000000):FC prog 118 [.vptr q 0] H (DP H q (avSnp (pH.snp d).1) (pH.snp d).2):=by
 refine fcB func118 results118 ntmps118 ?_;simp only[Qf];obtain⟨R,hR⟩:∃R,pH.snp d=R:=⟨_,rfl⟩
 rw[hR];simp only[How.snp,bd,v0m,v0l,rtn]at hR;have zi:=(zD.1 hd).1;have zb:H.length≠q:=by omega
 have z1:d.s.length<=1000000000:=hs;repeat(refine s_ ?_;simp)
 refine Qd rfl rfl (Wa _ q d (Qc hd _) z1) rfl ?_;rintro _ G1 ⟨rfl,k1,f1⟩;have r1:=f1.kd (j:=H.length) (x:= .vars [.i 0,.nils,.nils]) (by simp) zb;have zg:=f1.1;simp at zg;have e1:Fr H G1 q none none:=(Fr.app H _ q).trans f1;have z8:(pI d).2.s.length<=1000000000:=yD (Qz d) z1;generalize (pI d).1=v1 at *;generalize (pI d).2=d1 at *
 simp;repeat(refine s_ ?_;simp)
 refine Qd rfl rfl (Jv pH.rdr w0f _ [.vptr q 0] [] _ q d1 (Qc k1 _) z8 (λH1 d1 a b c=>q0p H1 q d1 a b)) rfl ?_;rintro _ G2 ⟨rfl,k2,f2⟩;obtain⟨S,hS⟩:∃S,G1.length=S:=⟨_,rfl⟩
 have zc:S≠q:=by have:=(zD.1 k1).1;omega
 have zd:S≠H.length:=by omega
 have ze:H.length<=S:=by omega
 have zj:H.length+1<=G2.length:=by have h1:=f2.1;simp at h1;omega
 have r2:=f2.kd (Qc r1 _) zb;have s2:=f2.kd (j:=S) (x:= .vars [.i v1,.nils,.nils]) (by rw[<-hS];simp) zc;have e2:=(Ec e1 _).trans f2;rw[hS];have za:(pL pH.rdr d1).2.s.length<=1000000000:=yD ((Shr.list w0f) d1) z8;generalize (pL pH.rdr d1).1=v2 at *;generalize (pL pH.rdr d1).2=d2 at *
 simp[s2];repeat(refine s_ ?_;simp[s2])
 refine Qd rfl rfl (Dl pH.opr y0e _ [.vptr q 0] [] _ q d2 (Qa zc k2 _) za (λH1 d1 a b c=>Xr H1 q d1 a b)) rfl ?_;rintro _ G3 ⟨rfl,k3,f3⟩;have r3:=f3.kd (Qa zd r2 _) zb;have s3:=f3.kd (Qe s2 _) zc;have e3:=(Wt e2 ze _).trans f3;have zh:(pL pH.opr d2).2.s.length<=1000000000:=yD ((Shr.list y0e) d2) za;generalize (pL pH.opr d2).1=v3 at *;generalize (pL pH.opr d2).2=d3 at *
 have gs:∀y,(G3.set S y)[S]?=some y:=λy=>Qe s3 y;have gr:∀y,(G3.set S y)[H.length]?=some (.vars [.i 0,.nils,.nils]):=λy=>Qa zd r3 y;have zf:∀y z,((G3.set S y).set H.length z)[H.length]?=some z:=λy z=>Qe (gr y) z;simp[s3,gs,gr,zf];repeat(refine s_ ?_;simp[s3,gs,gr,zf])
 rw[<-hR];exact⟨rfl,Qa zb (Qa zc k3 _) _,Wt (Wt e3 ze _) (zR _) _⟩
section
def j0q(k:Nat)(hk:k<4294967296)(a b c d:UInt8):Cl k=[a,b,c,d]↔(k:Int)=a.toNat * 16777216+b.toNat * 65536+c.toNat * 256+d.toNat:=by
 have ha:=a.toNat_lt;have hb:=b.toNat_lt;have hc:=c.toNat_lt;have hd:=d.toNat_lt;unfold Cl;simp only[List.cons.injEq,and_true];constructor
 ·rintro⟨rfl,rfl,rfl,rfl⟩;simp;omega
 intro h;refine⟨?_,?_,?_,?_⟩<;>(apply UInt8.toNat_inj.1;simp;omega)
def x17(a b c d:UInt8):bits .or .i64 (bits .or .i64 (bits .or .i64 (IntKind.i64.wrap (IntKind.i64.wrap (a.toNat:Int) * 2 ^ min 24 IntKind.i64.bits)) (IntKind.i64.wrap (IntKind.i64.wrap (b.toNat:Int) * 2 ^ min 16 IntKind.i64.bits))) (IntKind.i64.wrap (IntKind.i64.wrap (c.toNat:Int) * 2 ^ min 8 IntKind.i64.bits))) (IntKind.i64.wrap (d.toNat:Int))=(a.toNat:Int) * 16777216+b.toNat * 65536+c.toNat * 256+d.toNat:=by
 have ha:=a.toNat_lt;have hb:=b.toNat_lt;have hc:=c.toNat_lt;have hd:=d.toNat_lt;have e24:(2:Int) ^ min 24 IntKind.i64.bits=16777216:=by decide
 have e16:(2:Int) ^ min 16 IntKind.i64.bits=65536:=by decide
 have e8:(2:Int) ^ min 8 IntKind.i64.bits=256:=by decide
 have hw:∀n:Int,0<=n->n<2 ^ 32->IntKind.i64.wrap n=n:=λn h0 h1=>wrap_i64 _ (by omega) (by omega);rw[e24,e16,e8,wrap_i64 (a.toNat:Int) (by omega) (by omega),wrap_i64 (b.toNat:Int) (by omega) (by omega),wrap_i64 (c.toNat:Int) (by omega) (by omega),wrap_i64 (d.toNat:Int) (by omega) (by omega),wrap_i64 ((a.toNat:Int) * 16777216) (by omega) (by omega),wrap_i64 ((b.toNat:Int) * 65536) (by omega) (by omega),wrap_i64 ((c.toNat:Int) * 256) (by omega) (by omega)];rw[bits_join .i64 32 (by decide) hw 24 ((a.toNat:Int) * 16777216) ((b.toNat:Int) * 65536) (by omega) (by omega) (by omega) (by omega) (by omega) (by omega)];rw[bits_join .i64 32 (by decide) hw 16 ((a.toNat:Int) * 16777216+(b.toNat:Int) * 65536) ((c.toNat:Int) * 256) (by omega) (by omega) (by omega) (by omega) (by omega) (by omega)];rw[bits_join .i64 32 (by decide) hw 8 ((a.toNat:Int) * 16777216+(b.toNat:Int) * 65536+(c.toNat:Int) * 256) (d.toNat:Int) (by omega) (by omega) (by omega) (by omega) (by omega) (by omega)]
attribute [local irreducible] Yg Cl
def x04(s:List UInt8)(hs:s.length<=1000000000):PC prog 117 [.str s,.fn (.func 118) [] []] (λr=>r= .tup [avSnp (Q5 s).1,.i (Q5 s).2]):=by
 refine pcB func117 results117 ntmps117 ?_;simp only[Qf];obtain⟨R,hR⟩:∃R,Q5 s=R:=⟨_,rfl⟩
 rw[hR];rw[Q5,Hx,Jq]at hR;repeat(refine s_ ?_;simp)
 refine Sz 0 rfl (by simp) ?_;simp;refine Sz 1 rfl (by simp) ?_;simp;by_cases h1:1048576<s.length
 ·rw[if_pos h1]at hR;refine Qb rfl (λh=>?_) (λh=>by simp at h;omega);repeat(refine s_ ?_;simp)
  rw[if_pos (by simp)]at hR;rw[<-hR];simp[Uy]
 rw[if_neg h1]at hR;refine Qb rfl (λh=>by simp at h;omega) (λh=>?_);repeat(refine s_ ?_;simp)
 by_cases h2:s.length<4
 ·rw[if_pos h2]at hR;have hw:IntKind.i64.wrap ((s.length:Int) - 4)=s.length - 4:=wrap_i64 _ (by omega) (by omega);refine Qb rfl (λh=>?_) (λh=>by rw[hw]at h;simp at h;omega);repeat(refine s_ ?_;simp)
  rw[if_pos (by simp)]at hR;rw[<-hR];simp[Uy]
 rw[if_neg h2]at hR;obtain⟨n,hn⟩:∃n,s.length=n+4:=⟨s.length - 4,by omega⟩
 have hw:IntKind.i64.wrap ((s.length:Int) - 4)=n:=by rw[wrap_i64 _ (by omega) (by omega)];omega
 refine Qb rfl (λh=>by rw[hw]at h;simp at h;omega) (λh=>?_);rw[show s.length - 4=n by omega]at hR;have ze:s[n]?=some (s[n]'(by omega)):=zG _;have zf:s[n+1]?=some (s[n+1]'(by omega)):=zG _;have zg:s[n+2]?=some (s[n+2]'(by omega)):=zG _;have zh:s[n+3]?=some (s[n+3]'(by omega)):=zG _;have zi:s.drop n=[s[n]'(by omega),s[n+1]'(by omega),s[n+2]'(by omega),s[n+3]'(by omega)]:=by rw[yU (by omega),yU (by omega),yU (by omega),yU (by omega),List.drop_eq_nil_of_le (by omega)]
 generalize s[n]'(by omega)=c0 at *
 generalize s[n+1]'(by omega)=c1 at *
 generalize s[n+2]'(by omega)=c2 at *
 generalize s[n+3]'(by omega)=c3 at *
 rw[zi]at hR;have w1:=wz n (by omega);have w2:IntKind.i64.wrap ((n:Int)+2)=n+2:=wrap_i64 _ (by omega) (by omega);have w3:IntKind.i64.wrap ((n:Int)+3)=n+3:=wrap_i64 _ (by omega) (by omega);have l0:(n:Int)<s.length:=by omega
 have l1:(n:Int)+1<s.length:=by omega
 have l2:(n:Int)+2<s.length:=by omega
 have l3:(n:Int)+3<s.length:=by omega
 have b1:(0:Int)<=(n:Int)+1:=by omega
 have b2:(0:Int)<=(n:Int)+2:=by omega
 have b3:(0:Int)<=(n:Int)+3:=by omega
 have t1:((n:Int)+1).toNat=n+1:=by omega
 have t2:((n:Int)+2).toNat=n+2:=by omega
 have t3:((n:Int)+3).toNat=n+3:=by omega
 repeat(refine s_ ?_;simp[hw])
 refine Qw tOk mixed [] (.val 0 (.val 1 (.val 2 (.val 3 (.val 4 (.val 5 (.val 6 (.val 7 (.val 8 (.val 9 (.val 10 (.val 11 (.val 12 (.val 13 (.val 14 (.val 15 (.val 16 (.val 17 (.val 18 (.val 19 (.val 20 (.val 21 (.val 22 (.val 23 (.val 24 (.val 25 (.done))))))))))))))))))))))))))) rfl (by kernel_rfl) ?_;simp[hw,w1,w2,w3,l0,l1,l2,l3,ze,zf,zg,zh,b1,b2,b3,t1,t2,t3];refine Qo (sl':=[(0,.str s),(1,.fn (.func 118) [] []),(4,.vptr 0 0),(5,.i 0),(6,.vptr 1 0),(7,.i n),(8,.i ((c0.toNat:Int) * 16777216+c1.toNat * 65536+c2.toNat * 256+c3.toNat))]) ?_ (by simp[x17]);have zd:(n:Int)<=s.length:=by omega
 have z8:n<=s.length:=by omega
 repeat(refine s_ ?_;simp[zd,z8])
 refine pcL (Fw (s.take n) (by simp;omega)) ?_;simp;have zj:=Jr (s.take n);have za:=j0q _ zj c0 c1 c2 c3;repeat(refine s_ ?_;simp)
 by_cases he:Cl (Yg (s.take n))=[c0,c1,c2,c3]
 ·have hz:=za.1 he;have ho:(if Cl (Yg (s.take n))≠[c0,c1,c2,c3]then(⟨[],26⟩:Dc)else⟨s.take n,0⟩)=⟨s.take n,0⟩:=if_neg (λh=>h he);rw[ho]at hR;rw[if_neg (λh=>h rfl)]at hR;refine Qb rfl (λh=>by rw[hz]at h;simp at h) (λh=>?_);repeat(refine s_ ?_;simp[zd,z8])
  refine Qd rfl rfl (Xi _ 2 ⟨s.take n,0⟩ rfl (by simp;omega)) rfl ?_;rintro _ G ⟨rfl,k1,f1⟩;have r0:=f1.kd (j:=0) (x:= .vars [.i 0,.list [],.list []]) rfl (by decide);have r1:=f1.kd (j:=1) (x:= .vars [.i 0,.list [],.list []]) rfl (by decide);have hl:=f1.1;simp at hl;generalize (pH.snp ⟨s.take n,0⟩).1=v at *;generalize (pH.snp ⟨s.take n,0⟩).2=d at *
  simp;repeat(refine s_ ?_;simp)
  obtain⟨K,hK⟩:∃K,G.length=K:=⟨_,rfl⟩
  obtain⟨G1,z1⟩:∃G1,G++[AObj.vars [.i v.number,.list (v.readers.map avRdr),.list (v.operators.map avOpr)]]=G1:=⟨_,rfl⟩
  have q1:G1[2]?=some (dX d):=by rw[<-z1];exact Qc k1 _
  have q0:G1[0]?=some (.vars [.i 0,.list [],.list []]):=by rw[<-z1];exact Qc r0 _
  have q2:G1[1]?=some (.vars [.i 0,.list [],.list []]):=by rw[<-z1];exact Qc r1 _
  have q3:G1[K]?=some (.vars [.i v.number,.list (v.readers.map avRdr),.list (v.operators.map avOpr)]):=by rw[<-z1,<-hK];simp
  have zm:G1.length=K+1:=by rw[<-z1,<-hK];simp
  rw[z1,hK];have zb:G1[2]?=some (.vars [.str d.s,.i d.e]):=q1;simp[zb];by_cases hds:d.s=[]
  ·refine Qb rfl (λh=>by simp[hds]at h) (λh=>?_);repeat(refine s_ ?_;simp[zb])
   by_cases hde:d.e=0
   ·refine Qb rfl (λh=>by simp[hde]at h) (λh=>?_);rw[if_neg (λh=>h hde),if_neg (λh=>h hds)]at hR;have g0:∀y,(G1.set 0 y)[0]?=some y:=λy=>Qe q0 y;repeat(refine s_ ?_;simp[q3,q0,g0])
    rw[<-hR];exact⟨⟨rfl,rfl,rfl⟩,rfl⟩
   refine Qb rfl (λh=>?_) (λh=>by simp[hde]at h);rw[if_pos hde]at hR;have g0:∀y,(G1.set 0 y)[0]?=some y:=λy=>Qe q0 y;have g2:∀y,(G1.set 0 y)[2]?=some (.vars [.str d.s,.i d.e]):=λy=>Qa (by decide) zb y;repeat(refine s_ ?_;simp)
   refine Qw tOk mixed [5] (.val 0 (.val 1 (.val 2 (.val 3 (.two 4 (.one 5 (.val 6 (.done))) 5 (.val 4 (.val 6 (.done)))))))) rfl (by kernel_rfl) ?_;simp[zb,q0,q2,g0,g2];repeat(refine s_ ?_;simp[g0])
   rw[<-hR];simp[Uy]
  refine Qb rfl (λh=>?_) (λh=>by simp[hds]at h);repeat(refine s_ ?_;simp)
  refine Qd rfl rfl (Ww G1 2 d 3 q1) rfl ?_;rintro _ _ ⟨rfl,rfl⟩;have zk:(d.fail 3).e≠0:=Wy (by decide);have zl:(Uy,(d.fail 3).e)=R:=by
   rw[<-hR];unfold Dc.fail;by_cases hde:d.e=0
   ·rw[if_pos hde,if_neg (λh=>h hde),if_pos hds]
   rw[if_neg hde,if_pos hde]
  clear hR;have p1:=Qe q1 (dX (d.fail 3));have p0:=Qa (j:=2) (by decide) q0 (dX (d.fail 3));have p2:=Qa (j:=2) (by decide) q2 (dX (d.fail 3));generalize G1.set 2 (dX (d.fail 3))=G2 at *;generalize d.fail 3=d2 at *
  have zc:G2[2]?=some (.vars [.str d2.s,.i d2.e]):=p1;simp[zc];repeat(refine s_ ?_;simp[zc])
  refine Qb rfl (λh=>?_) (λh=>by simp[zk]at h);have g0:∀y,(G2.set 0 y)[0]?=some y:=λy=>Qe p0 y;have g2:∀y,(G2.set 0 y)[2]?=some (.vars [.str d2.s,.i d2.e]):=λy=>Qa (by decide) zc y;repeat(refine s_ ?_;simp)
  refine Qw tOk mixed [5] (.val 0 (.val 1 (.val 2 (.val 3 (.two 4 (.one 5 (.val 6 (.done))) 5 (.val 4 (.val 6 (.done)))))))) rfl (by kernel_rfl) ?_;simp[zc,p0,p2,g0,g2];repeat(refine s_ ?_;simp[g0])
  rw[<-zl];simp[Uy]
 have ho:(if Cl (Yg (s.take n))≠[c0,c1,c2,c3]then(⟨[],26⟩:Dc)else⟨s.take n,0⟩)=⟨[],26⟩:=if_pos he;rw[ho]at hR;rw[if_pos (by simp)]at hR;have hz:¬((Yg (s.take n):Nat):Int)=(c0.toNat:Int) * 16777216+c1.toNat * 65536+c2.toNat * 256+c3.toNat:=λh=>he (za.2 h);refine Qb rfl (λh=>?_) (λh=>by exfalso;apply hz;simpa using h);repeat(refine s_ ?_;simp)
 rw[<-hR];simp[Uy]
def Xk(s:List UInt8)(hs:s.length<=1000000000):PC prog 84 [.str s] (λr=>r= .tup [avSnp (Q5 s).1,.i (Q5 s).2]):=by
 refine pcB func84 results84 ntmps84 ?_;simp only[Qf];repeat(refine s_ ?_;simp)
 refine pcL (x04 s hs) ?_;simp;repeat(refine s_ ?_;simp)
end
end Go.Abs
namespace Go.Proofs
open Go.Shelf
def Tryz.lays189_ren:Go.Shelf.Ren:=⟨λ|189=>76|125=>111|257=>110|128=>151|129=>152|294=>142|295=>143|296=>144|297=>145|298=>146|299=>147|216=>148|300=>149|301=>150|328=>184|329=>185|330=>186|331=>187|332=>188|215=>119|343=>214|n=>n,λ|28=>23|3=>3|46=>193|0=>0|51=>242|53=>244|4=>4|183=>235|182=>234|131=>129|5=>5|9=>9|218=>273|222=>277|228=>308|229=>157|n=>n,λ|n=>n⟩
def Tryz.lays189:Go.Proofs.Lays.n189 prog Tryz.lays189_ren:={
 mixed:=by kernel_rfl
 f125:=func111.trans (congrArg some (by kernel_rfl))
 f128:=func151.trans (congrArg some (by kernel_rfl))
 f129:=func152.trans (congrArg some (by kernel_rfl))
 f189:=func76.trans (congrArg some (by kernel_rfl))
 f215:=func119.trans (congrArg some (by kernel_rfl))
 f216:=func148.trans (congrArg some (by kernel_rfl))
 f257:=func110.trans (congrArg some (by kernel_rfl))
 f294:=func142.trans (congrArg some (by kernel_rfl))
 f295:=func143.trans (congrArg some (by kernel_rfl))
 f296:=func144.trans (congrArg some (by kernel_rfl))
 f297:=func145.trans (congrArg some (by kernel_rfl))
 f298:=func146.trans (congrArg some (by kernel_rfl))
 f299:=func147.trans (congrArg some (by kernel_rfl))
 f300:=func149.trans (congrArg some (by kernel_rfl))
 f301:=func150.trans (congrArg some (by kernel_rfl))
 f328:=func184.trans (congrArg some (by kernel_rfl))
 f329:=func185.trans (congrArg some (by kernel_rfl))
 f330:=func186.trans (congrArg some (by kernel_rfl))
 f331:=func187.trans (congrArg some (by kernel_rfl))
 f332:=func188.trans (congrArg some (by kernel_rfl))
 f343:=func214.trans (congrArg some (by kernel_rfl))
 t0:=underlying0
 a0:=isAgg0
 z0:=sizeOf0
 v0:=zeroValue0
 t3:=underlying3
 a3:=isAgg3
 z3:=sizeOf3
 v3:=zeroValue3
 t4:=underlying4
 a4:=isAgg4
 z4:=sizeOf4
 v4:=zeroValue4
 t5:=underlying5
 a5:=isAgg5
 z5:=sizeOf5
 v5:=zeroValue5
 t9:=underlying9
 a9:=isAgg9
 z9:=sizeOf9
 v9:=zeroValue9
 t28:=underlying23
 a28:=isAgg23
 z28:=sizeOf23
 v28:=zeroValue23
 t46:=underlying193
 a46:=isAgg193
 z46:=sizeOf193
 v46:=zeroValue193
 t51:=underlying242
 a51:=isAgg242
 z51:=sizeOf242
 v51:=zeroValue242
 t53:=underlying244
 a53:=isAgg244
 z53:=sizeOf244
 v53:=zeroValue244
 t131:=underlying129
 a131:=isAgg129
 z131:=sizeOf129
 v131:=zeroValue129
 t182:=underlying234
 a182:=isAgg234
 z182:=sizeOf234
 v182:=zeroValue234
 t183:=underlying235
 a183:=isAgg235
 z183:=sizeOf235
 v183:=zeroValue235
 t218:=underlying273
 a218:=isAgg273
 z218:=sizeOf273
 v218:=zeroValue273
 t222:=underlying277
 a222:=isAgg277
 z222:=sizeOf277
 v222:=zeroValue277
 t228:=underlying308
 a228:=isAgg308
 z228:=sizeOf308
 v228:=zeroValue308
 t229:=underlying157
 a229:=isAgg157
 z229:=sizeOf157
 v229:=zeroValue157 }
open Go.Sort Go.RowKit in
def Tryz.slices_Sort_int(z1 off cap:Nat)(zs:List Int)(w:World)(hH:Holds (Value.int .i64) w z1 off zs.toArray)(hblk:z1<w.heap.size)(z8:zs.length<4611686018427387904):
  Calls prog 76 #[.slice (some ⟨z1,off,none⟩) zs.length cap] w λe w'=>
   e= .returned (.tuple #[])/\∃n os,w'=grow (putRow (Value.int .i64) (Sort.ahead w n) z1 off (zs.mergeSort λx y=>decide (x<=y)).toArray) os:=Any.slices_Sort_int Tryz.lays189 z1 off cap zs w hH hblk z8
open Go.RowKit Go.Sort in
def Tryz.slices_Sort_int_none(p:Option Addr)(cap:Nat)(w:World):
  Calls prog 76 #[.slice p 0 cap] w λe w'=>e= .returned (.tuple #[])/\w'=w:=Any.slices_Sort_int_none Tryz.lays189 p cap w
end Go.Proofs
namespace Go.Abs
open Go Go.Proofs
section
open Go.RowKit Go.Shelf Go.Lib Go.Sort
def Fm(zs:List Int):List Int:=zs.mergeSort λx y=>decide (x<=y)
def Dm(zs:List Int):(Fm zs).length=zs.length:=by simp[Fm]
def Ny(H:List AObj)(p:Nat)(zs:List Int)(hp:H[p]?=some (.arr 3 1 (zs.map (AV.int .i64))))(hl:zs.length<=1000000):
  FC prog 76 [.sl p 1 0 zs.length] H (λr H'=>r= .tup []/\H'=H.set p (.arr 3 1 ((Fm zs).map (AV.int .i64)))):=by
 refine(y1i (xs:=zs.map (AV.int .i64)) (rest:=[]) (Oa func76 rfl rfl) (by simp) hp (k1n zs) [] (λw I m vs a b=>by simpa using a) (λz1=>z1=(Fm zs).map (AV.int .i64)) ?_ ?_).mono ?_
 ·intro b cap w hH hb hc;have:=Tryz.slices_Sort_int b 0 cap zs w (w09 hH) hb (by omega);refine Calls.mono (by simpa using this) ?_;rintro e w' ⟨rfl,n,os,rfl⟩;exact⟨rfl,_,((Fm zs).map (Value.int .i64)).toArray,n,os,rfl,by simp[Dm],k1n _,by rw[Ni];rfl⟩
 ·rintro h;have z8:zs=[]:=by simpa using h
  subst z8;exact⟨by simp[Fm],λw=>by simpa using Tryz.slices_Sort_int_none none 0 w⟩
 rintro r H' ⟨rfl,z1,rfl,rfl⟩;exact⟨rfl,rfl⟩
end
section
def q09(f:File):Option Int:=if(Ra Cp f.name).2=true then some (Ra Cp f.name).1 else none
def Tt(fs:List File):List Int:=fs.filterMap q09
def Wj(d:Disk):List Int:=Fm (Tt d.files)
def y0w(fs:List File)(j:Nat)(h:j<fs.length):Tt (fs.take (j+1))=Tt (fs.take j)++(q09 fs[j]).toList:=by rw[Tt,yI h,List.filterMap_append];cases h2:q09 fs[j]<;>simp[Tt,h2]
def Vj(fs:List File):(Tt fs).length<=fs.length:=List.length_filterMap_le _ _
def NL(fs:List File):Prop:=fs.length<=100000/\∀f∈fs,f.name.length<=1000000000
attribute [local irreducible] Ra
def Hq(d:Disk)(hn:NL d.files):PC prog 43 [encD d] (λr=>r= .list ((Wj d).map encI)):=by
 refine pcB func43 results43 ntmps43 ?_;simp only[Qf];simp only[encD];obtain⟨R,hR⟩:∃R,Wj d=R:=⟨_,rfl⟩
 rw[hR];rw[Wj]at hR;obtain⟨zj,zf⟩:=hn;generalize d.files=fs at *
 repeat(refine s_ ?_;simp)
 refine W4 3 3 1 rfl ?_;simp;refine Qk (Qg (sl':=[(3,.sl 1 1 0 0),(9,.list (fs.map encFl)),(10,.i fs.length),(11,.i 0)]) ?_ (by simp));refine Qp (P:=prog) (F:=λ(u:Nat×Nat×List AObj)=>⟨[(3,.sl u.2.1 1 0 (Tt (fs.take u.1)).length),(9,.list (fs.map encFl)),(10,.i fs.length),(11,.i u.1)],u.2.2⟩)
  (λu=>u.1<=fs.length/\u.2.2[u.2.1]?=some (.arr 3 1 ((Tt (fs.take u.1)).map (AV.int .i64)))) (λu=>fs.length - u.1) ?_ (0,1,_) ⟨yO _,by simp[Tt]⟩
 rintro⟨j,p,G⟩ ⟨g1,g2⟩ ih;simp only at g1 g2 ih |-;repeat(refine s_ ?_;simp)
 refine Qb rfl (λh=>?_) (λh=>?_)
 ·have z8:j<fs.length:=by simpa using h
  have hw1:=wz j (by omega);have z1:=y0w fs j z8;have za:=Vj (fs.take j);rw[List.length_take]at za;have zg:=zf fs[j] (yB z8);have zd:=ih;repeat(refine s_ ?_;simp[z8])
  generalize fs[j]=f at *;refine pcL (w07 f.name zg) ?_
  simp;by_cases hb:(Ra Cp f.name).2=true
  ·have zb:q09 f=some (Ra Cp f.name).1:=by rw[q09,if_pos hb]
   rw[zb]at z1;generalize (Ra Cp f.name).1=n at *;generalize Tt (fs.take j)=zs at *
   have ze:zs.length<=100000:=by omega
   simp[hb];repeat(refine s_ ?_;simp)
   refine Qb rfl (λh=>?_) (λh=>by simp[hb]at h);obtain⟨G1,zc⟩:∃G1,G++[AObj.vars [.str f.name,.str f.dur,.str f.vol]]=G1:=⟨_,rfl⟩
   have zk:G1.length=G.length+1:=by rw[<-zc];simp
   have b6:∀A:AObj,(G1++[A])[p]?=some (.arr 3 1 (zs.map (AV.int .i64))):=λA=>Qc (by rw[<-zc];exact Qc g2 _) _;rw[zc];repeat(refine s_ ?_;simp)
   refine apS T23 T3 ?_;simp[b6,ze];refine⟨by simp[Em,b6,ze]<;>omega,?_⟩;repeat(refine s_ ?_;simp[hw1])
   have key:=zd (j+1,G1.length+1,(G1++[AObj.arr 3 1 [.i n]]).set p .dead++[AObj.arr 3 1 ((zs++[n]).map (AV.int .i64))]) ⟨z8,by rw[z1];exact Ym ..⟩ (by simp only;omega);rw[z1]at key;simp at key;exact Qg key (by simp)
  have zb:q09 f=none:=by rw[q09,if_neg hb]
  rw[zb]at z1;simp[hb];repeat(refine s_ ?_;simp)
  refine Qb rfl (λh=>by simp[hb]at h) (λh=>?_);repeat(refine s_ ?_;simp[hw1])
  have key:=zd (j+1,p,G++[AObj.vars [.str f.name,.str f.dur,.str f.vol]]) ⟨z8,by rw[z1];simp only[Option.toList,List.append_nil];exact Qc g2 _⟩ (by simp only;omega);rw[z1]at key;simp at key;exact Qg key (by simp)
 have zh:j=fs.length:=by simp at h;omega
 subst zh;rw[yV]at *
 have za:=Vj fs;have gs:∀y,(G.set p y)[p]?=some y:=λy=>Qe g2 y;repeat(refine s_ ?_;simp)
 refine Qd rfl rfl (Ny G p _ g2 (by omega)) rfl ?_;rintro _ _ ⟨rfl,rfl⟩;simp;repeat(refine s_ ?_;simp[gs])
 rw[hR];have zi:(Tt fs).length=R.length:=by rw[<-hR,Dm]
 exact⟨by omega,by rw[zi,zY (by simp)];rfl⟩
def Cq(d:Disk):List Int×Int:=if Wc d≠0 then([],Wc d)else(Wj d,0)
attribute [local irreducible] Wc Wj
def k0l(d:Disk)(hn:Wc d=0->NL d.files):PC prog 20 [encD d] (λr=>r= .tup [.list ((Cq d).1.map encI),.i (Cq d).2]):=by
 refine pcB func20 results20 ntmps20 ?_;simp only[Qf];simp only[encD];obtain⟨R,hR⟩:∃R,Cq d=R:=⟨_,rfl⟩
 rw[hR];rw[Cq]at hR;repeat(refine s_ ?_;simp)
 refine pcL (y0v d) ?_;simp;repeat(refine s_ ?_;simp)
 by_cases hc:Wc d=0
 ·rw[if_neg (λh=>h hc)]at hR;refine Qb rfl (λh=>by simp[hc]at h) (λh=>?_);repeat(refine s_ ?_;simp)
  refine pcL (Hq d (hn hc)) ?_;simp;repeat(refine s_ ?_;simp)
  rw[<-hR];exact⟨rfl,rfl⟩
 rw[if_pos hc]at hR;refine Qb rfl (λh=>?_) (λh=>by simp[hc]at h);repeat(refine s_ ?_;simp)
 rw[<-hR];simp
end
section
attribute [simp] k15
def y0b(d:Disk):PC prog 83 [encD d] (λr=>r= .fn (.func 114) [] [.iptr [.list (d.files.map encFl),.i d.space]]):=by refine pcB func83 results83 ntmps83 ?_;simp only[Qf];simp only[encD];repeat(refine s_ ?_;simp)
def Cc(l:List Int):PC prog 115 [.list (l.map encI)] (λr=>r= .fn (.func 154) [] [.iptr [.list (l.map encI)]]):=by refine pcB func115 results115 ntmps115 ?_;simp only[Qf];repeat(refine s_ ?_;simp)
def Sn(d:Disk)(n:Int):List UInt8:=match findF d.files (Rb n) 0 with
 |some i=>(d.files[i]?.map (·.vol)).getD []
 |none=>[]
def Sw(d:Disk):List Int->Option Snp
 |[]=>none
 |n::l=>if(Q5 (Sn d n)).2=0/\(Q5 (Sn d n)).1.number=n then some (Q5 (Sn d n)).1 else Sw d l
def U8(d:Disk):Snp×Int:=if Wc d≠0 then(Uy,Wc d)else match Sw d (Wj d).reverse with
 |some s=>(s,0)
 |none=>(Uy,6)
def Vo:∀(fs:List File) (s:List UInt8) (k:Nat),(∃f∈fs,f.name=s)->∃i,findF fs s k=some (k+i)/\i<fs.length
 |[],_,_,⟨f,hf,_⟩=>by simp at hf
 |g::fs,s,k,⟨f,hf,hs⟩=>by
  rw[findF];by_cases hg:g.name=s
  ·exact⟨0,by rw[if_pos hg];rfl,by simp⟩
  rw[if_neg hg];rcases y_.1 hf with rfl|hf
  ·exact absurd hs hg
  obtain⟨i,h1,h2⟩:=Vo fs s (k+1) ⟨f,hf,hs⟩;exact⟨i+1,by rw[h1];congr 1;omega,by simp;omega⟩
def k0m{fs:List File}{n:Int}(h:n∈Tt fs):1<=n/\n<=1099511627776/\∃f∈fs,f.name=Rb n:=by
 rw[Tt,u9]at h;obtain⟨f,hf,h⟩:=h;rw[q09]at h;split at h
 ·rename_i hc;injection h with h
  have:=Bg (pre:=Cp) (s:=f.name) (v:=n) (by rw[<-h,<-hc]);exact⟨this.1,this.2.1,f,hf,this.2.2⟩
 cases h
def X6{d:Disk}{n:Int}(h:n∈Wj d):1<=n/\n<=1099511627776/\∃i,findF d.files (Rb n) 0=some i/\∃h:i<d.files.length,Sn d n=d.files[i].vol:=by rw[Wj,Fm,ua]at h;obtain⟨h1,h2,h3⟩:=k0m h;obtain⟨i,h4,h5⟩:=Vo d.files (Rb n) 0 h3;rw[Nat.zero_add]at h4;exact⟨h1,h2,i,h4,h5,by rw[Sn,h4];simp[h5]⟩
def VL(fs:List File):Prop:=∀f∈fs,f.vol.length<=1000000000
attribute [local irreducible] Wj Q5 Wc
def j04(d:Disk)(hn:Wc d=0->NL d.files)(hv:Wc d=0->VL d.files):PC prog 46 [encD d] (λr=>r= .tup [avSnp (U8 d).1,.i (U8 d).2]):=by
 refine pcB func46 results46 ntmps46 ?_;simp only[Qf];simp only[encD];obtain⟨R,hR⟩:∃R,U8 d=R:=⟨_,rfl⟩
 rw[hR];rw[U8]at hR;repeat(refine s_ ?_;simp)
 refine pcL (y0v d) ?_;simp;repeat(refine s_ ?_;simp)
 by_cases hc:Wc d=0
 ·rw[if_neg (λh=>h hc)]at hR;refine Qb rfl (λh=>by simp[hc]at h) (λh=>?_);repeat(refine s_ ?_;simp)
  refine pcL (y0b d) ?_;simp;repeat(refine s_ ?_;simp)
  obtain⟨G,hG⟩:∃G,Sw d (Wj d).reverse=G:=⟨_,rfl⟩
  rw[hG]at hR;refine Ez rfl (Rf:=λ_ H'=>3<H'.length/\∃pend sl' z1 a' b',H'[3]?=some (.lp (uv pend) pend 34 sl' z1 a' b')/\
   match G with
   |some s=>pend=some Code.ret/\H'[1]?=some (.vars (Cn s))/\H'[2]?=some (.vars [.i 0])
   |none=>pend=none/\H'[1]?=some (.vars [.i 0,.nils,.nils])/\H'[2]?=some (.vars [.i 0])) ?_ ?_
  ·simp;refine Fy λH1 zb=>?_;have f1:H1[1]?=some (.vars [.i 0,.nils,.nils]):=by rw[zb];rfl
   have f2:H1[2]?=some (.vars [.i 0]):=by rw[zb];rfl
   have f3:=congrArg (λh:List AObj=>h[3]?) zb;simp at f3;have zc:H1.length=4:=by rw[zb];simp
   clear zb;refine fcB func114 results114 ntmps114 ?_;simp only[Qf];repeat(refine s_ ?_;simp)
   refine pcL (Hq d (hn hc)) ?_;simp;refine pcL (Cc (Wj d)) ?_;simp;repeat(refine s_ ?_;simp)
   obtain⟨L3,ze⟩:∃L3,H1[3]? =L3:=⟨_,rfl⟩
   refine Ez rfl (Rf:=λ_ H'=>5<H'.length/\∃pend sl' z1 a' b',H'[5]?=some (.lp (uv pend) pend 30 sl' z1 a' b')/\
    match G with
    |some s=>pend=some Code.ret/\H'[1]?=some (.vars (Cn s))/\H'[2]?=some (.vars [.i 0])/\∃sl' z1 a' b',H'[3]?=some (.lp false (some Code.ret) 34 sl' z1 a' b')
    |none=>pend=none/\H'[1]?=some (.vars [.i 0,.nils,.nils])/\H'[2]?=some (.vars [.i 0])/\H'[3]? =L3) ?_ ?_
   ·simp;refine Fy λH2 za=>?_;have g1:H2[1]?=some (.vars [.i 0,.nils,.nils]):=by rw[za];exact Qc f1 _
    have g2:H2[2]?=some (.vars [.i 0]):=by rw[za];exact Qc f2 _
    have g3:H2[3]? =L3:=by rw[za,<-ze];exact zK (by omega)
    have g4:H2[4]?=some (.vars [.yld 3]):=by rw[za,zF (by omega),zc];rfl
    have g5:=congrArg (λh:List AObj=>h[5]?) za;simp only[zF (show H1.length<=5 by omega),zc]at g5;simp at g5;have zd:H2.length=6:=by rw[za];simp[zc]
    clear za;rw[zc];obtain⟨ns,zg⟩:∃ns,Wj d=ns:=⟨_,rfl⟩
    have zh:∀n∈ns,1<=n/\n<=1099511627776/\∃i,findF d.files (Rb n) 0=some i/\∃h:i<d.files.length,Sn d n=d.files[i].vol:=λn h=>X6 (by rw[zg];exact h);have zp:ns.length<=1000000:=by rw[<-zg,Wj,Dm];have:=Vj d.files;have:=(hn hc).1;omega
    rw[zg]at hG |-;have l3:=ze.symm.trans f3;clear f1 f2 ze f3;refine fcB func154 results154 ntmps154 ?_;simp only[Qf];have zm:IntKind.i64.wrap ((ns.length:Int) - 1)=ns.length - 1:=wrap_i64 _ (by omega) (by omega);repeat(refine s_ ?_;simp[zm])
    refine Qk (Qg (sl':=[(0,.yld 5),(1,.iptr [.list (ns.map encI)]),(3,.i ((ns.length:Int) - 1))]) ?_ (by simp));refine Qp (P:=prog) (F:=λ(u:Nat×List AObj)=>⟨[(0,.yld 5),(1,.iptr [.list (ns.map encI)]),(3,.i ((u.1:Int) - 1))],u.2⟩)
     (λu=>u.1<=ns.length/\Sw d (ns.take u.1).reverse=G/\u.2[1]?=some (.vars [.i 0,.nils,.nils])/\u.2[2]?=some (.vars [.i 0])/\u.2[3]? =L3/\u.2[4]?=some (.vars [.yld 3])/\u.2[5]? =H2[5]? /\6<=u.2.length) (λu=>u.1) ?_ (ns.length,H2) ⟨zR _,by rw[yV];exact hG,g1,g2,g3,g4,rfl,by simp only;omega⟩
    clear g1 g2 g3 g4 zd;rintro⟨m,K⟩ ⟨k0,kG,k1,k2,k3,k4,k5,k6⟩ ih;simp only at k0 kG k1 k2 k3 k4 k5 k6 ih |-;repeat(refine s_ ?_;simp)
    rcases m with _|m
    ·refine Qb rfl (λh=>by simp at h) (λh=>?_);repeat(refine s_ ?_;simp)
     rw[List.take_zero,um,Sw]at kG;subst kG;rw[g5]at k5;exact⟨by omega,none,⟨_,_,_,_,k5⟩,rfl,k1,k2,k3⟩
    refine Qb rfl (λh=>?_) (λh=>by simp at h;omega);have zi:m<ns.length:=by omega
    have zn:((m+1:Nat):Int) - 1=m:=by omega
    have hw1:IntKind.i64.wrap ((m:Int) - 1)=m - 1:=wrap_i64 _ (by omega) (by omega);rw[yI zi,List.reverse_append,List.reverse_cons,um,List.nil_append,List.singleton_append,Sw]at kG;obtain⟨n1,n2,i,n3,n4,n5⟩:=zh ns[m] (yB zi);rw[zn];repeat(refine s_ ?_;simp[zi])
    generalize ns[m]=n at *
    have zk:=k3.trans l3;have zf:=k5.trans g5;have hvl:(Sn d n).length<=1000000000:=by rw[n5];exact hv hc _ (yB n4)
    have zl:d.files[i]?=some d.files[i]:=zG n4;by_cases hC:(Q5 (Sn d n)).2=0/\(Q5 (Sn d n)).1.number=n
    ·rw[if_pos hC]at kG;subst kG;refine Eu rfl rfl (q:=5) rfl rfl zf rfl rfl rfl (λjm K2=>jm=some Code.ret/\6<=K2.length/\K2[1]?=some (.vars (Cn (Q5 (Sn d n)).1))/\K2[2]?=some (.vars [.i 0])/\∃sl' z1 a' b',K2[3]?=some (.lp false (some Code.ret) 34 sl' z1 a' b')) ?_ ?_
     ·simp[Ry];have e1:(K.set 5 .dead)[1]?=some (.vars [.i 0,.nils,.nils]):=Qa (by decide) k1 _;have e2:(K.set 5 .dead)[2]?=some (.vars [.i 0]):=Qa (by decide) k2 _;have e3:=Qa (j:=5) (by decide) zk .dead;have e4:(K.set 5 .dead)[4]?=some (.vars [.yld 3]):=Qa (by decide) k4 _;have e5:(K.set 5 .dead)[5]?=some .dead:=Qe zf _;have e6:(K.set 5 .dead).length=K.length:=by simp
      generalize K.set 5 .dead=E at *
      have hl:=Lib.itoa_length_le n (by omega) (by omega);have zd:11+(Lib.itoa n).length<=9223372036854775807:=by omega
      have z8:=z1c d (Rb n);rw[n3,Z8]at z8;repeat(refine s_ ?_;simp)
      refine Qw tOk mixed [] (.val 0 (.val 1 (.one 2 (.val 3 (.one 4 (.val 5 (.val 6 (.val 7 (.val 8 (.val 9 (.done))))))))))) rfl (by kernel_rfl) ?_;simp;refine pcL (Av n (by omega) (by omega)) ?_;simp[zd];refine pcL (z8) ?_;simp;repeat(refine s_ ?_;simp)
      have zj:(i:Int)<d.files.length:=by omega
      refine Qw tOk mixed [8] (.val 0 (.val 1 (.val 2 (.val 3 (.val 4 (.val 5 (.val 6 (.val 7 (.one 8 (.val 9 (.done))))))))))) rfl (by kernel_rfl) ?_;simp[e4,n4,zj,zl];rw[<-n5];refine Eu rfl rfl (q:=3) rfl rfl e3 rfl rfl rfl (λjm K3=>jm=some Code.ret/\6<=K3.length/\K3[1]?=some (.vars (Cn (Q5 (Sn d n)).1))/\K3[2]?=some (.vars [.i 0])/\K3[5]?=some .dead) ?_ ?_
      ·simp[Ry];have u1:(E.set 3 .dead)[1]?=some (.vars [.i 0,.nils,.nils]):=Qa (by decide) e1 _;have u2:(E.set 3 .dead)[2]?=some (.vars [.i 0]):=Qa (by decide) e2 _;have u3:(E.set 3 .dead)[3]?=some .dead:=Qe e3 _;have u5:(E.set 3 .dead)[5]?=some .dead:=Qa (by decide) e5 _;have u6:(E.set 3 .dead).length=K.length:=by simp[e6]
       generalize E.set 3 .dead=E2 at *
       repeat(refine s_ ?_;simp)
       refine pcL (Xk (Sn d n) hvl) ?_;simp;generalize (Q5 (Sn d n)).1=sn at *;generalize (Q5 (Sn d n)).2=er at *
       obtain⟨rfl,zo⟩:=hC;repeat(refine s_ ?_;simp)
       have w0:∀A:AObj,(E2++[A])[E2.length]?=some A:=λA=>by simp
       have w1:∀A:AObj,(E2++[A])[1]?=some (.vars [.i 0,.nils,.nils]):=λA=>Qc u1 _;have w2:∀A:AObj,(E2++[A])[2]?=some (.vars [.i 0]):=λA=>Qc u2 _;have w3:∀A y,((E2++[A]).set 1 y)[2]?=some (.vars [.i 0]):=λA y=>Qa (by decide) (w2 A) y;have w4:∀A y z,(((E2++[A]).set 1 y).set 2 z)[1]?=some y:=λA y z=>Qa (by decide) (Qe (w1 A) y) z;have w5:∀A y z,(((E2++[A]).set 1 y).set 2 z)[2]?=some z:=λA y z=>Qe (w3 A y) z;have w6:∀A y z,(((E2++[A]).set 1 y).set 2 z)[3]?=some .dead:=λA y z=>Qa (by decide) (Qa (by decide) (Qc u3 _) y) z;have w7:∀A y z,(((E2++[A]).set 1 y).set 2 z)[5]?=some .dead:=λA y z=>Qa (by decide) (Qa (by decide) (Qc u5 _) y) z;refine Qb rfl (λh=>?_) (λh=>by simp[zo]at h);repeat(refine s_ ?_;simp[w0,w1,w2,w3])
       exact⟨w6 _ _ _,rfl,by simp;omega,w4 _ _ _,w5 _ _ _,w7 _ _ _⟩
      rintro jm K3 ⟨rfl,v1,v2,v3,v4⟩;simp;repeat(refine s_ ?_;simp)
      have v6:3<K3.length:=by omega
      refine Qb rfl (λ_=>?_) (λh=>by cases h);repeat(refine s_ ?_;simp)
      refine⟨Qa (by decide) v4 _,rfl,by simp;omega,Qa (by decide) v2 _,Qa (by decide) v3 _,_,_,_,_,zJ v6⟩
     rintro jm K2 ⟨rfl,p1,p2,p3,s1,s2,s3,s4,p4⟩;simp;have p6:5<K2.length:=by omega
     refine Qb rfl (λ_=>?_) (λh=>by cases h);repeat(refine s_ ?_;simp)
     exact⟨by omega,some .ret,⟨_,_,_,_,zJ p6⟩,rfl,p2,p3,s1,s2,s3,s4,p4⟩
    rw[if_neg hC]at kG;refine Eu rfl rfl (q:=5) rfl rfl zf rfl rfl rfl (λjm K2=>jm=none/\6<=K2.length/\K2[1]?=some (.vars [.i 0,.nils,.nils])/\K2[2]?=some (.vars [.i 0])/\K2[3]? =L3/\K2[4]?=some (.vars [.yld 3])) ?_ ?_
    ·simp[Ry];have e1:(K.set 5 .dead)[1]?=some (.vars [.i 0,.nils,.nils]):=Qa (by decide) k1 _;have e2:(K.set 5 .dead)[2]?=some (.vars [.i 0]):=Qa (by decide) k2 _;have e3:=Qa (j:=5) (by decide) zk .dead;have e4:(K.set 5 .dead)[4]?=some (.vars [.yld 3]):=Qa (by decide) k4 _;have e5:(K.set 5 .dead)[5]?=some .dead:=Qe zf _;have e6:(K.set 5 .dead).length=K.length:=by simp
     generalize K.set 5 .dead=E at *
     have hl:=Lib.itoa_length_le n (by omega) (by omega);have zd:11+(Lib.itoa n).length<=9223372036854775807:=by omega
     have z8:=z1c d (Rb n);rw[n3,Z8]at z8;repeat(refine s_ ?_;simp)
     refine Qw tOk mixed [] (.val 0 (.val 1 (.one 2 (.val 3 (.one 4 (.val 5 (.val 6 (.val 7 (.val 8 (.val 9 (.done))))))))))) rfl (by kernel_rfl) ?_;simp;refine pcL (Av n (by omega) (by omega)) ?_;simp[zd];refine pcL (z8) ?_;simp;repeat(refine s_ ?_;simp)
     have zj:(i:Int)<d.files.length:=by omega
     refine Qw tOk mixed [8] (.val 0 (.val 1 (.val 2 (.val 3 (.val 4 (.val 5 (.val 6 (.val 7 (.one 8 (.val 9 (.done))))))))))) rfl (by kernel_rfl) ?_;simp[e4,n4,zj,zl];rw[<-n5];refine Eu rfl rfl (q:=3) rfl rfl e3 rfl rfl rfl (λjm K3=>jm=none/\6<=K3.length/\K3[1]?=some (.vars [.i 0,.nils,.nils])/\K3[2]?=some (.vars [.i 0])/\K3[5]?=some .dead/\K3[4]?=some (.vars [.yld 3])) ?_ ?_
     ·simp[Ry];have u1:(E.set 3 .dead)[1]?=some (.vars [.i 0,.nils,.nils]):=Qa (by decide) e1 _;have u2:(E.set 3 .dead)[2]?=some (.vars [.i 0]):=Qa (by decide) e2 _;have u3:(E.set 3 .dead)[3]?=some .dead:=Qe e3 _;have u4:(E.set 3 .dead)[4]?=some (.vars [.yld 3]):=Qa (by decide) e4 _;have u5:(E.set 3 .dead)[5]?=some .dead:=Qa (by decide) e5 _;have u6:(E.set 3 .dead).length=K.length:=by simp[e6]
      generalize E.set 3 .dead=E2 at *
      repeat(refine s_ ?_;simp)
      refine pcL (Xk (Sn d n) hvl) ?_;simp;generalize (Q5 (Sn d n)).1=sn at *;generalize (Q5 (Sn d n)).2=er at *
      repeat(refine s_ ?_;simp)
      have w0:∀A:AObj,(E2++[A])[E2.length]?=some A:=λA=>by simp
      repeat(refine s_ ?_;simp[w0])
      refine Qb rfl (λh=>by exfalso;apply hC;simpa only[zX,beq_iff_eq]using h) (λh=>?_);repeat(refine s_ ?_;simp)
      exact⟨Qc u3 _,rfl,by simp;omega,Qc u1 _,Qc u2 _,Qc u5 _,Qc u4 _⟩
     rintro jm K3 ⟨rfl,v1,v2,v3,v4,v5⟩;simp;repeat(refine s_ ?_;simp)
     have v6:3<K3.length:=by omega
     refine Qb rfl (λh=>by cases h) (λ_=>?_);repeat(refine s_ ?_;simp)
     refine⟨Qa (by decide) v4 _,rfl,by simp;omega,Qa (by decide) v2 _,Qa (by decide) v3 _,?_,Qa (by decide) v5 _⟩;rw[l3];exact zJ v6
    rintro jm K2 ⟨rfl,p1,p2,p3,p4,p5⟩;simp;have p6:5<K2.length:=by omega
    refine Qb rfl (λh=>by cases h) (λ_=>?_);repeat(refine s_ ?_;simp[hw1])
    refine Qg (ih (m,K2.set 5 _) ⟨by show m<=ns.length;omega,kG,Qa (by decide) p2 _,Qa (by decide) p3 _,(zI (by decide)).trans p4,Qa (by decide) p5 _,(zJ p6).trans g5.symm,by show 6<=(K2.set 5 _).length;rw[List.length_set];exact p1⟩ (by show m<m+1;omega)) (by simp)
   rintro r H' ⟨hl,pend,sl',z1,a',b',h3,h⟩;have e5:(H1++[AObj.vars [AV.yld 3]]).length=5:=by simp[zc]
   simp only[e5];refine⟨_,pend,30,sl',z1,a',b',h3,?_⟩;have q1:=λx (h:H'[1]?=some x)=>Qa (j:=5) (by decide) h .dead;have q2:=λx (h:H'[2]?=some x)=>Qa (j:=5) (by decide) h .dead;have q3:=λx (h:H'[3]?=some x)=>Qa (j:=5) (by decide) h .dead;have ql:3<(H'.set 5 .dead).length:=by simp;omega
   generalize H'.set 5 .dead=K at *
   cases G with
   |some s=>
    obtain⟨rfl,h1,h2,s1,s2,s3,s4,h4⟩:=h;simp only;repeat(refine s_ ?_;simp)
    exact⟨ql,some .ret,⟨_,_,_,_,q3 _ h4⟩,rfl,q1 _ h1,q2 _ h2⟩
   |none=>obtain⟨rfl,h1,h2,h4⟩:=h;rw[ze.symm.trans f3]at h4;simp only;refine P4 ?_;refine⟨.inr rfl,_,rfl,ql,none,⟨_,_,_,_,q3 _ h4⟩,rfl,q1 _ h1,q2 _ h2⟩
  rintro r H' ⟨hl,pend,sl',z1,a',b',h3,h⟩;refine⟨_,pend,34,sl',z1,a',b',h3,?_⟩;cases G with
  |some s=>
   obtain⟨rfl,h1,h2⟩:=h;simp only at hR |-;have q1:(H'.set 3 .dead)[1]?=some (.vars (Cn s)):=Qa (by decide) h1 _;have q2:(H'.set 3 .dead)[2]?=some (.vars [.i 0]):=Qa (by decide) h2 _;rw[Cn]at q1;repeat(refine s_ ?_;simp[q1,q2])
   rw[<-hR];exact⟨⟨rfl,rfl,rfl⟩,rfl⟩
  |none=>
   obtain⟨rfl,h1,h2⟩:=h;simp only at hR |-;refine P4 (K8 ?_);have q1:(H'.set 3 .dead)[1]?=some (.vars [.i 0,.nils,.nils]):=Qa (by decide) h1 _;have q2:(H'.set 3 .dead)[2]?=some (.vars [.i 0]):=Qa (by decide) h2 _;generalize H'.set 3 .dead=K at *
   have q3:∀y,(K.set 1 y)[2]?=some (.vars [.i 0]):=λy=>Qa (by decide) q2 y;have q4:∀y z,((K.set 1 y).set 2 z)[1]?=some y:=λy z=>Qa (by decide) (Qe q1 y) z;have q5:∀y z,((K.set 1 y).set 2 z)[2]?=some z:=λy z=>Qe (q3 y) z;repeat(refine s_ ?_;simp[q1,q2,q3,q4,q5])
   rw[<-hR];simp[Uy]
 rw[if_pos hc]at hR;refine Qb rfl (λh=>?_) (λh=>by simp[hc]at h);repeat(refine s_ ?_;simp)
 rw[<-hR];simp[Uy]
end
section
attribute [local irreducible] Ra Wc v06 Jf Wx
end
section
attribute [local irreducible] Ra Wc
end
def nm9:List UInt8:=[99,104,101,99,107,112,111,105,110,116,45,57]
def k1h:List UInt8:=[99,104,101,99,107,112,111,105,110,116,45,49,48]
def by9:List UInt8:=[18,2,0,54,0,0,0,0,0,64,224,128,49]
def v13:List UInt8:=[20,2,0,60,0,0,0,0,0,230,212,111,173]
def u1l:List UInt8:=[20,2,0,60,0,0,0,0,0,230,212,111,172]
def dkA:Disk:=⟨[⟨nm9,by9,by9⟩],500⟩
def dkB:Disk:=⟨[⟨k1h,v13,v13⟩,⟨nm9,by9,by9⟩],500⟩
def dkX:Disk:=⟨[⟨k1h,v13,u1l⟩,⟨nm9,by9,by9⟩],500⟩
section
attribute [local simp] dkA dkB dkX
end
section
def w19{d:Disk}(h:Wc d=0):NL d.files:=by have g:=Ew.1 h;refine⟨by have:=g.len;omega,λf hf=>?_⟩;have:=g.names f hf;unfold E3 at this;simp at this;omega
attribute [local irreducible] Wc U5
end
section
def BD(fs:List File):Prop:=∀f∈fs,f.dur.length<=140737488355328/\f.vol.length<=140737488355328
def Vh(fs:List File)(f:File)(g:File->Nat):((Tx fs f).map g).sum<=(fs.map g).sum+g f:=by
 unfold Tx;split
 ·rename_i h;have z1:=W8 h;rw[List.map_set];have:=c0v (fs.map g) (lb fs f.name) (g f) (by simpa using z1);omega
 unfold Wb;have:=congrArg List.sum (congrArg (List.map g) (List.take_append_drop (lb fs f.name) fs));simp only[List.map_append,List.sum_append,List.map_cons,xH]at this |-;omega
def Fu{fs:List File}{f:File}(h:BD fs)(hf:f.dur.length<=140737488355328/\f.vol.length<=140737488355328):BD (Tx fs f):=λg hg=>by
 rcases Yt hg with rfl|hg
 ·exact hf
 exact h g hg
def Dj{d:Disk}(h:Good d)(hb:BD d.files){x:File}(hx:x∈d.files){t:List UInt8}(ht:E3 t=true)(ze:x.name≠t):
  Rg d x.name t=(⟨Tx (Wv d x.name).files { x with name:=t },d.space⟩,0)/\Good ⟨Tx (Wv d x.name).files { x with name:=t },d.space⟩:=by
 obtain⟨i,z8,hi,hf⟩:=Ud h.sorted hx;have hF:Wq (Wv d x.name).files:=h.sorted.filter _;constructor
 ·rw[Nw,Jf,Yl (Ew.2 h),if_pos (h.names x hx),if_pos rfl,if_pos ht,hf];simp only;have za:d.files[i]! =x:=by have:=(zD.1 hi).2;simp[z8,this]
  rw[za,Pe hF];rfl
 have hlen:=Ft h hf;have zb:=Ye (Wv d x.name).files { x with name:=t };have zf:=h.len;have z1:∀g:File->Nat,g { x with name:=t }=g x->((Tx (Wv d x.name).files { x with name:=t }).map g).sum<=(d.files.map g).sum:=λg hg=>by have q1:=Kc d.files g x.name x hx rfl;have q2:=Vh (Wv d x.name).files { x with name:=t } g;have q3:((Wv d x.name).files.map g).sum+g x<=(d.files.map g).sum:=q1;omega
 have zc:Aw d.files<=9223372036854775807:=yD (Ir d.files _ 140737488355328 256 (by omega) (λf hf=>(hb f hf).2)) (by decide);have zd:A0 d.files<=9223372036854775807:=yD (Ir d.files _ 140737488355328 256 (by omega) (λf hf=>(hb f hf).1)) (by decide);refine⟨h.sp,?_,Oy hF _,λf hf=>?_,u1z (z1 (·.vol.length) rfl) zc h.vol,u1z (z1 (·.dur.length) rfl) zd h.dur⟩
 ·simp only;omega
 rcases Yt hf with rfl|hf
 ·exact ht
 exact h.names f (Us.1 hf).1
def N7{c:UInt8}(h:q1d c=true):Yw c.toNat=true:=by unfold q1d at h;unfold Yw;simp at h |-;omega
def Hm{n:Int}(h:W1 n=0):(Lib.itoa n).all (λc=>Yw c.toNat)=true/\(Lib.itoa n).length<=30:=by have h2:=(Tk n).1 h;refine⟨?_,by have:=Lib.itoa_length_le n (by omega) (by omega);omega⟩;rw[k08 (by omega)];have:=x0c n.toNat;rw[List.all_eq_true]at this |-;exact λc hc=>N7 (this c hc)
def Bv{n:Int}(h:W1 n=0):E3 (Rb n)=true:=by obtain⟨h1,h2⟩:=Hm h;unfold E3 Rb Cp;rw[vE,h1];simp[Yw];omega
def u0y{n:Int}(h:W1 n=0):E3 (Wx n)=true:=by obtain⟨h1,h2⟩:=Hm h;unfold E3 Wx x1y;rw[vE,h1];simp[Yw];omega
def Ld(n m:Int):Wx n≠Rb m:=by unfold Wx Rb x1y Cp;intro h;simp at h
attribute [local irreducible] Qt
def Am{d:Disk}{s:Snp}(h:Good d)(z8:(Yx d s).2=0):W1 s.number=0/\(Qt s).2=0/\
  ∃f:File,f.name=Wx s.number/\f.vol=(Qt s).1/\f.dur=(Kj d (Wx s.number)).dur/\Yx d s=(⟨Tx d.files f,d.space⟩,0)/\Good ⟨Tx d.files f,d.space⟩:=by
 have hc:=Ew.2 h;have za:Yx d s=if(wrS s d).2≠0 then(W7,(wrS s d).2)else((wrS s d).1,0):=by unfold Yx Ts;rw[if_neg (λh=>h hc)];rfl
 rw[za]at z8 |-;by_cases hw:(wrS s d).2≠0
 ·rw[if_pos hw]at z8;exact absurd z8 hw
 rw[if_neg hw]at z8 |-;have z1:(wrS s d).2=0:=by simpa using hw
 unfold wrS at z1 |-;by_cases hv:W1 s.number=0
 ·rw[if_neg (λh=>h hv)]at z1 |-;by_cases he:(Qt s).2=0
  ·rw[if_neg (λh=>h he)]at z1 |-;obtain⟨_,f,k1,k2,k3,k4,k5⟩:=Zq h z1;exact⟨hv,he,f,k1,k2,k3,by rw[k4],k5⟩
  rw[if_pos he]at z1;exact absurd z1 he
 rw[if_pos hv]at z1;exact absurd z1 hv
def Cw{a:Disk}{n:Int}(h:Good a)(hb:BD a.files)(hv:W1 n=0){f:File}(hf:f∈a.files)(hn:f.name=Wx n):(U5 a n).2=27\/
  ∃b:Disk,b=⟨Tx a.files { f with dur:=f.vol },a.space⟩/\Good b/\U5 a n=(⟨Tx (Wv b (Wx n)).files ⟨Rb n,f.vol,f.vol⟩,a.space⟩,0)/\Good ⟨Tx (Wv b (Wx n)).files ⟨Rb n,f.vol,f.vol⟩,a.space⟩:=by
 have hc:=Ew.2 h;obtain⟨fn,fd,fv⟩:=f;obtain rfl:fn=Wx n:=hn;unfold U5 Ts;rw[if_neg (λh=>h hc)];simp only[g0r,q04];rw[if_neg (λh=>h hv)];have hs:=Xh h hf;rcases hs with h1|⟨h1,h2,h3⟩
 ·left;rw[if_pos (by rw[h1];decide),h1]
 right;rw[if_neg (by rw[h1];decide),h2];have hm:(⟨Wx n,fv,fv⟩:File)∈Tx a.files ⟨Wx n,fv,fv⟩:=zE (Y9 a.files ⟨Wx n,fv,fv⟩);have z1:BD (Tx a.files ⟨Wx n,fv,fv⟩):=Fu hb ⟨(hb _ hf).2,(hb _ hf).2⟩;obtain⟨r1,r2⟩:=Dj h3 z1 hm (Bv hv) (Ld n n);refine⟨_,rfl,h3,?_,r2⟩;have z8:Rg ⟨Tx a.files ⟨Wx n,fv,fv⟩,a.space⟩ (Wx n) (Rb n)=_:=r1;simp only;rw[z8];rfl
end
section
attribute [local irreducible] Qt
def Hs{d:Disk}{s:Snp}(h:Good d):((Yx d s).2≠0/\Ar d s=(W7,(Yx d s).2))\/((Yx d s).2=0/\Ar d s=U5 (Yx d s).1 s.number):=by
 have hc:=Ew.2 h;have z1:Yx d s=if(wrS s d).2≠0 then(W7,(wrS s d).2)else((wrS s d).1,0):=by unfold Yx Ts;rw[if_neg (λh=>h hc)];rfl
 have z8:Ar d s=if(wrS s d).2≠0 then(W7,(wrS s d).2)else g0r (q04 s.number) (wrS s d).1:=by unfold Ar Ts;rw[if_neg (λh=>h hc)];rfl
 by_cases hw:(wrS s d).2≠0
 ·left;rw[z1,z8,if_pos hw,if_pos hw];exact⟨hw,rfl⟩
 right;have za:(Yx d s).2=0:=by rw[z1,if_neg hw]
 refine⟨za,?_⟩;obtain⟨_,_,f,_,_,_,h4,h5⟩:=Am h za;have h6:(wrS s d).1=⟨Tx d.files f,d.space⟩:=by rw[z1,if_neg hw]at h4;exact(Prod.mk.inj h4).1
 rw[z8,if_neg hw,h6,h4];unfold U5 Ts;rw[if_neg (λh=>h (Ew.2 h5))]
def w0s{d:Disk}{s:Snp}(h:Good d)(hb:BD d.files)(he:(Qt s).1.length<=140737488355328)(z8:(Ar d s).2=0):W1 s.number=0/\(Qt s).2=0/\
  ∃x:Disk,Ar d s=(x,0)/\Good x/\BD x.files/\x.space=d.space/\(⟨Rb s.number,(Qt s).1,(Qt s).1⟩:File)∈x.files/\(∀z∈d.files,z.name≠Wx s.number->z.name≠Rb s.number->z∈x.files)/\
   (∀z∈x.files,z=⟨Rb s.number,(Qt s).1,(Qt s).1⟩\/(z∈d.files/\z.name≠Wx s.number))/\x.files.length<=d.files.length+1:=by
 rcases Hs (s:=s) h with⟨h1,h2⟩|⟨h1,h2⟩
 ·rw[h2]at z8;exact absurd z8 h1
 obtain⟨hv,ze,f,k1,k2,k3,k4,k5⟩:=Am h h1;have zb:f∈Tx d.files f:=zE (Y9 d.files f);have zc:BD (Tx d.files f):=Fu hb ⟨by rw[k3];exact Bh (λf hf=>(hb f hf).1) _,by rw[k2];exact he⟩;rw[h2,k4]at z8 |-;refine⟨hv,ze,?_⟩;rcases Cw (n:=s.number) k5 zc hv zb k1 with e1|⟨b,za,zd,e2,zf⟩
 ·simp only at z8;rw[e1]at z8;cases z8
 simp only at e2 za |-;refine⟨_,e2,zf,?_,rfl,?_,?_,?_,?_⟩
 ·refine Fu (λg hg=>?_) ⟨by rw[k2];exact he,by rw[k2];exact he⟩;have:=(Us.1 hg).1;rw[za]at this;exact Fu zc ⟨by rw[k2];exact he,by rw[k2];exact he⟩ g this
 ·have:=Y9 (Wv b (Wx s.number)).files ⟨Rb s.number,f.vol,f.vol⟩;rw[k2]at this |-;exact zE this
 ·intro z hz z1 zg;refine J7 (Us.2 ⟨?_,z1⟩) zg;rw[za];refine J7 (J7 hz (by rw[k1];exact z1)) (by simp only;rw[k1];exact z1)
 ·intro z hz;rcases Yt hz with rfl|hz
  ·left;rw[k2]
  right;obtain⟨hz,z1⟩:=Us.1 hz;rw[za]at hz;refine⟨?_,z1⟩;rcases Yt hz with rfl|hz
  ·exact absurd k1 z1
  rcases Yt hz with rfl|hz
  ·exact absurd k1 z1
  exact hz
 have hm:(⟨f.name,f.vol,f.vol⟩:File)∈b.files:=by rw[za];exact zE (Y9 (Tx d.files f) { f with dur:=f.vol })
 obtain⟨i,zi,hi,hf⟩:=Ud zd.sorted hm;simp only[k1]at hf;have q1:=Ft zd hf;have q2:=Ye (Wv b (Wx s.number)).files ⟨Rb s.number,f.vol,f.vol⟩;have zh:foundAt (Tx d.files f) f.name (lb (Tx d.files f) f.name)=true:=B4 k5.sorted zb;have q3:b.files.length=(Tx d.files f).length:=by rw[za];exact Vq (f:={ f with dur:=f.vol }) zh
 have q4:=Ye d.files f;show(Tx (Wv b (Wx s.number)).files ⟨Rb s.number,f.vol,f.vol⟩).length<=d.files.length+1;omega
end
section
attribute [local irreducible] Ra Q5
def okN(d:Disk)(n:Int):Prop:=(Q5 (Sn d n)).2=0/\(Q5 (Sn d n)).1.number=n
def Hh(d:Disk):∀l:List Int,l.Pairwise (λa b=>b<=a)->(Sw d l=none/\∀m∈l,¬okN d m)\/(∃n∈l,okN d n/\Sw d l=some (Q5 (Sn d n)).1/\∀m∈l,okN d m->m<=n)
 |[],_=> .inl ⟨rfl,by simp⟩
 |n::l,h=>by
  rw[List.pairwise_cons]at h;by_cases hn:okN d n
  ·right;refine⟨n,by simp,hn,?_,λm hm _=>?_⟩
   ·rw[Sw];exact if_pos hn
   rcases y_.1 hm with rfl|hm
   ·exact Int.le_refl _
   exact h.1 m hm
  have e:Sw d (n::l)=Sw d l:=by rw[Sw];exact if_neg hn
  rw[e];rcases Hh d l h.2 with⟨h1,h2⟩|⟨k,h1,h2,h3,h4⟩
  ·exact .inl ⟨h1,λm hm=>by
    rcases y_.1 hm with rfl|hm
    ·exact hn
    exact h2 m hm⟩
  exact .inr ⟨k,by simp[h1],h2,h3,λm hm z1=>by
   rcases y_.1 hm with rfl|hm
   ·exact absurd z1 hn
   exact h4 m hm z1⟩
def Zv(l:List Int):(Fm l).Pairwise (λa b=>a<=b):=by have:=List.pairwise_mergeSort (le:=λx y:Int=>decide (x<=y)) (λa b c h1 h2=>by simp at h1 h2 |-;omega) (λa b=>by simp;omega) l;exact this.imp (λh=>by simpa using h)
def O8{d:Disk}{n:Int}:n∈Wj d↔∃f∈d.files,Ra Cp f.name=(n,true):=by
 rw[Wj,Fm,ua,Tt,u9];constructor
 ·rintro⟨f,hf,h⟩;refine⟨f,hf,?_⟩;rw[q09]at h;split at h
  ·rename_i hc;injection h with h
   exact uN h hc
  cases h
 rintro⟨f,hf,h⟩;exact⟨f,hf,by rw[q09,h];rfl⟩
def z08{d:Disk}(hc:Wc d=0):(U8 d=(Uy,6)/\∀m∈Wj d,¬okN d m)\/(∃n∈Wj d,okN d n/\U8 d=((Q5 (Sn d n)).1,0)/\∀m∈Wj d,okN d m->m<=n):=by
 have hs:(Wj d).reverse.Pairwise (λa b=>b<=a):=by rw[List.pairwise_reverse];exact Zv _
 rw[U8,if_neg (λh=>h hc)];rcases Hh d _ hs with⟨h1,h2⟩|⟨n,h1,h2,h3,h4⟩
 ·left;rw[h1];exact⟨rfl,λm hm=>h2 m (vm.2 hm)⟩
 right;refine⟨n,vm.1 h1,h2,by rw[h3],λm hm=>h4 m (vm.2 hm)⟩
def Co{d:Disk}(h:Good d){f:File}(hf:f∈d.files){n:Int}(hn:f.name=Rb n):Sn d n=f.vol:=by obtain⟨i,z8,hi,z1⟩:=Ud h.sorted hf;rw[Sn,<-hn,z1];simp[hi]
end
def Vv{α:Type}{enc:α->List UInt8}{k:Nat}:∀(l:List α),(∀x∈l,(enc x).length<=k)->(l.flatMap enc).length<=l.length * k
 |[],_=>by simp
 |x::l,h=>by have h1:=h x (by simp);have h2:=Vv l (λy hy=>h y (by simp[hy]));simp only[List.flatMap_cons,zL,List.length_cons,Nat.add_mul];omega
def I9{α:Type}{enc:α->List UInt8}{l:List α}{m k:Nat}(hl:l.length<=m)(h:∀x∈l,(enc x).length<=k):(Rh enc l).length<=10+m * k:=by have h1:=Vv l h;have h2:=Pd (l.length:Int);have h3:l.length * k<=m * k:=Nat.mul_le_mul_right k hl;rw[Rh,zL];omega
section
attribute [local irreducible] Ra Q5 Qt
def Has(d:Disk)(n:Int)(s:Snp):Prop:=∃f∈d.files,f.name=Rb n/\W1 n=0/\Q5 f.vol=(s,0)/\s.number=n
def Uw{s:List UInt8}{n:Int}:Ra Cp s=(n,true)↔s=Rb n/\W1 n=0:=by
 constructor
 ·intro h;obtain⟨h1,h2,h3⟩:=Bg h;exact⟨h3,(Tk n).2 ⟨h1,h2⟩⟩
 rintro⟨rfl,h⟩;have h2:=(Tk n).1 h;exact w03 h2.1 h2.2 rfl
def F3{n m:Int}(hn:W1 n=0)(hm:W1 m=0)(h:Rb n=Rb m):n=m:=by have h1:=(Uw (s:=Rb n) (n:=n)).2 ⟨rfl,hn⟩;have h2:=(Uw (s:=Rb n) (n:=m)).2 ⟨h,hm⟩;rw[h1]at h2;exact(Prod.mk.inj h2).1
def Xy{d:Disk}(h:Good d){n:Int}:(n∈Wj d/\okN d n)↔∃s,Has d n s/\(Q5 (Sn d n)).1=s:=by
 constructor
 ·rintro⟨h1,h2,h3⟩;obtain⟨f,hf,hn⟩:=O8.1 h1;obtain⟨e,hv⟩:=Uw.1 hn;have z1:=Co h hf e;refine⟨_,⟨f,hf,e,hv,?_,h3⟩,rfl⟩;rw[<-z1];exact uN rfl h2
 rintro⟨s,⟨f,hf,e,hv,h1,h2⟩,rfl⟩;have z1:=Co h hf e;refine⟨O8.2 ⟨f,hf,Uw.2 ⟨e,hv⟩⟩,?_,h2⟩;rw[z1,h1]
def S0{d:Disk}(h:Good d){n:Int}{s:Snp}(hh:Has d n s):(Q5 (Sn d n)).1=s:=by obtain⟨f,hf,e,hv,h1,h2⟩:=hh;rw[Co h hf e,h1]
def V4{d:Disk}(h:Good d):(U8 d=(Uy,6)/\∀n s,¬Has d n s)\/∃n s,Has d n s/\U8 d=(s,0)/\∀m u,Has d m u->m<=n:=by
 rcases z08 (Ew.2 h)with⟨h1,h2⟩|⟨n,h1,h2,h3,h4⟩
 ·left;refine⟨h1,λn s hh=>?_⟩;obtain⟨a,b⟩:=(Xy h).2 ⟨s,hh,S0 h hh⟩;exact h2 n a b
 right;obtain⟨s,hh,hs⟩:=(Xy h).1 ⟨h1,h2⟩;refine⟨n,s,hh,by rw[h3,hs],λm u hm=>?_⟩;obtain⟨a,b⟩:=(Xy h).2 ⟨u,hm,S0 h hm⟩;exact h4 m a b
def f0m{d:Disk}(h:Good d){n:Int}{s:Snp}(hh:Has d n s)(hm:∀m u,Has d m u->m<=n):U8 d=(s,0):=by
 rcases V4 h with⟨_,h2⟩|⟨k,u,h1,h2,h3⟩
 ·exact absurd hh (h2 n s)
 have:=h3 n s hh;have:=hm k u h1;obtain rfl:k=n:=by omega
 rw[h2,<-S0 h h1,S0 h hh]
def z0y{d:Disk}(h:Good d)(hm:∀m u,¬Has d m u):U8 d=(Uy,6):=by
 rcases V4 h with⟨h1,_⟩|⟨k,u,h1,_,_⟩
 ·exact h1
 exact absurd h1 (hm k u)
def ckF(s:Snp):File:=⟨Rb s.number,(Qt s).1,(Qt s).1⟩
def y1c{d:Disk}{s:Snp}(h:ckF s∈d.files)(hv:W1 s.number=0)(he:(Qt s).2=0)(hi:x1h s):Has d s.number s:=⟨_,h,rfl,hv,decode_encode he hi,rfl⟩
end
section
attribute [local irreducible] Ra
end
section
attribute [local irreducible] Ra Wc Ar few Rb Wx Qt
end
section
attribute [local irreducible] Ra Q5 Qt
end
section
attribute [local irreducible] Ra Q5 Qt
end
section
attribute [local irreducible] Ra Q5 Qt
def Gx:∀(l:List Nat) (x:Nat),x∈l->x<=l.sum
 |[],x,h=>by simp at h
 |a::l,x,h=>by
  rw[xH];rcases y_.1 h with rfl|h
  ·omega
  have:=Gx l x h;omega
def c0g{d:Disk}(h:Good d)(hb:BD d.files):VL d.files:=λf hf=>by
 have z1:=h.len;have z8:Aw d.files<=9223372036854775807:=yD (Ir d.files _ 140737488355328 256 (by omega) (λf hf=>(hb f hf).2)) (by decide);have h1:=h.vol;have h2:=h.sp;rw[W,wrap_i64 _ (by omega) (by omega)]at h1;unfold Zl at h2;simp at h2;have h3:f.vol.length<=Aw d.files:=by unfold Aw;exact Gx _ _ (List.mem_map.2 ⟨f,hf,rfl⟩)
 omega
end
end Go.Abs
