/- Part Kj of the proof: an abstract machine over the model, and what the functions of the program hand back in its terms. No condition. -/
import Derived.Test.YteghceocnldccaaGreatDoorKi
import Derived.Test.YteghceocnldccaaGreatDoorKg
import Derived.Test.YteghceocnldccaaGreatDoorKf
import Derived.Test.YteghceocnldccaaGreatDoorKh
import Derived.Test.YteghceocnldccaaGreatDoorKb
import Derived.Test.YteghceocnldccaaGreatDoorKc
import Derived.Lay
import Derived.LaidSub
import Derived.Deep.DeepWitnessRowRef
import Derived.Test.YteghceocnldccaaGreatDoorCards
import Derived.Test.YteghceocnldccaaGreatDoorTie
import Derived.Lib.LaidTab
import Derived.Test.YteghceocnldccaaGreatDoorKd
import Derived.Shelf.Vars
set_option linter.all false
open Nat renaming zero_le→wn,le_refl→zQ
open List renaming getElem_mem→zK,take_succ_eq_append_getElem→zP,mem_append→zV,mem_singleton→zT,getElem_eq_iff→zY,getElem?_append_right→zH,take_length→yP,range→yJ,take_of_length_le→zO,filter_append→wY,getElem?_eq_getElem→zI,getD→yV,take→v_,map→yX,mem_map→zR,mem_of_mem_take→xK,map_append→yF,map_cons→yY,map_take→xI,map_drop→xJ,mem_of_mem_drop→wR,length_take→xN,length_drop→xR,getElem?_set_self→zL,getElem?_set_ne→zB,getElem?_append_left→zF,append_nil→xD,map_nil→wI
set_option maxHeartbeats 16000000
set_option linter.unusedSimpArgs false
set_option maxRecDepth 100000
namespace Go.Abs
open Go Go.Proofs Go.Maps Go.RowKit
attribute [local irreducible] Rt Ie Ww Ls Wq Ej Yj
theorem D6(a:Aut):PC Tryz.prog 26 [encA a] (fun r=>r= .tup [encA (Ls a).2,.i (Ls a).1]):=by
 refine Ql tOk Tryz.func26 rfl Tryz.results26 rfl (by simp[Tryz.ntmps26]) ?_;rw[Tryz.ntmps26];simp only[Qg];simp only[encA];obtain⟨R,hR⟩:∃R,Ls a=R:=⟨_,rfl⟩
 rw[hR];repeat first|(refine r_ ?_;simp)|refine q_ ?_
 refine Qf rfl rfl (by simp) (Is a) rfl ?_;rintro _ rfl;simp;repeat first|(refine r_ ?_;simp)|refine q_ ?_
 refine Qb rfl (fun h=> ?_) (fun h=> ?_)
 ·have h':Wq a≠0:=by simpa using h
  rw[k16 h']at hR;rw[←hR];repeat first|(refine r_ ?_;simp)|refine q_ ?_
  exact⟨rfl,rfl,rfl⟩
 have z8:Wq a=0:=by simpa using h
 repeat first|(refine r_ ?_;simp)|refine q_ ?_
 refine Qf rfl rfl (by simp) (J7 a) rfl ?_;rintro _ rfl;simp;repeat first|(refine r_ ?_;simp)|refine q_ ?_
 refine Qb rfl (fun h=> ?_) (fun h=> ?_)
 ·have h':(Rt a).1≠0:=by simpa using h
  rw[q0g h']at hR;rw[←hR];repeat first|(refine r_ ?_;simp)|refine q_ ?_
  exact⟨rfl,rfl,rfl⟩
 have hd:(Rt a).1=0:=by simpa using h
 have zc:=fun h=>c0u (a:=a) hd h;have zd:=fun h=>u1z (a:=a) hd h;have ze:=fun h=>y0w (a:=a) z8 hd h;generalize (Rt a).2=d at *
 repeat first|(refine r_ ?_;simp)|refine q_ ?_
 refine Qf rfl rfl (by simp) (Hp d) rfl ?_;rintro _ rfl;simp;repeat first|(refine r_ ?_;simp)|refine q_ ?_
 refine Qb rfl (fun h=> ?_) (fun h=> ?_)
 ·have h':(Ie d).1≠0:=by simpa using h
  rw[zc h']at hR;rw[←hR];repeat first|(refine r_ ?_;simp)|refine q_ ?_
  exact⟨rfl,rfl,rfl⟩
 have hc:(Ie d).1=0:=by simpa using h
 have z7:=zd hc;have ha:=ze hc;rw[hR]at z7;clear zd ze zc;generalize (Ie d).2=c at *
 repeat first|(refine r_ ?_;simp)|refine q_ ?_
 refine Qf rfl rfl (by simp) (U0 c ha.ok) rfl ?_;rintro _ rfl;simp;refine Qf rfl rfl (by simp) (q0r c ha) rfl ?_;rintro _ rfl;simp;repeat first|(refine r_ ?_;simp)|refine q_ ?_
 have zj:=fun(m:Mv) (hm:m∈(Ww c).mv)=>y1c ha hm;have zp:(Ww c).mv.length≤2048:=Nat.le_trans (B7 ha) ha.ok.mvs;have zf:Su (Ww c)=(Ww c).mv.any fun k=>k.on.any fun s=>decide (256<s.length):=rfl;have zk:(Ww c).types=c.types:=M5 c;generalize Ww c=m at *;refine Q4 fun Z hZ=> ?_
 have z1:Z[1]? =some (.vars [.i 0,.nils,.nils]):=by rw[hZ];rfl
 have z4:Z[4]? =some (.vars (Qu m)):=by rw[hZ];rfl
 clear hZ;refine Qp (Qc (sl':=[(2,.vptr 1 0),(3,.i 0),(8,.vptr 4 0),(39,.list (m.mv.map encMv)),(40,.i m.mv.length),(41,.i (0:Nat))]) ?_ (by simp));refine Qo (P:=Tryz.prog) (F:=fun(u:Nat×List AObj)=>⟨[(2,.vptr 1 0),(3,.i 0),(8,.vptr 4 0),(39,.list (m.mv.map encMv)),(40,.i m.mv.length),(41,.i u.1)],u.2⟩)
  (fun u=>u.1≤m.mv.length∧u.2[1]? =some (.vars [.i 0,.nils,.nils])∧u.2[4]? =some (.vars (Qu m))∧∀k∈m.mv.take u.1,(k.on.any fun s=>decide (256<s.length))=false) (fun u=>m.mv.length - u.1) ?_ (0,Z) ⟨wn _,z1,z4,by simp⟩
 clear z1 z4;clear Z;rintro⟨j,Z⟩ ⟨hj,z1,z4,za⟩ ih;simp only at hj z1 z4 za ih ⊢;repeat first|(refine r_ ?_;simp)|refine q_ ?_
 refine Qb rfl (fun zl=> ?_) (fun zm=> ?_)
 ·have z6:j<m.mv.length:=by simpa using zl
  have hw:IntKind.i64.wrap ((j:Int)+1)=j+1:=wrap_i64 _ (by omega) (by omega);have zg:=zK z6;have z8:=zj _ zg;have zn:∀k∈m.mv.take (j+1),k∈m.mv.take j∨k=m.mv[j]:=fun k hk=>by
   rw[zP z6]at hk;rcases zV.1 hk with h|h
   ·exact .inl h
   ·exact .inr (zT.1 h)
  have zh:(m.mv.map encMv)[j]? =some (encMv m.mv[j]):=by simp[z6]
  have zi:∀hh,(m.mv.map encMv)[j]'hh=encMv m.mv[j]:=fun hh=>by simp
  generalize zq:m.mv[j]=k at *;simp only[encMv]at zh zi
  have z4s:∀E,(Z++E)[4]? =some (.vars (Qu m)):=fun E=>Qa z4 E;have z4h:∀E hh,(Z++E)[4]'hh= .vars (Qu m):=fun E hh=>(zY hh).2 (z4s E);repeat first|(refine r_ ?_;simp[zh,zi,z6,z4s,z4h])|refine q_ ?_
  refine Qf rfl rfl (by simp) (Ap m.types k.on) rfl ?_;rintro _ rfl;simp;rw[zk];refine Q4 fun Y hY=> ?_;have y1:Y[1]? =some (.vars [.i 0,.nils,.nils]):=by rw[hY];exact Qa z1 _
  have y4:Y[4]? =some (.vars (Qu m)):=by rw[hY];exact Qa z4 _
  have yx:Y[Z.length]? =some (.vars [.i k.src,.i k.dst,.list (k.on.map encL)]):=by rw[hY,zH (by simp)];simp
  clear hY;have y1s:∀X,(Y.set 1 X)[1]? =some X:=fun X=>Qj y1 X;refine Qb rfl (fun h=> ?_) (fun h=> ?_)
  ·have h':Su m=true:=by
    rw[zf,List.any_eq_true];refine⟨k,zg,?_⟩;have h2:Ej c.types k.on≠0:=by simpa using h
    cases hb:k.on.any fun s=>decide (256<s.length)with
    |true=>rfl
    |false=>exact absurd (z8.2 hb) h2
   rw[if_pos h']at z7;rw[z7];repeat first|(refine r_ ?_;simp[y1,y1s])|refine q_ ?_
   exact⟨rfl,rfl,rfl⟩
  ·have h2:Ej c.types k.on=0:=by simpa using h
   repeat first|(refine r_ ?_;simp[hw])|refine q_ ?_
   refine Qc (sl':=[(2,.vptr 1 0),(3,.i 0),(8,.vptr 4 0),(39,.list (m.mv.map encMv)),(40,.i m.mv.length),(41,.i (j+1:Nat))]) ?_ (by simp);refine ih (j+1,Y) ⟨by omega,y1,y4,fun k' zo=> ?_⟩ (by simp only;omega);rcases zn k' zo with e|rfl
   ·exact za k' e
   ·exact z8.1 h2
 ·have zb:j=m.mv.length:=by simp at zm;omega
  subst zb;rw[yP]at za;have h':Su m=false:=by rw[zf,List.any_eq_false];exact fun k hk=>by rw[za k hk];simp
  rw[h',if_neg (by simp)]at z7;rw[z7];have y1s:∀X,(Z.set 1 X)[1]? =some X:=fun X=>Qj z1 X;repeat first|(refine r_ ?_;simp[z4,z1,y1s])|refine q_ ?_
end Go.Abs
namespace Go.Abs
open Go Go.Proofs Go.Maps Go.RowKit
attribute [local irreducible] exM Ls u1q u1d
theorem Bn:PC Tryz.prog 25 [] (fun r=>r= .bool true):=by
 refine Ql tOk Tryz.func25 rfl Tryz.results25 rfl (by simp[Tryz.ntmps25]) ?_;rw[Tryz.ntmps25];simp only[Qg];have z6:yJ 2=[0,1]:=rfl;have z7:yJ 3=[0,1,2]:=rfl;repeat first|(refine r_ ?_;simp)|refine q_ ?_
 refine Qf rfl rfl (by simp) (Us true) rfl ?_;rintro _ rfl;simp;refine Qf rfl rfl (by simp) (C3 (exM true)) rfl ?_;rintro _ rfl;simp[c1s];repeat first|(refine r_ ?_;simp)|refine q_ ?_
 refine Qf rfl rfl (by simp) (Us true) rfl ?_;rintro _ rfl;simp;refine Qf rfl rfl (by simp) (D6 (exM true)) rfl ?_;rintro _ rfl;simp[c1f];repeat first|(refine r_ ?_;simp)|refine q_ ?_
 refine Qf rfl rfl (by simp) (Us true) rfl ?_;rintro _ rfl;simp;refine Qf rfl rfl (by simp) (Iy (exM true) 0 1) rfl ?_;rintro _ rfl;simp[y2n];simp[j17];repeat first|(refine r_ ?_;simp)|refine q_ ?_
 refine Qf rfl rfl (by simp) (Us false) rfl ?_;rintro _ rfl;simp;refine Qf rfl rfl (by simp) (Iy (exM false) 0 2) rfl ?_;rintro _ rfl;simp[y23];simp[j17];repeat first|(refine r_ ?_;simp)|refine q_ ?_
 refine Qf rfl rfl (by simp) (Ah (-1099511627776) 1099511627776) rfl ?_;rintro _ rfl;simp;have z8:IntKind.i64.wrap 0=0:=by decide
 refine Ps (Ot tOk rfl ?_);simp[z6];refine Qs (sl':=[(0,.bool false),(1,LI [0,1,1]),(2,.i 0),(3,.vptr 0 0),(4,.i 0),(5,.list []),(6,.bool true),(7,.i 0),(8,LSy [⟨0,5⟩]),(9,.bool true),(10,.i 0),(12,.vptr 4 0)]) ?_ (by simp);refine Q1 2 (e:=4) (c:=1) (xs:=[.bool false,.bool true]) rfl 4 rfl ?_;simp;refine Q1 3 (e:=78) (c:=3) (xs:=v05.mv.map encMv) rfl 4 rfl ?_;have z1:v05.mv.length=2:=rfl;simp[z1];rw[zO (by simp[z1])];repeat first|(refine r_ ?_;simp[z8,z7])|refine q_ ?_
 refine Ep 5 rfl ?_;simp;refine Qf rfl rfl (by simp) (d02 [0,1,1] [0,1,1]) rfl ?_;rintro _ rfl;simp;repeat first|(refine r_ ?_;simp)|refine q_ ?_
 refine Qf rfl rfl (by simp) (z0i v05) rfl ?_;rintro _ rfl;simp;repeat first|(refine r_ ?_;simp)|refine q_ ?_
 refine Ep 6 rfl ?_;simp;refine Qf rfl rfl (by simp) (y0x [⟨0,5⟩] [⟨0,5⟩]) rfl ?_;rintro _ rfl;simp;repeat first|(refine r_ ?_;simp)|refine q_ ?_
end Go.Abs
namespace Go.Abs
open Go Go.Proofs Go.Maps Go.RowKit
def mTo(a:Aut)(s:Int)(i:Nat):List Mv:=(a.mv.take i).filter fun m=>decide (m.src=s) && !Wd m.on
def Ug(a:Aut)(cl:List Nat)(s:Int)(i:Nat):List Mv:=(mTo a s i).foldl (fun g m=>Et 0 g (clD cl m) m.on) []
theorem Di(a:Aut)(cl:List Nat)(s:Int):Ug a cl s 0=[]:=by simp[Ug,mTo]
theorem q1z(a:Aut)(cl:List Nat)(s:Int):Ug a cl s a.mv.length=w1o a cl s:=by unfold Ug mTo;rw[yP];rfl
theorem Lz{a:Aut}{cl:List Nat}{s:Int}{i:Nat}(h:i<a.mv.length)(hs:a.mv[i].src≠s∨Wd a.mv[i].on=true):Ug a cl s (i+1)=Ug a cl s i:=by
 unfold Ug mTo;rw[zP h,wY];rcases hs with k|k
 ·simp[k]
 ·simp[k]
theorem Vo{a:Aut}{cl:List Nat}{s:Int}{i:Nat}(h:i<a.mv.length)(hs:a.mv[i].src=s)(hv:Wd a.mv[i].on=false):Ug a cl s (i+1)=Et 0 (Ug a cl s i) (clD cl a.mv[i]) a.mv[i].on:=by unfold Ug mTo;rw[zP h,wY];simp[hs,hv]
theorem Vk{a:Aut}(ha:OkA a)(cl:List Nat)(s:Int):∀i,i≤a.mv.length→(Ug a cl s i).length≤i∧(∀m∈Ug a cl s i,PWf a.types.toNat m.on)∧∀m∈Ug a cl s i,∀t∈m.on,t.length≤i * 256
 |0,_=>by rw[Di];simp
 |i+1,h=>by
  obtain⟨h1,h2,h3⟩:=Vk ha cl s i (by omega);have hm:=ha.mv _ (zK (show i<a.mv.length by omega));by_cases hs:a.mv[i].src=s∧Wd a.mv[i].on=false
  ·rw[Vo (by omega) hs.1 hs.2];refine⟨?_,q07 h2 hm.on.wf,fun m z1 t ht=> ?_⟩
   ·have:=Vm 0 (Ug a cl s i) (clD cl a.mv[i]) a.mv[i].on;omega
   ·have hc:∀t∈a.mv[i].on,t.length≤256:=fun t ht=>(hm.on.2 t ht).1;unfold Et at z1;split at z1
    ·rcases zV.1 z1 with k|k
     ·have:=h3 m k t ht;omega
     ·rw[zT.1 k]at ht;have:=hc t ht;omega
    ·split at z1
     ·rename_i m2 z6;rcases List.mem_or_eq_of_mem_set z1 with k|rfl
      ·have:=h3 m k t ht;omega
      ·have:=V2 (h3 _ (List.mem_of_getElem? z6)) hc t ht;omega
     ·have:=h3 m z1 t ht;omega
  ·rw[Lz (by omega) (by
    by_cases k:a.mv[i].src=s
    ·exact .inr (by cases hv:Wd a.mv[i].on with|true=>rfl|false=>exact absurd ⟨k,hv⟩ hs)
    ·exact .inl k)]
   exact⟨by omega,h2,fun m z1 t ht=>by have:=h3 m z1 t ht;omega⟩
def k0l(L:List Mv)(i:Nat):List Mv:=(L.take i).foldl (Nt kyM) []
theorem Gu(L:List Mv):k0l L 0=[]:=by simp[k0l]
theorem w00(L:List Mv):k0l L L.length=Bc kyM L:=by simp[k0l,Bc]
theorem Hg(L:List Mv)(i:Nat)(h:i<L.length):k0l L (i+1)=Nt kyM (k0l L i) L[i]:=by unfold k0l;rw[zP h,List.foldl_append];rfl
theorem Zy(L:List Mv):∀i,i≤L.length→(k0l L i).length=i
 |0,_=>by rw[Gu];rfl
 |i+1,h=>by rw[Hg L i (by omega),(Hs kyM _ _).length_eq,List.length_cons,Zy L i (by omega)]
theorem w0q(L:List Mv):∀i,i≤L.length→∀c∈k0l L i,c∈L
 |0,_,c,hc=>by rw[Gu]at hc;cases hc
 |i+1,h,c,hc=>by
  rw[Hg L i (by omega)]at hc;rcases List.mem_cons.1 ((Hs kyM _ _).mem_iff.1 hc)with rfl|hc
  ·exact zK _
  ·exact w0q L i (by omega) c hc
theorem x0a{s:List Mv}{x:Mv}{j:Nat}(h:j<s.length):Ic kyM s x (j+1)=if J1 (kyM x) (kyM s[j])=true then Ic kyM s x j else j+1:=by rw[Ic,zI h]
theorem w2r(p q:Mv):Kz (Qm p.on) (Qm q.on)=J1 (kyM p) (kyM q):=g09 p.on q.on
attribute [local irreducible] Ug k0l Wd Ic kyM Qm Qw Et Wp
theorem v0c(a:Aut)(ha:Dfa a)(cl:List Nat)(x4:cl.length=a.fin.length)(s:Int):PC Tryz.prog 142 [encA a,LI (Ed cl),.i s] (fun r=>r= .list ((v0q a cl s).map encMv)):=by
 refine Ql tOk Tryz.func142 rfl Tryz.results142 rfl (by simp[Tryz.ntmps142]) ?_;rw[Tryz.ntmps142];simp only[Qg];simp only[encA];have zq:=ha.ok;have x5:=zq.mvs;repeat first|(refine r_ ?_;simp)|refine q_ ?_
 refine Qs (sl':=[(1,LI (Ed cl)),(2,.i s),(3,.vptr 0 0),(6,.nils),(7,.nils),(8,.i (0:Nat))]) ?_ (by simp);refine Q3 7 78 3 rfl ?_;simp;obtain⟨K,hK⟩:∃K,K=[AObj.vars (Qu a)]:=⟨_,rfl⟩
 have yn:K[0]? =some (.vars (Qu a)):=by rw[hK];rfl
 have yc:=SL.start K 78 3;refine Qp (Qc (sl':=[(1,LI (Ed cl)),(2,.i s),(3,.vptr 0 0),(6,.nils),(7,.sl 1 3 0 (Ug a cl s 0).length),(8,.i (0:Nat))]) ?_ (by simp[Di]));refine Qo (F:=fun(u:Nat×Nat×List AObj)=>⟨[(1,LI (Ed cl)),(2,.i s),(3,.vptr 0 0),(6,.nils),(7,.sl u.2.1 3 0 (Ug a cl s u.1).length),(8,.i u.1)],u.2.2⟩)
  (fun u=>u.1≤a.mv.length∧SL K u.2.2 u.2.1 78 3 ((Ug a cl s u.1).map encMv)) (fun u=>a.mv.length - u.1) ?_ (0,1,_) ⟨by simp,by rw[Di];rw[hK]at yc ⊢;exact yc⟩
 rintro⟨i,q,H⟩ ⟨hi,hs⟩ ih;simp only at hi hs ih ⊢;have h0:=hs.kp yn;obtain⟨yo,zy,yd⟩:=Vk zq cl s i hi;repeat first|(refine r_ ?_;simp[h0])|refine q_ ?_
 refine Qb rfl (fun zz=> ?_) (fun zb=> ?_)
 ·have z1:i<a.mv.length:=by simpa using zz
  have hw:IntKind.i64.wrap ((i:Int)+1)=i+1:=wrap_i64 _ (by omega) (by omega);have ye:=Lz (cl:=cl) (s:=s) z1;have yp:=Vo (cl:=cl) (s:=s) z1;have z8:=fun q' H'=>ih (i+1,q',H');simp only at z8;have zr:=zq.mv _ (zK z1);have y0:(a.mv.map encMv)[i]? =some (encMv a.mv[i]):=by simp[z1]
  have y1:∀hh,(a.mv.map encMv)[i]'hh=encMv a.mv[i]:=fun hh=>by simp
  generalize a.mv[i]=m at *;generalize Ug a cl s i=g at *;generalize Ug a cl s (i+1)=g2 at *;simp only[encMv]at y0 y1
  by_cases hms:m.src=s
  ·have hb:(m.src != s)=false:=by simp[hms]
   repeat first|(refine r_ ?_;simp[h0,y0,y1,z1,hb])|refine q_ ?_
   refine Rv fun Y hY=> ?_;have zc:SL K Y q 78 3 (g.map encMv):=by rw[hY];exact hs.add _
   have yx:Y[H.length]? =some (.vars [.i m.src,.i m.dst,.list (m.on.map encL)]):=by rw[hY,zH (by simp)];simp
   clear hY hs h0;generalize H.length=x at *;clear H
   have yq:=zc.arr;have x6:q≠x:=fun e=>by rw[e,yx]at yq;simp at yq
   refine Qf rfl rfl (by simp) (Uf m.on) rfl ?_;rintro _ rfl;simp;cases hv:Wd m.on with
   |true=>
    rw[ye (.inr hv)]at z8;refine Qk rfl ?_;simp;repeat first|(refine r_ ?_;simp[hw])|refine q_ ?_
    refine Qc (sl':=[(1,LI (Ed cl)),(2,.i s),(3,.vptr 0 0),(6,.nils),(7,.sl q 3 0 g.length),(8,.i (i+1:Nat))]) ?_ (by simp);exact z8 q Y ⟨by omega,zc⟩ (by omega)
   |false=>
    rw[yp hms hv]at z8;have yr:=fun k (hk:k<g.length)=>G5 a.types.toNat g[k].on m.on (zy _ (zK hk)) zr.on.wf (fun s hs t ht=>by have:=yd _ (zK hk) s hs;have:=(zr.on.2 t ht).len;omega) (by have:=zq.types;omega);obtain⟨d,hd⟩:∃d:Nat,m.dst=d:=⟨m.dst.toNat,by have:=zr.dst.1;omega⟩
    have zt:d<cl.length:=by have:=zr.dst.2;omega
    have yf:clD cl m=cl[d]:=by unfold clD;rw[hd];simp[yV,zt]
    have yt:(Ed cl)[d]? =some ((clD cl m:Nat):Int):=by rw[yf];simp[zt]
    have yu:∀hh,(Ed cl)[d]'hh=((clD cl m:Nat):Int):=fun hh=>(zY hh).2 yt;generalize clD cl m=t at *
    have yg:cl[d]=t:=yf.symm;rw[hd]at yx;refine Qk rfl ?_;simp;repeat first|(refine r_ ?_;simp[yx,zt,yg])|refine q_ ?_
    have zo:v_ g.length (yX encMv g)=yX encMv g:=zO (by simp);have zd:(yX encMv g).length=g.length:=by simp
    refine Em rfl rfl (by first|(simp[zc.arr,zo,zd];done)|(simp[zc.arr,zo,zd];rfl)) (Mn g t) rfl ?_;rintro _ rfl;refine⟨by first|simp|rfl|trivial,?_⟩;simp[zc.arr,zo,zd];rw[z0u];repeat first|(refine r_ ?_;simp)|refine q_ ?_
    cases hfi:g.findIdx? fun m:Mv=>decide (m.dst=(t:Int))with
    |none=>
     have ze:Et 0 g t m.on=g++[⟨0,t,m.on⟩]:=by unfold Et;rw[hfi];rfl
     rw[ze]at z8;simp;repeat first|(refine r_ ?_;simp)|refine q_ ?_
     refine Qk rfl ?_;simp;generalize zf:g.map encMv=mm at *;refine Qn tOk mixed [10] (.val 0 (.val 1 (.val 2 (.val 3 (.val 4 (.val 5 (.val 6 (.val 7 (.val 8 (.one 9 (.one 10 (.val 11 (.done))))))))))))) rfl (by kernel_rfl) ?_
     simp[yx,zt,yg];refine Qe tOk rfl rfl T23 rfl T78 rfl (by decide) (by decide) rfl rfl rfl ?_;simp[Qa yq,Qi yq,yq,zd];refine⟨by simp[Wa,Qa yq,Qi yq,yq,zd]<;>omega,?_⟩;repeat first|(refine r_ ?_;simp[hw])|refine q_ ?_
     refine Qc (sl':=[(1,LI (Ed cl)),(2,.i s),(3,.vptr 0 0),(6,.nils),(7,.sl (Y.length+1) 3 0 (g++[(⟨0,t,m.on⟩:Mv)]).length),(8,.i (i+1:Nat))]) ?_ (by simp);refine z8 (Y.length+1) _ ⟨by omega,?_⟩ (by omega);have y3:=zc.put [AObj.arr 78 3 [encMv ⟨0,t,m.on⟩]] (mm++[encMv ⟨0,t,m.on⟩]) rfl;have e:(g++[(⟨0,t,m.on⟩:Mv)]).map encMv=mm++[encMv ⟨0,t,m.on⟩]:=by rw[←zf];simp
     rw[e];simpa using y3
    |some k=>
     obtain⟨zp,x7,-⟩:=List.findIdx?_eq_some_iff_getElem.1 hfi;have yv:g[k]? =some g[k]:=zI zp;have ze:Et 0 g t m.on=g.set k { g[k]with on:=Wp g[k].on m.on }:=by unfold Et;rw[hfi];simp[yv]
     rw[ze]at z8;simp;refine Qb rfl (fun h=>by simp at h;omega) (fun _=> ?_);repeat first|(refine r_ ?_;simp)|refine q_ ?_
     have zb:(g.map encMv)[k]? =some (.agg [.i g[k].src,.i g[k].dst,.list (g[k].on.map encL)]):=by simp[zp]
     have yh:∀hh,(g.map encMv)[k]'hh= .agg [.i g[k].src,.i g[k].dst,.list (g[k].on.map encL)]:=fun hh=>(zY hh).2 zb;have yw:=yr k zp;generalize zf:g.map encMv=mm at *;refine Qn tOk mixed [12] (.val 0 (.val 1 (.val 2 (.val 3 (.val 4 (.val 5 (.val 6 (.val 7 (.val 8 (.one 9 (.val 10 (.val 11 (.one 12 (.done)))))))))))))) rfl (by kernel_rfl) ?_
     simp[yq,zb,yh,zd,zp,yx];refine Qf rfl rfl (by simp) (yw) rfl ?_;rintro _ rfl;simp[yq,zb,yh,zd,zp];repeat first|(refine r_ ?_;simp[hw])|refine q_ ?_
     refine Qc (sl':=[(1,LI (Ed cl)),(2,.i s),(3,.vptr 0 0),(6,.nils),(7,.sl q 3 0 (g.set k { g[k]with on:=Wp g[k].on m.on }).length),(8,.i (i+1:Nat))]) ?_ (by simp);refine z8 q _ ⟨by omega,?_⟩ (by omega);have y3:=zc.upd [] (mm.set k (.agg [.i g[k].src,.i g[k].dst,.list ((Wp g[k].on m.on).map encL)]));have e:(g.set k { g[k]with on:=Wp g[k].on m.on }).map encMv=mm.set k (.agg [.i g[k].src,.i g[k].dst,.list ((Wp g[k].on m.on).map encL)]):=by rw[←zf,List.map_set];rfl
     rw[e];simpa using y3
  ·have hb:(m.src != s)=true:=by simpa using hms
   rw[ye (.inl hms)]at z8;repeat first|(refine r_ ?_;simp[h0,y0,y1,z1,hb])|refine q_ ?_
   refine Q6 rfl rfl ?_;simp;repeat first|(refine r_ ?_;simp)|refine q_ ?_
   refine Qk rfl ?_;simp;repeat first|(refine r_ ?_;simp[hw])|refine q_ ?_
   refine Qc (sl':=[(1,LI (Ed cl)),(2,.i s),(3,.vptr 0 0),(6,.nils),(7,.sl q 3 0 g.length),(8,.i (i+1:Nat))]) ?_ (by simp);exact z8 q _ ⟨by omega,hs.add _⟩ (by omega)
 ·have zg:i=a.mv.length:=by simp at zb;omega
  subst zg;rw[q1z]at hs yo zy yd ⊢;have yi:=Gr ha cl s;have yj:∀m∈w1o a cl s,Wd m.on=false:=fun m hm=>(Ut (zy m hm)).2 (yi.ne m hm);have hR:v0q a cl s=Bc kyM (w1o a cl s):=rfl;rw[hR];clear yi ih;generalize w1o a cl s=C at *
  repeat first|(refine r_ ?_;simp)|refine q_ ?_
  refine Qs (sl':=[(6,.nils),(7,.sl q 3 0 C.length),(11,.nils),(12,.i (0:Nat))]) ?_ (by simp);refine Wh q hs.arr ?_;simp[AV.fz];rw[zO (by simp)];refine Q3 11 78 3 rfl ?_;simp;clear hs h0;refine Qp (Qc (sl':=[(6,.nils),(7,.list (C.map encMv)),(11,.sl H.length 3 0 (0:Nat)),(12,.i (0:Nat))]) ?_ (by simp));refine Qo (P:=Tryz.prog) (F:=fun(u:Nat×Nat×List AObj)=>⟨[(6,.nils),(7,.list (C.map encMv)),(11,.sl u.2.1 3 0 u.1),(12,.i u.1)],u.2.2⟩)
   (fun u=>u.1≤C.length∧u.2.2[u.2.1]? =some (.arr 78 3 ((k0l C u.1).map encMv))) (fun u=>C.length - u.1) ?_ (0,H.length,_) ⟨wn _,by rw[Gu];simp⟩
  rintro⟨i,q2,G⟩ ⟨yy,z7⟩ ih3;simp only at yy z7 ih3 ⊢;repeat first|(refine r_ ?_;simp)|refine q_ ?_
  refine Qb rfl (fun zz=> ?_) (fun zb=> ?_)
  ·have z1:i<C.length:=by simpa using zz
   have hw:IntKind.i64.wrap ((i:Int)+1)=i+1:=wrap_i64 _ (by omega) (by omega);have zu:=Zy C i (by omega);have yz:=w0q C i (by omega);have yk:=Hg C i z1;have zh:=fun q' G'=>ih3 (i+1,q',G');simp only[yk]at zh;clear yk;have w2:=yj _ (zK z1);have zi:(yX encMv C)[i]? =some (encMv C[i]):=by simp[z1]
   have zj:∀hh,(yX encMv C)[i]'hh=encMv C[i]:=fun hh=>by simp
   generalize C[i]=x at *;generalize k0l C i=S at *
   have z6:(S.map encMv).length=i:=by simpa using zu
   repeat first|(refine r_ ?_;simp)|refine q_ ?_
   refine Qp (Qc (sl':=[(6,.nils),(7,.list (C.map encMv)),(11,.sl q2 3 0 i),(12,.i i),(13,.i i)]) ?_ (by simp));refine Qo (P:=Tryz.prog) (F:=fun(j:Nat)=>⟨[(6,.nils),(7,.list (C.map encMv)),(11,.sl q2 3 0 i),(12,.i i),(13,.i j)],G⟩)
    (fun j=>j≤i∧Ic kyM S x j=Ic kyM S x S.length) (fun j=>j) ?_ i ⟨zQ _,by rw[zu]⟩
   rintro j ⟨hj,hJ⟩ ih4;try simp only at hj hJ ih4 ⊢
   by_cases hj0:0<j
   ·obtain⟨j',rfl⟩:∃j',j=j'+1:=⟨j - 1,by omega⟩
    have y5:j'<S.length:=by omega
    have zv:IntKind.i64.wrap (j':Int)=j':=wrap_i64 _ (by omega) (by omega);have y2:=yj _ (yz _ (zK y5));rw[x0a y5]at hJ;have zw:(yX encMv S)[j']? =some (encMv S[j']):=by simp[y5]
    have zx:∀hh,(yX encMv S)[j']'hh=encMv S[j']:=fun hh=>by simp
    have zk:(0:Int)<(j':Int)+1:=by omega
    have y6:j'<i:=by omega
    simp only[encMv]at zi zj zw zx;repeat first|(refine r_ ?_;simp)|refine q_ ?_
    refine Qn tOk mixed [] (.val 0 (.val 1 (.val 2 (.val 3 (.val 4 (.val 5 (.val 6 (.val 7 (.val 9 (.val 10 (.val 11 (.val 12 (.val 13 (.val 14 (.one 8 (.one 15 (.one 16 (.val 17 (.done))))))))))))))))))) rfl (by kernel_rfl) ?_;simp[z1,zi,zj,z7,zw,zx,zv,z6,zk,y6];refine Qf rfl rfl (by simp) (Te x.on w2) rfl ?_;rintro _ rfl;simp[z1,zi,zj,z7,zw,zx,zv,z6,zk,y6];refine Qf rfl rfl (by simp) (Te S[j'].on y2) rfl ?_;rintro _ rfl;simp[z1,zi,zj,z7,zw,zx,zv,z6,zk,y6];refine Qf rfl rfl (by simp) (Hh (Qm x.on) (Qm S[j'].on)) rfl ?_;rintro _ rfl;simp;rw[w2r];cases hb:J1 (kyM x) (kyM S[j'])with
    |true=>
     rw[hb,if_pos rfl]at hJ;refine Qk rfl ?_;repeat first|(refine r_ ?_;simp[zv])|refine q_ ?_
     refine Qc (sl':=[(6,.nils),(7,.list (C.map encMv)),(11,.sl q2 3 0 i),(12,.i i),(13,.i j')]) ?_ (by simp);exact ih4 j' ⟨by omega,hJ⟩ (by omega)
    |false=>
     rw[hb,if_neg (by simp)]at hJ;refine Qk rfl ?_;obtain⟨k,hk⟩:∃k,k=j'+1:=⟨_,rfl⟩
     rw[←hk]at hJ;have y7:k=Ic kyM S x S.length:=hJ;have za:k≤i:=by omega
     simp;refine Qs (sl':=[(6,.nils),(7,.list (C.map encMv)),(11,.sl q2 3 0 i),(12,.i i),(13,.i (k:Nat))]) ?_ (by simp[hk]);repeat first|(refine r_ ?_;simp[za])|refine q_ ?_
     refine Qe tOk rfl rfl T23 rfl T78 rfl (by decide) (by decide) rfl rfl rfl ?_;simp[z7,zu,za];refine⟨⟨fun y hy=> ?_,by simp;omega⟩,?_⟩
     ·obtain⟨c',_,rfl⟩:=zR.1 (xK hy);exact⟨rfl,rfl⟩
     refine Q4 fun Z hZ=> ?_;have y8:=Qh z7;have z2:Z[q2]? =some (.arr 78 3 (S.map encMv)):=by rw[hZ];exact Qa z7 _
     have z4:Z[G.length]? =some (.arr 78 3 ((S.map encMv).take k)):=by rw[hZ,zH (by simp)];simp
     clear hZ;refine Qs (sl':=[(6,.nils),(7,.list (C.map encMv)),(11,.sl q2 3 0 i),(12,.i i),(13,.i (k:Nat)),(14,.sl G.length 3 0 k)]) ?_ (by simp);have zl:(Nt kyM S x).map encMv=(S.map encMv).take k++(encMv x::(S.map encMv).drop k):=by rw[Nt,←y7,yF,yY,xI,xJ]
     have y9:∀y∈(S.map encMv).drop k,y.cells.length=3∧y.cells.all AV.leaf=true:=fun y hy=>by obtain⟨c',_,rfl⟩:=zR.1 (wR hy);exact⟨rfl,rfl⟩
     have zm:((S.map encMv).take k).length=k:=by rw[xN];omega
     have x0:((S.map encMv).drop k).length=i - k:=by rw[xR];omega
     have ya:q2≠G.length:=by omega
     generalize x1:S.map encMv=SS at *;generalize zo:SS.take k=tk at *;generalize G.length=u at *
     repeat first|(refine r_ ?_;simp[z1,zi,zj])|refine q_ ?_
     refine Qe tOk rfl rfl T23 rfl T78 rfl (by decide) (by decide) rfl rfl rfl ?_;simp[Qa z4,Qi z4,zm,z4];refine⟨by simp[Wa,Qa z4,Qi z4,zm,z4]<;>omega,?_⟩;refine Q4 fun Y hY=> ?_;have y2:Y[q2]? =some (.arr 78 3 SS):=by rw[hY];exact Qa (Qd (Ne.symm ya) z2 _) _
     have y4:Y[Z.length+1]? =some (.arr 78 3 (tk++[encMv x])):=by rw[hY,zH (by simp)];simp
     have x2:=Qh y4;clear hY;have zn:(tk++[encMv x]).length=k+1:=by simp[zm]
     refine Qs (sl':=[(6,.nils),(7,.list (C.map encMv)),(11,.sl q2 3 0 i),(12,.i i),(13,.i (k:Nat)),(14,.sl (Z.length+1) 3 0 (k+1))]) ?_ (by simp);have yb:q2≠Z.length+1:=by have:=Qh z2;omega
     generalize Z.length+1=v at *;generalize zf:tk++[encMv x]=mm at *
     repeat first|(refine r_ ?_;simp[za])|refine q_ ?_
     refine Qe tOk rfl rfl T23 rfl T78 rfl (by decide) (by decide) rfl rfl rfl ?_;simp[y4,y2,zn,z6,za];rw[Fw z6.symm];refine⟨⟨y9,by simp;omega⟩,?_⟩;repeat first|(refine r_ ?_;simp[hw])|refine q_ ?_
     refine Qc (sl':=[(6,.nils),(7,.list (C.map encMv)),(11,.sl Y.length 3 0 (i+1)),(12,.i (i+1:Nat))]) ?_ (by simp;omega);refine zh Y.length _ ⟨by omega,?_⟩ (by omega);rw[zl,zH (by simp),←zf];simp
   ·have x3:j=0:=by omega
    subst x3;have yl:IntKind.i64.wrap (-1)= -1:=by decide
    repeat first|(refine r_ ?_;simp)|refine q_ ?_
    refine Qn tOk mixed [] (.val 0 (.val 1 (.val 2 (.val 3 (.val 4 (.val 5 (.val 6 (.val 7 (.val 9 (.val 10 (.val 11 (.val 12 (.val 13 (.val 14 (.one 8 (.one 15 (.one 16 (.val 17 (.done))))))))))))))))))) rfl (by kernel_rfl) ?_;simp[z1,zi,zj,z7,z6,yl];refine Q6 rfl rfl ?_;simp[z7,z6,yl];refine Q6 rfl rfl ?_;simp;refine Q6 rfl rfl ?_;simp;refine Qk rfl ?_;obtain⟨k,hk⟩:∃k,k=0:=⟨_,rfl⟩
    have y7:k=Ic kyM S x S.length:=by rw[←hJ,hk];unfold Ic;rfl
    have za:k≤i:=by omega
    simp;refine Qs (sl':=[(6,.nils),(7,.list (C.map encMv)),(11,.sl q2 3 0 i),(12,.i i),(13,.i (k:Nat))]) ?_ (by simp[hk]);repeat first|(refine r_ ?_;simp[za])|refine q_ ?_
    refine Qe tOk rfl rfl T23 rfl T78 rfl (by decide) (by decide) rfl rfl rfl ?_;simp[z7,zu,za];refine⟨⟨fun y hy=> ?_,by simp;omega⟩,?_⟩
    ·obtain⟨c',_,rfl⟩:=zR.1 (xK hy);exact⟨rfl,rfl⟩
    refine Q4 fun Z hZ=> ?_;have y8:=Qh z7;have z2:Z[q2]? =some (.arr 78 3 (S.map encMv)):=by rw[hZ];exact Qa z7 _
    have z4:Z[G.length]? =some (.arr 78 3 ((S.map encMv).take k)):=by rw[hZ,zH (by simp)];simp
    clear hZ;refine Qs (sl':=[(6,.nils),(7,.list (C.map encMv)),(11,.sl q2 3 0 i),(12,.i i),(13,.i (k:Nat)),(14,.sl G.length 3 0 k)]) ?_ (by simp);have zl:(Nt kyM S x).map encMv=(S.map encMv).take k++(encMv x::(S.map encMv).drop k):=by rw[Nt,←y7,yF,yY,xI,xJ]
    have y9:∀y∈(S.map encMv).drop k,y.cells.length=3∧y.cells.all AV.leaf=true:=fun y hy=>by obtain⟨c',_,rfl⟩:=zR.1 (wR hy);exact⟨rfl,rfl⟩
    have zm:((S.map encMv).take k).length=k:=by rw[xN];omega
    have x0:((S.map encMv).drop k).length=i - k:=by rw[xR];omega
    have ya:q2≠G.length:=by omega
    generalize x1:S.map encMv=SS at *;generalize zo:SS.take k=tk at *;generalize G.length=u at *
    repeat first|(refine r_ ?_;simp[z1,zi,zj])|refine q_ ?_
    refine Qe tOk rfl rfl T23 rfl T78 rfl (by decide) (by decide) rfl rfl rfl ?_;simp[Qa z4,Qi z4,zm,z4];refine⟨by simp[Wa,Qa z4,Qi z4,zm,z4]<;>omega,?_⟩;refine Q4 fun Y hY=> ?_;have y2:Y[q2]? =some (.arr 78 3 SS):=by rw[hY];exact Qa (Qd (Ne.symm ya) z2 _) _
    have y4:Y[Z.length+1]? =some (.arr 78 3 (tk++[encMv x])):=by rw[hY,zH (by simp)];simp
    have x2:=Qh y4;clear hY;have zn:(tk++[encMv x]).length=k+1:=by simp[zm]
    refine Qs (sl':=[(6,.nils),(7,.list (C.map encMv)),(11,.sl q2 3 0 i),(12,.i i),(13,.i (k:Nat)),(14,.sl (Z.length+1) 3 0 (k+1))]) ?_ (by simp);have yb:q2≠Z.length+1:=by have:=Qh z2;omega
    generalize Z.length+1=v at *;generalize zf:tk++[encMv x]=mm at *
    repeat first|(refine r_ ?_;simp[za])|refine q_ ?_
    refine Qe tOk rfl rfl T23 rfl T78 rfl (by decide) (by decide) rfl rfl rfl ?_;simp[y4,y2,zn,z6,za];rw[Fw z6.symm];refine⟨⟨y9,by simp;omega⟩,?_⟩;repeat first|(refine r_ ?_;simp[hw])|refine q_ ?_
    refine Qc (sl':=[(6,.nils),(7,.list (C.map encMv)),(11,.sl Y.length 3 0 (i+1)),(12,.i (i+1:Nat))]) ?_ (by simp;omega);refine zh Y.length _ ⟨by omega,?_⟩ (by omega);rw[zl,zH (by simp),←zf];simp
  ·have zg:i=C.length:=by simp at zb;omega
   subst zg;rw[w00]at z7;have ym:(Bc kyM C).length=C.length:=by rw[←w00];exact Zy C _ (zQ _)
   refine Wh q2 z7 ?_;simp[ym,AV.fz];rw[zO (by simp[ym])];repeat first|(refine r_ ?_;simp)|refine q_ ?_
end Go.Abs
namespace Go.Abs
open Go Go.Proofs Go.Maps Go.RowKit
theorem c0v(a:Aut)(c:Nat):d1i (Ed (clA a)) c=(Y5 a c:Nat):=f1k (clA a) c
theorem y1r(a:Aut)(c:Nat):v0q a (clA a) (Y5 a c:Nat)=Ih a c:=rfl
theorem c08{l:List Bool}{i:Nat}(h:i<l.length):l[i]? =some (l.getD i false):=by simp[yV,h]
attribute [local irreducible] clA Y5 Ih Wj O3 Jx qMv qM qF Ww Rj v0q Kv
theorem c0z(a:Aut)(ha:Dfa a):PC Tryz.prog 83 [encA a] (fun r=>r=encA (Ww a)):=by
 refine Ql tOk Tryz.func83 rfl Tryz.results83 rfl (by simp[Tryz.ntmps83]) ?_;rw[Tryz.ntmps83];simp only[Qg];simp only[encA];have x7:=ha.ok.fin;have hlen:=G7 ha;have hle:=u1o ha;have y5:0<(clA a).length:=by rw[hlen];have:=ha.zero.2;omega
 have yn:=z0k ha;have x8:∀hh,(clA a)[0]'hh=Rj a 0:=fun hh=>(zY hh).2 yn;repeat first|(refine r_ ?_;simp)|refine q_ ?_
 have cG:=v0m a ha;have cM:=fun(s:Int)=>v0c a ha (clA a) hlen s;have x9:=fun c=>c0v a c;have yp:(Ed (clA a))[0]? =some ((Rj a 0:Nat):Int):=by simp[yn]
 have xa:0<(Ed (clA a)).length:=by simp[y5]
 generalize Ed (clA a)=CL at *
 have y6:∀hh,CL[0]'hh=((Rj a 0:Nat):Int):=fun hh=>(zY hh).2 yp;refine Qf rfl rfl (by simp) (cG) rfl ?_;rintro _ rfl;simp;repeat first|(refine r_ ?_;simp[xa,yp,y6])|refine q_ ?_
 refine Qs (sl':=[(1,.vptr 0 0),(2,.vptr 1 0),(3,LI (CL)),(4,.sl 2 1 0 1),(5,.vptr 3 0),(6,.i (0:Nat))]) ?_ (by simp);refine Wt 3 1 4 1 rfl rfl ?_;refine Q4 fun Z1 zg=> ?_;have z1l:Z1.length=5:=by rw[zg];simp
 have z1c:Z1[3]? =some (.vars [.i a.types,.sl 4 1 0 0,.nils]):=by rw[zg];rfl
 have z1f:Z1[4]? =some (.arr 4 1 []):=by rw[zg];rfl
 have z1o:Z1[2]? =some (.arr 3 1 [.i (Rj a 0:Nat)]):=by rw[zg];rfl
 have z10:Z1[0]? =some (.vars (Qu a)):=by rw[zg];rfl
 have z11:Z1[1]? =some (.vars [.i 0,.nils,.nils]):=by rw[zg];rfl
 clear zg;refine Wt 3 2 78 3 z1c rfl ?_;refine Q4 fun Z2 zh=> ?_;have z2c:Z2[3]? =some (.vars [.i a.types,.sl 4 1 0 0,.sl 5 3 0 0]):=by rw[zh,zL (by simp;omega)];simp[z1l]
 have z2f:Z2[4]? =some (.arr 4 1 []):=by rw[zh,zB (by omega),zF (by omega)];exact z1f
 have z2v:Z2[5]? =some (.arr 78 3 []):=by rw[zh,zB (by omega),zH (by omega)];simp[z1l]
 have z2o:Z2[2]? =some (.arr 3 1 [.i (Rj a 0:Nat)]):=by rw[zh,zB (by omega),zF (by omega)];exact z1o
 have z20:Z2[0]? =some (.vars (Qu a)):=by rw[zh,zB (by omega),zF (by omega)];exact z10
 have z21:Z2[1]? =some (.vars [.i 0,.nils,.nils]):=by rw[zh,zB (by omega),zF (by omega)];exact z11
 clear zh z1l z1c z1f z10 z11 z1o;clear Z1;refine Qp (Qc (sl':=[(1,.vptr 0 0),(2,.vptr 1 0),(3,LI (CL)),(4,.sl 2 1 0 [Rj a 0].length),(5,.vptr 3 0),(6,.i (0:Nat))]) ?_ (by simp));refine Qo (P:=Tryz.prog) (F:=fun(u:Nat×List Nat×Nat×Nat×Nat×List AObj)=>⟨[(1,.vptr 0 0),(2,.vptr 1 0),(3,LI (CL)),(4,.sl u.2.2.1 1 0 u.2.1.length),(5,.vptr 3 0),(6,.i u.1)],u.2.2.2.2.2⟩)
  (fun u=>QI a u.1 u.2.1∧u.2.2.2.2.2[0]? =some (.vars (Qu a))∧u.2.2.2.2.2[1]? =some (.vars [.i 0,.nils,.nils])∧u.2.2.2.2.2[3]? =some (.vars [.i a.types,.sl u.2.2.2.1 1 0 u.1,.sl u.2.2.2.2.1 3 0 (qM a u.1 u.2.1).length])∧u.2.2.2.2.2[u.2.2.1]? =some (.arr 3 1 ((Ed u.2.1).map .i))∧u.2.2.2.2.2[u.2.2.2.1]? =some (.arr 4 1 ((qF a (u.2.1.take u.1)).map .bool))∧u.2.2.2.2.2[u.2.2.2.2.1]? =some (.arr 78 3 ((qM a u.1 u.2.1).map encMv)))
  (fun u=>a.fin.length+1 - u.1) ?_ (0,[Rj a 0],2,4,5,Z2) ⟨QI.zero ha,z20,z21,by rw[Z7];exact z2c,z2o,by simpa[u1g]using z2f,by rw[Z7];exact z2v⟩
 clear z20 z21 z2c z2f z2v z2o;clear Z2;rintro⟨n,O,o,f,v,G⟩ ⟨hQ,g0,g1,gc,go,gf,gv⟩ ih;simp only at hQ g0 g1 gc go gf gv ih ⊢;have xq:=hQ.len ha;have xb:=hQ.cl;repeat first|(refine r_ ?_;simp)|refine q_ ?_
 refine Qb rfl (fun xc=> ?_) (fun xd=> ?_)
 ·have ze:n<O.length:=by simpa using xc
  have hw:IntKind.i64.wrap ((n:Int)+1)=n+1:=wrap_i64 _ (by omega) (by omega);have y7:O[n]? =some O[n]:=zI ze;have y2:=xb _ (zK ze);have yq:=hQ.step ha y7;have yr:=c09 hQ y7;have yt:=q1p a (Ih a O[n]) y7;have xe:=u1i ha hQ;have y3:=fun o' f' v' G'=>ih (n+1,Wj O (Ih a O[n]),o',f',v',G');simp only[yr,yt]at y3;clear yr yt ih;have xf:((Ed O).map AV.i)[n]? =some (.i (O[n]:Nat)):=by simp[ze]
  have xr:∀hh,((Ed O).map AV.i)[n]'hh= .i (O[n]:Nat):=fun hh=>(zY hh).2 xf;have xg:((Ed O).map AV.i).length=O.length:=by simp
  have yu:=(O2 ha y2).1;have xt:=B9 ha y2;have xh:=y1r a O[n];have xi:=Fp ha y2;have yw:∀m∈Ih a O[n],∃d:Nat,m.dst=d∧d≤1000000:=fun m hm=>by obtain⟨x,_,e,_,e2,_⟩:=Fj ha y2 hm;exact⟨_,e,w0l ha e2⟩
  generalize xj:O[n]=c at *
  have yx:=c08 yu;have xk:∀hh,a.fin[Y5 a c]'hh=a.fin.getD (Y5 a c) false:=fun hh=>(zY hh).2 yx;generalize a.fin.getD (Y5 a c) false=b at *
  have xu:(Wk a (Y5 a c:Nat)).length≤a.mv.length:=List.length_filter_le _ _;have xv:=ha.ok.mvs;have y8:o≠f:=fun e=>by rw[e,gf]at go;simp at go
  have y9:o≠v:=fun e=>by rw[e,gv]at go;simp at go
  have zi:f≠v:=fun e=>by rw[e,gv]at gf;simp at gf
  have y4:o≠3:=fun e=>by rw[e,gc]at go;simp at go
  have zn:f≠3:=fun e=>by rw[e,gc]at gf;simp at gf
  have zr:v≠3:=fun e=>by rw[e,gc]at gv;simp at gv
  have yy:o≠0:=fun e=>by rw[e,g0]at go;simp at go
  have xl:f≠0:=fun e=>by rw[e,g0]at gf;simp at gf
  have ya:v≠0:=fun e=>by rw[e,g0]at gv;simp at gv
  have yz:o≠1:=fun e=>by rw[e,g1]at go;simp at go
  have yb:f≠1:=fun e=>by rw[e,g1]at gf;simp at gf
  have zt:v≠1:=fun e=>by rw[e,g1]at gv;simp at gv
  repeat first|(refine r_ ?_;simp[go,xg,ze,xj])|refine q_ ?_
  refine Qf rfl rfl (by simp) (y04 CL c) rfl ?_;rintro _ rfl;simp;rw[x9 c];repeat first|(refine r_ ?_;simp)|refine q_ ?_
  have zu:((qF a (O.take n)).map AV.bool).length=n:=by simp[w04];omega
  generalize xw:(qF a (O.take n))=fs at *;refine Qn tOk mixed [8,10] (.val 0 (.val 1 (.val 2 (.val 3 (.val 4 (.val 5 (.val 6 (.one 7 (.one 8 (.val 9 (.one 10 (.done)))))))))))) rfl (by kernel_rfl) ?_
  simp[gc,g0,yu,yx,xk];have g2c:∀M,(G.set f .dead++M)[3]? =some (.vars [.i a.types,.sl f 1 0 n,.sl v 3 0 (qM a n O).length]):=fun M=>Qa (Qd zn gc _) M;have g2d:∀M hh,(G.set f .dead++M)[3]'hh= .vars [.i a.types,.sl f 1 0 n,.sl v 3 0 (qM a n O).length]:=fun M hh=>(zY hh).2 (g2c M);refine Qe tOk rfl rfl T22 rfl T4 rfl (by decide) (by decide) rfl rfl rfl ?_;simp[Qa gf,Qi gf,gf,zu,g2c,g2d];refine⟨by simp[Wa,Qa gf,Qi gf,gf,zu,g2c,g2d]<;>omega,?_⟩;refine Q4 fun Z hZ=> ?_;have yd:=Qh go;have ye:=Qh gv;have yg:=Qh gf;have z0:Z[0]? =some (.vars (Qu a)):=by rw[hZ];exact Qd (by decide) (Qa (Qd xl g0 _) _) _
  have z1:Z[1]? =some (.vars [.i 0,.nils,.nils]):=by rw[hZ];exact Qd (by decide) (Qa (Qd yb g1 _) _) _
  have zc:Z[3]? =some (.vars [.i a.types,.sl (G.length+1) 1 0 (n+1),.sl v 3 0 (qM a n O).length]):=by rw[hZ];exact Qj (g2c _) _
  have zf:Z[G.length+1]? =some (.arr 4 1 ((fs++[b]).map .bool)):=by rw[hZ,zB (by omega),zH (by simp)];simp
  have zv:Z[v]? =some (.arr 78 3 ((qM a n O).map encMv)):=by rw[hZ];exact Qd (Ne.symm zr) (Qa (Qd zi gv _) _) _
  have zo:Z[o]? =some (.arr 3 1 ((Ed O).map .i)):=by rw[hZ];exact Qd (Ne.symm y4) (Qa (Qd (Ne.symm y8) go _) _) _
  clear hZ g2c g2d g0 g1 gc go gf gv;generalize G.length+1=f1 at *
  repeat first|(refine r_ ?_;simp[z0])|refine q_ ?_
  refine Qf rfl rfl (by simp) (cM (Y5 a c)) rfl ?_;rintro _ rfl;simp;rw[xh];obtain⟨M,hM⟩:∃M,M=qM a n O:=⟨_,rfl⟩
  rw[←hM]at zc zv xe y3;obtain⟨L,hL⟩:∃L,L=Ih a c:=⟨_,rfl⟩
  rw[←hL]at xi yw y3 yq;rw[←hL];repeat first|(refine r_ ?_;simp)|refine q_ ?_
  refine Qp (Qc (sl':=[(1,.vptr 0 0),(2,.vptr 1 0),(3,LI (CL)),(4,.sl o 1 0 (Wj O (L.take 0)).length),(5,.vptr 3 0),(6,.i n),(8,.list (L.map encMv)),(9,.i (0:Nat))]) ?_ (by simp[Td]));refine Qo (P:=Tryz.prog) (F:=fun(u:Nat×Nat×Nat×List AObj)=>⟨[(1,.vptr 0 0),(2,.vptr 1 0),(3,LI (CL)),(4,.sl u.2.1 1 0 (Wj O (L.take u.1)).length),(5,.vptr 3 0),(6,.i n),(8,.list (L.map encMv)),(9,.i u.1)],u.2.2.2⟩)
   (fun u=>u.1≤L.length∧u.2.2.2[0]? =some (.vars (Qu a))∧u.2.2.2[1]? =some (.vars [.i 0,.nils,.nils])∧u.2.2.2[3]? =some (.vars [.i a.types,.sl f1 1 0 (n+1),.sl u.2.2.1 3 0 (M++qMv O L n u.1).length])∧u.2.2.2[u.2.1]? =some (.arr 3 1 ((Ed (Wj O (L.take u.1))).map .i))∧u.2.2.2[f1]? =some (.arr 4 1 ((fs++[b]).map .bool))∧u.2.2.2[u.2.2.1]? =some (.arr 78 3 ((M++qMv O L n u.1).map encMv)))
   (fun u=>L.length - u.1) ?_ (0,o,v,Z) ⟨wn _,z0,z1,by rw[Fi,xD];exact zc,by rw[List.take_zero,Td];exact zo,zf,by rw[Fi,xD];exact zv⟩
  clear z0 z1 zc zo zf zv yd ye yg;clear Z;rintro⟨j,o,v,Z⟩ ⟨hj,z0,z1,zc,zo,zf,zv⟩ ih2;simp only at hj z0 z1 zc zo zf zv ih2 ⊢;repeat first|(refine r_ ?_;simp)|refine q_ ?_
  refine Qb rfl (fun yh=> ?_) (fun yi=> ?_)
  ·have z6:j<L.length:=by simpa using yh
   have x0:IntKind.i64.wrap ((j:Int)+1)=j+1:=wrap_i64 _ (by omega) (by omega);have x3:=w0t O L n z6;have x4:=Pu (o:=O) z6;have xx:=j07 O L n j;have xy:(Wj O (L.take j)).length≤O.length+L.length:=Lg O (L.take j) (by simp;omega);have z7:=fun o' v' Z'=>ih2 (j+1,o',v',Z');simp only[x3,x4,←List.append_assoc]at z7;clear x3 x4;obtain⟨d,hd,xz⟩:=yw _ (zK z6);have zj:(L.map encMv)[j]? =some (encMv L[j]):=by simp[z6]
   have zk:∀hh,(L.map encMv)[j]'hh=encMv L[j]:=fun hh=>by simp
   generalize xm:L[j]=m at *;rw[hd]at z7;simp only[Int.toNat_natCast]at z7;generalize hN:M++qMv O L n j=N at *
   have w2:N.length≤700000:=by rw[←hN,List.length_append];omega
   generalize Wj O (L.take j)=Oj at *;simp only[encMv]at zj zk;rw[hd]at zj zk
   have xn:m.dst=d:=hd;have fM:=w0h (X1 Oj d);have zw:(O3 Oj d).length≤4000:=by
    have h2:(O3 Oj d).length≤Oj.length+1:=by unfold O3;split<;>simp
    omega
   have xo:3<Z.length:=Qh zc;have y8:o≠f1:=fun e=>by rw[e,zf]at zo;simp at zo
   have y9:o≠v:=fun e=>by rw[e,zv]at zo;simp at zo
   have zi:f1≠v:=fun e=>by rw[e,zv]at zf;simp at zf
   have y4:o≠3:=fun e=>by rw[e,zc]at zo;simp at zo
   have zn:f1≠3:=fun e=>by rw[e,zc]at zf;simp at zf
   have zr:v≠3:=fun e=>by rw[e,zc]at zv;simp at zv
   have yy:o≠0:=fun e=>by rw[e,z0]at zo;simp at zo
   have ya:v≠0:=fun e=>by rw[e,z0]at zv;simp at zv
   have yz:o≠1:=fun e=>by rw[e,z1]at zo;simp at zo
   have zt:v≠1:=fun e=>by rw[e,z1]at zv;simp at zv
   by_cases hmem:d∈Oj
   ·have zp:O3 Oj d=Oj:=by unfold O3;rw[if_pos hmem]
    rw[zp]at z7 fM zw;obtain⟨x,hx⟩:∃x,x=Jx Oj d:=⟨_,rfl⟩
    rw[←hx]at z7 fM;clear hx zp;have zq:(Ed Oj).length=Oj.length:=by simp
    generalize Ed Oj=NO at *
    have z8:(NO.map AV.i).length=Oj.length:=by simp[zq]
    have za:v_ Oj.length (NO.map AV.i)=NO.map AV.i:=zO (by simp[zq]);repeat first|(refine r_ ?_;simp[zj,zk,z6])|refine q_ ?_
    refine Em rfl rfl (by first|(simp[zo,za,z8];done)|(simp[zo,za,z8];rfl)) (F8 NO d) rfl ?_;rintro _ rfl;refine⟨by first|simp|rfl|trivial,?_⟩;simp[zo,za,z8];rw[fM];refine Qb rfl (fun h=>by simp at h;omega) (fun _=> ?_);repeat first|(refine r_ ?_;simp)|refine q_ ?_
    have y0:=z0;have y1:=z1;have yc:=zc;have yo:=zo;have yf:=zf;have yv:=zv;have zb:=z8;have zd:=za;have zl:=y4;have zm:=y9;have xp:=xo;have zx:(N.map encMv).length=N.length:=by simp
    have yj:(N++[(⟨n,x,m.on⟩:Mv)]).map encMv=N.map encMv++[encMv ⟨n,x,m.on⟩]:=by simp
    have yk:(N++[(⟨n,x,m.on⟩:Mv)]).length=N.length+1:=by simp
    rw[yj,yk]at z7;generalize N.map encMv=NM at *
    have g3c:∀M,(Z.set v .dead++M)[3]? =some (.vars [.i a.types,.sl f1 1 0 (n+1),.sl v 3 0 N.length]):=fun M=>Qa (Qd zr yc _) M;have g3d:∀M hh,(Z.set v .dead++M)[3]'hh= .vars [.i a.types,.sl f1 1 0 (n+1),.sl v 3 0 N.length]:=fun M hh=>(zY hh).2 (g3c M);refine Qn tOk mixed [17,19] (.val 0 (.val 1 (.val 2 (.val 3 (.val 4 (.val 5 (.val 6 (.val 7 (.val 8 (.val 10 (.val 11 (.val 12 (.val 13 (.val 14 (.one 9 (.val 15 (.one 16 (.one 17 (.val 18 (.one 19 (.done))))))))))))))))))))) rfl (by kernel_rfl) ?_;simp[yc,zj,zk,z6];refine Em rfl rfl (by first|(simp[yo,zd,zb];done)|(simp[yo,zd,zb];rfl)) (F8 NO d) rfl ?_;rintro _ rfl;refine⟨by first|simp|rfl|trivial,?_⟩;simp[yo,zd,zb];rw[fM];refine Qe tOk rfl rfl T23 rfl T78 rfl (by decide) (by decide) rfl rfl rfl ?_;simp[Qa yv,Qi yv,yv,zx,g3c,g3d];refine⟨by simp[Wa,Qa yv,Qi yv,yv,zx,g3c,g3d]<;>omega,?_⟩;refine Q4 fun W hW=> ?_;have yl:=Qh yv;have w0:W[0]? =some (.vars (Qu a)):=by rw[hW];exact Qd (by decide) (Qa (Qd ya y0 _) _) _
    have w1:W[1]? =some (.vars [.i 0,.nils,.nils]):=by rw[hW];exact Qd (by decide) (Qa (Qd zt y1 _) _) _
    have wc:W[3]? =some (.vars [.i a.types,.sl f1 1 0 (n+1),.sl (Z.length+1) 3 0 (N.length+1)]):=by rw[hW];exact Qj (g3c _) _
    have wo:W[o]? =some (.arr 3 1 (NO.map .i)):=by rw[hW];exact Qd (Ne.symm zl) (Qa (Qd (Ne.symm zm) yo _) _) _
    have wf:W[f1]? =some (.arr 4 1 ((fs++[b]).map .bool)):=by rw[hW];exact Qd (Ne.symm zn) (Qa (Qd (Ne.symm zi) yf _) _) _
    have wv:W[Z.length+1]? =some (.arr 78 3 (NM++[encMv ⟨n,x,m.on⟩])):=by rw[hW,zB (by omega),zH (by simp)];simp
    clear hW;repeat first|(refine r_ ?_;simp[x0])|refine q_ ?_
    refine Qc (sl':=[(1,.vptr 0 0),(2,.vptr 1 0),(3,LI CL),(4,.sl o 1 0 Oj.length),(5,.vptr 3 0),(6,.i n),(8,.list (L.map encMv)),(9,.i (j+1:Nat))]) ?_ (by simp);exact z7 o (Z.length+1) W ⟨by omega,w0,w1,wc,wo,wf,wv⟩ (by omega)
   ·have fN:=x13 hmem;have zp:O3 Oj d=Oj++[d]:=by unfold O3;rw[if_neg hmem]
    have x5:Ed (O3 Oj d)=Ed Oj++[(d:Int)]:=by rw[zp];simp
    rw[x5]at z7 fM;rw[zp]at z7 fM zw;obtain⟨x,hx⟩:∃x,x=Jx (Oj++[d]) d:=⟨_,rfl⟩
    rw[←hx]at z7 fM;clear hx zp x5;have zq:(Ed Oj).length=Oj.length:=by simp
    generalize Ed Oj=NO at *
    have z8:(NO.map AV.i).length=Oj.length:=by simp[zq]
    have za:v_ Oj.length (NO.map AV.i)=NO.map AV.i:=zO (by simp[zq]);repeat first|(refine r_ ?_;simp[zj,zk,z6])|refine q_ ?_
    refine Em rfl rfl (by first|(simp[zo,za,z8];done)|(simp[zo,za,z8];rfl)) (F8 NO d) rfl ?_;rintro _ rfl;refine⟨by first|simp|rfl|trivial,?_⟩;simp[zo,za,z8];rw[fN];refine Qb rfl (fun _=> ?_) (fun h=>by simp at h);repeat first|(refine r_ ?_;simp[zj,zk,z6])|refine q_ ?_
    refine Qe tOk rfl rfl T40 rfl T3 rfl (by decide) (by decide) rfl rfl rfl ?_;simp[Qa zo,Qi zo,zo,z8];refine⟨by simp[Wa,Qa zo,Qi zo,zo,z8]<;>omega,?_⟩;refine Q4 fun Y hY=> ?_;have w3:=Qh zv;have w4:=Qh zf;have y0:Y[0]? =some (.vars (Qu a)):=by rw[hY];exact Qa (Qd yy z0 _) _
    have y1:Y[1]? =some (.vars [.i 0,.nils,.nils]):=by rw[hY];exact Qa (Qd yz z1 _) _
    have yc:Y[3]? =some (.vars [.i a.types,.sl f1 1 0 (n+1),.sl v 3 0 N.length]):=by rw[hY];exact Qa (Qd y4 zc _) _
    have yf:Y[f1]? =some (.arr 4 1 ((fs++[b]).map .bool)):=by rw[hY];exact Qa (Qd y8 zf _) _
    have yv:Y[v]? =some (.arr 78 3 (N.map encMv)):=by rw[hY];exact Qa (Qd y9 zv _) _
    have yo:Y[Z.length+1]? =some (.arr 3 1 ((NO++[(d:Int)]).map .i)):=by rw[hY,zH (by simp)];simp
    have xp:=Qh yc;clear hY;refine Qs (sl':=[(1,.vptr 0 0),(2,.vptr 1 0),(3,LI CL),(4,.sl (Z.length+1) 1 0 (Oj++[d]).length),(5,.vptr 3 0),(6,.i n),(8,.list (L.map encMv)),(9,.i j)]) ?_ (by simp);have zl:Z.length+1≠3:=by omega
    have zm:Z.length+1≠v:=by omega
    generalize Z.length+1=oq at *
    have zy:(NO++[(d:Int)]).length=(Oj++[d]).length:=by simp[zq]
    generalize w5:NO++[(d:Int)]=NQ at *;generalize w6:Oj++[d]=OQ at *
    have zb:(NQ.map AV.i).length=OQ.length:=by simp[zy]
    have zd:v_ OQ.length (NQ.map AV.i)=NQ.map AV.i:=zO (by simp[zy]);have zx:(N.map encMv).length=N.length:=by simp
    have yj:(N++[(⟨n,x,m.on⟩:Mv)]).map encMv=N.map encMv++[encMv ⟨n,x,m.on⟩]:=by simp
    have yk:(N++[(⟨n,x,m.on⟩:Mv)]).length=N.length+1:=by simp
    rw[yj,yk]at z7;generalize N.map encMv=NM at *
    have g3c:∀M,(Y.set v .dead++M)[3]? =some (.vars [.i a.types,.sl f1 1 0 (n+1),.sl v 3 0 N.length]):=fun M=>Qa (Qd zr yc _) M;have g3d:∀M hh,(Y.set v .dead++M)[3]'hh= .vars [.i a.types,.sl f1 1 0 (n+1),.sl v 3 0 N.length]:=fun M hh=>(zY hh).2 (g3c M);refine Qn tOk mixed [17,19] (.val 0 (.val 1 (.val 2 (.val 3 (.val 4 (.val 5 (.val 6 (.val 7 (.val 8 (.val 10 (.val 11 (.val 12 (.val 13 (.val 14 (.one 9 (.val 15 (.one 16 (.one 17 (.val 18 (.one 19 (.done))))))))))))))))))))) rfl (by kernel_rfl) ?_;simp[yc,zj,zk,z6];refine Em rfl rfl (by first|(simp[yo,zd,zb];done)|(simp[yo,zd,zb];rfl)) (F8 NQ d) rfl ?_;rintro _ rfl;refine⟨by first|simp|rfl|trivial,?_⟩;simp[yo,zd,zb];rw[fM];refine Qe tOk rfl rfl T23 rfl T78 rfl (by decide) (by decide) rfl rfl rfl ?_;simp[Qa yv,Qi yv,yv,zx,g3c,g3d];refine⟨by simp[Wa,Qa yv,Qi yv,yv,zx,g3c,g3d]<;>omega,?_⟩;refine Q4 fun W hW=> ?_;have yl:=Qh yv;have w0:W[0]? =some (.vars (Qu a)):=by rw[hW];exact Qd (by decide) (Qa (Qd ya y0 _) _) _
    have w1:W[1]? =some (.vars [.i 0,.nils,.nils]):=by rw[hW];exact Qd (by decide) (Qa (Qd zt y1 _) _) _
    have wc:W[3]? =some (.vars [.i a.types,.sl f1 1 0 (n+1),.sl (Y.length+1) 3 0 (N.length+1)]):=by rw[hW];exact Qj (g3c _) _
    have wo:W[oq]? =some (.arr 3 1 (NQ.map .i)):=by rw[hW];exact Qd (Ne.symm zl) (Qa (Qd (Ne.symm zm) yo _) _) _
    have wf:W[f1]? =some (.arr 4 1 ((fs++[b]).map .bool)):=by rw[hW];exact Qd (Ne.symm zn) (Qa (Qd (Ne.symm zi) yf _) _) _
    have wv:W[Y.length+1]? =some (.arr 78 3 (NM++[encMv ⟨n,x,m.on⟩])):=by rw[hW,zB (by omega),zH (by simp)];simp
    clear hW;repeat first|(refine r_ ?_;simp[x0])|refine q_ ?_
    refine Qc (sl':=[(1,.vptr 0 0),(2,.vptr 1 0),(3,LI CL),(4,.sl oq 1 0 OQ.length),(5,.vptr 3 0),(6,.i n),(8,.list (L.map encMv)),(9,.i (j+1:Nat))]) ?_ (by simp);exact z7 oq (Y.length+1) W ⟨by omega,w0,w1,wc,wo,wf,wv⟩ (by omega)
  ·have zz:j=L.length:=by simp at yi;omega
   subst zz;rw[yP]at zo ⊢;repeat first|(refine r_ ?_;simp[hw])|refine q_ ?_
   refine Qc (sl':=[(1,.vptr 0 0),(2,.vptr 1 0),(3,LI CL),(4,.sl o 1 0 (Wj O L).length),(5,.vptr 3 0),(6,.i (n+1:Nat))]) ?_ (by simp);exact y3 o f1 v Z ⟨yq,z0,z1,zc,zo,zf,zv⟩ (by omega)
 ·have ym:n=O.length:=by simp at xd;have:=hQ.le;omega
  rw[d0y ha hQ ym];have x6:=w04 a (O.take n);rw[xN,Nat.min_eq_left hQ.le]at x6;generalize qF a (O.take n)=fs at *;generalize qM a n O=M at *
  have zi:f≠v:=fun e=>by rw[e,gv]at gf;simp at gf
  have zn:f≠3:=fun e=>by rw[e,gc]at gf;simp at gf
  have zr:v≠3:=fun e=>by rw[e,gc]at gv;simp at gv
  have yb:f≠1:=fun e=>by rw[e,g1]at gf;simp at gf
  have zt:v≠1:=fun e=>by rw[e,g1]at gv;simp at gv
  rw[←x6]at gc;refine Qs (sl':=[(2,.vptr 1 0),(5,.vptr 3 0)]) ?_ (by simp);refine Q1 v gv 3 gc ?_;simp[zi];rw[zO (by simp)];refine Q4 fun Z hZ=> ?_;have w7:=Qh gv;have z2:Z[3]? =some (.vars [.i a.types,.sl f 1 0 fs.length,.list (M.map encMv)]):=by rw[hZ,zL (by have:=Qh gc;simpa using this)]
  have zf:Z[f]? =some (.arr 4 1 (fs.map .bool)):=by rw[hZ,zB (Ne.symm zn),zB (Ne.symm zi)];exact gf
  have z1:Z[1]? =some (.vars [.i 0,.nils,.nils]):=by rw[hZ,zB (by decide),zB zt];exact g1
  clear hZ;refine Q1 f zf 3 z2 ?_;simp;rw[zO (by simp)];refine Q4 fun X hX=> ?_;have x2:X[3]? =some (.vars [.i a.types,.list (fs.map .bool),.list (M.map encMv)]):=by rw[hX,zL (by have:=Qh z2;simpa using this)]
  have x1:X[1]? =some (.vars [.i 0,.nils,.nils]):=by rw[hX,zB (by decide),zB yb];exact z1
  clear hX;have x1s:∀Y,(X.set 1 Y)[1]? =some Y:=fun Y=>Qj x1 Y;repeat first|(refine r_ ?_;simp[x2,x1,x1s])|refine q_ ?_
end Go.Abs
namespace Go.Abs
open Go Go.Proofs Go.Maps Go.RowKit
attribute [local irreducible] Rt Ie Ww Ls Wq Ej
theorem Vj(a:Aut):PC Tryz.prog 27 [encA a] (fun r=>r= .tup [encA (Ls a).2,.i (Ls a).1]):=by
 refine Ql tOk Tryz.func27 rfl Tryz.results27 rfl (by simp[Tryz.ntmps27]) ?_;rw[Tryz.ntmps27];simp only[Qg];simp only[encA];obtain⟨R,hR⟩:∃R,Ls a=R:=⟨_,rfl⟩
 rw[hR];repeat first|(refine r_ ?_;simp)|refine q_ ?_
 refine Qf rfl rfl (by simp) (Ho a) rfl ?_;rintro _ rfl;simp;repeat first|(refine r_ ?_;simp)|refine q_ ?_
 refine Qb rfl (fun h=> ?_) (fun h=> ?_)
 ·have h':(Rt a).1≠0:=by simpa using h
  rw[q0g h']at hR;rw[←hR];repeat first|(refine r_ ?_;simp)|refine q_ ?_
  exact⟨rfl,rfl,rfl⟩
 have hd:(Rt a).1=0:=by simpa using h
 have za:Wq a=0:=Decidable.byContradiction fun k=>k (by have:=Mg k;omega);have z6:=fun h=>c0u (a:=a) hd h;have z7:=fun h=>u1z (a:=a) hd h;have z8:=fun h=>y0w (a:=a) za hd h;generalize (Rt a).2=d at *
 repeat first|(refine r_ ?_;simp)|refine q_ ?_
 refine Qf rfl rfl (by simp) (B0 d) rfl ?_;rintro _ rfl;simp;repeat first|(refine r_ ?_;simp)|refine q_ ?_
 refine Qb rfl (fun h=> ?_) (fun h=> ?_)
 ·have h':(Ie d).1≠0:=by simpa using h
  rw[z6 h']at hR;rw[←hR];repeat first|(refine r_ ?_;simp)|refine q_ ?_
  exact⟨rfl,rfl,rfl⟩
 have hc:(Ie d).1=0:=by simpa using h
 have z1:=z7 hc;have ha:=z8 hc;rw[hR]at z1;clear z7 z8 z6;generalize (Ie d).2=c at *
 repeat first|(refine r_ ?_;simp)|refine q_ ?_
 refine Qf rfl rfl (by simp) (c0z c ha) rfl ?_;rintro _ rfl;simp;have hk:=j0v ha;repeat first|(refine r_ ?_;simp)|refine q_ ?_
 refine Qf rfl rfl (by simp) (Ua (Ww c)) rfl ?_;rintro _ rfl;simp;repeat first|(refine r_ ?_;simp)|refine q_ ?_
 refine Qb rfl (fun h=> ?_) (fun h=> ?_)
 ·have h':Su (Ww c)=true:=by
   have h2:Wq (Ww c)≠0:=by simpa using h
   cases hb:Su (Ww c)with
   |true=>rfl
   |false=>exact absurd (hk.2 hb) h2
  rw[if_pos h']at z1;rw[z1];repeat first|(refine r_ ?_;simp)|refine q_ ?_
  exact⟨rfl,rfl,rfl⟩
 ·have h':Su (Ww c)=false:=hk.1 (by simpa using h);rw[h',if_neg (by simp)]at z1;rw[z1];repeat first|(refine r_ ?_;simp)|refine q_ ?_
end Go.Abs
namespace Go.Abs
open Go Go.Proofs Go.Maps Go.RowKit
attribute [local irreducible] k17 Ls u1q u1d
theorem Mx(a:Aut):PC Tryz.prog 6 [encA a] (fun r=>r= .bool true):=by
 refine Ql tOk Tryz.func6 rfl Tryz.results6 rfl (by simp[Tryz.ntmps6]) ?_;rw[Tryz.ntmps6];simp only[Qg];simp only[encA];repeat first|(refine r_ ?_;simp)|refine q_ ?_
 refine Qf rfl rfl (by simp) (g1p a) rfl ?_;rintro _ rfl;simp;repeat first|(refine r_ ?_;simp)|refine q_ ?_
 refine Qb rfl (fun _=> ?_) (fun _=> ?_)
 ·repeat first|(refine r_ ?_;simp)|refine q_ ?_
  refine Qf rfl rfl (by simp) (Bn) rfl ?_;rintro _ rfl;simp;repeat first|(refine r_ ?_;simp)|refine q_ ?_
 repeat first|(refine r_ ?_;simp)|refine q_ ?_
 refine Qf rfl rfl (by simp) (D6 a) rfl ?_;rintro _ rfl;simp;repeat first|(refine r_ ?_;simp)|refine q_ ?_
 refine Qf rfl rfl (by simp) (Vj a) rfl ?_;rintro _ rfl;simp;repeat first|(refine r_ ?_;simp)|refine q_ ?_
 refine Qf rfl rfl (by simp) (Bn) rfl ?_;rintro _ rfl;simp;repeat first|(refine r_ ?_;simp)|refine q_ ?_
 refine Qf rfl rfl (by simp) (z0i (Ls a).2) rfl ?_;rintro _ rfl;simp;repeat first|(refine r_ ?_;simp)|refine q_ ?_
end Go.Abs
namespace Go.Abs
open Go Go.Proofs Go.RowKit Go.Proofs.YteghceocnldccaaGreatDoor
theorem laidOut:laidOutB Tryz.prog=true:=by kernel_rfl
theorem own:ownKnob Tryz.prog.godebug=none:=by kernel_rfl
theorem Gi{α:Type}{g:α→AV}{Q:α→Prop}:∀xs:List AV,(∀x∈xs,∃a,x=g a∧Q a)→∃l:List α,xs=l.map g∧∀a∈l,Q a
 |[],_=>⟨[],rfl,by simp⟩
 |x::xs,h=>by obtain⟨a,rfl,ha⟩:=h x (by simp);obtain⟨l,rfl,hl⟩:=Gi xs (fun y hy=>h y (by simp[hy]));exact⟨a::l,rfl,by simpa using⟨ha,hl⟩⟩
theorem g0m{d:Nat}{zs:List AV}(h:Shp T (d+1) 3 zs):∃n:Int,zs=[.i n]∧ -9223372036854775808≤n∧n≤9223372036854775807:=by simp only[Shp,T3,M1]at h;obtain⟨n,rfl,h1,h2⟩:=h;exact⟨n,rfl,h1,h2⟩
theorem j1f{d:Nat}{zs:List AV}(h:Shp T (d+1) 4 zs):∃b:Bool,zs=[.bool b]:=by simp only[Shp,T4,M1]at h;exact h
theorem f1q{d:Nat}{xs:List AV}(h:Py T d [] xs):xs=[]:=h
theorem w29 {l:List (String×DataW Unit)} {w:World} {name:String} {k:IntKind} {zs:List Int} {g:Nat} {t e:TypeId} {n:Nat} (h:laidMetH Tryz.prog l w) (hl:l.filter (fun x=>x.1==name)=[(name,Lib.tabData k zs)])
  (hg:Tryz.prog.globalNamed name=some g) (z1:(Tryz.prog.globals[g]?).map (·.type)=some t) (ht:Tryz.prog.underlying t=some (.array n e)) (he:Tryz.prog.underlying e=some (.int k)) (z6:Tryz.prog.cellsOf e=1) (z7:Tryz.prog.cellsOf t=n):
  g<w.heap.size∧∃t fr,w.heap[g]? =some (.cells (zs.map fun z=>Value.int k z).toArray t fr):=by
 have h1:=h.filter (fun x=>x.1==name);rw[hl]at h1;have h2:Lib.TabIs Tryz.prog w name k zs:=Lib.tabIs_of_head hg z1 ht he z6 z7 h1;unfold Lib.TabIs World.var? at h2;rw[hg]at h2;simp only[Option.bind_some]at h2;cases ho:w.heap[g]? with
 |none=>rw[ho]at h2;simp at h2
 |some o=>rw[ho]at h2;refine⟨(Array.getElem?_eq_some_iff.1 ho).1,?_⟩;cases o<;>simp at h2;rename_i cs t fr;exact⟨t,fr,by rw[h2]⟩
end Go.Abs
namespace Go.Abs
open Go Go.Proofs Go.RowKit Go.Proofs.YteghceocnldccaaGreatDoor
theorem x27{d:Nat}{zs:List AV}(h:Shp T (d+2) 187 zs):∃v:Iv,zs=(encIv v).cells:=by simp only[Shp,Sl,T3,M1,j1g,yY,wI]at h;obtain⟨_,_,rfl,⟨a,rfl,ha⟩,_,_,rfl,⟨b,rfl,hb⟩,rfl⟩:=h;exact⟨⟨a,b⟩,rfl⟩
theorem y2p{d:Nat}{zs:List AV}(h:Shp T (d+3) 171 zs):∃l:List Iv,zs=[encL l]:=by
 rw[Shp,U6]at h;simp only[M1]at h;obtain⟨ei,xs,he,rfl,hl,hx⟩:=h;rw[Sl]at he;cases he;obtain⟨l,rfl,hq⟩:=Gi (g:=encIv) (Q:=fun _=>True) xs (fun x z1=>by
  obtain⟨zs,rfl,hz⟩:=hx x z1;obtain⟨v,rfl⟩:=x27 (d:=d) hz;exact⟨v,rfl,trivial⟩)
 exact⟨l,rfl⟩
theorem w2k{d:Nat}{zs:List AV}(h:Shp T (d+4) 74 zs):∃p:Prd,zs=[.list (p.map encL)]:=by
 rw[Shp,T74]at h;simp only[M1]at h;obtain⟨ei,xs,he,rfl,hl,hx⟩:=h;rw[U6]at he;cases he;obtain⟨l,rfl,hq⟩:=Gi (g:=encL) (Q:=fun _=>True) xs (fun x z1=>by
  obtain⟨zs,rfl,hz⟩:=hx x z1;obtain⟨v,rfl⟩:=y2p (d:=d) hz;exact⟨v,rfl,trivial⟩)
 exact⟨l,rfl⟩
theorem w26{d:Nat}{zs:List AV}(h:Shp T (d+5) 76 zs):∃p:Prd,zs=[.list (p.map encL)]:=by rw[Shp,T76]at h;simp only[M1,j1g,yY,wI]at h;obtain⟨_,_,rfl,h1,rfl⟩:=h;obtain⟨p,rfl⟩:=w2k (d:=d) h1;exact⟨p,rfl⟩
theorem d1r{d:Nat}{zs:List AV}(h:Shp T (d+6) 78 zs):∃m:Mv,zs=(encMv m).cells:=by rw[Shp,T78]at h;simp only[M1,j1g,yY,wI]at h;obtain⟨_,_,rfl,h1,_,_,rfl,h2,_,_,rfl,h3,rfl⟩:=h;obtain⟨a,rfl,_⟩:=g0m (d:=d+4) h1;obtain⟨b,rfl,_⟩:=g0m (d:=d+4) h2;obtain⟨p,rfl⟩:=w26 (d:=d) h3;exact⟨⟨a,b,p⟩,rfl⟩
theorem g1k{d:Nat}{zs:List AV}(h:Shp T (d+7) 23 zs):∃l:List Mv,zs=[.list (l.map encMv)]:=by
 rw[Shp,T23]at h;simp only[M1]at h;obtain⟨ei,xs,he,rfl,hl,hx⟩:=h;rw[T78]at he;cases he;obtain⟨l,rfl,hq⟩:=Gi (g:=encMv) (Q:=fun _=>True) xs (fun x z1=>by
  obtain⟨zs,rfl,hz⟩:=hx x z1;obtain⟨v,rfl⟩:=d1r (d:=d) hz;exact⟨v,rfl,trivial⟩)
 exact⟨l,rfl⟩
theorem j1m{d:Nat}{zs:List AV}(h:Shp T (d+2) 22 zs):∃l:List Bool,zs=[.list (l.map .bool)]:=by
 rw[Shp,T22]at h;simp only[M1]at h;obtain⟨ei,xs,he,rfl,hl,hx⟩:=h;rw[T4]at he;cases he;obtain⟨l,rfl,hq⟩:=Gi (g:=AV.bool) (Q:=fun _=>True) xs (fun x z1=>by
  obtain⟨zs,rfl,hz⟩:=hx x z1;obtain⟨v,rfl⟩:=j1f (d:=d) hz;exact⟨v,rfl,trivial⟩)
 exact⟨l,rfl⟩
theorem y2b{d:Nat}{zs:List AV}(h:Shp T (d+8) 25 zs):∃a:Aut,zs=(encA a).cells:=by rw[Shp,T25]at h;simp only[M1,j1g,yY,wI]at h;obtain⟨_,_,rfl,h1,_,_,rfl,h2,_,_,rfl,h3,rfl⟩:=h;obtain⟨t,rfl,_⟩:=g0m (d:=d+6) h1;obtain⟨f,rfl⟩:=j1m (d:=d+5) h2;obtain⟨m,rfl⟩:=g1k (d:=d) h3;exact⟨⟨t,f,m⟩,rfl⟩
theorem w2e{d:Nat}{ts:List Nat}{xs:List AV}(h:Py T (d+8) (25::ts) xs):∃(a:Aut) (r:List AV),xs=encA a::r∧Py T (d+8) ts r:=by obtain⟨i,zs,r,hi,rfl,h1,h⟩:=h;rw[T25]at hi;cases hi;obtain⟨a,rfl⟩:=y2b (d:=d) h1;exact⟨a,r,rfl,h⟩
theorem c19 {l:List (String×DataW Unit)} {w:World} (h:laidMetH Tryz.prog l w) (hl:l.filter (fun x=>x.1== "internal/strconv.uint64pow10")=[("internal/strconv.uint64pow10",Lib.tabData .u64 Lib.pow10Tab)]):EOK Tryz.prog w (·<w.heap.size):=fun g pr hm=>by
 have e:=zT.1 hm
 cases e
 obtain⟨h1,t,fr,h2⟩:=w29 (t:=300) (e:=250) (n:=20) h hl (by kernel_rfl) (by kernel_rfl) (by kernel_rfl) (by kernel_rfl) (by kernel_rfl) (by kernel_rfl)
 exact⟨h1,_,t,fr,rfl,h2⟩
end Go.Abs
