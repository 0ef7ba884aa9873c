/- Part Nj of the proof: an abstract machine over the model, and what the functions of the program hand back in its terms. No condition. -/
import Derived.Test.YteghceocnldccaaGreatDoorNi
import Derived.Test.YteghceocnldccaaGreatDoorNg
import Derived.Test.YteghceocnldccaaGreatDoorNf
import Derived.Test.YteghceocnldccaaGreatDoorNe
import Derived.Test.YteghceocnldccaaGreatDoorNh
import Derived.Test.YteghceocnldccaaGreatDoorNc
import Derived.Test.YteghceocnldccaaGreatDoorNd
import Derived.Test.YteghceocnldccaaGreatDoorNb
import Derived.Lay
import Derived.LaidSub
import Derived.Deep.DeepWitnessRowRef
import Derived.Test.YteghceocnldccaaGreatDoorCards
import Derived.Test.YteghceocnldccaaGreatDoorTie
import Derived.Lib.LaidTab
import Derived.Shelf.Vars
set_option linter.all false
open Nat renaming le_trans→yW,zero_le→wD,le_refl→zW,lt_succ_self→uL
open List renaming getElem_mem→zT,take_succ_eq_append_getElem→zY,mem_singleton→z_,getElem_eq_iff→yJ,getElem?_append_right→zL,take_length→xB,range→yV,take_of_length_le→zV,mem_map→zX,all_eq_true→yE,mem_filter→xU,drop→sq,drop_append_of_le_length→u7,getElem?_eq_none→xI,getElem?_eq_getElem→zP,getD→y_,length_set→wK,mem_or_eq_of_mem_set→wJ,mem_set→sf,getElem?_set_ne→zH,replicate→yB,eq_of_mem_replicate→vU,all_cons→ub,filter_cons→ux,map_cons→xH,take→uU,length_map→yO,length_filter_le→xX,map_map→v_,map_set→u6,getElem?_replicate→vJ,getElem?_append_left→zI,getElem?_set_self→zU,getElem?_eq_some_iff→zE,map_nil→vB
open Bool renaming and_eq_true→yT,false_and→uB,true_and→un
open Option renaming bind_some→wB
open Int renaming toNat_natCast→uH
set_option maxHeartbeats 16000000
set_option linter.unusedSimpArgs false
set_option maxRecDepth 100000
namespace Go.Abs
open Go Go.Proofs Go.Maps Go.RowKit
attribute [local irreducible] Tk A5 E2 w0v Wg E8 Rv
theorem Vg(a:Aut):PC Tryz.prog 26 [encA a] (fun r=>r= .tup [encA (w0v a).2,.i (w0v a).1]):=by
 refine Ql tOk Tryz.func26 rfl Tryz.results26 rfl (by simp[Tryz.ntmps26]) ?_;rw[Tryz.ntmps26];simp only[Qg];simp only[encA];obtain⟨R,hR⟩:∃R,w0v a=R:=⟨_,rfl⟩
 rw[hR];repeat first|(refine r_ ?_;simp)|refine q_ ?_
 refine Qe rfl rfl (by simp) (Yh a) rfl ?_;rintro _ rfl;simp;repeat first|(refine r_ ?_;simp)|refine q_ ?_
 refine Qa rfl (fun h=> ?_) (fun h=> ?_)
 ·have h':Wg a≠0:=by simpa using h
  rw[j1q h']at hR;rw[←hR];repeat first|(refine r_ ?_;simp)|refine q_ ?_
  exact⟨rfl,rfl,rfl⟩
 have z8:Wg a=0:=by simpa using h
 repeat first|(refine r_ ?_;simp)|refine q_ ?_
 refine Qe rfl rfl (by simp) (Ja a) rfl ?_;rintro _ rfl;simp;repeat first|(refine r_ ?_;simp)|refine q_ ?_
 refine Qa rfl (fun h=> ?_) (fun h=> ?_)
 ·have h':(Tk a).1≠0:=by simpa using h
  rw[f0h h']at hR;rw[←hR];repeat first|(refine r_ ?_;simp)|refine q_ ?_
  exact⟨rfl,rfl,rfl⟩
 have hd:(Tk a).1=0:=by simpa using h
 have zc:=fun h=>u1a (a:=a) hd h;have zd:=fun h=>d1l (a:=a) hd h;have ze:=fun h=>q1x (a:=a) z8 hd h;generalize (Tk a).2=d at *
 repeat first|(refine r_ ?_;simp)|refine q_ ?_
 refine Qe rfl rfl (by simp) (F2 d) rfl ?_;rintro _ rfl;simp;repeat first|(refine r_ ?_;simp)|refine q_ ?_
 refine Qa rfl (fun h=> ?_) (fun h=> ?_)
 ·have h':(A5 d).1≠0:=by simpa using h
  rw[zc h']at hR;rw[←hR];repeat first|(refine r_ ?_;simp)|refine q_ ?_
  exact⟨rfl,rfl,rfl⟩
 have hc:(A5 d).1=0:=by simpa using h
 have z7:=zd hc;have ha:=ze hc;rw[hR]at z7;clear zd ze zc;generalize (A5 d).2=c at *
 repeat first|(refine r_ ?_;simp)|refine q_ ?_
 refine Qe rfl rfl (by simp) (R9 c ha.ok) rfl ?_;rintro _ rfl;simp;refine Qe rfl rfl (by simp) (V6 c ha) rfl ?_;rintro _ rfl;simp;repeat first|(refine r_ ?_;simp)|refine q_ ?_
 have zj:=fun(m:Mv) (hm:m∈(E2 c).mv)=>q1o ha hm;have zp:(E2 c).mv.length≤2048:=yW (j0d ha) ha.ok.mvs;have zf:Bz (E2 c)=(E2 c).mv.any fun k=>k.on.any fun s=>decide (256<s.length):=rfl;have zk:(E2 c).types=c.types:=Bb c;generalize E2 c=m at *;refine Wf fun Z hZ=> ?_
 have z1:Z[1]? =some (.vars [.i 0,.nils,.nils]):=by rw[hZ];rfl
 have z4:Z[4]? =some (.vars (Q7 m)):=by rw[hZ];rfl
 clear hZ;refine Qo (Qc (sl':=[(2,.vptr 1 0),(3,.i 0),(8,.vptr 4 0),(39,.list (m.mv.map encMv)),(40,.i m.mv.length),(41,.i (0:Nat))]) ?_ (by simp));refine Qp (P:=Tryz.prog) (F:=fun(u:Nat×List AObj)=>⟨[(2,.vptr 1 0),(3,.i 0),(8,.vptr 4 0),(39,.list (m.mv.map encMv)),(40,.i m.mv.length),(41,.i u.1)],u.2⟩)
  (fun u=>u.1≤m.mv.length∧u.2[1]? =some (.vars [.i 0,.nils,.nils])∧u.2[4]? =some (.vars (Q7 m))∧∀k∈m.mv.take u.1,(k.on.any fun s=>decide (256<s.length))=false) (fun u=>m.mv.length - u.1) ?_ (0,Z) ⟨wD _,z1,z4,by simp⟩
 clear z1 z4;clear Z;rintro⟨j,Z⟩ ⟨hj,z1,z4,za⟩ ih;simp only at hj z1 z4 za ih ⊢;repeat first|(refine r_ ?_;simp)|refine q_ ?_
 refine Qa rfl (fun zl=> ?_) (fun zm=> ?_)
 ·have z6:j<m.mv.length:=by simpa using zl
  have hw:IntKind.i64.wrap ((j:Int)+1)=j+1:=wrap_i64 _ (by omega) (by omega);have zg:=zT z6;have z8:=zj _ zg;have zn:∀k∈m.mv.take (j+1),k∈m.mv.take j∨k=m.mv[j]:=fun k hk=>by
   rw[zY z6]at hk;rcases List.mem_append.1 hk with h|h
   ·exact .inl h
   ·exact .inr (z_.1 h)
  have zh:(m.mv.map encMv)[j]? =some (encMv m.mv[j]):=by simp[z6]
  have zi:∀hh,(m.mv.map encMv)[j]'hh=encMv m.mv[j]:=fun hh=>by simp
  generalize zq:m.mv[j]=k at *;simp only[encMv]at zh zi
  have z4s:∀E,(Z++E)[4]? =some (.vars (Q7 m)):=fun E=>Qb z4 E;have z4h:∀E hh,(Z++E)[4]'hh= .vars (Q7 m):=fun E hh=>(yJ hh).2 (z4s E);repeat first|(refine r_ ?_;simp[zh,zi,z6,z4s,z4h])|refine q_ ?_
  refine Qe rfl rfl (by simp) (P7 m.types k.on) rfl ?_;rintro _ rfl;simp;rw[zk];refine Wf fun Y hY=> ?_;have y1:Y[1]? =some (.vars [.i 0,.nils,.nils]):=by rw[hY];exact Qb z1 _
  have y4:Y[4]? =some (.vars (Q7 m)):=by rw[hY];exact Qb z4 _
  have yx:Y[Z.length]? =some (.vars [.i k.src,.i k.dst,.list (k.on.map encL)]):=by rw[hY,zL (by simp)];simp
  clear hY;have y1s:∀X,(Y.set 1 X)[1]? =some X:=fun X=>Qh y1 X;refine Qa rfl (fun h=> ?_) (fun h=> ?_)
  ·have h':Bz m=true:=by
    rw[zf,List.any_eq_true];refine⟨k,zg,?_⟩;have h2:E8 c.types k.on≠0:=by simpa using h
    cases hb:k.on.any fun s=>decide (256<s.length)with
    |true=>rfl
    |false=>exact absurd (z8.2 hb) h2
   rw[if_pos h']at z7;rw[z7];repeat first|(refine r_ ?_;simp[y1,y1s])|refine q_ ?_
   exact⟨rfl,rfl,rfl⟩
  ·have h2:E8 c.types k.on=0:=by simpa using h
   repeat first|(refine r_ ?_;simp[hw])|refine q_ ?_
   refine Qc (sl':=[(2,.vptr 1 0),(3,.i 0),(8,.vptr 4 0),(39,.list (m.mv.map encMv)),(40,.i m.mv.length),(41,.i (j+1:Nat))]) ?_ (by simp);refine ih (j+1,Y) ⟨by omega,y1,y4,fun k' zo=> ?_⟩ (by simp only;omega);rcases zn k' zo with e|rfl
   ·exact za k' e
   ·exact z8.1 h2
 ·have zb:j=m.mv.length:=by simp at zm;omega
  subst zb;rw[xB]at za;have h':Bz m=false:=by rw[zf,List.any_eq_false];exact fun k hk=>by rw[za k hk];simp
  rw[h',if_neg (by simp)]at z7;rw[z7];have y1s:∀X,(Z.set 1 X)[1]? =some X:=fun X=>Qh z1 X;repeat first|(refine r_ ?_;simp[z4,z1,y1s])|refine q_ ?_
end Go.Abs
namespace Go.Abs
open Go Go.Proofs Go.Maps Go.RowKit
attribute [local irreducible] exM w0v v1x v1e
theorem Gf:PC Tryz.prog 25 [] (fun r=>r= .bool true):=by
 refine Ql tOk Tryz.func25 rfl Tryz.results25 rfl (by simp[Tryz.ntmps25]) ?_;rw[Tryz.ntmps25];simp only[Qg];have z6:yV 2=[0,1]:=rfl;have z7:yV 3=[0,1,2]:=rfl;repeat first|(refine r_ ?_;simp)|refine q_ ?_
 refine Qe rfl rfl (by simp) (Uv true) rfl ?_;rintro _ rfl;simp;refine Qe rfl rfl (by simp) (X6 (exM true)) rfl ?_;rintro _ rfl;simp[d1w];repeat first|(refine r_ ?_;simp)|refine q_ ?_
 refine Qe rfl rfl (by simp) (Uv true) rfl ?_;rintro _ rfl;simp;refine Qe rfl rfl (by simp) (Vg (exM true)) rfl ?_;rintro _ rfl;simp[q2f];repeat first|(refine r_ ?_;simp)|refine q_ ?_
 refine Qe rfl rfl (by simp) (Uv true) rfl ?_;rintro _ rfl;simp;refine Qe rfl rfl (by simp) (Ii (exM true) 0 1) rfl ?_;rintro _ rfl;simp[y2d];simp[u1p];repeat first|(refine r_ ?_;simp)|refine q_ ?_
 refine Qe rfl rfl (by simp) (Uv false) rfl ?_;rintro _ rfl;simp;refine Qe rfl rfl (by simp) (Ii (exM false) 0 2) rfl ?_;rintro _ rfl;simp[z2t];simp[u1p];repeat first|(refine r_ ?_;simp)|refine q_ ?_
 refine Qe rfl rfl (by simp) (Ax (-1099511627776) 1099511627776) rfl ?_;rintro _ rfl;simp;have z8:IntKind.i64.wrap 0=0:=by decide
 refine O7 (Uo tOk rfl ?_);simp[z6];refine Qw (sl':=[(0,.bool false),(1,LI [0,1,1]),(2,.i 0),(3,.vptr 0 0),(4,.i 0),(5,.list []),(6,.bool true),(7,.i 0),(8,LSy [⟨0,5⟩]),(9,.bool true),(10,.i 0),(12,.vptr 4 0)]) ?_ (by simp);refine We 2 (e:=4) (c:=1) (xs:=[.bool false,.bool true]) rfl 4 rfl ?_;simp;refine We 3 (e:=78) (c:=3) (xs:=x0d.mv.map encMv) rfl 4 rfl ?_;have z1:x0d.mv.length=2:=rfl;simp[z1];rw[zV (by simp[z1])];repeat first|(refine r_ ?_;simp[z8,z7])|refine q_ ?_
 refine Eb 5 rfl ?_;simp;refine Qe rfl rfl (by simp) (Xe [0,1,1] [0,1,1]) rfl ?_;rintro _ rfl;simp;repeat first|(refine r_ ?_;simp)|refine q_ ?_
 refine Qe rfl rfl (by simp) (q19 x0d) rfl ?_;rintro _ rfl;simp;repeat first|(refine r_ ?_;simp)|refine q_ ?_
 refine Eb 6 rfl ?_;simp;refine Qe rfl rfl (by simp) (v0b [⟨0,5⟩] [⟨0,5⟩]) rfl ?_;rintro _ rfl;simp;repeat first|(refine r_ ?_;simp)|refine q_ ?_
end Go.Abs
namespace Go.Abs
def c0r(a b:Aut)(p q:Int):Bool:=a.fin.getD p.toNat false==b.fin.getD q.toNat false
def w06(a:Aut)(p:Int):Prd:=Ud a.types.toNat ((Wa a p).map (·.on))
def g1q(a b:Aut)(p q:Int):Bool:=c0r a b p q && decide (w06 a p=w06 b q)
def psP(a b:Aut)(p q:Int):List (Int×Int):=(Wj a b (p,q)).map (·.2)
def x0u(a b:Aut)(p q:Int)(x:Sy):Bool:=decide (toL a p x<0)==decide (toL b q x<0)
def x1g(a b:Aut)(p q:Int):Bool:=c0r a b p q && (Ep a b).all (x0u a b p q)
def ltP(a b:Aut)(p q:Int)(x:Sy):Int×Int:=(toL a p x,toL b q x)
def psR(a b:Aut)(p q:Int):List (Int×Int):=((Ep a b).filter fun x=>decide (0≤toL a p x∧0≤toL b q x)).map (ltP a b p q)
theorem c1f{a b:Aut}(ha:OkA a)(hb:OkA b)(ht:b.types=a.types):PsOk a b (x1g a b) (psR a b):=by
 have hs:=fun s=>Zf ha hb ht s;have cov:∀p q x,Ew a x→∃y∈Ep a b,toL a p y=toL a p x∧toL b q y=toL b q x:=fun p q x hx=>by obtain⟨e,he,e1,_⟩:=(hs (p,q)).cov x hx;obtain⟨y,hy,rfl⟩:=zX.1 he;have:=Prod.mk.inj e1;exact⟨y,hy,this.1,this.2⟩
 have z6:∀y∈Ep a b,Ew a y:=fun y hy=>((hs (0,0)).mem (y,T6 a b (0,0) y) (zX.2 ⟨y,hy,rfl⟩)).1;refine⟨fun p q hp hq=> ?_,fun p q hp hq e he=> ?_,fun p q hp hq x hx h1 h2=> ?_⟩
 ·unfold x1g c0r;rw[yT,beq_iff_eq,yE];refine and_congr Iff.rfl ⟨fun h x hx=> ?_,fun h y hy=> ?_⟩
  ·obtain⟨y,hy,e1,e2⟩:=cov p q x hx;have:=h y hy;rw[x0u,beq_iff_eq,decide_eq_decide,e1,e2]at this;exact this
  ·rw[x0u,beq_iff_eq,decide_eq_decide];exact h y (z6 y hy)
 ·obtain⟨y,hy,rfl⟩:=zX.1 he;obtain⟨z7,z1⟩:=xU.1 hy;rw[decide_eq_true_eq]at z1;exact⟨y,z6 y z7,rfl,rfl,z1.1,z1.2⟩
 ·obtain⟨y,hy,e1,e2⟩:=cov p q x hx;exact zX.2 ⟨y,xU.2 ⟨hy,by rw[decide_eq_true_eq,e1,e2];exact⟨h1,h2⟩⟩,by rw[ltP,e1,e2]⟩
theorem d0b{a:Aut}(h:OkA a)(p:Int):PWf a.types.toNat (w06 a p):=Gg fun r hr=>by obtain⟨m,hm,rfl⟩:=zX.1 hr;exact h.wfA.on m (Wu.1 hm).1
theorem Sz{a:Aut}(h:OkA a)(p:Int){x:Sy}(hx:Ew a x):PM (w06 a p) x.ty.toNat x.num↔0≤toL a p x:=by
 unfold w06;rw[Kb fun r hr=>by
  obtain⟨m,hm,rfl⟩:=zX.1 hr;exact h.wfA.on m (Wu.1 hm).1]
 constructor
 ·rintro⟨r,hr,z1⟩;obtain⟨m,hm,rfl⟩:=zX.1 hr;obtain⟨m1,m2,_⟩:=Wu.1 hm;have hh:=(Tv h.wfA m1 hx).2 z1;rcases P5 (a:=a) p x with⟨_,h2⟩|⟨k,k1,_,_,k4⟩
  ·rw[h2 m m1 m2]at hh;cases hh
  ·rw[k4];exact(h.mv k k1).dst.1
 ·intro h0;rcases P5 (a:=a) p x with⟨h1,_⟩|⟨k,k1,k2,k3,k4⟩
  ·omega
  ·have z1:=(Tv h.wfA k1 hx).1 k3;exact⟨k.on,zX.2 ⟨k,Wu.2 ⟨k1,k2,(Tc (h.wfA.on k k1)).2 ⟨_,_,z1⟩⟩,rfl⟩,z1⟩
theorem v1m{a b:Aut}(ha:Dta a)(hb:Dta b)(ht:b.types=a.types):PsOk a b (g1q a b) (psP a b):=by
 have z1:∀x,Ew a x→Ew b x:=fun x hx=>(k1o ht).2 hx;have z6:∀ {m n:Mv},m∈a.mv→n∈b.mv→PWf a.types.toNat m.on∧PWf a.types.toNat n.on:=fun hm hn=>⟨ha.ok.wfA.on _ hm,by rw[←ht];exact hb.ok.wfA.on _ hn⟩
 refine⟨fun p q hp hq=> ?_,fun p q hp hq e he=> ?_,fun p q hp hq x hx h1 h2=> ?_⟩
 ·unfold g1q c0r;rw[yT,beq_iff_eq,decide_eq_true_eq];refine and_congr Iff.rfl ⟨fun h x hx=> ?_,fun h=> ?_⟩
  ·have s1:=Sz ha.ok p hx;have s2:=Sz hb.ok q (z1 x hx);rw[h,s2]at s1;omega
  ·have w1:=d0b ha.ok p;have w2:=d0b hb.ok q;rw[ht]at w2;refine Ig w1 w2 fun t n=>⟨fun k=> ?_,fun k=> ?_⟩
   ·have h2:=w1.lt k;have hx:Ew a ⟨(t:Int),n⟩:=Pg.1 ⟨by simp,by simpa using h2.1,h2.2⟩;have s1:=(Sz ha.ok p hx).1 (by simpa using k);have s2:=(Sz hb.ok q (z1 _ hx)).2 (by have:=h _ hx;omega);simpa using s2
   ·have h2:=w2.lt k;have hx:Ew a ⟨(t:Int),n⟩:=Pg.1 ⟨by simp,by simpa using h2.1,h2.2⟩;have s1:=(Sz hb.ok q (z1 _ hx)).1 (by simpa using k);have s2:=(Sz ha.ok p hx).2 (by have:=h _ hx;omega);simpa using s2
 ·obtain⟨s,hs,rfl⟩:=zX.1 he;obtain⟨m,hm,n,hn,hv,rfl⟩:=Ue.1 hs;obtain⟨m1,m2,_⟩:=Wu.1 hm;obtain⟨n1,n2,_⟩:=Wu.1 hn;obtain⟨w1,w2⟩:=z6 m1 n1;have hw:=Tb w1 w2.1;obtain⟨k1,k2,_⟩:=Un hw ((Tc hw).1 hv);have hk:=Pg.1 k1;obtain⟨p1,p2⟩:=(Ef w1.1 w2.1 _ _).1 k2;refine⟨Qn (Wc m.on n.on),hk,?_,?_,(ha.ok.mv m m1).dst.1,(hb.ok.mv n n1).dst.1⟩
  ·rw[←show m.src=p from m2];exact ha.to_of m1 hk ((Ex w1.1 _ hk.1.1).2 p1)
  ·rw[←show n.src=q from n2];exact hb.to_of n1 (z1 _ hk) ((Ex w2.1 _ hk.1.1).2 p2)
 ·rcases P5 (a:=a) p x with⟨h3,_⟩|⟨m,m1,m2,m3,m4⟩
  ·omega
  rcases P5 (a:=b) q x with⟨h3,_⟩|⟨n,n1,n2,n3,n4⟩
  ·omega
  obtain⟨w1,w2⟩:=z6 m1 n1;have hw:=Tb w1 w2.1;have p1:=(Ex w1.1 x hx.1.1).1 m3;have p2:=(Ex w2.1 x hx.1.1).1 n3;have z7:=(Ef w1.1 w2.1 _ _).2 ⟨p1,p2⟩;have hv:=(Tc hw).2 ⟨_,_,z7⟩;refine zX.2 ⟨(Qn (Wc m.on n.on),(m.dst,n.dst)),Ue.2 ⟨m,Wu.2 ⟨m1,m2,(Tc w1).2 ⟨_,_,p1⟩⟩,n,Wu.2 ⟨n1,n2,(Tc w2).2 ⟨_,_,p2⟩⟩,hv,rfl⟩,?_⟩;rw[m4,n4]
def g1d(a b:Aut):(List Int×Bool)×Int:=
 if Wg a≠0 then(([],false),Wg a)else if Wg b≠0 then(([],false),Wg b)else if O3 a=false∨O3 b=false then(([],false),3)
 else if a.types≠b.types then(([],false),15)else match Hy (g1q a b) (psP a b) (a.fin.length+1) 0 (A0 a)with
  |some l=>((l,true),0)
  |none=>(([],false),0)
end Go.Abs
namespace Go.Abs
open Go Go.Proofs Go.Maps Go.RowKit
structure CS (a:Aut) (n:Nat) (O:List Int) (f:Nat):Prop where
 fuel:a.fin.length+1≤n+f
 le:n≤O.length
 nd:O.Nodup
 rg:∀c∈O,0≤c∧c<(a.fin.length:Int)
 eq:x0v a=((z0l (y2z a) f n O).length==a.fin.length)
structure IS (a:Aut) (O:List Int) (P:List Int):Prop where
 nd:P.Nodup
 le:O.length≤P.length
 rg:∀c∈P,0≤c∧c<(a.fin.length:Int)
structure QS (xs:List Int) (off L:Nat) (O:List Int) (n:Nat):Prop where
 len:off+L=xs.length
 eq:xs.drop off=O.drop n
 le:off≤n
theorem QS.pos{xs:List Int}{off L:Nat}{O:List Int}{n:Nat}(h:QS xs off L O n)(hn:n≤O.length):L=O.length - n:=by have:=congrArg List.length h.eq;have:=h.len;simp at *;omega
theorem QS.head{xs:List Int}{off L:Nat}{O:List Int}{n:Nat}(h:QS xs off L O n)(hn:n<O.length):xs[off]? =some O[n]:=by have:=congrArg (fun l=>l[0]?) h.eq;simpa[List.getElem?_drop,hn]using this
theorem QS.tail{xs:List Int}{off L:Nat}{O:List Int}{n:Nat}(h:QS xs off L O n)(hn:n<O.length):QS xs (off+1) (L - 1) O (n+1):=by have h1:=h.pos (by omega);have h2:=h.len;refine⟨by omega,?_,by have:=h.le;omega⟩;have:=congrArg (sq 1) h.eq;simpa[List.drop_drop,Nat.add_comm]using this
theorem QS.add{xs:List Int}{off L:Nat}{O:List Int}{n:Nat}(h:QS xs off L O n)(hn:n≤O.length)(t:Int):QS (xs++[t]) off (L+1) (O++[t]) n:=by have h2:=h.len;refine⟨by simp;omega,?_,h.le⟩;rw[u7 (by omega),u7 hn,h.eq]
theorem QS.cut{xs:List Int}{off L:Nat}{O:List Int}{n:Nat}(h:QS xs off L O n)(hn:n≤O.length)(t:Int):QS (xs.drop off++[t]) 0 (L+1) (O++[t]) n:=by have h2:=h.len;refine⟨by simp;omega,?_,wD _⟩;rw[u7 hn,h.eq];rfl
end Go.Abs
namespace Go.Abs
def j1z(r:(List Int×Bool)×Int):AV:= .tup [LI r.1.1,.bool r.1.2,.i r.2]
theorem Uy:∀(es fs:List (Int×Int)) (st:List Int×List Int),Wy (es++fs) st=(Wy es st).bind (Wy fs)
 |[],_,_=>rfl
 |e::es,fs,st=>by
  rw[List.cons_append,Wy,Wy];cases h:W4 st e with
  |none=>rfl
  |some st'=>simp only[wB];exact Uy es fs st'
theorem Fu(st:List Int×List Int)(e:Int×Int):Wy [e] st=W4 st e:=by rw[Wy];cases W4 st e<;>rfl
theorem Cn{chk:Int→Int→Bool}{ps:Int→Int→List (Int×Int)}{n:Nat}{st:List Int×List Int}(h:st.2.length≤n):∀f,Hy chk ps f n st=some st.1
 |0=>rfl
 |f+1=>by rw[Hy,xI h]
theorem Xq{chk:Int→Int→Bool}{ps:Int→Int→List (Int×Int)}{n:Nat}{st:List Int×List Int}(h:n<st.2.length)(f:Nat):Hy chk ps (f+1) n st=if chk st.2[n] (fAt st.1 st.2[n])then(Wy (ps st.2[n] (fAt st.1 st.2[n])) st).bind (Hy chk ps f (n+1))else none:=by rw[Hy,zP h]
theorem IsoI.len2{a b:Aut}{st:List Int×List Int}(h:IsoI a b st):st.2.length≤a.fin.length:=by have:=h.nd.length_le_of_subset (l₂:=Rt a.fin.length) fun c hc=>Ru.2 ((h.mem c).1 hc).1;simpa[Rt]using this
theorem Io{f:List Int}{s:Int}(h0:0≤s)(h1:s.toNat<f.length):f[s.toNat]? =some (fAt f s):=by unfold fAt;simp[y_,h1]
structure BkS (m:Nat) (to bk:List Int):Prop where
 len:bk.length=m
 iff:∀q:Int,0≤q→q<m→(0≤fAt bk q↔q∈to)
theorem BkS.set{m:Nat}{to bk:List Int}(h:BkS m to bk){s t:Int}(s0:0≤s)(sl:s.toNat<to.length)(hs:fAt to s<0)(t0:0≤t)(tm:t<m):BkS m (to.set s.toNat t) (bk.set t.toNat s):=by
 refine⟨by rw[wK];exact h.len,fun q q0 qm=> ?_⟩;rw[Mg t0 q0 (by have:=h.len;omega)];have hm:q∈to.set s.toNat t↔q=t∨q∈to:=by
  constructor
  ·intro k;rcases wJ k with k|k
   ·exact .inr k
   ·exact .inl k
  ·rintro(rfl|k)
   ·exact sf sl q
   ·obtain⟨i,hi,e⟩:=List.getElem_of_mem k;have z1:s.toNat≠i:=fun e2=>by have:=Io s0 sl;rw[e2,zP hi,e]at this;have:=Option.some.inj this;omega
    exact List.mem_iff_getElem?.2 ⟨i,by rw[zH z1,zP hi,e]⟩
 rw[hm];by_cases e:q=t
 ·rw[if_pos e];exact⟨fun _=> .inl e,fun _=>s0⟩
 ·rw[if_neg e,h.iff q q0 qm];exact⟨.inr,fun k=>k.resolve_left e⟩
theorem u1d(n:Nat){s:Int}(h0:0≤s):fAt ((yB n (-1:Int)).set 0 0) s=if s=0∧0<n then 0 else -1:=by
 unfold fAt;by_cases hs:s=0
 ·subst hs;cases n with
  |zero=>rfl
  |succ n=>rw[if_pos ⟨rfl,by omega⟩];rfl
 ·rw[if_neg (fun k=>hs k.1)];simp only[y_];rw[zH (by omega)];by_cases hn:s.toNat<n
  ·rw[zP (by simpa using hn)];simp
  ·rw[xI (by simp;omega)];rfl
theorem BkS.start{n m:Nat}(hn:0<n)(hm:0<m):BkS m ((yB n (-1)).set 0 0) ((yB m (-1)).set 0 0):=by
 refine⟨by simp,fun q q0 qm=> ?_⟩;rw[u1d m q0];have:q∈(yB n (-1:Int)).set 0 0↔q=0:=by
  constructor
  ·intro k;rcases wJ k with k|k
   ·have:=vU k;omega
   ·exact k
  ·rintro rfl;exact sf (by simpa using hn) 0
 rw[this];by_cases hq:q=0
 ·rw[if_pos ⟨hq,hm⟩];exact⟨fun _=>hq,fun _=>Int.le_refl _⟩
 ·rw[if_neg (fun k=>hq k.1)];exact⟨fun k=>by omega,fun k=>absurd k hq⟩
theorem d0q{st:List Int×List Int}{e:Int×Int}(h:fAt st.1 e.1=e.2):W4 st e=some st:=if_pos h
theorem x1q{st:List Int×List Int}{e:Int×Int}(h0:0≤e.2)(h1:fAt st.1 e.1<0)(h2:e.2∉st.1):W4 st e=some (st.1.set e.1.toNat e.2,st.2++[e.1]):=by unfold W4;rw[if_neg (by omega),if_neg (fun k=>k.elim (fun k=>by omega) h2)]
theorem Mr{st:List Int×List Int}{e:Int×Int}(h:fAt st.1 e.1≠e.2)(h1:¬(fAt st.1 e.1<0∧e.2∉st.1)):W4 st e=none:=by
 unfold W4;rw[if_neg h,if_pos];by_cases k:0≤fAt st.1 e.1
 ·exact .inl k
 ·refine .inr (Decidable.byContradiction fun k2=>h1 ⟨by omega,k2⟩)
def Sg(a b:Aut)(p q:Int)(ls:List Sy)(st:List Int×List Int)(K:List Int×List Int→Option (List Int)):Option (List Int):=
 if ls.all (x0u a b p q)then(Wy ((ls.filter fun x=>decide (0≤toL a p x∧0≤toL b q x)).map (ltP a b p q)) st).bind K else none
section
variable {a b:Aut} {p q:Int} {x:Sy} {ls:List Sy} {st:List Int×List Int} {K:List Int×List Int→Option (List Int)}
theorem u00:Sg a b p q [] st K=K st:=rfl
theorem u0w(h:x0u a b p q x=false):Sg a b p q (x::ls) st K=none:=by unfold Sg;rw[ub,h,uB,if_neg (by simp)]
theorem x0n(h:x0u a b p q x=true)(h1:toL a p x<0):Sg a b p q (x::ls) st K=Sg a b p q ls st K:=by
 have hf:(x::ls).filter (fun x=>decide (0≤toL a p x∧0≤toL b q x))=ls.filter fun x=>decide (0≤toL a p x∧0≤toL b q x):=by rw[ux,if_neg (by rw[decide_eq_true_eq];omega)]
 unfold Sg;rw[ub,h,un,hf]
theorem c0x(h:x0u a b p q x=true)(h1:0≤toL a p x):Sg a b p q (x::ls) st K=(W4 st (toL a p x,toL b q x)).bind fun st'=>Sg a b p q ls st' K:=by
 have h2:0≤toL b q x:=by rw[x0u,beq_iff_eq,decide_eq_decide]at h;omega
 have hf:(x::ls).filter (fun x=>decide (0≤toL a p x∧0≤toL b q x))=x::ls.filter fun x=>decide (0≤toL a p x∧0≤toL b q x):=by rw[ux,if_pos (by rw[decide_eq_true_eq];exact⟨h1,h2⟩)]
 unfold Sg;rw[ub,h,un,hf,xH,Wy];have e:ltP a b p q x=(toL a p x,toL b q x):=rfl;rw[e];cases W4 st (toL a p x,toL b q x)with
 |none=>simp
 |some st'=>simp
end
theorem w1q(a b:Aut){n:Nat}{st:List Int×List Int}(h:n<st.2.length)(f:Nat):Hy (x1g a b) (psR a b) (f+1) n st=if c0r a b st.2[n] (fAt st.1 st.2[n])then Sg a b st.2[n] (fAt st.1 st.2[n]) (Ep a b) st (Hy (x1g a b) (psR a b) f (n+1))else none:=by rw[Xq h];unfold x1g Sg psR;cases c0r a b st.2[n] (fAt st.1 st.2[n])<;>simp
end Go.Abs
namespace Go.Abs
open Go Go.Proofs Go.Maps Go.RowKit
theorem u1r:(yV 257).all (fun n=>bits .and .u64 n 4294967295==(n:Int))=true:=by kernel_rfl
theorem Np(n:Nat)(h:n≤256):bits .and .u64 n 4294967295=n:=by have:=yE.1 u1r n (List.mem_range.2 (by omega));simpa using this
theorem Mc(n:Nat)(h:n≤256):(n:Int).fdiv (2 ^ min 32 IntKind.u64.bits)=0:=by rw[show min 32 IntKind.u64.bits=32 from rfl,Int.fdiv_eq_ediv_of_nonneg _ (by decide)];omega
theorem w0j(n:Nat)(h:n≤256):IntKind.u64.wrap (n:Int)=n:=by simp[IntKind.wrap,IntKind.bits,IntKind.signed];omega
theorem w1l(n:Nat)(hn:n≤256):PC Tryz.prog 194 [.int .u64 1,.int .u64 n] (fun r=>r= .tup [.int .u64 0,.int .u64 n]):=by have a1:=Np n hn;have a2:bits .and .u64 1 4294967295=1:=Np 1 (by decide);have a3:=Mc n hn;have a4:(1:Int).fdiv (2 ^ min 32 IntKind.u64.bits)=0:=Mc 1 (by decide);have a5:=w0j n hn;have a6:IntKind.u64.wrap 0=0:=w0j 0 (by decide);have a7:(0:Int).fdiv (2 ^ min 32 IntKind.u64.bits)=0:=Mc 0 (by decide);have a8:bits .and .u64 0 4294967295=0:=Np 0 (by decide);refine Ql tOk Tryz.func194 rfl Tryz.results194 rfl (by simp[Tryz.ntmps194]) ?_;rw[Tryz.ntmps194];simp only[Qg];repeat first|(refine r_ ?_;simp[a1,a2,a3,a4,a5,a6,a7,a8])|refine q_ ?_
theorem q2w(n:Nat)(hn:n≤256):PC Tryz.prog 159 [.int .u64 1,.int .u64 n] (fun r=>r= .tup [.int .u64 0,.int .u64 n]):=by
 refine Ql tOk Tryz.func159 rfl Tryz.results159 rfl (by simp[Tryz.ntmps159]) ?_;rw[Tryz.ntmps159];simp only[Qg];repeat first|(refine r_ ?_;simp)|refine q_ ?_
 refine Qa rfl (fun h=>by cases h) (fun _=> ?_);repeat first|(refine r_ ?_;simp)|refine q_ ?_
 refine Qe rfl rfl (by simp) (w1l n hn) rfl ?_;rintro _ rfl;simp;repeat first|(refine r_ ?_;simp)|refine q_ ?_
attribute [local simp] x2q
theorem Xa(x:Int)(n:Nat)(h0:0<n)(hn:n≤256):FR Tryz.prog 103 [LI [x],.i n] 3 1 (fun r=>r=(yB n x).map AV.i):=by
 have a5:=w0j n hn;have a6:IntKind.u64.wrap 1=1:=w0j 1 (by decide);have za:IntKind.i64.wrap (n:Int)=n:=wrap_i64 _ (by omega) (by omega);refine N3 tOk Tryz.func103 rfl Tryz.results103 rfl (by simp[Tryz.ntmps103]) ?_;rw[Tryz.ntmps103];simp only[Qg];repeat first|(refine r_ ?_;simp)|refine q_ ?_
 refine Qa rfl (fun h=>by simp at h;omega) (fun _=> ?_);repeat first|(refine r_ ?_;simp[a5,a6])|refine q_ ?_
 refine Qe rfl rfl (by simp) (q2w n hn) rfl ?_;rintro _ rfl;simp;repeat first|(refine r_ ?_;simp)|refine q_ ?_
 refine Qa rfl (fun h=>by simp at h;omega) (fun _=> ?_);repeat first|(refine r_ ?_;simp[za])|refine q_ ?_
 refine El tOk rfl rfl rfl T40 rfl T3 rfl rfl rfl (n:=n) (by simp;omega) (by unfold maxLen;omega) (.i 0) rfl ?_;simp;repeat first|(refine r_ ?_;simp)|refine q_ ?_
 have z1:uU n [AV.i x]=[AV.i x]:=zV (by simp;omega);have z7:Nat.min 1 n=1:=Nat.min_eq_left h0;refine Ke tOk rfl rfl T40 rfl T3 rfl (ys:=[.i x]) rfl rfl rfl (by simp) (by rw[z1];simp[AV.cells,AV.leaf]) rfl ?_;simp[z1,z7];repeat first|(refine r_ ?_;simp)|refine q_ ?_
 refine Qo (Qc (sl':=[(4,.nils),(7,.sl 0 1 0 n),(8,.i (1:Nat))]) ?_ (by simp));have z8:AV.i x::yB (n - 1) (AV.i 0)=yB 1 (AV.i x)++yB (n - 1) (AV.i 0):=rfl;rw[z8];refine Qp (P:=Tryz.prog) (F:=fun(c:Nat)=>⟨[(4,.nils),(7,.sl 0 1 0 n),(8,.i c)],[.arr 3 1 (yB c (AV.i x)++yB (n - c) (AV.i 0))]⟩)
  (fun c=>1≤c∧c≤n) (fun c=>n - c) ?_ 1 ⟨zW _,h0⟩
 clear z8 z1 z7;rintro c ⟨zb,zc⟩ ih;try simp only at ih ⊢
 repeat first|(refine r_ ?_;simp)|refine q_ ?_
 refine Qa rfl (fun zd=> ?_) (fun ze=> ?_)
 ·have z6:c<n:=by simpa using zd
  obtain⟨m,hm⟩:∃m,Nat.min c (n - c)=m:=⟨_,rfl⟩
  have zj:1≤m∧m≤c∧m≤n - c:=by rw[←hm];exact⟨Nat.le_min.2 ⟨zb,by omega⟩,Nat.min_le_left _ _,Nat.min_le_right _ _⟩
  have hw:IntKind.i64.wrap ((c:Int)+m)=c+m:=wrap_i64 _ (by omega) (by omega);repeat first|(refine r_ ?_;simp)|refine q_ ?_
  refine Qk tOk mixed [7] (.val 0 (.val 1 (.val 2 (.val 3 (.val 4 (.val 5 (.val 6 (.one 7 (.val 8 (.val 9 (.done))))))))))) rfl (by kernel_rfl) ?_;simp[z6,zc];refine Ke (id:=0) (lo:=c) (len:=n - c) (ys:=yB c (.i x)) (e':=3) (xs:=yB c (AV.i x)++yB (n - c) (AV.i 0)) tOk rfl rfl T40 rfl T3 rfl rfl (by simp[Sq]) rfl (by simp) ?_ rfl ?_
  ·intro y hy;have:=vU (List.mem_of_mem_take hy);subst this;simp[AV.cells,AV.leaf]
  simp;have zf:min (n - c) c=m:=by rw[Nat.min_comm];exact hm
  have zg:sq (c+m) (yB c (AV.i x)++yB (n - c) (AV.i 0))=yB (n - (c+m)) (AV.i 0):=by rw[List.drop_append];simp;omega
  have zh:=ih (c+m) ⟨by omega,by omega⟩ (by omega);rw[hm,zf,hw,zg];refine Qc (sl':=[(4,.nils),(7,.sl 0 1 0 n),(8,.i (c+m:Nat))]) zh ?_;simp
 ·have zi:c=n:=by simp at ze;omega
  subst zi;repeat first|(refine r_ ?_;simp)|refine q_ ?_
end Go.Abs
namespace Go.Abs
open Go Go.Proofs Go.Maps Go.RowKit
theorem d0f{α:Type}{a b:List α}{j:Nat}(h1:j<a.length)(h2:j<b.length)(h:a.take j=b.take j)(e:a[j]=b[j]):a.take (j+1)=b.take (j+1):=by rw[zY h1,zY h2,h,e]
theorem z0d(a b:List Iv):PC Tryz.prog 163 [encL a,encL b] (fun r=>r= .bool (decide (a=b))):=by
 refine Ql tOk Tryz.func163 rfl Tryz.results163 rfl (by simp[Tryz.ntmps163]) ?_;rw[Tryz.ntmps163];simp only[Qg];refine Yo 0 rfl (fun hlen=> ?_);rw[yO]at hlen;repeat first|(refine r_ ?_;simp)|refine q_ ?_
 refine Qa rfl (fun h=> ?_) (fun h1=> ?_)
 ·repeat first|(refine r_ ?_;simp)|refine q_ ?_
  rintro rfl;simp at h
 have hl:a.length=b.length:=by simp at h1;omega
 repeat first|(refine r_ ?_;simp)|refine q_ ?_
 refine Qu a.length (fun j=>a.take j=b.take j) (fun j=>[(0,encL a),(1,encL b),(12,.i a.length),(13,.i j)]) (fun _=>[]) rfl (by simp) (by simp) (by simp) (by simp) (by simp) ?_;intro j hj hI ih;repeat first|(refine r_ ?_;simp)|refine q_ ?_
 refine Qa rfl (fun z8=> ?_) (fun za=> ?_)
 ·have z1:j<a.length:=by simpa using z8
  have z6:j<b.length:=by omega
  repeat first|(refine r_ ?_;simp)|refine q_ ?_
  refine Qk tOk mixed [] (.val 0 (.val 1 (.val 2 (.val 3 (.val 4 (.val 5 (.val 6 (.val 7 (.val 8 (.done)))))))))) rfl (by kernel_rfl) ?_;simp[z1,z6,x1v];refine Qa rfl (fun h=> ?_) (fun h=> ?_)
  ·repeat first|(refine r_ ?_;simp)|refine q_ ?_
   rintro rfl;simp at h
  ·repeat first|(refine r_ ?_;simp)|refine q_ ?_
   have he:a[j]=b[j]:=by
    have h2:a[j].lo=b[j].lo∧a[j].hi=b[j].hi:=by simpa using h
    cases ha:a[j];cases hb:b[j];rw[ha,hb]at h2;simp only at h2;rw[h2.1,h2.2]
   refine Qs _ (ih z1 (d0f z1 z6 hI he)) rfl (by simp) ?_ (by simp) (by simp);simp;exact wrap_i64 _ (by omega) (by omega)
 ·have z7:j=a.length:=by simp at za;omega
  subst z7;repeat first|(refine r_ ?_;simp)|refine q_ ?_
  rw[zV (zW _),zV (by omega)]at hI;exact hI
theorem z0u(a b:Prd):PC Tryz.prog 162 [.list (a.map encL),.list (b.map encL),.fn (.func 163) [] []] (fun r=>r= .bool (decide (a=b))):=by
 refine Ql tOk Tryz.func162 rfl Tryz.results162 rfl (by simp[Tryz.ntmps162]) ?_;rw[Tryz.ntmps162];simp only[Qg];refine Yo 0 rfl (fun hlen=> ?_);rw[yO]at hlen;repeat first|(refine r_ ?_;simp)|refine q_ ?_
 refine Qa rfl (fun h=> ?_) (fun h1=> ?_)
 ·repeat first|(refine r_ ?_;simp)|refine q_ ?_
  rintro rfl;simp at h
 have hl:a.length=b.length:=by simp at h1;omega
 repeat first|(refine r_ ?_;simp)|refine q_ ?_
 refine Qu a.length (fun j=>a.take j=b.take j) (fun j=>[(0,.list (a.map encL)),(1,.list (b.map encL)),(2,.fn (.func 163) [] []),(15,.list (a.map encL)),(16,.i a.length),(17,.i j)]) (fun _=>[]) rfl (by simp) (by simp) (by simp) (by simp) (by simp) ?_;intro j hj hI ih;repeat first|(refine r_ ?_;simp)|refine q_ ?_
 refine Qa rfl (fun z8=> ?_) (fun za=> ?_)
 ·have z1:j<a.length:=by simpa using z8
  have z6:j<b.length:=by omega
  have hw:IntKind.i64.wrap ((j:Int)+1)=j+1:=wrap_i64 _ (by omega) (by omega);repeat first|(refine r_ ?_;simp[z1,z6])|refine q_ ?_
  refine Qe rfl rfl (by simp) (z0d a[j] b[j]) rfl ?_;rintro _ rfl;simp;repeat first|(refine r_ ?_;simp)|refine q_ ?_
  refine Qa rfl (fun h=> ?_) (fun h=> ?_)
  ·repeat first|(refine r_ ?_;simp)|refine q_ ?_
   rintro rfl;simp at h
  ·have he:a[j]=b[j]:=by simpa using h
   repeat first|(refine r_ ?_;simp[hw])|refine q_ ?_
   refine Qs _ (ih z1 (d0f z1 z6 hI he)) rfl (by simp) ?_ (by simp) (by simp);simp
 ·have z7:j=a.length:=by simp at za;omega
  subst z7;repeat first|(refine r_ ?_;simp)|refine q_ ?_
  rw[zV (zW _),zV (by omega)]at hI;exact hI
theorem f0c{a:Aut}(h:OkA a)(s:Int)(i:Nat):(Qx ((Wa a s).map (·.on)) i).length≤1000000:=by
 have h1:((Wa a s).map (·.on)).length≤2048:=by rw[yO];exact yW (xX _ _) h.mvs
 have h2:∀p∈(Wa a s).map (·.on),PCk a.types.toNat p:=fun p hp=>by obtain⟨m,hm,rfl⟩:=zX.1 hp;exact(h.mv m (Wu.1 hm).1).on
 have:=Yp h2 i;omega
theorem z1i(a:Aut)(s:Int):Ud a.types.toNat ((Wa a s).map (·.on))=w06 a s:=rfl
theorem v14{a:Aut}{k:Nat}(h:k<a.fin.length):(Rv a)[k]? =some (.list ((Wa a k).map encMv))∧(Rv a).length=a.fin.length:=by unfold Rv Tw;simp[h]
attribute [local irreducible] Wa Rv w06 Qx Ud
theorem q0s(a:Aut)(ha:OkA a)(s:Int)(hs:inS a s):PC Tryz.prog 160 [Em a,.i s] (fun r=>r=encP (w06 a s)):=by
 have zb:∀p∈(Wa a s).map (·.on),PWf a.types.toNat p:=fun p hp=>by obtain⟨m,hm,rfl⟩:=zX.1 hp;exact ha.wfA.on m (Wu.1 hm).1
 have zc:=f0c ha s;have hlen:(Wa a s).length≤2048:=yW (by unfold Wa;exact xX _ _) ha.mvs;have zd:=z1i a s;have hT:=ha.types;obtain⟨k,rfl⟩:∃k:Nat,s=k:=⟨s.toNat,by have:=hs.1;omega⟩
 have hk:k<a.fin.length:=by have:=hs.2;omega
 obtain⟨hm,ze⟩:=v14 hk;have zf:∀hh,(Rv a)[k]'hh= .list ((Wa a k).map encMv):=fun hh=>(yJ hh).2 hm;refine Ql tOk Tryz.func160 rfl Tryz.results160 rfl (by simp[Tryz.ntmps160]) ?_;rw[Tryz.ntmps160];simp only[Qg];simp only[Em,Q1,encP];generalize Wa a k=ms at *
 repeat first|(refine r_ ?_;simp[hm,ze,hk,zf])|refine q_ ?_
 refine Qw (sl':=[(1,.i k),(2,.vptr 0 0),(4,.vptr 1 0),(5,.nils),(12,.list (ms.map encMv)),(13,.i ms.length),(14,.i (0:Nat))]) ?_ (by simp);refine Q6 5 76 1 rfl ?_;simp;have hz:((ms.take 0).map fun m=>encP m.on)=[]:=by simp
 refine Qo (Qc (sl':=[(1,.i k),(2,.vptr 0 0),(4,.vptr 1 0),(5,.sl 2 1 0 0),(12,.list (ms.map encMv)),(13,.i ms.length),(14,.i (0:Nat))]) ?_ (by simp));refine Qp (P:=Tryz.prog) (F:=fun(u:Nat×Nat×List AObj)=>⟨[(1,.i k),(2,.vptr 0 0),(4,.vptr 1 0),(5,.sl u.2.1 1 0 u.1),(12,.list (ms.map encMv)),(13,.i ms.length),(14,.i u.1)],u.2.2⟩)
  (fun u=>u.1≤ms.length∧u.2.2[0]? =some (.vars (Q1 a))∧u.2.2[1]? =some (.vars [.nils])∧u.2.2[u.2.1]? =some (.arr 76 1 ((ms.take u.1).map fun m=>encP m.on))∧1<u.2.1) (fun u=>ms.length - u.1) ?_ (0,2,_) ⟨wD _,rfl,rfl,rfl,uL 1⟩
 rintro⟨j,q,H⟩ ⟨hj,h0,h1,hq,zg⟩ ih;simp only[Q1]at hj h0 h1 hq zg ih ⊢;repeat first|(refine r_ ?_;simp)|refine q_ ?_
 refine Qa rfl (fun zh=> ?_) (fun zi=> ?_)
 ·have z1:j<ms.length:=by simpa using zh
  have hw:IntKind.i64.wrap ((j:Int)+1)=j+1:=wrap_i64 _ (by omega) (by omega);have zj:(ms.take (j+1)).map (fun m=>encP m.on)=(ms.take j).map (fun m=>encP m.on)++[encP ms[j].on]:=by rw[zY z1,List.map_append];rfl
  have z6:((ms.take j).map fun m=>encP m.on).length=j:=by simp;omega
  have z7:=fun q' H'=>ih (j+1,q',H');simp only[zj]at z7;have z8:(ms.map encMv)[j]? =some (encMv ms[j]):=by simp[z1]
  have za:∀hh,(ms.map encMv)[j]'hh=encMv ms[j]:=fun hh=>by simp
  generalize (ms.take j).map (fun m=>encP m.on)=xs at *
  generalize ms[j]=m at *;simp only[encMv]at z8 za
  repeat first|(refine r_ ?_;simp[z8,za,z1])|refine q_ ?_
  refine Qf tOk rfl rfl T91 rfl T76 rfl (by decide) (by decide) rfl rfl rfl ?_;simp[Qb hq,Qj hq,hq,z6];refine⟨by simp[Wk,Qb hq,Qj hq,hq,z6]<;>omega,?_⟩;repeat first|(refine r_ ?_;simp[hw])|refine q_ ?_
  refine Qc (sl':=[(1,.i k),(2,.vptr 0 0),(4,.vptr 1 0),(5,.sl (H.length+2) 1 0 (j+1)),(12,.list (ms.map encMv)),(13,.i ms.length),(14,.i (j+1:Nat))]) ?_ (by simp);refine z7 (H.length+2) _ ⟨by omega,Qb (Qd (by omega) h0 _) _,Qb (Qd (by omega) h1 _) _,?_,by omega⟩ (by omega);rw[zL (by simp)];simp
 ·have zk:j=ms.length:=by simp at zi;omega
  subst zk;rw[xB]at hq;have zl:(ms.map fun m=>encP m.on)=(ms.map (·.on)).map encP:=by rw[v_];rfl
  rw[zl]at hq;refine Wl q hq ?_;simp[AV.fz];rw[zV (by simp)];have cU:=Xv a.types.toNat (ms.map (·.on)) (by omega) zb (fun i _=>zc i) (by simp;omega);rw[show((a.types.toNat:Nat):Int)=a.types by omega,zd]at cU;simp only[encP,LP,v_]at cU;have g0:=Qd (j:=q) (by omega) h0 .dead;have g1:=Qd (j:=q) (by omega) h1 .dead;generalize H.set q .dead=G at *
  have gA:∀y,(G.set 1 y)[1]? =some y:=fun y=>Qh g1 y;repeat first|(refine r_ ?_;simp[g0])|refine q_ ?_
  refine Qe rfl rfl (by simp) (cU) rfl ?_;rintro _ rfl;simp[g1,gA];repeat first|(refine r_ ?_;simp[g1,gA])|refine q_ ?_
theorem y1y(a b:Aut)(ha:OkA a)(hb:OkA b)(p q:Int)(hp:inS a p)(hq:inS b q):PC Tryz.prog 104 [Em a,Em b,.i p,.i q] (fun r=>r= .bool (decide (w06 a p=w06 b q))):=by
 have c1:=q0s a ha p hp;have c2:=q0s b hb q hq;have c3:=z0u (w06 a p) (w06 b q);refine Ql tOk Tryz.func104 rfl Tryz.results104 rfl (by simp[Tryz.ntmps104]) ?_;rw[Tryz.ntmps104];simp only[Qg];simp only[Em,Q1,encP]at c1 c2 ⊢;repeat first|(refine r_ ?_;simp)|refine q_ ?_
 refine Qk tOk mixed [] (.val 0 (.val 1 (.val 2 (.val 5 (.val 6 (.val 7 (.one 3 (.val 4 (.one 8 (.val 9 (.one 10 (.val 11 (.done))))))))))))) rfl (by kernel_rfl) ?_;simp;refine Qe rfl rfl (by simp) (c1) rfl ?_;rintro _ rfl;simp;refine Qe rfl rfl (by simp) (c2) rfl ?_;rintro _ rfl;simp;refine Qe rfl rfl (by simp) (c3) rfl ?_;rintro _ rfl;simp;repeat first|(refine r_ ?_;simp)|refine q_ ?_
end Go.Abs
namespace Go.Abs
open Go Go.Proofs Go.Maps Go.RowKit
attribute [local irreducible] x0v z0l k0t Wa Rv
end Go.Abs
namespace Go.Abs
open Go Go.Proofs Go.Maps Go.RowKit
structure IzF (a b:Aut) (J K c6 q6 c7 q7:Nat) (to bk:List Int) (H:List AObj):Prop where
 h0:H[0]? =some (.vars [.i a.types,.list (a.fin.map .bool),.list (a.mv.map encMv)])
 h1:H[1]? =some (.vars [.i b.types,.list (b.fin.map .bool),.list (b.mv.map encMv)])
 h2:H[2]? =some (.vars [.nils])
 h3:H[3]? =some (.vars [.bool false])
 h4:H[4]? =some (.vars [.i 0])
 hJ:H[J]? =some (.vars [.i a.types,.list (a.fin.map .bool),.list (a.mv.map encMv),.list (Rv a)])
 hK:H[K]? =some (.vars [.i b.types,.list (b.fin.map .bool),.list (b.mv.map encMv),.list (Rv b)])
 hc6:H[c6]? =some (.vars [.sl q6 1 0 to.length])
 hc7:H[c7]? =some (.vars [.sl q7 1 0 bk.length])
 hq6:H[q6]? =some (.arr 3 1 (to.map AV.i))
 hq7:H[q7]? =some (.arr 3 1 (bk.map AV.i))
 bd:4<J∧4<K∧J<q6∧K<q6∧q6<c6∧c6<q7∧q7<c7
theorem IzF.keep{a b:Aut}{J K c6 q6 c7 q7:Nat}{to bk:List Int}{H X:List AObj}(h:IzF a b J K c6 q6 c7 q7 to bk H)(hk:∀i,i≤c7→∀x,H[i]? =some x→X[i]? =some x):IzF a b J K c6 q6 c7 q7 to bk X:=by have:=h.bd;exact⟨hk _ (by omega) _ h.h0,hk _ (by omega) _ h.h1,hk _ (by omega) _ h.h2,hk _ (by omega) _ h.h3,hk _ (by omega) _ h.h4,hk _ (by omega) _ h.hJ,hk _ (by omega) _ h.hK,hk _ (by omega) _ h.hc6,hk _ (by omega) _ h.hc7,hk _ (by omega) _ h.hq6,hk _ (by omega) _ h.hq7,h.bd⟩
theorem IzF.put{a b:Aut}{J K c6 q6 c7 q7:Nat}{to bk:List Int}{H:List AObj}(h:IzF a b J K c6 q6 c7 q7 to bk H){j:Nat}(hj:c7<j)(y:AObj):IzF a b J K c6 q6 c7 q7 to bk (H.set j y):=h.keep fun i hi x hx=>Qd (by omega) hx y
theorem IzF.app{a b:Aut}{J K c6 q6 c7 q7:Nat}{to bk:List Int}{H:List AObj}(h:IzF a b J K c6 q6 c7 q7 to bk H)(E:List AObj):IzF a b J K c6 q6 c7 q7 to bk (H++E):=h.keep fun i _ x hx=>Qb hx E
theorem IzF.upd{a b:Aut}{J K c6 q6 c7 q7:Nat}{to bk:List Int}{H:List AObj}(h:IzF a b J K c6 q6 c7 q7 to bk H)(to' bk':List Int)(h1:to'.length=to.length)(h2:bk'.length=bk.length):IzF a b J K c6 q6 c7 q7 to' bk' ((H.set q6 (.arr 3 1 (to'.map AV.i))).set q7 (.arr 3 1 (bk'.map AV.i))):=by
 have b:=h.bd;have f:∀ {i:Nat} {x:AObj},i≠q6→i≠q7→H[i]? =some x→((H.set q6 (.arr 3 1 (to'.map AV.i))).set q7 (.arr 3 1 (bk'.map AV.i)))[i]? =some x:=fun k1 k2 hx=>Qd (Ne.symm k2) (Qd (Ne.symm k1) hx _) _;refine⟨f (by omega) (by omega) h.h0,f (by omega) (by omega) h.h1,f (by omega) (by omega) h.h2,f (by omega) (by omega) h.h3,f (by omega) (by omega) h.h4,f (by omega) (by omega) h.hJ,f (by omega) (by omega) h.hK,?_,?_,?_,?_,h.bd⟩
 ·rw[h1];exact f (by omega) (by omega) h.hc6
 ·rw[h2];exact f (by omega) (by omega) h.hc7
 ·exact Qd (by omega) (Qh h.hq6 _) _
 ·exact Qh (Qd (by omega) h.hq7 _) _
def IzR(a b:Aut)(J K c6 q6 c7 q7 c8 n:Nat)(st:List Int×List Int)(H:List AObj):Prop:=
 ∃bk q8 off L xs,IzF a b J K c6 q6 c7 q7 st.1 bk H∧BkS b.fin.length st.1 bk∧QS xs off L st.2 n∧H[c8]? =some (.vars [.sl q8 1 off L])∧H[q8]? =some (.arr 3 1 (xs.map AV.i))∧c7<q8
theorem IzR.app{a b:Aut}{J K c6 q6 c7 q7 c8 n:Nat}{st:List Int×List Int}{H:List AObj}(h:IzR a b J K c6 q6 c7 q7 c8 n st H)(E:List AObj):IzR a b J K c6 q6 c7 q7 c8 n st (H++E):=by obtain⟨bk,q8,off,L,xs,g1,g2,g3,g4,g5,g6⟩:=h;exact⟨bk,q8,off,L,xs,g1.app E,g2,g3,Qb g4 E,Qb g5 E,g6⟩
theorem IzR.put{a b:Aut}{J K c6 q6 c7 q7 c8 n:Nat}{st:List Int×List Int}{H:List AObj}(h:IzR a b J K c6 q6 c7 q7 c8 n st H){l:Nat}(hl:c8<l)(h7:c7<c8){y0:AObj}(h0:H[l]? =some y0)(hy:∀e c xs,y0≠ .arr e c xs)(y:AObj):IzR a b J K c6 q6 c7 q7 c8 n st (H.set l y):=by obtain⟨bk,q8,off,L,xs,g1,g2,g3,g4,g5,g6⟩:=h;refine⟨bk,q8,off,L,xs,g1.put (by omega) y,g2,g3,Qd (by omega) g4 y,Qd (fun e=> ?_) g5 y,g6⟩;subst e;rw[h0]at g5;exact hy _ _ _ (Option.some.inj g5)
structure IzP (a b:Aut) (st0 st:List Int×List Int) (es:List (Int×Int)):Prop where
 eq:Wy es st0=some st
 inv:IsoI a b st
 same:∀u,inS a u→0≤fAt st0.1 u→fAt st.1 u=fAt st0.1 u
 pre:∃r,st.2=st0.2++r
theorem IzP.start{a b:Aut}{st:List Int×List Int}(h:IsoI a b st):IzP a b st st []:=⟨rfl,h,fun _ _ _=>rfl,[],by simp⟩
theorem IzP.len{a b:Aut}{st0 st:List Int×List Int}{es:List (Int×Int)}(h:IzP a b st0 st es):st0.2.length≤st.2.length:=by obtain⟨r,hr⟩:=h.pre;rw[hr,List.length_append];omega
theorem IzP.next{a b:Aut}(ha:OkA a)(hb:OkA b){st0 st:List Int×List Int}{es:List (Int×Int)}(h:IzP a b st0 st es)(h0:IsoI a b st0){p:Int}(hp:p∈st0.2){x:Sy}(hx:Ew a x){s t:Int}(hs:toL a p x=s)(ht:toL b (fAt st0.1 p) x=t)(s0:0≤s)(t0:0≤t):
  (W4 st (s,t)=none∧Wy (es++[(s,t)]) st0=none)∨∃st',W4 st (s,t)=some st'∧IzP a b st0 st' (es++[(s,t)]):=by
 obtain⟨r,hr⟩:=h.pre;have z1:=(h0.mem p).1 hp;have z7:p∈st.2:=by rw[hr];exact List.mem_append_left _ hp
 have hf:=h.same p z1.1 z1.2;rcases h.inv.one ha hb z7 hx hs (by rw[hf];exact ht) s0 t0 with⟨st',g1,g2,g3,⟨r2,g4⟩,g5⟩|⟨g1,_⟩
 ·refine .inr ⟨st',g1,⟨by rw[Uy,h.eq,wB,Fu,g1],g2,fun u hu z6=> ?_,r++r2,by rw[g4,hr,List.append_assoc]⟩⟩;have:=h.same u hu z6;rw[g3 u hu (by rw[this];exact z6),this]
 ·exact .inl ⟨g1,by rw[Uy,h.eq,wB,Fu,g1]⟩
def IzO(a b:Aut)(c8 n:Nat)(st0:List Int×List Int)(es:List (Int×Int))(H:List AObj):Prop:=∃st',IzP a b st0 st' es∧IzR a b 7 8 11 10 14 13 c8 n st' H
theorem N1(a b:Aut)(p q:Int):psP a b p q=(Wj a b (p,q)).map (·.2):=rfl
theorem Vn{es fs:List (Int×Int)}{st:List Int×List Int}(h:Wy es st=none):Wy (es++fs) st=none:=by rw[Uy,h];rfl
end Go.Abs
namespace Go.Abs
open Go Go.Proofs Go.Maps Go.RowKit
theorem c0j{a:Aut}(h:Wg a=0):c0p a=(O3 a,0):=if_pos h
attribute [local simp] T40 x2o T25
attribute [local irreducible] toL Wg O3 Hy Wy W4 fAt Wj Wa Rv w06 psP
theorem v1y(a b:Aut):PC Tryz.prog 41 [encA a,encA b] (fun r=>r=j1z (g1d a b)):=by
 refine Ql tOk Tryz.func41 rfl Tryz.results41 rfl (by simp[Tryz.ntmps41]) ?_;rw[Tryz.ntmps41];simp only[Qg];simp only[encA];obtain⟨R,hR⟩:∃R,g1d a b=R:=⟨_,rfl⟩
 rw[hR];unfold g1d at hR;have yp:IntKind.i64.wrap 1=1:=by decide
 have xl:IntKind.i64.wrap 2=2:=by decide
 repeat first|(refine r_ ?_;simp)|refine q_ ?_
 refine Qw (sl':=[(2,.vptr 0 0),(3,.vptr 1 0),(4,.vptr 2 0),(5,.vptr 3 0),(6,.vptr 4 0),(24,.sl 5 3 0 2),(25,.i 2),(26,.i (0:Nat))]) ?_ (by simp);refine Qu 2 (fun j=>(1≤j→Wg a=0)∧(2≤j→Wg b=0)) (fun j=>[(2,.vptr 0 0),(3,.vptr 1 0),(4,.vptr 2 0),(5,.vptr 3 0),(6,.vptr 4 0),(24,.sl 5 3 0 2),(25,.i 2),(26,.i j)])
  (fun _=>[.vars (Q7 a),.vars (Q7 b),.vars [.nils],.vars [.bool false],.vars [.i 0],.arr 25 3 [encA a,encA b]]) rfl (by simp) (by simp) (by simp) (by simp) ⟨fun h=>by omega,fun h=>by omega⟩ ?_
 intro j hj hI ih;simp only[encA];repeat first|(refine r_ ?_;simp)|refine q_ ?_
 refine Qa rfl (fun y0=> ?_) (fun yc=> ?_)
 ·have x0:j<2:=by simp at y0;omega
  obtain rfl|rfl:j=0∨j=1:=by omega
  ·repeat first|(refine r_ ?_;simp)|refine q_ ?_
   refine Qe rfl rfl (by simp) (Yh a) rfl ?_;rintro _ rfl;simp;repeat first|(refine r_ ?_;simp)|refine q_ ?_
   refine Qa rfl (fun h=> ?_) (fun h=> ?_)
   ·rw[if_pos (by simpa using h)]at hR;rw[←hR];repeat first|(refine r_ ?_;simp)|refine q_ ?_
    rfl
   ·have h0:Wg a=0:=by simpa using h
    repeat first|(refine r_ ?_;simp)|refine q_ ?_
    refine Qs _ (ih (by omega) ⟨fun _=>h0,fun h=>by omega⟩) rfl (by simp) ?_ (by simp) (by simp);simp[yp]
  ·have y1:=hI.1 (by omega);repeat first|(refine r_ ?_;simp)|refine q_ ?_
   refine Qe rfl rfl (by simp) (Yh b) rfl ?_;rintro _ rfl;simp;repeat first|(refine r_ ?_;simp)|refine q_ ?_
   refine Qa rfl (fun h=> ?_) (fun h=> ?_)
   ·rw[if_neg (fun k=>k y1),if_pos (by simpa using h)]at hR;rw[←hR];repeat first|(refine r_ ?_;simp)|refine q_ ?_
    rfl
   ·have h0:Wg b=0:=by simpa using h
    repeat first|(refine r_ ?_;simp)|refine q_ ?_
    refine Qs _ (ih (by omega) ⟨fun _=>y1,fun _=>h0⟩) rfl (by simp) ?_ (by simp) (by simp);simp[yp,xl]
 have x1:j=2:=by simp at yc;omega
 subst x1;have y1:=hI.1 (by omega);have x2:=hI.2 (by omega);clear hI ih;rw[if_neg (fun k=>k y1),if_neg (fun k=>k x2)]at hR;repeat first|(refine r_ ?_;simp)|refine q_ ?_
 refine Qu 2 (fun j=>(1≤j→O3 a=true)∧(2≤j→O3 b=true)) (fun j=>[(2,.vptr 0 0),(3,.vptr 1 0),(4,.vptr 2 0),(5,.vptr 3 0),(6,.vptr 4 0),(38,.sl 6 3 0 2),(39,.i 2),(40,.i j)])
  (fun _=>[.vars (Q7 a),.vars (Q7 b),.vars [.nils],.vars [.bool false],.vars [.i 0],.arr 25 3 [encA a,encA b],.arr 25 3 [encA a,encA b]]) rfl (by simp) (by simp) (by simp) (by simp) ⟨fun h=>by omega,fun h=>by omega⟩ ?_
 intro j hj hI ih;simp only[encA];repeat first|(refine r_ ?_;simp)|refine q_ ?_
 refine Qa rfl (fun y0=> ?_) (fun yc=> ?_)
 ·have x0:j<2:=by simp at y0;omega
  obtain rfl|rfl:j=0∨j=1:=by omega
  ·repeat first|(refine r_ ?_;simp)|refine q_ ?_
   refine Qe rfl rfl (by simp) (j0y a) rfl ?_;rintro _ rfl;simp[c0j y1];repeat first|(refine r_ ?_;simp)|refine q_ ?_
   refine Qa rfl (fun h=> ?_) (fun h=> ?_)
   ·rw[if_pos (.inl (by simpa using h))]at hR;rw[←hR];repeat first|(refine r_ ?_;simp)|refine q_ ?_
    rfl
   ·have h0:O3 a=true:=by simpa using h
    repeat first|(refine r_ ?_;simp)|refine q_ ?_
    refine Qs _ (ih (by omega) ⟨fun _=>h0,fun h=>by omega⟩) rfl (by simp) ?_ (by simp) (by simp);simp[yp]
  ·have we:=hI.1 (by omega);repeat first|(refine r_ ?_;simp)|refine q_ ?_
   refine Qe rfl rfl (by simp) (j0y b) rfl ?_;rintro _ rfl;simp[c0j x2];repeat first|(refine r_ ?_;simp)|refine q_ ?_
   refine Qa rfl (fun h=> ?_) (fun h=> ?_)
   ·rw[if_pos (.inr (by simpa using h))]at hR;rw[←hR];repeat first|(refine r_ ?_;simp)|refine q_ ?_
    rfl
   ·have h0:O3 b=true:=by simpa using h
    repeat first|(refine r_ ?_;simp)|refine q_ ?_
    refine Qs _ (ih (by omega) ⟨fun _=>we,fun _=>h0⟩) rfl (by simp) ?_ (by simp) (by simp);simp[yp,xl]
 have x1:j=2:=by simp at yc;omega
 subst x1;have xm:=hI.1 (by omega);have xn:=hI.2 (by omega);clear hI ih;rw[if_neg (fun k=>by rw[xm,xn]at k;simp at k)]at hR;repeat first|(refine r_ ?_;simp)|refine q_ ?_
 refine Qa rfl (fun h=> ?_) (fun h=> ?_)
 ·rw[if_pos (by simpa using h)]at hR;rw[←hR];repeat first|(refine r_ ?_;simp)|refine q_ ?_
  rfl
 have xo:a.types=b.types:=by simpa using h
 rw[if_neg (fun k=>k xo)]at hR;have ht:b.types=a.types:=xo.symm;have ha:=(Ut a).1 y1;have hb:=(Ut b).1 x2;have vk:=ha.fin;have vl:=hb.fin;repeat first|(refine r_ ?_;simp)|refine q_ ?_
 refine Qw (sl':=[(2,.vptr 0 0),(3,.vptr 1 0),(4,.vptr 2 0),(5,.vptr 3 0),(6,.vptr 4 0)]) ?_ (by simp);have cA:=R9 a ha;have cB:=R9 b hb;simp only[Em,Q1,encA]at cA cB;refine Va tOk mixed [6,7] (.val 0 (.val 2 (.three 1 (.three 3 (.two 4 (.one 5 (.one 6 (.one 7 (.done)))) 5 (.one 4 (.one 6 (.one 7 (.done))))) 4 (.two 3 (.one 5 (.one 6 (.one 7 (.done)))) 5 (.one 3 (.one 6 (.one 7 (.done))))) 5 (.two 3 (.one 4 (.one 6 (.one 7 (.done)))) 4 (.one 3 (.one 6 (.one 7 (.done)))))) 4 (.two 1 (.two 3 (.one 5 (.one 6 (.one 7 (.done)))) 5 (.one 3 (.one 6 (.one 7 (.done))))) 5 (.one 1 (.one 3 (.one 6 (.one 7 (.done)))))) 5 (.two 1 (.two 3 (.one 4 (.one 6 (.one 7 (.done)))) 4 (.one 3 (.one 6 (.one 7 (.done))))) 4 (.one 1 (.one 3 (.one 6 (.one 7 (.done))))))))) (⟨[(2,.vptr 0 0),(3,.vptr 1 0),(4,.vptr 2 0),(5,.vptr 3 0),(6,.vptr 4 0),(14,.vptr 7 0),(15,.vptr 8 0)],[.vars [.i a.types,.list (a.fin.map .bool),.list (a.mv.map encMv)],.vars [.i b.types,.list (b.fin.map .bool),.list (b.mv.map encMv)],.vars [.nils],.vars [.bool false],.vars [.i 0],.arr 25 3 [.agg [.i a.types,.list (a.fin.map .bool),.list (a.mv.map encMv)],.agg [.i b.types,.list (b.fin.map .bool),.list (b.mv.map encMv)]],.arr 25 3 [.agg [.i a.types,.list (a.fin.map .bool),.list (a.mv.map encMv)],.agg [.i b.types,.list (b.fin.map .bool),.list (b.mv.map encMv)]],.vars [.i a.types,.list (a.fin.map .bool),.list (a.mv.map encMv),.list (Rv a)],.vars [.i b.types,.list (b.fin.map .bool),.list (b.mv.map encMv),.list (Rv b)]]⟩) rfl (by kernel_rfl) ?_ ?_;simp
 ·repeat' (first|refine And.intro ?_ ?_|(refine Qe rfl rfl (by simp) cA rfl ?_;rintro _ rfl;simp)|(refine Qe rfl rfl (by simp) cB rfl ?_;rintro _ rfl;simp))
  all_goals first|(refine Jg ?_;simp;done)|exact Cf [0,1,2,3,4,5,6,8,7] (by simp) (by decide) (by simp) rfl (by simp) (by simp) (by simp)
 repeat first|(refine r_ ?_;simp)|refine q_ ?_
 refine Eb 9 rfl ?_;simp;refine Uw rfl rfl (by simp) (Xa (-1) a.fin.length (by omega) (by omega)) rfl ?_;rintro _ rfl;simp;repeat first|(refine r_ ?_;simp)|refine q_ ?_
 refine Eb 12 rfl ?_;simp;refine Uw rfl rfl (by simp) (Xa (-1) b.fin.length (by omega) (by omega)) rfl ?_;rintro _ rfl;simp;repeat first|(refine r_ ?_;simp)|refine q_ ?_
 obtain⟨Rb,x3⟩:∃Rb,Hy (g1q a b) (psP a b) (a.fin.length+1) 0 (A0 a)=Rb:=⟨_,rfl⟩
 rw[x3]at hR;have x4:=A9 ha hb;have x5:=BkS.start (n:=a.fin.length) (m:=b.fin.length) (by omega) (by omega);have d1:=(Gd ha.wfA).1 xm;have d2:=(Gd hb.wfA).1 xn;have x6:=v1m ⟨ha,d1⟩ ⟨hb,d2⟩ ht;have xp:((A0 a).1.map AV.i)=(yB a.fin.length (AV.i (-1))).set 0 (.i 0):=by unfold A0;simp[u6]
 have wg:(A0 a).2=[0]:=rfl;have xq:(A0 a).1=(yB a.fin.length (-1)).set 0 0:=rfl;have xr:((yB b.fin.length (-1:Int)).set 0 0).map AV.i=(yB b.fin.length (AV.i (-1))).set 0 (.i 0):=by simp[u6]
 rw[←xq]at x5;have yd:((yB b.fin.length (-1:Int)).set 0 0).length=b.fin.length:=by simp
 generalize (yB b.fin.length (-1:Int)).set 0 0=x7 at *
 have zd:=x4.len;have rA:(yB a.fin.length (AV.i (-1))).length=a.fin.length:=by simp
 have rB:(yB b.fin.length (AV.i (-1))).length=b.fin.length:=by simp
 have rA0:(yB a.fin.length (AV.i (-1)))[0]? =some (.i (-1)):=by rw[vJ,if_pos (by omega)]
 have rB0:(yB b.fin.length (AV.i (-1)))[0]? =some (.i (-1)):=by rw[vJ,if_pos (by omega)]
 have wh:0<a.fin.length:=by omega
 have wi:0<b.fin.length:=by omega
 generalize yB a.fin.length (AV.i (-1))=ra at *;generalize yB b.fin.length (AV.i (-1))=rb at *;refine Qw (sl':=[(2,.vptr 0 0),(3,.vptr 1 0),(4,.vptr 2 0),(5,.vptr 3 0),(6,.vptr 4 0),(14,.vptr 7 0),(15,.vptr 8 0),(16,.vptr 11 0),(17,.vptr 14 0)]) ?_ (by simp)
 refine Av (P:=Tryz.prog) tOk mixed [3,5] (.val 0 (.val 2 (.two 1 (.one 3 (.val 4 (.one 5 (.done)))) 3 (.val 1 (.val 4 (.one 5 (.done))))))) (fun S'=>IzF a b 7 8 11 10 14 13 (A0 a).1 x7 S'.hp∧S'.hp.length=15∧look S'.sl 2=some (.vptr 0 0)∧look S'.sl 3=some (.vptr 1 0)∧look S'.sl 4=some (.vptr 2 0)∧look S'.sl 5=some (.vptr 3 0)∧look S'.sl 6=some (.vptr 4 0)∧look S'.sl 14=some (.vptr 7 0)∧look S'.sl 15=some (.vptr 8 0)∧look S'.sl 16=some (.vptr 11 0)∧look S'.sl 17=some (.vptr 14 0)) rfl (by kernel_rfl) ?_ ?_
 ·have rAh:∀hh,ra[0]'hh= .i (-1):=fun hh=>(yJ hh).2 rA0;have rBh:∀hh,rb[0]'hh= .i (-1):=fun hh=>(yJ hh).2 rB0;simp[rA,rB,rA0,rB0,wh,wi,rAh,rBh];exact⟨rfl,rfl,rfl,rfl,rfl,rfl,rfl,by rw[zd];rfl,by rw[yd];rfl,by rw[xp];rfl,by rw[xr];rfl,by decide⟩
 rintro⟨sl,G⟩ ⟨zF,ye,l2,l3,l4,l5,l6,l14,l15,l16,l17⟩;simp only at zF ye l2 l3 l4 l5 l6 l14 l15 l16 l17;clear rA rB rA0 rB0 xp xr;clear ra rb;refine Qw (sl':=[(2,.vptr 0 0),(3,.vptr 1 0),(4,.vptr 2 0),(5,.vptr 3 0),(6,.vptr 4 0),(14,.vptr 7 0),(15,.vptr 8 0),(16,.vptr 11 0),(17,.vptr 14 0)]) ?_ (by simp[l2,l3,l4,l5,l6,l14,l15,l16,l17]);repeat first|(refine r_ ?_;simp)|refine q_ ?_
 refine Wf fun Z hZ=> ?_;have zR:IzR a b 7 8 11 10 14 13 16 0 (A0 a) Z:=by
  rw[hZ];refine⟨x7,15,0,1,[0],zF.app _,x5,⟨rfl,rfl,zW _⟩,?_,?_,by decide⟩
  ·rw[zL (by omega)];simp[ye]
  ·rw[zL (by omega)];simp[ye]
 rw[ye];clear hZ zF ye l2 l3 l4 l5 l6 l14 l15 l16 l17;clear G sl;refine Qo (Qc (sl':=[(2,.vptr 0 0),(3,.vptr 1 0),(4,.vptr 2 0),(5,.vptr 3 0),(6,.vptr 4 0),(14,.vptr 7 0),(15,.vptr 8 0),(16,.vptr 11 0),(17,.vptr 14 0),(18,.vptr 16 0)]) ?_ (by simp));refine Qp (P:=Tryz.prog) (F:=fun(u:Nat×Nat×(List Int×List Int)×Nat×List AObj)=>⟨[(2,.vptr 0 0),(3,.vptr 1 0),(4,.vptr 2 0),(5,.vptr 3 0),(6,.vptr 4 0),(14,.vptr 7 0),(15,.vptr 8 0),(16,.vptr 11 0),(17,.vptr 14 0),(18,.vptr u.2.2.2.1 0)],u.2.2.2.2⟩)
  (fun u=>a.fin.length+1≤u.2.1+u.1∧u.2.1≤u.2.2.1.2.length∧IsoI a b u.2.2.1∧Hy (g1q a b) (psP a b) u.1 u.2.1 u.2.2.1=Rb∧IzR a b 7 8 11 10 14 13 u.2.2.2.1 u.2.1 u.2.2.1 u.2.2.2.2∧14<u.2.2.2.1) (fun u=>u.1) ?_ (a.fin.length+1,0,A0 a,16,Z) ⟨by simp,by simp,x4,x3,zR,(by omega:14<16)⟩
 clear x4 x3 zR x5 yd wg xq zd;clear Z x7;rintro⟨f,n,st,c8,H⟩ ⟨wj,xt,hI,hB,⟨bk,q8,off,L,xs,zF,zB,zQ,z8,yq,wk⟩,wm⟩ ih;simp only at wj xt hI hB zF zB zQ z8 yq wm ih ⊢;have hL:=zQ.pos xt;have vm:=hI.len2;repeat first|(refine r_ ?_;simp[z8])|refine q_ ?_
 refine Qa rfl (fun y0=> ?_) (fun yc=> ?_)
 ·have hn:n<st.2.length:=by simp at y0;omega
  obtain⟨f,rfl⟩:∃g,f=g+1:=⟨f - 1,by omega⟩
  have wo:=fun n' st' c' G h=>ih (f,n',st',c',G) h (uL _);clear ih;have hx:=zQ.head hn;rw[Xq hn]at hB;have x8:=(hI.mem _).1 (zT hn);have yf:=hI.rng _ x8.1 x8.2;have x9:st.2[n]∈st.2:=zT hn;generalize st.2[n]=p at *
  obtain⟨yg,wu⟩:=x8;obtain⟨q,hq⟩:∃q,fAt st.1 p=q:=⟨_,rfl⟩
  rw[hq]at hB yf wu;obtain⟨pn,rfl⟩:∃k:Nat,p=k:=⟨p.toNat,by have:=yg.1;omega⟩
  obtain⟨qn,rfl⟩:∃k:Nat,q=k:=⟨q.toNat,by omega⟩
  have yr:pn<a.fin.length:=by have:=yg.2;omega
  have xa:qn<b.fin.length:=by have:=yf.2;omega
  have xb:(xs.map AV.i)[off]? =some (.i pn):=by simp[hx]
  have xu:∀hh,(xs.map AV.i)[off]'hh= .i pn:=fun hh=>(yJ hh).2 xb;have xv:=hI.len;have xc:(st.1.map AV.i)[pn]? =some (.i qn):=by have:=Io (f:=st.1) (s:=(pn:Int)) (by omega) (by simp;omega);rw[hq]at this;simpa using this
  have yh:∀hh,(st.1.map AV.i)[pn]'hh= .i qn:=fun hh=>(yJ hh).2 xc;have wv:(st.1.map AV.i).length=a.fin.length:=by simp[xv]
  have wy:=zQ.len;have xw:(xs.map AV.i).length=xs.length:=by simp
  have xx:0<L:=by omega
  have z6:=zF.hc6;have xy:=zF.hq6;rw[xv]at z6;repeat first|(refine r_ ?_;simp)|refine q_ ?_
  refine Qk tOk mixed [] (.val 0 (.val 1 (.val 2 (.val 3 (.val 4 (.val 5 (.val 6 (.val 7 (.val 8 (.val 9 (.val 10 (.done)))))))))))) rfl (by kernel_rfl) ?_;simp[z8,yq,xb,xu,xx,xw,z6,xy,xc,yh,yr,wv];have xz:c0r a b pn qn=(a.fin[pn]==b.fin[qn]):=by unfold c0r;simp[y_,yr,xa]
  unfold g1q at hB;rw[xz]at hB;have z0:=zF.h0;have z1:=zF.h1;have zJ:=zF.hJ;have zK:=zF.hK;have y2:=zF.h2;have y3:=zF.h3;have y4:=zF.h4;by_cases he:a.fin[pn]=b.fin[qn]
  ·have zb:(a.fin[pn]==b.fin[qn])=true:=by simp[he]
   rw[zb,un]at hB;have cS:=y1y a b ha hb pn qn yg yf;simp only[Em,Q1]at cS;repeat first|(refine r_ ?_;simp)|refine q_ ?_
   refine Qk tOk mixed [] (.val 0 (.val 1 (.val 2 (.val 3 (.val 4 (.val 5 (.val 6 (.val 7 (.val 8 (.val 9 (.val 10 (.val 11 (.val 12 (.val 13 (.val 14 (.val 15 (.one 16 (.val 17 (.val 18 (.done)))))))))))))))))))) rfl (by kernel_rfl) ?_;simp[z0,z1,zJ,zK,yr,xa,zb];refine Qe rfl rfl (by simp) (cS) rfl ?_;rintro _ rfl;simp;refine Qa rfl (fun h=> ?_) (fun h=> ?_)
   ·rw[if_neg (by simpa using h)]at hB;rw[←hB]at hR;rw[←hR];have k3:∀y,(H.set 2 y)[3]? =some (.vars [.bool false]):=fun y=>Qd (by decide) y3 y;have k4:∀y z,((H.set 2 y).set 3 z)[4]? =some (.vars [.i 0]):=fun y z=>Qd (by decide) (Qd (by decide) y4 y) z;have kA:∀x y z,(((H.set 2 x).set 3 y).set 4 z)[2]? =some x:=fun x y z=>Qd (by decide) (Qd (by decide) (Qh y2 x) y) z;have kB:∀x y z,(((H.set 2 x).set 3 y).set 4 z)[3]? =some y:=fun x y z=>Qd (by decide) (Qh (k3 x) y) z;have kC:∀x y z,(((H.set 2 x).set 3 y).set 4 z)[4]? =some z:=fun x y z=>Qh (k4 x y) z;repeat first|(refine r_ ?_;simp[y2,k3,k4,kA,kB,kC])|refine q_ ?_
    rfl
   rw[if_pos (by simpa using h)]at hB;clear zb he xz cS xb xu xc yh;repeat first|(refine r_ ?_;simp[zJ,zK])|refine q_ ?_
   refine Qe rfl rfl (by simp) (Zo a b pn qn) rfl ?_;rintro _ rfl;simp;repeat first|(refine r_ ?_;simp)|refine q_ ?_
   refine Qw (sl':=[(2,.vptr 0 0),(3,.vptr 1 0),(4,.vptr 2 0),(5,.vptr 3 0),(6,.vptr 4 0),(14,.vptr 7 0),(15,.vptr 8 0),(16,.vptr 11 0),(17,.vptr 14 0),(18,.vptr c8 0),(117,.fn (.func 164) [] [.iptr (Q1 a),.iptr [.i pn],.iptr (Q1 b),.iptr [.i qn]])]) ?_ (by simp[Q1]);refine Rg rfl (Rf:=fun _ H'=>∃pend sl' yi a' b',H'[H.length]? =some (.lp pend.isNone pend 160 sl' yi a' b')∧
    ((pend=none∧IzO a b c8 n st (psP a b pn qn) H')∨(pend=some .ret∧Wy (psP a b pn qn) st=none∧H'[2]? =some (.vars [.nils])∧H'[3]? =some (.vars [.bool false])∧H'[4]? =some (.vars [.i 0])))) ?_ ?_
   ·simp;refine Jh fun H1 xd=> ?_;have fR:IzR a b 7 8 11 10 14 13 c8 n st H1:=by rw[xd];exact IzR.app ⟨bk,q8,off,L,xs,zF,zB,zQ,z8,yq,wk⟩ _
    have fl:=congrArg (fun h:List AObj=>h[H.length]?) xd;simp at fl;have y5:c8<H.length:=Qi z8;clear xd z0 z1 zJ zK y2 y3 y4 z8 yq zF zB zQ z6 xy xw wy hL xx hx y0 hB;generalize H.length=l at *;refine FC.mono (Fv a b ha hb ht pn qn yg yf l (by rfl) (by rfl)
     (fun pre H'=>H'[l]? =H1[l]? ∧IzO a b c8 n st (pre.map (·.2)) H')
     (fun c H'=>c= .ret∧(∃sl' yi a' b',H'[l]? =some (.lp false (some .ret) 160 sl' yi a' b'))∧Wy (psP a b pn qn) st=none∧H'[2]? =some (.vars [.nils])∧H'[3]? =some (.vars [.bool false])∧H'[4]? =some (.vars [.i 0])) H1
     (fun k H' h=>h.1.trans fl) ?_ ?_ ⟨rfl,st,IzP.start hI,fR⟩) ?_
    ·rintro k H' X ⟨h2,st',h3,h4⟩;exact⟨by rw[←h2,zI (by rw[fl]at h2;exact Qi h2)],st',h3,h4.app X⟩
    ·rintro pre ⟨x,s,t⟩ post H' hst ⟨h1,st',hP,zc,q9,z7,L',ys,gF,gB,gQ,g8,zj,xe⟩ hlen;simp[Tq];have w0:(x,s,t)∈Wj a b ((pn:Int),(qn:Int)):=by rw[hst];simp
     obtain⟨w1,w5⟩:=Fa ha hb w0;simp only at w1 w5;obtain⟨y,hy,v7,v8,s0,t0⟩:=x6.from_ pn qn yg yf (s,t) (by rw[N1];exact zX.2 ⟨_,w0,rfl⟩);have y9:=hP.next ha hb hI x9 hy v7 (by rw[hq];exact v8) s0 t0;have vb:(pre++[(x,s,t)]).map (·.2)=pre.map (·.2)++[(s,t)]:=by simp
     have zn:Wy (pre.map (·.2)++[(s,t)]) st=none→Wy (psP a b pn qn) st=none:=fun h=>by
      have e:psP a b pn qn=(pre.map (·.2)++[(s,t)])++post.map (·.2):=by rw[N1,hst];simp
      rw[e];exact Vn h
     have zz:=Qh (h1.trans fl) .dead;have vn:=Qi fl;have zk:q9≠l:=fun e=>by rw[e,h1.trans fl]at zj;simp at zj
     have yj:q9≠c8:=fun e=>by rw[e,g8]at zj;simp at zj
     have gF:=gF.put (j:=l) (by omega) .dead;have g8:=Qd (j:=l) (by omega) g8 .dead;have zj:=Qd (j:=l) (Ne.symm zk) zj .dead;have w7:∀i cs,H1.length≤i→H'[i]? =some (.vars cs)→(H'.set l .dead)[i]? =some (.vars cs):=fun i cs hi hc=>by rw[zH (by omega)];exact hc
     have w9:(H'.set l .dead).length=H'.length:=by simp
     rw[←w9];generalize H'.set l .dead=Z at *;simp only[w1t]
     obtain⟨sn,rfl⟩:∃k:Nat,s=k:=⟨s.toNat,by omega⟩
     obtain⟨tn,rfl⟩:∃k:Nat,t=k:=⟨t.toNat,by omega⟩
     have zd:sn<a.fin.length:=by have:=w1.2;omega
     have zl:tn<b.fin.length:=by have:=w5.2;omega
     have ze:=hP.inv.len;have wa:=gB.len;have zp:=gB.iff tn (by omega) (by omega);have yk:=fun h=>gB.set (s:=(sn:Int)) (t:=(tn:Int)) (by omega) (by simp;omega) h (by omega) (by omega);obtain⟨v,hv⟩:∃v,fAt st'.1 sn=v:=⟨_,rfl⟩
     obtain⟨w,hw⟩:∃w,fAt zc tn=w:=⟨_,rfl⟩
     rw[hv]at yk;rw[hw]at zp;have vo:((sn:Int),(tn:Int))=((sn:Int),(tn:Int)):=rfl;have zq:(st'.1.map AV.i)[sn]? =some (.i v):=by have:=Io (f:=st'.1) (s:=(sn:Int)) (by omega) (by simp;omega);rw[hv]at this;simpa using this
     have zf:∀hh,(st'.1.map AV.i)[sn]'hh= .i v:=fun hh=>(yJ hh).2 zq;have yl:(zc.map AV.i)[tn]? =some (.i w):=by have:=Io (f:=zc) (s:=(tn:Int)) (by omega) (by simp;omega);rw[hw]at this;simpa using this
     have zm:∀hh,(zc.map AV.i)[tn]'hh= .i w:=fun hh=>(yJ hh).2 yl;have zr:(st'.1.map AV.i).length=a.fin.length:=by simp[ze]
     have yt:(zc.map AV.i).length=b.fin.length:=by simp[wa]
     refine Uo tOk rfl ?_;simp;refine Wf fun Y hY=> ?_;have yF:IzF a b 7 8 11 10 14 13 st'.1 zc Y:=by rw[hY];exact gF.app _
     have y8:Y[c8]? =some (.vars [.sl q9 1 z7 L']):=by rw[hY];exact Qb g8 _
     have xf:Y[q9]? =some (.arr 3 1 (ys.map AV.i)):=by rw[hY];exact Qb zj _
     have yx:Y[Z.length]? =some (.vars [.i x.ty,.i x.num,.i sn,.i tn]):=by rw[hY,zL (by simp)];simp
     have yz:Y[l]? =some .dead:=by rw[hY];exact Qb zz _
     have vc:Y.length=Z.length+1:=by rw[hY];simp
     have xg:∀i cs,H1.length≤i→H'[i]? =some (.vars cs)→Y[i]? =some (.vars cs):=fun i cs hi hc=>by rw[hY];exact Qb (w7 i cs hi hc) _
     have vp:l<Z.length:=Qi zz;clear hY gF g8 zj zz w7 w9;generalize Z.length=X at *;clear Z
     have y6:=yF.hc6;have y7:=yF.hc7;have zt:=yF.hq6;have ya:=yF.hq7;rw[ze]at y6;rw[wa]at y7;by_cases yu:v<0
     ·have yv:decide (v<0)=true:=by simpa using yu
      by_cases hw0:w<0
      ·have xh:decide (w<0)=true:=by simpa using hw0
       repeat first|(refine r_ ?_;simp[y6,y7,zt,ya,yx,zq,zf,yl,zm,zr,yt,zd,zl,yv,xh])|refine q_ ?_
       refine Qa rfl (fun _=> ?_) (fun h=>by simp at h);repeat first|(refine r_ ?_;simp)|refine q_ ?_
       have k7:∀y,(Y.set 10 y)[14]? =some (.vars [.sl 13 1 0 b.fin.length]):=fun y=>Qd (by decide) y7 y;have wb:∀y,(Y.set 10 y)[13]? =some (.arr 3 1 (zc.map AV.i)):=fun y=>Qd (by decide) ya y;have kx:∀y,(Y.set 10 y)[X]? =some (.vars [.i x.ty,.i x.num,.i sn,.i tn]):=fun y=>Qd (by omega) yx y;refine Av (P:=Tryz.prog) tOk mixed [11,13] (.val 0 (.val 1 (.val 2 (.val 4 (.val 6 (.val 7 (.val 8 (.val 10 (.four 3 (.three 5 (.two 9 (.one 11 (.val 12 (.one 13 (.done)))) 11 (.val 9 (.val 12 (.one 13 (.done))))) 9 (.two 5 (.one 11 (.val 12 (.one 13 (.done)))) 11 (.val 5 (.val 12 (.one 13 (.done))))) 11 (.val 5 (.val 9 (.val 12 (.one 13 (.done)))))) 5 (.three 3 (.two 9 (.one 11 (.val 12 (.one 13 (.done)))) 11 (.val 9 (.val 12 (.one 13 (.done))))) 9 (.two 3 (.one 11 (.val 12 (.one 13 (.done)))) 11 (.val 3 (.val 12 (.one 13 (.done))))) 11 (.val 3 (.val 9 (.val 12 (.one 13 (.done)))))) 9 (.three 3 (.two 5 (.one 11 (.val 12 (.one 13 (.done)))) 11 (.val 5 (.val 12 (.one 13 (.done))))) 5 (.two 3 (.one 11 (.val 12 (.one 13 (.done)))) 11 (.val 3 (.val 12 (.one 13 (.done))))) 11 (.val 3 (.val 5 (.val 12 (.one 13 (.done)))))) 11 (.val 3 (.val 5 (.val 9 (.val 12 (.one 13 (.done))))))))))))))) (fun S'=>S'.hp=(Y.set 10 (.arr 3 1 ((st'.1.map AV.i).set sn (.i tn)))).set 13 (.arr 3 1 ((zc.map AV.i).set tn (.i sn)))∧look S'.sl 4=some (.vptr 2 0)∧look S'.sl 5=some (.vptr 3 0)∧look S'.sl 6=some (.vptr 4 0)∧look S'.sl 16=some (.vptr 11 0)∧look S'.sl 18=some (.vptr c8 0)∧look S'.sl 21=some (.vptr X 0)) rfl (by kernel_rfl) ?_ ?_
       ·simp[y6,y7,zt,ya,yx,zq,zf,yl,zm,zr,yt,zd,zl,k7,wb,kx]
       rintro⟨vq,E⟩ ⟨hE,m4,m5,m6,m16,m18,m21⟩;simp only at hE m4 m5 m6 m16 m18 m21;have zu:(st'.1.map AV.i).set sn (.i tn)=(st'.1.set sn tn).map AV.i:=by simp[u6]
       have ym:(zc.map AV.i).set tn (.i sn)=(zc.set tn sn).map AV.i:=by simp[u6]
       rw[zu,ym]at hE;have eF:=yF.upd (st'.1.set sn tn) (zc.set tn sn) (by simp) (by simp);rw[←hE]at eF;have e8:E[c8]? =some (.vars [.sl q9 1 z7 L']):=by rw[hE];exact Qd (by omega) (Qd (by omega) y8 _) _
       have zg:E[q9]? =some (.arr 3 1 (ys.map AV.i)):=by rw[hE];exact Qd (by omega) (Qd (by omega) xf _) _
       have ex:E[X]? =some (.vars [.i x.ty,.i x.num,.i sn,.i tn]):=by rw[hE];exact Qd (by omega) (Qd (by omega) yx _) _
       have ez:E[l]? =some .dead:=by rw[hE];exact Qd (by omega) (Qd (by omega) yz _) _
       have yb:∀i cs,H1.length≤i→H'[i]? =some (.vars cs)→E[i]? =some (.vars cs):=fun i cs hi hc=>by rw[hE];exact Qd (by omega) (Qd (by omega) (xg i cs hi hc) _) _
       have vr:E.length=X+1:=by rw[hE];simp[vc]
       have gB2:=yk yu;simp only[uH]at gB2;have za:W4 st' ((sn:Int),(tn:Int))=some (st'.1.set sn tn,st'.2++[(sn:Int)]):=by have:=x1q (st:=st') (e:=((sn:Int),(tn:Int))) (by simp only;omega) (by simp only;rw[hv];exact yu) (fun k=>by have:=zp.2 k;omega);simpa using this
       have vd:=hP.len;have xi:=hP.inv.len2;have ve:=gQ.pos (by omega);have vt:=gQ.len;have vu:=gQ.le;have wc:(ys.map AV.i).length=ys.length:=by simp
       have vv:q9<E.length:=Qi zg;have zv:q9≠X:=fun e=>by rw[e,ex]at zg;simp at zg
       have zh:((st'.1.set sn tn).map AV.i)[sn]? =some (.i tn):=by rw[←zu,zU (by rw[zr];exact zd)]
       have yw:((st'.1.set sn tn).map AV.i).length=a.fin.length:=by simp[ze]
       obtain⟨T1,yy⟩:∃T1,(st'.1.set sn tn).map AV.i=T1:=⟨_,rfl⟩
       rw[yy]at zh yw;have zi:∀hh,T1[sn]'hh= .i tn:=fun hh=>(yJ hh).2 zh;clear hE k7 wb kx yF y8 xf yx yz xg y6 y7 zt ya zu ym;refine Qw (sl':=[(4,.vptr 2 0),(5,.vptr 3 0),(6,.vptr 4 0),(16,.vptr 11 0),(18,.vptr c8 0),(21,.vptr X 0)]) ?_ (by simp[m4,m5,m6,m16,m18,m21]);by_cases ho:z7=0
       ·subst ho;obtain rfl:L'=ys.length:=by omega
        have e8c:∀M,(E.set q9 .dead++M)[c8]? =some (.vars [.sl q9 1 0 ys.length]):=fun M=>Qb (Qd yj e8 _) M;have e8d:∀M hh,(E.set q9 .dead++M)[c8]'hh= .vars [.sl q9 1 0 ys.length]:=fun M hh=>(yJ hh).2 (e8c M);repeat first|(refine r_ ?_;simp[e8,ex])|refine q_ ?_
        refine Qf tOk rfl rfl T40 rfl T3 rfl (by decide) (by decide) rfl rfl rfl ?_;simp[Qb zg,Qj zg,zg,wc,e8c,e8d];refine⟨by simp[Wk,Qb zg,Qj zg,zg,wc,e8c,e8d]<;>omega,?_⟩;refine Wf fun W hW=> ?_;have f:∀ {i:Nat} {z:AObj},i≠q9→i≠c8→E[i]? =some z→W[i]? =some z:=fun h1 h2 hz=>by rw[hW];exact Qd (Ne.symm h2) (Qb (Qd (Ne.symm h1) hz _) _) _
        have wF:=eF.keep (X:=W) fun i hi z hz=>f (by omega) (by omega) hz;have w8:W[c8]? =some (.vars [.sl (E.length+1) 1 0 (ys.length+1)]):=by rw[hW];exact Qh (e8c _) _
        have wq:W[(E.length+1)]? =some (.arr 3 1 ((ys++[(sn:Int)]).map AV.i)):=by rw[hW];(rw[zH (by omega),zL (by simp)];simp)
        have wx:=f (Ne.symm zv) (by omega) ex;have wz:=f (Ne.symm zk) (by omega) ez;have yn:∀i cs,H1.length≤i→H'[i]? =some (.vars cs)→W[i]? =some (.vars cs):=fun i cs hi hc=>f (fun e=>by have:=yb i cs hi hc;rw[e,zg]at this;simp at this) (by omega) (yb i cs hi hc);have wQ7:14<(E.length+1):=by omega
        have w6:=wF.hc6;have zo:=wF.hq6;rw[wK,ze]at w6;rw[yy]at zo;clear hW f;repeat first|(refine r_ ?_;simp)|refine q_ ?_
        refine Qk tOk mixed [] (.val 0 (.val 1 (.val 2 (.val 3 (.val 4 (.val 5 (.val 6 (.val 7 (.done))))))))) rfl (by kernel_rfl) ?_;simp[w6,zo,wx,zh,zi,yw,zd];refine Qa rfl (fun h=>by simp at h) (fun _=> ?_);repeat first|(refine r_ ?_;simp)|refine q_ ?_
        rcases y9 with⟨zb,_⟩|⟨st2,e2,zw⟩
        ·rw[za]at zb;cases zb
        rw[za]at e2;obtain rfl:=Option.some.inj e2;have zx:IzR a b 7 8 11 10 14 13 c8 n (st'.1.set sn tn,st'.2++[(sn:Int)]) W:=⟨zc.set tn sn,(E.length+1),0,ys.length+1,ys++[(sn:Int)],wF,gB2,gQ.add (by omega) _,w8,wq,wQ7⟩
        refine⟨wz,.inl ⟨rfl,⟨(Qh wz _).trans fl.symm,?_⟩,fun i cs hi hc=>by rw[zH (by omega)];exact yn i cs hi hc⟩⟩;exact⟨_,zw,zx.put y5 (by omega) wz (by simp) _⟩
       ·repeat first|(refine r_ ?_;simp[e8,ex])|refine q_ ?_
        have e8c:∀y M,((E++M).set q9 y)[c8]? =some (.vars [.sl q9 1 z7 L']):=fun y M=>Qd yj (Qb e8 M) y;have e8d:∀y M hh,((E++M).set q9 y)[c8]'hh= .vars [.sl q9 1 z7 L']:=fun y M hh=>(yJ hh).2 (e8c y M);have e8e:∀y M M2,((E++M).set q9 y++M2)[c8]? =some (.vars [.sl q9 1 z7 L']):=fun y M M2=>Qb (e8c y M) M2;have e8f:∀y M M2 hh,((E++M).set q9 y++M2)[c8]'hh= .vars [.sl q9 1 z7 L']:=fun y M M2 hh=>(yJ hh).2 (e8e y M M2);refine Zb tOk rfl rfl T40 rfl T3 (by decide) (by decide) rfl rfl (Qb zg _) (by omega) (by simp;omega) (by simp) (ys:=[.i sn]) (by simp) (by simp[AV.cells,AV.leaf]) (by simp;omega) (by simp;omega) rfl ?_ ?_
        ·simp[e8c,e8d];refine Wf fun W hW=> ?_;have f:∀ {i:Nat} {z:AObj},i≠q9→i≠c8→E[i]? =some z→W[i]? =some z:=fun h1 h2 hz=>by rw[hW];exact Qd (Ne.symm h2) (Qd (Ne.symm h1) (Qb hz _) _) _
         have wF:=eF.keep (X:=W) fun i hi z hz=>f (by omega) (by omega) hz;have w8:W[c8]? =some (.vars [.sl q9 1 z7 (L'+1)]):=by rw[hW];exact Qh (e8c _ _) _
         have wq:W[q9]? =some (.arr 3 1 ((ys++[(sn:Int)]).map AV.i)):=by rw[hW];(rw[zH (by omega),zU (by simp;omega)];simp)
         have wx:=f (Ne.symm zv) (by omega) ex;have wz:=f (Ne.symm zk) (by omega) ez;have yn:∀i cs,H1.length≤i→H'[i]? =some (.vars cs)→W[i]? =some (.vars cs):=fun i cs hi hc=>f (fun e=>by have:=yb i cs hi hc;rw[e,zg]at this;simp at this) (by omega) (yb i cs hi hc);have wQ7:14<q9:=by omega
         have w6:=wF.hc6;have zo:=wF.hq6;rw[wK,ze]at w6;rw[yy]at zo;clear hW f;repeat first|(refine r_ ?_;simp)|refine q_ ?_
         refine Qk tOk mixed [] (.val 0 (.val 1 (.val 2 (.val 3 (.val 4 (.val 5 (.val 6 (.val 7 (.done))))))))) rfl (by kernel_rfl) ?_;simp[w6,zo,wx,zh,zi,yw,zd];refine Qa rfl (fun h=>by simp at h) (fun _=> ?_);repeat first|(refine r_ ?_;simp)|refine q_ ?_
         rcases y9 with⟨zb,_⟩|⟨st2,e2,zw⟩
         ·rw[za]at zb;cases zb
         rw[za]at e2;obtain rfl:=Option.some.inj e2;have zx:IzR a b 7 8 11 10 14 13 c8 n (st'.1.set sn tn,st'.2++[(sn:Int)]) W:=⟨zc.set tn sn,q9,z7,L'+1,ys++[(sn:Int)],wF,gB2,gQ.add (by omega) _,w8,wq,wQ7⟩
         refine⟨wz,.inl ⟨rfl,⟨(Qh wz _).trans fl.symm,?_⟩,fun i cs hi hc=>by rw[zH (by omega)];exact yn i cs hi hc⟩⟩;exact⟨_,zw,zx.put y5 (by omega) wz (by simp) _⟩
        ·simp[e8e,e8f];refine Wf fun W hW=> ?_;have f:∀ {i:Nat} {z:AObj},i≠q9→i≠c8→E[i]? =some z→W[i]? =some z:=fun h1 h2 hz=>by rw[hW];exact Qd (Ne.symm h2) (Qb (Qd (Ne.symm h1) (Qb hz _) _) _) _
         have wF:=eF.keep (X:=W) fun i hi z hz=>f (by omega) (by omega) hz;have w8:W[c8]? =some (.vars [.sl (E.length+1) 1 0 (L'+1)]):=by rw[hW];exact Qh (e8e _ _ _) _
         have wq:W[(E.length+1)]? =some (.arr 3 1 ((ys.drop z7++[(sn:Int)]).map AV.i)):=by rw[hW];(rw[zH (by omega),zL (by simp)];simp)
         have wx:=f (Ne.symm zv) (by omega) ex;have wz:=f (Ne.symm zk) (by omega) ez;have yn:∀i cs,H1.length≤i→H'[i]? =some (.vars cs)→W[i]? =some (.vars cs):=fun i cs hi hc=>f (fun e=>by have:=yb i cs hi hc;rw[e,zg]at this;simp at this) (by omega) (yb i cs hi hc);have wQ7:14<(E.length+1):=by omega
         have w6:=wF.hc6;have zo:=wF.hq6;rw[wK,ze]at w6;rw[yy]at zo;clear hW f;repeat first|(refine r_ ?_;simp)|refine q_ ?_
         refine Qk tOk mixed [] (.val 0 (.val 1 (.val 2 (.val 3 (.val 4 (.val 5 (.val 6 (.val 7 (.done))))))))) rfl (by kernel_rfl) ?_;simp[w6,zo,wx,zh,zi,yw,zd];refine Qa rfl (fun h=>by simp at h) (fun _=> ?_);repeat first|(refine r_ ?_;simp)|refine q_ ?_
         rcases y9 with⟨zb,_⟩|⟨st2,e2,zw⟩
         ·rw[za]at zb;cases zb
         rw[za]at e2;obtain rfl:=Option.some.inj e2;have zx:IzR a b 7 8 11 10 14 13 c8 n (st'.1.set sn tn,st'.2++[(sn:Int)]) W:=⟨zc.set tn sn,(E.length+1),0,L'+1,ys.drop z7++[(sn:Int)],wF,gB2,gQ.cut (by omega) _,w8,wq,wQ7⟩
         refine⟨wz,.inl ⟨rfl,⟨(Qh wz _).trans fl.symm,?_⟩,fun i cs hi hc=>by rw[zH (by omega)];exact yn i cs hi hc⟩⟩;exact⟨_,zw,zx.put y5 (by omega) wz (by simp) _⟩
      ·have xh:decide (w<0)=false:=by simpa using hw0
       have zy:W4 st' ((sn:Int),(tn:Int))=none:=Mr (by simp only;rw[hv];omega) (fun k=>k.2 (zp.1 (by omega)));repeat first|(refine r_ ?_;simp[y6,y7,zt,ya,yx,zq,zf,yl,zm,zr,yt,zd,zl,yv,xh])|refine q_ ?_
       refine Qa rfl (fun h=>by simp at h) (fun _=> ?_);repeat first|(refine r_ ?_;simp)|refine q_ ?_
       refine Qk tOk mixed [] (.val 0 (.val 1 (.val 2 (.val 3 (.val 4 (.val 5 (.val 6 (.val 7 (.done))))))))) rfl (by kernel_rfl) ?_;simp[y6,zt,yx,zq,zf,zr,zd];refine Qa rfl (fun _=> ?_) (fun h=>by simp at h;omega);have xj:=zn (y9.elim (fun h=>h.2) (fun⟨_,e2,_⟩=>by rw[zy]at e2;cases e2));have v2:=yF.h2;have v3:=yF.h3;have v4:=yF.h4;have k3:∀y,(Y.set 2 y)[3]? =some (.vars [.bool false]):=fun y=>Qd (by decide) v3 y;have k4:∀y z,((Y.set 2 y).set 3 z)[4]? =some (.vars [.i 0]):=fun y z=>Qd (by decide) (Qd (by decide) v4 y) z;have kA:∀x y z,(((Y.set 2 x).set 3 y).set 4 z)[2]? =some x:=fun x y z=>Qd (by decide) (Qd (by decide) (Qh v2 x) y) z;have kB:∀x y z,(((Y.set 2 x).set 3 y).set 4 z)[3]? =some y:=fun x y z=>Qd (by decide) (Qh (k3 x) y) z;have kC:∀x y z,(((Y.set 2 x).set 3 y).set 4 z)[4]? =some z:=fun x y z=>Qh (k4 x y) z;repeat first|(refine r_ ?_;simp[v2,k3,k4,kA,kB,kC])|refine q_ ?_
       have yo:∀x y z,(((Y.set 2 x).set 3 y).set 4 z)[l]? =some .dead:=fun x y z=>Qd (by omega) (Qd (by omega) (Qd (by omega) yz x) y) z;exact⟨yo _ _ _,.inr ⟨_,rfl,rfl,⟨_,_,_,_,Qh (yo _ _ _) _⟩,xj,Qd (by omega) (kA _ _ _) _,Qd (by omega) (kB _ _ _) _,Qd (by omega) (kC _ _ _) _⟩⟩
     ·have yv:decide (v<0)=false:=by simpa using yu
      repeat first|(refine r_ ?_;simp[y6,y7,zt,ya,yx,zq,zf,yl,zm,zr,yt,zd,zl,yv])|refine q_ ?_
      refine Qa rfl (fun h=>by simp at h) (fun _=> ?_);repeat first|(refine r_ ?_;simp)|refine q_ ?_
      refine Qk tOk mixed [] (.val 0 (.val 1 (.val 2 (.val 3 (.val 4 (.val 5 (.val 6 (.val 7 (.done))))))))) rfl (by kernel_rfl) ?_;simp[y6,zt,yx,zq,zf,zr,zd];refine Qa rfl (fun h=> ?_) (fun h=> ?_)
      ·have vf:v≠tn:=by simpa using h
       have zy:W4 st' ((sn:Int),(tn:Int))=none:=Mr (by simp only;rw[hv];exact vf) (fun k=>by have:=k.1;simp only at this;omega);have xj:=zn (y9.elim (fun h=>h.2) (fun⟨_,e2,_⟩=>by rw[zy]at e2;cases e2));have v2:=yF.h2;have v3:=yF.h3;have v4:=yF.h4;have k3:∀y,(Y.set 2 y)[3]? =some (.vars [.bool false]):=fun y=>Qd (by decide) v3 y;have k4:∀y z,((Y.set 2 y).set 3 z)[4]? =some (.vars [.i 0]):=fun y z=>Qd (by decide) (Qd (by decide) v4 y) z;have kA:∀x y z,(((Y.set 2 x).set 3 y).set 4 z)[2]? =some x:=fun x y z=>Qd (by decide) (Qd (by decide) (Qh v2 x) y) z;have kB:∀x y z,(((Y.set 2 x).set 3 y).set 4 z)[3]? =some y:=fun x y z=>Qd (by decide) (Qh (k3 x) y) z;have kC:∀x y z,(((Y.set 2 x).set 3 y).set 4 z)[4]? =some z:=fun x y z=>Qh (k4 x y) z;repeat first|(refine r_ ?_;simp[v2,k3,k4,kA,kB,kC])|refine q_ ?_
       have yo:∀x y z,(((Y.set 2 x).set 3 y).set 4 z)[l]? =some .dead:=fun x y z=>Qd (by omega) (Qd (by omega) (Qd (by omega) yz x) y) z;exact⟨yo _ _ _,.inr ⟨_,rfl,rfl,⟨_,_,_,_,Qh (yo _ _ _) _⟩,xj,Qd (by omega) (kA _ _ _) _,Qd (by omega) (kB _ _ _) _,Qd (by omega) (kC _ _ _) _⟩⟩
      ·have heq:v=tn:=by simpa using h
       have za:W4 st' ((sn:Int),(tn:Int))=some st':=d0q (by simp only;rw[hv];exact heq);repeat first|(refine r_ ?_;simp)|refine q_ ?_
       rcases y9 with⟨zb,_⟩|⟨st2,e2,zw⟩
       ·rw[za]at zb;cases zb
       rw[za]at e2;obtain rfl:=Option.some.inj e2;have zx:IzR a b 7 8 11 10 14 13 c8 n st' Y:=⟨zc,q9,z7,L',ys,yF,gB,gQ,y8,xf,xe⟩
       refine⟨yz,.inl ⟨rfl,⟨(Qh yz _).trans fl.symm,?_⟩,fun i cs hi hc=>by rw[zH (by omega)];exact xg i cs hi hc⟩⟩;exact⟨_,zw,zx.put y5 (by omega) yz (by simp) _⟩
    ·rintro r H' (⟨h1,hO⟩|⟨c,rfl,⟨sl',yi,a',b',h1⟩,h2,h3⟩)
     ·exact⟨none,⟨_,_,_,_,h1.trans fl⟩,.inl ⟨rfl,by rw[N1];exact hO⟩⟩
     ·exact⟨some .ret,⟨_,_,_,_,h1⟩,.inr ⟨rfl,h2,h3⟩⟩
   ·rintro r H' ⟨pend,sl',yi,a',b',h1,h⟩;refine⟨_,pend,_,_,_,_,_,by simpa using h1,?_⟩;rcases h with⟨rfl,st',hP,vg⟩|⟨rfl,vh,w2,w3,w4⟩
    ·simp;have y5:c8<H.length:=Qi z8;obtain⟨zc,q9,z7,L',ys,gF,gB,gQ,g8,zj,xe⟩:=vg.put y5 (by omega) h1 (by simp) .dead;generalize H'.set H.length .dead=K at *
     have vd:=hP.len;have xi:=hP.inv.len2;have ve:=gQ.pos (by omega);have vi:(1:Int)≤L':=by omega
     have vw:L' - 1=L' - 1:=rfl;rw[hP.eq,wB]at hB;have g8A:=fun E=>Qb g8 E;repeat first|(refine r_ ?_;simp[g8A,g8,vi])|refine q_ ?_
     refine Qc (sl':=[(2,.vptr 0 0),(3,.vptr 1 0),(4,.vptr 2 0),(5,.vptr 3 0),(6,.vptr 4 0),(14,.vptr 7 0),(15,.vptr 8 0),(16,.vptr 11 0),(17,.vptr 14 0),(18,.vptr K.length 0)]) ?_ (by simp);have vx:=Qi g8;exact wo (n+1) st' K.length _ ⟨by simp only;omega,by simp only;omega,hP.inv,hB,⟨zc,q9,z7+1,L' - 1,ys,gF.app _,gB,gQ.tail (by omega),by rw[zL (by simp)];simp,Qb zj _,xe⟩,by simp only;omega⟩
    ·rw[vh]at hB;rw[←hB]at hR;rw[←hR];simp;have u2:(H'.set H.length .dead)[2]? =some (.vars [.nils]):=Qd (by have:=Qi z8;omega) w2 _;have u3:(H'.set H.length .dead)[3]? =some (.vars [.bool false]):=Qd (by have:=Qi z8;omega) w3 _;have u4:(H'.set H.length .dead)[4]? =some (.vars [.i 0]):=Qd (by have:=Qi z8;omega) w4 _;generalize H'.set H.length .dead=K at *
     repeat first|(refine r_ ?_;simp[u2,u3,u4])|refine q_ ?_
     rfl
  ·have zb:(a.fin[pn]==b.fin[qn])=false:=by simpa using he
   rw[zb,uB,if_neg (by simp)]at hB;rw[←hB]at hR;rw[←hR];repeat first|(refine r_ ?_;simp)|refine q_ ?_
   refine Qk tOk mixed [] (.val 0 (.val 1 (.val 2 (.val 3 (.val 4 (.val 5 (.val 6 (.val 7 (.val 8 (.val 9 (.val 10 (.val 11 (.val 12 (.val 13 (.val 14 (.val 15 (.one 16 (.val 17 (.val 18 (.done)))))))))))))))))))) rfl (by kernel_rfl) ?_;simp[z0,z1,zJ,zK,yr,xa,zb];refine Q4 rfl rfl ?_;simp;refine Qa rfl (fun _=> ?_) (fun h=>by simp at h);have k3:∀y,(H.set 2 y)[3]? =some (.vars [.bool false]):=fun y=>Qd (by decide) y3 y;have k4:∀y z,((H.set 2 y).set 3 z)[4]? =some (.vars [.i 0]):=fun y z=>Qd (by decide) (Qd (by decide) y4 y) z;have kA:∀x y z,(((H.set 2 x).set 3 y).set 4 z)[2]? =some x:=fun x y z=>Qd (by decide) (Qd (by decide) (Qh y2 x) y) z;have kB:∀x y z,(((H.set 2 x).set 3 y).set 4 z)[3]? =some y:=fun x y z=>Qd (by decide) (Qh (k3 x) y) z;have kC:∀x y z,(((H.set 2 x).set 3 y).set 4 z)[4]? =some z:=fun x y z=>Qh (k4 x y) z;repeat first|(refine r_ ?_;simp[y2,k3,k4,kA,kB,kC])|refine q_ ?_
   rfl
 ·have xk:st.2.length≤n:=by simp at yc;omega
  rw[Cn xk]at hB;rw[←hB]at hR;rw[←hR];have z6:=zF.hc6;have vy:(st.1.map AV.i).length=st.1.length:=by simp
  have vj:uU st.1.length (st.1.map AV.i)=st.1.map AV.i:=zV (by simp);have y2:=zF.h2;have y3:=zF.h3;have y4:=zF.h4;have kq:∀x y z,(((H.set 2 x).set 3 y).set 4 z)[10]? =some (.arr 3 1 (st.1.map AV.i)):=fun x y z=>Qd (by decide) (Qd (by decide) (Qd (by decide) zF.hq6 x) y) z;have k3:∀y,(H.set 2 y)[3]? =some (.vars [.bool false]):=fun y=>Qd (by decide) y3 y;have k4:∀y z,((H.set 2 y).set 3 z)[4]? =some (.vars [.i 0]):=fun y z=>Qd (by decide) (Qd (by decide) y4 y) z;have kA:∀x y z,(((H.set 2 x).set 3 y).set 4 z)[2]? =some x:=fun x y z=>Qd (by decide) (Qd (by decide) (Qh y2 x) y) z;have kB:∀x y z,(((H.set 2 x).set 3 y).set 4 z)[3]? =some y:=fun x y z=>Qd (by decide) (Qh (k3 x) y) z;have kC:∀x y z,(((H.set 2 x).set 3 y).set 4 z)[4]? =some z:=fun x y z=>Qh (k4 x y) z;repeat first|(refine r_ ?_;simp[y2,k3,k4,kA,kB,kC,z6,kq,vj])|refine q_ ?_
  rfl
end Go.Abs
namespace Go.Abs
open Go Go.Proofs Go.Maps Go.RowKit
def c1y(p j:Nat):List (Int×Int):=(yV j).map fun r:Nat=>((p:Int),(p:Int)+1+(r:Int))
def y2r(n i:Nat):List (Int×Int):=(yV i).flatMap fun p=>c1y p (n - 1 - p)
def prs(n:Nat):List (Int×Int):=y2r n n
attribute [local irreducible] c1y y2r
end Go.Abs
namespace Go.Abs
open Go Go.Proofs Go.Maps Go.RowKit
def wdR(a:Aut)(e:Int×Int):List Sy:=Yr a (Rn a) ((lkN (Rn a) e).getD 0) e
def w2n(x:(Int×Int)×List Sy):AV:= .agg [.i x.1.1,.i x.1.2,LSy x.2]
def x21(a:Aut):List ((Int×Int)×List Sy)×Int:=
 if Y6 a≠0 then([],Y6 a)else if 4096<a.fin.length * (a.fin.length - 1) / 2 then([],5)else if x0v a=false then([],18)
 else if(prs a.fin.length).all (fun e=>(lkN (Rn a) e).isSome)then((prs a.fin.length).map fun e=>(e,wdR a e),0)else([],18)
structure RfI (a:Aut) (M N l q:Nat) (xs:List AV) (H:List AObj):Prop where
 h1:H[1]? =some (.vars [.nils])
 h2:H[2]? =some (.vars [.i 0])
 h3:H[3]? =some (.vars [.i a.types,.list (a.fin.map .bool),.list (a.mv.map encMv),.list (Rv a)])
 hM:H[M]? =some (mpN (Rn a))
 hN:H[N]? =some (.vars [.mref M])
 ho:H[N+1]? =some (.vars [.sl q 3 0 xs.length])
 ha:H[q]? =some (.arr 147 3 xs)
 bd:4≤M∧M<N∧N+1<q∧q≠l∧N+2<l
def x2k(a:Aut):Prop:=∀e∈prs a.fin.length,(lkN (Rn a) e).isSome=true
def x20(a:Aut)(l:List (Int×Int)):Prop:=∀e∈l,(lkN (Rn a) e).isSome=true
def y21(a:Aut):Prop:=∃e∈prs a.fin.length,lkN (Rn a) e=none
attribute [local simp] T60 y2y
attribute [local irreducible] Y6 Ao Wa Ei Rv Wj Tt lkN Rn Pn clA Yr x0v prs
end Go.Abs
namespace Go.Abs
open Go Go.Proofs Go.Maps Go.RowKit
def w2z(a:Aut)(s:Int)(w:List Sy):Bool:=a.fin.getD (stF a s w).toNat false
attribute [local irreducible] Wa Ei Rv Wj Bj Tn stF toL
end Go.Abs
namespace Go.Abs
open Go Go.Proofs Go.Maps Go.RowKit
abbrev Rfm:=(Int×Int)×List Sy
def q28(T:Int):List (Int×Int)→List Rfm→Int
 |[],_=>0
 |_::_,[]=>0
 |p::ps,x::xs=>if x.1≠p then 14 else if 4096<x.2.length then 5 else if f1d T x.2≠0 then f1d T x.2 else q28 T ps xs
def y2w(a:Aut)(x:Rfm):Bool:=w2z a x.1.1 x.2==w2z a x.1.2 x.2
def x23(a:Aut)(P:List Rfm):Int:=
 if Y6 a≠0 then Y6 a else if P.length≠a.fin.length * (a.fin.length - 1) / 2 then 15
 else if q28 a.types (prs a.fin.length) P≠0 then q28 a.types (prs a.fin.length) P
 else if P.any (y2w a)then 18 else if x0v a then 0 else 18
structure VfI (a:Aut) (P:List Rfm) (c:Nat) (H:List AObj):Prop where
 h0:H[0]? =some (.vars [.i a.types,.list (a.fin.map .bool),.list (a.mv.map encMv)])
 h1:H[1]? =some (.vars [.list (P.map w2n)])
 h2:H[2]? =some (.vars [.i 0])
 h3:H[3]? =some (.vars [.list ((Wz a.types.toNat).map encL)])
 h4:H[4]? =some (.vars [.i c])
attribute [local simp] T60 y2y
attribute [local irreducible] Y6 Ao Wa Ei Rv Wj x0v prs q28 y2w w2z Bj Z6 Wz
end Go.Abs
namespace Go.Abs
structure CR (a:Aut) (n:Nat) (O:List Int) (f:Nat):Prop where
 fuel:a.fin.length+1≤n+f
 le:n≤O.length
 nd:O.Nodup
 rg:∀c∈O,0≤c∧c<(a.fin.length:Int)
 eq:w2t a=((z0l (y2p a) f n O).length==a.fin.length)
def x2e(T:Int)(x:Rfm)(p:Int×Int):Int:=if x.1≠p then 14 else if 4096<x.2.length then 5 else f1d T x.2
end Go.Abs
namespace Go.Abs
open Go Go.Proofs Go.Maps Go.RowKit
def Dx(to:List Int)(p q:Int):Int:=if fAt to p=q then 0 else if 0≤fAt to p∨q∈to then -1 else 1
theorem f09(st:List Int×List Int)(e:Int×Int):W4 st e=if Dx st.1 e.1 e.2=0 then some st else if Dx st.1 e.1 e.2<0 then none else some (st.1.set e.1.toNat e.2,st.2++[e.1]):=by
 unfold W4 Dx;by_cases h1:fAt st.1 e.1=e.2
 ·rw[if_pos h1,if_pos h1,if_pos rfl]
 ·rw[if_neg h1,if_neg h1];by_cases h2:0≤fAt st.1 e.1∨e.2∈st.1
  ·rw[if_pos h2,if_pos h2,if_neg (by decide),if_pos (by decide)]
  ·rw[if_neg h2,if_neg h2,if_neg (by decide),if_neg (by decide)]
theorem y1e(to:List Int)(p q:Int):Dx to p q=0∨Dx to p q= -1∨Dx to p q=1:=by
 unfold Dx;split
 ·exact .inl rfl
 ·split
  ·exact .inr (.inl rfl)
  ·exact .inr (.inr rfl)
theorem x03(to:List Int)(p q:Int)(h0:0≤p)(h1:p.toNat<to.length):PC Tryz.prog 108 [LI to,.i p,.i q] (fun r=>r= .i (Dx to p q)):=by
 obtain⟨k,rfl⟩:∃k:Nat,p=k:=⟨p.toNat,by omega⟩
 rw[uH]at h1;have hg:to[k]? =some (fAt to k):=by have:=Io (f:=to) (s:=(k:Int)) (by omega) (by simpa using h1);simpa using this
 have z1:∀hh,to[k]'hh=fAt to k:=fun hh=>(yJ hh).2 hg;obtain⟨R,hR⟩:∃R,Dx to k q=R:=⟨_,rfl⟩
 rw[hR];unfold Dx at hR;generalize fAt to (k:Int)=v at *;refine Ql tOk Tryz.func108 rfl Tryz.results108 rfl (by simp[Tryz.ntmps108]) ?_
 rw[Tryz.ntmps108];simp only[Qg];repeat first|(refine r_ ?_;simp[hg,z1,h1])|refine q_ ?_
 refine Qa rfl (fun h=> ?_) (fun h=> ?_)
 ·rw[if_pos (by simpa using h)]at hR;rw[←hR];repeat first|(refine r_ ?_;simp)|refine q_ ?_
 rw[if_neg (by simpa using h)]at hR;by_cases hv:0≤v
 ·have hb:decide (0≤v)=true:=by simpa using hv
  rw[if_pos (.inl hv)]at hR;rw[←hR];repeat first|(refine r_ ?_;simp[hg,z1,h1,hb])|refine q_ ?_
  refine Q4 rfl rfl ?_;simp;repeat first|(refine r_ ?_;simp)|refine q_ ?_
  refine Qa rfl (fun _=> ?_) (fun h=>by simp at h);repeat first|(refine r_ ?_;simp)|refine q_ ?_
 ·have hb:decide (0≤v)=false:=by simpa using hv
  repeat first|(refine r_ ?_;simp[hg,z1,h1,hb])|refine q_ ?_
  refine Qe rfl rfl (by simp) (z1y to q) rfl ?_;rintro _ rfl;simp;have hf:=q0a (fun m:Int=>m==q) to;have h2:to.any (fun m:Int=>m==q)=decide (q∈to):=by rw[Bool.eq_iff_iff];simp
  rw[h2]at hf;repeat first|(refine r_ ?_;simp[hf])|refine q_ ?_
  by_cases hm:q∈to
  ·rw[if_pos (.inr hm)]at hR;rw[←hR];refine Qa rfl (fun _=> ?_) (fun h=>by rw[hf]at h;simp[hm]at h);repeat first|(refine r_ ?_;simp)|refine q_ ?_
  ·rw[if_neg (fun k=>k.elim hv hm)]at hR;rw[←hR];refine Qa rfl (fun h=>by rw[hf]at h;simp[hm]at h) (fun _=> ?_);repeat first|(refine r_ ?_;simp)|refine q_ ?_
end Go.Abs
namespace Go.Abs
open Go Go.Proofs Go.Maps Go.RowKit
def g0q(a b:Aut):(List Int×Bool)×Int:=
 if Wg a≠0 then(([],false),Wg a)else if Wg b≠0 then(([],false),Wg b)else if O3 a=false∨O3 b=false then(([],false),3)
 else if a.types≠b.types then(([],false),15)else match Hy (x1g a b) (psR a b) (a.fin.length+1) 0 (A0 a)with
  |some l=>((l,true),0)
  |none=>(([],false),0)
theorem y1p(a b:Aut):g0q a b=g1d a b:=by
 unfold g0q g1d;by_cases h1:Wg a≠0
 ·rw[if_pos h1,if_pos h1]
 rw[if_neg h1,if_neg h1];by_cases h2:Wg b≠0
 ·rw[if_pos h2,if_pos h2]
 rw[if_neg h2,if_neg h2];by_cases h3:O3 a=false∨O3 b=false
 ·rw[if_pos h3,if_pos h3]
 rw[if_neg h3,if_neg h3];by_cases h4:a.types≠b.types
 ·rw[if_pos h4,if_pos h4]
 rw[if_neg h4,if_neg h4];have ha:=(Ut a).1 (Decidable.not_not.1 h1);have hb:=(Ut b).1 (Decidable.not_not.1 h2);have d1:=(Gd ha.wfA).1 (by cases h:O3 a with|true=>rfl|false=>exact absurd (.inl h) h3);have d2:=(Gd hb.wfA).1 (by cases h:O3 b with|true=>rfl|false=>exact absurd (.inr h) h3);have ht:b.types=a.types:=(Decidable.not_not.1 h4).symm;rw[w13 ha hb (c1f ha hb ht) (v1m ⟨ha,d1⟩ ⟨hb,d2⟩ ht)]
theorem y1k{α:Type}(x:α)(n:Nat):yB (n+1) x=yB n x++[x]:=List.replicate_succ'
attribute [local irreducible] Ep toL Wg O3 Hy Sg x0u Dx W4 fAt
theorem u1k(a b:Aut):PC Tryz.prog 42 [encA a,encA b] (fun r=>r=j1z (g0q a b)):=by
 refine Ql tOk Tryz.func42 rfl Tryz.results42 rfl (by simp[Tryz.ntmps42]) ?_;rw[Tryz.ntmps42];simp only[Qg];simp only[encA];obtain⟨R,hR⟩:∃R,g0q a b=R:=⟨_,rfl⟩
 rw[hR];unfold g0q at hR;repeat first|(refine r_ ?_;simp)|refine q_ ?_
 refine Qe rfl rfl (by simp) (Jr a) rfl ?_;rintro _ rfl;simp;repeat first|(refine r_ ?_;simp)|refine q_ ?_
 refine Qa rfl (fun h=> ?_) (fun h=> ?_)
 ·rw[if_pos (by simpa using h)]at hR;rw[←hR];repeat first|(refine r_ ?_;simp)|refine q_ ?_
  rfl
 have yf:Wg a=0:=by simpa using h
 rw[if_neg (fun k=>k yf)]at hR;have ha:=(Ut a).1 yf;repeat first|(refine r_ ?_;simp)|refine q_ ?_
 refine Qe rfl rfl (by simp) (Jr b) rfl ?_;rintro _ rfl;simp;repeat first|(refine r_ ?_;simp)|refine q_ ?_
 refine Qa rfl (fun h=> ?_) (fun h=> ?_)
 ·rw[if_pos (by simpa using h)]at hR;rw[←hR];repeat first|(refine r_ ?_;simp)|refine q_ ?_
  rfl
 have yg:Wg b=0:=by simpa using h
 rw[if_neg (fun k=>k yg)]at hR;have hb:=(Ut b).1 yg;repeat first|(refine r_ ?_;simp)|refine q_ ?_
 refine Qe rfl rfl (by simp) (Kr a ha) rfl ?_;rintro _ rfl;simp;cases hsa:O3 a with
 |false=>
  rw[if_pos (.inl hsa)]at hR;rw[←hR];repeat first|(refine r_ ?_;simp)|refine q_ ?_
  refine Q4 rfl rfl ?_;simp;repeat first|(refine r_ ?_;simp)|refine q_ ?_
  refine Qa rfl (fun _=> ?_) (fun h=>by simp at h);repeat first|(refine r_ ?_;simp)|refine q_ ?_
  rfl
 |true=>
 repeat first|(refine r_ ?_;simp)|refine q_ ?_
 refine Qe rfl rfl (by simp) (Kr b hb) rfl ?_;rintro _ rfl;simp;repeat first|(refine r_ ?_;simp)|refine q_ ?_
 cases hsb:O3 b with
 |false=>
  rw[if_pos (.inr hsb)]at hR;rw[←hR];refine Qa rfl (fun _=> ?_) (fun h=>by simp[hsb]at h);repeat first|(refine r_ ?_;simp)|refine q_ ?_
  rfl
 |true=>
 rw[if_neg (fun k=>by rw[hsa,hsb]at k;simp at k)]at hR;refine Qa rfl (fun h=>by simp[hsb]at h) (fun _=> ?_);repeat first|(refine r_ ?_;simp)|refine q_ ?_
 refine Qa rfl (fun h=> ?_) (fun h=> ?_)
 ·rw[if_pos (by simpa using h)]at hR;rw[←hR];repeat first|(refine r_ ?_;simp)|refine q_ ?_
  rfl
 have yh:a.types=b.types:=by simpa using h
 rw[if_neg (fun k=>k yh)]at hR;have ht:b.types=a.types:=yh.symm;have zz:=fun x hx=>v0i ha hb ht (x:=x) hx;have yw:=Bs ha hb ht;have yx:=ha.fin;have xc:=hb.fin;repeat first|(refine r_ ?_;simp)|refine q_ ?_
 refine Qe rfl rfl (by simp) (Ns a b ha hb ht) rfl ?_;rintro _ rfl;simp;have yy:=fun {n:Nat} {st:List Int×List Int} (h:n<st.2.length) (f:Nat)=>w1q a b h f;generalize Ep a b=ls at *
 repeat first|(refine r_ ?_;simp)|refine q_ ?_
 refine Qw (sl':=[(2,.vptr 0 0),(3,.vptr 1 0),(4,.nils),(5,.bool false),(6,.i 0),(9,.list (ls.map encSy)),(10,.nils),(11,.i (0:Nat))]) ?_ (by simp);refine Q6 10 3 1 rfl ?_;simp;refine Qo (Qc (sl':=[(2,.vptr 0 0),(3,.vptr 1 0),(4,.nils),(5,.bool false),(6,.i 0),(9,.list (ls.map encSy)),(10,.sl 2 1 0 0),(11,.i (0:Nat))]) ?_ (by simp));refine Qp (P:=Tryz.prog) (F:=fun(u:Nat×Nat×List AObj)=>⟨[(2,.vptr 0 0),(3,.vptr 1 0),(4,.nils),(5,.bool false),(6,.i 0),(9,.list (ls.map encSy)),(10,.sl u.2.1 1 0 u.1),(11,.i u.1)],u.2.2⟩)
  (fun u=>u.1≤a.fin.length∧u.2.2[0]? =some (.vars (Q7 a))∧u.2.2[1]? =some (.vars (Q7 b))∧u.2.2[u.2.1]? =some (.arr 3 1 (yB u.1 (.i (-1))))∧1<u.2.1) (fun u=>a.fin.length - u.1) ?_ (0,2,_) ⟨wD _,rfl,rfl,rfl,(by omega:1<2)⟩
 rintro⟨i,q,H⟩ ⟨hi,h0,h1,hq,yz⟩ ih;simp only at hi h0 h1 hq yz ih ⊢;repeat first|(refine r_ ?_;simp[h0])|refine q_ ?_
 refine Qa rfl (fun zr=> ?_) (fun y0=> ?_)
 ·have z7:i<a.fin.length:=by simpa using zr
  have hw:IntKind.i64.wrap ((i:Int)+1)=i+1:=wrap_i64 _ (by omega) (by omega);have x0:=y1k (AV.i (-1)) i;have zi:(yB i (AV.i (-1))).length=i:=by simp
  have zt:=fun q' H'=>ih (i+1,q',H');have zu:=Qi hq;simp only[x0]at zt;generalize yB i (AV.i (-1))=xs at *
  repeat first|(refine r_ ?_;simp)|refine q_ ?_
  refine Qf tOk rfl rfl T40 rfl T3 rfl (by decide) (by decide) rfl rfl rfl ?_;simp[Qb hq,Qj hq,hq,zi];refine⟨by simp[Wk,Qb hq,Qj hq,hq,zi]<;>omega,?_⟩;repeat first|(refine r_ ?_;simp[hw])|refine q_ ?_
  refine Qc (sl':=[(2,.vptr 0 0),(3,.vptr 1 0),(4,.nils),(5,.bool false),(6,.i 0),(9,.list (ls.map encSy)),(10,.sl (H.length+1) 1 0 (i+1)),(11,.i (i+1:Nat))]) ?_ (by simp);refine zt (H.length+1) _ ⟨by omega,Qb (Qd (by omega) h0 _) _,Qb (Qd (by omega) h1 _) _,?_,by omega⟩ (by omega);rw[zL (by simp)];simp
 have ze:i=a.fin.length:=by simp at y0;omega
 subst ze;clear ih;obtain⟨N,hN⟩:∃N,a.fin.length=N:=⟨_,rfl⟩
 have zi:(yB N (AV.i (-1))).length=N:=by simp
 have hS:((A0 a).1.map AV.i)=(yB N (AV.i (-1))).set 0 (.i 0):=by unfold A0;rw[hN];simp[u6]
 have y1:(A0 a).2=[0]:=rfl;have x1:(A0 a).1.length=N:=by unfold A0;rw[hN];simp
 have yi:=A9 ha hb;generalize A0 a=st0 at *;rw[hN]at hR hq hi yx ⊢
 have y2:(yB N (AV.i (-1)))[0]? =some (.i (-1)):=by rw[vJ,if_pos (by omega)]
 have x2:0<N:=by omega
 generalize x3:yB N (AV.i (-1))=xs at *
 have zj:∀hh,xs[0]'hh= .i (-1):=fun hh=>(yJ hh).2 y2;repeat first|(refine r_ ?_;simp[hq,zi,y2,zj,x2])|refine q_ ?_
 refine Wf fun Z hZ=> ?_;have zu:=Qi hq;have z0:Z[0]? =some (.vars (Q7 a)):=by rw[hZ];exact Qb (Qd (by omega) h0 _) _
 have z1:Z[1]? =some (.vars (Q7 b)):=by rw[hZ];exact Qb (Qd (by omega) h1 _) _
 have zq:Z[q]? =some (.arr 3 1 (st0.1.map AV.i)):=by rw[hZ,hS];exact Qb (Qh hq _) _
 have zl:Z[H.length]? =some (.arr 3 1 (st0.2.map AV.i)):=by rw[hZ,y1,zL (by simp)];simp
 have yj:st0.2.length=1:=by rw[y1];rfl
 clear hZ hS zi y2 zj h0 h1 hq x3;obtain⟨q2,zc⟩:∃q2,q2=H.length:=⟨_,rfl⟩
 rw[←zc]at zl zu ⊢;clear zc xs H;have y3:=fun st (h:IsoI a b st)=>h.len2;have zv:=fun st (h:IsoI a b st)=>h.len;rw[hN]at y3 zv;obtain⟨Rb,y4⟩:∃Rb,Hy (x1g a b) (psR a b) (N+1) 0 st0=Rb:=⟨_,rfl⟩
 rw[y4]at hR;refine Qo (Qc (sl':=[(2,.vptr 0 0),(3,.vptr 1 0),(4,.nils),(5,.bool false),(6,.i 0),(9,.list (ls.map encSy)),(10,.sl q 1 0 N),(12,.sl q2 1 0 st0.2.length),(13,.i (0:Nat))]) ?_ (by simp[yj]));refine Qp (P:=Tryz.prog) (F:=fun(u:Nat×Nat×(List Int×List Int)×Nat×List AObj)=>⟨[(2,.vptr 0 0),(3,.vptr 1 0),(4,.nils),(5,.bool false),(6,.i 0),(9,.list (ls.map encSy)),(10,.sl q 1 0 N),(12,.sl u.2.2.2.1 1 0 u.2.2.1.2.length),(13,.i u.2.1)],u.2.2.2.2⟩)
  (fun u=>N+1≤u.2.1+u.1∧u.2.1≤u.2.2.1.2.length∧IsoI a b u.2.2.1∧Hy (x1g a b) (psR a b) u.1 u.2.1 u.2.2.1=Rb∧u.2.2.2.2[0]? =some (.vars (Q7 a))∧u.2.2.2.2[1]? =some (.vars (Q7 b))∧u.2.2.2.2[q]? =some (.arr 3 1 (u.2.2.1.1.map AV.i))∧u.2.2.2.2[u.2.2.2.1]? =some (.arr 3 1 (u.2.2.1.2.map AV.i))∧q<u.2.2.2.1) (fun u=>u.1) ?_ (N+1,0,st0,q2,Z) ⟨by simp,by simp,yi,y4,z0,z1,zq,zl,zu⟩
 clear yi y4 z0 z1 zq zl zu yj x1 y1;clear Z q2 st0;rintro⟨f,n,st,q2,H⟩ ⟨x4,yk,hI,hB,h0,h1,hq,hl,zc⟩ ih;simp only at x4 yk hI hB h0 h1 hq hl zc ih ⊢;have yl:=y3 _ hI;repeat first|(refine r_ ?_;simp)|refine q_ ?_
 refine Qa rfl (fun zr=> ?_) (fun y0=> ?_)
 ·have hn:n<st.2.length:=by simpa using zr
  obtain⟨f,rfl⟩:∃g,f=g+1:=⟨f - 1,by omega⟩
  have hw:IntKind.i64.wrap ((n:Int)+1)=n+1:=wrap_i64 _ (by omega) (by omega);have zt:=fun n' st' c' G h=>ih (f,n',st',c',G) h (uL _);clear ih;rw[yy hn]at hB;have y5:=(hI.mem _).1 (zT hn);have ym:=hI.rng _ y5.1 y5.2;have z6:st.2[n]? =some st.2[n]:=zP hn;generalize st.2[n]=p at *
  obtain⟨y6,x5⟩:=y5;obtain⟨r,hr⟩:∃r,fAt st.1 p=r:=⟨_,rfl⟩
  rw[hr]at hB ym x5;obtain⟨pn,rfl⟩:∃k:Nat,p=k:=⟨p.toNat,by have:=y6.1;omega⟩
  obtain⟨qn,rfl⟩:∃k:Nat,r=k:=⟨r.toNat,by omega⟩
  have yn:pn<a.fin.length:=by have:=y6.2;omega
  have yo:qn<b.fin.length:=by have:=ym.2;omega
  have zf:=zv _ hI;have y7:(st.2.map AV.i)[n]? =some (.i pn):=by simp[z6]
  have yp:∀hh,(st.2.map AV.i)[n]'hh= .i pn:=fun hh=>(yJ hh).2 y7;have zd:(st.1.map AV.i)[pn]? =some (.i qn):=by have:=Io (f:=st.1) (s:=(pn:Int)) (by omega) (by simp;omega);rw[hr]at this;simpa using this
  have zb:∀hh,(st.1.map AV.i)[pn]'hh= .i qn:=fun hh=>(yJ hh).2 zd;have zg:(st.1.map AV.i).length=N:=by simp[zf]
  have yq:(st.2.map AV.i).length=st.2.length:=by simp
  have zw:pn<N:=by omega
  have yr:c0r a b pn qn=(a.fin[pn]==b.fin[qn]):=by unfold c0r;simp[y_,yn,yo]
  rw[yr]at hB;repeat first|(refine r_ ?_;simp[hl,y7,yp,hn,yq])|refine q_ ?_
  refine Qk tOk mixed [] (.val 0 (.val 1 (.val 2 (.val 3 (.val 4 (.val 5 (.val 6 (.val 7 (.val 8 (.val 9 (.val 10 (.val 11 (.val 12 (.val 13 (.done))))))))))))))) rfl (by kernel_rfl) ?_;simp[h0,h1,hq,zd,zb,zg,yn,yo,zw];refine Qa rfl (fun h=> ?_) (fun h=> ?_)
  ·rw[if_neg (by simpa using h)]at hB;rw[←hB]at hR;rw[←hR];repeat first|(refine r_ ?_;simp)|refine q_ ?_
   rfl
  rw[if_pos (by simpa using h)]at hB;clear y7 yp zd zb zg yq yr;repeat first|(refine r_ ?_;simp)|refine q_ ?_
  refine Qo (Qc (sl':=[(2,.vptr 0 0),(3,.vptr 1 0),(4,.nils),(5,.bool false),(6,.i 0),(9,.list (ls.map encSy)),(10,.sl q 1 0 N),(12,.sl q2 1 0 st.2.length),(13,.i n),(14,.i pn),(15,.i (0:Nat))]) ?_ (by simp));refine Qp (P:=Tryz.prog) (F:=fun(u:Nat×(List Int×List Int)×Nat×List AObj)=>⟨[(2,.vptr 0 0),(3,.vptr 1 0),(4,.nils),(5,.bool false),(6,.i 0),(9,.list (ls.map encSy)),(10,.sl q 1 0 N),(12,.sl u.2.2.1 1 0 u.2.1.2.length),(13,.i n),(14,.i pn),(15,.i u.1)],u.2.2.2⟩)
   (fun u=>u.1≤ls.length∧IsoI a b u.2.1∧Sg a b pn qn (ls.drop u.1) u.2.1 (Hy (x1g a b) (psR a b) f (n+1))=Rb∧fAt u.2.1.1 pn=qn∧u.2.1.2[n]? =some (pn:Int)∧u.2.2.2[0]? =some (.vars (Q7 a))∧u.2.2.2[1]? =some (.vars (Q7 b))∧u.2.2.2[q]? =some (.arr 3 1 (u.2.1.1.map AV.i))∧u.2.2.2[u.2.2.1]? =some (.arr 3 1 (u.2.1.2.map AV.i))∧q<u.2.2.1) (fun u=>ls.length - u.1) ?_ (0,st,q2,H) ⟨wD _,hI,by rw[List.drop_zero];exact hB,hr,z6,h0,h1,hq,hl,zc⟩
  clear hB hr z6 h0 h1 hq hl zc hI yl zf yk hn zr h;clear st q2 H;rintro⟨k,st,q2,H⟩ ⟨hk,hI,hB,hr,z6,h0,h1,hq,hl,zc⟩ ih2;simp only at hk hI hB hr z6 h0 h1 hq hl zc ih2 ⊢;have yl:=y3 _ hI;have zf:=zv _ hI;repeat first|(refine r_ ?_;simp)|refine q_ ?_
  refine Qa rfl (fun y8=> ?_) (fun y9=> ?_)
  ·have z7:k<ls.length:=by simpa using y8
   have ya:IntKind.i64.wrap ((k:Int)+1)=k+1:=wrap_i64 _ (by omega) (by omega);rw[List.drop_eq_getElem_cons z7]at hB;have x6:=zz _ (zT z7);have zk:(ls.map encSy)[k]? =some (encSy ls[k]):=by simp[z7]
   have zm:∀hh,(ls.map encSy)[k]'hh=encSy ls[k]:=fun hh=>by simp
   have zd:(st.1.map AV.i)[pn]? =some (.i qn):=by have:=Io (f:=st.1) (s:=(pn:Int)) (by omega) (by simp;omega);rw[hr]at this;simpa using this
   have zb:∀hh,(st.1.map AV.i)[pn]'hh= .i qn:=fun hh=>(yJ hh).2 zd;have zg:(st.1.map AV.i).length=N:=by simp[zf]
   have zn:uU N (st.1.map AV.i)=st.1.map AV.i:=zV (by omega);have zh:=fun st' c' G=>ih2 (k+1,st',c',G);clear ih2;generalize ls[k]=x at *
   have cA:=v1f a ha pn x;have cB:=v1f b hb qn x;have yb:=N0 ha pn x;have yt:=N0 hb qn x;obtain⟨s,hs⟩:∃s,toL a pn x=s:=⟨_,rfl⟩
   obtain⟨t,zo⟩:∃t,toL b qn x=t:=⟨_,rfl⟩
   have zx:x0u a b pn qn x=(decide (s<0)==decide (t<0)):=by unfold x0u;rw[hs,zo]
   have z8:=fun s0 t0=>hI.one ha hb (p:=(pn:Int)) (List.mem_of_getElem? z6) x6 hs (t:=t) (by rw[hr];exact zo) s0 t0;rw[hs]at cA yb;rw[zo]at cB yt;simp only[encSy]at zk zm;repeat first|(refine r_ ?_;simp)|refine q_ ?_
   refine Qk tOk mixed [] (.val 0 (.val 1 (.val 2 (.val 3 (.val 4 (.val 5 (.val 7 (.val 8 (.val 9 (.val 10 (.val 11 (.val 12 (.val 13 (.val 14 (.val 15 (.one 6 (.one 16 (.val 17 (.val 18 (.done)))))))))))))))))))) rfl (by kernel_rfl) ?_;simp[h0,h1,hq,zd,zb,zg,zw,zk,zm,z7];refine Qe rfl rfl (by simp) (cA) rfl ?_;rintro _ rfl;simp[h0,h1,hq,zd,zb,zg,zw,zk,zm,z7];refine Qe rfl rfl (by simp) (cB) rfl ?_;rintro _ rfl;simp[h0,h1,hq,zd,zb,zg,zw,zk,zm,z7];repeat first|(refine r_ ?_;simp)|refine q_ ?_
   refine Qa rfl (fun h=> ?_) (fun h=> ?_)
   ·have yc:x0u a b pn qn x=false:=by rw[zx];simpa using h
    rw[u0w yc]at hB;rw[←hB]at hR;rw[←hR];repeat first|(refine r_ ?_;simp)|refine q_ ?_
    rfl
   have za:x0u a b pn qn x=true:=by rw[zx];simpa using h
   repeat first|(refine r_ ?_;simp)|refine q_ ?_
   refine Qa rfl (fun h2=> ?_) (fun h2=> ?_)
   ·have x7:s<0:=by simpa using h2
    rw[x0n za (by rw[hs];exact x7)]at hB;repeat first|(refine r_ ?_;simp[ya])|refine q_ ?_
    refine Qc (sl':=[(2,.vptr 0 0),(3,.vptr 1 0),(4,.nils),(5,.bool false),(6,.i 0),(9,.list (ls.map encSy)),(10,.sl q 1 0 N),(12,.sl q2 1 0 st.2.length),(13,.i n),(14,.i pn),(15,.i (k+1:Nat))]) ?_ (by simp);exact zh st q2 H ⟨by simp only;omega,hI,hB,hr,z6,h0,h1,hq,hl,zc⟩ (by simp only;omega)
   have s0:0≤s:=by simp at h2;omega
   have t0:0≤t:=by rw[zx,beq_iff_eq,decide_eq_decide]at za;omega
   have yd:=yb.resolve_left (by omega);rw[c0x za (by rw[hs];exact s0),hs,zo]at hB;have z8:=z8 s0 t0;clear cA cB hs zo zx za yb yt zk zm;obtain⟨sn,rfl⟩:∃k:Nat,s=k:=⟨s.toNat,by omega⟩
   have x8:sn<N:=by have:=yd.2;omega
   have cS:=x03 st.1 sn t (by omega) (by simp;omega);rw[f09]at hB z8;simp only at hB z8;have xd:=y1e st.1 sn t;generalize Dx st.1 sn t=c at *
   repeat first|(refine r_ ?_;simp)|refine q_ ?_
   refine Vm rfl rfl (by first|(simp[hq,zn,zf];done)|(simp[hq,zn,zf];rfl)) (cS) rfl ?_;rintro _ rfl;refine⟨by first|simp|rfl|trivial,?_⟩;simp[hq,zn,zf];repeat first|(refine r_ ?_;simp)|refine q_ ?_
   refine Qa rfl (fun h=> ?_) (fun h=> ?_)
   ·have hc:c= -1:=by simp at h;omega
    rw[if_neg (by omega),if_pos (by omega),Option.bind_none]at hB;rw[←hB]at hR;rw[←hR];repeat first|(refine r_ ?_;simp)|refine q_ ?_
    rfl
   have yu:¬c<0:=by simpa using h
   repeat first|(refine r_ ?_;simp)|refine q_ ?_
   refine Qa rfl (fun h=> ?_) (fun h=> ?_)
   ·have hc:c≠0:=by simp at h;omega
    rw[if_neg hc,if_neg yu,wB]at hB;rw[if_neg hc,if_neg yu]at z8;simp only[uH]at hB z8;rcases z8 with⟨st',e1,g2,g3,-,-⟩|⟨e1,-⟩
    ·obtain rfl:=Option.some.inj e1;have ye:(st.1.map AV.i)[sn]? =some (.i (fAt st.1 sn)):=by have:=Io (f:=st.1) (s:=(sn:Int)) (by omega) (by simp;omega);simpa using this
     have zp:∀hh,(st.1.map AV.i)[sn]'hh= .i (fAt st.1 sn):=fun hh=>(yJ hh).2 ye;have x9:(st.1.map AV.i).set sn (.i t)=(st.1.set sn t).map AV.i:=by simp[u6]
     have zy:(st.2.map AV.i).length=st.2.length:=by simp
     have yv:=g3 pn y6 (by omega);simp only at yv;repeat first|(refine r_ ?_;simp[hq,ye,zp,zg,x8])|refine q_ ?_
     refine Yc fun Z hZ=> ?_;have z0:Z[0]? =some (.vars (Q7 a)):=by rw[hZ];exact Qb (Qd (by omega) h0 _) _
     have z1:Z[1]? =some (.vars (Q7 b)):=by rw[hZ];exact Qb (Qd (by omega) h1 _) _
     have zq:Z[q]? =some (.arr 3 1 ((st.1.set sn t).map AV.i)):=by rw[hZ,←x9];exact Qb (Qh hq _) _
     have zl:Z[q2]? =some (.arr 3 1 (st.2.map AV.i)):=by rw[hZ];exact Qb (Qd (by omega) hl _) _
     have xe:=Qi zl;have zs:Z[H.length]? =some (.arr 3 1 [.i sn]):=by rw[hZ,zL (by simp)];simp
     clear hZ h0 h1 hq hl ye zp;refine Qf tOk rfl rfl T40 rfl T3 rfl (by decide) (by decide) rfl rfl rfl ?_;simp[zl,zy,zs];refine⟨by simp[Wk,zl,zy,zs]<;>omega,?_⟩;repeat first|(refine r_ ?_;simp[ya])|refine q_ ?_
     refine Qc (sl':=[(2,.vptr 0 0),(3,.vptr 1 0),(4,.nils),(5,.bool false),(6,.i 0),(9,.list (ls.map encSy)),(10,.sl q 1 0 N),(12,.sl Z.length 1 0 (st.2++[(sn:Int)]).length),(13,.i n),(14,.i pn),(15,.i (k+1:Nat))]) ?_ (by simp);refine zh (st.1.set sn t,st.2++[(sn:Int)]) Z.length _ ⟨by simp only;omega,g2,hB,by simp only;rw[yv];exact hr,by simp only;rw[zI (zE.1 z6).1];exact z6,Qb (Qd (by omega) z0 _) _,Qb (Qd (by omega) z1 _) _,Qb (Qd (by omega) zq _) _,?_,by simp only;omega⟩ (by simp only;omega);simp only;rw[zL (by simp)];simp
    ·cases e1
   ·have hc:c=0:=by simp at h;omega
    rw[if_pos hc,wB]at hB;repeat first|(refine r_ ?_;simp[ya])|refine q_ ?_
    refine Qc (sl':=[(2,.vptr 0 0),(3,.vptr 1 0),(4,.nils),(5,.bool false),(6,.i 0),(9,.list (ls.map encSy)),(10,.sl q 1 0 N),(12,.sl q2 1 0 st.2.length),(13,.i n),(14,.i pn),(15,.i (k+1:Nat))]) ?_ (by simp);exact zh st q2 H ⟨by simp only;omega,hI,hB,hr,z6,h0,h1,hq,hl,zc⟩ (by simp only;omega)
  ·have xa:k=ls.length:=by simp at y9;omega
   subst xa;rw[List.drop_length,u00]at hB;have xb:n<st.2.length:=(zE.1 z6).1;repeat first|(refine r_ ?_;simp[hw])|refine q_ ?_
   refine Qc (sl':=[(2,.vptr 0 0),(3,.vptr 1 0),(4,.nils),(5,.bool false),(6,.i 0),(9,.list (ls.map encSy)),(10,.sl q 1 0 N),(12,.sl q2 1 0 st.2.length),(13,.i (n+1:Nat))]) ?_ (by simp);exact zt (n+1) st q2 H ⟨by simp only;omega,by simp only;omega,hI,hB,h0,h1,hq,hl,zc⟩
 ·have ze:st.2.length≤n:=by simp at y0;omega
  rw[Cn ze]at hB;rw[←hB]at hR;rw[←hR];have zy:(st.1.map AV.i).length=N:=by have:=zv _ hI;simp[this]
  have zn:uU N (st.1.map AV.i)=st.1.map AV.i:=zV (by omega);repeat first|(refine r_ ?_;simp[hq,zy,zn])|refine q_ ?_
  rfl
end Go.Abs
namespace Go.Abs
open Go Go.Proofs Go.Maps Go.RowKit
attribute [local irreducible] x17 g1d
theorem X1(a b:Aut):PC Tryz.prog 10 [encA a,encA b] (fun r=>r= .bool true):=by
 refine Ql tOk Tryz.func10 rfl Tryz.results10 rfl (by simp[Tryz.ntmps10]) ?_;rw[Tryz.ntmps10];simp only[Qg];simp only[encA];have cM:=v1y a b;have cR:=u1k a b;rw[y1p]at cR;generalize g1d a b=R at *;simp only[j1z]at cM cR
 repeat first|(refine r_ ?_;simp)|refine q_ ?_
 refine Qe rfl rfl (by simp) (k0f a) rfl ?_;rintro _ rfl;simp;repeat first|(refine r_ ?_;simp)|refine q_ ?_
 cases hfa:x17 a with
 |false=>
  repeat first|(refine r_ ?_;simp)|refine q_ ?_
  refine Q4 rfl rfl ?_;simp;repeat first|(refine r_ ?_;simp)|refine q_ ?_
  refine Qa rfl (fun _=> ?_) (fun h=>by simp at h);repeat first|(refine r_ ?_;simp)|refine q_ ?_
  refine Qe rfl rfl (by simp) (Gf) rfl ?_;rintro _ rfl;simp;repeat (first|(refine r_ ?_;simp)|refine q_ ?_)
 |true=>
  repeat first|(refine r_ ?_;simp)|refine q_ ?_
  refine Qe rfl rfl (by simp) (k0f b) rfl ?_;rintro _ rfl;simp;repeat first|(refine r_ ?_;simp)|refine q_ ?_
  refine Qa rfl (fun _=> ?_) (fun h=> ?_)
  ·repeat first|(refine r_ ?_;simp)|refine q_ ?_
   refine Qe rfl rfl (by simp) (Gf) rfl ?_;rintro _ rfl;simp;repeat first|(refine r_ ?_;simp)|refine q_ ?_
  repeat first|(refine r_ ?_;simp)|refine q_ ?_
  refine Qe rfl rfl (by simp) (cM) rfl ?_;rintro _ rfl;simp;repeat first|(refine r_ ?_;simp)|refine q_ ?_
  refine Qe rfl rfl (by simp) (cR) rfl ?_;rintro _ rfl;simp;repeat first|(refine r_ ?_;simp)|refine q_ ?_
  refine Qe rfl rfl (by simp) (Gf) rfl ?_;rintro _ rfl;simp;repeat first|(refine r_ ?_;simp)|refine q_ ?_
  refine Qe rfl rfl (by simp) (Xe R.1.1 R.1.1) rfl ?_;rintro _ rfl;simp;repeat first|(refine r_ ?_;simp)|refine q_ ?_
end Go.Abs
namespace Go.Abs
open Go Go.Proofs Go.RowKit Go.Proofs.YteghceocnldccaaGreatDoor
theorem laidOut:laidOutB Tryz.prog=true:=by kernel_rfl
theorem own:ownKnob Tryz.prog.godebug=none:=by kernel_rfl
theorem Gi{α:Type}{g:α→AV}{Q:α→Prop}:∀xs:List AV,(∀x∈xs,∃a,x=g a∧Q a)→∃l:List α,xs=l.map g∧∀a∈l,Q a
 |[],_=>⟨[],rfl,by simp⟩
 |x::xs,h=>by obtain⟨a,rfl,ha⟩:=h x (by simp);obtain⟨l,rfl,hl⟩:=Gi xs (fun y hy=>h y (by simp[hy]));exact⟨a::l,rfl,by simpa using⟨ha,hl⟩⟩
theorem j09{d:Nat}{zs:List AV}(h:Shp T (d+1) 3 zs):∃n:Int,zs=[.i n]∧ -9223372036854775808≤n∧n≤9223372036854775807:=by simp only[Shp,T3,N2]at h;obtain⟨n,rfl,h1,h2⟩:=h;exact⟨n,rfl,h1,h2⟩
theorem j1k{d:Nat}{zs:List AV}(h:Shp T (d+1) 4 zs):∃b:Bool,zs=[.bool b]:=by simp only[Shp,T4,N2]at h;exact h
theorem k1b{d:Nat}{xs:List AV}(h:O9 T d [] xs):xs=[]:=h
theorem d1a {l:List (String×DataW Unit)} {w:World} {name:String} {k:IntKind} {zs:List Int} {g:Nat} {t e:TypeId} {n:Nat} (h:laidMetH Tryz.prog l w) (hl:l.filter (fun x=>x.1==name)=[(name,Lib.tabData k zs)])
  (hg:Tryz.prog.globalNamed name=some g) (z1:(Tryz.prog.globals[g]?).map (·.type)=some t) (ht:Tryz.prog.underlying t=some (.array n e)) (he:Tryz.prog.underlying e=some (.int k)) (z6:Tryz.prog.cellsOf e=1) (z7:Tryz.prog.cellsOf t=n):
  g<w.heap.size∧∃t fr,w.heap[g]? =some (.cells (zs.map fun z=>Value.int k z).toArray t fr):=by
 have h1:=h.filter (fun x=>x.1==name);rw[hl]at h1;have h2:Lib.TabIs Tryz.prog w name k zs:=Lib.tabIs_of_head hg z1 ht he z6 z7 h1;unfold Lib.TabIs World.var? at h2;rw[hg]at h2;simp only[wB]at h2;cases ho:w.heap[g]? with
 |none=>rw[ho]at h2;simp at h2
 |some o=>rw[ho]at h2;refine⟨(Array.getElem?_eq_some_iff.1 ho).1,?_⟩;cases o<;>simp at h2;rename_i cs t fr;exact⟨t,fr,by rw[h2]⟩
end Go.Abs
namespace Go.Abs
open Go Go.Proofs Go.RowKit Go.Proofs.YteghceocnldccaaGreatDoor
theorem x2m{d:Nat}{zs:List AV}(h:Shp T (d+2) 187 zs):∃v:Iv,zs=(encIv v).cells:=by simp only[Shp,A7,T3,N2,k1d,xH,vB]at h;obtain⟨_,_,rfl,⟨a,rfl,ha⟩,_,_,rfl,⟨b,rfl,hb⟩,rfl⟩:=h;exact⟨⟨a,b⟩,rfl⟩
theorem z2i{d:Nat}{zs:List AV}(h:Shp T (d+3) 171 zs):∃l:List Iv,zs=[encL l]:=by
 rw[Shp,U6]at h;simp only[N2]at h;obtain⟨ei,xs,he,rfl,hl,hx⟩:=h;rw[A7]at he;cases he;obtain⟨l,rfl,hq⟩:=Gi (g:=encIv) (Q:=fun _=>True) xs (fun x z1=>by
  obtain⟨zs,rfl,hz⟩:=hx x z1;obtain⟨v,rfl⟩:=x2m (d:=d) hz;exact⟨v,rfl,trivial⟩)
 exact⟨l,rfl⟩
theorem q20{d:Nat}{zs:List AV}(h:Shp T (d+4) 74 zs):∃p:Prd,zs=[.list (p.map encL)]:=by
 rw[Shp,T74]at h;simp only[N2]at h;obtain⟨ei,xs,he,rfl,hl,hx⟩:=h;rw[U6]at he;cases he;obtain⟨l,rfl,hq⟩:=Gi (g:=encL) (Q:=fun _=>True) xs (fun x z1=>by
  obtain⟨zs,rfl,hz⟩:=hx x z1;obtain⟨v,rfl⟩:=z2i (d:=d) hz;exact⟨v,rfl,trivial⟩)
 exact⟨l,rfl⟩
theorem q21{d:Nat}{zs:List AV}(h:Shp T (d+5) 76 zs):∃p:Prd,zs=[.list (p.map encL)]:=by rw[Shp,T76]at h;simp only[N2,k1d,xH,vB]at h;obtain⟨_,_,rfl,h1,rfl⟩:=h;obtain⟨p,rfl⟩:=q20 (d:=d) h1;exact⟨p,rfl⟩
theorem c1r{d:Nat}{zs:List AV}(h:Shp T (d+6) 78 zs):∃m:Mv,zs=(encMv m).cells:=by rw[Shp,T78]at h;simp only[N2,k1d,xH,vB]at h;obtain⟨_,_,rfl,h1,_,_,rfl,h2,_,_,rfl,h3,rfl⟩:=h;obtain⟨a,rfl,_⟩:=j09 (d:=d+4) h1;obtain⟨b,rfl,_⟩:=j09 (d:=d+4) h2;obtain⟨p,rfl⟩:=q21 (d:=d) h3;exact⟨⟨a,b,p⟩,rfl⟩
theorem u1m{d:Nat}{zs:List AV}(h:Shp T (d+7) 23 zs):∃l:List Mv,zs=[.list (l.map encMv)]:=by
 rw[Shp,T23]at h;simp only[N2]at h;obtain⟨ei,xs,he,rfl,hl,hx⟩:=h;rw[T78]at he;cases he;obtain⟨l,rfl,hq⟩:=Gi (g:=encMv) (Q:=fun _=>True) xs (fun x z1=>by
  obtain⟨zs,rfl,hz⟩:=hx x z1;obtain⟨v,rfl⟩:=c1r (d:=d) hz;exact⟨v,rfl,trivial⟩)
 exact⟨l,rfl⟩
theorem v1u{d:Nat}{zs:List AV}(h:Shp T (d+2) 22 zs):∃l:List Bool,zs=[.list (l.map .bool)]:=by
 rw[Shp,T22]at h;simp only[N2]at h;obtain⟨ei,xs,he,rfl,hl,hx⟩:=h;rw[T4]at he;cases he;obtain⟨l,rfl,hq⟩:=Gi (g:=AV.bool) (Q:=fun _=>True) xs (fun x z1=>by
  obtain⟨zs,rfl,hz⟩:=hx x z1;obtain⟨v,rfl⟩:=j1k (d:=d) hz;exact⟨v,rfl,trivial⟩)
 exact⟨l,rfl⟩
theorem z2d{d:Nat}{zs:List AV}(h:Shp T (d+8) 25 zs):∃a:Aut,zs=(encA a).cells:=by rw[Shp,T25]at h;simp only[N2,k1d,xH,vB]at h;obtain⟨_,_,rfl,h1,_,_,rfl,h2,_,_,rfl,h3,rfl⟩:=h;obtain⟨t,rfl,_⟩:=j09 (d:=d+6) h1;obtain⟨f,rfl⟩:=v1u (d:=d+5) h2;obtain⟨m,rfl⟩:=u1m (d:=d) h3;exact⟨⟨t,f,m⟩,rfl⟩
theorem x1r{d:Nat}{ts:List Nat}{xs:List AV}(h:O9 T (d+8) (25::ts) xs):∃(a:Aut) (r:List AV),xs=encA a::r∧O9 T (d+8) ts r:=by obtain⟨i,zs,r,hi,rfl,h1,h⟩:=h;rw[T25]at hi;cases hi;obtain⟨a,rfl⟩:=z2d (d:=d) h1;exact⟨a,r,rfl,h⟩
theorem c1v {l:List (String×DataW Unit)} {w:World} (h:laidMetH Tryz.prog l w) (hl:l.filter (fun x=>x.1== "internal/strconv.uint64pow10")=[("internal/strconv.uint64pow10",Lib.tabData .u64 Lib.pow10Tab)]):EOK Tryz.prog w (·<w.heap.size):=fun g pr hm=>by
 have e:=z_.1 hm
 cases e
 obtain⟨h1,t,fr,h2⟩:=d1a (t:=300) (e:=250) (n:=20) h hl (by kernel_rfl) (by kernel_rfl) (by kernel_rfl) (by kernel_rfl) (by kernel_rfl) (by kernel_rfl)
 exact⟨h1,_,t,fr,rfl,h2⟩
end Go.Abs
