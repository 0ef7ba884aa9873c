/- Part Tj of the proof: an abstract machine over the model, and what the functions of the program hand back in its terms. No condition. -/
import Derived.Test.YteghceocnldccaaGreatDoorTi
import Derived.Test.YteghceocnldccaaGreatDoorTg
import Derived.Test.YteghceocnldccaaGreatDoorTf
import Derived.Test.YteghceocnldccaaGreatDoorTe
import Derived.Test.YteghceocnldccaaGreatDoorTh
import Derived.Test.YteghceocnldccaaGreatDoorTc
import Derived.Test.YteghceocnldccaaGreatDoorTd
import Derived.Test.YteghceocnldccaaGreatDoorTb
import Derived.Lay
import Derived.LaidSub
import Derived.Deep.DeepWitnessRowRef
import Derived.Test.YteghceocnldccaaGreatDoorCards
import Derived.Test.YteghceocnldccaaGreatDoorTie
import Derived.Lib.LaidTab
import Derived.Shelf.Vars
set_option linter.all false
open Nat renaming le_trans→yY,zero_le→wK,le_refl→zV,lt_succ_self→tX
open List renaming getElem_mem→zT,take_succ_eq_append_getElem→z_,mem_append→yE,mem_singleton→zW,getElem_eq_iff→yJ,getElem?_append_right→zO,any_eq_true→wO,take_length→xD,range→yW,take_of_length_le→zZ,mem_map→zX,drop→sr,drop_append_of_le_length→v_,getElem?_eq_none→xA,getElem?_eq_getElem→zP,getD→yV,length_set→wB,mem_or_eq_of_mem_set→wJ,mem_set→sh,getElem?_set_ne→zH,replicate→yB,eq_of_mem_replicate→vU,mem_range→xH,take→uS,length_map→yP,length_filter_le→xW,map_append→xF,map_map→vC,map_set→uc,getElem?_replicate→vZ,getElem?_set_self→zU,mem_reverse→ui,map_congr_left→xP,getElem?_map→yI,map_cons→xI,findIdx?_cons→tA,map_nil→wY
open Bool renaming and_eq_true→yT
open Option renaming bind_some→wG,map_some→wU
open Int renaming le_refl→xB,toNat_natCast→tO,emod_nonneg→uL,mul_le_mul_of_nonneg_left→uJ,tmod→uV
set_option maxHeartbeats 16000000
set_option linter.unusedSimpArgs false
set_option maxRecDepth 100000
namespace Go.Abs
open Go Go.Proofs Go.Maps Go.RowKit
attribute [local irreducible] R4 A4 Ev Jp Wf E2 Rz
theorem I9(a:Aut):PC Tryz.prog 26 [encA a] (fun r=>r= .tup [encA (Jp a).2,.i (Jp a).1]):=by
 refine Ql tOk Tryz.func26 rfl Tryz.results26 rfl (by simp[Tryz.ntmps26]) ?_;rw[Tryz.ntmps26];simp only[Qf];simp only[encA];obtain⟨R,hR⟩:∃R,Jp a=R:=⟨_,rfl⟩
 rw[hR];repeat first|(refine r_ ?_;simp)|refine q_ ?_
 refine Qe rfl rfl (by simp) (Yt a) rfl ?_;rintro _ rfl;simp;repeat first|(refine r_ ?_;simp)|refine q_ ?_
 refine Qa rfl (fun h=> ?_) (fun h=> ?_)
 ·have h':Wf a≠0:=by simpa using h
  rw[k1x h']at hR;rw[←hR];repeat first|(refine r_ ?_;simp)|refine q_ ?_
  exact⟨rfl,rfl,rfl⟩
 have z8:Wf a=0:=by simpa using h
 repeat first|(refine r_ ?_;simp)|refine q_ ?_
 refine Qe rfl rfl (by simp) (Hx a) rfl ?_;rintro _ rfl;simp;repeat first|(refine r_ ?_;simp)|refine q_ ?_
 refine Qa rfl (fun h=> ?_) (fun h=> ?_)
 ·have h':(R4 a).1≠0:=by simpa using h
  rw[j02 h']at hR;rw[←hR];repeat first|(refine r_ ?_;simp)|refine q_ ?_
  exact⟨rfl,rfl,rfl⟩
 have hd:(R4 a).1=0:=by simpa using h
 have zc:=fun h=>u1n (a:=a) hd h;have zd:=fun h=>g1r (a:=a) hd h;have ze:=fun h=>c0c (a:=a) z8 hd h;generalize (R4 a).2=d at *
 repeat first|(refine r_ ?_;simp)|refine q_ ?_
 refine Qe rfl rfl (by simp) (F0 d) rfl ?_;rintro _ rfl;simp;repeat first|(refine r_ ?_;simp)|refine q_ ?_
 refine Qa rfl (fun h=> ?_) (fun h=> ?_)
 ·have h':(A4 d).1≠0:=by simpa using h
  rw[zc h']at hR;rw[←hR];repeat first|(refine r_ ?_;simp)|refine q_ ?_
  exact⟨rfl,rfl,rfl⟩
 have hc:(A4 d).1=0:=by simpa using h
 have z7:=zd hc;have ha:=ze hc;rw[hR]at z7;clear zd ze zc;generalize (A4 d).2=c at *
 repeat first|(refine r_ ?_;simp)|refine q_ ?_
 refine Qe rfl rfl (by simp) (Rw c ha.ok) rfl ?_;rintro _ rfl;simp;refine Qe rfl rfl (by simp) (B8 c ha) rfl ?_;rintro _ rfl;simp;repeat first|(refine r_ ?_;simp)|refine q_ ?_
 have zj:=fun(m:Mv) (hm:m∈(Ev c).mv)=>w1n ha hm;have zp:(Ev c).mv.length≤2048:=yY (v0z ha) ha.ok.mvs;have zf:Bf (Ev c)=(Ev c).mv.any fun k=>k.on.any fun s=>decide (256<s.length):=rfl;have zk:(Ev c).types=c.types:=Bs c;generalize Ev c=m at *;refine Q9 fun Z hZ=> ?_
 have z1:Z[1]? =some (.vars [.i 0,.nils,.nils]):=by rw[hZ];rfl
 have z4:Z[4]? =some (.vars (Wb m)):=by rw[hZ];rfl
 clear hZ;refine Qr (Qd (sl':=[(2,.vptr 1 0),(3,.i 0),(8,.vptr 4 0),(39,.list (m.mv.map encMv)),(40,.i m.mv.length),(41,.i (0:Nat))]) ?_ (by simp));refine Qq (P:=Tryz.prog) (F:=fun(u:Nat×List AObj)=>⟨[(2,.vptr 1 0),(3,.i 0),(8,.vptr 4 0),(39,.list (m.mv.map encMv)),(40,.i m.mv.length),(41,.i u.1)],u.2⟩)
  (fun u=>u.1≤m.mv.length∧u.2[1]? =some (.vars [.i 0,.nils,.nils])∧u.2[4]? =some (.vars (Wb m))∧∀k∈m.mv.take u.1,(k.on.any fun s=>decide (256<s.length))=false) (fun u=>m.mv.length - u.1) ?_ (0,Z) ⟨wK _,z1,z4,by simp⟩
 clear z1 z4;clear Z;rintro⟨j,Z⟩ ⟨hj,z1,z4,za⟩ ih;simp only at hj z1 z4 za ih ⊢;repeat first|(refine r_ ?_;simp)|refine q_ ?_
 refine Qa rfl (fun zl=> ?_) (fun zm=> ?_)
 ·have z6:j<m.mv.length:=by simpa using zl
  have hw:IntKind.i64.wrap ((j:Int)+1)=j+1:=wrap_i64 _ (by omega) (by omega);have zg:=zT z6;have z8:=zj _ zg;have zn:∀k∈m.mv.take (j+1),k∈m.mv.take j∨k=m.mv[j]:=fun k hk=>by
   rw[z_ z6]at hk;rcases yE.1 hk with h|h
   ·exact .inl h
   ·exact .inr (zW.1 h)
  have zh:(m.mv.map encMv)[j]? =some (encMv m.mv[j]):=by simp[z6]
  have zi:∀hh,(m.mv.map encMv)[j]'hh=encMv m.mv[j]:=fun hh=>by simp
  generalize zq:m.mv[j]=k at *;simp only[encMv]at zh zi
  have z4s:∀E,(Z++E)[4]? =some (.vars (Wb m)):=fun E=>Qb z4 E;have z4h:∀E hh,(Z++E)[4]'hh= .vars (Wb m):=fun E hh=>(yJ hh).2 (z4s E);repeat first|(refine r_ ?_;simp[zh,zi,z6,z4s,z4h])|refine q_ ?_
  refine Qe rfl rfl (by simp) (Pw m.types k.on) rfl ?_;rintro _ rfl;simp;rw[zk];refine Q9 fun Y hY=> ?_;have y1:Y[1]? =some (.vars [.i 0,.nils,.nils]):=by rw[hY];exact Qb z1 _
  have y4:Y[4]? =some (.vars (Wb m)):=by rw[hY];exact Qb z4 _
  have yx:Y[Z.length]? =some (.vars [.i k.src,.i k.dst,.list (k.on.map encL)]):=by rw[hY,zO (by simp)];simp
  clear hY;have y1s:∀X,(Y.set 1 X)[1]? =some X:=fun X=>Qg y1 X;refine Qa rfl (fun h=> ?_) (fun h=> ?_)
  ·have h':Bf m=true:=by
    rw[zf,wO];refine⟨k,zg,?_⟩;have h2:E2 c.types k.on≠0:=by simpa using h
    cases hb:k.on.any fun s=>decide (256<s.length)with
    |true=>rfl
    |false=>exact absurd (z8.2 hb) h2
   rw[if_pos h']at z7;rw[z7];repeat first|(refine r_ ?_;simp[y1,y1s])|refine q_ ?_
   exact⟨rfl,rfl,rfl⟩
  ·have h2:E2 c.types k.on=0:=by simpa using h
   repeat first|(refine r_ ?_;simp[hw])|refine q_ ?_
   refine Qd (sl':=[(2,.vptr 1 0),(3,.i 0),(8,.vptr 4 0),(39,.list (m.mv.map encMv)),(40,.i m.mv.length),(41,.i (j+1:Nat))]) ?_ (by simp);refine ih (j+1,Y) ⟨by omega,y1,y4,fun k' zo=> ?_⟩ (by simp only;omega);rcases zn k' zo with e|rfl
   ·exact za k' e
   ·exact z8.1 h2
 ·have zb:j=m.mv.length:=by simp at zm;omega
  subst zb;rw[xD]at za;have h':Bf m=false:=by rw[zf,List.any_eq_false];exact fun k hk=>by rw[za k hk];simp
  rw[h',if_neg (by simp)]at z7;rw[z7];have y1s:∀X,(Z.set 1 X)[1]? =some X:=fun X=>Qg z1 X;repeat first|(refine r_ ?_;simp[z4,z1,y1s])|refine q_ ?_
end Go.Abs
namespace Go.Abs
open Go Go.Proofs Go.Maps Go.RowKit
attribute [local irreducible] exM Jp j1p y12
theorem Gb:PC Tryz.prog 25 [] (fun r=>r= .bool true):=by
 refine Ql tOk Tryz.func25 rfl Tryz.results25 rfl (by simp[Tryz.ntmps25]) ?_;rw[Tryz.ntmps25];simp only[Qf];have z6:yW 2=[0,1]:=rfl;have z7:yW 3=[0,1,2]:=rfl;repeat first|(refine r_ ?_;simp)|refine q_ ?_
 refine Qe rfl rfl (by simp) (U0 true) rfl ?_;rintro _ rfl;simp;refine Qe rfl rfl (by simp) (X4 (exM true)) rfl ?_;rintro _ rfl;simp[g1b];repeat first|(refine r_ ?_;simp)|refine q_ ?_
 refine Qe rfl rfl (by simp) (U0 true) rfl ?_;rintro _ rfl;simp;refine Qe rfl rfl (by simp) (I9 (exM true)) rfl ?_;rintro _ rfl;simp[d1y];repeat first|(refine r_ ?_;simp)|refine q_ ?_
 refine Qe rfl rfl (by simp) (U0 true) rfl ?_;rintro _ rfl;simp;refine Qe rfl rfl (by simp) (Ik (exM true) 0 1) rfl ?_;rintro _ rfl;simp[q2o];simp[x1x];repeat first|(refine r_ ?_;simp)|refine q_ ?_
 refine Qe rfl rfl (by simp) (U0 false) rfl ?_;rintro _ rfl;simp;refine Qe rfl rfl (by simp) (Ik (exM false) 0 2) rfl ?_;rintro _ rfl;simp[w22];simp[x1x];repeat first|(refine r_ ?_;simp)|refine q_ ?_
 refine Qe rfl rfl (by simp) (P4 (-1099511627776) 1099511627776) rfl ?_;rintro _ rfl;simp;have z8:IntKind.i64.wrap 0=0:=by decide
 refine Pt (Uq tOk rfl ?_);simp[z6];refine Qx (sl':=[(0,.bool false),(1,LI [0,1,1]),(2,.i 0),(3,.vptr 0 0),(4,.i 0),(5,.list []),(6,.bool true),(7,.i 0),(8,LSy [⟨0,5⟩]),(9,.bool true),(10,.i 0),(12,.vptr 4 0)]) ?_ (by simp);refine We 2 (e:=4) (c:=1) (xs:=[.bool false,.bool true]) rfl 4 rfl ?_;simp;refine We 3 (e:=78) (c:=3) (xs:=x0o.mv.map encMv) rfl 4 rfl ?_;have z1:x0o.mv.length=2:=rfl;simp[z1];rw[zZ (by simp[z1])];repeat first|(refine r_ ?_;simp[z8,z7])|refine q_ ?_
 refine Ek 5 rfl ?_;simp;refine Qe rfl rfl (by simp) (g01 [0,1,1] [0,1,1]) rfl ?_;rintro _ rfl;simp;repeat first|(refine r_ ?_;simp)|refine q_ ?_
 refine Qe rfl rfl (by simp) (Mb x0o) rfl ?_;rintro _ rfl;simp;repeat first|(refine r_ ?_;simp)|refine q_ ?_
 refine Ek 6 rfl ?_;simp;refine Qe rfl rfl (by simp) (x0g [⟨0,5⟩] [⟨0,5⟩]) rfl ?_;rintro _ rfl;simp;repeat first|(refine r_ ?_;simp)|refine q_ ?_
end Go.Abs
namespace Go.Abs
open Go Go.Proofs Go.Maps Go.RowKit
attribute [local irreducible] stF toL g1n
attribute [local irreducible] y1z d00
theorem j0w(a:Aut)(w:List Sy):PC Tryz.prog 34 [encA a,LSy w] (fun r=>r= .bool (Xn a w)):=by
 refine Ql tOk Tryz.func34 rfl Tryz.results34 rfl (by simp[Tryz.ntmps34]) ?_;rw[Tryz.ntmps34];simp only[Qf];simp only[encA];repeat first|(refine r_ ?_;simp)|refine q_ ?_
 refine Qe rfl rfl (by simp) (Nd a w) rfl ?_;rintro _ rfl;simp;repeat first|(refine r_ ?_;simp)|refine q_ ?_
 refine Qe rfl rfl (by simp) (k1q a) rfl ?_;rintro _ rfl;simp;repeat first|(refine r_ ?_;simp)|refine q_ ?_
 have:decide ((w.length:Int)≤12)=decide (w.length≤12):=by rw[decide_eq_decide];omega
 rw[this];rfl
end Go.Abs
namespace Go.Abs
theorem u1v{a:Aut}{w:List Sy}(h:Xn a w=true):y1z a=true∧w.length≤12∧OkA a∧∀x∈w,Eo a x:=by
 simp only[Xn,yT,decide_eq_true_eq,beq_iff_eq]at h;obtain⟨⟨h1,h2⟩,h3⟩:=h;have h4:x02 a w=0:=by
  by_cases he:x02 a w=0
  ·exact he
  ·rw[d00,if_pos he]at h3;exact absurd h3 he
 obtain⟨h5,_,h7⟩:=q1l.1 h4;exact⟨h1,h2,h5,h7⟩
end Go.Abs
namespace Go.Abs
def f1p(a b:Aut)(p q:Int):Bool:=a.fin.getD p.toNat false==b.fin.getD q.toNat false
def y0c(a:Aut)(p:Int):Prd:=Uh a.types.toNat ((Q8 a p).map (·.on))
def j1u(a b:Aut)(p q:Int):Bool:=f1p a b p q && decide (y0c a p=y0c b q)
def psP(a b:Aut)(p q:Int):List (Int×Int):=(Wh a b (p,q)).map (·.2)
def z2s(a b:Aut)(p q:Int)(x:Sy):Bool:=decide (toL a p x<0)==decide (toL b q x<0)
def y21(a b:Aut)(p q:Int):Bool:=f1p a b p q && (Ab a b).all (z2s a b p q)
def ltP(a b:Aut)(p q:Int)(x:Sy):Int×Int:=(toL a p x,toL b q x)
def psR(a b:Aut)(p q:Int):List (Int×Int):=((Ab a b).filter fun x=>decide (0≤toL a p x∧0≤toL b q x)).map (ltP a b p q)
theorem g0y{a:Aut}(h:OkA a)(p:Int):PWf a.types.toNat (y0c a p):=Fv fun r hr=>by obtain⟨m,hm,rfl⟩:=zX.1 hr;exact h.wfA.on m (Wu.1 hm).1
theorem Sp{a:Aut}(h:OkA a)(p:Int){x:Sy}(hx:Eo a x):PM (y0c a p) x.ty.toNat x.num↔0≤toL a p x:=by
 unfold y0c;rw[J7 fun r hr=>by
  obtain⟨m,hm,rfl⟩:=zX.1 hr;exact h.wfA.on m (Wu.1 hm).1]
 constructor
 ·rintro⟨r,hr,z1⟩;obtain⟨m,hm,rfl⟩:=zX.1 hr;obtain⟨m1,m2,_⟩:=Wu.1 hm;have hh:=(Tw h.wfA m1 hx).2 z1;rcases Ur (a:=a) p x with⟨_,h2⟩|⟨k,k1,_,_,k4⟩
  ·rw[h2 m m1 m2]at hh;cases hh
  ·rw[k4];exact(h.mv k k1).dst.1
 ·intro h0;rcases Ur (a:=a) p x with⟨h1,_⟩|⟨k,k1,k2,k3,k4⟩
  ·omega
  ·have z1:=(Tw h.wfA k1 hx).1 k3;exact⟨k.on,zX.2 ⟨k,Wu.2 ⟨k1,k2,(R8 (h.wfA.on k k1)).2 ⟨_,_,z1⟩⟩,rfl⟩,z1⟩
theorem x1d{a b:Aut}(ha:Dta a)(hb:Dta b)(ht:b.types=a.types):PsOk a b (j1u a b) (psP a b):=by
 have z1:∀x,Eo a x→Eo b x:=fun x hx=>(Bj ht).2 hx;have z6:∀ {m n:Mv},m∈a.mv→n∈b.mv→PWf a.types.toNat m.on∧PWf a.types.toNat n.on:=fun hm hn=>⟨ha.ok.wfA.on _ hm,by rw[←ht];exact hb.ok.wfA.on _ hn⟩
 refine⟨fun p q hp hq=> ?_,fun p q hp hq e he=> ?_,fun p q hp hq x hx h1 h2=> ?_⟩
 ·unfold j1u f1p;rw[yT,beq_iff_eq,decide_eq_true_eq];refine and_congr Iff.rfl ⟨fun h x hx=> ?_,fun h=> ?_⟩
  ·have s1:=Sp ha.ok p hx;have s2:=Sp hb.ok q (z1 x hx);rw[h,s2]at s1;omega
  ·have w1:=g0y ha.ok p;have w2:=g0y hb.ok q;rw[ht]at w2;refine I1 w1 w2 fun t n=>⟨fun k=> ?_,fun k=> ?_⟩
   ·have h2:=w1.lt k;have hx:Eo a ⟨(t:Int),n⟩:=Pj.1 ⟨by simp,by simpa using h2.1,h2.2⟩;have s1:=(Sp ha.ok p hx).1 (by simpa using k);have s2:=(Sp hb.ok q (z1 _ hx)).2 (by have:=h _ hx;omega);simpa using s2
   ·have h2:=w2.lt k;have hx:Eo a ⟨(t:Int),n⟩:=Pj.1 ⟨by simp,by simpa using h2.1,h2.2⟩;have s1:=(Sp hb.ok q (z1 _ hx)).1 (by simpa using k);have s2:=(Sp ha.ok p hx).2 (by have:=h _ hx;omega);simpa using s2
 ·obtain⟨s,hs,rfl⟩:=zX.1 he;obtain⟨m,hm,n,hn,hv,rfl⟩:=Uo.1 hs;obtain⟨m1,m2,_⟩:=Wu.1 hm;obtain⟨n1,n2,_⟩:=Wu.1 hn;obtain⟨w1,w2⟩:=z6 m1 n1;have hw:=R6 w1 w2.1;obtain⟨k1,k2,_⟩:=Uz hw ((R8 hw).1 hv);have hk:=Pj.1 k1;obtain⟨p1,p2⟩:=(Ec w1.1 w2.1 _ _).1 k2;refine⟨Qo (Wz m.on n.on),hk,?_,?_,(ha.ok.mv m m1).dst.1,(hb.ok.mv n n1).dst.1⟩
  ·rw[←show m.src=p from m2];exact ha.to_of m1 hk ((Er w1.1 _ hk.1.1).2 p1)
  ·rw[←show n.src=q from n2];exact hb.to_of n1 (z1 _ hk) ((Er w2.1 _ hk.1.1).2 p2)
 ·rcases Ur (a:=a) p x with⟨h3,_⟩|⟨m,m1,m2,m3,m4⟩
  ·omega
  rcases Ur (a:=b) q x with⟨h3,_⟩|⟨n,n1,n2,n3,n4⟩
  ·omega
  obtain⟨w1,w2⟩:=z6 m1 n1;have hw:=R6 w1 w2.1;have p1:=(Er w1.1 x hx.1.1).1 m3;have p2:=(Er w2.1 x hx.1.1).1 n3;have z7:=(Ec w1.1 w2.1 _ _).2 ⟨p1,p2⟩;have hv:=(R8 hw).2 ⟨_,_,z7⟩;refine zX.2 ⟨(Qo (Wz m.on n.on),(m.dst,n.dst)),Uo.2 ⟨m,Wu.2 ⟨m1,m2,(R8 w1).2 ⟨_,_,p1⟩⟩,n,Wu.2 ⟨n1,n2,(R8 w2).2 ⟨_,_,p2⟩⟩,hv,rfl⟩,?_⟩;rw[m4,n4]
def isoF(a b:Aut):(List Int×Bool)×Int:=
 if Wf a≠0 then(([],false),Wf a)else if Wf b≠0 then(([],false),Wf b)else if Fb a=false∨Fb b=false then(([],false),3)
 else if a.types≠b.types then(([],false),15)else match M1 (j1u a b) (psP a b) (a.fin.length+1) 0 (Lf a)with
  |some l=>((l,true),0)
  |none=>(([],false),0)
end Go.Abs
namespace Go.Abs
open Go Go.Proofs Go.Maps Go.RowKit
structure CS (a:Aut) (n:Nat) (O:List Int) (f:Nat):Prop where
 fuel:a.fin.length+1≤n+f
 le:n≤O.length
 nd:O.Nodup
 rg:∀c∈O,0≤c∧c<(a.fin.length:Int)
 eq:f1e a=((k05 (z2l a) f n O).length==a.fin.length)
structure IS (a:Aut) (O:List Int) (P:List Int):Prop where
 nd:P.Nodup
 le:O.length≤P.length
 rg:∀c∈P,0≤c∧c<(a.fin.length:Int)
structure QS (xs:List Int) (off L:Nat) (O:List Int) (n:Nat):Prop where
 len:off+L=xs.length
 eq:xs.drop off=O.drop n
 le:off≤n
theorem QS.pos{xs:List Int}{off L:Nat}{O:List Int}{n:Nat}(h:QS xs off L O n)(hn:n≤O.length):L=O.length - n:=by have:=congrArg List.length h.eq;have:=h.len;simp at *;omega
theorem QS.head{xs:List Int}{off L:Nat}{O:List Int}{n:Nat}(h:QS xs off L O n)(hn:n<O.length):xs[off]? =some O[n]:=by have:=congrArg (fun l=>l[0]?) h.eq;simpa[List.getElem?_drop,hn]using this
theorem QS.tail{xs:List Int}{off L:Nat}{O:List Int}{n:Nat}(h:QS xs off L O n)(hn:n<O.length):QS xs (off+1) (L - 1) O (n+1):=by have h1:=h.pos (by omega);have h2:=h.len;refine⟨by omega,?_,by have:=h.le;omega⟩;have:=congrArg (sr 1) h.eq;simpa[List.drop_drop,Nat.add_comm]using this
theorem QS.add{xs:List Int}{off L:Nat}{O:List Int}{n:Nat}(h:QS xs off L O n)(hn:n≤O.length)(t:Int):QS (xs++[t]) off (L+1) (O++[t]) n:=by have h2:=h.len;refine⟨by simp;omega,?_,h.le⟩;rw[v_ (by omega),v_ hn,h.eq]
theorem QS.cut{xs:List Int}{off L:Nat}{O:List Int}{n:Nat}(h:QS xs off L O n)(hn:n≤O.length)(t:Int):QS (xs.drop off++[t]) 0 (L+1) (O++[t]) n:=by have h2:=h.len;refine⟨by simp;omega,?_,wK _⟩;rw[v_ hn,h.eq];rfl
end Go.Abs
namespace Go.Abs
def c1c(r:(List Int×Bool)×Int):AV:= .tup [LI r.1.1,.bool r.1.2,.i r.2]
theorem Uu:∀(es fs:List (Int×Int)) (st:List Int×List Int),Wx (es++fs) st=(Wx es st).bind (Wx fs)
 |[],_,_=>rfl
 |e::es,fs,st=>by
  rw[List.cons_append,Wx,Wx];cases h:Ej st e with
  |none=>rfl
  |some st'=>simp only[wG];exact Uu es fs st'
theorem Gm(st:List Int×List Int)(e:Int×Int):Wx [e] st=Ej st e:=by rw[Wx];cases Ej st e<;>rfl
theorem x03{chk:Int→Int→Bool}{ps:Int→Int→List (Int×Int)}{n:Nat}{st:List Int×List Int}(h:st.2.length≤n):∀f,M1 chk ps f n st=some st.1
 |0=>rfl
 |f+1=>by rw[M1,xA h]
theorem g0f{chk:Int→Int→Bool}{ps:Int→Int→List (Int×Int)}{n:Nat}{st:List Int×List Int}(h:n<st.2.length)(f:Nat):M1 chk ps (f+1) n st=if chk st.2[n] (fAt st.1 st.2[n])then(Wx (ps st.2[n] (fAt st.1 st.2[n])) st).bind (M1 chk ps f (n+1))else none:=by rw[M1,zP h]
theorem IsoI.len2{a b:Aut}{st:List Int×List Int}(h:IsoI a b st):st.2.length≤a.fin.length:=by have:=h.nd.length_le_of_subset (l₂:=E3 a.fin.length) fun c hc=>Ep.2 ((h.mem c).1 hc).1;simpa[E3]using this
theorem Lj{f:List Int}{s:Int}(h0:0≤s)(h1:s.toNat<f.length):f[s.toNat]? =some (fAt f s):=by unfold fAt;simp[yV,h1]
structure BkS (m:Nat) (to bk:List Int):Prop where
 len:bk.length=m
 iff:∀q:Int,0≤q→q<m→(0≤fAt bk q↔q∈to)
theorem BkS.set{m:Nat}{to bk:List Int}(h:BkS m to bk){s t:Int}(s0:0≤s)(sl:s.toNat<to.length)(hs:fAt to s<0)(t0:0≤t)(tm:t<m):BkS m (to.set s.toNat t) (bk.set t.toNat s):=by
 refine⟨by rw[wB];exact h.len,fun q q0 qm=> ?_⟩;rw[Ba t0 q0 (by have:=h.len;omega)];have hm:q∈to.set s.toNat t↔q=t∨q∈to:=by
  constructor
  ·intro k;rcases wJ k with k|k
   ·exact .inr k
   ·exact .inl k
  ·rintro(rfl|k)
   ·exact sh sl q
   ·obtain⟨i,hi,e⟩:=List.getElem_of_mem k;have z1:s.toNat≠i:=fun e2=>by have:=Lj s0 sl;rw[e2,zP hi,e]at this;have:=Option.some.inj this;omega
    exact List.mem_iff_getElem?.2 ⟨i,by rw[zH z1,zP hi,e]⟩
 rw[hm];by_cases e:q=t
 ·rw[if_pos e];exact⟨fun _=> .inl e,fun _=>s0⟩
 ·rw[if_neg e,h.iff q q0 qm];exact⟨.inr,fun k=>k.resolve_left e⟩
theorem v1c(n:Nat){s:Int}(h0:0≤s):fAt ((yB n (-1:Int)).set 0 0) s=if s=0∧0<n then 0 else -1:=by
 unfold fAt;by_cases hs:s=0
 ·subst hs;cases n with
  |zero=>rfl
  |succ n=>rw[if_pos ⟨rfl,by omega⟩];rfl
 ·rw[if_neg (fun k=>hs k.1)];simp only[yV];rw[zH (by omega)];by_cases hn:s.toNat<n
  ·rw[zP (by simpa using hn)];simp
  ·rw[xA (by simp;omega)];rfl
theorem BkS.start{n m:Nat}(hn:0<n)(hm:0<m):BkS m ((yB n (-1)).set 0 0) ((yB m (-1)).set 0 0):=by
 refine⟨by simp,fun q q0 qm=> ?_⟩;rw[v1c m q0];have:q∈(yB n (-1:Int)).set 0 0↔q=0:=by
  constructor
  ·intro k;rcases wJ k with k|k
   ·have:=vU k;omega
   ·exact k
  ·rintro rfl;exact sh (by simpa using hn) 0
 rw[this];by_cases hq:q=0
 ·rw[if_pos ⟨hq,hm⟩];exact⟨fun _=>hq,fun _=>xB _⟩
 ·rw[if_neg (fun k=>hq k.1)];exact⟨fun k=>by omega,fun k=>absurd k hq⟩
theorem u05{st:List Int×List Int}{e:Int×Int}(h:fAt st.1 e.1=e.2):Ej st e=some st:=if_pos h
theorem c08{st:List Int×List Int}{e:Int×Int}(h0:0≤e.2)(h1:fAt st.1 e.1<0)(h2:e.2∉st.1):Ej st e=some (st.1.set e.1.toNat e.2,st.2++[e.1]):=by unfold Ej;rw[if_neg (by omega),if_neg (fun k=>k.elim (fun k=>by omega) h2)]
theorem w0a{st:List Int×List Int}{e:Int×Int}(h:fAt st.1 e.1≠e.2)(h1:¬(fAt st.1 e.1<0∧e.2∉st.1)):Ej st e=none:=by
 unfold Ej;rw[if_neg h,if_pos];by_cases k:0≤fAt st.1 e.1
 ·exact .inl k
 ·refine .inr (Decidable.byContradiction fun k2=>h1 ⟨by omega,k2⟩)
def y2w(a b:Aut)(p q:Int)(ls:List Sy)(st:List Int×List Int)(K:List Int×List Int→Option (List Int)):Option (List Int):=
 if ls.all (z2s a b p q)then(Wx ((ls.filter fun x=>decide (0≤toL a p x∧0≤toL b q x)).map (ltP a b p q)) st).bind K else none
section
variable {a b:Aut} {p q:Int} {x:Sy} {ls:List Sy} {st:List Int×List Int} {K:List Int×List Int→Option (List Int)}
end
end Go.Abs
namespace Go.Abs
open Go Go.Proofs Go.Maps Go.RowKit
theorem v1n:(yW 257).all (fun n=>bits .and .u64 n 4294967295==(n:Int))=true:=by kernel_rfl
theorem V2(n:Nat)(h:n≤256):bits .and .u64 n 4294967295=n:=by have:=List.all_eq_true.1 v1n n (xH.2 (by omega));simpa using this
theorem Bd(n:Nat)(h:n≤256):(n:Int).fdiv (2 ^ min 32 IntKind.u64.bits)=0:=by rw[show min 32 IntKind.u64.bits=32 from rfl,Int.fdiv_eq_ediv_of_nonneg _ (by decide)];omega
theorem q0m(n:Nat)(h:n≤256):IntKind.u64.wrap (n:Int)=n:=by simp[IntKind.wrap,IntKind.bits,IntKind.signed];omega
theorem q1y(n:Nat)(hn:n≤256):PC Tryz.prog 194 [.int .u64 1,.int .u64 n] (fun r=>r= .tup [.int .u64 0,.int .u64 n]):=by have a1:=V2 n hn;have a2:bits .and .u64 1 4294967295=1:=V2 1 (by decide);have a3:=Bd n hn;have a4:(1:Int).fdiv (2 ^ min 32 IntKind.u64.bits)=0:=Bd 1 (by decide);have a5:=q0m n hn;have a6:IntKind.u64.wrap 0=0:=q0m 0 (by decide);have a7:(0:Int).fdiv (2 ^ min 32 IntKind.u64.bits)=0:=Bd 0 (by decide);have a8:bits .and .u64 0 4294967295=0:=V2 0 (by decide);refine Ql tOk Tryz.func194 rfl Tryz.results194 rfl (by simp[Tryz.ntmps194]) ?_;rw[Tryz.ntmps194];simp only[Qf];repeat first|(refine r_ ?_;simp[a1,a2,a3,a4,a5,a6,a7,a8])|refine q_ ?_
theorem d1d(n:Nat)(hn:n≤256):PC Tryz.prog 159 [.int .u64 1,.int .u64 n] (fun r=>r= .tup [.int .u64 0,.int .u64 n]):=by
 refine Ql tOk Tryz.func159 rfl Tryz.results159 rfl (by simp[Tryz.ntmps159]) ?_;rw[Tryz.ntmps159];simp only[Qf];repeat first|(refine r_ ?_;simp)|refine q_ ?_
 refine Qa rfl (fun h=>by cases h) (fun _=> ?_);repeat first|(refine r_ ?_;simp)|refine q_ ?_
 refine Qe rfl rfl (by simp) (q1y n hn) rfl ?_;rintro _ rfl;simp;repeat first|(refine r_ ?_;simp)|refine q_ ?_
attribute [local simp] y2h
theorem Vb(x:Int)(n:Nat)(h0:0<n)(hn:n≤256):FR Tryz.prog 103 [LI [x],.i n] 3 1 (fun r=>r=(yB n x).map AV.i):=by
 have a5:=q0m n hn;have a6:IntKind.u64.wrap 1=1:=q0m 1 (by decide);have za:IntKind.i64.wrap (n:Int)=n:=wrap_i64 _ (by omega) (by omega);refine Bz tOk Tryz.func103 rfl Tryz.results103 rfl (by simp[Tryz.ntmps103]) ?_;rw[Tryz.ntmps103];simp only[Qf];repeat first|(refine r_ ?_;simp)|refine q_ ?_
 refine Qa rfl (fun h=>by simp at h;omega) (fun _=> ?_);repeat first|(refine r_ ?_;simp[a5,a6])|refine q_ ?_
 refine Qe rfl rfl (by simp) (d1d n hn) rfl ?_;rintro _ rfl;simp;repeat first|(refine r_ ?_;simp)|refine q_ ?_
 refine Qa rfl (fun h=>by simp at h;omega) (fun _=> ?_);repeat first|(refine r_ ?_;simp[za])|refine q_ ?_
 refine Wn tOk rfl rfl rfl T40 rfl T3 rfl rfl rfl (n:=n) (by simp;omega) (by unfold maxLen;omega) (.i 0) rfl ?_;simp;repeat first|(refine r_ ?_;simp)|refine q_ ?_
 have z1:uS n [AV.i x]=[AV.i x]:=zZ (by simp;omega);have z7:Nat.min 1 n=1:=Nat.min_eq_left h0;refine Js tOk rfl rfl T40 rfl T3 rfl (ys:=[.i x]) rfl rfl rfl (by simp) (by rw[z1];simp[AV.cells,AV.leaf]) rfl ?_;simp[z1,z7];repeat first|(refine r_ ?_;simp)|refine q_ ?_
 refine Qr (Qd (sl':=[(4,.nils),(7,.sl 0 1 0 n),(8,.i (1:Nat))]) ?_ (by simp));have z8:AV.i x::yB (n - 1) (AV.i 0)=yB 1 (AV.i x)++yB (n - 1) (AV.i 0):=rfl;rw[z8];refine Qq (P:=Tryz.prog) (F:=fun(c:Nat)=>⟨[(4,.nils),(7,.sl 0 1 0 n),(8,.i c)],[.arr 3 1 (yB c (AV.i x)++yB (n - c) (AV.i 0))]⟩)
  (fun c=>1≤c∧c≤n) (fun c=>n - c) ?_ 1 ⟨zV _,h0⟩
 clear z8 z1 z7;rintro c ⟨zb,zc⟩ ih;try simp only at ih ⊢
 repeat first|(refine r_ ?_;simp)|refine q_ ?_
 refine Qa rfl (fun zd=> ?_) (fun ze=> ?_)
 ·have z6:c<n:=by simpa using zd
  obtain⟨m,hm⟩:∃m,Nat.min c (n - c)=m:=⟨_,rfl⟩
  have zj:1≤m∧m≤c∧m≤n - c:=by rw[←hm];exact⟨Nat.le_min.2 ⟨zb,by omega⟩,Nat.min_le_left _ _,Nat.min_le_right _ _⟩
  have hw:IntKind.i64.wrap ((c:Int)+m)=c+m:=wrap_i64 _ (by omega) (by omega);repeat first|(refine r_ ?_;simp)|refine q_ ?_
  refine Qk tOk mixed [7] (.val 0 (.val 1 (.val 2 (.val 3 (.val 4 (.val 5 (.val 6 (.one 7 (.val 8 (.val 9 (.done))))))))))) rfl (by kernel_rfl) ?_;simp[z6,zc];refine Js (id:=0) (lo:=c) (len:=n - c) (ys:=yB c (.i x)) (e':=3) (xs:=yB c (AV.i x)++yB (n - c) (AV.i 0)) tOk rfl rfl T40 rfl T3 rfl rfl (by simp[A9]) rfl (by simp) ?_ rfl ?_
  ·intro y hy;have:=vU (List.mem_of_mem_take hy);subst this;simp[AV.cells,AV.leaf]
  simp;have zf:min (n - c) c=m:=by rw[Nat.min_comm];exact hm
  have zg:sr (c+m) (yB c (AV.i x)++yB (n - c) (AV.i 0))=yB (n - (c+m)) (AV.i 0):=by rw[List.drop_append];simp;omega
  have zh:=ih (c+m) ⟨by omega,by omega⟩ (by omega);rw[hm,zf,hw,zg];refine Qd (sl':=[(4,.nils),(7,.sl 0 1 0 n),(8,.i (c+m:Nat))]) zh ?_;simp
 ·have zi:c=n:=by simp at ze;omega
  subst zi;repeat first|(refine r_ ?_;simp)|refine q_ ?_
end Go.Abs
namespace Go.Abs
open Go Go.Proofs Go.Maps Go.RowKit
theorem k0s{α:Type}{a b:List α}{j:Nat}(h1:j<a.length)(h2:j<b.length)(h:a.take j=b.take j)(e:a[j]=b[j]):a.take (j+1)=b.take (j+1):=by rw[z_ h1,z_ h2,h,e]
theorem y01(a b:List Iv):PC Tryz.prog 163 [encL a,encL b] (fun r=>r= .bool (decide (a=b))):=by
 refine Ql tOk Tryz.func163 rfl Tryz.results163 rfl (by simp[Tryz.ntmps163]) ?_;rw[Tryz.ntmps163];simp only[Qf];refine Ub 0 rfl (fun hlen=> ?_);rw[yP]at hlen;repeat first|(refine r_ ?_;simp)|refine q_ ?_
 refine Qa rfl (fun h=> ?_) (fun h1=> ?_)
 ·repeat first|(refine r_ ?_;simp)|refine q_ ?_
  rintro rfl;simp at h
 have hl:a.length=b.length:=by simp at h1;omega
 repeat first|(refine r_ ?_;simp)|refine q_ ?_
 refine Qu a.length (fun j=>a.take j=b.take j) (fun j=>[(0,encL a),(1,encL b),(12,.i a.length),(13,.i j)]) (fun _=>[]) rfl (by simp) (by simp) (by simp) (by simp) (by simp) ?_;intro j hj hI ih;repeat first|(refine r_ ?_;simp)|refine q_ ?_
 refine Qa rfl (fun z8=> ?_) (fun za=> ?_)
 ·have z1:j<a.length:=by simpa using z8
  have z6:j<b.length:=by omega
  repeat first|(refine r_ ?_;simp)|refine q_ ?_
  refine Qk tOk mixed [] (.val 0 (.val 1 (.val 2 (.val 3 (.val 4 (.val 5 (.val 6 (.val 7 (.val 8 (.done)))))))))) rfl (by kernel_rfl) ?_;simp[z1,z6,y10];refine Qa rfl (fun h=> ?_) (fun h=> ?_)
  ·repeat first|(refine r_ ?_;simp)|refine q_ ?_
   rintro rfl;simp at h
  ·repeat first|(refine r_ ?_;simp)|refine q_ ?_
   have he:a[j]=b[j]:=by
    have h2:a[j].lo=b[j].lo∧a[j].hi=b[j].hi:=by simpa using h
    cases ha:a[j];cases hb:b[j];rw[ha,hb]at h2;simp only at h2;rw[h2.1,h2.2]
   refine Qs _ (ih z1 (k0s z1 z6 hI he)) rfl (by simp) ?_ (by simp) (by simp);simp;exact wrap_i64 _ (by omega) (by omega)
 ·have z7:j=a.length:=by simp at za;omega
  subst z7;repeat first|(refine r_ ?_;simp)|refine q_ ?_
  rw[zZ (zV _),zZ (by omega)]at hI;exact hI
theorem z05(a b:Prd):PC Tryz.prog 162 [.list (a.map encL),.list (b.map encL),.fn (.func 163) [] []] (fun r=>r= .bool (decide (a=b))):=by
 refine Ql tOk Tryz.func162 rfl Tryz.results162 rfl (by simp[Tryz.ntmps162]) ?_;rw[Tryz.ntmps162];simp only[Qf];refine Ub 0 rfl (fun hlen=> ?_);rw[yP]at hlen;repeat first|(refine r_ ?_;simp)|refine q_ ?_
 refine Qa rfl (fun h=> ?_) (fun h1=> ?_)
 ·repeat first|(refine r_ ?_;simp)|refine q_ ?_
  rintro rfl;simp at h
 have hl:a.length=b.length:=by simp at h1;omega
 repeat first|(refine r_ ?_;simp)|refine q_ ?_
 refine Qu a.length (fun j=>a.take j=b.take j) (fun j=>[(0,.list (a.map encL)),(1,.list (b.map encL)),(2,.fn (.func 163) [] []),(15,.list (a.map encL)),(16,.i a.length),(17,.i j)]) (fun _=>[]) rfl (by simp) (by simp) (by simp) (by simp) (by simp) ?_;intro j hj hI ih;repeat first|(refine r_ ?_;simp)|refine q_ ?_
 refine Qa rfl (fun z8=> ?_) (fun za=> ?_)
 ·have z1:j<a.length:=by simpa using z8
  have z6:j<b.length:=by omega
  have hw:IntKind.i64.wrap ((j:Int)+1)=j+1:=wrap_i64 _ (by omega) (by omega);repeat first|(refine r_ ?_;simp[z1,z6])|refine q_ ?_
  refine Qe rfl rfl (by simp) (y01 a[j] b[j]) rfl ?_;rintro _ rfl;simp;repeat first|(refine r_ ?_;simp)|refine q_ ?_
  refine Qa rfl (fun h=> ?_) (fun h=> ?_)
  ·repeat first|(refine r_ ?_;simp)|refine q_ ?_
   rintro rfl;simp at h
  ·have he:a[j]=b[j]:=by simpa using h
   repeat first|(refine r_ ?_;simp[hw])|refine q_ ?_
   refine Qs _ (ih z1 (k0s z1 z6 hI he)) rfl (by simp) ?_ (by simp) (by simp);simp
 ·have z7:j=a.length:=by simp at za;omega
  subst z7;repeat first|(refine r_ ?_;simp)|refine q_ ?_
  rw[zZ (zV _),zZ (by omega)]at hI;exact hI
theorem k02{a:Aut}(h:OkA a)(s:Int)(i:Nat):(Qw ((Q8 a s).map (·.on)) i).length≤1000000:=by
 have h1:((Q8 a s).map (·.on)).length≤2048:=by rw[yP];exact yY (xW _ _) h.mvs
 have h2:∀p∈(Q8 a s).map (·.on),PCk a.types.toNat p:=fun p hp=>by obtain⟨m,hm,rfl⟩:=zX.1 hp;exact(h.mv m (Wu.1 hm).1).on
 have:=Ui h2 i;omega
theorem c00(a:Aut)(s:Int):Uh a.types.toNat ((Q8 a s).map (·.on))=y0c a s:=rfl
theorem j1d{a:Aut}{k:Nat}(h:k<a.fin.length):(Rz a)[k]? =some (.list ((Q8 a k).map encMv))∧(Rz a).length=a.fin.length:=by unfold Rz T7;simp[h]
attribute [local irreducible] Q8 Rz y0c Qw Uh
theorem q0p(a:Aut)(ha:OkA a)(s:Int)(hs:inS a s):PC Tryz.prog 160 [Eh a,.i s] (fun r=>r=encP (y0c a s)):=by
 have zb:∀p∈(Q8 a s).map (·.on),PWf a.types.toNat p:=fun p hp=>by obtain⟨m,hm,rfl⟩:=zX.1 hp;exact ha.wfA.on m (Wu.1 hm).1
 have zc:=k02 ha s;have hlen:(Q8 a s).length≤2048:=yY (by unfold Q8;exact xW _ _) ha.mvs;have zd:=c00 a s;have hT:=ha.types;obtain⟨k,rfl⟩:∃k:Nat,s=k:=⟨s.toNat,by have:=hs.1;omega⟩
 have hk:k<a.fin.length:=by have:=hs.2;omega
 obtain⟨hm,ze⟩:=j1d hk;have zf:∀hh,(Rz a)[k]'hh= .list ((Q8 a k).map encMv):=fun hh=>(yJ hh).2 hm;refine Ql tOk Tryz.func160 rfl Tryz.results160 rfl (by simp[Tryz.ntmps160]) ?_;rw[Tryz.ntmps160];simp only[Qf];simp only[Eh,Q0,encP];generalize Q8 a k=ms at *
 repeat first|(refine r_ ?_;simp[hm,ze,hk,zf])|refine q_ ?_
 refine Qx (sl':=[(1,.i k),(2,.vptr 0 0),(4,.vptr 1 0),(5,.nils),(12,.list (ms.map encMv)),(13,.i ms.length),(14,.i (0:Nat))]) ?_ (by simp);refine Wg 5 76 1 rfl ?_;simp;have hz:((ms.take 0).map fun m=>encP m.on)=[]:=by simp
 refine Qr (Qd (sl':=[(1,.i k),(2,.vptr 0 0),(4,.vptr 1 0),(5,.sl 2 1 0 0),(12,.list (ms.map encMv)),(13,.i ms.length),(14,.i (0:Nat))]) ?_ (by simp));refine Qq (P:=Tryz.prog) (F:=fun(u:Nat×Nat×List AObj)=>⟨[(1,.i k),(2,.vptr 0 0),(4,.vptr 1 0),(5,.sl u.2.1 1 0 u.1),(12,.list (ms.map encMv)),(13,.i ms.length),(14,.i u.1)],u.2.2⟩)
  (fun u=>u.1≤ms.length∧u.2.2[0]? =some (.vars (Q0 a))∧u.2.2[1]? =some (.vars [.nils])∧u.2.2[u.2.1]? =some (.arr 76 1 ((ms.take u.1).map fun m=>encP m.on))∧1<u.2.1) (fun u=>ms.length - u.1) ?_ (0,2,_) ⟨wK _,rfl,rfl,rfl,tX 1⟩
 rintro⟨j,q,H⟩ ⟨hj,h0,h1,hq,zg⟩ ih;simp only[Q0]at hj h0 h1 hq zg ih ⊢;repeat first|(refine r_ ?_;simp)|refine q_ ?_
 refine Qa rfl (fun zh=> ?_) (fun zi=> ?_)
 ·have z1:j<ms.length:=by simpa using zh
  have hw:IntKind.i64.wrap ((j:Int)+1)=j+1:=wrap_i64 _ (by omega) (by omega);have zj:(ms.take (j+1)).map (fun m=>encP m.on)=(ms.take j).map (fun m=>encP m.on)++[encP ms[j].on]:=by rw[z_ z1,xF];rfl
  have z6:((ms.take j).map fun m=>encP m.on).length=j:=by simp;omega
  have z7:=fun q' H'=>ih (j+1,q',H');simp only[zj]at z7;have z8:(ms.map encMv)[j]? =some (encMv ms[j]):=by simp[z1]
  have za:∀hh,(ms.map encMv)[j]'hh=encMv ms[j]:=fun hh=>by simp
  generalize (ms.take j).map (fun m=>encP m.on)=xs at *
  generalize ms[j]=m at *;simp only[encMv]at z8 za
  repeat first|(refine r_ ?_;simp[z8,za,z1])|refine q_ ?_
  refine Qh tOk rfl rfl T91 rfl T76 rfl (by decide) (by decide) rfl rfl rfl ?_;simp[Qb hq,Qj hq,hq,z6];refine⟨by simp[Wp,Qb hq,Qj hq,hq,z6]<;>omega,?_⟩;repeat first|(refine r_ ?_;simp[hw])|refine q_ ?_
  refine Qd (sl':=[(1,.i k),(2,.vptr 0 0),(4,.vptr 1 0),(5,.sl (H.length+2) 1 0 (j+1)),(12,.list (ms.map encMv)),(13,.i ms.length),(14,.i (j+1:Nat))]) ?_ (by simp);refine z7 (H.length+2) _ ⟨by omega,Qb (Qc (by omega) h0 _) _,Qb (Qc (by omega) h1 _) _,?_,by omega⟩ (by omega);rw[zO (by simp)];simp
 ·have zk:j=ms.length:=by simp at zi;omega
  subst zk;rw[xD]at hq;have zl:(ms.map fun m=>encP m.on)=(ms.map (·.on)).map encP:=by rw[vC];rfl
  rw[zl]at hq;refine Wl q hq ?_;simp[AV.fz];rw[zZ (by simp)];have cU:=Cm a.types.toNat (ms.map (·.on)) (by omega) zb (fun i _=>zc i) (by simp;omega);rw[show((a.types.toNat:Nat):Int)=a.types by omega,zd]at cU;simp only[encP,LP,vC]at cU;have g0:=Qc (j:=q) (by omega) h0 .dead;have g1:=Qc (j:=q) (by omega) h1 .dead;generalize H.set q .dead=G at *
  have gA:∀y,(G.set 1 y)[1]? =some y:=fun y=>Qg g1 y;repeat first|(refine r_ ?_;simp[g0])|refine q_ ?_
  refine Qe rfl rfl (by simp) (cU) rfl ?_;rintro _ rfl;simp[g1,gA];repeat first|(refine r_ ?_;simp[g1,gA])|refine q_ ?_
theorem q14(a b:Aut)(ha:OkA a)(hb:OkA b)(p q:Int)(hp:inS a p)(hq:inS b q):PC Tryz.prog 104 [Eh a,Eh b,.i p,.i q] (fun r=>r= .bool (decide (y0c a p=y0c b q))):=by
 have c1:=q0p a ha p hp;have c2:=q0p b hb q hq;have c3:=z05 (y0c a p) (y0c b q);refine Ql tOk Tryz.func104 rfl Tryz.results104 rfl (by simp[Tryz.ntmps104]) ?_;rw[Tryz.ntmps104];simp only[Qf];simp only[Eh,Q0,encP]at c1 c2 ⊢;repeat first|(refine r_ ?_;simp)|refine q_ ?_
 refine Qk tOk mixed [] (.val 0 (.val 1 (.val 2 (.val 5 (.val 6 (.val 7 (.one 3 (.val 4 (.one 8 (.val 9 (.one 10 (.val 11 (.done))))))))))))) rfl (by kernel_rfl) ?_;simp;refine Qe rfl rfl (by simp) (c1) rfl ?_;rintro _ rfl;simp;refine Qe rfl rfl (by simp) (c2) rfl ?_;rintro _ rfl;simp;refine Qe rfl rfl (by simp) (c3) rfl ?_;rintro _ rfl;simp;repeat first|(refine r_ ?_;simp)|refine q_ ?_
end Go.Abs
namespace Go.Abs
open Go Go.Proofs Go.Maps Go.RowKit
attribute [local irreducible] f1e k05 d0v Q8 Rz
end Go.Abs
namespace Go.Abs
open Go Go.Proofs Go.Maps Go.RowKit
structure IzF (a b:Aut) (J K c6 q6 c7 q7:Nat) (to bk:List Int) (H:List AObj):Prop where
 h0:H[0]? =some (.vars [.i a.types,.list (a.fin.map .bool),.list (a.mv.map encMv)])
 h1:H[1]? =some (.vars [.i b.types,.list (b.fin.map .bool),.list (b.mv.map encMv)])
 h2:H[2]? =some (.vars [.nils])
 h3:H[3]? =some (.vars [.bool false])
 h4:H[4]? =some (.vars [.i 0])
 hJ:H[J]? =some (.vars [.i a.types,.list (a.fin.map .bool),.list (a.mv.map encMv),.list (Rz a)])
 hK:H[K]? =some (.vars [.i b.types,.list (b.fin.map .bool),.list (b.mv.map encMv),.list (Rz b)])
 hc6:H[c6]? =some (.vars [.sl q6 1 0 to.length])
 hc7:H[c7]? =some (.vars [.sl q7 1 0 bk.length])
 hq6:H[q6]? =some (.arr 3 1 (to.map AV.i))
 hq7:H[q7]? =some (.arr 3 1 (bk.map AV.i))
 bd:4<J∧4<K∧J<q6∧K<q6∧q6<c6∧c6<q7∧q7<c7
theorem IzF.keep{a b:Aut}{J K c6 q6 c7 q7:Nat}{to bk:List Int}{H X:List AObj}(h:IzF a b J K c6 q6 c7 q7 to bk H)(hk:∀i,i≤c7→∀x,H[i]? =some x→X[i]? =some x):IzF a b J K c6 q6 c7 q7 to bk X:=by have:=h.bd;exact⟨hk _ (by omega) _ h.h0,hk _ (by omega) _ h.h1,hk _ (by omega) _ h.h2,hk _ (by omega) _ h.h3,hk _ (by omega) _ h.h4,hk _ (by omega) _ h.hJ,hk _ (by omega) _ h.hK,hk _ (by omega) _ h.hc6,hk _ (by omega) _ h.hc7,hk _ (by omega) _ h.hq6,hk _ (by omega) _ h.hq7,h.bd⟩
theorem IzF.put{a b:Aut}{J K c6 q6 c7 q7:Nat}{to bk:List Int}{H:List AObj}(h:IzF a b J K c6 q6 c7 q7 to bk H){j:Nat}(hj:c7<j)(y:AObj):IzF a b J K c6 q6 c7 q7 to bk (H.set j y):=h.keep fun i hi x hx=>Qc (by omega) hx y
theorem IzF.app{a b:Aut}{J K c6 q6 c7 q7:Nat}{to bk:List Int}{H:List AObj}(h:IzF a b J K c6 q6 c7 q7 to bk H)(E:List AObj):IzF a b J K c6 q6 c7 q7 to bk (H++E):=h.keep fun i _ x hx=>Qb hx E
theorem IzF.upd{a b:Aut}{J K c6 q6 c7 q7:Nat}{to bk:List Int}{H:List AObj}(h:IzF a b J K c6 q6 c7 q7 to bk H)(to' bk':List Int)(h1:to'.length=to.length)(h2:bk'.length=bk.length):IzF a b J K c6 q6 c7 q7 to' bk' ((H.set q6 (.arr 3 1 (to'.map AV.i))).set q7 (.arr 3 1 (bk'.map AV.i))):=by
 have b:=h.bd;have f:∀ {i:Nat} {x:AObj},i≠q6→i≠q7→H[i]? =some x→((H.set q6 (.arr 3 1 (to'.map AV.i))).set q7 (.arr 3 1 (bk'.map AV.i)))[i]? =some x:=fun k1 k2 hx=>Qc (Ne.symm k2) (Qc (Ne.symm k1) hx _) _;refine⟨f (by omega) (by omega) h.h0,f (by omega) (by omega) h.h1,f (by omega) (by omega) h.h2,f (by omega) (by omega) h.h3,f (by omega) (by omega) h.h4,f (by omega) (by omega) h.hJ,f (by omega) (by omega) h.hK,?_,?_,?_,?_,h.bd⟩
 ·rw[h1];exact f (by omega) (by omega) h.hc6
 ·rw[h2];exact f (by omega) (by omega) h.hc7
 ·exact Qc (by omega) (Qg h.hq6 _) _
 ·exact Qg (Qc (by omega) h.hq7 _) _
def IzR(a b:Aut)(J K c6 q6 c7 q7 c8 n:Nat)(st:List Int×List Int)(H:List AObj):Prop:=
 ∃bk q8 off L xs,IzF a b J K c6 q6 c7 q7 st.1 bk H∧BkS b.fin.length st.1 bk∧QS xs off L st.2 n∧H[c8]? =some (.vars [.sl q8 1 off L])∧H[q8]? =some (.arr 3 1 (xs.map AV.i))∧c7<q8
theorem IzR.app{a b:Aut}{J K c6 q6 c7 q7 c8 n:Nat}{st:List Int×List Int}{H:List AObj}(h:IzR a b J K c6 q6 c7 q7 c8 n st H)(E:List AObj):IzR a b J K c6 q6 c7 q7 c8 n st (H++E):=by obtain⟨bk,q8,off,L,xs,g1,g2,g3,g4,g5,g6⟩:=h;exact⟨bk,q8,off,L,xs,g1.app E,g2,g3,Qb g4 E,Qb g5 E,g6⟩
theorem IzR.put{a b:Aut}{J K c6 q6 c7 q7 c8 n:Nat}{st:List Int×List Int}{H:List AObj}(h:IzR a b J K c6 q6 c7 q7 c8 n st H){l:Nat}(hl:c8<l)(h7:c7<c8){y0:AObj}(h0:H[l]? =some y0)(hy:∀e c xs,y0≠ .arr e c xs)(y:AObj):IzR a b J K c6 q6 c7 q7 c8 n st (H.set l y):=by obtain⟨bk,q8,off,L,xs,g1,g2,g3,g4,g5,g6⟩:=h;refine⟨bk,q8,off,L,xs,g1.put (by omega) y,g2,g3,Qc (by omega) g4 y,Qc (fun e=> ?_) g5 y,g6⟩;subst e;rw[h0]at g5;exact hy _ _ _ (Option.some.inj g5)
structure IzP (a b:Aut) (st0 st:List Int×List Int) (es:List (Int×Int)):Prop where
 eq:Wx es st0=some st
 inv:IsoI a b st
 same:∀u,inS a u→0≤fAt st0.1 u→fAt st.1 u=fAt st0.1 u
 pre:∃r,st.2=st0.2++r
theorem IzP.start{a b:Aut}{st:List Int×List Int}(h:IsoI a b st):IzP a b st st []:=⟨rfl,h,fun _ _ _=>rfl,[],by simp⟩
theorem IzP.len{a b:Aut}{st0 st:List Int×List Int}{es:List (Int×Int)}(h:IzP a b st0 st es):st0.2.length≤st.2.length:=by obtain⟨r,hr⟩:=h.pre;rw[hr,List.length_append];omega
theorem IzP.next{a b:Aut}(ha:OkA a)(hb:OkA b){st0 st:List Int×List Int}{es:List (Int×Int)}(h:IzP a b st0 st es)(h0:IsoI a b st0){p:Int}(hp:p∈st0.2){x:Sy}(hx:Eo a x){s t:Int}(hs:toL a p x=s)(ht:toL b (fAt st0.1 p) x=t)(s0:0≤s)(t0:0≤t):
  (Ej st (s,t)=none∧Wx (es++[(s,t)]) st0=none)∨∃st',Ej st (s,t)=some st'∧IzP a b st0 st' (es++[(s,t)]):=by
 obtain⟨r,hr⟩:=h.pre;have z1:=(h0.mem p).1 hp;have z7:p∈st.2:=by rw[hr];exact List.mem_append_left _ hp
 have hf:=h.same p z1.1 z1.2;rcases h.inv.one ha hb z7 hx hs (by rw[hf];exact ht) s0 t0 with⟨st',g1,g2,g3,⟨r2,g4⟩,g5⟩|⟨g1,_⟩
 ·refine .inr ⟨st',g1,⟨by rw[Uu,h.eq,wG,Gm,g1],g2,fun u hu z6=> ?_,r++r2,by rw[g4,hr,List.append_assoc]⟩⟩;have:=h.same u hu z6;rw[g3 u hu (by rw[this];exact z6),this]
 ·exact .inl ⟨g1,by rw[Uu,h.eq,wG,Gm,g1]⟩
def IzO(a b:Aut)(c8 n:Nat)(st0:List Int×List Int)(es:List (Int×Int))(H:List AObj):Prop:=∃st',IzP a b st0 st' es∧IzR a b 7 8 11 10 14 13 c8 n st' H
theorem V3(a b:Aut)(p q:Int):psP a b p q=(Wh a b (p,q)).map (·.2):=rfl
theorem Cj{es fs:List (Int×Int)}{st:List Int×List Int}(h:Wx es st=none):Wx (es++fs) st=none:=by rw[Uu,h];rfl
end Go.Abs
namespace Go.Abs
open Go Go.Proofs Go.Maps Go.RowKit
theorem u0z{a:Aut}(h:Wf a=0):d02 a=(Fb a,0):=if_pos h
attribute [local simp] T40 y2m T25
attribute [local irreducible] toL Wf Fb M1 Wx Ej fAt Wh Q8 Rz y0c psP
theorem v1q(a b:Aut):PC Tryz.prog 41 [encA a,encA b] (fun r=>r=c1c (isoF a b)):=by
 refine Ql tOk Tryz.func41 rfl Tryz.results41 rfl (by simp[Tryz.ntmps41]) ?_;rw[Tryz.ntmps41];simp only[Qf];simp only[encA];obtain⟨R,hR⟩:∃R,isoF a b=R:=⟨_,rfl⟩
 rw[hR];unfold isoF at hR;have yp:IntKind.i64.wrap 1=1:=by decide
 have xl:IntKind.i64.wrap 2=2:=by decide
 repeat first|(refine r_ ?_;simp)|refine q_ ?_
 refine Qx (sl':=[(2,.vptr 0 0),(3,.vptr 1 0),(4,.vptr 2 0),(5,.vptr 3 0),(6,.vptr 4 0),(24,.sl 5 3 0 2),(25,.i 2),(26,.i (0:Nat))]) ?_ (by simp);refine Qu 2 (fun j=>(1≤j→Wf a=0)∧(2≤j→Wf b=0)) (fun j=>[(2,.vptr 0 0),(3,.vptr 1 0),(4,.vptr 2 0),(5,.vptr 3 0),(6,.vptr 4 0),(24,.sl 5 3 0 2),(25,.i 2),(26,.i j)])
  (fun _=>[.vars (Wb a),.vars (Wb b),.vars [.nils],.vars [.bool false],.vars [.i 0],.arr 25 3 [encA a,encA b]]) rfl (by simp) (by simp) (by simp) (by simp) ⟨fun h=>by omega,fun h=>by omega⟩ ?_
 intro j hj hI ih;simp only[encA];repeat first|(refine r_ ?_;simp)|refine q_ ?_
 refine Qa rfl (fun y0=> ?_) (fun yc=> ?_)
 ·have x0:j<2:=by simp at y0;omega
  obtain rfl|rfl:j=0∨j=1:=by omega
  ·repeat first|(refine r_ ?_;simp)|refine q_ ?_
   refine Qe rfl rfl (by simp) (Yt a) rfl ?_;rintro _ rfl;simp;repeat first|(refine r_ ?_;simp)|refine q_ ?_
   refine Qa rfl (fun h=> ?_) (fun h=> ?_)
   ·rw[if_pos (by simpa using h)]at hR;rw[←hR];repeat first|(refine r_ ?_;simp)|refine q_ ?_
    rfl
   ·have h0:Wf a=0:=by simpa using h
    repeat first|(refine r_ ?_;simp)|refine q_ ?_
    refine Qs _ (ih (by omega) ⟨fun _=>h0,fun h=>by omega⟩) rfl (by simp) ?_ (by simp) (by simp);simp[yp]
  ·have y1:=hI.1 (by omega);repeat first|(refine r_ ?_;simp)|refine q_ ?_
   refine Qe rfl rfl (by simp) (Yt b) rfl ?_;rintro _ rfl;simp;repeat first|(refine r_ ?_;simp)|refine q_ ?_
   refine Qa rfl (fun h=> ?_) (fun h=> ?_)
   ·rw[if_neg (fun k=>k y1),if_pos (by simpa using h)]at hR;rw[←hR];repeat first|(refine r_ ?_;simp)|refine q_ ?_
    rfl
   ·have h0:Wf b=0:=by simpa using h
    repeat first|(refine r_ ?_;simp)|refine q_ ?_
    refine Qs _ (ih (by omega) ⟨fun _=>y1,fun _=>h0⟩) rfl (by simp) ?_ (by simp) (by simp);simp[yp,xl]
 have x1:j=2:=by simp at yc;omega
 subst x1;have y1:=hI.1 (by omega);have x2:=hI.2 (by omega);clear hI ih;rw[if_neg (fun k=>k y1),if_neg (fun k=>k x2)]at hR;repeat first|(refine r_ ?_;simp)|refine q_ ?_
 refine Qu 2 (fun j=>(1≤j→Fb a=true)∧(2≤j→Fb b=true)) (fun j=>[(2,.vptr 0 0),(3,.vptr 1 0),(4,.vptr 2 0),(5,.vptr 3 0),(6,.vptr 4 0),(38,.sl 6 3 0 2),(39,.i 2),(40,.i j)])
  (fun _=>[.vars (Wb a),.vars (Wb b),.vars [.nils],.vars [.bool false],.vars [.i 0],.arr 25 3 [encA a,encA b],.arr 25 3 [encA a,encA b]]) rfl (by simp) (by simp) (by simp) (by simp) ⟨fun h=>by omega,fun h=>by omega⟩ ?_
 intro j hj hI ih;simp only[encA];repeat first|(refine r_ ?_;simp)|refine q_ ?_
 refine Qa rfl (fun y0=> ?_) (fun yc=> ?_)
 ·have x0:j<2:=by simp at y0;omega
  obtain rfl|rfl:j=0∨j=1:=by omega
  ·repeat first|(refine r_ ?_;simp)|refine q_ ?_
   refine Qe rfl rfl (by simp) (x09 a) rfl ?_;rintro _ rfl;simp[u0z y1];repeat first|(refine r_ ?_;simp)|refine q_ ?_
   refine Qa rfl (fun h=> ?_) (fun h=> ?_)
   ·rw[if_pos (.inl (by simpa using h))]at hR;rw[←hR];repeat first|(refine r_ ?_;simp)|refine q_ ?_
    rfl
   ·have h0:Fb a=true:=by simpa using h
    repeat first|(refine r_ ?_;simp)|refine q_ ?_
    refine Qs _ (ih (by omega) ⟨fun _=>h0,fun h=>by omega⟩) rfl (by simp) ?_ (by simp) (by simp);simp[yp]
  ·have we:=hI.1 (by omega);repeat first|(refine r_ ?_;simp)|refine q_ ?_
   refine Qe rfl rfl (by simp) (x09 b) rfl ?_;rintro _ rfl;simp[u0z x2];repeat first|(refine r_ ?_;simp)|refine q_ ?_
   refine Qa rfl (fun h=> ?_) (fun h=> ?_)
   ·rw[if_pos (.inr (by simpa using h))]at hR;rw[←hR];repeat first|(refine r_ ?_;simp)|refine q_ ?_
    rfl
   ·have h0:Fb b=true:=by simpa using h
    repeat first|(refine r_ ?_;simp)|refine q_ ?_
    refine Qs _ (ih (by omega) ⟨fun _=>we,fun _=>h0⟩) rfl (by simp) ?_ (by simp) (by simp);simp[yp,xl]
 have x1:j=2:=by simp at yc;omega
 subst x1;have xm:=hI.1 (by omega);have xn:=hI.2 (by omega);clear hI ih;rw[if_neg (fun k=>by rw[xm,xn]at k;simp at k)]at hR;repeat first|(refine r_ ?_;simp)|refine q_ ?_
 refine Qa rfl (fun h=> ?_) (fun h=> ?_)
 ·rw[if_pos (by simpa using h)]at hR;rw[←hR];repeat first|(refine r_ ?_;simp)|refine q_ ?_
  rfl
 have xo:a.types=b.types:=by simpa using h
 rw[if_neg (fun k=>k xo)]at hR;have ht:b.types=a.types:=xo.symm;have ha:=(Yy a).1 y1;have hb:=(Yy b).1 x2;have vk:=ha.fin;have vl:=hb.fin;repeat first|(refine r_ ?_;simp)|refine q_ ?_
 refine Qx (sl':=[(2,.vptr 0 0),(3,.vptr 1 0),(4,.vptr 2 0),(5,.vptr 3 0),(6,.vptr 4 0)]) ?_ (by simp);have cA:=Rw a ha;have cB:=Rw b hb;simp only[Eh,Q0,encA]at cA cB;refine Xb tOk mixed [6,7] (.val 0 (.val 2 (.three 1 (.three 3 (.two 4 (.one 5 (.one 6 (.one 7 (.done)))) 5 (.one 4 (.one 6 (.one 7 (.done))))) 4 (.two 3 (.one 5 (.one 6 (.one 7 (.done)))) 5 (.one 3 (.one 6 (.one 7 (.done))))) 5 (.two 3 (.one 4 (.one 6 (.one 7 (.done)))) 4 (.one 3 (.one 6 (.one 7 (.done)))))) 4 (.two 1 (.two 3 (.one 5 (.one 6 (.one 7 (.done)))) 5 (.one 3 (.one 6 (.one 7 (.done))))) 5 (.one 1 (.one 3 (.one 6 (.one 7 (.done)))))) 5 (.two 1 (.two 3 (.one 4 (.one 6 (.one 7 (.done)))) 4 (.one 3 (.one 6 (.one 7 (.done))))) 4 (.one 1 (.one 3 (.one 6 (.one 7 (.done))))))))) (⟨[(2,.vptr 0 0),(3,.vptr 1 0),(4,.vptr 2 0),(5,.vptr 3 0),(6,.vptr 4 0),(14,.vptr 7 0),(15,.vptr 8 0)],[.vars [.i a.types,.list (a.fin.map .bool),.list (a.mv.map encMv)],.vars [.i b.types,.list (b.fin.map .bool),.list (b.mv.map encMv)],.vars [.nils],.vars [.bool false],.vars [.i 0],.arr 25 3 [.agg [.i a.types,.list (a.fin.map .bool),.list (a.mv.map encMv)],.agg [.i b.types,.list (b.fin.map .bool),.list (b.mv.map encMv)]],.arr 25 3 [.agg [.i a.types,.list (a.fin.map .bool),.list (a.mv.map encMv)],.agg [.i b.types,.list (b.fin.map .bool),.list (b.mv.map encMv)]],.vars [.i a.types,.list (a.fin.map .bool),.list (a.mv.map encMv),.list (Rz a)],.vars [.i b.types,.list (b.fin.map .bool),.list (b.mv.map encMv),.list (Rz b)]]⟩) rfl (by kernel_rfl) ?_ ?_;simp
 ·repeat' (first|refine And.intro ?_ ?_|(refine Qe rfl rfl (by simp) cA rfl ?_;rintro _ rfl;simp)|(refine Qe rfl rfl (by simp) cB rfl ?_;rintro _ rfl;simp))
  all_goals first|(refine Ko ?_;simp;done)|exact Cs [0,1,2,3,4,5,6,8,7] (by simp) (by decide) (by simp) rfl (by simp) (by simp) (by simp)
 repeat first|(refine r_ ?_;simp)|refine q_ ?_
 refine Ek 9 rfl ?_;simp;refine U8 rfl rfl (by simp) (Vb (-1) a.fin.length (by omega) (by omega)) rfl ?_;rintro _ rfl;simp;repeat first|(refine r_ ?_;simp)|refine q_ ?_
 refine Ek 12 rfl ?_;simp;refine U8 rfl rfl (by simp) (Vb (-1) b.fin.length (by omega) (by omega)) rfl ?_;rintro _ rfl;simp;repeat first|(refine r_ ?_;simp)|refine q_ ?_
 obtain⟨Rb,x3⟩:∃Rb,M1 (j1u a b) (psP a b) (a.fin.length+1) 0 (Lf a)=Rb:=⟨_,rfl⟩
 rw[x3]at hR;have x4:=Jr ha hb;have x5:=BkS.start (n:=a.fin.length) (m:=b.fin.length) (by omega) (by omega);have d1:=(A6 ha.wfA).1 xm;have d2:=(A6 hb.wfA).1 xn;have x6:=x1d ⟨ha,d1⟩ ⟨hb,d2⟩ ht;have xp:((Lf a).1.map AV.i)=(yB a.fin.length (AV.i (-1))).set 0 (.i 0):=by unfold Lf;simp[uc]
 have wg:(Lf a).2=[0]:=rfl;have xq:(Lf a).1=(yB a.fin.length (-1)).set 0 0:=rfl;have xr:((yB b.fin.length (-1:Int)).set 0 0).map AV.i=(yB b.fin.length (AV.i (-1))).set 0 (.i 0):=by simp[uc]
 rw[←xq]at x5;have yd:((yB b.fin.length (-1:Int)).set 0 0).length=b.fin.length:=by simp
 generalize (yB b.fin.length (-1:Int)).set 0 0=x7 at *
 have zd:=x4.len;have rA:(yB a.fin.length (AV.i (-1))).length=a.fin.length:=by simp
 have rB:(yB b.fin.length (AV.i (-1))).length=b.fin.length:=by simp
 have rA0:(yB a.fin.length (AV.i (-1)))[0]? =some (.i (-1)):=by rw[vZ,if_pos (by omega)]
 have rB0:(yB b.fin.length (AV.i (-1)))[0]? =some (.i (-1)):=by rw[vZ,if_pos (by omega)]
 have wh:0<a.fin.length:=by omega
 have wi:0<b.fin.length:=by omega
 generalize yB a.fin.length (AV.i (-1))=ra at *;generalize yB b.fin.length (AV.i (-1))=rb at *;refine Qx (sl':=[(2,.vptr 0 0),(3,.vptr 1 0),(4,.vptr 2 0),(5,.vptr 3 0),(6,.vptr 4 0),(14,.vptr 7 0),(15,.vptr 8 0),(16,.vptr 11 0),(17,.vptr 14 0)]) ?_ (by simp)
 refine Is (P:=Tryz.prog) tOk mixed [3,5] (.val 0 (.val 2 (.two 1 (.one 3 (.val 4 (.one 5 (.done)))) 3 (.val 1 (.val 4 (.one 5 (.done))))))) (fun S'=>IzF a b 7 8 11 10 14 13 (Lf a).1 x7 S'.hp∧S'.hp.length=15∧look S'.sl 2=some (.vptr 0 0)∧look S'.sl 3=some (.vptr 1 0)∧look S'.sl 4=some (.vptr 2 0)∧look S'.sl 5=some (.vptr 3 0)∧look S'.sl 6=some (.vptr 4 0)∧look S'.sl 14=some (.vptr 7 0)∧look S'.sl 15=some (.vptr 8 0)∧look S'.sl 16=some (.vptr 11 0)∧look S'.sl 17=some (.vptr 14 0)) rfl (by kernel_rfl) ?_ ?_
 ·have rAh:∀hh,ra[0]'hh= .i (-1):=fun hh=>(yJ hh).2 rA0;have rBh:∀hh,rb[0]'hh= .i (-1):=fun hh=>(yJ hh).2 rB0;simp[rA,rB,rA0,rB0,wh,wi,rAh,rBh];exact⟨rfl,rfl,rfl,rfl,rfl,rfl,rfl,by rw[zd];rfl,by rw[yd];rfl,by rw[xp];rfl,by rw[xr];rfl,by decide⟩
 rintro⟨sl,G⟩ ⟨zF,ye,l2,l3,l4,l5,l6,l14,l15,l16,l17⟩;simp only at zF ye l2 l3 l4 l5 l6 l14 l15 l16 l17;clear rA rB rA0 rB0 xp xr;clear ra rb;refine Qx (sl':=[(2,.vptr 0 0),(3,.vptr 1 0),(4,.vptr 2 0),(5,.vptr 3 0),(6,.vptr 4 0),(14,.vptr 7 0),(15,.vptr 8 0),(16,.vptr 11 0),(17,.vptr 14 0)]) ?_ (by simp[l2,l3,l4,l5,l6,l14,l15,l16,l17]);repeat first|(refine r_ ?_;simp)|refine q_ ?_
 refine Q9 fun Z hZ=> ?_;have zR:IzR a b 7 8 11 10 14 13 16 0 (Lf a) Z:=by
  rw[hZ];refine⟨x7,15,0,1,[0],zF.app _,x5,⟨rfl,rfl,zV _⟩,?_,?_,by decide⟩
  ·rw[zO (by omega)];simp[ye]
  ·rw[zO (by omega)];simp[ye]
 rw[ye];clear hZ zF ye l2 l3 l4 l5 l6 l14 l15 l16 l17;clear G sl;refine Qr (Qd (sl':=[(2,.vptr 0 0),(3,.vptr 1 0),(4,.vptr 2 0),(5,.vptr 3 0),(6,.vptr 4 0),(14,.vptr 7 0),(15,.vptr 8 0),(16,.vptr 11 0),(17,.vptr 14 0),(18,.vptr 16 0)]) ?_ (by simp));refine Qq (P:=Tryz.prog) (F:=fun(u:Nat×Nat×(List Int×List Int)×Nat×List AObj)=>⟨[(2,.vptr 0 0),(3,.vptr 1 0),(4,.vptr 2 0),(5,.vptr 3 0),(6,.vptr 4 0),(14,.vptr 7 0),(15,.vptr 8 0),(16,.vptr 11 0),(17,.vptr 14 0),(18,.vptr u.2.2.2.1 0)],u.2.2.2.2⟩)
  (fun u=>a.fin.length+1≤u.2.1+u.1∧u.2.1≤u.2.2.1.2.length∧IsoI a b u.2.2.1∧M1 (j1u a b) (psP a b) u.1 u.2.1 u.2.2.1=Rb∧IzR a b 7 8 11 10 14 13 u.2.2.2.1 u.2.1 u.2.2.1 u.2.2.2.2∧14<u.2.2.2.1) (fun u=>u.1) ?_ (a.fin.length+1,0,Lf a,16,Z) ⟨by simp,by simp,x4,x3,zR,(by omega:14<16)⟩
 clear x4 x3 zR x5 yd wg xq zd;clear Z x7;rintro⟨f,n,st,c8,H⟩ ⟨wj,xt,hI,hB,⟨bk,q8,off,L,xs,zF,zB,zQ,z8,yq,wk⟩,wm⟩ ih;simp only at wj xt hI hB zF zB zQ z8 yq wm ih ⊢;have hL:=zQ.pos xt;have vm:=hI.len2;repeat first|(refine r_ ?_;simp[z8])|refine q_ ?_
 refine Qa rfl (fun y0=> ?_) (fun yc=> ?_)
 ·have hn:n<st.2.length:=by simp at y0;omega
  obtain⟨f,rfl⟩:∃g,f=g+1:=⟨f - 1,by omega⟩
  have wo:=fun n' st' c' G h=>ih (f,n',st',c',G) h (tX _);clear ih;have hx:=zQ.head hn;rw[g0f hn]at hB;have x8:=(hI.mem _).1 (zT hn);have yf:=hI.rng _ x8.1 x8.2;have x9:st.2[n]∈st.2:=zT hn;generalize st.2[n]=p at *
  obtain⟨yg,wu⟩:=x8;obtain⟨q,hq⟩:∃q,fAt st.1 p=q:=⟨_,rfl⟩
  rw[hq]at hB yf wu;obtain⟨pn,rfl⟩:∃k:Nat,p=k:=⟨p.toNat,by have:=yg.1;omega⟩
  obtain⟨qn,rfl⟩:∃k:Nat,q=k:=⟨q.toNat,by omega⟩
  have yr:pn<a.fin.length:=by have:=yg.2;omega
  have xa:qn<b.fin.length:=by have:=yf.2;omega
  have xb:(xs.map AV.i)[off]? =some (.i pn):=by simp[hx]
  have xu:∀hh,(xs.map AV.i)[off]'hh= .i pn:=fun hh=>(yJ hh).2 xb;have xv:=hI.len;have xc:(st.1.map AV.i)[pn]? =some (.i qn):=by have:=Lj (f:=st.1) (s:=(pn:Int)) (by omega) (by simp;omega);rw[hq]at this;simpa using this
  have yh:∀hh,(st.1.map AV.i)[pn]'hh= .i qn:=fun hh=>(yJ hh).2 xc;have wv:(st.1.map AV.i).length=a.fin.length:=by simp[xv]
  have wy:=zQ.len;have xw:(xs.map AV.i).length=xs.length:=by simp
  have xx:0<L:=by omega
  have z6:=zF.hc6;have xy:=zF.hq6;rw[xv]at z6;repeat first|(refine r_ ?_;simp)|refine q_ ?_
  refine Qk tOk mixed [] (.val 0 (.val 1 (.val 2 (.val 3 (.val 4 (.val 5 (.val 6 (.val 7 (.val 8 (.val 9 (.val 10 (.done)))))))))))) rfl (by kernel_rfl) ?_;simp[z8,yq,xb,xu,xx,xw,z6,xy,xc,yh,yr,wv];have xz:f1p a b pn qn=(a.fin[pn]==b.fin[qn]):=by unfold f1p;simp[yV,yr,xa]
  unfold j1u at hB;rw[xz]at hB;have z0:=zF.h0;have z1:=zF.h1;have zJ:=zF.hJ;have zK:=zF.hK;have y2:=zF.h2;have y3:=zF.h3;have y4:=zF.h4;by_cases he:a.fin[pn]=b.fin[qn]
  ·have zb:(a.fin[pn]==b.fin[qn])=true:=by simp[he]
   rw[zb,Bool.true_and]at hB;have cS:=q14 a b ha hb pn qn yg yf;simp only[Eh,Q0]at cS;repeat first|(refine r_ ?_;simp)|refine q_ ?_
   refine Qk tOk mixed [] (.val 0 (.val 1 (.val 2 (.val 3 (.val 4 (.val 5 (.val 6 (.val 7 (.val 8 (.val 9 (.val 10 (.val 11 (.val 12 (.val 13 (.val 14 (.val 15 (.one 16 (.val 17 (.val 18 (.done)))))))))))))))))))) rfl (by kernel_rfl) ?_;simp[z0,z1,zJ,zK,yr,xa,zb];refine Qe rfl rfl (by simp) (cS) rfl ?_;rintro _ rfl;simp;refine Qa rfl (fun h=> ?_) (fun h=> ?_)
   ·rw[if_neg (by simpa using h)]at hB;rw[←hB]at hR;rw[←hR];have k3:∀y,(H.set 2 y)[3]? =some (.vars [.bool false]):=fun y=>Qc (by decide) y3 y;have k4:∀y z,((H.set 2 y).set 3 z)[4]? =some (.vars [.i 0]):=fun y z=>Qc (by decide) (Qc (by decide) y4 y) z;have kA:∀x y z,(((H.set 2 x).set 3 y).set 4 z)[2]? =some x:=fun x y z=>Qc (by decide) (Qc (by decide) (Qg y2 x) y) z;have kB:∀x y z,(((H.set 2 x).set 3 y).set 4 z)[3]? =some y:=fun x y z=>Qc (by decide) (Qg (k3 x) y) z;have kC:∀x y z,(((H.set 2 x).set 3 y).set 4 z)[4]? =some z:=fun x y z=>Qg (k4 x y) z;repeat first|(refine r_ ?_;simp[y2,k3,k4,kA,kB,kC])|refine q_ ?_
    rfl
   rw[if_pos (by simpa using h)]at hB;clear zb he xz cS xb xu xc yh;repeat first|(refine r_ ?_;simp[zJ,zK])|refine q_ ?_
   refine Qe rfl rfl (by simp) (Kz a b pn qn) rfl ?_;rintro _ rfl;simp;repeat first|(refine r_ ?_;simp)|refine q_ ?_
   refine Qx (sl':=[(2,.vptr 0 0),(3,.vptr 1 0),(4,.vptr 2 0),(5,.vptr 3 0),(6,.vptr 4 0),(14,.vptr 7 0),(15,.vptr 8 0),(16,.vptr 11 0),(17,.vptr 14 0),(18,.vptr c8 0),(117,.fn (.func 164) [] [.iptr (Q0 a),.iptr [.i pn],.iptr (Q0 b),.iptr [.i qn]])]) ?_ (by simp[Q0]);refine E6 rfl (Rf:=fun _ H'=>∃pend sl' yi a' b',H'[H.length]? =some (.lp pend.isNone pend 160 sl' yi a' b')∧
    ((pend=none∧IzO a b c8 n st (psP a b pn qn) H')∨(pend=some .ret∧Wx (psP a b pn qn) st=none∧H'[2]? =some (.vars [.nils])∧H'[3]? =some (.vars [.bool false])∧H'[4]? =some (.vars [.i 0])))) ?_ ?_
   ·simp;refine Jy fun H1 xd=> ?_;have fR:IzR a b 7 8 11 10 14 13 c8 n st H1:=by rw[xd];exact IzR.app ⟨bk,q8,off,L,xs,zF,zB,zQ,z8,yq,wk⟩ _
    have fl:=congrArg (fun h:List AObj=>h[H.length]?) xd;simp at fl;have y5:c8<H.length:=Qi z8;clear xd z0 z1 zJ zK y2 y3 y4 z8 yq zF zB zQ z6 xy xw wy hL xx hx y0 hB;generalize H.length=l at *;refine FC.mono (G4 a b ha hb ht pn qn yg yf l (by rfl) (by rfl)
     (fun pre H'=>H'[l]? =H1[l]? ∧IzO a b c8 n st (pre.map (·.2)) H')
     (fun c H'=>c= .ret∧(∃sl' yi a' b',H'[l]? =some (.lp false (some .ret) 160 sl' yi a' b'))∧Wx (psP a b pn qn) st=none∧H'[2]? =some (.vars [.nils])∧H'[3]? =some (.vars [.bool false])∧H'[4]? =some (.vars [.i 0])) H1
     (fun k H' h=>h.1.trans fl) ?_ ?_ ⟨rfl,st,IzP.start hI,fR⟩) ?_
    ·rintro k H' X ⟨h2,st',h3,h4⟩;exact⟨by rw[←h2,List.getElem?_append_left (by rw[fl]at h2;exact Qi h2)],st',h3,h4.app X⟩
    ·rintro pre ⟨x,s,t⟩ post H' hst ⟨h1,st',hP,zc,q9,z7,L',ys,gF,gB,gQ,g8,zj,xe⟩ hlen;simp[Ty];have w0:(x,s,t)∈Wh a b ((pn:Int),(qn:Int)):=by rw[hst];simp
     obtain⟨w1,w5⟩:=Dy ha hb w0;simp only at w1 w5;obtain⟨y,hy,v7,v8,s0,t0⟩:=x6.from_ pn qn yg yf (s,t) (by rw[V3];exact zX.2 ⟨_,w0,rfl⟩);have y9:=hP.next ha hb hI x9 hy v7 (by rw[hq];exact v8) s0 t0;have vb:(pre++[(x,s,t)]).map (·.2)=pre.map (·.2)++[(s,t)]:=by simp
     have zn:Wx (pre.map (·.2)++[(s,t)]) st=none→Wx (psP a b pn qn) st=none:=fun h=>by
      have e:psP a b pn qn=(pre.map (·.2)++[(s,t)])++post.map (·.2):=by rw[V3,hst];simp
      rw[e];exact Cj h
     have zz:=Qg (h1.trans fl) .dead;have vn:=Qi fl;have zk:q9≠l:=fun e=>by rw[e,h1.trans fl]at zj;simp at zj
     have yj:q9≠c8:=fun e=>by rw[e,g8]at zj;simp at zj
     have gF:=gF.put (j:=l) (by omega) .dead;have g8:=Qc (j:=l) (by omega) g8 .dead;have zj:=Qc (j:=l) (Ne.symm zk) zj .dead;have w7:∀i cs,H1.length≤i→H'[i]? =some (.vars cs)→(H'.set l .dead)[i]? =some (.vars cs):=fun i cs hi hc=>by rw[zH (by omega)];exact hc
     have w9:(H'.set l .dead).length=H'.length:=by simp
     rw[←w9];generalize H'.set l .dead=Z at *;simp only[y1o]
     obtain⟨sn,rfl⟩:∃k:Nat,s=k:=⟨s.toNat,by omega⟩
     obtain⟨tn,rfl⟩:∃k:Nat,t=k:=⟨t.toNat,by omega⟩
     have zd:sn<a.fin.length:=by have:=w1.2;omega
     have zl:tn<b.fin.length:=by have:=w5.2;omega
     have ze:=hP.inv.len;have wa:=gB.len;have zp:=gB.iff tn (by omega) (by omega);have yk:=fun h=>gB.set (s:=(sn:Int)) (t:=(tn:Int)) (by omega) (by simp;omega) h (by omega) (by omega);obtain⟨v,hv⟩:∃v,fAt st'.1 sn=v:=⟨_,rfl⟩
     obtain⟨w,hw⟩:∃w,fAt zc tn=w:=⟨_,rfl⟩
     rw[hv]at yk;rw[hw]at zp;have vo:((sn:Int),(tn:Int))=((sn:Int),(tn:Int)):=rfl;have zq:(st'.1.map AV.i)[sn]? =some (.i v):=by have:=Lj (f:=st'.1) (s:=(sn:Int)) (by omega) (by simp;omega);rw[hv]at this;simpa using this
     have zf:∀hh,(st'.1.map AV.i)[sn]'hh= .i v:=fun hh=>(yJ hh).2 zq;have yl:(zc.map AV.i)[tn]? =some (.i w):=by have:=Lj (f:=zc) (s:=(tn:Int)) (by omega) (by simp;omega);rw[hw]at this;simpa using this
     have zm:∀hh,(zc.map AV.i)[tn]'hh= .i w:=fun hh=>(yJ hh).2 yl;have zr:(st'.1.map AV.i).length=a.fin.length:=by simp[ze]
     have yt:(zc.map AV.i).length=b.fin.length:=by simp[wa]
     refine Uq tOk rfl ?_;simp;refine Q9 fun Y hY=> ?_;have yF:IzF a b 7 8 11 10 14 13 st'.1 zc Y:=by rw[hY];exact gF.app _
     have y8:Y[c8]? =some (.vars [.sl q9 1 z7 L']):=by rw[hY];exact Qb g8 _
     have xf:Y[q9]? =some (.arr 3 1 (ys.map AV.i)):=by rw[hY];exact Qb zj _
     have yx:Y[Z.length]? =some (.vars [.i x.ty,.i x.num,.i sn,.i tn]):=by rw[hY,zO (by simp)];simp
     have yz:Y[l]? =some .dead:=by rw[hY];exact Qb zz _
     have vc:Y.length=Z.length+1:=by rw[hY];simp
     have xg:∀i cs,H1.length≤i→H'[i]? =some (.vars cs)→Y[i]? =some (.vars cs):=fun i cs hi hc=>by rw[hY];exact Qb (w7 i cs hi hc) _
     have vp:l<Z.length:=Qi zz;clear hY gF g8 zj zz w7 w9;generalize Z.length=X at *;clear Z
     have y6:=yF.hc6;have y7:=yF.hc7;have zt:=yF.hq6;have ya:=yF.hq7;rw[ze]at y6;rw[wa]at y7;by_cases yu:v<0
     ·have yv:decide (v<0)=true:=by simpa using yu
      by_cases hw0:w<0
      ·have xh:decide (w<0)=true:=by simpa using hw0
       repeat first|(refine r_ ?_;simp[y6,y7,zt,ya,yx,zq,zf,yl,zm,zr,yt,zd,zl,yv,xh])|refine q_ ?_
       refine Qa rfl (fun _=> ?_) (fun h=>by simp at h);repeat first|(refine r_ ?_;simp)|refine q_ ?_
       have k7:∀y,(Y.set 10 y)[14]? =some (.vars [.sl 13 1 0 b.fin.length]):=fun y=>Qc (by decide) y7 y;have wb:∀y,(Y.set 10 y)[13]? =some (.arr 3 1 (zc.map AV.i)):=fun y=>Qc (by decide) ya y;have kx:∀y,(Y.set 10 y)[X]? =some (.vars [.i x.ty,.i x.num,.i sn,.i tn]):=fun y=>Qc (by omega) yx y;refine Is (P:=Tryz.prog) tOk mixed [11,13] (.val 0 (.val 1 (.val 2 (.val 4 (.val 6 (.val 7 (.val 8 (.val 10 (.four 3 (.three 5 (.two 9 (.one 11 (.val 12 (.one 13 (.done)))) 11 (.val 9 (.val 12 (.one 13 (.done))))) 9 (.two 5 (.one 11 (.val 12 (.one 13 (.done)))) 11 (.val 5 (.val 12 (.one 13 (.done))))) 11 (.val 5 (.val 9 (.val 12 (.one 13 (.done)))))) 5 (.three 3 (.two 9 (.one 11 (.val 12 (.one 13 (.done)))) 11 (.val 9 (.val 12 (.one 13 (.done))))) 9 (.two 3 (.one 11 (.val 12 (.one 13 (.done)))) 11 (.val 3 (.val 12 (.one 13 (.done))))) 11 (.val 3 (.val 9 (.val 12 (.one 13 (.done)))))) 9 (.three 3 (.two 5 (.one 11 (.val 12 (.one 13 (.done)))) 11 (.val 5 (.val 12 (.one 13 (.done))))) 5 (.two 3 (.one 11 (.val 12 (.one 13 (.done)))) 11 (.val 3 (.val 12 (.one 13 (.done))))) 11 (.val 3 (.val 5 (.val 12 (.one 13 (.done)))))) 11 (.val 3 (.val 5 (.val 9 (.val 12 (.one 13 (.done))))))))))))))) (fun S'=>S'.hp=(Y.set 10 (.arr 3 1 ((st'.1.map AV.i).set sn (.i tn)))).set 13 (.arr 3 1 ((zc.map AV.i).set tn (.i sn)))∧look S'.sl 4=some (.vptr 2 0)∧look S'.sl 5=some (.vptr 3 0)∧look S'.sl 6=some (.vptr 4 0)∧look S'.sl 16=some (.vptr 11 0)∧look S'.sl 18=some (.vptr c8 0)∧look S'.sl 21=some (.vptr X 0)) rfl (by kernel_rfl) ?_ ?_
       ·simp[y6,y7,zt,ya,yx,zq,zf,yl,zm,zr,yt,zd,zl,k7,wb,kx]
       rintro⟨vq,E⟩ ⟨hE,m4,m5,m6,m16,m18,m21⟩;simp only at hE m4 m5 m6 m16 m18 m21;have zu:(st'.1.map AV.i).set sn (.i tn)=(st'.1.set sn tn).map AV.i:=by simp[uc]
       have ym:(zc.map AV.i).set tn (.i sn)=(zc.set tn sn).map AV.i:=by simp[uc]
       rw[zu,ym]at hE;have eF:=yF.upd (st'.1.set sn tn) (zc.set tn sn) (by simp) (by simp);rw[←hE]at eF;have e8:E[c8]? =some (.vars [.sl q9 1 z7 L']):=by rw[hE];exact Qc (by omega) (Qc (by omega) y8 _) _
       have zg:E[q9]? =some (.arr 3 1 (ys.map AV.i)):=by rw[hE];exact Qc (by omega) (Qc (by omega) xf _) _
       have ex:E[X]? =some (.vars [.i x.ty,.i x.num,.i sn,.i tn]):=by rw[hE];exact Qc (by omega) (Qc (by omega) yx _) _
       have ez:E[l]? =some .dead:=by rw[hE];exact Qc (by omega) (Qc (by omega) yz _) _
       have yb:∀i cs,H1.length≤i→H'[i]? =some (.vars cs)→E[i]? =some (.vars cs):=fun i cs hi hc=>by rw[hE];exact Qc (by omega) (Qc (by omega) (xg i cs hi hc) _) _
       have vr:E.length=X+1:=by rw[hE];simp[vc]
       have gB2:=yk yu;simp only[tO]at gB2;have za:Ej st' ((sn:Int),(tn:Int))=some (st'.1.set sn tn,st'.2++[(sn:Int)]):=by have:=c08 (st:=st') (e:=((sn:Int),(tn:Int))) (by simp only;omega) (by simp only;rw[hv];exact yu) (fun k=>by have:=zp.2 k;omega);simpa using this
       have vd:=hP.len;have xi:=hP.inv.len2;have ve:=gQ.pos (by omega);have vt:=gQ.len;have vu:=gQ.le;have wc:(ys.map AV.i).length=ys.length:=by simp
       have vv:q9<E.length:=Qi zg;have zv:q9≠X:=fun e=>by rw[e,ex]at zg;simp at zg
       have zh:((st'.1.set sn tn).map AV.i)[sn]? =some (.i tn):=by rw[←zu,zU (by rw[zr];exact zd)]
       have yw:((st'.1.set sn tn).map AV.i).length=a.fin.length:=by simp[ze]
       obtain⟨T1,yy⟩:∃T1,(st'.1.set sn tn).map AV.i=T1:=⟨_,rfl⟩
       rw[yy]at zh yw;have zi:∀hh,T1[sn]'hh= .i tn:=fun hh=>(yJ hh).2 zh;clear hE k7 wb kx yF y8 xf yx yz xg y6 y7 zt ya zu ym;refine Qx (sl':=[(4,.vptr 2 0),(5,.vptr 3 0),(6,.vptr 4 0),(16,.vptr 11 0),(18,.vptr c8 0),(21,.vptr X 0)]) ?_ (by simp[m4,m5,m6,m16,m18,m21]);by_cases ho:z7=0
       ·subst ho;obtain rfl:L'=ys.length:=by omega
        have e8c:∀M,(E.set q9 .dead++M)[c8]? =some (.vars [.sl q9 1 0 ys.length]):=fun M=>Qb (Qc yj e8 _) M;have e8d:∀M hh,(E.set q9 .dead++M)[c8]'hh= .vars [.sl q9 1 0 ys.length]:=fun M hh=>(yJ hh).2 (e8c M);repeat first|(refine r_ ?_;simp[e8,ex])|refine q_ ?_
        refine Qh tOk rfl rfl T40 rfl T3 rfl (by decide) (by decide) rfl rfl rfl ?_;simp[Qb zg,Qj zg,zg,wc,e8c,e8d];refine⟨by simp[Wp,Qb zg,Qj zg,zg,wc,e8c,e8d]<;>omega,?_⟩;refine Q9 fun W hW=> ?_;have f:∀ {i:Nat} {z:AObj},i≠q9→i≠c8→E[i]? =some z→W[i]? =some z:=fun h1 h2 hz=>by rw[hW];exact Qc (Ne.symm h2) (Qb (Qc (Ne.symm h1) hz _) _) _
        have wF:=eF.keep (X:=W) fun i hi z hz=>f (by omega) (by omega) hz;have w8:W[c8]? =some (.vars [.sl (E.length+1) 1 0 (ys.length+1)]):=by rw[hW];exact Qg (e8c _) _
        have wq:W[(E.length+1)]? =some (.arr 3 1 ((ys++[(sn:Int)]).map AV.i)):=by rw[hW];(rw[zH (by omega),zO (by simp)];simp)
        have wx:=f (Ne.symm zv) (by omega) ex;have wz:=f (Ne.symm zk) (by omega) ez;have yn:∀i cs,H1.length≤i→H'[i]? =some (.vars cs)→W[i]? =some (.vars cs):=fun i cs hi hc=>f (fun e=>by have:=yb i cs hi hc;rw[e,zg]at this;simp at this) (by omega) (yb i cs hi hc);have wQ7:14<(E.length+1):=by omega
        have w6:=wF.hc6;have zo:=wF.hq6;rw[wB,ze]at w6;rw[yy]at zo;clear hW f;repeat first|(refine r_ ?_;simp)|refine q_ ?_
        refine Qk tOk mixed [] (.val 0 (.val 1 (.val 2 (.val 3 (.val 4 (.val 5 (.val 6 (.val 7 (.done))))))))) rfl (by kernel_rfl) ?_;simp[w6,zo,wx,zh,zi,yw,zd];refine Qa rfl (fun h=>by simp at h) (fun _=> ?_);repeat first|(refine r_ ?_;simp)|refine q_ ?_
        rcases y9 with⟨zb,_⟩|⟨st2,e2,zw⟩
        ·rw[za]at zb;cases zb
        rw[za]at e2;obtain rfl:=Option.some.inj e2;have zx:IzR a b 7 8 11 10 14 13 c8 n (st'.1.set sn tn,st'.2++[(sn:Int)]) W:=⟨zc.set tn sn,(E.length+1),0,ys.length+1,ys++[(sn:Int)],wF,gB2,gQ.add (by omega) _,w8,wq,wQ7⟩
        refine⟨wz,.inl ⟨rfl,⟨(Qg wz _).trans fl.symm,?_⟩,fun i cs hi hc=>by rw[zH (by omega)];exact yn i cs hi hc⟩⟩;exact⟨_,zw,zx.put y5 (by omega) wz (by simp) _⟩
       ·repeat first|(refine r_ ?_;simp[e8,ex])|refine q_ ?_
        have e8c:∀y M,((E++M).set q9 y)[c8]? =some (.vars [.sl q9 1 z7 L']):=fun y M=>Qc yj (Qb e8 M) y;have e8d:∀y M hh,((E++M).set q9 y)[c8]'hh= .vars [.sl q9 1 z7 L']:=fun y M hh=>(yJ hh).2 (e8c y M);have e8e:∀y M M2,((E++M).set q9 y++M2)[c8]? =some (.vars [.sl q9 1 z7 L']):=fun y M M2=>Qb (e8c y M) M2;have e8f:∀y M M2 hh,((E++M).set q9 y++M2)[c8]'hh= .vars [.sl q9 1 z7 L']:=fun y M M2 hh=>(yJ hh).2 (e8e y M M2);refine Le tOk rfl rfl T40 rfl T3 (by decide) (by decide) rfl rfl (Qb zg _) (by omega) (by simp;omega) (by simp) (ys:=[.i sn]) (by simp) (by simp[AV.cells,AV.leaf]) (by simp;omega) (by simp;omega) rfl ?_ ?_
        ·simp[e8c,e8d];refine Q9 fun W hW=> ?_;have f:∀ {i:Nat} {z:AObj},i≠q9→i≠c8→E[i]? =some z→W[i]? =some z:=fun h1 h2 hz=>by rw[hW];exact Qc (Ne.symm h2) (Qc (Ne.symm h1) (Qb hz _) _) _
         have wF:=eF.keep (X:=W) fun i hi z hz=>f (by omega) (by omega) hz;have w8:W[c8]? =some (.vars [.sl q9 1 z7 (L'+1)]):=by rw[hW];exact Qg (e8c _ _) _
         have wq:W[q9]? =some (.arr 3 1 ((ys++[(sn:Int)]).map AV.i)):=by rw[hW];(rw[zH (by omega),zU (by simp;omega)];simp)
         have wx:=f (Ne.symm zv) (by omega) ex;have wz:=f (Ne.symm zk) (by omega) ez;have yn:∀i cs,H1.length≤i→H'[i]? =some (.vars cs)→W[i]? =some (.vars cs):=fun i cs hi hc=>f (fun e=>by have:=yb i cs hi hc;rw[e,zg]at this;simp at this) (by omega) (yb i cs hi hc);have wQ7:14<q9:=by omega
         have w6:=wF.hc6;have zo:=wF.hq6;rw[wB,ze]at w6;rw[yy]at zo;clear hW f;repeat first|(refine r_ ?_;simp)|refine q_ ?_
         refine Qk tOk mixed [] (.val 0 (.val 1 (.val 2 (.val 3 (.val 4 (.val 5 (.val 6 (.val 7 (.done))))))))) rfl (by kernel_rfl) ?_;simp[w6,zo,wx,zh,zi,yw,zd];refine Qa rfl (fun h=>by simp at h) (fun _=> ?_);repeat first|(refine r_ ?_;simp)|refine q_ ?_
         rcases y9 with⟨zb,_⟩|⟨st2,e2,zw⟩
         ·rw[za]at zb;cases zb
         rw[za]at e2;obtain rfl:=Option.some.inj e2;have zx:IzR a b 7 8 11 10 14 13 c8 n (st'.1.set sn tn,st'.2++[(sn:Int)]) W:=⟨zc.set tn sn,q9,z7,L'+1,ys++[(sn:Int)],wF,gB2,gQ.add (by omega) _,w8,wq,wQ7⟩
         refine⟨wz,.inl ⟨rfl,⟨(Qg wz _).trans fl.symm,?_⟩,fun i cs hi hc=>by rw[zH (by omega)];exact yn i cs hi hc⟩⟩;exact⟨_,zw,zx.put y5 (by omega) wz (by simp) _⟩
        ·simp[e8e,e8f];refine Q9 fun W hW=> ?_;have f:∀ {i:Nat} {z:AObj},i≠q9→i≠c8→E[i]? =some z→W[i]? =some z:=fun h1 h2 hz=>by rw[hW];exact Qc (Ne.symm h2) (Qb (Qc (Ne.symm h1) (Qb hz _) _) _) _
         have wF:=eF.keep (X:=W) fun i hi z hz=>f (by omega) (by omega) hz;have w8:W[c8]? =some (.vars [.sl (E.length+1) 1 0 (L'+1)]):=by rw[hW];exact Qg (e8e _ _ _) _
         have wq:W[(E.length+1)]? =some (.arr 3 1 ((ys.drop z7++[(sn:Int)]).map AV.i)):=by rw[hW];(rw[zH (by omega),zO (by simp)];simp)
         have wx:=f (Ne.symm zv) (by omega) ex;have wz:=f (Ne.symm zk) (by omega) ez;have yn:∀i cs,H1.length≤i→H'[i]? =some (.vars cs)→W[i]? =some (.vars cs):=fun i cs hi hc=>f (fun e=>by have:=yb i cs hi hc;rw[e,zg]at this;simp at this) (by omega) (yb i cs hi hc);have wQ7:14<(E.length+1):=by omega
         have w6:=wF.hc6;have zo:=wF.hq6;rw[wB,ze]at w6;rw[yy]at zo;clear hW f;repeat first|(refine r_ ?_;simp)|refine q_ ?_
         refine Qk tOk mixed [] (.val 0 (.val 1 (.val 2 (.val 3 (.val 4 (.val 5 (.val 6 (.val 7 (.done))))))))) rfl (by kernel_rfl) ?_;simp[w6,zo,wx,zh,zi,yw,zd];refine Qa rfl (fun h=>by simp at h) (fun _=> ?_);repeat first|(refine r_ ?_;simp)|refine q_ ?_
         rcases y9 with⟨zb,_⟩|⟨st2,e2,zw⟩
         ·rw[za]at zb;cases zb
         rw[za]at e2;obtain rfl:=Option.some.inj e2;have zx:IzR a b 7 8 11 10 14 13 c8 n (st'.1.set sn tn,st'.2++[(sn:Int)]) W:=⟨zc.set tn sn,(E.length+1),0,L'+1,ys.drop z7++[(sn:Int)],wF,gB2,gQ.cut (by omega) _,w8,wq,wQ7⟩
         refine⟨wz,.inl ⟨rfl,⟨(Qg wz _).trans fl.symm,?_⟩,fun i cs hi hc=>by rw[zH (by omega)];exact yn i cs hi hc⟩⟩;exact⟨_,zw,zx.put y5 (by omega) wz (by simp) _⟩
      ·have xh:decide (w<0)=false:=by simpa using hw0
       have zy:Ej st' ((sn:Int),(tn:Int))=none:=w0a (by simp only;rw[hv];omega) (fun k=>k.2 (zp.1 (by omega)));repeat first|(refine r_ ?_;simp[y6,y7,zt,ya,yx,zq,zf,yl,zm,zr,yt,zd,zl,yv,xh])|refine q_ ?_
       refine Qa rfl (fun h=>by simp at h) (fun _=> ?_);repeat first|(refine r_ ?_;simp)|refine q_ ?_
       refine Qk tOk mixed [] (.val 0 (.val 1 (.val 2 (.val 3 (.val 4 (.val 5 (.val 6 (.val 7 (.done))))))))) rfl (by kernel_rfl) ?_;simp[y6,zt,yx,zq,zf,zr,zd];refine Qa rfl (fun _=> ?_) (fun h=>by simp at h;omega);have xj:=zn (y9.elim (fun h=>h.2) (fun⟨_,e2,_⟩=>by rw[zy]at e2;cases e2));have v2:=yF.h2;have v3:=yF.h3;have v4:=yF.h4;have k3:∀y,(Y.set 2 y)[3]? =some (.vars [.bool false]):=fun y=>Qc (by decide) v3 y;have k4:∀y z,((Y.set 2 y).set 3 z)[4]? =some (.vars [.i 0]):=fun y z=>Qc (by decide) (Qc (by decide) v4 y) z;have kA:∀x y z,(((Y.set 2 x).set 3 y).set 4 z)[2]? =some x:=fun x y z=>Qc (by decide) (Qc (by decide) (Qg v2 x) y) z;have kB:∀x y z,(((Y.set 2 x).set 3 y).set 4 z)[3]? =some y:=fun x y z=>Qc (by decide) (Qg (k3 x) y) z;have kC:∀x y z,(((Y.set 2 x).set 3 y).set 4 z)[4]? =some z:=fun x y z=>Qg (k4 x y) z;repeat first|(refine r_ ?_;simp[v2,k3,k4,kA,kB,kC])|refine q_ ?_
       have yo:∀x y z,(((Y.set 2 x).set 3 y).set 4 z)[l]? =some .dead:=fun x y z=>Qc (by omega) (Qc (by omega) (Qc (by omega) yz x) y) z;exact⟨yo _ _ _,.inr ⟨_,rfl,rfl,⟨_,_,_,_,Qg (yo _ _ _) _⟩,xj,Qc (by omega) (kA _ _ _) _,Qc (by omega) (kB _ _ _) _,Qc (by omega) (kC _ _ _) _⟩⟩
     ·have yv:decide (v<0)=false:=by simpa using yu
      repeat first|(refine r_ ?_;simp[y6,y7,zt,ya,yx,zq,zf,yl,zm,zr,yt,zd,zl,yv])|refine q_ ?_
      refine Qa rfl (fun h=>by simp at h) (fun _=> ?_);repeat first|(refine r_ ?_;simp)|refine q_ ?_
      refine Qk tOk mixed [] (.val 0 (.val 1 (.val 2 (.val 3 (.val 4 (.val 5 (.val 6 (.val 7 (.done))))))))) rfl (by kernel_rfl) ?_;simp[y6,zt,yx,zq,zf,zr,zd];refine Qa rfl (fun h=> ?_) (fun h=> ?_)
      ·have vf:v≠tn:=by simpa using h
       have zy:Ej st' ((sn:Int),(tn:Int))=none:=w0a (by simp only;rw[hv];exact vf) (fun k=>by have:=k.1;simp only at this;omega);have xj:=zn (y9.elim (fun h=>h.2) (fun⟨_,e2,_⟩=>by rw[zy]at e2;cases e2));have v2:=yF.h2;have v3:=yF.h3;have v4:=yF.h4;have k3:∀y,(Y.set 2 y)[3]? =some (.vars [.bool false]):=fun y=>Qc (by decide) v3 y;have k4:∀y z,((Y.set 2 y).set 3 z)[4]? =some (.vars [.i 0]):=fun y z=>Qc (by decide) (Qc (by decide) v4 y) z;have kA:∀x y z,(((Y.set 2 x).set 3 y).set 4 z)[2]? =some x:=fun x y z=>Qc (by decide) (Qc (by decide) (Qg v2 x) y) z;have kB:∀x y z,(((Y.set 2 x).set 3 y).set 4 z)[3]? =some y:=fun x y z=>Qc (by decide) (Qg (k3 x) y) z;have kC:∀x y z,(((Y.set 2 x).set 3 y).set 4 z)[4]? =some z:=fun x y z=>Qg (k4 x y) z;repeat first|(refine r_ ?_;simp[v2,k3,k4,kA,kB,kC])|refine q_ ?_
       have yo:∀x y z,(((Y.set 2 x).set 3 y).set 4 z)[l]? =some .dead:=fun x y z=>Qc (by omega) (Qc (by omega) (Qc (by omega) yz x) y) z;exact⟨yo _ _ _,.inr ⟨_,rfl,rfl,⟨_,_,_,_,Qg (yo _ _ _) _⟩,xj,Qc (by omega) (kA _ _ _) _,Qc (by omega) (kB _ _ _) _,Qc (by omega) (kC _ _ _) _⟩⟩
      ·have heq:v=tn:=by simpa using h
       have za:Ej st' ((sn:Int),(tn:Int))=some st':=u05 (by simp only;rw[hv];exact heq);repeat first|(refine r_ ?_;simp)|refine q_ ?_
       rcases y9 with⟨zb,_⟩|⟨st2,e2,zw⟩
       ·rw[za]at zb;cases zb
       rw[za]at e2;obtain rfl:=Option.some.inj e2;have zx:IzR a b 7 8 11 10 14 13 c8 n st' Y:=⟨zc,q9,z7,L',ys,yF,gB,gQ,y8,xf,xe⟩
       refine⟨yz,.inl ⟨rfl,⟨(Qg yz _).trans fl.symm,?_⟩,fun i cs hi hc=>by rw[zH (by omega)];exact xg i cs hi hc⟩⟩;exact⟨_,zw,zx.put y5 (by omega) yz (by simp) _⟩
    ·rintro r H' (⟨h1,hO⟩|⟨c,rfl,⟨sl',yi,a',b',h1⟩,h2,h3⟩)
     ·exact⟨none,⟨_,_,_,_,h1.trans fl⟩,.inl ⟨rfl,by rw[V3];exact hO⟩⟩
     ·exact⟨some .ret,⟨_,_,_,_,h1⟩,.inr ⟨rfl,h2,h3⟩⟩
   ·rintro r H' ⟨pend,sl',yi,a',b',h1,h⟩;refine⟨_,pend,_,_,_,_,_,by simpa using h1,?_⟩;rcases h with⟨rfl,st',hP,vg⟩|⟨rfl,vh,w2,w3,w4⟩
    ·simp;have y5:c8<H.length:=Qi z8;obtain⟨zc,q9,z7,L',ys,gF,gB,gQ,g8,zj,xe⟩:=vg.put y5 (by omega) h1 (by simp) .dead;generalize H'.set H.length .dead=K at *
     have vd:=hP.len;have xi:=hP.inv.len2;have ve:=gQ.pos (by omega);have vi:(1:Int)≤L':=by omega
     have vw:L' - 1=L' - 1:=rfl;rw[hP.eq,wG]at hB;have g8A:=fun E=>Qb g8 E;repeat first|(refine r_ ?_;simp[g8A,g8,vi])|refine q_ ?_
     refine Qd (sl':=[(2,.vptr 0 0),(3,.vptr 1 0),(4,.vptr 2 0),(5,.vptr 3 0),(6,.vptr 4 0),(14,.vptr 7 0),(15,.vptr 8 0),(16,.vptr 11 0),(17,.vptr 14 0),(18,.vptr K.length 0)]) ?_ (by simp);have vx:=Qi g8;exact wo (n+1) st' K.length _ ⟨by simp only;omega,by simp only;omega,hP.inv,hB,⟨zc,q9,z7+1,L' - 1,ys,gF.app _,gB,gQ.tail (by omega),by rw[zO (by simp)];simp,Qb zj _,xe⟩,by simp only;omega⟩
    ·rw[vh]at hB;rw[←hB]at hR;rw[←hR];simp;have u2:(H'.set H.length .dead)[2]? =some (.vars [.nils]):=Qc (by have:=Qi z8;omega) w2 _;have u3:(H'.set H.length .dead)[3]? =some (.vars [.bool false]):=Qc (by have:=Qi z8;omega) w3 _;have u4:(H'.set H.length .dead)[4]? =some (.vars [.i 0]):=Qc (by have:=Qi z8;omega) w4 _;generalize H'.set H.length .dead=K at *
     repeat first|(refine r_ ?_;simp[u2,u3,u4])|refine q_ ?_
     rfl
  ·have zb:(a.fin[pn]==b.fin[qn])=false:=by simpa using he
   rw[zb,Bool.false_and,if_neg (by simp)]at hB;rw[←hB]at hR;rw[←hR];repeat first|(refine r_ ?_;simp)|refine q_ ?_
   refine Qk tOk mixed [] (.val 0 (.val 1 (.val 2 (.val 3 (.val 4 (.val 5 (.val 6 (.val 7 (.val 8 (.val 9 (.val 10 (.val 11 (.val 12 (.val 13 (.val 14 (.val 15 (.one 16 (.val 17 (.val 18 (.done)))))))))))))))))))) rfl (by kernel_rfl) ?_;simp[z0,z1,zJ,zK,yr,xa,zb];refine Q6 rfl rfl ?_;simp;refine Qa rfl (fun _=> ?_) (fun h=>by simp at h);have k3:∀y,(H.set 2 y)[3]? =some (.vars [.bool false]):=fun y=>Qc (by decide) y3 y;have k4:∀y z,((H.set 2 y).set 3 z)[4]? =some (.vars [.i 0]):=fun y z=>Qc (by decide) (Qc (by decide) y4 y) z;have kA:∀x y z,(((H.set 2 x).set 3 y).set 4 z)[2]? =some x:=fun x y z=>Qc (by decide) (Qc (by decide) (Qg y2 x) y) z;have kB:∀x y z,(((H.set 2 x).set 3 y).set 4 z)[3]? =some y:=fun x y z=>Qc (by decide) (Qg (k3 x) y) z;have kC:∀x y z,(((H.set 2 x).set 3 y).set 4 z)[4]? =some z:=fun x y z=>Qg (k4 x y) z;repeat first|(refine r_ ?_;simp[y2,k3,k4,kA,kB,kC])|refine q_ ?_
   rfl
 ·have xk:st.2.length≤n:=by simp at yc;omega
  rw[x03 xk]at hB;rw[←hB]at hR;rw[←hR];have z6:=zF.hc6;have vy:(st.1.map AV.i).length=st.1.length:=by simp
  have vj:uS st.1.length (st.1.map AV.i)=st.1.map AV.i:=zZ (by simp);have y2:=zF.h2;have y3:=zF.h3;have y4:=zF.h4;have kq:∀x y z,(((H.set 2 x).set 3 y).set 4 z)[10]? =some (.arr 3 1 (st.1.map AV.i)):=fun x y z=>Qc (by decide) (Qc (by decide) (Qc (by decide) zF.hq6 x) y) z;have k3:∀y,(H.set 2 y)[3]? =some (.vars [.bool false]):=fun y=>Qc (by decide) y3 y;have k4:∀y z,((H.set 2 y).set 3 z)[4]? =some (.vars [.i 0]):=fun y z=>Qc (by decide) (Qc (by decide) y4 y) z;have kA:∀x y z,(((H.set 2 x).set 3 y).set 4 z)[2]? =some x:=fun x y z=>Qc (by decide) (Qc (by decide) (Qg y2 x) y) z;have kB:∀x y z,(((H.set 2 x).set 3 y).set 4 z)[3]? =some y:=fun x y z=>Qc (by decide) (Qg (k3 x) y) z;have kC:∀x y z,(((H.set 2 x).set 3 y).set 4 z)[4]? =some z:=fun x y z=>Qg (k4 x y) z;repeat first|(refine r_ ?_;simp[y2,k3,k4,kA,kB,kC,z6,kq,vj])|refine q_ ?_
  rfl
end Go.Abs
namespace Go.Abs
def tnM(t:Int→Int)(m:Mv):Mv:=⟨t m.src,t m.dst,m.on⟩
structure Tn (a b:Aut) (t:Int→Int):Prop where
 ok:OkA a
 types:b.types=a.types
 len:b.fin.length=a.fin.length
 zero:t 0=0
 rg:∀s,inS a s→inS a (t s)
 inj:∀s u,inS a s→inS a u→t s=t u→s=u
 fin:∀s,inS a s→b.fin.getD (t s).toNat false=a.fin.getD s.toNat false
 mv:b.mv=(a.mv.map (tnM t)).reverse
section
variable {a b:Aut} {t:Int→Int} (h:Tn a b t)
include h
theorem Tn.mem{k:Mv}:k∈b.mv↔∃m∈a.mv,tnM t m=k:=by rw[h.mv,ui,zX]
theorem Tn.okB:OkA b:=by have ho:=h.ok;refine⟨by rw[h.types];exact ho.types,by rw[h.len];exact ho.fin,by rw[h.mv];simpa using ho.mvs,fun k hk=> ?_⟩;obtain⟨m,hm,rfl⟩:=h.mem.1 hk;have z1:=ho.mv m hm;exact⟨by rw[h.len];exact h.rg _ z1.src,by rw[h.len];exact h.rg _ z1.dst,by rw[h.types];exact z1.on⟩
def Gd(a:Aut)(l:List Int):Prop:=l.Pairwise (·<·)∧∀s∈l,inS a s
omit h in
def Ih(t:Int→Int)(n:Nat)(l:List Int):List Int:=(E3 n).filter fun j=>l.any fun s=>t s==j
theorem Tn.mem_img{l:List Int}(hl:∀s∈l,inS a s){j:Int}:j∈Ih t a.fin.length l↔∃s∈l,t s=j:=by
 unfold Ih;rw[List.mem_filter,Ep,wO];constructor
 ·rintro⟨_,s,hs,e⟩;exact⟨s,hs,by simpa using e⟩
 ·rintro⟨s,hs,e⟩;have:=h.rg s (hl s hs);rw[e]at this;exact⟨this,s,hs,by simpa using e⟩
theorem Tn.mem_of{l:List Int}(hl:∀s∈l,inS a s){s:Int}(hs:inS a s):t s∈Ih t a.fin.length l↔s∈l:=by rw[h.mem_img hl];exact⟨fun⟨u,hu,e⟩=>by rw[←h.inj u s (hl u hu) hs e];exact hu,fun k=>⟨s,k,rfl⟩⟩
theorem Tn.img_inj{l l':List Int}(g:Gd a l)(g':Gd a l')(e:Ih t a.fin.length l=Ih t a.fin.length l'):l=l':=by
 refine Rm g.1 g'.1 fun z=>⟨fun hz=> ?_,fun hz=> ?_⟩
 ·rw[←h.mem_of g'.2 (g.2 z hz),←e];exact(h.mem_of g.2 (g.2 z hz)).2 hz
 ·rw[←h.mem_of g.2 (g'.2 z hz),e];exact(h.mem_of g'.2 (g'.2 z hz)).2 hz
theorem Tn.img_nil{l:List Int}(g:Gd a l):Ih t a.fin.length l=[]↔l=[]:=by
 constructor
 ·intro e;cases l with
  |nil=>rfl
  |cons s l=>have:=(h.mem_of g.2 (g.2 s (by simp))).2 (by simp:s∈s::l);rw[e]at this;cases this
 ·rintro rfl;unfold Ih;simp
theorem Tn.img_zero:Ih t a.fin.length [0]=[0]:=by
 have hz:inS a 0:=⟨xB _,by have:=h.ok.fin;omega⟩
 refine Rm ((Il _).filter _) (by simp) fun z=> ?_;rw[h.mem_img (l:=[0]) (fun s hs=>by rw[zW.1 hs];exact hz)];simp[h.zero,eq_comm]
omit h in
theorem Ni(a:Aut)(l:List Int)(x:Sy):Gd a (Wa a l x):=⟨Ya a l x,U7⟩
theorem Tn.next{l:List Int}(hl:∀s∈l,inS a s)(x:Sy):Wa b (Ih t a.fin.length l) x=Ih t a.fin.length (Wa a l x):=by
 refine Rm (Ya ..) ((Il _).filter _) fun z=> ?_;rw[W9,h.mem_img U7,h.len];constructor
 ·rintro⟨_,k,hk,h1,h2,rfl⟩;obtain⟨m,hm,rfl⟩:=h.mem.1 hk;have z1:=h.ok.mv m hm;exact⟨m.dst,W9.2 ⟨z1.dst,m,hm,(h.mem_of hl z1.src).1 h1,h2,rfl⟩,rfl⟩
 ·rintro⟨s,hs,rfl⟩;obtain⟨h0,m,hm,h1,h2,rfl⟩:=W9.1 hs;have z1:=h.ok.mv m hm;exact⟨h.rg _ h0,tnM t m,h.mem.2 ⟨m,hm,rfl⟩,(h.mem_of hl z1.src).2 h1,h2,rfl⟩
theorem Tn.addS{Q:List (List Int)}(hQ:∀l∈Q,Gd a l){x:List Int}(hx:Gd a x):addS (Q.map (Ih t a.fin.length)) (Ih t a.fin.length x)=(addS Q x).map (Ih t a.fin.length)∧∀l∈Go.Abs.addS Q x,Gd a l:=by
 have hm:Ih t a.fin.length x∈Q.map (Ih t a.fin.length)↔x∈Q:=by rw[zX];exact⟨fun⟨y,hy,e⟩=>by rw[←h.img_inj (hQ y hy) hx e];exact hy,fun k=>⟨x,k,rfl⟩⟩
 unfold Go.Abs.addS;by_cases hc:x=[]∨x∈Q
 ·rw[if_pos hc,if_pos (hc.imp (h.img_nil hx).2 hm.2)];exact⟨rfl,hQ⟩
 ·rw[if_neg hc,if_neg (fun k=>hc (k.imp (h.img_nil hx).1 hm.1))];refine⟨by simp,fun l hl=> ?_⟩;rcases yE.1 hl with hl|hl
  ·exact hQ l hl
  ·rw[zW.1 hl];exact hx
theorem Tn.roundS:∀(xs:List (List Int)) {Q:List (List Int)},(∀l∈Q,Gd a l)→(∀l∈xs,Gd a l)→roundS (Q.map (Ih t a.fin.length)) (xs.map (Ih t a.fin.length))=(roundS Q xs).map (Ih t a.fin.length)∧∀l∈Go.Abs.roundS Q xs,Gd a l
 |[],Q,hQ,_=>⟨rfl,hQ⟩
 |x::xs,Q,hQ,hx=>by obtain⟨h1,h2⟩:=h.addS hQ (hx x (by simp));have:=Tn.roundS xs h2 (fun l hl=>hx l (by simp[hl]));refine⟨?_,this.2⟩;show Go.Abs.roundS (Go.Abs.addS (Q.map _) (Ih t a.fin.length x)) (xs.map _)=_;rw[h1];exact this.1
theorem Tn.succS(cl:List Prd){l:List Int}(hl:∀s∈l,inS a s):succS b cl (Ih t a.fin.length l)=(succS a cl l).map (Ih t a.fin.length):=by unfold Go.Abs.succS;rw[vC];exact xP fun c _=>h.next hl _
theorem Tn.bfs(cl:List Prd):∀(f i:Nat) (Q:List (List Int)),(∀l∈Q,Gd a l)→Zx b cl f i (Q.map (Ih t a.fin.length))=(Zx a cl f i Q).map fun R=>R.map (Ih t a.fin.length)
 |0,_,_,_=>rfl
 |f+1,i,Q,hQ=>by
  unfold Zx;rw[yI];cases hq:Q[i]? with
  |none=>rfl
  |some l=>
   have hl:=hQ l (List.mem_of_getElem? hq);have hs:∀y∈Go.Abs.succS a cl l,Gd a y:=fun y hy=>by obtain⟨c,_,rfl⟩:=zX.1 hy;exact Ni ..
   obtain⟨h1,h2⟩:=h.roundS (Go.Abs.succS a cl l) hQ hs;simp only[wU];rw[h.succS cl hl.2,h1,yP];split
   ·rfl
   ·exact Tn.bfs cl f (i+1) _ h2
theorem Tn.subs(cl:List Prd):Az b cl=(Az a cl).map fun R=>R.map (Ih t a.fin.length):=by
 have hz:inS a 0:=⟨xB _,by have:=h.ok.fin;omega⟩
 have:=h.bfs cl 257 0 [[0]] fun l hl=>by rw[zW.1 hl];exact⟨by simp,fun s hs=>by rw[zW.1 hs];exact hz⟩
 rw[xI,h.img_zero]at this;exact this
omit h in
theorem x1g(cl:List Prd):∀(f i:Nat) (Q R:List (List Int)),Zx a cl f i Q=some R→(∀l∈Q,Gd a l)→∀l∈R,Gd a l
 |0,_,_,_,e,_=>by cases e
 |f+1,i,Q,R,e,hQ=>by
  unfold Zx at e;cases hq:Q[i]? with
  |none=>rw[hq]at e;simp only[Option.some.injEq]at e;subst e;exact hQ
  |some l=>
   rw[hq]at e;simp only at e;split at e
   ·cases e
   ·refine x1g cl f (i+1) _ R e fun y hy=> ?_;obtain⟨X,hX,z1⟩:=Yi (Go.Abs.succS a cl l) Q;rw[hX]at hy;rcases yE.1 hy with hy|hy
    ·exact hQ y hy
    ·obtain⟨c,_,rfl⟩:=zX.1 (z1 y hy).1;exact Ni ..
theorem Tn.finB{l:List Int}(hl:∀s∈l,inS a s):finB b (Ih t a.fin.length l)=finB a l:=by
 unfold Go.Abs.finB;rw[Bool.eq_iff_iff,wO,wO];constructor
 ·rintro⟨j,hj,e⟩;obtain⟨s,hs,rfl⟩:=(h.mem_img hl).1 hj;exact⟨s,hs,by rw[h.fin s (hl s hs)]at e;exact e⟩
 ·rintro⟨s,hs,e⟩;exact⟨t s,(h.mem_img hl).2 ⟨s,hs,rfl⟩,by rw[h.fin s (hl s hs)];exact e⟩
theorem Tn.idx{Q:List (List Int)}(hQ:∀l∈Q,Gd a l){x:List Int}(hx:Gd a x):Bm (Q.map (Ih t a.fin.length)) (Ih t a.fin.length x)=Bm Q x:=by
 unfold Bm;induction Q with
 |nil=>rfl
 |cons y Q ih=>
  have z1:=ih fun l hl=>hQ l (by simp[hl]);rw[xI,tA,tA,z1];have:(Ih t a.fin.length y=Ih t a.fin.length x)↔y=x:=⟨h.img_inj (hQ y (by simp)) hx,fun e=>by rw[e]⟩
  rw[decide_eq_decide.2 this]
theorem Tn.detA(cl:List Prd){Q:List (List Int)}(hQ:∀l∈Q,Gd a l):detA b cl (Q.map (Ih t a.fin.length))=detA a cl Q:=by
 unfold Go.Abs.detA;have e1:(Q.map (Ih t a.fin.length)).map (Go.Abs.finB b)=Q.map (Go.Abs.finB a):=by rw[vC];exact xP fun l hl=>h.finB (hQ l hl).2
 have e2:Hr b cl (Q.map (Ih t a.fin.length))=Hr a cl Q:=by
  unfold Hr;rw[yP];have:∀n∈yW Q.length,Gj b cl (Q.map (Ih t a.fin.length)) n ((Q.map (Ih t a.fin.length)).getD n [])=Gj a cl Q n (Q.getD n []):=fun n hn=>by
   have z1:=xH.1 hn;have g1:(Q.map (Ih t a.fin.length)).getD n []=Ih t a.fin.length Q[n]:=by simp[yV,z1]
   have g2:Q.getD n []=Q[n]:=by simp[yV,z1]
   have hg:=hQ _ (zT z1);rw[g1,g2];unfold Gj
   congr 1
   funext g c;rw[h.next hg.2,h.idx hQ (Ni ..)]
  unfold List.flatMap;rw[xP this]
 rw[e1,e2,h.types]
theorem Tn.cls{T:Nat}(hT:0<T)(hl:∀p∈onA a,PCk T p):Q5 T (onA b)=Q5 T (onA a):=by
 have e:onA b=(onA a).reverse:=by unfold onA;rw[h.mv,List.map_reverse,vC];rfl
 have hl':∀p∈onA b,PCk T p:=fun p hp=>hl p (by rw[e]at hp;exact ui.1 hp);obtain⟨a1,a2⟩:=Rt hT hl;obtain⟨b1,b2⟩:=Rt hT hl';refine Prts.unique (T:=T) (l:=onA a) ⟨b1.wf,b1.ne,b1.all,fun p hp t n hm t' n'=> ?_⟩ a1 b2 a2;rw[b1.cls p hp t n hm t' n'];have:v1u (onA b) t n t' n'↔v1u (onA a) t n t' n':=⟨fun k p hp=>k p (by rw[e];exact ui.2 hp),fun k p hp=>k p (by rw[e]at hp;exact ui.1 hp)⟩
 rw[this]
theorem Tn.sub:(Yz b).1=(Yz a).1∧(Yz b).2.1=(Yz a).2.1∧(Yz b).2.2=(Yz a).2.2.map (Ih t a.fin.length)∧∀l∈(Yz a).2.2,Gd a l:=by
 have hb:=h.okB;have ha:=h.ok;have z6:∀p∈onA a,PCk a.types.toNat p:=Jt ha;have z1:∀p∈onA b,PCk a.types.toNat p:=by rw[←h.types];exact Jt hb
 have hT:0<a.types.toNat:=by have:=ha.types;omega
 have hlen:(onA b).length=(onA a).length:=by unfold onA;rw[h.mv];simp
 have hm:Ee b.types (onA b)=Ee a.types (onA a):=by unfold Ee;have c1:T8 a.types (onA a)=0:=(Yk _).2 fun p hp=>(W6 _ p).2 ⟨ha.types,z6 p hp⟩;have c2:T8 a.types (onA b)=0:=(Yk _).2 fun p hp=>(W6 _ p).2 ⟨ha.types,z1 p hp⟩;rw[h.types,hlen,c1,c2,Oy hT z6,Oy hT z1,h.cls hT z6]
 have ea:Yz a=if(Ee a.types (onA a)).1≠0 then((Ee a.types (onA a)).1,[],[])else match Az a (Ee a.types (onA a)).2 with|none=>(5,[],[])|some Q=>(0,(Ee a.types (onA a)).2,Q):=by unfold Yz;rw[if_neg (fun k=>k ((Yy a).2 ha))];rfl
 have eb:Yz b=if(Ee a.types (onA a)).1≠0 then((Ee a.types (onA a)).1,[],[])else match Az b (Ee a.types (onA a)).2 with|none=>(5,[],[])|some Q=>(0,(Ee a.types (onA a)).2,Q):=by unfold Yz;rw[if_neg (fun k=>k ((Yy b).2 hb)),hm];rfl
 rw[ea,eb];by_cases h1:(Ee a.types (onA a)).1≠0
 ·rw[if_pos h1,if_pos h1];exact⟨rfl,rfl,rfl,fun l hl=>by cases hl⟩
 rw[if_neg h1,if_neg h1,h.subs];cases hs:Az a (Ee a.types (onA a)).2 with
 |none=>exact⟨rfl,rfl,rfl,fun l hl=>by cases hl⟩
 |some Q=>
  refine⟨rfl,rfl,rfl,?_⟩;have hz:inS a 0:=⟨xB _,by have:=ha.fin;omega⟩
  exact x1g _ 257 0 [[0]] Q hs fun l hl=>by rw[zW.1 hl];exact⟨by simp,fun s hs=>by rw[zW.1 hs];exact hz⟩
theorem Tn.det:R4 b=R4 a:=by obtain⟨h1,h2,h3,h4⟩:=h.sub;unfold R4;rw[h1,h2,h3,h.detA _ h4]
theorem Tn.min:Jp b=Jp a:=by unfold Jp;rw[h.det]
theorem Tn.dtb(hd:U2 a):Dta b:=by refine⟨h.okB,?_⟩;unfold U2;rw[h.mv,List.pairwise_reverse,List.pairwise_map];refine List.Pairwise.imp_of_mem (fun {m k} hm hk hr e x hx=> ?_) hd;have:=hr (h.inj _ _ (h.ok.mv m hm).src (h.ok.mv k hk).src e.symm) x ((Bj h.types).1 hx);exact fun⟨k1,k2⟩=>this ⟨k2,k1⟩
theorem Tn.to(hd:U2 a){s:Int}(hs:inS a s){x:Sy}(hx:Eo a x):toL b (t s) x=if toL a s x<0 then -1 else t (toL a s x):=by
 have hb:=h.dtb hd;rcases Ur (a:=a) s x with⟨h1,h2⟩|⟨m,m1,m2,m3,m4⟩
 ·rw[h1,if_pos (by decide)];rcases Ur (a:=b) (t s) x with⟨h3,_⟩|⟨k,k1,k2,k3,k4⟩
  ·exact h3
  ·obtain⟨m,hm,rfl⟩:=h.mem.1 k1;have e:=h.inj _ _ (h.ok.mv m hm).src hs k2;have:=h2 m hm e;rw[show(tnM t m).on=m.on from rfl,this]at k3;cases k3
 ·have:=(h.ok.mv m m1).dst.1;rw[m4,if_neg (by omega),←m2];exact hb.to_of (m:=tnM t m) (h.mem.2 ⟨m,m1,rfl⟩) ((Bj h.types).2 hx) m3
theorem Tn.walk(hd:U2 a):∀(w:List Sy) {s u:Int},inS a s→(∀x∈w,Eo a x)→wkS a s w=some u→inS a u∧wkS b (t s) w=some (t u)
 |[],s,u,hs,_,e=>by simp only[wkS,Option.some.injEq]at e;subst e;exact⟨hs,rfl⟩
 |x::w,s,u,hs,hw,e=>by
  rw[wkS]at e;split at e
  ·cases e
  ·rename_i z6;have hx:=hw x (by simp);have z1:inS a (toL a s x):=(V0 h.ok s x).resolve_left (by omega);have ht:=h.to hd hs hx;rw[if_neg z6]at ht;have hr:=h.rg _ z1;have:=Tn.walk hd w z1 (fun y hy=>hw y (by simp[hy])) e;refine⟨this.1,?_⟩;rw[wkS,ht,if_neg (by have:=hr.1;omega)];exact this.2
omit h in
def Rch(a:Aut)(s:Int):Prop:=∃w,(∀x∈w,Eo a x)∧wkS a 0 w=some s
open Classical in
theorem Tn.iso(hd:U2 a):∃f,IsoT a b f∧∀s:Nat,s<a.fin.length→f[s]? =some (-1)∨f[s]? =some (t s):=by
 have hz:inS a 0:=⟨xB _,by have:=h.ok.fin;omega⟩
 obtain⟨f,hf⟩:∃f:List Int,f=(yW a.fin.length).map fun s:Nat=>if Rch a s then t s else -1:=⟨_,rfl⟩
 have hl:f.length=a.fin.length:=by rw[hf];simp
 have z6:∀s,inS a s→fAt f s=if Rch a s then t s else -1:=fun s hs=>by
  have h1:s.toNat<a.fin.length:=by have:=hs.1;have:=hs.2;omega
  have h2:((s.toNat:Nat):Int)=s:=by have:=hs.1;omega
  unfold fAt;rw[hf];simp[yV,h1,h2]
 have z1:∀s,inS a s→0≤fAt f s→Rch a s∧fAt f s=t s:=fun s hs h0=>by
  rw[z6 s hs]at h0 ⊢;split at h0
  ·rename_i hr;rw[if_pos hr];exact⟨hr,rfl⟩
  ·omega
 refine⟨f,⟨hl,?_,fun q hq=> ?_,fun s hs h0=> ?_,fun s hs h0 x hx=> ?_,fun s u hs hu h0 e=> ?_,fun s hs h0=> ?_⟩,fun s hs=> ?_⟩
 ·rw[z6 0 hz,if_pos ⟨[],by simp,rfl⟩,h.zero]
 ·rw[hf]at hq;obtain⟨s,hs,rfl⟩:=zX.1 hq;split
  ·have:=(h.rg (s:Int) (Rp (xH.1 hs))).1;omega
  ·exact xB _
 ·rw[(z1 s hs h0).2,h.fin s hs]
 ·obtain⟨⟨w,hw,e⟩,e2⟩:=z1 s hs h0;have ht:=h.to hd hs hx;rw[e2];by_cases hlt:toL a s x<0
  ·rw[if_pos hlt]at ht;exact⟨⟨fun _=>by omega,fun _=>hlt⟩,fun k=>by omega⟩
  ·rw[if_neg hlt]at ht;have z7:inS a (toL a s x):=(V0 h.ok s x).resolve_left (by omega);have hr:=h.rg _ z7;refine⟨⟨fun k=>absurd k hlt,fun k=>by have:=hr.1;omega⟩,fun _=> ?_⟩;have z8:Rch a (toL a s x):=⟨w++[x],fun y hy=>(yE.1 hy).elim (hw y) (fun k=>by rw[zW.1 k];exact hx),by rw[L1,e,wG,if_neg hlt]⟩
   rw[ht,z6 _ z7,if_pos z8]
 ·have k1:=z1 s hs h0;have k2:=z1 u hu (by rw[←e];exact h0);exact h.inj s u hs hu (by rw[←k1.2,←k2.2,e])
 ·obtain⟨⟨w,hw,e⟩,e2⟩:=z1 s hs h0;have:=(h.walk hd w hz hw e).2;rw[h.zero]at this;exact⟨w,hw,e,by rw[e2];exact this⟩
 ·rw[hf];simp only[yI,List.getElem?_range hs,wU];by_cases hr:Rch a s
  ·rw[if_pos hr];exact .inr rfl
  ·rw[if_neg hr];exact .inl rfl
theorem Tn.isoF(hd:U2 a):∃l,isoF a b=((l,true),0)∧l.length=a.fin.length∧∀s:Nat,s<a.fin.length→l[s]? =some (-1)∨l[s]? =some (t s):=by obtain⟨f,h1,h2⟩:=h.iso hd;have hb:=h.dtb hd;have s1:=(A6 h.ok.wfA).2 hd;have s2:=(A6 hb.ok.wfA).2 hb.det;refine⟨f,?_,h1.len,h2⟩;unfold Go.Abs.isoF;rw[if_neg (fun k=>k ((Yy a).2 h.ok)),if_neg (fun k=>k ((Yy b).2 hb.ok)),if_neg (by rw[s1,s2];simp),if_neg (fun k=>k h.types.symm),z1s h.ok hb.ok (x1d ⟨h.ok,hd⟩ hb h.types) h1]
end
def O5(n:Nat)(by_ s:Int):Int:=if s=0 then 0 else 1+(s - 1+by_) % ((n:Int) - 1)
theorem Vx{n:Nat}{k:Int}(h0:0≤k){s:Int}(hs:0≤s∧s<n):0≤O5 n k s∧O5 n k s<n:=by
 unfold O5;split
 ·omega
 ·have h1:0<(n:Int) - 1:=by omega
  have:=uL (s - 1+k) (show(n:Int) - 1≠0 by omega);have:=Int.emod_lt_of_pos (s - 1+k) h1;omega
theorem q0x{n:Nat}{k:Int}(h0:0≤k){s u:Int}(hs:0≤s∧s<n)(hu:0≤u∧u<n)(e:O5 n k s=O5 n k u):s=u:=by
 unfold O5 at e;by_cases s0:s=0
 ·by_cases u0:u=0
  ·rw[s0,u0]
  ·rw[if_pos s0,if_neg u0]at e;have:=uL (u - 1+k) (show(n:Int) - 1≠0 by omega);omega
 ·by_cases u0:u=0
  ·rw[if_neg s0,if_pos u0]at e;have:=uL (s - 1+k) (show(n:Int) - 1≠0 by omega);omega
  ·rw[if_neg s0,if_neg u0]at e;have e2:(s - 1+k) % ((n:Int) - 1)=(u - 1+k) % ((n:Int) - 1):=by omega
   have e3:=Int.emod_emod_of_dvd (s - u) (Int.dvd_refl ((n:Int) - 1));have e4:((s - 1+k) - (u - 1+k)) % ((n:Int) - 1)=0:=Int.emod_eq_emod_iff_emod_sub_eq_zero.1 e2;have e5:(s - u) % ((n:Int) - 1)=0:=by rw[←e4];congr 1;omega
   obtain⟨c,hc⟩:=Int.dvd_of_emod_eq_zero e5;have hn:0<(n:Int) - 1:=by omega
   have c0:c=0:=by
    rcases Int.lt_trichotomy c 0 with k1|k1|k1
    ·have:((n:Int) - 1) * c≤((n:Int) - 1) * (-1):=uJ (by omega) (by omega);omega
    ·exact k1
    ·have:((n:Int) - 1) * 1≤((n:Int) - 1) * c:=uJ (by omega) (by omega);omega
   rw[c0]at hc;omega
end Go.Abs
namespace Go.Abs
open Go Go.Proofs Go.Maps Go.RowKit
structure TnF (a:Aut) (t:Int→Int) (i:Nat) (F:List Bool):Prop where
 len:F.length=a.fin.length
 at_:∀s:Nat,s<i→F[(t s).toNat]? =a.fin[s]?
theorem TnF.start(a:Aut)(t:Int→Int):TnF a t 0 (yB a.fin.length false):=⟨by simp,fun s h=>by omega⟩
theorem TnF.next{a:Aut}{t:Int→Int}(hr:∀s,inS a s→inS a (t s))(hi:∀s u,inS a s→inS a u→t s=t u→s=u){i:Nat}{F:List Bool}(h:TnF a t i F)(z1:i<a.fin.length):TnF a t (i+1) (F.set (t i).toNat a.fin[i]):=by
 have z6:inS a (i:Int):=Rp z1;have ht:=hr _ z6;refine⟨by rw[wB];exact h.len,fun s hs=> ?_⟩;by_cases e:s=i
 ·subst e;rw[zU (by rw[h.len];have:=ht.1;have:=ht.2;omega),zP z1]
 ·have z7:inS a (s:Int):=Rp (by omega);have z8:=hr _ z7;rw[zH (fun k=> ?_),h.at_ s (by omega)];have:t i=t s:=by have:=ht.1;have:=z8.1;omega
  have:=hi _ _ z6 z7 this;omega
theorem TnF.fin{a:Aut}{t:Int→Int}{F:List Bool}(h:TnF a t a.fin.length F):∀s,inS a s→F.getD (t s).toNat false=a.fin.getD s.toNat false:=fun s hs=>by have:=h.at_ s.toNat (by have:=hs.1;have:=hs.2;omega);rw[show((s.toNat:Nat):Int)=s by have:=hs.1;omega]at this;rw[yV,yV,this]
theorem u10{a:Aut}(ha:OkA a){k:Int}(k0:0≤k){F:List Bool}(h:TnF a (O5 a.fin.length k) a.fin.length F):Tn a ⟨a.types,F,(a.mv.map (tnM (O5 a.fin.length k))).reverse⟩ (O5 a.fin.length k):=
 ⟨ha,rfl,h.len,by unfold O5;rw[if_pos rfl],fun s hs=>Vx k0 hs,fun s u hs hu e=>q0x k0 hs hu e,h.fin,rfl⟩
def mvR(a:Aut)(t:Int→Int)(j:Nat):List Mv:=((a.mv.map (tnM t)).reverse).take j
theorem y1j(a:Aut)(t:Int→Int):mvR a t 0=[]:=by simp[mvR]
theorem x16(a:Aut)(t:Int→Int):mvR a t a.mv.length=(a.mv.map (tnM t)).reverse:=by unfold mvR;rw[zZ (by simp)]
theorem k1n(a:Aut)(t:Int→Int){j:Nat}(h:j≤a.mv.length):(mvR a t j).length=j:=by unfold mvR;simp;omega
theorem c02(a:Aut)(t:Int→Int){j:Nat}(h:j<a.mv.length):mvR a t (j+1)=mvR a t j++[tnM t (a.mv[a.mv.length - 1 - j]'(by omega))]:=by unfold mvR;rw[z_ (by simpa using h)];simp
theorem w1i{n:Nat}{k s:Int}(hs:s≠0)(h1:0≤s)(h2:s<n)(k0:0≤k):O5 n k s=1+uV (s - 1+k) ((n:Int) - 1):=by unfold O5;rw[if_neg hs,Int.tmod_eq_emod_of_nonneg (by omega)]
end Go.Abs
namespace Go.Abs
open Go Go.Proofs Go.Maps Go.RowKit
attribute [simp] T5
theorem k1p(n:Nat)(hn:n≤256)(u:Int)(hu:0≤u∧u≤255)(s:Int)(hs:0≤s∧s<n):PC Tryz.prog 44 [.i s,.iptr [.int .u8 u],.iptr [.i n]] (fun r=>r= .i (O5 n u s)):=by
 refine Ql tOk Tryz.func44 rfl Tryz.results44 rfl (by simp[Tryz.ntmps44]) ?_;rw[Tryz.ntmps44];simp only[Qf];repeat first|(refine r_ ?_;simp)|refine q_ ?_
 refine Qa rfl (fun h=> ?_) (fun h=> ?_)
 ·have h0:s=0:=by simpa using h
  repeat first|(refine r_ ?_;simp)|refine q_ ?_
  unfold O5;rw[if_pos h0]
 ·have h0:s≠0:=by simpa using h
  have e:=w1i h0 hs.1 hs.2 hu.1;have w1:IntKind.i64.wrap (s - 1)=s - 1:=wrap_i64 _ (by omega) (by omega);have w2:IntKind.i64.wrap u=u:=wrap_i64 _ (by omega) (by omega);have w3:IntKind.i64.wrap (s - 1+u)=s - 1+u:=wrap_i64 _ (by omega) (by omega);have w4:IntKind.i64.wrap ((n:Int) - 1)=(n:Int) - 1:=wrap_i64 _ (by omega) (by omega);have z1:¬(n:Int) - 1=0:=by omega
  have hb:=Vx (n:=n) hu.1 hs;rw[e]at hb;have w5:IntKind.i64.wrap (uV (s - 1+u) ((n:Int) - 1))=uV (s - 1+u) ((n:Int) - 1):=wrap_i64 _ (by omega) (by omega);have w6:IntKind.i64.wrap (1+uV (s - 1+u) ((n:Int) - 1))=1+uV (s - 1+u) ((n:Int) - 1):=wrap_i64 _ (by omega) (by omega);rw[e];repeat first|(refine r_ ?_;simp[w1,w2,w3,w4,w5,w6,z1])|refine q_ ?_
attribute [local irreducible] Xn Jp isoF O5
theorem Hs(a:Aut)(u:Int)(u0:0≤u)(u1:u≤255):PC Tryz.prog 11 [encA a,.int .u8 u] (fun r=>r= .bool true):=by
 refine Ql tOk Tryz.func11 rfl Tryz.results11 rfl (by simp[Tryz.ntmps11]) ?_;rw[Tryz.ntmps11];simp only[Qf];simp only[encA];repeat first|(refine r_ ?_;simp)|refine q_ ?_
 refine Qe rfl rfl (by simp) (j0w a []) rfl ?_;rintro _ rfl;simp;repeat first|(refine r_ ?_;simp)|refine q_ ?_
 cases hv:Xn a []with
 |false=>
  repeat first|(refine r_ ?_;simp)|refine q_ ?_
  refine Q6 rfl rfl ?_;simp;repeat first|(refine r_ ?_;simp)|refine q_ ?_
  refine Qa rfl (fun _=> ?_) (fun h=>by simp at h);repeat first|(refine r_ ?_;simp)|refine q_ ?_
  refine Qe rfl rfl (by simp) (Gb) rfl ?_;rintro _ rfl;simp;repeat (first|(refine r_ ?_;simp)|refine q_ ?_)
 |true=>
  obtain⟨yj,_,zd,_⟩:=u1v hv;repeat first|(refine r_ ?_;simp)|refine q_ ?_
  refine Qe rfl rfl (by simp) (w0z a zd) rfl ?_;rintro _ rfl;simp;repeat first|(refine r_ ?_;simp)|refine q_ ?_
  refine Qa rfl (fun _=> ?_) (fun h=> ?_)
  ·repeat first|(refine r_ ?_;simp)|refine q_ ?_
   refine Qe rfl rfl (by simp) (Gb) rfl ?_;rintro _ rfl;simp;repeat first|(refine r_ ?_;simp)|refine q_ ?_
  have hs:Fb a=true:=by simpa using h
  have hd:=(A6 zd.wfA).1 hs;have zm:=zd.fin;repeat first|(refine r_ ?_;simp)|refine q_ ?_
  refine Is (P:=Tryz.prog) tOk mixed [6] (.val 0 (.val 1 (.val 2 (.two 3 (.val 4 (.one 5 (.one 6 (.done)))) 5 (.one 3 (.val 4 (.one 6 (.done)))))))) (fun S'=>∃f c:Nat,(2<f∧2<c∧f≠c)∧S'.hp[0]? =some (.vars [.i a.types,.list (a.fin.map .bool),.list (a.mv.map encMv)])∧S'.hp[1]? =some (.vars [.int .u8 u])∧S'.hp[2]? =some (.vars [.i a.fin.length])∧S'.hp[f]? =some (.arr 4 1 (yB a.fin.length (.bool false)))∧S'.hp[c]? =some (.vars [.i a.types,.sl f 1 0 a.fin.length,.nils])∧look S'.sl 2=some (.vptr 0 0)∧look S'.sl 3=some (.vptr 1 0)∧look S'.sl 4=some (.bool false)∧look S'.sl 5=some (.vptr 2 0)∧look S'.sl 6=some (.fn (.func 44) [] [.vptr 1 0,.vptr 2 0])∧look S'.sl 7=some (.vptr c 0)) rfl (by kernel_rfl) ?_ ?_
  ·simp
   repeat' (first|refine And.intro ?_ ?_|(refine Wn tOk rfl rfl rfl T22 rfl T4 rfl rfl rfl (n:=a.fin.length) (by simp;omega) (by unfold maxLen;omega) (.bool false) rfl ?_;simp))
   all_goals first|(refine⟨3,4,?_⟩;simp;done)|(refine⟨4,3,?_⟩;simp;done)
  rintro⟨sl,H⟩ ⟨f,c,⟨x2,x3,zi⟩,h0,h1,h2,hf,hc,l2,l3,l4,l5,l6,l7⟩;simp only at h0 h1 h2 hf hc l2 l3 l4 l5 l6 l7;refine Ex c 2 78 3 hc rfl ?_;refine Qx (sl':=[(2,.vptr 0 0),(3,.vptr 1 0),(4,.bool false),(5,.vptr 2 0),(6,.fn (.func 44) [] [.vptr 1 0,.vptr 2 0]),(7,.vptr c 0)]) ?_ (by simp[l2,l3,l4,l5,l6,l7]);refine Q9 fun Z hZ=> ?_;obtain⟨v,zn⟩:∃v,v=H.length:=⟨_,rfl⟩
  have yk:=Qi hf;have yl:=Qi hc;have z0:Z[0]? =some (.vars [.i a.types,.list (a.fin.map .bool),.list (a.mv.map encMv)]):=by rw[hZ];exact Qc (by omega) (Qb h0 _) _
  have z1:Z[1]? =some (.vars [.int .u8 u]):=by rw[hZ];exact Qc (by omega) (Qb h1 _) _
  have z2:Z[2]? =some (.vars [.i a.fin.length]):=by rw[hZ];exact Qc (by omega) (Qb h2 _) _
  have zf:Z[f]? =some (.arr 4 1 ((yB a.fin.length false).map .bool)):=by rw[hZ,List.map_replicate];exact Qc (Ne.symm zi) (Qb hf _) _
  have zc:Z[c]? =some (.vars [.i a.types,.sl f 1 0 a.fin.length,.sl v 3 0 0]):=by rw[hZ,zn];exact Qg (Qb hc _) _
  have zv:Z[v]? =some (.arr 78 3 []):=by rw[hZ,zn,zH (by omega),zO (by omega)];simp
  have za:v≠c:=by omega
  have z8:v≠f:=by omega
  have zj:2<v:=by omega
  clear hZ h0 h1 h2 hf hc l2 l3 l4 l5 l6 l7 zn yk yl;clear H sl;obtain⟨t,ht⟩:∃t,t=O5 a.fin.length u:=⟨_,rfl⟩
  have zo:∀s,inS a s→inS a (t s):=fun s hs=>by rw[ht];exact Vx u0 hs
  have zp:∀s u,inS a s→inS a u→t s=t u→s=u:=fun s w hs hw e=>by rw[ht]at e;exact q0x u0 hs hw e
  have z7:=fun(s:Int) (hs:inS a s)=>k1p a.fin.length zm.2 u ⟨u0,u1⟩ s hs;rw[←ht]at z7;repeat first|(refine r_ ?_;simp[z0])|refine q_ ?_
  refine Qr (Qd (sl':=[(2,.vptr 0 0),(3,.vptr 1 0),(4,.bool false),(5,.vptr 2 0),(6,.fn (.func 44) [] [.vptr 1 0,.vptr 2 0]),(7,.vptr c 0),(40,.list (a.fin.map .bool)),(41,.i a.fin.length),(42,.i (0:Nat))]) ?_ (by simp));refine Qq (P:=Tryz.prog) (F:=fun(w:Nat×List Bool×List AObj)=>⟨[(2,.vptr 0 0),(3,.vptr 1 0),(4,.bool false),(5,.vptr 2 0),(6,.fn (.func 44) [] [.vptr 1 0,.vptr 2 0]),(7,.vptr c 0),(40,.list (a.fin.map .bool)),(41,.i a.fin.length),(42,.i w.1)],w.2.2⟩)
   (fun w=>w.1≤a.fin.length∧TnF a t w.1 w.2.1∧w.2.2[0]? =some (.vars [.i a.types,.list (a.fin.map .bool),.list (a.mv.map encMv)])∧w.2.2[1]? =some (.vars [.int .u8 u])∧w.2.2[2]? =some (.vars [.i a.fin.length])∧w.2.2[f]? =some (.arr 4 1 (w.2.1.map .bool))∧w.2.2[c]? =some (.vars [.i a.types,.sl f 1 0 a.fin.length,.sl v 3 0 0])∧w.2.2[v]? =some (.arr 78 3 [])) (fun w=>a.fin.length - w.1) ?_ (0,yB a.fin.length false,Z) ⟨wK _,TnF.start a t,z0,z1,z2,zf,zc,zv⟩
  clear z0 z1 z2 zf zc zv;clear Z;rintro⟨i,F,H⟩ ⟨hi,hF,h0,h1,h2,hf,hc,hv⟩ ih;simp only at hi hF h0 h1 h2 hf hc hv ih ⊢;repeat first|(refine r_ ?_;simp)|refine q_ ?_
  refine Qa rfl (fun ze=> ?_) (fun zg=> ?_)
  ·have z6:i<a.fin.length:=by simpa using ze
   have hw:IntKind.i64.wrap ((i:Int)+1)=i+1:=wrap_i64 _ (by omega) (by omega);have zh:inS a (i:Int):=Rp z6;have zq:=hF.next zo zp z6;have zr:=zo _ zh;have y6:=z7 i zh;have ym:a.fin[i]? =some a.fin[i]:=zP z6;obtain⟨k,hk⟩:∃k:Nat,t i=k:=⟨(t i).toNat,by have:=zr.1;omega⟩
   rw[hk]at zq zr y6;simp only[tO]at zq;have zb:k<a.fin.length:=by have:=zr.2;omega
   have zt:=hF.len;have zu:(F.map AV.bool).length=a.fin.length:=by simp[zt]
   have zk:(F.map AV.bool)[k]? =some (.bool (F[k]'(by omega))):=by simp
   have zw:∀hh,(F.map AV.bool)[k]'hh= .bool (F[k]'(by omega)):=fun hh=>(yJ hh).2 zk;have yn:(F.map AV.bool).set k (.bool a.fin[i])=(F.set k a.fin[i]).map AV.bool:=by simp[uc]
   repeat first|(refine r_ ?_;simp[z6,ym])|refine q_ ?_
   refine Qk tOk mixed [7] (.val 0 (.val 1 (.val 2 (.val 3 (.val 5 (.one 4 (.val 6 (.one 7 (.done))))))))) rfl (by kernel_rfl) ?_;simp[hc];refine Y2 rfl rfl (by first|(simp[hc,hf,zk,zw,zu,zb,h1,h2];done)|(simp[hc,hf,zk,zw,zu,zb,h1,h2];rfl)) (y6) rfl ?_;rintro _ rfl;refine⟨by first|simp|rfl|trivial,?_⟩;simp[hc,hf,zk,zw,zu,zb,h1,h2];repeat first|(refine r_ ?_;simp[hw])|refine q_ ?_
   refine Qd (sl':=[(2,.vptr 0 0),(3,.vptr 1 0),(4,.bool false),(5,.vptr 2 0),(6,.fn (.func 44) [] [.vptr 1 0,.vptr 2 0]),(7,.vptr c 0),(40,.list (a.fin.map .bool)),(41,.i a.fin.length),(42,.i (i+1:Nat))]) ?_ (by simp);exact ih (i+1,F.set k a.fin[i],_) ⟨by simp only;omega,zq,Qc (by omega) h0 _,Qc (by omega) h1 _,Qc (by omega) h2 _,by simp only;rw[←yn];exact Qg hf _,Qc zi hc _,Qc (Ne.symm z8) hv _⟩ (by simp only;omega)
  have zx:i=a.fin.length:=by simp at zg;omega
  subst zx;clear ih;have yo:=zd.mvs;have yp:IntKind.i64.wrap ((a.mv.length:Int) - 1)=(a.mv.length:Int) - 1:=wrap_i64 _ (by omega) (by omega);repeat first|(refine r_ ?_;simp[h0,yp])|refine q_ ?_
  refine Qr (Qd (sl':=[(2,.vptr 0 0),(3,.vptr 1 0),(4,.bool false),(5,.vptr 2 0),(6,.fn (.func 44) [] [.vptr 1 0,.vptr 2 0]),(7,.vptr c 0),(10,.i ((a.mv.length:Int) - 1 - (0:Nat)))]) ?_ (by simp));refine Qq (P:=Tryz.prog) (F:=fun(w:Nat×Nat×List AObj)=>⟨[(2,.vptr 0 0),(3,.vptr 1 0),(4,.bool false),(5,.vptr 2 0),(6,.fn (.func 44) [] [.vptr 1 0,.vptr 2 0]),(7,.vptr c 0),(10,.i ((a.mv.length:Int) - 1 - w.1))],w.2.2⟩)
   (fun w=>w.1≤a.mv.length∧w.2.2[0]? =some (.vars [.i a.types,.list (a.fin.map .bool),.list (a.mv.map encMv)])∧w.2.2[1]? =some (.vars [.int .u8 u])∧w.2.2[2]? =some (.vars [.i a.fin.length])∧w.2.2[f]? =some (.arr 4 1 (F.map .bool))∧w.2.2[c]? =some (.vars [.i a.types,.sl f 1 0 a.fin.length,.sl w.2.1 3 0 w.1])∧w.2.2[w.2.1]? =some (.arr 78 3 ((mvR a t w.1).map encMv))∧w.2.1≠c∧w.2.1≠f∧2<w.2.1) (fun w=>a.mv.length - w.1) ?_ (0,v,H) ⟨wK _,h0,h1,h2,hf,hc,by rw[y1j];exact hv,za,z8,zj⟩
  clear h0 h1 h2 hf hc hv za z8 zj zg;clear H v;rintro⟨j,v,H⟩ ⟨hj,h0,h1,h2,hf,hc,hv,za,z8,zj⟩ ih;simp only at hj h0 h1 h2 hf hc hv za z8 zj ih ⊢;repeat first|(refine r_ ?_;simp)|refine q_ ?_
  refine Qa rfl (fun ze=> ?_) (fun zg=> ?_)
  ·have z6:j<a.mv.length:=by simp at ze;omega
   obtain⟨k,hk⟩:∃k:Nat,a.mv.length - 1 - j=k:=⟨_,rfl⟩
   have yq:(a.mv.length:Int) - 1 - j=(k:Nat):=by omega
   have zb:k<a.mv.length:=by omega
   have hw:IntKind.i64.wrap ((k:Int) - 1)=k - 1:=wrap_i64 _ (by omega) (by omega);have y7:=c02 a t z6;have yr:=k1n a t (Nat.le_of_lt z6);have y8:=zd.mv _ (zT zb);have zy:=fun v' H'=>ih (j+1,v',H');simp only[y7,xF,xI,wY]at zy;clear ih y7;simp only[hk]at zy;have y9:(a.mv.map encMv)[k]? =some (encMv a.mv[k]):=by simp[zb]
   have ya:∀hh,(a.mv.map encMv)[k]'hh=encMv a.mv[k]:=fun hh=>by simp
   have yb:((mvR a t j).map encMv).length=j:=by simp[yr]
   generalize a.mv[k]=m at *
   have cS:=z7 m.src y8.src;have cD:=z7 m.dst y8.dst;generalize (mvR a t j).map encMv=xs at *;simp only[encMv]at y9 ya;rw[yq]
   repeat first|(refine r_ ?_;simp[h0,y9,ya,zb])|refine q_ ?_
   refine Q9 fun Y hY=> ?_;have y0:Y[0]? =some (.vars [.i a.types,.list (a.fin.map .bool),.list (a.mv.map encMv)]):=by rw[hY];exact Qb h0 _
   have y1:Y[1]? =some (.vars [.int .u8 u]):=by rw[hY];exact Qb h1 _
   have y2:Y[2]? =some (.vars [.i a.fin.length]):=by rw[hY];exact Qb h2 _
   have yf:Y[f]? =some (.arr 4 1 (F.map .bool)):=by rw[hY];exact Qb hf _
   have yc:Y[c]? =some (.vars [.i a.types,.sl f 1 0 a.fin.length,.sl v 3 0 j]):=by rw[hY];exact Qb hc _
   have yv:Y[v]? =some (.arr 78 3 xs):=by rw[hY];exact Qb hv _
   have yx:Y[H.length]? =some (.vars [.i m.src,.i m.dst,.list (m.on.map encL)]):=by rw[hY,zO (by simp)];simp
   have x4:=Qi yv;have x5:=Qi yc;clear hY h0 h1 h2 hf hc hv;generalize H.length=X at *;clear H
   have zl:∀M,(Y.set v .dead++M)[c]? =some (.vars [.i a.types,.sl f 1 0 a.fin.length,.sl v 3 0 j]):=fun M=>Qb (Qc za yc _) M;have yd:∀M hh,(Y.set v .dead++M)[c]'hh= .vars [.i a.types,.sl f 1 0 a.fin.length,.sl v 3 0 j]:=fun M hh=>(yJ hh).2 (zl M);refine Qk tOk mixed [14,16] (.val 0 (.val 1 (.val 2 (.val 3 (.val 4 (.val 6 (.val 7 (.val 8 (.val 10 (.val 11 (.one 5 (.one 9 (.val 12 (.one 13 (.one 14 (.val 15 (.one 16 (.done)))))))))))))))))) rfl (by kernel_rfl) ?_;simp[yc,yx];refine Y2 rfl rfl (by first|(simp[yc,yx,y1,y2];done)|(simp[yc,yx,y1,y2];rfl)) (cS) rfl ?_;rintro _ rfl;refine⟨by first|simp|rfl|trivial,?_⟩;simp[yc,yx,y1,y2];refine Y2 rfl rfl (by first|(simp[yc,yx,y1,y2];done)|(simp[yc,yx,y1,y2];rfl)) (cD) rfl ?_;rintro _ rfl;refine⟨by first|simp|rfl|trivial,?_⟩;simp[yc,yx,y1,y2];refine Qh tOk rfl rfl T23 rfl T78 rfl (by decide) (by decide) rfl rfl rfl ?_;simp[Qb yv,Qj yv,yv,yb,zl,yd];refine⟨by simp[Wp,Qb yv,Qj yv,yv,yb,zl,yd]<;>omega,?_⟩;repeat first|(refine r_ ?_;simp[hw])|refine q_ ?_
   refine Qd (sl':=[(2,.vptr 0 0),(3,.vptr 1 0),(4,.bool false),(5,.vptr 2 0),(6,.fn (.func 44) [] [.vptr 1 0,.vptr 2 0]),(7,.vptr c 0),(10,.i ((a.mv.length:Int) - 1 - (j+1:Nat)))]) ?_ (by simp;omega);refine zy (Y.length+1) _ ⟨by omega,Qc (by omega) (Qb (Qc (by omega) y0 _) _) _,Qc (by omega) (Qb (Qc (by omega) y1 _) _) _,Qc (by omega) (Qb (Qc (by omega) y2 _) _) _,Qc (Ne.symm zi) (Qb (Qc z8 yf _) _) _,Qg (zl _) _,?_,by omega,by have:=Qi yf;omega,by omega⟩ (by omega);rw[zH (by omega),zO (by simp)];simp[tnM]
  ·have yt:j=a.mv.length:=by simp at zg;omega
   subst yt;rw[x16]at hv;obtain⟨M,hM⟩:∃M,(a.mv.map (tnM t)).reverse=M:=⟨_,rfl⟩
   have yu:M.length=a.mv.length:=by rw[←hM];simp
   have hT:Tn a ⟨a.types,F,M⟩ t:=by rw[ht]at hF;have:=u10 zd u0 hF;rw[←ht,hM]at this;exact this
   rw[hM]at hv;clear hM;have zt:=hF.len;have zz:uS a.fin.length (F.map AV.bool)=F.map AV.bool:=zZ (by simp;omega);have y3:uS a.mv.length (M.map encMv)=M.map encMv:=zZ (by simp;omega);refine We f hf c hc ?_;refine Qx (sl':=[(2,.vptr 0 0),(3,.vptr 1 0),(4,.bool false),(5,.vptr 2 0),(6,.fn (.func 44) [] [.vptr 1 0,.vptr 2 0]),(7,.vptr c 0)]) ?_ (by simp[AV.fz]);refine Q9 fun Z hZ=> ?_;have z0:Z[0]? =some (.vars [.i a.types,.list (a.fin.map .bool),.list (a.mv.map encMv)]):=by rw[hZ];exact Qc (by omega) (Qc (by omega) h0 _) _
   have z1:Z[1]? =some (.vars [.int .u8 u]):=by rw[hZ];exact Qc (by omega) (Qc (by omega) h1 _) _
   have z2:Z[2]? =some (.vars [.i a.fin.length]):=by rw[hZ];exact Qc (by omega) (Qc (by omega) h2 _) _
   have zc:Z[c]? =some (.vars [.i a.types,.list (F.map .bool),.sl v 3 0 a.mv.length]):=by rw[hZ,Qg (Qc zi hc _) _];simp[AV.fz,z8,zz,zt]
   have zv:Z[v]? =some (.arr 78 3 (M.map encMv)):=by rw[hZ];exact Qc (Ne.symm za) (Qc (Ne.symm z8) hv _) _
   clear hZ h0 h1 h2 hf hc hv;clear H;refine We v zv c zc ?_;refine Qx (sl':=[(2,.vptr 0 0),(3,.vptr 1 0),(4,.bool false),(5,.vptr 2 0),(6,.fn (.func 44) [] [.vptr 1 0,.vptr 2 0]),(7,.vptr c 0)]) ?_ (by simp[AV.fz]);refine Q9 fun W hW=> ?_;have w0:W[0]? =some (.vars [.i a.types,.list (a.fin.map .bool),.list (a.mv.map encMv)]):=by rw[hW];exact Qc (by omega) (Qc (by omega) z0 _) _
   have w1:W[1]? =some (.vars [.int .u8 u]):=by rw[hW];exact Qc (by omega) (Qc (by omega) z1 _) _
   have w2:W[2]? =some (.vars [.i a.fin.length]):=by rw[hW];exact Qc (by omega) (Qc (by omega) z2 _) _
   have wc:W[c]? =some (.vars [.i a.types,.list (F.map .bool),.list (M.map encMv)]):=by rw[hW,Qg (Qc za zc _) _];simp[AV.fz,y3,yu]
   clear hW z0 z1 z2 zc zv;clear Z;obtain⟨l,ye,yg,yw⟩:=hT.isoF hd;have y4:=hT.min;have cI:=v1q a ⟨a.types,F,M⟩;have cM:=I9 ⟨a.types,F,M⟩;rw[ye]at cI;rw[y4]at cM;have cm:=I9 a;simp only[encA,c1c]at cI cM cm;repeat first|(refine r_ ?_;simp[w0,wc])|refine q_ ?_
   refine Qe rfl rfl (by simp) (cI) rfl ?_;rintro _ rfl;simp;have cs:=Mb (Jp a).2;simp only[encA]at cs;obtain⟨R,hR⟩:∃R,Jp a=R:=⟨_,rfl⟩
   rw[hR]at cm cM cs;repeat first|(refine r_ ?_;simp[w0])|refine q_ ?_
   refine Qe rfl rfl (by simp) (cm) rfl ?_;rintro _ rfl;simp;have yh:=fun E=>Qb wc E;have w2A:=fun E=>Qb w2 E;repeat first|(refine r_ ?_;simp[yh])|refine q_ ?_
   refine Qe rfl rfl (by simp) (cM) rfl ?_;rintro _ rfl;simp;have x6:(l.map AV.i).length=a.fin.length:=by simp[yg]
   repeat first|(refine r_ ?_;simp[w2A,yg])|refine q_ ?_
   refine Qe rfl rfl (by simp) (cs) rfl ?_;rintro _ rfl;simp;repeat first|(refine r_ ?_;simp)|refine q_ ?_
   refine Qa rfl (fun h=>by simp at h) (fun _=> ?_);repeat first|(refine r_ ?_;simp)|refine q_ ?_
   refine Qx (sl':=[(2,.vptr 0 0),(3,.vptr 1 0),(4,.bool false),(5,.vptr 2 0),(6,.fn (.func 44) [] [.vptr 1 0,.vptr 2 0]),(124,.list (l.map .i)),(125,.i l.length),(126,.i (0:Nat))]) ?_ (by simp);refine Q9 fun V hV=> ?_;have v1:V[1]? =some (.vars [.int .u8 u]):=by rw[hV];exact Qb w1 _
   have v2:V[2]? =some (.vars [.i a.fin.length]):=by rw[hV];exact Qb w2 _
   clear hV w0 w1 w2 wc yh w2A cI cM cm cs hT ye;clear W;refine Qr (Qd (sl':=[(2,.vptr 0 0),(3,.vptr 1 0),(4,.bool false),(5,.vptr 2 0),(6,.fn (.func 44) [] [.vptr 1 0,.vptr 2 0]),(124,.list (l.map .i)),(125,.i l.length),(126,.i (0:Nat))]) ?_ (by simp));refine Qq (P:=Tryz.prog) (F:=fun(w:Nat×List AObj)=>⟨[(2,.vptr 0 0),(3,.vptr 1 0),(4,.bool false),(5,.vptr 2 0),(6,.fn (.func 44) [] [.vptr 1 0,.vptr 2 0]),(124,.list (l.map .i)),(125,.i l.length),(126,.i w.1)],w.2⟩)
    (fun w=>w.1≤l.length∧w.2[1]? =some (.vars [.int .u8 u])∧w.2[2]? =some (.vars [.i a.fin.length])) (fun w=>l.length - w.1) ?_ (0,V) ⟨wK _,v1,v2⟩
   clear v1 v2;clear V;rintro⟨j,H⟩ ⟨hj,h1,h2⟩ ih;simp only at hj h1 h2 ih ⊢;repeat first|(refine r_ ?_;simp)|refine q_ ?_
   refine Qa rfl (fun ze=> ?_) (fun zg=> ?_)
   ·have z6:j<l.length:=by simpa using ze
    have hw:IntKind.i64.wrap ((j:Int)+1)=j+1:=wrap_i64 _ (by omega) (by omega);have zh:inS a (j:Int):=Rp (by omega);have yy:=z7 j zh;have yz:=zo _ zh;rcases yw j (by omega)with he|he
    ·have yi:(l.map AV.i)[j]? =some (.i (-1)):=by simp[he]
     have x0:∀hh,(l.map AV.i)[j]'hh= .i (-1):=fun hh=>(yJ hh).2 yi;have y5:l[j]= -1:=(yJ _).2 he;repeat first|(refine r_ ?_;simp[z6,yi,x0,y5])|refine q_ ?_
     refine Q6 rfl rfl ?_;simp;repeat first|(refine r_ ?_;simp)|refine q_ ?_
     refine Qa rfl (fun h=>by simp at h) (fun _=> ?_);repeat first|(refine r_ ?_;simp[hw])|refine q_ ?_
     refine Qd (sl':=[(2,.vptr 0 0),(3,.vptr 1 0),(4,.bool false),(5,.vptr 2 0),(6,.fn (.func 44) [] [.vptr 1 0,.vptr 2 0]),(124,.list (l.map .i)),(125,.i l.length),(126,.i (j+1:Nat))]) ?_ (by simp);exact ih (j+1,H) ⟨by simp only;omega,h1,h2⟩ (by simp only;omega)
    ·have y5:l[j]=t j:=(yJ _).2 he;have x1:(t j != -1)=true:=by have:=yz.1;simp;omega
     repeat first|(refine r_ ?_;simp[z6,y5,x1])|refine q_ ?_
     refine Y2 rfl rfl (by first|(simp[h1,h2];done)|(simp[h1,h2];rfl)) (yy) rfl ?_;rintro _ rfl;refine⟨by first|simp|rfl|trivial,?_⟩;simp[h1,h2];repeat first|(refine r_ ?_;simp)|refine q_ ?_
     refine Qa rfl (fun h=>by simp at h) (fun _=> ?_);repeat first|(refine r_ ?_;simp[hw])|refine q_ ?_
     refine Qd (sl':=[(2,.vptr 0 0),(3,.vptr 1 0),(4,.bool false),(5,.vptr 2 0),(6,.fn (.func 44) [] [.vptr 1 0,.vptr 2 0]),(124,.list (l.map .i)),(125,.i l.length),(126,.i (j+1:Nat))]) ?_ (by simp);exact ih (j+1,H) ⟨by simp only;omega,h1,h2⟩ (by simp only;omega)
   ·repeat first|(refine r_ ?_;simp)|refine q_ ?_
    refine Qe rfl rfl (by simp) (Gb) rfl ?_;rintro _ rfl;simp;repeat first|(refine r_ ?_;simp)|refine q_ ?_
end Go.Abs
namespace Go.Abs
open Go Go.Proofs Go.RowKit Go.Proofs.YteghceocnldccaaGreatDoor
theorem laidOut:laidOutB Tryz.prog=true:=by kernel_rfl
theorem own:ownKnob Tryz.prog.godebug=none:=by kernel_rfl
theorem F5{α:Type}{g:α→AV}{Q:α→Prop}:∀xs:List AV,(∀x∈xs,∃a,x=g a∧Q a)→∃l:List α,xs=l.map g∧∀a∈l,Q a
 |[],_=>⟨[],rfl,by simp⟩
 |x::xs,h=>by obtain⟨a,rfl,ha⟩:=h x (by simp);obtain⟨l,rfl,hl⟩:=F5 xs (fun y hy=>h y (by simp[hy]));exact⟨a::l,rfl,by simpa using⟨ha,hl⟩⟩
theorem g0d{d:Nat}{zs:List AV}(h:Shp T (d+1) 3 zs):∃n:Int,zs=[.i n]∧ -9223372036854775808≤n∧n≤9223372036854775807:=by simp only[Shp,T3,Vo]at h;obtain⟨n,rfl,h1,h2⟩:=h;exact⟨n,rfl,h1,h2⟩
theorem x13{d:Nat}{zs:List AV}(h:Shp T (d+1) 4 zs):∃b:Bool,zs=[.bool b]:=by simp only[Shp,T4,Vo]at h;exact h
theorem u1w{d:Nat}{xs:List AV}(h:Ux T d [] xs):xs=[]:=h
theorem g1w {l:List (String×DataW Unit)} {w:World} {name:String} {k:IntKind} {zs:List Int} {g:Nat} {t e:TypeId} {n:Nat} (h:laidMetH Tryz.prog l w) (hl:l.filter (fun x=>x.1==name)=[(name,Lib.tabData k zs)])
  (hg:Tryz.prog.globalNamed name=some g) (z1:(Tryz.prog.globals[g]?).map (·.type)=some t) (ht:Tryz.prog.underlying t=some (.array n e)) (he:Tryz.prog.underlying e=some (.int k)) (z6:Tryz.prog.cellsOf e=1) (z7:Tryz.prog.cellsOf t=n):
  g<w.heap.size∧∃t fr,w.heap[g]? =some (.cells (zs.map fun z=>Value.int k z).toArray t fr):=by
 have h1:=h.filter (fun x=>x.1==name);rw[hl]at h1;have h2:Lib.TabIs Tryz.prog w name k zs:=Lib.tabIs_of_head hg z1 ht he z6 z7 h1;unfold Lib.TabIs World.var? at h2;rw[hg]at h2;simp only[wG]at h2;cases ho:w.heap[g]? with
 |none=>rw[ho]at h2;simp at h2
 |some o=>rw[ho]at h2;refine⟨(Array.getElem?_eq_some_iff.1 ho).1,?_⟩;cases o<;>simp at h2;rename_i cs t fr;exact⟨t,fr,by rw[h2]⟩
end Go.Abs
namespace Go.Abs
open Go Go.Proofs Go.RowKit Go.Proofs.YteghceocnldccaaGreatDoor
theorem y2t{d:Nat}{zs:List AV}(h:Shp T (d+2) 187 zs):∃v:Iv,zs=(encIv v).cells:=by simp only[Shp,Dn,T3,Vo,x12,xI,wY]at h;obtain⟨_,_,rfl,⟨a,rfl,ha⟩,_,_,rfl,⟨b,rfl,hb⟩,rfl⟩:=h;exact⟨⟨a,b⟩,rfl⟩
theorem w2q{d:Nat}{zs:List AV}(h:Shp T (d+3) 171 zs):∃l:List Iv,zs=[encL l]:=by
 rw[Shp,Pe]at h;simp only[Vo]at h;obtain⟨ei,xs,he,rfl,hl,hx⟩:=h;rw[Dn]at he;cases he;obtain⟨l,rfl,hq⟩:=F5 (g:=encIv) (Q:=fun _=>True) xs (fun x z1=>by
  obtain⟨zs,rfl,hz⟩:=hx x z1;obtain⟨v,rfl⟩:=y2t (d:=d) hz;exact⟨v,rfl,trivial⟩)
 exact⟨l,rfl⟩
theorem f1j{d:Nat}{zs:List AV}(h:Shp T (d+4) 74 zs):∃p:Prd,zs=[.list (p.map encL)]:=by
 rw[Shp,T74]at h;simp only[Vo]at h;obtain⟨ei,xs,he,rfl,hl,hx⟩:=h;rw[Pe]at he;cases he;obtain⟨l,rfl,hq⟩:=F5 (g:=encL) (Q:=fun _=>True) xs (fun x z1=>by
  obtain⟨zs,rfl,hz⟩:=hx x z1;obtain⟨v,rfl⟩:=w2q (d:=d) hz;exact⟨v,rfl,trivial⟩)
 exact⟨l,rfl⟩
theorem c13{d:Nat}{zs:List AV}(h:Shp T (d+5) 76 zs):∃p:Prd,zs=[.list (p.map encL)]:=by rw[Shp,T76]at h;simp only[Vo,x12,xI,wY]at h;obtain⟨_,_,rfl,h1,rfl⟩:=h;obtain⟨p,rfl⟩:=f1j (d:=d) h1;exact⟨p,rfl⟩
theorem f1z{d:Nat}{zs:List AV}(h:Shp T (d+6) 78 zs):∃m:Mv,zs=(encMv m).cells:=by rw[Shp,T78]at h;simp only[Vo,x12,xI,wY]at h;obtain⟨_,_,rfl,h1,_,_,rfl,h2,_,_,rfl,h3,rfl⟩:=h;obtain⟨a,rfl,_⟩:=g0d (d:=d+4) h1;obtain⟨b,rfl,_⟩:=g0d (d:=d+4) h2;obtain⟨p,rfl⟩:=c13 (d:=d) h3;exact⟨⟨a,b,p⟩,rfl⟩
theorem u1c{d:Nat}{zs:List AV}(h:Shp T (d+7) 23 zs):∃l:List Mv,zs=[.list (l.map encMv)]:=by
 rw[Shp,T23]at h;simp only[Vo]at h;obtain⟨ei,xs,he,rfl,hl,hx⟩:=h;rw[T78]at he;cases he;obtain⟨l,rfl,hq⟩:=F5 (g:=encMv) (Q:=fun _=>True) xs (fun x z1=>by
  obtain⟨zs,rfl,hz⟩:=hx x z1;obtain⟨v,rfl⟩:=f1z (d:=d) hz;exact⟨v,rfl,trivial⟩)
 exact⟨l,rfl⟩
theorem u1x{d:Nat}{zs:List AV}(h:Shp T (d+2) 22 zs):∃l:List Bool,zs=[.list (l.map .bool)]:=by
 rw[Shp,T22]at h;simp only[Vo]at h;obtain⟨ei,xs,he,rfl,hl,hx⟩:=h;rw[T4]at he;cases he;obtain⟨l,rfl,hq⟩:=F5 (g:=AV.bool) (Q:=fun _=>True) xs (fun x z1=>by
  obtain⟨zs,rfl,hz⟩:=hx x z1;obtain⟨v,rfl⟩:=x13 (d:=d) hz;exact⟨v,rfl,trivial⟩)
 exact⟨l,rfl⟩
theorem w21{d:Nat}{zs:List AV}(h:Shp T (d+8) 25 zs):∃a:Aut,zs=(encA a).cells:=by rw[Shp,T25]at h;simp only[Vo,x12,xI,wY]at h;obtain⟨_,_,rfl,h1,_,_,rfl,h2,_,_,rfl,h3,rfl⟩:=h;obtain⟨t,rfl,_⟩:=g0d (d:=d+6) h1;obtain⟨f,rfl⟩:=u1x (d:=d+5) h2;obtain⟨m,rfl⟩:=u1c (d:=d) h3;exact⟨⟨t,f,m⟩,rfl⟩
theorem f1b{d:Nat}{ts:List Nat}{xs:List AV}(h:Ux T (d+8) (25::ts) xs):∃(a:Aut) (r:List AV),xs=encA a::r∧Ux T (d+8) ts r:=by obtain⟨i,zs,r,hi,rfl,h1,h⟩:=h;rw[T25]at hi;cases hi;obtain⟨a,rfl⟩:=w21 (d:=d) h1;exact⟨a,r,rfl,h⟩
theorem f1d {l:List (String×DataW Unit)} {w:World} (h:laidMetH Tryz.prog l w) (hl:l.filter (fun x=>x.1== "internal/strconv.uint64pow10")=[("internal/strconv.uint64pow10",Lib.tabData .u64 Lib.pow10Tab)]):EOK Tryz.prog w (·<w.heap.size):=fun g pr hm=>by
 have e:=zW.1 hm
 cases e
 obtain⟨h1,t,fr,h2⟩:=g1w (t:=300) (e:=250) (n:=20) h hl (by kernel_rfl) (by kernel_rfl) (by kernel_rfl) (by kernel_rfl) (by kernel_rfl) (by kernel_rfl)
 exact⟨h1,_,t,fr,rfl,h2⟩
end Go.Abs
namespace Go.Abs
open Go Go.RowKit Go.Proofs.YteghceocnldccaaGreatDoor
theorem w2w{d:Nat}{ts:List Nat}{xs:List AV}(h:Ux T (d+1) (5::ts) xs):∃(u:Int) (r:List AV),xs= .int .u8 u::r∧(0≤u∧u≤255)∧Ux T (d+1) ts r:=by obtain⟨i,zs,r,hi,rfl,h1,h⟩:=h;rw[T5]at hi;cases hi;simp only[Shp,T5,Vo]at h1;obtain⟨n,rfl,a1,a2⟩:=h1;exact⟨n,r,rfl,⟨a1,a2⟩,h⟩
end Go.Abs
