/- Part Rj of the proof: an abstract machine over the model, and what the functions of the program hand back in its terms. No condition. -/
import Derived.Test.YteghceocnldccaaGreatDoorRi
import Derived.Test.YteghceocnldccaaGreatDoorRg
import Derived.Test.YteghceocnldccaaGreatDoorRf
import Derived.Test.YteghceocnldccaaGreatDoorRc
import Derived.Test.YteghceocnldccaaGreatDoorRe
import Derived.Test.YteghceocnldccaaGreatDoorRh
import Derived.Test.YteghceocnldccaaGreatDoorRb
import Derived.Lay
import Derived.LaidSub
import Derived.Deep.DeepWitnessRowRef
import Derived.Test.YteghceocnldccaaGreatDoorCards
import Derived.Test.YteghceocnldccaaGreatDoorTie
import Derived.Lib.LaidTab
import Derived.Test.YteghceocnldccaaGreatDoorRd
import Derived.Shelf.Vars
set_option linter.all false
open Nat renaming le_trans→yH,zero_le→xD,le_refl→zP,lt_succ_self→uy,min_eq_left→tO,mul_le_mul→u7,one_pos→tZ
open List renaming getElem_mem→zL,take_succ_eq_append_getElem→zU,mem_append→zW,mem_singleton→zQ,getElem_eq_iff→yQ,getElem?_append_right→zH,take_length→yW,range→yO,take_of_length_le→zR,getElem?_eq_getElem→zK,foldl_append→wL,length_append→zZ,mem_of_mem_take→xS,length→vZ,drop_drop→uV,drop_append_of_le_length→vR,take→vu,getElem?_set_ne→zE,range_succ→wH,map_append→yP,flatMap_append→wp,take_range→tI,take_append_drop→xU,mem_range→y_,append_nil→xB,append_assoc→xT,getElem?_append_left→zF,all_eq_true→zX,map_map→vF,find?_cons→uO,find?_eq_none→u5,drop_eq_getElem_cons→xV,drop_length→xF,getD→yX,any_cons→tR,drop_zero→tP,length_map→yB,map_cons→yZ,map_nil→wG
open Int renaming toNat_natCast→ut,natCast_mul→ue
open Bool renaming eq_iff_iff→wt,decide_eq_true→tl,true_or→tV,false_or→tg
set_option maxHeartbeats 8000000
set_option linter.unusedSimpArgs false
set_option maxRecDepth 100000
namespace Go.Abs
open Go Go.Proofs Go.Maps Go.RowKit
attribute [local irreducible] T6 S6 E2 w09 Wx E5 Rt
theorem C6(a:Aut):PC Tryz.prog 26 [encA a] (fun r=>r= .tup [encA (w09 a).2,.i (w09 a).1]):=by
 refine Qk tOk Tryz.func26 rfl Tryz.results26 rfl (by simp[Tryz.ntmps26]) ?_;rw[Tryz.ntmps26];simp only[Qg];simp only[encA];obtain⟨R,hR⟩:∃R,w09 a=R:=⟨_,rfl⟩
 rw[hR];repeat first|(refine r_ ?_;simp)|refine q_ ?_
 refine Qe rfl rfl (by simp) (I9 a) rfl ?_;rintro _ rfl;simp;repeat first|(refine r_ ?_;simp)|refine q_ ?_
 refine Qa rfl (fun h=> ?_) (fun h=> ?_)
 ·have h':Wx a≠0:=by simpa using h
  rw[u11 h']at hR;rw[←hR];repeat first|(refine r_ ?_;simp)|refine q_ ?_
  exact⟨rfl,rfl,rfl⟩
 have z8:Wx a=0:=by simpa using h
 repeat first|(refine r_ ?_;simp)|refine q_ ?_
 refine Qe rfl rfl (by simp) (Jq a) rfl ?_;rintro _ rfl;simp;repeat first|(refine r_ ?_;simp)|refine q_ ?_
 refine Qa rfl (fun h=> ?_) (fun h=> ?_)
 ·have h':(T6 a).1≠0:=by simpa using h
  rw[k0h h']at hR;rw[←hR];repeat first|(refine r_ ?_;simp)|refine q_ ?_
  exact⟨rfl,rfl,rfl⟩
 have hd:(T6 a).1=0:=by simpa using h
 have zc:=fun h=>k1i (a:=a) hd h;have zd:=fun h=>d1r (a:=a) hd h;have ze:=fun h=>z1q (a:=a) z8 hd h;generalize (T6 a).2=d at *
 repeat first|(refine r_ ?_;simp)|refine q_ ?_
 refine Qe rfl rfl (by simp) (F6 d) rfl ?_;rintro _ rfl;simp;repeat first|(refine r_ ?_;simp)|refine q_ ?_
 refine Qa rfl (fun h=> ?_) (fun h=> ?_)
 ·have h':(S6 d).1≠0:=by simpa using h
  rw[zc h']at hR;rw[←hR];repeat first|(refine r_ ?_;simp)|refine q_ ?_
  exact⟨rfl,rfl,rfl⟩
 have hc:(S6 d).1=0:=by simpa using h
 have z7:=zd hc;have ha:=ze hc;rw[hR]at z7;clear zd ze zc;generalize (S6 d).2=c at *
 repeat first|(refine r_ ?_;simp)|refine q_ ?_
 refine Qe rfl rfl (by simp) (Ti c ha.ok) rfl ?_;rintro _ rfl;simp;refine Qe rfl rfl (by simp) (M3 c ha) rfl ?_;rintro _ rfl;simp;repeat first|(refine r_ ?_;simp)|refine q_ ?_
 have zj:=fun(m:Mv) (hm:m∈(E2 c).mv)=>y12 ha hm;have zp:(E2 c).mv.length≤2048:=yH (g0u ha) ha.ok.mvs;have zf:Ms (E2 c)=(E2 c).mv.any fun k=>k.on.any fun s=>decide (256<s.length):=rfl;have zk:(E2 c).types=c.types:=Ns c;generalize E2 c=m at *;refine Wb fun Z hZ=> ?_
 have z1:Z[1]? =some (.vars [.i 0,.nils,.nils]):=by rw[hZ];rfl
 have z4:Z[4]? =some (.vars (Q4 m)):=by rw[hZ];rfl
 clear hZ;refine Qo (Qc (sl':=[(2,.vptr 1 0),(3,.i 0),(8,.vptr 4 0),(39,.list (m.mv.map encMv)),(40,.i m.mv.length),(41,.i (0:Nat))]) ?_ (by simp));refine Qn (P:=Tryz.prog) (F:=fun(u:Nat×List AObj)=>⟨[(2,.vptr 1 0),(3,.i 0),(8,.vptr 4 0),(39,.list (m.mv.map encMv)),(40,.i m.mv.length),(41,.i u.1)],u.2⟩)
  (fun u=>u.1≤m.mv.length∧u.2[1]? =some (.vars [.i 0,.nils,.nils])∧u.2[4]? =some (.vars (Q4 m))∧∀k∈m.mv.take u.1,(k.on.any fun s=>decide (256<s.length))=false) (fun u=>m.mv.length - u.1) ?_ (0,Z) ⟨xD _,z1,z4,by simp⟩
 clear z1 z4;clear Z;rintro⟨j,Z⟩ ⟨hj,z1,z4,za⟩ ih;simp only at hj z1 z4 za ih ⊢;repeat first|(refine r_ ?_;simp)|refine q_ ?_
 refine Qa rfl (fun zl=> ?_) (fun zm=> ?_)
 ·have z6:j<m.mv.length:=by simpa using zl
  have hw:IntKind.i64.wrap ((j:Int)+1)=j+1:=wrap_i64 _ (by omega) (by omega);have zg:=zL z6;have z8:=zj _ zg;have zn:∀k∈m.mv.take (j+1),k∈m.mv.take j∨k=m.mv[j]:=fun k hk=>by
   rw[zU z6]at hk;rcases zW.1 hk with h|h
   ·exact .inl h
   ·exact .inr (zQ.1 h)
  have zh:(m.mv.map encMv)[j]? =some (encMv m.mv[j]):=by simp[z6]
  have zi:∀hh,(m.mv.map encMv)[j]'hh=encMv m.mv[j]:=fun hh=>by simp
  generalize zq:m.mv[j]=k at *;simp only[encMv]at zh zi
  have z4s:∀E,(Z++E)[4]? =some (.vars (Q4 m)):=fun E=>Qb z4 E;have z4h:∀E hh,(Z++E)[4]'hh= .vars (Q4 m):=fun E hh=>(yQ hh).2 (z4s E);repeat first|(refine r_ ?_;simp[zh,zi,z6,z4s,z4h])|refine q_ ?_
  refine Qe rfl rfl (by simp) (P8 m.types k.on) rfl ?_;rintro _ rfl;simp;rw[zk];refine Wb fun Y hY=> ?_;have y1:Y[1]? =some (.vars [.i 0,.nils,.nils]):=by rw[hY];exact Qb z1 _
  have y4:Y[4]? =some (.vars (Q4 m)):=by rw[hY];exact Qb z4 _
  have yx:Y[Z.length]? =some (.vars [.i k.src,.i k.dst,.list (k.on.map encL)]):=by rw[hY,zH (by simp)];simp
  clear hY;have y1s:∀X,(Y.set 1 X)[1]? =some X:=fun X=>Qi y1 X;refine Qa rfl (fun h=> ?_) (fun h=> ?_)
  ·have h':Ms m=true:=by
    rw[zf,List.any_eq_true];refine⟨k,zg,?_⟩;have h2:E5 c.types k.on≠0:=by simpa using h
    cases hb:k.on.any fun s=>decide (256<s.length)with
    |true=>rfl
    |false=>exact absurd (z8.2 hb) h2
   rw[if_pos h']at z7;rw[z7];repeat first|(refine r_ ?_;simp[y1,y1s])|refine q_ ?_
   exact⟨rfl,rfl,rfl⟩
  ·have h2:E5 c.types k.on=0:=by simpa using h
   repeat first|(refine r_ ?_;simp[hw])|refine q_ ?_
   refine Qc (sl':=[(2,.vptr 1 0),(3,.i 0),(8,.vptr 4 0),(39,.list (m.mv.map encMv)),(40,.i m.mv.length),(41,.i (j+1:Nat))]) ?_ (by simp);refine ih (j+1,Y) ⟨by omega,y1,y4,fun k' zo=> ?_⟩ (by simp only;omega);rcases zn k' zo with e|rfl
   ·exact za k' e
   ·exact z8.1 h2
 ·have zb:j=m.mv.length:=by simp at zm;omega
  subst zb;rw[yW]at za;have h':Ms m=false:=by rw[zf,List.any_eq_false];exact fun k hk=>by rw[za k hk];simp
  rw[h',if_neg (by simp)]at z7;rw[z7];have y1s:∀X,(Z.set 1 X)[1]? =some X:=fun X=>Qi z1 X;repeat first|(refine r_ ?_;simp[z4,z1,y1s])|refine q_ ?_
end Go.Abs
namespace Go.Abs
open Go Go.Proofs Go.Maps Go.RowKit
attribute [local irreducible] exM w09 k1o v1u
theorem Vl:PC Tryz.prog 25 [] (fun r=>r= .bool true):=by
 refine Qk tOk Tryz.func25 rfl Tryz.results25 rfl (by simp[Tryz.ntmps25]) ?_;rw[Tryz.ntmps25];simp only[Qg];have z6:yO 2=[0,1]:=rfl;have z7:yO 3=[0,1,2]:=rfl;repeat first|(refine r_ ?_;simp)|refine q_ ?_
 refine Qe rfl rfl (by simp) (U7 true) rfl ?_;rintro _ rfl;simp;refine Qe rfl rfl (by simp) (Vo (exM true)) rfl ?_;rintro _ rfl;simp[q2h];repeat first|(refine r_ ?_;simp)|refine q_ ?_
 refine Qe rfl rfl (by simp) (U7 true) rfl ?_;rintro _ rfl;simp;refine Qe rfl rfl (by simp) (C6 (exM true)) rfl ?_;rintro _ rfl;simp[c13];repeat first|(refine r_ ?_;simp)|refine q_ ?_
 refine Qe rfl rfl (by simp) (U7 true) rfl ?_;rintro _ rfl;simp;refine Qe rfl rfl (by simp) (Iu (exM true) 0 1) rfl ?_;rintro _ rfl;simp[z27];simp[f1m];repeat first|(refine r_ ?_;simp)|refine q_ ?_
 refine Qe rfl rfl (by simp) (U7 false) rfl ?_;rintro _ rfl;simp;refine Qe rfl rfl (by simp) (Iu (exM false) 0 2) rfl ?_;rintro _ rfl;simp[y2h];simp[f1m];repeat first|(refine r_ ?_;simp)|refine q_ ?_
 refine Qe rfl rfl (by simp) (Ao (-1099511627776) 1099511627776) rfl ?_;rintro _ rfl;simp;have z8:IntKind.i64.wrap 0=0:=by decide
 refine P5 (Om tOk rfl ?_);simp[z6];refine Qz (sl':=[(0,.bool false),(1,LI [0,1,1]),(2,.i 0),(3,.vptr 0 0),(4,.i 0),(5,.list []),(6,.bool true),(7,.i 0),(8,LSy [⟨0,5⟩]),(9,.bool true),(10,.i 0),(12,.vptr 4 0)]) ?_ (by simp);refine Wg 2 (e:=4) (c:=1) (xs:=[.bool false,.bool true]) rfl 4 rfl ?_;simp;refine Wg 3 (e:=78) (c:=3) (xs:=x06.mv.map encMv) rfl 4 rfl ?_;have z1:x06.mv.length=2:=rfl;simp[z1];rw[zR (by simp[z1])];repeat first|(refine r_ ?_;simp[z8,z7])|refine q_ ?_
 refine Rp 5 rfl ?_;simp;refine Qe rfl rfl (by simp) (g06 [0,1,1] [0,1,1]) rfl ?_;rintro _ rfl;simp;repeat first|(refine r_ ?_;simp)|refine q_ ?_
 refine Qe rfl rfl (by simp) (y1n x06) rfl ?_;rintro _ rfl;simp;repeat first|(refine r_ ?_;simp)|refine q_ ?_
 refine Rp 6 rfl ?_;simp;refine Qe rfl rfl (by simp) (u0a [⟨0,5⟩] [⟨0,5⟩]) rfl ?_;rintro _ rfl;simp;repeat first|(refine r_ ?_;simp)|refine q_ ?_
end Go.Abs
namespace Go.Abs
open Go Go.Proofs Go.Maps Go.RowKit
theorem Bm{sc:Int→List Int}{n:Nat}{o:List Int}(h:o.length≤n):∀f,Pb sc f n o=o
 |0=>rfl
 |f+1=>by unfold Pb;rw[List.getElem?_eq_none h]
theorem Vf{sc:Int→List Int}{n:Nat}{o:List Int}(h:n<o.length)(f:Nat):Pb sc (f+1) n o=Pb sc f (n+1) (Wk o (sc o[n])):=by
 conv=>lhs;unfold Pb
 rw[zK h]
theorem Ge(o:List Int)(l:List Int){j:Nat}(h:j<l.length):Wk o (l.take (j+1))=addI (Wk o (l.take j)) l[j]:=by unfold Wk;rw[zU h,wL];rfl
structure CS (a:Aut) (n:Nat) (O:List Int) (f:Nat):Prop where
 fuel:a.fin.length+1≤n+f
 le:n≤O.length
 nd:O.Nodup
 rg:∀c∈O,0≤c∧c<(a.fin.length:Int)
 eq:Pw a=((Pb (H9 a) f n O).length==a.fin.length)
theorem CS.len{a:Aut}{n:Nat}{O:List Int}{f:Nat}(h:CS a n O f):O.length≤a.fin.length:=by have:=h.nd.length_le_of_subset (l₂:=Ey a.fin.length) fun c hx=>Ew.2 (h.rg c hx);simpa[Ey]using this
theorem CS.start{a:Aut}(ha:Dfa a):CS a 0 [0] (a.fin.length+1):=by have:=ha.ok.fin;exact⟨by omega,by simp,by simp,fun c hc=>by rw[zQ.1 hc];omega,rfl⟩
theorem CS.stop{a:Aut}{n:Nat}{O:List Int}{f:Nat}(h:CS a n O f)(hn:O.length≤n):Pw a=(O.length==a.fin.length):=by rw[h.eq,Bm hn]
theorem CS.step{a:Aut}(ha:Dfa a){n:Nat}{O:List Int}{f:Nat}(h:CS a n O f)(hn:n<O.length):∃f',f=f'+1∧CS a (n+1) (Wk O (H9 a O[n])) f':=by
 have hl:=h.len;have hf:=h.fuel;obtain⟨f',rfl⟩:∃f',f=f'+1:=⟨f - 1,by omega⟩
 obtain⟨⟨r,h1,h2⟩,h3,_⟩:=Tp (H9 a O[n]) O h.nd;refine⟨f',rfl,by omega,by rw[h1,zZ];omega,h3,fun c hc=> ?_,by rw[h.eq,Vf hn]⟩;rw[h1]at hc;rcases zW.1 hc with hc|hc
 ·exact h.rg c hc
 ·exact Jb ha _ (h.rg _ (zL hn)) c (h2 c hc)
structure IS (a:Aut) (O:List Int) (P:List Int):Prop where
 nd:P.Nodup
 le:O.length≤P.length
 rg:∀c∈P,0≤c∧c<(a.fin.length:Int)
theorem CS.inner{a:Aut}(ha:Dfa a){n:Nat}{O:List Int}{f:Nat}(h:CS a n O f)(hn:n<O.length)(j:Nat):IS a O (Wk O ((H9 a O[n]).take j)):=by
 obtain⟨⟨r,h1,h2⟩,h3,_⟩:=Tp ((H9 a O[n]).take j) O h.nd;refine⟨h3,by rw[h1,zZ];omega,fun c hc=> ?_⟩;rw[h1]at hc;rcases zW.1 hc with hc|hc
 ·exact h.rg c hc
 ·exact Jb ha _ (h.rg _ (zL hn)) c (xS (h2 c hc))
structure QS (xs:List Int) (off L:Nat) (O:List Int) (n:Nat):Prop where
 len:off+L=xs.length
 eq:xs.drop off=O.drop n
 le:off≤n
theorem QS.pos{xs:List Int}{off L:Nat}{O:List Int}{n:Nat}(h:QS xs off L O n)(hn:n≤O.length):L=O.length - n:=by have:=congrArg vZ h.eq;have:=h.len;simp at *;omega
theorem QS.head{xs:List Int}{off L:Nat}{O:List Int}{n:Nat}(h:QS xs off L O n)(hn:n<O.length):xs[off]? =some O[n]:=by have:=congrArg (fun l=>l[0]?) h.eq;simpa[List.getElem?_drop,hn]using this
theorem QS.tail{xs:List Int}{off L:Nat}{O:List Int}{n:Nat}(h:QS xs off L O n)(hn:n<O.length):QS xs (off+1) (L - 1) O (n+1):=by have h1:=h.pos (by omega);have h2:=h.len;refine⟨by omega,?_,by have:=h.le;omega⟩;have:=congrArg (List.drop 1) h.eq;simpa[uV,Nat.add_comm]using this
theorem QS.add{xs:List Int}{off L:Nat}{O:List Int}{n:Nat}(h:QS xs off L O n)(hn:n≤O.length)(t:Int):QS (xs++[t]) off (L+1) (O++[t]) n:=by have h2:=h.len;refine⟨by simp;omega,?_,h.le⟩;rw[vR (by omega),vR hn,h.eq]
theorem QS.cut{xs:List Int}{off L:Nat}{O:List Int}{n:Nat}(h:QS xs off L O n)(hn:n≤O.length)(t:Int):QS (xs.drop off++[t]) 0 (L+1) (O++[t]) n:=by have h2:=h.len;refine⟨by simp;omega,?_,xD _⟩;rw[vR hn,h.eq];rfl
theorem IS.len{a:Aut}{O P:List Int}(h:IS a O P):P.length≤a.fin.length:=by have:=h.nd.length_le_of_subset (l₂:=Ey a.fin.length) fun c hx=>Ew.2 (h.rg c hx);simpa[Ey]using this
end Go.Abs
namespace Go.Abs
open Go Go.Proofs Go.Maps Go.RowKit
attribute [local irreducible] Pw Pb Wk Q1 Rt
theorem w0n(a:Aut)(ha:Dfa a):PC Tryz.prog 94 [Ei a] (fun r=>r= .bool (Pw a)):=by
 have y1:=ha.ok.fin;refine Qk tOk Tryz.func94 rfl Tryz.results94 rfl (by simp[Tryz.ntmps94]) ?_;rw[Tryz.ntmps94];simp only[Qg];simp only[Ei,Q6];repeat first|(refine r_ ?_;simp)|refine q_ ?_
 refine Rn rfl rfl rfl ?_;simp;refine z07 rfl rfl rfl rfl rfl rfl rfl (by decide) ?_;simp;repeat first|(refine r_ ?_;simp)|refine q_ ?_
 refine Qo (Qc (sl':=[(1,.vptr 0 0),(2,.bool false),(3,.mref 1),(4,.sl 2 1 0 1)]) ?_ (by simp));refine Qn (P:=Tryz.prog) (F:=fun(u:Nat×Nat×List Int×Nat×Nat×Nat×List Int×List AObj)=>⟨[(1,.vptr 0 0),(2,.bool false),(3,.mref 1),(4,.sl u.2.2.2.1 1 u.2.2.2.2.1 u.2.2.2.2.2.1)],u.2.2.2.2.2.2.2⟩)
  (fun u=>CS a u.2.1 u.2.2.1 u.1∧QS u.2.2.2.2.2.2.1 u.2.2.2.2.1 u.2.2.2.2.2.1 u.2.2.1 u.2.1∧u.2.2.2.2.2.2.2[0]? =some (.vars [.i a.types,.list (a.fin.map .bool),.list (a.mv.map encMv),.list (Rt a)])∧u.2.2.2.2.2.2.2[1]? =some (stM u.2.2.1)∧u.2.2.2.2.2.2.2[u.2.2.2.1]? =some (.arr 3 1 (u.2.2.2.2.2.2.1.map AV.i))∧1<u.2.2.2.1) (fun u=>u.1) ?_ (a.fin.length+1,0,[0],2,0,1,[0],_) ⟨CS.start ha,⟨rfl,rfl,zP _⟩,rfl,rfl,rfl,uy 1⟩
 rintro⟨f,n,O,q,off,L,xs,G⟩ ⟨z8,z1,g0,g1,gq,hq⟩ ih;simp only at z8 z1 g0 g1 gq hq ih ⊢;have zl:=z1.pos z8.le;repeat first|(refine r_ ?_;simp)|refine q_ ?_
 refine Qa rfl (fun zd=> ?_) (fun ze=> ?_)
 ·have hL:0<L:=by simpa using zd
  have hn:n<O.length:=by omega
  obtain⟨f',rfl,zf⟩:=z8.step ha hn;have zr:=z8.inner ha hn;have hc:=z8.rg _ (zL hn);have hx:=z1.head hn;have zt:=fun n' O' q' z6 L' zg G' h=>ih (f',n',O',q',z6,L',zg,G') h (uy _);clear ih;have hO:=fun j=>Ge (j:=j) O (H9 a O[n]);generalize O[n]=c at *
  have hm:=A5 hc;have zu:(Rt a).length=a.fin.length:=by unfold Rt;simp
  obtain⟨k,rfl⟩:∃k:Nat,c=k:=⟨c.toNat,by have:=hc.1;omega⟩
  have hk:k<a.fin.length:=by have:=hc.2;omega
  simp only[ut,T0]at hm;have zv:∀hh,(Rt a)[k]'hh= .list ((Q1 a k).map encMv):=fun hh=>(yQ hh).2 hm;have zm:(xs.map AV.i)[off]? =some (.i k):=by simp[hx]
  repeat first|(refine r_ ?_;simp[g0,hx,hm])|refine q_ ?_
  refine Qm tOk mixed [] (.val 0 (.val 1 (.val 2 (.val 3 (.val 4 (.val 5 (.val 6 (.val 7 (.val 8 (.done)))))))))) rfl (by kernel_rfl) ?_;simp[g0,gq,hx,hm,hL,zm,zu,hk,zv];repeat first|(refine r_ ?_;simp)|refine q_ ?_
  have y2:(H9 a k).length=(Q1 a k).length:=by unfold H9;simp
  have zh:Wk O (vu 0 (H9 a k))=O:=by unfold Wk;rfl
  have y3:(Q1 a k).length≤2048:=yH (Oo a k) ha.ok.mvs;refine Qo (Qc (sl':=[(1,.vptr 0 0),(2,.bool false),(3,.mref 1),(4,.sl q 1 off L),(21,.list ((Q1 a k).map encMv)),(22,.i (Q1 a k).length),(23,.i (0:Nat))]) ?_ (by simp));refine Qn (P:=Tryz.prog) (F:=fun(u:Nat×Nat×Nat×Nat×List Int×List AObj)=>⟨[(1,.vptr 0 0),(2,.bool false),(3,.mref 1),(4,.sl u.2.1 1 u.2.2.1 u.2.2.2.1),(21,.list ((Q1 a k).map encMv)),(22,.i (Q1 a k).length),(23,.i u.1)],u.2.2.2.2.2⟩)
   (fun u=>u.1≤(Q1 a k).length∧QS u.2.2.2.2.1 u.2.2.1 u.2.2.2.1 (Wk O (vu u.1 (H9 a k))) n∧u.2.2.2.2.2[0]? =some (.vars [.i a.types,.list (a.fin.map .bool),.list (a.mv.map encMv),.list (Rt a)])∧u.2.2.2.2.2[1]? =some (stM (Wk O (vu u.1 (H9 a k))))∧u.2.2.2.2.2[u.2.1]? =some (.arr 3 1 (u.2.2.2.2.1.map AV.i))∧1<u.2.1) (fun u=>(Q1 a k).length - u.1) ?_ (0,q,off,L,xs,G) ⟨xD _,by rw[zh];exact z1,g0,by rw[zh];exact g1,gq,hq⟩
  clear z1 g0 g1 gq hq hx zm zl hL zd zh;clear xs G q off L;rintro⟨j,q,off,L,xs,G⟩ ⟨hj,z1,g0,g1,gq,hq⟩ ih;simp only at hj z1 g0 g1 gq hq ih ⊢;have hi:=zr j;have za:n≤(Wk O (vu j (H9 a k))).length:=yH (Nat.le_of_lt hn) hi.le;repeat first|(refine r_ ?_;simp)|refine q_ ?_
  refine Qa rfl (fun zd=> ?_) (fun ze=> ?_)
  ·have zb:j<(Q1 a k).length:=by simpa using zd
   have hw:IntKind.i64.wrap ((j:Int)+1)=j+1:=wrap_i64 _ (by omega) (by omega);have zi:=hO j (by omega);have zj:(H9 a k)[j]'(by omega)=((Q1 a k)[j]).dst:=by unfold H9;simp
   rw[zj]at zi;have z7:=fun q' z6 L' zg G'=>ih (j+1,q',z6,L',zg,G');simp only[zi]at z7;have y4:0≤((Q1 a k)[j]).dst∧((Q1 a k)[j]).dst<(a.fin.length:Int):=Jb ha _ hc _ (by rw[←zj];exact zL _);clear zi zj;have zn:((Q1 a k).map encMv)[j]? =some (encMv (Q1 a k)[j]):=by simp[zb]
   have zo:∀hh,((Q1 a k).map encMv)[j]'hh=encMv (Q1 a k)[j]:=fun hh=>by simp
   generalize (Q1 a k)[j]=m at *;generalize Wk O (vu j (H9 a k))=P at *;simp only[encMv]at zn zo
   repeat first|(refine r_ ?_;simp[zn,zo,zb])|refine q_ ?_
   have zp:∀z∈P,0≤z∧z≤1000000:=fun z hz=>by have:=hi.rg z hz;omega
   refine Mj rfl rfl rfl rfl rfl (Qb g1 _) zp (by omega) ?_;simp;repeat first|(refine r_ ?_;simp)|refine q_ ?_
   by_cases hmem:m.dst∈P
   ·refine Qa rfl (fun h=>by simp[hmem]at h) (fun _=> ?_);have hA:addI P m.dst=P:=by unfold addI;rw[if_pos hmem]
    rw[hA]at z7;repeat first|(refine r_ ?_;simp[hw])|refine q_ ?_
    refine Qc (sl':=[(1,.vptr 0 0),(2,.bool false),(3,.mref 1),(4,.sl q 1 off L),(21,.list ((Q1 a k).map encMv)),(22,.i (Q1 a k).length),(23,.i (j+1:Nat))]) ?_ (by simp);exact z7 q off L xs _ ⟨by omega,z1,Qb g0 _,Qb g1 _,Qb gq _,hq⟩ (by omega)
   ·refine Qa rfl (fun _=> ?_) (fun h=>by simp[hmem]at h);have hA:addI P m.dst=P++[m.dst]:=by unfold addI;rw[if_neg hmem]
    rw[hA]at z7;repeat first|(refine r_ ?_;simp)|refine q_ ?_
    refine v0g rfl rfl rfl rfl rfl rfl (Qb g1 _) zp (by omega) hmem ?_;simp;refine Wb fun H hH=> ?_;have zq:H[G.length]? =some (.vars [.i m.src,.i m.dst,.list (m.on.map encL)]):=by rw[hH,zE (by have:=Qh g1;omega)];simp
    have h0:H[0]? =some (.vars [.i a.types,.list (a.fin.map .bool),.list (a.mv.map encMv),.list (Rt a)]):=by rw[hH,zE (by decide)];exact Qb g0 _
    have h1:H[1]? =some (stM (P++[m.dst])):=by rw[hH];exact Qi (Qb g1 _) _
    have zc:H[q]? =some (.arr 3 1 (xs.map AV.i)):=by rw[hH,zE (by omega)];exact Qb gq _
    have y5:1<G.length:=Qh g1;clear hH g0 g1 gq;generalize G.length=b at *;clear G
    have zl:=z1.pos za;have hle:=z1.le;have y6:=z1.len;have zw:=hi.len;have y7:xs.length≤256:=by omega
    have y8:=Qh zc;have y9:∀E:List AObj,(H++E)[H.length]? =E[0]? :=fun E=>by rw[zH (zP _),Nat.sub_self]
    by_cases ho:off=0
    ·subst ho;obtain rfl:L=xs.length:=by omega
     repeat first|(refine r_ ?_;simp[zq])|refine q_ ?_
     refine Qf tOk rfl rfl T40 rfl T3 rfl (by decide) (by decide) rfl rfl rfl ?_;simp[Qb zc];refine⟨by simp[Wi,Qb zc]<;>omega,?_⟩;repeat first|(refine r_ ?_;simp[hw])|refine q_ ?_
     refine Qc (sl':=[(1,.vptr 0 0),(2,.bool false),(3,.mref 1),(4,.sl (H.length+1) 1 0 (xs.length+1)),(21,.list ((Q1 a k).map encMv)),(22,.i (Q1 a k).length),(23,.i (j+1:Nat))]) ?_ (by simp);exact z7 (H.length+1) 0 (xs.length+1) (xs++[m.dst]) _ ⟨by omega,z1.add za _,Qb (Qd (by omega) (Qb h0 _) _) _,Qb (Qd (by omega) (Qb h1 _) _) _,by rw[zH (by simp)];simp,by omega⟩ (by omega)
    ·repeat first|(refine r_ ?_;simp[zq])|refine q_ ?_
     refine Lr tOk rfl rfl T40 rfl T3 (by decide) (by decide) rfl rfl (Qb zc _) (by omega) (by simp;omega) (by simp) (ys:=[.i m.dst]) (by simp) (by simp[AV.cells,AV.leaf]) (by simp;omega) (by simp;omega) rfl ?_ ?_
     ·simp;repeat first|(refine r_ ?_;simp[hw])|refine q_ ?_
      refine Qc (sl':=[(1,.vptr 0 0),(2,.bool false),(3,.mref 1),(4,.sl q 1 off (L+1)),(21,.list ((Q1 a k).map encMv)),(22,.i (Q1 a k).length),(23,.i (j+1:Nat))]) ?_ (by simp);exact z7 q off (L+1) (xs++[m.dst]) _ ⟨by omega,z1.add za _,Qd (by omega) (Qb h0 _) _,Qd (by omega) (Qb h1 _) _,by rw[List.getElem?_set_self (by have:=Qh zc;simp;omega)];simp,hq⟩ (by omega)
     ·simp;repeat first|(refine r_ ?_;simp[hw])|refine q_ ?_
      refine Qc (sl':=[(1,.vptr 0 0),(2,.bool false),(3,.mref 1),(4,.sl (H.length+1) 1 0 (L+1)),(21,.list ((Q1 a k).map encMv)),(22,.i (Q1 a k).length),(23,.i (j+1:Nat))]) ?_ (by simp);exact z7 (H.length+1) 0 (L+1) (xs.drop off++[m.dst]) _ ⟨by omega,z1.cut za _,Qb (Qd (by omega) (Qb h0 _) _) _,Qb (Qd (by omega) (Qb h1 _) _) _,by rw[zH (by simp)];simp,by omega⟩ (by omega)
  ·have zx:j=(Q1 a k).length:=by simp at ze;omega
   subst zx;have zy:vu (Q1 a k).length (H9 a k)=H9 a k:=zR (by omega);rw[zy]at z1 g1 za hi;have ya:=z1.pos za;have zw:=hi.le;have zz:(1:Int)≤L:=by omega
   repeat first|(refine r_ ?_;simp[zz])|refine q_ ?_
   refine Qc (sl':=[(1,.vptr 0 0),(2,.bool false),(3,.mref 1),(4,.sl q 1 (off+1) (L - 1))]) ?_ (by simp);exact zt (n+1) _ q (off+1) (L - 1) xs G ⟨zf,z1.tail (by omega),g0,g1,gq,hq⟩
 ·have zk:O.length≤n:=by simp at ze;omega
  have y0:=z8.stop zk;rw[y0];repeat first|(refine r_ ?_;simp)|refine q_ ?_
  refine x0o tOk rfl rfl rfl w2g rfl rfl g1 ?_;simp[g0];repeat first|(refine r_ ?_;simp)|refine q_ ?_
  rw[wt,beq_iff_eq,beq_iff_eq];omega
end Go.Abs
namespace Go.Abs
open Go Go.Proofs Go.Maps Go.RowKit
def Tb(p j:Nat):List (Int×Int):=(yO j).map fun r:Nat=>((p:Int),(p:Int)+1+(r:Int))
def Ym(n i:Nat):List (Int×Int):=(yO i).flatMap fun p=>Tb p (n - 1 - p)
def prs(n:Nat):List (Int×Int):=Ym n n
theorem K0(p j:Nat):Tb p (j+1)=Tb p j++[((p:Int),(p:Int)+1+(j:Int))]:=by unfold Tb;rw[wH,yP];rfl
theorem Ix(n i:Nat):Ym n (i+1)=Ym n i++Tb i (n - 1 - i):=by unfold Ym;rw[wH,wp];simp
theorem Be(p:Nat){j m:Nat}(h:j≤m):∃r,Tb p m=Tb p j++r:=by
 refine⟨((yO m).drop j).map fun r:Nat=>((p:Int),(p:Int)+1+(r:Int)),?_⟩;have:yO j=(yO m).take j:=by rw[tI,tO h]
 unfold Tb;rw[this,←yP,xU]
theorem Lt(n:Nat){i m:Nat}(h:i≤m):∃r,Ym n m=Ym n i++r:=by
 refine⟨((yO m).drop i).flatMap fun p=>Tb p (n - 1 - p),?_⟩;have:yO i=(yO m).take i:=by rw[tI,tO h]
 unfold Ym;rw[this,←wp,xU]
theorem B6{n:Nat}{e:Int×Int}(h:e∈prs n):0≤e.1∧e.1<e.2∧e.2<(n:Int):=by unfold prs Ym Tb at h;obtain⟨p,hp,h⟩:=List.mem_flatMap.1 h;obtain⟨r,hr,rfl⟩:=List.mem_map.1 h;have:=y_.1 hp;have:=y_.1 hr;simp only;omega
theorem X6(n:Nat):∀i,i≤n→2 * (Ym n i).length+(n - i) * (n - i - 1)=n * (n - 1)
 |0,_=>by simp[Ym]
 |i+1,h=>by
  have ih:=X6 n i (by omega);rw[Ix,zZ];have hl:(Tb i (n - 1 - i)).length=n - 1 - i:=by simp[Tb]
  rw[hl];obtain⟨k,hk⟩:∃k,n - i=k+1:=⟨n - i - 1,by omega⟩
  rw[hk]at ih;rw[show n - (i+1)=k by omega,show n - 1 - i=k by omega];rw[←ih];cases k with
  |zero=>simp
  |succ k=>simp only[Nat.add_sub_cancel,Nat.mul_add,Nat.add_mul];omega
theorem Zy(n:Nat):(prs n).length=n * (n - 1) / 2:=by have:=X6 n n (zP _);unfold prs;simp at this;omega
attribute [local irreducible] Tb Ym
theorem q05(n:Int):PC Tryz.prog 95 [.i n] (fun r=>r= .fn (.func 153) [] [.iptr [.i n]]):=by refine Qk tOk Tryz.func95 rfl Tryz.results95 rfl (by simp[Tryz.ntmps95]) ?_;rw[Tryz.ntmps95];simp only[Qg];repeat first|(refine r_ ?_;simp)|refine q_ ?_
theorem Ck (n:Nat) (hn:n≤1000000) (l:Nat) {z1:Nat} {sl':List (Nat×AV)} {ps:List Tmp} {asg body:Code} (zg:ps.length=2) (zh:(ps.all fun p=>decide (p<z1))=true)
  (Inv:List (Int×Int)→List AObj→Prop) (Done:Code→List AObj→Prop) (H0:List AObj)
  (hI:∀k H,Inv k H→H[l]? =some (.lp true none z1 sl' ps asg body))
  (z6:∀pre e post H,prs n=pre++e::post→Inv pre H→AWP Tryz.prog z1 H.length asg (P4 (AWP Tryz.prog z1 H.length body (w04 l (fun jm K2=>(jm=none∧Inv (pre++[e]) (K2.set l (.lp true none z1 sl' ps asg body)))∨∃c,jm=some c∧Done c (K2.set l (.lp false (some c) z1 sl' ps asg body))))) (fun _ _=>False)) ⟨Tn sl' ps [.i e.1,.i e.2],H.set l .dead⟩)
  (h0:Inv [] H0):FC Tryz.prog 153 [.yld l,.iptr [.i n]] H0 (fun _ H'=>Inv (prs n) H'∨∃c,Done c H'):=by
 refine W6 tOk Tryz.func153 rfl Tryz.results153 rfl (by simp[Tryz.ntmps153]) ?_;rw[Tryz.ntmps153];simp only[Qg];repeat first|(refine r_ ?_;simp)|refine q_ ?_
 refine Qo (Qc (sl':=[(0,.yld l),(1,.iptr [.i n]),(5,.i n),(6,.i (0:Nat))]) ?_ (by simp));refine Qn (P:=Tryz.prog) (F:=fun(u:Nat×List AObj)=>⟨[(0,.yld l),(1,.iptr [.i n]),(5,.i n),(6,.i u.1)],u.2⟩)
  (fun u=>u.1≤n∧Inv (Ym n u.1) u.2) (fun u=>n - u.1) ?_ (0,H0) ⟨xD _,by rw[show Ym n 0=[] by unfold Ym;rfl];exact h0⟩
 rintro⟨i,H⟩ ⟨hi,hv⟩ ih;simp only at hi hv ih ⊢;repeat first|(refine r_ ?_;simp)|refine q_ ?_
 refine Qa rfl (fun zi=> ?_) (fun zj=> ?_)
 ·have zk:i<n:=by simpa using zi
  have hw:IntKind.i64.wrap ((i:Int)+1)=i+1:=wrap_i64 _ (by omega) (by omega);have zc:=Ix n i;obtain⟨rp,zl⟩:=Lt n (show i+1≤n by omega);have zd:=fun H'=>ih (i+1,H');simp only[zc]at zd;repeat first|(refine r_ ?_;simp[hw])|refine q_ ?_
  refine Qo (Qc (sl':=[(0,.yld l),(1,.iptr [.i n]),(3,.i i),(4,.i (i+1+0:Nat)),(5,.i n),(6,.i i)]) ?_ (by simp));refine Qn (P:=Tryz.prog) (F:=fun(u:Nat×List AObj)=>⟨[(0,.yld l),(1,.iptr [.i n]),(3,.i i),(4,.i (i+1+u.1:Nat)),(5,.i n),(6,.i i)],u.2⟩)
   (fun u=>u.1≤n - 1 - i∧Inv (Ym n i++Tb i u.1) u.2) (fun u=>n - 1 - i - u.1) ?_ (0,H) ⟨xD _,by rw[show Tb i 0=[] by unfold Tb;rfl,xB];exact hv⟩
  clear hv ih;clear H;rintro⟨j,G⟩ ⟨hj,gv⟩ ih2;simp only at hj gv ih2 ⊢;repeat first|(refine r_ ?_;simp)|refine q_ ?_
  refine Qa rfl (fun z8=> ?_) (fun za=> ?_)
  ·have ze:i+1+j<n:=by simp at z8;omega
   have zm:IntKind.i64.wrap ((i:Int)+1+j+1)=i+1+j+1:=wrap_i64 _ (by omega) (by omega);have zf:=K0 i j;obtain⟨r1,zn⟩:=Be i (show j+1≤n - 1 - i by omega);have z7:=fun H'=>ih2 (j+1,H');simp only[zf]at z7;repeat first|(refine r_ ?_;simp)|refine q_ ?_
   have i1:=hI _ _ gv;have zo:=z6 (Ym n i++Tb i j) ((i:Int),(i:Int)+1+j) (r1++rp) G (by unfold prs;rw[zl,zc,zn,zf];simp) gv;refine Uu rfl rfl (q:=l) rfl rfl i1 zg zh rfl (fun jm K2=>(jm=none∧Inv (Ym n i++Tb i j++[((i:Int),(i:Int)+1+j)]) (K2.set l (.lp true none z1 sl' ps asg body)))∨∃c,jm=some c∧Done c (K2.set l (.lp false (some c) z1 sl' ps asg body))) ?_ ?_
   ·exact zo
   ·rintro jm K2 (⟨rfl,hK⟩|⟨c,rfl,hD⟩)
    ·simp;repeat first|(refine r_ ?_;simp)|refine q_ ?_
     refine Qa rfl (fun h=>by cases h) (fun _=> ?_);repeat first|(refine r_ ?_;simp[zm])|refine q_ ?_
     refine Qc (sl':=[(0,.yld l),(1,.iptr [.i n]),(3,.i i),(4,.i (i+1+(j+1):Nat)),(5,.i n),(6,.i i)]) ?_ (by simp;omega);exact z7 _ ⟨by omega,by rw[←xT];exact hK⟩ (by omega)
    ·simp;repeat first|(refine r_ ?_;simp)|refine q_ ?_
     refine Qa rfl (fun _=> ?_) (fun h=>by cases h);repeat first|(refine r_ ?_;simp)|refine q_ ?_
     exact .inr ⟨c,hD⟩
  ·have zp:j=n - 1 - i:=by simp at za;omega
   subst zp;repeat first|(refine r_ ?_;simp[hw])|refine q_ ?_
   refine Qc (sl':=[(0,.yld l),(1,.iptr [.i n]),(5,.i n),(6,.i (i+1:Nat))]) ?_ (by simp);exact zd G ⟨by omega,gv⟩ (by omega)
 ·have zb:i=n:=by simp at zj;omega
  subst zb;repeat first|(refine r_ ?_;simp)|refine q_ ?_
  exact .inl hv
end Go.Abs
namespace Go.Abs
open Go Go.Proofs Go.Maps Go.RowKit
def wdR(a:Aut)(e:Int×Int):List Sy:=Yo a (Es a) ((lkN (Es a) e).getD 0) e
def Wj(x:(Int×Int)×List Sy):AV:= .agg [.i x.1.1,.i x.1.2,LSy x.2]
def q1u(a:Aut):List ((Int×Int)×List Sy)×Int:=
 if Tf a≠0 then([],Tf a)else if 4096<a.fin.length * (a.fin.length - 1) / 2 then([],5)else if Pw a=false then([],18)
 else if(prs a.fin.length).all (fun e=>(lkN (Es a) e).isSome)then((prs a.fin.length).map fun e=>(e,wdR a e),0)else([],18)
structure RfI (a:Aut) (M N l q:Nat) (xs:List AV) (H:List AObj):Prop where
 h1:H[1]? =some (.vars [.nils])
 h2:H[2]? =some (.vars [.i 0])
 h3:H[3]? =some (.vars [.i a.types,.list (a.fin.map .bool),.list (a.mv.map encMv),.list (Rt a)])
 hM:H[M]? =some (mpN (Es a))
 hN:H[N]? =some (.vars [.mref M])
 ho:H[N+1]? =some (.vars [.sl q 3 0 xs.length])
 ha:H[q]? =some (.arr 147 3 xs)
 bd:4≤M∧M<N∧N+1<q∧q≠l∧N+2<l
theorem RfI.put{a:Aut}{M N l q:Nat}{xs:List AV}{H:List AObj}(h:RfI a M N l q xs H)(y:AObj):RfI a M N l q xs (H.set l y):=by have:=h.bd;exact⟨Qd (by omega) h.h1 _,Qd (by omega) h.h2 _,Qd (by omega) h.h3 _,Qd (by omega) h.hM _,Qd (by omega) h.hN _,Qd (by omega) h.ho _,Qd (by omega) h.ha _,h.bd⟩
theorem RfI.keep{a:Aut}{M N l q:Nat}{xs:List AV}{H X:List AObj}(h:RfI a M N l q xs H)(hk:∀i,i<H.length→X[i]? =H[i]?):RfI a M N l q xs X:=by have f:∀ {i:Nat} {x:AObj},H[i]? =some x→X[i]? =some x:=fun hi=>(hk _ (Qh hi)).trans hi;exact⟨f h.h1,f h.h2,f h.h3,f h.hM,f h.hN,f h.ho,f h.ha,h.bd⟩
theorem RfI.push{a:Aut}{M N l q:Nat}{xs:List AV}{X:List AObj}(h:RfI a M N l q xs X)(hl:l<X.length)(z:AObj)(ys:List AV)(y:AV)(hy:ys=xs++[y])(n:Nat)(hn:n=xs.length+1):RfI a M N l (X.length+1) (xs++[y]) (((X++[z]).set q .dead++[AObj.arr 147 3 ys]).set (N+1) (.vars [.sl (X.length+1) 3 0 n])):=by
 subst hy hn;have b:=h.bd;have z1:=Qh h.ha;have f:∀ {i:Nat} {x:AObj},i≠q→i≠N+1→X[i]? =some x→(((X++[z]).set q .dead++[AObj.arr 147 3 (xs++[y])]).set (N+1) (.vars [.sl (X.length+1) 3 0 (xs.length+1)]))[i]? =some x:=fun h1 h2 hi=>Qd (Ne.symm h2) (Qb (Qd (Ne.symm h1) (Qb hi _) _) _) _;refine⟨f (by omega) (by omega) h.h1,f (by omega) (by omega) h.h2,f (by omega) (by omega) h.h3,f (by omega) (by omega) h.hM,f (by omega) (by omega) h.hN,?_,?_,⟨by omega,by omega,by omega,by omega,by omega⟩⟩
 ·rw[zZ];exact Qi (Qb (Qd (by omega) (Qb h.ho _) _) _) _
 ·rw[zE (by omega),zH (by simp)];simp
def c1i(a:Aut):Prop:=∀e∈prs a.fin.length,(lkN (Es a) e).isSome=true
def j12(a:Aut)(l:List (Int×Int)):Prop:=∀e∈l,(lkN (Es a) e).isSome=true
def v1w(a:Aut):Prop:=∃e∈prs a.fin.length,lkN (Es a) e=none
attribute [local simp] T60 c0j
attribute [local irreducible] Tf I8 Q1 Eh Rt Wo R0 lkN Es P7 clA Yo Pw prs
theorem y00(a:Aut):PC Tryz.prog 36 [encA a] (fun r=>r= .tup [.list ((q1u a).1.map Wj),.i (q1u a).2]):=by
 refine Qk tOk Tryz.func36 rfl Tryz.results36 rfl (by simp[Tryz.ntmps36]) ?_;rw[Tryz.ntmps36];simp only[Qg];simp only[encA];obtain⟨R,hR⟩:∃R,q1u a=R:=⟨_,rfl⟩
 rw[hR];unfold q1u at hR;repeat first|(refine r_ ?_;simp)|refine q_ ?_
 refine Qe rfl rfl (by simp) (F2 a) rfl ?_;rintro _ rfl;simp;repeat first|(refine r_ ?_;simp)|refine q_ ?_
 refine Qa rfl (fun h=> ?_) (fun h=> ?_)
 ·rw[if_pos (by simpa using h)]at hR;rw[←hR];repeat first|(refine r_ ?_;simp)|refine q_ ?_
 have h0:Tf a=0:=by simpa using h
 have ha:=(O6 a).1 h0;have zr:=ha.ok.fin;rw[if_neg (fun k=>k h0)]at hR;have ze:IntKind.i64.wrap ((a.fin.length:Int) - 1)=(a.fin.length:Int) - 1:=wrap_i64 _ (by omega) (by omega);obtain⟨k,hk⟩:∃k:Nat,a.fin.length * (a.fin.length - 1)=k:=⟨_,rfl⟩
 have y4:k≤65536:=by rw[←hk];exact yH (u7 zr.2 (show a.fin.length - 1≤256 by omega)) (by decide)
 have zf:(a.fin.length:Int) * ((a.fin.length:Int) - 1)=k:=by rw[←hk,show(a.fin.length:Int) - 1=((a.fin.length - 1:Nat):Int) by omega,←ue]
 have zg:IntKind.i64.wrap ((a.fin.length:Int) * ((a.fin.length:Int) - 1))=k:=by rw[zf];exact wrap_i64 _ (by omega) (by omega)
 have za:IntKind.i64.wrap ((k:Int) / 2)=((k / 2:Nat):Int):=by rw[wrap_i64 _ (by omega) (by omega)];omega
 rw[hk]at hR;obtain⟨k2,z1⟩:∃k2,k / 2=k2:=⟨_,rfl⟩
 rw[z1]at za hR;repeat first|(refine r_ ?_;simp[ze,zg,za])|refine q_ ?_
 refine Qa rfl (fun h=> ?_) (fun h=> ?_)
 ·rw[if_pos (by simp at h;omega)]at hR;rw[←hR];repeat first|(refine r_ ?_;simp)|refine q_ ?_
 have y5:k2≤4096:=by simp at h;omega
 have zt:k / 2≤4096:=by omega
 clear z1;rw[if_neg (by omega)]at hR;clear ze zg za zf;repeat first|(refine r_ ?_;simp)|refine q_ ?_
 refine Qe rfl rfl (by simp) (Ti a ha.ok) rfl ?_;rintro _ rfl;simp[Ei,Q6];repeat first|(refine r_ ?_;simp)|refine q_ ?_
 refine Qe rfl rfl (by simp) (w0n a ha) rfl ?_;rintro _ rfl;simp;repeat first|(refine r_ ?_;simp)|refine q_ ?_
 cases hcn:Pw a with
 |false=>rw[if_pos hcn]at hR;rw[←hR];refine Qa rfl (fun _=> ?_) (fun h=>by simp[hcn]at h);repeat (first|(refine r_ ?_;simp)|refine q_ ?_)
 |true=>
  rw[if_neg (by rw[hcn];simp)]at hR;refine Qa rfl (fun h=>by simp[hcn]at h) (fun _=> ?_);repeat first|(refine r_ ?_;simp)|refine q_ ?_
  refine Q7 rfl rfl (Im a ha.ok _) rfl ?_;rintro _ Y ⟨M,rfl,zu,zb,zh,z7⟩;have y1:Y[1]? =some (.vars [.nils]):=z7 1 (by simp);have y2:Y[2]? =some (.vars [.i 0]):=z7 2 (by simp);have y3:Y[3]? =some (.vars [.i a.types,.list (a.fin.map .bool),.list (a.mv.map encMv),.list (Rt a)]):=z7 3 (by simp);have y6:=Qh zb;simp at zu;clear z7;simp;repeat first|(refine r_ ?_;simp)|refine q_ ?_
  refine Qe rfl rfl (by simp) (q05 a.fin.length) rfl ?_;rintro _ rfl;simp;repeat first|(refine r_ ?_;simp)|refine q_ ?_
  refine Eg (Y.length+1) 0 147 3 (xs:=[.nils]) (by rw[zH (by omega)];simp) rfl ?_;simp;refine Qz (sl':=[(2,.vptr 1 0),(3,.vptr 2 0),(5,.i a.fin.length),(6,.vptr 3 0),(7,.vptr Y.length 0),(8,.vptr (Y.length+1) 0),(35,.fn (.func 153) [] [.iptr [.i a.fin.length]])]) ?_ (by simp);refine Wb fun Z hZ=> ?_;have zi:Z.length=Y.length+3:=by rw[hZ];simp
  have zI:RfI a M Y.length Z.length (Y.length+2) [] Z:=by
   rw[zi,hZ];refine⟨Qb y1 _,Qb y2 _,Qb y3 _,Qb zb _,?_,?_,?_,by omega⟩
   ·rw[zH (by omega)];simp
   ·rw[zH (by omega)];simp
   ·rw[zH (by omega)];simp
  clear hZ y1 y2 y3 zb;generalize Y.length=N at *;clear Y;refine Eo rfl (Rf:=fun _ H'=>∃pend sl' z6 a' b',H'[Z.length]? =some (.lp pend.isNone pend 60 sl' z6 a' b')∧
   ((pend=none∧c1i a∧∃q,RfI a M N Z.length q ((prs a.fin.length).map fun e=>Wj (e,wdR a e)) H')∨(pend=some .ret∧v1w a∧H'[1]? =some (.vars [.nils])∧H'[2]? =some (.vars [.i 18])))) ?_ ?_
  ·simp;refine Ha fun H1 zc=> ?_;have fI:RfI a M N Z.length (N+2) [] H1:=by rw[zc];exact zI.keep fun i hi=>zF hi
   have fl:=congrArg (fun h:List AObj=>h[Z.length]?) zc;simp at fl;have y7:N+2<Z.length:=by omega
   clear zc zI zi;generalize Z.length=l at *;refine FC.mono (Ck a.fin.length (by omega) l (by rfl) (by rfl)
    (fun pre H'=>H'[l]? =H1[l]? ∧j12 a pre∧pre.length≤4096∧∃q,RfI a M N l q (pre.map fun e=>Wj (e,wdR a e)) H')
    (fun c H'=>c= .ret∧(∃sl' z6 a' b',H'[l]? =some (.lp false (some .ret) 60 sl' z6 a' b'))∧v1w a∧H'[1]? =some (.vars [.nils])∧H'[2]? =some (.vars [.i 18])) H1
    (fun k H' h=>h.1.trans fl) ?_ ⟨rfl,fun e he=>(by cases he),by simp,N+2,fI⟩) ?_
   ·rintro pre e post H' zj ⟨h1,zv,y8,q,hI⟩;simp[Tn];have zk:e∈prs a.fin.length:=by rw[zj];simp
    have z8:=B6 zk;have zw:=Sb ha.ok ha.ok (s:=e) ⟨⟨z8.1,by omega⟩,⟨by omega,z8.2.2⟩⟩;have zz:=Qi (h1.trans fl) .dead;have zI:=hI.put .dead;have zl:=Qh zz;generalize H'.set l .dead=Z at *
    have z3:=zI.h3;have zM:=zI.hM;have zN:=zI.hN;have zo:=zI.ho;repeat first|(refine r_ ?_;simp[z3,zN])|refine q_ ?_
    refine Tt rfl rfl rfl rfl (s:=e) rfl (near:=Es a) zM zh.nk zw ?_;simp;cases zm:lkN (Es a) e with
    |none=>
     repeat first|(refine r_ ?_;simp)|refine q_ ?_
     refine Ql rfl ?_;repeat first|(refine r_ ?_;simp[zI.h1,zI.h2])|refine q_ ?_
     have b:=zI.bd;exact⟨Qd (by omega) (Qd (by omega) zz _) _,.inr ⟨_,rfl,rfl,⟨_,_,_,_,Qi (Qd (by omega) (Qd (by omega) zz _) _) _⟩,⟨e,zk,zm⟩,Qd (by omega) (Qd (by omega) (Qi zI.h1 _) _) _,Qd (by omega) (Qi (Qd (by decide) zI.h2 _) _) _⟩⟩
    |some d=>
     repeat first|(refine r_ ?_;simp)|refine q_ ?_
     refine Ql rfl ?_;repeat first|(refine r_ ?_;simp)|refine q_ ?_
     have b:=zI.bd;have zn:(prs a.fin.length).length≤4096:=by rw[Zy,hk];exact zt
     have y9:pre.length+1≤4096:=by rw[zj]at zn;simp at zn;omega
     have zd:FC Tryz.prog 90 [Ei a,.mref M,.i e.1,.i e.2] Z (fun r H'=>r=LSy (wdR a e)∧∀i,i<Z.length→H'[i]? =Z[i]?):=k09 a ha.ok Z M (Es a) zM zh e.1 e.2 ⟨z8.1,by omega⟩ ⟨by omega,z8.2.2⟩;have zx:(pre++[e]).map (fun e=>Wj (e,wdR a e))=pre.map (fun e=>Wj (e,wdR a e))++[Wj (e,wdR a e)]:=by simp
     have ya:(pre.map (fun e=>Wj (e,wdR a e))).length=pre.length:=by simp
     generalize pre.map (fun e=>Wj (e,wdR a e))=xs at *
     obtain⟨w,hw⟩:∃w,LSy (wdR a e)= .list w:=⟨_,rfl⟩
     simp only[Wj,hw]at zd zx;simp only[Ei,Q6]at zd;refine Yx (P:=Tryz.prog) tOk mixed [7,10,11] (.val 1 (.val 2 (.val 3 (.val 4 (.val 5 (.val 6 (.two 0 (.one 7 (.val 8 (.one 9 (.one 10 (.one 11 (.done)))))) 7 (.val 0 (.val 8 (.one 9 (.one 10 (.one 11 (.done))))))))))))) (fun S'=>S'.hp[l]? =some .dead∧∃q',RfI a M N l q' (xs++[.agg [.i e.1,.i e.2,.list w]]) S'.hp) rfl (by kernel_rfl) ?_ ?_
     ·simp[z3,zN,zo]
      repeat' (first
       |refine And.intro ?_ ?_
       |(refine Q7 rfl rfl zd rfl ?_;rintro r X ⟨e0,hX⟩;rw[e0];have xo:=(zI.keep hX).ho;simp[xo]))
      all_goals
       have xI:=zI.keep hX;have xa:=xI.ha;have zy:l<X.length:=Qh ((hX l zl).trans zz);have y0:∀E E',((X++E).set q .dead++E')[N+1]? =some (.vars [.sl q 3 0 xs.length]):=fun E E'=>Qb (Qd (by omega) (Qb xo E) _) E';refine Qf tOk rfl rfl T60 rfl c0j rfl (by decide) (by decide) rfl rfl rfl ?_;simp[Qb xa];refine⟨by simp[Wi,AV.cells,AV.leaf]<;>omega,?_⟩;simp[y0];refine⟨?_,X.length+1,xI.push zy _ _ _ rfl _ rfl⟩;rw[zE (by omega)];exact Qb (Qd b.2.2.2.1 (Qb ((hX l zl).trans zz) _) _) _
     ·rintro⟨sl,E⟩ ⟨e1,q',zp⟩;simp only at e1 zp;refine L7 ?_;refine⟨e1,.inl ⟨rfl,(Qi e1 _).trans fl.symm,fun x hx=> ?_,by omega,q',by rw[show Wj (e,wdR a e)= .agg [.i e.1,.i e.2,.list w] by simp[Wj,hw]];exact zp.put _⟩⟩;rcases zW.1 hx with hx|hx
      ·exact zv x hx
      ·rw[zQ.1 hx,zm];rfl
   ·rintro r H' (⟨h1,h2,_,h3⟩|⟨c,rfl,⟨sl',z6,a',b',h1⟩,h2,h3,h4⟩)
    ·exact⟨none,⟨_,_,_,_,h1.trans fl⟩,.inl ⟨rfl,h2,h3⟩⟩
    ·exact⟨some .ret,⟨_,_,_,_,h1⟩,.inr ⟨rfl,h2,h3,h4⟩⟩
  ·rintro r H' ⟨pend,sl',z6,a',b',h1,h⟩;refine⟨_,pend,_,_,_,_,_,by simpa using h1,?_⟩;rcases h with⟨rfl,h2,q,hI⟩|⟨rfl,⟨e,he,hn⟩,h3,h4⟩
   ·rw[if_pos (zX.2 h2)]at hR;rw[←hR];simp;have hK:=hI.put .dead;have b:=hK.bd;generalize H'.set Z.length .dead=K at *
    have zq:(((prs a.fin.length).map fun e=>(e,wdR a e)).map Wj)=(prs a.fin.length).map fun e=>Wj (e,wdR a e):=by rw[vF];rfl
    rw[vF]at zq;rw[zq];generalize ((prs a.fin.length).map fun e=>Wj (e,wdR a e))=xs at *
    have k1:=hK.h1;have ko:=hK.ho;have k2:∀y,(K.set 1 y)[2]? =some (.vars [.i 0]):=fun y=>Qd (by decide) hK.h2 y;have kA:∀y z,((K.set 1 y).set 2 z)[1]? =some y:=fun y z=>Qd (by decide) (Qi k1 y) z;have kB:∀y z,((K.set 1 y).set 2 z)[2]? =some z:=fun y z=>Qi (k2 y) z;have kq:∀y z,((K.set 1 y).set 2 z)[q]? =some (.arr 147 3 xs):=fun y z=>Qd (by omega) (Qd (by omega) hK.ha _) z;repeat first|(refine r_ ?_;simp[k1,ko,k2,kA,kB,kq])|refine q_ ?_
   ·rw[if_neg (fun k=>by have:=zX.1 k e he;rw[hn]at this;cases this)]at hR;rw[←hR];simp;have q1:(H'.set Z.length .dead)[1]? =some (.vars [.nils]):=Qd (by omega) h3 _;have q2:(H'.set Z.length .dead)[2]? =some (.vars [.i 18]):=Qd (by omega) h4 _;repeat first|(refine r_ ?_;simp[q1,q2])|refine q_ ?_
end Go.Abs
namespace Go.Abs
open Go Go.Proofs Go.Maps Go.RowKit
theorem V8{a:Aut}(ha:OkA a){s:Int}{x:Sy}(hx:Rm a x):(Q1 a s).find? (fun m=>R7 m.on x)=a.mv.find? (fun m=>decide (m.src=s) && R7 m.on x):=by
 unfold Q1;rw[List.find?_filter];have:∀m∈a.mv,(decide (m.src=s) && !Wf m.on && R7 m.on x)=(decide (m.src=s) && R7 m.on x):=fun m hm=>by
  cases hh:R7 m.on x with
  |false=>simp
  |true=>have hv:Wf m.on=false:=(Yp (ha.wfA.on m hm)).2 ⟨_,_,(Tq ha.wfA hm hx).1 hh⟩;simp[hv]
 have key:∀l:List Mv,(∀m∈l,m∈a.mv)→l.find? (fun m=>decide (m.src=s) && !Wf m.on && R7 m.on x)=l.find? (fun m=>decide (m.src=s) && R7 m.on x):=by
  intro l;induction l with
  |nil=>intro _;rfl
  |cons m l ih=>intro hl;rw[uO,uO,this m (hl m (by simp)),ih fun y hy=>hl y (by simp[hy])]
 refine Eq.trans (congrArg (fun f=>a.mv.find? f) (funext fun m=> ?_)) (key a.mv fun m hm=>hm);rw[Bool.decide_and,tl,tl]
theorem d0i{a:Aut}(ha:OkA a){s:Int}{x:Sy}(hx:Rm a x){j:Nat}(hj:j<(Q1 a s).length)(z1:∀i (h:i<(Q1 a s).length),i<j→R7 ((Q1 a s)[i]).on x=false)(hh:R7 ((Q1 a s)[j]).on x=true):toL a s x=((Q1 a s)[j]).dst:=by
 have:(Q1 a s).find? (fun m=>R7 m.on x)=some (Q1 a s)[j]:=by rw[List.find?_eq_some_iff_getElem];exact⟨hh,j,hj,rfl,fun i hi=>by rw[z1 i (by omega) hi];rfl⟩
 rw[V8 ha hx]at this;unfold toL;rw[this]
theorem v0t{a:Aut}(ha:Dfa a){s:Int}(hs:inS a s){x:Sy}(hx:Rm a x)(z1:∀i (h:i<(Q1 a s).length),R7 ((Q1 a s)[i]).on x=false):False:=by
 obtain⟨m,hm,h1,h2⟩:=ha.full s hs.1 hs.2 x hx;have:(Q1 a s).find? (fun m=>R7 m.on x)=none:=u5.2 fun y hy=>by obtain⟨i,hi,rfl⟩:=List.getElem_of_mem hy;rw[z1 i hi];simp
 rw[V8 ha.ok hx]at this;have:=u5.1 this m hm;simp[h1,h2]at this
theorem j14{a:Aut}(ha:OkA a){s:Int}{m:Mv}(hm:m∈Q1 a s){x:Sy}(hx:Rm a x):X4 m.on x=(R7 m.on x,0):=by rw[Md ((Ec a.types m.on).2 ⟨ha.types,(ha.mv m (En.1 hm).1).on⟩),if_neg (fun k=>k ((Fp _ _).2 hx))]
def v08(a:Aut)(s:Int)(w:List Sy):Bool:=a.fin.getD (stF a s w).toNat false
attribute [local irreducible] Q1 Eh Rt Wo X4 R7 stF toL
theorem Bx(a:Aut)(ha:Dfa a)(p:Int)(hp:inS a p)(w:List Sy)(zv:w.length≤4096)(hw:∀x∈w,Rm a x):PC Tryz.prog 100 [Ei a,.i p,LSy w] (fun r=>r= .bool (v08 a p w)):=by
 have zw:=ha.ok.fin;obtain⟨R,hR⟩:∃R,v08 a p w=R:=⟨_,rfl⟩
 rw[hR];refine Qk tOk Tryz.func100 rfl Tryz.results100 rfl (by simp[Tryz.ntmps100]) ?_;rw[Tryz.ntmps100];simp only[Qg];simp only[Ei,Q6,LSy];repeat first|(refine r_ ?_;simp)|refine q_ ?_
 refine Qo (Qc (sl':=[(1,.i p),(3,.vptr 0 0),(6,.bool false),(13,.list (w.map encSy)),(14,.i w.length),(15,.i (0:Nat))]) ?_ (by simp));refine Qn (P:=Tryz.prog) (F:=fun(u:Nat×Int×List AObj)=>⟨[(1,.i u.2.1),(3,.vptr 0 0),(6,.bool false),(13,.list (w.map encSy)),(14,.i w.length),(15,.i u.1)],u.2.2⟩)
  (fun u=>u.1≤w.length∧inS a u.2.1∧v08 a u.2.1 (w.drop u.1)=R∧u.2.2[0]? =some (.vars [.i a.types,.list (a.fin.map .bool),.list (a.mv.map encMv),.list (Rt a)])) (fun u=>w.length - u.1) ?_ (0,p,_) ⟨xD _,hp,hR,rfl⟩
 clear hR hp;clear p;rintro⟨i,s,G⟩ ⟨hi,hs,hf,g0⟩ ih;simp only at hi hs hf g0 ih ⊢;repeat first|(refine r_ ?_;simp)|refine q_ ?_
 refine Qa rfl (fun zj=> ?_) (fun zk=> ?_)
 ·have z6:i<w.length:=by simpa using zj
  have zl:IntKind.i64.wrap ((i:Int)+1)=i+1:=wrap_i64 _ (by omega) (by omega);have hx:=hw _ (zL z6);have zm:v08 a (toL a s w[i]) (w.drop (i+1))=R:=by rw[←hf,xV z6];unfold v08 stF;rfl
  have zn:=(ha.next hs hx).1;have z7:(w.map encSy)[i]? =some (encSy w[i]):=by simp[z6]
  have z8:∀hh,(w.map encSy)[i]'hh=encSy w[i]:=fun hh=>by simp
  have zf:=fun j h1 h2 h3=>d0i (s:=s) ha.ok hx (j:=j) h1 h2 h3;have zo:=v0t ha hs hx;have zg:=fun m (hm:m∈Q1 a s)=>j14 ha.ok hm hx;generalize w[i]=x at *
  have hm:=A5 hs;have zp:(Rt a).length=a.fin.length:=by unfold Rt;simp
  obtain⟨k,rfl⟩:∃k:Nat,s=k:=⟨s.toNat,by have:=hs.1;omega⟩
  have hk:k<a.fin.length:=by have:=hs.2;omega
  simp only[ut,T0]at hm;have zq:∀hh,(Rt a)[k]'hh= .list ((Q1 a k).map encMv):=fun hh=>(yQ hh).2 hm;simp only[encSy]at z7 z8;have gA:=fun E=>Qb g0 E;have gH:=fun E hh=>(yQ hh).2 (gA E);repeat first|(refine r_ ?_;simp[z7,z8,z6,gA,gH,hm,zq,zp,hk])|refine q_ ?_
  have zx:(Q1 a k).length≤2048:=yH (Oo a k) ha.ok.mvs;refine Wb fun Z hZ=> ?_;have z0:Z[0]? =some (.vars [.i a.types,.list (a.fin.map .bool),.list (a.mv.map encMv),.list (Rt a)]):=by rw[hZ];exact gA _
  have zb:Z[G.length]? =some (.vars [.i x.ty,.i x.num]):=by rw[hZ,zH (by omega)];simp
  clear hZ gA gH g0 z7 z8;generalize G.length=b at *;clear G;refine Qo (Qc (sl':=[(1,.i k),(3,.vptr 0 0),(6,.bool false),(8,.vptr b 0),(13,.list (w.map encSy)),(14,.i w.length),(15,.i i),(23,.list ((Q1 a k).map encMv)),(24,.i (Q1 a k).length),(25,.i (0:Nat))]) ?_ (by simp))
  refine Qn (P:=Tryz.prog) (F:=fun(u:Nat×List AObj)=>⟨[(1,.i k),(3,.vptr 0 0),(6,.bool false),(8,.vptr b 0),(13,.list (w.map encSy)),(14,.i w.length),(15,.i i),(23,.list ((Q1 a k).map encMv)),(24,.i (Q1 a k).length),(25,.i u.1)],u.2⟩)
   (fun u=>u.1≤(Q1 a k).length∧(∀i (h:i<(Q1 a k).length),i<u.1→R7 ((Q1 a k)[i]).on x=false)∧u.2[0]? =some (.vars [.i a.types,.list (a.fin.map .bool),.list (a.mv.map encMv),.list (Rt a)])∧u.2[b]? =some (.vars [.i x.ty,.i x.num])) (fun u=>(Q1 a k).length - u.1) ?_ (0,Z) ⟨xD _,fun i h h0=>absurd h0 (Nat.not_lt_zero _),z0,zb⟩
  clear z0 zb;clear Z;rintro⟨j,G⟩ ⟨hj,za,g0,gb⟩ ih2;simp only at hj za g0 gb ih2 ⊢;repeat first|(refine r_ ?_;simp)|refine q_ ?_
  refine Qa rfl (fun zc=> ?_) (fun zd=> ?_)
  ·have z1:j<(Q1 a k).length:=by simpa using zc
   have zr:IntKind.i64.wrap ((j:Int)+1)=j+1:=wrap_i64 _ (by omega) (by omega);have z7:((Q1 a k).map encMv)[j]? =some (encMv (Q1 a k)[j]):=by simp[z1]
   have z8:∀hh,((Q1 a k).map encMv)[j]'hh=encMv (Q1 a k)[j]:=fun hh=>by simp
   have hF:=zg _ (zL z1);have hD:=zf j z1 (fun i h h1=>za i h h1);have hN:R7 ((Q1 a k)[j]).on x=false→∀i (h:i<(Q1 a k).length),i<j+1→R7 ((Q1 a k)[i]).on x=false:=fun h0 i h h1=>by
    by_cases e:i=j
    ·subst e;exact h0
    ·exact za i h (by omega)
   clear zf zg;generalize (Q1 a k)[j]=m at *;simp only[encMv]at z7 z8
   have gA:=fun E=>Qb g0 E;have gB:=fun E=>Qb gb E;cases hb:R7 m.on x with
   |true=>
    rw[hb]at hF;repeat first|(refine r_ ?_;simp[z7,z8,z1,gA,gB])|refine q_ ?_
    refine Qe rfl rfl (by simp) (Y3 m.on x) rfl ?_;rintro _ rfl;simp[hF];repeat first|(refine r_ ?_;simp)|refine q_ ?_
    refine Ql rfl ?_;repeat first|(refine r_ ?_;simp[zl])|refine q_ ?_
    refine Qc (sl':=[(1,.i m.dst),(3,.vptr 0 0),(6,.bool false),(13,.list (w.map encSy)),(14,.i w.length),(15,.i (i+1:Nat))]) ?_ (by simp);have zh:=hD hb;exact ih (i+1,m.dst,_) ⟨by show i+1≤w.length;omega,by rw[←zh];exact zn,by rw[←zh];exact zm,gA _⟩ (by show w.length - (i+1)<w.length - i;omega)
   |false=>
    rw[hb]at hF;repeat first|(refine r_ ?_;simp[z7,z8,z1,gA,gB])|refine q_ ?_
    refine Qe rfl rfl (by simp) (Y3 m.on x) rfl ?_;rintro _ rfl;simp[hF];repeat first|(refine r_ ?_;simp)|refine q_ ?_
    refine Ql rfl ?_;repeat first|(refine r_ ?_;simp[zr])|refine q_ ?_
    refine Qc (sl':=[(1,.i k),(3,.vptr 0 0),(6,.bool false),(8,.vptr b 0),(13,.list (w.map encSy)),(14,.i w.length),(15,.i i),(23,.list ((Q1 a k).map encMv)),(24,.i (Q1 a k).length),(25,.i (j+1:Nat))]) ?_ (by simp);exact ih2 (j+1,_) ⟨by show j+1≤_;omega,hN hb,gA _,gB _⟩ (by show _ - (j+1)<_ - j;omega)
  ·have zy:j=(Q1 a k).length:=by simp at zd;omega
   exact(zo fun i h=>za i h (by omega)).elim
 ·have ze:i=w.length:=by simp at zk;omega
  subst ze;rw[xF]at hf;have zi:a.fin.getD s.toNat false=R:=by rw[←hf];unfold v08 stF;rfl
  obtain⟨k,rfl⟩:∃k:Nat,s=k:=⟨s.toNat,by have:=hs.1;omega⟩
  have hk:k<a.fin.length:=by have:=hs.2;omega
  have zt:(a.fin.map AV.bool)[k]? =some (.bool R):=by rw[←zi];simp[yX,hk]
  have zu:∀hh,a.fin[k]'hh=R:=fun hh=>by rw[←zi];simp[yX,hk]
  repeat first|(refine r_ ?_;simp[g0,zt,zu,hk])|refine q_ ?_
end Go.Abs
namespace Go.Abs
open Go Go.Proofs Go.Maps Go.RowKit
abbrev Rfm:=(Int×Int)×List Sy
def Jl(T:Int):List (Int×Int)→List Rfm→Int
 |[],_=>0
 |_::_,[]=>0
 |p::ps,x::xs=>if x.1≠p then 14 else if 4096<x.2.length then 5 else if Lm T x.2≠0 then Lm T x.2 else Jl T ps xs
def u1f(a:Aut)(x:Rfm):Bool:=v08 a x.1.1 x.2==v08 a x.1.2 x.2
def f1r(a:Aut)(P:List Rfm):Int:=
 if Tf a≠0 then Tf a else if P.length≠a.fin.length * (a.fin.length - 1) / 2 then 15
 else if Jl a.types (prs a.fin.length) P≠0 then Jl a.types (prs a.fin.length) P
 else if P.any (u1f a)then 18 else if Pw a then 0 else 18
theorem N6{T:Int}:∀ {ps:List (Int×Int)} {P:List Rfm},ps.length=P.length→Jl T ps P=0→∀x∈P,x.1∈ps∧x.2.length≤4096∧Lm T x.2=0
 |[],[],_,_=>fun x hx=>by cases hx
 |[],_::_,h,_=>by cases h
 |_::_,[],h,_=>by cases h
 |p::ps,x::xs,h,h0=>fun y hy=>by
  unfold Jl at h0;by_cases h1:x.1≠p
  ·rw[if_pos h1]at h0;cases h0
  rw[if_neg h1]at h0;by_cases h2:4096<x.2.length
  ·rw[if_pos h2]at h0;cases h0
  rw[if_neg h2]at h0;by_cases h3:Lm T x.2≠0
  ·rw[if_pos h3]at h0;exact absurd h0 h3
  rw[if_neg h3]at h0;rcases List.mem_cons.1 hy with rfl|hy
  ·have h4:y.1=p:=Decidable.not_not.1 h1;exact⟨by rw[h4];simp,by omega,Decidable.not_not.1 h3⟩
  ·have:=N6 (by simpa using h) h0 y hy;exact⟨by simp[this.1],this.2⟩
structure VfI (a:Aut) (P:List Rfm) (c:Nat) (H:List AObj):Prop where
 h0:H[0]? =some (.vars [.i a.types,.list (a.fin.map .bool),.list (a.mv.map encMv)])
 h1:H[1]? =some (.vars [.list (P.map Wj)])
 h2:H[2]? =some (.vars [.i 0])
 h3:H[3]? =some (.vars [.list ((Ws a.types.toNat).map encL)])
 h4:H[4]? =some (.vars [.i c])
theorem VfI.put{a:Aut}{P:List Rfm}{c:Nat}{H:List AObj}(h:VfI a P c H)(y:AObj):VfI a P c (H.set 5 y):=
 ⟨Qd (by decide) h.h0 _,Qd (by decide) h.h1 _,Qd (by decide) h.h2 _,Qd (by decide) h.h3 _,Qd (by decide) h.h4 _⟩
theorem VfI.app{a:Aut}{P:List Rfm}{c:Nat}{H:List AObj}(h:VfI a P c H)(E:List AObj):VfI a P c (H++E):=
 ⟨Qb h.h0 _,Qb h.h1 _,Qb h.h2 _,Qb h.h3 _,Qb h.h4 _⟩
theorem VfI.inc{a:Aut}{P:List Rfm}{c:Nat}{H:List AObj}(h:VfI a P c H){d:Int}(hd:d=(c:Int)+1):VfI a P (c+1) (H.set 4 (.vars [.i d])):=by subst hd;exact⟨Qd (by decide) h.h0 _,Qd (by decide) h.h1 _,Qd (by decide) h.h2 _,Qd (by decide) h.h3 _,by have:=Qi h.h4 (.vars [.i ((c:Int)+1)]);simpa using this⟩
attribute [local simp] T60 c0j
attribute [local irreducible] Tf I8 Q1 Eh Rt Wo Pw prs Jl u1f v08 X4 P6 Ws
theorem v0v(a:Aut)(P:List Rfm)(hP:P.length≤1000000):PC Tryz.prog 39 [encA a,.list (P.map Wj)] (fun r=>r= .i (f1r a P)):=by
 obtain⟨R,hR⟩:∃R,f1r a P=R:=⟨_,rfl⟩
 rw[hR];unfold f1r at hR;refine Qk tOk Tryz.func39 rfl Tryz.results39 rfl (by simp[Tryz.ntmps39]) ?_;rw[Tryz.ntmps39];simp only[Qg];simp only[encA];repeat first|(refine r_ ?_;simp)|refine q_ ?_
 refine Qe rfl rfl (by simp) (F2 a) rfl ?_;rintro _ rfl;simp;repeat first|(refine r_ ?_;simp)|refine q_ ?_
 refine Qa rfl (fun h=> ?_) (fun h=> ?_)
 ·rw[if_pos (by simpa using h)]at hR;rw[←hR];repeat first|(refine r_ ?_;simp)|refine q_ ?_
 have h0:Tf a=0:=by simpa using h
 have ha:=(O6 a).1 h0;have y1:=ha.ok.fin;have zh:=ha.ok.types;rw[if_neg (fun k=>k h0)]at hR;have zu:IntKind.i64.wrap ((a.fin.length:Int) - 1)=(a.fin.length:Int) - 1:=wrap_i64 _ (by omega) (by omega);obtain⟨k,hk⟩:∃k:Nat,a.fin.length * (a.fin.length - 1)=k:=⟨_,rfl⟩
 have yc:k≤65536:=by rw[←hk];exact yH (u7 y1.2 (show a.fin.length - 1≤256 by omega)) (by decide)
 have zv:(a.fin.length:Int) * ((a.fin.length:Int) - 1)=k:=by rw[←hk,show(a.fin.length:Int) - 1=((a.fin.length - 1:Nat):Int) by omega,←ue]
 have zw:IntKind.i64.wrap ((a.fin.length:Int) * ((a.fin.length:Int) - 1))=k:=by rw[zv];exact wrap_i64 _ (by omega) (by omega)
 have zi:IntKind.i64.wrap ((k:Int) / 2)=((k / 2:Nat):Int):=by rw[wrap_i64 _ (by omega) (by omega)];omega
 have zg:=Zy a.fin.length;rw[hk]at hR zg;obtain⟨k2,zj⟩:∃k2,k / 2=k2:=⟨_,rfl⟩
 rw[zj]at zi hR zg;repeat first|(refine r_ ?_;simp[zu,zw,zi])|refine q_ ?_
 refine Qa rfl (fun h=> ?_) (fun h=> ?_)
 ·rw[if_pos (by simp at h;omega)]at hR;rw[←hR];repeat first|(refine r_ ?_;simp)|refine q_ ?_
 have y3:P.length=k2:=by simp at h;omega
 rw[if_neg (by omega)]at hR;clear zu zw zi zv;repeat first|(refine r_ ?_;simp)|refine q_ ?_
 refine Qe rfl rfl (by simp) (u1j a.types zh.1 zh.2) rfl ?_;rintro _ rfl;simp;repeat first|(refine r_ ?_;simp)|refine q_ ?_
 refine Qe rfl rfl (by simp) (q05 a.fin.length) rfl ?_;rintro _ rfl;simp;repeat first|(refine r_ ?_;simp)|refine q_ ?_
 refine Qz (sl':=[(2,.vptr 0 0),(3,.vptr 1 0),(4,.vptr 2 0),(6,.i a.fin.length),(7,.vptr 3 0),(9,.vptr 4 0),(43,.fn (.func 153) [] [.iptr [.i a.fin.length]])]) ?_ (by simp);refine Wb fun Z hZ=> ?_;have ze:Z.length=5:=by rw[hZ];rfl
 have zI:VfI a P 0 Z:=by rw[hZ];exact⟨rfl,rfl,rfl,rfl,rfl⟩
 clear hZ;obtain⟨V,hV⟩:∃V,Jl a.types (prs a.fin.length) P=V:=⟨_,rfl⟩
 have zc:=fun(h:Jl a.types (prs a.fin.length) P=0)=>N6 (by rw[zg,y3]) h;rw[hV]at hR zc;refine Eo rfl (Rf:=fun _ H'=>∃pend sl' zf a' b',H'[5]? =some (.lp pend.isNone pend 108 sl' zf a' b')∧
  ((pend=none∧V=0∧VfI a P k2 H')∨(pend=some .ret∧V≠0∧H'[2]? =some (.vars [.i V])))) ?_ ?_
 ·simp[ze];refine Ha fun H1 zk=> ?_;have fI:VfI a P 0 H1:=by rw[zk];exact zI.app _
  have fl:=congrArg (fun h:List AObj=>h[5]?) zk;rw[zH (by omega),ze]at fl;simp at fl;clear zk zI ze;refine FC.mono (Ck a.fin.length (by omega) 5 (by rfl) (by rfl)
   (fun pre H'=>H'[5]? =H1[5]? ∧V=Jl a.types ((prs a.fin.length).drop pre.length) (P.drop pre.length)∧VfI a P pre.length H')
   (fun c H'=>c= .ret∧(∃sl' zf a' b',H'[5]? =some (.lp false (some .ret) 108 sl' zf a' b'))∧V≠0∧H'[2]? =some (.vars [.i V])) H1
   (fun k H' h=>h.1.trans fl) ?_ ⟨rfl,by simpa using hV.symm,fI⟩) ?_
  ·rintro pre ⟨ep,eq⟩ post H' hst ⟨h1,hv,hI⟩;simp[Tn];have zl:pre.length<P.length:=by have:=congrArg vZ hst;simp at this;omega
   have hd:(prs a.fin.length).drop pre.length=(ep,eq)::post:=by rw[hst,List.drop_left]
   have y4:(prs a.fin.length).drop (pre.length+1)=post:=by rw[←uV,hd];rfl
   rw[hd,W3 zl,Jl]at hv;have z8:(P.map Wj)[pre.length]? =some (Wj P[pre.length]):=by simp[zl]
   have za:∀hh,(P.map Wj)[pre.length]'hh=Wj P[pre.length]:=fun hh=>by simp
   have zz:=Qi (h1.trans fl) .dead;have zI:=hI.put .dead;generalize H'.set 5 .dead=Z at *;generalize P[pre.length]=x at *
   obtain⟨⟨xp,xq⟩,w⟩:=x;simp only[Wj,LSy]at z8 za;simp only at hv;have z1:=zI.h1;have z4:=zI.h4;have y6:IntKind.i64.wrap ((pre.length:Int)+1)=pre.length+1:=wrap_i64 _ (by omega) (by omega);have z4A:=fun E=>Qb z4 E;have yd:=Qh zz;have zx:¬(4=Z.length):=by omega
   repeat first|(refine r_ ?_;simp[z1,z4,z8,za,zl,z4A,y6,List.getElem_set,zx])|refine q_ ?_
   refine Wb fun Y hY=> ?_;have yI:VfI a P (pre.length+1) Y:=by rw[hY];exact(zI.app _).inc rfl
   have y5:Y[5]? =some .dead:=by rw[hY];exact Qd (by decide) (Qb zz _) _
   have yb:Y[Z.length]? =some (.vars [.i xp,.i xq,.list (w.map encSy)]):=by rw[hY,zE (by omega),zH (by omega)];simp
   have y2:=yI.h2;clear hY z1 z4 z4A zz zI z8 za hI zx;generalize Z.length=b at *;clear Z;refine Qa rfl (fun h=> ?_) (fun h=> ?_)
   ·have y7:¬((xp,xq)=(ep,eq)):=fun e=>by cases e;simp at h
    rw[if_pos y7]at hv;repeat first|(refine r_ ?_;simp[y2])|refine q_ ?_
    exact⟨Qd (j:=2) (by decide) y5 _,.inr ⟨_,rfl,rfl,⟨_,_,_,_,Qi (Qd (j:=2) (by decide) y5 _) _⟩,by rw[hv];decide,by rw[hv];exact Qi y2 _⟩⟩
   have y8:(xp,xq)=(ep,eq):=by simpa using h
   rw[if_neg (fun k=>k y8)]at hv;repeat first|(refine r_ ?_;simp[yb])|refine q_ ?_
   refine Qa rfl (fun h=> ?_) (fun h=> ?_)
   ·rw[if_pos (by simp at h;omega)]at hv;repeat first|(refine r_ ?_;simp[y2])|refine q_ ?_
    exact⟨Qd (j:=2) (by decide) y5 _,.inr ⟨_,rfl,rfl,⟨_,_,_,_,Qi (Qd (j:=2) (by decide) y5 _) _⟩,by rw[hv];decide,by rw[hv];exact Qi y2 _⟩⟩
   have ye:w.length≤4096:=by simp at h;omega
   rw[if_neg (by omega)]at hv;repeat first|(refine r_ ?_;simp[yb])|refine q_ ?_
   refine Qo (Qc (sl':=[(4,.vptr 2 0),(7,.vptr 3 0),(67,.list (w.map encSy)),(68,.i w.length),(69,.i (0:Nat))]) ?_ (by simp));refine Qn (P:=Tryz.prog) (F:=fun(u:Nat×List AObj)=>⟨[(4,.vptr 2 0),(7,.vptr 3 0),(67,.list (w.map encSy)),(68,.i w.length),(69,.i u.1)],u.2⟩)
    (fun u=>u.1≤w.length∧Lm a.types w=Lm a.types (w.drop u.1)∧VfI a P (pre.length+1) u.2∧u.2[5]? =some .dead) (fun u=>w.length - u.1) ?_ (0,Y) ⟨xD _,rfl,yI,y5⟩
   clear yI y5 yb y2;clear Y;rintro⟨j,Y⟩ ⟨hj,zb,yI,y5⟩ ih;simp only at hj zb yI y5 ih ⊢;repeat first|(refine r_ ?_;simp)|refine q_ ?_
   refine Qa rfl (fun zm=> ?_) (fun zn=> ?_)
   ·have z7:j<w.length:=by simpa using zm
    have hw:IntKind.i64.wrap ((j:Int)+1)=j+1:=wrap_i64 _ (by omega) (by omega);have y9:=zb;rw[W3 z7,Lm]at zb;have z8:(w.map encSy)[j]? =some (encSy w[j]):=by simp[z7]
    have za:∀hh,(w.map encSy)[j]'hh=encSy w[j]:=fun hh=>by simp
    generalize w[j]=x at *;simp only[encSy]at z8 za
    have y3A:=fun E=>Qb yI.h3 E;have y2A:=fun E=>Qb yI.h2 E;repeat first|(refine r_ ?_;simp[z8,za,z7,y3A])|refine q_ ?_
    refine Qe rfl rfl (by simp) (Y3 (Ws a.types.toNat) x) rfl ?_;rintro _ rfl;simp[y0l a.types zh];repeat first|(refine r_ ?_;simp)|refine q_ ?_
    refine Qa rfl (fun h3=> ?_) (fun h3=> ?_)
    ·have zo:P6 a.types x≠0:=by simpa using h3
     rw[if_pos zo]at zb;rw[if_pos (by rw[zb];exact zo),zb]at hv;have y2:=(yI.app [.vars [.i x.ty,.i x.num]]).h2;have y5:=Qb y5 [.vars [.i x.ty,.i x.num]];repeat first|(refine r_ ?_;simp[y2])|refine q_ ?_
     exact⟨Qd (j:=2) (by decide) y5 _,.inr ⟨_,rfl,rfl,⟨_,_,_,_,Qi (Qd (j:=2) (by decide) y5 _) _⟩,by rw[hv];exact zo,by rw[hv];exact Qi y2 _⟩⟩
    ·rw[if_neg (by simpa using h3)]at zb;repeat first|(refine r_ ?_;simp[hw])|refine q_ ?_
     refine Qc (sl':=[(4,.vptr 2 0),(7,.vptr 3 0),(67,.list (w.map encSy)),(68,.i w.length),(69,.i (j+1:Nat))]) ?_ (by simp);exact ih (j+1,_) ⟨by show j+1≤_;omega,zb,yI.app _,Qb y5 _⟩ (by show w.length - (j+1)<w.length - j;omega)
   ·have zd:j=w.length:=by simp at zn;omega
    subst zd;rw[xF,Lm]at zb;rw[if_neg (by rw[zb];simp)]at hv;repeat first|(refine r_ ?_;simp)|refine q_ ?_
    exact⟨y5,.inl ⟨rfl,(Qi y5 _).trans fl.symm,by rw[y4];exact hv,yI.put _⟩⟩
  ·rintro r H' (⟨h1,h2,h3⟩|⟨c,rfl,⟨sl',zf,a',b',h1⟩,h2,h3⟩)
   ·rw[xF,Jl]at h2;rw[zg]at h3;exact⟨none,⟨_,_,_,_,h1.trans fl⟩,.inl ⟨rfl,h2,h3⟩⟩
   ·exact⟨some .ret,⟨_,_,_,_,h1⟩,.inr ⟨rfl,h2,h3⟩⟩
 ·rintro r H' ⟨pend,sl',zf,a',b',h1,h⟩;refine⟨_,pend,_,_,_,_,_,by simpa[ze]using h1,?_⟩;rcases h with⟨rfl,h2,hI⟩|⟨rfl,h2,h3⟩
  ·rw[if_neg (fun k=>k h2)]at hR;simp[ze];have hK:=hI.put .dead;have zp:=zc h2;clear zc hV;generalize H'.set 5 .dead=K at *
   have k0:=hK.h0;have k1A:=fun E=>Qb hK.h1 E;have k2A:=fun E=>Qb hK.h2 E;have zy:=hK.h2;clear hK hI h1;repeat first|(refine r_ ?_;simp[k0])|refine q_ ?_
   refine Qe rfl rfl (by simp) (Ti a ha.ok) rfl ?_;rintro _ rfl;simp[Ei,Q6];repeat first|(refine r_ ?_;simp[k1A])|refine q_ ?_
   refine Wb fun W hW=> ?_;have w2:W[2]? =some (.vars [.i 0]):=by rw[hW];exact k2A _
   have wm:W[K.length]? =some (.vars [.i a.types,.list (a.fin.map .bool),.list (a.mv.map encMv),.list (Rt a)]):=by rw[hW,zH (by omega)];simp
   have yf:2<K.length:=Qh zy;clear hW k0 k1A k2A zy;generalize K.length=b at *;clear K;refine Qo (Qc (sl':=[(4,.vptr 2 0),(17,.vptr b 0),(85,.list (P.map Wj)),(86,.i P.length),(87,.i (0:Nat))]) ?_ (by simp))
   refine Qn (P:=Tryz.prog) (F:=fun(u:Nat×List AObj)=>⟨[(4,.vptr 2 0),(17,.vptr b 0),(85,.list (P.map Wj)),(86,.i P.length),(87,.i u.1)],u.2⟩)
    (fun u=>u.1≤P.length∧P.any (u1f a)=(P.drop u.1).any (u1f a)∧u.2[2]? =some (.vars [.i 0])∧u.2[b]? =some (.vars [.i a.types,.list (a.fin.map .bool),.list (a.mv.map encMv),.list (Rt a)])) (fun u=>P.length - u.1) ?_ (0,W) ⟨xD _,rfl,w2,wm⟩
   clear w2 wm;clear W;rintro⟨j,G⟩ ⟨hj,z6,g2,gm⟩ ih;simp only at hj z6 g2 gm ih ⊢;repeat first|(refine r_ ?_;simp)|refine q_ ?_
   refine Qa rfl (fun zm=> ?_) (fun zn=> ?_)
   ·have z7:j<P.length:=by simpa using zm
    have hw:IntKind.i64.wrap ((j:Int)+1)=j+1:=wrap_i64 _ (by omega) (by omega);rw[W3 z7,tR]at z6;have z8:(P.map Wj)[j]? =some (Wj P[j]):=by simp[z7]
    have za:∀hh,(P.map Wj)[j]'hh=Wj P[j]:=fun hh=>by simp
    obtain⟨o1,o2,o3⟩:=zp _ (zL z7);generalize P[j]=x at *
    obtain⟨⟨p,q⟩,w⟩:=x;have ob:=B6 o1;have y0:∀x∈w,Rm a x:=fun x hx=>(Fp _ _).1 ((Zn w).1 o3 x hx);have zq:=Bx a ha p ⟨ob.1,by simp only at ob;omega⟩ w o2 y0;have zr:=Bx a ha q ⟨by simp only at ob;omega,ob.2.2⟩ w o2 y0;simp only[Wj]at z8 za;have ya:u1f a ((p,q),w)=(v08 a p w==v08 a q w):=by unfold u1f;rfl
    rw[ya]at z6;have zt:∃lw,LSy w= .list lw:=⟨_,rfl⟩
    obtain⟨lw,zt⟩:=zt;rw[zt]at z8 za zq zr;have gA:=fun E=>Qb gm E;have g2A:=fun E=>Qb g2 E;simp only[Ei,Q6]at zq zr;generalize v08 a p w=bp at *;generalize v08 a q w=bq at *
    repeat first|(refine r_ ?_;simp[z8,za,z7])|refine q_ ?_
    refine Qm tOk mixed [] (.val 0 (.val 1 (.val 2 (.val 3 (.val 4 (.val 6 (.val 7 (.val 8 (.val 9 (.val 10 (.one 5 (.one 11 (.val 12 (.done)))))))))))))) rfl (by kernel_rfl) ?_;simp[gA];refine Qe rfl rfl (by simp) (zq) rfl ?_;rintro _ rfl;simp[gA];refine Qe rfl rfl (by simp) (zr) rfl ?_;rintro _ rfl;simp;cases hbb:(bp==bq)with
    |true=>rw[hbb,tV]at z6;rw[if_pos z6]at hR;rw[←hR];refine Qa rfl (fun _=> ?_) (fun h=>by simp[hbb]at h);repeat (first|(refine r_ ?_;simp[g2A,fun E y=>Qi (g2A E) y])|refine q_ ?_)
    |false=>
     rw[hbb,tg]at z6;refine Qa rfl (fun h=>by simp[hbb]at h) (fun _=> ?_);repeat first|(refine r_ ?_;simp[hw])|refine q_ ?_
     refine Qc (sl':=[(4,.vptr 2 0),(17,.vptr b 0),(85,.list (P.map Wj)),(86,.i P.length),(87,.i (j+1:Nat))]) ?_ (by simp);exact ih (j+1,_) ⟨by show j+1≤_;omega,z6,g2A _,gA _⟩ (by show P.length - (j+1)<P.length - j;omega)
   ·have zd:j=P.length:=by simp at zn;omega
    subst zd;rw[xF]at z6;rw[if_neg (by rw[z6];simp)]at hR;repeat first|(refine r_ ?_;simp[gm])|refine q_ ?_
    refine Qe rfl rfl (by simp) (w0n a ha) rfl ?_;rintro _ rfl;simp;cases hcn:Pw a with
    |true=>rw[if_pos hcn]at hR;rw[←hR];refine Qa rfl (fun h=>by simp[hcn]at h) (fun _=> ?_);repeat (first|(refine r_ ?_;simp[g2,Qi g2])|refine q_ ?_)
    |false=>rw[if_neg (by rw[hcn];simp)]at hR;rw[←hR];refine Qa rfl (fun _=> ?_) (fun h=>by simp[hcn]at h);repeat first|(refine r_ ?_;simp[g2,Qi g2])|refine q_ ?_
  ·rw[if_pos h2]at hR;rw[←hR];simp[ze];have q2:(H'.set 5 .dead)[2]? =some (.vars [.i V]):=Qd (by omega) h3 _;repeat first|(refine r_ ?_;simp[q2])|refine q_ ?_
end Go.Abs
namespace Go.Abs
structure CR (a:Aut) (n:Nat) (O:List Int) (f:Nat):Prop where
 fuel:a.fin.length+1≤n+f
 le:n≤O.length
 nd:O.Nodup
 rg:∀c∈O,0≤c∧c<(a.fin.length:Int)
 eq:Jp a=((Pb (Gr a) f n O).length==a.fin.length)
theorem CR.len{a:Aut}{n:Nat}{O:List Int}{f:Nat}(h:CR a n O f):O.length≤a.fin.length:=by have:=h.nd.length_le_of_subset (l₂:=Ey a.fin.length) fun c hx=>Ew.2 (h.rg c hx);simpa[Ey]using this
theorem CR.start{a:Aut}(ha:Dfa a):CR a 0 [0] (a.fin.length+1):=by have:=ha.ok.fin;exact⟨by omega,by simp,by simp,fun c hc=>by rw[zQ.1 hc];omega,rfl⟩
theorem CR.stop{a:Aut}{n:Nat}{O:List Int}{f:Nat}(h:CR a n O f)(hn:O.length≤n):Jp a=(O.length==a.fin.length):=by rw[h.eq,Bm hn]
theorem CR.step{a:Aut}(ha:Dfa a){n:Nat}{O:List Int}{f:Nat}(h:CR a n O f)(hn:n<O.length):∃f',f=f'+1∧CR a (n+1) (Wk O (Gr a O[n])) f':=by
 have hl:=h.len;have hf:=h.fuel;obtain⟨f',rfl⟩:∃f',f=f'+1:=⟨f - 1,by omega⟩
 obtain⟨⟨r,h1,h2⟩,h3,_⟩:=Tp (Gr a O[n]) O h.nd;refine⟨f',rfl,by omega,by rw[h1,zZ];omega,h3,fun c hc=> ?_,by rw[h.eq,Vf hn]⟩;rw[h1]at hc;rcases zW.1 hc with hc|hc
 ·exact h.rg c hc
 ·exact Nw ha _ (h.rg _ (zL hn)) c (h2 c hc)
theorem CR.inner{a:Aut}(ha:Dfa a){n:Nat}{O:List Int}{f:Nat}(h:CR a n O f)(hn:n<O.length)(j:Nat):IS a O (Wk O ((Gr a O[n]).take j))∧(Wk O ((Gr a O[n]).take j))[n]? =some O[n]:=by
 obtain⟨⟨r,h1,h2⟩,h3,_⟩:=Tp ((Gr a O[n]).take j) O h.nd;refine⟨⟨h3,by rw[h1,zZ];omega,fun c hc=> ?_⟩,by rw[h1,zF hn,zK hn]⟩;rw[h1]at hc;rcases zW.1 hc with hc|hc
 ·exact h.rg c hc
 ·exact Nw ha _ (h.rg _ (zL hn)) c (xS (h2 c hc))
theorem c1f{l:List Int}{n:Int}:decide (Js (fun m:Int=>m==n) l<0)=decide (n∉l):=by
 have h:=z0b (fun m:Int=>m==n) l;have h2:l.any (fun m:Int=>m==n)=decide (n∈l):=by rw[wt];simp
 rw[h2]at h;by_cases hm:n∈l
 ·rw[decide_eq_true hm,decide_eq_true_eq]at h;rw[decide_eq_false (by omega),decide_eq_false (fun k=>k hm)]
 ·rw[decide_eq_false hm,decide_eq_false_iff_not]at h;rw[decide_eq_true (by omega),decide_eq_true hm]
def Jz(T:Int)(x:Rfm)(p:Int×Int):Int:=if x.1≠p then 14 else if 4096<x.2.length then 5 else Lm T x.2
theorem f0u(T:Int)(p:Int×Int)(ps:List (Int×Int))(x:Rfm)(xs:List Rfm):Jl T (p::ps) (x::xs)=if Jz T x p≠0 then Jz T x p else Jl T ps xs:=by
 unfold Jz
 conv=>lhs;unfold Jl
 by_cases h1:x.1≠p
 ·rw[if_pos h1,if_pos h1,if_pos (by decide)]
 rw[if_neg h1,if_neg h1];by_cases h2:4096<x.2.length
 ·rw[if_pos h2,if_pos h2,if_pos (by decide)]
 rw[if_neg h2,if_neg h2]
theorem q1e{T:Int}{ps:List (Int×Int)}{P:List Rfm}{i:Nat}{p:Int×Int}(hp:ps[i]? =some p)(h:i<P.length):Jl T (ps.drop i) (P.drop i)=if Jz T P[i] p≠0 then Jz T P[i] p else Jl T (ps.drop (i+1)) (P.drop (i+1)):=by obtain⟨hl,e⟩:=List.getElem?_eq_some_iff.1 hp;rw[xV hl,xV h,e,f0u]
end Go.Abs
namespace Go.Abs
open Go Go.Proofs Go.Maps Go.RowKit
attribute [local irreducible] Eb toL Pb Wk Jp
theorem M8(a:Aut)(ha:Dfa a):PC Tryz.prog 96 [encA a] (fun r=>r= .bool (Jp a)):=by
 refine Qk tOk Tryz.func96 rfl Tryz.results96 rfl (by simp[Tryz.ntmps96]) ?_;rw[Tryz.ntmps96];simp only[Qg];simp only[encA];have zp:=ha.ok.fin;have za:=fun x hx=>Kb ha.ok ha.ok rfl (x:=x) hx;have zq:=Jh ha.ok ha.ok rfl;have zh:∀c,Gr a c=(Eb a a).map (toL a c):=fun _=>rfl;repeat first|(refine r_ ?_;simp)|refine q_ ?_
 refine Qe rfl rfl (by simp) (Gd a a ha.ok ha.ok rfl) rfl ?_;rintro _ rfl;simp;generalize Eb a a=ls at *
 repeat first|(refine r_ ?_;simp)|refine q_ ?_
 refine Qo (Qc (sl':=[(1,.vptr 0 0),(2,.bool false),(3,.list (ls.map encSy)),(4,.sl 1 1 0 ([0]:List Int).length),(5,.i (0:Nat))]) ?_ (by simp));refine Qn (P:=Tryz.prog) (F:=fun(u:Nat×Nat×List Int×Nat×List AObj)=>⟨[(1,.vptr 0 0),(2,.bool false),(3,.list (ls.map encSy)),(4,.sl u.2.2.2.1 1 0 u.2.2.1.length),(5,.i u.2.1)],u.2.2.2.2⟩)
  (fun u=>CR a u.2.1 u.2.2.1 u.1∧u.2.2.2.2[0]? =some (.vars (Q4 a))∧u.2.2.2.2[u.2.2.2.1]? =some (.arr 3 1 (u.2.2.1.map AV.i))∧0<u.2.2.2.1) (fun u=>u.1) ?_ (a.fin.length+1,0,[0],1,_) ⟨CR.start ha,rfl,rfl,tZ⟩
 rintro⟨f,n,O,q,G⟩ ⟨z7,g0,gq,hq⟩ ih;simp only at z7 g0 gq hq ih ⊢;have y9:=z7.len;have ya:=z7.le;repeat first|(refine r_ ?_;simp)|refine q_ ?_
 refine Qa rfl (fun zi=> ?_) (fun zr=> ?_)
 ·have hn:n<O.length:=by simpa using zi
  have hw:IntKind.i64.wrap ((n:Int)+1)=n+1:=wrap_i64 _ (by omega) (by omega);obtain⟨f',rfl,zb⟩:=z7.step ha hn;have zt:=z7.inner ha hn;have zu:=z7.rg _ (zL hn);have hO:=fun j=>Ge (j:=j) O (Gr a O[n]);have zv:=fun n' O' q' G' h=>ih (f',n',O',q',G') h (uy _);clear ih;generalize O[n]=c at *
  have yb:(Gr a c).length=ls.length:=by rw[zh];simp
  have zj:Wk O (vu 0 (Gr a c))=O:=by unfold Wk;rfl
  have zw:Wk O []=O:=by unfold Wk;rfl
  repeat first|(refine r_ ?_;simp)|refine q_ ?_
  refine Qo (Qc (sl':=[(1,.vptr 0 0),(2,.bool false),(3,.list (ls.map encSy)),(4,.sl q 1 0 (Wk O (vu 0 (Gr a c))).length),(5,.i n),(6,.i (0:Nat))]) ?_ (by simp[zw]));refine Qn (P:=Tryz.prog) (F:=fun(u:Nat×Nat×List AObj)=>⟨[(1,.vptr 0 0),(2,.bool false),(3,.list (ls.map encSy)),(4,.sl u.2.1 1 0 (Wk O (vu u.1 (Gr a c))).length),(5,.i n),(6,.i u.1)],u.2.2⟩)
   (fun u=>u.1≤ls.length∧u.2.2[0]? =some (.vars (Q4 a))∧u.2.2[u.2.1]? =some (.arr 3 1 ((Wk O (vu u.1 (Gr a c))).map AV.i))∧0<u.2.1) (fun u=>ls.length - u.1) ?_ (0,q,G) ⟨xD _,g0,by rw[zj];exact gq,hq⟩
  clear g0 gq hq zi zj;clear G q;rintro⟨j,q,G⟩ ⟨hj,g0,gq,hq⟩ ih2;simp only at hj g0 gq hq ih2 ⊢;obtain⟨hI,zx⟩:=zt j;have zy:=hI.len;have zz:=hI.le;repeat first|(refine r_ ?_;simp)|refine q_ ?_
  refine Qa rfl (fun zc=> ?_) (fun zd=> ?_)
  ·have z1:j<ls.length:=by simpa using zc
   have zk:IntKind.i64.wrap ((j:Int)+1)=j+1:=wrap_i64 _ (by omega) (by omega);have ze:=hO j (by omega);have zl:(Gr a c)[j]'(by omega)=toL a c ls[j]:=by simp[zh]
   rw[zl]at ze;have z6:=fun q' G'=>ih2 (j+1,q',G');simp only[ze]at z6;have y0:=za _ (zL z1);have y1:=(ha.next zu y0).1;clear ze zl ih2;have zm:(ls.map encSy)[j]? =some (encSy ls[j]):=by simp[z1]
   have zn:∀hh,(ls.map encSy)[j]'hh=encSy ls[j]:=fun hh=>by simp
   generalize ls[j]=x at *
   have y2:=w05 a ha.ok c x;generalize toL a c x=d at *;generalize Wk O (vu j (Gr a c))=P at *
   have zo:(P.map AV.i)[n]? =some (.i c):=by simp[zx]
   have y3:∀hh,(P.map AV.i)[n]'hh= .i c:=fun hh=>(yQ hh).2 zo;have y4:n<P.length:=by omega
   have z8:(P.map AV.i).length=P.length:=by simp
   have zf:(P.map AV.i).take P.length=P.map AV.i:=zR (by simp);simp only[encSy]at zm zn;repeat first|(refine r_ ?_;simp)|refine q_ ?_
   refine Qm tOk mixed [] (.val 0 (.val 1 (.val 2 (.val 3 (.val 4 (.val 5 (.val 6 (.val 7 (.val 8 (.one 9 (.val 10 (.done)))))))))))) rfl (by kernel_rfl) ?_;simp[g0,gq,zo,y3,y4,z8,zm,zn,z1];refine Qe rfl rfl (by simp) (y2) rfl ?_;rintro _ rfl;simp;have y5:decide (0≤d)=true:=by have:=y1.1;simpa using this
   repeat first|(refine r_ ?_;simp[y5])|refine q_ ?_
   refine D2 rfl rfl (by first|(simp[gq,zf,z8];done)|(simp[gq,zf,z8];rfl)) (v1m P d) rfl ?_;rintro _ rfl;refine⟨by first|simp|rfl|trivial,?_⟩;simp[gq,zf,z8];rw[c1f];repeat first|(refine r_ ?_;simp)|refine q_ ?_
   by_cases hmem:d∈P
   ·refine Qa rfl (fun h=>by simp[hmem]at h) (fun _=> ?_);have hA:addI P d=P:=by unfold addI;rw[if_pos hmem]
    rw[hA]at z6;repeat first|(refine r_ ?_;simp[zk])|refine q_ ?_
    refine Qc (sl':=[(1,.vptr 0 0),(2,.bool false),(3,.list (ls.map encSy)),(4,.sl q 1 0 P.length),(5,.i n),(6,.i (j+1:Nat))]) ?_ (by simp);exact z6 q _ ⟨by omega,g0,gq,hq⟩ (by omega)
   ·refine Qa rfl (fun _=> ?_) (fun h=>by simp[hmem]at h);have hA:addI P d=P++[d]:=by unfold addI;rw[if_neg hmem]
    rw[hA]at z6;repeat first|(refine r_ ?_;simp)|refine q_ ?_
    refine Qf tOk rfl rfl T40 rfl T3 rfl (by decide) (by decide) rfl rfl rfl ?_;simp[Qb gq,Qj gq,gq,z8];refine⟨by simp[Wi,Qb gq,Qj gq,gq,z8]<;>omega,?_⟩;repeat first|(refine r_ ?_;simp[zk])|refine q_ ?_
    refine Qc (sl':=[(1,.vptr 0 0),(2,.bool false),(3,.list (ls.map encSy)),(4,.sl (G.length+1) 1 0 (P++[d]).length),(5,.i n),(6,.i (j+1:Nat))]) ?_ (by simp);refine z6 (G.length+1) _ ⟨by omega,Qb (Qd (by omega) g0 _) _,?_,by omega⟩ (by omega);rw[zH (by simp)];simp
  ·have y6:j=ls.length:=by simp at zd;omega
   subst y6;have y7:vu ls.length (Gr a c)=Gr a c:=zR (by omega);rw[y7]at gq zz zy ⊢;repeat first|(refine r_ ?_;simp[hw])|refine q_ ?_
   refine Qc (sl':=[(1,.vptr 0 0),(2,.bool false),(3,.list (ls.map encSy)),(4,.sl q 1 0 (Wk O (Gr a c)).length),(5,.i (n+1:Nat))]) ?_ (by simp);exact zv (n+1) _ q G ⟨zb,g0,gq,hq⟩
 ·have zg:O.length≤n:=by simp at zr;omega
  have y8:=z7.stop zg;rw[y8];repeat first|(refine r_ ?_;simp[g0])|refine q_ ?_
  rw[wt,beq_iff_eq,beq_iff_eq];omega
end Go.Abs
namespace Go.Abs
open Go Go.Proofs Go.Maps Go.RowKit
theorem z1n(a:Aut)(s:Int)(w:List Sy){j:Nat}(h:j<w.length):stF a s (w.take (j+1))=toL a (stF a s (w.take j)) w[j]:=by unfold stF;rw[zU h,wL];rfl
theorem k1j(a:Aut)(s:Int):stF a s []=s:=rfl
theorem c0h{T:Int}{w:List Sy}{j:Nat}(h:j<w.length):Lm T (w.drop j)=if P6 T w[j]≠0 then P6 T w[j]else Lm T (w.drop (j+1)):=by rw[xV h];rfl
attribute [local irreducible] toL stF Lm P6
theorem w00(a:Aut)(ha:OkA a)(s:Int)(w:List Sy)(ze:w.length≤1000000):PC Tryz.prog 102 [encA a,.i s,LSy w] (fun r=>r= .i (stF a s w)):=by
 refine Qk tOk Tryz.func102 rfl Tryz.results102 rfl (by simp[Tryz.ntmps102]) ?_;rw[Tryz.ntmps102];simp only[Qg];simp only[encA,LSy];repeat first|(refine r_ ?_;simp)|refine q_ ?_
 refine Qo (Qc (sl':=[(1,.i (stF a s (w.take 0))),(2,.list (w.map encSy)),(3,.vptr 0 0),(6,.i 0),(7,.i (0:Nat))]) ?_ (by simp[k1j]));refine Qn (P:=Tryz.prog) (F:=fun(u:Nat×List AObj)=>⟨[(1,.i (stF a s (w.take u.1))),(2,.list (w.map encSy)),(3,.vptr 0 0),(6,.i 0),(7,.i u.1)],u.2⟩)
  (fun u=>u.1≤w.length∧u.2[0]? =some (.vars (Q4 a))) (fun u=>w.length - u.1) ?_ (0,_) ⟨xD _,rfl⟩
 rintro⟨j,H⟩ ⟨hj,h0⟩ ih;simp only at hj h0 ih ⊢;repeat first|(refine r_ ?_;simp)|refine q_ ?_
 refine Qa rfl (fun za=> ?_) (fun zb=> ?_)
 ·have z1:j<w.length:=by simpa using za
  have hw:IntKind.i64.wrap ((j:Int)+1)=j+1:=wrap_i64 _ (by omega) (by omega);have zc:=z1n a s w z1;have z6:=fun H'=>ih (j+1,H');simp only[zc]at z6;have z7:(w.map encSy)[j]? =some (encSy w[j]):=by simp[z1]
  have z8:∀hh,(w.map encSy)[j]'hh=encSy w[j]:=fun hh=>by simp
  generalize w[j]=x at *;generalize stF a s (w.take j)=t at *;simp only[encSy]at z7 z8
  repeat first|(refine r_ ?_;simp)|refine q_ ?_
  refine Qm tOk mixed [] (.val 0 (.val 1 (.val 2 (.val 3 (.val 4 (.val 5 (.one 6 (.val 7 (.done))))))))) rfl (by kernel_rfl) ?_;simp[h0,z7,z8,z1];refine Qe rfl rfl (by simp) (w05 a ha t x) rfl ?_;rintro _ rfl;simp;repeat first|(refine r_ ?_;simp[hw])|refine q_ ?_
  refine Qc (sl':=[(1,.i (toL a t x)),(2,.list (w.map encSy)),(3,.vptr 0 0),(6,.i 0),(7,.i (j+1:Nat))]) ?_ (by simp);exact z6 H ⟨by omega,h0⟩ (by omega)
 ·have zd:j=w.length:=by simp at zb;omega
  subst zd;rw[yW];repeat first|(refine r_ ?_;simp)|refine q_ ?_
attribute [local simp] T60 c0j
theorem x18(a:Aut)(x:Rfm)(p q:Int):PC Tryz.prog 101 [encA a,Wj x,.i p,.i q] (fun r=>r= .i (Jz a.types x (p,q))):=by
 obtain⟨⟨xa,xb⟩,w⟩:=x;refine Qk tOk Tryz.func101 rfl Tryz.results101 rfl (by simp[Tryz.ntmps101]) ?_;rw[Tryz.ntmps101];simp only[Qg];simp only[encA,Wj,LSy];obtain⟨R,hR⟩:∃R,Jz a.types ((xa,xb),w) (p,q)=R:=⟨_,rfl⟩
 rw[hR];unfold Jz at hR;by_cases h1:xa=p
 ·have z6:(xa != p)=false:=by simp[h1]
  repeat first|(refine r_ ?_;simp[z6])|refine q_ ?_
  refine Qa rfl (fun h=> ?_) (fun h=> ?_)
  ·rw[if_pos (by simp at h;simp;intro _;exact h)]at hR;rw[←hR];repeat first|(refine r_ ?_;simp)|refine q_ ?_
  have h2:xb=q:=by simpa using h
  rw[if_neg (by simp[h1,h2])]at hR;repeat first|(refine r_ ?_;simp)|refine q_ ?_
  refine Qa rfl (fun h=> ?_) (fun h=> ?_)
  ·rw[if_pos (by simp at h;simp;omega)]at hR;rw[←hR];repeat first|(refine r_ ?_;simp)|refine q_ ?_
  have zd:w.length≤4096:=by simp at h;omega
  rw[if_neg (by simp;omega)]at hR;simp only at hR;repeat first|(refine r_ ?_;simp)|refine q_ ?_
  refine Qo (Qc (sl':=[(2,.i p),(3,.i q),(4,.vptr 0 0),(5,.vptr 1 0),(8,.i 0),(9,.i (0:Nat))]) ?_ (by simp));refine Qn (P:=Tryz.prog) (F:=fun(u:Nat×List AObj)=>⟨[(2,.i p),(3,.i q),(4,.vptr 0 0),(5,.vptr 1 0),(8,.i 0),(9,.i u.1)],u.2⟩)
   (fun u=>u.1≤w.length∧Lm a.types (w.drop u.1)=R∧u.2[0]? =some (.vars (Q4 a))∧u.2[1]? =some (.vars [.i xa,.i xb,.list (w.map encSy)])) (fun u=>w.length - u.1) ?_ (0,_) ⟨xD _,by rw[tP];exact hR,rfl,rfl⟩
  clear hR;rintro⟨j,H⟩ ⟨hj,hR,g0,g1⟩ ih;simp only at hj hR g0 g1 ih ⊢;repeat first|(refine r_ ?_;simp[g1])|refine q_ ?_
  refine Qa rfl (fun za=> ?_) (fun zb=> ?_)
  ·have z1:j<w.length:=by simpa using za
   have hw:IntKind.i64.wrap ((j:Int)+1)=j+1:=wrap_i64 _ (by omega) (by omega);rw[c0h z1]at hR;have z7:(w.map encSy)[j]? =some (encSy w[j]):=by simp[z1]
   have z8:∀hh,(w.map encSy)[j]'hh=encSy w[j]:=fun hh=>by simp
   generalize w[j]=y at *;simp only[encSy]at z7 z8
   repeat first|(refine r_ ?_;simp)|refine q_ ?_
   refine Qm tOk mixed [] (.val 0 (.val 1 (.val 2 (.val 3 (.val 4 (.val 5 (.val 6 (.one 7 (.val 8 (.done)))))))))) rfl (by kernel_rfl) ?_;simp[g0,g1,z7,z8,z1];refine Qe rfl rfl (by simp) (q17 a.types y) rfl ?_;rintro _ rfl;simp;repeat first|(refine r_ ?_;simp)|refine q_ ?_
   refine Qa rfl (fun h=> ?_) (fun h=> ?_)
   ·rw[if_pos (by simpa using h)]at hR;rw[←hR];repeat first|(refine r_ ?_;simp)|refine q_ ?_
   ·rw[if_neg (by simpa using h)]at hR;repeat first|(refine r_ ?_;simp[hw])|refine q_ ?_
    refine Qc (sl':=[(2,.i p),(3,.i q),(4,.vptr 0 0),(5,.vptr 1 0),(8,.i 0),(9,.i (j+1:Nat))]) ?_ (by simp);exact ih (j+1,H) ⟨by simp only;omega,hR,g0,g1⟩ (by simp only;omega)
  ·have zc:j=w.length:=by simp at zb;omega
   subst zc;rw[xF]at hR;have:R=0:=by rw[←hR];unfold Lm;rfl
   rw[this];repeat first|(refine r_ ?_;simp)|refine q_ ?_
 ·have z6:(xa != p)=true:=by simpa using h1
  rw[if_pos (by simp[h1])]at hR;rw[←hR];repeat first|(refine r_ ?_;simp[z6])|refine q_ ?_
  refine Qa rfl (fun _=> ?_) (fun h=>by simp at h);repeat first|(refine r_ ?_;simp)|refine q_ ?_

theorem d05{a:Aut}(ha:Dfa a):∀(w:List Sy) (s:Int),inS a s→(∀x∈w,Rm a x)→inS a (stF a s w)
 |[],s,hs,_=>by unfold stF;exact hs
 |x::w,s,hs,hw=>by have:=d05 ha w _ (ha.next hs (hw x (by simp))).1 fun y hy=>hw y (by simp[hy]);unfold stF at this ⊢;exact this
end Go.Abs
namespace Go.Abs
open Go Go.Proofs Go.Maps Go.RowKit
theorem v16(n i j:Nat)(h:i<n)(hj:j<n - 1 - i):(prs n)[(Ym n i).length+j]? =some ((i:Int),(i:Int)+1+j):=by obtain⟨r,hr⟩:=Lt n (show i+1≤n by omega);unfold prs;rw[hr,Ix,xT,zH (by omega),Nat.add_sub_cancel_left,zF (by simpa[Tb]using hj)];simp[Tb,hj]
theorem y1q(n i:Nat):(Ym n (i+1)).length=(Ym n i).length+(n - 1 - i):=by rw[Ix,zZ];simp[Tb]
theorem j0q{n i:Nat}(h:i≤n):(Ym n i).length≤(prs n).length:=by obtain⟨r,hr⟩:=Lt n h;unfold prs;rw[hr,zZ];omega
attribute [local simp] T60 c0j
attribute [local irreducible] Tf Pw Jp prs Ym Jz Jl stF Lm
theorem y0j(a:Aut)(P:List Rfm)(hP:P.length≤1000000):PC Tryz.prog 40 [encA a,.list (P.map Wj)] (fun r=>r= .i (f1r a P)):=by
 obtain⟨R,hR⟩:∃R,f1r a P=R:=⟨_,rfl⟩
 rw[hR];unfold f1r at hR;refine Qk tOk Tryz.func40 rfl Tryz.results40 rfl (by simp[Tryz.ntmps40]) ?_;rw[Tryz.ntmps40];simp only[Qg];simp only[encA];repeat first|(refine r_ ?_;simp)|refine q_ ?_
 refine Qe rfl rfl (by simp) (w0x a) rfl ?_;rintro _ rfl;simp;repeat first|(refine r_ ?_;simp)|refine q_ ?_
 refine Qa rfl (fun h=> ?_) (fun h=> ?_)
 ·rw[if_pos (by simpa using h)]at hR;rw[←hR];repeat first|(refine r_ ?_;simp)|refine q_ ?_
 have h0:Tf a=0:=by simpa using h
 have ha:=(O6 a).1 h0;have zp:=ha.ok.fin;rw[if_neg (fun k=>k h0)]at hR;have zq:IntKind.i64.wrap ((a.fin.length:Int) - 1)=(a.fin.length:Int) - 1:=wrap_i64 _ (by omega) (by omega);obtain⟨k,hk⟩:∃k:Nat,a.fin.length * (a.fin.length - 1)=k:=⟨_,rfl⟩
 have zz:k≤65536:=by rw[←hk];exact yH (u7 zp.2 (show a.fin.length - 1≤256 by omega)) (by decide)
 have zr:(a.fin.length:Int) * ((a.fin.length:Int) - 1)=k:=by rw[←hk,show(a.fin.length:Int) - 1=((a.fin.length - 1:Nat):Int) by omega,←ue]
 have zh:IntKind.i64.wrap ((a.fin.length:Int) * ((a.fin.length:Int) - 1))=k:=by rw[zr];exact wrap_i64 _ (by omega) (by omega)
 have za:IntKind.i64.wrap ((k:Int) / 2)=((k / 2:Nat):Int):=by rw[wrap_i64 _ (by omega) (by omega)];omega
 have zi:=Zy a.fin.length;rw[hk]at hR zi;obtain⟨k2,zk⟩:∃k2,k / 2=k2:=⟨_,rfl⟩
 rw[zk]at za hR zi;repeat first|(refine r_ ?_;simp[zq,zh,za])|refine q_ ?_
 refine Qa rfl (fun h=> ?_) (fun h=> ?_)
 ·rw[if_pos (by simp at h;omega)]at hR;rw[←hR];repeat first|(refine r_ ?_;simp)|refine q_ ?_
 have y0:P.length=k2:=by simp at h;omega
 rw[if_neg (by omega)]at hR;clear zq zh za zr zz;have z6:=fun(h:Jl a.types (prs a.fin.length) P=0)=>N6 (by rw[zi,y0]) h;repeat first|(refine r_ ?_;simp)|refine q_ ?_
 obtain⟨n,hn⟩:∃n,a.fin.length=n:=⟨_,rfl⟩
 rw[hn]at hR z6 zi zp ⊢;obtain⟨V,hV⟩:∃V,Jl a.types (prs n) P=V:=⟨_,rfl⟩
 rw[hV]at hR z6;refine Qo (Qc (sl':=[(1,.list (P.map Wj)),(2,.vptr 0 0),(4,.i 0),(6,.i n),(7,.i (Ym n 0).length),(8,.i (0:Nat))]) ?_ (by simp[show Ym n 0=[] by unfold Ym;rfl]));refine Qn (P:=Tryz.prog) (F:=fun(u:Nat×List AObj)=>⟨[(1,.list (P.map Wj)),(2,.vptr 0 0),(4,.i 0),(6,.i n),(7,.i (Ym n u.1).length),(8,.i u.1)],u.2⟩)
  (fun u=>u.1≤n∧V=Jl a.types ((prs n).drop (Ym n u.1).length) (P.drop (Ym n u.1).length)∧u.2[0]? =some (.vars (Q4 a))) (fun u=>n - u.1) ?_ (0,_) ⟨xD _,by rw[show Ym n 0=[] by unfold Ym;rfl];simp[hV],rfl⟩
 rintro⟨i,H⟩ ⟨hi,hv,h0⟩ ih;simp only at hi hv h0 ih ⊢;repeat first|(refine r_ ?_;simp)|refine q_ ?_
 refine Qa rfl (fun y1=> ?_) (fun y2=> ?_)
 ·have z1:i<n:=by simpa using y1
  have hw:IntKind.i64.wrap ((i:Int)+1)=i+1:=wrap_i64 _ (by omega) (by omega);have y3:=y1q n i;have hle:=j0q (n:=n) (i:=i+1) (by omega);have y4:=fun j hj=>v16 n i j z1 hj;have zt:=fun H'=>ih (i+1,H');simp only[y3]at zt;clear ih;generalize (Ym n i).length=o at *
  repeat first|(refine r_ ?_;simp[hw])|refine q_ ?_
  refine Qo (Qc (sl':=[(1,.list (P.map Wj)),(2,.vptr 0 0),(4,.i 0),(6,.i n),(7,.i (o+0:Nat)),(8,.i i),(9,.i (i+1+0:Nat))]) ?_ (by simp));refine Qn (P:=Tryz.prog) (F:=fun(u:Nat×List AObj)=>⟨[(1,.list (P.map Wj)),(2,.vptr 0 0),(4,.i 0),(6,.i n),(7,.i (o+u.1:Nat)),(8,.i i),(9,.i (i+1+u.1:Nat))],u.2⟩)
   (fun u=>u.1≤n - 1 - i∧V=Jl a.types ((prs n).drop (o+u.1)) (P.drop (o+u.1))∧u.2[0]? =some (.vars (Q4 a))) (fun u=>n - 1 - i - u.1) ?_ (0,H) ⟨xD _,by rw[Nat.add_zero];exact hv,h0⟩
  clear hv h0;clear H;rintro⟨j,H⟩ ⟨hj,hv,h0⟩ ih2;simp only at hj hv h0 ih2 ⊢;repeat first|(refine r_ ?_;simp)|refine q_ ?_
  refine Qa rfl (fun z7=> ?_) (fun z8=> ?_)
  ·have zb:j<n - 1 - i:=by simp at z7;omega
   have zl:o+j<P.length:=by omega
   have zh:IntKind.i64.wrap ((i:Int)+1+j+1)=i+1+j+1:=wrap_i64 _ (by omega) (by omega);have za:IntKind.i64.wrap ((o:Int)+j+1)=o+j+1:=wrap_i64 _ (by omega) (by omega);rw[q1e (y4 j zb) zl]at hv;have zc:(P.map Wj)[o+j]? =some (Wj P[o+j]):=by simp[zl]
   have zd:∀hh,(P.map Wj)[o+j]'hh=Wj P[o+j]:=fun hh=>by simp
   have y5:(P.map Wj).length=P.length:=by simp
   have y6:((o:Int)+j).toNat=o+j:=by omega
   generalize P[o+j]=x at *
   have hc:=x18 a x i (i+1+j);obtain⟨e,he⟩:∃e,Jz a.types x ((i:Int),(i:Int)+1+j)=e:=⟨_,rfl⟩
   rw[he]at hv hc;simp only[Wj]at hc;simp only[Wj]at zc zd;repeat first|(refine r_ ?_;simp)|refine q_ ?_
   have y7:(0:Int)≤(o:Int)+j:=by omega
   have zm:(o:Int)+j<P.length:=by omega
   refine Qm tOk mixed [] (.val 0 (.val 1 (.val 2 (.val 3 (.val 4 (.val 5 (.val 6 (.one 7 (.val 8 (.done)))))))))) rfl (by kernel_rfl) ?_;simp[h0,zc,zd,zl,y6,y7,zm];refine Qe rfl rfl (by simp) (hc) rfl ?_;rintro _ rfl;simp;repeat first|(refine r_ ?_;simp)|refine q_ ?_
   refine Qa rfl (fun h=> ?_) (fun h=> ?_)
   ·have zj:e≠0:=by simpa using h
    rw[if_pos zj]at hv;rw[if_pos (by rw[hv];exact zj),hv]at hR;rw[←hR];repeat first|(refine r_ ?_;simp)|refine q_ ?_
   ·have zj:e=0:=by simpa using h
    rw[if_neg (fun k=>k zj)]at hv;repeat first|(refine r_ ?_;simp[zh,za])|refine q_ ?_
    refine Qc (sl':=[(1,.list (P.map Wj)),(2,.vptr 0 0),(4,.i 0),(6,.i n),(7,.i (o+(j+1):Nat)),(8,.i i),(9,.i (i+1+(j+1):Nat))]) ?_ (by simp;omega);exact ih2 (j+1,H) ⟨by simp only;omega,by rw[←Nat.add_assoc];exact hv,h0⟩ (by simp only;omega)
  ·have zn:j=n - 1 - i:=by simp at z8;omega
   subst zn;repeat first|(refine r_ ?_;simp[hw])|refine q_ ?_
   refine Qc (sl':=[(1,.list (P.map Wj)),(2,.vptr 0 0),(4,.i 0),(6,.i n),(7,.i (o+(n - 1 - i):Nat)),(8,.i (i+1:Nat))]) ?_ (by simp);exact zt H ⟨by omega,hv,h0⟩ (by omega)
 ·have zo:i=n:=by simp at y2;omega
  subst zo;have y8:(Ym i i).length=P.length:=by
   have:(Ym i i).length=(prs i).length:=by unfold prs;rfl
   omega
  rw[y8,xF]at hv;have zu:V=0:=by rw[hv,List.drop_of_length_le (by omega)];unfold Jl;rfl
  rw[zu,if_neg (by simp)]at hR;have ze:=z6 zu;clear ih hv hV z6;generalize (Ym i i).length=o at *
  repeat first|(refine r_ ?_;simp)|refine q_ ?_
  refine Qo (Qc (sl':=[(1,.list (P.map Wj)),(2,.vptr 0 0),(4,.i 0),(11,.i (0:Nat))]) ?_ (by simp));refine Qn (P:=Tryz.prog) (F:=fun(u:Nat×List AObj)=>⟨[(1,.list (P.map Wj)),(2,.vptr 0 0),(4,.i 0),(11,.i u.1)],u.2⟩)
   (fun u=>u.1≤P.length∧(if(P.drop u.1).any (u1f a)then(18:Int)else if Pw a then 0 else 18)=R∧u.2[0]? =some (.vars (Q4 a))) (fun u=>P.length - u.1) ?_ (0,H) ⟨xD _,by rw[tP];exact hR,h0⟩
  clear hR h0;clear H;rintro⟨j,H⟩ ⟨hj,hR,h0⟩ ih;simp only at hj hR h0 ih ⊢;repeat first|(refine r_ ?_;simp)|refine q_ ?_
  refine Qa rfl (fun z7=> ?_) (fun z8=> ?_)
  ·have z1:j<P.length:=by simpa using z7
   have hw:IntKind.i64.wrap ((j:Int)+1)=j+1:=wrap_i64 _ (by omega) (by omega);rw[xV z1,tR]at hR;obtain⟨zv,y9,zw⟩:=ze _ (zL z1);have zc:(P.map Wj)[j]? =some (Wj P[j]):=by simp[z1]
   have zd:∀hh,(P.map Wj)[j]'hh=Wj P[j]:=fun hh=>by simp
   generalize P[j]=x at *
   obtain⟨⟨p,q⟩,w⟩:=x;simp only at zv y9 zw;have hb:=B6 zv;simp only at hb;have zy:∀y∈w,Rm a y:=fun y hy=>(Fp _ _).1 ((Zn w).1 zw y hy);have ip:inS a (stF a p w):=d05 ha w p ⟨hb.1,by omega⟩ zy;have iq:inS a (stF a q w):=d05 ha w q ⟨by omega,by omega⟩ zy;have cp:=w00 a ha.ok p w (by omega);have cq:=w00 a ha.ok q w (by omega);have hX:u1f a ((p,q),w)=(a.fin.getD (stF a p w).toNat false==a.fin.getD (stF a q w).toNat false):=rfl;rw[hX]at hR;generalize stF a p w=sp at *;generalize stF a q w=sq at *;simp only[Wj]at zc zd
   obtain⟨sp,rfl⟩:∃i:Nat,sp=i:=⟨sp.toNat,by have:=ip.1;omega⟩
   obtain⟨sq,rfl⟩:∃i:Nat,sq=i:=⟨sq.toNat,by have:=iq.1;omega⟩
   have zf:sp<a.fin.length:=by have:=ip.2;omega
   have zg:sq<a.fin.length:=by have:=iq.2;omega
   have e1:a.fin.getD sp false=a.fin[sp]:=by simp[yX,zf]
   have e2:a.fin.getD sq false=a.fin[sq]:=by simp[yX,zg]
   simp only[ut]at hR;simp only[e1,e2]at hR;repeat first|(refine r_ ?_;simp[zc,zd,z1])|refine q_ ?_
   refine Wb fun Z hZ=> ?_;have z0:Z[0]? =some (.vars (Q4 a)):=by rw[hZ];exact Qb h0 _
   have zx:Z[H.length]? =some (.vars [.i p,.i q,.list (w.map encSy)]):=by rw[hZ,zH (by simp)];simp
   clear hZ;repeat first|(refine r_ ?_;simp)|refine q_ ?_
   refine Qm tOk mixed [] (.val 0 (.val 1 (.val 2 (.val 3 (.val 4 (.val 5 (.val 6 (.val 10 (.val 11 (.val 12 (.val 13 (.val 14 (.val 15 (.val 16 (.one 7 (.val 8 (.val 9 (.one 17 (.val 18 (.val 19 (.val 20 (.done)))))))))))))))))))))) rfl (by kernel_rfl) ?_;simp[z0,zx,zf,zg];refine Qe rfl rfl (by simp) (cp) rfl ?_;rintro _ rfl;simp[z0,zx,zf,zg];refine Qe rfl rfl (by simp) (cq) rfl ?_;rintro _ rfl;simp[z0,zx,zf,zg];repeat first|(refine r_ ?_;simp[z0,zx,zf,zg])|refine q_ ?_
   refine Qa rfl (fun h=> ?_) (fun h=> ?_)
   ·have h':(a.fin[sp]==a.fin[sq])=true:=by simpa using h
    rw[h',tV,if_pos rfl]at hR;rw[←hR];repeat first|(refine r_ ?_;simp)|refine q_ ?_
   ·have h':(a.fin[sp]==a.fin[sq])=false:=by simpa using h
    rw[h',tg]at hR;repeat first|(refine r_ ?_;simp[hw])|refine q_ ?_
    refine Qc (sl':=[(1,.list (P.map Wj)),(2,.vptr 0 0),(4,.i 0),(11,.i (j+1:Nat))]) ?_ (by simp);exact ih (j+1,Z) ⟨by simp only;omega,hR,z0⟩ (by simp only;omega)
  ·have zn:j=P.length:=by simp at z8;omega
   subst zn;rw[xF,List.any_nil,if_neg (by simp),d0u ha]at hR;repeat first|(refine r_ ?_;simp[h0])|refine q_ ?_
   refine Qe rfl rfl (by simp) (M8 a ha) rfl ?_;rintro _ rfl;simp;repeat first|(refine r_ ?_;simp)|refine q_ ?_
   cases hcn:Jp a with
   |true=>rw[hcn,if_pos rfl]at hR;rw[←hR];refine Qa rfl (fun h=>by simp[hcn]at h) (fun _=> ?_);repeat (first|(refine r_ ?_;simp)|refine q_ ?_)
   |false=>rw[hcn,if_neg (by simp)]at hR;rw[←hR];refine Qa rfl (fun _=> ?_) (fun h=>by simp[hcn]at h);repeat first|(refine r_ ?_;simp)|refine q_ ?_
end Go.Abs
namespace Go.Abs
open Go Go.Proofs Go.Maps Go.RowKit
def rfE(a:Aut)(e:Int×Int):AV:=Wj (e,wdR a e)
attribute [local simp] T60 c0j
attribute [local irreducible] Tf Pw Jp prs Ym Tb I8 lkN Es wdR j12 c1i
theorem z0z(a:Aut):PC Tryz.prog 37 [encA a] (fun r=>r= .tup [.list ((q1u a).1.map Wj),.i (q1u a).2]):=by
 refine Qk tOk Tryz.func37 rfl Tryz.results37 rfl (by simp[Tryz.ntmps37]) ?_;rw[Tryz.ntmps37];simp only[Qg];simp only[encA];obtain⟨R,hR⟩:∃R,q1u a=R:=⟨_,rfl⟩
 rw[hR];unfold q1u at hR;repeat first|(refine r_ ?_;simp)|refine q_ ?_
 refine Qe rfl rfl (by simp) (w0x a) rfl ?_;rintro _ rfl;simp;repeat first|(refine r_ ?_;simp)|refine q_ ?_
 refine Qa rfl (fun h=> ?_) (fun h=> ?_)
 ·rw[if_pos (by simpa using h)]at hR;rw[←hR];repeat first|(refine r_ ?_;simp)|refine q_ ?_
 have h0:Tf a=0:=by simpa using h
 have ha:=(O6 a).1 h0;have zo:=ha.ok.fin;rw[if_neg (fun k=>k h0)]at hR;have zp:IntKind.i64.wrap ((a.fin.length:Int) - 1)=(a.fin.length:Int) - 1:=wrap_i64 _ (by omega) (by omega);obtain⟨k,hk⟩:∃k:Nat,a.fin.length * (a.fin.length - 1)=k:=⟨_,rfl⟩
 have zw:k≤65536:=by rw[←hk];exact yH (u7 zo.2 (show a.fin.length - 1≤256 by omega)) (by decide)
 have zq:(a.fin.length:Int) * ((a.fin.length:Int) - 1)=k:=by rw[←hk,show(a.fin.length:Int) - 1=((a.fin.length - 1:Nat):Int) by omega,←ue]
 have za:IntKind.i64.wrap ((a.fin.length:Int) * ((a.fin.length:Int) - 1))=k:=by rw[zq];exact wrap_i64 _ (by omega) (by omega)
 have zc:IntKind.i64.wrap ((k:Int) / 2)=((k / 2:Nat):Int):=by rw[wrap_i64 _ (by omega) (by omega)];omega
 have zd:=Zy a.fin.length;rw[hk]at hR zd;obtain⟨k2,ze⟩:∃k2,k / 2=k2:=⟨_,rfl⟩
 rw[ze]at zc hR zd;repeat first|(refine r_ ?_;simp[zp,za,zc])|refine q_ ?_
 refine Qa rfl (fun h=> ?_) (fun h=> ?_)
 ·rw[if_pos (by simp at h;omega)]at hR;rw[←hR];repeat first|(refine r_ ?_;simp)|refine q_ ?_
 have y7:k2≤4096:=by simp at h;omega
 rw[if_neg (by omega)]at hR;clear zp za zc zq zw;repeat first|(refine r_ ?_;simp)|refine q_ ?_
 refine Qe rfl rfl (by simp) (M8 a ha) rfl ?_;rintro _ rfl;simp;repeat first|(refine r_ ?_;simp)|refine q_ ?_
 rw[d0u ha]at hR;cases hcn:Jp a with
 |false=>rw[if_pos hcn]at hR;rw[←hR];refine Qa rfl (fun _=> ?_) (fun h=>by simp[hcn]at h);repeat (first|(refine r_ ?_;simp)|refine q_ ?_)
 |true=>
  rw[if_neg (by rw[hcn];simp)]at hR;refine Qa rfl (fun h=>by simp[hcn]at h) (fun _=> ?_);repeat first|(refine r_ ?_;simp)|refine q_ ?_
  obtain⟨n,hn⟩:∃n,a.fin.length=n:=⟨_,rfl⟩
  have zx:=fun p q (hp:inS a p) (hq:inS a q)=>Nj ha hp hq;refine Qz (sl':=[(1,.vptr 0 0),(2,.nils),(3,.i 0),(5,.i a.fin.length),(6,.nils),(7,.i (0:Nat))]) ?_ (by simp);refine Q8 6 147 3 rfl ?_;simp;rw[hn]at hR zd zo ⊢;have hz:Ym n 0=[]:=by unfold Ym;rfl
  refine Qo (Qc (sl':=[(1,.vptr 0 0),(2,.nils),(3,.i 0),(5,.i n),(6,.sl 1 3 0 (Ym n 0).length),(7,.i (0:Nat))]) ?_ (by simp[hz]));refine Qn (P:=Tryz.prog) (F:=fun(u:Nat×Nat×List AObj)=>⟨[(1,.vptr 0 0),(2,.nils),(3,.i 0),(5,.i n),(6,.sl u.2.1 3 0 (Ym n u.1).length),(7,.i u.1)],u.2.2⟩)
   (fun u=>u.1≤n∧j12 a (Ym n u.1)∧u.2.2[0]? =some (.vars (Q4 a))∧u.2.2[u.2.1]? =some (.arr 147 3 ((Ym n u.1).map (rfE a)))∧0<u.2.1) (fun u=>n - u.1) ?_ (0,1,_) ⟨xD _,by rw[hz];unfold j12;simp,rfl,by rw[hz];rfl,tZ⟩
  rintro⟨i,q,H⟩ ⟨hi,z1,h0,hq,z8⟩ ih;simp only at hi z1 h0 hq z8 ih ⊢;repeat first|(refine r_ ?_;simp)|refine q_ ?_
  refine Qa rfl (fun zy=> ?_) (fun zz=> ?_)
  ·have zf:i<n:=by simpa using zy
   have hw:IntKind.i64.wrap ((i:Int)+1)=i+1:=wrap_i64 _ (by omega) (by omega);have hle:=j0q (n:=n) (i:=i+1) (by omega);have zr:=Ix n i;have y0:=fun j hj=>v16 n i j zf hj;have zg:Tb i 0=[]:=by unfold Tb;rfl
   have zh:=fun q' H'=>ih (i+1,q',H');simp only[zr]at zh;rw[zr]at hle;clear ih;repeat first|(refine r_ ?_;simp[hw])|refine q_ ?_
   refine Qo (Qc (sl':=[(1,.vptr 0 0),(2,.nils),(3,.i 0),(5,.i n),(6,.sl q 3 0 (Ym n i++Tb i 0).length),(7,.i i),(8,.i (i+1+0:Nat))]) ?_ (by simp[zg]));refine Qn (P:=Tryz.prog) (F:=fun(u:Nat×Nat×List AObj)=>⟨[(1,.vptr 0 0),(2,.nils),(3,.i 0),(5,.i n),(6,.sl u.2.1 3 0 (Ym n i++Tb i u.1).length),(7,.i i),(8,.i (i+1+u.1:Nat))],u.2.2⟩)
    (fun u=>u.1≤n - 1 - i∧j12 a (Ym n i++Tb i u.1)∧u.2.2[0]? =some (.vars (Q4 a))∧u.2.2[u.2.1]? =some (.arr 147 3 ((Ym n i++Tb i u.1).map (rfE a)))∧0<u.2.1) (fun u=>n - 1 - i - u.1) ?_ (0,q,H) ⟨xD _,by rw[zg,xB];exact z1,h0,by rw[zg,xB];exact hq,z8⟩
   clear z1 h0 hq z8;clear H q;rintro⟨j,q,H⟩ ⟨hj,z1,h0,hq,z8⟩ ih2;simp only at hj z1 h0 hq z8 ih2 ⊢;have zt:=K0 i j;have z7:=fun q' H'=>ih2 (j+1,q',H');simp only[zt,←xT]at z7;clear ih2;have zi:j<n - 1 - i→(Ym n i++Tb i j).length+1≤(prs n).length:=fun z6=>by obtain⟨r1,y1⟩:=Be i (show j+1≤n - 1 - i by omega);rw[y1,zt]at hle;simp at hle ⊢;omega
   obtain⟨L,zj⟩:∃L,Ym n i++Tb i j=L:=⟨_,rfl⟩
   rw[zj]at z1 hq z7 zi ⊢;repeat first|(refine r_ ?_;simp)|refine q_ ?_
   refine Qa rfl (fun zk=> ?_) (fun zl=> ?_)
   ·have z6:j<n - 1 - i:=by simp at zk;omega
    have zi:=zi z6;have za:IntKind.i64.wrap ((i:Int)+1+j+1)=i+1+j+1:=wrap_i64 _ (by omega) (by omega);have zm:=List.mem_of_getElem? (y0 j z6);have hp:inS a (i:Int):=⟨by omega,by omega⟩
    have hk:inS a ((i:Int)+1+j):=⟨by omega,by omega⟩
    have zb:=zx _ _ hp hk;have cP:=v0l a a ha ha rfl i (i+1+j) hp hk;clear zj;have zu:(L.map (rfE a)).length=L.length:=by simp
    repeat first|(refine r_ ?_;simp[h0])|refine q_ ?_
    refine Qe rfl rfl (by simp) (cP) rfl ?_;rintro _ rfl;simp;simp only[w2n];repeat first|(refine r_ ?_;simp)|refine q_ ?_
    cases hlk:lkN (Es a) ((i:Int),(i:Int)+1+j)with
    |none=>
     rw[hlk,Option.map_none]at zb;rw[zb];rw[if_neg (fun k=>by have:=zX.1 k _ zm;rw[hlk]at this;cases this)]at hR;rw[←hR];simp;repeat first|(refine r_ ?_;simp)|refine q_ ?_
     refine Qa rfl (fun _=> ?_) (fun h=>by simp at h);repeat (first|(refine r_ ?_;simp)|refine q_ ?_)
    |some d=>
     have y2:wdR a ((i:Int),(i:Int)+1+j)=Yo a (Es a) d ((i:Int),(i:Int)+1+j):=by unfold wdR;rw[hlk];rfl
     rw[hlk,Option.map_some,←y2]at zb;rw[zb];simp;repeat first|(refine r_ ?_;simp)|refine q_ ?_
     refine Qa rfl (fun h=>by simp at h) (fun _=> ?_);repeat first|(refine r_ ?_;simp)|refine q_ ?_
     have y3:rfE a ((i:Int),(i:Int)+1+j)= .agg [.i i,.i ((i:Int)+1+j),.list ((wdR a ((i:Int),(i:Int)+1+j)).map encSy)]:=rfl;have zv:((L++[((i:Int),(i:Int)+1+(j:Int))]).map (rfE a))=L.map (rfE a)++[rfE a ((i:Int),(i:Int)+1+j)]:=by simp
     rw[y3]at zv;generalize wdR a ((i:Int),(i:Int)+1+j)=w at *;generalize L.map (rfE a)=xs at *;refine Qf tOk rfl rfl T60 rfl c0j rfl (by decide) (by decide) rfl rfl rfl ?_
     simp[Qb hq,Qj hq,hq,zu];refine⟨by simp[Wi,Qb hq,Qj hq,hq,zu]<;>omega,?_⟩;repeat first|(refine r_ ?_;simp[za])|refine q_ ?_
     refine Qc (sl':=[(1,.vptr 0 0),(2,.nils),(3,.i 0),(5,.i n),(6,.sl (H.length+1) 3 0 (L++[((i:Int),(i:Int)+1+(j:Int))]).length),(7,.i i),(8,.i (i+1+(j+1):Nat))]) ?_ (by simp;omega);refine z7 (H.length+1) _ ⟨by omega,?_,Qb (Qd (by omega) h0 _) _,?_,by omega⟩ (by omega)
     ·unfold j12 at z1 ⊢;intro e he;rcases zW.1 he with he|he
      ·exact z1 e he
      ·rw[zQ.1 he,hlk];rfl
     ·rw[zv,zH (by simp)];simp
   ·have y4:j=n - 1 - i:=by simp at zl;omega
    subst y4;rw[zj]at zh;repeat first|(refine r_ ?_;simp[hw])|refine q_ ?_
    refine Qc (sl':=[(1,.vptr 0 0),(2,.nils),(3,.i 0),(5,.i n),(6,.sl q 3 0 L.length),(7,.i (i+1:Nat))]) ?_ (by simp);exact zh q H ⟨by omega,z1,h0,hq,z8⟩ (by omega)
  ·have zn:i=n:=by simp at zz;omega
   subst zn;have y5:Ym i i=prs i:=by unfold prs;rfl
   rw[y5]at z1 hq ⊢;unfold j12 at z1;rw[if_pos (zX.2 z1)]at hR;rw[←hR];have y6:(((prs i).map fun e=>(e,wdR a e)).map Wj)=(prs i).map (rfE a):=by rw[vF];rfl
   have hl:((prs i).map (rfE a)).length=(prs i).length:=by simp
   simp only[y6];generalize (prs i).map (rfE a)=xs at *
   repeat first|(refine r_ ?_;simp[hq,hl])|refine q_ ?_
   first|done|(rw[zR (by omega)])
end Go.Abs
namespace Go.Abs
open Go Go.Proofs Go.Maps Go.RowKit
theorem q1c(w:List Sy):PC Tryz.prog 97 [LSy w,LSy w] (fun r=>r= .bool true):=by
 refine Qk tOk Tryz.func97 rfl Tryz.results97 rfl (by simp[Tryz.ntmps97]) ?_;rw[Tryz.ntmps97];simp only[Qg];refine Ys 0 rfl (fun hlen=> ?_);rw[yB]at hlen;repeat first|(refine r_ ?_;simp)|refine q_ ?_
 refine Qa rfl (fun h=>by simp at h) (fun _=> ?_);repeat first|(refine r_ ?_;simp)|refine q_ ?_
 refine Qt w.length (fun _=>True) (fun j=>[(0,LSy w),(1,LSy w),(4,.bool false),(5,.i j)]) (fun _=>[]) rfl (by simp) (by simp) (by simp) (by simp) trivial ?_;intro j hj _ ih;repeat first|(refine r_ ?_;simp)|refine q_ ?_
 refine Qa rfl (fun za=> ?_) (fun zb=> ?_)
 ·have z1:j<w.length:=by simpa using za
  have hw:IntKind.i64.wrap ((j:Int)+1)=j+1:=wrap_i64 _ (by omega) (by omega);have z7:(w.map encSy)[j]? =some (encSy w[j]):=by simp[z1]
  have z8:∀hh,(w.map encSy)[j]'hh=encSy w[j]:=fun hh=>by simp
  generalize w[j]=x at *;simp only[encSy]at z7 z8
  repeat first|(refine r_ ?_;simp)|refine q_ ?_
  refine Qm tOk mixed [] (.val 0 (.val 1 (.val 2 (.val 3 (.val 4 (.val 5 (.val 6 (.val 7 (.val 8 (.done)))))))))) rfl (by kernel_rfl) ?_;simp[z7,z8,z1];refine Qa rfl (fun h=>by simp at h) (fun _=> ?_);repeat first|(refine r_ ?_;simp[hw])|refine q_ ?_
  refine Qr _ (ih z1 trivial) rfl (by simp) ?_ (by simp) (by simp);simp
 ·have z6:j=w.length:=by simp at zb;omega
  subst z6;repeat first|(refine r_ ?_;simp)|refine q_ ?_
attribute [local simp] T60 c0j
theorem c0a(P:List Rfm):PC Tryz.prog 38 [.list (P.map Wj),.list (P.map Wj)] (fun r=>r= .bool true):=by
 refine Qk tOk Tryz.func38 rfl Tryz.results38 rfl (by simp[Tryz.ntmps38]) ?_;rw[Tryz.ntmps38];simp only[Qg];refine Ys 0 rfl (fun hlen=> ?_);rw[yB]at hlen;repeat first|(refine r_ ?_;simp)|refine q_ ?_
 refine Qa rfl (fun h=>by simp at h) (fun _=> ?_);repeat first|(refine r_ ?_;simp)|refine q_ ?_
 refine Qt P.length (fun _=>True) (fun j=>[(0,.list (P.map Wj)),(1,.list (P.map Wj)),(4,.bool false),(5,.i j)]) (fun _=>[]) rfl (by simp) (by simp) (by simp) (by simp) trivial ?_;intro j hj _ ih;repeat first|(refine r_ ?_;simp)|refine q_ ?_
 refine Qa rfl (fun za=> ?_) (fun zb=> ?_)
 ·have z1:j<P.length:=by simpa using za
  have hw:IntKind.i64.wrap ((j:Int)+1)=j+1:=wrap_i64 _ (by omega) (by omega);have z6:(P.map Wj)[j]? =some (Wj P[j]):=by simp[z1]
  have z7:∀hh,(P.map Wj)[j]'hh=Wj P[j]:=fun hh=>by simp
  generalize P[j]=x at *
  obtain⟨⟨p,q⟩,w⟩:=x;have cw:=q1c w;simp only[Wj]at z6 z7;simp only[LSy]at z6 z7 cw;repeat first|(refine r_ ?_;simp)|refine q_ ?_
  refine Qm tOk mixed [] (.val 0 (.val 1 (.val 2 (.val 3 (.val 4 (.val 5 (.val 6 (.val 7 (.val 8 (.val 9 (.val 10 (.val 11 (.val 12 (.val 13 (.val 14 (.val 15 (.val 16 (.val 17 (.val 18 (.val 19 (.val 20 (.val 21 (.val 22 (.val 23 (.val 24 (.val 25 (.val 26 (.val 27 (.val 28 (.val 29 (.val 30 (.val 31 (.val 32 (.val 33 (.val 34 (.one 35 (.val 36 (.val 37 (.done))))))))))))))))))))))))))))))))))))))) rfl (by kernel_rfl) ?_;simp[z6,z7,z1];refine Qe rfl rfl (by simp) (cw) rfl ?_;rintro _ rfl;simp;refine Qa rfl (fun h=>by simp at h) (fun _=> ?_);repeat first|(refine r_ ?_;simp[hw])|refine q_ ?_
  refine Qr _ (ih z1 trivial) rfl (by simp) ?_ (by simp) (by simp);simp
 ·have z8:j=P.length:=by simp at zb;omega
  subst z8;repeat first|(refine r_ ?_;simp)|refine q_ ?_
end Go.Abs
namespace Go.Abs
open Go Go.Proofs Go.Maps Go.RowKit
attribute [local simp] T60 c0j
attribute [local irreducible] u1v q1u f1r
theorem Bi(a:Aut)(P:List Rfm):PC Tryz.prog 9 [encA a,.list (P.map Wj)] (fun r=>r= .bool true):=by
 refine Qk tOk Tryz.func9 rfl Tryz.results9 rfl (by simp[Tryz.ntmps9]) ?_;rw[Tryz.ntmps9];simp only[Qg];simp only[encA];repeat first|(refine r_ ?_;simp)|refine q_ ?_
 refine Qe rfl rfl (by simp) (g1v a) rfl ?_;rintro _ rfl;simp;repeat first|(refine r_ ?_;simp)|refine q_ ?_
 refine Qa rfl (fun _=> ?_) (fun h=> ?_)
 ·repeat first|(refine r_ ?_;simp)|refine q_ ?_
  refine Qe rfl rfl (by simp) (Vl) rfl ?_;rintro _ rfl;simp;repeat first|(refine r_ ?_;simp)|refine q_ ?_
 have hP:P.length≤1000000:=by simp at h;omega
 repeat first|(refine r_ ?_;simp)|refine q_ ?_
 refine Qe rfl rfl (by simp) (y00 a) rfl ?_;rintro _ rfl;simp;repeat first|(refine r_ ?_;simp)|refine q_ ?_
 refine Qe rfl rfl (by simp) (z0z a) rfl ?_;rintro _ rfl;simp;repeat first|(refine r_ ?_;simp)|refine q_ ?_
 refine Qm tOk mixed [] (.one 0 (.val 1 (.val 2 (.val 3 (.one 4 (.val 5 (.val 6 (.val 7 (.val 8 (.val 9 (.val 10 (.val 11 (.val 12 (.val 13 (.val 15 (.val 16 (.one 14 (.one 17 (.val 18 (.val 19 (.val 20 (.done)))))))))))))))))))))) rfl (by kernel_rfl) ?_;simp;refine Qe rfl rfl (by simp) (Vl) rfl ?_;rintro _ rfl;simp;refine Qe rfl rfl (by simp) (c0a (q1u a).1) rfl ?_;rintro _ rfl;simp;refine Qe rfl rfl (by simp) (v0v a P hP) rfl ?_;rintro _ rfl;simp;refine Qe rfl rfl (by simp) (y0j a P hP) rfl ?_;rintro _ rfl;simp;repeat first|(refine r_ ?_;simp)|refine q_ ?_
end Go.Abs
namespace Go.Abs
open Go Go.Proofs Go.RowKit Go.Proofs.YteghceocnldccaaGreatDoor
theorem laidOut:laidOutB Tryz.prog=true:=by kernel_rfl
theorem own:ownKnob Tryz.prog.godebug=none:=by kernel_rfl
theorem Pz{α:Type}{g:α→AV}{Q:α→Prop}:∀xs:List AV,(∀x∈xs,∃a,x=g a∧Q a)→∃l:List α,xs=l.map g∧∀a∈l,Q a
 |[],_=>⟨[],rfl,by simp⟩
 |x::xs,h=>by obtain⟨a,rfl,ha⟩:=h x (by simp);obtain⟨l,rfl,hl⟩:=Pz xs (fun y hy=>h y (by simp[hy]));exact⟨a::l,rfl,by simpa using⟨ha,hl⟩⟩
theorem Ba{d:Nat}{zs:List AV}(h:Shp T (d+1) 3 zs):∃n:Int,zs=[.i n]∧ -9223372036854775808≤n∧n≤9223372036854775807:=by simp only[Shp,T3,Ly]at h;obtain⟨n,rfl,h1,h2⟩:=h;exact⟨n,rfl,h1,h2⟩
theorem g1n{d:Nat}{zs:List AV}(h:Shp T (d+1) 4 zs):∃b:Bool,zs=[.bool b]:=by simp only[Shp,T4,Ly]at h;exact h
theorem g1p{d:Nat}{xs:List AV}(h:U6 T d [] xs):xs=[]:=h
theorem w2e {l:List (String×DataW Unit)} {w:World} {name:String} {k:IntKind} {zs:List Int} {g:Nat} {t e:TypeId} {n:Nat} (h:laidMetH Tryz.prog l w) (hl:l.filter (fun x=>x.1==name)=[(name,Lib.tabData k zs)])
  (hg:Tryz.prog.globalNamed name=some g) (z1:(Tryz.prog.globals[g]?).map (·.type)=some t) (ht:Tryz.prog.underlying t=some (.array n e)) (he:Tryz.prog.underlying e=some (.int k)) (z6:Tryz.prog.cellsOf e=1) (z7:Tryz.prog.cellsOf t=n):
  g<w.heap.size∧∃t fr,w.heap[g]? =some (.cells (zs.map fun z=>Value.int k z).toArray t fr):=by
 have h1:=h.filter (fun x=>x.1==name);rw[hl]at h1;have h2:Lib.TabIs Tryz.prog w name k zs:=Lib.tabIs_of_head hg z1 ht he z6 z7 h1;unfold Lib.TabIs World.var? at h2;rw[hg]at h2;simp only[Option.bind_some]at h2;cases ho:w.heap[g]? with
 |none=>rw[ho]at h2;simp at h2
 |some o=>rw[ho]at h2;refine⟨(Array.getElem?_eq_some_iff.1 ho).1,?_⟩;cases o<;>simp at h2;rename_i cs t fr;exact⟨t,fr,by rw[h2]⟩
end Go.Abs
namespace Go.Abs
open Go Go.Proofs Go.RowKit Go.Proofs.YteghceocnldccaaGreatDoor
theorem x2x{d:Nat}{zs:List AV}(h:Shp T (d+2) 187 zs):∃v:Iv,zs=(encIv v).cells:=by simp only[Shp,Sz,T3,Ly,w15,yZ,wG]at h;obtain⟨_,_,rfl,⟨a,rfl,ha⟩,_,_,rfl,⟨b,rfl,hb⟩,rfl⟩:=h;exact⟨⟨a,b⟩,rfl⟩
theorem y24{d:Nat}{zs:List AV}(h:Shp T (d+3) 171 zs):∃l:List Iv,zs=[encL l]:=by
 rw[Shp,Ig]at h;simp only[Ly]at h;obtain⟨ei,xs,he,rfl,hl,hx⟩:=h;rw[Sz]at he;cases he;obtain⟨l,rfl,hq⟩:=Pz (g:=encIv) (Q:=fun _=>True) xs (fun x z1=>by
  obtain⟨zs,rfl,hz⟩:=hx x z1;obtain⟨v,rfl⟩:=x2x (d:=d) hz;exact⟨v,rfl,trivial⟩)
 exact⟨l,rfl⟩
theorem c1n{d:Nat}{zs:List AV}(h:Shp T (d+4) 74 zs):∃p:Prd,zs=[.list (p.map encL)]:=by
 rw[Shp,T74]at h;simp only[Ly]at h;obtain⟨ei,xs,he,rfl,hl,hx⟩:=h;rw[Ig]at he;cases he;obtain⟨l,rfl,hq⟩:=Pz (g:=encL) (Q:=fun _=>True) xs (fun x z1=>by
  obtain⟨zs,rfl,hz⟩:=hx x z1;obtain⟨v,rfl⟩:=y24 (d:=d) hz;exact⟨v,rfl,trivial⟩)
 exact⟨l,rfl⟩
theorem d1t{d:Nat}{zs:List AV}(h:Shp T (d+5) 76 zs):∃p:Prd,zs=[.list (p.map encL)]:=by rw[Shp,T76]at h;simp only[Ly,w15,yZ,wG]at h;obtain⟨_,_,rfl,h1,rfl⟩:=h;obtain⟨p,rfl⟩:=c1n (d:=d) h1;exact⟨p,rfl⟩
theorem q2m{d:Nat}{zs:List AV}(h:Shp T (d+6) 78 zs):∃m:Mv,zs=(encMv m).cells:=by rw[Shp,T78]at h;simp only[Ly,w15,yZ,wG]at h;obtain⟨_,_,rfl,h1,_,_,rfl,h2,_,_,rfl,h3,rfl⟩:=h;obtain⟨a,rfl,_⟩:=Ba (d:=d+4) h1;obtain⟨b,rfl,_⟩:=Ba (d:=d+4) h2;obtain⟨p,rfl⟩:=d1t (d:=d) h3;exact⟨⟨a,b,p⟩,rfl⟩
theorem j1d{d:Nat}{zs:List AV}(h:Shp T (d+7) 23 zs):∃l:List Mv,zs=[.list (l.map encMv)]:=by
 rw[Shp,T23]at h;simp only[Ly]at h;obtain⟨ei,xs,he,rfl,hl,hx⟩:=h;rw[T78]at he;cases he;obtain⟨l,rfl,hq⟩:=Pz (g:=encMv) (Q:=fun _=>True) xs (fun x z1=>by
  obtain⟨zs,rfl,hz⟩:=hx x z1;obtain⟨v,rfl⟩:=q2m (d:=d) hz;exact⟨v,rfl,trivial⟩)
 exact⟨l,rfl⟩
theorem k14{d:Nat}{zs:List AV}(h:Shp T (d+2) 22 zs):∃l:List Bool,zs=[.list (l.map .bool)]:=by
 rw[Shp,T22]at h;simp only[Ly]at h;obtain⟨ei,xs,he,rfl,hl,hx⟩:=h;rw[T4]at he;cases he;obtain⟨l,rfl,hq⟩:=Pz (g:=AV.bool) (Q:=fun _=>True) xs (fun x z1=>by
  obtain⟨zs,rfl,hz⟩:=hx x z1;obtain⟨v,rfl⟩:=g1n (d:=d) hz;exact⟨v,rfl,trivial⟩)
 exact⟨l,rfl⟩
theorem z2u{d:Nat}{zs:List AV}(h:Shp T (d+8) 25 zs):∃a:Aut,zs=(encA a).cells:=by rw[Shp,T25]at h;simp only[Ly,w15,yZ,wG]at h;obtain⟨_,_,rfl,h1,_,_,rfl,h2,_,_,rfl,h3,rfl⟩:=h;obtain⟨t,rfl,_⟩:=Ba (d:=d+6) h1;obtain⟨f,rfl⟩:=k14 (d:=d+5) h2;obtain⟨m,rfl⟩:=j1d (d:=d) h3;exact⟨⟨t,f,m⟩,rfl⟩
theorem w2p{d:Nat}{ts:List Nat}{xs:List AV}(h:U6 T (d+8) (25::ts) xs):∃(a:Aut) (r:List AV),xs=encA a::r∧U6 T (d+8) ts r:=by obtain⟨i,zs,r,hi,rfl,h1,h⟩:=h;rw[T25]at hi;cases hi;obtain⟨a,rfl⟩:=z2u (d:=d) h1;exact⟨a,r,rfl,h⟩
theorem x2v{d:Nat}{zs:List AV}(h:Shp T (d+2) 53 zs):∃x:Sy,zs=(encSy x).cells:=by simp only[Shp,T53,T3,Ly,w15,yZ,wG]at h;obtain⟨_,_,rfl,⟨a,rfl,ha⟩,_,_,rfl,⟨b,rfl,hb⟩,rfl⟩:=h;exact⟨⟨a,b⟩,rfl⟩
theorem q2o {l:List (String×DataW Unit)} {w:World} (h:laidMetH Tryz.prog l w) (hl:l.filter (fun x=>x.1== "internal/strconv.uint64pow10")=[("internal/strconv.uint64pow10",Lib.tabData .u64 Lib.pow10Tab)]):EOK Tryz.prog w (·<w.heap.size):=fun g pr hm=>by
 have e:=zQ.1 hm
 cases e
 obtain⟨h1,t,fr,h2⟩:=w2e (t:=300) (e:=250) (n:=20) h hl (by kernel_rfl) (by kernel_rfl) (by kernel_rfl) (by kernel_rfl) (by kernel_rfl) (by kernel_rfl)
 exact⟨h1,_,t,fr,rfl,h2⟩
end Go.Abs
namespace Go.Abs
open Go Go.RowKit Go.Proofs.YteghceocnldccaaGreatDoor
theorem z2x{d:Nat}{zs:List AV}(h:Shp T (d+3) 45 zs):∃w:List Sy,zs=[.list (w.map encSy)]:=by
 rw[Shp,T45]at h;simp only[Ly]at h;obtain⟨ei,xs,he,rfl,hl,hx⟩:=h;rw[T53]at he;cases he;obtain⟨l,rfl,hq⟩:=Pz (g:=encSy) (Q:=fun _=>True) xs (fun x z1=>by
  obtain⟨zs,rfl,hz⟩:=hx x z1;obtain⟨v,rfl⟩:=x2v (d:=d) hz;exact⟨v,rfl,trivial⟩)
 exact⟨l,rfl⟩
theorem x20{d:Nat}{zs:List AV}(h:Shp T (d+4) 147 zs):∃x:Rfm,zs=(Wj x).cells:=by rw[Shp,c0j]at h;simp only[Ly,w15,yZ,wG]at h;obtain⟨_,_,rfl,h1,_,_,rfl,h2,_,_,rfl,h3,rfl⟩:=h;obtain⟨a,rfl,_⟩:=Ba (d:=d+2) h1;obtain⟨b,rfl,_⟩:=Ba (d:=d+2) h2;obtain⟨w,rfl⟩:=z2x (d:=d) h3;exact⟨((a,b),w),rfl⟩
theorem q2c{d:Nat}{ts:List Nat}{xs:List AV}(h:U6 T (d+5) (60::ts) xs):∃(P:List Rfm) (r:List AV),xs= .list (P.map Wj)::r∧U6 T (d+5) ts r:=by
 obtain⟨i,zs,r,hi,rfl,h1,h⟩:=h;rw[T60]at hi;cases hi;rw[Shp,T60]at h1;simp only[Ly]at h1;obtain⟨ei,xs,he,rfl,hl,hx⟩:=h1;rw[c0j]at he;cases he;obtain⟨l,rfl,hq⟩:=Pz (g:=Wj) (Q:=fun _=>True) xs (fun x z1=>by
  obtain⟨zs,rfl,hz⟩:=hx x z1;obtain⟨v,rfl⟩:=x20 (d:=d) hz;exact⟨v,rfl,trivial⟩)
 exact⟨l,r,rfl,h⟩
end Go.Abs
