/- Part Lj of the proof: an abstract machine over the model, and what the functions of the program hand back in its terms. No condition. -/
import Derived.Test.YteghceocnldccaaGreatDoorLi
import Derived.Test.YteghceocnldccaaGreatDoorLg
import Derived.Test.YteghceocnldccaaGreatDoorLf
import Derived.Test.YteghceocnldccaaGreatDoorLe
import Derived.Test.YteghceocnldccaaGreatDoorLc
import Derived.Test.YteghceocnldccaaGreatDoorLb
import Derived.Lay
import Derived.LaidSub
import Derived.Deep.DeepWitnessRowRef
import Derived.Test.YteghceocnldccaaGreatDoorCards
import Derived.Test.YteghceocnldccaaGreatDoorTie
import Derived.Lib.LaidTab
import Derived.Test.YteghceocnldccaaGreatDoorLd
import Derived.Shelf.Vars
set_option linter.all false
open Nat renaming le_trans→yO,zero_le→xY,le_refl→zR,lt_succ_self→tG,min_eq_left→tO,mul_le_mul→td
open List renaming getElem_mem→zL,take_succ_eq_append_getElem→zV,mem_append→zU,mem_singleton→zP,getElem_eq_iff→yP,getElem?_append_right→zK,any_eq_true→wS,range→yL,take_of_length_le→zY,length_append→z_,length→vS,drop_drop→uT,drop_append_of_le_length→vL,take→u7,getElem?_set_ne→zE,range_succ→wH,map_append→yZ,flatMap_append→wA,take_range→tH,take_append_drop→xW,mem_flatMap→wI,mem_map→zT,mem_range→yV,all_eq_true→zX,map_map→vB,find?_cons→uM,find?_eq_none→vW,drop_length→xS,getD→yS,mem_filterMap→vv,map_cons→xE,map_nil→wL
open Int renaming toNat_natCast→vA,natCast_mul→tP
open Bool renaming decide_eq_true→tg
set_option maxHeartbeats 8000000
set_option linter.unusedSimpArgs false
set_option maxRecDepth 100000
namespace Go.Abs
open Go Go.Proofs Go.Maps Go.RowKit
attribute [local irreducible] Ru Sm Q5 P0 Wk Ey Ra
theorem Iq(a:Aut):PC Tryz.prog 26 [encA a] (fun r=>r= .tup [encA (P0 a).2,.i (P0 a).1]):=by
 refine Qk tOk Tryz.func26 rfl Tryz.results26 rfl (by simp[Tryz.ntmps26]) ?_;rw[Tryz.ntmps26];simp only[Qg];simp only[encA];obtain⟨R,hR⟩:∃R,P0 a=R:=⟨_,rfl⟩
 rw[hR];repeat first|(refine r_ ?_;simp)|refine q_ ?_
 refine Qe rfl rfl (by simp) (Y4 a) rfl ?_;rintro _ rfl;simp;repeat first|(refine r_ ?_;simp)|refine q_ ?_
 refine Qb rfl (fun h=> ?_) (fun h=> ?_)
 ·have h':Wk a≠0:=by simpa using h
  rw[u1p h']at hR;rw[←hR];repeat first|(refine r_ ?_;simp)|refine q_ ?_
  exact⟨rfl,rfl,rfl⟩
 have z8:Wk a=0:=by simpa using h
 repeat first|(refine r_ ?_;simp)|refine q_ ?_
 refine Qe rfl rfl (by simp) (Je a) rfl ?_;rintro _ rfl;simp;repeat first|(refine r_ ?_;simp)|refine q_ ?_
 refine Qb rfl (fun h=> ?_) (fun h=> ?_)
 ·have h':(Ru a).1≠0:=by simpa using h
  rw[d0s h']at hR;rw[←hR];repeat first|(refine r_ ?_;simp)|refine q_ ?_
  exact⟨rfl,rfl,rfl⟩
 have hd:(Ru a).1=0:=by simpa using h
 have zc:=fun h=>k10 (a:=a) hd h;have zd:=fun h=>c1b (a:=a) hd h;have ze:=fun h=>w1l (a:=a) z8 hd h;generalize (Ru a).2=d at *
 repeat first|(refine r_ ?_;simp)|refine q_ ?_
 refine Qe rfl rfl (by simp) (Hr d) rfl ?_;rintro _ rfl;simp;repeat first|(refine r_ ?_;simp)|refine q_ ?_
 refine Qb rfl (fun h=> ?_) (fun h=> ?_)
 ·have h':(Sm d).1≠0:=by simpa using h
  rw[zc h']at hR;rw[←hR];repeat first|(refine r_ ?_;simp)|refine q_ ?_
  exact⟨rfl,rfl,rfl⟩
 have hc:(Sm d).1=0:=by simpa using h
 have z7:=zd hc;have ha:=ze hc;rw[hR]at z7;clear zd ze zc;generalize (Sm d).2=c at *
 repeat first|(refine r_ ?_;simp)|refine q_ ?_
 refine Qe rfl rfl (by simp) (R4 c ha.ok) rfl ?_;rintro _ rfl;simp;refine Qe rfl rfl (by simp) (Bm c ha) rfl ?_;rintro _ rfl;simp;repeat first|(refine r_ ?_;simp)|refine q_ ?_
 have zj:=fun(m:Mv) (hm:m∈(Q5 c).mv)=>c0r ha hm;have zp:(Q5 c).mv.length≤2048:=yO (Cp ha) ha.ok.mvs;have zf:Hn (Q5 c)=(Q5 c).mv.any fun k=>k.on.any fun s=>decide (256<s.length):=rfl;have zk:(Q5 c).types=c.types:=Bz c;generalize Q5 c=m at *;refine Wd fun Z hZ=> ?_
 have z1:Z[1]? =some (.vars [.i 0,.nils,.nils]):=by rw[hZ];rfl
 have z4:Z[4]? =some (.vars (Q7 m)):=by rw[hZ];rfl
 clear hZ;refine Qo (Qc (sl':=[(2,.vptr 1 0),(3,.i 0),(8,.vptr 4 0),(39,.list (m.mv.map encMv)),(40,.i m.mv.length),(41,.i (0:Nat))]) ?_ (by simp));refine Qn (P:=Tryz.prog) (F:=fun(u:Nat×List AObj)=>⟨[(2,.vptr 1 0),(3,.i 0),(8,.vptr 4 0),(39,.list (m.mv.map encMv)),(40,.i m.mv.length),(41,.i u.1)],u.2⟩)
  (fun u=>u.1≤m.mv.length∧u.2[1]? =some (.vars [.i 0,.nils,.nils])∧u.2[4]? =some (.vars (Q7 m))∧∀k∈m.mv.take u.1,(k.on.any fun s=>decide (256<s.length))=false) (fun u=>m.mv.length - u.1) ?_ (0,Z) ⟨xY _,z1,z4,by simp⟩
 clear z1 z4;clear Z;rintro⟨j,Z⟩ ⟨hj,z1,z4,za⟩ ih;simp only at hj z1 z4 za ih ⊢;repeat first|(refine r_ ?_;simp)|refine q_ ?_
 refine Qb rfl (fun zl=> ?_) (fun zm=> ?_)
 ·have z6:j<m.mv.length:=by simpa using zl
  have hw:IntKind.i64.wrap ((j:Int)+1)=j+1:=wrap_i64 _ (by omega) (by omega);have zg:=zL z6;have z8:=zj _ zg;have zn:∀k∈m.mv.take (j+1),k∈m.mv.take j∨k=m.mv[j]:=fun k hk=>by
   rw[zV z6]at hk;rcases zU.1 hk with h|h
   ·exact .inl h
   ·exact .inr (zP.1 h)
  have zh:(m.mv.map encMv)[j]? =some (encMv m.mv[j]):=by simp[z6]
  have zi:∀hh,(m.mv.map encMv)[j]'hh=encMv m.mv[j]:=fun hh=>by simp
  generalize zq:m.mv[j]=k at *;simp only[encMv]at zh zi
  have z4s:∀E,(Z++E)[4]? =some (.vars (Q7 m)):=fun E=>Qa z4 E;have z4h:∀E hh,(Z++E)[4]'hh= .vars (Q7 m):=fun E hh=>(yP hh).2 (z4s E);repeat first|(refine r_ ?_;simp[zh,zi,z6,z4s,z4h])|refine q_ ?_
  refine Qe rfl rfl (by simp) (A0 m.types k.on) rfl ?_;rintro _ rfl;simp;rw[zk];refine Wd fun Y hY=> ?_;have y1:Y[1]? =some (.vars [.i 0,.nils,.nils]):=by rw[hY];exact Qa z1 _
  have y4:Y[4]? =some (.vars (Q7 m)):=by rw[hY];exact Qa z4 _
  have yx:Y[Z.length]? =some (.vars [.i k.src,.i k.dst,.list (k.on.map encL)]):=by rw[hY,zK (by simp)];simp
  clear hY;have y1s:∀X,(Y.set 1 X)[1]? =some X:=fun X=>Qh y1 X;refine Qb rfl (fun h=> ?_) (fun h=> ?_)
  ·have h':Hn m=true:=by
    rw[zf,wS];refine⟨k,zg,?_⟩;have h2:Ey c.types k.on≠0:=by simpa using h
    cases hb:k.on.any fun s=>decide (256<s.length)with
    |true=>rfl
    |false=>exact absurd (z8.2 hb) h2
   rw[if_pos h']at z7;rw[z7];repeat first|(refine r_ ?_;simp[y1,y1s])|refine q_ ?_
   exact⟨rfl,rfl,rfl⟩
  ·have h2:Ey c.types k.on=0:=by simpa using h
   repeat first|(refine r_ ?_;simp[hw])|refine q_ ?_
   refine Qc (sl':=[(2,.vptr 1 0),(3,.i 0),(8,.vptr 4 0),(39,.list (m.mv.map encMv)),(40,.i m.mv.length),(41,.i (j+1:Nat))]) ?_ (by simp);refine ih (j+1,Y) ⟨by omega,y1,y4,fun k' zo=> ?_⟩ (by simp only;omega);rcases zn k' zo with e|rfl
   ·exact za k' e
   ·exact z8.1 h2
 ·have zb:j=m.mv.length:=by simp at zm;omega
  subst zb;rw[List.take_length]at za;have h':Hn m=false:=by rw[zf,List.any_eq_false];exact fun k hk=>by rw[za k hk];simp
  rw[h',if_neg (by simp)]at z7;rw[z7];have y1s:∀X,(Z.set 1 X)[1]? =some X:=fun X=>Qh z1 X;repeat first|(refine r_ ?_;simp[z4,z1,y1s])|refine q_ ?_
end Go.Abs
namespace Go.Abs
open Go Go.Proofs Go.Maps Go.RowKit
attribute [local irreducible] exM P0 k1j x14
theorem Y5:PC Tryz.prog 25 [] (fun r=>r= .bool true):=by
 refine Qk tOk Tryz.func25 rfl Tryz.results25 rfl (by simp[Tryz.ntmps25]) ?_;rw[Tryz.ntmps25];simp only[Qg];have z6:yL 2=[0,1]:=rfl;have z7:yL 3=[0,1,2]:=rfl;repeat first|(refine r_ ?_;simp)|refine q_ ?_
 refine Qe rfl rfl (by simp) (Up true) rfl ?_;rintro _ rfl;simp;refine Qe rfl rfl (by simp) (Vl (exM true)) rfl ?_;rintro _ rfl;simp[f1s];repeat first|(refine r_ ?_;simp)|refine q_ ?_
 refine Qe rfl rfl (by simp) (Up true) rfl ?_;rintro _ rfl;simp;refine Qe rfl rfl (by simp) (Iq (exM true)) rfl ?_;rintro _ rfl;simp[c1h];repeat first|(refine r_ ?_;simp)|refine q_ ?_
 refine Qe rfl rfl (by simp) (Up true) rfl ?_;rintro _ rfl;simp;refine Qe rfl rfl (by simp) (Iz (exM true) 0 1) rfl ?_;rintro _ rfl;simp[w27];simp[v14];repeat first|(refine r_ ?_;simp)|refine q_ ?_
 refine Qe rfl rfl (by simp) (Up false) rfl ?_;rintro _ rfl;simp;refine Qe rfl rfl (by simp) (Iz (exM false) 0 2) rfl ?_;rintro _ rfl;simp[z2a];simp[v14];repeat first|(refine r_ ?_;simp)|refine q_ ?_
 refine Qe rfl rfl (by simp) (Ap (-1099511627776) 1099511627776) rfl ?_;rintro _ rfl;simp;have z8:IntKind.i64.wrap 0=0:=by decide
 refine Pr (Ou tOk rfl ?_);simp[z6];refine Q6 (sl':=[(0,.bool false),(1,LI [0,1,1]),(2,.i 0),(3,.vptr 0 0),(4,.i 0),(5,.list []),(6,.bool true),(7,.i 0),(8,LSy [⟨0,5⟩]),(9,.bool true),(10,.i 0),(12,.vptr 4 0)]) ?_ (by simp);refine Wj 2 (e:=4) (c:=1) (xs:=[.bool false,.bool true]) rfl 4 rfl ?_;simp;refine Wj 3 (e:=78) (c:=3) (xs:=z0i.mv.map encMv) rfl 4 rfl ?_;have z1:z0i.mv.length=2:=rfl;simp[z1];rw[zY (by simp[z1])];repeat first|(refine r_ ?_;simp[z8,z7])|refine q_ ?_
 refine Rz 5 rfl ?_;simp;refine Qe rfl rfl (by simp) (j02 [0,1,1] [0,1,1]) rfl ?_;rintro _ rfl;simp;repeat first|(refine r_ ?_;simp)|refine q_ ?_
 refine Qe rfl rfl (by simp) (w0e z0i) rfl ?_;rintro _ rfl;simp;repeat first|(refine r_ ?_;simp)|refine q_ ?_
 refine Rz 6 rfl ?_;simp;refine Qe rfl rfl (by simp) (x0u [⟨0,5⟩] [⟨0,5⟩]) rfl ?_;rintro _ rfl;simp;repeat first|(refine r_ ?_;simp)|refine q_ ?_
end Go.Abs
namespace Go.Abs
open Go Go.Proofs Go.Maps Go.RowKit
attribute [local irreducible] stF toL g1z
attribute [local irreducible] w1w Ke
theorem g0t(a:Aut)(w:List Sy):PC Tryz.prog 34 [encA a,LSy w] (fun r=>r= .bool (C5 a w)):=by
 refine Qk tOk Tryz.func34 rfl Tryz.results34 rfl (by simp[Tryz.ntmps34]) ?_;rw[Tryz.ntmps34];simp only[Qg];simp only[encA];repeat first|(refine r_ ?_;simp)|refine q_ ?_
 refine Qe rfl rfl (by simp) (B2 a w) rfl ?_;rintro _ rfl;simp;repeat first|(refine r_ ?_;simp)|refine q_ ?_
 refine Qe rfl rfl (by simp) (u1o a) rfl ?_;rintro _ rfl;simp;repeat first|(refine r_ ?_;simp)|refine q_ ?_
 have:decide ((w.length:Int)≤12)=decide (w.length≤12):=by rw[decide_eq_decide];omega
 rw[this];rfl
end Go.Abs
namespace Go.Abs
theorem k16{a:Aut}{w:List Sy}(h:C5 a w=true):w1w a=true∧w.length≤12∧OkA a∧∀x∈w,Wv a x:=by
 simp only[C5,Bool.and_eq_true,decide_eq_true_eq,beq_iff_eq]at h;obtain⟨⟨h1,h2⟩,h3⟩:=h;have h4:Xp a w=0:=by
  by_cases he:Xp a w=0
  ·exact he
  ·rw[Ke,if_pos he]at h3;exact absurd h3 he
 obtain⟨h5,_,h7⟩:=q0v.1 h4;exact⟨h1,h2,h5,h7⟩
theorem x1f{a:Aut}(h:OkA a){w:List Sy}(hl:w.length≤4096)(hx:∀x∈w,Wv a x):Ke a w=(Uk a w,0):=by have:=q0v.2 ⟨h,hl,hx⟩;unfold Ke;rw[if_neg (fun k=>k this)]
end Go.Abs
namespace Go.Abs
open Go Go.Proofs Go.Maps Go.RowKit
theorem u0w{sc:Int→List Int}{n:Nat}{o:List Int}(h:o.length≤n):∀f,Yz sc f n o=o
 |0=>rfl
 |f+1=>by unfold Yz;rw[List.getElem?_eq_none h]
theorem d04{sc:Int→List Int}{n:Nat}{o:List Int}(h:n<o.length)(f:Nat):Yz sc (f+1) n o=Yz sc f (n+1) (El o (sc o[n])):=by
 conv=>lhs;unfold Yz
 rw[List.getElem?_eq_getElem h]
theorem Mc(o:List Int)(l:List Int){j:Nat}(h:j<l.length):El o (l.take (j+1))=addI (El o (l.take j)) l[j]:=by unfold El;rw[zV h,List.foldl_append];rfl
structure CS (a:Aut) (n:Nat) (O:List Int) (f:Nat):Prop where
 fuel:a.fin.length+1≤n+f
 le:n≤O.length
 nd:O.Nodup
 rg:∀c∈O,0≤c∧c<(a.fin.length:Int)
 eq:S5 a=((Yz (P1 a) f n O).length==a.fin.length)
theorem CS.len{a:Aut}{n:Nat}{O:List Int}{f:Nat}(h:CS a n O f):O.length≤a.fin.length:=by have:=h.nd.length_le_of_subset (l₂:=W6 a.fin.length) fun c hx=>W1.2 (h.rg c hx);simpa[W6]using this
theorem CS.start{a:Aut}(ha:Dfa a):CS a 0 [0] (a.fin.length+1):=by have:=ha.ok.fin;exact⟨by omega,by simp,by simp,fun c hc=>by rw[zP.1 hc];omega,rfl⟩
theorem CS.stop{a:Aut}{n:Nat}{O:List Int}{f:Nat}(h:CS a n O f)(hn:O.length≤n):S5 a=(O.length==a.fin.length):=by rw[h.eq,u0w hn]
theorem CS.step{a:Aut}(ha:Dfa a){n:Nat}{O:List Int}{f:Nat}(h:CS a n O f)(hn:n<O.length):∃f',f=f'+1∧CS a (n+1) (El O (P1 a O[n])) f':=by
 have hl:=h.len;have hf:=h.fuel;obtain⟨f',rfl⟩:∃f',f=f'+1:=⟨f - 1,by omega⟩
 obtain⟨⟨r,h1,h2⟩,h3,_⟩:=Uw (P1 a O[n]) O h.nd;refine⟨f',rfl,by omega,by rw[h1,z_];omega,h3,fun c hc=> ?_,by rw[h.eq,d04 hn]⟩;rw[h1]at hc;rcases zU.1 hc with hc|hc
 ·exact h.rg c hc
 ·exact G6 ha _ (h.rg _ (zL hn)) c (h2 c hc)
structure IS (a:Aut) (O:List Int) (P:List Int):Prop where
 nd:P.Nodup
 le:O.length≤P.length
 rg:∀c∈P,0≤c∧c<(a.fin.length:Int)
theorem CS.inner{a:Aut}(ha:Dfa a){n:Nat}{O:List Int}{f:Nat}(h:CS a n O f)(hn:n<O.length)(j:Nat):IS a O (El O ((P1 a O[n]).take j)):=by
 obtain⟨⟨r,h1,h2⟩,h3,_⟩:=Uw ((P1 a O[n]).take j) O h.nd;refine⟨h3,by rw[h1,z_];omega,fun c hc=> ?_⟩;rw[h1]at hc;rcases zU.1 hc with hc|hc
 ·exact h.rg c hc
 ·exact G6 ha _ (h.rg _ (zL hn)) c (List.mem_of_mem_take (h2 c hc))
structure QS (xs:List Int) (off L:Nat) (O:List Int) (n:Nat):Prop where
 len:off+L=xs.length
 eq:xs.drop off=O.drop n
 le:off≤n
theorem QS.pos{xs:List Int}{off L:Nat}{O:List Int}{n:Nat}(h:QS xs off L O n)(hn:n≤O.length):L=O.length - n:=by have:=congrArg vS h.eq;have:=h.len;simp at *;omega
theorem QS.head{xs:List Int}{off L:Nat}{O:List Int}{n:Nat}(h:QS xs off L O n)(hn:n<O.length):xs[off]? =some O[n]:=by have:=congrArg (fun l=>l[0]?) h.eq;simpa[List.getElem?_drop,hn]using this
theorem QS.tail{xs:List Int}{off L:Nat}{O:List Int}{n:Nat}(h:QS xs off L O n)(hn:n<O.length):QS xs (off+1) (L - 1) O (n+1):=by have h1:=h.pos (by omega);have h2:=h.len;refine⟨by omega,?_,by have:=h.le;omega⟩;have:=congrArg (List.drop 1) h.eq;simpa[uT,Nat.add_comm]using this
theorem QS.add{xs:List Int}{off L:Nat}{O:List Int}{n:Nat}(h:QS xs off L O n)(hn:n≤O.length)(t:Int):QS (xs++[t]) off (L+1) (O++[t]) n:=by have h2:=h.len;refine⟨by simp;omega,?_,h.le⟩;rw[vL (by omega),vL hn,h.eq]
theorem QS.cut{xs:List Int}{off L:Nat}{O:List Int}{n:Nat}(h:QS xs off L O n)(hn:n≤O.length)(t:Int):QS (xs.drop off++[t]) 0 (L+1) (O++[t]) n:=by have h2:=h.len;refine⟨by simp;omega,?_,xY _⟩;rw[vL hn,h.eq];rfl
theorem IS.len{a:Aut}{O P:List Int}(h:IS a O P):P.length≤a.fin.length:=by have:=h.nd.length_le_of_subset (l₂:=W6 a.fin.length) fun c hx=>W1.2 (h.rg c hx);simpa[W6]using this
end Go.Abs
namespace Go.Abs
open Go Go.Proofs Go.Maps Go.RowKit
attribute [local irreducible] S5 Yz El Qw Ra
theorem q0i(a:Aut)(ha:Dfa a):PC Tryz.prog 94 [Ei a] (fun r=>r= .bool (S5 a)):=by
 have y1:=ha.ok.fin;refine Qk tOk Tryz.func94 rfl Tryz.results94 rfl (by simp[Tryz.ntmps94]) ?_;rw[Tryz.ntmps94];simp only[Qg];simp only[Ei,Q3];repeat first|(refine r_ ?_;simp)|refine q_ ?_
 refine Ec rfl rfl rfl ?_;simp;refine Ku rfl rfl rfl rfl rfl rfl rfl (by decide) ?_;simp;repeat first|(refine r_ ?_;simp)|refine q_ ?_
 refine Qo (Qc (sl':=[(1,.vptr 0 0),(2,.bool false),(3,.mref 1),(4,.sl 2 1 0 1)]) ?_ (by simp));refine Qn (P:=Tryz.prog) (F:=fun(u:Nat×Nat×List Int×Nat×Nat×Nat×List Int×List AObj)=>⟨[(1,.vptr 0 0),(2,.bool false),(3,.mref 1),(4,.sl u.2.2.2.1 1 u.2.2.2.2.1 u.2.2.2.2.2.1)],u.2.2.2.2.2.2.2⟩)
  (fun u=>CS a u.2.1 u.2.2.1 u.1∧QS u.2.2.2.2.2.2.1 u.2.2.2.2.1 u.2.2.2.2.2.1 u.2.2.1 u.2.1∧u.2.2.2.2.2.2.2[0]? =some (.vars [.i a.types,.list (a.fin.map .bool),.list (a.mv.map encMv),.list (Ra a)])∧u.2.2.2.2.2.2.2[1]? =some (stM u.2.2.1)∧u.2.2.2.2.2.2.2[u.2.2.2.1]? =some (.arr 3 1 (u.2.2.2.2.2.2.1.map AV.i))∧1<u.2.2.2.1) (fun u=>u.1) ?_ (a.fin.length+1,0,[0],2,0,1,[0],_) ⟨CS.start ha,⟨rfl,rfl,zR _⟩,rfl,rfl,rfl,tG 1⟩
 rintro⟨f,n,O,q,off,L,xs,G⟩ ⟨z8,z1,g0,g1,gq,hq⟩ ih;simp only at z8 z1 g0 g1 gq hq ih ⊢;have zl:=z1.pos z8.le;repeat first|(refine r_ ?_;simp)|refine q_ ?_
 refine Qb rfl (fun zd=> ?_) (fun ze=> ?_)
 ·have hL:0<L:=by simpa using zd
  have hn:n<O.length:=by omega
  obtain⟨f',rfl,zf⟩:=z8.step ha hn;have zr:=z8.inner ha hn;have hc:=z8.rg _ (zL hn);have hx:=z1.head hn;have zt:=fun n' O' q' z6 L' zg G' h=>ih (f',n',O',q',z6,L',zg,G') h (tG _);clear ih;have hO:=fun j=>Mc (j:=j) O (P1 a O[n]);generalize O[n]=c at *
  have hm:=A6 hc;have zu:(Ra a).length=a.fin.length:=by unfold Ra;simp
  obtain⟨k,rfl⟩:∃k:Nat,c=k:=⟨c.toNat,by have:=hc.1;omega⟩
  have hk:k<a.fin.length:=by have:=hc.2;omega
  simp only[vA,Tm]at hm;have zv:∀hh,(Ra a)[k]'hh= .list ((Qw a k).map encMv):=fun hh=>(yP hh).2 hm;have zm:(xs.map AV.i)[off]? =some (.i k):=by simp[hx]
  repeat first|(refine r_ ?_;simp[g0,hx,hm])|refine q_ ?_
  refine Qs tOk mixed [] (.val 0 (.val 1 (.val 2 (.val 3 (.val 4 (.val 5 (.val 6 (.val 7 (.val 8 (.done)))))))))) rfl (by kernel_rfl) ?_;simp[g0,gq,hx,hm,hL,zm,zu,hk,zv];repeat first|(refine r_ ?_;simp)|refine q_ ?_
  have y2:(P1 a k).length=(Qw a k).length:=by unfold P1;simp
  have zh:El O (u7 0 (P1 a k))=O:=by unfold El;rfl
  have y3:(Qw a k).length≤2048:=yO (Oh a k) ha.ok.mvs;refine Qo (Qc (sl':=[(1,.vptr 0 0),(2,.bool false),(3,.mref 1),(4,.sl q 1 off L),(21,.list ((Qw a k).map encMv)),(22,.i (Qw a k).length),(23,.i (0:Nat))]) ?_ (by simp));refine Qn (P:=Tryz.prog) (F:=fun(u:Nat×Nat×Nat×Nat×List Int×List AObj)=>⟨[(1,.vptr 0 0),(2,.bool false),(3,.mref 1),(4,.sl u.2.1 1 u.2.2.1 u.2.2.2.1),(21,.list ((Qw a k).map encMv)),(22,.i (Qw a k).length),(23,.i u.1)],u.2.2.2.2.2⟩)
   (fun u=>u.1≤(Qw a k).length∧QS u.2.2.2.2.1 u.2.2.1 u.2.2.2.1 (El O (u7 u.1 (P1 a k))) n∧u.2.2.2.2.2[0]? =some (.vars [.i a.types,.list (a.fin.map .bool),.list (a.mv.map encMv),.list (Ra a)])∧u.2.2.2.2.2[1]? =some (stM (El O (u7 u.1 (P1 a k))))∧u.2.2.2.2.2[u.2.1]? =some (.arr 3 1 (u.2.2.2.2.1.map AV.i))∧1<u.2.1) (fun u=>(Qw a k).length - u.1) ?_ (0,q,off,L,xs,G) ⟨xY _,by rw[zh];exact z1,g0,by rw[zh];exact g1,gq,hq⟩
  clear z1 g0 g1 gq hq hx zm zl hL zd zh;clear xs G q off L;rintro⟨j,q,off,L,xs,G⟩ ⟨hj,z1,g0,g1,gq,hq⟩ ih;simp only at hj z1 g0 g1 gq hq ih ⊢;have hi:=zr j;have za:n≤(El O (u7 j (P1 a k))).length:=yO (Nat.le_of_lt hn) hi.le;repeat first|(refine r_ ?_;simp)|refine q_ ?_
  refine Qb rfl (fun zd=> ?_) (fun ze=> ?_)
  ·have zb:j<(Qw a k).length:=by simpa using zd
   have hw:IntKind.i64.wrap ((j:Int)+1)=j+1:=wrap_i64 _ (by omega) (by omega);have zi:=hO j (by omega);have zj:(P1 a k)[j]'(by omega)=((Qw a k)[j]).dst:=by unfold P1;simp
   rw[zj]at zi;have z7:=fun q' z6 L' zg G'=>ih (j+1,q',z6,L',zg,G');simp only[zi]at z7;have y4:0≤((Qw a k)[j]).dst∧((Qw a k)[j]).dst<(a.fin.length:Int):=G6 ha _ hc _ (by rw[←zj];exact zL _);clear zi zj;have zn:((Qw a k).map encMv)[j]? =some (encMv (Qw a k)[j]):=by simp[zb]
   have zo:∀hh,((Qw a k).map encMv)[j]'hh=encMv (Qw a k)[j]:=fun hh=>by simp
   generalize (Qw a k)[j]=m at *;generalize El O (u7 j (P1 a k))=P at *;simp only[encMv]at zn zo
   repeat first|(refine r_ ?_;simp[zn,zo,zb])|refine q_ ?_
   have zp:∀z∈P,0≤z∧z≤1000000:=fun z hz=>by have:=hi.rg z hz;omega
   refine Hk rfl rfl rfl rfl rfl (Qa g1 _) zp (by omega) ?_;simp;repeat first|(refine r_ ?_;simp)|refine q_ ?_
   by_cases hmem:m.dst∈P
   ·refine Qb rfl (fun h=>by simp[hmem]at h) (fun _=> ?_);have hA:addI P m.dst=P:=by unfold addI;rw[if_pos hmem]
    rw[hA]at z7;repeat first|(refine r_ ?_;simp[hw])|refine q_ ?_
    refine Qc (sl':=[(1,.vptr 0 0),(2,.bool false),(3,.mref 1),(4,.sl q 1 off L),(21,.list ((Qw a k).map encMv)),(22,.i (Qw a k).length),(23,.i (j+1:Nat))]) ?_ (by simp);exact z7 q off L xs _ ⟨by omega,z1,Qa g0 _,Qa g1 _,Qa gq _,hq⟩ (by omega)
   ·refine Qb rfl (fun _=> ?_) (fun h=>by simp[hmem]at h);have hA:addI P m.dst=P++[m.dst]:=by unfold addI;rw[if_neg hmem]
    rw[hA]at z7;repeat first|(refine r_ ?_;simp)|refine q_ ?_
    refine J2 rfl rfl rfl rfl rfl rfl (Qa g1 _) zp (by omega) hmem ?_;simp;refine Wd fun H hH=> ?_;have zq:H[G.length]? =some (.vars [.i m.src,.i m.dst,.list (m.on.map encL)]):=by rw[hH,zE (by have:=Qf g1;omega)];simp
    have h0:H[0]? =some (.vars [.i a.types,.list (a.fin.map .bool),.list (a.mv.map encMv),.list (Ra a)]):=by rw[hH,zE (by decide)];exact Qa g0 _
    have h1:H[1]? =some (stM (P++[m.dst])):=by rw[hH];exact Qh (Qa g1 _) _
    have zc:H[q]? =some (.arr 3 1 (xs.map AV.i)):=by rw[hH,zE (by omega)];exact Qa gq _
    have y5:1<G.length:=Qf g1;clear hH g0 g1 gq;generalize G.length=b at *;clear G
    have zl:=z1.pos za;have hle:=z1.le;have y6:=z1.len;have zw:=hi.len;have y7:xs.length≤256:=by omega
    have y8:=Qf zc;have y9:∀E:List AObj,(H++E)[H.length]? =E[0]? :=fun E=>by rw[zK (zR _),Nat.sub_self]
    by_cases ho:off=0
    ·subst ho;obtain rfl:L=xs.length:=by omega
     repeat first|(refine r_ ?_;simp[zq])|refine q_ ?_
     refine Qi tOk rfl rfl T40 rfl T3 rfl (by decide) (by decide) rfl rfl rfl ?_;simp[Qa zc];refine⟨by simp[W8,Qa zc]<;>omega,?_⟩;repeat first|(refine r_ ?_;simp[hw])|refine q_ ?_
     refine Qc (sl':=[(1,.vptr 0 0),(2,.bool false),(3,.mref 1),(4,.sl (H.length+1) 1 0 (xs.length+1)),(21,.list ((Qw a k).map encMv)),(22,.i (Qw a k).length),(23,.i (j+1:Nat))]) ?_ (by simp);exact z7 (H.length+1) 0 (xs.length+1) (xs++[m.dst]) _ ⟨by omega,z1.add za _,Qa (Qd (by omega) (Qa h0 _) _) _,Qa (Qd (by omega) (Qa h1 _) _) _,by rw[zK (by simp)];simp,by omega⟩ (by omega)
    ·repeat first|(refine r_ ?_;simp[zq])|refine q_ ?_
     refine Za tOk rfl rfl T40 rfl T3 (by decide) (by decide) rfl rfl (Qa zc _) (by omega) (by simp;omega) (by simp) (ys:=[.i m.dst]) (by simp) (by simp[AV.cells,AV.leaf]) (by simp;omega) (by simp;omega) rfl ?_ ?_
     ·simp;repeat first|(refine r_ ?_;simp[hw])|refine q_ ?_
      refine Qc (sl':=[(1,.vptr 0 0),(2,.bool false),(3,.mref 1),(4,.sl q 1 off (L+1)),(21,.list ((Qw a k).map encMv)),(22,.i (Qw a k).length),(23,.i (j+1:Nat))]) ?_ (by simp);exact z7 q off (L+1) (xs++[m.dst]) _ ⟨by omega,z1.add za _,Qd (by omega) (Qa h0 _) _,Qd (by omega) (Qa h1 _) _,by rw[List.getElem?_set_self (by have:=Qf zc;simp;omega)];simp,hq⟩ (by omega)
     ·simp;repeat first|(refine r_ ?_;simp[hw])|refine q_ ?_
      refine Qc (sl':=[(1,.vptr 0 0),(2,.bool false),(3,.mref 1),(4,.sl (H.length+1) 1 0 (L+1)),(21,.list ((Qw a k).map encMv)),(22,.i (Qw a k).length),(23,.i (j+1:Nat))]) ?_ (by simp);exact z7 (H.length+1) 0 (L+1) (xs.drop off++[m.dst]) _ ⟨by omega,z1.cut za _,Qa (Qd (by omega) (Qa h0 _) _) _,Qa (Qd (by omega) (Qa h1 _) _) _,by rw[zK (by simp)];simp,by omega⟩ (by omega)
  ·have zx:j=(Qw a k).length:=by simp at ze;omega
   subst zx;have zy:u7 (Qw a k).length (P1 a k)=P1 a k:=zY (by omega);rw[zy]at z1 g1 za hi;have ya:=z1.pos za;have zw:=hi.le;have zz:(1:Int)≤L:=by omega
   repeat first|(refine r_ ?_;simp[zz])|refine q_ ?_
   refine Qc (sl':=[(1,.vptr 0 0),(2,.bool false),(3,.mref 1),(4,.sl q 1 (off+1) (L - 1))]) ?_ (by simp);exact zt (n+1) _ q (off+1) (L - 1) xs G ⟨zf,z1.tail (by omega),g0,g1,gq,hq⟩
 ·have zk:O.length≤n:=by simp at ze;omega
  have y0:=z8.stop zk;rw[y0];repeat first|(refine r_ ?_;simp)|refine q_ ?_
  refine y0v tOk rfl rfl rfl v1m rfl rfl g1 ?_;simp[g0];repeat first|(refine r_ ?_;simp)|refine q_ ?_
  rw[Bool.eq_iff_iff,beq_iff_eq,beq_iff_eq];omega
end Go.Abs
namespace Go.Abs
open Go Go.Proofs Go.Maps Go.RowKit
def Us(p j:Nat):List (Int×Int):=(yL j).map fun r:Nat=>((p:Int),(p:Int)+1+(r:Int))
def Xr(n i:Nat):List (Int×Int):=(yL i).flatMap fun p=>Us p (n - 1 - p)
def prs(n:Nat):List (Int×Int):=Xr n n
theorem x07(p j:Nat):Us p (j+1)=Us p j++[((p:Int),(p:Int)+1+(j:Int))]:=by unfold Us;rw[wH,yZ];rfl
theorem Bi(n i:Nat):Xr n (i+1)=Xr n i++Us i (n - 1 - i):=by unfold Xr;rw[wH,wA];simp
theorem k0x(p:Nat){j m:Nat}(h:j≤m):∃r,Us p m=Us p j++r:=by
 refine⟨((yL m).drop j).map fun r:Nat=>((p:Int),(p:Int)+1+(r:Int)),?_⟩;have:yL j=(yL m).take j:=by rw[tH,tO h]
 unfold Us;rw[this,←yZ,xW]
theorem y15(n:Nat){i m:Nat}(h:i≤m):∃r,Xr n m=Xr n i++r:=by
 refine⟨((yL m).drop i).flatMap fun p=>Us p (n - 1 - p),?_⟩;have:yL i=(yL m).take i:=by rw[tH,tO h]
 unfold Xr;rw[this,←wA,xW]
theorem Lz{n:Nat}{e:Int×Int}(h:e∈prs n):0≤e.1∧e.1<e.2∧e.2<(n:Int):=by unfold prs Xr Us at h;obtain⟨p,hp,h⟩:=wI.1 h;obtain⟨r,hr,rfl⟩:=zT.1 h;have:=yV.1 hp;have:=yV.1 hr;simp only;omega
theorem f0f{n p q:Nat}(h1:p<q)(h2:q<n):((p:Int),(q:Int))∈prs n:=by
 unfold prs Xr Us;refine wI.2 ⟨p,yV.2 (by omega),zT.2 ⟨q - (p+1),yV.2 (by omega),?_⟩⟩
 congr 1;omega
theorem Cz(n:Nat):∀i,i≤n→2 * (Xr n i).length+(n - i) * (n - i - 1)=n * (n - 1)
 |0,_=>by simp[Xr]
 |i+1,h=>by
  have ih:=Cz n i (by omega);rw[Bi,z_];have hl:(Us i (n - 1 - i)).length=n - 1 - i:=by simp[Us]
  rw[hl];obtain⟨k,hk⟩:∃k,n - i=k+1:=⟨n - i - 1,by omega⟩
  rw[hk]at ih;rw[show n - (i+1)=k by omega,show n - 1 - i=k by omega];rw[←ih];cases k with
  |zero=>simp
  |succ k=>simp only[Nat.add_sub_cancel,Nat.mul_add,Nat.add_mul];omega
theorem Xe(n:Nat):(prs n).length=n * (n - 1) / 2:=by have:=Cz n n (zR _);unfold prs;simp at this;omega
attribute [local irreducible] Us Xr
theorem w0p(n:Int):PC Tryz.prog 95 [.i n] (fun r=>r= .fn (.func 153) [] [.iptr [.i n]]):=by refine Qk tOk Tryz.func95 rfl Tryz.results95 rfl (by simp[Tryz.ntmps95]) ?_;rw[Tryz.ntmps95];simp only[Qg];repeat first|(refine r_ ?_;simp)|refine q_ ?_
theorem Vt (n:Nat) (hn:n≤1000000) (l:Nat) {z1:Nat} {sl':List (Nat×AV)} {ps:List Tmp} {asg body:Code} (zg:ps.length=2) (zh:(ps.all fun p=>decide (p<z1))=true)
  (Inv:List (Int×Int)→List AObj→Prop) (Done:Code→List AObj→Prop) (H0:List AObj)
  (hI:∀k H,Inv k H→H[l]? =some (.lp true none z1 sl' ps asg body))
  (z6:∀pre e post H,prs n=pre++e::post→Inv pre H→AWP Tryz.prog z1 H.length asg (Pf (AWP Tryz.prog z1 H.length body (q0u l (fun jm K2=>(jm=none∧Inv (pre++[e]) (K2.set l (.lp true none z1 sl' ps asg body)))∨∃c,jm=some c∧Done c (K2.set l (.lp false (some c) z1 sl' ps asg body))))) (fun _ _=>False)) ⟨Rk sl' ps [.i e.1,.i e.2],H.set l .dead⟩)
  (h0:Inv [] H0):FC Tryz.prog 153 [.yld l,.iptr [.i n]] H0 (fun _ H'=>Inv (prs n) H'∨∃c,Done c H'):=by
 refine Wy tOk Tryz.func153 rfl Tryz.results153 rfl (by simp[Tryz.ntmps153]) ?_;rw[Tryz.ntmps153];simp only[Qg];repeat first|(refine r_ ?_;simp)|refine q_ ?_
 refine Qo (Qc (sl':=[(0,.yld l),(1,.iptr [.i n]),(5,.i n),(6,.i (0:Nat))]) ?_ (by simp));refine Qn (P:=Tryz.prog) (F:=fun(u:Nat×List AObj)=>⟨[(0,.yld l),(1,.iptr [.i n]),(5,.i n),(6,.i u.1)],u.2⟩)
  (fun u=>u.1≤n∧Inv (Xr n u.1) u.2) (fun u=>n - u.1) ?_ (0,H0) ⟨xY _,by rw[show Xr n 0=[] by unfold Xr;rfl];exact h0⟩
 rintro⟨i,H⟩ ⟨hi,hv⟩ ih;simp only at hi hv ih ⊢;repeat first|(refine r_ ?_;simp)|refine q_ ?_
 refine Qb rfl (fun zi=> ?_) (fun zj=> ?_)
 ·have zk:i<n:=by simpa using zi
  have hw:IntKind.i64.wrap ((i:Int)+1)=i+1:=wrap_i64 _ (by omega) (by omega);have zc:=Bi n i;obtain⟨rp,zl⟩:=y15 n (show i+1≤n by omega);have zd:=fun H'=>ih (i+1,H');simp only[zc]at zd;repeat first|(refine r_ ?_;simp[hw])|refine q_ ?_
  refine Qo (Qc (sl':=[(0,.yld l),(1,.iptr [.i n]),(3,.i i),(4,.i (i+1+0:Nat)),(5,.i n),(6,.i i)]) ?_ (by simp));refine Qn (P:=Tryz.prog) (F:=fun(u:Nat×List AObj)=>⟨[(0,.yld l),(1,.iptr [.i n]),(3,.i i),(4,.i (i+1+u.1:Nat)),(5,.i n),(6,.i i)],u.2⟩)
   (fun u=>u.1≤n - 1 - i∧Inv (Xr n i++Us i u.1) u.2) (fun u=>n - 1 - i - u.1) ?_ (0,H) ⟨xY _,by rw[show Us i 0=[] by unfold Us;rfl,List.append_nil];exact hv⟩
  clear hv ih;clear H;rintro⟨j,G⟩ ⟨hj,gv⟩ ih2;simp only at hj gv ih2 ⊢;repeat first|(refine r_ ?_;simp)|refine q_ ?_
  refine Qb rfl (fun z8=> ?_) (fun za=> ?_)
  ·have ze:i+1+j<n:=by simp at z8;omega
   have zm:IntKind.i64.wrap ((i:Int)+1+j+1)=i+1+j+1:=wrap_i64 _ (by omega) (by omega);have zf:=x07 i j;obtain⟨r1,zn⟩:=k0x i (show j+1≤n - 1 - i by omega);have z7:=fun H'=>ih2 (j+1,H');simp only[zf]at z7;repeat first|(refine r_ ?_;simp)|refine q_ ?_
   have i1:=hI _ _ gv;have zo:=z6 (Xr n i++Us i j) ((i:Int),(i:Int)+1+j) (r1++rp) G (by unfold prs;rw[zl,zc,zn,zf];simp) gv;refine Yb rfl rfl (q:=l) rfl rfl i1 zg zh rfl (fun jm K2=>(jm=none∧Inv (Xr n i++Us i j++[((i:Int),(i:Int)+1+j)]) (K2.set l (.lp true none z1 sl' ps asg body)))∨∃c,jm=some c∧Done c (K2.set l (.lp false (some c) z1 sl' ps asg body))) ?_ ?_
   ·exact zo
   ·rintro jm K2 (⟨rfl,hK⟩|⟨c,rfl,hD⟩)
    ·simp;repeat first|(refine r_ ?_;simp)|refine q_ ?_
     refine Qb rfl (fun h=>by cases h) (fun _=> ?_);repeat first|(refine r_ ?_;simp[zm])|refine q_ ?_
     refine Qc (sl':=[(0,.yld l),(1,.iptr [.i n]),(3,.i i),(4,.i (i+1+(j+1):Nat)),(5,.i n),(6,.i i)]) ?_ (by simp;omega);exact z7 _ ⟨by omega,by rw[←List.append_assoc];exact hK⟩ (by omega)
    ·simp;repeat first|(refine r_ ?_;simp)|refine q_ ?_
     refine Qb rfl (fun _=> ?_) (fun h=>by cases h);repeat first|(refine r_ ?_;simp)|refine q_ ?_
     exact .inr ⟨c,hD⟩
  ·have zp:j=n - 1 - i:=by simp at za;omega
   subst zp;repeat first|(refine r_ ?_;simp[hw])|refine q_ ?_
   refine Qc (sl':=[(0,.yld l),(1,.iptr [.i n]),(5,.i n),(6,.i (i+1:Nat))]) ?_ (by simp);exact zd G ⟨by omega,gv⟩ (by omega)
 ·have zb:i=n:=by simp at zj;omega
  subst zb;repeat first|(refine r_ ?_;simp)|refine q_ ?_
  exact .inl hv
end Go.Abs
namespace Go.Abs
open Go Go.Proofs Go.Maps Go.RowKit
def wdR(a:Aut)(e:Int×Int):List Sy:=T0 a (En a) ((lkN (En a) e).getD 0) e
def Rw(x:(Int×Int)×List Sy):AV:= .agg [.i x.1.1,.i x.1.2,LSy x.2]
def x10(a:Aut):List ((Int×Int)×List Sy)×Int:=
 if Yl a≠0 then([],Yl a)else if 4096<a.fin.length * (a.fin.length - 1) / 2 then([],5)else if S5 a=false then([],18)
 else if(prs a.fin.length).all (fun e=>(lkN (En a) e).isSome)then((prs a.fin.length).map fun e=>(e,wdR a e),0)else([],18)
structure RfI (a:Aut) (M N l q:Nat) (xs:List AV) (H:List AObj):Prop where
 h1:H[1]? =some (.vars [.nils])
 h2:H[2]? =some (.vars [.i 0])
 h3:H[3]? =some (.vars [.i a.types,.list (a.fin.map .bool),.list (a.mv.map encMv),.list (Ra a)])
 hM:H[M]? =some (mpN (En a))
 hN:H[N]? =some (.vars [.mref M])
 ho:H[N+1]? =some (.vars [.sl q 3 0 xs.length])
 ha:H[q]? =some (.arr 147 3 xs)
 bd:4≤M∧M<N∧N+1<q∧q≠l∧N+2<l
theorem RfI.put{a:Aut}{M N l q:Nat}{xs:List AV}{H:List AObj}(h:RfI a M N l q xs H)(y:AObj):RfI a M N l q xs (H.set l y):=by have:=h.bd;exact⟨Qd (by omega) h.h1 _,Qd (by omega) h.h2 _,Qd (by omega) h.h3 _,Qd (by omega) h.hM _,Qd (by omega) h.hN _,Qd (by omega) h.ho _,Qd (by omega) h.ha _,h.bd⟩
theorem RfI.keep{a:Aut}{M N l q:Nat}{xs:List AV}{H X:List AObj}(h:RfI a M N l q xs H)(hk:∀i,i<H.length→X[i]? =H[i]?):RfI a M N l q xs X:=by have f:∀ {i:Nat} {x:AObj},H[i]? =some x→X[i]? =some x:=fun hi=>(hk _ (Qf hi)).trans hi;exact⟨f h.h1,f h.h2,f h.h3,f h.hM,f h.hN,f h.ho,f h.ha,h.bd⟩
theorem RfI.push{a:Aut}{M N l q:Nat}{xs:List AV}{X:List AObj}(h:RfI a M N l q xs X)(hl:l<X.length)(z:AObj)(ys:List AV)(y:AV)(hy:ys=xs++[y])(n:Nat)(hn:n=xs.length+1):RfI a M N l (X.length+1) (xs++[y]) (((X++[z]).set q .dead++[AObj.arr 147 3 ys]).set (N+1) (.vars [.sl (X.length+1) 3 0 n])):=by
 subst hy hn;have b:=h.bd;have z1:=Qf h.ha;have f:∀ {i:Nat} {x:AObj},i≠q→i≠N+1→X[i]? =some x→(((X++[z]).set q .dead++[AObj.arr 147 3 (xs++[y])]).set (N+1) (.vars [.sl (X.length+1) 3 0 (xs.length+1)]))[i]? =some x:=fun h1 h2 hi=>Qd (Ne.symm h2) (Qa (Qd (Ne.symm h1) (Qa hi _) _) _) _;refine⟨f (by omega) (by omega) h.h1,f (by omega) (by omega) h.h2,f (by omega) (by omega) h.h3,f (by omega) (by omega) h.hM,f (by omega) (by omega) h.hN,?_,?_,⟨by omega,by omega,by omega,by omega,by omega⟩⟩
 ·rw[z_];exact Qh (Qa (Qd (by omega) (Qa h.ho _) _) _) _
 ·rw[zE (by omega),zK (by simp)];simp
def w2s(a:Aut):Prop:=∀e∈prs a.fin.length,(lkN (En a) e).isSome=true
def y2v(a:Aut)(l:List (Int×Int)):Prop:=∀e∈l,(lkN (En a) e).isSome=true
def x1p(a:Aut):Prop:=∃e∈prs a.fin.length,lkN (En a) e=none
attribute [local simp] T60 q28
attribute [local irreducible] Yl P7 Qw Eh Ra Wi Tu lkN En P2 clA T0 S5 prs
theorem z0u(a:Aut):PC Tryz.prog 36 [encA a] (fun r=>r= .tup [.list ((x10 a).1.map Rw),.i (x10 a).2]):=by
 refine Qk tOk Tryz.func36 rfl Tryz.results36 rfl (by simp[Tryz.ntmps36]) ?_;rw[Tryz.ntmps36];simp only[Qg];simp only[encA];obtain⟨R,hR⟩:∃R,x10 a=R:=⟨_,rfl⟩
 rw[hR];unfold x10 at hR;repeat first|(refine r_ ?_;simp)|refine q_ ?_
 refine Qe rfl rfl (by simp) (Fa a) rfl ?_;rintro _ rfl;simp;repeat first|(refine r_ ?_;simp)|refine q_ ?_
 refine Qb rfl (fun h=> ?_) (fun h=> ?_)
 ·rw[if_pos (by simpa using h)]at hR;rw[←hR];repeat first|(refine r_ ?_;simp)|refine q_ ?_
 have h0:Yl a=0:=by simpa using h
 have ha:=(Oy a).1 h0;have zr:=ha.ok.fin;rw[if_neg (fun k=>k h0)]at hR;have ze:IntKind.i64.wrap ((a.fin.length:Int) - 1)=(a.fin.length:Int) - 1:=wrap_i64 _ (by omega) (by omega);obtain⟨k,hk⟩:∃k:Nat,a.fin.length * (a.fin.length - 1)=k:=⟨_,rfl⟩
 have y4:k≤65536:=by rw[←hk];exact yO (td zr.2 (show a.fin.length - 1≤256 by omega)) (by decide)
 have zf:(a.fin.length:Int) * ((a.fin.length:Int) - 1)=k:=by rw[←hk,show(a.fin.length:Int) - 1=((a.fin.length - 1:Nat):Int) by omega,←tP]
 have zg:IntKind.i64.wrap ((a.fin.length:Int) * ((a.fin.length:Int) - 1))=k:=by rw[zf];exact wrap_i64 _ (by omega) (by omega)
 have za:IntKind.i64.wrap ((k:Int) / 2)=((k / 2:Nat):Int):=by rw[wrap_i64 _ (by omega) (by omega)];omega
 rw[hk]at hR;obtain⟨k2,z1⟩:∃k2,k / 2=k2:=⟨_,rfl⟩
 rw[z1]at za hR;repeat first|(refine r_ ?_;simp[ze,zg,za])|refine q_ ?_
 refine Qb rfl (fun h=> ?_) (fun h=> ?_)
 ·rw[if_pos (by simp at h;omega)]at hR;rw[←hR];repeat first|(refine r_ ?_;simp)|refine q_ ?_
 have y5:k2≤4096:=by simp at h;omega
 have zt:k / 2≤4096:=by omega
 clear z1;rw[if_neg (by omega)]at hR;clear ze zg za zf;repeat first|(refine r_ ?_;simp)|refine q_ ?_
 refine Qe rfl rfl (by simp) (R4 a ha.ok) rfl ?_;rintro _ rfl;simp[Ei,Q3];repeat first|(refine r_ ?_;simp)|refine q_ ?_
 refine Qe rfl rfl (by simp) (q0i a ha) rfl ?_;rintro _ rfl;simp;repeat first|(refine r_ ?_;simp)|refine q_ ?_
 cases hcn:S5 a with
 |false=>rw[if_pos hcn]at hR;rw[←hR];refine Qb rfl (fun _=> ?_) (fun h=>by simp[hcn]at h);repeat (first|(refine r_ ?_;simp)|refine q_ ?_)
 |true=>
  rw[if_neg (by rw[hcn];simp)]at hR;refine Qb rfl (fun h=>by simp[hcn]at h) (fun _=> ?_);repeat first|(refine r_ ?_;simp)|refine q_ ?_
  refine Q4 rfl rfl (U7 a ha.ok _) rfl ?_;rintro _ Y ⟨M,rfl,zu,zb,zh,z7⟩;have y1:Y[1]? =some (.vars [.nils]):=z7 1 (by simp);have y2:Y[2]? =some (.vars [.i 0]):=z7 2 (by simp);have y3:Y[3]? =some (.vars [.i a.types,.list (a.fin.map .bool),.list (a.mv.map encMv),.list (Ra a)]):=z7 3 (by simp);have y6:=Qf zb;simp at zu;clear z7;simp;repeat first|(refine r_ ?_;simp)|refine q_ ?_
  refine Qe rfl rfl (by simp) (w0p a.fin.length) rfl ?_;rintro _ rfl;simp;repeat first|(refine r_ ?_;simp)|refine q_ ?_
  refine Rj (Y.length+1) 0 147 3 (xs:=[.nils]) (by rw[zK (by omega)];simp) rfl ?_;simp;refine Q6 (sl':=[(2,.vptr 1 0),(3,.vptr 2 0),(5,.i a.fin.length),(6,.vptr 3 0),(7,.vptr Y.length 0),(8,.vptr (Y.length+1) 0),(35,.fn (.func 153) [] [.iptr [.i a.fin.length]])]) ?_ (by simp);refine Wd fun Z hZ=> ?_;have zi:Z.length=Y.length+3:=by rw[hZ];simp
  have zI:RfI a M Y.length Z.length (Y.length+2) [] Z:=by
   rw[zi,hZ];refine⟨Qa y1 _,Qa y2 _,Qa y3 _,Qa zb _,?_,?_,?_,by omega⟩
   ·rw[zK (by omega)];simp
   ·rw[zK (by omega)];simp
   ·rw[zK (by omega)];simp
  clear hZ y1 y2 y3 zb;generalize Y.length=N at *;clear Y;refine Ed rfl (Rf:=fun _ H'=>∃pend sl' z6 a' b',H'[Z.length]? =some (.lp pend.isNone pend 60 sl' z6 a' b')∧
   ((pend=none∧w2s a∧∃q,RfI a M N Z.length q ((prs a.fin.length).map fun e=>Rw (e,wdR a e)) H')∨(pend=some .ret∧x1p a∧H'[1]? =some (.vars [.nils])∧H'[2]? =some (.vars [.i 18])))) ?_ ?_
  ·simp;refine Du fun H1 zc=> ?_;have fI:RfI a M N Z.length (N+2) [] H1:=by rw[zc];exact zI.keep fun i hi=>List.getElem?_append_left hi
   have fl:=congrArg (fun h:List AObj=>h[Z.length]?) zc;simp at fl;have y7:N+2<Z.length:=by omega
   clear zc zI zi;generalize Z.length=l at *;refine FC.mono (Vt a.fin.length (by omega) l (by rfl) (by rfl)
    (fun pre H'=>H'[l]? =H1[l]? ∧y2v a pre∧pre.length≤4096∧∃q,RfI a M N l q (pre.map fun e=>Rw (e,wdR a e)) H')
    (fun c H'=>c= .ret∧(∃sl' z6 a' b',H'[l]? =some (.lp false (some .ret) 60 sl' z6 a' b'))∧x1p a∧H'[1]? =some (.vars [.nils])∧H'[2]? =some (.vars [.i 18])) H1
    (fun k H' h=>h.1.trans fl) ?_ ⟨rfl,fun e he=>(by cases he),by simp,N+2,fI⟩) ?_
   ·rintro pre e post H' zj ⟨h1,zv,y8,q,hI⟩;simp[Rk];have zk:e∈prs a.fin.length:=by rw[zj];simp
    have z8:=Lz zk;have zw:=P9 ha.ok ha.ok (s:=e) ⟨⟨z8.1,by omega⟩,⟨by omega,z8.2.2⟩⟩;have zz:=Qh (h1.trans fl) .dead;have zI:=hI.put .dead;have zl:=Qf zz;generalize H'.set l .dead=Z at *
    have z3:=zI.h3;have zM:=zI.hM;have zN:=zI.hN;have zo:=zI.ho;repeat first|(refine r_ ?_;simp[z3,zN])|refine q_ ?_
    refine Tb rfl rfl rfl rfl (s:=e) rfl (near:=En a) zM zh.nk zw ?_;simp;cases zm:lkN (En a) e with
    |none=>
     repeat first|(refine r_ ?_;simp)|refine q_ ?_
     refine Qj rfl ?_;repeat first|(refine r_ ?_;simp[zI.h1,zI.h2])|refine q_ ?_
     have b:=zI.bd;exact⟨Qd (by omega) (Qd (by omega) zz _) _,.inr ⟨_,rfl,rfl,⟨_,_,_,_,Qh (Qd (by omega) (Qd (by omega) zz _) _) _⟩,⟨e,zk,zm⟩,Qd (by omega) (Qd (by omega) (Qh zI.h1 _) _) _,Qd (by omega) (Qh (Qd (by decide) zI.h2 _) _) _⟩⟩
    |some d=>
     repeat first|(refine r_ ?_;simp)|refine q_ ?_
     refine Qj rfl ?_;repeat first|(refine r_ ?_;simp)|refine q_ ?_
     have b:=zI.bd;have zn:(prs a.fin.length).length≤4096:=by rw[Xe,hk];exact zt
     have y9:pre.length+1≤4096:=by rw[zj]at zn;simp at zn;omega
     have zd:FC Tryz.prog 90 [Ei a,.mref M,.i e.1,.i e.2] Z (fun r H'=>r=LSy (wdR a e)∧∀i,i<Z.length→H'[i]? =Z[i]?):=u0j a ha.ok Z M (En a) zM zh e.1 e.2 ⟨z8.1,by omega⟩ ⟨by omega,z8.2.2⟩;have zx:(pre++[e]).map (fun e=>Rw (e,wdR a e))=pre.map (fun e=>Rw (e,wdR a e))++[Rw (e,wdR a e)]:=by simp
     have ya:(pre.map (fun e=>Rw (e,wdR a e))).length=pre.length:=by simp
     generalize pre.map (fun e=>Rw (e,wdR a e))=xs at *
     obtain⟨w,hw⟩:∃w,LSy (wdR a e)= .list w:=⟨_,rfl⟩
     simp only[Rw,hw]at zd zx;simp only[Ei,Q3]at zd;refine Ud (P:=Tryz.prog) tOk mixed [7,10,11] (.val 1 (.val 2 (.val 3 (.val 4 (.val 5 (.val 6 (.two 0 (.one 7 (.val 8 (.one 9 (.one 10 (.one 11 (.done)))))) 7 (.val 0 (.val 8 (.one 9 (.one 10 (.one 11 (.done))))))))))))) (fun S'=>S'.hp[l]? =some .dead∧∃q',RfI a M N l q' (xs++[.agg [.i e.1,.i e.2,.list w]]) S'.hp) rfl (by kernel_rfl) ?_ ?_
     ·simp[z3,zN,zo]
      repeat' (first
       |refine And.intro ?_ ?_
       |(refine Q4 rfl rfl zd rfl ?_;rintro r X ⟨e0,hX⟩;rw[e0];have xo:=(zI.keep hX).ho;simp[xo]))
      all_goals
       have xI:=zI.keep hX;have xa:=xI.ha;have zy:l<X.length:=Qf ((hX l zl).trans zz);have y0:∀E E',((X++E).set q .dead++E')[N+1]? =some (.vars [.sl q 3 0 xs.length]):=fun E E'=>Qa (Qd (by omega) (Qa xo E) _) E';refine Qi tOk rfl rfl T60 rfl q28 rfl (by decide) (by decide) rfl rfl rfl ?_;simp[Qa xa];refine⟨by simp[W8,AV.cells,AV.leaf]<;>omega,?_⟩;simp[y0];refine⟨?_,X.length+1,xI.push zy _ _ _ rfl _ rfl⟩;rw[zE (by omega)];exact Qa (Qd b.2.2.2.1 (Qa ((hX l zl).trans zz) _) _) _
     ·rintro⟨sl,E⟩ ⟨e1,q',zp⟩;simp only at e1 zp;refine L6 ?_;refine⟨e1,.inl ⟨rfl,(Qh e1 _).trans fl.symm,fun x hx=> ?_,by omega,q',by rw[show Rw (e,wdR a e)= .agg [.i e.1,.i e.2,.list w] by simp[Rw,hw]];exact zp.put _⟩⟩;rcases zU.1 hx with hx|hx
      ·exact zv x hx
      ·rw[zP.1 hx,zm];rfl
   ·rintro r H' (⟨h1,h2,_,h3⟩|⟨c,rfl,⟨sl',z6,a',b',h1⟩,h2,h3,h4⟩)
    ·exact⟨none,⟨_,_,_,_,h1.trans fl⟩,.inl ⟨rfl,h2,h3⟩⟩
    ·exact⟨some .ret,⟨_,_,_,_,h1⟩,.inr ⟨rfl,h2,h3,h4⟩⟩
  ·rintro r H' ⟨pend,sl',z6,a',b',h1,h⟩;refine⟨_,pend,_,_,_,_,_,by simpa using h1,?_⟩;rcases h with⟨rfl,h2,q,hI⟩|⟨rfl,⟨e,he,hn⟩,h3,h4⟩
   ·rw[if_pos (zX.2 h2)]at hR;rw[←hR];simp;have hK:=hI.put .dead;have b:=hK.bd;generalize H'.set Z.length .dead=K at *
    have zq:(((prs a.fin.length).map fun e=>(e,wdR a e)).map Rw)=(prs a.fin.length).map fun e=>Rw (e,wdR a e):=by rw[vB];rfl
    rw[vB]at zq;rw[zq];generalize ((prs a.fin.length).map fun e=>Rw (e,wdR a e))=xs at *
    have k1:=hK.h1;have ko:=hK.ho;have k2:∀y,(K.set 1 y)[2]? =some (.vars [.i 0]):=fun y=>Qd (by decide) hK.h2 y;have kA:∀y z,((K.set 1 y).set 2 z)[1]? =some y:=fun y z=>Qd (by decide) (Qh k1 y) z;have kB:∀y z,((K.set 1 y).set 2 z)[2]? =some z:=fun y z=>Qh (k2 y) z;have kq:∀y z,((K.set 1 y).set 2 z)[q]? =some (.arr 147 3 xs):=fun y z=>Qd (by omega) (Qd (by omega) hK.ha _) z;repeat first|(refine r_ ?_;simp[k1,ko,k2,kA,kB,kq])|refine q_ ?_
   ·rw[if_neg (fun k=>by have:=zX.1 k e he;rw[hn]at this;cases this)]at hR;rw[←hR];simp;have q1:(H'.set Z.length .dead)[1]? =some (.vars [.nils]):=Qd (by omega) h3 _;have q2:(H'.set Z.length .dead)[2]? =some (.vars [.i 18]):=Qd (by omega) h4 _;repeat first|(refine r_ ?_;simp[q1,q2])|refine q_ ?_
end Go.Abs
namespace Go.Abs
open Go Go.Proofs Go.Maps Go.RowKit
theorem C4{a:Aut}(ha:OkA a){s:Int}{x:Sy}(hx:Wv a x):(Qw a s).find? (fun m=>E8 m.on x)=a.mv.find? (fun m=>decide (m.src=s) && E8 m.on x):=by
 unfold Qw;rw[List.find?_filter];have:∀m∈a.mv,(decide (m.src=s) && !Wp m.on && E8 m.on x)=(decide (m.src=s) && E8 m.on x):=fun m hm=>by
  cases hh:E8 m.on x with
  |false=>simp
  |true=>have hv:Wp m.on=false:=(Yh (ha.wfA.on m hm)).2 ⟨_,_,(Ri ha.wfA hm hx).1 hh⟩;simp[hv]
 have key:∀l:List Mv,(∀m∈l,m∈a.mv)→l.find? (fun m=>decide (m.src=s) && !Wp m.on && E8 m.on x)=l.find? (fun m=>decide (m.src=s) && E8 m.on x):=by
  intro l;induction l with
  |nil=>intro _;rfl
  |cons m l ih=>intro hl;rw[uM,uM,this m (hl m (by simp)),ih fun y hy=>hl y (by simp[hy])]
 refine Eq.trans (congrArg (fun f=>a.mv.find? f) (funext fun m=> ?_)) (key a.mv fun m hm=>hm);rw[Bool.decide_and,tg,tg]
theorem d0a{a:Aut}(ha:OkA a){s:Int}{x:Sy}(hx:Wv a x){j:Nat}(hj:j<(Qw a s).length)(z1:∀i (h:i<(Qw a s).length),i<j→E8 ((Qw a s)[i]).on x=false)(hh:E8 ((Qw a s)[j]).on x=true):toL a s x=((Qw a s)[j]).dst:=by
 have:(Qw a s).find? (fun m=>E8 m.on x)=some (Qw a s)[j]:=by rw[List.find?_eq_some_iff_getElem];exact⟨hh,j,hj,rfl,fun i hi=>by rw[z1 i (by omega) hi];rfl⟩
 rw[C4 ha hx]at this;unfold toL;rw[this]
theorem y0o{a:Aut}(ha:Dfa a){s:Int}(hs:inS a s){x:Sy}(hx:Wv a x)(z1:∀i (h:i<(Qw a s).length),E8 ((Qw a s)[i]).on x=false):False:=by
 obtain⟨m,hm,h1,h2⟩:=ha.full s hs.1 hs.2 x hx;have:(Qw a s).find? (fun m=>E8 m.on x)=none:=vW.2 fun y hy=>by obtain⟨i,hi,rfl⟩:=List.getElem_of_mem hy;rw[z1 i hi];simp
 rw[C4 ha.ok hx]at this;have:=vW.1 this m hm;simp[h1,h2]at this
theorem j1j{a:Aut}(ha:OkA a){s:Int}{m:Mv}(hm:m∈Qw a s){x:Sy}(hx:Wv a x):Kj m.on x=(E8 m.on x,0):=by rw[Zs ((W5 a.types m.on).2 ⟨ha.types,(ha.mv m (Eo.1 hm).1).on⟩),if_neg (fun k=>k ((Yo _ _).2 hx))]
def Nb(a:Aut)(s:Int)(w:List Sy):Bool:=a.fin.getD (stF a s w).toNat false
attribute [local irreducible] Qw Eh Ra Wi Kj E8 stF toL
theorem X2(a:Aut)(ha:Dfa a)(p:Int)(hp:inS a p)(w:List Sy)(zv:w.length≤4096)(hw:∀x∈w,Wv a x):PC Tryz.prog 100 [Ei a,.i p,LSy w] (fun r=>r= .bool (Nb a p w)):=by
 have zw:=ha.ok.fin;obtain⟨R,hR⟩:∃R,Nb a p w=R:=⟨_,rfl⟩
 rw[hR];refine Qk tOk Tryz.func100 rfl Tryz.results100 rfl (by simp[Tryz.ntmps100]) ?_;rw[Tryz.ntmps100];simp only[Qg];simp only[Ei,Q3,LSy];repeat first|(refine r_ ?_;simp)|refine q_ ?_
 refine Qo (Qc (sl':=[(1,.i p),(3,.vptr 0 0),(6,.bool false),(13,.list (w.map encSy)),(14,.i w.length),(15,.i (0:Nat))]) ?_ (by simp));refine Qn (P:=Tryz.prog) (F:=fun(u:Nat×Int×List AObj)=>⟨[(1,.i u.2.1),(3,.vptr 0 0),(6,.bool false),(13,.list (w.map encSy)),(14,.i w.length),(15,.i u.1)],u.2.2⟩)
  (fun u=>u.1≤w.length∧inS a u.2.1∧Nb a u.2.1 (w.drop u.1)=R∧u.2.2[0]? =some (.vars [.i a.types,.list (a.fin.map .bool),.list (a.mv.map encMv),.list (Ra a)])) (fun u=>w.length - u.1) ?_ (0,p,_) ⟨xY _,hp,hR,rfl⟩
 clear hR hp;clear p;rintro⟨i,s,G⟩ ⟨hi,hs,hf,g0⟩ ih;simp only at hi hs hf g0 ih ⊢;repeat first|(refine r_ ?_;simp)|refine q_ ?_
 refine Qb rfl (fun zj=> ?_) (fun zk=> ?_)
 ·have z6:i<w.length:=by simpa using zj
  have zl:IntKind.i64.wrap ((i:Int)+1)=i+1:=wrap_i64 _ (by omega) (by omega);have hx:=hw _ (zL z6);have zm:Nb a (toL a s w[i]) (w.drop (i+1))=R:=by rw[←hf,List.drop_eq_getElem_cons z6];unfold Nb stF;rfl
  have zn:=(ha.next hs hx).1;have z7:(w.map encSy)[i]? =some (encSy w[i]):=by simp[z6]
  have z8:∀hh,(w.map encSy)[i]'hh=encSy w[i]:=fun hh=>by simp
  have zf:=fun j h1 h2 h3=>d0a (s:=s) ha.ok hx (j:=j) h1 h2 h3;have zo:=y0o ha hs hx;have zg:=fun m (hm:m∈Qw a s)=>j1j ha.ok hm hx;generalize w[i]=x at *
  have hm:=A6 hs;have zp:(Ra a).length=a.fin.length:=by unfold Ra;simp
  obtain⟨k,rfl⟩:∃k:Nat,s=k:=⟨s.toNat,by have:=hs.1;omega⟩
  have hk:k<a.fin.length:=by have:=hs.2;omega
  simp only[vA,Tm]at hm;have zq:∀hh,(Ra a)[k]'hh= .list ((Qw a k).map encMv):=fun hh=>(yP hh).2 hm;simp only[encSy]at z7 z8;have gA:=fun E=>Qa g0 E;have gH:=fun E hh=>(yP hh).2 (gA E);repeat first|(refine r_ ?_;simp[z7,z8,z6,gA,gH,hm,zq,zp,hk])|refine q_ ?_
  have zx:(Qw a k).length≤2048:=yO (Oh a k) ha.ok.mvs;refine Wd fun Z hZ=> ?_;have z0:Z[0]? =some (.vars [.i a.types,.list (a.fin.map .bool),.list (a.mv.map encMv),.list (Ra a)]):=by rw[hZ];exact gA _
  have zb:Z[G.length]? =some (.vars [.i x.ty,.i x.num]):=by rw[hZ,zK (by omega)];simp
  clear hZ gA gH g0 z7 z8;generalize G.length=b at *;clear G;refine Qo (Qc (sl':=[(1,.i k),(3,.vptr 0 0),(6,.bool false),(8,.vptr b 0),(13,.list (w.map encSy)),(14,.i w.length),(15,.i i),(23,.list ((Qw a k).map encMv)),(24,.i (Qw a k).length),(25,.i (0:Nat))]) ?_ (by simp))
  refine Qn (P:=Tryz.prog) (F:=fun(u:Nat×List AObj)=>⟨[(1,.i k),(3,.vptr 0 0),(6,.bool false),(8,.vptr b 0),(13,.list (w.map encSy)),(14,.i w.length),(15,.i i),(23,.list ((Qw a k).map encMv)),(24,.i (Qw a k).length),(25,.i u.1)],u.2⟩)
   (fun u=>u.1≤(Qw a k).length∧(∀i (h:i<(Qw a k).length),i<u.1→E8 ((Qw a k)[i]).on x=false)∧u.2[0]? =some (.vars [.i a.types,.list (a.fin.map .bool),.list (a.mv.map encMv),.list (Ra a)])∧u.2[b]? =some (.vars [.i x.ty,.i x.num])) (fun u=>(Qw a k).length - u.1) ?_ (0,Z) ⟨xY _,fun i h h0=>absurd h0 (Nat.not_lt_zero _),z0,zb⟩
  clear z0 zb;clear Z;rintro⟨j,G⟩ ⟨hj,za,g0,gb⟩ ih2;simp only at hj za g0 gb ih2 ⊢;repeat first|(refine r_ ?_;simp)|refine q_ ?_
  refine Qb rfl (fun zc=> ?_) (fun zd=> ?_)
  ·have z1:j<(Qw a k).length:=by simpa using zc
   have zr:IntKind.i64.wrap ((j:Int)+1)=j+1:=wrap_i64 _ (by omega) (by omega);have z7:((Qw a k).map encMv)[j]? =some (encMv (Qw a k)[j]):=by simp[z1]
   have z8:∀hh,((Qw a k).map encMv)[j]'hh=encMv (Qw a k)[j]:=fun hh=>by simp
   have hF:=zg _ (zL z1);have hD:=zf j z1 (fun i h h1=>za i h h1);have hN:E8 ((Qw a k)[j]).on x=false→∀i (h:i<(Qw a k).length),i<j+1→E8 ((Qw a k)[i]).on x=false:=fun h0 i h h1=>by
    by_cases e:i=j
    ·subst e;exact h0
    ·exact za i h (by omega)
   clear zf zg;generalize (Qw a k)[j]=m at *;simp only[encMv]at z7 z8
   have gA:=fun E=>Qa g0 E;have gB:=fun E=>Qa gb E;cases hb:E8 m.on x with
   |true=>
    rw[hb]at hF;repeat first|(refine r_ ?_;simp[z7,z8,z1,gA,gB])|refine q_ ?_
    refine Qe rfl rfl (by simp) (Ro m.on x) rfl ?_;rintro _ rfl;simp[hF];repeat first|(refine r_ ?_;simp)|refine q_ ?_
    refine Qj rfl ?_;repeat first|(refine r_ ?_;simp[zl])|refine q_ ?_
    refine Qc (sl':=[(1,.i m.dst),(3,.vptr 0 0),(6,.bool false),(13,.list (w.map encSy)),(14,.i w.length),(15,.i (i+1:Nat))]) ?_ (by simp);have zh:=hD hb;exact ih (i+1,m.dst,_) ⟨by show i+1≤w.length;omega,by rw[←zh];exact zn,by rw[←zh];exact zm,gA _⟩ (by show w.length - (i+1)<w.length - i;omega)
   |false=>
    rw[hb]at hF;repeat first|(refine r_ ?_;simp[z7,z8,z1,gA,gB])|refine q_ ?_
    refine Qe rfl rfl (by simp) (Ro m.on x) rfl ?_;rintro _ rfl;simp[hF];repeat first|(refine r_ ?_;simp)|refine q_ ?_
    refine Qj rfl ?_;repeat first|(refine r_ ?_;simp[zr])|refine q_ ?_
    refine Qc (sl':=[(1,.i k),(3,.vptr 0 0),(6,.bool false),(8,.vptr b 0),(13,.list (w.map encSy)),(14,.i w.length),(15,.i i),(23,.list ((Qw a k).map encMv)),(24,.i (Qw a k).length),(25,.i (j+1:Nat))]) ?_ (by simp);exact ih2 (j+1,_) ⟨by show j+1≤_;omega,hN hb,gA _,gB _⟩ (by show _ - (j+1)<_ - j;omega)
  ·have zy:j=(Qw a k).length:=by simp at zd;omega
   exact(zo fun i h=>za i h (by omega)).elim
 ·have ze:i=w.length:=by simp at zk;omega
  subst ze;rw[xS]at hf;have zi:a.fin.getD s.toNat false=R:=by rw[←hf];unfold Nb stF;rfl
  obtain⟨k,rfl⟩:∃k:Nat,s=k:=⟨s.toNat,by have:=hs.1;omega⟩
  have hk:k<a.fin.length:=by have:=hs.2;omega
  have zt:(a.fin.map AV.bool)[k]? =some (.bool R):=by rw[←zi];simp[yS,hk]
  have zu:∀hh,a.fin[k]'hh=R:=fun hh=>by rw[←zi];simp[yS,hk]
  repeat first|(refine r_ ?_;simp[g0,zt,zu,hk])|refine q_ ?_
end Go.Abs
namespace Go.Abs
open Go Go.Proofs Go.Maps Go.RowKit
abbrev Rfm:=(Int×Int)×List Sy
def y0p(T:Int):List (Int×Int)→List Rfm→Int
 |[],_=>0
 |_::_,[]=>0
 |p::ps,x::xs=>if x.1≠p then 14 else if 4096<x.2.length then 5 else if Hz T x.2≠0 then Hz T x.2 else y0p T ps xs
def j1k(a:Aut)(x:Rfm):Bool:=Nb a x.1.1 x.2==Nb a x.1.2 x.2
def g1b(a:Aut)(P:List Rfm):Int:=
 if Yl a≠0 then Yl a else if P.length≠a.fin.length * (a.fin.length - 1) / 2 then 15
 else if y0p a.types (prs a.fin.length) P≠0 then y0p a.types (prs a.fin.length) P
 else if P.any (j1k a)then 18 else if S5 a then 0 else 18
theorem g0u{T:Int}:∀ {ps:List (Int×Int)} {P:List Rfm},ps.length=P.length→y0p T ps P=0→∀x∈P,x.1∈ps∧x.2.length≤4096∧Hz T x.2=0
 |[],[],_,_=>fun x hx=>by cases hx
 |[],_::_,h,_=>by cases h
 |_::_,[],h,_=>by cases h
 |p::ps,x::xs,h,h0=>fun y hy=>by
  unfold y0p at h0;by_cases h1:x.1≠p
  ·rw[if_pos h1]at h0;cases h0
  rw[if_neg h1]at h0;by_cases h2:4096<x.2.length
  ·rw[if_pos h2]at h0;cases h0
  rw[if_neg h2]at h0;by_cases h3:Hz T x.2≠0
  ·rw[if_pos h3]at h0;exact absurd h0 h3
  rw[if_neg h3]at h0;rcases List.mem_cons.1 hy with rfl|hy
  ·have h4:y.1=p:=Decidable.not_not.1 h1;exact⟨by rw[h4];simp,by omega,Decidable.not_not.1 h3⟩
  ·have:=g0u (by simpa using h) h0 y hy;exact⟨by simp[this.1],this.2⟩
structure VfI (a:Aut) (P:List Rfm) (c:Nat) (H:List AObj):Prop where
 h0:H[0]? =some (.vars [.i a.types,.list (a.fin.map .bool),.list (a.mv.map encMv)])
 h1:H[1]? =some (.vars [.list (P.map Rw)])
 h2:H[2]? =some (.vars [.i 0])
 h3:H[3]? =some (.vars [.list ((Wu a.types.toNat).map encL)])
 h4:H[4]? =some (.vars [.i c])
theorem VfI.put{a:Aut}{P:List Rfm}{c:Nat}{H:List AObj}(h:VfI a P c H)(y:AObj):VfI a P c (H.set 5 y):=
 ⟨Qd (by decide) h.h0 _,Qd (by decide) h.h1 _,Qd (by decide) h.h2 _,Qd (by decide) h.h3 _,Qd (by decide) h.h4 _⟩
theorem VfI.app{a:Aut}{P:List Rfm}{c:Nat}{H:List AObj}(h:VfI a P c H)(E:List AObj):VfI a P c (H++E):=
 ⟨Qa h.h0 _,Qa h.h1 _,Qa h.h2 _,Qa h.h3 _,Qa h.h4 _⟩
theorem VfI.inc{a:Aut}{P:List Rfm}{c:Nat}{H:List AObj}(h:VfI a P c H){d:Int}(hd:d=(c:Int)+1):VfI a P (c+1) (H.set 4 (.vars [.i d])):=by subst hd;exact⟨Qd (by decide) h.h0 _,Qd (by decide) h.h1 _,Qd (by decide) h.h2 _,Qd (by decide) h.h3 _,by have:=Qh h.h4 (.vars [.i ((c:Int)+1)]);simpa using this⟩
attribute [local simp] T60 q28
attribute [local irreducible] Yl P7 Qw Eh Ra Wi S5 prs y0p j1k Nb Kj Sq Wu
theorem y0h(a:Aut)(P:List Rfm)(hP:P.length≤1000000):PC Tryz.prog 39 [encA a,.list (P.map Rw)] (fun r=>r= .i (g1b a P)):=by
 obtain⟨R,hR⟩:∃R,g1b a P=R:=⟨_,rfl⟩
 rw[hR];unfold g1b at hR;refine Qk tOk Tryz.func39 rfl Tryz.results39 rfl (by simp[Tryz.ntmps39]) ?_;rw[Tryz.ntmps39];simp only[Qg];simp only[encA];repeat first|(refine r_ ?_;simp)|refine q_ ?_
 refine Qe rfl rfl (by simp) (Fa a) rfl ?_;rintro _ rfl;simp;repeat first|(refine r_ ?_;simp)|refine q_ ?_
 refine Qb rfl (fun h=> ?_) (fun h=> ?_)
 ·rw[if_pos (by simpa using h)]at hR;rw[←hR];repeat first|(refine r_ ?_;simp)|refine q_ ?_
 have h0:Yl a=0:=by simpa using h
 have ha:=(Oy a).1 h0;have y1:=ha.ok.fin;have zh:=ha.ok.types;rw[if_neg (fun k=>k h0)]at hR;have zu:IntKind.i64.wrap ((a.fin.length:Int) - 1)=(a.fin.length:Int) - 1:=wrap_i64 _ (by omega) (by omega);obtain⟨k,hk⟩:∃k:Nat,a.fin.length * (a.fin.length - 1)=k:=⟨_,rfl⟩
 have yc:k≤65536:=by rw[←hk];exact yO (td y1.2 (show a.fin.length - 1≤256 by omega)) (by decide)
 have zv:(a.fin.length:Int) * ((a.fin.length:Int) - 1)=k:=by rw[←hk,show(a.fin.length:Int) - 1=((a.fin.length - 1:Nat):Int) by omega,←tP]
 have zw:IntKind.i64.wrap ((a.fin.length:Int) * ((a.fin.length:Int) - 1))=k:=by rw[zv];exact wrap_i64 _ (by omega) (by omega)
 have zi:IntKind.i64.wrap ((k:Int) / 2)=((k / 2:Nat):Int):=by rw[wrap_i64 _ (by omega) (by omega)];omega
 have zg:=Xe a.fin.length;rw[hk]at hR zg;obtain⟨k2,zj⟩:∃k2,k / 2=k2:=⟨_,rfl⟩
 rw[zj]at zi hR zg;repeat first|(refine r_ ?_;simp[zu,zw,zi])|refine q_ ?_
 refine Qb rfl (fun h=> ?_) (fun h=> ?_)
 ·rw[if_pos (by simp at h;omega)]at hR;rw[←hR];repeat first|(refine r_ ?_;simp)|refine q_ ?_
 have y3:P.length=k2:=by simp at h;omega
 rw[if_neg (by omega)]at hR;clear zu zw zi zv;repeat first|(refine r_ ?_;simp)|refine q_ ?_
 refine Qe rfl rfl (by simp) (j0e a.types zh.1 zh.2) rfl ?_;rintro _ rfl;simp;repeat first|(refine r_ ?_;simp)|refine q_ ?_
 refine Qe rfl rfl (by simp) (w0p a.fin.length) rfl ?_;rintro _ rfl;simp;repeat first|(refine r_ ?_;simp)|refine q_ ?_
 refine Q6 (sl':=[(2,.vptr 0 0),(3,.vptr 1 0),(4,.vptr 2 0),(6,.i a.fin.length),(7,.vptr 3 0),(9,.vptr 4 0),(43,.fn (.func 153) [] [.iptr [.i a.fin.length]])]) ?_ (by simp);refine Wd fun Z hZ=> ?_;have ze:Z.length=5:=by rw[hZ];rfl
 have zI:VfI a P 0 Z:=by rw[hZ];exact⟨rfl,rfl,rfl,rfl,rfl⟩
 clear hZ;obtain⟨V,hV⟩:∃V,y0p a.types (prs a.fin.length) P=V:=⟨_,rfl⟩
 have zc:=fun(h:y0p a.types (prs a.fin.length) P=0)=>g0u (by rw[zg,y3]) h;rw[hV]at hR zc;refine Ed rfl (Rf:=fun _ H'=>∃pend sl' zf a' b',H'[5]? =some (.lp pend.isNone pend 108 sl' zf a' b')∧
  ((pend=none∧V=0∧VfI a P k2 H')∨(pend=some .ret∧V≠0∧H'[2]? =some (.vars [.i V])))) ?_ ?_
 ·simp[ze];refine Du fun H1 zk=> ?_;have fI:VfI a P 0 H1:=by rw[zk];exact zI.app _
  have fl:=congrArg (fun h:List AObj=>h[5]?) zk;rw[zK (by omega),ze]at fl;simp at fl;clear zk zI ze;refine FC.mono (Vt a.fin.length (by omega) 5 (by rfl) (by rfl)
   (fun pre H'=>H'[5]? =H1[5]? ∧V=y0p a.types ((prs a.fin.length).drop pre.length) (P.drop pre.length)∧VfI a P pre.length H')
   (fun c H'=>c= .ret∧(∃sl' zf a' b',H'[5]? =some (.lp false (some .ret) 108 sl' zf a' b'))∧V≠0∧H'[2]? =some (.vars [.i V])) H1
   (fun k H' h=>h.1.trans fl) ?_ ⟨rfl,by simpa using hV.symm,fI⟩) ?_
  ·rintro pre ⟨ep,eq⟩ post H' hst ⟨h1,hv,hI⟩;simp[Rk];have zl:pre.length<P.length:=by have:=congrArg vS hst;simp at this;omega
   have hd:(prs a.fin.length).drop pre.length=(ep,eq)::post:=by rw[hst,List.drop_left]
   have y4:(prs a.fin.length).drop (pre.length+1)=post:=by rw[←uT,hd];rfl
   rw[hd,W7 zl,y0p]at hv;have z8:(P.map Rw)[pre.length]? =some (Rw P[pre.length]):=by simp[zl]
   have za:∀hh,(P.map Rw)[pre.length]'hh=Rw P[pre.length]:=fun hh=>by simp
   have zz:=Qh (h1.trans fl) .dead;have zI:=hI.put .dead;generalize H'.set 5 .dead=Z at *;generalize P[pre.length]=x at *
   obtain⟨⟨xp,xq⟩,w⟩:=x;simp only[Rw,LSy]at z8 za;simp only at hv;have z1:=zI.h1;have z4:=zI.h4;have y6:IntKind.i64.wrap ((pre.length:Int)+1)=pre.length+1:=wrap_i64 _ (by omega) (by omega);have z4A:=fun E=>Qa z4 E;have yd:=Qf zz;have zx:¬(4=Z.length):=by omega
   repeat first|(refine r_ ?_;simp[z1,z4,z8,za,zl,z4A,y6,List.getElem_set,zx])|refine q_ ?_
   refine Wd fun Y hY=> ?_;have yI:VfI a P (pre.length+1) Y:=by rw[hY];exact(zI.app _).inc rfl
   have y5:Y[5]? =some .dead:=by rw[hY];exact Qd (by decide) (Qa zz _) _
   have yb:Y[Z.length]? =some (.vars [.i xp,.i xq,.list (w.map encSy)]):=by rw[hY,zE (by omega),zK (by omega)];simp
   have y2:=yI.h2;clear hY z1 z4 z4A zz zI z8 za hI zx;generalize Z.length=b at *;clear Z;refine Qb rfl (fun h=> ?_) (fun h=> ?_)
   ·have y7:¬((xp,xq)=(ep,eq)):=fun e=>by cases e;simp at h
    rw[if_pos y7]at hv;repeat first|(refine r_ ?_;simp[y2])|refine q_ ?_
    exact⟨Qd (j:=2) (by decide) y5 _,.inr ⟨_,rfl,rfl,⟨_,_,_,_,Qh (Qd (j:=2) (by decide) y5 _) _⟩,by rw[hv];decide,by rw[hv];exact Qh y2 _⟩⟩
   have y8:(xp,xq)=(ep,eq):=by simpa using h
   rw[if_neg (fun k=>k y8)]at hv;repeat first|(refine r_ ?_;simp[yb])|refine q_ ?_
   refine Qb rfl (fun h=> ?_) (fun h=> ?_)
   ·rw[if_pos (by simp at h;omega)]at hv;repeat first|(refine r_ ?_;simp[y2])|refine q_ ?_
    exact⟨Qd (j:=2) (by decide) y5 _,.inr ⟨_,rfl,rfl,⟨_,_,_,_,Qh (Qd (j:=2) (by decide) y5 _) _⟩,by rw[hv];decide,by rw[hv];exact Qh y2 _⟩⟩
   have ye:w.length≤4096:=by simp at h;omega
   rw[if_neg (by omega)]at hv;repeat first|(refine r_ ?_;simp[yb])|refine q_ ?_
   refine Qo (Qc (sl':=[(4,.vptr 2 0),(7,.vptr 3 0),(67,.list (w.map encSy)),(68,.i w.length),(69,.i (0:Nat))]) ?_ (by simp));refine Qn (P:=Tryz.prog) (F:=fun(u:Nat×List AObj)=>⟨[(4,.vptr 2 0),(7,.vptr 3 0),(67,.list (w.map encSy)),(68,.i w.length),(69,.i u.1)],u.2⟩)
    (fun u=>u.1≤w.length∧Hz a.types w=Hz a.types (w.drop u.1)∧VfI a P (pre.length+1) u.2∧u.2[5]? =some .dead) (fun u=>w.length - u.1) ?_ (0,Y) ⟨xY _,rfl,yI,y5⟩
   clear yI y5 yb y2;clear Y;rintro⟨j,Y⟩ ⟨hj,zb,yI,y5⟩ ih;simp only at hj zb yI y5 ih ⊢;repeat first|(refine r_ ?_;simp)|refine q_ ?_
   refine Qb rfl (fun zm=> ?_) (fun zn=> ?_)
   ·have z7:j<w.length:=by simpa using zm
    have hw:IntKind.i64.wrap ((j:Int)+1)=j+1:=wrap_i64 _ (by omega) (by omega);have y9:=zb;rw[W7 z7,Hz]at zb;have z8:(w.map encSy)[j]? =some (encSy w[j]):=by simp[z7]
    have za:∀hh,(w.map encSy)[j]'hh=encSy w[j]:=fun hh=>by simp
    generalize w[j]=x at *;simp only[encSy]at z8 za
    have y3A:=fun E=>Qa yI.h3 E;have y2A:=fun E=>Qa yI.h2 E;repeat first|(refine r_ ?_;simp[z8,za,z7,y3A])|refine q_ ?_
    refine Qe rfl rfl (by simp) (Ro (Wu a.types.toNat) x) rfl ?_;rintro _ rfl;simp[Ki a.types zh];repeat first|(refine r_ ?_;simp)|refine q_ ?_
    refine Qb rfl (fun h3=> ?_) (fun h3=> ?_)
    ·have zo:Sq a.types x≠0:=by simpa using h3
     rw[if_pos zo]at zb;rw[if_pos (by rw[zb];exact zo),zb]at hv;have y2:=(yI.app [.vars [.i x.ty,.i x.num]]).h2;have y5:=Qa y5 [.vars [.i x.ty,.i x.num]];repeat first|(refine r_ ?_;simp[y2])|refine q_ ?_
     exact⟨Qd (j:=2) (by decide) y5 _,.inr ⟨_,rfl,rfl,⟨_,_,_,_,Qh (Qd (j:=2) (by decide) y5 _) _⟩,by rw[hv];exact zo,by rw[hv];exact Qh y2 _⟩⟩
    ·rw[if_neg (by simpa using h3)]at zb;repeat first|(refine r_ ?_;simp[hw])|refine q_ ?_
     refine Qc (sl':=[(4,.vptr 2 0),(7,.vptr 3 0),(67,.list (w.map encSy)),(68,.i w.length),(69,.i (j+1:Nat))]) ?_ (by simp);exact ih (j+1,_) ⟨by show j+1≤_;omega,zb,yI.app _,Qa y5 _⟩ (by show w.length - (j+1)<w.length - j;omega)
   ·have zd:j=w.length:=by simp at zn;omega
    subst zd;rw[xS,Hz]at zb;rw[if_neg (by rw[zb];simp)]at hv;repeat first|(refine r_ ?_;simp)|refine q_ ?_
    exact⟨y5,.inl ⟨rfl,(Qh y5 _).trans fl.symm,by rw[y4];exact hv,yI.put _⟩⟩
  ·rintro r H' (⟨h1,h2,h3⟩|⟨c,rfl,⟨sl',zf,a',b',h1⟩,h2,h3⟩)
   ·rw[xS,y0p]at h2;rw[zg]at h3;exact⟨none,⟨_,_,_,_,h1.trans fl⟩,.inl ⟨rfl,h2,h3⟩⟩
   ·exact⟨some .ret,⟨_,_,_,_,h1⟩,.inr ⟨rfl,h2,h3⟩⟩
 ·rintro r H' ⟨pend,sl',zf,a',b',h1,h⟩;refine⟨_,pend,_,_,_,_,_,by simpa[ze]using h1,?_⟩;rcases h with⟨rfl,h2,hI⟩|⟨rfl,h2,h3⟩
  ·rw[if_neg (fun k=>k h2)]at hR;simp[ze];have hK:=hI.put .dead;have zp:=zc h2;clear zc hV;generalize H'.set 5 .dead=K at *
   have k0:=hK.h0;have k1A:=fun E=>Qa hK.h1 E;have k2A:=fun E=>Qa hK.h2 E;have zy:=hK.h2;clear hK hI h1;repeat first|(refine r_ ?_;simp[k0])|refine q_ ?_
   refine Qe rfl rfl (by simp) (R4 a ha.ok) rfl ?_;rintro _ rfl;simp[Ei,Q3];repeat first|(refine r_ ?_;simp[k1A])|refine q_ ?_
   refine Wd fun W hW=> ?_;have w2:W[2]? =some (.vars [.i 0]):=by rw[hW];exact k2A _
   have wm:W[K.length]? =some (.vars [.i a.types,.list (a.fin.map .bool),.list (a.mv.map encMv),.list (Ra a)]):=by rw[hW,zK (by omega)];simp
   have yf:2<K.length:=Qf zy;clear hW k0 k1A k2A zy;generalize K.length=b at *;clear K;refine Qo (Qc (sl':=[(4,.vptr 2 0),(17,.vptr b 0),(85,.list (P.map Rw)),(86,.i P.length),(87,.i (0:Nat))]) ?_ (by simp))
   refine Qn (P:=Tryz.prog) (F:=fun(u:Nat×List AObj)=>⟨[(4,.vptr 2 0),(17,.vptr b 0),(85,.list (P.map Rw)),(86,.i P.length),(87,.i u.1)],u.2⟩)
    (fun u=>u.1≤P.length∧P.any (j1k a)=(P.drop u.1).any (j1k a)∧u.2[2]? =some (.vars [.i 0])∧u.2[b]? =some (.vars [.i a.types,.list (a.fin.map .bool),.list (a.mv.map encMv),.list (Ra a)])) (fun u=>P.length - u.1) ?_ (0,W) ⟨xY _,rfl,w2,wm⟩
   clear w2 wm;clear W;rintro⟨j,G⟩ ⟨hj,z6,g2,gm⟩ ih;simp only at hj z6 g2 gm ih ⊢;repeat first|(refine r_ ?_;simp)|refine q_ ?_
   refine Qb rfl (fun zm=> ?_) (fun zn=> ?_)
   ·have z7:j<P.length:=by simpa using zm
    have hw:IntKind.i64.wrap ((j:Int)+1)=j+1:=wrap_i64 _ (by omega) (by omega);rw[W7 z7,List.any_cons]at z6;have z8:(P.map Rw)[j]? =some (Rw P[j]):=by simp[z7]
    have za:∀hh,(P.map Rw)[j]'hh=Rw P[j]:=fun hh=>by simp
    obtain⟨o1,o2,o3⟩:=zp _ (zL z7);generalize P[j]=x at *
    obtain⟨⟨p,q⟩,w⟩:=x;have ob:=Lz o1;have y0:∀x∈w,Wv a x:=fun x hx=>(Yo _ _).1 ((Ax w).1 o3 x hx);have zq:=X2 a ha p ⟨ob.1,by simp only at ob;omega⟩ w o2 y0;have zr:=X2 a ha q ⟨by simp only at ob;omega,ob.2.2⟩ w o2 y0;simp only[Rw]at z8 za;have ya:j1k a ((p,q),w)=(Nb a p w==Nb a q w):=by unfold j1k;rfl
    rw[ya]at z6;have zt:∃lw,LSy w= .list lw:=⟨_,rfl⟩
    obtain⟨lw,zt⟩:=zt;rw[zt]at z8 za zq zr;have gA:=fun E=>Qa gm E;have g2A:=fun E=>Qa g2 E;simp only[Ei,Q3]at zq zr;generalize Nb a p w=bp at *;generalize Nb a q w=bq at *
    repeat first|(refine r_ ?_;simp[z8,za,z7])|refine q_ ?_
    refine Qs tOk mixed [] (.val 0 (.val 1 (.val 2 (.val 3 (.val 4 (.val 6 (.val 7 (.val 8 (.val 9 (.val 10 (.one 5 (.one 11 (.val 12 (.done)))))))))))))) rfl (by kernel_rfl) ?_;simp[gA];refine Qe rfl rfl (by simp) (zq) rfl ?_;rintro _ rfl;simp[gA];refine Qe rfl rfl (by simp) (zr) rfl ?_;rintro _ rfl;simp;cases hbb:(bp==bq)with
    |true=>rw[hbb,Bool.true_or]at z6;rw[if_pos z6]at hR;rw[←hR];refine Qb rfl (fun _=> ?_) (fun h=>by simp[hbb]at h);repeat (first|(refine r_ ?_;simp[g2A,fun E y=>Qh (g2A E) y])|refine q_ ?_)
    |false=>
     rw[hbb,Bool.false_or]at z6;refine Qb rfl (fun h=>by simp[hbb]at h) (fun _=> ?_);repeat first|(refine r_ ?_;simp[hw])|refine q_ ?_
     refine Qc (sl':=[(4,.vptr 2 0),(17,.vptr b 0),(85,.list (P.map Rw)),(86,.i P.length),(87,.i (j+1:Nat))]) ?_ (by simp);exact ih (j+1,_) ⟨by show j+1≤_;omega,z6,g2A _,gA _⟩ (by show P.length - (j+1)<P.length - j;omega)
   ·have zd:j=P.length:=by simp at zn;omega
    subst zd;rw[xS]at z6;rw[if_neg (by rw[z6];simp)]at hR;repeat first|(refine r_ ?_;simp[gm])|refine q_ ?_
    refine Qe rfl rfl (by simp) (q0i a ha) rfl ?_;rintro _ rfl;simp;cases hcn:S5 a with
    |true=>rw[if_pos hcn]at hR;rw[←hR];refine Qb rfl (fun h=>by simp[hcn]at h) (fun _=> ?_);repeat (first|(refine r_ ?_;simp[g2,Qh g2])|refine q_ ?_)
    |false=>rw[if_neg (by rw[hcn];simp)]at hR;rw[←hR];refine Qb rfl (fun _=> ?_) (fun h=>by simp[hcn]at h);repeat first|(refine r_ ?_;simp[g2,Qh g2])|refine q_ ?_
  ·rw[if_pos h2]at hR;rw[←hR];simp[ze];have q2:(H'.set 5 .dead)[2]? =some (.vars [.i V]):=Qd (by omega) h3 _;repeat first|(refine r_ ?_;simp[q2])|refine q_ ?_
end Go.Abs
namespace Go.Abs
theorem Hb{a:Aut}{p q:Int}{d:Nat}:D3 a (p,q) d↔∃w:List Sy,w.length=d∧(∀x∈w,Wv a x)∧Jd a p w≠Jd a q w:=by unfold D3;simp only[Ae]
theorem Jt{a:Aut}{p q:Int}{d:Nat}:D3 a (p,q) d↔D3 a (q,p) d:=by rw[Hb,Hb];exact⟨fun⟨w,h1,h2,h3⟩=>⟨w,h1,h2,Ne.symm h3⟩,fun⟨w,h1,h2,h3⟩=>⟨w,h1,h2,Ne.symm h3⟩⟩
theorem y0z{a:Aut}{p q:Int}{d:Nat}(h:Un a (p,q) d):Un a (q,p) d:=⟨Jt.1 h.1,fun k hk hd=>h.2 k hk (Jt.1 hd)⟩
theorem w00{a:Aut}(ha:Dfa a){s:Int×Int}(hs:inP a s){d:Nat}(h:Un a s d):d+1≤(prs a.fin.length).length:=by
 have hn:=Ao ha;have z1:∀k∈yL (d+1),k∈(prs a.fin.length).filterMap (lkN (En a)):=fun k hk=>by
  have z7:=yV.1 hk;obtain⟨⟨p,q⟩,ht,hm⟩:=K9 ha (d - k) k s hs (by rw[show k+(d - k)=d by omega];exact h);obtain⟨⟨p0,p1⟩,q0,q1⟩:=ht;simp only at p0 p1 q0 q1;have z6:p≠q:=by rintro rfl;obtain⟨w,_,_,hw⟩:=Hb.1 hm.1;exact hw rfl
  rcases Int.lt_or_gt_of_ne z6 with hlt|hlt
  ·refine vv.2 ⟨(p,q),?_,(hn (p,q) ⟨⟨p0,p1⟩,q0,q1⟩ k).2 hm⟩;have:=f0f (n:=a.fin.length) (p:=p.toNat) (q:=q.toNat) (by omega) (by omega)
   rwa [show((p.toNat:Nat):Int)=p by omega,show((q.toNat:Nat):Int)=q by omega]at this
  ·refine vv.2 ⟨(q,p),?_,(hn (q,p) ⟨⟨q0,q1⟩,p0,p1⟩ k).2 (y0z hm)⟩;have:=f0f (n:=a.fin.length) (p:=q.toNat) (q:=p.toNat) (by omega) (by omega)
   rwa [show((p.toNat:Nat):Int)=p by omega,show((q.toNat:Nat):Int)=q by omega]at this
 have h1:=(List.nodup_range (n:=d+1)).length_le_of_subset z1;rw[List.length_range]at h1;exact yO h1 (List.length_filterMap_le _ _)
structure MinA (m:Aut):Prop where
 dfa:Dfa m
 apart:∀i j:Nat,i<m.fin.length→j<m.fin.length→eqW m m i j→i=j
 conn:S5 m=true
theorem z1p{a m:Aut}(h:OkA a)(hm:P0 a=(0,m)):MinA m:=by obtain⟨c,c1,c2,rfl,c4,c5⟩:=Ft h hm;have hd:=Ah c1 c4;exact⟨hd,fun i j hi hj he=>Nk c1 c4 hi hj he,(q1s hd).2 fun n hn=>y0s c1 c4 hn⟩
theorem MinA.some{m:Aut}(h:MinA m){e:Int×Int}(he:e∈prs m.fin.length):∃d,lkN (En m) e=some d:=by
 obtain⟨p,q⟩:=e;obtain⟨h0,h1,h2⟩:=Lz he;simp only at h0 h1 h2;have hp:inS m p:=⟨h0,by omega⟩
 have hq:inS m q:=⟨by omega,h2⟩
 cases hl:lkN (En m) (p,q)with
 |some d=>exact⟨d,rfl⟩
 |none=>
  exfalso;have hw:=N3 h.dfa hp hq;rw[hl]at hw;rcases He h.dfa h.dfa rfl hp hq with⟨w,h3,_⟩|⟨_,h3⟩
  ·rw[hw]at h3;cases h3
  ·have:=h.apart p.toNat q.toNat (by omega) (by omega) (by
    rw[show((p.toNat:Nat):Int)=p by omega,show((q.toNat:Nat):Int)=q by omega];exact h3)
   omega
theorem MinA.word{m:Aut}(h:MinA m){e:Int×Int}(he:e∈prs m.fin.length):(wdR m e).length+1≤(prs m.fin.length).length∧(∀x∈wdR m e,Wv m x)∧Nb m e.1 (wdR m e)≠Nb m e.2 (wdR m e):=by
 obtain⟨d,hd⟩:=h.some he;obtain⟨p,q⟩:=e;obtain⟨h0,h1,h2⟩:=Lz he;simp only at h0 h1 h2;have z1:inP m (p,q):=⟨⟨h0,by simp only;omega⟩,⟨by simp only;omega,h2⟩⟩
 have hm:=(Ao h.dfa _ z1 d).1 hd;obtain⟨w1,w2⟩:=F9 h.dfa (Ao h.dfa) d (p,q) z1 hm;have e1:wdR m (p,q)=T0 m (En m) d (p,q):=by unfold wdR;rw[hd];rfl
 rw[e1];exact⟨by rw[w1];exact w00 h.dfa z1 hm,w2.okw,(Ae m m p q _).1 w2.goodw⟩
theorem Ba{T:Int}(f:Int×Int→List Sy):∀(ps:List (Int×Int)),(∀e∈ps,(f e).length≤4096∧Hz T (f e)=0)→y0p T ps (ps.map fun e=>(e,f e))=0
 |[],_=>rfl
 |p::ps,h=>by rw[xE,y0p,if_neg (by simp),if_neg (by have:=(h p (by simp)).1;simp only;omega),if_neg (by simp only;exact fun k=>k (h p (by simp)).2)];exact Ba f ps fun e he=>h e (by simp[he])
theorem MinA.refine{m:Aut}(h:MinA m):((x10 m).2=5)∨(x10 m=((prs m.fin.length).map fun e=>(e,wdR m e),0)∧(prs m.fin.length).length≤4096):=by
 have hf:=(Oy m).2 h.dfa;unfold x10;rw[if_neg (fun k=>k hf)];by_cases hb:4096<m.fin.length * (m.fin.length - 1) / 2
 ·rw[if_pos hb];exact .inl rfl
 ·rw[if_neg hb,if_neg (by rw[h.conn];simp),if_pos (zX.2 fun e he=>by
   obtain⟨d,hd⟩:=h.some he;rw[hd];rfl)]
  exact .inr ⟨rfl,by rw[Xe];omega⟩
theorem MinA.verify{m:Aut}(h:MinA m)(hl:(prs m.fin.length).length≤4096):g1b m ((prs m.fin.length).map fun e=>(e,wdR m e))=0:=by
 have hf:=(Oy m).2 h.dfa;have hv:=Ba (T:=m.types) (wdR m) (prs m.fin.length) fun e he=>by obtain⟨h1,h2,_⟩:=h.word he;exact⟨by omega,(Ax _).2 fun x hx=>(Yo _ _).2 (h2 x hx)⟩
 unfold g1b;rw[if_neg (fun k=>k hf),if_neg (by rw[List.length_map,Xe];exact fun k=>k rfl),if_neg (fun k=>k hv),if_neg,if_pos h.conn];rw[wS];rintro⟨x,hx,z1⟩;obtain⟨e,he,rfl⟩:=zT.1 hx;exact(h.word he).2.2 (by simpa[j1k]using z1)
end Go.Abs
namespace Go.Abs
open Go Go.Proofs Go.Maps Go.RowKit
attribute [local irreducible] C5 Ke P0 x10 g1b prs wdR w1w Uk
theorem x0f(a:Aut)(w:List Sy):PC Tryz.prog 12 [encA a,LSy w] (fun r=>r= .bool true):=by
 refine Qk tOk Tryz.func12 rfl Tryz.results12 rfl (by simp[Tryz.ntmps12]) ?_;rw[Tryz.ntmps12];simp only[Qg];simp only[encA];repeat first|(refine r_ ?_;simp)|refine q_ ?_
 refine Qe rfl rfl (by simp) (g0t a w) rfl ?_;rintro _ rfl;simp;repeat first|(refine r_ ?_;simp)|refine q_ ?_
 cases hv:C5 a w with
 |false=>
  refine Qj rfl ?_;repeat first|(refine r_ ?_;simp)|refine q_ ?_
  refine Qe rfl rfl (by simp) (Y5) rfl ?_;rintro _ rfl;simp;repeat (first|(refine r_ ?_;simp)|refine q_ ?_)
 |true=>
  obtain⟨z8,ze,z1,hw⟩:=k16 hv;refine Qj rfl ?_;repeat first|(refine r_ ?_;simp)|refine q_ ?_
  refine Qe rfl rfl (by simp) (Iq a) rfl ?_;rintro _ rfl;simp;repeat first|(refine r_ ?_;simp)|refine q_ ?_
  rcases f0q z1 with h0|h5
  ·have hm:=Prod.ext (x:=P0 a) (y:=(0,(P0 a).2)) h0 rfl;rw[h0];obtain⟨m1,m2,m3,m4,m5⟩:=j01 z1 hm;have hA:=z1p z1 hm;have ca:=x1f z1 (by omega) hw;have cm:=x1f m1 (by omega) (fun x hx=>(Tt m3).2 (hw x hx));rw[m4 w hw]at cm;have hr:=hA.refine;have za:=hA.verify;generalize (P0 a).2=m at *;refine Qb rfl (fun h=>by simp at h) (fun _=> ?_)
   repeat first|(refine r_ ?_;simp)|refine q_ ?_
   refine Qe rfl rfl (by simp) (Km a w) rfl ?_;rintro _ rfl;simp[ca];repeat first|(refine r_ ?_;simp)|refine q_ ?_
   refine Qe rfl rfl (by simp) (Km m w) rfl ?_;rintro _ rfl;simp[cm];have zb:IntKind.i64.wrap 0=0:=by decide
   repeat first|(refine r_ ?_;simp[zb])|refine q_ ?_
   refine Qb rfl (fun h=>by simp at h) (fun _=> ?_);repeat first|(refine r_ ?_;simp)|refine q_ ?_
   refine Qe rfl rfl (by simp) (z0u m) rfl ?_;rintro _ rfl;simp;repeat first|(refine r_ ?_;simp)|refine q_ ?_
   refine Qe rfl rfl (by simp) (Iq m) rfl ?_;rintro _ rfl;simp;repeat first|(refine r_ ?_;simp)|refine q_ ?_
   rcases hr with hr5|⟨zc,zd⟩
   ·rw[hr5];refine Qb rfl (fun _=> ?_) (fun h=>by simp at h);rcases m5 with k5|k0
    ·rw[k5];repeat first|(refine r_ ?_;simp)|refine q_ ?_
     refine Qe rfl rfl (by simp) (Y5) rfl ?_;rintro _ rfl;simp;repeat first|(refine r_ ?_;simp)|refine q_ ?_
    ·rw[k0];repeat first|(refine r_ ?_;simp)|refine q_ ?_
     refine Qe rfl rfl (by simp) (Y5) rfl ?_;rintro _ rfl;simp;repeat first|(refine r_ ?_;simp)|refine q_ ?_
   ·rw[zc];have z6:=za zd;have z7:=y0h m ((prs m.fin.length).map fun e=>(e,wdR m e)) (by simp;omega);rw[vB]at z7;rcases m5 with k5|k0
    ·rw[k5];refine Qb rfl (fun _=> ?_) (fun h=>by simp at h);repeat first|(refine r_ ?_;simp)|refine q_ ?_
     refine Qe rfl rfl (by simp) (Y5) rfl ?_;rintro _ rfl;simp;repeat first|(refine r_ ?_;simp)|refine q_ ?_
    ·rw[k0];refine Qb rfl (fun h=>by simp at h) (fun _=> ?_);repeat first|(refine r_ ?_;simp)|refine q_ ?_
     refine Qe rfl rfl (by simp) (Y5) rfl ?_;rintro _ rfl;simp;repeat first|(refine r_ ?_;simp)|refine q_ ?_
     refine Qe rfl rfl (by simp) (z7) rfl ?_;rintro _ rfl;simp[z6];repeat first|(refine r_ ?_;simp)|refine q_ ?_
     refine Qe rfl rfl (by simp) (w0e m) rfl ?_;rintro _ rfl;simp;repeat first|(refine r_ ?_;simp)|refine q_ ?_
  ·rw[h5];refine Qb rfl (fun _=> ?_) (fun h=>by simp at h);repeat first|(refine r_ ?_;simp)|refine q_ ?_
   refine Qe rfl rfl (by simp) (Y5) rfl ?_;rintro _ rfl;simp;repeat first|(refine r_ ?_;simp)|refine q_ ?_
end Go.Abs
namespace Go.Abs
open Go Go.Proofs Go.RowKit Go.Proofs.YteghceocnldccaaGreatDoor
theorem laidOut:laidOutB Tryz.prog=true:=by kernel_rfl
theorem own:ownKnob Tryz.prog.godebug=none:=by kernel_rfl
theorem Sg{α:Type}{g:α→AV}{Q:α→Prop}:∀xs:List AV,(∀x∈xs,∃a,x=g a∧Q a)→∃l:List α,xs=l.map g∧∀a∈l,Q a
 |[],_=>⟨[],rfl,by simp⟩
 |x::xs,h=>by obtain⟨a,rfl,ha⟩:=h x (by simp);obtain⟨l,rfl,hl⟩:=Sg xs (fun y hy=>h y (by simp[hy]));exact⟨a::l,rfl,by simpa using⟨ha,hl⟩⟩
theorem j0w{d:Nat}{zs:List AV}(h:Shp T (d+1) 3 zs):∃n:Int,zs=[.i n]∧ -9223372036854775808≤n∧n≤9223372036854775807:=by simp only[Shp,T3,Ca]at h;obtain⟨n,rfl,h1,h2⟩:=h;exact⟨n,rfl,h1,h2⟩
theorem v1k{d:Nat}{zs:List AV}(h:Shp T (d+1) 4 zs):∃b:Bool,zs=[.bool b]:=by simp only[Shp,T4,Ca]at h;exact h
theorem j12{d:Nat}{xs:List AV}(h:Uv T d [] xs):xs=[]:=h
theorem g1i {l:List (String×DataW Unit)} {w:World} {name:String} {k:IntKind} {zs:List Int} {g:Nat} {t e:TypeId} {n:Nat} (h:laidMetH Tryz.prog l w) (hl:l.filter (fun x=>x.1==name)=[(name,Lib.tabData k zs)])
  (hg:Tryz.prog.globalNamed name=some g) (z1:(Tryz.prog.globals[g]?).map (·.type)=some t) (ht:Tryz.prog.underlying t=some (.array n e)) (he:Tryz.prog.underlying e=some (.int k)) (z6:Tryz.prog.cellsOf e=1) (z7:Tryz.prog.cellsOf t=n):
  g<w.heap.size∧∃t fr,w.heap[g]? =some (.cells (zs.map fun z=>Value.int k z).toArray t fr):=by
 have h1:=h.filter (fun x=>x.1==name);rw[hl]at h1;have h2:Lib.TabIs Tryz.prog w name k zs:=Lib.tabIs_of_head hg z1 ht he z6 z7 h1;unfold Lib.TabIs World.var? at h2;rw[hg]at h2;simp only[Option.bind_some]at h2;cases ho:w.heap[g]? with
 |none=>rw[ho]at h2;simp at h2
 |some o=>rw[ho]at h2;refine⟨(Array.getElem?_eq_some_iff.1 ho).1,?_⟩;cases o<;>simp at h2;rename_i cs t fr;exact⟨t,fr,by rw[h2]⟩
end Go.Abs
namespace Go.Abs
open Go Go.Proofs Go.RowKit Go.Proofs.YteghceocnldccaaGreatDoor
theorem y2c{d:Nat}{zs:List AV}(h:Shp T (d+2) 187 zs):∃v:Iv,zs=(encIv v).cells:=by simp only[Shp,Bk,T3,Ca,x1e,xE,wL]at h;obtain⟨_,_,rfl,⟨a,rfl,ha⟩,_,_,rfl,⟨b,rfl,hb⟩,rfl⟩:=h;exact⟨⟨a,b⟩,rfl⟩
theorem q2y{d:Nat}{zs:List AV}(h:Shp T (d+3) 171 zs):∃l:List Iv,zs=[encL l]:=by
 rw[Shp,H4]at h;simp only[Ca]at h;obtain⟨ei,xs,he,rfl,hl,hx⟩:=h;rw[Bk]at he;cases he;obtain⟨l,rfl,hq⟩:=Sg (g:=encIv) (Q:=fun _=>True) xs (fun x z1=>by
  obtain⟨zs,rfl,hz⟩:=hx x z1;obtain⟨v,rfl⟩:=y2c (d:=d) hz;exact⟨v,rfl,trivial⟩)
 exact⟨l,rfl⟩
theorem c17{d:Nat}{zs:List AV}(h:Shp T (d+4) 74 zs):∃p:Prd,zs=[.list (p.map encL)]:=by
 rw[Shp,T74]at h;simp only[Ca]at h;obtain⟨ei,xs,he,rfl,hl,hx⟩:=h;rw[H4]at he;cases he;obtain⟨l,rfl,hq⟩:=Sg (g:=encL) (Q:=fun _=>True) xs (fun x z1=>by
  obtain⟨zs,rfl,hz⟩:=hx x z1;obtain⟨v,rfl⟩:=q2y (d:=d) hz;exact⟨v,rfl,trivial⟩)
 exact⟨l,rfl⟩
theorem f1p{d:Nat}{zs:List AV}(h:Shp T (d+5) 76 zs):∃p:Prd,zs=[.list (p.map encL)]:=by rw[Shp,T76]at h;simp only[Ca,x1e,xE,wL]at h;obtain⟨_,_,rfl,h1,rfl⟩:=h;obtain⟨p,rfl⟩:=c17 (d:=d) h1;exact⟨p,rfl⟩
theorem f1k{d:Nat}{zs:List AV}(h:Shp T (d+6) 78 zs):∃m:Mv,zs=(encMv m).cells:=by rw[Shp,T78]at h;simp only[Ca,x1e,xE,wL]at h;obtain⟨_,_,rfl,h1,_,_,rfl,h2,_,_,rfl,h3,rfl⟩:=h;obtain⟨a,rfl,_⟩:=j0w (d:=d+4) h1;obtain⟨b,rfl,_⟩:=j0w (d:=d+4) h2;obtain⟨p,rfl⟩:=f1p (d:=d) h3;exact⟨⟨a,b,p⟩,rfl⟩
theorem u1m{d:Nat}{zs:List AV}(h:Shp T (d+7) 23 zs):∃l:List Mv,zs=[.list (l.map encMv)]:=by
 rw[Shp,T23]at h;simp only[Ca]at h;obtain⟨ei,xs,he,rfl,hl,hx⟩:=h;rw[T78]at he;cases he;obtain⟨l,rfl,hq⟩:=Sg (g:=encMv) (Q:=fun _=>True) xs (fun x z1=>by
  obtain⟨zs,rfl,hz⟩:=hx x z1;obtain⟨v,rfl⟩:=f1k (d:=d) hz;exact⟨v,rfl,trivial⟩)
 exact⟨l,rfl⟩
theorem j1h{d:Nat}{zs:List AV}(h:Shp T (d+2) 22 zs):∃l:List Bool,zs=[.list (l.map .bool)]:=by
 rw[Shp,T22]at h;simp only[Ca]at h;obtain⟨ei,xs,he,rfl,hl,hx⟩:=h;rw[T4]at he;cases he;obtain⟨l,rfl,hq⟩:=Sg (g:=AV.bool) (Q:=fun _=>True) xs (fun x z1=>by
  obtain⟨zs,rfl,hz⟩:=hx x z1;obtain⟨v,rfl⟩:=v1k (d:=d) hz;exact⟨v,rfl,trivial⟩)
 exact⟨l,rfl⟩
theorem q2r{d:Nat}{zs:List AV}(h:Shp T (d+8) 25 zs):∃a:Aut,zs=(encA a).cells:=by rw[Shp,T25]at h;simp only[Ca,x1e,xE,wL]at h;obtain⟨_,_,rfl,h1,_,_,rfl,h2,_,_,rfl,h3,rfl⟩:=h;obtain⟨t,rfl,_⟩:=j0w (d:=d+6) h1;obtain⟨f,rfl⟩:=j1h (d:=d+5) h2;obtain⟨m,rfl⟩:=u1m (d:=d) h3;exact⟨⟨t,f,m⟩,rfl⟩
theorem q2c{d:Nat}{ts:List Nat}{xs:List AV}(h:Uv T (d+8) (25::ts) xs):∃(a:Aut) (r:List AV),xs=encA a::r∧Uv T (d+8) ts r:=by obtain⟨i,zs,r,hi,rfl,h1,h⟩:=h;rw[T25]at hi;cases hi;obtain⟨a,rfl⟩:=q2r (d:=d) h1;exact⟨a,r,rfl,h⟩
theorem y2g{d:Nat}{zs:List AV}(h:Shp T (d+2) 53 zs):∃x:Sy,zs=(encSy x).cells:=by simp only[Shp,T53,T3,Ca,x1e,xE,wL]at h;obtain⟨_,_,rfl,⟨a,rfl,ha⟩,_,_,rfl,⟨b,rfl,hb⟩,rfl⟩:=h;exact⟨⟨a,b⟩,rfl⟩
theorem c14{d:Nat}{ts:List Nat}{xs:List AV}(h:Uv T (d+3) (45::ts) xs):∃(w:List Sy) (r:List AV),xs= .list (w.map encSy)::r∧Uv T (d+3) ts r:=by
 obtain⟨i,zs,r,hi,rfl,h1,h⟩:=h;rw[T45]at hi;cases hi;rw[Shp,T45]at h1;simp only[Ca]at h1;obtain⟨ei,xs,he,rfl,hl,hx⟩:=h1;rw[T53]at he;cases he;obtain⟨l,rfl,hq⟩:=Sg (g:=encSy) (Q:=fun _=>True) xs (fun x z1=>by
  obtain⟨zs,rfl,hz⟩:=hx x z1;obtain⟨v,rfl⟩:=y2g (d:=d) hz;exact⟨v,rfl,trivial⟩)
 exact⟨l,r,rfl,h⟩
theorem q2b {l:List (String×DataW Unit)} {w:World} (h:laidMetH Tryz.prog l w) (hl:l.filter (fun x=>x.1== "internal/strconv.uint64pow10")=[("internal/strconv.uint64pow10",Lib.tabData .u64 Lib.pow10Tab)]):EOK Tryz.prog w (·<w.heap.size):=fun g pr hm=>by
 have e:=zP.1 hm
 cases e
 obtain⟨h1,t,fr,h2⟩:=g1i (t:=300) (e:=250) (n:=20) h hl (by kernel_rfl) (by kernel_rfl) (by kernel_rfl) (by kernel_rfl) (by kernel_rfl) (by kernel_rfl)
 exact⟨h1,_,t,fr,rfl,h2⟩
end Go.Abs
