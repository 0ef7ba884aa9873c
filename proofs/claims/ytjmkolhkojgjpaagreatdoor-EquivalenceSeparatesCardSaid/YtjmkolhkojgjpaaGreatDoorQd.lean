/- Part Qd of the proof: an abstract machine over the model, and what the functions of the program hand back in its terms. No condition. -/
import Derived.Test.YtjmkolhkojgjpaaGreatDoorQc
import Derived.Test.YtjmkolhkojgjpaaGreatDoorQb
set_option linter.all false
open List renaming eq_nil_or_concat→wp,concat_eq_append→ws,getLast?_append→uK,getLast?_singleton→uy,dropLast_concat→uL,mem_append→zO,foldl_cons→xG,length_cons→yE,length_take→xB,take_succ_eq_append_getElem→zL,take_of_length_le→zI,map_take→yR,map_drop→yS,take_length→zZ,take_append_drop→xM,mem_cons→zU,getElem?_append_right→zC,getElem_of_mem→yC,getElem_mem→zG,any_eq_true→xN,any_eq_false→wd,replicate→zT,cons_append→vB,length_filter_le→wU,perm_middle→vu,pairwise_append→zY,pairwise_cons→z_,pairwise_iff_getElem→yD,getElem_take→t6,pairwise_mergeSort→vS,mem_mergeSort→uW,mem_flatMap→xL,mem_filterMap→wM,countP_cons→wR,countP_eq_zero→uQ,map_cons→yO,sum_cons→uv,getElem?_eq_some_iff→zA,mem_of_getElem?→zF,getElem?_eq_getElem→zD,perm_ext_iff_of_nodup→un,zipWith→tC,getElem?_replicate→vw,eq_of_mem_replicate→wV,getElem?_zipWith→wO,mem_iff_getElem?→yF,getElem?_map→zQ,all_eq_true→zP,mem_singleton→zJ,pairwise_flatMap→vT,range→yA,getD→yQ,getElem?_set_self→zH,getElem?_set_ne→zB,mem_cons_of_mem→uM,map_congr_left→xU,mem_map→zM,mem_range→yM,pairwise_map→xR,mem_filter→wC,mem_append_left→xC,findIdx?_eq_some_iff_getElem→xS,getElem_inj→ue,getElem?_append_left→zE,eq_nil_iff_forall_not_mem→wK
open Option renaming some_or→tf,map_eq_some_iff→zN
open Nat renaming le_refl→zK,le_trans→yP,lt_trichotomy→vY,lt_or_gt_of_ne→uf
open Bool renaming eq_iff_iff→yX,not_eq_true→uo
open Int renaming le_refl→yJ,lt_trichotomy→tg
set_option maxHeartbeats 2000000
set_option linter.unusedSimpArgs false
set_option maxRecDepth 100000
namespace Go.Abs
open Go Go.Proofs
def w2o:List Iv→Int
 |[]=>0
 |x::r=>if(Sr x != 0)=true then Sr x else w2o r
def Wc(acc l:List Iv):List Iv:=l.foldl Ej acc
def f0p(l:List Iv):Int:=if decide ((256:Int)<l.length)=true then 5 else w2o l
def x2h(l:List Iv)(r:AV):Prop:=(f0p l≠0∧r= .tup [.list [],.i (f0p l)])∨(f0p l=0∧l.length≤256∧w2o l=0∧∃l':List Iv,l'.Perm l∧Bp l'∧r= .tup [LIv (Wc [] l'),.i 0])
theorem Cz{x:Iv}(h:Sr x=0):O0 x∧x.lo≤x.hi:=by
 unfold Sr at h;by_cases h1:(!inB x.lo || !inB x.hi)=true
 ·rw[if_pos h1]at h;cases h
 ·rw[if_neg h1]at h;by_cases h2:decide (x.hi<x.lo)=true
  ·rw[if_pos h2]at h;cases h
  ·exact⟨by simpa[O0]using h1,by simpa using h2⟩
theorem j15{acc:List Iv}{x:Iv}(ha:∀y∈acc,O0 y)(hx:O0 x):∀y∈Ej acc x,O0 y:=by
 rcases wp acc with rfl|⟨ini,z,rfl⟩
 ·simpa[Ej]using hx
 ·have hz:=ha z (by simp);have hi:∀y∈ini,O0 y:=fun y hy=>ha y (by simp[hy]);intro y hy;simp only[Ej,ws,uK,uy,tf,uL]at hy;split at hy
  ·rcases zO.1 hy with h|h
   ·exact hi y h
   ·simp at h;subst h;refine⟨hz.1,?_⟩;simp only;split
    ·exact hx.2
    ·exact hz.2
  ·rcases zO.1 hy with h|h
   ·rcases zO.1 h with h|h
    ·exact hi y h
    ·simp at h;subst h;exact hz
   ·simp at h;subst h;exact hx
theorem q1a(acc:List Iv)(x:Iv):(Ej acc x).length≤acc.length+1:=by
 rcases wp acc with rfl|⟨ini,z,rfl⟩
 ·simp[Ej]
 ·simp only[Ej,ws,uK,uy,tf,uL];split<;>simp
theorem Pc(acc l:List Iv)(x:Iv):Wc acc (l++[x])=Ej (Wc acc l) x:=by simp[Wc]
theorem Ti:∀(l acc:List Iv),(Wc acc l).length≤acc.length+l.length
 |[],acc=>by simp[Wc]
 |x::r,acc=>by have:=Ti r (Ej acc x);have:=q1a acc x;simp only[Wc,xG,yE]at *;omega
theorem P7:∀(l acc:List Iv),(∀y∈acc,O0 y)→(∀y∈l,O0 y)→∀y∈Wc acc l,O0 y
 |[],acc,h,_=>by simpa[Wc]using h
 |x::r,acc,h,hl=>P7 r (Ej acc x) (j15 h (hl x (by simp))) (fun y hy=>hl y (by simp[hy]))
attribute [local irreducible] Sr
end Go.Abs
namespace Go.Abs
open Go Go.Proofs
def f1u(s:List Iv)(j:Nat)(x:Iv):Bool:=match s[j]? with|some y=>decide (x.lo<y.lo)|none=>false
def Yg(s:List Iv)(x:Iv):Nat→Nat
 |0=>0
 |j+1=>if f1u s j x=true then Yg s x j else j+1
def Xf(s:List Iv)(x:Iv):List Iv:=s.take (Yg s x s.length)++x::s.drop (Yg s x s.length)
def Re(l:List Iv):List Iv:=l.foldl Xf []
theorem Gs(s:List Iv)(x:Iv):∀j,Yg s x j≤j
 |0=>zK _
 |j+1=>by
  rw[Yg];split
  ·exact Nat.le_succ_of_le (Gs s x j)
  ·exact zK _
theorem w18(s:List Iv)(x:Iv):(Xf s x).length=s.length+1:=by have:=Gs s x s.length;simp[Xf];omega
theorem y0a(l:List Iv)(x:Iv):Re (l++[x])=Xf (Re l) x:=by simp[Re]
theorem Js:∀(l acc:List Iv),(l.foldl Xf acc).length=acc.length+l.length
 |[],acc=>by simp
 |x::r,acc=>by rw[xG,Js r,w18,yE];omega
theorem Ho(l:List Iv):(Re l).length=l.length:=by rw[Re,Js];simp
theorem v0s(l:List Iv)(hl:l.length≤1000000000):PC Tryz.prog 297 [LIv l] (fun r=>r=LIv (Re l)):=by
 refine Qs tOk Tryz.func297 rfl Tryz.results297 rfl (by simp[Tryz.ntmps297]) ?_;rw[Tryz.ntmps297];simp only[Qp];repeat first|(refine r_ ?_;simp)|refine q_ ?_
 refine B1 3 rfl ?_;simp;refine Q4 l.length (fun _=>True) (fun j=>[(0,LIv l),(3,LIv (Re (l.take j))),(4,.i j)]) (fun _=>[]) rfl (by simp) (by simp[Re]) (by simp) (by simp) trivial ?_;intro j hj _ ih;obtain⟨s,hs⟩:∃s,Re (l.take j)=s:=⟨_,rfl⟩
 have zj:s.length=j:=by rw[←hs,Ho,xB];omega
 rw[hs];repeat first|(refine r_ ?_;simp)|refine q_ ?_
 refine Ql rfl (fun zd=> ?_) (fun ze=> ?_)
 ·have z1:j<l.length:=by simpa using zd
  have hw:IntKind.i64.wrap ((j:Int)+1)=j+1:=wrap_i64 _ (by omega) (by omega);have za:Re (l.take (j+1))=Xf s l[j]:=by rw[zL z1,y0a,hs]
  repeat first|(refine r_ ?_;simp)|refine q_ ?_
  obtain⟨q,hq⟩:∃q,Yg s l[j] s.length=q:=⟨_,rfl⟩
  refine Qx (Qm (sl':=[(0,LIv l),(3,LIv s),(4,.i j),(5,.i s.length)]) ?_ (by simp));refine Qw (F:=fun(u:Nat)=>⟨[(0,LIv l),(3,LIv s),(4,.i j),(5,.i u)],[]⟩) (fun u=>u≤s.length∧Yg s l[j] u=q) (fun u=>u) ?_ s.length ⟨zK _,hq⟩;rintro u ⟨hu,hI⟩ ih2;repeat first|(refine r_ ?_;simp)|refine q_ ?_
  rcases u with _|u
  ·have zf:IntKind.i64.wrap (-1)= -1:=by decide
   refine Qy tOk mixed [] (.val 0 (.val 1 (.val 2 (.val 3 (.val 4 (.val 5 (.val 6 (.val 7 (.val 8 (.val 9 (.val 10 (.val 11 (.val 12 (.val 13 (.val 14 (.val 15 (.done))))))))))))))))) rfl (by kernel_rfl) ?_;simp[zf,z1];refine Q1 rfl ?_;repeat first|(refine r_ ?_;simp)|refine q_ ?_
   have zg:q=0:=hI.symm;subst zg;refine Qq tOk rfl rfl Ps rfl Hi rfl (by decide) (by decide) rfl rfl rfl ?_;simp[z1];refine⟨by simp[W4,z1]<;>omega,?_⟩;repeat first|(refine r_ ?_;simp[z1,z1])|refine q_ ?_
   refine Qq tOk rfl rfl Ps rfl Hi rfl (by decide) (by decide) rfl rfl rfl ?_;simp[z1];refine⟨by simp[W4,z1]<;>omega,?_⟩;repeat first|(refine r_ ?_;simp[z1,z1])|refine q_ ?_
   refine Qq tOk rfl rfl Ps rfl Hi rfl (by decide) (by decide) rfl rfl rfl ?_;simp[z1];refine⟨by simp[W4,z1]<;>omega,?_⟩;repeat first|(refine r_ ?_;simp[z1,hw])|refine q_ ?_
   refine Dd 4 rfl ?_;simp[z1];refine Q3 _ (ih z1 trivial) rfl (by simp) ?_ (by simp) (by simp);rw[za];simp;rw[zI (by simp;omega)];rw[if_pos (by omega)]
   subst_vars
   simp[Xf, *]
  ·have zb:u<s.length:=by omega
   have zc:IntKind.i64.wrap (u:Int)=u:=wrap_i64 _ (by omega) (by omega);have zh:(u:Int)<s.length:=by omega
   have zi:f1u s u l[j]=decide (l[j].lo<s[u].lo):=by simp[f1u,zb]
   rw[Yg,zi]at hI;refine Qy tOk mixed [] (.val 0 (.val 1 (.val 2 (.val 3 (.val 4 (.val 5 (.val 6 (.val 7 (.val 8 (.val 9 (.val 10 (.val 11 (.val 12 (.val 13 (.val 14 (.val 15 (.done))))))))))))))))) rfl (by kernel_rfl) ?_;simp[zb,z1,zc,zh];refine Ql rfl (fun h1=> ?_) (fun h1=> ?_)
   ·rw[if_pos h1]at hI;repeat first|(refine r_ ?_;simp[zc])|refine q_ ?_
    exact Qm (sl':=[(0,LIv l),(3,LIv s),(4,.i j),(5,.i u)]) (ih2 u ⟨by omega,hI⟩ (by omega)) (by simp)
   ·rw[if_neg (by simpa using h1)]at hI;have z6:(u:Int)+1≤s.length:=by omega
    have z7:(0:Int)≤(u:Int)+1:=by omega
    repeat first|(refine r_ ?_;simp[z6,z7])|refine q_ ?_
    refine Qq tOk rfl rfl Ps rfl Hi rfl (by decide) (by decide) rfl rfl rfl ?_;simp[z6,z7,-yR,←yR,-yS,←yS];refine⟨by simp[W4,z6,z7,-yR,←yR,-yS,←yS]<;>omega,?_⟩;repeat first|(refine r_ ?_;simp[z1,z6,z7,-yR,←yR,-yS,←yS])|refine q_ ?_
    refine Qq tOk rfl rfl Ps rfl Hi rfl (by decide) (by decide) rfl rfl rfl ?_;simp[z6,z7,-yR,←yR,-yS,←yS];refine⟨by simp[W4,z6,z7,-yR,←yR,-yS,←yS]<;>omega,?_⟩;repeat first|(refine r_ ?_;simp[z1,z6,z7,-yR,←yR,-yS,←yS])|refine q_ ?_
    refine Qq tOk rfl rfl Ps rfl Hi rfl (by decide) (by decide) rfl rfl rfl ?_;simp[z6,z7,-yR,←yR,-yS,←yS];refine⟨by simp[W4,z6,z7,-yR,←yR,-yS,←yS]<;>omega,?_⟩;repeat first|(refine r_ ?_;simp[z6,z7,-yR,←yR,-yS,←yS,hw])|refine q_ ?_
    refine Dd 4 rfl ?_;simp[z6,z7,-yR,←yR,-yS,←yS];refine Q3 _ (ih z1 trivial) rfl (by simp) ?_ (by simp) (by simp);rw[za];simp;rw[zI (by simp;omega)];rw[if_pos (by omega)]
    subst_vars
    simp[Xf, *]
 ·have z8:j=l.length:=by simp at ze;omega
  subst z8;repeat first|(refine r_ ?_;simp)|refine q_ ?_
  rw[←hs,zZ]
end Go.Abs
namespace Go.Abs
open Go Go.Proofs
def Eo(l:List Iv):List Iv:=Wc [] (Re l)
theorem Eu(ini:List Iv)(y x:Iv):Ej (ini++[y]) x=if x.lo≤y.hi+1 then ini++[⟨y.lo,if y.hi<x.hi then x.hi else y.hi⟩]else ini++[y]++[x]:=by simp[Ej]
theorem q1w(s:List Iv)(x y:Iv):y∈Xf s x↔y=x∨y∈s:=by
 have:(s.take (Yg s x s.length)++s.drop (Yg s x s.length))=s:=xM _ _;rw[Xf,zO,zU]
 conv=>rhs;rw[←this,zO]
 constructor<;>rintro(h|h|h)<;>simp[h]
theorem Ki:∀(l acc:List Iv) (y:Iv),y∈l.foldl Xf acc↔y∈acc∨y∈l
 |[],acc,y=>by simp
 |x::r,acc,y=>by
  rw[xG,Ki r,q1w,zU];constructor
  ·rintro((h|h)|h)<;>simp[h]
  ·rintro(h|h|h)<;>simp[h]
theorem u0i(l:List Iv)(y:Iv):y∈Re l↔y∈l:=by rw[Re,Ki];simp
attribute [local irreducible] Re
theorem Vt(l:List Iv)(hl:l.length≤1000000000)(zk:∀y∈l,O0 y):PC Tryz.prog 250 [LIv l] (fun r=>r=LIv (Eo l)):=by
 refine Qs tOk Tryz.func250 rfl Tryz.results250 rfl (by simp[Tryz.ntmps250]) ?_;rw[Tryz.ntmps250];simp only[Qp];repeat first|(refine r_ ?_;simp)|refine q_ ?_
 refine Qo rfl rfl (by simp) (v0s l hl) rfl ?_;rintro _ rfl;simp;repeat first|(refine r_ ?_;simp)|refine q_ ?_
 have hl':(Re l).length≤1000000000:=by rw[Ho];exact hl
 have z8:∀y∈Re l,O0 y:=fun y hy=>zk y ((u0i l y).1 hy);unfold Eo;generalize Re l=s at hl' z8 ⊢;refine Wg 4 144 2 rfl ?_;simp;refine Qx (Qm (sl':=[(3,LIv s),(4,.sl 0 2 0 0),(5,.i 0)]) ?_ (by simp));refine Qw (F:=fun(u:Nat×Nat×List AObj)=>⟨[(3,LIv s),(4,.sl u.2.1 2 0 (Wc [] (s.take u.1)).length),(5,.i u.1)],u.2.2⟩)
  (fun u=>u.1≤s.length∧u.2.2[u.2.1]? =some (.arr 144 2 ((Wc [] (s.take u.1)).map encIv))) (fun u=>s.length - u.1) ?_ (0,0,[.arr 144 2 []]) ⟨by simp,rfl⟩
 rintro⟨j,q,H2⟩ ⟨hj,g1⟩ ih;simp only at hj g1 ih ⊢;repeat first|(refine r_ ?_;simp)|refine q_ ?_
 refine Ql rfl (fun zl=> ?_) (fun zm=> ?_)
 ·have z1:j<s.length:=by simpa using zl
  have hw:IntKind.i64.wrap ((j:Int)+1)=j+1:=wrap_i64 _ (by omega) (by omega);have zc:(Wc [] (s.take j)).length≤1000000000:=yP (Ti _ _) (by simp;omega);have zd:∀y∈Wc [] (s.take j),O0 y:=P7 _ _ (by simp) (fun y hy=>z8 y (List.mem_of_mem_take hy));have zh:Wc [] (s.take (j+1))=Ej (Wc [] (s.take j)) s[j]:=by rw[zL z1,Pc]
  have z6:∀(q':Nat) (H':List AObj),H'[q']? =some (.arr 144 2 ((Ej (Wc [] (s.take j)) s[j]).map encIv))→_:=fun q' H' h=>ih (j+1,q',H') ⟨by simp;omega,by rw[zh];exact h⟩ (by simp;omega);clear ih;simp only[zh]at z6;generalize Wc [] (s.take j)=acc at g1 zc zd z6 ⊢;repeat first|(refine r_ ?_;simp)|refine q_ ?_
  rcases wp acc with rfl|⟨ini,y,rfl⟩
  ·have zi:IntKind.i64.wrap (-1)= -1:=by decide
   repeat first|(refine r_ ?_;simp[zi])|refine q_ ?_
   refine Qy tOk mixed [] (.val 0 (.val 1 (.val 2 (.val 3 (.val 4 (.val 5 (.val 6 (.val 7 (.val 8 (.val 9 (.val 10 (.val 11 (.val 12 (.val 13 (.val 14 (.val 15 (.done))))))))))))))))) rfl (by kernel_rfl) ?_;simp[zi,z1,g1];refine Q1 rfl ?_;simp;repeat first|(refine r_ ?_;simp[z1,g1])|refine q_ ?_
   refine Qq tOk rfl rfl Ps rfl Hi rfl (by decide) (by decide) rfl rfl rfl ?_;simp[Qn g1,Qu g1];refine⟨by simp[W4,Qn g1,Qu g1]<;>omega,?_⟩;repeat first|(refine r_ ?_;simp[hw])|refine q_ ?_
   exact Qm (sl':=[(3,LIv s),(4,.sl (H2.length+1) 2 0 1),(5,.i (j+1:Nat))]) (z6 (H2.length+1) _ (by rw[zC (by simp)];simp[Ej])) (by simp)
  ·have hy:=zd y (by simp);have zn:=(Et _).1 hy.2;have zj:IntKind.i64.wrap (y.hi+1)=y.hi+1:=wrap_i64 _ (by omega) (by omega);rw[ws]at g1 zc zd z6 ⊢;have hlen:(ini++[y]).length=ini.length+1:=by simp
   rw[hlen]at zc ⊢;have zb:IntKind.i64.wrap (ini.length:Int)=ini.length:=wrap_i64 _ (by omega) (by omega);have hg:((ini++[y]).map encIv)[ini.length]? =some (encIv y):=by simp
   have z7:(ini.length:Int)<ini.length+1:=by omega
   repeat first|(refine r_ ?_;simp[zb])|refine q_ ?_
   have za:¬((ini.length:Int)<0):=by omega
   refine Qy tOk mixed [] (.val 0 (.val 1 (.val 2 (.val 3 (.val 4 (.val 5 (.val 6 (.val 7 (.val 8 (.val 9 (.val 10 (.val 11 (.val 12 (.val 13 (.val 14 (.val 15 (.done))))))))))))))))) rfl (by kernel_rfl) ?_;simp[z1,g1,zb,hg,zj,z7,za];rw[Eu]at z6;refine Ql rfl (fun h1=> ?_) (fun h1=> ?_)
   ·have ze:¬(s[j].lo≤y.hi+1):=by simp at h1;omega
    rw[if_neg ze]at z6;repeat first|(refine r_ ?_;simp[z1,g1])|refine q_ ?_
    refine Qq tOk rfl rfl Ps rfl Hi rfl (by decide) (by decide) rfl rfl rfl ?_;simp[Qn g1,Qu g1];refine⟨by simp[W4,Qn g1,Qu g1]<;>omega,?_⟩;repeat first|(refine r_ ?_;simp[hw])|refine q_ ?_
    exact Qm (sl':=[(3,LIv s),(4,.sl (H2.length+1) 2 0 (ini.length+1+1)),(5,.i (j+1:Nat))]) (by
     have:=z6 (H2.length+1) (H2.set q .dead++[.arr 144 2 [encIv s[j]],.arr 144 2 ((ini++[y]++[s[j]]).map encIv)]) (by rw[zC (by simp)];simp);simpa using this) (by simp)
   ·have ze:s[j].lo≤y.hi+1:=by simp at h1;omega
    rw[if_pos ze]at z6;repeat first|(refine r_ ?_;simp)|refine q_ ?_
    refine Qy tOk mixed [] (.val 0 (.val 1 (.val 2 (.val 3 (.val 4 (.val 5 (.val 6 (.val 7 (.val 8 (.val 9 (.val 10 (.done)))))))))))) rfl (by kernel_rfl) ?_;simp[z1,g1,zb,hg,zj,z7,za];refine Ql rfl (fun h2=> ?_) (fun h2=> ?_)
    ·have zf:y.hi<s[j].hi:=by simpa using h2
     rw[if_pos zf]at z6;repeat first|(refine r_ ?_;simp[z1,g1,hg,zb,z7,hw])|refine q_ ?_
     exact Qm (sl':=[(3,LIv s),(4,.sl q 2 0 (ini.length+1)),(5,.i (j+1:Nat))]) (by
      have:=z6 q (H2.set q (.arr 144 2 ((ini++[(⟨y.lo,s[j].hi⟩:Iv)]).map encIv))) (Qz g1 _);simpa using this) (by simp)
    ·have zf:¬(y.hi<s[j].hi):=by simpa using h2
     rw[if_neg zf]at z6;repeat first|(refine r_ ?_;simp[hw])|refine q_ ?_
     exact Qm (sl':=[(3,LIv s),(4,.sl q 2 0 (ini.length+1)),(5,.i (j+1:Nat))]) (by
      have:=z6 q H2 g1;simpa using this) (by simp)
 ·have zg:j=s.length:=by simp at zm;omega
  subst zg;rw[zZ]at g1;repeat first|(refine r_ ?_;simp[g1])|refine q_ ?_
  rw[zI (by simp)]
end Go.Abs
namespace Go.Abs
open Go Go.Proofs
attribute [local irreducible] Eo
def y2r(l:List Iv):AV:=if f0p l=0 then .tup [LIv (Eo l),.i 0]else .tup [.list [],.i (f0p l)]
attribute [local irreducible] Sr
theorem q2d(l:List Iv):PC Tryz.prog 144 [LIv l] (fun r=>r= .bool (decide ((l.length:Int)≤12))):=by refine Qs tOk Tryz.func144 rfl Tryz.results144 rfl (by simp[Tryz.ntmps144]) ?_;rw[Tryz.ntmps144];simp only[Qp];repeat first|(refine r_ ?_;simp)|refine q_ ?_
end Go.Abs
namespace Go.Abs
open Go Go.Proofs
attribute [simp] T68
@[simp] def encL (l:List Iv):AV:= .list (l.map encIv)
def w2d(l:List Iv):Bool:= !((decide ((12:Int)<l.length) && decide ((l.length:Int)≤254)) || decide ((258:Int)<l.length))
def v2t(ls:List (List Iv)):Bool:=ls.all w2d
def f1h(l:List Iv):Bool:=decide ((l.length:Int)≤12) && decide (ckR l=0)
def x2v(ls:List (List Iv)):Bool:=ls.all f1h
attribute [local irreducible] ckR
end Go.Abs
namespace Go.Abs
open Go Go.Proofs
structure CanonL (l:List Iv):Prop where
 len:l.length≤256
 one:∀y∈l,Sr y=0
 gap:∀j,∀h:j+1<l.length,l[j].hi+2≤l[j+1].lo
theorem Vw{l:List Iv}{j:Nat}{x:Iv}(h:j<l.length)(hi:O0 l[j]):f0u l (j+1) x=decide (x.lo<l[j].hi+2):=by have h1:=(Et _).1 hi.2;have:W (l[j].hi+2)=l[j].hi+2:=wrap_i64 _ (by omega) (by omega);simp[f0u,h,this]
theorem Gn(l:List Iv)(hl:l.length≤256):∀(n j:Nat),l.length - j=n→j≤l.length→(∀h:0<j,∀h':j - 1<l.length,Sr l[j - 1]=0)→(Ib l j (l.drop j)=0↔(∀i,j≤i→∀h:i<l.length,Sr l[i]=0)∧∀i,j≤i+1→∀h:i+1<l.length,l[i].hi+2≤l[i+1].lo)
 |0,j,hn,hj,_=>by
  have:j=l.length:=by omega
  subst this;rw[List.drop_length,Ib];exact⟨fun _=>⟨fun i h1 h2=>by omega,fun i h1 h2=>by omega⟩,fun _=>rfl⟩
 |n+1,j,hn,hj,hp=>by
  have z6:j<l.length:=by omega
  rw[W6 z6,Ib];by_cases h1:(Sr l[j] != 0)=true
  ·rw[if_pos h1];have z1:Sr l[j]≠0:=by simpa using h1
   exact⟨fun h=>absurd h z1,fun h=>absurd (h.1 j (zK _) z6) z1⟩
  ·rw[if_neg h1];have z1:Sr l[j]=0:=by simpa using h1
   have ih:=Gn l hl n (j+1) (by omega) (by omega) (fun _ _=>z1);by_cases h2:f0u l j l[j]=true
   ·rw[if_pos h2];refine⟨fun h=>(by cases h),fun h=> ?_⟩;rcases j with _|j
    ·simp[f0u]at h2
    ·have hq:Sr l[j]=0:=hp (by omega) (by simp;omega);rw[Vw (by omega) (Cz hq).1]at h2;have:=h.2 j (zK _) z6;simp at h2;omega
   ·rw[if_neg h2,ih];constructor
    ·rintro⟨a,b⟩;refine⟨fun i hi h=> ?_,fun i hi h=> ?_⟩
     ·by_cases e:i=j
      ·subst e;exact z1
      ·exact a i (by omega) h
     ·by_cases e:j=i+1
      ·subst e;have hq:Sr l[i]=0:=hp (by omega) (by simp;omega);rw[Vw (by omega) (Cz hq).1]at h2;simp at h2;exact h2
      ·exact b i (by omega) h
    ·rintro⟨a,b⟩;exact⟨fun i hi h=>a i (by omega) h,fun i hi h=>b i (by omega) h⟩
theorem C7(l:List Iv):ckR l=0↔CanonL l:=by
 rw[ckR];by_cases h:decide ((256:Int)<l.length)=true
 ·rw[if_pos h];simp at h;exact⟨fun e=>(by cases e),fun e=>(by have:=e.len;omega)⟩
 ·rw[if_neg h];simp at h;have hl:l.length≤256:=by omega
  have:=Gn l hl l.length 0 rfl (Nat.zero_le _) (fun h=>by omega);rw[List.drop_zero]at this;rw[this];constructor
  ·rintro⟨a,b⟩;refine⟨hl,fun y hy=> ?_,fun j h=>b j (by omega) h⟩;obtain⟨i,hi,rfl⟩:=yC hy;exact a i (by omega) hi
  ·rintro⟨_,a,b⟩;exact⟨fun i _ h=>a _ (zG h),fun i _ h=>b i h⟩
theorem CanonL.iv{l:List Iv}(h:CanonL l){j:Nat}(hj:j<l.length): -1099511627776≤l[j].lo∧l[j].lo≤l[j].hi∧l[j].hi≤1099511627776:=by obtain⟨⟨h1,h2⟩,h3⟩:=Cz (h.one _ (zG hj));have:=(Et _).1 h1;have:=(Et _).1 h2;omega
def z2h:List Iv→Int
 |[]=>0
 |x::r=>(x.hi - x.lo+1)+z2h r
attribute [local irreducible] ckR
end Go.Abs
namespace Go.Abs
open Go Go.Proofs
attribute [local irreducible] ckR
def y0u(a b:List Iv):Int:=if ckR a=0 then ckR b else ckR a
def x2q(l:List Iv):AV:=if l.length≤256 then .tup [LIv l,.i 0]else .tup [.list [],.i 5]
def x1v:List Iv→Int→Int×Int
 |[],_=>(0,2)
 |x::r,i=>if i<x.hi - x.lo+1 then(x.lo+i,0)else x1v r (i - (x.hi - x.lo+1))
def atR(l:List Iv)(i:Int):Int×Int:=if ckR l=0 then(if i<0 then(0,2)else x1v l i)else(0,ckR l)
def q05(x:Iv)(n:Int):Int:=if x.hi<n then -1 else if n<x.lo then 1 else 0
theorem f0v(x:Iv)(n:Int):PC Tryz.prog 222 [encIv x,.i n] (fun r=>r= .i (q05 x n)):=by
 refine Qs tOk Tryz.func222 rfl Tryz.results222 rfl (by simp[Tryz.ntmps222]) ?_;rw[Tryz.ntmps222];simp only[Qp];simp only[encIv];repeat first|(refine r_ ?_;simp)|refine q_ ?_
 refine Ql rfl (fun h=> ?_) (fun h=> ?_)
 ·repeat first|(refine r_ ?_;simp)|refine q_ ?_
  rw[q05,if_pos (by simpa using h)]
 repeat first|(refine r_ ?_;simp)|refine q_ ?_
 refine Ql rfl (fun h2=> ?_) (fun h2=> ?_)
 ·repeat first|(refine r_ ?_;simp)|refine q_ ?_
  rw[q05,if_neg (by simpa using h),if_pos (by simpa using h2)]
 repeat first|(refine r_ ?_;simp)|refine q_ ?_
 rw[q05,if_neg (by simpa using h),if_neg (by simpa using h2)]
def O1(l:List Iv)(n:Int):Bool:=l.any fun x=>decide (x.lo≤n) && decide (n≤x.hi)
theorem Ou{l:List Iv}(hc:CanonL l):∀ {i j:Nat},i<j→∀(hj:j<l.length),∀(hi:i<l.length),l[i].hi+2≤l[j].lo:=by
 intro i j z1 hj hi;obtain⟨d,rfl⟩:∃d,j=i+1+d:=⟨j - (i+1),by omega⟩
 induction d with
 |zero=>exact hc.gap i hj
 |succ d ih=>
  have h1:=ih (by omega) (by omega);have h2:=hc.gap (i+1+d) (by omega);have h3:=hc.iv (show i+1+d<l.length by omega);have h4:i+1+(d+1)=i+1+d+1:=by omega
  simp only[h4];omega
theorem Hv(x:Iv)(n:Int):q05 x n<0↔x.hi<n:=by
 unfold q05;by_cases h:x.hi<n
 ·rw[if_pos h];simp[h]
 ·rw[if_neg h];by_cases h2:n<x.lo
  ·rw[if_pos h2];simp[h]
  ·rw[if_neg h2];simp[h]
theorem q1t(x:Iv)(n:Int):q05 x n=0↔x.lo≤n∧n≤x.hi:=by
 unfold q05;by_cases h:x.hi<n
 ·rw[if_pos h];constructor<;>intro h'<;>omega
 ·rw[if_neg h];by_cases h2:n<x.lo
  ·rw[if_pos h2];constructor<;>intro h'<;>omega
  ·rw[if_neg h2];constructor<;>intro h'<;>omega
theorem c1l{i j m:Nat}(hm:(i+j) / 2=m)(h:i+j≤1000000000):IntKind.i64.wrap ((IntKind.u64.wrap ((i:Int)+j)).fdiv (2 ^ min 1 IntKind.u64.bits))=m:=by
 have h1:IntKind.u64.wrap ((i:Int)+j)=i+j:=by simp[IntKind.wrap,IntKind.bits,IntKind.signed];omega
 have h2:min 1 IntKind.u64.bits=1:=by decide
 rw[h1,h2,Int.fdiv_eq_ediv_of_nonneg _ (by decide),wrap_i64 _ (by omega) (by omega)];omega
attribute [local irreducible] q05
theorem Xr(l:List Iv)(n:Int)(hc:CanonL l):PC Tryz.prog 221 [LIv l,.i n,.fn (.func 222) [] []] (fun r=>∃k:Int,r= .tup [.i k,.bool (O1 l n)]):=by
 refine Qs tOk Tryz.func221 rfl Tryz.results221 rfl (by simp[Tryz.ntmps221]) ?_;rw[Tryz.ntmps221];simp only[Qp];have hlen:=hc.len;repeat first|(refine r_ ?_;simp)|refine q_ ?_
 refine Qx (Qm (sl':=[(0,LIv l),(1,.i n),(2,.fn (.func 222) [] []),(8,.i l.length),(9,.i 0),(10,.i l.length)]) ?_ (by simp));refine Qw (F:=fun(u:Nat×Nat)=>⟨[(0,LIv l),(1,.i n),(2,.fn (.func 222) [] []),(8,.i l.length),(9,.i u.1),(10,.i u.2)],[]⟩) (fun u=>u.1≤u.2∧u.2≤l.length∧(∀k,k<u.1→∀hk:k<l.length,q05 l[k] n<0)∧(∀k,u.2≤k→∀hk:k<l.length,¬q05 l[k] n<0)) (fun u=>u.2 - u.1) ?_ (0,l.length) ⟨by simp,by simp,fun k hk=>by simp at hk,fun k hk z1=>by simp only at hk;omega⟩;rintro⟨i,j⟩ ⟨h1,h2,h3,h4⟩ ih;simp only at h1 h2 h3 h4 ih ⊢;repeat first|(refine r_ ?_;simp)|refine q_ ?_
 refine Ql rfl (fun zd=> ?_) (fun ze=> ?_)
 ·have zf:i<j:=by simpa using zd
  have hw:IntKind.i64.wrap ((i:Int)+j)=i+j:=wrap_i64 _ (by omega) (by omega);obtain⟨m,hm⟩:∃m,(i+j) / 2=m:=⟨_,rfl⟩
  have z8:IntKind.i64.wrap ((IntKind.u64.wrap ((i:Int)+j)).fdiv (2 ^ min 1 IntKind.u64.bits))=m:=c1l hm (by omega);have z6:m<l.length:=by omega
  have za:(m:Int)<l.length:=by omega
  have zg:IntKind.i64.wrap ((m:Int)+1)=m+1:=wrap_i64 _ (by omega) (by omega);repeat first|(refine r_ ?_;simp[hw,z8,z6,za])|refine q_ ?_
  refine Qo rfl rfl (by simp) (f0v l[m] n) rfl ?_;rintro _ rfl;simp;refine Ql rfl (fun h5=> ?_) (fun h5=> ?_)
  ·repeat first|(refine r_ ?_;simp[zg])|refine q_ ?_
   refine Qm (sl':=[(0,LIv l),(1,.i n),(2,.fn (.func 222) [] []),(8,.i l.length),(9,.i (m+1:Nat)),(10,.i j)]) (ih (m+1,j) ⟨by simp only;omega,h2,fun k hk z1=> ?_,h4⟩ (by simp only;omega)) (by simp);have zh:=hc.iv z1;have zi:=hc.iv z6;have z7:q05 l[m] n<0:=by simpa using h5
   by_cases e:k=m
   ·subst e;exact z7
   ·have:=Ou hc (show k<m by omega) z6 z1;rw[Hv]at z7 ⊢;omega
  ·repeat first|(refine r_ ?_;simp)|refine q_ ?_
   refine Qm (sl':=[(0,LIv l),(1,.i n),(2,.fn (.func 222) [] []),(8,.i l.length),(9,.i i),(10,.i m)]) (ih (i,m) ⟨by simp only;omega,by simp only;omega,h3,fun k hk z1=> ?_⟩ (by simp only;omega)) (by simp);have zh:=hc.iv z1;have zi:=hc.iv z6;have z7:¬q05 l[m] n<0:=by simpa using h5
   by_cases e:k=m
   ·subst e;exact z7
   ·have:=Ou hc (show m<k by omega) z1 z6;rw[Hv]at z7 ⊢;omega
 ·have zb:i=j:=by simp at ze;omega
  subst zb;by_cases hil:i<l.length
  ·repeat first|(refine r_ ?_;simp[hil])|refine q_ ?_
   refine Qo rfl rfl (by simp) (f0v l[i] n) rfl ?_;rintro _ rfl;simp;repeat first|(refine r_ ?_;simp)|refine q_ ?_
   have hh:O1 l n=(q05 l[i] n==0):=by
    rw[yX,beq_iff_eq,q1t,O1,xN];constructor
    ·rintro⟨x,hx,zc⟩;obtain⟨k,hk,rfl⟩:=yC hx;simp at zc;have e:k=i:=by
      by_cases e1:k<i
      ·have:=(Hv _ _).1 (h3 k e1 hk);omega
      ·by_cases e2:i<k
       ·have:=Ou hc e2 hk hil;have:¬l[i].hi<n:=fun e=>h4 i (zK _) hil ((Hv l[i] n).2 e);omega
       ·omega
     subst e;exact zc
    ·intro h;exact⟨l[i],zG hil,by simpa using h⟩
   rw[hh]
  ·repeat first|(refine r_ ?_;simp[hil])|refine q_ ?_
   refine Wm rfl rfl ?_;simp;repeat first|(refine r_ ?_;simp)|refine q_ ?_
   have hh:O1 l n=false:=by rw[O1,wd];intro x hx;obtain⟨k,hk,rfl⟩:=yC hx;have:=(Hv _ _).1 (h3 k (by omega) hk);simp;intro _;omega
   rw[hh]
theorem q2v(l:List Iv)(n:Int)(hc:CanonL l):PC Tryz.prog 165 [LIv l,.i n] (fun r=>r= .bool (O1 l n)):=by
 refine Qs tOk Tryz.func165 rfl Tryz.results165 rfl (by simp[Tryz.ntmps165]) ?_;rw[Tryz.ntmps165];simp only[Qp];repeat first|(refine r_ ?_;simp)|refine q_ ?_
 refine Qo rfl rfl (by simp) (Xr l n hc) rfl ?_;rintro _ ⟨k,rfl⟩;simp;repeat first|(refine r_ ?_;simp)|refine q_ ?_
attribute [local irreducible] O1
def y1a(l:List Iv)(n:Int):Bool×Int:=if ckR l=0 then(O1 l n,0)else(false,ckR l)
theorem G8(l:List Iv)(n:Int):PC Tryz.prog 103 [LIv l,.i n] (fun r=>r= .tup [.bool (y1a l n).1,.i (y1a l n).2]):=by
 refine Qs tOk Tryz.func103 rfl Tryz.results103 rfl (by simp[Tryz.ntmps103]) ?_;rw[Tryz.ntmps103];simp only[Qp];repeat first|(refine r_ ?_;simp)|refine q_ ?_
 refine Qo rfl rfl (by simp) (q0r l) rfl ?_;rintro _ rfl;simp;repeat first|(refine r_ ?_;simp)|refine q_ ?_
 refine Ql rfl (fun h=> ?_) (fun h=> ?_)
 ·repeat first|(refine r_ ?_;simp)|refine q_ ?_
  rw[y1a,if_neg (by simpa using h)];exact⟨rfl,rfl⟩
 have h0:ckR l=0:=by simpa using h
 repeat first|(refine r_ ?_;simp)|refine q_ ?_
 refine Qo rfl rfl (by simp) (q2v l n ((C7 l).1 h0)) rfl ?_;rintro _ rfl;simp;repeat first|(refine r_ ?_;simp)|refine q_ ?_
 rw[y1a,if_pos h0];exact⟨rfl,rfl⟩
end Go.Abs
namespace Go.Abs
open Go Go.Proofs
attribute [local irreducible] ckR
def q28(d:Int)(x:Iv):Option Iv:=
 let a:=if x.lo+d< -1099511627776 then -1099511627776 else x.lo+d
 let b:=if 1099511627776<x.hi+d then 1099511627776 else x.hi+d
 if a≤b then some ⟨a,b⟩else none
def y2z(l:List Iv)(d:Int):List Iv×Int:=if ckR l=0 then(if d< -2199023255552∨2199023255552<d then([],0)else(l.filterMap (q28 d),0))else([],ckR l)
end Go.Abs
namespace Go.Abs
open Go Go.Proofs
def y2x(ls:List (List Iv)):List Iv:=ls.flatten
attribute [local irreducible] y2x
end Go.Abs
namespace Go.Abs
open Go Go.Proofs Go.RowKit Go.Shelf Go.Lib Go.Sort
def R7(zs:List Int):List Int:=zs.mergeSort fun x y=>decide (x≤y)
theorem Iq(zs:List Int):(R7 zs).length=zs.length:=by simp[R7]
theorem Km(H:List AObj)(p:Nat)(zs:List Int)(hp:H[p]? =some (.arr 3 1 (zs.map (AV.int .i64))))(hl:zs.length≤1000000):
  FC Tryz.prog 171 [.sl p 1 0 zs.length] H (fun r H'=>r= .tup []∧H'=H.set p (.arr 3 1 ((R7 zs).map (AV.int .i64)))):=by
 refine(x17 (xs:=zs.map (AV.int .i64)) (rest:=[]) (Yy Tryz.func171 rfl rfl) (by simp) hp (q25 zs) [] (fun w I m vs a b=>by simpa using a) (fun z1=>z1=(R7 zs).map (AV.int .i64)) ?_ ?_).mono ?_
 ·intro b cap w hH hb hc;have:=Tryz.slices_Sort_int b 0 cap zs w (Vd hH) hb (by omega);refine Calls.mono (by simpa using this) ?_;rintro e w' ⟨rfl,n,os,rfl⟩;exact⟨rfl,_,((R7 zs).map (Value.int .i64)).toArray,n,os,rfl,by simp[Iq],q25 _,by rw[Jr];rfl⟩
 ·rintro h;have z6:zs=[]:=by simpa using h
  subst z6;exact⟨by simp[R7],fun w=>by simpa using Tryz.slices_Sort_int_none none 0 w⟩
 ·rintro r H' ⟨rfl,z1,rfl,rfl⟩;exact⟨rfl,rfl⟩
theorem Pz(H:List AObj)(p:Nat)(zs:List Int)(hp:H[p]? =some (.arr 3 1 (zs.map (AV.int .i64))))(hl:zs.length≤1000000)(z6:(Lib.compact zs).length≤zs.length):
  FC Tryz.prog 172 [.sl p 1 0 zs.length] H (fun r H'=>r= .sl p 1 0 (Lib.compact zs).length∧∃G:List Int,H'=H.set p (.arr 3 1 ((Lib.compact zs++G).map (AV.int .i64)))):=by
 refine(j1a (xs:=zs.map (AV.int .i64)) (Yy Tryz.func172 rfl rfl) (by simp) hp (q25 zs) (fun z1 n=>n=(Lib.compact zs).length∧∃G:List Int,z1=(Lib.compact zs++G).map (AV.int .i64)) (fun ys n h=>by rw[h.1];exact z6) ?_ ?_).mono ?_
 ·intro b cap w hH hb hc hm;have:=Tryz.slices_Compact_int b 0 cap zs w (Vd hH) (by omega) hc;refine Calls.mono (by simpa using this) ?_;rintro e w' ⟨rfl,q,rfl⟩;exact⟨_,((Lib.compact zs++zT (zs.length - (Lib.compact zs).length) 0).map (Value.int .i64)).toArray,q,_,rfl,⟨rfl,_,rfl⟩,by simp;omega,q25 _,by rw[←Jr]⟩
 ·rintro h;have z7:zs=[]:=by simpa using h
  subst z7;exact⟨⟨rfl,[],rfl⟩,fun w=>by simpa using Tryz.slices_Compact_int_empty none 0 w⟩
 ·rintro r H' ⟨z1,n,rfl,⟨rfl,G,rfl⟩,rfl⟩;exact⟨rfl,G,rfl⟩
end Go.Abs
namespace Go.Abs
open Go Go.Proofs
attribute [simp] T47
def Nh:List Iv→List Int
 |[]=>[]
 |x::r=>x.lo::(x.hi+1)::Nh r
theorem w0b:∀(l:List Iv) (x:Iv),Nh (l++[x])=Nh l++[x.lo,x.hi+1]
 |[],x=>rfl
 |y::r,x=>by rw[vB,Nh,w0b r,Nh];rfl
theorem k0k:∀(l:List Iv),(Nh l).length=2 * l.length
 |[]=>rfl
 |x::r=>by rw[Nh,yE,yE,k0k r,yE];omega
def v08(l:List Iv):List Int:=Lib.compact (R7 (Nh l))
def y18(f:Int→Bool):List Int→List Iv→List Iv
 |c::d::r,acc=>y18 f (d::r) (if f c=true then Ej acc ⟨c,d - 1⟩else acc)
 |_,acc=>acc
def q0q(op:Bool→Bool→Bool)(a b:List Iv):List Iv:=y18 (fun n=>op (O1 a n) (O1 b n)) (v08 (a++b)) []
theorem Uw(zs:List Int):(Lib.compact zs).length≤zs.length:=by unfold Lib.compact Lib.compactUpTo;rw[List.length_map];exact yP (wU _ _) (by simp)
attribute [local irreducible] ckR O1 y2x Ej R7 Lib.compact Nh
end Go.Abs
namespace Go.Abs
open Go Go.Proofs
attribute [local irreducible] ckR q0q
def g1a(x y:Bool):Bool:=x && !y
def q2c(op:Bool→Bool→Bool)(a b:List Iv):AV:=if y0u a b=0 then x2q (q0q op a b)else .tup [.list [],.i (y0u a b)]
attribute [local irreducible] y0u
attribute [local irreducible] q2c
end Go.Abs
namespace Go.Abs
theorem push_comm(acc:List Iv)(x y:Iv)(h:x.lo=y.lo)(hx:x.lo≤x.hi)(hy:y.lo≤y.hi):Ej (Ej acc x) y=Ej (Ej acc y) x:=by
 have one:∀(u v:Iv),u.lo=v.lo→u.lo≤u.hi→∀ini:List Iv,Ej (ini++[u]) v=ini++[⟨u.lo,if u.hi<v.hi then v.hi else u.hi⟩]:=fun u v z6 hu ini=>by rw[Eu,if_pos (by omega)]
 rcases wp acc with rfl|⟨ini,z,rfl⟩
 ·have e1:Ej [] x=[]++[x]:=rfl;have e2:Ej [] y=[]++[y]:=rfl;rw[e1,e2,one x y h hx,one y x h.symm hy,h]
  congr 3
  split<;>split<;>omega
 ·rw[ws];by_cases hz:x.lo≤z.hi+1
  ·have z1:∀(w u:Iv),u.lo≤w.hi+1→Ej (ini++[w]) u=ini++[⟨w.lo,if w.hi<u.hi then u.hi else w.hi⟩]:=fun w u h=>by rw[Eu,if_pos h]
   rw[z1 z x hz,z1 z y (by omega),z1 _ y (by simp only;split<;>omega),z1 _ x (by simp only;split<;>omega)]
   congr 3
   simp only;repeat split
   all_goals omega
  ·have ap:∀u:Iv,u.lo=x.lo→Ej (ini++[z]) u=ini++[z]++[u]:=fun u h=>by rw[Eu,if_neg (by omega)]
   rw[ap x rfl,ap y h.symm,one x y h hx,one y x h.symm hy,h]
   congr 3
   split<;>split<;>omega
theorem Dn:∀(A:List Iv) (acc:List Iv) (x:Iv) (B:List Iv),(∀y∈A,y.lo=x.lo∧y.lo≤y.hi)→x.lo≤x.hi→Wc acc (A++x::B)=Wc acc (x::(A++B))
 |[],acc,x,B,_,_=>rfl
 |y::A,acc,x,B,h,hx=>by have hy:=h y (by simp);have ih:=Dn A (Ej acc y) x B (fun z hz=>h z (by simp[hz])) hx;simp only[Wc,vB,xG]at ih ⊢;rw[ih,push_comm acc y x hy.1 hy.2 hx]
theorem Hl:∀(l l':List Iv) (acc:List Iv),l.Perm l'→Bp l→Bp l'→(∀y∈l,y.lo≤y.hi)→Wc acc l=Wc acc l'
 |[],l',acc,hp,_,_,_=>by rw[hp.nil_eq]
 |x::l,l',acc,hp,h1,h2,hf=>by
  obtain⟨A,B,rfl⟩:=List.append_of_mem (hp.mem_iff.1 (List.mem_cons_self));have z6:l.Perm (A++B):=(List.perm_cons x).1 (hp.trans vu);have hA:∀y∈A,y.lo=x.lo∧y.lo≤y.hi:=fun y hy=>by
   have z1:y∈x::l:=hp.mem_iff.2 (by simp[hy]);have a1:y.lo≤x.lo:=(zY.1 h2).2.2 y hy x (by simp);have a2:x.lo≤y.lo:=by
    rcases zU.1 z1 with rfl|h
    ·exact yJ _
    ·exact(z_.1 h1).1 y h
   exact⟨by omega,hf y z1⟩
  rw[Dn A acc x B hA (hf x (by simp))];have hb:Bp (A++B):=h2.sublist (List.Sublist.append_left (List.sublist_cons_self x B) A);exact Hl l (A++B) (Ej acc x) z6 (z_.1 h1).2 hb (fun y hy=>hf y (by simp[hy]))
end Go.Abs
namespace Go.Abs
theorem j06(s:List Iv)(x:Iv):(Xf s x).Perm (x::s):=by unfold Xf;refine vu.trans ?_;rw[xM]
theorem Hh(s:List Iv)(x:Iv):∀j,j≤s.length→(∀k,Yg s x j≤k→k<j→∀h:k<s.length,x.lo<s[k].lo)∧(∀k,k+1=Yg s x j→∀h:k<s.length,s[k].lo≤x.lo)
 |0,_=>⟨fun k _ h=>by omega,fun k h=>by simp[Yg]at h⟩
 |j+1,hj=>by
  obtain⟨a,b⟩:=Hh s x j (by omega);have hg:f1u s j x=decide (x.lo<s[j].lo):=by simp[f1u,show j<s.length by omega]
  rw[Yg,hg];by_cases h:decide (x.lo<s[j].lo)=true
  ·rw[if_pos h];refine⟨fun k h1 h2 h3=> ?_,b⟩;by_cases e:k=j
   ·subst e;simpa using h
   ·exact a k h1 (by omega) h3
  ·rw[if_neg h];refine⟨fun k h1 h2=>by omega,fun k h1 h2=> ?_⟩;have e:k=j:=by omega
   subst e;simp at h;omega
theorem k0z(s:List Iv)(x:Iv)(hs:Bp s):Bp (Xf s x):=by
 obtain⟨a,b⟩:=Hh s x s.length (zK _);have hq:=Gs s x s.length;unfold Xf;generalize Yg s x s.length=q at a b hq;have z6:∀i j,i<j→∀hi:i<s.length,∀hj:j<s.length,s[i].lo≤s[j].lo:=fun i j h hi hj=>yD.1 hs i j hi hj h;have z7:∀y∈s.take q,y.lo≤x.lo:=fun y hy=>by
  obtain⟨i,hi,rfl⟩:=yC hy;have za:i<q:=by rw[xB]at hi;omega
  rw[t6];have h1:=b (q - 1) (by omega) (by omega);by_cases e:i=q - 1
  ·subst e;exact h1
  ·have:=z6 i (q - 1) (by omega) (by omega) (by omega);omega
 have z8:∀y∈s.drop q,x.lo≤y.lo:=fun y hy=>by obtain⟨i,hi,rfl⟩:=yC hy;rw[List.length_drop]at hi;rw[List.getElem_drop];have:=a (q+i) (by omega) (by omega) (by omega);omega
 have z1:=hs;unfold Bp at z1 ⊢;rw[←xM q s,zY]at z1;obtain⟨p1,p2,p3⟩:=z1;refine zY.2 ⟨p1,z_.2 ⟨z8,p2⟩,fun y hy z hz=> ?_⟩;rcases zU.1 hz with rfl|h
 ·exact z7 y hy
 ·exact p3 y hy z h
theorem G4:∀(l acc:List Iv),Bp acc→(l.foldl Xf acc).Perm (acc++l)∧Bp (l.foldl Xf acc)
 |[],acc,h=>⟨by simp,h⟩
 |x::r,acc,h=>by obtain⟨a,b⟩:=G4 r (Xf acc x) (k0z acc x h);refine⟨a.trans ?_,b⟩;exact((j06 acc x).append_right r).trans vu.symm
theorem S3(l:List Iv):(Re l).Perm l∧Bp (Re l):=by have:=G4 l [] .nil;simpa[Re]using this
end Go.Abs
namespace Go.Abs
def M(l:List Iv)(n:Int):Prop:=∃x∈l,x.lo≤n∧n≤x.hi
def Sep(l:List Iv):Prop:=(∀x∈l,x.lo≤x.hi)∧l.Pairwise (fun x y=>x.hi+2≤y.lo)
theorem Mf(n:Int):M [] n↔False:=by simp[M]
theorem E4(x:Iv)(l:List Iv)(n:Int):M (x::l) n↔(x.lo≤n∧n≤x.hi)∨M l n:=by simp[M]
theorem L5(a b:List Iv)(n:Int):M (a++b) n↔M a n∨M b n:=by simp[M,or_and_right,exists_or]
theorem Bv(l:List Iv)(n:Int):O1 l n=true↔M l n:=by simp[O1,M]
theorem Sep.tail{x:Iv}{l:List Iv}(h:Sep (x::l)):Sep l:=⟨fun y hy=>h.1 y (by simp[hy]),(z_.1 h.2).2⟩
theorem Sep.low{x:Iv}{l:List Iv}(h:Sep (x::l)){n:Int}(hm:M l n):x.hi+2≤n:=by obtain⟨y,hy,h1,h2⟩:=hm;have:=(z_.1 h.2).1 y hy;omega
theorem Sep.lowc{x:Iv}{l:List Iv}(h:Sep (x::l)){n:Int}(hm:M (x::l) n):x.lo≤n:=by
 rcases(E4 ..).1 hm with h1|h1
 ·exact h1.1
 ·have:=h.low h1;have:=h.1 x (by simp);omega
theorem g0f:∀(a b:List Iv),Sep a→Sep b→(∀n,M a n↔M b n)→a=b
 |[],[],_,_,_=>rfl
 |[],y::b,_,hb,h=>by have:=(h y.lo).2 ((E4 ..).2 (.inl ⟨yJ _,hb.1 y (by simp)⟩));exact absurd this (by simp[M])
 |x::a,[],ha,_,h=>by have:=(h x.lo).1 ((E4 ..).2 (.inl ⟨yJ _,ha.1 x (by simp)⟩));exact absurd this (by simp[M])
 |x::a,y::b,ha,hb,h=>by
  have hx:=ha.1 x (by simp);have hy:=hb.1 y (by simp);have e1:x.lo=y.lo:=by have h1:=hb.lowc ((h x.lo).1 ((E4 ..).2 (.inl ⟨yJ _,hx⟩)));have h2:=ha.lowc ((h y.lo).2 ((E4 ..).2 (.inl ⟨yJ _,hy⟩)));omega
  have e2:x.hi=y.hi:=by
   rcases tg x.hi y.hi with hlt|heq|hgt
   ·rcases(E4 ..).1 ((h (x.hi+1)).2 ((E4 ..).2 (.inl ⟨by omega,by omega⟩)))with h1|h1
    ·omega
    ·have:=ha.low h1;omega
   ·exact heq
   ·rcases(E4 ..).1 ((h (y.hi+1)).1 ((E4 ..).2 (.inl ⟨by omega,by omega⟩)))with h1|h1
    ·omega
    ·have:=hb.low h1;omega
  have e3:x=y:=by cases x;cases y;simp_all
  subst e3;rw[g0f a b ha.tail hb.tail fun n=>⟨fun hm=> ?_,fun hm=> ?_⟩]
  ·have h1:=ha.low hm;rcases(E4 ..).1 ((h n).1 ((E4 ..).2 (.inr hm)))with h2|h2
   ·omega
   ·exact h2
  ·have h1:=hb.low hm;rcases(E4 ..).1 ((h n).2 ((E4 ..).2 (.inr hm)))with h2|h2
   ·omega
   ·exact h2
theorem A3{l:List Iv}(h:CanonL l):Sep l:=
 ⟨fun x hx=>(Cz (h.one x hx)).2,yD.2 fun _ _ hi hj z1=>Ou h z1 hj hi⟩
theorem Zv{l:List Iv}(h:CanonL l):∀x∈l,O0 x:=fun x hx=>(Cz (h.one x hx)).1
theorem k1y{l:List Iv}(h:CanonL l){n:Int}(hm:M l n): -1099511627776≤n∧n≤1099511627776:=by obtain⟨x,hx,h1,h2⟩:=hm;have h3:=Zv h x hx;have h4:=(Et _).1 h3.1;have h5:=(Et _).1 h3.2;omega
theorem Cl{l:List Iv}(h:Sep l)(hi:∀x∈l,O0 x)(hl:l.length≤256):CanonL l:=
 ⟨hl,fun y hy=>by
  have h1:=hi y hy;have h2:=h.1 y hy;have h4:=h1.1;have h5:=h1.2;simp[Sr,h4,h5];omega,fun j hj=>yD.1 h.2 j (j+1) (by omega) hj (by omega)⟩
theorem c0o(acc:List Iv)(x:Iv)(ha:Sep acc)(hx:x.lo≤x.hi)(hle:∀y∈acc,y.lo≤x.lo):
  Sep (Ej acc x)∧(∀n,M (Ej acc x) n↔M acc n∨(x.lo≤n∧n≤x.hi))∧(∀z,x.lo≤z→∀y∈Ej acc x,y.lo≤z):=by
 rcases wp acc with rfl|⟨ini,y,rfl⟩
 ·have e:Ej [] x=[x]:=rfl;rw[e];exact⟨⟨fun y hy=>by simp at hy;subst hy;exact hx,by simp⟩,fun n=>by simp[M],fun z hz y hy=>by simp at hy;subst hy;exact hz⟩
 ·rw[ws]at ha hle ⊢;rw[Eu];have hy:=ha.1 y (by simp);have z1:=hle y (by simp);obtain⟨p1,p2,p3⟩:=zY.1 ha.2;split
  ·rename_i hj;refine⟨⟨fun z hz=> ?_,zY.2 ⟨p1,by simp,fun u hu v hv=> ?_⟩⟩,fun n=> ?_,fun z hz u hu=> ?_⟩
   ·rcases zO.1 hz with h|h
    ·exact ha.1 z (by simp[h])
    ·simp at h;subst h;simp only;split<;>omega
   ·simp at hv;subst hv;exact p3 u hu y (by simp)
   ·rw[L5,L5,E4,E4,Mf];simp only[or_false];by_cases hm:M ini n
    ·simp[hm]
    ·simp only[hm,false_or];split<;>omega
   ·rcases zO.1 hu with h|h
    ·have:=hle u (by simp[h]);omega
    ·simp at h;subst h;simp only;omega
  ·rename_i hj;refine⟨⟨fun z hz=> ?_,zY.2 ⟨ha.2,by simp,fun u hu v hv=> ?_⟩⟩,fun n=>by rw[L5,E4,Mf];simp,fun z hz u hu=> ?_⟩
   ·rcases zO.1 hz with h|h
    ·exact ha.1 z h
    ·simp at h;subst h;exact hx
   ·simp at hv;subst hv;rcases zO.1 hu with h|h
    ·have:=p3 u h y (by simp);omega
    ·simp at h;subst h;omega
   ·rcases zO.1 hu with h|h
    ·have:=hle u h;omega
    ·simp at h;subst h;exact hz
theorem Sm:∀(l acc:List Iv),Sep acc→Bp l→(∀x∈l,x.lo≤x.hi)→(∀y∈acc,∀x∈l,y.lo≤x.lo)→
  Sep (Wc acc l)∧∀n,M (Wc acc l) n↔M acc n∨M l n
 |[],acc,ha,_,_,_=>⟨ha,fun n=>by simp[Wc,M]⟩
 |x::l,acc,ha,hb,hf,hle=>by have hp:=c0o acc x ha (hf x (by simp)) (fun y hy=>hle y hy x (by simp));have ih:=Sm l (Ej acc x) hp.1 (z_.1 hb).2 (fun y hy=>hf y (by simp[hy])) (fun y hy z hz=>hp.2.2 z.lo ((z_.1 hb).1 z hz) y hy);refine⟨ih.1,fun n=> ?_⟩;have e:Wc acc (x::l)=Wc (Ej acc x) l:=rfl;rw[e,ih.2 n,hp.2.1 n,E4,or_assoc]
theorem Zc:Sep []:=⟨by simp,by simp⟩
theorem q2x{a b:List Iv}(h:a.Perm b)(n:Int):M a n↔M b n:=by simp only[M];exact⟨fun⟨x,hx,h1⟩=>⟨x,h.mem_iff.1 hx,h1⟩,fun⟨x,hx,h1⟩=>⟨x,h.mem_iff.2 hx,h1⟩⟩
theorem Uj(l:List Iv)(hf:∀x∈l,x.lo≤x.hi):Sep (Eo l)∧∀n,M (Eo l) n↔M l n:=by have hs:=S3 l;have h:=Sm (Re l) [] Zc hs.2 (fun x hx=>hf x (hs.1.mem_iff.1 hx)) (by simp);refine⟨h.1,fun n=> ?_⟩;rw[Eo,h.2 n,Mf,false_or,q2x hs.1]
def pieces(f:Int→Bool):List Int→List Iv
 |c::d::r=>(if f c=true then [⟨c,d - 1⟩]else [])++pieces f (d::r)
 |_=>[]
end Go.Abs
namespace Go.Abs
open Go Go.Proofs
attribute [local irreducible] q2c y0u q0q
def z2r(x y:Bool):Bool:=x || y
def w26(x y:Bool):Bool:=x && y
def w2n(a b:List Iv):Bool×Int:=if y0u a b=0 then(decide (q0q g1a a b=[]),0)else(false,y0u a b)
end Go.Abs
namespace Go.Abs
open Go Go.Proofs
def R0:List Iv→Int→List Iv
 |[],n=>if n≤1099511627776 then [⟨n,1099511627776⟩]else []
 |x::r,n=>(if n<x.lo then [⟨n,x.lo - 1⟩]else [])++R0 r (x.hi+1)
def En(l:List Iv):List Iv:=R0 l (-1099511627776)
end Go.Abs
namespace Go.Abs
open Go
theorem k0y:∀(l:List Iv) (z:Int),z∈Nh l↔∃x∈l,z=x.lo∨z=x.hi+1
 |[],z=>by simp[Nh]
 |y::r,z=>by rw[Nh,zU,zU,k0y r z];simp[or_assoc]
theorem V1(zs:List Int)(hs:zs.Pairwise (·≤·)):∀m,m≤zs.length→
  (Lib.compactUpTo zs.toArray m).Pairwise (·<·)∧(∀z,z∈Lib.compactUpTo zs.toArray m↔z∈zs.take m):=by
 intro m;induction m with
 |zero=>exact fun _=>⟨by simp[Lib.compactUpTo],by simp[Lib.compactUpTo]⟩
 |succ m ih=>
  intro hm;obtain⟨h1,h2⟩:=ih (by omega);have z1:m<zs.length:=by omega
  have hg:zs.toArray[m]! =zs[m]:=by simp[z1]
  rw[Lib.compactUpTo_succ];have ht:zs.take (m+1)=zs.take m++[zs[m]]:=by rw[zL z1]
  by_cases hk:Lib.keeps zs.toArray m=true
  ·rw[if_pos hk,hg,ht];refine⟨zY.2 ⟨h1,by simp,fun u hu v hv=> ?_⟩,fun z=>by rw[zO,zO,h2]⟩;simp at hv;subst hv;obtain⟨i,hi,rfl⟩:=yC ((h2 u).1 hu);have za:i<m:=by simp at hi;omega
   rw[t6];have zb:zs[m]≠zs[m - 1]:=by
    simp[Lib.keeps]at hk;have z6:m≠0:=by omega
    have hk:=hk.resolve_left z6;simpa[z1,show m - 1<zs.length by omega]using hk
   have a1:zs[i]≤zs[m - 1]:=by
    rcases Nat.lt_or_ge i (m - 1)with h|h
    ·exact yD.1 hs i (m - 1) (by omega) (by omega) h
    ·have:i=m - 1:=by omega
     subst this;exact yJ _
   have a2:zs[m - 1]≤zs[m]:=yD.1 hs (m - 1) m (by omega) (by omega) (by omega);omega
  ·rw[if_neg hk,List.append_nil,ht];refine⟨h1,fun z=> ?_⟩;rw[h2,zO];refine⟨.inl,fun h=>h.elim id fun h=> ?_⟩;simp at h;subst h;simp only[Lib.keeps,decide_eq_true_eq,not_or]at hk;have z7:m - 1<zs.length:=by omega
   have z8:zs[m]=zs[m - 1]:=by simpa[z1,z7]using hk.2
   rw[z8];exact List.mem_take_iff_getElem.2 ⟨m - 1,by omega,rfl⟩
theorem u0z(l:List Iv):(v08 l).Pairwise (·<·)∧∀z,z∈v08 l↔∃x∈l,z=x.lo∨z=x.hi+1:=by
 have hs:(R7 (Nh l)).Pairwise (·≤·):=by have:=vS (le:=fun x y:Int=>decide (x≤y)) (fun a b c h1 h2=>by simp at h1 h2 ⊢;omega) (fun a b=>by simp;omega) (Nh l);simpa[R7]using this
 have h:=V1 _ hs _ (zK _);refine⟨h.1,fun z=> ?_⟩;have h2:=h.2 z;rw[zZ]at h2;rw[v08,Lib.compact,h2,R7,uW,k0y]
theorem v09(l:List Iv)(cs:List Int)(h:∀x∈l,x.lo∈cs∧x.hi+1∈cs)(c n:Int)(hc:c≤n)(hm:∀d∈cs,d≤n→d≤c):O1 l n=O1 l c:=by
 rw[yX,Bv,Bv];constructor
 ·rintro⟨x,hx,h1,h2⟩;have:=hm _ (h x hx).1 h1;exact⟨x,hx,this,by omega⟩
 ·rintro⟨x,hx,h1,h2⟩;refine⟨x,hx,by omega,?_⟩;by_cases hn:x.hi+1≤n
  ·have:=hm _ (h x hx).2 hn;omega
  ·omega
theorem k0h{l:List Iv}(h:Sep l)(hb:∀n,M l n→ -1099511627776≤n∧n≤1099511627776):∀x∈l,O0 x:=fun x hx=>
 ⟨(Et _).2 (hb _ ⟨x,hx,yJ _,h.1 x hx⟩),(Et _).2 (hb _ ⟨x,hx,h.1 x hx,yJ _⟩)⟩
theorem Il:∀(l:List Iv) (s:Int),(∀x∈l,x.lo≤x.hi∧x.hi≤1099511627776)→l.Pairwise (fun x y=>x.hi+2≤y.lo)→(∀x∈l,s≤x.lo)→
  Sep (R0 l s)∧(∀n,M (R0 l s) n↔s≤n∧n≤1099511627776∧¬M l n)∧(R0 l s).length≤l.length+1
 |[],s,_,_,_=>by
  rw[R0];split
  ·exact⟨⟨fun x hx=>by simp at hx;subst hx;assumption,by simp⟩,fun n=>by rw[E4,Mf];simp[Mf],by simp⟩
  ·exact⟨Zc,fun n=>by simp[Mf];omega,by simp⟩
 |x::l,s,hf,hp,hs=>by
  have hx:=hf x (by simp);have z7:=hs x (by simp);have z1:=(z_.1 hp).1;obtain⟨i1,i2,i3⟩:=Il l (x.hi+1) (fun y hy=>hf y (by simp[hy])) (z_.1 hp).2 (fun y hy=>by have:=z1 y hy;omega);have z6:∀n,M l n→x.hi+2≤n:=by rintro n ⟨y,hy,h1,h2⟩;have:=z1 y hy;omega
  rw[R0];split
  ·refine⟨⟨fun y hy=> ?_,?_⟩,fun n=> ?_,by simp;omega⟩
   ·rcases zO.1 hy with h|h
    ·simp at h;subst h;simp only;omega
    ·exact i1.1 y h
   ·refine zY.2 ⟨by simp,i1.2,fun u hu v hv=> ?_⟩;simp at hu;subst hu;have:=(i2 v.lo).1 ⟨v,hv,yJ _,i1.1 v hv⟩;simp only;omega
   ·rw[L5,i2,E4,Mf,E4];by_cases hm:M l n
    ·have:=z6 n hm;simp[hm];omega
    ·simp only[hm,not_false_eq_true,and_true,or_false];omega
  ·refine⟨⟨fun y hy=>i1.1 y (by simpa using hy),by simpa using i1.2⟩,fun n=> ?_,by simp;omega⟩;rw[List.nil_append,i2,E4];by_cases hm:M l n
   ·simp[hm]
   ·simp only[hm,not_false_eq_true,and_true,or_false];omega
theorem U6{l:List Iv}(h:CanonL l):Sep (En l)∧(∀n,M (En l) n↔(-1099511627776≤n∧n≤1099511627776)∧¬M l n)∧(En l).length≤l.length+1:=by have hs:=A3 h;have hi:=Zv h;have:=Il l (-1099511627776) (fun x hx=>⟨hs.1 x hx,((Et _).1 (hi x hx).2).2⟩) hs.2 (fun x hx=>((Et _).1 (hi x hx).1).1);exact⟨this.1,fun n=>by rw[En,this.2.1,and_assoc],this.2.2⟩
def Ox(x y:Iv):Option Iv:=if(if x.lo<y.lo then y.lo else x.lo)≤(if y.hi<x.hi then y.hi else x.hi)then some ⟨if x.lo<y.lo then y.lo else x.lo,if y.hi<x.hi then y.hi else x.hi⟩else none
def Rm(a b:List Iv):List Iv:=a.flatMap fun x=>b.filterMap (Ox x)
theorem G6{x y z:Iv}(h:Ox x y=some z):z.lo≤z.hi∧∀n,(z.lo≤n∧n≤z.hi)↔(x.lo≤n∧n≤x.hi)∧(y.lo≤n∧n≤y.hi):=by
 unfold Ox at h;by_cases hle:(if x.lo<y.lo then y.lo else x.lo)≤(if y.hi<x.hi then y.hi else x.hi)
 ·rw[if_pos hle]at h;cases h;refine⟨hle,fun n=> ?_⟩;simp only;split<;>split<;>omega
 ·rw[if_neg hle]at h;cases h
theorem q2g{x y:Iv}{n:Int}(h1:x.lo≤n∧n≤x.hi)(h2:y.lo≤n∧n≤y.hi):∃z,Ox x y=some z∧z.lo≤n∧n≤z.hi:=by
 unfold Ox;have:(if x.lo<y.lo then y.lo else x.lo)≤(if y.hi<x.hi then y.hi else x.hi):=by split<;>split<;>omega
 rw[if_pos this];refine⟨_,rfl,?_,?_⟩<;>simp only<;>split<;>omega
theorem A7(a b:List Iv):(∀x∈Rm a b,x.lo≤x.hi)∧∀n,M (Rm a b) n↔M a n∧M b n:=by
 constructor
 ·intro z hz;obtain⟨x,_,hz⟩:=xL.1 hz;obtain⟨y,_,h⟩:=wM.1 hz;exact(G6 h).1
 ·intro n;constructor
  ·rintro⟨z,hz,h1⟩;obtain⟨x,hx,hz⟩:=xL.1 hz;obtain⟨y,hy,h⟩:=wM.1 hz;have:=((G6 h).2 n).1 h1;exact⟨⟨x,hx,this.1⟩,⟨y,hy,this.2⟩⟩
  ·rintro⟨⟨x,hx,h1⟩,⟨y,hy,h2⟩⟩;obtain⟨z,hz,h3⟩:=q2g h1 h2;exact⟨z,xL.2 ⟨x,hx,wM.2 ⟨y,hy,hz⟩⟩,h3⟩
def Tb(a b:List Iv):List Iv:=Eo (Rm a b)
theorem Oe(a b:List Iv):Sep (Tb a b)∧∀n,M (Tb a b) n↔M a n∧M b n:=by have h:=Uj (Rm a b) (A7 a b).1;exact⟨h.1,fun n=>by rw[Tb,h.2,(A7 a b).2]⟩
end Go.Abs
namespace Go.Abs
open Go
def b2(b:Bool):Int:=if b=true then 1 else 0
def cnt(p:Int→Bool)(A:Int):Nat→Int
 |0=>0
 |n+1=>cnt p A n+b2 (p (A+n))
def inI(lo hi k:Int):Bool:=decide (lo≤k) && decide (k≤hi)
theorem B7(lo hi k:Int):inI lo hi k=true↔lo≤k∧k≤hi:=by simp[inI]
theorem q18(x:Iv)(l:List Iv)(k:Int):O1 (x::l) k=(inI x.lo x.hi k || O1 l k):=by simp[O1,inI]
end Go.Abs
namespace Go.Abs
open Go
end Go.Abs
namespace Go.Abs
open Go
end Go.Abs
namespace Go.Abs
open Go
def j14(x y:Iv):Bool:=decide (y.lo<x.lo) && decide (x.lo≤y.hi)
def x0i(x y:Iv):Bool:=decide (x.lo≤y.lo) && decide (y.lo≤x.hi)
theorem g0w(x:Iv):∀(b:List Iv),(b.filterMap (Ox x)).length≤b.countP (j14 x)+b.countP (x0i x)
 |[]=>by simp
 |y::b=>by
  have ih:=g0w x b;rw[wR,wR];cases h:Ox x y with
  |none=>rw[List.filterMap_cons_none h];omega
  |some z=>
   rw[List.filterMap_cons_some h,yE];have hz:=G6 h;have hm:=(hz.2 z.lo).1 ⟨yJ _,hz.1⟩;have:j14 x y=true∨x0i x y=true:=by simp[j14,x0i];omega
   rcases this with h'|h'<;>rw[if_pos h']<;>omega
theorem g0s(x:Iv):∀(b:List Iv),Sep b→b.countP (j14 x)≤1
 |[],_=>by simp
 |y::b,hs=>by
  rw[wR];split
  ·rename_i h;simp[j14]at h;have:b.countP (j14 x)=0:=uQ.2 fun z hz=>by have:=(z_.1 hs.2).1 z hz;simp[j14];omega
   omega
  ·have:=g0s x b hs.tail;omega
theorem q02(y:Iv):∀(a:List Iv),Sep a→a.countP (fun x=>x0i x y)≤1
 |[],_=>by simp
 |x::a,hs=>by
  rw[wR];split
  ·rename_i h;simp[x0i]at h;have:a.countP (fun x=>x0i x y)=0:=uQ.2 fun z hz=>by have:=(z_.1 hs.2).1 z hz;simp[x0i];omega
   omega
  ·have:=q02 y a hs.tail;omega
theorem q07(a:List Iv)(ha:Sep a):∀(b:List Iv),(a.map fun x=>b.countP (x0i x)).sum≤b.length
 |[]=>by
  have:∀a:List Iv,(a.map fun x=>([]:List Iv).countP (x0i x)).sum=0:=fun a=>by
   induction a with
   |nil=>rfl
   |cons x a ih=>simpa using ih
  rw[this];simp
 |y::b=>by
  have ih:=q07 a ha b;have h1:=q02 y a ha;have:∀a:List Iv,(a.map fun x=>(y::b).countP (x0i x)).sum=(a.map fun x=>b.countP (x0i x)).sum+a.countP (fun x=>x0i x y):=fun a=>by
   induction a with
   |nil=>rfl
   |cons x a ih=>rw[yO,uv,ih,yO,uv,wR,wR];omega
  rw[this,yE];omega
theorem f0a(a b:List Iv)(ha:Sep a)(hb:Sep b):(Rm a b).length≤a.length+b.length:=by
 have h:∀a:List Iv,(Rm a b).length≤a.length+(a.map fun x=>b.countP (x0i x)).sum:=fun a=>by
  induction a with
  |nil=>simp[Rm]
  |cons x a ih=>have e:Rm (x::a) b=b.filterMap (Ox x)++Rm a b:=rfl;have h1:=g0w x b;have h2:=g0s x b hb;rw[e,List.length_append,yO,uv,yE];omega
 have h1:=h a;have h2:=q07 a ha b;omega
theorem y1l{a b:List Iv}(h:(∀x∈a,O0 x)∨(∀y∈b,O0 y)):∀z∈Rm a b,O0 z:=by
 intro z hz;have hp:=A7 a b;have hf:=hp.1 z hz;have m1:=(hp.2 z.lo).1 ⟨z,hz,yJ _,hf⟩;have m2:=(hp.2 z.hi).1 ⟨z,hz,hf,yJ _⟩;have key:∀l:List Iv,(∀x∈l,O0 x)→∀n,M l n→inB n=true:=fun l hl n ⟨x,hx,h1,h2⟩=>by have h3:=(Et _).1 (hl x hx).1;have h4:=(Et _).1 (hl x hx).2;exact(Et _).2 (by omega)
 rcases h with h|h
 ·exact⟨key a h _ m1.1,key a h _ m2.1⟩
 ·exact⟨key b h _ m1.2,key b h _ m2.2⟩
end Go.Abs
namespace Go.Abs
abbrev Prd:=List (List Iv)
def PM(p:Prd)(t:Nat)(n:Int):Prop:=∃s,p[t]? =some s∧M s n
def inR(n:Int):Prop:= -1099511627776≤n∧n≤1099511627776
def PWf(T:Nat)(p:Prd):Prop:=p.length=T∧∀s∈p,Sep s∧∀n,M s n→inR n
theorem PWf.lt{T:Nat}{p:Prd}(h:PWf T p){t:Nat}{n:Int}(hm:PM p t n):t<T∧inR n:=by obtain⟨s,hs,hn⟩:=hm;exact⟨by rw[←h.1];exact(zA.1 hs).1,(h.2 s (zF hs)).2 n hn⟩
theorem Hs{T:Nat}{p q:Prd}(hp:PWf T p)(hq:PWf T q)(h:∀t n,PM p t n↔PM q t n):p=q:=by apply List.ext_getElem (by rw[hp.1,hq.1]);intro i h1 h2;refine g0f _ _ (hp.2 _ (zG h1)).1 (hq.2 _ (zG h2)).1 fun n=> ?_;have:=h i n;unfold PM at this;rw[zD h1,zD h2]at this;simpa using this
def A5(t:Nat)(n:Int)(t':Nat)(n':Int):Prop:=t<t'∨t=t'∧n<n'
theorem A5.irr{t:Nat}{n:Int}(h:A5 t n t n):False:=by unfold A5 at h;omega
theorem A5.trans{a b c:Nat}{x y z:Int}(h:A5 a x b y)(k:A5 b y c z):A5 a x c z:=by unfold A5 at *;omega
def d1f(l:List Prd)(t:Nat)(n:Int)(t':Nat)(n':Int):Prop:=∀p∈l,PM p t n↔PM p t' n'
structure Prts (T:Nat) (l L:List Prd):Prop where
 wf:∀p∈L,PWf T p
 ne:∀p∈L,∃t n,PM p t n
 all:∀t n,t<T→inR n→∃p∈L,PM p t n
 cls:∀p∈L,∀t n,PM p t n→∀t' n',PM p t' n'↔t'<T∧inR n'∧d1f l t n t' n'
def z04(p q:Prd):Prop:=∃t n,PM p t n∧∀t' n',PM q t' n'→A5 t n t' n'
theorem z04.irr{p:Prd}(h:z04 p p):False:=by obtain⟨t,n,h1,h2⟩:=h;exact(h2 t n h1).irr
theorem z04.asymm{p q:Prd}(h:z04 p q)(k:z04 q p):False:=by obtain⟨t,n,h1,h2⟩:=h;obtain⟨t',n',k1,k2⟩:=k;exact((h2 t' n' k1).trans (k2 t n h1)).irr
theorem Prts.same{T:Nat}{l L L':List Prd}(h:Prts T l L)(h':Prts T l L'){p:Prd}(hp:p∈L):p∈L':=by
 obtain⟨t,n,hm⟩:=h.ne p hp;obtain⟨ht,hn⟩:=(h.wf p hp).lt hm;obtain⟨q,hq,z1⟩:=h'.all t n ht hn;have:p=q:=Hs (h.wf p hp) (h'.wf q hq) fun t' n'=>by rw[h.cls p hp t n hm,h'.cls q hq t n z1]
 rw[this];exact hq
theorem Prts.unique{T:Nat}{l L L':List Prd}(h:Prts T l L)(h':Prts T l L')(s:L.Pairwise z04)(s':L'.Pairwise z04):L=L':=by have z1:∀ {X:List Prd},X.Pairwise z04→X.Nodup:=fun hx=>hx.imp (fun h e=>by subst e;exact h.irr);refine List.Perm.eq_of_pairwise (le:=z04) (fun a b _ _ h1 h2=>(h1.asymm h2).elim) s s' ?_;exact(un (z1 s) (z1 s')).2 fun p=>⟨h.same h',h'.same h⟩
theorem Prts.disj{T:Nat}{l L:List Prd}(h:Prts T l L){p q:Prd}(hp:p∈L)(hq:q∈L){t:Nat}{n:Int}(h1:PM p t n)(h2:PM q t n):p=q:=
 Hs (h.wf p hp) (h.wf q hq) fun t' n'=>by rw[h.cls p hp t n h1,h.cls q hq t n h2]
theorem Prts.perm{T:Nat}{l L L':List Prd}(h:Prts T l L)(e:L.Perm L'):Prts T l L':=
 ⟨fun p hp=>h.wf p (e.mem_iff.2 hp),fun p hp=>h.ne p (e.mem_iff.2 hp),fun t n a b=>by obtain⟨p,hp,hm⟩:=h.all t n a b;exact⟨p,e.mem_iff.1 hp,hm⟩,fun p hp=>h.cls p (e.mem_iff.2 hp)⟩
def Wt(T:Nat):Prd:=zT T (En [])
def Wv(c p:Prd):Prd:=tC Tb c p
def Ei(p:Prd):Prd:=p.map En
def W2(p:Prd):Bool:=p.all (·.isEmpty)
def E5(p:Prd)(L:List Prd):List Prd:=L.flatMap fun c=>(if W2 (Wv c p)then []else [Wv c p])++(if W2 (Wv c (Ei p))then []else [Wv c (Ei p)])
def Ez(T:Nat)(l:List Prd):List Prd:=l.foldl (fun L p=>E5 p L) [Wt T]
def PCk(T:Nat)(p:Prd):Prop:=p.length=T∧∀s∈p,CanonL s
theorem PCk.wf{T:Nat}{p:Prd}(h:PCk T p):PWf T p:=⟨h.1,fun s hs=>⟨A3 (h.2 s hs),fun n hn=>k1y (h.2 s hs) hn⟩⟩
theorem Ay:CanonL []:=⟨by simp,by simp,fun j h=>by simp at h⟩
theorem Fe(T t:Nat)(n:Int):PM (Wt T) t n↔t<T∧inR n:=by
 unfold PM Wt;have hg:=(U6 Ay).2.1 n;constructor
 ·rintro⟨s,hs,hm⟩;rw[vw]at hs;split at hs
  ·cases hs;exact⟨by assumption,(hg.1 hm).1⟩
  ·cases hs
 ·rintro⟨h1,h2⟩;exact⟨En [],by rw[vw,if_pos h1],hg.2 ⟨h2,by simp[M]⟩⟩
theorem w0p(T:Nat):PWf T (Wt T):=⟨by simp[Wt],fun s hs=>by
 obtain rfl:=wV hs;exact⟨(U6 Ay).1,fun n hn=>(((U6 Ay).2.1 n).1 hn).1⟩⟩
theorem Ry{T:Nat}{c p:Prd}(hc:c.length=T)(hp:p.length=T)(t:Nat)(n:Int):PM (Wv c p) t n↔PM c t n∧PM p t n:=by
 unfold PM Wv;constructor
 ·rintro⟨s,hs,hm⟩;rw[wO]at hs;cases h1:c[t]? with
  |none=>rw[h1]at hs;simp at hs
  |some a=>
   cases h2:p[t]? with
   |none=>rw[h1,h2]at hs;simp at hs
   |some b=>rw[h1,h2]at hs;simp at hs;subst hs;have:=((Oe a b).2 n).1 hm;exact⟨⟨a,rfl,this.1⟩,⟨b,rfl,this.2⟩⟩
 ·rintro⟨⟨a,h1,m1⟩,⟨b,h2,m2⟩⟩;exact⟨Tb a b,by rw[wO,h1,h2],((Oe a b).2 n).2 ⟨m1,m2⟩⟩
theorem Uq{T:Nat}{c p:Prd}(hc:PWf T c)(hp:p.length=T):PWf T (Wv c p):=by
 refine⟨by simp[Wv,hc.1,hp],fun s hs=> ?_⟩;obtain⟨i,hi⟩:=yF.1 hs;unfold Wv at hi;rw[wO]at hi;cases h1:c[i]? with
 |none=>rw[h1]at hi;simp at hi
 |some a=>
  cases h2:p[i]? with
  |none=>rw[h1,h2]at hi;simp at hi
  |some b=>rw[h1,h2]at hi;simp at hi;subst hi;exact⟨(Oe a b).1,fun n hn=>(hc.2 a (zF h1)).2 n (((Oe a b).2 n).1 hn).1⟩
theorem Zi{T:Nat}{p:Prd}(hp:PCk T p)(t:Nat)(n:Int):PM (Ei p) t n↔(t<T∧inR n)∧¬PM p t n:=by
 unfold PM Ei;rw[zQ];constructor
 ·rintro⟨s,hs,hm⟩;obtain⟨a,ha,rfl⟩:=zN.1 hs;have hg:=((U6 (hp.2 a (zF ha))).2.1 n).1 hm;refine⟨⟨by rw[←hp.1];exact(zA.1 ha).1,hg.1⟩,?_⟩;rintro⟨b,hb,z1⟩;rw[ha]at hb;cases hb;exact hg.2 z1
 ·rintro⟨⟨h1,h2⟩,h3⟩;have hl:t<p.length:=by rw[hp.1];exact h1
  refine⟨En p[t],by rw[zD hl];rfl,((U6 (hp.2 _ (zG hl))).2.1 n).2 ⟨h2,fun hm=>h3 ⟨_,zD hl,hm⟩⟩⟩
theorem Rh{T:Nat}{p:Prd}(h:PWf T p):W2 p=true↔∀t n,¬PM p t n:=by
 unfold W2;rw[zP];constructor
 ·rintro hv t n ⟨s,hs,hm⟩;have:=hv s (zF hs);rw[List.isEmpty_iff]at this;subst this;simp[M]at hm
 ·intro hv s hs;obtain⟨i,hi⟩:=yF.1 hs;cases s with
  |nil=>rfl
  |cons x s=>exact absurd ⟨_,hi,(E4 ..).2 (.inl ⟨yJ _,(h.2 _ hs).1.1 x (by simp)⟩)⟩ (hv i x.lo)
theorem Jv{T:Nat}{l L:List Prd}{p:Prd}(h:Prts T l L)(hp:PCk T p):Prts T (l++[p]) (E5 p L):=by
 have z6:(Ei p).length=T:=by simp[Ei,hp.1]
 have z1:∀q,q∈E5 p L↔∃c∈L,((q=Wv c p)∨(q=Wv c (Ei p)))∧W2 q=false:=by
  intro q;unfold E5;rw[xL];constructor
  ·rintro⟨c,hc,hq⟩;refine⟨c,hc,?_⟩;rcases zO.1 hq with hq|hq
   ·split at hq
    ·cases hq
    ·rename_i hv;obtain rfl:=zJ.1 hq;exact⟨.inl rfl,by simpa using hv⟩
   ·split at hq
    ·cases hq
    ·rename_i hv;obtain rfl:=zJ.1 hq;exact⟨.inr rfl,by simpa using hv⟩
  ·rintro⟨c,hc,hq,hv⟩;refine⟨c,hc,zO.2 ?_⟩;rcases hq with rfl|rfl
   ·left;rw[if_neg (by rw[hv];decide)];simp
   ·right;rw[if_neg (by rw[hv];decide)];simp
 have z7:∀q∈E5 p L,PWf T q:=fun q hq=>by
  obtain⟨c,hc,rfl|rfl,_⟩:=(z1 q).1 hq
  ·exact Uq (h.wf c hc) hp.1
  ·exact Uq (h.wf c hc) z6
 have zb:∀q∈E5 p L,∃t n,PM q t n:=fun q hq=>by
  obtain⟨c,hc,_,hv⟩:=(z1 q).1 hq;by_cases hx:∃t n,PM q t n
  ·exact hx
  ·exfalso;have:W2 q=true:=(Rh (z7 q hq)).2 fun t n hm=>hx ⟨t,n,hm⟩;rw[this]at hv;cases hv
 refine⟨z7,zb,fun t n ht hn=> ?_,fun q hq t n hm t' n'=> ?_⟩
 ·obtain⟨c,hc,z8⟩:=h.all t n ht hn;have hv:∀q,(q=Wv c p∨q=Wv c (Ei p))→PM q t n→q∈E5 p L:=fun q hq hm=>(z1 q).2 ⟨c,hc,hq,by
   have hw:PWf T q:=by
    rcases hq with rfl|rfl
    ·exact Uq (h.wf c hc) hp.1
    ·exact Uq (h.wf c hc) z6
   cases hvq:W2 q with
   |false=>rfl
   |true=>exact absurd hm ((Rh hw).1 hvq t n)⟩
  by_cases za:PM p t n
  ·have:=(Ry (h.wf c hc).1 hp.1 t n).2 ⟨z8,za⟩;exact⟨_,hv _ (.inl rfl) this,this⟩
  ·have:=(Ry (h.wf c hc).1 z6 t n).2 ⟨z8,(Zi hp t n).2 ⟨⟨ht,hn⟩,za⟩⟩;exact⟨_,hv _ (.inr rfl) this,this⟩
 ·obtain⟨c,hc,zc,_⟩:=(z1 q).1 hq;have zd:d1f (l++[p]) t n t' n'↔d1f l t n t' n'∧(PM p t n↔PM p t' n'):=by
   constructor
   ·exact fun hs=>⟨fun r hr=>hs r (by simp[hr]),hs p (by simp)⟩
   ·rintro⟨h1,h2⟩ r hr;rcases zO.1 hr with hr|hr
    ·exact h1 r hr
    ·obtain rfl:=zJ.1 hr;exact h2
  rw[zd];rcases zc with rfl|rfl
  ·obtain⟨m1,m2⟩:=(Ry (h.wf c hc).1 hp.1 t n).1 hm;rw[Ry (h.wf c hc).1 hp.1,h.cls c hc t n m1];constructor
   ·rintro⟨⟨h1,h2,h3⟩,h4⟩;exact⟨h1,h2,h3,fun _=>h4,fun _=>m2⟩
   ·rintro⟨h1,h2,h3,h4⟩;exact⟨⟨h1,h2,h3⟩,h4.1 m2⟩
  ·obtain⟨m1,m2⟩:=(Ry (h.wf c hc).1 z6 t n).1 hm;have m3:=((Zi hp t n).1 m2).2;rw[Ry (h.wf c hc).1 z6,h.cls c hc t n m1,Zi hp];constructor
   ·rintro⟨⟨h1,h2,h3⟩,h4⟩;exact⟨h1,h2,h3,fun h=>absurd h m3,fun h=>absurd h h4.2⟩
   ·rintro⟨h1,h2,h3,h4⟩;exact⟨⟨h1,h2,h3⟩,⟨h1,h2⟩,fun h=>m3 (h4.2 h)⟩
theorem Ke(T:Nat)(hT:0<T):Prts T [] [Wt T]:=by
 refine⟨fun p hp=> ?_,fun p hp=> ?_,fun t n ht hn=> ?_,fun p hp t n hm t' n'=> ?_⟩
 ·obtain rfl:=zJ.1 hp;exact w0p T
 ·obtain rfl:=zJ.1 hp;exact⟨0,0,(Fe T 0 0).2 ⟨hT,by unfold inR;omega⟩⟩
 ·exact⟨_,List.mem_singleton_self _,(Fe T t n).2 ⟨ht,hn⟩⟩
 ·obtain rfl:=zJ.1 hp;rw[Fe];exact⟨fun h=>⟨h.1,h.2,fun r hr=>by cases hr⟩,fun h=>⟨h.1,h.2.1⟩⟩
theorem R4{T:Nat}(hT:0<T){l:List Prd}(hl:∀p∈l,PCk T p):Prts T l (Ez T l):=by
 have key:∀(r d L:List Prd),Prts T d L→(∀p∈r,PCk T p)→Prts T (d++r) (r.foldl (fun L p=>E5 p L) L):=by
  intro r;induction r with
  |nil=>intro d L h _;simpa using h
  |cons p r ih=>intro d L h hr;rw[xG];have:=ih (d++[p]) (E5 p L) (Jv h (hr p (by simp))) (fun q hq=>hr q (by simp[hq]));simpa using this
 have:=key l [] [Wt T] (Ke T hT) hl;simpa[Ez]using this
end Go.Abs
namespace Go.Abs
def Q8:Prd→Nat→Nat×Int
 |[],_=>(0,0)
 |(x::_)::_,i=>(i,x.lo)
 |[]::p,i=>Q8 p (i+1)
def y0q(a b:Nat×Int):Bool:=decide (a.1<b.1) || (decide (a.1=b.1) && decide (a.2<b.2))
theorem Bi(a b:Nat×Int):y0q a b=true↔A5 a.1 a.2 b.1 b.2:=by simp[y0q,A5]
theorem Ve:∀(p:Prd) (i:Nat),(∀s∈p,Sep s)→(∃s∈p,s≠[])→∃t x r,p[t]? =some (x::r)∧Q8 p i=(i+t,x.lo)∧∀j,j<t→p[j]? =some []
 |[],_,_,⟨s,hs,_⟩=>by cases hs
 |(x::r)::p,i,_,_=>⟨0,x,r,rfl,rfl,fun j hj=>by omega⟩
 |[]::p,i,h,⟨s,hs,hn⟩=>by
  have z1:s∈p:=by
   rcases zU.1 hs with rfl|hs
   ·exact absurd rfl hn
   ·exact hs
  obtain⟨t,x,r,h1,h2,h3⟩:=Ve p (i+1) (fun s hs=>h s (by simp[hs])) ⟨s,z1,hn⟩;refine⟨t+1,x,r,by simpa using h1,by rw[Q8,h2];congr 1;omega,fun j hj=> ?_⟩;cases j with
  |zero=>rfl
  |succ j=>simpa using h3 j (by omega)
theorem Ee{T:Nat}{p:Prd}(h:PWf T p)(hn:∃t n,PM p t n):PM p (Q8 p 0).1 (Q8 p 0).2∧∀t n,PM p t n→((Q8 p 0).1=t∧(Q8 p 0).2=n)∨A5 (Q8 p 0).1 (Q8 p 0).2 t n:=by
 obtain⟨t0,n0,s0,z1,m0⟩:=hn;have z6:s0≠[]:=fun e=>by subst e;simp[M]at m0
 obtain⟨t,x,r,h1,h2,h3⟩:=Ve p 0 (fun s hs=>(h.2 s hs).1) ⟨s0,zF z1,z6⟩;rw[Nat.zero_add]at h2;rw[h2];have hx:=(h.2 _ (zF h1)).1;refine⟨⟨_,h1,(E4 ..).2 (.inl ⟨yJ _,hx.1 x (by simp)⟩)⟩,fun t' n' hm=> ?_⟩;obtain⟨s,hs,hm⟩:=hm;simp only;rcases vY t' t with hlt|rfl|hgt
 ·rw[h3 t' hlt]at hs;cases hs;simp[M]at hm
 ·rw[h1]at hs;cases hs;have:=hx.lowc hm;unfold A5;omega
 ·exact .inr (.inl hgt)
theorem L8{T:Nat}{p q:Prd}(hp:PWf T p)(z1:∃t n,PM p t n)(hq:PWf T q)(z6:∃t n,PM q t n)(h:A5 (Q8 p 0).1 (Q8 p 0).2 (Q8 q 0).1 (Q8 q 0).2):z04 p q:=
 ⟨_,_,(Ee hp z1).1,fun t n hm=>by
  rcases(Ee hq z6).2 t n hm with⟨e1,e2⟩|h2
  ·rw[←e1,←e2];exact h
  ·exact h.trans h2⟩
def Xb(s:List Prd)(x:Prd):Nat→Nat
 |0=>0
 |j+1=>match s[j]? with
  |some y=>if y0q (Q8 x 0) (Q8 y 0)=true then Xb s x j else j+1
  |none=>j+1
def Lv(s:List Prd)(x:Prd):List Prd:=s.take (Xb s x s.length)++x::s.drop (Xb s x s.length)
def Lz(L:List Prd):List Prd:=L.foldl Lv []
theorem Cm(s:List Prd)(x:Prd):∀j,j≤s.length→Xb s x j≤j∧(∀i,Xb s x j≤i→i<j→∀h:i<s.length,y0q (Q8 x 0) (Q8 s[i] 0)=true)∧(∀i,i+1=Xb s x j→∀h:i<s.length,y0q (Q8 x 0) (Q8 s[i] 0)=false)
 |0,_=>⟨zK _,fun i _ h=>by omega,fun i h=>by simp[Xb]at h⟩
 |j+1,hj=>by
  have z1:j<s.length:=by omega
  rw[Xb,zD z1];simp only;by_cases hb:y0q (Q8 x 0) (Q8 s[j] 0)=true
  ·rw[if_pos hb];obtain⟨h1,h2,h3⟩:=Cm s x j (by omega);refine⟨by omega,fun i hi z6 hl=> ?_,h3⟩;by_cases hij:i=j
   ·subst hij;exact hb
   ·exact h2 i hi (by omega) hl
  ·rw[if_neg hb];refine⟨zK _,fun i hi z6=>by omega,fun i hi hl=> ?_⟩;have:i=j:=by omega
   subst this;simpa using hb
theorem P8(s:List Prd)(x:Prd):(Lv s x).Perm (x::s):=by unfold Lv;refine vu.trans ?_;rw[xM]
def Ld(p q:Prd):Prop:=A5 (Q8 p 0).1 (Q8 p 0).2 (Q8 q 0).1 (Q8 q 0).2
theorem B9{s:List Prd}{x:Prd}(hs:s.Pairwise Ld)(hd:∀y∈s,Q8 y 0≠Q8 x 0):(Lv s x).Pairwise Ld:=by
 obtain⟨h1,h2,h3⟩:=Cm s x s.length (zK _);unfold Lv;generalize Xb s x s.length=k at *
 have z1:=hs;rw[←xM k s]at z1;obtain⟨p1,p2,p3⟩:=zY.1 z1;have z7:∀y∈s.drop k,Ld x y:=fun y hy=>by obtain⟨i,hi⟩:=yF.1 hy;rw[List.getElem?_drop]at hi;obtain⟨hl,e⟩:=zA.1 hi;have:=h2 (k+i) (by omega) hl hl;rw[e]at this;exact(Bi _ _).1 this
 have z8:∀i,i+1=k→∀h:i<s.length,Ld s[i] x:=fun i hi hl=>by
  have h4:=h3 i hi hl;have zc:=hd s[i] (zG hl);unfold Ld;rcases vY (Q8 s[i] 0).1 (Q8 x 0).1 with a|a|a
  ·exact .inl a
  ·rcases tg (Q8 s[i] 0).2 (Q8 x 0).2 with b|b|b
   ·exact .inr ⟨a,b⟩
   ·exact absurd (Prod.ext a b) zc
   ·have:y0q (Q8 x 0) (Q8 s[i] 0)=true:=(Bi _ _).2 (.inr ⟨a.symm,b⟩);rw[this]at h4;cases h4
  ·have:y0q (Q8 x 0) (Q8 s[i] 0)=true:=(Bi _ _).2 (.inl a);rw[this]at h4;cases h4
 have z6:∀y∈s.take k,Ld y x:=fun y hy=>by
  obtain⟨i,hi⟩:=yF.1 hy;rw[List.getElem?_take]at hi;split at hi
  ·rename_i zd;obtain⟨hl,e⟩:=zA.1 hi;obtain⟨k',rfl⟩:∃k',k=k'+1:=⟨k - 1,by omega⟩
   have za:k'<s.length:=by omega
   have zb:=z8 k' rfl za;by_cases hij:i=k'
   ·subst hij;rw[←e];exact zb
   ·have:=yD.1 hs i k' hl za (by omega);rw[e]at this;exact A5.trans this zb
  ·cases hi
 refine zY.2 ⟨p1,z_.2 ⟨z7,p2⟩,fun y hy z hz=> ?_⟩;rcases zU.1 hz with rfl|hz
 ·exact z6 y hy
 ·exact p3 y hy z hz
theorem Ko(L:List Prd)(hd:L.Pairwise (fun p q=>Q8 p 0≠Q8 q 0)):(Lz L).Perm L∧(Lz L).Pairwise Ld:=by
 have key:∀(r s:List Prd),s.Pairwise Ld→(s++r).Pairwise (fun p q=>Q8 p 0≠Q8 q 0)→(r.foldl Lv s).Perm (s++r)∧(r.foldl Lv s).Pairwise Ld:=by
  intro r;induction r with
  |nil=>intro s h _;simpa using h
  |cons x r ih=>intro s h hd;obtain⟨d1,d2,d3⟩:=zY.1 hd;have hi:=B9 h (fun y hy=>d3 y hy x (by simp));have hp:=P8 s x;have z1:(Lv s x++r).Perm (s++x::r):=(hp.append_right r).trans (vu (l₁:=s) (a:=x) (l₂:=r)).symm;have z6:(Lv s x++r).Pairwise (fun p q=>Q8 p 0≠Q8 q 0):=(z1.pairwise_iff (fun h=>Ne.symm h)).2 hd;obtain⟨i1,i2⟩:=ih (Lv s x) hi z6;rw[xG];exact⟨i1.trans z1,i2⟩
 have h:=key L [] List.Pairwise.nil (by simpa using hd);unfold Lz;simpa using h
def Wa(T:Nat)(l:List Prd):List Prd:=Lz (Ez T l)
theorem X7{T:Nat}{l L:List Prd}{p:Prd}(h:Prts T l L)(hp:PCk T p)(hd:L.Pairwise (fun a b=>∀t n,PM a t n→¬PM b t n)):(E5 p L).Pairwise (fun a b=>∀t n,PM a t n→¬PM b t n):=by
 have z7:(Ei p).length=T:=by simp[Ei,hp.1]
 have z8:∀c∈L,∀q∈(if W2 (Wv c p)then []else [Wv c p])++(if W2 (Wv c (Ei p))then []else [Wv c (Ei p)]),∀t n,PM q t n→PM c t n:=by
  intro c hc q hq t n hm;rcases zO.1 hq with hq|hq
  ·split at hq
   ·cases hq
   ·obtain rfl:=zJ.1 hq;exact((Ry (h.wf c hc).1 hp.1 t n).1 hm).1
  ·split at hq
   ·cases hq
   ·obtain rfl:=zJ.1 hq;exact((Ry (h.wf c hc).1 z7 t n).1 hm).1
 unfold E5;rw[vT];refine⟨fun c hc=> ?_,?_⟩
 ·refine zY.2 ⟨by split<;>simp,by split<;>simp,fun a ha b hb t n z1 z6=> ?_⟩;split at ha
  ·cases ha
  ·split at hb
   ·cases hb
   ·obtain rfl:=zJ.1 ha;obtain rfl:=zJ.1 hb;exact((Zi hp t n).1 ((Ry (h.wf c hc).1 z7 t n).1 z6).2).2 ((Ry (h.wf c hc).1 hp.1 t n).1 z1).2
 ·exact hd.imp_of_mem (fun {a b} ha hb hab x hx y hy t n z1 z6=>hab t n (z8 a ha x hx t n z1) (z8 b hb y hy t n z6))
theorem Dl{T:Nat}(hT:0<T){l:List Prd}(hl:∀p∈l,PCk T p):(Ez T l).Pairwise (fun a b=>∀t n,PM a t n→¬PM b t n):=by
 have key:∀(r d L:List Prd),Prts T d L→(∀p∈r,PCk T p)→L.Pairwise (fun a b=>∀t n,PM a t n→¬PM b t n)→(r.foldl (fun L p=>E5 p L) L).Pairwise (fun a b=>∀t n,PM a t n→¬PM b t n):=by
  intro r;induction r with
  |nil=>intro d L _ _ h;simpa using h
  |cons p r ih=>intro d L h hr hd;rw[xG];exact ih (d++[p]) (E5 p L) (Jv h (hr p (by simp))) (fun q hq=>hr q (by simp[hq])) (X7 h (hr p (by simp)) hd)
 exact key l [] [Wt T] (Ke T hT) hl (by simp)
theorem Un{T:Nat}(hT:0<T){l:List Prd}(hl:∀p∈l,PCk T p):Prts T l (Wa T l)∧(Wa T l).Pairwise z04:=by
 have h:=R4 hT hl;have hd:(Ez T l).Pairwise (fun p q=>Q8 p 0≠Q8 q 0):=(Dl hT hl).imp_of_mem (fun {a b} ha hb hab e=>by
  have h1:=(Ee (h.wf a ha) (h.ne a ha)).1;have h2:=(Ee (h.wf b hb) (h.ne b hb)).1;rw[←e]at h2;exact hab _ _ h1 h2)
 obtain⟨h1,h2⟩:=Ko _ hd;have h3:Prts T l (Wa T l):=h.perm h1.symm;refine⟨h3,?_⟩;exact h2.imp_of_mem (fun {a b} ha hb hab=>L8 (h3.wf a ha) (h3.ne a ha) (h3.wf b hb) (h3.ne b hb) hab)
end Go.Abs
namespace Go.Abs
def Wi(l:List Prd)(i:Nat):List Iv:=l.flatMap fun p=>p.getD i []
def Wk(l:List Prd)(i:Nat):List Int:=v08 (⟨-1099511627776,1099511627776⟩::Wi l i)
def Ty:List Int→List Iv
 |a::b::r=>⟨a,b - 1⟩::Ty (b::r)
 |_=>[]
def U5(l:List Prd)(i:Nat)(n:Int):List Bool:=l.map fun p=>O1 (p.getD i []) n
def Ul(p:Prd)(i:Nat)(x:Iv):Prd:=p.set i (p.getD i []++[x])
def Yn(T i:Nat)(sg:List Bool)(x:Iv):List (List Bool×Prd)→List (List Bool×Prd)
 |[]=>[(sg,Ul (zT T []) i x)]
 |(s,p)::r=>if s=sg then(s,Ul p i x)::r else(s,p)::Yn T i sg x r
def Kw(T:Nat)(l:List Prd):List (Nat×Iv):=(yA T).flatMap fun i=>(Ty (Wk l i)).map fun x=>(i,x)
def I5(T:Nat)(l:List Prd):List (List Bool×Prd):=(Kw T l).foldl (fun st a=>Yn T a.1 (U5 l a.1 a.2.lo) a.2 st) []
def Ru(p:Prd):Prd:=p.map (Wc [])
def Ek(T:Nat)(l:List Prd):List Prd:=(I5 T l).map fun g=>Ru g.2
def u10(a:Nat×Iv)(t:Nat)(n:Int):Prop:=t=a.1∧a.2.lo≤n∧n≤a.2.hi
structure GInv (T:Nat) (sig:Nat→Int→List Bool) (D:Nat→Int→Prop) (st:List (List Bool×Prd)):Prop where
 len:∀g∈st,g.2.length=T
 asc:∀g∈st,∀s∈g.2,(∀x∈s,x.lo≤x.hi)∧s.Pairwise (fun x y=>x.hi<y.lo)
 mem:∀g∈st,∀t n,PM g.2 t n↔D t n∧sig t n=g.1
 ne:∀g∈st,∃t n,PM g.2 t n
 nd:st.Pairwise (fun g h=>g.1≠h.1)
 all:∀t n,D t n→∃g∈st,g.1=sig t n
 ord:st.Pairwise (fun g h=>∃t n,PM g.2 t n∧∀t' n',PM h.2 t' n'→A5 t n t' n')
theorem W7{p:Prd}{i:Nat}(h:i<p.length):p.getD i []=p[i]:=by simp[yQ,h]
theorem x1m{T:Nat}{p:Prd}(hp:p.length=T){i:Nat}(hi:i<T)(x:Iv)(t:Nat)(n:Int):PM (Ul p i x) t n↔PM p t n∨u10 (i,x) t n:=by
 unfold PM Ul u10;have z1:i<p.length:=by omega
 rw[W7 z1];by_cases ht:t=i
 ·subst ht;rw[zH z1,zD z1];constructor
  ·rintro⟨s,hs,hm⟩;cases hs;rcases(L5 ..).1 hm with h|h
   ·exact .inl ⟨_,rfl,h⟩
   ·rcases(E4 ..).1 h with h|h
    ·exact .inr ⟨rfl,h⟩
    ·simp[M]at h
  ·rintro(⟨s,hs,hm⟩|⟨_,h⟩)
   ·cases hs;exact⟨_,rfl,(L5 ..).2 (.inl hm)⟩
   ·exact⟨_,rfl,(L5 ..).2 (.inr ((E4 ..).2 (.inl h)))⟩
 ·rw[zB (by omega)];constructor
  ·exact fun h=> .inl h
  ·rintro(h|⟨h,_⟩)
   ·exact h
   ·exact absurd h ht
theorem f0y{T:Nat}{p:Prd}(hp:p.length=T){i:Nat}(hi:i<T){x:Iv}(hx:x.lo≤x.hi)(h:∀s∈p,(∀y∈s,y.lo≤y.hi)∧s.Pairwise (fun y z=>y.hi<z.lo))(z6:∀t n,PM p t n→A5 t n i x.lo):
  ∀s∈Ul p i x,(∀y∈s,y.lo≤y.hi)∧s.Pairwise (fun y z=>y.hi<z.lo):=by
 intro s hs;have z1:i<p.length:=by omega
 rcases List.mem_or_eq_of_mem_set hs with hs|rfl
 ·exact h s hs
 ·rw[W7 z1];obtain⟨h1,h2⟩:=h _ (zG z1);refine⟨fun y hy=> ?_,zY.2 ⟨h2,by simp,fun y hy z hz=> ?_⟩⟩
  ·rcases zO.1 hy with hy|hy
   ·exact h1 y hy
   ·obtain rfl:=zJ.1 hy;exact hx
  ·obtain rfl:=zJ.1 hz;have:=z6 i y.hi ⟨_,zD z1,y,hy,h1 y hy,yJ _⟩;unfold A5 at this;omega
theorem Ow{T i:Nat}{sg:List Bool}{x:Iv}:∀ {st:List (List Bool×Prd)},(∀g∈st,g.1≠sg)→Yn T i sg x st=st++[(sg,Ul (zT T []) i x)]
 |[],_=>rfl
 |(s,p)::r,h=>by rw[Yn,if_neg (h (s,p) (by simp)),Ow (fun g hg=>h g (by simp[hg]))];rfl
theorem Su{T i:Nat}{sg:List Bool}{x:Iv}:∀ {st:List (List Bool×Prd)},(∃g∈st,g.1=sg)→∃a p b,st=a++(sg,p)::b∧(∀g∈a,g.1≠sg)∧Yn T i sg x st=a++(sg,Ul p i x)::b
 |[],⟨g,hg,_⟩=>by cases hg
 |(s,p)::r,⟨g,hg,he⟩=>by
  by_cases hs:s=sg
  ·subst hs;exact⟨[],p,r,rfl,by simp,by rw[Yn,if_pos rfl];rfl⟩
  ·have z1:g∈r:=by
    rcases zU.1 hg with rfl|hg
    ·exact absurd he hs
    ·exact hg
   obtain⟨a,q,b,h1,h2,h3⟩:=Su (T:=T) (i:=i) (x:=x) ⟨g,z1,he⟩;refine⟨(s,p)::a,q,b,by rw[h1];rfl,fun g hg=> ?_,by rw[Yn,if_neg hs,h3];rfl⟩;rcases zU.1 hg with rfl|hg
   ·exact hs
   ·exact h2 g hg
theorem Lk(T t:Nat)(n:Int):¬PM (zT T []) t n:=by rintro⟨s,hs,hm⟩;obtain rfl:=wV (zF hs);simp[M]at hm
theorem GInv.step{T:Nat}{sig:Nat→Int→List Bool}{D:Nat→Int→Prop}{st:List (List Bool×Prd)}(h:GInv T sig D st){i:Nat}{x:Iv}(hi:i<T)(hx:x.lo≤x.hi)(hc:∀n,x.lo≤n→n≤x.hi→sig i n=sig i x.lo)(hD:∀t n,D t n→∀n',x.lo≤n'→n'≤x.hi→A5 t n i n'):
  GInv T sig (fun t n=>D t n∨u10 (i,x) t n) (Yn T i (sig i x.lo) x st):=by
 have z7:∀t n,u10 (i,x) t n→sig t n=sig i x.lo:=fun t n hp=>by obtain⟨rfl,h1,h2⟩:=hp;exact hc n h1 h2
 have zb:∀t n,D t n→∀t' n',u10 (i,x) t' n'→A5 t n t' n':=fun t n hd t' n' hp=>by obtain⟨rfl,h1,h2⟩:=hp;exact hD t n hd n' h1 h2
 have zc:u10 (i,x) i x.lo:=⟨rfl,yJ _,hx⟩
 by_cases hit:∃g∈st,g.1=sig i x.lo
 ·obtain⟨a,p,b,h1,h2,h3⟩:=Su (T:=T) (i:=i) (x:=x) hit;rw[h3];subst h1;generalize zh:sig i x.lo=s0 at *
  have za:(s0,p)∈a++(s0,p)::b:=by simp
  have zd:=h.mem _ za;have hlen:=h.len _ za;have zf:=h.nd;obtain⟨n1,n2,n3⟩:=zY.1 zf;obtain⟨n4,n5⟩:=z_.1 n2;obtain⟨o1,o2,o3⟩:=zY.1 h.ord;obtain⟨o4,o5⟩:=z_.1 o2;have z1:=fun t n=>x1m hlen hi x t n;have hold:∀g∈a++(s0,Ul p i x)::b,(g∈a++(s0,p)::b∧g.1≠s0)∨g=(s0,Ul p i x):=fun g hg=>by
   rcases zO.1 hg with hg|hg
   ·exact .inl ⟨by simp[hg],h2 g hg⟩
   ·rcases zU.1 hg with rfl|hg
    ·exact .inr rfl
    ·exact .inl ⟨by simp[hg],(n4 g hg).symm⟩
  refine⟨fun g hg=> ?_,fun g hg=> ?_,fun g hg t n=> ?_,fun g hg=> ?_,?_,fun t n hd=> ?_,?_⟩
  ·rcases hold g hg with⟨hg,_⟩|rfl
   ·exact h.len g hg
   ·simp[Ul,hlen]
  ·rcases hold g hg with⟨hg,_⟩|rfl
   ·exact h.asc g hg
   ·exact f0y hlen hi hx (h.asc _ za) (fun t n hm=>hD t n ((zd t n).1 hm).1 x.lo (yJ _) hx)
  ·rcases hold g hg with⟨hg,zg⟩|rfl
   ·rw[h.mem g hg t n];constructor
    ·exact fun hh=>⟨.inl hh.1,hh.2⟩
    ·rintro⟨hd|hd,hs⟩
     ·exact⟨hd,hs⟩
     ·exact absurd (by rw[←hs,z7 t n hd]) zg
   ·rw[z1,zd];constructor
    ·rintro(⟨hd,hs⟩|hd)
     ·exact⟨.inl hd,hs⟩
     ·exact⟨.inr hd,z7 t n hd⟩
    ·rintro⟨hd|hd,hs⟩
     ·exact .inl ⟨hd,hs⟩
     ·exact .inr hd
  ·rcases hold g hg with⟨hg,_⟩|rfl
   ·exact h.ne g hg
   ·exact⟨i,x.lo,(z1 i x.lo).2 (.inr zc)⟩
  ·exact zY.2 ⟨n1,z_.2 ⟨fun g hg=>n4 g hg,n5⟩,fun g hg k hk=>by
    rcases zU.1 hk with rfl|hk
    ·exact h2 g hg
    ·exact n3 g hg k (by simp[hk])⟩
  ·rcases hd with hd|hd
   ·obtain⟨g,hg,he⟩:=h.all t n hd;rcases zO.1 hg with hg|hg
    ·exact⟨g,by simp[hg],he⟩
    ·rcases zU.1 hg with rfl|hg
     ·exact⟨(s0,Ul p i x),by simp,he⟩
     ·exact⟨g,by simp[hg],he⟩
   ·exact⟨(s0,Ul p i x),by simp,(z7 t n hd).symm⟩
  ·refine zY.2 ⟨o1,z_.2 ⟨fun g hg=> ?_,o5⟩,fun g hg k hk=> ?_⟩
   ·obtain⟨t,n,e1,e2⟩:=o4 g hg;exact⟨t,n,(z1 t n).2 (.inl e1),e2⟩
   ·rcases zU.1 hk with rfl|hk
    ·obtain⟨t,n,e1,e2⟩:=o3 g hg (s0,p) (by simp);refine⟨t,n,e1,fun t' n' hm=> ?_⟩;rcases(z1 t' n').1 hm with hm|hm
     ·exact e2 t' n' hm
     ·exact zb t n ((h.mem g (by simp[hg]) t n).1 e1).1 t' n' hm
    ·exact o3 g hg k (by simp[hk])
 ·have z8:∀g∈st,g.1≠sig i x.lo:=fun g hg he=>hit ⟨g,hg,he⟩;rw[Ow z8];have ze:(zT T ([]:List Iv)).length=T:=by simp
  have z1:=fun t n=>x1m ze hi x t n;have z6:∀g∈st++[(sig i x.lo,Ul (zT T []) i x)],g∈st∨g=(sig i x.lo,Ul (zT T []) i x):=fun g hg=>by
   rcases zO.1 hg with hg|hg
   ·exact .inl hg
   ·exact .inr (zJ.1 hg)
  refine⟨fun g hg=> ?_,fun g hg=> ?_,fun g hg t n=> ?_,fun g hg=> ?_,?_,fun t n hd=> ?_,?_⟩
  ·rcases z6 g hg with hg|rfl
   ·exact h.len g hg
   ·simp[Ul]
  ·rcases z6 g hg with hg|rfl
   ·exact h.asc g hg
   ·exact f0y ze hi hx (fun s hs=>by obtain rfl:=wV hs;simp) (fun t n hm=>absurd hm (Lk T t n))
  ·rcases z6 g hg with hg|rfl
   ·rw[h.mem g hg t n];constructor
    ·exact fun hh=>⟨.inl hh.1,hh.2⟩
    ·rintro⟨hd|hd,hs⟩
     ·exact⟨hd,hs⟩
     ·exact absurd (by rw[←hs,z7 t n hd]) (z8 g hg)
   ·rw[z1];constructor
    ·rintro(hm|hd)
     ·exact absurd hm (Lk T t n)
     ·exact⟨.inr hd,z7 t n hd⟩
    ·rintro⟨hd|hd,hs⟩
     ·obtain⟨g,hg,he⟩:=h.all t n hd;exact absurd (he.trans hs) (z8 g hg)
     ·exact .inr hd
  ·rcases z6 g hg with hg|rfl
   ·exact h.ne g hg
   ·exact⟨i,x.lo,(z1 i x.lo).2 (.inr zc)⟩
  ·exact zY.2 ⟨h.nd,by simp,fun g hg k hk=>by obtain rfl:=zJ.1 hk;exact z8 g hg⟩
  ·rcases hd with hd|hd
   ·obtain⟨g,hg,he⟩:=h.all t n hd;exact⟨g,by simp[hg],he⟩
   ·exact⟨(sig i x.lo,Ul (zT T []) i x),by simp,(z7 t n hd).symm⟩
  ·refine zY.2 ⟨h.ord,by simp,fun g hg k hk=> ?_⟩;obtain rfl:=zJ.1 hk;obtain⟨t,n,e1⟩:=h.ne g hg;refine⟨t,n,e1,fun t' n' hm=> ?_⟩;rcases(z1 t' n').1 hm with hm|hm
   ·exact absurd hm (Lk T t' n')
   ·exact zb t n ((h.mem g hg t n).1 e1).1 t' n' hm
end Go.Abs
namespace Go.Abs
theorem A1:∀(cs:List Int),cs.Pairwise (·<·)→∀x∈Ty cs,x.lo≤x.hi∧x.lo∈cs∧x.hi+1∈cs∧∀d∈cs,d≤x.hi→d≤x.lo
 |[],_,x,hx=>by simp[Ty]at hx
 |[a],_,x,hx=>by simp[Ty]at hx
 |a::b::r,h,x,hx=>by
  obtain⟨h1,h2⟩:=z_.1 h;rw[Ty]at hx;rcases zU.1 hx with rfl|hx
  ·have z1:=h1 b (by simp);refine⟨by simp only;omega,by simp,by simp,fun d hd hle=> ?_⟩;simp only at hle ⊢;rcases zU.1 hd with rfl|hd
   ·omega
   ·have:b≤d:=by
     rcases zU.1 hd with rfl|hd
     ·omega
     ·have:=(z_.1 h2).1 d hd;omega
    omega
  ·obtain⟨k1,k2,k3,k4⟩:=A1 (b::r) h2 x hx;refine⟨k1,by simp only[zU]at k2 ⊢;exact .inr k2,by simp only[zU]at k3 ⊢;exact .inr k3,fun d hd hle=> ?_⟩;rcases zU.1 hd with rfl|hd
   ·have:=h1 x.lo k2;omega
   ·exact k4 d hd hle
theorem q0p:∀(cs:List Int),cs.Pairwise (·<·)→(Ty cs).Pairwise (fun x y=>x.hi<y.lo)
 |[],_=>by simp[Ty]
 |[a],_=>by simp[Ty]
 |a::b::r,h=>by
  obtain⟨h1,h2⟩:=z_.1 h;rw[Ty];refine z_.2 ⟨fun y hy=> ?_,q0p (b::r) h2⟩;obtain⟨_,k2,_,_⟩:=A1 (b::r) h2 y hy;have:b≤y.lo:=by
   rcases zU.1 k2 with e|k2
   ·omega
   ·have:=(z_.1 h2).1 y.lo k2;omega
  simp only;omega
theorem Kz:∀(cs:List Int),cs.Pairwise (·<·)→∀n,(∃a∈cs,a≤n)→(∃b∈cs,n<b)→∃x∈Ty cs,x.lo≤n∧n≤x.hi
 |[],_,n,⟨a,ha,_⟩,_=>by cases ha
 |[a],_,n,⟨c,hc,h1⟩,⟨d,hd,h2⟩=>by obtain rfl:=zJ.1 hc;obtain rfl:=zJ.1 hd;omega
 |a::b::r,h,n,⟨c,hc,h1⟩,⟨d,hd,h2⟩=>by
  obtain⟨p1,p2⟩:=z_.1 h;rw[Ty];have z1:a≤n:=by
   rcases zU.1 hc with rfl|hc
   ·exact h1
   ·have:=p1 c hc;omega
  by_cases hb:n<b
  ·exact⟨⟨a,b - 1⟩,by simp,z1,by simp only;omega⟩
  ·have z6:d∈b::r:=by
    rcases zU.1 hd with rfl|hd
    ·omega
    ·exact hd
   obtain⟨x,hx,e⟩:=Kz (b::r) p2 n ⟨b,by simp,by omega⟩ ⟨d,z6,h2⟩;exact⟨x,by simp[hx],e⟩
theorem Tj{l:List Prd}{i:Nat}{x:Iv}:x∈Wi l i↔∃p∈l,x∈p.getD i []:=by simp[Wi]
theorem y1n{T:Nat}{p:Prd}(hp:PCk T p)(i:Nat):CanonL (p.getD i []):=by
 by_cases hi:i<p.length
 ·rw[W7 hi];exact hp.2 _ (zG hi)
 ·have:p.getD i []=[]:=by simp[yQ,List.getElem?_eq_none (by omega:p.length≤i)]
  rw[this];exact Ay
theorem Ya{T:Nat}{l:List Prd}(hl:∀p∈l,PCk T p)(i:Nat):(Wk l i).Pairwise (·<·)∧(-1099511627776:Int)∈Wk l i∧(1099511627777:Int)∈Wk l i∧
  (∀z∈Wk l i,-1099511627776≤z∧z≤1099511627777)∧∀p∈l,∀x∈p.getD i [],x.lo∈Wk l i∧x.hi+1∈Wk l i:=by
 obtain⟨h1,h2⟩:=u0z (⟨-1099511627776,1099511627776⟩::Wi l i);refine⟨h1,(h2 _).2 ⟨⟨-1099511627776,1099511627776⟩,by simp,.inl rfl⟩,(h2 _).2 ⟨⟨-1099511627776,1099511627776⟩,by simp,.inr (by simp)⟩,fun z hz=> ?_,fun p hp x hx=>⟨(h2 _).2 ⟨x,?_,.inl rfl⟩,(h2 _).2 ⟨x,?_,.inr rfl⟩⟩⟩
 ·obtain⟨x,hx,e⟩:=(h2 z).1 hz;rcases zU.1 hx with rfl|hx
  ·simp only at e;omega
  ·obtain⟨p,hp,hx⟩:=Tj.1 hx;have hc:=y1n (hl p hp) i;have h3:=Zv hc x hx;have h4:=(Et _).1 h3.1;have h5:=(Et _).1 h3.2;have:=(A3 hc).1 x hx;omega
 ·exact uM _ (Tj.2 ⟨p,hp,hx⟩)
 ·exact uM _ (Tj.2 ⟨p,hp,hx⟩)
theorem v0g{T:Nat}{l:List Prd}(hl:∀p∈l,PCk T p)(i:Nat){x:Iv}(hx:x∈Ty (Wk l i))(n:Int)(h1:x.lo≤n)(h2:n≤x.hi):U5 l i n=U5 l i x.lo:=by obtain⟨c1,_,_,_,c5⟩:=Ya hl i;obtain⟨_,_,_,k4⟩:=A1 _ c1 x hx;unfold U5;apply xU;intro p hp;exact v09 _ (Wk l i) (c5 p hp) x.lo n h1 (fun d hd hle=>k4 d hd (by omega))
theorem X0{T:Nat}{p:Prd}(hp:p.length=T){t:Nat}(ht:t<T)(n:Int):O1 (p.getD t []) n=true↔PM p t n:=by
 have z1:t<p.length:=by omega
 rw[W7 z1,Bv];unfold PM;rw[zD z1];simp
theorem x1y{T:Nat}{l:List Prd}(hl:∀p∈l,PCk T p){t t':Nat}(ht:t<T)(z1:t'<T)(n n':Int):U5 l t n=U5 l t' n'↔d1f l t n t' n':=by
 unfold U5 d1f;constructor
 ·intro h p hp;have:=(List.map_inj_left.1 h) p hp;rw[←X0 (hl p hp).1 ht,←X0 (hl p hp).1 z1,this]
 ·intro h;apply xU;intro p hp;have:=h p hp;rw[←X0 (hl p hp).1 ht,←X0 (hl p hp).1 z1]at this;exact yX.2 this
theorem GInv.congr{T:Nat}{sig:Nat→Int→List Bool}{D D':Nat→Int→Prop}{st:List (List Bool×Prd)}(h:GInv T sig D st)(e:∀t n,D t n↔D' t n):GInv T sig D' st:=by have:D=D':=funext fun t=>funext fun n=>propext (e t n);rw[←this];exact h
theorem C9{T:Nat}{sig:Nat→Int→List Bool}:∀(A:List (Nat×Iv)) (D:Nat→Int→Prop) (st:List (List Bool×Prd)),GInv T sig D st→(∀a∈A,a.1<T∧a.2.lo≤a.2.hi∧∀n,a.2.lo≤n→n≤a.2.hi→sig a.1 n=sig a.1 a.2.lo)→
  (∀t n,D t n→∀a∈A,∀n',a.2.lo≤n'→n'≤a.2.hi→A5 t n a.1 n')→A.Pairwise (fun a b=>∀n n',a.2.lo≤n→n≤a.2.hi→b.2.lo≤n'→n'≤b.2.hi→A5 a.1 n b.1 n')→
  GInv T sig (fun t n=>D t n∨∃a∈A,u10 a t n) (A.foldl (fun st a=>Yn T a.1 (sig a.1 a.2.lo) a.2 st) st)
 |[],D,st,h,_,_,_=>h.congr (fun t n=>by simp)
 |a::A,D,st,h,h1,h2,h3=>by
  obtain⟨i,x⟩:=a;obtain⟨e1,e2,e3⟩:=h1 (i,x) (by simp);obtain⟨p1,p2⟩:=z_.1 h3;have hs:=h.step e1 e2 e3 (fun t n hd n' q1 q2=>h2 t n hd (i,x) (by simp) n' q1 q2);rw[xG];refine(C9 A _ _ hs (fun b hb=>h1 b (by simp[hb])) (fun t n hd b hb n' q1 q2=> ?_) p2).congr (fun t n=> ?_)
  ·rcases hd with hd|hd
   ·exact h2 t n hd b (by simp[hb]) n' q1 q2
   ·obtain⟨rfl,d1,d2⟩:=hd;exact p1 b hb n n' d1 d2 q1 q2
  ·simp[or_assoc]
theorem Gz{T:Nat}{l:List Prd}{a:Nat×Iv}:a∈Kw T l↔a.1<T∧a.2∈Ty (Wk l a.1):=by
 unfold Kw;rw[xL];constructor
 ·rintro⟨i,hi,h⟩;obtain⟨x,hx,rfl⟩:=zM.1 h;exact⟨yM.1 hi,hx⟩
 ·rintro⟨h1,h2⟩;exact⟨a.1,yM.2 h1,zM.2 ⟨a.2,h2,rfl⟩⟩
theorem j09{T:Nat}{l:List Prd}(hl:∀p∈l,PCk T p):(Kw T l).Pairwise (fun a b=>∀n n',a.2.lo≤n→n≤a.2.hi→b.2.lo≤n'→n'≤b.2.hi→A5 a.1 n b.1 n'):=by
 unfold Kw;rw[vT];refine⟨fun i _=> ?_,?_⟩
 ·rw[xR];refine(q0p _ (Ya hl i).1).imp (fun {x y} h n n' h1 h2 h3 h4=> .inr ⟨rfl,by simp only at h2 h3;omega⟩)
 ·refine List.pairwise_lt_range.imp (fun {i j} h a ha b hb n n' _ _ _ _=> ?_);obtain⟨x,_,rfl⟩:=zM.1 ha;obtain⟨y,_,rfl⟩:=zM.1 hb;exact .inl h
theorem f08{T:Nat}{l:List Prd}(hl:∀p∈l,PCk T p):GInv T (U5 l) (fun t n=>t<T∧inR n) (I5 T l):=by
 have h0:GInv T (U5 l) (fun _ _=>False) []:=⟨by simp,by simp,by simp,by simp,by simp,fun _ _ h=>h.elim,by simp⟩
 refine(C9 (Kw T l) _ [] h0 (fun a ha=> ?_) (fun _ _ h=>h.elim) (j09 hl)).congr (fun t n=> ?_)
 ·obtain⟨h1,h2⟩:=Gz.1 ha;exact⟨h1,(A1 _ (Ya hl a.1).1 _ h2).1,fun n q1 q2=>v0g hl a.1 h2 n q1 q2⟩
 ·obtain⟨c1,c2,c3,c4,c5⟩:=Ya hl t;constructor
  ·rintro(h|⟨a,ha,rfl,h1,h2⟩)
   ·exact h.elim
   ·obtain⟨q1,q2⟩:=Gz.1 ha;obtain⟨s1,s2,s3,s4⟩:=A1 _ c1 _ q2;have:=c4 _ s2;have:=c4 _ s3;exact⟨q1,by unfold inR;omega⟩
  ·rintro⟨h1,h2⟩;unfold inR at h2;obtain⟨x,hx,e1,e2⟩:=Kz _ c1 n ⟨_,c2,h2.1⟩ ⟨_,c3,by omega⟩;exact .inr ⟨(t,x),Gz.2 ⟨h1,hx⟩,rfl,e1,e2⟩
theorem Oh{s:List Iv}(h:(∀x∈s,x.lo≤x.hi)∧s.Pairwise (fun x y=>x.hi<y.lo)):Sep (Wc [] s)∧∀n,M (Wc [] s) n↔M s n:=by have hb:Bp s:=h.2.imp_of_mem (fun {x y} hx hy hxy=>by have:=h.1 x hx;omega);have:=Sm s [] Zc hb h.1 (by simp);refine⟨this.1,fun n=> ?_⟩;rw[this.2 n];simp[M]
theorem Zh{T:Nat}{p:Prd}(h:∀s∈p,(∀x∈s,x.lo≤x.hi)∧s.Pairwise (fun x y=>x.hi<y.lo))(t:Nat)(n:Int):PM (Ru p) t n↔PM p t n:=by
 unfold PM Ru;rw[zQ];constructor
 ·rintro⟨s,hs,hm⟩;obtain⟨a,ha,rfl⟩:=zN.1 hs;exact⟨a,ha,((Oh (h a (zF ha))).2 n).1 hm⟩
 ·rintro⟨a,ha,hm⟩;exact⟨Wc [] a,by rw[ha];rfl,((Oh (h a (zF ha))).2 n).2 hm⟩
theorem Ak{T:Nat}{l:List Prd}(hl:∀p∈l,PCk T p):Prts T l (Ek T l)∧(Ek T l).Pairwise z04:=by
 have h:=f08 hl;have z1:∀g∈I5 T l,∀t n,PM (Ru g.2) t n↔(t<T∧inR n)∧U5 l t n=g.1:=fun g hg t n=>by rw[Zh (T:=T) (h.asc g hg),h.mem g hg]
 have z6:∀p∈Ek T l,∃g∈I5 T l,p=Ru g.2:=fun p hp=>by obtain⟨g,hg,rfl⟩:=zM.1 hp;exact⟨g,hg,rfl⟩
 refine⟨⟨fun p hp=> ?_,fun p hp=> ?_,fun t n ht hn=> ?_,fun p hp t n hm t' n'=> ?_⟩,?_⟩
 ·obtain⟨g,hg,rfl⟩:=z6 p hp;refine⟨by simp[Ru,h.len g hg],fun s hs=> ?_⟩;obtain⟨i,hi⟩:=yF.1 hs;have z7:=hs;obtain⟨a,ha,rfl⟩:=zM.1 hs;exact⟨(Oh (h.asc g hg a ha)).1,fun n hn=>((z1 g hg i n).1 ⟨_,hi,hn⟩).1.2⟩
 ·obtain⟨g,hg,rfl⟩:=z6 p hp;obtain⟨t,n,hm⟩:=h.ne g hg;exact⟨t,n,(Zh (T:=T) (h.asc g hg) t n).2 hm⟩
 ·obtain⟨g,hg,he⟩:=h.all t n ⟨ht,hn⟩;exact⟨Ru g.2,zM.2 ⟨g,hg,rfl⟩,(z1 g hg t n).2 ⟨⟨ht,hn⟩,he.symm⟩⟩
 ·obtain⟨g,hg,rfl⟩:=z6 p hp;obtain⟨⟨q1,q2⟩,q3⟩:=(z1 g hg t n).1 hm;rw[z1 g hg];constructor
  ·rintro⟨⟨h1,h2⟩,h3⟩;exact⟨h1,h2,(x1y hl q1 h1 n n').1 (q3.trans h3.symm)⟩
  ·rintro⟨h1,h2,h3⟩;exact⟨⟨h1,h2⟩,((x1y hl q1 h1 n n').2 h3).symm.trans q3⟩
 ·unfold Ek;rw[xR];refine h.ord.imp_of_mem (fun {a b} ha hb hab=> ?_);obtain⟨t,n,e1,e2⟩:=hab;exact⟨t,n,(Zh (T:=T) (h.asc a ha) t n).2 e1,fun t' n' hm=>e2 t' n' ((Zh (T:=T) (h.asc b hb) t' n').1 hm)⟩
theorem Sv{T:Nat}(hT:0<T){l:List Prd}(hl:∀p∈l,PCk T p):Ek T l=Wa T l:=by obtain⟨a1,a2⟩:=Ak hl;obtain⟨b1,b2⟩:=Un hT hl;exact a1.unique b1 a2 b2
end Go.Abs
namespace Go.Abs
structure Sy where
 ty:Int
 num:Int
deriving Inhabited,DecidableEq
structure Mv where
 src:Int
 dst:Int
 on:Prd
deriving Inhabited
structure Aut where
 types:Int
 fin:List Bool
 mv:List Mv
deriving Inhabited
def Oz:Aut:=⟨0,[],[]⟩
def z0y:List (List Iv)→Int
 |[]=>0
 |s::r=>if ckR s≠0 then ckR s else z0y r
def Ew(T:Int)(p:Prd):Int:=if T<1∨16<T then 2 else if(p.length:Int)≠T then 15 else z0y p
def w06(T:Int)(n:Nat):List Mv→Int
 |[]=>0
 |m::r=>if ¬((0≤m.src∧m.src<n)∧(0≤m.dst∧m.dst<n))then 2 else if Ew T m.on≠0 then Ew T m.on else w06 T n r
def Wx(a:Aut):Int:=if a.types<1∨16<a.types then 2 else if a.fin.length<1∨256<a.fin.length∨2048<a.mv.length then 5 else w06 a.types a.fin.length a.mv
theorem q00:∀(p:List (List Iv)),z0y p=0↔∀s∈p,CanonL s
 |[]=>by simp[z0y]
 |s::r=>by
  rw[z0y];by_cases h:ckR s=0
  ·rw[if_neg (fun k=>k h),q00 r];simp[(C7 s).1 h]
  ·rw[if_pos h];refine⟨fun k=>absurd k h,fun k=>absurd ((C7 s).2 (k s (by simp))) h⟩
theorem El(T:Int)(p:Prd):Ew T p=0↔(1≤T∧T≤16)∧PCk T.toNat p:=by
 unfold Ew PCk;by_cases h1:T<1∨16<T
 ·rw[if_pos h1];exact⟨fun h=>by omega,fun h=>by omega⟩
 ·rw[if_neg h1];by_cases h2:(p.length:Int)≠T
  ·rw[if_pos h2];exact⟨fun h=>by omega,fun h=>by omega⟩
  ·rw[if_neg h2,q00];exact⟨fun h=>⟨by omega,by omega,h⟩,fun h=>h.2.2⟩
structure OkMv (T:Nat) (n:Nat) (m:Mv):Prop where
 src:0≤m.src∧m.src<n
 dst:0≤m.dst∧m.dst<n
 on:PCk T m.on
structure OkA (a:Aut):Prop where
 types:1≤a.types∧a.types≤16
 fin:1≤a.fin.length∧a.fin.length≤256
 mvs:a.mv.length≤2048
 mv:∀m∈a.mv,OkMv a.types.toNat a.fin.length m
theorem q0v{T:Int}(hT:1≤T∧T≤16)(n:Nat):∀(l:List Mv),w06 T n l=0↔∀m∈l,OkMv T.toNat n m
 |[]=>by simp[w06]
 |m::r=>by
  rw[w06];by_cases h1:(0≤m.src∧m.src<n)∧(0≤m.dst∧m.dst<n)
  ·rw[if_neg (fun k=>k h1)];by_cases h2:Ew T m.on=0
   ·rw[if_neg (fun k=>k h2),q0v hT n r];have h3:=((El T m.on).1 h2).2;constructor
    ·intro h x hx;rcases zU.1 hx with rfl|hx
     ·exact⟨h1.1,h1.2,h3⟩
     ·exact h x hx
    ·exact fun h x hx=>h x (by simp[hx])
   ·rw[if_pos h2];exact⟨fun h=>absurd h h2,fun h=>absurd ((El T m.on).2 ⟨hT,(h m (by simp)).on⟩) h2⟩
  ·rw[if_pos h1];exact⟨fun h=>(by cases h),fun h=>absurd ⟨(h m (by simp)).src,(h m (by simp)).dst⟩ h1⟩
theorem U7(a:Aut):Wx a=0↔OkA a:=by
 unfold Wx;by_cases h1:a.types<1∨16<a.types
 ·rw[if_pos h1];exact⟨fun h=>(by cases h),fun h=>by have:=h.types;omega⟩
 ·rw[if_neg h1];by_cases h2:a.fin.length<1∨256<a.fin.length∨2048<a.mv.length
  ·rw[if_pos h2];exact⟨fun h=>(by cases h),fun h=>by have:=h.fin;have:=h.mvs;omega⟩
  ·rw[if_neg h2,q0v (by omega)];exact⟨fun h=>⟨by omega,by omega,by omega,h⟩,fun h=>h.mv⟩
def Rp(p:Prd)(x:Sy):Bool:=decide (0≤x.ty) && decide (x.ty<p.length) && O1 (p.getD x.ty.toNat []) x.num
def G3(T:Int)(x:Sy):Int:=if x.ty<0∨T≤x.ty then 6 else if x.num< -1099511627776∨1099511627776<x.num then 2 else 0
theorem Fj(T:Int)(x:Sy):G3 T x=0↔(0≤x.ty∧x.ty<T)∧inR x.num:=by
 unfold G3 inR;split
 ·constructor
  ·intro h;cases h
  ·intro h;omega
 ·split
  ·constructor
   ·intro h;cases h
   ·intro h;omega
  ·constructor
   ·intro _;omega
   ·intro _;rfl
theorem Pq{T:Nat}{p:Prd}(hp:p.length=T)(x:Sy)(hx:0≤x.ty):Rp p x=true↔PM p x.ty.toNat x.num:=by
 unfold Rp;by_cases h:x.ty<p.length
 ·have h1:x.ty.toNat<T:=by omega
  rw[←X0 hp h1];simp[h,hx]
 ·have:¬PM p x.ty.toNat x.num:=by rintro⟨s,hs,_⟩;have:=(zA.1 hs).1;omega
  simp[h,this]
def Wp(n:Nat):List Int:=(yA n).map fun i:Nat=>(i:Int)
theorem W1{n:Nat}{z:Int}:z∈Wp n↔0≤z∧z<n:=by
 unfold Wp;rw[zM];constructor
 ·rintro⟨i,hi,rfl⟩;have:=yM.1 hi;omega
 ·rintro⟨h1,h2⟩;exact⟨z.toNat,yM.2 (by omega),by omega⟩
theorem Xw(n:Nat):(Wp n).Pairwise (·<·):=by unfold Wp;rw[xR];exact List.pairwise_lt_range.imp (fun h=>by omega)
def k0f(a:Aut)(l:List Int)(x:Sy)(j:Int):Bool:=a.mv.any fun m=>l.contains m.src && Rp m.on x && decide (m.dst=j)
def Q6(a:Aut)(l:List Int)(x:Sy):List Int:=(Wp a.fin.length).filter (k0f a l x)
def u17(a:Aut)(l:List Int)(x:Sy):List Int:=Go.Lib.compact (R7 ((a.mv.filter fun m=>l.contains m.src && Rp m.on x).map (·.dst)))
theorem w1k(zs:List Int):(R7 zs).Pairwise (·≤·):=by have:=vS (le:=fun x y:Int=>decide (x≤y)) (fun a b c h1 h2=>by simp at h1 h2 ⊢;omega) (fun a b=>by simp;omega) zs;simpa[R7]using this
theorem Cs(zs:List Int):(Go.Lib.compact (R7 zs)).Pairwise (·<·)∧∀z,z∈Go.Lib.compact (R7 zs)↔z∈zs:=by have h:=V1 _ (w1k zs) _ (zK _);refine⟨h.1,fun z=> ?_⟩;have h2:=h.2 z;rw[zZ]at h2;rw[Go.Lib.compact,h2,R7,uW]
theorem T8{a b:List Int}(ha:a.Pairwise (·<·))(hb:b.Pairwise (·<·))(h:∀z,z∈a↔z∈b):a=b:=by have hn:∀ {l:List Int},l.Pairwise (·<·)→l.Nodup:=fun hl=>hl.imp (fun h e=>by omega);exact List.Perm.eq_of_pairwise (le:=(·<·)) (fun a b _ _ h1 h2=>by omega) ha hb ((un (hn ha) (hn hb)).2 h)
theorem Yr(a:Aut)(l:List Int)(x:Sy):(Q6 a l x).Pairwise (·<·):=(Xw _).filter _
theorem Eb{a:Aut}{l:List Int}{x:Sy}{j:Int}:j∈Q6 a l x↔(0≤j∧j<a.fin.length)∧∃m∈a.mv,m.src∈l∧Rp m.on x=true∧m.dst=j:=by unfold Q6 k0f;rw[wC,W1,xN];simp[and_assoc]
theorem u1w{a:Aut}(h:∀m∈a.mv,0≤m.dst∧m.dst<a.fin.length)(l:List Int)(x:Sy):u17 a l x=Q6 a l x:=by
 obtain⟨h1,h2⟩:=Cs ((a.mv.filter fun m=>l.contains m.src && Rp m.on x).map (·.dst));refine T8 h1 (Yr a l x) fun z=> ?_;rw[u17,h2,Eb];constructor
 ·intro hz;obtain⟨m,hm,rfl⟩:=zM.1 hz;obtain⟨hm,hc⟩:=wC.1 hm;simp at hc;exact⟨h m hm,m,hm,hc.1,hc.2,rfl⟩
 ·rintro⟨_,m,hm,c1,c2,rfl⟩;exact zM.2 ⟨m,wC.2 ⟨hm,by simp[c1,c2]⟩,rfl⟩
theorem T7{a:Aut}{l:List Int}{x:Sy}:∀j∈Q6 a l x,0≤j∧j<a.fin.length:=fun j hj=>(Eb.1 hj).1
def Qv(p:Prd):Sy:=⟨(Q8 p 0).1,(Q8 p 0).2⟩
def As(Q:List (List Int))(x:List Int):List (List Int):=if x=[]∨x∈Q then Q else Q++[x]
def W8(Q:List (List Int))(xs:List (List Int)):List (List Int):=xs.foldl As Q
def E9(a:Aut)(cl:List Prd)(l:List Int):List (List Int):=cl.map fun c=>Q6 a l (Qv c)
def L6(a:Aut)(cl:List Prd):Nat→Nat→List (List Int)→Option (List (List Int))
 |0,_,_=>none
 |f+1,i,Q=>match Q[i]? with
  |some l=>if 256<(W8 Q (E9 a cl l)).length then none else L6 a cl f (i+1) (W8 Q (E9 a cl l))
  |none=>some Q
theorem c06(Q:List (List Int))(x:List Int):∃R,As Q x=Q++R∧∀y∈R,y=x∧x≠[]:=by
 unfold As;split
 ·exact⟨[],by simp,by simp⟩
 ·rename_i h;exact⟨[x],rfl,fun y hy=>⟨zJ.1 hy,fun e=>h (.inl e)⟩⟩
theorem Uc:∀(xs:List (List Int)) (Q:List (List Int)),∃R,W8 Q xs=Q++R∧∀y∈R,y∈xs∧y≠[]
 |[],Q=>⟨[],by simp[W8],by simp⟩
 |x::xs,Q=>by
  obtain⟨R1,h1,h2⟩:=c06 Q x;obtain⟨R2,h3,h4⟩:=Uc xs (As Q x);refine⟨R1++R2,?_,fun y hy=> ?_⟩
  ·show W8 (As Q x) xs=_;rw[h3,h1,List.append_assoc]
  ·rcases zO.1 hy with hy|hy
   ·obtain⟨rfl,hn⟩:=h2 y hy;exact⟨by simp,hn⟩
   ·exact⟨by simp[(h4 y hy).1],(h4 y hy).2⟩
theorem Jp(Q xs:List (List Int)):Q.length≤(W8 Q xs).length:=by obtain⟨R,h,_⟩:=Uc xs Q;rw[h];simp
theorem y1f{Q:List (List Int)}{x:List Int}(hx:x≠[]):x∈As Q x:=by
 unfold As;split
 ·rename_i h;rcases h with h|h
  ·exact absurd h hx
  ·exact h
 ·simp
theorem K7:∀ {xs:List (List Int)} {Q:List (List Int)} {x:List Int},x∈xs→x≠[]→x∈W8 Q xs
 |[],_,_,h,_=>by cases h
 |y::xs,Q,x,h,hn=>by
  show x∈W8 (As Q y) xs;rcases zU.1 h with rfl|h
  ·obtain⟨R,e,_⟩:=Uc xs (As Q x);rw[e];exact xC _ (y1f hn)
  ·exact K7 h hn
def O3(Q:List (List Int)):List (List Int)→Option (List (List Int))
 |[]=>some Q
 |x::xs=>if 256<(As Q x).length then none else O3 (As Q x) xs
theorem round_eq:∀(xs:List (List Int)) (Q:List (List Int)),Q.length≤256→O3 Q xs=if 256<(W8 Q xs).length then none else some (W8 Q xs)
 |[],Q,h=>by rw[O3,W8,List.foldl_nil,if_neg (by omega)]
 |x::xs,Q,h=>by
  rw[O3];have hr:W8 Q (x::xs)=W8 (As Q x) xs:=rfl;rw[hr];by_cases hl:256<(As Q x).length
  ·have:=Jp (As Q x) xs;rw[if_pos hl,if_pos (by omega)]
  ·rw[if_neg hl,round_eq xs (As Q x) (by omega)]
end Go.Abs
namespace Go.Abs
def W9(p q:Prd):Prd:=tC (fun a b=>Eo (a++b)) p q
theorem Ht{T:Nat}{p q:Prd}(hp:PWf T p)(hq:PWf T q)(t:Nat)(n:Int):PM (W9 p q) t n↔PM p t n∨PM q t n:=by
 have hf:∀ {a b:List Iv},a∈p→b∈q→∀x∈a++b,x.lo≤x.hi:=fun ha hb x hx=>by
  rcases zO.1 hx with hx|hx
  ·exact(hp.2 _ ha).1.1 x hx
  ·exact(hq.2 _ hb).1.1 x hx
 unfold PM W9;rw[wO];constructor
 ·rintro⟨s,hs,hm⟩;cases h1:p[t]? with
  |none=>rw[h1]at hs;simp at hs
  |some a=>
   cases h2:q[t]? with
   |none=>rw[h1,h2]at hs;simp at hs
   |some b=>
    rw[h1,h2]at hs;simp at hs;subst hs;have:=((Uj _ (hf (zF h1) (zF h2))).2 n).1 hm;rcases(L5 ..).1 this with h|h
    ·exact .inl ⟨a,rfl,h⟩
    ·exact .inr ⟨b,rfl,h⟩
 ·intro h;have z1:t<T:=by
   rcases h with⟨s,hs,_⟩|⟨s,hs,_⟩
   ·rw[←hp.1];exact(zA.1 hs).1
   ·rw[←hq.1];exact(zA.1 hs).1
  have h1:t<p.length:=by rw[hp.1];exact z1
  have h2:t<q.length:=by rw[hq.1];exact z1
  rw[zD h1,zD h2]at h ⊢;refine⟨_,rfl,((Uj _ (hf (zG h1) (zG h2))).2 n).2 ((L5 ..).2 ?_)⟩;rcases h with⟨s,hs,hm⟩|⟨s,hs,hm⟩
  ·cases hs;exact .inl hm
  ·cases hs;exact .inr hm
theorem Gd{T:Nat}{p q:Prd}(hp:PWf T p)(hq:PWf T q):PWf T (W9 p q):=by
 refine⟨by simp[W9,hp.1,hq.1],fun s hs=> ?_⟩;obtain⟨i,hi⟩:=yF.1 hs;have z1:=hi;unfold W9 at hi;rw[wO]at hi;cases h1:p[i]? with
 |none=>rw[h1]at hi;simp at hi
 |some a=>
  cases h2:q[i]? with
  |none=>rw[h1,h2]at hi;simp at hi
  |some b=>
   rw[h1,h2]at hi;simp at hi;subst hi;refine⟨(Uj _ fun x hx=> ?_).1,fun n hn=> ?_⟩
   ·rcases zO.1 hx with hx|hx
    ·exact(hp.2 _ (zF h1)).1.1 x hx
    ·exact(hq.2 _ (zF h2)).1.1 x hx
   ·rcases(Ht hp hq i n).1 ⟨_,z1,hn⟩with h|h
    ·exact(hp.lt h).2
    ·exact(hq.lt h).2
def V4(Q:List (List Int))(x:List Int):Option Nat:=Q.findIdx? fun y=>decide (y=x)
theorem He{Q:List (List Int)}{x:List Int}{t:Nat}(h:V4 Q x=some t):Q[t]? =some x:=by unfold V4 at h;obtain⟨h1,h2,_⟩:=xS.1 h;rw[zD h1];simpa using h2
theorem g0g{Q:List (List Int)}(hn:Q.Nodup){t:Nat}{x:List Int}(h:Q[t]? =some x):V4 Q x=some t:=by
 unfold V4;obtain⟨h1,h2⟩:=zA.1 h;refine xS.2 ⟨h1,by simpa using h2,fun j hj=> ?_⟩;have z1:Q[j]≠Q[t]:=fun e=>by have:=(ue hn).1 e;omega
 rw[h2]at z1;simpa using z1
def Yo(n:Nat)(g:List Mv)(to:Nat)(c:Prd):List Mv:=match g.findIdx? fun m:Mv=>decide (m.dst=(to:Int))with
 |none=>g++[⟨n,to,c⟩]
 |some i=>match g[i]? with
  |some m=>g.set i { m with on:=W9 m.on c }
  |none=>g
def Jn(a:Aut)(cl:List Prd)(Q:List (List Int))(n:Nat)(l:List Int):List Mv:=
 cl.foldl (fun g c=>match V4 Q (Q6 a l (Qv c))with|some t=>Yo n g t c|none=>g) []
def Nk(a:Aut)(cl:List Prd)(Q:List (List Int)):List Mv:=(yA Q.length).flatMap fun n=>Jn a cl Q n (Q.getD n [])
def Tk(a:Aut)(l:List Int):Bool:=l.any fun s=>a.fin.getD s.toNat false
def Y0(a:Aut)(cl:List Prd)(Q:List (List Int)):Aut:=⟨a.types,Q.map (Tk a),Nk a cl Q⟩
structure MInv (T N n:Nat) (D:Nat→Nat→Int→Prop) (g:List Mv):Prop where
 wf:∀m∈g,PWf T m.on
 src:∀m∈g,m.src=n
 dst:∀m∈g,∃t:Nat,t<N∧m.dst=t
 nd:g.Pairwise (fun m k=>m.dst≠k.dst)
 mem:∀m∈g,∀t:Nat,m.dst=t→∀ty y,PM m.on ty y↔D t ty y
 all:∀t ty y,D t ty y→∃m∈g,m.dst=(t:Int)
theorem MInv.add{T N n:Nat}{D:Nat→Nat→Int→Prop}{g:List Mv}(h:MInv T N n D g){to:Nat}(ht:to<N){c:Prd}(hc:PWf T c)(zh:∃ty y,PM c ty y):
  MInv T N n (fun t ty y=>D t ty y∨(t=to∧PM c ty y)) (Yo n g to c):=by
 unfold Yo;cases hf:g.findIdx? fun m:Mv=>decide (m.dst=(to:Int))with
 |none=>
  rw[List.findIdx?_eq_none_iff]at hf;have z7:∀m∈g,m.dst≠(to:Int):=fun m hm=>by simpa using hf m hm
  show MInv T N n _ (g++[⟨n,to,c⟩]);have z1:∀m∈g++[(⟨n,to,c⟩:Mv)],m∈g∨m=⟨n,to,c⟩:=fun m hm=>by
   rcases zO.1 hm with hm|hm
   ·exact .inl hm
   ·exact .inr (zJ.1 hm)
  have hD:∀ty y,¬D to ty y:=fun ty y hd=>by obtain⟨m,hm,e⟩:=h.all to ty y hd;exact z7 m hm e
  refine⟨fun m hm=> ?_,fun m hm=> ?_,fun m hm=> ?_,?_,fun m hm t e ty y=> ?_,fun t ty y hd=> ?_⟩
  ·rcases z1 m hm with hm|rfl
   ·exact h.wf m hm
   ·exact hc
  ·rcases z1 m hm with hm|rfl
   ·exact h.src m hm
   ·rfl
  ·rcases z1 m hm with hm|rfl
   ·exact h.dst m hm
   ·exact⟨to,ht,rfl⟩
  ·exact zY.2 ⟨h.nd,by simp,fun m hm k hk=>by obtain rfl:=zJ.1 hk;exact z7 m hm⟩
  ·rcases z1 m hm with hm'|rfl
   ·rw[h.mem m hm' t e];constructor
    ·exact fun hd=> .inl hd
    ·rintro(hd|⟨e2,_⟩)
     ·exact hd
     ·exact absurd (by rw[e,e2]) (z7 m hm')
   ·have:t=to:=by simp at e;omega
    subst this;constructor
    ·exact fun hd=> .inr ⟨rfl,hd⟩
    ·rintro(hd|⟨_,hd⟩)
     ·exact absurd hd (hD ty y)
     ·exact hd
  ·rcases hd with hd|⟨rfl,_⟩
   ·obtain⟨m,hm,e⟩:=h.all t ty y hd;exact⟨m,by simp[hm],e⟩
   ·exact⟨⟨n,t,c⟩,by simp,rfl⟩
 |some i=>
  obtain⟨hi,zf,_⟩:=xS.1 hf;simp only[zD hi];have z6:g[i].dst=(to:Int):=by simpa using zf
  have z8:=zG hi;have hw:=h.wf _ z8;have z1:∀m∈g.set i { g[i]with on:=W9 g[i].on c },(m∈g∧m.dst≠(to:Int))∨m={ g[i]with on:=W9 g[i].on c }:=fun m hm=>by
   obtain⟨j,hj⟩:=yF.1 hm;by_cases hij:i=j
   ·subst hij;rw[zH hi]at hj;exact .inr (Option.some.inj hj).symm
   ·rw[zB hij]at hj;obtain⟨zc,zd⟩:=zA.1 hj;refine .inl ⟨zF hj,fun e=> ?_⟩;rcases uf hij with hlt|hgt
    ·exact yD.1 h.nd i j hi zc hlt (by rw[zd,e,z6])
    ·exact yD.1 h.nd j i zc hi hgt (by rw[zd,e,z6])
  refine⟨fun m hm=> ?_,fun m hm=> ?_,fun m hm=> ?_,?_,fun m hm t e ty y=> ?_,fun t ty y hd=> ?_⟩
  ·rcases z1 m hm with⟨hm,_⟩|rfl
   ·exact h.wf m hm
   ·exact Gd hw hc
  ·rcases z1 m hm with⟨hm,_⟩|rfl
   ·exact h.src m hm
   ·have:=h.src g[i] z8;simpa using this
  ·rcases z1 m hm with⟨hm,_⟩|rfl
   ·exact h.dst m hm
   ·exact⟨to,ht,z6⟩
  ·have za:(g.set i { g[i]with on:=W9 g[i].on c }).map (·.dst)=g.map (·.dst):=by
    apply List.ext_getElem?;intro j;rw[zQ,zQ];by_cases hij:i=j
    ·subst hij;rw[zH hi,zD hi];rfl
    ·rw[zB hij]
   have hp:(g.map (·.dst)).Pairwise (·≠·):=xR.2 h.nd;rw[←za]at hp;exact xR.1 hp
  ·rcases z1 m hm with⟨hm,zg⟩|rfl
   ·rw[h.mem m hm t e];constructor
    ·exact fun hd=> .inl hd
    ·rintro(hd|⟨rfl,_⟩)
     ·exact hd
     ·exact absurd e zg
   ·have:t=to:=by simp only at e;omega
    subst this;have zb:=Ht hw hc ty y;have ze:=h.mem _ z8 t z6 ty y;constructor
    ·intro hd;rcases zb.1 hd with hd|hd
     ·exact .inl (ze.1 hd)
     ·exact .inr ⟨rfl,hd⟩
    ·rintro(hd|⟨_,hd⟩)
     ·exact zb.2 (.inl (ze.2 hd))
     ·exact zb.2 (.inr hd)
  ·rcases hd with hd|⟨rfl,_⟩
   ·obtain⟨m,hm,e⟩:=h.all t ty y hd;obtain⟨j,hj⟩:=yF.1 hm;by_cases hij:i=j
    ·subst hij;rw[zD hi]at hj;cases hj;exact⟨_,zF (zH hi),e⟩
    ·exact⟨m,zF (by rw[zB hij];exact hj),e⟩
   ·exact⟨_,zF (zH hi),z6⟩
theorem MInv.congr{T N n:Nat}{D D':Nat→Nat→Int→Prop}{g:List Mv}(h:MInv T N n D g)(e:∀t ty y,D t ty y↔D' t ty y):MInv T N n D' g:=by have:D=D':=funext fun t=>funext fun ty=>funext fun y=>propext (e t ty y);rw[←this];exact h
theorem Ag{T:Nat}{a:Aut}{cl:List Prd}{Q:List (List Int)}(n:Nat)(l:List Int)(hw:∀c∈cl,PWf T c∧∃ty y,PM c ty y):
  MInv T Q.length n (fun t ty y=>∃c∈cl,V4 Q (Q6 a l (Qv c))=some t∧PM c ty y) (Jn a cl Q n l):=by
 have key:∀(r:List Prd) (D:Nat→Nat→Int→Prop) (g:List Mv),MInv T Q.length n D g→(∀c∈r,PWf T c∧∃ty y,PM c ty y)→
   MInv T Q.length n (fun t ty y=>D t ty y∨∃c∈r,V4 Q (Q6 a l (Qv c))=some t∧PM c ty y) (r.foldl (fun g c=>match V4 Q (Q6 a l (Qv c))with|some t=>Yo n g t c|none=>g) g):=by
  intro r;induction r with
  |nil=>intro D g h _;exact h.congr (fun t ty y=>by simp)
  |cons c r ih=>
   intro D g h hr;rw[xG];cases hx:V4 Q (Q6 a l (Qv c))with
   |none=>refine(ih D g h (fun d hd=>hr d (by simp[hd]))).congr (fun t ty y=> ?_);simp[hx]
   |some to=>
    have z1:=(zA.1 (He hx)).1;have hc:=hr c (by simp);refine(ih _ _ (h.add z1 hc.1 hc.2) (fun d hd=>hr d (by simp[hd]))).congr (fun t ty y=> ?_);simp only[zU,exists_eq_or_imp,hx,Option.some.injEq,or_assoc];constructor
    ·rintro(h|⟨e,h⟩|h)
     ·exact .inl h
     ·exact .inr (.inl ⟨e.symm,h⟩)
     ·exact .inr (.inr h)
    ·rintro(h|⟨e,h⟩|h)
     ·exact .inl h
     ·exact .inr (.inl ⟨e.symm,h⟩)
     ·exact .inr (.inr h)
 have h0:MInv T Q.length n (fun _ _ _=>False) []:=⟨by simp,by simp,by simp,by simp,by simp,fun _ _ _ h=>h.elim⟩
 exact(key cl _ [] h0 hw).congr (fun t ty y=>by simp)
end Go.Abs
namespace Go.Abs
structure Cls (a:Aut) (cl:List Prd):Prop where
 ok:OkA a
 prts:Prts a.types.toNat (a.mv.map (·.on)) cl
 wf:∀c∈cl,PWf a.types.toNat c∧∃ty y,PM c ty y
theorem x1u{a:Aut}(h:OkA a):Cls a (Wa a.types.toNat (a.mv.map (·.on))):=by
 have hT:0<a.types.toNat:=by have:=h.types;omega
 have hp:=(Un hT (l:=a.mv.map (·.on)) (fun p hp=>by obtain⟨m,hm,rfl⟩:=zM.1 hp;exact(h.mv m hm).on)).1;exact⟨h,hp,fun c hc=>⟨hp.wf c hc,hp.ne c hc⟩⟩
def Ed(a:Aut)(x:Sy):Prop:=(0≤x.ty∧x.ty<a.types)∧inR x.num
theorem y0m{a:Aut}{l:List Int}{x y:Sy}(h:∀m∈a.mv,Rp m.on x=Rp m.on y):Q6 a l x=Q6 a l y:=by
 refine T8 (Yr ..) (Yr ..) fun z=> ?_;rw[Eb,Eb];constructor
 ·rintro⟨h1,m,hm,h2,h3,h4⟩;exact⟨h1,m,hm,h2,by rw[←h m hm];exact h3,h4⟩
 ·rintro⟨h1,m,hm,h2,h3,h4⟩;exact⟨h1,m,hm,h2,by rw[h m hm];exact h3,h4⟩
theorem Cls.of{a:Aut}{cl:List Prd}(h:Cls a cl){x:Sy}(hx:Ed a x):∃c∈cl,PM c x.ty.toNat x.num∧∀l,Q6 a l x=Q6 a l (Qv c):=by obtain⟨c,hc,hm⟩:=h.prts.all x.ty.toNat x.num (by have:=hx.1;omega) hx.2;refine⟨c,hc,hm,fun l=>y0m fun m z1=> ?_⟩;have h1:=(Ee (h.wf c hc).1 (h.wf c hc).2).1;have h2:=((h.prts.cls c hc _ _ hm _ _).1 h1).2.2 m.on (zM.2 ⟨m,z1,rfl⟩);have hl:=(h.ok.mv m z1).on.1;rw[yX,Pq hl x hx.1.1,Pq hl (Qv c) (by simp[Qv])];simpa[Qv]using h2
theorem Cls.same{a:Aut}{cl:List Prd}(h:Cls a cl){c:Prd}(hc:c∈cl){x:Sy}(hx:Ed a x)(hm:PM c x.ty.toNat x.num)(l:List Int):Q6 a l x=Q6 a l (Qv c):=by obtain⟨d,hd,z1,e⟩:=h.of hx;rw[e l,h.prts.disj hd hc z1 hm]
structure Sub (a:Aut) (cl:List Prd) (Q:List (List Int)):Prop where
 first:Q[0]? =some [0]
 nd:Q.Nodup
 ne:∀l∈Q,l≠[]
 lim:Q.length≤256
 elem:∀l∈Q,l.Pairwise (·<·)∧∀s∈l,0≤s∧s<a.fin.length
 closed:∀l∈Q,∀c∈cl,Q6 a l (Qv c)=[]∨Q6 a l (Qv c)∈Q
theorem x0v{Q:List (List Int)}{x:List Int}(h:Q.Nodup):(As Q x).Nodup:=by
 unfold As;split
 ·exact h
 ·rename_i hx;exact List.nodup_append.2 ⟨h,by simp,fun a ha b hb e=>by
   obtain rfl:=zJ.1 hb;subst e;exact hx (.inr ha)⟩
theorem Dm:∀(xs:List (List Int)) {Q:List (List Int)},Q.Nodup→(W8 Q xs).Nodup
 |[],_,h=>h
 |x::xs,Q,h=>Dm xs (x0v (x:=x) h)
theorem d0s{a:Aut}(ha:OkA a)(cl:List Prd):∀(f i:Nat) (Q R:List (List Int)),L6 a cl f i Q=some R→Q[0]? =some [0]→Q.Nodup→(∀l∈Q,l≠[])→Q.length≤256→(∀l∈Q,l.Pairwise (·<·)∧∀s∈l,0≤s∧s<a.fin.length)→
  (∀j,j<i→∀l,Q[j]? =some l→∀c∈cl,Q6 a l (Qv c)=[]∨Q6 a l (Qv c)∈Q)→Sub a cl R
 |0,_,_,_,h,_,_,_,_,_,_=>by cases h
 |f+1,i,Q,R,h,h1,h2,h3,h4,h5,h6=>by
  rw[L6]at h;cases hq:Q[i]? with
  |none=>rw[hq]at h;simp only[Option.some.injEq]at h;subst h;have hi:Q.length≤i:=List.getElem?_eq_none_iff.1 hq;refine⟨h1,h2,h3,h4,h5,fun l hl c hc=> ?_⟩;obtain⟨j,hj⟩:=yF.1 hl;exact h6 j (by have:=(zA.1 hj).1;omega) l hj c hc
  |some l=>
   rw[hq]at h;simp only at h;by_cases hlim:256<(W8 Q (E9 a cl l)).length
   ·rw[if_pos hlim]at h;cases h
   ·rw[if_neg hlim]at h;obtain⟨X,hX,z6⟩:=Uc (E9 a cl l) Q;have hlen:0<Q.length:=(zA.1 h1).1;have z1:∀y∈W8 Q (E9 a cl l),y∈Q∨(y≠[]∧∃c∈cl,y=Q6 a l (Qv c)):=fun y hy=>by
     rw[hX]at hy;rcases zO.1 hy with hy|hy
     ·exact .inl hy
     ·obtain⟨p1,p2⟩:=z6 y hy;obtain⟨c,hc,rfl⟩:=zM.1 p1;exact .inr ⟨p2,c,hc,rfl⟩
    refine d0s ha cl f (i+1) _ R h ?_ (Dm _ h2) ?_ (by omega) ?_ ?_
    ·rw[hX,zE hlen];exact h1
    ·intro y hy;rcases z1 y hy with hy|⟨hy,_⟩
     ·exact h3 y hy
     ·exact hy
    ·intro y hy;rcases z1 y hy with hy|⟨_,c,_,rfl⟩
     ·exact h5 y hy
     ·exact⟨Yr ..,T7⟩
    ·intro j hj k hk c hc;by_cases hji:j<i
     ·have z7:j<Q.length:=by have:=(zA.1 hq).1;omega
      rw[hX,zE z7]at hk;rcases h6 j hji k hk c hc with h7|h7
      ·exact .inl h7
      ·right;rw[hX];exact xC _ h7
     ·have:j=i:=by omega
      subst this;rw[hX,zE (zA.1 hq).1,hq]at hk;cases hk;by_cases hn:Q6 a l (Qv c)=[]
      ·exact .inl hn
      ·exact .inr (K7 (zM.2 ⟨c,hc,rfl⟩) hn)
def Dw(a:Aut)(cl:List Prd):Option (List (List Int)):=L6 a cl 257 0 [[0]]
theorem k0m{a:Aut}(ha:OkA a){cl:List Prd}{Q:List (List Int)}(h:Dw a cl=some Q):Sub a cl Q:=
 d0s ha cl 257 0 [[0]] Q h rfl (by simp) (by simp) (by simp) (by intro l hl;obtain rfl:=zJ.1 hl;exact⟨by simp,fun s hs=>by obtain rfl:=zJ.1 hs;have:=ha.fin;omega⟩) (fun j hj=>by omega)
theorem Sub.step{a:Aut}{cl:List Prd}{Q:List (List Int)}(hs:Sub a cl Q)(hc:Cls a cl){l:List Int}(hl:l∈Q){x:Sy}(hx:Ed a x):Q6 a l x=[]∨Q6 a l x∈Q:=by obtain⟨c,h1,_,h3⟩:=hc.of hx;rw[h3 l];exact hs.closed l hl c h1
theorem Ij{a:Aut}{cl:List Prd}{Q:List (List Int)}{m:Mv}:m∈Nk a cl Q↔∃n l,Q[n]? =some l∧m∈Jn a cl Q n l:=by
 unfold Nk;rw[xL];constructor
 ·rintro⟨n,hn,hm⟩;have z1:=yM.1 hn;refine⟨n,Q[n],zD z1,?_⟩;simpa[yQ,z1]using hm
 ·rintro⟨n,l,hl,hm⟩;have z1:=(zA.1 hl).1;refine⟨n,yM.2 z1,?_⟩;simpa[yQ,hl]using hm
theorem Fh{a:Aut}{cl:List Prd}{Q:List (List Int)}(hc:Cls a cl)(hs:Sub a cl Q){n:Nat}{l:List Int}(hl:Q[n]? =some l){x:Sy}(hx:Ed a x)(t:Nat):
  (∃m∈Nk a cl Q,m.src=(n:Int)∧m.dst=(t:Int)∧Rp m.on x=true)↔Q[t]? =some (Q6 a l x):=by
 have hg:=Ag (a:=a) (Q:=Q) n l hc.wf;have key:V4 Q (Q6 a l x)=some t↔Q[t]? =some (Q6 a l x):=⟨He,g0g hs.nd⟩
 rw[←key];constructor
 ·rintro⟨m,hm,h1,h2,h3⟩;obtain⟨n',l',hl',z6⟩:=Ij.1 hm;have z7:=Ag (a:=a) (Q:=Q) n' l' hc.wf;have:n'=n:=by have:=z7.src m z6;omega
  subst this;rw[hl]at hl';cases hl';rw[Pq (hg.wf m z6).1 x hx.1.1]at h3;obtain⟨c,z1,e1,e2⟩:=(hg.mem m z6 t h2 _ _).1 h3;rw[hc.same z1 hx e2];exact e1
 ·intro h;obtain⟨c,z1,e1,e2⟩:=hc.of hx;rw[e2]at h;obtain⟨m,hm,hd⟩:=hg.all t _ _ ⟨c,z1,h,e1⟩;refine⟨m,Ij.2 ⟨n,l,hl,hm⟩,hg.src m hm,hd,?_⟩;rw[Pq (hg.wf m hm).1 x hx.1.1];exact(hg.mem m hm t hd _ _).2 ⟨c,z1,h,e1⟩
theorem z1o{a:Aut}{cl:List Prd}{Q:List (List Int)}(hc:Cls a cl)(hs:Sub a cl Q){n:Nat}{l:List Int}(hl:Q[n]? =some l){x:Sy}(hx:Ed a x):
  (Q6 a l x=[]∧Q6 (Y0 a cl Q) [(n:Int)] x=[])∨∃t:Nat,Q[t]? =some (Q6 a l x)∧Q6 (Y0 a cl Q) [(n:Int)] x=[(t:Int)]:=by
 have z1:∀j,j∈Q6 (Y0 a cl Q) [(n:Int)] x↔∃t:Nat,j=t∧Q[t]? =some (Q6 a l x):=fun j=>by
  rw[Eb];constructor
  ·rintro⟨⟨h1,h2⟩,m,hm,h3,h4,h5⟩;refine⟨j.toNat,by omega,(Fh hc hs hl hx j.toNat).1 ⟨m,hm,zJ.1 h3,by omega,h4⟩⟩
  ·rintro⟨t,rfl,ht⟩;obtain⟨m,hm,h1,h2,h3⟩:=(Fh hc hs hl hx t).2 ht;have:=(zA.1 ht).1;exact⟨⟨by omega,by simp[Y0];omega⟩,m,hm,by rw[h1];simp,h3,h2⟩
 rcases hs.step hc (zF hl) hx with h0|h0
 ·refine .inl ⟨h0,wK.2 fun j hj=> ?_⟩;obtain⟨t,_,ht⟩:=(z1 j).1 hj;rw[h0]at ht;exact hs.ne _ (zF ht) rfl
 ·obtain⟨t,ht⟩:=yF.1 h0;refine .inr ⟨t,ht,T8 (Yr ..) (by simp) fun z=> ?_⟩;rw[z1 z];constructor
  ·rintro⟨u,rfl,hu⟩;obtain⟨h1,h2⟩:=zA.1 ht;obtain⟨h3,h4⟩:=zA.1 hu;have:u=t:=(ue hs.nd).1 (by rw[h4,h2]);simp[this]
  ·intro hz;exact⟨t,zJ.1 hz,ht⟩
def Oj(a:Aut)(l:List Int)(w:List Sy):List Int:=w.foldl (Q6 a) l
def Yj(a:Aut)(w:List Sy):Bool:=Tk a (Oj a [0] w)
theorem N9(a:Aut):∀w,Oj a [] w=[]
 |[]=>rfl
 |x::w=>by
  show Oj a (Q6 a [] x) w=[]
  have:Q6 a [] x=[]:=wK.2 fun j hj=>by obtain⟨_,m,_,h,_⟩:=Eb.1 hj;cases h
  rw[this,N9 a w]
theorem j05{a:Aut}{cl:List Prd}{Q:List (List Int)}(hc:Cls a cl)(hs:Sub a cl Q):∀(w:List Sy),(∀x∈w,Ed a x)→∀(n:Nat) (l:List Int),Q[n]? =some l→
  (Oj a l w=[]∧Oj (Y0 a cl Q) [(n:Int)] w=[])∨∃t:Nat,Q[t]? =some (Oj a l w)∧Oj (Y0 a cl Q) [(n:Int)] w=[(t:Int)]
 |[],_,n,l,hl=> .inr ⟨n,hl,rfl⟩
 |x::w,hw,n,l,hl=>by
  show(Oj a (Q6 a l x) w=[]∧Oj (Y0 a cl Q) (Q6 (Y0 a cl Q) [(n:Int)] x) w=[])∨∃t:Nat,Q[t]? =some (Oj a (Q6 a l x) w)∧Oj (Y0 a cl Q) (Q6 (Y0 a cl Q) [(n:Int)] x) w=[(t:Int)]
  rcases z1o hc hs hl (hw x (by simp))with⟨h1,h2⟩|⟨t,h1,h2⟩
  ·rw[h1,h2];exact .inl ⟨N9 _ _,N9 _ _⟩
  ·rw[h2];exact j05 hc hs w (fun y hy=>hw y (by simp[hy])) t _ h1
theorem u11{a:Aut}{cl:List Prd}{Q:List (List Int)}(hc:Cls a cl)(hs:Sub a cl Q){w:List Sy}(hw:∀x∈w,Ed a x):Yj (Y0 a cl Q) w=Yj a w:=by
 unfold Yj;rcases j05 hc hs w hw 0 [0] hs.first with⟨h1,h2⟩|⟨t,h1,h2⟩
 ·have z1:Oj (Y0 a cl Q) [0] w=[]:=h2;rw[h1,z1];rfl
 ·have z1:Oj (Y0 a cl Q) [0] w=[(t:Int)]:=h2;rw[z1];simp only[Tk,Y0,List.any_cons,List.any_nil,Bool.or_false,Int.toNat_natCast,yQ,zQ,h1,Option.map_some,Option.getD_some]
def Xu(a:Aut):Prop:=a.mv.Pairwise (fun m k=>m.src=k.src→∀x:Sy,Ed a x→¬(Rp m.on x=true∧Rp k.on x=true))
theorem z0i{a:Aut}{cl:List Prd}{Q:List (List Int)}(hc:Cls a cl)(hs:Sub a cl Q):Xu (Y0 a cl Q):=by
 unfold Xu;show(Nk a cl Q).Pairwise _;unfold Nk;rw[vT];constructor
 ·intro n hn;have z1:=yM.1 hn;have hl:Q[n]? =some Q[n]:=zD z1;have hg:Q.getD n []=Q[n]:=by simp[yQ,z1]
  rw[hg];have hi:=Ag (a:=a) (Q:=Q) n Q[n] hc.wf;refine hi.nd.imp_of_mem (fun {m k} hm hk hne _ x hx=> ?_);rintro⟨h1,h2⟩;obtain⟨t1,_,e1⟩:=hi.dst m hm;obtain⟨t2,_,e2⟩:=hi.dst k hk;have z6:Ed a x:=hx;have d1:=(Fh hc hs hl z6 t1).1 ⟨m,Ij.2 ⟨n,_,hl,hm⟩,hi.src m hm,e1,h1⟩;have d2:=(Fh hc hs hl z6 t2).1 ⟨k,Ij.2 ⟨n,_,hl,hk⟩,hi.src k hk,e2,h2⟩;obtain⟨p1,p2⟩:=zA.1 d1;obtain⟨p3,p4⟩:=zA.1 d2;have:t1=t2:=(ue hs.nd).1 (by rw[p2,p4]);exact hne (by rw[e1,e2,this])
 ·refine List.pairwise_lt_range.imp (fun {i j} hij m hm k hk e=> ?_);exfalso;have h1:∀n m,m∈Jn a cl Q n (Q.getD n [])→m.src=(n:Int):=fun n m hm=>(Ag (a:=a) (Q:=Q) n _ hc.wf).src m hm;have:=h1 i m hm;have:=h1 j k hk;omega
end Go.Abs
namespace Go.Abs
theorem Sp{l:List Iv}(h:Sep l)(hb:∀n,M l n→inR n):Sep (En l)∧(∀n,M (En l) n↔inR n∧¬M l n)∧(En l).length≤l.length+1:=by
 have z1:∀x∈l,inR x.lo∧inR x.hi:=fun x hx=>⟨hb _ ⟨x,hx,yJ _,h.1 x hx⟩,hb _ ⟨x,hx,h.1 x hx,yJ _⟩⟩
 have:=Il l (-1099511627776) (fun x hx=>⟨h.1 x hx,(z1 x hx).2.2⟩) h.2 (fun x hx=>(z1 x hx).1.1);exact⟨this.1,fun n=>by rw[En,this.2.1,inR,and_assoc],this.2.2⟩
theorem Fc{T:Nat}{p:Prd}(hp:PWf T p)(t:Nat)(n:Int):PM (Ei p) t n↔(t<T∧inR n)∧¬PM p t n:=by
 unfold PM Ei;rw[zQ];constructor
 ·rintro⟨s,hs,hm⟩;obtain⟨a,ha,rfl⟩:=zN.1 hs;have hw:=hp.2 a (zF ha);have hg:=((Sp hw.1 hw.2).2.1 n).1 hm;refine⟨⟨by rw[←hp.1];exact(zA.1 ha).1,hg.1⟩,?_⟩;rintro⟨b,hb,z1⟩;rw[ha]at hb;cases hb;exact hg.2 z1
 ·rintro⟨⟨h1,h2⟩,h3⟩;have hl:t<p.length:=by rw[hp.1];exact h1
  have hw:=hp.2 _ (zG hl);exact⟨En p[t],by rw[zD hl];rfl,((Sp hw.1 hw.2).2.1 n).2 ⟨h2,fun hm=>h3 ⟨_,zD hl,hm⟩⟩⟩
theorem Hw{T:Nat}{p:Prd}(hp:PWf T p):PWf T (Ei p):=⟨by simp[Ei,hp.1],fun s hs=>by
 obtain⟨a,ha,rfl⟩:=zM.1 hs;have hw:=hp.2 a ha;exact⟨(Sp hw.1 hw.2).1,fun n hn=>(((Sp hw.1 hw.2).2.1 n).1 hn).1⟩⟩
def Z7(T:Nat)(ps:List Prd):Prd:=(yA T).map fun i=>Eo (Wi ps i)
theorem Lq{T:Nat}{ps:List Prd}(h:∀p∈ps,PWf T p)(i:Nat):∀x∈Wi ps i,x.lo≤x.hi:=fun x hx=>by
 obtain⟨p,hp,hx⟩:=Tj.1 hx;have hm:p.getD i []=[]∨p.getD i []∈p:=by
  by_cases hi:i<p.length
  ·exact .inr (by rw[W7 hi];exact zG hi)
  ·exact .inl (by simp[yQ,hi])
 rcases hm with e|hm
 ·rw[e]at hx;cases hx
 ·exact((h p hp).2 _ hm).1.1 x hx
theorem Jx{T:Nat}{ps:List Prd}(h:∀p∈ps,PWf T p)(t:Nat)(n:Int):PM (Z7 T ps) t n↔∃p∈ps,PM p t n:=by
 unfold PM Z7;rw[zQ];constructor
 ·rintro⟨s,hs,hm⟩;obtain⟨i,hi,rfl⟩:=zN.1 hs;obtain⟨z6,e⟩:=zA.1 hi;rw[List.getElem_range]at e;subst e;obtain⟨x,hx,h1⟩:=((Uj _ (Lq h t)).2 n).1 hm;obtain⟨p,hp,hx⟩:=Tj.1 hx;have ht:t<T:=by simpa using z6
  have z1:t<p.length:=by rw[(h p hp).1];exact ht
  rw[W7 z1]at hx;exact⟨p,hp,p[t],zD z1,x,hx,h1⟩
 ·rintro⟨p,hp,s,hs,x,hx,h1⟩;obtain⟨z1,e⟩:=zA.1 hs;have ht:t<T:=by rw[←(h p hp).1];exact z1
  refine⟨Eo (Wi ps t),by simp[ht],((Uj _ (Lq h t)).2 n).2 ⟨x,Tj.2 ⟨p,hp,?_⟩,h1⟩⟩;rw[W7 z1,e];exact hx
theorem Hu{T:Nat}{ps:List Prd}(h:∀p∈ps,PWf T p):PWf T (Z7 T ps):=by
 refine⟨by simp[Z7],fun s hs=> ?_⟩;obtain⟨i,hi,rfl⟩:=zM.1 hs;refine⟨(Uj _ (Lq h i)).1,fun n hn=> ?_⟩;have:PM (Z7 T ps) i n:=⟨Eo (Wi ps i),by simp[Z7,yM.1 hi],hn⟩
 obtain⟨p,hp,hm⟩:=(Jx h i n).1 this;exact((h p hp).lt hm).2
theorem u1n{T:Nat}{c:Prd}(h:PWf T c):Z7 T [c]=c:=
 Hs (Hu (by simpa using h)) h fun t n=>by rw[Jx (by simpa using h)];simp
theorem v1t{T:Nat}{p q:Prd}(hp:PWf T p)(hq:PWf T q):Z7 T [p,q]=W9 p q:=by
 have h:∀x∈[p,q],PWf T x:=fun x hx=>by
  rcases zU.1 hx with rfl|hx
  ·exact hp
  ·obtain rfl:=zJ.1 hx;exact hq
 exact Hs (Hu h) (Gd hp hq) fun t n=>by rw[Jx h,Ht hp hq];simp
def g08(a:Aut)(s:Int):List Prd:=(a.mv.filter fun m=>decide (m.src=s)).map (·.on)
def D4(a:Aut)(s:Int):Prd:=Ei (Z7 a.types.toNat (g08 a s))
def x06(a:Aut)(s:Int):Prd:=(g08 a s).foldl (fun r p=>Wv r (Ei p)) (Wt a.types.toNat)
structure WfA (a:Aut):Prop where
 types:1≤a.types∧a.types≤16
 fin:1≤a.fin.length
 src:∀m∈a.mv,0≤m.src∧m.src<a.fin.length
 dst:∀m∈a.mv,0≤m.dst∧m.dst<a.fin.length
 on:∀m∈a.mv,PWf a.types.toNat m.on
theorem OkA.wfA{a:Aut}(h:OkA a):WfA a:=⟨h.types,h.fin.1,fun m hm=>(h.mv m hm).src,fun m hm=>(h.mv m hm).dst,fun m hm=>(h.mv m hm).on.wf⟩
theorem Mw{a:Aut}(h:WfA a)(s:Int):∀p∈g08 a s,PWf a.types.toNat p:=fun p hp=>by obtain⟨m,hm,rfl⟩:=zM.1 hp;exact h.on m (wC.1 hm).1
theorem Zd{a:Aut}(h:WfA a)(s:Int)(t:Nat)(n:Int):PM (D4 a s) t n↔(t<a.types.toNat∧inR n)∧∀p∈g08 a s,¬PM p t n:=by rw[D4,Fc (Hu (Mw h s)),Jx (Mw h s)];simp
theorem w0g{a:Aut}(h:WfA a)(s:Int):PWf a.types.toNat (D4 a s):=Hw (Hu (Mw h s))
theorem X1{T:Nat}:∀(l:List Prd) (r:Prd),(∀p∈l,PWf T p)→PWf T r→PWf T (l.foldl (fun r p=>Wv r (Ei p)) r)∧
  ∀t n,PM (l.foldl (fun r p=>Wv r (Ei p)) r) t n↔PM r t n∧∀p∈l,¬PM p t n
 |[],r,_,hr=>⟨hr,fun t n=>by simp⟩
 |p::l,r,hl,hr=>by
  have hp:=hl p (by simp);obtain⟨h1,h2⟩:=X1 l (Wv r (Ei p)) (fun q hq=>hl q (by simp[hq])) (Uq hr (Hw hp).1);refine⟨h1,fun t n=> ?_⟩;rw[xG,h2,Ry hr.1 (Hw hp).1,Fc hp];constructor
  ·rintro⟨⟨a,b,c⟩,d⟩;refine⟨a,fun q hq=> ?_⟩;rcases zU.1 hq with rfl|hq
   ·exact c
   ·exact d q hq
  ·rintro⟨a,d⟩;exact⟨⟨a,hr.lt a,d p (by simp)⟩,fun q hq=>d q (by simp[hq])⟩
theorem k1l{a:Aut}(h:WfA a)(s:Int):x06 a s=D4 a s:=by obtain⟨h1,h2⟩:=X1 (g08 a s) (Wt a.types.toNat) (Mw h s) (w0p _);exact Hs h1 (w0g h s) fun t n=>by rw[x06,h2,Zd h,Fe]
theorem Ck{a:Aut}(h:WfA a)(s:Int):W2 (D4 a s)=true↔∀t n,t<a.types.toNat→inR n→∃p∈g08 a s,PM p t n:=by
 rw[Rh (w0g h s)];constructor
 ·intro hv t n ht hn;have:=hv t n;rw[Zd h]at this;by_cases hc:∃p∈g08 a s,PM p t n
  ·exact hc
  ·exact absurd ⟨⟨ht,hn⟩,fun p hp hm=>hc ⟨p,hp,hm⟩⟩ this
 ·intro hv t n;rw[Zd h];rintro⟨⟨ht,hn⟩,hx⟩;obtain⟨p,hp,hm⟩:=hv t n ht hn;exact hx p hp hm
def Z6(a:Aut):Bool:=decide (256<a.fin.length) || decide (2048<a.mv.length) || a.mv.any fun m=>m.on.any fun s=>decide (256<s.length)
theorem x1n{a:Aut}(h:WfA a):Wx a=0↔Z6 a=false:=by
 rw[U7];unfold Z6;simp only[Bool.or_eq_false_iff,decide_eq_false_iff_not,wd,decide_eq_true_eq];constructor
 ·rintro⟨h1,h2,h3,h4⟩;exact⟨⟨by omega,by omega⟩,fun m hm=>by
   simp only[uo,wd,decide_eq_true_eq];exact fun s hs=>by have:=((h4 m hm).on.2 s hs).len;omega⟩
 ·rintro⟨⟨h1,h2⟩,h3⟩;refine⟨h.types,⟨h.fin,by omega⟩,by omega,fun m hm=>⟨h.src m hm,h.dst m hm,(h.on m hm).1,fun s hs=> ?_⟩⟩;have hw:=(h.on m hm).2 s hs;have:=h3 m hm;simp only[uo,wd,decide_eq_true_eq]at this;exact Cl hw.1 (k0h hw.1 hw.2) (by have:=this s hs;omega)
def x08(a:Aut):Int×Aut:=if Z6 a then(5,Oz)else(0,a)
def z1e(a:Aut):Int×Aut:=if Wx a≠0 then(5,Oz)else(0,a)
theorem c18{a:Aut}(h:WfA a):z1e a=x08 a:=by
 unfold z1e x08;have:=x1n h;cases hb:Z6 a
 ·rw[if_neg (fun k=>k (this.2 hb)),if_neg (by simp)]
 ·rw[if_pos (fun k=>by rw[this,hb]at k;cases k),if_pos rfl]
theorem c1j{a c:Aut}(h:WfA a)(hl:x08 a=(0,c)):c=a∧OkA a:=by
 unfold x08 at hl;cases hb:Z6 a
 ·rw[hb,if_neg (by simp)]at hl;exact⟨(Prod.mk.inj hl).2.symm,(U7 a).1 ((x1n h).2 hb)⟩
 ·rw[hb,if_pos rfl]at hl;cases(Prod.mk.inj hl).1
end Go.Abs
namespace Go.Abs
def N6(a:Aut)(lack:Int→Prd):List Mv:=(yA a.fin.length).filterMap fun s:Nat=>if W2 (lack s)then none else some ⟨s,a.fin.length,lack s⟩
def x2y(a:Aut):Aut:=⟨a.types,a.fin++[false],a.mv++N6 a (D4 a)++[⟨a.fin.length,a.fin.length,Wt a.types.toNat⟩]⟩
def v0b(a:Aut):Int×Aut:=if(N6 a (D4 a)).isEmpty then(0,a)else x08 (x2y a)
def Vu(a:Aut):Bool:=(yA a.fin.length).all fun s:Nat=>W2 (x06 a s)
def v2z(a:Aut):Int×Aut:=if Vu a then(0,a)else z1e ⟨a.types,a.fin++[false],a.mv++N6 a (x06 a)++[⟨a.fin.length,a.fin.length,Wt a.types.toNat⟩]⟩
theorem Ci{a:Aut}{lack:Int→Prd}{m:Mv}:m∈N6 a lack↔∃s:Nat,s<a.fin.length∧W2 (lack s)=false∧m=⟨s,a.fin.length,lack s⟩:=by
 unfold N6;rw[wM];constructor
 ·rintro⟨s,hs,h⟩;cases hv:W2 (lack s)
  ·rw[hv,if_neg (by simp)]at h;cases h;exact⟨s,yM.1 hs,hv,rfl⟩
  ·rw[hv,if_pos rfl]at h;cases h
 ·rintro⟨s,hs,hv,rfl⟩;exact⟨s,yM.2 hs,by rw[hv,if_neg (by simp)]⟩
theorem X8{a:Aut}{lack:Int→Prd}:N6 a lack=[]↔∀s:Nat,s<a.fin.length→W2 (lack s)=true:=by
 rw[wK];constructor
 ·intro h s hs;cases hv:W2 (lack s)
  ·exact absurd (Ci.2 ⟨s,hs,hv,rfl⟩) (h _)
  ·rfl
 ·intro h m hm;obtain⟨s,hs,hv,_⟩:=Ci.1 hm;rw[h s hs]at hv;cases hv
def w1b(a:Aut):Prop:=∀s:Int,0≤s→s<a.fin.length→∀x,Ed a x→∃m∈a.mv,m.src=s∧Rp m.on x=true
theorem w1r{a:Aut}{x:Sy}(h:Ed a x):x.ty.toNat<a.types.toNat∧inR x.num∧0≤x.ty:=⟨by have:=h.1;omega,h.2,h.1.1⟩
theorem Up{a:Aut}(h:WfA a){m:Mv}(hm:m∈a.mv){x:Sy}(hx:Ed a x):Rp m.on x=true↔PM m.on x.ty.toNat x.num:=Pq (h.on m hm).1 x hx.1.1
theorem f07{a:Aut}{s:Int}{p:Prd}:p∈g08 a s↔∃m∈a.mv,m.src=s∧m.on=p:=by
 unfold g08;rw[zM];constructor
 ·rintro⟨m,hm,e⟩;have:=wC.1 hm;exact⟨m,this.1,by simpa using this.2,e⟩
 ·rintro⟨m,hm,hs,e⟩;exact⟨m,wC.2 ⟨hm,by simpa using hs⟩,e⟩
theorem q1s{a:Aut}(h:WfA a):N6 a (D4 a)=[]↔w1b a:=by
 rw[X8];constructor
 ·intro hv s h0 h1 x hx;have hs:=hv s.toNat (by omega);rw[show((s.toNat:Nat):Int)=s by omega,Ck h]at hs;obtain⟨k1,k2,_⟩:=w1r hx;obtain⟨p,hp,hm⟩:=hs _ _ k1 k2;obtain⟨m,z1,e,rfl⟩:=f07.1 hp;exact⟨m,z1,e,(Up h z1 hx).2 hm⟩
 ·intro hf s hs;rw[Ck h];intro t n ht hn;have hx:Ed a ⟨t,n⟩:=⟨⟨by simp,by simp only;omega⟩,hn⟩
  obtain⟨m,hm,e,hh⟩:=hf s (by omega) (by omega) _ hx;exact⟨m.on,f07.2 ⟨m,hm,e,rfl⟩,by have:=(Up h hm hx).1 hh;simpa using this⟩
theorem runIn{a:Aut}:∀(w:List Sy) (l:List Int),(∀j∈l,0≤j∧j<a.fin.length)→∀j∈Oj a l w,0≤j∧j<a.fin.length
 |[],_,hl=>hl
 |x::w,_,_=>runIn w _ (fun _ hj=>T7 _ hj)
theorem k1t{a:Aut}(h:WfA a):∀j∈[(0:Int)],0≤j∧j<a.fin.length:=fun j hj=>by obtain rfl:=zJ.1 hj;have:=h.fin;omega
theorem z1w{a:Aut}{l:List Int}:Tk a l=true↔∃s∈l,a.fin.getD s.toNat false=true:=by rw[Tk,xN]
end Go.Abs
namespace Go.Abs
def Th(T:Int):List Prd→Int
 |[]=>0
 |p::r=>if Ew T p≠0 then Ew T p else Th T r
def P0(L:List Prd):Bool:=decide (256<L.length) || L.any fun p=>p.any fun s=>decide (256<s.length)
def Rs(T:Int)(l:List Prd):Int×List Prd:=if T<1∨16<T then(2,[])else if 256<l.length then(5,[])else if Th T l≠0 then(Th T l,[])else
 if P0 (Ek T.toNat l)then(5,[])else(0,Ek T.toNat l)
def Gp(T:Int)(l:List Prd):Int×List Prd:=if T<1∨16<T then(2,[])else if 256<l.length then(5,[])else if Th T l≠0 then(Th T l,[])else
 if P0 (Wa T.toNat l)then(5,[])else(0,Wa T.toNat l)
theorem Ym{T:Int}:∀(l:List Prd),Th T l=0↔∀p∈l,Ew T p=0
 |[]=>by simp[Th]
 |p::r=>by
  rw[Th];by_cases h:Ew T p=0
  ·rw[if_neg (fun k=>k h),Ym r];simp[h]
  ·rw[if_pos h];exact⟨fun k=>absurd k h,fun k=>absurd (k p (by simp)) h⟩
theorem By(T:Int)(l:List Prd):Gp T l=Rs T l:=by
 unfold Gp Rs;split
 ·rfl
 ·rename_i hT;split
  ·rfl
  ·split
   ·rfl
   ·rename_i hc;have z1:∀p∈l,PCk T.toNat p:=fun p hp=>((El T p).1 ((Ym l).1 (by simpa using hc) p hp)).2;rw[Sv (by omega) z1]
theorem Bm{T:Int}(hT:1≤T∧T≤16){l:List Prd}(hl:∀p∈l,PCk T.toNat p):(Rs T l).1=5∨Rs T l=(0,Wa T.toNat l):=by
 unfold Rs;have hc:Th T l=0:=(Ym l).2 fun p hp=>(El T p).2 ⟨hT,hl p hp⟩;rw[if_neg (by omega)];split
 ·exact .inl rfl
 ·rw[if_neg (by simp[hc])];split
  ·exact .inl rfl
  ·exact .inr (by rw[Sv (by omega) hl])
def onA(a:Aut):List Prd:=a.mv.map (·.on)
def Ux(a:Aut):Int×List Prd×List (List Int):=if Wx a≠0 then(Wx a,[],[])else
 if(Rs a.types (onA a)).1≠0 then((Rs a.types (onA a)).1,[],[])else
 match Dw a (Rs a.types (onA a)).2 with
 |none=>(5,[],[])
 |some Q=>(0,(Rs a.types (onA a)).2,Q)
def Ro(a:Aut):Int×Aut:=if(Ux a).1≠0 then((Ux a).1,Oz)else x08 (Y0 a (Ux a).2.1 (Ux a).2.2)
def y24(a:Aut):Int×Aut:=if Wx a≠0 then(Wx a,Oz)else v0b a
def q29(a:Aut):Aut:={ a with fin:=a.fin.map (!·) }
def v2y(a:Aut):Int×Aut:=if(Ro a).1≠0 then((Ro a).1,Oz)else if(v0b (Ro a).2).1≠0 then((v0b (Ro a).2).1,Oz)else(0,q29 (v0b (Ro a).2).2)
theorem Du{a:Aut}(h:OkA a):∀p∈onA a,PCk a.types.toNat p:=fun p hp=>by obtain⟨m,hm,rfl⟩:=zM.1 hp;exact(h.mv m hm).on
theorem Cq{a:Aut}(h:OkA a):Ux a=(5,[],[])∨∃Q,Ux a=(0,Wa a.types.toNat (onA a),Q)∧Dw a (Wa a.types.toNat (onA a))=some Q∧Sub a (Wa a.types.toNat (onA a)) Q∧Cls a (Wa a.types.toNat (onA a)):=by
 unfold Ux;rw[if_neg (fun k=>k ((U7 a).2 h))];rcases Bm h.types (Du h)with hm|hm
 ·rw[if_pos (by rw[hm];decide),hm];exact .inl rfl
 ·rw[hm,if_neg (by simp)];cases hs:Dw a (Wa a.types.toNat (onA a))with
  |none=>exact .inl rfl
  |some Q=>exact .inr ⟨Q,rfl,rfl,k0m h hs,x1u h⟩
theorem Nv{a:Aut}(h:Wx a≠0):Ux a=(Wx a,[],[]):=if_pos h
theorem S7{a:Aut}{cl:List Prd}{Q:List (List Int)}(hc:Cls a cl){m:Mv}(hm:m∈Nk a cl Q):(∃n:Nat,n<Q.length∧m.src=n)∧(∃t:Nat,t<Q.length∧m.dst=t)∧PWf a.types.toNat m.on:=by obtain⟨n,l,hl,hg⟩:=Ij.1 hm;have hi:=Ag (a:=a) (Q:=Q) n l hc.wf;exact⟨⟨n,(zA.1 hl).1,hi.src m hg⟩,hi.dst m hg,hi.wf m hg⟩
theorem x14{a:Aut}{cl:List Prd}{Q:List (List Int)}(hc:Cls a cl)(hs:Sub a cl Q):WfA (Y0 a cl Q):=by
 have h0:=(zA.1 hs.first).1;have hl:(Y0 a cl Q).fin.length=Q.length:=by simp[Y0]
 refine⟨hc.ok.types,by omega,fun m hm=> ?_,fun m hm=> ?_,fun m hm=>(S7 hc hm).2.2⟩
 ·obtain⟨⟨n,h1,h2⟩,_⟩:=S7 hc hm;rw[hl,h2];omega
 ·obtain⟨_,⟨n,h1,h2⟩,_⟩:=S7 hc hm;rw[hl,h2];omega
theorem Yp{a d:Aut}(h:OkA a)(hd:Ro a=(0,d)):∃Q,Dw a (Wa a.types.toNat (onA a))=some Q∧Sub a (Wa a.types.toNat (onA a)) Q∧Cls a (Wa a.types.toNat (onA a))∧
  Ux a=(0,Wa a.types.toNat (onA a),Q)∧d=Y0 a (Wa a.types.toNat (onA a)) Q∧OkA d∧Xu d∧d.types=a.types∧∀w,(∀x∈w,Ed a x)→Yj d w=Yj a w:=by
 unfold Ro at hd;rcases Cq h with hs|⟨Q,hs,hq,z1,z6⟩
 ·rw[hs,if_pos (by decide)]at hd;cases(Prod.mk.inj hd).1
 ·rw[hs,if_neg (by simp)]at hd;obtain⟨rfl,hk⟩:=c1j (x14 z6 z1) hd;exact⟨Q,hq,z1,z6,hs,rfl,hk,z0i z6 z1,rfl,fun w hw=>u11 z6 z1 hw⟩
theorem z1j{a:Aut}(hw:WfA a)(hd:Xu a)(hf:w1b a){s:Int}(h0:0≤s)(h1:s<a.fin.length){x:Sy}(hx:Ed a x):∃t:Int,0≤t∧t<a.fin.length∧Q6 a [s] x=[t]:=by
 obtain⟨m,hm,e,hh⟩:=hf s h0 h1 x hx;refine⟨m.dst,(hw.dst m hm).1,(hw.dst m hm).2,T8 (Yr ..) (by simp) fun z=> ?_⟩;rw[Eb];constructor
 ·rintro⟨_,k,hk,h2,h3,h4⟩;obtain h2:=zJ.1 h2;have:k=m∨k.dst=m.dst:=by
   obtain⟨i,hi⟩:=yF.1 hm;obtain⟨j,hj⟩:=yF.1 hk;obtain⟨z7,z1⟩:=zA.1 hi;obtain⟨z8,z6⟩:=zA.1 hj;by_cases hij:i=j
   ·subst hij;left;rw[←z1,←z6]
   ·exfalso;rcases uf hij with hlt|hgt
    ·have:=yD.1 hd i j z7 z8 hlt;rw[z1,z6]at this;exact this (by rw[e,h2]) x hx ⟨hh,h3⟩
    ·have:=yD.1 hd j i z8 z7 hgt;rw[z1,z6]at this;exact this (by rw[e,h2]) x hx ⟨h3,hh⟩
  rcases this with rfl|this
  ·rw[←h4];simp
  ·rw[←h4,this];simp
 ·intro hz;obtain rfl:=zJ.1 hz;exact⟨hw.dst m hm,m,hm,by rw[e];simp,hh,rfl⟩
theorem q1l{a:Aut}{cl:List Prd}(hc:Cls a cl){c:Prd}(hm:c∈cl):Ed a (Qv c):=by have h:=(Ee (hc.wf c hm).1 (hc.wf c hm).2).1;have h2:=(hc.wf c hm).1.lt h;exact⟨⟨by simp[Qv],by simp only[Qv];omega⟩,h2.2⟩
end Go.Abs
namespace Go.Abs
def x1i(p:Prd):Bool:=decide (p.length≤4) && p.all fun s=>decide (s.length≤12)
def y14(a:Aut):Bool:=decide (a.fin.length≤8) && decide (a.mv.length≤16) && a.mv.all fun m=>x1i m.on
theorem w0i{p:Prd}:x1i p=true↔p.length≤4∧∀s∈p,s.length≤12:=by simp[x1i]
theorem y1w{l:List Iv}(h:Sep l)(hb:∀n,M l n→inR n):(En l).length≤l.length+1:=(Sp h hb).2.2
def x26(a:Aut)(l:List Int)(x:Sy):Int×List Int:=if Wx a≠0 then(Wx a,[])else if 256<l.length then(5,[])else
 if l.any (fun s=>decide (s<0) || decide ((a.fin.length:Int)≤s))then(6,[])else if G3 a.types x≠0 then(G3 a.types x,[])else(0,Q6 a l x)
theorem Zl{n:Nat}{l:List Int}(h:l.Pairwise (·<·))(hr:∀s∈l,0≤s∧s<n):l.length≤n:=by
 have he:l=(Wp n).filter fun z=>decide (z∈l):=T8 h ((Xw n).filter _) fun z=>by rw[wC,W1];exact⟨fun hz=>⟨hr z hz,by simpa using hz⟩,fun hz=>by simpa using hz.2⟩
 have h1:=wU (fun z=>decide (z∈l)) (Wp n);rw[←he]at h1;simpa[Wp]using h1
theorem Fl{a:Aut}(h:OkA a)(l:List Int)(x:Sy):(Q6 a l x).length≤256:=by have:=Zl (Yr a l x) T7;have:=h.fin;omega
def v0c(p q:Prd):Bool:= !W2 (Wv p q)
def V2(a:Aut):Bool:=(yA a.mv.length).all fun i=>(yA i).all fun k=> !(decide ((a.mv.getD i default).src=(a.mv.getD k default).src) && v0c (a.mv.getD i default).on (a.mv.getD k default).on)
theorem L0{T:Nat}{p q:Prd}(hp:PWf T p)(hq:PWf T q):v0c p q=true↔∃t n,PM p t n∧PM q t n:=by
 unfold v0c;cases hv:W2 (Wv p q)
 ·simp only[Bool.not_false,true_iff];apply Classical.byContradiction;intro hn;have:=(Rh (Uq hp hq.1)).2 (fun t n hm=>hn ⟨t,n,(Ry hp.1 hq.1 t n).1 hm⟩);rw[hv]at this;cases this
 ·simp only[Bool.not_true,Bool.false_eq_true,false_iff];rintro⟨t,n,hm⟩;exact(Rh (Uq hp hq.1)).1 hv t n ((Ry hp.1 hq.1 t n).2 hm)
theorem Me{a:Aut}(h:WfA a):V2 a=true↔Xu a:=by
 unfold V2 Xu;rw[zP,yD];have hg:∀(i:Nat) (hi:i<a.mv.length),a.mv.getD i default=a.mv[i]:=fun i hi=>by simp[yQ,hi]
 constructor
 ·intro hs i j hi hj z6 e x hx;rintro⟨h1,h2⟩;have:=hs j (yM.2 hj);rw[zP]at this;have:=this i (yM.2 z6);rw[hg j hj,hg i hi,e]at this;have hc:v0c a.mv[j].on a.mv[i].on=true:=(L0 (h.on _ (zG hj)) (h.on _ (zG hi))).2 ⟨_,_,(Up h (zG hj) hx).1 h2,(Up h (zG hi) hx).1 h1⟩;rw[hc]at this;simp at this
 ·intro hd i hi;have hi:=yM.1 hi;rw[zP];intro k hk;have hk:=yM.1 hk;have z1:k<a.mv.length:=by omega
  rw[hg i hi,hg k z1];by_cases e:a.mv[i].src=a.mv[k].src
  ·cases hc:v0c a.mv[i].on a.mv[k].on
   ·simp
   ·exfalso;obtain⟨t,n,h1,h2⟩:=(L0 (h.on _ (zG hi)) (h.on _ (zG z1))).1 hc;have hb:=(h.on _ (zG hi)).lt h1;have hx:Ed a ⟨t,n⟩:=⟨⟨by simp,by simp only;omega⟩,hb.2⟩
    exact hd k i z1 hi hk e.symm ⟨t,n⟩ hx ⟨(Up h (zG z1) hx).2 (by simpa using h2),(Up h (zG hi) hx).2 (by simpa using h1)⟩
  ·simp[e]
end Go.Abs
