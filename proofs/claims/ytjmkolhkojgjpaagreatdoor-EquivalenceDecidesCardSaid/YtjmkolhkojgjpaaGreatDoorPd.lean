/- Part Pd of the proof: an abstract machine over the model, and what the functions of the program hand back in its terms. No condition. -/
import Derived.Test.YtjmkolhkojgjpaaGreatDoorPc
import Derived.Test.YtjmkolhkojgjpaaGreatDoorPb
set_option linter.all false
open List renaming eq_nil_or_concat→xY,concat_eq_append→xZ,getLast?_append→uL,getLast?_singleton→uB,dropLast_concat→uM,mem_append→zO,foldl_cons→yV,length_cons→yB,length_take→yP,take_succ_eq_append_getElem→zJ,take_of_length_le→zM,map_take→yQ,map_drop→yR,take_length→zZ,take_append_drop→xE,mem_cons→zT,getElem?_append_right→zC,getElem_of_mem→yG,getElem_mem→zG,any_eq_true→wQ,any_eq_false→wT,replicate→zU,cons_append→vB,length_filter_le→vE,perm_middle→vu,pairwise_append→zX,pairwise_cons→z_,pairwise_iff_getElem→yC,getElem_take→uZ,pairwise_mergeSort→vT,mem_mergeSort→uW,mem_flatMap→xL,mem_filterMap→wL,countP_cons→wS,countP_eq_zero→uQ,map_cons→yJ,sum_cons→uw,getElem?_eq_some_iff→zA,mem_of_getElem?→zF,getElem?_eq_getElem→zD,perm_ext_iff_of_nodup→up,zipWith→tC,getElem?_replicate→vv,eq_of_mem_replicate→wA,getElem?_zipWith→wM,mem_iff_getElem?→yE,getElem?_map→zQ,all_eq_true→zP,mem_singleton→zI,pairwise_flatMap→vU,range→yD,getD→yT,getElem?_set_self→zH,getElem?_set_ne→zB,mem_cons_of_mem→uN,map_congr_left→xN,mem_map→zK,mem_range→yL,pairwise_map→xM,mem_filter→wI,mem_append_left→xB,findIdx?_eq_some_iff_getElem→wd,getElem_inj→ug,getElem?_append_left→zE,eq_nil_iff_forall_not_mem→wH
open Option renaming some_or→ta,map_eq_some_iff→zN
open Nat renaming le_refl→zL,le_trans→yO,lt_trichotomy→vZ,lt_or_gt_of_ne→uh
open Bool renaming eq_iff_iff→xR,not_eq_true→ur
open Int renaming le_refl→yI,lt_trichotomy→tc
set_option maxHeartbeats 2000000
set_option linter.unusedSimpArgs false
set_option maxRecDepth 100000
namespace Go.Abs
open Go Go.Proofs
def w29:List Iv→Int
 |[]=>0
 |x::r=>if(Av x != 0)=true then Av x else w29 r
def Qz(acc l:List Iv):List Iv:=l.foldl W4 acc
def j0k(l:List Iv):Int:=if decide ((256:Int)<l.length)=true then 5 else w29 l
def x2o(l:List Iv)(r:AV):Prop:=(j0k l≠0∧r= .tup [.list [],.i (j0k l)])∨(j0k l=0∧l.length≤256∧w29 l=0∧∃l':List Iv,l'.Perm l∧Ng l'∧r= .tup [LIv (Qz [] l'),.i 0])
theorem X0{x:Iv}(h:Av x=0):O3 x∧x.lo≤x.hi:=by
 unfold Av at h;by_cases h1:(!inB x.lo || !inB x.hi)=true
 ·rw[if_pos h1]at h;cases h
 ·rw[if_neg h1]at h;by_cases h2:decide (x.hi<x.lo)=true
  ·rw[if_pos h2]at h;cases h
  ·exact⟨by simpa[O3]using h1,by simpa using h2⟩
theorem u1e{acc:List Iv}{x:Iv}(ha:∀y∈acc,O3 y)(hx:O3 x):∀y∈W4 acc x,O3 y:=by
 rcases xY acc with rfl|⟨ini,z,rfl⟩
 ·simpa[W4]using hx
 ·have hz:=ha z (by simp);have hi:∀y∈ini,O3 y:=fun y hy=>ha y (by simp[hy]);intro y hy;simp only[W4,xZ,uL,uB,ta,uM]at hy;split at hy
  ·rcases zO.1 hy with h|h
   ·exact hi y h
   ·simp at h;subst h;refine⟨hz.1,?_⟩;simp only;split
    ·exact hx.2
    ·exact hz.2
  ·rcases zO.1 hy with h|h
   ·rcases zO.1 h with h|h
    ·exact hi y h
    ·simp at h;subst h;exact hz
   ·simp at h;subst h;exact hx
theorem c0a(acc:List Iv)(x:Iv):(W4 acc x).length≤acc.length+1:=by
 rcases xY acc with rfl|⟨ini,z,rfl⟩
 ·simp[W4]
 ·simp only[W4,xZ,uL,uB,ta,uM];split<;>simp
theorem Oz(acc l:List Iv)(x:Iv):Qz acc (l++[x])=W4 (Qz acc l) x:=by simp[Qz]
theorem Rk:∀(l acc:List Iv),(Qz acc l).length≤acc.length+l.length
 |[],acc=>by simp[Qz]
 |x::r,acc=>by have:=Rk r (W4 acc x);have:=c0a acc x;simp only[Qz,yV,yB]at *;omega
theorem Pv:∀(l acc:List Iv),(∀y∈acc,O3 y)→(∀y∈l,O3 y)→∀y∈Qz acc l,O3 y
 |[],acc,h,_=>by simpa[Qz]using h
 |x::r,acc,h,hl=>Pv r (W4 acc x) (u1e h (hl x (by simp))) (fun y hy=>hl y (by simp[hy]))
attribute [local irreducible] Av
end Go.Abs
namespace Go.Abs
open Go Go.Proofs
def f1w(s:List Iv)(j:Nat)(x:Iv):Bool:=match s[j]? with|some y=>decide (x.lo<y.lo)|none=>false
def Tt(s:List Iv)(x:Iv):Nat→Nat
 |0=>0
 |j+1=>if f1w s j x=true then Tt s x j else j+1
def Zo(s:List Iv)(x:Iv):List Iv:=s.take (Tt s x s.length)++x::s.drop (Tt s x s.length)
def Eo(l:List Iv):List Iv:=l.foldl Zo []
theorem F1(s:List Iv)(x:Iv):∀j,Tt s x j≤j
 |0=>zL _
 |j+1=>by
  rw[Tt];split
  ·exact Nat.le_succ_of_le (F1 s x j)
  ·exact zL _
theorem w10(s:List Iv)(x:Iv):(Zo s x).length=s.length+1:=by have:=F1 s x s.length;simp[Zo];omega
theorem w0e(l:List Iv)(x:Iv):Eo (l++[x])=Zo (Eo l) x:=by simp[Eo]
theorem H5:∀(l acc:List Iv),(l.foldl Zo acc).length=acc.length+l.length
 |[],acc=>by simp
 |x::r,acc=>by rw[yV,H5 r,w10,yB];omega
theorem Fp(l:List Iv):(Eo l).length=l.length:=by rw[Eo,H5];simp
theorem f0s(l:List Iv)(hl:l.length≤1000000000):PC Tryz.prog 297 [LIv l] (fun r=>r=LIv (Eo l)):=by
 refine Qh tOk Tryz.func297 rfl Tryz.results297 rfl (by simp[Tryz.ntmps297]) ?_;rw[Tryz.ntmps297];simp only[Qe];repeat first|(refine r_ ?_;simp)|refine q_ ?_
 refine V6 3 rfl ?_;simp;refine Qt l.length (fun _=>True) (fun j=>[(0,LIv l),(3,LIv (Eo (l.take j))),(4,.i j)]) (fun _=>[]) rfl (by simp) (by simp[Eo]) (by simp) (by simp) trivial ?_;intro j hj _ ih;obtain⟨s,hs⟩:∃s,Eo (l.take j)=s:=⟨_,rfl⟩
 have zj:s.length=j:=by rw[←hs,Fp,yP];omega
 rw[hs];repeat first|(refine r_ ?_;simp)|refine q_ ?_
 refine Qa rfl (fun zd=> ?_) (fun ze=> ?_)
 ·have z1:j<l.length:=by simpa using zd
  have hw:IntKind.i64.wrap ((j:Int)+1)=j+1:=wrap_i64 _ (by omega) (by omega);have za:Eo (l.take (j+1))=Zo s l[j]:=by rw[zJ z1,w0e,hs]
  repeat first|(refine r_ ?_;simp)|refine q_ ?_
  obtain⟨q,hq⟩:∃q,Tt s l[j] s.length=q:=⟨_,rfl⟩
  refine Qm (Qb (sl':=[(0,LIv l),(3,LIv s),(4,.i j),(5,.i s.length)]) ?_ (by simp));refine Ql (F:=fun(u:Nat)=>⟨[(0,LIv l),(3,LIv s),(4,.i j),(5,.i u)],[]⟩) (fun u=>u≤s.length∧Tt s l[j] u=q) (fun u=>u) ?_ s.length ⟨zL _,hq⟩;rintro u ⟨hu,hI⟩ ih2;repeat first|(refine r_ ?_;simp)|refine q_ ?_
  rcases u with _|u
  ·have zf:IntKind.i64.wrap (-1)= -1:=by decide
   refine Qk tOk mixed [] (.val 0 (.val 1 (.val 2 (.val 3 (.val 4 (.val 5 (.val 6 (.val 7 (.val 8 (.val 9 (.val 10 (.val 11 (.val 12 (.val 13 (.val 14 (.val 15 (.done))))))))))))))))) rfl (by kernel_rfl) ?_;simp[zf,z1];refine Qs rfl ?_;repeat first|(refine r_ ?_;simp)|refine q_ ?_
   have zg:q=0:=hI.symm;subst zg;refine Qf tOk rfl rfl Au rfl He rfl (by decide) (by decide) rfl rfl rfl ?_;simp[z1];refine⟨by simp[Wp,z1]<;>omega,?_⟩;repeat first|(refine r_ ?_;simp[z1,z1])|refine q_ ?_
   refine Qf tOk rfl rfl Au rfl He rfl (by decide) (by decide) rfl rfl rfl ?_;simp[z1];refine⟨by simp[Wp,z1]<;>omega,?_⟩;repeat first|(refine r_ ?_;simp[z1,z1])|refine q_ ?_
   refine Qf tOk rfl rfl Au rfl He rfl (by decide) (by decide) rfl rfl rfl ?_;simp[z1];refine⟨by simp[Wp,z1]<;>omega,?_⟩;repeat first|(refine r_ ?_;simp[z1,hw])|refine q_ ?_
   refine S5 4 rfl ?_;simp[z1];refine Qq _ (ih z1 trivial) rfl (by simp) ?_ (by simp) (by simp);rw[za];simp;rw[zM (by simp;omega)];rw[if_pos (by omega)]
   subst_vars
   simp[Zo, *]
  ·have zb:u<s.length:=by omega
   have zc:IntKind.i64.wrap (u:Int)=u:=wrap_i64 _ (by omega) (by omega);have zh:(u:Int)<s.length:=by omega
   have zi:f1w s u l[j]=decide (l[j].lo<s[u].lo):=by simp[f1w,zb]
   rw[Tt,zi]at hI;refine Qk tOk mixed [] (.val 0 (.val 1 (.val 2 (.val 3 (.val 4 (.val 5 (.val 6 (.val 7 (.val 8 (.val 9 (.val 10 (.val 11 (.val 12 (.val 13 (.val 14 (.val 15 (.done))))))))))))))))) rfl (by kernel_rfl) ?_;simp[zb,z1,zc,zh];refine Qa rfl (fun h1=> ?_) (fun h1=> ?_)
   ·rw[if_pos h1]at hI;repeat first|(refine r_ ?_;simp[zc])|refine q_ ?_
    exact Qb (sl':=[(0,LIv l),(3,LIv s),(4,.i j),(5,.i u)]) (ih2 u ⟨by omega,hI⟩ (by omega)) (by simp)
   ·rw[if_neg (by simpa using h1)]at hI;have z6:(u:Int)+1≤s.length:=by omega
    have z7:(0:Int)≤(u:Int)+1:=by omega
    repeat first|(refine r_ ?_;simp[z6,z7])|refine q_ ?_
    refine Qf tOk rfl rfl Au rfl He rfl (by decide) (by decide) rfl rfl rfl ?_;simp[z6,z7,-yQ,←yQ,-yR,←yR];refine⟨by simp[Wp,z6,z7,-yQ,←yQ,-yR,←yR]<;>omega,?_⟩;repeat first|(refine r_ ?_;simp[z1,z6,z7,-yQ,←yQ,-yR,←yR])|refine q_ ?_
    refine Qf tOk rfl rfl Au rfl He rfl (by decide) (by decide) rfl rfl rfl ?_;simp[z6,z7,-yQ,←yQ,-yR,←yR];refine⟨by simp[Wp,z6,z7,-yQ,←yQ,-yR,←yR]<;>omega,?_⟩;repeat first|(refine r_ ?_;simp[z1,z6,z7,-yQ,←yQ,-yR,←yR])|refine q_ ?_
    refine Qf tOk rfl rfl Au rfl He rfl (by decide) (by decide) rfl rfl rfl ?_;simp[z6,z7,-yQ,←yQ,-yR,←yR];refine⟨by simp[Wp,z6,z7,-yQ,←yQ,-yR,←yR]<;>omega,?_⟩;repeat first|(refine r_ ?_;simp[z6,z7,-yQ,←yQ,-yR,←yR,hw])|refine q_ ?_
    refine S5 4 rfl ?_;simp[z6,z7,-yQ,←yQ,-yR,←yR];refine Qq _ (ih z1 trivial) rfl (by simp) ?_ (by simp) (by simp);rw[za];simp;rw[zM (by simp;omega)];rw[if_pos (by omega)]
    subst_vars
    simp[Zo, *]
 ·have z8:j=l.length:=by simp at ze;omega
  subst z8;repeat first|(refine r_ ?_;simp)|refine q_ ?_
  rw[←hs,zZ]
end Go.Abs
namespace Go.Abs
open Go Go.Proofs
def E6(l:List Iv):List Iv:=Qz [] (Eo l)
theorem Ef(ini:List Iv)(y x:Iv):W4 (ini++[y]) x=if x.lo≤y.hi+1 then ini++[⟨y.lo,if y.hi<x.hi then x.hi else y.hi⟩]else ini++[y]++[x]:=by simp[W4]
theorem w1f(s:List Iv)(x y:Iv):y∈Zo s x↔y=x∨y∈s:=by
 have:(s.take (Tt s x s.length)++s.drop (Tt s x s.length))=s:=xE _ _;rw[Zo,zO,zT]
 conv=>rhs;rw[←this,zO]
 constructor<;>rintro(h|h|h)<;>simp[h]
theorem Hv:∀(l acc:List Iv) (y:Iv),y∈l.foldl Zo acc↔y∈acc∨y∈l
 |[],acc,y=>by simp
 |x::r,acc,y=>by
  rw[yV,Hv r,w1f,zT];constructor
  ·rintro((h|h)|h)<;>simp[h]
  ·rintro(h|h|h)<;>simp[h]
theorem f0v(l:List Iv)(y:Iv):y∈Eo l↔y∈l:=by rw[Eo,Hv];simp
attribute [local irreducible] Eo
theorem u0s(l:List Iv)(hl:l.length≤1000000000)(zk:∀y∈l,O3 y):PC Tryz.prog 250 [LIv l] (fun r=>r=LIv (E6 l)):=by
 refine Qh tOk Tryz.func250 rfl Tryz.results250 rfl (by simp[Tryz.ntmps250]) ?_;rw[Tryz.ntmps250];simp only[Qe];repeat first|(refine r_ ?_;simp)|refine q_ ?_
 refine Qd rfl rfl (by simp) (f0s l hl) rfl ?_;rintro _ rfl;simp;repeat first|(refine r_ ?_;simp)|refine q_ ?_
 have hl':(Eo l).length≤1000000000:=by rw[Fp];exact hl
 have z8:∀y∈Eo l,O3 y:=fun y hy=>zk y ((f0v l y).1 hy);unfold E6;generalize Eo l=s at hl' z8 ⊢;refine Q6 4 144 2 rfl ?_;simp;refine Qm (Qb (sl':=[(3,LIv s),(4,.sl 0 2 0 0),(5,.i 0)]) ?_ (by simp));refine Ql (F:=fun(u:Nat×Nat×List AObj)=>⟨[(3,LIv s),(4,.sl u.2.1 2 0 (Qz [] (s.take u.1)).length),(5,.i u.1)],u.2.2⟩)
  (fun u=>u.1≤s.length∧u.2.2[u.2.1]? =some (.arr 144 2 ((Qz [] (s.take u.1)).map encIv))) (fun u=>s.length - u.1) ?_ (0,0,[.arr 144 2 []]) ⟨by simp,rfl⟩
 rintro⟨j,q,H2⟩ ⟨hj,g1⟩ ih;simp only at hj g1 ih ⊢;repeat first|(refine r_ ?_;simp)|refine q_ ?_
 refine Qa rfl (fun zl=> ?_) (fun zm=> ?_)
 ·have z1:j<s.length:=by simpa using zl
  have hw:IntKind.i64.wrap ((j:Int)+1)=j+1:=wrap_i64 _ (by omega) (by omega);have zc:(Qz [] (s.take j)).length≤1000000000:=yO (Rk _ _) (by simp;omega);have zd:∀y∈Qz [] (s.take j),O3 y:=Pv _ _ (by simp) (fun y hy=>z8 y (List.mem_of_mem_take hy));have zh:Qz [] (s.take (j+1))=W4 (Qz [] (s.take j)) s[j]:=by rw[zJ z1,Oz]
  have z6:∀(q':Nat) (H':List AObj),H'[q']? =some (.arr 144 2 ((W4 (Qz [] (s.take j)) s[j]).map encIv))→_:=fun q' H' h=>ih (j+1,q',H') ⟨by simp;omega,by rw[zh];exact h⟩ (by simp;omega);clear ih;simp only[zh]at z6;generalize Qz [] (s.take j)=acc at g1 zc zd z6 ⊢;repeat first|(refine r_ ?_;simp)|refine q_ ?_
  rcases xY acc with rfl|⟨ini,y,rfl⟩
  ·have zi:IntKind.i64.wrap (-1)= -1:=by decide
   repeat first|(refine r_ ?_;simp[zi])|refine q_ ?_
   refine Qk tOk mixed [] (.val 0 (.val 1 (.val 2 (.val 3 (.val 4 (.val 5 (.val 6 (.val 7 (.val 8 (.val 9 (.val 10 (.val 11 (.val 12 (.val 13 (.val 14 (.val 15 (.done))))))))))))))))) rfl (by kernel_rfl) ?_;simp[zi,z1,g1];refine Qs rfl ?_;simp;repeat first|(refine r_ ?_;simp[z1,g1])|refine q_ ?_
   refine Qf tOk rfl rfl Au rfl He rfl (by decide) (by decide) rfl rfl rfl ?_;simp[Qc g1,Qj g1];refine⟨by simp[Wp,Qc g1,Qj g1]<;>omega,?_⟩;repeat first|(refine r_ ?_;simp[hw])|refine q_ ?_
   exact Qb (sl':=[(3,LIv s),(4,.sl (H2.length+1) 2 0 1),(5,.i (j+1:Nat))]) (z6 (H2.length+1) _ (by rw[zC (by simp)];simp[W4])) (by simp)
  ·have hy:=zd y (by simp);have zn:=(Eb _).1 hy.2;have zj:IntKind.i64.wrap (y.hi+1)=y.hi+1:=wrap_i64 _ (by omega) (by omega);rw[xZ]at g1 zc zd z6 ⊢;have hlen:(ini++[y]).length=ini.length+1:=by simp
   rw[hlen]at zc ⊢;have zb:IntKind.i64.wrap (ini.length:Int)=ini.length:=wrap_i64 _ (by omega) (by omega);have hg:((ini++[y]).map encIv)[ini.length]? =some (encIv y):=by simp
   have z7:(ini.length:Int)<ini.length+1:=by omega
   repeat first|(refine r_ ?_;simp[zb])|refine q_ ?_
   have za:¬((ini.length:Int)<0):=by omega
   refine Qk tOk mixed [] (.val 0 (.val 1 (.val 2 (.val 3 (.val 4 (.val 5 (.val 6 (.val 7 (.val 8 (.val 9 (.val 10 (.val 11 (.val 12 (.val 13 (.val 14 (.val 15 (.done))))))))))))))))) rfl (by kernel_rfl) ?_;simp[z1,g1,zb,hg,zj,z7,za];rw[Ef]at z6;refine Qa rfl (fun h1=> ?_) (fun h1=> ?_)
   ·have ze:¬(s[j].lo≤y.hi+1):=by simp at h1;omega
    rw[if_neg ze]at z6;repeat first|(refine r_ ?_;simp[z1,g1])|refine q_ ?_
    refine Qf tOk rfl rfl Au rfl He rfl (by decide) (by decide) rfl rfl rfl ?_;simp[Qc g1,Qj g1];refine⟨by simp[Wp,Qc g1,Qj g1]<;>omega,?_⟩;repeat first|(refine r_ ?_;simp[hw])|refine q_ ?_
    exact Qb (sl':=[(3,LIv s),(4,.sl (H2.length+1) 2 0 (ini.length+1+1)),(5,.i (j+1:Nat))]) (by
     have:=z6 (H2.length+1) (H2.set q .dead++[.arr 144 2 [encIv s[j]],.arr 144 2 ((ini++[y]++[s[j]]).map encIv)]) (by rw[zC (by simp)];simp);simpa using this) (by simp)
   ·have ze:s[j].lo≤y.hi+1:=by simp at h1;omega
    rw[if_pos ze]at z6;repeat first|(refine r_ ?_;simp)|refine q_ ?_
    refine Qk tOk mixed [] (.val 0 (.val 1 (.val 2 (.val 3 (.val 4 (.val 5 (.val 6 (.val 7 (.val 8 (.val 9 (.val 10 (.done)))))))))))) rfl (by kernel_rfl) ?_;simp[z1,g1,zb,hg,zj,z7,za];refine Qa rfl (fun h2=> ?_) (fun h2=> ?_)
    ·have zf:y.hi<s[j].hi:=by simpa using h2
     rw[if_pos zf]at z6;repeat first|(refine r_ ?_;simp[z1,g1,hg,zb,z7,hw])|refine q_ ?_
     exact Qb (sl':=[(3,LIv s),(4,.sl q 2 0 (ini.length+1)),(5,.i (j+1:Nat))]) (by
      have:=z6 q (H2.set q (.arr 144 2 ((ini++[(⟨y.lo,s[j].hi⟩:Iv)]).map encIv))) (Qp g1 _);simpa using this) (by simp)
    ·have zf:¬(y.hi<s[j].hi):=by simpa using h2
     rw[if_neg zf]at z6;repeat first|(refine r_ ?_;simp[hw])|refine q_ ?_
     exact Qb (sl':=[(3,LIv s),(4,.sl q 2 0 (ini.length+1)),(5,.i (j+1:Nat))]) (by
      have:=z6 q H2 g1;simpa using this) (by simp)
 ·have zg:j=s.length:=by simp at zm;omega
  subst zg;rw[zZ]at g1;repeat first|(refine r_ ?_;simp[g1])|refine q_ ?_
  rw[zM (by simp)]
end Go.Abs
namespace Go.Abs
open Go Go.Proofs
attribute [local irreducible] E6
def z27(l:List Iv):AV:=if j0k l=0 then .tup [LIv (E6 l),.i 0]else .tup [.list [],.i (j0k l)]
attribute [local irreducible] Av
theorem g1a(l:List Iv):PC Tryz.prog 144 [LIv l] (fun r=>r= .bool (decide ((l.length:Int)≤12))):=by refine Qh tOk Tryz.func144 rfl Tryz.results144 rfl (by simp[Tryz.ntmps144]) ?_;rw[Tryz.ntmps144];simp only[Qe];repeat first|(refine r_ ?_;simp)|refine q_ ?_
end Go.Abs
namespace Go.Abs
open Go Go.Proofs
attribute [simp] T68
@[simp] def encL (l:List Iv):AV:= .list (l.map encIv)
def z2d(l:List Iv):Bool:= !((decide ((12:Int)<l.length) && decide ((l.length:Int)≤254)) || decide ((258:Int)<l.length))
def x26(ls:List (List Iv)):Bool:=ls.all z2d
def g1b(l:List Iv):Bool:=decide ((l.length:Int)≤12) && decide (ckR l=0)
def x2p(ls:List (List Iv)):Bool:=ls.all g1b
attribute [local irreducible] ckR
end Go.Abs
namespace Go.Abs
open Go Go.Proofs
structure CanonL (l:List Iv):Prop where
 len:l.length≤256
 one:∀y∈l,Av y=0
 gap:∀j,∀h:j+1<l.length,l[j].hi+2≤l[j+1].lo
theorem Z8{l:List Iv}{j:Nat}{x:Iv}(h:j<l.length)(hi:O3 l[j]):v0t l (j+1) x=decide (x.lo<l[j].hi+2):=by have h1:=(Eb _).1 hi.2;have:W (l[j].hi+2)=l[j].hi+2:=wrap_i64 _ (by omega) (by omega);simp[v0t,h,this]
theorem Gv(l:List Iv)(hl:l.length≤256):∀(n j:Nat),l.length - j=n→j≤l.length→(∀h:0<j,∀h':j - 1<l.length,Av l[j - 1]=0)→(Uv l j (l.drop j)=0↔(∀i,j≤i→∀h:i<l.length,Av l[i]=0)∧∀i,j≤i+1→∀h:i+1<l.length,l[i].hi+2≤l[i+1].lo)
 |0,j,hn,hj,_=>by
  have:j=l.length:=by omega
  subst this;rw[List.drop_length,Uv];exact⟨fun _=>⟨fun i h1 h2=>by omega,fun i h1 h2=>by omega⟩,fun _=>rfl⟩
 |n+1,j,hn,hj,hp=>by
  have z6:j<l.length:=by omega
  rw[Wq z6,Uv];by_cases h1:(Av l[j] != 0)=true
  ·rw[if_pos h1];have z1:Av l[j]≠0:=by simpa using h1
   exact⟨fun h=>absurd h z1,fun h=>absurd (h.1 j (zL _) z6) z1⟩
  ·rw[if_neg h1];have z1:Av l[j]=0:=by simpa using h1
   have ih:=Gv l hl n (j+1) (by omega) (by omega) (fun _ _=>z1);by_cases h2:v0t l j l[j]=true
   ·rw[if_pos h2];refine⟨fun h=>(by cases h),fun h=> ?_⟩;rcases j with _|j
    ·simp[v0t]at h2
    ·have hq:Av l[j]=0:=hp (by omega) (by simp;omega);rw[Z8 (by omega) (X0 hq).1]at h2;have:=h.2 j (zL _) z6;simp at h2;omega
   ·rw[if_neg h2,ih];constructor
    ·rintro⟨a,b⟩;refine⟨fun i hi h=> ?_,fun i hi h=> ?_⟩
     ·by_cases e:i=j
      ·subst e;exact z1
      ·exact a i (by omega) h
     ·by_cases e:j=i+1
      ·subst e;have hq:Av l[i]=0:=hp (by omega) (by simp;omega);rw[Z8 (by omega) (X0 hq).1]at h2;simp at h2;exact h2
      ·exact b i (by omega) h
    ·rintro⟨a,b⟩;exact⟨fun i hi h=>a i (by omega) h,fun i hi h=>b i (by omega) h⟩
theorem Ce(l:List Iv):ckR l=0↔CanonL l:=by
 rw[ckR];by_cases h:decide ((256:Int)<l.length)=true
 ·rw[if_pos h];simp at h;exact⟨fun e=>(by cases e),fun e=>(by have:=e.len;omega)⟩
 ·rw[if_neg h];simp at h;have hl:l.length≤256:=by omega
  have:=Gv l hl l.length 0 rfl (Nat.zero_le _) (fun h=>by omega);rw[List.drop_zero]at this;rw[this];constructor
  ·rintro⟨a,b⟩;refine⟨hl,fun y hy=> ?_,fun j h=>b j (by omega) h⟩;obtain⟨i,hi,rfl⟩:=yG hy;exact a i (by omega) hi
  ·rintro⟨_,a,b⟩;exact⟨fun i _ h=>a _ (zG h),fun i _ h=>b i h⟩
theorem CanonL.iv{l:List Iv}(h:CanonL l){j:Nat}(hj:j<l.length): -1099511627776≤l[j].lo∧l[j].lo≤l[j].hi∧l[j].hi≤1099511627776:=by obtain⟨⟨h1,h2⟩,h3⟩:=X0 (h.one _ (zG hj));have:=(Eb _).1 h1;have:=(Eb _).1 h2;omega
def q2x:List Iv→Int
 |[]=>0
 |x::r=>(x.hi - x.lo+1)+q2x r
attribute [local irreducible] ckR
end Go.Abs
namespace Go.Abs
open Go Go.Proofs
attribute [local irreducible] ckR
def y01(a b:List Iv):Int:=if ckR a=0 then ckR b else ckR a
def x2g(l:List Iv):AV:=if l.length≤256 then .tup [LIv l,.i 0]else .tup [.list [],.i 5]
def y1q:List Iv→Int→Int×Int
 |[],_=>(0,2)
 |x::r,i=>if i<x.hi - x.lo+1 then(x.lo+i,0)else y1q r (i - (x.hi - x.lo+1))
def atR(l:List Iv)(i:Int):Int×Int:=if ckR l=0 then(if i<0 then(0,2)else y1q l i)else(0,ckR l)
def q0q(x:Iv)(n:Int):Int:=if x.hi<n then -1 else if n<x.lo then 1 else 0
theorem g0q(x:Iv)(n:Int):PC Tryz.prog 222 [encIv x,.i n] (fun r=>r= .i (q0q x n)):=by
 refine Qh tOk Tryz.func222 rfl Tryz.results222 rfl (by simp[Tryz.ntmps222]) ?_;rw[Tryz.ntmps222];simp only[Qe];simp only[encIv];repeat first|(refine r_ ?_;simp)|refine q_ ?_
 refine Qa rfl (fun h=> ?_) (fun h=> ?_)
 ·repeat first|(refine r_ ?_;simp)|refine q_ ?_
  rw[q0q,if_pos (by simpa using h)]
 repeat first|(refine r_ ?_;simp)|refine q_ ?_
 refine Qa rfl (fun h2=> ?_) (fun h2=> ?_)
 ·repeat first|(refine r_ ?_;simp)|refine q_ ?_
  rw[q0q,if_neg (by simpa using h),if_pos (by simpa using h2)]
 repeat first|(refine r_ ?_;simp)|refine q_ ?_
 rw[q0q,if_neg (by simpa using h),if_neg (by simpa using h2)]
def Og(l:List Iv)(n:Int):Bool:=l.any fun x=>decide (x.lo≤n) && decide (n≤x.hi)
theorem Iy{l:List Iv}(hc:CanonL l):∀ {i j:Nat},i<j→∀(hj:j<l.length),∀(hi:i<l.length),l[i].hi+2≤l[j].lo:=by
 intro i j z1 hj hi;obtain⟨d,rfl⟩:∃d,j=i+1+d:=⟨j - (i+1),by omega⟩
 induction d with
 |zero=>exact hc.gap i hj
 |succ d ih=>
  have h1:=ih (by omega) (by omega);have h2:=hc.gap (i+1+d) (by omega);have h3:=hc.iv (show i+1+d<l.length by omega);have h4:i+1+(d+1)=i+1+d+1:=by omega
  simp only[h4];omega
theorem F8(x:Iv)(n:Int):q0q x n<0↔x.hi<n:=by
 unfold q0q;by_cases h:x.hi<n
 ·rw[if_pos h];simp[h]
 ·rw[if_neg h];by_cases h2:n<x.lo
  ·rw[if_pos h2];simp[h]
  ·rw[if_neg h2];simp[h]
theorem d0z(x:Iv)(n:Int):q0q x n=0↔x.lo≤n∧n≤x.hi:=by
 unfold q0q;by_cases h:x.hi<n
 ·rw[if_pos h];constructor<;>intro h'<;>omega
 ·rw[if_neg h];by_cases h2:n<x.lo
  ·rw[if_pos h2];constructor<;>intro h'<;>omega
  ·rw[if_neg h2];constructor<;>intro h'<;>omega
theorem d1o{i j m:Nat}(hm:(i+j) / 2=m)(h:i+j≤1000000000):IntKind.i64.wrap ((IntKind.u64.wrap ((i:Int)+j)).fdiv (2 ^ min 1 IntKind.u64.bits))=m:=by
 have h1:IntKind.u64.wrap ((i:Int)+j)=i+j:=by simp[IntKind.wrap,IntKind.bits,IntKind.signed];omega
 have h2:min 1 IntKind.u64.bits=1:=by decide
 rw[h1,h2,Int.fdiv_eq_ediv_of_nonneg _ (by decide),wrap_i64 _ (by omega) (by omega)];omega
attribute [local irreducible] q0q
theorem X5(l:List Iv)(n:Int)(hc:CanonL l):PC Tryz.prog 221 [LIv l,.i n,.fn (.func 222) [] []] (fun r=>∃k:Int,r= .tup [.i k,.bool (Og l n)]):=by
 refine Qh tOk Tryz.func221 rfl Tryz.results221 rfl (by simp[Tryz.ntmps221]) ?_;rw[Tryz.ntmps221];simp only[Qe];have hlen:=hc.len;repeat first|(refine r_ ?_;simp)|refine q_ ?_
 refine Qm (Qb (sl':=[(0,LIv l),(1,.i n),(2,.fn (.func 222) [] []),(8,.i l.length),(9,.i 0),(10,.i l.length)]) ?_ (by simp));refine Ql (F:=fun(u:Nat×Nat)=>⟨[(0,LIv l),(1,.i n),(2,.fn (.func 222) [] []),(8,.i l.length),(9,.i u.1),(10,.i u.2)],[]⟩) (fun u=>u.1≤u.2∧u.2≤l.length∧(∀k,k<u.1→∀hk:k<l.length,q0q l[k] n<0)∧(∀k,u.2≤k→∀hk:k<l.length,¬q0q l[k] n<0)) (fun u=>u.2 - u.1) ?_ (0,l.length) ⟨by simp,by simp,fun k hk=>by simp at hk,fun k hk z1=>by simp only at hk;omega⟩;rintro⟨i,j⟩ ⟨h1,h2,h3,h4⟩ ih;simp only at h1 h2 h3 h4 ih ⊢;repeat first|(refine r_ ?_;simp)|refine q_ ?_
 refine Qa rfl (fun zd=> ?_) (fun ze=> ?_)
 ·have zf:i<j:=by simpa using zd
  have hw:IntKind.i64.wrap ((i:Int)+j)=i+j:=wrap_i64 _ (by omega) (by omega);obtain⟨m,hm⟩:∃m,(i+j) / 2=m:=⟨_,rfl⟩
  have z8:IntKind.i64.wrap ((IntKind.u64.wrap ((i:Int)+j)).fdiv (2 ^ min 1 IntKind.u64.bits))=m:=d1o hm (by omega);have z6:m<l.length:=by omega
  have za:(m:Int)<l.length:=by omega
  have zg:IntKind.i64.wrap ((m:Int)+1)=m+1:=wrap_i64 _ (by omega) (by omega);repeat first|(refine r_ ?_;simp[hw,z8,z6,za])|refine q_ ?_
  refine Qd rfl rfl (by simp) (g0q l[m] n) rfl ?_;rintro _ rfl;simp;refine Qa rfl (fun h5=> ?_) (fun h5=> ?_)
  ·repeat first|(refine r_ ?_;simp[zg])|refine q_ ?_
   refine Qb (sl':=[(0,LIv l),(1,.i n),(2,.fn (.func 222) [] []),(8,.i l.length),(9,.i (m+1:Nat)),(10,.i j)]) (ih (m+1,j) ⟨by simp only;omega,h2,fun k hk z1=> ?_,h4⟩ (by simp only;omega)) (by simp);have zh:=hc.iv z1;have zi:=hc.iv z6;have z7:q0q l[m] n<0:=by simpa using h5
   by_cases e:k=m
   ·subst e;exact z7
   ·have:=Iy hc (show k<m by omega) z6 z1;rw[F8]at z7 ⊢;omega
  ·repeat first|(refine r_ ?_;simp)|refine q_ ?_
   refine Qb (sl':=[(0,LIv l),(1,.i n),(2,.fn (.func 222) [] []),(8,.i l.length),(9,.i i),(10,.i m)]) (ih (i,m) ⟨by simp only;omega,by simp only;omega,h3,fun k hk z1=> ?_⟩ (by simp only;omega)) (by simp);have zh:=hc.iv z1;have zi:=hc.iv z6;have z7:¬q0q l[m] n<0:=by simpa using h5
   by_cases e:k=m
   ·subst e;exact z7
   ·have:=Iy hc (show m<k by omega) z1 z6;rw[F8]at z7 ⊢;omega
 ·have zb:i=j:=by simp at ze;omega
  subst zb;by_cases hil:i<l.length
  ·repeat first|(refine r_ ?_;simp[hil])|refine q_ ?_
   refine Qd rfl rfl (by simp) (g0q l[i] n) rfl ?_;rintro _ rfl;simp;repeat first|(refine r_ ?_;simp)|refine q_ ?_
   have hh:Og l n=(q0q l[i] n==0):=by
    rw[xR,beq_iff_eq,d0z,Og,wQ];constructor
    ·rintro⟨x,hx,zc⟩;obtain⟨k,hk,rfl⟩:=yG hx;simp at zc;have e:k=i:=by
      by_cases e1:k<i
      ·have:=(F8 _ _).1 (h3 k e1 hk);omega
      ·by_cases e2:i<k
       ·have:=Iy hc e2 hk hil;have:¬l[i].hi<n:=fun e=>h4 i (zL _) hil ((F8 l[i] n).2 e);omega
       ·omega
     subst e;exact zc
    ·intro h;exact⟨l[i],zG hil,by simpa using h⟩
   rw[hh]
  ·repeat first|(refine r_ ?_;simp[hil])|refine q_ ?_
   refine Q5 rfl rfl ?_;simp;repeat first|(refine r_ ?_;simp)|refine q_ ?_
   have hh:Og l n=false:=by rw[Og,wT];intro x hx;obtain⟨k,hk,rfl⟩:=yG hx;have:=(F8 _ _).1 (h3 k (by omega) hk);simp;intro _;omega
   rw[hh]
theorem q2d(l:List Iv)(n:Int)(hc:CanonL l):PC Tryz.prog 165 [LIv l,.i n] (fun r=>r= .bool (Og l n)):=by
 refine Qh tOk Tryz.func165 rfl Tryz.results165 rfl (by simp[Tryz.ntmps165]) ?_;rw[Tryz.ntmps165];simp only[Qe];repeat first|(refine r_ ?_;simp)|refine q_ ?_
 refine Qd rfl rfl (by simp) (X5 l n hc) rfl ?_;rintro _ ⟨k,rfl⟩;simp;repeat first|(refine r_ ?_;simp)|refine q_ ?_
attribute [local irreducible] Og
def z1w(l:List Iv)(n:Int):Bool×Int:=if ckR l=0 then(Og l n,0)else(false,ckR l)
theorem Fw(l:List Iv)(n:Int):PC Tryz.prog 103 [LIv l,.i n] (fun r=>r= .tup [.bool (z1w l n).1,.i (z1w l n).2]):=by
 refine Qh tOk Tryz.func103 rfl Tryz.results103 rfl (by simp[Tryz.ntmps103]) ?_;rw[Tryz.ntmps103];simp only[Qe];repeat first|(refine r_ ?_;simp)|refine q_ ?_
 refine Qd rfl rfl (by simp) (q0o l) rfl ?_;rintro _ rfl;simp;repeat first|(refine r_ ?_;simp)|refine q_ ?_
 refine Qa rfl (fun h=> ?_) (fun h=> ?_)
 ·repeat first|(refine r_ ?_;simp)|refine q_ ?_
  rw[z1w,if_neg (by simpa using h)];exact⟨rfl,rfl⟩
 have h0:ckR l=0:=by simpa using h
 repeat first|(refine r_ ?_;simp)|refine q_ ?_
 refine Qd rfl rfl (by simp) (q2d l n ((Ce l).1 h0)) rfl ?_;rintro _ rfl;simp;repeat first|(refine r_ ?_;simp)|refine q_ ?_
 rw[z1w,if_pos h0];exact⟨rfl,rfl⟩
end Go.Abs
namespace Go.Abs
open Go Go.Proofs
attribute [local irreducible] ckR
def w2n(d:Int)(x:Iv):Option Iv:=
 let a:=if x.lo+d< -1099511627776 then -1099511627776 else x.lo+d
 let b:=if 1099511627776<x.hi+d then 1099511627776 else x.hi+d
 if a≤b then some ⟨a,b⟩else none
def y2j(l:List Iv)(d:Int):List Iv×Int:=if ckR l=0 then(if d< -2199023255552∨2199023255552<d then([],0)else(l.filterMap (w2n d),0))else([],ckR l)
end Go.Abs
namespace Go.Abs
open Go Go.Proofs
def y2a(ls:List (List Iv)):List Iv:=ls.flatten
attribute [local irreducible] y2a
end Go.Abs
namespace Go.Abs
open Go Go.Proofs Go.RowKit Go.Shelf Go.Lib Go.Sort
def Ro(zs:List Int):List Int:=zs.mergeSort fun x y=>decide (x≤y)
theorem U0(zs:List Int):(Ro zs).length=zs.length:=by simp[Ro]
theorem J2(H:List AObj)(p:Nat)(zs:List Int)(hp:H[p]? =some (.arr 3 1 (zs.map (AV.int .i64))))(hl:zs.length≤1000000):
  FC Tryz.prog 171 [.sl p 1 0 zs.length] H (fun r H'=>r= .tup []∧H'=H.set p (.arr 3 1 ((Ro zs).map (AV.int .i64)))):=by
 refine(y1k (xs:=zs.map (AV.int .i64)) (rest:=[]) (Yh Tryz.func171 rfl rfl) (by simp) hp (q2n zs) [] (fun w I m vs a b=>by simpa using a) (fun z1=>z1=(Ro zs).map (AV.int .i64)) ?_ ?_).mono ?_
 ·intro b cap w hH hb hc;have:=Tryz.slices_Sort_int b 0 cap zs w (Xo hH) hb (by omega);refine Calls.mono (by simpa using this) ?_;rintro e w' ⟨rfl,n,os,rfl⟩;exact⟨rfl,_,((Ro zs).map (Value.int .i64)).toArray,n,os,rfl,by simp[U0],q2n _,by rw[Je];rfl⟩
 ·rintro h;have z6:zs=[]:=by simpa using h
  subst z6;exact⟨by simp[Ro],fun w=>by simpa using Tryz.slices_Sort_int_none none 0 w⟩
 ·rintro r H' ⟨rfl,z1,rfl,rfl⟩;exact⟨rfl,rfl⟩
theorem P8(H:List AObj)(p:Nat)(zs:List Int)(hp:H[p]? =some (.arr 3 1 (zs.map (AV.int .i64))))(hl:zs.length≤1000000)(z6:(Lib.compact zs).length≤zs.length):
  FC Tryz.prog 172 [.sl p 1 0 zs.length] H (fun r H'=>r= .sl p 1 0 (Lib.compact zs).length∧∃G:List Int,H'=H.set p (.arr 3 1 ((Lib.compact zs++G).map (AV.int .i64)))):=by
 refine(j1c (xs:=zs.map (AV.int .i64)) (Yh Tryz.func172 rfl rfl) (by simp) hp (q2n zs) (fun z1 n=>n=(Lib.compact zs).length∧∃G:List Int,z1=(Lib.compact zs++G).map (AV.int .i64)) (fun ys n h=>by rw[h.1];exact z6) ?_ ?_).mono ?_
 ·intro b cap w hH hb hc hm;have:=Tryz.slices_Compact_int b 0 cap zs w (Xo hH) (by omega) hc;refine Calls.mono (by simpa using this) ?_;rintro e w' ⟨rfl,q,rfl⟩;exact⟨_,((Lib.compact zs++zU (zs.length - (Lib.compact zs).length) 0).map (Value.int .i64)).toArray,q,_,rfl,⟨rfl,_,rfl⟩,by simp;omega,q2n _,by rw[←Je]⟩
 ·rintro h;have z7:zs=[]:=by simpa using h
  subst z7;exact⟨⟨rfl,[],rfl⟩,fun w=>by simpa using Tryz.slices_Compact_int_empty none 0 w⟩
 ·rintro r H' ⟨z1,n,rfl,⟨rfl,G,rfl⟩,rfl⟩;exact⟨rfl,G,rfl⟩
end Go.Abs
namespace Go.Abs
open Go Go.Proofs
attribute [simp] T47
def Vz:List Iv→List Int
 |[]=>[]
 |x::r=>x.lo::(x.hi+1)::Vz r
theorem q0t:∀(l:List Iv) (x:Iv),Vz (l++[x])=Vz l++[x.lo,x.hi+1]
 |[],x=>rfl
 |y::r,x=>by rw[vB,Vz,q0t r,Vz];rfl
theorem g07:∀(l:List Iv),(Vz l).length=2 * l.length
 |[]=>rfl
 |x::r=>by rw[Vz,yB,yB,g07 r,yB];omega
def v0k(l:List Iv):List Int:=Lib.compact (Ro (Vz l))
def y19(f:Int→Bool):List Int→List Iv→List Iv
 |c::d::r,acc=>y19 f (d::r) (if f c=true then W4 acc ⟨c,d - 1⟩else acc)
 |_,acc=>acc
def q0c(op:Bool→Bool→Bool)(a b:List Iv):List Iv:=y19 (fun n=>op (Og a n) (Og b n)) (v0k (a++b)) []
theorem Y6(zs:List Int):(Lib.compact zs).length≤zs.length:=by unfold Lib.compact Lib.compactUpTo;rw[List.length_map];exact yO (vE _ _) (by simp)
attribute [local irreducible] ckR Og y2a W4 Ro Lib.compact Vz
end Go.Abs
namespace Go.Abs
open Go Go.Proofs
attribute [local irreducible] ckR q0c
def k12(x y:Bool):Bool:=x && !y
def d1c(op:Bool→Bool→Bool)(a b:List Iv):AV:=if y01 a b=0 then x2g (q0c op a b)else .tup [.list [],.i (y01 a b)]
attribute [local irreducible] y01
attribute [local irreducible] d1c
end Go.Abs
namespace Go.Abs
theorem push_comm(acc:List Iv)(x y:Iv)(h:x.lo=y.lo)(hx:x.lo≤x.hi)(hy:y.lo≤y.hi):W4 (W4 acc x) y=W4 (W4 acc y) x:=by
 have one:∀(u v:Iv),u.lo=v.lo→u.lo≤u.hi→∀ini:List Iv,W4 (ini++[u]) v=ini++[⟨u.lo,if u.hi<v.hi then v.hi else u.hi⟩]:=fun u v z6 hu ini=>by rw[Ef,if_pos (by omega)]
 rcases xY acc with rfl|⟨ini,z,rfl⟩
 ·have e1:W4 [] x=[]++[x]:=rfl;have e2:W4 [] y=[]++[y]:=rfl;rw[e1,e2,one x y h hx,one y x h.symm hy,h]
  congr 3
  split<;>split<;>omega
 ·rw[xZ];by_cases hz:x.lo≤z.hi+1
  ·have z1:∀(w u:Iv),u.lo≤w.hi+1→W4 (ini++[w]) u=ini++[⟨w.lo,if w.hi<u.hi then u.hi else w.hi⟩]:=fun w u h=>by rw[Ef,if_pos h]
   rw[z1 z x hz,z1 z y (by omega),z1 _ y (by simp only;split<;>omega),z1 _ x (by simp only;split<;>omega)]
   congr 3
   simp only;repeat split
   all_goals omega
  ·have ap:∀u:Iv,u.lo=x.lo→W4 (ini++[z]) u=ini++[z]++[u]:=fun u h=>by rw[Ef,if_neg (by omega)]
   rw[ap x rfl,ap y h.symm,one x y h hx,one y x h.symm hy,h]
   congr 3
   split<;>split<;>omega
theorem S0:∀(A:List Iv) (acc:List Iv) (x:Iv) (B:List Iv),(∀y∈A,y.lo=x.lo∧y.lo≤y.hi)→x.lo≤x.hi→Qz acc (A++x::B)=Qz acc (x::(A++B))
 |[],acc,x,B,_,_=>rfl
 |y::A,acc,x,B,h,hx=>by have hy:=h y (by simp);have ih:=S0 A (W4 acc y) x B (fun z hz=>h z (by simp[hz])) hx;simp only[Qz,vB,yV]at ih ⊢;rw[ih,push_comm acc y x hy.1 hy.2 hx]
theorem Fs:∀(l l':List Iv) (acc:List Iv),l.Perm l'→Ng l→Ng l'→(∀y∈l,y.lo≤y.hi)→Qz acc l=Qz acc l'
 |[],l',acc,hp,_,_,_=>by rw[hp.nil_eq]
 |x::l,l',acc,hp,h1,h2,hf=>by
  obtain⟨A,B,rfl⟩:=List.append_of_mem (hp.mem_iff.1 (List.mem_cons_self));have z6:l.Perm (A++B):=(List.perm_cons x).1 (hp.trans vu);have hA:∀y∈A,y.lo=x.lo∧y.lo≤y.hi:=fun y hy=>by
   have z1:y∈x::l:=hp.mem_iff.2 (by simp[hy]);have a1:y.lo≤x.lo:=(zX.1 h2).2.2 y hy x (by simp);have a2:x.lo≤y.lo:=by
    rcases zT.1 z1 with rfl|h
    ·exact yI _
    ·exact(z_.1 h1).1 y h
   exact⟨by omega,hf y z1⟩
  rw[S0 A acc x B hA (hf x (by simp))];have hb:Ng (A++B):=h2.sublist (List.Sublist.append_left (List.sublist_cons_self x B) A);exact Fs l (A++B) (W4 acc x) z6 (z_.1 h1).2 hb (fun y hy=>hf y (by simp[hy]))
end Go.Abs
namespace Go.Abs
theorem v0w(s:List Iv)(x:Iv):(Zo s x).Perm (x::s):=by unfold Zo;refine vu.trans ?_;rw[xE]
theorem Fl(s:List Iv)(x:Iv):∀j,j≤s.length→(∀k,Tt s x j≤k→k<j→∀h:k<s.length,x.lo<s[k].lo)∧(∀k,k+1=Tt s x j→∀h:k<s.length,s[k].lo≤x.lo)
 |0,_=>⟨fun k _ h=>by omega,fun k h=>by simp[Tt]at h⟩
 |j+1,hj=>by
  obtain⟨a,b⟩:=Fl s x j (by omega);have hg:f1w s j x=decide (x.lo<s[j].lo):=by simp[f1w,show j<s.length by omega]
  rw[Tt,hg];by_cases h:decide (x.lo<s[j].lo)=true
  ·rw[if_pos h];refine⟨fun k h1 h2 h3=> ?_,b⟩;by_cases e:k=j
   ·subst e;simpa using h
   ·exact a k h1 (by omega) h3
  ·rw[if_neg h];refine⟨fun k h1 h2=>by omega,fun k h1 h2=> ?_⟩;have e:k=j:=by omega
   subst e;simp at h;omega
theorem x0s(s:List Iv)(x:Iv)(hs:Ng s):Ng (Zo s x):=by
 obtain⟨a,b⟩:=Fl s x s.length (zL _);have hq:=F1 s x s.length;unfold Zo;generalize Tt s x s.length=q at a b hq;have z6:∀i j,i<j→∀hi:i<s.length,∀hj:j<s.length,s[i].lo≤s[j].lo:=fun i j h hi hj=>yC.1 hs i j hi hj h;have z7:∀y∈s.take q,y.lo≤x.lo:=fun y hy=>by
  obtain⟨i,hi,rfl⟩:=yG hy;have za:i<q:=by rw[yP]at hi;omega
  rw[uZ];have h1:=b (q - 1) (by omega) (by omega);by_cases e:i=q - 1
  ·subst e;exact h1
  ·have:=z6 i (q - 1) (by omega) (by omega) (by omega);omega
 have z8:∀y∈s.drop q,x.lo≤y.lo:=fun y hy=>by obtain⟨i,hi,rfl⟩:=yG hy;rw[List.length_drop]at hi;rw[List.getElem_drop];have:=a (q+i) (by omega) (by omega) (by omega);omega
 have z1:=hs;unfold Ng at z1 ⊢;rw[←xE q s,zX]at z1;obtain⟨p1,p2,p3⟩:=z1;refine zX.2 ⟨p1,z_.2 ⟨z8,p2⟩,fun y hy z hz=> ?_⟩;rcases zT.1 hz with rfl|h
 ·exact z7 y hy
 ·exact p3 y hy z h
theorem Gf:∀(l acc:List Iv),Ng acc→(l.foldl Zo acc).Perm (acc++l)∧Ng (l.foldl Zo acc)
 |[],acc,h=>⟨by simp,h⟩
 |x::r,acc,h=>by obtain⟨a,b⟩:=Gf r (Zo acc x) (x0s acc x h);refine⟨a.trans ?_,b⟩;exact((v0w acc x).append_right r).trans vu.symm
theorem Ip(l:List Iv):(Eo l).Perm l∧Ng (Eo l):=by have:=Gf l [] .nil;simpa[Eo]using this
end Go.Abs
namespace Go.Abs
def M(l:List Iv)(n:Int):Prop:=∃x∈l,x.lo≤n∧n≤x.hi
def Sep(l:List Iv):Prop:=(∀x∈l,x.lo≤x.hi)∧l.Pairwise (fun x y=>x.hi+2≤y.lo)
theorem Ba(n:Int):M [] n↔False:=by simp[M]
theorem Ek(x:Iv)(l:List Iv)(n:Int):M (x::l) n↔(x.lo≤n∧n≤x.hi)∨M l n:=by simp[M]
theorem Lt(a b:List Iv)(n:Int):M (a++b) n↔M a n∨M b n:=by simp[M,or_and_right,exists_or]
theorem Bo(l:List Iv)(n:Int):Og l n=true↔M l n:=by simp[Og,M]
theorem Sep.tail{x:Iv}{l:List Iv}(h:Sep (x::l)):Sep l:=⟨fun y hy=>h.1 y (by simp[hy]),(z_.1 h.2).2⟩
theorem Sep.low{x:Iv}{l:List Iv}(h:Sep (x::l)){n:Int}(hm:M l n):x.hi+2≤n:=by obtain⟨y,hy,h1,h2⟩:=hm;have:=(z_.1 h.2).1 y hy;omega
theorem Sep.lowc{x:Iv}{l:List Iv}(h:Sep (x::l)){n:Int}(hm:M (x::l) n):x.lo≤n:=by
 rcases(Ek ..).1 hm with h1|h1
 ·exact h1.1
 ·have:=h.low h1;have:=h.1 x (by simp);omega
theorem f0m:∀(a b:List Iv),Sep a→Sep b→(∀n,M a n↔M b n)→a=b
 |[],[],_,_,_=>rfl
 |[],y::b,_,hb,h=>by have:=(h y.lo).2 ((Ek ..).2 (.inl ⟨yI _,hb.1 y (by simp)⟩));exact absurd this (by simp[M])
 |x::a,[],ha,_,h=>by have:=(h x.lo).1 ((Ek ..).2 (.inl ⟨yI _,ha.1 x (by simp)⟩));exact absurd this (by simp[M])
 |x::a,y::b,ha,hb,h=>by
  have hx:=ha.1 x (by simp);have hy:=hb.1 y (by simp);have e1:x.lo=y.lo:=by have h1:=hb.lowc ((h x.lo).1 ((Ek ..).2 (.inl ⟨yI _,hx⟩)));have h2:=ha.lowc ((h y.lo).2 ((Ek ..).2 (.inl ⟨yI _,hy⟩)));omega
  have e2:x.hi=y.hi:=by
   rcases tc x.hi y.hi with hlt|heq|hgt
   ·rcases(Ek ..).1 ((h (x.hi+1)).2 ((Ek ..).2 (.inl ⟨by omega,by omega⟩)))with h1|h1
    ·omega
    ·have:=ha.low h1;omega
   ·exact heq
   ·rcases(Ek ..).1 ((h (y.hi+1)).1 ((Ek ..).2 (.inl ⟨by omega,by omega⟩)))with h1|h1
    ·omega
    ·have:=hb.low h1;omega
  have e3:x=y:=by cases x;cases y;simp_all
  subst e3;rw[f0m a b ha.tail hb.tail fun n=>⟨fun hm=> ?_,fun hm=> ?_⟩]
  ·have h1:=ha.low hm;rcases(Ek ..).1 ((h n).1 ((Ek ..).2 (.inr hm)))with h2|h2
   ·omega
   ·exact h2
  ·have h1:=hb.low hm;rcases(Ek ..).1 ((h n).2 ((Ek ..).2 (.inr hm)))with h2|h2
   ·omega
   ·exact h2
theorem Af{l:List Iv}(h:CanonL l):Sep l:=
 ⟨fun x hx=>(X0 (h.one x hx)).2,yC.2 fun _ _ hi hj z1=>Iy h z1 hj hi⟩
theorem Li{l:List Iv}(h:CanonL l):∀x∈l,O3 x:=fun x hx=>(X0 (h.one x hx)).1
theorem u1u{l:List Iv}(h:CanonL l){n:Int}(hm:M l n): -1099511627776≤n∧n≤1099511627776:=by obtain⟨x,hx,h1,h2⟩:=hm;have h3:=Li h x hx;have h4:=(Eb _).1 h3.1;have h5:=(Eb _).1 h3.2;omega
theorem Xl{l:List Iv}(h:Sep l)(hi:∀x∈l,O3 x)(hl:l.length≤256):CanonL l:=
 ⟨hl,fun y hy=>by
  have h1:=hi y hy;have h2:=h.1 y hy;have h4:=h1.1;have h5:=h1.2;simp[Av,h4,h5];omega,fun j hj=>yC.1 h.2 j (j+1) (by omega) hj (by omega)⟩
theorem d0s(acc:List Iv)(x:Iv)(ha:Sep acc)(hx:x.lo≤x.hi)(hle:∀y∈acc,y.lo≤x.lo):
  Sep (W4 acc x)∧(∀n,M (W4 acc x) n↔M acc n∨(x.lo≤n∧n≤x.hi))∧(∀z,x.lo≤z→∀y∈W4 acc x,y.lo≤z):=by
 rcases xY acc with rfl|⟨ini,y,rfl⟩
 ·have e:W4 [] x=[x]:=rfl;rw[e];exact⟨⟨fun y hy=>by simp at hy;subst hy;exact hx,by simp⟩,fun n=>by simp[M],fun z hz y hy=>by simp at hy;subst hy;exact hz⟩
 ·rw[xZ]at ha hle ⊢;rw[Ef];have hy:=ha.1 y (by simp);have z1:=hle y (by simp);obtain⟨p1,p2,p3⟩:=zX.1 ha.2;split
  ·rename_i hj;refine⟨⟨fun z hz=> ?_,zX.2 ⟨p1,by simp,fun u hu v hv=> ?_⟩⟩,fun n=> ?_,fun z hz u hu=> ?_⟩
   ·rcases zO.1 hz with h|h
    ·exact ha.1 z (by simp[h])
    ·simp at h;subst h;simp only;split<;>omega
   ·simp at hv;subst hv;exact p3 u hu y (by simp)
   ·rw[Lt,Lt,Ek,Ek,Ba];simp only[or_false];by_cases hm:M ini n
    ·simp[hm]
    ·simp only[hm,false_or];split<;>omega
   ·rcases zO.1 hu with h|h
    ·have:=hle u (by simp[h]);omega
    ·simp at h;subst h;simp only;omega
  ·rename_i hj;refine⟨⟨fun z hz=> ?_,zX.2 ⟨ha.2,by simp,fun u hu v hv=> ?_⟩⟩,fun n=>by rw[Lt,Ek,Ba];simp,fun z hz u hu=> ?_⟩
   ·rcases zO.1 hz with h|h
    ·exact ha.1 z h
    ·simp at h;subst h;exact hx
   ·simp at hv;subst hv;rcases zO.1 hu with h|h
    ·have:=p3 u h y (by simp);omega
    ·simp at h;subst h;omega
   ·rcases zO.1 hu with h|h
    ·have:=hle u h;omega
    ·simp at h;subst h;exact hz
theorem A5:∀(l acc:List Iv),Sep acc→Ng l→(∀x∈l,x.lo≤x.hi)→(∀y∈acc,∀x∈l,y.lo≤x.lo)→
  Sep (Qz acc l)∧∀n,M (Qz acc l) n↔M acc n∨M l n
 |[],acc,ha,_,_,_=>⟨ha,fun n=>by simp[Qz,M]⟩
 |x::l,acc,ha,hb,hf,hle=>by have hp:=d0s acc x ha (hf x (by simp)) (fun y hy=>hle y hy x (by simp));have ih:=A5 l (W4 acc x) hp.1 (z_.1 hb).2 (fun y hy=>hf y (by simp[hy])) (fun y hy z hz=>hp.2.2 z.lo ((z_.1 hb).1 z hz) y hy);refine⟨ih.1,fun n=> ?_⟩;have e:Qz acc (x::l)=Qz (W4 acc x) l:=rfl;rw[e,ih.2 n,hp.2.1 n,Ek,or_assoc]
theorem K0:Sep []:=⟨by simp,by simp⟩
theorem c1e{a b:List Iv}(h:a.Perm b)(n:Int):M a n↔M b n:=by simp only[M];exact⟨fun⟨x,hx,h1⟩=>⟨x,h.mem_iff.1 hx,h1⟩,fun⟨x,hx,h1⟩=>⟨x,h.mem_iff.2 hx,h1⟩⟩
theorem Y5(l:List Iv)(hf:∀x∈l,x.lo≤x.hi):Sep (E6 l)∧∀n,M (E6 l) n↔M l n:=by have hs:=Ip l;have h:=A5 (Eo l) [] K0 hs.2 (fun x hx=>hf x (hs.1.mem_iff.1 hx)) (by simp);refine⟨h.1,fun n=> ?_⟩;rw[E6,h.2 n,Ba,false_or,c1e hs.1]
def pieces(f:Int→Bool):List Int→List Iv
 |c::d::r=>(if f c=true then [⟨c,d - 1⟩]else [])++pieces f (d::r)
 |_=>[]
end Go.Abs
namespace Go.Abs
open Go Go.Proofs
attribute [local irreducible] d1c y01 q0c
def w2x(x y:Bool):Bool:=x || y
def z2i(x y:Bool):Bool:=x && y
def w2d(a b:List Iv):Bool×Int:=if y01 a b=0 then(decide (q0c k12 a b=[]),0)else(false,y01 a b)
end Go.Abs
namespace Go.Abs
open Go Go.Proofs
def Rg:List Iv→Int→List Iv
 |[],n=>if n≤1099511627776 then [⟨n,1099511627776⟩]else []
 |x::r,n=>(if n<x.lo then [⟨n,x.lo - 1⟩]else [])++Rg r (x.hi+1)
def W9(l:List Iv):List Iv:=Rg l (-1099511627776)
end Go.Abs
namespace Go.Abs
open Go
theorem g0y:∀(l:List Iv) (z:Int),z∈Vz l↔∃x∈l,z=x.lo∨z=x.hi+1
 |[],z=>by simp[Vz]
 |y::r,z=>by rw[Vz,zT,zT,g0y r z];simp[or_assoc]
theorem X8(zs:List Int)(hs:zs.Pairwise (·≤·)):∀m,m≤zs.length→
  (Lib.compactUpTo zs.toArray m).Pairwise (·<·)∧(∀z,z∈Lib.compactUpTo zs.toArray m↔z∈zs.take m):=by
 intro m;induction m with
 |zero=>exact fun _=>⟨by simp[Lib.compactUpTo],by simp[Lib.compactUpTo]⟩
 |succ m ih=>
  intro hm;obtain⟨h1,h2⟩:=ih (by omega);have z1:m<zs.length:=by omega
  have hg:zs.toArray[m]! =zs[m]:=by simp[z1]
  rw[Lib.compactUpTo_succ];have ht:zs.take (m+1)=zs.take m++[zs[m]]:=by rw[zJ z1]
  by_cases hk:Lib.keeps zs.toArray m=true
  ·rw[if_pos hk,hg,ht];refine⟨zX.2 ⟨h1,by simp,fun u hu v hv=> ?_⟩,fun z=>by rw[zO,zO,h2]⟩;simp at hv;subst hv;obtain⟨i,hi,rfl⟩:=yG ((h2 u).1 hu);have za:i<m:=by simp at hi;omega
   rw[uZ];have zb:zs[m]≠zs[m - 1]:=by
    simp[Lib.keeps]at hk;have z6:m≠0:=by omega
    have hk:=hk.resolve_left z6;simpa[z1,show m - 1<zs.length by omega]using hk
   have a1:zs[i]≤zs[m - 1]:=by
    rcases Nat.lt_or_ge i (m - 1)with h|h
    ·exact yC.1 hs i (m - 1) (by omega) (by omega) h
    ·have:i=m - 1:=by omega
     subst this;exact yI _
   have a2:zs[m - 1]≤zs[m]:=yC.1 hs (m - 1) m (by omega) (by omega) (by omega);omega
  ·rw[if_neg hk,List.append_nil,ht];refine⟨h1,fun z=> ?_⟩;rw[h2,zO];refine⟨.inl,fun h=>h.elim id fun h=> ?_⟩;simp at h;subst h;simp only[Lib.keeps,decide_eq_true_eq,not_or]at hk;have z7:m - 1<zs.length:=by omega
   have z8:zs[m]=zs[m - 1]:=by simpa[z1,z7]using hk.2
   rw[z8];exact List.mem_take_iff_getElem.2 ⟨m - 1,by omega,rfl⟩
theorem v0r(l:List Iv):(v0k l).Pairwise (·<·)∧∀z,z∈v0k l↔∃x∈l,z=x.lo∨z=x.hi+1:=by
 have hs:(Ro (Vz l)).Pairwise (·≤·):=by have:=vT (le:=fun x y:Int=>decide (x≤y)) (fun a b c h1 h2=>by simp at h1 h2 ⊢;omega) (fun a b=>by simp;omega) (Vz l);simpa[Ro]using this
 have h:=X8 _ hs _ (zL _);refine⟨h.1,fun z=> ?_⟩;have h2:=h.2 z;rw[zZ]at h2;rw[v0k,Lib.compact,h2,Ro,uW,g0y]
theorem j0w(l:List Iv)(cs:List Int)(h:∀x∈l,x.lo∈cs∧x.hi+1∈cs)(c n:Int)(hc:c≤n)(hm:∀d∈cs,d≤n→d≤c):Og l n=Og l c:=by
 rw[xR,Bo,Bo];constructor
 ·rintro⟨x,hx,h1,h2⟩;have:=hm _ (h x hx).1 h1;exact⟨x,hx,this,by omega⟩
 ·rintro⟨x,hx,h1,h2⟩;refine⟨x,hx,by omega,?_⟩;by_cases hn:x.hi+1≤n
  ·have:=hm _ (h x hx).2 hn;omega
  ·omega
theorem g0c{l:List Iv}(h:Sep l)(hb:∀n,M l n→ -1099511627776≤n∧n≤1099511627776):∀x∈l,O3 x:=fun x hx=>
 ⟨(Eb _).2 (hb _ ⟨x,hx,yI _,h.1 x hx⟩),(Eb _).2 (hb _ ⟨x,hx,h.1 x hx,yI _⟩)⟩
theorem Ux:∀(l:List Iv) (s:Int),(∀x∈l,x.lo≤x.hi∧x.hi≤1099511627776)→l.Pairwise (fun x y=>x.hi+2≤y.lo)→(∀x∈l,s≤x.lo)→
  Sep (Rg l s)∧(∀n,M (Rg l s) n↔s≤n∧n≤1099511627776∧¬M l n)∧(Rg l s).length≤l.length+1
 |[],s,_,_,_=>by
  rw[Rg];split
  ·exact⟨⟨fun x hx=>by simp at hx;subst hx;assumption,by simp⟩,fun n=>by rw[Ek,Ba];simp[Ba],by simp⟩
  ·exact⟨K0,fun n=>by simp[Ba];omega,by simp⟩
 |x::l,s,hf,hp,hs=>by
  have hx:=hf x (by simp);have z7:=hs x (by simp);have z1:=(z_.1 hp).1;obtain⟨i1,i2,i3⟩:=Ux l (x.hi+1) (fun y hy=>hf y (by simp[hy])) (z_.1 hp).2 (fun y hy=>by have:=z1 y hy;omega);have z6:∀n,M l n→x.hi+2≤n:=by rintro n ⟨y,hy,h1,h2⟩;have:=z1 y hy;omega
  rw[Rg];split
  ·refine⟨⟨fun y hy=> ?_,?_⟩,fun n=> ?_,by simp;omega⟩
   ·rcases zO.1 hy with h|h
    ·simp at h;subst h;simp only;omega
    ·exact i1.1 y h
   ·refine zX.2 ⟨by simp,i1.2,fun u hu v hv=> ?_⟩;simp at hu;subst hu;have:=(i2 v.lo).1 ⟨v,hv,yI _,i1.1 v hv⟩;simp only;omega
   ·rw[Lt,i2,Ek,Ba,Ek];by_cases hm:M l n
    ·have:=z6 n hm;simp[hm];omega
    ·simp only[hm,not_false_eq_true,and_true,or_false];omega
  ·refine⟨⟨fun y hy=>i1.1 y (by simpa using hy),by simpa using i1.2⟩,fun n=> ?_,by simp;omega⟩;rw[List.nil_append,i2,Ek];by_cases hm:M l n
   ·simp[hm]
   ·simp only[hm,not_false_eq_true,and_true,or_false];omega
theorem Uo{l:List Iv}(h:CanonL l):Sep (W9 l)∧(∀n,M (W9 l) n↔(-1099511627776≤n∧n≤1099511627776)∧¬M l n)∧(W9 l).length≤l.length+1:=by have hs:=Af h;have hi:=Li h;have:=Ux l (-1099511627776) (fun x hx=>⟨hs.1 x hx,((Eb _).1 (hi x hx).2).2⟩) hs.2 (fun x hx=>((Eb _).1 (hi x hx).1).1);exact⟨this.1,fun n=>by rw[W9,this.2.1,and_assoc],this.2.2⟩
def Oc(x y:Iv):Option Iv:=if(if x.lo<y.lo then y.lo else x.lo)≤(if y.hi<x.hi then y.hi else x.hi)then some ⟨if x.lo<y.lo then y.lo else x.lo,if y.hi<x.hi then y.hi else x.hi⟩else none
def Ep(a b:List Iv):List Iv:=a.flatMap fun x=>b.filterMap (Oc x)
theorem Gk{x y z:Iv}(h:Oc x y=some z):z.lo≤z.hi∧∀n,(z.lo≤n∧n≤z.hi)↔(x.lo≤n∧n≤x.hi)∧(y.lo≤n∧n≤y.hi):=by
 unfold Oc at h;by_cases hle:(if x.lo<y.lo then y.lo else x.lo)≤(if y.hi<x.hi then y.hi else x.hi)
 ·rw[if_pos hle]at h;cases h;refine⟨hle,fun n=> ?_⟩;simp only;split<;>split<;>omega
 ·rw[if_neg hle]at h;cases h
theorem j1z{x y:Iv}{n:Int}(h1:x.lo≤n∧n≤x.hi)(h2:y.lo≤n∧n≤y.hi):∃z,Oc x y=some z∧z.lo≤n∧n≤z.hi:=by
 unfold Oc;have:(if x.lo<y.lo then y.lo else x.lo)≤(if y.hi<x.hi then y.hi else x.hi):=by split<;>split<;>omega
 rw[if_pos this];refine⟨_,rfl,?_,?_⟩<;>simp only<;>split<;>omega
theorem Sa(a b:List Iv):(∀x∈Ep a b,x.lo≤x.hi)∧∀n,M (Ep a b) n↔M a n∧M b n:=by
 constructor
 ·intro z hz;obtain⟨x,_,hz⟩:=xL.1 hz;obtain⟨y,_,h⟩:=wL.1 hz;exact(Gk h).1
 ·intro n;constructor
  ·rintro⟨z,hz,h1⟩;obtain⟨x,hx,hz⟩:=xL.1 hz;obtain⟨y,hy,h⟩:=wL.1 hz;have:=((Gk h).2 n).1 h1;exact⟨⟨x,hx,this.1⟩,⟨y,hy,this.2⟩⟩
  ·rintro⟨⟨x,hx,h1⟩,⟨y,hy,h2⟩⟩;obtain⟨z,hz,h3⟩:=j1z h1 h2;exact⟨z,xL.2 ⟨x,hx,wL.2 ⟨y,hy,hz⟩⟩,h3⟩
def Rm(a b:List Iv):List Iv:=E6 (Ep a b)
theorem I9(a b:List Iv):Sep (Rm a b)∧∀n,M (Rm a b) n↔M a n∧M b n:=by have h:=Y5 (Ep a b) (Sa a b).1;exact⟨h.1,fun n=>by rw[Rm,h.2,(Sa a b).2]⟩
end Go.Abs
namespace Go.Abs
open Go
def b2(b:Bool):Int:=if b=true then 1 else 0
def cnt(p:Int→Bool)(A:Int):Nat→Int
 |0=>0
 |n+1=>cnt p A n+b2 (p (A+n))
def inI(lo hi k:Int):Bool:=decide (lo≤k) && decide (k≤hi)
theorem V0(lo hi k:Int):inI lo hi k=true↔lo≤k∧k≤hi:=by simp[inI]
theorem c0u(x:Iv)(l:List Iv)(k:Int):Og (x::l) k=(inI x.lo x.hi k || Og l k):=by simp[Og,inI]
end Go.Abs
namespace Go.Abs
open Go
end Go.Abs
namespace Go.Abs
open Go
end Go.Abs
namespace Go.Abs
open Go
def v15(x y:Iv):Bool:=decide (y.lo<x.lo) && decide (x.lo≤y.hi)
def z0g(x y:Iv):Bool:=decide (x.lo≤y.lo) && decide (y.lo≤x.hi)
theorem f0f(x:Iv):∀(b:List Iv),(b.filterMap (Oc x)).length≤b.countP (v15 x)+b.countP (z0g x)
 |[]=>by simp
 |y::b=>by
  have ih:=f0f x b;rw[wS,wS];cases h:Oc x y with
  |none=>rw[List.filterMap_cons_none h];omega
  |some z=>
   rw[List.filterMap_cons_some h,yB];have hz:=Gk h;have hm:=(hz.2 z.lo).1 ⟨yI _,hz.1⟩;have:v15 x y=true∨z0g x y=true:=by simp[v15,z0g];omega
   rcases this with h'|h'<;>rw[if_pos h']<;>omega
theorem j07(x:Iv):∀(b:List Iv),Sep b→b.countP (v15 x)≤1
 |[],_=>by simp
 |y::b,hs=>by
  rw[wS];split
  ·rename_i h;simp[v15]at h;have:b.countP (v15 x)=0:=uQ.2 fun z hz=>by have:=(z_.1 hs.2).1 z hz;simp[v15];omega
   omega
  ·have:=j07 x b hs.tail;omega
theorem q0l(y:Iv):∀(a:List Iv),Sep a→a.countP (fun x=>z0g x y)≤1
 |[],_=>by simp
 |x::a,hs=>by
  rw[wS];split
  ·rename_i h;simp[z0g]at h;have:a.countP (fun x=>z0g x y)=0:=uQ.2 fun z hz=>by have:=(z_.1 hs.2).1 z hz;simp[z0g];omega
   omega
  ·have:=q0l y a hs.tail;omega
theorem Mm(a:List Iv)(ha:Sep a):∀(b:List Iv),(a.map fun x=>b.countP (z0g x)).sum≤b.length
 |[]=>by
  have:∀a:List Iv,(a.map fun x=>([]:List Iv).countP (z0g x)).sum=0:=fun a=>by
   induction a with
   |nil=>rfl
   |cons x a ih=>simpa using ih
  rw[this];simp
 |y::b=>by
  have ih:=Mm a ha b;have h1:=q0l y a ha;have:∀a:List Iv,(a.map fun x=>(y::b).countP (z0g x)).sum=(a.map fun x=>b.countP (z0g x)).sum+a.countP (fun x=>z0g x y):=fun a=>by
   induction a with
   |nil=>rfl
   |cons x a ih=>rw[yJ,uw,ih,yJ,uw,wS,wS];omega
  rw[this,yB];omega
theorem Vo(a b:List Iv)(ha:Sep a)(hb:Sep b):(Ep a b).length≤a.length+b.length:=by
 have h:∀a:List Iv,(Ep a b).length≤a.length+(a.map fun x=>b.countP (z0g x)).sum:=fun a=>by
  induction a with
  |nil=>simp[Ep]
  |cons x a ih=>have e:Ep (x::a) b=b.filterMap (Oc x)++Ep a b:=rfl;have h1:=f0f x b;have h2:=j07 x b hb;rw[e,List.length_append,yJ,uw,yB];omega
 have h1:=h a;have h2:=Mm a ha b;omega
theorem y1i{a b:List Iv}(h:(∀x∈a,O3 x)∨(∀y∈b,O3 y)):∀z∈Ep a b,O3 z:=by
 intro z hz;have hp:=Sa a b;have hf:=hp.1 z hz;have m1:=(hp.2 z.lo).1 ⟨z,hz,yI _,hf⟩;have m2:=(hp.2 z.hi).1 ⟨z,hz,hf,yI _⟩;have key:∀l:List Iv,(∀x∈l,O3 x)→∀n,M l n→inB n=true:=fun l hl n ⟨x,hx,h1,h2⟩=>by have h3:=(Eb _).1 (hl x hx).1;have h4:=(Eb _).1 (hl x hx).2;exact(Eb _).2 (by omega)
 rcases h with h|h
 ·exact⟨key a h _ m1.1,key a h _ m2.1⟩
 ·exact⟨key b h _ m1.2,key b h _ m2.2⟩
end Go.Abs
namespace Go.Abs
abbrev Prd:=List (List Iv)
def PM(p:Prd)(t:Nat)(n:Int):Prop:=∃s,p[t]? =some s∧M s n
def inR(n:Int):Prop:= -1099511627776≤n∧n≤1099511627776
def PWf(T:Nat)(p:Prd):Prop:=p.length=T∧∀s∈p,Sep s∧∀n,M s n→inR n
theorem PWf.lt{T:Nat}{p:Prd}(h:PWf T p){t:Nat}{n:Int}(hm:PM p t n):t<T∧inR n:=by obtain⟨s,hs,hn⟩:=hm;exact⟨by rw[←h.1];exact(zA.1 hs).1,(h.2 s (zF hs)).2 n hn⟩
theorem Ft{T:Nat}{p q:Prd}(hp:PWf T p)(hq:PWf T q)(h:∀t n,PM p t n↔PM q t n):p=q:=by apply List.ext_getElem (by rw[hp.1,hq.1]);intro i h1 h2;refine f0m _ _ (hp.2 _ (zG h1)).1 (hq.2 _ (zG h2)).1 fun n=> ?_;have:=h i n;unfold PM at this;rw[zD h1,zD h2]at this;simpa using this
def As(t:Nat)(n:Int)(t':Nat)(n':Int):Prop:=t<t'∨t=t'∧n<n'
theorem As.irr{t:Nat}{n:Int}(h:As t n t n):False:=by unfold As at h;omega
theorem As.trans{a b c:Nat}{x y z:Int}(h:As a x b y)(k:As b y c z):As a x c z:=by unfold As at *;omega
def f1b(l:List Prd)(t:Nat)(n:Int)(t':Nat)(n':Int):Prop:=∀p∈l,PM p t n↔PM p t' n'
structure Prts (T:Nat) (l L:List Prd):Prop where
 wf:∀p∈L,PWf T p
 ne:∀p∈L,∃t n,PM p t n
 all:∀t n,t<T→inR n→∃p∈L,PM p t n
 cls:∀p∈L,∀t n,PM p t n→∀t' n',PM p t' n'↔t'<T∧inR n'∧f1b l t n t' n'
def z01(p q:Prd):Prop:=∃t n,PM p t n∧∀t' n',PM q t' n'→As t n t' n'
theorem z01.irr{p:Prd}(h:z01 p p):False:=by obtain⟨t,n,h1,h2⟩:=h;exact(h2 t n h1).irr
theorem z01.asymm{p q:Prd}(h:z01 p q)(k:z01 q p):False:=by obtain⟨t,n,h1,h2⟩:=h;obtain⟨t',n',k1,k2⟩:=k;exact((h2 t' n' k1).trans (k2 t n h1)).irr
theorem Prts.same{T:Nat}{l L L':List Prd}(h:Prts T l L)(h':Prts T l L'){p:Prd}(hp:p∈L):p∈L':=by
 obtain⟨t,n,hm⟩:=h.ne p hp;obtain⟨ht,hn⟩:=(h.wf p hp).lt hm;obtain⟨q,hq,z1⟩:=h'.all t n ht hn;have:p=q:=Ft (h.wf p hp) (h'.wf q hq) fun t' n'=>by rw[h.cls p hp t n hm,h'.cls q hq t n z1]
 rw[this];exact hq
theorem Prts.unique{T:Nat}{l L L':List Prd}(h:Prts T l L)(h':Prts T l L')(s:L.Pairwise z01)(s':L'.Pairwise z01):L=L':=by have z1:∀ {X:List Prd},X.Pairwise z01→X.Nodup:=fun hx=>hx.imp (fun h e=>by subst e;exact h.irr);refine List.Perm.eq_of_pairwise (le:=z01) (fun a b _ _ h1 h2=>(h1.asymm h2).elim) s s' ?_;exact(up (z1 s) (z1 s')).2 fun p=>⟨h.same h',h'.same h⟩
theorem Prts.disj{T:Nat}{l L:List Prd}(h:Prts T l L){p q:Prd}(hp:p∈L)(hq:q∈L){t:Nat}{n:Int}(h1:PM p t n)(h2:PM q t n):p=q:=
 Ft (h.wf p hp) (h.wf q hq) fun t' n'=>by rw[h.cls p hp t n h1,h.cls q hq t n h2]
theorem Prts.perm{T:Nat}{l L L':List Prd}(h:Prts T l L)(e:L.Perm L'):Prts T l L':=
 ⟨fun p hp=>h.wf p (e.mem_iff.2 hp),fun p hp=>h.ne p (e.mem_iff.2 hp),fun t n a b=>by obtain⟨p,hp,hm⟩:=h.all t n a b;exact⟨p,e.mem_iff.1 hp,hm⟩,fun p hp=>h.cls p (e.mem_iff.2 hp)⟩
def Wf(T:Nat):Prd:=zU T (W9 [])
def We(c p:Prd):Prd:=tC Rm c p
def W2(p:Prd):Prd:=p.map W9
def Wk(p:Prd):Bool:=p.all (·.isEmpty)
def Em(p:Prd)(L:List Prd):List Prd:=L.flatMap fun c=>(if Wk (We c p)then []else [We c p])++(if Wk (We c (W2 p))then []else [We c (W2 p)])
def Eh(T:Nat)(l:List Prd):List Prd:=l.foldl (fun L p=>Em p L) [Wf T]
def PCk(T:Nat)(p:Prd):Prop:=p.length=T∧∀s∈p,CanonL s
theorem PCk.wf{T:Nat}{p:Prd}(h:PCk T p):PWf T p:=⟨h.1,fun s hs=>⟨Af (h.2 s hs),fun n hn=>u1u (h.2 s hs) hn⟩⟩
theorem Ac:CanonL []:=⟨by simp,by simp,fun j h=>by simp at h⟩
theorem Ds(T t:Nat)(n:Int):PM (Wf T) t n↔t<T∧inR n:=by
 unfold PM Wf;have hg:=(Uo Ac).2.1 n;constructor
 ·rintro⟨s,hs,hm⟩;rw[vv]at hs;split at hs
  ·cases hs;exact⟨by assumption,(hg.1 hm).1⟩
  ·cases hs
 ·rintro⟨h1,h2⟩;exact⟨W9 [],by rw[vv,if_pos h1],hg.2 ⟨h2,by simp[M]⟩⟩
theorem Ko(T:Nat):PWf T (Wf T):=⟨by simp[Wf],fun s hs=>by
 obtain rfl:=wA hs;exact⟨(Uo Ac).1,fun n hn=>(((Uo Ac).2.1 n).1 hn).1⟩⟩
theorem Re{T:Nat}{c p:Prd}(hc:c.length=T)(hp:p.length=T)(t:Nat)(n:Int):PM (We c p) t n↔PM c t n∧PM p t n:=by
 unfold PM We;constructor
 ·rintro⟨s,hs,hm⟩;rw[wM]at hs;cases h1:c[t]? with
  |none=>rw[h1]at hs;simp at hs
  |some a=>
   cases h2:p[t]? with
   |none=>rw[h1,h2]at hs;simp at hs
   |some b=>rw[h1,h2]at hs;simp at hs;subst hs;have:=((I9 a b).2 n).1 hm;exact⟨⟨a,rfl,this.1⟩,⟨b,rfl,this.2⟩⟩
 ·rintro⟨⟨a,h1,m1⟩,⟨b,h2,m2⟩⟩;exact⟨Rm a b,by rw[wM,h1,h2],((I9 a b).2 n).2 ⟨m1,m2⟩⟩
theorem Yk{T:Nat}{c p:Prd}(hc:PWf T c)(hp:p.length=T):PWf T (We c p):=by
 refine⟨by simp[We,hc.1,hp],fun s hs=> ?_⟩;obtain⟨i,hi⟩:=yE.1 hs;unfold We at hi;rw[wM]at hi;cases h1:c[i]? with
 |none=>rw[h1]at hi;simp at hi
 |some a=>
  cases h2:p[i]? with
  |none=>rw[h1,h2]at hi;simp at hi
  |some b=>rw[h1,h2]at hi;simp at hi;subst hi;exact⟨(I9 a b).1,fun n hn=>(hc.2 a (zF h1)).2 n (((I9 a b).2 n).1 hn).1⟩
theorem Ze{T:Nat}{p:Prd}(hp:PCk T p)(t:Nat)(n:Int):PM (W2 p) t n↔(t<T∧inR n)∧¬PM p t n:=by
 unfold PM W2;rw[zQ];constructor
 ·rintro⟨s,hs,hm⟩;obtain⟨a,ha,rfl⟩:=zN.1 hs;have hg:=((Uo (hp.2 a (zF ha))).2.1 n).1 hm;refine⟨⟨by rw[←hp.1];exact(zA.1 ha).1,hg.1⟩,?_⟩;rintro⟨b,hb,z1⟩;rw[ha]at hb;cases hb;exact hg.2 z1
 ·rintro⟨⟨h1,h2⟩,h3⟩;have hl:t<p.length:=by rw[hp.1];exact h1
  refine⟨W9 p[t],by rw[zD hl];rfl,((Uo (hp.2 _ (zG hl))).2.1 n).2 ⟨h2,fun hm=>h3 ⟨_,zD hl,hm⟩⟩⟩
theorem E3{T:Nat}{p:Prd}(h:PWf T p):Wk p=true↔∀t n,¬PM p t n:=by
 unfold Wk;rw[zP];constructor
 ·rintro hv t n ⟨s,hs,hm⟩;have:=hv s (zF hs);rw[List.isEmpty_iff]at this;subst this;simp[M]at hm
 ·intro hv s hs;obtain⟨i,hi⟩:=yE.1 hs;cases s with
  |nil=>rfl
  |cons x s=>exact absurd ⟨_,hi,(Ek ..).2 (.inl ⟨yI _,(h.2 _ hs).1.1 x (by simp)⟩)⟩ (hv i x.lo)
theorem Jj{T:Nat}{l L:List Prd}{p:Prd}(h:Prts T l L)(hp:PCk T p):Prts T (l++[p]) (Em p L):=by
 have z6:(W2 p).length=T:=by simp[W2,hp.1]
 have z1:∀q,q∈Em p L↔∃c∈L,((q=We c p)∨(q=We c (W2 p)))∧Wk q=false:=by
  intro q;unfold Em;rw[xL];constructor
  ·rintro⟨c,hc,hq⟩;refine⟨c,hc,?_⟩;rcases zO.1 hq with hq|hq
   ·split at hq
    ·cases hq
    ·rename_i hv;obtain rfl:=zI.1 hq;exact⟨.inl rfl,by simpa using hv⟩
   ·split at hq
    ·cases hq
    ·rename_i hv;obtain rfl:=zI.1 hq;exact⟨.inr rfl,by simpa using hv⟩
  ·rintro⟨c,hc,hq,hv⟩;refine⟨c,hc,zO.2 ?_⟩;rcases hq with rfl|rfl
   ·left;rw[if_neg (by rw[hv];decide)];simp
   ·right;rw[if_neg (by rw[hv];decide)];simp
 have z7:∀q∈Em p L,PWf T q:=fun q hq=>by
  obtain⟨c,hc,rfl|rfl,_⟩:=(z1 q).1 hq
  ·exact Yk (h.wf c hc) hp.1
  ·exact Yk (h.wf c hc) z6
 have zb:∀q∈Em p L,∃t n,PM q t n:=fun q hq=>by
  obtain⟨c,hc,_,hv⟩:=(z1 q).1 hq;by_cases hx:∃t n,PM q t n
  ·exact hx
  ·exfalso;have:Wk q=true:=(E3 (z7 q hq)).2 fun t n hm=>hx ⟨t,n,hm⟩;rw[this]at hv;cases hv
 refine⟨z7,zb,fun t n ht hn=> ?_,fun q hq t n hm t' n'=> ?_⟩
 ·obtain⟨c,hc,z8⟩:=h.all t n ht hn;have hv:∀q,(q=We c p∨q=We c (W2 p))→PM q t n→q∈Em p L:=fun q hq hm=>(z1 q).2 ⟨c,hc,hq,by
   have hw:PWf T q:=by
    rcases hq with rfl|rfl
    ·exact Yk (h.wf c hc) hp.1
    ·exact Yk (h.wf c hc) z6
   cases hvq:Wk q with
   |false=>rfl
   |true=>exact absurd hm ((E3 hw).1 hvq t n)⟩
  by_cases za:PM p t n
  ·have:=(Re (h.wf c hc).1 hp.1 t n).2 ⟨z8,za⟩;exact⟨_,hv _ (.inl rfl) this,this⟩
  ·have:=(Re (h.wf c hc).1 z6 t n).2 ⟨z8,(Ze hp t n).2 ⟨⟨ht,hn⟩,za⟩⟩;exact⟨_,hv _ (.inr rfl) this,this⟩
 ·obtain⟨c,hc,zc,_⟩:=(z1 q).1 hq;have zd:f1b (l++[p]) t n t' n'↔f1b l t n t' n'∧(PM p t n↔PM p t' n'):=by
   constructor
   ·exact fun hs=>⟨fun r hr=>hs r (by simp[hr]),hs p (by simp)⟩
   ·rintro⟨h1,h2⟩ r hr;rcases zO.1 hr with hr|hr
    ·exact h1 r hr
    ·obtain rfl:=zI.1 hr;exact h2
  rw[zd];rcases zc with rfl|rfl
  ·obtain⟨m1,m2⟩:=(Re (h.wf c hc).1 hp.1 t n).1 hm;rw[Re (h.wf c hc).1 hp.1,h.cls c hc t n m1];constructor
   ·rintro⟨⟨h1,h2,h3⟩,h4⟩;exact⟨h1,h2,h3,fun _=>h4,fun _=>m2⟩
   ·rintro⟨h1,h2,h3,h4⟩;exact⟨⟨h1,h2,h3⟩,h4.1 m2⟩
  ·obtain⟨m1,m2⟩:=(Re (h.wf c hc).1 z6 t n).1 hm;have m3:=((Ze hp t n).1 m2).2;rw[Re (h.wf c hc).1 z6,h.cls c hc t n m1,Ze hp];constructor
   ·rintro⟨⟨h1,h2,h3⟩,h4⟩;exact⟨h1,h2,h3,fun h=>absurd h m3,fun h=>absurd h h4.2⟩
   ·rintro⟨h1,h2,h3,h4⟩;exact⟨⟨h1,h2,h3⟩,⟨h1,h2⟩,fun h=>m3 (h4.2 h)⟩
theorem J6(T:Nat)(hT:0<T):Prts T [] [Wf T]:=by
 refine⟨fun p hp=> ?_,fun p hp=> ?_,fun t n ht hn=> ?_,fun p hp t n hm t' n'=> ?_⟩
 ·obtain rfl:=zI.1 hp;exact Ko T
 ·obtain rfl:=zI.1 hp;exact⟨0,0,(Ds T 0 0).2 ⟨hT,by unfold inR;omega⟩⟩
 ·exact⟨_,List.mem_singleton_self _,(Ds T t n).2 ⟨ht,hn⟩⟩
 ·obtain rfl:=zI.1 hp;rw[Ds];exact⟨fun h=>⟨h.1,h.2,fun r hr=>by cases hr⟩,fun h=>⟨h.1,h.2.1⟩⟩
theorem Rl{T:Nat}(hT:0<T){l:List Prd}(hl:∀p∈l,PCk T p):Prts T l (Eh T l):=by
 have key:∀(r d L:List Prd),Prts T d L→(∀p∈r,PCk T p)→Prts T (d++r) (r.foldl (fun L p=>Em p L) L):=by
  intro r;induction r with
  |nil=>intro d L h _;simpa using h
  |cons p r ih=>intro d L h hr;rw[yV];have:=ih (d++[p]) (Em p L) (Jj h (hr p (by simp))) (fun q hq=>hr q (by simp[hq]));simpa using this
 have:=key l [] [Wf T] (J6 T hT) hl;simpa[Eh]using this
end Go.Abs
namespace Go.Abs
def Qv:Prd→Nat→Nat×Int
 |[],_=>(0,0)
 |(x::_)::_,i=>(i,x.lo)
 |[]::p,i=>Qv p (i+1)
def y0w(a b:Nat×Int):Bool:=decide (a.1<b.1) || (decide (a.1=b.1) && decide (a.2<b.2))
theorem Vy(a b:Nat×Int):y0w a b=true↔As a.1 a.2 b.1 b.2:=by simp[y0w,As]
theorem Cw:∀(p:Prd) (i:Nat),(∀s∈p,Sep s)→(∃s∈p,s≠[])→∃t x r,p[t]? =some (x::r)∧Qv p i=(i+t,x.lo)∧∀j,j<t→p[j]? =some []
 |[],_,_,⟨s,hs,_⟩=>by cases hs
 |(x::r)::p,i,_,_=>⟨0,x,r,rfl,rfl,fun j hj=>by omega⟩
 |[]::p,i,h,⟨s,hs,hn⟩=>by
  have z1:s∈p:=by
   rcases zT.1 hs with rfl|hs
   ·exact absurd rfl hn
   ·exact hs
  obtain⟨t,x,r,h1,h2,h3⟩:=Cw p (i+1) (fun s hs=>h s (by simp[hs])) ⟨s,z1,hn⟩;refine⟨t+1,x,r,by simpa using h1,by rw[Qv,h2];congr 1;omega,fun j hj=> ?_⟩;cases j with
  |zero=>rfl
  |succ j=>simpa using h3 j (by omega)
theorem Wy{T:Nat}{p:Prd}(h:PWf T p)(hn:∃t n,PM p t n):PM p (Qv p 0).1 (Qv p 0).2∧∀t n,PM p t n→((Qv p 0).1=t∧(Qv p 0).2=n)∨As (Qv p 0).1 (Qv p 0).2 t n:=by
 obtain⟨t0,n0,s0,z1,m0⟩:=hn;have z6:s0≠[]:=fun e=>by subst e;simp[M]at m0
 obtain⟨t,x,r,h1,h2,h3⟩:=Cw p 0 (fun s hs=>(h.2 s hs).1) ⟨s0,zF z1,z6⟩;rw[Nat.zero_add]at h2;rw[h2];have hx:=(h.2 _ (zF h1)).1;refine⟨⟨_,h1,(Ek ..).2 (.inl ⟨yI _,hx.1 x (by simp)⟩)⟩,fun t' n' hm=> ?_⟩;obtain⟨s,hs,hm⟩:=hm;simp only;rcases vZ t' t with hlt|rfl|hgt
 ·rw[h3 t' hlt]at hs;cases hs;simp[M]at hm
 ·rw[h1]at hs;cases hs;have:=hx.lowc hm;unfold As;omega
 ·exact .inr (.inl hgt)
theorem Ll{T:Nat}{p q:Prd}(hp:PWf T p)(z1:∃t n,PM p t n)(hq:PWf T q)(z6:∃t n,PM q t n)(h:As (Qv p 0).1 (Qv p 0).2 (Qv q 0).1 (Qv q 0).2):z01 p q:=
 ⟨_,_,(Wy hp z1).1,fun t n hm=>by
  rcases(Wy hq z6).2 t n hm with⟨e1,e2⟩|h2
  ·rw[←e1,←e2];exact h
  ·exact h.trans h2⟩
def Zt(s:List Prd)(x:Prd):Nat→Nat
 |0=>0
 |j+1=>match s[j]? with
  |some y=>if y0w (Qv x 0) (Qv y 0)=true then Zt s x j else j+1
  |none=>j+1
def K5(s:List Prd)(x:Prd):List Prd:=s.take (Zt s x s.length)++x::s.drop (Zt s x s.length)
def K4(L:List Prd):List Prd:=L.foldl K5 []
theorem Vc(s:List Prd)(x:Prd):∀j,j≤s.length→Zt s x j≤j∧(∀i,Zt s x j≤i→i<j→∀h:i<s.length,y0w (Qv x 0) (Qv s[i] 0)=true)∧(∀i,i+1=Zt s x j→∀h:i<s.length,y0w (Qv x 0) (Qv s[i] 0)=false)
 |0,_=>⟨zL _,fun i _ h=>by omega,fun i h=>by simp[Zt]at h⟩
 |j+1,hj=>by
  have z1:j<s.length:=by omega
  rw[Zt,zD z1];simp only;by_cases hb:y0w (Qv x 0) (Qv s[j] 0)=true
  ·rw[if_pos hb];obtain⟨h1,h2,h3⟩:=Vc s x j (by omega);refine⟨by omega,fun i hi z6 hl=> ?_,h3⟩;by_cases hij:i=j
   ·subst hij;exact hb
   ·exact h2 i hi (by omega) hl
  ·rw[if_neg hb];refine⟨zL _,fun i hi z6=>by omega,fun i hi hl=> ?_⟩;have:i=j:=by omega
   subst this;simpa using hb
theorem Ao(s:List Prd)(x:Prd):(K5 s x).Perm (x::s):=by unfold K5;refine vu.trans ?_;rw[xE]
def Lz(p q:Prd):Prop:=As (Qv p 0).1 (Qv p 0).2 (Qv q 0).1 (Qv q 0).2
theorem B3{s:List Prd}{x:Prd}(hs:s.Pairwise Lz)(hd:∀y∈s,Qv y 0≠Qv x 0):(K5 s x).Pairwise Lz:=by
 obtain⟨h1,h2,h3⟩:=Vc s x s.length (zL _);unfold K5;generalize Zt s x s.length=k at *
 have z1:=hs;rw[←xE k s]at z1;obtain⟨p1,p2,p3⟩:=zX.1 z1;have z7:∀y∈s.drop k,Lz x y:=fun y hy=>by obtain⟨i,hi⟩:=yE.1 hy;rw[List.getElem?_drop]at hi;obtain⟨hl,e⟩:=zA.1 hi;have:=h2 (k+i) (by omega) hl hl;rw[e]at this;exact(Vy _ _).1 this
 have z8:∀i,i+1=k→∀h:i<s.length,Lz s[i] x:=fun i hi hl=>by
  have h4:=h3 i hi hl;have zc:=hd s[i] (zG hl);unfold Lz;rcases vZ (Qv s[i] 0).1 (Qv x 0).1 with a|a|a
  ·exact .inl a
  ·rcases tc (Qv s[i] 0).2 (Qv x 0).2 with b|b|b
   ·exact .inr ⟨a,b⟩
   ·exact absurd (Prod.ext a b) zc
   ·have:y0w (Qv x 0) (Qv s[i] 0)=true:=(Vy _ _).2 (.inr ⟨a.symm,b⟩);rw[this]at h4;cases h4
  ·have:y0w (Qv x 0) (Qv s[i] 0)=true:=(Vy _ _).2 (.inl a);rw[this]at h4;cases h4
 have z6:∀y∈s.take k,Lz y x:=fun y hy=>by
  obtain⟨i,hi⟩:=yE.1 hy;rw[List.getElem?_take]at hi;split at hi
  ·rename_i zd;obtain⟨hl,e⟩:=zA.1 hi;obtain⟨k',rfl⟩:∃k',k=k'+1:=⟨k - 1,by omega⟩
   have za:k'<s.length:=by omega
   have zb:=z8 k' rfl za;by_cases hij:i=k'
   ·subst hij;rw[←e];exact zb
   ·have:=yC.1 hs i k' hl za (by omega);rw[e]at this;exact As.trans this zb
  ·cases hi
 refine zX.2 ⟨p1,z_.2 ⟨z7,p2⟩,fun y hy z hz=> ?_⟩;rcases zT.1 hz with rfl|hz
 ·exact z6 y hy
 ·exact p3 y hy z hz
theorem Jk(L:List Prd)(hd:L.Pairwise (fun p q=>Qv p 0≠Qv q 0)):(K4 L).Perm L∧(K4 L).Pairwise Lz:=by
 have key:∀(r s:List Prd),s.Pairwise Lz→(s++r).Pairwise (fun p q=>Qv p 0≠Qv q 0)→(r.foldl K5 s).Perm (s++r)∧(r.foldl K5 s).Pairwise Lz:=by
  intro r;induction r with
  |nil=>intro s h _;simpa using h
  |cons x r ih=>intro s h hd;obtain⟨d1,d2,d3⟩:=zX.1 hd;have hi:=B3 h (fun y hy=>d3 y hy x (by simp));have hp:=Ao s x;have z1:(K5 s x++r).Perm (s++x::r):=(hp.append_right r).trans (vu (l₁:=s) (a:=x) (l₂:=r)).symm;have z6:(K5 s x++r).Pairwise (fun p q=>Qv p 0≠Qv q 0):=(z1.pairwise_iff (fun h=>Ne.symm h)).2 hd;obtain⟨i1,i2⟩:=ih (K5 s x) hi z6;rw[yV];exact⟨i1.trans z1,i2⟩
 have h:=key L [] List.Pairwise.nil (by simpa using hd);unfold K4;simpa using h
def Qx(T:Nat)(l:List Prd):List Prd:=K4 (Eh T l)
theorem C6{T:Nat}{l L:List Prd}{p:Prd}(h:Prts T l L)(hp:PCk T p)(hd:L.Pairwise (fun a b=>∀t n,PM a t n→¬PM b t n)):(Em p L).Pairwise (fun a b=>∀t n,PM a t n→¬PM b t n):=by
 have z7:(W2 p).length=T:=by simp[W2,hp.1]
 have z8:∀c∈L,∀q∈(if Wk (We c p)then []else [We c p])++(if Wk (We c (W2 p))then []else [We c (W2 p)]),∀t n,PM q t n→PM c t n:=by
  intro c hc q hq t n hm;rcases zO.1 hq with hq|hq
  ·split at hq
   ·cases hq
   ·obtain rfl:=zI.1 hq;exact((Re (h.wf c hc).1 hp.1 t n).1 hm).1
  ·split at hq
   ·cases hq
   ·obtain rfl:=zI.1 hq;exact((Re (h.wf c hc).1 z7 t n).1 hm).1
 unfold Em;rw[vU];refine⟨fun c hc=> ?_,?_⟩
 ·refine zX.2 ⟨by split<;>simp,by split<;>simp,fun a ha b hb t n z1 z6=> ?_⟩;split at ha
  ·cases ha
  ·split at hb
   ·cases hb
   ·obtain rfl:=zI.1 ha;obtain rfl:=zI.1 hb;exact((Ze hp t n).1 ((Re (h.wf c hc).1 z7 t n).1 z6).2).2 ((Re (h.wf c hc).1 hp.1 t n).1 z1).2
 ·exact hd.imp_of_mem (fun {a b} ha hb hab x hx y hy t n z1 z6=>hab t n (z8 a ha x hx t n z1) (z8 b hb y hy t n z6))
theorem Sz{T:Nat}(hT:0<T){l:List Prd}(hl:∀p∈l,PCk T p):(Eh T l).Pairwise (fun a b=>∀t n,PM a t n→¬PM b t n):=by
 have key:∀(r d L:List Prd),Prts T d L→(∀p∈r,PCk T p)→L.Pairwise (fun a b=>∀t n,PM a t n→¬PM b t n)→(r.foldl (fun L p=>Em p L) L).Pairwise (fun a b=>∀t n,PM a t n→¬PM b t n):=by
  intro r;induction r with
  |nil=>intro d L _ _ h;simpa using h
  |cons p r ih=>intro d L h hr hd;rw[yV];exact ih (d++[p]) (Em p L) (Jj h (hr p (by simp))) (fun q hq=>hr q (by simp[hq])) (C6 h (hr p (by simp)) hd)
 exact key l [] [Wf T] (J6 T hT) hl (by simp)
theorem Y9{T:Nat}(hT:0<T){l:List Prd}(hl:∀p∈l,PCk T p):Prts T l (Qx T l)∧(Qx T l).Pairwise z01:=by
 have h:=Rl hT hl;have hd:(Eh T l).Pairwise (fun p q=>Qv p 0≠Qv q 0):=(Sz hT hl).imp_of_mem (fun {a b} ha hb hab e=>by
  have h1:=(Wy (h.wf a ha) (h.ne a ha)).1;have h2:=(Wy (h.wf b hb) (h.ne b hb)).1;rw[←e]at h2;exact hab _ _ h1 h2)
 obtain⟨h1,h2⟩:=Jk _ hd;have h3:Prts T l (Qx T l):=h.perm h1.symm;refine⟨h3,?_⟩;exact h2.imp_of_mem (fun {a b} ha hb hab=>Ll (h3.wf a ha) (h3.ne a ha) (h3.wf b hb) (h3.ne b hb) hab)
end Go.Abs
namespace Go.Abs
def Q8(l:List Prd)(i:Nat):List Iv:=l.flatMap fun p=>p.getD i []
def Q9(l:List Prd)(i:Nat):List Int:=v0k (⟨-1099511627776,1099511627776⟩::Q8 l i)
def Tk:List Int→List Iv
 |a::b::r=>⟨a,b - 1⟩::Tk (b::r)
 |_=>[]
def Un(l:List Prd)(i:Nat)(n:Int):List Bool:=l.map fun p=>Og (p.getD i []) n
def Ub(p:Prd)(i:Nat)(x:Iv):Prd:=p.set i (p.getD i []++[x])
def Ty(T i:Nat)(sg:List Bool)(x:Iv):List (List Bool×Prd)→List (List Bool×Prd)
 |[]=>[(sg,Ub (zU T []) i x)]
 |(s,p)::r=>if s=sg then(s,Ub p i x)::r else(s,p)::Ty T i sg x r
def Kc(T:Nat)(l:List Prd):List (Nat×Iv):=(yD T).flatMap fun i=>(Tk (Q9 l i)).map fun x=>(i,x)
def Ie(T:Nat)(l:List Prd):List (List Bool×Prd):=(Kc T l).foldl (fun st a=>Ty T a.1 (Un l a.1 a.2.lo) a.2 st) []
def E7(p:Prd):Prd:=p.map (Qz [])
def W7(T:Nat)(l:List Prd):List Prd:=(Ie T l).map fun g=>E7 g.2
def k1v(a:Nat×Iv)(t:Nat)(n:Int):Prop:=t=a.1∧a.2.lo≤n∧n≤a.2.hi
structure GInv (T:Nat) (sig:Nat→Int→List Bool) (D:Nat→Int→Prop) (st:List (List Bool×Prd)):Prop where
 len:∀g∈st,g.2.length=T
 asc:∀g∈st,∀s∈g.2,(∀x∈s,x.lo≤x.hi)∧s.Pairwise (fun x y=>x.hi<y.lo)
 mem:∀g∈st,∀t n,PM g.2 t n↔D t n∧sig t n=g.1
 ne:∀g∈st,∃t n,PM g.2 t n
 nd:st.Pairwise (fun g h=>g.1≠h.1)
 all:∀t n,D t n→∃g∈st,g.1=sig t n
 ord:st.Pairwise (fun g h=>∃t n,PM g.2 t n∧∀t' n',PM h.2 t' n'→As t n t' n')
theorem Wx{p:Prd}{i:Nat}(h:i<p.length):p.getD i []=p[i]:=by simp[yT,h]
theorem x1i{T:Nat}{p:Prd}(hp:p.length=T){i:Nat}(hi:i<T)(x:Iv)(t:Nat)(n:Int):PM (Ub p i x) t n↔PM p t n∨k1v (i,x) t n:=by
 unfold PM Ub k1v;have z1:i<p.length:=by omega
 rw[Wx z1];by_cases ht:t=i
 ·subst ht;rw[zH z1,zD z1];constructor
  ·rintro⟨s,hs,hm⟩;cases hs;rcases(Lt ..).1 hm with h|h
   ·exact .inl ⟨_,rfl,h⟩
   ·rcases(Ek ..).1 h with h|h
    ·exact .inr ⟨rfl,h⟩
    ·simp[M]at h
  ·rintro(⟨s,hs,hm⟩|⟨_,h⟩)
   ·cases hs;exact⟨_,rfl,(Lt ..).2 (.inl hm)⟩
   ·exact⟨_,rfl,(Lt ..).2 (.inr ((Ek ..).2 (.inl h)))⟩
 ·rw[zB (by omega)];constructor
  ·exact fun h=> .inl h
  ·rintro(h|⟨h,_⟩)
   ·exact h
   ·exact absurd h ht
theorem g0b{T:Nat}{p:Prd}(hp:p.length=T){i:Nat}(hi:i<T){x:Iv}(hx:x.lo≤x.hi)(h:∀s∈p,(∀y∈s,y.lo≤y.hi)∧s.Pairwise (fun y z=>y.hi<z.lo))(z6:∀t n,PM p t n→As t n i x.lo):
  ∀s∈Ub p i x,(∀y∈s,y.lo≤y.hi)∧s.Pairwise (fun y z=>y.hi<z.lo):=by
 intro s hs;have z1:i<p.length:=by omega
 rcases List.mem_or_eq_of_mem_set hs with hs|rfl
 ·exact h s hs
 ·rw[Wx z1];obtain⟨h1,h2⟩:=h _ (zG z1);refine⟨fun y hy=> ?_,zX.2 ⟨h2,by simp,fun y hy z hz=> ?_⟩⟩
  ·rcases zO.1 hy with hy|hy
   ·exact h1 y hy
   ·obtain rfl:=zI.1 hy;exact hx
  ·obtain rfl:=zI.1 hz;have:=z6 i y.hi ⟨_,zD z1,y,hy,h1 y hy,yI _⟩;unfold As at this;omega
theorem Iz{T i:Nat}{sg:List Bool}{x:Iv}:∀ {st:List (List Bool×Prd)},(∀g∈st,g.1≠sg)→Ty T i sg x st=st++[(sg,Ub (zU T []) i x)]
 |[],_=>rfl
 |(s,p)::r,h=>by rw[Ty,if_neg (h (s,p) (by simp)),Iz (fun g hg=>h g (by simp[hg]))];rfl
theorem Si{T i:Nat}{sg:List Bool}{x:Iv}:∀ {st:List (List Bool×Prd)},(∃g∈st,g.1=sg)→∃a p b,st=a++(sg,p)::b∧(∀g∈a,g.1≠sg)∧Ty T i sg x st=a++(sg,Ub p i x)::b
 |[],⟨g,hg,_⟩=>by cases hg
 |(s,p)::r,⟨g,hg,he⟩=>by
  by_cases hs:s=sg
  ·subst hs;exact⟨[],p,r,rfl,by simp,by rw[Ty,if_pos rfl];rfl⟩
  ·have z1:g∈r:=by
    rcases zT.1 hg with rfl|hg
    ·exact absurd he hs
    ·exact hg
   obtain⟨a,q,b,h1,h2,h3⟩:=Si (T:=T) (i:=i) (x:=x) ⟨g,z1,he⟩;refine⟨(s,p)::a,q,b,by rw[h1];rfl,fun g hg=> ?_,by rw[Ty,if_neg hs,h3];rfl⟩;rcases zT.1 hg with rfl|hg
   ·exact hs
   ·exact h2 g hg
theorem Kt(T t:Nat)(n:Int):¬PM (zU T []) t n:=by rintro⟨s,hs,hm⟩;obtain rfl:=wA (zF hs);simp[M]at hm
theorem GInv.step{T:Nat}{sig:Nat→Int→List Bool}{D:Nat→Int→Prop}{st:List (List Bool×Prd)}(h:GInv T sig D st){i:Nat}{x:Iv}(hi:i<T)(hx:x.lo≤x.hi)(hc:∀n,x.lo≤n→n≤x.hi→sig i n=sig i x.lo)(hD:∀t n,D t n→∀n',x.lo≤n'→n'≤x.hi→As t n i n'):
  GInv T sig (fun t n=>D t n∨k1v (i,x) t n) (Ty T i (sig i x.lo) x st):=by
 have z7:∀t n,k1v (i,x) t n→sig t n=sig i x.lo:=fun t n hp=>by obtain⟨rfl,h1,h2⟩:=hp;exact hc n h1 h2
 have zb:∀t n,D t n→∀t' n',k1v (i,x) t' n'→As t n t' n':=fun t n hd t' n' hp=>by obtain⟨rfl,h1,h2⟩:=hp;exact hD t n hd n' h1 h2
 have zc:k1v (i,x) i x.lo:=⟨rfl,yI _,hx⟩
 by_cases hit:∃g∈st,g.1=sig i x.lo
 ·obtain⟨a,p,b,h1,h2,h3⟩:=Si (T:=T) (i:=i) (x:=x) hit;rw[h3];subst h1;generalize zh:sig i x.lo=s0 at *
  have za:(s0,p)∈a++(s0,p)::b:=by simp
  have zd:=h.mem _ za;have hlen:=h.len _ za;have zf:=h.nd;obtain⟨n1,n2,n3⟩:=zX.1 zf;obtain⟨n4,n5⟩:=z_.1 n2;obtain⟨o1,o2,o3⟩:=zX.1 h.ord;obtain⟨o4,o5⟩:=z_.1 o2;have z1:=fun t n=>x1i hlen hi x t n;have hold:∀g∈a++(s0,Ub p i x)::b,(g∈a++(s0,p)::b∧g.1≠s0)∨g=(s0,Ub p i x):=fun g hg=>by
   rcases zO.1 hg with hg|hg
   ·exact .inl ⟨by simp[hg],h2 g hg⟩
   ·rcases zT.1 hg with rfl|hg
    ·exact .inr rfl
    ·exact .inl ⟨by simp[hg],(n4 g hg).symm⟩
  refine⟨fun g hg=> ?_,fun g hg=> ?_,fun g hg t n=> ?_,fun g hg=> ?_,?_,fun t n hd=> ?_,?_⟩
  ·rcases hold g hg with⟨hg,_⟩|rfl
   ·exact h.len g hg
   ·simp[Ub,hlen]
  ·rcases hold g hg with⟨hg,_⟩|rfl
   ·exact h.asc g hg
   ·exact g0b hlen hi hx (h.asc _ za) (fun t n hm=>hD t n ((zd t n).1 hm).1 x.lo (yI _) hx)
  ·rcases hold g hg with⟨hg,zg⟩|rfl
   ·rw[h.mem g hg t n];constructor
    ·exact fun hh=>⟨.inl hh.1,hh.2⟩
    ·rintro⟨hd|hd,hs⟩
     ·exact⟨hd,hs⟩
     ·exact absurd (by rw[←hs,z7 t n hd]) zg
   ·rw[z1,zd];constructor
    ·rintro(⟨hd,hs⟩|hd)
     ·exact⟨.inl hd,hs⟩
     ·exact⟨.inr hd,z7 t n hd⟩
    ·rintro⟨hd|hd,hs⟩
     ·exact .inl ⟨hd,hs⟩
     ·exact .inr hd
  ·rcases hold g hg with⟨hg,_⟩|rfl
   ·exact h.ne g hg
   ·exact⟨i,x.lo,(z1 i x.lo).2 (.inr zc)⟩
  ·exact zX.2 ⟨n1,z_.2 ⟨fun g hg=>n4 g hg,n5⟩,fun g hg k hk=>by
    rcases zT.1 hk with rfl|hk
    ·exact h2 g hg
    ·exact n3 g hg k (by simp[hk])⟩
  ·rcases hd with hd|hd
   ·obtain⟨g,hg,he⟩:=h.all t n hd;rcases zO.1 hg with hg|hg
    ·exact⟨g,by simp[hg],he⟩
    ·rcases zT.1 hg with rfl|hg
     ·exact⟨(s0,Ub p i x),by simp,he⟩
     ·exact⟨g,by simp[hg],he⟩
   ·exact⟨(s0,Ub p i x),by simp,(z7 t n hd).symm⟩
  ·refine zX.2 ⟨o1,z_.2 ⟨fun g hg=> ?_,o5⟩,fun g hg k hk=> ?_⟩
   ·obtain⟨t,n,e1,e2⟩:=o4 g hg;exact⟨t,n,(z1 t n).2 (.inl e1),e2⟩
   ·rcases zT.1 hk with rfl|hk
    ·obtain⟨t,n,e1,e2⟩:=o3 g hg (s0,p) (by simp);refine⟨t,n,e1,fun t' n' hm=> ?_⟩;rcases(z1 t' n').1 hm with hm|hm
     ·exact e2 t' n' hm
     ·exact zb t n ((h.mem g (by simp[hg]) t n).1 e1).1 t' n' hm
    ·exact o3 g hg k (by simp[hk])
 ·have z8:∀g∈st,g.1≠sig i x.lo:=fun g hg he=>hit ⟨g,hg,he⟩;rw[Iz z8];have ze:(zU T ([]:List Iv)).length=T:=by simp
  have z1:=fun t n=>x1i ze hi x t n;have z6:∀g∈st++[(sig i x.lo,Ub (zU T []) i x)],g∈st∨g=(sig i x.lo,Ub (zU T []) i x):=fun g hg=>by
   rcases zO.1 hg with hg|hg
   ·exact .inl hg
   ·exact .inr (zI.1 hg)
  refine⟨fun g hg=> ?_,fun g hg=> ?_,fun g hg t n=> ?_,fun g hg=> ?_,?_,fun t n hd=> ?_,?_⟩
  ·rcases z6 g hg with hg|rfl
   ·exact h.len g hg
   ·simp[Ub]
  ·rcases z6 g hg with hg|rfl
   ·exact h.asc g hg
   ·exact g0b ze hi hx (fun s hs=>by obtain rfl:=wA hs;simp) (fun t n hm=>absurd hm (Kt T t n))
  ·rcases z6 g hg with hg|rfl
   ·rw[h.mem g hg t n];constructor
    ·exact fun hh=>⟨.inl hh.1,hh.2⟩
    ·rintro⟨hd|hd,hs⟩
     ·exact⟨hd,hs⟩
     ·exact absurd (by rw[←hs,z7 t n hd]) (z8 g hg)
   ·rw[z1];constructor
    ·rintro(hm|hd)
     ·exact absurd hm (Kt T t n)
     ·exact⟨.inr hd,z7 t n hd⟩
    ·rintro⟨hd|hd,hs⟩
     ·obtain⟨g,hg,he⟩:=h.all t n hd;exact absurd (he.trans hs) (z8 g hg)
     ·exact .inr hd
  ·rcases z6 g hg with hg|rfl
   ·exact h.ne g hg
   ·exact⟨i,x.lo,(z1 i x.lo).2 (.inr zc)⟩
  ·exact zX.2 ⟨h.nd,by simp,fun g hg k hk=>by obtain rfl:=zI.1 hk;exact z8 g hg⟩
  ·rcases hd with hd|hd
   ·obtain⟨g,hg,he⟩:=h.all t n hd;exact⟨g,by simp[hg],he⟩
   ·exact⟨(sig i x.lo,Ub (zU T []) i x),by simp,(z7 t n hd).symm⟩
  ·refine zX.2 ⟨h.ord,by simp,fun g hg k hk=> ?_⟩;obtain rfl:=zI.1 hk;obtain⟨t,n,e1⟩:=h.ne g hg;refine⟨t,n,e1,fun t' n' hm=> ?_⟩;rcases(z1 t' n').1 hm with hm|hm
   ·exact absurd hm (Kt T t' n')
   ·exact zb t n ((h.mem g hg t n).1 e1).1 t' n' hm
end Go.Abs
namespace Go.Abs
theorem Pz:∀(cs:List Int),cs.Pairwise (·<·)→∀x∈Tk cs,x.lo≤x.hi∧x.lo∈cs∧x.hi+1∈cs∧∀d∈cs,d≤x.hi→d≤x.lo
 |[],_,x,hx=>by simp[Tk]at hx
 |[a],_,x,hx=>by simp[Tk]at hx
 |a::b::r,h,x,hx=>by
  obtain⟨h1,h2⟩:=z_.1 h;rw[Tk]at hx;rcases zT.1 hx with rfl|hx
  ·have z1:=h1 b (by simp);refine⟨by simp only;omega,by simp,by simp,fun d hd hle=> ?_⟩;simp only at hle ⊢;rcases zT.1 hd with rfl|hd
   ·omega
   ·have:b≤d:=by
     rcases zT.1 hd with rfl|hd
     ·omega
     ·have:=(z_.1 h2).1 d hd;omega
    omega
  ·obtain⟨k1,k2,k3,k4⟩:=Pz (b::r) h2 x hx;refine⟨k1,by simp only[zT]at k2 ⊢;exact .inr k2,by simp only[zT]at k3 ⊢;exact .inr k3,fun d hd hle=> ?_⟩;rcases zT.1 hd with rfl|hd
   ·have:=h1 x.lo k2;omega
   ·exact k4 d hd hle
theorem q0m:∀(cs:List Int),cs.Pairwise (·<·)→(Tk cs).Pairwise (fun x y=>x.hi<y.lo)
 |[],_=>by simp[Tk]
 |[a],_=>by simp[Tk]
 |a::b::r,h=>by
  obtain⟨h1,h2⟩:=z_.1 h;rw[Tk];refine z_.2 ⟨fun y hy=> ?_,q0m (b::r) h2⟩;obtain⟨_,k2,_,_⟩:=Pz (b::r) h2 y hy;have:b≤y.lo:=by
   rcases zT.1 k2 with e|k2
   ·omega
   ·have:=(z_.1 h2).1 y.lo k2;omega
  simp only;omega
theorem Kh:∀(cs:List Int),cs.Pairwise (·<·)→∀n,(∃a∈cs,a≤n)→(∃b∈cs,n<b)→∃x∈Tk cs,x.lo≤n∧n≤x.hi
 |[],_,n,⟨a,ha,_⟩,_=>by cases ha
 |[a],_,n,⟨c,hc,h1⟩,⟨d,hd,h2⟩=>by obtain rfl:=zI.1 hc;obtain rfl:=zI.1 hd;omega
 |a::b::r,h,n,⟨c,hc,h1⟩,⟨d,hd,h2⟩=>by
  obtain⟨p1,p2⟩:=z_.1 h;rw[Tk];have z1:a≤n:=by
   rcases zT.1 hc with rfl|hc
   ·exact h1
   ·have:=p1 c hc;omega
  by_cases hb:n<b
  ·exact⟨⟨a,b - 1⟩,by simp,z1,by simp only;omega⟩
  ·have z6:d∈b::r:=by
    rcases zT.1 hd with rfl|hd
    ·omega
    ·exact hd
   obtain⟨x,hx,e⟩:=Kh (b::r) p2 n ⟨b,by simp,by omega⟩ ⟨d,z6,h2⟩;exact⟨x,by simp[hx],e⟩
theorem R5{l:List Prd}{i:Nat}{x:Iv}:x∈Q8 l i↔∃p∈l,x∈p.getD i []:=by simp[Q8]
theorem z19{T:Nat}{p:Prd}(hp:PCk T p)(i:Nat):CanonL (p.getD i []):=by
 by_cases hi:i<p.length
 ·rw[Wx hi];exact hp.2 _ (zG hi)
 ·have:p.getD i []=[]:=by simp[yT,List.getElem?_eq_none (by omega:p.length≤i)]
  rw[this];exact Ac
theorem Tn{T:Nat}{l:List Prd}(hl:∀p∈l,PCk T p)(i:Nat):(Q9 l i).Pairwise (·<·)∧(-1099511627776:Int)∈Q9 l i∧(1099511627777:Int)∈Q9 l i∧
  (∀z∈Q9 l i,-1099511627776≤z∧z≤1099511627777)∧∀p∈l,∀x∈p.getD i [],x.lo∈Q9 l i∧x.hi+1∈Q9 l i:=by
 obtain⟨h1,h2⟩:=v0r (⟨-1099511627776,1099511627776⟩::Q8 l i);refine⟨h1,(h2 _).2 ⟨⟨-1099511627776,1099511627776⟩,by simp,.inl rfl⟩,(h2 _).2 ⟨⟨-1099511627776,1099511627776⟩,by simp,.inr (by simp)⟩,fun z hz=> ?_,fun p hp x hx=>⟨(h2 _).2 ⟨x,?_,.inl rfl⟩,(h2 _).2 ⟨x,?_,.inr rfl⟩⟩⟩
 ·obtain⟨x,hx,e⟩:=(h2 z).1 hz;rcases zT.1 hx with rfl|hx
  ·simp only at e;omega
  ·obtain⟨p,hp,hx⟩:=R5.1 hx;have hc:=z19 (hl p hp) i;have h3:=Li hc x hx;have h4:=(Eb _).1 h3.1;have h5:=(Eb _).1 h3.2;have:=(Af hc).1 x hx;omega
 ·exact uN _ (R5.2 ⟨p,hp,hx⟩)
 ·exact uN _ (R5.2 ⟨p,hp,hx⟩)
theorem f0d{T:Nat}{l:List Prd}(hl:∀p∈l,PCk T p)(i:Nat){x:Iv}(hx:x∈Tk (Q9 l i))(n:Int)(h1:x.lo≤n)(h2:n≤x.hi):Un l i n=Un l i x.lo:=by obtain⟨c1,_,_,_,c5⟩:=Tn hl i;obtain⟨_,_,_,k4⟩:=Pz _ c1 x hx;unfold Un;apply xN;intro p hp;exact j0w _ (Q9 l i) (c5 p hp) x.lo n h1 (fun d hd hle=>k4 d hd (by omega))
theorem Co{T:Nat}{p:Prd}(hp:p.length=T){t:Nat}(ht:t<T)(n:Int):Og (p.getD t []) n=true↔PM p t n:=by
 have z1:t<p.length:=by omega
 rw[Wx z1,Bo];unfold PM;rw[zD z1];simp
theorem y14{T:Nat}{l:List Prd}(hl:∀p∈l,PCk T p){t t':Nat}(ht:t<T)(z1:t'<T)(n n':Int):Un l t n=Un l t' n'↔f1b l t n t' n':=by
 unfold Un f1b;constructor
 ·intro h p hp;have:=(List.map_inj_left.1 h) p hp;rw[←Co (hl p hp).1 ht,←Co (hl p hp).1 z1,this]
 ·intro h;apply xN;intro p hp;have:=h p hp;rw[←Co (hl p hp).1 ht,←Co (hl p hp).1 z1]at this;exact xR.2 this
theorem GInv.congr{T:Nat}{sig:Nat→Int→List Bool}{D D':Nat→Int→Prop}{st:List (List Bool×Prd)}(h:GInv T sig D st)(e:∀t n,D t n↔D' t n):GInv T sig D' st:=by have:D=D':=funext fun t=>funext fun n=>propext (e t n);rw[←this];exact h
theorem Z5{T:Nat}{sig:Nat→Int→List Bool}:∀(A:List (Nat×Iv)) (D:Nat→Int→Prop) (st:List (List Bool×Prd)),GInv T sig D st→(∀a∈A,a.1<T∧a.2.lo≤a.2.hi∧∀n,a.2.lo≤n→n≤a.2.hi→sig a.1 n=sig a.1 a.2.lo)→
  (∀t n,D t n→∀a∈A,∀n',a.2.lo≤n'→n'≤a.2.hi→As t n a.1 n')→A.Pairwise (fun a b=>∀n n',a.2.lo≤n→n≤a.2.hi→b.2.lo≤n'→n'≤b.2.hi→As a.1 n b.1 n')→
  GInv T sig (fun t n=>D t n∨∃a∈A,k1v a t n) (A.foldl (fun st a=>Ty T a.1 (sig a.1 a.2.lo) a.2 st) st)
 |[],D,st,h,_,_,_=>h.congr (fun t n=>by simp)
 |a::A,D,st,h,h1,h2,h3=>by
  obtain⟨i,x⟩:=a;obtain⟨e1,e2,e3⟩:=h1 (i,x) (by simp);obtain⟨p1,p2⟩:=z_.1 h3;have hs:=h.step e1 e2 e3 (fun t n hd n' q1 q2=>h2 t n hd (i,x) (by simp) n' q1 q2);rw[yV];refine(Z5 A _ _ hs (fun b hb=>h1 b (by simp[hb])) (fun t n hd b hb n' q1 q2=> ?_) p2).congr (fun t n=> ?_)
  ·rcases hd with hd|hd
   ·exact h2 t n hd b (by simp[hb]) n' q1 q2
   ·obtain⟨rfl,d1,d2⟩:=hd;exact p1 b hb n n' d1 d2 q1 q2
  ·simp[or_assoc]
theorem D9{T:Nat}{l:List Prd}{a:Nat×Iv}:a∈Kc T l↔a.1<T∧a.2∈Tk (Q9 l a.1):=by
 unfold Kc;rw[xL];constructor
 ·rintro⟨i,hi,h⟩;obtain⟨x,hx,rfl⟩:=zK.1 h;exact⟨yL.1 hi,hx⟩
 ·rintro⟨h1,h2⟩;exact⟨a.1,yL.2 h1,zK.2 ⟨a.2,h2,rfl⟩⟩
theorem x0q{T:Nat}{l:List Prd}(hl:∀p∈l,PCk T p):(Kc T l).Pairwise (fun a b=>∀n n',a.2.lo≤n→n≤a.2.hi→b.2.lo≤n'→n'≤b.2.hi→As a.1 n b.1 n'):=by
 unfold Kc;rw[vU];refine⟨fun i _=> ?_,?_⟩
 ·rw[xM];refine(q0m _ (Tn hl i).1).imp (fun {x y} h n n' h1 h2 h3 h4=> .inr ⟨rfl,by simp only at h2 h3;omega⟩)
 ·refine List.pairwise_lt_range.imp (fun {i j} h a ha b hb n n' _ _ _ _=> ?_);obtain⟨x,_,rfl⟩:=zK.1 ha;obtain⟨y,_,rfl⟩:=zK.1 hb;exact .inl h
theorem g0v{T:Nat}{l:List Prd}(hl:∀p∈l,PCk T p):GInv T (Un l) (fun t n=>t<T∧inR n) (Ie T l):=by
 have h0:GInv T (Un l) (fun _ _=>False) []:=⟨by simp,by simp,by simp,by simp,by simp,fun _ _ h=>h.elim,by simp⟩
 refine(Z5 (Kc T l) _ [] h0 (fun a ha=> ?_) (fun _ _ h=>h.elim) (x0q hl)).congr (fun t n=> ?_)
 ·obtain⟨h1,h2⟩:=D9.1 ha;exact⟨h1,(Pz _ (Tn hl a.1).1 _ h2).1,fun n q1 q2=>f0d hl a.1 h2 n q1 q2⟩
 ·obtain⟨c1,c2,c3,c4,c5⟩:=Tn hl t;constructor
  ·rintro(h|⟨a,ha,rfl,h1,h2⟩)
   ·exact h.elim
   ·obtain⟨q1,q2⟩:=D9.1 ha;obtain⟨s1,s2,s3,s4⟩:=Pz _ c1 _ q2;have:=c4 _ s2;have:=c4 _ s3;exact⟨q1,by unfold inR;omega⟩
  ·rintro⟨h1,h2⟩;unfold inR at h2;obtain⟨x,hx,e1,e2⟩:=Kh _ c1 n ⟨_,c2,h2.1⟩ ⟨_,c3,by omega⟩;exact .inr ⟨(t,x),D9.2 ⟨h1,hx⟩,rfl,e1,e2⟩
theorem It{s:List Iv}(h:(∀x∈s,x.lo≤x.hi)∧s.Pairwise (fun x y=>x.hi<y.lo)):Sep (Qz [] s)∧∀n,M (Qz [] s) n↔M s n:=by have hb:Ng s:=h.2.imp_of_mem (fun {x y} hx hy hxy=>by have:=h.1 x hx;omega);have:=A5 s [] K0 hb h.1 (by simp);refine⟨this.1,fun n=> ?_⟩;rw[this.2 n];simp[M]
theorem Zg{T:Nat}{p:Prd}(h:∀s∈p,(∀x∈s,x.lo≤x.hi)∧s.Pairwise (fun x y=>x.hi<y.lo))(t:Nat)(n:Int):PM (E7 p) t n↔PM p t n:=by
 unfold PM E7;rw[zQ];constructor
 ·rintro⟨s,hs,hm⟩;obtain⟨a,ha,rfl⟩:=zN.1 hs;exact⟨a,ha,((It (h a (zF ha))).2 n).1 hm⟩
 ·rintro⟨a,ha,hm⟩;exact⟨Qz [] a,by rw[ha];rfl,((It (h a (zF ha))).2 n).2 hm⟩
theorem P5{T:Nat}{l:List Prd}(hl:∀p∈l,PCk T p):Prts T l (W7 T l)∧(W7 T l).Pairwise z01:=by
 have h:=g0v hl;have z1:∀g∈Ie T l,∀t n,PM (E7 g.2) t n↔(t<T∧inR n)∧Un l t n=g.1:=fun g hg t n=>by rw[Zg (T:=T) (h.asc g hg),h.mem g hg]
 have z6:∀p∈W7 T l,∃g∈Ie T l,p=E7 g.2:=fun p hp=>by obtain⟨g,hg,rfl⟩:=zK.1 hp;exact⟨g,hg,rfl⟩
 refine⟨⟨fun p hp=> ?_,fun p hp=> ?_,fun t n ht hn=> ?_,fun p hp t n hm t' n'=> ?_⟩,?_⟩
 ·obtain⟨g,hg,rfl⟩:=z6 p hp;refine⟨by simp[E7,h.len g hg],fun s hs=> ?_⟩;obtain⟨i,hi⟩:=yE.1 hs;have z7:=hs;obtain⟨a,ha,rfl⟩:=zK.1 hs;exact⟨(It (h.asc g hg a ha)).1,fun n hn=>((z1 g hg i n).1 ⟨_,hi,hn⟩).1.2⟩
 ·obtain⟨g,hg,rfl⟩:=z6 p hp;obtain⟨t,n,hm⟩:=h.ne g hg;exact⟨t,n,(Zg (T:=T) (h.asc g hg) t n).2 hm⟩
 ·obtain⟨g,hg,he⟩:=h.all t n ⟨ht,hn⟩;exact⟨E7 g.2,zK.2 ⟨g,hg,rfl⟩,(z1 g hg t n).2 ⟨⟨ht,hn⟩,he.symm⟩⟩
 ·obtain⟨g,hg,rfl⟩:=z6 p hp;obtain⟨⟨q1,q2⟩,q3⟩:=(z1 g hg t n).1 hm;rw[z1 g hg];constructor
  ·rintro⟨⟨h1,h2⟩,h3⟩;exact⟨h1,h2,(y14 hl q1 h1 n n').1 (q3.trans h3.symm)⟩
  ·rintro⟨h1,h2,h3⟩;exact⟨⟨h1,h2⟩,((y14 hl q1 h1 n n').2 h3).symm.trans q3⟩
 ·unfold W7;rw[xM];refine h.ord.imp_of_mem (fun {a b} ha hb hab=> ?_);obtain⟨t,n,e1,e2⟩:=hab;exact⟨t,n,(Zg (T:=T) (h.asc a ha) t n).2 e1,fun t' n' hm=>e2 t' n' ((Zg (T:=T) (h.asc b hb) t' n').1 hm)⟩
theorem Sb{T:Nat}(hT:0<T){l:List Prd}(hl:∀p∈l,PCk T p):W7 T l=Qx T l:=by obtain⟨a1,a2⟩:=P5 hl;obtain⟨b1,b2⟩:=Y9 hT hl;exact a1.unique b1 a2 b2
end Go.Abs
namespace Go.Abs
structure Sy where
 ty:Int
 num:Int
deriving Inhabited,DecidableEq
structure Mv where
 src:Int
 dst:Int
 on:Prd
deriving Inhabited
structure Aut where
 types:Int
 fin:List Bool
 mv:List Mv
deriving Inhabited
def Ou:Aut:=⟨0,[],[]⟩
def z0p:List (List Iv)→Int
 |[]=>0
 |s::r=>if ckR s≠0 then ckR s else z0p r
def E8(T:Int)(p:Prd):Int:=if T<1∨16<T then 2 else if(p.length:Int)≠T then 15 else z0p p
def z0j(T:Int)(n:Nat):List Mv→Int
 |[]=>0
 |m::r=>if ¬((0≤m.src∧m.src<n)∧(0≤m.dst∧m.dst<n))then 2 else if E8 T m.on≠0 then E8 T m.on else z0j T n r
def Wj(a:Aut):Int:=if a.types<1∨16<a.types then 2 else if a.fin.length<1∨256<a.fin.length∨2048<a.mv.length then 5 else z0j a.types a.fin.length a.mv
theorem q0y:∀(p:List (List Iv)),z0p p=0↔∀s∈p,CanonL s
 |[]=>by simp[z0p]
 |s::r=>by
  rw[z0p];by_cases h:ckR s=0
  ·rw[if_neg (fun k=>k h),q0y r];simp[(Ce s).1 h]
  ·rw[if_pos h];refine⟨fun k=>absurd k h,fun k=>absurd ((Ce s).2 (k s (by simp))) h⟩
theorem Ed(T:Int)(p:Prd):E8 T p=0↔(1≤T∧T≤16)∧PCk T.toNat p:=by
 unfold E8 PCk;by_cases h1:T<1∨16<T
 ·rw[if_pos h1];exact⟨fun h=>by omega,fun h=>by omega⟩
 ·rw[if_neg h1];by_cases h2:(p.length:Int)≠T
  ·rw[if_pos h2];exact⟨fun h=>by omega,fun h=>by omega⟩
  ·rw[if_neg h2,q0y];exact⟨fun h=>⟨by omega,by omega,h⟩,fun h=>h.2.2⟩
structure OkMv (T:Nat) (n:Nat) (m:Mv):Prop where
 src:0≤m.src∧m.src<n
 dst:0≤m.dst∧m.dst<n
 on:PCk T m.on
structure OkA (a:Aut):Prop where
 types:1≤a.types∧a.types≤16
 fin:1≤a.fin.length∧a.fin.length≤256
 mvs:a.mv.length≤2048
 mv:∀m∈a.mv,OkMv a.types.toNat a.fin.length m
theorem Mr{T:Int}(hT:1≤T∧T≤16)(n:Nat):∀(l:List Mv),z0j T n l=0↔∀m∈l,OkMv T.toNat n m
 |[]=>by simp[z0j]
 |m::r=>by
  rw[z0j];by_cases h1:(0≤m.src∧m.src<n)∧(0≤m.dst∧m.dst<n)
  ·rw[if_neg (fun k=>k h1)];by_cases h2:E8 T m.on=0
   ·rw[if_neg (fun k=>k h2),Mr hT n r];have h3:=((Ed T m.on).1 h2).2;constructor
    ·intro h x hx;rcases zT.1 hx with rfl|hx
     ·exact⟨h1.1,h1.2,h3⟩
     ·exact h x hx
    ·exact fun h x hx=>h x (by simp[hx])
   ·rw[if_pos h2];exact⟨fun h=>absurd h h2,fun h=>absurd ((Ed T m.on).2 ⟨hT,(h m (by simp)).on⟩) h2⟩
  ·rw[if_pos h1];exact⟨fun h=>(by cases h),fun h=>absurd ⟨(h m (by simp)).src,(h m (by simp)).dst⟩ h1⟩
theorem Ob(a:Aut):Wj a=0↔OkA a:=by
 unfold Wj;by_cases h1:a.types<1∨16<a.types
 ·rw[if_pos h1];exact⟨fun h=>(by cases h),fun h=>by have:=h.types;omega⟩
 ·rw[if_neg h1];by_cases h2:a.fin.length<1∨256<a.fin.length∨2048<a.mv.length
  ·rw[if_pos h2];exact⟨fun h=>(by cases h),fun h=>by have:=h.fin;have:=h.mvs;omega⟩
  ·rw[if_neg h2,Mr (by omega)];exact⟨fun h=>⟨by omega,by omega,by omega,h⟩,fun h=>h.mv⟩
def Rc(p:Prd)(x:Sy):Bool:=decide (0≤x.ty) && decide (x.ty<p.length) && Og (p.getD x.ty.toNat []) x.num
def Ga(T:Int)(x:Sy):Int:=if x.ty<0∨T≤x.ty then 6 else if x.num< -1099511627776∨1099511627776<x.num then 2 else 0
theorem D4(T:Int)(x:Sy):Ga T x=0↔(0≤x.ty∧x.ty<T)∧inR x.num:=by
 unfold Ga inR;split
 ·constructor
  ·intro h;cases h
  ·intro h;omega
 ·split
  ·constructor
   ·intro h;cases h
   ·intro h;omega
  ·constructor
   ·intro _;omega
   ·intro _;rfl
theorem O6{T:Nat}{p:Prd}(hp:p.length=T)(x:Sy)(hx:0≤x.ty):Rc p x=true↔PM p x.ty.toNat x.num:=by
 unfold Rc;by_cases h:x.ty<p.length
 ·have h1:x.ty.toNat<T:=by omega
  rw[←Co hp h1];simp[h,hx]
 ·have:¬PM p x.ty.toNat x.num:=by rintro⟨s,hs,_⟩;have:=(zA.1 hs).1;omega
  simp[h,this]
def Wt(n:Nat):List Int:=(yD n).map fun i:Nat=>(i:Int)
theorem Wz{n:Nat}{z:Int}:z∈Wt n↔0≤z∧z<n:=by
 unfold Wt;rw[zK];constructor
 ·rintro⟨i,hi,rfl⟩;have:=yL.1 hi;omega
 ·rintro⟨h1,h2⟩;exact⟨z.toNat,yL.2 (by omega),by omega⟩
theorem Z0(n:Nat):(Wt n).Pairwise (·<·):=by unfold Wt;rw[xM];exact List.pairwise_lt_range.imp (fun h=>by omega)
def x1r(a:Aut)(l:List Int)(x:Sy)(j:Int):Bool:=a.mv.any fun m=>l.contains m.src && Rc m.on x && decide (m.dst=j)
def Q0(a:Aut)(l:List Int)(x:Sy):List Int:=(Wt a.fin.length).filter (x1r a l x)
def k19(a:Aut)(l:List Int)(x:Sy):List Int:=Go.Lib.compact (Ro ((a.mv.filter fun m=>l.contains m.src && Rc m.on x).map (·.dst)))
theorem c0g(zs:List Int):(Ro zs).Pairwise (·≤·):=by have:=vT (le:=fun x y:Int=>decide (x≤y)) (fun a b c h1 h2=>by simp at h1 h2 ⊢;omega) (fun a b=>by simp;omega) zs;simpa[Ro]using this
theorem Xn(zs:List Int):(Go.Lib.compact (Ro zs)).Pairwise (·<·)∧∀z,z∈Go.Lib.compact (Ro zs)↔z∈zs:=by have h:=X8 _ (c0g zs) _ (zL _);refine⟨h.1,fun z=> ?_⟩;have h2:=h.2 z;rw[zZ]at h2;rw[Go.Lib.compact,h2,Ro,uW]
theorem Tp{a b:List Int}(ha:a.Pairwise (·<·))(hb:b.Pairwise (·<·))(h:∀z,z∈a↔z∈b):a=b:=by have hn:∀ {l:List Int},l.Pairwise (·<·)→l.Nodup:=fun hl=>hl.imp (fun h e=>by omega);exact List.Perm.eq_of_pairwise (le:=(·<·)) (fun a b _ _ h1 h2=>by omega) ha hb ((up (hn ha) (hn hb)).2 h)
theorem Yf(a:Aut)(l:List Int)(x:Sy):(Q0 a l x).Pairwise (·<·):=(Z0 _).filter _
theorem Wu{a:Aut}{l:List Int}{x:Sy}{j:Int}:j∈Q0 a l x↔(0≤j∧j<a.fin.length)∧∃m∈a.mv,m.src∈l∧Rc m.on x=true∧m.dst=j:=by unfold Q0 x1r;rw[wI,Wz,wQ];simp[and_assoc]
theorem x12{a:Aut}(h:∀m∈a.mv,0≤m.dst∧m.dst<a.fin.length)(l:List Int)(x:Sy):k19 a l x=Q0 a l x:=by
 obtain⟨h1,h2⟩:=Xn ((a.mv.filter fun m=>l.contains m.src && Rc m.on x).map (·.dst));refine Tp h1 (Yf a l x) fun z=> ?_;rw[k19,h2,Wu];constructor
 ·intro hz;obtain⟨m,hm,rfl⟩:=zK.1 hz;obtain⟨hm,hc⟩:=wI.1 hm;simp at hc;exact⟨h m hm,m,hm,hc.1,hc.2,rfl⟩
 ·rintro⟨_,m,hm,c1,c2,rfl⟩;exact zK.2 ⟨m,wI.2 ⟨hm,by simp[c1,c2]⟩,rfl⟩
theorem Yg{a:Aut}{l:List Int}{x:Sy}:∀j∈Q0 a l x,0≤j∧j<a.fin.length:=fun j hj=>(Wu.1 hj).1
def Qn(p:Prd):Sy:=⟨(Qv p 0).1,(Qv p 0).2⟩
def Hf(Q:List (List Int))(x:List Int):List (List Int):=if x=[]∨x∈Q then Q else Q++[x]
def W6(Q:List (List Int))(xs:List (List Int)):List (List Int):=xs.foldl Hf Q
def R6(a:Aut)(cl:List Prd)(l:List Int):List (List Int):=cl.map fun c=>Q0 a l (Qn c)
def w0a(a:Aut)(cl:List Prd):Nat→Nat→List (List Int)→Option (List (List Int))
 |0,_,_=>none
 |f+1,i,Q=>match Q[i]? with
  |some l=>if 256<(W6 Q (R6 a cl l)).length then none else w0a a cl f (i+1) (W6 Q (R6 a cl l))
  |none=>some Q
theorem d0q(Q:List (List Int))(x:List Int):∃R,Hf Q x=Q++R∧∀y∈R,y=x∧x≠[]:=by
 unfold Hf;split
 ·exact⟨[],by simp,by simp⟩
 ·rename_i h;exact⟨[x],rfl,fun y hy=>⟨zI.1 hy,fun e=>h (.inl e)⟩⟩
theorem Yt:∀(xs:List (List Int)) (Q:List (List Int)),∃R,W6 Q xs=Q++R∧∀y∈R,y∈xs∧y≠[]
 |[],Q=>⟨[],by simp[W6],by simp⟩
 |x::xs,Q=>by
  obtain⟨R1,h1,h2⟩:=d0q Q x;obtain⟨R2,h3,h4⟩:=Yt xs (Hf Q x);refine⟨R1++R2,?_,fun y hy=> ?_⟩
  ·show W6 (Hf Q x) xs=_;rw[h3,h1,List.append_assoc]
  ·rcases zO.1 hy with hy|hy
   ·obtain⟨rfl,hn⟩:=h2 y hy;exact⟨by simp,hn⟩
   ·exact⟨by simp[(h4 y hy).1],(h4 y hy).2⟩
theorem w06(Q xs:List (List Int)):Q.length≤(W6 Q xs).length:=by obtain⟨R,h,_⟩:=Yt xs Q;rw[h];simp
theorem z1p{Q:List (List Int)}{x:List Int}(hx:x≠[]):x∈Hf Q x:=by
 unfold Hf;split
 ·rename_i h;rcases h with h|h
  ·exact absurd h hx
  ·exact h
 ·simp
theorem J4:∀ {xs:List (List Int)} {Q:List (List Int)} {x:List Int},x∈xs→x≠[]→x∈W6 Q xs
 |[],_,_,h,_=>by cases h
 |y::xs,Q,x,h,hn=>by
  show x∈W6 (Hf Q y) xs;rcases zT.1 h with rfl|h
  ·obtain⟨R,e,_⟩:=Yt xs (Hf Q x);rw[e];exact xB _ (z1p hn)
  ·exact J4 h hn
def y1p(Q:List (List Int)):List (List Int)→Option (List (List Int))
 |[]=>some Q
 |x::xs=>if 256<(Hf Q x).length then none else y1p (Hf Q x) xs
end Go.Abs
namespace Go.Abs
def Rh(p q:Prd):Prd:=tC (fun a b=>E6 (a++b)) p q
theorem Gs{T:Nat}{p q:Prd}(hp:PWf T p)(hq:PWf T q)(t:Nat)(n:Int):PM (Rh p q) t n↔PM p t n∨PM q t n:=by
 have hf:∀ {a b:List Iv},a∈p→b∈q→∀x∈a++b,x.lo≤x.hi:=fun ha hb x hx=>by
  rcases zO.1 hx with hx|hx
  ·exact(hp.2 _ ha).1.1 x hx
  ·exact(hq.2 _ hb).1.1 x hx
 unfold PM Rh;rw[wM];constructor
 ·rintro⟨s,hs,hm⟩;cases h1:p[t]? with
  |none=>rw[h1]at hs;simp at hs
  |some a=>
   cases h2:q[t]? with
   |none=>rw[h1,h2]at hs;simp at hs
   |some b=>
    rw[h1,h2]at hs;simp at hs;subst hs;have:=((Y5 _ (hf (zF h1) (zF h2))).2 n).1 hm;rcases(Lt ..).1 this with h|h
    ·exact .inl ⟨a,rfl,h⟩
    ·exact .inr ⟨b,rfl,h⟩
 ·intro h;have z1:t<T:=by
   rcases h with⟨s,hs,_⟩|⟨s,hs,_⟩
   ·rw[←hp.1];exact(zA.1 hs).1
   ·rw[←hq.1];exact(zA.1 hs).1
  have h1:t<p.length:=by rw[hp.1];exact z1
  have h2:t<q.length:=by rw[hq.1];exact z1
  rw[zD h1,zD h2]at h ⊢;refine⟨_,rfl,((Y5 _ (hf (zG h1) (zG h2))).2 n).2 ((Lt ..).2 ?_)⟩;rcases h with⟨s,hs,hm⟩|⟨s,hs,hm⟩
  ·cases hs;exact .inl hm
  ·cases hs;exact .inr hm
theorem Fy{T:Nat}{p q:Prd}(hp:PWf T p)(hq:PWf T q):PWf T (Rh p q):=by
 refine⟨by simp[Rh,hp.1,hq.1],fun s hs=> ?_⟩;obtain⟨i,hi⟩:=yE.1 hs;have z1:=hi;unfold Rh at hi;rw[wM]at hi;cases h1:p[i]? with
 |none=>rw[h1]at hi;simp at hi
 |some a=>
  cases h2:q[i]? with
  |none=>rw[h1,h2]at hi;simp at hi
  |some b=>
   rw[h1,h2]at hi;simp at hi;subst hi;refine⟨(Y5 _ fun x hx=> ?_).1,fun n hn=> ?_⟩
   ·rcases zO.1 hx with hx|hx
    ·exact(hp.2 _ (zF h1)).1.1 x hx
    ·exact(hq.2 _ (zF h2)).1.1 x hx
   ·rcases(Gs hp hq i n).1 ⟨_,z1,hn⟩with h|h
    ·exact(hp.lt h).2
    ·exact(hq.lt h).2
def x0l(Q:List (List Int))(x:List Int):Option Nat:=Q.findIdx? fun y=>decide (y=x)
theorem Gi{Q:List (List Int)}{x:List Int}{t:Nat}(h:x0l Q x=some t):Q[t]? =some x:=by unfold x0l at h;obtain⟨h1,h2,_⟩:=wd.1 h;rw[zD h1];simpa using h2
theorem f0j{Q:List (List Int)}(hn:Q.Nodup){t:Nat}{x:List Int}(h:Q[t]? =some x):x0l Q x=some t:=by
 unfold x0l;obtain⟨h1,h2⟩:=zA.1 h;refine wd.2 ⟨h1,by simpa using h2,fun j hj=> ?_⟩;have z1:Q[j]≠Q[t]:=fun e=>by have:=(ug hn).1 e;omega
 rw[h2]at z1;simpa using z1
def U2(n:Nat)(g:List Mv)(to:Nat)(c:Prd):List Mv:=match g.findIdx? fun m:Mv=>decide (m.dst=(to:Int))with
 |none=>g++[⟨n,to,c⟩]
 |some i=>match g[i]? with
  |some m=>g.set i { m with on:=Rh m.on c }
  |none=>g
def Ve(a:Aut)(cl:List Prd)(Q:List (List Int))(n:Nat)(l:List Int):List Mv:=
 cl.foldl (fun g c=>match x0l Q (Q0 a l (Qn c))with|some t=>U2 n g t c|none=>g) []
def V3(a:Aut)(cl:List Prd)(Q:List (List Int)):List Mv:=(yD Q.length).flatMap fun n=>Ve a cl Q n (Q.getD n [])
def Iu(a:Aut)(l:List Int):Bool:=l.any fun s=>a.fin.getD s.toNat false
def Y4(a:Aut)(cl:List Prd)(Q:List (List Int)):Aut:=⟨a.types,Q.map (Iu a),V3 a cl Q⟩
structure MInv (T N n:Nat) (D:Nat→Nat→Int→Prop) (g:List Mv):Prop where
 wf:∀m∈g,PWf T m.on
 src:∀m∈g,m.src=n
 dst:∀m∈g,∃t:Nat,t<N∧m.dst=t
 nd:g.Pairwise (fun m k=>m.dst≠k.dst)
 mem:∀m∈g,∀t:Nat,m.dst=t→∀ty y,PM m.on ty y↔D t ty y
 all:∀t ty y,D t ty y→∃m∈g,m.dst=(t:Int)
theorem MInv.add{T N n:Nat}{D:Nat→Nat→Int→Prop}{g:List Mv}(h:MInv T N n D g){to:Nat}(ht:to<N){c:Prd}(hc:PWf T c)(zh:∃ty y,PM c ty y):
  MInv T N n (fun t ty y=>D t ty y∨(t=to∧PM c ty y)) (U2 n g to c):=by
 unfold U2;cases hf:g.findIdx? fun m:Mv=>decide (m.dst=(to:Int))with
 |none=>
  rw[List.findIdx?_eq_none_iff]at hf;have z7:∀m∈g,m.dst≠(to:Int):=fun m hm=>by simpa using hf m hm
  show MInv T N n _ (g++[⟨n,to,c⟩]);have z1:∀m∈g++[(⟨n,to,c⟩:Mv)],m∈g∨m=⟨n,to,c⟩:=fun m hm=>by
   rcases zO.1 hm with hm|hm
   ·exact .inl hm
   ·exact .inr (zI.1 hm)
  have hD:∀ty y,¬D to ty y:=fun ty y hd=>by obtain⟨m,hm,e⟩:=h.all to ty y hd;exact z7 m hm e
  refine⟨fun m hm=> ?_,fun m hm=> ?_,fun m hm=> ?_,?_,fun m hm t e ty y=> ?_,fun t ty y hd=> ?_⟩
  ·rcases z1 m hm with hm|rfl
   ·exact h.wf m hm
   ·exact hc
  ·rcases z1 m hm with hm|rfl
   ·exact h.src m hm
   ·rfl
  ·rcases z1 m hm with hm|rfl
   ·exact h.dst m hm
   ·exact⟨to,ht,rfl⟩
  ·exact zX.2 ⟨h.nd,by simp,fun m hm k hk=>by obtain rfl:=zI.1 hk;exact z7 m hm⟩
  ·rcases z1 m hm with hm'|rfl
   ·rw[h.mem m hm' t e];constructor
    ·exact fun hd=> .inl hd
    ·rintro(hd|⟨e2,_⟩)
     ·exact hd
     ·exact absurd (by rw[e,e2]) (z7 m hm')
   ·have:t=to:=by simp at e;omega
    subst this;constructor
    ·exact fun hd=> .inr ⟨rfl,hd⟩
    ·rintro(hd|⟨_,hd⟩)
     ·exact absurd hd (hD ty y)
     ·exact hd
  ·rcases hd with hd|⟨rfl,_⟩
   ·obtain⟨m,hm,e⟩:=h.all t ty y hd;exact⟨m,by simp[hm],e⟩
   ·exact⟨⟨n,t,c⟩,by simp,rfl⟩
 |some i=>
  obtain⟨hi,zf,_⟩:=wd.1 hf;simp only[zD hi];have z6:g[i].dst=(to:Int):=by simpa using zf
  have z8:=zG hi;have hw:=h.wf _ z8;have z1:∀m∈g.set i { g[i]with on:=Rh g[i].on c },(m∈g∧m.dst≠(to:Int))∨m={ g[i]with on:=Rh g[i].on c }:=fun m hm=>by
   obtain⟨j,hj⟩:=yE.1 hm;by_cases hij:i=j
   ·subst hij;rw[zH hi]at hj;exact .inr (Option.some.inj hj).symm
   ·rw[zB hij]at hj;obtain⟨zc,zd⟩:=zA.1 hj;refine .inl ⟨zF hj,fun e=> ?_⟩;rcases uh hij with hlt|hgt
    ·exact yC.1 h.nd i j hi zc hlt (by rw[zd,e,z6])
    ·exact yC.1 h.nd j i zc hi hgt (by rw[zd,e,z6])
  refine⟨fun m hm=> ?_,fun m hm=> ?_,fun m hm=> ?_,?_,fun m hm t e ty y=> ?_,fun t ty y hd=> ?_⟩
  ·rcases z1 m hm with⟨hm,_⟩|rfl
   ·exact h.wf m hm
   ·exact Fy hw hc
  ·rcases z1 m hm with⟨hm,_⟩|rfl
   ·exact h.src m hm
   ·have:=h.src g[i] z8;simpa using this
  ·rcases z1 m hm with⟨hm,_⟩|rfl
   ·exact h.dst m hm
   ·exact⟨to,ht,z6⟩
  ·have za:(g.set i { g[i]with on:=Rh g[i].on c }).map (·.dst)=g.map (·.dst):=by
    apply List.ext_getElem?;intro j;rw[zQ,zQ];by_cases hij:i=j
    ·subst hij;rw[zH hi,zD hi];rfl
    ·rw[zB hij]
   have hp:(g.map (·.dst)).Pairwise (·≠·):=xM.2 h.nd;rw[←za]at hp;exact xM.1 hp
  ·rcases z1 m hm with⟨hm,zg⟩|rfl
   ·rw[h.mem m hm t e];constructor
    ·exact fun hd=> .inl hd
    ·rintro(hd|⟨rfl,_⟩)
     ·exact hd
     ·exact absurd e zg
   ·have:t=to:=by simp only at e;omega
    subst this;have zb:=Gs hw hc ty y;have ze:=h.mem _ z8 t z6 ty y;constructor
    ·intro hd;rcases zb.1 hd with hd|hd
     ·exact .inl (ze.1 hd)
     ·exact .inr ⟨rfl,hd⟩
    ·rintro(hd|⟨_,hd⟩)
     ·exact zb.2 (.inl (ze.2 hd))
     ·exact zb.2 (.inr hd)
  ·rcases hd with hd|⟨rfl,_⟩
   ·obtain⟨m,hm,e⟩:=h.all t ty y hd;obtain⟨j,hj⟩:=yE.1 hm;by_cases hij:i=j
    ·subst hij;rw[zD hi]at hj;cases hj;exact⟨_,zF (zH hi),e⟩
    ·exact⟨m,zF (by rw[zB hij];exact hj),e⟩
   ·exact⟨_,zF (zH hi),z6⟩
theorem MInv.congr{T N n:Nat}{D D':Nat→Nat→Int→Prop}{g:List Mv}(h:MInv T N n D g)(e:∀t ty y,D t ty y↔D' t ty y):MInv T N n D' g:=by have:D=D':=funext fun t=>funext fun ty=>funext fun y=>propext (e t ty y);rw[←this];exact h
theorem P0{T:Nat}{a:Aut}{cl:List Prd}{Q:List (List Int)}(n:Nat)(l:List Int)(hw:∀c∈cl,PWf T c∧∃ty y,PM c ty y):
  MInv T Q.length n (fun t ty y=>∃c∈cl,x0l Q (Q0 a l (Qn c))=some t∧PM c ty y) (Ve a cl Q n l):=by
 have key:∀(r:List Prd) (D:Nat→Nat→Int→Prop) (g:List Mv),MInv T Q.length n D g→(∀c∈r,PWf T c∧∃ty y,PM c ty y)→
   MInv T Q.length n (fun t ty y=>D t ty y∨∃c∈r,x0l Q (Q0 a l (Qn c))=some t∧PM c ty y) (r.foldl (fun g c=>match x0l Q (Q0 a l (Qn c))with|some t=>U2 n g t c|none=>g) g):=by
  intro r;induction r with
  |nil=>intro D g h _;exact h.congr (fun t ty y=>by simp)
  |cons c r ih=>
   intro D g h hr;rw[yV];cases hx:x0l Q (Q0 a l (Qn c))with
   |none=>refine(ih D g h (fun d hd=>hr d (by simp[hd]))).congr (fun t ty y=> ?_);simp[hx]
   |some to=>
    have z1:=(zA.1 (Gi hx)).1;have hc:=hr c (by simp);refine(ih _ _ (h.add z1 hc.1 hc.2) (fun d hd=>hr d (by simp[hd]))).congr (fun t ty y=> ?_);simp only[zT,exists_eq_or_imp,hx,Option.some.injEq,or_assoc];constructor
    ·rintro(h|⟨e,h⟩|h)
     ·exact .inl h
     ·exact .inr (.inl ⟨e.symm,h⟩)
     ·exact .inr (.inr h)
    ·rintro(h|⟨e,h⟩|h)
     ·exact .inl h
     ·exact .inr (.inl ⟨e.symm,h⟩)
     ·exact .inr (.inr h)
 have h0:MInv T Q.length n (fun _ _ _=>False) []:=⟨by simp,by simp,by simp,by simp,by simp,fun _ _ _ h=>h.elim⟩
 exact(key cl _ [] h0 hw).congr (fun t ty y=>by simp)
end Go.Abs
namespace Go.Abs
structure Cls (a:Aut) (cl:List Prd):Prop where
 ok:OkA a
 prts:Prts a.types.toNat (a.mv.map (·.on)) cl
 wf:∀c∈cl,PWf a.types.toNat c∧∃ty y,PM c ty y
theorem y1z{a:Aut}(h:OkA a):Cls a (Qx a.types.toNat (a.mv.map (·.on))):=by
 have hT:0<a.types.toNat:=by have:=h.types;omega
 have hp:=(Y9 hT (l:=a.mv.map (·.on)) (fun p hp=>by obtain⟨m,hm,rfl⟩:=zK.1 hp;exact(h.mv m hm).on)).1;exact⟨h,hp,fun c hc=>⟨hp.wf c hc,hp.ne c hc⟩⟩
def Ww(a:Aut)(x:Sy):Prop:=(0≤x.ty∧x.ty<a.types)∧inR x.num
theorem y0o{a:Aut}{l:List Int}{x y:Sy}(h:∀m∈a.mv,Rc m.on x=Rc m.on y):Q0 a l x=Q0 a l y:=by
 refine Tp (Yf ..) (Yf ..) fun z=> ?_;rw[Wu,Wu];constructor
 ·rintro⟨h1,m,hm,h2,h3,h4⟩;exact⟨h1,m,hm,h2,by rw[←h m hm];exact h3,h4⟩
 ·rintro⟨h1,m,hm,h2,h3,h4⟩;exact⟨h1,m,hm,h2,by rw[h m hm];exact h3,h4⟩
theorem Cls.of{a:Aut}{cl:List Prd}(h:Cls a cl){x:Sy}(hx:Ww a x):∃c∈cl,PM c x.ty.toNat x.num∧∀l,Q0 a l x=Q0 a l (Qn c):=by obtain⟨c,hc,hm⟩:=h.prts.all x.ty.toNat x.num (by have:=hx.1;omega) hx.2;refine⟨c,hc,hm,fun l=>y0o fun m z1=> ?_⟩;have h1:=(Wy (h.wf c hc).1 (h.wf c hc).2).1;have h2:=((h.prts.cls c hc _ _ hm _ _).1 h1).2.2 m.on (zK.2 ⟨m,z1,rfl⟩);have hl:=(h.ok.mv m z1).on.1;rw[xR,O6 hl x hx.1.1,O6 hl (Qn c) (by simp[Qn])];simpa[Qn]using h2
theorem Cls.same{a:Aut}{cl:List Prd}(h:Cls a cl){c:Prd}(hc:c∈cl){x:Sy}(hx:Ww a x)(hm:PM c x.ty.toNat x.num)(l:List Int):Q0 a l x=Q0 a l (Qn c):=by obtain⟨d,hd,z1,e⟩:=h.of hx;rw[e l,h.prts.disj hd hc z1 hm]
structure Sub (a:Aut) (cl:List Prd) (Q:List (List Int)):Prop where
 first:Q[0]? =some [0]
 nd:Q.Nodup
 ne:∀l∈Q,l≠[]
 lim:Q.length≤256
 elem:∀l∈Q,l.Pairwise (·<·)∧∀s∈l,0≤s∧s<a.fin.length
 closed:∀l∈Q,∀c∈cl,Q0 a l (Qn c)=[]∨Q0 a l (Qn c)∈Q
theorem z0v{Q:List (List Int)}{x:List Int}(h:Q.Nodup):(Hf Q x).Nodup:=by
 unfold Hf;split
 ·exact h
 ·rename_i hx;exact List.nodup_append.2 ⟨h,by simp,fun a ha b hb e=>by
   obtain rfl:=zI.1 hb;subst e;exact hx (.inr ha)⟩
theorem Dc:∀(xs:List (List Int)) {Q:List (List Int)},Q.Nodup→(W6 Q xs).Nodup
 |[],_,h=>h
 |x::xs,Q,h=>Dc xs (z0v (x:=x) h)
theorem x0v{a:Aut}(ha:OkA a)(cl:List Prd):∀(f i:Nat) (Q R:List (List Int)),w0a a cl f i Q=some R→Q[0]? =some [0]→Q.Nodup→(∀l∈Q,l≠[])→Q.length≤256→(∀l∈Q,l.Pairwise (·<·)∧∀s∈l,0≤s∧s<a.fin.length)→
  (∀j,j<i→∀l,Q[j]? =some l→∀c∈cl,Q0 a l (Qn c)=[]∨Q0 a l (Qn c)∈Q)→Sub a cl R
 |0,_,_,_,h,_,_,_,_,_,_=>by cases h
 |f+1,i,Q,R,h,h1,h2,h3,h4,h5,h6=>by
  rw[w0a]at h;cases hq:Q[i]? with
  |none=>rw[hq]at h;simp only[Option.some.injEq]at h;subst h;have hi:Q.length≤i:=List.getElem?_eq_none_iff.1 hq;refine⟨h1,h2,h3,h4,h5,fun l hl c hc=> ?_⟩;obtain⟨j,hj⟩:=yE.1 hl;exact h6 j (by have:=(zA.1 hj).1;omega) l hj c hc
  |some l=>
   rw[hq]at h;simp only at h;by_cases hlim:256<(W6 Q (R6 a cl l)).length
   ·rw[if_pos hlim]at h;cases h
   ·rw[if_neg hlim]at h;obtain⟨X,hX,z6⟩:=Yt (R6 a cl l) Q;have hlen:0<Q.length:=(zA.1 h1).1;have z1:∀y∈W6 Q (R6 a cl l),y∈Q∨(y≠[]∧∃c∈cl,y=Q0 a l (Qn c)):=fun y hy=>by
     rw[hX]at hy;rcases zO.1 hy with hy|hy
     ·exact .inl hy
     ·obtain⟨p1,p2⟩:=z6 y hy;obtain⟨c,hc,rfl⟩:=zK.1 p1;exact .inr ⟨p2,c,hc,rfl⟩
    refine x0v ha cl f (i+1) _ R h ?_ (Dc _ h2) ?_ (by omega) ?_ ?_
    ·rw[hX,zE hlen];exact h1
    ·intro y hy;rcases z1 y hy with hy|⟨hy,_⟩
     ·exact h3 y hy
     ·exact hy
    ·intro y hy;rcases z1 y hy with hy|⟨_,c,_,rfl⟩
     ·exact h5 y hy
     ·exact⟨Yf ..,Yg⟩
    ·intro j hj k hk c hc;by_cases hji:j<i
     ·have z7:j<Q.length:=by have:=(zA.1 hq).1;omega
      rw[hX,zE z7]at hk;rcases h6 j hji k hk c hc with h7|h7
      ·exact .inl h7
      ·right;rw[hX];exact xB _ h7
     ·have:j=i:=by omega
      subst this;rw[hX,zE (zA.1 hq).1,hq]at hk;cases hk;by_cases hn:Q0 a l (Qn c)=[]
      ·exact .inl hn
      ·exact .inr (J4 (zK.2 ⟨c,hc,rfl⟩) hn)
def G9(a:Aut)(cl:List Prd):Option (List (List Int)):=w0a a cl 257 0 [[0]]
theorem v0q{a:Aut}(ha:OkA a){cl:List Prd}{Q:List (List Int)}(h:G9 a cl=some Q):Sub a cl Q:=
 x0v ha cl 257 0 [[0]] Q h rfl (by simp) (by simp) (by simp) (by intro l hl;obtain rfl:=zI.1 hl;exact⟨by simp,fun s hs=>by obtain rfl:=zI.1 hs;have:=ha.fin;omega⟩) (fun j hj=>by omega)
theorem Sub.step{a:Aut}{cl:List Prd}{Q:List (List Int)}(hs:Sub a cl Q)(hc:Cls a cl){l:List Int}(hl:l∈Q){x:Sy}(hx:Ww a x):Q0 a l x=[]∨Q0 a l x∈Q:=by obtain⟨c,h1,_,h3⟩:=hc.of hx;rw[h3 l];exact hs.closed l hl c h1
theorem Uz{a:Aut}{cl:List Prd}{Q:List (List Int)}{m:Mv}:m∈V3 a cl Q↔∃n l,Q[n]? =some l∧m∈Ve a cl Q n l:=by
 unfold V3;rw[xL];constructor
 ·rintro⟨n,hn,hm⟩;have z1:=yL.1 hn;refine⟨n,Q[n],zD z1,?_⟩;simpa[yT,z1]using hm
 ·rintro⟨n,l,hl,hm⟩;have z1:=(zA.1 hl).1;refine⟨n,yL.2 z1,?_⟩;simpa[yT,hl]using hm
theorem D6{a:Aut}{cl:List Prd}{Q:List (List Int)}(hc:Cls a cl)(hs:Sub a cl Q){n:Nat}{l:List Int}(hl:Q[n]? =some l){x:Sy}(hx:Ww a x)(t:Nat):
  (∃m∈V3 a cl Q,m.src=(n:Int)∧m.dst=(t:Int)∧Rc m.on x=true)↔Q[t]? =some (Q0 a l x):=by
 have hg:=P0 (a:=a) (Q:=Q) n l hc.wf;have key:x0l Q (Q0 a l x)=some t↔Q[t]? =some (Q0 a l x):=⟨Gi,f0j hs.nd⟩
 rw[←key];constructor
 ·rintro⟨m,hm,h1,h2,h3⟩;obtain⟨n',l',hl',z6⟩:=Uz.1 hm;have z7:=P0 (a:=a) (Q:=Q) n' l' hc.wf;have:n'=n:=by have:=z7.src m z6;omega
  subst this;rw[hl]at hl';cases hl';rw[O6 (hg.wf m z6).1 x hx.1.1]at h3;obtain⟨c,z1,e1,e2⟩:=(hg.mem m z6 t h2 _ _).1 h3;rw[hc.same z1 hx e2];exact e1
 ·intro h;obtain⟨c,z1,e1,e2⟩:=hc.of hx;rw[e2]at h;obtain⟨m,hm,hd⟩:=hg.all t _ _ ⟨c,z1,h,e1⟩;refine⟨m,Uz.2 ⟨n,l,hl,hm⟩,hg.src m hm,hd,?_⟩;rw[O6 (hg.wf m hm).1 x hx.1.1];exact(hg.mem m hm t hd _ _).2 ⟨c,z1,h,e1⟩
theorem w18{a:Aut}{cl:List Prd}{Q:List (List Int)}(hc:Cls a cl)(hs:Sub a cl Q){n:Nat}{l:List Int}(hl:Q[n]? =some l){x:Sy}(hx:Ww a x):
  (Q0 a l x=[]∧Q0 (Y4 a cl Q) [(n:Int)] x=[])∨∃t:Nat,Q[t]? =some (Q0 a l x)∧Q0 (Y4 a cl Q) [(n:Int)] x=[(t:Int)]:=by
 have z1:∀j,j∈Q0 (Y4 a cl Q) [(n:Int)] x↔∃t:Nat,j=t∧Q[t]? =some (Q0 a l x):=fun j=>by
  rw[Wu];constructor
  ·rintro⟨⟨h1,h2⟩,m,hm,h3,h4,h5⟩;refine⟨j.toNat,by omega,(D6 hc hs hl hx j.toNat).1 ⟨m,hm,zI.1 h3,by omega,h4⟩⟩
  ·rintro⟨t,rfl,ht⟩;obtain⟨m,hm,h1,h2,h3⟩:=(D6 hc hs hl hx t).2 ht;have:=(zA.1 ht).1;exact⟨⟨by omega,by simp[Y4];omega⟩,m,hm,by rw[h1];simp,h3,h2⟩
 rcases hs.step hc (zF hl) hx with h0|h0
 ·refine .inl ⟨h0,wH.2 fun j hj=> ?_⟩;obtain⟨t,_,ht⟩:=(z1 j).1 hj;rw[h0]at ht;exact hs.ne _ (zF ht) rfl
 ·obtain⟨t,ht⟩:=yE.1 h0;refine .inr ⟨t,ht,Tp (Yf ..) (by simp) fun z=> ?_⟩;rw[z1 z];constructor
  ·rintro⟨u,rfl,hu⟩;obtain⟨h1,h2⟩:=zA.1 ht;obtain⟨h3,h4⟩:=zA.1 hu;have:u=t:=(ug hs.nd).1 (by rw[h4,h2]);simp[this]
  ·intro hz;exact⟨t,zI.1 hz,ht⟩
def I1(a:Aut)(l:List Int)(w:List Sy):List Int:=w.foldl (Q0 a) l
def Tx(a:Aut)(w:List Sy):Bool:=Iu a (I1 a [0] w)
theorem B2(a:Aut):∀w,I1 a [] w=[]
 |[]=>rfl
 |x::w=>by
  show I1 a (Q0 a [] x) w=[]
  have:Q0 a [] x=[]:=wH.2 fun j hj=>by obtain⟨_,m,_,h,_⟩:=Wu.1 hj;cases h
  rw[this,B2 a w]
theorem j0g{a:Aut}{cl:List Prd}{Q:List (List Int)}(hc:Cls a cl)(hs:Sub a cl Q):∀(w:List Sy),(∀x∈w,Ww a x)→∀(n:Nat) (l:List Int),Q[n]? =some l→
  (I1 a l w=[]∧I1 (Y4 a cl Q) [(n:Int)] w=[])∨∃t:Nat,Q[t]? =some (I1 a l w)∧I1 (Y4 a cl Q) [(n:Int)] w=[(t:Int)]
 |[],_,n,l,hl=> .inr ⟨n,hl,rfl⟩
 |x::w,hw,n,l,hl=>by
  show(I1 a (Q0 a l x) w=[]∧I1 (Y4 a cl Q) (Q0 (Y4 a cl Q) [(n:Int)] x) w=[])∨∃t:Nat,Q[t]? =some (I1 a (Q0 a l x) w)∧I1 (Y4 a cl Q) (Q0 (Y4 a cl Q) [(n:Int)] x) w=[(t:Int)]
  rcases w18 hc hs hl (hw x (by simp))with⟨h1,h2⟩|⟨t,h1,h2⟩
  ·rw[h1,h2];exact .inl ⟨B2 _ _,B2 _ _⟩
  ·rw[h2];exact j0g hc hs w (fun y hy=>hw y (by simp[hy])) t _ h1
theorem x16{a:Aut}{cl:List Prd}{Q:List (List Int)}(hc:Cls a cl)(hs:Sub a cl Q){w:List Sy}(hw:∀x∈w,Ww a x):Tx (Y4 a cl Q) w=Tx a w:=by
 unfold Tx;rcases j0g hc hs w hw 0 [0] hs.first with⟨h1,h2⟩|⟨t,h1,h2⟩
 ·have z1:I1 (Y4 a cl Q) [0] w=[]:=h2;rw[h1,z1];rfl
 ·have z1:I1 (Y4 a cl Q) [0] w=[(t:Int)]:=h2;rw[z1];simp only[Iu,Y4,List.any_cons,List.any_nil,Bool.or_false,Int.toNat_natCast,yT,zQ,h1,Option.map_some,Option.getD_some]
def Xd(a:Aut):Prop:=a.mv.Pairwise (fun m k=>m.src=k.src→∀x:Sy,Ww a x→¬(Rc m.on x=true∧Rc k.on x=true))
theorem z0l{a:Aut}{cl:List Prd}{Q:List (List Int)}(hc:Cls a cl)(hs:Sub a cl Q):Xd (Y4 a cl Q):=by
 unfold Xd;show(V3 a cl Q).Pairwise _;unfold V3;rw[vU];constructor
 ·intro n hn;have z1:=yL.1 hn;have hl:Q[n]? =some Q[n]:=zD z1;have hg:Q.getD n []=Q[n]:=by simp[yT,z1]
  rw[hg];have hi:=P0 (a:=a) (Q:=Q) n Q[n] hc.wf;refine hi.nd.imp_of_mem (fun {m k} hm hk hne _ x hx=> ?_);rintro⟨h1,h2⟩;obtain⟨t1,_,e1⟩:=hi.dst m hm;obtain⟨t2,_,e2⟩:=hi.dst k hk;have z6:Ww a x:=hx;have d1:=(D6 hc hs hl z6 t1).1 ⟨m,Uz.2 ⟨n,_,hl,hm⟩,hi.src m hm,e1,h1⟩;have d2:=(D6 hc hs hl z6 t2).1 ⟨k,Uz.2 ⟨n,_,hl,hk⟩,hi.src k hk,e2,h2⟩;obtain⟨p1,p2⟩:=zA.1 d1;obtain⟨p3,p4⟩:=zA.1 d2;have:t1=t2:=(ug hs.nd).1 (by rw[p2,p4]);exact hne (by rw[e1,e2,this])
 ·refine List.pairwise_lt_range.imp (fun {i j} hij m hm k hk e=> ?_);exfalso;have h1:∀n m,m∈Ve a cl Q n (Q.getD n [])→m.src=(n:Int):=fun n m hm=>(P0 (a:=a) (Q:=Q) n _ hc.wf).src m hm;have:=h1 i m hm;have:=h1 j k hk;omega
end Go.Abs
namespace Go.Abs
theorem Se{l:List Iv}(h:Sep l)(hb:∀n,M l n→inR n):Sep (W9 l)∧(∀n,M (W9 l) n↔inR n∧¬M l n)∧(W9 l).length≤l.length+1:=by
 have z1:∀x∈l,inR x.lo∧inR x.hi:=fun x hx=>⟨hb _ ⟨x,hx,yI _,h.1 x hx⟩,hb _ ⟨x,hx,h.1 x hx,yI _⟩⟩
 have:=Ux l (-1099511627776) (fun x hx=>⟨h.1 x hx,(z1 x hx).2.2⟩) h.2 (fun x hx=>(z1 x hx).1.1);exact⟨this.1,fun n=>by rw[W9,this.2.1,inR,and_assoc],this.2.2⟩
theorem D1{T:Nat}{p:Prd}(hp:PWf T p)(t:Nat)(n:Int):PM (W2 p) t n↔(t<T∧inR n)∧¬PM p t n:=by
 unfold PM W2;rw[zQ];constructor
 ·rintro⟨s,hs,hm⟩;obtain⟨a,ha,rfl⟩:=zN.1 hs;have hw:=hp.2 a (zF ha);have hg:=((Se hw.1 hw.2).2.1 n).1 hm;refine⟨⟨by rw[←hp.1];exact(zA.1 ha).1,hg.1⟩,?_⟩;rintro⟨b,hb,z1⟩;rw[ha]at hb;cases hb;exact hg.2 z1
 ·rintro⟨⟨h1,h2⟩,h3⟩;have hl:t<p.length:=by rw[hp.1];exact h1
  have hw:=hp.2 _ (zG hl);exact⟨W9 p[t],by rw[zD hl];rfl,((Se hw.1 hw.2).2.1 n).2 ⟨h2,fun hm=>h3 ⟨_,zD hl,hm⟩⟩⟩
theorem Ic{T:Nat}{p:Prd}(hp:PWf T p):PWf T (W2 p):=⟨by simp[W2,hp.1],fun s hs=>by
 obtain⟨a,ha,rfl⟩:=zK.1 hs;have hw:=hp.2 a ha;exact⟨(Se hw.1 hw.2).1,fun n hn=>(((Se hw.1 hw.2).2.1 n).1 hn).1⟩⟩
def Zu(T:Nat)(ps:List Prd):Prd:=(yD T).map fun i=>E6 (Q8 ps i)
theorem Kv{T:Nat}{ps:List Prd}(h:∀p∈ps,PWf T p)(i:Nat):∀x∈Q8 ps i,x.lo≤x.hi:=fun x hx=>by
 obtain⟨p,hp,hx⟩:=R5.1 hx;have hm:p.getD i []=[]∨p.getD i []∈p:=by
  by_cases hi:i<p.length
  ·exact .inr (by rw[Wx hi];exact zG hi)
  ·exact .inl (by simp[yT,hi])
 rcases hm with e|hm
 ·rw[e]at hx;cases hx
 ·exact((h p hp).2 _ hm).1.1 x hx
theorem H9{T:Nat}{ps:List Prd}(h:∀p∈ps,PWf T p)(t:Nat)(n:Int):PM (Zu T ps) t n↔∃p∈ps,PM p t n:=by
 unfold PM Zu;rw[zQ];constructor
 ·rintro⟨s,hs,hm⟩;obtain⟨i,hi,rfl⟩:=zN.1 hs;obtain⟨z6,e⟩:=zA.1 hi;rw[List.getElem_range]at e;subst e;obtain⟨x,hx,h1⟩:=((Y5 _ (Kv h t)).2 n).1 hm;obtain⟨p,hp,hx⟩:=R5.1 hx;have ht:t<T:=by simpa using z6
  have z1:t<p.length:=by rw[(h p hp).1];exact ht
  rw[Wx z1]at hx;exact⟨p,hp,p[t],zD z1,x,hx,h1⟩
 ·rintro⟨p,hp,s,hs,x,hx,h1⟩;obtain⟨z1,e⟩:=zA.1 hs;have ht:t<T:=by rw[←(h p hp).1];exact z1
  refine⟨E6 (Q8 ps t),by simp[ht],((Y5 _ (Kv h t)).2 n).2 ⟨x,R5.2 ⟨p,hp,?_⟩,h1⟩⟩;rw[Wx z1,e];exact hx
theorem G4{T:Nat}{ps:List Prd}(h:∀p∈ps,PWf T p):PWf T (Zu T ps):=by
 refine⟨by simp[Zu],fun s hs=> ?_⟩;obtain⟨i,hi,rfl⟩:=zK.1 hs;refine⟨(Y5 _ (Kv h i)).1,fun n hn=> ?_⟩;have:PM (Zu T ps) i n:=⟨E6 (Q8 ps i),by simp[Zu,yL.1 hi],hn⟩
 obtain⟨p,hp,hm⟩:=(H9 h i n).1 this;exact((h p hp).lt hm).2
theorem k1t{T:Nat}{c:Prd}(h:PWf T c):Zu T [c]=c:=
 Ft (G4 (by simpa using h)) h fun t n=>by rw[H9 (by simpa using h)];simp
theorem u1z{T:Nat}{p q:Prd}(hp:PWf T p)(hq:PWf T q):Zu T [p,q]=Rh p q:=by
 have h:∀x∈[p,q],PWf T x:=fun x hx=>by
  rcases zT.1 hx with rfl|hx
  ·exact hp
  ·obtain rfl:=zI.1 hx;exact hq
 exact Ft (G4 h) (Fy hp hq) fun t n=>by rw[H9 h,Gs hp hq];simp
def Mj(a:Aut)(s:Int):List Prd:=(a.mv.filter fun m=>decide (m.src=s)).map (·.on)
def Dh(a:Aut)(s:Int):Prd:=W2 (Zu a.types.toNat (Mj a s))
def Sk(a:Aut)(s:Int):Prd:=(Mj a s).foldl (fun r p=>We r (W2 p)) (Wf a.types.toNat)
structure WfA (a:Aut):Prop where
 types:1≤a.types∧a.types≤16
 fin:1≤a.fin.length
 src:∀m∈a.mv,0≤m.src∧m.src<a.fin.length
 dst:∀m∈a.mv,0≤m.dst∧m.dst<a.fin.length
 on:∀m∈a.mv,PWf a.types.toNat m.on
theorem OkA.wfA{a:Aut}(h:OkA a):WfA a:=⟨h.types,h.fin.1,fun m hm=>(h.mv m hm).src,fun m hm=>(h.mv m hm).dst,fun m hm=>(h.mv m hm).on.wf⟩
theorem Me{a:Aut}(h:WfA a)(s:Int):∀p∈Mj a s,PWf a.types.toNat p:=fun p hp=>by obtain⟨m,hm,rfl⟩:=zK.1 hp;exact h.on m (wI.1 hm).1
theorem L1{a:Aut}(h:WfA a)(s:Int)(t:Nat)(n:Int):PM (Dh a s) t n↔(t<a.types.toNat∧inR n)∧∀p∈Mj a s,¬PM p t n:=by rw[Dh,D1 (G4 (Me h s)),H9 (Me h s)];simp
theorem N7{a:Aut}(h:WfA a)(s:Int):PWf a.types.toNat (Dh a s):=Ic (G4 (Me h s))
theorem Ci{T:Nat}:∀(l:List Prd) (r:Prd),(∀p∈l,PWf T p)→PWf T r→PWf T (l.foldl (fun r p=>We r (W2 p)) r)∧
  ∀t n,PM (l.foldl (fun r p=>We r (W2 p)) r) t n↔PM r t n∧∀p∈l,¬PM p t n
 |[],r,_,hr=>⟨hr,fun t n=>by simp⟩
 |p::l,r,hl,hr=>by
  have hp:=hl p (by simp);obtain⟨h1,h2⟩:=Ci l (We r (W2 p)) (fun q hq=>hl q (by simp[hq])) (Yk hr (Ic hp).1);refine⟨h1,fun t n=> ?_⟩;rw[yV,h2,Re hr.1 (Ic hp).1,D1 hp];constructor
  ·rintro⟨⟨a,b,c⟩,d⟩;refine⟨a,fun q hq=> ?_⟩;rcases zT.1 hq with rfl|hq
   ·exact c
   ·exact d q hq
  ·rintro⟨a,d⟩;exact⟨⟨a,hr.lt a,d p (by simp)⟩,fun q hq=>d q (by simp[hq])⟩
theorem x1q{a:Aut}(h:WfA a)(s:Int):Sk a s=Dh a s:=by obtain⟨h1,h2⟩:=Ci (Mj a s) (Wf a.types.toNat) (Me h s) (Ko _);exact Ft h1 (N7 h s) fun t n=>by rw[Sk,h2,L1 h,Ds]
theorem Xs{a:Aut}(h:WfA a)(s:Int):Wk (Dh a s)=true↔∀t n,t<a.types.toNat→inR n→∃p∈Mj a s,PM p t n:=by
 rw[E3 (N7 h s)];constructor
 ·intro hv t n ht hn;have:=hv t n;rw[L1 h]at this;by_cases hc:∃p∈Mj a s,PM p t n
  ·exact hc
  ·exact absurd ⟨⟨ht,hn⟩,fun p hp hm=>hc ⟨p,hp,hm⟩⟩ this
 ·intro hv t n;rw[L1 h];rintro⟨⟨ht,hn⟩,hx⟩;obtain⟨p,hp,hm⟩:=hv t n ht hn;exact hx p hp hm
def Xx(a:Aut):Bool:=decide (256<a.fin.length) || decide (2048<a.mv.length) || a.mv.any fun m=>m.on.any fun s=>decide (256<s.length)
theorem c1c{a:Aut}(h:WfA a):Wj a=0↔Xx a=false:=by
 rw[Ob];unfold Xx;simp only[Bool.or_eq_false_iff,decide_eq_false_iff_not,wT,decide_eq_true_eq];constructor
 ·rintro⟨h1,h2,h3,h4⟩;exact⟨⟨by omega,by omega⟩,fun m hm=>by
   simp only[ur,wT,decide_eq_true_eq];exact fun s hs=>by have:=((h4 m hm).on.2 s hs).len;omega⟩
 ·rintro⟨⟨h1,h2⟩,h3⟩;refine⟨h.types,⟨h.fin,by omega⟩,by omega,fun m hm=>⟨h.src m hm,h.dst m hm,(h.on m hm).1,fun s hs=> ?_⟩⟩;have hw:=(h.on m hm).2 s hs;have:=h3 m hm;simp only[ur,wT,decide_eq_true_eq]at this;exact Xl hw.1 (g0c hw.1 hw.2) (by have:=this s hs;omega)
def d0b(a:Aut):Int×Aut:=if Xx a then(5,Ou)else(0,a)
def w25(a:Aut):Int×Aut:=if Wj a≠0 then(5,Ou)else(0,a)
theorem c1a{a c:Aut}(h:WfA a)(hl:d0b a=(0,c)):c=a∧OkA a:=by
 unfold d0b at hl;cases hb:Xx a
 ·rw[hb,if_neg (by simp)]at hl;exact⟨(Prod.mk.inj hl).2.symm,(Ob a).1 ((c1c h).2 hb)⟩
 ·rw[hb,if_pos rfl]at hl;cases(Prod.mk.inj hl).1
end Go.Abs
namespace Go.Abs
def Bb(a:Aut)(lack:Int→Prd):List Mv:=(yD a.fin.length).filterMap fun s:Nat=>if Wk (lack s)then none else some ⟨s,a.fin.length,lack s⟩
def x2h(a:Aut):Aut:=⟨a.types,a.fin++[false],a.mv++Bb a (Dh a)++[⟨a.fin.length,a.fin.length,Wf a.types.toNat⟩]⟩
def x0o(a:Aut):Int×Aut:=if(Bb a (Dh a)).isEmpty then(0,a)else d0b (x2h a)
def Px(a:Aut):Bool:=(yD a.fin.length).all fun s:Nat=>Wk (Sk a s)
def v2c(a:Aut):Int×Aut:=if Px a then(0,a)else w25 ⟨a.types,a.fin++[false],a.mv++Bb a (Sk a)++[⟨a.fin.length,a.fin.length,Wf a.types.toNat⟩]⟩
theorem X3{a:Aut}{lack:Int→Prd}{m:Mv}:m∈Bb a lack↔∃s:Nat,s<a.fin.length∧Wk (lack s)=false∧m=⟨s,a.fin.length,lack s⟩:=by
 unfold Bb;rw[wL];constructor
 ·rintro⟨s,hs,h⟩;cases hv:Wk (lack s)
  ·rw[hv,if_neg (by simp)]at h;cases h;exact⟨s,yL.1 hs,hv,rfl⟩
  ·rw[hv,if_pos rfl]at h;cases h
 ·rintro⟨s,hs,hv,rfl⟩;exact⟨s,yL.2 hs,by rw[hv,if_neg (by simp)]⟩
theorem C4{a:Aut}{lack:Int→Prd}:Bb a lack=[]↔∀s:Nat,s<a.fin.length→Wk (lack s)=true:=by
 rw[wH];constructor
 ·intro h s hs;cases hv:Wk (lack s)
  ·exact absurd (X3.2 ⟨s,hs,hv,rfl⟩) (h _)
  ·rfl
 ·intro h m hm;obtain⟨s,hs,hv,_⟩:=X3.1 hm;rw[h s hs]at hv;cases hv
def w1v(a:Aut):Prop:=∀s:Int,0≤s→s<a.fin.length→∀x,Ww a x→∃m∈a.mv,m.src=s∧Rc m.on x=true
theorem y1a{a:Aut}{x:Sy}(h:Ww a x):x.ty.toNat<a.types.toNat∧inR x.num∧0≤x.ty:=⟨by have:=h.1;omega,h.2,h.1.1⟩
theorem Ua{a:Aut}(h:WfA a){m:Mv}(hm:m∈a.mv){x:Sy}(hx:Ww a x):Rc m.on x=true↔PM m.on x.ty.toNat x.num:=O6 (h.on m hm).1 x hx.1.1
theorem j0p{a:Aut}{s:Int}{p:Prd}:p∈Mj a s↔∃m∈a.mv,m.src=s∧m.on=p:=by
 unfold Mj;rw[zK];constructor
 ·rintro⟨m,hm,e⟩;have:=wI.1 hm;exact⟨m,this.1,by simpa using this.2,e⟩
 ·rintro⟨m,hm,hs,e⟩;exact⟨m,wI.2 ⟨hm,by simpa using hs⟩,e⟩
theorem q1i{a:Aut}(h:WfA a):Bb a (Dh a)=[]↔w1v a:=by
 rw[C4];constructor
 ·intro hv s h0 h1 x hx;have hs:=hv s.toNat (by omega);rw[show((s.toNat:Nat):Int)=s by omega,Xs h]at hs;obtain⟨k1,k2,_⟩:=y1a hx;obtain⟨p,hp,hm⟩:=hs _ _ k1 k2;obtain⟨m,z1,e,rfl⟩:=j0p.1 hp;exact⟨m,z1,e,(Ua h z1 hx).2 hm⟩
 ·intro hf s hs;rw[Xs h];intro t n ht hn;have hx:Ww a ⟨t,n⟩:=⟨⟨by simp,by simp only;omega⟩,hn⟩
  obtain⟨m,hm,e,hh⟩:=hf s (by omega) (by omega) _ hx;exact⟨m.on,j0p.2 ⟨m,hm,e,rfl⟩,by have:=(Ua h hm hx).1 hh;simpa using this⟩
theorem runIn{a:Aut}:∀(w:List Sy) (l:List Int),(∀j∈l,0≤j∧j<a.fin.length)→∀j∈I1 a l w,0≤j∧j<a.fin.length
 |[],_,hl=>hl
 |x::w,_,_=>runIn w _ (fun _ hj=>Yg _ hj)
theorem k1j{a:Aut}(h:WfA a):∀j∈[(0:Int)],0≤j∧j<a.fin.length:=fun j hj=>by obtain rfl:=zI.1 hj;have:=h.fin;omega
theorem d0w{a:Aut}{l:List Int}:Iu a l=true↔∃s∈l,a.fin.getD s.toNat false=true:=by rw[Iu,wQ]
end Go.Abs
namespace Go.Abs
def Ye(T:Int):List Prd→Int
 |[]=>0
 |p::r=>if E8 T p≠0 then E8 T p else Ye T r
def A0(L:List Prd):Bool:=decide (256<L.length) || L.any fun p=>p.any fun s=>decide (256<s.length)
def R0(T:Int)(l:List Prd):Int×List Prd:=if T<1∨16<T then(2,[])else if 256<l.length then(5,[])else if Ye T l≠0 then(Ye T l,[])else
 if A0 (W7 T.toNat l)then(5,[])else(0,W7 T.toNat l)
def Zk(T:Int)(l:List Prd):Int×List Prd:=if T<1∨16<T then(2,[])else if 256<l.length then(5,[])else if Ye T l≠0 then(Ye T l,[])else
 if A0 (Qx T.toNat l)then(5,[])else(0,Qx T.toNat l)
theorem Uq{T:Int}:∀(l:List Prd),Ye T l=0↔∀p∈l,E8 T p=0
 |[]=>by simp[Ye]
 |p::r=>by
  rw[Ye];by_cases h:E8 T p=0
  ·rw[if_neg (fun k=>k h),Uq r];simp[h]
  ·rw[if_pos h];exact⟨fun k=>absurd k h,fun k=>absurd (k p (by simp)) h⟩
theorem x0z(T:Int)(l:List Prd):Zk T l=R0 T l:=by
 unfold Zk R0;split
 ·rfl
 ·rename_i hT;split
  ·rfl
  ·split
   ·rfl
   ·rename_i hc;have z1:∀p∈l,PCk T.toNat p:=fun p hp=>((Ed T p).1 ((Uq l).1 (by simpa using hc) p hp)).2;rw[Sb (by omega) z1]
theorem x06{T:Int}(hT:1≤T∧T≤16){l:List Prd}(hl:∀p∈l,PCk T.toNat p):(R0 T l).1=5∨R0 T l=(0,Qx T.toNat l):=by
 unfold R0;have hc:Ye T l=0:=(Uq l).2 fun p hp=>(Ed T p).2 ⟨hT,hl p hp⟩;rw[if_neg (by omega)];split
 ·exact .inl rfl
 ·rw[if_neg (by simp[hc])];split
  ·exact .inl rfl
  ·exact .inr (by rw[Sb (by omega) hl])
def onA(a:Aut):List Prd:=a.mv.map (·.on)
def Ol(a:Aut):Int×List Prd×List (List Int):=if Wj a≠0 then(Wj a,[],[])else
 if(R0 a.types (onA a)).1≠0 then((R0 a.types (onA a)).1,[],[])else
 match G9 a (R0 a.types (onA a)).2 with
 |none=>(5,[],[])
 |some Q=>(0,(R0 a.types (onA a)).2,Q)
def Rz(a:Aut):Int×Aut:=if(Ol a).1≠0 then((Ol a).1,Ou)else d0b (Y4 a (Ol a).2.1 (Ol a).2.2)
def y2l(a:Aut):Int×Aut:=if Wj a≠0 then(Wj a,Ou)else x0o a
def w2a(a:Aut):Aut:={ a with fin:=a.fin.map (!·) }
def v2e(a:Aut):Int×Aut:=if(Rz a).1≠0 then((Rz a).1,Ou)else if(x0o (Rz a).2).1≠0 then((x0o (Rz a).2).1,Ou)else(0,w2a (x0o (Rz a).2).2)
theorem Ja{a:Aut}(h:OkA a):∀p∈onA a,PCk a.types.toNat p:=fun p hp=>by obtain⟨m,hm,rfl⟩:=zK.1 hp;exact(h.mv m hm).on
theorem Xy{a:Aut}(h:OkA a):Ol a=(5,[],[])∨∃Q,Ol a=(0,Qx a.types.toNat (onA a),Q)∧G9 a (Qx a.types.toNat (onA a))=some Q∧Sub a (Qx a.types.toNat (onA a)) Q∧Cls a (Qx a.types.toNat (onA a)):=by
 unfold Ol;rw[if_neg (fun k=>k ((Ob a).2 h))];rcases x06 h.types (Ja h)with hm|hm
 ·rw[if_pos (by rw[hm];decide),hm];exact .inl rfl
 ·rw[hm,if_neg (by simp)];cases hs:G9 a (Qx a.types.toNat (onA a))with
  |none=>exact .inl rfl
  |some Q=>exact .inr ⟨Q,rfl,rfl,v0q h hs,y1z h⟩
theorem v0c{a:Aut}(h:Wj a≠0):Ol a=(Wj a,[],[]):=if_pos h
theorem Sf{a:Aut}{cl:List Prd}{Q:List (List Int)}(hc:Cls a cl){m:Mv}(hm:m∈V3 a cl Q):(∃n:Nat,n<Q.length∧m.src=n)∧(∃t:Nat,t<Q.length∧m.dst=t)∧PWf a.types.toNat m.on:=by obtain⟨n,l,hl,hg⟩:=Uz.1 hm;have hi:=P0 (a:=a) (Q:=Q) n l hc.wf;exact⟨⟨n,(zA.1 hl).1,hi.src m hg⟩,hi.dst m hg,hi.wf m hg⟩
theorem c1z{a:Aut}{cl:List Prd}{Q:List (List Int)}(hc:Cls a cl)(hs:Sub a cl Q):WfA (Y4 a cl Q):=by
 have h0:=(zA.1 hs.first).1;have hl:(Y4 a cl Q).fin.length=Q.length:=by simp[Y4]
 refine⟨hc.ok.types,by omega,fun m hm=> ?_,fun m hm=> ?_,fun m hm=>(Sf hc hm).2.2⟩
 ·obtain⟨⟨n,h1,h2⟩,_⟩:=Sf hc hm;rw[hl,h2];omega
 ·obtain⟨_,⟨n,h1,h2⟩,_⟩:=Sf hc hm;rw[hl,h2];omega
theorem I5{a d:Aut}(h:OkA a)(hd:Rz a=(0,d)):∃Q,G9 a (Qx a.types.toNat (onA a))=some Q∧Sub a (Qx a.types.toNat (onA a)) Q∧Cls a (Qx a.types.toNat (onA a))∧
  Ol a=(0,Qx a.types.toNat (onA a),Q)∧d=Y4 a (Qx a.types.toNat (onA a)) Q∧OkA d∧Xd d∧d.types=a.types∧∀w,(∀x∈w,Ww a x)→Tx d w=Tx a w:=by
 unfold Rz at hd;rcases Xy h with hs|⟨Q,hs,hq,z1,z6⟩
 ·rw[hs,if_pos (by decide)]at hd;cases(Prod.mk.inj hd).1
 ·rw[hs,if_neg (by simp)]at hd;obtain⟨rfl,hk⟩:=c1a (c1z z6 z1) hd;exact⟨Q,hq,z1,z6,hs,rfl,hk,z0l z6 z1,rfl,fun w hw=>x16 z6 z1 hw⟩
theorem q1h{a:Aut}(hw:WfA a)(hd:Xd a)(hf:w1v a){s:Int}(h0:0≤s)(h1:s<a.fin.length){x:Sy}(hx:Ww a x):∃t:Int,0≤t∧t<a.fin.length∧Q0 a [s] x=[t]:=by
 obtain⟨m,hm,e,hh⟩:=hf s h0 h1 x hx;refine⟨m.dst,(hw.dst m hm).1,(hw.dst m hm).2,Tp (Yf ..) (by simp) fun z=> ?_⟩;rw[Wu];constructor
 ·rintro⟨_,k,hk,h2,h3,h4⟩;obtain h2:=zI.1 h2;have:k=m∨k.dst=m.dst:=by
   obtain⟨i,hi⟩:=yE.1 hm;obtain⟨j,hj⟩:=yE.1 hk;obtain⟨z7,z1⟩:=zA.1 hi;obtain⟨z8,z6⟩:=zA.1 hj;by_cases hij:i=j
   ·subst hij;left;rw[←z1,←z6]
   ·exfalso;rcases uh hij with hlt|hgt
    ·have:=yC.1 hd i j z7 z8 hlt;rw[z1,z6]at this;exact this (by rw[e,h2]) x hx ⟨hh,h3⟩
    ·have:=yC.1 hd j i z8 z7 hgt;rw[z1,z6]at this;exact this (by rw[e,h2]) x hx ⟨h3,hh⟩
  rcases this with rfl|this
  ·rw[←h4];simp
  ·rw[←h4,this];simp
 ·intro hz;obtain rfl:=zI.1 hz;exact⟨hw.dst m hm,m,hm,by rw[e];simp,hh,rfl⟩
theorem c0i{a:Aut}{cl:List Prd}(hc:Cls a cl){c:Prd}(hm:c∈cl):Ww a (Qn c):=by have h:=(Wy (hc.wf c hm).1 (hc.wf c hm).2).1;have h2:=(hc.wf c hm).1.lt h;exact⟨⟨by simp[Qn],by simp only[Qn];omega⟩,h2.2⟩
end Go.Abs
namespace Go.Abs
def y11(p:Prd):Bool:=decide (p.length≤4) && p.all fun s=>decide (s.length≤12)
def x0n(a:Aut):Bool:=decide (a.fin.length≤8) && decide (a.mv.length≤16) && a.mv.all fun m=>y11 m.on
theorem Kr{p:Prd}:y11 p=true↔p.length≤4∧∀s∈p,s.length≤12:=by simp[y11]
theorem Ms{a:Aut}:x0n a=true↔a.fin.length≤8∧a.mv.length≤16∧∀m∈a.mv,m.on.length≤4∧∀s∈m.on,s.length≤12:=by simp only[x0n,Bool.and_eq_true,decide_eq_true_eq,zP,Kr,and_assoc]
theorem w14(l:List Iv):(E6 l).length≤l.length:=by have h1:=Rk (Eo l) [];have h2:=(Ip l).1.length_eq;rw[E6];simp at h1;omega
theorem d0h{l:List Iv}(h:Sep l)(hb:∀n,M l n→inR n):(W9 l).length≤l.length+1:=(Se h hb).2.2
theorem x04(T:Nat):∀x∈Wf T,x.length=1:=fun x hx=>by obtain rfl:=wA hx;rfl
def y29(a:Aut)(l:List Int)(x:Sy):Int×List Int:=if Wj a≠0 then(Wj a,[])else if 256<l.length then(5,[])else
 if l.any (fun s=>decide (s<0) || decide ((a.fin.length:Int)≤s))then(6,[])else if Ga a.types x≠0 then(Ga a.types x,[])else(0,Q0 a l x)
theorem V8{n:Nat}{l:List Int}(h:l.Pairwise (·<·))(hr:∀s∈l,0≤s∧s<n):l.length≤n:=by
 have he:l=(Wt n).filter fun z=>decide (z∈l):=Tp h ((Z0 n).filter _) fun z=>by rw[wI,Wz];exact⟨fun hz=>⟨hr z hz,by simpa using hz⟩,fun hz=>by simpa using hz.2⟩
 have h1:=vE (fun z=>decide (z∈l)) (Wt n);rw[←he]at h1;simpa[Wt]using h1
theorem L0{a:Aut}(h:OkA a)(l:List Int)(x:Sy):(Q0 a l x).length≤256:=by have:=V8 (Yf a l x) Yg;have:=h.fin;omega
def Mn(p q:Prd):Bool:= !Wk (We p q)
def K8(a:Aut):Bool:=(yD a.mv.length).all fun i=>(yD i).all fun k=> !(decide ((a.mv.getD i default).src=(a.mv.getD k default).src) && Mn (a.mv.getD i default).on (a.mv.getD k default).on)
theorem Lj{T:Nat}{p q:Prd}(hp:PWf T p)(hq:PWf T q):Mn p q=true↔∃t n,PM p t n∧PM q t n:=by
 unfold Mn;cases hv:Wk (We p q)
 ·simp only[Bool.not_false,true_iff];apply Classical.byContradiction;intro hn;have:=(E3 (Yk hp hq.1)).2 (fun t n hm=>hn ⟨t,n,(Re hp.1 hq.1 t n).1 hm⟩);rw[hv]at this;cases this
 ·simp only[Bool.not_true,Bool.false_eq_true,false_iff];rintro⟨t,n,hm⟩;exact(E3 (Yk hp hq.1)).1 hv t n ((Re hp.1 hq.1 t n).2 hm)
theorem Nh{a:Aut}(h:WfA a):K8 a=true↔Xd a:=by
 unfold K8 Xd;rw[zP,yC];have hg:∀(i:Nat) (hi:i<a.mv.length),a.mv.getD i default=a.mv[i]:=fun i hi=>by simp[yT,hi]
 constructor
 ·intro hs i j hi hj z6 e x hx;rintro⟨h1,h2⟩;have:=hs j (yL.2 hj);rw[zP]at this;have:=this i (yL.2 z6);rw[hg j hj,hg i hi,e]at this;have hc:Mn a.mv[j].on a.mv[i].on=true:=(Lj (h.on _ (zG hj)) (h.on _ (zG hi))).2 ⟨_,_,(Ua h (zG hj) hx).1 h2,(Ua h (zG hi) hx).1 h1⟩;rw[hc]at this;simp at this
 ·intro hd i hi;have hi:=yL.1 hi;rw[zP];intro k hk;have hk:=yL.1 hk;have z1:k<a.mv.length:=by omega
  rw[hg i hi,hg k z1];by_cases e:a.mv[i].src=a.mv[k].src
  ·cases hc:Mn a.mv[i].on a.mv[k].on
   ·simp
   ·exfalso;obtain⟨t,n,h1,h2⟩:=(Lj (h.on _ (zG hi)) (h.on _ (zG z1))).1 hc;have hb:=(h.on _ (zG hi)).lt h1;have hx:Ww a ⟨t,n⟩:=⟨⟨by simp,by simp only;omega⟩,hb.2⟩
    exact hd k i z1 hi hk e.symm ⟨t,n⟩ hx ⟨(Ua h (zG z1) hx).2 (by simpa using h2),(Ua h (zG hi) hx).2 (by simpa using h1)⟩
  ·simp[e]
end Go.Abs
