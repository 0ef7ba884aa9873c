/- Part Sd of the proof: an abstract machine over the model, and what the functions of the program hand back in its terms. No condition. -/
import Derived.Test.YtjmkolhkojgjpaaGreatDoorSc
import Derived.Test.YtjmkolhkojgjpaaGreatDoorSb
set_option linter.all false
open List renaming eq_nil_or_concat→x_,concat_eq_append→wd,getLast?_append→uI,getLast?_singleton→uw,dropLast_concat→uJ,mem_append→zO,foldl_cons→xB,length_cons→yB,length_take→yY,take_succ_eq_append_getElem→zJ,take_of_length_le→zM,map_take→yP,map_drop→yQ,take_length→zX,take_append_drop→xM,mem_cons→zU,getElem?_append_right→zC,getElem_of_mem→yH,getElem_mem→zG,any_eq_true→wR,any_eq_false→wU,replicate→zT,cons_append→vB,length_filter_le→vE,perm_middle→vv,pairwise_append→zZ,pairwise_cons→z_,pairwise_iff_getElem→yC,getElem_take→uW,pairwise_mergeSort→vS,mem_mergeSort→uT,mem_flatMap→xL,mem_filterMap→wM,countP_cons→wT,countP_eq_zero→uN,map_cons→yK,sum_cons→uu,getElem?_eq_some_iff→zA,mem_of_getElem?→zD,getElem?_eq_getElem→zF,perm_ext_iff_of_nodup→uo,zipWith→tx,getElem?_replicate→vw,eq_of_mem_replicate→wB,getElem?_zipWith→wO,mem_iff_getElem?→yE,getElem?_map→zQ,all_eq_true→zP,mem_singleton→zK,pairwise_flatMap→vT,range→yD,getD→yR,getElem?_set_self→zH,getElem?_set_ne→zB,mem_cons_of_mem→uK,map_congr_left→xP,mem_map→zN,mem_range→yJ,pairwise_map→xO,mem_filter→wK,mem_append_left→y_,findIdx?_eq_some_iff_getElem→wp,getElem_inj→uf,getElem?_append_left→zE,eq_nil_iff_forall_not_mem→wJ
open Option renaming some_or→t6,map_eq_some_iff→zL
open Nat renaming le_refl→zI,le_trans→yO,lt_trichotomy→vZ,lt_or_gt_of_ne→ug
open Bool renaming eq_iff_iff→yV,not_eq_true→up
open Int renaming le_refl→yG,lt_trichotomy→t7
set_option maxHeartbeats 2000000
set_option linter.unusedSimpArgs false
set_option maxRecDepth 100000
namespace Go.Abs
open Go Go.Proofs
def q2w:List Iv→Int
 |[]=>0
 |x::r=>if(Ax x != 0)=true then Ax x else q2w r
def Q1(acc l:List Iv):List Iv:=l.foldl W3 acc
def j0z(l:List Iv):Int:=if decide ((256:Int)<l.length)=true then 5 else q2w l
def y2x(l:List Iv)(r:AV):Prop:=(j0z l≠0∧r= .tup [.list [],.i (j0z l)])∨(j0z l=0∧l.length≤256∧q2w l=0∧∃l':List Iv,l'.Perm l∧B4 l'∧r= .tup [LIv (Q1 [] l'),.i 0])
theorem Vt{x:Iv}(h:Ax x=0):O4 x∧x.lo≤x.hi:=by
 unfold Ax at h;by_cases h1:(!inB x.lo || !inB x.hi)=true
 ·rw[if_pos h1]at h;cases h
 ·rw[if_neg h1]at h;by_cases h2:decide (x.hi<x.lo)=true
  ·rw[if_pos h2]at h;cases h
  ·exact⟨by simpa[O4]using h1,by simpa using h2⟩
theorem u1x{acc:List Iv}{x:Iv}(ha:∀y∈acc,O4 y)(hx:O4 x):∀y∈W3 acc x,O4 y:=by
 rcases x_ acc with rfl|⟨ini,z,rfl⟩
 ·simpa[W3]using hx
 ·have hz:=ha z (by simp);have hi:∀y∈ini,O4 y:=fun y hy=>ha y (by simp[hy]);intro y hy;simp only[W3,wd,uI,uw,t6,uJ]at hy;split at hy
  ·rcases zO.1 hy with h|h
   ·exact hi y h
   ·simp at h;subst h;refine⟨hz.1,?_⟩;simp only;split
    ·exact hx.2
    ·exact hz.2
  ·rcases zO.1 hy with h|h
   ·rcases zO.1 h with h|h
    ·exact hi y h
    ·simp at h;subst h;exact hz
   ·simp at h;subst h;exact hx
theorem d0q(acc:List Iv)(x:Iv):(W3 acc x).length≤acc.length+1:=by
 rcases x_ acc with rfl|⟨ini,z,rfl⟩
 ·simp[W3]
 ·simp only[W3,wd,uI,uw,t6,uJ];split<;>simp
theorem Ov(acc l:List Iv)(x:Iv):Q1 acc (l++[x])=W3 (Q1 acc l) x:=by simp[Q1]
theorem Rl:∀(l acc:List Iv),(Q1 acc l).length≤acc.length+l.length
 |[],acc=>by simp[Q1]
 |x::r,acc=>by have:=Rl r (W3 acc x);have:=d0q acc x;simp only[Q1,xB,yB]at *;omega
theorem O8:∀(l acc:List Iv),(∀y∈acc,O4 y)→(∀y∈l,O4 y)→∀y∈Q1 acc l,O4 y
 |[],acc,h,_=>by simpa[Q1]using h
 |x::r,acc,h,hl=>O8 r (W3 acc x) (u1x h (hl x (by simp))) (fun y hy=>hl y (by simp[hy]))
attribute [local irreducible] Ax
end Go.Abs
namespace Go.Abs
open Go Go.Proofs
def j1x(s:List Iv)(j:Nat)(x:Iv):Bool:=match s[j]? with|some y=>decide (x.lo<y.lo)|none=>false
def Tz(s:List Iv)(x:Iv):Nat→Nat
 |0=>0
 |j+1=>if j1x s j x=true then Tz s x j else j+1
def Z3(s:List Iv)(x:Iv):List Iv:=s.take (Tz s x s.length)++x::s.drop (Tz s x s.length)
def Em(l:List Iv):List Iv:=l.foldl Z3 []
theorem Gm(s:List Iv)(x:Iv):∀j,Tz s x j≤j
 |0=>zI _
 |j+1=>by
  rw[Tz];split
  ·exact Nat.le_succ_of_le (Gm s x j)
  ·exact zI _
theorem c0l(s:List Iv)(x:Iv):(Z3 s x).length=s.length+1:=by have:=Gm s x s.length;simp[Z3];omega
theorem w0u(l:List Iv)(x:Iv):Em (l++[x])=Z3 (Em l) x:=by simp[Em]
theorem Kj:∀(l acc:List Iv),(l.foldl Z3 acc).length=acc.length+l.length
 |[],acc=>by simp
 |x::r,acc=>by rw[xB,Kj r,c0l,yB];omega
theorem F8(l:List Iv):(Em l).length=l.length:=by rw[Em,Kj];simp
theorem x01(l:List Iv)(hl:l.length≤1000000000):PC Tryz.prog 297 [LIv l] (fun r=>r=LIv (Em l)):=by
 refine Qh tOk Tryz.func297 rfl Tryz.results297 rfl (by simp[Tryz.ntmps297]) ?_;rw[Tryz.ntmps297];simp only[Qe];repeat first|(refine r_ ?_;simp)|refine q_ ?_
 refine Nq 3 rfl ?_;simp;refine Qr l.length (fun _=>True) (fun j=>[(0,LIv l),(3,LIv (Em (l.take j))),(4,.i j)]) (fun _=>[]) rfl (by simp) (by simp[Em]) (by simp) (by simp) trivial ?_;intro j hj _ ih;obtain⟨s,hs⟩:∃s,Em (l.take j)=s:=⟨_,rfl⟩
 have zj:s.length=j:=by rw[←hs,F8,yY];omega
 rw[hs];repeat first|(refine r_ ?_;simp)|refine q_ ?_
 refine Qa rfl (fun zd=> ?_) (fun ze=> ?_)
 ·have z1:j<l.length:=by simpa using zd
  have hw:IntKind.i64.wrap ((j:Int)+1)=j+1:=wrap_i64 _ (by omega) (by omega);have za:Em (l.take (j+1))=Z3 s l[j]:=by rw[zJ z1,w0u,hs]
  repeat first|(refine r_ ?_;simp)|refine q_ ?_
  obtain⟨q,hq⟩:∃q,Tz s l[j] s.length=q:=⟨_,rfl⟩
  refine Ql (Qb (sl':=[(0,LIv l),(3,LIv s),(4,.i j),(5,.i s.length)]) ?_ (by simp));refine Qm (F:=fun(u:Nat)=>⟨[(0,LIv l),(3,LIv s),(4,.i j),(5,.i u)],[]⟩) (fun u=>u≤s.length∧Tz s l[j] u=q) (fun u=>u) ?_ s.length ⟨zI _,hq⟩;rintro u ⟨hu,hI⟩ ih2;repeat first|(refine r_ ?_;simp)|refine q_ ?_
  rcases u with _|u
  ·have zf:IntKind.i64.wrap (-1)= -1:=by decide
   refine Qj tOk mixed [] (.val 0 (.val 1 (.val 2 (.val 3 (.val 4 (.val 5 (.val 6 (.val 7 (.val 8 (.val 9 (.val 10 (.val 11 (.val 12 (.val 13 (.val 14 (.val 15 (.done))))))))))))))))) rfl (by kernel_rfl) ?_;simp[zf,z1];refine Qs rfl ?_;repeat first|(refine r_ ?_;simp)|refine q_ ?_
   have zg:q=0:=hI.symm;subst zg;refine Qf tOk rfl rfl Ai rfl Hc rfl (by decide) (by decide) rfl rfl rfl ?_;simp[z1];refine⟨by simp[Wu,z1]<;>omega,?_⟩;repeat first|(refine r_ ?_;simp[z1,z1])|refine q_ ?_
   refine Qf tOk rfl rfl Ai rfl Hc rfl (by decide) (by decide) rfl rfl rfl ?_;simp[z1];refine⟨by simp[Wu,z1]<;>omega,?_⟩;repeat first|(refine r_ ?_;simp[z1,z1])|refine q_ ?_
   refine Qf tOk rfl rfl Ai rfl Hc rfl (by decide) (by decide) rfl rfl rfl ?_;simp[z1];refine⟨by simp[Wu,z1]<;>omega,?_⟩;repeat first|(refine r_ ?_;simp[z1,hw])|refine q_ ?_
   refine S8 4 rfl ?_;simp[z1];refine Qo _ (ih z1 trivial) rfl (by simp) ?_ (by simp) (by simp);rw[za];simp;rw[zM (by simp;omega)];rw[if_pos (by omega)]
   subst_vars
   simp[Z3, *]
  ·have zb:u<s.length:=by omega
   have zc:IntKind.i64.wrap (u:Int)=u:=wrap_i64 _ (by omega) (by omega);have zh:(u:Int)<s.length:=by omega
   have zi:j1x s u l[j]=decide (l[j].lo<s[u].lo):=by simp[j1x,zb]
   rw[Tz,zi]at hI;refine Qj tOk mixed [] (.val 0 (.val 1 (.val 2 (.val 3 (.val 4 (.val 5 (.val 6 (.val 7 (.val 8 (.val 9 (.val 10 (.val 11 (.val 12 (.val 13 (.val 14 (.val 15 (.done))))))))))))))))) rfl (by kernel_rfl) ?_;simp[zb,z1,zc,zh];refine Qa rfl (fun h1=> ?_) (fun h1=> ?_)
   ·rw[if_pos h1]at hI;repeat first|(refine r_ ?_;simp[zc])|refine q_ ?_
    exact Qb (sl':=[(0,LIv l),(3,LIv s),(4,.i j),(5,.i u)]) (ih2 u ⟨by omega,hI⟩ (by omega)) (by simp)
   ·rw[if_neg (by simpa using h1)]at hI;have z6:(u:Int)+1≤s.length:=by omega
    have z7:(0:Int)≤(u:Int)+1:=by omega
    repeat first|(refine r_ ?_;simp[z6,z7])|refine q_ ?_
    refine Qf tOk rfl rfl Ai rfl Hc rfl (by decide) (by decide) rfl rfl rfl ?_;simp[z6,z7,-yP,←yP,-yQ,←yQ];refine⟨by simp[Wu,z6,z7,-yP,←yP,-yQ,←yQ]<;>omega,?_⟩;repeat first|(refine r_ ?_;simp[z1,z6,z7,-yP,←yP,-yQ,←yQ])|refine q_ ?_
    refine Qf tOk rfl rfl Ai rfl Hc rfl (by decide) (by decide) rfl rfl rfl ?_;simp[z6,z7,-yP,←yP,-yQ,←yQ];refine⟨by simp[Wu,z6,z7,-yP,←yP,-yQ,←yQ]<;>omega,?_⟩;repeat first|(refine r_ ?_;simp[z1,z6,z7,-yP,←yP,-yQ,←yQ])|refine q_ ?_
    refine Qf tOk rfl rfl Ai rfl Hc rfl (by decide) (by decide) rfl rfl rfl ?_;simp[z6,z7,-yP,←yP,-yQ,←yQ];refine⟨by simp[Wu,z6,z7,-yP,←yP,-yQ,←yQ]<;>omega,?_⟩;repeat first|(refine r_ ?_;simp[z6,z7,-yP,←yP,-yQ,←yQ,hw])|refine q_ ?_
    refine S8 4 rfl ?_;simp[z6,z7,-yP,←yP,-yQ,←yQ];refine Qo _ (ih z1 trivial) rfl (by simp) ?_ (by simp) (by simp);rw[za];simp;rw[zM (by simp;omega)];rw[if_pos (by omega)]
    subst_vars
    simp[Z3, *]
 ·have z8:j=l.length:=by simp at ze;omega
  subst z8;repeat first|(refine r_ ?_;simp)|refine q_ ?_
  rw[←hs,zX]
end Go.Abs
namespace Go.Abs
open Go Go.Proofs
def E6(l:List Iv):List Iv:=Q1 [] (Em l)
theorem Ee(ini:List Iv)(y x:Iv):W3 (ini++[y]) x=if x.lo≤y.hi+1 then ini++[⟨y.lo,if y.hi<x.hi then x.hi else y.hi⟩]else ini++[y]++[x]:=by simp[W3]
theorem q1e(s:List Iv)(x y:Iv):y∈Z3 s x↔y=x∨y∈s:=by
 have:(s.take (Tz s x s.length)++s.drop (Tz s x s.length))=s:=xM _ _;rw[Z3,zO,zU]
 conv=>rhs;rw[←this,zO]
 constructor<;>rintro(h|h|h)<;>simp[h]
theorem Kk:∀(l acc:List Iv) (y:Iv),y∈l.foldl Z3 acc↔y∈acc∨y∈l
 |[],acc,y=>by simp
 |x::r,acc,y=>by
  rw[xB,Kk r,q1e,zU];constructor
  ·rintro((h|h)|h)<;>simp[h]
  ·rintro(h|h|h)<;>simp[h]
theorem g0z(l:List Iv)(y:Iv):y∈Em l↔y∈l:=by rw[Em,Kk];simp
attribute [local irreducible] Em
theorem g0a(l:List Iv)(hl:l.length≤1000000000)(zk:∀y∈l,O4 y):PC Tryz.prog 250 [LIv l] (fun r=>r=LIv (E6 l)):=by
 refine Qh tOk Tryz.func250 rfl Tryz.results250 rfl (by simp[Tryz.ntmps250]) ?_;rw[Tryz.ntmps250];simp only[Qe];repeat first|(refine r_ ?_;simp)|refine q_ ?_
 refine Qc rfl rfl (by simp) (x01 l hl) rfl ?_;rintro _ rfl;simp;repeat first|(refine r_ ?_;simp)|refine q_ ?_
 have hl':(Em l).length≤1000000000:=by rw[F8];exact hl
 have z8:∀y∈Em l,O4 y:=fun y hy=>zk y ((g0z l y).1 hy);unfold E6;generalize Em l=s at hl' z8 ⊢;refine Q6 4 144 2 rfl ?_;simp;refine Ql (Qb (sl':=[(3,LIv s),(4,.sl 0 2 0 0),(5,.i 0)]) ?_ (by simp));refine Qm (F:=fun(u:Nat×Nat×List AObj)=>⟨[(3,LIv s),(4,.sl u.2.1 2 0 (Q1 [] (s.take u.1)).length),(5,.i u.1)],u.2.2⟩)
  (fun u=>u.1≤s.length∧u.2.2[u.2.1]? =some (.arr 144 2 ((Q1 [] (s.take u.1)).map encIv))) (fun u=>s.length - u.1) ?_ (0,0,[.arr 144 2 []]) ⟨by simp,rfl⟩
 rintro⟨j,q,H2⟩ ⟨hj,g1⟩ ih;simp only at hj g1 ih ⊢;repeat first|(refine r_ ?_;simp)|refine q_ ?_
 refine Qa rfl (fun zl=> ?_) (fun zm=> ?_)
 ·have z1:j<s.length:=by simpa using zl
  have hw:IntKind.i64.wrap ((j:Int)+1)=j+1:=wrap_i64 _ (by omega) (by omega);have zc:(Q1 [] (s.take j)).length≤1000000000:=yO (Rl _ _) (by simp;omega);have zd:∀y∈Q1 [] (s.take j),O4 y:=O8 _ _ (by simp) (fun y hy=>z8 y (List.mem_of_mem_take hy));have zh:Q1 [] (s.take (j+1))=W3 (Q1 [] (s.take j)) s[j]:=by rw[zJ z1,Ov]
  have z6:∀(q':Nat) (H':List AObj),H'[q']? =some (.arr 144 2 ((W3 (Q1 [] (s.take j)) s[j]).map encIv))→_:=fun q' H' h=>ih (j+1,q',H') ⟨by simp;omega,by rw[zh];exact h⟩ (by simp;omega);clear ih;simp only[zh]at z6;generalize Q1 [] (s.take j)=acc at g1 zc zd z6 ⊢;repeat first|(refine r_ ?_;simp)|refine q_ ?_
  rcases x_ acc with rfl|⟨ini,y,rfl⟩
  ·have zi:IntKind.i64.wrap (-1)= -1:=by decide
   repeat first|(refine r_ ?_;simp[zi])|refine q_ ?_
   refine Qj tOk mixed [] (.val 0 (.val 1 (.val 2 (.val 3 (.val 4 (.val 5 (.val 6 (.val 7 (.val 8 (.val 9 (.val 10 (.val 11 (.val 12 (.val 13 (.val 14 (.val 15 (.done))))))))))))))))) rfl (by kernel_rfl) ?_;simp[zi,z1,g1];refine Qs rfl ?_;simp;repeat first|(refine r_ ?_;simp[z1,g1])|refine q_ ?_
   refine Qf tOk rfl rfl Ai rfl Hc rfl (by decide) (by decide) rfl rfl rfl ?_;simp[Qd g1,Qk g1];refine⟨by simp[Wu,Qd g1,Qk g1]<;>omega,?_⟩;repeat first|(refine r_ ?_;simp[hw])|refine q_ ?_
   exact Qb (sl':=[(3,LIv s),(4,.sl (H2.length+1) 2 0 1),(5,.i (j+1:Nat))]) (z6 (H2.length+1) _ (by rw[zC (by simp)];simp[W3])) (by simp)
  ·have hy:=zd y (by simp);have zn:=(Ec _).1 hy.2;have zj:IntKind.i64.wrap (y.hi+1)=y.hi+1:=wrap_i64 _ (by omega) (by omega);rw[wd]at g1 zc zd z6 ⊢;have hlen:(ini++[y]).length=ini.length+1:=by simp
   rw[hlen]at zc ⊢;have zb:IntKind.i64.wrap (ini.length:Int)=ini.length:=wrap_i64 _ (by omega) (by omega);have hg:((ini++[y]).map encIv)[ini.length]? =some (encIv y):=by simp
   have z7:(ini.length:Int)<ini.length+1:=by omega
   repeat first|(refine r_ ?_;simp[zb])|refine q_ ?_
   have za:¬((ini.length:Int)<0):=by omega
   refine Qj tOk mixed [] (.val 0 (.val 1 (.val 2 (.val 3 (.val 4 (.val 5 (.val 6 (.val 7 (.val 8 (.val 9 (.val 10 (.val 11 (.val 12 (.val 13 (.val 14 (.val 15 (.done))))))))))))))))) rfl (by kernel_rfl) ?_;simp[z1,g1,zb,hg,zj,z7,za];rw[Ee]at z6;refine Qa rfl (fun h1=> ?_) (fun h1=> ?_)
   ·have ze:¬(s[j].lo≤y.hi+1):=by simp at h1;omega
    rw[if_neg ze]at z6;repeat first|(refine r_ ?_;simp[z1,g1])|refine q_ ?_
    refine Qf tOk rfl rfl Ai rfl Hc rfl (by decide) (by decide) rfl rfl rfl ?_;simp[Qd g1,Qk g1];refine⟨by simp[Wu,Qd g1,Qk g1]<;>omega,?_⟩;repeat first|(refine r_ ?_;simp[hw])|refine q_ ?_
    exact Qb (sl':=[(3,LIv s),(4,.sl (H2.length+1) 2 0 (ini.length+1+1)),(5,.i (j+1:Nat))]) (by
     have:=z6 (H2.length+1) (H2.set q .dead++[.arr 144 2 [encIv s[j]],.arr 144 2 ((ini++[y]++[s[j]]).map encIv)]) (by rw[zC (by simp)];simp);simpa using this) (by simp)
   ·have ze:s[j].lo≤y.hi+1:=by simp at h1;omega
    rw[if_pos ze]at z6;repeat first|(refine r_ ?_;simp)|refine q_ ?_
    refine Qj tOk mixed [] (.val 0 (.val 1 (.val 2 (.val 3 (.val 4 (.val 5 (.val 6 (.val 7 (.val 8 (.val 9 (.val 10 (.done)))))))))))) rfl (by kernel_rfl) ?_;simp[z1,g1,zb,hg,zj,z7,za];refine Qa rfl (fun h2=> ?_) (fun h2=> ?_)
    ·have zf:y.hi<s[j].hi:=by simpa using h2
     rw[if_pos zf]at z6;repeat first|(refine r_ ?_;simp[z1,g1,hg,zb,z7,hw])|refine q_ ?_
     exact Qb (sl':=[(3,LIv s),(4,.sl q 2 0 (ini.length+1)),(5,.i (j+1:Nat))]) (by
      have:=z6 q (H2.set q (.arr 144 2 ((ini++[(⟨y.lo,s[j].hi⟩:Iv)]).map encIv))) (Qq g1 _);simpa using this) (by simp)
    ·have zf:¬(y.hi<s[j].hi):=by simpa using h2
     rw[if_neg zf]at z6;repeat first|(refine r_ ?_;simp[hw])|refine q_ ?_
     exact Qb (sl':=[(3,LIv s),(4,.sl q 2 0 (ini.length+1)),(5,.i (j+1:Nat))]) (by
      have:=z6 q H2 g1;simpa using this) (by simp)
 ·have zg:j=s.length:=by simp at zm;omega
  subst zg;rw[zX]at g1;repeat first|(refine r_ ?_;simp[g1])|refine q_ ?_
  rw[zM (by simp)]
end Go.Abs
namespace Go.Abs
open Go Go.Proofs
attribute [local irreducible] E6
def z2f(l:List Iv):AV:=if j0z l=0 then .tup [LIv (E6 l),.i 0]else .tup [.list [],.i (j0z l)]
attribute [local irreducible] Ax
theorem g1f(l:List Iv):PC Tryz.prog 144 [LIv l] (fun r=>r= .bool (decide ((l.length:Int)≤12))):=by refine Qh tOk Tryz.func144 rfl Tryz.results144 rfl (by simp[Tryz.ntmps144]) ?_;rw[Tryz.ntmps144];simp only[Qe];repeat first|(refine r_ ?_;simp)|refine q_ ?_
end Go.Abs
namespace Go.Abs
open Go Go.Proofs
attribute [simp] T68
@[simp] def encL (l:List Iv):AV:= .list (l.map encIv)
def q2e(l:List Iv):Bool:= !((decide ((12:Int)<l.length) && decide ((l.length:Int)≤254)) || decide ((258:Int)<l.length))
def x2x(ls:List (List Iv)):Bool:=ls.all q2e
def c1l(l:List Iv):Bool:=decide ((l.length:Int)≤12) && decide (ckR l=0)
def x2r(ls:List (List Iv)):Bool:=ls.all c1l
attribute [local irreducible] ckR
end Go.Abs
namespace Go.Abs
open Go Go.Proofs
structure CanonL (l:List Iv):Prop where
 len:l.length≤256
 one:∀y∈l,Ax y=0
 gap:∀j,∀h:j+1<l.length,l[j].hi+2≤l[j+1].lo
theorem C3{l:List Iv}{j:Nat}{x:Iv}(h:j<l.length)(hi:O4 l[j]):j0p l (j+1) x=decide (x.lo<l[j].hi+2):=by have h1:=(Ec _).1 hi.2;have:W (l[j].hi+2)=l[j].hi+2:=wrap_i64 _ (by omega) (by omega);simp[j0p,h,this]
theorem F3(l:List Iv)(hl:l.length≤256):∀(n j:Nat),l.length - j=n→j≤l.length→(∀h:0<j,∀h':j - 1<l.length,Ax l[j - 1]=0)→(U9 l j (l.drop j)=0↔(∀i,j≤i→∀h:i<l.length,Ax l[i]=0)∧∀i,j≤i+1→∀h:i+1<l.length,l[i].hi+2≤l[i+1].lo)
 |0,j,hn,hj,_=>by
  have:j=l.length:=by omega
  subst this;rw[List.drop_length,U9];exact⟨fun _=>⟨fun i h1 h2=>by omega,fun i h1 h2=>by omega⟩,fun _=>rfl⟩
 |n+1,j,hn,hj,hp=>by
  have z6:j<l.length:=by omega
  rw[Wo z6,U9];by_cases h1:(Ax l[j] != 0)=true
  ·rw[if_pos h1];have z1:Ax l[j]≠0:=by simpa using h1
   exact⟨fun h=>absurd h z1,fun h=>absurd (h.1 j (zI _) z6) z1⟩
  ·rw[if_neg h1];have z1:Ax l[j]=0:=by simpa using h1
   have ih:=F3 l hl n (j+1) (by omega) (by omega) (fun _ _=>z1);by_cases h2:j0p l j l[j]=true
   ·rw[if_pos h2];refine⟨fun h=>(by cases h),fun h=> ?_⟩;rcases j with _|j
    ·simp[j0p]at h2
    ·have hq:Ax l[j]=0:=hp (by omega) (by simp;omega);rw[C3 (by omega) (Vt hq).1]at h2;have:=h.2 j (zI _) z6;simp at h2;omega
   ·rw[if_neg h2,ih];constructor
    ·rintro⟨a,b⟩;refine⟨fun i hi h=> ?_,fun i hi h=> ?_⟩
     ·by_cases e:i=j
      ·subst e;exact z1
      ·exact a i (by omega) h
     ·by_cases e:j=i+1
      ·subst e;have hq:Ax l[i]=0:=hp (by omega) (by simp;omega);rw[C3 (by omega) (Vt hq).1]at h2;simp at h2;exact h2
      ·exact b i (by omega) h
    ·rintro⟨a,b⟩;exact⟨fun i hi h=>a i (by omega) h,fun i hi h=>b i (by omega) h⟩
theorem Xu(l:List Iv):ckR l=0↔CanonL l:=by
 rw[ckR];by_cases h:decide ((256:Int)<l.length)=true
 ·rw[if_pos h];simp at h;exact⟨fun e=>(by cases e),fun e=>(by have:=e.len;omega)⟩
 ·rw[if_neg h];simp at h;have hl:l.length≤256:=by omega
  have:=F3 l hl l.length 0 rfl (Nat.zero_le _) (fun h=>by omega);rw[List.drop_zero]at this;rw[this];constructor
  ·rintro⟨a,b⟩;refine⟨hl,fun y hy=> ?_,fun j h=>b j (by omega) h⟩;obtain⟨i,hi,rfl⟩:=yH hy;exact a i (by omega) hi
  ·rintro⟨_,a,b⟩;exact⟨fun i _ h=>a _ (zG h),fun i _ h=>b i h⟩
theorem CanonL.iv{l:List Iv}(h:CanonL l){j:Nat}(hj:j<l.length): -1099511627776≤l[j].lo∧l[j].lo≤l[j].hi∧l[j].hi≤1099511627776:=by obtain⟨⟨h1,h2⟩,h3⟩:=Vt (h.one _ (zG hj));have:=(Ec _).1 h1;have:=(Ec _).1 h2;omega
def w2x:List Iv→Int
 |[]=>0
 |x::r=>(x.hi - x.lo+1)+w2x r
attribute [local irreducible] ckR
end Go.Abs
namespace Go.Abs
open Go Go.Proofs
attribute [local irreducible] ckR
def y0h(a b:List Iv):Int:=if ckR a=0 then ckR b else ckR a
def y2j(l:List Iv):AV:=if l.length≤256 then .tup [LIv l,.i 0]else .tup [.list [],.i 5]
def y1j:List Iv→Int→Int×Int
 |[],_=>(0,2)
 |x::r,i=>if i<x.hi - x.lo+1 then(x.lo+i,0)else y1j r (i - (x.hi - x.lo+1))
def atR(l:List Iv)(i:Int):Int×Int:=if ckR l=0 then(if i<0 then(0,2)else y1j l i)else(0,ckR l)
def M8(x:Iv)(n:Int):Int:=if x.hi<n then -1 else if n<x.lo then 1 else 0
theorem g0i(x:Iv)(n:Int):PC Tryz.prog 222 [encIv x,.i n] (fun r=>r= .i (M8 x n)):=by
 refine Qh tOk Tryz.func222 rfl Tryz.results222 rfl (by simp[Tryz.ntmps222]) ?_;rw[Tryz.ntmps222];simp only[Qe];simp only[encIv];repeat first|(refine r_ ?_;simp)|refine q_ ?_
 refine Qa rfl (fun h=> ?_) (fun h=> ?_)
 ·repeat first|(refine r_ ?_;simp)|refine q_ ?_
  rw[M8,if_pos (by simpa using h)]
 repeat first|(refine r_ ?_;simp)|refine q_ ?_
 refine Qa rfl (fun h2=> ?_) (fun h2=> ?_)
 ·repeat first|(refine r_ ?_;simp)|refine q_ ?_
  rw[M8,if_neg (by simpa using h),if_pos (by simpa using h2)]
 repeat first|(refine r_ ?_;simp)|refine q_ ?_
 rw[M8,if_neg (by simpa using h),if_neg (by simpa using h2)]
def Ol(l:List Iv)(n:Int):Bool:=l.any fun x=>decide (x.lo≤n) && decide (n≤x.hi)
theorem Iw{l:List Iv}(hc:CanonL l):∀ {i j:Nat},i<j→∀(hj:j<l.length),∀(hi:i<l.length),l[i].hi+2≤l[j].lo:=by
 intro i j z1 hj hi;obtain⟨d,rfl⟩:∃d,j=i+1+d:=⟨j - (i+1),by omega⟩
 induction d with
 |zero=>exact hc.gap i hj
 |succ d ih=>
  have h1:=ih (by omega) (by omega);have h2:=hc.gap (i+1+d) (by omega);have h3:=hc.iv (show i+1+d<l.length by omega);have h4:i+1+(d+1)=i+1+d+1:=by omega
  simp only[h4];omega
theorem Gu(x:Iv)(n:Int):M8 x n<0↔x.hi<n:=by
 unfold M8;by_cases h:x.hi<n
 ·rw[if_pos h];simp[h]
 ·rw[if_neg h];by_cases h2:n<x.lo
  ·rw[if_pos h2];simp[h]
  ·rw[if_neg h2];simp[h]
theorem w14(x:Iv)(n:Int):M8 x n=0↔x.lo≤n∧n≤x.hi:=by
 unfold M8;by_cases h:x.hi<n
 ·rw[if_pos h];constructor<;>intro h'<;>omega
 ·rw[if_neg h];by_cases h2:n<x.lo
  ·rw[if_pos h2];constructor<;>intro h'<;>omega
  ·rw[if_neg h2];constructor<;>intro h'<;>omega
theorem g1h{i j m:Nat}(hm:(i+j) / 2=m)(h:i+j≤1000000000):IntKind.i64.wrap ((IntKind.u64.wrap ((i:Int)+j)).fdiv (2 ^ min 1 IntKind.u64.bits))=m:=by
 have h1:IntKind.u64.wrap ((i:Int)+j)=i+j:=by simp[IntKind.wrap,IntKind.bits,IntKind.signed];omega
 have h2:min 1 IntKind.u64.bits=1:=by decide
 rw[h1,h2,Int.fdiv_eq_ediv_of_nonneg _ (by decide),wrap_i64 _ (by omega) (by omega)];omega
attribute [local irreducible] M8
theorem Cg(l:List Iv)(n:Int)(hc:CanonL l):PC Tryz.prog 221 [LIv l,.i n,.fn (.func 222) [] []] (fun r=>∃k:Int,r= .tup [.i k,.bool (Ol l n)]):=by
 refine Qh tOk Tryz.func221 rfl Tryz.results221 rfl (by simp[Tryz.ntmps221]) ?_;rw[Tryz.ntmps221];simp only[Qe];have hlen:=hc.len;repeat first|(refine r_ ?_;simp)|refine q_ ?_
 refine Ql (Qb (sl':=[(0,LIv l),(1,.i n),(2,.fn (.func 222) [] []),(8,.i l.length),(9,.i 0),(10,.i l.length)]) ?_ (by simp));refine Qm (F:=fun(u:Nat×Nat)=>⟨[(0,LIv l),(1,.i n),(2,.fn (.func 222) [] []),(8,.i l.length),(9,.i u.1),(10,.i u.2)],[]⟩) (fun u=>u.1≤u.2∧u.2≤l.length∧(∀k,k<u.1→∀hk:k<l.length,M8 l[k] n<0)∧(∀k,u.2≤k→∀hk:k<l.length,¬M8 l[k] n<0)) (fun u=>u.2 - u.1) ?_ (0,l.length) ⟨by simp,by simp,fun k hk=>by simp at hk,fun k hk z1=>by simp only at hk;omega⟩;rintro⟨i,j⟩ ⟨h1,h2,h3,h4⟩ ih;simp only at h1 h2 h3 h4 ih ⊢;repeat first|(refine r_ ?_;simp)|refine q_ ?_
 refine Qa rfl (fun zd=> ?_) (fun ze=> ?_)
 ·have zf:i<j:=by simpa using zd
  have hw:IntKind.i64.wrap ((i:Int)+j)=i+j:=wrap_i64 _ (by omega) (by omega);obtain⟨m,hm⟩:∃m,(i+j) / 2=m:=⟨_,rfl⟩
  have z8:IntKind.i64.wrap ((IntKind.u64.wrap ((i:Int)+j)).fdiv (2 ^ min 1 IntKind.u64.bits))=m:=g1h hm (by omega);have z6:m<l.length:=by omega
  have za:(m:Int)<l.length:=by omega
  have zg:IntKind.i64.wrap ((m:Int)+1)=m+1:=wrap_i64 _ (by omega) (by omega);repeat first|(refine r_ ?_;simp[hw,z8,z6,za])|refine q_ ?_
  refine Qc rfl rfl (by simp) (g0i l[m] n) rfl ?_;rintro _ rfl;simp;refine Qa rfl (fun h5=> ?_) (fun h5=> ?_)
  ·repeat first|(refine r_ ?_;simp[zg])|refine q_ ?_
   refine Qb (sl':=[(0,LIv l),(1,.i n),(2,.fn (.func 222) [] []),(8,.i l.length),(9,.i (m+1:Nat)),(10,.i j)]) (ih (m+1,j) ⟨by simp only;omega,h2,fun k hk z1=> ?_,h4⟩ (by simp only;omega)) (by simp);have zh:=hc.iv z1;have zi:=hc.iv z6;have z7:M8 l[m] n<0:=by simpa using h5
   by_cases e:k=m
   ·subst e;exact z7
   ·have:=Iw hc (show k<m by omega) z6 z1;rw[Gu]at z7 ⊢;omega
  ·repeat first|(refine r_ ?_;simp)|refine q_ ?_
   refine Qb (sl':=[(0,LIv l),(1,.i n),(2,.fn (.func 222) [] []),(8,.i l.length),(9,.i i),(10,.i m)]) (ih (i,m) ⟨by simp only;omega,by simp only;omega,h3,fun k hk z1=> ?_⟩ (by simp only;omega)) (by simp);have zh:=hc.iv z1;have zi:=hc.iv z6;have z7:¬M8 l[m] n<0:=by simpa using h5
   by_cases e:k=m
   ·subst e;exact z7
   ·have:=Iw hc (show m<k by omega) z1 z6;rw[Gu]at z7 ⊢;omega
 ·have zb:i=j:=by simp at ze;omega
  subst zb;by_cases hil:i<l.length
  ·repeat first|(refine r_ ?_;simp[hil])|refine q_ ?_
   refine Qc rfl rfl (by simp) (g0i l[i] n) rfl ?_;rintro _ rfl;simp;repeat first|(refine r_ ?_;simp)|refine q_ ?_
   have hh:Ol l n=(M8 l[i] n==0):=by
    rw[yV,beq_iff_eq,w14,Ol,wR];constructor
    ·rintro⟨x,hx,zc⟩;obtain⟨k,hk,rfl⟩:=yH hx;simp at zc;have e:k=i:=by
      by_cases e1:k<i
      ·have:=(Gu _ _).1 (h3 k e1 hk);omega
      ·by_cases e2:i<k
       ·have:=Iw hc e2 hk hil;have:¬l[i].hi<n:=fun e=>h4 i (zI _) hil ((Gu l[i] n).2 e);omega
       ·omega
     subst e;exact zc
    ·intro h;exact⟨l[i],zG hil,by simpa using h⟩
   rw[hh]
  ·repeat first|(refine r_ ?_;simp[hil])|refine q_ ?_
   refine Qx rfl rfl ?_;simp;repeat first|(refine r_ ?_;simp)|refine q_ ?_
   have hh:Ol l n=false:=by rw[Ol,wU];intro x hx;obtain⟨k,hk,rfl⟩:=yH hx;have:=(Gu _ _).1 (h3 k (by omega) hk);simp;intro _;omega
   rw[hh]
theorem j1z(l:List Iv)(n:Int)(hc:CanonL l):PC Tryz.prog 165 [LIv l,.i n] (fun r=>r= .bool (Ol l n)):=by
 refine Qh tOk Tryz.func165 rfl Tryz.results165 rfl (by simp[Tryz.ntmps165]) ?_;rw[Tryz.ntmps165];simp only[Qe];repeat first|(refine r_ ?_;simp)|refine q_ ?_
 refine Qc rfl rfl (by simp) (Cg l n hc) rfl ?_;rintro _ ⟨k,rfl⟩;simp;repeat first|(refine r_ ?_;simp)|refine q_ ?_
attribute [local irreducible] Ol
def z1i(l:List Iv)(n:Int):Bool×Int:=if ckR l=0 then(Ol l n,0)else(false,ckR l)
theorem F2(l:List Iv)(n:Int):PC Tryz.prog 103 [LIv l,.i n] (fun r=>r= .tup [.bool (z1i l n).1,.i (z1i l n).2]):=by
 refine Qh tOk Tryz.func103 rfl Tryz.results103 rfl (by simp[Tryz.ntmps103]) ?_;rw[Tryz.ntmps103];simp only[Qe];repeat first|(refine r_ ?_;simp)|refine q_ ?_
 refine Qc rfl rfl (by simp) (Mi l) rfl ?_;rintro _ rfl;simp;repeat first|(refine r_ ?_;simp)|refine q_ ?_
 refine Qa rfl (fun h=> ?_) (fun h=> ?_)
 ·repeat first|(refine r_ ?_;simp)|refine q_ ?_
  rw[z1i,if_neg (by simpa using h)];exact⟨rfl,rfl⟩
 have h0:ckR l=0:=by simpa using h
 repeat first|(refine r_ ?_;simp)|refine q_ ?_
 refine Qc rfl rfl (by simp) (j1z l n ((Xu l).1 h0)) rfl ?_;rintro _ rfl;simp;repeat first|(refine r_ ?_;simp)|refine q_ ?_
 rw[z1i,if_pos h0];exact⟨rfl,rfl⟩
end Go.Abs
namespace Go.Abs
open Go Go.Proofs
attribute [local irreducible] ckR
def w2s(d:Int)(x:Iv):Option Iv:=
 let a:=if x.lo+d< -1099511627776 then -1099511627776 else x.lo+d
 let b:=if 1099511627776<x.hi+d then 1099511627776 else x.hi+d
 if a≤b then some ⟨a,b⟩else none
def z2u(l:List Iv)(d:Int):List Iv×Int:=if ckR l=0 then(if d< -2199023255552∨2199023255552<d then([],0)else(l.filterMap (w2s d),0))else([],ckR l)
end Go.Abs
namespace Go.Abs
open Go Go.Proofs
def z27(ls:List (List Iv)):List Iv:=ls.flatten
attribute [local irreducible] z27
end Go.Abs
namespace Go.Abs
open Go Go.Proofs Go.RowKit Go.Shelf Go.Lib Go.Sort
def Rp(zs:List Int):List Int:=zs.mergeSort fun x y=>decide (x≤y)
theorem U3(zs:List Int):(Rp zs).length=zs.length:=by simp[Rp]
theorem H6(H:List AObj)(p:Nat)(zs:List Int)(hp:H[p]? =some (.arr 3 1 (zs.map (AV.int .i64))))(hl:zs.length≤1000000):
  FC Tryz.prog 171 [.sl p 1 0 zs.length] H (fun r H'=>r= .tup []∧H'=H.set p (.arr 3 1 ((Rp zs).map (AV.int .i64)))):=by
 refine(z19 (xs:=zs.map (AV.int .i64)) (rest:=[]) (Yd Tryz.func171 rfl rfl) (by simp) hp (c1z zs) [] (fun w I m vs a b=>by simpa using a) (fun z1=>z1=(Rp zs).map (AV.int .i64)) ?_ ?_).mono ?_
 ·intro b cap w hH hb hc;have:=Tryz.slices_Sort_int b 0 cap zs w (Vp hH) hb (by omega);refine Calls.mono (by simpa using this) ?_;rintro e w' ⟨rfl,n,os,rfl⟩;exact⟨rfl,_,((Rp zs).map (Value.int .i64)).toArray,n,os,rfl,by simp[U3],c1z _,by rw[Hy];rfl⟩
 ·rintro h;have z6:zs=[]:=by simpa using h
  subst z6;exact⟨by simp[Rp],fun w=>by simpa using Tryz.slices_Sort_int_none none 0 w⟩
 ·rintro r H' ⟨rfl,z1,rfl,rfl⟩;exact⟨rfl,rfl⟩
theorem Af(H:List AObj)(p:Nat)(zs:List Int)(hp:H[p]? =some (.arr 3 1 (zs.map (AV.int .i64))))(hl:zs.length≤1000000)(z6:(Lib.compact zs).length≤zs.length):
  FC Tryz.prog 172 [.sl p 1 0 zs.length] H (fun r H'=>r= .sl p 1 0 (Lib.compact zs).length∧∃G:List Int,H'=H.set p (.arr 3 1 ((Lib.compact zs++G).map (AV.int .i64)))):=by
 refine(u1l (xs:=zs.map (AV.int .i64)) (Yd Tryz.func172 rfl rfl) (by simp) hp (c1z zs) (fun z1 n=>n=(Lib.compact zs).length∧∃G:List Int,z1=(Lib.compact zs++G).map (AV.int .i64)) (fun ys n h=>by rw[h.1];exact z6) ?_ ?_).mono ?_
 ·intro b cap w hH hb hc hm;have:=Tryz.slices_Compact_int b 0 cap zs w (Vp hH) (by omega) hc;refine Calls.mono (by simpa using this) ?_;rintro e w' ⟨rfl,q,rfl⟩;exact⟨_,((Lib.compact zs++zT (zs.length - (Lib.compact zs).length) 0).map (Value.int .i64)).toArray,q,_,rfl,⟨rfl,_,rfl⟩,by simp;omega,c1z _,by rw[←Hy]⟩
 ·rintro h;have z7:zs=[]:=by simpa using h
  subst z7;exact⟨⟨rfl,[],rfl⟩,fun w=>by simpa using Tryz.slices_Compact_int_empty none 0 w⟩
 ·rintro r H' ⟨z1,n,rfl,⟨rfl,G,rfl⟩,rfl⟩;exact⟨rfl,G,rfl⟩
end Go.Abs
namespace Go.Abs
open Go Go.Proofs
attribute [simp] T47
def Bc:List Iv→List Int
 |[]=>[]
 |x::r=>x.lo::(x.hi+1)::Bc r
theorem N7:∀(l:List Iv) (x:Iv),Bc (l++[x])=Bc l++[x.lo,x.hi+1]
 |[],x=>rfl
 |y::r,x=>by rw[vB,Bc,N7 r,Bc];rfl
theorem j0k:∀(l:List Iv),(Bc l).length=2 * l.length
 |[]=>rfl
 |x::r=>by rw[Bc,yB,yB,j0k r,yB];omega
def f02(l:List Iv):List Int:=Lib.compact (Rp (Bc l))
def y1z(f:Int→Bool):List Int→List Iv→List Iv
 |c::d::r,acc=>y1z f (d::r) (if f c=true then W3 acc ⟨c,d - 1⟩else acc)
 |_,acc=>acc
def Mj(op:Bool→Bool→Bool)(a b:List Iv):List Iv:=y1z (fun n=>op (Ol a n) (Ol b n)) (f02 (a++b)) []
theorem Uj(zs:List Int):(Lib.compact zs).length≤zs.length:=by unfold Lib.compact Lib.compactUpTo;rw[List.length_map];exact yO (vE _ _) (by simp)
attribute [local irreducible] ckR Ol z27 W3 Rp Lib.compact Bc
end Go.Abs
namespace Go.Abs
open Go Go.Proofs
attribute [local irreducible] ckR Mj
def v1d(x y:Bool):Bool:=x && !y
def f1e(op:Bool→Bool→Bool)(a b:List Iv):AV:=if y0h a b=0 then y2j (Mj op a b)else .tup [.list [],.i (y0h a b)]
attribute [local irreducible] y0h
attribute [local irreducible] f1e
end Go.Abs
namespace Go.Abs
theorem push_comm(acc:List Iv)(x y:Iv)(h:x.lo=y.lo)(hx:x.lo≤x.hi)(hy:y.lo≤y.hi):W3 (W3 acc x) y=W3 (W3 acc y) x:=by
 have one:∀(u v:Iv),u.lo=v.lo→u.lo≤u.hi→∀ini:List Iv,W3 (ini++[u]) v=ini++[⟨u.lo,if u.hi<v.hi then v.hi else u.hi⟩]:=fun u v z6 hu ini=>by rw[Ee,if_pos (by omega)]
 rcases x_ acc with rfl|⟨ini,z,rfl⟩
 ·have e1:W3 [] x=[]++[x]:=rfl;have e2:W3 [] y=[]++[y]:=rfl;rw[e1,e2,one x y h hx,one y x h.symm hy,h]
  congr 3
  split<;>split<;>omega
 ·rw[wd];by_cases hz:x.lo≤z.hi+1
  ·have z1:∀(w u:Iv),u.lo≤w.hi+1→W3 (ini++[w]) u=ini++[⟨w.lo,if w.hi<u.hi then u.hi else w.hi⟩]:=fun w u h=>by rw[Ee,if_pos h]
   rw[z1 z x hz,z1 z y (by omega),z1 _ y (by simp only;split<;>omega),z1 _ x (by simp only;split<;>omega)]
   congr 3
   simp only;repeat split
   all_goals omega
  ·have ap:∀u:Iv,u.lo=x.lo→W3 (ini++[z]) u=ini++[z]++[u]:=fun u h=>by rw[Ee,if_neg (by omega)]
   rw[ap x rfl,ap y h.symm,one x y h hx,one y x h.symm hy,h]
   congr 3
   split<;>split<;>omega
theorem S6:∀(A:List Iv) (acc:List Iv) (x:Iv) (B:List Iv),(∀y∈A,y.lo=x.lo∧y.lo≤y.hi)→x.lo≤x.hi→Q1 acc (A++x::B)=Q1 acc (x::(A++B))
 |[],acc,x,B,_,_=>rfl
 |y::A,acc,x,B,h,hx=>by have hy:=h y (by simp);have ih:=S6 A (W3 acc y) x B (fun z hz=>h z (by simp[hz])) hx;simp only[Q1,vB,xB]at ih ⊢;rw[ih,push_comm acc y x hy.1 hy.2 hx]
theorem G3:∀(l l':List Iv) (acc:List Iv),l.Perm l'→B4 l→B4 l'→(∀y∈l,y.lo≤y.hi)→Q1 acc l=Q1 acc l'
 |[],l',acc,hp,_,_,_=>by rw[hp.nil_eq]
 |x::l,l',acc,hp,h1,h2,hf=>by
  obtain⟨A,B,rfl⟩:=List.append_of_mem (hp.mem_iff.1 (List.mem_cons_self));have z6:l.Perm (A++B):=(List.perm_cons x).1 (hp.trans vv);have hA:∀y∈A,y.lo=x.lo∧y.lo≤y.hi:=fun y hy=>by
   have z1:y∈x::l:=hp.mem_iff.2 (by simp[hy]);have a1:y.lo≤x.lo:=(zZ.1 h2).2.2 y hy x (by simp);have a2:x.lo≤y.lo:=by
    rcases zU.1 z1 with rfl|h
    ·exact yG _
    ·exact(z_.1 h1).1 y h
   exact⟨by omega,hf y z1⟩
  rw[S6 A acc x B hA (hf x (by simp))];have hb:B4 (A++B):=h2.sublist (List.Sublist.append_left (List.sublist_cons_self x B) A);exact G3 l (A++B) (W3 acc x) z6 (z_.1 h1).2 hb (fun y hy=>hf y (by simp[hy]))
end Go.Abs
namespace Go.Abs
theorem k02(s:List Iv)(x:Iv):(Z3 s x).Perm (x::s):=by unfold Z3;refine vv.trans ?_;rw[xM]
theorem F1(s:List Iv)(x:Iv):∀j,j≤s.length→(∀k,Tz s x j≤k→k<j→∀h:k<s.length,x.lo<s[k].lo)∧(∀k,k+1=Tz s x j→∀h:k<s.length,s[k].lo≤x.lo)
 |0,_=>⟨fun k _ h=>by omega,fun k h=>by simp[Tz]at h⟩
 |j+1,hj=>by
  obtain⟨a,b⟩:=F1 s x j (by omega);have hg:j1x s j x=decide (x.lo<s[j].lo):=by simp[j1x,show j<s.length by omega]
  rw[Tz,hg];by_cases h:decide (x.lo<s[j].lo)=true
  ·rw[if_pos h];refine⟨fun k h1 h2 h3=> ?_,b⟩;by_cases e:k=j
   ·subst e;simpa using h
   ·exact a k h1 (by omega) h3
  ·rw[if_neg h];refine⟨fun k h1 h2=>by omega,fun k h1 h2=> ?_⟩;have e:k=j:=by omega
   subst e;simp at h;omega
theorem v0p(s:List Iv)(x:Iv)(hs:B4 s):B4 (Z3 s x):=by
 obtain⟨a,b⟩:=F1 s x s.length (zI _);have hq:=Gm s x s.length;unfold Z3;generalize Tz s x s.length=q at a b hq;have z6:∀i j,i<j→∀hi:i<s.length,∀hj:j<s.length,s[i].lo≤s[j].lo:=fun i j h hi hj=>yC.1 hs i j hi hj h;have z7:∀y∈s.take q,y.lo≤x.lo:=fun y hy=>by
  obtain⟨i,hi,rfl⟩:=yH hy;have za:i<q:=by rw[yY]at hi;omega
  rw[uW];have h1:=b (q - 1) (by omega) (by omega);by_cases e:i=q - 1
  ·subst e;exact h1
  ·have:=z6 i (q - 1) (by omega) (by omega) (by omega);omega
 have z8:∀y∈s.drop q,x.lo≤y.lo:=fun y hy=>by obtain⟨i,hi,rfl⟩:=yH hy;rw[List.length_drop]at hi;rw[List.getElem_drop];have:=a (q+i) (by omega) (by omega) (by omega);omega
 have z1:=hs;unfold B4 at z1 ⊢;rw[←xM q s,zZ]at z1;obtain⟨p1,p2,p3⟩:=z1;refine zZ.2 ⟨p1,z_.2 ⟨z8,p2⟩,fun y hy z hz=> ?_⟩;rcases zU.1 hz with rfl|h
 ·exact z7 y hy
 ·exact p3 y hy z h
theorem Gp:∀(l acc:List Iv),B4 acc→(l.foldl Z3 acc).Perm (acc++l)∧B4 (l.foldl Z3 acc)
 |[],acc,h=>⟨by simp,h⟩
 |x::r,acc,h=>by obtain⟨a,b⟩:=Gp r (Z3 acc x) (v0p acc x h);refine⟨a.trans ?_,b⟩;exact((k02 acc x).append_right r).trans vv.symm
theorem Iz(l:List Iv):(Em l).Perm l∧B4 (Em l):=by have:=Gp l [] .nil;simpa[Em]using this
end Go.Abs
namespace Go.Abs
def M(l:List Iv)(n:Int):Prop:=∃x∈l,x.lo≤n∧n≤x.hi
def Sep(l:List Iv):Prop:=(∀x∈l,x.lo≤x.hi)∧l.Pairwise (fun x y=>x.hi+2≤y.lo)
theorem Bw(n:Int):M [] n↔False:=by simp[M]
theorem El(x:Iv)(l:List Iv)(n:Int):M (x::l) n↔(x.lo≤n∧n≤x.hi)∨M l n:=by simp[M]
theorem Lr(a b:List Iv)(n:Int):M (a++b) n↔M a n∨M b n:=by simp[M,or_and_right,exists_or]
theorem Nb(l:List Iv)(n:Int):Ol l n=true↔M l n:=by simp[Ol,M]
theorem Sep.tail{x:Iv}{l:List Iv}(h:Sep (x::l)):Sep l:=⟨fun y hy=>h.1 y (by simp[hy]),(z_.1 h.2).2⟩
theorem Sep.low{x:Iv}{l:List Iv}(h:Sep (x::l)){n:Int}(hm:M l n):x.hi+2≤n:=by obtain⟨y,hy,h1,h2⟩:=hm;have:=(z_.1 h.2).1 y hy;omega
theorem Sep.lowc{x:Iv}{l:List Iv}(h:Sep (x::l)){n:Int}(hm:M (x::l) n):x.lo≤n:=by
 rcases(El ..).1 hm with h1|h1
 ·exact h1.1
 ·have:=h.low h1;have:=h.1 x (by simp);omega
theorem v0j:∀(a b:List Iv),Sep a→Sep b→(∀n,M a n↔M b n)→a=b
 |[],[],_,_,_=>rfl
 |[],y::b,_,hb,h=>by have:=(h y.lo).2 ((El ..).2 (.inl ⟨yG _,hb.1 y (by simp)⟩));exact absurd this (by simp[M])
 |x::a,[],ha,_,h=>by have:=(h x.lo).1 ((El ..).2 (.inl ⟨yG _,ha.1 x (by simp)⟩));exact absurd this (by simp[M])
 |x::a,y::b,ha,hb,h=>by
  have hx:=ha.1 x (by simp);have hy:=hb.1 y (by simp);have e1:x.lo=y.lo:=by have h1:=hb.lowc ((h x.lo).1 ((El ..).2 (.inl ⟨yG _,hx⟩)));have h2:=ha.lowc ((h y.lo).2 ((El ..).2 (.inl ⟨yG _,hy⟩)));omega
  have e2:x.hi=y.hi:=by
   rcases t7 x.hi y.hi with hlt|heq|hgt
   ·rcases(El ..).1 ((h (x.hi+1)).2 ((El ..).2 (.inl ⟨by omega,by omega⟩)))with h1|h1
    ·omega
    ·have:=ha.low h1;omega
   ·exact heq
   ·rcases(El ..).1 ((h (y.hi+1)).1 ((El ..).2 (.inl ⟨by omega,by omega⟩)))with h1|h1
    ·omega
    ·have:=hb.low h1;omega
  have e3:x=y:=by cases x;cases y;simp_all
  subst e3;rw[v0j a b ha.tail hb.tail fun n=>⟨fun hm=> ?_,fun hm=> ?_⟩]
  ·have h1:=ha.low hm;rcases(El ..).1 ((h n).1 ((El ..).2 (.inr hm)))with h2|h2
   ·omega
   ·exact h2
  ·have h1:=hb.low hm;rcases(El ..).1 ((h n).2 ((El ..).2 (.inr hm)))with h2|h2
   ·omega
   ·exact h2
theorem P7{l:List Iv}(h:CanonL l):Sep l:=
 ⟨fun x hx=>(Vt (h.one x hx)).2,yC.2 fun _ _ hi hj z1=>Iw h z1 hj hi⟩
theorem Lf{l:List Iv}(h:CanonL l):∀x∈l,O4 x:=fun x hx=>(Vt (h.one x hx)).1
theorem x15{l:List Iv}(h:CanonL l){n:Int}(hm:M l n): -1099511627776≤n∧n≤1099511627776:=by obtain⟨x,hx,h1,h2⟩:=hm;have h3:=Lf h x hx;have h4:=(Ec _).1 h3.1;have h5:=(Ec _).1 h3.2;omega
theorem X1{l:List Iv}(h:Sep l)(hi:∀x∈l,O4 x)(hl:l.length≤256):CanonL l:=
 ⟨hl,fun y hy=>by
  have h1:=hi y hy;have h2:=h.1 y hy;have h4:=h1.1;have h5:=h1.2;simp[Ax,h4,h5];omega,fun j hj=>yC.1 h.2 j (j+1) (by omega) hj (by omega)⟩
theorem d09(acc:List Iv)(x:Iv)(ha:Sep acc)(hx:x.lo≤x.hi)(hle:∀y∈acc,y.lo≤x.lo):
  Sep (W3 acc x)∧(∀n,M (W3 acc x) n↔M acc n∨(x.lo≤n∧n≤x.hi))∧(∀z,x.lo≤z→∀y∈W3 acc x,y.lo≤z):=by
 rcases x_ acc with rfl|⟨ini,y,rfl⟩
 ·have e:W3 [] x=[x]:=rfl;rw[e];exact⟨⟨fun y hy=>by simp at hy;subst hy;exact hx,by simp⟩,fun n=>by simp[M],fun z hz y hy=>by simp at hy;subst hy;exact hz⟩
 ·rw[wd]at ha hle ⊢;rw[Ee];have hy:=ha.1 y (by simp);have z1:=hle y (by simp);obtain⟨p1,p2,p3⟩:=zZ.1 ha.2;split
  ·rename_i hj;refine⟨⟨fun z hz=> ?_,zZ.2 ⟨p1,by simp,fun u hu v hv=> ?_⟩⟩,fun n=> ?_,fun z hz u hu=> ?_⟩
   ·rcases zO.1 hz with h|h
    ·exact ha.1 z (by simp[h])
    ·simp at h;subst h;simp only;split<;>omega
   ·simp at hv;subst hv;exact p3 u hu y (by simp)
   ·rw[Lr,Lr,El,El,Bw];simp only[or_false];by_cases hm:M ini n
    ·simp[hm]
    ·simp only[hm,false_or];split<;>omega
   ·rcases zO.1 hu with h|h
    ·have:=hle u (by simp[h]);omega
    ·simp at h;subst h;simp only;omega
  ·rename_i hj;refine⟨⟨fun z hz=> ?_,zZ.2 ⟨ha.2,by simp,fun u hu v hv=> ?_⟩⟩,fun n=>by rw[Lr,El,Bw];simp,fun z hz u hu=> ?_⟩
   ·rcases zO.1 hz with h|h
    ·exact ha.1 z h
    ·simp at h;subst h;exact hx
   ·simp at hv;subst hv;rcases zO.1 hu with h|h
    ·have:=p3 u h y (by simp);omega
    ·simp at h;subst h;omega
   ·rcases zO.1 hu with h|h
    ·have:=hle u h;omega
    ·simp at h;subst h;exact hz
theorem Ao:∀(l acc:List Iv),Sep acc→B4 l→(∀x∈l,x.lo≤x.hi)→(∀y∈acc,∀x∈l,y.lo≤x.lo)→
  Sep (Q1 acc l)∧∀n,M (Q1 acc l) n↔M acc n∨M l n
 |[],acc,ha,_,_,_=>⟨ha,fun n=>by simp[Q1,M]⟩
 |x::l,acc,ha,hb,hf,hle=>by have hp:=d09 acc x ha (hf x (by simp)) (fun y hy=>hle y hy x (by simp));have ih:=Ao l (W3 acc x) hp.1 (z_.1 hb).2 (fun y hy=>hf y (by simp[hy])) (fun y hy z hz=>hp.2.2 z.lo ((z_.1 hb).1 z hz) y hy);refine⟨ih.1,fun n=> ?_⟩;have e:Q1 acc (x::l)=Q1 (W3 acc x) l:=rfl;rw[e,ih.2 n,hp.2.1 n,El,or_assoc]
theorem Zp:Sep []:=⟨by simp,by simp⟩
theorem j1l{a b:List Iv}(h:a.Perm b)(n:Int):M a n↔M b n:=by simp only[M];exact⟨fun⟨x,hx,h1⟩=>⟨x,h.mem_iff.1 hx,h1⟩,fun⟨x,hx,h1⟩=>⟨x,h.mem_iff.2 hx,h1⟩⟩
theorem Y9(l:List Iv)(hf:∀x∈l,x.lo≤x.hi):Sep (E6 l)∧∀n,M (E6 l) n↔M l n:=by have hs:=Iz l;have h:=Ao (Em l) [] Zp hs.2 (fun x hx=>hf x (hs.1.mem_iff.1 hx)) (by simp);refine⟨h.1,fun n=> ?_⟩;rw[E6,h.2 n,Bw,false_or,j1l hs.1]
def pieces(f:Int→Bool):List Int→List Iv
 |c::d::r=>(if f c=true then [⟨c,d - 1⟩]else [])++pieces f (d::r)
 |_=>[]
end Go.Abs
namespace Go.Abs
open Go Go.Proofs
attribute [local irreducible] f1e y0h Mj
def w2g(x y:Bool):Bool:=x || y
def q27(x y:Bool):Bool:=x && y
def q2k(a b:List Iv):Bool×Int:=if y0h a b=0 then(decide (Mj v1d a b=[]),0)else(false,y0h a b)
end Go.Abs
namespace Go.Abs
open Go Go.Proofs
def Re:List Iv→Int→List Iv
 |[],n=>if n≤1099511627776 then [⟨n,1099511627776⟩]else []
 |x::r,n=>(if n<x.lo then [⟨n,x.lo - 1⟩]else [])++Re r (x.hi+1)
def W7(l:List Iv):List Iv:=Re l (-1099511627776)
end Go.Abs
namespace Go.Abs
open Go
theorem j0h:∀(l:List Iv) (z:Int),z∈Bc l↔∃x∈l,z=x.lo∨z=x.hi+1
 |[],z=>by simp[Bc]
 |y::r,z=>by rw[Bc,zU,zU,j0h r z];simp[or_assoc]
theorem Cy(zs:List Int)(hs:zs.Pairwise (·≤·)):∀m,m≤zs.length→
  (Lib.compactUpTo zs.toArray m).Pairwise (·<·)∧(∀z,z∈Lib.compactUpTo zs.toArray m↔z∈zs.take m):=by
 intro m;induction m with
 |zero=>exact fun _=>⟨by simp[Lib.compactUpTo],by simp[Lib.compactUpTo]⟩
 |succ m ih=>
  intro hm;obtain⟨h1,h2⟩:=ih (by omega);have z1:m<zs.length:=by omega
  have hg:zs.toArray[m]! =zs[m]:=by simp[z1]
  rw[Lib.compactUpTo_succ];have ht:zs.take (m+1)=zs.take m++[zs[m]]:=by rw[zJ z1]
  by_cases hk:Lib.keeps zs.toArray m=true
  ·rw[if_pos hk,hg,ht];refine⟨zZ.2 ⟨h1,by simp,fun u hu v hv=> ?_⟩,fun z=>by rw[zO,zO,h2]⟩;simp at hv;subst hv;obtain⟨i,hi,rfl⟩:=yH ((h2 u).1 hu);have za:i<m:=by simp at hi;omega
   rw[uW];have zb:zs[m]≠zs[m - 1]:=by
    simp[Lib.keeps]at hk;have z6:m≠0:=by omega
    have hk:=hk.resolve_left z6;simpa[z1,show m - 1<zs.length by omega]using hk
   have a1:zs[i]≤zs[m - 1]:=by
    rcases Nat.lt_or_ge i (m - 1)with h|h
    ·exact yC.1 hs i (m - 1) (by omega) (by omega) h
    ·have:i=m - 1:=by omega
     subst this;exact yG _
   have a2:zs[m - 1]≤zs[m]:=yC.1 hs (m - 1) m (by omega) (by omega) (by omega);omega
  ·rw[if_neg hk,List.append_nil,ht];refine⟨h1,fun z=> ?_⟩;rw[h2,zO];refine⟨.inl,fun h=>h.elim id fun h=> ?_⟩;simp at h;subst h;simp only[Lib.keeps,decide_eq_true_eq,not_or]at hk;have z7:m - 1<zs.length:=by omega
   have z8:zs[m]=zs[m - 1]:=by simpa[z1,z7]using hk.2
   rw[z8];exact List.mem_take_iff_getElem.2 ⟨m - 1,by omega,rfl⟩
theorem x08(l:List Iv):(f02 l).Pairwise (·<·)∧∀z,z∈f02 l↔∃x∈l,z=x.lo∨z=x.hi+1:=by
 have hs:(Rp (Bc l)).Pairwise (·≤·):=by have:=vS (le:=fun x y:Int=>decide (x≤y)) (fun a b c h1 h2=>by simp at h1 h2 ⊢;omega) (fun a b=>by simp;omega) (Bc l);simpa[Rp]using this
 have h:=Cy _ hs _ (zI _);refine⟨h.1,fun z=> ?_⟩;have h2:=h.2 z;rw[zX]at h2;rw[f02,Lib.compact,h2,Rp,uT,j0h]
theorem k0d(l:List Iv)(cs:List Int)(h:∀x∈l,x.lo∈cs∧x.hi+1∈cs)(c n:Int)(hc:c≤n)(hm:∀d∈cs,d≤n→d≤c):Ol l n=Ol l c:=by
 rw[yV,Nb,Nb];constructor
 ·rintro⟨x,hx,h1,h2⟩;have:=hm _ (h x hx).1 h1;exact⟨x,hx,this,by omega⟩
 ·rintro⟨x,hx,h1,h2⟩;refine⟨x,hx,by omega,?_⟩;by_cases hn:x.hi+1≤n
  ·have:=hm _ (h x hx).2 hn;omega
  ·omega
theorem v0h{l:List Iv}(h:Sep l)(hb:∀n,M l n→ -1099511627776≤n∧n≤1099511627776):∀x∈l,O4 x:=fun x hx=>
 ⟨(Ec _).2 (hb _ ⟨x,hx,yG _,h.1 x hx⟩),(Ec _).2 (hb _ ⟨x,hx,h.1 x hx,yG _⟩)⟩
theorem Il:∀(l:List Iv) (s:Int),(∀x∈l,x.lo≤x.hi∧x.hi≤1099511627776)→l.Pairwise (fun x y=>x.hi+2≤y.lo)→(∀x∈l,s≤x.lo)→
  Sep (Re l s)∧(∀n,M (Re l s) n↔s≤n∧n≤1099511627776∧¬M l n)∧(Re l s).length≤l.length+1
 |[],s,_,_,_=>by
  rw[Re];split
  ·exact⟨⟨fun x hx=>by simp at hx;subst hx;assumption,by simp⟩,fun n=>by rw[El,Bw];simp[Bw],by simp⟩
  ·exact⟨Zp,fun n=>by simp[Bw];omega,by simp⟩
 |x::l,s,hf,hp,hs=>by
  have hx:=hf x (by simp);have z7:=hs x (by simp);have z1:=(z_.1 hp).1;obtain⟨i1,i2,i3⟩:=Il l (x.hi+1) (fun y hy=>hf y (by simp[hy])) (z_.1 hp).2 (fun y hy=>by have:=z1 y hy;omega);have z6:∀n,M l n→x.hi+2≤n:=by rintro n ⟨y,hy,h1,h2⟩;have:=z1 y hy;omega
  rw[Re];split
  ·refine⟨⟨fun y hy=> ?_,?_⟩,fun n=> ?_,by simp;omega⟩
   ·rcases zO.1 hy with h|h
    ·simp at h;subst h;simp only;omega
    ·exact i1.1 y h
   ·refine zZ.2 ⟨by simp,i1.2,fun u hu v hv=> ?_⟩;simp at hu;subst hu;have:=(i2 v.lo).1 ⟨v,hv,yG _,i1.1 v hv⟩;simp only;omega
   ·rw[Lr,i2,El,Bw,El];by_cases hm:M l n
    ·have:=z6 n hm;simp[hm];omega
    ·simp only[hm,not_false_eq_true,and_true,or_false];omega
  ·refine⟨⟨fun y hy=>i1.1 y (by simpa using hy),by simpa using i1.2⟩,fun n=> ?_,by simp;omega⟩;rw[List.nil_append,i2,El];by_cases hm:M l n
   ·simp[hm]
   ·simp only[hm,not_false_eq_true,and_true,or_false];omega
theorem U2{l:List Iv}(h:CanonL l):Sep (W7 l)∧(∀n,M (W7 l) n↔(-1099511627776≤n∧n≤1099511627776)∧¬M l n)∧(W7 l).length≤l.length+1:=by have hs:=P7 h;have hi:=Lf h;have:=Il l (-1099511627776) (fun x hx=>⟨hs.1 x hx,((Ec _).1 (hi x hx).2).2⟩) hs.2 (fun x hx=>((Ec _).1 (hi x hx).1).1);exact⟨this.1,fun n=>by rw[W7,this.2.1,and_assoc],this.2.2⟩
def Ob(x y:Iv):Option Iv:=if(if x.lo<y.lo then y.lo else x.lo)≤(if y.hi<x.hi then y.hi else x.hi)then some ⟨if x.lo<y.lo then y.lo else x.lo,if y.hi<x.hi then y.hi else x.hi⟩else none
def Es(a b:List Iv):List Iv:=a.flatMap fun x=>b.filterMap (Ob x)
theorem Fe{x y z:Iv}(h:Ob x y=some z):z.lo≤z.hi∧∀n,(z.lo≤n∧n≤z.hi)↔(x.lo≤n∧n≤x.hi)∧(y.lo≤n∧n≤y.hi):=by
 unfold Ob at h;by_cases hle:(if x.lo<y.lo then y.lo else x.lo)≤(if y.hi<x.hi then y.hi else x.hi)
 ·rw[if_pos hle]at h;cases h;refine⟨hle,fun n=> ?_⟩;simp only;split<;>split<;>omega
 ·rw[if_neg hle]at h;cases h
theorem g1a{x y:Iv}{n:Int}(h1:x.lo≤n∧n≤x.hi)(h2:y.lo≤n∧n≤y.hi):∃z,Ob x y=some z∧z.lo≤n∧n≤z.hi:=by
 unfold Ob;have:(if x.lo<y.lo then y.lo else x.lo)≤(if y.hi<x.hi then y.hi else x.hi):=by split<;>split<;>omega
 rw[if_pos this];refine⟨_,rfl,?_,?_⟩<;>simp only<;>split<;>omega
theorem Aw(a b:List Iv):(∀x∈Es a b,x.lo≤x.hi)∧∀n,M (Es a b) n↔M a n∧M b n:=by
 constructor
 ·intro z hz;obtain⟨x,_,hz⟩:=xL.1 hz;obtain⟨y,_,h⟩:=wM.1 hz;exact(Fe h).1
 ·intro n;constructor
  ·rintro⟨z,hz,h1⟩;obtain⟨x,hx,hz⟩:=xL.1 hz;obtain⟨y,hy,h⟩:=wM.1 hz;have:=((Fe h).2 n).1 h1;exact⟨⟨x,hx,this.1⟩,⟨y,hy,this.2⟩⟩
  ·rintro⟨⟨x,hx,h1⟩,⟨y,hy,h2⟩⟩;obtain⟨z,hz,h3⟩:=g1a h1 h2;exact⟨z,xL.2 ⟨x,hx,wM.2 ⟨y,hy,hz⟩⟩,h3⟩
def Rk(a b:List Iv):List Iv:=E6 (Es a b)
theorem Iq(a b:List Iv):Sep (Rk a b)∧∀n,M (Rk a b) n↔M a n∧M b n:=by have h:=Y9 (Es a b) (Aw a b).1;exact⟨h.1,fun n=>by rw[Rk,h.2,(Aw a b).2]⟩
end Go.Abs
namespace Go.Abs
open Go
def b2(b:Bool):Int:=if b=true then 1 else 0
def cnt(p:Int→Bool)(A:Int):Nat→Int
 |0=>0
 |n+1=>cnt p A n+b2 (p (A+n))
def inI(lo hi k:Int):Bool:=decide (lo≤k) && decide (k≤hi)
theorem V3(lo hi k:Int):inI lo hi k=true↔lo≤k∧k≤hi:=by simp[inI]
theorem w1z(x:Iv)(l:List Iv)(k:Int):Ol (x::l) k=(inI x.lo x.hi k || Ol l k):=by simp[Ol,inI]
end Go.Abs
namespace Go.Abs
open Go
end Go.Abs
namespace Go.Abs
open Go
end Go.Abs
namespace Go.Abs
open Go
def v1s(x y:Iv):Bool:=decide (y.lo<x.lo) && decide (x.lo≤y.hi)
def x0b(x y:Iv):Bool:=decide (x.lo≤y.lo) && decide (y.lo≤x.hi)
theorem x0r(x:Iv):∀(b:List Iv),(b.filterMap (Ob x)).length≤b.countP (v1s x)+b.countP (x0b x)
 |[]=>by simp
 |y::b=>by
  have ih:=x0r x b;rw[wT,wT];cases h:Ob x y with
  |none=>rw[List.filterMap_cons_none h];omega
  |some z=>
   rw[List.filterMap_cons_some h,yB];have hz:=Fe h;have hm:=(hz.2 z.lo).1 ⟨yG _,hz.1⟩;have:v1s x y=true∨x0b x y=true:=by simp[v1s,x0b];omega
   rcases this with h'|h'<;>rw[if_pos h']<;>omega
theorem k0h(x:Iv):∀(b:List Iv),Sep b→b.countP (v1s x)≤1
 |[],_=>by simp
 |y::b,hs=>by
  rw[wT];split
  ·rename_i h;simp[v1s]at h;have:b.countP (v1s x)=0:=uN.2 fun z hz=>by have:=(z_.1 hs.2).1 z hz;simp[v1s];omega
   omega
  ·have:=k0h x b hs.tail;omega
theorem N5(y:Iv):∀(a:List Iv),Sep a→a.countP (fun x=>x0b x y)≤1
 |[],_=>by simp
 |x::a,hs=>by
  rw[wT];split
  ·rename_i h;simp[x0b]at h;have:a.countP (fun x=>x0b x y)=0:=uN.2 fun z hz=>by have:=(z_.1 hs.2).1 z hz;simp[x0b];omega
   omega
  ·have:=N5 y a hs.tail;omega
theorem Nw(a:List Iv)(ha:Sep a):∀(b:List Iv),(a.map fun x=>b.countP (x0b x)).sum≤b.length
 |[]=>by
  have:∀a:List Iv,(a.map fun x=>([]:List Iv).countP (x0b x)).sum=0:=fun a=>by
   induction a with
   |nil=>rfl
   |cons x a ih=>simpa using ih
  rw[this];simp
 |y::b=>by
  have ih:=Nw a ha b;have h1:=N5 y a ha;have:∀a:List Iv,(a.map fun x=>(y::b).countP (x0b x)).sum=(a.map fun x=>b.countP (x0b x)).sum+a.countP (fun x=>x0b x y):=fun a=>by
   induction a with
   |nil=>rfl
   |cons x a ih=>rw[yK,uu,ih,yK,uu,wT,wT];omega
  rw[this,yB];omega
theorem Xf(a b:List Iv)(ha:Sep a)(hb:Sep b):(Es a b).length≤a.length+b.length:=by
 have h:∀a:List Iv,(Es a b).length≤a.length+(a.map fun x=>b.countP (x0b x)).sum:=fun a=>by
  induction a with
  |nil=>simp[Es]
  |cons x a ih=>have e:Es (x::a) b=b.filterMap (Ob x)++Es a b:=rfl;have h1:=x0r x b;have h2:=k0h x b hb;rw[e,List.length_append,yK,uu,yB];omega
 have h1:=h a;have h2:=Nw a ha b;omega
theorem c08{a b:List Iv}(h:(∀x∈a,O4 x)∨(∀y∈b,O4 y)):∀z∈Es a b,O4 z:=by
 intro z hz;have hp:=Aw a b;have hf:=hp.1 z hz;have m1:=(hp.2 z.lo).1 ⟨z,hz,yG _,hf⟩;have m2:=(hp.2 z.hi).1 ⟨z,hz,hf,yG _⟩;have key:∀l:List Iv,(∀x∈l,O4 x)→∀n,M l n→inB n=true:=fun l hl n ⟨x,hx,h1,h2⟩=>by have h3:=(Ec _).1 (hl x hx).1;have h4:=(Ec _).1 (hl x hx).2;exact(Ec _).2 (by omega)
 rcases h with h|h
 ·exact⟨key a h _ m1.1,key a h _ m2.1⟩
 ·exact⟨key b h _ m1.2,key b h _ m2.2⟩
end Go.Abs
namespace Go.Abs
abbrev Prd:=List (List Iv)
def PM(p:Prd)(t:Nat)(n:Int):Prop:=∃s,p[t]? =some s∧M s n
def inR(n:Int):Prop:= -1099511627776≤n∧n≤1099511627776
def PWf(T:Nat)(p:Prd):Prop:=p.length=T∧∀s∈p,Sep s∧∀n,M s n→inR n
theorem PWf.lt{T:Nat}{p:Prd}(h:PWf T p){t:Nat}{n:Int}(hm:PM p t n):t<T∧inR n:=by obtain⟨s,hs,hn⟩:=hm;exact⟨by rw[←h.1];exact(zA.1 hs).1,(h.2 s (zD hs)).2 n hn⟩
theorem Gq{T:Nat}{p q:Prd}(hp:PWf T p)(hq:PWf T q)(h:∀t n,PM p t n↔PM q t n):p=q:=by apply List.ext_getElem (by rw[hp.1,hq.1]);intro i h1 h2;refine v0j _ _ (hp.2 _ (zG h1)).1 (hq.2 _ (zG h2)).1 fun n=> ?_;have:=h i n;unfold PM at this;rw[zF h1,zF h2]at this;simpa using this
def Aj(t:Nat)(n:Int)(t':Nat)(n':Int):Prop:=t<t'∨t=t'∧n<n'
theorem Aj.irr{t:Nat}{n:Int}(h:Aj t n t n):False:=by unfold Aj at h;omega
theorem Aj.trans{a b c:Nat}{x y z:Int}(h:Aj a x b y)(k:Aj b y c z):Aj a x c z:=by unfold Aj at *;omega
def g1u(l:List Prd)(t:Nat)(n:Int)(t':Nat)(n':Int):Prop:=∀p∈l,PM p t n↔PM p t' n'
structure Prts (T:Nat) (l L:List Prd):Prop where
 wf:∀p∈L,PWf T p
 ne:∀p∈L,∃t n,PM p t n
 all:∀t n,t<T→inR n→∃p∈L,PM p t n
 cls:∀p∈L,∀t n,PM p t n→∀t' n',PM p t' n'↔t'<T∧inR n'∧g1u l t n t' n'
def w02(p q:Prd):Prop:=∃t n,PM p t n∧∀t' n',PM q t' n'→Aj t n t' n'
theorem w02.irr{p:Prd}(h:w02 p p):False:=by obtain⟨t,n,h1,h2⟩:=h;exact(h2 t n h1).irr
theorem w02.asymm{p q:Prd}(h:w02 p q)(k:w02 q p):False:=by obtain⟨t,n,h1,h2⟩:=h;obtain⟨t',n',k1,k2⟩:=k;exact((h2 t' n' k1).trans (k2 t n h1)).irr
theorem Prts.same{T:Nat}{l L L':List Prd}(h:Prts T l L)(h':Prts T l L'){p:Prd}(hp:p∈L):p∈L':=by
 obtain⟨t,n,hm⟩:=h.ne p hp;obtain⟨ht,hn⟩:=(h.wf p hp).lt hm;obtain⟨q,hq,z1⟩:=h'.all t n ht hn;have:p=q:=Gq (h.wf p hp) (h'.wf q hq) fun t' n'=>by rw[h.cls p hp t n hm,h'.cls q hq t n z1]
 rw[this];exact hq
theorem Prts.unique{T:Nat}{l L L':List Prd}(h:Prts T l L)(h':Prts T l L')(s:L.Pairwise w02)(s':L'.Pairwise w02):L=L':=by have z1:∀ {X:List Prd},X.Pairwise w02→X.Nodup:=fun hx=>hx.imp (fun h e=>by subst e;exact h.irr);refine List.Perm.eq_of_pairwise (le:=w02) (fun a b _ _ h1 h2=>(h1.asymm h2).elim) s s' ?_;exact(uo (z1 s) (z1 s')).2 fun p=>⟨h.same h',h'.same h⟩
theorem Prts.disj{T:Nat}{l L:List Prd}(h:Prts T l L){p q:Prd}(hp:p∈L)(hq:q∈L){t:Nat}{n:Int}(h1:PM p t n)(h2:PM q t n):p=q:=
 Gq (h.wf p hp) (h.wf q hq) fun t' n'=>by rw[h.cls p hp t n h1,h.cls q hq t n h2]
theorem Prts.perm{T:Nat}{l L L':List Prd}(h:Prts T l L)(e:L.Perm L'):Prts T l L':=
 ⟨fun p hp=>h.wf p (e.mem_iff.2 hp),fun p hp=>h.ne p (e.mem_iff.2 hp),fun t n a b=>by obtain⟨p,hp,hm⟩:=h.all t n a b;exact⟨p,e.mem_iff.1 hp,hm⟩,fun p hp=>h.cls p (e.mem_iff.2 hp)⟩
def Wg(T:Nat):Prd:=zT T (W7 [])
def Wf(c p:Prd):Prd:=tx Rk c p
def W2(p:Prd):Prd:=p.map W7
def Wk(p:Prd):Bool:=p.all (·.isEmpty)
def Ej(p:Prd)(L:List Prd):List Prd:=L.flatMap fun c=>(if Wk (Wf c p)then []else [Wf c p])++(if Wk (Wf c (W2 p))then []else [Wf c (W2 p)])
def Eg(T:Nat)(l:List Prd):List Prd:=l.foldl (fun L p=>Ej p L) [Wg T]
def PCk(T:Nat)(p:Prd):Prop:=p.length=T∧∀s∈p,CanonL s
theorem PCk.wf{T:Nat}{p:Prd}(h:PCk T p):PWf T p:=⟨h.1,fun s hs=>⟨P7 (h.2 s hs),fun n hn=>x15 (h.2 s hs) hn⟩⟩
theorem P3:CanonL []:=⟨by simp,by simp,fun j h=>by simp at h⟩
theorem Du(T t:Nat)(n:Int):PM (Wg T) t n↔t<T∧inR n:=by
 unfold PM Wg;have hg:=(U2 P3).2.1 n;constructor
 ·rintro⟨s,hs,hm⟩;rw[vw]at hs;split at hs
  ·cases hs;exact⟨by assumption,(hg.1 hm).1⟩
  ·cases hs
 ·rintro⟨h1,h2⟩;exact⟨W7 [],by rw[vw,if_pos h1],hg.2 ⟨h2,by simp[M]⟩⟩
theorem L5(T:Nat):PWf T (Wg T):=⟨by simp[Wg],fun s hs=>by
 obtain rfl:=wB hs;exact⟨(U2 P3).1,fun n hn=>(((U2 P3).2.1 n).1 hn).1⟩⟩
theorem Rc{T:Nat}{c p:Prd}(hc:c.length=T)(hp:p.length=T)(t:Nat)(n:Int):PM (Wf c p) t n↔PM c t n∧PM p t n:=by
 unfold PM Wf;constructor
 ·rintro⟨s,hs,hm⟩;rw[wO]at hs;cases h1:c[t]? with
  |none=>rw[h1]at hs;simp at hs
  |some a=>
   cases h2:p[t]? with
   |none=>rw[h1,h2]at hs;simp at hs
   |some b=>rw[h1,h2]at hs;simp at hs;subst hs;have:=((Iq a b).2 n).1 hm;exact⟨⟨a,rfl,this.1⟩,⟨b,rfl,this.2⟩⟩
 ·rintro⟨⟨a,h1,m1⟩,⟨b,h2,m2⟩⟩;exact⟨Rk a b,by rw[wO,h1,h2],((Iq a b).2 n).2 ⟨m1,m2⟩⟩
theorem Yo{T:Nat}{c p:Prd}(hc:PWf T c)(hp:p.length=T):PWf T (Wf c p):=by
 refine⟨by simp[Wf,hc.1,hp],fun s hs=> ?_⟩;obtain⟨i,hi⟩:=yE.1 hs;unfold Wf at hi;rw[wO]at hi;cases h1:c[i]? with
 |none=>rw[h1]at hi;simp at hi
 |some a=>
  cases h2:p[i]? with
  |none=>rw[h1,h2]at hi;simp at hi
  |some b=>rw[h1,h2]at hi;simp at hi;subst hi;exact⟨(Iq a b).1,fun n hn=>(hc.2 a (zD h1)).2 n (((Iq a b).2 n).1 hn).1⟩
theorem K4{T:Nat}{p:Prd}(hp:PCk T p)(t:Nat)(n:Int):PM (W2 p) t n↔(t<T∧inR n)∧¬PM p t n:=by
 unfold PM W2;rw[zQ];constructor
 ·rintro⟨s,hs,hm⟩;obtain⟨a,ha,rfl⟩:=zL.1 hs;have hg:=((U2 (hp.2 a (zD ha))).2.1 n).1 hm;refine⟨⟨by rw[←hp.1];exact(zA.1 ha).1,hg.1⟩,?_⟩;rintro⟨b,hb,z1⟩;rw[ha]at hb;cases hb;exact hg.2 z1
 ·rintro⟨⟨h1,h2⟩,h3⟩;have hl:t<p.length:=by rw[hp.1];exact h1
  refine⟨W7 p[t],by rw[zF hl];rfl,((U2 (hp.2 _ (zG hl))).2.1 n).2 ⟨h2,fun hm=>h3 ⟨_,zF hl,hm⟩⟩⟩
theorem E4{T:Nat}{p:Prd}(h:PWf T p):Wk p=true↔∀t n,¬PM p t n:=by
 unfold Wk;rw[zP];constructor
 ·rintro hv t n ⟨s,hs,hm⟩;have:=hv s (zD hs);rw[List.isEmpty_iff]at this;subst this;simp[M]at hm
 ·intro hv s hs;obtain⟨i,hi⟩:=yE.1 hs;cases s with
  |nil=>rfl
  |cons x s=>exact absurd ⟨_,hi,(El ..).2 (.inl ⟨yG _,(h.2 _ hs).1.1 x (by simp)⟩)⟩ (hv i x.lo)
theorem H4{T:Nat}{l L:List Prd}{p:Prd}(h:Prts T l L)(hp:PCk T p):Prts T (l++[p]) (Ej p L):=by
 have z6:(W2 p).length=T:=by simp[W2,hp.1]
 have z1:∀q,q∈Ej p L↔∃c∈L,((q=Wf c p)∨(q=Wf c (W2 p)))∧Wk q=false:=by
  intro q;unfold Ej;rw[xL];constructor
  ·rintro⟨c,hc,hq⟩;refine⟨c,hc,?_⟩;rcases zO.1 hq with hq|hq
   ·split at hq
    ·cases hq
    ·rename_i hv;obtain rfl:=zK.1 hq;exact⟨.inl rfl,by simpa using hv⟩
   ·split at hq
    ·cases hq
    ·rename_i hv;obtain rfl:=zK.1 hq;exact⟨.inr rfl,by simpa using hv⟩
  ·rintro⟨c,hc,hq,hv⟩;refine⟨c,hc,zO.2 ?_⟩;rcases hq with rfl|rfl
   ·left;rw[if_neg (by rw[hv];decide)];simp
   ·right;rw[if_neg (by rw[hv];decide)];simp
 have z7:∀q∈Ej p L,PWf T q:=fun q hq=>by
  obtain⟨c,hc,rfl|rfl,_⟩:=(z1 q).1 hq
  ·exact Yo (h.wf c hc) hp.1
  ·exact Yo (h.wf c hc) z6
 have zb:∀q∈Ej p L,∃t n,PM q t n:=fun q hq=>by
  obtain⟨c,hc,_,hv⟩:=(z1 q).1 hq;by_cases hx:∃t n,PM q t n
  ·exact hx
  ·exfalso;have:Wk q=true:=(E4 (z7 q hq)).2 fun t n hm=>hx ⟨t,n,hm⟩;rw[this]at hv;cases hv
 refine⟨z7,zb,fun t n ht hn=> ?_,fun q hq t n hm t' n'=> ?_⟩
 ·obtain⟨c,hc,z8⟩:=h.all t n ht hn;have hv:∀q,(q=Wf c p∨q=Wf c (W2 p))→PM q t n→q∈Ej p L:=fun q hq hm=>(z1 q).2 ⟨c,hc,hq,by
   have hw:PWf T q:=by
    rcases hq with rfl|rfl
    ·exact Yo (h.wf c hc) hp.1
    ·exact Yo (h.wf c hc) z6
   cases hvq:Wk q with
   |false=>rfl
   |true=>exact absurd hm ((E4 hw).1 hvq t n)⟩
  by_cases za:PM p t n
  ·have:=(Rc (h.wf c hc).1 hp.1 t n).2 ⟨z8,za⟩;exact⟨_,hv _ (.inl rfl) this,this⟩
  ·have:=(Rc (h.wf c hc).1 z6 t n).2 ⟨z8,(K4 hp t n).2 ⟨⟨ht,hn⟩,za⟩⟩;exact⟨_,hv _ (.inr rfl) this,this⟩
 ·obtain⟨c,hc,zc,_⟩:=(z1 q).1 hq;have zd:g1u (l++[p]) t n t' n'↔g1u l t n t' n'∧(PM p t n↔PM p t' n'):=by
   constructor
   ·exact fun hs=>⟨fun r hr=>hs r (by simp[hr]),hs p (by simp)⟩
   ·rintro⟨h1,h2⟩ r hr;rcases zO.1 hr with hr|hr
    ·exact h1 r hr
    ·obtain rfl:=zK.1 hr;exact h2
  rw[zd];rcases zc with rfl|rfl
  ·obtain⟨m1,m2⟩:=(Rc (h.wf c hc).1 hp.1 t n).1 hm;rw[Rc (h.wf c hc).1 hp.1,h.cls c hc t n m1];constructor
   ·rintro⟨⟨h1,h2,h3⟩,h4⟩;exact⟨h1,h2,h3,fun _=>h4,fun _=>m2⟩
   ·rintro⟨h1,h2,h3,h4⟩;exact⟨⟨h1,h2,h3⟩,h4.1 m2⟩
  ·obtain⟨m1,m2⟩:=(Rc (h.wf c hc).1 z6 t n).1 hm;have m3:=((K4 hp t n).1 m2).2;rw[Rc (h.wf c hc).1 z6,h.cls c hc t n m1,K4 hp];constructor
   ·rintro⟨⟨h1,h2,h3⟩,h4⟩;exact⟨h1,h2,h3,fun h=>absurd h m3,fun h=>absurd h h4.2⟩
   ·rintro⟨h1,h2,h3,h4⟩;exact⟨⟨h1,h2,h3⟩,⟨h1,h2⟩,fun h=>m3 (h4.2 h)⟩
theorem Ja(T:Nat)(hT:0<T):Prts T [] [Wg T]:=by
 refine⟨fun p hp=> ?_,fun p hp=> ?_,fun t n ht hn=> ?_,fun p hp t n hm t' n'=> ?_⟩
 ·obtain rfl:=zK.1 hp;exact L5 T
 ·obtain rfl:=zK.1 hp;exact⟨0,0,(Du T 0 0).2 ⟨hT,by unfold inR;omega⟩⟩
 ·exact⟨_,List.mem_singleton_self _,(Du T t n).2 ⟨ht,hn⟩⟩
 ·obtain rfl:=zK.1 hp;rw[Du];exact⟨fun h=>⟨h.1,h.2,fun r hr=>by cases hr⟩,fun h=>⟨h.1,h.2.1⟩⟩
theorem Rj{T:Nat}(hT:0<T){l:List Prd}(hl:∀p∈l,PCk T p):Prts T l (Eg T l):=by
 have key:∀(r d L:List Prd),Prts T d L→(∀p∈r,PCk T p)→Prts T (d++r) (r.foldl (fun L p=>Ej p L) L):=by
  intro r;induction r with
  |nil=>intro d L h _;simpa using h
  |cons p r ih=>intro d L h hr;rw[xB];have:=ih (d++[p]) (Ej p L) (H4 h (hr p (by simp))) (fun q hq=>hr q (by simp[hq]));simpa using this
 have:=key l [] [Wg T] (Ja T hT) hl;simpa[Eg]using this
end Go.Abs
namespace Go.Abs
def Qv:Prd→Nat→Nat×Int
 |[],_=>(0,0)
 |(x::_)::_,i=>(i,x.lo)
 |[]::p,i=>Qv p (i+1)
def w0v(a b:Nat×Int):Bool:=decide (a.1<b.1) || (decide (a.1=b.1) && decide (a.2<b.2))
theorem Bd(a b:Nat×Int):w0v a b=true↔Aj a.1 a.2 b.1 b.2:=by simp[w0v,Aj]
theorem Xm:∀(p:Prd) (i:Nat),(∀s∈p,Sep s)→(∃s∈p,s≠[])→∃t x r,p[t]? =some (x::r)∧Qv p i=(i+t,x.lo)∧∀j,j<t→p[j]? =some []
 |[],_,_,⟨s,hs,_⟩=>by cases hs
 |(x::r)::p,i,_,_=>⟨0,x,r,rfl,rfl,fun j hj=>by omega⟩
 |[]::p,i,h,⟨s,hs,hn⟩=>by
  have z1:s∈p:=by
   rcases zU.1 hs with rfl|hs
   ·exact absurd rfl hn
   ·exact hs
  obtain⟨t,x,r,h1,h2,h3⟩:=Xm p (i+1) (fun s hs=>h s (by simp[hs])) ⟨s,z1,hn⟩;refine⟨t+1,x,r,by simpa using h1,by rw[Qv,h2];congr 1;omega,fun j hj=> ?_⟩;cases j with
  |zero=>rfl
  |succ j=>simpa using h3 j (by omega)
theorem Wz{T:Nat}{p:Prd}(h:PWf T p)(hn:∃t n,PM p t n):PM p (Qv p 0).1 (Qv p 0).2∧∀t n,PM p t n→((Qv p 0).1=t∧(Qv p 0).2=n)∨Aj (Qv p 0).1 (Qv p 0).2 t n:=by
 obtain⟨t0,n0,s0,z1,m0⟩:=hn;have z6:s0≠[]:=fun e=>by subst e;simp[M]at m0
 obtain⟨t,x,r,h1,h2,h3⟩:=Xm p 0 (fun s hs=>(h.2 s hs).1) ⟨s0,zD z1,z6⟩;rw[Nat.zero_add]at h2;rw[h2];have hx:=(h.2 _ (zD h1)).1;refine⟨⟨_,h1,(El ..).2 (.inl ⟨yG _,hx.1 x (by simp)⟩)⟩,fun t' n' hm=> ?_⟩;obtain⟨s,hs,hm⟩:=hm;simp only;rcases vZ t' t with hlt|rfl|hgt
 ·rw[h3 t' hlt]at hs;cases hs;simp[M]at hm
 ·rw[h1]at hs;cases hs;have:=hx.lowc hm;unfold Aj;omega
 ·exact .inr (.inl hgt)
theorem Ko{T:Nat}{p q:Prd}(hp:PWf T p)(z1:∃t n,PM p t n)(hq:PWf T q)(z6:∃t n,PM q t n)(h:Aj (Qv p 0).1 (Qv p 0).2 (Qv q 0).1 (Qv q 0).2):w02 p q:=
 ⟨_,_,(Wz hp z1).1,fun t n hm=>by
  rcases(Wz hq z6).2 t n hm with⟨e1,e2⟩|h2
  ·rw[←e1,←e2];exact h
  ·exact h.trans h2⟩
def Z5(s:List Prd)(x:Prd):Nat→Nat
 |0=>0
 |j+1=>match s[j]? with
  |some y=>if w0v (Qv x 0) (Qv y 0)=true then Z5 s x j else j+1
  |none=>j+1
def Za(s:List Prd)(x:Prd):List Prd:=s.take (Z5 s x s.length)++x::s.drop (Z5 s x s.length)
def Zc(L:List Prd):List Prd:=L.foldl Za []
theorem Cv(s:List Prd)(x:Prd):∀j,j≤s.length→Z5 s x j≤j∧(∀i,Z5 s x j≤i→i<j→∀h:i<s.length,w0v (Qv x 0) (Qv s[i] 0)=true)∧(∀i,i+1=Z5 s x j→∀h:i<s.length,w0v (Qv x 0) (Qv s[i] 0)=false)
 |0,_=>⟨zI _,fun i _ h=>by omega,fun i h=>by simp[Z5]at h⟩
 |j+1,hj=>by
  have z1:j<s.length:=by omega
  rw[Z5,zF z1];simp only;by_cases hb:w0v (Qv x 0) (Qv s[j] 0)=true
  ·rw[if_pos hb];obtain⟨h1,h2,h3⟩:=Cv s x j (by omega);refine⟨by omega,fun i hi z6 hl=> ?_,h3⟩;by_cases hij:i=j
   ·subst hij;exact hb
   ·exact h2 i hi (by omega) hl
  ·rw[if_neg hb];refine⟨zI _,fun i hi z6=>by omega,fun i hi hl=> ?_⟩;have:i=j:=by omega
   subst this;simpa using hb
theorem O9(s:List Prd)(x:Prd):(Za s x).Perm (x::s):=by unfold Za;refine vv.trans ?_;rw[xM]
def Lu(p q:Prd):Prop:=Aj (Qv p 0).1 (Qv p 0).2 (Qv q 0).1 (Qv q 0).2
theorem Na{s:List Prd}{x:Prd}(hs:s.Pairwise Lu)(hd:∀y∈s,Qv y 0≠Qv x 0):(Za s x).Pairwise Lu:=by
 obtain⟨h1,h2,h3⟩:=Cv s x s.length (zI _);unfold Za;generalize Z5 s x s.length=k at *
 have z1:=hs;rw[←xM k s]at z1;obtain⟨p1,p2,p3⟩:=zZ.1 z1;have z7:∀y∈s.drop k,Lu x y:=fun y hy=>by obtain⟨i,hi⟩:=yE.1 hy;rw[List.getElem?_drop]at hi;obtain⟨hl,e⟩:=zA.1 hi;have:=h2 (k+i) (by omega) hl hl;rw[e]at this;exact(Bd _ _).1 this
 have z8:∀i,i+1=k→∀h:i<s.length,Lu s[i] x:=fun i hi hl=>by
  have h4:=h3 i hi hl;have zc:=hd s[i] (zG hl);unfold Lu;rcases vZ (Qv s[i] 0).1 (Qv x 0).1 with a|a|a
  ·exact .inl a
  ·rcases t7 (Qv s[i] 0).2 (Qv x 0).2 with b|b|b
   ·exact .inr ⟨a,b⟩
   ·exact absurd (Prod.ext a b) zc
   ·have:w0v (Qv x 0) (Qv s[i] 0)=true:=(Bd _ _).2 (.inr ⟨a.symm,b⟩);rw[this]at h4;cases h4
  ·have:w0v (Qv x 0) (Qv s[i] 0)=true:=(Bd _ _).2 (.inl a);rw[this]at h4;cases h4
 have z6:∀y∈s.take k,Lu y x:=fun y hy=>by
  obtain⟨i,hi⟩:=yE.1 hy;rw[List.getElem?_take]at hi;split at hi
  ·rename_i zd;obtain⟨hl,e⟩:=zA.1 hi;obtain⟨k',rfl⟩:∃k',k=k'+1:=⟨k - 1,by omega⟩
   have za:k'<s.length:=by omega
   have zb:=z8 k' rfl za;by_cases hij:i=k'
   ·subst hij;rw[←e];exact zb
   ·have:=yC.1 hs i k' hl za (by omega);rw[e]at this;exact Aj.trans this zb
  ·cases hi
 refine zZ.2 ⟨p1,z_.2 ⟨z7,p2⟩,fun y hy z hz=> ?_⟩;rcases zU.1 hz with rfl|hz
 ·exact z6 y hy
 ·exact p3 y hy z hz
theorem H7(L:List Prd)(hd:L.Pairwise (fun p q=>Qv p 0≠Qv q 0)):(Zc L).Perm L∧(Zc L).Pairwise Lu:=by
 have key:∀(r s:List Prd),s.Pairwise Lu→(s++r).Pairwise (fun p q=>Qv p 0≠Qv q 0)→(r.foldl Za s).Perm (s++r)∧(r.foldl Za s).Pairwise Lu:=by
  intro r;induction r with
  |nil=>intro s h _;simpa using h
  |cons x r ih=>intro s h hd;obtain⟨d1,d2,d3⟩:=zZ.1 hd;have hi:=Na h (fun y hy=>d3 y hy x (by simp));have hp:=O9 s x;have z1:(Za s x++r).Perm (s++x::r):=(hp.append_right r).trans (vv (l₁:=s) (a:=x) (l₂:=r)).symm;have z6:(Za s x++r).Pairwise (fun p q=>Qv p 0≠Qv q 0):=(z1.pairwise_iff (fun h=>Ne.symm h)).2 hd;obtain⟨i1,i2⟩:=ih (Za s x) hi z6;rw[xB];exact⟨i1.trans z1,i2⟩
 have h:=key L [] List.Pairwise.nil (by simpa using hd);unfold Zc;simpa using h
def Qy(T:Nat)(l:List Prd):List Prd:=Zc (Eg T l)
theorem Cp{T:Nat}{l L:List Prd}{p:Prd}(h:Prts T l L)(hp:PCk T p)(hd:L.Pairwise (fun a b=>∀t n,PM a t n→¬PM b t n)):(Ej p L).Pairwise (fun a b=>∀t n,PM a t n→¬PM b t n):=by
 have z7:(W2 p).length=T:=by simp[W2,hp.1]
 have z8:∀c∈L,∀q∈(if Wk (Wf c p)then []else [Wf c p])++(if Wk (Wf c (W2 p))then []else [Wf c (W2 p)]),∀t n,PM q t n→PM c t n:=by
  intro c hc q hq t n hm;rcases zO.1 hq with hq|hq
  ·split at hq
   ·cases hq
   ·obtain rfl:=zK.1 hq;exact((Rc (h.wf c hc).1 hp.1 t n).1 hm).1
  ·split at hq
   ·cases hq
   ·obtain rfl:=zK.1 hq;exact((Rc (h.wf c hc).1 z7 t n).1 hm).1
 unfold Ej;rw[vT];refine⟨fun c hc=> ?_,?_⟩
 ·refine zZ.2 ⟨by split<;>simp,by split<;>simp,fun a ha b hb t n z1 z6=> ?_⟩;split at ha
  ·cases ha
  ·split at hb
   ·cases hb
   ·obtain rfl:=zK.1 ha;obtain rfl:=zK.1 hb;exact((K4 hp t n).1 ((Rc (h.wf c hc).1 z7 t n).1 z6).2).2 ((Rc (h.wf c hc).1 hp.1 t n).1 z1).2
 ·exact hd.imp_of_mem (fun {a b} ha hb hab x hx y hy t n z1 z6=>hab t n (z8 a ha x hx t n z1) (z8 b hb y hy t n z6))
theorem S0{T:Nat}(hT:0<T){l:List Prd}(hl:∀p∈l,PCk T p):(Eg T l).Pairwise (fun a b=>∀t n,PM a t n→¬PM b t n):=by
 have key:∀(r d L:List Prd),Prts T d L→(∀p∈r,PCk T p)→L.Pairwise (fun a b=>∀t n,PM a t n→¬PM b t n)→(r.foldl (fun L p=>Ej p L) L).Pairwise (fun a b=>∀t n,PM a t n→¬PM b t n):=by
  intro r;induction r with
  |nil=>intro d L _ _ h;simpa using h
  |cons p r ih=>intro d L h hr hd;rw[xB];exact ih (d++[p]) (Ej p L) (H4 h (hr p (by simp))) (fun q hq=>hr q (by simp[hq])) (Cp h (hr p (by simp)) hd)
 exact key l [] [Wg T] (Ja T hT) hl (by simp)
theorem Ud{T:Nat}(hT:0<T){l:List Prd}(hl:∀p∈l,PCk T p):Prts T l (Qy T l)∧(Qy T l).Pairwise w02:=by
 have h:=Rj hT hl;have hd:(Eg T l).Pairwise (fun p q=>Qv p 0≠Qv q 0):=(S0 hT hl).imp_of_mem (fun {a b} ha hb hab e=>by
  have h1:=(Wz (h.wf a ha) (h.ne a ha)).1;have h2:=(Wz (h.wf b hb) (h.ne b hb)).1;rw[←e]at h2;exact hab _ _ h1 h2)
 obtain⟨h1,h2⟩:=H7 _ hd;have h3:Prts T l (Qy T l):=h.perm h1.symm;refine⟨h3,?_⟩;exact h2.imp_of_mem (fun {a b} ha hb hab=>Ko (h3.wf a ha) (h3.ne a ha) (h3.wf b hb) (h3.ne b hb) hab)
end Go.Abs
namespace Go.Abs
def Q7(l:List Prd)(i:Nat):List Iv:=l.flatMap fun p=>p.getD i []
def Q9(l:List Prd)(i:Nat):List Int:=f02 (⟨-1099511627776,1099511627776⟩::Q7 l i)
def Ti:List Int→List Iv
 |a::b::r=>⟨a,b - 1⟩::Ti (b::r)
 |_=>[]
def Up(l:List Prd)(i:Nat)(n:Int):List Bool:=l.map fun p=>Ol (p.getD i []) n
def Y4(p:Prd)(i:Nat)(x:Iv):Prd:=p.set i (p.getD i []++[x])
def Tx(T i:Nat)(sg:List Bool)(x:Iv):List (List Bool×Prd)→List (List Bool×Prd)
 |[]=>[(sg,Y4 (zT T []) i x)]
 |(s,p)::r=>if s=sg then(s,Y4 p i x)::r else(s,p)::Tx T i sg x r
def Kl(T:Nat)(l:List Prd):List (Nat×Iv):=(yD T).flatMap fun i=>(Ti (Q9 l i)).map fun x=>(i,x)
def Uu(T:Nat)(l:List Prd):List (List Bool×Prd):=(Kl T l).foldl (fun st a=>Tx T a.1 (Up l a.1 a.2.lo) a.2 st) []
def Rb(p:Prd):Prd:=p.map (Q1 [])
def W5(T:Nat)(l:List Prd):List Prd:=(Uu T l).map fun g=>Rb g.2
def u1i(a:Nat×Iv)(t:Nat)(n:Int):Prop:=t=a.1∧a.2.lo≤n∧n≤a.2.hi
structure GInv (T:Nat) (sig:Nat→Int→List Bool) (D:Nat→Int→Prop) (st:List (List Bool×Prd)):Prop where
 len:∀g∈st,g.2.length=T
 asc:∀g∈st,∀s∈g.2,(∀x∈s,x.lo≤x.hi)∧s.Pairwise (fun x y=>x.hi<y.lo)
 mem:∀g∈st,∀t n,PM g.2 t n↔D t n∧sig t n=g.1
 ne:∀g∈st,∃t n,PM g.2 t n
 nd:st.Pairwise (fun g h=>g.1≠h.1)
 all:∀t n,D t n→∃g∈st,g.1=sig t n
 ord:st.Pairwise (fun g h=>∃t n,PM g.2 t n∧∀t' n',PM h.2 t' n'→Aj t n t' n')
theorem Ww{p:Prd}{i:Nat}(h:i<p.length):p.getD i []=p[i]:=by simp[yR,h]
theorem y1f{T:Nat}{p:Prd}(hp:p.length=T){i:Nat}(hi:i<T)(x:Iv)(t:Nat)(n:Int):PM (Y4 p i x) t n↔PM p t n∨u1i (i,x) t n:=by
 unfold PM Y4 u1i;have z1:i<p.length:=by omega
 rw[Ww z1];by_cases ht:t=i
 ·subst ht;rw[zH z1,zF z1];constructor
  ·rintro⟨s,hs,hm⟩;cases hs;rcases(Lr ..).1 hm with h|h
   ·exact .inl ⟨_,rfl,h⟩
   ·rcases(El ..).1 h with h|h
    ·exact .inr ⟨rfl,h⟩
    ·simp[M]at h
  ·rintro(⟨s,hs,hm⟩|⟨_,h⟩)
   ·cases hs;exact⟨_,rfl,(Lr ..).2 (.inl hm)⟩
   ·exact⟨_,rfl,(Lr ..).2 (.inr ((El ..).2 (.inl h)))⟩
 ·rw[zB (by omega)];constructor
  ·exact fun h=> .inl h
  ·rintro(h|⟨h,_⟩)
   ·exact h
   ·exact absurd h ht
theorem f0j{T:Nat}{p:Prd}(hp:p.length=T){i:Nat}(hi:i<T){x:Iv}(hx:x.lo≤x.hi)(h:∀s∈p,(∀y∈s,y.lo≤y.hi)∧s.Pairwise (fun y z=>y.hi<z.lo))(z6:∀t n,PM p t n→Aj t n i x.lo):
  ∀s∈Y4 p i x,(∀y∈s,y.lo≤y.hi)∧s.Pairwise (fun y z=>y.hi<z.lo):=by
 intro s hs;have z1:i<p.length:=by omega
 rcases List.mem_or_eq_of_mem_set hs with hs|rfl
 ·exact h s hs
 ·rw[Ww z1];obtain⟨h1,h2⟩:=h _ (zG z1);refine⟨fun y hy=> ?_,zZ.2 ⟨h2,by simp,fun y hy z hz=> ?_⟩⟩
  ·rcases zO.1 hy with hy|hy
   ·exact h1 y hy
   ·obtain rfl:=zK.1 hy;exact hx
  ·obtain rfl:=zK.1 hz;have:=z6 i y.hi ⟨_,zF z1,y,hy,h1 y hy,yG _⟩;unfold Aj at this;omega
theorem Ip{T i:Nat}{sg:List Bool}{x:Iv}:∀ {st:List (List Bool×Prd)},(∀g∈st,g.1≠sg)→Tx T i sg x st=st++[(sg,Y4 (zT T []) i x)]
 |[],_=>rfl
 |(s,p)::r,h=>by rw[Tx,if_neg (h (s,p) (by simp)),Ip (fun g hg=>h g (by simp[hg]))];rfl
theorem A4{T i:Nat}{sg:List Bool}{x:Iv}:∀ {st:List (List Bool×Prd)},(∃g∈st,g.1=sg)→∃a p b,st=a++(sg,p)::b∧(∀g∈a,g.1≠sg)∧Tx T i sg x st=a++(sg,Y4 p i x)::b
 |[],⟨g,hg,_⟩=>by cases hg
 |(s,p)::r,⟨g,hg,he⟩=>by
  by_cases hs:s=sg
  ·subst hs;exact⟨[],p,r,rfl,by simp,by rw[Tx,if_pos rfl];rfl⟩
  ·have z1:g∈r:=by
    rcases zU.1 hg with rfl|hg
    ·exact absurd he hs
    ·exact hg
   obtain⟨a,q,b,h1,h2,h3⟩:=A4 (T:=T) (i:=i) (x:=x) ⟨g,z1,he⟩;refine⟨(s,p)::a,q,b,by rw[h1];rfl,fun g hg=> ?_,by rw[Tx,if_neg hs,h3];rfl⟩;rcases zU.1 hg with rfl|hg
   ·exact hs
   ·exact h2 g hg
theorem Kp(T t:Nat)(n:Int):¬PM (zT T []) t n:=by rintro⟨s,hs,hm⟩;obtain rfl:=wB (zD hs);simp[M]at hm
theorem GInv.step{T:Nat}{sig:Nat→Int→List Bool}{D:Nat→Int→Prop}{st:List (List Bool×Prd)}(h:GInv T sig D st){i:Nat}{x:Iv}(hi:i<T)(hx:x.lo≤x.hi)(hc:∀n,x.lo≤n→n≤x.hi→sig i n=sig i x.lo)(hD:∀t n,D t n→∀n',x.lo≤n'→n'≤x.hi→Aj t n i n'):
  GInv T sig (fun t n=>D t n∨u1i (i,x) t n) (Tx T i (sig i x.lo) x st):=by
 have z7:∀t n,u1i (i,x) t n→sig t n=sig i x.lo:=fun t n hp=>by obtain⟨rfl,h1,h2⟩:=hp;exact hc n h1 h2
 have zb:∀t n,D t n→∀t' n',u1i (i,x) t' n'→Aj t n t' n':=fun t n hd t' n' hp=>by obtain⟨rfl,h1,h2⟩:=hp;exact hD t n hd n' h1 h2
 have zc:u1i (i,x) i x.lo:=⟨rfl,yG _,hx⟩
 by_cases hit:∃g∈st,g.1=sig i x.lo
 ·obtain⟨a,p,b,h1,h2,h3⟩:=A4 (T:=T) (i:=i) (x:=x) hit;rw[h3];subst h1;generalize zh:sig i x.lo=s0 at *
  have za:(s0,p)∈a++(s0,p)::b:=by simp
  have zd:=h.mem _ za;have hlen:=h.len _ za;have zf:=h.nd;obtain⟨n1,n2,n3⟩:=zZ.1 zf;obtain⟨n4,n5⟩:=z_.1 n2;obtain⟨o1,o2,o3⟩:=zZ.1 h.ord;obtain⟨o4,o5⟩:=z_.1 o2;have z1:=fun t n=>y1f hlen hi x t n;have hold:∀g∈a++(s0,Y4 p i x)::b,(g∈a++(s0,p)::b∧g.1≠s0)∨g=(s0,Y4 p i x):=fun g hg=>by
   rcases zO.1 hg with hg|hg
   ·exact .inl ⟨by simp[hg],h2 g hg⟩
   ·rcases zU.1 hg with rfl|hg
    ·exact .inr rfl
    ·exact .inl ⟨by simp[hg],(n4 g hg).symm⟩
  refine⟨fun g hg=> ?_,fun g hg=> ?_,fun g hg t n=> ?_,fun g hg=> ?_,?_,fun t n hd=> ?_,?_⟩
  ·rcases hold g hg with⟨hg,_⟩|rfl
   ·exact h.len g hg
   ·simp[Y4,hlen]
  ·rcases hold g hg with⟨hg,_⟩|rfl
   ·exact h.asc g hg
   ·exact f0j hlen hi hx (h.asc _ za) (fun t n hm=>hD t n ((zd t n).1 hm).1 x.lo (yG _) hx)
  ·rcases hold g hg with⟨hg,zg⟩|rfl
   ·rw[h.mem g hg t n];constructor
    ·exact fun hh=>⟨.inl hh.1,hh.2⟩
    ·rintro⟨hd|hd,hs⟩
     ·exact⟨hd,hs⟩
     ·exact absurd (by rw[←hs,z7 t n hd]) zg
   ·rw[z1,zd];constructor
    ·rintro(⟨hd,hs⟩|hd)
     ·exact⟨.inl hd,hs⟩
     ·exact⟨.inr hd,z7 t n hd⟩
    ·rintro⟨hd|hd,hs⟩
     ·exact .inl ⟨hd,hs⟩
     ·exact .inr hd
  ·rcases hold g hg with⟨hg,_⟩|rfl
   ·exact h.ne g hg
   ·exact⟨i,x.lo,(z1 i x.lo).2 (.inr zc)⟩
  ·exact zZ.2 ⟨n1,z_.2 ⟨fun g hg=>n4 g hg,n5⟩,fun g hg k hk=>by
    rcases zU.1 hk with rfl|hk
    ·exact h2 g hg
    ·exact n3 g hg k (by simp[hk])⟩
  ·rcases hd with hd|hd
   ·obtain⟨g,hg,he⟩:=h.all t n hd;rcases zO.1 hg with hg|hg
    ·exact⟨g,by simp[hg],he⟩
    ·rcases zU.1 hg with rfl|hg
     ·exact⟨(s0,Y4 p i x),by simp,he⟩
     ·exact⟨g,by simp[hg],he⟩
   ·exact⟨(s0,Y4 p i x),by simp,(z7 t n hd).symm⟩
  ·refine zZ.2 ⟨o1,z_.2 ⟨fun g hg=> ?_,o5⟩,fun g hg k hk=> ?_⟩
   ·obtain⟨t,n,e1,e2⟩:=o4 g hg;exact⟨t,n,(z1 t n).2 (.inl e1),e2⟩
   ·rcases zU.1 hk with rfl|hk
    ·obtain⟨t,n,e1,e2⟩:=o3 g hg (s0,p) (by simp);refine⟨t,n,e1,fun t' n' hm=> ?_⟩;rcases(z1 t' n').1 hm with hm|hm
     ·exact e2 t' n' hm
     ·exact zb t n ((h.mem g (by simp[hg]) t n).1 e1).1 t' n' hm
    ·exact o3 g hg k (by simp[hk])
 ·have z8:∀g∈st,g.1≠sig i x.lo:=fun g hg he=>hit ⟨g,hg,he⟩;rw[Ip z8];have ze:(zT T ([]:List Iv)).length=T:=by simp
  have z1:=fun t n=>y1f ze hi x t n;have z6:∀g∈st++[(sig i x.lo,Y4 (zT T []) i x)],g∈st∨g=(sig i x.lo,Y4 (zT T []) i x):=fun g hg=>by
   rcases zO.1 hg with hg|hg
   ·exact .inl hg
   ·exact .inr (zK.1 hg)
  refine⟨fun g hg=> ?_,fun g hg=> ?_,fun g hg t n=> ?_,fun g hg=> ?_,?_,fun t n hd=> ?_,?_⟩
  ·rcases z6 g hg with hg|rfl
   ·exact h.len g hg
   ·simp[Y4]
  ·rcases z6 g hg with hg|rfl
   ·exact h.asc g hg
   ·exact f0j ze hi hx (fun s hs=>by obtain rfl:=wB hs;simp) (fun t n hm=>absurd hm (Kp T t n))
  ·rcases z6 g hg with hg|rfl
   ·rw[h.mem g hg t n];constructor
    ·exact fun hh=>⟨.inl hh.1,hh.2⟩
    ·rintro⟨hd|hd,hs⟩
     ·exact⟨hd,hs⟩
     ·exact absurd (by rw[←hs,z7 t n hd]) (z8 g hg)
   ·rw[z1];constructor
    ·rintro(hm|hd)
     ·exact absurd hm (Kp T t n)
     ·exact⟨.inr hd,z7 t n hd⟩
    ·rintro⟨hd|hd,hs⟩
     ·obtain⟨g,hg,he⟩:=h.all t n hd;exact absurd (he.trans hs) (z8 g hg)
     ·exact .inr hd
  ·rcases z6 g hg with hg|rfl
   ·exact h.ne g hg
   ·exact⟨i,x.lo,(z1 i x.lo).2 (.inr zc)⟩
  ·exact zZ.2 ⟨h.nd,by simp,fun g hg k hk=>by obtain rfl:=zK.1 hk;exact z8 g hg⟩
  ·rcases hd with hd|hd
   ·obtain⟨g,hg,he⟩:=h.all t n hd;exact⟨g,by simp[hg],he⟩
   ·exact⟨(sig i x.lo,Y4 (zT T []) i x),by simp,(z7 t n hd).symm⟩
  ·refine zZ.2 ⟨h.ord,by simp,fun g hg k hk=> ?_⟩;obtain rfl:=zK.1 hk;obtain⟨t,n,e1⟩:=h.ne g hg;refine⟨t,n,e1,fun t' n' hm=> ?_⟩;rcases(z1 t' n').1 hm with hm|hm
   ·exact absurd hm (Kp T t' n')
   ·exact zb t n ((h.mem g hg t n).1 e1).1 t' n' hm
end Go.Abs
namespace Go.Abs
theorem Pu:∀(cs:List Int),cs.Pairwise (·<·)→∀x∈Ti cs,x.lo≤x.hi∧x.lo∈cs∧x.hi+1∈cs∧∀d∈cs,d≤x.hi→d≤x.lo
 |[],_,x,hx=>by simp[Ti]at hx
 |[a],_,x,hx=>by simp[Ti]at hx
 |a::b::r,h,x,hx=>by
  obtain⟨h1,h2⟩:=z_.1 h;rw[Ti]at hx;rcases zU.1 hx with rfl|hx
  ·have z1:=h1 b (by simp);refine⟨by simp only;omega,by simp,by simp,fun d hd hle=> ?_⟩;simp only at hle ⊢;rcases zU.1 hd with rfl|hd
   ·omega
   ·have:b≤d:=by
     rcases zU.1 hd with rfl|hd
     ·omega
     ·have:=(z_.1 h2).1 d hd;omega
    omega
  ·obtain⟨k1,k2,k3,k4⟩:=Pu (b::r) h2 x hx;refine⟨k1,by simp only[zU]at k2 ⊢;exact .inr k2,by simp only[zU]at k3 ⊢;exact .inr k3,fun d hd hle=> ?_⟩;rcases zU.1 hd with rfl|hd
   ·have:=h1 x.lo k2;omega
   ·exact k4 d hd hle
theorem My:∀(cs:List Int),cs.Pairwise (·<·)→(Ti cs).Pairwise (fun x y=>x.hi<y.lo)
 |[],_=>by simp[Ti]
 |[a],_=>by simp[Ti]
 |a::b::r,h=>by
  obtain⟨h1,h2⟩:=z_.1 h;rw[Ti];refine z_.2 ⟨fun y hy=> ?_,My (b::r) h2⟩;obtain⟨_,k2,_,_⟩:=Pu (b::r) h2 y hy;have:b≤y.lo:=by
   rcases zU.1 k2 with e|k2
   ·omega
   ·have:=(z_.1 h2).1 y.lo k2;omega
  simp only;omega
theorem Kn:∀(cs:List Int),cs.Pairwise (·<·)→∀n,(∃a∈cs,a≤n)→(∃b∈cs,n<b)→∃x∈Ti cs,x.lo≤n∧n≤x.hi
 |[],_,n,⟨a,ha,_⟩,_=>by cases ha
 |[a],_,n,⟨c,hc,h1⟩,⟨d,hd,h2⟩=>by obtain rfl:=zK.1 hc;obtain rfl:=zK.1 hd;omega
 |a::b::r,h,n,⟨c,hc,h1⟩,⟨d,hd,h2⟩=>by
  obtain⟨p1,p2⟩:=z_.1 h;rw[Ti];have z1:a≤n:=by
   rcases zU.1 hc with rfl|hc
   ·exact h1
   ·have:=p1 c hc;omega
  by_cases hb:n<b
  ·exact⟨⟨a,b - 1⟩,by simp,z1,by simp only;omega⟩
  ·have z6:d∈b::r:=by
    rcases zU.1 hd with rfl|hd
    ·omega
    ·exact hd
   obtain⟨x,hx,e⟩:=Kn (b::r) p2 n ⟨b,by simp,by omega⟩ ⟨d,z6,h2⟩;exact⟨x,by simp[hx],e⟩
theorem R5{l:List Prd}{i:Nat}{x:Iv}:x∈Q7 l i↔∃p∈l,x∈p.getD i []:=by simp[Q7]
theorem q1x{T:Nat}{p:Prd}(hp:PCk T p)(i:Nat):CanonL (p.getD i []):=by
 by_cases hi:i<p.length
 ·rw[Ww hi];exact hp.2 _ (zG hi)
 ·have:p.getD i []=[]:=by simp[yR,List.getElem?_eq_none (by omega:p.length≤i)]
  rw[this];exact P3
theorem Tp{T:Nat}{l:List Prd}(hl:∀p∈l,PCk T p)(i:Nat):(Q9 l i).Pairwise (·<·)∧(-1099511627776:Int)∈Q9 l i∧(1099511627777:Int)∈Q9 l i∧
  (∀z∈Q9 l i,-1099511627776≤z∧z≤1099511627777)∧∀p∈l,∀x∈p.getD i [],x.lo∈Q9 l i∧x.hi+1∈Q9 l i:=by
 obtain⟨h1,h2⟩:=x08 (⟨-1099511627776,1099511627776⟩::Q7 l i);refine⟨h1,(h2 _).2 ⟨⟨-1099511627776,1099511627776⟩,by simp,.inl rfl⟩,(h2 _).2 ⟨⟨-1099511627776,1099511627776⟩,by simp,.inr (by simp)⟩,fun z hz=> ?_,fun p hp x hx=>⟨(h2 _).2 ⟨x,?_,.inl rfl⟩,(h2 _).2 ⟨x,?_,.inr rfl⟩⟩⟩
 ·obtain⟨x,hx,e⟩:=(h2 z).1 hz;rcases zU.1 hx with rfl|hx
  ·simp only at e;omega
  ·obtain⟨p,hp,hx⟩:=R5.1 hx;have hc:=q1x (hl p hp) i;have h3:=Lf hc x hx;have h4:=(Ec _).1 h3.1;have h5:=(Ec _).1 h3.2;have:=(P7 hc).1 x hx;omega
 ·exact uK _ (R5.2 ⟨p,hp,hx⟩)
 ·exact uK _ (R5.2 ⟨p,hp,hx⟩)
theorem v0s{T:Nat}{l:List Prd}(hl:∀p∈l,PCk T p)(i:Nat){x:Iv}(hx:x∈Ti (Q9 l i))(n:Int)(h1:x.lo≤n)(h2:n≤x.hi):Up l i n=Up l i x.lo:=by obtain⟨c1,_,_,_,c5⟩:=Tp hl i;obtain⟨_,_,_,k4⟩:=Pu _ c1 x hx;unfold Up;apply xP;intro p hp;exact k0d _ (Q9 l i) (c5 p hp) x.lo n h1 (fun d hd hle=>k4 d hd (by omega))
theorem Xv{T:Nat}{p:Prd}(hp:p.length=T){t:Nat}(ht:t<T)(n:Int):Ol (p.getD t []) n=true↔PM p t n:=by
 have z1:t<p.length:=by omega
 rw[Ww z1,Nb];unfold PM;rw[zF z1];simp
theorem y1a{T:Nat}{l:List Prd}(hl:∀p∈l,PCk T p){t t':Nat}(ht:t<T)(z1:t'<T)(n n':Int):Up l t n=Up l t' n'↔g1u l t n t' n':=by
 unfold Up g1u;constructor
 ·intro h p hp;have:=(List.map_inj_left.1 h) p hp;rw[←Xv (hl p hp).1 ht,←Xv (hl p hp).1 z1,this]
 ·intro h;apply xP;intro p hp;have:=h p hp;rw[←Xv (hl p hp).1 ht,←Xv (hl p hp).1 z1]at this;exact yV.2 this
theorem GInv.congr{T:Nat}{sig:Nat→Int→List Bool}{D D':Nat→Int→Prop}{st:List (List Bool×Prd)}(h:GInv T sig D st)(e:∀t n,D t n↔D' t n):GInv T sig D' st:=by have:D=D':=funext fun t=>funext fun n=>propext (e t n);rw[←this];exact h
theorem Xg{T:Nat}{sig:Nat→Int→List Bool}:∀(A:List (Nat×Iv)) (D:Nat→Int→Prop) (st:List (List Bool×Prd)),GInv T sig D st→(∀a∈A,a.1<T∧a.2.lo≤a.2.hi∧∀n,a.2.lo≤n→n≤a.2.hi→sig a.1 n=sig a.1 a.2.lo)→
  (∀t n,D t n→∀a∈A,∀n',a.2.lo≤n'→n'≤a.2.hi→Aj t n a.1 n')→A.Pairwise (fun a b=>∀n n',a.2.lo≤n→n≤a.2.hi→b.2.lo≤n'→n'≤b.2.hi→Aj a.1 n b.1 n')→
  GInv T sig (fun t n=>D t n∨∃a∈A,u1i a t n) (A.foldl (fun st a=>Tx T a.1 (sig a.1 a.2.lo) a.2 st) st)
 |[],D,st,h,_,_,_=>h.congr (fun t n=>by simp)
 |a::A,D,st,h,h1,h2,h3=>by
  obtain⟨i,x⟩:=a;obtain⟨e1,e2,e3⟩:=h1 (i,x) (by simp);obtain⟨p1,p2⟩:=z_.1 h3;have hs:=h.step e1 e2 e3 (fun t n hd n' q1 q2=>h2 t n hd (i,x) (by simp) n' q1 q2);rw[xB];refine(Xg A _ _ hs (fun b hb=>h1 b (by simp[hb])) (fun t n hd b hb n' q1 q2=> ?_) p2).congr (fun t n=> ?_)
  ·rcases hd with hd|hd
   ·exact h2 t n hd b (by simp[hb]) n' q1 q2
   ·obtain⟨rfl,d1,d2⟩:=hd;exact p1 b hb n n' d1 d2 q1 q2
  ·simp[or_assoc]
theorem Fs{T:Nat}{l:List Prd}{a:Nat×Iv}:a∈Kl T l↔a.1<T∧a.2∈Ti (Q9 l a.1):=by
 unfold Kl;rw[xL];constructor
 ·rintro⟨i,hi,h⟩;obtain⟨x,hx,rfl⟩:=zN.1 h;exact⟨yJ.1 hi,hx⟩
 ·rintro⟨h1,h2⟩;exact⟨a.1,yJ.2 h1,zN.2 ⟨a.2,h2,rfl⟩⟩
theorem u0b{T:Nat}{l:List Prd}(hl:∀p∈l,PCk T p):(Kl T l).Pairwise (fun a b=>∀n n',a.2.lo≤n→n≤a.2.hi→b.2.lo≤n'→n'≤b.2.hi→Aj a.1 n b.1 n'):=by
 unfold Kl;rw[vT];refine⟨fun i _=> ?_,?_⟩
 ·rw[xO];refine(My _ (Tp hl i).1).imp (fun {x y} h n n' h1 h2 h3 h4=> .inr ⟨rfl,by simp only at h2 h3;omega⟩)
 ·refine List.pairwise_lt_range.imp (fun {i j} h a ha b hb n n' _ _ _ _=> ?_);obtain⟨x,_,rfl⟩:=zN.1 ha;obtain⟨y,_,rfl⟩:=zN.1 hb;exact .inl h
theorem k0m{T:Nat}{l:List Prd}(hl:∀p∈l,PCk T p):GInv T (Up l) (fun t n=>t<T∧inR n) (Uu T l):=by
 have h0:GInv T (Up l) (fun _ _=>False) []:=⟨by simp,by simp,by simp,by simp,by simp,fun _ _ h=>h.elim,by simp⟩
 refine(Xg (Kl T l) _ [] h0 (fun a ha=> ?_) (fun _ _ h=>h.elim) (u0b hl)).congr (fun t n=> ?_)
 ·obtain⟨h1,h2⟩:=Fs.1 ha;exact⟨h1,(Pu _ (Tp hl a.1).1 _ h2).1,fun n q1 q2=>v0s hl a.1 h2 n q1 q2⟩
 ·obtain⟨c1,c2,c3,c4,c5⟩:=Tp hl t;constructor
  ·rintro(h|⟨a,ha,rfl,h1,h2⟩)
   ·exact h.elim
   ·obtain⟨q1,q2⟩:=Fs.1 ha;obtain⟨s1,s2,s3,s4⟩:=Pu _ c1 _ q2;have:=c4 _ s2;have:=c4 _ s3;exact⟨q1,by unfold inR;omega⟩
  ·rintro⟨h1,h2⟩;unfold inR at h2;obtain⟨x,hx,e1,e2⟩:=Kn _ c1 n ⟨_,c2,h2.1⟩ ⟨_,c3,by omega⟩;exact .inr ⟨(t,x),Fs.2 ⟨h1,hx⟩,rfl,e1,e2⟩
theorem I5{s:List Iv}(h:(∀x∈s,x.lo≤x.hi)∧s.Pairwise (fun x y=>x.hi<y.lo)):Sep (Q1 [] s)∧∀n,M (Q1 [] s) n↔M s n:=by have hb:B4 s:=h.2.imp_of_mem (fun {x y} hx hy hxy=>by have:=h.1 x hx;omega);have:=Ao s [] Zp hb h.1 (by simp);refine⟨this.1,fun n=> ?_⟩;rw[this.2 n];simp[M]
theorem Lk{T:Nat}{p:Prd}(h:∀s∈p,(∀x∈s,x.lo≤x.hi)∧s.Pairwise (fun x y=>x.hi<y.lo))(t:Nat)(n:Int):PM (Rb p) t n↔PM p t n:=by
 unfold PM Rb;rw[zQ];constructor
 ·rintro⟨s,hs,hm⟩;obtain⟨a,ha,rfl⟩:=zL.1 hs;exact⟨a,ha,((I5 (h a (zD ha))).2 n).1 hm⟩
 ·rintro⟨a,ha,hm⟩;exact⟨Q1 [] a,by rw[ha];rfl,((I5 (h a (zD ha))).2 n).2 hm⟩
theorem Px{T:Nat}{l:List Prd}(hl:∀p∈l,PCk T p):Prts T l (W5 T l)∧(W5 T l).Pairwise w02:=by
 have h:=k0m hl;have z1:∀g∈Uu T l,∀t n,PM (Rb g.2) t n↔(t<T∧inR n)∧Up l t n=g.1:=fun g hg t n=>by rw[Lk (T:=T) (h.asc g hg),h.mem g hg]
 have z6:∀p∈W5 T l,∃g∈Uu T l,p=Rb g.2:=fun p hp=>by obtain⟨g,hg,rfl⟩:=zN.1 hp;exact⟨g,hg,rfl⟩
 refine⟨⟨fun p hp=> ?_,fun p hp=> ?_,fun t n ht hn=> ?_,fun p hp t n hm t' n'=> ?_⟩,?_⟩
 ·obtain⟨g,hg,rfl⟩:=z6 p hp;refine⟨by simp[Rb,h.len g hg],fun s hs=> ?_⟩;obtain⟨i,hi⟩:=yE.1 hs;have z7:=hs;obtain⟨a,ha,rfl⟩:=zN.1 hs;exact⟨(I5 (h.asc g hg a ha)).1,fun n hn=>((z1 g hg i n).1 ⟨_,hi,hn⟩).1.2⟩
 ·obtain⟨g,hg,rfl⟩:=z6 p hp;obtain⟨t,n,hm⟩:=h.ne g hg;exact⟨t,n,(Lk (T:=T) (h.asc g hg) t n).2 hm⟩
 ·obtain⟨g,hg,he⟩:=h.all t n ⟨ht,hn⟩;exact⟨Rb g.2,zN.2 ⟨g,hg,rfl⟩,(z1 g hg t n).2 ⟨⟨ht,hn⟩,he.symm⟩⟩
 ·obtain⟨g,hg,rfl⟩:=z6 p hp;obtain⟨⟨q1,q2⟩,q3⟩:=(z1 g hg t n).1 hm;rw[z1 g hg];constructor
  ·rintro⟨⟨h1,h2⟩,h3⟩;exact⟨h1,h2,(y1a hl q1 h1 n n').1 (q3.trans h3.symm)⟩
  ·rintro⟨h1,h2,h3⟩;exact⟨⟨h1,h2⟩,((y1a hl q1 h1 n n').2 h3).symm.trans q3⟩
 ·unfold W5;rw[xO];refine h.ord.imp_of_mem (fun {a b} ha hb hab=> ?_);obtain⟨t,n,e1,e2⟩:=hab;exact⟨t,n,(Lk (T:=T) (h.asc a ha) t n).2 e1,fun t' n' hm=>e2 t' n' ((Lk (T:=T) (h.asc b hb) t' n').1 hm)⟩
theorem Ar{T:Nat}(hT:0<T){l:List Prd}(hl:∀p∈l,PCk T p):W5 T l=Qy T l:=by obtain⟨a1,a2⟩:=Px hl;obtain⟨b1,b2⟩:=Ud hT hl;exact a1.unique b1 a2 b2
end Go.Abs
namespace Go.Abs
structure Sy where
 ty:Int
 num:Int
deriving Inhabited,DecidableEq
structure Mv where
 src:Int
 dst:Int
 on:Prd
deriving Inhabited
structure Aut where
 types:Int
 fin:List Bool
 mv:List Mv
deriving Inhabited
def O1:Aut:=⟨0,[],[]⟩
def z00:List (List Iv)→Int
 |[]=>0
 |s::r=>if ckR s≠0 then ckR s else z00 r
def E7(T:Int)(p:Prd):Int:=if T<1∨16<T then 2 else if(p.length:Int)≠T then 15 else z00 p
def z0y(T:Int)(n:Nat):List Mv→Int
 |[]=>0
 |m::r=>if ¬((0≤m.src∧m.src<n)∧(0≤m.dst∧m.dst<n))then 2 else if E7 T m.on≠0 then E7 T m.on else z0y T n r
def Wj(a:Aut):Int:=if a.types<1∨16<a.types then 2 else if a.fin.length<1∨256<a.fin.length∨2048<a.mv.length then 5 else z0y a.types a.fin.length a.mv
theorem Md:∀(p:List (List Iv)),z00 p=0↔∀s∈p,CanonL s
 |[]=>by simp[z00]
 |s::r=>by
  rw[z00];by_cases h:ckR s=0
  ·rw[if_neg (fun k=>k h),Md r];simp[(Xu s).1 h]
  ·rw[if_pos h];refine⟨fun k=>absurd k h,fun k=>absurd ((Xu s).2 (k s (by simp))) h⟩
theorem Ea(T:Int)(p:Prd):E7 T p=0↔(1≤T∧T≤16)∧PCk T.toNat p:=by
 unfold E7 PCk;by_cases h1:T<1∨16<T
 ·rw[if_pos h1];exact⟨fun h=>by omega,fun h=>by omega⟩
 ·rw[if_neg h1];by_cases h2:(p.length:Int)≠T
  ·rw[if_pos h2];exact⟨fun h=>by omega,fun h=>by omega⟩
  ·rw[if_neg h2,Md];exact⟨fun h=>⟨by omega,by omega,h⟩,fun h=>h.2.2⟩
structure OkMv (T:Nat) (n:Nat) (m:Mv):Prop where
 src:0≤m.src∧m.src<n
 dst:0≤m.dst∧m.dst<n
 on:PCk T m.on
structure OkA (a:Aut):Prop where
 types:1≤a.types∧a.types≤16
 fin:1≤a.fin.length∧a.fin.length≤256
 mvs:a.mv.length≤2048
 mv:∀m∈a.mv,OkMv a.types.toNat a.fin.length m
theorem q01{T:Int}(hT:1≤T∧T≤16)(n:Nat):∀(l:List Mv),z0y T n l=0↔∀m∈l,OkMv T.toNat n m
 |[]=>by simp[z0y]
 |m::r=>by
  rw[z0y];by_cases h1:(0≤m.src∧m.src<n)∧(0≤m.dst∧m.dst<n)
  ·rw[if_neg (fun k=>k h1)];by_cases h2:E7 T m.on=0
   ·rw[if_neg (fun k=>k h2),q01 hT n r];have h3:=((Ea T m.on).1 h2).2;constructor
    ·intro h x hx;rcases zU.1 hx with rfl|hx
     ·exact⟨h1.1,h1.2,h3⟩
     ·exact h x hx
    ·exact fun h x hx=>h x (by simp[hx])
   ·rw[if_pos h2];exact⟨fun h=>absurd h h2,fun h=>absurd ((Ea T m.on).2 ⟨hT,(h m (by simp)).on⟩) h2⟩
  ·rw[if_pos h1];exact⟨fun h=>(by cases h),fun h=>absurd ⟨(h m (by simp)).src,(h m (by simp)).dst⟩ h1⟩
theorem Oc(a:Aut):Wj a=0↔OkA a:=by
 unfold Wj;by_cases h1:a.types<1∨16<a.types
 ·rw[if_pos h1];exact⟨fun h=>(by cases h),fun h=>by have:=h.types;omega⟩
 ·rw[if_neg h1];by_cases h2:a.fin.length<1∨256<a.fin.length∨2048<a.mv.length
  ·rw[if_pos h2];exact⟨fun h=>(by cases h),fun h=>by have:=h.fin;have:=h.mvs;omega⟩
  ·rw[if_neg h2,q01 (by omega)];exact⟨fun h=>⟨by omega,by omega,by omega,h⟩,fun h=>h.mv⟩
def E5(p:Prd)(x:Sy):Bool:=decide (0≤x.ty) && decide (x.ty<p.length) && Ol (p.getD x.ty.toNat []) x.num
def Az(T:Int)(x:Sy):Int:=if x.ty<0∨T≤x.ty then 6 else if x.num< -1099511627776∨1099511627776<x.num then 2 else 0
theorem Dy(T:Int)(x:Sy):Az T x=0↔(0≤x.ty∧x.ty<T)∧inR x.num:=by
 unfold Az inR;split
 ·constructor
  ·intro h;cases h
  ·intro h;omega
 ·split
  ·constructor
   ·intro h;cases h
   ·intro h;omega
  ·constructor
   ·intro _;omega
   ·intro _;rfl
theorem Oq{T:Nat}{p:Prd}(hp:p.length=T)(x:Sy)(hx:0≤x.ty):E5 p x=true↔PM p x.ty.toNat x.num:=by
 unfold E5;by_cases h:x.ty<p.length
 ·have h1:x.ty.toNat<T:=by omega
  rw[←Xv hp h1];simp[h,hx]
 ·have:¬PM p x.ty.toNat x.num:=by rintro⟨s,hs,_⟩;have:=(zA.1 hs).1;omega
  simp[h,this]
def Wp(n:Nat):List Int:=(yD n).map fun i:Nat=>(i:Int)
theorem Wq{n:Nat}{z:Int}:z∈Wp n↔0≤z∧z<n:=by
 unfold Wp;rw[zN];constructor
 ·rintro⟨i,hi,rfl⟩;have:=yJ.1 hi;omega
 ·rintro⟨h1,h2⟩;exact⟨z.toNat,yJ.2 (by omega),by omega⟩
theorem Ch(n:Nat):(Wp n).Pairwise (·<·):=by unfold Wp;rw[xO];exact List.pairwise_lt_range.imp (fun h=>by omega)
def g0e(a:Aut)(l:List Int)(x:Sy)(j:Int):Bool:=a.mv.any fun m=>l.contains m.src && E5 m.on x && decide (m.dst=j)
def Q0(a:Aut)(l:List Int)(x:Sy):List Int:=(Wp a.fin.length).filter (g0e a l x)
def u19(a:Aut)(l:List Int)(x:Sy):List Int:=Go.Lib.compact (Rp ((a.mv.filter fun m=>l.contains m.src && E5 m.on x).map (·.dst)))
theorem z1s(zs:List Int):(Rp zs).Pairwise (·≤·):=by have:=vS (le:=fun x y:Int=>decide (x≤y)) (fun a b c h1 h2=>by simp at h1 h2 ⊢;omega) (fun a b=>by simp;omega) zs;simpa[Rp]using this
theorem C6(zs:List Int):(Go.Lib.compact (Rp zs)).Pairwise (·<·)∧∀z,z∈Go.Lib.compact (Rp zs)↔z∈zs:=by have h:=Cy _ (z1s zs) _ (zI _);refine⟨h.1,fun z=> ?_⟩;have h2:=h.2 z;rw[zX]at h2;rw[Go.Lib.compact,h2,Rp,uT]
theorem Tq{a b:List Int}(ha:a.Pairwise (·<·))(hb:b.Pairwise (·<·))(h:∀z,z∈a↔z∈b):a=b:=by have hn:∀ {l:List Int},l.Pairwise (·<·)→l.Nodup:=fun hl=>hl.imp (fun h e=>by omega);exact List.Perm.eq_of_pairwise (le:=(·<·)) (fun a b _ _ h1 h2=>by omega) ha hb ((uo (hn ha) (hn hb)).2 h)
theorem Yb(a:Aut)(l:List Int)(x:Sy):(Q0 a l x).Pairwise (·<·):=(Ch _).filter _
theorem Wv{a:Aut}{l:List Int}{x:Sy}{j:Int}:j∈Q0 a l x↔(0≤j∧j<a.fin.length)∧∃m∈a.mv,m.src∈l∧E5 m.on x=true∧m.dst=j:=by unfold Q0 g0e;rw[wK,Wq,wR];simp[and_assoc]
theorem u1r{a:Aut}(h:∀m∈a.mv,0≤m.dst∧m.dst<a.fin.length)(l:List Int)(x:Sy):u19 a l x=Q0 a l x:=by
 obtain⟨h1,h2⟩:=C6 ((a.mv.filter fun m=>l.contains m.src && E5 m.on x).map (·.dst));refine Tq h1 (Yb a l x) fun z=> ?_;rw[u19,h2,Wv];constructor
 ·intro hz;obtain⟨m,hm,rfl⟩:=zN.1 hz;obtain⟨hm,hc⟩:=wK.1 hm;simp at hc;exact⟨h m hm,m,hm,hc.1,hc.2,rfl⟩
 ·rintro⟨_,m,hm,c1,c2,rfl⟩;exact zN.2 ⟨m,wK.2 ⟨hm,by simp[c1,c2]⟩,rfl⟩
theorem Yh{a:Aut}{l:List Int}{x:Sy}:∀j∈Q0 a l x,0≤j∧j<a.fin.length:=fun j hj=>(Wv.1 hj).1
def Qn(p:Prd):Sy:=⟨(Qv p 0).1,(Qv p 0).2⟩
def Hf(Q:List (List Int))(x:List Int):List (List Int):=if x=[]∨x∈Q then Q else Q++[x]
def W4(Q:List (List Int))(xs:List (List Int)):List (List Int):=xs.foldl Hf Q
def R4(a:Aut)(cl:List Prd)(l:List Int):List (List Int):=cl.map fun c=>Q0 a l (Qn c)
def y0x(a:Aut)(cl:List Prd):Nat→Nat→List (List Int)→Option (List (List Int))
 |0,_,_=>none
 |f+1,i,Q=>match Q[i]? with
  |some l=>if 256<(W4 Q (R4 a cl l)).length then none else y0x a cl f (i+1) (W4 Q (R4 a cl l))
  |none=>some Q
theorem z1m(Q:List (List Int))(x:List Int):∃R,Hf Q x=Q++R∧∀y∈R,y=x∧x≠[]:=by
 unfold Hf;split
 ·exact⟨[],by simp,by simp⟩
 ·rename_i h;exact⟨[x],rfl,fun y hy=>⟨zK.1 hy,fun e=>h (.inl e)⟩⟩
theorem Y0:∀(xs:List (List Int)) (Q:List (List Int)),∃R,W4 Q xs=Q++R∧∀y∈R,y∈xs∧y≠[]
 |[],Q=>⟨[],by simp[W4],by simp⟩
 |x::xs,Q=>by
  obtain⟨R1,h1,h2⟩:=z1m Q x;obtain⟨R2,h3,h4⟩:=Y0 xs (Hf Q x);refine⟨R1++R2,?_,fun y hy=> ?_⟩
  ·show W4 (Hf Q x) xs=_;rw[h3,h1,List.append_assoc]
  ·rcases zO.1 hy with hy|hy
   ·obtain⟨rfl,hn⟩:=h2 y hy;exact⟨by simp,hn⟩
   ·exact⟨by simp[(h4 y hy).1],(h4 y hy).2⟩
theorem z07(Q xs:List (List Int)):Q.length≤(W4 Q xs).length:=by obtain⟨R,h,_⟩:=Y0 xs Q;rw[h];simp
theorem q1d{Q:List (List Int)}{x:List Int}(hx:x≠[]):x∈Hf Q x:=by
 unfold Hf;split
 ·rename_i h;rcases h with h|h
  ·exact absurd h hx
  ·exact h
 ·simp
theorem Jw:∀ {xs:List (List Int)} {Q:List (List Int)} {x:List Int},x∈xs→x≠[]→x∈W4 Q xs
 |[],_,_,h,_=>by cases h
 |y::xs,Q,x,h,hn=>by
  show x∈W4 (Hf Q y) xs;rcases zU.1 h with rfl|h
  ·obtain⟨R,e,_⟩:=Y0 xs (Hf Q x);rw[e];exact y_ _ (q1d hn)
  ·exact Jw h hn
def y1p(Q:List (List Int)):List (List Int)→Option (List (List Int))
 |[]=>some Q
 |x::xs=>if 256<(Hf Q x).length then none else y1p (Hf Q x) xs
end Go.Abs
namespace Go.Abs
def Ri(p q:Prd):Prd:=tx (fun a b=>E6 (a++b)) p q
theorem Gi{T:Nat}{p q:Prd}(hp:PWf T p)(hq:PWf T q)(t:Nat)(n:Int):PM (Ri p q) t n↔PM p t n∨PM q t n:=by
 have hf:∀ {a b:List Iv},a∈p→b∈q→∀x∈a++b,x.lo≤x.hi:=fun ha hb x hx=>by
  rcases zO.1 hx with hx|hx
  ·exact(hp.2 _ ha).1.1 x hx
  ·exact(hq.2 _ hb).1.1 x hx
 unfold PM Ri;rw[wO];constructor
 ·rintro⟨s,hs,hm⟩;cases h1:p[t]? with
  |none=>rw[h1]at hs;simp at hs
  |some a=>
   cases h2:q[t]? with
   |none=>rw[h1,h2]at hs;simp at hs
   |some b=>
    rw[h1,h2]at hs;simp at hs;subst hs;have:=((Y9 _ (hf (zD h1) (zD h2))).2 n).1 hm;rcases(Lr ..).1 this with h|h
    ·exact .inl ⟨a,rfl,h⟩
    ·exact .inr ⟨b,rfl,h⟩
 ·intro h;have z1:t<T:=by
   rcases h with⟨s,hs,_⟩|⟨s,hs,_⟩
   ·rw[←hp.1];exact(zA.1 hs).1
   ·rw[←hq.1];exact(zA.1 hs).1
  have h1:t<p.length:=by rw[hp.1];exact z1
  have h2:t<q.length:=by rw[hq.1];exact z1
  rw[zF h1,zF h2]at h ⊢;refine⟨_,rfl,((Y9 _ (hf (zG h1) (zG h2))).2 n).2 ((Lr ..).2 ?_)⟩;rcases h with⟨s,hs,hm⟩|⟨s,hs,hm⟩
  ·cases hs;exact .inl hm
  ·cases hs;exact .inr hm
theorem Fg{T:Nat}{p q:Prd}(hp:PWf T p)(hq:PWf T q):PWf T (Ri p q):=by
 refine⟨by simp[Ri,hp.1,hq.1],fun s hs=> ?_⟩;obtain⟨i,hi⟩:=yE.1 hs;have z1:=hi;unfold Ri at hi;rw[wO]at hi;cases h1:p[i]? with
 |none=>rw[h1]at hi;simp at hi
 |some a=>
  cases h2:q[i]? with
  |none=>rw[h1,h2]at hi;simp at hi
  |some b=>
   rw[h1,h2]at hi;simp at hi;subst hi;refine⟨(Y9 _ fun x hx=> ?_).1,fun n hn=> ?_⟩
   ·rcases zO.1 hx with hx|hx
    ·exact(hp.2 _ (zD h1)).1.1 x hx
    ·exact(hq.2 _ (zD h2)).1.1 x hx
   ·rcases(Gi hp hq i n).1 ⟨_,z1,hn⟩with h|h
    ·exact(hp.lt h).2
    ·exact(hq.lt h).2
def x0k(Q:List (List Int))(x:List Int):Option Nat:=Q.findIdx? fun y=>decide (y=x)
theorem G9{Q:List (List Int)}{x:List Int}{t:Nat}(h:x0k Q x=some t):Q[t]? =some x:=by unfold x0k at h;obtain⟨h1,h2,_⟩:=wp.1 h;rw[zF h1];simpa using h2
theorem v0l{Q:List (List Int)}(hn:Q.Nodup){t:Nat}{x:List Int}(h:Q[t]? =some x):x0k Q x=some t:=by
 unfold x0k;obtain⟨h1,h2⟩:=zA.1 h;refine wp.2 ⟨h1,by simpa using h2,fun j hj=> ?_⟩;have z1:Q[j]≠Q[t]:=fun e=>by have:=(uf hn).1 e;omega
 rw[h2]at z1;simpa using z1
def Ux(n:Nat)(g:List Mv)(to:Nat)(c:Prd):List Mv:=match g.findIdx? fun m:Mv=>decide (m.dst=(to:Int))with
 |none=>g++[⟨n,to,c⟩]
 |some i=>match g[i]? with
  |some m=>g.set i { m with on:=Ri m.on c }
  |none=>g
def Vv(a:Aut)(cl:List Prd)(Q:List (List Int))(n:Nat)(l:List Int):List Mv:=
 cl.foldl (fun g c=>match x0k Q (Q0 a l (Qn c))with|some t=>Ux n g t c|none=>g) []
def Bo(a:Aut)(cl:List Prd)(Q:List (List Int)):List Mv:=(yD Q.length).flatMap fun n=>Vv a cl Q n (Q.getD n [])
def Is(a:Aut)(l:List Int):Bool:=l.any fun s=>a.fin.getD s.toNat false
def Uc(a:Aut)(cl:List Prd)(Q:List (List Int)):Aut:=⟨a.types,Q.map (Is a),Bo a cl Q⟩
structure MInv (T N n:Nat) (D:Nat→Nat→Int→Prop) (g:List Mv):Prop where
 wf:∀m∈g,PWf T m.on
 src:∀m∈g,m.src=n
 dst:∀m∈g,∃t:Nat,t<N∧m.dst=t
 nd:g.Pairwise (fun m k=>m.dst≠k.dst)
 mem:∀m∈g,∀t:Nat,m.dst=t→∀ty y,PM m.on ty y↔D t ty y
 all:∀t ty y,D t ty y→∃m∈g,m.dst=(t:Int)
theorem MInv.add{T N n:Nat}{D:Nat→Nat→Int→Prop}{g:List Mv}(h:MInv T N n D g){to:Nat}(ht:to<N){c:Prd}(hc:PWf T c)(zh:∃ty y,PM c ty y):
  MInv T N n (fun t ty y=>D t ty y∨(t=to∧PM c ty y)) (Ux n g to c):=by
 unfold Ux;cases hf:g.findIdx? fun m:Mv=>decide (m.dst=(to:Int))with
 |none=>
  rw[List.findIdx?_eq_none_iff]at hf;have z7:∀m∈g,m.dst≠(to:Int):=fun m hm=>by simpa using hf m hm
  show MInv T N n _ (g++[⟨n,to,c⟩]);have z1:∀m∈g++[(⟨n,to,c⟩:Mv)],m∈g∨m=⟨n,to,c⟩:=fun m hm=>by
   rcases zO.1 hm with hm|hm
   ·exact .inl hm
   ·exact .inr (zK.1 hm)
  have hD:∀ty y,¬D to ty y:=fun ty y hd=>by obtain⟨m,hm,e⟩:=h.all to ty y hd;exact z7 m hm e
  refine⟨fun m hm=> ?_,fun m hm=> ?_,fun m hm=> ?_,?_,fun m hm t e ty y=> ?_,fun t ty y hd=> ?_⟩
  ·rcases z1 m hm with hm|rfl
   ·exact h.wf m hm
   ·exact hc
  ·rcases z1 m hm with hm|rfl
   ·exact h.src m hm
   ·rfl
  ·rcases z1 m hm with hm|rfl
   ·exact h.dst m hm
   ·exact⟨to,ht,rfl⟩
  ·exact zZ.2 ⟨h.nd,by simp,fun m hm k hk=>by obtain rfl:=zK.1 hk;exact z7 m hm⟩
  ·rcases z1 m hm with hm'|rfl
   ·rw[h.mem m hm' t e];constructor
    ·exact fun hd=> .inl hd
    ·rintro(hd|⟨e2,_⟩)
     ·exact hd
     ·exact absurd (by rw[e,e2]) (z7 m hm')
   ·have:t=to:=by simp at e;omega
    subst this;constructor
    ·exact fun hd=> .inr ⟨rfl,hd⟩
    ·rintro(hd|⟨_,hd⟩)
     ·exact absurd hd (hD ty y)
     ·exact hd
  ·rcases hd with hd|⟨rfl,_⟩
   ·obtain⟨m,hm,e⟩:=h.all t ty y hd;exact⟨m,by simp[hm],e⟩
   ·exact⟨⟨n,t,c⟩,by simp,rfl⟩
 |some i=>
  obtain⟨hi,zf,_⟩:=wp.1 hf;simp only[zF hi];have z6:g[i].dst=(to:Int):=by simpa using zf
  have z8:=zG hi;have hw:=h.wf _ z8;have z1:∀m∈g.set i { g[i]with on:=Ri g[i].on c },(m∈g∧m.dst≠(to:Int))∨m={ g[i]with on:=Ri g[i].on c }:=fun m hm=>by
   obtain⟨j,hj⟩:=yE.1 hm;by_cases hij:i=j
   ·subst hij;rw[zH hi]at hj;exact .inr (Option.some.inj hj).symm
   ·rw[zB hij]at hj;obtain⟨zc,zd⟩:=zA.1 hj;refine .inl ⟨zD hj,fun e=> ?_⟩;rcases ug hij with hlt|hgt
    ·exact yC.1 h.nd i j hi zc hlt (by rw[zd,e,z6])
    ·exact yC.1 h.nd j i zc hi hgt (by rw[zd,e,z6])
  refine⟨fun m hm=> ?_,fun m hm=> ?_,fun m hm=> ?_,?_,fun m hm t e ty y=> ?_,fun t ty y hd=> ?_⟩
  ·rcases z1 m hm with⟨hm,_⟩|rfl
   ·exact h.wf m hm
   ·exact Fg hw hc
  ·rcases z1 m hm with⟨hm,_⟩|rfl
   ·exact h.src m hm
   ·have:=h.src g[i] z8;simpa using this
  ·rcases z1 m hm with⟨hm,_⟩|rfl
   ·exact h.dst m hm
   ·exact⟨to,ht,z6⟩
  ·have za:(g.set i { g[i]with on:=Ri g[i].on c }).map (·.dst)=g.map (·.dst):=by
    apply List.ext_getElem?;intro j;rw[zQ,zQ];by_cases hij:i=j
    ·subst hij;rw[zH hi,zF hi];rfl
    ·rw[zB hij]
   have hp:(g.map (·.dst)).Pairwise (·≠·):=xO.2 h.nd;rw[←za]at hp;exact xO.1 hp
  ·rcases z1 m hm with⟨hm,zg⟩|rfl
   ·rw[h.mem m hm t e];constructor
    ·exact fun hd=> .inl hd
    ·rintro(hd|⟨rfl,_⟩)
     ·exact hd
     ·exact absurd e zg
   ·have:t=to:=by simp only at e;omega
    subst this;have zb:=Gi hw hc ty y;have ze:=h.mem _ z8 t z6 ty y;constructor
    ·intro hd;rcases zb.1 hd with hd|hd
     ·exact .inl (ze.1 hd)
     ·exact .inr ⟨rfl,hd⟩
    ·rintro(hd|⟨_,hd⟩)
     ·exact zb.2 (.inl (ze.2 hd))
     ·exact zb.2 (.inr hd)
  ·rcases hd with hd|⟨rfl,_⟩
   ·obtain⟨m,hm,e⟩:=h.all t ty y hd;obtain⟨j,hj⟩:=yE.1 hm;by_cases hij:i=j
    ·subst hij;rw[zF hi]at hj;cases hj;exact⟨_,zD (zH hi),e⟩
    ·exact⟨m,zD (by rw[zB hij];exact hj),e⟩
   ·exact⟨_,zD (zH hi),z6⟩
theorem MInv.congr{T N n:Nat}{D D':Nat→Nat→Int→Prop}{g:List Mv}(h:MInv T N n D g)(e:∀t ty y,D t ty y↔D' t ty y):MInv T N n D' g:=by have:D=D':=funext fun t=>funext fun ty=>funext fun y=>propext (e t ty y);rw[←this];exact h
theorem Pf{T:Nat}{a:Aut}{cl:List Prd}{Q:List (List Int)}(n:Nat)(l:List Int)(hw:∀c∈cl,PWf T c∧∃ty y,PM c ty y):
  MInv T Q.length n (fun t ty y=>∃c∈cl,x0k Q (Q0 a l (Qn c))=some t∧PM c ty y) (Vv a cl Q n l):=by
 have key:∀(r:List Prd) (D:Nat→Nat→Int→Prop) (g:List Mv),MInv T Q.length n D g→(∀c∈r,PWf T c∧∃ty y,PM c ty y)→
   MInv T Q.length n (fun t ty y=>D t ty y∨∃c∈r,x0k Q (Q0 a l (Qn c))=some t∧PM c ty y) (r.foldl (fun g c=>match x0k Q (Q0 a l (Qn c))with|some t=>Ux n g t c|none=>g) g):=by
  intro r;induction r with
  |nil=>intro D g h _;exact h.congr (fun t ty y=>by simp)
  |cons c r ih=>
   intro D g h hr;rw[xB];cases hx:x0k Q (Q0 a l (Qn c))with
   |none=>refine(ih D g h (fun d hd=>hr d (by simp[hd]))).congr (fun t ty y=> ?_);simp[hx]
   |some to=>
    have z1:=(zA.1 (G9 hx)).1;have hc:=hr c (by simp);refine(ih _ _ (h.add z1 hc.1 hc.2) (fun d hd=>hr d (by simp[hd]))).congr (fun t ty y=> ?_);simp only[zU,exists_eq_or_imp,hx,Option.some.injEq,or_assoc];constructor
    ·rintro(h|⟨e,h⟩|h)
     ·exact .inl h
     ·exact .inr (.inl ⟨e.symm,h⟩)
     ·exact .inr (.inr h)
    ·rintro(h|⟨e,h⟩|h)
     ·exact .inl h
     ·exact .inr (.inl ⟨e.symm,h⟩)
     ·exact .inr (.inr h)
 have h0:MInv T Q.length n (fun _ _ _=>False) []:=⟨by simp,by simp,by simp,by simp,by simp,fun _ _ _ h=>h.elim⟩
 exact(key cl _ [] h0 hw).congr (fun t ty y=>by simp)
end Go.Abs
namespace Go.Abs
structure Cls (a:Aut) (cl:List Prd):Prop where
 ok:OkA a
 prts:Prts a.types.toNat (a.mv.map (·.on)) cl
 wf:∀c∈cl,PWf a.types.toNat c∧∃ty y,PM c ty y
theorem y1c{a:Aut}(h:OkA a):Cls a (Qy a.types.toNat (a.mv.map (·.on))):=by
 have hT:0<a.types.toNat:=by have:=h.types;omega
 have hp:=(Ud hT (l:=a.mv.map (·.on)) (fun p hp=>by obtain⟨m,hm,rfl⟩:=zN.1 hp;exact(h.mv m hm).on)).1;exact⟨h,hp,fun c hc=>⟨hp.wf c hc,hp.ne c hc⟩⟩
def Wy(a:Aut)(x:Sy):Prop:=(0≤x.ty∧x.ty<a.types)∧inR x.num
theorem z0q{a:Aut}{l:List Int}{x y:Sy}(h:∀m∈a.mv,E5 m.on x=E5 m.on y):Q0 a l x=Q0 a l y:=by
 refine Tq (Yb ..) (Yb ..) fun z=> ?_;rw[Wv,Wv];constructor
 ·rintro⟨h1,m,hm,h2,h3,h4⟩;exact⟨h1,m,hm,h2,by rw[←h m hm];exact h3,h4⟩
 ·rintro⟨h1,m,hm,h2,h3,h4⟩;exact⟨h1,m,hm,h2,by rw[h m hm];exact h3,h4⟩
theorem Cls.of{a:Aut}{cl:List Prd}(h:Cls a cl){x:Sy}(hx:Wy a x):∃c∈cl,PM c x.ty.toNat x.num∧∀l,Q0 a l x=Q0 a l (Qn c):=by obtain⟨c,hc,hm⟩:=h.prts.all x.ty.toNat x.num (by have:=hx.1;omega) hx.2;refine⟨c,hc,hm,fun l=>z0q fun m z1=> ?_⟩;have h1:=(Wz (h.wf c hc).1 (h.wf c hc).2).1;have h2:=((h.prts.cls c hc _ _ hm _ _).1 h1).2.2 m.on (zN.2 ⟨m,z1,rfl⟩);have hl:=(h.ok.mv m z1).on.1;rw[yV,Oq hl x hx.1.1,Oq hl (Qn c) (by simp[Qn])];simpa[Qn]using h2
theorem Cls.same{a:Aut}{cl:List Prd}(h:Cls a cl){c:Prd}(hc:c∈cl){x:Sy}(hx:Wy a x)(hm:PM c x.ty.toNat x.num)(l:List Int):Q0 a l x=Q0 a l (Qn c):=by obtain⟨d,hd,z1,e⟩:=h.of hx;rw[e l,h.prts.disj hd hc z1 hm]
structure Sub (a:Aut) (cl:List Prd) (Q:List (List Int)):Prop where
 first:Q[0]? =some [0]
 nd:Q.Nodup
 ne:∀l∈Q,l≠[]
 lim:Q.length≤256
 elem:∀l∈Q,l.Pairwise (·<·)∧∀s∈l,0≤s∧s<a.fin.length
 closed:∀l∈Q,∀c∈cl,Q0 a l (Qn c)=[]∨Q0 a l (Qn c)∈Q
theorem w03{Q:List (List Int)}{x:List Int}(h:Q.Nodup):(Hf Q x).Nodup:=by
 unfold Hf;split
 ·exact h
 ·rename_i hx;exact List.nodup_append.2 ⟨h,by simp,fun a ha b hb e=>by
   obtain rfl:=zK.1 hb;subst e;exact hx (.inr ha)⟩
theorem S3:∀(xs:List (List Int)) {Q:List (List Int)},Q.Nodup→(W4 Q xs).Nodup
 |[],_,h=>h
 |x::xs,Q,h=>S3 xs (w03 (x:=x) h)
theorem x0w{a:Aut}(ha:OkA a)(cl:List Prd):∀(f i:Nat) (Q R:List (List Int)),y0x a cl f i Q=some R→Q[0]? =some [0]→Q.Nodup→(∀l∈Q,l≠[])→Q.length≤256→(∀l∈Q,l.Pairwise (·<·)∧∀s∈l,0≤s∧s<a.fin.length)→
  (∀j,j<i→∀l,Q[j]? =some l→∀c∈cl,Q0 a l (Qn c)=[]∨Q0 a l (Qn c)∈Q)→Sub a cl R
 |0,_,_,_,h,_,_,_,_,_,_=>by cases h
 |f+1,i,Q,R,h,h1,h2,h3,h4,h5,h6=>by
  rw[y0x]at h;cases hq:Q[i]? with
  |none=>rw[hq]at h;simp only[Option.some.injEq]at h;subst h;have hi:Q.length≤i:=List.getElem?_eq_none_iff.1 hq;refine⟨h1,h2,h3,h4,h5,fun l hl c hc=> ?_⟩;obtain⟨j,hj⟩:=yE.1 hl;exact h6 j (by have:=(zA.1 hj).1;omega) l hj c hc
  |some l=>
   rw[hq]at h;simp only at h;by_cases hlim:256<(W4 Q (R4 a cl l)).length
   ·rw[if_pos hlim]at h;cases h
   ·rw[if_neg hlim]at h;obtain⟨X,hX,z6⟩:=Y0 (R4 a cl l) Q;have hlen:0<Q.length:=(zA.1 h1).1;have z1:∀y∈W4 Q (R4 a cl l),y∈Q∨(y≠[]∧∃c∈cl,y=Q0 a l (Qn c)):=fun y hy=>by
     rw[hX]at hy;rcases zO.1 hy with hy|hy
     ·exact .inl hy
     ·obtain⟨p1,p2⟩:=z6 y hy;obtain⟨c,hc,rfl⟩:=zN.1 p1;exact .inr ⟨p2,c,hc,rfl⟩
    refine x0w ha cl f (i+1) _ R h ?_ (S3 _ h2) ?_ (by omega) ?_ ?_
    ·rw[hX,zE hlen];exact h1
    ·intro y hy;rcases z1 y hy with hy|⟨hy,_⟩
     ·exact h3 y hy
     ·exact hy
    ·intro y hy;rcases z1 y hy with hy|⟨_,c,_,rfl⟩
     ·exact h5 y hy
     ·exact⟨Yb ..,Yh⟩
    ·intro j hj k hk c hc;by_cases hji:j<i
     ·have z7:j<Q.length:=by have:=(zA.1 hq).1;omega
      rw[hX,zE z7]at hk;rcases h6 j hji k hk c hc with h7|h7
      ·exact .inl h7
      ·right;rw[hX];exact y_ _ h7
     ·have:j=i:=by omega
      subst this;rw[hX,zE (zA.1 hq).1,hq]at hk;cases hk;by_cases hn:Q0 a l (Qn c)=[]
      ·exact .inl hn
      ·exact .inr (Jw (zN.2 ⟨c,hc,rfl⟩) hn)
def Fh(a:Aut)(cl:List Prd):Option (List (List Int)):=y0x a cl 257 0 [[0]]
theorem v0o{a:Aut}(ha:OkA a){cl:List Prd}{Q:List (List Int)}(h:Fh a cl=some Q):Sub a cl Q:=
 x0w ha cl 257 0 [[0]] Q h rfl (by simp) (by simp) (by simp) (by intro l hl;obtain rfl:=zK.1 hl;exact⟨by simp,fun s hs=>by obtain rfl:=zK.1 hs;have:=ha.fin;omega⟩) (fun j hj=>by omega)
theorem Sub.step{a:Aut}{cl:List Prd}{Q:List (List Int)}(hs:Sub a cl Q)(hc:Cls a cl){l:List Int}(hl:l∈Q){x:Sy}(hx:Wy a x):Q0 a l x=[]∨Q0 a l x∈Q:=by obtain⟨c,h1,_,h3⟩:=hc.of hx;rw[h3 l];exact hs.closed l hl c h1
theorem U6{a:Aut}{cl:List Prd}{Q:List (List Int)}{m:Mv}:m∈Bo a cl Q↔∃n l,Q[n]? =some l∧m∈Vv a cl Q n l:=by
 unfold Bo;rw[xL];constructor
 ·rintro⟨n,hn,hm⟩;have z1:=yJ.1 hn;refine⟨n,Q[n],zF z1,?_⟩;simpa[yR,z1]using hm
 ·rintro⟨n,l,hl,hm⟩;have z1:=(zA.1 hl).1;refine⟨n,yJ.2 z1,?_⟩;simpa[yR,hl]using hm
theorem D3{a:Aut}{cl:List Prd}{Q:List (List Int)}(hc:Cls a cl)(hs:Sub a cl Q){n:Nat}{l:List Int}(hl:Q[n]? =some l){x:Sy}(hx:Wy a x)(t:Nat):
  (∃m∈Bo a cl Q,m.src=(n:Int)∧m.dst=(t:Int)∧E5 m.on x=true)↔Q[t]? =some (Q0 a l x):=by
 have hg:=Pf (a:=a) (Q:=Q) n l hc.wf;have key:x0k Q (Q0 a l x)=some t↔Q[t]? =some (Q0 a l x):=⟨G9,v0l hs.nd⟩
 rw[←key];constructor
 ·rintro⟨m,hm,h1,h2,h3⟩;obtain⟨n',l',hl',z6⟩:=U6.1 hm;have z7:=Pf (a:=a) (Q:=Q) n' l' hc.wf;have:n'=n:=by have:=z7.src m z6;omega
  subst this;rw[hl]at hl';cases hl';rw[Oq (hg.wf m z6).1 x hx.1.1]at h3;obtain⟨c,z1,e1,e2⟩:=(hg.mem m z6 t h2 _ _).1 h3;rw[hc.same z1 hx e2];exact e1
 ·intro h;obtain⟨c,z1,e1,e2⟩:=hc.of hx;rw[e2]at h;obtain⟨m,hm,hd⟩:=hg.all t _ _ ⟨c,z1,h,e1⟩;refine⟨m,U6.2 ⟨n,l,hl,hm⟩,hg.src m hm,hd,?_⟩;rw[Oq (hg.wf m hm).1 x hx.1.1];exact(hg.mem m hm t hd _ _).2 ⟨c,z1,h,e1⟩
theorem z14{a:Aut}{cl:List Prd}{Q:List (List Int)}(hc:Cls a cl)(hs:Sub a cl Q){n:Nat}{l:List Int}(hl:Q[n]? =some l){x:Sy}(hx:Wy a x):
  (Q0 a l x=[]∧Q0 (Uc a cl Q) [(n:Int)] x=[])∨∃t:Nat,Q[t]? =some (Q0 a l x)∧Q0 (Uc a cl Q) [(n:Int)] x=[(t:Int)]:=by
 have z1:∀j,j∈Q0 (Uc a cl Q) [(n:Int)] x↔∃t:Nat,j=t∧Q[t]? =some (Q0 a l x):=fun j=>by
  rw[Wv];constructor
  ·rintro⟨⟨h1,h2⟩,m,hm,h3,h4,h5⟩;refine⟨j.toNat,by omega,(D3 hc hs hl hx j.toNat).1 ⟨m,hm,zK.1 h3,by omega,h4⟩⟩
  ·rintro⟨t,rfl,ht⟩;obtain⟨m,hm,h1,h2,h3⟩:=(D3 hc hs hl hx t).2 ht;have:=(zA.1 ht).1;exact⟨⟨by omega,by simp[Uc];omega⟩,m,hm,by rw[h1];simp,h3,h2⟩
 rcases hs.step hc (zD hl) hx with h0|h0
 ·refine .inl ⟨h0,wJ.2 fun j hj=> ?_⟩;obtain⟨t,_,ht⟩:=(z1 j).1 hj;rw[h0]at ht;exact hs.ne _ (zD ht) rfl
 ·obtain⟨t,ht⟩:=yE.1 h0;refine .inr ⟨t,ht,Tq (Yb ..) (by simp) fun z=> ?_⟩;rw[z1 z];constructor
  ·rintro⟨u,rfl,hu⟩;obtain⟨h1,h2⟩:=zA.1 ht;obtain⟨h3,h4⟩:=zA.1 hu;have:u=t:=(uf hs.nd).1 (by rw[h4,h2]);simp[this]
  ·intro hz;exact⟨t,zK.1 hz,ht⟩
def Uk(a:Aut)(l:List Int)(w:List Sy):List Int:=w.foldl (Q0 a) l
def Rz(a:Aut)(w:List Sy):Bool:=Is a (Uk a [0] w)
theorem Bs(a:Aut):∀w,Uk a [] w=[]
 |[]=>rfl
 |x::w=>by
  show Uk a (Q0 a [] x) w=[]
  have:Q0 a [] x=[]:=wJ.2 fun j hj=>by obtain⟨_,m,_,h,_⟩:=Wv.1 hj;cases h
  rw[this,Bs a w]
theorem x07{a:Aut}{cl:List Prd}{Q:List (List Int)}(hc:Cls a cl)(hs:Sub a cl Q):∀(w:List Sy),(∀x∈w,Wy a x)→∀(n:Nat) (l:List Int),Q[n]? =some l→
  (Uk a l w=[]∧Uk (Uc a cl Q) [(n:Int)] w=[])∨∃t:Nat,Q[t]? =some (Uk a l w)∧Uk (Uc a cl Q) [(n:Int)] w=[(t:Int)]
 |[],_,n,l,hl=> .inr ⟨n,hl,rfl⟩
 |x::w,hw,n,l,hl=>by
  show(Uk a (Q0 a l x) w=[]∧Uk (Uc a cl Q) (Q0 (Uc a cl Q) [(n:Int)] x) w=[])∨∃t:Nat,Q[t]? =some (Uk a (Q0 a l x) w)∧Uk (Uc a cl Q) (Q0 (Uc a cl Q) [(n:Int)] x) w=[(t:Int)]
  rcases z14 hc hs hl (hw x (by simp))with⟨h1,h2⟩|⟨t,h1,h2⟩
  ·rw[h1,h2];exact .inl ⟨Bs _ _,Bs _ _⟩
  ·rw[h2];exact x07 hc hs w (fun y hy=>hw y (by simp[hy])) t _ h1
theorem u15{a:Aut}{cl:List Prd}{Q:List (List Int)}(hc:Cls a cl)(hs:Sub a cl Q){w:List Sy}(hw:∀x∈w,Wy a x):Rz (Uc a cl Q) w=Rz a w:=by
 unfold Rz;rcases x07 hc hs w hw 0 [0] hs.first with⟨h1,h2⟩|⟨t,h1,h2⟩
 ·have z1:Uk (Uc a cl Q) [0] w=[]:=h2;rw[h1,z1];rfl
 ·have z1:Uk (Uc a cl Q) [0] w=[(t:Int)]:=h2;rw[z1];simp only[Is,Uc,List.any_cons,List.any_nil,Bool.or_false,Int.toNat_natCast,yR,zQ,h1,Option.map_some,Option.getD_some]
def Vg(a:Aut):Prop:=a.mv.Pairwise (fun m k=>m.src=k.src→∀x:Sy,Wy a x→¬(E5 m.on x=true∧E5 k.on x=true))
theorem w0d{a:Aut}{cl:List Prd}{Q:List (List Int)}(hc:Cls a cl)(hs:Sub a cl Q):Vg (Uc a cl Q):=by
 unfold Vg;show(Bo a cl Q).Pairwise _;unfold Bo;rw[vT];constructor
 ·intro n hn;have z1:=yJ.1 hn;have hl:Q[n]? =some Q[n]:=zF z1;have hg:Q.getD n []=Q[n]:=by simp[yR,z1]
  rw[hg];have hi:=Pf (a:=a) (Q:=Q) n Q[n] hc.wf;refine hi.nd.imp_of_mem (fun {m k} hm hk hne _ x hx=> ?_);rintro⟨h1,h2⟩;obtain⟨t1,_,e1⟩:=hi.dst m hm;obtain⟨t2,_,e2⟩:=hi.dst k hk;have z6:Wy a x:=hx;have d1:=(D3 hc hs hl z6 t1).1 ⟨m,U6.2 ⟨n,_,hl,hm⟩,hi.src m hm,e1,h1⟩;have d2:=(D3 hc hs hl z6 t2).1 ⟨k,U6.2 ⟨n,_,hl,hk⟩,hi.src k hk,e2,h2⟩;obtain⟨p1,p2⟩:=zA.1 d1;obtain⟨p3,p4⟩:=zA.1 d2;have:t1=t2:=(uf hs.nd).1 (by rw[p2,p4]);exact hne (by rw[e1,e2,this])
 ·refine List.pairwise_lt_range.imp (fun {i j} hij m hm k hk e=> ?_);exfalso;have h1:∀n m,m∈Vv a cl Q n (Q.getD n [])→m.src=(n:Int):=fun n m hm=>(Pf (a:=a) (Q:=Q) n _ hc.wf).src m hm;have:=h1 i m hm;have:=h1 j k hk;omega
end Go.Abs
namespace Go.Abs
theorem Sq{l:List Iv}(h:Sep l)(hb:∀n,M l n→inR n):Sep (W7 l)∧(∀n,M (W7 l) n↔inR n∧¬M l n)∧(W7 l).length≤l.length+1:=by
 have z1:∀x∈l,inR x.lo∧inR x.hi:=fun x hx=>⟨hb _ ⟨x,hx,yG _,h.1 x hx⟩,hb _ ⟨x,hx,h.1 x hx,yG _⟩⟩
 have:=Il l (-1099511627776) (fun x hx=>⟨h.1 x hx,(z1 x hx).2.2⟩) h.2 (fun x hx=>(z1 x hx).1.1);exact⟨this.1,fun n=>by rw[W7,this.2.1,inR,and_assoc],this.2.2⟩
theorem Dv{T:Nat}{p:Prd}(hp:PWf T p)(t:Nat)(n:Int):PM (W2 p) t n↔(t<T∧inR n)∧¬PM p t n:=by
 unfold PM W2;rw[zQ];constructor
 ·rintro⟨s,hs,hm⟩;obtain⟨a,ha,rfl⟩:=zL.1 hs;have hw:=hp.2 a (zD ha);have hg:=((Sq hw.1 hw.2).2.1 n).1 hm;refine⟨⟨by rw[←hp.1];exact(zA.1 ha).1,hg.1⟩,?_⟩;rintro⟨b,hb,z1⟩;rw[ha]at hb;cases hb;exact hg.2 z1
 ·rintro⟨⟨h1,h2⟩,h3⟩;have hl:t<p.length:=by rw[hp.1];exact h1
  have hw:=hp.2 _ (zG hl);exact⟨W7 p[t],by rw[zF hl];rfl,((Sq hw.1 hw.2).2.1 n).2 ⟨h2,fun hm=>h3 ⟨_,zF hl,hm⟩⟩⟩
theorem U4{T:Nat}{p:Prd}(hp:PWf T p):PWf T (W2 p):=⟨by simp[W2,hp.1],fun s hs=>by
 obtain⟨a,ha,rfl⟩:=zN.1 hs;have hw:=hp.2 a ha;exact⟨(Sq hw.1 hw.2).1,fun n hn=>(((Sq hw.1 hw.2).2.1 n).1 hn).1⟩⟩
def Z4(T:Nat)(ps:List Prd):Prd:=(yD T).map fun i=>E6 (Q7 ps i)
theorem Kx{T:Nat}{ps:List Prd}(h:∀p∈ps,PWf T p)(i:Nat):∀x∈Q7 ps i,x.lo≤x.hi:=fun x hx=>by
 obtain⟨p,hp,hx⟩:=R5.1 hx;have hm:p.getD i []=[]∨p.getD i []∈p:=by
  by_cases hi:i<p.length
  ·exact .inr (by rw[Ww hi];exact zG hi)
  ·exact .inl (by simp[yR,hi])
 rcases hm with e|hm
 ·rw[e]at hx;cases hx
 ·exact((h p hp).2 _ hm).1.1 x hx
theorem Ju{T:Nat}{ps:List Prd}(h:∀p∈ps,PWf T p)(t:Nat)(n:Int):PM (Z4 T ps) t n↔∃p∈ps,PM p t n:=by
 unfold PM Z4;rw[zQ];constructor
 ·rintro⟨s,hs,hm⟩;obtain⟨i,hi,rfl⟩:=zL.1 hs;obtain⟨z6,e⟩:=zA.1 hi;rw[List.getElem_range]at e;subst e;obtain⟨x,hx,h1⟩:=((Y9 _ (Kx h t)).2 n).1 hm;obtain⟨p,hp,hx⟩:=R5.1 hx;have ht:t<T:=by simpa using z6
  have z1:t<p.length:=by rw[(h p hp).1];exact ht
  rw[Ww z1]at hx;exact⟨p,hp,p[t],zF z1,x,hx,h1⟩
 ·rintro⟨p,hp,s,hs,x,hx,h1⟩;obtain⟨z1,e⟩:=zA.1 hs;have ht:t<T:=by rw[←(h p hp).1];exact z1
  refine⟨E6 (Q7 ps t),by simp[ht],((Y9 _ (Kx h t)).2 n).2 ⟨x,R5.2 ⟨p,hp,?_⟩,h1⟩⟩;rw[Ww z1,e];exact hx
theorem G7{T:Nat}{ps:List Prd}(h:∀p∈ps,PWf T p):PWf T (Z4 T ps):=by
 refine⟨by simp[Z4],fun s hs=> ?_⟩;obtain⟨i,hi,rfl⟩:=zN.1 hs;refine⟨(Y9 _ (Kx h i)).1,fun n hn=> ?_⟩;have:PM (Z4 T ps) i n:=⟨E6 (Q7 ps i),by simp[Z4,yJ.1 hi],hn⟩
 obtain⟨p,hp,hm⟩:=(Ju h i n).1 this;exact((h p hp).lt hm).2
theorem v1r{T:Nat}{c:Prd}(h:PWf T c):Z4 T [c]=c:=
 Gq (G7 (by simpa using h)) h fun t n=>by rw[Ju (by simpa using h)];simp
theorem x1r{T:Nat}{p q:Prd}(hp:PWf T p)(hq:PWf T q):Z4 T [p,q]=Ri p q:=by
 have h:∀x∈[p,q],PWf T x:=fun x hx=>by
  rcases zU.1 hx with rfl|hx
  ·exact hp
  ·obtain rfl:=zK.1 hx;exact hq
 exact Gq (G7 h) (Fg hp hq) fun t n=>by rw[Ju h,Gi hp hq];simp
def q05(a:Aut)(s:Int):List Prd:=(a.mv.filter fun m=>decide (m.src=s)).map (·.on)
def Ds(a:Aut)(s:Int):Prd:=W2 (Z4 a.types.toNat (q05 a s))
def Al(a:Aut)(s:Int):Prd:=(q05 a s).foldl (fun r p=>Wf r (W2 p)) (Wg a.types.toNat)
structure WfA (a:Aut):Prop where
 types:1≤a.types∧a.types≤16
 fin:1≤a.fin.length
 src:∀m∈a.mv,0≤m.src∧m.src<a.fin.length
 dst:∀m∈a.mv,0≤m.dst∧m.dst<a.fin.length
 on:∀m∈a.mv,PWf a.types.toNat m.on
theorem OkA.wfA{a:Aut}(h:OkA a):WfA a:=⟨h.types,h.fin.1,fun m hm=>(h.mv m hm).src,fun m hm=>(h.mv m hm).dst,fun m hm=>(h.mv m hm).on.wf⟩
theorem Ma{a:Aut}(h:WfA a)(s:Int):∀p∈q05 a s,PWf a.types.toNat p:=fun p hp=>by obtain⟨m,hm,rfl⟩:=zN.1 hp;exact h.on m (wK.1 hm).1
theorem Lw{a:Aut}(h:WfA a)(s:Int)(t:Nat)(n:Int):PM (Ds a s) t n↔(t<a.types.toNat∧inR n)∧∀p∈q05 a s,¬PM p t n:=by rw[Ds,Dv (G7 (Ma h s)),Ju (Ma h s)];simp
theorem M7{a:Aut}(h:WfA a)(s:Int):PWf a.types.toNat (Ds a s):=U4 (G7 (Ma h s))
theorem C9{T:Nat}:∀(l:List Prd) (r:Prd),(∀p∈l,PWf T p)→PWf T r→PWf T (l.foldl (fun r p=>Wf r (W2 p)) r)∧
  ∀t n,PM (l.foldl (fun r p=>Wf r (W2 p)) r) t n↔PM r t n∧∀p∈l,¬PM p t n
 |[],r,_,hr=>⟨hr,fun t n=>by simp⟩
 |p::l,r,hl,hr=>by
  have hp:=hl p (by simp);obtain⟨h1,h2⟩:=C9 l (Wf r (W2 p)) (fun q hq=>hl q (by simp[hq])) (Yo hr (U4 hp).1);refine⟨h1,fun t n=> ?_⟩;rw[xB,h2,Rc hr.1 (U4 hp).1,Dv hp];constructor
  ·rintro⟨⟨a,b,c⟩,d⟩;refine⟨a,fun q hq=> ?_⟩;rcases zU.1 hq with rfl|hq
   ·exact c
   ·exact d q hq
  ·rintro⟨a,d⟩;exact⟨⟨a,hr.lt a,d p (by simp)⟩,fun q hq=>d q (by simp[hq])⟩
theorem u18{a:Aut}(h:WfA a)(s:Int):Al a s=Ds a s:=by obtain⟨h1,h2⟩:=C9 (q05 a s) (Wg a.types.toNat) (Ma h s) (L5 _);exact Gq h1 (M7 h s) fun t n=>by rw[Al,h2,Lw h,Du]
theorem Xr{a:Aut}(h:WfA a)(s:Int):Wk (Ds a s)=true↔∀t n,t<a.types.toNat→inR n→∃p∈q05 a s,PM p t n:=by
 rw[E4 (M7 h s)];constructor
 ·intro hv t n ht hn;have:=hv t n;rw[Lw h]at this;by_cases hc:∃p∈q05 a s,PM p t n
  ·exact hc
  ·exact absurd ⟨⟨ht,hn⟩,fun p hp hm=>hc ⟨p,hp,hm⟩⟩ this
 ·intro hv t n;rw[Lw h];rintro⟨⟨ht,hn⟩,hx⟩;obtain⟨p,hp,hm⟩:=hv t n ht hn;exact hx p hp hm
def Xp(a:Aut):Bool:=decide (256<a.fin.length) || decide (2048<a.mv.length) || a.mv.any fun m=>m.on.any fun s=>decide (256<s.length)
theorem j16{a:Aut}(h:WfA a):Wj a=0↔Xp a=false:=by
 rw[Oc];unfold Xp;simp only[Bool.or_eq_false_iff,decide_eq_false_iff_not,wU,decide_eq_true_eq];constructor
 ·rintro⟨h1,h2,h3,h4⟩;exact⟨⟨by omega,by omega⟩,fun m hm=>by
   simp only[up,wU,decide_eq_true_eq];exact fun s hs=>by have:=((h4 m hm).on.2 s hs).len;omega⟩
 ·rintro⟨⟨h1,h2⟩,h3⟩;refine⟨h.types,⟨h.fin,by omega⟩,by omega,fun m hm=>⟨h.src m hm,h.dst m hm,(h.on m hm).1,fun s hs=> ?_⟩⟩;have hw:=(h.on m hm).2 s hs;have:=h3 m hm;simp only[up,wU,decide_eq_true_eq]at this;exact X1 hw.1 (v0h hw.1 hw.2) (by have:=this s hs;omega)
def f07(a:Aut):Int×Aut:=if Xp a then(5,O1)else(0,a)
def w2i(a:Aut):Int×Aut:=if Wj a≠0 then(5,O1)else(0,a)
theorem d1g{a c:Aut}(h:WfA a)(hl:f07 a=(0,c)):c=a∧OkA a:=by
 unfold f07 at hl;cases hb:Xp a
 ·rw[hb,if_neg (by simp)]at hl;exact⟨(Prod.mk.inj hl).2.symm,(Oc a).1 ((j16 h).2 hb)⟩
 ·rw[hb,if_pos rfl]at hl;cases(Prod.mk.inj hl).1
end Go.Abs
namespace Go.Abs
def Bq(a:Aut)(lack:Int→Prd):List Mv:=(yD a.fin.length).filterMap fun s:Nat=>if Wk (lack s)then none else some ⟨s,a.fin.length,lack s⟩
def y2l(a:Aut):Aut:=⟨a.types,a.fin++[false],a.mv++Bq a (Ds a)++[⟨a.fin.length,a.fin.length,Wg a.types.toNat⟩]⟩
def x0e(a:Aut):Int×Aut:=if(Bq a (Ds a)).isEmpty then(0,a)else f07 (y2l a)
def P9(a:Aut):Bool:=(yD a.fin.length).all fun s:Nat=>Wk (Al a s)
def x20(a:Aut):Int×Aut:=if P9 a then(0,a)else w2i ⟨a.types,a.fin++[false],a.mv++Bq a (Al a)++[⟨a.fin.length,a.fin.length,Wg a.types.toNat⟩]⟩
theorem Xj{a:Aut}{lack:Int→Prd}{m:Mv}:m∈Bq a lack↔∃s:Nat,s<a.fin.length∧Wk (lack s)=false∧m=⟨s,a.fin.length,lack s⟩:=by
 unfold Bq;rw[wM];constructor
 ·rintro⟨s,hs,h⟩;cases hv:Wk (lack s)
  ·rw[hv,if_neg (by simp)]at h;cases h;exact⟨s,yJ.1 hs,hv,rfl⟩
  ·rw[hv,if_pos rfl]at h;cases h
 ·rintro⟨s,hs,hv,rfl⟩;exact⟨s,yJ.2 hs,by rw[hv,if_neg (by simp)]⟩
theorem Vq{a:Aut}{lack:Int→Prd}:Bq a lack=[]↔∀s:Nat,s<a.fin.length→Wk (lack s)=true:=by
 rw[wJ];constructor
 ·intro h s hs;cases hv:Wk (lack s)
  ·exact absurd (Xj.2 ⟨s,hs,hv,rfl⟩) (h _)
  ·rfl
 ·intro h m hm;obtain⟨s,hs,hv,_⟩:=Xj.1 hm;rw[h s hs]at hv;cases hv
def q1v(a:Aut):Prop:=∀s:Int,0≤s→s<a.fin.length→∀x,Wy a x→∃m∈a.mv,m.src=s∧E5 m.on x=true
theorem w1c{a:Aut}{x:Sy}(h:Wy a x):x.ty.toNat<a.types.toNat∧inR x.num∧0≤x.ty:=⟨by have:=h.1;omega,h.2,h.1.1⟩
theorem Ue{a:Aut}(h:WfA a){m:Mv}(hm:m∈a.mv){x:Sy}(hx:Wy a x):E5 m.on x=true↔PM m.on x.ty.toNat x.num:=Oq (h.on m hm).1 x hx.1.1
theorem k0u{a:Aut}{s:Int}{p:Prd}:p∈q05 a s↔∃m∈a.mv,m.src=s∧m.on=p:=by
 unfold q05;rw[zN];constructor
 ·rintro⟨m,hm,e⟩;have:=wK.1 hm;exact⟨m,this.1,by simpa using this.2,e⟩
 ·rintro⟨m,hm,hs,e⟩;exact⟨m,wK.2 ⟨hm,by simpa using hs⟩,e⟩
theorem q1r{a:Aut}(h:WfA a):Bq a (Ds a)=[]↔q1v a:=by
 rw[Vq];constructor
 ·intro hv s h0 h1 x hx;have hs:=hv s.toNat (by omega);rw[show((s.toNat:Nat):Int)=s by omega,Xr h]at hs;obtain⟨k1,k2,_⟩:=w1c hx;obtain⟨p,hp,hm⟩:=hs _ _ k1 k2;obtain⟨m,z1,e,rfl⟩:=k0u.1 hp;exact⟨m,z1,e,(Ue h z1 hx).2 hm⟩
 ·intro hf s hs;rw[Xr h];intro t n ht hn;have hx:Wy a ⟨t,n⟩:=⟨⟨by simp,by simp only;omega⟩,hn⟩
  obtain⟨m,hm,e,hh⟩:=hf s (by omega) (by omega) _ hx;exact⟨m.on,k0u.2 ⟨m,hm,e,rfl⟩,by have:=(Ue h hm hx).1 hh;simpa using this⟩
theorem runIn{a:Aut}:∀(w:List Sy) (l:List Int),(∀j∈l,0≤j∧j<a.fin.length)→∀j∈Uk a l w,0≤j∧j<a.fin.length
 |[],_,hl=>hl
 |x::w,_,_=>runIn w _ (fun _ hj=>Yh _ hj)
theorem v04{a:Aut}(h:WfA a):∀j∈[(0:Int)],0≤j∧j<a.fin.length:=fun j hj=>by obtain rfl:=zK.1 hj;have:=h.fin;omega
theorem Lm{a:Aut}{l:List Int}:Is a l=true↔∃s∈l,a.fin.getD s.toNat false=true:=by rw[Is,wR]
end Go.Abs
namespace Go.Abs
def Yf(T:Int):List Prd→Int
 |[]=>0
 |p::r=>if E7 T p≠0 then E7 T p else Yf T r
def Sr(L:List Prd):Bool:=decide (256<L.length) || L.any fun p=>p.any fun s=>decide (256<s.length)
def Rn(T:Int)(l:List Prd):Int×List Prd:=if T<1∨16<T then(2,[])else if 256<l.length then(5,[])else if Yf T l≠0 then(Yf T l,[])else
 if Sr (W5 T.toNat l)then(5,[])else(0,W5 T.toNat l)
def Ll(T:Int)(l:List Prd):Int×List Prd:=if T<1∨16<T then(2,[])else if 256<l.length then(5,[])else if Yf T l≠0 then(Yf T l,[])else
 if Sr (Qy T.toNat l)then(5,[])else(0,Qy T.toNat l)
theorem Uz{T:Int}:∀(l:List Prd),Yf T l=0↔∀p∈l,E7 T p=0
 |[]=>by simp[Yf]
 |p::r=>by
  rw[Yf];by_cases h:E7 T p=0
  ·rw[if_neg (fun k=>k h),Uz r];simp[h]
  ·rw[if_pos h];exact⟨fun k=>absurd k h,fun k=>absurd (k p (by simp)) h⟩
theorem k0p(T:Int)(l:List Prd):Ll T l=Rn T l:=by
 unfold Ll Rn;split
 ·rfl
 ·rename_i hT;split
  ·rfl
  ·split
   ·rfl
   ·rename_i hc;have z1:∀p∈l,PCk T.toNat p:=fun p hp=>((Ea T p).1 ((Uz l).1 (by simpa using hc) p hp)).2;rw[Ar (by omega) z1]
theorem f0z{T:Int}(hT:1≤T∧T≤16){l:List Prd}(hl:∀p∈l,PCk T.toNat p):(Rn T l).1=5∨Rn T l=(0,Qy T.toNat l):=by
 unfold Rn;have hc:Yf T l=0:=(Uz l).2 fun p hp=>(Ea T p).2 ⟨hT,hl p hp⟩;rw[if_neg (by omega)];split
 ·exact .inl rfl
 ·rw[if_neg (by simp[hc])];split
  ·exact .inl rfl
  ·exact .inr (by rw[Ar (by omega) hl])
def onA(a:Aut):List Prd:=a.mv.map (·.on)
def O5(a:Aut):Int×List Prd×List (List Int):=if Wj a≠0 then(Wj a,[],[])else
 if(Rn a.types (onA a)).1≠0 then((Rn a.types (onA a)).1,[],[])else
 match Fh a (Rn a.types (onA a)).2 with
 |none=>(5,[],[])
 |some Q=>(0,(Rn a.types (onA a)).2,Q)
def Ro(a:Aut):Int×Aut:=if(O5 a).1≠0 then((O5 a).1,O1)else f07 (Uc a (O5 a).2.1 (O5 a).2.2)
def z2e(a:Aut):Int×Aut:=if Wj a≠0 then(Wj a,O1)else x0e a
def w27(a:Aut):Aut:={ a with fin:=a.fin.map (!·) }
def x2v(a:Aut):Int×Aut:=if(Ro a).1≠0 then((Ro a).1,O1)else if(x0e (Ro a).2).1≠0 then((x0e (Ro a).2).1,O1)else(0,w27 (x0e (Ro a).2).2)
theorem Hu{a:Aut}(h:OkA a):∀p∈onA a,PCk a.types.toNat p:=fun p hp=>by obtain⟨m,hm,rfl⟩:=zN.1 hp;exact(h.mv m hm).on
theorem Cr{a:Aut}(h:OkA a):O5 a=(5,[],[])∨∃Q,O5 a=(0,Qy a.types.toNat (onA a),Q)∧Fh a (Qy a.types.toNat (onA a))=some Q∧Sub a (Qy a.types.toNat (onA a)) Q∧Cls a (Qy a.types.toNat (onA a)):=by
 unfold O5;rw[if_neg (fun k=>k ((Oc a).2 h))];rcases f0z h.types (Hu h)with hm|hm
 ·rw[if_pos (by rw[hm];decide),hm];exact .inl rfl
 ·rw[hm,if_neg (by simp)];cases hs:Fh a (Qy a.types.toNat (onA a))with
  |none=>exact .inl rfl
  |some Q=>exact .inr ⟨Q,rfl,rfl,v0o h hs,y1c h⟩
theorem g0g{a:Aut}(h:Wj a≠0):O5 a=(Wj a,[],[]):=if_pos h
theorem Ay{a:Aut}{cl:List Prd}{Q:List (List Int)}(hc:Cls a cl){m:Mv}(hm:m∈Bo a cl Q):(∃n:Nat,n<Q.length∧m.src=n)∧(∃t:Nat,t<Q.length∧m.dst=t)∧PWf a.types.toNat m.on:=by obtain⟨n,l,hl,hg⟩:=U6.1 hm;have hi:=Pf (a:=a) (Q:=Q) n l hc.wf;exact⟨⟨n,(zA.1 hl).1,hi.src m hg⟩,hi.dst m hg,hi.wf m hg⟩
theorem c1i{a:Aut}{cl:List Prd}{Q:List (List Int)}(hc:Cls a cl)(hs:Sub a cl Q):WfA (Uc a cl Q):=by
 have h0:=(zA.1 hs.first).1;have hl:(Uc a cl Q).fin.length=Q.length:=by simp[Uc]
 refine⟨hc.ok.types,by omega,fun m hm=> ?_,fun m hm=> ?_,fun m hm=>(Ay hc hm).2.2⟩
 ·obtain⟨⟨n,h1,h2⟩,_⟩:=Ay hc hm;rw[hl,h2];omega
 ·obtain⟨_,⟨n,h1,h2⟩,_⟩:=Ay hc hm;rw[hl,h2];omega
theorem I8{a d:Aut}(h:OkA a)(hd:Ro a=(0,d)):∃Q,Fh a (Qy a.types.toNat (onA a))=some Q∧Sub a (Qy a.types.toNat (onA a)) Q∧Cls a (Qy a.types.toNat (onA a))∧
  O5 a=(0,Qy a.types.toNat (onA a),Q)∧d=Uc a (Qy a.types.toNat (onA a)) Q∧OkA d∧Vg d∧d.types=a.types∧∀w,(∀x∈w,Wy a x)→Rz d w=Rz a w:=by
 unfold Ro at hd;rcases Cr h with hs|⟨Q,hs,hq,z1,z6⟩
 ·rw[hs,if_pos (by decide)]at hd;cases(Prod.mk.inj hd).1
 ·rw[hs,if_neg (by simp)]at hd;obtain⟨rfl,hk⟩:=d1g (c1i z6 z1) hd;exact⟨Q,hq,z1,z6,hs,rfl,hk,w0d z6 z1,rfl,fun w hw=>u15 z6 z1 hw⟩
theorem c06{a:Aut}(hw:WfA a)(hd:Vg a)(hf:q1v a){s:Int}(h0:0≤s)(h1:s<a.fin.length){x:Sy}(hx:Wy a x):∃t:Int,0≤t∧t<a.fin.length∧Q0 a [s] x=[t]:=by
 obtain⟨m,hm,e,hh⟩:=hf s h0 h1 x hx;refine⟨m.dst,(hw.dst m hm).1,(hw.dst m hm).2,Tq (Yb ..) (by simp) fun z=> ?_⟩;rw[Wv];constructor
 ·rintro⟨_,k,hk,h2,h3,h4⟩;obtain h2:=zK.1 h2;have:k=m∨k.dst=m.dst:=by
   obtain⟨i,hi⟩:=yE.1 hm;obtain⟨j,hj⟩:=yE.1 hk;obtain⟨z7,z1⟩:=zA.1 hi;obtain⟨z8,z6⟩:=zA.1 hj;by_cases hij:i=j
   ·subst hij;left;rw[←z1,←z6]
   ·exfalso;rcases ug hij with hlt|hgt
    ·have:=yC.1 hd i j z7 z8 hlt;rw[z1,z6]at this;exact this (by rw[e,h2]) x hx ⟨hh,h3⟩
    ·have:=yC.1 hd j i z8 z7 hgt;rw[z1,z6]at this;exact this (by rw[e,h2]) x hx ⟨h3,hh⟩
  rcases this with rfl|this
  ·rw[←h4];simp
  ·rw[←h4,this];simp
 ·intro hz;obtain rfl:=zK.1 hz;exact⟨hw.dst m hm,m,hm,by rw[e];simp,hh,rfl⟩
theorem d0u{a:Aut}{cl:List Prd}(hc:Cls a cl){c:Prd}(hm:c∈cl):Wy a (Qn c):=by have h:=(Wz (hc.wf c hm).1 (hc.wf c hm).2).1;have h2:=(hc.wf c hm).1.lt h;exact⟨⟨by simp[Qn],by simp only[Qn];omega⟩,h2.2⟩
end Go.Abs
namespace Go.Abs
def y1l(p:Prd):Bool:=decide (p.length≤4) && p.all fun s=>decide (s.length≤12)
def w1y(a:Aut):Bool:=decide (a.fin.length≤8) && decide (a.mv.length≤16) && a.mv.all fun m=>y1l m.on
theorem M0{p:Prd}:y1l p=true↔p.length≤4∧∀s∈p,s.length≤12:=by simp[y1l]
theorem w1v(l:List Iv):(E6 l).length≤l.length:=by have h1:=Rl (Em l) [];have h2:=(Iz l).1.length_eq;rw[E6];simp at h1;omega
theorem d05{l:List Iv}(h:Sep l)(hb:∀n,M l n→inR n):(W7 l).length≤l.length+1:=(Sq h hb).2.2
theorem u0p(T:Nat):∀x∈Wg T,x.length=1:=fun x hx=>by obtain rfl:=wB hx;rfl
def y27(a:Aut)(l:List Int)(x:Sy):Int×List Int:=if Wj a≠0 then(Wj a,[])else if 256<l.length then(5,[])else
 if l.any (fun s=>decide (s<0) || decide ((a.fin.length:Int)≤s))then(6,[])else if Az a.types x≠0 then(Az a.types x,[])else(0,Q0 a l x)
theorem B5{n:Nat}{l:List Int}(h:l.Pairwise (·<·))(hr:∀s∈l,0≤s∧s<n):l.length≤n:=by
 have he:l=(Wp n).filter fun z=>decide (z∈l):=Tq h ((Ch n).filter _) fun z=>by rw[wK,Wq];exact⟨fun hz=>⟨hr z hz,by simpa using hz⟩,fun hz=>by simpa using hz.2⟩
 have h1:=vE (fun z=>decide (z∈l)) (Wp n);rw[←he]at h1;simpa[Wp]using h1
theorem Zi{a:Aut}(h:OkA a)(l:List Int)(x:Sy):(Q0 a l x).length≤256:=by have:=B5 (Yb a l x) Yh;have:=h.fin;omega
def q0b(p q:Prd):Bool:= !Wk (Wf p q)
def Lc(a:Aut):Bool:=(yD a.mv.length).all fun i=>(yD i).all fun k=> !(decide ((a.mv.getD i default).src=(a.mv.getD k default).src) && q0b (a.mv.getD i default).on (a.mv.getD k default).on)
theorem Ks{T:Nat}{p q:Prd}(hp:PWf T p)(hq:PWf T q):q0b p q=true↔∃t n,PM p t n∧PM q t n:=by
 unfold q0b;cases hv:Wk (Wf p q)
 ·simp only[Bool.not_false,true_iff];apply Classical.byContradiction;intro hn;have:=(E4 (Yo hp hq.1)).2 (fun t n hm=>hn ⟨t,n,(Rc hp.1 hq.1 t n).1 hm⟩);rw[hv]at this;cases this
 ·simp only[Bool.not_true,Bool.false_eq_true,false_iff];rintro⟨t,n,hm⟩;exact(E4 (Yo hp hq.1)).1 hv t n ((Rc hp.1 hq.1 t n).2 hm)
theorem V4{a:Aut}(h:WfA a):Lc a=true↔Vg a:=by
 unfold Lc Vg;rw[zP,yC];have hg:∀(i:Nat) (hi:i<a.mv.length),a.mv.getD i default=a.mv[i]:=fun i hi=>by simp[yR,hi]
 constructor
 ·intro hs i j hi hj z6 e x hx;rintro⟨h1,h2⟩;have:=hs j (yJ.2 hj);rw[zP]at this;have:=this i (yJ.2 z6);rw[hg j hj,hg i hi,e]at this;have hc:q0b a.mv[j].on a.mv[i].on=true:=(Ks (h.on _ (zG hj)) (h.on _ (zG hi))).2 ⟨_,_,(Ue h (zG hj) hx).1 h2,(Ue h (zG hi) hx).1 h1⟩;rw[hc]at this;simp at this
 ·intro hd i hi;have hi:=yJ.1 hi;rw[zP];intro k hk;have hk:=yJ.1 hk;have z1:k<a.mv.length:=by omega
  rw[hg i hi,hg k z1];by_cases e:a.mv[i].src=a.mv[k].src
  ·cases hc:q0b a.mv[i].on a.mv[k].on
   ·simp
   ·exfalso;obtain⟨t,n,h1,h2⟩:=(Ks (h.on _ (zG hi)) (h.on _ (zG z1))).1 hc;have hb:=(h.on _ (zG hi)).lt h1;have hx:Wy a ⟨t,n⟩:=⟨⟨by simp,by simp only;omega⟩,hb.2⟩
    exact hd k i z1 hi hk e.symm ⟨t,n⟩ hx ⟨(Ue h (zG z1) hx).2 (by simpa using h2),(Ue h (zG hi) hx).2 (by simpa using h1)⟩
  ·simp[e]
end Go.Abs
