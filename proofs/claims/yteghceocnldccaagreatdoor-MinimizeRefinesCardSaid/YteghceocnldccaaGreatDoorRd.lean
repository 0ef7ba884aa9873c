/- Part Rd of the proof: an abstract machine over the model, and what the functions of the program hand back in its terms. No condition. -/
import Derived.Test.YteghceocnldccaaGreatDoorRc
import Derived.Test.YteghceocnldccaaGreatDoorRb
set_option linter.all false
open List renaming eq_nil_or_concat→wM,concat_eq_append→wN,getLast?_append→tc,getLast?_singleton→uQ,dropLast_concat→td,mem_append→zW,foldl_cons→xY,length_cons→yS,length_take→wn,take_succ_eq_append_getElem→zU,take_of_length_le→zR,map_take→xP,map_drop→xR,take_length→yW,take_append_drop→xU,mem_cons→yE,getElem?_append_right→zH,length_map→yB,drop_length→xF,getElem_of_mem→xH,getElem_mem→zL,any_eq_true→vz,any_eq_false→vD,replicate→yL,cons_append→vY,length_filter_le→wd,perm_middle→vI,pairwise_append→yF,pairwise_cons→yT,pairwise_iff_getElem→yU,getElem_take→tt,pairwise_mergeSort→uR,mem_mergeSort→tr,mem_flatMap→wU,mem_filterMap→vN,countP_cons→vE,countP_eq_zero→tj,map_cons→yZ,sum_cons→ur,getElem?_eq_some_iff→zB,mem_of_getElem?→zJ,getElem?_eq_getElem→zK,perm_ext_iff_of_nodup→uH,zipWith→tS,getElem?_replicate→uc,eq_of_mem_replicate→vJ,getElem?_zipWith→vA,mem_iff_getElem?→yJ,getElem?_map→zY,all_eq_true→zX,isEmpty_iff→tC,mem_singleton→zQ,pairwise_flatMap→ud,range→yO,getD→yX,getElem?_set_self→zO,getElem?_set_ne→zE,mem_cons_of_mem→tf,map_congr_left→xX,mem_map→zT,mem_range→y_,pairwise_map→wP,mem_filter→xW,mem_append_left→xA,findIdx?_eq_some_iff_getElem→xG,getElem_inj→vT,getElem?_append_left→zF,eq_nil_iff_forall_not_mem→vP,mem_append_right→uj
open Option renaming some_or→tA,map_eq_some_iff→zV
open Nat renaming le_refl→zP,le_trans→yH,lt_trichotomy→vV,lt_or_gt_of_ne→uz
open Bool renaming eq_iff_iff→wt,not_eq_true→uI
open Int renaming le_refl→xN,lt_trichotomy→tB
set_option maxHeartbeats 2000000
set_option linter.unusedSimpArgs false
set_option maxRecDepth 100000
namespace Go.Abs
open Go Go.Proofs
def y2e:List Iv→Int
 |[]=>0
 |x::r=>if(De x != 0)=true then De x else y2e r
def Qx(acc l:List Iv):List Iv:=l.foldl W4 acc
def q1d(l:List Iv):Int:=if decide ((256:Int)<l.length)=true then 5 else y2e l
def v2d(l:List Iv)(r:AV):Prop:=(q1d l≠0∧r= .tup [.list [],.i (q1d l)])∨(q1d l=0∧l.length≤256∧y2e l=0∧∃l':List Iv,l'.Perm l∧X0 l'∧r= .tup [LIv (Qx [] l'),.i 0])
theorem Cu{x:Iv}(h:De x=0):Ia x∧x.lo≤x.hi:=by
 unfold De at h;by_cases h1:(!inB x.lo || !inB x.hi)=true
 ·rw[if_pos h1]at h;cases h
 ·rw[if_neg h1]at h;by_cases h2:decide (x.hi<x.lo)=true
  ·rw[if_pos h2]at h;cases h
  ·exact⟨by simpa[Ia]using h1,by simpa using h2⟩
theorem k1s{acc:List Iv}{x:Iv}(ha:∀y∈acc,Ia y)(hx:Ia x):∀y∈W4 acc x,Ia y:=by
 rcases wM acc with rfl|⟨ini,z,rfl⟩
 ·simpa[W4]using hx
 ·have hz:=ha z (by simp);have hi:∀y∈ini,Ia y:=fun y hy=>ha y (by simp[hy]);intro y hy;simp only[W4,wN,tc,uQ,tA,td]at hy;split at hy
  ·rcases zW.1 hy with h|h
   ·exact hi y h
   ·simp at h;subst h;refine⟨hz.1,?_⟩;simp only;split
    ·exact hx.2
    ·exact hz.2
  ·rcases zW.1 hy with h|h
   ·rcases zW.1 h with h|h
    ·exact hi y h
    ·simp at h;subst h;exact hz
   ·simp at h;subst h;exact hx
theorem y18(acc:List Iv)(x:Iv):(W4 acc x).length≤acc.length+1:=by
 rcases wM acc with rfl|⟨ini,z,rfl⟩
 ·simp[W4]
 ·simp only[W4,wN,tc,uQ,tA,td];split<;>simp
theorem Uv(acc l:List Iv)(x:Iv):Qx acc (l++[x])=W4 (Qx acc l) x:=by simp[Qx]
theorem Rq:∀(l acc:List Iv),(Qx acc l).length≤acc.length+l.length
 |[],acc=>by simp[Qx]
 |x::r,acc=>by have:=Rq r (W4 acc x);have:=y18 acc x;simp only[Qx,xY,yS]at *;omega
theorem I7:∀(l acc:List Iv),(∀y∈acc,Ia y)→(∀y∈l,Ia y)→∀y∈Qx acc l,Ia y
 |[],acc,h,_=>by simpa[Qx]using h
 |x::r,acc,h,hl=>I7 r (W4 acc x) (k1s h (hl x (by simp))) (fun y hy=>hl y (by simp[hy]))
attribute [local irreducible] De
end Go.Abs
namespace Go.Abs
open Go Go.Proofs
def q2z(s:List Iv)(j:Nat)(x:Iv):Bool:=match s[j]? with|some y=>decide (x.lo<y.lo)|none=>false
def Yu(s:List Iv)(x:Iv):Nat→Nat
 |0=>0
 |j+1=>if q2z s j x=true then Yu s x j else j+1
def Xu(s:List Iv)(x:Iv):List Iv:=s.take (Yu s x s.length)++x::s.drop (Yu s x s.length)
def E3(l:List Iv):List Iv:=l.foldl Xu []
theorem Hj(s:List Iv)(x:Iv):∀j,Yu s x j≤j
 |0=>zP _
 |j+1=>by
  rw[Yu];split
  ·exact Nat.le_succ_of_le (Hj s x j)
  ·exact zP _
theorem z1g(s:List Iv)(x:Iv):(Xu s x).length=s.length+1:=by have:=Hj s x s.length;simp[Xu];omega
theorem u0f(l:List Iv)(x:Iv):E3 (l++[x])=Xu (E3 l) x:=by simp[E3]
theorem K4:∀(l acc:List Iv),(l.foldl Xu acc).length=acc.length+l.length
 |[],acc=>by simp
 |x::r,acc=>by rw[xY,K4 r,z1g,yS];omega
theorem Gn(l:List Iv):(E3 l).length=l.length:=by rw[E3,K4];simp
theorem f04(l:List Iv)(hl:l.length≤1000000000):PC Tryz.prog 184 [LIv l] (fun r=>r=LIv (E3 l)):=by
 refine Qk tOk Tryz.func184 rfl Tryz.results184 rfl (by simp[Tryz.ntmps184]) ?_;rw[Tryz.ntmps184];simp only[Qg];repeat first|(refine r_ ?_;simp)|refine q_ ?_
 refine Mh 3 rfl ?_;simp;refine Qt l.length (fun _=>True) (fun j=>[(0,LIv l),(3,LIv (E3 (l.take j))),(4,.i j)]) (fun _=>[]) rfl (by simp) (by simp[E3]) (by simp) (by simp) trivial ?_;intro j hj _ ih;obtain⟨s,hs⟩:∃s,E3 (l.take j)=s:=⟨_,rfl⟩
 have zj:s.length=j:=by rw[←hs,Gn,wn];omega
 rw[hs];repeat first|(refine r_ ?_;simp)|refine q_ ?_
 refine Qa rfl (fun zd=> ?_) (fun ze=> ?_)
 ·have z1:j<l.length:=by simpa using zd
  have hw:IntKind.i64.wrap ((j:Int)+1)=j+1:=wrap_i64 _ (by omega) (by omega);have za:E3 (l.take (j+1))=Xu s l[j]:=by rw[zU z1,u0f,hs]
  repeat first|(refine r_ ?_;simp)|refine q_ ?_
  obtain⟨q,hq⟩:∃q,Yu s l[j] s.length=q:=⟨_,rfl⟩
  refine Qo (Qc (sl':=[(0,LIv l),(3,LIv s),(4,.i j),(5,.i s.length)]) ?_ (by simp));refine Qn (F:=fun(u:Nat)=>⟨[(0,LIv l),(3,LIv s),(4,.i j),(5,.i u)],[]⟩) (fun u=>u≤s.length∧Yu s l[j] u=q) (fun u=>u) ?_ s.length ⟨zP _,hq⟩;rintro u ⟨hu,hI⟩ ih2;repeat first|(refine r_ ?_;simp)|refine q_ ?_
  rcases u with _|u
  ·have zf:IntKind.i64.wrap (-1)= -1:=by decide
   refine Qm tOk mixed [] (.val 0 (.val 1 (.val 2 (.val 3 (.val 4 (.val 5 (.val 6 (.val 7 (.val 8 (.val 9 (.val 10 (.val 11 (.val 12 (.val 13 (.val 14 (.val 15 (.done))))))))))))))))) rfl (by kernel_rfl) ?_;simp[zf,z1];refine Ql rfl ?_;repeat first|(refine r_ ?_;simp)|refine q_ ?_
   have zg:q=0:=hI.symm;subst zg;refine Qf tOk rfl rfl Ig rfl Sz rfl (by decide) (by decide) rfl rfl rfl ?_;simp[z1];refine⟨by simp[Wi,z1]<;>omega,?_⟩;repeat first|(refine r_ ?_;simp[z1,z1])|refine q_ ?_
   refine Qf tOk rfl rfl Ig rfl Sz rfl (by decide) (by decide) rfl rfl rfl ?_;simp[z1];refine⟨by simp[Wi,z1]<;>omega,?_⟩;repeat first|(refine r_ ?_;simp[z1,z1])|refine q_ ?_
   refine Qf tOk rfl rfl Ig rfl Sz rfl (by decide) (by decide) rfl rfl rfl ?_;simp[z1];refine⟨by simp[Wi,z1]<;>omega,?_⟩;repeat first|(refine r_ ?_;simp[z1,hw])|refine q_ ?_
   refine Ds 4 rfl ?_;simp[z1];refine Qr _ (ih z1 trivial) rfl (by simp) ?_ (by simp) (by simp);rw[za];simp;rw[zR (by simp;omega)];rw[if_pos (by omega)]
   subst_vars
   simp[Xu, *]
  ·have zb:u<s.length:=by omega
   have zc:IntKind.i64.wrap (u:Int)=u:=wrap_i64 _ (by omega) (by omega);have zh:(u:Int)<s.length:=by omega
   have zi:q2z s u l[j]=decide (l[j].lo<s[u].lo):=by simp[q2z,zb]
   rw[Yu,zi]at hI;refine Qm tOk mixed [] (.val 0 (.val 1 (.val 2 (.val 3 (.val 4 (.val 5 (.val 6 (.val 7 (.val 8 (.val 9 (.val 10 (.val 11 (.val 12 (.val 13 (.val 14 (.val 15 (.done))))))))))))))))) rfl (by kernel_rfl) ?_;simp[zb,z1,zc,zh];refine Qa rfl (fun h1=> ?_) (fun h1=> ?_)
   ·rw[if_pos h1]at hI;repeat first|(refine r_ ?_;simp[zc])|refine q_ ?_
    exact Qc (sl':=[(0,LIv l),(3,LIv s),(4,.i j),(5,.i u)]) (ih2 u ⟨by omega,hI⟩ (by omega)) (by simp)
   ·rw[if_neg (by simpa using h1)]at hI;have z6:(u:Int)+1≤s.length:=by omega
    have z7:(0:Int)≤(u:Int)+1:=by omega
    repeat first|(refine r_ ?_;simp[z6,z7])|refine q_ ?_
    refine Qf tOk rfl rfl Ig rfl Sz rfl (by decide) (by decide) rfl rfl rfl ?_;simp[z6,z7,-xP,←xP,-xR,←xR];refine⟨by simp[Wi,z6,z7,-xP,←xP,-xR,←xR]<;>omega,?_⟩;repeat first|(refine r_ ?_;simp[z1,z6,z7,-xP,←xP,-xR,←xR])|refine q_ ?_
    refine Qf tOk rfl rfl Ig rfl Sz rfl (by decide) (by decide) rfl rfl rfl ?_;simp[z6,z7,-xP,←xP,-xR,←xR];refine⟨by simp[Wi,z6,z7,-xP,←xP,-xR,←xR]<;>omega,?_⟩;repeat first|(refine r_ ?_;simp[z1,z6,z7,-xP,←xP,-xR,←xR])|refine q_ ?_
    refine Qf tOk rfl rfl Ig rfl Sz rfl (by decide) (by decide) rfl rfl rfl ?_;simp[z6,z7,-xP,←xP,-xR,←xR];refine⟨by simp[Wi,z6,z7,-xP,←xP,-xR,←xR]<;>omega,?_⟩;repeat first|(refine r_ ?_;simp[z6,z7,-xP,←xP,-xR,←xR,hw])|refine q_ ?_
    refine Ds 4 rfl ?_;simp[z6,z7,-xP,←xP,-xR,←xR];refine Qr _ (ih z1 trivial) rfl (by simp) ?_ (by simp) (by simp);rw[za];simp;rw[zR (by simp;omega)];rw[if_pos (by omega)]
    subst_vars
    simp[Xu, *]
 ·have z8:j=l.length:=by simp at ze;omega
  subst z8;repeat first|(refine r_ ?_;simp)|refine q_ ?_
  rw[←hs,yW]
end Go.Abs
namespace Go.Abs
open Go Go.Proofs
def Ej(l:List Iv):List Iv:=Qx [] (E3 l)
theorem W7(ini:List Iv)(y x:Iv):W4 (ini++[y]) x=if x.lo≤y.hi+1 then ini++[⟨y.lo,if y.hi<x.hi then x.hi else y.hi⟩]else ini++[y]++[x]:=by simp[W4]
theorem v1o(s:List Iv)(x y:Iv):y∈Xu s x↔y=x∨y∈s:=by
 have:(s.take (Yu s x s.length)++s.drop (Yu s x s.length))=s:=xU _ _;rw[Xu,zW,yE]
 conv=>rhs;rw[←this,zW]
 constructor<;>rintro(h|h|h)<;>simp[h]
theorem Ko:∀(l acc:List Iv) (y:Iv),y∈l.foldl Xu acc↔y∈acc∨y∈l
 |[],acc,y=>by simp
 |x::r,acc,y=>by
  rw[xY,Ko r,v1o,yE];constructor
  ·rintro((h|h)|h)<;>simp[h]
  ·rintro(h|h|h)<;>simp[h]
theorem g08(l:List Iv)(y:Iv):y∈E3 l↔y∈l:=by rw[E3,Ko];simp
attribute [local irreducible] E3
theorem f0o(l:List Iv)(hl:l.length≤1000000000)(zk:∀y∈l,Ia y):PC Tryz.prog 128 [LIv l] (fun r=>r=LIv (Ej l)):=by
 refine Qk tOk Tryz.func128 rfl Tryz.results128 rfl (by simp[Tryz.ntmps128]) ?_;rw[Tryz.ntmps128];simp only[Qg];repeat first|(refine r_ ?_;simp)|refine q_ ?_
 refine Qe rfl rfl (by simp) (f04 l hl) rfl ?_;rintro _ rfl;simp;repeat first|(refine r_ ?_;simp)|refine q_ ?_
 have hl':(E3 l).length≤1000000000:=by rw[Gn];exact hl
 have z8:∀y∈E3 l,Ia y:=fun y hy=>zk y ((g08 l y).1 hy);unfold Ej;generalize E3 l=s at hl' z8 ⊢;refine Q8 4 187 2 rfl ?_;simp;refine Qo (Qc (sl':=[(3,LIv s),(4,.sl 0 2 0 0),(5,.i 0)]) ?_ (by simp));refine Qn (F:=fun(u:Nat×Nat×List AObj)=>⟨[(3,LIv s),(4,.sl u.2.1 2 0 (Qx [] (s.take u.1)).length),(5,.i u.1)],u.2.2⟩)
  (fun u=>u.1≤s.length∧u.2.2[u.2.1]? =some (.arr 187 2 ((Qx [] (s.take u.1)).map encIv))) (fun u=>s.length - u.1) ?_ (0,0,[.arr 187 2 []]) ⟨by simp,rfl⟩
 rintro⟨j,q,H2⟩ ⟨hj,g1⟩ ih;simp only at hj g1 ih ⊢;repeat first|(refine r_ ?_;simp)|refine q_ ?_
 refine Qa rfl (fun zl=> ?_) (fun zm=> ?_)
 ·have z1:j<s.length:=by simpa using zl
  have hw:IntKind.i64.wrap ((j:Int)+1)=j+1:=wrap_i64 _ (by omega) (by omega);have zc:(Qx [] (s.take j)).length≤1000000000:=yH (Rq _ _) (by simp;omega);have zd:∀y∈Qx [] (s.take j),Ia y:=I7 _ _ (by simp) (fun y hy=>z8 y (List.mem_of_mem_take hy));have zh:Qx [] (s.take (j+1))=W4 (Qx [] (s.take j)) s[j]:=by rw[zU z1,Uv]
  have z6:∀(q':Nat) (H':List AObj),H'[q']? =some (.arr 187 2 ((W4 (Qx [] (s.take j)) s[j]).map encIv))→_:=fun q' H' h=>ih (j+1,q',H') ⟨by simp;omega,by rw[zh];exact h⟩ (by simp;omega);clear ih;simp only[zh]at z6;generalize Qx [] (s.take j)=acc at g1 zc zd z6 ⊢;repeat first|(refine r_ ?_;simp)|refine q_ ?_
  rcases wM acc with rfl|⟨ini,y,rfl⟩
  ·have zi:IntKind.i64.wrap (-1)= -1:=by decide
   repeat first|(refine r_ ?_;simp[zi])|refine q_ ?_
   refine Qm tOk mixed [] (.val 0 (.val 1 (.val 2 (.val 3 (.val 4 (.val 5 (.val 6 (.val 7 (.val 8 (.val 9 (.val 10 (.val 11 (.val 12 (.val 13 (.val 14 (.val 15 (.done))))))))))))))))) rfl (by kernel_rfl) ?_;simp[zi,z1,g1];refine Ql rfl ?_;simp;repeat first|(refine r_ ?_;simp[z1,g1])|refine q_ ?_
   refine Qf tOk rfl rfl Ig rfl Sz rfl (by decide) (by decide) rfl rfl rfl ?_;simp[Qb g1,Qj g1];refine⟨by simp[Wi,Qb g1,Qj g1]<;>omega,?_⟩;repeat first|(refine r_ ?_;simp[hw])|refine q_ ?_
   exact Qc (sl':=[(3,LIv s),(4,.sl (H2.length+1) 2 0 1),(5,.i (j+1:Nat))]) (z6 (H2.length+1) _ (by rw[zH (by simp)];simp[W4])) (by simp)
  ·have hy:=zd y (by simp);have zn:=(W8 _).1 hy.2;have zj:IntKind.i64.wrap (y.hi+1)=y.hi+1:=wrap_i64 _ (by omega) (by omega);rw[wN]at g1 zc zd z6 ⊢;have hlen:(ini++[y]).length=ini.length+1:=by simp
   rw[hlen]at zc ⊢;have zb:IntKind.i64.wrap (ini.length:Int)=ini.length:=wrap_i64 _ (by omega) (by omega);have hg:((ini++[y]).map encIv)[ini.length]? =some (encIv y):=by simp
   have z7:(ini.length:Int)<ini.length+1:=by omega
   repeat first|(refine r_ ?_;simp[zb])|refine q_ ?_
   have za:¬((ini.length:Int)<0):=by omega
   refine Qm tOk mixed [] (.val 0 (.val 1 (.val 2 (.val 3 (.val 4 (.val 5 (.val 6 (.val 7 (.val 8 (.val 9 (.val 10 (.val 11 (.val 12 (.val 13 (.val 14 (.val 15 (.done))))))))))))))))) rfl (by kernel_rfl) ?_;simp[z1,g1,zb,hg,zj,z7,za];rw[W7]at z6;refine Qa rfl (fun h1=> ?_) (fun h1=> ?_)
   ·have ze:¬(s[j].lo≤y.hi+1):=by simp at h1;omega
    rw[if_neg ze]at z6;repeat first|(refine r_ ?_;simp[z1,g1])|refine q_ ?_
    refine Qf tOk rfl rfl Ig rfl Sz rfl (by decide) (by decide) rfl rfl rfl ?_;simp[Qb g1,Qj g1];refine⟨by simp[Wi,Qb g1,Qj g1]<;>omega,?_⟩;repeat first|(refine r_ ?_;simp[hw])|refine q_ ?_
    exact Qc (sl':=[(3,LIv s),(4,.sl (H2.length+1) 2 0 (ini.length+1+1)),(5,.i (j+1:Nat))]) (by
     have:=z6 (H2.length+1) (H2.set q .dead++[.arr 187 2 [encIv s[j]],.arr 187 2 ((ini++[y]++[s[j]]).map encIv)]) (by rw[zH (by simp)];simp);simpa using this) (by simp)
   ·have ze:s[j].lo≤y.hi+1:=by simp at h1;omega
    rw[if_pos ze]at z6;repeat first|(refine r_ ?_;simp)|refine q_ ?_
    refine Qm tOk mixed [] (.val 0 (.val 1 (.val 2 (.val 3 (.val 4 (.val 5 (.val 6 (.val 7 (.val 8 (.val 9 (.val 10 (.done)))))))))))) rfl (by kernel_rfl) ?_;simp[z1,g1,zb,hg,zj,z7,za];refine Qa rfl (fun h2=> ?_) (fun h2=> ?_)
    ·have zf:y.hi<s[j].hi:=by simpa using h2
     rw[if_pos zf]at z6;repeat first|(refine r_ ?_;simp[z1,g1,hg,zb,z7,hw])|refine q_ ?_
     exact Qc (sl':=[(3,LIv s),(4,.sl q 2 0 (ini.length+1)),(5,.i (j+1:Nat))]) (by
      have:=z6 q (H2.set q (.arr 187 2 ((ini++[(⟨y.lo,s[j].hi⟩:Iv)]).map encIv))) (Qi g1 _);simpa using this) (by simp)
    ·have zf:¬(y.hi<s[j].hi):=by simpa using h2
     rw[if_neg zf]at z6;repeat first|(refine r_ ?_;simp[hw])|refine q_ ?_
     exact Qc (sl':=[(3,LIv s),(4,.sl q 2 0 (ini.length+1)),(5,.i (j+1:Nat))]) (by
      have:=z6 q H2 g1;simpa using this) (by simp)
 ·have zg:j=s.length:=by simp at zm;omega
  subst zg;rw[yW]at g1;repeat first|(refine r_ ?_;simp[g1])|refine q_ ?_
  rw[zR (by simp)]
end Go.Abs
namespace Go.Abs
open Go Go.Proofs
attribute [local irreducible] Ej
def x2m(l:List Iv):AV:=if q1d l=0 then .tup [LIv (Ej l),.i 0]else .tup [.list [],.i (q1d l)]
attribute [local irreducible] De
theorem q2a(a b c d:Int):eqA T 9 187 (.agg [.int .i64 a,.int .i64 b]) (.agg [.int .i64 c,.int .i64 d])=some (a==c && b==d):=by simp[eqA,Yq,Gk,TI.agg]
theorem g1k(a b:List Iv):PC Tryz.prog 133 [LIv a,LIv b] (fun r=>r= .bool (decide (a=b))):=by
 refine Qk tOk Tryz.func133 rfl Tryz.results133 rfl (by simp[Tryz.ntmps133]) ?_;rw[Tryz.ntmps133];simp only[Qg];refine Ys 0 rfl (fun hlen=> ?_);rw[yB]at hlen;repeat first|(refine r_ ?_;simp)|refine q_ ?_
 refine Qa rfl (fun h=> ?_) (fun h=> ?_)
 ·repeat first|(refine r_ ?_;simp)|refine q_ ?_
  have:a≠b:=fun e=>by subst e;simp at h
  simp[this]
 have zc:a.length=b.length:=by simp at h;omega
 repeat first|(refine r_ ?_;simp)|refine q_ ?_
 refine Qt a.length (fun j=>decide (a=b)=decide (a.drop j=b.drop j)) (fun j=>[(0,LIv a),(1,LIv b),(5,.i j)]) (fun _=>[]) rfl (by simp) (by simp) (by simp) (by simp) (by simp) ?_;intro j hj hI ih;repeat first|(refine r_ ?_;simp)|refine q_ ?_
 refine Qa rfl (fun za=> ?_) (fun zb=> ?_)
 ·have z1:j<a.length:=by simpa using za
  have z6:j<b.length:=by omega
  have z7:(j:Int)<b.length:=by omega
  have hw:IntKind.i64.wrap ((j:Int)+1)=j+1:=wrap_i64 _ (by omega) (by omega);rw[W3 z1,W3 z6]at hI;repeat first|(refine r_ ?_;simp)|refine q_ ?_
  refine Qm tOk mixed [] (.val 0 (.val 1 (.val 2 (.val 3 (.val 4 (.val 5 (.val 6 (.val 7 (.val 8 (.done)))))))))) rfl (by kernel_rfl) ?_;simp[z1,z6,z7,q2a];refine Qa rfl (fun h2=> ?_) (fun h2=> ?_)
  ·repeat first|(refine r_ ?_;simp)|refine q_ ?_
   have:a≠b:=fun e=>by subst e;simp at h2
   simp[this]
  ·repeat first|(refine r_ ?_;simp[hw])|refine q_ ?_
   have he:a[j]=b[j]:=by cases hx:a[j];cases hy:b[j];rw[hx,hy]at h2;simpa using h2
   refine Qr _ (ih z1 ?_) rfl (by simp) ?_ (by simp) (by simp)
   ·rw[hI,he];simp only[List.cons.injEq,true_and]
   ·simp
 ·have z8:j=a.length:=by simp at zb;omega
  subst z8;rw[xF,List.drop_of_length_le (by omega)]at hI;repeat first|(refine r_ ?_;simp)|refine q_ ?_
  simpa using hI
theorem q2v(l:List Iv):PC Tryz.prog 112 [LIv l] (fun r=>r= .bool (decide ((l.length:Int)≤12))):=by refine Qk tOk Tryz.func112 rfl Tryz.results112 rfl (by simp[Tryz.ntmps112]) ?_;rw[Tryz.ntmps112];simp only[Qg];repeat first|(refine r_ ?_;simp)|refine q_ ?_
end Go.Abs
namespace Go.Abs
open Go Go.Proofs
attribute [simp] T74
@[simp] def encL (l:List Iv):AV:= .list (l.map encIv)
def y28(l:List Iv):Bool:= !((decide ((12:Int)<l.length) && decide ((l.length:Int)≤254)) || decide ((258:Int)<l.length))
def v2l(ls:List (List Iv)):Bool:=ls.all y28
def c1b(l:List Iv):Bool:=decide ((l.length:Int)≤12) && decide (ckR l=0)
def v2f(ls:List (List Iv)):Bool:=ls.all c1b
attribute [local irreducible] ckR
end Go.Abs
namespace Go.Abs
open Go Go.Proofs
structure CanonL (l:List Iv):Prop where
 len:l.length≤256
 one:∀y∈l,De y=0
 gap:∀j,∀h:j+1<l.length,l[j].hi+2≤l[j+1].lo
theorem Cy{l:List Iv}{j:Nat}{x:Iv}(h:j<l.length)(hi:Ia l[j]):u0w l (j+1) x=decide (x.lo<l[j].hi+2):=by have h1:=(W8 _).1 hi.2;have:W (l[j].hi+2)=l[j].hi+2:=wrap_i64 _ (by omega) (by omega);simp[u0w,h,this]
theorem Hh(l:List Iv)(hl:l.length≤256):∀(n j:Nat),l.length - j=n→j≤l.length→(∀h:0<j,∀h':j - 1<l.length,De l[j - 1]=0)→(I6 l j (l.drop j)=0↔(∀i,j≤i→∀h:i<l.length,De l[i]=0)∧∀i,j≤i+1→∀h:i+1<l.length,l[i].hi+2≤l[i+1].lo)
 |0,j,hn,hj,_=>by
  have:j=l.length:=by omega
  subst this;rw[xF,I6];exact⟨fun _=>⟨fun i h1 h2=>by omega,fun i h1 h2=>by omega⟩,fun _=>rfl⟩
 |n+1,j,hn,hj,hp=>by
  have z6:j<l.length:=by omega
  rw[W3 z6,I6];by_cases h1:(De l[j] != 0)=true
  ·rw[if_pos h1];have z1:De l[j]≠0:=by simpa using h1
   exact⟨fun h=>absurd h z1,fun h=>absurd (h.1 j (zP _) z6) z1⟩
  ·rw[if_neg h1];have z1:De l[j]=0:=by simpa using h1
   have ih:=Hh l hl n (j+1) (by omega) (by omega) (fun _ _=>z1);by_cases h2:u0w l j l[j]=true
   ·rw[if_pos h2];refine⟨fun h=>(by cases h),fun h=> ?_⟩;rcases j with _|j
    ·simp[u0w]at h2
    ·have hq:De l[j]=0:=hp (by omega) (by simp;omega);rw[Cy (by omega) (Cu hq).1]at h2;have:=h.2 j (zP _) z6;simp at h2;omega
   ·rw[if_neg h2,ih];constructor
    ·rintro⟨a,b⟩;refine⟨fun i hi h=> ?_,fun i hi h=> ?_⟩
     ·by_cases e:i=j
      ·subst e;exact z1
      ·exact a i (by omega) h
     ·by_cases e:j=i+1
      ·subst e;have hq:De l[i]=0:=hp (by omega) (by simp;omega);rw[Cy (by omega) (Cu hq).1]at h2;simp at h2;exact h2
      ·exact b i (by omega) h
    ·rintro⟨a,b⟩;exact⟨fun i hi h=>a i (by omega) h,fun i hi h=>b i (by omega) h⟩
theorem Bp(l:List Iv):ckR l=0↔CanonL l:=by
 rw[ckR];by_cases h:decide ((256:Int)<l.length)=true
 ·rw[if_pos h];simp at h;exact⟨fun e=>(by cases e),fun e=>(by have:=e.len;omega)⟩
 ·rw[if_neg h];simp at h;have hl:l.length≤256:=by omega
  have:=Hh l hl l.length 0 rfl (Nat.zero_le _) (fun h=>by omega);rw[List.drop_zero]at this;rw[this];constructor
  ·rintro⟨a,b⟩;refine⟨hl,fun y hy=> ?_,fun j h=>b j (by omega) h⟩;obtain⟨i,hi,rfl⟩:=xH hy;exact a i (by omega) hi
  ·rintro⟨_,a,b⟩;exact⟨fun i _ h=>a _ (zL h),fun i _ h=>b i h⟩
theorem CanonL.iv{l:List Iv}(h:CanonL l){j:Nat}(hj:j<l.length): -1099511627776≤l[j].lo∧l[j].lo≤l[j].hi∧l[j].hi≤1099511627776:=by obtain⟨⟨h1,h2⟩,h3⟩:=Cu (h.one _ (zL hj));have:=(W8 _).1 h1;have:=(W8 _).1 h2;omega
def y2n:List Iv→Int
 |[]=>0
 |x::r=>(x.hi - x.lo+1)+y2n r
attribute [local irreducible] ckR
end Go.Abs
namespace Go.Abs
open Go Go.Proofs
attribute [local irreducible] ckR
def x0q(a b:List Iv):Int:=if ckR a=0 then ckR b else ckR a
def v2g(l:List Iv):AV:=if l.length≤256 then .tup [LIv l,.i 0]else .tup [.list [],.i 5]
def v1t:List Iv→Int→Int×Int
 |[],_=>(0,2)
 |x::r,i=>if i<x.hi - x.lo+1 then(x.lo+i,0)else v1t r (i - (x.hi - x.lo+1))
def atR(l:List Iv)(i:Int):Int×Int:=if ckR l=0 then(if i<0 then(0,2)else v1t l i)else(0,ckR l)
def q0d(x:Iv)(n:Int):Int:=if x.hi<n then -1 else if n<x.lo then 1 else 0
theorem c03(x:Iv)(n:Int):PC Tryz.prog 205 [encIv x,.i n] (fun r=>r= .i (q0d x n)):=by
 refine Qk tOk Tryz.func205 rfl Tryz.results205 rfl (by simp[Tryz.ntmps205]) ?_;rw[Tryz.ntmps205];simp only[Qg];simp only[encIv];repeat first|(refine r_ ?_;simp)|refine q_ ?_
 refine Qa rfl (fun h=> ?_) (fun h=> ?_)
 ·repeat first|(refine r_ ?_;simp)|refine q_ ?_
  rw[q0d,if_pos (by simpa using h)]
 repeat first|(refine r_ ?_;simp)|refine q_ ?_
 refine Qa rfl (fun h2=> ?_) (fun h2=> ?_)
 ·repeat first|(refine r_ ?_;simp)|refine q_ ?_
  rw[q0d,if_neg (by simpa using h),if_pos (by simpa using h2)]
 repeat first|(refine r_ ?_;simp)|refine q_ ?_
 rw[q0d,if_neg (by simpa using h),if_neg (by simpa using h2)]
def Pj(l:List Iv)(n:Int):Bool:=l.any fun x=>decide (x.lo≤n) && decide (n≤x.hi)
theorem O2{l:List Iv}(hc:CanonL l):∀ {i j:Nat},i<j→∀(hj:j<l.length),∀(hi:i<l.length),l[i].hi+2≤l[j].lo:=by
 intro i j z1 hj hi;obtain⟨d,rfl⟩:∃d,j=i+1+d:=⟨j - (i+1),by omega⟩
 induction d with
 |zero=>exact hc.gap i hj
 |succ d ih=>
  have h1:=ih (by omega) (by omega);have h2:=hc.gap (i+1+d) (by omega);have h3:=hc.iv (show i+1+d<l.length by omega);have h4:i+1+(d+1)=i+1+d+1:=by omega
  simp only[h4];omega
theorem Gl(x:Iv)(n:Int):q0d x n<0↔x.hi<n:=by
 unfold q0d;by_cases h:x.hi<n
 ·rw[if_pos h];simp[h]
 ·rw[if_neg h];by_cases h2:n<x.lo
  ·rw[if_pos h2];simp[h]
  ·rw[if_neg h2];simp[h]
theorem q13(x:Iv)(n:Int):q0d x n=0↔x.lo≤n∧n≤x.hi:=by
 unfold q0d;by_cases h:x.hi<n
 ·rw[if_pos h];constructor<;>intro h'<;>omega
 ·rw[if_neg h];by_cases h2:n<x.lo
  ·rw[if_pos h2];constructor<;>intro h'<;>omega
  ·rw[if_neg h2];constructor<;>intro h'<;>omega
theorem w2x{i j m:Nat}(hm:(i+j) / 2=m)(h:i+j≤1000000000):IntKind.i64.wrap ((IntKind.u64.wrap ((i:Int)+j)).fdiv (2 ^ min 1 IntKind.u64.bits))=m:=by
 have h1:IntKind.u64.wrap ((i:Int)+j)=i+j:=by simp[IntKind.wrap,IntKind.bits,IntKind.signed];omega
 have h2:min 1 IntKind.u64.bits=1:=by decide
 rw[h1,h2,Int.fdiv_eq_ediv_of_nonneg _ (by decide),wrap_i64 _ (by omega) (by omega)];omega
attribute [local irreducible] q0d
theorem C7(l:List Iv)(n:Int)(hc:CanonL l):PC Tryz.prog 204 [LIv l,.i n,.fn (.func 205) [] []] (fun r=>∃k:Int,r= .tup [.i k,.bool (Pj l n)]):=by
 refine Qk tOk Tryz.func204 rfl Tryz.results204 rfl (by simp[Tryz.ntmps204]) ?_;rw[Tryz.ntmps204];simp only[Qg];have hlen:=hc.len;repeat first|(refine r_ ?_;simp)|refine q_ ?_
 refine Qo (Qc (sl':=[(0,LIv l),(1,.i n),(2,.fn (.func 205) [] []),(8,.i l.length),(9,.i 0),(10,.i l.length)]) ?_ (by simp));refine Qn (F:=fun(u:Nat×Nat)=>⟨[(0,LIv l),(1,.i n),(2,.fn (.func 205) [] []),(8,.i l.length),(9,.i u.1),(10,.i u.2)],[]⟩) (fun u=>u.1≤u.2∧u.2≤l.length∧(∀k,k<u.1→∀hk:k<l.length,q0d l[k] n<0)∧(∀k,u.2≤k→∀hk:k<l.length,¬q0d l[k] n<0)) (fun u=>u.2 - u.1) ?_ (0,l.length) ⟨by simp,by simp,fun k hk=>by simp at hk,fun k hk z1=>by simp only at hk;omega⟩;rintro⟨i,j⟩ ⟨h1,h2,h3,h4⟩ ih;simp only at h1 h2 h3 h4 ih ⊢;repeat first|(refine r_ ?_;simp)|refine q_ ?_
 refine Qa rfl (fun zd=> ?_) (fun ze=> ?_)
 ·have zf:i<j:=by simpa using zd
  have hw:IntKind.i64.wrap ((i:Int)+j)=i+j:=wrap_i64 _ (by omega) (by omega);obtain⟨m,hm⟩:∃m,(i+j) / 2=m:=⟨_,rfl⟩
  have z8:IntKind.i64.wrap ((IntKind.u64.wrap ((i:Int)+j)).fdiv (2 ^ min 1 IntKind.u64.bits))=m:=w2x hm (by omega);have z6:m<l.length:=by omega
  have za:(m:Int)<l.length:=by omega
  have zg:IntKind.i64.wrap ((m:Int)+1)=m+1:=wrap_i64 _ (by omega) (by omega);repeat first|(refine r_ ?_;simp[hw,z8,z6,za])|refine q_ ?_
  refine Qe rfl rfl (by simp) (c03 l[m] n) rfl ?_;rintro _ rfl;simp;refine Qa rfl (fun h5=> ?_) (fun h5=> ?_)
  ·repeat first|(refine r_ ?_;simp[zg])|refine q_ ?_
   refine Qc (sl':=[(0,LIv l),(1,.i n),(2,.fn (.func 205) [] []),(8,.i l.length),(9,.i (m+1:Nat)),(10,.i j)]) (ih (m+1,j) ⟨by simp only;omega,h2,fun k hk z1=> ?_,h4⟩ (by simp only;omega)) (by simp);have zh:=hc.iv z1;have zi:=hc.iv z6;have z7:q0d l[m] n<0:=by simpa using h5
   by_cases e:k=m
   ·subst e;exact z7
   ·have:=O2 hc (show k<m by omega) z6 z1;rw[Gl]at z7 ⊢;omega
  ·repeat first|(refine r_ ?_;simp)|refine q_ ?_
   refine Qc (sl':=[(0,LIv l),(1,.i n),(2,.fn (.func 205) [] []),(8,.i l.length),(9,.i i),(10,.i m)]) (ih (i,m) ⟨by simp only;omega,by simp only;omega,h3,fun k hk z1=> ?_⟩ (by simp only;omega)) (by simp);have zh:=hc.iv z1;have zi:=hc.iv z6;have z7:¬q0d l[m] n<0:=by simpa using h5
   by_cases e:k=m
   ·subst e;exact z7
   ·have:=O2 hc (show m<k by omega) z1 z6;rw[Gl]at z7 ⊢;omega
 ·have zb:i=j:=by simp at ze;omega
  subst zb;by_cases hil:i<l.length
  ·repeat first|(refine r_ ?_;simp[hil])|refine q_ ?_
   refine Qe rfl rfl (by simp) (c03 l[i] n) rfl ?_;rintro _ rfl;simp;repeat first|(refine r_ ?_;simp)|refine q_ ?_
   have hh:Pj l n=(q0d l[i] n==0):=by
    rw[wt,beq_iff_eq,q13,Pj,vz];constructor
    ·rintro⟨x,hx,zc⟩;obtain⟨k,hk,rfl⟩:=xH hx;simp at zc;have e:k=i:=by
      by_cases e1:k<i
      ·have:=(Gl _ _).1 (h3 k e1 hk);omega
      ·by_cases e2:i<k
       ·have:=O2 hc e2 hk hil;have:¬l[i].hi<n:=fun e=>h4 i (zP _) hil ((Gl l[i] n).2 e);omega
       ·omega
     subst e;exact zc
    ·intro h;exact⟨l[i],zL hil,by simpa using h⟩
   rw[hh]
  ·repeat first|(refine r_ ?_;simp[hil])|refine q_ ?_
   refine Q9 rfl rfl ?_;simp;repeat first|(refine r_ ?_;simp)|refine q_ ?_
   have hh:Pj l n=false:=by rw[Pj,vD];intro x hx;obtain⟨k,hk,rfl⟩:=xH hx;have:=(Gl _ _).1 (h3 k (by omega) hk);simp;intro _;omega
   rw[hh]
theorem c1e(l:List Iv)(n:Int)(hc:CanonL l):PC Tryz.prog 192 [LIv l,.i n] (fun r=>r= .bool (Pj l n)):=by
 refine Qk tOk Tryz.func192 rfl Tryz.results192 rfl (by simp[Tryz.ntmps192]) ?_;rw[Tryz.ntmps192];simp only[Qg];repeat first|(refine r_ ?_;simp)|refine q_ ?_
 refine Qe rfl rfl (by simp) (C7 l n hc) rfl ?_;rintro _ ⟨k,rfl⟩;simp;repeat first|(refine r_ ?_;simp)|refine q_ ?_
attribute [local irreducible] Pj
def x17(l:List Iv)(n:Int):Bool×Int:=if ckR l=0 then(Pj l n,0)else(false,ckR l)
theorem Jg(l:List Iv)(n:Int):PC Tryz.prog 158 [LIv l,.i n] (fun r=>r= .tup [.bool (x17 l n).1,.i (x17 l n).2]):=by
 refine Qk tOk Tryz.func158 rfl Tryz.results158 rfl (by simp[Tryz.ntmps158]) ?_;rw[Tryz.ntmps158];simp only[Qg];repeat first|(refine r_ ?_;simp)|refine q_ ?_
 refine Qe rfl rfl (by simp) (w0o l) rfl ?_;rintro _ rfl;simp;repeat first|(refine r_ ?_;simp)|refine q_ ?_
 refine Qa rfl (fun h=> ?_) (fun h=> ?_)
 ·repeat first|(refine r_ ?_;simp)|refine q_ ?_
  rw[x17,if_neg (by simpa using h)];exact⟨rfl,rfl⟩
 have h0:ckR l=0:=by simpa using h
 repeat first|(refine r_ ?_;simp)|refine q_ ?_
 refine Qe rfl rfl (by simp) (c1e l n ((Bp l).1 h0)) rfl ?_;rintro _ rfl;simp;repeat first|(refine r_ ?_;simp)|refine q_ ?_
 rw[x17,if_pos h0];exact⟨rfl,rfl⟩
end Go.Abs
namespace Go.Abs
open Go Go.Proofs
attribute [local irreducible] ckR
def z2w(d:Int)(x:Iv):Option Iv:=
 let a:=if x.lo+d< -1099511627776 then -1099511627776 else x.lo+d
 let b:=if 1099511627776<x.hi+d then 1099511627776 else x.hi+d
 if a≤b then some ⟨a,b⟩else none
def x2i(l:List Iv)(d:Int):List Iv×Int:=if ckR l=0 then(if d< -2199023255552∨2199023255552<d then([],0)else(l.filterMap (z2w d),0))else([],ckR l)
end Go.Abs
namespace Go.Abs
open Go Go.Proofs
def x2q(ls:List (List Iv)):List Iv:=ls.flatten
attribute [local irreducible] x2q
end Go.Abs
namespace Go.Abs
open Go Go.Proofs Go.RowKit Go.Shelf Go.Lib Go.Sort
def Tj(zs:List Int):List Int:=zs.mergeSort fun x y=>decide (x≤y)
theorem Iw(zs:List Int):(Tj zs).length=zs.length:=by simp[Tj]
theorem Kg(H:List AObj)(p:Nat)(zs:List Int)(hp:H[p]? =some (.arr 3 1 (zs.map (AV.int .i64))))(hl:zs.length≤1000000):
  FC Tryz.prog 176 [.sl p 1 0 zs.length] H (fun r H'=>r= .tup []∧H'=H.set p (.arr 3 1 ((Tj zs).map (AV.int .i64)))):=by
 refine(u0q (xs:=zs.map (AV.int .i64)) (rest:=[]) (Yi Tryz.func176 rfl rfl) (by simp) hp (w27 zs) [] (fun w I m vs a b=>by simpa using a) (fun z1=>z1=(Tj zs).map (AV.int .i64)) ?_ ?_).mono ?_
 ·intro b cap w hH hb hc;have:=Tryz.slices_Sort_int b 0 cap zs w (Bu hH) hb (by omega);refine Calls.mono (by simpa using this) ?_;rintro e w' ⟨rfl,n,os,rfl⟩;exact⟨rfl,_,((Tj zs).map (Value.int .i64)).toArray,n,os,rfl,by simp[Iw],w27 _,by rw[Lc];rfl⟩
 ·rintro h;have z6:zs=[]:=by simpa using h
  subst z6;exact⟨by simp[Tj],fun w=>by simpa using Tryz.slices_Sort_int_none none 0 w⟩
 ·rintro r H' ⟨rfl,z1,rfl,rfl⟩;exact⟨rfl,rfl⟩
theorem A9(H:List AObj)(p:Nat)(zs:List Int)(hp:H[p]? =some (.arr 3 1 (zs.map (AV.int .i64))))(hl:zs.length≤1000000)(z6:(Lib.compact zs).length≤zs.length):
  FC Tryz.prog 177 [.sl p 1 0 zs.length] H (fun r H'=>r= .sl p 1 0 (Lib.compact zs).length∧∃G:List Int,H'=H.set p (.arr 3 1 ((Lib.compact zs++G).map (AV.int .i64)))):=by
 refine(j1i (xs:=zs.map (AV.int .i64)) (Yi Tryz.func177 rfl rfl) (by simp) hp (w27 zs) (fun z1 n=>n=(Lib.compact zs).length∧∃G:List Int,z1=(Lib.compact zs++G).map (AV.int .i64)) (fun ys n h=>by rw[h.1];exact z6) ?_ ?_).mono ?_
 ·intro b cap w hH hb hc hm;have:=Tryz.slices_Compact_int b 0 cap zs w (Bu hH) (by omega) hc;refine Calls.mono (by simpa using this) ?_;rintro e w' ⟨rfl,q,rfl⟩;exact⟨_,((Lib.compact zs++yL (zs.length - (Lib.compact zs).length) 0).map (Value.int .i64)).toArray,q,_,rfl,⟨rfl,_,rfl⟩,by simp;omega,w27 _,by rw[←Lc]⟩
 ·rintro h;have z7:zs=[]:=by simpa using h
  subst z7;exact⟨⟨rfl,[],rfl⟩,fun w=>by simpa using Tryz.slices_Compact_int_empty none 0 w⟩
 ·rintro r H' ⟨z1,n,rfl,⟨rfl,G,rfl⟩,rfl⟩;exact⟨rfl,G,rfl⟩
end Go.Abs
namespace Go.Abs
open Go Go.Proofs
attribute [simp] T40
def Ma:List Iv→List Int
 |[]=>[]
 |x::r=>x.lo::(x.hi+1)::Ma r
theorem w0l:∀(l:List Iv) (x:Iv),Ma (l++[x])=Ma l++[x.lo,x.hi+1]
 |[],x=>rfl
 |y::r,x=>by rw[vY,Ma,w0l r,Ma];rfl
theorem c0b:∀(l:List Iv),(Ma l).length=2 * l.length
 |[]=>rfl
 |x::r=>by rw[Ma,yS,yS,c0b r,yS];omega
def k0u(l:List Iv):List Int:=Lib.compact (Tj (Ma l))
def u1l(f:Int→Bool):List Int→List Iv→List Iv
 |c::d::r,acc=>u1l f (d::r) (if f c=true then W4 acc ⟨c,d - 1⟩else acc)
 |_,acc=>acc
def w0t(op:Bool→Bool→Bool)(a b:List Iv):List Iv:=u1l (fun n=>op (Pj a n) (Pj b n)) (k0u (a++b)) []
theorem Uw(zs:List Int):(Lib.compact zs).length≤zs.length:=by unfold Lib.compact Lib.compactUpTo;rw[yB];exact yH (wd _ _) (by simp)
attribute [local irreducible] ckR Pj x2q W4 Tj Lib.compact Ma
end Go.Abs
namespace Go.Abs
open Go Go.Proofs
attribute [local irreducible] ckR w0t
def f1b(x y:Bool):Bool:=x && !y
def c17(op:Bool→Bool→Bool)(a b:List Iv):AV:=if x0q a b=0 then v2g (w0t op a b)else .tup [.list [],.i (x0q a b)]
attribute [local irreducible] x0q
attribute [local irreducible] c17
end Go.Abs
namespace Go.Abs
theorem push_comm(acc:List Iv)(x y:Iv)(h:x.lo=y.lo)(hx:x.lo≤x.hi)(hy:y.lo≤y.hi):W4 (W4 acc x) y=W4 (W4 acc y) x:=by
 have one:∀(u v:Iv),u.lo=v.lo→u.lo≤u.hi→∀ini:List Iv,W4 (ini++[u]) v=ini++[⟨u.lo,if u.hi<v.hi then v.hi else u.hi⟩]:=fun u v z6 hu ini=>by rw[W7,if_pos (by omega)]
 rcases wM acc with rfl|⟨ini,z,rfl⟩
 ·have e1:W4 [] x=[]++[x]:=rfl;have e2:W4 [] y=[]++[y]:=rfl;rw[e1,e2,one x y h hx,one y x h.symm hy,h]
  congr 3
  split<;>split<;>omega
 ·rw[wN];by_cases hz:x.lo≤z.hi+1
  ·have z1:∀(w u:Iv),u.lo≤w.hi+1→W4 (ini++[w]) u=ini++[⟨w.lo,if w.hi<u.hi then u.hi else w.hi⟩]:=fun w u h=>by rw[W7,if_pos h]
   rw[z1 z x hz,z1 z y (by omega),z1 _ y (by simp only;split<;>omega),z1 _ x (by simp only;split<;>omega)]
   congr 3
   simp only;repeat split
   all_goals omega
  ·have ap:∀u:Iv,u.lo=x.lo→W4 (ini++[z]) u=ini++[z]++[u]:=fun u h=>by rw[W7,if_neg (by omega)]
   rw[ap x rfl,ap y h.symm,one x y h hx,one y x h.symm hy,h]
   congr 3
   split<;>split<;>omega
theorem Du:∀(A:List Iv) (acc:List Iv) (x:Iv) (B:List Iv),(∀y∈A,y.lo=x.lo∧y.lo≤y.hi)→x.lo≤x.hi→Qx acc (A++x::B)=Qx acc (x::(A++B))
 |[],acc,x,B,_,_=>rfl
 |y::A,acc,x,B,h,hx=>by have hy:=h y (by simp);have ih:=Du A (W4 acc y) x B (fun z hz=>h z (by simp[hz])) hx;simp only[Qx,vY,xY]at ih ⊢;rw[ih,push_comm acc y x hy.1 hy.2 hx]
theorem Hi:∀(l l':List Iv) (acc:List Iv),l.Perm l'→X0 l→X0 l'→(∀y∈l,y.lo≤y.hi)→Qx acc l=Qx acc l'
 |[],l',acc,hp,_,_,_=>by rw[hp.nil_eq]
 |x::l,l',acc,hp,h1,h2,hf=>by
  obtain⟨A,B,rfl⟩:=List.append_of_mem (hp.mem_iff.1 (List.mem_cons_self));have z6:l.Perm (A++B):=(List.perm_cons x).1 (hp.trans vI);have hA:∀y∈A,y.lo=x.lo∧y.lo≤y.hi:=fun y hy=>by
   have z1:y∈x::l:=hp.mem_iff.2 (by simp[hy]);have a1:y.lo≤x.lo:=(yF.1 h2).2.2 y hy x (by simp);have a2:x.lo≤y.lo:=by
    rcases yE.1 z1 with rfl|h
    ·exact xN _
    ·exact(yT.1 h1).1 y h
   exact⟨by omega,hf y z1⟩
  rw[Du A acc x B hA (hf x (by simp))];have hb:X0 (A++B):=h2.sublist (List.Sublist.append_left (List.sublist_cons_self x B) A);exact Hi l (A++B) (W4 acc x) z6 (yT.1 h1).2 hb (fun y hy=>hf y (by simp[hy]))
end Go.Abs
namespace Go.Abs
theorem d0j(s:List Iv)(x:Iv):(Xu s x).Perm (x::s):=by unfold Xu;refine vI.trans ?_;rw[xU]
theorem Hr(s:List Iv)(x:Iv):∀j,j≤s.length→(∀k,Yu s x j≤k→k<j→∀h:k<s.length,x.lo<s[k].lo)∧(∀k,k+1=Yu s x j→∀h:k<s.length,s[k].lo≤x.lo)
 |0,_=>⟨fun k _ h=>by omega,fun k h=>by simp[Yu]at h⟩
 |j+1,hj=>by
  obtain⟨a,b⟩:=Hr s x j (by omega);have hg:q2z s j x=decide (x.lo<s[j].lo):=by simp[q2z,show j<s.length by omega]
  rw[Yu,hg];by_cases h:decide (x.lo<s[j].lo)=true
  ·rw[if_pos h];refine⟨fun k h1 h2 h3=> ?_,b⟩;by_cases e:k=j
   ·subst e;simpa using h
   ·exact a k h1 (by omega) h3
  ·rw[if_neg h];refine⟨fun k h1 h2=>by omega,fun k h1 h2=> ?_⟩;have e:k=j:=by omega
   subst e;simp at h;omega
theorem c0d(s:List Iv)(x:Iv)(hs:X0 s):X0 (Xu s x):=by
 obtain⟨a,b⟩:=Hr s x s.length (zP _);have hq:=Hj s x s.length;unfold Xu;generalize Yu s x s.length=q at a b hq;have z6:∀i j,i<j→∀hi:i<s.length,∀hj:j<s.length,s[i].lo≤s[j].lo:=fun i j h hi hj=>yU.1 hs i j hi hj h;have z7:∀y∈s.take q,y.lo≤x.lo:=fun y hy=>by
  obtain⟨i,hi,rfl⟩:=xH hy;have za:i<q:=by rw[wn]at hi;omega
  rw[tt];have h1:=b (q - 1) (by omega) (by omega);by_cases e:i=q - 1
  ·subst e;exact h1
  ·have:=z6 i (q - 1) (by omega) (by omega) (by omega);omega
 have z8:∀y∈s.drop q,x.lo≤y.lo:=fun y hy=>by obtain⟨i,hi,rfl⟩:=xH hy;rw[List.length_drop]at hi;rw[List.getElem_drop];have:=a (q+i) (by omega) (by omega) (by omega);omega
 have z1:=hs;unfold X0 at z1 ⊢;rw[←xU q s,yF]at z1;obtain⟨p1,p2,p3⟩:=z1;refine yF.2 ⟨p1,yT.2 ⟨z8,p2⟩,fun y hy z hz=> ?_⟩;rcases yE.1 hz with rfl|h
 ·exact z7 y hy
 ·exact p3 y hy z h
theorem G4:∀(l acc:List Iv),X0 acc→(l.foldl Xu acc).Perm (acc++l)∧X0 (l.foldl Xu acc)
 |[],acc,h=>⟨by simp,h⟩
 |x::r,acc,h=>by obtain⟨a,b⟩:=G4 r (Xu acc x) (c0d acc x h);refine⟨a.trans ?_,b⟩;exact((d0j acc x).append_right r).trans vI.symm
theorem Oq(l:List Iv):(E3 l).Perm l∧X0 (E3 l):=by have:=G4 l [] .nil;simpa[E3]using this
end Go.Abs
namespace Go.Abs
def M(l:List Iv)(n:Int):Prop:=∃x∈l,x.lo≤n∧n≤x.hi
def Sep(l:List Iv):Prop:=(∀x∈l,x.lo≤x.hi)∧l.Pairwise (fun x y=>x.hi+2≤y.lo)
theorem Mm(n:Int):M [] n↔False:=by simp[M]
theorem Ep(x:Iv)(l:List Iv)(n:Int):M (x::l) n↔(x.lo≤n∧n≤x.hi)∨M l n:=by simp[M]
theorem Z9(a b:List Iv)(n:Int):M (a++b) n↔M a n∨M b n:=by simp[M,or_and_right,exists_or]
theorem Nq(l:List Iv)(n:Int):Pj l n=true↔M l n:=by simp[Pj,M]
theorem Sep.tail{x:Iv}{l:List Iv}(h:Sep (x::l)):Sep l:=⟨fun y hy=>h.1 y (by simp[hy]),(yT.1 h.2).2⟩
theorem Sep.low{x:Iv}{l:List Iv}(h:Sep (x::l)){n:Int}(hm:M l n):x.hi+2≤n:=by obtain⟨y,hy,h1,h2⟩:=hm;have:=(yT.1 h.2).1 y hy;omega
theorem Sep.lowc{x:Iv}{l:List Iv}(h:Sep (x::l)){n:Int}(hm:M (x::l) n):x.lo≤n:=by
 rcases(Ep ..).1 hm with h1|h1
 ·exact h1.1
 ·have:=h.low h1;have:=h.1 x (by simp);omega
theorem d0v:∀(a b:List Iv),Sep a→Sep b→(∀n,M a n↔M b n)→a=b
 |[],[],_,_,_=>rfl
 |[],y::b,_,hb,h=>by have:=(h y.lo).2 ((Ep ..).2 (.inl ⟨xN _,hb.1 y (by simp)⟩));exact absurd this (by simp[M])
 |x::a,[],ha,_,h=>by have:=(h x.lo).1 ((Ep ..).2 (.inl ⟨xN _,ha.1 x (by simp)⟩));exact absurd this (by simp[M])
 |x::a,y::b,ha,hb,h=>by
  have hx:=ha.1 x (by simp);have hy:=hb.1 y (by simp);have e1:x.lo=y.lo:=by have h1:=hb.lowc ((h x.lo).1 ((Ep ..).2 (.inl ⟨xN _,hx⟩)));have h2:=ha.lowc ((h y.lo).2 ((Ep ..).2 (.inl ⟨xN _,hy⟩)));omega
  have e2:x.hi=y.hi:=by
   rcases tB x.hi y.hi with hlt|heq|hgt
   ·rcases(Ep ..).1 ((h (x.hi+1)).2 ((Ep ..).2 (.inl ⟨by omega,by omega⟩)))with h1|h1
    ·omega
    ·have:=ha.low h1;omega
   ·exact heq
   ·rcases(Ep ..).1 ((h (y.hi+1)).1 ((Ep ..).2 (.inl ⟨by omega,by omega⟩)))with h1|h1
    ·omega
    ·have:=hb.low h1;omega
  have e3:x=y:=by cases x;cases y;simp_all
  subst e3;rw[d0v a b ha.tail hb.tail fun n=>⟨fun hm=> ?_,fun hm=> ?_⟩]
  ·have h1:=ha.low hm;rcases(Ep ..).1 ((h n).1 ((Ep ..).2 (.inr hm)))with h2|h2
   ·omega
   ·exact h2
  ·have h1:=hb.low hm;rcases(Ep ..).1 ((h n).2 ((Ep ..).2 (.inr hm)))with h2|h2
   ·omega
   ·exact h2
theorem Gj{l:List Iv}(h:CanonL l):Sep l:=
 ⟨fun x hx=>(Cu (h.one x hx)).2,yU.2 fun _ _ hi hj z1=>O2 h z1 hj hi⟩
theorem Zl{l:List Iv}(h:CanonL l):∀x∈l,Ia x:=fun x hx=>(Cu (h.one x hx)).1
theorem j1f{l:List Iv}(h:CanonL l){n:Int}(hm:M l n): -1099511627776≤n∧n≤1099511627776:=by obtain⟨x,hx,h1,h2⟩:=hm;have h3:=Zl h x hx;have h4:=(W8 _).1 h3.1;have h5:=(W8 _).1 h3.2;omega
theorem Ga{l:List Iv}(h:Sep l)(hi:∀x∈l,Ia x)(hl:l.length≤256):CanonL l:=
 ⟨hl,fun y hy=>by
  have h1:=hi y hy;have h2:=h.1 y hy;have h4:=h1.1;have h5:=h1.2;simp[De,h4,h5];omega,fun j hj=>yU.1 h.2 j (j+1) (by omega) hj (by omega)⟩
theorem v1c(acc:List Iv)(x:Iv)(ha:Sep acc)(hx:x.lo≤x.hi)(hle:∀y∈acc,y.lo≤x.lo):
  Sep (W4 acc x)∧(∀n,M (W4 acc x) n↔M acc n∨(x.lo≤n∧n≤x.hi))∧(∀z,x.lo≤z→∀y∈W4 acc x,y.lo≤z):=by
 rcases wM acc with rfl|⟨ini,y,rfl⟩
 ·have e:W4 [] x=[x]:=rfl;rw[e];exact⟨⟨fun y hy=>by simp at hy;subst hy;exact hx,by simp⟩,fun n=>by simp[M],fun z hz y hy=>by simp at hy;subst hy;exact hz⟩
 ·rw[wN]at ha hle ⊢;rw[W7];have hy:=ha.1 y (by simp);have z1:=hle y (by simp);obtain⟨p1,p2,p3⟩:=yF.1 ha.2;split
  ·rename_i hj;refine⟨⟨fun z hz=> ?_,yF.2 ⟨p1,by simp,fun u hu v hv=> ?_⟩⟩,fun n=> ?_,fun z hz u hu=> ?_⟩
   ·rcases zW.1 hz with h|h
    ·exact ha.1 z (by simp[h])
    ·simp at h;subst h;simp only;split<;>omega
   ·simp at hv;subst hv;exact p3 u hu y (by simp)
   ·rw[Z9,Z9,Ep,Ep,Mm];simp only[or_false];by_cases hm:M ini n
    ·simp[hm]
    ·simp only[hm,false_or];split<;>omega
   ·rcases zW.1 hu with h|h
    ·have:=hle u (by simp[h]);omega
    ·simp at h;subst h;simp only;omega
  ·rename_i hj;refine⟨⟨fun z hz=> ?_,yF.2 ⟨ha.2,by simp,fun u hu v hv=> ?_⟩⟩,fun n=>by rw[Z9,Ep,Mm];simp,fun z hz u hu=> ?_⟩
   ·rcases zW.1 hz with h|h
    ·exact ha.1 z h
    ·simp at h;subst h;exact hx
   ·simp at hv;subst hv;rcases zW.1 hu with h|h
    ·have:=p3 u h y (by simp);omega
    ·simp at h;subst h;omega
   ·rcases zW.1 hu with h|h
    ·have:=hle u h;omega
    ·simp at h;subst h;exact hz
theorem Dh:∀(l acc:List Iv),Sep acc→X0 l→(∀x∈l,x.lo≤x.hi)→(∀y∈acc,∀x∈l,y.lo≤x.lo)→
  Sep (Qx acc l)∧∀n,M (Qx acc l) n↔M acc n∨M l n
 |[],acc,ha,_,_,_=>⟨ha,fun n=>by simp[Qx,M]⟩
 |x::l,acc,ha,hb,hf,hle=>by have hp:=v1c acc x ha (hf x (by simp)) (fun y hy=>hle y hy x (by simp));have ih:=Dh l (W4 acc x) hp.1 (yT.1 hb).2 (fun y hy=>hf y (by simp[hy])) (fun y hy z hz=>hp.2.2 z.lo ((yT.1 hb).1 z hz) y hy);refine⟨ih.1,fun n=> ?_⟩;have e:Qx acc (x::l)=Qx (W4 acc x) l:=rfl;rw[e,ih.2 n,hp.2.1 n,Ep,or_assoc]
theorem Ls:Sep []:=⟨by simp,by simp⟩
theorem d1g{a b:List Iv}(h:a.Perm b)(n:Int):M a n↔M b n:=by simp only[M];exact⟨fun⟨x,hx,h1⟩=>⟨x,h.mem_iff.1 hx,h1⟩,fun⟨x,hx,h1⟩=>⟨x,h.mem_iff.2 hx,h1⟩⟩
theorem Ux(l:List Iv)(hf:∀x∈l,x.lo≤x.hi):Sep (Ej l)∧∀n,M (Ej l) n↔M l n:=by have hs:=Oq l;have h:=Dh (E3 l) [] Ls hs.2 (fun x hx=>hf x (hs.1.mem_iff.1 hx)) (by simp);refine⟨h.1,fun n=> ?_⟩;rw[Ej,h.2 n,Mm,false_or,d1g hs.1]
def pieces(f:Int→Bool):List Int→List Iv
 |c::d::r=>(if f c=true then [⟨c,d - 1⟩]else [])++pieces f (d::r)
 |_=>[]
end Go.Abs
namespace Go.Abs
open Go Go.Proofs
attribute [local irreducible] c17 x0q w0t
def y2k(x y:Bool):Bool:=x || y
def x2d(x y:Bool):Bool:=x && y
def y27(a b:List Iv):Bool×Int:=if x0q a b=0 then(decide (w0t f1b a b=[]),0)else(false,x0q a b)
end Go.Abs
namespace Go.Abs
open Go Go.Proofs
def Ru:List Iv→Int→List Iv
 |[],n=>if n≤1099511627776 then [⟨n,1099511627776⟩]else []
 |x::r,n=>(if n<x.lo then [⟨n,x.lo - 1⟩]else [])++Ru r (x.hi+1)
def Wv(l:List Iv):List Iv:=Ru l (-1099511627776)
end Go.Abs
namespace Go.Abs
open Go
theorem g0q:∀(l:List Iv) (z:Int),z∈Ma l↔∃x∈l,z=x.lo∨z=x.hi+1
 |[],z=>by simp[Ma]
 |y::r,z=>by rw[Ma,yE,yE,g0q r z];simp[or_assoc]
theorem Vu(zs:List Int)(hs:zs.Pairwise (·≤·)):∀m,m≤zs.length→
  (Lib.compactUpTo zs.toArray m).Pairwise (·<·)∧(∀z,z∈Lib.compactUpTo zs.toArray m↔z∈zs.take m):=by
 intro m;induction m with
 |zero=>exact fun _=>⟨by simp[Lib.compactUpTo],by simp[Lib.compactUpTo]⟩
 |succ m ih=>
  intro hm;obtain⟨h1,h2⟩:=ih (by omega);have z1:m<zs.length:=by omega
  have hg:zs.toArray[m]! =zs[m]:=by simp[z1]
  rw[Lib.compactUpTo_succ];have ht:zs.take (m+1)=zs.take m++[zs[m]]:=by rw[zU z1]
  by_cases hk:Lib.keeps zs.toArray m=true
  ·rw[if_pos hk,hg,ht];refine⟨yF.2 ⟨h1,by simp,fun u hu v hv=> ?_⟩,fun z=>by rw[zW,zW,h2]⟩;simp at hv;subst hv;obtain⟨i,hi,rfl⟩:=xH ((h2 u).1 hu);have za:i<m:=by simp at hi;omega
   rw[tt];have zb:zs[m]≠zs[m - 1]:=by
    simp[Lib.keeps]at hk;have z6:m≠0:=by omega
    have hk:=hk.resolve_left z6;simpa[z1,show m - 1<zs.length by omega]using hk
   have a1:zs[i]≤zs[m - 1]:=by
    rcases Nat.lt_or_ge i (m - 1)with h|h
    ·exact yU.1 hs i (m - 1) (by omega) (by omega) h
    ·have:i=m - 1:=by omega
     subst this;exact xN _
   have a2:zs[m - 1]≤zs[m]:=yU.1 hs (m - 1) m (by omega) (by omega) (by omega);omega
  ·rw[if_neg hk,List.append_nil,ht];refine⟨h1,fun z=> ?_⟩;rw[h2,zW];refine⟨.inl,fun h=>h.elim id fun h=> ?_⟩;simp at h;subst h;simp only[Lib.keeps,decide_eq_true_eq,not_or]at hk;have z7:m - 1<zs.length:=by omega
   have z8:zs[m]=zs[m - 1]:=by simpa[z1,z7]using hk.2
   rw[z8];exact List.mem_take_iff_getElem.2 ⟨m - 1,by omega,rfl⟩
theorem k0q(l:List Iv):(k0u l).Pairwise (·<·)∧∀z,z∈k0u l↔∃x∈l,z=x.lo∨z=x.hi+1:=by
 have hs:(Tj (Ma l)).Pairwise (·≤·):=by have:=uR (le:=fun x y:Int=>decide (x≤y)) (fun a b c h1 h2=>by simp at h1 h2 ⊢;omega) (fun a b=>by simp;omega) (Ma l);simpa[Tj]using this
 have h:=Vu _ hs _ (zP _);refine⟨h.1,fun z=> ?_⟩;have h2:=h.2 z;rw[yW]at h2;rw[k0u,Lib.compact,h2,Tj,tr,g0q]
theorem f0v(l:List Iv)(cs:List Int)(h:∀x∈l,x.lo∈cs∧x.hi+1∈cs)(c n:Int)(hc:c≤n)(hm:∀d∈cs,d≤n→d≤c):Pj l n=Pj l c:=by
 rw[wt,Nq,Nq];constructor
 ·rintro⟨x,hx,h1,h2⟩;have:=hm _ (h x hx).1 h1;exact⟨x,hx,this,by omega⟩
 ·rintro⟨x,hx,h1,h2⟩;refine⟨x,hx,by omega,?_⟩;by_cases hn:x.hi+1≤n
  ·have:=hm _ (h x hx).2 hn;omega
  ·omega
theorem q0k{l:List Iv}(h:Sep l)(hb:∀n,M l n→ -1099511627776≤n∧n≤1099511627776):∀x∈l,Ia x:=fun x hx=>
 ⟨(W8 _).2 (hb _ ⟨x,hx,xN _,h.1 x hx⟩),(W8 _).2 (hb _ ⟨x,hx,h.1 x hx,xN _⟩)⟩
theorem Oa:∀(l:List Iv) (s:Int),(∀x∈l,x.lo≤x.hi∧x.hi≤1099511627776)→l.Pairwise (fun x y=>x.hi+2≤y.lo)→(∀x∈l,s≤x.lo)→
  Sep (Ru l s)∧(∀n,M (Ru l s) n↔s≤n∧n≤1099511627776∧¬M l n)∧(Ru l s).length≤l.length+1
 |[],s,_,_,_=>by
  rw[Ru];split
  ·exact⟨⟨fun x hx=>by simp at hx;subst hx;assumption,by simp⟩,fun n=>by rw[Ep,Mm];simp[Mm],by simp⟩
  ·exact⟨Ls,fun n=>by simp[Mm];omega,by simp⟩
 |x::l,s,hf,hp,hs=>by
  have hx:=hf x (by simp);have z7:=hs x (by simp);have z1:=(yT.1 hp).1;obtain⟨i1,i2,i3⟩:=Oa l (x.hi+1) (fun y hy=>hf y (by simp[hy])) (yT.1 hp).2 (fun y hy=>by have:=z1 y hy;omega);have z6:∀n,M l n→x.hi+2≤n:=by rintro n ⟨y,hy,h1,h2⟩;have:=z1 y hy;omega
  rw[Ru];split
  ·refine⟨⟨fun y hy=> ?_,?_⟩,fun n=> ?_,by simp;omega⟩
   ·rcases zW.1 hy with h|h
    ·simp at h;subst h;simp only;omega
    ·exact i1.1 y h
   ·refine yF.2 ⟨by simp,i1.2,fun u hu v hv=> ?_⟩;simp at hu;subst hu;have:=(i2 v.lo).1 ⟨v,hv,xN _,i1.1 v hv⟩;simp only;omega
   ·rw[Z9,i2,Ep,Mm,Ep];by_cases hm:M l n
    ·have:=z6 n hm;simp[hm];omega
    ·simp only[hm,not_false_eq_true,and_true,or_false];omega
  ·refine⟨⟨fun y hy=>i1.1 y (by simpa using hy),by simpa using i1.2⟩,fun n=> ?_,by simp;omega⟩;rw[List.nil_append,i2,Ep];by_cases hm:M l n
   ·simp[hm]
   ·simp only[hm,not_false_eq_true,and_true,or_false];omega
theorem I1{l:List Iv}(h:CanonL l):Sep (Wv l)∧(∀n,M (Wv l) n↔(-1099511627776≤n∧n≤1099511627776)∧¬M l n)∧(Wv l).length≤l.length+1:=by have hs:=Gj h;have hi:=Zl h;have:=Oa l (-1099511627776) (fun x hx=>⟨hs.1 x hx,((W8 _).1 (hi x hx).2).2⟩) hs.2 (fun x hx=>((W8 _).1 (hi x hx).1).1);exact⟨this.1,fun n=>by rw[Wv,this.2.1,and_assoc],this.2.2⟩
def O8(x y:Iv):Option Iv:=if(if x.lo<y.lo then y.lo else x.lo)≤(if y.hi<x.hi then y.hi else x.hi)then some ⟨if x.lo<y.lo then y.lo else x.lo,if y.hi<x.hi then y.hi else x.hi⟩else none
def E8(a b:List Iv):List Iv:=a.flatMap fun x=>b.filterMap (O8 x)
theorem Gg{x y z:Iv}(h:O8 x y=some z):z.lo≤z.hi∧∀n,(z.lo≤n∧n≤z.hi)↔(x.lo≤n∧n≤x.hi)∧(y.lo≤n∧n≤y.hi):=by
 unfold O8 at h;by_cases hle:(if x.lo<y.lo then y.lo else x.lo)≤(if y.hi<x.hi then y.hi else x.hi)
 ·rw[if_pos hle]at h;cases h;refine⟨hle,fun n=> ?_⟩;simp only;split<;>split<;>omega
 ·rw[if_neg hle]at h;cases h
theorem c1l{x y:Iv}{n:Int}(h1:x.lo≤n∧n≤x.hi)(h2:y.lo≤n∧n≤y.hi):∃z,O8 x y=some z∧z.lo≤n∧n≤z.hi:=by
 unfold O8;have:(if x.lo<y.lo then y.lo else x.lo)≤(if y.hi<x.hi then y.hi else x.hi):=by split<;>split<;>omega
 rw[if_pos this];refine⟨_,rfl,?_,?_⟩<;>simp only<;>split<;>omega
theorem Sv(a b:List Iv):(∀x∈E8 a b,x.lo≤x.hi)∧∀n,M (E8 a b) n↔M a n∧M b n:=by
 constructor
 ·intro z hz;obtain⟨x,_,hz⟩:=wU.1 hz;obtain⟨y,_,h⟩:=vN.1 hz;exact(Gg h).1
 ·intro n;constructor
  ·rintro⟨z,hz,h1⟩;obtain⟨x,hx,hz⟩:=wU.1 hz;obtain⟨y,hy,h⟩:=vN.1 hz;have:=((Gg h).2 n).1 h1;exact⟨⟨x,hx,this.1⟩,⟨y,hy,this.2⟩⟩
  ·rintro⟨⟨x,hx,h1⟩,⟨y,hy,h2⟩⟩;obtain⟨z,hz,h3⟩:=c1l h1 h2;exact⟨z,wU.2 ⟨x,hx,vN.2 ⟨y,hy,hz⟩⟩,h3⟩
def R9(a b:List Iv):List Iv:=Ej (E8 a b)
theorem Ot(a b:List Iv):Sep (R9 a b)∧∀n,M (R9 a b) n↔M a n∧M b n:=by have h:=Ux (E8 a b) (Sv a b).1;exact⟨h.1,fun n=>by rw[R9,h.2,(Sv a b).2]⟩
end Go.Abs
namespace Go.Abs
open Go
def b2(b:Bool):Int:=if b=true then 1 else 0
def cnt(p:Int→Bool)(A:Int):Nat→Int
 |0=>0
 |n+1=>cnt p A n+b2 (p (A+n))
def inI(lo hi k:Int):Bool:=decide (lo≤k) && decide (k≤hi)
theorem M0(lo hi k:Int):inI lo hi k=true↔lo≤k∧k≤hi:=by simp[inI]
theorem w1f(x:Iv)(l:List Iv)(k:Int):Pj (x::l) k=(inI x.lo x.hi k || Pj l k):=by simp[Pj,inI]
end Go.Abs
namespace Go.Abs
open Go
end Go.Abs
namespace Go.Abs
open Go
end Go.Abs
namespace Go.Abs
open Go
def f1t(x y:Iv):Bool:=decide (y.lo<x.lo) && decide (x.lo≤y.hi)
def x05(x y:Iv):Bool:=decide (x.lo≤y.lo) && decide (y.lo≤x.hi)
theorem u01(x:Iv):∀(b:List Iv),(b.filterMap (O8 x)).length≤b.countP (f1t x)+b.countP (x05 x)
 |[]=>by simp
 |y::b=>by
  have ih:=u01 x b;rw[vE,vE];cases h:O8 x y with
  |none=>rw[List.filterMap_cons_none h];omega
  |some z=>
   rw[List.filterMap_cons_some h,yS];have hz:=Gg h;have hm:=(hz.2 z.lo).1 ⟨xN _,hz.1⟩;have:f1t x y=true∨x05 x y=true:=by simp[f1t,x05];omega
   rcases this with h'|h'<;>rw[if_pos h']<;>omega
theorem d0k(x:Iv):∀(b:List Iv),Sep b→b.countP (f1t x)≤1
 |[],_=>by simp
 |y::b,hs=>by
  rw[vE];split
  ·rename_i h;simp[f1t]at h;have:b.countP (f1t x)=0:=tj.2 fun z hz=>by have:=(yT.1 hs.2).1 z hz;simp[f1t];omega
   omega
  ·have:=d0k x b hs.tail;omega
theorem w0u(y:Iv):∀(a:List Iv),Sep a→a.countP (fun x=>x05 x y)≤1
 |[],_=>by simp
 |x::a,hs=>by
  rw[vE];split
  ·rename_i h;simp[x05]at h;have:a.countP (fun x=>x05 x y)=0:=tj.2 fun z hz=>by have:=(yT.1 hs.2).1 z hz;simp[x05];omega
   omega
  ·have:=w0u y a hs.tail;omega
theorem q0b(a:List Iv)(ha:Sep a):∀(b:List Iv),(a.map fun x=>b.countP (x05 x)).sum≤b.length
 |[]=>by
  have:∀a:List Iv,(a.map fun x=>([]:List Iv).countP (x05 x)).sum=0:=fun a=>by
   induction a with
   |nil=>rfl
   |cons x a ih=>simpa using ih
  rw[this];simp
 |y::b=>by
  have ih:=q0b a ha b;have h1:=w0u y a ha;have:∀a:List Iv,(a.map fun x=>(y::b).countP (x05 x)).sum=(a.map fun x=>b.countP (x05 x)).sum+a.countP (fun x=>x05 x y):=fun a=>by
   induction a with
   |nil=>rfl
   |cons x a ih=>rw[yZ,ur,ih,yZ,ur,vE,vE];omega
  rw[this,yS];omega
theorem Vz(a b:List Iv)(ha:Sep a)(hb:Sep b):(E8 a b).length≤a.length+b.length:=by
 have h:∀a:List Iv,(E8 a b).length≤a.length+(a.map fun x=>b.countP (x05 x)).sum:=fun a=>by
  induction a with
  |nil=>simp[E8]
  |cons x a ih=>have e:E8 (x::a) b=b.filterMap (O8 x)++E8 a b:=rfl;have h1:=u01 x b;have h2:=d0k x b hb;rw[e,List.length_append,yZ,ur,yS];omega
 have h1:=h a;have h2:=q0b a ha b;omega
theorem y1o{a b:List Iv}(h:(∀x∈a,Ia x)∨(∀y∈b,Ia y)):∀z∈E8 a b,Ia z:=by
 intro z hz;have hp:=Sv a b;have hf:=hp.1 z hz;have m1:=(hp.2 z.lo).1 ⟨z,hz,xN _,hf⟩;have m2:=(hp.2 z.hi).1 ⟨z,hz,hf,xN _⟩;have key:∀l:List Iv,(∀x∈l,Ia x)→∀n,M l n→inB n=true:=fun l hl n ⟨x,hx,h1,h2⟩=>by have h3:=(W8 _).1 (hl x hx).1;have h4:=(W8 _).1 (hl x hx).2;exact(W8 _).2 (by omega)
 rcases h with h|h
 ·exact⟨key a h _ m1.1,key a h _ m2.1⟩
 ·exact⟨key b h _ m1.2,key b h _ m2.2⟩
end Go.Abs
namespace Go.Abs
abbrev Prd:=List (List Iv)
def PM(p:Prd)(t:Nat)(n:Int):Prop:=∃s,p[t]? =some s∧M s n
def inR(n:Int):Prop:= -1099511627776≤n∧n≤1099511627776
def PWf(T:Nat)(p:Prd):Prop:=p.length=T∧∀s∈p,Sep s∧∀n,M s n→inR n
theorem PWf.lt{T:Nat}{p:Prd}(h:PWf T p){t:Nat}{n:Int}(hm:PM p t n):t<T∧inR n:=by obtain⟨s,hs,hn⟩:=hm;exact⟨by rw[←h.1];exact(zB.1 hs).1,(h.2 s (zJ hs)).2 n hn⟩
theorem Pv{T:Nat}{p q:Prd}(hp:PWf T p)(hq:PWf T q)(h:∀t n,PM p t n↔PM q t n):p=q:=by apply List.ext_getElem (by rw[hp.1,hq.1]);intro i h1 h2;refine d0v _ _ (hp.2 _ (zL h1)).1 (hq.2 _ (zL h2)).1 fun n=> ?_;have:=h i n;unfold PM at this;rw[zK h1,zK h2]at this;simpa using this
def Ib(t:Nat)(n:Int)(t':Nat)(n':Int):Prop:=t<t'∨t=t'∧n<n'
theorem Ib.irr{t:Nat}{n:Int}(h:Ib t n t n):False:=by unfold Ib at h;omega
theorem Ib.trans{a b c:Nat}{x y z:Int}(h:Ib a x b y)(k:Ib b y c z):Ib a x c z:=by unfold Ib at *;omega
def q20(l:List Prd)(t:Nat)(n:Int)(t':Nat)(n':Int):Prop:=∀p∈l,PM p t n↔PM p t' n'
structure Prts (T:Nat) (l L:List Prd):Prop where
 wf:∀p∈L,PWf T p
 ne:∀p∈L,∃t n,PM p t n
 all:∀t n,t<T→inR n→∃p∈L,PM p t n
 cls:∀p∈L,∀t n,PM p t n→∀t' n',PM p t' n'↔t'<T∧inR n'∧q20 l t n t' n'
def v0z(p q:Prd):Prop:=∃t n,PM p t n∧∀t' n',PM q t' n'→Ib t n t' n'
theorem v0z.irr{p:Prd}(h:v0z p p):False:=by obtain⟨t,n,h1,h2⟩:=h;exact(h2 t n h1).irr
theorem v0z.asymm{p q:Prd}(h:v0z p q)(k:v0z q p):False:=by obtain⟨t,n,h1,h2⟩:=h;obtain⟨t',n',k1,k2⟩:=k;exact((h2 t' n' k1).trans (k2 t n h1)).irr
theorem Prts.same{T:Nat}{l L L':List Prd}(h:Prts T l L)(h':Prts T l L'){p:Prd}(hp:p∈L):p∈L':=by
 obtain⟨t,n,hm⟩:=h.ne p hp;obtain⟨ht,hn⟩:=(h.wf p hp).lt hm;obtain⟨q,hq,z1⟩:=h'.all t n ht hn;have:p=q:=Pv (h.wf p hp) (h'.wf q hq) fun t' n'=>by rw[h.cls p hp t n hm,h'.cls q hq t n z1]
 rw[this];exact hq
theorem Prts.unique{T:Nat}{l L L':List Prd}(h:Prts T l L)(h':Prts T l L')(s:L.Pairwise v0z)(s':L'.Pairwise v0z):L=L':=by have z1:∀ {X:List Prd},X.Pairwise v0z→X.Nodup:=fun hx=>hx.imp (fun h e=>by subst e;exact h.irr);refine List.Perm.eq_of_pairwise (le:=v0z) (fun a b _ _ h1 h2=>(h1.asymm h2).elim) s s' ?_;exact(uH (z1 s) (z1 s')).2 fun p=>⟨h.same h',h'.same h⟩
theorem Prts.disj{T:Nat}{l L:List Prd}(h:Prts T l L){p q:Prd}(hp:p∈L)(hq:q∈L){t:Nat}{n:Int}(h1:PM p t n)(h2:PM q t n):p=q:=
 Pv (h.wf p hp) (h.wf q hq) fun t' n'=>by rw[h.cls p hp t n h1,h.cls q hq t n h2]
theorem Prts.perm{T:Nat}{l L L':List Prd}(h:Prts T l L)(e:L.Perm L'):Prts T l L':=
 ⟨fun p hp=>h.wf p (e.mem_iff.2 hp),fun p hp=>h.ne p (e.mem_iff.2 hp),fun t n a b=>by obtain⟨p,hp,hm⟩:=h.all t n a b;exact⟨p,e.mem_iff.1 hp,hm⟩,fun p hp=>h.cls p (e.mem_iff.2 hp)⟩
def Ws(T:Nat):Prd:=yL T (Wv [])
def Wc(c p:Prd):Prd:=tS R9 c p
def W5(p:Prd):Prd:=p.map Wv
def Wf(p:Prd):Bool:=p.all (·.isEmpty)
def Et(p:Prd)(L:List Prd):List Prd:=L.flatMap fun c=>(if Wf (Wc c p)then []else [Wc c p])++(if Wf (Wc c (W5 p))then []else [Wc c (W5 p)])
def El(T:Nat)(l:List Prd):List Prd:=l.foldl (fun L p=>Et p L) [Ws T]
def PCk(T:Nat)(p:Prd):Prop:=p.length=T∧∀s∈p,CanonL s
theorem PCk.wf{T:Nat}{p:Prd}(h:PCk T p):PWf T p:=⟨h.1,fun s hs=>⟨Gj (h.2 s hs),fun n hn=>j1f (h.2 s hs) hn⟩⟩
theorem Aq:CanonL []:=⟨by simp,by simp,fun j h=>by simp at h⟩
theorem Ay(T t:Nat)(n:Int):PM (Ws T) t n↔t<T∧inR n:=by
 unfold PM Ws;have hg:=(I1 Aq).2.1 n;constructor
 ·rintro⟨s,hs,hm⟩;rw[uc]at hs;split at hs
  ·cases hs;exact⟨by assumption,(hg.1 hm).1⟩
  ·cases hs
 ·rintro⟨h1,h2⟩;exact⟨Wv [],by rw[uc,if_pos h1],hg.2 ⟨h2,by simp[M]⟩⟩
theorem Sg(T:Nat):PWf T (Ws T):=⟨by simp[Ws],fun s hs=>by
 obtain rfl:=vJ hs;exact⟨(I1 Aq).1,fun n hn=>(((I1 Aq).2.1 n).1 hn).1⟩⟩
theorem Em{T:Nat}{c p:Prd}(hc:c.length=T)(hp:p.length=T)(t:Nat)(n:Int):PM (Wc c p) t n↔PM c t n∧PM p t n:=by
 unfold PM Wc;constructor
 ·rintro⟨s,hs,hm⟩;rw[vA]at hs;cases h1:c[t]? with
  |none=>rw[h1]at hs;simp at hs
  |some a=>
   cases h2:p[t]? with
   |none=>rw[h1,h2]at hs;simp at hs
   |some b=>rw[h1,h2]at hs;simp at hs;subst hs;have:=((Ot a b).2 n).1 hm;exact⟨⟨a,rfl,this.1⟩,⟨b,rfl,this.2⟩⟩
 ·rintro⟨⟨a,h1,m1⟩,⟨b,h2,m2⟩⟩;exact⟨R9 a b,by rw[vA,h1,h2],((Ot a b).2 n).2 ⟨m1,m2⟩⟩
theorem Ya{T:Nat}{c p:Prd}(hc:PWf T c)(hp:p.length=T):PWf T (Wc c p):=by
 refine⟨by simp[Wc,hc.1,hp],fun s hs=> ?_⟩;obtain⟨i,hi⟩:=yJ.1 hs;unfold Wc at hi;rw[vA]at hi;cases h1:c[i]? with
 |none=>rw[h1]at hi;simp at hi
 |some a=>
  cases h2:p[i]? with
  |none=>rw[h1,h2]at hi;simp at hi
  |some b=>rw[h1,h2]at hi;simp at hi;subst hi;exact⟨(Ot a b).1,fun n hn=>(hc.2 a (zJ h1)).2 n (((Ot a b).2 n).1 hn).1⟩
theorem Z3{T:Nat}{p:Prd}(hp:PCk T p)(t:Nat)(n:Int):PM (W5 p) t n↔(t<T∧inR n)∧¬PM p t n:=by
 unfold PM W5;rw[zY];constructor
 ·rintro⟨s,hs,hm⟩;obtain⟨a,ha,rfl⟩:=zV.1 hs;have hg:=((I1 (hp.2 a (zJ ha))).2.1 n).1 hm;refine⟨⟨by rw[←hp.1];exact(zB.1 ha).1,hg.1⟩,?_⟩;rintro⟨b,hb,z1⟩;rw[ha]at hb;cases hb;exact hg.2 z1
 ·rintro⟨⟨h1,h2⟩,h3⟩;have hl:t<p.length:=by rw[hp.1];exact h1
  refine⟨Wv p[t],by rw[zK hl];rfl,((I1 (hp.2 _ (zL hl))).2.1 n).2 ⟨h2,fun hm=>h3 ⟨_,zK hl,hm⟩⟩⟩
theorem Rz{T:Nat}{p:Prd}(h:PWf T p):Wf p=true↔∀t n,¬PM p t n:=by
 unfold Wf;rw[zX];constructor
 ·rintro hv t n ⟨s,hs,hm⟩;have:=hv s (zJ hs);rw[tC]at this;subst this;simp[M]at hm
 ·intro hv s hs;obtain⟨i,hi⟩:=yJ.1 hs;cases s with
  |nil=>rfl
  |cons x s=>exact absurd ⟨_,hi,(Ep ..).2 (.inl ⟨xN _,(h.2 _ hs).1.1 x (by simp)⟩)⟩ (hv i x.lo)
theorem Lj{T:Nat}{l L:List Prd}{p:Prd}(h:Prts T l L)(hp:PCk T p):Prts T (l++[p]) (Et p L):=by
 have z6:(W5 p).length=T:=by simp[W5,hp.1]
 have z1:∀q,q∈Et p L↔∃c∈L,((q=Wc c p)∨(q=Wc c (W5 p)))∧Wf q=false:=by
  intro q;unfold Et;rw[wU];constructor
  ·rintro⟨c,hc,hq⟩;refine⟨c,hc,?_⟩;rcases zW.1 hq with hq|hq
   ·split at hq
    ·cases hq
    ·rename_i hv;obtain rfl:=zQ.1 hq;exact⟨.inl rfl,by simpa using hv⟩
   ·split at hq
    ·cases hq
    ·rename_i hv;obtain rfl:=zQ.1 hq;exact⟨.inr rfl,by simpa using hv⟩
  ·rintro⟨c,hc,hq,hv⟩;refine⟨c,hc,zW.2 ?_⟩;rcases hq with rfl|rfl
   ·left;rw[if_neg (by rw[hv];decide)];simp
   ·right;rw[if_neg (by rw[hv];decide)];simp
 have z7:∀q∈Et p L,PWf T q:=fun q hq=>by
  obtain⟨c,hc,rfl|rfl,_⟩:=(z1 q).1 hq
  ·exact Ya (h.wf c hc) hp.1
  ·exact Ya (h.wf c hc) z6
 have zb:∀q∈Et p L,∃t n,PM q t n:=fun q hq=>by
  obtain⟨c,hc,_,hv⟩:=(z1 q).1 hq;by_cases hx:∃t n,PM q t n
  ·exact hx
  ·exfalso;have:Wf q=true:=(Rz (z7 q hq)).2 fun t n hm=>hx ⟨t,n,hm⟩;rw[this]at hv;cases hv
 refine⟨z7,zb,fun t n ht hn=> ?_,fun q hq t n hm t' n'=> ?_⟩
 ·obtain⟨c,hc,z8⟩:=h.all t n ht hn;have hv:∀q,(q=Wc c p∨q=Wc c (W5 p))→PM q t n→q∈Et p L:=fun q hq hm=>(z1 q).2 ⟨c,hc,hq,by
   have hw:PWf T q:=by
    rcases hq with rfl|rfl
    ·exact Ya (h.wf c hc) hp.1
    ·exact Ya (h.wf c hc) z6
   cases hvq:Wf q with
   |false=>rfl
   |true=>exact absurd hm ((Rz hw).1 hvq t n)⟩
  by_cases za:PM p t n
  ·have:=(Em (h.wf c hc).1 hp.1 t n).2 ⟨z8,za⟩;exact⟨_,hv _ (.inl rfl) this,this⟩
  ·have:=(Em (h.wf c hc).1 z6 t n).2 ⟨z8,(Z3 hp t n).2 ⟨⟨ht,hn⟩,za⟩⟩;exact⟨_,hv _ (.inr rfl) this,this⟩
 ·obtain⟨c,hc,zc,_⟩:=(z1 q).1 hq;have zd:q20 (l++[p]) t n t' n'↔q20 l t n t' n'∧(PM p t n↔PM p t' n'):=by
   constructor
   ·exact fun hs=>⟨fun r hr=>hs r (by simp[hr]),hs p (by simp)⟩
   ·rintro⟨h1,h2⟩ r hr;rcases zW.1 hr with hr|hr
    ·exact h1 r hr
    ·obtain rfl:=zQ.1 hr;exact h2
  rw[zd];rcases zc with rfl|rfl
  ·obtain⟨m1,m2⟩:=(Em (h.wf c hc).1 hp.1 t n).1 hm;rw[Em (h.wf c hc).1 hp.1,h.cls c hc t n m1];constructor
   ·rintro⟨⟨h1,h2,h3⟩,h4⟩;exact⟨h1,h2,h3,fun _=>h4,fun _=>m2⟩
   ·rintro⟨h1,h2,h3,h4⟩;exact⟨⟨h1,h2,h3⟩,h4.1 m2⟩
  ·obtain⟨m1,m2⟩:=(Em (h.wf c hc).1 z6 t n).1 hm;have m3:=((Z3 hp t n).1 m2).2;rw[Em (h.wf c hc).1 z6,h.cls c hc t n m1,Z3 hp];constructor
   ·rintro⟨⟨h1,h2,h3⟩,h4⟩;exact⟨h1,h2,h3,fun h=>absurd h m3,fun h=>absurd h h4.2⟩
   ·rintro⟨h1,h2,h3,h4⟩;exact⟨⟨h1,h2,h3⟩,⟨h1,h2⟩,fun h=>m3 (h4.2 h)⟩
theorem J7(T:Nat)(hT:0<T):Prts T [] [Ws T]:=by
 refine⟨fun p hp=> ?_,fun p hp=> ?_,fun t n ht hn=> ?_,fun p hp t n hm t' n'=> ?_⟩
 ·obtain rfl:=zQ.1 hp;exact Sg T
 ·obtain rfl:=zQ.1 hp;exact⟨0,0,(Ay T 0 0).2 ⟨hT,by unfold inR;omega⟩⟩
 ·exact⟨_,List.mem_singleton_self _,(Ay T t n).2 ⟨ht,hn⟩⟩
 ·obtain rfl:=zQ.1 hp;rw[Ay];exact⟨fun h=>⟨h.1,h.2,fun r hr=>by cases hr⟩,fun h=>⟨h.1,h.2.1⟩⟩
theorem R8{T:Nat}(hT:0<T){l:List Prd}(hl:∀p∈l,PCk T p):Prts T l (El T l):=by
 have key:∀(r d L:List Prd),Prts T d L→(∀p∈r,PCk T p)→Prts T (d++r) (r.foldl (fun L p=>Et p L) L):=by
  intro r;induction r with
  |nil=>intro d L h _;simpa using h
  |cons p r ih=>intro d L h hr;rw[xY];have:=ih (d++[p]) (Et p L) (Lj h (hr p (by simp))) (fun q hq=>hr q (by simp[hq]));simpa using this
 have:=key l [] [Ws T] (J7 T hT) hl;simpa[El]using this
end Go.Abs
namespace Go.Abs
def Qy:Prd→Nat→Nat×Int
 |[],_=>(0,0)
 |(x::_)::_,i=>(i,x.lo)
 |[]::p,i=>Qy p (i+1)
def Z8(a b:Nat×Int):Bool:=decide (a.1<b.1) || (decide (a.1=b.1) && decide (a.2<b.2))
theorem Th(a b:Nat×Int):Z8 a b=true↔Ib a.1 a.2 b.1 b.2:=by simp[Z8,Ib]
theorem Bs:∀(p:Prd) (i:Nat),(∀s∈p,Sep s)→(∃s∈p,s≠[])→∃t x r,p[t]? =some (x::r)∧Qy p i=(i+t,x.lo)∧∀j,j<t→p[j]? =some []
 |[],_,_,⟨s,hs,_⟩=>by cases hs
 |(x::r)::p,i,_,_=>⟨0,x,r,rfl,rfl,fun j hj=>by omega⟩
 |[]::p,i,h,⟨s,hs,hn⟩=>by
  have z1:s∈p:=by
   rcases yE.1 hs with rfl|hs
   ·exact absurd rfl hn
   ·exact hs
  obtain⟨t,x,r,h1,h2,h3⟩:=Bs p (i+1) (fun s hs=>h s (by simp[hs])) ⟨s,z1,hn⟩;refine⟨t+1,x,r,by simpa using h1,by rw[Qy,h2];congr 1;omega,fun j hj=> ?_⟩;cases j with
  |zero=>rfl
  |succ j=>simpa using h3 j (by omega)
theorem Wz{T:Nat}{p:Prd}(h:PWf T p)(hn:∃t n,PM p t n):PM p (Qy p 0).1 (Qy p 0).2∧∀t n,PM p t n→((Qy p 0).1=t∧(Qy p 0).2=n)∨Ib (Qy p 0).1 (Qy p 0).2 t n:=by
 obtain⟨t0,n0,s0,z1,m0⟩:=hn;have z6:s0≠[]:=fun e=>by subst e;simp[M]at m0
 obtain⟨t,x,r,h1,h2,h3⟩:=Bs p 0 (fun s hs=>(h.2 s hs).1) ⟨s0,zJ z1,z6⟩;rw[Nat.zero_add]at h2;rw[h2];have hx:=(h.2 _ (zJ h1)).1;refine⟨⟨_,h1,(Ep ..).2 (.inl ⟨xN _,hx.1 x (by simp)⟩)⟩,fun t' n' hm=> ?_⟩;obtain⟨s,hs,hm⟩:=hm;simp only;rcases vV t' t with hlt|rfl|hgt
 ·rw[h3 t' hlt]at hs;cases hs;simp[M]at hm
 ·rw[h1]at hs;cases hs;have:=hx.lowc hm;unfold Ib;omega
 ·exact .inr (.inl hgt)
theorem L1{T:Nat}{p q:Prd}(hp:PWf T p)(z1:∃t n,PM p t n)(hq:PWf T q)(z6:∃t n,PM q t n)(h:Ib (Qy p 0).1 (Qy p 0).2 (Qy q 0).1 (Qy q 0).2):v0z p q:=
 ⟨_,_,(Wz hp z1).1,fun t n hm=>by
  rcases(Wz hq z6).2 t n hm with⟨e1,e2⟩|h2
  ·rw[←e1,←e2];exact h
  ·exact h.trans h2⟩
def Xt(s:List Prd)(x:Prd):Nat→Nat
 |0=>0
 |j+1=>match s[j]? with
  |some y=>if Z8 (Qy x 0) (Qy y 0)=true then Xt s x j else j+1
  |none=>j+1
def Xj(s:List Prd)(x:Prd):List Prd:=s.take (Xt s x s.length)++x::s.drop (Xt s x s.length)
def Zo(L:List Prd):List Prd:=L.foldl Xj []
theorem Ci(s:List Prd)(x:Prd):∀j,j≤s.length→Xt s x j≤j∧(∀i,Xt s x j≤i→i<j→∀h:i<s.length,Z8 (Qy x 0) (Qy s[i] 0)=true)∧(∀i,i+1=Xt s x j→∀h:i<s.length,Z8 (Qy x 0) (Qy s[i] 0)=false)
 |0,_=>⟨zP _,fun i _ h=>by omega,fun i h=>by simp[Xt]at h⟩
 |j+1,hj=>by
  have z1:j<s.length:=by omega
  rw[Xt,zK z1];simp only;by_cases hb:Z8 (Qy x 0) (Qy s[j] 0)=true
  ·rw[if_pos hb];obtain⟨h1,h2,h3⟩:=Ci s x j (by omega);refine⟨by omega,fun i hi z6 hl=> ?_,h3⟩;by_cases hij:i=j
   ·subst hij;exact hb
   ·exact h2 i hi (by omega) hl
  ·rw[if_neg hb];refine⟨zP _,fun i hi z6=>by omega,fun i hi hl=> ?_⟩;have:i=j:=by omega
   subst this;simpa using hb
theorem Av(s:List Prd)(x:Prd):(Xj s x).Perm (x::s):=by unfold Xj;refine vI.trans ?_;rw[xU]
def Z0(p q:Prd):Prop:=Ib (Qy p 0).1 (Qy p 0).2 (Qy q 0).1 (Qy q 0).2
theorem My{s:List Prd}{x:Prd}(hs:s.Pairwise Z0)(hd:∀y∈s,Qy y 0≠Qy x 0):(Xj s x).Pairwise Z0:=by
 obtain⟨h1,h2,h3⟩:=Ci s x s.length (zP _);unfold Xj;generalize Xt s x s.length=k at *
 have z1:=hs;rw[←xU k s]at z1;obtain⟨p1,p2,p3⟩:=yF.1 z1;have z7:∀y∈s.drop k,Z0 x y:=fun y hy=>by obtain⟨i,hi⟩:=yJ.1 hy;rw[List.getElem?_drop]at hi;obtain⟨hl,e⟩:=zB.1 hi;have:=h2 (k+i) (by omega) hl hl;rw[e]at this;exact(Th _ _).1 this
 have z8:∀i,i+1=k→∀h:i<s.length,Z0 s[i] x:=fun i hi hl=>by
  have h4:=h3 i hi hl;have zc:=hd s[i] (zL hl);unfold Z0;rcases vV (Qy s[i] 0).1 (Qy x 0).1 with a|a|a
  ·exact .inl a
  ·rcases tB (Qy s[i] 0).2 (Qy x 0).2 with b|b|b
   ·exact .inr ⟨a,b⟩
   ·exact absurd (Prod.ext a b) zc
   ·have:Z8 (Qy x 0) (Qy s[i] 0)=true:=(Th _ _).2 (.inr ⟨a.symm,b⟩);rw[this]at h4;cases h4
  ·have:Z8 (Qy x 0) (Qy s[i] 0)=true:=(Th _ _).2 (.inl a);rw[this]at h4;cases h4
 have z6:∀y∈s.take k,Z0 y x:=fun y hy=>by
  obtain⟨i,hi⟩:=yJ.1 hy;rw[List.getElem?_take]at hi;split at hi
  ·rename_i zd;obtain⟨hl,e⟩:=zB.1 hi;obtain⟨k',rfl⟩:∃k',k=k'+1:=⟨k - 1,by omega⟩
   have za:k'<s.length:=by omega
   have zb:=z8 k' rfl za;by_cases hij:i=k'
   ·subst hij;rw[←e];exact zb
   ·have:=yU.1 hs i k' hl za (by omega);rw[e]at this;exact Ib.trans this zb
  ·cases hi
 refine yF.2 ⟨p1,yT.2 ⟨z7,p2⟩,fun y hy z hz=> ?_⟩;rcases yE.1 hz with rfl|hz
 ·exact z6 y hy
 ·exact p3 y hy z hz
theorem J2(L:List Prd)(hd:L.Pairwise (fun p q=>Qy p 0≠Qy q 0)):(Zo L).Perm L∧(Zo L).Pairwise Z0:=by
 have key:∀(r s:List Prd),s.Pairwise Z0→(s++r).Pairwise (fun p q=>Qy p 0≠Qy q 0)→(r.foldl Xj s).Perm (s++r)∧(r.foldl Xj s).Pairwise Z0:=by
  intro r;induction r with
  |nil=>intro s h _;simpa using h
  |cons x r ih=>intro s h hd;obtain⟨d1,d2,d3⟩:=yF.1 hd;have hi:=My h (fun y hy=>d3 y hy x (by simp));have hp:=Av s x;have z1:(Xj s x++r).Perm (s++x::r):=(hp.append_right r).trans (vI (l₁:=s) (a:=x) (l₂:=r)).symm;have z6:(Xj s x++r).Pairwise (fun p q=>Qy p 0≠Qy q 0):=(z1.pairwise_iff (fun h=>Ne.symm h)).2 hd;obtain⟨i1,i2⟩:=ih (Xj s x) hi z6;rw[xY];exact⟨i1.trans z1,i2⟩
 have h:=key L [] List.Pairwise.nil (by simpa using hd);unfold Zo;simpa using h
def Q5(T:Nat)(l:List Prd):List Prd:=Zo (El T l)
theorem Vk{T:Nat}{l L:List Prd}{p:Prd}(h:Prts T l L)(hp:PCk T p)(hd:L.Pairwise (fun a b=>∀t n,PM a t n→¬PM b t n)):(Et p L).Pairwise (fun a b=>∀t n,PM a t n→¬PM b t n):=by
 have z7:(W5 p).length=T:=by simp[W5,hp.1]
 have z8:∀c∈L,∀q∈(if Wf (Wc c p)then []else [Wc c p])++(if Wf (Wc c (W5 p))then []else [Wc c (W5 p)]),∀t n,PM q t n→PM c t n:=by
  intro c hc q hq t n hm;rcases zW.1 hq with hq|hq
  ·split at hq
   ·cases hq
   ·obtain rfl:=zQ.1 hq;exact((Em (h.wf c hc).1 hp.1 t n).1 hm).1
  ·split at hq
   ·cases hq
   ·obtain rfl:=zQ.1 hq;exact((Em (h.wf c hc).1 z7 t n).1 hm).1
 unfold Et;rw[ud];refine⟨fun c hc=> ?_,?_⟩
 ·refine yF.2 ⟨by split<;>simp,by split<;>simp,fun a ha b hb t n z1 z6=> ?_⟩;split at ha
  ·cases ha
  ·split at hb
   ·cases hb
   ·obtain rfl:=zQ.1 ha;obtain rfl:=zQ.1 hb;exact((Z3 hp t n).1 ((Em (h.wf c hc).1 z7 t n).1 z6).2).2 ((Em (h.wf c hc).1 hp.1 t n).1 z1).2
 ·exact hd.imp_of_mem (fun {a b} ha hb hab x hx y hy t n z1 z6=>hab t n (z8 a ha x hx t n z1) (z8 b hb y hy t n z6))
theorem D5{T:Nat}(hT:0<T){l:List Prd}(hl:∀p∈l,PCk T p):(El T l).Pairwise (fun a b=>∀t n,PM a t n→¬PM b t n):=by
 have key:∀(r d L:List Prd),Prts T d L→(∀p∈r,PCk T p)→L.Pairwise (fun a b=>∀t n,PM a t n→¬PM b t n)→(r.foldl (fun L p=>Et p L) L).Pairwise (fun a b=>∀t n,PM a t n→¬PM b t n):=by
  intro r;induction r with
  |nil=>intro d L _ _ h;simpa using h
  |cons p r ih=>intro d L h hr hd;rw[xY];exact ih (d++[p]) (Et p L) (Lj h (hr p (by simp))) (fun q hq=>hr q (by simp[hq])) (Vk h (hr p (by simp)) hd)
 exact key l [] [Ws T] (J7 T hT) hl (by simp)
theorem U5{T:Nat}(hT:0<T){l:List Prd}(hl:∀p∈l,PCk T p):Prts T l (Q5 T l)∧(Q5 T l).Pairwise v0z:=by
 have h:=R8 hT hl;have hd:(El T l).Pairwise (fun p q=>Qy p 0≠Qy q 0):=(D5 hT hl).imp_of_mem (fun {a b} ha hb hab e=>by
  have h1:=(Wz (h.wf a ha) (h.ne a ha)).1;have h2:=(Wz (h.wf b hb) (h.ne b hb)).1;rw[←e]at h2;exact hab _ _ h1 h2)
 obtain⟨h1,h2⟩:=J2 _ hd;have h3:Prts T l (Q5 T l):=h.perm h1.symm;refine⟨h3,?_⟩;exact h2.imp_of_mem (fun {a b} ha hb hab=>L1 (h3.wf a ha) (h3.ne a ha) (h3.wf b hb) (h3.ne b hb) hab)
end Go.Abs
namespace Go.Abs
def Qw(l:List Prd)(i:Nat):List Iv:=l.flatMap fun p=>p.getD i []
def Wd(l:List Prd)(i:Nat):List Int:=k0u (⟨-1099511627776,1099511627776⟩::Qw l i)
def Yg:List Int→List Iv
 |a::b::r=>⟨a,b - 1⟩::Yg (b::r)
 |_=>[]
def Ih(l:List Prd)(i:Nat)(n:Int):List Bool:=l.map fun p=>Pj (p.getD i []) n
def Uz(p:Prd)(i:Nat)(x:Iv):Prd:=p.set i (p.getD i []++[x])
def Yr(T i:Nat)(sg:List Bool)(x:Iv):List (List Bool×Prd)→List (List Bool×Prd)
 |[]=>[(sg,Uz (yL T []) i x)]
 |(s,p)::r=>if s=sg then(s,Uz p i x)::r else(s,p)::Yr T i sg x r
def K8(T:Nat)(l:List Prd):List (Nat×Iv):=(yO T).flatMap fun i=>(Yg (Wd l i)).map fun x=>(i,x)
def Io(T:Nat)(l:List Prd):List (List Bool×Prd):=(K8 T l).foldl (fun st a=>Yr T a.1 (Ih l a.1 a.2.lo) a.2 st) []
def Rw(p:Prd):Prd:=p.map (Qx [])
def Ee(T:Nat)(l:List Prd):List Prd:=(Io T l).map fun g=>Rw g.2
def j1x(a:Nat×Iv)(t:Nat)(n:Int):Prop:=t=a.1∧a.2.lo≤n∧n≤a.2.hi
structure GInv (T:Nat) (sig:Nat→Int→List Bool) (D:Nat→Int→Prop) (st:List (List Bool×Prd)):Prop where
 len:∀g∈st,g.2.length=T
 asc:∀g∈st,∀s∈g.2,(∀x∈s,x.lo≤x.hi)∧s.Pairwise (fun x y=>x.hi<y.lo)
 mem:∀g∈st,∀t n,PM g.2 t n↔D t n∧sig t n=g.1
 ne:∀g∈st,∃t n,PM g.2 t n
 nd:st.Pairwise (fun g h=>g.1≠h.1)
 all:∀t n,D t n→∃g∈st,g.1=sig t n
 ord:st.Pairwise (fun g h=>∃t n,PM g.2 t n∧∀t' n',PM h.2 t' n'→Ib t n t' n')
theorem Wu{p:Prd}{i:Nat}(h:i<p.length):p.getD i []=p[i]:=by simp[yX,h]
theorem v1v{T:Nat}{p:Prd}(hp:p.length=T){i:Nat}(hi:i<T)(x:Iv)(t:Nat)(n:Int):PM (Uz p i x) t n↔PM p t n∨j1x (i,x) t n:=by
 unfold PM Uz j1x;have z1:i<p.length:=by omega
 rw[Wu z1];by_cases ht:t=i
 ·subst ht;rw[zO z1,zK z1];constructor
  ·rintro⟨s,hs,hm⟩;cases hs;rcases(Z9 ..).1 hm with h|h
   ·exact .inl ⟨_,rfl,h⟩
   ·rcases(Ep ..).1 h with h|h
    ·exact .inr ⟨rfl,h⟩
    ·simp[M]at h
  ·rintro(⟨s,hs,hm⟩|⟨_,h⟩)
   ·cases hs;exact⟨_,rfl,(Z9 ..).2 (.inl hm)⟩
   ·exact⟨_,rfl,(Z9 ..).2 (.inr ((Ep ..).2 (.inl h)))⟩
 ·rw[zE (by omega)];constructor
  ·exact fun h=> .inl h
  ·rintro(h|⟨h,_⟩)
   ·exact h
   ·exact absurd h ht
theorem j0d{T:Nat}{p:Prd}(hp:p.length=T){i:Nat}(hi:i<T){x:Iv}(hx:x.lo≤x.hi)(h:∀s∈p,(∀y∈s,y.lo≤y.hi)∧s.Pairwise (fun y z=>y.hi<z.lo))(z6:∀t n,PM p t n→Ib t n i x.lo):
  ∀s∈Uz p i x,(∀y∈s,y.lo≤y.hi)∧s.Pairwise (fun y z=>y.hi<z.lo):=by
 intro s hs;have z1:i<p.length:=by omega
 rcases List.mem_or_eq_of_mem_set hs with hs|rfl
 ·exact h s hs
 ·rw[Wu z1];obtain⟨h1,h2⟩:=h _ (zL z1);refine⟨fun y hy=> ?_,yF.2 ⟨h2,by simp,fun y hy z hz=> ?_⟩⟩
  ·rcases zW.1 hy with hy|hy
   ·exact h1 y hy
   ·obtain rfl:=zQ.1 hy;exact hx
  ·obtain rfl:=zQ.1 hz;have:=z6 i y.hi ⟨_,zK z1,y,hy,h1 y hy,xN _⟩;unfold Ib at this;omega
theorem O0{T i:Nat}{sg:List Bool}{x:Iv}:∀ {st:List (List Bool×Prd)},(∀g∈st,g.1≠sg)→Yr T i sg x st=st++[(sg,Uz (yL T []) i x)]
 |[],_=>rfl
 |(s,p)::r,h=>by rw[Yr,if_neg (h (s,p) (by simp)),O0 (fun g hg=>h g (by simp[hg]))];rfl
theorem S0{T i:Nat}{sg:List Bool}{x:Iv}:∀ {st:List (List Bool×Prd)},(∃g∈st,g.1=sg)→∃a p b,st=a++(sg,p)::b∧(∀g∈a,g.1≠sg)∧Yr T i sg x st=a++(sg,Uz p i x)::b
 |[],⟨g,hg,_⟩=>by cases hg
 |(s,p)::r,⟨g,hg,he⟩=>by
  by_cases hs:s=sg
  ·subst hs;exact⟨[],p,r,rfl,by simp,by rw[Yr,if_pos rfl];rfl⟩
  ·have z1:g∈r:=by
    rcases yE.1 hg with rfl|hg
    ·exact absurd he hs
    ·exact hg
   obtain⟨a,q,b,h1,h2,h3⟩:=S0 (T:=T) (i:=i) (x:=x) ⟨g,z1,he⟩;refine⟨(s,p)::a,q,b,by rw[h1];rfl,fun g hg=> ?_,by rw[Yr,if_neg hs,h3];rfl⟩;rcases yE.1 hg with rfl|hg
   ·exact hs
   ·exact h2 g hg
theorem Xk(T t:Nat)(n:Int):¬PM (yL T []) t n:=by rintro⟨s,hs,hm⟩;obtain rfl:=vJ (zJ hs);simp[M]at hm
theorem GInv.step{T:Nat}{sig:Nat→Int→List Bool}{D:Nat→Int→Prop}{st:List (List Bool×Prd)}(h:GInv T sig D st){i:Nat}{x:Iv}(hi:i<T)(hx:x.lo≤x.hi)(hc:∀n,x.lo≤n→n≤x.hi→sig i n=sig i x.lo)(hD:∀t n,D t n→∀n',x.lo≤n'→n'≤x.hi→Ib t n i n'):
  GInv T sig (fun t n=>D t n∨j1x (i,x) t n) (Yr T i (sig i x.lo) x st):=by
 have z7:∀t n,j1x (i,x) t n→sig t n=sig i x.lo:=fun t n hp=>by obtain⟨rfl,h1,h2⟩:=hp;exact hc n h1 h2
 have zb:∀t n,D t n→∀t' n',j1x (i,x) t' n'→Ib t n t' n':=fun t n hd t' n' hp=>by obtain⟨rfl,h1,h2⟩:=hp;exact hD t n hd n' h1 h2
 have zc:j1x (i,x) i x.lo:=⟨rfl,xN _,hx⟩
 by_cases hit:∃g∈st,g.1=sig i x.lo
 ·obtain⟨a,p,b,h1,h2,h3⟩:=S0 (T:=T) (i:=i) (x:=x) hit;rw[h3];subst h1;generalize zh:sig i x.lo=s0 at *
  have za:(s0,p)∈a++(s0,p)::b:=by simp
  have zd:=h.mem _ za;have hlen:=h.len _ za;have zf:=h.nd;obtain⟨n1,n2,n3⟩:=yF.1 zf;obtain⟨n4,n5⟩:=yT.1 n2;obtain⟨o1,o2,o3⟩:=yF.1 h.ord;obtain⟨o4,o5⟩:=yT.1 o2;have z1:=fun t n=>v1v hlen hi x t n;have hold:∀g∈a++(s0,Uz p i x)::b,(g∈a++(s0,p)::b∧g.1≠s0)∨g=(s0,Uz p i x):=fun g hg=>by
   rcases zW.1 hg with hg|hg
   ·exact .inl ⟨by simp[hg],h2 g hg⟩
   ·rcases yE.1 hg with rfl|hg
    ·exact .inr rfl
    ·exact .inl ⟨by simp[hg],(n4 g hg).symm⟩
  refine⟨fun g hg=> ?_,fun g hg=> ?_,fun g hg t n=> ?_,fun g hg=> ?_,?_,fun t n hd=> ?_,?_⟩
  ·rcases hold g hg with⟨hg,_⟩|rfl
   ·exact h.len g hg
   ·simp[Uz,hlen]
  ·rcases hold g hg with⟨hg,_⟩|rfl
   ·exact h.asc g hg
   ·exact j0d hlen hi hx (h.asc _ za) (fun t n hm=>hD t n ((zd t n).1 hm).1 x.lo (xN _) hx)
  ·rcases hold g hg with⟨hg,zg⟩|rfl
   ·rw[h.mem g hg t n];constructor
    ·exact fun hh=>⟨.inl hh.1,hh.2⟩
    ·rintro⟨hd|hd,hs⟩
     ·exact⟨hd,hs⟩
     ·exact absurd (by rw[←hs,z7 t n hd]) zg
   ·rw[z1,zd];constructor
    ·rintro(⟨hd,hs⟩|hd)
     ·exact⟨.inl hd,hs⟩
     ·exact⟨.inr hd,z7 t n hd⟩
    ·rintro⟨hd|hd,hs⟩
     ·exact .inl ⟨hd,hs⟩
     ·exact .inr hd
  ·rcases hold g hg with⟨hg,_⟩|rfl
   ·exact h.ne g hg
   ·exact⟨i,x.lo,(z1 i x.lo).2 (.inr zc)⟩
  ·exact yF.2 ⟨n1,yT.2 ⟨fun g hg=>n4 g hg,n5⟩,fun g hg k hk=>by
    rcases yE.1 hk with rfl|hk
    ·exact h2 g hg
    ·exact n3 g hg k (by simp[hk])⟩
  ·rcases hd with hd|hd
   ·obtain⟨g,hg,he⟩:=h.all t n hd;rcases zW.1 hg with hg|hg
    ·exact⟨g,by simp[hg],he⟩
    ·rcases yE.1 hg with rfl|hg
     ·exact⟨(s0,Uz p i x),by simp,he⟩
     ·exact⟨g,by simp[hg],he⟩
   ·exact⟨(s0,Uz p i x),by simp,(z7 t n hd).symm⟩
  ·refine yF.2 ⟨o1,yT.2 ⟨fun g hg=> ?_,o5⟩,fun g hg k hk=> ?_⟩
   ·obtain⟨t,n,e1,e2⟩:=o4 g hg;exact⟨t,n,(z1 t n).2 (.inl e1),e2⟩
   ·rcases yE.1 hk with rfl|hk
    ·obtain⟨t,n,e1,e2⟩:=o3 g hg (s0,p) (by simp);refine⟨t,n,e1,fun t' n' hm=> ?_⟩;rcases(z1 t' n').1 hm with hm|hm
     ·exact e2 t' n' hm
     ·exact zb t n ((h.mem g (by simp[hg]) t n).1 e1).1 t' n' hm
    ·exact o3 g hg k (by simp[hk])
 ·have z8:∀g∈st,g.1≠sig i x.lo:=fun g hg he=>hit ⟨g,hg,he⟩;rw[O0 z8];have ze:(yL T ([]:List Iv)).length=T:=by simp
  have z1:=fun t n=>v1v ze hi x t n;have z6:∀g∈st++[(sig i x.lo,Uz (yL T []) i x)],g∈st∨g=(sig i x.lo,Uz (yL T []) i x):=fun g hg=>by
   rcases zW.1 hg with hg|hg
   ·exact .inl hg
   ·exact .inr (zQ.1 hg)
  refine⟨fun g hg=> ?_,fun g hg=> ?_,fun g hg t n=> ?_,fun g hg=> ?_,?_,fun t n hd=> ?_,?_⟩
  ·rcases z6 g hg with hg|rfl
   ·exact h.len g hg
   ·simp[Uz]
  ·rcases z6 g hg with hg|rfl
   ·exact h.asc g hg
   ·exact j0d ze hi hx (fun s hs=>by obtain rfl:=vJ hs;simp) (fun t n hm=>absurd hm (Xk T t n))
  ·rcases z6 g hg with hg|rfl
   ·rw[h.mem g hg t n];constructor
    ·exact fun hh=>⟨.inl hh.1,hh.2⟩
    ·rintro⟨hd|hd,hs⟩
     ·exact⟨hd,hs⟩
     ·exact absurd (by rw[←hs,z7 t n hd]) (z8 g hg)
   ·rw[z1];constructor
    ·rintro(hm|hd)
     ·exact absurd hm (Xk T t n)
     ·exact⟨.inr hd,z7 t n hd⟩
    ·rintro⟨hd|hd,hs⟩
     ·obtain⟨g,hg,he⟩:=h.all t n hd;exact absurd (he.trans hs) (z8 g hg)
     ·exact .inr hd
  ·rcases z6 g hg with hg|rfl
   ·exact h.ne g hg
   ·exact⟨i,x.lo,(z1 i x.lo).2 (.inr zc)⟩
  ·exact yF.2 ⟨h.nd,by simp,fun g hg k hk=>by obtain rfl:=zQ.1 hk;exact z8 g hg⟩
  ·rcases hd with hd|hd
   ·obtain⟨g,hg,he⟩:=h.all t n hd;exact⟨g,by simp[hg],he⟩
   ·exact⟨(sig i x.lo,Uz (yL T []) i x),by simp,(z7 t n hd).symm⟩
  ·refine yF.2 ⟨h.ord,by simp,fun g hg k hk=> ?_⟩;obtain rfl:=zQ.1 hk;obtain⟨t,n,e1⟩:=h.ne g hg;refine⟨t,n,e1,fun t' n' hm=> ?_⟩;rcases(z1 t' n').1 hm with hm|hm
   ·exact absurd hm (Xk T t' n')
   ·exact zb t n ((h.mem g hg t n).1 e1).1 t' n' hm
end Go.Abs
namespace Go.Abs
theorem A6:∀(cs:List Int),cs.Pairwise (·<·)→∀x∈Yg cs,x.lo≤x.hi∧x.lo∈cs∧x.hi+1∈cs∧∀d∈cs,d≤x.hi→d≤x.lo
 |[],_,x,hx=>by simp[Yg]at hx
 |[a],_,x,hx=>by simp[Yg]at hx
 |a::b::r,h,x,hx=>by
  obtain⟨h1,h2⟩:=yT.1 h;rw[Yg]at hx;rcases yE.1 hx with rfl|hx
  ·have z1:=h1 b (by simp);refine⟨by simp only;omega,by simp,by simp,fun d hd hle=> ?_⟩;simp only at hle ⊢;rcases yE.1 hd with rfl|hd
   ·omega
   ·have:b≤d:=by
     rcases yE.1 hd with rfl|hd
     ·omega
     ·have:=(yT.1 h2).1 d hd;omega
    omega
  ·obtain⟨k1,k2,k3,k4⟩:=A6 (b::r) h2 x hx;refine⟨k1,by simp only[yE]at k2 ⊢;exact .inr k2,by simp only[yE]at k3 ⊢;exact .inr k3,fun d hd hle=> ?_⟩;rcases yE.1 hd with rfl|hd
   ·have:=h1 x.lo k2;omega
   ·exact k4 d hd hle
theorem w0v:∀(cs:List Int),cs.Pairwise (·<·)→(Yg cs).Pairwise (fun x y=>x.hi<y.lo)
 |[],_=>by simp[Yg]
 |[a],_=>by simp[Yg]
 |a::b::r,h=>by
  obtain⟨h1,h2⟩:=yT.1 h;rw[Yg];refine yT.2 ⟨fun y hy=> ?_,w0v (b::r) h2⟩;obtain⟨_,k2,_,_⟩:=A6 (b::r) h2 y hy;have:b≤y.lo:=by
   rcases yE.1 k2 with e|k2
   ·omega
   ·have:=(yT.1 h2).1 y.lo k2;omega
  simp only;omega
theorem Lf:∀(cs:List Int),cs.Pairwise (·<·)→∀n,(∃a∈cs,a≤n)→(∃b∈cs,n<b)→∃x∈Yg cs,x.lo≤n∧n≤x.hi
 |[],_,n,⟨a,ha,_⟩,_=>by cases ha
 |[a],_,n,⟨c,hc,h1⟩,⟨d,hd,h2⟩=>by obtain rfl:=zQ.1 hc;obtain rfl:=zQ.1 hd;omega
 |a::b::r,h,n,⟨c,hc,h1⟩,⟨d,hd,h2⟩=>by
  obtain⟨p1,p2⟩:=yT.1 h;rw[Yg];have z1:a≤n:=by
   rcases yE.1 hc with rfl|hc
   ·exact h1
   ·have:=p1 c hc;omega
  by_cases hb:n<b
  ·exact⟨⟨a,b - 1⟩,by simp,z1,by simp only;omega⟩
  ·have z6:d∈b::r:=by
    rcases yE.1 hd with rfl|hd
    ·omega
    ·exact hd
   obtain⟨x,hx,e⟩:=Lf (b::r) p2 n ⟨b,by simp,by omega⟩ ⟨d,z6,h2⟩;exact⟨x,by simp[hx],e⟩
theorem Tr{l:List Prd}{i:Nat}{x:Iv}:x∈Qw l i↔∃p∈l,x∈p.getD i []:=by simp[Qw]
theorem w12{T:Nat}{p:Prd}(hp:PCk T p)(i:Nat):CanonL (p.getD i []):=by
 by_cases hi:i<p.length
 ·rw[Wu hi];exact hp.2 _ (zL hi)
 ·have:p.getD i []=[]:=by simp[yX,List.getElem?_eq_none (by omega:p.length≤i)]
  rw[this];exact Aq
theorem Yl{T:Nat}{l:List Prd}(hl:∀p∈l,PCk T p)(i:Nat):(Wd l i).Pairwise (·<·)∧(-1099511627776:Int)∈Wd l i∧(1099511627777:Int)∈Wd l i∧
  (∀z∈Wd l i,-1099511627776≤z∧z≤1099511627777)∧∀p∈l,∀x∈p.getD i [],x.lo∈Wd l i∧x.hi+1∈Wd l i:=by
 obtain⟨h1,h2⟩:=k0q (⟨-1099511627776,1099511627776⟩::Qw l i);refine⟨h1,(h2 _).2 ⟨⟨-1099511627776,1099511627776⟩,by simp,.inl rfl⟩,(h2 _).2 ⟨⟨-1099511627776,1099511627776⟩,by simp,.inr (by simp)⟩,fun z hz=> ?_,fun p hp x hx=>⟨(h2 _).2 ⟨x,?_,.inl rfl⟩,(h2 _).2 ⟨x,?_,.inr rfl⟩⟩⟩
 ·obtain⟨x,hx,e⟩:=(h2 z).1 hz;rcases yE.1 hx with rfl|hx
  ·simp only at e;omega
  ·obtain⟨p,hp,hx⟩:=Tr.1 hx;have hc:=w12 (hl p hp) i;have h3:=Zl hc x hx;have h4:=(W8 _).1 h3.1;have h5:=(W8 _).1 h3.2;have:=(Gj hc).1 x hx;omega
 ·exact tf _ (Tr.2 ⟨p,hp,hx⟩)
 ·exact tf _ (Tr.2 ⟨p,hp,hx⟩)
theorem c0k{T:Nat}{l:List Prd}(hl:∀p∈l,PCk T p)(i:Nat){x:Iv}(hx:x∈Yg (Wd l i))(n:Int)(h1:x.lo≤n)(h2:n≤x.hi):Ih l i n=Ih l i x.lo:=by obtain⟨c1,_,_,_,c5⟩:=Yl hl i;obtain⟨_,_,_,k4⟩:=A6 _ c1 x hx;unfold Ih;apply xX;intro p hp;exact f0v _ (Wd l i) (c5 p hp) x.lo n h1 (fun d hd hle=>k4 d hd (by omega))
theorem V9{T:Nat}{p:Prd}(hp:p.length=T){t:Nat}(ht:t<T)(n:Int):Pj (p.getD t []) n=true↔PM p t n:=by
 have z1:t<p.length:=by omega
 rw[Wu z1,Nq];unfold PM;rw[zK z1];simp
theorem u1e{T:Nat}{l:List Prd}(hl:∀p∈l,PCk T p){t t':Nat}(ht:t<T)(z1:t'<T)(n n':Int):Ih l t n=Ih l t' n'↔q20 l t n t' n':=by
 unfold Ih q20;constructor
 ·intro h p hp;have:=(List.map_inj_left.1 h) p hp;rw[←V9 (hl p hp).1 ht,←V9 (hl p hp).1 z1,this]
 ·intro h;apply xX;intro p hp;have:=h p hp;rw[←V9 (hl p hp).1 ht,←V9 (hl p hp).1 z1]at this;exact wt.2 this
theorem GInv.congr{T:Nat}{sig:Nat→Int→List Bool}{D D':Nat→Int→Prop}{st:List (List Bool×Prd)}(h:GInv T sig D st)(e:∀t n,D t n↔D' t n):GInv T sig D' st:=by have:D=D':=funext fun t=>funext fun n=>propext (e t n);rw[←this];exact h
theorem Vy{T:Nat}{sig:Nat→Int→List Bool}:∀(A:List (Nat×Iv)) (D:Nat→Int→Prop) (st:List (List Bool×Prd)),GInv T sig D st→(∀a∈A,a.1<T∧a.2.lo≤a.2.hi∧∀n,a.2.lo≤n→n≤a.2.hi→sig a.1 n=sig a.1 a.2.lo)→
  (∀t n,D t n→∀a∈A,∀n',a.2.lo≤n'→n'≤a.2.hi→Ib t n a.1 n')→A.Pairwise (fun a b=>∀n n',a.2.lo≤n→n≤a.2.hi→b.2.lo≤n'→n'≤b.2.hi→Ib a.1 n b.1 n')→
  GInv T sig (fun t n=>D t n∨∃a∈A,j1x a t n) (A.foldl (fun st a=>Yr T a.1 (sig a.1 a.2.lo) a.2 st) st)
 |[],D,st,h,_,_,_=>h.congr (fun t n=>by simp)
 |a::A,D,st,h,h1,h2,h3=>by
  obtain⟨i,x⟩:=a;obtain⟨e1,e2,e3⟩:=h1 (i,x) (by simp);obtain⟨p1,p2⟩:=yT.1 h3;have hs:=h.step e1 e2 e3 (fun t n hd n' q1 q2=>h2 t n hd (i,x) (by simp) n' q1 q2);rw[xY];refine(Vy A _ _ hs (fun b hb=>h1 b (by simp[hb])) (fun t n hd b hb n' q1 q2=> ?_) p2).congr (fun t n=> ?_)
  ·rcases hd with hd|hd
   ·exact h2 t n hd b (by simp[hb]) n' q1 q2
   ·obtain⟨rfl,d1,d2⟩:=hd;exact p1 b hb n n' d1 d2 q1 q2
  ·simp[or_assoc]
theorem Hy{T:Nat}{l:List Prd}{a:Nat×Iv}:a∈K8 T l↔a.1<T∧a.2∈Yg (Wd l a.1):=by
 unfold K8;rw[wU];constructor
 ·rintro⟨i,hi,h⟩;obtain⟨x,hx,rfl⟩:=zT.1 h;exact⟨y_.1 hi,hx⟩
 ·rintro⟨h1,h2⟩;exact⟨a.1,y_.2 h1,zT.2 ⟨a.2,h2,rfl⟩⟩
theorem q1k{T:Nat}{l:List Prd}(hl:∀p∈l,PCk T p):(K8 T l).Pairwise (fun a b=>∀n n',a.2.lo≤n→n≤a.2.hi→b.2.lo≤n'→n'≤b.2.hi→Ib a.1 n b.1 n'):=by
 unfold K8;rw[ud];refine⟨fun i _=> ?_,?_⟩
 ·rw[wP];refine(w0v _ (Yl hl i).1).imp (fun {x y} h n n' h1 h2 h3 h4=> .inr ⟨rfl,by simp only at h2 h3;omega⟩)
 ·refine List.pairwise_lt_range.imp (fun {i j} h a ha b hb n n' _ _ _ _=> ?_);obtain⟨x,_,rfl⟩:=zT.1 ha;obtain⟨y,_,rfl⟩:=zT.1 hb;exact .inl h
theorem f05{T:Nat}{l:List Prd}(hl:∀p∈l,PCk T p):GInv T (Ih l) (fun t n=>t<T∧inR n) (Io T l):=by
 have h0:GInv T (Ih l) (fun _ _=>False) []:=⟨by simp,by simp,by simp,by simp,by simp,fun _ _ h=>h.elim,by simp⟩
 refine(Vy (K8 T l) _ [] h0 (fun a ha=> ?_) (fun _ _ h=>h.elim) (q1k hl)).congr (fun t n=> ?_)
 ·obtain⟨h1,h2⟩:=Hy.1 ha;exact⟨h1,(A6 _ (Yl hl a.1).1 _ h2).1,fun n q1 q2=>c0k hl a.1 h2 n q1 q2⟩
 ·obtain⟨c1,c2,c3,c4,c5⟩:=Yl hl t;constructor
  ·rintro(h|⟨a,ha,rfl,h1,h2⟩)
   ·exact h.elim
   ·obtain⟨q1,q2⟩:=Hy.1 ha;obtain⟨s1,s2,s3,s4⟩:=A6 _ c1 _ q2;have:=c4 _ s2;have:=c4 _ s3;exact⟨q1,by unfold inR;omega⟩
  ·rintro⟨h1,h2⟩;unfold inR at h2;obtain⟨x,hx,e1,e2⟩:=Lf _ c1 n ⟨_,c2,h2.1⟩ ⟨_,c3,by omega⟩;exact .inr ⟨(t,x),Hy.2 ⟨h1,hx⟩,rfl,e1,e2⟩
theorem O1{s:List Iv}(h:(∀x∈s,x.lo≤x.hi)∧s.Pairwise (fun x y=>x.hi<y.lo)):Sep (Qx [] s)∧∀n,M (Qx [] s) n↔M s n:=by have hb:X0 s:=h.2.imp_of_mem (fun {x y} hx hy hxy=>by have:=h.1 x hx;omega);have:=Dh s [] Ls hb h.1 (by simp);refine⟨this.1,fun n=> ?_⟩;rw[this.2 n];simp[M]
theorem Zx{T:Nat}{p:Prd}(h:∀s∈p,(∀x∈s,x.lo≤x.hi)∧s.Pairwise (fun x y=>x.hi<y.lo))(t:Nat)(n:Int):PM (Rw p) t n↔PM p t n:=by
 unfold PM Rw;rw[zY];constructor
 ·rintro⟨s,hs,hm⟩;obtain⟨a,ha,rfl⟩:=zV.1 hs;exact⟨a,ha,((O1 (h a (zJ ha))).2 n).1 hm⟩
 ·rintro⟨a,ha,hm⟩;exact⟨Qx [] a,by rw[ha];rfl,((O1 (h a (zJ ha))).2 n).2 hm⟩
theorem Az{T:Nat}{l:List Prd}(hl:∀p∈l,PCk T p):Prts T l (Ee T l)∧(Ee T l).Pairwise v0z:=by
 have h:=f05 hl;have z1:∀g∈Io T l,∀t n,PM (Rw g.2) t n↔(t<T∧inR n)∧Ih l t n=g.1:=fun g hg t n=>by rw[Zx (T:=T) (h.asc g hg),h.mem g hg]
 have z6:∀p∈Ee T l,∃g∈Io T l,p=Rw g.2:=fun p hp=>by obtain⟨g,hg,rfl⟩:=zT.1 hp;exact⟨g,hg,rfl⟩
 refine⟨⟨fun p hp=> ?_,fun p hp=> ?_,fun t n ht hn=> ?_,fun p hp t n hm t' n'=> ?_⟩,?_⟩
 ·obtain⟨g,hg,rfl⟩:=z6 p hp;refine⟨by simp[Rw,h.len g hg],fun s hs=> ?_⟩;obtain⟨i,hi⟩:=yJ.1 hs;have z7:=hs;obtain⟨a,ha,rfl⟩:=zT.1 hs;exact⟨(O1 (h.asc g hg a ha)).1,fun n hn=>((z1 g hg i n).1 ⟨_,hi,hn⟩).1.2⟩
 ·obtain⟨g,hg,rfl⟩:=z6 p hp;obtain⟨t,n,hm⟩:=h.ne g hg;exact⟨t,n,(Zx (T:=T) (h.asc g hg) t n).2 hm⟩
 ·obtain⟨g,hg,he⟩:=h.all t n ⟨ht,hn⟩;exact⟨Rw g.2,zT.2 ⟨g,hg,rfl⟩,(z1 g hg t n).2 ⟨⟨ht,hn⟩,he.symm⟩⟩
 ·obtain⟨g,hg,rfl⟩:=z6 p hp;obtain⟨⟨q1,q2⟩,q3⟩:=(z1 g hg t n).1 hm;rw[z1 g hg];constructor
  ·rintro⟨⟨h1,h2⟩,h3⟩;exact⟨h1,h2,(u1e hl q1 h1 n n').1 (q3.trans h3.symm)⟩
  ·rintro⟨h1,h2,h3⟩;exact⟨⟨h1,h2⟩,((u1e hl q1 h1 n n').2 h3).symm.trans q3⟩
 ·unfold Ee;rw[wP];refine h.ord.imp_of_mem (fun {a b} ha hb hab=> ?_);obtain⟨t,n,e1,e2⟩:=hab;exact⟨t,n,(Zx (T:=T) (h.asc a ha) t n).2 e1,fun t' n' hm=>e2 t' n' ((Zx (T:=T) (h.asc b hb) t' n').1 hm)⟩
theorem Sr{T:Nat}(hT:0<T){l:List Prd}(hl:∀p∈l,PCk T p):Ee T l=Q5 T l:=by obtain⟨a1,a2⟩:=Az hl;obtain⟨b1,b2⟩:=U5 hT hl;exact a1.unique b1 a2 b2
end Go.Abs
namespace Go.Abs
structure Sy where
 ty:Int
 num:Int
deriving Inhabited,DecidableEq
structure Mv where
 src:Int
 dst:Int
 on:Prd
deriving Inhabited
structure Aut where
 types:Int
 fin:List Bool
 mv:List Mv
deriving Inhabited
def U0:Aut:=⟨0,[],[]⟩
def x02:List (List Iv)→Int
 |[]=>0
 |s::r=>if ckR s≠0 then ckR s else x02 r
def E5(T:Int)(p:Prd):Int:=if T<1∨16<T then 2 else if(p.length:Int)≠T then 15 else x02 p
def v0y(T:Int)(n:Nat):List Mv→Int
 |[]=>0
 |m::r=>if ¬((0≤m.src∧m.src<n)∧(0≤m.dst∧m.dst<n))then 2 else if E5 T m.on≠0 then E5 T m.on else v0y T n r
def Wx(a:Aut):Int:=if a.types<1∨16<a.types then 2 else if a.fin.length<1∨256<a.fin.length∨2048<a.mv.length then 5 else v0y a.types a.fin.length a.mv
theorem q01:∀(p:List (List Iv)),x02 p=0↔∀s∈p,CanonL s
 |[]=>by simp[x02]
 |s::r=>by
  rw[x02];by_cases h:ckR s=0
  ·rw[if_neg (fun k=>k h),q01 r];simp[(Bp s).1 h]
  ·rw[if_pos h];refine⟨fun k=>absurd k h,fun k=>absurd ((Bp s).2 (k s (by simp))) h⟩
theorem Ec(T:Int)(p:Prd):E5 T p=0↔(1≤T∧T≤16)∧PCk T.toNat p:=by
 unfold E5 PCk;by_cases h1:T<1∨16<T
 ·rw[if_pos h1];exact⟨fun h=>by omega,fun h=>by omega⟩
 ·rw[if_neg h1];by_cases h2:(p.length:Int)≠T
  ·rw[if_pos h2];exact⟨fun h=>by omega,fun h=>by omega⟩
  ·rw[if_neg h2,q01];exact⟨fun h=>⟨by omega,by omega,h⟩,fun h=>h.2.2⟩
structure OkMv (T:Nat) (n:Nat) (m:Mv):Prop where
 src:0≤m.src∧m.src<n
 dst:0≤m.dst∧m.dst<n
 on:PCk T m.on
structure OkA (a:Aut):Prop where
 types:1≤a.types∧a.types≤16
 fin:1≤a.fin.length∧a.fin.length≤256
 mvs:a.mv.length≤2048
 mv:∀m∈a.mv,OkMv a.types.toNat a.fin.length m
theorem w0d{T:Int}(hT:1≤T∧T≤16)(n:Nat):∀(l:List Mv),v0y T n l=0↔∀m∈l,OkMv T.toNat n m
 |[]=>by simp[v0y]
 |m::r=>by
  rw[v0y];by_cases h1:(0≤m.src∧m.src<n)∧(0≤m.dst∧m.dst<n)
  ·rw[if_neg (fun k=>k h1)];by_cases h2:E5 T m.on=0
   ·rw[if_neg (fun k=>k h2),w0d hT n r];have h3:=((Ec T m.on).1 h2).2;constructor
    ·intro h x hx;rcases yE.1 hx with rfl|hx
     ·exact⟨h1.1,h1.2,h3⟩
     ·exact h x hx
    ·exact fun h x hx=>h x (by simp[hx])
   ·rw[if_pos h2];exact⟨fun h=>absurd h h2,fun h=>absurd ((Ec T m.on).2 ⟨hT,(h m (by simp)).on⟩) h2⟩
  ·rw[if_pos h1];exact⟨fun h=>(by cases h),fun h=>absurd ⟨(h m (by simp)).src,(h m (by simp)).dst⟩ h1⟩
theorem A8(a:Aut):Wx a=0↔OkA a:=by
 unfold Wx;by_cases h1:a.types<1∨16<a.types
 ·rw[if_pos h1];exact⟨fun h=>(by cases h),fun h=>by have:=h.types;omega⟩
 ·rw[if_neg h1];by_cases h2:a.fin.length<1∨256<a.fin.length∨2048<a.mv.length
  ·rw[if_pos h2];exact⟨fun h=>(by cases h),fun h=>by have:=h.fin;have:=h.mvs;omega⟩
  ·rw[if_neg h2,w0d (by omega)];exact⟨fun h=>⟨by omega,by omega,by omega,h⟩,fun h=>h.mv⟩
def R7(p:Prd)(x:Sy):Bool:=decide (0≤x.ty) && decide (x.ty<p.length) && Pj (p.getD x.ty.toNat []) x.num
def P6(T:Int)(x:Sy):Int:=if x.ty<0∨T≤x.ty then 6 else if x.num< -1099511627776∨1099511627776<x.num then 2 else 0
theorem Fp(T:Int)(x:Sy):P6 T x=0↔(0≤x.ty∧x.ty<T)∧inR x.num:=by
 unfold P6 inR;split
 ·constructor
  ·intro h;cases h
  ·intro h;omega
 ·split
  ·constructor
   ·intro h;cases h
   ·intro h;omega
  ·constructor
   ·intro _;omega
   ·intro _;rfl
theorem Tk{T:Nat}{p:Prd}(hp:p.length=T)(x:Sy)(hx:0≤x.ty):R7 p x=true↔PM p x.ty.toNat x.num:=by
 unfold R7;by_cases h:x.ty<p.length
 ·have h1:x.ty.toNat<T:=by omega
  rw[←V9 hp h1];simp[h,hx]
 ·have:¬PM p x.ty.toNat x.num:=by rintro⟨s,hs,_⟩;have:=(zB.1 hs).1;omega
  simp[h,this]
def Ey(n:Nat):List Int:=(yO n).map fun i:Nat=>(i:Int)
theorem Ew{n:Nat}{z:Int}:z∈Ey n↔0≤z∧z<n:=by
 unfold Ey;rw[zT];constructor
 ·rintro⟨i,hi,rfl⟩;have:=y_.1 hi;omega
 ·rintro⟨h1,h2⟩;exact⟨z.toNat,y_.2 (by omega),by omega⟩
theorem Hp(n:Nat):(Ey n).Pairwise (·<·):=by unfold Ey;rw[wP];exact List.pairwise_lt_range.imp (fun h=>by omega)
def q2l(a:Aut)(l:List Int)(x:Sy)(j:Int):Bool:=a.mv.any fun m=>l.contains m.src && R7 m.on x && decide (m.dst=j)
def Wh(a:Aut)(l:List Int)(x:Sy):List Int:=(Ey a.fin.length).filter (q2l a l x)
def j15(a:Aut)(l:List Int)(x:Sy):List Int:=Go.Lib.compact (Tj ((a.mv.filter fun m=>l.contains m.src && R7 m.on x).map (·.dst)))
theorem z1x(zs:List Int):(Tj zs).Pairwise (·≤·):=by have:=uR (le:=fun x y:Int=>decide (x≤y)) (fun a b c h1 h2=>by simp at h1 h2 ⊢;omega) (fun a b=>by simp;omega) zs;simpa[Tj]using this
theorem Bn(zs:List Int):(Go.Lib.compact (Tj zs)).Pairwise (·<·)∧∀z,z∈Go.Lib.compact (Tj zs)↔z∈zs:=by have h:=Vu _ (z1x zs) _ (zP _);refine⟨h.1,fun z=> ?_⟩;have h2:=h.2 z;rw[yW]at h2;rw[Go.Lib.compact,h2,Tj,tr]
theorem Uf{a b:List Int}(ha:a.Pairwise (·<·))(hb:b.Pairwise (·<·))(h:∀z,z∈a↔z∈b):a=b:=by have hn:∀ {l:List Int},l.Pairwise (·<·)→l.Nodup:=fun hl=>hl.imp (fun h e=>by omega);exact List.Perm.eq_of_pairwise (le:=(·<·)) (fun a b _ _ h1 h2=>by omega) ha hb ((uH (hn ha) (hn hb)).2 h)
theorem U1(a:Aut)(l:List Int)(x:Sy):(Wh a l x).Pairwise (·<·):=(Hp _).filter _
theorem E7{a:Aut}{l:List Int}{x:Sy}{j:Int}:j∈Wh a l x↔(0≤j∧j<a.fin.length)∧∃m∈a.mv,m.src∈l∧R7 m.on x=true∧m.dst=j:=by unfold Wh q2l;rw[xW,Ew,vz];simp[and_assoc]
theorem k1y{a:Aut}(h:∀m∈a.mv,0≤m.dst∧m.dst<a.fin.length)(l:List Int)(x:Sy):j15 a l x=Wh a l x:=by
 obtain⟨h1,h2⟩:=Bn ((a.mv.filter fun m=>l.contains m.src && R7 m.on x).map (·.dst));refine Uf h1 (U1 a l x) fun z=> ?_;rw[j15,h2,E7];constructor
 ·intro hz;obtain⟨m,hm,rfl⟩:=zT.1 hz;obtain⟨hm,hc⟩:=xW.1 hm;simp at hc;exact⟨h m hm,m,hm,hc.1,hc.2,rfl⟩
 ·rintro⟨_,m,hm,c1,c2,rfl⟩;exact zT.2 ⟨m,xW.2 ⟨hm,by simp[c1,c2]⟩,rfl⟩
theorem Ae{a:Aut}{l:List Int}{x:Sy}:∀j∈Wh a l x,0≤j∧j<a.fin.length:=fun j hj=>(E7.1 hj).1
def Qp(p:Prd):Sy:=⟨(Qy p 0).1,(Qy p 0).2⟩
def Jk(Q:List (List Int))(x:List Int):List (List Int):=if x=[]∨x∈Q then Q else Q++[x]
def Ea(Q:List (List Int))(xs:List (List Int)):List (List Int):=xs.foldl Jk Q
def Tu(a:Aut)(cl:List Prd)(l:List Int):List (List Int):=cl.map fun c=>Wh a l (Qp c)
def x0e(a:Aut)(cl:List Prd):Nat→Nat→List (List Int)→Option (List (List Int))
 |0,_,_=>none
 |f+1,i,Q=>match Q[i]? with
  |some l=>if 256<(Ea Q (Tu a cl l)).length then none else x0e a cl f (i+1) (Ea Q (Tu a cl l))
  |none=>some Q
theorem w1o(Q:List (List Int))(x:List Int):∃R,Jk Q x=Q++R∧∀y∈R,y=x∧x≠[]:=by
 unfold Jk;split
 ·exact⟨[],by simp,by simp⟩
 ·rename_i h;exact⟨[x],rfl,fun y hy=>⟨zQ.1 hy,fun e=>h (.inl e)⟩⟩
theorem Ud:∀(xs:List (List Int)) (Q:List (List Int)),∃R,Ea Q xs=Q++R∧∀y∈R,y∈xs∧y≠[]
 |[],Q=>⟨[],by simp[Ea],by simp⟩
 |x::xs,Q=>by
  obtain⟨R1,h1,h2⟩:=w1o Q x;obtain⟨R2,h3,h4⟩:=Ud xs (Jk Q x);refine⟨R1++R2,?_,fun y hy=> ?_⟩
  ·show Ea (Jk Q x) xs=_;rw[h3,h1,List.append_assoc]
  ·rcases zW.1 hy with hy|hy
   ·obtain⟨rfl,hn⟩:=h2 y hy;exact⟨by simp,hn⟩
   ·exact⟨by simp[(h4 y hy).1],(h4 y hy).2⟩
theorem x0n(Q xs:List (List Int)):Q.length≤(Ea Q xs).length:=by obtain⟨R,h,_⟩:=Ud xs Q;rw[h];simp
theorem z1t{Q:List (List Int)}{x:List Int}(hx:x≠[]):x∈Jk Q x:=by
 unfold Jk;split
 ·rename_i h;rcases h with h|h
  ·exact absurd h hx
  ·exact h
 ·simp
theorem J8:∀ {xs:List (List Int)} {Q:List (List Int)} {x:List Int},x∈xs→x≠[]→x∈Ea Q xs
 |[],_,_,h,_=>by cases h
 |y::xs,Q,x,h,hn=>by
  show x∈Ea (Jk Q y) xs;rcases yE.1 h with rfl|h
  ·obtain⟨R,e,_⟩:=Ud xs (Jk Q x);rw[e];exact xA _ (z1t hn)
  ·exact J8 h hn
def u1c(Q:List (List Int)):List (List Int)→Option (List (List Int))
 |[]=>some Q
 |x::xs=>if 256<(Jk Q x).length then none else u1c (Jk Q x) xs
end Go.Abs
namespace Go.Abs
def R5(p q:Prd):Prd:=tS (fun a b=>Ej (a++b)) p q
theorem Aw{T:Nat}{p q:Prd}(hp:PWf T p)(hq:PWf T q)(t:Nat)(n:Int):PM (R5 p q) t n↔PM p t n∨PM q t n:=by
 have hf:∀ {a b:List Iv},a∈p→b∈q→∀x∈a++b,x.lo≤x.hi:=fun ha hb x hx=>by
  rcases zW.1 hx with hx|hx
  ·exact(hp.2 _ ha).1.1 x hx
  ·exact(hq.2 _ hb).1.1 x hx
 unfold PM R5;rw[vA];constructor
 ·rintro⟨s,hs,hm⟩;cases h1:p[t]? with
  |none=>rw[h1]at hs;simp at hs
  |some a=>
   cases h2:q[t]? with
   |none=>rw[h1,h2]at hs;simp at hs
   |some b=>
    rw[h1,h2]at hs;simp at hs;subst hs;have:=((Ux _ (hf (zJ h1) (zJ h2))).2 n).1 hm;rcases(Z9 ..).1 this with h|h
    ·exact .inl ⟨a,rfl,h⟩
    ·exact .inr ⟨b,rfl,h⟩
 ·intro h;have z1:t<T:=by
   rcases h with⟨s,hs,_⟩|⟨s,hs,_⟩
   ·rw[←hp.1];exact(zB.1 hs).1
   ·rw[←hq.1];exact(zB.1 hs).1
  have h1:t<p.length:=by rw[hp.1];exact z1
  have h2:t<q.length:=by rw[hq.1];exact z1
  rw[zK h1,zK h2]at h ⊢;refine⟨_,rfl,((Ux _ (hf (zL h1) (zL h2))).2 n).2 ((Z9 ..).2 ?_)⟩;rcases h with⟨s,hs,hm⟩|⟨s,hs,hm⟩
  ·cases hs;exact .inl hm
  ·cases hs;exact .inr hm
theorem Hu{T:Nat}{p q:Prd}(hp:PWf T p)(hq:PWf T q):PWf T (R5 p q):=by
 refine⟨by simp[R5,hp.1,hq.1],fun s hs=> ?_⟩;obtain⟨i,hi⟩:=yJ.1 hs;have z1:=hi;unfold R5 at hi;rw[vA]at hi;cases h1:p[i]? with
 |none=>rw[h1]at hi;simp at hi
 |some a=>
  cases h2:q[i]? with
  |none=>rw[h1,h2]at hi;simp at hi
  |some b=>
   rw[h1,h2]at hi;simp at hi;subst hi;refine⟨(Ux _ fun x hx=> ?_).1,fun n hn=> ?_⟩
   ·rcases zW.1 hx with hx|hx
    ·exact(hp.2 _ (zJ h1)).1.1 x hx
    ·exact(hq.2 _ (zJ h2)).1.1 x hx
   ·rcases(Aw hp hq i n).1 ⟨_,z1,hn⟩with h|h
    ·exact(hp.lt h).2
    ·exact(hq.lt h).2
def u0l(Q:List (List Int))(x:List Int):Option Nat:=Q.findIdx? fun y=>decide (y=x)
theorem Gv{Q:List (List Int)}{x:List Int}{t:Nat}(h:u0l Q x=some t):Q[t]? =some x:=by unfold u0l at h;obtain⟨h1,h2,_⟩:=xG.1 h;rw[zK h1];simpa using h2
theorem j0f{Q:List (List Int)}(hn:Q.Nodup){t:Nat}{x:List Int}(h:Q[t]? =some x):u0l Q x=some t:=by
 unfold u0l;obtain⟨h1,h2⟩:=zB.1 h;refine xG.2 ⟨h1,by simpa using h2,fun j hj=> ?_⟩;have z1:Q[j]≠Q[t]:=fun e=>by have:=(vT hn).1 e;omega
 rw[h2]at z1;simpa using z1
def Yb(n:Nat)(g:List Mv)(to:Nat)(c:Prd):List Mv:=match g.findIdx? fun m:Mv=>decide (m.dst=(to:Int))with
 |none=>g++[⟨n,to,c⟩]
 |some i=>match g[i]? with
  |some m=>g.set i { m with on:=R5 m.on c }
  |none=>g
def Vj(a:Aut)(cl:List Prd)(Q:List (List Int))(n:Nat)(l:List Int):List Mv:=
 cl.foldl (fun g c=>match u0l Q (Wh a l (Qp c))with|some t=>Yb n g t c|none=>g) []
def Mb(a:Aut)(cl:List Prd)(Q:List (List Int)):List Mv:=(yO Q.length).flatMap fun n=>Vj a cl Q n (Q.getD n [])
def H7(a:Aut)(l:List Int):Bool:=l.any fun s=>a.fin.getD s.toNat false
def Um(a:Aut)(cl:List Prd)(Q:List (List Int)):Aut:=⟨a.types,Q.map (H7 a),Mb a cl Q⟩
structure MInv (T N n:Nat) (D:Nat→Nat→Int→Prop) (g:List Mv):Prop where
 wf:∀m∈g,PWf T m.on
 src:∀m∈g,m.src=n
 dst:∀m∈g,∃t:Nat,t<N∧m.dst=t
 nd:g.Pairwise (fun m k=>m.dst≠k.dst)
 mem:∀m∈g,∀t:Nat,m.dst=t→∀ty y,PM m.on ty y↔D t ty y
 all:∀t ty y,D t ty y→∃m∈g,m.dst=(t:Int)
theorem MInv.add{T N n:Nat}{D:Nat→Nat→Int→Prop}{g:List Mv}(h:MInv T N n D g){to:Nat}(ht:to<N){c:Prd}(hc:PWf T c)(zh:∃ty y,PM c ty y):
  MInv T N n (fun t ty y=>D t ty y∨(t=to∧PM c ty y)) (Yb n g to c):=by
 unfold Yb;cases hf:g.findIdx? fun m:Mv=>decide (m.dst=(to:Int))with
 |none=>
  rw[List.findIdx?_eq_none_iff]at hf;have z7:∀m∈g,m.dst≠(to:Int):=fun m hm=>by simpa using hf m hm
  show MInv T N n _ (g++[⟨n,to,c⟩]);have z1:∀m∈g++[(⟨n,to,c⟩:Mv)],m∈g∨m=⟨n,to,c⟩:=fun m hm=>by
   rcases zW.1 hm with hm|hm
   ·exact .inl hm
   ·exact .inr (zQ.1 hm)
  have hD:∀ty y,¬D to ty y:=fun ty y hd=>by obtain⟨m,hm,e⟩:=h.all to ty y hd;exact z7 m hm e
  refine⟨fun m hm=> ?_,fun m hm=> ?_,fun m hm=> ?_,?_,fun m hm t e ty y=> ?_,fun t ty y hd=> ?_⟩
  ·rcases z1 m hm with hm|rfl
   ·exact h.wf m hm
   ·exact hc
  ·rcases z1 m hm with hm|rfl
   ·exact h.src m hm
   ·rfl
  ·rcases z1 m hm with hm|rfl
   ·exact h.dst m hm
   ·exact⟨to,ht,rfl⟩
  ·exact yF.2 ⟨h.nd,by simp,fun m hm k hk=>by obtain rfl:=zQ.1 hk;exact z7 m hm⟩
  ·rcases z1 m hm with hm'|rfl
   ·rw[h.mem m hm' t e];constructor
    ·exact fun hd=> .inl hd
    ·rintro(hd|⟨e2,_⟩)
     ·exact hd
     ·exact absurd (by rw[e,e2]) (z7 m hm')
   ·have:t=to:=by simp at e;omega
    subst this;constructor
    ·exact fun hd=> .inr ⟨rfl,hd⟩
    ·rintro(hd|⟨_,hd⟩)
     ·exact absurd hd (hD ty y)
     ·exact hd
  ·rcases hd with hd|⟨rfl,_⟩
   ·obtain⟨m,hm,e⟩:=h.all t ty y hd;exact⟨m,by simp[hm],e⟩
   ·exact⟨⟨n,t,c⟩,by simp,rfl⟩
 |some i=>
  obtain⟨hi,zf,_⟩:=xG.1 hf;simp only[zK hi];have z6:g[i].dst=(to:Int):=by simpa using zf
  have z8:=zL hi;have hw:=h.wf _ z8;have z1:∀m∈g.set i { g[i]with on:=R5 g[i].on c },(m∈g∧m.dst≠(to:Int))∨m={ g[i]with on:=R5 g[i].on c }:=fun m hm=>by
   obtain⟨j,hj⟩:=yJ.1 hm;by_cases hij:i=j
   ·subst hij;rw[zO hi]at hj;exact .inr (Option.some.inj hj).symm
   ·rw[zE hij]at hj;obtain⟨zc,zd⟩:=zB.1 hj;refine .inl ⟨zJ hj,fun e=> ?_⟩;rcases uz hij with hlt|hgt
    ·exact yU.1 h.nd i j hi zc hlt (by rw[zd,e,z6])
    ·exact yU.1 h.nd j i zc hi hgt (by rw[zd,e,z6])
  refine⟨fun m hm=> ?_,fun m hm=> ?_,fun m hm=> ?_,?_,fun m hm t e ty y=> ?_,fun t ty y hd=> ?_⟩
  ·rcases z1 m hm with⟨hm,_⟩|rfl
   ·exact h.wf m hm
   ·exact Hu hw hc
  ·rcases z1 m hm with⟨hm,_⟩|rfl
   ·exact h.src m hm
   ·have:=h.src g[i] z8;simpa using this
  ·rcases z1 m hm with⟨hm,_⟩|rfl
   ·exact h.dst m hm
   ·exact⟨to,ht,z6⟩
  ·have za:(g.set i { g[i]with on:=R5 g[i].on c }).map (·.dst)=g.map (·.dst):=by
    apply List.ext_getElem?;intro j;rw[zY,zY];by_cases hij:i=j
    ·subst hij;rw[zO hi,zK hi];rfl
    ·rw[zE hij]
   have hp:(g.map (·.dst)).Pairwise (·≠·):=wP.2 h.nd;rw[←za]at hp;exact wP.1 hp
  ·rcases z1 m hm with⟨hm,zg⟩|rfl
   ·rw[h.mem m hm t e];constructor
    ·exact fun hd=> .inl hd
    ·rintro(hd|⟨rfl,_⟩)
     ·exact hd
     ·exact absurd e zg
   ·have:t=to:=by simp only at e;omega
    subst this;have zb:=Aw hw hc ty y;have ze:=h.mem _ z8 t z6 ty y;constructor
    ·intro hd;rcases zb.1 hd with hd|hd
     ·exact .inl (ze.1 hd)
     ·exact .inr ⟨rfl,hd⟩
    ·rintro(hd|⟨_,hd⟩)
     ·exact zb.2 (.inl (ze.2 hd))
     ·exact zb.2 (.inr hd)
  ·rcases hd with hd|⟨rfl,_⟩
   ·obtain⟨m,hm,e⟩:=h.all t ty y hd;obtain⟨j,hj⟩:=yJ.1 hm;by_cases hij:i=j
    ·subst hij;rw[zK hi]at hj;cases hj;exact⟨_,zJ (zO hi),e⟩
    ·exact⟨m,zJ (by rw[zE hij];exact hj),e⟩
   ·exact⟨_,zJ (zO hi),z6⟩
theorem MInv.congr{T N n:Nat}{D D':Nat→Nat→Int→Prop}{g:List Mv}(h:MInv T N n D g)(e:∀t ty y,D t ty y↔D' t ty y):MInv T N n D' g:=by have:D=D':=funext fun t=>funext fun ty=>funext fun y=>propext (e t ty y);rw[←this];exact h
theorem Sj{T:Nat}{a:Aut}{cl:List Prd}{Q:List (List Int)}(n:Nat)(l:List Int)(hw:∀c∈cl,PWf T c∧∃ty y,PM c ty y):
  MInv T Q.length n (fun t ty y=>∃c∈cl,u0l Q (Wh a l (Qp c))=some t∧PM c ty y) (Vj a cl Q n l):=by
 have key:∀(r:List Prd) (D:Nat→Nat→Int→Prop) (g:List Mv),MInv T Q.length n D g→(∀c∈r,PWf T c∧∃ty y,PM c ty y)→
   MInv T Q.length n (fun t ty y=>D t ty y∨∃c∈r,u0l Q (Wh a l (Qp c))=some t∧PM c ty y) (r.foldl (fun g c=>match u0l Q (Wh a l (Qp c))with|some t=>Yb n g t c|none=>g) g):=by
  intro r;induction r with
  |nil=>intro D g h _;exact h.congr (fun t ty y=>by simp)
  |cons c r ih=>
   intro D g h hr;rw[xY];cases hx:u0l Q (Wh a l (Qp c))with
   |none=>refine(ih D g h (fun d hd=>hr d (by simp[hd]))).congr (fun t ty y=> ?_);simp[hx]
   |some to=>
    have z1:=(zB.1 (Gv hx)).1;have hc:=hr c (by simp);refine(ih _ _ (h.add z1 hc.1 hc.2) (fun d hd=>hr d (by simp[hd]))).congr (fun t ty y=> ?_);simp only[yE,exists_eq_or_imp,hx,Option.some.injEq,or_assoc];constructor
    ·rintro(h|⟨e,h⟩|h)
     ·exact .inl h
     ·exact .inr (.inl ⟨e.symm,h⟩)
     ·exact .inr (.inr h)
    ·rintro(h|⟨e,h⟩|h)
     ·exact .inl h
     ·exact .inr (.inl ⟨e.symm,h⟩)
     ·exact .inr (.inr h)
 have h0:MInv T Q.length n (fun _ _ _=>False) []:=⟨by simp,by simp,by simp,by simp,by simp,fun _ _ _ h=>h.elim⟩
 exact(key cl _ [] h0 hw).congr (fun t ty y=>by simp)
end Go.Abs
namespace Go.Abs
structure Cls (a:Aut) (cl:List Prd):Prop where
 ok:OkA a
 prts:Prts a.types.toNat (a.mv.map (·.on)) cl
 wf:∀c∈cl,PWf a.types.toNat c∧∃ty y,PM c ty y
theorem u1n{a:Aut}(h:OkA a):Cls a (Q5 a.types.toNat (a.mv.map (·.on))):=by
 have hT:0<a.types.toNat:=by have:=h.types;omega
 have hp:=(U5 hT (l:=a.mv.map (·.on)) (fun p hp=>by obtain⟨m,hm,rfl⟩:=zT.1 hp;exact(h.mv m hm).on)).1;exact⟨h,hp,fun c hc=>⟨hp.wf c hc,hp.ne c hc⟩⟩
def Rm(a:Aut)(x:Sy):Prop:=(0≤x.ty∧x.ty<a.types)∧inR x.num
theorem x0x{a:Aut}{l:List Int}{x y:Sy}(h:∀m∈a.mv,R7 m.on x=R7 m.on y):Wh a l x=Wh a l y:=by
 refine Uf (U1 ..) (U1 ..) fun z=> ?_;rw[E7,E7];constructor
 ·rintro⟨h1,m,hm,h2,h3,h4⟩;exact⟨h1,m,hm,h2,by rw[←h m hm];exact h3,h4⟩
 ·rintro⟨h1,m,hm,h2,h3,h4⟩;exact⟨h1,m,hm,h2,by rw[h m hm];exact h3,h4⟩
theorem Cls.of{a:Aut}{cl:List Prd}(h:Cls a cl){x:Sy}(hx:Rm a x):∃c∈cl,PM c x.ty.toNat x.num∧∀l,Wh a l x=Wh a l (Qp c):=by obtain⟨c,hc,hm⟩:=h.prts.all x.ty.toNat x.num (by have:=hx.1;omega) hx.2;refine⟨c,hc,hm,fun l=>x0x fun m z1=> ?_⟩;have h1:=(Wz (h.wf c hc).1 (h.wf c hc).2).1;have h2:=((h.prts.cls c hc _ _ hm _ _).1 h1).2.2 m.on (zT.2 ⟨m,z1,rfl⟩);have hl:=(h.ok.mv m z1).on.1;rw[wt,Tk hl x hx.1.1,Tk hl (Qp c) (by simp[Qp])];simpa[Qp]using h2
theorem Cls.same{a:Aut}{cl:List Prd}(h:Cls a cl){c:Prd}(hc:c∈cl){x:Sy}(hx:Rm a x)(hm:PM c x.ty.toNat x.num)(l:List Int):Wh a l x=Wh a l (Qp c):=by obtain⟨d,hd,z1,e⟩:=h.of hx;rw[e l,h.prts.disj hd hc z1 hm]
structure Sub (a:Aut) (cl:List Prd) (Q:List (List Int)):Prop where
 first:Q[0]? =some [0]
 nd:Q.Nodup
 ne:∀l∈Q,l≠[]
 lim:Q.length≤256
 elem:∀l∈Q,l.Pairwise (·<·)∧∀s∈l,0≤s∧s<a.fin.length
 closed:∀l∈Q,∀c∈cl,Wh a l (Qp c)=[]∨Wh a l (Qp c)∈Q
theorem x0b{Q:List (List Int)}{x:List Int}(h:Q.Nodup):(Jk Q x).Nodup:=by
 unfold Jk;split
 ·exact h
 ·rename_i hx;exact List.nodup_append.2 ⟨h,by simp,fun a ha b hb e=>by
   obtain rfl:=zQ.1 hb;subst e;exact hx (.inr ha)⟩
theorem D1:∀(xs:List (List Int)) {Q:List (List Int)},Q.Nodup→(Ea Q xs).Nodup
 |[],_,h=>h
 |x::xs,Q,h=>D1 xs (x0b (x:=x) h)
theorem d00{a:Aut}(ha:OkA a)(cl:List Prd):∀(f i:Nat) (Q R:List (List Int)),x0e a cl f i Q=some R→Q[0]? =some [0]→Q.Nodup→(∀l∈Q,l≠[])→Q.length≤256→(∀l∈Q,l.Pairwise (·<·)∧∀s∈l,0≤s∧s<a.fin.length)→
  (∀j,j<i→∀l,Q[j]? =some l→∀c∈cl,Wh a l (Qp c)=[]∨Wh a l (Qp c)∈Q)→Sub a cl R
 |0,_,_,_,h,_,_,_,_,_,_=>by cases h
 |f+1,i,Q,R,h,h1,h2,h3,h4,h5,h6=>by
  rw[x0e]at h;cases hq:Q[i]? with
  |none=>rw[hq]at h;simp only[Option.some.injEq]at h;subst h;have hi:Q.length≤i:=List.getElem?_eq_none_iff.1 hq;refine⟨h1,h2,h3,h4,h5,fun l hl c hc=> ?_⟩;obtain⟨j,hj⟩:=yJ.1 hl;exact h6 j (by have:=(zB.1 hj).1;omega) l hj c hc
  |some l=>
   rw[hq]at h;simp only at h;by_cases hlim:256<(Ea Q (Tu a cl l)).length
   ·rw[if_pos hlim]at h;cases h
   ·rw[if_neg hlim]at h;obtain⟨X,hX,z6⟩:=Ud (Tu a cl l) Q;have hlen:0<Q.length:=(zB.1 h1).1;have z1:∀y∈Ea Q (Tu a cl l),y∈Q∨(y≠[]∧∃c∈cl,y=Wh a l (Qp c)):=fun y hy=>by
     rw[hX]at hy;rcases zW.1 hy with hy|hy
     ·exact .inl hy
     ·obtain⟨p1,p2⟩:=z6 y hy;obtain⟨c,hc,rfl⟩:=zT.1 p1;exact .inr ⟨p2,c,hc,rfl⟩
    refine d00 ha cl f (i+1) _ R h ?_ (D1 _ h2) ?_ (by omega) ?_ ?_
    ·rw[hX,zF hlen];exact h1
    ·intro y hy;rcases z1 y hy with hy|⟨hy,_⟩
     ·exact h3 y hy
     ·exact hy
    ·intro y hy;rcases z1 y hy with hy|⟨_,c,_,rfl⟩
     ·exact h5 y hy
     ·exact⟨U1 ..,Ae⟩
    ·intro j hj k hk c hc;by_cases hji:j<i
     ·have z7:j<Q.length:=by have:=(zB.1 hq).1;omega
      rw[hX,zF z7]at hk;rcases h6 j hji k hk c hc with h7|h7
      ·exact .inl h7
      ·right;rw[hX];exact xA _ h7
     ·have:j=i:=by omega
      subst this;rw[hX,zF (zB.1 hq).1,hq]at hk;cases hk;by_cases hn:Wh a l (Qp c)=[]
      ·exact .inl hn
      ·exact .inr (J8 (zT.2 ⟨c,hc,rfl⟩) hn)
def Lu(a:Aut)(cl:List Prd):Option (List (List Int)):=x0e a cl 257 0 [[0]]
theorem u03{a:Aut}(ha:OkA a){cl:List Prd}{Q:List (List Int)}(h:Lu a cl=some Q):Sub a cl Q:=
 d00 ha cl 257 0 [[0]] Q h rfl (by simp) (by simp) (by simp) (by intro l hl;obtain rfl:=zQ.1 hl;exact⟨by simp,fun s hs=>by obtain rfl:=zQ.1 hs;have:=ha.fin;omega⟩) (fun j hj=>by omega)
theorem Sub.step{a:Aut}{cl:List Prd}{Q:List (List Int)}(hs:Sub a cl Q)(hc:Cls a cl){l:List Int}(hl:l∈Q){x:Sy}(hx:Rm a x):Wh a l x=[]∨Wh a l x∈Q:=by obtain⟨c,h1,_,h3⟩:=hc.of hx;rw[h3 l];exact hs.closed l hl c h1
theorem Oi{a:Aut}{cl:List Prd}{Q:List (List Int)}{m:Mv}:m∈Mb a cl Q↔∃n l,Q[n]? =some l∧m∈Vj a cl Q n l:=by
 unfold Mb;rw[wU];constructor
 ·rintro⟨n,hn,hm⟩;have z1:=y_.1 hn;refine⟨n,Q[n],zK z1,?_⟩;simpa[yX,z1]using hm
 ·rintro⟨n,l,hl,hm⟩;have z1:=(zB.1 hl).1;refine⟨n,y_.2 z1,?_⟩;simpa[yX,hl]using hm
theorem Fz{a:Aut}{cl:List Prd}{Q:List (List Int)}(hc:Cls a cl)(hs:Sub a cl Q){n:Nat}{l:List Int}(hl:Q[n]? =some l){x:Sy}(hx:Rm a x)(t:Nat):
  (∃m∈Mb a cl Q,m.src=(n:Int)∧m.dst=(t:Int)∧R7 m.on x=true)↔Q[t]? =some (Wh a l x):=by
 have hg:=Sj (a:=a) (Q:=Q) n l hc.wf;have key:u0l Q (Wh a l x)=some t↔Q[t]? =some (Wh a l x):=⟨Gv,j0f hs.nd⟩
 rw[←key];constructor
 ·rintro⟨m,hm,h1,h2,h3⟩;obtain⟨n',l',hl',z6⟩:=Oi.1 hm;have z7:=Sj (a:=a) (Q:=Q) n' l' hc.wf;have:n'=n:=by have:=z7.src m z6;omega
  subst this;rw[hl]at hl';cases hl';rw[Tk (hg.wf m z6).1 x hx.1.1]at h3;obtain⟨c,z1,e1,e2⟩:=(hg.mem m z6 t h2 _ _).1 h3;rw[hc.same z1 hx e2];exact e1
 ·intro h;obtain⟨c,z1,e1,e2⟩:=hc.of hx;rw[e2]at h;obtain⟨m,hm,hd⟩:=hg.all t _ _ ⟨c,z1,h,e1⟩;refine⟨m,Oi.2 ⟨n,l,hl,hm⟩,hg.src m hm,hd,?_⟩;rw[Tk (hg.wf m hm).1 x hx.1.1];exact(hg.mem m hm t hd _ _).2 ⟨c,z1,h,e1⟩
theorem y14{a:Aut}{cl:List Prd}{Q:List (List Int)}(hc:Cls a cl)(hs:Sub a cl Q){n:Nat}{l:List Int}(hl:Q[n]? =some l){x:Sy}(hx:Rm a x):
  (Wh a l x=[]∧Wh (Um a cl Q) [(n:Int)] x=[])∨∃t:Nat,Q[t]? =some (Wh a l x)∧Wh (Um a cl Q) [(n:Int)] x=[(t:Int)]:=by
 have z1:∀j,j∈Wh (Um a cl Q) [(n:Int)] x↔∃t:Nat,j=t∧Q[t]? =some (Wh a l x):=fun j=>by
  rw[E7];constructor
  ·rintro⟨⟨h1,h2⟩,m,hm,h3,h4,h5⟩;refine⟨j.toNat,by omega,(Fz hc hs hl hx j.toNat).1 ⟨m,hm,zQ.1 h3,by omega,h4⟩⟩
  ·rintro⟨t,rfl,ht⟩;obtain⟨m,hm,h1,h2,h3⟩:=(Fz hc hs hl hx t).2 ht;have:=(zB.1 ht).1;exact⟨⟨by omega,by simp[Um];omega⟩,m,hm,by rw[h1];simp,h3,h2⟩
 rcases hs.step hc (zJ hl) hx with h0|h0
 ·refine .inl ⟨h0,vP.2 fun j hj=> ?_⟩;obtain⟨t,_,ht⟩:=(z1 j).1 hj;rw[h0]at ht;exact hs.ne _ (zJ ht) rfl
 ·obtain⟨t,ht⟩:=yJ.1 h0;refine .inr ⟨t,ht,Uf (U1 ..) (by simp) fun z=> ?_⟩;rw[z1 z];constructor
  ·rintro⟨u,rfl,hu⟩;obtain⟨h1,h2⟩:=zB.1 ht;obtain⟨h3,h4⟩:=zB.1 hu;have:u=t:=(vT hs.nd).1 (by rw[h4,h2]);simp[this]
  ·intro hz;exact⟨t,zQ.1 hz,ht⟩
def Xw(a:Aut)(l:List Int)(w:List Sy):List Int:=w.foldl (Wh a) l
def N2(a:Aut)(w:List Sy):Bool:=H7 a (Xw a [0] w)
theorem Nz(a:Aut):∀w,Xw a [] w=[]
 |[]=>rfl
 |x::w=>by
  show Xw a (Wh a [] x) w=[]
  have:Wh a [] x=[]:=vP.2 fun j hj=>by obtain⟨_,m,_,h,_⟩:=E7.1 hj;cases h
  rw[this,Nz a w]
theorem g09{a:Aut}{cl:List Prd}{Q:List (List Int)}(hc:Cls a cl)(hs:Sub a cl Q):∀(w:List Sy),(∀x∈w,Rm a x)→∀(n:Nat) (l:List Int),Q[n]? =some l→
  (Xw a l w=[]∧Xw (Um a cl Q) [(n:Int)] w=[])∨∃t:Nat,Q[t]? =some (Xw a l w)∧Xw (Um a cl Q) [(n:Int)] w=[(t:Int)]
 |[],_,n,l,hl=> .inr ⟨n,hl,rfl⟩
 |x::w,hw,n,l,hl=>by
  show(Xw a (Wh a l x) w=[]∧Xw (Um a cl Q) (Wh (Um a cl Q) [(n:Int)] x) w=[])∨∃t:Nat,Q[t]? =some (Xw a (Wh a l x) w)∧Xw (Um a cl Q) (Wh (Um a cl Q) [(n:Int)] x) w=[(t:Int)]
  rcases y14 hc hs hl (hw x (by simp))with⟨h1,h2⟩|⟨t,h1,h2⟩
  ·rw[h1,h2];exact .inl ⟨Nz _ _,Nz _ _⟩
  ·rw[h2];exact g09 hc hs w (fun y hy=>hw y (by simp[hy])) t _ h1
theorem f1i{a:Aut}{cl:List Prd}{Q:List (List Int)}(hc:Cls a cl)(hs:Sub a cl Q){w:List Sy}(hw:∀x∈w,Rm a x):N2 (Um a cl Q) w=N2 a w:=by
 unfold N2;rcases g09 hc hs w hw 0 [0] hs.first with⟨h1,h2⟩|⟨t,h1,h2⟩
 ·have z1:Xw (Um a cl Q) [0] w=[]:=h2;rw[h1,z1];rfl
 ·have z1:Xw (Um a cl Q) [0] w=[(t:Int)]:=h2;rw[z1];simp only[H7,Um,List.any_cons,List.any_nil,Bool.or_false,Int.toNat_natCast,yX,zY,h1,Option.map_some,Option.getD_some]
def S7(a:Aut):Prop:=a.mv.Pairwise (fun m k=>m.src=k.src→∀x:Sy,Rm a x→¬(R7 m.on x=true∧R7 k.on x=true))
theorem z04{a:Aut}{cl:List Prd}{Q:List (List Int)}(hc:Cls a cl)(hs:Sub a cl Q):S7 (Um a cl Q):=by
 unfold S7;show(Mb a cl Q).Pairwise _;unfold Mb;rw[ud];constructor
 ·intro n hn;have z1:=y_.1 hn;have hl:Q[n]? =some Q[n]:=zK z1;have hg:Q.getD n []=Q[n]:=by simp[yX,z1]
  rw[hg];have hi:=Sj (a:=a) (Q:=Q) n Q[n] hc.wf;refine hi.nd.imp_of_mem (fun {m k} hm hk hne _ x hx=> ?_);rintro⟨h1,h2⟩;obtain⟨t1,_,e1⟩:=hi.dst m hm;obtain⟨t2,_,e2⟩:=hi.dst k hk;have z6:Rm a x:=hx;have d1:=(Fz hc hs hl z6 t1).1 ⟨m,Oi.2 ⟨n,_,hl,hm⟩,hi.src m hm,e1,h1⟩;have d2:=(Fz hc hs hl z6 t2).1 ⟨k,Oi.2 ⟨n,_,hl,hk⟩,hi.src k hk,e2,h2⟩;obtain⟨p1,p2⟩:=zB.1 d1;obtain⟨p3,p4⟩:=zB.1 d2;have:t1=t2:=(vT hs.nd).1 (by rw[p2,p4]);exact hne (by rw[e1,e2,this])
 ·refine List.pairwise_lt_range.imp (fun {i j} hij m hm k hk e=> ?_);exfalso;have h1:∀n m,m∈Vj a cl Q n (Q.getD n [])→m.src=(n:Int):=fun n m hm=>(Sj (a:=a) (Q:=Q) n _ hc.wf).src m hm;have:=h1 i m hm;have:=h1 j k hk;omega
end Go.Abs
namespace Go.Abs
theorem Ps{l:List Iv}(h:Sep l)(hb:∀n,M l n→inR n):Sep (Wv l)∧(∀n,M (Wv l) n↔inR n∧¬M l n)∧(Wv l).length≤l.length+1:=by
 have z1:∀x∈l,inR x.lo∧inR x.hi:=fun x hx=>⟨hb _ ⟨x,hx,xN _,h.1 x hx⟩,hb _ ⟨x,hx,h.1 x hx,xN _⟩⟩
 have:=Oa l (-1099511627776) (fun x hx=>⟨h.1 x hx,(z1 x hx).2.2⟩) h.2 (fun x hx=>(z1 x hx).1.1);exact⟨this.1,fun n=>by rw[Wv,this.2.1,inR,and_assoc],this.2.2⟩
theorem z0s{T:Nat}{p:Prd}(hp:PWf T p)(t:Nat)(n:Int):PM (W5 p) t n↔(t<T∧inR n)∧¬PM p t n:=by
 unfold PM W5;rw[zY];constructor
 ·rintro⟨s,hs,hm⟩;obtain⟨a,ha,rfl⟩:=zV.1 hs;have hw:=hp.2 a (zJ ha);have hg:=((Ps hw.1 hw.2).2.1 n).1 hm;refine⟨⟨by rw[←hp.1];exact(zB.1 ha).1,hg.1⟩,?_⟩;rintro⟨b,hb,z1⟩;rw[ha]at hb;cases hb;exact hg.2 z1
 ·rintro⟨⟨h1,h2⟩,h3⟩;have hl:t<p.length:=by rw[hp.1];exact h1
  have hw:=hp.2 _ (zL hl);exact⟨Wv p[t],by rw[zK hl];rfl,((Ps hw.1 hw.2).2.1 n).2 ⟨h2,fun hm=>h3 ⟨_,zK hl,hm⟩⟩⟩
theorem Pm{T:Nat}{p:Prd}(hp:PWf T p):PWf T (W5 p):=⟨by simp[W5,hp.1],fun s hs=>by
 obtain⟨a,ha,rfl⟩:=zT.1 hs;have hw:=hp.2 a ha;exact⟨(Ps hw.1 hw.2).1,fun n hn=>(((Ps hw.1 hw.2).2.1 n).1 hn).1⟩⟩
def U8(T:Nat)(ps:List Prd):Prd:=(yO T).map fun i=>Ej (Qw ps i)
theorem Xe{T:Nat}{ps:List Prd}(h:∀p∈ps,PWf T p)(i:Nat):∀x∈Qw ps i,x.lo≤x.hi:=fun x hx=>by
 obtain⟨p,hp,hx⟩:=Tr.1 hx;have hm:p.getD i []=[]∨p.getD i []∈p:=by
  by_cases hi:i<p.length
  ·exact .inr (by rw[Wu hi];exact zL hi)
  ·exact .inl (by simp[yX,hi])
 rcases hm with e|hm
 ·rw[e]at hx;cases hx
 ·exact((h p hp).2 _ hm).1.1 x hx
theorem Bo{T:Nat}{ps:List Prd}(h:∀p∈ps,PWf T p)(t:Nat)(n:Int):PM (U8 T ps) t n↔∃p∈ps,PM p t n:=by
 unfold PM U8;rw[zY];constructor
 ·rintro⟨s,hs,hm⟩;obtain⟨i,hi,rfl⟩:=zV.1 hs;obtain⟨z6,e⟩:=zB.1 hi;rw[List.getElem_range]at e;subst e;obtain⟨x,hx,h1⟩:=((Ux _ (Xe h t)).2 n).1 hm;obtain⟨p,hp,hx⟩:=Tr.1 hx;have ht:t<T:=by simpa using z6
  have z1:t<p.length:=by rw[(h p hp).1];exact ht
  rw[Wu z1]at hx;exact⟨p,hp,p[t],zK z1,x,hx,h1⟩
 ·rintro⟨p,hp,s,hs,x,hx,h1⟩;obtain⟨z1,e⟩:=zB.1 hs;have ht:t<T:=by rw[←(h p hp).1];exact z1
  refine⟨Ej (Qw ps t),by simp[ht],((Ux _ (Xe h t)).2 n).2 ⟨x,Tr.2 ⟨p,hp,?_⟩,h1⟩⟩;rw[Wu z1,e];exact hx
theorem K7{T:Nat}{ps:List Prd}(h:∀p∈ps,PWf T p):PWf T (U8 T ps):=by
 refine⟨by simp[U8],fun s hs=> ?_⟩;obtain⟨i,hi,rfl⟩:=zT.1 hs;refine⟨(Ux _ (Xe h i)).1,fun n hn=> ?_⟩;have:PM (U8 T ps) i n:=⟨Ej (Qw ps i),by simp[U8,y_.1 hi],hn⟩
 obtain⟨p,hp,hm⟩:=(Bo h i n).1 this;exact((h p hp).lt hm).2
theorem j1h{T:Nat}{c:Prd}(h:PWf T c):U8 T [c]=c:=
 Pv (K7 (by simpa using h)) h fun t n=>by rw[Bo (by simpa using h)];simp
theorem k15{T:Nat}{p q:Prd}(hp:PWf T p)(hq:PWf T q):U8 T [p,q]=R5 p q:=by
 have h:∀x∈[p,q],PWf T x:=fun x hx=>by
  rcases yE.1 hx with rfl|hx
  ·exact hp
  ·obtain rfl:=zQ.1 hx;exact hq
 exact Pv (K7 h) (Hu hp hq) fun t n=>by rw[Bo h,Aw hp hq];simp
def Gc(a:Aut)(s:Int):List Prd:=(a.mv.filter fun m=>decide (m.src=s)).map (·.on)
def Wy(a:Aut)(s:Int):Prd:=W5 (U8 a.types.toNat (Gc a s))
def Sp(a:Aut)(s:Int):Prd:=(Gc a s).foldl (fun r p=>Wc r (W5 p)) (Ws a.types.toNat)
structure WfA (a:Aut):Prop where
 types:1≤a.types∧a.types≤16
 fin:1≤a.fin.length
 src:∀m∈a.mv,0≤m.src∧m.src<a.fin.length
 dst:∀m∈a.mv,0≤m.dst∧m.dst<a.fin.length
 on:∀m∈a.mv,PWf a.types.toNat m.on
theorem OkA.wfA{a:Aut}(h:OkA a):WfA a:=⟨h.types,h.fin.1,fun m hm=>(h.mv m hm).src,fun m hm=>(h.mv m hm).dst,fun m hm=>(h.mv m hm).on.wf⟩
theorem Li{a:Aut}(h:WfA a)(s:Int):∀p∈Gc a s,PWf a.types.toNat p:=fun p hp=>by obtain⟨m,hm,rfl⟩:=zT.1 hp;exact h.on m (xW.1 hm).1
theorem P9{a:Aut}(h:WfA a)(s:Int)(t:Nat)(n:Int):PM (Wy a s) t n↔(t<a.types.toNat∧inR n)∧∀p∈Gc a s,¬PM p t n:=by rw[Wy,z0s (K7 (Li h s)),Bo (Li h s)];simp
theorem Ov{a:Aut}(h:WfA a)(s:Int):PWf a.types.toNat (Wy a s):=Pm (K7 (Li h s))
theorem Co{T:Nat}:∀(l:List Prd) (r:Prd),(∀p∈l,PWf T p)→PWf T r→PWf T (l.foldl (fun r p=>Wc r (W5 p)) r)∧
  ∀t n,PM (l.foldl (fun r p=>Wc r (W5 p)) r) t n↔PM r t n∧∀p∈l,¬PM p t n
 |[],r,_,hr=>⟨hr,fun t n=>by simp⟩
 |p::l,r,hl,hr=>by
  have hp:=hl p (by simp);obtain⟨h1,h2⟩:=Co l (Wc r (W5 p)) (fun q hq=>hl q (by simp[hq])) (Ya hr (Pm hp).1);refine⟨h1,fun t n=> ?_⟩;rw[xY,h2,Em hr.1 (Pm hp).1,z0s hp];constructor
  ·rintro⟨⟨a,b,c⟩,d⟩;refine⟨a,fun q hq=> ?_⟩;rcases yE.1 hq with rfl|hq
   ·exact c
   ·exact d q hq
  ·rintro⟨a,d⟩;exact⟨⟨a,hr.lt a,d p (by simp)⟩,fun q hq=>d q (by simp[hq])⟩
theorem c08{a:Aut}(h:WfA a)(s:Int):Sp a s=Wy a s:=by obtain⟨h1,h2⟩:=Co (Gc a s) (Ws a.types.toNat) (Li h s) (Sg _);exact Pv h1 (Ov h s) fun t n=>by rw[Sp,h2,P9 h,Ay]
theorem Bc{a:Aut}(h:WfA a)(s:Int):Wf (Wy a s)=true↔∀t n,t<a.types.toNat→inR n→∃p∈Gc a s,PM p t n:=by
 rw[Rz (Ov h s)];constructor
 ·intro hv t n ht hn;have:=hv t n;rw[P9 h]at this;by_cases hc:∃p∈Gc a s,PM p t n
  ·exact hc
  ·exact absurd ⟨⟨ht,hn⟩,fun p hp hm=>hc ⟨p,hp,hm⟩⟩ this
 ·intro hv t n;rw[P9 h];rintro⟨⟨ht,hn⟩,hx⟩;obtain⟨p,hp,hm⟩:=hv t n ht hn;exact hx p hp hm
def N1(a:Aut):Bool:=decide (256<a.fin.length) || decide (2048<a.mv.length) || a.mv.any fun m=>m.on.any fun s=>decide (256<s.length)
theorem q2q{a:Aut}(h:WfA a):Wx a=0↔N1 a=false:=by
 rw[A8];unfold N1;simp only[Bool.or_eq_false_iff,decide_eq_false_iff_not,vD,decide_eq_true_eq];constructor
 ·rintro⟨h1,h2,h3,h4⟩;exact⟨⟨by omega,by omega⟩,fun m hm=>by
   simp only[uI,vD,decide_eq_true_eq];exact fun s hs=>by have:=((h4 m hm).on.2 s hs).len;omega⟩
 ·rintro⟨⟨h1,h2⟩,h3⟩;refine⟨h.types,⟨h.fin,by omega⟩,by omega,fun m hm=>⟨h.src m hm,h.dst m hm,(h.on m hm).1,fun s hs=> ?_⟩⟩;have hw:=(h.on m hm).2 s hs;have:=h3 m hm;simp only[uI,vD,decide_eq_true_eq]at this;exact Ga hw.1 (q0k hw.1 hw.2) (by have:=this s hs;omega)
def Xr(a:Aut):Int×Aut:=if N1 a then(5,U0)else(0,a)
def y2m(a:Aut):Int×Aut:=if Wx a≠0 then(5,U0)else(0,a)
theorem k0e{a c:Aut}(h:WfA a)(hl:Xr a=(0,c)):c=a∧OkA a:=by
 unfold Xr at hl;cases hb:N1 a
 ·rw[hb,if_neg (by simp)]at hl;exact⟨(Prod.mk.inj hl).2.symm,(A8 a).1 ((q2q h).2 hb)⟩
 ·rw[hb,if_pos rfl]at hl;cases(Prod.mk.inj hl).1
end Go.Abs
namespace Go.Abs
def R3(a:Aut)(lack:Int→Prd):List Mv:=(yO a.fin.length).filterMap fun s:Nat=>if Wf (lack s)then none else some ⟨s,a.fin.length,lack s⟩
def Uq(a:Aut):Aut:=⟨a.types,a.fin++[false],a.mv++R3 a (Wy a)++[⟨a.fin.length,a.fin.length,Ws a.types.toNat⟩]⟩
def Sd(a:Aut):Int×Aut:=if(R3 a (Wy a)).isEmpty then(0,a)else Xr (Uq a)
def Y6(a:Aut):Bool:=(yO a.fin.length).all fun s:Nat=>Wf (Sp a s)
def v2m(a:Aut):Int×Aut:=if Y6 a then(0,a)else y2m ⟨a.types,a.fin++[false],a.mv++R3 a (Sp a)++[⟨a.fin.length,a.fin.length,Ws a.types.toNat⟩]⟩
theorem Yy{a:Aut}{lack:Int→Prd}{m:Mv}:m∈R3 a lack↔∃s:Nat,s<a.fin.length∧Wf (lack s)=false∧m=⟨s,a.fin.length,lack s⟩:=by
 unfold R3;rw[vN];constructor
 ·rintro⟨s,hs,h⟩;cases hv:Wf (lack s)
  ·rw[hv,if_neg (by simp)]at h;cases h;exact⟨s,y_.1 hs,hv,rfl⟩
  ·rw[hv,if_pos rfl]at h;cases h
 ·rintro⟨s,hs,hv,rfl⟩;exact⟨s,y_.2 hs,by rw[hv,if_neg (by simp)]⟩
theorem Gi{a:Aut}{lack:Int→Prd}:R3 a lack=[]↔∀s:Nat,s<a.fin.length→Wf (lack s)=true:=by
 rw[vP];constructor
 ·intro h s hs;cases hv:Wf (lack s)
  ·exact absurd (Yy.2 ⟨s,hs,hv,rfl⟩) (h _)
  ·rfl
 ·intro h m hm;obtain⟨s,hs,hv,_⟩:=Yy.1 hm;rw[h s hs]at hv;cases hv
theorem v1x{a:Aut}(h:WfA a):WfA (Uq a):=by
 have z1:∀m∈(Uq a).mv,m∈a.mv∨(∃s:Nat,s<a.fin.length∧m=⟨s,a.fin.length,Wy a s⟩)∨m=⟨a.fin.length,a.fin.length,Ws a.types.toNat⟩:=fun m hm=>by
  rcases zW.1 hm with hm|hm
  ·rcases zW.1 hm with hm|hm
   ·exact .inl hm
   ·obtain⟨s,hs,_,e⟩:=Yy.1 hm;exact .inr (.inl ⟨s,hs,e⟩)
  ·exact .inr (.inr (zQ.1 hm))
 have hl:(Uq a).fin.length=a.fin.length+1:=by simp[Uq]
 refine⟨h.types,by rw[hl];omega,fun m hm=> ?_,fun m hm=> ?_,fun m hm=> ?_⟩
 ·rw[hl];rcases z1 m hm with hm|⟨s,hs,rfl⟩|rfl
  ·have:=h.src m hm;omega
  ·simp only;omega
  ·simp only;omega
 ·rw[hl];rcases z1 m hm with hm|⟨s,hs,rfl⟩|rfl
  ·have:=h.dst m hm;omega
  ·simp only;omega
  ·simp only;omega
 ·rcases z1 m hm with hm|⟨s,hs,rfl⟩|rfl
  ·exact h.on m hm
  ·exact Ov h s
  ·exact Sg _
def x0f(a:Aut):Prop:=∀s:Int,0≤s→s<a.fin.length→∀x,Rm a x→∃m∈a.mv,m.src=s∧R7 m.on x=true
theorem z0f{a:Aut}{x:Sy}(h:Rm a x):x.ty.toNat<a.types.toNat∧inR x.num∧0≤x.ty:=⟨by have:=h.1;omega,h.2,h.1.1⟩
theorem Tq{a:Aut}(h:WfA a){m:Mv}(hm:m∈a.mv){x:Sy}(hx:Rm a x):R7 m.on x=true↔PM m.on x.ty.toNat x.num:=Tk (h.on m hm).1 x hx.1.1
theorem Lx{a:Aut}{s:Int}{p:Prd}:p∈Gc a s↔∃m∈a.mv,m.src=s∧m.on=p:=by
 unfold Gc;rw[zT];constructor
 ·rintro⟨m,hm,e⟩;have:=xW.1 hm;exact⟨m,this.1,by simpa using this.2,e⟩
 ·rintro⟨m,hm,hs,e⟩;exact⟨m,xW.2 ⟨hm,by simpa using hs⟩,e⟩
theorem z0u{a:Aut}(h:WfA a):R3 a (Wy a)=[]↔x0f a:=by
 rw[Gi];constructor
 ·intro hv s h0 h1 x hx;have hs:=hv s.toNat (by omega);rw[show((s.toNat:Nat):Int)=s by omega,Bc h]at hs;obtain⟨k1,k2,_⟩:=z0f hx;obtain⟨p,hp,hm⟩:=hs _ _ k1 k2;obtain⟨m,z1,e,rfl⟩:=Lx.1 hp;exact⟨m,z1,e,(Tq h z1 hx).2 hm⟩
 ·intro hf s hs;rw[Bc h];intro t n ht hn;have hx:Rm a ⟨t,n⟩:=⟨⟨by simp,by simp only;omega⟩,hn⟩
  obtain⟨m,hm,e,hh⟩:=hf s (by omega) (by omega) _ hx;exact⟨m.on,Lx.2 ⟨m,hm,e,rfl⟩,by have:=(Tq h hm hx).1 hh;simpa using this⟩
theorem y1g{a:Aut}(h:WfA a):x0f (Uq a):=by
 intro s h0 h1 x hx;have z1:Rm a x:=hx;have hl:(Uq a).fin.length=a.fin.length+1:=by simp[Uq]
 obtain⟨k1,k2,_⟩:=z0f z1;by_cases hs:s<a.fin.length
 ·by_cases hp:∃p∈Gc a s,PM p x.ty.toNat x.num
  ·obtain⟨p,hp,hm⟩:=hp;obtain⟨m,z6,e,rfl⟩:=Lx.1 hp;exact⟨m,xA _ (xA _ z6),e,(Tq h z6 z1).2 hm⟩
  ·have z7:PM (Wy a s) x.ty.toNat x.num:=(P9 h s _ _).2 ⟨⟨k1,k2⟩,fun p z8 hm=>hp ⟨p,z8,hm⟩⟩;have hv:Wf (Wy a s)=false:=by
    cases hv:Wf (Wy a s)
    ·rfl
    ·exact absurd z7 ((Rz (Ov h s)).1 hv _ _)
   have e:((s.toNat:Nat):Int)=s:=by omega
   refine⟨⟨s,a.fin.length,Wy a s⟩,xA _ (uj _ (Yy.2 ⟨s.toNat,by omega,by rw[e];exact hv,by rw[e]⟩)),rfl,?_⟩;exact(Tk (Ov h s).1 x hx.1.1).2 z7
 ·refine⟨⟨a.fin.length,a.fin.length,Ws a.types.toNat⟩,uj _ (by simp),by simp only;omega,?_⟩;exact(Tk (Sg _).1 x hx.1.1).2 ((Ay ..).2 ⟨k1,k2⟩)
theorem j18{a:Aut}(h:WfA a)(hd:S7 a):S7 (Uq a):=by
 unfold S7;show(a.mv++R3 a (Wy a)++[_]).Pairwise _;rw[yF,yF];refine⟨⟨hd,?_,fun m hm k hk e x hx=> ?_⟩,by simp,fun m hm k hk e x hx=> ?_⟩
 ·unfold R3;rw[List.pairwise_filterMap];refine List.pairwise_lt_range.imp (fun {i j} hij m hm k hk e=> ?_);have z1:∀(i:Nat) (m:Mv),(if Wf (Wy a i)then none else some (⟨i,a.fin.length,Wy a i⟩:Mv))=some m→m.src=i:=fun i m hm=>by
   split at hm
   ·cases hm
   ·cases hm;rfl
  have:=z1 i m hm;have:=z1 j k hk;omega
 ·obtain⟨s,hs,_,rfl⟩:=Yy.1 hk;rintro⟨h1,h2⟩;have z6:Rm a x:=hx;have p1:=(Tq h hm z6).1 h1;have p2:=(Tk (Ov h s).1 x hx.1.1).1 h2;exact((P9 h s _ _).1 p2).2 _ (Lx.2 ⟨m,hm,e,rfl⟩) p1
 ·obtain rfl:=zQ.1 hk;exfalso;have e':m.src=(a.fin.length:Int):=e;rcases zW.1 hm with hm|hm
  ·have:=h.src m hm;omega
  ·obtain⟨s,hs,_,rfl⟩:=Yy.1 hm;simp only at e';omega
theorem w1t{a:Aut}(h:WfA a){l l':List Int}(hl:∀j:Int,j<a.fin.length→(j∈l'↔j∈l))(x:Sy):∀j:Int,j<a.fin.length→(j∈Wh (Uq a) l' x↔j∈Wh a l x):=by
 intro j hj;rw[E7,E7];have hlen:(Uq a).fin.length=a.fin.length+1:=by simp[Uq]
 constructor
 ·rintro⟨h1,m,hm,h2,h3,h4⟩;rcases zW.1 hm with hm|hm
  ·rcases zW.1 hm with hm|hm
   ·exact⟨⟨h1.1,hj⟩,m,hm,(hl _ (h.src m hm).2).1 h2,h3,h4⟩
   ·obtain⟨s,hs,_,rfl⟩:=Yy.1 hm;simp only at h4;omega
  ·obtain rfl:=zQ.1 hm;simp only at h4;omega
 ·rintro⟨h1,m,hm,h2,h3,h4⟩;exact⟨⟨h1.1,by omega⟩,m,xA _ (xA _ hm),(hl _ (h.src m hm).2).2 h2,h3,h4⟩
theorem u00{a:Aut}(h:WfA a):∀(w:List Sy) (l l':List Int),(∀j:Int,j<a.fin.length→(j∈l'↔j∈l))→∀j:Int,j<a.fin.length→(j∈Xw (Uq a) l' w↔j∈Xw a l w)
 |[],_,_,hl=>hl
 |x::w,_,_,hl=>u00 h w _ _ (w1t h hl x)
theorem runIn{a:Aut}:∀(w:List Sy) (l:List Int),(∀j∈l,0≤j∧j<a.fin.length)→∀j∈Xw a l w,0≤j∧j<a.fin.length
 |[],_,hl=>hl
 |x::w,_,_=>runIn w _ (fun _ hj=>Ae _ hj)
theorem d0t{a:Aut}(h:WfA a):∀j∈[(0:Int)],0≤j∧j<a.fin.length:=fun j hj=>by obtain rfl:=zQ.1 hj;have:=h.fin;omega
theorem w01{a:Aut}{l:List Int}:H7 a l=true↔∃s∈l,a.fin.getD s.toNat false=true:=by rw[H7,vz]
theorem j16{a:Aut}(h:WfA a)(w:List Sy):N2 (Uq a) w=N2 a w:=by
 unfold N2;rw[wt,w01,w01];have hr:=u00 h w [0] [0] (fun _ _=>Iff.rfl);have z7:=runIn w _ (d0t (v1x h));have z6:=runIn w _ (d0t h);have hlen:(Uq a).fin.length=a.fin.length+1:=by simp[Uq]
 have z1:∀s:Int,0≤s→s<a.fin.length→(Uq a).fin.getD s.toNat false=a.fin.getD s.toNat false:=fun s h0 h1=>by simp only[Uq,List.getD_eq_getElem?_getD];rw[zF (by omega)]
 constructor
 ·rintro⟨s,hs,hf⟩;have:=z7 s hs;by_cases hlt:s<a.fin.length
  ·exact⟨s,(hr s hlt).1 hs,by rw[←z1 s this.1 hlt];exact hf⟩
  ·have:s.toNat=a.fin.length:=by omega
   rw[this]at hf;simp[Uq]at hf
 ·rintro⟨s,hs,hf⟩;have:=z6 s hs;exact⟨s,(hr s this.2).2 hs,by rw[z1 s this.1 this.2];exact hf⟩
theorem y1y{a c:Aut}(h:OkA a)(hc:Sd a=(0,c)):OkA c∧c.types=a.types∧x0f c∧(S7 a→S7 c)∧∀w,N2 c w=N2 a w:=by
 unfold Sd at hc;split at hc
 ·rename_i hn;cases hc;exact⟨h,rfl,(z0u h.wfA).1 (tC.1 hn),id,fun _=>rfl⟩
 ·obtain⟨rfl,hk⟩:=k0e (v1x h.wfA) hc;exact⟨hk,rfl,y1g h.wfA,j18 h.wfA,j16 h.wfA⟩
end Go.Abs
namespace Go.Abs
def Y5(T:Int):List Prd→Int
 |[]=>0
 |p::r=>if E5 T p≠0 then E5 T p else Y5 T r
def S3(L:List Prd):Bool:=decide (256<L.length) || L.any fun p=>p.any fun s=>decide (256<s.length)
def Tm(T:Int)(l:List Prd):Int×List Prd:=if T<1∨16<T then(2,[])else if 256<l.length then(5,[])else if Y5 T l≠0 then(Y5 T l,[])else
 if S3 (Ee T.toNat l)then(5,[])else(0,Ee T.toNat l)
def j0m(T:Int)(l:List Prd):Int×List Prd:=if T<1∨16<T then(2,[])else if 256<l.length then(5,[])else if Y5 T l≠0 then(Y5 T l,[])else
 if S3 (Q5 T.toNat l)then(5,[])else(0,Q5 T.toNat l)
theorem It{T:Int}:∀(l:List Prd),Y5 T l=0↔∀p∈l,E5 T p=0
 |[]=>by simp[Y5]
 |p::r=>by
  rw[Y5];by_cases h:E5 T p=0
  ·rw[if_neg (fun k=>k h),It r];simp[h]
  ·rw[if_pos h];exact⟨fun k=>absurd k h,fun k=>absurd (k p (by simp)) h⟩
theorem j0t(T:Int)(l:List Prd):j0m T l=Tm T l:=by
 unfold j0m Tm;split
 ·rfl
 ·rename_i hT;split
  ·rfl
  ·split
   ·rfl
   ·rename_i hc;have z1:∀p∈l,PCk T.toNat p:=fun p hp=>((Ec T p).1 ((It l).1 (by simpa using hc) p hp)).2;rw[Sr (by omega) z1]
theorem k0t{T:Int}(hT:1≤T∧T≤16){l:List Prd}(hl:∀p∈l,PCk T.toNat p):(Tm T l).1=5∨Tm T l=(0,Q5 T.toNat l):=by
 unfold Tm;have hc:Y5 T l=0:=(It l).2 fun p hp=>(Ec T p).2 ⟨hT,hl p hp⟩;rw[if_neg (by omega)];split
 ·exact .inl rfl
 ·rw[if_neg (by simp[hc])];split
  ·exact .inl rfl
  ·exact .inr (by rw[Sr (by omega) hl])
def onA(a:Aut):List Prd:=a.mv.map (·.on)
def O5(a:Aut):Int×List Prd×List (List Int):=if Wx a≠0 then(Wx a,[],[])else
 if(Tm a.types (onA a)).1≠0 then((Tm a.types (onA a)).1,[],[])else
 match Lu a (Tm a.types (onA a)).2 with
 |none=>(5,[],[])
 |some Q=>(0,(Tm a.types (onA a)).2,Q)
def T6(a:Aut):Int×Aut:=if(O5 a).1≠0 then((O5 a).1,U0)else Xr (Um a (O5 a).2.1 (O5 a).2.2)
def S6(a:Aut):Int×Aut:=if Wx a≠0 then(Wx a,U0)else Sd a
def c16(a:Aut):Aut:={ a with fin:=a.fin.map (!·) }
def x26(a:Aut):Int×Aut:=if(T6 a).1≠0 then((T6 a).1,U0)else if(Sd (T6 a).2).1≠0 then((Sd (T6 a).2).1,U0)else(0,c16 (Sd (T6 a).2).2)
theorem Kr{a:Aut}(h:OkA a):∀p∈onA a,PCk a.types.toNat p:=fun p hp=>by obtain⟨m,hm,rfl⟩:=zT.1 hp;exact(h.mv m hm).on
theorem X3{a:Aut}(h:OkA a):O5 a=(5,[],[])∨∃Q,O5 a=(0,Q5 a.types.toNat (onA a),Q)∧Lu a (Q5 a.types.toNat (onA a))=some Q∧Sub a (Q5 a.types.toNat (onA a)) Q∧Cls a (Q5 a.types.toNat (onA a)):=by
 unfold O5;rw[if_neg (fun k=>k ((A8 a).2 h))];rcases k0t h.types (Kr h)with hm|hm
 ·rw[if_pos (by rw[hm];decide),hm];exact .inl rfl
 ·rw[hm,if_neg (by simp)];cases hs:Lu a (Q5 a.types.toNat (onA a))with
  |none=>exact .inl rfl
  |some Q=>exact .inr ⟨Q,rfl,rfl,u03 h hs,u1n h⟩
theorem Mk{a:Aut}(h:Wx a≠0):O5 a=(Wx a,[],[]):=if_pos h
theorem Di{a:Aut}{cl:List Prd}{Q:List (List Int)}(hc:Cls a cl){m:Mv}(hm:m∈Mb a cl Q):(∃n:Nat,n<Q.length∧m.src=n)∧(∃t:Nat,t<Q.length∧m.dst=t)∧PWf a.types.toNat m.on:=by obtain⟨n,l,hl,hg⟩:=Oi.1 hm;have hi:=Sj (a:=a) (Q:=Q) n l hc.wf;exact⟨⟨n,(zB.1 hl).1,hi.src m hg⟩,hi.dst m hg,hi.wf m hg⟩
theorem u1o{a:Aut}{cl:List Prd}{Q:List (List Int)}(hc:Cls a cl)(hs:Sub a cl Q):WfA (Um a cl Q):=by
 have h0:=(zB.1 hs.first).1;have hl:(Um a cl Q).fin.length=Q.length:=by simp[Um]
 refine⟨hc.ok.types,by omega,fun m hm=> ?_,fun m hm=> ?_,fun m hm=>(Di hc hm).2.2⟩
 ·obtain⟨⟨n,h1,h2⟩,_⟩:=Di hc hm;rw[hl,h2];omega
 ·obtain⟨_,⟨n,h1,h2⟩,_⟩:=Di hc hm;rw[hl,h2];omega
theorem w1e{a d:Aut}(h:OkA a)(hd:T6 a=(0,d)):∃Q,Lu a (Q5 a.types.toNat (onA a))=some Q∧Sub a (Q5 a.types.toNat (onA a)) Q∧Cls a (Q5 a.types.toNat (onA a))∧
  O5 a=(0,Q5 a.types.toNat (onA a),Q)∧d=Um a (Q5 a.types.toNat (onA a)) Q∧OkA d∧S7 d∧d.types=a.types∧∀w,(∀x∈w,Rm a x)→N2 d w=N2 a w:=by
 unfold T6 at hd;rcases X3 h with hs|⟨Q,hs,hq,z1,z6⟩
 ·rw[hs,if_pos (by decide)]at hd;cases(Prod.mk.inj hd).1
 ·rw[hs,if_neg (by simp)]at hd;obtain⟨rfl,hk⟩:=k0e (u1o z6 z1) hd;exact⟨Q,hq,z1,z6,hs,rfl,hk,z04 z6 z1,rfl,fun w hw=>f1i z6 z1 hw⟩
theorem w1n{a:Aut}(hw:WfA a)(hd:S7 a)(hf:x0f a){s:Int}(h0:0≤s)(h1:s<a.fin.length){x:Sy}(hx:Rm a x):∃t:Int,0≤t∧t<a.fin.length∧Wh a [s] x=[t]:=by
 obtain⟨m,hm,e,hh⟩:=hf s h0 h1 x hx;refine⟨m.dst,(hw.dst m hm).1,(hw.dst m hm).2,Uf (U1 ..) (by simp) fun z=> ?_⟩;rw[E7];constructor
 ·rintro⟨_,k,hk,h2,h3,h4⟩;obtain h2:=zQ.1 h2;have:k=m∨k.dst=m.dst:=by
   obtain⟨i,hi⟩:=yJ.1 hm;obtain⟨j,hj⟩:=yJ.1 hk;obtain⟨z7,z1⟩:=zB.1 hi;obtain⟨z8,z6⟩:=zB.1 hj;by_cases hij:i=j
   ·subst hij;left;rw[←z1,←z6]
   ·exfalso;rcases uz hij with hlt|hgt
    ·have:=yU.1 hd i j z7 z8 hlt;rw[z1,z6]at this;exact this (by rw[e,h2]) x hx ⟨hh,h3⟩
    ·have:=yU.1 hd j i z8 z7 hgt;rw[z1,z6]at this;exact this (by rw[e,h2]) x hx ⟨h3,hh⟩
  rcases this with rfl|this
  ·rw[←h4];simp
  ·rw[←h4,this];simp
 ·intro hz;obtain rfl:=zQ.1 hz;exact⟨hw.dst m hm,m,hm,by rw[e];simp,hh,rfl⟩
theorem x1c{a:Aut}{cl:List Prd}(hc:Cls a cl){c:Prd}(hm:c∈cl):Rm a (Qp c):=by have h:=(Wz (hc.wf c hm).1 (hc.wf c hm).2).1;have h2:=(hc.wf c hm).1.lt h;exact⟨⟨by simp[Qp],by simp only[Qp];omega⟩,h2.2⟩
end Go.Abs
namespace Go.Abs
def v14(p:Prd):Bool:=decide (p.length≤4) && p.all fun s=>decide (s.length≤12)
def u1v(a:Aut):Bool:=decide (a.fin.length≤8) && decide (a.mv.length≤16) && a.mv.all fun m=>v14 m.on
theorem z0q{p:Prd}:v14 p=true↔p.length≤4∧∀s∈p,s.length≤12:=by simp[v14]
theorem w0q(l:List Iv):(Ej l).length≤l.length:=by have h1:=Rq (E3 l) [];have h2:=(Oq l).1.length_eq;rw[Ej];simp at h1;omega
theorem v1j{l:List Iv}(h:Sep l)(hb:∀n,M l n→inR n):(Wv l).length≤l.length+1:=(Ps h hb).2.2
theorem q1a(T:Nat):∀x∈Ws T,x.length=1:=fun x hx=>by obtain rfl:=vJ hx;rfl
def x2e(a:Aut)(l:List Int)(x:Sy):Int×List Int:=if Wx a≠0 then(Wx a,[])else if 256<l.length then(5,[])else
 if l.any (fun s=>decide (s<0) || decide ((a.fin.length:Int)≤s))then(6,[])else if P6 a.types x≠0 then(P6 a.types x,[])else(0,Wh a l x)
theorem N0{n:Nat}{l:List Int}(h:l.Pairwise (·<·))(hr:∀s∈l,0≤s∧s<n):l.length≤n:=by
 have he:l=(Ey n).filter fun z=>decide (z∈l):=Uf h ((Hp n).filter _) fun z=>by rw[xW,Ew];exact⟨fun hz=>⟨hr z hz,by simpa using hz⟩,fun hz=>by simpa using hz.2⟩
 have h1:=wd (fun z=>decide (z∈l)) (Ey n);rw[←he]at h1;simpa[Ey]using h1
theorem Zm{a:Aut}(h:OkA a)(l:List Int)(x:Sy):(Wh a l x).length≤256:=by have:=N0 (U1 a l x) Ae;have:=h.fin;omega
def z0n(p q:Prd):Bool:= !Wf (Wc p q)
def Ny(a:Aut):Bool:=(yO a.mv.length).all fun i=>(yO i).all fun k=> !(decide ((a.mv.getD i default).src=(a.mv.getD k default).src) && z0n (a.mv.getD i default).on (a.mv.getD k default).on)
theorem Xb{T:Nat}{p q:Prd}(hp:PWf T p)(hq:PWf T q):z0n p q=true↔∃t n,PM p t n∧PM q t n:=by
 unfold z0n;cases hv:Wf (Wc p q)
 ·simp only[Bool.not_false,true_iff];apply Classical.byContradiction;intro hn;have:=(Rz (Ya hp hq.1)).2 (fun t n hm=>hn ⟨t,n,(Em hp.1 hq.1 t n).1 hm⟩);rw[hv]at this;cases this
 ·simp only[Bool.not_true,Bool.false_eq_true,false_iff];rintro⟨t,n,hm⟩;exact(Rz (Ya hp hq.1)).1 hv t n ((Em hp.1 hq.1 t n).2 hm)
theorem k18{a:Aut}(h:WfA a):Ny a=true↔S7 a:=by
 unfold Ny S7;rw[zX,yU];have hg:∀(i:Nat) (hi:i<a.mv.length),a.mv.getD i default=a.mv[i]:=fun i hi=>by simp[yX,hi]
 constructor
 ·intro hs i j hi hj z6 e x hx;rintro⟨h1,h2⟩;have:=hs j (y_.2 hj);rw[zX]at this;have:=this i (y_.2 z6);rw[hg j hj,hg i hi,e]at this;have hc:z0n a.mv[j].on a.mv[i].on=true:=(Xb (h.on _ (zL hj)) (h.on _ (zL hi))).2 ⟨_,_,(Tq h (zL hj) hx).1 h2,(Tq h (zL hi) hx).1 h1⟩;rw[hc]at this;simp at this
 ·intro hd i hi;have hi:=y_.1 hi;rw[zX];intro k hk;have hk:=y_.1 hk;have z1:k<a.mv.length:=by omega
  rw[hg i hi,hg k z1];by_cases e:a.mv[i].src=a.mv[k].src
  ·cases hc:z0n a.mv[i].on a.mv[k].on
   ·simp
   ·exfalso;obtain⟨t,n,h1,h2⟩:=(Xb (h.on _ (zL hi)) (h.on _ (zL z1))).1 hc;have hb:=(h.on _ (zL hi)).lt h1;have hx:Rm a ⟨t,n⟩:=⟨⟨by simp,by simp only;omega⟩,hb.2⟩
    exact hd k i z1 hi hk e.symm ⟨t,n⟩ hx ⟨(Tq h (zL z1) hx).2 (by simpa using h2),(Tq h (zL hi) hx).2 (by simpa using h1)⟩
  ·simp[e]
end Go.Abs
namespace Go.Abs
open Go Go.Proofs
attribute [simp] T74 T76 T91 T78 T23 T22 T25 T53 T45 T28
@[simp] def encP (p:Prd):AV:= .agg [.list (p.map encL)]
abbrev LP (l:List Prd):AV:= .list (l.map encP)
@[simp] def encSy (x:Sy):AV:= .agg [.i x.ty,.i x.num]
@[simp] def encMv (m:Mv):AV:= .agg [.i m.src,.i m.dst,.list (m.on.map encL)]
@[simp] def encA (a:Aut):AV:= .agg [.i a.types,.list (a.fin.map .bool),.list (a.mv.map encMv)]
attribute [local irreducible] ckR
theorem P8(T:Int)(p:Prd):PC Tryz.prog 82 [.i T,encP p] (fun r=>r= .i (E5 T p)):=by
 refine Qk tOk Tryz.func82 rfl Tryz.results82 rfl (by simp[Tryz.ntmps82]) ?_;rw[Tryz.ntmps82];simp only[Qg];simp only[encP];refine W2 1 0 rfl rfl (fun hlen=> ?_);rw[yB]at hlen;repeat first|(refine r_ ?_;simp)|refine q_ ?_
 refine Qa rfl (fun h=> ?_) (fun h=> ?_)
 ·repeat first|(refine r_ ?_;simp)|refine q_ ?_
  rw[E5,if_pos (by simpa using h)]
 have h':¬(T<1∨16<T):=by simpa using h
 repeat first|(refine r_ ?_;simp)|refine q_ ?_
 refine Qa rfl (fun h2=> ?_) (fun h2=> ?_)
 ·repeat first|(refine r_ ?_;simp)|refine q_ ?_
  rw[E5,if_neg h',if_pos (by simpa using h2)]
 have z7:(p.length:Int)=T:=by simpa using h2
 have hE:E5 T p=x02 p:=by rw[E5,if_neg h',if_neg (by simpa using z7)]
 rw[hE];repeat first|(refine r_ ?_;simp)|refine q_ ?_
 refine Qt p.length (fun j=>x02 p=x02 (p.drop j)) (fun j=>[(22,.list (p.map encL)),(23,.i p.length),(24,.i j)]) (fun _=>[]) rfl (by simp) (by simp) (by simp) (by simp) (by simp) ?_;intro j hj hI ih;repeat first|(refine r_ ?_;simp)|refine q_ ?_
 refine Qa rfl (fun z8=> ?_) (fun za=> ?_)
 ·have z1:j<p.length:=by simpa using z8
  have hw:IntKind.i64.wrap ((j:Int)+1)=j+1:=wrap_i64 _ (by omega) (by omega);rw[W3 z1,x02]at hI;repeat first|(refine r_ ?_;simp[z1])|refine q_ ?_
  refine Qe rfl rfl (by simp) (w0o p[j]) rfl ?_;rintro _ rfl;simp;repeat first|(refine r_ ?_;simp)|refine q_ ?_
  refine Qa rfl (fun h3=> ?_) (fun h3=> ?_)
  ·repeat first|(refine r_ ?_;simp)|refine q_ ?_
   rw[hI,if_pos (by simpa using h3)]
  rw[if_neg (by simpa using h3)]at hI;repeat first|(refine r_ ?_;simp[hw])|refine q_ ?_
  refine Qr _ (ih z1 hI) rfl (by simp) ?_ (by simp) (by simp);simp
 ·have z6:j=p.length:=by simp at za;omega
  subst z6;repeat first|(refine r_ ?_;simp)|refine q_ ?_
  rw[hI,xF];rfl
theorem v0q(T:Int)(p:Prd):PC Tryz.prog 116 [.i T,encP p] (fun r=>r= .i (E5 T p)):=by
 refine Qk tOk Tryz.func116 rfl Tryz.results116 rfl (by simp[Tryz.ntmps116]) ?_;rw[Tryz.ntmps116];simp only[Qg];simp only[encP];refine W2 1 0 rfl rfl (fun hlen=> ?_);rw[yB]at hlen;repeat first|(refine r_ ?_;simp)|refine q_ ?_
 refine Qa rfl (fun h=> ?_) (fun h=> ?_)
 ·repeat first|(refine r_ ?_;simp)|refine q_ ?_
  rw[E5,if_pos (by simpa using h)]
 have h':¬(T<1∨16<T):=by simpa using h
 repeat first|(refine r_ ?_;simp)|refine q_ ?_
 refine Qa rfl (fun h2=> ?_) (fun h2=> ?_)
 ·repeat first|(refine r_ ?_;simp)|refine q_ ?_
  rw[E5,if_neg h',if_pos (by simpa using h2)]
 have z7:(p.length:Int)=T:=by simpa using h2
 have hE:E5 T p=x02 p:=by rw[E5,if_neg h',if_neg (by simpa using z7)]
 rw[hE];repeat first|(refine r_ ?_;simp)|refine q_ ?_
 refine Qt p.length (fun j=>x02 p=x02 (p.drop j)) (fun j=>[(0,.i T),(3,.vptr 0 0),(5,.i j)]) (fun _=>[.vars [.list (p.map encL)]]) rfl (by simp) (by simp) (by simp) (by simp) (by simp) ?_;intro j hj hI ih;repeat first|(refine r_ ?_;simp)|refine q_ ?_
 refine Qa rfl (fun z8=> ?_) (fun za=> ?_)
 ·have z1:j<p.length:=by have k:(j:Int)<T:=(by simpa using z8);omega
  have hw:IntKind.i64.wrap ((j:Int)+1)=j+1:=wrap_i64 _ (by omega) (by omega);rw[W3 z1,x02]at hI;repeat first|(refine r_ ?_;simp[z1])|refine q_ ?_
  refine Qe rfl rfl (by simp) (q1h p[j]) rfl ?_;rintro _ rfl;simp;repeat first|(refine r_ ?_;simp)|refine q_ ?_
  refine Qa rfl (fun h3=> ?_) (fun h3=> ?_)
  ·repeat first|(refine r_ ?_;simp)|refine q_ ?_
   rw[hI,if_pos (by simpa using h3)]
  rw[if_neg (by simpa using h3)]at hI;repeat first|(refine r_ ?_;simp[hw])|refine q_ ?_
  refine Qr _ (ih z1 hI) rfl (by simp) ?_ (by simp) (by simp);simp
 ·have z6:j=p.length:=by have k:¬(j:Int)<T:=(by simpa using za);omega
  subst z6;repeat first|(refine r_ ?_;simp)|refine q_ ?_
  rw[hI,xF];rfl
end Go.Abs
namespace Go.Abs
open Go Go.Proofs
def Jm:List Prd→Int
 |[]=>0
 |p::r=>if E5 p.length p≠0 then E5 p.length p else Jm r
attribute [local irreducible] E5
theorem Ld(l:List Prd):PC Tryz.prog 157 [LP l] (fun r=>r= .i (Jm l)):=by
 refine Qk tOk Tryz.func157 rfl Tryz.results157 rfl (by simp[Tryz.ntmps157]) ?_;rw[Tryz.ntmps157];simp only[Qg];refine Ys 0 rfl (fun hlen=> ?_);rw[yB]at hlen;repeat first|(refine r_ ?_;simp)|refine q_ ?_
 refine Qt l.length (fun j=>Jm l=Jm (l.drop j)) (fun j=>[(6,LP l),(7,.i l.length),(8,.i j)]) (fun _=>[]) rfl (by simp) (by simp) (by simp) (by simp) (by simp) ?_;intro j hj hI ih;repeat first|(refine r_ ?_;simp)|refine q_ ?_
 refine Qa rfl (fun z7=> ?_) (fun z8=> ?_)
 ·have z1:j<l.length:=by simpa using z7
  have hw:IntKind.i64.wrap ((j:Int)+1)=j+1:=wrap_i64 _ (by omega) (by omega);rw[W3 z1,Jm]at hI;repeat first|(refine r_ ?_;simp[z1])|refine q_ ?_
  refine Qe rfl rfl (by simp) (P8 l[j].length l[j]) rfl ?_;rintro _ rfl;simp;repeat first|(refine r_ ?_;simp)|refine q_ ?_
  refine Qa rfl (fun h3=> ?_) (fun h3=> ?_)
  ·repeat first|(refine r_ ?_;simp)|refine q_ ?_
   rw[hI,if_pos (by simpa using h3)]
  rw[if_neg (by simpa using h3)]at hI;repeat first|(refine r_ ?_;simp[hw])|refine q_ ?_
  refine Qr _ (ih z1 hI) rfl (by simp) ?_ (by simp) (by simp);simp
 ·have z6:j=l.length:=by simp at z8;omega
  subst z6;repeat first|(refine r_ ?_;simp)|refine q_ ?_
  rw[hI,xF];rfl
def q1r(p:Prd)(x:Sy):Int:=if Jm [p]≠0 then Jm [p]else P6 p.length x
def X4(p:Prd)(x:Sy):Bool×Int:=if q1r p x≠0 then(false,q1r p x)else(R7 p x,0)
attribute [local irreducible] Jm x17
theorem v15{T:Int}{p:Prd}(h:E5 T p=0):Jm [p]=0∧(p.length:Int)=T:=by
 obtain⟨h1,h2⟩:=(Ec T p).1 h;have hl:(p.length:Int)=T:=by have:=h2.1;omega
 exact⟨by unfold Jm;rw[hl,if_neg (fun k=>k h)];unfold Jm;rfl,hl⟩
theorem j0w{p:Prd}(h:Jm [p]=0):∀s∈p,CanonL s:=by
 unfold Jm at h;by_cases hc:E5 p.length p=0
 ·exact((Ec _ p).1 hc).2.2
 ·rw[if_pos hc]at h;exact absurd h hc
theorem Y3(p:Prd)(x:Sy):PC Tryz.prog 99 [encP p,encSy x] (fun r=>r= .tup [.bool (X4 p x).1,.i (X4 p x).2]):=by
 refine Qk tOk Tryz.func99 rfl Tryz.results99 rfl (by simp[Tryz.ntmps99]) ?_;rw[Tryz.ntmps99];simp only[Qg];simp only[encP,encSy];refine W2 0 0 rfl rfl (fun hlen=> ?_);rw[yB]at hlen;repeat first|(refine r_ ?_;simp)|refine q_ ?_
 refine Iz 2 rfl ?_;simp;refine Qe rfl rfl (by simp) (Ld [p]) rfl ?_;rintro _ rfl;simp;repeat first|(refine r_ ?_;simp)|refine q_ ?_
 refine Qa rfl (fun h=> ?_) (fun h=> ?_)
 ·repeat first|(refine r_ ?_;simp)|refine q_ ?_
  have h':Jm [p]≠0:=by simpa using h
  have hE:q1r p x=Jm [p]:=by rw[q1r,if_pos h']
  rw[X4,hE,if_pos h'];exact⟨rfl,rfl⟩
 have h':Jm [p]=0:=by simpa using h
 have hE:q1r p x=P6 p.length x:=by rw[q1r,if_neg (fun k=>k h')]
 repeat first|(refine r_ ?_;simp)|refine q_ ?_
 refine Qa rfl (fun h1=> ?_) (fun h1=> ?_)
 ·repeat first|(refine r_ ?_;simp)|refine q_ ?_
  have z6:x.ty<0∨(p.length:Int)≤x.ty:=by simpa using h1
  have z1:q1r p x=6:=by rw[hE,P6,if_pos z6]
  rw[X4,z1];exact⟨rfl,rfl⟩
 have z6:¬(x.ty<0∨(p.length:Int)≤x.ty):=by simpa using h1
 repeat first|(refine r_ ?_;simp)|refine q_ ?_
 refine Qa rfl (fun h2=> ?_) (fun h2=> ?_)
 ·repeat first|(refine r_ ?_;simp)|refine q_ ?_
  have z7:x.num< -1099511627776∨1099511627776<x.num:=by simpa using h2
  have z1:q1r p x=2:=by rw[hE,P6,if_neg z6,if_pos z7]
  rw[X4,z1];exact⟨rfl,rfl⟩
 have z7:¬(x.num< -1099511627776∨1099511627776<x.num):=by simpa using h2
 have z1:q1r p x=0:=by rw[hE,P6,if_neg z6,if_neg z7]
 repeat first|(refine r_ ?_;simp)|refine q_ ?_
 have zb:0≤x.ty:=by omega
 have zc:x.ty<(p.length:Int):=by omega
 have z8:x.ty.toNat<p.length:=by omega
 refine Qm tOk mixed [] (.val 0 (.val 1 (.val 2 (.val 3 (.val 4 (.val 5 (.val 6 (.val 7 (.one 8 (.val 9 (.val 10 (.val 11 (.val 12 (.done)))))))))))))) rfl (by kernel_rfl) ?_;simp[zb,zc,z8];refine Qe rfl rfl (by simp) (Jg p[x.ty.toNat] x.num) rfl ?_;rintro _ rfl;simp;repeat first|(refine r_ ?_;simp)|refine q_ ?_
 have hc:=j0w h' _ (zL z8);have za:x17 p[x.ty.toNat] x.num=(Pj p[x.ty.toNat] x.num,0):=by rw[x17,if_pos ((Bp _).2 hc)]
 rw[X4,z1,if_neg (fun k=>k rfl),za];refine⟨?_,rfl⟩;simp[R7,zb,zc,yX,z8]
theorem Md{T:Int}{p:Prd}(h:E5 T p=0)(x:Sy):X4 p x=if P6 T x≠0 then(false,P6 T x)else(R7 p x,0):=by
 obtain⟨h1,h2⟩:=v15 h;have hE:q1r p x=P6 T x:=by rw[q1r,if_neg (fun k=>k h1),h2]
 rw[X4,hE]
end Go.Abs
namespace Go.Abs
open Go Go.Proofs
abbrev Q4 (a:Aut):List AV:=[.i a.types,.list (a.fin.map .bool),.list (a.mv.map encMv)]
theorem g1m(p:Prd)(x:Sy):PC Tryz.prog 175 [encP p,encSy x] (fun r=>r= .bool ((X4 p x).2==0 && (X4 p x).1)):=by
 refine Qk tOk Tryz.func175 rfl Tryz.results175 rfl (by simp[Tryz.ntmps175]) ?_;rw[Tryz.ntmps175];simp only[Qg];simp only[encP,encSy];repeat first|(refine r_ ?_;simp)|refine q_ ?_
 refine Qe rfl rfl (by simp) (Y3 p x) rfl ?_;rintro _ rfl;simp;repeat first|(refine r_ ?_;simp)|refine q_ ?_
def stB(a:Aut)(n:Int):Bool:=decide (0≤n) && decide (n<a.fin.length)
theorem Z6(a:Aut)(n:Int):stB a n=true↔0≤n∧n<a.fin.length:=by simp[stB]
theorem Zi(H:List AObj)(id:Nat)(a:Aut)(hid:H[id]? =some (.vars (Q4 a)))(n:Int):FC Tryz.prog 134 [.i n,.vptr id 0] H (fun r H'=>r= .bool (stB a n)∧H'=H):=by refine W6 tOk Tryz.func134 rfl Tryz.results134 rfl (by simp[Tryz.ntmps134]) ?_;rw[Tryz.ntmps134];simp only[Qg];repeat first|(refine r_ ?_;simp[hid,stB])|refine q_ ?_
attribute [local irreducible] E5 stB
theorem I9(a:Aut):PC Tryz.prog 73 [encA a] (fun r=>r= .i (Wx a)):=by
 refine Qk tOk Tryz.func73 rfl Tryz.results73 rfl (by simp[Tryz.ntmps73]) ?_;rw[Tryz.ntmps73];simp only[Qg];simp only[encA];refine W2 0 1 rfl rfl (fun z7=> ?_);refine W2 0 2 rfl rfl (fun z8=> ?_);rw[yB]at z7 z8;repeat first|(refine r_ ?_;simp)|refine q_ ?_
 refine Qa rfl (fun h=> ?_) (fun h=> ?_)
 ·repeat first|(refine r_ ?_;simp)|refine q_ ?_
  rw[Wx,if_pos (by simpa using h)]
 have h1:¬(a.types<1∨16<a.types):=by simpa using h
 repeat first|(refine r_ ?_;simp)|refine q_ ?_
 refine Qa rfl (fun h=> ?_) (fun h=> ?_)
 ·repeat first|(refine r_ ?_;simp)|refine q_ ?_
  rw[Wx,if_neg h1,if_pos];simp at h;omega
 have h2:¬(a.fin.length<1∨256<a.fin.length∨2048<a.mv.length):=by simp at h;omega
 have hE:Wx a=v0y a.types a.fin.length a.mv:=by rw[Wx,if_neg h1,if_neg h2]
 rw[hE];repeat first|(refine r_ ?_;simp)|refine q_ ?_
 refine Qt a.mv.length (fun j=>v0y a.types a.fin.length a.mv=v0y a.types a.fin.length (a.mv.drop j)) (fun j=>[(1,.vptr 0 0),(3,.fn (.func 134) [] [.vptr 0 0]),(33,.list (a.mv.map encMv)),(34,.i a.mv.length),(35,.i j)]) (fun _=>[.vars (Q4 a)]) rfl (by simp) (by simp) (by simp) (by simp) (by simp) ?_;intro j hj hI ih;repeat first|(refine r_ ?_;simp)|refine q_ ?_
 refine Qa rfl (fun za=> ?_) (fun zb=> ?_)
 ·have z1:j<a.mv.length:=by simpa using za
  have hw:IntKind.i64.wrap ((j:Int)+1)=j+1:=wrap_i64 _ (by omega) (by omega);rw[W3 z1,v0y]at hI;repeat first|(refine r_ ?_;simp[z1])|refine q_ ?_
  cases hb:stB a a.mv[j].src with
  |false=>
   refine Q7 rfl rfl (Zi _ 0 a rfl a.mv[j].src) rfl ?_;rintro r H' ⟨rfl,rfl⟩;simp[hb];repeat first|(refine r_ ?_;simp)|refine q_ ?_
   refine Q9 rfl rfl ?_;simp;refine Ql rfl ?_;repeat first|(refine r_ ?_;simp)|refine q_ ?_
   rw[hI,if_pos (fun k=>by rw[(Z6 _ _).2 k.1]at hb;cases hb)]
  |true=>
   refine Q7 rfl rfl (Zi _ 0 a rfl a.mv[j].src) rfl ?_;rintro r H' ⟨rfl,rfl⟩;simp[hb];repeat first|(refine r_ ?_;simp)|refine q_ ?_
   refine Q7 rfl rfl (Zi _ 0 a rfl a.mv[j].dst) rfl ?_;rintro r H' ⟨rfl,rfl⟩;simp;repeat first|(refine r_ ?_;simp)|refine q_ ?_
   refine Qa rfl (fun h3=> ?_) (fun h3=> ?_)
   ·repeat first|(refine r_ ?_;simp)|refine q_ ?_
    rw[hI,if_pos (fun k=>by rw[(Z6 _ _).2 k.2]at h3;cases h3)]
   have hd:stB a a.mv[j].dst=true:=by simpa using h3
   rw[if_neg (fun k=>k ⟨(Z6 _ _).1 hb,(Z6 _ _).1 hd⟩)]at hI;repeat first|(refine r_ ?_;simp)|refine q_ ?_
   refine Qe rfl rfl (by simp) (P8 a.types a.mv[j].on) rfl ?_;rintro _ rfl;simp;repeat first|(refine r_ ?_;simp)|refine q_ ?_
   refine Qa rfl (fun h4=> ?_) (fun h4=> ?_)
   ·repeat first|(refine r_ ?_;simp)|refine q_ ?_
    rw[hI,if_pos (by simpa using h4)]
   rw[if_neg (by simpa using h4)]at hI;repeat first|(refine r_ ?_;simp[hw])|refine q_ ?_
   refine Qr _ (ih z1 hI) rfl (by simp) ?_ (by simp) (by simp);simp
 ·have z6:j=a.mv.length:=by simp at zb;omega
  subst z6;repeat first|(refine r_ ?_;simp)|refine q_ ?_
  rw[hI,xF];rfl
theorem x0h(a:Aut):PC Tryz.prog 51 [encA a] (fun r=>r= .i (Wx a)):=by
 refine Qk tOk Tryz.func51 rfl Tryz.results51 rfl (by simp[Tryz.ntmps51]) ?_;rw[Tryz.ntmps51];simp only[Qg];simp only[encA];refine W2 0 1 rfl rfl (fun z7=> ?_);refine W2 0 2 rfl rfl (fun z8=> ?_);rw[yB]at z7 z8;repeat first|(refine r_ ?_;simp)|refine q_ ?_
 refine Qa rfl (fun h=> ?_) (fun h=> ?_)
 ·repeat first|(refine r_ ?_;simp)|refine q_ ?_
  rw[Wx,if_pos (by simpa using h)]
 have h1:¬(a.types<1∨16<a.types):=by simpa using h
 repeat first|(refine r_ ?_;simp)|refine q_ ?_
 refine Qa rfl (fun h=> ?_) (fun h=> ?_)
 ·repeat first|(refine r_ ?_;simp)|refine q_ ?_
  rw[Wx,if_neg h1,if_pos];simp at h;omega
 have h2:¬(a.fin.length<1∨256<a.fin.length∨2048<a.mv.length):=by simp at h;omega
 have hE:Wx a=v0y a.types a.fin.length a.mv:=by rw[Wx,if_neg h1,if_neg h2]
 rw[hE];repeat first|(refine r_ ?_;simp)|refine q_ ?_
 refine Qt a.mv.length (fun j=>v0y a.types a.fin.length a.mv=v0y a.types a.fin.length (a.mv.drop j)) (fun j=>[(1,.vptr 0 0),(3,.i a.fin.length),(4,.i j)]) (fun _=>[.vars (Q4 a)]) rfl (by simp) (by simp) (by simp) (by simp) (by simp) ?_;intro j hj hI ih;repeat first|(refine r_ ?_;simp)|refine q_ ?_
 refine Qa rfl (fun za=> ?_) (fun zb=> ?_)
 ·have z1:j<a.mv.length:=by simpa using za
  have hw:IntKind.i64.wrap ((j:Int)+1)=j+1:=wrap_i64 _ (by omega) (by omega);rw[W3 z1,v0y]at hI;repeat first|(refine r_ ?_;simp[z1])|refine q_ ?_
  refine Qa rfl (fun h3=> ?_) (fun h3=> ?_)
  ·repeat first|(refine r_ ?_;simp)|refine q_ ?_
   rw[hI,if_pos];simp at h3;omega
  rw[if_neg (by simp at h3 ⊢;omega)]at hI;repeat first|(refine r_ ?_;simp)|refine q_ ?_
  refine Qe rfl rfl (by simp) (v0q a.types a.mv[j].on) rfl ?_;rintro _ rfl;simp;repeat first|(refine r_ ?_;simp)|refine q_ ?_
  refine Qa rfl (fun h4=> ?_) (fun h4=> ?_)
  ·repeat first|(refine r_ ?_;simp)|refine q_ ?_
   rw[hI,if_pos (by simpa using h4)]
  rw[if_neg (by simpa using h4)]at hI;repeat first|(refine r_ ?_;simp[hw])|refine q_ ?_
  refine Qr _ (ih z1 hI) rfl (by simp) ?_ (by simp) (by simp);simp
 ·have z6:j=a.mv.length:=by simp at zb;omega
  subst z6;repeat first|(refine r_ ?_;simp)|refine q_ ?_
  rw[hI,xF];rfl
end Go.Abs
