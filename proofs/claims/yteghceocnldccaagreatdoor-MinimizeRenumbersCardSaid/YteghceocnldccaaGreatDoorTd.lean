/- Part Td of the proof: an abstract machine over the model, and what the functions of the program hand back in its terms. No condition. -/
import Derived.Test.YteghceocnldccaaGreatDoorTc
import Derived.Test.YteghceocnldccaaGreatDoorTb
set_option linter.all false
open List renaming eq_nil_or_concat→wQ,concat_eq_append→wR,getLast?_append→tk,getLast?_singleton→uX,dropLast_concat→tl,mem_append→yE,foldl_cons→xY,length_cons→y_,length_take→wD,take_succ_eq_append_getElem→z_,take_of_length_le→zZ,map_take→xT,map_drop→xU,take_length→xD,take_append_drop→wd,mem_cons→yL,getElem?_append_right→zO,length_map→yP,drop_length→wn,getElem_of_mem→xG,getElem_mem→zT,any_eq_true→wO,any_eq_false→vM,replicate→yB,cons_append→uv,length_filter_le→xW,perm_middle→vQ,pairwise_append→yR,pairwise_cons→yX,pairwise_iff_getElem→yU,getElem_take→tB,pairwise_mergeSort→uY,mem_mergeSort→tw,mem_flatMap→w_,mem_filterMap→vX,countP_cons→vN,countP_eq_zero→tr,map_cons→xI,sum_cons→uE,getElem?_eq_some_iff→zE,mem_of_getElem?→zL,getElem?_eq_getElem→zP,perm_ext_iff_of_nodup→uQ,zipWith→se,getElem?_replicate→vZ,eq_of_mem_replicate→vU,getElem?_zipWith→vJ,mem_iff_getElem?→yQ,getElem?_map→yI,all_eq_true→yH,isEmpty_iff→tJ,mem_singleton→zW,pairwise_flatMap→um,range→yW,getD→yV,getElem?_set_self→zU,getElem?_set_ne→zH,mem_cons_of_mem→tp,map_congr_left→xP,mem_map→zX,mem_range→xH,pairwise_map→wS,mem_filter→xV,mem_append_left→xL,findIdx?_eq_some_iff_getElem→xO,getElem_inj→u6,getElem?_append_left→zI,eq_nil_iff_forall_not_mem→vY,mem_append_right→uw
open Option renaming some_or→tH,map_eq_some_iff→zY
open Nat renaming le_refl→zV,le_trans→yY,lt_trichotomy→vS,lt_or_gt_of_ne→uI
open Bool renaming eq_iff_iff→x_,not_eq_true→uR
open Int renaming le_refl→xB,lt_trichotomy→tI
set_option maxHeartbeats 2000000
set_option linter.unusedSimpArgs false
set_option maxRecDepth 100000
namespace Go.Abs
open Go Go.Proofs
def w2d:List Iv→Int
 |[]=>0
 |x::r=>if(Sl x != 0)=true then Sl x else w2d r
def Qy(acc l:List Iv):List Iv:=l.foldl Ww acc
def j0q(l:List Iv):Int:=if decide ((256:Int)<l.length)=true then 5 else w2d l
def y2g(l:List Iv)(r:AV):Prop:=(j0q l≠0∧r= .tup [.list [],.i (j0q l)])∨(j0q l=0∧l.length≤256∧w2d l=0∧∃l':List Iv,l'.Perm l∧Zr l'∧r= .tup [LIv (Qy [] l'),.i 0])
theorem X1{x:Iv}(h:Sl x=0):Ie x∧x.lo≤x.hi:=by
 unfold Sl at h;by_cases h1:(!inB x.lo || !inB x.hi)=true
 ·rw[if_pos h1]at h;cases h
 ·rw[if_neg h1]at h;by_cases h2:decide (x.hi<x.lo)=true
  ·rw[if_pos h2]at h;cases h
  ·exact⟨by simpa[Ie]using h1,by simpa using h2⟩
theorem u12{acc:List Iv}{x:Iv}(ha:∀y∈acc,Ie y)(hx:Ie x):∀y∈Ww acc x,Ie y:=by
 rcases wQ acc with rfl|⟨ini,z,rfl⟩
 ·simpa[Ww]using hx
 ·have hz:=ha z (by simp);have hi:∀y∈ini,Ie y:=fun y hy=>ha y (by simp[hy]);intro y hy;simp only[Ww,wR,tk,uX,tH,tl]at hy;split at hy
  ·rcases yE.1 hy with h|h
   ·exact hi y h
   ·simp at h;subst h;refine⟨hz.1,?_⟩;simp only;split
    ·exact hx.2
    ·exact hz.2
  ·rcases yE.1 hy with h|h
   ·rcases yE.1 h with h|h
    ·exact hi y h
    ·simp at h;subst h;exact hz
   ·simp at h;subst h;exact hx
theorem c0v(acc:List Iv)(x:Iv):(Ww acc x).length≤acc.length+1:=by
 rcases wQ acc with rfl|⟨ini,z,rfl⟩
 ·simp[Ww]
 ·simp only[Ww,wR,tk,uX,tH,tl];split<;>simp
theorem U5(acc l:List Iv)(x:Iv):Qy acc (l++[x])=Ww (Qy acc l) x:=by simp[Qy]
theorem Rl:∀(l acc:List Iv),(Qy acc l).length≤acc.length+l.length
 |[],acc=>by simp[Qy]
 |x::r,acc=>by have:=Rl r (Ww acc x);have:=c0v acc x;simp only[Qy,xY,y_]at *;omega
theorem I8:∀(l acc:List Iv),(∀y∈acc,Ie y)→(∀y∈l,Ie y)→∀y∈Qy acc l,Ie y
 |[],acc,h,_=>by simpa[Qy]using h
 |x::r,acc,h,hl=>I8 r (Ww acc x) (u12 h (hl x (by simp))) (fun y hy=>hl y (by simp[hy]))
attribute [local irreducible] Sl
end Go.Abs
namespace Go.Abs
open Go Go.Proofs
def c17(s:List Iv)(j:Nat)(x:Iv):Bool:=match s[j]? with|some y=>decide (x.lo<y.lo)|none=>false
def Yq(s:List Iv)(x:Iv):Nat→Nat
 |0=>0
 |j+1=>if c17 s j x=true then Yq s x j else j+1
def Zw(s:List Iv)(x:Iv):List Iv:=s.take (Yq s x s.length)++x::s.drop (Yq s x s.length)
def Eu(l:List Iv):List Iv:=l.foldl Zw []
theorem Fo(s:List Iv)(x:Iv):∀j,Yq s x j≤j
 |0=>zV _
 |j+1=>by
  rw[Yq];split
  ·exact Nat.le_succ_of_le (Fo s x j)
  ·exact zV _
theorem z1e(s:List Iv)(x:Iv):(Zw s x).length=s.length+1:=by have:=Fo s x s.length;simp[Zw];omega
theorem y09(l:List Iv)(x:Iv):Eu (l++[x])=Zw (Eu l) x:=by simp[Eu]
theorem J4:∀(l acc:List Iv),(l.foldl Zw acc).length=acc.length+l.length
 |[],acc=>by simp
 |x::r,acc=>by rw[xY,J4 r,z1e,y_];omega
theorem Ff(l:List Iv):(Eu l).length=l.length:=by rw[Eu,J4];simp
theorem k0n(l:List Iv)(hl:l.length≤1000000000):PC Tryz.prog 184 [LIv l] (fun r=>r=LIv (Eu l)):=by
 refine Ql tOk Tryz.func184 rfl Tryz.results184 rfl (by simp[Tryz.ntmps184]) ?_;rw[Tryz.ntmps184];simp only[Qf];repeat first|(refine r_ ?_;simp)|refine q_ ?_
 refine Vu 3 rfl ?_;simp;refine Qu l.length (fun _=>True) (fun j=>[(0,LIv l),(3,LIv (Eu (l.take j))),(4,.i j)]) (fun _=>[]) rfl (by simp) (by simp[Eu]) (by simp) (by simp) trivial ?_;intro j hj _ ih;obtain⟨s,hs⟩:∃s,Eu (l.take j)=s:=⟨_,rfl⟩
 have zj:s.length=j:=by rw[←hs,Ff,wD];omega
 rw[hs];repeat first|(refine r_ ?_;simp)|refine q_ ?_
 refine Qa rfl (fun zd=> ?_) (fun ze=> ?_)
 ·have z1:j<l.length:=by simpa using zd
  have hw:IntKind.i64.wrap ((j:Int)+1)=j+1:=wrap_i64 _ (by omega) (by omega);have za:Eu (l.take (j+1))=Zw s l[j]:=by rw[z_ z1,y09,hs]
  repeat first|(refine r_ ?_;simp)|refine q_ ?_
  obtain⟨q,hq⟩:∃q,Yq s l[j] s.length=q:=⟨_,rfl⟩
  refine Qr (Qd (sl':=[(0,LIv l),(3,LIv s),(4,.i j),(5,.i s.length)]) ?_ (by simp));refine Qq (F:=fun(u:Nat)=>⟨[(0,LIv l),(3,LIv s),(4,.i j),(5,.i u)],[]⟩) (fun u=>u≤s.length∧Yq s l[j] u=q) (fun u=>u) ?_ s.length ⟨zV _,hq⟩;rintro u ⟨hu,hI⟩ ih2;repeat first|(refine r_ ?_;simp)|refine q_ ?_
  rcases u with _|u
  ·have zf:IntKind.i64.wrap (-1)= -1:=by decide
   refine Qk tOk mixed [] (.val 0 (.val 1 (.val 2 (.val 3 (.val 4 (.val 5 (.val 6 (.val 7 (.val 8 (.val 9 (.val 10 (.val 11 (.val 12 (.val 13 (.val 14 (.val 15 (.done))))))))))))))))) rfl (by kernel_rfl) ?_;simp[zf,z1];refine Qm rfl ?_;repeat first|(refine r_ ?_;simp)|refine q_ ?_
   have zg:q=0:=hI.symm;subst zg;refine Qh tOk rfl rfl Pe rfl Dn rfl (by decide) (by decide) rfl rfl rfl ?_;simp[z1];refine⟨by simp[Wp,z1]<;>omega,?_⟩;repeat first|(refine r_ ?_;simp[z1,z1])|refine q_ ?_
   refine Qh tOk rfl rfl Pe rfl Dn rfl (by decide) (by decide) rfl rfl rfl ?_;simp[z1];refine⟨by simp[Wp,z1]<;>omega,?_⟩;repeat first|(refine r_ ?_;simp[z1,z1])|refine q_ ?_
   refine Qh tOk rfl rfl Pe rfl Dn rfl (by decide) (by decide) rfl rfl rfl ?_;simp[z1];refine⟨by simp[Wp,z1]<;>omega,?_⟩;repeat first|(refine r_ ?_;simp[z1,hw])|refine q_ ?_
   refine Da 4 rfl ?_;simp[z1];refine Qs _ (ih z1 trivial) rfl (by simp) ?_ (by simp) (by simp);rw[za];simp;rw[zZ (by simp;omega)];rw[if_pos (by omega)]
   subst_vars
   simp[Zw, *]
  ·have zb:u<s.length:=by omega
   have zc:IntKind.i64.wrap (u:Int)=u:=wrap_i64 _ (by omega) (by omega);have zh:(u:Int)<s.length:=by omega
   have zi:c17 s u l[j]=decide (l[j].lo<s[u].lo):=by simp[c17,zb]
   rw[Yq,zi]at hI;refine Qk tOk mixed [] (.val 0 (.val 1 (.val 2 (.val 3 (.val 4 (.val 5 (.val 6 (.val 7 (.val 8 (.val 9 (.val 10 (.val 11 (.val 12 (.val 13 (.val 14 (.val 15 (.done))))))))))))))))) rfl (by kernel_rfl) ?_;simp[zb,z1,zc,zh];refine Qa rfl (fun h1=> ?_) (fun h1=> ?_)
   ·rw[if_pos h1]at hI;repeat first|(refine r_ ?_;simp[zc])|refine q_ ?_
    exact Qd (sl':=[(0,LIv l),(3,LIv s),(4,.i j),(5,.i u)]) (ih2 u ⟨by omega,hI⟩ (by omega)) (by simp)
   ·rw[if_neg (by simpa using h1)]at hI;have z6:(u:Int)+1≤s.length:=by omega
    have z7:(0:Int)≤(u:Int)+1:=by omega
    repeat first|(refine r_ ?_;simp[z6,z7])|refine q_ ?_
    refine Qh tOk rfl rfl Pe rfl Dn rfl (by decide) (by decide) rfl rfl rfl ?_;simp[z6,z7,-xT,←xT,-xU,←xU];refine⟨by simp[Wp,z6,z7,-xT,←xT,-xU,←xU]<;>omega,?_⟩;repeat first|(refine r_ ?_;simp[z1,z6,z7,-xT,←xT,-xU,←xU])|refine q_ ?_
    refine Qh tOk rfl rfl Pe rfl Dn rfl (by decide) (by decide) rfl rfl rfl ?_;simp[z6,z7,-xT,←xT,-xU,←xU];refine⟨by simp[Wp,z6,z7,-xT,←xT,-xU,←xU]<;>omega,?_⟩;repeat first|(refine r_ ?_;simp[z1,z6,z7,-xT,←xT,-xU,←xU])|refine q_ ?_
    refine Qh tOk rfl rfl Pe rfl Dn rfl (by decide) (by decide) rfl rfl rfl ?_;simp[z6,z7,-xT,←xT,-xU,←xU];refine⟨by simp[Wp,z6,z7,-xT,←xT,-xU,←xU]<;>omega,?_⟩;repeat first|(refine r_ ?_;simp[z6,z7,-xT,←xT,-xU,←xU,hw])|refine q_ ?_
    refine Da 4 rfl ?_;simp[z6,z7,-xT,←xT,-xU,←xU];refine Qs _ (ih z1 trivial) rfl (by simp) ?_ (by simp) (by simp);rw[za];simp;rw[zZ (by simp;omega)];rw[if_pos (by omega)]
    subst_vars
    simp[Zw, *]
 ·have z8:j=l.length:=by simp at ze;omega
  subst z8;repeat first|(refine r_ ?_;simp)|refine q_ ?_
  rw[←hs,xD]
end Go.Abs
namespace Go.Abs
open Go Go.Proofs
def Ef(l:List Iv):List Iv:=Qy [] (Eu l)
theorem W1(ini:List Iv)(y x:Iv):Ww (ini++[y]) x=if x.lo≤y.hi+1 then ini++[⟨y.lo,if y.hi<x.hi then x.hi else y.hi⟩]else ini++[y]++[x]:=by simp[Ww]
theorem z14(s:List Iv)(x y:Iv):y∈Zw s x↔y=x∨y∈s:=by
 have:(s.take (Yq s x s.length)++s.drop (Yq s x s.length))=s:=wd _ _;rw[Zw,yE,yL]
 conv=>rhs;rw[←this,yE]
 constructor<;>rintro(h|h|h)<;>simp[h]
theorem Ju:∀(l acc:List Iv) (y:Iv),y∈l.foldl Zw acc↔y∈acc∨y∈l
 |[],acc,y=>by simp
 |x::r,acc,y=>by
  rw[xY,Ju r,z14,yL];constructor
  ·rintro((h|h)|h)<;>simp[h]
  ·rintro(h|h|h)<;>simp[h]
theorem k0z(l:List Iv)(y:Iv):y∈Eu l↔y∈l:=by rw[Eu,Ju];simp
attribute [local irreducible] Eu
theorem d0l(l:List Iv)(hl:l.length≤1000000000)(zk:∀y∈l,Ie y):PC Tryz.prog 128 [LIv l] (fun r=>r=LIv (Ef l)):=by
 refine Ql tOk Tryz.func128 rfl Tryz.results128 rfl (by simp[Tryz.ntmps128]) ?_;rw[Tryz.ntmps128];simp only[Qf];repeat first|(refine r_ ?_;simp)|refine q_ ?_
 refine Qe rfl rfl (by simp) (k0n l hl) rfl ?_;rintro _ rfl;simp;repeat first|(refine r_ ?_;simp)|refine q_ ?_
 have hl':(Eu l).length≤1000000000:=by rw[Ff];exact hl
 have z8:∀y∈Eu l,Ie y:=fun y hy=>zk y ((k0z l y).1 hy);unfold Ef;generalize Eu l=s at hl' z8 ⊢;refine Wg 4 187 2 rfl ?_;simp;refine Qr (Qd (sl':=[(3,LIv s),(4,.sl 0 2 0 0),(5,.i 0)]) ?_ (by simp));refine Qq (F:=fun(u:Nat×Nat×List AObj)=>⟨[(3,LIv s),(4,.sl u.2.1 2 0 (Qy [] (s.take u.1)).length),(5,.i u.1)],u.2.2⟩)
  (fun u=>u.1≤s.length∧u.2.2[u.2.1]? =some (.arr 187 2 ((Qy [] (s.take u.1)).map encIv))) (fun u=>s.length - u.1) ?_ (0,0,[.arr 187 2 []]) ⟨by simp,rfl⟩
 rintro⟨j,q,H2⟩ ⟨hj,g1⟩ ih;simp only at hj g1 ih ⊢;repeat first|(refine r_ ?_;simp)|refine q_ ?_
 refine Qa rfl (fun zl=> ?_) (fun zm=> ?_)
 ·have z1:j<s.length:=by simpa using zl
  have hw:IntKind.i64.wrap ((j:Int)+1)=j+1:=wrap_i64 _ (by omega) (by omega);have zc:(Qy [] (s.take j)).length≤1000000000:=yY (Rl _ _) (by simp;omega);have zd:∀y∈Qy [] (s.take j),Ie y:=I8 _ _ (by simp) (fun y hy=>z8 y (List.mem_of_mem_take hy));have zh:Qy [] (s.take (j+1))=Ww (Qy [] (s.take j)) s[j]:=by rw[z_ z1,U5]
  have z6:∀(q':Nat) (H':List AObj),H'[q']? =some (.arr 187 2 ((Ww (Qy [] (s.take j)) s[j]).map encIv))→_:=fun q' H' h=>ih (j+1,q',H') ⟨by simp;omega,by rw[zh];exact h⟩ (by simp;omega);clear ih;simp only[zh]at z6;generalize Qy [] (s.take j)=acc at g1 zc zd z6 ⊢;repeat first|(refine r_ ?_;simp)|refine q_ ?_
  rcases wQ acc with rfl|⟨ini,y,rfl⟩
  ·have zi:IntKind.i64.wrap (-1)= -1:=by decide
   repeat first|(refine r_ ?_;simp[zi])|refine q_ ?_
   refine Qk tOk mixed [] (.val 0 (.val 1 (.val 2 (.val 3 (.val 4 (.val 5 (.val 6 (.val 7 (.val 8 (.val 9 (.val 10 (.val 11 (.val 12 (.val 13 (.val 14 (.val 15 (.done))))))))))))))))) rfl (by kernel_rfl) ?_;simp[zi,z1,g1];refine Qm rfl ?_;simp;repeat first|(refine r_ ?_;simp[z1,g1])|refine q_ ?_
   refine Qh tOk rfl rfl Pe rfl Dn rfl (by decide) (by decide) rfl rfl rfl ?_;simp[Qb g1,Qj g1];refine⟨by simp[Wp,Qb g1,Qj g1]<;>omega,?_⟩;repeat first|(refine r_ ?_;simp[hw])|refine q_ ?_
   exact Qd (sl':=[(3,LIv s),(4,.sl (H2.length+1) 2 0 1),(5,.i (j+1:Nat))]) (z6 (H2.length+1) _ (by rw[zO (by simp)];simp[Ww])) (by simp)
  ·have hy:=zd y (by simp);have zn:=(W4 _).1 hy.2;have zj:IntKind.i64.wrap (y.hi+1)=y.hi+1:=wrap_i64 _ (by omega) (by omega);rw[wR]at g1 zc zd z6 ⊢;have hlen:(ini++[y]).length=ini.length+1:=by simp
   rw[hlen]at zc ⊢;have zb:IntKind.i64.wrap (ini.length:Int)=ini.length:=wrap_i64 _ (by omega) (by omega);have hg:((ini++[y]).map encIv)[ini.length]? =some (encIv y):=by simp
   have z7:(ini.length:Int)<ini.length+1:=by omega
   repeat first|(refine r_ ?_;simp[zb])|refine q_ ?_
   have za:¬((ini.length:Int)<0):=by omega
   refine Qk tOk mixed [] (.val 0 (.val 1 (.val 2 (.val 3 (.val 4 (.val 5 (.val 6 (.val 7 (.val 8 (.val 9 (.val 10 (.val 11 (.val 12 (.val 13 (.val 14 (.val 15 (.done))))))))))))))))) rfl (by kernel_rfl) ?_;simp[z1,g1,zb,hg,zj,z7,za];rw[W1]at z6;refine Qa rfl (fun h1=> ?_) (fun h1=> ?_)
   ·have ze:¬(s[j].lo≤y.hi+1):=by simp at h1;omega
    rw[if_neg ze]at z6;repeat first|(refine r_ ?_;simp[z1,g1])|refine q_ ?_
    refine Qh tOk rfl rfl Pe rfl Dn rfl (by decide) (by decide) rfl rfl rfl ?_;simp[Qb g1,Qj g1];refine⟨by simp[Wp,Qb g1,Qj g1]<;>omega,?_⟩;repeat first|(refine r_ ?_;simp[hw])|refine q_ ?_
    exact Qd (sl':=[(3,LIv s),(4,.sl (H2.length+1) 2 0 (ini.length+1+1)),(5,.i (j+1:Nat))]) (by
     have:=z6 (H2.length+1) (H2.set q .dead++[.arr 187 2 [encIv s[j]],.arr 187 2 ((ini++[y]++[s[j]]).map encIv)]) (by rw[zO (by simp)];simp);simpa using this) (by simp)
   ·have ze:s[j].lo≤y.hi+1:=by simp at h1;omega
    rw[if_pos ze]at z6;repeat first|(refine r_ ?_;simp)|refine q_ ?_
    refine Qk tOk mixed [] (.val 0 (.val 1 (.val 2 (.val 3 (.val 4 (.val 5 (.val 6 (.val 7 (.val 8 (.val 9 (.val 10 (.done)))))))))))) rfl (by kernel_rfl) ?_;simp[z1,g1,zb,hg,zj,z7,za];refine Qa rfl (fun h2=> ?_) (fun h2=> ?_)
    ·have zf:y.hi<s[j].hi:=by simpa using h2
     rw[if_pos zf]at z6;repeat first|(refine r_ ?_;simp[z1,g1,hg,zb,z7,hw])|refine q_ ?_
     exact Qd (sl':=[(3,LIv s),(4,.sl q 2 0 (ini.length+1)),(5,.i (j+1:Nat))]) (by
      have:=z6 q (H2.set q (.arr 187 2 ((ini++[(⟨y.lo,s[j].hi⟩:Iv)]).map encIv))) (Qg g1 _);simpa using this) (by simp)
    ·have zf:¬(y.hi<s[j].hi):=by simpa using h2
     rw[if_neg zf]at z6;repeat first|(refine r_ ?_;simp[hw])|refine q_ ?_
     exact Qd (sl':=[(3,LIv s),(4,.sl q 2 0 (ini.length+1)),(5,.i (j+1:Nat))]) (by
      have:=z6 q H2 g1;simpa using this) (by simp)
 ·have zg:j=s.length:=by simp at zm;omega
  subst zg;rw[xD]at g1;repeat first|(refine r_ ?_;simp[g1])|refine q_ ?_
  rw[zZ (by simp)]
end Go.Abs
namespace Go.Abs
open Go Go.Proofs
attribute [local irreducible] Ef
def z2p(l:List Iv):AV:=if j0q l=0 then .tup [LIv (Ef l),.i 0]else .tup [.list [],.i (j0q l)]
attribute [local irreducible] Sl
theorem y10(a b c d:Int):eqA T 9 187 (.agg [.int .i64 a,.int .i64 b]) (.agg [.int .i64 c,.int .i64 d])=some (a==c && b==d):=by simp[eqA,Yr,Hm,TI.agg]
theorem k1h(a b:List Iv):PC Tryz.prog 133 [LIv a,LIv b] (fun r=>r= .bool (decide (a=b))):=by
 refine Ql tOk Tryz.func133 rfl Tryz.results133 rfl (by simp[Tryz.ntmps133]) ?_;rw[Tryz.ntmps133];simp only[Qf];refine Ub 0 rfl (fun hlen=> ?_);rw[yP]at hlen;repeat first|(refine r_ ?_;simp)|refine q_ ?_
 refine Qa rfl (fun h=> ?_) (fun h=> ?_)
 ·repeat first|(refine r_ ?_;simp)|refine q_ ?_
  have:a≠b:=fun e=>by subst e;simp at h
  simp[this]
 have zc:a.length=b.length:=by simp at h;omega
 repeat first|(refine r_ ?_;simp)|refine q_ ?_
 refine Qu a.length (fun j=>decide (a=b)=decide (a.drop j=b.drop j)) (fun j=>[(0,LIv a),(1,LIv b),(5,.i j)]) (fun _=>[]) rfl (by simp) (by simp) (by simp) (by simp) (by simp) ?_;intro j hj hI ih;repeat first|(refine r_ ?_;simp)|refine q_ ?_
 refine Qa rfl (fun za=> ?_) (fun zb=> ?_)
 ·have z1:j<a.length:=by simpa using za
  have z6:j<b.length:=by omega
  have z7:(j:Int)<b.length:=by omega
  have hw:IntKind.i64.wrap ((j:Int)+1)=j+1:=wrap_i64 _ (by omega) (by omega);rw[W7 z1,W7 z6]at hI;repeat first|(refine r_ ?_;simp)|refine q_ ?_
  refine Qk tOk mixed [] (.val 0 (.val 1 (.val 2 (.val 3 (.val 4 (.val 5 (.val 6 (.val 7 (.val 8 (.done)))))))))) rfl (by kernel_rfl) ?_;simp[z1,z6,z7,y10];refine Qa rfl (fun h2=> ?_) (fun h2=> ?_)
  ·repeat first|(refine r_ ?_;simp)|refine q_ ?_
   have:a≠b:=fun e=>by subst e;simp at h2
   simp[this]
  ·repeat first|(refine r_ ?_;simp[hw])|refine q_ ?_
   have he:a[j]=b[j]:=by cases hx:a[j];cases hy:b[j];rw[hx,hy]at h2;simpa using h2
   refine Qs _ (ih z1 ?_) rfl (by simp) ?_ (by simp) (by simp)
   ·rw[hI,he];simp only[List.cons.injEq,true_and]
   ·simp
 ·have z8:j=a.length:=by simp at zb;omega
  subst z8;rw[wn,List.drop_of_length_le (by omega)]at hI;repeat first|(refine r_ ?_;simp)|refine q_ ?_
  simpa using hI
theorem f1q(l:List Iv):PC Tryz.prog 112 [LIv l] (fun r=>r= .bool (decide ((l.length:Int)≤12))):=by refine Ql tOk Tryz.func112 rfl Tryz.results112 rfl (by simp[Tryz.ntmps112]) ?_;rw[Tryz.ntmps112];simp only[Qf];repeat first|(refine r_ ?_;simp)|refine q_ ?_
end Go.Abs
namespace Go.Abs
open Go Go.Proofs
attribute [simp] T74
@[simp] def encL (l:List Iv):AV:= .list (l.map encIv)
def w2i(l:List Iv):Bool:= !((decide ((12:Int)<l.length) && decide ((l.length:Int)≤254)) || decide ((258:Int)<l.length))
def y20(ls:List (List Iv)):Bool:=ls.all w2i
def f1x(l:List Iv):Bool:=decide ((l.length:Int)≤12) && decide (ckR l=0)
def y2s(ls:List (List Iv)):Bool:=ls.all f1x
attribute [local irreducible] ckR
end Go.Abs
namespace Go.Abs
open Go Go.Proofs
structure CanonL (l:List Iv):Prop where
 len:l.length≤256
 one:∀y∈l,Sl y=0
 gap:∀j,∀h:j+1<l.length,l[j].hi+2≤l[j+1].lo
theorem Xe{l:List Iv}{j:Nat}{x:Iv}(h:j<l.length)(hi:Ie l[j]):d0e l (j+1) x=decide (x.lo<l[j].hi+2):=by have h1:=(W4 _).1 hi.2;have:W (l[j].hi+2)=l[j].hi+2:=wrap_i64 _ (by omega) (by omega);simp[d0e,h,this]
theorem Fj(l:List Iv)(hl:l.length≤256):∀(n j:Nat),l.length - j=n→j≤l.length→(∀h:0<j,∀h':j - 1<l.length,Sl l[j - 1]=0)→(Iq l j (l.drop j)=0↔(∀i,j≤i→∀h:i<l.length,Sl l[i]=0)∧∀i,j≤i+1→∀h:i+1<l.length,l[i].hi+2≤l[i+1].lo)
 |0,j,hn,hj,_=>by
  have:j=l.length:=by omega
  subst this;rw[wn,Iq];exact⟨fun _=>⟨fun i h1 h2=>by omega,fun i h1 h2=>by omega⟩,fun _=>rfl⟩
 |n+1,j,hn,hj,hp=>by
  have z6:j<l.length:=by omega
  rw[W7 z6,Iq];by_cases h1:(Sl l[j] != 0)=true
  ·rw[if_pos h1];have z1:Sl l[j]≠0:=by simpa using h1
   exact⟨fun h=>absurd h z1,fun h=>absurd (h.1 j (zV _) z6) z1⟩
  ·rw[if_neg h1];have z1:Sl l[j]=0:=by simpa using h1
   have ih:=Fj l hl n (j+1) (by omega) (by omega) (fun _ _=>z1);by_cases h2:d0e l j l[j]=true
   ·rw[if_pos h2];refine⟨fun h=>(by cases h),fun h=> ?_⟩;rcases j with _|j
    ·simp[d0e]at h2
    ·have hq:Sl l[j]=0:=hp (by omega) (by simp;omega);rw[Xe (by omega) (X1 hq).1]at h2;have:=h.2 j (zV _) z6;simp at h2;omega
   ·rw[if_neg h2,ih];constructor
    ·rintro⟨a,b⟩;refine⟨fun i hi h=> ?_,fun i hi h=> ?_⟩
     ·by_cases e:i=j
      ·subst e;exact z1
      ·exact a i (by omega) h
     ·by_cases e:j=i+1
      ·subst e;have hq:Sl l[i]=0:=hp (by omega) (by simp;omega);rw[Xe (by omega) (X1 hq).1]at h2;simp at h2;exact h2
      ·exact b i (by omega) h
    ·rintro⟨a,b⟩;exact⟨fun i hi h=>a i (by omega) h,fun i hi h=>b i (by omega) h⟩
theorem Va(l:List Iv):ckR l=0↔CanonL l:=by
 rw[ckR];by_cases h:decide ((256:Int)<l.length)=true
 ·rw[if_pos h];simp at h;exact⟨fun e=>(by cases e),fun e=>(by have:=e.len;omega)⟩
 ·rw[if_neg h];simp at h;have hl:l.length≤256:=by omega
  have:=Fj l hl l.length 0 rfl (Nat.zero_le _) (fun h=>by omega);rw[List.drop_zero]at this;rw[this];constructor
  ·rintro⟨a,b⟩;refine⟨hl,fun y hy=> ?_,fun j h=>b j (by omega) h⟩;obtain⟨i,hi,rfl⟩:=xG hy;exact a i (by omega) hi
  ·rintro⟨_,a,b⟩;exact⟨fun i _ h=>a _ (zT h),fun i _ h=>b i h⟩
theorem CanonL.iv{l:List Iv}(h:CanonL l){j:Nat}(hj:j<l.length): -1099511627776≤l[j].lo∧l[j].lo≤l[j].hi∧l[j].hi≤1099511627776:=by obtain⟨⟨h1,h2⟩,h3⟩:=X1 (h.one _ (zT hj));have:=(W4 _).1 h1;have:=(W4 _).1 h2;omega
def w20:List Iv→Int
 |[]=>0
 |x::r=>(x.hi - x.lo+1)+w20 r
attribute [local irreducible] ckR
end Go.Abs
namespace Go.Abs
open Go Go.Proofs
attribute [local irreducible] ckR
def w0u(a b:List Iv):Int:=if ckR a=0 then ckR b else ckR a
def y2n(l:List Iv):AV:=if l.length≤256 then .tup [LIv l,.i 0]else .tup [.list [],.i 5]
def x1f:List Iv→Int→Int×Int
 |[],_=>(0,2)
 |x::r,i=>if i<x.hi - x.lo+1 then(x.lo+i,0)else x1f r (i - (x.hi - x.lo+1))
def atR(l:List Iv)(i:Int):Int×Int:=if ckR l=0 then(if i<0 then(0,2)else x1f l i)else(0,ckR l)
def q00(x:Iv)(n:Int):Int:=if x.hi<n then -1 else if n<x.lo then 1 else 0
theorem u0g(x:Iv)(n:Int):PC Tryz.prog 205 [encIv x,.i n] (fun r=>r= .i (q00 x n)):=by
 refine Ql tOk Tryz.func205 rfl Tryz.results205 rfl (by simp[Tryz.ntmps205]) ?_;rw[Tryz.ntmps205];simp only[Qf];simp only[encIv];repeat first|(refine r_ ?_;simp)|refine q_ ?_
 refine Qa rfl (fun h=> ?_) (fun h=> ?_)
 ·repeat first|(refine r_ ?_;simp)|refine q_ ?_
  rw[q00,if_pos (by simpa using h)]
 repeat first|(refine r_ ?_;simp)|refine q_ ?_
 refine Qa rfl (fun h2=> ?_) (fun h2=> ?_)
 ·repeat first|(refine r_ ?_;simp)|refine q_ ?_
  rw[q00,if_neg (by simpa using h),if_pos (by simpa using h2)]
 repeat first|(refine r_ ?_;simp)|refine q_ ?_
 rw[q00,if_neg (by simpa using h),if_neg (by simpa using h2)]
def Pd(l:List Iv)(n:Int):Bool:=l.any fun x=>decide (x.lo≤n) && decide (n≤x.hi)
theorem O2{l:List Iv}(hc:CanonL l):∀ {i j:Nat},i<j→∀(hj:j<l.length),∀(hi:i<l.length),l[i].hi+2≤l[j].lo:=by
 intro i j z1 hj hi;obtain⟨d,rfl⟩:∃d,j=i+1+d:=⟨j - (i+1),by omega⟩
 induction d with
 |zero=>exact hc.gap i hj
 |succ d ih=>
  have h1:=ih (by omega) (by omega);have h2:=hc.gap (i+1+d) (by omega);have h3:=hc.iv (show i+1+d<l.length by omega);have h4:i+1+(d+1)=i+1+d+1:=by omega
  simp only[h4];omega
theorem Gp(x:Iv)(n:Int):q00 x n<0↔x.hi<n:=by
 unfold q00;by_cases h:x.hi<n
 ·rw[if_pos h];simp[h]
 ·rw[if_neg h];by_cases h2:n<x.lo
  ·rw[if_pos h2];simp[h]
  ·rw[if_neg h2];simp[h]
theorem w1l(x:Iv)(n:Int):q00 x n=0↔x.lo≤n∧n≤x.hi:=by
 unfold q00;by_cases h:x.hi<n
 ·rw[if_pos h];constructor<;>intro h'<;>omega
 ·rw[if_neg h];by_cases h2:n<x.lo
  ·rw[if_pos h2];constructor<;>intro h'<;>omega
  ·rw[if_neg h2];constructor<;>intro h'<;>omega
theorem c1q{i j m:Nat}(hm:(i+j) / 2=m)(h:i+j≤1000000000):IntKind.i64.wrap ((IntKind.u64.wrap ((i:Int)+j)).fdiv (2 ^ min 1 IntKind.u64.bits))=m:=by
 have h1:IntKind.u64.wrap ((i:Int)+j)=i+j:=by simp[IntKind.wrap,IntKind.bits,IntKind.signed];omega
 have h2:min 1 IntKind.u64.bits=1:=by decide
 rw[h1,h2,Int.fdiv_eq_ediv_of_nonneg _ (by decide),wrap_i64 _ (by omega) (by omega)];omega
attribute [local irreducible] q00
theorem Xw(l:List Iv)(n:Int)(hc:CanonL l):PC Tryz.prog 204 [LIv l,.i n,.fn (.func 205) [] []] (fun r=>∃k:Int,r= .tup [.i k,.bool (Pd l n)]):=by
 refine Ql tOk Tryz.func204 rfl Tryz.results204 rfl (by simp[Tryz.ntmps204]) ?_;rw[Tryz.ntmps204];simp only[Qf];have hlen:=hc.len;repeat first|(refine r_ ?_;simp)|refine q_ ?_
 refine Qr (Qd (sl':=[(0,LIv l),(1,.i n),(2,.fn (.func 205) [] []),(8,.i l.length),(9,.i 0),(10,.i l.length)]) ?_ (by simp));refine Qq (F:=fun(u:Nat×Nat)=>⟨[(0,LIv l),(1,.i n),(2,.fn (.func 205) [] []),(8,.i l.length),(9,.i u.1),(10,.i u.2)],[]⟩) (fun u=>u.1≤u.2∧u.2≤l.length∧(∀k,k<u.1→∀hk:k<l.length,q00 l[k] n<0)∧(∀k,u.2≤k→∀hk:k<l.length,¬q00 l[k] n<0)) (fun u=>u.2 - u.1) ?_ (0,l.length) ⟨by simp,by simp,fun k hk=>by simp at hk,fun k hk z1=>by simp only at hk;omega⟩;rintro⟨i,j⟩ ⟨h1,h2,h3,h4⟩ ih;simp only at h1 h2 h3 h4 ih ⊢;repeat first|(refine r_ ?_;simp)|refine q_ ?_
 refine Qa rfl (fun zd=> ?_) (fun ze=> ?_)
 ·have zf:i<j:=by simpa using zd
  have hw:IntKind.i64.wrap ((i:Int)+j)=i+j:=wrap_i64 _ (by omega) (by omega);obtain⟨m,hm⟩:∃m,(i+j) / 2=m:=⟨_,rfl⟩
  have z8:IntKind.i64.wrap ((IntKind.u64.wrap ((i:Int)+j)).fdiv (2 ^ min 1 IntKind.u64.bits))=m:=c1q hm (by omega);have z6:m<l.length:=by omega
  have za:(m:Int)<l.length:=by omega
  have zg:IntKind.i64.wrap ((m:Int)+1)=m+1:=wrap_i64 _ (by omega) (by omega);repeat first|(refine r_ ?_;simp[hw,z8,z6,za])|refine q_ ?_
  refine Qe rfl rfl (by simp) (u0g l[m] n) rfl ?_;rintro _ rfl;simp;refine Qa rfl (fun h5=> ?_) (fun h5=> ?_)
  ·repeat first|(refine r_ ?_;simp[zg])|refine q_ ?_
   refine Qd (sl':=[(0,LIv l),(1,.i n),(2,.fn (.func 205) [] []),(8,.i l.length),(9,.i (m+1:Nat)),(10,.i j)]) (ih (m+1,j) ⟨by simp only;omega,h2,fun k hk z1=> ?_,h4⟩ (by simp only;omega)) (by simp);have zh:=hc.iv z1;have zi:=hc.iv z6;have z7:q00 l[m] n<0:=by simpa using h5
   by_cases e:k=m
   ·subst e;exact z7
   ·have:=O2 hc (show k<m by omega) z6 z1;rw[Gp]at z7 ⊢;omega
  ·repeat first|(refine r_ ?_;simp)|refine q_ ?_
   refine Qd (sl':=[(0,LIv l),(1,.i n),(2,.fn (.func 205) [] []),(8,.i l.length),(9,.i i),(10,.i m)]) (ih (i,m) ⟨by simp only;omega,by simp only;omega,h3,fun k hk z1=> ?_⟩ (by simp only;omega)) (by simp);have zh:=hc.iv z1;have zi:=hc.iv z6;have z7:¬q00 l[m] n<0:=by simpa using h5
   by_cases e:k=m
   ·subst e;exact z7
   ·have:=O2 hc (show m<k by omega) z1 z6;rw[Gp]at z7 ⊢;omega
 ·have zb:i=j:=by simp at ze;omega
  subst zb;by_cases hil:i<l.length
  ·repeat first|(refine r_ ?_;simp[hil])|refine q_ ?_
   refine Qe rfl rfl (by simp) (u0g l[i] n) rfl ?_;rintro _ rfl;simp;repeat first|(refine r_ ?_;simp)|refine q_ ?_
   have hh:Pd l n=(q00 l[i] n==0):=by
    rw[x_,beq_iff_eq,w1l,Pd,wO];constructor
    ·rintro⟨x,hx,zc⟩;obtain⟨k,hk,rfl⟩:=xG hx;simp at zc;have e:k=i:=by
      by_cases e1:k<i
      ·have:=(Gp _ _).1 (h3 k e1 hk);omega
      ·by_cases e2:i<k
       ·have:=O2 hc e2 hk hil;have:¬l[i].hi<n:=fun e=>h4 i (zV _) hil ((Gp l[i] n).2 e);omega
       ·omega
     subst e;exact zc
    ·intro h;exact⟨l[i],zT hil,by simpa using h⟩
   rw[hh]
  ·repeat first|(refine r_ ?_;simp[hil])|refine q_ ?_
   refine Q6 rfl rfl ?_;simp;repeat first|(refine r_ ?_;simp)|refine q_ ?_
   have hh:Pd l n=false:=by rw[Pd,vM];intro x hx;obtain⟨k,hk,rfl⟩:=xG hx;have:=(Gp _ _).1 (h3 k (by omega) hk);simp;intro _;omega
   rw[hh]
theorem d1c(l:List Iv)(n:Int)(hc:CanonL l):PC Tryz.prog 192 [LIv l,.i n] (fun r=>r= .bool (Pd l n)):=by
 refine Ql tOk Tryz.func192 rfl Tryz.results192 rfl (by simp[Tryz.ntmps192]) ?_;rw[Tryz.ntmps192];simp only[Qf];repeat first|(refine r_ ?_;simp)|refine q_ ?_
 refine Qe rfl rfl (by simp) (Xw l n hc) rfl ?_;rintro _ ⟨k,rfl⟩;simp;repeat first|(refine r_ ?_;simp)|refine q_ ?_
attribute [local irreducible] Pd
def w1e(l:List Iv)(n:Int):Bool×Int:=if ckR l=0 then(Pd l n,0)else(false,ckR l)
theorem Gs(l:List Iv)(n:Int):PC Tryz.prog 158 [LIv l,.i n] (fun r=>r= .tup [.bool (w1e l n).1,.i (w1e l n).2]):=by
 refine Ql tOk Tryz.func158 rfl Tryz.results158 rfl (by simp[Tryz.ntmps158]) ?_;rw[Tryz.ntmps158];simp only[Qf];repeat first|(refine r_ ?_;simp)|refine q_ ?_
 refine Qe rfl rfl (by simp) (Nv l) rfl ?_;rintro _ rfl;simp;repeat first|(refine r_ ?_;simp)|refine q_ ?_
 refine Qa rfl (fun h=> ?_) (fun h=> ?_)
 ·repeat first|(refine r_ ?_;simp)|refine q_ ?_
  rw[w1e,if_neg (by simpa using h)];exact⟨rfl,rfl⟩
 have h0:ckR l=0:=by simpa using h
 repeat first|(refine r_ ?_;simp)|refine q_ ?_
 refine Qe rfl rfl (by simp) (d1c l n ((Va l).1 h0)) rfl ?_;rintro _ rfl;simp;repeat first|(refine r_ ?_;simp)|refine q_ ?_
 rw[w1e,if_pos h0];exact⟨rfl,rfl⟩
end Go.Abs
namespace Go.Abs
open Go Go.Proofs
attribute [local irreducible] ckR
def w2v(d:Int)(x:Iv):Option Iv:=
 let a:=if x.lo+d< -1099511627776 then -1099511627776 else x.lo+d
 let b:=if 1099511627776<x.hi+d then 1099511627776 else x.hi+d
 if a≤b then some ⟨a,b⟩else none
def z2n(l:List Iv)(d:Int):List Iv×Int:=if ckR l=0 then(if d< -2199023255552∨2199023255552<d then([],0)else(l.filterMap (w2v d),0))else([],ckR l)
end Go.Abs
namespace Go.Abs
open Go Go.Proofs
def z2j(ls:List (List Iv)):List Iv:=ls.flatten
attribute [local irreducible] z2j
end Go.Abs
namespace Go.Abs
open Go Go.Proofs Go.RowKit Go.Shelf Go.Lib Go.Sort
def R0(zs:List Int):List Int:=zs.mergeSort fun x y=>decide (x≤y)
theorem Ac(zs:List Int):(R0 zs).length=zs.length:=by simp[R0]
theorem Jl(H:List AObj)(p:Nat)(zs:List Int)(hp:H[p]? =some (.arr 3 1 (zs.map (AV.int .i64))))(hl:zs.length≤1000000):
  FC Tryz.prog 176 [.sl p 1 0 zs.length] H (fun r H'=>r= .tup []∧H'=H.set p (.arr 3 1 ((R0 zs).map (AV.int .i64)))):=by
 refine(j04 (xs:=zs.map (AV.int .i64)) (rest:=[]) (Yg Tryz.func176 rfl rfl) (by simp) hp (q2l zs) [] (fun w I m vs a b=>by simpa using a) (fun z1=>z1=(R0 zs).map (AV.int .i64)) ?_ ?_).mono ?_
 ·intro b cap w hH hb hc;have:=Tryz.slices_Sort_int b 0 cap zs w (Ch hH) hb (by omega);refine Calls.mono (by simpa using this) ?_;rintro e w' ⟨rfl,n,os,rfl⟩;exact⟨rfl,_,((R0 zs).map (Value.int .i64)).toArray,n,os,rfl,by simp[Ac],q2l _,by rw[Kp];rfl⟩
 ·rintro h;have z6:zs=[]:=by simpa using h
  subst z6;exact⟨by simp[R0],fun w=>by simpa using Tryz.slices_Sort_int_none none 0 w⟩
 ·rintro r H' ⟨rfl,z1,rfl,rfl⟩;exact⟨rfl,rfl⟩
theorem Al(H:List AObj)(p:Nat)(zs:List Int)(hp:H[p]? =some (.arr 3 1 (zs.map (AV.int .i64))))(hl:zs.length≤1000000)(z6:(Lib.compact zs).length≤zs.length):
  FC Tryz.prog 177 [.sl p 1 0 zs.length] H (fun r H'=>r= .sl p 1 0 (Lib.compact zs).length∧∃G:List Int,H'=H.set p (.arr 3 1 ((Lib.compact zs++G).map (AV.int .i64)))):=by
 refine(v1g (xs:=zs.map (AV.int .i64)) (Yg Tryz.func177 rfl rfl) (by simp) hp (q2l zs) (fun z1 n=>n=(Lib.compact zs).length∧∃G:List Int,z1=(Lib.compact zs++G).map (AV.int .i64)) (fun ys n h=>by rw[h.1];exact z6) ?_ ?_).mono ?_
 ·intro b cap w hH hb hc hm;have:=Tryz.slices_Compact_int b 0 cap zs w (Ch hH) (by omega) hc;refine Calls.mono (by simpa using this) ?_;rintro e w' ⟨rfl,q,rfl⟩;exact⟨_,((Lib.compact zs++yB (zs.length - (Lib.compact zs).length) 0).map (Value.int .i64)).toArray,q,_,rfl,⟨rfl,_,rfl⟩,by simp;omega,q2l _,by rw[←Kp]⟩
 ·rintro h;have z7:zs=[]:=by simpa using h
  subst z7;exact⟨⟨rfl,[],rfl⟩,fun w=>by simpa using Tryz.slices_Compact_int_empty none 0 w⟩
 ·rintro r H' ⟨z1,n,rfl,⟨rfl,G,rfl⟩,rfl⟩;exact⟨rfl,G,rfl⟩
end Go.Abs
namespace Go.Abs
open Go Go.Proofs
attribute [simp] T40
def Bx:List Iv→List Int
 |[]=>[]
 |x::r=>x.lo::(x.hi+1)::Bx r
theorem Nw:∀(l:List Iv) (x:Iv),Bx (l++[x])=Bx l++[x.lo,x.hi+1]
 |[],x=>rfl
 |y::r,x=>by rw[uv,Bx,Nw r,Bx];rfl
theorem v05:∀(l:List Iv),(Bx l).length=2 * l.length
 |[]=>rfl
 |x::r=>by rw[Bx,y_,y_,v05 r,y_];omega
def j0g(l:List Iv):List Int:=Lib.compact (R0 (Bx l))
def x1a(f:Int→Bool):List Int→List Iv→List Iv
 |c::d::r,acc=>x1a f (d::r) (if f c=true then Ww acc ⟨c,d - 1⟩else acc)
 |_,acc=>acc
def q0a(op:Bool→Bool→Bool)(a b:List Iv):List Iv:=x1a (fun n=>op (Pd a n) (Pd b n)) (j0g (a++b)) []
theorem Pr(zs:List Int):(Lib.compact zs).length≤zs.length:=by unfold Lib.compact Lib.compactUpTo;rw[yP];exact yY (xW _ _) (by simp)
attribute [local irreducible] ckR Pd z2j Ww R0 Lib.compact Bx
end Go.Abs
namespace Go.Abs
open Go Go.Proofs
attribute [local irreducible] ckR q0a
def v16(x y:Bool):Bool:=x && !y
def c1n(op:Bool→Bool→Bool)(a b:List Iv):AV:=if w0u a b=0 then y2n (q0a op a b)else .tup [.list [],.i (w0u a b)]
attribute [local irreducible] w0u
attribute [local irreducible] c1n
end Go.Abs
namespace Go.Abs
theorem push_comm(acc:List Iv)(x y:Iv)(h:x.lo=y.lo)(hx:x.lo≤x.hi)(hy:y.lo≤y.hi):Ww (Ww acc x) y=Ww (Ww acc y) x:=by
 have one:∀(u v:Iv),u.lo=v.lo→u.lo≤u.hi→∀ini:List Iv,Ww (ini++[u]) v=ini++[⟨u.lo,if u.hi<v.hi then v.hi else u.hi⟩]:=fun u v z6 hu ini=>by rw[W1,if_pos (by omega)]
 rcases wQ acc with rfl|⟨ini,z,rfl⟩
 ·have e1:Ww [] x=[]++[x]:=rfl;have e2:Ww [] y=[]++[y]:=rfl;rw[e1,e2,one x y h hx,one y x h.symm hy,h]
  congr 3
  split<;>split<;>omega
 ·rw[wR];by_cases hz:x.lo≤z.hi+1
  ·have z1:∀(w u:Iv),u.lo≤w.hi+1→Ww (ini++[w]) u=ini++[⟨w.lo,if w.hi<u.hi then u.hi else w.hi⟩]:=fun w u h=>by rw[W1,if_pos h]
   rw[z1 z x hz,z1 z y (by omega),z1 _ y (by simp only;split<;>omega),z1 _ x (by simp only;split<;>omega)]
   congr 3
   simp only;repeat split
   all_goals omega
  ·have ap:∀u:Iv,u.lo=x.lo→Ww (ini++[z]) u=ini++[z]++[u]:=fun u h=>by rw[W1,if_neg (by omega)]
   rw[ap x rfl,ap y h.symm,one x y h hx,one y x h.symm hy,h]
   congr 3
   split<;>split<;>omega
theorem S5:∀(A:List Iv) (acc:List Iv) (x:Iv) (B:List Iv),(∀y∈A,y.lo=x.lo∧y.lo≤y.hi)→x.lo≤x.hi→Qy acc (A++x::B)=Qy acc (x::(A++B))
 |[],acc,x,B,_,_=>rfl
 |y::A,acc,x,B,h,hx=>by have hy:=h y (by simp);have ih:=S5 A (Ww acc y) x B (fun z hz=>h z (by simp[hz])) hx;simp only[Qy,uv,xY]at ih ⊢;rw[ih,push_comm acc y x hy.1 hy.2 hx]
theorem Gh:∀(l l':List Iv) (acc:List Iv),l.Perm l'→Zr l→Zr l'→(∀y∈l,y.lo≤y.hi)→Qy acc l=Qy acc l'
 |[],l',acc,hp,_,_,_=>by rw[hp.nil_eq]
 |x::l,l',acc,hp,h1,h2,hf=>by
  obtain⟨A,B,rfl⟩:=List.append_of_mem (hp.mem_iff.1 (List.mem_cons_self));have z6:l.Perm (A++B):=(List.perm_cons x).1 (hp.trans vQ);have hA:∀y∈A,y.lo=x.lo∧y.lo≤y.hi:=fun y hy=>by
   have z1:y∈x::l:=hp.mem_iff.2 (by simp[hy]);have a1:y.lo≤x.lo:=(yR.1 h2).2.2 y hy x (by simp);have a2:x.lo≤y.lo:=by
    rcases yL.1 z1 with rfl|h
    ·exact xB _
    ·exact(yX.1 h1).1 y h
   exact⟨by omega,hf y z1⟩
  rw[S5 A acc x B hA (hf x (by simp))];have hb:Zr (A++B):=h2.sublist (List.Sublist.append_left (List.sublist_cons_self x B) A);exact Gh l (A++B) (Ww acc x) z6 (yX.1 h1).2 hb (fun y hy=>hf y (by simp[hy]))
end Go.Abs
namespace Go.Abs
theorem d0u(s:List Iv)(x:Iv):(Zw s x).Perm (x::s):=by unfold Zw;refine vQ.trans ?_;rw[wd]
theorem Gc(s:List Iv)(x:Iv):∀j,j≤s.length→(∀k,Yq s x j≤k→k<j→∀h:k<s.length,x.lo<s[k].lo)∧(∀k,k+1=Yq s x j→∀h:k<s.length,s[k].lo≤x.lo)
 |0,_=>⟨fun k _ h=>by omega,fun k h=>by simp[Yq]at h⟩
 |j+1,hj=>by
  obtain⟨a,b⟩:=Gc s x j (by omega);have hg:c17 s j x=decide (x.lo<s[j].lo):=by simp[c17,show j<s.length by omega]
  rw[Yq,hg];by_cases h:decide (x.lo<s[j].lo)=true
  ·rw[if_pos h];refine⟨fun k h1 h2 h3=> ?_,b⟩;by_cases e:k=j
   ·subst e;simpa using h
   ·exact a k h1 (by omega) h3
  ·rw[if_neg h];refine⟨fun k h1 h2=>by omega,fun k h1 h2=> ?_⟩;have e:k=j:=by omega
   subst e;simp at h;omega
theorem k0r(s:List Iv)(x:Iv)(hs:Zr s):Zr (Zw s x):=by
 obtain⟨a,b⟩:=Gc s x s.length (zV _);have hq:=Fo s x s.length;unfold Zw;generalize Yq s x s.length=q at a b hq;have z6:∀i j,i<j→∀hi:i<s.length,∀hj:j<s.length,s[i].lo≤s[j].lo:=fun i j h hi hj=>yU.1 hs i j hi hj h;have z7:∀y∈s.take q,y.lo≤x.lo:=fun y hy=>by
  obtain⟨i,hi,rfl⟩:=xG hy;have za:i<q:=by rw[wD]at hi;omega
  rw[tB];have h1:=b (q - 1) (by omega) (by omega);by_cases e:i=q - 1
  ·subst e;exact h1
  ·have:=z6 i (q - 1) (by omega) (by omega) (by omega);omega
 have z8:∀y∈s.drop q,x.lo≤y.lo:=fun y hy=>by obtain⟨i,hi,rfl⟩:=xG hy;rw[List.length_drop]at hi;rw[List.getElem_drop];have:=a (q+i) (by omega) (by omega) (by omega);omega
 have z1:=hs;unfold Zr at z1 ⊢;rw[←wd q s,yR]at z1;obtain⟨p1,p2,p3⟩:=z1;refine yR.2 ⟨p1,yX.2 ⟨z8,p2⟩,fun y hy z hz=> ?_⟩;rcases yL.1 hz with rfl|h
 ·exact z7 y hy
 ·exact p3 y hy z h
theorem Ha:∀(l acc:List Iv),Zr acc→(l.foldl Zw acc).Perm (acc++l)∧Zr (l.foldl Zw acc)
 |[],acc,h=>⟨by simp,h⟩
 |x::r,acc,h=>by obtain⟨a,b⟩:=Ha r (Zw acc x) (k0r acc x h);refine⟨a.trans ?_,b⟩;exact((d0u acc x).append_right r).trans vQ.symm
theorem Oi(l:List Iv):(Eu l).Perm l∧Zr (Eu l):=by have:=Ha l [] .nil;simpa[Eu]using this
end Go.Abs
namespace Go.Abs
def M(l:List Iv)(n:Int):Prop:=∃x∈l,x.lo≤n∧n≤x.hi
def Sep(l:List Iv):Prop:=(∀x∈l,x.lo≤x.hi)∧l.Pairwise (fun x y=>x.hi+2≤y.lo)
theorem Bl(n:Int):M [] n↔False:=by simp[M]
theorem Em(x:Iv)(l:List Iv)(n:Int):M (x::l) n↔(x.lo≤n∧n≤x.hi)∨M l n:=by simp[M]
theorem L6(a b:List Iv)(n:Int):M (a++b) n↔M a n∨M b n:=by simp[M,or_and_right,exists_or]
theorem V6(l:List Iv)(n:Int):Pd l n=true↔M l n:=by simp[Pd,M]
theorem Sep.tail{x:Iv}{l:List Iv}(h:Sep (x::l)):Sep l:=⟨fun y hy=>h.1 y (by simp[hy]),(yX.1 h.2).2⟩
theorem Sep.low{x:Iv}{l:List Iv}(h:Sep (x::l)){n:Int}(hm:M l n):x.hi+2≤n:=by obtain⟨y,hy,h1,h2⟩:=hm;have:=(yX.1 h.2).1 y hy;omega
theorem Sep.lowc{x:Iv}{l:List Iv}(h:Sep (x::l)){n:Int}(hm:M (x::l) n):x.lo≤n:=by
 rcases(Em ..).1 hm with h1|h1
 ·exact h1.1
 ·have:=h.low h1;have:=h.1 x (by simp);omega
theorem u0t:∀(a b:List Iv),Sep a→Sep b→(∀n,M a n↔M b n)→a=b
 |[],[],_,_,_=>rfl
 |[],y::b,_,hb,h=>by have:=(h y.lo).2 ((Em ..).2 (.inl ⟨xB _,hb.1 y (by simp)⟩));exact absurd this (by simp[M])
 |x::a,[],ha,_,h=>by have:=(h x.lo).1 ((Em ..).2 (.inl ⟨xB _,ha.1 x (by simp)⟩));exact absurd this (by simp[M])
 |x::a,y::b,ha,hb,h=>by
  have hx:=ha.1 x (by simp);have hy:=hb.1 y (by simp);have e1:x.lo=y.lo:=by have h1:=hb.lowc ((h x.lo).1 ((Em ..).2 (.inl ⟨xB _,hx⟩)));have h2:=ha.lowc ((h y.lo).2 ((Em ..).2 (.inl ⟨xB _,hy⟩)));omega
  have e2:x.hi=y.hi:=by
   rcases tI x.hi y.hi with hlt|heq|hgt
   ·rcases(Em ..).1 ((h (x.hi+1)).2 ((Em ..).2 (.inl ⟨by omega,by omega⟩)))with h1|h1
    ·omega
    ·have:=ha.low h1;omega
   ·exact heq
   ·rcases(Em ..).1 ((h (y.hi+1)).1 ((Em ..).2 (.inl ⟨by omega,by omega⟩)))with h1|h1
    ·omega
    ·have:=hb.low h1;omega
  have e3:x=y:=by cases x;cases y;simp_all
  subst e3;rw[u0t a b ha.tail hb.tail fun n=>⟨fun hm=> ?_,fun hm=> ?_⟩]
  ·have h1:=ha.low hm;rcases(Em ..).1 ((h n).1 ((Em ..).2 (.inr hm)))with h2|h2
   ·omega
   ·exact h2
  ·have h1:=hb.low hm;rcases(Em ..).1 ((h n).2 ((Em ..).2 (.inr hm)))with h2|h2
   ·omega
   ·exact h2
theorem Hh{l:List Iv}(h:CanonL l):Sep l:=
 ⟨fun x hx=>(X1 (h.one x hx)).2,yU.2 fun _ _ hi hj z1=>O2 h z1 hj hi⟩
theorem Zi{l:List Iv}(h:CanonL l):∀x∈l,Ie x:=fun x hx=>(X1 (h.one x hx)).1
theorem v1o{l:List Iv}(h:CanonL l){n:Int}(hm:M l n): -1099511627776≤n∧n≤1099511627776:=by obtain⟨x,hx,h1,h2⟩:=hm;have h3:=Zi h x hx;have h4:=(W4 _).1 h3.1;have h5:=(W4 _).1 h3.2;omega
theorem Fu{l:List Iv}(h:Sep l)(hi:∀x∈l,Ie x)(hl:l.length≤256):CanonL l:=
 ⟨hl,fun y hy=>by
  have h1:=hi y hy;have h2:=h.1 y hy;have h4:=h1.1;have h5:=h1.2;simp[Sl,h4,h5];omega,fun j hj=>yU.1 h.2 j (j+1) (by omega) hj (by omega)⟩
theorem q1x(acc:List Iv)(x:Iv)(ha:Sep acc)(hx:x.lo≤x.hi)(hle:∀y∈acc,y.lo≤x.lo):
  Sep (Ww acc x)∧(∀n,M (Ww acc x) n↔M acc n∨(x.lo≤n∧n≤x.hi))∧(∀z,x.lo≤z→∀y∈Ww acc x,y.lo≤z):=by
 rcases wQ acc with rfl|⟨ini,y,rfl⟩
 ·have e:Ww [] x=[x]:=rfl;rw[e];exact⟨⟨fun y hy=>by simp at hy;subst hy;exact hx,by simp⟩,fun n=>by simp[M],fun z hz y hy=>by simp at hy;subst hy;exact hz⟩
 ·rw[wR]at ha hle ⊢;rw[W1];have hy:=ha.1 y (by simp);have z1:=hle y (by simp);obtain⟨p1,p2,p3⟩:=yR.1 ha.2;split
  ·rename_i hj;refine⟨⟨fun z hz=> ?_,yR.2 ⟨p1,by simp,fun u hu v hv=> ?_⟩⟩,fun n=> ?_,fun z hz u hu=> ?_⟩
   ·rcases yE.1 hz with h|h
    ·exact ha.1 z (by simp[h])
    ·simp at h;subst h;simp only;split<;>omega
   ·simp at hv;subst hv;exact p3 u hu y (by simp)
   ·rw[L6,L6,Em,Em,Bl];simp only[or_false];by_cases hm:M ini n
    ·simp[hm]
    ·simp only[hm,false_or];split<;>omega
   ·rcases yE.1 hu with h|h
    ·have:=hle u (by simp[h]);omega
    ·simp at h;subst h;simp only;omega
  ·rename_i hj;refine⟨⟨fun z hz=> ?_,yR.2 ⟨ha.2,by simp,fun u hu v hv=> ?_⟩⟩,fun n=>by rw[L6,Em,Bl];simp,fun z hz u hu=> ?_⟩
   ·rcases yE.1 hz with h|h
    ·exact ha.1 z h
    ·simp at h;subst h;exact hx
   ·simp at hv;subst hv;rcases yE.1 hu with h|h
    ·have:=p3 u h y (by simp);omega
    ·simp at h;subst h;omega
   ·rcases yE.1 hu with h|h
    ·have:=hle u h;omega
    ·simp at h;subst h;exact hz
theorem Sj:∀(l acc:List Iv),Sep acc→Zr l→(∀x∈l,x.lo≤x.hi)→(∀y∈acc,∀x∈l,y.lo≤x.lo)→
  Sep (Qy acc l)∧∀n,M (Qy acc l) n↔M acc n∨M l n
 |[],acc,ha,_,_,_=>⟨ha,fun n=>by simp[Qy,M]⟩
 |x::l,acc,ha,hb,hf,hle=>by have hp:=q1x acc x ha (hf x (by simp)) (fun y hy=>hle y hy x (by simp));have ih:=Sj l (Ww acc x) hp.1 (yX.1 hb).2 (fun y hy=>hf y (by simp[hy])) (fun y hy z hz=>hp.2.2 z.lo ((yX.1 hb).1 z hz) y hy);refine⟨ih.1,fun n=> ?_⟩;have e:Qy acc (x::l)=Qy (Ww acc x) l:=rfl;rw[e,ih.2 n,hp.2.1 n,Em,or_assoc]
theorem Nk:Sep []:=⟨by simp,by simp⟩
theorem g1e{a b:List Iv}(h:a.Perm b)(n:Int):M a n↔M b n:=by simp only[M];exact⟨fun⟨x,hx,h1⟩=>⟨x,h.mem_iff.1 hx,h1⟩,fun⟨x,hx,h1⟩=>⟨x,h.mem_iff.2 hx,h1⟩⟩
theorem U3(l:List Iv)(hf:∀x∈l,x.lo≤x.hi):Sep (Ef l)∧∀n,M (Ef l) n↔M l n:=by have hs:=Oi l;have h:=Sj (Eu l) [] Nk hs.2 (fun x hx=>hf x (hs.1.mem_iff.1 hx)) (by simp);refine⟨h.1,fun n=> ?_⟩;rw[Ef,h.2 n,Bl,false_or,g1e hs.1]
def pieces(f:Int→Bool):List Int→List Iv
 |c::d::r=>(if f c=true then [⟨c,d - 1⟩]else [])++pieces f (d::r)
 |_=>[]
end Go.Abs
namespace Go.Abs
open Go Go.Proofs
attribute [local irreducible] c1n w0u q0a
def w29(x y:Bool):Bool:=x || y
def w27(x y:Bool):Bool:=x && y
def w2x(a b:List Iv):Bool×Int:=if w0u a b=0 then(decide (q0a v16 a b=[]),0)else(false,w0u a b)
end Go.Abs
namespace Go.Abs
open Go Go.Proofs
def Rh:List Iv→Int→List Iv
 |[],n=>if n≤1099511627776 then [⟨n,1099511627776⟩]else []
 |x::r,n=>(if n<x.lo then [⟨n,x.lo - 1⟩]else [])++Rh r (x.hi+1)
def E9(l:List Iv):List Iv:=Rh l (-1099511627776)
end Go.Abs
namespace Go.Abs
open Go
theorem d0a:∀(l:List Iv) (z:Int),z∈Bx l↔∃x∈l,z=x.lo∨z=x.hi+1
 |[],z=>by simp[Bx]
 |y::r,z=>by rw[Bx,yL,yL,d0a r z];simp[or_assoc]
theorem Cg(zs:List Int)(hs:zs.Pairwise (·≤·)):∀m,m≤zs.length→
  (Lib.compactUpTo zs.toArray m).Pairwise (·<·)∧(∀z,z∈Lib.compactUpTo zs.toArray m↔z∈zs.take m):=by
 intro m;induction m with
 |zero=>exact fun _=>⟨by simp[Lib.compactUpTo],by simp[Lib.compactUpTo]⟩
 |succ m ih=>
  intro hm;obtain⟨h1,h2⟩:=ih (by omega);have z1:m<zs.length:=by omega
  have hg:zs.toArray[m]! =zs[m]:=by simp[z1]
  rw[Lib.compactUpTo_succ];have ht:zs.take (m+1)=zs.take m++[zs[m]]:=by rw[z_ z1]
  by_cases hk:Lib.keeps zs.toArray m=true
  ·rw[if_pos hk,hg,ht];refine⟨yR.2 ⟨h1,by simp,fun u hu v hv=> ?_⟩,fun z=>by rw[yE,yE,h2]⟩;simp at hv;subst hv;obtain⟨i,hi,rfl⟩:=xG ((h2 u).1 hu);have za:i<m:=by simp at hi;omega
   rw[tB];have zb:zs[m]≠zs[m - 1]:=by
    simp[Lib.keeps]at hk;have z6:m≠0:=by omega
    have hk:=hk.resolve_left z6;simpa[z1,show m - 1<zs.length by omega]using hk
   have a1:zs[i]≤zs[m - 1]:=by
    rcases Nat.lt_or_ge i (m - 1)with h|h
    ·exact yU.1 hs i (m - 1) (by omega) (by omega) h
    ·have:i=m - 1:=by omega
     subst this;exact xB _
   have a2:zs[m - 1]≤zs[m]:=yU.1 hs (m - 1) m (by omega) (by omega) (by omega);omega
  ·rw[if_neg hk,List.append_nil,ht];refine⟨h1,fun z=> ?_⟩;rw[h2,yE];refine⟨.inl,fun h=>h.elim id fun h=> ?_⟩;simp at h;subst h;simp only[Lib.keeps,decide_eq_true_eq,not_or]at hk;have z7:m - 1<zs.length:=by omega
   have z8:zs[m]=zs[m - 1]:=by simpa[z1,z7]using hk.2
   rw[z8];exact List.mem_take_iff_getElem.2 ⟨m - 1,by omega,rfl⟩
theorem u0o(l:List Iv):(j0g l).Pairwise (·<·)∧∀z,z∈j0g l↔∃x∈l,z=x.lo∨z=x.hi+1:=by
 have hs:(R0 (Bx l)).Pairwise (·≤·):=by have:=uY (le:=fun x y:Int=>decide (x≤y)) (fun a b c h1 h2=>by simp at h1 h2 ⊢;omega) (fun a b=>by simp;omega) (Bx l);simpa[R0]using this
 have h:=Cg _ hs _ (zV _);refine⟨h.1,fun z=> ?_⟩;have h2:=h.2 z;rw[xD]at h2;rw[j0g,Lib.compact,h2,R0,tw,d0a]
theorem k07(l:List Iv)(cs:List Int)(h:∀x∈l,x.lo∈cs∧x.hi+1∈cs)(c n:Int)(hc:c≤n)(hm:∀d∈cs,d≤n→d≤c):Pd l n=Pd l c:=by
 rw[x_,V6,V6];constructor
 ·rintro⟨x,hx,h1,h2⟩;have:=hm _ (h x hx).1 h1;exact⟨x,hx,this,by omega⟩
 ·rintro⟨x,hx,h1,h2⟩;refine⟨x,hx,by omega,?_⟩;by_cases hn:x.hi+1≤n
  ·have:=hm _ (h x hx).2 hn;omega
  ·omega
theorem q0t{l:List Iv}(h:Sep l)(hb:∀n,M l n→ -1099511627776≤n∧n≤1099511627776):∀x∈l,Ie x:=fun x hx=>
 ⟨(W4 _).2 (hb _ ⟨x,hx,xB _,h.1 x hx⟩),(W4 _).2 (hb _ ⟨x,hx,h.1 x hx,xB _⟩)⟩
theorem Oe:∀(l:List Iv) (s:Int),(∀x∈l,x.lo≤x.hi∧x.hi≤1099511627776)→l.Pairwise (fun x y=>x.hi+2≤y.lo)→(∀x∈l,s≤x.lo)→
  Sep (Rh l s)∧(∀n,M (Rh l s) n↔s≤n∧n≤1099511627776∧¬M l n)∧(Rh l s).length≤l.length+1
 |[],s,_,_,_=>by
  rw[Rh];split
  ·exact⟨⟨fun x hx=>by simp at hx;subst hx;assumption,by simp⟩,fun n=>by rw[Em,Bl];simp[Bl],by simp⟩
  ·exact⟨Nk,fun n=>by simp[Bl];omega,by simp⟩
 |x::l,s,hf,hp,hs=>by
  have hx:=hf x (by simp);have z7:=hs x (by simp);have z1:=(yX.1 hp).1;obtain⟨i1,i2,i3⟩:=Oe l (x.hi+1) (fun y hy=>hf y (by simp[hy])) (yX.1 hp).2 (fun y hy=>by have:=z1 y hy;omega);have z6:∀n,M l n→x.hi+2≤n:=by rintro n ⟨y,hy,h1,h2⟩;have:=z1 y hy;omega
  rw[Rh];split
  ·refine⟨⟨fun y hy=> ?_,?_⟩,fun n=> ?_,by simp;omega⟩
   ·rcases yE.1 hy with h|h
    ·simp at h;subst h;simp only;omega
    ·exact i1.1 y h
   ·refine yR.2 ⟨by simp,i1.2,fun u hu v hv=> ?_⟩;simp at hu;subst hu;have:=(i2 v.lo).1 ⟨v,hv,xB _,i1.1 v hv⟩;simp only;omega
   ·rw[L6,i2,Em,Bl,Em];by_cases hm:M l n
    ·have:=z6 n hm;simp[hm];omega
    ·simp only[hm,not_false_eq_true,and_true,or_false];omega
  ·refine⟨⟨fun y hy=>i1.1 y (by simpa using hy),by simpa using i1.2⟩,fun n=> ?_,by simp;omega⟩;rw[List.nil_append,i2,Em];by_cases hm:M l n
   ·simp[hm]
   ·simp only[hm,not_false_eq_true,and_true,or_false];omega
theorem Oa{l:List Iv}(h:CanonL l):Sep (E9 l)∧(∀n,M (E9 l) n↔(-1099511627776≤n∧n≤1099511627776)∧¬M l n)∧(E9 l).length≤l.length+1:=by have hs:=Hh h;have hi:=Zi h;have:=Oe l (-1099511627776) (fun x hx=>⟨hs.1 x hx,((W4 _).1 (hi x hx).2).2⟩) hs.2 (fun x hx=>((W4 _).1 (hi x hx).1).1);exact⟨this.1,fun n=>by rw[E9,this.2.1,and_assoc],this.2.2⟩
def O6(x y:Iv):Option Iv:=if(if x.lo<y.lo then y.lo else x.lo)≤(if y.hi<x.hi then y.hi else x.hi)then some ⟨if x.lo<y.lo then y.lo else x.lo,if y.hi<x.hi then y.hi else x.hi⟩else none
def Ra(a b:List Iv):List Iv:=a.flatMap fun x=>b.filterMap (O6 x)
theorem Hn{x y z:Iv}(h:O6 x y=some z):z.lo≤z.hi∧∀n,(z.lo≤n∧n≤z.hi)↔(x.lo≤n∧n≤x.hi)∧(y.lo≤n∧n≤y.hi):=by
 unfold O6 at h;by_cases hle:(if x.lo<y.lo then y.lo else x.lo)≤(if y.hi<x.hi then y.hi else x.hi)
 ·rw[if_pos hle]at h;cases h;refine⟨hle,fun n=> ?_⟩;simp only;split<;>split<;>omega
 ·rw[if_neg hle]at h;cases h
theorem g1q{x y:Iv}{n:Int}(h1:x.lo≤n∧n≤x.hi)(h2:y.lo≤n∧n≤y.hi):∃z,O6 x y=some z∧z.lo≤n∧n≤z.hi:=by
 unfold O6;have:(if x.lo<y.lo then y.lo else x.lo)≤(if y.hi<x.hi then y.hi else x.hi):=by split<;>split<;>omega
 rw[if_pos this];refine⟨_,rfl,?_,?_⟩<;>simp only<;>split<;>omega
theorem A2(a b:List Iv):(∀x∈Ra a b,x.lo≤x.hi)∧∀n,M (Ra a b) n↔M a n∧M b n:=by
 constructor
 ·intro z hz;obtain⟨x,_,hz⟩:=w_.1 hz;obtain⟨y,_,h⟩:=vX.1 hz;exact(Hn h).1
 ·intro n;constructor
  ·rintro⟨z,hz,h1⟩;obtain⟨x,hx,hz⟩:=w_.1 hz;obtain⟨y,hy,h⟩:=vX.1 hz;have:=((Hn h).2 n).1 h1;exact⟨⟨x,hx,this.1⟩,⟨y,hy,this.2⟩⟩
  ·rintro⟨⟨x,hx,h1⟩,⟨y,hy,h2⟩⟩;obtain⟨z,hz,h3⟩:=g1q h1 h2;exact⟨z,w_.2 ⟨x,hx,vX.2 ⟨y,hy,hz⟩⟩,h3⟩
def Rn(a b:List Iv):List Iv:=Ef (Ra a b)
theorem Om(a b:List Iv):Sep (Rn a b)∧∀n,M (Rn a b) n↔M a n∧M b n:=by have h:=U3 (Ra a b) (A2 a b).1;exact⟨h.1,fun n=>by rw[Rn,h.2,(A2 a b).2]⟩
end Go.Abs
namespace Go.Abs
open Go
def b2(b:Bool):Int:=if b=true then 1 else 0
def cnt(p:Int→Bool)(A:Int):Nat→Int
 |0=>0
 |n+1=>cnt p A n+b2 (p (A+n))
def inI(lo hi k:Int):Bool:=decide (lo≤k) && decide (k≤hi)
theorem Bg(lo hi k:Int):inI lo hi k=true↔lo≤k∧k≤hi:=by simp[inI]
theorem q11(x:Iv)(l:List Iv)(k:Int):Pd (x::l) k=(inI x.lo x.hi k || Pd l k):=by simp[Pd,inI]
end Go.Abs
namespace Go.Abs
open Go
end Go.Abs
namespace Go.Abs
open Go
end Go.Abs
namespace Go.Abs
open Go
def v1s(x y:Iv):Bool:=decide (y.lo<x.lo) && decide (x.lo≤y.hi)
def w0l(x y:Iv):Bool:=decide (x.lo≤y.lo) && decide (y.lo≤x.hi)
theorem u0u(x:Iv):∀(b:List Iv),(b.filterMap (O6 x)).length≤b.countP (v1s x)+b.countP (w0l x)
 |[]=>by simp
 |y::b=>by
  have ih:=u0u x b;rw[vN,vN];cases h:O6 x y with
  |none=>rw[List.filterMap_cons_none h];omega
  |some z=>
   rw[List.filterMap_cons_some h,y_];have hz:=Hn h;have hm:=(hz.2 z.lo).1 ⟨xB _,hz.1⟩;have:v1s x y=true∨w0l x y=true:=by simp[v1s,w0l];omega
   rcases this with h'|h'<;>rw[if_pos h']<;>omega
theorem u0x(x:Iv):∀(b:List Iv),Sep b→b.countP (v1s x)≤1
 |[],_=>by simp
 |y::b,hs=>by
  rw[vN];split
  ·rename_i h;simp[v1s]at h;have:b.countP (v1s x)=0:=tr.2 fun z hz=>by have:=(yX.1 hs.2).1 z hz;simp[v1s];omega
   omega
  ·have:=u0x x b hs.tail;omega
theorem q03(y:Iv):∀(a:List Iv),Sep a→a.countP (fun x=>w0l x y)≤1
 |[],_=>by simp
 |x::a,hs=>by
  rw[vN];split
  ·rename_i h;simp[w0l]at h;have:a.countP (fun x=>w0l x y)=0:=tr.2 fun z hz=>by have:=(yX.1 hs.2).1 z hz;simp[w0l];omega
   omega
  ·have:=q03 y a hs.tail;omega
theorem w0k(a:List Iv)(ha:Sep a):∀(b:List Iv),(a.map fun x=>b.countP (w0l x)).sum≤b.length
 |[]=>by
  have:∀a:List Iv,(a.map fun x=>([]:List Iv).countP (w0l x)).sum=0:=fun a=>by
   induction a with
   |nil=>rfl
   |cons x a ih=>simpa using ih
  rw[this];simp
 |y::b=>by
  have ih:=w0k a ha b;have h1:=q03 y a ha;have:∀a:List Iv,(a.map fun x=>(y::b).countP (w0l x)).sum=(a.map fun x=>b.countP (w0l x)).sum+a.countP (fun x=>w0l x y):=fun a=>by
   induction a with
   |nil=>rfl
   |cons x a ih=>rw[xI,uE,ih,xI,uE,vN,vN];omega
  rw[this,y_];omega
theorem g07(a b:List Iv)(ha:Sep a)(hb:Sep b):(Ra a b).length≤a.length+b.length:=by
 have h:∀a:List Iv,(Ra a b).length≤a.length+(a.map fun x=>b.countP (w0l x)).sum:=fun a=>by
  induction a with
  |nil=>simp[Ra]
  |cons x a ih=>have e:Ra (x::a) b=b.filterMap (O6 x)++Ra a b:=rfl;have h1:=u0u x b;have h2:=u0x x b hb;rw[e,List.length_append,xI,uE,y_];omega
 have h1:=h a;have h2:=w0k a ha b;omega
theorem q15{a b:List Iv}(h:(∀x∈a,Ie x)∨(∀y∈b,Ie y)):∀z∈Ra a b,Ie z:=by
 intro z hz;have hp:=A2 a b;have hf:=hp.1 z hz;have m1:=(hp.2 z.lo).1 ⟨z,hz,xB _,hf⟩;have m2:=(hp.2 z.hi).1 ⟨z,hz,hf,xB _⟩;have key:∀l:List Iv,(∀x∈l,Ie x)→∀n,M l n→inB n=true:=fun l hl n ⟨x,hx,h1,h2⟩=>by have h3:=(W4 _).1 (hl x hx).1;have h4:=(W4 _).1 (hl x hx).2;exact(W4 _).2 (by omega)
 rcases h with h|h
 ·exact⟨key a h _ m1.1,key a h _ m2.1⟩
 ·exact⟨key b h _ m1.2,key b h _ m2.2⟩
end Go.Abs
namespace Go.Abs
abbrev Prd:=List (List Iv)
def PM(p:Prd)(t:Nat)(n:Int):Prop:=∃s,p[t]? =some s∧M s n
def inR(n:Int):Prop:= -1099511627776≤n∧n≤1099511627776
def PWf(T:Nat)(p:Prd):Prop:=p.length=T∧∀s∈p,Sep s∧∀n,M s n→inR n
theorem PWf.lt{T:Nat}{p:Prd}(h:PWf T p){t:Nat}{n:Int}(hm:PM p t n):t<T∧inR n:=by obtain⟨s,hs,hn⟩:=hm;exact⟨by rw[←h.1];exact(zE.1 hs).1,(h.2 s (zL hs)).2 n hn⟩
theorem I1{T:Nat}{p q:Prd}(hp:PWf T p)(hq:PWf T q)(h:∀t n,PM p t n↔PM q t n):p=q:=by apply List.ext_getElem (by rw[hp.1,hq.1]);intro i h1 h2;refine u0t _ _ (hp.2 _ (zT h1)).1 (hq.2 _ (zT h2)).1 fun n=> ?_;have:=h i n;unfold PM at this;rw[zP h1,zP h2]at this;simpa using this
def Ii(t:Nat)(n:Int)(t':Nat)(n':Int):Prop:=t<t'∨t=t'∧n<n'
theorem Ii.irr{t:Nat}{n:Int}(h:Ii t n t n):False:=by unfold Ii at h;omega
theorem Ii.trans{a b c:Nat}{x y z:Int}(h:Ii a x b y)(k:Ii b y c z):Ii a x c z:=by unfold Ii at *;omega
def v1u(l:List Prd)(t:Nat)(n:Int)(t':Nat)(n':Int):Prop:=∀p∈l,PM p t n↔PM p t' n'
structure Prts (T:Nat) (l L:List Prd):Prop where
 wf:∀p∈L,PWf T p
 ne:∀p∈L,∃t n,PM p t n
 all:∀t n,t<T→inR n→∃p∈L,PM p t n
 cls:∀p∈L,∀t n,PM p t n→∀t' n',PM p t' n'↔t'<T∧inR n'∧v1u l t n t' n'
def z0h(p q:Prd):Prop:=∃t n,PM p t n∧∀t' n',PM q t' n'→Ii t n t' n'
theorem z0h.irr{p:Prd}(h:z0h p p):False:=by obtain⟨t,n,h1,h2⟩:=h;exact(h2 t n h1).irr
theorem z0h.asymm{p q:Prd}(h:z0h p q)(k:z0h q p):False:=by obtain⟨t,n,h1,h2⟩:=h;obtain⟨t',n',k1,k2⟩:=k;exact((h2 t' n' k1).trans (k2 t n h1)).irr
theorem Prts.same{T:Nat}{l L L':List Prd}(h:Prts T l L)(h':Prts T l L'){p:Prd}(hp:p∈L):p∈L':=by
 obtain⟨t,n,hm⟩:=h.ne p hp;obtain⟨ht,hn⟩:=(h.wf p hp).lt hm;obtain⟨q,hq,z1⟩:=h'.all t n ht hn;have:p=q:=I1 (h.wf p hp) (h'.wf q hq) fun t' n'=>by rw[h.cls p hp t n hm,h'.cls q hq t n z1]
 rw[this];exact hq
theorem Prts.unique{T:Nat}{l L L':List Prd}(h:Prts T l L)(h':Prts T l L')(s:L.Pairwise z0h)(s':L'.Pairwise z0h):L=L':=by have z1:∀ {X:List Prd},X.Pairwise z0h→X.Nodup:=fun hx=>hx.imp (fun h e=>by subst e;exact h.irr);refine List.Perm.eq_of_pairwise (le:=z0h) (fun a b _ _ h1 h2=>(h1.asymm h2).elim) s s' ?_;exact(uQ (z1 s) (z1 s')).2 fun p=>⟨h.same h',h'.same h⟩
theorem Prts.disj{T:Nat}{l L:List Prd}(h:Prts T l L){p q:Prd}(hp:p∈L)(hq:q∈L){t:Nat}{n:Int}(h1:PM p t n)(h2:PM q t n):p=q:=
 I1 (h.wf p hp) (h.wf q hq) fun t' n'=>by rw[h.cls p hp t n h1,h.cls q hq t n h2]
theorem Prts.perm{T:Nat}{l L L':List Prd}(h:Prts T l L)(e:L.Perm L'):Prts T l L':=
 ⟨fun p hp=>h.wf p (e.mem_iff.2 hp),fun p hp=>h.ne p (e.mem_iff.2 hp),fun t n a b=>by obtain⟨p,hp,hm⟩:=h.all t n a b;exact⟨p,e.mem_iff.1 hp,hm⟩,fun p hp=>h.cls p (e.mem_iff.2 hp)⟩
def Ed(T:Nat):Prd:=yB T (E9 [])
def Wz(c p:Prd):Prd:=se Rn c p
def R3(p:Prd):Prd:=p.map E9
def Wo(p:Prd):Bool:=p.all (·.isEmpty)
def Yx(p:Prd)(L:List Prd):List Prd:=L.flatMap fun c=>(if Wo (Wz c p)then []else [Wz c p])++(if Wo (Wz c (R3 p))then []else [Wz c (R3 p)])
def U4(T:Nat)(l:List Prd):List Prd:=l.foldl (fun L p=>Yx p L) [Ed T]
def PCk(T:Nat)(p:Prd):Prop:=p.length=T∧∀s∈p,CanonL s
theorem PCk.wf{T:Nat}{p:Prd}(h:PCk T p):PWf T p:=⟨h.1,fun s hs=>⟨Hh (h.2 s hs),fun n hn=>v1o (h.2 s hs) hn⟩⟩
theorem P5:CanonL []:=⟨by simp,by simp,fun j h=>by simp at h⟩
theorem P9(T t:Nat)(n:Int):PM (Ed T) t n↔t<T∧inR n:=by
 unfold PM Ed;have hg:=(Oa P5).2.1 n;constructor
 ·rintro⟨s,hs,hm⟩;rw[vZ]at hs;split at hs
  ·cases hs;exact⟨by assumption,(hg.1 hm).1⟩
  ·cases hs
 ·rintro⟨h1,h2⟩;exact⟨E9 [],by rw[vZ,if_pos h1],hg.2 ⟨h2,by simp[M]⟩⟩
theorem D4(T:Nat):PWf T (Ed T):=⟨by simp[Ed],fun s hs=>by
 obtain rfl:=vU hs;exact⟨(Oa P5).1,fun n hn=>(((Oa P5).2.1 n).1 hn).1⟩⟩
theorem Ec{T:Nat}{c p:Prd}(hc:c.length=T)(hp:p.length=T)(t:Nat)(n:Int):PM (Wz c p) t n↔PM c t n∧PM p t n:=by
 unfold PM Wz;constructor
 ·rintro⟨s,hs,hm⟩;rw[vJ]at hs;cases h1:c[t]? with
  |none=>rw[h1]at hs;simp at hs
  |some a=>
   cases h2:p[t]? with
   |none=>rw[h1,h2]at hs;simp at hs
   |some b=>rw[h1,h2]at hs;simp at hs;subst hs;have:=((Om a b).2 n).1 hm;exact⟨⟨a,rfl,this.1⟩,⟨b,rfl,this.2⟩⟩
 ·rintro⟨⟨a,h1,m1⟩,⟨b,h2,m2⟩⟩;exact⟨Rn a b,by rw[vJ,h1,h2],((Om a b).2 n).2 ⟨m1,m2⟩⟩
theorem R6{T:Nat}{c p:Prd}(hc:PWf T c)(hp:p.length=T):PWf T (Wz c p):=by
 refine⟨by simp[Wz,hc.1,hp],fun s hs=> ?_⟩;obtain⟨i,hi⟩:=yQ.1 hs;unfold Wz at hi;rw[vJ]at hi;cases h1:c[i]? with
 |none=>rw[h1]at hi;simp at hi
 |some a=>
  cases h2:p[i]? with
  |none=>rw[h1,h2]at hi;simp at hi
  |some b=>rw[h1,h2]at hi;simp at hi;subst hi;exact⟨(Om a b).1,fun n hn=>(hc.2 a (zL h1)).2 n (((Om a b).2 n).1 hn).1⟩
theorem Lg{T:Nat}{p:Prd}(hp:PCk T p)(t:Nat)(n:Int):PM (R3 p) t n↔(t<T∧inR n)∧¬PM p t n:=by
 unfold PM R3;rw[yI];constructor
 ·rintro⟨s,hs,hm⟩;obtain⟨a,ha,rfl⟩:=zY.1 hs;have hg:=((Oa (hp.2 a (zL ha))).2.1 n).1 hm;refine⟨⟨by rw[←hp.1];exact(zE.1 ha).1,hg.1⟩,?_⟩;rintro⟨b,hb,z1⟩;rw[ha]at hb;cases hb;exact hg.2 z1
 ·rintro⟨⟨h1,h2⟩,h3⟩;have hl:t<p.length:=by rw[hp.1];exact h1
  refine⟨E9 p[t],by rw[zP hl];rfl,((Oa (hp.2 _ (zT hl))).2.1 n).2 ⟨h2,fun hm=>h3 ⟨_,zP hl,hm⟩⟩⟩
theorem Tr{T:Nat}{p:Prd}(h:PWf T p):Wo p=true↔∀t n,¬PM p t n:=by
 unfold Wo;rw[yH];constructor
 ·rintro hv t n ⟨s,hs,hm⟩;have:=hv s (zL hs);rw[tJ]at this;subst this;simp[M]at hm
 ·intro hv s hs;obtain⟨i,hi⟩:=yQ.1 hs;cases s with
  |nil=>rfl
  |cons x s=>exact absurd ⟨_,hi,(Em ..).2 (.inl ⟨xB _,(h.2 _ hs).1.1 x (by simp)⟩)⟩ (hv i x.lo)
theorem Kh{T:Nat}{l L:List Prd}{p:Prd}(h:Prts T l L)(hp:PCk T p):Prts T (l++[p]) (Yx p L):=by
 have z6:(R3 p).length=T:=by simp[R3,hp.1]
 have z1:∀q,q∈Yx p L↔∃c∈L,((q=Wz c p)∨(q=Wz c (R3 p)))∧Wo q=false:=by
  intro q;unfold Yx;rw[w_];constructor
  ·rintro⟨c,hc,hq⟩;refine⟨c,hc,?_⟩;rcases yE.1 hq with hq|hq
   ·split at hq
    ·cases hq
    ·rename_i hv;obtain rfl:=zW.1 hq;exact⟨.inl rfl,by simpa using hv⟩
   ·split at hq
    ·cases hq
    ·rename_i hv;obtain rfl:=zW.1 hq;exact⟨.inr rfl,by simpa using hv⟩
  ·rintro⟨c,hc,hq,hv⟩;refine⟨c,hc,yE.2 ?_⟩;rcases hq with rfl|rfl
   ·left;rw[if_neg (by rw[hv];decide)];simp
   ·right;rw[if_neg (by rw[hv];decide)];simp
 have z7:∀q∈Yx p L,PWf T q:=fun q hq=>by
  obtain⟨c,hc,rfl|rfl,_⟩:=(z1 q).1 hq
  ·exact R6 (h.wf c hc) hp.1
  ·exact R6 (h.wf c hc) z6
 have zb:∀q∈Yx p L,∃t n,PM q t n:=fun q hq=>by
  obtain⟨c,hc,_,hv⟩:=(z1 q).1 hq;by_cases hx:∃t n,PM q t n
  ·exact hx
  ·exfalso;have:Wo q=true:=(Tr (z7 q hq)).2 fun t n hm=>hx ⟨t,n,hm⟩;rw[this]at hv;cases hv
 refine⟨z7,zb,fun t n ht hn=> ?_,fun q hq t n hm t' n'=> ?_⟩
 ·obtain⟨c,hc,z8⟩:=h.all t n ht hn;have hv:∀q,(q=Wz c p∨q=Wz c (R3 p))→PM q t n→q∈Yx p L:=fun q hq hm=>(z1 q).2 ⟨c,hc,hq,by
   have hw:PWf T q:=by
    rcases hq with rfl|rfl
    ·exact R6 (h.wf c hc) hp.1
    ·exact R6 (h.wf c hc) z6
   cases hvq:Wo q with
   |false=>rfl
   |true=>exact absurd hm ((Tr hw).1 hvq t n)⟩
  by_cases za:PM p t n
  ·have:=(Ec (h.wf c hc).1 hp.1 t n).2 ⟨z8,za⟩;exact⟨_,hv _ (.inl rfl) this,this⟩
  ·have:=(Ec (h.wf c hc).1 z6 t n).2 ⟨z8,(Lg hp t n).2 ⟨⟨ht,hn⟩,za⟩⟩;exact⟨_,hv _ (.inr rfl) this,this⟩
 ·obtain⟨c,hc,zc,_⟩:=(z1 q).1 hq;have zd:v1u (l++[p]) t n t' n'↔v1u l t n t' n'∧(PM p t n↔PM p t' n'):=by
   constructor
   ·exact fun hs=>⟨fun r hr=>hs r (by simp[hr]),hs p (by simp)⟩
   ·rintro⟨h1,h2⟩ r hr;rcases yE.1 hr with hr|hr
    ·exact h1 r hr
    ·obtain rfl:=zW.1 hr;exact h2
  rw[zd];rcases zc with rfl|rfl
  ·obtain⟨m1,m2⟩:=(Ec (h.wf c hc).1 hp.1 t n).1 hm;rw[Ec (h.wf c hc).1 hp.1,h.cls c hc t n m1];constructor
   ·rintro⟨⟨h1,h2,h3⟩,h4⟩;exact⟨h1,h2,h3,fun _=>h4,fun _=>m2⟩
   ·rintro⟨h1,h2,h3,h4⟩;exact⟨⟨h1,h2,h3⟩,h4.1 m2⟩
  ·obtain⟨m1,m2⟩:=(Ec (h.wf c hc).1 z6 t n).1 hm;have m3:=((Lg hp t n).1 m2).2;rw[Ec (h.wf c hc).1 z6,h.cls c hc t n m1,Lg hp];constructor
   ·rintro⟨⟨h1,h2,h3⟩,h4⟩;exact⟨h1,h2,h3,fun h=>absurd h m3,fun h=>absurd h h4.2⟩
   ·rintro⟨h1,h2,h3,h4⟩;exact⟨⟨h1,h2,h3⟩,⟨h1,h2⟩,fun h=>m3 (h4.2 h)⟩
theorem Kq(T:Nat)(hT:0<T):Prts T [] [Ed T]:=by
 refine⟨fun p hp=> ?_,fun p hp=> ?_,fun t n ht hn=> ?_,fun p hp t n hm t' n'=> ?_⟩
 ·obtain rfl:=zW.1 hp;exact D4 T
 ·obtain rfl:=zW.1 hp;exact⟨0,0,(P9 T 0 0).2 ⟨hT,by unfold inR;omega⟩⟩
 ·exact⟨_,List.mem_singleton_self _,(P9 T t n).2 ⟨ht,hn⟩⟩
 ·obtain rfl:=zW.1 hp;rw[P9];exact⟨fun h=>⟨h.1,h.2,fun r hr=>by cases hr⟩,fun h=>⟨h.1,h.2.1⟩⟩
theorem Z5{T:Nat}(hT:0<T){l:List Prd}(hl:∀p∈l,PCk T p):Prts T l (U4 T l):=by
 have key:∀(r d L:List Prd),Prts T d L→(∀p∈r,PCk T p)→Prts T (d++r) (r.foldl (fun L p=>Yx p L) L):=by
  intro r;induction r with
  |nil=>intro d L h _;simpa using h
  |cons p r ih=>intro d L h hr;rw[xY];have:=ih (d++[p]) (Yx p L) (Kh h (hr p (by simp))) (fun q hq=>hr q (by simp[hq]));simpa using this
 have:=key l [] [Ed T] (Kq T hT) hl;simpa[U4]using this
end Go.Abs
namespace Go.Abs
def Q1:Prd→Nat→Nat×Int
 |[],_=>(0,0)
 |(x::_)::_,i=>(i,x.lo)
 |[]::p,i=>Q1 p (i+1)
def Vh(a b:Nat×Int):Bool:=decide (a.1<b.1) || (decide (a.1=b.1) && decide (a.2<b.2))
theorem Rs(a b:Nat×Int):Vh a b=true↔Ii a.1 a.2 b.1 b.2:=by simp[Vh,Ii]
theorem Xk:∀(p:Prd) (i:Nat),(∀s∈p,Sep s)→(∃s∈p,s≠[])→∃t x r,p[t]? =some (x::r)∧Q1 p i=(i+t,x.lo)∧∀j,j<t→p[j]? =some []
 |[],_,_,⟨s,hs,_⟩=>by cases hs
 |(x::r)::p,i,_,_=>⟨0,x,r,rfl,rfl,fun j hj=>by omega⟩
 |[]::p,i,h,⟨s,hs,hn⟩=>by
  have z1:s∈p:=by
   rcases yL.1 hs with rfl|hs
   ·exact absurd rfl hn
   ·exact hs
  obtain⟨t,x,r,h1,h2,h3⟩:=Xk p (i+1) (fun s hs=>h s (by simp[hs])) ⟨s,z1,hn⟩;refine⟨t+1,x,r,by simpa using h1,by rw[Q1,h2];congr 1;omega,fun j hj=> ?_⟩;cases j with
  |zero=>rfl
  |succ j=>simpa using h3 j (by omega)
theorem W2{T:Nat}{p:Prd}(h:PWf T p)(hn:∃t n,PM p t n):PM p (Q1 p 0).1 (Q1 p 0).2∧∀t n,PM p t n→((Q1 p 0).1=t∧(Q1 p 0).2=n)∨Ii (Q1 p 0).1 (Q1 p 0).2 t n:=by
 obtain⟨t0,n0,s0,z1,m0⟩:=hn;have z6:s0≠[]:=fun e=>by subst e;simp[M]at m0
 obtain⟨t,x,r,h1,h2,h3⟩:=Xk p 0 (fun s hs=>(h.2 s hs).1) ⟨s0,zL z1,z6⟩;rw[Nat.zero_add]at h2;rw[h2];have hx:=(h.2 _ (zL h1)).1;refine⟨⟨_,h1,(Em ..).2 (.inl ⟨xB _,hx.1 x (by simp)⟩)⟩,fun t' n' hm=> ?_⟩;obtain⟨s,hs,hm⟩:=hm;simp only;rcases vS t' t with hlt|rfl|hgt
 ·rw[h3 t' hlt]at hs;cases hs;simp[M]at hm
 ·rw[h1]at hs;cases hs;have:=hx.lowc hm;unfold Ii;omega
 ·exact .inr (.inl hgt)
theorem Lu{T:Nat}{p q:Prd}(hp:PWf T p)(z1:∃t n,PM p t n)(hq:PWf T q)(z6:∃t n,PM q t n)(h:Ii (Q1 p 0).1 (Q1 p 0).2 (Q1 q 0).1 (Q1 q 0).2):z0h p q:=
 ⟨_,_,(W2 hp z1).1,fun t n hm=>by
  rcases(W2 hq z6).2 t n hm with⟨e1,e2⟩|h2
  ·rw[←e1,←e2];exact h
  ·exact h.trans h2⟩
def d01(s:List Prd)(x:Prd):Nat→Nat
 |0=>0
 |j+1=>match s[j]? with
  |some y=>if Vh (Q1 x 0) (Q1 y 0)=true then d01 s x j else j+1
  |none=>j+1
def j06(s:List Prd)(x:Prd):List Prd:=s.take (d01 s x s.length)++x::s.drop (d01 s x s.length)
def y1c(L:List Prd):List Prd:=L.foldl j06 []
theorem C5(s:List Prd)(x:Prd):∀j,j≤s.length→d01 s x j≤j∧(∀i,d01 s x j≤i→i<j→∀h:i<s.length,Vh (Q1 x 0) (Q1 s[i] 0)=true)∧(∀i,i+1=d01 s x j→∀h:i<s.length,Vh (Q1 x 0) (Q1 s[i] 0)=false)
 |0,_=>⟨zV _,fun i _ h=>by omega,fun i h=>by simp[d01]at h⟩
 |j+1,hj=>by
  have z1:j<s.length:=by omega
  rw[d01,zP z1];simp only;by_cases hb:Vh (Q1 x 0) (Q1 s[j] 0)=true
  ·rw[if_pos hb];obtain⟨h1,h2,h3⟩:=C5 s x j (by omega);refine⟨by omega,fun i hi z6 hl=> ?_,h3⟩;by_cases hij:i=j
   ·subst hij;exact hb
   ·exact h2 i hi (by omega) hl
  ·rw[if_neg hb];refine⟨zV _,fun i hi z6=>by omega,fun i hi hl=> ?_⟩;have:i=j:=by omega
   subst this;simpa using hb
theorem f0x(s:List Prd)(x:Prd):(j06 s x).Perm (x::s):=by unfold j06;refine vQ.trans ?_;rw[wd]
def K3(p q:Prd):Prop:=Ii (Q1 p 0).1 (Q1 p 0).2 (Q1 q 0).1 (Q1 q 0).2
theorem Bt{s:List Prd}{x:Prd}(hs:s.Pairwise K3)(hd:∀y∈s,Q1 y 0≠Q1 x 0):(j06 s x).Pairwise K3:=by
 obtain⟨h1,h2,h3⟩:=C5 s x s.length (zV _);unfold j06;generalize d01 s x s.length=k at *
 have z1:=hs;rw[←wd k s]at z1;obtain⟨p1,p2,p3⟩:=yR.1 z1;have z7:∀y∈s.drop k,K3 x y:=fun y hy=>by obtain⟨i,hi⟩:=yQ.1 hy;rw[List.getElem?_drop]at hi;obtain⟨hl,e⟩:=zE.1 hi;have:=h2 (k+i) (by omega) hl hl;rw[e]at this;exact(Rs _ _).1 this
 have z8:∀i,i+1=k→∀h:i<s.length,K3 s[i] x:=fun i hi hl=>by
  have h4:=h3 i hi hl;have zc:=hd s[i] (zT hl);unfold K3;rcases vS (Q1 s[i] 0).1 (Q1 x 0).1 with a|a|a
  ·exact .inl a
  ·rcases tI (Q1 s[i] 0).2 (Q1 x 0).2 with b|b|b
   ·exact .inr ⟨a,b⟩
   ·exact absurd (Prod.ext a b) zc
   ·have:Vh (Q1 x 0) (Q1 s[i] 0)=true:=(Rs _ _).2 (.inr ⟨a.symm,b⟩);rw[this]at h4;cases h4
  ·have:Vh (Q1 x 0) (Q1 s[i] 0)=true:=(Rs _ _).2 (.inl a);rw[this]at h4;cases h4
 have z6:∀y∈s.take k,K3 y x:=fun y hy=>by
  obtain⟨i,hi⟩:=yQ.1 hy;rw[List.getElem?_take]at hi;split at hi
  ·rename_i zd;obtain⟨hl,e⟩:=zE.1 hi;obtain⟨k',rfl⟩:∃k',k=k'+1:=⟨k - 1,by omega⟩
   have za:k'<s.length:=by omega
   have zb:=z8 k' rfl za;by_cases hij:i=k'
   ·subst hij;rw[←e];exact zb
   ·have:=yU.1 hs i k' hl za (by omega);rw[e]at this;exact Ii.trans this zb
  ·cases hi
 refine yR.2 ⟨p1,yX.2 ⟨z7,p2⟩,fun y hy z hz=> ?_⟩;rcases yL.1 hz with rfl|hz
 ·exact z6 y hy
 ·exact p3 y hy z hz
theorem z0q(L:List Prd)(hd:L.Pairwise (fun p q=>Q1 p 0≠Q1 q 0)):(y1c L).Perm L∧(y1c L).Pairwise K3:=by
 have key:∀(r s:List Prd),s.Pairwise K3→(s++r).Pairwise (fun p q=>Q1 p 0≠Q1 q 0)→(r.foldl j06 s).Perm (s++r)∧(r.foldl j06 s).Pairwise K3:=by
  intro r;induction r with
  |nil=>intro s h _;simpa using h
  |cons x r ih=>intro s h hd;obtain⟨d1,d2,d3⟩:=yR.1 hd;have hi:=Bt h (fun y hy=>d3 y hy x (by simp));have hp:=f0x s x;have z1:(j06 s x++r).Perm (s++x::r):=(hp.append_right r).trans (vQ (l₁:=s) (a:=x) (l₂:=r)).symm;have z6:(j06 s x++r).Pairwise (fun p q=>Q1 p 0≠Q1 q 0):=(z1.pairwise_iff (fun h=>Ne.symm h)).2 hd;obtain⟨i1,i2⟩:=ih (j06 s x) hi z6;rw[xY];exact⟨i1.trans z1,i2⟩
 have h:=key L [] List.Pairwise.nil (by simpa using hd);unfold y1c;simpa using h
def Q5(T:Nat)(l:List Prd):List Prd:=y1c (U4 T l)
theorem Xl{T:Nat}{l L:List Prd}{p:Prd}(h:Prts T l L)(hp:PCk T p)(hd:L.Pairwise (fun a b=>∀t n,PM a t n→¬PM b t n)):(Yx p L).Pairwise (fun a b=>∀t n,PM a t n→¬PM b t n):=by
 have z7:(R3 p).length=T:=by simp[R3,hp.1]
 have z8:∀c∈L,∀q∈(if Wo (Wz c p)then []else [Wz c p])++(if Wo (Wz c (R3 p))then []else [Wz c (R3 p)]),∀t n,PM q t n→PM c t n:=by
  intro c hc q hq t n hm;rcases yE.1 hq with hq|hq
  ·split at hq
   ·cases hq
   ·obtain rfl:=zW.1 hq;exact((Ec (h.wf c hc).1 hp.1 t n).1 hm).1
  ·split at hq
   ·cases hq
   ·obtain rfl:=zW.1 hq;exact((Ec (h.wf c hc).1 z7 t n).1 hm).1
 unfold Yx;rw[um];refine⟨fun c hc=> ?_,?_⟩
 ·refine yR.2 ⟨by split<;>simp,by split<;>simp,fun a ha b hb t n z1 z6=> ?_⟩;split at ha
  ·cases ha
  ·split at hb
   ·cases hb
   ·obtain rfl:=zW.1 ha;obtain rfl:=zW.1 hb;exact((Lg hp t n).1 ((Ec (h.wf c hc).1 z7 t n).1 z6).2).2 ((Ec (h.wf c hc).1 hp.1 t n).1 z1).2
 ·exact hd.imp_of_mem (fun {a b} ha hb hab x hx y hy t n z1 z6=>hab t n (z8 a ha x hx t n z1) (z8 b hb y hy t n z6))
theorem Cw{T:Nat}(hT:0<T){l:List Prd}(hl:∀p∈l,PCk T p):(U4 T l).Pairwise (fun a b=>∀t n,PM a t n→¬PM b t n):=by
 have key:∀(r d L:List Prd),Prts T d L→(∀p∈r,PCk T p)→L.Pairwise (fun a b=>∀t n,PM a t n→¬PM b t n)→(r.foldl (fun L p=>Yx p L) L).Pairwise (fun a b=>∀t n,PM a t n→¬PM b t n):=by
  intro r;induction r with
  |nil=>intro d L _ _ h;simpa using h
  |cons p r ih=>intro d L h hr hd;rw[xY];exact ih (d++[p]) (Yx p L) (Kh h (hr p (by simp))) (fun q hq=>hr q (by simp[hq])) (Xl h (hr p (by simp)) hd)
 exact key l [] [Ed T] (Kq T hT) hl (by simp)
theorem Rt{T:Nat}(hT:0<T){l:List Prd}(hl:∀p∈l,PCk T p):Prts T l (Q5 T l)∧(Q5 T l).Pairwise z0h:=by
 have h:=Z5 hT hl;have hd:(U4 T l).Pairwise (fun p q=>Q1 p 0≠Q1 q 0):=(Cw hT hl).imp_of_mem (fun {a b} ha hb hab e=>by
  have h1:=(W2 (h.wf a ha) (h.ne a ha)).1;have h2:=(W2 (h.wf b hb) (h.ne b hb)).1;rw[←e]at h2;exact hab _ _ h1 h2)
 obtain⟨h1,h2⟩:=z0q _ hd;have h3:Prts T l (Q5 T l):=h.perm h1.symm;refine⟨h3,?_⟩;exact h2.imp_of_mem (fun {a b} ha hb hab=>Lu (h3.wf a ha) (h3.ne a ha) (h3.wf b hb) (h3.ne b hb) hab)
end Go.Abs
namespace Go.Abs
def Qw(l:List Prd)(i:Nat):List Iv:=l.flatMap fun p=>p.getD i []
def Wd(l:List Prd)(i:Nat):List Int:=j0g (⟨-1099511627776,1099511627776⟩::Qw l i)
def Yl:List Int→List Iv
 |a::b::r=>⟨a,b - 1⟩::Yl (b::r)
 |_=>[]
def Ij(l:List Prd)(i:Nat)(n:Int):List Bool:=l.map fun p=>Pd (p.getD i []) n
def Ut(p:Prd)(i:Nat)(x:Iv):Prd:=p.set i (p.getD i []++[x])
def Yp(T i:Nat)(sg:List Bool)(x:Iv):List (List Bool×Prd)→List (List Bool×Prd)
 |[]=>[(sg,Ut (yB T []) i x)]
 |(s,p)::r=>if s=sg then(s,Ut p i x)::r else(s,p)::Yp T i sg x r
def Jz(T:Nat)(l:List Prd):List (Nat×Iv):=(yW T).flatMap fun i=>(Yl (Wd l i)).map fun x=>(i,x)
def O8(T:Nat)(l:List Prd):List (List Bool×Prd):=(Jz T l).foldl (fun st a=>Yp T a.1 (Ij l a.1 a.2.lo) a.2 st) []
def Rc(p:Prd):Prd:=p.map (Qy [])
def E0(T:Nat)(l:List Prd):List Prd:=(O8 T l).map fun g=>Rc g.2
def k1w(a:Nat×Iv)(t:Nat)(n:Int):Prop:=t=a.1∧a.2.lo≤n∧n≤a.2.hi
structure GInv (T:Nat) (sig:Nat→Int→List Bool) (D:Nat→Int→Prop) (st:List (List Bool×Prd)):Prop where
 len:∀g∈st,g.2.length=T
 asc:∀g∈st,∀s∈g.2,(∀x∈s,x.lo≤x.hi)∧s.Pairwise (fun x y=>x.hi<y.lo)
 mem:∀g∈st,∀t n,PM g.2 t n↔D t n∧sig t n=g.1
 ne:∀g∈st,∃t n,PM g.2 t n
 nd:st.Pairwise (fun g h=>g.1≠h.1)
 all:∀t n,D t n→∃g∈st,g.1=sig t n
 ord:st.Pairwise (fun g h=>∃t n,PM g.2 t n∧∀t' n',PM h.2 t' n'→Ii t n t' n')
theorem Wt{p:Prd}{i:Nat}(h:i<p.length):p.getD i []=p[i]:=by simp[yV,h]
theorem y1y{T:Nat}{p:Prd}(hp:p.length=T){i:Nat}(hi:i<T)(x:Iv)(t:Nat)(n:Int):PM (Ut p i x) t n↔PM p t n∨k1w (i,x) t n:=by
 unfold PM Ut k1w;have z1:i<p.length:=by omega
 rw[Wt z1];by_cases ht:t=i
 ·subst ht;rw[zU z1,zP z1];constructor
  ·rintro⟨s,hs,hm⟩;cases hs;rcases(L6 ..).1 hm with h|h
   ·exact .inl ⟨_,rfl,h⟩
   ·rcases(Em ..).1 h with h|h
    ·exact .inr ⟨rfl,h⟩
    ·simp[M]at h
  ·rintro(⟨s,hs,hm⟩|⟨_,h⟩)
   ·cases hs;exact⟨_,rfl,(L6 ..).2 (.inl hm)⟩
   ·exact⟨_,rfl,(L6 ..).2 (.inr ((Em ..).2 (.inl h)))⟩
 ·rw[zH (by omega)];constructor
  ·exact fun h=> .inl h
  ·rintro(h|⟨h,_⟩)
   ·exact h
   ·exact absurd h ht
theorem f0b{T:Nat}{p:Prd}(hp:p.length=T){i:Nat}(hi:i<T){x:Iv}(hx:x.lo≤x.hi)(h:∀s∈p,(∀y∈s,y.lo≤y.hi)∧s.Pairwise (fun y z=>y.hi<z.lo))(z6:∀t n,PM p t n→Ii t n i x.lo):
  ∀s∈Ut p i x,(∀y∈s,y.lo≤y.hi)∧s.Pairwise (fun y z=>y.hi<z.lo):=by
 intro s hs;have z1:i<p.length:=by omega
 rcases List.mem_or_eq_of_mem_set hs with hs|rfl
 ·exact h s hs
 ·rw[Wt z1];obtain⟨h1,h2⟩:=h _ (zT z1);refine⟨fun y hy=> ?_,yR.2 ⟨h2,by simp,fun y hy z hz=> ?_⟩⟩
  ·rcases yE.1 hy with hy|hy
   ·exact h1 y hy
   ·obtain rfl:=zW.1 hy;exact hx
  ·obtain rfl:=zW.1 hz;have:=z6 i y.hi ⟨_,zP z1,y,hy,h1 y hy,xB _⟩;unfold Ii at this;omega
theorem Ol{T i:Nat}{sg:List Bool}{x:Iv}:∀ {st:List (List Bool×Prd)},(∀g∈st,g.1≠sg)→Yp T i sg x st=st++[(sg,Ut (yB T []) i x)]
 |[],_=>rfl
 |(s,p)::r,h=>by rw[Yp,if_neg (h (s,p) (by simp)),Ol (fun g hg=>h g (by simp[hg]))];rfl
theorem Sb{T i:Nat}{sg:List Bool}{x:Iv}:∀ {st:List (List Bool×Prd)},(∃g∈st,g.1=sg)→∃a p b,st=a++(sg,p)::b∧(∀g∈a,g.1≠sg)∧Yp T i sg x st=a++(sg,Ut p i x)::b
 |[],⟨g,hg,_⟩=>by cases hg
 |(s,p)::r,⟨g,hg,he⟩=>by
  by_cases hs:s=sg
  ·subst hs;exact⟨[],p,r,rfl,by simp,by rw[Yp,if_pos rfl];rfl⟩
  ·have z1:g∈r:=by
    rcases yL.1 hg with rfl|hg
    ·exact absurd he hs
    ·exact hg
   obtain⟨a,q,b,h1,h2,h3⟩:=Sb (T:=T) (i:=i) (x:=x) ⟨g,z1,he⟩;refine⟨(s,p)::a,q,b,by rw[h1];rfl,fun g hg=> ?_,by rw[Yp,if_neg hs,h3];rfl⟩;rcases yL.1 hg with rfl|hg
   ·exact hs
   ·exact h2 g hg
theorem K7(T t:Nat)(n:Int):¬PM (yB T []) t n:=by rintro⟨s,hs,hm⟩;obtain rfl:=vU (zL hs);simp[M]at hm
theorem GInv.step{T:Nat}{sig:Nat→Int→List Bool}{D:Nat→Int→Prop}{st:List (List Bool×Prd)}(h:GInv T sig D st){i:Nat}{x:Iv}(hi:i<T)(hx:x.lo≤x.hi)(hc:∀n,x.lo≤n→n≤x.hi→sig i n=sig i x.lo)(hD:∀t n,D t n→∀n',x.lo≤n'→n'≤x.hi→Ii t n i n'):
  GInv T sig (fun t n=>D t n∨k1w (i,x) t n) (Yp T i (sig i x.lo) x st):=by
 have z7:∀t n,k1w (i,x) t n→sig t n=sig i x.lo:=fun t n hp=>by obtain⟨rfl,h1,h2⟩:=hp;exact hc n h1 h2
 have zb:∀t n,D t n→∀t' n',k1w (i,x) t' n'→Ii t n t' n':=fun t n hd t' n' hp=>by obtain⟨rfl,h1,h2⟩:=hp;exact hD t n hd n' h1 h2
 have zc:k1w (i,x) i x.lo:=⟨rfl,xB _,hx⟩
 by_cases hit:∃g∈st,g.1=sig i x.lo
 ·obtain⟨a,p,b,h1,h2,h3⟩:=Sb (T:=T) (i:=i) (x:=x) hit;rw[h3];subst h1;generalize zh:sig i x.lo=s0 at *
  have za:(s0,p)∈a++(s0,p)::b:=by simp
  have zd:=h.mem _ za;have hlen:=h.len _ za;have zf:=h.nd;obtain⟨n1,n2,n3⟩:=yR.1 zf;obtain⟨n4,n5⟩:=yX.1 n2;obtain⟨o1,o2,o3⟩:=yR.1 h.ord;obtain⟨o4,o5⟩:=yX.1 o2;have z1:=fun t n=>y1y hlen hi x t n;have hold:∀g∈a++(s0,Ut p i x)::b,(g∈a++(s0,p)::b∧g.1≠s0)∨g=(s0,Ut p i x):=fun g hg=>by
   rcases yE.1 hg with hg|hg
   ·exact .inl ⟨by simp[hg],h2 g hg⟩
   ·rcases yL.1 hg with rfl|hg
    ·exact .inr rfl
    ·exact .inl ⟨by simp[hg],(n4 g hg).symm⟩
  refine⟨fun g hg=> ?_,fun g hg=> ?_,fun g hg t n=> ?_,fun g hg=> ?_,?_,fun t n hd=> ?_,?_⟩
  ·rcases hold g hg with⟨hg,_⟩|rfl
   ·exact h.len g hg
   ·simp[Ut,hlen]
  ·rcases hold g hg with⟨hg,_⟩|rfl
   ·exact h.asc g hg
   ·exact f0b hlen hi hx (h.asc _ za) (fun t n hm=>hD t n ((zd t n).1 hm).1 x.lo (xB _) hx)
  ·rcases hold g hg with⟨hg,zg⟩|rfl
   ·rw[h.mem g hg t n];constructor
    ·exact fun hh=>⟨.inl hh.1,hh.2⟩
    ·rintro⟨hd|hd,hs⟩
     ·exact⟨hd,hs⟩
     ·exact absurd (by rw[←hs,z7 t n hd]) zg
   ·rw[z1,zd];constructor
    ·rintro(⟨hd,hs⟩|hd)
     ·exact⟨.inl hd,hs⟩
     ·exact⟨.inr hd,z7 t n hd⟩
    ·rintro⟨hd|hd,hs⟩
     ·exact .inl ⟨hd,hs⟩
     ·exact .inr hd
  ·rcases hold g hg with⟨hg,_⟩|rfl
   ·exact h.ne g hg
   ·exact⟨i,x.lo,(z1 i x.lo).2 (.inr zc)⟩
  ·exact yR.2 ⟨n1,yX.2 ⟨fun g hg=>n4 g hg,n5⟩,fun g hg k hk=>by
    rcases yL.1 hk with rfl|hk
    ·exact h2 g hg
    ·exact n3 g hg k (by simp[hk])⟩
  ·rcases hd with hd|hd
   ·obtain⟨g,hg,he⟩:=h.all t n hd;rcases yE.1 hg with hg|hg
    ·exact⟨g,by simp[hg],he⟩
    ·rcases yL.1 hg with rfl|hg
     ·exact⟨(s0,Ut p i x),by simp,he⟩
     ·exact⟨g,by simp[hg],he⟩
   ·exact⟨(s0,Ut p i x),by simp,(z7 t n hd).symm⟩
  ·refine yR.2 ⟨o1,yX.2 ⟨fun g hg=> ?_,o5⟩,fun g hg k hk=> ?_⟩
   ·obtain⟨t,n,e1,e2⟩:=o4 g hg;exact⟨t,n,(z1 t n).2 (.inl e1),e2⟩
   ·rcases yL.1 hk with rfl|hk
    ·obtain⟨t,n,e1,e2⟩:=o3 g hg (s0,p) (by simp);refine⟨t,n,e1,fun t' n' hm=> ?_⟩;rcases(z1 t' n').1 hm with hm|hm
     ·exact e2 t' n' hm
     ·exact zb t n ((h.mem g (by simp[hg]) t n).1 e1).1 t' n' hm
    ·exact o3 g hg k (by simp[hk])
 ·have z8:∀g∈st,g.1≠sig i x.lo:=fun g hg he=>hit ⟨g,hg,he⟩;rw[Ol z8];have ze:(yB T ([]:List Iv)).length=T:=by simp
  have z1:=fun t n=>y1y ze hi x t n;have z6:∀g∈st++[(sig i x.lo,Ut (yB T []) i x)],g∈st∨g=(sig i x.lo,Ut (yB T []) i x):=fun g hg=>by
   rcases yE.1 hg with hg|hg
   ·exact .inl hg
   ·exact .inr (zW.1 hg)
  refine⟨fun g hg=> ?_,fun g hg=> ?_,fun g hg t n=> ?_,fun g hg=> ?_,?_,fun t n hd=> ?_,?_⟩
  ·rcases z6 g hg with hg|rfl
   ·exact h.len g hg
   ·simp[Ut]
  ·rcases z6 g hg with hg|rfl
   ·exact h.asc g hg
   ·exact f0b ze hi hx (fun s hs=>by obtain rfl:=vU hs;simp) (fun t n hm=>absurd hm (K7 T t n))
  ·rcases z6 g hg with hg|rfl
   ·rw[h.mem g hg t n];constructor
    ·exact fun hh=>⟨.inl hh.1,hh.2⟩
    ·rintro⟨hd|hd,hs⟩
     ·exact⟨hd,hs⟩
     ·exact absurd (by rw[←hs,z7 t n hd]) (z8 g hg)
   ·rw[z1];constructor
    ·rintro(hm|hd)
     ·exact absurd hm (K7 T t n)
     ·exact⟨.inr hd,z7 t n hd⟩
    ·rintro⟨hd|hd,hs⟩
     ·obtain⟨g,hg,he⟩:=h.all t n hd;exact absurd (he.trans hs) (z8 g hg)
     ·exact .inr hd
  ·rcases z6 g hg with hg|rfl
   ·exact h.ne g hg
   ·exact⟨i,x.lo,(z1 i x.lo).2 (.inr zc)⟩
  ·exact yR.2 ⟨h.nd,by simp,fun g hg k hk=>by obtain rfl:=zW.1 hk;exact z8 g hg⟩
  ·rcases hd with hd|hd
   ·obtain⟨g,hg,he⟩:=h.all t n hd;exact⟨g,by simp[hg],he⟩
   ·exact⟨(sig i x.lo,Ut (yB T []) i x),by simp,(z7 t n hd).symm⟩
  ·refine yR.2 ⟨h.ord,by simp,fun g hg k hk=> ?_⟩;obtain rfl:=zW.1 hk;obtain⟨t,n,e1⟩:=h.ne g hg;refine⟨t,n,e1,fun t' n' hm=> ?_⟩;rcases(z1 t' n').1 hm with hm|hm
   ·exact absurd hm (K7 T t' n')
   ·exact zb t n ((h.mem g hg t n).1 e1).1 t' n' hm
end Go.Abs
namespace Go.Abs
theorem P3:∀(cs:List Int),cs.Pairwise (·<·)→∀x∈Yl cs,x.lo≤x.hi∧x.lo∈cs∧x.hi+1∈cs∧∀d∈cs,d≤x.hi→d≤x.lo
 |[],_,x,hx=>by simp[Yl]at hx
 |[a],_,x,hx=>by simp[Yl]at hx
 |a::b::r,h,x,hx=>by
  obtain⟨h1,h2⟩:=yX.1 h;rw[Yl]at hx;rcases yL.1 hx with rfl|hx
  ·have z1:=h1 b (by simp);refine⟨by simp only;omega,by simp,by simp,fun d hd hle=> ?_⟩;simp only at hle ⊢;rcases yL.1 hd with rfl|hd
   ·omega
   ·have:b≤d:=by
     rcases yL.1 hd with rfl|hd
     ·omega
     ·have:=(yX.1 h2).1 d hd;omega
    omega
  ·obtain⟨k1,k2,k3,k4⟩:=P3 (b::r) h2 x hx;refine⟨k1,by simp only[yL]at k2 ⊢;exact .inr k2,by simp only[yL]at k3 ⊢;exact .inr k3,fun d hd hle=> ?_⟩;rcases yL.1 hd with rfl|hd
   ·have:=h1 x.lo k2;omega
   ·exact k4 d hd hle
theorem Mm:∀(cs:List Int),cs.Pairwise (·<·)→(Yl cs).Pairwise (fun x y=>x.hi<y.lo)
 |[],_=>by simp[Yl]
 |[a],_=>by simp[Yl]
 |a::b::r,h=>by
  obtain⟨h1,h2⟩:=yX.1 h;rw[Yl];refine yX.2 ⟨fun y hy=> ?_,Mm (b::r) h2⟩;obtain⟨_,k2,_,_⟩:=P3 (b::r) h2 y hy;have:b≤y.lo:=by
   rcases yL.1 k2 with e|k2
   ·omega
   ·have:=(yX.1 h2).1 y.lo k2;omega
  simp only;omega
theorem Ka:∀(cs:List Int),cs.Pairwise (·<·)→∀n,(∃a∈cs,a≤n)→(∃b∈cs,n<b)→∃x∈Yl cs,x.lo≤n∧n≤x.hi
 |[],_,n,⟨a,ha,_⟩,_=>by cases ha
 |[a],_,n,⟨c,hc,h1⟩,⟨d,hd,h2⟩=>by obtain rfl:=zW.1 hc;obtain rfl:=zW.1 hd;omega
 |a::b::r,h,n,⟨c,hc,h1⟩,⟨d,hd,h2⟩=>by
  obtain⟨p1,p2⟩:=yX.1 h;rw[Yl];have z1:a≤n:=by
   rcases yL.1 hc with rfl|hc
   ·exact h1
   ·have:=p1 c hc;omega
  by_cases hb:n<b
  ·exact⟨⟨a,b - 1⟩,by simp,z1,by simp only;omega⟩
  ·have z6:d∈b::r:=by
    rcases yL.1 hd with rfl|hd
    ·omega
    ·exact hd
   obtain⟨x,hx,e⟩:=Ka (b::r) p2 n ⟨b,by simp,by omega⟩ ⟨d,z6,h2⟩;exact⟨x,by simp[hx],e⟩
theorem R7{l:List Prd}{i:Nat}{x:Iv}:x∈Qw l i↔∃p∈l,x∈p.getD i []:=by simp[Qw]
theorem q1c{T:Nat}{p:Prd}(hp:PCk T p)(i:Nat):CanonL (p.getD i []):=by
 by_cases hi:i<p.length
 ·rw[Wt hi];exact hp.2 _ (zT hi)
 ·have:p.getD i []=[]:=by simp[yV,List.getElem?_eq_none (by omega:p.length≤i)]
  rw[this];exact P5
theorem Yh{T:Nat}{l:List Prd}(hl:∀p∈l,PCk T p)(i:Nat):(Wd l i).Pairwise (·<·)∧(-1099511627776:Int)∈Wd l i∧(1099511627777:Int)∈Wd l i∧
  (∀z∈Wd l i,-1099511627776≤z∧z≤1099511627777)∧∀p∈l,∀x∈p.getD i [],x.lo∈Wd l i∧x.hi+1∈Wd l i:=by
 obtain⟨h1,h2⟩:=u0o (⟨-1099511627776,1099511627776⟩::Qw l i);refine⟨h1,(h2 _).2 ⟨⟨-1099511627776,1099511627776⟩,by simp,.inl rfl⟩,(h2 _).2 ⟨⟨-1099511627776,1099511627776⟩,by simp,.inr (by simp)⟩,fun z hz=> ?_,fun p hp x hx=>⟨(h2 _).2 ⟨x,?_,.inl rfl⟩,(h2 _).2 ⟨x,?_,.inr rfl⟩⟩⟩
 ·obtain⟨x,hx,e⟩:=(h2 z).1 hz;rcases yL.1 hx with rfl|hx
  ·simp only at e;omega
  ·obtain⟨p,hp,hx⟩:=R7.1 hx;have hc:=q1c (hl p hp) i;have h3:=Zi hc x hx;have h4:=(W4 _).1 h3.1;have h5:=(W4 _).1 h3.2;have:=(Hh hc).1 x hx;omega
 ·exact tp _ (R7.2 ⟨p,hp,hx⟩)
 ·exact tp _ (R7.2 ⟨p,hp,hx⟩)
theorem u0f{T:Nat}{l:List Prd}(hl:∀p∈l,PCk T p)(i:Nat){x:Iv}(hx:x∈Yl (Wd l i))(n:Int)(h1:x.lo≤n)(h2:n≤x.hi):Ij l i n=Ij l i x.lo:=by obtain⟨c1,_,_,_,c5⟩:=Yh hl i;obtain⟨_,_,_,k4⟩:=P3 _ c1 x hx;unfold Ij;apply xP;intro p hp;exact k07 _ (Wd l i) (c5 p hp) x.lo n h1 (fun d hd hle=>k4 d hd (by omega))
theorem Cv{T:Nat}{p:Prd}(hp:p.length=T){t:Nat}(ht:t<T)(n:Int):Pd (p.getD t []) n=true↔PM p t n:=by
 have z1:t<p.length:=by omega
 rw[Wt z1,V6];unfold PM;rw[zP z1];simp
theorem x1l{T:Nat}{l:List Prd}(hl:∀p∈l,PCk T p){t t':Nat}(ht:t<T)(z1:t'<T)(n n':Int):Ij l t n=Ij l t' n'↔v1u l t n t' n':=by
 unfold Ij v1u;constructor
 ·intro h p hp;have:=(List.map_inj_left.1 h) p hp;rw[←Cv (hl p hp).1 ht,←Cv (hl p hp).1 z1,this]
 ·intro h;apply xP;intro p hp;have:=h p hp;rw[←Cv (hl p hp).1 ht,←Cv (hl p hp).1 z1]at this;exact x_.2 this
theorem GInv.congr{T:Nat}{sig:Nat→Int→List Bool}{D D':Nat→Int→Prop}{st:List (List Bool×Prd)}(h:GInv T sig D st)(e:∀t n,D t n↔D' t n):GInv T sig D' st:=by have:D=D':=funext fun t=>funext fun n=>propext (e t n);rw[←this];exact h
theorem Z4{T:Nat}{sig:Nat→Int→List Bool}:∀(A:List (Nat×Iv)) (D:Nat→Int→Prop) (st:List (List Bool×Prd)),GInv T sig D st→(∀a∈A,a.1<T∧a.2.lo≤a.2.hi∧∀n,a.2.lo≤n→n≤a.2.hi→sig a.1 n=sig a.1 a.2.lo)→
  (∀t n,D t n→∀a∈A,∀n',a.2.lo≤n'→n'≤a.2.hi→Ii t n a.1 n')→A.Pairwise (fun a b=>∀n n',a.2.lo≤n→n≤a.2.hi→b.2.lo≤n'→n'≤b.2.hi→Ii a.1 n b.1 n')→
  GInv T sig (fun t n=>D t n∨∃a∈A,k1w a t n) (A.foldl (fun st a=>Yp T a.1 (sig a.1 a.2.lo) a.2 st) st)
 |[],D,st,h,_,_,_=>h.congr (fun t n=>by simp)
 |a::A,D,st,h,h1,h2,h3=>by
  obtain⟨i,x⟩:=a;obtain⟨e1,e2,e3⟩:=h1 (i,x) (by simp);obtain⟨p1,p2⟩:=yX.1 h3;have hs:=h.step e1 e2 e3 (fun t n hd n' q1 q2=>h2 t n hd (i,x) (by simp) n' q1 q2);rw[xY];refine(Z4 A _ _ hs (fun b hb=>h1 b (by simp[hb])) (fun t n hd b hb n' q1 q2=> ?_) p2).congr (fun t n=> ?_)
  ·rcases hd with hd|hd
   ·exact h2 t n hd b (by simp[hb]) n' q1 q2
   ·obtain⟨rfl,d1,d2⟩:=hd;exact p1 b hb n n' d1 d2 q1 q2
  ·simp[or_assoc]
theorem Hj{T:Nat}{l:List Prd}{a:Nat×Iv}:a∈Jz T l↔a.1<T∧a.2∈Yl (Wd l a.1):=by
 unfold Jz;rw[w_];constructor
 ·rintro⟨i,hi,h⟩;obtain⟨x,hx,rfl⟩:=zX.1 h;exact⟨xH.1 hi,hx⟩
 ·rintro⟨h1,h2⟩;exact⟨a.1,xH.2 h1,zX.2 ⟨a.2,h2,rfl⟩⟩
theorem u01{T:Nat}{l:List Prd}(hl:∀p∈l,PCk T p):(Jz T l).Pairwise (fun a b=>∀n n',a.2.lo≤n→n≤a.2.hi→b.2.lo≤n'→n'≤b.2.hi→Ii a.1 n b.1 n'):=by
 unfold Jz;rw[um];refine⟨fun i _=> ?_,?_⟩
 ·rw[wS];refine(Mm _ (Yh hl i).1).imp (fun {x y} h n n' h1 h2 h3 h4=> .inr ⟨rfl,by simp only at h2 h3;omega⟩)
 ·refine List.pairwise_lt_range.imp (fun {i j} h a ha b hb n n' _ _ _ _=> ?_);obtain⟨x,_,rfl⟩:=zX.1 ha;obtain⟨y,_,rfl⟩:=zX.1 hb;exact .inl h
theorem v04{T:Nat}{l:List Prd}(hl:∀p∈l,PCk T p):GInv T (Ij l) (fun t n=>t<T∧inR n) (O8 T l):=by
 have h0:GInv T (Ij l) (fun _ _=>False) []:=⟨by simp,by simp,by simp,by simp,by simp,fun _ _ h=>h.elim,by simp⟩
 refine(Z4 (Jz T l) _ [] h0 (fun a ha=> ?_) (fun _ _ h=>h.elim) (u01 hl)).congr (fun t n=> ?_)
 ·obtain⟨h1,h2⟩:=Hj.1 ha;exact⟨h1,(P3 _ (Yh hl a.1).1 _ h2).1,fun n q1 q2=>u0f hl a.1 h2 n q1 q2⟩
 ·obtain⟨c1,c2,c3,c4,c5⟩:=Yh hl t;constructor
  ·rintro(h|⟨a,ha,rfl,h1,h2⟩)
   ·exact h.elim
   ·obtain⟨q1,q2⟩:=Hj.1 ha;obtain⟨s1,s2,s3,s4⟩:=P3 _ c1 _ q2;have:=c4 _ s2;have:=c4 _ s3;exact⟨q1,by unfold inR;omega⟩
  ·rintro⟨h1,h2⟩;unfold inR at h2;obtain⟨x,hx,e1,e2⟩:=Ka _ c1 n ⟨_,c2,h2.1⟩ ⟨_,c3,by omega⟩;exact .inr ⟨(t,x),Hj.2 ⟨h1,hx⟩,rfl,e1,e2⟩
theorem Ov{s:List Iv}(h:(∀x∈s,x.lo≤x.hi)∧s.Pairwise (fun x y=>x.hi<y.lo)):Sep (Qy [] s)∧∀n,M (Qy [] s) n↔M s n:=by have hb:Zr s:=h.2.imp_of_mem (fun {x y} hx hy hxy=>by have:=h.1 x hx;omega);have:=Sj s [] Nk hb h.1 (by simp);refine⟨this.1,fun n=> ?_⟩;rw[this.2 n];simp[M]
theorem Ln{T:Nat}{p:Prd}(h:∀s∈p,(∀x∈s,x.lo≤x.hi)∧s.Pairwise (fun x y=>x.hi<y.lo))(t:Nat)(n:Int):PM (Rc p) t n↔PM p t n:=by
 unfold PM Rc;rw[yI];constructor
 ·rintro⟨s,hs,hm⟩;obtain⟨a,ha,rfl⟩:=zY.1 hs;exact⟨a,ha,((Ov (h a (zL ha))).2 n).1 hm⟩
 ·rintro⟨a,ha,hm⟩;exact⟨Qy [] a,by rw[ha];rfl,((Ov (h a (zL ha))).2 n).2 hm⟩
theorem K4{T:Nat}{l:List Prd}(hl:∀p∈l,PCk T p):Prts T l (E0 T l)∧(E0 T l).Pairwise z0h:=by
 have h:=v04 hl;have z1:∀g∈O8 T l,∀t n,PM (Rc g.2) t n↔(t<T∧inR n)∧Ij l t n=g.1:=fun g hg t n=>by rw[Ln (T:=T) (h.asc g hg),h.mem g hg]
 have z6:∀p∈E0 T l,∃g∈O8 T l,p=Rc g.2:=fun p hp=>by obtain⟨g,hg,rfl⟩:=zX.1 hp;exact⟨g,hg,rfl⟩
 refine⟨⟨fun p hp=> ?_,fun p hp=> ?_,fun t n ht hn=> ?_,fun p hp t n hm t' n'=> ?_⟩,?_⟩
 ·obtain⟨g,hg,rfl⟩:=z6 p hp;refine⟨by simp[Rc,h.len g hg],fun s hs=> ?_⟩;obtain⟨i,hi⟩:=yQ.1 hs;have z7:=hs;obtain⟨a,ha,rfl⟩:=zX.1 hs;exact⟨(Ov (h.asc g hg a ha)).1,fun n hn=>((z1 g hg i n).1 ⟨_,hi,hn⟩).1.2⟩
 ·obtain⟨g,hg,rfl⟩:=z6 p hp;obtain⟨t,n,hm⟩:=h.ne g hg;exact⟨t,n,(Ln (T:=T) (h.asc g hg) t n).2 hm⟩
 ·obtain⟨g,hg,he⟩:=h.all t n ⟨ht,hn⟩;exact⟨Rc g.2,zX.2 ⟨g,hg,rfl⟩,(z1 g hg t n).2 ⟨⟨ht,hn⟩,he.symm⟩⟩
 ·obtain⟨g,hg,rfl⟩:=z6 p hp;obtain⟨⟨q1,q2⟩,q3⟩:=(z1 g hg t n).1 hm;rw[z1 g hg];constructor
  ·rintro⟨⟨h1,h2⟩,h3⟩;exact⟨h1,h2,(x1l hl q1 h1 n n').1 (q3.trans h3.symm)⟩
  ·rintro⟨h1,h2,h3⟩;exact⟨⟨h1,h2⟩,((x1l hl q1 h1 n n').2 h3).symm.trans q3⟩
 ·unfold E0;rw[wS];refine h.ord.imp_of_mem (fun {a b} ha hb hab=> ?_);obtain⟨t,n,e1,e2⟩:=hab;exact⟨t,n,(Ln (T:=T) (h.asc a ha) t n).2 e1,fun t' n' hm=>e2 t' n' ((Ln (T:=T) (h.asc b hb) t' n').1 hm)⟩
theorem Oy{T:Nat}(hT:0<T){l:List Prd}(hl:∀p∈l,PCk T p):E0 T l=Q5 T l:=by obtain⟨a1,a2⟩:=K4 hl;obtain⟨b1,b2⟩:=Rt hT hl;exact a1.unique b1 a2 b2
end Go.Abs
namespace Go.Abs
structure Sy where
 ty:Int
 num:Int
deriving Inhabited,DecidableEq
structure Mv where
 src:Int
 dst:Int
 on:Prd
deriving Inhabited
structure Aut where
 types:Int
 fin:List Bool
 mv:List Mv
deriving Inhabited
def Uv:Aut:=⟨0,[],[]⟩
def y0p:List (List Iv)→Int
 |[]=>0
 |s::r=>if ckR s≠0 then ckR s else y0p r
def E2(T:Int)(p:Prd):Int:=if T<1∨16<T then 2 else if(p.length:Int)≠T then 15 else y0p p
def w09(T:Int)(n:Nat):List Mv→Int
 |[]=>0
 |m::r=>if ¬((0≤m.src∧m.src<n)∧(0≤m.dst∧m.dst<n))then 2 else if E2 T m.on≠0 then E2 T m.on else w09 T n r
def Wf(a:Aut):Int:=if a.types<1∨16<a.types then 2 else if a.fin.length<1∨256<a.fin.length∨2048<a.mv.length then 5 else w09 a.types a.fin.length a.mv
theorem N0:∀(p:List (List Iv)),y0p p=0↔∀s∈p,CanonL s
 |[]=>by simp[y0p]
 |s::r=>by
  rw[y0p];by_cases h:ckR s=0
  ·rw[if_neg (fun k=>k h),N0 r];simp[(Va s).1 h]
  ·rw[if_pos h];refine⟨fun k=>absurd k h,fun k=>absurd ((Va s).2 (k s (by simp))) h⟩
theorem W6(T:Int)(p:Prd):E2 T p=0↔(1≤T∧T≤16)∧PCk T.toNat p:=by
 unfold E2 PCk;by_cases h1:T<1∨16<T
 ·rw[if_pos h1];exact⟨fun h=>by omega,fun h=>by omega⟩
 ·rw[if_neg h1];by_cases h2:(p.length:Int)≠T
  ·rw[if_pos h2];exact⟨fun h=>by omega,fun h=>by omega⟩
  ·rw[if_neg h2,N0];exact⟨fun h=>⟨by omega,by omega,h⟩,fun h=>h.2.2⟩
structure OkMv (T:Nat) (n:Nat) (m:Mv):Prop where
 src:0≤m.src∧m.src<n
 dst:0≤m.dst∧m.dst<n
 on:PCk T m.on
structure OkA (a:Aut):Prop where
 types:1≤a.types∧a.types≤16
 fin:1≤a.fin.length∧a.fin.length≤256
 mvs:a.mv.length≤2048
 mv:∀m∈a.mv,OkMv a.types.toNat a.fin.length m
theorem w0g{T:Int}(hT:1≤T∧T≤16)(n:Nat):∀(l:List Mv),w09 T n l=0↔∀m∈l,OkMv T.toNat n m
 |[]=>by simp[w09]
 |m::r=>by
  rw[w09];by_cases h1:(0≤m.src∧m.src<n)∧(0≤m.dst∧m.dst<n)
  ·rw[if_neg (fun k=>k h1)];by_cases h2:E2 T m.on=0
   ·rw[if_neg (fun k=>k h2),w0g hT n r];have h3:=((W6 T m.on).1 h2).2;constructor
    ·intro h x hx;rcases yL.1 hx with rfl|hx
     ·exact⟨h1.1,h1.2,h3⟩
     ·exact h x hx
    ·exact fun h x hx=>h x (by simp[hx])
   ·rw[if_pos h2];exact⟨fun h=>absurd h h2,fun h=>absurd ((W6 T m.on).2 ⟨hT,(h m (by simp)).on⟩) h2⟩
  ·rw[if_pos h1];exact⟨fun h=>(by cases h),fun h=>absurd ⟨(h m (by simp)).src,(h m (by simp)).dst⟩ h1⟩
theorem Yy(a:Aut):Wf a=0↔OkA a:=by
 unfold Wf;by_cases h1:a.types<1∨16<a.types
 ·rw[if_pos h1];exact⟨fun h=>(by cases h),fun h=>by have:=h.types;omega⟩
 ·rw[if_neg h1];by_cases h2:a.fin.length<1∨256<a.fin.length∨2048<a.mv.length
  ·rw[if_pos h2];exact⟨fun h=>(by cases h),fun h=>by have:=h.fin;have:=h.mvs;omega⟩
  ·rw[if_neg h2,w0g (by omega)];exact⟨fun h=>⟨by omega,by omega,by omega,h⟩,fun h=>h.mv⟩
def Tv(p:Prd)(x:Sy):Bool:=decide (0≤x.ty) && decide (x.ty<p.length) && Pd (p.getD x.ty.toNat []) x.num
def Gi(T:Int)(x:Sy):Int:=if x.ty<0∨T≤x.ty then 6 else if x.num< -1099511627776∨1099511627776<x.num then 2 else 0
theorem K5(T:Int)(x:Sy):Gi T x=0↔(0≤x.ty∧x.ty<T)∧inR x.num:=by
 unfold Gi inR;split
 ·constructor
  ·intro h;cases h
  ·intro h;omega
 ·split
  ·constructor
   ·intro h;cases h
   ·intro h;omega
  ·constructor
   ·intro _;omega
   ·intro _;rfl
theorem Er{T:Nat}{p:Prd}(hp:p.length=T)(x:Sy)(hx:0≤x.ty):Tv p x=true↔PM p x.ty.toNat x.num:=by
 unfold Tv;by_cases h:x.ty<p.length
 ·have h1:x.ty.toNat<T:=by omega
  rw[←Cv hp h1];simp[h,hx]
 ·have:¬PM p x.ty.toNat x.num:=by rintro⟨s,hs,_⟩;have:=(zE.1 hs).1;omega
  simp[h,this]
def E3(n:Nat):List Int:=(yW n).map fun i:Nat=>(i:Int)
theorem Ep{n:Nat}{z:Int}:z∈E3 n↔0≤z∧z<n:=by
 unfold E3;rw[zX];constructor
 ·rintro⟨i,hi,rfl⟩;have:=xH.1 hi;omega
 ·rintro⟨h1,h2⟩;exact⟨z.toNat,xH.2 (by omega),by omega⟩
theorem Il(n:Nat):(E3 n).Pairwise (·<·):=by unfold E3;rw[wS];exact List.pairwise_lt_range.imp (fun h=>by omega)
def y1g(a:Aut)(l:List Int)(x:Sy)(j:Int):Bool:=a.mv.any fun m=>l.contains m.src && Tv m.on x && decide (m.dst=j)
def Wa(a:Aut)(l:List Int)(x:Sy):List Int:=(E3 a.fin.length).filter (y1g a l x)
def j1j(a:Aut)(l:List Int)(x:Sy):List Int:=Go.Lib.compact (R0 ((a.mv.filter fun m=>l.contains m.src && Tv m.on x).map (·.dst)))
theorem w1g(zs:List Int):(R0 zs).Pairwise (·≤·):=by have:=uY (le:=fun x y:Int=>decide (x≤y)) (fun a b c h1 h2=>by simp at h1 h2 ⊢;omega) (fun a b=>by simp;omega) zs;simpa[R0]using this
theorem X8(zs:List Int):(Go.Lib.compact (R0 zs)).Pairwise (·<·)∧∀z,z∈Go.Lib.compact (R0 zs)↔z∈zs:=by have h:=Cg _ (w1g zs) _ (zV _);refine⟨h.1,fun z=> ?_⟩;have h2:=h.2 z;rw[xD]at h2;rw[Go.Lib.compact,h2,R0,tw]
theorem Rm{a b:List Int}(ha:a.Pairwise (·<·))(hb:b.Pairwise (·<·))(h:∀z,z∈a↔z∈b):a=b:=by have hn:∀ {l:List Int},l.Pairwise (·<·)→l.Nodup:=fun hl=>hl.imp (fun h e=>by omega);exact List.Perm.eq_of_pairwise (le:=(·<·)) (fun a b _ _ h1 h2=>by omega) ha hb ((uQ (hn ha) (hn hb)).2 h)
theorem Ya(a:Aut)(l:List Int)(x:Sy):(Wa a l x).Pairwise (·<·):=(Il _).filter _
theorem W9{a:Aut}{l:List Int}{x:Sy}{j:Int}:j∈Wa a l x↔(0≤j∧j<a.fin.length)∧∃m∈a.mv,m.src∈l∧Tv m.on x=true∧m.dst=j:=by unfold Wa y1g;rw[xV,Ep,wO];simp[and_assoc]
theorem u13{a:Aut}(h:∀m∈a.mv,0≤m.dst∧m.dst<a.fin.length)(l:List Int)(x:Sy):j1j a l x=Wa a l x:=by
 obtain⟨h1,h2⟩:=X8 ((a.mv.filter fun m=>l.contains m.src && Tv m.on x).map (·.dst));refine Rm h1 (Ya a l x) fun z=> ?_;rw[j1j,h2,W9];constructor
 ·intro hz;obtain⟨m,hm,rfl⟩:=zX.1 hz;obtain⟨hm,hc⟩:=xV.1 hm;simp at hc;exact⟨h m hm,m,hm,hc.1,hc.2,rfl⟩
 ·rintro⟨_,m,hm,c1,c2,rfl⟩;exact zX.2 ⟨m,xV.2 ⟨hm,by simp[c1,c2]⟩,rfl⟩
theorem U7{a:Aut}{l:List Int}{x:Sy}:∀j∈Wa a l x,0≤j∧j<a.fin.length:=fun j hj=>(W9.1 hj).1
def Qo(p:Prd):Sy:=⟨(Q1 p 0).1,(Q1 p 0).2⟩
def addS(Q:List (List Int))(x:List Int):List (List Int):=if x=[]∨x∈Q then Q else Q++[x]
def roundS(Q:List (List Int))(xs:List (List Int)):List (List Int):=xs.foldl addS Q
def succS(a:Aut)(cl:List Prd)(l:List Int):List (List Int):=cl.map fun c=>Wa a l (Qo c)
def Zx(a:Aut)(cl:List Prd):Nat→Nat→List (List Int)→Option (List (List Int))
 |0,_,_=>none
 |f+1,i,Q=>match Q[i]? with
  |some l=>if 256<(roundS Q (succS a cl l)).length then none else Zx a cl f (i+1) (roundS Q (succS a cl l))
  |none=>some Q
theorem c04(Q:List (List Int))(x:List Int):∃R,addS Q x=Q++R∧∀y∈R,y=x∧x≠[]:=by
 unfold addS;split
 ·exact⟨[],by simp,by simp⟩
 ·rename_i h;exact⟨[x],rfl,fun y hy=>⟨zW.1 hy,fun e=>h (.inl e)⟩⟩
theorem Yi:∀(xs:List (List Int)) (Q:List (List Int)),∃R,roundS Q xs=Q++R∧∀y∈R,y∈xs∧y≠[]
 |[],Q=>⟨[],by simp[roundS],by simp⟩
 |x::xs,Q=>by
  obtain⟨R1,h1,h2⟩:=c04 Q x;obtain⟨R2,h3,h4⟩:=Yi xs (addS Q x);refine⟨R1++R2,?_,fun y hy=> ?_⟩
  ·show roundS (addS Q x) xs=_;rw[h3,h1,List.append_assoc]
  ·rcases yE.1 hy with hy|hy
   ·obtain⟨rfl,hn⟩:=h2 y hy;exact⟨by simp,hn⟩
   ·exact⟨by simp[(h4 y hy).1],(h4 y hy).2⟩
theorem x0i(Q xs:List (List Int)):Q.length≤(roundS Q xs).length:=by obtain⟨R,h,_⟩:=Yi xs Q;rw[h];simp
theorem q1t{Q:List (List Int)}{x:List Int}(hx:x≠[]):x∈addS Q x:=by
 unfold addS;split
 ·rename_i h;rcases h with h|h
  ·exact absurd h hx
  ·exact h
 ·simp
theorem Jw:∀ {xs:List (List Int)} {Q:List (List Int)} {x:List Int},x∈xs→x≠[]→x∈roundS Q xs
 |[],_,_,h,_=>by cases h
 |y::xs,Q,x,h,hn=>by
  show x∈roundS (addS Q y) xs;rcases yL.1 h with rfl|h
  ·obtain⟨R,e,_⟩:=Yi xs (addS Q x);rw[e];exact xL _ (q1t hn)
  ·exact Jw h hn
def y16(Q:List (List Int)):List (List Int)→Option (List (List Int))
 |[]=>some Q
 |x::xs=>if 256<(addS Q x).length then none else y16 (addS Q x) xs
end Go.Abs
namespace Go.Abs
def Rk(p q:Prd):Prd:=se (fun a b=>Ef (a++b)) p q
theorem Ad{T:Nat}{p q:Prd}(hp:PWf T p)(hq:PWf T q)(t:Nat)(n:Int):PM (Rk p q) t n↔PM p t n∨PM q t n:=by
 have hf:∀ {a b:List Iv},a∈p→b∈q→∀x∈a++b,x.lo≤x.hi:=fun ha hb x hx=>by
  rcases yE.1 hx with hx|hx
  ·exact(hp.2 _ ha).1.1 x hx
  ·exact(hq.2 _ hb).1.1 x hx
 unfold PM Rk;rw[vJ];constructor
 ·rintro⟨s,hs,hm⟩;cases h1:p[t]? with
  |none=>rw[h1]at hs;simp at hs
  |some a=>
   cases h2:q[t]? with
   |none=>rw[h1,h2]at hs;simp at hs
   |some b=>
    rw[h1,h2]at hs;simp at hs;subst hs;have:=((U3 _ (hf (zL h1) (zL h2))).2 n).1 hm;rcases(L6 ..).1 this with h|h
    ·exact .inl ⟨a,rfl,h⟩
    ·exact .inr ⟨b,rfl,h⟩
 ·intro h;have z1:t<T:=by
   rcases h with⟨s,hs,_⟩|⟨s,hs,_⟩
   ·rw[←hp.1];exact(zE.1 hs).1
   ·rw[←hq.1];exact(zE.1 hs).1
  have h1:t<p.length:=by rw[hp.1];exact z1
  have h2:t<q.length:=by rw[hq.1];exact z1
  rw[zP h1,zP h2]at h ⊢;refine⟨_,rfl,((U3 _ (hf (zT h1) (zT h2))).2 n).2 ((L6 ..).2 ?_)⟩;rcases h with⟨s,hs,hm⟩|⟨s,hs,hm⟩
  ·cases hs;exact .inl hm
  ·cases hs;exact .inr hm
theorem G9{T:Nat}{p q:Prd}(hp:PWf T p)(hq:PWf T q):PWf T (Rk p q):=by
 refine⟨by simp[Rk,hp.1,hq.1],fun s hs=> ?_⟩;obtain⟨i,hi⟩:=yQ.1 hs;have z1:=hi;unfold Rk at hi;rw[vJ]at hi;cases h1:p[i]? with
 |none=>rw[h1]at hi;simp at hi
 |some a=>
  cases h2:q[i]? with
  |none=>rw[h1,h2]at hi;simp at hi
  |some b=>
   rw[h1,h2]at hi;simp at hi;subst hi;refine⟨(U3 _ fun x hx=> ?_).1,fun n hn=> ?_⟩
   ·rcases yE.1 hx with hx|hx
    ·exact(hp.2 _ (zL h1)).1.1 x hx
    ·exact(hq.2 _ (zL h2)).1.1 x hx
   ·rcases(Ad hp hq i n).1 ⟨_,z1,hn⟩with h|h
    ·exact(hp.lt h).2
    ·exact(hq.lt h).2
def Bm(Q:List (List Int))(x:List Int):Option Nat:=Q.findIdx? fun y=>decide (y=x)
theorem Gq{Q:List (List Int)}{x:List Int}{t:Nat}(h:Bm Q x=some t):Q[t]? =some x:=by unfold Bm at h;obtain⟨h1,h2,_⟩:=xO.1 h;rw[zP h1];simpa using h2
theorem x06{Q:List (List Int)}(hn:Q.Nodup){t:Nat}{x:List Int}(h:Q[t]? =some x):Bm Q x=some t:=by
 unfold Bm;obtain⟨h1,h2⟩:=zE.1 h;refine xO.2 ⟨h1,by simpa using h2,fun j hj=> ?_⟩;have z1:Q[j]≠Q[t]:=fun e=>by have:=(u6 hn).1 e;omega
 rw[h2]at z1;simpa using z1
def T6(n:Nat)(g:List Mv)(to:Nat)(c:Prd):List Mv:=match g.findIdx? fun m:Mv=>decide (m.dst=(to:Int))with
 |none=>g++[⟨n,to,c⟩]
 |some i=>match g[i]? with
  |some m=>g.set i { m with on:=Rk m.on c }
  |none=>g
def Gj(a:Aut)(cl:List Prd)(Q:List (List Int))(n:Nat)(l:List Int):List Mv:=
 cl.foldl (fun g c=>match Bm Q (Wa a l (Qo c))with|some t=>T6 n g t c|none=>g) []
def Hr(a:Aut)(cl:List Prd)(Q:List (List Int)):List Mv:=(yW Q.length).flatMap fun n=>Gj a cl Q n (Q.getD n [])
def finB(a:Aut)(l:List Int):Bool:=l.any fun s=>a.fin.getD s.toNat false
def detA(a:Aut)(cl:List Prd)(Q:List (List Int)):Aut:=⟨a.types,Q.map (finB a),Hr a cl Q⟩
structure MInv (T N n:Nat) (D:Nat→Nat→Int→Prop) (g:List Mv):Prop where
 wf:∀m∈g,PWf T m.on
 src:∀m∈g,m.src=n
 dst:∀m∈g,∃t:Nat,t<N∧m.dst=t
 nd:g.Pairwise (fun m k=>m.dst≠k.dst)
 mem:∀m∈g,∀t:Nat,m.dst=t→∀ty y,PM m.on ty y↔D t ty y
 all:∀t ty y,D t ty y→∃m∈g,m.dst=(t:Int)
theorem MInv.add{T N n:Nat}{D:Nat→Nat→Int→Prop}{g:List Mv}(h:MInv T N n D g){to:Nat}(ht:to<N){c:Prd}(hc:PWf T c)(zh:∃ty y,PM c ty y):
  MInv T N n (fun t ty y=>D t ty y∨(t=to∧PM c ty y)) (T6 n g to c):=by
 unfold T6;cases hf:g.findIdx? fun m:Mv=>decide (m.dst=(to:Int))with
 |none=>
  rw[List.findIdx?_eq_none_iff]at hf;have z7:∀m∈g,m.dst≠(to:Int):=fun m hm=>by simpa using hf m hm
  show MInv T N n _ (g++[⟨n,to,c⟩]);have z1:∀m∈g++[(⟨n,to,c⟩:Mv)],m∈g∨m=⟨n,to,c⟩:=fun m hm=>by
   rcases yE.1 hm with hm|hm
   ·exact .inl hm
   ·exact .inr (zW.1 hm)
  have hD:∀ty y,¬D to ty y:=fun ty y hd=>by obtain⟨m,hm,e⟩:=h.all to ty y hd;exact z7 m hm e
  refine⟨fun m hm=> ?_,fun m hm=> ?_,fun m hm=> ?_,?_,fun m hm t e ty y=> ?_,fun t ty y hd=> ?_⟩
  ·rcases z1 m hm with hm|rfl
   ·exact h.wf m hm
   ·exact hc
  ·rcases z1 m hm with hm|rfl
   ·exact h.src m hm
   ·rfl
  ·rcases z1 m hm with hm|rfl
   ·exact h.dst m hm
   ·exact⟨to,ht,rfl⟩
  ·exact yR.2 ⟨h.nd,by simp,fun m hm k hk=>by obtain rfl:=zW.1 hk;exact z7 m hm⟩
  ·rcases z1 m hm with hm'|rfl
   ·rw[h.mem m hm' t e];constructor
    ·exact fun hd=> .inl hd
    ·rintro(hd|⟨e2,_⟩)
     ·exact hd
     ·exact absurd (by rw[e,e2]) (z7 m hm')
   ·have:t=to:=by simp at e;omega
    subst this;constructor
    ·exact fun hd=> .inr ⟨rfl,hd⟩
    ·rintro(hd|⟨_,hd⟩)
     ·exact absurd hd (hD ty y)
     ·exact hd
  ·rcases hd with hd|⟨rfl,_⟩
   ·obtain⟨m,hm,e⟩:=h.all t ty y hd;exact⟨m,by simp[hm],e⟩
   ·exact⟨⟨n,t,c⟩,by simp,rfl⟩
 |some i=>
  obtain⟨hi,zf,_⟩:=xO.1 hf;simp only[zP hi];have z6:g[i].dst=(to:Int):=by simpa using zf
  have z8:=zT hi;have hw:=h.wf _ z8;have z1:∀m∈g.set i { g[i]with on:=Rk g[i].on c },(m∈g∧m.dst≠(to:Int))∨m={ g[i]with on:=Rk g[i].on c }:=fun m hm=>by
   obtain⟨j,hj⟩:=yQ.1 hm;by_cases hij:i=j
   ·subst hij;rw[zU hi]at hj;exact .inr (Option.some.inj hj).symm
   ·rw[zH hij]at hj;obtain⟨zc,zd⟩:=zE.1 hj;refine .inl ⟨zL hj,fun e=> ?_⟩;rcases uI hij with hlt|hgt
    ·exact yU.1 h.nd i j hi zc hlt (by rw[zd,e,z6])
    ·exact yU.1 h.nd j i zc hi hgt (by rw[zd,e,z6])
  refine⟨fun m hm=> ?_,fun m hm=> ?_,fun m hm=> ?_,?_,fun m hm t e ty y=> ?_,fun t ty y hd=> ?_⟩
  ·rcases z1 m hm with⟨hm,_⟩|rfl
   ·exact h.wf m hm
   ·exact G9 hw hc
  ·rcases z1 m hm with⟨hm,_⟩|rfl
   ·exact h.src m hm
   ·have:=h.src g[i] z8;simpa using this
  ·rcases z1 m hm with⟨hm,_⟩|rfl
   ·exact h.dst m hm
   ·exact⟨to,ht,z6⟩
  ·have za:(g.set i { g[i]with on:=Rk g[i].on c }).map (·.dst)=g.map (·.dst):=by
    apply List.ext_getElem?;intro j;rw[yI,yI];by_cases hij:i=j
    ·subst hij;rw[zU hi,zP hi];rfl
    ·rw[zH hij]
   have hp:(g.map (·.dst)).Pairwise (·≠·):=wS.2 h.nd;rw[←za]at hp;exact wS.1 hp
  ·rcases z1 m hm with⟨hm,zg⟩|rfl
   ·rw[h.mem m hm t e];constructor
    ·exact fun hd=> .inl hd
    ·rintro(hd|⟨rfl,_⟩)
     ·exact hd
     ·exact absurd e zg
   ·have:t=to:=by simp only at e;omega
    subst this;have zb:=Ad hw hc ty y;have ze:=h.mem _ z8 t z6 ty y;constructor
    ·intro hd;rcases zb.1 hd with hd|hd
     ·exact .inl (ze.1 hd)
     ·exact .inr ⟨rfl,hd⟩
    ·rintro(hd|⟨_,hd⟩)
     ·exact zb.2 (.inl (ze.2 hd))
     ·exact zb.2 (.inr hd)
  ·rcases hd with hd|⟨rfl,_⟩
   ·obtain⟨m,hm,e⟩:=h.all t ty y hd;obtain⟨j,hj⟩:=yQ.1 hm;by_cases hij:i=j
    ·subst hij;rw[zP hi]at hj;cases hj;exact⟨_,zL (zU hi),e⟩
    ·exact⟨m,zL (by rw[zH hij];exact hj),e⟩
   ·exact⟨_,zL (zU hi),z6⟩
theorem MInv.congr{T N n:Nat}{D D':Nat→Nat→Int→Prop}{g:List Mv}(h:MInv T N n D g)(e:∀t ty y,D t ty y↔D' t ty y):MInv T N n D' g:=by have:D=D':=funext fun t=>funext fun ty=>funext fun y=>propext (e t ty y);rw[←this];exact h
theorem Aq{T:Nat}{a:Aut}{cl:List Prd}{Q:List (List Int)}(n:Nat)(l:List Int)(hw:∀c∈cl,PWf T c∧∃ty y,PM c ty y):
  MInv T Q.length n (fun t ty y=>∃c∈cl,Bm Q (Wa a l (Qo c))=some t∧PM c ty y) (Gj a cl Q n l):=by
 have key:∀(r:List Prd) (D:Nat→Nat→Int→Prop) (g:List Mv),MInv T Q.length n D g→(∀c∈r,PWf T c∧∃ty y,PM c ty y)→
   MInv T Q.length n (fun t ty y=>D t ty y∨∃c∈r,Bm Q (Wa a l (Qo c))=some t∧PM c ty y) (r.foldl (fun g c=>match Bm Q (Wa a l (Qo c))with|some t=>T6 n g t c|none=>g) g):=by
  intro r;induction r with
  |nil=>intro D g h _;exact h.congr (fun t ty y=>by simp)
  |cons c r ih=>
   intro D g h hr;rw[xY];cases hx:Bm Q (Wa a l (Qo c))with
   |none=>refine(ih D g h (fun d hd=>hr d (by simp[hd]))).congr (fun t ty y=> ?_);simp[hx]
   |some to=>
    have z1:=(zE.1 (Gq hx)).1;have hc:=hr c (by simp);refine(ih _ _ (h.add z1 hc.1 hc.2) (fun d hd=>hr d (by simp[hd]))).congr (fun t ty y=> ?_);simp only[yL,exists_eq_or_imp,hx,Option.some.injEq,or_assoc];constructor
    ·rintro(h|⟨e,h⟩|h)
     ·exact .inl h
     ·exact .inr (.inl ⟨e.symm,h⟩)
     ·exact .inr (.inr h)
    ·rintro(h|⟨e,h⟩|h)
     ·exact .inl h
     ·exact .inr (.inl ⟨e.symm,h⟩)
     ·exact .inr (.inr h)
 have h0:MInv T Q.length n (fun _ _ _=>False) []:=⟨by simp,by simp,by simp,by simp,by simp,fun _ _ _ h=>h.elim⟩
 exact(key cl _ [] h0 hw).congr (fun t ty y=>by simp)
end Go.Abs
namespace Go.Abs
structure Cls (a:Aut) (cl:List Prd):Prop where
 ok:OkA a
 prts:Prts a.types.toNat (a.mv.map (·.on)) cl
 wf:∀c∈cl,PWf a.types.toNat c∧∃ty y,PM c ty y
theorem x1c{a:Aut}(h:OkA a):Cls a (Q5 a.types.toNat (a.mv.map (·.on))):=by
 have hT:0<a.types.toNat:=by have:=h.types;omega
 have hp:=(Rt hT (l:=a.mv.map (·.on)) (fun p hp=>by obtain⟨m,hm,rfl⟩:=zX.1 hp;exact(h.mv m hm).on)).1;exact⟨h,hp,fun c hc=>⟨hp.wf c hc,hp.ne c hc⟩⟩
def Eo(a:Aut)(x:Sy):Prop:=(0≤x.ty∧x.ty<a.types)∧inR x.num
theorem w05{a:Aut}{l:List Int}{x y:Sy}(h:∀m∈a.mv,Tv m.on x=Tv m.on y):Wa a l x=Wa a l y:=by
 refine Rm (Ya ..) (Ya ..) fun z=> ?_;rw[W9,W9];constructor
 ·rintro⟨h1,m,hm,h2,h3,h4⟩;exact⟨h1,m,hm,h2,by rw[←h m hm];exact h3,h4⟩
 ·rintro⟨h1,m,hm,h2,h3,h4⟩;exact⟨h1,m,hm,h2,by rw[h m hm];exact h3,h4⟩
theorem Cls.of{a:Aut}{cl:List Prd}(h:Cls a cl){x:Sy}(hx:Eo a x):∃c∈cl,PM c x.ty.toNat x.num∧∀l,Wa a l x=Wa a l (Qo c):=by obtain⟨c,hc,hm⟩:=h.prts.all x.ty.toNat x.num (by have:=hx.1;omega) hx.2;refine⟨c,hc,hm,fun l=>w05 fun m z1=> ?_⟩;have h1:=(W2 (h.wf c hc).1 (h.wf c hc).2).1;have h2:=((h.prts.cls c hc _ _ hm _ _).1 h1).2.2 m.on (zX.2 ⟨m,z1,rfl⟩);have hl:=(h.ok.mv m z1).on.1;rw[x_,Er hl x hx.1.1,Er hl (Qo c) (by simp[Qo])];simpa[Qo]using h2
theorem Cls.same{a:Aut}{cl:List Prd}(h:Cls a cl){c:Prd}(hc:c∈cl){x:Sy}(hx:Eo a x)(hm:PM c x.ty.toNat x.num)(l:List Int):Wa a l x=Wa a l (Qo c):=by obtain⟨d,hd,z1,e⟩:=h.of hx;rw[e l,h.prts.disj hd hc z1 hm]
structure Sub (a:Aut) (cl:List Prd) (Q:List (List Int)):Prop where
 first:Q[0]? =some [0]
 nd:Q.Nodup
 ne:∀l∈Q,l≠[]
 lim:Q.length≤256
 elem:∀l∈Q,l.Pairwise (·<·)∧∀s∈l,0≤s∧s<a.fin.length
 closed:∀l∈Q,∀c∈cl,Wa a l (Qo c)=[]∨Wa a l (Qo c)∈Q
theorem y0a{Q:List (List Int)}{x:List Int}(h:Q.Nodup):(addS Q x).Nodup:=by
 unfold addS;split
 ·exact h
 ·rename_i hx;exact List.nodup_append.2 ⟨h,by simp,fun a ha b hb e=>by
   obtain rfl:=zW.1 hb;subst e;exact hx (.inr ha)⟩
theorem Sv:∀(xs:List (List Int)) {Q:List (List Int)},Q.Nodup→(roundS Q xs).Nodup
 |[],_,h=>h
 |x::xs,Q,h=>Sv xs (y0a (x:=x) h)
theorem u0j{a:Aut}(ha:OkA a)(cl:List Prd):∀(f i:Nat) (Q R:List (List Int)),Zx a cl f i Q=some R→Q[0]? =some [0]→Q.Nodup→(∀l∈Q,l≠[])→Q.length≤256→(∀l∈Q,l.Pairwise (·<·)∧∀s∈l,0≤s∧s<a.fin.length)→
  (∀j,j<i→∀l,Q[j]? =some l→∀c∈cl,Wa a l (Qo c)=[]∨Wa a l (Qo c)∈Q)→Sub a cl R
 |0,_,_,_,h,_,_,_,_,_,_=>by cases h
 |f+1,i,Q,R,h,h1,h2,h3,h4,h5,h6=>by
  rw[Zx]at h;cases hq:Q[i]? with
  |none=>rw[hq]at h;simp only[Option.some.injEq]at h;subst h;have hi:Q.length≤i:=List.getElem?_eq_none_iff.1 hq;refine⟨h1,h2,h3,h4,h5,fun l hl c hc=> ?_⟩;obtain⟨j,hj⟩:=yQ.1 hl;exact h6 j (by have:=(zE.1 hj).1;omega) l hj c hc
  |some l=>
   rw[hq]at h;simp only at h;by_cases hlim:256<(roundS Q (succS a cl l)).length
   ·rw[if_pos hlim]at h;cases h
   ·rw[if_neg hlim]at h;obtain⟨X,hX,z6⟩:=Yi (succS a cl l) Q;have hlen:0<Q.length:=(zE.1 h1).1;have z1:∀y∈roundS Q (succS a cl l),y∈Q∨(y≠[]∧∃c∈cl,y=Wa a l (Qo c)):=fun y hy=>by
     rw[hX]at hy;rcases yE.1 hy with hy|hy
     ·exact .inl hy
     ·obtain⟨p1,p2⟩:=z6 y hy;obtain⟨c,hc,rfl⟩:=zX.1 p1;exact .inr ⟨p2,c,hc,rfl⟩
    refine u0j ha cl f (i+1) _ R h ?_ (Sv _ h2) ?_ (by omega) ?_ ?_
    ·rw[hX,zI hlen];exact h1
    ·intro y hy;rcases z1 y hy with hy|⟨hy,_⟩
     ·exact h3 y hy
     ·exact hy
    ·intro y hy;rcases z1 y hy with hy|⟨_,c,_,rfl⟩
     ·exact h5 y hy
     ·exact⟨Ya ..,U7⟩
    ·intro j hj k hk c hc;by_cases hji:j<i
     ·have z7:j<Q.length:=by have:=(zE.1 hq).1;omega
      rw[hX,zI z7]at hk;rcases h6 j hji k hk c hc with h7|h7
      ·exact .inl h7
      ·right;rw[hX];exact xL _ h7
     ·have:j=i:=by omega
      subst this;rw[hX,zI (zE.1 hq).1,hq]at hk;cases hk;by_cases hn:Wa a l (Qo c)=[]
      ·exact .inl hn
      ·exact .inr (Jw (zX.2 ⟨c,hc,rfl⟩) hn)
def Az(a:Aut)(cl:List Prd):Option (List (List Int)):=Zx a cl 257 0 [[0]]
theorem v09{a:Aut}(ha:OkA a){cl:List Prd}{Q:List (List Int)}(h:Az a cl=some Q):Sub a cl Q:=
 u0j ha cl 257 0 [[0]] Q h rfl (by simp) (by simp) (by simp) (by intro l hl;obtain rfl:=zW.1 hl;exact⟨by simp,fun s hs=>by obtain rfl:=zW.1 hs;have:=ha.fin;omega⟩) (fun j hj=>by omega)
theorem Sub.step{a:Aut}{cl:List Prd}{Q:List (List Int)}(hs:Sub a cl Q)(hc:Cls a cl){l:List Int}(hl:l∈Q){x:Sy}(hx:Eo a x):Wa a l x=[]∨Wa a l x∈Q:=by obtain⟨c,h1,_,h3⟩:=hc.of hx;rw[h3 l];exact hs.closed l hl c h1
theorem Od{a:Aut}{cl:List Prd}{Q:List (List Int)}{m:Mv}:m∈Hr a cl Q↔∃n l,Q[n]? =some l∧m∈Gj a cl Q n l:=by
 unfold Hr;rw[w_];constructor
 ·rintro⟨n,hn,hm⟩;have z1:=xH.1 hn;refine⟨n,Q[n],zP z1,?_⟩;simpa[yV,z1]using hm
 ·rintro⟨n,l,hl,hm⟩;have z1:=(zE.1 hl).1;refine⟨n,xH.2 z1,?_⟩;simpa[yV,hl]using hm
theorem D7{a:Aut}{cl:List Prd}{Q:List (List Int)}(hc:Cls a cl)(hs:Sub a cl Q){n:Nat}{l:List Int}(hl:Q[n]? =some l){x:Sy}(hx:Eo a x)(t:Nat):
  (∃m∈Hr a cl Q,m.src=(n:Int)∧m.dst=(t:Int)∧Tv m.on x=true)↔Q[t]? =some (Wa a l x):=by
 have hg:=Aq (a:=a) (Q:=Q) n l hc.wf;have key:Bm Q (Wa a l x)=some t↔Q[t]? =some (Wa a l x):=⟨Gq,x06 hs.nd⟩
 rw[←key];constructor
 ·rintro⟨m,hm,h1,h2,h3⟩;obtain⟨n',l',hl',z6⟩:=Od.1 hm;have z7:=Aq (a:=a) (Q:=Q) n' l' hc.wf;have:n'=n:=by have:=z7.src m z6;omega
  subst this;rw[hl]at hl';cases hl';rw[Er (hg.wf m z6).1 x hx.1.1]at h3;obtain⟨c,z1,e1,e2⟩:=(hg.mem m z6 t h2 _ _).1 h3;rw[hc.same z1 hx e2];exact e1
 ·intro h;obtain⟨c,z1,e1,e2⟩:=hc.of hx;rw[e2]at h;obtain⟨m,hm,hd⟩:=hg.all t _ _ ⟨c,z1,h,e1⟩;refine⟨m,Od.2 ⟨n,l,hl,hm⟩,hg.src m hm,hd,?_⟩;rw[Er (hg.wf m hm).1 x hx.1.1];exact(hg.mem m hm t hd _ _).2 ⟨c,z1,h,e1⟩
theorem c0j{a:Aut}{cl:List Prd}{Q:List (List Int)}(hc:Cls a cl)(hs:Sub a cl Q){n:Nat}{l:List Int}(hl:Q[n]? =some l){x:Sy}(hx:Eo a x):
  (Wa a l x=[]∧Wa (detA a cl Q) [(n:Int)] x=[])∨∃t:Nat,Q[t]? =some (Wa a l x)∧Wa (detA a cl Q) [(n:Int)] x=[(t:Int)]:=by
 have z1:∀j,j∈Wa (detA a cl Q) [(n:Int)] x↔∃t:Nat,j=t∧Q[t]? =some (Wa a l x):=fun j=>by
  rw[W9];constructor
  ·rintro⟨⟨h1,h2⟩,m,hm,h3,h4,h5⟩;refine⟨j.toNat,by omega,(D7 hc hs hl hx j.toNat).1 ⟨m,hm,zW.1 h3,by omega,h4⟩⟩
  ·rintro⟨t,rfl,ht⟩;obtain⟨m,hm,h1,h2,h3⟩:=(D7 hc hs hl hx t).2 ht;have:=(zE.1 ht).1;exact⟨⟨by omega,by simp[detA];omega⟩,m,hm,by rw[h1];simp,h3,h2⟩
 rcases hs.step hc (zL hl) hx with h0|h0
 ·refine .inl ⟨h0,vY.2 fun j hj=> ?_⟩;obtain⟨t,_,ht⟩:=(z1 j).1 hj;rw[h0]at ht;exact hs.ne _ (zL ht) rfl
 ·obtain⟨t,ht⟩:=yQ.1 h0;refine .inr ⟨t,ht,Rm (Ya ..) (by simp) fun z=> ?_⟩;rw[z1 z];constructor
  ·rintro⟨u,rfl,hu⟩;obtain⟨h1,h2⟩:=zE.1 ht;obtain⟨h3,h4⟩:=zE.1 hu;have:u=t:=(u6 hs.nd).1 (by rw[h4,h2]);simp[this]
  ·intro hz;exact⟨t,zW.1 hz,ht⟩
def Hp(a:Aut)(l:List Int)(w:List Sy):List Int:=w.foldl (Wa a) l
def J0(a:Aut)(w:List Sy):Bool:=finB a (Hp a [0] w)
theorem V9(a:Aut):∀w,Hp a [] w=[]
 |[]=>rfl
 |x::w=>by
  show Hp a (Wa a [] x) w=[]
  have:Wa a [] x=[]:=vY.2 fun j hj=>by obtain⟨_,m,_,h,_⟩:=W9.1 hj;cases h
  rw[this,V9 a w]
theorem f0k{a:Aut}{cl:List Prd}{Q:List (List Int)}(hc:Cls a cl)(hs:Sub a cl Q):∀(w:List Sy),(∀x∈w,Eo a x)→∀(n:Nat) (l:List Int),Q[n]? =some l→
  (Hp a l w=[]∧Hp (detA a cl Q) [(n:Int)] w=[])∨∃t:Nat,Q[t]? =some (Hp a l w)∧Hp (detA a cl Q) [(n:Int)] w=[(t:Int)]
 |[],_,n,l,hl=> .inr ⟨n,hl,rfl⟩
 |x::w,hw,n,l,hl=>by
  show(Hp a (Wa a l x) w=[]∧Hp (detA a cl Q) (Wa (detA a cl Q) [(n:Int)] x) w=[])∨∃t:Nat,Q[t]? =some (Hp a (Wa a l x) w)∧Hp (detA a cl Q) (Wa (detA a cl Q) [(n:Int)] x) w=[(t:Int)]
  rcases c0j hc hs hl (hw x (by simp))with⟨h1,h2⟩|⟨t,h1,h2⟩
  ·rw[h1,h2];exact .inl ⟨V9 _ _,V9 _ _⟩
  ·rw[h2];exact f0k hc hs w (fun y hy=>hw y (by simp[hy])) t _ h1
theorem u1t{a:Aut}{cl:List Prd}{Q:List (List Int)}(hc:Cls a cl)(hs:Sub a cl Q){w:List Sy}(hw:∀x∈w,Eo a x):J0 (detA a cl Q) w=J0 a w:=by
 unfold J0;rcases f0k hc hs w hw 0 [0] hs.first with⟨h1,h2⟩|⟨t,h1,h2⟩
 ·have z1:Hp (detA a cl Q) [0] w=[]:=h2;rw[h1,z1];rfl
 ·have z1:Hp (detA a cl Q) [0] w=[(t:Int)]:=h2;rw[z1];simp only[finB,detA,List.any_cons,List.any_nil,Bool.or_false,Int.toNat_natCast,yV,yI,h1,Option.map_some,Option.getD_some]
def U2(a:Aut):Prop:=a.mv.Pairwise (fun m k=>m.src=k.src→∀x:Sy,Eo a x→¬(Tv m.on x=true∧Tv k.on x=true))
theorem x0r{a:Aut}{cl:List Prd}{Q:List (List Int)}(hc:Cls a cl)(hs:Sub a cl Q):U2 (detA a cl Q):=by
 unfold U2;show(Hr a cl Q).Pairwise _;unfold Hr;rw[um];constructor
 ·intro n hn;have z1:=xH.1 hn;have hl:Q[n]? =some Q[n]:=zP z1;have hg:Q.getD n []=Q[n]:=by simp[yV,z1]
  rw[hg];have hi:=Aq (a:=a) (Q:=Q) n Q[n] hc.wf;refine hi.nd.imp_of_mem (fun {m k} hm hk hne _ x hx=> ?_);rintro⟨h1,h2⟩;obtain⟨t1,_,e1⟩:=hi.dst m hm;obtain⟨t2,_,e2⟩:=hi.dst k hk;have z6:Eo a x:=hx;have d1:=(D7 hc hs hl z6 t1).1 ⟨m,Od.2 ⟨n,_,hl,hm⟩,hi.src m hm,e1,h1⟩;have d2:=(D7 hc hs hl z6 t2).1 ⟨k,Od.2 ⟨n,_,hl,hk⟩,hi.src k hk,e2,h2⟩;obtain⟨p1,p2⟩:=zE.1 d1;obtain⟨p3,p4⟩:=zE.1 d2;have:t1=t2:=(u6 hs.nd).1 (by rw[p2,p4]);exact hne (by rw[e1,e2,this])
 ·refine List.pairwise_lt_range.imp (fun {i j} hij m hm k hk e=> ?_);exfalso;have h1:∀n m,m∈Gj a cl Q n (Q.getD n [])→m.src=(n:Int):=fun n m hm=>(Aq (a:=a) (Q:=Q) n _ hc.wf).src m hm;have:=h1 i m hm;have:=h1 j k hk;omega
end Go.Abs
namespace Go.Abs
theorem Fi{l:List Iv}(h:Sep l)(hb:∀n,M l n→inR n):Sep (E9 l)∧(∀n,M (E9 l) n↔inR n∧¬M l n)∧(E9 l).length≤l.length+1:=by
 have z1:∀x∈l,inR x.lo∧inR x.hi:=fun x hx=>⟨hb _ ⟨x,hx,xB _,h.1 x hx⟩,hb _ ⟨x,hx,h.1 x hx,xB _⟩⟩
 have:=Oe l (-1099511627776) (fun x hx=>⟨h.1 x hx,(z1 x hx).2.2⟩) h.2 (fun x hx=>(z1 x hx).1.1);exact⟨this.1,fun n=>by rw[E9,this.2.1,inR,and_assoc],this.2.2⟩
theorem N2{T:Nat}{p:Prd}(hp:PWf T p)(t:Nat)(n:Int):PM (R3 p) t n↔(t<T∧inR n)∧¬PM p t n:=by
 unfold PM R3;rw[yI];constructor
 ·rintro⟨s,hs,hm⟩;obtain⟨a,ha,rfl⟩:=zY.1 hs;have hw:=hp.2 a (zL ha);have hg:=((Fi hw.1 hw.2).2.1 n).1 hm;refine⟨⟨by rw[←hp.1];exact(zE.1 ha).1,hg.1⟩,?_⟩;rintro⟨b,hb,z1⟩;rw[ha]at hb;cases hb;exact hg.2 z1
 ·rintro⟨⟨h1,h2⟩,h3⟩;have hl:t<p.length:=by rw[hp.1];exact h1
  have hw:=hp.2 _ (zT hl);exact⟨E9 p[t],by rw[zP hl];rfl,((Fi hw.1 hw.2).2.1 n).2 ⟨h2,fun hm=>h3 ⟨_,zP hl,hm⟩⟩⟩
theorem V7{T:Nat}{p:Prd}(hp:PWf T p):PWf T (R3 p):=⟨by simp[R3,hp.1],fun s hs=>by
 obtain⟨a,ha,rfl⟩:=zX.1 hs;have hw:=hp.2 a ha;exact⟨(Fi hw.1 hw.2).1,fun n hn=>(((Fi hw.1 hw.2).2.1 n).1 hn).1⟩⟩
def Uh(T:Nat)(ps:List Prd):Prd:=(yW T).map fun i=>Ef (Qw ps i)
theorem Lo{T:Nat}{ps:List Prd}(h:∀p∈ps,PWf T p)(i:Nat):∀x∈Qw ps i,x.lo≤x.hi:=fun x hx=>by
 obtain⟨p,hp,hx⟩:=R7.1 hx;have hm:p.getD i []=[]∨p.getD i []∈p:=by
  by_cases hi:i<p.length
  ·exact .inr (by rw[Wt hi];exact zT hi)
  ·exact .inl (by simp[yV,hi])
 rcases hm with e|hm
 ·rw[e]at hx;cases hx
 ·exact((h p hp).2 _ hm).1.1 x hx
theorem J7{T:Nat}{ps:List Prd}(h:∀p∈ps,PWf T p)(t:Nat)(n:Int):PM (Uh T ps) t n↔∃p∈ps,PM p t n:=by
 unfold PM Uh;rw[yI];constructor
 ·rintro⟨s,hs,hm⟩;obtain⟨i,hi,rfl⟩:=zY.1 hs;obtain⟨z6,e⟩:=zE.1 hi;rw[List.getElem_range]at e;subst e;obtain⟨x,hx,h1⟩:=((U3 _ (Lo h t)).2 n).1 hm;obtain⟨p,hp,hx⟩:=R7.1 hx;have ht:t<T:=by simpa using z6
  have z1:t<p.length:=by rw[(h p hp).1];exact ht
  rw[Wt z1]at hx;exact⟨p,hp,p[t],zP z1,x,hx,h1⟩
 ·rintro⟨p,hp,s,hs,x,hx,h1⟩;obtain⟨z1,e⟩:=zE.1 hs;have ht:t<T:=by rw[←(h p hp).1];exact z1
  refine⟨Ef (Qw ps t),by simp[ht],((U3 _ (Lo h t)).2 n).2 ⟨x,R7.2 ⟨p,hp,?_⟩,h1⟩⟩;rw[Wt z1,e];exact hx
theorem Fv{T:Nat}{ps:List Prd}(h:∀p∈ps,PWf T p):PWf T (Uh T ps):=by
 refine⟨by simp[Uh],fun s hs=> ?_⟩;obtain⟨i,hi,rfl⟩:=zX.1 hs;refine⟨(U3 _ (Lo h i)).1,fun n hn=> ?_⟩;have:PM (Uh T ps) i n:=⟨Ef (Qw ps i),by simp[Uh,xH.1 hi],hn⟩
 obtain⟨p,hp,hm⟩:=(J7 h i n).1 this;exact((h p hp).lt hm).2
theorem u1z{T:Nat}{c:Prd}(h:PWf T c):Uh T [c]=c:=
 I1 (Fv (by simpa using h)) h fun t n=>by rw[J7 (by simpa using h)];simp
theorem x10{T:Nat}{p q:Prd}(hp:PWf T p)(hq:PWf T q):Uh T [p,q]=Rk p q:=by
 have h:∀x∈[p,q],PWf T x:=fun x hx=>by
  rcases yL.1 hx with rfl|hx
  ·exact hp
  ·obtain rfl:=zW.1 hx;exact hq
 exact I1 (Fv h) (G9 hp hq) fun t n=>by rw[J7 h,Ad hp hq];simp
def Km(a:Aut)(s:Int):List Prd:=(a.mv.filter fun m=>decide (m.src=s)).map (·.on)
def Wv(a:Aut)(s:Int):Prd:=R3 (Uh a.types.toNat (Km a s))
def y0v(a:Aut)(s:Int):Prd:=(Km a s).foldl (fun r p=>Wz r (R3 p)) (Ed a.types.toNat)
structure WfA (a:Aut):Prop where
 types:1≤a.types∧a.types≤16
 fin:1≤a.fin.length
 src:∀m∈a.mv,0≤m.src∧m.src<a.fin.length
 dst:∀m∈a.mv,0≤m.dst∧m.dst<a.fin.length
 on:∀m∈a.mv,PWf a.types.toNat m.on
theorem OkA.wfA{a:Aut}(h:OkA a):WfA a:=⟨h.types,h.fin.1,fun m hm=>(h.mv m hm).src,fun m hm=>(h.mv m hm).dst,fun m hm=>(h.mv m hm).on.wf⟩
theorem Jq{a:Aut}(h:WfA a)(s:Int):∀p∈Km a s,PWf a.types.toNat p:=fun p hp=>by obtain⟨m,hm,rfl⟩:=zX.1 hp;exact h.on m (xV.1 hm).1
theorem Pz{a:Aut}(h:WfA a)(s:Int)(t:Nat)(n:Int):PM (Wv a s) t n↔(t<a.types.toNat∧inR n)∧∀p∈Km a s,¬PM p t n:=by rw[Wv,N2 (Fv (Jq h s)),J7 (Jq h s)];simp
theorem O0{a:Aut}(h:WfA a)(s:Int):PWf a.types.toNat (Wv a s):=V7 (Fv (Jq h s))
theorem X2{T:Nat}:∀(l:List Prd) (r:Prd),(∀p∈l,PWf T p)→PWf T r→PWf T (l.foldl (fun r p=>Wz r (R3 p)) r)∧
  ∀t n,PM (l.foldl (fun r p=>Wz r (R3 p)) r) t n↔PM r t n∧∀p∈l,¬PM p t n
 |[],r,_,hr=>⟨hr,fun t n=>by simp⟩
 |p::l,r,hl,hr=>by
  have hp:=hl p (by simp);obtain⟨h1,h2⟩:=X2 l (Wz r (R3 p)) (fun q hq=>hl q (by simp[hq])) (R6 hr (V7 hp).1);refine⟨h1,fun t n=> ?_⟩;rw[xY,h2,Ec hr.1 (V7 hp).1,N2 hp];constructor
  ·rintro⟨⟨a,b,c⟩,d⟩;refine⟨a,fun q hq=> ?_⟩;rcases yL.1 hq with rfl|hq
   ·exact c
   ·exact d q hq
  ·rintro⟨a,d⟩;exact⟨⟨a,hr.lt a,d p (by simp)⟩,fun q hq=>d q (by simp[hq])⟩
theorem v0q{a:Aut}(h:WfA a)(s:Int):y0v a s=Wv a s:=by obtain⟨h1,h2⟩:=X2 (Km a s) (Ed a.types.toNat) (Jq h s) (D4 _);exact I1 h1 (O0 h s) fun t n=>by rw[y0v,h2,Pz h,P9]
theorem Z6{a:Aut}(h:WfA a)(s:Int):Wo (Wv a s)=true↔∀t n,t<a.types.toNat→inR n→∃p∈Km a s,PM p t n:=by
 rw[Tr (O0 h s)];constructor
 ·intro hv t n ht hn;have:=hv t n;rw[Pz h]at this;by_cases hc:∃p∈Km a s,PM p t n
  ·exact hc
  ·exact absurd ⟨⟨ht,hn⟩,fun p hp hm=>hc ⟨p,hp,hm⟩⟩ this
 ·intro hv t n;rw[Pz h];rintro⟨⟨ht,hn⟩,hx⟩;obtain⟨p,hp,hm⟩:=hv t n ht hn;exact hx p hp hm
def Bn(a:Aut):Bool:=decide (256<a.fin.length) || decide (2048<a.mv.length) || a.mv.any fun m=>m.on.any fun s=>decide (256<s.length)
theorem f1h{a:Aut}(h:WfA a):Wf a=0↔Bn a=false:=by
 rw[Yy];unfold Bn;simp only[Bool.or_eq_false_iff,decide_eq_false_iff_not,vM,decide_eq_true_eq];constructor
 ·rintro⟨h1,h2,h3,h4⟩;exact⟨⟨by omega,by omega⟩,fun m hm=>by
   simp only[uR,vM,decide_eq_true_eq];exact fun s hs=>by have:=((h4 m hm).on.2 s hs).len;omega⟩
 ·rintro⟨⟨h1,h2⟩,h3⟩;refine⟨h.types,⟨h.fin,by omega⟩,by omega,fun m hm=>⟨h.src m hm,h.dst m hm,(h.on m hm).1,fun s hs=> ?_⟩⟩;have hw:=(h.on m hm).2 s hs;have:=h3 m hm;simp only[uR,vM,decide_eq_true_eq]at this;exact Fu hw.1 (q0t hw.1 hw.2) (by have:=this s hs;omega)
def Zq(a:Aut):Int×Aut:=if Bn a then(5,Uv)else(0,a)
def w2f(a:Aut):Int×Aut:=if Wf a≠0 then(5,Uv)else(0,a)
theorem g0k{a c:Aut}(h:WfA a)(hl:Zq a=(0,c)):c=a∧OkA a:=by
 unfold Zq at hl;cases hb:Bn a
 ·rw[hb,if_neg (by simp)]at hl;exact⟨(Prod.mk.inj hl).2.symm,(Yy a).1 ((f1h h).2 hb)⟩
 ·rw[hb,if_pos rfl]at hl;cases(Prod.mk.inj hl).1
end Go.Abs
namespace Go.Abs
def Rj(a:Aut)(lack:Int→Prd):List Mv:=(yW a.fin.length).filterMap fun s:Nat=>if Wo (lack s)then none else some ⟨s,a.fin.length,lack s⟩
def Up(a:Aut):Aut:=⟨a.types,a.fin++[false],a.mv++Rj a (Wv a)++[⟨a.fin.length,a.fin.length,Ed a.types.toNat⟩]⟩
def A0(a:Aut):Int×Aut:=if(Rj a (Wv a)).isEmpty then(0,a)else Zq (Up a)
def Pp(a:Aut):Bool:=(yW a.fin.length).all fun s:Nat=>Wo (y0v a s)
def y22(a:Aut):Int×Aut:=if Pp a then(0,a)else w2f ⟨a.types,a.fin++[false],a.mv++Rj a (y0v a)++[⟨a.fin.length,a.fin.length,Ed a.types.toNat⟩]⟩
theorem Ys{a:Aut}{lack:Int→Prd}{m:Mv}:m∈Rj a lack↔∃s:Nat,s<a.fin.length∧Wo (lack s)=false∧m=⟨s,a.fin.length,lack s⟩:=by
 unfold Rj;rw[vX];constructor
 ·rintro⟨s,hs,h⟩;cases hv:Wo (lack s)
  ·rw[hv,if_neg (by simp)]at h;cases h;exact⟨s,xH.1 hs,hv,rfl⟩
  ·rw[hv,if_pos rfl]at h;cases h
 ·rintro⟨s,hs,hv,rfl⟩;exact⟨s,xH.2 hs,by rw[hv,if_neg (by simp)]⟩
theorem Hf{a:Aut}{lack:Int→Prd}:Rj a lack=[]↔∀s:Nat,s<a.fin.length→Wo (lack s)=true:=by
 rw[vY];constructor
 ·intro h s hs;cases hv:Wo (lack s)
  ·exact absurd (Ys.2 ⟨s,hs,hv,rfl⟩) (h _)
  ·rfl
 ·intro h m hm;obtain⟨s,hs,hv,_⟩:=Ys.1 hm;rw[h s hs]at hv;cases hv
theorem y15{a:Aut}(h:WfA a):WfA (Up a):=by
 have z1:∀m∈(Up a).mv,m∈a.mv∨(∃s:Nat,s<a.fin.length∧m=⟨s,a.fin.length,Wv a s⟩)∨m=⟨a.fin.length,a.fin.length,Ed a.types.toNat⟩:=fun m hm=>by
  rcases yE.1 hm with hm|hm
  ·rcases yE.1 hm with hm|hm
   ·exact .inl hm
   ·obtain⟨s,hs,_,e⟩:=Ys.1 hm;exact .inr (.inl ⟨s,hs,e⟩)
  ·exact .inr (.inr (zW.1 hm))
 have hl:(Up a).fin.length=a.fin.length+1:=by simp[Up]
 refine⟨h.types,by rw[hl];omega,fun m hm=> ?_,fun m hm=> ?_,fun m hm=> ?_⟩
 ·rw[hl];rcases z1 m hm with hm|⟨s,hs,rfl⟩|rfl
  ·have:=h.src m hm;omega
  ·simp only;omega
  ·simp only;omega
 ·rw[hl];rcases z1 m hm with hm|⟨s,hs,rfl⟩|rfl
  ·have:=h.dst m hm;omega
  ·simp only;omega
  ·simp only;omega
 ·rcases z1 m hm with hm|⟨s,hs,rfl⟩|rfl
  ·exact h.on m hm
  ·exact O0 h s
  ·exact D4 _
def w04(a:Aut):Prop:=∀s:Int,0≤s→s<a.fin.length→∀x,Eo a x→∃m∈a.mv,m.src=s∧Tv m.on x=true
theorem N6{a:Aut}{x:Sy}(h:Eo a x):x.ty.toNat<a.types.toNat∧inR x.num∧0≤x.ty:=⟨by have:=h.1;omega,h.2,h.1.1⟩
theorem Tw{a:Aut}(h:WfA a){m:Mv}(hm:m∈a.mv){x:Sy}(hx:Eo a x):Tv m.on x=true↔PM m.on x.ty.toNat x.num:=Er (h.on m hm).1 x hx.1.1
theorem Ky{a:Aut}{s:Int}{p:Prd}:p∈Km a s↔∃m∈a.mv,m.src=s∧m.on=p:=by
 unfold Km;rw[zX];constructor
 ·rintro⟨m,hm,e⟩;have:=xV.1 hm;exact⟨m,this.1,by simpa using this.2,e⟩
 ·rintro⟨m,hm,hs,e⟩;exact⟨m,xV.2 ⟨hm,by simpa using hs⟩,e⟩
theorem q0n{a:Aut}(h:WfA a):Rj a (Wv a)=[]↔w04 a:=by
 rw[Hf];constructor
 ·intro hv s h0 h1 x hx;have hs:=hv s.toNat (by omega);rw[show((s.toNat:Nat):Int)=s by omega,Z6 h]at hs;obtain⟨k1,k2,_⟩:=N6 hx;obtain⟨p,hp,hm⟩:=hs _ _ k1 k2;obtain⟨m,z1,e,rfl⟩:=Ky.1 hp;exact⟨m,z1,e,(Tw h z1 hx).2 hm⟩
 ·intro hf s hs;rw[Z6 h];intro t n ht hn;have hx:Eo a ⟨t,n⟩:=⟨⟨by simp,by simp only;omega⟩,hn⟩
  obtain⟨m,hm,e,hh⟩:=hf s (by omega) (by omega) _ hx;exact⟨m.on,Ky.2 ⟨m,hm,e,rfl⟩,by have:=(Tw h hm hx).1 hh;simpa using this⟩
theorem c0o{a:Aut}(h:WfA a):w04 (Up a):=by
 intro s h0 h1 x hx;have z1:Eo a x:=hx;have hl:(Up a).fin.length=a.fin.length+1:=by simp[Up]
 obtain⟨k1,k2,_⟩:=N6 z1;by_cases hs:s<a.fin.length
 ·by_cases hp:∃p∈Km a s,PM p x.ty.toNat x.num
  ·obtain⟨p,hp,hm⟩:=hp;obtain⟨m,z6,e,rfl⟩:=Ky.1 hp;exact⟨m,xL _ (xL _ z6),e,(Tw h z6 z1).2 hm⟩
  ·have z7:PM (Wv a s) x.ty.toNat x.num:=(Pz h s _ _).2 ⟨⟨k1,k2⟩,fun p z8 hm=>hp ⟨p,z8,hm⟩⟩;have hv:Wo (Wv a s)=false:=by
    cases hv:Wo (Wv a s)
    ·rfl
    ·exact absurd z7 ((Tr (O0 h s)).1 hv _ _)
   have e:((s.toNat:Nat):Int)=s:=by omega
   refine⟨⟨s,a.fin.length,Wv a s⟩,xL _ (uw _ (Ys.2 ⟨s.toNat,by omega,by rw[e];exact hv,by rw[e]⟩)),rfl,?_⟩;exact(Er (O0 h s).1 x hx.1.1).2 z7
 ·refine⟨⟨a.fin.length,a.fin.length,Ed a.types.toNat⟩,uw _ (by simp),by simp only;omega,?_⟩;exact(Er (D4 _).1 x hx.1.1).2 ((P9 ..).2 ⟨k1,k2⟩)
theorem v1a{a:Aut}(h:WfA a)(hd:U2 a):U2 (Up a):=by
 unfold U2;show(a.mv++Rj a (Wv a)++[_]).Pairwise _;rw[yR,yR];refine⟨⟨hd,?_,fun m hm k hk e x hx=> ?_⟩,by simp,fun m hm k hk e x hx=> ?_⟩
 ·unfold Rj;rw[List.pairwise_filterMap];refine List.pairwise_lt_range.imp (fun {i j} hij m hm k hk e=> ?_);have z1:∀(i:Nat) (m:Mv),(if Wo (Wv a i)then none else some (⟨i,a.fin.length,Wv a i⟩:Mv))=some m→m.src=i:=fun i m hm=>by
   split at hm
   ·cases hm
   ·cases hm;rfl
  have:=z1 i m hm;have:=z1 j k hk;omega
 ·obtain⟨s,hs,_,rfl⟩:=Ys.1 hk;rintro⟨h1,h2⟩;have z6:Eo a x:=hx;have p1:=(Tw h hm z6).1 h1;have p2:=(Er (O0 h s).1 x hx.1.1).1 h2;exact((Pz h s _ _).1 p2).2 _ (Ky.2 ⟨m,hm,e,rfl⟩) p1
 ·obtain rfl:=zW.1 hk;exfalso;have e':m.src=(a.fin.length:Int):=e;rcases yE.1 hm with hm|hm
  ·have:=h.src m hm;omega
  ·obtain⟨s,hs,_,rfl⟩:=Ys.1 hm;simp only at e';omega
theorem y1m{a:Aut}(h:WfA a){l l':List Int}(hl:∀j:Int,j<a.fin.length→(j∈l'↔j∈l))(x:Sy):∀j:Int,j<a.fin.length→(j∈Wa (Up a) l' x↔j∈Wa a l x):=by
 intro j hj;rw[W9,W9];have hlen:(Up a).fin.length=a.fin.length+1:=by simp[Up]
 constructor
 ·rintro⟨h1,m,hm,h2,h3,h4⟩;rcases yE.1 hm with hm|hm
  ·rcases yE.1 hm with hm|hm
   ·exact⟨⟨h1.1,hj⟩,m,hm,(hl _ (h.src m hm).2).1 h2,h3,h4⟩
   ·obtain⟨s,hs,_,rfl⟩:=Ys.1 hm;simp only at h4;omega
  ·obtain rfl:=zW.1 hm;simp only at h4;omega
 ·rintro⟨h1,m,hm,h2,h3,h4⟩;exact⟨⟨h1.1,by omega⟩,m,xL _ (xL _ hm),(hl _ (h.src m hm).2).2 h2,h3,h4⟩
theorem k06{a:Aut}(h:WfA a):∀(w:List Sy) (l l':List Int),(∀j:Int,j<a.fin.length→(j∈l'↔j∈l))→∀j:Int,j<a.fin.length→(j∈Hp (Up a) l' w↔j∈Hp a l w)
 |[],_,_,hl=>hl
 |x::w,_,_,hl=>k06 h w _ _ (y1m h hl x)
theorem runIn{a:Aut}:∀(w:List Sy) (l:List Int),(∀j∈l,0≤j∧j<a.fin.length)→∀j∈Hp a l w,0≤j∧j<a.fin.length
 |[],_,hl=>hl
 |x::w,_,_=>runIn w _ (fun _ hj=>U7 _ hj)
theorem B2{a:Aut}(h:WfA a):∀j∈[(0:Int)],0≤j∧j<a.fin.length:=fun j hj=>by obtain rfl:=zW.1 hj;have:=h.fin;omega
theorem D8{a:Aut}{l:List Int}:finB a l=true↔∃s∈l,a.fin.getD s.toNat false=true:=by rw[finB,wO]
theorem u1y{a:Aut}(h:WfA a)(w:List Sy):J0 (Up a) w=J0 a w:=by
 unfold J0;rw[x_,D8,D8];have hr:=k06 h w [0] [0] (fun _ _=>Iff.rfl);have z7:=runIn w _ (B2 (y15 h));have z6:=runIn w _ (B2 h);have hlen:(Up a).fin.length=a.fin.length+1:=by simp[Up]
 have z1:∀s:Int,0≤s→s<a.fin.length→(Up a).fin.getD s.toNat false=a.fin.getD s.toNat false:=fun s h0 h1=>by simp only[Up,List.getD_eq_getElem?_getD];rw[zI (by omega)]
 constructor
 ·rintro⟨s,hs,hf⟩;have:=z7 s hs;by_cases hlt:s<a.fin.length
  ·exact⟨s,(hr s hlt).1 hs,by rw[←z1 s this.1 hlt];exact hf⟩
  ·have:s.toNat=a.fin.length:=by omega
   rw[this]at hf;simp[Up]at hf
 ·rintro⟨s,hs,hf⟩;have:=z6 s hs;exact⟨s,(hr s this.2).2 hs,by rw[z1 s this.1 this.2];exact hf⟩
theorem w15{a c:Aut}(h:OkA a)(hc:A0 a=(0,c)):OkA c∧c.types=a.types∧w04 c∧(U2 a→U2 c)∧∀w,J0 c w=J0 a w:=by
 unfold A0 at hc;split at hc
 ·rename_i hn;cases hc;exact⟨h,rfl,(q0n h.wfA).1 (tJ.1 hn),id,fun _=>rfl⟩
 ·obtain⟨rfl,hk⟩:=g0k (y15 h.wfA) hc;exact⟨hk,rfl,c0o h.wfA,v1a h.wfA,u1y h.wfA⟩
end Go.Abs
namespace Go.Abs
def T8(T:Int):List Prd→Int
 |[]=>0
 |p::r=>if E2 T p≠0 then E2 T p else T8 T r
def Sf(L:List Prd):Bool:=decide (256<L.length) || L.any fun p=>p.any fun s=>decide (256<s.length)
def Ee(T:Int)(l:List Prd):Int×List Prd:=if T<1∨16<T then(2,[])else if 256<l.length then(5,[])else if T8 T l≠0 then(T8 T l,[])else
 if Sf (E0 T.toNat l)then(5,[])else(0,E0 T.toNat l)
def f0t(T:Int)(l:List Prd):Int×List Prd:=if T<1∨16<T then(2,[])else if 256<l.length then(5,[])else if T8 T l≠0 then(T8 T l,[])else
 if Sf (Q5 T.toNat l)then(5,[])else(0,Q5 T.toNat l)
theorem Yk{T:Int}:∀(l:List Prd),T8 T l=0↔∀p∈l,E2 T p=0
 |[]=>by simp[T8]
 |p::r=>by
  rw[T8];by_cases h:E2 T p=0
  ·rw[if_neg (fun k=>k h),Yk r];simp[h]
  ·rw[if_pos h];exact⟨fun k=>absurd k h,fun k=>absurd (k p (by simp)) h⟩
theorem f0p(T:Int)(l:List Prd):f0t T l=Ee T l:=by
 unfold f0t Ee;split
 ·rfl
 ·rename_i hT;split
  ·rfl
  ·split
   ·rfl
   ·rename_i hc;have z1:∀p∈l,PCk T.toNat p:=fun p hp=>((W6 T p).1 ((Yk l).1 (by simpa using hc) p hp)).2;rw[Oy (by omega) z1]
theorem x08{T:Int}(hT:1≤T∧T≤16){l:List Prd}(hl:∀p∈l,PCk T.toNat p):(Ee T l).1=5∨Ee T l=(0,Q5 T.toNat l):=by
 unfold Ee;have hc:T8 T l=0:=(Yk l).2 fun p hp=>(W6 T p).2 ⟨hT,hl p hp⟩;rw[if_neg (by omega)];split
 ·exact .inl rfl
 ·rw[if_neg (by simp[hc])];split
  ·exact .inl rfl
  ·exact .inr (by rw[Oy (by omega) hl])
def onA(a:Aut):List Prd:=a.mv.map (·.on)
def Yz(a:Aut):Int×List Prd×List (List Int):=if Wf a≠0 then(Wf a,[],[])else
 if(Ee a.types (onA a)).1≠0 then((Ee a.types (onA a)).1,[],[])else
 match Az a (Ee a.types (onA a)).2 with
 |none=>(5,[],[])
 |some Q=>(0,(Ee a.types (onA a)).2,Q)
def R4(a:Aut):Int×Aut:=if(Yz a).1≠0 then((Yz a).1,Uv)else Zq (detA a (Yz a).2.1 (Yz a).2.2)
def A4(a:Aut):Int×Aut:=if Wf a≠0 then(Wf a,Uv)else A0 a
def j17(a:Aut):Aut:={ a with fin:=a.fin.map (!·) }
def z2w(a:Aut):Int×Aut:=if(R4 a).1≠0 then((R4 a).1,Uv)else if(A0 (R4 a).2).1≠0 then((A0 (R4 a).2).1,Uv)else(0,j17 (A0 (R4 a).2).2)
theorem Jt{a:Aut}(h:OkA a):∀p∈onA a,PCk a.types.toNat p:=fun p hp=>by obtain⟨m,hm,rfl⟩:=zX.1 hp;exact(h.mv m hm).on
theorem C2{a:Aut}(h:OkA a):Yz a=(5,[],[])∨∃Q,Yz a=(0,Q5 a.types.toNat (onA a),Q)∧Az a (Q5 a.types.toNat (onA a))=some Q∧Sub a (Q5 a.types.toNat (onA a)) Q∧Cls a (Q5 a.types.toNat (onA a)):=by
 unfold Yz;rw[if_neg (fun k=>k ((Yy a).2 h))];rcases x08 h.types (Jt h)with hm|hm
 ·rw[if_pos (by rw[hm];decide),hm];exact .inl rfl
 ·rw[hm,if_neg (by simp)];cases hs:Az a (Q5 a.types.toNat (onA a))with
  |none=>exact .inl rfl
  |some Q=>exact .inr ⟨Q,rfl,rfl,v09 h hs,x1c h⟩
theorem B0{a:Aut}(h:Wf a≠0):Yz a=(Wf a,[],[]):=if_pos h
theorem Ss{a:Aut}{cl:List Prd}{Q:List (List Int)}(hc:Cls a cl){m:Mv}(hm:m∈Hr a cl Q):(∃n:Nat,n<Q.length∧m.src=n)∧(∃t:Nat,t<Q.length∧m.dst=t)∧PWf a.types.toNat m.on:=by obtain⟨n,l,hl,hg⟩:=Od.1 hm;have hi:=Aq (a:=a) (Q:=Q) n l hc.wf;exact⟨⟨n,(zE.1 hl).1,hi.src m hg⟩,hi.dst m hg,hi.wf m hg⟩
theorem y17{a:Aut}{cl:List Prd}{Q:List (List Int)}(hc:Cls a cl)(hs:Sub a cl Q):WfA (detA a cl Q):=by
 have h0:=(zE.1 hs.first).1;have hl:(detA a cl Q).fin.length=Q.length:=by simp[detA]
 refine⟨hc.ok.types,by omega,fun m hm=> ?_,fun m hm=> ?_,fun m hm=>(Ss hc hm).2.2⟩
 ·obtain⟨⟨n,h1,h2⟩,_⟩:=Ss hc hm;rw[hl,h2];omega
 ·obtain⟨_,⟨n,h1,h2⟩,_⟩:=Ss hc hm;rw[hl,h2];omega
theorem w1q{a d:Aut}(h:OkA a)(hd:R4 a=(0,d)):∃Q,Az a (Q5 a.types.toNat (onA a))=some Q∧Sub a (Q5 a.types.toNat (onA a)) Q∧Cls a (Q5 a.types.toNat (onA a))∧
  Yz a=(0,Q5 a.types.toNat (onA a),Q)∧d=detA a (Q5 a.types.toNat (onA a)) Q∧OkA d∧U2 d∧d.types=a.types∧∀w,(∀x∈w,Eo a x)→J0 d w=J0 a w:=by
 unfold R4 at hd;rcases C2 h with hs|⟨Q,hs,hq,z1,z6⟩
 ·rw[hs,if_pos (by decide)]at hd;cases(Prod.mk.inj hd).1
 ·rw[hs,if_neg (by simp)]at hd;obtain⟨rfl,hk⟩:=g0k (y17 z6 z1) hd;exact⟨Q,hq,z1,z6,hs,rfl,hk,x0r z6 z1,rfl,fun w hw=>u1t z6 z1 hw⟩
theorem z1w{a:Aut}(hw:WfA a)(hd:U2 a)(hf:w04 a){s:Int}(h0:0≤s)(h1:s<a.fin.length){x:Sy}(hx:Eo a x):∃t:Int,0≤t∧t<a.fin.length∧Wa a [s] x=[t]:=by
 obtain⟨m,hm,e,hh⟩:=hf s h0 h1 x hx;refine⟨m.dst,(hw.dst m hm).1,(hw.dst m hm).2,Rm (Ya ..) (by simp) fun z=> ?_⟩;rw[W9];constructor
 ·rintro⟨_,k,hk,h2,h3,h4⟩;obtain h2:=zW.1 h2;have:k=m∨k.dst=m.dst:=by
   obtain⟨i,hi⟩:=yQ.1 hm;obtain⟨j,hj⟩:=yQ.1 hk;obtain⟨z7,z1⟩:=zE.1 hi;obtain⟨z8,z6⟩:=zE.1 hj;by_cases hij:i=j
   ·subst hij;left;rw[←z1,←z6]
   ·exfalso;rcases uI hij with hlt|hgt
    ·have:=yU.1 hd i j z7 z8 hlt;rw[z1,z6]at this;exact this (by rw[e,h2]) x hx ⟨hh,h3⟩
    ·have:=yU.1 hd j i z8 z7 hgt;rw[z1,z6]at this;exact this (by rw[e,h2]) x hx ⟨h3,hh⟩
  rcases this with rfl|this
  ·rw[←h4];simp
  ·rw[←h4,this];simp
 ·intro hz;obtain rfl:=zW.1 hz;exact⟨hw.dst m hm,m,hm,by rw[e];simp,hh,rfl⟩
theorem z1g{a:Aut}{cl:List Prd}(hc:Cls a cl){c:Prd}(hm:c∈cl):Eo a (Qo c):=by have h:=(W2 (hc.wf c hm).1 (hc.wf c hm).2).1;have h2:=(hc.wf c hm).1.lt h;exact⟨⟨by simp[Qo],by simp only[Qo];omega⟩,h2.2⟩
end Go.Abs
namespace Go.Abs
def x1b(p:Prd):Bool:=decide (p.length≤4) && p.all fun s=>decide (s.length≤12)
def y1z(a:Aut):Bool:=decide (a.fin.length≤8) && decide (a.mv.length≤16) && a.mv.all fun m=>x1b m.on
theorem q0r{p:Prd}:x1b p=true↔p.length≤4∧∀s∈p,s.length≤12:=by simp[x1b]
theorem c0e(l:List Iv):(Ef l).length≤l.length:=by have h1:=Rl (Eu l) [];have h2:=(Oi l).1.length_eq;rw[Ef];simp at h1;omega
def g1n(a:Aut)(l:List Int)(x:Sy):Int×List Int:=if Wf a≠0 then(Wf a,[])else if 256<l.length then(5,[])else
 if l.any (fun s=>decide (s<0) || decide ((a.fin.length:Int)≤s))then(6,[])else if Gi a.types x≠0 then(Gi a.types x,[])else(0,Wa a l x)
theorem Vw{n:Nat}{l:List Int}(h:l.Pairwise (·<·))(hr:∀s∈l,0≤s∧s<n):l.length≤n:=by
 have he:l=(E3 n).filter fun z=>decide (z∈l):=Rm h ((Il n).filter _) fun z=>by rw[xV,Ep];exact⟨fun hz=>⟨hr z hz,by simpa using hz⟩,fun hz=>by simpa using hz.2⟩
 have h1:=xW (fun z=>decide (z∈l)) (E3 n);rw[←he]at h1;simpa[E3]using h1
theorem Zf{a:Aut}(h:OkA a)(l:List Int)(x:Sy):(Wa a l x).length≤256:=by have:=Vw (Ya a l x) U7;have:=h.fin;omega
def M4(p q:Prd):Bool:= !Wo (Wz p q)
def Fb(a:Aut):Bool:=(yW a.mv.length).all fun i=>(yW i).all fun k=> !(decide ((a.mv.getD i default).src=(a.mv.getD k default).src) && M4 (a.mv.getD i default).on (a.mv.getD k default).on)
theorem Zl{T:Nat}{p q:Prd}(hp:PWf T p)(hq:PWf T q):M4 p q=true↔∃t n,PM p t n∧PM q t n:=by
 unfold M4;cases hv:Wo (Wz p q)
 ·simp only[Bool.not_false,true_iff];apply Classical.byContradiction;intro hn;have:=(Tr (R6 hp hq.1)).2 (fun t n hm=>hn ⟨t,n,(Ec hp.1 hq.1 t n).1 hm⟩);rw[hv]at this;cases this
 ·simp only[Bool.not_true,Bool.false_eq_true,false_iff];rintro⟨t,n,hm⟩;exact(Tr (R6 hp hq.1)).1 hv t n ((Ec hp.1 hq.1 t n).2 hm)
theorem A6{a:Aut}(h:WfA a):Fb a=true↔U2 a:=by
 unfold Fb U2;rw[yH,yU];have hg:∀(i:Nat) (hi:i<a.mv.length),a.mv.getD i default=a.mv[i]:=fun i hi=>by simp[yV,hi]
 constructor
 ·intro hs i j hi hj z6 e x hx;rintro⟨h1,h2⟩;have:=hs j (xH.2 hj);rw[yH]at this;have:=this i (xH.2 z6);rw[hg j hj,hg i hi,e]at this;have hc:M4 a.mv[j].on a.mv[i].on=true:=(Zl (h.on _ (zT hj)) (h.on _ (zT hi))).2 ⟨_,_,(Tw h (zT hj) hx).1 h2,(Tw h (zT hi) hx).1 h1⟩;rw[hc]at this;simp at this
 ·intro hd i hi;have hi:=xH.1 hi;rw[yH];intro k hk;have hk:=xH.1 hk;have z1:k<a.mv.length:=by omega
  rw[hg i hi,hg k z1];by_cases e:a.mv[i].src=a.mv[k].src
  ·cases hc:M4 a.mv[i].on a.mv[k].on
   ·simp
   ·exfalso;obtain⟨t,n,h1,h2⟩:=(Zl (h.on _ (zT hi)) (h.on _ (zT z1))).1 hc;have hb:=(h.on _ (zT hi)).lt h1;have hx:Eo a ⟨t,n⟩:=⟨⟨by simp,by simp only;omega⟩,hb.2⟩
    exact hd k i z1 hi hk e.symm ⟨t,n⟩ hx ⟨(Tw h (zT z1) hx).2 (by simpa using h2),(Tw h (zT hi) hx).2 (by simpa using h1)⟩
  ·simp[e]
end Go.Abs
namespace Go.Abs
open Go Go.Proofs
attribute [simp] T74 T76 T91 T78 T23 T22 T25 T53 T45 T28
@[simp] def encP (p:Prd):AV:= .agg [.list (p.map encL)]
abbrev LP (l:List Prd):AV:= .list (l.map encP)
@[simp] def encSy (x:Sy):AV:= .agg [.i x.ty,.i x.num]
@[simp] def encMv (m:Mv):AV:= .agg [.i m.src,.i m.dst,.list (m.on.map encL)]
@[simp] def encA (a:Aut):AV:= .agg [.i a.types,.list (a.fin.map .bool),.list (a.mv.map encMv)]
attribute [local irreducible] ckR
theorem Pw(T:Int)(p:Prd):PC Tryz.prog 82 [.i T,encP p] (fun r=>r= .i (E2 T p)):=by
 refine Ql tOk Tryz.func82 rfl Tryz.results82 rfl (by simp[Tryz.ntmps82]) ?_;rw[Tryz.ntmps82];simp only[Qf];simp only[encP];refine W3 1 0 rfl rfl (fun hlen=> ?_);rw[yP]at hlen;repeat first|(refine r_ ?_;simp)|refine q_ ?_
 refine Qa rfl (fun h=> ?_) (fun h=> ?_)
 ·repeat first|(refine r_ ?_;simp)|refine q_ ?_
  rw[E2,if_pos (by simpa using h)]
 have h':¬(T<1∨16<T):=by simpa using h
 repeat first|(refine r_ ?_;simp)|refine q_ ?_
 refine Qa rfl (fun h2=> ?_) (fun h2=> ?_)
 ·repeat first|(refine r_ ?_;simp)|refine q_ ?_
  rw[E2,if_neg h',if_pos (by simpa using h2)]
 have z7:(p.length:Int)=T:=by simpa using h2
 have hE:E2 T p=y0p p:=by rw[E2,if_neg h',if_neg (by simpa using z7)]
 rw[hE];repeat first|(refine r_ ?_;simp)|refine q_ ?_
 refine Qu p.length (fun j=>y0p p=y0p (p.drop j)) (fun j=>[(22,.list (p.map encL)),(23,.i p.length),(24,.i j)]) (fun _=>[]) rfl (by simp) (by simp) (by simp) (by simp) (by simp) ?_;intro j hj hI ih;repeat first|(refine r_ ?_;simp)|refine q_ ?_
 refine Qa rfl (fun z8=> ?_) (fun za=> ?_)
 ·have z1:j<p.length:=by simpa using z8
  have hw:IntKind.i64.wrap ((j:Int)+1)=j+1:=wrap_i64 _ (by omega) (by omega);rw[W7 z1,y0p]at hI;repeat first|(refine r_ ?_;simp[z1])|refine q_ ?_
  refine Qe rfl rfl (by simp) (Nv p[j]) rfl ?_;rintro _ rfl;simp;repeat first|(refine r_ ?_;simp)|refine q_ ?_
  refine Qa rfl (fun h3=> ?_) (fun h3=> ?_)
  ·repeat first|(refine r_ ?_;simp)|refine q_ ?_
   rw[hI,if_pos (by simpa using h3)]
  rw[if_neg (by simpa using h3)]at hI;repeat first|(refine r_ ?_;simp[hw])|refine q_ ?_
  refine Qs _ (ih z1 hI) rfl (by simp) ?_ (by simp) (by simp);simp
 ·have z6:j=p.length:=by simp at za;omega
  subst z6;repeat first|(refine r_ ?_;simp)|refine q_ ?_
  rw[hI,wn];rfl
theorem y03(T:Int)(p:Prd):PC Tryz.prog 116 [.i T,encP p] (fun r=>r= .i (E2 T p)):=by
 refine Ql tOk Tryz.func116 rfl Tryz.results116 rfl (by simp[Tryz.ntmps116]) ?_;rw[Tryz.ntmps116];simp only[Qf];simp only[encP];refine W3 1 0 rfl rfl (fun hlen=> ?_);rw[yP]at hlen;repeat first|(refine r_ ?_;simp)|refine q_ ?_
 refine Qa rfl (fun h=> ?_) (fun h=> ?_)
 ·repeat first|(refine r_ ?_;simp)|refine q_ ?_
  rw[E2,if_pos (by simpa using h)]
 have h':¬(T<1∨16<T):=by simpa using h
 repeat first|(refine r_ ?_;simp)|refine q_ ?_
 refine Qa rfl (fun h2=> ?_) (fun h2=> ?_)
 ·repeat first|(refine r_ ?_;simp)|refine q_ ?_
  rw[E2,if_neg h',if_pos (by simpa using h2)]
 have z7:(p.length:Int)=T:=by simpa using h2
 have hE:E2 T p=y0p p:=by rw[E2,if_neg h',if_neg (by simpa using z7)]
 rw[hE];repeat first|(refine r_ ?_;simp)|refine q_ ?_
 refine Qu p.length (fun j=>y0p p=y0p (p.drop j)) (fun j=>[(0,.i T),(3,.vptr 0 0),(5,.i j)]) (fun _=>[.vars [.list (p.map encL)]]) rfl (by simp) (by simp) (by simp) (by simp) (by simp) ?_;intro j hj hI ih;repeat first|(refine r_ ?_;simp)|refine q_ ?_
 refine Qa rfl (fun z8=> ?_) (fun za=> ?_)
 ·have z1:j<p.length:=by have k:(j:Int)<T:=(by simpa using z8);omega
  have hw:IntKind.i64.wrap ((j:Int)+1)=j+1:=wrap_i64 _ (by omega) (by omega);rw[W7 z1,y0p]at hI;repeat first|(refine r_ ?_;simp[z1])|refine q_ ?_
  refine Qe rfl rfl (by simp) (u0p p[j]) rfl ?_;rintro _ rfl;simp;repeat first|(refine r_ ?_;simp)|refine q_ ?_
  refine Qa rfl (fun h3=> ?_) (fun h3=> ?_)
  ·repeat first|(refine r_ ?_;simp)|refine q_ ?_
   rw[hI,if_pos (by simpa using h3)]
  rw[if_neg (by simpa using h3)]at hI;repeat first|(refine r_ ?_;simp[hw])|refine q_ ?_
  refine Qs _ (ih z1 hI) rfl (by simp) ?_ (by simp) (by simp);simp
 ·have z6:j=p.length:=by have k:¬(j:Int)<T:=(by simpa using za);omega
  subst z6;repeat first|(refine r_ ?_;simp)|refine q_ ?_
  rw[hI,wn];rfl
end Go.Abs
namespace Go.Abs
open Go Go.Proofs
def Hq:List Prd→Int
 |[]=>0
 |p::r=>if E2 p.length p≠0 then E2 p.length p else Hq r
attribute [local irreducible] E2
theorem Jm(l:List Prd):PC Tryz.prog 157 [LP l] (fun r=>r= .i (Hq l)):=by
 refine Ql tOk Tryz.func157 rfl Tryz.results157 rfl (by simp[Tryz.ntmps157]) ?_;rw[Tryz.ntmps157];simp only[Qf];refine Ub 0 rfl (fun hlen=> ?_);rw[yP]at hlen;repeat first|(refine r_ ?_;simp)|refine q_ ?_
 refine Qu l.length (fun j=>Hq l=Hq (l.drop j)) (fun j=>[(6,LP l),(7,.i l.length),(8,.i j)]) (fun _=>[]) rfl (by simp) (by simp) (by simp) (by simp) (by simp) ?_;intro j hj hI ih;repeat first|(refine r_ ?_;simp)|refine q_ ?_
 refine Qa rfl (fun z7=> ?_) (fun z8=> ?_)
 ·have z1:j<l.length:=by simpa using z7
  have hw:IntKind.i64.wrap ((j:Int)+1)=j+1:=wrap_i64 _ (by omega) (by omega);rw[W7 z1,Hq]at hI;repeat first|(refine r_ ?_;simp[z1])|refine q_ ?_
  refine Qe rfl rfl (by simp) (Pw l[j].length l[j]) rfl ?_;rintro _ rfl;simp;repeat first|(refine r_ ?_;simp)|refine q_ ?_
  refine Qa rfl (fun h3=> ?_) (fun h3=> ?_)
  ·repeat first|(refine r_ ?_;simp)|refine q_ ?_
   rw[hI,if_pos (by simpa using h3)]
  rw[if_neg (by simpa using h3)]at hI;repeat first|(refine r_ ?_;simp[hw])|refine q_ ?_
  refine Qs _ (ih z1 hI) rfl (by simp) ?_ (by simp) (by simp);simp
 ·have z6:j=l.length:=by simp at z8;omega
  subst z6;repeat first|(refine r_ ?_;simp)|refine q_ ?_
  rw[hI,wn];rfl
def d0c(p:Prd)(x:Sy):Int:=if Hq [p]≠0 then Hq [p]else Gi p.length x
def x0d(p:Prd)(x:Sy):Bool×Int:=if d0c p x≠0 then(false,d0c p x)else(Tv p x,0)
attribute [local irreducible] Hq w1e
theorem x1n{T:Int}{p:Prd}(h:E2 T p=0):Hq [p]=0∧(p.length:Int)=T:=by
 obtain⟨h1,h2⟩:=(W6 T p).1 h;have hl:(p.length:Int)=T:=by have:=h2.1;omega
 exact⟨by unfold Hq;rw[hl,if_neg (fun k=>k h)];unfold Hq;rfl,hl⟩
theorem j0r{p:Prd}(h:Hq [p]=0):∀s∈p,CanonL s:=by
 unfold Hq at h;by_cases hc:E2 p.length p=0
 ·exact((W6 _ p).1 hc).2.2
 ·rw[if_pos hc]at h;exact absurd h hc
theorem C7(p:Prd)(x:Sy):PC Tryz.prog 99 [encP p,encSy x] (fun r=>r= .tup [.bool (x0d p x).1,.i (x0d p x).2]):=by
 refine Ql tOk Tryz.func99 rfl Tryz.results99 rfl (by simp[Tryz.ntmps99]) ?_;rw[Tryz.ntmps99];simp only[Qf];simp only[encP,encSy];refine W3 0 0 rfl rfl (fun hlen=> ?_);rw[yP]at hlen;repeat first|(refine r_ ?_;simp)|refine q_ ?_
 refine Og 2 rfl ?_;simp;refine Qe rfl rfl (by simp) (Jm [p]) rfl ?_;rintro _ rfl;simp;repeat first|(refine r_ ?_;simp)|refine q_ ?_
 refine Qa rfl (fun h=> ?_) (fun h=> ?_)
 ·repeat first|(refine r_ ?_;simp)|refine q_ ?_
  have h':Hq [p]≠0:=by simpa using h
  have hE:d0c p x=Hq [p]:=by rw[d0c,if_pos h']
  rw[x0d,hE,if_pos h'];exact⟨rfl,rfl⟩
 have h':Hq [p]=0:=by simpa using h
 have hE:d0c p x=Gi p.length x:=by rw[d0c,if_neg (fun k=>k h')]
 repeat first|(refine r_ ?_;simp)|refine q_ ?_
 refine Qa rfl (fun h1=> ?_) (fun h1=> ?_)
 ·repeat first|(refine r_ ?_;simp)|refine q_ ?_
  have z6:x.ty<0∨(p.length:Int)≤x.ty:=by simpa using h1
  have z1:d0c p x=6:=by rw[hE,Gi,if_pos z6]
  rw[x0d,z1];exact⟨rfl,rfl⟩
 have z6:¬(x.ty<0∨(p.length:Int)≤x.ty):=by simpa using h1
 repeat first|(refine r_ ?_;simp)|refine q_ ?_
 refine Qa rfl (fun h2=> ?_) (fun h2=> ?_)
 ·repeat first|(refine r_ ?_;simp)|refine q_ ?_
  have z7:x.num< -1099511627776∨1099511627776<x.num:=by simpa using h2
  have z1:d0c p x=2:=by rw[hE,Gi,if_neg z6,if_pos z7]
  rw[x0d,z1];exact⟨rfl,rfl⟩
 have z7:¬(x.num< -1099511627776∨1099511627776<x.num):=by simpa using h2
 have z1:d0c p x=0:=by rw[hE,Gi,if_neg z6,if_neg z7]
 repeat first|(refine r_ ?_;simp)|refine q_ ?_
 have zb:0≤x.ty:=by omega
 have zc:x.ty<(p.length:Int):=by omega
 have z8:x.ty.toNat<p.length:=by omega
 refine Qk tOk mixed [] (.val 0 (.val 1 (.val 2 (.val 3 (.val 4 (.val 5 (.val 6 (.val 7 (.one 8 (.val 9 (.val 10 (.val 11 (.val 12 (.done)))))))))))))) rfl (by kernel_rfl) ?_;simp[zb,zc,z8];refine Qe rfl rfl (by simp) (Gs p[x.ty.toNat] x.num) rfl ?_;rintro _ rfl;simp;repeat first|(refine r_ ?_;simp)|refine q_ ?_
 have hc:=j0r h' _ (zT z8);have za:w1e p[x.ty.toNat] x.num=(Pd p[x.ty.toNat] x.num,0):=by rw[w1e,if_pos ((Va _).2 hc)]
 rw[x0d,z1,if_neg (fun k=>k rfl),za];refine⟨?_,rfl⟩;simp[Tv,zb,zc,yV,z8]
theorem k1j{T:Int}{p:Prd}(h:E2 T p=0)(x:Sy):x0d p x=if Gi T x≠0 then(false,Gi T x)else(Tv p x,0):=by
 obtain⟨h1,h2⟩:=x1n h;have hE:d0c p x=Gi T x:=by rw[d0c,if_neg (fun k=>k h1),h2]
 rw[x0d,hE]
end Go.Abs
namespace Go.Abs
open Go Go.Proofs
abbrev Wb (a:Aut):List AV:=[.i a.types,.list (a.fin.map .bool),.list (a.mv.map encMv)]
theorem v1w(p:Prd)(x:Sy):PC Tryz.prog 175 [encP p,encSy x] (fun r=>r= .bool ((x0d p x).2==0 && (x0d p x).1)):=by
 refine Ql tOk Tryz.func175 rfl Tryz.results175 rfl (by simp[Tryz.ntmps175]) ?_;rw[Tryz.ntmps175];simp only[Qf];simp only[encP,encSy];repeat first|(refine r_ ?_;simp)|refine q_ ?_
 refine Qe rfl rfl (by simp) (C7 p x) rfl ?_;rintro _ rfl;simp;repeat first|(refine r_ ?_;simp)|refine q_ ?_
def stB(a:Aut)(n:Int):Bool:=decide (0≤n) && decide (n<a.fin.length)
theorem Kx(a:Aut)(n:Int):stB a n=true↔0≤n∧n<a.fin.length:=by simp[stB]
theorem Ls(H:List AObj)(id:Nat)(a:Aut)(hid:H[id]? =some (.vars (Wb a)))(n:Int):FC Tryz.prog 134 [.i n,.vptr id 0] H (fun r H'=>r= .bool (stB a n)∧H'=H):=by refine W5 tOk Tryz.func134 rfl Tryz.results134 rfl (by simp[Tryz.ntmps134]) ?_;rw[Tryz.ntmps134];simp only[Qf];repeat first|(refine r_ ?_;simp[hid,stB])|refine q_ ?_
attribute [local irreducible] E2 stB
theorem Yt(a:Aut):PC Tryz.prog 73 [encA a] (fun r=>r= .i (Wf a)):=by
 refine Ql tOk Tryz.func73 rfl Tryz.results73 rfl (by simp[Tryz.ntmps73]) ?_;rw[Tryz.ntmps73];simp only[Qf];simp only[encA];refine W3 0 1 rfl rfl (fun z7=> ?_);refine W3 0 2 rfl rfl (fun z8=> ?_);rw[yP]at z7 z8;repeat first|(refine r_ ?_;simp)|refine q_ ?_
 refine Qa rfl (fun h=> ?_) (fun h=> ?_)
 ·repeat first|(refine r_ ?_;simp)|refine q_ ?_
  rw[Wf,if_pos (by simpa using h)]
 have h1:¬(a.types<1∨16<a.types):=by simpa using h
 repeat first|(refine r_ ?_;simp)|refine q_ ?_
 refine Qa rfl (fun h=> ?_) (fun h=> ?_)
 ·repeat first|(refine r_ ?_;simp)|refine q_ ?_
  rw[Wf,if_neg h1,if_pos];simp at h;omega
 have h2:¬(a.fin.length<1∨256<a.fin.length∨2048<a.mv.length):=by simp at h;omega
 have hE:Wf a=w09 a.types a.fin.length a.mv:=by rw[Wf,if_neg h1,if_neg h2]
 rw[hE];repeat first|(refine r_ ?_;simp)|refine q_ ?_
 refine Qu a.mv.length (fun j=>w09 a.types a.fin.length a.mv=w09 a.types a.fin.length (a.mv.drop j)) (fun j=>[(1,.vptr 0 0),(3,.fn (.func 134) [] [.vptr 0 0]),(33,.list (a.mv.map encMv)),(34,.i a.mv.length),(35,.i j)]) (fun _=>[.vars (Wb a)]) rfl (by simp) (by simp) (by simp) (by simp) (by simp) ?_;intro j hj hI ih;repeat first|(refine r_ ?_;simp)|refine q_ ?_
 refine Qa rfl (fun za=> ?_) (fun zb=> ?_)
 ·have z1:j<a.mv.length:=by simpa using za
  have hw:IntKind.i64.wrap ((j:Int)+1)=j+1:=wrap_i64 _ (by omega) (by omega);rw[W7 z1,w09]at hI;repeat first|(refine r_ ?_;simp[z1])|refine q_ ?_
  cases hb:stB a a.mv[j].src with
  |false=>
   refine Q4 rfl rfl (Ls _ 0 a rfl a.mv[j].src) rfl ?_;rintro r H' ⟨rfl,rfl⟩;simp[hb];repeat first|(refine r_ ?_;simp)|refine q_ ?_
   refine Q6 rfl rfl ?_;simp;refine Qm rfl ?_;repeat first|(refine r_ ?_;simp)|refine q_ ?_
   rw[hI,if_pos (fun k=>by rw[(Kx _ _).2 k.1]at hb;cases hb)]
  |true=>
   refine Q4 rfl rfl (Ls _ 0 a rfl a.mv[j].src) rfl ?_;rintro r H' ⟨rfl,rfl⟩;simp[hb];repeat first|(refine r_ ?_;simp)|refine q_ ?_
   refine Q4 rfl rfl (Ls _ 0 a rfl a.mv[j].dst) rfl ?_;rintro r H' ⟨rfl,rfl⟩;simp;repeat first|(refine r_ ?_;simp)|refine q_ ?_
   refine Qa rfl (fun h3=> ?_) (fun h3=> ?_)
   ·repeat first|(refine r_ ?_;simp)|refine q_ ?_
    rw[hI,if_pos (fun k=>by rw[(Kx _ _).2 k.2]at h3;cases h3)]
   have hd:stB a a.mv[j].dst=true:=by simpa using h3
   rw[if_neg (fun k=>k ⟨(Kx _ _).1 hb,(Kx _ _).1 hd⟩)]at hI;repeat first|(refine r_ ?_;simp)|refine q_ ?_
   refine Qe rfl rfl (by simp) (Pw a.types a.mv[j].on) rfl ?_;rintro _ rfl;simp;repeat first|(refine r_ ?_;simp)|refine q_ ?_
   refine Qa rfl (fun h4=> ?_) (fun h4=> ?_)
   ·repeat first|(refine r_ ?_;simp)|refine q_ ?_
    rw[hI,if_pos (by simpa using h4)]
   rw[if_neg (by simpa using h4)]at hI;repeat first|(refine r_ ?_;simp[hw])|refine q_ ?_
   refine Qs _ (ih z1 hI) rfl (by simp) ?_ (by simp) (by simp);simp
 ·have z6:j=a.mv.length:=by simp at zb;omega
  subst z6;repeat first|(refine r_ ?_;simp)|refine q_ ?_
  rw[hI,wn];rfl
theorem x0e(a:Aut):PC Tryz.prog 51 [encA a] (fun r=>r= .i (Wf a)):=by
 refine Ql tOk Tryz.func51 rfl Tryz.results51 rfl (by simp[Tryz.ntmps51]) ?_;rw[Tryz.ntmps51];simp only[Qf];simp only[encA];refine W3 0 1 rfl rfl (fun z7=> ?_);refine W3 0 2 rfl rfl (fun z8=> ?_);rw[yP]at z7 z8;repeat first|(refine r_ ?_;simp)|refine q_ ?_
 refine Qa rfl (fun h=> ?_) (fun h=> ?_)
 ·repeat first|(refine r_ ?_;simp)|refine q_ ?_
  rw[Wf,if_pos (by simpa using h)]
 have h1:¬(a.types<1∨16<a.types):=by simpa using h
 repeat first|(refine r_ ?_;simp)|refine q_ ?_
 refine Qa rfl (fun h=> ?_) (fun h=> ?_)
 ·repeat first|(refine r_ ?_;simp)|refine q_ ?_
  rw[Wf,if_neg h1,if_pos];simp at h;omega
 have h2:¬(a.fin.length<1∨256<a.fin.length∨2048<a.mv.length):=by simp at h;omega
 have hE:Wf a=w09 a.types a.fin.length a.mv:=by rw[Wf,if_neg h1,if_neg h2]
 rw[hE];repeat first|(refine r_ ?_;simp)|refine q_ ?_
 refine Qu a.mv.length (fun j=>w09 a.types a.fin.length a.mv=w09 a.types a.fin.length (a.mv.drop j)) (fun j=>[(1,.vptr 0 0),(3,.i a.fin.length),(4,.i j)]) (fun _=>[.vars (Wb a)]) rfl (by simp) (by simp) (by simp) (by simp) (by simp) ?_;intro j hj hI ih;repeat first|(refine r_ ?_;simp)|refine q_ ?_
 refine Qa rfl (fun za=> ?_) (fun zb=> ?_)
 ·have z1:j<a.mv.length:=by simpa using za
  have hw:IntKind.i64.wrap ((j:Int)+1)=j+1:=wrap_i64 _ (by omega) (by omega);rw[W7 z1,w09]at hI;repeat first|(refine r_ ?_;simp[z1])|refine q_ ?_
  refine Qa rfl (fun h3=> ?_) (fun h3=> ?_)
  ·repeat first|(refine r_ ?_;simp)|refine q_ ?_
   rw[hI,if_pos];simp at h3;omega
  rw[if_neg (by simp at h3 ⊢;omega)]at hI;repeat first|(refine r_ ?_;simp)|refine q_ ?_
  refine Qe rfl rfl (by simp) (y03 a.types a.mv[j].on) rfl ?_;rintro _ rfl;simp;repeat first|(refine r_ ?_;simp)|refine q_ ?_
  refine Qa rfl (fun h4=> ?_) (fun h4=> ?_)
  ·repeat first|(refine r_ ?_;simp)|refine q_ ?_
   rw[hI,if_pos (by simpa using h4)]
  rw[if_neg (by simpa using h4)]at hI;repeat first|(refine r_ ?_;simp[hw])|refine q_ ?_
  refine Qs _ (ih z1 hI) rfl (by simp) ?_ (by simp) (by simp);simp
 ·have z6:j=a.mv.length:=by simp at zb;omega
  subst z6;repeat first|(refine r_ ?_;simp)|refine q_ ?_
  rw[hI,wn];rfl
end Go.Abs
