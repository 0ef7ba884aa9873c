/- Part Nd of the proof: an abstract machine over the model, and what the functions of the program hand back in its terms. No condition. -/
import Derived.Test.YteghceocnldccaaGreatDoorNc
import Derived.Test.YteghceocnldccaaGreatDoorNb
set_option linter.all false
open List renaming eq_nil_or_concat→wS,concat_eq_append→wT,getLast?_append→tp,getLast?_singleton→uY,dropLast_concat→tq,mem_append→yH,foldl_cons→x_,length_cons→yY,length_take→wp,take_succ_eq_append_getElem→zY,take_of_length_le→zV,map_take→xS,map_drop→xT,take_length→xB,take_append_drop→xY,mem_cons→yP,getElem?_append_right→zL,length_map→yO,drop_length→ws,getElem_of_mem→xE,getElem_mem→zT,any_eq_true→vK,any_eq_false→vN,replicate→yB,cons_append→vZ,length_filter_le→xX,perm_middle→vR,pairwise_append→yS,pairwise_cons→yZ,pairwise_iff_getElem→yU,getElem_take→tC,pairwise_mergeSort→uZ,mem_mergeSort→tA,mem_flatMap→wZ,mem_filterMap→vX,countP_cons→vO,countP_eq_zero→tu,map_cons→xH,sum_cons→uG,getElem?_eq_some_iff→zE,mem_of_getElem?→zO,getElem?_eq_getElem→zP,perm_ext_iff_of_nodup→uS,zipWith→sd,getElem?_replicate→vJ,eq_of_mem_replicate→vU,getElem?_zipWith→vL,mem_iff_getElem?→yR,getElem?_map→yI,all_eq_true→yE,isEmpty_iff→tJ,mem_singleton→z_,pairwise_flatMap→uq,range→yV,getD→y_,getElem?_set_self→zU,getElem?_set_ne→zH,mem_cons_of_mem→tr,map_congr_left→xZ,mem_map→zX,mem_range→xJ,pairwise_map→wU,mem_filter→xU,mem_append_left→xL,findIdx?_eq_some_iff_getElem→xP,getElem_inj→ua,getElem?_append_left→zI,eq_nil_iff_forall_not_mem→u5,mem_append_right→uy
open Option renaming some_or→tH,map_eq_some_iff→zZ
open Nat renaming le_refl→zW,le_trans→yW,lt_trichotomy→vS,lt_or_gt_of_ne→uM
open Bool renaming eq_iff_iff→wO,not_eq_true→uT
open Int renaming le_refl→xF,lt_trichotomy→tI
set_option maxHeartbeats 2000000
set_option linter.unusedSimpArgs false
set_option maxRecDepth 100000
namespace Go.Abs
open Go Go.Proofs
def z2s:List Iv→Int
 |[]=>0
 |x::r=>if(Sf x != 0)=true then Sf x else z2s r
def Qy(acc l:List Iv):List Iv:=l.foldl W2 acc
def d0j(l:List Iv):Int:=if decide ((256:Int)<l.length)=true then 5 else z2s l
def x2x(l:List Iv)(r:AV):Prop:=(d0j l≠0∧r= .tup [.list [],.i (d0j l)])∨(d0j l=0∧l.length≤256∧z2s l=0∧∃l':List Iv,l'.Perm l∧Z3 l'∧r= .tup [LIv (Qy [] l'),.i 0])
theorem Ck{x:Iv}(h:Sf x=0):U5 x∧x.lo≤x.hi:=by
 unfold Sf at h;by_cases h1:(!inB x.lo || !inB x.hi)=true
 ·rw[if_pos h1]at h;cases h
 ·rw[if_neg h1]at h;by_cases h2:decide (x.hi<x.lo)=true
  ·rw[if_pos h2]at h;cases h
  ·exact⟨by simpa[U5]using h1,by simpa using h2⟩
theorem k1y{acc:List Iv}{x:Iv}(ha:∀y∈acc,U5 y)(hx:U5 x):∀y∈W2 acc x,U5 y:=by
 rcases wS acc with rfl|⟨ini,z,rfl⟩
 ·simpa[W2]using hx
 ·have hz:=ha z (by simp);have hi:∀y∈ini,U5 y:=fun y hy=>ha y (by simp[hy]);intro y hy;simp only[W2,wT,tp,uY,tH,tq]at hy;split at hy
  ·rcases yH.1 hy with h|h
   ·exact hi y h
   ·simp at h;subst h;refine⟨hz.1,?_⟩;simp only;split
    ·exact hx.2
    ·exact hz.2
  ·rcases yH.1 hy with h|h
   ·rcases yH.1 h with h|h
    ·exact hi y h
    ·simp at h;subst h;exact hz
   ·simp at h;subst h;exact hx
theorem y11(acc:List Iv)(x:Iv):(W2 acc x).length≤acc.length+1:=by
 rcases wS acc with rfl|⟨ini,z,rfl⟩
 ·simp[W2]
 ·simp only[W2,wT,tp,uY,tH,tq];split<;>simp
theorem Uj(acc l:List Iv)(x:Iv):Qy acc (l++[x])=W2 (Qy acc l) x:=by simp[Qy]
theorem Rc:∀(l acc:List Iv),(Qy acc l).length≤acc.length+l.length
 |[],acc=>by simp[Qy]
 |x::r,acc=>by have:=Rc r (W2 acc x);have:=y11 acc x;simp only[Qy,x_,yY]at *;omega
theorem Iq:∀(l acc:List Iv),(∀y∈acc,U5 y)→(∀y∈l,U5 y)→∀y∈Qy acc l,U5 y
 |[],acc,h,_=>by simpa[Qy]using h
 |x::r,acc,h,hl=>Iq r (W2 acc x) (k1y h (hl x (by simp))) (fun y hy=>hl y (by simp[hy]))
attribute [local irreducible] Sf
end Go.Abs
namespace Go.Abs
open Go Go.Proofs
def f1o(s:List Iv)(j:Nat)(x:Iv):Bool:=match s[j]? with|some y=>decide (x.lo<y.lo)|none=>false
def Yl(s:List Iv)(x:Iv):Nat→Nat
 |0=>0
 |j+1=>if f1o s j x=true then Yl s x j else j+1
def Z4(s:List Iv)(x:Iv):List Iv:=s.take (Yl s x s.length)++x::s.drop (Yl s x s.length)
def E3(l:List Iv):List Iv:=l.foldl Z4 []
theorem Hf(s:List Iv)(x:Iv):∀j,Yl s x j≤j
 |0=>zW _
 |j+1=>by
  rw[Yl];split
  ·exact Nat.le_succ_of_le (Hf s x j)
  ·exact zW _
theorem q12(s:List Iv)(x:Iv):(Z4 s x).length=s.length+1:=by have:=Hf s x s.length;simp[Z4];omega
theorem z02(l:List Iv)(x:Iv):E3 (l++[x])=Z4 (E3 l) x:=by simp[E3]
theorem Ka:∀(l acc:List Iv),(l.foldl Z4 acc).length=acc.length+l.length
 |[],acc=>by simp
 |x::r,acc=>by rw[x_,Ka r,q12,yY];omega
theorem Ge(l:List Iv):(E3 l).length=l.length:=by rw[E3,Ka];simp
theorem d0w(l:List Iv)(hl:l.length≤1000000000):PC Tryz.prog 184 [LIv l] (fun r=>r=LIv (E3 l)):=by
 refine Ql tOk Tryz.func184 rfl Tryz.results184 rfl (by simp[Tryz.ntmps184]) ?_;rw[Tryz.ntmps184];simp only[Qg];repeat first|(refine r_ ?_;simp)|refine q_ ?_
 refine V9 3 rfl ?_;simp;refine Qu l.length (fun _=>True) (fun j=>[(0,LIv l),(3,LIv (E3 (l.take j))),(4,.i j)]) (fun _=>[]) rfl (by simp) (by simp[E3]) (by simp) (by simp) trivial ?_;intro j hj _ ih;obtain⟨s,hs⟩:∃s,E3 (l.take j)=s:=⟨_,rfl⟩
 have zj:s.length=j:=by rw[←hs,Ge,wp];omega
 rw[hs];repeat first|(refine r_ ?_;simp)|refine q_ ?_
 refine Qa rfl (fun zd=> ?_) (fun ze=> ?_)
 ·have z1:j<l.length:=by simpa using zd
  have hw:IntKind.i64.wrap ((j:Int)+1)=j+1:=wrap_i64 _ (by omega) (by omega);have za:E3 (l.take (j+1))=Z4 s l[j]:=by rw[zY z1,z02,hs]
  repeat first|(refine r_ ?_;simp)|refine q_ ?_
  obtain⟨q,hq⟩:∃q,Yl s l[j] s.length=q:=⟨_,rfl⟩
  refine Qo (Qc (sl':=[(0,LIv l),(3,LIv s),(4,.i j),(5,.i s.length)]) ?_ (by simp));refine Qp (F:=fun(u:Nat)=>⟨[(0,LIv l),(3,LIv s),(4,.i j),(5,.i u)],[]⟩) (fun u=>u≤s.length∧Yl s l[j] u=q) (fun u=>u) ?_ s.length ⟨zW _,hq⟩;rintro u ⟨hu,hI⟩ ih2;repeat first|(refine r_ ?_;simp)|refine q_ ?_
  rcases u with _|u
  ·have zf:IntKind.i64.wrap (-1)= -1:=by decide
   refine Qk tOk mixed [] (.val 0 (.val 1 (.val 2 (.val 3 (.val 4 (.val 5 (.val 6 (.val 7 (.val 8 (.val 9 (.val 10 (.val 11 (.val 12 (.val 13 (.val 14 (.val 15 (.done))))))))))))))))) rfl (by kernel_rfl) ?_;simp[zf,z1];refine Qm rfl ?_;repeat first|(refine r_ ?_;simp)|refine q_ ?_
   have zg:q=0:=hI.symm;subst zg;refine Qf tOk rfl rfl U6 rfl A7 rfl (by decide) (by decide) rfl rfl rfl ?_;simp[z1];refine⟨by simp[Wk,z1]<;>omega,?_⟩;repeat first|(refine r_ ?_;simp[z1,z1])|refine q_ ?_
   refine Qf tOk rfl rfl U6 rfl A7 rfl (by decide) (by decide) rfl rfl rfl ?_;simp[z1];refine⟨by simp[Wk,z1]<;>omega,?_⟩;repeat first|(refine r_ ?_;simp[z1,z1])|refine q_ ?_
   refine Qf tOk rfl rfl U6 rfl A7 rfl (by decide) (by decide) rfl rfl rfl ?_;simp[z1];refine⟨by simp[Wk,z1]<;>omega,?_⟩;repeat first|(refine r_ ?_;simp[z1,hw])|refine q_ ?_
   refine Di 4 rfl ?_;simp[z1];refine Qs _ (ih z1 trivial) rfl (by simp) ?_ (by simp) (by simp);rw[za];simp;rw[zV (by simp;omega)];rw[if_pos (by omega)]
   subst_vars
   simp[Z4, *]
  ·have zb:u<s.length:=by omega
   have zc:IntKind.i64.wrap (u:Int)=u:=wrap_i64 _ (by omega) (by omega);have zh:(u:Int)<s.length:=by omega
   have zi:f1o s u l[j]=decide (l[j].lo<s[u].lo):=by simp[f1o,zb]
   rw[Yl,zi]at hI;refine Qk tOk mixed [] (.val 0 (.val 1 (.val 2 (.val 3 (.val 4 (.val 5 (.val 6 (.val 7 (.val 8 (.val 9 (.val 10 (.val 11 (.val 12 (.val 13 (.val 14 (.val 15 (.done))))))))))))))))) rfl (by kernel_rfl) ?_;simp[zb,z1,zc,zh];refine Qa rfl (fun h1=> ?_) (fun h1=> ?_)
   ·rw[if_pos h1]at hI;repeat first|(refine r_ ?_;simp[zc])|refine q_ ?_
    exact Qc (sl':=[(0,LIv l),(3,LIv s),(4,.i j),(5,.i u)]) (ih2 u ⟨by omega,hI⟩ (by omega)) (by simp)
   ·rw[if_neg (by simpa using h1)]at hI;have z6:(u:Int)+1≤s.length:=by omega
    have z7:(0:Int)≤(u:Int)+1:=by omega
    repeat first|(refine r_ ?_;simp[z6,z7])|refine q_ ?_
    refine Qf tOk rfl rfl U6 rfl A7 rfl (by decide) (by decide) rfl rfl rfl ?_;simp[z6,z7,-xS,←xS,-xT,←xT];refine⟨by simp[Wk,z6,z7,-xS,←xS,-xT,←xT]<;>omega,?_⟩;repeat first|(refine r_ ?_;simp[z1,z6,z7,-xS,←xS,-xT,←xT])|refine q_ ?_
    refine Qf tOk rfl rfl U6 rfl A7 rfl (by decide) (by decide) rfl rfl rfl ?_;simp[z6,z7,-xS,←xS,-xT,←xT];refine⟨by simp[Wk,z6,z7,-xS,←xS,-xT,←xT]<;>omega,?_⟩;repeat first|(refine r_ ?_;simp[z1,z6,z7,-xS,←xS,-xT,←xT])|refine q_ ?_
    refine Qf tOk rfl rfl U6 rfl A7 rfl (by decide) (by decide) rfl rfl rfl ?_;simp[z6,z7,-xS,←xS,-xT,←xT];refine⟨by simp[Wk,z6,z7,-xS,←xS,-xT,←xT]<;>omega,?_⟩;repeat first|(refine r_ ?_;simp[z6,z7,-xS,←xS,-xT,←xT,hw])|refine q_ ?_
    refine Di 4 rfl ?_;simp[z6,z7,-xS,←xS,-xT,←xT];refine Qs _ (ih z1 trivial) rfl (by simp) ?_ (by simp) (by simp);rw[za];simp;rw[zV (by simp;omega)];rw[if_pos (by omega)]
    subst_vars
    simp[Z4, *]
 ·have z8:j=l.length:=by simp at ze;omega
  subst z8;repeat first|(refine r_ ?_;simp)|refine q_ ?_
  rw[←hs,xB]
end Go.Abs
namespace Go.Abs
open Go Go.Proofs
def Ej(l:List Iv):List Iv:=Qy [] (E3 l)
theorem W5(ini:List Iv)(y x:Iv):W2 (ini++[y]) x=if x.lo≤y.hi+1 then ini++[⟨y.lo,if y.hi<x.hi then x.hi else y.hi⟩]else ini++[y]++[x]:=by simp[W2]
theorem z15(s:List Iv)(x y:Iv):y∈Z4 s x↔y=x∨y∈s:=by
 have:(s.take (Yl s x s.length)++s.drop (Yl s x s.length))=s:=xY _ _;rw[Z4,yH,yP]
 conv=>rhs;rw[←this,yH]
 constructor<;>rintro(h|h|h)<;>simp[h]
theorem Kq:∀(l acc:List Iv) (y:Iv),y∈l.foldl Z4 acc↔y∈acc∨y∈l
 |[],acc,y=>by simp
 |x::r,acc,y=>by
  rw[x_,Kq r,z15,yP];constructor
  ·rintro((h|h)|h)<;>simp[h]
  ·rintro(h|h|h)<;>simp[h]
theorem u0v(l:List Iv)(y:Iv):y∈E3 l↔y∈l:=by rw[E3,Kq];simp
attribute [local irreducible] E3
theorem u0e(l:List Iv)(hl:l.length≤1000000000)(zk:∀y∈l,U5 y):PC Tryz.prog 128 [LIv l] (fun r=>r=LIv (Ej l)):=by
 refine Ql tOk Tryz.func128 rfl Tryz.results128 rfl (by simp[Tryz.ntmps128]) ?_;rw[Tryz.ntmps128];simp only[Qg];repeat first|(refine r_ ?_;simp)|refine q_ ?_
 refine Qe rfl rfl (by simp) (d0w l hl) rfl ?_;rintro _ rfl;simp;repeat first|(refine r_ ?_;simp)|refine q_ ?_
 have hl':(E3 l).length≤1000000000:=by rw[Ge];exact hl
 have z8:∀y∈E3 l,U5 y:=fun y hy=>zk y ((u0v l y).1 hy);unfold Ej;generalize E3 l=s at hl' z8 ⊢;refine Q6 4 187 2 rfl ?_;simp;refine Qo (Qc (sl':=[(3,LIv s),(4,.sl 0 2 0 0),(5,.i 0)]) ?_ (by simp));refine Qp (F:=fun(u:Nat×Nat×List AObj)=>⟨[(3,LIv s),(4,.sl u.2.1 2 0 (Qy [] (s.take u.1)).length),(5,.i u.1)],u.2.2⟩)
  (fun u=>u.1≤s.length∧u.2.2[u.2.1]? =some (.arr 187 2 ((Qy [] (s.take u.1)).map encIv))) (fun u=>s.length - u.1) ?_ (0,0,[.arr 187 2 []]) ⟨by simp,rfl⟩
 rintro⟨j,q,H2⟩ ⟨hj,g1⟩ ih;simp only at hj g1 ih ⊢;repeat first|(refine r_ ?_;simp)|refine q_ ?_
 refine Qa rfl (fun zl=> ?_) (fun zm=> ?_)
 ·have z1:j<s.length:=by simpa using zl
  have hw:IntKind.i64.wrap ((j:Int)+1)=j+1:=wrap_i64 _ (by omega) (by omega);have zc:(Qy [] (s.take j)).length≤1000000000:=yW (Rc _ _) (by simp;omega);have zd:∀y∈Qy [] (s.take j),U5 y:=Iq _ _ (by simp) (fun y hy=>z8 y (List.mem_of_mem_take hy));have zh:Qy [] (s.take (j+1))=W2 (Qy [] (s.take j)) s[j]:=by rw[zY z1,Uj]
  have z6:∀(q':Nat) (H':List AObj),H'[q']? =some (.arr 187 2 ((W2 (Qy [] (s.take j)) s[j]).map encIv))→_:=fun q' H' h=>ih (j+1,q',H') ⟨by simp;omega,by rw[zh];exact h⟩ (by simp;omega);clear ih;simp only[zh]at z6;generalize Qy [] (s.take j)=acc at g1 zc zd z6 ⊢;repeat first|(refine r_ ?_;simp)|refine q_ ?_
  rcases wS acc with rfl|⟨ini,y,rfl⟩
  ·have zi:IntKind.i64.wrap (-1)= -1:=by decide
   repeat first|(refine r_ ?_;simp[zi])|refine q_ ?_
   refine Qk tOk mixed [] (.val 0 (.val 1 (.val 2 (.val 3 (.val 4 (.val 5 (.val 6 (.val 7 (.val 8 (.val 9 (.val 10 (.val 11 (.val 12 (.val 13 (.val 14 (.val 15 (.done))))))))))))))))) rfl (by kernel_rfl) ?_;simp[zi,z1,g1];refine Qm rfl ?_;simp;repeat first|(refine r_ ?_;simp[z1,g1])|refine q_ ?_
   refine Qf tOk rfl rfl U6 rfl A7 rfl (by decide) (by decide) rfl rfl rfl ?_;simp[Qb g1,Qj g1];refine⟨by simp[Wk,Qb g1,Qj g1]<;>omega,?_⟩;repeat first|(refine r_ ?_;simp[hw])|refine q_ ?_
   exact Qc (sl':=[(3,LIv s),(4,.sl (H2.length+1) 2 0 1),(5,.i (j+1:Nat))]) (z6 (H2.length+1) _ (by rw[zL (by simp)];simp[W2])) (by simp)
  ·have hy:=zd y (by simp);have zn:=(W7 _).1 hy.2;have zj:IntKind.i64.wrap (y.hi+1)=y.hi+1:=wrap_i64 _ (by omega) (by omega);rw[wT]at g1 zc zd z6 ⊢;have hlen:(ini++[y]).length=ini.length+1:=by simp
   rw[hlen]at zc ⊢;have zb:IntKind.i64.wrap (ini.length:Int)=ini.length:=wrap_i64 _ (by omega) (by omega);have hg:((ini++[y]).map encIv)[ini.length]? =some (encIv y):=by simp
   have z7:(ini.length:Int)<ini.length+1:=by omega
   repeat first|(refine r_ ?_;simp[zb])|refine q_ ?_
   have za:¬((ini.length:Int)<0):=by omega
   refine Qk tOk mixed [] (.val 0 (.val 1 (.val 2 (.val 3 (.val 4 (.val 5 (.val 6 (.val 7 (.val 8 (.val 9 (.val 10 (.val 11 (.val 12 (.val 13 (.val 14 (.val 15 (.done))))))))))))))))) rfl (by kernel_rfl) ?_;simp[z1,g1,zb,hg,zj,z7,za];rw[W5]at z6;refine Qa rfl (fun h1=> ?_) (fun h1=> ?_)
   ·have ze:¬(s[j].lo≤y.hi+1):=by simp at h1;omega
    rw[if_neg ze]at z6;repeat first|(refine r_ ?_;simp[z1,g1])|refine q_ ?_
    refine Qf tOk rfl rfl U6 rfl A7 rfl (by decide) (by decide) rfl rfl rfl ?_;simp[Qb g1,Qj g1];refine⟨by simp[Wk,Qb g1,Qj g1]<;>omega,?_⟩;repeat first|(refine r_ ?_;simp[hw])|refine q_ ?_
    exact Qc (sl':=[(3,LIv s),(4,.sl (H2.length+1) 2 0 (ini.length+1+1)),(5,.i (j+1:Nat))]) (by
     have:=z6 (H2.length+1) (H2.set q .dead++[.arr 187 2 [encIv s[j]],.arr 187 2 ((ini++[y]++[s[j]]).map encIv)]) (by rw[zL (by simp)];simp);simpa using this) (by simp)
   ·have ze:s[j].lo≤y.hi+1:=by simp at h1;omega
    rw[if_pos ze]at z6;repeat first|(refine r_ ?_;simp)|refine q_ ?_
    refine Qk tOk mixed [] (.val 0 (.val 1 (.val 2 (.val 3 (.val 4 (.val 5 (.val 6 (.val 7 (.val 8 (.val 9 (.val 10 (.done)))))))))))) rfl (by kernel_rfl) ?_;simp[z1,g1,zb,hg,zj,z7,za];refine Qa rfl (fun h2=> ?_) (fun h2=> ?_)
    ·have zf:y.hi<s[j].hi:=by simpa using h2
     rw[if_pos zf]at z6;repeat first|(refine r_ ?_;simp[z1,g1,hg,zb,z7,hw])|refine q_ ?_
     exact Qc (sl':=[(3,LIv s),(4,.sl q 2 0 (ini.length+1)),(5,.i (j+1:Nat))]) (by
      have:=z6 q (H2.set q (.arr 187 2 ((ini++[(⟨y.lo,s[j].hi⟩:Iv)]).map encIv))) (Qh g1 _);simpa using this) (by simp)
    ·have zf:¬(y.hi<s[j].hi):=by simpa using h2
     rw[if_neg zf]at z6;repeat first|(refine r_ ?_;simp[hw])|refine q_ ?_
     exact Qc (sl':=[(3,LIv s),(4,.sl q 2 0 (ini.length+1)),(5,.i (j+1:Nat))]) (by
      have:=z6 q H2 g1;simpa using this) (by simp)
 ·have zg:j=s.length:=by simp at zm;omega
  subst zg;rw[xB]at g1;repeat first|(refine r_ ?_;simp[g1])|refine q_ ?_
  rw[zV (by simp)]
end Go.Abs
namespace Go.Abs
open Go Go.Proofs
attribute [local irreducible] Ej
def y20(l:List Iv):AV:=if d0j l=0 then .tup [LIv (Ej l),.i 0]else .tup [.list [],.i (d0j l)]
attribute [local irreducible] Sf
theorem x1v(a b c d:Int):eqA T 9 187 (.agg [.int .i64 a,.int .i64 b]) (.agg [.int .i64 c,.int .i64 d])=some (a==c && b==d):=by simp[eqA,Ye,Hc,TI.agg]
theorem k15(a b:List Iv):PC Tryz.prog 133 [LIv a,LIv b] (fun r=>r= .bool (decide (a=b))):=by
 refine Ql tOk Tryz.func133 rfl Tryz.results133 rfl (by simp[Tryz.ntmps133]) ?_;rw[Tryz.ntmps133];simp only[Qg];refine Yo 0 rfl (fun hlen=> ?_);rw[yO]at hlen;repeat first|(refine r_ ?_;simp)|refine q_ ?_
 refine Qa rfl (fun h=> ?_) (fun h=> ?_)
 ·repeat first|(refine r_ ?_;simp)|refine q_ ?_
  have:a≠b:=fun e=>by subst e;simp at h
  simp[this]
 have zc:a.length=b.length:=by simp at h;omega
 repeat first|(refine r_ ?_;simp)|refine q_ ?_
 refine Qu a.length (fun j=>decide (a=b)=decide (a.drop j=b.drop j)) (fun j=>[(0,LIv a),(1,LIv b),(5,.i j)]) (fun _=>[]) rfl (by simp) (by simp) (by simp) (by simp) (by simp) ?_;intro j hj hI ih;repeat first|(refine r_ ?_;simp)|refine q_ ?_
 refine Qa rfl (fun za=> ?_) (fun zb=> ?_)
 ·have z1:j<a.length:=by simpa using za
  have z6:j<b.length:=by omega
  have z7:(j:Int)<b.length:=by omega
  have hw:IntKind.i64.wrap ((j:Int)+1)=j+1:=wrap_i64 _ (by omega) (by omega);rw[Ea z1,Ea z6]at hI;repeat first|(refine r_ ?_;simp)|refine q_ ?_
  refine Qk tOk mixed [] (.val 0 (.val 1 (.val 2 (.val 3 (.val 4 (.val 5 (.val 6 (.val 7 (.val 8 (.done)))))))))) rfl (by kernel_rfl) ?_;simp[z1,z6,z7,x1v];refine Qa rfl (fun h2=> ?_) (fun h2=> ?_)
  ·repeat first|(refine r_ ?_;simp)|refine q_ ?_
   have:a≠b:=fun e=>by subst e;simp at h2
   simp[this]
  ·repeat first|(refine r_ ?_;simp[hw])|refine q_ ?_
   have he:a[j]=b[j]:=by cases hx:a[j];cases hy:b[j];rw[hx,hy]at h2;simpa using h2
   refine Qs _ (ih z1 ?_) rfl (by simp) ?_ (by simp) (by simp)
   ·rw[hI,he];simp only[List.cons.injEq,true_and]
   ·simp
 ·have z8:j=a.length:=by simp at zb;omega
  subst z8;rw[ws,List.drop_of_length_le (by omega)]at hI;repeat first|(refine r_ ?_;simp)|refine q_ ?_
  simpa using hI
theorem f1j(l:List Iv):PC Tryz.prog 112 [LIv l] (fun r=>r= .bool (decide ((l.length:Int)≤12))):=by refine Ql tOk Tryz.func112 rfl Tryz.results112 rfl (by simp[Tryz.ntmps112]) ?_;rw[Tryz.ntmps112];simp only[Qg];repeat first|(refine r_ ?_;simp)|refine q_ ?_
end Go.Abs
namespace Go.Abs
open Go Go.Proofs
attribute [simp] T74
@[simp] def encL (l:List Iv):AV:= .list (l.map encIv)
def y2l(l:List Iv):Bool:= !((decide ((12:Int)<l.length) && decide ((l.length:Int)≤254)) || decide ((258:Int)<l.length))
def x2z(ls:List (List Iv)):Bool:=ls.all y2l
def f1q(l:List Iv):Bool:=decide ((l.length:Int)≤12) && decide (ckR l=0)
def y28(ls:List (List Iv)):Bool:=ls.all f1q
attribute [local irreducible] ckR
end Go.Abs
namespace Go.Abs
open Go Go.Proofs
structure CanonL (l:List Iv):Prop where
 len:l.length≤256
 one:∀y∈l,Sf y=0
 gap:∀j,∀h:j+1<l.length,l[j].hi+2≤l[j+1].lo
theorem Vt{l:List Iv}{j:Nat}{x:Iv}(h:j<l.length)(hi:U5 l[j]):d0g l (j+1) x=decide (x.lo<l[j].hi+2):=by have h1:=(W7 _).1 hi.2;have:W (l[j].hi+2)=l[j].hi+2:=wrap_i64 _ (by omega) (by omega);simp[d0g,h,this]
theorem F6(l:List Iv)(hl:l.length≤256):∀(n j:Nat),l.length - j=n→j≤l.length→(∀h:0<j,∀h':j - 1<l.length,Sf l[j - 1]=0)→(Ip l j (l.drop j)=0↔(∀i,j≤i→∀h:i<l.length,Sf l[i]=0)∧∀i,j≤i+1→∀h:i+1<l.length,l[i].hi+2≤l[i+1].lo)
 |0,j,hn,hj,_=>by
  have:j=l.length:=by omega
  subst this;rw[ws,Ip];exact⟨fun _=>⟨fun i h1 h2=>by omega,fun i h1 h2=>by omega⟩,fun _=>rfl⟩
 |n+1,j,hn,hj,hp=>by
  have z6:j<l.length:=by omega
  rw[Ea z6,Ip];by_cases h1:(Sf l[j] != 0)=true
  ·rw[if_pos h1];have z1:Sf l[j]≠0:=by simpa using h1
   exact⟨fun h=>absurd h z1,fun h=>absurd (h.1 j (zW _) z6) z1⟩
  ·rw[if_neg h1];have z1:Sf l[j]=0:=by simpa using h1
   have ih:=F6 l hl n (j+1) (by omega) (by omega) (fun _ _=>z1);by_cases h2:d0g l j l[j]=true
   ·rw[if_pos h2];refine⟨fun h=>(by cases h),fun h=> ?_⟩;rcases j with _|j
    ·simp[d0g]at h2
    ·have hq:Sf l[j]=0:=hp (by omega) (by simp;omega);rw[Vt (by omega) (Ck hq).1]at h2;have:=h.2 j (zW _) z6;simp at h2;omega
   ·rw[if_neg h2,ih];constructor
    ·rintro⟨a,b⟩;refine⟨fun i hi h=> ?_,fun i hi h=> ?_⟩
     ·by_cases e:i=j
      ·subst e;exact z1
      ·exact a i (by omega) h
     ·by_cases e:j=i+1
      ·subst e;have hq:Sf l[i]=0:=hp (by omega) (by simp;omega);rw[Vt (by omega) (Ck hq).1]at h2;simp at h2;exact h2
      ·exact b i (by omega) h
    ·rintro⟨a,b⟩;exact⟨fun i hi h=>a i (by omega) h,fun i hi h=>b i (by omega) h⟩
theorem Xj(l:List Iv):ckR l=0↔CanonL l:=by
 rw[ckR];by_cases h:decide ((256:Int)<l.length)=true
 ·rw[if_pos h];simp at h;exact⟨fun e=>(by cases e),fun e=>(by have:=e.len;omega)⟩
 ·rw[if_neg h];simp at h;have hl:l.length≤256:=by omega
  have:=F6 l hl l.length 0 rfl (Nat.zero_le _) (fun h=>by omega);rw[List.drop_zero]at this;rw[this];constructor
  ·rintro⟨a,b⟩;refine⟨hl,fun y hy=> ?_,fun j h=>b j (by omega) h⟩;obtain⟨i,hi,rfl⟩:=xE hy;exact a i (by omega) hi
  ·rintro⟨_,a,b⟩;exact⟨fun i _ h=>a _ (zT h),fun i _ h=>b i h⟩
theorem CanonL.iv{l:List Iv}(h:CanonL l){j:Nat}(hj:j<l.length): -1099511627776≤l[j].lo∧l[j].lo≤l[j].hi∧l[j].hi≤1099511627776:=by obtain⟨⟨h1,h2⟩,h3⟩:=Ck (h.one _ (zT hj));have:=(W7 _).1 h1;have:=(W7 _).1 h2;omega
def w2v:List Iv→Int
 |[]=>0
 |x::r=>(x.hi - x.lo+1)+w2v r
attribute [local irreducible] ckR
end Go.Abs
namespace Go.Abs
open Go Go.Proofs
attribute [local irreducible] ckR
def v0k(a b:List Iv):Int:=if ckR a=0 then ckR b else ckR a
def y26(l:List Iv):AV:=if l.length≤256 then .tup [LIv l,.i 0]else .tup [.list [],.i 5]
def v1b:List Iv→Int→Int×Int
 |[],_=>(0,2)
 |x::r,i=>if i<x.hi - x.lo+1 then(x.lo+i,0)else v1b r (i - (x.hi - x.lo+1))
def atR(l:List Iv)(i:Int):Int×Int:=if ckR l=0 then(if i<0 then(0,2)else v1b l i)else(0,ckR l)
def M9(x:Iv)(n:Int):Int:=if x.hi<n then -1 else if n<x.lo then 1 else 0
theorem k0n(x:Iv)(n:Int):PC Tryz.prog 205 [encIv x,.i n] (fun r=>r= .i (M9 x n)):=by
 refine Ql tOk Tryz.func205 rfl Tryz.results205 rfl (by simp[Tryz.ntmps205]) ?_;rw[Tryz.ntmps205];simp only[Qg];simp only[encIv];repeat first|(refine r_ ?_;simp)|refine q_ ?_
 refine Qa rfl (fun h=> ?_) (fun h=> ?_)
 ·repeat first|(refine r_ ?_;simp)|refine q_ ?_
  rw[M9,if_pos (by simpa using h)]
 repeat first|(refine r_ ?_;simp)|refine q_ ?_
 refine Qa rfl (fun h2=> ?_) (fun h2=> ?_)
 ·repeat first|(refine r_ ?_;simp)|refine q_ ?_
  rw[M9,if_neg (by simpa using h),if_pos (by simpa using h2)]
 repeat first|(refine r_ ?_;simp)|refine q_ ?_
 rw[M9,if_neg (by simpa using h),if_neg (by simpa using h2)]
def O0(l:List Iv)(n:Int):Bool:=l.any fun x=>decide (x.lo≤n) && decide (n≤x.hi)
theorem Oi{l:List Iv}(hc:CanonL l):∀ {i j:Nat},i<j→∀(hj:j<l.length),∀(hi:i<l.length),l[i].hi+2≤l[j].lo:=by
 intro i j z1 hj hi;obtain⟨d,rfl⟩:∃d,j=i+1+d:=⟨j - (i+1),by omega⟩
 induction d with
 |zero=>exact hc.gap i hj
 |succ d ih=>
  have h1:=ih (by omega) (by omega);have h2:=hc.gap (i+1+d) (by omega);have h3:=hc.iv (show i+1+d<l.length by omega);have h4:i+1+(d+1)=i+1+d+1:=by omega
  simp only[h4];omega
theorem G6(x:Iv)(n:Int):M9 x n<0↔x.hi<n:=by
 unfold M9;by_cases h:x.hi<n
 ·rw[if_pos h];simp[h]
 ·rw[if_neg h];by_cases h2:n<x.lo
  ·rw[if_pos h2];simp[h]
  ·rw[if_neg h2];simp[h]
theorem c05(x:Iv)(n:Int):M9 x n=0↔x.lo≤n∧n≤x.hi:=by
 unfold M9;by_cases h:x.hi<n
 ·rw[if_pos h];constructor<;>intro h'<;>omega
 ·rw[if_neg h];by_cases h2:n<x.lo
  ·rw[if_pos h2];constructor<;>intro h'<;>omega
  ·rw[if_neg h2];constructor<;>intro h'<;>omega
theorem d1q{i j m:Nat}(hm:(i+j) / 2=m)(h:i+j≤1000000000):IntKind.i64.wrap ((IntKind.u64.wrap ((i:Int)+j)).fdiv (2 ^ min 1 IntKind.u64.bits))=m:=by
 have h1:IntKind.u64.wrap ((i:Int)+j)=i+j:=by simp[IntKind.wrap,IntKind.bits,IntKind.signed];omega
 have h2:min 1 IntKind.u64.bits=1:=by decide
 rw[h1,h2,Int.fdiv_eq_ediv_of_nonneg _ (by decide),wrap_i64 _ (by omega) (by omega)];omega
attribute [local irreducible] M9
theorem Xp(l:List Iv)(n:Int)(hc:CanonL l):PC Tryz.prog 204 [LIv l,.i n,.fn (.func 205) [] []] (fun r=>∃k:Int,r= .tup [.i k,.bool (O0 l n)]):=by
 refine Ql tOk Tryz.func204 rfl Tryz.results204 rfl (by simp[Tryz.ntmps204]) ?_;rw[Tryz.ntmps204];simp only[Qg];have hlen:=hc.len;repeat first|(refine r_ ?_;simp)|refine q_ ?_
 refine Qo (Qc (sl':=[(0,LIv l),(1,.i n),(2,.fn (.func 205) [] []),(8,.i l.length),(9,.i 0),(10,.i l.length)]) ?_ (by simp));refine Qp (F:=fun(u:Nat×Nat)=>⟨[(0,LIv l),(1,.i n),(2,.fn (.func 205) [] []),(8,.i l.length),(9,.i u.1),(10,.i u.2)],[]⟩) (fun u=>u.1≤u.2∧u.2≤l.length∧(∀k,k<u.1→∀hk:k<l.length,M9 l[k] n<0)∧(∀k,u.2≤k→∀hk:k<l.length,¬M9 l[k] n<0)) (fun u=>u.2 - u.1) ?_ (0,l.length) ⟨by simp,by simp,fun k hk=>by simp at hk,fun k hk z1=>by simp only at hk;omega⟩;rintro⟨i,j⟩ ⟨h1,h2,h3,h4⟩ ih;simp only at h1 h2 h3 h4 ih ⊢;repeat first|(refine r_ ?_;simp)|refine q_ ?_
 refine Qa rfl (fun zd=> ?_) (fun ze=> ?_)
 ·have zf:i<j:=by simpa using zd
  have hw:IntKind.i64.wrap ((i:Int)+j)=i+j:=wrap_i64 _ (by omega) (by omega);obtain⟨m,hm⟩:∃m,(i+j) / 2=m:=⟨_,rfl⟩
  have z8:IntKind.i64.wrap ((IntKind.u64.wrap ((i:Int)+j)).fdiv (2 ^ min 1 IntKind.u64.bits))=m:=d1q hm (by omega);have z6:m<l.length:=by omega
  have za:(m:Int)<l.length:=by omega
  have zg:IntKind.i64.wrap ((m:Int)+1)=m+1:=wrap_i64 _ (by omega) (by omega);repeat first|(refine r_ ?_;simp[hw,z8,z6,za])|refine q_ ?_
  refine Qe rfl rfl (by simp) (k0n l[m] n) rfl ?_;rintro _ rfl;simp;refine Qa rfl (fun h5=> ?_) (fun h5=> ?_)
  ·repeat first|(refine r_ ?_;simp[zg])|refine q_ ?_
   refine Qc (sl':=[(0,LIv l),(1,.i n),(2,.fn (.func 205) [] []),(8,.i l.length),(9,.i (m+1:Nat)),(10,.i j)]) (ih (m+1,j) ⟨by simp only;omega,h2,fun k hk z1=> ?_,h4⟩ (by simp only;omega)) (by simp);have zh:=hc.iv z1;have zi:=hc.iv z6;have z7:M9 l[m] n<0:=by simpa using h5
   by_cases e:k=m
   ·subst e;exact z7
   ·have:=Oi hc (show k<m by omega) z6 z1;rw[G6]at z7 ⊢;omega
  ·repeat first|(refine r_ ?_;simp)|refine q_ ?_
   refine Qc (sl':=[(0,LIv l),(1,.i n),(2,.fn (.func 205) [] []),(8,.i l.length),(9,.i i),(10,.i m)]) (ih (i,m) ⟨by simp only;omega,by simp only;omega,h3,fun k hk z1=> ?_⟩ (by simp only;omega)) (by simp);have zh:=hc.iv z1;have zi:=hc.iv z6;have z7:¬M9 l[m] n<0:=by simpa using h5
   by_cases e:k=m
   ·subst e;exact z7
   ·have:=Oi hc (show m<k by omega) z1 z6;rw[G6]at z7 ⊢;omega
 ·have zb:i=j:=by simp at ze;omega
  subst zb;by_cases hil:i<l.length
  ·repeat first|(refine r_ ?_;simp[hil])|refine q_ ?_
   refine Qe rfl rfl (by simp) (k0n l[i] n) rfl ?_;rintro _ rfl;simp;repeat first|(refine r_ ?_;simp)|refine q_ ?_
   have hh:O0 l n=(M9 l[i] n==0):=by
    rw[wO,beq_iff_eq,c05,O0,vK];constructor
    ·rintro⟨x,hx,zc⟩;obtain⟨k,hk,rfl⟩:=xE hx;simp at zc;have e:k=i:=by
      by_cases e1:k<i
      ·have:=(G6 _ _).1 (h3 k e1 hk);omega
      ·by_cases e2:i<k
       ·have:=Oi hc e2 hk hil;have:¬l[i].hi<n:=fun e=>h4 i (zW _) hil ((G6 l[i] n).2 e);omega
       ·omega
     subst e;exact zc
    ·intro h;exact⟨l[i],zT hil,by simpa using h⟩
   rw[hh]
  ·repeat first|(refine r_ ?_;simp[hil])|refine q_ ?_
   refine Q4 rfl rfl ?_;simp;repeat first|(refine r_ ?_;simp)|refine q_ ?_
   have hh:O0 l n=false:=by rw[O0,vN];intro x hx;obtain⟨k,hk,rfl⟩:=xE hx;have:=(G6 _ _).1 (h3 k (by omega) hk);simp;intro _;omega
   rw[hh]
theorem f1f(l:List Iv)(n:Int)(hc:CanonL l):PC Tryz.prog 192 [LIv l,.i n] (fun r=>r= .bool (O0 l n)):=by
 refine Ql tOk Tryz.func192 rfl Tryz.results192 rfl (by simp[Tryz.ntmps192]) ?_;rw[Tryz.ntmps192];simp only[Qg];repeat first|(refine r_ ?_;simp)|refine q_ ?_
 refine Qe rfl rfl (by simp) (Xp l n hc) rfl ?_;rintro _ ⟨k,rfl⟩;simp;repeat first|(refine r_ ?_;simp)|refine q_ ?_
attribute [local irreducible] O0
def y1o(l:List Iv)(n:Int):Bool×Int:=if ckR l=0 then(O0 l n,0)else(false,ckR l)
theorem Hl(l:List Iv)(n:Int):PC Tryz.prog 158 [LIv l,.i n] (fun r=>r= .tup [.bool (y1o l n).1,.i (y1o l n).2]):=by
 refine Ql tOk Tryz.func158 rfl Tryz.results158 rfl (by simp[Tryz.ntmps158]) ?_;rw[Tryz.ntmps158];simp only[Qg];repeat first|(refine r_ ?_;simp)|refine q_ ?_
 refine Qe rfl rfl (by simp) (q05 l) rfl ?_;rintro _ rfl;simp;repeat first|(refine r_ ?_;simp)|refine q_ ?_
 refine Qa rfl (fun h=> ?_) (fun h=> ?_)
 ·repeat first|(refine r_ ?_;simp)|refine q_ ?_
  rw[y1o,if_neg (by simpa using h)];exact⟨rfl,rfl⟩
 have h0:ckR l=0:=by simpa using h
 repeat first|(refine r_ ?_;simp)|refine q_ ?_
 refine Qe rfl rfl (by simp) (f1f l n ((Xj l).1 h0)) rfl ?_;rintro _ rfl;simp;repeat first|(refine r_ ?_;simp)|refine q_ ?_
 rw[y1o,if_pos h0];exact⟨rfl,rfl⟩
end Go.Abs
namespace Go.Abs
open Go Go.Proofs
attribute [local irreducible] ckR
def w20(d:Int)(x:Iv):Option Iv:=
 let a:=if x.lo+d< -1099511627776 then -1099511627776 else x.lo+d
 let b:=if 1099511627776<x.hi+d then 1099511627776 else x.hi+d
 if a≤b then some ⟨a,b⟩else none
def y2n(l:List Iv)(d:Int):List Iv×Int:=if ckR l=0 then(if d< -2199023255552∨2199023255552<d then([],0)else(l.filterMap (w20 d),0))else([],ckR l)
end Go.Abs
namespace Go.Abs
open Go Go.Proofs
def y2s(ls:List (List Iv)):List Iv:=ls.flatten
attribute [local irreducible] y2s
end Go.Abs
namespace Go.Abs
open Go Go.Proofs Go.RowKit Go.Shelf Go.Lib Go.Sort
def R8(zs:List Int):List Int:=zs.mergeSort fun x y=>decide (x≤y)
theorem Iz(zs:List Int):(R8 zs).length=zs.length:=by simp[R8]
theorem Km(H:List AObj)(p:Nat)(zs:List Int)(hp:H[p]? =some (.arr 3 1 (zs.map (AV.int .i64))))(hl:zs.length≤1000000):
  FC Tryz.prog 176 [.sl p 1 0 zs.length] H (fun r H'=>r= .tup []∧H'=H.set p (.arr 3 1 ((R8 zs).map (AV.int .i64)))):=by
 refine(f0n (xs:=zs.map (AV.int .i64)) (rest:=[]) (T7 Tryz.func176 rfl rfl) (by simp) hp (w2h zs) [] (fun w I m vs a b=>by simpa using a) (fun z1=>z1=(R8 zs).map (AV.int .i64)) ?_ ?_).mono ?_
 ·intro b cap w hH hb hc;have:=Tryz.slices_Sort_int b 0 cap zs w (C3 hH) hb (by omega);refine Calls.mono (by simpa using this) ?_;rintro e w' ⟨rfl,n,os,rfl⟩;exact⟨rfl,_,((R8 zs).map (Value.int .i64)).toArray,n,os,rfl,by simp[Iz],w2h _,by rw[J6];rfl⟩
 ·rintro h;have z6:zs=[]:=by simpa using h
  subst z6;exact⟨by simp[R8],fun w=>by simpa using Tryz.slices_Sort_int_none none 0 w⟩
 ·rintro r H' ⟨rfl,z1,rfl,rfl⟩;exact⟨rfl,rfl⟩
theorem Ag(H:List AObj)(p:Nat)(zs:List Int)(hp:H[p]? =some (.arr 3 1 (zs.map (AV.int .i64))))(hl:zs.length≤1000000)(z6:(Lib.compact zs).length≤zs.length):
  FC Tryz.prog 177 [.sl p 1 0 zs.length] H (fun r H'=>r= .sl p 1 0 (Lib.compact zs).length∧∃G:List Int,H'=H.set p (.arr 3 1 ((Lib.compact zs++G).map (AV.int .i64)))):=by
 refine(u1q (xs:=zs.map (AV.int .i64)) (T7 Tryz.func177 rfl rfl) (by simp) hp (w2h zs) (fun z1 n=>n=(Lib.compact zs).length∧∃G:List Int,z1=(Lib.compact zs++G).map (AV.int .i64)) (fun ys n h=>by rw[h.1];exact z6) ?_ ?_).mono ?_
 ·intro b cap w hH hb hc hm;have:=Tryz.slices_Compact_int b 0 cap zs w (C3 hH) (by omega) hc;refine Calls.mono (by simpa using this) ?_;rintro e w' ⟨rfl,q,rfl⟩;exact⟨_,((Lib.compact zs++yB (zs.length - (Lib.compact zs).length) 0).map (Value.int .i64)).toArray,q,_,rfl,⟨rfl,_,rfl⟩,by simp;omega,w2h _,by rw[←J6]⟩
 ·rintro h;have z7:zs=[]:=by simpa using h
  subst z7;exact⟨⟨rfl,[],rfl⟩,fun w=>by simpa using Tryz.slices_Compact_int_empty none 0 w⟩
 ·rintro r H' ⟨z1,n,rfl,⟨rfl,G,rfl⟩,rfl⟩;exact⟨rfl,G,rfl⟩
end Go.Abs
namespace Go.Abs
open Go Go.Proofs
attribute [simp] T40
def Mb:List Iv→List Int
 |[]=>[]
 |x::r=>x.lo::(x.hi+1)::Mb r
theorem q0v:∀(l:List Iv) (x:Iv),Mb (l++[x])=Mb l++[x.lo,x.hi+1]
 |[],x=>rfl
 |y::r,x=>by rw[vZ,Mb,q0v r,Mb];rfl
theorem c0b:∀(l:List Iv),(Mb l).length=2 * l.length
 |[]=>rfl
 |x::r=>by rw[Mb,yY,yY,c0b r,yY];omega
def u01(l:List Iv):List Int:=Lib.compact (R8 (Mb l))
def x13(f:Int→Bool):List Int→List Iv→List Iv
 |c::d::r,acc=>x13 f (d::r) (if f c=true then W2 acc ⟨c,d - 1⟩else acc)
 |_,acc=>acc
def Mq(op:Bool→Bool→Bool)(a b:List Iv):List Iv:=x13 (fun n=>op (O0 a n) (O0 b n)) (u01 (a++b)) []
theorem U0(zs:List Int):(Lib.compact zs).length≤zs.length:=by unfold Lib.compact Lib.compactUpTo;rw[yO];exact yW (xX _ _) (by simp)
attribute [local irreducible] ckR O0 y2s W2 R8 Lib.compact Mb
end Go.Abs
namespace Go.Abs
open Go Go.Proofs
attribute [local irreducible] ckR Mq
def k1i(x y:Bool):Bool:=x && !y
def d1f(op:Bool→Bool→Bool)(a b:List Iv):AV:=if v0k a b=0 then y26 (Mq op a b)else .tup [.list [],.i (v0k a b)]
attribute [local irreducible] v0k
attribute [local irreducible] d1f
end Go.Abs
namespace Go.Abs
theorem push_comm(acc:List Iv)(x y:Iv)(h:x.lo=y.lo)(hx:x.lo≤x.hi)(hy:y.lo≤y.hi):W2 (W2 acc x) y=W2 (W2 acc y) x:=by
 have one:∀(u v:Iv),u.lo=v.lo→u.lo≤u.hi→∀ini:List Iv,W2 (ini++[u]) v=ini++[⟨u.lo,if u.hi<v.hi then v.hi else u.hi⟩]:=fun u v z6 hu ini=>by rw[W5,if_pos (by omega)]
 rcases wS acc with rfl|⟨ini,z,rfl⟩
 ·have e1:W2 [] x=[]++[x]:=rfl;have e2:W2 [] y=[]++[y]:=rfl;rw[e1,e2,one x y h hx,one y x h.symm hy,h]
  congr 3
  split<;>split<;>omega
 ·rw[wT];by_cases hz:x.lo≤z.hi+1
  ·have z1:∀(w u:Iv),u.lo≤w.hi+1→W2 (ini++[w]) u=ini++[⟨w.lo,if w.hi<u.hi then u.hi else w.hi⟩]:=fun w u h=>by rw[W5,if_pos h]
   rw[z1 z x hz,z1 z y (by omega),z1 _ y (by simp only;split<;>omega),z1 _ x (by simp only;split<;>omega)]
   congr 3
   simp only;repeat split
   all_goals omega
  ·have ap:∀u:Iv,u.lo=x.lo→W2 (ini++[z]) u=ini++[z]++[u]:=fun u h=>by rw[W5,if_neg (by omega)]
   rw[ap x rfl,ap y h.symm,one x y h hx,one y x h.symm hy,h]
   congr 3
   split<;>split<;>omega
theorem Dl:∀(A:List Iv) (acc:List Iv) (x:Iv) (B:List Iv),(∀y∈A,y.lo=x.lo∧y.lo≤y.hi)→x.lo≤x.hi→Qy acc (A++x::B)=Qy acc (x::(A++B))
 |[],acc,x,B,_,_=>rfl
 |y::A,acc,x,B,h,hx=>by have hy:=h y (by simp);have ih:=Dl A (W2 acc y) x B (fun z hz=>h z (by simp[hz])) hx;simp only[Qy,vZ,x_]at ih ⊢;rw[ih,push_comm acc y x hy.1 hy.2 hx]
theorem Hb:∀(l l':List Iv) (acc:List Iv),l.Perm l'→Z3 l→Z3 l'→(∀y∈l,y.lo≤y.hi)→Qy acc l=Qy acc l'
 |[],l',acc,hp,_,_,_=>by rw[hp.nil_eq]
 |x::l,l',acc,hp,h1,h2,hf=>by
  obtain⟨A,B,rfl⟩:=List.append_of_mem (hp.mem_iff.1 (List.mem_cons_self));have z6:l.Perm (A++B):=(List.perm_cons x).1 (hp.trans vR);have hA:∀y∈A,y.lo=x.lo∧y.lo≤y.hi:=fun y hy=>by
   have z1:y∈x::l:=hp.mem_iff.2 (by simp[hy]);have a1:y.lo≤x.lo:=(yS.1 h2).2.2 y hy x (by simp);have a2:x.lo≤y.lo:=by
    rcases yP.1 z1 with rfl|h
    ·exact xF _
    ·exact(yZ.1 h1).1 y h
   exact⟨by omega,hf y z1⟩
  rw[Dl A acc x B hA (hf x (by simp))];have hb:Z3 (A++B):=h2.sublist (List.Sublist.append_left (List.sublist_cons_self x B) A);exact Hb l (A++B) (W2 acc x) z6 (yZ.1 h1).2 hb (fun y hy=>hf y (by simp[hy]))
end Go.Abs
namespace Go.Abs
theorem j08(s:List Iv)(x:Iv):(Z4 s x).Perm (x::s):=by unfold Z4;refine vR.trans ?_;rw[xY]
theorem Gl(s:List Iv)(x:Iv):∀j,j≤s.length→(∀k,Yl s x j≤k→k<j→∀h:k<s.length,x.lo<s[k].lo)∧(∀k,k+1=Yl s x j→∀h:k<s.length,s[k].lo≤x.lo)
 |0,_=>⟨fun k _ h=>by omega,fun k h=>by simp[Yl]at h⟩
 |j+1,hj=>by
  obtain⟨a,b⟩:=Gl s x j (by omega);have hg:f1o s j x=decide (x.lo<s[j].lo):=by simp[f1o,show j<s.length by omega]
  rw[Yl,hg];by_cases h:decide (x.lo<s[j].lo)=true
  ·rw[if_pos h];refine⟨fun k h1 h2 h3=> ?_,b⟩;by_cases e:k=j
   ·subst e;simpa using h
   ·exact a k h1 (by omega) h3
  ·rw[if_neg h];refine⟨fun k h1 h2=>by omega,fun k h1 h2=> ?_⟩;have e:k=j:=by omega
   subst e;simp at h;omega
theorem k0v(s:List Iv)(x:Iv)(hs:Z3 s):Z3 (Z4 s x):=by
 obtain⟨a,b⟩:=Gl s x s.length (zW _);have hq:=Hf s x s.length;unfold Z4;generalize Yl s x s.length=q at a b hq;have z6:∀i j,i<j→∀hi:i<s.length,∀hj:j<s.length,s[i].lo≤s[j].lo:=fun i j h hi hj=>yU.1 hs i j hi hj h;have z7:∀y∈s.take q,y.lo≤x.lo:=fun y hy=>by
  obtain⟨i,hi,rfl⟩:=xE hy;have za:i<q:=by rw[wp]at hi;omega
  rw[tC];have h1:=b (q - 1) (by omega) (by omega);by_cases e:i=q - 1
  ·subst e;exact h1
  ·have:=z6 i (q - 1) (by omega) (by omega) (by omega);omega
 have z8:∀y∈s.drop q,x.lo≤y.lo:=fun y hy=>by obtain⟨i,hi,rfl⟩:=xE hy;rw[List.length_drop]at hi;rw[List.getElem_drop];have:=a (q+i) (by omega) (by omega) (by omega);omega
 have z1:=hs;unfold Z3 at z1 ⊢;rw[←xY q s,yS]at z1;obtain⟨p1,p2,p3⟩:=z1;refine yS.2 ⟨p1,yZ.2 ⟨z8,p2⟩,fun y hy z hz=> ?_⟩;rcases yP.1 hz with rfl|h
 ·exact z7 y hy
 ·exact p3 y hy z h
theorem Ht:∀(l acc:List Iv),Z3 acc→(l.foldl Z4 acc).Perm (acc++l)∧Z3 (l.foldl Z4 acc)
 |[],acc,h=>⟨by simp,h⟩
 |x::r,acc,h=>by obtain⟨a,b⟩:=Ht r (Z4 acc x) (k0v acc x h);refine⟨a.trans ?_,b⟩;exact((j08 acc x).append_right r).trans vR.symm
theorem Ol(l:List Iv):(E3 l).Perm l∧Z3 (E3 l):=by have:=Ht l [] .nil;simpa[E3]using this
end Go.Abs
namespace Go.Abs
def M(l:List Iv)(n:Int):Prop:=∃x∈l,x.lo≤n∧n≤x.hi
def Sep(l:List Iv):Prop:=(∀x∈l,x.lo≤x.hi)∧l.Pairwise (fun x y=>x.hi+2≤y.lo)
theorem B4(n:Int):M [] n↔False:=by simp[M]
theorem Eu(x:Iv)(l:List Iv)(n:Int):M (x::l) n↔(x.lo≤n∧n≤x.hi)∨M l n:=by simp[M]
theorem Lo(a b:List Iv)(n:Int):M (a++b) n↔M a n∨M b n:=by simp[M,or_and_right,exists_or]
theorem N4(l:List Iv)(n:Int):O0 l n=true↔M l n:=by simp[O0,M]
theorem Sep.tail{x:Iv}{l:List Iv}(h:Sep (x::l)):Sep l:=⟨fun y hy=>h.1 y (by simp[hy]),(yZ.1 h.2).2⟩
theorem Sep.low{x:Iv}{l:List Iv}(h:Sep (x::l)){n:Int}(hm:M l n):x.hi+2≤n:=by obtain⟨y,hy,h1,h2⟩:=hm;have:=(yZ.1 h.2).1 y hy;omega
theorem Sep.lowc{x:Iv}{l:List Iv}(h:Sep (x::l)){n:Int}(hm:M (x::l) n):x.lo≤n:=by
 rcases(Eu ..).1 hm with h1|h1
 ·exact h1.1
 ·have:=h.low h1;have:=h.1 x (by simp);omega
theorem g0p:∀(a b:List Iv),Sep a→Sep b→(∀n,M a n↔M b n)→a=b
 |[],[],_,_,_=>rfl
 |[],y::b,_,hb,h=>by have:=(h y.lo).2 ((Eu ..).2 (.inl ⟨xF _,hb.1 y (by simp)⟩));exact absurd this (by simp[M])
 |x::a,[],ha,_,h=>by have:=(h x.lo).1 ((Eu ..).2 (.inl ⟨xF _,ha.1 x (by simp)⟩));exact absurd this (by simp[M])
 |x::a,y::b,ha,hb,h=>by
  have hx:=ha.1 x (by simp);have hy:=hb.1 y (by simp);have e1:x.lo=y.lo:=by have h1:=hb.lowc ((h x.lo).1 ((Eu ..).2 (.inl ⟨xF _,hx⟩)));have h2:=ha.lowc ((h y.lo).2 ((Eu ..).2 (.inl ⟨xF _,hy⟩)));omega
  have e2:x.hi=y.hi:=by
   rcases tI x.hi y.hi with hlt|heq|hgt
   ·rcases(Eu ..).1 ((h (x.hi+1)).2 ((Eu ..).2 (.inl ⟨by omega,by omega⟩)))with h1|h1
    ·omega
    ·have:=ha.low h1;omega
   ·exact heq
   ·rcases(Eu ..).1 ((h (y.hi+1)).1 ((Eu ..).2 (.inl ⟨by omega,by omega⟩)))with h1|h1
    ·omega
    ·have:=hb.low h1;omega
  have e3:x=y:=by cases x;cases y;simp_all
  subst e3;rw[g0p a b ha.tail hb.tail fun n=>⟨fun hm=> ?_,fun hm=> ?_⟩]
  ·have h1:=ha.low hm;rcases(Eu ..).1 ((h n).1 ((Eu ..).2 (.inr hm)))with h2|h2
   ·omega
   ·exact h2
  ·have h1:=hb.low hm;rcases(Eu ..).1 ((h n).2 ((Eu ..).2 (.inr hm)))with h2|h2
   ·omega
   ·exact h2
theorem Hj{l:List Iv}(h:CanonL l):Sep l:=
 ⟨fun x hx=>(Ck (h.one x hx)).2,yU.2 fun _ _ hi hj z1=>Oi h z1 hj hi⟩
theorem Zj{l:List Iv}(h:CanonL l):∀x∈l,U5 x:=fun x hx=>(Ck (h.one x hx)).1
theorem k10{l:List Iv}(h:CanonL l){n:Int}(hm:M l n): -1099511627776≤n∧n≤1099511627776:=by obtain⟨x,hx,h1,h2⟩:=hm;have h3:=Zj h x hx;have h4:=(W7 _).1 h3.1;have h5:=(W7 _).1 h3.2;omega
theorem Gv{l:List Iv}(h:Sep l)(hi:∀x∈l,U5 x)(hl:l.length≤256):CanonL l:=
 ⟨hl,fun y hy=>by
  have h1:=hi y hy;have h2:=h.1 y hy;have h4:=h1.1;have h5:=h1.2;simp[Sf,h4,h5];omega,fun j hj=>yU.1 h.2 j (j+1) (by omega) hj (by omega)⟩
theorem z1t(acc:List Iv)(x:Iv)(ha:Sep acc)(hx:x.lo≤x.hi)(hle:∀y∈acc,y.lo≤x.lo):
  Sep (W2 acc x)∧(∀n,M (W2 acc x) n↔M acc n∨(x.lo≤n∧n≤x.hi))∧(∀z,x.lo≤z→∀y∈W2 acc x,y.lo≤z):=by
 rcases wS acc with rfl|⟨ini,y,rfl⟩
 ·have e:W2 [] x=[x]:=rfl;rw[e];exact⟨⟨fun y hy=>by simp at hy;subst hy;exact hx,by simp⟩,fun n=>by simp[M],fun z hz y hy=>by simp at hy;subst hy;exact hz⟩
 ·rw[wT]at ha hle ⊢;rw[W5];have hy:=ha.1 y (by simp);have z1:=hle y (by simp);obtain⟨p1,p2,p3⟩:=yS.1 ha.2;split
  ·rename_i hj;refine⟨⟨fun z hz=> ?_,yS.2 ⟨p1,by simp,fun u hu v hv=> ?_⟩⟩,fun n=> ?_,fun z hz u hu=> ?_⟩
   ·rcases yH.1 hz with h|h
    ·exact ha.1 z (by simp[h])
    ·simp at h;subst h;simp only;split<;>omega
   ·simp at hv;subst hv;exact p3 u hu y (by simp)
   ·rw[Lo,Lo,Eu,Eu,B4];simp only[or_false];by_cases hm:M ini n
    ·simp[hm]
    ·simp only[hm,false_or];split<;>omega
   ·rcases yH.1 hu with h|h
    ·have:=hle u (by simp[h]);omega
    ·simp at h;subst h;simp only;omega
  ·rename_i hj;refine⟨⟨fun z hz=> ?_,yS.2 ⟨ha.2,by simp,fun u hu v hv=> ?_⟩⟩,fun n=>by rw[Lo,Eu,B4];simp,fun z hz u hu=> ?_⟩
   ·rcases yH.1 hz with h|h
    ·exact ha.1 z h
    ·simp at h;subst h;exact hx
   ·simp at hv;subst hv;rcases yH.1 hu with h|h
    ·have:=p3 u h y (by simp);omega
    ·simp at h;subst h;omega
   ·rcases yH.1 hu with h|h
    ·have:=hle u h;omega
    ·simp at h;subst h;exact hz
theorem Sw:∀(l acc:List Iv),Sep acc→Z3 l→(∀x∈l,x.lo≤x.hi)→(∀y∈acc,∀x∈l,y.lo≤x.lo)→
  Sep (Qy acc l)∧∀n,M (Qy acc l) n↔M acc n∨M l n
 |[],acc,ha,_,_,_=>⟨ha,fun n=>by simp[Qy,M]⟩
 |x::l,acc,ha,hb,hf,hle=>by have hp:=z1t acc x ha (hf x (by simp)) (fun y hy=>hle y hy x (by simp));have ih:=Sw l (W2 acc x) hp.1 (yZ.1 hb).2 (fun y hy=>hf y (by simp[hy])) (fun y hy z hz=>hp.2.2 z.lo ((yZ.1 hb).1 z hz) y hy);refine⟨ih.1,fun n=> ?_⟩;have e:Qy acc (x::l)=Qy (W2 acc x) l:=rfl;rw[e,ih.2 n,hp.2.1 n,Eu,or_assoc]
theorem Lc:Sep []:=⟨by simp,by simp⟩
theorem c13{a b:List Iv}(h:a.Perm b)(n:Int):M a n↔M b n:=by simp only[M];exact⟨fun⟨x,hx,h1⟩=>⟨x,h.mem_iff.1 hx,h1⟩,fun⟨x,hx,h1⟩=>⟨x,h.mem_iff.2 hx,h1⟩⟩
theorem Ur(l:List Iv)(hf:∀x∈l,x.lo≤x.hi):Sep (Ej l)∧∀n,M (Ej l) n↔M l n:=by have hs:=Ol l;have h:=Sw (E3 l) [] Lc hs.2 (fun x hx=>hf x (hs.1.mem_iff.1 hx)) (by simp);refine⟨h.1,fun n=> ?_⟩;rw[Ej,h.2 n,B4,false_or,c13 hs.1]
def pieces(f:Int→Bool):List Int→List Iv
 |c::d::r=>(if f c=true then [⟨c,d - 1⟩]else [])++pieces f (d::r)
 |_=>[]
end Go.Abs
namespace Go.Abs
open Go Go.Proofs
attribute [local irreducible] d1f v0k Mq
def w2r(x y:Bool):Bool:=x || y
def y2j(x y:Bool):Bool:=x && y
def y2g(a b:List Iv):Bool×Int:=if v0k a b=0 then(decide (Mq k1i a b=[]),0)else(false,v0k a b)
end Go.Abs
namespace Go.Abs
open Go Go.Proofs
def Rj:List Iv→Int→List Iv
 |[],n=>if n≤1099511627776 then [⟨n,1099511627776⟩]else []
 |x::r,n=>(if n<x.lo then [⟨n,x.lo - 1⟩]else [])++Rj r (x.hi+1)
def Wv(l:List Iv):List Iv:=Rj l (-1099511627776)
end Go.Abs
namespace Go.Abs
open Go
theorem j0g:∀(l:List Iv) (z:Int),z∈Mb l↔∃x∈l,z=x.lo∨z=x.hi+1
 |[],z=>by simp[Mb]
 |y::r,z=>by rw[Mb,yP,yP,j0g r z];simp[or_assoc]
theorem Vh(zs:List Int)(hs:zs.Pairwise (·≤·)):∀m,m≤zs.length→
  (Lib.compactUpTo zs.toArray m).Pairwise (·<·)∧(∀z,z∈Lib.compactUpTo zs.toArray m↔z∈zs.take m):=by
 intro m;induction m with
 |zero=>exact fun _=>⟨by simp[Lib.compactUpTo],by simp[Lib.compactUpTo]⟩
 |succ m ih=>
  intro hm;obtain⟨h1,h2⟩:=ih (by omega);have z1:m<zs.length:=by omega
  have hg:zs.toArray[m]! =zs[m]:=by simp[z1]
  rw[Lib.compactUpTo_succ];have ht:zs.take (m+1)=zs.take m++[zs[m]]:=by rw[zY z1]
  by_cases hk:Lib.keeps zs.toArray m=true
  ·rw[if_pos hk,hg,ht];refine⟨yS.2 ⟨h1,by simp,fun u hu v hv=> ?_⟩,fun z=>by rw[yH,yH,h2]⟩;simp at hv;subst hv;obtain⟨i,hi,rfl⟩:=xE ((h2 u).1 hu);have za:i<m:=by simp at hi;omega
   rw[tC];have zb:zs[m]≠zs[m - 1]:=by
    simp[Lib.keeps]at hk;have z6:m≠0:=by omega
    have hk:=hk.resolve_left z6;simpa[z1,show m - 1<zs.length by omega]using hk
   have a1:zs[i]≤zs[m - 1]:=by
    rcases Nat.lt_or_ge i (m - 1)with h|h
    ·exact yU.1 hs i (m - 1) (by omega) (by omega) h
    ·have:i=m - 1:=by omega
     subst this;exact xF _
   have a2:zs[m - 1]≤zs[m]:=yU.1 hs (m - 1) m (by omega) (by omega) (by omega);omega
  ·rw[if_neg hk,List.append_nil,ht];refine⟨h1,fun z=> ?_⟩;rw[h2,yH];refine⟨.inl,fun h=>h.elim id fun h=> ?_⟩;simp at h;subst h;simp only[Lib.keeps,decide_eq_true_eq,not_or]at hk;have z7:m - 1<zs.length:=by omega
   have z8:zs[m]=zs[m - 1]:=by simpa[z1,z7]using hk.2
   rw[z8];exact List.mem_take_iff_getElem.2 ⟨m - 1,by omega,rfl⟩
theorem u0n(l:List Iv):(u01 l).Pairwise (·<·)∧∀z,z∈u01 l↔∃x∈l,z=x.lo∨z=x.hi+1:=by
 have hs:(R8 (Mb l)).Pairwise (·≤·):=by have:=uZ (le:=fun x y:Int=>decide (x≤y)) (fun a b c h1 h2=>by simp at h1 h2 ⊢;omega) (fun a b=>by simp;omega) (Mb l);simpa[R8]using this
 have h:=Vh _ hs _ (zW _);refine⟨h.1,fun z=> ?_⟩;have h2:=h.2 z;rw[xB]at h2;rw[u01,Lib.compact,h2,R8,tA,j0g]
theorem g08(l:List Iv)(cs:List Int)(h:∀x∈l,x.lo∈cs∧x.hi+1∈cs)(c n:Int)(hc:c≤n)(hm:∀d∈cs,d≤n→d≤c):O0 l n=O0 l c:=by
 rw[wO,N4,N4];constructor
 ·rintro⟨x,hx,h1,h2⟩;have:=hm _ (h x hx).1 h1;exact⟨x,hx,this,by omega⟩
 ·rintro⟨x,hx,h1,h2⟩;refine⟨x,hx,by omega,?_⟩;by_cases hn:x.hi+1≤n
  ·have:=hm _ (h x hx).2 hn;omega
  ·omega
theorem w02{l:List Iv}(h:Sep l)(hb:∀n,M l n→ -1099511627776≤n∧n≤1099511627776):∀x∈l,U5 x:=fun x hx=>
 ⟨(W7 _).2 (hb _ ⟨x,hx,xF _,h.1 x hx⟩),(W7 _).2 (hb _ ⟨x,hx,h.1 x hx,xF _⟩)⟩
theorem Ir:∀(l:List Iv) (s:Int),(∀x∈l,x.lo≤x.hi∧x.hi≤1099511627776)→l.Pairwise (fun x y=>x.hi+2≤y.lo)→(∀x∈l,s≤x.lo)→
  Sep (Rj l s)∧(∀n,M (Rj l s) n↔s≤n∧n≤1099511627776∧¬M l n)∧(Rj l s).length≤l.length+1
 |[],s,_,_,_=>by
  rw[Rj];split
  ·exact⟨⟨fun x hx=>by simp at hx;subst hx;assumption,by simp⟩,fun n=>by rw[Eu,B4];simp[B4],by simp⟩
  ·exact⟨Lc,fun n=>by simp[B4];omega,by simp⟩
 |x::l,s,hf,hp,hs=>by
  have hx:=hf x (by simp);have z7:=hs x (by simp);have z1:=(yZ.1 hp).1;obtain⟨i1,i2,i3⟩:=Ir l (x.hi+1) (fun y hy=>hf y (by simp[hy])) (yZ.1 hp).2 (fun y hy=>by have:=z1 y hy;omega);have z6:∀n,M l n→x.hi+2≤n:=by rintro n ⟨y,hy,h1,h2⟩;have:=z1 y hy;omega
  rw[Rj];split
  ·refine⟨⟨fun y hy=> ?_,?_⟩,fun n=> ?_,by simp;omega⟩
   ·rcases yH.1 hy with h|h
    ·simp at h;subst h;simp only;omega
    ·exact i1.1 y h
   ·refine yS.2 ⟨by simp,i1.2,fun u hu v hv=> ?_⟩;simp at hu;subst hu;have:=(i2 v.lo).1 ⟨v,hv,xF _,i1.1 v hv⟩;simp only;omega
   ·rw[Lo,i2,Eu,B4,Eu];by_cases hm:M l n
    ·have:=z6 n hm;simp[hm];omega
    ·simp only[hm,not_false_eq_true,and_true,or_false];omega
  ·refine⟨⟨fun y hy=>i1.1 y (by simpa using hy),by simpa using i1.2⟩,fun n=> ?_,by simp;omega⟩;rw[List.nil_append,i2,Eu];by_cases hm:M l n
   ·simp[hm]
   ·simp only[hm,not_false_eq_true,and_true,or_false];omega
theorem U8{l:List Iv}(h:CanonL l):Sep (Wv l)∧(∀n,M (Wv l) n↔(-1099511627776≤n∧n≤1099511627776)∧¬M l n)∧(Wv l).length≤l.length+1:=by have hs:=Hj h;have hi:=Zj h;have:=Ir l (-1099511627776) (fun x hx=>⟨hs.1 x hx,((W7 _).1 (hi x hx).2).2⟩) hs.2 (fun x hx=>((W7 _).1 (hi x hx).1).1);exact⟨this.1,fun n=>by rw[Wv,this.2.1,and_assoc],this.2.2⟩
def Ov(x y:Iv):Option Iv:=if(if x.lo<y.lo then y.lo else x.lo)≤(if y.hi<x.hi then y.hi else x.hi)then some ⟨if x.lo<y.lo then y.lo else x.lo,if y.hi<x.hi then y.hi else x.hi⟩else none
def Ri(a b:List Iv):List Iv:=a.flatMap fun x=>b.filterMap (Ov x)
theorem Gw{x y z:Iv}(h:Ov x y=some z):z.lo≤z.hi∧∀n,(z.lo≤n∧n≤z.hi)↔(x.lo≤n∧n≤x.hi)∧(y.lo≤n∧n≤y.hi):=by
 unfold Ov at h;by_cases hle:(if x.lo<y.lo then y.lo else x.lo)≤(if y.hi<x.hi then y.hi else x.hi)
 ·rw[if_pos hle]at h;cases h;refine⟨hle,fun n=> ?_⟩;simp only;split<;>split<;>omega
 ·rw[if_neg hle]at h;cases h
theorem d1g{x y:Iv}{n:Int}(h1:x.lo≤n∧n≤x.hi)(h2:y.lo≤n∧n≤y.hi):∃z,Ov x y=some z∧z.lo≤n∧n≤z.hi:=by
 unfold Ov;have:(if x.lo<y.lo then y.lo else x.lo)≤(if y.hi<x.hi then y.hi else x.hi):=by split<;>split<;>omega
 rw[if_pos this];refine⟨_,rfl,?_,?_⟩<;>simp only<;>split<;>omega
theorem Sl(a b:List Iv):(∀x∈Ri a b,x.lo≤x.hi)∧∀n,M (Ri a b) n↔M a n∧M b n:=by
 constructor
 ·intro z hz;obtain⟨x,_,hz⟩:=wZ.1 hz;obtain⟨y,_,h⟩:=vX.1 hz;exact(Gw h).1
 ·intro n;constructor
  ·rintro⟨z,hz,h1⟩;obtain⟨x,hx,hz⟩:=wZ.1 hz;obtain⟨y,hy,h⟩:=vX.1 hz;have:=((Gw h).2 n).1 h1;exact⟨⟨x,hx,this.1⟩,⟨y,hy,this.2⟩⟩
  ·rintro⟨⟨x,hx,h1⟩,⟨y,hy,h2⟩⟩;obtain⟨z,hz,h3⟩:=d1g h1 h2;exact⟨z,wZ.2 ⟨x,hx,vX.2 ⟨y,hy,hz⟩⟩,h3⟩
def R4(a b:List Iv):List Iv:=Ej (Ri a b)
theorem Of(a b:List Iv):Sep (R4 a b)∧∀n,M (R4 a b) n↔M a n∧M b n:=by have h:=Ur (Ri a b) (Sl a b).1;exact⟨h.1,fun n=>by rw[R4,h.2,(Sl a b).2]⟩
end Go.Abs
namespace Go.Abs
open Go
def b2(b:Bool):Int:=if b=true then 1 else 0
def cnt(p:Int→Bool)(A:Int):Nat→Int
 |0=>0
 |n+1=>cnt p A n+b2 (p (A+n))
def inI(lo hi k:Int):Bool:=decide (lo≤k) && decide (k≤hi)
theorem Bn(lo hi k:Int):inI lo hi k=true↔lo≤k∧k≤hi:=by simp[inI]
theorem x1f(x:Iv)(l:List Iv)(k:Int):O0 (x::l) k=(inI x.lo x.hi k || O0 l k):=by simp[O0,inI]
end Go.Abs
namespace Go.Abs
open Go
end Go.Abs
namespace Go.Abs
open Go
end Go.Abs
namespace Go.Abs
open Go
def j1w(x y:Iv):Bool:=decide (y.lo<x.lo) && decide (x.lo≤y.hi)
def z0y(x y:Iv):Bool:=decide (x.lo≤y.lo) && decide (y.lo≤x.hi)
theorem d0c(x:Iv):∀(b:List Iv),(b.filterMap (Ov x)).length≤b.countP (j1w x)+b.countP (z0y x)
 |[]=>by simp
 |y::b=>by
  have ih:=d0c x b;rw[vO,vO];cases h:Ov x y with
  |none=>rw[List.filterMap_cons_none h];omega
  |some z=>
   rw[List.filterMap_cons_some h,yY];have hz:=Gw h;have hm:=(hz.2 z.lo).1 ⟨xF _,hz.1⟩;have:j1w x y=true∨z0y x y=true:=by simp[j1w,z0y];omega
   rcases this with h'|h'<;>rw[if_pos h']<;>omega
theorem j0j(x:Iv):∀(b:List Iv),Sep b→b.countP (j1w x)≤1
 |[],_=>by simp
 |y::b,hs=>by
  rw[vO];split
  ·rename_i h;simp[j1w]at h;have:b.countP (j1w x)=0:=tu.2 fun z hz=>by have:=(yZ.1 hs.2).1 z hz;simp[j1w];omega
   omega
  ·have:=j0j x b hs.tail;omega
theorem w0c(y:Iv):∀(a:List Iv),Sep a→a.countP (fun x=>z0y x y)≤1
 |[],_=>by simp
 |x::a,hs=>by
  rw[vO];split
  ·rename_i h;simp[z0y]at h;have:a.countP (fun x=>z0y x y)=0:=tu.2 fun z hz=>by have:=(yZ.1 hs.2).1 z hz;simp[z0y];omega
   omega
  ·have:=w0c y a hs.tail;omega
theorem w0o(a:List Iv)(ha:Sep a):∀(b:List Iv),(a.map fun x=>b.countP (z0y x)).sum≤b.length
 |[]=>by
  have:∀a:List Iv,(a.map fun x=>([]:List Iv).countP (z0y x)).sum=0:=fun a=>by
   induction a with
   |nil=>rfl
   |cons x a ih=>simpa using ih
  rw[this];simp
 |y::b=>by
  have ih:=w0o a ha b;have h1:=w0c y a ha;have:∀a:List Iv,(a.map fun x=>(y::b).countP (z0y x)).sum=(a.map fun x=>b.countP (z0y x)).sum+a.countP (fun x=>z0y x y):=fun a=>by
   induction a with
   |nil=>rfl
   |cons x a ih=>rw[xH,uG,ih,xH,uG,vO,vO];omega
  rw[this,yY];omega
theorem g0e(a b:List Iv)(ha:Sep a)(hb:Sep b):(Ri a b).length≤a.length+b.length:=by
 have h:∀a:List Iv,(Ri a b).length≤a.length+(a.map fun x=>b.countP (z0y x)).sum:=fun a=>by
  induction a with
  |nil=>simp[Ri]
  |cons x a ih=>have e:Ri (x::a) b=b.filterMap (Ov x)++Ri a b:=rfl;have h1:=d0c x b;have h2:=j0j x b hb;rw[e,List.length_append,xH,uG,yY];omega
 have h1:=h a;have h2:=w0o a ha b;omega
theorem c06{a b:List Iv}(h:(∀x∈a,U5 x)∨(∀y∈b,U5 y)):∀z∈Ri a b,U5 z:=by
 intro z hz;have hp:=Sl a b;have hf:=hp.1 z hz;have m1:=(hp.2 z.lo).1 ⟨z,hz,xF _,hf⟩;have m2:=(hp.2 z.hi).1 ⟨z,hz,hf,xF _⟩;have key:∀l:List Iv,(∀x∈l,U5 x)→∀n,M l n→inB n=true:=fun l hl n ⟨x,hx,h1,h2⟩=>by have h3:=(W7 _).1 (hl x hx).1;have h4:=(W7 _).1 (hl x hx).2;exact(W7 _).2 (by omega)
 rcases h with h|h
 ·exact⟨key a h _ m1.1,key a h _ m2.1⟩
 ·exact⟨key b h _ m1.2,key b h _ m2.2⟩
end Go.Abs
namespace Go.Abs
abbrev Prd:=List (List Iv)
def PM(p:Prd)(t:Nat)(n:Int):Prop:=∃s,p[t]? =some s∧M s n
def inR(n:Int):Prop:= -1099511627776≤n∧n≤1099511627776
def PWf(T:Nat)(p:Prd):Prop:=p.length=T∧∀s∈p,Sep s∧∀n,M s n→inR n
theorem PWf.lt{T:Nat}{p:Prd}(h:PWf T p){t:Nat}{n:Int}(hm:PM p t n):t<T∧inR n:=by obtain⟨s,hs,hn⟩:=hm;exact⟨by rw[←h.1];exact(zE.1 hs).1,(h.2 s (zO hs)).2 n hn⟩
theorem Ig{T:Nat}{p q:Prd}(hp:PWf T p)(hq:PWf T q)(h:∀t n,PM p t n↔PM q t n):p=q:=by apply List.ext_getElem (by rw[hp.1,hq.1]);intro i h1 h2;refine g0p _ _ (hp.2 _ (zT h1)).1 (hq.2 _ (zT h2)).1 fun n=> ?_;have:=h i n;unfold PM at this;rw[zP h1,zP h2]at this;simpa using this
def U4(t:Nat)(n:Int)(t':Nat)(n':Int):Prop:=t<t'∨t=t'∧n<n'
theorem U4.irr{t:Nat}{n:Int}(h:U4 t n t n):False:=by unfold U4 at h;omega
theorem U4.trans{a b c:Nat}{x y z:Int}(h:U4 a x b y)(k:U4 b y c z):U4 a x c z:=by unfold U4 at *;omega
def f1c(l:List Prd)(t:Nat)(n:Int)(t':Nat)(n':Int):Prop:=∀p∈l,PM p t n↔PM p t' n'
structure Prts (T:Nat) (l L:List Prd):Prop where
 wf:∀p∈L,PWf T p
 ne:∀p∈L,∃t n,PM p t n
 all:∀t n,t<T→inR n→∃p∈L,PM p t n
 cls:∀p∈L,∀t n,PM p t n→∀t' n',PM p t' n'↔t'<T∧inR n'∧f1c l t n t' n'
def v0h(p q:Prd):Prop:=∃t n,PM p t n∧∀t' n',PM q t' n'→U4 t n t' n'
theorem v0h.irr{p:Prd}(h:v0h p p):False:=by obtain⟨t,n,h1,h2⟩:=h;exact(h2 t n h1).irr
theorem v0h.asymm{p q:Prd}(h:v0h p q)(k:v0h q p):False:=by obtain⟨t,n,h1,h2⟩:=h;obtain⟨t',n',k1,k2⟩:=k;exact((h2 t' n' k1).trans (k2 t n h1)).irr
theorem Prts.same{T:Nat}{l L L':List Prd}(h:Prts T l L)(h':Prts T l L'){p:Prd}(hp:p∈L):p∈L':=by
 obtain⟨t,n,hm⟩:=h.ne p hp;obtain⟨ht,hn⟩:=(h.wf p hp).lt hm;obtain⟨q,hq,z1⟩:=h'.all t n ht hn;have:p=q:=Ig (h.wf p hp) (h'.wf q hq) fun t' n'=>by rw[h.cls p hp t n hm,h'.cls q hq t n z1]
 rw[this];exact hq
theorem Prts.unique{T:Nat}{l L L':List Prd}(h:Prts T l L)(h':Prts T l L')(s:L.Pairwise v0h)(s':L'.Pairwise v0h):L=L':=by have z1:∀ {X:List Prd},X.Pairwise v0h→X.Nodup:=fun hx=>hx.imp (fun h e=>by subst e;exact h.irr);refine List.Perm.eq_of_pairwise (le:=v0h) (fun a b _ _ h1 h2=>(h1.asymm h2).elim) s s' ?_;exact(uS (z1 s) (z1 s')).2 fun p=>⟨h.same h',h'.same h⟩
theorem Prts.disj{T:Nat}{l L:List Prd}(h:Prts T l L){p q:Prd}(hp:p∈L)(hq:q∈L){t:Nat}{n:Int}(h1:PM p t n)(h2:PM q t n):p=q:=
 Ig (h.wf p hp) (h.wf q hq) fun t' n'=>by rw[h.cls p hp t n h1,h.cls q hq t n h2]
theorem Prts.perm{T:Nat}{l L L':List Prd}(h:Prts T l L)(e:L.Perm L'):Prts T l L':=
 ⟨fun p hp=>h.wf p (e.mem_iff.2 hp),fun p hp=>h.ne p (e.mem_iff.2 hp),fun t n a b=>by obtain⟨p,hp,hm⟩:=h.all t n a b;exact⟨p,e.mem_iff.1 hp,hm⟩,fun p hp=>h.cls p (e.mem_iff.2 hp)⟩
def Wz(T:Nat):Prd:=yB T (Wv [])
def Wc(c p:Prd):Prd:=sd R4 c p
def W6(p:Prd):Prd:=p.map Wv
def Wi(p:Prd):Bool:=p.all (·.isEmpty)
def Et(p:Prd)(L:List Prd):List Prd:=L.flatMap fun c=>(if Wi (Wc c p)then []else [Wc c p])++(if Wi (Wc c (W6 p))then []else [Wc c (W6 p)])
def Er(T:Nat)(l:List Prd):List Prd:=l.foldl (fun L p=>Et p L) [Wz T]
def PCk(T:Nat)(p:Prd):Prop:=p.length=T∧∀s∈p,CanonL s
theorem PCk.wf{T:Nat}{p:Prd}(h:PCk T p):PWf T p:=⟨h.1,fun s hs=>⟨Hj (h.2 s hs),fun n hn=>k10 (h.2 s hs) hn⟩⟩
theorem Pv:CanonL []:=⟨by simp,by simp,fun j h=>by simp at h⟩
theorem P1(T t:Nat)(n:Int):PM (Wz T) t n↔t<T∧inR n:=by
 unfold PM Wz;have hg:=(U8 Pv).2.1 n;constructor
 ·rintro⟨s,hs,hm⟩;rw[vJ]at hs;split at hs
  ·cases hs;exact⟨by assumption,(hg.1 hm).1⟩
  ·cases hs
 ·rintro⟨h1,h2⟩;exact⟨Wv [],by rw[vJ,if_pos h1],hg.2 ⟨h2,by simp[M]⟩⟩
theorem Dz(T:Nat):PWf T (Wz T):=⟨by simp[Wz],fun s hs=>by
 obtain rfl:=vU hs;exact⟨(U8 Pv).1,fun n hn=>(((U8 Pv).2.1 n).1 hn).1⟩⟩
theorem Ef{T:Nat}{c p:Prd}(hc:c.length=T)(hp:p.length=T)(t:Nat)(n:Int):PM (Wc c p) t n↔PM c t n∧PM p t n:=by
 unfold PM Wc;constructor
 ·rintro⟨s,hs,hm⟩;rw[vL]at hs;cases h1:c[t]? with
  |none=>rw[h1]at hs;simp at hs
  |some a=>
   cases h2:p[t]? with
   |none=>rw[h1,h2]at hs;simp at hs
   |some b=>rw[h1,h2]at hs;simp at hs;subst hs;have:=((Of a b).2 n).1 hm;exact⟨⟨a,rfl,this.1⟩,⟨b,rfl,this.2⟩⟩
 ·rintro⟨⟨a,h1,m1⟩,⟨b,h2,m2⟩⟩;exact⟨R4 a b,by rw[vL,h1,h2],((Of a b).2 n).2 ⟨m1,m2⟩⟩
theorem Tb{T:Nat}{c p:Prd}(hc:PWf T c)(hp:p.length=T):PWf T (Wc c p):=by
 refine⟨by simp[Wc,hc.1,hp],fun s hs=> ?_⟩;obtain⟨i,hi⟩:=yR.1 hs;unfold Wc at hi;rw[vL]at hi;cases h1:c[i]? with
 |none=>rw[h1]at hi;simp at hi
 |some a=>
  cases h2:p[i]? with
  |none=>rw[h1,h2]at hi;simp at hi
  |some b=>rw[h1,h2]at hi;simp at hi;subst hi;exact⟨(Of a b).1,fun n hn=>(hc.2 a (zO h1)).2 n (((Of a b).2 n).1 hn).1⟩
theorem Lf{T:Nat}{p:Prd}(hp:PCk T p)(t:Nat)(n:Int):PM (W6 p) t n↔(t<T∧inR n)∧¬PM p t n:=by
 unfold PM W6;rw[yI];constructor
 ·rintro⟨s,hs,hm⟩;obtain⟨a,ha,rfl⟩:=zZ.1 hs;have hg:=((U8 (hp.2 a (zO ha))).2.1 n).1 hm;refine⟨⟨by rw[←hp.1];exact(zE.1 ha).1,hg.1⟩,?_⟩;rintro⟨b,hb,z1⟩;rw[ha]at hb;cases hb;exact hg.2 z1
 ·rintro⟨⟨h1,h2⟩,h3⟩;have hl:t<p.length:=by rw[hp.1];exact h1
  refine⟨Wv p[t],by rw[zP hl];rfl,((U8 (hp.2 _ (zT hl))).2.1 n).2 ⟨h2,fun hm=>h3 ⟨_,zP hl,hm⟩⟩⟩
theorem Ro{T:Nat}{p:Prd}(h:PWf T p):Wi p=true↔∀t n,¬PM p t n:=by
 unfold Wi;rw[yE];constructor
 ·rintro hv t n ⟨s,hs,hm⟩;have:=hv s (zO hs);rw[tJ]at this;subst this;simp[M]at hm
 ·intro hv s hs;obtain⟨i,hi⟩:=yR.1 hs;cases s with
  |nil=>rfl
  |cons x s=>exact absurd ⟨_,hi,(Eu ..).2 (.inl ⟨xF _,(h.2 _ hs).1.1 x (by simp)⟩)⟩ (hv i x.lo)
theorem Jt{T:Nat}{l L:List Prd}{p:Prd}(h:Prts T l L)(hp:PCk T p):Prts T (l++[p]) (Et p L):=by
 have z6:(W6 p).length=T:=by simp[W6,hp.1]
 have z1:∀q,q∈Et p L↔∃c∈L,((q=Wc c p)∨(q=Wc c (W6 p)))∧Wi q=false:=by
  intro q;unfold Et;rw[wZ];constructor
  ·rintro⟨c,hc,hq⟩;refine⟨c,hc,?_⟩;rcases yH.1 hq with hq|hq
   ·split at hq
    ·cases hq
    ·rename_i hv;obtain rfl:=z_.1 hq;exact⟨.inl rfl,by simpa using hv⟩
   ·split at hq
    ·cases hq
    ·rename_i hv;obtain rfl:=z_.1 hq;exact⟨.inr rfl,by simpa using hv⟩
  ·rintro⟨c,hc,hq,hv⟩;refine⟨c,hc,yH.2 ?_⟩;rcases hq with rfl|rfl
   ·left;rw[if_neg (by rw[hv];decide)];simp
   ·right;rw[if_neg (by rw[hv];decide)];simp
 have z7:∀q∈Et p L,PWf T q:=fun q hq=>by
  obtain⟨c,hc,rfl|rfl,_⟩:=(z1 q).1 hq
  ·exact Tb (h.wf c hc) hp.1
  ·exact Tb (h.wf c hc) z6
 have zb:∀q∈Et p L,∃t n,PM q t n:=fun q hq=>by
  obtain⟨c,hc,_,hv⟩:=(z1 q).1 hq;by_cases hx:∃t n,PM q t n
  ·exact hx
  ·exfalso;have:Wi q=true:=(Ro (z7 q hq)).2 fun t n hm=>hx ⟨t,n,hm⟩;rw[this]at hv;cases hv
 refine⟨z7,zb,fun t n ht hn=> ?_,fun q hq t n hm t' n'=> ?_⟩
 ·obtain⟨c,hc,z8⟩:=h.all t n ht hn;have hv:∀q,(q=Wc c p∨q=Wc c (W6 p))→PM q t n→q∈Et p L:=fun q hq hm=>(z1 q).2 ⟨c,hc,hq,by
   have hw:PWf T q:=by
    rcases hq with rfl|rfl
    ·exact Tb (h.wf c hc) hp.1
    ·exact Tb (h.wf c hc) z6
   cases hvq:Wi q with
   |false=>rfl
   |true=>exact absurd hm ((Ro hw).1 hvq t n)⟩
  by_cases za:PM p t n
  ·have:=(Ef (h.wf c hc).1 hp.1 t n).2 ⟨z8,za⟩;exact⟨_,hv _ (.inl rfl) this,this⟩
  ·have:=(Ef (h.wf c hc).1 z6 t n).2 ⟨z8,(Lf hp t n).2 ⟨⟨ht,hn⟩,za⟩⟩;exact⟨_,hv _ (.inr rfl) this,this⟩
 ·obtain⟨c,hc,zc,_⟩:=(z1 q).1 hq;have zd:f1c (l++[p]) t n t' n'↔f1c l t n t' n'∧(PM p t n↔PM p t' n'):=by
   constructor
   ·exact fun hs=>⟨fun r hr=>hs r (by simp[hr]),hs p (by simp)⟩
   ·rintro⟨h1,h2⟩ r hr;rcases yH.1 hr with hr|hr
    ·exact h1 r hr
    ·obtain rfl:=z_.1 hr;exact h2
  rw[zd];rcases zc with rfl|rfl
  ·obtain⟨m1,m2⟩:=(Ef (h.wf c hc).1 hp.1 t n).1 hm;rw[Ef (h.wf c hc).1 hp.1,h.cls c hc t n m1];constructor
   ·rintro⟨⟨h1,h2,h3⟩,h4⟩;exact⟨h1,h2,h3,fun _=>h4,fun _=>m2⟩
   ·rintro⟨h1,h2,h3,h4⟩;exact⟨⟨h1,h2,h3⟩,h4.1 m2⟩
  ·obtain⟨m1,m2⟩:=(Ef (h.wf c hc).1 z6 t n).1 hm;have m3:=((Lf hp t n).1 m2).2;rw[Ef (h.wf c hc).1 z6,h.cls c hc t n m1,Lf hp];constructor
   ·rintro⟨⟨h1,h2,h3⟩,h4⟩;exact⟨h1,h2,h3,fun h=>absurd h m3,fun h=>absurd h h4.2⟩
   ·rintro⟨h1,h2,h3,h4⟩;exact⟨⟨h1,h2,h3⟩,⟨h1,h2⟩,fun h=>m3 (h4.2 h)⟩
theorem Jn(T:Nat)(hT:0<T):Prts T [] [Wz T]:=by
 refine⟨fun p hp=> ?_,fun p hp=> ?_,fun t n ht hn=> ?_,fun p hp t n hm t' n'=> ?_⟩
 ·obtain rfl:=z_.1 hp;exact Dz T
 ·obtain rfl:=z_.1 hp;exact⟨0,0,(P1 T 0 0).2 ⟨hT,by unfold inR;omega⟩⟩
 ·exact⟨_,List.mem_singleton_self _,(P1 T t n).2 ⟨ht,hn⟩⟩
 ·obtain rfl:=z_.1 hp;rw[P1];exact⟨fun h=>⟨h.1,h.2,fun r hr=>by cases hr⟩,fun h=>⟨h.1,h.2.1⟩⟩
theorem Rw{T:Nat}(hT:0<T){l:List Prd}(hl:∀p∈l,PCk T p):Prts T l (Er T l):=by
 have key:∀(r d L:List Prd),Prts T d L→(∀p∈r,PCk T p)→Prts T (d++r) (r.foldl (fun L p=>Et p L) L):=by
  intro r;induction r with
  |nil=>intro d L h _;simpa using h
  |cons p r ih=>intro d L h hr;rw[x_];have:=ih (d++[p]) (Et p L) (Jt h (hr p (by simp))) (fun q hq=>hr q (by simp[hq]));simpa using this
 have:=key l [] [Wz T] (Jn T hT) hl;simpa[Er]using this
end Go.Abs
namespace Go.Abs
def Qz:Prd→Nat→Nat×Int
 |[],_=>(0,0)
 |(x::_)::_,i=>(i,x.lo)
 |[]::p,i=>Qz p (i+1)
def Ln(a b:Nat×Int):Bool:=decide (a.1<b.1) || (decide (a.1=b.1) && decide (a.2<b.2))
theorem R0(a b:Nat×Int):Ln a b=true↔U4 a.1 a.2 b.1 b.2:=by simp[Ln,U4]
theorem X9:∀(p:Prd) (i:Nat),(∀s∈p,Sep s)→(∃s∈p,s≠[])→∃t x r,p[t]? =some (x::r)∧Qz p i=(i+t,x.lo)∧∀j,j<t→p[j]? =some []
 |[],_,_,⟨s,hs,_⟩=>by cases hs
 |(x::r)::p,i,_,_=>⟨0,x,r,rfl,rfl,fun j hj=>by omega⟩
 |[]::p,i,h,⟨s,hs,hn⟩=>by
  have z1:s∈p:=by
   rcases yP.1 hs with rfl|hs
   ·exact absurd rfl hn
   ·exact hs
  obtain⟨t,x,r,h1,h2,h3⟩:=X9 p (i+1) (fun s hs=>h s (by simp[hs])) ⟨s,z1,hn⟩;refine⟨t+1,x,r,by simpa using h1,by rw[Qz,h2];congr 1;omega,fun j hj=> ?_⟩;cases j with
  |zero=>rfl
  |succ j=>simpa using h3 j (by omega)
theorem Ww{T:Nat}{p:Prd}(h:PWf T p)(hn:∃t n,PM p t n):PM p (Qz p 0).1 (Qz p 0).2∧∀t n,PM p t n→((Qz p 0).1=t∧(Qz p 0).2=n)∨U4 (Qz p 0).1 (Qz p 0).2 t n:=by
 obtain⟨t0,n0,s0,z1,m0⟩:=hn;have z6:s0≠[]:=fun e=>by subst e;simp[M]at m0
 obtain⟨t,x,r,h1,h2,h3⟩:=X9 p 0 (fun s hs=>(h.2 s hs).1) ⟨s0,zO z1,z6⟩;rw[Nat.zero_add]at h2;rw[h2];have hx:=(h.2 _ (zO h1)).1;refine⟨⟨_,h1,(Eu ..).2 (.inl ⟨xF _,hx.1 x (by simp)⟩)⟩,fun t' n' hm=> ?_⟩;obtain⟨s,hs,hm⟩:=hm;simp only;rcases vS t' t with hlt|rfl|hgt
 ·rw[h3 t' hlt]at hs;cases hs;simp[M]at hm
 ·rw[h1]at hs;cases hs;have:=hx.lowc hm;unfold U4;omega
 ·exact .inr (.inl hgt)
theorem Lk{T:Nat}{p q:Prd}(hp:PWf T p)(z1:∃t n,PM p t n)(hq:PWf T q)(z6:∃t n,PM q t n)(h:U4 (Qz p 0).1 (Qz p 0).2 (Qz q 0).1 (Qz q 0).2):v0h p q:=
 ⟨_,_,(Ww hp z1).1,fun t n hm=>by
  rcases(Ww hq z6).2 t n hm with⟨e1,e2⟩|h2
  ·rw[←e1,←e2];exact h
  ·exact h.trans h2⟩
def Z8(s:List Prd)(x:Prd):Nat→Nat
 |0=>0
 |j+1=>match s[j]? with
  |some y=>if Ln (Qz x 0) (Qz y 0)=true then Z8 s x j else j+1
  |none=>j+1
def Lj(s:List Prd)(x:Prd):List Prd:=s.take (Z8 s x s.length)++x::s.drop (Z8 s x s.length)
def L8(L:List Prd):List Prd:=L.foldl Lj []
theorem C4(s:List Prd)(x:Prd):∀j,j≤s.length→Z8 s x j≤j∧(∀i,Z8 s x j≤i→i<j→∀h:i<s.length,Ln (Qz x 0) (Qz s[i] 0)=true)∧(∀i,i+1=Z8 s x j→∀h:i<s.length,Ln (Qz x 0) (Qz s[i] 0)=false)
 |0,_=>⟨zW _,fun i _ h=>by omega,fun i h=>by simp[Z8]at h⟩
 |j+1,hj=>by
  have z1:j<s.length:=by omega
  rw[Z8,zP z1];simp only;by_cases hb:Ln (Qz x 0) (Qz s[j] 0)=true
  ·rw[if_pos hb];obtain⟨h1,h2,h3⟩:=C4 s x j (by omega);refine⟨by omega,fun i hi z6 hl=> ?_,h3⟩;by_cases hij:i=j
   ·subst hij;exact hb
   ·exact h2 i hi (by omega) hl
  ·rw[if_neg hb];refine⟨zW _,fun i hi z6=>by omega,fun i hi hl=> ?_⟩;have:i=j:=by omega
   subst this;simpa using hb
theorem P8(s:List Prd)(x:Prd):(Lj s x).Perm (x::s):=by unfold Lj;refine vR.trans ?_;rw[xY]
def Lh(p q:Prd):Prop:=U4 (Qz p 0).1 (Qz p 0).2 (Qz q 0).1 (Qz q 0).2
theorem N8{s:List Prd}{x:Prd}(hs:s.Pairwise Lh)(hd:∀y∈s,Qz y 0≠Qz x 0):(Lj s x).Pairwise Lh:=by
 obtain⟨h1,h2,h3⟩:=C4 s x s.length (zW _);unfold Lj;generalize Z8 s x s.length=k at *
 have z1:=hs;rw[←xY k s]at z1;obtain⟨p1,p2,p3⟩:=yS.1 z1;have z7:∀y∈s.drop k,Lh x y:=fun y hy=>by obtain⟨i,hi⟩:=yR.1 hy;rw[List.getElem?_drop]at hi;obtain⟨hl,e⟩:=zE.1 hi;have:=h2 (k+i) (by omega) hl hl;rw[e]at this;exact(R0 _ _).1 this
 have z8:∀i,i+1=k→∀h:i<s.length,Lh s[i] x:=fun i hi hl=>by
  have h4:=h3 i hi hl;have zc:=hd s[i] (zT hl);unfold Lh;rcases vS (Qz s[i] 0).1 (Qz x 0).1 with a|a|a
  ·exact .inl a
  ·rcases tI (Qz s[i] 0).2 (Qz x 0).2 with b|b|b
   ·exact .inr ⟨a,b⟩
   ·exact absurd (Prod.ext a b) zc
   ·have:Ln (Qz x 0) (Qz s[i] 0)=true:=(R0 _ _).2 (.inr ⟨a.symm,b⟩);rw[this]at h4;cases h4
  ·have:Ln (Qz x 0) (Qz s[i] 0)=true:=(R0 _ _).2 (.inl a);rw[this]at h4;cases h4
 have z6:∀y∈s.take k,Lh y x:=fun y hy=>by
  obtain⟨i,hi⟩:=yR.1 hy;rw[List.getElem?_take]at hi;split at hi
  ·rename_i zd;obtain⟨hl,e⟩:=zE.1 hi;obtain⟨k',rfl⟩:∃k',k=k'+1:=⟨k - 1,by omega⟩
   have za:k'<s.length:=by omega
   have zb:=z8 k' rfl za;by_cases hij:i=k'
   ·subst hij;rw[←e];exact zb
   ·have:=yU.1 hs i k' hl za (by omega);rw[e]at this;exact U4.trans this zb
  ·cases hi
 refine yS.2 ⟨p1,yZ.2 ⟨z7,p2⟩,fun y hy z hz=> ?_⟩;rcases yP.1 hz with rfl|hz
 ·exact z6 y hy
 ·exact p3 y hy z hz
theorem Jv(L:List Prd)(hd:L.Pairwise (fun p q=>Qz p 0≠Qz q 0)):(L8 L).Perm L∧(L8 L).Pairwise Lh:=by
 have key:∀(r s:List Prd),s.Pairwise Lh→(s++r).Pairwise (fun p q=>Qz p 0≠Qz q 0)→(r.foldl Lj s).Perm (s++r)∧(r.foldl Lj s).Pairwise Lh:=by
  intro r;induction r with
  |nil=>intro s h _;simpa using h
  |cons x r ih=>intro s h hd;obtain⟨d1,d2,d3⟩:=yS.1 hd;have hi:=N8 h (fun y hy=>d3 y hy x (by simp));have hp:=P8 s x;have z1:(Lj s x++r).Perm (s++x::r):=(hp.append_right r).trans (vR (l₁:=s) (a:=x) (l₂:=r)).symm;have z6:(Lj s x++r).Pairwise (fun p q=>Qz p 0≠Qz q 0):=(z1.pairwise_iff (fun h=>Ne.symm h)).2 hd;obtain⟨i1,i2⟩:=ih (Lj s x) hi z6;rw[x_];exact⟨i1.trans z1,i2⟩
 have h:=key L [] List.Pairwise.nil (by simpa using hd);unfold L8;simpa using h
def Q3(T:Nat)(l:List Prd):List Prd:=L8 (Er T l)
theorem Cz{T:Nat}{l L:List Prd}{p:Prd}(h:Prts T l L)(hp:PCk T p)(hd:L.Pairwise (fun a b=>∀t n,PM a t n→¬PM b t n)):(Et p L).Pairwise (fun a b=>∀t n,PM a t n→¬PM b t n):=by
 have z7:(W6 p).length=T:=by simp[W6,hp.1]
 have z8:∀c∈L,∀q∈(if Wi (Wc c p)then []else [Wc c p])++(if Wi (Wc c (W6 p))then []else [Wc c (W6 p)]),∀t n,PM q t n→PM c t n:=by
  intro c hc q hq t n hm;rcases yH.1 hq with hq|hq
  ·split at hq
   ·cases hq
   ·obtain rfl:=z_.1 hq;exact((Ef (h.wf c hc).1 hp.1 t n).1 hm).1
  ·split at hq
   ·cases hq
   ·obtain rfl:=z_.1 hq;exact((Ef (h.wf c hc).1 z7 t n).1 hm).1
 unfold Et;rw[uq];refine⟨fun c hc=> ?_,?_⟩
 ·refine yS.2 ⟨by split<;>simp,by split<;>simp,fun a ha b hb t n z1 z6=> ?_⟩;split at ha
  ·cases ha
  ·split at hb
   ·cases hb
   ·obtain rfl:=z_.1 ha;obtain rfl:=z_.1 hb;exact((Lf hp t n).1 ((Ef (h.wf c hc).1 z7 t n).1 z6).2).2 ((Ef (h.wf c hc).1 hp.1 t n).1 z1).2
 ·exact hd.imp_of_mem (fun {a b} ha hb hab x hx y hy t n z1 z6=>hab t n (z8 a ha x hx t n z1) (z8 b hb y hy t n z6))
theorem Dh{T:Nat}(hT:0<T){l:List Prd}(hl:∀p∈l,PCk T p):(Er T l).Pairwise (fun a b=>∀t n,PM a t n→¬PM b t n):=by
 have key:∀(r d L:List Prd),Prts T d L→(∀p∈r,PCk T p)→L.Pairwise (fun a b=>∀t n,PM a t n→¬PM b t n)→(r.foldl (fun L p=>Et p L) L).Pairwise (fun a b=>∀t n,PM a t n→¬PM b t n):=by
  intro r;induction r with
  |nil=>intro d L _ _ h;simpa using h
  |cons p r ih=>intro d L h hr hd;rw[x_];exact ih (d++[p]) (Et p L) (Jt h (hr p (by simp))) (fun q hq=>hr q (by simp[hq])) (Cz h (hr p (by simp)) hd)
 exact key l [] [Wz T] (Jn T hT) hl (by simp)
theorem Us{T:Nat}(hT:0<T){l:List Prd}(hl:∀p∈l,PCk T p):Prts T l (Q3 T l)∧(Q3 T l).Pairwise v0h:=by
 have h:=Rw hT hl;have hd:(Er T l).Pairwise (fun p q=>Qz p 0≠Qz q 0):=(Dh hT hl).imp_of_mem (fun {a b} ha hb hab e=>by
  have h1:=(Ww (h.wf a ha) (h.ne a ha)).1;have h2:=(Ww (h.wf b hb) (h.ne b hb)).1;rw[←e]at h2;exact hab _ _ h1 h2)
 obtain⟨h1,h2⟩:=Jv _ hd;have h3:Prts T l (Q3 T l):=h.perm h1.symm;refine⟨h3,?_⟩;exact h2.imp_of_mem (fun {a b} ha hb hab=>Lk (h3.wf a ha) (h3.ne a ha) (h3.wf b hb) (h3.ne b hb) hab)
end Go.Abs
namespace Go.Abs
def Qx(l:List Prd)(i:Nat):List Iv:=l.flatMap fun p=>p.getD i []
def Wb(l:List Prd)(i:Nat):List Int:=u01 (⟨-1099511627776,1099511627776⟩::Qx l i)
def Tz:List Int→List Iv
 |a::b::r=>⟨a,b - 1⟩::Tz (b::r)
 |_=>[]
def U7(l:List Prd)(i:Nat)(n:Int):List Bool:=l.map fun p=>O0 (p.getD i []) n
def Uk(p:Prd)(i:Nat)(x:Iv):Prd:=p.set i (p.getD i []++[x])
def Yn(T i:Nat)(sg:List Bool)(x:Iv):List (List Bool×Prd)→List (List Bool×Prd)
 |[]=>[(sg,Uk (yB T []) i x)]
 |(s,p)::r=>if s=sg then(s,Uk p i x)::r else(s,p)::Yn T i sg x r
def Jm(T:Nat)(l:List Prd):List (Nat×Iv):=(yV T).flatMap fun i=>(Tz (Wb l i)).map fun x=>(i,x)
def Ie(T:Nat)(l:List Prd):List (List Bool×Prd):=(Jm T l).foldl (fun st a=>Yn T a.1 (U7 l a.1 a.2.lo) a.2 st) []
def Rl(p:Prd):Prd:=p.map (Qy [])
def Ed(T:Nat)(l:List Prd):List Prd:=(Ie T l).map fun g=>Rl g.2
def k1h(a:Nat×Iv)(t:Nat)(n:Int):Prop:=t=a.1∧a.2.lo≤n∧n≤a.2.hi
structure GInv (T:Nat) (sig:Nat→Int→List Bool) (D:Nat→Int→Prop) (st:List (List Bool×Prd)):Prop where
 len:∀g∈st,g.2.length=T
 asc:∀g∈st,∀s∈g.2,(∀x∈s,x.lo≤x.hi)∧s.Pairwise (fun x y=>x.hi<y.lo)
 mem:∀g∈st,∀t n,PM g.2 t n↔D t n∧sig t n=g.1
 ne:∀g∈st,∃t n,PM g.2 t n
 nd:st.Pairwise (fun g h=>g.1≠h.1)
 all:∀t n,D t n→∃g∈st,g.1=sig t n
 ord:st.Pairwise (fun g h=>∃t n,PM g.2 t n∧∀t' n',PM h.2 t' n'→U4 t n t' n')
theorem Wq{p:Prd}{i:Nat}(h:i<p.length):p.getD i []=p[i]:=by simp[y_,h]
theorem v1i{T:Nat}{p:Prd}(hp:p.length=T){i:Nat}(hi:i<T)(x:Iv)(t:Nat)(n:Int):PM (Uk p i x) t n↔PM p t n∨k1h (i,x) t n:=by
 unfold PM Uk k1h;have z1:i<p.length:=by omega
 rw[Wq z1];by_cases ht:t=i
 ·subst ht;rw[zU z1,zP z1];constructor
  ·rintro⟨s,hs,hm⟩;cases hs;rcases(Lo ..).1 hm with h|h
   ·exact .inl ⟨_,rfl,h⟩
   ·rcases(Eu ..).1 h with h|h
    ·exact .inr ⟨rfl,h⟩
    ·simp[M]at h
  ·rintro(⟨s,hs,hm⟩|⟨_,h⟩)
   ·cases hs;exact⟨_,rfl,(Lo ..).2 (.inl hm)⟩
   ·exact⟨_,rfl,(Lo ..).2 (.inr ((Eu ..).2 (.inl h)))⟩
 ·rw[zH (by omega)];constructor
  ·exact fun h=> .inl h
  ·rintro(h|⟨h,_⟩)
   ·exact h
   ·exact absurd h ht
theorem f0p{T:Nat}{p:Prd}(hp:p.length=T){i:Nat}(hi:i<T){x:Iv}(hx:x.lo≤x.hi)(h:∀s∈p,(∀y∈s,y.lo≤y.hi)∧s.Pairwise (fun y z=>y.hi<z.lo))(z6:∀t n,PM p t n→U4 t n i x.lo):
  ∀s∈Uk p i x,(∀y∈s,y.lo≤y.hi)∧s.Pairwise (fun y z=>y.hi<z.lo):=by
 intro s hs;have z1:i<p.length:=by omega
 rcases List.mem_or_eq_of_mem_set hs with hs|rfl
 ·exact h s hs
 ·rw[Wq z1];obtain⟨h1,h2⟩:=h _ (zT z1);refine⟨fun y hy=> ?_,yS.2 ⟨h2,by simp,fun y hy z hz=> ?_⟩⟩
  ·rcases yH.1 hy with hy|hy
   ·exact h1 y hy
   ·obtain rfl:=z_.1 hy;exact hx
  ·obtain rfl:=z_.1 hz;have:=z6 i y.hi ⟨_,zP z1,y,hy,h1 y hy,xF _⟩;unfold U4 at this;omega
theorem Oh{T i:Nat}{sg:List Bool}{x:Iv}:∀ {st:List (List Bool×Prd)},(∀g∈st,g.1≠sg)→Yn T i sg x st=st++[(sg,Uk (yB T []) i x)]
 |[],_=>rfl
 |(s,p)::r,h=>by rw[Yn,if_neg (h (s,p) (by simp)),Oh (fun g hg=>h g (by simp[hg]))];rfl
theorem A6{T i:Nat}{sg:List Bool}{x:Iv}:∀ {st:List (List Bool×Prd)},(∃g∈st,g.1=sg)→∃a p b,st=a++(sg,p)::b∧(∀g∈a,g.1≠sg)∧Yn T i sg x st=a++(sg,Uk p i x)::b
 |[],⟨g,hg,_⟩=>by cases hg
 |(s,p)::r,⟨g,hg,he⟩=>by
  by_cases hs:s=sg
  ·subst hs;exact⟨[],p,r,rfl,by simp,by rw[Yn,if_pos rfl];rfl⟩
  ·have z1:g∈r:=by
    rcases yP.1 hg with rfl|hg
    ·exact absurd he hs
    ·exact hg
   obtain⟨a,q,b,h1,h2,h3⟩:=A6 (T:=T) (i:=i) (x:=x) ⟨g,z1,he⟩;refine⟨(s,p)::a,q,b,by rw[h1];rfl,fun g hg=> ?_,by rw[Yn,if_neg hs,h3];rfl⟩;rcases yP.1 hg with rfl|hg
   ·exact hs
   ·exact h2 g hg
theorem L7(T t:Nat)(n:Int):¬PM (yB T []) t n:=by rintro⟨s,hs,hm⟩;obtain rfl:=vU (zO hs);simp[M]at hm
theorem GInv.step{T:Nat}{sig:Nat→Int→List Bool}{D:Nat→Int→Prop}{st:List (List Bool×Prd)}(h:GInv T sig D st){i:Nat}{x:Iv}(hi:i<T)(hx:x.lo≤x.hi)(hc:∀n,x.lo≤n→n≤x.hi→sig i n=sig i x.lo)(hD:∀t n,D t n→∀n',x.lo≤n'→n'≤x.hi→U4 t n i n'):
  GInv T sig (fun t n=>D t n∨k1h (i,x) t n) (Yn T i (sig i x.lo) x st):=by
 have z7:∀t n,k1h (i,x) t n→sig t n=sig i x.lo:=fun t n hp=>by obtain⟨rfl,h1,h2⟩:=hp;exact hc n h1 h2
 have zb:∀t n,D t n→∀t' n',k1h (i,x) t' n'→U4 t n t' n':=fun t n hd t' n' hp=>by obtain⟨rfl,h1,h2⟩:=hp;exact hD t n hd n' h1 h2
 have zc:k1h (i,x) i x.lo:=⟨rfl,xF _,hx⟩
 by_cases hit:∃g∈st,g.1=sig i x.lo
 ·obtain⟨a,p,b,h1,h2,h3⟩:=A6 (T:=T) (i:=i) (x:=x) hit;rw[h3];subst h1;generalize zh:sig i x.lo=s0 at *
  have za:(s0,p)∈a++(s0,p)::b:=by simp
  have zd:=h.mem _ za;have hlen:=h.len _ za;have zf:=h.nd;obtain⟨n1,n2,n3⟩:=yS.1 zf;obtain⟨n4,n5⟩:=yZ.1 n2;obtain⟨o1,o2,o3⟩:=yS.1 h.ord;obtain⟨o4,o5⟩:=yZ.1 o2;have z1:=fun t n=>v1i hlen hi x t n;have hold:∀g∈a++(s0,Uk p i x)::b,(g∈a++(s0,p)::b∧g.1≠s0)∨g=(s0,Uk p i x):=fun g hg=>by
   rcases yH.1 hg with hg|hg
   ·exact .inl ⟨by simp[hg],h2 g hg⟩
   ·rcases yP.1 hg with rfl|hg
    ·exact .inr rfl
    ·exact .inl ⟨by simp[hg],(n4 g hg).symm⟩
  refine⟨fun g hg=> ?_,fun g hg=> ?_,fun g hg t n=> ?_,fun g hg=> ?_,?_,fun t n hd=> ?_,?_⟩
  ·rcases hold g hg with⟨hg,_⟩|rfl
   ·exact h.len g hg
   ·simp[Uk,hlen]
  ·rcases hold g hg with⟨hg,_⟩|rfl
   ·exact h.asc g hg
   ·exact f0p hlen hi hx (h.asc _ za) (fun t n hm=>hD t n ((zd t n).1 hm).1 x.lo (xF _) hx)
  ·rcases hold g hg with⟨hg,zg⟩|rfl
   ·rw[h.mem g hg t n];constructor
    ·exact fun hh=>⟨.inl hh.1,hh.2⟩
    ·rintro⟨hd|hd,hs⟩
     ·exact⟨hd,hs⟩
     ·exact absurd (by rw[←hs,z7 t n hd]) zg
   ·rw[z1,zd];constructor
    ·rintro(⟨hd,hs⟩|hd)
     ·exact⟨.inl hd,hs⟩
     ·exact⟨.inr hd,z7 t n hd⟩
    ·rintro⟨hd|hd,hs⟩
     ·exact .inl ⟨hd,hs⟩
     ·exact .inr hd
  ·rcases hold g hg with⟨hg,_⟩|rfl
   ·exact h.ne g hg
   ·exact⟨i,x.lo,(z1 i x.lo).2 (.inr zc)⟩
  ·exact yS.2 ⟨n1,yZ.2 ⟨fun g hg=>n4 g hg,n5⟩,fun g hg k hk=>by
    rcases yP.1 hk with rfl|hk
    ·exact h2 g hg
    ·exact n3 g hg k (by simp[hk])⟩
  ·rcases hd with hd|hd
   ·obtain⟨g,hg,he⟩:=h.all t n hd;rcases yH.1 hg with hg|hg
    ·exact⟨g,by simp[hg],he⟩
    ·rcases yP.1 hg with rfl|hg
     ·exact⟨(s0,Uk p i x),by simp,he⟩
     ·exact⟨g,by simp[hg],he⟩
   ·exact⟨(s0,Uk p i x),by simp,(z7 t n hd).symm⟩
  ·refine yS.2 ⟨o1,yZ.2 ⟨fun g hg=> ?_,o5⟩,fun g hg k hk=> ?_⟩
   ·obtain⟨t,n,e1,e2⟩:=o4 g hg;exact⟨t,n,(z1 t n).2 (.inl e1),e2⟩
   ·rcases yP.1 hk with rfl|hk
    ·obtain⟨t,n,e1,e2⟩:=o3 g hg (s0,p) (by simp);refine⟨t,n,e1,fun t' n' hm=> ?_⟩;rcases(z1 t' n').1 hm with hm|hm
     ·exact e2 t' n' hm
     ·exact zb t n ((h.mem g (by simp[hg]) t n).1 e1).1 t' n' hm
    ·exact o3 g hg k (by simp[hk])
 ·have z8:∀g∈st,g.1≠sig i x.lo:=fun g hg he=>hit ⟨g,hg,he⟩;rw[Oh z8];have ze:(yB T ([]:List Iv)).length=T:=by simp
  have z1:=fun t n=>v1i ze hi x t n;have z6:∀g∈st++[(sig i x.lo,Uk (yB T []) i x)],g∈st∨g=(sig i x.lo,Uk (yB T []) i x):=fun g hg=>by
   rcases yH.1 hg with hg|hg
   ·exact .inl hg
   ·exact .inr (z_.1 hg)
  refine⟨fun g hg=> ?_,fun g hg=> ?_,fun g hg t n=> ?_,fun g hg=> ?_,?_,fun t n hd=> ?_,?_⟩
  ·rcases z6 g hg with hg|rfl
   ·exact h.len g hg
   ·simp[Uk]
  ·rcases z6 g hg with hg|rfl
   ·exact h.asc g hg
   ·exact f0p ze hi hx (fun s hs=>by obtain rfl:=vU hs;simp) (fun t n hm=>absurd hm (L7 T t n))
  ·rcases z6 g hg with hg|rfl
   ·rw[h.mem g hg t n];constructor
    ·exact fun hh=>⟨.inl hh.1,hh.2⟩
    ·rintro⟨hd|hd,hs⟩
     ·exact⟨hd,hs⟩
     ·exact absurd (by rw[←hs,z7 t n hd]) (z8 g hg)
   ·rw[z1];constructor
    ·rintro(hm|hd)
     ·exact absurd hm (L7 T t n)
     ·exact⟨.inr hd,z7 t n hd⟩
    ·rintro⟨hd|hd,hs⟩
     ·obtain⟨g,hg,he⟩:=h.all t n hd;exact absurd (he.trans hs) (z8 g hg)
     ·exact .inr hd
  ·rcases z6 g hg with hg|rfl
   ·exact h.ne g hg
   ·exact⟨i,x.lo,(z1 i x.lo).2 (.inr zc)⟩
  ·exact yS.2 ⟨h.nd,by simp,fun g hg k hk=>by obtain rfl:=z_.1 hk;exact z8 g hg⟩
  ·rcases hd with hd|hd
   ·obtain⟨g,hg,he⟩:=h.all t n hd;exact⟨g,by simp[hg],he⟩
   ·exact⟨(sig i x.lo,Uk (yB T []) i x),by simp,(z7 t n hd).symm⟩
  ·refine yS.2 ⟨h.ord,by simp,fun g hg k hk=> ?_⟩;obtain rfl:=z_.1 hk;obtain⟨t,n,e1⟩:=h.ne g hg;refine⟨t,n,e1,fun t' n' hm=> ?_⟩;rcases(z1 t' n').1 hm with hm|hm
   ·exact absurd hm (L7 T t' n')
   ·exact zb t n ((h.mem g hg t n).1 e1).1 t' n' hm
end Go.Abs
namespace Go.Abs
theorem Am:∀(cs:List Int),cs.Pairwise (·<·)→∀x∈Tz cs,x.lo≤x.hi∧x.lo∈cs∧x.hi+1∈cs∧∀d∈cs,d≤x.hi→d≤x.lo
 |[],_,x,hx=>by simp[Tz]at hx
 |[a],_,x,hx=>by simp[Tz]at hx
 |a::b::r,h,x,hx=>by
  obtain⟨h1,h2⟩:=yZ.1 h;rw[Tz]at hx;rcases yP.1 hx with rfl|hx
  ·have z1:=h1 b (by simp);refine⟨by simp only;omega,by simp,by simp,fun d hd hle=> ?_⟩;simp only at hle ⊢;rcases yP.1 hd with rfl|hd
   ·omega
   ·have:b≤d:=by
     rcases yP.1 hd with rfl|hd
     ·omega
     ·have:=(yZ.1 h2).1 d hd;omega
    omega
  ·obtain⟨k1,k2,k3,k4⟩:=Am (b::r) h2 x hx;refine⟨k1,by simp only[yP]at k2 ⊢;exact .inr k2,by simp only[yP]at k3 ⊢;exact .inr k3,fun d hd hle=> ?_⟩;rcases yP.1 hd with rfl|hd
   ·have:=h1 x.lo k2;omega
   ·exact k4 d hd hle
theorem Mu:∀(cs:List Int),cs.Pairwise (·<·)→(Tz cs).Pairwise (fun x y=>x.hi<y.lo)
 |[],_=>by simp[Tz]
 |[a],_=>by simp[Tz]
 |a::b::r,h=>by
  obtain⟨h1,h2⟩:=yZ.1 h;rw[Tz];refine yZ.2 ⟨fun y hy=> ?_,Mu (b::r) h2⟩;obtain⟨_,k2,_,_⟩:=Am (b::r) h2 y hy;have:b≤y.lo:=by
   rcases yP.1 k2 with e|k2
   ·omega
   ·have:=(yZ.1 h2).1 y.lo k2;omega
  simp only;omega
theorem Ko:∀(cs:List Int),cs.Pairwise (·<·)→∀n,(∃a∈cs,a≤n)→(∃b∈cs,n<b)→∃x∈Tz cs,x.lo≤n∧n≤x.hi
 |[],_,n,⟨a,ha,_⟩,_=>by cases ha
 |[a],_,n,⟨c,hc,h1⟩,⟨d,hd,h2⟩=>by obtain rfl:=z_.1 hc;obtain rfl:=z_.1 hd;omega
 |a::b::r,h,n,⟨c,hc,h1⟩,⟨d,hd,h2⟩=>by
  obtain⟨p1,p2⟩:=yZ.1 h;rw[Tz];have z1:a≤n:=by
   rcases yP.1 hc with rfl|hc
   ·exact h1
   ·have:=p1 c hc;omega
  by_cases hb:n<b
  ·exact⟨⟨a,b - 1⟩,by simp,z1,by simp only;omega⟩
  ·have z6:d∈b::r:=by
    rcases yP.1 hd with rfl|hd
    ·omega
    ·exact hd
   obtain⟨x,hx,e⟩:=Ko (b::r) p2 n ⟨b,by simp,by omega⟩ ⟨d,z6,h2⟩;exact⟨x,by simp[hx],e⟩
theorem Td{l:List Prd}{i:Nat}{x:Iv}:x∈Qx l i↔∃p∈l,x∈p.getD i []:=by simp[Qx]
theorem w19{T:Nat}{p:Prd}(hp:PCk T p)(i:Nat):CanonL (p.getD i []):=by
 by_cases hi:i<p.length
 ·rw[Wq hi];exact hp.2 _ (zT hi)
 ·have:p.getD i []=[]:=by simp[y_,List.getElem?_eq_none (by omega:p.length≤i)]
  rw[this];exact Pv
theorem Ya{T:Nat}{l:List Prd}(hl:∀p∈l,PCk T p)(i:Nat):(Wb l i).Pairwise (·<·)∧(-1099511627776:Int)∈Wb l i∧(1099511627777:Int)∈Wb l i∧
  (∀z∈Wb l i,-1099511627776≤z∧z≤1099511627777)∧∀p∈l,∀x∈p.getD i [],x.lo∈Wb l i∧x.hi+1∈Wb l i:=by
 obtain⟨h1,h2⟩:=u0n (⟨-1099511627776,1099511627776⟩::Qx l i);refine⟨h1,(h2 _).2 ⟨⟨-1099511627776,1099511627776⟩,by simp,.inl rfl⟩,(h2 _).2 ⟨⟨-1099511627776,1099511627776⟩,by simp,.inr (by simp)⟩,fun z hz=> ?_,fun p hp x hx=>⟨(h2 _).2 ⟨x,?_,.inl rfl⟩,(h2 _).2 ⟨x,?_,.inr rfl⟩⟩⟩
 ·obtain⟨x,hx,e⟩:=(h2 z).1 hz;rcases yP.1 hx with rfl|hx
  ·simp only at e;omega
  ·obtain⟨p,hp,hx⟩:=Td.1 hx;have hc:=w19 (hl p hp) i;have h3:=Zj hc x hx;have h4:=(W7 _).1 h3.1;have h5:=(W7 _).1 h3.2;have:=(Hj hc).1 x hx;omega
 ·exact tr _ (Td.2 ⟨p,hp,hx⟩)
 ·exact tr _ (Td.2 ⟨p,hp,hx⟩)
theorem j0e{T:Nat}{l:List Prd}(hl:∀p∈l,PCk T p)(i:Nat){x:Iv}(hx:x∈Tz (Wb l i))(n:Int)(h1:x.lo≤n)(h2:n≤x.hi):U7 l i n=U7 l i x.lo:=by obtain⟨c1,_,_,_,c5⟩:=Ya hl i;obtain⟨_,_,_,k4⟩:=Am _ c1 x hx;unfold U7;apply xZ;intro p hp;exact g08 _ (Wb l i) (c5 p hp) x.lo n h1 (fun d hd hle=>k4 d hd (by omega))
theorem C1{T:Nat}{p:Prd}(hp:p.length=T){t:Nat}(ht:t<T)(n:Int):O0 (p.getD t []) n=true↔PM p t n:=by
 have z1:t<p.length:=by omega
 rw[Wq z1,N4];unfold PM;rw[zP z1];simp
theorem x18{T:Nat}{l:List Prd}(hl:∀p∈l,PCk T p){t t':Nat}(ht:t<T)(z1:t'<T)(n n':Int):U7 l t n=U7 l t' n'↔f1c l t n t' n':=by
 unfold U7 f1c;constructor
 ·intro h p hp;have:=(List.map_inj_left.1 h) p hp;rw[←C1 (hl p hp).1 ht,←C1 (hl p hp).1 z1,this]
 ·intro h;apply xZ;intro p hp;have:=h p hp;rw[←C1 (hl p hp).1 ht,←C1 (hl p hp).1 z1]at this;exact wO.2 this
theorem GInv.congr{T:Nat}{sig:Nat→Int→List Bool}{D D':Nat→Int→Prop}{st:List (List Bool×Prd)}(h:GInv T sig D st)(e:∀t n,D t n↔D' t n):GInv T sig D' st:=by have:D=D':=funext fun t=>funext fun n=>propext (e t n);rw[←this];exact h
theorem Xl{T:Nat}{sig:Nat→Int→List Bool}:∀(A:List (Nat×Iv)) (D:Nat→Int→Prop) (st:List (List Bool×Prd)),GInv T sig D st→(∀a∈A,a.1<T∧a.2.lo≤a.2.hi∧∀n,a.2.lo≤n→n≤a.2.hi→sig a.1 n=sig a.1 a.2.lo)→
  (∀t n,D t n→∀a∈A,∀n',a.2.lo≤n'→n'≤a.2.hi→U4 t n a.1 n')→A.Pairwise (fun a b=>∀n n',a.2.lo≤n→n≤a.2.hi→b.2.lo≤n'→n'≤b.2.hi→U4 a.1 n b.1 n')→
  GInv T sig (fun t n=>D t n∨∃a∈A,k1h a t n) (A.foldl (fun st a=>Yn T a.1 (sig a.1 a.2.lo) a.2 st) st)
 |[],D,st,h,_,_,_=>h.congr (fun t n=>by simp)
 |a::A,D,st,h,h1,h2,h3=>by
  obtain⟨i,x⟩:=a;obtain⟨e1,e2,e3⟩:=h1 (i,x) (by simp);obtain⟨p1,p2⟩:=yZ.1 h3;have hs:=h.step e1 e2 e3 (fun t n hd n' q1 q2=>h2 t n hd (i,x) (by simp) n' q1 q2);rw[x_];refine(Xl A _ _ hs (fun b hb=>h1 b (by simp[hb])) (fun t n hd b hb n' q1 q2=> ?_) p2).congr (fun t n=> ?_)
  ·rcases hd with hd|hd
   ·exact h2 t n hd b (by simp[hb]) n' q1 q2
   ·obtain⟨rfl,d1,d2⟩:=hd;exact p1 b hb n n' d1 d2 q1 q2
  ·simp[or_assoc]
theorem Gr{T:Nat}{l:List Prd}{a:Nat×Iv}:a∈Jm T l↔a.1<T∧a.2∈Tz (Wb l a.1):=by
 unfold Jm;rw[wZ];constructor
 ·rintro⟨i,hi,h⟩;obtain⟨x,hx,rfl⟩:=zX.1 h;exact⟨xJ.1 hi,hx⟩
 ·rintro⟨h1,h2⟩;exact⟨a.1,xJ.2 h1,zX.2 ⟨a.2,h2,rfl⟩⟩
theorem g0h{T:Nat}{l:List Prd}(hl:∀p∈l,PCk T p):(Jm T l).Pairwise (fun a b=>∀n n',a.2.lo≤n→n≤a.2.hi→b.2.lo≤n'→n'≤b.2.hi→U4 a.1 n b.1 n'):=by
 unfold Jm;rw[uq];refine⟨fun i _=> ?_,?_⟩
 ·rw[wU];refine(Mu _ (Ya hl i).1).imp (fun {x y} h n n' h1 h2 h3 h4=> .inr ⟨rfl,by simp only at h2 h3;omega⟩)
 ·refine List.pairwise_lt_range.imp (fun {i j} h a ha b hb n n' _ _ _ _=> ?_);obtain⟨x,_,rfl⟩:=zX.1 ha;obtain⟨y,_,rfl⟩:=zX.1 hb;exact .inl h
theorem f0e{T:Nat}{l:List Prd}(hl:∀p∈l,PCk T p):GInv T (U7 l) (fun t n=>t<T∧inR n) (Ie T l):=by
 have h0:GInv T (U7 l) (fun _ _=>False) []:=⟨by simp,by simp,by simp,by simp,by simp,fun _ _ h=>h.elim,by simp⟩
 refine(Xl (Jm T l) _ [] h0 (fun a ha=> ?_) (fun _ _ h=>h.elim) (g0h hl)).congr (fun t n=> ?_)
 ·obtain⟨h1,h2⟩:=Gr.1 ha;exact⟨h1,(Am _ (Ya hl a.1).1 _ h2).1,fun n q1 q2=>j0e hl a.1 h2 n q1 q2⟩
 ·obtain⟨c1,c2,c3,c4,c5⟩:=Ya hl t;constructor
  ·rintro(h|⟨a,ha,rfl,h1,h2⟩)
   ·exact h.elim
   ·obtain⟨q1,q2⟩:=Gr.1 ha;obtain⟨s1,s2,s3,s4⟩:=Am _ c1 _ q2;have:=c4 _ s2;have:=c4 _ s3;exact⟨q1,by unfold inR;omega⟩
  ·rintro⟨h1,h2⟩;unfold inR at h2;obtain⟨x,hx,e1,e2⟩:=Ko _ c1 n ⟨_,c2,h2.1⟩ ⟨_,c3,by omega⟩;exact .inr ⟨(t,x),Gr.2 ⟨h1,hx⟩,rfl,e1,e2⟩
theorem Oa{s:List Iv}(h:(∀x∈s,x.lo≤x.hi)∧s.Pairwise (fun x y=>x.hi<y.lo)):Sep (Qy [] s)∧∀n,M (Qy [] s) n↔M s n:=by have hb:Z3 s:=h.2.imp_of_mem (fun {x y} hx hy hxy=>by have:=h.1 x hx;omega);have:=Sw s [] Lc hb h.1 (by simp);refine⟨this.1,fun n=> ?_⟩;rw[this.2 n];simp[M]
theorem Lz{T:Nat}{p:Prd}(h:∀s∈p,(∀x∈s,x.lo≤x.hi)∧s.Pairwise (fun x y=>x.hi<y.lo))(t:Nat)(n:Int):PM (Rl p) t n↔PM p t n:=by
 unfold PM Rl;rw[yI];constructor
 ·rintro⟨s,hs,hm⟩;obtain⟨a,ha,rfl⟩:=zZ.1 hs;exact⟨a,ha,((Oa (h a (zO ha))).2 n).1 hm⟩
 ·rintro⟨a,ha,hm⟩;exact⟨Qy [] a,by rw[ha];rfl,((Oa (h a (zO ha))).2 n).2 hm⟩
theorem An{T:Nat}{l:List Prd}(hl:∀p∈l,PCk T p):Prts T l (Ed T l)∧(Ed T l).Pairwise v0h:=by
 have h:=f0e hl;have z1:∀g∈Ie T l,∀t n,PM (Rl g.2) t n↔(t<T∧inR n)∧U7 l t n=g.1:=fun g hg t n=>by rw[Lz (T:=T) (h.asc g hg),h.mem g hg]
 have z6:∀p∈Ed T l,∃g∈Ie T l,p=Rl g.2:=fun p hp=>by obtain⟨g,hg,rfl⟩:=zX.1 hp;exact⟨g,hg,rfl⟩
 refine⟨⟨fun p hp=> ?_,fun p hp=> ?_,fun t n ht hn=> ?_,fun p hp t n hm t' n'=> ?_⟩,?_⟩
 ·obtain⟨g,hg,rfl⟩:=z6 p hp;refine⟨by simp[Rl,h.len g hg],fun s hs=> ?_⟩;obtain⟨i,hi⟩:=yR.1 hs;have z7:=hs;obtain⟨a,ha,rfl⟩:=zX.1 hs;exact⟨(Oa (h.asc g hg a ha)).1,fun n hn=>((z1 g hg i n).1 ⟨_,hi,hn⟩).1.2⟩
 ·obtain⟨g,hg,rfl⟩:=z6 p hp;obtain⟨t,n,hm⟩:=h.ne g hg;exact⟨t,n,(Lz (T:=T) (h.asc g hg) t n).2 hm⟩
 ·obtain⟨g,hg,he⟩:=h.all t n ⟨ht,hn⟩;exact⟨Rl g.2,zX.2 ⟨g,hg,rfl⟩,(z1 g hg t n).2 ⟨⟨ht,hn⟩,he.symm⟩⟩
 ·obtain⟨g,hg,rfl⟩:=z6 p hp;obtain⟨⟨q1,q2⟩,q3⟩:=(z1 g hg t n).1 hm;rw[z1 g hg];constructor
  ·rintro⟨⟨h1,h2⟩,h3⟩;exact⟨h1,h2,(x18 hl q1 h1 n n').1 (q3.trans h3.symm)⟩
  ·rintro⟨h1,h2,h3⟩;exact⟨⟨h1,h2⟩,((x18 hl q1 h1 n n').2 h3).symm.trans q3⟩
 ·unfold Ed;rw[wU];refine h.ord.imp_of_mem (fun {a b} ha hb hab=> ?_);obtain⟨t,n,e1,e2⟩:=hab;exact⟨t,n,(Lz (T:=T) (h.asc a ha) t n).2 e1,fun t' n' hm=>e2 t' n' ((Lz (T:=T) (h.asc b hb) t' n').1 hm)⟩
theorem A4{T:Nat}(hT:0<T){l:List Prd}(hl:∀p∈l,PCk T p):Ed T l=Q3 T l:=by obtain⟨a1,a2⟩:=An hl;obtain⟨b1,b2⟩:=Us hT hl;exact a1.unique b1 a2 b2
end Go.Abs
namespace Go.Abs
structure Sy where
 ty:Int
 num:Int
deriving Inhabited,DecidableEq
structure Mv where
 src:Int
 dst:Int
 on:Prd
deriving Inhabited
structure Aut where
 types:Int
 fin:List Bool
 mv:List Mv
deriving Inhabited
def Ul:Aut:=⟨0,[],[]⟩
def y0i:List (List Iv)→Int
 |[]=>0
 |s::r=>if ckR s≠0 then ckR s else y0i r
def E8(T:Int)(p:Prd):Int:=if T<1∨16<T then 2 else if(p.length:Int)≠T then 15 else y0i p
def y0p(T:Int)(n:Nat):List Mv→Int
 |[]=>0
 |m::r=>if ¬((0≤m.src∧m.src<n)∧(0≤m.dst∧m.dst<n))then 2 else if E8 T m.on≠0 then E8 T m.on else y0p T n r
def Wg(a:Aut):Int:=if a.types<1∨16<a.types then 2 else if a.fin.length<1∨256<a.fin.length∨2048<a.mv.length then 5 else y0p a.types a.fin.length a.mv
theorem q0w:∀(p:List (List Iv)),y0i p=0↔∀s∈p,CanonL s
 |[]=>by simp[y0i]
 |s::r=>by
  rw[y0i];by_cases h:ckR s=0
  ·rw[if_neg (fun k=>k h),q0w r];simp[(Xj s).1 h]
  ·rw[if_pos h];refine⟨fun k=>absurd k h,fun k=>absurd ((Xj s).2 (k s (by simp))) h⟩
theorem Es(T:Int)(p:Prd):E8 T p=0↔(1≤T∧T≤16)∧PCk T.toNat p:=by
 unfold E8 PCk;by_cases h1:T<1∨16<T
 ·rw[if_pos h1];exact⟨fun h=>by omega,fun h=>by omega⟩
 ·rw[if_neg h1];by_cases h2:(p.length:Int)≠T
  ·rw[if_pos h2];exact⟨fun h=>by omega,fun h=>by omega⟩
  ·rw[if_neg h2,q0w];exact⟨fun h=>⟨by omega,by omega,h⟩,fun h=>h.2.2⟩
structure OkMv (T:Nat) (n:Nat) (m:Mv):Prop where
 src:0≤m.src∧m.src<n
 dst:0≤m.dst∧m.dst<n
 on:PCk T m.on
structure OkA (a:Aut):Prop where
 types:1≤a.types∧a.types≤16
 fin:1≤a.fin.length∧a.fin.length≤256
 mvs:a.mv.length≤2048
 mv:∀m∈a.mv,OkMv a.types.toNat a.fin.length m
theorem M0{T:Int}(hT:1≤T∧T≤16)(n:Nat):∀(l:List Mv),y0p T n l=0↔∀m∈l,OkMv T.toNat n m
 |[]=>by simp[y0p]
 |m::r=>by
  rw[y0p];by_cases h1:(0≤m.src∧m.src<n)∧(0≤m.dst∧m.dst<n)
  ·rw[if_neg (fun k=>k h1)];by_cases h2:E8 T m.on=0
   ·rw[if_neg (fun k=>k h2),M0 hT n r];have h3:=((Es T m.on).1 h2).2;constructor
    ·intro h x hx;rcases yP.1 hx with rfl|hx
     ·exact⟨h1.1,h1.2,h3⟩
     ·exact h x hx
    ·exact fun h x hx=>h x (by simp[hx])
   ·rw[if_pos h2];exact⟨fun h=>absurd h h2,fun h=>absurd ((Es T m.on).2 ⟨hT,(h m (by simp)).on⟩) h2⟩
  ·rw[if_pos h1];exact⟨fun h=>(by cases h),fun h=>absurd ⟨(h m (by simp)).src,(h m (by simp)).dst⟩ h1⟩
theorem Ut(a:Aut):Wg a=0↔OkA a:=by
 unfold Wg;by_cases h1:a.types<1∨16<a.types
 ·rw[if_pos h1];exact⟨fun h=>(by cases h),fun h=>by have:=h.types;omega⟩
 ·rw[if_neg h1];by_cases h2:a.fin.length<1∨256<a.fin.length∨2048<a.mv.length
  ·rw[if_pos h2];exact⟨fun h=>(by cases h),fun h=>by have:=h.fin;have:=h.mvs;omega⟩
  ·rw[if_neg h2,M0 (by omega)];exact⟨fun h=>⟨by omega,by omega,by omega,h⟩,fun h=>h.mv⟩
def Tn(p:Prd)(x:Sy):Bool:=decide (0≤x.ty) && decide (x.ty<p.length) && O0 (p.getD x.ty.toNat []) x.num
def Z6(T:Int)(x:Sy):Int:=if x.ty<0∨T≤x.ty then 6 else if x.num< -1099511627776∨1099511627776<x.num then 2 else 0
theorem w1d(T:Int)(x:Sy):Z6 T x=0↔(0≤x.ty∧x.ty<T)∧inR x.num:=by
 unfold Z6 inR;split
 ·constructor
  ·intro h;cases h
  ·intro h;omega
 ·split
  ·constructor
   ·intro h;cases h
   ·intro h;omega
  ·constructor
   ·intro _;omega
   ·intro _;rfl
theorem Ex{T:Nat}{p:Prd}(hp:p.length=T)(x:Sy)(hx:0≤x.ty):Tn p x=true↔PM p x.ty.toNat x.num:=by
 unfold Tn;by_cases h:x.ty<p.length
 ·have h1:x.ty.toNat<T:=by omega
  rw[←C1 hp h1];simp[h,hx]
 ·have:¬PM p x.ty.toNat x.num:=by rintro⟨s,hs,_⟩;have:=(zE.1 hs).1;omega
  simp[h,this]
def Rt(n:Nat):List Int:=(yV n).map fun i:Nat=>(i:Int)
theorem Ru{n:Nat}{z:Int}:z∈Rt n↔0≤z∧z<n:=by
 unfold Rt;rw[zX];constructor
 ·rintro⟨i,hi,rfl⟩;have:=xJ.1 hi;omega
 ·rintro⟨h1,h2⟩;exact⟨z.toNat,xJ.2 (by omega),by omega⟩
theorem Gj(n:Nat):(Rt n).Pairwise (·<·):=by unfold Rt;rw[wU];exact List.pairwise_lt_range.imp (fun h=>by omega)
def c1s(a:Aut)(l:List Int)(x:Sy)(j:Int):Bool:=a.mv.any fun m=>l.contains m.src && Tn m.on x && decide (m.dst=j)
def Wh(a:Aut)(l:List Int)(x:Sy):List Int:=(Rt a.fin.length).filter (c1s a l x)
def k1w(a:Aut)(l:List Int)(x:Sy):List Int:=Go.Lib.compact (R8 ((a.mv.filter fun m=>l.contains m.src && Tn m.on x).map (·.dst)))
theorem x1h(zs:List Int):(R8 zs).Pairwise (·≤·):=by have:=uZ (le:=fun x y:Int=>decide (x≤y)) (fun a b c h1 h2=>by simp at h1 h2 ⊢;omega) (fun a b=>by simp;omega) zs;simpa[R8]using this
theorem Cc(zs:List Int):(Go.Lib.compact (R8 zs)).Pairwise (·<·)∧∀z,z∈Go.Lib.compact (R8 zs)↔z∈zs:=by have h:=Vh _ (x1h zs) _ (zW _);refine⟨h.1,fun z=> ?_⟩;have h2:=h.2 z;rw[xB]at h2;rw[Go.Lib.compact,h2,R8,tA]
theorem Uc{a b:List Int}(ha:a.Pairwise (·<·))(hb:b.Pairwise (·<·))(h:∀z,z∈a↔z∈b):a=b:=by have hn:∀ {l:List Int},l.Pairwise (·<·)→l.Nodup:=fun hl=>hl.imp (fun h e=>by omega);exact List.Perm.eq_of_pairwise (le:=(·<·)) (fun a b _ _ h1 h2=>by omega) ha hb ((uS (hn ha) (hn hb)).2 h)
theorem Up(a:Aut)(l:List Int)(x:Sy):(Wh a l x).Pairwise (·<·):=(Gj _).filter _
theorem Ra{a:Aut}{l:List Int}{x:Sy}{j:Int}:j∈Wh a l x↔(0≤j∧j<a.fin.length)∧∃m∈a.mv,m.src∈l∧Tn m.on x=true∧m.dst=j:=by unfold Wh c1s;rw[xU,Ru,vK];simp[and_assoc]
theorem j19{a:Aut}(h:∀m∈a.mv,0≤m.dst∧m.dst<a.fin.length)(l:List Int)(x:Sy):k1w a l x=Wh a l x:=by
 obtain⟨h1,h2⟩:=Cc ((a.mv.filter fun m=>l.contains m.src && Tn m.on x).map (·.dst));refine Uc h1 (Up a l x) fun z=> ?_;rw[k1w,h2,Ra];constructor
 ·intro hz;obtain⟨m,hm,rfl⟩:=zX.1 hz;obtain⟨hm,hc⟩:=xU.1 hm;simp at hc;exact⟨h m hm,m,hm,hc.1,hc.2,rfl⟩
 ·rintro⟨_,m,hm,c1,c2,rfl⟩;exact zX.2 ⟨m,xU.2 ⟨hm,by simp[c1,c2]⟩,rfl⟩
theorem Pz{a:Aut}{l:List Int}{x:Sy}:∀j∈Wh a l x,0≤j∧j<a.fin.length:=fun j hj=>(Ra.1 hj).1
def Qn(p:Prd):Sy:=⟨(Qz p 0).1,(Qz p 0).2⟩
def Hx(Q:List (List Int))(x:List Int):List (List Int):=if x=[]∨x∈Q then Q else Q++[x]
def Ec(Q:List (List Int))(xs:List (List Int)):List (List Int):=xs.foldl Hx Q
def Ta(a:Aut)(cl:List Prd)(l:List Int):List (List Int):=cl.map fun c=>Wh a l (Qn c)
def x08(a:Aut)(cl:List Prd):Nat→Nat→List (List Int)→Option (List (List Int))
 |0,_,_=>none
 |f+1,i,Q=>match Q[i]? with
  |some l=>if 256<(Ec Q (Ta a cl l)).length then none else x08 a cl f (i+1) (Ec Q (Ta a cl l))
  |none=>some Q
theorem y1c(Q:List (List Int))(x:List Int):∃R,Hx Q x=Q++R∧∀y∈R,y=x∧x≠[]:=by
 unfold Hx;split
 ·exact⟨[],by simp,by simp⟩
 ·rename_i h;exact⟨[x],rfl,fun y hy=>⟨z_.1 hy,fun e=>h (.inl e)⟩⟩
theorem Y2:∀(xs:List (List Int)) (Q:List (List Int)),∃R,Ec Q xs=Q++R∧∀y∈R,y∈xs∧y≠[]
 |[],Q=>⟨[],by simp[Ec],by simp⟩
 |x::xs,Q=>by
  obtain⟨R1,h1,h2⟩:=y1c Q x;obtain⟨R2,h3,h4⟩:=Y2 xs (Hx Q x);refine⟨R1++R2,?_,fun y hy=> ?_⟩
  ·show Ec (Hx Q x) xs=_;rw[h3,h1,List.append_assoc]
  ·rcases yH.1 hy with hy|hy
   ·obtain⟨rfl,hn⟩:=h2 y hy;exact⟨by simp,hn⟩
   ·exact⟨by simp[(h4 y hy).1],(h4 y hy).2⟩
theorem y0x(Q xs:List (List Int)):Q.length≤(Ec Q xs).length:=by obtain⟨R,h,_⟩:=Y2 xs Q;rw[h];simp
theorem w1y{Q:List (List Int)}{x:List Int}(hx:x≠[]):x∈Hx Q x:=by
 unfold Hx;split
 ·rename_i h;rcases h with h|h
  ·exact absurd h hx
  ·exact h
 ·simp
theorem Jl:∀ {xs:List (List Int)} {Q:List (List Int)} {x:List Int},x∈xs→x≠[]→x∈Ec Q xs
 |[],_,_,h,_=>by cases h
 |y::xs,Q,x,h,hn=>by
  show x∈Ec (Hx Q y) xs;rcases yP.1 h with rfl|h
  ·obtain⟨R,e,_⟩:=Y2 xs (Hx Q x);rw[e];exact xL _ (w1y hn)
  ·exact Jl h hn
def x11(Q:List (List Int)):List (List Int)→Option (List (List Int))
 |[]=>some Q
 |x::xs=>if 256<(Hx Q x).length then none else x11 (Hx Q x) xs
end Go.Abs
namespace Go.Abs
def Rq(p q:Prd):Prd:=sd (fun a b=>Ej (a++b)) p q
theorem P4{T:Nat}{p q:Prd}(hp:PWf T p)(hq:PWf T q)(t:Nat)(n:Int):PM (Rq p q) t n↔PM p t n∨PM q t n:=by
 have hf:∀ {a b:List Iv},a∈p→b∈q→∀x∈a++b,x.lo≤x.hi:=fun ha hb x hx=>by
  rcases yH.1 hx with hx|hx
  ·exact(hp.2 _ ha).1.1 x hx
  ·exact(hq.2 _ hb).1.1 x hx
 unfold PM Rq;rw[vL];constructor
 ·rintro⟨s,hs,hm⟩;cases h1:p[t]? with
  |none=>rw[h1]at hs;simp at hs
  |some a=>
   cases h2:q[t]? with
   |none=>rw[h1,h2]at hs;simp at hs
   |some b=>
    rw[h1,h2]at hs;simp at hs;subst hs;have:=((Ur _ (hf (zO h1) (zO h2))).2 n).1 hm;rcases(Lo ..).1 this with h|h
    ·exact .inl ⟨a,rfl,h⟩
    ·exact .inr ⟨b,rfl,h⟩
 ·intro h;have z1:t<T:=by
   rcases h with⟨s,hs,_⟩|⟨s,hs,_⟩
   ·rw[←hp.1];exact(zE.1 hs).1
   ·rw[←hq.1];exact(zE.1 hs).1
  have h1:t<p.length:=by rw[hp.1];exact z1
  have h2:t<q.length:=by rw[hq.1];exact z1
  rw[zP h1,zP h2]at h ⊢;refine⟨_,rfl,((Ur _ (hf (zT h1) (zT h2))).2 n).2 ((Lo ..).2 ?_)⟩;rcases h with⟨s,hs,hm⟩|⟨s,hs,hm⟩
  ·cases hs;exact .inl hm
  ·cases hs;exact .inr hm
theorem Fk{T:Nat}{p q:Prd}(hp:PWf T p)(hq:PWf T q):PWf T (Rq p q):=by
 refine⟨by simp[Rq,hp.1,hq.1],fun s hs=> ?_⟩;obtain⟨i,hi⟩:=yR.1 hs;have z1:=hi;unfold Rq at hi;rw[vL]at hi;cases h1:p[i]? with
 |none=>rw[h1]at hi;simp at hi
 |some a=>
  cases h2:q[i]? with
  |none=>rw[h1,h2]at hi;simp at hi
  |some b=>
   rw[h1,h2]at hi;simp at hi;subst hi;refine⟨(Ur _ fun x hx=> ?_).1,fun n hn=> ?_⟩
   ·rcases yH.1 hx with hx|hx
    ·exact(hp.2 _ (zO h1)).1.1 x hx
    ·exact(hq.2 _ (zO h2)).1.1 x hx
   ·rcases(P4 hp hq i n).1 ⟨_,z1,hn⟩with h|h
    ·exact(hp.lt h).2
    ·exact(hq.lt h).2
def v0m(Q:List (List Int))(x:List Int):Option Nat:=Q.findIdx? fun y=>decide (y=x)
theorem Gx{Q:List (List Int)}{x:List Int}{t:Nat}(h:v0m Q x=some t):Q[t]? =some x:=by unfold v0m at h;obtain⟨h1,h2,_⟩:=xP.1 h;rw[zP h1];simpa using h2
theorem k0u{Q:List (List Int)}(hn:Q.Nodup){t:Nat}{x:List Int}(h:Q[t]? =some x):v0m Q x=some t:=by
 unfold v0m;obtain⟨h1,h2⟩:=zE.1 h;refine xP.2 ⟨h1,by simpa using h2,fun j hj=> ?_⟩;have z1:Q[j]≠Q[t]:=fun e=>by have:=(ua hn).1 e;omega
 rw[h2]at z1;simpa using z1
def Tp(n:Nat)(g:List Mv)(to:Nat)(c:Prd):List Mv:=match g.findIdx? fun m:Mv=>decide (m.dst=(to:Int))with
 |none=>g++[⟨n,to,c⟩]
 |some i=>match g[i]? with
  |some m=>g.set i { m with on:=Rq m.on c }
  |none=>g
def Xz(a:Aut)(cl:List Prd)(Q:List (List Int))(n:Nat)(l:List Int):List Mv:=
 cl.foldl (fun g c=>match v0m Q (Wh a l (Qn c))with|some t=>Tp n g t c|none=>g) []
def Nt(a:Aut)(cl:List Prd)(Q:List (List Int)):List Mv:=(yV Q.length).flatMap fun n=>Xz a cl Q n (Q.getD n [])
def Hs(a:Aut)(l:List Int):Bool:=l.any fun s=>a.fin.getD s.toNat false
def Y1(a:Aut)(cl:List Prd)(Q:List (List Int)):Aut:=⟨a.types,Q.map (Hs a),Nt a cl Q⟩
structure MInv (T N n:Nat) (D:Nat→Nat→Int→Prop) (g:List Mv):Prop where
 wf:∀m∈g,PWf T m.on
 src:∀m∈g,m.src=n
 dst:∀m∈g,∃t:Nat,t<N∧m.dst=t
 nd:g.Pairwise (fun m k=>m.dst≠k.dst)
 mem:∀m∈g,∀t:Nat,m.dst=t→∀ty y,PM m.on ty y↔D t ty y
 all:∀t ty y,D t ty y→∃m∈g,m.dst=(t:Int)
theorem MInv.add{T N n:Nat}{D:Nat→Nat→Int→Prop}{g:List Mv}(h:MInv T N n D g){to:Nat}(ht:to<N){c:Prd}(hc:PWf T c)(zh:∃ty y,PM c ty y):
  MInv T N n (fun t ty y=>D t ty y∨(t=to∧PM c ty y)) (Tp n g to c):=by
 unfold Tp;cases hf:g.findIdx? fun m:Mv=>decide (m.dst=(to:Int))with
 |none=>
  rw[List.findIdx?_eq_none_iff]at hf;have z7:∀m∈g,m.dst≠(to:Int):=fun m hm=>by simpa using hf m hm
  show MInv T N n _ (g++[⟨n,to,c⟩]);have z1:∀m∈g++[(⟨n,to,c⟩:Mv)],m∈g∨m=⟨n,to,c⟩:=fun m hm=>by
   rcases yH.1 hm with hm|hm
   ·exact .inl hm
   ·exact .inr (z_.1 hm)
  have hD:∀ty y,¬D to ty y:=fun ty y hd=>by obtain⟨m,hm,e⟩:=h.all to ty y hd;exact z7 m hm e
  refine⟨fun m hm=> ?_,fun m hm=> ?_,fun m hm=> ?_,?_,fun m hm t e ty y=> ?_,fun t ty y hd=> ?_⟩
  ·rcases z1 m hm with hm|rfl
   ·exact h.wf m hm
   ·exact hc
  ·rcases z1 m hm with hm|rfl
   ·exact h.src m hm
   ·rfl
  ·rcases z1 m hm with hm|rfl
   ·exact h.dst m hm
   ·exact⟨to,ht,rfl⟩
  ·exact yS.2 ⟨h.nd,by simp,fun m hm k hk=>by obtain rfl:=z_.1 hk;exact z7 m hm⟩
  ·rcases z1 m hm with hm'|rfl
   ·rw[h.mem m hm' t e];constructor
    ·exact fun hd=> .inl hd
    ·rintro(hd|⟨e2,_⟩)
     ·exact hd
     ·exact absurd (by rw[e,e2]) (z7 m hm')
   ·have:t=to:=by simp at e;omega
    subst this;constructor
    ·exact fun hd=> .inr ⟨rfl,hd⟩
    ·rintro(hd|⟨_,hd⟩)
     ·exact absurd hd (hD ty y)
     ·exact hd
  ·rcases hd with hd|⟨rfl,_⟩
   ·obtain⟨m,hm,e⟩:=h.all t ty y hd;exact⟨m,by simp[hm],e⟩
   ·exact⟨⟨n,t,c⟩,by simp,rfl⟩
 |some i=>
  obtain⟨hi,zf,_⟩:=xP.1 hf;simp only[zP hi];have z6:g[i].dst=(to:Int):=by simpa using zf
  have z8:=zT hi;have hw:=h.wf _ z8;have z1:∀m∈g.set i { g[i]with on:=Rq g[i].on c },(m∈g∧m.dst≠(to:Int))∨m={ g[i]with on:=Rq g[i].on c }:=fun m hm=>by
   obtain⟨j,hj⟩:=yR.1 hm;by_cases hij:i=j
   ·subst hij;rw[zU hi]at hj;exact .inr (Option.some.inj hj).symm
   ·rw[zH hij]at hj;obtain⟨zc,zd⟩:=zE.1 hj;refine .inl ⟨zO hj,fun e=> ?_⟩;rcases uM hij with hlt|hgt
    ·exact yU.1 h.nd i j hi zc hlt (by rw[zd,e,z6])
    ·exact yU.1 h.nd j i zc hi hgt (by rw[zd,e,z6])
  refine⟨fun m hm=> ?_,fun m hm=> ?_,fun m hm=> ?_,?_,fun m hm t e ty y=> ?_,fun t ty y hd=> ?_⟩
  ·rcases z1 m hm with⟨hm,_⟩|rfl
   ·exact h.wf m hm
   ·exact Fk hw hc
  ·rcases z1 m hm with⟨hm,_⟩|rfl
   ·exact h.src m hm
   ·have:=h.src g[i] z8;simpa using this
  ·rcases z1 m hm with⟨hm,_⟩|rfl
   ·exact h.dst m hm
   ·exact⟨to,ht,z6⟩
  ·have za:(g.set i { g[i]with on:=Rq g[i].on c }).map (·.dst)=g.map (·.dst):=by
    apply List.ext_getElem?;intro j;rw[yI,yI];by_cases hij:i=j
    ·subst hij;rw[zU hi,zP hi];rfl
    ·rw[zH hij]
   have hp:(g.map (·.dst)).Pairwise (·≠·):=wU.2 h.nd;rw[←za]at hp;exact wU.1 hp
  ·rcases z1 m hm with⟨hm,zg⟩|rfl
   ·rw[h.mem m hm t e];constructor
    ·exact fun hd=> .inl hd
    ·rintro(hd|⟨rfl,_⟩)
     ·exact hd
     ·exact absurd e zg
   ·have:t=to:=by simp only at e;omega
    subst this;have zb:=P4 hw hc ty y;have ze:=h.mem _ z8 t z6 ty y;constructor
    ·intro hd;rcases zb.1 hd with hd|hd
     ·exact .inl (ze.1 hd)
     ·exact .inr ⟨rfl,hd⟩
    ·rintro(hd|⟨_,hd⟩)
     ·exact zb.2 (.inl (ze.2 hd))
     ·exact zb.2 (.inr hd)
  ·rcases hd with hd|⟨rfl,_⟩
   ·obtain⟨m,hm,e⟩:=h.all t ty y hd;obtain⟨j,hj⟩:=yR.1 hm;by_cases hij:i=j
    ·subst hij;rw[zP hi]at hj;cases hj;exact⟨_,zO (zU hi),e⟩
    ·exact⟨m,zO (by rw[zH hij];exact hj),e⟩
   ·exact⟨_,zO (zU hi),z6⟩
theorem MInv.congr{T N n:Nat}{D D':Nat→Nat→Int→Prop}{g:List Mv}(h:MInv T N n D g)(e:∀t ty y,D t ty y↔D' t ty y):MInv T N n D' g:=by have:D=D':=funext fun t=>funext fun ty=>funext fun y=>propext (e t ty y);rw[←this];exact h
theorem Ap{T:Nat}{a:Aut}{cl:List Prd}{Q:List (List Int)}(n:Nat)(l:List Int)(hw:∀c∈cl,PWf T c∧∃ty y,PM c ty y):
  MInv T Q.length n (fun t ty y=>∃c∈cl,v0m Q (Wh a l (Qn c))=some t∧PM c ty y) (Xz a cl Q n l):=by
 have key:∀(r:List Prd) (D:Nat→Nat→Int→Prop) (g:List Mv),MInv T Q.length n D g→(∀c∈r,PWf T c∧∃ty y,PM c ty y)→
   MInv T Q.length n (fun t ty y=>D t ty y∨∃c∈r,v0m Q (Wh a l (Qn c))=some t∧PM c ty y) (r.foldl (fun g c=>match v0m Q (Wh a l (Qn c))with|some t=>Tp n g t c|none=>g) g):=by
  intro r;induction r with
  |nil=>intro D g h _;exact h.congr (fun t ty y=>by simp)
  |cons c r ih=>
   intro D g h hr;rw[x_];cases hx:v0m Q (Wh a l (Qn c))with
   |none=>refine(ih D g h (fun d hd=>hr d (by simp[hd]))).congr (fun t ty y=> ?_);simp[hx]
   |some to=>
    have z1:=(zE.1 (Gx hx)).1;have hc:=hr c (by simp);refine(ih _ _ (h.add z1 hc.1 hc.2) (fun d hd=>hr d (by simp[hd]))).congr (fun t ty y=> ?_);simp only[yP,exists_eq_or_imp,hx,Option.some.injEq,or_assoc];constructor
    ·rintro(h|⟨e,h⟩|h)
     ·exact .inl h
     ·exact .inr (.inl ⟨e.symm,h⟩)
     ·exact .inr (.inr h)
    ·rintro(h|⟨e,h⟩|h)
     ·exact .inl h
     ·exact .inr (.inl ⟨e.symm,h⟩)
     ·exact .inr (.inr h)
 have h0:MInv T Q.length n (fun _ _ _=>False) []:=⟨by simp,by simp,by simp,by simp,by simp,fun _ _ _ h=>h.elim⟩
 exact(key cl _ [] h0 hw).congr (fun t ty y=>by simp)
end Go.Abs
namespace Go.Abs
structure Cls (a:Aut) (cl:List Prd):Prop where
 ok:OkA a
 prts:Prts a.types.toNat (a.mv.map (·.on)) cl
 wf:∀c∈cl,PWf a.types.toNat c∧∃ty y,PM c ty y
theorem x10{a:Aut}(h:OkA a):Cls a (Q3 a.types.toNat (a.mv.map (·.on))):=by
 have hT:0<a.types.toNat:=by have:=h.types;omega
 have hp:=(Us hT (l:=a.mv.map (·.on)) (fun p hp=>by obtain⟨m,hm,rfl⟩:=zX.1 hp;exact(h.mv m hm).on)).1;exact⟨h,hp,fun c hc=>⟨hp.wf c hc,hp.ne c hc⟩⟩
def Ew(a:Aut)(x:Sy):Prop:=(0≤x.ty∧x.ty<a.types)∧inR x.num
theorem x0l{a:Aut}{l:List Int}{x y:Sy}(h:∀m∈a.mv,Tn m.on x=Tn m.on y):Wh a l x=Wh a l y:=by
 refine Uc (Up ..) (Up ..) fun z=> ?_;rw[Ra,Ra];constructor
 ·rintro⟨h1,m,hm,h2,h3,h4⟩;exact⟨h1,m,hm,h2,by rw[←h m hm];exact h3,h4⟩
 ·rintro⟨h1,m,hm,h2,h3,h4⟩;exact⟨h1,m,hm,h2,by rw[h m hm];exact h3,h4⟩
theorem Cls.of{a:Aut}{cl:List Prd}(h:Cls a cl){x:Sy}(hx:Ew a x):∃c∈cl,PM c x.ty.toNat x.num∧∀l,Wh a l x=Wh a l (Qn c):=by obtain⟨c,hc,hm⟩:=h.prts.all x.ty.toNat x.num (by have:=hx.1;omega) hx.2;refine⟨c,hc,hm,fun l=>x0l fun m z1=> ?_⟩;have h1:=(Ww (h.wf c hc).1 (h.wf c hc).2).1;have h2:=((h.prts.cls c hc _ _ hm _ _).1 h1).2.2 m.on (zX.2 ⟨m,z1,rfl⟩);have hl:=(h.ok.mv m z1).on.1;rw[wO,Ex hl x hx.1.1,Ex hl (Qn c) (by simp[Qn])];simpa[Qn]using h2
theorem Cls.same{a:Aut}{cl:List Prd}(h:Cls a cl){c:Prd}(hc:c∈cl){x:Sy}(hx:Ew a x)(hm:PM c x.ty.toNat x.num)(l:List Int):Wh a l x=Wh a l (Qn c):=by obtain⟨d,hd,z1,e⟩:=h.of hx;rw[e l,h.prts.disj hd hc z1 hm]
structure Sub (a:Aut) (cl:List Prd) (Q:List (List Int)):Prop where
 first:Q[0]? =some [0]
 nd:Q.Nodup
 ne:∀l∈Q,l≠[]
 lim:Q.length≤256
 elem:∀l∈Q,l.Pairwise (·<·)∧∀s∈l,0≤s∧s<a.fin.length
 closed:∀l∈Q,∀c∈cl,Wh a l (Qn c)=[]∨Wh a l (Qn c)∈Q
theorem w08{Q:List (List Int)}{x:List Int}(h:Q.Nodup):(Hx Q x).Nodup:=by
 unfold Hx;split
 ·exact h
 ·rename_i hx;exact List.nodup_append.2 ⟨h,by simp,fun a ha b hb e=>by
   obtain rfl:=z_.1 hb;subst e;exact hx (.inr ha)⟩
theorem Da:∀(xs:List (List Int)) {Q:List (List Int)},Q.Nodup→(Ec Q xs).Nodup
 |[],_,h=>h
 |x::xs,Q,h=>Da xs (w08 (x:=x) h)
theorem k0k{a:Aut}(ha:OkA a)(cl:List Prd):∀(f i:Nat) (Q R:List (List Int)),x08 a cl f i Q=some R→Q[0]? =some [0]→Q.Nodup→(∀l∈Q,l≠[])→Q.length≤256→(∀l∈Q,l.Pairwise (·<·)∧∀s∈l,0≤s∧s<a.fin.length)→
  (∀j,j<i→∀l,Q[j]? =some l→∀c∈cl,Wh a l (Qn c)=[]∨Wh a l (Qn c)∈Q)→Sub a cl R
 |0,_,_,_,h,_,_,_,_,_,_=>by cases h
 |f+1,i,Q,R,h,h1,h2,h3,h4,h5,h6=>by
  rw[x08]at h;cases hq:Q[i]? with
  |none=>rw[hq]at h;simp only[Option.some.injEq]at h;subst h;have hi:Q.length≤i:=List.getElem?_eq_none_iff.1 hq;refine⟨h1,h2,h3,h4,h5,fun l hl c hc=> ?_⟩;obtain⟨j,hj⟩:=yR.1 hl;exact h6 j (by have:=(zE.1 hj).1;omega) l hj c hc
  |some l=>
   rw[hq]at h;simp only at h;by_cases hlim:256<(Ec Q (Ta a cl l)).length
   ·rw[if_pos hlim]at h;cases h
   ·rw[if_neg hlim]at h;obtain⟨X,hX,z6⟩:=Y2 (Ta a cl l) Q;have hlen:0<Q.length:=(zE.1 h1).1;have z1:∀y∈Ec Q (Ta a cl l),y∈Q∨(y≠[]∧∃c∈cl,y=Wh a l (Qn c)):=fun y hy=>by
     rw[hX]at hy;rcases yH.1 hy with hy|hy
     ·exact .inl hy
     ·obtain⟨p1,p2⟩:=z6 y hy;obtain⟨c,hc,rfl⟩:=zX.1 p1;exact .inr ⟨p2,c,hc,rfl⟩
    refine k0k ha cl f (i+1) _ R h ?_ (Da _ h2) ?_ (by omega) ?_ ?_
    ·rw[hX,zI hlen];exact h1
    ·intro y hy;rcases z1 y hy with hy|⟨hy,_⟩
     ·exact h3 y hy
     ·exact hy
    ·intro y hy;rcases z1 y hy with hy|⟨_,c,_,rfl⟩
     ·exact h5 y hy
     ·exact⟨Up ..,Pz⟩
    ·intro j hj k hk c hc;by_cases hji:j<i
     ·have z7:j<Q.length:=by have:=(zE.1 hq).1;omega
      rw[hX,zI z7]at hk;rcases h6 j hji k hk c hc with h7|h7
      ·exact .inl h7
      ·right;rw[hX];exact xL _ h7
     ·have:j=i:=by omega
      subst this;rw[hX,zI (zE.1 hq).1,hq]at hk;cases hk;by_cases hn:Wh a l (Qn c)=[]
      ·exact .inl hn
      ·exact .inr (Jl (zX.2 ⟨c,hc,rfl⟩) hn)
def Zq(a:Aut)(cl:List Prd):Option (List (List Int)):=x08 a cl 257 0 [[0]]
theorem j0r{a:Aut}(ha:OkA a){cl:List Prd}{Q:List (List Int)}(h:Zq a cl=some Q):Sub a cl Q:=
 k0k ha cl 257 0 [[0]] Q h rfl (by simp) (by simp) (by simp) (by intro l hl;obtain rfl:=z_.1 hl;exact⟨by simp,fun s hs=>by obtain rfl:=z_.1 hs;have:=ha.fin;omega⟩) (fun j hj=>by omega)
theorem Sub.step{a:Aut}{cl:List Prd}{Q:List (List Int)}(hs:Sub a cl Q)(hc:Cls a cl){l:List Int}(hl:l∈Q){x:Sy}(hx:Ew a x):Wh a l x=[]∨Wh a l x∈Q:=by obtain⟨c,h1,_,h3⟩:=hc.of hx;rw[h3 l];exact hs.closed l hl c h1
theorem Ib{a:Aut}{cl:List Prd}{Q:List (List Int)}{m:Mv}:m∈Nt a cl Q↔∃n l,Q[n]? =some l∧m∈Xz a cl Q n l:=by
 unfold Nt;rw[wZ];constructor
 ·rintro⟨n,hn,hm⟩;have z1:=xJ.1 hn;refine⟨n,Q[n],zP z1,?_⟩;simpa[y_,z1]using hm
 ·rintro⟨n,l,hl,hm⟩;have z1:=(zE.1 hl).1;refine⟨n,xJ.2 z1,?_⟩;simpa[y_,hl]using hm
theorem D2{a:Aut}{cl:List Prd}{Q:List (List Int)}(hc:Cls a cl)(hs:Sub a cl Q){n:Nat}{l:List Int}(hl:Q[n]? =some l){x:Sy}(hx:Ew a x)(t:Nat):
  (∃m∈Nt a cl Q,m.src=(n:Int)∧m.dst=(t:Int)∧Tn m.on x=true)↔Q[t]? =some (Wh a l x):=by
 have hg:=Ap (a:=a) (Q:=Q) n l hc.wf;have key:v0m Q (Wh a l x)=some t↔Q[t]? =some (Wh a l x):=⟨Gx,k0u hs.nd⟩
 rw[←key];constructor
 ·rintro⟨m,hm,h1,h2,h3⟩;obtain⟨n',l',hl',z6⟩:=Ib.1 hm;have z7:=Ap (a:=a) (Q:=Q) n' l' hc.wf;have:n'=n:=by have:=z7.src m z6;omega
  subst this;rw[hl]at hl';cases hl';rw[Ex (hg.wf m z6).1 x hx.1.1]at h3;obtain⟨c,z1,e1,e2⟩:=(hg.mem m z6 t h2 _ _).1 h3;rw[hc.same z1 hx e2];exact e1
 ·intro h;obtain⟨c,z1,e1,e2⟩:=hc.of hx;rw[e2]at h;obtain⟨m,hm,hd⟩:=hg.all t _ _ ⟨c,z1,h,e1⟩;refine⟨m,Ib.2 ⟨n,l,hl,hm⟩,hg.src m hm,hd,?_⟩;rw[Ex (hg.wf m hm).1 x hx.1.1];exact(hg.mem m hm t hd _ _).2 ⟨c,z1,h,e1⟩
theorem x1k{a:Aut}{cl:List Prd}{Q:List (List Int)}(hc:Cls a cl)(hs:Sub a cl Q){n:Nat}{l:List Int}(hl:Q[n]? =some l){x:Sy}(hx:Ew a x):
  (Wh a l x=[]∧Wh (Y1 a cl Q) [(n:Int)] x=[])∨∃t:Nat,Q[t]? =some (Wh a l x)∧Wh (Y1 a cl Q) [(n:Int)] x=[(t:Int)]:=by
 have z1:∀j,j∈Wh (Y1 a cl Q) [(n:Int)] x↔∃t:Nat,j=t∧Q[t]? =some (Wh a l x):=fun j=>by
  rw[Ra];constructor
  ·rintro⟨⟨h1,h2⟩,m,hm,h3,h4,h5⟩;refine⟨j.toNat,by omega,(D2 hc hs hl hx j.toNat).1 ⟨m,hm,z_.1 h3,by omega,h4⟩⟩
  ·rintro⟨t,rfl,ht⟩;obtain⟨m,hm,h1,h2,h3⟩:=(D2 hc hs hl hx t).2 ht;have:=(zE.1 ht).1;exact⟨⟨by omega,by simp[Y1];omega⟩,m,hm,by rw[h1];simp,h3,h2⟩
 rcases hs.step hc (zO hl) hx with h0|h0
 ·refine .inl ⟨h0,u5.2 fun j hj=> ?_⟩;obtain⟨t,_,ht⟩:=(z1 j).1 hj;rw[h0]at ht;exact hs.ne _ (zO ht) rfl
 ·obtain⟨t,ht⟩:=yR.1 h0;refine .inr ⟨t,ht,Uc (Up ..) (by simp) fun z=> ?_⟩;rw[z1 z];constructor
  ·rintro⟨u,rfl,hu⟩;obtain⟨h1,h2⟩:=zE.1 ht;obtain⟨h3,h4⟩:=zE.1 hu;have:u=t:=(ua hs.nd).1 (by rw[h4,h2]);simp[this]
  ·intro hz;exact⟨t,z_.1 hz,ht⟩
def Zy(a:Aut)(l:List Int)(w:List Sy):List Int:=w.foldl (Wh a) l
def Bp(a:Aut)(w:List Sy):Bool:=Hs a (Zy a [0] w)
theorem B1(a:Aut):∀w,Zy a [] w=[]
 |[]=>rfl
 |x::w=>by
  show Zy a (Wh a [] x) w=[]
  have:Wh a [] x=[]:=u5.2 fun j hj=>by obtain⟨_,m,_,h,_⟩:=Ra.1 hj;cases h
  rw[this,B1 a w]
theorem j0s{a:Aut}{cl:List Prd}{Q:List (List Int)}(hc:Cls a cl)(hs:Sub a cl Q):∀(w:List Sy),(∀x∈w,Ew a x)→∀(n:Nat) (l:List Int),Q[n]? =some l→
  (Zy a l w=[]∧Zy (Y1 a cl Q) [(n:Int)] w=[])∨∃t:Nat,Q[t]? =some (Zy a l w)∧Zy (Y1 a cl Q) [(n:Int)] w=[(t:Int)]
 |[],_,n,l,hl=> .inr ⟨n,hl,rfl⟩
 |x::w,hw,n,l,hl=>by
  show(Zy a (Wh a l x) w=[]∧Zy (Y1 a cl Q) (Wh (Y1 a cl Q) [(n:Int)] x) w=[])∨∃t:Nat,Q[t]? =some (Zy a (Wh a l x) w)∧Zy (Y1 a cl Q) (Wh (Y1 a cl Q) [(n:Int)] x) w=[(t:Int)]
  rcases x1k hc hs hl (hw x (by simp))with⟨h1,h2⟩|⟨t,h1,h2⟩
  ·rw[h1,h2];exact .inl ⟨B1 _ _,B1 _ _⟩
  ·rw[h2];exact j0s hc hs w (fun y hy=>hw y (by simp[hy])) t _ h1
theorem g1e{a:Aut}{cl:List Prd}{Q:List (List Int)}(hc:Cls a cl)(hs:Sub a cl Q){w:List Sy}(hw:∀x∈w,Ew a x):Bp (Y1 a cl Q) w=Bp a w:=by
 unfold Bp;rcases j0s hc hs w hw 0 [0] hs.first with⟨h1,h2⟩|⟨t,h1,h2⟩
 ·have z1:Zy (Y1 a cl Q) [0] w=[]:=h2;rw[h1,z1];rfl
 ·have z1:Zy (Y1 a cl Q) [0] w=[(t:Int)]:=h2;rw[z1];simp only[Hs,Y1,List.any_cons,List.any_nil,Bool.or_false,Int.toNat_natCast,y_,yI,h1,Option.map_some,Option.getD_some]
def Su(a:Aut):Prop:=a.mv.Pairwise (fun m k=>m.src=k.src→∀x:Sy,Ew a x→¬(Tn m.on x=true∧Tn k.on x=true))
theorem y0l{a:Aut}{cl:List Prd}{Q:List (List Int)}(hc:Cls a cl)(hs:Sub a cl Q):Su (Y1 a cl Q):=by
 unfold Su;show(Nt a cl Q).Pairwise _;unfold Nt;rw[uq];constructor
 ·intro n hn;have z1:=xJ.1 hn;have hl:Q[n]? =some Q[n]:=zP z1;have hg:Q.getD n []=Q[n]:=by simp[y_,z1]
  rw[hg];have hi:=Ap (a:=a) (Q:=Q) n Q[n] hc.wf;refine hi.nd.imp_of_mem (fun {m k} hm hk hne _ x hx=> ?_);rintro⟨h1,h2⟩;obtain⟨t1,_,e1⟩:=hi.dst m hm;obtain⟨t2,_,e2⟩:=hi.dst k hk;have z6:Ew a x:=hx;have d1:=(D2 hc hs hl z6 t1).1 ⟨m,Ib.2 ⟨n,_,hl,hm⟩,hi.src m hm,e1,h1⟩;have d2:=(D2 hc hs hl z6 t2).1 ⟨k,Ib.2 ⟨n,_,hl,hk⟩,hi.src k hk,e2,h2⟩;obtain⟨p1,p2⟩:=zE.1 d1;obtain⟨p3,p4⟩:=zE.1 d2;have:t1=t2:=(ua hs.nd).1 (by rw[p2,p4]);exact hne (by rw[e1,e2,this])
 ·refine List.pairwise_lt_range.imp (fun {i j} hij m hm k hk e=> ?_);exfalso;have h1:∀n m,m∈Xz a cl Q n (Q.getD n [])→m.src=(n:Int):=fun n m hm=>(Ap (a:=a) (Q:=Q) n _ hc.wf).src m hm;have:=h1 i m hm;have:=h1 j k hk;omega
end Go.Abs
namespace Go.Abs
theorem Pb{l:List Iv}(h:Sep l)(hb:∀n,M l n→inR n):Sep (Wv l)∧(∀n,M (Wv l) n↔inR n∧¬M l n)∧(Wv l).length≤l.length+1:=by
 have z1:∀x∈l,inR x.lo∧inR x.hi:=fun x hx=>⟨hb _ ⟨x,hx,xF _,h.1 x hx⟩,hb _ ⟨x,hx,h.1 x hx,xF _⟩⟩
 have:=Ir l (-1099511627776) (fun x hx=>⟨h.1 x hx,(z1 x hx).2.2⟩) h.2 (fun x hx=>(z1 x hx).1.1);exact⟨this.1,fun n=>by rw[Wv,this.2.1,inR,and_assoc],this.2.2⟩
theorem w0k{T:Nat}{p:Prd}(hp:PWf T p)(t:Nat)(n:Int):PM (W6 p) t n↔(t<T∧inR n)∧¬PM p t n:=by
 unfold PM W6;rw[yI];constructor
 ·rintro⟨s,hs,hm⟩;obtain⟨a,ha,rfl⟩:=zZ.1 hs;have hw:=hp.2 a (zO ha);have hg:=((Pb hw.1 hw.2).2.1 n).1 hm;refine⟨⟨by rw[←hp.1];exact(zE.1 ha).1,hg.1⟩,?_⟩;rintro⟨b,hb,z1⟩;rw[ha]at hb;cases hb;exact hg.2 z1
 ·rintro⟨⟨h1,h2⟩,h3⟩;have hl:t<p.length:=by rw[hp.1];exact h1
  have hw:=hp.2 _ (zT hl);exact⟨Wv p[t],by rw[zP hl];rfl,((Pb hw.1 hw.2).2.1 n).2 ⟨h2,fun hm=>h3 ⟨_,zP hl,hm⟩⟩⟩
theorem Le{T:Nat}{p:Prd}(hp:PWf T p):PWf T (W6 p):=⟨by simp[W6,hp.1],fun s hs=>by
 obtain⟨a,ha,rfl⟩:=zX.1 hs;have hw:=hp.2 a ha;exact⟨(Pb hw.1 hw.2).1,fun n hn=>(((Pb hw.1 hw.2).2.1 n).1 hn).1⟩⟩
def Ud(T:Nat)(ps:List Prd):Prd:=(yV T).map fun i=>Ej (Qx ps i)
theorem K7{T:Nat}{ps:List Prd}(h:∀p∈ps,PWf T p)(i:Nat):∀x∈Qx ps i,x.lo≤x.hi:=fun x hx=>by
 obtain⟨p,hp,hx⟩:=Td.1 hx;have hm:p.getD i []=[]∨p.getD i []∈p:=by
  by_cases hi:i<p.length
  ·exact .inr (by rw[Wq hi];exact zT hi)
  ·exact .inl (by simp[y_,hi])
 rcases hm with e|hm
 ·rw[e]at hx;cases hx
 ·exact((h p hp).2 _ hm).1.1 x hx
theorem Kb{T:Nat}{ps:List Prd}(h:∀p∈ps,PWf T p)(t:Nat)(n:Int):PM (Ud T ps) t n↔∃p∈ps,PM p t n:=by
 unfold PM Ud;rw[yI];constructor
 ·rintro⟨s,hs,hm⟩;obtain⟨i,hi,rfl⟩:=zZ.1 hs;obtain⟨z6,e⟩:=zE.1 hi;rw[List.getElem_range]at e;subst e;obtain⟨x,hx,h1⟩:=((Ur _ (K7 h t)).2 n).1 hm;obtain⟨p,hp,hx⟩:=Td.1 hx;have ht:t<T:=by simpa using z6
  have z1:t<p.length:=by rw[(h p hp).1];exact ht
  rw[Wq z1]at hx;exact⟨p,hp,p[t],zP z1,x,hx,h1⟩
 ·rintro⟨p,hp,s,hs,x,hx,h1⟩;obtain⟨z1,e⟩:=zE.1 hs;have ht:t<T:=by rw[←(h p hp).1];exact z1
  refine⟨Ej (Qx ps t),by simp[ht],((Ur _ (K7 h t)).2 n).2 ⟨x,Td.2 ⟨p,hp,?_⟩,h1⟩⟩;rw[Wq z1,e];exact hx
theorem Gg{T:Nat}{ps:List Prd}(h:∀p∈ps,PWf T p):PWf T (Ud T ps):=by
 refine⟨by simp[Ud],fun s hs=> ?_⟩;obtain⟨i,hi,rfl⟩:=zX.1 hs;refine⟨(Ur _ (K7 h i)).1,fun n hn=> ?_⟩;have:PM (Ud T ps) i n:=⟨Ej (Qx ps i),by simp[Ud,xJ.1 hi],hn⟩
 obtain⟨p,hp,hm⟩:=(Kb h i n).1 this;exact((h p hp).lt hm).2
theorem g1a{T:Nat}{c:Prd}(h:PWf T c):Ud T [c]=c:=
 Ig (Gg (by simpa using h)) h fun t n=>by rw[Kb (by simpa using h)];simp
theorem k1z{T:Nat}{p q:Prd}(hp:PWf T p)(hq:PWf T q):Ud T [p,q]=Rq p q:=by
 have h:∀x∈[p,q],PWf T x:=fun x hx=>by
  rcases yP.1 hx with rfl|hx
  ·exact hp
  ·obtain rfl:=z_.1 hx;exact hq
 exact Ig (Gg h) (Fk hp hq) fun t n=>by rw[Kb h,P4 hp hq];simp
def Kp(a:Aut)(s:Int):List Prd:=(a.mv.filter fun m=>decide (m.src=s)).map (·.on)
def Wx(a:Aut)(s:Int):Prd:=W6 (Ud a.types.toNat (Kp a s))
def x0x(a:Aut)(s:Int):Prd:=(Kp a s).foldl (fun r p=>Wc r (W6 p)) (Wz a.types.toNat)
structure WfA (a:Aut):Prop where
 types:1≤a.types∧a.types≤16
 fin:1≤a.fin.length
 src:∀m∈a.mv,0≤m.src∧m.src<a.fin.length
 dst:∀m∈a.mv,0≤m.dst∧m.dst<a.fin.length
 on:∀m∈a.mv,PWf a.types.toNat m.on
theorem OkA.wfA{a:Aut}(h:OkA a):WfA a:=⟨h.types,h.fin.1,fun m hm=>(h.mv m hm).src,fun m hm=>(h.mv m hm).dst,fun m hm=>(h.mv m hm).on.wf⟩
theorem J9{a:Aut}(h:WfA a)(s:Int):∀p∈Kp a s,PWf a.types.toNat p:=fun p hp=>by obtain⟨m,hm,rfl⟩:=zX.1 hp;exact h.on m (xU.1 hm).1
theorem Ar{a:Aut}(h:WfA a)(s:Int)(t:Nat)(n:Int):PM (Wx a s) t n↔(t<a.types.toNat∧inR n)∧∀p∈Kp a s,¬PM p t n:=by rw[Wx,w0k (Gg (J9 h s)),Kb (J9 h s)];simp
theorem Oe{a:Aut}(h:WfA a)(s:Int):PWf a.types.toNat (Wx a s):=Le (Gg (J9 h s))
theorem Co{T:Nat}:∀(l:List Prd) (r:Prd),(∀p∈l,PWf T p)→PWf T r→PWf T (l.foldl (fun r p=>Wc r (W6 p)) r)∧
  ∀t n,PM (l.foldl (fun r p=>Wc r (W6 p)) r) t n↔PM r t n∧∀p∈l,¬PM p t n
 |[],r,_,hr=>⟨hr,fun t n=>by simp⟩
 |p::l,r,hl,hr=>by
  have hp:=hl p (by simp);obtain⟨h1,h2⟩:=Co l (Wc r (W6 p)) (fun q hq=>hl q (by simp[hq])) (Tb hr (Le hp).1);refine⟨h1,fun t n=> ?_⟩;rw[x_,h2,Ef hr.1 (Le hp).1,w0k hp];constructor
  ·rintro⟨⟨a,b,c⟩,d⟩;refine⟨a,fun q hq=> ?_⟩;rcases yP.1 hq with rfl|hq
   ·exact c
   ·exact d q hq
  ·rintro⟨a,d⟩;exact⟨⟨a,hr.lt a,d p (by simp)⟩,fun q hq=>d q (by simp[hq])⟩
theorem c0d{a:Aut}(h:WfA a)(s:Int):x0x a s=Wx a s:=by obtain⟨h1,h2⟩:=Co (Kp a s) (Wz a.types.toNat) (J9 h s) (Dz _);exact Ig h1 (Oe h s) fun t n=>by rw[x0x,h2,Ar h,P1]
theorem X8{a:Aut}(h:WfA a)(s:Int):Wi (Wx a s)=true↔∀t n,t<a.types.toNat→inR n→∃p∈Kp a s,PM p t n:=by
 rw[Ro (Oe h s)];constructor
 ·intro hv t n ht hn;have:=hv t n;rw[Ar h]at this;by_cases hc:∃p∈Kp a s,PM p t n
  ·exact hc
  ·exact absurd ⟨⟨ht,hn⟩,fun p hp hm=>hc ⟨p,hp,hm⟩⟩ this
 ·intro hv t n;rw[Ar h];rintro⟨⟨ht,hn⟩,hx⟩;obtain⟨p,hp,hm⟩:=hv t n ht hn;exact hx p hp hm
def Mf(a:Aut):Bool:=decide (256<a.fin.length) || decide (2048<a.mv.length) || a.mv.any fun m=>m.on.any fun s=>decide (256<s.length)
theorem q2q{a:Aut}(h:WfA a):Wg a=0↔Mf a=false:=by
 rw[Ut];unfold Mf;simp only[Bool.or_eq_false_iff,decide_eq_false_iff_not,vN,decide_eq_true_eq];constructor
 ·rintro⟨h1,h2,h3,h4⟩;exact⟨⟨by omega,by omega⟩,fun m hm=>by
   simp only[uT,vN,decide_eq_true_eq];exact fun s hs=>by have:=((h4 m hm).on.2 s hs).len;omega⟩
 ·rintro⟨⟨h1,h2⟩,h3⟩;refine⟨h.types,⟨h.fin,by omega⟩,by omega,fun m hm=>⟨h.src m hm,h.dst m hm,(h.on m hm).1,fun s hs=> ?_⟩⟩;have hw:=(h.on m hm).2 s hs;have:=h3 m hm;simp only[uT,vN,decide_eq_true_eq]at this;exact Gv hw.1 (w02 hw.1 hw.2) (by have:=this s hs;omega)
def Z5(a:Aut):Int×Aut:=if Mf a then(5,Ul)else(0,a)
def z2u(a:Aut):Int×Aut:=if Wg a≠0 then(5,Ul)else(0,a)
theorem k01{a c:Aut}(h:WfA a)(hl:Z5 a=(0,c)):c=a∧OkA a:=by
 unfold Z5 at hl;cases hb:Mf a
 ·rw[hb,if_neg (by simp)]at hl;exact⟨(Prod.mk.inj hl).2.symm,(Ut a).1 ((q2q h).2 hb)⟩
 ·rw[hb,if_pos rfl]at hl;cases(Prod.mk.inj hl).1
end Go.Abs
namespace Go.Abs
def Rp(a:Aut)(lack:Int→Prd):List Mv:=(yV a.fin.length).filterMap fun s:Nat=>if Wi (lack s)then none else some ⟨s,a.fin.length,lack s⟩
def Ug(a:Aut):Aut:=⟨a.types,a.fin++[false],a.mv++Rp a (Wx a)++[⟨a.fin.length,a.fin.length,Wz a.types.toNat⟩]⟩
def P2(a:Aut):Int×Aut:=if(Rp a (Wx a)).isEmpty then(0,a)else Z5 (Ug a)
def Pd(a:Aut):Bool:=(yV a.fin.length).all fun s:Nat=>Wi (x0x a s)
def x22(a:Aut):Int×Aut:=if Pd a then(0,a)else z2u ⟨a.types,a.fin++[false],a.mv++Rp a (x0x a)++[⟨a.fin.length,a.fin.length,Wz a.types.toNat⟩]⟩
theorem Yi{a:Aut}{lack:Int→Prd}{m:Mv}:m∈Rp a lack↔∃s:Nat,s<a.fin.length∧Wi (lack s)=false∧m=⟨s,a.fin.length,lack s⟩:=by
 unfold Rp;rw[vX];constructor
 ·rintro⟨s,hs,h⟩;cases hv:Wi (lack s)
  ·rw[hv,if_neg (by simp)]at h;cases h;exact⟨s,xJ.1 hs,hv,rfl⟩
  ·rw[hv,if_pos rfl]at h;cases h
 ·rintro⟨s,hs,hv,rfl⟩;exact⟨s,xJ.2 hs,by rw[hv,if_neg (by simp)]⟩
theorem G8{a:Aut}{lack:Int→Prd}:Rp a lack=[]↔∀s:Nat,s<a.fin.length→Wi (lack s)=true:=by
 rw[u5];constructor
 ·intro h s hs;cases hv:Wi (lack s)
  ·exact absurd (Yi.2 ⟨s,hs,hv,rfl⟩) (h _)
  ·rfl
 ·intro h m hm;obtain⟨s,hs,hv,_⟩:=Yi.1 hm;rw[h s hs]at hv;cases hv
theorem x1z{a:Aut}(h:WfA a):WfA (Ug a):=by
 have z1:∀m∈(Ug a).mv,m∈a.mv∨(∃s:Nat,s<a.fin.length∧m=⟨s,a.fin.length,Wx a s⟩)∨m=⟨a.fin.length,a.fin.length,Wz a.types.toNat⟩:=fun m hm=>by
  rcases yH.1 hm with hm|hm
  ·rcases yH.1 hm with hm|hm
   ·exact .inl hm
   ·obtain⟨s,hs,_,e⟩:=Yi.1 hm;exact .inr (.inl ⟨s,hs,e⟩)
  ·exact .inr (.inr (z_.1 hm))
 have hl:(Ug a).fin.length=a.fin.length+1:=by simp[Ug]
 refine⟨h.types,by rw[hl];omega,fun m hm=> ?_,fun m hm=> ?_,fun m hm=> ?_⟩
 ·rw[hl];rcases z1 m hm with hm|⟨s,hs,rfl⟩|rfl
  ·have:=h.src m hm;omega
  ·simp only;omega
  ·simp only;omega
 ·rw[hl];rcases z1 m hm with hm|⟨s,hs,rfl⟩|rfl
  ·have:=h.dst m hm;omega
  ·simp only;omega
  ·simp only;omega
 ·rcases z1 m hm with hm|⟨s,hs,rfl⟩|rfl
  ·exact h.on m hm
  ·exact Oe h s
  ·exact Dz _
def v0g(a:Aut):Prop:=∀s:Int,0≤s→s<a.fin.length→∀x,Ew a x→∃m∈a.mv,m.src=s∧Tn m.on x=true
theorem w0f{a:Aut}{x:Sy}(h:Ew a x):x.ty.toNat<a.types.toNat∧inR x.num∧0≤x.ty:=⟨by have:=h.1;omega,h.2,h.1.1⟩
theorem Tv{a:Aut}(h:WfA a){m:Mv}(hm:m∈a.mv){x:Sy}(hx:Ew a x):Tn m.on x=true↔PM m.on x.ty.toNat x.num:=Ex (h.on m hm).1 x hx.1.1
theorem L6{a:Aut}{s:Int}{p:Prd}:p∈Kp a s↔∃m∈a.mv,m.src=s∧m.on=p:=by
 unfold Kp;rw[zX];constructor
 ·rintro⟨m,hm,e⟩;have:=xU.1 hm;exact⟨m,this.1,by simpa using this.2,e⟩
 ·rintro⟨m,hm,hs,e⟩;exact⟨m,xU.2 ⟨hm,by simpa using hs⟩,e⟩
theorem w0q{a:Aut}(h:WfA a):Rp a (Wx a)=[]↔v0g a:=by
 rw[G8];constructor
 ·intro hv s h0 h1 x hx;have hs:=hv s.toNat (by omega);rw[show((s.toNat:Nat):Int)=s by omega,X8 h]at hs;obtain⟨k1,k2,_⟩:=w0f hx;obtain⟨p,hp,hm⟩:=hs _ _ k1 k2;obtain⟨m,z1,e,rfl⟩:=L6.1 hp;exact⟨m,z1,e,(Tv h z1 hx).2 hm⟩
 ·intro hf s hs;rw[X8 h];intro t n ht hn;have hx:Ew a ⟨t,n⟩:=⟨⟨by simp,by simp only;omega⟩,hn⟩
  obtain⟨m,hm,e,hh⟩:=hf s (by omega) (by omega) _ hx;exact⟨m.on,L6.2 ⟨m,hm,e,rfl⟩,by have:=(Tv h hm hx).1 hh;simpa using this⟩
theorem q1j{a:Aut}(h:WfA a):v0g (Ug a):=by
 intro s h0 h1 x hx;have z1:Ew a x:=hx;have hl:(Ug a).fin.length=a.fin.length+1:=by simp[Ug]
 obtain⟨k1,k2,_⟩:=w0f z1;by_cases hs:s<a.fin.length
 ·by_cases hp:∃p∈Kp a s,PM p x.ty.toNat x.num
  ·obtain⟨p,hp,hm⟩:=hp;obtain⟨m,z6,e,rfl⟩:=L6.1 hp;exact⟨m,xL _ (xL _ z6),e,(Tv h z6 z1).2 hm⟩
  ·have z7:PM (Wx a s) x.ty.toNat x.num:=(Ar h s _ _).2 ⟨⟨k1,k2⟩,fun p z8 hm=>hp ⟨p,z8,hm⟩⟩;have hv:Wi (Wx a s)=false:=by
    cases hv:Wi (Wx a s)
    ·rfl
    ·exact absurd z7 ((Ro (Oe h s)).1 hv _ _)
   have e:((s.toNat:Nat):Int)=s:=by omega
   refine⟨⟨s,a.fin.length,Wx a s⟩,xL _ (uy _ (Yi.2 ⟨s.toNat,by omega,by rw[e];exact hv,by rw[e]⟩)),rfl,?_⟩;exact(Ex (Oe h s).1 x hx.1.1).2 z7
 ·refine⟨⟨a.fin.length,a.fin.length,Wz a.types.toNat⟩,uy _ (by simp),by simp only;omega,?_⟩;exact(Ex (Dz _).1 x hx.1.1).2 ((P1 ..).2 ⟨k1,k2⟩)
theorem j1r{a:Aut}(h:WfA a)(hd:Su a):Su (Ug a):=by
 unfold Su;show(a.mv++Rp a (Wx a)++[_]).Pairwise _;rw[yS,yS];refine⟨⟨hd,?_,fun m hm k hk e x hx=> ?_⟩,by simp,fun m hm k hk e x hx=> ?_⟩
 ·unfold Rp;rw[List.pairwise_filterMap];refine List.pairwise_lt_range.imp (fun {i j} hij m hm k hk e=> ?_);have z1:∀(i:Nat) (m:Mv),(if Wi (Wx a i)then none else some (⟨i,a.fin.length,Wx a i⟩:Mv))=some m→m.src=i:=fun i m hm=>by
   split at hm
   ·cases hm
   ·cases hm;rfl
  have:=z1 i m hm;have:=z1 j k hk;omega
 ·obtain⟨s,hs,_,rfl⟩:=Yi.1 hk;rintro⟨h1,h2⟩;have z6:Ew a x:=hx;have p1:=(Tv h hm z6).1 h1;have p2:=(Ex (Oe h s).1 x hx.1.1).1 h2;exact((Ar h s _ _).1 p2).2 _ (L6.2 ⟨m,hm,e,rfl⟩) p1
 ·obtain rfl:=z_.1 hk;exfalso;have e':m.src=(a.fin.length:Int):=e;rcases yH.1 hm with hm|hm
  ·have:=h.src m hm;omega
  ·obtain⟨s,hs,_,rfl⟩:=Yi.1 hm;simp only at e';omega
theorem x1n{a:Aut}(h:WfA a){l l':List Int}(hl:∀j:Int,j<a.fin.length→(j∈l'↔j∈l))(x:Sy):∀j:Int,j<a.fin.length→(j∈Wh (Ug a) l' x↔j∈Wh a l x):=by
 intro j hj;rw[Ra,Ra];have hlen:(Ug a).fin.length=a.fin.length+1:=by simp[Ug]
 constructor
 ·rintro⟨h1,m,hm,h2,h3,h4⟩;rcases yH.1 hm with hm|hm
  ·rcases yH.1 hm with hm|hm
   ·exact⟨⟨h1.1,hj⟩,m,hm,(hl _ (h.src m hm).2).1 h2,h3,h4⟩
   ·obtain⟨s,hs,_,rfl⟩:=Yi.1 hm;simp only at h4;omega
  ·obtain rfl:=z_.1 hm;simp only at h4;omega
 ·rintro⟨h1,m,hm,h2,h3,h4⟩;exact⟨⟨h1.1,by omega⟩,m,xL _ (xL _ hm),(hl _ (h.src m hm).2).2 h2,h3,h4⟩
theorem u0s{a:Aut}(h:WfA a):∀(w:List Sy) (l l':List Int),(∀j:Int,j<a.fin.length→(j∈l'↔j∈l))→∀j:Int,j<a.fin.length→(j∈Zy (Ug a) l' w↔j∈Zy a l w)
 |[],_,_,hl=>hl
 |x::w,_,_,hl=>u0s h w _ _ (x1n h hl x)
theorem runIn{a:Aut}:∀(w:List Sy) (l:List Int),(∀j∈l,0≤j∧j<a.fin.length)→∀j∈Zy a l w,0≤j∧j<a.fin.length
 |[],_,hl=>hl
 |x::w,_,_=>runIn w _ (fun _ hj=>Pz _ hj)
theorem u0d{a:Aut}(h:WfA a):∀j∈[(0:Int)],0≤j∧j<a.fin.length:=fun j hj=>by obtain rfl:=z_.1 hj;have:=h.fin;omega
theorem Mj{a:Aut}{l:List Int}:Hs a l=true↔∃s∈l,a.fin.getD s.toNat false=true:=by rw[Hs,vK]
theorem j1x{a:Aut}(h:WfA a)(w:List Sy):Bp (Ug a) w=Bp a w:=by
 unfold Bp;rw[wO,Mj,Mj];have hr:=u0s h w [0] [0] (fun _ _=>Iff.rfl);have z7:=runIn w _ (u0d (x1z h));have z6:=runIn w _ (u0d h);have hlen:(Ug a).fin.length=a.fin.length+1:=by simp[Ug]
 have z1:∀s:Int,0≤s→s<a.fin.length→(Ug a).fin.getD s.toNat false=a.fin.getD s.toNat false:=fun s h0 h1=>by simp only[Ug,List.getD_eq_getElem?_getD];rw[zI (by omega)]
 constructor
 ·rintro⟨s,hs,hf⟩;have:=z7 s hs;by_cases hlt:s<a.fin.length
  ·exact⟨s,(hr s hlt).1 hs,by rw[←z1 s this.1 hlt];exact hf⟩
  ·have:s.toNat=a.fin.length:=by omega
   rw[this]at hf;simp[Ug]at hf
 ·rintro⟨s,hs,hf⟩;have:=z6 s hs;exact⟨s,(hr s this.2).2 hs,by rw[z1 s this.1 this.2];exact hf⟩
theorem z1w{a c:Aut}(h:OkA a)(hc:P2 a=(0,c)):OkA c∧c.types=a.types∧v0g c∧(Su a→Su c)∧∀w,Bp c w=Bp a w:=by
 unfold P2 at hc;split at hc
 ·rename_i hn;cases hc;exact⟨h,rfl,(w0q h.wfA).1 (tJ.1 hn),id,fun _=>rfl⟩
 ·obtain⟨rfl,hk⟩:=k01 (x1z h.wfA) hc;exact⟨hk,rfl,q1j h.wfA,j1r h.wfA,j1x h.wfA⟩
end Go.Abs
namespace Go.Abs
def Yu(T:Int):List Prd→Int
 |[]=>0
 |p::r=>if E8 T p≠0 then E8 T p else Yu T r
def Sd(L:List Prd):Bool:=decide (256<L.length) || L.any fun p=>p.any fun s=>decide (256<s.length)
def R3(T:Int)(l:List Prd):Int×List Prd:=if T<1∨16<T then(2,[])else if 256<l.length then(5,[])else if Yu T l≠0 then(Yu T l,[])else
 if Sd (Ed T.toNat l)then(5,[])else(0,Ed T.toNat l)
def f0a(T:Int)(l:List Prd):Int×List Prd:=if T<1∨16<T then(2,[])else if 256<l.length then(5,[])else if Yu T l≠0 then(Yu T l,[])else
 if Sd (Q3 T.toNat l)then(5,[])else(0,Q3 T.toNat l)
theorem I1{T:Int}:∀(l:List Prd),Yu T l=0↔∀p∈l,E8 T p=0
 |[]=>by simp[Yu]
 |p::r=>by
  rw[Yu];by_cases h:E8 T p=0
  ·rw[if_neg (fun k=>k h),I1 r];simp[h]
  ·rw[if_pos h];exact⟨fun k=>absurd k h,fun k=>absurd (k p (by simp)) h⟩
theorem j04(T:Int)(l:List Prd):f0a T l=R3 T l:=by
 unfold f0a R3;split
 ·rfl
 ·rename_i hT;split
  ·rfl
  ·split
   ·rfl
   ·rename_i hc;have z1:∀p∈l,PCk T.toNat p:=fun p hp=>((Es T p).1 ((I1 l).1 (by simpa using hc) p hp)).2;rw[A4 (by omega) z1]
theorem d0v{T:Int}(hT:1≤T∧T≤16){l:List Prd}(hl:∀p∈l,PCk T.toNat p):(R3 T l).1=5∨R3 T l=(0,Q3 T.toNat l):=by
 unfold R3;have hc:Yu T l=0:=(I1 l).2 fun p hp=>(Es T p).2 ⟨hT,hl p hp⟩;rw[if_neg (by omega)];split
 ·exact .inl rfl
 ·rw[if_neg (by simp[hc])];split
  ·exact .inl rfl
  ·exact .inr (by rw[A4 (by omega) hl])
def onA(a:Aut):List Prd:=a.mv.map (·.on)
def Oo(a:Aut):Int×List Prd×List (List Int):=if Wg a≠0 then(Wg a,[],[])else
 if(R3 a.types (onA a)).1≠0 then((R3 a.types (onA a)).1,[],[])else
 match Zq a (R3 a.types (onA a)).2 with
 |none=>(5,[],[])
 |some Q=>(0,(R3 a.types (onA a)).2,Q)
def Tk(a:Aut):Int×Aut:=if(Oo a).1≠0 then((Oo a).1,Ul)else Z5 (Y1 a (Oo a).2.1 (Oo a).2.2)
def A5(a:Aut):Int×Aut:=if Wg a≠0 then(Wg a,Ul)else P2 a
def q2l(a:Aut):Aut:={ a with fin:=a.fin.map (!·) }
def y25(a:Aut):Int×Aut:=if(Tk a).1≠0 then((Tk a).1,Ul)else if(P2 (Tk a).2).1≠0 then((P2 (Tk a).2).1,Ul)else(0,q2l (P2 (Tk a).2).2)
theorem Jz{a:Aut}(h:OkA a):∀p∈onA a,PCk a.types.toNat p:=fun p hp=>by obtain⟨m,hm,rfl⟩:=zX.1 hp;exact(h.mv m hm).on
theorem Xi{a:Aut}(h:OkA a):Oo a=(5,[],[])∨∃Q,Oo a=(0,Q3 a.types.toNat (onA a),Q)∧Zq a (Q3 a.types.toNat (onA a))=some Q∧Sub a (Q3 a.types.toNat (onA a)) Q∧Cls a (Q3 a.types.toNat (onA a)):=by
 unfold Oo;rw[if_neg (fun k=>k ((Ut a).2 h))];rcases d0v h.types (Jz h)with hm|hm
 ·rw[if_pos (by rw[hm];decide),hm];exact .inl rfl
 ·rw[hm,if_neg (by simp)];cases hs:Zq a (Q3 a.types.toNat (onA a))with
  |none=>exact .inl rfl
  |some Q=>exact .inr ⟨Q,rfl,rfl,j0r h hs,x10 h⟩
theorem Be{a:Aut}(h:Wg a≠0):Oo a=(Wg a,[],[]):=if_pos h
theorem Sp{a:Aut}{cl:List Prd}{Q:List (List Int)}(hc:Cls a cl){m:Mv}(hm:m∈Nt a cl Q):(∃n:Nat,n<Q.length∧m.src=n)∧(∃t:Nat,t<Q.length∧m.dst=t)∧PWf a.types.toNat m.on:=by obtain⟨n,l,hl,hg⟩:=Ib.1 hm;have hi:=Ap (a:=a) (Q:=Q) n l hc.wf;exact⟨⟨n,(zE.1 hl).1,hi.src m hg⟩,hi.dst m hg,hi.wf m hg⟩
theorem x1y{a:Aut}{cl:List Prd}{Q:List (List Int)}(hc:Cls a cl)(hs:Sub a cl Q):WfA (Y1 a cl Q):=by
 have h0:=(zE.1 hs.first).1;have hl:(Y1 a cl Q).fin.length=Q.length:=by simp[Y1]
 refine⟨hc.ok.types,by omega,fun m hm=> ?_,fun m hm=> ?_,fun m hm=>(Sp hc hm).2.2⟩
 ·obtain⟨⟨n,h1,h2⟩,_⟩:=Sp hc hm;rw[hl,h2];omega
 ·obtain⟨_,⟨n,h1,h2⟩,_⟩:=Sp hc hm;rw[hl,h2];omega
theorem y18{a d:Aut}(h:OkA a)(hd:Tk a=(0,d)):∃Q,Zq a (Q3 a.types.toNat (onA a))=some Q∧Sub a (Q3 a.types.toNat (onA a)) Q∧Cls a (Q3 a.types.toNat (onA a))∧
  Oo a=(0,Q3 a.types.toNat (onA a),Q)∧d=Y1 a (Q3 a.types.toNat (onA a)) Q∧OkA d∧Su d∧d.types=a.types∧∀w,(∀x∈w,Ew a x)→Bp d w=Bp a w:=by
 unfold Tk at hd;rcases Xi h with hs|⟨Q,hs,hq,z1,z6⟩
 ·rw[hs,if_pos (by decide)]at hd;cases(Prod.mk.inj hd).1
 ·rw[hs,if_neg (by simp)]at hd;obtain⟨rfl,hk⟩:=k01 (x1y z6 z1) hd;exact⟨Q,hq,z1,z6,hs,rfl,hk,y0l z6 z1,rfl,fun w hw=>g1e z6 z1 hw⟩
theorem z1u{a:Aut}(hw:WfA a)(hd:Su a)(hf:v0g a){s:Int}(h0:0≤s)(h1:s<a.fin.length){x:Sy}(hx:Ew a x):∃t:Int,0≤t∧t<a.fin.length∧Wh a [s] x=[t]:=by
 obtain⟨m,hm,e,hh⟩:=hf s h0 h1 x hx;refine⟨m.dst,(hw.dst m hm).1,(hw.dst m hm).2,Uc (Up ..) (by simp) fun z=> ?_⟩;rw[Ra];constructor
 ·rintro⟨_,k,hk,h2,h3,h4⟩;obtain h2:=z_.1 h2;have:k=m∨k.dst=m.dst:=by
   obtain⟨i,hi⟩:=yR.1 hm;obtain⟨j,hj⟩:=yR.1 hk;obtain⟨z7,z1⟩:=zE.1 hi;obtain⟨z8,z6⟩:=zE.1 hj;by_cases hij:i=j
   ·subst hij;left;rw[←z1,←z6]
   ·exfalso;rcases uM hij with hlt|hgt
    ·have:=yU.1 hd i j z7 z8 hlt;rw[z1,z6]at this;exact this (by rw[e,h2]) x hx ⟨hh,h3⟩
    ·have:=yU.1 hd j i z8 z7 hgt;rw[z1,z6]at this;exact this (by rw[e,h2]) x hx ⟨h3,hh⟩
  rcases this with rfl|this
  ·rw[←h4];simp
  ·rw[←h4,this];simp
 ·intro hz;obtain rfl:=z_.1 hz;exact⟨hw.dst m hm,m,hm,by rw[e];simp,hh,rfl⟩
theorem q1s{a:Aut}{cl:List Prd}(hc:Cls a cl){c:Prd}(hm:c∈cl):Ew a (Qn c):=by have h:=(Ww (hc.wf c hm).1 (hc.wf c hm).2).1;have h2:=(hc.wf c hm).1.lt h;exact⟨⟨by simp[Qn],by simp only[Qn];omega⟩,h2.2⟩
end Go.Abs
namespace Go.Abs
def x1t(p:Prd):Bool:=decide (p.length≤4) && p.all fun s=>decide (s.length≤12)
def x17(a:Aut):Bool:=decide (a.fin.length≤8) && decide (a.mv.length≤16) && a.mv.all fun m=>x1t m.on
theorem M8{p:Prd}:x1t p=true↔p.length≤4∧∀s∈p,s.length≤12:=by simp[x1t]
theorem y15(l:List Iv):(Ej l).length≤l.length:=by have h1:=Rc (E3 l) [];have h2:=(Ol l).1.length_eq;rw[Ej];simp at h1;omega
theorem q1q{l:List Iv}(h:Sep l)(hb:∀n,M l n→inR n):(Wv l).length≤l.length+1:=(Pb h hb).2.2
def w23(a:Aut)(l:List Int)(x:Sy):Int×List Int:=if Wg a≠0 then(Wg a,[])else if 256<l.length then(5,[])else
 if l.any (fun s=>decide (s<0) || decide ((a.fin.length:Int)≤s))then(6,[])else if Z6 a.types x≠0 then(Z6 a.types x,[])else(0,Wh a l x)
theorem V8{n:Nat}{l:List Int}(h:l.Pairwise (·<·))(hr:∀s∈l,0≤s∧s<n):l.length≤n:=by
 have he:l=(Rt n).filter fun z=>decide (z∈l):=Uc h ((Gj n).filter _) fun z=>by rw[xU,Ru];exact⟨fun hz=>⟨hr z hz,by simpa using hz⟩,fun hz=>by simpa using hz.2⟩
 have h1:=xX (fun z=>decide (z∈l)) (Rt n);rw[←he]at h1;simpa[Rt]using h1
theorem Lp{a:Aut}(h:OkA a)(l:List Int)(x:Sy):(Wh a l x).length≤256:=by have:=V8 (Up a l x) Pz;have:=h.fin;omega
def w0h(p q:Prd):Bool:= !Wi (Wc p q)
def O3(a:Aut):Bool:=(yV a.mv.length).all fun i=>(yV i).all fun k=> !(decide ((a.mv.getD i default).src=(a.mv.getD k default).src) && w0h (a.mv.getD i default).on (a.mv.getD k default).on)
theorem Lm{T:Nat}{p q:Prd}(hp:PWf T p)(hq:PWf T q):w0h p q=true↔∃t n,PM p t n∧PM q t n:=by
 unfold w0h;cases hv:Wi (Wc p q)
 ·simp only[Bool.not_false,true_iff];apply Classical.byContradiction;intro hn;have:=(Ro (Tb hp hq.1)).2 (fun t n hm=>hn ⟨t,n,(Ef hp.1 hq.1 t n).1 hm⟩);rw[hv]at this;cases this
 ·simp only[Bool.not_true,Bool.false_eq_true,false_iff];rintro⟨t,n,hm⟩;exact(Ro (Tb hp hq.1)).1 hv t n ((Ef hp.1 hq.1 t n).2 hm)
theorem Gd{a:Aut}(h:WfA a):O3 a=true↔Su a:=by
 unfold O3 Su;rw[yE,yU];have hg:∀(i:Nat) (hi:i<a.mv.length),a.mv.getD i default=a.mv[i]:=fun i hi=>by simp[y_,hi]
 constructor
 ·intro hs i j hi hj z6 e x hx;rintro⟨h1,h2⟩;have:=hs j (xJ.2 hj);rw[yE]at this;have:=this i (xJ.2 z6);rw[hg j hj,hg i hi,e]at this;have hc:w0h a.mv[j].on a.mv[i].on=true:=(Lm (h.on _ (zT hj)) (h.on _ (zT hi))).2 ⟨_,_,(Tv h (zT hj) hx).1 h2,(Tv h (zT hi) hx).1 h1⟩;rw[hc]at this;simp at this
 ·intro hd i hi;have hi:=xJ.1 hi;rw[yE];intro k hk;have hk:=xJ.1 hk;have z1:k<a.mv.length:=by omega
  rw[hg i hi,hg k z1];by_cases e:a.mv[i].src=a.mv[k].src
  ·cases hc:w0h a.mv[i].on a.mv[k].on
   ·simp
   ·exfalso;obtain⟨t,n,h1,h2⟩:=(Lm (h.on _ (zT hi)) (h.on _ (zT z1))).1 hc;have hb:=(h.on _ (zT hi)).lt h1;have hx:Ew a ⟨t,n⟩:=⟨⟨by simp,by simp only;omega⟩,hb.2⟩
    exact hd k i z1 hi hk e.symm ⟨t,n⟩ hx ⟨(Tv h (zT z1) hx).2 (by simpa using h2),(Tv h (zT hi) hx).2 (by simpa using h1)⟩
  ·simp[e]
end Go.Abs
namespace Go.Abs
open Go Go.Proofs
attribute [simp] T74 T76 T91 T78 T23 T22 T25 T53 T45 T28
@[simp] def encP (p:Prd):AV:= .agg [.list (p.map encL)]
abbrev LP (l:List Prd):AV:= .list (l.map encP)
@[simp] def encSy (x:Sy):AV:= .agg [.i x.ty,.i x.num]
@[simp] def encMv (m:Mv):AV:= .agg [.i m.src,.i m.dst,.list (m.on.map encL)]
@[simp] def encA (a:Aut):AV:= .agg [.i a.types,.list (a.fin.map .bool),.list (a.mv.map encMv)]
attribute [local irreducible] ckR
theorem P7(T:Int)(p:Prd):PC Tryz.prog 82 [.i T,encP p] (fun r=>r= .i (E8 T p)):=by
 refine Ql tOk Tryz.func82 rfl Tryz.results82 rfl (by simp[Tryz.ntmps82]) ?_;rw[Tryz.ntmps82];simp only[Qg];simp only[encP];refine W1 1 0 rfl rfl (fun hlen=> ?_);rw[yO]at hlen;repeat first|(refine r_ ?_;simp)|refine q_ ?_
 refine Qa rfl (fun h=> ?_) (fun h=> ?_)
 ·repeat first|(refine r_ ?_;simp)|refine q_ ?_
  rw[E8,if_pos (by simpa using h)]
 have h':¬(T<1∨16<T):=by simpa using h
 repeat first|(refine r_ ?_;simp)|refine q_ ?_
 refine Qa rfl (fun h2=> ?_) (fun h2=> ?_)
 ·repeat first|(refine r_ ?_;simp)|refine q_ ?_
  rw[E8,if_neg h',if_pos (by simpa using h2)]
 have z7:(p.length:Int)=T:=by simpa using h2
 have hE:E8 T p=y0i p:=by rw[E8,if_neg h',if_neg (by simpa using z7)]
 rw[hE];repeat first|(refine r_ ?_;simp)|refine q_ ?_
 refine Qu p.length (fun j=>y0i p=y0i (p.drop j)) (fun j=>[(22,.list (p.map encL)),(23,.i p.length),(24,.i j)]) (fun _=>[]) rfl (by simp) (by simp) (by simp) (by simp) (by simp) ?_;intro j hj hI ih;repeat first|(refine r_ ?_;simp)|refine q_ ?_
 refine Qa rfl (fun z8=> ?_) (fun za=> ?_)
 ·have z1:j<p.length:=by simpa using z8
  have hw:IntKind.i64.wrap ((j:Int)+1)=j+1:=wrap_i64 _ (by omega) (by omega);rw[Ea z1,y0i]at hI;repeat first|(refine r_ ?_;simp[z1])|refine q_ ?_
  refine Qe rfl rfl (by simp) (q05 p[j]) rfl ?_;rintro _ rfl;simp;repeat first|(refine r_ ?_;simp)|refine q_ ?_
  refine Qa rfl (fun h3=> ?_) (fun h3=> ?_)
  ·repeat first|(refine r_ ?_;simp)|refine q_ ?_
   rw[hI,if_pos (by simpa using h3)]
  rw[if_neg (by simpa using h3)]at hI;repeat first|(refine r_ ?_;simp[hw])|refine q_ ?_
  refine Qs _ (ih z1 hI) rfl (by simp) ?_ (by simp) (by simp);simp
 ·have z6:j=p.length:=by simp at za;omega
  subst z6;repeat first|(refine r_ ?_;simp)|refine q_ ?_
  rw[hI,ws];rfl
theorem x04(T:Int)(p:Prd):PC Tryz.prog 116 [.i T,encP p] (fun r=>r= .i (E8 T p)):=by
 refine Ql tOk Tryz.func116 rfl Tryz.results116 rfl (by simp[Tryz.ntmps116]) ?_;rw[Tryz.ntmps116];simp only[Qg];simp only[encP];refine W1 1 0 rfl rfl (fun hlen=> ?_);rw[yO]at hlen;repeat first|(refine r_ ?_;simp)|refine q_ ?_
 refine Qa rfl (fun h=> ?_) (fun h=> ?_)
 ·repeat first|(refine r_ ?_;simp)|refine q_ ?_
  rw[E8,if_pos (by simpa using h)]
 have h':¬(T<1∨16<T):=by simpa using h
 repeat first|(refine r_ ?_;simp)|refine q_ ?_
 refine Qa rfl (fun h2=> ?_) (fun h2=> ?_)
 ·repeat first|(refine r_ ?_;simp)|refine q_ ?_
  rw[E8,if_neg h',if_pos (by simpa using h2)]
 have z7:(p.length:Int)=T:=by simpa using h2
 have hE:E8 T p=y0i p:=by rw[E8,if_neg h',if_neg (by simpa using z7)]
 rw[hE];repeat first|(refine r_ ?_;simp)|refine q_ ?_
 refine Qu p.length (fun j=>y0i p=y0i (p.drop j)) (fun j=>[(0,.i T),(3,.vptr 0 0),(5,.i j)]) (fun _=>[.vars [.list (p.map encL)]]) rfl (by simp) (by simp) (by simp) (by simp) (by simp) ?_;intro j hj hI ih;repeat first|(refine r_ ?_;simp)|refine q_ ?_
 refine Qa rfl (fun z8=> ?_) (fun za=> ?_)
 ·have z1:j<p.length:=by have k:(j:Int)<T:=(by simpa using z8);omega
  have hw:IntKind.i64.wrap ((j:Int)+1)=j+1:=wrap_i64 _ (by omega) (by omega);rw[Ea z1,y0i]at hI;repeat first|(refine r_ ?_;simp[z1])|refine q_ ?_
  refine Qe rfl rfl (by simp) (u08 p[j]) rfl ?_;rintro _ rfl;simp;repeat first|(refine r_ ?_;simp)|refine q_ ?_
  refine Qa rfl (fun h3=> ?_) (fun h3=> ?_)
  ·repeat first|(refine r_ ?_;simp)|refine q_ ?_
   rw[hI,if_pos (by simpa using h3)]
  rw[if_neg (by simpa using h3)]at hI;repeat first|(refine r_ ?_;simp[hw])|refine q_ ?_
  refine Qs _ (ih z1 hI) rfl (by simp) ?_ (by simp) (by simp);simp
 ·have z6:j=p.length:=by have k:¬(j:Int)<T:=(by simpa using za);omega
  subst z6;repeat first|(refine r_ ?_;simp)|refine q_ ?_
  rw[hI,ws];rfl
end Go.Abs
namespace Go.Abs
open Go Go.Proofs
def Hz:List Prd→Int
 |[]=>0
 |p::r=>if E8 p.length p≠0 then E8 p.length p else Hz r
attribute [local irreducible] E8
theorem Kt(l:List Prd):PC Tryz.prog 157 [LP l] (fun r=>r= .i (Hz l)):=by
 refine Ql tOk Tryz.func157 rfl Tryz.results157 rfl (by simp[Tryz.ntmps157]) ?_;rw[Tryz.ntmps157];simp only[Qg];refine Yo 0 rfl (fun hlen=> ?_);rw[yO]at hlen;repeat first|(refine r_ ?_;simp)|refine q_ ?_
 refine Qu l.length (fun j=>Hz l=Hz (l.drop j)) (fun j=>[(6,LP l),(7,.i l.length),(8,.i j)]) (fun _=>[]) rfl (by simp) (by simp) (by simp) (by simp) (by simp) ?_;intro j hj hI ih;repeat first|(refine r_ ?_;simp)|refine q_ ?_
 refine Qa rfl (fun z7=> ?_) (fun z8=> ?_)
 ·have z1:j<l.length:=by simpa using z7
  have hw:IntKind.i64.wrap ((j:Int)+1)=j+1:=wrap_i64 _ (by omega) (by omega);rw[Ea z1,Hz]at hI;repeat first|(refine r_ ?_;simp[z1])|refine q_ ?_
  refine Qe rfl rfl (by simp) (P7 l[j].length l[j]) rfl ?_;rintro _ rfl;simp;repeat first|(refine r_ ?_;simp)|refine q_ ?_
  refine Qa rfl (fun h3=> ?_) (fun h3=> ?_)
  ·repeat first|(refine r_ ?_;simp)|refine q_ ?_
   rw[hI,if_pos (by simpa using h3)]
  rw[if_neg (by simpa using h3)]at hI;repeat first|(refine r_ ?_;simp[hw])|refine q_ ?_
  refine Qs _ (ih z1 hI) rfl (by simp) ?_ (by simp) (by simp);simp
 ·have z6:j=l.length:=by simp at z8;omega
  subst z6;repeat first|(refine r_ ?_;simp)|refine q_ ?_
  rw[hI,ws];rfl
def d0s(p:Prd)(x:Sy):Int:=if Hz [p]≠0 then Hz [p]else Z6 p.length x
def Bj(p:Prd)(x:Sy):Bool×Int:=if d0s p x≠0 then(false,d0s p x)else(Tn p x,0)
attribute [local irreducible] Hz y1o
theorem v1k{T:Int}{p:Prd}(h:E8 T p=0):Hz [p]=0∧(p.length:Int)=T:=by
 obtain⟨h1,h2⟩:=(Es T p).1 h;have hl:(p.length:Int)=T:=by have:=h2.1;omega
 exact⟨by unfold Hz;rw[hl,if_neg (fun k=>k h)];unfold Hz;rfl,hl⟩
theorem f0u{p:Prd}(h:Hz [p]=0):∀s∈p,CanonL s:=by
 unfold Hz at h;by_cases hc:E8 p.length p=0
 ·exact((Es _ p).1 hc).2.2
 ·rw[if_pos hc]at h;exact absurd h hc
theorem Cr(p:Prd)(x:Sy):PC Tryz.prog 99 [encP p,encSy x] (fun r=>r= .tup [.bool (Bj p x).1,.i (Bj p x).2]):=by
 refine Ql tOk Tryz.func99 rfl Tryz.results99 rfl (by simp[Tryz.ntmps99]) ?_;rw[Tryz.ntmps99];simp only[Qg];simp only[encP,encSy];refine W1 0 0 rfl rfl (fun hlen=> ?_);rw[yO]at hlen;repeat first|(refine r_ ?_;simp)|refine q_ ?_
 refine I5 2 rfl ?_;simp;refine Qe rfl rfl (by simp) (Kt [p]) rfl ?_;rintro _ rfl;simp;repeat first|(refine r_ ?_;simp)|refine q_ ?_
 refine Qa rfl (fun h=> ?_) (fun h=> ?_)
 ·repeat first|(refine r_ ?_;simp)|refine q_ ?_
  have h':Hz [p]≠0:=by simpa using h
  have hE:d0s p x=Hz [p]:=by rw[d0s,if_pos h']
  rw[Bj,hE,if_pos h'];exact⟨rfl,rfl⟩
 have h':Hz [p]=0:=by simpa using h
 have hE:d0s p x=Z6 p.length x:=by rw[d0s,if_neg (fun k=>k h')]
 repeat first|(refine r_ ?_;simp)|refine q_ ?_
 refine Qa rfl (fun h1=> ?_) (fun h1=> ?_)
 ·repeat first|(refine r_ ?_;simp)|refine q_ ?_
  have z6:x.ty<0∨(p.length:Int)≤x.ty:=by simpa using h1
  have z1:d0s p x=6:=by rw[hE,Z6,if_pos z6]
  rw[Bj,z1];exact⟨rfl,rfl⟩
 have z6:¬(x.ty<0∨(p.length:Int)≤x.ty):=by simpa using h1
 repeat first|(refine r_ ?_;simp)|refine q_ ?_
 refine Qa rfl (fun h2=> ?_) (fun h2=> ?_)
 ·repeat first|(refine r_ ?_;simp)|refine q_ ?_
  have z7:x.num< -1099511627776∨1099511627776<x.num:=by simpa using h2
  have z1:d0s p x=2:=by rw[hE,Z6,if_neg z6,if_pos z7]
  rw[Bj,z1];exact⟨rfl,rfl⟩
 have z7:¬(x.num< -1099511627776∨1099511627776<x.num):=by simpa using h2
 have z1:d0s p x=0:=by rw[hE,Z6,if_neg z6,if_neg z7]
 repeat first|(refine r_ ?_;simp)|refine q_ ?_
 have zb:0≤x.ty:=by omega
 have zc:x.ty<(p.length:Int):=by omega
 have z8:x.ty.toNat<p.length:=by omega
 refine Qk tOk mixed [] (.val 0 (.val 1 (.val 2 (.val 3 (.val 4 (.val 5 (.val 6 (.val 7 (.one 8 (.val 9 (.val 10 (.val 11 (.val 12 (.done)))))))))))))) rfl (by kernel_rfl) ?_;simp[zb,zc,z8];refine Qe rfl rfl (by simp) (Hl p[x.ty.toNat] x.num) rfl ?_;rintro _ rfl;simp;repeat first|(refine r_ ?_;simp)|refine q_ ?_
 have hc:=f0u h' _ (zT z8);have za:y1o p[x.ty.toNat] x.num=(O0 p[x.ty.toNat] x.num,0):=by rw[y1o,if_pos ((Xj _).2 hc)]
 rw[Bj,z1,if_neg (fun k=>k rfl),za];refine⟨?_,rfl⟩;simp[Tn,zb,zc,y_,z8]
theorem j1i{T:Int}{p:Prd}(h:E8 T p=0)(x:Sy):Bj p x=if Z6 T x≠0 then(false,Z6 T x)else(Tn p x,0):=by
 obtain⟨h1,h2⟩:=v1k h;have hE:d0s p x=Z6 T x:=by rw[d0s,if_neg (fun k=>k h1),h2]
 rw[Bj,hE]
end Go.Abs
namespace Go.Abs
open Go Go.Proofs
abbrev Q7 (a:Aut):List AV:=[.i a.types,.list (a.fin.map .bool),.list (a.mv.map encMv)]
theorem k1x(p:Prd)(x:Sy):PC Tryz.prog 175 [encP p,encSy x] (fun r=>r= .bool ((Bj p x).2==0 && (Bj p x).1)):=by
 refine Ql tOk Tryz.func175 rfl Tryz.results175 rfl (by simp[Tryz.ntmps175]) ?_;rw[Tryz.ntmps175];simp only[Qg];simp only[encP,encSy];repeat first|(refine r_ ?_;simp)|refine q_ ?_
 refine Qe rfl rfl (by simp) (Cr p x) rfl ?_;rintro _ rfl;simp;repeat first|(refine r_ ?_;simp)|refine q_ ?_
def stB(a:Aut)(n:Int):Bool:=decide (0≤n) && decide (n<a.fin.length)
theorem Lb(a:Aut)(n:Int):stB a n=true↔0≤n∧n<a.fin.length:=by simp[stB]
theorem L2(H:List AObj)(id:Nat)(a:Aut)(hid:H[id]? =some (.vars (Q7 a)))(n:Int):FC Tryz.prog 134 [.i n,.vptr id 0] H (fun r H'=>r= .bool (stB a n)∧H'=H):=by refine W9 tOk Tryz.func134 rfl Tryz.results134 rfl (by simp[Tryz.ntmps134]) ?_;rw[Tryz.ntmps134];simp only[Qg];repeat first|(refine r_ ?_;simp[hid,stB])|refine q_ ?_
attribute [local irreducible] E8 stB
theorem Yh(a:Aut):PC Tryz.prog 73 [encA a] (fun r=>r= .i (Wg a)):=by
 refine Ql tOk Tryz.func73 rfl Tryz.results73 rfl (by simp[Tryz.ntmps73]) ?_;rw[Tryz.ntmps73];simp only[Qg];simp only[encA];refine W1 0 1 rfl rfl (fun z7=> ?_);refine W1 0 2 rfl rfl (fun z8=> ?_);rw[yO]at z7 z8;repeat first|(refine r_ ?_;simp)|refine q_ ?_
 refine Qa rfl (fun h=> ?_) (fun h=> ?_)
 ·repeat first|(refine r_ ?_;simp)|refine q_ ?_
  rw[Wg,if_pos (by simpa using h)]
 have h1:¬(a.types<1∨16<a.types):=by simpa using h
 repeat first|(refine r_ ?_;simp)|refine q_ ?_
 refine Qa rfl (fun h=> ?_) (fun h=> ?_)
 ·repeat first|(refine r_ ?_;simp)|refine q_ ?_
  rw[Wg,if_neg h1,if_pos];simp at h;omega
 have h2:¬(a.fin.length<1∨256<a.fin.length∨2048<a.mv.length):=by simp at h;omega
 have hE:Wg a=y0p a.types a.fin.length a.mv:=by rw[Wg,if_neg h1,if_neg h2]
 rw[hE];repeat first|(refine r_ ?_;simp)|refine q_ ?_
 refine Qu a.mv.length (fun j=>y0p a.types a.fin.length a.mv=y0p a.types a.fin.length (a.mv.drop j)) (fun j=>[(1,.vptr 0 0),(3,.fn (.func 134) [] [.vptr 0 0]),(33,.list (a.mv.map encMv)),(34,.i a.mv.length),(35,.i j)]) (fun _=>[.vars (Q7 a)]) rfl (by simp) (by simp) (by simp) (by simp) (by simp) ?_;intro j hj hI ih;repeat first|(refine r_ ?_;simp)|refine q_ ?_
 refine Qa rfl (fun za=> ?_) (fun zb=> ?_)
 ·have z1:j<a.mv.length:=by simpa using za
  have hw:IntKind.i64.wrap ((j:Int)+1)=j+1:=wrap_i64 _ (by omega) (by omega);rw[Ea z1,y0p]at hI;repeat first|(refine r_ ?_;simp[z1])|refine q_ ?_
  cases hb:stB a a.mv[j].src with
  |false=>
   refine Q8 rfl rfl (L2 _ 0 a rfl a.mv[j].src) rfl ?_;rintro r H' ⟨rfl,rfl⟩;simp[hb];repeat first|(refine r_ ?_;simp)|refine q_ ?_
   refine Q4 rfl rfl ?_;simp;refine Qm rfl ?_;repeat first|(refine r_ ?_;simp)|refine q_ ?_
   rw[hI,if_pos (fun k=>by rw[(Lb _ _).2 k.1]at hb;cases hb)]
  |true=>
   refine Q8 rfl rfl (L2 _ 0 a rfl a.mv[j].src) rfl ?_;rintro r H' ⟨rfl,rfl⟩;simp[hb];repeat first|(refine r_ ?_;simp)|refine q_ ?_
   refine Q8 rfl rfl (L2 _ 0 a rfl a.mv[j].dst) rfl ?_;rintro r H' ⟨rfl,rfl⟩;simp;repeat first|(refine r_ ?_;simp)|refine q_ ?_
   refine Qa rfl (fun h3=> ?_) (fun h3=> ?_)
   ·repeat first|(refine r_ ?_;simp)|refine q_ ?_
    rw[hI,if_pos (fun k=>by rw[(Lb _ _).2 k.2]at h3;cases h3)]
   have hd:stB a a.mv[j].dst=true:=by simpa using h3
   rw[if_neg (fun k=>k ⟨(Lb _ _).1 hb,(Lb _ _).1 hd⟩)]at hI;repeat first|(refine r_ ?_;simp)|refine q_ ?_
   refine Qe rfl rfl (by simp) (P7 a.types a.mv[j].on) rfl ?_;rintro _ rfl;simp;repeat first|(refine r_ ?_;simp)|refine q_ ?_
   refine Qa rfl (fun h4=> ?_) (fun h4=> ?_)
   ·repeat first|(refine r_ ?_;simp)|refine q_ ?_
    rw[hI,if_pos (by simpa using h4)]
   rw[if_neg (by simpa using h4)]at hI;repeat first|(refine r_ ?_;simp[hw])|refine q_ ?_
   refine Qs _ (ih z1 hI) rfl (by simp) ?_ (by simp) (by simp);simp
 ·have z6:j=a.mv.length:=by simp at zb;omega
  subst z6;repeat first|(refine r_ ?_;simp)|refine q_ ?_
  rw[hI,ws];rfl
theorem Jr(a:Aut):PC Tryz.prog 51 [encA a] (fun r=>r= .i (Wg a)):=by
 refine Ql tOk Tryz.func51 rfl Tryz.results51 rfl (by simp[Tryz.ntmps51]) ?_;rw[Tryz.ntmps51];simp only[Qg];simp only[encA];refine W1 0 1 rfl rfl (fun z7=> ?_);refine W1 0 2 rfl rfl (fun z8=> ?_);rw[yO]at z7 z8;repeat first|(refine r_ ?_;simp)|refine q_ ?_
 refine Qa rfl (fun h=> ?_) (fun h=> ?_)
 ·repeat first|(refine r_ ?_;simp)|refine q_ ?_
  rw[Wg,if_pos (by simpa using h)]
 have h1:¬(a.types<1∨16<a.types):=by simpa using h
 repeat first|(refine r_ ?_;simp)|refine q_ ?_
 refine Qa rfl (fun h=> ?_) (fun h=> ?_)
 ·repeat first|(refine r_ ?_;simp)|refine q_ ?_
  rw[Wg,if_neg h1,if_pos];simp at h;omega
 have h2:¬(a.fin.length<1∨256<a.fin.length∨2048<a.mv.length):=by simp at h;omega
 have hE:Wg a=y0p a.types a.fin.length a.mv:=by rw[Wg,if_neg h1,if_neg h2]
 rw[hE];repeat first|(refine r_ ?_;simp)|refine q_ ?_
 refine Qu a.mv.length (fun j=>y0p a.types a.fin.length a.mv=y0p a.types a.fin.length (a.mv.drop j)) (fun j=>[(1,.vptr 0 0),(3,.i a.fin.length),(4,.i j)]) (fun _=>[.vars (Q7 a)]) rfl (by simp) (by simp) (by simp) (by simp) (by simp) ?_;intro j hj hI ih;repeat first|(refine r_ ?_;simp)|refine q_ ?_
 refine Qa rfl (fun za=> ?_) (fun zb=> ?_)
 ·have z1:j<a.mv.length:=by simpa using za
  have hw:IntKind.i64.wrap ((j:Int)+1)=j+1:=wrap_i64 _ (by omega) (by omega);rw[Ea z1,y0p]at hI;repeat first|(refine r_ ?_;simp[z1])|refine q_ ?_
  refine Qa rfl (fun h3=> ?_) (fun h3=> ?_)
  ·repeat first|(refine r_ ?_;simp)|refine q_ ?_
   rw[hI,if_pos];simp at h3;omega
  rw[if_neg (by simp at h3 ⊢;omega)]at hI;repeat first|(refine r_ ?_;simp)|refine q_ ?_
  refine Qe rfl rfl (by simp) (x04 a.types a.mv[j].on) rfl ?_;rintro _ rfl;simp;repeat first|(refine r_ ?_;simp)|refine q_ ?_
  refine Qa rfl (fun h4=> ?_) (fun h4=> ?_)
  ·repeat first|(refine r_ ?_;simp)|refine q_ ?_
   rw[hI,if_pos (by simpa using h4)]
  rw[if_neg (by simpa using h4)]at hI;repeat first|(refine r_ ?_;simp[hw])|refine q_ ?_
  refine Qs _ (ih z1 hI) rfl (by simp) ?_ (by simp) (by simp);simp
 ·have z6:j=a.mv.length:=by simp at zb;omega
  subst z6;repeat first|(refine r_ ?_;simp)|refine q_ ?_
  rw[hI,ws];rfl
end Go.Abs
