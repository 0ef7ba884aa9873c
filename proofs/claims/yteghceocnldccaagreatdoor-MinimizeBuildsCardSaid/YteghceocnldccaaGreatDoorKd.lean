/- Part Kd of the proof: an abstract machine over the model, and what the functions of the program hand back in its terms. No condition. -/
import Derived.Test.YteghceocnldccaaGreatDoorKc
set_option linter.all false
open List renaming take_append_drop→xP,mem_append→zV,mem_cons→yE,foldl_cons→xZ,take_succ_eq_append_getElem→zP,eq_nil_or_concat→wV,getElem?_append_right→zH,concat_eq_append→wW,take_length→yP,length_map→zZ,drop_length→xX,getElem_of_mem→y_,getElem_mem→zK,any_eq_true→wN,any_eq_false→wQ,replicate→yH,cons_append→vT,length_cons→yS,length_filter_le→xM,perm_middle→vD,pairwise_append→yI,pairwise_cons→yQ,pairwise_iff_getElem→yR,getElem_take→tc,pairwise_mergeSort→uI,mem_mergeSort→t8,mem_flatMap→wS,mem_filterMap→vI,countP_cons→vz,countP_eq_zero→uZ,map_cons→yY,sum_cons→ul,getElem?_eq_some_iff→zE,mem_of_getElem?→zJ,getElem?_eq_getElem→zI,perm_ext_iff_of_nodup→uB,zipWith→tC,getElem?_replicate→u6,eq_of_mem_replicate→vE,getElem?_zipWith→vv,mem_iff_getElem?→yK,getElem?_map→zX,all_eq_true→zW,isEmpty_iff→up,mem_singleton→zT,pairwise_flatMap→u7,range→yJ,getD→yV,getElem?_set_self→zL,getElem?_set_ne→zB,mem_cons_of_mem→uX,map_congr_left→xT,mem_map→zR,mem_range→yW,pairwise_map→wJ,mem_filter→xL,mem_append_left→xE,findIdx?_eq_some_iff_getElem→xA,getElem_inj→vM,getElem?_append_left→zF,eq_nil_iff_forall_not_mem→vK,mem_append_right→ud
open Nat renaming le_trans→yO,le_refl→zQ,lt_trichotomy→vP,lt_or_gt_of_ne→ur
open Bool renaming eq_iff_iff→xU,not_eq_true→uC
open Int renaming le_refl→xH,lt_trichotomy→tl
open Option renaming map_eq_some_iff→zU
set_option maxHeartbeats 2000000
set_option linter.unusedSimpArgs false
set_option maxRecDepth 100000
namespace Go.Abs
open Go Go.Proofs
def W4(l:List Iv):List Iv:=Qy [] (E4 l)
theorem W9(ini:List Iv)(y x:Iv):W6 (ini++[y]) x=if x.lo≤y.hi+1 then ini++[⟨y.lo,if y.hi<x.hi then x.hi else y.hi⟩]else ini++[y]++[x]:=by simp[W6]
theorem x1q(s:List Iv)(x y:Iv):y∈Cj s x↔y=x∨y∈s:=by
 have:(s.take (Yf s x s.length)++s.drop (Yf s x s.length))=s:=xP _ _;rw[Cj,zV,yE]
 conv=>rhs;rw[←this,zV]
 constructor<;>rintro(h|h|h)<;>simp[h]
theorem K8:∀(l acc:List Iv) (y:Iv),y∈l.foldl Cj acc↔y∈acc∨y∈l
 |[],acc,y=>by simp
 |x::r,acc,y=>by
  rw[xZ,K8 r,x1q,yE];constructor
  ·rintro((h|h)|h)<;>simp[h]
  ·rintro(h|h|h)<;>simp[h]
theorem k0r(l:List Iv)(y:Iv):y∈E4 l↔y∈l:=by rw[E4,K8];simp
attribute [local irreducible] E4
theorem Nd(l:List Iv)(hl:l.length≤1000000000)(zk:∀y∈l,U7 y):PC Tryz.prog 128 [LIv l] (fun r=>r=LIv (W4 l)):=by
 refine Ql tOk Tryz.func128 rfl Tryz.results128 rfl (by simp[Tryz.ntmps128]) ?_;rw[Tryz.ntmps128];simp only[Qg];repeat first|(refine r_ ?_;simp)|refine q_ ?_
 refine Qf rfl rfl (by simp) (c0a l hl) rfl ?_;rintro _ rfl;simp;repeat first|(refine r_ ?_;simp)|refine q_ ?_
 have hl':(E4 l).length≤1000000000:=by rw[Hm];exact hl
 have z8:∀y∈E4 l,U7 y:=fun y hy=>zk y ((k0r l y).1 hy);unfold W4;generalize E4 l=s at hl' z8 ⊢;refine Q3 4 187 2 rfl ?_;simp;refine Qp (Qc (sl':=[(3,LIv s),(4,.sl 0 2 0 0),(5,.i 0)]) ?_ (by simp));refine Qo (F:=fun(u:Nat×Nat×List AObj)=>⟨[(3,LIv s),(4,.sl u.2.1 2 0 (Qy [] (s.take u.1)).length),(5,.i u.1)],u.2.2⟩)
  (fun u=>u.1≤s.length∧u.2.2[u.2.1]? =some (.arr 187 2 ((Qy [] (s.take u.1)).map encIv))) (fun u=>s.length - u.1) ?_ (0,0,[.arr 187 2 []]) ⟨by simp,rfl⟩
 rintro⟨j,q,H2⟩ ⟨hj,g1⟩ ih;simp only at hj g1 ih ⊢;repeat first|(refine r_ ?_;simp)|refine q_ ?_
 refine Qb rfl (fun zl=> ?_) (fun zm=> ?_)
 ·have z1:j<s.length:=by simpa using zl
  have hw:IntKind.i64.wrap ((j:Int)+1)=j+1:=wrap_i64 _ (by omega) (by omega);have zc:(Qy [] (s.take j)).length≤1000000000:=yO (Rb _ _) (by simp;omega);have zd:∀y∈Qy [] (s.take j),U7 y:=Iq _ _ (by simp) (fun y hy=>z8 y (List.mem_of_mem_take hy));have zh:Qy [] (s.take (j+1))=W6 (Qy [] (s.take j)) s[j]:=by rw[zP z1,Uu]
  have z6:∀(q':Nat) (H':List AObj),H'[q']? =some (.arr 187 2 ((W6 (Qy [] (s.take j)) s[j]).map encIv))→_:=fun q' H' h=>ih (j+1,q',H') ⟨by simp;omega,by rw[zh];exact h⟩ (by simp;omega);clear ih;simp only[zh]at z6;generalize Qy [] (s.take j)=acc at g1 zc zd z6 ⊢;repeat first|(refine r_ ?_;simp)|refine q_ ?_
  rcases wV acc with rfl|⟨ini,y,rfl⟩
  ·have zi:IntKind.i64.wrap (-1)= -1:=by decide
   repeat first|(refine r_ ?_;simp[zi])|refine q_ ?_
   refine Qn tOk mixed [] (.val 0 (.val 1 (.val 2 (.val 3 (.val 4 (.val 5 (.val 6 (.val 7 (.val 8 (.val 9 (.val 10 (.val 11 (.val 12 (.val 13 (.val 14 (.val 15 (.done))))))))))))))))) rfl (by kernel_rfl) ?_;simp[zi,z1,g1];refine Qk rfl ?_;simp;repeat first|(refine r_ ?_;simp[z1,g1])|refine q_ ?_
   refine Qe tOk rfl rfl U6 rfl Sl rfl (by decide) (by decide) rfl rfl rfl ?_;simp[Qa g1,Qi g1];refine⟨by simp[Wa,Qa g1,Qi g1]<;>omega,?_⟩;repeat first|(refine r_ ?_;simp[hw])|refine q_ ?_
   exact Qc (sl':=[(3,LIv s),(4,.sl (H2.length+1) 2 0 1),(5,.i (j+1:Nat))]) (z6 (H2.length+1) _ (by rw[zH (by simp)];simp[W6])) (by simp)
  ·have hy:=zd y (by simp);have zn:=(Eb _).1 hy.2;have zj:IntKind.i64.wrap (y.hi+1)=y.hi+1:=wrap_i64 _ (by omega) (by omega);rw[wW]at g1 zc zd z6 ⊢;have hlen:(ini++[y]).length=ini.length+1:=by simp
   rw[hlen]at zc ⊢;have zb:IntKind.i64.wrap (ini.length:Int)=ini.length:=wrap_i64 _ (by omega) (by omega);have hg:((ini++[y]).map encIv)[ini.length]? =some (encIv y):=by simp
   have z7:(ini.length:Int)<ini.length+1:=by omega
   repeat first|(refine r_ ?_;simp[zb])|refine q_ ?_
   have za:¬((ini.length:Int)<0):=by omega
   refine Qn tOk mixed [] (.val 0 (.val 1 (.val 2 (.val 3 (.val 4 (.val 5 (.val 6 (.val 7 (.val 8 (.val 9 (.val 10 (.val 11 (.val 12 (.val 13 (.val 14 (.val 15 (.done))))))))))))))))) rfl (by kernel_rfl) ?_;simp[z1,g1,zb,hg,zj,z7,za];rw[W9]at z6;refine Qb rfl (fun h1=> ?_) (fun h1=> ?_)
   ·have ze:¬(s[j].lo≤y.hi+1):=by simp at h1;omega
    rw[if_neg ze]at z6;repeat first|(refine r_ ?_;simp[z1,g1])|refine q_ ?_
    refine Qe tOk rfl rfl U6 rfl Sl rfl (by decide) (by decide) rfl rfl rfl ?_;simp[Qa g1,Qi g1];refine⟨by simp[Wa,Qa g1,Qi g1]<;>omega,?_⟩;repeat first|(refine r_ ?_;simp[hw])|refine q_ ?_
    exact Qc (sl':=[(3,LIv s),(4,.sl (H2.length+1) 2 0 (ini.length+1+1)),(5,.i (j+1:Nat))]) (by
     have:=z6 (H2.length+1) (H2.set q .dead++[.arr 187 2 [encIv s[j]],.arr 187 2 ((ini++[y]++[s[j]]).map encIv)]) (by rw[zH (by simp)];simp);simpa using this) (by simp)
   ·have ze:s[j].lo≤y.hi+1:=by simp at h1;omega
    rw[if_pos ze]at z6;repeat first|(refine r_ ?_;simp)|refine q_ ?_
    refine Qn tOk mixed [] (.val 0 (.val 1 (.val 2 (.val 3 (.val 4 (.val 5 (.val 6 (.val 7 (.val 8 (.val 9 (.val 10 (.done)))))))))))) rfl (by kernel_rfl) ?_;simp[z1,g1,zb,hg,zj,z7,za];refine Qb rfl (fun h2=> ?_) (fun h2=> ?_)
    ·have zf:y.hi<s[j].hi:=by simpa using h2
     rw[if_pos zf]at z6;repeat first|(refine r_ ?_;simp[z1,g1,hg,zb,z7,hw])|refine q_ ?_
     exact Qc (sl':=[(3,LIv s),(4,.sl q 2 0 (ini.length+1)),(5,.i (j+1:Nat))]) (by
      have:=z6 q (H2.set q (.arr 187 2 ((ini++[(⟨y.lo,s[j].hi⟩:Iv)]).map encIv))) (Qj g1 _);simpa using this) (by simp)
    ·have zf:¬(y.hi<s[j].hi):=by simpa using h2
     rw[if_neg zf]at z6;repeat first|(refine r_ ?_;simp[hw])|refine q_ ?_
     exact Qc (sl':=[(3,LIv s),(4,.sl q 2 0 (ini.length+1)),(5,.i (j+1:Nat))]) (by
      have:=z6 q H2 g1;simpa using this) (by simp)
 ·have zg:j=s.length:=by simp at zm;omega
  subst zg;rw[yP]at g1;repeat first|(refine r_ ?_;simp[g1])|refine q_ ?_
  rw[List.take_of_length_le (by simp)]
end Go.Abs
namespace Go.Abs
open Go Go.Proofs
attribute [local irreducible] W4
def x2o(l:List Iv):AV:=if f07 l=0 then .tup [LIv (W4 l),.i 0]else .tup [.list [],.i (f07 l)]
attribute [local irreducible] Da
theorem w24(a b c d:Int):eqA T 9 187 (.agg [.int .i64 a,.int .i64 b]) (.agg [.int .i64 c,.int .i64 d])=some (a==c && b==d):=by simp[eqA,Yo,Jd,TI.agg]
theorem g1j(a b:List Iv):PC Tryz.prog 133 [LIv a,LIv b] (fun r=>r= .bool (decide (a=b))):=by
 refine Ql tOk Tryz.func133 rfl Tryz.results133 rfl (by simp[Tryz.ntmps133]) ?_;rw[Tryz.ntmps133];simp only[Qg];refine Ry 0 rfl (fun hlen=> ?_);rw[zZ]at hlen;repeat first|(refine r_ ?_;simp)|refine q_ ?_
 refine Qb rfl (fun h=> ?_) (fun h=> ?_)
 ·repeat first|(refine r_ ?_;simp)|refine q_ ?_
  have:a≠b:=fun e=>by subst e;simp at h
  simp[this]
 have zc:a.length=b.length:=by simp at h;omega
 repeat first|(refine r_ ?_;simp)|refine q_ ?_
 refine Qr a.length (fun j=>decide (a=b)=decide (a.drop j=b.drop j)) (fun j=>[(0,LIv a),(1,LIv b),(5,.i j)]) (fun _=>[]) rfl (by simp) (by simp) (by simp) (by simp) (by simp) ?_;intro j hj hI ih;repeat first|(refine r_ ?_;simp)|refine q_ ?_
 refine Qb rfl (fun za=> ?_) (fun zb=> ?_)
 ·have z1:j<a.length:=by simpa using za
  have z6:j<b.length:=by omega
  have z7:(j:Int)<b.length:=by omega
  have hw:IntKind.i64.wrap ((j:Int)+1)=j+1:=wrap_i64 _ (by omega) (by omega);rw[Ee z1,Ee z6]at hI;repeat first|(refine r_ ?_;simp)|refine q_ ?_
  refine Qn tOk mixed [] (.val 0 (.val 1 (.val 2 (.val 3 (.val 4 (.val 5 (.val 6 (.val 7 (.val 8 (.done)))))))))) rfl (by kernel_rfl) ?_;simp[z1,z6,z7,w24];refine Qb rfl (fun h2=> ?_) (fun h2=> ?_)
  ·repeat first|(refine r_ ?_;simp)|refine q_ ?_
   have:a≠b:=fun e=>by subst e;simp at h2
   simp[this]
  ·repeat first|(refine r_ ?_;simp[hw])|refine q_ ?_
   have he:a[j]=b[j]:=by cases hx:a[j];cases hy:b[j];rw[hx,hy]at h2;simpa using h2
   refine Qq _ (ih z1 ?_) rfl (by simp) ?_ (by simp) (by simp)
   ·rw[hI,he];simp only[List.cons.injEq,true_and]
   ·simp
 ·have z8:j=a.length:=by simp at zb;omega
  subst z8;rw[xX,List.drop_of_length_le (by omega)]at hI;repeat first|(refine r_ ?_;simp)|refine q_ ?_
  simpa using hI
theorem q2n(l:List Iv):PC Tryz.prog 112 [LIv l] (fun r=>r= .bool (decide ((l.length:Int)≤12))):=by refine Ql tOk Tryz.func112 rfl Tryz.results112 rfl (by simp[Tryz.ntmps112]) ?_;rw[Tryz.ntmps112];simp only[Qg];repeat first|(refine r_ ?_;simp)|refine q_ ?_
end Go.Abs
namespace Go.Abs
open Go Go.Proofs
attribute [simp] T74
@[simp] def encL (l:List Iv):AV:= .list (l.map encIv)
def z29(l:List Iv):Bool:= !((decide ((12:Int)<l.length) && decide ((l.length:Int)≤254)) || decide ((258:Int)<l.length))
def v2n(ls:List (List Iv)):Bool:=ls.all z29
def w2q(l:List Iv):Bool:=decide ((l.length:Int)≤12) && decide (ckR l=0)
def v2g(ls:List (List Iv)):Bool:=ls.all w2q
attribute [local irreducible] ckR
end Go.Abs
namespace Go.Abs
open Go Go.Proofs
structure CanonL (l:List Iv):Prop where
 len:l.length≤256
 one:∀y∈l,Da y=0
 gap:∀j,∀h:j+1<l.length,l[j].hi+2≤l[j+1].lo
theorem B6{l:List Iv}{j:Nat}{x:Iv}(h:j<l.length)(hi:U7 l[j]):k00 l (j+1) x=decide (x.lo<l[j].hi+2):=by have h1:=(Eb _).1 hi.2;have:W (l[j].hi+2)=l[j].hi+2:=wrap_i64 _ (by omega) (by omega);simp[k00,h,this]
theorem Gn(l:List Iv)(hl:l.length≤256):∀(n j:Nat),l.length - j=n→j≤l.length→(∀h:0<j,∀h':j - 1<l.length,Da l[j - 1]=0)→(It l j (l.drop j)=0↔(∀i,j≤i→∀h:i<l.length,Da l[i]=0)∧∀i,j≤i+1→∀h:i+1<l.length,l[i].hi+2≤l[i+1].lo)
 |0,j,hn,hj,_=>by
  have:j=l.length:=by omega
  subst this;rw[xX,It];exact⟨fun _=>⟨fun i h1 h2=>by omega,fun i h1 h2=>by omega⟩,fun _=>rfl⟩
 |n+1,j,hn,hj,hp=>by
  have z6:j<l.length:=by omega
  rw[Ee z6,It];by_cases h1:(Da l[j] != 0)=true
  ·rw[if_pos h1];have z1:Da l[j]≠0:=by simpa using h1
   exact⟨fun h=>absurd h z1,fun h=>absurd (h.1 j (zQ _) z6) z1⟩
  ·rw[if_neg h1];have z1:Da l[j]=0:=by simpa using h1
   have ih:=Gn l hl n (j+1) (by omega) (by omega) (fun _ _=>z1);by_cases h2:k00 l j l[j]=true
   ·rw[if_pos h2];refine⟨fun h=>(by cases h),fun h=> ?_⟩;rcases j with _|j
    ·simp[k00]at h2
    ·have hq:Da l[j]=0:=hp (by omega) (by simp;omega);rw[B6 (by omega) (Ve hq).1]at h2;have:=h.2 j (zQ _) z6;simp at h2;omega
   ·rw[if_neg h2,ih];constructor
    ·rintro⟨a,b⟩;refine⟨fun i hi h=> ?_,fun i hi h=> ?_⟩
     ·by_cases e:i=j
      ·subst e;exact z1
      ·exact a i (by omega) h
     ·by_cases e:j=i+1
      ·subst e;have hq:Da l[i]=0:=hp (by omega) (by simp;omega);rw[B6 (by omega) (Ve hq).1]at h2;simp at h2;exact h2
      ·exact b i (by omega) h
    ·rintro⟨a,b⟩;exact⟨fun i hi h=>a i (by omega) h,fun i hi h=>b i (by omega) h⟩
theorem Bd(l:List Iv):ckR l=0↔CanonL l:=by
 rw[ckR];by_cases h:decide ((256:Int)<l.length)=true
 ·rw[if_pos h];simp at h;exact⟨fun e=>(by cases e),fun e=>(by have:=e.len;omega)⟩
 ·rw[if_neg h];simp at h;have hl:l.length≤256:=by omega
  have:=Gn l hl l.length 0 rfl (Nat.zero_le _) (fun h=>by omega);rw[List.drop_zero]at this;rw[this];constructor
  ·rintro⟨a,b⟩;refine⟨hl,fun y hy=> ?_,fun j h=>b j (by omega) h⟩;obtain⟨i,hi,rfl⟩:=y_ hy;exact a i (by omega) hi
  ·rintro⟨_,a,b⟩;exact⟨fun i _ h=>a _ (zK h),fun i _ h=>b i h⟩
theorem CanonL.iv{l:List Iv}(h:CanonL l){j:Nat}(hj:j<l.length): -1099511627776≤l[j].lo∧l[j].lo≤l[j].hi∧l[j].hi≤1099511627776:=by obtain⟨⟨h1,h2⟩,h3⟩:=Ve (h.one _ (zK hj));have:=(Eb _).1 h1;have:=(Eb _).1 h2;omega
def z27:List Iv→Int
 |[]=>0
 |x::r=>(x.hi - x.lo+1)+z27 r
attribute [local irreducible] ckR
end Go.Abs
namespace Go.Abs
open Go Go.Proofs
attribute [local irreducible] ckR
def x0e(a b:List Iv):Int:=if ckR a=0 then ckR b else ckR a
def x28(l:List Iv):AV:=if l.length≤256 then .tup [LIv l,.i 0]else .tup [.list [],.i 5]
def u12:List Iv→Int→Int×Int
 |[],_=>(0,2)
 |x::r,i=>if i<x.hi - x.lo+1 then(x.lo+i,0)else u12 r (i - (x.hi - x.lo+1))
def atR(l:List Iv)(i:Int):Int×Int:=if ckR l=0 then(if i<0 then(0,2)else u12 l i)else(0,ckR l)
def w0y(x:Iv)(n:Int):Int:=if x.hi<n then -1 else if n<x.lo then 1 else 0
theorem c03(x:Iv)(n:Int):PC Tryz.prog 205 [encIv x,.i n] (fun r=>r= .i (w0y x n)):=by
 refine Ql tOk Tryz.func205 rfl Tryz.results205 rfl (by simp[Tryz.ntmps205]) ?_;rw[Tryz.ntmps205];simp only[Qg];simp only[encIv];repeat first|(refine r_ ?_;simp)|refine q_ ?_
 refine Qb rfl (fun h=> ?_) (fun h=> ?_)
 ·repeat first|(refine r_ ?_;simp)|refine q_ ?_
  rw[w0y,if_pos (by simpa using h)]
 repeat first|(refine r_ ?_;simp)|refine q_ ?_
 refine Qb rfl (fun h2=> ?_) (fun h2=> ?_)
 ·repeat first|(refine r_ ?_;simp)|refine q_ ?_
  rw[w0y,if_neg (by simpa using h),if_pos (by simpa using h2)]
 repeat first|(refine r_ ?_;simp)|refine q_ ?_
 rw[w0y,if_neg (by simpa using h),if_neg (by simpa using h2)]
def Pj(l:List Iv)(n:Int):Bool:=l.any fun x=>decide (x.lo≤n) && decide (n≤x.hi)
theorem O1{l:List Iv}(hc:CanonL l):∀ {i j:Nat},i<j→∀(hj:j<l.length),∀(hi:i<l.length),l[i].hi+2≤l[j].lo:=by
 intro i j z1 hj hi;obtain⟨d,rfl⟩:∃d,j=i+1+d:=⟨j - (i+1),by omega⟩
 induction d with
 |zero=>exact hc.gap i hj
 |succ d ih=>
  have h1:=ih (by omega) (by omega);have h2:=hc.gap (i+1+d) (by omega);have h3:=hc.iv (show i+1+d<l.length by omega);have h4:i+1+(d+1)=i+1+d+1:=by omega
  simp only[h4];omega
theorem Hq(x:Iv)(n:Int):w0y x n<0↔x.hi<n:=by
 unfold w0y;by_cases h:x.hi<n
 ·rw[if_pos h];simp[h]
 ·rw[if_neg h];by_cases h2:n<x.lo
  ·rw[if_pos h2];simp[h]
  ·rw[if_neg h2];simp[h]
theorem v1r(x:Iv)(n:Int):w0y x n=0↔x.lo≤n∧n≤x.hi:=by
 unfold w0y;by_cases h:x.hi<n
 ·rw[if_pos h];constructor<;>intro h'<;>omega
 ·rw[if_neg h];by_cases h2:n<x.lo
  ·rw[if_pos h2];constructor<;>intro h'<;>omega
  ·rw[if_neg h2];constructor<;>intro h'<;>omega
theorem q2l{i j m:Nat}(hm:(i+j) / 2=m)(h:i+j≤1000000000):IntKind.i64.wrap ((IntKind.u64.wrap ((i:Int)+j)).fdiv (2 ^ min 1 IntKind.u64.bits))=m:=by
 have h1:IntKind.u64.wrap ((i:Int)+j)=i+j:=by simp[IntKind.wrap,IntKind.bits,IntKind.signed];omega
 have h2:min 1 IntKind.u64.bits=1:=by decide
 rw[h1,h2,Int.fdiv_eq_ediv_of_nonneg _ (by decide),wrap_i64 _ (by omega) (by omega)];omega
attribute [local irreducible] w0y
theorem V0(l:List Iv)(n:Int)(hc:CanonL l):PC Tryz.prog 204 [LIv l,.i n,.fn (.func 205) [] []] (fun r=>∃k:Int,r= .tup [.i k,.bool (Pj l n)]):=by
 refine Ql tOk Tryz.func204 rfl Tryz.results204 rfl (by simp[Tryz.ntmps204]) ?_;rw[Tryz.ntmps204];simp only[Qg];have hlen:=hc.len;repeat first|(refine r_ ?_;simp)|refine q_ ?_
 refine Qp (Qc (sl':=[(0,LIv l),(1,.i n),(2,.fn (.func 205) [] []),(8,.i l.length),(9,.i 0),(10,.i l.length)]) ?_ (by simp));refine Qo (F:=fun(u:Nat×Nat)=>⟨[(0,LIv l),(1,.i n),(2,.fn (.func 205) [] []),(8,.i l.length),(9,.i u.1),(10,.i u.2)],[]⟩) (fun u=>u.1≤u.2∧u.2≤l.length∧(∀k,k<u.1→∀hk:k<l.length,w0y l[k] n<0)∧(∀k,u.2≤k→∀hk:k<l.length,¬w0y l[k] n<0)) (fun u=>u.2 - u.1) ?_ (0,l.length) ⟨by simp,by simp,fun k hk=>by simp at hk,fun k hk z1=>by simp only at hk;omega⟩;rintro⟨i,j⟩ ⟨h1,h2,h3,h4⟩ ih;simp only at h1 h2 h3 h4 ih ⊢;repeat first|(refine r_ ?_;simp)|refine q_ ?_
 refine Qb rfl (fun zd=> ?_) (fun ze=> ?_)
 ·have zf:i<j:=by simpa using zd
  have hw:IntKind.i64.wrap ((i:Int)+j)=i+j:=wrap_i64 _ (by omega) (by omega);obtain⟨m,hm⟩:∃m,(i+j) / 2=m:=⟨_,rfl⟩
  have z8:IntKind.i64.wrap ((IntKind.u64.wrap ((i:Int)+j)).fdiv (2 ^ min 1 IntKind.u64.bits))=m:=q2l hm (by omega);have z6:m<l.length:=by omega
  have za:(m:Int)<l.length:=by omega
  have zg:IntKind.i64.wrap ((m:Int)+1)=m+1:=wrap_i64 _ (by omega) (by omega);repeat first|(refine r_ ?_;simp[hw,z8,z6,za])|refine q_ ?_
  refine Qf rfl rfl (by simp) (c03 l[m] n) rfl ?_;rintro _ rfl;simp;refine Qb rfl (fun h5=> ?_) (fun h5=> ?_)
  ·repeat first|(refine r_ ?_;simp[zg])|refine q_ ?_
   refine Qc (sl':=[(0,LIv l),(1,.i n),(2,.fn (.func 205) [] []),(8,.i l.length),(9,.i (m+1:Nat)),(10,.i j)]) (ih (m+1,j) ⟨by simp only;omega,h2,fun k hk z1=> ?_,h4⟩ (by simp only;omega)) (by simp);have zh:=hc.iv z1;have zi:=hc.iv z6;have z7:w0y l[m] n<0:=by simpa using h5
   by_cases e:k=m
   ·subst e;exact z7
   ·have:=O1 hc (show k<m by omega) z6 z1;rw[Hq]at z7 ⊢;omega
  ·repeat first|(refine r_ ?_;simp)|refine q_ ?_
   refine Qc (sl':=[(0,LIv l),(1,.i n),(2,.fn (.func 205) [] []),(8,.i l.length),(9,.i i),(10,.i m)]) (ih (i,m) ⟨by simp only;omega,by simp only;omega,h3,fun k hk z1=> ?_⟩ (by simp only;omega)) (by simp);have zh:=hc.iv z1;have zi:=hc.iv z6;have z7:¬w0y l[m] n<0:=by simpa using h5
   by_cases e:k=m
   ·subst e;exact z7
   ·have:=O1 hc (show m<k by omega) z1 z6;rw[Hq]at z7 ⊢;omega
 ·have zb:i=j:=by simp at ze;omega
  subst zb;by_cases hil:i<l.length
  ·repeat first|(refine r_ ?_;simp[hil])|refine q_ ?_
   refine Qf rfl rfl (by simp) (c03 l[i] n) rfl ?_;rintro _ rfl;simp;repeat first|(refine r_ ?_;simp)|refine q_ ?_
   have hh:Pj l n=(w0y l[i] n==0):=by
    rw[xU,beq_iff_eq,v1r,Pj,wN];constructor
    ·rintro⟨x,hx,zc⟩;obtain⟨k,hk,rfl⟩:=y_ hx;simp at zc;have e:k=i:=by
      by_cases e1:k<i
      ·have:=(Hq _ _).1 (h3 k e1 hk);omega
      ·by_cases e2:i<k
       ·have:=O1 hc e2 hk hil;have:¬l[i].hi<n:=fun e=>h4 i (zQ _) hil ((Hq l[i] n).2 e);omega
       ·omega
     subst e;exact zc
    ·intro h;exact⟨l[i],zK hil,by simpa using h⟩
   rw[hh]
  ·repeat first|(refine r_ ?_;simp[hil])|refine q_ ?_
   refine Q6 rfl rfl ?_;simp;repeat first|(refine r_ ?_;simp)|refine q_ ?_
   have hh:Pj l n=false:=by rw[Pj,wQ];intro x hx;obtain⟨k,hk,rfl⟩:=y_ hx;have:=(Hq _ _).1 (h3 k (by omega) hk);simp;intro _;omega
   rw[hh]
theorem c1h(l:List Iv)(n:Int)(hc:CanonL l):PC Tryz.prog 192 [LIv l,.i n] (fun r=>r= .bool (Pj l n)):=by
 refine Ql tOk Tryz.func192 rfl Tryz.results192 rfl (by simp[Tryz.ntmps192]) ?_;rw[Tryz.ntmps192];simp only[Qg];repeat first|(refine r_ ?_;simp)|refine q_ ?_
 refine Qf rfl rfl (by simp) (V0 l n hc) rfl ?_;rintro _ ⟨k,rfl⟩;simp;repeat first|(refine r_ ?_;simp)|refine q_ ?_
attribute [local irreducible] Pj
def x17(l:List Iv)(n:Int):Bool×Int:=if ckR l=0 then(Pj l n,0)else(false,ckR l)
theorem Ht(l:List Iv)(n:Int):PC Tryz.prog 158 [LIv l,.i n] (fun r=>r= .tup [.bool (x17 l n).1,.i (x17 l n).2]):=by
 refine Ql tOk Tryz.func158 rfl Tryz.results158 rfl (by simp[Tryz.ntmps158]) ?_;rw[Tryz.ntmps158];simp only[Qg];repeat first|(refine r_ ?_;simp)|refine q_ ?_
 refine Qf rfl rfl (by simp) (w09 l) rfl ?_;rintro _ rfl;simp;repeat first|(refine r_ ?_;simp)|refine q_ ?_
 refine Qb rfl (fun h=> ?_) (fun h=> ?_)
 ·repeat first|(refine r_ ?_;simp)|refine q_ ?_
  rw[x17,if_neg (by simpa using h)];exact⟨rfl,rfl⟩
 have h0:ckR l=0:=by simpa using h
 repeat first|(refine r_ ?_;simp)|refine q_ ?_
 refine Qf rfl rfl (by simp) (c1h l n ((Bd l).1 h0)) rfl ?_;rintro _ rfl;simp;repeat first|(refine r_ ?_;simp)|refine q_ ?_
 rw[x17,if_pos h0];exact⟨rfl,rfl⟩
end Go.Abs
namespace Go.Abs
open Go Go.Proofs
attribute [local irreducible] ckR
def y2k(d:Int)(x:Iv):Option Iv:=
 let a:=if x.lo+d< -1099511627776 then -1099511627776 else x.lo+d
 let b:=if 1099511627776<x.hi+d then 1099511627776 else x.hi+d
 if a≤b then some ⟨a,b⟩else none
def x2p(l:List Iv)(d:Int):List Iv×Int:=if ckR l=0 then(if d< -2199023255552∨2199023255552<d then([],0)else(l.filterMap (y2k d),0))else([],ckR l)
end Go.Abs
namespace Go.Abs
open Go Go.Proofs
def x2l(ls:List (List Iv)):List Iv:=ls.flatten
attribute [local irreducible] x2l
end Go.Abs
namespace Go.Abs
open Go Go.Proofs Go.RowKit Go.Shelf Go.Lib Go.Sort
def Rw(zs:List Int):List Int:=zs.mergeSort fun x y=>decide (x≤y)
theorem I8(zs:List Int):(Rw zs).length=zs.length:=by simp[Rw]
theorem Lt(H:List AObj)(p:Nat)(zs:List Int)(hp:H[p]? =some (.arr 3 1 (zs.map (AV.int .i64))))(hl:zs.length≤1000000):
  FC Tryz.prog 176 [.sl p 1 0 zs.length] H (fun r H'=>r= .tup []∧H'=H.set p (.arr 3 1 ((Rw zs).map (AV.int .i64)))):=by
 refine(d0z (xs:=zs.map (AV.int .i64)) (rest:=[]) (Tw Tryz.func176 rfl rfl) (by simp) hp (z2i zs) [] (fun w I m vs a b=>by simpa using a) (fun z1=>z1=(Rw zs).map (AV.int .i64)) ?_ ?_).mono ?_
 ·intro b cap w hH hb hc;have:=Tryz.slices_Sort_int b 0 cap zs w (Cy hH) hb (by omega);refine Calls.mono (by simpa using this) ?_;rintro e w' ⟨rfl,n,os,rfl⟩;exact⟨rfl,_,((Rw zs).map (Value.int .i64)).toArray,n,os,rfl,by simp[I8],z2i _,by rw[L1];rfl⟩
 ·rintro h;have z6:zs=[]:=by simpa using h
  subst z6;exact⟨by simp[Rw],fun w=>by simpa using Tryz.slices_Sort_int_none none 0 w⟩
 ·rintro r H' ⟨rfl,z1,rfl,rfl⟩;exact⟨rfl,rfl⟩
theorem P5(H:List AObj)(p:Nat)(zs:List Int)(hp:H[p]? =some (.arr 3 1 (zs.map (AV.int .i64))))(hl:zs.length≤1000000)(z6:(Lib.compact zs).length≤zs.length):
  FC Tryz.prog 177 [.sl p 1 0 zs.length] H (fun r H'=>r= .sl p 1 0 (Lib.compact zs).length∧∃G:List Int,H'=H.set p (.arr 3 1 ((Lib.compact zs++G).map (AV.int .i64)))):=by
 refine(k19 (xs:=zs.map (AV.int .i64)) (Tw Tryz.func177 rfl rfl) (by simp) hp (z2i zs) (fun z1 n=>n=(Lib.compact zs).length∧∃G:List Int,z1=(Lib.compact zs++G).map (AV.int .i64)) (fun ys n h=>by rw[h.1];exact z6) ?_ ?_).mono ?_
 ·intro b cap w hH hb hc hm;have:=Tryz.slices_Compact_int b 0 cap zs w (Cy hH) (by omega) hc;refine Calls.mono (by simpa using this) ?_;rintro e w' ⟨rfl,q,rfl⟩;exact⟨_,((Lib.compact zs++yH (zs.length - (Lib.compact zs).length) 0).map (Value.int .i64)).toArray,q,_,rfl,⟨rfl,_,rfl⟩,by simp;omega,z2i _,by rw[←L1]⟩
 ·rintro h;have z7:zs=[]:=by simpa using h
  subst z7;exact⟨⟨rfl,[],rfl⟩,fun w=>by simpa using Tryz.slices_Compact_int_empty none 0 w⟩
 ·rintro r H' ⟨z1,n,rfl,⟨rfl,G,rfl⟩,rfl⟩;exact⟨rfl,G,rfl⟩
end Go.Abs
namespace Go.Abs
open Go Go.Proofs
attribute [simp] T40
def N9:List Iv→List Int
 |[]=>[]
 |x::r=>x.lo::(x.hi+1)::N9 r
theorem y0f:∀(l:List Iv) (x:Iv),N9 (l++[x])=N9 l++[x.lo,x.hi+1]
 |[],x=>rfl
 |y::r,x=>by rw[vT,N9,y0f r,N9];rfl
theorem d03:∀(l:List Iv),(N9 l).length=2 * l.length
 |[]=>rfl
 |x::r=>by rw[N9,yS,yS,d03 r,yS];omega
def q1a(l:List Iv):List Int:=Lib.compact (Rw (N9 l))
def u13(f:Int→Bool):List Int→List Iv→List Iv
 |c::d::r,acc=>u13 f (d::r) (if f c=true then W6 acc ⟨c,d - 1⟩else acc)
 |_,acc=>acc
def y0j(op:Bool→Bool→Bool)(a b:List Iv):List Iv:=u13 (fun n=>op (Pj a n) (Pj b n)) (q1a (a++b)) []
theorem Uv(zs:List Int):(Lib.compact zs).length≤zs.length:=by unfold Lib.compact Lib.compactUpTo;rw[zZ];exact yO (xM _ _) (by simp)
attribute [local irreducible] ckR Pj x2l W6 Rw Lib.compact N9
end Go.Abs
namespace Go.Abs
open Go Go.Proofs
attribute [local irreducible] ckR y0j
def j1c(x y:Bool):Bool:=x && !y
def w2i(op:Bool→Bool→Bool)(a b:List Iv):AV:=if x0e a b=0 then x28 (y0j op a b)else .tup [.list [],.i (x0e a b)]
attribute [local irreducible] x0e
attribute [local irreducible] w2i
end Go.Abs
namespace Go.Abs
theorem push_comm(acc:List Iv)(x y:Iv)(h:x.lo=y.lo)(hx:x.lo≤x.hi)(hy:y.lo≤y.hi):W6 (W6 acc x) y=W6 (W6 acc y) x:=by
 have one:∀(u v:Iv),u.lo=v.lo→u.lo≤u.hi→∀ini:List Iv,W6 (ini++[u]) v=ini++[⟨u.lo,if u.hi<v.hi then v.hi else u.hi⟩]:=fun u v z6 hu ini=>by rw[W9,if_pos (by omega)]
 rcases wV acc with rfl|⟨ini,z,rfl⟩
 ·have e1:W6 [] x=[]++[x]:=rfl;have e2:W6 [] y=[]++[y]:=rfl;rw[e1,e2,one x y h hx,one y x h.symm hy,h]
  congr 3
  split<;>split<;>omega
 ·rw[wW];by_cases hz:x.lo≤z.hi+1
  ·have z1:∀(w u:Iv),u.lo≤w.hi+1→W6 (ini++[w]) u=ini++[⟨w.lo,if w.hi<u.hi then u.hi else w.hi⟩]:=fun w u h=>by rw[W9,if_pos h]
   rw[z1 z x hz,z1 z y (by omega),z1 _ y (by simp only;split<;>omega),z1 _ x (by simp only;split<;>omega)]
   congr 3
   simp only;repeat split
   all_goals omega
  ·have ap:∀u:Iv,u.lo=x.lo→W6 (ini++[z]) u=ini++[z]++[u]:=fun u h=>by rw[W9,if_neg (by omega)]
   rw[ap x rfl,ap y h.symm,one x y h hx,one y x h.symm hy,h]
   congr 3
   split<;>split<;>omega
theorem D1:∀(A:List Iv) (acc:List Iv) (x:Iv) (B:List Iv),(∀y∈A,y.lo=x.lo∧y.lo≤y.hi)→x.lo≤x.hi→Qy acc (A++x::B)=Qy acc (x::(A++B))
 |[],acc,x,B,_,_=>rfl
 |y::A,acc,x,B,h,hx=>by have hy:=h y (by simp);have ih:=D1 A (W6 acc y) x B (fun z hz=>h z (by simp[hz])) hx;simp only[Qy,vT,xZ]at ih ⊢;rw[ih,push_comm acc y x hy.1 hy.2 hx]
theorem Jp:∀(l l':List Iv) (acc:List Iv),l.Perm l'→Cl l→Cl l'→(∀y∈l,y.lo≤y.hi)→Qy acc l=Qy acc l'
 |[],l',acc,hp,_,_,_=>by rw[hp.nil_eq]
 |x::l,l',acc,hp,h1,h2,hf=>by
  obtain⟨A,B,rfl⟩:=List.append_of_mem (hp.mem_iff.1 (List.mem_cons_self));have z6:l.Perm (A++B):=(List.perm_cons x).1 (hp.trans vD);have hA:∀y∈A,y.lo=x.lo∧y.lo≤y.hi:=fun y hy=>by
   have z1:y∈x::l:=hp.mem_iff.2 (by simp[hy]);have a1:y.lo≤x.lo:=(yI.1 h2).2.2 y hy x (by simp);have a2:x.lo≤y.lo:=by
    rcases yE.1 z1 with rfl|h
    ·exact xH _
    ·exact(yQ.1 h1).1 y h
   exact⟨by omega,hf y z1⟩
  rw[D1 A acc x B hA (hf x (by simp))];have hb:Cl (A++B):=h2.sublist (List.Sublist.append_left (List.sublist_cons_self x B) A);exact Jp l (A++B) (W6 acc x) z6 (yQ.1 h1).2 hb (fun y hy=>hf y (by simp[hy]))
end Go.Abs
namespace Go.Abs
theorem d0s(s:List Iv)(x:Iv):(Cj s x).Perm (x::s):=by unfold Cj;refine vD.trans ?_;rw[xP]
theorem Hc(s:List Iv)(x:Iv):∀j,j≤s.length→(∀k,Yf s x j≤k→k<j→∀h:k<s.length,x.lo<s[k].lo)∧(∀k,k+1=Yf s x j→∀h:k<s.length,s[k].lo≤x.lo)
 |0,_=>⟨fun k _ h=>by omega,fun k h=>by simp[Yf]at h⟩
 |j+1,hj=>by
  obtain⟨a,b⟩:=Hc s x j (by omega);have hg:w23 s j x=decide (x.lo<s[j].lo):=by simp[w23,show j<s.length by omega]
  rw[Yf,hg];by_cases h:decide (x.lo<s[j].lo)=true
  ·rw[if_pos h];refine⟨fun k h1 h2 h3=> ?_,b⟩;by_cases e:k=j
   ·subst e;simpa using h
   ·exact a k h1 (by omega) h3
  ·rw[if_neg h];refine⟨fun k h1 h2=>by omega,fun k h1 h2=> ?_⟩;have e:k=j:=by omega
   subst e;simp at h;omega
theorem g04(s:List Iv)(x:Iv)(hs:Cl s):Cl (Cj s x):=by
 obtain⟨a,b⟩:=Hc s x s.length (zQ _);have hq:=Jj s x s.length;unfold Cj;generalize Yf s x s.length=q at a b hq;have z6:∀i j,i<j→∀hi:i<s.length,∀hj:j<s.length,s[i].lo≤s[j].lo:=fun i j h hi hj=>yR.1 hs i j hi hj h;have z7:∀y∈s.take q,y.lo≤x.lo:=fun y hy=>by
  obtain⟨i,hi,rfl⟩:=y_ hy;have za:i<q:=by rw[List.length_take]at hi;omega
  rw[tc];have h1:=b (q - 1) (by omega) (by omega);by_cases e:i=q - 1
  ·subst e;exact h1
  ·have:=z6 i (q - 1) (by omega) (by omega) (by omega);omega
 have z8:∀y∈s.drop q,x.lo≤y.lo:=fun y hy=>by obtain⟨i,hi,rfl⟩:=y_ hy;rw[List.length_drop]at hi;rw[List.getElem_drop];have:=a (q+i) (by omega) (by omega) (by omega);omega
 have z1:=hs;unfold Cl at z1 ⊢;rw[←xP q s,yI]at z1;obtain⟨p1,p2,p3⟩:=z1;refine yI.2 ⟨p1,yQ.2 ⟨z8,p2⟩,fun y hy z hz=> ?_⟩;rcases yE.1 hz with rfl|h
 ·exact z7 y hy
 ·exact p3 y hy z h
theorem Hd:∀(l acc:List Iv),Cl acc→(l.foldl Cj acc).Perm (acc++l)∧Cl (l.foldl Cj acc)
 |[],acc,h=>⟨by simp,h⟩
 |x::r,acc,h=>by obtain⟨a,b⟩:=Hd r (Cj acc x) (g04 acc x h);refine⟨a.trans ?_,b⟩;exact((d0s acc x).append_right r).trans vD.symm
theorem Ol(l:List Iv):(E4 l).Perm l∧Cl (E4 l):=by have:=Hd l [] .nil;simpa[E4]using this
end Go.Abs
namespace Go.Abs
def M(l:List Iv)(n:Int):Prop:=∃x∈l,x.lo≤n∧n≤x.hi
def Sep(l:List Iv):Prop:=(∀x∈l,x.lo≤x.hi)∧l.Pairwise (fun x y=>x.hi+2≤y.lo)
theorem Mm(n:Int):M [] n↔False:=by simp[M]
theorem Ex(x:Iv)(l:List Iv)(n:Int):M (x::l) n↔(x.lo≤n∧n≤x.hi)∨M l n:=by simp[M]
theorem X4(a b:List Iv)(n:Int):M (a++b) n↔M a n∨M b n:=by simp[M,or_and_right,exists_or]
theorem q0u(l:List Iv)(n:Int):Pj l n=true↔M l n:=by simp[Pj,M]
theorem Sep.tail{x:Iv}{l:List Iv}(h:Sep (x::l)):Sep l:=⟨fun y hy=>h.1 y (by simp[hy]),(yQ.1 h.2).2⟩
theorem Sep.low{x:Iv}{l:List Iv}(h:Sep (x::l)){n:Int}(hm:M l n):x.hi+2≤n:=by obtain⟨y,hy,h1,h2⟩:=hm;have:=(yQ.1 h.2).1 y hy;omega
theorem Sep.lowc{x:Iv}{l:List Iv}(h:Sep (x::l)){n:Int}(hm:M (x::l) n):x.lo≤n:=by
 rcases(Ex ..).1 hm with h1|h1
 ·exact h1.1
 ·have:=h.low h1;have:=h.1 x (by simp);omega
theorem k03:∀(a b:List Iv),Sep a→Sep b→(∀n,M a n↔M b n)→a=b
 |[],[],_,_,_=>rfl
 |[],y::b,_,hb,h=>by have:=(h y.lo).2 ((Ex ..).2 (.inl ⟨xH _,hb.1 y (by simp)⟩));exact absurd this (by simp[M])
 |x::a,[],ha,_,h=>by have:=(h x.lo).1 ((Ex ..).2 (.inl ⟨xH _,ha.1 x (by simp)⟩));exact absurd this (by simp[M])
 |x::a,y::b,ha,hb,h=>by
  have hx:=ha.1 x (by simp);have hy:=hb.1 y (by simp);have e1:x.lo=y.lo:=by have h1:=hb.lowc ((h x.lo).1 ((Ex ..).2 (.inl ⟨xH _,hx⟩)));have h2:=ha.lowc ((h y.lo).2 ((Ex ..).2 (.inl ⟨xH _,hy⟩)));omega
  have e2:x.hi=y.hi:=by
   rcases tl x.hi y.hi with hlt|heq|hgt
   ·rcases(Ex ..).1 ((h (x.hi+1)).2 ((Ex ..).2 (.inl ⟨by omega,by omega⟩)))with h1|h1
    ·omega
    ·have:=ha.low h1;omega
   ·exact heq
   ·rcases(Ex ..).1 ((h (y.hi+1)).1 ((Ex ..).2 (.inl ⟨by omega,by omega⟩)))with h1|h1
    ·omega
    ·have:=hb.low h1;omega
  have e3:x=y:=by cases x;cases y;simp_all
  subst e3;rw[k03 a b ha.tail hb.tail fun n=>⟨fun hm=> ?_,fun hm=> ?_⟩]
  ·have h1:=ha.low hm;rcases(Ex ..).1 ((h n).1 ((Ex ..).2 (.inr hm)))with h2|h2
   ·omega
   ·exact h2
  ·have h1:=hb.low hm;rcases(Ex ..).1 ((h n).2 ((Ex ..).2 (.inr hm)))with h2|h2
   ·omega
   ·exact h2
theorem G9{l:List Iv}(h:CanonL l):Sep l:=
 ⟨fun x hx=>(Ve (h.one x hx)).2,yR.2 fun _ _ hi hj z1=>O1 h z1 hj hi⟩
theorem Xc{l:List Iv}(h:CanonL l):∀x∈l,U7 x:=fun x hx=>(Ve (h.one x hx)).1
theorem f1a{l:List Iv}(h:CanonL l){n:Int}(hm:M l n): -1099511627776≤n∧n≤1099511627776:=by obtain⟨x,hx,h1,h2⟩:=hm;have h3:=Xc h x hx;have h4:=(Eb _).1 h3.1;have h5:=(Eb _).1 h3.2;omega
theorem Hz{l:List Iv}(h:Sep l)(hi:∀x∈l,U7 x)(hl:l.length≤256):CanonL l:=
 ⟨hl,fun y hy=>by
  have h1:=hi y hy;have h2:=h.1 y hy;have h4:=h1.1;have h5:=h1.2;simp[Da,h4,h5];omega,fun j hj=>yR.1 h.2 j (j+1) (by omega) hj (by omega)⟩
theorem y15(acc:List Iv)(x:Iv)(ha:Sep acc)(hx:x.lo≤x.hi)(hle:∀y∈acc,y.lo≤x.lo):
  Sep (W6 acc x)∧(∀n,M (W6 acc x) n↔M acc n∨(x.lo≤n∧n≤x.hi))∧(∀z,x.lo≤z→∀y∈W6 acc x,y.lo≤z):=by
 rcases wV acc with rfl|⟨ini,y,rfl⟩
 ·have e:W6 [] x=[x]:=rfl;rw[e];exact⟨⟨fun y hy=>by simp at hy;subst hy;exact hx,by simp⟩,fun n=>by simp[M],fun z hz y hy=>by simp at hy;subst hy;exact hz⟩
 ·rw[wW]at ha hle ⊢;rw[W9];have hy:=ha.1 y (by simp);have z1:=hle y (by simp);obtain⟨p1,p2,p3⟩:=yI.1 ha.2;split
  ·rename_i hj;refine⟨⟨fun z hz=> ?_,yI.2 ⟨p1,by simp,fun u hu v hv=> ?_⟩⟩,fun n=> ?_,fun z hz u hu=> ?_⟩
   ·rcases zV.1 hz with h|h
    ·exact ha.1 z (by simp[h])
    ·simp at h;subst h;simp only;split<;>omega
   ·simp at hv;subst hv;exact p3 u hu y (by simp)
   ·rw[X4,X4,Ex,Ex,Mm];simp only[or_false];by_cases hm:M ini n
    ·simp[hm]
    ·simp only[hm,false_or];split<;>omega
   ·rcases zV.1 hu with h|h
    ·have:=hle u (by simp[h]);omega
    ·simp at h;subst h;simp only;omega
  ·rename_i hj;refine⟨⟨fun z hz=> ?_,yI.2 ⟨ha.2,by simp,fun u hu v hv=> ?_⟩⟩,fun n=>by rw[X4,Ex,Mm];simp,fun z hz u hu=> ?_⟩
   ·rcases zV.1 hz with h|h
    ·exact ha.1 z h
    ·simp at h;subst h;exact hx
   ·simp at hv;subst hv;rcases zV.1 hu with h|h
    ·have:=p3 u h y (by simp);omega
    ·simp at h;subst h;omega
   ·rcases zV.1 hu with h|h
    ·have:=hle u h;omega
    ·simp at h;subst h;exact hz
theorem Sv:∀(l acc:List Iv),Sep acc→Cl l→(∀x∈l,x.lo≤x.hi)→(∀y∈acc,∀x∈l,y.lo≤x.lo)→
  Sep (Qy acc l)∧∀n,M (Qy acc l) n↔M acc n∨M l n
 |[],acc,ha,_,_,_=>⟨ha,fun n=>by simp[Qy,M]⟩
 |x::l,acc,ha,hb,hf,hle=>by have hp:=y15 acc x ha (hf x (by simp)) (fun y hy=>hle y hy x (by simp));have ih:=Sv l (W6 acc x) hp.1 (yQ.1 hb).2 (fun y hy=>hf y (by simp[hy])) (fun y hy z hz=>hp.2.2 z.lo ((yQ.1 hb).1 z hz) y hy);refine⟨ih.1,fun n=> ?_⟩;have e:Qy acc (x::l)=Qy (W6 acc x) l:=rfl;rw[e,ih.2 n,hp.2.1 n,Ex,or_assoc]
theorem Xo:Sep []:=⟨by simp,by simp⟩
theorem q2x{a b:List Iv}(h:a.Perm b)(n:Int):M a n↔M b n:=by simp only[M];exact⟨fun⟨x,hx,h1⟩=>⟨x,h.mem_iff.1 hx,h1⟩,fun⟨x,hx,h1⟩=>⟨x,h.mem_iff.2 hx,h1⟩⟩
theorem Uz(l:List Iv)(hf:∀x∈l,x.lo≤x.hi):Sep (W4 l)∧∀n,M (W4 l) n↔M l n:=by have hs:=Ol l;have h:=Sv (E4 l) [] Xo hs.2 (fun x hx=>hf x (hs.1.mem_iff.1 hx)) (by simp);refine⟨h.1,fun n=> ?_⟩;rw[W4,h.2 n,Mm,false_or,q2x hs.1]
def pieces(f:Int→Bool):List Int→List Iv
 |c::d::r=>(if f c=true then [⟨c,d - 1⟩]else [])++pieces f (d::r)
 |_=>[]
end Go.Abs
namespace Go.Abs
open Go Go.Proofs
attribute [local irreducible] w2i x0e y0j
def y24(x y:Bool):Bool:=x || y
def y2h(x y:Bool):Bool:=x && y
def y26(a b:List Iv):Bool×Int:=if x0e a b=0 then(decide (y0j j1c a b=[]),0)else(false,x0e a b)
end Go.Abs
namespace Go.Abs
open Go Go.Proofs
def Re:List Iv→Int→List Iv
 |[],n=>if n≤1099511627776 then [⟨n,1099511627776⟩]else []
 |x::r,n=>(if n<x.lo then [⟨n,x.lo - 1⟩]else [])++Re r (x.hi+1)
def W2(l:List Iv):List Iv:=Re l (-1099511627776)
end Go.Abs
namespace Go.Abs
open Go
theorem c0w:∀(l:List Iv) (z:Int),z∈N9 l↔∃x∈l,z=x.lo∨z=x.hi+1
 |[],z=>by simp[N9]
 |y::r,z=>by rw[N9,yE,yE,c0w r z];simp[or_assoc]
theorem V7(zs:List Int)(hs:zs.Pairwise (·≤·)):∀m,m≤zs.length→
  (Lib.compactUpTo zs.toArray m).Pairwise (·<·)∧(∀z,z∈Lib.compactUpTo zs.toArray m↔z∈zs.take m):=by
 intro m;induction m with
 |zero=>exact fun _=>⟨by simp[Lib.compactUpTo],by simp[Lib.compactUpTo]⟩
 |succ m ih=>
  intro hm;obtain⟨h1,h2⟩:=ih (by omega);have z1:m<zs.length:=by omega
  have hg:zs.toArray[m]! =zs[m]:=by simp[z1]
  rw[Lib.compactUpTo_succ];have ht:zs.take (m+1)=zs.take m++[zs[m]]:=by rw[zP z1]
  by_cases hk:Lib.keeps zs.toArray m=true
  ·rw[if_pos hk,hg,ht];refine⟨yI.2 ⟨h1,by simp,fun u hu v hv=> ?_⟩,fun z=>by rw[zV,zV,h2]⟩;simp at hv;subst hv;obtain⟨i,hi,rfl⟩:=y_ ((h2 u).1 hu);have za:i<m:=by simp at hi;omega
   rw[tc];have zb:zs[m]≠zs[m - 1]:=by
    simp[Lib.keeps]at hk;have z6:m≠0:=by omega
    have hk:=hk.resolve_left z6;simpa[z1,show m - 1<zs.length by omega]using hk
   have a1:zs[i]≤zs[m - 1]:=by
    rcases Nat.lt_or_ge i (m - 1)with h|h
    ·exact yR.1 hs i (m - 1) (by omega) (by omega) h
    ·have:i=m - 1:=by omega
     subst this;exact xH _
   have a2:zs[m - 1]≤zs[m]:=yR.1 hs (m - 1) m (by omega) (by omega) (by omega);omega
  ·rw[if_neg hk,List.append_nil,ht];refine⟨h1,fun z=> ?_⟩;rw[h2,zV];refine⟨.inl,fun h=>h.elim id fun h=> ?_⟩;simp at h;subst h;simp only[Lib.keeps,decide_eq_true_eq,not_or]at hk;have z7:m - 1<zs.length:=by omega
   have z8:zs[m]=zs[m - 1]:=by simpa[z1,z7]using hk.2
   rw[z8];exact List.mem_take_iff_getElem.2 ⟨m - 1,by omega,rfl⟩
theorem q1g(l:List Iv):(q1a l).Pairwise (·<·)∧∀z,z∈q1a l↔∃x∈l,z=x.lo∨z=x.hi+1:=by
 have hs:(Rw (N9 l)).Pairwise (·≤·):=by have:=uI (le:=fun x y:Int=>decide (x≤y)) (fun a b c h1 h2=>by simp at h1 h2 ⊢;omega) (fun a b=>by simp;omega) (N9 l);simpa[Rw]using this
 have h:=V7 _ hs _ (zQ _);refine⟨h.1,fun z=> ?_⟩;have h2:=h.2 z;rw[yP]at h2;rw[q1a,Lib.compact,h2,Rw,t8,c0w]
theorem j0h(l:List Iv)(cs:List Int)(h:∀x∈l,x.lo∈cs∧x.hi+1∈cs)(c n:Int)(hc:c≤n)(hm:∀d∈cs,d≤n→d≤c):Pj l n=Pj l c:=by
 rw[xU,q0u,q0u];constructor
 ·rintro⟨x,hx,h1,h2⟩;have:=hm _ (h x hx).1 h1;exact⟨x,hx,this,by omega⟩
 ·rintro⟨x,hx,h1,h2⟩;refine⟨x,hx,by omega,?_⟩;by_cases hn:x.hi+1≤n
  ·have:=hm _ (h x hx).2 hn;omega
  ·omega
theorem z0e{l:List Iv}(h:Sep l)(hb:∀n,M l n→ -1099511627776≤n∧n≤1099511627776):∀x∈l,U7 x:=fun x hx=>
 ⟨(Eb _).2 (hb _ ⟨x,hx,xH _,h.1 x hx⟩),(Eb _).2 (hb _ ⟨x,hx,h.1 x hx,xH _⟩)⟩
theorem Ip:∀(l:List Iv) (s:Int),(∀x∈l,x.lo≤x.hi∧x.hi≤1099511627776)→l.Pairwise (fun x y=>x.hi+2≤y.lo)→(∀x∈l,s≤x.lo)→
  Sep (Re l s)∧(∀n,M (Re l s) n↔s≤n∧n≤1099511627776∧¬M l n)∧(Re l s).length≤l.length+1
 |[],s,_,_,_=>by
  rw[Re];split
  ·exact⟨⟨fun x hx=>by simp at hx;subst hx;assumption,by simp⟩,fun n=>by rw[Ex,Mm];simp[Mm],by simp⟩
  ·exact⟨Xo,fun n=>by simp[Mm];omega,by simp⟩
 |x::l,s,hf,hp,hs=>by
  have hx:=hf x (by simp);have z7:=hs x (by simp);have z1:=(yQ.1 hp).1;obtain⟨i1,i2,i3⟩:=Ip l (x.hi+1) (fun y hy=>hf y (by simp[hy])) (yQ.1 hp).2 (fun y hy=>by have:=z1 y hy;omega);have z6:∀n,M l n→x.hi+2≤n:=by rintro n ⟨y,hy,h1,h2⟩;have:=z1 y hy;omega
  rw[Re];split
  ·refine⟨⟨fun y hy=> ?_,?_⟩,fun n=> ?_,by simp;omega⟩
   ·rcases zV.1 hy with h|h
    ·simp at h;subst h;simp only;omega
    ·exact i1.1 y h
   ·refine yI.2 ⟨by simp,i1.2,fun u hu v hv=> ?_⟩;simp at hu;subst hu;have:=(i2 v.lo).1 ⟨v,hv,xH _,i1.1 v hv⟩;simp only;omega
   ·rw[X4,i2,Ex,Mm,Ex];by_cases hm:M l n
    ·have:=z6 n hm;simp[hm];omega
    ·simp only[hm,not_false_eq_true,and_true,or_false];omega
  ·refine⟨⟨fun y hy=>i1.1 y (by simpa using hy),by simpa using i1.2⟩,fun n=> ?_,by simp;omega⟩;rw[List.nil_append,i2,Ex];by_cases hm:M l n
   ·simp[hm]
   ·simp only[hm,not_false_eq_true,and_true,or_false];omega
theorem Iu{l:List Iv}(h:CanonL l):Sep (W2 l)∧(∀n,M (W2 l) n↔(-1099511627776≤n∧n≤1099511627776)∧¬M l n)∧(W2 l).length≤l.length+1:=by have hs:=G9 h;have hi:=Xc h;have:=Ip l (-1099511627776) (fun x hx=>⟨hs.1 x hx,((Eb _).1 (hi x hx).2).2⟩) hs.2 (fun x hx=>((Eb _).1 (hi x hx).1).1);exact⟨this.1,fun n=>by rw[W2,this.2.1,and_assoc],this.2.2⟩
def O7(x y:Iv):Option Iv:=if(if x.lo<y.lo then y.lo else x.lo)≤(if y.hi<x.hi then y.hi else x.hi)then some ⟨if x.lo<y.lo then y.lo else x.lo,if y.hi<x.hi then y.hi else x.hi⟩else none
def E8(a b:List Iv):List Iv:=a.flatMap fun x=>b.filterMap (O7 x)
theorem Gv{x y z:Iv}(h:O7 x y=some z):z.lo≤z.hi∧∀n,(z.lo≤n∧n≤z.hi)↔(x.lo≤n∧n≤x.hi)∧(y.lo≤n∧n≤y.hi):=by
 unfold O7 at h;by_cases hle:(if x.lo<y.lo then y.lo else x.lo)≤(if y.hi<x.hi then y.hi else x.hi)
 ·rw[if_pos hle]at h;cases h;refine⟨hle,fun n=> ?_⟩;simp only;split<;>split<;>omega
 ·rw[if_neg hle]at h;cases h
theorem q2e{x y:Iv}{n:Int}(h1:x.lo≤n∧n≤x.hi)(h2:y.lo≤n∧n≤y.hi):∃z,O7 x y=some z∧z.lo≤n∧n≤z.hi:=by
 unfold O7;have:(if x.lo<y.lo then y.lo else x.lo)≤(if y.hi<x.hi then y.hi else x.hi):=by split<;>split<;>omega
 rw[if_pos this];refine⟨_,rfl,?_,?_⟩<;>simp only<;>split<;>omega
theorem S3(a b:List Iv):(∀x∈E8 a b,x.lo≤x.hi)∧∀n,M (E8 a b) n↔M a n∧M b n:=by
 constructor
 ·intro z hz;obtain⟨x,_,hz⟩:=wS.1 hz;obtain⟨y,_,h⟩:=vI.1 hz;exact(Gv h).1
 ·intro n;constructor
  ·rintro⟨z,hz,h1⟩;obtain⟨x,hx,hz⟩:=wS.1 hz;obtain⟨y,hy,h⟩:=vI.1 hz;have:=((Gv h).2 n).1 h1;exact⟨⟨x,hx,this.1⟩,⟨y,hy,this.2⟩⟩
  ·rintro⟨⟨x,hx,h1⟩,⟨y,hy,h2⟩⟩;obtain⟨z,hz,h3⟩:=q2e h1 h2;exact⟨z,wS.2 ⟨x,hx,vI.2 ⟨y,hy,hz⟩⟩,h3⟩
def Rp(a b:List Iv):List Iv:=W4 (E8 a b)
theorem Oz(a b:List Iv):Sep (Rp a b)∧∀n,M (Rp a b) n↔M a n∧M b n:=by have h:=Uz (E8 a b) (S3 a b).1;exact⟨h.1,fun n=>by rw[Rp,h.2,(S3 a b).2]⟩
end Go.Abs
namespace Go.Abs
open Go
def b2(b:Bool):Int:=if b=true then 1 else 0
def cnt(p:Int→Bool)(A:Int):Nat→Int
 |0=>0
 |n+1=>cnt p A n+b2 (p (A+n))
def inI(lo hi k:Int):Bool:=decide (lo≤k) && decide (k≤hi)
theorem Mf(lo hi k:Int):inI lo hi k=true↔lo≤k∧k≤hi:=by simp[inI]
theorem y1w(x:Iv)(l:List Iv)(k:Int):Pj (x::l) k=(inI x.lo x.hi k || Pj l k):=by simp[Pj,inI]
end Go.Abs
namespace Go.Abs
open Go
end Go.Abs
namespace Go.Abs
open Go
end Go.Abs
namespace Go.Abs
open Go
def k13(x y:Iv):Bool:=decide (y.lo<x.lo) && decide (x.lo≤y.hi)
def x0f(x y:Iv):Bool:=decide (x.lo≤y.lo) && decide (y.lo≤x.hi)
theorem g07(x:Iv):∀(b:List Iv),(b.filterMap (O7 x)).length≤b.countP (k13 x)+b.countP (x0f x)
 |[]=>by simp
 |y::b=>by
  have ih:=g07 x b;rw[vz,vz];cases h:O7 x y with
  |none=>rw[List.filterMap_cons_none h];omega
  |some z=>
   rw[List.filterMap_cons_some h,yS];have hz:=Gv h;have hm:=(hz.2 z.lo).1 ⟨xH _,hz.1⟩;have:k13 x y=true∨x0f x y=true:=by simp[k13,x0f];omega
   rcases this with h'|h'<;>rw[if_pos h']<;>omega
theorem c0f(x:Iv):∀(b:List Iv),Sep b→b.countP (k13 x)≤1
 |[],_=>by simp
 |y::b,hs=>by
  rw[vz];split
  ·rename_i h;simp[k13]at h;have:b.countP (k13 x)=0:=uZ.2 fun z hz=>by have:=(yQ.1 hs.2).1 z hz;simp[k13];omega
   omega
  ·have:=c0f x b hs.tail;omega
theorem q04(y:Iv):∀(a:List Iv),Sep a→a.countP (fun x=>x0f x y)≤1
 |[],_=>by simp
 |x::a,hs=>by
  rw[vz];split
  ·rename_i h;simp[x0f]at h;have:a.countP (fun x=>x0f x y)=0:=uZ.2 fun z hz=>by have:=(yQ.1 hs.2).1 z hz;simp[x0f];omega
   omega
  ·have:=q04 y a hs.tail;omega
theorem z02(a:List Iv)(ha:Sep a):∀(b:List Iv),(a.map fun x=>b.countP (x0f x)).sum≤b.length
 |[]=>by
  have:∀a:List Iv,(a.map fun x=>([]:List Iv).countP (x0f x)).sum=0:=fun a=>by
   induction a with
   |nil=>rfl
   |cons x a ih=>simpa using ih
  rw[this];simp
 |y::b=>by
  have ih:=z02 a ha b;have h1:=q04 y a ha;have:∀a:List Iv,(a.map fun x=>(y::b).countP (x0f x)).sum=(a.map fun x=>b.countP (x0f x)).sum+a.countP (fun x=>x0f x y):=fun a=>by
   induction a with
   |nil=>rfl
   |cons x a ih=>rw[yY,ul,ih,yY,ul,vz,vz];omega
  rw[this,yS];omega
theorem C6(a b:List Iv)(ha:Sep a)(hb:Sep b):(E8 a b).length≤a.length+b.length:=by
 have h:∀a:List Iv,(E8 a b).length≤a.length+(a.map fun x=>b.countP (x0f x)).sum:=fun a=>by
  induction a with
  |nil=>simp[E8]
  |cons x a ih=>have e:E8 (x::a) b=b.filterMap (O7 x)++E8 a b:=rfl;have h1:=g07 x b;have h2:=c0f x b hb;rw[e,List.length_append,yY,ul,yS];omega
 have h1:=h a;have h2:=z02 a ha b;omega
theorem y1d{a b:List Iv}(h:(∀x∈a,U7 x)∨(∀y∈b,U7 y)):∀z∈E8 a b,U7 z:=by
 intro z hz;have hp:=S3 a b;have hf:=hp.1 z hz;have m1:=(hp.2 z.lo).1 ⟨z,hz,xH _,hf⟩;have m2:=(hp.2 z.hi).1 ⟨z,hz,hf,xH _⟩;have key:∀l:List Iv,(∀x∈l,U7 x)→∀n,M l n→inB n=true:=fun l hl n ⟨x,hx,h1,h2⟩=>by have h3:=(Eb _).1 (hl x hx).1;have h4:=(Eb _).1 (hl x hx).2;exact(Eb _).2 (by omega)
 rcases h with h|h
 ·exact⟨key a h _ m1.1,key a h _ m2.1⟩
 ·exact⟨key b h _ m1.2,key b h _ m2.2⟩
end Go.Abs
namespace Go.Abs
abbrev Prd:=List (List Iv)
def PM(p:Prd)(t:Nat)(n:Int):Prop:=∃s,p[t]? =some s∧M s n
def inR(n:Int):Prop:= -1099511627776≤n∧n≤1099511627776
def PWf(T:Nat)(p:Prd):Prop:=p.length=T∧∀s∈p,Sep s∧∀n,M s n→inR n
theorem PWf.lt{T:Nat}{p:Prd}(h:PWf T p){t:Nat}{n:Int}(hm:PM p t n):t<T∧inR n:=by obtain⟨s,hs,hn⟩:=hm;exact⟨by rw[←h.1];exact(zE.1 hs).1,(h.2 s (zJ hs)).2 n hn⟩
theorem Pp{T:Nat}{p q:Prd}(hp:PWf T p)(hq:PWf T q)(h:∀t n,PM p t n↔PM q t n):p=q:=by apply List.ext_getElem (by rw[hp.1,hq.1]);intro i h1 h2;refine k03 _ _ (hp.2 _ (zK h1)).1 (hq.2 _ (zK h2)).1 fun n=> ?_;have:=h i n;unfold PM at this;rw[zI h1,zI h2]at this;simpa using this
def Ii(t:Nat)(n:Int)(t':Nat)(n':Int):Prop:=t<t'∨t=t'∧n<n'
theorem Ii.irr{t:Nat}{n:Int}(h:Ii t n t n):False:=by unfold Ii at h;omega
theorem Ii.trans{a b c:Nat}{x y z:Int}(h:Ii a x b y)(k:Ii b y c z):Ii a x c z:=by unfold Ii at *;omega
def c1z(l:List Prd)(t:Nat)(n:Int)(t':Nat)(n':Int):Prop:=∀p∈l,PM p t n↔PM p t' n'
structure Prts (T:Nat) (l L:List Prd):Prop where
 wf:∀p∈L,PWf T p
 ne:∀p∈L,∃t n,PM p t n
 all:∀t n,t<T→inR n→∃p∈L,PM p t n
 cls:∀p∈L,∀t n,PM p t n→∀t' n',PM p t' n'↔t'<T∧inR n'∧c1z l t n t' n'
def v03(p q:Prd):Prop:=∃t n,PM p t n∧∀t' n',PM q t' n'→Ii t n t' n'
theorem v03.irr{p:Prd}(h:v03 p p):False:=by obtain⟨t,n,h1,h2⟩:=h;exact(h2 t n h1).irr
theorem v03.asymm{p q:Prd}(h:v03 p q)(k:v03 q p):False:=by obtain⟨t,n,h1,h2⟩:=h;obtain⟨t',n',k1,k2⟩:=k;exact((h2 t' n' k1).trans (k2 t n h1)).irr
theorem Prts.same{T:Nat}{l L L':List Prd}(h:Prts T l L)(h':Prts T l L'){p:Prd}(hp:p∈L):p∈L':=by
 obtain⟨t,n,hm⟩:=h.ne p hp;obtain⟨ht,hn⟩:=(h.wf p hp).lt hm;obtain⟨q,hq,z1⟩:=h'.all t n ht hn;have:p=q:=Pp (h.wf p hp) (h'.wf q hq) fun t' n'=>by rw[h.cls p hp t n hm,h'.cls q hq t n z1]
 rw[this];exact hq
theorem Prts.unique{T:Nat}{l L L':List Prd}(h:Prts T l L)(h':Prts T l L')(s:L.Pairwise v03)(s':L'.Pairwise v03):L=L':=by have z1:∀ {X:List Prd},X.Pairwise v03→X.Nodup:=fun hx=>hx.imp (fun h e=>by subst e;exact h.irr);refine List.Perm.eq_of_pairwise (le:=v03) (fun a b _ _ h1 h2=>(h1.asymm h2).elim) s s' ?_;exact(uB (z1 s) (z1 s')).2 fun p=>⟨h.same h',h'.same h⟩
theorem Prts.disj{T:Nat}{l L:List Prd}(h:Prts T l L){p q:Prd}(hp:p∈L)(hq:q∈L){t:Nat}{n:Int}(h1:PM p t n)(h2:PM q t n):p=q:=
 Pp (h.wf p hp) (h.wf q hq) fun t' n'=>by rw[h.cls p hp t n h1,h.cls q hq t n h2]
theorem Prts.perm{T:Nat}{l L L':List Prd}(h:Prts T l L)(e:L.Perm L'):Prts T l L':=
 ⟨fun p hp=>h.wf p (e.mem_iff.2 hp),fun p hp=>h.ne p (e.mem_iff.2 hp),fun t n a b=>by obtain⟨p,hp,hm⟩:=h.all t n a b;exact⟨p,e.mem_iff.1 hp,hm⟩,fun p hp=>h.cls p (e.mem_iff.2 hp)⟩
def W3(T:Nat):Prd:=yH T (W2 [])
def Wg(c p:Prd):Prd:=tC Rp c p
def W8(p:Prd):Prd:=p.map W2
def Wd(p:Prd):Bool:=p.all (·.isEmpty)
def Eu(p:Prd)(L:List Prd):List Prd:=L.flatMap fun c=>(if Wd (Wg c p)then []else [Wg c p])++(if Wd (Wg c (W8 p))then []else [Wg c (W8 p)])
def Eo(T:Nat)(l:List Prd):List Prd:=l.foldl (fun L p=>Eu p L) [W3 T]
def PCk(T:Nat)(p:Prd):Prop:=p.length=T∧∀s∈p,CanonL s
theorem PCk.wf{T:Nat}{p:Prd}(h:PCk T p):PWf T p:=⟨h.1,fun s hs=>⟨G9 (h.2 s hs),fun n hn=>f1a (h.2 s hs) hn⟩⟩
theorem Al:CanonL []:=⟨by simp,by simp,fun j h=>by simp at h⟩
theorem Ai(T t:Nat)(n:Int):PM (W3 T) t n↔t<T∧inR n:=by
 unfold PM W3;have hg:=(Iu Al).2.1 n;constructor
 ·rintro⟨s,hs,hm⟩;rw[u6]at hs;split at hs
  ·cases hs;exact⟨by assumption,(hg.1 hm).1⟩
  ·cases hs
 ·rintro⟨h1,h2⟩;exact⟨W2 [],by rw[u6,if_pos h1],hg.2 ⟨h2,by simp[M]⟩⟩
theorem Au(T:Nat):PWf T (W3 T):=⟨by simp[W3],fun s hs=>by
 obtain rfl:=vE hs;exact⟨(Iu Al).1,fun n hn=>(((Iu Al).2.1 n).1 hn).1⟩⟩
theorem Er{T:Nat}{c p:Prd}(hc:c.length=T)(hp:p.length=T)(t:Nat)(n:Int):PM (Wg c p) t n↔PM c t n∧PM p t n:=by
 unfold PM Wg;constructor
 ·rintro⟨s,hs,hm⟩;rw[vv]at hs;cases h1:c[t]? with
  |none=>rw[h1]at hs;simp at hs
  |some a=>
   cases h2:p[t]? with
   |none=>rw[h1,h2]at hs;simp at hs
   |some b=>rw[h1,h2]at hs;simp at hs;subst hs;have:=((Oz a b).2 n).1 hm;exact⟨⟨a,rfl,this.1⟩,⟨b,rfl,this.2⟩⟩
 ·rintro⟨⟨a,h1,m1⟩,⟨b,h2,m2⟩⟩;exact⟨Rp a b,by rw[vv,h1,h2],((Oz a b).2 n).2 ⟨m1,m2⟩⟩
theorem Tp{T:Nat}{c p:Prd}(hc:PWf T c)(hp:p.length=T):PWf T (Wg c p):=by
 refine⟨by simp[Wg,hc.1,hp],fun s hs=> ?_⟩;obtain⟨i,hi⟩:=yK.1 hs;unfold Wg at hi;rw[vv]at hi;cases h1:c[i]? with
 |none=>rw[h1]at hi;simp at hi
 |some a=>
  cases h2:p[i]? with
  |none=>rw[h1,h2]at hi;simp at hi
  |some b=>rw[h1,h2]at hi;simp at hi;subst hi;exact⟨(Oz a b).1,fun n hn=>(hc.2 a (zJ h1)).2 n (((Oz a b).2 n).1 hn).1⟩
theorem Xf{T:Nat}{p:Prd}(hp:PCk T p)(t:Nat)(n:Int):PM (W8 p) t n↔(t<T∧inR n)∧¬PM p t n:=by
 unfold PM W8;rw[zX];constructor
 ·rintro⟨s,hs,hm⟩;obtain⟨a,ha,rfl⟩:=zU.1 hs;have hg:=((Iu (hp.2 a (zJ ha))).2.1 n).1 hm;refine⟨⟨by rw[←hp.1];exact(zE.1 ha).1,hg.1⟩,?_⟩;rintro⟨b,hb,z1⟩;rw[ha]at hb;cases hb;exact hg.2 z1
 ·rintro⟨⟨h1,h2⟩,h3⟩;have hl:t<p.length:=by rw[hp.1];exact h1
  refine⟨W2 p[t],by rw[zI hl];rfl,((Iu (hp.2 _ (zK hl))).2.1 n).2 ⟨h2,fun hm=>h3 ⟨_,zI hl,hm⟩⟩⟩
theorem Rn{T:Nat}{p:Prd}(h:PWf T p):Wd p=true↔∀t n,¬PM p t n:=by
 unfold Wd;rw[zW];constructor
 ·rintro hv t n ⟨s,hs,hm⟩;have:=hv s (zJ hs);rw[up]at this;subst this;simp[M]at hm
 ·intro hv s hs;obtain⟨i,hi⟩:=yK.1 hs;cases s with
  |nil=>rfl
  |cons x s=>exact absurd ⟨_,hi,(Ex ..).2 (.inl ⟨xH _,(h.2 _ hs).1.1 x (by simp)⟩)⟩ (hv i x.lo)
theorem Lf{T:Nat}{l L:List Prd}{p:Prd}(h:Prts T l L)(hp:PCk T p):Prts T (l++[p]) (Eu p L):=by
 have z6:(W8 p).length=T:=by simp[W8,hp.1]
 have z1:∀q,q∈Eu p L↔∃c∈L,((q=Wg c p)∨(q=Wg c (W8 p)))∧Wd q=false:=by
  intro q;unfold Eu;rw[wS];constructor
  ·rintro⟨c,hc,hq⟩;refine⟨c,hc,?_⟩;rcases zV.1 hq with hq|hq
   ·split at hq
    ·cases hq
    ·rename_i hv;obtain rfl:=zT.1 hq;exact⟨.inl rfl,by simpa using hv⟩
   ·split at hq
    ·cases hq
    ·rename_i hv;obtain rfl:=zT.1 hq;exact⟨.inr rfl,by simpa using hv⟩
  ·rintro⟨c,hc,hq,hv⟩;refine⟨c,hc,zV.2 ?_⟩;rcases hq with rfl|rfl
   ·left;rw[if_neg (by rw[hv];decide)];simp
   ·right;rw[if_neg (by rw[hv];decide)];simp
 have z7:∀q∈Eu p L,PWf T q:=fun q hq=>by
  obtain⟨c,hc,rfl|rfl,_⟩:=(z1 q).1 hq
  ·exact Tp (h.wf c hc) hp.1
  ·exact Tp (h.wf c hc) z6
 have zb:∀q∈Eu p L,∃t n,PM q t n:=fun q hq=>by
  obtain⟨c,hc,_,hv⟩:=(z1 q).1 hq;by_cases hx:∃t n,PM q t n
  ·exact hx
  ·exfalso;have:Wd q=true:=(Rn (z7 q hq)).2 fun t n hm=>hx ⟨t,n,hm⟩;rw[this]at hv;cases hv
 refine⟨z7,zb,fun t n ht hn=> ?_,fun q hq t n hm t' n'=> ?_⟩
 ·obtain⟨c,hc,z8⟩:=h.all t n ht hn;have hv:∀q,(q=Wg c p∨q=Wg c (W8 p))→PM q t n→q∈Eu p L:=fun q hq hm=>(z1 q).2 ⟨c,hc,hq,by
   have hw:PWf T q:=by
    rcases hq with rfl|rfl
    ·exact Tp (h.wf c hc) hp.1
    ·exact Tp (h.wf c hc) z6
   cases hvq:Wd q with
   |false=>rfl
   |true=>exact absurd hm ((Rn hw).1 hvq t n)⟩
  by_cases za:PM p t n
  ·have:=(Er (h.wf c hc).1 hp.1 t n).2 ⟨z8,za⟩;exact⟨_,hv _ (.inl rfl) this,this⟩
  ·have:=(Er (h.wf c hc).1 z6 t n).2 ⟨z8,(Xf hp t n).2 ⟨⟨ht,hn⟩,za⟩⟩;exact⟨_,hv _ (.inr rfl) this,this⟩
 ·obtain⟨c,hc,zc,_⟩:=(z1 q).1 hq;have zd:c1z (l++[p]) t n t' n'↔c1z l t n t' n'∧(PM p t n↔PM p t' n'):=by
   constructor
   ·exact fun hs=>⟨fun r hr=>hs r (by simp[hr]),hs p (by simp)⟩
   ·rintro⟨h1,h2⟩ r hr;rcases zV.1 hr with hr|hr
    ·exact h1 r hr
    ·obtain rfl:=zT.1 hr;exact h2
  rw[zd];rcases zc with rfl|rfl
  ·obtain⟨m1,m2⟩:=(Er (h.wf c hc).1 hp.1 t n).1 hm;rw[Er (h.wf c hc).1 hp.1,h.cls c hc t n m1];constructor
   ·rintro⟨⟨h1,h2,h3⟩,h4⟩;exact⟨h1,h2,h3,fun _=>h4,fun _=>m2⟩
   ·rintro⟨h1,h2,h3,h4⟩;exact⟨⟨h1,h2,h3⟩,h4.1 m2⟩
  ·obtain⟨m1,m2⟩:=(Er (h.wf c hc).1 z6 t n).1 hm;have m3:=((Xf hp t n).1 m2).2;rw[Er (h.wf c hc).1 z6,h.cls c hc t n m1,Xf hp];constructor
   ·rintro⟨⟨h1,h2,h3⟩,h4⟩;exact⟨h1,h2,h3,fun h=>absurd h m3,fun h=>absurd h h4.2⟩
   ·rintro⟨h1,h2,h3,h4⟩;exact⟨⟨h1,h2,h3⟩,⟨h1,h2⟩,fun h=>m3 (h4.2 h)⟩
theorem Zg(T:Nat)(hT:0<T):Prts T [] [W3 T]:=by
 refine⟨fun p hp=> ?_,fun p hp=> ?_,fun t n ht hn=> ?_,fun p hp t n hm t' n'=> ?_⟩
 ·obtain rfl:=zT.1 hp;exact Au T
 ·obtain rfl:=zT.1 hp;exact⟨0,0,(Ai T 0 0).2 ⟨hT,by unfold inR;omega⟩⟩
 ·exact⟨_,List.mem_singleton_self _,(Ai T t n).2 ⟨ht,hn⟩⟩
 ·obtain rfl:=zT.1 hp;rw[Ai];exact⟨fun h=>⟨h.1,h.2,fun r hr=>by cases hr⟩,fun h=>⟨h.1,h.2.1⟩⟩
theorem Rq{T:Nat}(hT:0<T){l:List Prd}(hl:∀p∈l,PCk T p):Prts T l (Eo T l):=by
 have key:∀(r d L:List Prd),Prts T d L→(∀p∈r,PCk T p)→Prts T (d++r) (r.foldl (fun L p=>Eu p L) L):=by
  intro r;induction r with
  |nil=>intro d L h _;simpa using h
  |cons p r ih=>intro d L h hr;rw[xZ];have:=ih (d++[p]) (Eu p L) (Lf h (hr p (by simp))) (fun q hq=>hr q (by simp[hq]));simpa using this
 have:=key l [] [W3 T] (Zg T hT) hl;simpa[Eo]using this
end Go.Abs
namespace Go.Abs
def Qw:Prd→Nat→Nat×Int
 |[],_=>(0,0)
 |(x::_)::_,i=>(i,x.lo)
 |[]::p,i=>Qw p (i+1)
def J1(a b:Nat×Int):Bool:=decide (a.1<b.1) || (decide (a.1=b.1) && decide (a.2<b.2))
theorem R6(a b:Nat×Int):J1 a b=true↔Ii a.1 a.2 b.1 b.2:=by simp[J1,Ii]
theorem B3:∀(p:Prd) (i:Nat),(∀s∈p,Sep s)→(∃s∈p,s≠[])→∃t x r,p[t]? =some (x::r)∧Qw p i=(i+t,x.lo)∧∀j,j<t→p[j]? =some []
 |[],_,_,⟨s,hs,_⟩=>by cases hs
 |(x::r)::p,i,_,_=>⟨0,x,r,rfl,rfl,fun j hj=>by omega⟩
 |[]::p,i,h,⟨s,hs,hn⟩=>by
  have z1:s∈p:=by
   rcases yE.1 hs with rfl|hs
   ·exact absurd rfl hn
   ·exact hs
  obtain⟨t,x,r,h1,h2,h3⟩:=B3 p (i+1) (fun s hs=>h s (by simp[hs])) ⟨s,z1,hn⟩;refine⟨t+1,x,r,by simpa using h1,by rw[Qw,h2];congr 1;omega,fun j hj=> ?_⟩;cases j with
  |zero=>rfl
  |succ j=>simpa using h3 j (by omega)
theorem Wz{T:Nat}{p:Prd}(h:PWf T p)(hn:∃t n,PM p t n):PM p (Qw p 0).1 (Qw p 0).2∧∀t n,PM p t n→((Qw p 0).1=t∧(Qw p 0).2=n)∨Ii (Qw p 0).1 (Qw p 0).2 t n:=by
 obtain⟨t0,n0,s0,z1,m0⟩:=hn;have z6:s0≠[]:=fun e=>by subst e;simp[M]at m0
 obtain⟨t,x,r,h1,h2,h3⟩:=B3 p 0 (fun s hs=>(h.2 s hs).1) ⟨s0,zJ z1,z6⟩;rw[Nat.zero_add]at h2;rw[h2];have hx:=(h.2 _ (zJ h1)).1;refine⟨⟨_,h1,(Ex ..).2 (.inl ⟨xH _,hx.1 x (by simp)⟩)⟩,fun t' n' hm=> ?_⟩;obtain⟨s,hs,hm⟩:=hm;simp only;rcases vP t' t with hlt|rfl|hgt
 ·rw[h3 t' hlt]at hs;cases hs;simp[M]at hm
 ·rw[h1]at hs;cases hs;have:=hx.lowc hm;unfold Ii;omega
 ·exact .inr (.inl hgt)
theorem Xj{T:Nat}{p q:Prd}(hp:PWf T p)(z1:∃t n,PM p t n)(hq:PWf T q)(z6:∃t n,PM q t n)(h:Ii (Qw p 0).1 (Qw p 0).2 (Qw q 0).1 (Qw q 0).2):v03 p q:=
 ⟨_,_,(Wz hp z1).1,fun t n hm=>by
  rcases(Wz hq z6).2 t n hm with⟨e1,e2⟩|h2
  ·rw[←e1,←e2];exact h
  ·exact h.trans h2⟩
def Co(s:List Prd)(x:Prd):Nat→Nat
 |0=>0
 |j+1=>match s[j]? with
  |some y=>if J1 (Qw x 0) (Qw y 0)=true then Co s x j else j+1
  |none=>j+1
def Zn(s:List Prd)(x:Prd):List Prd:=s.take (Co s x s.length)++x::s.drop (Co s x s.length)
def Z5(L:List Prd):List Prd:=L.foldl Zn []
theorem Bl(s:List Prd)(x:Prd):∀j,j≤s.length→Co s x j≤j∧(∀i,Co s x j≤i→i<j→∀h:i<s.length,J1 (Qw x 0) (Qw s[i] 0)=true)∧(∀i,i+1=Co s x j→∀h:i<s.length,J1 (Qw x 0) (Qw s[i] 0)=false)
 |0,_=>⟨zQ _,fun i _ h=>by omega,fun i h=>by simp[Co]at h⟩
 |j+1,hj=>by
  have z1:j<s.length:=by omega
  rw[Co,zI z1];simp only;by_cases hb:J1 (Qw x 0) (Qw s[j] 0)=true
  ·rw[if_pos hb];obtain⟨h1,h2,h3⟩:=Bl s x j (by omega);refine⟨by omega,fun i hi z6 hl=> ?_,h3⟩;by_cases hij:i=j
   ·subst hij;exact hb
   ·exact h2 i hi (by omega) hl
  ·rw[if_neg hb];refine⟨zQ _,fun i hi z6=>by omega,fun i hi hl=> ?_⟩;have:i=j:=by omega
   subst this;simpa using hb
theorem Ad(s:List Prd)(x:Prd):(Zn s x).Perm (x::s):=by unfold Zn;refine vD.trans ?_;rw[xP]
def X3(p q:Prd):Prop:=Ii (Qw p 0).1 (Qw p 0).2 (Qw q 0).1 (Qw q 0).2
theorem Mh{s:List Prd}{x:Prd}(hs:s.Pairwise X3)(hd:∀y∈s,Qw y 0≠Qw x 0):(Zn s x).Pairwise X3:=by
 obtain⟨h1,h2,h3⟩:=Bl s x s.length (zQ _);unfold Zn;generalize Co s x s.length=k at *
 have z1:=hs;rw[←xP k s]at z1;obtain⟨p1,p2,p3⟩:=yI.1 z1;have z7:∀y∈s.drop k,X3 x y:=fun y hy=>by obtain⟨i,hi⟩:=yK.1 hy;rw[List.getElem?_drop]at hi;obtain⟨hl,e⟩:=zE.1 hi;have:=h2 (k+i) (by omega) hl hl;rw[e]at this;exact(R6 _ _).1 this
 have z8:∀i,i+1=k→∀h:i<s.length,X3 s[i] x:=fun i hi hl=>by
  have h4:=h3 i hi hl;have zc:=hd s[i] (zK hl);unfold X3;rcases vP (Qw s[i] 0).1 (Qw x 0).1 with a|a|a
  ·exact .inl a
  ·rcases tl (Qw s[i] 0).2 (Qw x 0).2 with b|b|b
   ·exact .inr ⟨a,b⟩
   ·exact absurd (Prod.ext a b) zc
   ·have:J1 (Qw x 0) (Qw s[i] 0)=true:=(R6 _ _).2 (.inr ⟨a.symm,b⟩);rw[this]at h4;cases h4
  ·have:J1 (Qw x 0) (Qw s[i] 0)=true:=(R6 _ _).2 (.inl a);rw[this]at h4;cases h4
 have z6:∀y∈s.take k,X3 y x:=fun y hy=>by
  obtain⟨i,hi⟩:=yK.1 hy;rw[List.getElem?_take]at hi;split at hi
  ·rename_i zd;obtain⟨hl,e⟩:=zE.1 hi;obtain⟨k',rfl⟩:∃k',k=k'+1:=⟨k - 1,by omega⟩
   have za:k'<s.length:=by omega
   have zb:=z8 k' rfl za;by_cases hij:i=k'
   ·subst hij;rw[←e];exact zb
   ·have:=yR.1 hs i k' hl za (by omega);rw[e]at this;exact Ii.trans this zb
  ·cases hi
 refine yI.2 ⟨p1,yQ.2 ⟨z7,p2⟩,fun y hy z hz=> ?_⟩;rcases yE.1 hz with rfl|hz
 ·exact z6 y hy
 ·exact p3 y hy z hz
theorem Le(L:List Prd)(hd:L.Pairwise (fun p q=>Qw p 0≠Qw q 0)):(Z5 L).Perm L∧(Z5 L).Pairwise X3:=by
 have key:∀(r s:List Prd),s.Pairwise X3→(s++r).Pairwise (fun p q=>Qw p 0≠Qw q 0)→(r.foldl Zn s).Perm (s++r)∧(r.foldl Zn s).Pairwise X3:=by
  intro r;induction r with
  |nil=>intro s h _;simpa using h
  |cons x r ih=>intro s h hd;obtain⟨d1,d2,d3⟩:=yI.1 hd;have hi:=Mh h (fun y hy=>d3 y hy x (by simp));have hp:=Ad s x;have z1:(Zn s x++r).Perm (s++x::r):=(hp.append_right r).trans (vD (l₁:=s) (a:=x) (l₂:=r)).symm;have z6:(Zn s x++r).Pairwise (fun p q=>Qw p 0≠Qw q 0):=(z1.pairwise_iff (fun h=>Ne.symm h)).2 hd;obtain⟨i1,i2⟩:=ih (Zn s x) hi z6;rw[xZ];exact⟨i1.trans z1,i2⟩
 have h:=key L [] List.Pairwise.nil (by simpa using hd);unfold Z5;simpa using h
def Q0(T:Nat)(l:List Prd):List Prd:=Z5 (Eo T l)
theorem Ni{T:Nat}{l L:List Prd}{p:Prd}(h:Prts T l L)(hp:PCk T p)(hd:L.Pairwise (fun a b=>∀t n,PM a t n→¬PM b t n)):(Eu p L).Pairwise (fun a b=>∀t n,PM a t n→¬PM b t n):=by
 have z7:(W8 p).length=T:=by simp[W8,hp.1]
 have z8:∀c∈L,∀q∈(if Wd (Wg c p)then []else [Wg c p])++(if Wd (Wg c (W8 p))then []else [Wg c (W8 p)]),∀t n,PM q t n→PM c t n:=by
  intro c hc q hq t n hm;rcases zV.1 hq with hq|hq
  ·split at hq
   ·cases hq
   ·obtain rfl:=zT.1 hq;exact((Er (h.wf c hc).1 hp.1 t n).1 hm).1
  ·split at hq
   ·cases hq
   ·obtain rfl:=zT.1 hq;exact((Er (h.wf c hc).1 z7 t n).1 hm).1
 unfold Eu;rw[u7];refine⟨fun c hc=> ?_,?_⟩
 ·refine yI.2 ⟨by split<;>simp,by split<;>simp,fun a ha b hb t n z1 z6=> ?_⟩;split at ha
  ·cases ha
  ·split at hb
   ·cases hb
   ·obtain rfl:=zT.1 ha;obtain rfl:=zT.1 hb;exact((Xf hp t n).1 ((Er (h.wf c hc).1 z7 t n).1 z6).2).2 ((Er (h.wf c hc).1 hp.1 t n).1 z1).2
 ·exact hd.imp_of_mem (fun {a b} ha hb hab x hx y hy t n z1 z6=>hab t n (z8 a ha x hx t n z1) (z8 b hb y hy t n z6))
theorem D3{T:Nat}(hT:0<T){l:List Prd}(hl:∀p∈l,PCk T p):(Eo T l).Pairwise (fun a b=>∀t n,PM a t n→¬PM b t n):=by
 have key:∀(r d L:List Prd),Prts T d L→(∀p∈r,PCk T p)→L.Pairwise (fun a b=>∀t n,PM a t n→¬PM b t n)→(r.foldl (fun L p=>Eu p L) L).Pairwise (fun a b=>∀t n,PM a t n→¬PM b t n):=by
  intro r;induction r with
  |nil=>intro d L _ _ h;simpa using h
  |cons p r ih=>intro d L h hr hd;rw[xZ];exact ih (d++[p]) (Eu p L) (Lf h (hr p (by simp))) (fun q hq=>hr q (by simp[hq])) (Ni h (hr p (by simp)) hd)
 exact key l [] [W3 T] (Zg T hT) hl (by simp)
theorem U1{T:Nat}(hT:0<T){l:List Prd}(hl:∀p∈l,PCk T p):Prts T l (Q0 T l)∧(Q0 T l).Pairwise v03:=by
 have h:=Rq hT hl;have hd:(Eo T l).Pairwise (fun p q=>Qw p 0≠Qw q 0):=(D3 hT hl).imp_of_mem (fun {a b} ha hb hab e=>by
  have h1:=(Wz (h.wf a ha) (h.ne a ha)).1;have h2:=(Wz (h.wf b hb) (h.ne b hb)).1;rw[←e]at h2;exact hab _ _ h1 h2)
 obtain⟨h1,h2⟩:=Le _ hd;have h3:Prts T l (Q0 T l):=h.perm h1.symm;refine⟨h3,?_⟩;exact h2.imp_of_mem (fun {a b} ha hb hab=>Xj (h3.wf a ha) (h3.ne a ha) (h3.wf b hb) (h3.ne b hb) hab)
end Go.Abs
namespace Go.Abs
def Qv(l:List Prd)(i:Nat):List Iv:=l.flatMap fun p=>p.getD i []
def Wf(l:List Prd)(i:Nat):List Int:=q1a (⟨-1099511627776,1099511627776⟩::Qv l i)
def Tv:List Int→List Iv
 |a::b::r=>⟨a,b - 1⟩::Tv (b::r)
 |_=>[]
def Ij(l:List Prd)(i:Nat)(n:Int):List Bool:=l.map fun p=>Pj (p.getD i []) n
def Uy(p:Prd)(i:Nat)(x:Iv):Prd:=p.set i (p.getD i []++[x])
def T8(T i:Nat)(sg:List Bool)(x:Iv):List (List Bool×Prd)→List (List Bool×Prd)
 |[]=>[(sg,Uy (yH T []) i x)]
 |(s,p)::r=>if s=sg then(s,Uy p i x)::r else(s,p)::T8 T i sg x r
def Kx(T:Nat)(l:List Prd):List (Nat×Iv):=(yJ T).flatMap fun i=>(Tv (Wf l i)).map fun x=>(i,x)
def I6(T:Nat)(l:List Prd):List (List Bool×Prd):=(Kx T l).foldl (fun st a=>T8 T a.1 (Ij l a.1 a.2.lo) a.2 st) []
def Rl(p:Prd):Prd:=p.map (Qy [])
def Eh(T:Nat)(l:List Prd):List Prd:=(I6 T l).map fun g=>Rl g.2
def g1s(a:Nat×Iv)(t:Nat)(n:Int):Prop:=t=a.1∧a.2.lo≤n∧n≤a.2.hi
structure GInv (T:Nat) (sig:Nat→Int→List Bool) (D:Nat→Int→Prop) (st:List (List Bool×Prd)):Prop where
 len:∀g∈st,g.2.length=T
 asc:∀g∈st,∀s∈g.2,(∀x∈s,x.lo≤x.hi)∧s.Pairwise (fun x y=>x.hi<y.lo)
 mem:∀g∈st,∀t n,PM g.2 t n↔D t n∧sig t n=g.1
 ne:∀g∈st,∃t n,PM g.2 t n
 nd:st.Pairwise (fun g h=>g.1≠h.1)
 all:∀t n,D t n→∃g∈st,g.1=sig t n
 ord:st.Pairwise (fun g h=>∃t n,PM g.2 t n∧∀t' n',PM h.2 t' n'→Ii t n t' n')
theorem Wo{p:Prd}{i:Nat}(h:i<p.length):p.getD i []=p[i]:=by simp[yV,h]
theorem u1m{T:Nat}{p:Prd}(hp:p.length=T){i:Nat}(hi:i<T)(x:Iv)(t:Nat)(n:Int):PM (Uy p i x) t n↔PM p t n∨g1s (i,x) t n:=by
 unfold PM Uy g1s;have z1:i<p.length:=by omega
 rw[Wo z1];by_cases ht:t=i
 ·subst ht;rw[zL z1,zI z1];constructor
  ·rintro⟨s,hs,hm⟩;cases hs;rcases(X4 ..).1 hm with h|h
   ·exact .inl ⟨_,rfl,h⟩
   ·rcases(Ex ..).1 h with h|h
    ·exact .inr ⟨rfl,h⟩
    ·simp[M]at h
  ·rintro(⟨s,hs,hm⟩|⟨_,h⟩)
   ·cases hs;exact⟨_,rfl,(X4 ..).2 (.inl hm)⟩
   ·exact⟨_,rfl,(X4 ..).2 (.inr ((Ex ..).2 (.inl h)))⟩
 ·rw[zB (by omega)];constructor
  ·exact fun h=> .inl h
  ·rintro(h|⟨h,_⟩)
   ·exact h
   ·exact absurd h ht
theorem j0c{T:Nat}{p:Prd}(hp:p.length=T){i:Nat}(hi:i<T){x:Iv}(hx:x.lo≤x.hi)(h:∀s∈p,(∀y∈s,y.lo≤y.hi)∧s.Pairwise (fun y z=>y.hi<z.lo))(z6:∀t n,PM p t n→Ii t n i x.lo):
  ∀s∈Uy p i x,(∀y∈s,y.lo≤y.hi)∧s.Pairwise (fun y z=>y.hi<z.lo):=by
 intro s hs;have z1:i<p.length:=by omega
 rcases List.mem_or_eq_of_mem_set hs with hs|rfl
 ·exact h s hs
 ·rw[Wo z1];obtain⟨h1,h2⟩:=h _ (zK z1);refine⟨fun y hy=> ?_,yI.2 ⟨h2,by simp,fun y hy z hz=> ?_⟩⟩
  ·rcases zV.1 hy with hy|hy
   ·exact h1 y hy
   ·obtain rfl:=zT.1 hy;exact hx
  ·obtain rfl:=zT.1 hz;have:=z6 i y.hi ⟨_,zI z1,y,hy,h1 y hy,xH _⟩;unfold Ii at this;omega
theorem Ov{T i:Nat}{sg:List Bool}{x:Iv}:∀ {st:List (List Bool×Prd)},(∀g∈st,g.1≠sg)→T8 T i sg x st=st++[(sg,Uy (yH T []) i x)]
 |[],_=>rfl
 |(s,p)::r,h=>by rw[T8,if_neg (h (s,p) (by simp)),Ov (fun g hg=>h g (by simp[hg]))];rfl
theorem Sz{T i:Nat}{sg:List Bool}{x:Iv}:∀ {st:List (List Bool×Prd)},(∃g∈st,g.1=sg)→∃a p b,st=a++(sg,p)::b∧(∀g∈a,g.1≠sg)∧T8 T i sg x st=a++(sg,Uy p i x)::b
 |[],⟨g,hg,_⟩=>by cases hg
 |(s,p)::r,⟨g,hg,he⟩=>by
  by_cases hs:s=sg
  ·subst hs;exact⟨[],p,r,rfl,by simp,by rw[T8,if_pos rfl];rfl⟩
  ·have z1:g∈r:=by
    rcases yE.1 hg with rfl|hg
    ·exact absurd he hs
    ·exact hg
   obtain⟨a,q,b,h1,h2,h3⟩:=Sz (T:=T) (i:=i) (x:=x) ⟨g,z1,he⟩;refine⟨(s,p)::a,q,b,by rw[h1];rfl,fun g hg=> ?_,by rw[T8,if_neg hs,h3];rfl⟩;rcases yE.1 hg with rfl|hg
   ·exact hs
   ·exact h2 g hg
theorem Ca(T t:Nat)(n:Int):¬PM (yH T []) t n:=by rintro⟨s,hs,hm⟩;obtain rfl:=vE (zJ hs);simp[M]at hm
theorem GInv.step{T:Nat}{sig:Nat→Int→List Bool}{D:Nat→Int→Prop}{st:List (List Bool×Prd)}(h:GInv T sig D st){i:Nat}{x:Iv}(hi:i<T)(hx:x.lo≤x.hi)(hc:∀n,x.lo≤n→n≤x.hi→sig i n=sig i x.lo)(hD:∀t n,D t n→∀n',x.lo≤n'→n'≤x.hi→Ii t n i n'):
  GInv T sig (fun t n=>D t n∨g1s (i,x) t n) (T8 T i (sig i x.lo) x st):=by
 have z7:∀t n,g1s (i,x) t n→sig t n=sig i x.lo:=fun t n hp=>by obtain⟨rfl,h1,h2⟩:=hp;exact hc n h1 h2
 have zb:∀t n,D t n→∀t' n',g1s (i,x) t' n'→Ii t n t' n':=fun t n hd t' n' hp=>by obtain⟨rfl,h1,h2⟩:=hp;exact hD t n hd n' h1 h2
 have zc:g1s (i,x) i x.lo:=⟨rfl,xH _,hx⟩
 by_cases hit:∃g∈st,g.1=sig i x.lo
 ·obtain⟨a,p,b,h1,h2,h3⟩:=Sz (T:=T) (i:=i) (x:=x) hit;rw[h3];subst h1;generalize zh:sig i x.lo=s0 at *
  have za:(s0,p)∈a++(s0,p)::b:=by simp
  have zd:=h.mem _ za;have hlen:=h.len _ za;have zf:=h.nd;obtain⟨n1,n2,n3⟩:=yI.1 zf;obtain⟨n4,n5⟩:=yQ.1 n2;obtain⟨o1,o2,o3⟩:=yI.1 h.ord;obtain⟨o4,o5⟩:=yQ.1 o2;have z1:=fun t n=>u1m hlen hi x t n;have hold:∀g∈a++(s0,Uy p i x)::b,(g∈a++(s0,p)::b∧g.1≠s0)∨g=(s0,Uy p i x):=fun g hg=>by
   rcases zV.1 hg with hg|hg
   ·exact .inl ⟨by simp[hg],h2 g hg⟩
   ·rcases yE.1 hg with rfl|hg
    ·exact .inr rfl
    ·exact .inl ⟨by simp[hg],(n4 g hg).symm⟩
  refine⟨fun g hg=> ?_,fun g hg=> ?_,fun g hg t n=> ?_,fun g hg=> ?_,?_,fun t n hd=> ?_,?_⟩
  ·rcases hold g hg with⟨hg,_⟩|rfl
   ·exact h.len g hg
   ·simp[Uy,hlen]
  ·rcases hold g hg with⟨hg,_⟩|rfl
   ·exact h.asc g hg
   ·exact j0c hlen hi hx (h.asc _ za) (fun t n hm=>hD t n ((zd t n).1 hm).1 x.lo (xH _) hx)
  ·rcases hold g hg with⟨hg,zg⟩|rfl
   ·rw[h.mem g hg t n];constructor
    ·exact fun hh=>⟨.inl hh.1,hh.2⟩
    ·rintro⟨hd|hd,hs⟩
     ·exact⟨hd,hs⟩
     ·exact absurd (by rw[←hs,z7 t n hd]) zg
   ·rw[z1,zd];constructor
    ·rintro(⟨hd,hs⟩|hd)
     ·exact⟨.inl hd,hs⟩
     ·exact⟨.inr hd,z7 t n hd⟩
    ·rintro⟨hd|hd,hs⟩
     ·exact .inl ⟨hd,hs⟩
     ·exact .inr hd
  ·rcases hold g hg with⟨hg,_⟩|rfl
   ·exact h.ne g hg
   ·exact⟨i,x.lo,(z1 i x.lo).2 (.inr zc)⟩
  ·exact yI.2 ⟨n1,yQ.2 ⟨fun g hg=>n4 g hg,n5⟩,fun g hg k hk=>by
    rcases yE.1 hk with rfl|hk
    ·exact h2 g hg
    ·exact n3 g hg k (by simp[hk])⟩
  ·rcases hd with hd|hd
   ·obtain⟨g,hg,he⟩:=h.all t n hd;rcases zV.1 hg with hg|hg
    ·exact⟨g,by simp[hg],he⟩
    ·rcases yE.1 hg with rfl|hg
     ·exact⟨(s0,Uy p i x),by simp,he⟩
     ·exact⟨g,by simp[hg],he⟩
   ·exact⟨(s0,Uy p i x),by simp,(z7 t n hd).symm⟩
  ·refine yI.2 ⟨o1,yQ.2 ⟨fun g hg=> ?_,o5⟩,fun g hg k hk=> ?_⟩
   ·obtain⟨t,n,e1,e2⟩:=o4 g hg;exact⟨t,n,(z1 t n).2 (.inl e1),e2⟩
   ·rcases yE.1 hk with rfl|hk
    ·obtain⟨t,n,e1,e2⟩:=o3 g hg (s0,p) (by simp);refine⟨t,n,e1,fun t' n' hm=> ?_⟩;rcases(z1 t' n').1 hm with hm|hm
     ·exact e2 t' n' hm
     ·exact zb t n ((h.mem g (by simp[hg]) t n).1 e1).1 t' n' hm
    ·exact o3 g hg k (by simp[hk])
 ·have z8:∀g∈st,g.1≠sig i x.lo:=fun g hg he=>hit ⟨g,hg,he⟩;rw[Ov z8];have ze:(yH T ([]:List Iv)).length=T:=by simp
  have z1:=fun t n=>u1m ze hi x t n;have z6:∀g∈st++[(sig i x.lo,Uy (yH T []) i x)],g∈st∨g=(sig i x.lo,Uy (yH T []) i x):=fun g hg=>by
   rcases zV.1 hg with hg|hg
   ·exact .inl hg
   ·exact .inr (zT.1 hg)
  refine⟨fun g hg=> ?_,fun g hg=> ?_,fun g hg t n=> ?_,fun g hg=> ?_,?_,fun t n hd=> ?_,?_⟩
  ·rcases z6 g hg with hg|rfl
   ·exact h.len g hg
   ·simp[Uy]
  ·rcases z6 g hg with hg|rfl
   ·exact h.asc g hg
   ·exact j0c ze hi hx (fun s hs=>by obtain rfl:=vE hs;simp) (fun t n hm=>absurd hm (Ca T t n))
  ·rcases z6 g hg with hg|rfl
   ·rw[h.mem g hg t n];constructor
    ·exact fun hh=>⟨.inl hh.1,hh.2⟩
    ·rintro⟨hd|hd,hs⟩
     ·exact⟨hd,hs⟩
     ·exact absurd (by rw[←hs,z7 t n hd]) (z8 g hg)
   ·rw[z1];constructor
    ·rintro(hm|hd)
     ·exact absurd hm (Ca T t n)
     ·exact⟨.inr hd,z7 t n hd⟩
    ·rintro⟨hd|hd,hs⟩
     ·obtain⟨g,hg,he⟩:=h.all t n hd;exact absurd (he.trans hs) (z8 g hg)
     ·exact .inr hd
  ·rcases z6 g hg with hg|rfl
   ·exact h.ne g hg
   ·exact⟨i,x.lo,(z1 i x.lo).2 (.inr zc)⟩
  ·exact yI.2 ⟨h.nd,by simp,fun g hg k hk=>by obtain rfl:=zT.1 hk;exact z8 g hg⟩
  ·rcases hd with hd|hd
   ·obtain⟨g,hg,he⟩:=h.all t n hd;exact⟨g,by simp[hg],he⟩
   ·exact⟨(sig i x.lo,Uy (yH T []) i x),by simp,(z7 t n hd).symm⟩
  ·refine yI.2 ⟨h.ord,by simp,fun g hg k hk=> ?_⟩;obtain rfl:=zT.1 hk;obtain⟨t,n,e1⟩:=h.ne g hg;refine⟨t,n,e1,fun t' n' hm=> ?_⟩;rcases(z1 t' n').1 hm with hm|hm
   ·exact absurd hm (Ca T t' n')
   ·exact zb t n ((h.mem g hg t n).1 e1).1 t' n' hm
end Go.Abs
namespace Go.Abs
theorem Sj:∀(cs:List Int),cs.Pairwise (·<·)→∀x∈Tv cs,x.lo≤x.hi∧x.lo∈cs∧x.hi+1∈cs∧∀d∈cs,d≤x.hi→d≤x.lo
 |[],_,x,hx=>by simp[Tv]at hx
 |[a],_,x,hx=>by simp[Tv]at hx
 |a::b::r,h,x,hx=>by
  obtain⟨h1,h2⟩:=yQ.1 h;rw[Tv]at hx;rcases yE.1 hx with rfl|hx
  ·have z1:=h1 b (by simp);refine⟨by simp only;omega,by simp,by simp,fun d hd hle=> ?_⟩;simp only at hle ⊢;rcases yE.1 hd with rfl|hd
   ·omega
   ·have:b≤d:=by
     rcases yE.1 hd with rfl|hd
     ·omega
     ·have:=(yQ.1 h2).1 d hd;omega
    omega
  ·obtain⟨k1,k2,k3,k4⟩:=Sj (b::r) h2 x hx;refine⟨k1,by simp only[yE]at k2 ⊢;exact .inr k2,by simp only[yE]at k3 ⊢;exact .inr k3,fun d hd hle=> ?_⟩;rcases yE.1 hd with rfl|hd
   ·have:=h1 x.lo k2;omega
   ·exact k4 d hd hle
theorem q09:∀(cs:List Int),cs.Pairwise (·<·)→(Tv cs).Pairwise (fun x y=>x.hi<y.lo)
 |[],_=>by simp[Tv]
 |[a],_=>by simp[Tv]
 |a::b::r,h=>by
  obtain⟨h1,h2⟩:=yQ.1 h;rw[Tv];refine yQ.2 ⟨fun y hy=> ?_,q09 (b::r) h2⟩;obtain⟨_,k2,_,_⟩:=Sj (b::r) h2 y hy;have:b≤y.lo:=by
   rcases yE.1 k2 with e|k2
   ·omega
   ·have:=(yQ.1 h2).1 y.lo k2;omega
  simp only;omega
theorem Lc:∀(cs:List Int),cs.Pairwise (·<·)→∀n,(∃a∈cs,a≤n)→(∃b∈cs,n<b)→∃x∈Tv cs,x.lo≤n∧n≤x.hi
 |[],_,n,⟨a,ha,_⟩,_=>by cases ha
 |[a],_,n,⟨c,hc,h1⟩,⟨d,hd,h2⟩=>by obtain rfl:=zT.1 hc;obtain rfl:=zT.1 hd;omega
 |a::b::r,h,n,⟨c,hc,h1⟩,⟨d,hd,h2⟩=>by
  obtain⟨p1,p2⟩:=yQ.1 h;rw[Tv];have z1:a≤n:=by
   rcases yE.1 hc with rfl|hc
   ·exact h1
   ·have:=p1 c hc;omega
  by_cases hb:n<b
  ·exact⟨⟨a,b - 1⟩,by simp,z1,by simp only;omega⟩
  ·have z6:d∈b::r:=by
    rcases yE.1 hd with rfl|hd
    ·omega
    ·exact hd
   obtain⟨x,hx,e⟩:=Lc (b::r) p2 n ⟨b,by simp,by omega⟩ ⟨d,z6,h2⟩;exact⟨x,by simp[hx],e⟩
theorem Tc{l:List Prd}{i:Nat}{x:Iv}:x∈Qv l i↔∃p∈l,x∈p.getD i []:=by simp[Qv]
theorem z1z{T:Nat}{p:Prd}(hp:PCk T p)(i:Nat):CanonL (p.getD i []):=by
 by_cases hi:i<p.length
 ·rw[Wo hi];exact hp.2 _ (zK hi)
 ·have:p.getD i []=[]:=by simp[yV,List.getElem?_eq_none (by omega:p.length≤i)]
  rw[this];exact Al
theorem Tz{T:Nat}{l:List Prd}(hl:∀p∈l,PCk T p)(i:Nat):(Wf l i).Pairwise (·<·)∧(-1099511627776:Int)∈Wf l i∧(1099511627777:Int)∈Wf l i∧
  (∀z∈Wf l i,-1099511627776≤z∧z≤1099511627777)∧∀p∈l,∀x∈p.getD i [],x.lo∈Wf l i∧x.hi+1∈Wf l i:=by
 obtain⟨h1,h2⟩:=q1g (⟨-1099511627776,1099511627776⟩::Qv l i);refine⟨h1,(h2 _).2 ⟨⟨-1099511627776,1099511627776⟩,by simp,.inl rfl⟩,(h2 _).2 ⟨⟨-1099511627776,1099511627776⟩,by simp,.inr (by simp)⟩,fun z hz=> ?_,fun p hp x hx=>⟨(h2 _).2 ⟨x,?_,.inl rfl⟩,(h2 _).2 ⟨x,?_,.inr rfl⟩⟩⟩
 ·obtain⟨x,hx,e⟩:=(h2 z).1 hz;rcases yE.1 hx with rfl|hx
  ·simp only at e;omega
  ·obtain⟨p,hp,hx⟩:=Tc.1 hx;have hc:=z1z (hl p hp) i;have h3:=Xc hc x hx;have h4:=(Eb _).1 h3.1;have h5:=(Eb _).1 h3.2;have:=(G9 hc).1 x hx;omega
 ·exact uX _ (Tc.2 ⟨p,hp,hx⟩)
 ·exact uX _ (Tc.2 ⟨p,hp,hx⟩)
theorem j0n{T:Nat}{l:List Prd}(hl:∀p∈l,PCk T p)(i:Nat){x:Iv}(hx:x∈Tv (Wf l i))(n:Int)(h1:x.lo≤n)(h2:n≤x.hi):Ij l i n=Ij l i x.lo:=by obtain⟨c1,_,_,_,c5⟩:=Tz hl i;obtain⟨_,_,_,k4⟩:=Sj _ c1 x hx;unfold Ij;apply xT;intro p hp;exact j0h _ (Wf l i) (c5 p hp) x.lo n h1 (fun d hd hle=>k4 d hd (by omega))
theorem Vf{T:Nat}{p:Prd}(hp:p.length=T){t:Nat}(ht:t<T)(n:Int):Pj (p.getD t []) n=true↔PM p t n:=by
 have z1:t<p.length:=by omega
 rw[Wo z1,q0u];unfold PM;rw[zI z1];simp
theorem u1p{T:Nat}{l:List Prd}(hl:∀p∈l,PCk T p){t t':Nat}(ht:t<T)(z1:t'<T)(n n':Int):Ij l t n=Ij l t' n'↔c1z l t n t' n':=by
 unfold Ij c1z;constructor
 ·intro h p hp;have:=(List.map_inj_left.1 h) p hp;rw[←Vf (hl p hp).1 ht,←Vf (hl p hp).1 z1,this]
 ·intro h;apply xT;intro p hp;have:=h p hp;rw[←Vf (hl p hp).1 ht,←Vf (hl p hp).1 z1]at this;exact xU.2 this
theorem GInv.congr{T:Nat}{sig:Nat→Int→List Bool}{D D':Nat→Int→Prop}{st:List (List Bool×Prd)}(h:GInv T sig D st)(e:∀t n,D t n↔D' t n):GInv T sig D' st:=by have:D=D':=funext fun t=>funext fun n=>propext (e t n);rw[←this];exact h
theorem Nn{T:Nat}{sig:Nat→Int→List Bool}:∀(A:List (Nat×Iv)) (D:Nat→Int→Prop) (st:List (List Bool×Prd)),GInv T sig D st→(∀a∈A,a.1<T∧a.2.lo≤a.2.hi∧∀n,a.2.lo≤n→n≤a.2.hi→sig a.1 n=sig a.1 a.2.lo)→
  (∀t n,D t n→∀a∈A,∀n',a.2.lo≤n'→n'≤a.2.hi→Ii t n a.1 n')→A.Pairwise (fun a b=>∀n n',a.2.lo≤n→n≤a.2.hi→b.2.lo≤n'→n'≤b.2.hi→Ii a.1 n b.1 n')→
  GInv T sig (fun t n=>D t n∨∃a∈A,g1s a t n) (A.foldl (fun st a=>T8 T a.1 (sig a.1 a.2.lo) a.2 st) st)
 |[],D,st,h,_,_,_=>h.congr (fun t n=>by simp)
 |a::A,D,st,h,h1,h2,h3=>by
  obtain⟨i,x⟩:=a;obtain⟨e1,e2,e3⟩:=h1 (i,x) (by simp);obtain⟨p1,p2⟩:=yQ.1 h3;have hs:=h.step e1 e2 e3 (fun t n hd n' q1 q2=>h2 t n hd (i,x) (by simp) n' q1 q2);rw[xZ];refine(Nn A _ _ hs (fun b hb=>h1 b (by simp[hb])) (fun t n hd b hb n' q1 q2=> ?_) p2).congr (fun t n=> ?_)
  ·rcases hd with hd|hd
   ·exact h2 t n hd b (by simp[hb]) n' q1 q2
   ·obtain⟨rfl,d1,d2⟩:=hd;exact p1 b hb n n' d1 d2 q1 q2
  ·simp[or_assoc]
theorem Gs{T:Nat}{l:List Prd}{a:Nat×Iv}:a∈Kx T l↔a.1<T∧a.2∈Tv (Wf l a.1):=by
 unfold Kx;rw[wS];constructor
 ·rintro⟨i,hi,h⟩;obtain⟨x,hx,rfl⟩:=zR.1 h;exact⟨yW.1 hi,hx⟩
 ·rintro⟨h1,h2⟩;exact⟨a.1,yW.2 h1,zR.2 ⟨a.2,h2,rfl⟩⟩
theorem k0t{T:Nat}{l:List Prd}(hl:∀p∈l,PCk T p):(Kx T l).Pairwise (fun a b=>∀n n',a.2.lo≤n→n≤a.2.hi→b.2.lo≤n'→n'≤b.2.hi→Ii a.1 n b.1 n'):=by
 unfold Kx;rw[u7];refine⟨fun i _=> ?_,?_⟩
 ·rw[wJ];refine(q09 _ (Tz hl i).1).imp (fun {x y} h n n' h1 h2 h3 h4=> .inr ⟨rfl,by simp only at h2 h3;omega⟩)
 ·refine List.pairwise_lt_range.imp (fun {i j} h a ha b hb n n' _ _ _ _=> ?_);obtain⟨x,_,rfl⟩:=zR.1 ha;obtain⟨y,_,rfl⟩:=zR.1 hb;exact .inl h
theorem g0v{T:Nat}{l:List Prd}(hl:∀p∈l,PCk T p):GInv T (Ij l) (fun t n=>t<T∧inR n) (I6 T l):=by
 have h0:GInv T (Ij l) (fun _ _=>False) []:=⟨by simp,by simp,by simp,by simp,by simp,fun _ _ h=>h.elim,by simp⟩
 refine(Nn (Kx T l) _ [] h0 (fun a ha=> ?_) (fun _ _ h=>h.elim) (k0t hl)).congr (fun t n=> ?_)
 ·obtain⟨h1,h2⟩:=Gs.1 ha;exact⟨h1,(Sj _ (Tz hl a.1).1 _ h2).1,fun n q1 q2=>j0n hl a.1 h2 n q1 q2⟩
 ·obtain⟨c1,c2,c3,c4,c5⟩:=Tz hl t;constructor
  ·rintro(h|⟨a,ha,rfl,h1,h2⟩)
   ·exact h.elim
   ·obtain⟨q1,q2⟩:=Gs.1 ha;obtain⟨s1,s2,s3,s4⟩:=Sj _ c1 _ q2;have:=c4 _ s2;have:=c4 _ s3;exact⟨q1,by unfold inR;omega⟩
  ·rintro⟨h1,h2⟩;unfold inR at h2;obtain⟨x,hx,e1,e2⟩:=Lc _ c1 n ⟨_,c2,h2.1⟩ ⟨_,c3,by omega⟩;exact .inr ⟨(t,x),Gs.2 ⟨h1,hx⟩,rfl,e1,e2⟩
theorem Oe{s:List Iv}(h:(∀x∈s,x.lo≤x.hi)∧s.Pairwise (fun x y=>x.hi<y.lo)):Sep (Qy [] s)∧∀n,M (Qy [] s) n↔M s n:=by have hb:Cl s:=h.2.imp_of_mem (fun {x y} hx hy hxy=>by have:=h.1 x hx;omega);have:=Sv s [] Xo hb h.1 (by simp);refine⟨this.1,fun n=> ?_⟩;rw[this.2 n];simp[M]
theorem Xt{T:Nat}{p:Prd}(h:∀s∈p,(∀x∈s,x.lo≤x.hi)∧s.Pairwise (fun x y=>x.hi<y.lo))(t:Nat)(n:Int):PM (Rl p) t n↔PM p t n:=by
 unfold PM Rl;rw[zX];constructor
 ·rintro⟨s,hs,hm⟩;obtain⟨a,ha,rfl⟩:=zU.1 hs;exact⟨a,ha,((Oe (h a (zJ ha))).2 n).1 hm⟩
 ·rintro⟨a,ha,hm⟩;exact⟨Qy [] a,by rw[ha];rfl,((Oe (h a (zJ ha))).2 n).2 hm⟩
theorem A8{T:Nat}{l:List Prd}(hl:∀p∈l,PCk T p):Prts T l (Eh T l)∧(Eh T l).Pairwise v03:=by
 have h:=g0v hl;have z1:∀g∈I6 T l,∀t n,PM (Rl g.2) t n↔(t<T∧inR n)∧Ij l t n=g.1:=fun g hg t n=>by rw[Xt (T:=T) (h.asc g hg),h.mem g hg]
 have z6:∀p∈Eh T l,∃g∈I6 T l,p=Rl g.2:=fun p hp=>by obtain⟨g,hg,rfl⟩:=zR.1 hp;exact⟨g,hg,rfl⟩
 refine⟨⟨fun p hp=> ?_,fun p hp=> ?_,fun t n ht hn=> ?_,fun p hp t n hm t' n'=> ?_⟩,?_⟩
 ·obtain⟨g,hg,rfl⟩:=z6 p hp;refine⟨by simp[Rl,h.len g hg],fun s hs=> ?_⟩;obtain⟨i,hi⟩:=yK.1 hs;have z7:=hs;obtain⟨a,ha,rfl⟩:=zR.1 hs;exact⟨(Oe (h.asc g hg a ha)).1,fun n hn=>((z1 g hg i n).1 ⟨_,hi,hn⟩).1.2⟩
 ·obtain⟨g,hg,rfl⟩:=z6 p hp;obtain⟨t,n,hm⟩:=h.ne g hg;exact⟨t,n,(Xt (T:=T) (h.asc g hg) t n).2 hm⟩
 ·obtain⟨g,hg,he⟩:=h.all t n ⟨ht,hn⟩;exact⟨Rl g.2,zR.2 ⟨g,hg,rfl⟩,(z1 g hg t n).2 ⟨⟨ht,hn⟩,he.symm⟩⟩
 ·obtain⟨g,hg,rfl⟩:=z6 p hp;obtain⟨⟨q1,q2⟩,q3⟩:=(z1 g hg t n).1 hm;rw[z1 g hg];constructor
  ·rintro⟨⟨h1,h2⟩,h3⟩;exact⟨h1,h2,(u1p hl q1 h1 n n').1 (q3.trans h3.symm)⟩
  ·rintro⟨h1,h2,h3⟩;exact⟨⟨h1,h2⟩,((u1p hl q1 h1 n n').2 h3).symm.trans q3⟩
 ·unfold Eh;rw[wJ];refine h.ord.imp_of_mem (fun {a b} ha hb hab=> ?_);obtain⟨t,n,e1,e2⟩:=hab;exact⟨t,n,(Xt (T:=T) (h.asc a ha) t n).2 e1,fun t' n' hm=>e2 t' n' ((Xt (T:=T) (h.asc b hb) t' n').1 hm)⟩
theorem S6{T:Nat}(hT:0<T){l:List Prd}(hl:∀p∈l,PCk T p):Eh T l=Q0 T l:=by obtain⟨a1,a2⟩:=A8 hl;obtain⟨b1,b2⟩:=U1 hT hl;exact a1.unique b1 a2 b2
end Go.Abs
namespace Go.Abs
structure Sy where
 ty:Int
 num:Int
deriving Inhabited,DecidableEq
structure Mv where
 src:Int
 dst:Int
 on:Prd
deriving Inhabited
structure Aut where
 types:Int
 fin:List Bool
 mv:List Mv
deriving Inhabited
def Ys:Aut:=⟨0,[],[]⟩
def u07:List (List Iv)→Int
 |[]=>0
 |s::r=>if ckR s≠0 then ckR s else u07 r
def Ej(T:Int)(p:Prd):Int:=if T<1∨16<T then 2 else if(p.length:Int)≠T then 15 else u07 p
def u0p(T:Int)(n:Nat):List Mv→Int
 |[]=>0
 |m::r=>if ¬((0≤m.src∧m.src<n)∧(0≤m.dst∧m.dst<n))then 2 else if Ej T m.on≠0 then Ej T m.on else u0p T n r
def Wq(a:Aut):Int:=if a.types<1∨16<a.types then 2 else if a.fin.length<1∨256<a.fin.length∨2048<a.mv.length then 5 else u0p a.types a.fin.length a.mv
theorem q01:∀(p:List (List Iv)),u07 p=0↔∀s∈p,CanonL s
 |[]=>by simp[u07]
 |s::r=>by
  rw[u07];by_cases h:ckR s=0
  ·rw[if_neg (fun k=>k h),q01 r];simp[(Bd s).1 h]
  ·rw[if_pos h];refine⟨fun k=>absurd k h,fun k=>absurd ((Bd s).2 (k s (by simp))) h⟩
theorem Ek(T:Int)(p:Prd):Ej T p=0↔(1≤T∧T≤16)∧PCk T.toNat p:=by
 unfold Ej PCk;by_cases h1:T<1∨16<T
 ·rw[if_pos h1];exact⟨fun h=>by omega,fun h=>by omega⟩
 ·rw[if_neg h1];by_cases h2:(p.length:Int)≠T
  ·rw[if_pos h2];exact⟨fun h=>by omega,fun h=>by omega⟩
  ·rw[if_neg h2,q01];exact⟨fun h=>⟨by omega,by omega,h⟩,fun h=>h.2.2⟩
structure OkMv (T:Nat) (n:Nat) (m:Mv):Prop where
 src:0≤m.src∧m.src<n
 dst:0≤m.dst∧m.dst<n
 on:PCk T m.on
structure OkA (a:Aut):Prop where
 types:1≤a.types∧a.types≤16
 fin:1≤a.fin.length∧a.fin.length≤256
 mvs:a.mv.length≤2048
 mv:∀m∈a.mv,OkMv a.types.toNat a.fin.length m
theorem w0a{T:Int}(hT:1≤T∧T≤16)(n:Nat):∀(l:List Mv),u0p T n l=0↔∀m∈l,OkMv T.toNat n m
 |[]=>by simp[u0p]
 |m::r=>by
  rw[u0p];by_cases h1:(0≤m.src∧m.src<n)∧(0≤m.dst∧m.dst<n)
  ·rw[if_neg (fun k=>k h1)];by_cases h2:Ej T m.on=0
   ·rw[if_neg (fun k=>k h2),w0a hT n r];have h3:=((Ek T m.on).1 h2).2;constructor
    ·intro h x hx;rcases yE.1 hx with rfl|hx
     ·exact⟨h1.1,h1.2,h3⟩
     ·exact h x hx
    ·exact fun h x hx=>h x (by simp[hx])
   ·rw[if_pos h2];exact⟨fun h=>absurd h h2,fun h=>absurd ((Ek T m.on).2 ⟨hT,(h m (by simp)).on⟩) h2⟩
  ·rw[if_pos h1];exact⟨fun h=>(by cases h),fun h=>absurd ⟨(h m (by simp)).src,(h m (by simp)).dst⟩ h1⟩
theorem O5(a:Aut):Wq a=0↔OkA a:=by
 unfold Wq;by_cases h1:a.types<1∨16<a.types
 ·rw[if_pos h1];exact⟨fun h=>(by cases h),fun h=>by have:=h.types;omega⟩
 ·rw[if_neg h1];by_cases h2:a.fin.length<1∨256<a.fin.length∨2048<a.mv.length
  ·rw[if_pos h2];exact⟨fun h=>(by cases h),fun h=>by have:=h.fin;have:=h.mvs;omega⟩
  ·rw[if_neg h2,w0a (by omega)];exact⟨fun h=>⟨by omega,by omega,by omega,h⟩,fun h=>h.mv⟩
def T0(p:Prd)(x:Sy):Bool:=decide (0≤x.ty) && decide (x.ty<p.length) && Pj (p.getD x.ty.toNat []) x.num
def Va(T:Int)(x:Sy):Int:=if x.ty<0∨T≤x.ty then 6 else if x.num< -1099511627776∨1099511627776<x.num then 2 else 0
theorem w1q(T:Int)(x:Sy):Va T x=0↔(0≤x.ty∧x.ty<T)∧inR x.num:=by
 unfold Va inR;split
 ·constructor
  ·intro h;cases h
  ·intro h;omega
 ·split
  ·constructor
   ·intro h;cases h
   ·intro h;omega
  ·constructor
   ·intro _;omega
   ·intro _;rfl
theorem R5{T:Nat}{p:Prd}(hp:p.length=T)(x:Sy)(hx:0≤x.ty):T0 p x=true↔PM p x.ty.toNat x.num:=by
 unfold T0;by_cases h:x.ty<p.length
 ·have h1:x.ty.toNat<T:=by omega
  rw[←Vf hp h1];simp[h,hx]
 ·have:¬PM p x.ty.toNat x.num:=by rintro⟨s,hs,_⟩;have:=(zE.1 hs).1;omega
  simp[h,this]
def En(n:Nat):List Int:=(yJ n).map fun i:Nat=>(i:Int)
theorem Ty{n:Nat}{z:Int}:z∈En n↔0≤z∧z<n:=by
 unfold En;rw[zR];constructor
 ·rintro⟨i,hi,rfl⟩;have:=yW.1 hi;omega
 ·rintro⟨h1,h2⟩;exact⟨z.toNat,yW.2 (by omega),by omega⟩
theorem H8(n:Nat):(En n).Pairwise (·<·):=by unfold En;rw[wJ];exact List.pairwise_lt_range.imp (fun h=>by omega)
def z1s(a:Aut)(l:List Int)(x:Sy)(j:Int):Bool:=a.mv.any fun m=>l.contains m.src && T0 m.on x && decide (m.dst=j)
def Wb(a:Aut)(l:List Int)(x:Sy):List Int:=(En a.fin.length).filter (z1s a l x)
def f1s(a:Aut)(l:List Int)(x:Sy):List Int:=Go.Lib.compact (Rw ((a.mv.filter fun m=>l.contains m.src && T0 m.on x).map (·.dst)))
theorem v1k(zs:List Int):(Rw zs).Pairwise (·≤·):=by have:=uI (le:=fun x y:Int=>decide (x≤y)) (fun a b c h1 h2=>by simp at h1 h2 ⊢;omega) (fun a b=>by simp;omega) zs;simpa[Rw]using this
theorem Bx(zs:List Int):(Go.Lib.compact (Rw zs)).Pairwise (·<·)∧∀z,z∈Go.Lib.compact (Rw zs)↔z∈zs:=by have h:=V7 _ (v1k zs) _ (zQ _);refine⟨h.1,fun z=> ?_⟩;have h2:=h.2 z;rw[yP]at h2;rw[Go.Lib.compact,h2,Rw,t8]
theorem Un{a b:List Int}(ha:a.Pairwise (·<·))(hb:b.Pairwise (·<·))(h:∀z,z∈a↔z∈b):a=b:=by have hn:∀ {l:List Int},l.Pairwise (·<·)→l.Nodup:=fun hl=>hl.imp (fun h e=>by omega);exact List.Perm.eq_of_pairwise (le:=(·<·)) (fun a b _ _ h1 h2=>by omega) ha hb ((uB (hn ha) (hn hb)).2 h)
theorem Ur(a:Aut)(l:List Int)(x:Sy):(Wb a l x).Pairwise (·<·):=(H8 _).filter _
theorem E5{a:Aut}{l:List Int}{x:Sy}{j:Int}:j∈Wb a l x↔(0≤j∧j<a.fin.length)∧∃m∈a.mv,m.src∈l∧T0 m.on x=true∧m.dst=j:=by unfold Wb z1s;rw[xL,Ty,wN];simp[and_assoc]
theorem g1h{a:Aut}(h:∀m∈a.mv,0≤m.dst∧m.dst<a.fin.length)(l:List Int)(x:Sy):f1s a l x=Wb a l x:=by
 obtain⟨h1,h2⟩:=Bx ((a.mv.filter fun m=>l.contains m.src && T0 m.on x).map (·.dst));refine Un h1 (Ur a l x) fun z=> ?_;rw[f1s,h2,E5];constructor
 ·intro hz;obtain⟨m,hm,rfl⟩:=zR.1 hz;obtain⟨hm,hc⟩:=xL.1 hm;simp at hc;exact⟨h m hm,m,hm,hc.1,hc.2,rfl⟩
 ·rintro⟨_,m,hm,c1,c2,rfl⟩;exact zR.2 ⟨m,xL.2 ⟨hm,by simp[c1,c2]⟩,rfl⟩
theorem Ow{a:Aut}{l:List Int}{x:Sy}:∀j∈Wb a l x,0≤j∧j<a.fin.length:=fun j hj=>(E5.1 hj).1
def Qm(p:Prd):Sy:=⟨(Qw p 0).1,(Qw p 0).2⟩
def Se(Q:List (List Int))(x:List Int):List (List Int):=if x=[]∨x∈Q then Q else Q++[x]
def W5(Q:List (List Int))(xs:List (List Int)):List (List Int):=xs.foldl Se Q
def Ey(a:Aut)(cl:List Prd)(l:List Int):List (List Int):=cl.map fun c=>Wb a l (Qm c)
def Xa(a:Aut)(cl:List Prd):Nat→Nat→List (List Int)→Option (List (List Int))
 |0,_,_=>none
 |f+1,i,Q=>match Q[i]? with
  |some l=>if 256<(W5 Q (Ey a cl l)).length then none else Xa a cl f (i+1) (W5 Q (Ey a cl l))
  |none=>some Q
theorem z1a(Q:List (List Int))(x:List Int):∃R,Se Q x=Q++R∧∀y∈R,y=x∧x≠[]:=by
 unfold Se;split
 ·exact⟨[],by simp,by simp⟩
 ·rename_i h;exact⟨[x],rfl,fun y hy=>⟨zT.1 hy,fun e=>h (.inl e)⟩⟩
theorem Ul:∀(xs:List (List Int)) (Q:List (List Int)),∃R,W5 Q xs=Q++R∧∀y∈R,y∈xs∧y≠[]
 |[],Q=>⟨[],by simp[W5],by simp⟩
 |x::xs,Q=>by
  obtain⟨R1,h1,h2⟩:=z1a Q x;obtain⟨R2,h3,h4⟩:=Ul xs (Se Q x);refine⟨R1++R2,?_,fun y hy=> ?_⟩
  ·show W5 (Se Q x) xs=_;rw[h3,h1,List.append_assoc]
  ·rcases zV.1 hy with hy|hy
   ·obtain⟨rfl,hn⟩:=h2 y hy;exact⟨by simp,hn⟩
   ·exact⟨by simp[(h4 y hy).1],(h4 y hy).2⟩
theorem Lp(Q xs:List (List Int)):Q.length≤(W5 Q xs).length:=by obtain⟨R,h,_⟩:=Ul xs Q;rw[h];simp
theorem y1p{Q:List (List Int)}{x:List Int}(hx:x≠[]):x∈Se Q x:=by
 unfold Se;split
 ·rename_i h;rcases h with h|h
  ·exact absurd h hx
  ·exact h
 ·simp
theorem K1:∀ {xs:List (List Int)} {Q:List (List Int)} {x:List Int},x∈xs→x≠[]→x∈W5 Q xs
 |[],_,_,h,_=>by cases h
 |y::xs,Q,x,h,hn=>by
  show x∈W5 (Se Q y) xs;rcases yE.1 h with rfl|h
  ·obtain⟨R,e,_⟩:=Ul xs (Se Q x);rw[e];exact xE _ (y1p hn)
  ·exact K1 h hn
def Pe(Q:List (List Int)):List (List Int)→Option (List (List Int))
 |[]=>some Q
 |x::xs=>if 256<(Se Q x).length then none else Pe (Se Q x) xs
theorem round_eq:∀(xs:List (List Int)) (Q:List (List Int)),Q.length≤256→Pe Q xs=if 256<(W5 Q xs).length then none else some (W5 Q xs)
 |[],Q,h=>by rw[Pe,W5,List.foldl_nil,if_neg (by omega)]
 |x::xs,Q,h=>by
  rw[Pe];have hr:W5 Q (x::xs)=W5 (Se Q x) xs:=rfl;rw[hr];by_cases hl:256<(Se Q x).length
  ·have:=Lp (Se Q x) xs;rw[if_pos hl,if_pos (by omega)]
  ·rw[if_neg hl,round_eq xs (Se Q x) (by omega)]
end Go.Abs
namespace Go.Abs
def Wp(p q:Prd):Prd:=tC (fun a b=>W4 (a++b)) p q
theorem Aj{T:Nat}{p q:Prd}(hp:PWf T p)(hq:PWf T q)(t:Nat)(n:Int):PM (Wp p q) t n↔PM p t n∨PM q t n:=by
 have hf:∀ {a b:List Iv},a∈p→b∈q→∀x∈a++b,x.lo≤x.hi:=fun ha hb x hx=>by
  rcases zV.1 hx with hx|hx
  ·exact(hp.2 _ ha).1.1 x hx
  ·exact(hq.2 _ hb).1.1 x hx
 unfold PM Wp;rw[vv];constructor
 ·rintro⟨s,hs,hm⟩;cases h1:p[t]? with
  |none=>rw[h1]at hs;simp at hs
  |some a=>
   cases h2:q[t]? with
   |none=>rw[h1,h2]at hs;simp at hs
   |some b=>
    rw[h1,h2]at hs;simp at hs;subst hs;have:=((Uz _ (hf (zJ h1) (zJ h2))).2 n).1 hm;rcases(X4 ..).1 this with h|h
    ·exact .inl ⟨a,rfl,h⟩
    ·exact .inr ⟨b,rfl,h⟩
 ·intro h;have z1:t<T:=by
   rcases h with⟨s,hs,_⟩|⟨s,hs,_⟩
   ·rw[←hp.1];exact(zE.1 hs).1
   ·rw[←hq.1];exact(zE.1 hs).1
  have h1:t<p.length:=by rw[hp.1];exact z1
  have h2:t<q.length:=by rw[hq.1];exact z1
  rw[zI h1,zI h2]at h ⊢;refine⟨_,rfl,((Uz _ (hf (zK h1) (zK h2))).2 n).2 ((X4 ..).2 ?_)⟩;rcases h with⟨s,hs,hm⟩|⟨s,hs,hm⟩
  ·cases hs;exact .inl hm
  ·cases hs;exact .inr hm
theorem Jn{T:Nat}{p q:Prd}(hp:PWf T p)(hq:PWf T q):PWf T (Wp p q):=by
 refine⟨by simp[Wp,hp.1,hq.1],fun s hs=> ?_⟩;obtain⟨i,hi⟩:=yK.1 hs;have z1:=hi;unfold Wp at hi;rw[vv]at hi;cases h1:p[i]? with
 |none=>rw[h1]at hi;simp at hi
 |some a=>
  cases h2:q[i]? with
  |none=>rw[h1,h2]at hi;simp at hi
  |some b=>
   rw[h1,h2]at hi;simp at hi;subst hi;refine⟨(Uz _ fun x hx=> ?_).1,fun n hn=> ?_⟩
   ·rcases zV.1 hx with hx|hx
    ·exact(hp.2 _ (zJ h1)).1.1 x hx
    ·exact(hq.2 _ (zJ h2)).1.1 x hx
   ·rcases(Aj hp hq i n).1 ⟨_,z1,hn⟩with h|h
    ·exact(hp.lt h).2
    ·exact(hq.lt h).2
def Nq(Q:List (List Int))(x:List Int):Option Nat:=Q.findIdx? fun y=>decide (y=x)
theorem H4{Q:List (List Int)}{x:List Int}{t:Nat}(h:Nq Q x=some t):Q[t]? =some x:=by unfold Nq at h;obtain⟨h1,h2,_⟩:=xA.1 h;rw[zI h1];simpa using h2
theorem w1k{Q:List (List Int)}(hn:Q.Nodup){t:Nat}{x:List Int}(h:Q[t]? =some x):Nq Q x=some t:=by
 unfold Nq;obtain⟨h1,h2⟩:=zE.1 h;refine xA.2 ⟨h1,by simpa using h2,fun j hj=> ?_⟩;have z1:Q[j]≠Q[t]:=fun e=>by have:=(vM hn).1 e;omega
 rw[h2]at z1;simpa using z1
def Et(n:Nat)(g:List Mv)(to:Nat)(c:Prd):List Mv:=match g.findIdx? fun m:Mv=>decide (m.dst=(to:Int))with
 |none=>g++[⟨n,to,c⟩]
 |some i=>match g[i]? with
  |some m=>g.set i { m with on:=Wp m.on c }
  |none=>g
def J6(a:Aut)(cl:List Prd)(Q:List (List Int))(n:Nat)(l:List Int):List Mv:=
 cl.foldl (fun g c=>match Nq Q (Wb a l (Qm c))with|some t=>Et n g t c|none=>g) []
def Mw(a:Aut)(cl:List Prd)(Q:List (List Int)):List Mv:=(yJ Q.length).flatMap fun n=>J6 a cl Q n (Q.getD n [])
def Ib(a:Aut)(l:List Int):Bool:=l.any fun s=>a.fin.getD s.toNat false
def Yq(a:Aut)(cl:List Prd)(Q:List (List Int)):Aut:=⟨a.types,Q.map (Ib a),Mw a cl Q⟩
structure MInv (T N n:Nat) (D:Nat→Nat→Int→Prop) (g:List Mv):Prop where
 wf:∀m∈g,PWf T m.on
 src:∀m∈g,m.src=n
 dst:∀m∈g,∃t:Nat,t<N∧m.dst=t
 nd:g.Pairwise (fun m k=>m.dst≠k.dst)
 mem:∀m∈g,∀t:Nat,m.dst=t→∀ty y,PM m.on ty y↔D t ty y
 all:∀t ty y,D t ty y→∃m∈g,m.dst=(t:Int)
theorem MInv.add{T N n:Nat}{D:Nat→Nat→Int→Prop}{g:List Mv}(h:MInv T N n D g){to:Nat}(ht:to<N){c:Prd}(hc:PWf T c)(zh:∃ty y,PM c ty y):
  MInv T N n (fun t ty y=>D t ty y∨(t=to∧PM c ty y)) (Et n g to c):=by
 unfold Et;cases hf:g.findIdx? fun m:Mv=>decide (m.dst=(to:Int))with
 |none=>
  rw[List.findIdx?_eq_none_iff]at hf;have z7:∀m∈g,m.dst≠(to:Int):=fun m hm=>by simpa using hf m hm
  show MInv T N n _ (g++[⟨n,to,c⟩]);have z1:∀m∈g++[(⟨n,to,c⟩:Mv)],m∈g∨m=⟨n,to,c⟩:=fun m hm=>by
   rcases zV.1 hm with hm|hm
   ·exact .inl hm
   ·exact .inr (zT.1 hm)
  have hD:∀ty y,¬D to ty y:=fun ty y hd=>by obtain⟨m,hm,e⟩:=h.all to ty y hd;exact z7 m hm e
  refine⟨fun m hm=> ?_,fun m hm=> ?_,fun m hm=> ?_,?_,fun m hm t e ty y=> ?_,fun t ty y hd=> ?_⟩
  ·rcases z1 m hm with hm|rfl
   ·exact h.wf m hm
   ·exact hc
  ·rcases z1 m hm with hm|rfl
   ·exact h.src m hm
   ·rfl
  ·rcases z1 m hm with hm|rfl
   ·exact h.dst m hm
   ·exact⟨to,ht,rfl⟩
  ·exact yI.2 ⟨h.nd,by simp,fun m hm k hk=>by obtain rfl:=zT.1 hk;exact z7 m hm⟩
  ·rcases z1 m hm with hm'|rfl
   ·rw[h.mem m hm' t e];constructor
    ·exact fun hd=> .inl hd
    ·rintro(hd|⟨e2,_⟩)
     ·exact hd
     ·exact absurd (by rw[e,e2]) (z7 m hm')
   ·have:t=to:=by simp at e;omega
    subst this;constructor
    ·exact fun hd=> .inr ⟨rfl,hd⟩
    ·rintro(hd|⟨_,hd⟩)
     ·exact absurd hd (hD ty y)
     ·exact hd
  ·rcases hd with hd|⟨rfl,_⟩
   ·obtain⟨m,hm,e⟩:=h.all t ty y hd;exact⟨m,by simp[hm],e⟩
   ·exact⟨⟨n,t,c⟩,by simp,rfl⟩
 |some i=>
  obtain⟨hi,zf,_⟩:=xA.1 hf;simp only[zI hi];have z6:g[i].dst=(to:Int):=by simpa using zf
  have z8:=zK hi;have hw:=h.wf _ z8;have z1:∀m∈g.set i { g[i]with on:=Wp g[i].on c },(m∈g∧m.dst≠(to:Int))∨m={ g[i]with on:=Wp g[i].on c }:=fun m hm=>by
   obtain⟨j,hj⟩:=yK.1 hm;by_cases hij:i=j
   ·subst hij;rw[zL hi]at hj;exact .inr (Option.some.inj hj).symm
   ·rw[zB hij]at hj;obtain⟨zc,zd⟩:=zE.1 hj;refine .inl ⟨zJ hj,fun e=> ?_⟩;rcases ur hij with hlt|hgt
    ·exact yR.1 h.nd i j hi zc hlt (by rw[zd,e,z6])
    ·exact yR.1 h.nd j i zc hi hgt (by rw[zd,e,z6])
  refine⟨fun m hm=> ?_,fun m hm=> ?_,fun m hm=> ?_,?_,fun m hm t e ty y=> ?_,fun t ty y hd=> ?_⟩
  ·rcases z1 m hm with⟨hm,_⟩|rfl
   ·exact h.wf m hm
   ·exact Jn hw hc
  ·rcases z1 m hm with⟨hm,_⟩|rfl
   ·exact h.src m hm
   ·have:=h.src g[i] z8;simpa using this
  ·rcases z1 m hm with⟨hm,_⟩|rfl
   ·exact h.dst m hm
   ·exact⟨to,ht,z6⟩
  ·have za:(g.set i { g[i]with on:=Wp g[i].on c }).map (·.dst)=g.map (·.dst):=by
    apply List.ext_getElem?;intro j;rw[zX,zX];by_cases hij:i=j
    ·subst hij;rw[zL hi,zI hi];rfl
    ·rw[zB hij]
   have hp:(g.map (·.dst)).Pairwise (·≠·):=wJ.2 h.nd;rw[←za]at hp;exact wJ.1 hp
  ·rcases z1 m hm with⟨hm,zg⟩|rfl
   ·rw[h.mem m hm t e];constructor
    ·exact fun hd=> .inl hd
    ·rintro(hd|⟨rfl,_⟩)
     ·exact hd
     ·exact absurd e zg
   ·have:t=to:=by simp only at e;omega
    subst this;have zb:=Aj hw hc ty y;have ze:=h.mem _ z8 t z6 ty y;constructor
    ·intro hd;rcases zb.1 hd with hd|hd
     ·exact .inl (ze.1 hd)
     ·exact .inr ⟨rfl,hd⟩
    ·rintro(hd|⟨_,hd⟩)
     ·exact zb.2 (.inl (ze.2 hd))
     ·exact zb.2 (.inr hd)
  ·rcases hd with hd|⟨rfl,_⟩
   ·obtain⟨m,hm,e⟩:=h.all t ty y hd;obtain⟨j,hj⟩:=yK.1 hm;by_cases hij:i=j
    ·subst hij;rw[zI hi]at hj;cases hj;exact⟨_,zJ (zL hi),e⟩
    ·exact⟨m,zJ (by rw[zB hij];exact hj),e⟩
   ·exact⟨_,zJ (zL hi),z6⟩
theorem MInv.congr{T N n:Nat}{D D':Nat→Nat→Int→Prop}{g:List Mv}(h:MInv T N n D g)(e:∀t ty y,D t ty y↔D' t ty y):MInv T N n D' g:=by have:D=D':=funext fun t=>funext fun ty=>funext fun y=>propext (e t ty y);rw[←this];exact h
theorem Af{T:Nat}{a:Aut}{cl:List Prd}{Q:List (List Int)}(n:Nat)(l:List Int)(hw:∀c∈cl,PWf T c∧∃ty y,PM c ty y):
  MInv T Q.length n (fun t ty y=>∃c∈cl,Nq Q (Wb a l (Qm c))=some t∧PM c ty y) (J6 a cl Q n l):=by
 have key:∀(r:List Prd) (D:Nat→Nat→Int→Prop) (g:List Mv),MInv T Q.length n D g→(∀c∈r,PWf T c∧∃ty y,PM c ty y)→
   MInv T Q.length n (fun t ty y=>D t ty y∨∃c∈r,Nq Q (Wb a l (Qm c))=some t∧PM c ty y) (r.foldl (fun g c=>match Nq Q (Wb a l (Qm c))with|some t=>Et n g t c|none=>g) g):=by
  intro r;induction r with
  |nil=>intro D g h _;exact h.congr (fun t ty y=>by simp)
  |cons c r ih=>
   intro D g h hr;rw[xZ];cases hx:Nq Q (Wb a l (Qm c))with
   |none=>refine(ih D g h (fun d hd=>hr d (by simp[hd]))).congr (fun t ty y=> ?_);simp[hx]
   |some to=>
    have z1:=(zE.1 (H4 hx)).1;have hc:=hr c (by simp);refine(ih _ _ (h.add z1 hc.1 hc.2) (fun d hd=>hr d (by simp[hd]))).congr (fun t ty y=> ?_);simp only[yE,exists_eq_or_imp,hx,Option.some.injEq,or_assoc];constructor
    ·rintro(h|⟨e,h⟩|h)
     ·exact .inl h
     ·exact .inr (.inl ⟨e.symm,h⟩)
     ·exact .inr (.inr h)
    ·rintro(h|⟨e,h⟩|h)
     ·exact .inl h
     ·exact .inr (.inl ⟨e.symm,h⟩)
     ·exact .inr (.inr h)
 have h0:MInv T Q.length n (fun _ _ _=>False) []:=⟨by simp,by simp,by simp,by simp,by simp,fun _ _ _ h=>h.elim⟩
 exact(key cl _ [] h0 hw).congr (fun t ty y=>by simp)
end Go.Abs
namespace Go.Abs
structure Cls (a:Aut) (cl:List Prd):Prop where
 ok:OkA a
 prts:Prts a.types.toNat (a.mv.map (·.on)) cl
 wf:∀c∈cl,PWf a.types.toNat c∧∃ty y,PM c ty y
theorem u1v{a:Aut}(h:OkA a):Cls a (Q0 a.types.toNat (a.mv.map (·.on))):=by
 have hT:0<a.types.toNat:=by have:=h.types;omega
 have hp:=(U1 hT (l:=a.mv.map (·.on)) (fun p hp=>by obtain⟨m,hm,rfl⟩:=zR.1 hp;exact(h.mv m hm).on)).1;exact⟨h,hp,fun c hc=>⟨hp.wf c hc,hp.ne c hc⟩⟩
def Ru(a:Aut)(x:Sy):Prop:=(0≤x.ty∧x.ty<a.types)∧inR x.num
theorem k0e{a:Aut}{l:List Int}{x y:Sy}(h:∀m∈a.mv,T0 m.on x=T0 m.on y):Wb a l x=Wb a l y:=by
 refine Un (Ur ..) (Ur ..) fun z=> ?_;rw[E5,E5];constructor
 ·rintro⟨h1,m,hm,h2,h3,h4⟩;exact⟨h1,m,hm,h2,by rw[←h m hm];exact h3,h4⟩
 ·rintro⟨h1,m,hm,h2,h3,h4⟩;exact⟨h1,m,hm,h2,by rw[h m hm];exact h3,h4⟩
theorem Cls.of{a:Aut}{cl:List Prd}(h:Cls a cl){x:Sy}(hx:Ru a x):∃c∈cl,PM c x.ty.toNat x.num∧∀l,Wb a l x=Wb a l (Qm c):=by obtain⟨c,hc,hm⟩:=h.prts.all x.ty.toNat x.num (by have:=hx.1;omega) hx.2;refine⟨c,hc,hm,fun l=>k0e fun m z1=> ?_⟩;have h1:=(Wz (h.wf c hc).1 (h.wf c hc).2).1;have h2:=((h.prts.cls c hc _ _ hm _ _).1 h1).2.2 m.on (zR.2 ⟨m,z1,rfl⟩);have hl:=(h.ok.mv m z1).on.1;rw[xU,R5 hl x hx.1.1,R5 hl (Qm c) (by simp[Qm])];simpa[Qm]using h2
theorem Cls.same{a:Aut}{cl:List Prd}(h:Cls a cl){c:Prd}(hc:c∈cl){x:Sy}(hx:Ru a x)(hm:PM c x.ty.toNat x.num)(l:List Int):Wb a l x=Wb a l (Qm c):=by obtain⟨d,hd,z1,e⟩:=h.of hx;rw[e l,h.prts.disj hd hc z1 hm]
structure Sub (a:Aut) (cl:List Prd) (Q:List (List Int)):Prop where
 first:Q[0]? =some [0]
 nd:Q.Nodup
 ne:∀l∈Q,l≠[]
 lim:Q.length≤256
 elem:∀l∈Q,l.Pairwise (·<·)∧∀s∈l,0≤s∧s<a.fin.length
 closed:∀l∈Q,∀c∈cl,Wb a l (Qm c)=[]∨Wb a l (Qm c)∈Q
theorem y07{Q:List (List Int)}{x:List Int}(h:Q.Nodup):(Se Q x).Nodup:=by
 unfold Se;split
 ·exact h
 ·rename_i hx;exact List.nodup_append.2 ⟨h,by simp,fun a ha b hb e=>by
   obtain rfl:=zT.1 hb;subst e;exact hx (.inr ha)⟩
theorem Dp:∀(xs:List (List Int)) {Q:List (List Int)},Q.Nodup→(W5 Q xs).Nodup
 |[],_,h=>h
 |x::xs,Q,h=>Dp xs (y07 (x:=x) h)
theorem k0y{a:Aut}(ha:OkA a)(cl:List Prd):∀(f i:Nat) (Q R:List (List Int)),Xa a cl f i Q=some R→Q[0]? =some [0]→Q.Nodup→(∀l∈Q,l≠[])→Q.length≤256→(∀l∈Q,l.Pairwise (·<·)∧∀s∈l,0≤s∧s<a.fin.length)→
  (∀j,j<i→∀l,Q[j]? =some l→∀c∈cl,Wb a l (Qm c)=[]∨Wb a l (Qm c)∈Q)→Sub a cl R
 |0,_,_,_,h,_,_,_,_,_,_=>by cases h
 |f+1,i,Q,R,h,h1,h2,h3,h4,h5,h6=>by
  rw[Xa]at h;cases hq:Q[i]? with
  |none=>rw[hq]at h;simp only[Option.some.injEq]at h;subst h;have hi:Q.length≤i:=List.getElem?_eq_none_iff.1 hq;refine⟨h1,h2,h3,h4,h5,fun l hl c hc=> ?_⟩;obtain⟨j,hj⟩:=yK.1 hl;exact h6 j (by have:=(zE.1 hj).1;omega) l hj c hc
  |some l=>
   rw[hq]at h;simp only at h;by_cases hlim:256<(W5 Q (Ey a cl l)).length
   ·rw[if_pos hlim]at h;cases h
   ·rw[if_neg hlim]at h;obtain⟨X,hX,z6⟩:=Ul (Ey a cl l) Q;have hlen:0<Q.length:=(zE.1 h1).1;have z1:∀y∈W5 Q (Ey a cl l),y∈Q∨(y≠[]∧∃c∈cl,y=Wb a l (Qm c)):=fun y hy=>by
     rw[hX]at hy;rcases zV.1 hy with hy|hy
     ·exact .inl hy
     ·obtain⟨p1,p2⟩:=z6 y hy;obtain⟨c,hc,rfl⟩:=zR.1 p1;exact .inr ⟨p2,c,hc,rfl⟩
    refine k0y ha cl f (i+1) _ R h ?_ (Dp _ h2) ?_ (by omega) ?_ ?_
    ·rw[hX,zF hlen];exact h1
    ·intro y hy;rcases z1 y hy with hy|⟨hy,_⟩
     ·exact h3 y hy
     ·exact hy
    ·intro y hy;rcases z1 y hy with hy|⟨_,c,_,rfl⟩
     ·exact h5 y hy
     ·exact⟨Ur ..,Ow⟩
    ·intro j hj k hk c hc;by_cases hji:j<i
     ·have z7:j<Q.length:=by have:=(zE.1 hq).1;omega
      rw[hX,zF z7]at hk;rcases h6 j hji k hk c hc with h7|h7
      ·exact .inl h7
      ·right;rw[hX];exact xE _ h7
     ·have:j=i:=by omega
      subst this;rw[hX,zF (zE.1 hq).1,hq]at hk;cases hk;by_cases hn:Wb a l (Qm c)=[]
      ·exact .inl hn
      ·exact .inr (K1 (zR.2 ⟨c,hc,rfl⟩) hn)
def Kq(a:Aut)(cl:List Prd):Option (List (List Int)):=Xa a cl 257 0 [[0]]
theorem d06{a:Aut}(ha:OkA a){cl:List Prd}{Q:List (List Int)}(h:Kq a cl=some Q):Sub a cl Q:=
 k0y ha cl 257 0 [[0]] Q h rfl (by simp) (by simp) (by simp) (by intro l hl;obtain rfl:=zT.1 hl;exact⟨by simp,fun s hs=>by obtain rfl:=zT.1 hs;have:=ha.fin;omega⟩) (fun j hj=>by omega)
theorem Sub.step{a:Aut}{cl:List Prd}{Q:List (List Int)}(hs:Sub a cl Q)(hc:Cls a cl){l:List Int}(hl:l∈Q){x:Sy}(hx:Ru a x):Wb a l x=[]∨Wb a l x∈Q:=by obtain⟨c,h1,_,h3⟩:=hc.of hx;rw[h3 l];exact hs.closed l hl c h1
theorem I3{a:Aut}{cl:List Prd}{Q:List (List Int)}{m:Mv}:m∈Mw a cl Q↔∃n l,Q[n]? =some l∧m∈J6 a cl Q n l:=by
 unfold Mw;rw[wS];constructor
 ·rintro⟨n,hn,hm⟩;have z1:=yW.1 hn;refine⟨n,Q[n],zI z1,?_⟩;simpa[yV,z1]using hm
 ·rintro⟨n,l,hl,hm⟩;have z1:=(zE.1 hl).1;refine⟨n,yW.2 z1,?_⟩;simpa[yV,hl]using hm
theorem Fm{a:Aut}{cl:List Prd}{Q:List (List Int)}(hc:Cls a cl)(hs:Sub a cl Q){n:Nat}{l:List Int}(hl:Q[n]? =some l){x:Sy}(hx:Ru a x)(t:Nat):
  (∃m∈Mw a cl Q,m.src=(n:Int)∧m.dst=(t:Int)∧T0 m.on x=true)↔Q[t]? =some (Wb a l x):=by
 have hg:=Af (a:=a) (Q:=Q) n l hc.wf;have key:Nq Q (Wb a l x)=some t↔Q[t]? =some (Wb a l x):=⟨H4,w1k hs.nd⟩
 rw[←key];constructor
 ·rintro⟨m,hm,h1,h2,h3⟩;obtain⟨n',l',hl',z6⟩:=I3.1 hm;have z7:=Af (a:=a) (Q:=Q) n' l' hc.wf;have:n'=n:=by have:=z7.src m z6;omega
  subst this;rw[hl]at hl';cases hl';rw[R5 (hg.wf m z6).1 x hx.1.1]at h3;obtain⟨c,z1,e1,e2⟩:=(hg.mem m z6 t h2 _ _).1 h3;rw[hc.same z1 hx e2];exact e1
 ·intro h;obtain⟨c,z1,e1,e2⟩:=hc.of hx;rw[e2]at h;obtain⟨m,hm,hd⟩:=hg.all t _ _ ⟨c,z1,h,e1⟩;refine⟨m,I3.2 ⟨n,l,hl,hm⟩,hg.src m hm,hd,?_⟩;rw[R5 (hg.wf m hm).1 x hx.1.1];exact(hg.mem m hm t hd _ _).2 ⟨c,z1,h,e1⟩
theorem u1f{a:Aut}{cl:List Prd}{Q:List (List Int)}(hc:Cls a cl)(hs:Sub a cl Q){n:Nat}{l:List Int}(hl:Q[n]? =some l){x:Sy}(hx:Ru a x):
  (Wb a l x=[]∧Wb (Yq a cl Q) [(n:Int)] x=[])∨∃t:Nat,Q[t]? =some (Wb a l x)∧Wb (Yq a cl Q) [(n:Int)] x=[(t:Int)]:=by
 have z1:∀j,j∈Wb (Yq a cl Q) [(n:Int)] x↔∃t:Nat,j=t∧Q[t]? =some (Wb a l x):=fun j=>by
  rw[E5];constructor
  ·rintro⟨⟨h1,h2⟩,m,hm,h3,h4,h5⟩;refine⟨j.toNat,by omega,(Fm hc hs hl hx j.toNat).1 ⟨m,hm,zT.1 h3,by omega,h4⟩⟩
  ·rintro⟨t,rfl,ht⟩;obtain⟨m,hm,h1,h2,h3⟩:=(Fm hc hs hl hx t).2 ht;have:=(zE.1 ht).1;exact⟨⟨by omega,by simp[Yq];omega⟩,m,hm,by rw[h1];simp,h3,h2⟩
 rcases hs.step hc (zJ hl) hx with h0|h0
 ·refine .inl ⟨h0,vK.2 fun j hj=> ?_⟩;obtain⟨t,_,ht⟩:=(z1 j).1 hj;rw[h0]at ht;exact hs.ne _ (zJ ht) rfl
 ·obtain⟨t,ht⟩:=yK.1 h0;refine .inr ⟨t,ht,Un (Ur ..) (by simp) fun z=> ?_⟩;rw[z1 z];constructor
  ·rintro⟨u,rfl,hu⟩;obtain⟨h1,h2⟩:=zE.1 ht;obtain⟨h3,h4⟩:=zE.1 hu;have:u=t:=(vM hs.nd).1 (by rw[h4,h2]);simp[this]
  ·intro hz;exact⟨t,zT.1 hz,ht⟩
def Cm(a:Aut)(l:List Int)(w:List Sy):List Int:=w.foldl (Wb a) l
def M4(a:Aut)(w:List Sy):Bool:=Ib a (Cm a [0] w)
theorem Md(a:Aut):∀w,Cm a [] w=[]
 |[]=>rfl
 |x::w=>by
  show Cm a (Wb a [] x) w=[]
  have:Wb a [] x=[]:=vK.2 fun j hj=>by obtain⟨_,m,_,h,_⟩:=E5.1 hj;cases h
  rw[this,Md a w]
theorem c02{a:Aut}{cl:List Prd}{Q:List (List Int)}(hc:Cls a cl)(hs:Sub a cl Q):∀(w:List Sy),(∀x∈w,Ru a x)→∀(n:Nat) (l:List Int),Q[n]? =some l→
  (Cm a l w=[]∧Cm (Yq a cl Q) [(n:Int)] w=[])∨∃t:Nat,Q[t]? =some (Cm a l w)∧Cm (Yq a cl Q) [(n:Int)] w=[(t:Int)]
 |[],_,n,l,hl=> .inr ⟨n,hl,rfl⟩
 |x::w,hw,n,l,hl=>by
  show(Cm a (Wb a l x) w=[]∧Cm (Yq a cl Q) (Wb (Yq a cl Q) [(n:Int)] x) w=[])∨∃t:Nat,Q[t]? =some (Cm a (Wb a l x) w)∧Cm (Yq a cl Q) (Wb (Yq a cl Q) [(n:Int)] x) w=[(t:Int)]
  rcases u1f hc hs hl (hw x (by simp))with⟨h1,h2⟩|⟨t,h1,h2⟩
  ·rw[h1,h2];exact .inl ⟨Md _ _,Md _ _⟩
  ·rw[h2];exact c02 hc hs w (fun y hy=>hw y (by simp[hy])) t _ h1
theorem j1v{a:Aut}{cl:List Prd}{Q:List (List Int)}(hc:Cls a cl)(hs:Sub a cl Q){w:List Sy}(hw:∀x∈w,Ru a x):M4 (Yq a cl Q) w=M4 a w:=by
 unfold M4;rcases c02 hc hs w hw 0 [0] hs.first with⟨h1,h2⟩|⟨t,h1,h2⟩
 ·have z1:Cm (Yq a cl Q) [0] w=[]:=h2;rw[h1,z1];rfl
 ·have z1:Cm (Yq a cl Q) [0] w=[(t:Int)]:=h2;rw[z1];simp only[Ib,Yq,List.any_cons,List.any_nil,Bool.or_false,Int.toNat_natCast,yV,zX,h1,Option.map_some,Option.getD_some]
def Dk(a:Aut):Prop:=a.mv.Pairwise (fun m k=>m.src=k.src→∀x:Sy,Ru a x→¬(T0 m.on x=true∧T0 k.on x=true))
theorem u0z{a:Aut}{cl:List Prd}{Q:List (List Int)}(hc:Cls a cl)(hs:Sub a cl Q):Dk (Yq a cl Q):=by
 unfold Dk;show(Mw a cl Q).Pairwise _;unfold Mw;rw[u7];constructor
 ·intro n hn;have z1:=yW.1 hn;have hl:Q[n]? =some Q[n]:=zI z1;have hg:Q.getD n []=Q[n]:=by simp[yV,z1]
  rw[hg];have hi:=Af (a:=a) (Q:=Q) n Q[n] hc.wf;refine hi.nd.imp_of_mem (fun {m k} hm hk hne _ x hx=> ?_);rintro⟨h1,h2⟩;obtain⟨t1,_,e1⟩:=hi.dst m hm;obtain⟨t2,_,e2⟩:=hi.dst k hk;have z6:Ru a x:=hx;have d1:=(Fm hc hs hl z6 t1).1 ⟨m,I3.2 ⟨n,_,hl,hm⟩,hi.src m hm,e1,h1⟩;have d2:=(Fm hc hs hl z6 t2).1 ⟨k,I3.2 ⟨n,_,hl,hk⟩,hi.src k hk,e2,h2⟩;obtain⟨p1,p2⟩:=zE.1 d1;obtain⟨p3,p4⟩:=zE.1 d2;have:t1=t2:=(vM hs.nd).1 (by rw[p2,p4]);exact hne (by rw[e1,e2,this])
 ·refine List.pairwise_lt_range.imp (fun {i j} hij m hm k hk e=> ?_);exfalso;have h1:∀n m,m∈J6 a cl Q n (Q.getD n [])→m.src=(n:Int):=fun n m hm=>(Af (a:=a) (Q:=Q) n _ hc.wf).src m hm;have:=h1 i m hm;have:=h1 j k hk;omega
end Go.Abs
namespace Go.Abs
theorem Pm{l:List Iv}(h:Sep l)(hb:∀n,M l n→inR n):Sep (W2 l)∧(∀n,M (W2 l) n↔inR n∧¬M l n)∧(W2 l).length≤l.length+1:=by
 have z1:∀x∈l,inR x.lo∧inR x.hi:=fun x hx=>⟨hb _ ⟨x,hx,xH _,h.1 x hx⟩,hb _ ⟨x,hx,h.1 x hx,xH _⟩⟩
 have:=Ip l (-1099511627776) (fun x hx=>⟨h.1 x hx,(z1 x hx).2.2⟩) h.2 (fun x hx=>(z1 x hx).1.1);exact⟨this.1,fun n=>by rw[W2,this.2.1,inR,and_assoc],this.2.2⟩
theorem w0i{T:Nat}{p:Prd}(hp:PWf T p)(t:Nat)(n:Int):PM (W8 p) t n↔(t<T∧inR n)∧¬PM p t n:=by
 unfold PM W8;rw[zX];constructor
 ·rintro⟨s,hs,hm⟩;obtain⟨a,ha,rfl⟩:=zU.1 hs;have hw:=hp.2 a (zJ ha);have hg:=((Pm hw.1 hw.2).2.1 n).1 hm;refine⟨⟨by rw[←hp.1];exact(zE.1 ha).1,hg.1⟩,?_⟩;rintro⟨b,hb,z1⟩;rw[ha]at hb;cases hb;exact hg.2 z1
 ·rintro⟨⟨h1,h2⟩,h3⟩;have hl:t<p.length:=by rw[hp.1];exact h1
  have hw:=hp.2 _ (zK hl);exact⟨W2 p[t],by rw[zI hl];rfl,((Pm hw.1 hw.2).2.1 n).2 ⟨h2,fun hm=>h3 ⟨_,zI hl,hm⟩⟩⟩
theorem Pn{T:Nat}{p:Prd}(hp:PWf T p):PWf T (W8 p):=⟨by simp[W8,hp.1],fun s hs=>by
 obtain⟨a,ha,rfl⟩:=zR.1 hs;have hw:=hp.2 a ha;exact⟨(Pm hw.1 hw.2).1,fun n hn=>(((Pm hw.1 hw.2).2.1 n).1 hn).1⟩⟩
def U5(T:Nat)(ps:List Prd):Prd:=(yJ T).map fun i=>W4 (Qv ps i)
theorem Zs{T:Nat}{ps:List Prd}(h:∀p∈ps,PWf T p)(i:Nat):∀x∈Qv ps i,x.lo≤x.hi:=fun x hx=>by
 obtain⟨p,hp,hx⟩:=Tc.1 hx;have hm:p.getD i []=[]∨p.getD i []∈p:=by
  by_cases hi:i<p.length
  ·exact .inr (by rw[Wo hi];exact zK hi)
  ·exact .inl (by simp[yV,hi])
 rcases hm with e|hm
 ·rw[e]at hx;cases hx
 ·exact((h p hp).2 _ hm).1.1 x hx
theorem Cv{T:Nat}{ps:List Prd}(h:∀p∈ps,PWf T p)(t:Nat)(n:Int):PM (U5 T ps) t n↔∃p∈ps,PM p t n:=by
 unfold PM U5;rw[zX];constructor
 ·rintro⟨s,hs,hm⟩;obtain⟨i,hi,rfl⟩:=zU.1 hs;obtain⟨z6,e⟩:=zE.1 hi;rw[List.getElem_range]at e;subst e;obtain⟨x,hx,h1⟩:=((Uz _ (Zs h t)).2 n).1 hm;obtain⟨p,hp,hx⟩:=Tc.1 hx;have ht:t<T:=by simpa using z6
  have z1:t<p.length:=by rw[(h p hp).1];exact ht
  rw[Wo z1]at hx;exact⟨p,hp,p[t],zI z1,x,hx,h1⟩
 ·rintro⟨p,hp,s,hs,x,hx,h1⟩;obtain⟨z1,e⟩:=zE.1 hs;have ht:t<T:=by rw[←(h p hp).1];exact z1
  refine⟨W4 (Qv ps t),by simp[ht],((Uz _ (Zs h t)).2 n).2 ⟨x,Tc.2 ⟨p,hp,?_⟩,h1⟩⟩;rw[Wo z1,e];exact hx
theorem Zd{T:Nat}{ps:List Prd}(h:∀p∈ps,PWf T p):PWf T (U5 T ps):=by
 refine⟨by simp[U5],fun s hs=> ?_⟩;obtain⟨i,hi,rfl⟩:=zR.1 hs;refine⟨(Uz _ (Zs h i)).1,fun n hn=> ?_⟩;have:PM (U5 T ps) i n:=⟨W4 (Qv ps i),by simp[U5,yW.1 hi],hn⟩
 obtain⟨p,hp,hm⟩:=(Cv h i n).1 this;exact((h p hp).lt hm).2
theorem k11{T:Nat}{c:Prd}(h:PWf T c):U5 T [c]=c:=
 Pp (Zd (by simpa using h)) h fun t n=>by rw[Cv (by simpa using h)];simp
theorem k14{T:Nat}{p q:Prd}(hp:PWf T p)(hq:PWf T q):U5 T [p,q]=Wp p q:=by
 have h:∀x∈[p,q],PWf T x:=fun x hx=>by
  rcases yE.1 hx with rfl|hx
  ·exact hp
  ·obtain rfl:=zT.1 hx;exact hq
 exact Pp (Zd h) (Jn hp hq) fun t n=>by rw[Cv h,Aj hp hq];simp
def H6(a:Aut)(s:Int):List Prd:=(a.mv.filter fun m=>decide (m.src=s)).map (·.on)
def Wl(a:Aut)(s:Int):Prd:=W8 (U5 a.types.toNat (H6 a s))
def O6(a:Aut)(s:Int):Prd:=(H6 a s).foldl (fun r p=>Wg r (W8 p)) (W3 a.types.toNat)
structure WfA (a:Aut):Prop where
 types:1≤a.types∧a.types≤16
 fin:1≤a.fin.length
 src:∀m∈a.mv,0≤m.src∧m.src<a.fin.length
 dst:∀m∈a.mv,0≤m.dst∧m.dst<a.fin.length
 on:∀m∈a.mv,PWf a.types.toNat m.on
theorem OkA.wfA{a:Aut}(h:OkA a):WfA a:=⟨h.types,h.fin.1,fun m hm=>(h.mv m hm).src,fun m hm=>(h.mv m hm).dst,fun m hm=>(h.mv m hm).on.wf⟩
theorem Lj{a:Aut}(h:WfA a)(s:Int):∀p∈H6 a s,PWf a.types.toNat p:=fun p hp=>by obtain⟨m,hm,rfl⟩:=zR.1 hp;exact h.on m (xL.1 hm).1
theorem A6{a:Aut}(h:WfA a)(s:Int)(t:Nat)(n:Int):PM (Wl a s) t n↔(t<a.types.toNat∧inR n)∧∀p∈H6 a s,¬PM p t n:=by rw[Wl,w0i (Zd (Lj h s)),Cv (Lj h s)];simp
theorem Om{a:Aut}(h:WfA a)(s:Int):PWf a.types.toNat (Wl a s):=Pn (Zd (Lj h s))
theorem Cr{T:Nat}:∀(l:List Prd) (r:Prd),(∀p∈l,PWf T p)→PWf T r→PWf T (l.foldl (fun r p=>Wg r (W8 p)) r)∧
  ∀t n,PM (l.foldl (fun r p=>Wg r (W8 p)) r) t n↔PM r t n∧∀p∈l,¬PM p t n
 |[],r,_,hr=>⟨hr,fun t n=>by simp⟩
 |p::l,r,hl,hr=>by
  have hp:=hl p (by simp);obtain⟨h1,h2⟩:=Cr l (Wg r (W8 p)) (fun q hq=>hl q (by simp[hq])) (Tp hr (Pn hp).1);refine⟨h1,fun t n=> ?_⟩;rw[xZ,h2,Er hr.1 (Pn hp).1,w0i hp];constructor
  ·rintro⟨⟨a,b,c⟩,d⟩;refine⟨a,fun q hq=> ?_⟩;rcases yE.1 hq with rfl|hq
   ·exact c
   ·exact d q hq
  ·rintro⟨a,d⟩;exact⟨⟨a,hr.lt a,d p (by simp)⟩,fun q hq=>d q (by simp[hq])⟩
theorem Hw{a:Aut}(h:WfA a)(s:Int):O6 a s=Wl a s:=by obtain⟨h1,h2⟩:=Cr (H6 a s) (W3 a.types.toNat) (Lj h s) (Au _);exact Pp h1 (Om h s) fun t n=>by rw[O6,h2,A6 h,Ai]
theorem V1{a:Aut}(h:WfA a)(s:Int):Wd (Wl a s)=true↔∀t n,t<a.types.toNat→inR n→∃p∈H6 a s,PM p t n:=by
 rw[Rn (Om h s)];constructor
 ·intro hv t n ht hn;have:=hv t n;rw[A6 h]at this;by_cases hc:∃p∈H6 a s,PM p t n
  ·exact hc
  ·exact absurd ⟨⟨ht,hn⟩,fun p hp hm=>hc ⟨p,hp,hm⟩⟩ this
 ·intro hv t n;rw[A6 h];rintro⟨⟨ht,hn⟩,hx⟩;obtain⟨p,hp,hm⟩:=hv t n ht hn;exact hx p hp hm
def Ch(a:Aut):Bool:=decide (256<a.fin.length) || decide (2048<a.mv.length) || a.mv.any fun m=>m.on.any fun s=>decide (256<s.length)
theorem d0r{a:Aut}(h:WfA a):Wq a=0↔Ch a=false:=by
 rw[O5];unfold Ch;simp only[Bool.or_eq_false_iff,decide_eq_false_iff_not,wQ,decide_eq_true_eq];constructor
 ·rintro⟨h1,h2,h3,h4⟩;exact⟨⟨by omega,by omega⟩,fun m hm=>by
   simp only[uC,wQ,decide_eq_true_eq];exact fun s hs=>by have:=((h4 m hm).on.2 s hs).len;omega⟩
 ·rintro⟨⟨h1,h2⟩,h3⟩;refine⟨h.types,⟨h.fin,by omega⟩,by omega,fun m hm=>⟨h.src m hm,h.dst m hm,(h.on m hm).1,fun s hs=> ?_⟩⟩;have hw:=(h.on m hm).2 s hs;have:=h3 m hm;simp only[uC,wQ,decide_eq_true_eq]at this;exact Hz hw.1 (z0e hw.1 hw.2) (by have:=this s hs;omega)
def Zc(a:Aut):Int×Aut:=if Ch a then(5,Ys)else(0,a)
def Nr(a:Aut):Int×Aut:=if Wq a≠0 then(5,Ys)else(0,a)
theorem u1j{a:Aut}(h:WfA a):Nr a=Zc a:=by
 unfold Nr Zc;have:=d0r h;cases hb:Ch a
 ·rw[if_neg (fun k=>k (this.2 hb)),if_neg (by simp)]
 ·rw[if_pos (fun k=>by rw[this,hb]at k;cases k),if_pos rfl]
theorem d0k{a c:Aut}(h:WfA a)(hl:Zc a=(0,c)):c=a∧OkA a:=by
 unfold Zc at hl;cases hb:Ch a
 ·rw[hb,if_neg (by simp)]at hl;exact⟨(Prod.mk.inj hl).2.symm,(O5 a).1 ((d0r h).2 hb)⟩
 ·rw[hb,if_pos rfl]at hl;cases(Prod.mk.inj hl).1
end Go.Abs
namespace Go.Abs
def Es(a:Aut)(lack:Int→Prd):List Mv:=(yJ a.fin.length).filterMap fun s:Nat=>if Wd (lack s)then none else some ⟨s,a.fin.length,lack s⟩
def Ta(a:Aut):Aut:=⟨a.types,a.fin++[false],a.mv++Es a (Wl a)++[⟨a.fin.length,a.fin.length,W3 a.types.toNat⟩]⟩
def Pg(a:Aut):Int×Aut:=if(Es a (Wl a)).isEmpty then(0,a)else Zc (Ta a)
def Yt(a:Aut):Bool:=(yJ a.fin.length).all fun s:Nat=>Wd (O6 a s)
def d1k(a:Aut):Int×Aut:=if Yt a then(0,a)else Nr ⟨a.types,a.fin++[false],a.mv++Es a (O6 a)++[⟨a.fin.length,a.fin.length,W3 a.types.toNat⟩]⟩
theorem T7{a:Aut}{lack:Int→Prd}{m:Mv}:m∈Es a lack↔∃s:Nat,s<a.fin.length∧Wd (lack s)=false∧m=⟨s,a.fin.length,lack s⟩:=by
 unfold Es;rw[vI];constructor
 ·rintro⟨s,hs,h⟩;cases hv:Wd (lack s)
  ·rw[hv,if_neg (by simp)]at h;cases h;exact⟨s,yW.1 hs,hv,rfl⟩
  ·rw[hv,if_pos rfl]at h;cases h
 ·rintro⟨s,hs,hv,rfl⟩;exact⟨s,yW.2 hs,by rw[hv,if_neg (by simp)]⟩
theorem Ao{a:Aut}{lack:Int→Prd}:Es a lack=[]↔∀s:Nat,s<a.fin.length→Wd (lack s)=true:=by
 rw[vK];constructor
 ·intro h s hs;cases hv:Wd (lack s)
  ·exact absurd (T7.2 ⟨s,hs,hv,rfl⟩) (h _)
  ·rfl
 ·intro h m hm;obtain⟨s,hs,hv,_⟩:=T7.1 hm;rw[h s hs]at hv;cases hv
theorem d0o{a:Aut}(h:WfA a):WfA (Ta a):=by
 have z1:∀m∈(Ta a).mv,m∈a.mv∨(∃s:Nat,s<a.fin.length∧m=⟨s,a.fin.length,Wl a s⟩)∨m=⟨a.fin.length,a.fin.length,W3 a.types.toNat⟩:=fun m hm=>by
  rcases zV.1 hm with hm|hm
  ·rcases zV.1 hm with hm|hm
   ·exact .inl hm
   ·obtain⟨s,hs,_,e⟩:=T7.1 hm;exact .inr (.inl ⟨s,hs,e⟩)
  ·exact .inr (.inr (zT.1 hm))
 have hl:(Ta a).fin.length=a.fin.length+1:=by simp[Ta]
 refine⟨h.types,by rw[hl];omega,fun m hm=> ?_,fun m hm=> ?_,fun m hm=> ?_⟩
 ·rw[hl];rcases z1 m hm with hm|⟨s,hs,rfl⟩|rfl
  ·have:=h.src m hm;omega
  ·simp only;omega
  ·simp only;omega
 ·rw[hl];rcases z1 m hm with hm|⟨s,hs,rfl⟩|rfl
  ·have:=h.dst m hm;omega
  ·simp only;omega
  ·simp only;omega
 ·rcases z1 m hm with hm|⟨s,hs,rfl⟩|rfl
  ·exact h.on m hm
  ·exact Om h s
  ·exact Au _
theorem q25{a:Aut}(h:WfA a):d1k a=Pg a:=by
 have he:O6 a=Wl a:=funext fun s=>Hw h s;have hf:Yt a=(Es a (Wl a)).isEmpty:=by rw[xU,up,Ao,Yt,zW,he];simp
 unfold d1k Pg;rw[hf,he];split
 ·rfl
 ·exact u1j (d0o h)
def u06(a:Aut):Prop:=∀s:Int,0≤s→s<a.fin.length→∀x,Ru a x→∃m∈a.mv,m.src=s∧T0 m.on x=true
theorem w0o{a:Aut}{x:Sy}(h:Ru a x):x.ty.toNat<a.types.toNat∧inR x.num∧0≤x.ty:=⟨by have:=h.1;omega,h.2,h.1.1⟩
theorem Y1{a:Aut}(h:WfA a){m:Mv}(hm:m∈a.mv){x:Sy}(hx:Ru a x):T0 m.on x=true↔PM m.on x.ty.toNat x.num:=R5 (h.on m hm).1 x hx.1.1
theorem Zo{a:Aut}{s:Int}{p:Prd}:p∈H6 a s↔∃m∈a.mv,m.src=s∧m.on=p:=by
 unfold H6;rw[zR];constructor
 ·rintro⟨m,hm,e⟩;have:=xL.1 hm;exact⟨m,this.1,by simpa using this.2,e⟩
 ·rintro⟨m,hm,hs,e⟩;exact⟨m,xL.2 ⟨hm,by simpa using hs⟩,e⟩
theorem w08{a:Aut}(h:WfA a):Es a (Wl a)=[]↔u06 a:=by
 rw[Ao];constructor
 ·intro hv s h0 h1 x hx;have hs:=hv s.toNat (by omega);rw[show((s.toNat:Nat):Int)=s by omega,V1 h]at hs;obtain⟨k1,k2,_⟩:=w0o hx;obtain⟨p,hp,hm⟩:=hs _ _ k1 k2;obtain⟨m,z1,e,rfl⟩:=Zo.1 hp;exact⟨m,z1,e,(Y1 h z1 hx).2 hm⟩
 ·intro hf s hs;rw[V1 h];intro t n ht hn;have hx:Ru a ⟨t,n⟩:=⟨⟨by simp,by simp only;omega⟩,hn⟩
  obtain⟨m,hm,e,hh⟩:=hf s (by omega) (by omega) _ hx;exact⟨m.on,Zo.2 ⟨m,hm,e,rfl⟩,by have:=(Y1 h hm hx).1 hh;simpa using this⟩
theorem v1l{a:Aut}(h:WfA a):u06 (Ta a):=by
 intro s h0 h1 x hx;have z1:Ru a x:=hx;have hl:(Ta a).fin.length=a.fin.length+1:=by simp[Ta]
 obtain⟨k1,k2,_⟩:=w0o z1;by_cases hs:s<a.fin.length
 ·by_cases hp:∃p∈H6 a s,PM p x.ty.toNat x.num
  ·obtain⟨p,hp,hm⟩:=hp;obtain⟨m,z6,e,rfl⟩:=Zo.1 hp;exact⟨m,xE _ (xE _ z6),e,(Y1 h z6 z1).2 hm⟩
  ·have z7:PM (Wl a s) x.ty.toNat x.num:=(A6 h s _ _).2 ⟨⟨k1,k2⟩,fun p z8 hm=>hp ⟨p,z8,hm⟩⟩;have hv:Wd (Wl a s)=false:=by
    cases hv:Wd (Wl a s)
    ·rfl
    ·exact absurd z7 ((Rn (Om h s)).1 hv _ _)
   have e:((s.toNat:Nat):Int)=s:=by omega
   refine⟨⟨s,a.fin.length,Wl a s⟩,xE _ (ud _ (T7.2 ⟨s.toNat,by omega,by rw[e];exact hv,by rw[e]⟩)),rfl,?_⟩;exact(R5 (Om h s).1 x hx.1.1).2 z7
 ·refine⟨⟨a.fin.length,a.fin.length,W3 a.types.toNat⟩,ud _ (by simp),by simp only;omega,?_⟩;exact(R5 (Au _).1 x hx.1.1).2 ((Ai ..).2 ⟨k1,k2⟩)
theorem j1n{a:Aut}(h:WfA a)(hd:Dk a):Dk (Ta a):=by
 unfold Dk;show(a.mv++Es a (Wl a)++[_]).Pairwise _;rw[yI,yI];refine⟨⟨hd,?_,fun m hm k hk e x hx=> ?_⟩,by simp,fun m hm k hk e x hx=> ?_⟩
 ·unfold Es;rw[List.pairwise_filterMap];refine List.pairwise_lt_range.imp (fun {i j} hij m hm k hk e=> ?_);have z1:∀(i:Nat) (m:Mv),(if Wd (Wl a i)then none else some (⟨i,a.fin.length,Wl a i⟩:Mv))=some m→m.src=i:=fun i m hm=>by
   split at hm
   ·cases hm
   ·cases hm;rfl
  have:=z1 i m hm;have:=z1 j k hk;omega
 ·obtain⟨s,hs,_,rfl⟩:=T7.1 hk;rintro⟨h1,h2⟩;have z6:Ru a x:=hx;have p1:=(Y1 h hm z6).1 h1;have p2:=(R5 (Om h s).1 x hx.1.1).1 h2;exact((A6 h s _ _).1 p2).2 _ (Zo.2 ⟨m,hm,e,rfl⟩) p1
 ·obtain rfl:=zT.1 hk;exfalso;have e':m.src=(a.fin.length:Int):=e;rcases zV.1 hm with hm|hm
  ·have:=h.src m hm;omega
  ·obtain⟨s,hs,_,rfl⟩:=T7.1 hm;simp only at e';omega
theorem v1m{a:Aut}(h:WfA a){l l':List Int}(hl:∀j:Int,j<a.fin.length→(j∈l'↔j∈l))(x:Sy):∀j:Int,j<a.fin.length→(j∈Wb (Ta a) l' x↔j∈Wb a l x):=by
 intro j hj;rw[E5,E5];have hlen:(Ta a).fin.length=a.fin.length+1:=by simp[Ta]
 constructor
 ·rintro⟨h1,m,hm,h2,h3,h4⟩;rcases zV.1 hm with hm|hm
  ·rcases zV.1 hm with hm|hm
   ·exact⟨⟨h1.1,hj⟩,m,hm,(hl _ (h.src m hm).2).1 h2,h3,h4⟩
   ·obtain⟨s,hs,_,rfl⟩:=T7.1 hm;simp only at h4;omega
  ·obtain rfl:=zT.1 hm;simp only at h4;omega
 ·rintro⟨h1,m,hm,h2,h3,h4⟩;exact⟨⟨h1.1,by omega⟩,m,xE _ (xE _ hm),(hl _ (h.src m hm).2).2 h2,h3,h4⟩
theorem j0g{a:Aut}(h:WfA a):∀(w:List Sy) (l l':List Int),(∀j:Int,j<a.fin.length→(j∈l'↔j∈l))→∀j:Int,j<a.fin.length→(j∈Cm (Ta a) l' w↔j∈Cm a l w)
 |[],_,_,hl=>hl
 |x::w,_,_,hl=>j0g h w _ _ (v1m h hl x)
theorem runIn{a:Aut}:∀(w:List Sy) (l:List Int),(∀j∈l,0≤j∧j<a.fin.length)→∀j∈Cm a l w,0≤j∧j<a.fin.length
 |[],_,hl=>hl
 |x::w,_,_=>runIn w _ (fun _ hj=>Ow _ hj)
theorem q1k{a:Aut}(h:WfA a):∀j∈[(0:Int)],0≤j∧j<a.fin.length:=fun j hj=>by obtain rfl:=zT.1 hj;have:=h.fin;omega
theorem z0q{a:Aut}{l:List Int}:Ib a l=true↔∃s∈l,a.fin.getD s.toNat false=true:=by rw[Ib,wN]
theorem j1h{a:Aut}(h:WfA a)(w:List Sy):M4 (Ta a) w=M4 a w:=by
 unfold M4;rw[xU,z0q,z0q];have hr:=j0g h w [0] [0] (fun _ _=>Iff.rfl);have z7:=runIn w _ (q1k (d0o h));have z6:=runIn w _ (q1k h);have hlen:(Ta a).fin.length=a.fin.length+1:=by simp[Ta]
 have z1:∀s:Int,0≤s→s<a.fin.length→(Ta a).fin.getD s.toNat false=a.fin.getD s.toNat false:=fun s h0 h1=>by simp only[Ta,List.getD_eq_getElem?_getD];rw[zF (by omega)]
 constructor
 ·rintro⟨s,hs,hf⟩;have:=z7 s hs;by_cases hlt:s<a.fin.length
  ·exact⟨s,(hr s hlt).1 hs,by rw[←z1 s this.1 hlt];exact hf⟩
  ·have:s.toNat=a.fin.length:=by omega
   rw[this]at hf;simp[Ta]at hf
 ·rintro⟨s,hs,hf⟩;have:=z6 s hs;exact⟨s,(hr s this.2).2 hs,by rw[z1 s this.1 this.2];exact hf⟩
theorem y11{a c:Aut}(h:OkA a)(hc:Pg a=(0,c)):OkA c∧c.types=a.types∧u06 c∧(Dk a→Dk c)∧∀w,M4 c w=M4 a w:=by
 unfold Pg at hc;split at hc
 ·rename_i hn;cases hc;exact⟨h,rfl,(w08 h.wfA).1 (up.1 hn),id,fun _=>rfl⟩
 ·obtain⟨rfl,hk⟩:=d0k (d0o h.wfA) hc;exact⟨hk,rfl,v1l h.wfA,j1n h.wfA,j1h h.wfA⟩
end Go.Abs
namespace Go.Abs
def Tb(T:Int):List Prd→Int
 |[]=>0
 |p::r=>if Ej T p≠0 then Ej T p else Tb T r
def Az(L:List Prd):Bool:=decide (256<L.length) || L.any fun p=>p.any fun s=>decide (256<s.length)
def Rk(T:Int)(l:List Prd):Int×List Prd:=if T<1∨16<T then(2,[])else if 256<l.length then(5,[])else if Tb T l≠0 then(Tb T l,[])else
 if Az (Eh T.toNat l)then(5,[])else(0,Eh T.toNat l)
def Nv(T:Int)(l:List Prd):Int×List Prd:=if T<1∨16<T then(2,[])else if 256<l.length then(5,[])else if Tb T l≠0 then(Tb T l,[])else
 if Az (Q0 T.toNat l)then(5,[])else(0,Q0 T.toNat l)
theorem Yc{T:Int}:∀(l:List Prd),Tb T l=0↔∀p∈l,Ej T p=0
 |[]=>by simp[Tb]
 |p::r=>by
  rw[Tb];by_cases h:Ej T p=0
  ·rw[if_neg (fun k=>k h),Yc r];simp[h]
  ·rw[if_pos h];exact⟨fun k=>absurd k h,fun k=>absurd (k p (by simp)) h⟩
theorem Ml(T:Int)(l:List Prd):Nv T l=Rk T l:=by
 unfold Nv Rk;split
 ·rfl
 ·rename_i hT;split
  ·rfl
  ·split
   ·rfl
   ·rename_i hc;have z1:∀p∈l,PCk T.toNat p:=fun p hp=>((Ek T p).1 ((Yc l).1 (by simpa using hc) p hp)).2;rw[S6 (by omega) z1]
theorem Mr{T:Int}(hT:1≤T∧T≤16){l:List Prd}(hl:∀p∈l,PCk T.toNat p):(Rk T l).1=5∨Rk T l=(0,Q0 T.toNat l):=by
 unfold Rk;have hc:Tb T l=0:=(Yc l).2 fun p hp=>(Ek T p).2 ⟨hT,hl p hp⟩;rw[if_neg (by omega)];split
 ·exact .inl rfl
 ·rw[if_neg (by simp[hc])];split
  ·exact .inl rfl
  ·exact .inr (by rw[S6 (by omega) hl])
def onA(a:Aut):List Prd:=a.mv.map (·.on)
def Ud(a:Aut):Int×List Prd×List (List Int):=if Wq a≠0 then(Wq a,[],[])else
 if(Rk a.types (onA a)).1≠0 then((Rk a.types (onA a)).1,[],[])else
 match Kq a (Rk a.types (onA a)).2 with
 |none=>(5,[],[])
 |some Q=>(0,(Rk a.types (onA a)).2,Q)
def Rt(a:Aut):Int×Aut:=if(Ud a).1≠0 then((Ud a).1,Ys)else Zc (Yq a (Ud a).2.1 (Ud a).2.2)
def Ie(a:Aut):Int×Aut:=if Wq a≠0 then(Wq a,Ys)else Pg a
def c18(a:Aut):Aut:={ a with fin:=a.fin.map (!·) }
def v2m(a:Aut):Int×Aut:=if(Rt a).1≠0 then((Rt a).1,Ys)else if(Pg (Rt a).2).1≠0 then((Pg (Rt a).2).1,Ys)else(0,c18 (Pg (Rt a).2).2)
theorem Dq{a:Aut}(h:OkA a):∀p∈onA a,PCk a.types.toNat p:=fun p hp=>by obtain⟨m,hm,rfl⟩:=zR.1 hp;exact(h.mv m hm).on
theorem Np{a:Aut}(h:OkA a):Ud a=(5,[],[])∨∃Q,Ud a=(0,Q0 a.types.toNat (onA a),Q)∧Kq a (Q0 a.types.toNat (onA a))=some Q∧Sub a (Q0 a.types.toNat (onA a)) Q∧Cls a (Q0 a.types.toNat (onA a)):=by
 unfold Ud;rw[if_neg (fun k=>k ((O5 a).2 h))];rcases Mr h.types (Dq h)with hm|hm
 ·rw[if_pos (by rw[hm];decide),hm];exact .inl rfl
 ·rw[hm,if_neg (by simp)];cases hs:Kq a (Q0 a.types.toNat (onA a))with
  |none=>exact .inl rfl
  |some Q=>exact .inr ⟨Q,rfl,rfl,d06 h hs,u1v h⟩
theorem Z9{a:Aut}(h:Wq a≠0):Ud a=(Wq a,[],[]):=if_pos h
theorem Dm{a:Aut}{cl:List Prd}{Q:List (List Int)}(hc:Cls a cl){m:Mv}(hm:m∈Mw a cl Q):(∃n:Nat,n<Q.length∧m.src=n)∧(∃t:Nat,t<Q.length∧m.dst=t)∧PWf a.types.toNat m.on:=by obtain⟨n,l,hl,hg⟩:=I3.1 hm;have hi:=Af (a:=a) (Q:=Q) n l hc.wf;exact⟨⟨n,(zE.1 hl).1,hi.src m hg⟩,hi.dst m hg,hi.wf m hg⟩
theorem c0r{a:Aut}{cl:List Prd}{Q:List (List Int)}(hc:Cls a cl)(hs:Sub a cl Q):WfA (Yq a cl Q):=by
 have h0:=(zE.1 hs.first).1;have hl:(Yq a cl Q).fin.length=Q.length:=by simp[Yq]
 refine⟨hc.ok.types,by omega,fun m hm=> ?_,fun m hm=> ?_,fun m hm=>(Dm hc hm).2.2⟩
 ·obtain⟨⟨n,h1,h2⟩,_⟩:=Dm hc hm;rw[hl,h2];omega
 ·obtain⟨_,⟨n,h1,h2⟩,_⟩:=Dm hc hm;rw[hl,h2];omega
theorem x16{a d:Aut}(h:OkA a)(hd:Rt a=(0,d)):∃Q,Kq a (Q0 a.types.toNat (onA a))=some Q∧Sub a (Q0 a.types.toNat (onA a)) Q∧Cls a (Q0 a.types.toNat (onA a))∧
  Ud a=(0,Q0 a.types.toNat (onA a),Q)∧d=Yq a (Q0 a.types.toNat (onA a)) Q∧OkA d∧Dk d∧d.types=a.types∧∀w,(∀x∈w,Ru a x)→M4 d w=M4 a w:=by
 unfold Rt at hd;rcases Np h with hs|⟨Q,hs,hq,z1,z6⟩
 ·rw[hs,if_pos (by decide)]at hd;cases(Prod.mk.inj hd).1
 ·rw[hs,if_neg (by simp)]at hd;obtain⟨rfl,hk⟩:=d0k (c0r z6 z1) hd;exact⟨Q,hq,z1,z6,hs,rfl,hk,u0z z6 z1,rfl,fun w hw=>j1v z6 z1 hw⟩
theorem x1x{a:Aut}(hw:WfA a)(hd:Dk a)(hf:u06 a){s:Int}(h0:0≤s)(h1:s<a.fin.length){x:Sy}(hx:Ru a x):∃t:Int,0≤t∧t<a.fin.length∧Wb a [s] x=[t]:=by
 obtain⟨m,hm,e,hh⟩:=hf s h0 h1 x hx;refine⟨m.dst,(hw.dst m hm).1,(hw.dst m hm).2,Un (Ur ..) (by simp) fun z=> ?_⟩;rw[E5];constructor
 ·rintro⟨_,k,hk,h2,h3,h4⟩;obtain h2:=zT.1 h2;have:k=m∨k.dst=m.dst:=by
   obtain⟨i,hi⟩:=yK.1 hm;obtain⟨j,hj⟩:=yK.1 hk;obtain⟨z7,z1⟩:=zE.1 hi;obtain⟨z8,z6⟩:=zE.1 hj;by_cases hij:i=j
   ·subst hij;left;rw[←z1,←z6]
   ·exfalso;rcases ur hij with hlt|hgt
    ·have:=yR.1 hd i j z7 z8 hlt;rw[z1,z6]at this;exact this (by rw[e,h2]) x hx ⟨hh,h3⟩
    ·have:=yR.1 hd j i z8 z7 hgt;rw[z1,z6]at this;exact this (by rw[e,h2]) x hx ⟨h3,hh⟩
  rcases this with rfl|this
  ·rw[←h4];simp
  ·rw[←h4,this];simp
 ·intro hz;obtain rfl:=zT.1 hz;exact⟨hw.dst m hm,m,hm,by rw[e];simp,hh,rfl⟩
theorem y14{a:Aut}{cl:List Prd}(hc:Cls a cl){c:Prd}(hm:c∈cl):Ru a (Qm c):=by have h:=(Wz (hc.wf c hm).1 (hc.wf c hm).2).1;have h2:=(hc.wf c hm).1.lt h;exact⟨⟨by simp[Qm],by simp only[Qm];omega⟩,h2.2⟩
end Go.Abs
namespace Go.Abs
def u17(p:Prd):Bool:=decide (p.length≤4) && p.all fun s=>decide (s.length≤12)
def k17(a:Aut):Bool:=decide (a.fin.length≤8) && decide (a.mv.length≤16) && a.mv.all fun m=>u17 m.on
theorem z0y{p:Prd}:u17 p=true↔p.length≤4∧∀s∈p,s.length≤12:=by simp[u17]
theorem z07(l:List Iv):(W4 l).length≤l.length:=by have h1:=Rb (E4 l) [];have h2:=(Ol l).1.length_eq;rw[W4];simp at h1;omega
theorem x1f{l:List Iv}(h:Sep l)(hb:∀n,M l n→inR n):(W2 l).length≤l.length+1:=(Pm h hb).2.2
theorem q1b(T:Nat):∀x∈W3 T,x.length=1:=fun x hx=>by obtain rfl:=vE hx;rfl
def z2t(a:Aut)(l:List Int)(x:Sy):Int×List Int:=if Wq a≠0 then(Wq a,[])else if 256<l.length then(5,[])else
 if l.any (fun s=>decide (s<0) || decide ((a.fin.length:Int)≤s))then(6,[])else if Va a.types x≠0 then(Va a.types x,[])else(0,Wb a l x)
theorem X9{n:Nat}{l:List Int}(h:l.Pairwise (·<·))(hr:∀s∈l,0≤s∧s<n):l.length≤n:=by
 have he:l=(En n).filter fun z=>decide (z∈l):=Un h ((H8 n).filter _) fun z=>by rw[xL,Ty];exact⟨fun hz=>⟨hr z hz,by simpa using hz⟩,fun hz=>by simpa using hz.2⟩
 have h1:=xM (fun z=>decide (z∈l)) (En n);rw[←he]at h1;simpa[En]using h1
theorem Fk{a:Aut}(h:OkA a)(l:List Int)(x:Sy):(Wb a l x).length≤256:=by have:=X9 (Ur a l x) Ow;have:=h.fin;omega
def k0k(p q:Prd):Bool:= !Wd (Wg p q)
def x00(a:Aut):Bool:=(yJ a.mv.length).all fun i=>(yJ i).all fun k=> !(decide ((a.mv.getD i default).src=(a.mv.getD k default).src) && k0k (a.mv.getD i default).on (a.mv.getD k default).on)
theorem Zl{T:Nat}{p q:Prd}(hp:PWf T p)(hq:PWf T q):k0k p q=true↔∃t n,PM p t n∧PM q t n:=by
 unfold k0k;cases hv:Wd (Wg p q)
 ·simp only[Bool.not_false,true_iff];apply Classical.byContradiction;intro hn;have:=(Rn (Tp hp hq.1)).2 (fun t n hm=>hn ⟨t,n,(Er hp.1 hq.1 t n).1 hm⟩);rw[hv]at this;cases this
 ·simp only[Bool.not_true,Bool.false_eq_true,false_iff];rintro⟨t,n,hm⟩;exact(Rn (Tp hp hq.1)).1 hv t n ((Er hp.1 hq.1 t n).2 hm)
theorem g1n{a:Aut}(h:WfA a):x00 a=true↔Dk a:=by
 unfold x00 Dk;rw[zW,yR];have hg:∀(i:Nat) (hi:i<a.mv.length),a.mv.getD i default=a.mv[i]:=fun i hi=>by simp[yV,hi]
 constructor
 ·intro hs i j hi hj z6 e x hx;rintro⟨h1,h2⟩;have:=hs j (yW.2 hj);rw[zW]at this;have:=this i (yW.2 z6);rw[hg j hj,hg i hi,e]at this;have hc:k0k a.mv[j].on a.mv[i].on=true:=(Zl (h.on _ (zK hj)) (h.on _ (zK hi))).2 ⟨_,_,(Y1 h (zK hj) hx).1 h2,(Y1 h (zK hi) hx).1 h1⟩;rw[hc]at this;simp at this
 ·intro hd i hi;have hi:=yW.1 hi;rw[zW];intro k hk;have hk:=yW.1 hk;have z1:k<a.mv.length:=by omega
  rw[hg i hi,hg k z1];by_cases e:a.mv[i].src=a.mv[k].src
  ·cases hc:k0k a.mv[i].on a.mv[k].on
   ·simp
   ·exfalso;obtain⟨t,n,h1,h2⟩:=(Zl (h.on _ (zK hi)) (h.on _ (zK z1))).1 hc;have hb:=(h.on _ (zK hi)).lt h1;have hx:Ru a ⟨t,n⟩:=⟨⟨by simp,by simp only;omega⟩,hb.2⟩
    exact hd k i z1 hi hk e.symm ⟨t,n⟩ hx ⟨(Y1 h (zK z1) hx).2 (by simpa using h2),(Y1 h (zK hi) hx).2 (by simpa using h1)⟩
  ·simp[e]
end Go.Abs
namespace Go.Abs
open Go Go.Proofs
attribute [simp] T74 T76 T91 T78 T23 T22 T25 T53 T45 T28
@[simp] def encP (p:Prd):AV:= .agg [.list (p.map encL)]
abbrev LP (l:List Prd):AV:= .list (l.map encP)
@[simp] def encSy (x:Sy):AV:= .agg [.i x.ty,.i x.num]
@[simp] def encMv (m:Mv):AV:= .agg [.i m.src,.i m.dst,.list (m.on.map encL)]
@[simp] def encA (a:Aut):AV:= .agg [.i a.types,.list (a.fin.map .bool),.list (a.mv.map encMv)]
attribute [local irreducible] ckR
theorem Ap(T:Int)(p:Prd):PC Tryz.prog 82 [.i T,encP p] (fun r=>r= .i (Ej T p)):=by
 refine Ql tOk Tryz.func82 rfl Tryz.results82 rfl (by simp[Tryz.ntmps82]) ?_;rw[Tryz.ntmps82];simp only[Qg];simp only[encP];refine W1 1 0 rfl rfl (fun hlen=> ?_);rw[zZ]at hlen;repeat first|(refine r_ ?_;simp)|refine q_ ?_
 refine Qb rfl (fun h=> ?_) (fun h=> ?_)
 ·repeat first|(refine r_ ?_;simp)|refine q_ ?_
  rw[Ej,if_pos (by simpa using h)]
 have h':¬(T<1∨16<T):=by simpa using h
 repeat first|(refine r_ ?_;simp)|refine q_ ?_
 refine Qb rfl (fun h2=> ?_) (fun h2=> ?_)
 ·repeat first|(refine r_ ?_;simp)|refine q_ ?_
  rw[Ej,if_neg h',if_pos (by simpa using h2)]
 have z7:(p.length:Int)=T:=by simpa using h2
 have hE:Ej T p=u07 p:=by rw[Ej,if_neg h',if_neg (by simpa using z7)]
 rw[hE];repeat first|(refine r_ ?_;simp)|refine q_ ?_
 refine Qr p.length (fun j=>u07 p=u07 (p.drop j)) (fun j=>[(22,.list (p.map encL)),(23,.i p.length),(24,.i j)]) (fun _=>[]) rfl (by simp) (by simp) (by simp) (by simp) (by simp) ?_;intro j hj hI ih;repeat first|(refine r_ ?_;simp)|refine q_ ?_
 refine Qb rfl (fun z8=> ?_) (fun za=> ?_)
 ·have z1:j<p.length:=by simpa using z8
  have hw:IntKind.i64.wrap ((j:Int)+1)=j+1:=wrap_i64 _ (by omega) (by omega);rw[Ee z1,u07]at hI;repeat first|(refine r_ ?_;simp[z1])|refine q_ ?_
  refine Qf rfl rfl (by simp) (w09 p[j]) rfl ?_;rintro _ rfl;simp;repeat first|(refine r_ ?_;simp)|refine q_ ?_
  refine Qb rfl (fun h3=> ?_) (fun h3=> ?_)
  ·repeat first|(refine r_ ?_;simp)|refine q_ ?_
   rw[hI,if_pos (by simpa using h3)]
  rw[if_neg (by simpa using h3)]at hI;repeat first|(refine r_ ?_;simp[hw])|refine q_ ?_
  refine Qq _ (ih z1 hI) rfl (by simp) ?_ (by simp) (by simp);simp
 ·have z6:j=p.length:=by simp at za;omega
  subst z6;repeat first|(refine r_ ?_;simp)|refine q_ ?_
  rw[hI,xX];rfl
theorem L7(T:Int)(p:Prd):PC Tryz.prog 116 [.i T,encP p] (fun r=>r= .i (Ej T p)):=by
 refine Ql tOk Tryz.func116 rfl Tryz.results116 rfl (by simp[Tryz.ntmps116]) ?_;rw[Tryz.ntmps116];simp only[Qg];simp only[encP];refine W1 1 0 rfl rfl (fun hlen=> ?_);rw[zZ]at hlen;repeat first|(refine r_ ?_;simp)|refine q_ ?_
 refine Qb rfl (fun h=> ?_) (fun h=> ?_)
 ·repeat first|(refine r_ ?_;simp)|refine q_ ?_
  rw[Ej,if_pos (by simpa using h)]
 have h':¬(T<1∨16<T):=by simpa using h
 repeat first|(refine r_ ?_;simp)|refine q_ ?_
 refine Qb rfl (fun h2=> ?_) (fun h2=> ?_)
 ·repeat first|(refine r_ ?_;simp)|refine q_ ?_
  rw[Ej,if_neg h',if_pos (by simpa using h2)]
 have z7:(p.length:Int)=T:=by simpa using h2
 have hE:Ej T p=u07 p:=by rw[Ej,if_neg h',if_neg (by simpa using z7)]
 rw[hE];repeat first|(refine r_ ?_;simp)|refine q_ ?_
 refine Qr p.length (fun j=>u07 p=u07 (p.drop j)) (fun j=>[(0,.i T),(3,.vptr 0 0),(5,.i j)]) (fun _=>[.vars [.list (p.map encL)]]) rfl (by simp) (by simp) (by simp) (by simp) (by simp) ?_;intro j hj hI ih;repeat first|(refine r_ ?_;simp)|refine q_ ?_
 refine Qb rfl (fun z8=> ?_) (fun za=> ?_)
 ·have z1:j<p.length:=by have k:(j:Int)<T:=(by simpa using z8);omega
  have hw:IntKind.i64.wrap ((j:Int)+1)=j+1:=wrap_i64 _ (by omega) (by omega);rw[Ee z1,u07]at hI;repeat first|(refine r_ ?_;simp[z1])|refine q_ ?_
  refine Qf rfl rfl (by simp) (q15 p[j]) rfl ?_;rintro _ rfl;simp;repeat first|(refine r_ ?_;simp)|refine q_ ?_
  refine Qb rfl (fun h3=> ?_) (fun h3=> ?_)
  ·repeat first|(refine r_ ?_;simp)|refine q_ ?_
   rw[hI,if_pos (by simpa using h3)]
  rw[if_neg (by simpa using h3)]at hI;repeat first|(refine r_ ?_;simp[hw])|refine q_ ?_
  refine Qq _ (ih z1 hI) rfl (by simp) ?_ (by simp) (by simp);simp
 ·have z6:j=p.length:=by have k:¬(j:Int)<T:=(by simpa using za);omega
  subst z6;repeat first|(refine r_ ?_;simp)|refine q_ ?_
  rw[hI,xX];rfl
end Go.Abs
namespace Go.Abs
open Go Go.Proofs
def J0:List Prd→Int
 |[]=>0
 |p::r=>if Ej p.length p≠0 then Ej p.length p else J0 r
attribute [local irreducible] Ej
theorem K7(l:List Prd):PC Tryz.prog 157 [LP l] (fun r=>r= .i (J0 l)):=by
 refine Ql tOk Tryz.func157 rfl Tryz.results157 rfl (by simp[Tryz.ntmps157]) ?_;rw[Tryz.ntmps157];simp only[Qg];refine Ry 0 rfl (fun hlen=> ?_);rw[zZ]at hlen;repeat first|(refine r_ ?_;simp)|refine q_ ?_
 refine Qr l.length (fun j=>J0 l=J0 (l.drop j)) (fun j=>[(6,LP l),(7,.i l.length),(8,.i j)]) (fun _=>[]) rfl (by simp) (by simp) (by simp) (by simp) (by simp) ?_;intro j hj hI ih;repeat first|(refine r_ ?_;simp)|refine q_ ?_
 refine Qb rfl (fun z7=> ?_) (fun z8=> ?_)
 ·have z1:j<l.length:=by simpa using z7
  have hw:IntKind.i64.wrap ((j:Int)+1)=j+1:=wrap_i64 _ (by omega) (by omega);rw[Ee z1,J0]at hI;repeat first|(refine r_ ?_;simp[z1])|refine q_ ?_
  refine Qf rfl rfl (by simp) (Ap l[j].length l[j]) rfl ?_;rintro _ rfl;simp;repeat first|(refine r_ ?_;simp)|refine q_ ?_
  refine Qb rfl (fun h3=> ?_) (fun h3=> ?_)
  ·repeat first|(refine r_ ?_;simp)|refine q_ ?_
   rw[hI,if_pos (by simpa using h3)]
  rw[if_neg (by simpa using h3)]at hI;repeat first|(refine r_ ?_;simp[hw])|refine q_ ?_
  refine Qq _ (ih z1 hI) rfl (by simp) ?_ (by simp) (by simp);simp
 ·have z6:j=l.length:=by simp at z8;omega
  subst z6;repeat first|(refine r_ ?_;simp)|refine q_ ?_
  rw[hI,xX];rfl
def w1l(p:Prd)(x:Sy):Int:=if J0 [p]≠0 then J0 [p]else Va p.length x
def v07(p:Prd)(x:Sy):Bool×Int:=if w1l p x≠0 then(false,w1l p x)else(T0 p x,0)
attribute [local irreducible] J0 x17
theorem u14{T:Int}{p:Prd}(h:Ej T p=0):J0 [p]=0∧(p.length:Int)=T:=by
 obtain⟨h1,h2⟩:=(Ek T p).1 h;have hl:(p.length:Int)=T:=by have:=h2.1;omega
 exact⟨by unfold J0;rw[hl,if_neg (fun k=>k h)];unfold J0;rfl,hl⟩
theorem g00{p:Prd}(h:J0 [p]=0):∀s∈p,CanonL s:=by
 unfold J0 at h;by_cases hc:Ej p.length p=0
 ·exact((Ek _ p).1 hc).2.2
 ·rw[if_pos hc]at h;exact absurd h hc
theorem Bh(p:Prd)(x:Sy):PC Tryz.prog 99 [encP p,encSy x] (fun r=>r= .tup [.bool (v07 p x).1,.i (v07 p x).2]):=by
 refine Ql tOk Tryz.func99 rfl Tryz.results99 rfl (by simp[Tryz.ntmps99]) ?_;rw[Tryz.ntmps99];simp only[Qg];simp only[encP,encSy];refine W1 0 0 rfl rfl (fun hlen=> ?_);rw[zZ]at hlen;repeat first|(refine r_ ?_;simp)|refine q_ ?_
 refine I7 2 rfl ?_;simp;refine Qf rfl rfl (by simp) (K7 [p]) rfl ?_;rintro _ rfl;simp;repeat first|(refine r_ ?_;simp)|refine q_ ?_
 refine Qb rfl (fun h=> ?_) (fun h=> ?_)
 ·repeat first|(refine r_ ?_;simp)|refine q_ ?_
  have h':J0 [p]≠0:=by simpa using h
  have hE:w1l p x=J0 [p]:=by rw[w1l,if_pos h']
  rw[v07,hE,if_pos h'];exact⟨rfl,rfl⟩
 have h':J0 [p]=0:=by simpa using h
 have hE:w1l p x=Va p.length x:=by rw[w1l,if_neg (fun k=>k h')]
 repeat first|(refine r_ ?_;simp)|refine q_ ?_
 refine Qb rfl (fun h1=> ?_) (fun h1=> ?_)
 ·repeat first|(refine r_ ?_;simp)|refine q_ ?_
  have z6:x.ty<0∨(p.length:Int)≤x.ty:=by simpa using h1
  have z1:w1l p x=6:=by rw[hE,Va,if_pos z6]
  rw[v07,z1];exact⟨rfl,rfl⟩
 have z6:¬(x.ty<0∨(p.length:Int)≤x.ty):=by simpa using h1
 repeat first|(refine r_ ?_;simp)|refine q_ ?_
 refine Qb rfl (fun h2=> ?_) (fun h2=> ?_)
 ·repeat first|(refine r_ ?_;simp)|refine q_ ?_
  have z7:x.num< -1099511627776∨1099511627776<x.num:=by simpa using h2
  have z1:w1l p x=2:=by rw[hE,Va,if_neg z6,if_pos z7]
  rw[v07,z1];exact⟨rfl,rfl⟩
 have z7:¬(x.num< -1099511627776∨1099511627776<x.num):=by simpa using h2
 have z1:w1l p x=0:=by rw[hE,Va,if_neg z6,if_neg z7]
 repeat first|(refine r_ ?_;simp)|refine q_ ?_
 have zb:0≤x.ty:=by omega
 have zc:x.ty<(p.length:Int):=by omega
 have z8:x.ty.toNat<p.length:=by omega
 refine Qn tOk mixed [] (.val 0 (.val 1 (.val 2 (.val 3 (.val 4 (.val 5 (.val 6 (.val 7 (.one 8 (.val 9 (.val 10 (.val 11 (.val 12 (.done)))))))))))))) rfl (by kernel_rfl) ?_;simp[zb,zc,z8];refine Qf rfl rfl (by simp) (Ht p[x.ty.toNat] x.num) rfl ?_;rintro _ rfl;simp;repeat first|(refine r_ ?_;simp)|refine q_ ?_
 have hc:=g00 h' _ (zK z8);have za:x17 p[x.ty.toNat] x.num=(Pj p[x.ty.toNat] x.num,0):=by rw[x17,if_pos ((Bd _).2 hc)]
 rw[v07,z1,if_neg (fun k=>k rfl),za];refine⟨?_,rfl⟩;simp[T0,zb,zc,yV,z8]
theorem d1g{T:Int}{p:Prd}(h:Ej T p=0)(x:Sy):v07 p x=if Va T x≠0 then(false,Va T x)else(T0 p x,0):=by
 obtain⟨h1,h2⟩:=u14 h;have hE:w1l p x=Va T x:=by rw[w1l,if_neg (fun k=>k h1),h2]
 rw[v07,hE]
end Go.Abs
namespace Go.Abs
open Go Go.Proofs
abbrev Qu (a:Aut):List AV:=[.i a.types,.list (a.fin.map .bool),.list (a.mv.map encMv)]
theorem k1i(p:Prd)(x:Sy):PC Tryz.prog 175 [encP p,encSy x] (fun r=>r= .bool ((v07 p x).2==0 && (v07 p x).1)):=by
 refine Ql tOk Tryz.func175 rfl Tryz.results175 rfl (by simp[Tryz.ntmps175]) ?_;rw[Tryz.ntmps175];simp only[Qg];simp only[encP,encSy];repeat first|(refine r_ ?_;simp)|refine q_ ?_
 refine Qf rfl rfl (by simp) (Bh p x) rfl ?_;rintro _ rfl;simp;repeat first|(refine r_ ?_;simp)|refine q_ ?_
def stB(a:Aut)(n:Int):Bool:=decide (0≤n) && decide (n<a.fin.length)
theorem Zm(a:Aut)(n:Int):stB a n=true↔0≤n∧n<a.fin.length:=by simp[stB]
theorem Xg(H:List AObj)(id:Nat)(a:Aut)(hid:H[id]? =some (.vars (Qu a)))(n:Int):FC Tryz.prog 134 [.i n,.vptr id 0] H (fun r H'=>r= .bool (stB a n)∧H'=H):=by refine Ea tOk Tryz.func134 rfl Tryz.results134 rfl (by simp[Tryz.ntmps134]) ?_;rw[Tryz.ntmps134];simp only[Qg];repeat first|(refine r_ ?_;simp[hid,stB])|refine q_ ?_
attribute [local irreducible] Ej stB
theorem Is(a:Aut):PC Tryz.prog 73 [encA a] (fun r=>r= .i (Wq a)):=by
 refine Ql tOk Tryz.func73 rfl Tryz.results73 rfl (by simp[Tryz.ntmps73]) ?_;rw[Tryz.ntmps73];simp only[Qg];simp only[encA];refine W1 0 1 rfl rfl (fun z7=> ?_);refine W1 0 2 rfl rfl (fun z8=> ?_);rw[zZ]at z7 z8;repeat first|(refine r_ ?_;simp)|refine q_ ?_
 refine Qb rfl (fun h=> ?_) (fun h=> ?_)
 ·repeat first|(refine r_ ?_;simp)|refine q_ ?_
  rw[Wq,if_pos (by simpa using h)]
 have h1:¬(a.types<1∨16<a.types):=by simpa using h
 repeat first|(refine r_ ?_;simp)|refine q_ ?_
 refine Qb rfl (fun h=> ?_) (fun h=> ?_)
 ·repeat first|(refine r_ ?_;simp)|refine q_ ?_
  rw[Wq,if_neg h1,if_pos];simp at h;omega
 have h2:¬(a.fin.length<1∨256<a.fin.length∨2048<a.mv.length):=by simp at h;omega
 have hE:Wq a=u0p a.types a.fin.length a.mv:=by rw[Wq,if_neg h1,if_neg h2]
 rw[hE];repeat first|(refine r_ ?_;simp)|refine q_ ?_
 refine Qr a.mv.length (fun j=>u0p a.types a.fin.length a.mv=u0p a.types a.fin.length (a.mv.drop j)) (fun j=>[(1,.vptr 0 0),(3,.fn (.func 134) [] [.vptr 0 0]),(33,.list (a.mv.map encMv)),(34,.i a.mv.length),(35,.i j)]) (fun _=>[.vars (Qu a)]) rfl (by simp) (by simp) (by simp) (by simp) (by simp) ?_;intro j hj hI ih;repeat first|(refine r_ ?_;simp)|refine q_ ?_
 refine Qb rfl (fun za=> ?_) (fun zb=> ?_)
 ·have z1:j<a.mv.length:=by simpa using za
  have hw:IntKind.i64.wrap ((j:Int)+1)=j+1:=wrap_i64 _ (by omega) (by omega);rw[Ee z1,u0p]at hI;repeat first|(refine r_ ?_;simp[z1])|refine q_ ?_
  cases hb:stB a a.mv[j].src with
  |false=>
   refine Q9 rfl rfl (Xg _ 0 a rfl a.mv[j].src) rfl ?_;rintro r H' ⟨rfl,rfl⟩;simp[hb];repeat first|(refine r_ ?_;simp)|refine q_ ?_
   refine Q6 rfl rfl ?_;simp;refine Qk rfl ?_;repeat first|(refine r_ ?_;simp)|refine q_ ?_
   rw[hI,if_pos (fun k=>by rw[(Zm _ _).2 k.1]at hb;cases hb)]
  |true=>
   refine Q9 rfl rfl (Xg _ 0 a rfl a.mv[j].src) rfl ?_;rintro r H' ⟨rfl,rfl⟩;simp[hb];repeat first|(refine r_ ?_;simp)|refine q_ ?_
   refine Q9 rfl rfl (Xg _ 0 a rfl a.mv[j].dst) rfl ?_;rintro r H' ⟨rfl,rfl⟩;simp;repeat first|(refine r_ ?_;simp)|refine q_ ?_
   refine Qb rfl (fun h3=> ?_) (fun h3=> ?_)
   ·repeat first|(refine r_ ?_;simp)|refine q_ ?_
    rw[hI,if_pos (fun k=>by rw[(Zm _ _).2 k.2]at h3;cases h3)]
   have hd:stB a a.mv[j].dst=true:=by simpa using h3
   rw[if_neg (fun k=>k ⟨(Zm _ _).1 hb,(Zm _ _).1 hd⟩)]at hI;repeat first|(refine r_ ?_;simp)|refine q_ ?_
   refine Qf rfl rfl (by simp) (Ap a.types a.mv[j].on) rfl ?_;rintro _ rfl;simp;repeat first|(refine r_ ?_;simp)|refine q_ ?_
   refine Qb rfl (fun h4=> ?_) (fun h4=> ?_)
   ·repeat first|(refine r_ ?_;simp)|refine q_ ?_
    rw[hI,if_pos (by simpa using h4)]
   rw[if_neg (by simpa using h4)]at hI;repeat first|(refine r_ ?_;simp[hw])|refine q_ ?_
   refine Qq _ (ih z1 hI) rfl (by simp) ?_ (by simp) (by simp);simp
 ·have z6:j=a.mv.length:=by simp at zb;omega
  subst z6;repeat first|(refine r_ ?_;simp)|refine q_ ?_
  rw[hI,xX];rfl
theorem Ua(a:Aut):PC Tryz.prog 51 [encA a] (fun r=>r= .i (Wq a)):=by
 refine Ql tOk Tryz.func51 rfl Tryz.results51 rfl (by simp[Tryz.ntmps51]) ?_;rw[Tryz.ntmps51];simp only[Qg];simp only[encA];refine W1 0 1 rfl rfl (fun z7=> ?_);refine W1 0 2 rfl rfl (fun z8=> ?_);rw[zZ]at z7 z8;repeat first|(refine r_ ?_;simp)|refine q_ ?_
 refine Qb rfl (fun h=> ?_) (fun h=> ?_)
 ·repeat first|(refine r_ ?_;simp)|refine q_ ?_
  rw[Wq,if_pos (by simpa using h)]
 have h1:¬(a.types<1∨16<a.types):=by simpa using h
 repeat first|(refine r_ ?_;simp)|refine q_ ?_
 refine Qb rfl (fun h=> ?_) (fun h=> ?_)
 ·repeat first|(refine r_ ?_;simp)|refine q_ ?_
  rw[Wq,if_neg h1,if_pos];simp at h;omega
 have h2:¬(a.fin.length<1∨256<a.fin.length∨2048<a.mv.length):=by simp at h;omega
 have hE:Wq a=u0p a.types a.fin.length a.mv:=by rw[Wq,if_neg h1,if_neg h2]
 rw[hE];repeat first|(refine r_ ?_;simp)|refine q_ ?_
 refine Qr a.mv.length (fun j=>u0p a.types a.fin.length a.mv=u0p a.types a.fin.length (a.mv.drop j)) (fun j=>[(1,.vptr 0 0),(3,.i a.fin.length),(4,.i j)]) (fun _=>[.vars (Qu a)]) rfl (by simp) (by simp) (by simp) (by simp) (by simp) ?_;intro j hj hI ih;repeat first|(refine r_ ?_;simp)|refine q_ ?_
 refine Qb rfl (fun za=> ?_) (fun zb=> ?_)
 ·have z1:j<a.mv.length:=by simpa using za
  have hw:IntKind.i64.wrap ((j:Int)+1)=j+1:=wrap_i64 _ (by omega) (by omega);rw[Ee z1,u0p]at hI;repeat first|(refine r_ ?_;simp[z1])|refine q_ ?_
  refine Qb rfl (fun h3=> ?_) (fun h3=> ?_)
  ·repeat first|(refine r_ ?_;simp)|refine q_ ?_
   rw[hI,if_pos];simp at h3;omega
  rw[if_neg (by simp at h3 ⊢;omega)]at hI;repeat first|(refine r_ ?_;simp)|refine q_ ?_
  refine Qf rfl rfl (by simp) (L7 a.types a.mv[j].on) rfl ?_;rintro _ rfl;simp;repeat first|(refine r_ ?_;simp)|refine q_ ?_
  refine Qb rfl (fun h4=> ?_) (fun h4=> ?_)
  ·repeat first|(refine r_ ?_;simp)|refine q_ ?_
   rw[hI,if_pos (by simpa using h4)]
  rw[if_neg (by simpa using h4)]at hI;repeat first|(refine r_ ?_;simp[hw])|refine q_ ?_
  refine Qq _ (ih z1 hI) rfl (by simp) ?_ (by simp) (by simp);simp
 ·have z6:j=a.mv.length:=by simp at zb;omega
  subst z6;repeat first|(refine r_ ?_;simp)|refine q_ ?_
  rw[hI,xX];rfl
end Go.Abs
