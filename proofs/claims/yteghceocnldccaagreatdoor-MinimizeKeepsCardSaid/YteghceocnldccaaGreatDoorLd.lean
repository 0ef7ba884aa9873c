/- Part Ld of the proof: an abstract machine over the model, and what the functions of the program hand back in its terms. No condition. -/
import Derived.Test.YteghceocnldccaaGreatDoorLc
import Derived.Test.YteghceocnldccaaGreatDoorLb
set_option linter.all false
open List renaming eq_nil_or_concat→wO,concat_eq_append→wP,getLast?_append→t8,getLast?_singleton→uO,dropLast_concat→ta,mem_append→zU,foldl_cons→xV,length_cons→yW,length_map→yK,drop_length→xS,getElem_of_mem→xB,getElem_mem→zL,any_eq_true→wS,any_eq_false→vw,replicate→yF,cons_append→uG,length_filter_le→xR,perm_middle→vE,pairwise_append→yH,mem_cons→yB,pairwise_cons→yU,take_append_drop→xW,pairwise_iff_getElem→yQ,getElem_take→tp,pairwise_mergeSort→uP,take_length→y_,mem_mergeSort→tl,mem_flatMap→wI,mem_filterMap→vv,getElem?_eq_some_iff→zB,mem_of_getElem?→zH,getElem?_eq_getElem→zJ,perm_ext_iff_of_nodup→uH,zipWith→tT,getElem?_replicate→u5,eq_of_mem_replicate→vV,getElem?_zipWith→wZ,mem_iff_getElem?→yE,getElem?_map→zW,all_eq_true→zX,isEmpty_iff→tA,mem_singleton→zP,pairwise_flatMap→u6,range→yL,getD→yS,getElem?_set_self→zO,getElem?_set_ne→zE,mem_cons_of_mem→tc,map_congr_left→xL,mem_map→zT,mem_range→yV,pairwise_map→xZ,mem_filter→xM,mem_append_left→yY,findIdx?_eq_some_iff_getElem→xF,getElem_inj→vN,getElem?_append_left→zF,eq_nil_iff_forall_not_mem→vK,mem_append_right→ug
open Option renaming some_or→tw,map_eq_some_iff→zQ
open Nat renaming le_refl→zR,lt_trichotomy→vP,lt_or_gt_of_ne→uA
open Bool renaming eq_iff_iff→xU,not_eq_true→uI
open Int renaming le_refl→xO,lt_trichotomy→tx
set_option maxHeartbeats 2000000
set_option linter.unusedSimpArgs false
set_option maxRecDepth 100000
namespace Go.Abs
open Go Go.Proofs
def w25:List Iv→Int
 |[]=>0
 |x::r=>if(Ss x != 0)=true then Ss x else w25 r
def Q0(acc l:List Iv):List Iv:=l.foldl W2 acc
def d0t(l:List Iv):Int:=if decide ((256:Int)<l.length)=true then 5 else w25 l
def z2x(l:List Iv)(r:AV):Prop:=(d0t l≠0∧r= .tup [.list [],.i (d0t l)])∨(d0t l=0∧l.length≤256∧w25 l=0∧∃l':List Iv,l'.Perm l∧Xn l'∧r= .tup [LIv (Q0 [] l'),.i 0])
theorem V0{x:Iv}(h:Ss x=0):Sb x∧x.lo≤x.hi:=by
 unfold Ss at h;by_cases h1:(!inB x.lo || !inB x.hi)=true
 ·rw[if_pos h1]at h;cases h
 ·rw[if_neg h1]at h;by_cases h2:decide (x.hi<x.lo)=true
  ·rw[if_pos h2]at h;cases h
  ·exact⟨by simpa[Sb]using h1,by simpa using h2⟩
theorem j1m{acc:List Iv}{x:Iv}(ha:∀y∈acc,Sb y)(hx:Sb x):∀y∈W2 acc x,Sb y:=by
 rcases wO acc with rfl|⟨ini,z,rfl⟩
 ·simpa[W2]using hx
 ·have hz:=ha z (by simp);have hi:∀y∈ini,Sb y:=fun y hy=>ha y (by simp[hy]);intro y hy;simp only[W2,wP,t8,uO,tw,ta]at hy;split at hy
  ·rcases zU.1 hy with h|h
   ·exact hi y h
   ·simp at h;subst h;refine⟨hz.1,?_⟩;simp only;split
    ·exact hx.2
    ·exact hz.2
  ·rcases zU.1 hy with h|h
   ·rcases zU.1 h with h|h
    ·exact hi y h
    ·simp at h;subst h;exact hz
   ·simp at h;subst h;exact hx
theorem q1v(acc:List Iv)(x:Iv):(W2 acc x).length≤acc.length+1:=by
 rcases wO acc with rfl|⟨ini,z,rfl⟩
 ·simp[W2]
 ·simp only[W2,wP,t8,uO,tw,ta];split<;>simp
theorem Po(acc l:List Iv)(x:Iv):Q0 acc (l++[x])=W2 (Q0 acc l) x:=by simp[Q0]
theorem Tc:∀(l acc:List Iv),(Q0 acc l).length≤acc.length+l.length
 |[],acc=>by simp[Q0]
 |x::r,acc=>by have:=Tc r (W2 acc x);have:=q1v acc x;simp only[Q0,xV,yW]at *;omega
theorem Aa:∀(l acc:List Iv),(∀y∈acc,Sb y)→(∀y∈l,Sb y)→∀y∈Q0 acc l,Sb y
 |[],acc,h,_=>by simpa[Q0]using h
 |x::r,acc,h,hl=>Aa r (W2 acc x) (j1m h (hl x (by simp))) (fun y hy=>hl y (by simp[hy]))
attribute [local irreducible] Ss
end Go.Abs
namespace Go.Abs
open Go Go.Proofs
def q24(s:List Iv)(j:Nat)(x:Iv):Bool:=match s[j]? with|some y=>decide (x.lo<y.lo)|none=>false
def Pa(s:List Iv)(x:Iv):Nat→Nat
 |0=>0
 |j+1=>if q24 s j x=true then Pa s x j else j+1
def k0q(s:List Iv)(x:Iv):List Iv:=s.take (Pa s x s.length)++x::s.drop (Pa s x s.length)
def Iy(l:List Iv):List Iv:=l.foldl k0q []
theorem F5(s:List Iv)(x:Iv):∀j,Pa s x j≤j
 |0=>zR _
 |j+1=>by
  rw[Pa];split
  ·exact Nat.le_succ_of_le (F5 s x j)
  ·exact zR _
theorem c0s(s:List Iv)(x:Iv):(k0q s x).length=s.length+1:=by have:=F5 s x s.length;simp[k0q];omega
theorem Kz:∀(l acc:List Iv),(l.foldl k0q acc).length=acc.length+l.length
 |[],acc=>by simp
 |x::r,acc=>by rw[xV,Kz r,c0s,yW];omega
theorem f0x(l:List Iv):(Iy l).length=l.length:=by rw[Iy,Kz];simp
end Go.Abs
namespace Go.Abs
open Go Go.Proofs
def Es(l:List Iv):List Iv:=Q0 [] (Iy l)
theorem Eb(ini:List Iv)(y x:Iv):W2 (ini++[y]) x=if x.lo≤y.hi+1 then ini++[⟨y.lo,if y.hi<x.hi then x.hi else y.hi⟩]else ini++[y]++[x]:=by simp[W2]
attribute [local irreducible] Iy
end Go.Abs
namespace Go.Abs
open Go Go.Proofs
attribute [local irreducible] Es
def z2p(l:List Iv):AV:=if d0t l=0 then .tup [LIv (Es l),.i 0]else .tup [.list [],.i (d0t l)]
attribute [local irreducible] Ss
theorem d1y(a b c d:Int):eqA T 9 187 (.agg [.int .i64 a,.int .i64 b]) (.agg [.int .i64 c,.int .i64 d])=some (a==c && b==d):=by simp[eqA,Ye,Hc,TI.agg]
theorem j1f(a b:List Iv):PC Tryz.prog 133 [LIv a,LIv b] (fun r=>r= .bool (decide (a=b))):=by
 refine Qk tOk Tryz.func133 rfl Tryz.results133 rfl (by simp[Tryz.ntmps133]) ?_;rw[Tryz.ntmps133];simp only[Qg];refine Io 0 rfl (fun hlen=> ?_);rw[yK]at hlen;repeat first|(refine r_ ?_;simp)|refine q_ ?_
 refine Qb rfl (fun h=> ?_) (fun h=> ?_)
 ·repeat first|(refine r_ ?_;simp)|refine q_ ?_
  have:a≠b:=fun e=>by subst e;simp at h
  simp[this]
 have zc:a.length=b.length:=by simp at h;omega
 repeat first|(refine r_ ?_;simp)|refine q_ ?_
 refine Qy a.length (fun j=>decide (a=b)=decide (a.drop j=b.drop j)) (fun j=>[(0,LIv a),(1,LIv b),(5,.i j)]) (fun _=>[]) rfl (by simp) (by simp) (by simp) (by simp) (by simp) ?_;intro j hj hI ih;repeat first|(refine r_ ?_;simp)|refine q_ ?_
 refine Qb rfl (fun za=> ?_) (fun zb=> ?_)
 ·have z1:j<a.length:=by simpa using za
  have z6:j<b.length:=by omega
  have z7:(j:Int)<b.length:=by omega
  have hw:IntKind.i64.wrap ((j:Int)+1)=j+1:=wrap_i64 _ (by omega) (by omega);rw[W7 z1,W7 z6]at hI;repeat first|(refine r_ ?_;simp)|refine q_ ?_
  refine Qs tOk mixed [] (.val 0 (.val 1 (.val 2 (.val 3 (.val 4 (.val 5 (.val 6 (.val 7 (.val 8 (.done)))))))))) rfl (by kernel_rfl) ?_;simp[z1,z6,z7,d1y];refine Qb rfl (fun h2=> ?_) (fun h2=> ?_)
  ·repeat first|(refine r_ ?_;simp)|refine q_ ?_
   have:a≠b:=fun e=>by subst e;simp at h2
   simp[this]
  ·repeat first|(refine r_ ?_;simp[hw])|refine q_ ?_
   have he:a[j]=b[j]:=by cases hx:a[j];cases hy:b[j];rw[hx,hy]at h2;simpa using h2
   refine Qz _ (ih z1 ?_) rfl (by simp) ?_ (by simp) (by simp)
   ·rw[hI,he];simp only[List.cons.injEq,true_and]
   ·simp
 ·have z8:j=a.length:=by simp at zb;omega
  subst z8;rw[xS,List.drop_of_length_le (by omega)]at hI;repeat first|(refine r_ ?_;simp)|refine q_ ?_
  simpa using hI
theorem c19(l:List Iv):PC Tryz.prog 112 [LIv l] (fun r=>r= .bool (decide ((l.length:Int)≤12))):=by refine Qk tOk Tryz.func112 rfl Tryz.results112 rfl (by simp[Tryz.ntmps112]) ?_;rw[Tryz.ntmps112];simp only[Qg];repeat first|(refine r_ ?_;simp)|refine q_ ?_
end Go.Abs
namespace Go.Abs
open Go Go.Proofs
attribute [simp] T74
@[simp] def encL (l:List Iv):AV:= .list (l.map encIv)
def w23(l:List Iv):Bool:= !((decide ((12:Int)<l.length) && decide ((l.length:Int)≤254)) || decide ((258:Int)<l.length))
def y21(ls:List (List Iv)):Bool:=ls.all w23
def f1n(l:List Iv):Bool:=decide ((l.length:Int)≤12) && decide (ckR l=0)
def y2w(ls:List (List Iv)):Bool:=ls.all f1n
attribute [local irreducible] ckR
end Go.Abs
namespace Go.Abs
open Go Go.Proofs
structure CanonL (l:List Iv):Prop where
 len:l.length≤256
 one:∀y∈l,Ss y=0
 gap:∀j,∀h:j+1<l.length,l[j].hi+2≤l[j+1].lo
theorem Xx{l:List Iv}{j:Nat}{x:Iv}(h:j<l.length)(hi:Sb l[j]):u0q l (j+1) x=decide (x.lo<l[j].hi+2):=by have h1:=(Em _).1 hi.2;have:W (l[j].hi+2)=l[j].hi+2:=wrap_i64 _ (by omega) (by omega);simp[u0q,h,this]
theorem Gz(l:List Iv)(hl:l.length≤256):∀(n j:Nat),l.length - j=n→j≤l.length→(∀h:0<j,∀h':j - 1<l.length,Ss l[j - 1]=0)→(I5 l j (l.drop j)=0↔(∀i,j≤i→∀h:i<l.length,Ss l[i]=0)∧∀i,j≤i+1→∀h:i+1<l.length,l[i].hi+2≤l[i+1].lo)
 |0,j,hn,hj,_=>by
  have:j=l.length:=by omega
  subst this;rw[xS,I5];exact⟨fun _=>⟨fun i h1 h2=>by omega,fun i h1 h2=>by omega⟩,fun _=>rfl⟩
 |n+1,j,hn,hj,hp=>by
  have z6:j<l.length:=by omega
  rw[W7 z6,I5];by_cases h1:(Ss l[j] != 0)=true
  ·rw[if_pos h1];have z1:Ss l[j]≠0:=by simpa using h1
   exact⟨fun h=>absurd h z1,fun h=>absurd (h.1 j (zR _) z6) z1⟩
  ·rw[if_neg h1];have z1:Ss l[j]=0:=by simpa using h1
   have ih:=Gz l hl n (j+1) (by omega) (by omega) (fun _ _=>z1);by_cases h2:u0q l j l[j]=true
   ·rw[if_pos h2];refine⟨fun h=>(by cases h),fun h=> ?_⟩;rcases j with _|j
    ·simp[u0q]at h2
    ·have hq:Ss l[j]=0:=hp (by omega) (by simp;omega);rw[Xx (by omega) (V0 hq).1]at h2;have:=h.2 j (zR _) z6;simp at h2;omega
   ·rw[if_neg h2,ih];constructor
    ·rintro⟨a,b⟩;refine⟨fun i hi h=> ?_,fun i hi h=> ?_⟩
     ·by_cases e:i=j
      ·subst e;exact z1
      ·exact a i (by omega) h
     ·by_cases e:j=i+1
      ·subst e;have hq:Ss l[i]=0:=hp (by omega) (by simp;omega);rw[Xx (by omega) (V0 hq).1]at h2;simp at h2;exact h2
      ·exact b i (by omega) h
    ·rintro⟨a,b⟩;exact⟨fun i hi h=>a i (by omega) h,fun i hi h=>b i (by omega) h⟩
theorem X0(l:List Iv):ckR l=0↔CanonL l:=by
 rw[ckR];by_cases h:decide ((256:Int)<l.length)=true
 ·rw[if_pos h];simp at h;exact⟨fun e=>(by cases e),fun e=>(by have:=e.len;omega)⟩
 ·rw[if_neg h];simp at h;have hl:l.length≤256:=by omega
  have:=Gz l hl l.length 0 rfl (Nat.zero_le _) (fun h=>by omega);rw[List.drop_zero]at this;rw[this];constructor
  ·rintro⟨a,b⟩;refine⟨hl,fun y hy=> ?_,fun j h=>b j (by omega) h⟩;obtain⟨i,hi,rfl⟩:=xB hy;exact a i (by omega) hi
  ·rintro⟨_,a,b⟩;exact⟨fun i _ h=>a _ (zL h),fun i _ h=>b i h⟩
theorem CanonL.iv{l:List Iv}(h:CanonL l){j:Nat}(hj:j<l.length): -1099511627776≤l[j].lo∧l[j].lo≤l[j].hi∧l[j].hi≤1099511627776:=by obtain⟨⟨h1,h2⟩,h3⟩:=V0 (h.one _ (zL hj));have:=(Em _).1 h1;have:=(Em _).1 h2;omega
def w22:List Iv→Int
 |[]=>0
 |x::r=>(x.hi - x.lo+1)+w22 r
attribute [local irreducible] ckR
end Go.Abs
namespace Go.Abs
open Go Go.Proofs
attribute [local irreducible] ckR
def x05(a b:List Iv):Int:=if ckR a=0 then ckR b else ckR a
def y2j(l:List Iv):AV:=if l.length≤256 then .tup [LIv l,.i 0]else .tup [.list [],.i 5]
def x1v:List Iv→Int→Int×Int
 |[],_=>(0,2)
 |x::r,i=>if i<x.hi - x.lo+1 then(x.lo+i,0)else x1v r (i - (x.hi - x.lo+1))
def atR(l:List Iv)(i:Int):Int×Int:=if ckR l=0 then(if i<0 then(0,2)else x1v l i)else(0,ckR l)
def q06(x:Iv)(n:Int):Int:=if x.hi<n then -1 else if n<x.lo then 1 else 0
theorem j0k(x:Iv)(n:Int):PC Tryz.prog 205 [encIv x,.i n] (fun r=>r= .i (q06 x n)):=by
 refine Qk tOk Tryz.func205 rfl Tryz.results205 rfl (by simp[Tryz.ntmps205]) ?_;rw[Tryz.ntmps205];simp only[Qg];simp only[encIv];repeat first|(refine r_ ?_;simp)|refine q_ ?_
 refine Qb rfl (fun h=> ?_) (fun h=> ?_)
 ·repeat first|(refine r_ ?_;simp)|refine q_ ?_
  rw[q06,if_pos (by simpa using h)]
 repeat first|(refine r_ ?_;simp)|refine q_ ?_
 refine Qb rfl (fun h2=> ?_) (fun h2=> ?_)
 ·repeat first|(refine r_ ?_;simp)|refine q_ ?_
  rw[q06,if_neg (by simpa using h),if_pos (by simpa using h2)]
 repeat first|(refine r_ ?_;simp)|refine q_ ?_
 rw[q06,if_neg (by simpa using h),if_neg (by simpa using h2)]
def O7(l:List Iv)(n:Int):Bool:=l.any fun x=>decide (x.lo≤n) && decide (n≤x.hi)
theorem Om{l:List Iv}(hc:CanonL l):∀ {i j:Nat},i<j→∀(hj:j<l.length),∀(hi:i<l.length),l[i].hi+2≤l[j].lo:=by
 intro i j z1 hj hi;obtain⟨d,rfl⟩:∃d,j=i+1+d:=⟨j - (i+1),by omega⟩
 induction d with
 |zero=>exact hc.gap i hj
 |succ d ih=>
  have h1:=ih (by omega) (by omega);have h2:=hc.gap (i+1+d) (by omega);have h3:=hc.iv (show i+1+d<l.length by omega);have h4:i+1+(d+1)=i+1+d+1:=by omega
  simp only[h4];omega
theorem Hq(x:Iv)(n:Int):q06 x n<0↔x.hi<n:=by
 unfold q06;by_cases h:x.hi<n
 ·rw[if_pos h];simp[h]
 ·rw[if_neg h];by_cases h2:n<x.lo
  ·rw[if_pos h2];simp[h]
  ·rw[if_neg h2];simp[h]
theorem w19(x:Iv)(n:Int):q06 x n=0↔x.lo≤n∧n≤x.hi:=by
 unfold q06;by_cases h:x.hi<n
 ·rw[if_pos h];constructor<;>intro h'<;>omega
 ·rw[if_neg h];by_cases h2:n<x.lo
  ·rw[if_pos h2];constructor<;>intro h'<;>omega
  ·rw[if_neg h2];constructor<;>intro h'<;>omega
theorem d1j{i j m:Nat}(hm:(i+j) / 2=m)(h:i+j≤1000000000):IntKind.i64.wrap ((IntKind.u64.wrap ((i:Int)+j)).fdiv (2 ^ min 1 IntKind.u64.bits))=m:=by
 have h1:IntKind.u64.wrap ((i:Int)+j)=i+j:=by simp[IntKind.wrap,IntKind.bits,IntKind.signed];omega
 have h2:min 1 IntKind.u64.bits=1:=by decide
 rw[h1,h2,Int.fdiv_eq_ediv_of_nonneg _ (by decide),wrap_i64 _ (by omega) (by omega)];omega
attribute [local irreducible] q06
theorem Cn(l:List Iv)(n:Int)(hc:CanonL l):PC Tryz.prog 204 [LIv l,.i n,.fn (.func 205) [] []] (fun r=>∃k:Int,r= .tup [.i k,.bool (O7 l n)]):=by
 refine Qk tOk Tryz.func204 rfl Tryz.results204 rfl (by simp[Tryz.ntmps204]) ?_;rw[Tryz.ntmps204];simp only[Qg];have hlen:=hc.len;repeat first|(refine r_ ?_;simp)|refine q_ ?_
 refine Qo (Qc (sl':=[(0,LIv l),(1,.i n),(2,.fn (.func 205) [] []),(8,.i l.length),(9,.i 0),(10,.i l.length)]) ?_ (by simp));refine Qn (F:=fun(u:Nat×Nat)=>⟨[(0,LIv l),(1,.i n),(2,.fn (.func 205) [] []),(8,.i l.length),(9,.i u.1),(10,.i u.2)],[]⟩) (fun u=>u.1≤u.2∧u.2≤l.length∧(∀k,k<u.1→∀hk:k<l.length,q06 l[k] n<0)∧(∀k,u.2≤k→∀hk:k<l.length,¬q06 l[k] n<0)) (fun u=>u.2 - u.1) ?_ (0,l.length) ⟨by simp,by simp,fun k hk=>by simp at hk,fun k hk z1=>by simp only at hk;omega⟩;rintro⟨i,j⟩ ⟨h1,h2,h3,h4⟩ ih;simp only at h1 h2 h3 h4 ih ⊢;repeat first|(refine r_ ?_;simp)|refine q_ ?_
 refine Qb rfl (fun zd=> ?_) (fun ze=> ?_)
 ·have zf:i<j:=by simpa using zd
  have hw:IntKind.i64.wrap ((i:Int)+j)=i+j:=wrap_i64 _ (by omega) (by omega);obtain⟨m,hm⟩:∃m,(i+j) / 2=m:=⟨_,rfl⟩
  have z8:IntKind.i64.wrap ((IntKind.u64.wrap ((i:Int)+j)).fdiv (2 ^ min 1 IntKind.u64.bits))=m:=d1j hm (by omega);have z6:m<l.length:=by omega
  have za:(m:Int)<l.length:=by omega
  have zg:IntKind.i64.wrap ((m:Int)+1)=m+1:=wrap_i64 _ (by omega) (by omega);repeat first|(refine r_ ?_;simp[hw,z8,z6,za])|refine q_ ?_
  refine Qe rfl rfl (by simp) (j0k l[m] n) rfl ?_;rintro _ rfl;simp;refine Qb rfl (fun h5=> ?_) (fun h5=> ?_)
  ·repeat first|(refine r_ ?_;simp[zg])|refine q_ ?_
   refine Qc (sl':=[(0,LIv l),(1,.i n),(2,.fn (.func 205) [] []),(8,.i l.length),(9,.i (m+1:Nat)),(10,.i j)]) (ih (m+1,j) ⟨by simp only;omega,h2,fun k hk z1=> ?_,h4⟩ (by simp only;omega)) (by simp);have zh:=hc.iv z1;have zi:=hc.iv z6;have z7:q06 l[m] n<0:=by simpa using h5
   by_cases e:k=m
   ·subst e;exact z7
   ·have:=Om hc (show k<m by omega) z6 z1;rw[Hq]at z7 ⊢;omega
  ·repeat first|(refine r_ ?_;simp)|refine q_ ?_
   refine Qc (sl':=[(0,LIv l),(1,.i n),(2,.fn (.func 205) [] []),(8,.i l.length),(9,.i i),(10,.i m)]) (ih (i,m) ⟨by simp only;omega,by simp only;omega,h3,fun k hk z1=> ?_⟩ (by simp only;omega)) (by simp);have zh:=hc.iv z1;have zi:=hc.iv z6;have z7:¬q06 l[m] n<0:=by simpa using h5
   by_cases e:k=m
   ·subst e;exact z7
   ·have:=Om hc (show m<k by omega) z1 z6;rw[Hq]at z7 ⊢;omega
 ·have zb:i=j:=by simp at ze;omega
  subst zb;by_cases hil:i<l.length
  ·repeat first|(refine r_ ?_;simp[hil])|refine q_ ?_
   refine Qe rfl rfl (by simp) (j0k l[i] n) rfl ?_;rintro _ rfl;simp;repeat first|(refine r_ ?_;simp)|refine q_ ?_
   have hh:O7 l n=(q06 l[i] n==0):=by
    rw[xU,beq_iff_eq,w19,O7,wS];constructor
    ·rintro⟨x,hx,zc⟩;obtain⟨k,hk,rfl⟩:=xB hx;simp at zc;have e:k=i:=by
      by_cases e1:k<i
      ·have:=(Hq _ _).1 (h3 k e1 hk);omega
      ·by_cases e2:i<k
       ·have:=Om hc e2 hk hil;have:¬l[i].hi<n:=fun e=>h4 i (zR _) hil ((Hq l[i] n).2 e);omega
       ·omega
     subst e;exact zc
    ·intro h;exact⟨l[i],zL hil,by simpa using h⟩
   rw[hh]
  ·repeat first|(refine r_ ?_;simp[hil])|refine q_ ?_
   refine We rfl rfl ?_;simp;repeat first|(refine r_ ?_;simp)|refine q_ ?_
   have hh:O7 l n=false:=by rw[O7,vw];intro x hx;obtain⟨k,hk,rfl⟩:=xB hx;have:=(Hq _ _).1 (h3 k (by omega) hk);simp;intro _;omega
   rw[hh]
theorem f1f(l:List Iv)(n:Int)(hc:CanonL l):PC Tryz.prog 192 [LIv l,.i n] (fun r=>r= .bool (O7 l n)):=by
 refine Qk tOk Tryz.func192 rfl Tryz.results192 rfl (by simp[Tryz.ntmps192]) ?_;rw[Tryz.ntmps192];simp only[Qg];repeat first|(refine r_ ?_;simp)|refine q_ ?_
 refine Qe rfl rfl (by simp) (Cn l n hc) rfl ?_;rintro _ ⟨k,rfl⟩;simp;repeat first|(refine r_ ?_;simp)|refine q_ ?_
attribute [local irreducible] O7
def c0w(l:List Iv)(n:Int):Bool×Int:=if ckR l=0 then(O7 l n,0)else(false,ckR l)
theorem Fz(l:List Iv)(n:Int):PC Tryz.prog 158 [LIv l,.i n] (fun r=>r= .tup [.bool (c0w l n).1,.i (c0w l n).2]):=by
 refine Qk tOk Tryz.func158 rfl Tryz.results158 rfl (by simp[Tryz.ntmps158]) ?_;rw[Tryz.ntmps158];simp only[Qg];repeat first|(refine r_ ?_;simp)|refine q_ ?_
 refine Qe rfl rfl (by simp) (q0o l) rfl ?_;rintro _ rfl;simp;repeat first|(refine r_ ?_;simp)|refine q_ ?_
 refine Qb rfl (fun h=> ?_) (fun h=> ?_)
 ·repeat first|(refine r_ ?_;simp)|refine q_ ?_
  rw[c0w,if_neg (by simpa using h)];exact⟨rfl,rfl⟩
 have h0:ckR l=0:=by simpa using h
 repeat first|(refine r_ ?_;simp)|refine q_ ?_
 refine Qe rfl rfl (by simp) (f1f l n ((X0 l).1 h0)) rfl ?_;rintro _ rfl;simp;repeat first|(refine r_ ?_;simp)|refine q_ ?_
 rw[c0w,if_pos h0];exact⟨rfl,rfl⟩
end Go.Abs
namespace Go.Abs
open Go Go.Proofs
attribute [local irreducible] ckR
def z2i(d:Int)(x:Iv):Option Iv:=
 let a:=if x.lo+d< -1099511627776 then -1099511627776 else x.lo+d
 let b:=if 1099511627776<x.hi+d then 1099511627776 else x.hi+d
 if a≤b then some ⟨a,b⟩else none
def z2u(l:List Iv)(d:Int):List Iv×Int:=if ckR l=0 then(if d< -2199023255552∨2199023255552<d then([],0)else(l.filterMap (z2i d),0))else([],ckR l)
end Go.Abs
namespace Go.Abs
open Go Go.Proofs
def z2t(ls:List (List Iv)):List Iv:=ls.flatten
attribute [local irreducible] z2t
end Go.Abs
namespace Go.Abs
open Go Go.Proofs Go.RowKit Go.Shelf Go.Lib Go.Sort
def R9(zs:List Int):List Int:=zs.mergeSort fun x y=>decide (x≤y)
theorem Ag(zs:List Int):(R9 zs).length=zs.length:=by simp[R9]
theorem Kp(H:List AObj)(p:Nat)(zs:List Int)(hp:H[p]? =some (.arr 3 1 (zs.map (AV.int .i64))))(hl:zs.length≤1000000):
  FC Tryz.prog 176 [.sl p 1 0 zs.length] H (fun r H'=>r= .tup []∧H'=H.set p (.arr 3 1 ((R9 zs).map (AV.int .i64)))):=by
 refine(j0s (xs:=zs.map (AV.int .i64)) (rest:=[]) (Tw Tryz.func176 rfl rfl) (by simp) hp (q2p zs) [] (fun w I m vs a b=>by simpa using a) (fun z1=>z1=(R9 zs).map (AV.int .i64)) ?_ ?_).mono ?_
 ·intro b cap w hH hb hc;have:=Tryz.slices_Sort_int b 0 cap zs w (Vv hH) hb (by omega);refine Calls.mono (by simpa using this) ?_;rintro e w' ⟨rfl,n,os,rfl⟩;exact⟨rfl,_,((R9 zs).map (Value.int .i64)).toArray,n,os,rfl,by simp[Ag],q2p _,by rw[J4];rfl⟩
 ·rintro h;have z6:zs=[]:=by simpa using h
  subst z6;exact⟨by simp[R9],fun w=>by simpa using Tryz.slices_Sort_int_none none 0 w⟩
 ·rintro r H' ⟨rfl,z1,rfl,rfl⟩;exact⟨rfl,rfl⟩
theorem A5(H:List AObj)(p:Nat)(zs:List Int)(hp:H[p]? =some (.arr 3 1 (zs.map (AV.int .i64))))(hl:zs.length≤1000000)(z6:(Lib.compact zs).length≤zs.length):
  FC Tryz.prog 177 [.sl p 1 0 zs.length] H (fun r H'=>r= .sl p 1 0 (Lib.compact zs).length∧∃G:List Int,H'=H.set p (.arr 3 1 ((Lib.compact zs++G).map (AV.int .i64)))):=by
 refine(j1q (xs:=zs.map (AV.int .i64)) (Tw Tryz.func177 rfl rfl) (by simp) hp (q2p zs) (fun z1 n=>n=(Lib.compact zs).length∧∃G:List Int,z1=(Lib.compact zs++G).map (AV.int .i64)) (fun ys n h=>by rw[h.1];exact z6) ?_ ?_).mono ?_
 ·intro b cap w hH hb hc hm;have:=Tryz.slices_Compact_int b 0 cap zs w (Vv hH) (by omega) hc;refine Calls.mono (by simpa using this) ?_;rintro e w' ⟨rfl,q,rfl⟩;exact⟨_,((Lib.compact zs++yF (zs.length - (Lib.compact zs).length) 0).map (Value.int .i64)).toArray,q,_,rfl,⟨rfl,_,rfl⟩,by simp;omega,q2p _,by rw[←J4]⟩
 ·rintro h;have z7:zs=[]:=by simpa using h
  subst z7;exact⟨⟨rfl,[],rfl⟩,fun w=>by simpa using Tryz.slices_Compact_int_empty none 0 w⟩
 ·rintro r H' ⟨z1,n,rfl,⟨rfl,G,rfl⟩,rfl⟩;exact⟨rfl,G,rfl⟩
end Go.Abs
namespace Go.Abs
open Go Go.Proofs
attribute [simp] T40
def Ns:List Iv→List Int
 |[]=>[]
 |x::r=>x.lo::(x.hi+1)::Ns r
theorem q0h:∀(l:List Iv) (x:Iv),Ns (l++[x])=Ns l++[x.lo,x.hi+1]
 |[],x=>rfl
 |y::r,x=>by rw[uG,Ns,q0h r,Ns];rfl
theorem d0k:∀(l:List Iv),(Ns l).length=2 * l.length
 |[]=>rfl
 |x::r=>by rw[Ns,yW,yW,d0k r,yW];omega
def v0z(l:List Iv):List Int:=Lib.compact (R9 (Ns l))
def x1t(f:Int→Bool):List Int→List Iv→List Iv
 |c::d::r,acc=>x1t f (d::r) (if f c=true then W2 acc ⟨c,d - 1⟩else acc)
 |_,acc=>acc
def q0r(op:Bool→Bool→Bool)(a b:List Iv):List Iv:=x1t (fun n=>op (O7 a n) (O7 b n)) (v0z (a++b)) []
theorem Pn(zs:List Int):(Lib.compact zs).length≤zs.length:=by unfold Lib.compact Lib.compactUpTo;rw[yK];exact Nat.le_trans (xR _ _) (by simp)
attribute [local irreducible] ckR O7 z2t W2 R9 Lib.compact Ns
end Go.Abs
namespace Go.Abs
open Go Go.Proofs
attribute [local irreducible] ckR q0r
def k1s(x y:Bool):Bool:=x && !y
def d1w(op:Bool→Bool→Bool)(a b:List Iv):AV:=if x05 a b=0 then y2j (q0r op a b)else .tup [.list [],.i (x05 a b)]
attribute [local irreducible] x05
attribute [local irreducible] d1w
end Go.Abs
namespace Go.Abs
theorem push_comm(acc:List Iv)(x y:Iv)(h:x.lo=y.lo)(hx:x.lo≤x.hi)(hy:y.lo≤y.hi):W2 (W2 acc x) y=W2 (W2 acc y) x:=by
 have one:∀(u v:Iv),u.lo=v.lo→u.lo≤u.hi→∀ini:List Iv,W2 (ini++[u]) v=ini++[⟨u.lo,if u.hi<v.hi then v.hi else u.hi⟩]:=fun u v z6 hu ini=>by rw[Eb,if_pos (by omega)]
 rcases wO acc with rfl|⟨ini,z,rfl⟩
 ·have e1:W2 [] x=[]++[x]:=rfl;have e2:W2 [] y=[]++[y]:=rfl;rw[e1,e2,one x y h hx,one y x h.symm hy,h]
  congr 3
  split<;>split<;>omega
 ·rw[wP];by_cases hz:x.lo≤z.hi+1
  ·have z1:∀(w u:Iv),u.lo≤w.hi+1→W2 (ini++[w]) u=ini++[⟨w.lo,if w.hi<u.hi then u.hi else w.hi⟩]:=fun w u h=>by rw[Eb,if_pos h]
   rw[z1 z x hz,z1 z y (by omega),z1 _ y (by simp only;split<;>omega),z1 _ x (by simp only;split<;>omega)]
   congr 3
   simp only;repeat split
   all_goals omega
  ·have ap:∀u:Iv,u.lo=x.lo→W2 (ini++[z]) u=ini++[z]++[u]:=fun u h=>by rw[Eb,if_neg (by omega)]
   rw[ap x rfl,ap y h.symm,one x y h hx,one y x h.symm hy,h]
   congr 3
   split<;>split<;>omega
theorem Dd:∀(A:List Iv) (acc:List Iv) (x:Iv) (B:List Iv),(∀y∈A,y.lo=x.lo∧y.lo≤y.hi)→x.lo≤x.hi→Q0 acc (A++x::B)=Q0 acc (x::(A++B))
 |[],acc,x,B,_,_=>rfl
 |y::A,acc,x,B,h,hx=>by have hy:=h y (by simp);have ih:=Dd A (W2 acc y) x B (fun z hz=>h z (by simp[hz])) hx;simp only[Q0,uG,xV]at ih ⊢;rw[ih,push_comm acc y x hy.1 hy.2 hx]
theorem Fu:∀(l l':List Iv) (acc:List Iv),l.Perm l'→Xn l→Xn l'→(∀y∈l,y.lo≤y.hi)→Q0 acc l=Q0 acc l'
 |[],l',acc,hp,_,_,_=>by rw[hp.nil_eq]
 |x::l,l',acc,hp,h1,h2,hf=>by
  obtain⟨A,B,rfl⟩:=List.append_of_mem (hp.mem_iff.1 (List.mem_cons_self));have z6:l.Perm (A++B):=(List.perm_cons x).1 (hp.trans vE);have hA:∀y∈A,y.lo=x.lo∧y.lo≤y.hi:=fun y hy=>by
   have z1:y∈x::l:=hp.mem_iff.2 (by simp[hy]);have a1:y.lo≤x.lo:=(yH.1 h2).2.2 y hy x (by simp);have a2:x.lo≤y.lo:=by
    rcases yB.1 z1 with rfl|h
    ·exact xO _
    ·exact(yU.1 h1).1 y h
   exact⟨by omega,hf y z1⟩
  rw[Dd A acc x B hA (hf x (by simp))];have hb:Xn (A++B):=h2.sublist (List.Sublist.append_left (List.sublist_cons_self x B) A);exact Fu l (A++B) (W2 acc x) z6 (yU.1 h1).2 hb (fun y hy=>hf y (by simp[hy]))
end Go.Abs
namespace Go.Abs
theorem k0t(s:List Iv)(x:Iv):(k0q s x).Perm (x::s):=by unfold k0q;refine vE.trans ?_;rw[xW]
theorem G9(s:List Iv)(x:Iv):∀j,j≤s.length→(∀k,Pa s x j≤k→k<j→∀h:k<s.length,x.lo<s[k].lo)∧(∀k,k+1=Pa s x j→∀h:k<s.length,s[k].lo≤x.lo)
 |0,_=>⟨fun k _ h=>by omega,fun k h=>by simp[Pa]at h⟩
 |j+1,hj=>by
  obtain⟨a,b⟩:=G9 s x j (by omega);have hg:q24 s j x=decide (x.lo<s[j].lo):=by simp[q24,show j<s.length by omega]
  rw[Pa,hg];by_cases h:decide (x.lo<s[j].lo)=true
  ·rw[if_pos h];refine⟨fun k h1 h2 h3=> ?_,b⟩;by_cases e:k=j
   ·subst e;simpa using h
   ·exact a k h1 (by omega) h3
  ·rw[if_neg h];refine⟨fun k h1 h2=>by omega,fun k h1 h2=> ?_⟩;have e:k=j:=by omega
   subst e;simp at h;omega
theorem f0o(s:List Iv)(x:Iv)(hs:Xn s):Xn (k0q s x):=by
 obtain⟨a,b⟩:=G9 s x s.length (zR _);have hq:=F5 s x s.length;unfold k0q;generalize Pa s x s.length=q at a b hq;have z6:∀i j,i<j→∀hi:i<s.length,∀hj:j<s.length,s[i].lo≤s[j].lo:=fun i j h hi hj=>yQ.1 hs i j hi hj h;have z7:∀y∈s.take q,y.lo≤x.lo:=fun y hy=>by
  obtain⟨i,hi,rfl⟩:=xB hy;have za:i<q:=by rw[List.length_take]at hi;omega
  rw[tp];have h1:=b (q - 1) (by omega) (by omega);by_cases e:i=q - 1
  ·subst e;exact h1
  ·have:=z6 i (q - 1) (by omega) (by omega) (by omega);omega
 have z8:∀y∈s.drop q,x.lo≤y.lo:=fun y hy=>by obtain⟨i,hi,rfl⟩:=xB hy;rw[List.length_drop]at hi;rw[List.getElem_drop];have:=a (q+i) (by omega) (by omega) (by omega);omega
 have z1:=hs;unfold Xn at z1 ⊢;rw[←xW q s,yH]at z1;obtain⟨p1,p2,p3⟩:=z1;refine yH.2 ⟨p1,yU.2 ⟨z8,p2⟩,fun y hy z hz=> ?_⟩;rcases yB.1 hz with rfl|h
 ·exact z7 y hy
 ·exact p3 y hy z h
theorem G5:∀(l acc:List Iv),Xn acc→(l.foldl k0q acc).Perm (acc++l)∧Xn (l.foldl k0q acc)
 |[],acc,h=>⟨by simp,h⟩
 |x::r,acc,h=>by obtain⟨a,b⟩:=G5 r (k0q acc x) (f0o acc x h);refine⟨a.trans ?_,b⟩;exact((k0t acc x).append_right r).trans vE.symm
theorem Od(l:List Iv):(Iy l).Perm l∧Xn (Iy l):=by have:=G5 l [] .nil;simpa[Iy]using this
end Go.Abs
namespace Go.Abs
def M(l:List Iv)(n:Int):Prop:=∃x∈l,x.lo≤n∧n≤x.hi
def Sep(l:List Iv):Prop:=(∀x∈l,x.lo≤x.hi)∧l.Pairwise (fun x y=>x.hi+2≤y.lo)
theorem By(n:Int):M [] n↔False:=by simp[M]
theorem Et(x:Iv)(l:List Iv)(n:Int):M (x::l) n↔(x.lo≤n∧n≤x.hi)∨M l n:=by simp[M]
theorem Z6(a b:List Iv)(n:Int):M (a++b) n↔M a n∨M b n:=by simp[M,or_and_right,exists_or]
theorem Nq(l:List Iv)(n:Int):O7 l n=true↔M l n:=by simp[O7,M]
theorem Sep.tail{x:Iv}{l:List Iv}(h:Sep (x::l)):Sep l:=⟨fun y hy=>h.1 y (by simp[hy]),(yU.1 h.2).2⟩
theorem Sep.low{x:Iv}{l:List Iv}(h:Sep (x::l)){n:Int}(hm:M l n):x.hi+2≤n:=by obtain⟨y,hy,h1,h2⟩:=hm;have:=(yU.1 h.2).1 y hy;omega
theorem Sep.lowc{x:Iv}{l:List Iv}(h:Sep (x::l)){n:Int}(hm:M (x::l) n):x.lo≤n:=by
 rcases(Et ..).1 hm with h1|h1
 ·exact h1.1
 ·have:=h.low h1;have:=h.1 x (by simp);omega
theorem g0y:∀(a b:List Iv),Sep a→Sep b→(∀n,M a n↔M b n)→a=b
 |[],[],_,_,_=>rfl
 |[],y::b,_,hb,h=>by have:=(h y.lo).2 ((Et ..).2 (.inl ⟨xO _,hb.1 y (by simp)⟩));exact absurd this (by simp[M])
 |x::a,[],ha,_,h=>by have:=(h x.lo).1 ((Et ..).2 (.inl ⟨xO _,ha.1 x (by simp)⟩));exact absurd this (by simp[M])
 |x::a,y::b,ha,hb,h=>by
  have hx:=ha.1 x (by simp);have hy:=hb.1 y (by simp);have e1:x.lo=y.lo:=by have h1:=hb.lowc ((h x.lo).1 ((Et ..).2 (.inl ⟨xO _,hx⟩)));have h2:=ha.lowc ((h y.lo).2 ((Et ..).2 (.inl ⟨xO _,hy⟩)));omega
  have e2:x.hi=y.hi:=by
   rcases tx x.hi y.hi with hlt|heq|hgt
   ·rcases(Et ..).1 ((h (x.hi+1)).2 ((Et ..).2 (.inl ⟨by omega,by omega⟩)))with h1|h1
    ·omega
    ·have:=ha.low h1;omega
   ·exact heq
   ·rcases(Et ..).1 ((h (y.hi+1)).1 ((Et ..).2 (.inl ⟨by omega,by omega⟩)))with h1|h1
    ·omega
    ·have:=hb.low h1;omega
  have e3:x=y:=by cases x;cases y;simp_all
  subst e3;rw[g0y a b ha.tail hb.tail fun n=>⟨fun hm=> ?_,fun hm=> ?_⟩]
  ·have h1:=ha.low hm;rcases(Et ..).1 ((h n).1 ((Et ..).2 (.inr hm)))with h2|h2
   ·omega
   ·exact h2
  ·have h1:=hb.low hm;rcases(Et ..).1 ((h n).2 ((Et ..).2 (.inr hm)))with h2|h2
   ·omega
   ·exact h2
theorem G7{l:List Iv}(h:CanonL l):Sep l:=
 ⟨fun x hx=>(V0 (h.one x hx)).2,yQ.2 fun _ _ hi hj z1=>Om h z1 hj hi⟩
theorem Zi{l:List Iv}(h:CanonL l):∀x∈l,Sb x:=fun x hx=>(V0 (h.one x hx)).1
theorem j1o{l:List Iv}(h:CanonL l){n:Int}(hm:M l n): -1099511627776≤n∧n≤1099511627776:=by obtain⟨x,hx,h1,h2⟩:=hm;have h3:=Zi h x hx;have h4:=(Em _).1 h3.1;have h5:=(Em _).1 h3.2;omega
theorem Gb{l:List Iv}(h:Sep l)(hi:∀x∈l,Sb x)(hl:l.length≤256):CanonL l:=
 ⟨hl,fun y hy=>by
  have h1:=hi y hy;have h2:=h.1 y hy;have h4:=h1.1;have h5:=h1.2;simp[Ss,h4,h5];omega,fun j hj=>yQ.1 h.2 j (j+1) (by omega) hj (by omega)⟩
theorem c01(acc:List Iv)(x:Iv)(ha:Sep acc)(hx:x.lo≤x.hi)(hle:∀y∈acc,y.lo≤x.lo):
  Sep (W2 acc x)∧(∀n,M (W2 acc x) n↔M acc n∨(x.lo≤n∧n≤x.hi))∧(∀z,x.lo≤z→∀y∈W2 acc x,y.lo≤z):=by
 rcases wO acc with rfl|⟨ini,y,rfl⟩
 ·have e:W2 [] x=[x]:=rfl;rw[e];exact⟨⟨fun y hy=>by simp at hy;subst hy;exact hx,by simp⟩,fun n=>by simp[M],fun z hz y hy=>by simp at hy;subst hy;exact hz⟩
 ·rw[wP]at ha hle ⊢;rw[Eb];have hy:=ha.1 y (by simp);have z1:=hle y (by simp);obtain⟨p1,p2,p3⟩:=yH.1 ha.2;split
  ·rename_i hj;refine⟨⟨fun z hz=> ?_,yH.2 ⟨p1,by simp,fun u hu v hv=> ?_⟩⟩,fun n=> ?_,fun z hz u hu=> ?_⟩
   ·rcases zU.1 hz with h|h
    ·exact ha.1 z (by simp[h])
    ·simp at h;subst h;simp only;split<;>omega
   ·simp at hv;subst hv;exact p3 u hu y (by simp)
   ·rw[Z6,Z6,Et,Et,By];simp only[or_false];by_cases hm:M ini n
    ·simp[hm]
    ·simp only[hm,false_or];split<;>omega
   ·rcases zU.1 hu with h|h
    ·have:=hle u (by simp[h]);omega
    ·simp at h;subst h;simp only;omega
  ·rename_i hj;refine⟨⟨fun z hz=> ?_,yH.2 ⟨ha.2,by simp,fun u hu v hv=> ?_⟩⟩,fun n=>by rw[Z6,Et,By];simp,fun z hz u hu=> ?_⟩
   ·rcases zU.1 hz with h|h
    ·exact ha.1 z h
    ·simp at h;subst h;exact hx
   ·simp at hv;subst hv;rcases zU.1 hu with h|h
    ·have:=p3 u h y (by simp);omega
    ·simp at h;subst h;omega
   ·rcases zU.1 hu with h|h
    ·have:=hle u h;omega
    ·simp at h;subst h;exact hz
theorem Sn:∀(l acc:List Iv),Sep acc→Xn l→(∀x∈l,x.lo≤x.hi)→(∀y∈acc,∀x∈l,y.lo≤x.lo)→
  Sep (Q0 acc l)∧∀n,M (Q0 acc l) n↔M acc n∨M l n
 |[],acc,ha,_,_,_=>⟨ha,fun n=>by simp[Q0,M]⟩
 |x::l,acc,ha,hb,hf,hle=>by have hp:=c01 acc x ha (hf x (by simp)) (fun y hy=>hle y hy x (by simp));have ih:=Sn l (W2 acc x) hp.1 (yU.1 hb).2 (fun y hy=>hf y (by simp[hy])) (fun y hy z hz=>hp.2.2 z.lo ((yU.1 hb).1 z hz) y hy);refine⟨ih.1,fun n=> ?_⟩;have e:Q0 acc (x::l)=Q0 (W2 acc x) l:=rfl;rw[e,ih.2 n,hp.2.1 n,Et,or_assoc]
theorem Ng:Sep []:=⟨by simp,by simp⟩
theorem g1j{a b:List Iv}(h:a.Perm b)(n:Int):M a n↔M b n:=by simp only[M];exact⟨fun⟨x,hx,h1⟩=>⟨x,h.mem_iff.1 hx,h1⟩,fun⟨x,hx,h1⟩=>⟨x,h.mem_iff.2 hx,h1⟩⟩
theorem Ul(l:List Iv)(hf:∀x∈l,x.lo≤x.hi):Sep (Es l)∧∀n,M (Es l) n↔M l n:=by have hs:=Od l;have h:=Sn (Iy l) [] Ng hs.2 (fun x hx=>hf x (hs.1.mem_iff.1 hx)) (by simp);refine⟨h.1,fun n=> ?_⟩;rw[Es,h.2 n,By,false_or,g1j hs.1]
def pieces(f:Int→Bool):List Int→List Iv
 |c::d::r=>(if f c=true then [⟨c,d - 1⟩]else [])++pieces f (d::r)
 |_=>[]
end Go.Abs
namespace Go.Abs
open Go Go.Proofs
attribute [local irreducible] d1w x05 q0r
def w29(x y:Bool):Bool:=x || y
def z2l(x y:Bool):Bool:=x && y
def w2p(a b:List Iv):Bool×Int:=if x05 a b=0 then(decide (q0r k1s a b=[]),0)else(false,x05 a b)
end Go.Abs
namespace Go.Abs
open Go Go.Proofs
def Rh:List Iv→Int→List Iv
 |[],n=>if n≤1099511627776 then [⟨n,1099511627776⟩]else []
 |x::r,n=>(if n<x.lo then [⟨n,x.lo - 1⟩]else [])++Rh r (x.hi+1)
def Ez(l:List Iv):List Iv:=Rh l (-1099511627776)
end Go.Abs
namespace Go.Abs
open Go
theorem v0v:∀(l:List Iv) (z:Int),z∈Ns l↔∃x∈l,z=x.lo∨z=x.hi+1
 |[],z=>by simp[Ns]
 |y::r,z=>by rw[Ns,yB,yB,v0v r z];simp[or_assoc]
theorem Cd(zs:List Int)(hs:zs.Pairwise (·≤·)):∀m,m≤zs.length→
  (Lib.compactUpTo zs.toArray m).Pairwise (·<·)∧(∀z,z∈Lib.compactUpTo zs.toArray m↔z∈zs.take m):=by
 intro m;induction m with
 |zero=>exact fun _=>⟨by simp[Lib.compactUpTo],by simp[Lib.compactUpTo]⟩
 |succ m ih=>
  intro hm;obtain⟨h1,h2⟩:=ih (by omega);have z1:m<zs.length:=by omega
  have hg:zs.toArray[m]! =zs[m]:=by simp[z1]
  rw[Lib.compactUpTo_succ];have ht:zs.take (m+1)=zs.take m++[zs[m]]:=by rw[List.take_succ_eq_append_getElem z1]
  by_cases hk:Lib.keeps zs.toArray m=true
  ·rw[if_pos hk,hg,ht];refine⟨yH.2 ⟨h1,by simp,fun u hu v hv=> ?_⟩,fun z=>by rw[zU,zU,h2]⟩;simp at hv;subst hv;obtain⟨i,hi,rfl⟩:=xB ((h2 u).1 hu);have za:i<m:=by simp at hi;omega
   rw[tp];have zb:zs[m]≠zs[m - 1]:=by
    simp[Lib.keeps]at hk;have z6:m≠0:=by omega
    have hk:=hk.resolve_left z6;simpa[z1,show m - 1<zs.length by omega]using hk
   have a1:zs[i]≤zs[m - 1]:=by
    rcases Nat.lt_or_ge i (m - 1)with h|h
    ·exact yQ.1 hs i (m - 1) (by omega) (by omega) h
    ·have:i=m - 1:=by omega
     subst this;exact xO _
   have a2:zs[m - 1]≤zs[m]:=yQ.1 hs (m - 1) m (by omega) (by omega) (by omega);omega
  ·rw[if_neg hk,List.append_nil,ht];refine⟨h1,fun z=> ?_⟩;rw[h2,zU];refine⟨.inl,fun h=>h.elim id fun h=> ?_⟩;simp at h;subst h;simp only[Lib.keeps,decide_eq_true_eq,not_or]at hk;have z7:m - 1<zs.length:=by omega
   have z8:zs[m]=zs[m - 1]:=by simpa[z1,z7]using hk.2
   rw[z8];exact List.mem_take_iff_getElem.2 ⟨m - 1,by omega,rfl⟩
theorem f03(l:List Iv):(v0z l).Pairwise (·<·)∧∀z,z∈v0z l↔∃x∈l,z=x.lo∨z=x.hi+1:=by
 have hs:(R9 (Ns l)).Pairwise (·≤·):=by have:=uP (le:=fun x y:Int=>decide (x≤y)) (fun a b c h1 h2=>by simp at h1 h2 ⊢;omega) (fun a b=>by simp;omega) (Ns l);simpa[R9]using this
 have h:=Cd _ hs _ (zR _);refine⟨h.1,fun z=> ?_⟩;have h2:=h.2 z;rw[y_]at h2;rw[v0z,Lib.compact,h2,R9,tl,v0v]
theorem g07(l:List Iv)(cs:List Int)(h:∀x∈l,x.lo∈cs∧x.hi+1∈cs)(c n:Int)(hc:c≤n)(hm:∀d∈cs,d≤n→d≤c):O7 l n=O7 l c:=by
 rw[xU,Nq,Nq];constructor
 ·rintro⟨x,hx,h1,h2⟩;have:=hm _ (h x hx).1 h1;exact⟨x,hx,this,by omega⟩
 ·rintro⟨x,hx,h1,h2⟩;refine⟨x,hx,by omega,?_⟩;by_cases hn:x.hi+1≤n
  ·have:=hm _ (h x hx).2 hn;omega
  ·omega
theorem w0i{l:List Iv}(h:Sep l)(hb:∀n,M l n→ -1099511627776≤n∧n≤1099511627776):∀x∈l,Sb x:=fun x hx=>
 ⟨(Em _).2 (hb _ ⟨x,hx,xO _,h.1 x hx⟩),(Em _).2 (hb _ ⟨x,hx,h.1 x hx,xO _⟩)⟩
theorem Ih:∀(l:List Iv) (s:Int),(∀x∈l,x.lo≤x.hi∧x.hi≤1099511627776)→l.Pairwise (fun x y=>x.hi+2≤y.lo)→(∀x∈l,s≤x.lo)→
  Sep (Rh l s)∧(∀n,M (Rh l s) n↔s≤n∧n≤1099511627776∧¬M l n)∧(Rh l s).length≤l.length+1
 |[],s,_,_,_=>by
  rw[Rh];split
  ·exact⟨⟨fun x hx=>by simp at hx;subst hx;assumption,by simp⟩,fun n=>by rw[Et,By];simp[By],by simp⟩
  ·exact⟨Ng,fun n=>by simp[By];omega,by simp⟩
 |x::l,s,hf,hp,hs=>by
  have hx:=hf x (by simp);have z7:=hs x (by simp);have z1:=(yU.1 hp).1;obtain⟨i1,i2,i3⟩:=Ih l (x.hi+1) (fun y hy=>hf y (by simp[hy])) (yU.1 hp).2 (fun y hy=>by have:=z1 y hy;omega);have z6:∀n,M l n→x.hi+2≤n:=by rintro n ⟨y,hy,h1,h2⟩;have:=z1 y hy;omega
  rw[Rh];split
  ·refine⟨⟨fun y hy=> ?_,?_⟩,fun n=> ?_,by simp;omega⟩
   ·rcases zU.1 hy with h|h
    ·simp at h;subst h;simp only;omega
    ·exact i1.1 y h
   ·refine yH.2 ⟨by simp,i1.2,fun u hu v hv=> ?_⟩;simp at hu;subst hu;have:=(i2 v.lo).1 ⟨v,hv,xO _,i1.1 v hv⟩;simp only;omega
   ·rw[Z6,i2,Et,By,Et];by_cases hm:M l n
    ·have:=z6 n hm;simp[hm];omega
    ·simp only[hm,not_false_eq_true,and_true,or_false];omega
  ·refine⟨⟨fun y hy=>i1.1 y (by simpa using hy),by simpa using i1.2⟩,fun n=> ?_,by simp;omega⟩;rw[List.nil_append,i2,Et];by_cases hm:M l n
   ·simp[hm]
   ·simp only[hm,not_false_eq_true,and_true,or_false];omega
theorem Ic{l:List Iv}(h:CanonL l):Sep (Ez l)∧(∀n,M (Ez l) n↔(-1099511627776≤n∧n≤1099511627776)∧¬M l n)∧(Ez l).length≤l.length+1:=by have hs:=G7 h;have hi:=Zi h;have:=Ih l (-1099511627776) (fun x hx=>⟨hs.1 x hx,((Em _).1 (hi x hx).2).2⟩) hs.2 (fun x hx=>((Em _).1 (hi x hx).1).1);exact⟨this.1,fun n=>by rw[Ez,this.2.1,and_assoc],this.2.2⟩
def y0n(x y:Iv):Option Iv:=if(if x.lo<y.lo then y.lo else x.lo)≤(if y.hi<x.hi then y.hi else x.hi)then some ⟨if x.lo<y.lo then y.lo else x.lo,if y.hi<x.hi then y.hi else x.hi⟩else none
def Vh(a b:List Iv):List Iv:=a.flatMap fun x=>b.filterMap (y0n x)
theorem Vf{x y z:Iv}(h:y0n x y=some z):z.lo≤z.hi∧∀n,(z.lo≤n∧n≤z.hi)↔(x.lo≤n∧n≤x.hi)∧(y.lo≤n∧n≤y.hi):=by
 unfold y0n at h;by_cases hle:(if x.lo<y.lo then y.lo else x.lo)≤(if y.hi<x.hi then y.hi else x.hi)
 ·rw[if_pos hle]at h;cases h;refine⟨hle,fun n=> ?_⟩;simp only;split<;>split<;>omega
 ·rw[if_neg hle]at h;cases h
theorem c1n{x y:Iv}{n:Int}(h1:x.lo≤n∧n≤x.hi)(h2:y.lo≤n∧n≤y.hi):∃z,y0n x y=some z∧z.lo≤n∧n≤z.hi:=by
 unfold y0n;have:(if x.lo<y.lo then y.lo else x.lo)≤(if y.hi<x.hi then y.hi else x.hi):=by split<;>split<;>omega
 rw[if_pos this];refine⟨_,rfl,?_,?_⟩<;>simp only<;>split<;>omega
theorem Kn(a b:List Iv):(∀x∈Vh a b,x.lo≤x.hi)∧∀n,M (Vh a b) n↔M a n∧M b n:=by
 constructor
 ·intro z hz;obtain⟨x,_,hz⟩:=wI.1 hz;obtain⟨y,_,h⟩:=vv.1 hz;exact(Vf h).1
 ·intro n;constructor
  ·rintro⟨z,hz,h1⟩;obtain⟨x,hx,hz⟩:=wI.1 hz;obtain⟨y,hy,h⟩:=vv.1 hz;have:=((Vf h).2 n).1 h1;exact⟨⟨x,hx,this.1⟩,⟨y,hy,this.2⟩⟩
  ·rintro⟨⟨x,hx,h1⟩,⟨y,hy,h2⟩⟩;obtain⟨z,hz,h3⟩:=c1n h1 h2;exact⟨z,wI.2 ⟨x,hx,vv.2 ⟨y,hy,hz⟩⟩,h3⟩
def Gl(a b:List Iv):List Iv:=Es (Vh a b)
theorem Of(a b:List Iv):Sep (Gl a b)∧∀n,M (Gl a b) n↔M a n∧M b n:=by have h:=Ul (Vh a b) (Kn a b).1;exact⟨h.1,fun n=>by rw[Gl,h.2,(Kn a b).2]⟩
end Go.Abs
namespace Go.Abs
open Go
def b2(b:Bool):Int:=if b=true then 1 else 0
def cnt(p:Int→Bool)(A:Int):Nat→Int
 |0=>0
 |n+1=>cnt p A n+b2 (p (A+n))
def inI(lo hi k:Int):Bool:=decide (lo≤k) && decide (k≤hi)
theorem B6(lo hi k:Int):inI lo hi k=true↔lo≤k∧k≤hi:=by simp[inI]
theorem q1n(x:Iv)(l:List Iv)(k:Int):O7 (x::l) k=(inI x.lo x.hi k || O7 l k):=by simp[O7,inI]
end Go.Abs
namespace Go.Abs
open Go
end Go.Abs
namespace Go.Abs
open Go
end Go.Abs
namespace Go.Abs
open Go
def y25(x y:Iv):Bool:=decide (y.lo<x.lo) && decide (x.lo≤y.hi)
def y23(x y:Iv):Bool:=decide (x.lo≤y.lo) && decide (y.lo≤x.hi)
end Go.Abs
namespace Go.Abs
abbrev Prd:=List (List Iv)
def PM(p:Prd)(t:Nat)(n:Int):Prop:=∃s,p[t]? =some s∧M s n
def inR(n:Int):Prop:= -1099511627776≤n∧n≤1099511627776
def PWf(T:Nat)(p:Prd):Prop:=p.length=T∧∀s∈p,Sep s∧∀n,M s n→inR n
theorem PWf.lt{T:Nat}{p:Prd}(h:PWf T p){t:Nat}{n:Int}(hm:PM p t n):t<T∧inR n:=by obtain⟨s,hs,hn⟩:=hm;exact⟨by rw[←h.1];exact(zB.1 hs).1,(h.2 s (zH hs)).2 n hn⟩
theorem I1{T:Nat}{p q:Prd}(hp:PWf T p)(hq:PWf T q)(h:∀t n,PM p t n↔PM q t n):p=q:=by apply List.ext_getElem (by rw[hp.1,hq.1]);intro i h1 h2;refine g0y _ _ (hp.2 _ (zL h1)).1 (hq.2 _ (zL h2)).1 fun n=> ?_;have:=h i n;unfold PM at this;rw[zJ h1,zJ h2]at this;simpa using this
def U2(t:Nat)(n:Int)(t':Nat)(n':Int):Prop:=t<t'∨t=t'∧n<n'
theorem U2.irr{t:Nat}{n:Int}(h:U2 t n t n):False:=by unfold U2 at h;omega
theorem U2.trans{a b c:Nat}{x y z:Int}(h:U2 a x b y)(k:U2 b y c z):U2 a x c z:=by unfold U2 at *;omega
def f1e(l:List Prd)(t:Nat)(n:Int)(t':Nat)(n':Int):Prop:=∀p∈l,PM p t n↔PM p t' n'
structure Prts (T:Nat) (l L:List Prd):Prop where
 wf:∀p∈L,PWf T p
 ne:∀p∈L,∃t n,PM p t n
 all:∀t n,t<T→inR n→∃p∈L,PM p t n
 cls:∀p∈L,∀t n,PM p t n→∀t' n',PM p t' n'↔t'<T∧inR n'∧f1e l t n t' n'
def z0l(p q:Prd):Prop:=∃t n,PM p t n∧∀t' n',PM q t' n'→U2 t n t' n'
theorem z0l.irr{p:Prd}(h:z0l p p):False:=by obtain⟨t,n,h1,h2⟩:=h;exact(h2 t n h1).irr
theorem z0l.asymm{p q:Prd}(h:z0l p q)(k:z0l q p):False:=by obtain⟨t,n,h1,h2⟩:=h;obtain⟨t',n',k1,k2⟩:=k;exact((h2 t' n' k1).trans (k2 t n h1)).irr
theorem Prts.same{T:Nat}{l L L':List Prd}(h:Prts T l L)(h':Prts T l L'){p:Prd}(hp:p∈L):p∈L':=by
 obtain⟨t,n,hm⟩:=h.ne p hp;obtain⟨ht,hn⟩:=(h.wf p hp).lt hm;obtain⟨q,hq,z1⟩:=h'.all t n ht hn;have:p=q:=I1 (h.wf p hp) (h'.wf q hq) fun t' n'=>by rw[h.cls p hp t n hm,h'.cls q hq t n z1]
 rw[this];exact hq
theorem Prts.unique{T:Nat}{l L L':List Prd}(h:Prts T l L)(h':Prts T l L')(s:L.Pairwise z0l)(s':L'.Pairwise z0l):L=L':=by have z1:∀ {X:List Prd},X.Pairwise z0l→X.Nodup:=fun hx=>hx.imp (fun h e=>by subst e;exact h.irr);refine List.Perm.eq_of_pairwise (le:=z0l) (fun a b _ _ h1 h2=>(h1.asymm h2).elim) s s' ?_;exact(uH (z1 s) (z1 s')).2 fun p=>⟨h.same h',h'.same h⟩
theorem Prts.disj{T:Nat}{l L:List Prd}(h:Prts T l L){p q:Prd}(hp:p∈L)(hq:q∈L){t:Nat}{n:Int}(h1:PM p t n)(h2:PM q t n):p=q:=
 I1 (h.wf p hp) (h.wf q hq) fun t' n'=>by rw[h.cls p hp t n h1,h.cls q hq t n h2]
theorem Prts.perm{T:Nat}{l L L':List Prd}(h:Prts T l L)(e:L.Perm L'):Prts T l L':=
 ⟨fun p hp=>h.wf p (e.mem_iff.2 hp),fun p hp=>h.ne p (e.mem_iff.2 hp),fun t n a b=>by obtain⟨p,hp,hm⟩:=h.all t n a b;exact⟨p,e.mem_iff.1 hp,hm⟩,fun p hp=>h.cls p (e.mem_iff.2 hp)⟩
def Wu(T:Nat):Prd:=yF T (Ez [])
def Eg(c p:Prd):Prd:=tT Gl c p
def R8(p:Prd):Prd:=p.map Ez
def Wp(p:Prd):Bool:=p.all (·.isEmpty)
def Ya(p:Prd)(L:List Prd):List Prd:=L.flatMap fun c=>(if Wp (Eg c p)then []else [Eg c p])++(if Wp (Eg c (R8 p))then []else [Eg c (R8 p)])
def Ux(T:Nat)(l:List Prd):List Prd:=l.foldl (fun L p=>Ya p L) [Wu T]
def PCk(T:Nat)(p:Prd):Prop:=p.length=T∧∀s∈p,CanonL s
theorem PCk.wf{T:Nat}{p:Prd}(h:PCk T p):PWf T p:=⟨h.1,fun s hs=>⟨G7 (h.2 s hs),fun n hn=>j1o (h.2 s hs) hn⟩⟩
theorem As:CanonL []:=⟨by simp,by simp,fun j h=>by simp at h⟩
theorem Ay(T t:Nat)(n:Int):PM (Wu T) t n↔t<T∧inR n:=by
 unfold PM Wu;have hg:=(Ic As).2.1 n;constructor
 ·rintro⟨s,hs,hm⟩;rw[u5]at hs;split at hs
  ·cases hs;exact⟨by assumption,(hg.1 hm).1⟩
  ·cases hs
 ·rintro⟨h1,h2⟩;exact⟨Ez [],by rw[u5,if_pos h1],hg.2 ⟨h2,by simp[M]⟩⟩
theorem Fl(T:Nat):PWf T (Wu T):=⟨by simp[Wu],fun s hs=>by
 obtain rfl:=vV hs;exact⟨(Ic As).1,fun n hn=>(((Ic As).2.1 n).1 hn).1⟩⟩
theorem Ep{T:Nat}{c p:Prd}(hc:c.length=T)(hp:p.length=T)(t:Nat)(n:Int):PM (Eg c p) t n↔PM c t n∧PM p t n:=by
 unfold PM Eg;constructor
 ·rintro⟨s,hs,hm⟩;rw[wZ]at hs;cases h1:c[t]? with
  |none=>rw[h1]at hs;simp at hs
  |some a=>
   cases h2:p[t]? with
   |none=>rw[h1,h2]at hs;simp at hs
   |some b=>rw[h1,h2]at hs;simp at hs;subst hs;have:=((Of a b).2 n).1 hm;exact⟨⟨a,rfl,this.1⟩,⟨b,rfl,this.2⟩⟩
 ·rintro⟨⟨a,h1,m1⟩,⟨b,h2,m2⟩⟩;exact⟨Gl a b,by rw[wZ,h1,h2],((Of a b).2 n).2 ⟨m1,m2⟩⟩
theorem Yc{T:Nat}{c p:Prd}(hc:PWf T c)(hp:p.length=T):PWf T (Eg c p):=by
 refine⟨by simp[Eg,hc.1,hp],fun s hs=> ?_⟩;obtain⟨i,hi⟩:=yE.1 hs;unfold Eg at hi;rw[wZ]at hi;cases h1:c[i]? with
 |none=>rw[h1]at hi;simp at hi
 |some a=>
  cases h2:p[i]? with
  |none=>rw[h1,h2]at hi;simp at hi
  |some b=>rw[h1,h2]at hi;simp at hi;subst hi;exact⟨(Of a b).1,fun n hn=>(hc.2 a (zH h1)).2 n (((Of a b).2 n).1 hn).1⟩
theorem L9{T:Nat}{p:Prd}(hp:PCk T p)(t:Nat)(n:Int):PM (R8 p) t n↔(t<T∧inR n)∧¬PM p t n:=by
 unfold PM R8;rw[zW];constructor
 ·rintro⟨s,hs,hm⟩;obtain⟨a,ha,rfl⟩:=zQ.1 hs;have hg:=((Ic (hp.2 a (zH ha))).2.1 n).1 hm;refine⟨⟨by rw[←hp.1];exact(zB.1 ha).1,hg.1⟩,?_⟩;rintro⟨b,hb,z1⟩;rw[ha]at hb;cases hb;exact hg.2 z1
 ·rintro⟨⟨h1,h2⟩,h3⟩;have hl:t<p.length:=by rw[hp.1];exact h1
  refine⟨Ez p[t],by rw[zJ hl];rfl,((Ic (hp.2 _ (zL hl))).2.1 n).2 ⟨h2,fun hm=>h3 ⟨_,zJ hl,hm⟩⟩⟩
theorem Tg{T:Nat}{p:Prd}(h:PWf T p):Wp p=true↔∀t n,¬PM p t n:=by
 unfold Wp;rw[zX];constructor
 ·rintro hv t n ⟨s,hs,hm⟩;have:=hv s (zH hs);rw[tA]at this;subst this;simp[M]at hm
 ·intro hv s hs;obtain⟨i,hi⟩:=yE.1 hs;cases s with
  |nil=>rfl
  |cons x s=>exact absurd ⟨_,hi,(Et ..).2 (.inl ⟨xO _,(h.2 _ hs).1.1 x (by simp)⟩)⟩ (hv i x.lo)
theorem Ko{T:Nat}{l L:List Prd}{p:Prd}(h:Prts T l L)(hp:PCk T p):Prts T (l++[p]) (Ya p L):=by
 have z6:(R8 p).length=T:=by simp[R8,hp.1]
 have z1:∀q,q∈Ya p L↔∃c∈L,((q=Eg c p)∨(q=Eg c (R8 p)))∧Wp q=false:=by
  intro q;unfold Ya;rw[wI];constructor
  ·rintro⟨c,hc,hq⟩;refine⟨c,hc,?_⟩;rcases zU.1 hq with hq|hq
   ·split at hq
    ·cases hq
    ·rename_i hv;obtain rfl:=zP.1 hq;exact⟨.inl rfl,by simpa using hv⟩
   ·split at hq
    ·cases hq
    ·rename_i hv;obtain rfl:=zP.1 hq;exact⟨.inr rfl,by simpa using hv⟩
  ·rintro⟨c,hc,hq,hv⟩;refine⟨c,hc,zU.2 ?_⟩;rcases hq with rfl|rfl
   ·left;rw[if_neg (by rw[hv];decide)];simp
   ·right;rw[if_neg (by rw[hv];decide)];simp
 have z7:∀q∈Ya p L,PWf T q:=fun q hq=>by
  obtain⟨c,hc,rfl|rfl,_⟩:=(z1 q).1 hq
  ·exact Yc (h.wf c hc) hp.1
  ·exact Yc (h.wf c hc) z6
 have zb:∀q∈Ya p L,∃t n,PM q t n:=fun q hq=>by
  obtain⟨c,hc,_,hv⟩:=(z1 q).1 hq;by_cases hx:∃t n,PM q t n
  ·exact hx
  ·exfalso;have:Wp q=true:=(Tg (z7 q hq)).2 fun t n hm=>hx ⟨t,n,hm⟩;rw[this]at hv;cases hv
 refine⟨z7,zb,fun t n ht hn=> ?_,fun q hq t n hm t' n'=> ?_⟩
 ·obtain⟨c,hc,z8⟩:=h.all t n ht hn;have hv:∀q,(q=Eg c p∨q=Eg c (R8 p))→PM q t n→q∈Ya p L:=fun q hq hm=>(z1 q).2 ⟨c,hc,hq,by
   have hw:PWf T q:=by
    rcases hq with rfl|rfl
    ·exact Yc (h.wf c hc) hp.1
    ·exact Yc (h.wf c hc) z6
   cases hvq:Wp q with
   |false=>rfl
   |true=>exact absurd hm ((Tg hw).1 hvq t n)⟩
  by_cases za:PM p t n
  ·have:=(Ep (h.wf c hc).1 hp.1 t n).2 ⟨z8,za⟩;exact⟨_,hv _ (.inl rfl) this,this⟩
  ·have:=(Ep (h.wf c hc).1 z6 t n).2 ⟨z8,(L9 hp t n).2 ⟨⟨ht,hn⟩,za⟩⟩;exact⟨_,hv _ (.inr rfl) this,this⟩
 ·obtain⟨c,hc,zc,_⟩:=(z1 q).1 hq;have zd:f1e (l++[p]) t n t' n'↔f1e l t n t' n'∧(PM p t n↔PM p t' n'):=by
   constructor
   ·exact fun hs=>⟨fun r hr=>hs r (by simp[hr]),hs p (by simp)⟩
   ·rintro⟨h1,h2⟩ r hr;rcases zU.1 hr with hr|hr
    ·exact h1 r hr
    ·obtain rfl:=zP.1 hr;exact h2
  rw[zd];rcases zc with rfl|rfl
  ·obtain⟨m1,m2⟩:=(Ep (h.wf c hc).1 hp.1 t n).1 hm;rw[Ep (h.wf c hc).1 hp.1,h.cls c hc t n m1];constructor
   ·rintro⟨⟨h1,h2,h3⟩,h4⟩;exact⟨h1,h2,h3,fun _=>h4,fun _=>m2⟩
   ·rintro⟨h1,h2,h3,h4⟩;exact⟨⟨h1,h2,h3⟩,h4.1 m2⟩
  ·obtain⟨m1,m2⟩:=(Ep (h.wf c hc).1 z6 t n).1 hm;have m3:=((L9 hp t n).1 m2).2;rw[Ep (h.wf c hc).1 z6,h.cls c hc t n m1,L9 hp];constructor
   ·rintro⟨⟨h1,h2,h3⟩,h4⟩;exact⟨h1,h2,h3,fun h=>absurd h m3,fun h=>absurd h h4.2⟩
   ·rintro⟨h1,h2,h3,h4⟩;exact⟨⟨h1,h2,h3⟩,⟨h1,h2⟩,fun h=>m3 (h4.2 h)⟩
theorem Jo(T:Nat)(hT:0<T):Prts T [] [Wu T]:=by
 refine⟨fun p hp=> ?_,fun p hp=> ?_,fun t n ht hn=> ?_,fun p hp t n hm t' n'=> ?_⟩
 ·obtain rfl:=zP.1 hp;exact Fl T
 ·obtain rfl:=zP.1 hp;exact⟨0,0,(Ay T 0 0).2 ⟨hT,by unfold inR;omega⟩⟩
 ·exact⟨_,List.mem_singleton_self _,(Ay T t n).2 ⟨ht,hn⟩⟩
 ·obtain rfl:=zP.1 hp;rw[Ay];exact⟨fun h=>⟨h.1,h.2,fun r hr=>by cases hr⟩,fun h=>⟨h.1,h.2.1⟩⟩
theorem C3{T:Nat}(hT:0<T){l:List Prd}(hl:∀p∈l,PCk T p):Prts T l (Ux T l):=by
 have key:∀(r d L:List Prd),Prts T d L→(∀p∈r,PCk T p)→Prts T (d++r) (r.foldl (fun L p=>Ya p L) L):=by
  intro r;induction r with
  |nil=>intro d L h _;simpa using h
  |cons p r ih=>intro d L h hr;rw[xV];have:=ih (d++[p]) (Ya p L) (Ko h (hr p (by simp))) (fun q hq=>hr q (by simp[hq]));simpa using this
 have:=key l [] [Wu T] (Jo T hT) hl;simpa[Ux]using this
end Go.Abs
namespace Go.Abs
def Qx:Prd→Nat→Nat×Int
 |[],_=>(0,0)
 |(x::_)::_,i=>(i,x.lo)
 |[]::p,i=>Qx p (i+1)
def Vd(a b:Nat×Int):Bool:=decide (a.1<b.1) || (decide (a.1=b.1) && decide (a.2<b.2))
theorem Ry(a b:Nat×Int):Vd a b=true↔U2 a.1 a.2 b.1 b.2:=by simp[Vd,U2]
theorem Bh:∀(p:Prd) (i:Nat),(∀s∈p,Sep s)→(∃s∈p,s≠[])→∃t x r,p[t]? =some (x::r)∧Qx p i=(i+t,x.lo)∧∀j,j<t→p[j]? =some []
 |[],_,_,⟨s,hs,_⟩=>by cases hs
 |(x::r)::p,i,_,_=>⟨0,x,r,rfl,rfl,fun j hj=>by omega⟩
 |[]::p,i,h,⟨s,hs,hn⟩=>by
  have z1:s∈p:=by
   rcases yB.1 hs with rfl|hs
   ·exact absurd rfl hn
   ·exact hs
  obtain⟨t,x,r,h1,h2,h3⟩:=Bh p (i+1) (fun s hs=>h s (by simp[hs])) ⟨s,z1,hn⟩;refine⟨t+1,x,r,by simpa using h1,by rw[Qx,h2];congr 1;omega,fun j hj=> ?_⟩;cases j with
  |zero=>rfl
  |succ j=>simpa using h3 j (by omega)
theorem W3{T:Nat}{p:Prd}(h:PWf T p)(hn:∃t n,PM p t n):PM p (Qx p 0).1 (Qx p 0).2∧∀t n,PM p t n→((Qx p 0).1=t∧(Qx p 0).2=n)∨U2 (Qx p 0).1 (Qx p 0).2 t n:=by
 obtain⟨t0,n0,s0,z1,m0⟩:=hn;have z6:s0≠[]:=fun e=>by subst e;simp[M]at m0
 obtain⟨t,x,r,h1,h2,h3⟩:=Bh p 0 (fun s hs=>(h.2 s hs).1) ⟨s0,zH z1,z6⟩;rw[Nat.zero_add]at h2;rw[h2];have hx:=(h.2 _ (zH h1)).1;refine⟨⟨_,h1,(Et ..).2 (.inl ⟨xO _,hx.1 x (by simp)⟩)⟩,fun t' n' hm=> ?_⟩;obtain⟨s,hs,hm⟩:=hm;simp only;rcases vP t' t with hlt|rfl|hgt
 ·rw[h3 t' hlt]at hs;cases hs;simp[M]at hm
 ·rw[h1]at hs;cases hs;have:=hx.lowc hm;unfold U2;omega
 ·exact .inr (.inl hgt)
theorem L0{T:Nat}{p q:Prd}(hp:PWf T p)(z1:∃t n,PM p t n)(hq:PWf T q)(z6:∃t n,PM q t n)(h:U2 (Qx p 0).1 (Qx p 0).2 (Qx q 0).1 (Qx q 0).2):z0l p q:=
 ⟨_,_,(W3 hp z1).1,fun t n hm=>by
  rcases(W3 hq z6).2 t n hm with⟨e1,e2⟩|h2
  ·rw[←e1,←e2];exact h
  ·exact h.trans h2⟩
def c0i(s:List Prd)(x:Prd):Nat→Nat
 |0=>0
 |j+1=>match s[j]? with
  |some y=>if Vd (Qx x 0) (Qx y 0)=true then c0i s x j else j+1
  |none=>j+1
def k08(s:List Prd)(x:Prd):List Prd:=s.take (c0i s x s.length)++x::s.drop (c0i s x s.length)
def z19(L:List Prd):List Prd:=L.foldl k08 []
theorem Be(s:List Prd)(x:Prd):∀j,j≤s.length→c0i s x j≤j∧(∀i,c0i s x j≤i→i<j→∀h:i<s.length,Vd (Qx x 0) (Qx s[i] 0)=true)∧(∀i,i+1=c0i s x j→∀h:i<s.length,Vd (Qx x 0) (Qx s[i] 0)=false)
 |0,_=>⟨zR _,fun i _ h=>by omega,fun i h=>by simp[c0i]at h⟩
 |j+1,hj=>by
  have z1:j<s.length:=by omega
  rw[c0i,zJ z1];simp only;by_cases hb:Vd (Qx x 0) (Qx s[j] 0)=true
  ·rw[if_pos hb];obtain⟨h1,h2,h3⟩:=Be s x j (by omega);refine⟨by omega,fun i hi z6 hl=> ?_,h3⟩;by_cases hij:i=j
   ·subst hij;exact hb
   ·exact h2 i hi (by omega) hl
  ·rw[if_neg hb];refine⟨zR _,fun i hi z6=>by omega,fun i hi hl=> ?_⟩;have:i=j:=by omega
   subst this;simpa using hb
theorem j04(s:List Prd)(x:Prd):(k08 s x).Perm (x::s):=by unfold k08;refine vE.trans ?_;rw[xW]
def Z5(p q:Prd):Prop:=U2 (Qx p 0).1 (Qx p 0).2 (Qx q 0).1 (Qx q 0).2
theorem B8{s:List Prd}{x:Prd}(hs:s.Pairwise Z5)(hd:∀y∈s,Qx y 0≠Qx x 0):(k08 s x).Pairwise Z5:=by
 obtain⟨h1,h2,h3⟩:=Be s x s.length (zR _);unfold k08;generalize c0i s x s.length=k at *
 have z1:=hs;rw[←xW k s]at z1;obtain⟨p1,p2,p3⟩:=yH.1 z1;have z7:∀y∈s.drop k,Z5 x y:=fun y hy=>by obtain⟨i,hi⟩:=yE.1 hy;rw[List.getElem?_drop]at hi;obtain⟨hl,e⟩:=zB.1 hi;have:=h2 (k+i) (by omega) hl hl;rw[e]at this;exact(Ry _ _).1 this
 have z8:∀i,i+1=k→∀h:i<s.length,Z5 s[i] x:=fun i hi hl=>by
  have h4:=h3 i hi hl;have zc:=hd s[i] (zL hl);unfold Z5;rcases vP (Qx s[i] 0).1 (Qx x 0).1 with a|a|a
  ·exact .inl a
  ·rcases tx (Qx s[i] 0).2 (Qx x 0).2 with b|b|b
   ·exact .inr ⟨a,b⟩
   ·exact absurd (Prod.ext a b) zc
   ·have:Vd (Qx x 0) (Qx s[i] 0)=true:=(Ry _ _).2 (.inr ⟨a.symm,b⟩);rw[this]at h4;cases h4
  ·have:Vd (Qx x 0) (Qx s[i] 0)=true:=(Ry _ _).2 (.inl a);rw[this]at h4;cases h4
 have z6:∀y∈s.take k,Z5 y x:=fun y hy=>by
  obtain⟨i,hi⟩:=yE.1 hy;rw[List.getElem?_take]at hi;split at hi
  ·rename_i zd;obtain⟨hl,e⟩:=zB.1 hi;obtain⟨k',rfl⟩:∃k',k=k'+1:=⟨k - 1,by omega⟩
   have za:k'<s.length:=by omega
   have zb:=z8 k' rfl za;by_cases hij:i=k'
   ·subst hij;rw[←e];exact zb
   ·have:=yQ.1 hs i k' hl za (by omega);rw[e]at this;exact U2.trans this zb
  ·cases hi
 refine yH.2 ⟨p1,yU.2 ⟨z7,p2⟩,fun y hy z hz=> ?_⟩;rcases yB.1 hz with rfl|hz
 ·exact z6 y hy
 ·exact p3 y hy z hz
theorem z0f(L:List Prd)(hd:L.Pairwise (fun p q=>Qx p 0≠Qx q 0)):(z19 L).Perm L∧(z19 L).Pairwise Z5:=by
 have key:∀(r s:List Prd),s.Pairwise Z5→(s++r).Pairwise (fun p q=>Qx p 0≠Qx q 0)→(r.foldl k08 s).Perm (s++r)∧(r.foldl k08 s).Pairwise Z5:=by
  intro r;induction r with
  |nil=>intro s h _;simpa using h
  |cons x r ih=>intro s h hd;obtain⟨d1,d2,d3⟩:=yH.1 hd;have hi:=B8 h (fun y hy=>d3 y hy x (by simp));have hp:=j04 s x;have z1:(k08 s x++r).Perm (s++x::r):=(hp.append_right r).trans (vE (l₁:=s) (a:=x) (l₂:=r)).symm;have z6:(k08 s x++r).Pairwise (fun p q=>Qx p 0≠Qx q 0):=(z1.pairwise_iff (fun h=>Ne.symm h)).2 hd;obtain⟨i1,i2⟩:=ih (k08 s x) hi z6;rw[xV];exact⟨i1.trans z1,i2⟩
 have h:=key L [] List.Pairwise.nil (by simpa using hd);unfold z19;simpa using h
def Q9(T:Nat)(l:List Prd):List Prd:=z19 (Ux T l)
theorem Xu{T:Nat}{l L:List Prd}{p:Prd}(h:Prts T l L)(hp:PCk T p)(hd:L.Pairwise (fun a b=>∀t n,PM a t n→¬PM b t n)):(Ya p L).Pairwise (fun a b=>∀t n,PM a t n→¬PM b t n):=by
 have z7:(R8 p).length=T:=by simp[R8,hp.1]
 have z8:∀c∈L,∀q∈(if Wp (Eg c p)then []else [Eg c p])++(if Wp (Eg c (R8 p))then []else [Eg c (R8 p)]),∀t n,PM q t n→PM c t n:=by
  intro c hc q hq t n hm;rcases zU.1 hq with hq|hq
  ·split at hq
   ·cases hq
   ·obtain rfl:=zP.1 hq;exact((Ep (h.wf c hc).1 hp.1 t n).1 hm).1
  ·split at hq
   ·cases hq
   ·obtain rfl:=zP.1 hq;exact((Ep (h.wf c hc).1 z7 t n).1 hm).1
 unfold Ya;rw[u6];refine⟨fun c hc=> ?_,?_⟩
 ·refine yH.2 ⟨by split<;>simp,by split<;>simp,fun a ha b hb t n z1 z6=> ?_⟩;split at ha
  ·cases ha
  ·split at hb
   ·cases hb
   ·obtain rfl:=zP.1 ha;obtain rfl:=zP.1 hb;exact((L9 hp t n).1 ((Ep (h.wf c hc).1 z7 t n).1 z6).2).2 ((Ep (h.wf c hc).1 hp.1 t n).1 z1).2
 ·exact hd.imp_of_mem (fun {a b} ha hb hab x hx y hy t n z1 z6=>hab t n (z8 a ha x hx t n z1) (z8 b hb y hy t n z6))
theorem Vy{T:Nat}(hT:0<T){l:List Prd}(hl:∀p∈l,PCk T p):(Ux T l).Pairwise (fun a b=>∀t n,PM a t n→¬PM b t n):=by
 have key:∀(r d L:List Prd),Prts T d L→(∀p∈r,PCk T p)→L.Pairwise (fun a b=>∀t n,PM a t n→¬PM b t n)→(r.foldl (fun L p=>Ya p L) L).Pairwise (fun a b=>∀t n,PM a t n→¬PM b t n):=by
  intro r;induction r with
  |nil=>intro d L _ _ h;simpa using h
  |cons p r ih=>intro d L h hr hd;rw[xV];exact ih (d++[p]) (Ya p L) (Ko h (hr p (by simp))) (fun q hq=>hr q (by simp[hq])) (Xu h (hr p (by simp)) hd)
 exact key l [] [Wu T] (Jo T hT) hl (by simp)
theorem Uu{T:Nat}(hT:0<T){l:List Prd}(hl:∀p∈l,PCk T p):Prts T l (Q9 T l)∧(Q9 T l).Pairwise z0l:=by
 have h:=C3 hT hl;have hd:(Ux T l).Pairwise (fun p q=>Qx p 0≠Qx q 0):=(Vy hT hl).imp_of_mem (fun {a b} ha hb hab e=>by
  have h1:=(W3 (h.wf a ha) (h.ne a ha)).1;have h2:=(W3 (h.wf b hb) (h.ne b hb)).1;rw[←e]at h2;exact hab _ _ h1 h2)
 obtain⟨h1,h2⟩:=z0f _ hd;have h3:Prts T l (Q9 T l):=h.perm h1.symm;refine⟨h3,?_⟩;exact h2.imp_of_mem (fun {a b} ha hb hab=>L0 (h3.wf a ha) (h3.ne a ha) (h3.wf b hb) (h3.ne b hb) hab)
end Go.Abs
namespace Go.Abs
def Qu(l:List Prd)(i:Nat):List Iv:=l.flatMap fun p=>p.getD i []
def Wc(l:List Prd)(i:Nat):List Int:=v0z (⟨-1099511627776,1099511627776⟩::Qu l i)
def T7:List Int→List Iv
 |a::b::r=>⟨a,b - 1⟩::T7 (b::r)
 |_=>[]
def U6(l:List Prd)(i:Nat)(n:Int):List Bool:=l.map fun p=>O7 (p.getD i []) n
def Uy(p:Prd)(i:Nat)(x:Iv):Prd:=p.set i (p.getD i []++[x])
def Yj(T i:Nat)(sg:List Bool)(x:Iv):List (List Bool×Prd)→List (List Bool×Prd)
 |[]=>[(sg,Uy (yF T []) i x)]
 |(s,p)::r=>if s=sg then(s,Uy p i x)::r else(s,p)::Yj T i sg x r
def Kc(T:Nat)(l:List Prd):List (Nat×Iv):=(yL T).flatMap fun i=>(T7 (Wc l i)).map fun x=>(i,x)
def Pc(T:Nat)(l:List Prd):List (List Bool×Prd):=(Kc T l).foldl (fun st a=>Yj T a.1 (U6 l a.1 a.2.lo) a.2 st) []
def Rc(p:Prd):Prd:=p.map (Q0 [])
def E3(T:Nat)(l:List Prd):List Prd:=(Pc T l).map fun g=>Rc g.2
def u10(a:Nat×Iv)(t:Nat)(n:Int):Prop:=t=a.1∧a.2.lo≤n∧n≤a.2.hi
structure GInv (T:Nat) (sig:Nat→Int→List Bool) (D:Nat→Int→Prop) (st:List (List Bool×Prd)):Prop where
 len:∀g∈st,g.2.length=T
 asc:∀g∈st,∀s∈g.2,(∀x∈s,x.lo≤x.hi)∧s.Pairwise (fun x y=>x.hi<y.lo)
 mem:∀g∈st,∀t n,PM g.2 t n↔D t n∧sig t n=g.1
 ne:∀g∈st,∃t n,PM g.2 t n
 nd:st.Pairwise (fun g h=>g.1≠h.1)
 all:∀t n,D t n→∃g∈st,g.1=sig t n
 ord:st.Pairwise (fun g h=>∃t n,PM g.2 t n∧∀t' n',PM h.2 t' n'→U2 t n t' n')
theorem Wx{p:Prd}{i:Nat}(h:i<p.length):p.getD i []=p[i]:=by simp[yS,h]
theorem x18{T:Nat}{p:Prd}(hp:p.length=T){i:Nat}(hi:i<T)(x:Iv)(t:Nat)(n:Int):PM (Uy p i x) t n↔PM p t n∨u10 (i,x) t n:=by
 unfold PM Uy u10;have z1:i<p.length:=by omega
 rw[Wx z1];by_cases ht:t=i
 ·subst ht;rw[zO z1,zJ z1];constructor
  ·rintro⟨s,hs,hm⟩;cases hs;rcases(Z6 ..).1 hm with h|h
   ·exact .inl ⟨_,rfl,h⟩
   ·rcases(Et ..).1 h with h|h
    ·exact .inr ⟨rfl,h⟩
    ·simp[M]at h
  ·rintro(⟨s,hs,hm⟩|⟨_,h⟩)
   ·cases hs;exact⟨_,rfl,(Z6 ..).2 (.inl hm)⟩
   ·exact⟨_,rfl,(Z6 ..).2 (.inr ((Et ..).2 (.inl h)))⟩
 ·rw[zE (by omega)];constructor
  ·exact fun h=> .inl h
  ·rintro(h|⟨h,_⟩)
   ·exact h
   ·exact absurd h ht
theorem d0w{T:Nat}{p:Prd}(hp:p.length=T){i:Nat}(hi:i<T){x:Iv}(hx:x.lo≤x.hi)(h:∀s∈p,(∀y∈s,y.lo≤y.hi)∧s.Pairwise (fun y z=>y.hi<z.lo))(z6:∀t n,PM p t n→U2 t n i x.lo):
  ∀s∈Uy p i x,(∀y∈s,y.lo≤y.hi)∧s.Pairwise (fun y z=>y.hi<z.lo):=by
 intro s hs;have z1:i<p.length:=by omega
 rcases List.mem_or_eq_of_mem_set hs with hs|rfl
 ·exact h s hs
 ·rw[Wx z1];obtain⟨h1,h2⟩:=h _ (zL z1);refine⟨fun y hy=> ?_,yH.2 ⟨h2,by simp,fun y hy z hz=> ?_⟩⟩
  ·rcases zU.1 hy with hy|hy
   ·exact h1 y hy
   ·obtain rfl:=zP.1 hy;exact hx
  ·obtain rfl:=zP.1 hz;have:=z6 i y.hi ⟨_,zJ z1,y,hy,h1 y hy,xO _⟩;unfold U2 at this;omega
theorem Ot{T i:Nat}{sg:List Bool}{x:Iv}:∀ {st:List (List Bool×Prd)},(∀g∈st,g.1≠sg)→Yj T i sg x st=st++[(sg,Uy (yF T []) i x)]
 |[],_=>rfl
 |(s,p)::r,h=>by rw[Yj,if_neg (h (s,p) (by simp)),Ot (fun g hg=>h g (by simp[hg]))];rfl
theorem S7{T i:Nat}{sg:List Bool}{x:Iv}:∀ {st:List (List Bool×Prd)},(∃g∈st,g.1=sg)→∃a p b,st=a++(sg,p)::b∧(∀g∈a,g.1≠sg)∧Yj T i sg x st=a++(sg,Uy p i x)::b
 |[],⟨g,hg,_⟩=>by cases hg
 |(s,p)::r,⟨g,hg,he⟩=>by
  by_cases hs:s=sg
  ·subst hs;exact⟨[],p,r,rfl,by simp,by rw[Yj,if_pos rfl];rfl⟩
  ·have z1:g∈r:=by
    rcases yB.1 hg with rfl|hg
    ·exact absurd he hs
    ·exact hg
   obtain⟨a,q,b,h1,h2,h3⟩:=S7 (T:=T) (i:=i) (x:=x) ⟨g,z1,he⟩;refine⟨(s,p)::a,q,b,by rw[h1];rfl,fun g hg=> ?_,by rw[Yj,if_neg hs,h3];rfl⟩;rcases yB.1 hg with rfl|hg
   ·exact hs
   ·exact h2 g hg
theorem Zw(T t:Nat)(n:Int):¬PM (yF T []) t n:=by rintro⟨s,hs,hm⟩;obtain rfl:=vV (zH hs);simp[M]at hm
theorem GInv.step{T:Nat}{sig:Nat→Int→List Bool}{D:Nat→Int→Prop}{st:List (List Bool×Prd)}(h:GInv T sig D st){i:Nat}{x:Iv}(hi:i<T)(hx:x.lo≤x.hi)(hc:∀n,x.lo≤n→n≤x.hi→sig i n=sig i x.lo)(hD:∀t n,D t n→∀n',x.lo≤n'→n'≤x.hi→U2 t n i n'):
  GInv T sig (fun t n=>D t n∨u10 (i,x) t n) (Yj T i (sig i x.lo) x st):=by
 have z7:∀t n,u10 (i,x) t n→sig t n=sig i x.lo:=fun t n hp=>by obtain⟨rfl,h1,h2⟩:=hp;exact hc n h1 h2
 have zb:∀t n,D t n→∀t' n',u10 (i,x) t' n'→U2 t n t' n':=fun t n hd t' n' hp=>by obtain⟨rfl,h1,h2⟩:=hp;exact hD t n hd n' h1 h2
 have zc:u10 (i,x) i x.lo:=⟨rfl,xO _,hx⟩
 by_cases hit:∃g∈st,g.1=sig i x.lo
 ·obtain⟨a,p,b,h1,h2,h3⟩:=S7 (T:=T) (i:=i) (x:=x) hit;rw[h3];subst h1;generalize zh:sig i x.lo=s0 at *
  have za:(s0,p)∈a++(s0,p)::b:=by simp
  have zd:=h.mem _ za;have hlen:=h.len _ za;have zf:=h.nd;obtain⟨n1,n2,n3⟩:=yH.1 zf;obtain⟨n4,n5⟩:=yU.1 n2;obtain⟨o1,o2,o3⟩:=yH.1 h.ord;obtain⟨o4,o5⟩:=yU.1 o2;have z1:=fun t n=>x18 hlen hi x t n;have hold:∀g∈a++(s0,Uy p i x)::b,(g∈a++(s0,p)::b∧g.1≠s0)∨g=(s0,Uy p i x):=fun g hg=>by
   rcases zU.1 hg with hg|hg
   ·exact .inl ⟨by simp[hg],h2 g hg⟩
   ·rcases yB.1 hg with rfl|hg
    ·exact .inr rfl
    ·exact .inl ⟨by simp[hg],(n4 g hg).symm⟩
  refine⟨fun g hg=> ?_,fun g hg=> ?_,fun g hg t n=> ?_,fun g hg=> ?_,?_,fun t n hd=> ?_,?_⟩
  ·rcases hold g hg with⟨hg,_⟩|rfl
   ·exact h.len g hg
   ·simp[Uy,hlen]
  ·rcases hold g hg with⟨hg,_⟩|rfl
   ·exact h.asc g hg
   ·exact d0w hlen hi hx (h.asc _ za) (fun t n hm=>hD t n ((zd t n).1 hm).1 x.lo (xO _) hx)
  ·rcases hold g hg with⟨hg,zg⟩|rfl
   ·rw[h.mem g hg t n];constructor
    ·exact fun hh=>⟨.inl hh.1,hh.2⟩
    ·rintro⟨hd|hd,hs⟩
     ·exact⟨hd,hs⟩
     ·exact absurd (by rw[←hs,z7 t n hd]) zg
   ·rw[z1,zd];constructor
    ·rintro(⟨hd,hs⟩|hd)
     ·exact⟨.inl hd,hs⟩
     ·exact⟨.inr hd,z7 t n hd⟩
    ·rintro⟨hd|hd,hs⟩
     ·exact .inl ⟨hd,hs⟩
     ·exact .inr hd
  ·rcases hold g hg with⟨hg,_⟩|rfl
   ·exact h.ne g hg
   ·exact⟨i,x.lo,(z1 i x.lo).2 (.inr zc)⟩
  ·exact yH.2 ⟨n1,yU.2 ⟨fun g hg=>n4 g hg,n5⟩,fun g hg k hk=>by
    rcases yB.1 hk with rfl|hk
    ·exact h2 g hg
    ·exact n3 g hg k (by simp[hk])⟩
  ·rcases hd with hd|hd
   ·obtain⟨g,hg,he⟩:=h.all t n hd;rcases zU.1 hg with hg|hg
    ·exact⟨g,by simp[hg],he⟩
    ·rcases yB.1 hg with rfl|hg
     ·exact⟨(s0,Uy p i x),by simp,he⟩
     ·exact⟨g,by simp[hg],he⟩
   ·exact⟨(s0,Uy p i x),by simp,(z7 t n hd).symm⟩
  ·refine yH.2 ⟨o1,yU.2 ⟨fun g hg=> ?_,o5⟩,fun g hg k hk=> ?_⟩
   ·obtain⟨t,n,e1,e2⟩:=o4 g hg;exact⟨t,n,(z1 t n).2 (.inl e1),e2⟩
   ·rcases yB.1 hk with rfl|hk
    ·obtain⟨t,n,e1,e2⟩:=o3 g hg (s0,p) (by simp);refine⟨t,n,e1,fun t' n' hm=> ?_⟩;rcases(z1 t' n').1 hm with hm|hm
     ·exact e2 t' n' hm
     ·exact zb t n ((h.mem g (by simp[hg]) t n).1 e1).1 t' n' hm
    ·exact o3 g hg k (by simp[hk])
 ·have z8:∀g∈st,g.1≠sig i x.lo:=fun g hg he=>hit ⟨g,hg,he⟩;rw[Ot z8];have ze:(yF T ([]:List Iv)).length=T:=by simp
  have z1:=fun t n=>x18 ze hi x t n;have z6:∀g∈st++[(sig i x.lo,Uy (yF T []) i x)],g∈st∨g=(sig i x.lo,Uy (yF T []) i x):=fun g hg=>by
   rcases zU.1 hg with hg|hg
   ·exact .inl hg
   ·exact .inr (zP.1 hg)
  refine⟨fun g hg=> ?_,fun g hg=> ?_,fun g hg t n=> ?_,fun g hg=> ?_,?_,fun t n hd=> ?_,?_⟩
  ·rcases z6 g hg with hg|rfl
   ·exact h.len g hg
   ·simp[Uy]
  ·rcases z6 g hg with hg|rfl
   ·exact h.asc g hg
   ·exact d0w ze hi hx (fun s hs=>by obtain rfl:=vV hs;simp) (fun t n hm=>absurd hm (Zw T t n))
  ·rcases z6 g hg with hg|rfl
   ·rw[h.mem g hg t n];constructor
    ·exact fun hh=>⟨.inl hh.1,hh.2⟩
    ·rintro⟨hd|hd,hs⟩
     ·exact⟨hd,hs⟩
     ·exact absurd (by rw[←hs,z7 t n hd]) (z8 g hg)
   ·rw[z1];constructor
    ·rintro(hm|hd)
     ·exact absurd hm (Zw T t n)
     ·exact⟨.inr hd,z7 t n hd⟩
    ·rintro⟨hd|hd,hs⟩
     ·obtain⟨g,hg,he⟩:=h.all t n hd;exact absurd (he.trans hs) (z8 g hg)
     ·exact .inr hd
  ·rcases z6 g hg with hg|rfl
   ·exact h.ne g hg
   ·exact⟨i,x.lo,(z1 i x.lo).2 (.inr zc)⟩
  ·exact yH.2 ⟨h.nd,by simp,fun g hg k hk=>by obtain rfl:=zP.1 hk;exact z8 g hg⟩
  ·rcases hd with hd|hd
   ·obtain⟨g,hg,he⟩:=h.all t n hd;exact⟨g,by simp[hg],he⟩
   ·exact⟨(sig i x.lo,Uy (yF T []) i x),by simp,(z7 t n hd).symm⟩
  ·refine yH.2 ⟨h.ord,by simp,fun g hg k hk=> ?_⟩;obtain rfl:=zP.1 hk;obtain⟨t,n,e1⟩:=h.ne g hg;refine⟨t,n,e1,fun t' n' hm=> ?_⟩;rcases(z1 t' n').1 hm with hm|hm
   ·exact absurd hm (Zw T t' n')
   ·exact zb t n ((h.mem g hg t n).1 e1).1 t' n' hm
end Go.Abs
namespace Go.Abs
theorem Aw:∀(cs:List Int),cs.Pairwise (·<·)→∀x∈T7 cs,x.lo≤x.hi∧x.lo∈cs∧x.hi+1∈cs∧∀d∈cs,d≤x.hi→d≤x.lo
 |[],_,x,hx=>by simp[T7]at hx
 |[a],_,x,hx=>by simp[T7]at hx
 |a::b::r,h,x,hx=>by
  obtain⟨h1,h2⟩:=yU.1 h;rw[T7]at hx;rcases yB.1 hx with rfl|hx
  ·have z1:=h1 b (by simp);refine⟨by simp only;omega,by simp,by simp,fun d hd hle=> ?_⟩;simp only at hle ⊢;rcases yB.1 hd with rfl|hd
   ·omega
   ·have:b≤d:=by
     rcases yB.1 hd with rfl|hd
     ·omega
     ·have:=(yU.1 h2).1 d hd;omega
    omega
  ·obtain⟨k1,k2,k3,k4⟩:=Aw (b::r) h2 x hx;refine⟨k1,by simp only[yB]at k2 ⊢;exact .inr k2,by simp only[yB]at k3 ⊢;exact .inr k3,fun d hd hle=> ?_⟩;rcases yB.1 hd with rfl|hd
   ·have:=h1 x.lo k2;omega
   ·exact k4 d hd hle
theorem Mm:∀(cs:List Int),cs.Pairwise (·<·)→(T7 cs).Pairwise (fun x y=>x.hi<y.lo)
 |[],_=>by simp[T7]
 |[a],_=>by simp[T7]
 |a::b::r,h=>by
  obtain⟨h1,h2⟩:=yU.1 h;rw[T7];refine yU.2 ⟨fun y hy=> ?_,Mm (b::r) h2⟩;obtain⟨_,k2,_,_⟩:=Aw (b::r) h2 y hy;have:b≤y.lo:=by
   rcases yB.1 k2 with e|k2
   ·omega
   ·have:=(yU.1 h2).1 y.lo k2;omega
  simp only;omega
theorem Js:∀(cs:List Int),cs.Pairwise (·<·)→∀n,(∃a∈cs,a≤n)→(∃b∈cs,n<b)→∃x∈T7 cs,x.lo≤n∧n≤x.hi
 |[],_,n,⟨a,ha,_⟩,_=>by cases ha
 |[a],_,n,⟨c,hc,h1⟩,⟨d,hd,h2⟩=>by obtain rfl:=zP.1 hc;obtain rfl:=zP.1 hd;omega
 |a::b::r,h,n,⟨c,hc,h1⟩,⟨d,hd,h2⟩=>by
  obtain⟨p1,p2⟩:=yU.1 h;rw[T7];have z1:a≤n:=by
   rcases yB.1 hc with rfl|hc
   ·exact h1
   ·have:=p1 c hc;omega
  by_cases hb:n<b
  ·exact⟨⟨a,b - 1⟩,by simp,z1,by simp only;omega⟩
  ·have z6:d∈b::r:=by
    rcases yB.1 hd with rfl|hd
    ·omega
    ·exact hd
   obtain⟨x,hx,e⟩:=Js (b::r) p2 n ⟨b,by simp,by omega⟩ ⟨d,z6,h2⟩;exact⟨x,by simp[hx],e⟩
theorem Te{l:List Prd}{i:Nat}{x:Iv}:x∈Qu l i↔∃p∈l,x∈p.getD i []:=by simp[Qu]
theorem w1d{T:Nat}{p:Prd}(hp:PCk T p)(i:Nat):CanonL (p.getD i []):=by
 by_cases hi:i<p.length
 ·rw[Wx hi];exact hp.2 _ (zL hi)
 ·have:p.getD i []=[]:=by simp[yS,List.getElem?_eq_none (by omega:p.length≤i)]
  rw[this];exact As
theorem Tz{T:Nat}{l:List Prd}(hl:∀p∈l,PCk T p)(i:Nat):(Wc l i).Pairwise (·<·)∧(-1099511627776:Int)∈Wc l i∧(1099511627777:Int)∈Wc l i∧
  (∀z∈Wc l i,-1099511627776≤z∧z≤1099511627777)∧∀p∈l,∀x∈p.getD i [],x.lo∈Wc l i∧x.hi+1∈Wc l i:=by
 obtain⟨h1,h2⟩:=f03 (⟨-1099511627776,1099511627776⟩::Qu l i);refine⟨h1,(h2 _).2 ⟨⟨-1099511627776,1099511627776⟩,by simp,.inl rfl⟩,(h2 _).2 ⟨⟨-1099511627776,1099511627776⟩,by simp,.inr (by simp)⟩,fun z hz=> ?_,fun p hp x hx=>⟨(h2 _).2 ⟨x,?_,.inl rfl⟩,(h2 _).2 ⟨x,?_,.inr rfl⟩⟩⟩
 ·obtain⟨x,hx,e⟩:=(h2 z).1 hz;rcases yB.1 hx with rfl|hx
  ·simp only at e;omega
  ·obtain⟨p,hp,hx⟩:=Te.1 hx;have hc:=w1d (hl p hp) i;have h3:=Zi hc x hx;have h4:=(Em _).1 h3.1;have h5:=(Em _).1 h3.2;have:=(G7 hc).1 x hx;omega
 ·exact tc _ (Te.2 ⟨p,hp,hx⟩)
 ·exact tc _ (Te.2 ⟨p,hp,hx⟩)
theorem g05{T:Nat}{l:List Prd}(hl:∀p∈l,PCk T p)(i:Nat){x:Iv}(hx:x∈T7 (Wc l i))(n:Int)(h1:x.lo≤n)(h2:n≤x.hi):U6 l i n=U6 l i x.lo:=by obtain⟨c1,_,_,_,c5⟩:=Tz hl i;obtain⟨_,_,_,k4⟩:=Aw _ c1 x hx;unfold U6;apply xL;intro p hp;exact g07 _ (Wc l i) (c5 p hp) x.lo n h1 (fun d hd hle=>k4 d hd (by omega))
theorem Cj{T:Nat}{p:Prd}(hp:p.length=T){t:Nat}(ht:t<T)(n:Int):O7 (p.getD t []) n=true↔PM p t n:=by
 have z1:t<p.length:=by omega
 rw[Wx z1,Nq];unfold PM;rw[zJ z1];simp
theorem v1a{T:Nat}{l:List Prd}(hl:∀p∈l,PCk T p){t t':Nat}(ht:t<T)(z1:t'<T)(n n':Int):U6 l t n=U6 l t' n'↔f1e l t n t' n':=by
 unfold U6 f1e;constructor
 ·intro h p hp;have:=(List.map_inj_left.1 h) p hp;rw[←Cj (hl p hp).1 ht,←Cj (hl p hp).1 z1,this]
 ·intro h;apply xL;intro p hp;have:=h p hp;rw[←Cj (hl p hp).1 ht,←Cj (hl p hp).1 z1]at this;exact xU.2 this
theorem GInv.congr{T:Nat}{sig:Nat→Int→List Bool}{D D':Nat→Int→Prop}{st:List (List Bool×Prd)}(h:GInv T sig D st)(e:∀t n,D t n↔D' t n):GInv T sig D' st:=by have:D=D':=funext fun t=>funext fun n=>propext (e t n);rw[←this];exact h
theorem Vq{T:Nat}{sig:Nat→Int→List Bool}:∀(A:List (Nat×Iv)) (D:Nat→Int→Prop) (st:List (List Bool×Prd)),GInv T sig D st→(∀a∈A,a.1<T∧a.2.lo≤a.2.hi∧∀n,a.2.lo≤n→n≤a.2.hi→sig a.1 n=sig a.1 a.2.lo)→
  (∀t n,D t n→∀a∈A,∀n',a.2.lo≤n'→n'≤a.2.hi→U2 t n a.1 n')→A.Pairwise (fun a b=>∀n n',a.2.lo≤n→n≤a.2.hi→b.2.lo≤n'→n'≤b.2.hi→U2 a.1 n b.1 n')→
  GInv T sig (fun t n=>D t n∨∃a∈A,u10 a t n) (A.foldl (fun st a=>Yj T a.1 (sig a.1 a.2.lo) a.2 st) st)
 |[],D,st,h,_,_,_=>h.congr (fun t n=>by simp)
 |a::A,D,st,h,h1,h2,h3=>by
  obtain⟨i,x⟩:=a;obtain⟨e1,e2,e3⟩:=h1 (i,x) (by simp);obtain⟨p1,p2⟩:=yU.1 h3;have hs:=h.step e1 e2 e3 (fun t n hd n' q1 q2=>h2 t n hd (i,x) (by simp) n' q1 q2);rw[xV];refine(Vq A _ _ hs (fun b hb=>h1 b (by simp[hb])) (fun t n hd b hb n' q1 q2=> ?_) p2).congr (fun t n=> ?_)
  ·rcases hd with hd|hd
   ·exact h2 t n hd b (by simp[hb]) n' q1 q2
   ·obtain⟨rfl,d1,d2⟩:=hd;exact p1 b hb n n' d1 d2 q1 q2
  ·simp[or_assoc]
theorem G8{T:Nat}{l:List Prd}{a:Nat×Iv}:a∈Kc T l↔a.1<T∧a.2∈T7 (Wc l a.1):=by
 unfold Kc;rw[wI];constructor
 ·rintro⟨i,hi,h⟩;obtain⟨x,hx,rfl⟩:=zT.1 h;exact⟨yV.1 hi,hx⟩
 ·rintro⟨h1,h2⟩;exact⟨a.1,yV.2 h1,zT.2 ⟨a.2,h2,rfl⟩⟩
theorem g0a{T:Nat}{l:List Prd}(hl:∀p∈l,PCk T p):(Kc T l).Pairwise (fun a b=>∀n n',a.2.lo≤n→n≤a.2.hi→b.2.lo≤n'→n'≤b.2.hi→U2 a.1 n b.1 n'):=by
 unfold Kc;rw[u6];refine⟨fun i _=> ?_,?_⟩
 ·rw[xZ];refine(Mm _ (Tz hl i).1).imp (fun {x y} h n n' h1 h2 h3 h4=> .inr ⟨rfl,by simp only at h2 h3;omega⟩)
 ·refine List.pairwise_lt_range.imp (fun {i j} h a ha b hb n n' _ _ _ _=> ?_);obtain⟨x,_,rfl⟩:=zT.1 ha;obtain⟨y,_,rfl⟩:=zT.1 hb;exact .inl h
theorem c0g{T:Nat}{l:List Prd}(hl:∀p∈l,PCk T p):GInv T (U6 l) (fun t n=>t<T∧inR n) (Pc T l):=by
 have h0:GInv T (U6 l) (fun _ _=>False) []:=⟨by simp,by simp,by simp,by simp,by simp,fun _ _ h=>h.elim,by simp⟩
 refine(Vq (Kc T l) _ [] h0 (fun a ha=> ?_) (fun _ _ h=>h.elim) (g0a hl)).congr (fun t n=> ?_)
 ·obtain⟨h1,h2⟩:=G8.1 ha;exact⟨h1,(Aw _ (Tz hl a.1).1 _ h2).1,fun n q1 q2=>g05 hl a.1 h2 n q1 q2⟩
 ·obtain⟨c1,c2,c3,c4,c5⟩:=Tz hl t;constructor
  ·rintro(h|⟨a,ha,rfl,h1,h2⟩)
   ·exact h.elim
   ·obtain⟨q1,q2⟩:=G8.1 ha;obtain⟨s1,s2,s3,s4⟩:=Aw _ c1 _ q2;have:=c4 _ s2;have:=c4 _ s3;exact⟨q1,by unfold inR;omega⟩
  ·rintro⟨h1,h2⟩;unfold inR at h2;obtain⟨x,hx,e1,e2⟩:=Js _ c1 n ⟨_,c2,h2.1⟩ ⟨_,c3,by omega⟩;exact .inr ⟨(t,x),G8.2 ⟨h1,hx⟩,rfl,e1,e2⟩
theorem Ov{s:List Iv}(h:(∀x∈s,x.lo≤x.hi)∧s.Pairwise (fun x y=>x.hi<y.lo)):Sep (Q0 [] s)∧∀n,M (Q0 [] s) n↔M s n:=by have hb:Xn s:=h.2.imp_of_mem (fun {x y} hx hy hxy=>by have:=h.1 x hx;omega);have:=Sn s [] Ng hb h.1 (by simp);refine⟨this.1,fun n=> ?_⟩;rw[this.2 n];simp[M]
theorem Zd{T:Nat}{p:Prd}(h:∀s∈p,(∀x∈s,x.lo≤x.hi)∧s.Pairwise (fun x y=>x.hi<y.lo))(t:Nat)(n:Int):PM (Rc p) t n↔PM p t n:=by
 unfold PM Rc;rw[zW];constructor
 ·rintro⟨s,hs,hm⟩;obtain⟨a,ha,rfl⟩:=zQ.1 hs;exact⟨a,ha,((Ov (h a (zH ha))).2 n).1 hm⟩
 ·rintro⟨a,ha,hm⟩;exact⟨Q0 [] a,by rw[ha];rfl,((Ov (h a (zH ha))).2 n).2 hm⟩
theorem Zx{T:Nat}{l:List Prd}(hl:∀p∈l,PCk T p):Prts T l (E3 T l)∧(E3 T l).Pairwise z0l:=by
 have h:=c0g hl;have z1:∀g∈Pc T l,∀t n,PM (Rc g.2) t n↔(t<T∧inR n)∧U6 l t n=g.1:=fun g hg t n=>by rw[Zd (T:=T) (h.asc g hg),h.mem g hg]
 have z6:∀p∈E3 T l,∃g∈Pc T l,p=Rc g.2:=fun p hp=>by obtain⟨g,hg,rfl⟩:=zT.1 hp;exact⟨g,hg,rfl⟩
 refine⟨⟨fun p hp=> ?_,fun p hp=> ?_,fun t n ht hn=> ?_,fun p hp t n hm t' n'=> ?_⟩,?_⟩
 ·obtain⟨g,hg,rfl⟩:=z6 p hp;refine⟨by simp[Rc,h.len g hg],fun s hs=> ?_⟩;obtain⟨i,hi⟩:=yE.1 hs;have z7:=hs;obtain⟨a,ha,rfl⟩:=zT.1 hs;exact⟨(Ov (h.asc g hg a ha)).1,fun n hn=>((z1 g hg i n).1 ⟨_,hi,hn⟩).1.2⟩
 ·obtain⟨g,hg,rfl⟩:=z6 p hp;obtain⟨t,n,hm⟩:=h.ne g hg;exact⟨t,n,(Zd (T:=T) (h.asc g hg) t n).2 hm⟩
 ·obtain⟨g,hg,he⟩:=h.all t n ⟨ht,hn⟩;exact⟨Rc g.2,zT.2 ⟨g,hg,rfl⟩,(z1 g hg t n).2 ⟨⟨ht,hn⟩,he.symm⟩⟩
 ·obtain⟨g,hg,rfl⟩:=z6 p hp;obtain⟨⟨q1,q2⟩,q3⟩:=(z1 g hg t n).1 hm;rw[z1 g hg];constructor
  ·rintro⟨⟨h1,h2⟩,h3⟩;exact⟨h1,h2,(v1a hl q1 h1 n n').1 (q3.trans h3.symm)⟩
  ·rintro⟨h1,h2,h3⟩;exact⟨⟨h1,h2⟩,((v1a hl q1 h1 n n').2 h3).symm.trans q3⟩
 ·unfold E3;rw[xZ];refine h.ord.imp_of_mem (fun {a b} ha hb hab=> ?_);obtain⟨t,n,e1,e2⟩:=hab;exact⟨t,n,(Zd (T:=T) (h.asc a ha) t n).2 e1,fun t' n' hm=>e2 t' n' ((Zd (T:=T) (h.asc b hb) t' n').1 hm)⟩
theorem Jl{T:Nat}(hT:0<T){l:List Prd}(hl:∀p∈l,PCk T p):E3 T l=Q9 T l:=by obtain⟨a1,a2⟩:=Zx hl;obtain⟨b1,b2⟩:=Uu hT hl;exact a1.unique b1 a2 b2
end Go.Abs
namespace Go.Abs
structure Sy where
 ty:Int
 num:Int
deriving Inhabited,DecidableEq
structure Mv where
 src:Int
 dst:Int
 on:Prd
deriving Inhabited
structure Aut where
 types:Int
 fin:List Bool
 mv:List Mv
deriving Inhabited
def Uo:Aut:=⟨0,[],[]⟩
def w01:List (List Iv)→Int
 |[]=>0
 |s::r=>if ckR s≠0 then ckR s else w01 r
def Ey(T:Int)(p:Prd):Int:=if T<1∨16<T then 2 else if(p.length:Int)≠T then 15 else w01 p
def z0k(T:Int)(n:Nat):List Mv→Int
 |[]=>0
 |m::r=>if ¬((0≤m.src∧m.src<n)∧(0≤m.dst∧m.dst<n))then 2 else if Ey T m.on≠0 then Ey T m.on else z0k T n r
def Wk(a:Aut):Int:=if a.types<1∨16<a.types then 2 else if a.fin.length<1∨256<a.fin.length∨2048<a.mv.length then 5 else z0k a.types a.fin.length a.mv
theorem Mn:∀(p:List (List Iv)),w01 p=0↔∀s∈p,CanonL s
 |[]=>by simp[w01]
 |s::r=>by
  rw[w01];by_cases h:ckR s=0
  ·rw[if_neg (fun k=>k h),Mn r];simp[(X0 s).1 h]
  ·rw[if_pos h];refine⟨fun k=>absurd k h,fun k=>absurd ((X0 s).2 (k s (by simp))) h⟩
theorem W5(T:Int)(p:Prd):Ey T p=0↔(1≤T∧T≤16)∧PCk T.toNat p:=by
 unfold Ey PCk;by_cases h1:T<1∨16<T
 ·rw[if_pos h1];exact⟨fun h=>by omega,fun h=>by omega⟩
 ·rw[if_neg h1];by_cases h2:(p.length:Int)≠T
  ·rw[if_pos h2];exact⟨fun h=>by omega,fun h=>by omega⟩
  ·rw[if_neg h2,Mn];exact⟨fun h=>⟨by omega,by omega,h⟩,fun h=>h.2.2⟩
structure OkMv (T:Nat) (n:Nat) (m:Mv):Prop where
 src:0≤m.src∧m.src<n
 dst:0≤m.dst∧m.dst<n
 on:PCk T m.on
structure OkA (a:Aut):Prop where
 types:1≤a.types∧a.types≤16
 fin:1≤a.fin.length∧a.fin.length≤256
 mvs:a.mv.length≤2048
 mv:∀m∈a.mv,OkMv a.types.toNat a.fin.length m
theorem M6{T:Int}(hT:1≤T∧T≤16)(n:Nat):∀(l:List Mv),z0k T n l=0↔∀m∈l,OkMv T.toNat n m
 |[]=>by simp[z0k]
 |m::r=>by
  rw[z0k];by_cases h1:(0≤m.src∧m.src<n)∧(0≤m.dst∧m.dst<n)
  ·rw[if_neg (fun k=>k h1)];by_cases h2:Ey T m.on=0
   ·rw[if_neg (fun k=>k h2),M6 hT n r];have h3:=((W5 T m.on).1 h2).2;constructor
    ·intro h x hx;rcases yB.1 hx with rfl|hx
     ·exact⟨h1.1,h1.2,h3⟩
     ·exact h x hx
    ·exact fun h x hx=>h x (by simp[hx])
   ·rw[if_pos h2];exact⟨fun h=>absurd h h2,fun h=>absurd ((W5 T m.on).2 ⟨hT,(h m (by simp)).on⟩) h2⟩
  ·rw[if_pos h1];exact⟨fun h=>(by cases h),fun h=>absurd ⟨(h m (by simp)).src,(h m (by simp)).dst⟩ h1⟩
theorem U4(a:Aut):Wk a=0↔OkA a:=by
 unfold Wk;by_cases h1:a.types<1∨16<a.types
 ·rw[if_pos h1];exact⟨fun h=>(by cases h),fun h=>by have:=h.types;omega⟩
 ·rw[if_neg h1];by_cases h2:a.fin.length<1∨256<a.fin.length∨2048<a.mv.length
  ·rw[if_pos h2];exact⟨fun h=>(by cases h),fun h=>by have:=h.fin;have:=h.mvs;omega⟩
  ·rw[if_neg h2,M6 (by omega)];exact⟨fun h=>⟨by omega,by omega,by omega,h⟩,fun h=>h.mv⟩
def E8(p:Prd)(x:Sy):Bool:=decide (0≤x.ty) && decide (x.ty<p.length) && O7 (p.getD x.ty.toNat []) x.num
def Sq(T:Int)(x:Sy):Int:=if x.ty<0∨T≤x.ty then 6 else if x.num< -1099511627776∨1099511627776<x.num then 2 else 0
theorem Yo(T:Int)(x:Sy):Sq T x=0↔(0≤x.ty∧x.ty<T)∧inR x.num:=by
 unfold Sq inR;split
 ·constructor
  ·intro h;cases h
  ·intro h;omega
 ·split
  ·constructor
   ·intro h;cases h
   ·intro h;omega
  ·constructor
   ·intro _;omega
   ·intro _;rfl
theorem E9{T:Nat}{p:Prd}(hp:p.length=T)(x:Sy)(hx:0≤x.ty):E8 p x=true↔PM p x.ty.toNat x.num:=by
 unfold E8;by_cases h:x.ty<p.length
 ·have h1:x.ty.toNat<T:=by omega
  rw[←Cj hp h1];simp[h,hx]
 ·have:¬PM p x.ty.toNat x.num:=by rintro⟨s,hs,_⟩;have:=(zB.1 hs).1;omega
  simp[h,this]
def W6(n:Nat):List Int:=(yL n).map fun i:Nat=>(i:Int)
theorem W1{n:Nat}{z:Int}:z∈W6 n↔0≤z∧z<n:=by
 unfold W6;rw[zT];constructor
 ·rintro⟨i,hi,rfl⟩;have:=yV.1 hi;omega
 ·rintro⟨h1,h2⟩;exact⟨z.toNat,yV.2 (by omega),by omega⟩
theorem Am(n:Nat):(W6 n).Pairwise (·<·):=by unfold W6;rw[xZ];exact List.pairwise_lt_range.imp (fun h=>by omega)
def q1p(a:Aut)(l:List Int)(x:Sy)(j:Int):Bool:=a.mv.any fun m=>l.contains m.src && E8 m.on x && decide (m.dst=j)
def Wa(a:Aut)(l:List Int)(x:Sy):List Int:=(W6 a.fin.length).filter (q1p a l x)
def u1w(a:Aut)(l:List Int)(x:Sy):List Int:=Go.Lib.compact (R9 ((a.mv.filter fun m=>l.contains m.src && E8 m.on x).map (·.dst)))
theorem q1o(zs:List Int):(R9 zs).Pairwise (·≤·):=by have:=uP (le:=fun x y:Int=>decide (x≤y)) (fun a b c h1 h2=>by simp at h1 h2 ⊢;omega) (fun a b=>by simp;omega) zs;simpa[R9]using this
theorem X9(zs:List Int):(Go.Lib.compact (R9 zs)).Pairwise (·<·)∧∀z,z∈Go.Lib.compact (R9 zs)↔z∈zs:=by have h:=Cd _ (q1o zs) _ (zR _);refine⟨h.1,fun z=> ?_⟩;have h2:=h.2 z;rw[y_]at h2;rw[Go.Lib.compact,h2,R9,tl]
theorem Uc{a b:List Int}(ha:a.Pairwise (·<·))(hb:b.Pairwise (·<·))(h:∀z,z∈a↔z∈b):a=b:=by have hn:∀ {l:List Int},l.Pairwise (·<·)→l.Nodup:=fun hl=>hl.imp (fun h e=>by omega);exact List.Perm.eq_of_pairwise (le:=(·<·)) (fun a b _ _ h1 h2=>by omega) ha hb ((uH (hn ha) (hn hb)).2 h)
theorem Ui(a:Aut)(l:List Int)(x:Sy):(Wa a l x).Pairwise (·<·):=(Am _).filter _
theorem Ek{a:Aut}{l:List Int}{x:Sy}{j:Int}:j∈Wa a l x↔(0≤j∧j<a.fin.length)∧∃m∈a.mv,m.src∈l∧E8 m.on x=true∧m.dst=j:=by unfold Wa q1p;rw[xM,W1,wS];simp[and_assoc]
theorem j1e{a:Aut}(h:∀m∈a.mv,0≤m.dst∧m.dst<a.fin.length)(l:List Int)(x:Sy):u1w a l x=Wa a l x:=by
 obtain⟨h1,h2⟩:=X9 ((a.mv.filter fun m=>l.contains m.src && E8 m.on x).map (·.dst));refine Uc h1 (Ui a l x) fun z=> ?_;rw[u1w,h2,Ek];constructor
 ·intro hz;obtain⟨m,hm,rfl⟩:=zT.1 hz;obtain⟨hm,hc⟩:=xM.1 hm;simp at hc;exact⟨h m hm,m,hm,hc.1,hc.2,rfl⟩
 ·rintro⟨_,m,hm,c1,c2,rfl⟩;exact zT.2 ⟨m,xM.2 ⟨hm,by simp[c1,c2]⟩,rfl⟩
theorem Oc{a:Aut}{l:List Int}{x:Sy}:∀j∈Wa a l x,0≤j∧j<a.fin.length:=fun j hj=>(Ek.1 hj).1
def Qm(p:Prd):Sy:=⟨(Qx p 0).1,(Qx p 0).2⟩
def H5(Q:List (List Int))(x:List Int):List (List Int):=if x=[]∨x∈Q then Q else Q++[x]
def Ea(Q:List (List Int))(xs:List (List Int)):List (List Int):=xs.foldl H5 Q
def Ta(a:Aut)(cl:List Prd)(l:List Int):List (List Int):=cl.map fun c=>Wa a l (Qm c)
def y0y(a:Aut)(cl:List Prd):Nat→Nat→List (List Int)→Option (List (List Int))
 |0,_,_=>none
 |f+1,i,Q=>match Q[i]? with
  |some l=>if 256<(Ea Q (Ta a cl l)).length then none else y0y a cl f (i+1) (Ea Q (Ta a cl l))
  |none=>some Q
theorem w1a(Q:List (List Int))(x:List Int):∃R,H5 Q x=Q++R∧∀y∈R,y=x∧x≠[]:=by
 unfold H5;split
 ·exact⟨[],by simp,by simp⟩
 ·rename_i h;exact⟨[x],rfl,fun y hy=>⟨zP.1 hy,fun e=>h (.inl e)⟩⟩
theorem Y3:∀(xs:List (List Int)) (Q:List (List Int)),∃R,Ea Q xs=Q++R∧∀y∈R,y∈xs∧y≠[]
 |[],Q=>⟨[],by simp[Ea],by simp⟩
 |x::xs,Q=>by
  obtain⟨R1,h1,h2⟩:=w1a Q x;obtain⟨R2,h3,h4⟩:=Y3 xs (H5 Q x);refine⟨R1++R2,?_,fun y hy=> ?_⟩
  ·show Ea (H5 Q x) xs=_;rw[h3,h1,List.append_assoc]
  ·rcases zU.1 hy with hy|hy
   ·obtain⟨rfl,hn⟩:=h2 y hy;exact⟨by simp,hn⟩
   ·exact⟨by simp[(h4 y hy).1],(h4 y hy).2⟩
theorem w07(Q xs:List (List Int)):Q.length≤(Ea Q xs).length:=by obtain⟨R,h,_⟩:=Y3 xs Q;rw[h];simp
theorem w16{Q:List (List Int)}{x:List Int}(hx:x≠[]):x∈H5 Q x:=by
 unfold H5;split
 ·rename_i h;rcases h with h|h
  ·exact absurd h hx
  ·exact h
 ·simp
theorem J9:∀ {xs:List (List Int)} {Q:List (List Int)} {x:List Int},x∈xs→x≠[]→x∈Ea Q xs
 |[],_,_,h,_=>by cases h
 |y::xs,Q,x,h,hn=>by
  show x∈Ea (H5 Q y) xs;rcases yB.1 h with rfl|h
  ·obtain⟨R,e,_⟩:=Y3 xs (H5 Q x);rw[e];exact yY _ (w16 hn)
  ·exact J9 h hn
def x1l(Q:List (List Int)):List (List Int)→Option (List (List Int))
 |[]=>some Q
 |x::xs=>if 256<(H5 Q x).length then none else x1l (H5 Q x) xs
end Go.Abs
namespace Go.Abs
def Rm(p q:Prd):Prd:=tT (fun a b=>Es (a++b)) p q
theorem Ab{T:Nat}{p q:Prd}(hp:PWf T p)(hq:PWf T q)(t:Nat)(n:Int):PM (Rm p q) t n↔PM p t n∨PM q t n:=by
 have hf:∀ {a b:List Iv},a∈p→b∈q→∀x∈a++b,x.lo≤x.hi:=fun ha hb x hx=>by
  rcases zU.1 hx with hx|hx
  ·exact(hp.2 _ ha).1.1 x hx
  ·exact(hq.2 _ hb).1.1 x hx
 unfold PM Rm;rw[wZ];constructor
 ·rintro⟨s,hs,hm⟩;cases h1:p[t]? with
  |none=>rw[h1]at hs;simp at hs
  |some a=>
   cases h2:q[t]? with
   |none=>rw[h1,h2]at hs;simp at hs
   |some b=>
    rw[h1,h2]at hs;simp at hs;subst hs;have:=((Ul _ (hf (zH h1) (zH h2))).2 n).1 hm;rcases(Z6 ..).1 this with h|h
    ·exact .inl ⟨a,rfl,h⟩
    ·exact .inr ⟨b,rfl,h⟩
 ·intro h;have z1:t<T:=by
   rcases h with⟨s,hs,_⟩|⟨s,hs,_⟩
   ·rw[←hp.1];exact(zB.1 hs).1
   ·rw[←hq.1];exact(zB.1 hs).1
  have h1:t<p.length:=by rw[hp.1];exact z1
  have h2:t<q.length:=by rw[hq.1];exact z1
  rw[zJ h1,zJ h2]at h ⊢;refine⟨_,rfl,((Ul _ (hf (zL h1) (zL h2))).2 n).2 ((Z6 ..).2 ?_)⟩;rcases h with⟨s,hs,hm⟩|⟨s,hs,hm⟩
  ·cases hs;exact .inl hm
  ·cases hs;exact .inr hm
theorem Gq{T:Nat}{p q:Prd}(hp:PWf T p)(hq:PWf T q):PWf T (Rm p q):=by
 refine⟨by simp[Rm,hp.1,hq.1],fun s hs=> ?_⟩;obtain⟨i,hi⟩:=yE.1 hs;have z1:=hi;unfold Rm at hi;rw[wZ]at hi;cases h1:p[i]? with
 |none=>rw[h1]at hi;simp at hi
 |some a=>
  cases h2:q[i]? with
  |none=>rw[h1,h2]at hi;simp at hi
  |some b=>
   rw[h1,h2]at hi;simp at hi;subst hi;refine⟨(Ul _ fun x hx=> ?_).1,fun n hn=> ?_⟩
   ·rcases zU.1 hx with hx|hx
    ·exact(hp.2 _ (zH h1)).1.1 x hx
    ·exact(hq.2 _ (zH h2)).1.1 x hx
   ·rcases(Ab hp hq i n).1 ⟨_,z1,hn⟩with h|h
    ·exact(hp.lt h).2
    ·exact(hq.lt h).2
def v0o(Q:List (List Int))(x:List Int):Option Nat:=Q.findIdx? fun y=>decide (y=x)
theorem Fy{Q:List (List Int)}{x:List Int}{t:Nat}(h:v0o Q x=some t):Q[t]? =some x:=by unfold v0o at h;obtain⟨h1,h2,_⟩:=xF.1 h;rw[zJ h1];simpa using h2
theorem k03{Q:List (List Int)}(hn:Q.Nodup){t:Nat}{x:List Int}(h:Q[t]? =some x):v0o Q x=some t:=by
 unfold v0o;obtain⟨h1,h2⟩:=zB.1 h;refine xF.2 ⟨h1,by simpa using h2,fun j hj=> ?_⟩;have z1:Q[j]≠Q[t]:=fun e=>by have:=(vN hn).1 e;omega
 rw[h2]at z1;simpa using z1
def Ts(n:Nat)(g:List Mv)(to:Nat)(c:Prd):List Mv:=match g.findIdx? fun m:Mv=>decide (m.dst=(to:Int))with
 |none=>g++[⟨n,to,c⟩]
 |some i=>match g[i]? with
  |some m=>g.set i { m with on:=Rm m.on c }
  |none=>g
def X7(a:Aut)(cl:List Prd)(Q:List (List Int))(n:Nat)(l:List Int):List Mv:=
 cl.foldl (fun g c=>match v0o Q (Wa a l (Qm c))with|some t=>Ts n g t c|none=>g) []
def N1(a:Aut)(cl:List Prd)(Q:List (List Int)):List Mv:=(yL Q.length).flatMap fun n=>X7 a cl Q n (Q.getD n [])
def Fj(a:Aut)(l:List Int):Bool:=l.any fun s=>a.fin.getD s.toNat false
def Uf(a:Aut)(cl:List Prd)(Q:List (List Int)):Aut:=⟨a.types,Q.map (Fj a),N1 a cl Q⟩
structure MInv (T N n:Nat) (D:Nat→Nat→Int→Prop) (g:List Mv):Prop where
 wf:∀m∈g,PWf T m.on
 src:∀m∈g,m.src=n
 dst:∀m∈g,∃t:Nat,t<N∧m.dst=t
 nd:g.Pairwise (fun m k=>m.dst≠k.dst)
 mem:∀m∈g,∀t:Nat,m.dst=t→∀ty y,PM m.on ty y↔D t ty y
 all:∀t ty y,D t ty y→∃m∈g,m.dst=(t:Int)
theorem MInv.add{T N n:Nat}{D:Nat→Nat→Int→Prop}{g:List Mv}(h:MInv T N n D g){to:Nat}(ht:to<N){c:Prd}(hc:PWf T c)(zh:∃ty y,PM c ty y):
  MInv T N n (fun t ty y=>D t ty y∨(t=to∧PM c ty y)) (Ts n g to c):=by
 unfold Ts;cases hf:g.findIdx? fun m:Mv=>decide (m.dst=(to:Int))with
 |none=>
  rw[List.findIdx?_eq_none_iff]at hf;have z7:∀m∈g,m.dst≠(to:Int):=fun m hm=>by simpa using hf m hm
  show MInv T N n _ (g++[⟨n,to,c⟩]);have z1:∀m∈g++[(⟨n,to,c⟩:Mv)],m∈g∨m=⟨n,to,c⟩:=fun m hm=>by
   rcases zU.1 hm with hm|hm
   ·exact .inl hm
   ·exact .inr (zP.1 hm)
  have hD:∀ty y,¬D to ty y:=fun ty y hd=>by obtain⟨m,hm,e⟩:=h.all to ty y hd;exact z7 m hm e
  refine⟨fun m hm=> ?_,fun m hm=> ?_,fun m hm=> ?_,?_,fun m hm t e ty y=> ?_,fun t ty y hd=> ?_⟩
  ·rcases z1 m hm with hm|rfl
   ·exact h.wf m hm
   ·exact hc
  ·rcases z1 m hm with hm|rfl
   ·exact h.src m hm
   ·rfl
  ·rcases z1 m hm with hm|rfl
   ·exact h.dst m hm
   ·exact⟨to,ht,rfl⟩
  ·exact yH.2 ⟨h.nd,by simp,fun m hm k hk=>by obtain rfl:=zP.1 hk;exact z7 m hm⟩
  ·rcases z1 m hm with hm'|rfl
   ·rw[h.mem m hm' t e];constructor
    ·exact fun hd=> .inl hd
    ·rintro(hd|⟨e2,_⟩)
     ·exact hd
     ·exact absurd (by rw[e,e2]) (z7 m hm')
   ·have:t=to:=by simp at e;omega
    subst this;constructor
    ·exact fun hd=> .inr ⟨rfl,hd⟩
    ·rintro(hd|⟨_,hd⟩)
     ·exact absurd hd (hD ty y)
     ·exact hd
  ·rcases hd with hd|⟨rfl,_⟩
   ·obtain⟨m,hm,e⟩:=h.all t ty y hd;exact⟨m,by simp[hm],e⟩
   ·exact⟨⟨n,t,c⟩,by simp,rfl⟩
 |some i=>
  obtain⟨hi,zf,_⟩:=xF.1 hf;simp only[zJ hi];have z6:g[i].dst=(to:Int):=by simpa using zf
  have z8:=zL hi;have hw:=h.wf _ z8;have z1:∀m∈g.set i { g[i]with on:=Rm g[i].on c },(m∈g∧m.dst≠(to:Int))∨m={ g[i]with on:=Rm g[i].on c }:=fun m hm=>by
   obtain⟨j,hj⟩:=yE.1 hm;by_cases hij:i=j
   ·subst hij;rw[zO hi]at hj;exact .inr (Option.some.inj hj).symm
   ·rw[zE hij]at hj;obtain⟨zc,zd⟩:=zB.1 hj;refine .inl ⟨zH hj,fun e=> ?_⟩;rcases uA hij with hlt|hgt
    ·exact yQ.1 h.nd i j hi zc hlt (by rw[zd,e,z6])
    ·exact yQ.1 h.nd j i zc hi hgt (by rw[zd,e,z6])
  refine⟨fun m hm=> ?_,fun m hm=> ?_,fun m hm=> ?_,?_,fun m hm t e ty y=> ?_,fun t ty y hd=> ?_⟩
  ·rcases z1 m hm with⟨hm,_⟩|rfl
   ·exact h.wf m hm
   ·exact Gq hw hc
  ·rcases z1 m hm with⟨hm,_⟩|rfl
   ·exact h.src m hm
   ·have:=h.src g[i] z8;simpa using this
  ·rcases z1 m hm with⟨hm,_⟩|rfl
   ·exact h.dst m hm
   ·exact⟨to,ht,z6⟩
  ·have za:(g.set i { g[i]with on:=Rm g[i].on c }).map (·.dst)=g.map (·.dst):=by
    apply List.ext_getElem?;intro j;rw[zW,zW];by_cases hij:i=j
    ·subst hij;rw[zO hi,zJ hi];rfl
    ·rw[zE hij]
   have hp:(g.map (·.dst)).Pairwise (·≠·):=xZ.2 h.nd;rw[←za]at hp;exact xZ.1 hp
  ·rcases z1 m hm with⟨hm,zg⟩|rfl
   ·rw[h.mem m hm t e];constructor
    ·exact fun hd=> .inl hd
    ·rintro(hd|⟨rfl,_⟩)
     ·exact hd
     ·exact absurd e zg
   ·have:t=to:=by simp only at e;omega
    subst this;have zb:=Ab hw hc ty y;have ze:=h.mem _ z8 t z6 ty y;constructor
    ·intro hd;rcases zb.1 hd with hd|hd
     ·exact .inl (ze.1 hd)
     ·exact .inr ⟨rfl,hd⟩
    ·rintro(hd|⟨_,hd⟩)
     ·exact zb.2 (.inl (ze.2 hd))
     ·exact zb.2 (.inr hd)
  ·rcases hd with hd|⟨rfl,_⟩
   ·obtain⟨m,hm,e⟩:=h.all t ty y hd;obtain⟨j,hj⟩:=yE.1 hm;by_cases hij:i=j
    ·subst hij;rw[zJ hi]at hj;cases hj;exact⟨_,zH (zO hi),e⟩
    ·exact⟨m,zH (by rw[zE hij];exact hj),e⟩
   ·exact⟨_,zH (zO hi),z6⟩
theorem MInv.congr{T N n:Nat}{D D':Nat→Nat→Int→Prop}{g:List Mv}(h:MInv T N n D g)(e:∀t ty y,D t ty y↔D' t ty y):MInv T N n D' g:=by have:D=D':=funext fun t=>funext fun ty=>funext fun y=>propext (e t ty y);rw[←this];exact h
theorem Az{T:Nat}{a:Aut}{cl:List Prd}{Q:List (List Int)}(n:Nat)(l:List Int)(hw:∀c∈cl,PWf T c∧∃ty y,PM c ty y):
  MInv T Q.length n (fun t ty y=>∃c∈cl,v0o Q (Wa a l (Qm c))=some t∧PM c ty y) (X7 a cl Q n l):=by
 have key:∀(r:List Prd) (D:Nat→Nat→Int→Prop) (g:List Mv),MInv T Q.length n D g→(∀c∈r,PWf T c∧∃ty y,PM c ty y)→
   MInv T Q.length n (fun t ty y=>D t ty y∨∃c∈r,v0o Q (Wa a l (Qm c))=some t∧PM c ty y) (r.foldl (fun g c=>match v0o Q (Wa a l (Qm c))with|some t=>Ts n g t c|none=>g) g):=by
  intro r;induction r with
  |nil=>intro D g h _;exact h.congr (fun t ty y=>by simp)
  |cons c r ih=>
   intro D g h hr;rw[xV];cases hx:v0o Q (Wa a l (Qm c))with
   |none=>refine(ih D g h (fun d hd=>hr d (by simp[hd]))).congr (fun t ty y=> ?_);simp[hx]
   |some to=>
    have z1:=(zB.1 (Fy hx)).1;have hc:=hr c (by simp);refine(ih _ _ (h.add z1 hc.1 hc.2) (fun d hd=>hr d (by simp[hd]))).congr (fun t ty y=> ?_);simp only[yB,exists_eq_or_imp,hx,Option.some.injEq,or_assoc];constructor
    ·rintro(h|⟨e,h⟩|h)
     ·exact .inl h
     ·exact .inr (.inl ⟨e.symm,h⟩)
     ·exact .inr (.inr h)
    ·rintro(h|⟨e,h⟩|h)
     ·exact .inl h
     ·exact .inr (.inl ⟨e.symm,h⟩)
     ·exact .inr (.inr h)
 have h0:MInv T Q.length n (fun _ _ _=>False) []:=⟨by simp,by simp,by simp,by simp,by simp,fun _ _ _ h=>h.elim⟩
 exact(key cl _ [] h0 hw).congr (fun t ty y=>by simp)
end Go.Abs
namespace Go.Abs
structure Cls (a:Aut) (cl:List Prd):Prop where
 ok:OkA a
 prts:Prts a.types.toNat (a.mv.map (·.on)) cl
 wf:∀c∈cl,PWf a.types.toNat c∧∃ty y,PM c ty y
theorem x11{a:Aut}(h:OkA a):Cls a (Q9 a.types.toNat (a.mv.map (·.on))):=by
 have hT:0<a.types.toNat:=by have:=h.types;omega
 have hp:=(Uu hT (l:=a.mv.map (·.on)) (fun p hp=>by obtain⟨m,hm,rfl⟩:=zT.1 hp;exact(h.mv m hm).on)).1;exact⟨h,hp,fun c hc=>⟨hp.wf c hc,hp.ne c hc⟩⟩
def Wv(a:Aut)(x:Sy):Prop:=(0≤x.ty∧x.ty<a.types)∧inR x.num
theorem z0h{a:Aut}{l:List Int}{x y:Sy}(h:∀m∈a.mv,E8 m.on x=E8 m.on y):Wa a l x=Wa a l y:=by
 refine Uc (Ui ..) (Ui ..) fun z=> ?_;rw[Ek,Ek];constructor
 ·rintro⟨h1,m,hm,h2,h3,h4⟩;exact⟨h1,m,hm,h2,by rw[←h m hm];exact h3,h4⟩
 ·rintro⟨h1,m,hm,h2,h3,h4⟩;exact⟨h1,m,hm,h2,by rw[h m hm];exact h3,h4⟩
theorem Cls.of{a:Aut}{cl:List Prd}(h:Cls a cl){x:Sy}(hx:Wv a x):∃c∈cl,PM c x.ty.toNat x.num∧∀l,Wa a l x=Wa a l (Qm c):=by obtain⟨c,hc,hm⟩:=h.prts.all x.ty.toNat x.num (by have:=hx.1;omega) hx.2;refine⟨c,hc,hm,fun l=>z0h fun m z1=> ?_⟩;have h1:=(W3 (h.wf c hc).1 (h.wf c hc).2).1;have h2:=((h.prts.cls c hc _ _ hm _ _).1 h1).2.2 m.on (zT.2 ⟨m,z1,rfl⟩);have hl:=(h.ok.mv m z1).on.1;rw[xU,E9 hl x hx.1.1,E9 hl (Qm c) (by simp[Qm])];simpa[Qm]using h2
theorem Cls.same{a:Aut}{cl:List Prd}(h:Cls a cl){c:Prd}(hc:c∈cl){x:Sy}(hx:Wv a x)(hm:PM c x.ty.toNat x.num)(l:List Int):Wa a l x=Wa a l (Qm c):=by obtain⟨d,hd,z1,e⟩:=h.of hx;rw[e l,h.prts.disj hd hc z1 hm]
structure Sub (a:Aut) (cl:List Prd) (Q:List (List Int)):Prop where
 first:Q[0]? =some [0]
 nd:Q.Nodup
 ne:∀l∈Q,l≠[]
 lim:Q.length≤256
 elem:∀l∈Q,l.Pairwise (·<·)∧∀s∈l,0≤s∧s<a.fin.length
 closed:∀l∈Q,∀c∈cl,Wa a l (Qm c)=[]∨Wa a l (Qm c)∈Q
theorem z0x{Q:List (List Int)}{x:List Int}(h:Q.Nodup):(H5 Q x).Nodup:=by
 unfold H5;split
 ·exact h
 ·rename_i hx;exact List.nodup_append.2 ⟨h,by simp,fun a ha b hb e=>by
   obtain rfl:=zP.1 hb;subst e;exact hx (.inr ha)⟩
theorem Dg:∀(xs:List (List Int)) {Q:List (List Int)},Q.Nodup→(Ea Q xs).Nodup
 |[],_,h=>h
 |x::xs,Q,h=>Dg xs (z0x (x:=x) h)
theorem u0e{a:Aut}(ha:OkA a)(cl:List Prd):∀(f i:Nat) (Q R:List (List Int)),y0y a cl f i Q=some R→Q[0]? =some [0]→Q.Nodup→(∀l∈Q,l≠[])→Q.length≤256→(∀l∈Q,l.Pairwise (·<·)∧∀s∈l,0≤s∧s<a.fin.length)→
  (∀j,j<i→∀l,Q[j]? =some l→∀c∈cl,Wa a l (Qm c)=[]∨Wa a l (Qm c)∈Q)→Sub a cl R
 |0,_,_,_,h,_,_,_,_,_,_=>by cases h
 |f+1,i,Q,R,h,h1,h2,h3,h4,h5,h6=>by
  rw[y0y]at h;cases hq:Q[i]? with
  |none=>rw[hq]at h;simp only[Option.some.injEq]at h;subst h;have hi:Q.length≤i:=List.getElem?_eq_none_iff.1 hq;refine⟨h1,h2,h3,h4,h5,fun l hl c hc=> ?_⟩;obtain⟨j,hj⟩:=yE.1 hl;exact h6 j (by have:=(zB.1 hj).1;omega) l hj c hc
  |some l=>
   rw[hq]at h;simp only at h;by_cases hlim:256<(Ea Q (Ta a cl l)).length
   ·rw[if_pos hlim]at h;cases h
   ·rw[if_neg hlim]at h;obtain⟨X,hX,z6⟩:=Y3 (Ta a cl l) Q;have hlen:0<Q.length:=(zB.1 h1).1;have z1:∀y∈Ea Q (Ta a cl l),y∈Q∨(y≠[]∧∃c∈cl,y=Wa a l (Qm c)):=fun y hy=>by
     rw[hX]at hy;rcases zU.1 hy with hy|hy
     ·exact .inl hy
     ·obtain⟨p1,p2⟩:=z6 y hy;obtain⟨c,hc,rfl⟩:=zT.1 p1;exact .inr ⟨p2,c,hc,rfl⟩
    refine u0e ha cl f (i+1) _ R h ?_ (Dg _ h2) ?_ (by omega) ?_ ?_
    ·rw[hX,zF hlen];exact h1
    ·intro y hy;rcases z1 y hy with hy|⟨hy,_⟩
     ·exact h3 y hy
     ·exact hy
    ·intro y hy;rcases z1 y hy with hy|⟨_,c,_,rfl⟩
     ·exact h5 y hy
     ·exact⟨Ui ..,Oc⟩
    ·intro j hj k hk c hc;by_cases hji:j<i
     ·have z7:j<Q.length:=by have:=(zB.1 hq).1;omega
      rw[hX,zF z7]at hk;rcases h6 j hji k hk c hc with h7|h7
      ·exact .inl h7
      ·right;rw[hX];exact yY _ h7
     ·have:j=i:=by omega
      subst this;rw[hX,zF (zB.1 hq).1,hq]at hk;cases hk;by_cases hn:Wa a l (Qm c)=[]
      ·exact .inl hn
      ·exact .inr (J9 (zT.2 ⟨c,hc,rfl⟩) hn)
def Zn(a:Aut)(cl:List Prd):Option (List (List Int)):=y0y a cl 257 0 [[0]]
theorem j0y{a:Aut}(ha:OkA a){cl:List Prd}{Q:List (List Int)}(h:Zn a cl=some Q):Sub a cl Q:=
 u0e ha cl 257 0 [[0]] Q h rfl (by simp) (by simp) (by simp) (by intro l hl;obtain rfl:=zP.1 hl;exact⟨by simp,fun s hs=>by obtain rfl:=zP.1 hs;have:=ha.fin;omega⟩) (fun j hj=>by omega)
theorem Sub.step{a:Aut}{cl:List Prd}{Q:List (List Int)}(hs:Sub a cl Q)(hc:Cls a cl){l:List Int}(hl:l∈Q){x:Sy}(hx:Wv a x):Wa a l x=[]∨Wa a l x∈Q:=by obtain⟨c,h1,_,h3⟩:=hc.of hx;rw[h3 l];exact hs.closed l hl c h1
theorem U9{a:Aut}{cl:List Prd}{Q:List (List Int)}{m:Mv}:m∈N1 a cl Q↔∃n l,Q[n]? =some l∧m∈X7 a cl Q n l:=by
 unfold N1;rw[wI];constructor
 ·rintro⟨n,hn,hm⟩;have z1:=yV.1 hn;refine⟨n,Q[n],zJ z1,?_⟩;simpa[yS,z1]using hm
 ·rintro⟨n,l,hl,hm⟩;have z1:=(zB.1 hl).1;refine⟨n,yV.2 z1,?_⟩;simpa[yS,hl]using hm
theorem Fc{a:Aut}{cl:List Prd}{Q:List (List Int)}(hc:Cls a cl)(hs:Sub a cl Q){n:Nat}{l:List Int}(hl:Q[n]? =some l){x:Sy}(hx:Wv a x)(t:Nat):
  (∃m∈N1 a cl Q,m.src=(n:Int)∧m.dst=(t:Int)∧E8 m.on x=true)↔Q[t]? =some (Wa a l x):=by
 have hg:=Az (a:=a) (Q:=Q) n l hc.wf;have key:v0o Q (Wa a l x)=some t↔Q[t]? =some (Wa a l x):=⟨Fy,k03 hs.nd⟩
 rw[←key];constructor
 ·rintro⟨m,hm,h1,h2,h3⟩;obtain⟨n',l',hl',z6⟩:=U9.1 hm;have z7:=Az (a:=a) (Q:=Q) n' l' hc.wf;have:n'=n:=by have:=z7.src m z6;omega
  subst this;rw[hl]at hl';cases hl';rw[E9 (hg.wf m z6).1 x hx.1.1]at h3;obtain⟨c,z1,e1,e2⟩:=(hg.mem m z6 t h2 _ _).1 h3;rw[hc.same z1 hx e2];exact e1
 ·intro h;obtain⟨c,z1,e1,e2⟩:=hc.of hx;rw[e2]at h;obtain⟨m,hm,hd⟩:=hg.all t _ _ ⟨c,z1,h,e1⟩;refine⟨m,U9.2 ⟨n,l,hl,hm⟩,hg.src m hm,hd,?_⟩;rw[E9 (hg.wf m hm).1 x hx.1.1];exact(hg.mem m hm t hd _ _).2 ⟨c,z1,h,e1⟩
theorem w1o{a:Aut}{cl:List Prd}{Q:List (List Int)}(hc:Cls a cl)(hs:Sub a cl Q){n:Nat}{l:List Int}(hl:Q[n]? =some l){x:Sy}(hx:Wv a x):
  (Wa a l x=[]∧Wa (Uf a cl Q) [(n:Int)] x=[])∨∃t:Nat,Q[t]? =some (Wa a l x)∧Wa (Uf a cl Q) [(n:Int)] x=[(t:Int)]:=by
 have z1:∀j,j∈Wa (Uf a cl Q) [(n:Int)] x↔∃t:Nat,j=t∧Q[t]? =some (Wa a l x):=fun j=>by
  rw[Ek];constructor
  ·rintro⟨⟨h1,h2⟩,m,hm,h3,h4,h5⟩;refine⟨j.toNat,by omega,(Fc hc hs hl hx j.toNat).1 ⟨m,hm,zP.1 h3,by omega,h4⟩⟩
  ·rintro⟨t,rfl,ht⟩;obtain⟨m,hm,h1,h2,h3⟩:=(Fc hc hs hl hx t).2 ht;have:=(zB.1 ht).1;exact⟨⟨by omega,by simp[Uf];omega⟩,m,hm,by rw[h1];simp,h3,h2⟩
 rcases hs.step hc (zH hl) hx with h0|h0
 ·refine .inl ⟨h0,vK.2 fun j hj=> ?_⟩;obtain⟨t,_,ht⟩:=(z1 j).1 hj;rw[h0]at ht;exact hs.ne _ (zH ht) rfl
 ·obtain⟨t,ht⟩:=yE.1 h0;refine .inr ⟨t,ht,Uc (Ui ..) (by simp) fun z=> ?_⟩;rw[z1 z];constructor
  ·rintro⟨u,rfl,hu⟩;obtain⟨h1,h2⟩:=zB.1 ht;obtain⟨h3,h4⟩:=zB.1 hu;have:u=t:=(vN hs.nd).1 (by rw[h4,h2]);simp[this]
  ·intro hz;exact⟨t,zP.1 hz,ht⟩
def O2(a:Aut)(l:List Int)(w:List Sy):List Int:=w.foldl (Wa a) l
def Uk(a:Aut)(w:List Sy):Bool:=Fj a (O2 a [0] w)
theorem Bl(a:Aut):∀w,O2 a [] w=[]
 |[]=>rfl
 |x::w=>by
  show O2 a (Wa a [] x) w=[]
  have:Wa a [] x=[]:=vK.2 fun j hj=>by obtain⟨_,m,_,h,_⟩:=Ek.1 hj;cases h
  rw[this,Bl a w]
theorem j0v{a:Aut}{cl:List Prd}{Q:List (List Int)}(hc:Cls a cl)(hs:Sub a cl Q):∀(w:List Sy),(∀x∈w,Wv a x)→∀(n:Nat) (l:List Int),Q[n]? =some l→
  (O2 a l w=[]∧O2 (Uf a cl Q) [(n:Int)] w=[])∨∃t:Nat,Q[t]? =some (O2 a l w)∧O2 (Uf a cl Q) [(n:Int)] w=[(t:Int)]
 |[],_,n,l,hl=> .inr ⟨n,hl,rfl⟩
 |x::w,hw,n,l,hl=>by
  show(O2 a (Wa a l x) w=[]∧O2 (Uf a cl Q) (Wa (Uf a cl Q) [(n:Int)] x) w=[])∨∃t:Nat,Q[t]? =some (O2 a (Wa a l x) w)∧O2 (Uf a cl Q) (Wa (Uf a cl Q) [(n:Int)] x) w=[(t:Int)]
  rcases w1o hc hs hl (hw x (by simp))with⟨h1,h2⟩|⟨t,h1,h2⟩
  ·rw[h1,h2];exact .inl ⟨Bl _ _,Bl _ _⟩
  ·rw[h2];exact j0v hc hs w (fun y hy=>hw y (by simp[hy])) t _ h1
theorem v1g{a:Aut}{cl:List Prd}{Q:List (List Int)}(hc:Cls a cl)(hs:Sub a cl Q){w:List Sy}(hw:∀x∈w,Wv a x):Uk (Uf a cl Q) w=Uk a w:=by
 unfold Uk;rcases j0v hc hs w hw 0 [0] hs.first with⟨h1,h2⟩|⟨t,h1,h2⟩
 ·have z1:O2 (Uf a cl Q) [0] w=[]:=h2;rw[h1,z1];rfl
 ·have z1:O2 (Uf a cl Q) [0] w=[(t:Int)]:=h2;rw[z1];simp only[Fj,Uf,List.any_cons,List.any_nil,Bool.or_false,Int.toNat_natCast,yS,zW,h1,Option.map_some,Option.getD_some]
def Pl(a:Aut):Prop:=a.mv.Pairwise (fun m k=>m.src=k.src→∀x:Sy,Wv a x→¬(E8 m.on x=true∧E8 k.on x=true))
theorem y01{a:Aut}{cl:List Prd}{Q:List (List Int)}(hc:Cls a cl)(hs:Sub a cl Q):Pl (Uf a cl Q):=by
 unfold Pl;show(N1 a cl Q).Pairwise _;unfold N1;rw[u6];constructor
 ·intro n hn;have z1:=yV.1 hn;have hl:Q[n]? =some Q[n]:=zJ z1;have hg:Q.getD n []=Q[n]:=by simp[yS,z1]
  rw[hg];have hi:=Az (a:=a) (Q:=Q) n Q[n] hc.wf;refine hi.nd.imp_of_mem (fun {m k} hm hk hne _ x hx=> ?_);rintro⟨h1,h2⟩;obtain⟨t1,_,e1⟩:=hi.dst m hm;obtain⟨t2,_,e2⟩:=hi.dst k hk;have z6:Wv a x:=hx;have d1:=(Fc hc hs hl z6 t1).1 ⟨m,U9.2 ⟨n,_,hl,hm⟩,hi.src m hm,e1,h1⟩;have d2:=(Fc hc hs hl z6 t2).1 ⟨k,U9.2 ⟨n,_,hl,hk⟩,hi.src k hk,e2,h2⟩;obtain⟨p1,p2⟩:=zB.1 d1;obtain⟨p3,p4⟩:=zB.1 d2;have:t1=t2:=(vN hs.nd).1 (by rw[p2,p4]);exact hne (by rw[e1,e2,this])
 ·refine List.pairwise_lt_range.imp (fun {i j} hij m hm k hk e=> ?_);exfalso;have h1:∀n m,m∈X7 a cl Q n (Q.getD n [])→m.src=(n:Int):=fun n m hm=>(Az (a:=a) (Q:=Q) n _ hc.wf).src m hm;have:=h1 i m hm;have:=h1 j k hk;omega
end Go.Abs
namespace Go.Abs
theorem F7{l:List Iv}(h:Sep l)(hb:∀n,M l n→inR n):Sep (Ez l)∧(∀n,M (Ez l) n↔inR n∧¬M l n)∧(Ez l).length≤l.length+1:=by
 have z1:∀x∈l,inR x.lo∧inR x.hi:=fun x hx=>⟨hb _ ⟨x,hx,xO _,h.1 x hx⟩,hb _ ⟨x,hx,h.1 x hx,xO _⟩⟩
 have:=Ih l (-1099511627776) (fun x hx=>⟨h.1 x hx,(z1 x hx).2.2⟩) h.2 (fun x hx=>(z1 x hx).1.1);exact⟨this.1,fun n=>by rw[Ez,this.2.1,inR,and_assoc],this.2.2⟩
theorem M9{T:Nat}{p:Prd}(hp:PWf T p)(t:Nat)(n:Int):PM (R8 p) t n↔(t<T∧inR n)∧¬PM p t n:=by
 unfold PM R8;rw[zW];constructor
 ·rintro⟨s,hs,hm⟩;obtain⟨a,ha,rfl⟩:=zQ.1 hs;have hw:=hp.2 a (zH ha);have hg:=((F7 hw.1 hw.2).2.1 n).1 hm;refine⟨⟨by rw[←hp.1];exact(zB.1 ha).1,hg.1⟩,?_⟩;rintro⟨b,hb,z1⟩;rw[ha]at hb;cases hb;exact hg.2 z1
 ·rintro⟨⟨h1,h2⟩,h3⟩;have hl:t<p.length:=by rw[hp.1];exact h1
  have hw:=hp.2 _ (zL hl);exact⟨Ez p[t],by rw[zJ hl];rfl,((F7 hw.1 hw.2).2.1 n).2 ⟨h2,fun hm=>h3 ⟨_,zJ hl,hm⟩⟩⟩
theorem B0{T:Nat}{p:Prd}(hp:PWf T p):PWf T (R8 p):=⟨by simp[R8,hp.1],fun s hs=>by
 obtain⟨a,ha,rfl⟩:=zT.1 hs;have hw:=hp.2 a ha;exact⟨(F7 hw.1 hw.2).1,fun n hn=>(((F7 hw.1 hw.2).2.1 n).1 hn).1⟩⟩
def Uz(T:Nat)(ps:List Prd):Prd:=(yL T).map fun i=>Es (Qu ps i)
theorem Z4{T:Nat}{ps:List Prd}(h:∀p∈ps,PWf T p)(i:Nat):∀x∈Qu ps i,x.lo≤x.hi:=fun x hx=>by
 obtain⟨p,hp,hx⟩:=Te.1 hx;have hm:p.getD i []=[]∨p.getD i []∈p:=by
  by_cases hi:i<p.length
  ·exact .inr (by rw[Wx hi];exact zL hi)
  ·exact .inl (by simp[yS,hi])
 rcases hm with e|hm
 ·rw[e]at hx;cases hx
 ·exact((h p hp).2 _ hm).1.1 x hx
theorem Cu{T:Nat}{ps:List Prd}(h:∀p∈ps,PWf T p)(t:Nat)(n:Int):PM (Uz T ps) t n↔∃p∈ps,PM p t n:=by
 unfold PM Uz;rw[zW];constructor
 ·rintro⟨s,hs,hm⟩;obtain⟨i,hi,rfl⟩:=zQ.1 hs;obtain⟨z6,e⟩:=zB.1 hi;rw[List.getElem_range]at e;subst e;obtain⟨x,hx,h1⟩:=((Ul _ (Z4 h t)).2 n).1 hm;obtain⟨p,hp,hx⟩:=Te.1 hx;have ht:t<T:=by simpa using z6
  have z1:t<p.length:=by rw[(h p hp).1];exact ht
  rw[Wx z1]at hx;exact⟨p,hp,p[t],zJ z1,x,hx,h1⟩
 ·rintro⟨p,hp,s,hs,x,hx,h1⟩;obtain⟨z1,e⟩:=zB.1 hs;have ht:t<T:=by rw[←(h p hp).1];exact z1
  refine⟨Es (Qu ps t),by simp[ht],((Ul _ (Z4 h t)).2 n).2 ⟨x,Te.2 ⟨p,hp,?_⟩,h1⟩⟩;rw[Wx z1,e];exact hx
theorem Jz{T:Nat}{ps:List Prd}(h:∀p∈ps,PWf T p):PWf T (Uz T ps):=by
 refine⟨by simp[Uz],fun s hs=> ?_⟩;obtain⟨i,hi,rfl⟩:=zT.1 hs;refine⟨(Ul _ (Z4 h i)).1,fun n hn=> ?_⟩;have:PM (Uz T ps) i n:=⟨Es (Qu ps i),by simp[Uz,yV.1 hi],hn⟩
 obtain⟨p,hp,hm⟩:=(Cu h i n).1 this;exact((h p hp).lt hm).2
theorem u12{T:Nat}{c:Prd}(h:PWf T c):Uz T [c]=c:=
 I1 (Jz (by simpa using h)) h fun t n=>by rw[Cu (by simpa using h)];simp
theorem k1u{T:Nat}{p q:Prd}(hp:PWf T p)(hq:PWf T q):Uz T [p,q]=Rm p q:=by
 have h:∀x∈[p,q],PWf T x:=fun x hx=>by
  rcases yB.1 hx with rfl|hx
  ·exact hp
  ·obtain rfl:=zP.1 hx;exact hq
 exact I1 (Jz h) (Gq hp hq) fun t n=>by rw[Cu h,Ab hp hq];simp
def K7(a:Aut)(s:Int):List Prd:=(a.mv.filter fun m=>decide (m.src=s)).map (·.on)
def Wq(a:Aut)(s:Int):Prd:=R8 (Uz a.types.toNat (K7 a s))
def x0o(a:Aut)(s:Int):Prd:=(K7 a s).foldl (fun r p=>Eg r (R8 p)) (Wu a.types.toNat)
structure WfA (a:Aut):Prop where
 types:1≤a.types∧a.types≤16
 fin:1≤a.fin.length
 src:∀m∈a.mv,0≤m.src∧m.src<a.fin.length
 dst:∀m∈a.mv,0≤m.dst∧m.dst<a.fin.length
 on:∀m∈a.mv,PWf a.types.toNat m.on
theorem OkA.wfA{a:Aut}(h:OkA a):WfA a:=⟨h.types,h.fin.1,fun m hm=>(h.mv m hm).src,fun m hm=>(h.mv m hm).dst,fun m hm=>(h.mv m hm).on.wf⟩
theorem J0{a:Aut}(h:WfA a)(s:Int):∀p∈K7 a s,PWf a.types.toNat p:=fun p hp=>by obtain⟨m,hm,rfl⟩:=zT.1 hp;exact h.on m (xM.1 hm).1
theorem A1{a:Aut}(h:WfA a)(s:Int)(t:Nat)(n:Int):PM (Wq a s) t n↔(t<a.types.toNat∧inR n)∧∀p∈K7 a s,¬PM p t n:=by rw[Wq,M9 (Jz (J0 h s)),Cu (J0 h s)];simp
theorem Oi{a:Aut}(h:WfA a)(s:Int):PWf a.types.toNat (Wq a s):=B0 (Jz (J0 h s))
theorem X3{T:Nat}:∀(l:List Prd) (r:Prd),(∀p∈l,PWf T p)→PWf T r→PWf T (l.foldl (fun r p=>Eg r (R8 p)) r)∧
  ∀t n,PM (l.foldl (fun r p=>Eg r (R8 p)) r) t n↔PM r t n∧∀p∈l,¬PM p t n
 |[],r,_,hr=>⟨hr,fun t n=>by simp⟩
 |p::l,r,hl,hr=>by
  have hp:=hl p (by simp);obtain⟨h1,h2⟩:=X3 l (Eg r (R8 p)) (fun q hq=>hl q (by simp[hq])) (Yc hr (B0 hp).1);refine⟨h1,fun t n=> ?_⟩;rw[xV,h2,Ep hr.1 (B0 hp).1,M9 hp];constructor
  ·rintro⟨⟨a,b,c⟩,d⟩;refine⟨a,fun q hq=> ?_⟩;rcases yB.1 hq with rfl|hq
   ·exact c
   ·exact d q hq
  ·rintro⟨a,d⟩;exact⟨⟨a,hr.lt a,d p (by simp)⟩,fun q hq=>d q (by simp[hq])⟩
theorem c0a{a:Aut}(h:WfA a)(s:Int):x0o a s=Wq a s:=by obtain⟨h1,h2⟩:=X3 (K7 a s) (Wu a.types.toNat) (J0 h s) (Fl _);exact I1 h1 (Oi h s) fun t n=>by rw[x0o,h2,A1 h,Ay]
theorem Cl{a:Aut}(h:WfA a)(s:Int):Wp (Wq a s)=true↔∀t n,t<a.types.toNat→inR n→∃p∈K7 a s,PM p t n:=by
 rw[Tg (Oi h s)];constructor
 ·intro hv t n ht hn;have:=hv t n;rw[A1 h]at this;by_cases hc:∃p∈K7 a s,PM p t n
  ·exact hc
  ·exact absurd ⟨⟨ht,hn⟩,fun p hp hm=>hc ⟨p,hp,hm⟩⟩ this
 ·intro hv t n;rw[A1 h];rintro⟨⟨ht,hn⟩,hx⟩;obtain⟨p,hp,hm⟩:=hv t n ht hn;exact hx p hp hm
def Vw(a:Aut):Bool:=decide (256<a.fin.length) || decide (2048<a.mv.length) || a.mv.any fun m=>m.on.any fun s=>decide (256<s.length)
theorem x17{a:Aut}(h:WfA a):Wk a=0↔Vw a=false:=by
 rw[U4];unfold Vw;simp only[Bool.or_eq_false_iff,decide_eq_false_iff_not,vw,decide_eq_true_eq];constructor
 ·rintro⟨h1,h2,h3,h4⟩;exact⟨⟨by omega,by omega⟩,fun m hm=>by
   simp only[uI,vw,decide_eq_true_eq];exact fun s hs=>by have:=((h4 m hm).on.2 s hs).len;omega⟩
 ·rintro⟨⟨h1,h2⟩,h3⟩;refine⟨h.types,⟨h.fin,by omega⟩,by omega,fun m hm=>⟨h.src m hm,h.dst m hm,(h.on m hm).1,fun s hs=> ?_⟩⟩;have hw:=(h.on m hm).2 s hs;have:=h3 m hm;simp only[uI,vw,decide_eq_true_eq]at this;exact Gb hw.1 (w0i hw.1 hw.2) (by have:=this s hs;omega)
def Ji(a:Aut):Int×Aut:=if Vw a then(5,Uo)else(0,a)
def w2u(a:Aut):Int×Aut:=if Wk a≠0 then(5,Uo)else(0,a)
theorem d02{a c:Aut}(h:WfA a)(hl:Ji a=(0,c)):c=a∧OkA a:=by
 unfold Ji at hl;cases hb:Vw a
 ·rw[hb,if_neg (by simp)]at hl;exact⟨(Prod.mk.inj hl).2.symm,(U4 a).1 ((x17 h).2 hb)⟩
 ·rw[hb,if_pos rfl]at hl;cases(Prod.mk.inj hl).1
theorem f0m{a:Aut}:(Ji a).1=0∨(Ji a).1=5:=by
 unfold Ji;split
 ·exact .inr rfl
 ·exact .inl rfl
end Go.Abs
namespace Go.Abs
def Rl(a:Aut)(lack:Int→Prd):List Mv:=(yL a.fin.length).filterMap fun s:Nat=>if Wp (lack s)then none else some ⟨s,a.fin.length,lack s⟩
def Ug(a:Aut):Aut:=⟨a.types,a.fin++[false],a.mv++Rl a (Wq a)++[⟨a.fin.length,a.fin.length,Wu a.types.toNat⟩]⟩
def O3(a:Aut):Int×Aut:=if(Rl a (Wq a)).isEmpty then(0,a)else Ji (Ug a)
def Pu(a:Aut):Bool:=(yL a.fin.length).all fun s:Nat=>Wp (x0o a s)
def y22(a:Aut):Int×Aut:=if Pu a then(0,a)else w2u ⟨a.types,a.fin++[false],a.mv++Rl a (x0o a)++[⟨a.fin.length,a.fin.length,Wu a.types.toNat⟩]⟩
theorem T6{a:Aut}{lack:Int→Prd}{m:Mv}:m∈Rl a lack↔∃s:Nat,s<a.fin.length∧Wp (lack s)=false∧m=⟨s,a.fin.length,lack s⟩:=by
 unfold Rl;rw[vv];constructor
 ·rintro⟨s,hs,h⟩;cases hv:Wp (lack s)
  ·rw[hv,if_neg (by simp)]at h;cases h;exact⟨s,yV.1 hs,hv,rfl⟩
  ·rw[hv,if_pos rfl]at h;cases h
 ·rintro⟨s,hs,hv,rfl⟩;exact⟨s,yV.2 hs,by rw[hv,if_neg (by simp)]⟩
theorem Gx{a:Aut}{lack:Int→Prd}:Rl a lack=[]↔∀s:Nat,s<a.fin.length→Wp (lack s)=true:=by
 rw[vK];constructor
 ·intro h s hs;cases hv:Wp (lack s)
  ·exact absurd (T6.2 ⟨s,hs,hv,rfl⟩) (h _)
  ·rfl
 ·intro h m hm;obtain⟨s,hs,hv,_⟩:=T6.1 hm;rw[h s hs]at hv;cases hv
theorem v1c{a:Aut}(h:WfA a):WfA (Ug a):=by
 have z1:∀m∈(Ug a).mv,m∈a.mv∨(∃s:Nat,s<a.fin.length∧m=⟨s,a.fin.length,Wq a s⟩)∨m=⟨a.fin.length,a.fin.length,Wu a.types.toNat⟩:=fun m hm=>by
  rcases zU.1 hm with hm|hm
  ·rcases zU.1 hm with hm|hm
   ·exact .inl hm
   ·obtain⟨s,hs,_,e⟩:=T6.1 hm;exact .inr (.inl ⟨s,hs,e⟩)
  ·exact .inr (.inr (zP.1 hm))
 have hl:(Ug a).fin.length=a.fin.length+1:=by simp[Ug]
 refine⟨h.types,by rw[hl];omega,fun m hm=> ?_,fun m hm=> ?_,fun m hm=> ?_⟩
 ·rw[hl];rcases z1 m hm with hm|⟨s,hs,rfl⟩|rfl
  ·have:=h.src m hm;omega
  ·simp only;omega
  ·simp only;omega
 ·rw[hl];rcases z1 m hm with hm|⟨s,hs,rfl⟩|rfl
  ·have:=h.dst m hm;omega
  ·simp only;omega
  ·simp only;omega
 ·rcases z1 m hm with hm|⟨s,hs,rfl⟩|rfl
  ·exact h.on m hm
  ·exact Oi h s
  ·exact Fl _
def Md(a:Aut):Prop:=∀s:Int,0≤s→s<a.fin.length→∀x,Wv a x→∃m∈a.mv,m.src=s∧E8 m.on x=true
theorem q0d{a:Aut}{x:Sy}(h:Wv a x):x.ty.toNat<a.types.toNat∧inR x.num∧0≤x.ty:=⟨by have:=h.1;omega,h.2,h.1.1⟩
theorem Ri{a:Aut}(h:WfA a){m:Mv}(hm:m∈a.mv){x:Sy}(hx:Wv a x):E8 m.on x=true↔PM m.on x.ty.toNat x.num:=E9 (h.on m hm).1 x hx.1.1
theorem Lp{a:Aut}{s:Int}{p:Prd}:p∈K7 a s↔∃m∈a.mv,m.src=s∧m.on=p:=by
 unfold K7;rw[zT];constructor
 ·rintro⟨m,hm,e⟩;have:=xM.1 hm;exact⟨m,this.1,by simpa using this.2,e⟩
 ·rintro⟨m,hm,hs,e⟩;exact⟨m,xM.2 ⟨hm,by simpa using hs⟩,e⟩
theorem q0p{a:Aut}(h:WfA a):Rl a (Wq a)=[]↔Md a:=by
 rw[Gx];constructor
 ·intro hv s h0 h1 x hx;have hs:=hv s.toNat (by omega);rw[show((s.toNat:Nat):Int)=s by omega,Cl h]at hs;obtain⟨k1,k2,_⟩:=q0d hx;obtain⟨p,hp,hm⟩:=hs _ _ k1 k2;obtain⟨m,z1,e,rfl⟩:=Lp.1 hp;exact⟨m,z1,e,(Ri h z1 hx).2 hm⟩
 ·intro hf s hs;rw[Cl h];intro t n ht hn;have hx:Wv a ⟨t,n⟩:=⟨⟨by simp,by simp only;omega⟩,hn⟩
  obtain⟨m,hm,e,hh⟩:=hf s (by omega) (by omega) _ hx;exact⟨m.on,Lp.2 ⟨m,hm,e,rfl⟩,by have:=(Ri h hm hx).1 hh;simpa using this⟩
theorem q1d{a:Aut}(h:WfA a):Md (Ug a):=by
 intro s h0 h1 x hx;have z1:Wv a x:=hx;have hl:(Ug a).fin.length=a.fin.length+1:=by simp[Ug]
 obtain⟨k1,k2,_⟩:=q0d z1;by_cases hs:s<a.fin.length
 ·by_cases hp:∃p∈K7 a s,PM p x.ty.toNat x.num
  ·obtain⟨p,hp,hm⟩:=hp;obtain⟨m,z6,e,rfl⟩:=Lp.1 hp;exact⟨m,yY _ (yY _ z6),e,(Ri h z6 z1).2 hm⟩
  ·have z7:PM (Wq a s) x.ty.toNat x.num:=(A1 h s _ _).2 ⟨⟨k1,k2⟩,fun p z8 hm=>hp ⟨p,z8,hm⟩⟩;have hv:Wp (Wq a s)=false:=by
    cases hv:Wp (Wq a s)
    ·rfl
    ·exact absurd z7 ((Tg (Oi h s)).1 hv _ _)
   have e:((s.toNat:Nat):Int)=s:=by omega
   refine⟨⟨s,a.fin.length,Wq a s⟩,yY _ (ug _ (T6.2 ⟨s.toNat,by omega,by rw[e];exact hv,by rw[e]⟩)),rfl,?_⟩;exact(E9 (Oi h s).1 x hx.1.1).2 z7
 ·refine⟨⟨a.fin.length,a.fin.length,Wu a.types.toNat⟩,ug _ (by simp),by simp only;omega,?_⟩;exact(E9 (Fl _).1 x hx.1.1).2 ((Ay ..).2 ⟨k1,k2⟩)
theorem j1l{a:Aut}(h:WfA a)(hd:Pl a):Pl (Ug a):=by
 unfold Pl;show(a.mv++Rl a (Wq a)++[_]).Pairwise _;rw[yH,yH];refine⟨⟨hd,?_,fun m hm k hk e x hx=> ?_⟩,by simp,fun m hm k hk e x hx=> ?_⟩
 ·unfold Rl;rw[List.pairwise_filterMap];refine List.pairwise_lt_range.imp (fun {i j} hij m hm k hk e=> ?_);have z1:∀(i:Nat) (m:Mv),(if Wp (Wq a i)then none else some (⟨i,a.fin.length,Wq a i⟩:Mv))=some m→m.src=i:=fun i m hm=>by
   split at hm
   ·cases hm
   ·cases hm;rfl
  have:=z1 i m hm;have:=z1 j k hk;omega
 ·obtain⟨s,hs,_,rfl⟩:=T6.1 hk;rintro⟨h1,h2⟩;have z6:Wv a x:=hx;have p1:=(Ri h hm z6).1 h1;have p2:=(E9 (Oi h s).1 x hx.1.1).1 h2;exact((A1 h s _ _).1 p2).2 _ (Lp.2 ⟨m,hm,e,rfl⟩) p1
 ·obtain rfl:=zP.1 hk;exfalso;have e':m.src=(a.fin.length:Int):=e;rcases zU.1 hm with hm|hm
  ·have:=h.src m hm;omega
  ·obtain⟨s,hs,_,rfl⟩:=T6.1 hm;simp only at e';omega
theorem q14{a:Aut}(h:WfA a){l l':List Int}(hl:∀j:Int,j<a.fin.length→(j∈l'↔j∈l))(x:Sy):∀j:Int,j<a.fin.length→(j∈Wa (Ug a) l' x↔j∈Wa a l x):=by
 intro j hj;rw[Ek,Ek];have hlen:(Ug a).fin.length=a.fin.length+1:=by simp[Ug]
 constructor
 ·rintro⟨h1,m,hm,h2,h3,h4⟩;rcases zU.1 hm with hm|hm
  ·rcases zU.1 hm with hm|hm
   ·exact⟨⟨h1.1,hj⟩,m,hm,(hl _ (h.src m hm).2).1 h2,h3,h4⟩
   ·obtain⟨s,hs,_,rfl⟩:=T6.1 hm;simp only at h4;omega
  ·obtain rfl:=zP.1 hm;simp only at h4;omega
 ·rintro⟨h1,m,hm,h2,h3,h4⟩;exact⟨⟨h1.1,by omega⟩,m,yY _ (yY _ hm),(hl _ (h.src m hm).2).2 h2,h3,h4⟩
theorem k01{a:Aut}(h:WfA a):∀(w:List Sy) (l l':List Int),(∀j:Int,j<a.fin.length→(j∈l'↔j∈l))→∀j:Int,j<a.fin.length→(j∈O2 (Ug a) l' w↔j∈O2 a l w)
 |[],_,_,hl=>hl
 |x::w,_,_,hl=>k01 h w _ _ (q14 h hl x)
theorem runIn{a:Aut}:∀(w:List Sy) (l:List Int),(∀j∈l,0≤j∧j<a.fin.length)→∀j∈O2 a l w,0≤j∧j<a.fin.length
 |[],_,hl=>hl
 |x::w,_,_=>runIn w _ (fun _ hj=>Oc _ hj)
theorem Zh{a:Aut}(h:WfA a):∀j∈[(0:Int)],0≤j∧j<a.fin.length:=fun j hj=>by obtain rfl:=zP.1 hj;have:=h.fin;omega
theorem Ad{a:Aut}{l:List Int}:Fj a l=true↔∃s∈l,a.fin.getD s.toNat false=true:=by rw[Fj,wS]
theorem v1i{a:Aut}(h:WfA a)(w:List Sy):Uk (Ug a) w=Uk a w:=by
 unfold Uk;rw[xU,Ad,Ad];have hr:=k01 h w [0] [0] (fun _ _=>Iff.rfl);have z7:=runIn w _ (Zh (v1c h));have z6:=runIn w _ (Zh h);have hlen:(Ug a).fin.length=a.fin.length+1:=by simp[Ug]
 have z1:∀s:Int,0≤s→s<a.fin.length→(Ug a).fin.getD s.toNat false=a.fin.getD s.toNat false:=fun s h0 h1=>by simp only[Ug,List.getD_eq_getElem?_getD];rw[zF (by omega)]
 constructor
 ·rintro⟨s,hs,hf⟩;have:=z7 s hs;by_cases hlt:s<a.fin.length
  ·exact⟨s,(hr s hlt).1 hs,by rw[←z1 s this.1 hlt];exact hf⟩
  ·have:s.toNat=a.fin.length:=by omega
   rw[this]at hf;simp[Ug]at hf
 ·rintro⟨s,hs,hf⟩;have:=z6 s hs;exact⟨s,(hr s this.2).2 hs,by rw[z1 s this.1 this.2];exact hf⟩
theorem y1y{a c:Aut}(h:OkA a)(hc:O3 a=(0,c)):OkA c∧c.types=a.types∧Md c∧(Pl a→Pl c)∧∀w,Uk c w=Uk a w:=by
 unfold O3 at hc;split at hc
 ·rename_i hn;cases hc;exact⟨h,rfl,(q0p h.wfA).1 (tA.1 hn),id,fun _=>rfl⟩
 ·obtain⟨rfl,hk⟩:=d02 (v1c h.wfA) hc;exact⟨hk,rfl,q1d h.wfA,j1l h.wfA,v1i h.wfA⟩
theorem v1y(a:Aut):(O3 a).1=0∨(O3 a).1=5:=by
 unfold O3;split
 ·exact .inl rfl
 ·exact f0m
end Go.Abs
namespace Go.Abs
def Yp(T:Int):List Prd→Int
 |[]=>0
 |p::r=>if Ey T p≠0 then Ey T p else Yp T r
def S3(L:List Prd):Bool:=decide (256<L.length) || L.any fun p=>p.any fun s=>decide (256<s.length)
def R0(T:Int)(l:List Prd):Int×List Prd:=if T<1∨16<T then(2,[])else if 256<l.length then(5,[])else if Yp T l≠0 then(Yp T l,[])else
 if S3 (E3 T.toNat l)then(5,[])else(0,E3 T.toNat l)
def g06(T:Int)(l:List Prd):Int×List Prd:=if T<1∨16<T then(2,[])else if 256<l.length then(5,[])else if Yp T l≠0 then(Yp T l,[])else
 if S3 (Q9 T.toNat l)then(5,[])else(0,Q9 T.toNat l)
theorem Ip{T:Int}:∀(l:List Prd),Yp T l=0↔∀p∈l,Ey T p=0
 |[]=>by simp[Yp]
 |p::r=>by
  rw[Yp];by_cases h:Ey T p=0
  ·rw[if_neg (fun k=>k h),Ip r];simp[h]
  ·rw[if_pos h];exact⟨fun k=>absurd k h,fun k=>absurd (k p (by simp)) h⟩
theorem g0i(T:Int)(l:List Prd):g06 T l=R0 T l:=by
 unfold g06 R0;split
 ·rfl
 ·rename_i hT;split
  ·rfl
  ·split
   ·rfl
   ·rename_i hc;have z1:∀p∈l,PCk T.toNat p:=fun p hp=>((W5 T p).1 ((Ip l).1 (by simpa using hc) p hp)).2;rw[Jl (by omega) z1]
theorem d0u{T:Int}(hT:1≤T∧T≤16){l:List Prd}(hl:∀p∈l,PCk T.toNat p):(R0 T l).1=5∨R0 T l=(0,Q9 T.toNat l):=by
 unfold R0;have hc:Yp T l=0:=(Ip l).2 fun p hp=>(W5 T p).2 ⟨hT,hl p hp⟩;rw[if_neg (by omega)];split
 ·exact .inl rfl
 ·rw[if_neg (by simp[hc])];split
  ·exact .inl rfl
  ·exact .inr (by rw[Jl (by omega) hl])
def onA(a:Aut):List Prd:=a.mv.map (·.on)
def Oz(a:Aut):Int×List Prd×List (List Int):=if Wk a≠0 then(Wk a,[],[])else
 if(R0 a.types (onA a)).1≠0 then((R0 a.types (onA a)).1,[],[])else
 match Zn a (R0 a.types (onA a)).2 with
 |none=>(5,[],[])
 |some Q=>(0,(R0 a.types (onA a)).2,Q)
def Ru(a:Aut):Int×Aut:=if(Oz a).1≠0 then((Oz a).1,Uo)else Ji (Uf a (Oz a).2.1 (Oz a).2.2)
def Sm(a:Aut):Int×Aut:=if Wk a≠0 then(Wk a,Uo)else O3 a
def f1j(a:Aut):Aut:={ a with fin:=a.fin.map (!·) }
def y2p(a:Aut):Int×Aut:=if(Ru a).1≠0 then((Ru a).1,Uo)else if(O3 (Ru a).2).1≠0 then((O3 (Ru a).2).1,Uo)else(0,f1j (O3 (Ru a).2).2)
theorem q01{a:Aut}(h:OkA a):∀p∈onA a,PCk a.types.toNat p:=fun p hp=>by obtain⟨m,hm,rfl⟩:=zT.1 hp;exact(h.mv m hm).on
theorem Gi{a:Aut}(h:OkA a):Oz a=(5,[],[])∨∃Q,Oz a=(0,Q9 a.types.toNat (onA a),Q)∧Zn a (Q9 a.types.toNat (onA a))=some Q∧Sub a (Q9 a.types.toNat (onA a)) Q∧Cls a (Q9 a.types.toNat (onA a)):=by
 unfold Oz;rw[if_neg (fun k=>k ((U4 a).2 h))];rcases d0u h.types (q01 h)with hm|hm
 ·rw[if_pos (by rw[hm];decide),hm];exact .inl rfl
 ·rw[hm,if_neg (by simp)];cases hs:Zn a (Q9 a.types.toNat (onA a))with
  |none=>exact .inl rfl
  |some Q=>exact .inr ⟨Q,rfl,rfl,j0y h hs,x11 h⟩
theorem Mb{a:Aut}(h:Wk a≠0):Oz a=(Wk a,[],[]):=if_pos h
theorem Su{a:Aut}{cl:List Prd}{Q:List (List Int)}(hc:Cls a cl){m:Mv}(hm:m∈N1 a cl Q):(∃n:Nat,n<Q.length∧m.src=n)∧(∃t:Nat,t<Q.length∧m.dst=t)∧PWf a.types.toNat m.on:=by obtain⟨n,l,hl,hg⟩:=U9.1 hm;have hi:=Az (a:=a) (Q:=Q) n l hc.wf;exact⟨⟨n,(zB.1 hl).1,hi.src m hg⟩,hi.dst m hg,hi.wf m hg⟩
theorem x1m{a:Aut}{cl:List Prd}{Q:List (List Int)}(hc:Cls a cl)(hs:Sub a cl Q):WfA (Uf a cl Q):=by
 have h0:=(zB.1 hs.first).1;have hl:(Uf a cl Q).fin.length=Q.length:=by simp[Uf]
 refine⟨hc.ok.types,by omega,fun m hm=> ?_,fun m hm=> ?_,fun m hm=>(Su hc hm).2.2⟩
 ·obtain⟨⟨n,h1,h2⟩,_⟩:=Su hc hm;rw[hl,h2];omega
 ·obtain⟨_,⟨n,h1,h2⟩,_⟩:=Su hc hm;rw[hl,h2];omega
theorem w1h{a d:Aut}(h:OkA a)(hd:Ru a=(0,d)):∃Q,Zn a (Q9 a.types.toNat (onA a))=some Q∧Sub a (Q9 a.types.toNat (onA a)) Q∧Cls a (Q9 a.types.toNat (onA a))∧
  Oz a=(0,Q9 a.types.toNat (onA a),Q)∧d=Uf a (Q9 a.types.toNat (onA a)) Q∧OkA d∧Pl d∧d.types=a.types∧∀w,(∀x∈w,Wv a x)→Uk d w=Uk a w:=by
 unfold Ru at hd;rcases Gi h with hs|⟨Q,hs,hq,z1,z6⟩
 ·rw[hs,if_pos (by decide)]at hd;cases(Prod.mk.inj hd).1
 ·rw[hs,if_neg (by simp)]at hd;obtain⟨rfl,hk⟩:=d02 (x1m z6 z1) hd;exact⟨Q,hq,z1,z6,hs,rfl,hk,y01 z6 z1,rfl,fun w hw=>v1g z6 z1 hw⟩
theorem u1s{a:Aut}(h:OkA a):(Ru a).1=0∨(Ru a).1=5:=by
 unfold Ru;rcases Gi h with hs|⟨Q,hs,_⟩
 ·rw[hs];exact .inr rfl
 ·rw[hs,if_neg (by simp)];exact f0m
theorem w1j{a:Aut}(hw:WfA a)(hd:Pl a)(hf:Md a){s:Int}(h0:0≤s)(h1:s<a.fin.length){x:Sy}(hx:Wv a x):∃t:Int,0≤t∧t<a.fin.length∧Wa a [s] x=[t]:=by
 obtain⟨m,hm,e,hh⟩:=hf s h0 h1 x hx;refine⟨m.dst,(hw.dst m hm).1,(hw.dst m hm).2,Uc (Ui ..) (by simp) fun z=> ?_⟩;rw[Ek];constructor
 ·rintro⟨_,k,hk,h2,h3,h4⟩;obtain h2:=zP.1 h2;have:k=m∨k.dst=m.dst:=by
   obtain⟨i,hi⟩:=yE.1 hm;obtain⟨j,hj⟩:=yE.1 hk;obtain⟨z7,z1⟩:=zB.1 hi;obtain⟨z8,z6⟩:=zB.1 hj;by_cases hij:i=j
   ·subst hij;left;rw[←z1,←z6]
   ·exfalso;rcases uA hij with hlt|hgt
    ·have:=yQ.1 hd i j z7 z8 hlt;rw[z1,z6]at this;exact this (by rw[e,h2]) x hx ⟨hh,h3⟩
    ·have:=yQ.1 hd j i z8 z7 hgt;rw[z1,z6]at this;exact this (by rw[e,h2]) x hx ⟨h3,hh⟩
  rcases this with rfl|this
  ·rw[←h4];simp
  ·rw[←h4,this];simp
 ·intro hz;obtain rfl:=zP.1 hz;exact⟨hw.dst m hm,m,hm,by rw[e];simp,hh,rfl⟩
theorem z1z{a:Aut}{cl:List Prd}(hc:Cls a cl){c:Prd}(hm:c∈cl):Wv a (Qm c):=by have h:=(W3 (hc.wf c hm).1 (hc.wf c hm).2).1;have h2:=(hc.wf c hm).1.lt h;exact⟨⟨by simp[Qm],by simp only[Qm];omega⟩,h2.2⟩
end Go.Abs
namespace Go.Abs
def x15(p:Prd):Bool:=decide (p.length≤4) && p.all fun s=>decide (s.length≤12)
def w1w(a:Aut):Bool:=decide (a.fin.length≤8) && decide (a.mv.length≤16) && a.mv.all fun m=>x15 m.on
theorem w0d{p:Prd}:x15 p=true↔p.length≤4∧∀s∈p,s.length≤12:=by simp[x15]
theorem q1k(l:List Iv):(Es l).length≤l.length:=by have h1:=Tc (Iy l) [];have h2:=(Od l).1.length_eq;rw[Es];simp at h1;omega
def g1z(a:Aut)(l:List Int)(x:Sy):Int×List Int:=if Wk a≠0 then(Wk a,[])else if 256<l.length then(5,[])else
 if l.any (fun s=>decide (s<0) || decide ((a.fin.length:Int)≤s))then(6,[])else if Sq a.types x≠0 then(Sq a.types x,[])else(0,Wa a l x)
theorem N8{n:Nat}{l:List Int}(h:l.Pairwise (·<·))(hr:∀s∈l,0≤s∧s<n):l.length≤n:=by
 have he:l=(W6 n).filter fun z=>decide (z∈l):=Uc h ((Am n).filter _) fun z=>by rw[xM,W1];exact⟨fun hz=>⟨hr z hz,by simpa using hz⟩,fun hz=>by simpa using hz.2⟩
 have h1:=xR (fun z=>decide (z∈l)) (W6 n);rw[←he]at h1;simpa[W6]using h1
theorem Lm{a:Aut}(h:OkA a)(l:List Int)(x:Sy):(Wa a l x).length≤256:=by have:=N8 (Ui a l x) Oc;have:=h.fin;omega
def v0n(p q:Prd):Bool:= !Wp (Eg p q)
def z0m(a:Aut):Bool:=(yL a.mv.length).all fun i=>(yL i).all fun k=> !(decide ((a.mv.getD i default).src=(a.mv.getD k default).src) && v0n (a.mv.getD i default).on (a.mv.getD k default).on)
theorem Lw{T:Nat}{p q:Prd}(hp:PWf T p)(hq:PWf T q):v0n p q=true↔∃t n,PM p t n∧PM q t n:=by
 unfold v0n;cases hv:Wp (Eg p q)
 ·simp only[Bool.not_false,true_iff];apply Classical.byContradiction;intro hn;have:=(Tg (Yc hp hq.1)).2 (fun t n hm=>hn ⟨t,n,(Ep hp.1 hq.1 t n).1 hm⟩);rw[hv]at this;cases this
 ·simp only[Bool.not_true,Bool.false_eq_true,false_iff];rintro⟨t,n,hm⟩;exact(Tg (Yc hp hq.1)).1 hv t n ((Ep hp.1 hq.1 t n).2 hm)
theorem u1h{a:Aut}(h:WfA a):z0m a=true↔Pl a:=by
 unfold z0m Pl;rw[zX,yQ];have hg:∀(i:Nat) (hi:i<a.mv.length),a.mv.getD i default=a.mv[i]:=fun i hi=>by simp[yS,hi]
 constructor
 ·intro hs i j hi hj z6 e x hx;rintro⟨h1,h2⟩;have:=hs j (yV.2 hj);rw[zX]at this;have:=this i (yV.2 z6);rw[hg j hj,hg i hi,e]at this;have hc:v0n a.mv[j].on a.mv[i].on=true:=(Lw (h.on _ (zL hj)) (h.on _ (zL hi))).2 ⟨_,_,(Ri h (zL hj) hx).1 h2,(Ri h (zL hi) hx).1 h1⟩;rw[hc]at this;simp at this
 ·intro hd i hi;have hi:=yV.1 hi;rw[zX];intro k hk;have hk:=yV.1 hk;have z1:k<a.mv.length:=by omega
  rw[hg i hi,hg k z1];by_cases e:a.mv[i].src=a.mv[k].src
  ·cases hc:v0n a.mv[i].on a.mv[k].on
   ·simp
   ·exfalso;obtain⟨t,n,h1,h2⟩:=(Lw (h.on _ (zL hi)) (h.on _ (zL z1))).1 hc;have hb:=(h.on _ (zL hi)).lt h1;have hx:Wv a ⟨t,n⟩:=⟨⟨by simp,by simp only;omega⟩,hb.2⟩
    exact hd k i z1 hi hk e.symm ⟨t,n⟩ hx ⟨(Ri h (zL z1) hx).2 (by simpa using h2),(Ri h (zL hi) hx).2 (by simpa using h1)⟩
  ·simp[e]
end Go.Abs
namespace Go.Abs
open Go Go.Proofs
attribute [simp] T74 T76 T91 T78 T23 T22 T25 T53 T45 T28
@[simp] def encP (p:Prd):AV:= .agg [.list (p.map encL)]
abbrev LP (l:List Prd):AV:= .list (l.map encP)
@[simp] def encSy (x:Sy):AV:= .agg [.i x.ty,.i x.num]
@[simp] def encMv (m:Mv):AV:= .agg [.i m.src,.i m.dst,.list (m.on.map encL)]
@[simp] def encA (a:Aut):AV:= .agg [.i a.types,.list (a.fin.map .bool),.list (a.mv.map encMv)]
attribute [local irreducible] ckR
theorem A0(T:Int)(p:Prd):PC Tryz.prog 82 [.i T,encP p] (fun r=>r= .i (Ey T p)):=by
 refine Qk tOk Tryz.func82 rfl Tryz.results82 rfl (by simp[Tryz.ntmps82]) ?_;rw[Tryz.ntmps82];simp only[Qg];simp only[encP];refine W9 1 0 rfl rfl (fun hlen=> ?_);rw[yK]at hlen;repeat first|(refine r_ ?_;simp)|refine q_ ?_
 refine Qb rfl (fun h=> ?_) (fun h=> ?_)
 ·repeat first|(refine r_ ?_;simp)|refine q_ ?_
  rw[Ey,if_pos (by simpa using h)]
 have h':¬(T<1∨16<T):=by simpa using h
 repeat first|(refine r_ ?_;simp)|refine q_ ?_
 refine Qb rfl (fun h2=> ?_) (fun h2=> ?_)
 ·repeat first|(refine r_ ?_;simp)|refine q_ ?_
  rw[Ey,if_neg h',if_pos (by simpa using h2)]
 have z7:(p.length:Int)=T:=by simpa using h2
 have hE:Ey T p=w01 p:=by rw[Ey,if_neg h',if_neg (by simpa using z7)]
 rw[hE];repeat first|(refine r_ ?_;simp)|refine q_ ?_
 refine Qy p.length (fun j=>w01 p=w01 (p.drop j)) (fun j=>[(22,.list (p.map encL)),(23,.i p.length),(24,.i j)]) (fun _=>[]) rfl (by simp) (by simp) (by simp) (by simp) (by simp) ?_;intro j hj hI ih;repeat first|(refine r_ ?_;simp)|refine q_ ?_
 refine Qb rfl (fun z8=> ?_) (fun za=> ?_)
 ·have z1:j<p.length:=by simpa using z8
  have hw:IntKind.i64.wrap ((j:Int)+1)=j+1:=wrap_i64 _ (by omega) (by omega);rw[W7 z1,w01]at hI;repeat first|(refine r_ ?_;simp[z1])|refine q_ ?_
  refine Qe rfl rfl (by simp) (q0o p[j]) rfl ?_;rintro _ rfl;simp;repeat first|(refine r_ ?_;simp)|refine q_ ?_
  refine Qb rfl (fun h3=> ?_) (fun h3=> ?_)
  ·repeat first|(refine r_ ?_;simp)|refine q_ ?_
   rw[hI,if_pos (by simpa using h3)]
  rw[if_neg (by simpa using h3)]at hI;repeat first|(refine r_ ?_;simp[hw])|refine q_ ?_
  refine Qz _ (ih z1 hI) rfl (by simp) ?_ (by simp) (by simp);simp
 ·have z6:j=p.length:=by simp at za;omega
  subst z6;repeat first|(refine r_ ?_;simp)|refine q_ ?_
  rw[hI,xS];rfl
theorem w06(T:Int)(p:Prd):PC Tryz.prog 116 [.i T,encP p] (fun r=>r= .i (Ey T p)):=by
 refine Qk tOk Tryz.func116 rfl Tryz.results116 rfl (by simp[Tryz.ntmps116]) ?_;rw[Tryz.ntmps116];simp only[Qg];simp only[encP];refine W9 1 0 rfl rfl (fun hlen=> ?_);rw[yK]at hlen;repeat first|(refine r_ ?_;simp)|refine q_ ?_
 refine Qb rfl (fun h=> ?_) (fun h=> ?_)
 ·repeat first|(refine r_ ?_;simp)|refine q_ ?_
  rw[Ey,if_pos (by simpa using h)]
 have h':¬(T<1∨16<T):=by simpa using h
 repeat first|(refine r_ ?_;simp)|refine q_ ?_
 refine Qb rfl (fun h2=> ?_) (fun h2=> ?_)
 ·repeat first|(refine r_ ?_;simp)|refine q_ ?_
  rw[Ey,if_neg h',if_pos (by simpa using h2)]
 have z7:(p.length:Int)=T:=by simpa using h2
 have hE:Ey T p=w01 p:=by rw[Ey,if_neg h',if_neg (by simpa using z7)]
 rw[hE];repeat first|(refine r_ ?_;simp)|refine q_ ?_
 refine Qy p.length (fun j=>w01 p=w01 (p.drop j)) (fun j=>[(0,.i T),(3,.vptr 0 0),(5,.i j)]) (fun _=>[.vars [.list (p.map encL)]]) rfl (by simp) (by simp) (by simp) (by simp) (by simp) ?_;intro j hj hI ih;repeat first|(refine r_ ?_;simp)|refine q_ ?_
 refine Qb rfl (fun z8=> ?_) (fun za=> ?_)
 ·have z1:j<p.length:=by have k:(j:Int)<T:=(by simpa using z8);omega
  have hw:IntKind.i64.wrap ((j:Int)+1)=j+1:=wrap_i64 _ (by omega) (by omega);rw[W7 z1,w01]at hI;repeat first|(refine r_ ?_;simp[z1])|refine q_ ?_
  refine Qe rfl rfl (by simp) (j0m p[j]) rfl ?_;rintro _ rfl;simp;repeat first|(refine r_ ?_;simp)|refine q_ ?_
  refine Qb rfl (fun h3=> ?_) (fun h3=> ?_)
  ·repeat first|(refine r_ ?_;simp)|refine q_ ?_
   rw[hI,if_pos (by simpa using h3)]
  rw[if_neg (by simpa using h3)]at hI;repeat first|(refine r_ ?_;simp[hw])|refine q_ ?_
  refine Qz _ (ih z1 hI) rfl (by simp) ?_ (by simp) (by simp);simp
 ·have z6:j=p.length:=by have k:¬(j:Int)<T:=(by simpa using za);omega
  subst z6;repeat first|(refine r_ ?_;simp)|refine q_ ?_
  rw[hI,xS];rfl
end Go.Abs
namespace Go.Abs
open Go Go.Proofs
def H6:List Prd→Int
 |[]=>0
 |p::r=>if Ey p.length p≠0 then Ey p.length p else H6 r
attribute [local irreducible] Ey
theorem K3(l:List Prd):PC Tryz.prog 157 [LP l] (fun r=>r= .i (H6 l)):=by
 refine Qk tOk Tryz.func157 rfl Tryz.results157 rfl (by simp[Tryz.ntmps157]) ?_;rw[Tryz.ntmps157];simp only[Qg];refine Io 0 rfl (fun hlen=> ?_);rw[yK]at hlen;repeat first|(refine r_ ?_;simp)|refine q_ ?_
 refine Qy l.length (fun j=>H6 l=H6 (l.drop j)) (fun j=>[(6,LP l),(7,.i l.length),(8,.i j)]) (fun _=>[]) rfl (by simp) (by simp) (by simp) (by simp) (by simp) ?_;intro j hj hI ih;repeat first|(refine r_ ?_;simp)|refine q_ ?_
 refine Qb rfl (fun z7=> ?_) (fun z8=> ?_)
 ·have z1:j<l.length:=by simpa using z7
  have hw:IntKind.i64.wrap ((j:Int)+1)=j+1:=wrap_i64 _ (by omega) (by omega);rw[W7 z1,H6]at hI;repeat first|(refine r_ ?_;simp[z1])|refine q_ ?_
  refine Qe rfl rfl (by simp) (A0 l[j].length l[j]) rfl ?_;rintro _ rfl;simp;repeat first|(refine r_ ?_;simp)|refine q_ ?_
  refine Qb rfl (fun h3=> ?_) (fun h3=> ?_)
  ·repeat first|(refine r_ ?_;simp)|refine q_ ?_
   rw[hI,if_pos (by simpa using h3)]
  rw[if_neg (by simpa using h3)]at hI;repeat first|(refine r_ ?_;simp[hw])|refine q_ ?_
  refine Qz _ (ih z1 hI) rfl (by simp) ?_ (by simp) (by simp);simp
 ·have z6:j=l.length:=by simp at z8;omega
  subst z6;repeat first|(refine r_ ?_;simp)|refine q_ ?_
  rw[hI,xS];rfl
def j0n(p:Prd)(x:Sy):Int:=if H6 [p]≠0 then H6 [p]else Sq p.length x
def Kj(p:Prd)(x:Sy):Bool×Int:=if j0n p x≠0 then(false,j0n p x)else(E8 p x,0)
attribute [local irreducible] H6 c0w
theorem x1x{T:Int}{p:Prd}(h:Ey T p=0):H6 [p]=0∧(p.length:Int)=T:=by
 obtain⟨h1,h2⟩:=(W5 T p).1 h;have hl:(p.length:Int)=T:=by have:=h2.1;omega
 exact⟨by unfold H6;rw[hl,if_neg (fun k=>k h)];unfold H6;rfl,hl⟩
theorem v0y{p:Prd}(h:H6 [p]=0):∀s∈p,CanonL s:=by
 unfold H6 at h;by_cases hc:Ey p.length p=0
 ·exact((W5 _ p).1 hc).2.2
 ·rw[if_pos hc]at h;exact absurd h hc
theorem Ro(p:Prd)(x:Sy):PC Tryz.prog 99 [encP p,encSy x] (fun r=>r= .tup [.bool (Kj p x).1,.i (Kj p x).2]):=by
 refine Qk tOk Tryz.func99 rfl Tryz.results99 rfl (by simp[Tryz.ntmps99]) ?_;rw[Tryz.ntmps99];simp only[Qg];simp only[encP,encSy];refine W9 0 0 rfl rfl (fun hlen=> ?_);rw[yK]at hlen;repeat first|(refine r_ ?_;simp)|refine q_ ?_
 refine Dk 2 rfl ?_;simp;refine Qe rfl rfl (by simp) (K3 [p]) rfl ?_;rintro _ rfl;simp;repeat first|(refine r_ ?_;simp)|refine q_ ?_
 refine Qb rfl (fun h=> ?_) (fun h=> ?_)
 ·repeat first|(refine r_ ?_;simp)|refine q_ ?_
  have h':H6 [p]≠0:=by simpa using h
  have hE:j0n p x=H6 [p]:=by rw[j0n,if_pos h']
  rw[Kj,hE,if_pos h'];exact⟨rfl,rfl⟩
 have h':H6 [p]=0:=by simpa using h
 have hE:j0n p x=Sq p.length x:=by rw[j0n,if_neg (fun k=>k h')]
 repeat first|(refine r_ ?_;simp)|refine q_ ?_
 refine Qb rfl (fun h1=> ?_) (fun h1=> ?_)
 ·repeat first|(refine r_ ?_;simp)|refine q_ ?_
  have z6:x.ty<0∨(p.length:Int)≤x.ty:=by simpa using h1
  have z1:j0n p x=6:=by rw[hE,Sq,if_pos z6]
  rw[Kj,z1];exact⟨rfl,rfl⟩
 have z6:¬(x.ty<0∨(p.length:Int)≤x.ty):=by simpa using h1
 repeat first|(refine r_ ?_;simp)|refine q_ ?_
 refine Qb rfl (fun h2=> ?_) (fun h2=> ?_)
 ·repeat first|(refine r_ ?_;simp)|refine q_ ?_
  have z7:x.num< -1099511627776∨1099511627776<x.num:=by simpa using h2
  have z1:j0n p x=2:=by rw[hE,Sq,if_neg z6,if_pos z7]
  rw[Kj,z1];exact⟨rfl,rfl⟩
 have z7:¬(x.num< -1099511627776∨1099511627776<x.num):=by simpa using h2
 have z1:j0n p x=0:=by rw[hE,Sq,if_neg z6,if_neg z7]
 repeat first|(refine r_ ?_;simp)|refine q_ ?_
 have zb:0≤x.ty:=by omega
 have zc:x.ty<(p.length:Int):=by omega
 have z8:x.ty.toNat<p.length:=by omega
 refine Qs tOk mixed [] (.val 0 (.val 1 (.val 2 (.val 3 (.val 4 (.val 5 (.val 6 (.val 7 (.one 8 (.val 9 (.val 10 (.val 11 (.val 12 (.done)))))))))))))) rfl (by kernel_rfl) ?_;simp[zb,zc,z8];refine Qe rfl rfl (by simp) (Fz p[x.ty.toNat] x.num) rfl ?_;rintro _ rfl;simp;repeat first|(refine r_ ?_;simp)|refine q_ ?_
 have hc:=v0y h' _ (zL z8);have za:c0w p[x.ty.toNat] x.num=(O7 p[x.ty.toNat] x.num,0):=by rw[c0w,if_pos ((X0 _).2 hc)]
 rw[Kj,z1,if_neg (fun k=>k rfl),za];refine⟨?_,rfl⟩;simp[E8,zb,zc,yS,z8]
theorem Zs{T:Int}{p:Prd}(h:Ey T p=0)(x:Sy):Kj p x=if Sq T x≠0 then(false,Sq T x)else(E8 p x,0):=by
 obtain⟨h1,h2⟩:=x1x h;have hE:j0n p x=Sq T x:=by rw[j0n,if_neg (fun k=>k h1),h2]
 rw[Kj,hE]
end Go.Abs
namespace Go.Abs
open Go Go.Proofs
abbrev Q7 (a:Aut):List AV:=[.i a.types,.list (a.fin.map .bool),.list (a.mv.map encMv)]
theorem u1l(p:Prd)(x:Sy):PC Tryz.prog 175 [encP p,encSy x] (fun r=>r= .bool ((Kj p x).2==0 && (Kj p x).1)):=by
 refine Qk tOk Tryz.func175 rfl Tryz.results175 rfl (by simp[Tryz.ntmps175]) ?_;rw[Tryz.ntmps175];simp only[Qg];simp only[encP,encSy];repeat first|(refine r_ ?_;simp)|refine q_ ?_
 refine Qe rfl rfl (by simp) (Ro p x) rfl ?_;rintro _ rfl;simp;repeat first|(refine r_ ?_;simp)|refine q_ ?_
theorem Vu(p:Prd)(x:Sy):PC Tryz.prog 111 [encP p,encSy x] (fun r=>r= .bool ((Kj p x).1 && (Kj p x).2==0)):=by
 refine Qk tOk Tryz.func111 rfl Tryz.results111 rfl (by simp[Tryz.ntmps111]) ?_;rw[Tryz.ntmps111];simp only[Qg];simp only[encP,encSy];repeat first|(refine r_ ?_;simp)|refine q_ ?_
 refine Qe rfl rfl (by simp) (Ro p x) rfl ?_;rintro _ rfl;simp;repeat first|(refine r_ ?_;simp)|refine q_ ?_
def stB(a:Aut)(n:Int):Bool:=decide (0≤n) && decide (n<a.fin.length)
theorem Lu(a:Aut)(n:Int):stB a n=true↔0≤n∧n<a.fin.length:=by simp[stB]
theorem Xh(H:List AObj)(id:Nat)(a:Aut)(hid:H[id]? =some (.vars (Q7 a)))(n:Int):FC Tryz.prog 134 [.i n,.vptr id 0] H (fun r H'=>r= .bool (stB a n)∧H'=H):=by refine Wy tOk Tryz.func134 rfl Tryz.results134 rfl (by simp[Tryz.ntmps134]) ?_;rw[Tryz.ntmps134];simp only[Qg];repeat first|(refine r_ ?_;simp[hid,stB])|refine q_ ?_
attribute [local irreducible] Ey stB
theorem Y4(a:Aut):PC Tryz.prog 73 [encA a] (fun r=>r= .i (Wk a)):=by
 refine Qk tOk Tryz.func73 rfl Tryz.results73 rfl (by simp[Tryz.ntmps73]) ?_;rw[Tryz.ntmps73];simp only[Qg];simp only[encA];refine W9 0 1 rfl rfl (fun z7=> ?_);refine W9 0 2 rfl rfl (fun z8=> ?_);rw[yK]at z7 z8;repeat first|(refine r_ ?_;simp)|refine q_ ?_
 refine Qb rfl (fun h=> ?_) (fun h=> ?_)
 ·repeat first|(refine r_ ?_;simp)|refine q_ ?_
  rw[Wk,if_pos (by simpa using h)]
 have h1:¬(a.types<1∨16<a.types):=by simpa using h
 repeat first|(refine r_ ?_;simp)|refine q_ ?_
 refine Qb rfl (fun h=> ?_) (fun h=> ?_)
 ·repeat first|(refine r_ ?_;simp)|refine q_ ?_
  rw[Wk,if_neg h1,if_pos];simp at h;omega
 have h2:¬(a.fin.length<1∨256<a.fin.length∨2048<a.mv.length):=by simp at h;omega
 have hE:Wk a=z0k a.types a.fin.length a.mv:=by rw[Wk,if_neg h1,if_neg h2]
 rw[hE];repeat first|(refine r_ ?_;simp)|refine q_ ?_
 refine Qy a.mv.length (fun j=>z0k a.types a.fin.length a.mv=z0k a.types a.fin.length (a.mv.drop j)) (fun j=>[(1,.vptr 0 0),(3,.fn (.func 134) [] [.vptr 0 0]),(33,.list (a.mv.map encMv)),(34,.i a.mv.length),(35,.i j)]) (fun _=>[.vars (Q7 a)]) rfl (by simp) (by simp) (by simp) (by simp) (by simp) ?_;intro j hj hI ih;repeat first|(refine r_ ?_;simp)|refine q_ ?_
 refine Qb rfl (fun za=> ?_) (fun zb=> ?_)
 ·have z1:j<a.mv.length:=by simpa using za
  have hw:IntKind.i64.wrap ((j:Int)+1)=j+1:=wrap_i64 _ (by omega) (by omega);rw[W7 z1,z0k]at hI;repeat first|(refine r_ ?_;simp[z1])|refine q_ ?_
  cases hb:stB a a.mv[j].src with
  |false=>
   refine Q4 rfl rfl (Xh _ 0 a rfl a.mv[j].src) rfl ?_;rintro r H' ⟨rfl,rfl⟩;simp[hb];repeat first|(refine r_ ?_;simp)|refine q_ ?_
   refine We rfl rfl ?_;simp;refine Qj rfl ?_;repeat first|(refine r_ ?_;simp)|refine q_ ?_
   rw[hI,if_pos (fun k=>by rw[(Lu _ _).2 k.1]at hb;cases hb)]
  |true=>
   refine Q4 rfl rfl (Xh _ 0 a rfl a.mv[j].src) rfl ?_;rintro r H' ⟨rfl,rfl⟩;simp[hb];repeat first|(refine r_ ?_;simp)|refine q_ ?_
   refine Q4 rfl rfl (Xh _ 0 a rfl a.mv[j].dst) rfl ?_;rintro r H' ⟨rfl,rfl⟩;simp;repeat first|(refine r_ ?_;simp)|refine q_ ?_
   refine Qb rfl (fun h3=> ?_) (fun h3=> ?_)
   ·repeat first|(refine r_ ?_;simp)|refine q_ ?_
    rw[hI,if_pos (fun k=>by rw[(Lu _ _).2 k.2]at h3;cases h3)]
   have hd:stB a a.mv[j].dst=true:=by simpa using h3
   rw[if_neg (fun k=>k ⟨(Lu _ _).1 hb,(Lu _ _).1 hd⟩)]at hI;repeat first|(refine r_ ?_;simp)|refine q_ ?_
   refine Qe rfl rfl (by simp) (A0 a.types a.mv[j].on) rfl ?_;rintro _ rfl;simp;repeat first|(refine r_ ?_;simp)|refine q_ ?_
   refine Qb rfl (fun h4=> ?_) (fun h4=> ?_)
   ·repeat first|(refine r_ ?_;simp)|refine q_ ?_
    rw[hI,if_pos (by simpa using h4)]
   rw[if_neg (by simpa using h4)]at hI;repeat first|(refine r_ ?_;simp[hw])|refine q_ ?_
   refine Qz _ (ih z1 hI) rfl (by simp) ?_ (by simp) (by simp);simp
 ·have z6:j=a.mv.length:=by simp at zb;omega
  subst z6;repeat first|(refine r_ ?_;simp)|refine q_ ?_
  rw[hI,xS];rfl
theorem v0g(a:Aut):PC Tryz.prog 51 [encA a] (fun r=>r= .i (Wk a)):=by
 refine Qk tOk Tryz.func51 rfl Tryz.results51 rfl (by simp[Tryz.ntmps51]) ?_;rw[Tryz.ntmps51];simp only[Qg];simp only[encA];refine W9 0 1 rfl rfl (fun z7=> ?_);refine W9 0 2 rfl rfl (fun z8=> ?_);rw[yK]at z7 z8;repeat first|(refine r_ ?_;simp)|refine q_ ?_
 refine Qb rfl (fun h=> ?_) (fun h=> ?_)
 ·repeat first|(refine r_ ?_;simp)|refine q_ ?_
  rw[Wk,if_pos (by simpa using h)]
 have h1:¬(a.types<1∨16<a.types):=by simpa using h
 repeat first|(refine r_ ?_;simp)|refine q_ ?_
 refine Qb rfl (fun h=> ?_) (fun h=> ?_)
 ·repeat first|(refine r_ ?_;simp)|refine q_ ?_
  rw[Wk,if_neg h1,if_pos];simp at h;omega
 have h2:¬(a.fin.length<1∨256<a.fin.length∨2048<a.mv.length):=by simp at h;omega
 have hE:Wk a=z0k a.types a.fin.length a.mv:=by rw[Wk,if_neg h1,if_neg h2]
 rw[hE];repeat first|(refine r_ ?_;simp)|refine q_ ?_
 refine Qy a.mv.length (fun j=>z0k a.types a.fin.length a.mv=z0k a.types a.fin.length (a.mv.drop j)) (fun j=>[(1,.vptr 0 0),(3,.i a.fin.length),(4,.i j)]) (fun _=>[.vars (Q7 a)]) rfl (by simp) (by simp) (by simp) (by simp) (by simp) ?_;intro j hj hI ih;repeat first|(refine r_ ?_;simp)|refine q_ ?_
 refine Qb rfl (fun za=> ?_) (fun zb=> ?_)
 ·have z1:j<a.mv.length:=by simpa using za
  have hw:IntKind.i64.wrap ((j:Int)+1)=j+1:=wrap_i64 _ (by omega) (by omega);rw[W7 z1,z0k]at hI;repeat first|(refine r_ ?_;simp[z1])|refine q_ ?_
  refine Qb rfl (fun h3=> ?_) (fun h3=> ?_)
  ·repeat first|(refine r_ ?_;simp)|refine q_ ?_
   rw[hI,if_pos];simp at h3;omega
  rw[if_neg (by simp at h3 ⊢;omega)]at hI;repeat first|(refine r_ ?_;simp)|refine q_ ?_
  refine Qe rfl rfl (by simp) (w06 a.types a.mv[j].on) rfl ?_;rintro _ rfl;simp;repeat first|(refine r_ ?_;simp)|refine q_ ?_
  refine Qb rfl (fun h4=> ?_) (fun h4=> ?_)
  ·repeat first|(refine r_ ?_;simp)|refine q_ ?_
   rw[hI,if_pos (by simpa using h4)]
  rw[if_neg (by simpa using h4)]at hI;repeat first|(refine r_ ?_;simp[hw])|refine q_ ?_
  refine Qz _ (ih z1 hI) rfl (by simp) ?_ (by simp) (by simp);simp
 ·have z6:j=a.mv.length:=by simp at zb;omega
  subst z6;repeat first|(refine r_ ?_;simp)|refine q_ ?_
  rw[hI,xS];rfl
end Go.Abs
