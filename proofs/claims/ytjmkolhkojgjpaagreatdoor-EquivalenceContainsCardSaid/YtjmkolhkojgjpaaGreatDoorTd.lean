/- Part Td of the proof: an abstract machine over the model, and what the functions of the program hand back in its terms. No condition. -/
import Derived.Test.YtjmkolhkojgjpaaGreatDoorTc
import Derived.Test.YtjmkolhkojgjpaaGreatDoorTb
set_option linter.all false
open List renaming eq_nil_or_concat→wD,concat_eq_append→wG,getLast?_append→uz,getLast?_singleton→ul,dropLast_concat→uA,mem_append→zN,foldl_cons→xH,length_cons→yK,getElem_of_mem→yE,getElem_mem→zH,any_eq_true→wH,any_eq_false→wJ,replicate→zT,cons_append→uQ,length_filter_le→wY,perm_middle→wR,pairwise_append→zW,mem_cons→zU,pairwise_cons→zZ,take_append_drop→xK,pairwise_iff_getElem→yA,getElem_take→uL,pairwise_mergeSort→vI,take_length→yF,mem_mergeSort→uJ,mem_flatMap→xD,mem_filterMap→ww,getElem?_eq_some_iff→zA,mem_of_getElem?→zC,getElem?_eq_getElem→zF,perm_ext_iff_of_nodup→uf,zipWith→tc,getElem?_replicate→wT,eq_of_mem_replicate→wL,getElem?_zipWith→wA,mem_iff_getElem?→yB,getElem?_map→zP,all_eq_true→zM,mem_singleton→zK,pairwise_flatMap→vJ,range→yD,getD→yP,getElem?_set_self→zG,getElem?_set_ne→zB,mem_cons_of_mem→uB,map_congr_left→xI,mem_map→zL,mem_range→yJ,pairwise_map→xF,mem_filter→wd,mem_append_left→yT,findIdx?_eq_some_iff_getElem→xT,getElem_inj→u6,getElem?_append_left→zD,eq_nil_iff_forall_not_mem→x_
open Option renaming some_or→uP,map_eq_some_iff→zJ
open Nat renaming le_refl→zI,lt_trichotomy→vP,lt_or_gt_of_ne→u7
open Bool renaming eq_iff_iff→xE,not_eq_true→ug
open Int renaming le_refl→yI,lt_trichotomy→uR
set_option linter.unusedSimpArgs false
set_option maxRecDepth 100000
namespace Go.Abs
open Go Go.Proofs
def f1l:List Iv→Int
 |[]=>0
 |x::r=>if(P7 x != 0)=true then P7 x else f1l r
def Q0(acc l:List Iv):List Iv:=l.foldl Wy acc
def u00(l:List Iv):Int:=if decide ((256:Int)<l.length)=true then 5 else f1l l
def w2l(l:List Iv)(r:AV):Prop:=(u00 l≠0∧r= .tup [.list [],.i (u00 l)])∨(u00 l=0∧l.length≤256∧f1l l=0∧∃l':List Iv,l'.Perm l∧Vg l'∧r= .tup [LIv (Q0 [] l'),.i 0])
theorem L6{x:Iv}(h:P7 x=0):Ge x∧x.lo≤x.hi:=by
 unfold P7 at h;by_cases h1:(!inB x.lo || !inB x.hi)=true
 ·rw[if_pos h1]at h;cases h
 ·rw[if_neg h1]at h;by_cases h2:decide (x.hi<x.lo)=true
  ·rw[if_pos h2]at h;cases h
  ·exact⟨by simpa[Ge]using h1,by simpa using h2⟩
theorem w1j{acc:List Iv}{x:Iv}(ha:∀y∈acc,Ge y)(hx:Ge x):∀y∈Wy acc x,Ge y:=by
 rcases wD acc with rfl|⟨ini,z,rfl⟩
 ·simpa[Wy]using hx
 ·have hz:=ha z (by simp);have hi:∀y∈ini,Ge y:=fun y hy=>ha y (by simp[hy]);intro y hy;simp only[Wy,wG,uz,ul,uP,uA]at hy;split at hy
  ·rcases zN.1 hy with h|h
   ·exact hi y h
   ·simp at h;subst h;refine⟨hz.1,?_⟩;simp only;split
    ·exact hx.2
    ·exact hz.2
  ·rcases zN.1 hy with h|h
   ·rcases zN.1 h with h|h
    ·exact hi y h
    ·simp at h;subst h;exact hz
   ·simp at h;subst h;exact hx
theorem c0i(acc:List Iv)(x:Iv):(Wy acc x).length≤acc.length+1:=by
 rcases wD acc with rfl|⟨ini,z,rfl⟩
 ·simp[Wy]
 ·simp only[Wy,wG,uz,ul,uP,uA];split<;>simp
theorem Fq(acc l:List Iv)(x:Iv):Q0 acc (l++[x])=Wy (Q0 acc l) x:=by simp[Q0]
theorem Yy:∀(l acc:List Iv),(Q0 acc l).length≤acc.length+l.length
 |[],acc=>by simp[Q0]
 |x::r,acc=>by have:=Yy r (Wy acc x);have:=c0i acc x;simp only[Q0,xH,yK]at *;omega
theorem Dr:∀(l acc:List Iv),(∀y∈acc,Ge y)→(∀y∈l,Ge y)→∀y∈Q0 acc l,Ge y
 |[],acc,h,_=>by simpa[Q0]using h
 |x::r,acc,h,hl=>Dr r (Wy acc x) (w1j h (hl x (by simp))) (fun y hy=>hl y (by simp[hy]))
attribute [local irreducible] P7
end Go.Abs
namespace Go.Abs
open Go Go.Proofs
def f1x(s:List Iv)(j:Nat)(x:Iv):Bool:=match s[j]? with|some y=>decide (x.lo<y.lo)|none=>false
def Oc(s:List Iv)(x:Iv):Nat→Nat
 |0=>0
 |j+1=>if f1x s j x=true then Oc s x j else j+1
def x0u(s:List Iv)(x:Iv):List Iv:=s.take (Oc s x s.length)++x::s.drop (Oc s x s.length)
def Oa(l:List Iv):List Iv:=l.foldl x0u []
theorem Di(s:List Iv)(x:Iv):∀j,Oc s x j≤j
 |0=>zI _
 |j+1=>by
  rw[Oc];split
  ·exact Nat.le_succ_of_le (Di s x j)
  ·exact zI _
theorem d08(s:List Iv)(x:Iv):(x0u s x).length=s.length+1:=by have:=Di s x s.length;simp[x0u];omega
theorem H8:∀(l acc:List Iv),(l.foldl x0u acc).length=acc.length+l.length
 |[],acc=>by simp
 |x::r,acc=>by rw[xH,H8 r,d08,yK];omega
theorem x0t(l:List Iv):(Oa l).length=l.length:=by rw[Oa,H8];simp
end Go.Abs
namespace Go.Abs
open Go Go.Proofs
def Rm(l:List Iv):List Iv:=Q0 [] (Oa l)
theorem El(ini:List Iv)(y x:Iv):Wy (ini++[y]) x=if x.lo≤y.hi+1 then ini++[⟨y.lo,if y.hi<x.hi then x.hi else y.hi⟩]else ini++[y]++[x]:=by simp[Wy]
attribute [local irreducible] Oa
end Go.Abs
namespace Go.Abs
open Go Go.Proofs
attribute [local irreducible] Rm
def c1n(l:List Iv):AV:=if u00 l=0 then .tup [LIv (Rm l),.i 0]else .tup [.list [],.i (u00 l)]
attribute [local irreducible] P7
theorem k1b(l:List Iv):PC Tryz.prog 144 [LIv l] (fun r=>r= .bool (decide ((l.length:Int)≤12))):=by refine Qh tOk Tryz.func144 rfl Tryz.results144 rfl (by simp[Tryz.ntmps144]) ?_;rw[Tryz.ntmps144];simp only[Qe];repeat first|(refine r_ ?_;simp)|refine q_ ?_
end Go.Abs
namespace Go.Abs
open Go Go.Proofs
attribute [simp] T68
@[simp] def encL (l:List Iv):AV:= .list (l.map encIv)
def d1y(l:List Iv):Bool:= !((decide ((12:Int)<l.length) && decide ((l.length:Int)≤254)) || decide ((258:Int)<l.length))
def w21(ls:List (List Iv)):Bool:=ls.all d1y
def k1g(l:List Iv):Bool:=decide ((l.length:Int)≤12) && decide (ckR l=0)
def q2x(ls:List (List Iv)):Bool:=ls.all k1g
attribute [local irreducible] ckR
end Go.Abs
namespace Go.Abs
open Go Go.Proofs
structure CanonL (l:List Iv):Prop where
 len:l.length≤256
 one:∀y∈l,P7 y=0
 gap:∀j,∀h:j+1<l.length,l[j].hi+2≤l[j+1].lo
theorem Zh{l:List Iv}{j:Nat}{x:Iv}(h:j<l.length)(hi:Ge l[j]):y01 l (j+1) x=decide (x.lo<l[j].hi+2):=by have h1:=(Eu _).1 hi.2;have:W (l[j].hi+2)=l[j].hi+2:=wrap_i64 _ (by omega) (by omega);simp[y01,h,this]
theorem Dn(l:List Iv)(hl:l.length≤256):∀(n j:Nat),l.length - j=n→j≤l.length→(∀h:0<j,∀h':j - 1<l.length,P7 l[j - 1]=0)→(U4 l j (l.drop j)=0↔(∀i,j≤i→∀h:i<l.length,P7 l[i]=0)∧∀i,j≤i+1→∀h:i+1<l.length,l[i].hi+2≤l[i+1].lo)
 |0,j,hn,hj,_=>by
  have:j=l.length:=by omega
  subst this;rw[List.drop_length,U4];exact⟨fun _=>⟨fun i h1 h2=>by omega,fun i h1 h2=>by omega⟩,fun _=>rfl⟩
 |n+1,j,hn,hj,hp=>by
  have z6:j<l.length:=by omega
  rw[W8 z6,U4];by_cases h1:(P7 l[j] != 0)=true
  ·rw[if_pos h1];have z1:P7 l[j]≠0:=by simpa using h1
   exact⟨fun h=>absurd h z1,fun h=>absurd (h.1 j (zI _) z6) z1⟩
  ·rw[if_neg h1];have z1:P7 l[j]=0:=by simpa using h1
   have ih:=Dn l hl n (j+1) (by omega) (by omega) (fun _ _=>z1);by_cases h2:y01 l j l[j]=true
   ·rw[if_pos h2];refine⟨fun h=>(by cases h),fun h=> ?_⟩;rcases j with _|j
    ·simp[y01]at h2
    ·have hq:P7 l[j]=0:=hp (by omega) (by simp;omega);rw[Zh (by omega) (L6 hq).1]at h2;have:=h.2 j (zI _) z6;simp at h2;omega
   ·rw[if_neg h2,ih];constructor
    ·rintro⟨a,b⟩;refine⟨fun i hi h=> ?_,fun i hi h=> ?_⟩
     ·by_cases e:i=j
      ·subst e;exact z1
      ·exact a i (by omega) h
     ·by_cases e:j=i+1
      ·subst e;have hq:P7 l[i]=0:=hp (by omega) (by simp;omega);rw[Zh (by omega) (L6 hq).1]at h2;simp at h2;exact h2
      ·exact b i (by omega) h
    ·rintro⟨a,b⟩;exact⟨fun i hi h=>a i (by omega) h,fun i hi h=>b i (by omega) h⟩
theorem L4(l:List Iv):ckR l=0↔CanonL l:=by
 rw[ckR];by_cases h:decide ((256:Int)<l.length)=true
 ·rw[if_pos h];simp at h;exact⟨fun e=>(by cases e),fun e=>(by have:=e.len;omega)⟩
 ·rw[if_neg h];simp at h;have hl:l.length≤256:=by omega
  have:=Dn l hl l.length 0 rfl (Nat.zero_le _) (fun h=>by omega);rw[List.drop_zero]at this;rw[this];constructor
  ·rintro⟨a,b⟩;refine⟨hl,fun y hy=> ?_,fun j h=>b j (by omega) h⟩;obtain⟨i,hi,rfl⟩:=yE hy;exact a i (by omega) hi
  ·rintro⟨_,a,b⟩;exact⟨fun i _ h=>a _ (zH h),fun i _ h=>b i h⟩
theorem CanonL.iv{l:List Iv}(h:CanonL l){j:Nat}(hj:j<l.length): -1099511627776≤l[j].lo∧l[j].lo≤l[j].hi∧l[j].hi≤1099511627776:=by obtain⟨⟨h1,h2⟩,h3⟩:=L6 (h.one _ (zH hj));have:=(Eu _).1 h1;have:=(Eu _).1 h2;omega
def d1d:List Iv→Int
 |[]=>0
 |x::r=>(x.hi - x.lo+1)+d1d r
attribute [local irreducible] ckR
end Go.Abs
namespace Go.Abs
open Go Go.Proofs
attribute [local irreducible] ckR
def q0j(a b:List Iv):Int:=if ckR a=0 then ckR b else ckR a
def w2e(l:List Iv):AV:=if l.length≤256 then .tup [LIv l,.i 0]else .tup [.list [],.i 5]
def q1d:List Iv→Int→Int×Int
 |[],_=>(0,2)
 |x::r,i=>if i<x.hi - x.lo+1 then(x.lo+i,0)else q1d r (i - (x.hi - x.lo+1))
def atR(l:List Iv)(i:Int):Int×Int:=if ckR l=0 then(if i<0 then(0,2)else q1d l i)else(0,ckR l)
def N6(x:Iv)(n:Int):Int:=if x.hi<n then -1 else if n<x.lo then 1 else 0
theorem z0y(x:Iv)(n:Int):PC Tryz.prog 222 [encIv x,.i n] (fun r=>r= .i (N6 x n)):=by
 refine Qh tOk Tryz.func222 rfl Tryz.results222 rfl (by simp[Tryz.ntmps222]) ?_;rw[Tryz.ntmps222];simp only[Qe];simp only[encIv];repeat first|(refine r_ ?_;simp)|refine q_ ?_
 refine Qa rfl (fun h=> ?_) (fun h=> ?_)
 ·repeat first|(refine r_ ?_;simp)|refine q_ ?_
  rw[N6,if_pos (by simpa using h)]
 repeat first|(refine r_ ?_;simp)|refine q_ ?_
 refine Qa rfl (fun h2=> ?_) (fun h2=> ?_)
 ·repeat first|(refine r_ ?_;simp)|refine q_ ?_
  rw[N6,if_neg (by simpa using h),if_pos (by simpa using h2)]
 repeat first|(refine r_ ?_;simp)|refine q_ ?_
 rw[N6,if_neg (by simpa using h),if_neg (by simpa using h2)]
def Se(l:List Iv)(n:Int):Bool:=l.any fun x=>decide (x.lo≤n) && decide (n≤x.hi)
theorem Iz{l:List Iv}(hc:CanonL l):∀ {i j:Nat},i<j→∀(hj:j<l.length),∀(hi:i<l.length),l[i].hi+2≤l[j].lo:=by
 intro i j z1 hj hi;obtain⟨d,rfl⟩:∃d,j=i+1+d:=⟨j - (i+1),by omega⟩
 induction d with
 |zero=>exact hc.gap i hj
 |succ d ih=>
  have h1:=ih (by omega) (by omega);have h2:=hc.gap (i+1+d) (by omega);have h3:=hc.iv (show i+1+d<l.length by omega);have h4:i+1+(d+1)=i+1+d+1:=by omega
  simp only[h4];omega
theorem Dt(x:Iv)(n:Int):N6 x n<0↔x.hi<n:=by
 unfold N6;by_cases h:x.hi<n
 ·rw[if_pos h];simp[h]
 ·rw[if_neg h];by_cases h2:n<x.lo
  ·rw[if_pos h2];simp[h]
  ·rw[if_neg h2];simp[h]
theorem f00(x:Iv)(n:Int):N6 x n=0↔x.lo≤n∧n≤x.hi:=by
 unfold N6;by_cases h:x.hi<n
 ·rw[if_pos h];constructor<;>intro h'<;>omega
 ·rw[if_neg h];by_cases h2:n<x.lo
  ·rw[if_pos h2];constructor<;>intro h'<;>omega
  ·rw[if_neg h2];constructor<;>intro h'<;>omega
theorem u1p{i j m:Nat}(hm:(i+j) / 2=m)(h:i+j≤1000000000):IntKind.i64.wrap ((IntKind.u64.wrap ((i:Int)+j)).fdiv (2 ^ min 1 IntKind.u64.bits))=m:=by
 have h1:IntKind.u64.wrap ((i:Int)+j)=i+j:=by simp[IntKind.wrap,IntKind.bits,IntKind.signed];omega
 have h2:min 1 IntKind.u64.bits=1:=by decide
 rw[h1,h2,Int.fdiv_eq_ediv_of_nonneg _ (by decide),wrap_i64 _ (by omega) (by omega)];omega
attribute [local irreducible] N6
set_option maxHeartbeats 2000000 in
theorem L1(l:List Iv)(n:Int)(hc:CanonL l):PC Tryz.prog 221 [LIv l,.i n,.fn (.func 222) [] []] (fun r=>∃k:Int,r= .tup [.i k,.bool (Se l n)]):=by
 refine Qh tOk Tryz.func221 rfl Tryz.results221 rfl (by simp[Tryz.ntmps221]) ?_;rw[Tryz.ntmps221];simp only[Qe];have hlen:=hc.len;repeat first|(refine r_ ?_;simp)|refine q_ ?_
 refine Ql (Qb (sl':=[(0,LIv l),(1,.i n),(2,.fn (.func 222) [] []),(8,.i l.length),(9,.i 0),(10,.i l.length)]) ?_ (by simp));refine Qn (F:=fun(u:Nat×Nat)=>⟨[(0,LIv l),(1,.i n),(2,.fn (.func 222) [] []),(8,.i l.length),(9,.i u.1),(10,.i u.2)],[]⟩) (fun u=>u.1≤u.2∧u.2≤l.length∧(∀k,k<u.1→∀hk:k<l.length,N6 l[k] n<0)∧(∀k,u.2≤k→∀hk:k<l.length,¬N6 l[k] n<0)) (fun u=>u.2 - u.1) ?_ (0,l.length) ⟨by simp,by simp,fun k hk=>by simp at hk,fun k hk z1=>by simp only at hk;omega⟩;rintro⟨i,j⟩ ⟨h1,h2,h3,h4⟩ ih;simp only at h1 h2 h3 h4 ih ⊢;repeat first|(refine r_ ?_;simp)|refine q_ ?_
 refine Qa rfl (fun zd=> ?_) (fun ze=> ?_)
 ·have zf:i<j:=by simpa using zd
  have hw:IntKind.i64.wrap ((i:Int)+j)=i+j:=wrap_i64 _ (by omega) (by omega);obtain⟨m,hm⟩:∃m,(i+j) / 2=m:=⟨_,rfl⟩
  have z8:IntKind.i64.wrap ((IntKind.u64.wrap ((i:Int)+j)).fdiv (2 ^ min 1 IntKind.u64.bits))=m:=u1p hm (by omega);have z6:m<l.length:=by omega
  have za:(m:Int)<l.length:=by omega
  have zg:IntKind.i64.wrap ((m:Int)+1)=m+1:=wrap_i64 _ (by omega) (by omega);repeat first|(refine r_ ?_;simp[hw,z8,z6,za])|refine q_ ?_
  refine Qc rfl rfl (by simp) (z0y l[m] n) rfl ?_;rintro _ rfl;simp;refine Qa rfl (fun h5=> ?_) (fun h5=> ?_)
  ·repeat first|(refine r_ ?_;simp[zg])|refine q_ ?_
   refine Qb (sl':=[(0,LIv l),(1,.i n),(2,.fn (.func 222) [] []),(8,.i l.length),(9,.i (m+1:Nat)),(10,.i j)]) (ih (m+1,j) ⟨by simp only;omega,h2,fun k hk z1=> ?_,h4⟩ (by simp only;omega)) (by simp);have zh:=hc.iv z1;have zi:=hc.iv z6;have z7:N6 l[m] n<0:=by simpa using h5
   by_cases e:k=m
   ·subst e;exact z7
   ·have:=Iz hc (show k<m by omega) z6 z1;rw[Dt]at z7 ⊢;omega
  ·repeat first|(refine r_ ?_;simp)|refine q_ ?_
   refine Qb (sl':=[(0,LIv l),(1,.i n),(2,.fn (.func 222) [] []),(8,.i l.length),(9,.i i),(10,.i m)]) (ih (i,m) ⟨by simp only;omega,by simp only;omega,h3,fun k hk z1=> ?_⟩ (by simp only;omega)) (by simp);have zh:=hc.iv z1;have zi:=hc.iv z6;have z7:¬N6 l[m] n<0:=by simpa using h5
   by_cases e:k=m
   ·subst e;exact z7
   ·have:=Iz hc (show m<k by omega) z1 z6;rw[Dt]at z7 ⊢;omega
 ·have zb:i=j:=by simp at ze;omega
  subst zb;by_cases hil:i<l.length
  ·repeat first|(refine r_ ?_;simp[hil])|refine q_ ?_
   refine Qc rfl rfl (by simp) (z0y l[i] n) rfl ?_;rintro _ rfl;simp;repeat first|(refine r_ ?_;simp)|refine q_ ?_
   have hh:Se l n=(N6 l[i] n==0):=by
    rw[xE,beq_iff_eq,f00,Se,wH];constructor
    ·rintro⟨x,hx,zc⟩;obtain⟨k,hk,rfl⟩:=yE hx;simp at zc;have e:k=i:=by
      by_cases e1:k<i
      ·have:=(Dt _ _).1 (h3 k e1 hk);omega
      ·by_cases e2:i<k
       ·have:=Iz hc e2 hk hil;have:¬l[i].hi<n:=fun e=>h4 i (zI _) hil ((Dt l[i] n).2 e);omega
       ·omega
     subst e;exact zc
    ·intro h;exact⟨l[i],zH hil,by simpa using h⟩
   rw[hh]
  ·repeat first|(refine r_ ?_;simp[hil])|refine q_ ?_
   refine Wk rfl rfl ?_;simp;repeat first|(refine r_ ?_;simp)|refine q_ ?_
   have hh:Se l n=false:=by rw[Se,wJ];intro x hx;obtain⟨k,hk,rfl⟩:=yE hx;have:=(Dt _ _).1 (h3 k (by omega) hk);simp;intro _;omega
   rw[hh]
theorem v1j(l:List Iv)(n:Int)(hc:CanonL l):PC Tryz.prog 165 [LIv l,.i n] (fun r=>r= .bool (Se l n)):=by
 refine Qh tOk Tryz.func165 rfl Tryz.results165 rfl (by simp[Tryz.ntmps165]) ?_;rw[Tryz.ntmps165];simp only[Qe];repeat first|(refine r_ ?_;simp)|refine q_ ?_
 refine Qc rfl rfl (by simp) (L1 l n hc) rfl ?_;rintro _ ⟨k,rfl⟩;simp;repeat first|(refine r_ ?_;simp)|refine q_ ?_
attribute [local irreducible] Se
def c0b(l:List Iv)(n:Int):Bool×Int:=if ckR l=0 then(Se l n,0)else(false,ckR l)
theorem D4(l:List Iv)(n:Int):PC Tryz.prog 103 [LIv l,.i n] (fun r=>r= .tup [.bool (c0b l n).1,.i (c0b l n).2]):=by
 refine Qh tOk Tryz.func103 rfl Tryz.results103 rfl (by simp[Tryz.ntmps103]) ?_;rw[Tryz.ntmps103];simp only[Qe];repeat first|(refine r_ ?_;simp)|refine q_ ?_
 refine Qc rfl rfl (by simp) (B7 l) rfl ?_;rintro _ rfl;simp;repeat first|(refine r_ ?_;simp)|refine q_ ?_
 refine Qa rfl (fun h=> ?_) (fun h=> ?_)
 ·repeat first|(refine r_ ?_;simp)|refine q_ ?_
  rw[c0b,if_neg (by simpa using h)];exact⟨rfl,rfl⟩
 have h0:ckR l=0:=by simpa using h
 repeat first|(refine r_ ?_;simp)|refine q_ ?_
 refine Qc rfl rfl (by simp) (v1j l n ((L4 l).1 h0)) rfl ?_;rintro _ rfl;simp;repeat first|(refine r_ ?_;simp)|refine q_ ?_
 rw[c0b,if_pos h0];exact⟨rfl,rfl⟩
end Go.Abs
namespace Go.Abs
open Go Go.Proofs
attribute [local irreducible] ckR
def d1u(d:Int)(x:Iv):Option Iv:=
 let a:=if x.lo+d< -1099511627776 then -1099511627776 else x.lo+d
 let b:=if 1099511627776<x.hi+d then 1099511627776 else x.hi+d
 if a≤b then some ⟨a,b⟩else none
def c11(l:List Iv)(d:Int):List Iv×Int:=if ckR l=0 then(if d< -2199023255552∨2199023255552<d then([],0)else(l.filterMap (d1u d),0))else([],ckR l)
end Go.Abs
namespace Go.Abs
open Go Go.Proofs
def c1f(ls:List (List Iv)):List Iv:=ls.flatten
attribute [local irreducible] c1f
end Go.Abs
namespace Go.Abs
open Go Go.Proofs Go.RowKit Go.Shelf Go.Lib Go.Sort
def Rk(zs:List Int):List Int:=zs.mergeSort fun x y=>decide (x≤y)
theorem O5(zs:List Int):(Rk zs).length=zs.length:=by simp[Rk]
theorem Jg(H:List AObj)(p:Nat)(zs:List Int)(hp:H[p]? =some (.arr 3 1 (zs.map (AV.int .i64))))(hl:zs.length≤1000000):
  FC Tryz.prog 171 [.sl p 1 0 zs.length] H (fun r H'=>r= .tup []∧H'=H.set p (.arr 3 1 ((Rk zs).map (AV.int .i64)))):=by
 refine(q1u (xs:=zs.map (AV.int .i64)) (rest:=[]) (T6 Tryz.func171 rfl rfl) (by simp) hp (j16 zs) [] (fun w I m vs a b=>by simpa using a) (fun z1=>z1=(Rk zs).map (AV.int .i64)) ?_ ?_).mono ?_
 ·intro b cap w hH hb hc;have:=Tryz.slices_Sort_int b 0 cap zs w (Zy hH) hb (by omega);refine Calls.mono (by simpa using this) ?_;rintro e w' ⟨rfl,n,os,rfl⟩;exact⟨rfl,_,((Rk zs).map (Value.int .i64)).toArray,n,os,rfl,by simp[O5],j16 _,by rw[Hg];rfl⟩
 ·rintro h;have z6:zs=[]:=by simpa using h
  subst z6;exact⟨by simp[Rk],fun w=>by simpa using Tryz.slices_Sort_int_none none 0 w⟩
 ·rintro r H' ⟨rfl,z1,rfl,rfl⟩;exact⟨rfl,rfl⟩
theorem O9(H:List AObj)(p:Nat)(zs:List Int)(hp:H[p]? =some (.arr 3 1 (zs.map (AV.int .i64))))(hl:zs.length≤1000000)(z6:(Lib.compact zs).length≤zs.length):
  FC Tryz.prog 172 [.sl p 1 0 zs.length] H (fun r H'=>r= .sl p 1 0 (Lib.compact zs).length∧∃G:List Int,H'=H.set p (.arr 3 1 ((Lib.compact zs++G).map (AV.int .i64)))):=by
 refine(w1x (xs:=zs.map (AV.int .i64)) (T6 Tryz.func172 rfl rfl) (by simp) hp (j16 zs) (fun z1 n=>n=(Lib.compact zs).length∧∃G:List Int,z1=(Lib.compact zs++G).map (AV.int .i64)) (fun ys n h=>by rw[h.1];exact z6) ?_ ?_).mono ?_
 ·intro b cap w hH hb hc hm;have:=Tryz.slices_Compact_int b 0 cap zs w (Zy hH) (by omega) hc;refine Calls.mono (by simpa using this) ?_;rintro e w' ⟨rfl,q,rfl⟩;exact⟨_,((Lib.compact zs++zT (zs.length - (Lib.compact zs).length) 0).map (Value.int .i64)).toArray,q,_,rfl,⟨rfl,_,rfl⟩,by simp;omega,j16 _,by rw[←Hg]⟩
 ·rintro h;have z7:zs=[]:=by simpa using h
  subst z7;exact⟨⟨rfl,[],rfl⟩,fun w=>by simpa using Tryz.slices_Compact_int_empty none 0 w⟩
 ·rintro r H' ⟨z1,n,rfl,⟨rfl,G,rfl⟩,rfl⟩;exact⟨rfl,G,rfl⟩
end Go.Abs
namespace Go.Abs
open Go Go.Proofs
attribute [simp] T47
def Cz:List Iv→List Int
 |[]=>[]
 |x::r=>x.lo::(x.hi+1)::Cz r
theorem Md:∀(l:List Iv) (x:Iv),Cz (l++[x])=Cz l++[x.lo,x.hi+1]
 |[],x=>rfl
 |y::r,x=>by rw[uQ,Cz,Md r,Cz];rfl
theorem y0v:∀(l:List Iv),(Cz l).length=2 * l.length
 |[]=>rfl
 |x::r=>by rw[Cz,yK,yK,y0v r,yK];omega
def x0j(l:List Iv):List Int:=Lib.compact (Rk (Cz l))
def q1x(f:Int→Bool):List Int→List Iv→List Iv
 |c::d::r,acc=>q1x f (d::r) (if f c=true then Wy acc ⟨c,d - 1⟩else acc)
 |_,acc=>acc
def Nn(op:Bool→Bool→Bool)(a b:List Iv):List Iv:=q1x (fun n=>op (Se a n) (Se b n)) (x0j (a++b)) []
theorem Ow(zs:List Int):(Lib.compact zs).length≤zs.length:=by unfold Lib.compact Lib.compactUpTo;rw[List.length_map];exact Nat.le_trans (wY _ _) (by simp)
attribute [local irreducible] ckR Se c1f Wy Rk Lib.compact Cz
end Go.Abs
namespace Go.Abs
open Go Go.Proofs
attribute [local irreducible] ckR Nn
def y11(x y:Bool):Bool:=x && !y
def j1u(op:Bool→Bool→Bool)(a b:List Iv):AV:=if q0j a b=0 then w2e (Nn op a b)else .tup [.list [],.i (q0j a b)]
attribute [local irreducible] q0j
attribute [local irreducible] j1u
end Go.Abs
namespace Go.Abs
theorem push_comm(acc:List Iv)(x y:Iv)(h:x.lo=y.lo)(hx:x.lo≤x.hi)(hy:y.lo≤y.hi):Wy (Wy acc x) y=Wy (Wy acc y) x:=by
 have one:∀(u v:Iv),u.lo=v.lo→u.lo≤u.hi→∀ini:List Iv,Wy (ini++[u]) v=ini++[⟨u.lo,if u.hi<v.hi then v.hi else u.hi⟩]:=fun u v z6 hu ini=>by rw[El,if_pos (by omega)]
 rcases wD acc with rfl|⟨ini,z,rfl⟩
 ·have e1:Wy [] x=[]++[x]:=rfl;have e2:Wy [] y=[]++[y]:=rfl;rw[e1,e2,one x y h hx,one y x h.symm hy,h]
  congr 3
  split<;>split<;>omega
 ·rw[wG];by_cases hz:x.lo≤z.hi+1
  ·have z1:∀(w u:Iv),u.lo≤w.hi+1→Wy (ini++[w]) u=ini++[⟨w.lo,if w.hi<u.hi then u.hi else w.hi⟩]:=fun w u h=>by rw[El,if_pos h]
   rw[z1 z x hz,z1 z y (by omega),z1 _ y (by simp only;split<;>omega),z1 _ x (by simp only;split<;>omega)]
   congr 3
   simp only;repeat split
   all_goals omega
  ·have ap:∀u:Iv,u.lo=x.lo→Wy (ini++[z]) u=ini++[z]++[u]:=fun u h=>by rw[El,if_neg (by omega)]
   rw[ap x rfl,ap y h.symm,one x y h hx,one y x h.symm hy,h]
   congr 3
   split<;>split<;>omega
theorem A9:∀(A:List Iv) (acc:List Iv) (x:Iv) (B:List Iv),(∀y∈A,y.lo=x.lo∧y.lo≤y.hi)→x.lo≤x.hi→Q0 acc (A++x::B)=Q0 acc (x::(A++B))
 |[],acc,x,B,_,_=>rfl
 |y::A,acc,x,B,h,hx=>by have hy:=h y (by simp);have ih:=A9 A (Wy acc y) x B (fun z hz=>h z (by simp[hz])) hx;simp only[Q0,uQ,xH]at ih ⊢;rw[ih,push_comm acc y x hy.1 hy.2 hx]
theorem D6:∀(l l':List Iv) (acc:List Iv),l.Perm l'→Vg l→Vg l'→(∀y∈l,y.lo≤y.hi)→Q0 acc l=Q0 acc l'
 |[],l',acc,hp,_,_,_=>by rw[hp.nil_eq]
 |x::l,l',acc,hp,h1,h2,hf=>by
  obtain⟨A,B,rfl⟩:=List.append_of_mem (hp.mem_iff.1 (List.mem_cons_self));have z6:l.Perm (A++B):=(List.perm_cons x).1 (hp.trans wR);have hA:∀y∈A,y.lo=x.lo∧y.lo≤y.hi:=fun y hy=>by
   have z1:y∈x::l:=hp.mem_iff.2 (by simp[hy]);have a1:y.lo≤x.lo:=(zW.1 h2).2.2 y hy x (by simp);have a2:x.lo≤y.lo:=by
    rcases zU.1 z1 with rfl|h
    ·exact yI _
    ·exact(zZ.1 h1).1 y h
   exact⟨by omega,hf y z1⟩
  rw[A9 A acc x B hA (hf x (by simp))];have hb:Vg (A++B):=h2.sublist (List.Sublist.append_left (List.sublist_cons_self x B) A);exact D6 l (A++B) (Wy acc x) z6 (zZ.1 h1).2 hb (fun y hy=>hf y (by simp[hy]))
end Go.Abs
namespace Go.Abs
theorem y07(s:List Iv)(x:Iv):(x0u s x).Perm (x::s):=by unfold x0u;refine wR.trans ?_;rw[xK]
theorem Fu(s:List Iv)(x:Iv):∀j,j≤s.length→(∀k,Oc s x j≤k→k<j→∀h:k<s.length,x.lo<s[k].lo)∧(∀k,k+1=Oc s x j→∀h:k<s.length,s[k].lo≤x.lo)
 |0,_=>⟨fun k _ h=>by omega,fun k h=>by simp[Oc]at h⟩
 |j+1,hj=>by
  obtain⟨a,b⟩:=Fu s x j (by omega);have hg:f1x s j x=decide (x.lo<s[j].lo):=by simp[f1x,show j<s.length by omega]
  rw[Oc,hg];by_cases h:decide (x.lo<s[j].lo)=true
  ·rw[if_pos h];refine⟨fun k h1 h2 h3=> ?_,b⟩;by_cases e:k=j
   ·subst e;simpa using h
   ·exact a k h1 (by omega) h3
  ·rw[if_neg h];refine⟨fun k h1 h2=>by omega,fun k h1 h2=> ?_⟩;have e:k=j:=by omega
   subst e;simp at h;omega
theorem v0p(s:List Iv)(x:Iv)(hs:Vg s):Vg (x0u s x):=by
 obtain⟨a,b⟩:=Fu s x s.length (zI _);have hq:=Di s x s.length;unfold x0u;generalize Oc s x s.length=q at a b hq;have z6:∀i j,i<j→∀hi:i<s.length,∀hj:j<s.length,s[i].lo≤s[j].lo:=fun i j h hi hj=>yA.1 hs i j hi hj h;have z7:∀y∈s.take q,y.lo≤x.lo:=fun y hy=>by
  obtain⟨i,hi,rfl⟩:=yE hy;have za:i<q:=by rw[List.length_take]at hi;omega
  rw[uL];have h1:=b (q - 1) (by omega) (by omega);by_cases e:i=q - 1
  ·subst e;exact h1
  ·have:=z6 i (q - 1) (by omega) (by omega) (by omega);omega
 have z8:∀y∈s.drop q,x.lo≤y.lo:=fun y hy=>by obtain⟨i,hi,rfl⟩:=yE hy;rw[List.length_drop]at hi;rw[List.getElem_drop];have:=a (q+i) (by omega) (by omega) (by omega);omega
 have z1:=hs;unfold Vg at z1 ⊢;rw[←xK q s,zW]at z1;obtain⟨p1,p2,p3⟩:=z1;refine zW.2 ⟨p1,zZ.2 ⟨z8,p2⟩,fun y hy z hz=> ?_⟩;rcases zU.1 hz with rfl|h
 ·exact z7 y hy
 ·exact p3 y hy z h
theorem Ga:∀(l acc:List Iv),Vg acc→(l.foldl x0u acc).Perm (acc++l)∧Vg (l.foldl x0u acc)
 |[],acc,h=>⟨by simp,h⟩
 |x::r,acc,h=>by obtain⟨a,b⟩:=Ga r (x0u acc x) (v0p acc x h);refine⟨a.trans ?_,b⟩;exact((y07 acc x).append_right r).trans wR.symm
theorem P1(l:List Iv):(Oa l).Perm l∧Vg (Oa l):=by have:=Ga l [] .nil;simpa[Oa]using this
end Go.Abs
namespace Go.Abs
def M(l:List Iv)(n:Int):Prop:=∃x∈l,x.lo≤n∧n≤x.hi
def Sep(l:List Iv):Prop:=(∀x∈l,x.lo≤x.hi)∧l.Pairwise (fun x y=>x.hi+2≤y.lo)
theorem Cq(n:Int):M [] n↔False:=by simp[M]
theorem Eb(x:Iv)(l:List Iv)(n:Int):M (x::l) n↔(x.lo≤n∧n≤x.hi)∨M l n:=by simp[M]
theorem Jz(a b:List Iv)(n:Int):M (a++b) n↔M a n∨M b n:=by simp[M,or_and_right,exists_or]
theorem Vf(l:List Iv)(n:Int):Se l n=true↔M l n:=by simp[Se,M]
theorem Sep.tail{x:Iv}{l:List Iv}(h:Sep (x::l)):Sep l:=⟨fun y hy=>h.1 y (by simp[hy]),(zZ.1 h.2).2⟩
theorem Sep.low{x:Iv}{l:List Iv}(h:Sep (x::l)){n:Int}(hm:M l n):x.hi+2≤n:=by obtain⟨y,hy,h1,h2⟩:=hm;have:=(zZ.1 h.2).1 y hy;omega
theorem Sep.lowc{x:Iv}{l:List Iv}(h:Sep (x::l)){n:Int}(hm:M (x::l) n):x.lo≤n:=by
 rcases(Eb ..).1 hm with h1|h1
 ·exact h1.1
 ·have:=h.low h1;have:=h.1 x (by simp);omega
theorem v0i:∀(a b:List Iv),Sep a→Sep b→(∀n,M a n↔M b n)→a=b
 |[],[],_,_,_=>rfl
 |[],y::b,_,hb,h=>by have:=(h y.lo).2 ((Eb ..).2 (.inl ⟨yI _,hb.1 y (by simp)⟩));exact absurd this (by simp[M])
 |x::a,[],ha,_,h=>by have:=(h x.lo).1 ((Eb ..).2 (.inl ⟨yI _,ha.1 x (by simp)⟩));exact absurd this (by simp[M])
 |x::a,y::b,ha,hb,h=>by
  have hx:=ha.1 x (by simp);have hy:=hb.1 y (by simp);have e1:x.lo=y.lo:=by have h1:=hb.lowc ((h x.lo).1 ((Eb ..).2 (.inl ⟨yI _,hx⟩)));have h2:=ha.lowc ((h y.lo).2 ((Eb ..).2 (.inl ⟨yI _,hy⟩)));omega
  have e2:x.hi=y.hi:=by
   rcases uR x.hi y.hi with hlt|heq|hgt
   ·rcases(Eb ..).1 ((h (x.hi+1)).2 ((Eb ..).2 (.inl ⟨by omega,by omega⟩)))with h1|h1
    ·omega
    ·have:=ha.low h1;omega
   ·exact heq
   ·rcases(Eb ..).1 ((h (y.hi+1)).1 ((Eb ..).2 (.inl ⟨by omega,by omega⟩)))with h1|h1
    ·omega
    ·have:=hb.low h1;omega
  have e3:x=y:=by cases x;cases y;simp_all
  subst e3;rw[v0i a b ha.tail hb.tail fun n=>⟨fun hm=> ?_,fun hm=> ?_⟩]
  ·have h1:=ha.low hm;rcases(Eb ..).1 ((h n).1 ((Eb ..).2 (.inr hm)))with h2|h2
   ·omega
   ·exact h2
  ·have h1:=hb.low hm;rcases(Eb ..).1 ((h n).2 ((Eb ..).2 (.inr hm)))with h2|h2
   ·omega
   ·exact h2
theorem Pd{l:List Iv}(h:CanonL l):Sep l:=
 ⟨fun x hx=>(L6 (h.one x hx)).2,yA.2 fun _ _ hi hj z1=>Iz h z1 hj hi⟩
theorem Ku{l:List Iv}(h:CanonL l):∀x∈l,Ge x:=fun x hx=>(L6 (h.one x hx)).1
theorem w1s{l:List Iv}(h:CanonL l){n:Int}(hm:M l n): -1099511627776≤n∧n≤1099511627776:=by obtain⟨x,hx,h1,h2⟩:=hm;have h3:=Ku h x hx;have h4:=(Eu _).1 h3.1;have h5:=(Eu _).1 h3.2;omega
theorem Zv{l:List Iv}(h:Sep l)(hi:∀x∈l,Ge x)(hl:l.length≤256):CanonL l:=
 ⟨hl,fun y hy=>by
  have h1:=hi y hy;have h2:=h.1 y hy;have h4:=h1.1;have h5:=h1.2;simp[P7,h4,h5];omega,fun j hj=>yA.1 h.2 j (j+1) (by omega) hj (by omega)⟩
theorem g0x(acc:List Iv)(x:Iv)(ha:Sep acc)(hx:x.lo≤x.hi)(hle:∀y∈acc,y.lo≤x.lo):
  Sep (Wy acc x)∧(∀n,M (Wy acc x) n↔M acc n∨(x.lo≤n∧n≤x.hi))∧(∀z,x.lo≤z→∀y∈Wy acc x,y.lo≤z):=by
 rcases wD acc with rfl|⟨ini,y,rfl⟩
 ·have e:Wy [] x=[x]:=rfl;rw[e];exact⟨⟨fun y hy=>by simp at hy;subst hy;exact hx,by simp⟩,fun n=>by simp[M],fun z hz y hy=>by simp at hy;subst hy;exact hz⟩
 ·rw[wG]at ha hle ⊢;rw[El];have hy:=ha.1 y (by simp);have z1:=hle y (by simp);obtain⟨p1,p2,p3⟩:=zW.1 ha.2;split
  ·rename_i hj;refine⟨⟨fun z hz=> ?_,zW.2 ⟨p1,by simp,fun u hu v hv=> ?_⟩⟩,fun n=> ?_,fun z hz u hu=> ?_⟩
   ·rcases zN.1 hz with h|h
    ·exact ha.1 z (by simp[h])
    ·simp at h;subst h;simp only;split<;>omega
   ·simp at hv;subst hv;exact p3 u hu y (by simp)
   ·rw[Jz,Jz,Eb,Eb,Cq];simp only[or_false];by_cases hm:M ini n
    ·simp[hm]
    ·simp only[hm,false_or];split<;>omega
   ·rcases zN.1 hu with h|h
    ·have:=hle u (by simp[h]);omega
    ·simp at h;subst h;simp only;omega
  ·rename_i hj;refine⟨⟨fun z hz=> ?_,zW.2 ⟨ha.2,by simp,fun u hu v hv=> ?_⟩⟩,fun n=>by rw[Jz,Eb,Cq];simp,fun z hz u hu=> ?_⟩
   ·rcases zN.1 hz with h|h
    ·exact ha.1 z h
    ·simp at h;subst h;exact hx
   ·simp at hv;subst hv;rcases zN.1 hu with h|h
    ·have:=p3 u h y (by simp);omega
    ·simp at h;subst h;omega
   ·rcases zN.1 hu with h|h
    ·have:=hle u h;omega
    ·simp at h;subst h;exact hz
theorem Ap:∀(l acc:List Iv),Sep acc→Vg l→(∀x∈l,x.lo≤x.hi)→(∀y∈acc,∀x∈l,y.lo≤x.lo)→
  Sep (Q0 acc l)∧∀n,M (Q0 acc l) n↔M acc n∨M l n
 |[],acc,ha,_,_,_=>⟨ha,fun n=>by simp[Q0,M]⟩
 |x::l,acc,ha,hb,hf,hle=>by have hp:=g0x acc x ha (hf x (by simp)) (fun y hy=>hle y hy x (by simp));have ih:=Ap l (Wy acc x) hp.1 (zZ.1 hb).2 (fun y hy=>hf y (by simp[hy])) (fun y hy z hz=>hp.2.2 z.lo ((zZ.1 hb).1 z hz) y hy);refine⟨ih.1,fun n=> ?_⟩;have e:Q0 acc (x::l)=Q0 (Wy acc x) l:=rfl;rw[e,ih.2 n,hp.2.1 n,Eb,or_assoc]
theorem Vt:Sep []:=⟨by simp,by simp⟩
theorem v1t{a b:List Iv}(h:a.Perm b)(n:Int):M a n↔M b n:=by simp only[M];exact⟨fun⟨x,hx,h1⟩=>⟨x,h.mem_iff.1 hx,h1⟩,fun⟨x,hx,h1⟩=>⟨x,h.mem_iff.2 hx,h1⟩⟩
theorem Y2(l:List Iv)(hf:∀x∈l,x.lo≤x.hi):Sep (Rm l)∧∀n,M (Rm l) n↔M l n:=by have hs:=P1 l;have h:=Ap (Oa l) [] Vt hs.2 (fun x hx=>hf x (hs.1.mem_iff.1 hx)) (by simp);refine⟨h.1,fun n=> ?_⟩;rw[Rm,h.2 n,Cq,false_or,v1t hs.1]
def pieces(f:Int→Bool):List Int→List Iv
 |c::d::r=>(if f c=true then [⟨c,d - 1⟩]else [])++pieces f (d::r)
 |_=>[]
end Go.Abs
namespace Go.Abs
open Go Go.Proofs
attribute [local irreducible] j1u q0j Nn
def f1k(x y:Bool):Bool:=x || y
def g1v(x y:Bool):Bool:=x && y
def d1m(a b:List Iv):Bool×Int:=if q0j a b=0 then(decide (Nn y11 a b=[]),0)else(false,q0j a b)
end Go.Abs
namespace Go.Abs
open Go Go.Proofs
def Yh:List Iv→Int→List Iv
 |[],n=>if n≤1099511627776 then [⟨n,1099511627776⟩]else []
 |x::r,n=>(if n<x.lo then [⟨n,x.lo - 1⟩]else [])++Yh r (x.hi+1)
def Yv(l:List Iv):List Iv:=Yh l (-1099511627776)
end Go.Abs
namespace Go.Abs
open Go
theorem k0m:∀(l:List Iv) (z:Int),z∈Cz l↔∃x∈l,z=x.lo∨z=x.hi+1
 |[],z=>by simp[Cz]
 |y::r,z=>by rw[Cz,zU,zU,k0m r z];simp[or_assoc]
theorem Lt(zs:List Int)(hs:zs.Pairwise (·≤·)):∀m,m≤zs.length→
  (Lib.compactUpTo zs.toArray m).Pairwise (·<·)∧(∀z,z∈Lib.compactUpTo zs.toArray m↔z∈zs.take m):=by
 intro m;induction m with
 |zero=>exact fun _=>⟨by simp[Lib.compactUpTo],by simp[Lib.compactUpTo]⟩
 |succ m ih=>
  intro hm;obtain⟨h1,h2⟩:=ih (by omega);have z1:m<zs.length:=by omega
  have hg:zs.toArray[m]! =zs[m]:=by simp[z1]
  rw[Lib.compactUpTo_succ];have ht:zs.take (m+1)=zs.take m++[zs[m]]:=by rw[List.take_succ_eq_append_getElem z1]
  by_cases hk:Lib.keeps zs.toArray m=true
  ·rw[if_pos hk,hg,ht];refine⟨zW.2 ⟨h1,by simp,fun u hu v hv=> ?_⟩,fun z=>by rw[zN,zN,h2]⟩;simp at hv;subst hv;obtain⟨i,hi,rfl⟩:=yE ((h2 u).1 hu);have za:i<m:=by simp at hi;omega
   rw[uL];have zb:zs[m]≠zs[m - 1]:=by
    simp[Lib.keeps]at hk;have z6:m≠0:=by omega
    have hk:=hk.resolve_left z6;simpa[z1,show m - 1<zs.length by omega]using hk
   have a1:zs[i]≤zs[m - 1]:=by
    rcases Nat.lt_or_ge i (m - 1)with h|h
    ·exact yA.1 hs i (m - 1) (by omega) (by omega) h
    ·have:i=m - 1:=by omega
     subst this;exact yI _
   have a2:zs[m - 1]≤zs[m]:=yA.1 hs (m - 1) m (by omega) (by omega) (by omega);omega
  ·rw[if_neg hk,List.append_nil,ht];refine⟨h1,fun z=> ?_⟩;rw[h2,zN];refine⟨.inl,fun h=>h.elim id fun h=> ?_⟩;simp at h;subst h;simp only[Lib.keeps,decide_eq_true_eq,not_or]at hk;have z7:m - 1<zs.length:=by omega
   have z8:zs[m]=zs[m - 1]:=by simpa[z1,z7]using hk.2
   rw[z8];exact List.mem_take_iff_getElem.2 ⟨m - 1,by omega,rfl⟩
theorem x0o(l:List Iv):(x0j l).Pairwise (·<·)∧∀z,z∈x0j l↔∃x∈l,z=x.lo∨z=x.hi+1:=by
 have hs:(Rk (Cz l)).Pairwise (·≤·):=by have:=vI (le:=fun x y:Int=>decide (x≤y)) (fun a b c h1 h2=>by simp at h1 h2 ⊢;omega) (fun a b=>by simp;omega) (Cz l);simpa[Rk]using this
 have h:=Lt _ hs _ (zI _);refine⟨h.1,fun z=> ?_⟩;have h2:=h.2 z;rw[yF]at h2;rw[x0j,Lib.compact,h2,Rk,uJ,k0m]
theorem z00(l:List Iv)(cs:List Int)(h:∀x∈l,x.lo∈cs∧x.hi+1∈cs)(c n:Int)(hc:c≤n)(hm:∀d∈cs,d≤n→d≤c):Se l n=Se l c:=by
 rw[xE,Vf,Vf];constructor
 ·rintro⟨x,hx,h1,h2⟩;have:=hm _ (h x hx).1 h1;exact⟨x,hx,this,by omega⟩
 ·rintro⟨x,hx,h1,h2⟩;refine⟨x,hx,by omega,?_⟩;by_cases hn:x.hi+1≤n
  ·have:=hm _ (h x hx).2 hn;omega
  ·omega
theorem y0d{l:List Iv}(h:Sep l)(hb:∀n,M l n→ -1099511627776≤n∧n≤1099511627776):∀x∈l,Ge x:=fun x hx=>
 ⟨(Eu _).2 (hb _ ⟨x,hx,yI _,h.1 x hx⟩),(Eu _).2 (hb _ ⟨x,hx,h.1 x hx,yI _⟩)⟩
theorem Uv:∀(l:List Iv) (s:Int),(∀x∈l,x.lo≤x.hi∧x.hi≤1099511627776)→l.Pairwise (fun x y=>x.hi+2≤y.lo)→(∀x∈l,s≤x.lo)→
  Sep (Yh l s)∧(∀n,M (Yh l s) n↔s≤n∧n≤1099511627776∧¬M l n)∧(Yh l s).length≤l.length+1
 |[],s,_,_,_=>by
  rw[Yh];split
  ·exact⟨⟨fun x hx=>by simp at hx;subst hx;assumption,by simp⟩,fun n=>by rw[Eb,Cq];simp[Cq],by simp⟩
  ·exact⟨Vt,fun n=>by simp[Cq];omega,by simp⟩
 |x::l,s,hf,hp,hs=>by
  have hx:=hf x (by simp);have z7:=hs x (by simp);have z1:=(zZ.1 hp).1;obtain⟨i1,i2,i3⟩:=Uv l (x.hi+1) (fun y hy=>hf y (by simp[hy])) (zZ.1 hp).2 (fun y hy=>by have:=z1 y hy;omega);have z6:∀n,M l n→x.hi+2≤n:=by rintro n ⟨y,hy,h1,h2⟩;have:=z1 y hy;omega
  rw[Yh];split
  ·refine⟨⟨fun y hy=> ?_,?_⟩,fun n=> ?_,by simp;omega⟩
   ·rcases zN.1 hy with h|h
    ·simp at h;subst h;simp only;omega
    ·exact i1.1 y h
   ·refine zW.2 ⟨by simp,i1.2,fun u hu v hv=> ?_⟩;simp at hu;subst hu;have:=(i2 v.lo).1 ⟨v,hv,yI _,i1.1 v hv⟩;simp only;omega
   ·rw[Jz,i2,Eb,Cq,Eb];by_cases hm:M l n
    ·have:=z6 n hm;simp[hm];omega
    ·simp only[hm,not_false_eq_true,and_true,or_false];omega
  ·refine⟨⟨fun y hy=>i1.1 y (by simpa using hy),by simpa using i1.2⟩,fun n=> ?_,by simp;omega⟩;rw[List.nil_append,i2,Eb];by_cases hm:M l n
   ·simp[hm]
   ·simp only[hm,not_false_eq_true,and_true,or_false];omega
theorem U3{l:List Iv}(h:CanonL l):Sep (Yv l)∧(∀n,M (Yv l) n↔(-1099511627776≤n∧n≤1099511627776)∧¬M l n)∧(Yv l).length≤l.length+1:=by have hs:=Pd h;have hi:=Ku h;have:=Uv l (-1099511627776) (fun x hx=>⟨hs.1 x hx,((Eu _).1 (hi x hx).2).2⟩) hs.2 (fun x hx=>((Eu _).1 (hi x hx).1).1);exact⟨this.1,fun n=>by rw[Yv,this.2.1,and_assoc],this.2.2⟩
def w0a(x y:Iv):Option Iv:=if(if x.lo<y.lo then y.lo else x.lo)≤(if y.hi<x.hi then y.hi else x.hi)then some ⟨if x.lo<y.lo then y.lo else x.lo,if y.hi<x.hi then y.hi else x.hi⟩else none
def Ls(a b:List Iv):List Iv:=a.flatMap fun x=>b.filterMap (w0a x)
theorem Zt{x y z:Iv}(h:w0a x y=some z):z.lo≤z.hi∧∀n,(z.lo≤n∧n≤z.hi)↔(x.lo≤n∧n≤x.hi)∧(y.lo≤n∧n≤y.hi):=by
 unfold w0a at h;by_cases hle:(if x.lo<y.lo then y.lo else x.lo)≤(if y.hi<x.hi then y.hi else x.hi)
 ·rw[if_pos hle]at h;cases h;refine⟨hle,fun n=> ?_⟩;simp only;split<;>split<;>omega
 ·rw[if_neg hle]at h;cases h
theorem v16{x y:Iv}{n:Int}(h1:x.lo≤n∧n≤x.hi)(h2:y.lo≤n∧n≤y.hi):∃z,w0a x y=some z∧z.lo≤n∧n≤z.hi:=by
 unfold w0a;have:(if x.lo<y.lo then y.lo else x.lo)≤(if y.hi<x.hi then y.hi else x.hi):=by split<;>split<;>omega
 rw[if_pos this];refine⟨_,rfl,?_,?_⟩<;>simp only<;>split<;>omega
theorem G3(a b:List Iv):(∀x∈Ls a b,x.lo≤x.hi)∧∀n,M (Ls a b) n↔M a n∧M b n:=by
 constructor
 ·intro z hz;obtain⟨x,_,hz⟩:=xD.1 hz;obtain⟨y,_,h⟩:=ww.1 hz;exact(Zt h).1
 ·intro n;constructor
  ·rintro⟨z,hz,h1⟩;obtain⟨x,hx,hz⟩:=xD.1 hz;obtain⟨y,hy,h⟩:=ww.1 hz;have:=((Zt h).2 n).1 h1;exact⟨⟨x,hx,this.1⟩,⟨y,hy,this.2⟩⟩
  ·rintro⟨⟨x,hx,h1⟩,⟨y,hy,h2⟩⟩;obtain⟨z,hz,h3⟩:=v16 h1 h2;exact⟨z,xD.2 ⟨x,hx,ww.2 ⟨y,hy,hz⟩⟩,h3⟩
def D8(a b:List Iv):List Iv:=Rm (Ls a b)
theorem It(a b:List Iv):Sep (D8 a b)∧∀n,M (D8 a b) n↔M a n∧M b n:=by have h:=Y2 (Ls a b) (G3 a b).1;exact⟨h.1,fun n=>by rw[D8,h.2,(G3 a b).2]⟩
end Go.Abs
namespace Go.Abs
open Go
def b2(b:Bool):Int:=if b=true then 1 else 0
def cnt(p:Int→Bool)(A:Int):Nat→Int
 |0=>0
 |n+1=>cnt p A n+b2 (p (A+n))
def inI(lo hi k:Int):Bool:=decide (lo≤k) && decide (k≤hi)
end Go.Abs
namespace Go.Abs
open Go
end Go.Abs
namespace Go.Abs
open Go
end Go.Abs
namespace Go.Abs
open Go
def w2r(x y:Iv):Bool:=decide (y.lo<x.lo) && decide (x.lo≤y.hi)
def w2v(x y:Iv):Bool:=decide (x.lo≤y.lo) && decide (y.lo≤x.hi)
end Go.Abs
namespace Go.Abs
abbrev Prd:=List (List Iv)
def PM(p:Prd)(t:Nat)(n:Int):Prop:=∃s,p[t]? =some s∧M s n
def inR(n:Int):Prop:= -1099511627776≤n∧n≤1099511627776
def PWf(T:Nat)(p:Prd):Prop:=p.length=T∧∀s∈p,Sep s∧∀n,M s n→inR n
theorem PWf.lt{T:Nat}{p:Prd}(h:PWf T p){t:Nat}{n:Int}(hm:PM p t n):t<T∧inR n:=by obtain⟨s,hs,hn⟩:=hm;exact⟨by rw[←h.1];exact(zA.1 hs).1,(h.2 s (zC hs)).2 n hn⟩
theorem Db{T:Nat}{p q:Prd}(hp:PWf T p)(hq:PWf T q)(h:∀t n,PM p t n↔PM q t n):p=q:=by apply List.ext_getElem (by rw[hp.1,hq.1]);intro i h1 h2;refine v0i _ _ (hp.2 _ (zH h1)).1 (hq.2 _ (zH h2)).1 fun n=> ?_;have:=h i n;unfold PM at this;rw[zF h1,zF h2]at this;simpa using this
def Pz(t:Nat)(n:Int)(t':Nat)(n':Int):Prop:=t<t'∨t=t'∧n<n'
theorem Pz.irr{t:Nat}{n:Int}(h:Pz t n t n):False:=by unfold Pz at h;omega
theorem Pz.trans{a b c:Nat}{x y z:Int}(h:Pz a x b y)(k:Pz b y c z):Pz a x c z:=by unfold Pz at *;omega
def j11(l:List Prd)(t:Nat)(n:Int)(t':Nat)(n':Int):Prop:=∀p∈l,PM p t n↔PM p t' n'
structure Prts (T:Nat) (l L:List Prd):Prop where
 wf:∀p∈L,PWf T p
 ne:∀p∈L,∃t n,PM p t n
 all:∀t n,t<T→inR n→∃p∈L,PM p t n
 cls:∀p∈L,∀t n,PM p t n→∀t' n',PM p t' n'↔t'<T∧inR n'∧j11 l t n t' n'
def q09(p q:Prd):Prop:=∃t n,PM p t n∧∀t' n',PM q t' n'→Pz t n t' n'
theorem q09.irr{p:Prd}(h:q09 p p):False:=by obtain⟨t,n,h1,h2⟩:=h;exact(h2 t n h1).irr
theorem q09.asymm{p q:Prd}(h:q09 p q)(k:q09 q p):False:=by obtain⟨t,n,h1,h2⟩:=h;obtain⟨t',n',k1,k2⟩:=k;exact((h2 t' n' k1).trans (k2 t n h1)).irr
theorem Prts.same{T:Nat}{l L L':List Prd}(h:Prts T l L)(h':Prts T l L'){p:Prd}(hp:p∈L):p∈L':=by
 obtain⟨t,n,hm⟩:=h.ne p hp;obtain⟨ht,hn⟩:=(h.wf p hp).lt hm;obtain⟨q,hq,z1⟩:=h'.all t n ht hn;have:p=q:=Db (h.wf p hp) (h'.wf q hq) fun t' n'=>by rw[h.cls p hp t n hm,h'.cls q hq t n z1]
 rw[this];exact hq
theorem Prts.unique{T:Nat}{l L L':List Prd}(h:Prts T l L)(h':Prts T l L')(s:L.Pairwise q09)(s':L'.Pairwise q09):L=L':=by have z1:∀ {X:List Prd},X.Pairwise q09→X.Nodup:=fun hx=>hx.imp (fun h e=>by subst e;exact h.irr);refine List.Perm.eq_of_pairwise (le:=q09) (fun a b _ _ h1 h2=>(h1.asymm h2).elim) s s' ?_;exact(uf (z1 s) (z1 s')).2 fun p=>⟨h.same h',h'.same h⟩
theorem Prts.disj{T:Nat}{l L:List Prd}(h:Prts T l L){p q:Prd}(hp:p∈L)(hq:q∈L){t:Nat}{n:Int}(h1:PM p t n)(h2:PM q t n):p=q:=
 Db (h.wf p hp) (h.wf q hq) fun t' n'=>by rw[h.cls p hp t n h1,h.cls q hq t n h2]
theorem Prts.perm{T:Nat}{l L L':List Prd}(h:Prts T l L)(e:L.Perm L'):Prts T l L':=
 ⟨fun p hp=>h.wf p (e.mem_iff.2 hp),fun p hp=>h.ne p (e.mem_iff.2 hp),fun t n a b=>by obtain⟨p,hp,hm⟩:=h.all t n a b;exact⟨p,e.mem_iff.1 hp,hm⟩,fun p hp=>h.cls p (e.mem_iff.2 hp)⟩
def Wg(T:Nat):Prd:=zT T (Yv [])
def Ez(c p:Prd):Prd:=tc D8 c p
def Ry(p:Prd):Prd:=p.map Yv
def W2(p:Prd):Bool:=p.all (·.isEmpty)
def Tn(p:Prd)(L:List Prd):List Prd:=L.flatMap fun c=>(if W2 (Ez c p)then []else [Ez c p])++(if W2 (Ez c (Ry p))then []else [Ez c (Ry p)])
def Y3(T:Nat)(l:List Prd):List Prd:=l.foldl (fun L p=>Tn p L) [Wg T]
def PCk(T:Nat)(p:Prd):Prop:=p.length=T∧∀s∈p,CanonL s
theorem PCk.wf{T:Nat}{p:Prd}(h:PCk T p):PWf T p:=⟨h.1,fun s hs=>⟨Pd (h.2 s hs),fun n hn=>w1s (h.2 s hs) hn⟩⟩
theorem Pf:CanonL []:=⟨by simp,by simp,fun j h=>by simp at h⟩
theorem Sv(T t:Nat)(n:Int):PM (Wg T) t n↔t<T∧inR n:=by
 unfold PM Wg;have hg:=(U3 Pf).2.1 n;constructor
 ·rintro⟨s,hs,hm⟩;rw[wT]at hs;split at hs
  ·cases hs;exact⟨by assumption,(hg.1 hm).1⟩
  ·cases hs
 ·rintro⟨h1,h2⟩;exact⟨Yv [],by rw[wT,if_pos h1],hg.2 ⟨h2,by simp[M]⟩⟩
theorem Mb(T:Nat):PWf T (Wg T):=⟨by simp[Wg],fun s hs=>by
 obtain rfl:=wL hs;exact⟨(U3 Pf).1,fun n hn=>(((U3 Pf).2.1 n).1 hn).1⟩⟩
theorem E8{T:Nat}{c p:Prd}(hc:c.length=T)(hp:p.length=T)(t:Nat)(n:Int):PM (Ez c p) t n↔PM c t n∧PM p t n:=by
 unfold PM Ez;constructor
 ·rintro⟨s,hs,hm⟩;rw[wA]at hs;cases h1:c[t]? with
  |none=>rw[h1]at hs;simp at hs
  |some a=>
   cases h2:p[t]? with
   |none=>rw[h1,h2]at hs;simp at hs
   |some b=>rw[h1,h2]at hs;simp at hs;subst hs;have:=((It a b).2 n).1 hm;exact⟨⟨a,rfl,this.1⟩,⟨b,rfl,this.2⟩⟩
 ·rintro⟨⟨a,h1,m1⟩,⟨b,h2,m2⟩⟩;exact⟨D8 a b,by rw[wA,h1,h2],((It a b).2 n).2 ⟨m1,m2⟩⟩
theorem Y7{T:Nat}{c p:Prd}(hc:PWf T c)(hp:p.length=T):PWf T (Ez c p):=by
 refine⟨by simp[Ez,hc.1,hp],fun s hs=> ?_⟩;obtain⟨i,hi⟩:=yB.1 hs;unfold Ez at hi;rw[wA]at hi;cases h1:c[i]? with
 |none=>rw[h1]at hi;simp at hi
 |some a=>
  cases h2:p[i]? with
  |none=>rw[h1,h2]at hi;simp at hi
  |some b=>rw[h1,h2]at hi;simp at hi;subst hi;exact⟨(It a b).1,fun n hn=>(hc.2 a (zC h1)).2 n (((It a b).2 n).1 hn).1⟩
theorem Kj{T:Nat}{p:Prd}(hp:PCk T p)(t:Nat)(n:Int):PM (Ry p) t n↔(t<T∧inR n)∧¬PM p t n:=by
 unfold PM Ry;rw[zP];constructor
 ·rintro⟨s,hs,hm⟩;obtain⟨a,ha,rfl⟩:=zJ.1 hs;have hg:=((U3 (hp.2 a (zC ha))).2.1 n).1 hm;refine⟨⟨by rw[←hp.1];exact(zA.1 ha).1,hg.1⟩,?_⟩;rintro⟨b,hb,z1⟩;rw[ha]at hb;cases hb;exact hg.2 z1
 ·rintro⟨⟨h1,h2⟩,h3⟩;have hl:t<p.length:=by rw[hp.1];exact h1
  refine⟨Yv p[t],by rw[zF hl];rfl,((U3 (hp.2 _ (zH hl))).2.1 n).2 ⟨h2,fun hm=>h3 ⟨_,zF hl,hm⟩⟩⟩
theorem Rb{T:Nat}{p:Prd}(h:PWf T p):W2 p=true↔∀t n,¬PM p t n:=by
 unfold W2;rw[zM];constructor
 ·rintro hv t n ⟨s,hs,hm⟩;have:=hv s (zC hs);rw[List.isEmpty_iff]at this;subst this;simp[M]at hm
 ·intro hv s hs;obtain⟨i,hi⟩:=yB.1 hs;cases s with
  |nil=>rfl
  |cons x s=>exact absurd ⟨_,hi,(Eb ..).2 (.inl ⟨yI _,(h.2 _ hs).1.1 x (by simp)⟩)⟩ (hv i x.lo)
theorem Gy{T:Nat}{l L:List Prd}{p:Prd}(h:Prts T l L)(hp:PCk T p):Prts T (l++[p]) (Tn p L):=by
 have z6:(Ry p).length=T:=by simp[Ry,hp.1]
 have z1:∀q,q∈Tn p L↔∃c∈L,((q=Ez c p)∨(q=Ez c (Ry p)))∧W2 q=false:=by
  intro q;unfold Tn;rw[xD];constructor
  ·rintro⟨c,hc,hq⟩;refine⟨c,hc,?_⟩;rcases zN.1 hq with hq|hq
   ·split at hq
    ·cases hq
    ·rename_i hv;obtain rfl:=zK.1 hq;exact⟨.inl rfl,by simpa using hv⟩
   ·split at hq
    ·cases hq
    ·rename_i hv;obtain rfl:=zK.1 hq;exact⟨.inr rfl,by simpa using hv⟩
  ·rintro⟨c,hc,hq,hv⟩;refine⟨c,hc,zN.2 ?_⟩;rcases hq with rfl|rfl
   ·left;rw[if_neg (by rw[hv];decide)];simp
   ·right;rw[if_neg (by rw[hv];decide)];simp
 have z7:∀q∈Tn p L,PWf T q:=fun q hq=>by
  obtain⟨c,hc,rfl|rfl,_⟩:=(z1 q).1 hq
  ·exact Y7 (h.wf c hc) hp.1
  ·exact Y7 (h.wf c hc) z6
 have zb:∀q∈Tn p L,∃t n,PM q t n:=fun q hq=>by
  obtain⟨c,hc,_,hv⟩:=(z1 q).1 hq;by_cases hx:∃t n,PM q t n
  ·exact hx
  ·exfalso;have:W2 q=true:=(Rb (z7 q hq)).2 fun t n hm=>hx ⟨t,n,hm⟩;rw[this]at hv;cases hv
 refine⟨z7,zb,fun t n ht hn=> ?_,fun q hq t n hm t' n'=> ?_⟩
 ·obtain⟨c,hc,z8⟩:=h.all t n ht hn;have hv:∀q,(q=Ez c p∨q=Ez c (Ry p))→PM q t n→q∈Tn p L:=fun q hq hm=>(z1 q).2 ⟨c,hc,hq,by
   have hw:PWf T q:=by
    rcases hq with rfl|rfl
    ·exact Y7 (h.wf c hc) hp.1
    ·exact Y7 (h.wf c hc) z6
   cases hvq:W2 q with
   |false=>rfl
   |true=>exact absurd hm ((Rb hw).1 hvq t n)⟩
  by_cases za:PM p t n
  ·have:=(E8 (h.wf c hc).1 hp.1 t n).2 ⟨z8,za⟩;exact⟨_,hv _ (.inl rfl) this,this⟩
  ·have:=(E8 (h.wf c hc).1 z6 t n).2 ⟨z8,(Kj hp t n).2 ⟨⟨ht,hn⟩,za⟩⟩;exact⟨_,hv _ (.inr rfl) this,this⟩
 ·obtain⟨c,hc,zc,_⟩:=(z1 q).1 hq;have zd:j11 (l++[p]) t n t' n'↔j11 l t n t' n'∧(PM p t n↔PM p t' n'):=by
   constructor
   ·exact fun hs=>⟨fun r hr=>hs r (by simp[hr]),hs p (by simp)⟩
   ·rintro⟨h1,h2⟩ r hr;rcases zN.1 hr with hr|hr
    ·exact h1 r hr
    ·obtain rfl:=zK.1 hr;exact h2
  rw[zd];rcases zc with rfl|rfl
  ·obtain⟨m1,m2⟩:=(E8 (h.wf c hc).1 hp.1 t n).1 hm;rw[E8 (h.wf c hc).1 hp.1,h.cls c hc t n m1];constructor
   ·rintro⟨⟨h1,h2,h3⟩,h4⟩;exact⟨h1,h2,h3,fun _=>h4,fun _=>m2⟩
   ·rintro⟨h1,h2,h3,h4⟩;exact⟨⟨h1,h2,h3⟩,h4.1 m2⟩
  ·obtain⟨m1,m2⟩:=(E8 (h.wf c hc).1 z6 t n).1 hm;have m3:=((Kj hp t n).1 m2).2;rw[E8 (h.wf c hc).1 z6,h.cls c hc t n m1,Kj hp];constructor
   ·rintro⟨⟨h1,h2,h3⟩,h4⟩;exact⟨h1,h2,h3,fun h=>absurd h m3,fun h=>absurd h h4.2⟩
   ·rintro⟨h1,h2,h3,h4⟩;exact⟨⟨h1,h2,h3⟩,⟨h1,h2⟩,fun h=>m3 (h4.2 h)⟩
theorem Hl(T:Nat)(hT:0<T):Prts T [] [Wg T]:=by
 refine⟨fun p hp=> ?_,fun p hp=> ?_,fun t n ht hn=> ?_,fun p hp t n hm t' n'=> ?_⟩
 ·obtain rfl:=zK.1 hp;exact Mb T
 ·obtain rfl:=zK.1 hp;exact⟨0,0,(Sv T 0 0).2 ⟨hT,by unfold inR;omega⟩⟩
 ·exact⟨_,List.mem_singleton_self _,(Sv T t n).2 ⟨ht,hn⟩⟩
 ·obtain rfl:=zK.1 hp;rw[Sv];exact⟨fun h=>⟨h.1,h.2,fun r hr=>by cases hr⟩,fun h=>⟨h.1,h.2.1⟩⟩
theorem Zi{T:Nat}(hT:0<T){l:List Prd}(hl:∀p∈l,PCk T p):Prts T l (Y3 T l):=by
 have key:∀(r d L:List Prd),Prts T d L→(∀p∈r,PCk T p)→Prts T (d++r) (r.foldl (fun L p=>Tn p L) L):=by
  intro r;induction r with
  |nil=>intro d L h _;simpa using h
  |cons p r ih=>intro d L h hr;rw[xH];have:=ih (d++[p]) (Tn p L) (Gy h (hr p (by simp))) (fun q hq=>hr q (by simp[hq]));simpa using this
 have:=key l [] [Wg T] (Hl T hT) hl;simpa[Y3]using this
end Go.Abs
namespace Go.Abs
def Qz:Prd→Nat→Nat×Int
 |[],_=>(0,0)
 |(x::_)::_,i=>(i,x.lo)
 |[]::p,i=>Qz p (i+1)
def d03(a b:Nat×Int):Bool:=decide (a.1<b.1) || (decide (a.1=b.1) && decide (a.2<b.2))
theorem Vc(a b:Nat×Int):d03 a b=true↔Pz a.1 a.2 b.1 b.2:=by simp[d03,Pz]
theorem X7:∀(p:Prd) (i:Nat),(∀s∈p,Sep s)→(∃s∈p,s≠[])→∃t x r,p[t]? =some (x::r)∧Qz p i=(i+t,x.lo)∧∀j,j<t→p[j]? =some []
 |[],_,_,⟨s,hs,_⟩=>by cases hs
 |(x::r)::p,i,_,_=>⟨0,x,r,rfl,rfl,fun j hj=>by omega⟩
 |[]::p,i,h,⟨s,hs,hn⟩=>by
  have z1:s∈p:=by
   rcases zU.1 hs with rfl|hs
   ·exact absurd rfl hn
   ·exact hs
  obtain⟨t,x,r,h1,h2,h3⟩:=X7 p (i+1) (fun s hs=>h s (by simp[hs])) ⟨s,z1,hn⟩;refine⟨t+1,x,r,by simpa using h1,by rw[Qz,h2];congr 1;omega,fun j hj=> ?_⟩;cases j with
  |zero=>rfl
  |succ j=>simpa using h3 j (by omega)
theorem W5{T:Nat}{p:Prd}(h:PWf T p)(hn:∃t n,PM p t n):PM p (Qz p 0).1 (Qz p 0).2∧∀t n,PM p t n→((Qz p 0).1=t∧(Qz p 0).2=n)∨Pz (Qz p 0).1 (Qz p 0).2 t n:=by
 obtain⟨t0,n0,s0,z1,m0⟩:=hn;have z6:s0≠[]:=fun e=>by subst e;simp[M]at m0
 obtain⟨t,x,r,h1,h2,h3⟩:=X7 p 0 (fun s hs=>(h.2 s hs).1) ⟨s0,zC z1,z6⟩;rw[Nat.zero_add]at h2;rw[h2];have hx:=(h.2 _ (zC h1)).1;refine⟨⟨_,h1,(Eb ..).2 (.inl ⟨yI _,hx.1 x (by simp)⟩)⟩,fun t' n' hm=> ?_⟩;obtain⟨s,hs,hm⟩:=hm;simp only;rcases vP t' t with hlt|rfl|hgt
 ·rw[h3 t' hlt]at hs;cases hs;simp[M]at hm
 ·rw[h1]at hs;cases hs;have:=hx.lowc hm;unfold Pz;omega
 ·exact .inr (.inl hgt)
theorem Jo{T:Nat}{p q:Prd}(hp:PWf T p)(z1:∃t n,PM p t n)(hq:PWf T q)(z6:∃t n,PM q t n)(h:Pz (Qz p 0).1 (Qz p 0).2 (Qz q 0).1 (Qz q 0).2):q09 p q:=
 ⟨_,_,(W5 hp z1).1,fun t n hm=>by
  rcases(W5 hq z6).2 t n hm with⟨e1,e2⟩|h2
  ·rw[←e1,←e2];exact h
  ·exact h.trans h2⟩
def j0y(s:List Prd)(x:Prd):Nat→Nat
 |0=>0
 |j+1=>match s[j]? with
  |some y=>if d03 (Qz x 0) (Qz y 0)=true then j0y s x j else j+1
  |none=>j+1
def y0a(s:List Prd)(x:Prd):List Prd:=s.take (j0y s x s.length)++x::s.drop (j0y s x s.length)
def f07(L:List Prd):List Prd:=L.foldl y0a []
theorem Zc(s:List Prd)(x:Prd):∀j,j≤s.length→j0y s x j≤j∧(∀i,j0y s x j≤i→i<j→∀h:i<s.length,d03 (Qz x 0) (Qz s[i] 0)=true)∧(∀i,i+1=j0y s x j→∀h:i<s.length,d03 (Qz x 0) (Qz s[i] 0)=false)
 |0,_=>⟨zI _,fun i _ h=>by omega,fun i h=>by simp[j0y]at h⟩
 |j+1,hj=>by
  have z1:j<s.length:=by omega
  rw[j0y,zF z1];simp only;by_cases hb:d03 (Qz x 0) (Qz s[j] 0)=true
  ·rw[if_pos hb];obtain⟨h1,h2,h3⟩:=Zc s x j (by omega);refine⟨by omega,fun i hi z6 hl=> ?_,h3⟩;by_cases hij:i=j
   ·subst hij;exact hb
   ·exact h2 i hi (by omega) hl
  ·rw[if_neg hb];refine⟨zI _,fun i hi z6=>by omega,fun i hi hl=> ?_⟩;have:i=j:=by omega
   subst this;simpa using hb
theorem y0g(s:List Prd)(x:Prd):(y0a s x).Perm (x::s):=by unfold y0a;refine wR.trans ?_;rw[xK]
def J5(p q:Prd):Prop:=Pz (Qz p 0).1 (Qz p 0).2 (Qz q 0).1 (Qz q 0).2
theorem Ck{s:List Prd}{x:Prd}(hs:s.Pairwise J5)(hd:∀y∈s,Qz y 0≠Qz x 0):(y0a s x).Pairwise J5:=by
 obtain⟨h1,h2,h3⟩:=Zc s x s.length (zI _);unfold y0a;generalize j0y s x s.length=k at *
 have z1:=hs;rw[←xK k s]at z1;obtain⟨p1,p2,p3⟩:=zW.1 z1;have z7:∀y∈s.drop k,J5 x y:=fun y hy=>by obtain⟨i,hi⟩:=yB.1 hy;rw[List.getElem?_drop]at hi;obtain⟨hl,e⟩:=zA.1 hi;have:=h2 (k+i) (by omega) hl hl;rw[e]at this;exact(Vc _ _).1 this
 have z8:∀i,i+1=k→∀h:i<s.length,J5 s[i] x:=fun i hi hl=>by
  have h4:=h3 i hi hl;have zc:=hd s[i] (zH hl);unfold J5;rcases vP (Qz s[i] 0).1 (Qz x 0).1 with a|a|a
  ·exact .inl a
  ·rcases uR (Qz s[i] 0).2 (Qz x 0).2 with b|b|b
   ·exact .inr ⟨a,b⟩
   ·exact absurd (Prod.ext a b) zc
   ·have:d03 (Qz x 0) (Qz s[i] 0)=true:=(Vc _ _).2 (.inr ⟨a.symm,b⟩);rw[this]at h4;cases h4
  ·have:d03 (Qz x 0) (Qz s[i] 0)=true:=(Vc _ _).2 (.inl a);rw[this]at h4;cases h4
 have z6:∀y∈s.take k,J5 y x:=fun y hy=>by
  obtain⟨i,hi⟩:=yB.1 hy;rw[List.getElem?_take]at hi;split at hi
  ·rename_i zd;obtain⟨hl,e⟩:=zA.1 hi;obtain⟨k',rfl⟩:∃k',k=k'+1:=⟨k - 1,by omega⟩
   have za:k'<s.length:=by omega
   have zb:=z8 k' rfl za;by_cases hij:i=k'
   ·subst hij;rw[←e];exact zb
   ·have:=yA.1 hs i k' hl za (by omega);rw[e]at this;exact Pz.trans this zb
  ·cases hi
 refine zW.2 ⟨p1,zZ.2 ⟨z7,p2⟩,fun y hy z hz=> ?_⟩;rcases zU.1 hz with rfl|hz
 ·exact z6 y hy
 ·exact p3 y hy z hz
theorem Ms(L:List Prd)(hd:L.Pairwise (fun p q=>Qz p 0≠Qz q 0)):(f07 L).Perm L∧(f07 L).Pairwise J5:=by
 have key:∀(r s:List Prd),s.Pairwise J5→(s++r).Pairwise (fun p q=>Qz p 0≠Qz q 0)→(r.foldl y0a s).Perm (s++r)∧(r.foldl y0a s).Pairwise J5:=by
  intro r;induction r with
  |nil=>intro s h _;simpa using h
  |cons x r ih=>intro s h hd;obtain⟨d1,d2,d3⟩:=zW.1 hd;have hi:=Ck h (fun y hy=>d3 y hy x (by simp));have hp:=y0g s x;have z1:(y0a s x++r).Perm (s++x::r):=(hp.append_right r).trans (wR (l₁:=s) (a:=x) (l₂:=r)).symm;have z6:(y0a s x++r).Pairwise (fun p q=>Qz p 0≠Qz q 0):=(z1.pairwise_iff (fun h=>Ne.symm h)).2 hd;obtain⟨i1,i2⟩:=ih (y0a s x) hi z6;rw[xH];exact⟨i1.trans z1,i2⟩
 have h:=key L [] List.Pairwise.nil (by simpa using hd);unfold f07;simpa using h
def Q4(T:Nat)(l:List Prd):List Prd:=f07 (Y3 T l)
theorem Xn{T:Nat}{l L:List Prd}{p:Prd}(h:Prts T l L)(hp:PCk T p)(hd:L.Pairwise (fun a b=>∀t n,PM a t n→¬PM b t n)):(Tn p L).Pairwise (fun a b=>∀t n,PM a t n→¬PM b t n):=by
 have z7:(Ry p).length=T:=by simp[Ry,hp.1]
 have z8:∀c∈L,∀q∈(if W2 (Ez c p)then []else [Ez c p])++(if W2 (Ez c (Ry p))then []else [Ez c (Ry p)]),∀t n,PM q t n→PM c t n:=by
  intro c hc q hq t n hm;rcases zN.1 hq with hq|hq
  ·split at hq
   ·cases hq
   ·obtain rfl:=zK.1 hq;exact((E8 (h.wf c hc).1 hp.1 t n).1 hm).1
  ·split at hq
   ·cases hq
   ·obtain rfl:=zK.1 hq;exact((E8 (h.wf c hc).1 z7 t n).1 hm).1
 unfold Tn;rw[vJ];refine⟨fun c hc=> ?_,?_⟩
 ·refine zW.2 ⟨by split<;>simp,by split<;>simp,fun a ha b hb t n z1 z6=> ?_⟩;split at ha
  ·cases ha
  ·split at hb
   ·cases hb
   ·obtain rfl:=zK.1 ha;obtain rfl:=zK.1 hb;exact((Kj hp t n).1 ((E8 (h.wf c hc).1 z7 t n).1 z6).2).2 ((E8 (h.wf c hc).1 hp.1 t n).1 z1).2
 ·exact hd.imp_of_mem (fun {a b} ha hb hab x hx y hy t n z1 z6=>hab t n (z8 a ha x hx t n z1) (z8 b hb y hy t n z6))
theorem Z7{T:Nat}(hT:0<T){l:List Prd}(hl:∀p∈l,PCk T p):(Y3 T l).Pairwise (fun a b=>∀t n,PM a t n→¬PM b t n):=by
 have key:∀(r d L:List Prd),Prts T d L→(∀p∈r,PCk T p)→L.Pairwise (fun a b=>∀t n,PM a t n→¬PM b t n)→(r.foldl (fun L p=>Tn p L) L).Pairwise (fun a b=>∀t n,PM a t n→¬PM b t n):=by
  intro r;induction r with
  |nil=>intro d L _ _ h;simpa using h
  |cons p r ih=>intro d L h hr hd;rw[xH];exact ih (d++[p]) (Tn p L) (Gy h (hr p (by simp))) (fun q hq=>hr q (by simp[hq])) (Xn h (hr p (by simp)) hd)
 exact key l [] [Wg T] (Hl T hT) hl (by simp)
theorem Uf{T:Nat}(hT:0<T){l:List Prd}(hl:∀p∈l,PCk T p):Prts T l (Q4 T l)∧(Q4 T l).Pairwise q09:=by
 have h:=Zi hT hl;have hd:(Y3 T l).Pairwise (fun p q=>Qz p 0≠Qz q 0):=(Z7 hT hl).imp_of_mem (fun {a b} ha hb hab e=>by
  have h1:=(W5 (h.wf a ha) (h.ne a ha)).1;have h2:=(W5 (h.wf b hb) (h.ne b hb)).1;rw[←e]at h2;exact hab _ _ h1 h2)
 obtain⟨h1,h2⟩:=Ms _ hd;have h3:Prts T l (Q4 T l):=h.perm h1.symm;refine⟨h3,?_⟩;exact h2.imp_of_mem (fun {a b} ha hb hab=>Jo (h3.wf a ha) (h3.ne a ha) (h3.wf b hb) (h3.ne b hb) hab)
end Go.Abs
namespace Go.Abs
def Q3(l:List Prd)(i:Nat):List Iv:=l.flatMap fun p=>p.getD i []
def Q6(l:List Prd)(i:Nat):List Int:=x0j (⟨-1099511627776,1099511627776⟩::Q3 l i)
def Ty:List Int→List Iv
 |a::b::r=>⟨a,b - 1⟩::Ty (b::r)
 |_=>[]
def Un(l:List Prd)(i:Nat)(n:Int):List Bool:=l.map fun p=>Se (p.getD i []) n
def Ud(p:Prd)(i:Nat)(x:Iv):Prd:=p.set i (p.getD i []++[x])
def Tw(T i:Nat)(sg:List Bool)(x:Iv):List (List Bool×Prd)→List (List Bool×Prd)
 |[]=>[(sg,Ud (zT T []) i x)]
 |(s,p)::r=>if s=sg then(s,Ud p i x)::r else(s,p)::Tw T i sg x r
def Je(T:Nat)(l:List Prd):List (Nat×Iv):=(yD T).flatMap fun i=>(Ty (Q6 l i)).map fun x=>(i,x)
def I7(T:Nat)(l:List Prd):List (List Bool×Prd):=(Je T l).foldl (fun st a=>Tw T a.1 (Un l a.1 a.2.lo) a.2 st) []
def Ev(p:Prd):Prd:=p.map (Q0 [])
def Eg(T:Nat)(l:List Prd):List Prd:=(I7 T l).map fun g=>Ev g.2
def z1o(a:Nat×Iv)(t:Nat)(n:Int):Prop:=t=a.1∧a.2.lo≤n∧n≤a.2.hi
structure GInv (T:Nat) (sig:Nat→Int→List Bool) (D:Nat→Int→Prop) (st:List (List Bool×Prd)):Prop where
 len:∀g∈st,g.2.length=T
 asc:∀g∈st,∀s∈g.2,(∀x∈s,x.lo≤x.hi)∧s.Pairwise (fun x y=>x.hi<y.lo)
 mem:∀g∈st,∀t n,PM g.2 t n↔D t n∧sig t n=g.1
 ne:∀g∈st,∃t n,PM g.2 t n
 nd:st.Pairwise (fun g h=>g.1≠h.1)
 all:∀t n,D t n→∃g∈st,g.1=sig t n
 ord:st.Pairwise (fun g h=>∃t n,PM g.2 t n∧∀t' n',PM h.2 t' n'→Pz t n t' n')
theorem W1{p:Prd}{i:Nat}(h:i<p.length):p.getD i []=p[i]:=by simp[yP,h]
theorem q1o{T:Nat}{p:Prd}(hp:p.length=T){i:Nat}(hi:i<T)(x:Iv)(t:Nat)(n:Int):PM (Ud p i x) t n↔PM p t n∨z1o (i,x) t n:=by
 unfold PM Ud z1o;have z1:i<p.length:=by omega
 rw[W1 z1];by_cases ht:t=i
 ·subst ht;rw[zG z1,zF z1];constructor
  ·rintro⟨s,hs,hm⟩;cases hs;rcases(Jz ..).1 hm with h|h
   ·exact .inl ⟨_,rfl,h⟩
   ·rcases(Eb ..).1 h with h|h
    ·exact .inr ⟨rfl,h⟩
    ·simp[M]at h
  ·rintro(⟨s,hs,hm⟩|⟨_,h⟩)
   ·cases hs;exact⟨_,rfl,(Jz ..).2 (.inl hm)⟩
   ·exact⟨_,rfl,(Jz ..).2 (.inr ((Eb ..).2 (.inl h)))⟩
 ·rw[zB (by omega)];constructor
  ·exact fun h=> .inl h
  ·rintro(h|⟨h,_⟩)
   ·exact h
   ·exact absurd h ht
theorem z0x{T:Nat}{p:Prd}(hp:p.length=T){i:Nat}(hi:i<T){x:Iv}(hx:x.lo≤x.hi)(h:∀s∈p,(∀y∈s,y.lo≤y.hi)∧s.Pairwise (fun y z=>y.hi<z.lo))(z6:∀t n,PM p t n→Pz t n i x.lo):
  ∀s∈Ud p i x,(∀y∈s,y.lo≤y.hi)∧s.Pairwise (fun y z=>y.hi<z.lo):=by
 intro s hs;have z1:i<p.length:=by omega
 rcases List.mem_or_eq_of_mem_set hs with hs|rfl
 ·exact h s hs
 ·rw[W1 z1];obtain⟨h1,h2⟩:=h _ (zH z1);refine⟨fun y hy=> ?_,zW.2 ⟨h2,by simp,fun y hy z hz=> ?_⟩⟩
  ·rcases zN.1 hy with hy|hy
   ·exact h1 y hy
   ·obtain rfl:=zK.1 hy;exact hx
  ·obtain rfl:=zK.1 hz;have:=z6 i y.hi ⟨_,zF z1,y,hy,h1 y hy,yI _⟩;unfold Pz at this;omega
theorem Iu{T i:Nat}{sg:List Bool}{x:Iv}:∀ {st:List (List Bool×Prd)},(∀g∈st,g.1≠sg)→Tw T i sg x st=st++[(sg,Ud (zT T []) i x)]
 |[],_=>rfl
 |(s,p)::r,h=>by rw[Tw,if_neg (h (s,p) (by simp)),Iu (fun g hg=>h g (by simp[hg]))];rfl
theorem Ae{T i:Nat}{sg:List Bool}{x:Iv}:∀ {st:List (List Bool×Prd)},(∃g∈st,g.1=sg)→∃a p b,st=a++(sg,p)::b∧(∀g∈a,g.1≠sg)∧Tw T i sg x st=a++(sg,Ud p i x)::b
 |[],⟨g,hg,_⟩=>by cases hg
 |(s,p)::r,⟨g,hg,he⟩=>by
  by_cases hs:s=sg
  ·subst hs;exact⟨[],p,r,rfl,by simp,by rw[Tw,if_pos rfl];rfl⟩
  ·have z1:g∈r:=by
    rcases zU.1 hg with rfl|hg
    ·exact absurd he hs
    ·exact hg
   obtain⟨a,q,b,h1,h2,h3⟩:=Ae (T:=T) (i:=i) (x:=x) ⟨g,z1,he⟩;refine⟨(s,p)::a,q,b,by rw[h1];rfl,fun g hg=> ?_,by rw[Tw,if_neg hs,h3];rfl⟩;rcases zU.1 hg with rfl|hg
   ·exact hs
   ·exact h2 g hg
theorem Ks(T t:Nat)(n:Int):¬PM (zT T []) t n:=by rintro⟨s,hs,hm⟩;obtain rfl:=wL (zC hs);simp[M]at hm
theorem GInv.step{T:Nat}{sig:Nat→Int→List Bool}{D:Nat→Int→Prop}{st:List (List Bool×Prd)}(h:GInv T sig D st){i:Nat}{x:Iv}(hi:i<T)(hx:x.lo≤x.hi)(hc:∀n,x.lo≤n→n≤x.hi→sig i n=sig i x.lo)(hD:∀t n,D t n→∀n',x.lo≤n'→n'≤x.hi→Pz t n i n'):
  GInv T sig (fun t n=>D t n∨z1o (i,x) t n) (Tw T i (sig i x.lo) x st):=by
 have z7:∀t n,z1o (i,x) t n→sig t n=sig i x.lo:=fun t n hp=>by obtain⟨rfl,h1,h2⟩:=hp;exact hc n h1 h2
 have zb:∀t n,D t n→∀t' n',z1o (i,x) t' n'→Pz t n t' n':=fun t n hd t' n' hp=>by obtain⟨rfl,h1,h2⟩:=hp;exact hD t n hd n' h1 h2
 have zc:z1o (i,x) i x.lo:=⟨rfl,yI _,hx⟩
 by_cases hit:∃g∈st,g.1=sig i x.lo
 ·obtain⟨a,p,b,h1,h2,h3⟩:=Ae (T:=T) (i:=i) (x:=x) hit;rw[h3];subst h1;generalize zh:sig i x.lo=s0 at *
  have za:(s0,p)∈a++(s0,p)::b:=by simp
  have zd:=h.mem _ za;have hlen:=h.len _ za;have zf:=h.nd;obtain⟨n1,n2,n3⟩:=zW.1 zf;obtain⟨n4,n5⟩:=zZ.1 n2;obtain⟨o1,o2,o3⟩:=zW.1 h.ord;obtain⟨o4,o5⟩:=zZ.1 o2;have z1:=fun t n=>q1o hlen hi x t n;have hold:∀g∈a++(s0,Ud p i x)::b,(g∈a++(s0,p)::b∧g.1≠s0)∨g=(s0,Ud p i x):=fun g hg=>by
   rcases zN.1 hg with hg|hg
   ·exact .inl ⟨by simp[hg],h2 g hg⟩
   ·rcases zU.1 hg with rfl|hg
    ·exact .inr rfl
    ·exact .inl ⟨by simp[hg],(n4 g hg).symm⟩
  refine⟨fun g hg=> ?_,fun g hg=> ?_,fun g hg t n=> ?_,fun g hg=> ?_,?_,fun t n hd=> ?_,?_⟩
  ·rcases hold g hg with⟨hg,_⟩|rfl
   ·exact h.len g hg
   ·simp[Ud,hlen]
  ·rcases hold g hg with⟨hg,_⟩|rfl
   ·exact h.asc g hg
   ·exact z0x hlen hi hx (h.asc _ za) (fun t n hm=>hD t n ((zd t n).1 hm).1 x.lo (yI _) hx)
  ·rcases hold g hg with⟨hg,zg⟩|rfl
   ·rw[h.mem g hg t n];constructor
    ·exact fun hh=>⟨.inl hh.1,hh.2⟩
    ·rintro⟨hd|hd,hs⟩
     ·exact⟨hd,hs⟩
     ·exact absurd (by rw[←hs,z7 t n hd]) zg
   ·rw[z1,zd];constructor
    ·rintro(⟨hd,hs⟩|hd)
     ·exact⟨.inl hd,hs⟩
     ·exact⟨.inr hd,z7 t n hd⟩
    ·rintro⟨hd|hd,hs⟩
     ·exact .inl ⟨hd,hs⟩
     ·exact .inr hd
  ·rcases hold g hg with⟨hg,_⟩|rfl
   ·exact h.ne g hg
   ·exact⟨i,x.lo,(z1 i x.lo).2 (.inr zc)⟩
  ·exact zW.2 ⟨n1,zZ.2 ⟨fun g hg=>n4 g hg,n5⟩,fun g hg k hk=>by
    rcases zU.1 hk with rfl|hk
    ·exact h2 g hg
    ·exact n3 g hg k (by simp[hk])⟩
  ·rcases hd with hd|hd
   ·obtain⟨g,hg,he⟩:=h.all t n hd;rcases zN.1 hg with hg|hg
    ·exact⟨g,by simp[hg],he⟩
    ·rcases zU.1 hg with rfl|hg
     ·exact⟨(s0,Ud p i x),by simp,he⟩
     ·exact⟨g,by simp[hg],he⟩
   ·exact⟨(s0,Ud p i x),by simp,(z7 t n hd).symm⟩
  ·refine zW.2 ⟨o1,zZ.2 ⟨fun g hg=> ?_,o5⟩,fun g hg k hk=> ?_⟩
   ·obtain⟨t,n,e1,e2⟩:=o4 g hg;exact⟨t,n,(z1 t n).2 (.inl e1),e2⟩
   ·rcases zU.1 hk with rfl|hk
    ·obtain⟨t,n,e1,e2⟩:=o3 g hg (s0,p) (by simp);refine⟨t,n,e1,fun t' n' hm=> ?_⟩;rcases(z1 t' n').1 hm with hm|hm
     ·exact e2 t' n' hm
     ·exact zb t n ((h.mem g (by simp[hg]) t n).1 e1).1 t' n' hm
    ·exact o3 g hg k (by simp[hk])
 ·have z8:∀g∈st,g.1≠sig i x.lo:=fun g hg he=>hit ⟨g,hg,he⟩;rw[Iu z8];have ze:(zT T ([]:List Iv)).length=T:=by simp
  have z1:=fun t n=>q1o ze hi x t n;have z6:∀g∈st++[(sig i x.lo,Ud (zT T []) i x)],g∈st∨g=(sig i x.lo,Ud (zT T []) i x):=fun g hg=>by
   rcases zN.1 hg with hg|hg
   ·exact .inl hg
   ·exact .inr (zK.1 hg)
  refine⟨fun g hg=> ?_,fun g hg=> ?_,fun g hg t n=> ?_,fun g hg=> ?_,?_,fun t n hd=> ?_,?_⟩
  ·rcases z6 g hg with hg|rfl
   ·exact h.len g hg
   ·simp[Ud]
  ·rcases z6 g hg with hg|rfl
   ·exact h.asc g hg
   ·exact z0x ze hi hx (fun s hs=>by obtain rfl:=wL hs;simp) (fun t n hm=>absurd hm (Ks T t n))
  ·rcases z6 g hg with hg|rfl
   ·rw[h.mem g hg t n];constructor
    ·exact fun hh=>⟨.inl hh.1,hh.2⟩
    ·rintro⟨hd|hd,hs⟩
     ·exact⟨hd,hs⟩
     ·exact absurd (by rw[←hs,z7 t n hd]) (z8 g hg)
   ·rw[z1];constructor
    ·rintro(hm|hd)
     ·exact absurd hm (Ks T t n)
     ·exact⟨.inr hd,z7 t n hd⟩
    ·rintro⟨hd|hd,hs⟩
     ·obtain⟨g,hg,he⟩:=h.all t n hd;exact absurd (he.trans hs) (z8 g hg)
     ·exact .inr hd
  ·rcases z6 g hg with hg|rfl
   ·exact h.ne g hg
   ·exact⟨i,x.lo,(z1 i x.lo).2 (.inr zc)⟩
  ·exact zW.2 ⟨h.nd,by simp,fun g hg k hk=>by obtain rfl:=zK.1 hk;exact z8 g hg⟩
  ·rcases hd with hd|hd
   ·obtain⟨g,hg,he⟩:=h.all t n hd;exact⟨g,by simp[hg],he⟩
   ·exact⟨(sig i x.lo,Ud (zT T []) i x),by simp,(z7 t n hd).symm⟩
  ·refine zW.2 ⟨h.ord,by simp,fun g hg k hk=> ?_⟩;obtain rfl:=zK.1 hk;obtain⟨t,n,e1⟩:=h.ne g hg;refine⟨t,n,e1,fun t' n' hm=> ?_⟩;rcases(z1 t' n').1 hm with hm|hm
   ·exact absurd hm (Ks T t' n')
   ·exact zb t n ((h.mem g hg t n).1 e1).1 t' n' hm
end Go.Abs
namespace Go.Abs
theorem Pb:∀(cs:List Int),cs.Pairwise (·<·)→∀x∈Ty cs,x.lo≤x.hi∧x.lo∈cs∧x.hi+1∈cs∧∀d∈cs,d≤x.hi→d≤x.lo
 |[],_,x,hx=>by simp[Ty]at hx
 |[a],_,x,hx=>by simp[Ty]at hx
 |a::b::r,h,x,hx=>by
  obtain⟨h1,h2⟩:=zZ.1 h;rw[Ty]at hx;rcases zU.1 hx with rfl|hx
  ·have z1:=h1 b (by simp);refine⟨by simp only;omega,by simp,by simp,fun d hd hle=> ?_⟩;simp only at hle ⊢;rcases zU.1 hd with rfl|hd
   ·omega
   ·have:b≤d:=by
     rcases zU.1 hd with rfl|hd
     ·omega
     ·have:=(zZ.1 h2).1 d hd;omega
    omega
  ·obtain⟨k1,k2,k3,k4⟩:=Pb (b::r) h2 x hx;refine⟨k1,by simp only[zU]at k2 ⊢;exact .inr k2,by simp only[zU]at k3 ⊢;exact .inr k3,fun d hd hle=> ?_⟩;rcases zU.1 hd with rfl|hd
   ·have:=h1 x.lo k2;omega
   ·exact k4 d hd hle
theorem Nc:∀(cs:List Int),cs.Pairwise (·<·)→(Ty cs).Pairwise (fun x y=>x.hi<y.lo)
 |[],_=>by simp[Ty]
 |[a],_=>by simp[Ty]
 |a::b::r,h=>by
  obtain⟨h1,h2⟩:=zZ.1 h;rw[Ty];refine zZ.2 ⟨fun y hy=> ?_,Nc (b::r) h2⟩;obtain⟨_,k2,_,_⟩:=Pb (b::r) h2 y hy;have:b≤y.lo:=by
   rcases zU.1 k2 with e|k2
   ·omega
   ·have:=(zZ.1 h2).1 y.lo k2;omega
  simp only;omega
theorem H4:∀(cs:List Int),cs.Pairwise (·<·)→∀n,(∃a∈cs,a≤n)→(∃b∈cs,n<b)→∃x∈Ty cs,x.lo≤n∧n≤x.hi
 |[],_,n,⟨a,ha,_⟩,_=>by cases ha
 |[a],_,n,⟨c,hc,h1⟩,⟨d,hd,h2⟩=>by obtain rfl:=zK.1 hc;obtain rfl:=zK.1 hd;omega
 |a::b::r,h,n,⟨c,hc,h1⟩,⟨d,hd,h2⟩=>by
  obtain⟨p1,p2⟩:=zZ.1 h;rw[Ty];have z1:a≤n:=by
   rcases zU.1 hc with rfl|hc
   ·exact h1
   ·have:=p1 c hc;omega
  by_cases hb:n<b
  ·exact⟨⟨a,b - 1⟩,by simp,z1,by simp only;omega⟩
  ·have z6:d∈b::r:=by
    rcases zU.1 hd with rfl|hd
    ·omega
    ·exact hd
   obtain⟨x,hx,e⟩:=H4 (b::r) p2 n ⟨b,by simp,by omega⟩ ⟨d,z6,h2⟩;exact⟨x,by simp[hx],e⟩
theorem Rn{l:List Prd}{i:Nat}{x:Iv}:x∈Q3 l i↔∃p∈l,x∈p.getD i []:=by simp[Q3]
theorem c0r{T:Nat}{p:Prd}(hp:PCk T p)(i:Nat):CanonL (p.getD i []):=by
 by_cases hi:i<p.length
 ·rw[W1 hi];exact hp.2 _ (zH hi)
 ·have:p.getD i []=[]:=by simp[yP,List.getElem?_eq_none (by omega:p.length≤i)]
  rw[this];exact Pf
theorem Tm{T:Nat}{l:List Prd}(hl:∀p∈l,PCk T p)(i:Nat):(Q6 l i).Pairwise (·<·)∧(-1099511627776:Int)∈Q6 l i∧(1099511627777:Int)∈Q6 l i∧
  (∀z∈Q6 l i,-1099511627776≤z∧z≤1099511627777)∧∀p∈l,∀x∈p.getD i [],x.lo∈Q6 l i∧x.hi+1∈Q6 l i:=by
 obtain⟨h1,h2⟩:=x0o (⟨-1099511627776,1099511627776⟩::Q3 l i);refine⟨h1,(h2 _).2 ⟨⟨-1099511627776,1099511627776⟩,by simp,.inl rfl⟩,(h2 _).2 ⟨⟨-1099511627776,1099511627776⟩,by simp,.inr (by simp)⟩,fun z hz=> ?_,fun p hp x hx=>⟨(h2 _).2 ⟨x,?_,.inl rfl⟩,(h2 _).2 ⟨x,?_,.inr rfl⟩⟩⟩
 ·obtain⟨x,hx,e⟩:=(h2 z).1 hz;rcases zU.1 hx with rfl|hx
  ·simp only at e;omega
  ·obtain⟨p,hp,hx⟩:=Rn.1 hx;have hc:=c0r (hl p hp) i;have h3:=Ku hc x hx;have h4:=(Eu _).1 h3.1;have h5:=(Eu _).1 h3.2;have:=(Pd hc).1 x hx;omega
 ·exact uB _ (Rn.2 ⟨p,hp,hx⟩)
 ·exact uB _ (Rn.2 ⟨p,hp,hx⟩)
theorem k0u{T:Nat}{l:List Prd}(hl:∀p∈l,PCk T p)(i:Nat){x:Iv}(hx:x∈Ty (Q6 l i))(n:Int)(h1:x.lo≤n)(h2:n≤x.hi):Un l i n=Un l i x.lo:=by obtain⟨c1,_,_,_,c5⟩:=Tm hl i;obtain⟨_,_,_,k4⟩:=Pb _ c1 x hx;unfold Un;apply xI;intro p hp;exact z00 _ (Q6 l i) (c5 p hp) x.lo n h1 (fun d hd hle=>k4 d hd (by omega))
theorem L0{T:Nat}{p:Prd}(hp:p.length=T){t:Nat}(ht:t<T)(n:Int):Se (p.getD t []) n=true↔PM p t n:=by
 have z1:t<p.length:=by omega
 rw[W1 z1,Vf];unfold PM;rw[zF z1];simp
theorem q1l{T:Nat}{l:List Prd}(hl:∀p∈l,PCk T p){t t':Nat}(ht:t<T)(z1:t'<T)(n n':Int):Un l t n=Un l t' n'↔j11 l t n t' n':=by
 unfold Un j11;constructor
 ·intro h p hp;have:=(List.map_inj_left.1 h) p hp;rw[←L0 (hl p hp).1 ht,←L0 (hl p hp).1 z1,this]
 ·intro h;apply xI;intro p hp;have:=h p hp;rw[←L0 (hl p hp).1 ht,←L0 (hl p hp).1 z1]at this;exact xE.2 this
theorem GInv.congr{T:Nat}{sig:Nat→Int→List Bool}{D D':Nat→Int→Prop}{st:List (List Bool×Prd)}(h:GInv T sig D st)(e:∀t n,D t n↔D' t n):GInv T sig D' st:=by have:D=D':=funext fun t=>funext fun n=>propext (e t n);rw[←this];exact h
theorem Xg{T:Nat}{sig:Nat→Int→List Bool}:∀(A:List (Nat×Iv)) (D:Nat→Int→Prop) (st:List (List Bool×Prd)),GInv T sig D st→(∀a∈A,a.1<T∧a.2.lo≤a.2.hi∧∀n,a.2.lo≤n→n≤a.2.hi→sig a.1 n=sig a.1 a.2.lo)→
  (∀t n,D t n→∀a∈A,∀n',a.2.lo≤n'→n'≤a.2.hi→Pz t n a.1 n')→A.Pairwise (fun a b=>∀n n',a.2.lo≤n→n≤a.2.hi→b.2.lo≤n'→n'≤b.2.hi→Pz a.1 n b.1 n')→
  GInv T sig (fun t n=>D t n∨∃a∈A,z1o a t n) (A.foldl (fun st a=>Tw T a.1 (sig a.1 a.2.lo) a.2 st) st)
 |[],D,st,h,_,_,_=>h.congr (fun t n=>by simp)
 |a::A,D,st,h,h1,h2,h3=>by
  obtain⟨i,x⟩:=a;obtain⟨e1,e2,e3⟩:=h1 (i,x) (by simp);obtain⟨p1,p2⟩:=zZ.1 h3;have hs:=h.step e1 e2 e3 (fun t n hd n' q1 q2=>h2 t n hd (i,x) (by simp) n' q1 q2);rw[xH];refine(Xg A _ _ hs (fun b hb=>h1 b (by simp[hb])) (fun t n hd b hb n' q1 q2=> ?_) p2).congr (fun t n=> ?_)
  ·rcases hd with hd|hd
   ·exact h2 t n hd b (by simp[hb]) n' q1 q2
   ·obtain⟨rfl,d1,d2⟩:=hd;exact p1 b hb n n' d1 d2 q1 q2
  ·simp[or_assoc]
theorem Df{T:Nat}{l:List Prd}{a:Nat×Iv}:a∈Je T l↔a.1<T∧a.2∈Ty (Q6 l a.1):=by
 unfold Je;rw[xD];constructor
 ·rintro⟨i,hi,h⟩;obtain⟨x,hx,rfl⟩:=zL.1 h;exact⟨yJ.1 hi,hx⟩
 ·rintro⟨h1,h2⟩;exact⟨a.1,yJ.2 h1,zL.2 ⟨a.2,h2,rfl⟩⟩
theorem z0q{T:Nat}{l:List Prd}(hl:∀p∈l,PCk T p):(Je T l).Pairwise (fun a b=>∀n n',a.2.lo≤n→n≤a.2.hi→b.2.lo≤n'→n'≤b.2.hi→Pz a.1 n b.1 n'):=by
 unfold Je;rw[vJ];refine⟨fun i _=> ?_,?_⟩
 ·rw[xF];refine(Nc _ (Tm hl i).1).imp (fun {x y} h n n' h1 h2 h3 h4=> .inr ⟨rfl,by simp only at h2 h3;omega⟩)
 ·refine List.pairwise_lt_range.imp (fun {i j} h a ha b hb n n' _ _ _ _=> ?_);obtain⟨x,_,rfl⟩:=zL.1 ha;obtain⟨y,_,rfl⟩:=zL.1 hb;exact .inl h
theorem z07{T:Nat}{l:List Prd}(hl:∀p∈l,PCk T p):GInv T (Un l) (fun t n=>t<T∧inR n) (I7 T l):=by
 have h0:GInv T (Un l) (fun _ _=>False) []:=⟨by simp,by simp,by simp,by simp,by simp,fun _ _ h=>h.elim,by simp⟩
 refine(Xg (Je T l) _ [] h0 (fun a ha=> ?_) (fun _ _ h=>h.elim) (z0q hl)).congr (fun t n=> ?_)
 ·obtain⟨h1,h2⟩:=Df.1 ha;exact⟨h1,(Pb _ (Tm hl a.1).1 _ h2).1,fun n q1 q2=>k0u hl a.1 h2 n q1 q2⟩
 ·obtain⟨c1,c2,c3,c4,c5⟩:=Tm hl t;constructor
  ·rintro(h|⟨a,ha,rfl,h1,h2⟩)
   ·exact h.elim
   ·obtain⟨q1,q2⟩:=Df.1 ha;obtain⟨s1,s2,s3,s4⟩:=Pb _ c1 _ q2;have:=c4 _ s2;have:=c4 _ s3;exact⟨q1,by unfold inR;omega⟩
  ·rintro⟨h1,h2⟩;unfold inR at h2;obtain⟨x,hx,e1,e2⟩:=H4 _ c1 n ⟨_,c2,h2.1⟩ ⟨_,c3,by omega⟩;exact .inr ⟨(t,x),Df.2 ⟨h1,hx⟩,rfl,e1,e2⟩
theorem Ii{s:List Iv}(h:(∀x∈s,x.lo≤x.hi)∧s.Pairwise (fun x y=>x.hi<y.lo)):Sep (Q0 [] s)∧∀n,M (Q0 [] s) n↔M s n:=by have hb:Vg s:=h.2.imp_of_mem (fun {x y} hx hy hxy=>by have:=h.1 x hx;omega);have:=Ap s [] Vt hb h.1 (by simp);refine⟨this.1,fun n=> ?_⟩;rw[this.2 n];simp[M]
theorem Jv{T:Nat}{p:Prd}(h:∀s∈p,(∀x∈s,x.lo≤x.hi)∧s.Pairwise (fun x y=>x.hi<y.lo))(t:Nat)(n:Int):PM (Ev p) t n↔PM p t n:=by
 unfold PM Ev;rw[zP];constructor
 ·rintro⟨s,hs,hm⟩;obtain⟨a,ha,rfl⟩:=zJ.1 hs;exact⟨a,ha,((Ii (h a (zC ha))).2 n).1 hm⟩
 ·rintro⟨a,ha,hm⟩;exact⟨Q0 [] a,by rw[ha];rfl,((Ii (h a (zC ha))).2 n).2 hm⟩
theorem Kl{T:Nat}{l:List Prd}(hl:∀p∈l,PCk T p):Prts T l (Eg T l)∧(Eg T l).Pairwise q09:=by
 have h:=z07 hl;have z1:∀g∈I7 T l,∀t n,PM (Ev g.2) t n↔(t<T∧inR n)∧Un l t n=g.1:=fun g hg t n=>by rw[Jv (T:=T) (h.asc g hg),h.mem g hg]
 have z6:∀p∈Eg T l,∃g∈I7 T l,p=Ev g.2:=fun p hp=>by obtain⟨g,hg,rfl⟩:=zL.1 hp;exact⟨g,hg,rfl⟩
 refine⟨⟨fun p hp=> ?_,fun p hp=> ?_,fun t n ht hn=> ?_,fun p hp t n hm t' n'=> ?_⟩,?_⟩
 ·obtain⟨g,hg,rfl⟩:=z6 p hp;refine⟨by simp[Ev,h.len g hg],fun s hs=> ?_⟩;obtain⟨i,hi⟩:=yB.1 hs;have z7:=hs;obtain⟨a,ha,rfl⟩:=zL.1 hs;exact⟨(Ii (h.asc g hg a ha)).1,fun n hn=>((z1 g hg i n).1 ⟨_,hi,hn⟩).1.2⟩
 ·obtain⟨g,hg,rfl⟩:=z6 p hp;obtain⟨t,n,hm⟩:=h.ne g hg;exact⟨t,n,(Jv (T:=T) (h.asc g hg) t n).2 hm⟩
 ·obtain⟨g,hg,he⟩:=h.all t n ⟨ht,hn⟩;exact⟨Ev g.2,zL.2 ⟨g,hg,rfl⟩,(z1 g hg t n).2 ⟨⟨ht,hn⟩,he.symm⟩⟩
 ·obtain⟨g,hg,rfl⟩:=z6 p hp;obtain⟨⟨q1,q2⟩,q3⟩:=(z1 g hg t n).1 hm;rw[z1 g hg];constructor
  ·rintro⟨⟨h1,h2⟩,h3⟩;exact⟨h1,h2,(q1l hl q1 h1 n n').1 (q3.trans h3.symm)⟩
  ·rintro⟨h1,h2,h3⟩;exact⟨⟨h1,h2⟩,((q1l hl q1 h1 n n').2 h3).symm.trans q3⟩
 ·unfold Eg;rw[xF];refine h.ord.imp_of_mem (fun {a b} ha hb hab=> ?_);obtain⟨t,n,e1,e2⟩:=hab;exact⟨t,n,(Jv (T:=T) (h.asc a ha) t n).2 e1,fun t' n' hm=>e2 t' n' ((Jv (T:=T) (h.asc b hb) t' n').1 hm)⟩
theorem Ha{T:Nat}(hT:0<T){l:List Prd}(hl:∀p∈l,PCk T p):Eg T l=Q4 T l:=by obtain⟨a1,a2⟩:=Kl hl;obtain⟨b1,b2⟩:=Uf hT hl;exact a1.unique b1 a2 b2
end Go.Abs
namespace Go.Abs
structure Sy where
 ty:Int
 num:Int
deriving Inhabited,DecidableEq
structure Mv where
 src:Int
 dst:Int
 on:Prd
deriving Inhabited
structure Aut where
 types:Int
 fin:List Bool
 mv:List Mv
deriving Inhabited
def Ou:Aut:=⟨0,[],[]⟩
def w0d:List (List Iv)→Int
 |[]=>0
 |s::r=>if ckR s≠0 then ckR s else w0d r
def Ew(T:Int)(p:Prd):Int:=if T<1∨16<T then 2 else if(p.length:Int)≠T then 15 else w0d p
def M6(T:Int)(n:Nat):List Mv→Int
 |[]=>0
 |m::r=>if ¬((0≤m.src∧m.src<n)∧(0≤m.dst∧m.dst<n))then 2 else if Ew T m.on≠0 then Ew T m.on else M6 T n r
def We(a:Aut):Int:=if a.types<1∨16<a.types then 2 else if a.fin.length<1∨256<a.fin.length∨2048<a.mv.length then 5 else M6 a.types a.fin.length a.mv
theorem N7:∀(p:List (List Iv)),w0d p=0↔∀s∈p,CanonL s
 |[]=>by simp[w0d]
 |s::r=>by
  rw[w0d];by_cases h:ckR s=0
  ·rw[if_neg (fun k=>k h),N7 r];simp[(L4 s).1 h]
  ·rw[if_pos h];refine⟨fun k=>absurd k h,fun k=>absurd ((L4 s).2 (k s (by simp))) h⟩
theorem W7(T:Int)(p:Prd):Ew T p=0↔(1≤T∧T≤16)∧PCk T.toNat p:=by
 unfold Ew PCk;by_cases h1:T<1∨16<T
 ·rw[if_pos h1];exact⟨fun h=>by omega,fun h=>by omega⟩
 ·rw[if_neg h1];by_cases h2:(p.length:Int)≠T
  ·rw[if_pos h2];exact⟨fun h=>by omega,fun h=>by omega⟩
  ·rw[if_neg h2,N7];exact⟨fun h=>⟨by omega,by omega,h⟩,fun h=>h.2.2⟩
structure OkMv (T:Nat) (n:Nat) (m:Mv):Prop where
 src:0≤m.src∧m.src<n
 dst:0≤m.dst∧m.dst<n
 on:PCk T m.on
structure OkA (a:Aut):Prop where
 types:1≤a.types∧a.types≤16
 fin:1≤a.fin.length∧a.fin.length≤256
 mvs:a.mv.length≤2048
 mv:∀m∈a.mv,OkMv a.types.toNat a.fin.length m
theorem V7{T:Int}(hT:1≤T∧T≤16)(n:Nat):∀(l:List Mv),M6 T n l=0↔∀m∈l,OkMv T.toNat n m
 |[]=>by simp[M6]
 |m::r=>by
  rw[M6];by_cases h1:(0≤m.src∧m.src<n)∧(0≤m.dst∧m.dst<n)
  ·rw[if_neg (fun k=>k h1)];by_cases h2:Ew T m.on=0
   ·rw[if_neg (fun k=>k h2),V7 hT n r];have h3:=((W7 T m.on).1 h2).2;constructor
    ·intro h x hx;rcases zU.1 hx with rfl|hx
     ·exact⟨h1.1,h1.2,h3⟩
     ·exact h x hx
    ·exact fun h x hx=>h x (by simp[hx])
   ·rw[if_pos h2];exact⟨fun h=>absurd h h2,fun h=>absurd ((W7 T m.on).2 ⟨hT,(h m (by simp)).on⟩) h2⟩
  ·rw[if_pos h1];exact⟨fun h=>(by cases h),fun h=>absurd ⟨(h m (by simp)).src,(h m (by simp)).dst⟩ h1⟩
theorem I3(a:Aut):We a=0↔OkA a:=by
 unfold We;by_cases h1:a.types<1∨16<a.types
 ·rw[if_pos h1];exact⟨fun h=>(by cases h),fun h=>by have:=h.types;omega⟩
 ·rw[if_neg h1];by_cases h2:a.fin.length<1∨256<a.fin.length∨2048<a.mv.length
  ·rw[if_pos h2];exact⟨fun h=>(by cases h),fun h=>by have:=h.fin;have:=h.mvs;omega⟩
  ·rw[if_neg h2,V7 (by omega)];exact⟨fun h=>⟨by omega,by omega,by omega,h⟩,fun h=>h.mv⟩
def Rj(p:Prd)(x:Sy):Bool:=decide (0≤x.ty) && decide (x.ty<p.length) && Se (p.getD x.ty.toNat []) x.num
def Fc(T:Int)(x:Sy):Int:=if x.ty<0∨T≤x.ty then 6 else if x.num< -1099511627776∨1099511627776<x.num then 2 else 0
theorem O3(T:Int)(x:Sy):Fc T x=0↔(0≤x.ty∧x.ty<T)∧inR x.num:=by
 unfold Fc inR;split
 ·constructor
  ·intro h;cases h
  ·intro h;omega
 ·split
  ·constructor
   ·intro h;cases h
   ·intro h;omega
  ·constructor
   ·intro _;omega
   ·intro _;rfl
theorem Oh{T:Nat}{p:Prd}(hp:p.length=T)(x:Sy)(hx:0≤x.ty):Rj p x=true↔PM p x.ty.toNat x.num:=by
 unfold Rj;by_cases h:x.ty<p.length
 ·have h1:x.ty.toNat<T:=by omega
  rw[←L0 hp h1];simp[h,hx]
 ·have:¬PM p x.ty.toNat x.num:=by rintro⟨s,hs,_⟩;have:=(zA.1 hs).1;omega
  simp[h,this]
def Wo(n:Nat):List Int:=(yD n).map fun i:Nat=>(i:Int)
theorem Wq{n:Nat}{z:Int}:z∈Wo n↔0≤z∧z<n:=by
 unfold Wo;rw[zL];constructor
 ·rintro⟨i,hi,rfl⟩;have:=yJ.1 hi;omega
 ·rintro⟨h1,h2⟩;exact⟨z.toNat,yJ.2 (by omega),by omega⟩
theorem L8(n:Nat):(Wo n).Pairwise (·<·):=by unfold Wo;rw[xF];exact List.pairwise_lt_range.imp (fun h=>by omega)
def z1u(a:Aut)(l:List Int)(x:Sy)(j:Int):Bool:=a.mv.any fun m=>l.contains m.src && Rj m.on x && decide (m.dst=j)
def Qu(a:Aut)(l:List Int)(x:Sy):List Int:=(Wo a.fin.length).filter (z1u a l x)
def y1t(a:Aut)(l:List Int)(x:Sy):List Int:=Go.Lib.compact (Rk ((a.mv.filter fun m=>l.contains m.src && Rj m.on x).map (·.dst)))
theorem g0w(zs:List Int):(Rk zs).Pairwise (·≤·):=by have:=vI (le:=fun x y:Int=>decide (x≤y)) (fun a b c h1 h2=>by simp at h1 h2 ⊢;omega) (fun a b=>by simp;omega) zs;simpa[Rk]using this
theorem Xz(zs:List Int):(Go.Lib.compact (Rk zs)).Pairwise (·<·)∧∀z,z∈Go.Lib.compact (Rk zs)↔z∈zs:=by have h:=Lt _ (g0w zs) _ (zI _);refine⟨h.1,fun z=> ?_⟩;have h2:=h.2 z;rw[yF]at h2;rw[Go.Lib.compact,h2,Rk,uJ]
theorem Tl{a b:List Int}(ha:a.Pairwise (·<·))(hb:b.Pairwise (·<·))(h:∀z,z∈a↔z∈b):a=b:=by have hn:∀ {l:List Int},l.Pairwise (·<·)→l.Nodup:=fun hl=>hl.imp (fun h e=>by omega);exact List.Perm.eq_of_pairwise (le:=(·<·)) (fun a b _ _ h1 h2=>by omega) ha hb ((uf (hn ha) (hn hb)).2 h)
theorem Yf(a:Aut)(l:List Int)(x:Sy):(Qu a l x).Pairwise (·<·):=(L8 _).filter _
theorem Wn{a:Aut}{l:List Int}{x:Sy}{j:Int}:j∈Qu a l x↔(0≤j∧j<a.fin.length)∧∃m∈a.mv,m.src∈l∧Rj m.on x=true∧m.dst=j:=by unfold Qu z1u;rw[wd,Wq,wH];simp[and_assoc]
theorem w1l{a:Aut}(h:∀m∈a.mv,0≤m.dst∧m.dst<a.fin.length)(l:List Int)(x:Sy):y1t a l x=Qu a l x:=by
 obtain⟨h1,h2⟩:=Xz ((a.mv.filter fun m=>l.contains m.src && Rj m.on x).map (·.dst));refine Tl h1 (Yf a l x) fun z=> ?_;rw[y1t,h2,Wn];constructor
 ·intro hz;obtain⟨m,hm,rfl⟩:=zL.1 hz;obtain⟨hm,hc⟩:=wd.1 hm;simp at hc;exact⟨h m hm,m,hm,hc.1,hc.2,rfl⟩
 ·rintro⟨_,m,hm,c1,c2,rfl⟩;exact zL.2 ⟨m,wd.2 ⟨hm,by simp[c1,c2]⟩,rfl⟩
theorem Yg{a:Aut}{l:List Int}{x:Sy}:∀j∈Qu a l x,0≤j∧j<a.fin.length:=fun j hj=>(Wn.1 hj).1
def Qi(p:Prd):Sy:=⟨(Qz p 0).1,(Qz p 0).2⟩
def Gd(Q:List (List Int))(x:List Int):List (List Int):=if x=[]∨x∈Q then Q else Q++[x]
def Wu(Q:List (List Int))(xs:List (List Int)):List (List Int):=xs.foldl Gd Q
def Rp(a:Aut)(cl:List Prd)(l:List Int):List (List Int):=cl.map fun c=>Qu a l (Qi c)
def w0q(a:Aut)(cl:List Prd):Nat→Nat→List (List Int)→Option (List (List Int))
 |0,_,_=>none
 |f+1,i,Q=>match Q[i]? with
  |some l=>if 256<(Wu Q (Rp a cl l)).length then none else w0q a cl f (i+1) (Wu Q (Rp a cl l))
  |none=>some Q
theorem d0w(Q:List (List Int))(x:List Int):∃R,Gd Q x=Q++R∧∀y∈R,y=x∧x≠[]:=by
 unfold Gd;split
 ·exact⟨[],by simp,by simp⟩
 ·rename_i h;exact⟨[x],rfl,fun y hy=>⟨zK.1 hy,fun e=>h (.inl e)⟩⟩
theorem Yu:∀(xs:List (List Int)) (Q:List (List Int)),∃R,Wu Q xs=Q++R∧∀y∈R,y∈xs∧y≠[]
 |[],Q=>⟨[],by simp[Wu],by simp⟩
 |x::xs,Q=>by
  obtain⟨R1,h1,h2⟩:=d0w Q x;obtain⟨R2,h3,h4⟩:=Yu xs (Gd Q x);refine⟨R1++R2,?_,fun y hy=> ?_⟩
  ·show Wu (Gd Q x) xs=_;rw[h3,h1,List.append_assoc]
  ·rcases zN.1 hy with hy|hy
   ·obtain⟨rfl,hn⟩:=h2 y hy;exact⟨by simp,hn⟩
   ·exact⟨by simp[(h4 y hy).1],(h4 y hy).2⟩
theorem Mj(Q xs:List (List Int)):Q.length≤(Wu Q xs).length:=by obtain⟨R,h,_⟩:=Yu xs Q;rw[h];simp
theorem c0d{Q:List (List Int)}{x:List Int}(hx:x≠[]):x∈Gd Q x:=by
 unfold Gd;split
 ·rename_i h;rcases h with h|h
  ·exact absurd h hx
  ·exact h
 ·simp
theorem Ja:∀ {xs:List (List Int)} {Q:List (List Int)} {x:List Int},x∈xs→x≠[]→x∈Wu Q xs
 |[],_,_,h,_=>by cases h
 |y::xs,Q,x,h,hn=>by
  show x∈Wu (Gd Q y) xs;rcases zU.1 h with rfl|h
  ·obtain⟨R,e,_⟩:=Yu xs (Gd Q x);rw[e];exact yT _ (c0d hn)
  ·exact Ja h hn
def q12(Q:List (List Int)):List (List Int)→Option (List (List Int))
 |[]=>some Q
 |x::xs=>if 256<(Gd Q x).length then none else q12 (Gd Q x) xs
end Go.Abs
namespace Go.Abs
def E4(p q:Prd):Prd:=tc (fun a b=>Rm (a++b)) p q
theorem Fs{T:Nat}{p q:Prd}(hp:PWf T p)(hq:PWf T q)(t:Nat)(n:Int):PM (E4 p q) t n↔PM p t n∨PM q t n:=by
 have hf:∀ {a b:List Iv},a∈p→b∈q→∀x∈a++b,x.lo≤x.hi:=fun ha hb x hx=>by
  rcases zN.1 hx with hx|hx
  ·exact(hp.2 _ ha).1.1 x hx
  ·exact(hq.2 _ hb).1.1 x hx
 unfold PM E4;rw[wA];constructor
 ·rintro⟨s,hs,hm⟩;cases h1:p[t]? with
  |none=>rw[h1]at hs;simp at hs
  |some a=>
   cases h2:q[t]? with
   |none=>rw[h1,h2]at hs;simp at hs
   |some b=>
    rw[h1,h2]at hs;simp at hs;subst hs;have:=((Y2 _ (hf (zC h1) (zC h2))).2 n).1 hm;rcases(Jz ..).1 this with h|h
    ·exact .inl ⟨a,rfl,h⟩
    ·exact .inr ⟨b,rfl,h⟩
 ·intro h;have z1:t<T:=by
   rcases h with⟨s,hs,_⟩|⟨s,hs,_⟩
   ·rw[←hp.1];exact(zA.1 hs).1
   ·rw[←hq.1];exact(zA.1 hs).1
  have h1:t<p.length:=by rw[hp.1];exact z1
  have h2:t<q.length:=by rw[hq.1];exact z1
  rw[zF h1,zF h2]at h ⊢;refine⟨_,rfl,((Y2 _ (hf (zH h1) (zH h2))).2 n).2 ((Jz ..).2 ?_)⟩;rcases h with⟨s,hs,hm⟩|⟨s,hs,hm⟩
  ·cases hs;exact .inl hm
  ·cases hs;exact .inr hm
theorem Da{T:Nat}{p q:Prd}(hp:PWf T p)(hq:PWf T q):PWf T (E4 p q):=by
 refine⟨by simp[E4,hp.1,hq.1],fun s hs=> ?_⟩;obtain⟨i,hi⟩:=yB.1 hs;have z1:=hi;unfold E4 at hi;rw[wA]at hi;cases h1:p[i]? with
 |none=>rw[h1]at hi;simp at hi
 |some a=>
  cases h2:q[i]? with
  |none=>rw[h1,h2]at hi;simp at hi
  |some b=>
   rw[h1,h2]at hi;simp at hi;subst hi;refine⟨(Y2 _ fun x hx=> ?_).1,fun n hn=> ?_⟩
   ·rcases zN.1 hx with hx|hx
    ·exact(hp.2 _ (zC h1)).1.1 x hx
    ·exact(hq.2 _ (zC h2)).1.1 x hx
   ·rcases(Fs hp hq i n).1 ⟨_,z1,hn⟩with h|h
    ·exact(hp.lt h).2
    ·exact(hq.lt h).2
def z0h(Q:List (List Int))(x:List Int):Option Nat:=Q.findIdx? fun y=>decide (y=x)
theorem Dv{Q:List (List Int)}{x:List Int}{t:Nat}(h:z0h Q x=some t):Q[t]? =some x:=by unfold z0h at h;obtain⟨h1,h2,_⟩:=xT.1 h;rw[zF h1];simpa using h2
theorem z04{Q:List (List Int)}(hn:Q.Nodup){t:Nat}{x:List Int}(h:Q[t]? =some x):z0h Q x=some t:=by
 unfold z0h;obtain⟨h1,h2⟩:=zA.1 h;refine xT.2 ⟨h1,by simpa using h2,fun j hj=> ?_⟩;have z1:Q[j]≠Q[t]:=fun e=>by have:=(u6 hn).1 e;omega
 rw[h2]at z1;simpa using z1
def U9(n:Nat)(g:List Mv)(to:Nat)(c:Prd):List Mv:=match g.findIdx? fun m:Mv=>decide (m.dst=(to:Int))with
 |none=>g++[⟨n,to,c⟩]
 |some i=>match g[i]? with
  |some m=>g.set i { m with on:=E4 m.on c }
  |none=>g
def Xb(a:Aut)(cl:List Prd)(Q:List (List Int))(n:Nat)(l:List Int):List Mv:=
 cl.foldl (fun g c=>match z0h Q (Qu a l (Qi c))with|some t=>U9 n g t c|none=>g) []
def Vd(a:Aut)(cl:List Prd)(Q:List (List Int)):List Mv:=(yD Q.length).flatMap fun n=>Xb a cl Q n (Q.getD n [])
def Iy(a:Aut)(l:List Int):Bool:=l.any fun s=>a.fin.getD s.toNat false
def Ub(a:Aut)(cl:List Prd)(Q:List (List Int)):Aut:=⟨a.types,Q.map (Iy a),Vd a cl Q⟩
structure MInv (T N n:Nat) (D:Nat→Nat→Int→Prop) (g:List Mv):Prop where
 wf:∀m∈g,PWf T m.on
 src:∀m∈g,m.src=n
 dst:∀m∈g,∃t:Nat,t<N∧m.dst=t
 nd:g.Pairwise (fun m k=>m.dst≠k.dst)
 mem:∀m∈g,∀t:Nat,m.dst=t→∀ty y,PM m.on ty y↔D t ty y
 all:∀t ty y,D t ty y→∃m∈g,m.dst=(t:Int)
theorem MInv.add{T N n:Nat}{D:Nat→Nat→Int→Prop}{g:List Mv}(h:MInv T N n D g){to:Nat}(ht:to<N){c:Prd}(hc:PWf T c)(zh:∃ty y,PM c ty y):
  MInv T N n (fun t ty y=>D t ty y∨(t=to∧PM c ty y)) (U9 n g to c):=by
 unfold U9;cases hf:g.findIdx? fun m:Mv=>decide (m.dst=(to:Int))with
 |none=>
  rw[List.findIdx?_eq_none_iff]at hf;have z7:∀m∈g,m.dst≠(to:Int):=fun m hm=>by simpa using hf m hm
  show MInv T N n _ (g++[⟨n,to,c⟩]);have z1:∀m∈g++[(⟨n,to,c⟩:Mv)],m∈g∨m=⟨n,to,c⟩:=fun m hm=>by
   rcases zN.1 hm with hm|hm
   ·exact .inl hm
   ·exact .inr (zK.1 hm)
  have hD:∀ty y,¬D to ty y:=fun ty y hd=>by obtain⟨m,hm,e⟩:=h.all to ty y hd;exact z7 m hm e
  refine⟨fun m hm=> ?_,fun m hm=> ?_,fun m hm=> ?_,?_,fun m hm t e ty y=> ?_,fun t ty y hd=> ?_⟩
  ·rcases z1 m hm with hm|rfl
   ·exact h.wf m hm
   ·exact hc
  ·rcases z1 m hm with hm|rfl
   ·exact h.src m hm
   ·rfl
  ·rcases z1 m hm with hm|rfl
   ·exact h.dst m hm
   ·exact⟨to,ht,rfl⟩
  ·exact zW.2 ⟨h.nd,by simp,fun m hm k hk=>by obtain rfl:=zK.1 hk;exact z7 m hm⟩
  ·rcases z1 m hm with hm'|rfl
   ·rw[h.mem m hm' t e];constructor
    ·exact fun hd=> .inl hd
    ·rintro(hd|⟨e2,_⟩)
     ·exact hd
     ·exact absurd (by rw[e,e2]) (z7 m hm')
   ·have:t=to:=by simp at e;omega
    subst this;constructor
    ·exact fun hd=> .inr ⟨rfl,hd⟩
    ·rintro(hd|⟨_,hd⟩)
     ·exact absurd hd (hD ty y)
     ·exact hd
  ·rcases hd with hd|⟨rfl,_⟩
   ·obtain⟨m,hm,e⟩:=h.all t ty y hd;exact⟨m,by simp[hm],e⟩
   ·exact⟨⟨n,t,c⟩,by simp,rfl⟩
 |some i=>
  obtain⟨hi,zf,_⟩:=xT.1 hf;simp only[zF hi];have z6:g[i].dst=(to:Int):=by simpa using zf
  have z8:=zH hi;have hw:=h.wf _ z8;have z1:∀m∈g.set i { g[i]with on:=E4 g[i].on c },(m∈g∧m.dst≠(to:Int))∨m={ g[i]with on:=E4 g[i].on c }:=fun m hm=>by
   obtain⟨j,hj⟩:=yB.1 hm;by_cases hij:i=j
   ·subst hij;rw[zG hi]at hj;exact .inr (Option.some.inj hj).symm
   ·rw[zB hij]at hj;obtain⟨zc,zd⟩:=zA.1 hj;refine .inl ⟨zC hj,fun e=> ?_⟩;rcases u7 hij with hlt|hgt
    ·exact yA.1 h.nd i j hi zc hlt (by rw[zd,e,z6])
    ·exact yA.1 h.nd j i zc hi hgt (by rw[zd,e,z6])
  refine⟨fun m hm=> ?_,fun m hm=> ?_,fun m hm=> ?_,?_,fun m hm t e ty y=> ?_,fun t ty y hd=> ?_⟩
  ·rcases z1 m hm with⟨hm,_⟩|rfl
   ·exact h.wf m hm
   ·exact Da hw hc
  ·rcases z1 m hm with⟨hm,_⟩|rfl
   ·exact h.src m hm
   ·have:=h.src g[i] z8;simpa using this
  ·rcases z1 m hm with⟨hm,_⟩|rfl
   ·exact h.dst m hm
   ·exact⟨to,ht,z6⟩
  ·have za:(g.set i { g[i]with on:=E4 g[i].on c }).map (·.dst)=g.map (·.dst):=by
    apply List.ext_getElem?;intro j;rw[zP,zP];by_cases hij:i=j
    ·subst hij;rw[zG hi,zF hi];rfl
    ·rw[zB hij]
   have hp:(g.map (·.dst)).Pairwise (·≠·):=xF.2 h.nd;rw[←za]at hp;exact xF.1 hp
  ·rcases z1 m hm with⟨hm,zg⟩|rfl
   ·rw[h.mem m hm t e];constructor
    ·exact fun hd=> .inl hd
    ·rintro(hd|⟨rfl,_⟩)
     ·exact hd
     ·exact absurd e zg
   ·have:t=to:=by simp only at e;omega
    subst this;have zb:=Fs hw hc ty y;have ze:=h.mem _ z8 t z6 ty y;constructor
    ·intro hd;rcases zb.1 hd with hd|hd
     ·exact .inl (ze.1 hd)
     ·exact .inr ⟨rfl,hd⟩
    ·rintro(hd|⟨_,hd⟩)
     ·exact zb.2 (.inl (ze.2 hd))
     ·exact zb.2 (.inr hd)
  ·rcases hd with hd|⟨rfl,_⟩
   ·obtain⟨m,hm,e⟩:=h.all t ty y hd;obtain⟨j,hj⟩:=yB.1 hm;by_cases hij:i=j
    ·subst hij;rw[zF hi]at hj;cases hj;exact⟨_,zC (zG hi),e⟩
    ·exact⟨m,zC (by rw[zB hij];exact hj),e⟩
   ·exact⟨_,zC (zG hi),z6⟩
theorem MInv.congr{T N n:Nat}{D D':Nat→Nat→Int→Prop}{g:List Mv}(h:MInv T N n D g)(e:∀t ty y,D t ty y↔D' t ty y):MInv T N n D' g:=by have:D=D':=funext fun t=>funext fun ty=>funext fun y=>propext (e t ty y);rw[←this];exact h
theorem Po{T:Nat}{a:Aut}{cl:List Prd}{Q:List (List Int)}(n:Nat)(l:List Int)(hw:∀c∈cl,PWf T c∧∃ty y,PM c ty y):
  MInv T Q.length n (fun t ty y=>∃c∈cl,z0h Q (Qu a l (Qi c))=some t∧PM c ty y) (Xb a cl Q n l):=by
 have key:∀(r:List Prd) (D:Nat→Nat→Int→Prop) (g:List Mv),MInv T Q.length n D g→(∀c∈r,PWf T c∧∃ty y,PM c ty y)→
   MInv T Q.length n (fun t ty y=>D t ty y∨∃c∈r,z0h Q (Qu a l (Qi c))=some t∧PM c ty y) (r.foldl (fun g c=>match z0h Q (Qu a l (Qi c))with|some t=>U9 n g t c|none=>g) g):=by
  intro r;induction r with
  |nil=>intro D g h _;exact h.congr (fun t ty y=>by simp)
  |cons c r ih=>
   intro D g h hr;rw[xH];cases hx:z0h Q (Qu a l (Qi c))with
   |none=>refine(ih D g h (fun d hd=>hr d (by simp[hd]))).congr (fun t ty y=> ?_);simp[hx]
   |some to=>
    have z1:=(zA.1 (Dv hx)).1;have hc:=hr c (by simp);refine(ih _ _ (h.add z1 hc.1 hc.2) (fun d hd=>hr d (by simp[hd]))).congr (fun t ty y=> ?_);simp only[zU,exists_eq_or_imp,hx,Option.some.injEq,or_assoc];constructor
    ·rintro(h|⟨e,h⟩|h)
     ·exact .inl h
     ·exact .inr (.inl ⟨e.symm,h⟩)
     ·exact .inr (.inr h)
    ·rintro(h|⟨e,h⟩|h)
     ·exact .inl h
     ·exact .inr (.inl ⟨e.symm,h⟩)
     ·exact .inr (.inr h)
 have h0:MInv T Q.length n (fun _ _ _=>False) []:=⟨by simp,by simp,by simp,by simp,by simp,fun _ _ _ h=>h.elim⟩
 exact(key cl _ [] h0 hw).congr (fun t ty y=>by simp)
end Go.Abs
namespace Go.Abs
structure Cls (a:Aut) (cl:List Prd):Prop where
 ok:OkA a
 prts:Prts a.types.toNat (a.mv.map (·.on)) cl
 wf:∀c∈cl,PWf a.types.toNat c∧∃ty y,PM c ty y
theorem q14{a:Aut}(h:OkA a):Cls a (Q4 a.types.toNat (a.mv.map (·.on))):=by
 have hT:0<a.types.toNat:=by have:=h.types;omega
 have hp:=(Uf hT (l:=a.mv.map (·.on)) (fun p hp=>by obtain⟨m,hm,rfl⟩:=zL.1 hp;exact(h.mv m hm).on)).1;exact⟨h,hp,fun c hc=>⟨hp.wf c hc,hp.ne c hc⟩⟩
def Wj(a:Aut)(x:Sy):Prop:=(0≤x.ty∧x.ty<a.types)∧inR x.num
theorem w0f{a:Aut}{l:List Int}{x y:Sy}(h:∀m∈a.mv,Rj m.on x=Rj m.on y):Qu a l x=Qu a l y:=by
 refine Tl (Yf ..) (Yf ..) fun z=> ?_;rw[Wn,Wn];constructor
 ·rintro⟨h1,m,hm,h2,h3,h4⟩;exact⟨h1,m,hm,h2,by rw[←h m hm];exact h3,h4⟩
 ·rintro⟨h1,m,hm,h2,h3,h4⟩;exact⟨h1,m,hm,h2,by rw[h m hm];exact h3,h4⟩
theorem Cls.of{a:Aut}{cl:List Prd}(h:Cls a cl){x:Sy}(hx:Wj a x):∃c∈cl,PM c x.ty.toNat x.num∧∀l,Qu a l x=Qu a l (Qi c):=by obtain⟨c,hc,hm⟩:=h.prts.all x.ty.toNat x.num (by have:=hx.1;omega) hx.2;refine⟨c,hc,hm,fun l=>w0f fun m z1=> ?_⟩;have h1:=(W5 (h.wf c hc).1 (h.wf c hc).2).1;have h2:=((h.prts.cls c hc _ _ hm _ _).1 h1).2.2 m.on (zL.2 ⟨m,z1,rfl⟩);have hl:=(h.ok.mv m z1).on.1;rw[xE,Oh hl x hx.1.1,Oh hl (Qi c) (by simp[Qi])];simpa[Qi]using h2
theorem Cls.same{a:Aut}{cl:List Prd}(h:Cls a cl){c:Prd}(hc:c∈cl){x:Sy}(hx:Wj a x)(hm:PM c x.ty.toNat x.num)(l:List Int):Qu a l x=Qu a l (Qi c):=by obtain⟨d,hd,z1,e⟩:=h.of hx;rw[e l,h.prts.disj hd hc z1 hm]
structure Sub (a:Aut) (cl:List Prd) (Q:List (List Int)):Prop where
 first:Q[0]? =some [0]
 nd:Q.Nodup
 ne:∀l∈Q,l≠[]
 lim:Q.length≤256
 elem:∀l∈Q,l.Pairwise (·<·)∧∀s∈l,0≤s∧s<a.fin.length
 closed:∀l∈Q,∀c∈cl,Qu a l (Qi c)=[]∨Qu a l (Qi c)∈Q
theorem Mq{Q:List (List Int)}{x:List Int}(h:Q.Nodup):(Gd Q x).Nodup:=by
 unfold Gd;split
 ·exact h
 ·rename_i hx;exact List.nodup_append.2 ⟨h,by simp,fun a ha b hb e=>by
   obtain rfl:=zK.1 hb;subst e;exact hx (.inr ha)⟩
theorem A8:∀(xs:List (List Int)) {Q:List (List Int)},Q.Nodup→(Wu Q xs).Nodup
 |[],_,h=>h
 |x::xs,Q,h=>A8 xs (Mq (x:=x) h)
theorem v0e{a:Aut}(ha:OkA a)(cl:List Prd):∀(f i:Nat) (Q R:List (List Int)),w0q a cl f i Q=some R→Q[0]? =some [0]→Q.Nodup→(∀l∈Q,l≠[])→Q.length≤256→(∀l∈Q,l.Pairwise (·<·)∧∀s∈l,0≤s∧s<a.fin.length)→
  (∀j,j<i→∀l,Q[j]? =some l→∀c∈cl,Qu a l (Qi c)=[]∨Qu a l (Qi c)∈Q)→Sub a cl R
 |0,_,_,_,h,_,_,_,_,_,_=>by cases h
 |f+1,i,Q,R,h,h1,h2,h3,h4,h5,h6=>by
  rw[w0q]at h;cases hq:Q[i]? with
  |none=>rw[hq]at h;simp only[Option.some.injEq]at h;subst h;have hi:Q.length≤i:=List.getElem?_eq_none_iff.1 hq;refine⟨h1,h2,h3,h4,h5,fun l hl c hc=> ?_⟩;obtain⟨j,hj⟩:=yB.1 hl;exact h6 j (by have:=(zA.1 hj).1;omega) l hj c hc
  |some l=>
   rw[hq]at h;simp only at h;by_cases hlim:256<(Wu Q (Rp a cl l)).length
   ·rw[if_pos hlim]at h;cases h
   ·rw[if_neg hlim]at h;obtain⟨X,hX,z6⟩:=Yu (Rp a cl l) Q;have hlen:0<Q.length:=(zA.1 h1).1;have z1:∀y∈Wu Q (Rp a cl l),y∈Q∨(y≠[]∧∃c∈cl,y=Qu a l (Qi c)):=fun y hy=>by
     rw[hX]at hy;rcases zN.1 hy with hy|hy
     ·exact .inl hy
     ·obtain⟨p1,p2⟩:=z6 y hy;obtain⟨c,hc,rfl⟩:=zL.1 p1;exact .inr ⟨p2,c,hc,rfl⟩
    refine v0e ha cl f (i+1) _ R h ?_ (A8 _ h2) ?_ (by omega) ?_ ?_
    ·rw[hX,zD hlen];exact h1
    ·intro y hy;rcases z1 y hy with hy|⟨hy,_⟩
     ·exact h3 y hy
     ·exact hy
    ·intro y hy;rcases z1 y hy with hy|⟨_,c,_,rfl⟩
     ·exact h5 y hy
     ·exact⟨Yf ..,Yg⟩
    ·intro j hj k hk c hc;by_cases hji:j<i
     ·have z7:j<Q.length:=by have:=(zA.1 hq).1;omega
      rw[hX,zD z7]at hk;rcases h6 j hji k hk c hc with h7|h7
      ·exact .inl h7
      ·right;rw[hX];exact yT _ h7
     ·have:j=i:=by omega
      subst this;rw[hX,zD (zA.1 hq).1,hq]at hk;cases hk;by_cases hn:Qu a l (Qi c)=[]
      ·exact .inl hn
      ·exact .inr (Ja (zL.2 ⟨c,hc,rfl⟩) hn)
def Dg(a:Aut)(cl:List Prd):Option (List (List Int)):=w0q a cl 257 0 [[0]]
theorem x06{a:Aut}(ha:OkA a){cl:List Prd}{Q:List (List Int)}(h:Dg a cl=some Q):Sub a cl Q:=
 v0e ha cl 257 0 [[0]] Q h rfl (by simp) (by simp) (by simp) (by intro l hl;obtain rfl:=zK.1 hl;exact⟨by simp,fun s hs=>by obtain rfl:=zK.1 hs;have:=ha.fin;omega⟩) (fun j hj=>by omega)
theorem Sub.step{a:Aut}{cl:List Prd}{Q:List (List Int)}(hs:Sub a cl Q)(hc:Cls a cl){l:List Int}(hl:l∈Q){x:Sy}(hx:Wj a x):Qu a l x=[]∨Qu a l x∈Q:=by obtain⟨c,h1,_,h3⟩:=hc.of hx;rw[h3 l];exact hs.closed l hl c h1
theorem U2{a:Aut}{cl:List Prd}{Q:List (List Int)}{m:Mv}:m∈Vd a cl Q↔∃n l,Q[n]? =some l∧m∈Xb a cl Q n l:=by
 unfold Vd;rw[xD];constructor
 ·rintro⟨n,hn,hm⟩;have z1:=yJ.1 hn;refine⟨n,Q[n],zF z1,?_⟩;simpa[yP,z1]using hm
 ·rintro⟨n,l,hl,hm⟩;have z1:=(zA.1 hl).1;refine⟨n,yJ.2 z1,?_⟩;simpa[yP,hl]using hm
theorem Sm{a:Aut}{cl:List Prd}{Q:List (List Int)}(hc:Cls a cl)(hs:Sub a cl Q){n:Nat}{l:List Int}(hl:Q[n]? =some l){x:Sy}(hx:Wj a x)(t:Nat):
  (∃m∈Vd a cl Q,m.src=(n:Int)∧m.dst=(t:Int)∧Rj m.on x=true)↔Q[t]? =some (Qu a l x):=by
 have hg:=Po (a:=a) (Q:=Q) n l hc.wf;have key:z0h Q (Qu a l x)=some t↔Q[t]? =some (Qu a l x):=⟨Dv,z04 hs.nd⟩
 rw[←key];constructor
 ·rintro⟨m,hm,h1,h2,h3⟩;obtain⟨n',l',hl',z6⟩:=U2.1 hm;have z7:=Po (a:=a) (Q:=Q) n' l' hc.wf;have:n'=n:=by have:=z7.src m z6;omega
  subst this;rw[hl]at hl';cases hl';rw[Oh (hg.wf m z6).1 x hx.1.1]at h3;obtain⟨c,z1,e1,e2⟩:=(hg.mem m z6 t h2 _ _).1 h3;rw[hc.same z1 hx e2];exact e1
 ·intro h;obtain⟨c,z1,e1,e2⟩:=hc.of hx;rw[e2]at h;obtain⟨m,hm,hd⟩:=hg.all t _ _ ⟨c,z1,h,e1⟩;refine⟨m,U2.2 ⟨n,l,hl,hm⟩,hg.src m hm,hd,?_⟩;rw[Oh (hg.wf m hm).1 x hx.1.1];exact(hg.mem m hm t hd _ _).2 ⟨c,z1,h,e1⟩
theorem g03{a:Aut}{cl:List Prd}{Q:List (List Int)}(hc:Cls a cl)(hs:Sub a cl Q){n:Nat}{l:List Int}(hl:Q[n]? =some l){x:Sy}(hx:Wj a x):
  (Qu a l x=[]∧Qu (Ub a cl Q) [(n:Int)] x=[])∨∃t:Nat,Q[t]? =some (Qu a l x)∧Qu (Ub a cl Q) [(n:Int)] x=[(t:Int)]:=by
 have z1:∀j,j∈Qu (Ub a cl Q) [(n:Int)] x↔∃t:Nat,j=t∧Q[t]? =some (Qu a l x):=fun j=>by
  rw[Wn];constructor
  ·rintro⟨⟨h1,h2⟩,m,hm,h3,h4,h5⟩;refine⟨j.toNat,by omega,(Sm hc hs hl hx j.toNat).1 ⟨m,hm,zK.1 h3,by omega,h4⟩⟩
  ·rintro⟨t,rfl,ht⟩;obtain⟨m,hm,h1,h2,h3⟩:=(Sm hc hs hl hx t).2 ht;have:=(zA.1 ht).1;exact⟨⟨by omega,by simp[Ub];omega⟩,m,hm,by rw[h1];simp,h3,h2⟩
 rcases hs.step hc (zC hl) hx with h0|h0
 ·refine .inl ⟨h0,x_.2 fun j hj=> ?_⟩;obtain⟨t,_,ht⟩:=(z1 j).1 hj;rw[h0]at ht;exact hs.ne _ (zC ht) rfl
 ·obtain⟨t,ht⟩:=yB.1 h0;refine .inr ⟨t,ht,Tl (Yf ..) (by simp) fun z=> ?_⟩;rw[z1 z];constructor
  ·rintro⟨u,rfl,hu⟩;obtain⟨h1,h2⟩:=zA.1 ht;obtain⟨h3,h4⟩:=zA.1 hu;have:u=t:=(u6 hs.nd).1 (by rw[h4,h2]);simp[this]
  ·intro hz;exact⟨t,zK.1 hz,ht⟩
def Is(a:Aut)(l:List Int)(w:List Sy):List Int:=w.foldl (Qu a) l
def En(a:Aut)(w:List Sy):Bool:=Iy a (Is a [0] w)
theorem V2(a:Aut):∀w,Is a [] w=[]
 |[]=>rfl
 |x::w=>by
  show Is a (Qu a [] x) w=[]
  have:Qu a [] x=[]:=x_.2 fun j hj=>by obtain⟨_,m,_,h,_⟩:=Wn.1 hj;cases h
  rw[this,V2 a w]
theorem u08{a:Aut}{cl:List Prd}{Q:List (List Int)}(hc:Cls a cl)(hs:Sub a cl Q):∀(w:List Sy),(∀x∈w,Wj a x)→∀(n:Nat) (l:List Int),Q[n]? =some l→
  (Is a l w=[]∧Is (Ub a cl Q) [(n:Int)] w=[])∨∃t:Nat,Q[t]? =some (Is a l w)∧Is (Ub a cl Q) [(n:Int)] w=[(t:Int)]
 |[],_,n,l,hl=> .inr ⟨n,hl,rfl⟩
 |x::w,hw,n,l,hl=>by
  show(Is a (Qu a l x) w=[]∧Is (Ub a cl Q) (Qu (Ub a cl Q) [(n:Int)] x) w=[])∨∃t:Nat,Q[t]? =some (Is a (Qu a l x) w)∧Is (Ub a cl Q) (Qu (Ub a cl Q) [(n:Int)] x) w=[(t:Int)]
  rcases g03 hc hs hl (hw x (by simp))with⟨h1,h2⟩|⟨t,h1,h2⟩
  ·rw[h1,h2];exact .inl ⟨V2 _ _,V2 _ _⟩
  ·rw[h2];exact u08 hc hs w (fun y hy=>hw y (by simp[hy])) t _ h1
theorem w1o{a:Aut}{cl:List Prd}{Q:List (List Int)}(hc:Cls a cl)(hs:Sub a cl Q){w:List Sy}(hw:∀x∈w,Wj a x):En (Ub a cl Q) w=En a w:=by
 unfold En;rcases u08 hc hs w hw 0 [0] hs.first with⟨h1,h2⟩|⟨t,h1,h2⟩
 ·have z1:Is (Ub a cl Q) [0] w=[]:=h2;rw[h1,z1];rfl
 ·have z1:Is (Ub a cl Q) [0] w=[(t:Int)]:=h2;rw[z1];simp only[Iy,Ub,List.any_cons,List.any_nil,Bool.or_false,Int.toNat_natCast,yP,zP,h1,Option.map_some,Option.getD_some]
def Z0(a:Aut):Prop:=a.mv.Pairwise (fun m k=>m.src=k.src→∀x:Sy,Wj a x→¬(Rj m.on x=true∧Rj k.on x=true))
theorem Mm{a:Aut}{cl:List Prd}{Q:List (List Int)}(hc:Cls a cl)(hs:Sub a cl Q):Z0 (Ub a cl Q):=by
 unfold Z0;show(Vd a cl Q).Pairwise _;unfold Vd;rw[vJ];constructor
 ·intro n hn;have z1:=yJ.1 hn;have hl:Q[n]? =some Q[n]:=zF z1;have hg:Q.getD n []=Q[n]:=by simp[yP,z1]
  rw[hg];have hi:=Po (a:=a) (Q:=Q) n Q[n] hc.wf;refine hi.nd.imp_of_mem (fun {m k} hm hk hne _ x hx=> ?_);rintro⟨h1,h2⟩;obtain⟨t1,_,e1⟩:=hi.dst m hm;obtain⟨t2,_,e2⟩:=hi.dst k hk;have z6:Wj a x:=hx;have d1:=(Sm hc hs hl z6 t1).1 ⟨m,U2.2 ⟨n,_,hl,hm⟩,hi.src m hm,e1,h1⟩;have d2:=(Sm hc hs hl z6 t2).1 ⟨k,U2.2 ⟨n,_,hl,hk⟩,hi.src k hk,e2,h2⟩;obtain⟨p1,p2⟩:=zA.1 d1;obtain⟨p3,p4⟩:=zA.1 d2;have:t1=t2:=(u6 hs.nd).1 (by rw[p2,p4]);exact hne (by rw[e1,e2,this])
 ·refine List.pairwise_lt_range.imp (fun {i j} hij m hm k hk e=> ?_);exfalso;have h1:∀n m,m∈Xb a cl Q n (Q.getD n [])→m.src=(n:Int):=fun n m hm=>(Po (a:=a) (Q:=Q) n _ hc.wf).src m hm;have:=h1 i m hm;have:=h1 j k hk;omega
end Go.Abs
namespace Go.Abs
theorem Kr{l:List Iv}(h:Sep l)(hb:∀n,M l n→inR n):Sep (Yv l)∧(∀n,M (Yv l) n↔inR n∧¬M l n)∧(Yv l).length≤l.length+1:=by
 have z1:∀x∈l,inR x.lo∧inR x.hi:=fun x hx=>⟨hb _ ⟨x,hx,yI _,h.1 x hx⟩,hb _ ⟨x,hx,h.1 x hx,yI _⟩⟩
 have:=Uv l (-1099511627776) (fun x hx=>⟨h.1 x hx,(z1 x hx).2.2⟩) h.2 (fun x hx=>(z1 x hx).1.1);exact⟨this.1,fun n=>by rw[Yv,this.2.1,inR,and_assoc],this.2.2⟩
theorem Sw{T:Nat}{p:Prd}(hp:PWf T p)(t:Nat)(n:Int):PM (Ry p) t n↔(t<T∧inR n)∧¬PM p t n:=by
 unfold PM Ry;rw[zP];constructor
 ·rintro⟨s,hs,hm⟩;obtain⟨a,ha,rfl⟩:=zJ.1 hs;have hw:=hp.2 a (zC ha);have hg:=((Kr hw.1 hw.2).2.1 n).1 hm;refine⟨⟨by rw[←hp.1];exact(zA.1 ha).1,hg.1⟩,?_⟩;rintro⟨b,hb,z1⟩;rw[ha]at hb;cases hb;exact hg.2 z1
 ·rintro⟨⟨h1,h2⟩,h3⟩;have hl:t<p.length:=by rw[hp.1];exact h1
  have hw:=hp.2 _ (zH hl);exact⟨Yv p[t],by rw[zF hl];rfl,((Kr hw.1 hw.2).2.1 n).2 ⟨h2,fun hm=>h3 ⟨_,zF hl,hm⟩⟩⟩
theorem Jn{T:Nat}{p:Prd}(hp:PWf T p):PWf T (Ry p):=⟨by simp[Ry,hp.1],fun s hs=>by
 obtain⟨a,ha,rfl⟩:=zL.1 hs;have hw:=hp.2 a ha;exact⟨(Kr hw.1 hw.2).1,fun n hn=>(((Kr hw.1 hw.2).2.1 n).1 hn).1⟩⟩
def Lk(T:Nat)(ps:List Prd):Prd:=(yD T).map fun i=>Rm (Q3 ps i)
theorem Ld{T:Nat}{ps:List Prd}(h:∀p∈ps,PWf T p)(i:Nat):∀x∈Q3 ps i,x.lo≤x.hi:=fun x hx=>by
 obtain⟨p,hp,hx⟩:=Rn.1 hx;have hm:p.getD i []=[]∨p.getD i []∈p:=by
  by_cases hi:i<p.length
  ·exact .inr (by rw[W1 hi];exact zH hi)
  ·exact .inl (by simp[yP,hi])
 rcases hm with e|hm
 ·rw[e]at hx;cases hx
 ·exact((h p hp).2 _ hm).1.1 x hx
theorem Hy{T:Nat}{ps:List Prd}(h:∀p∈ps,PWf T p)(t:Nat)(n:Int):PM (Lk T ps) t n↔∃p∈ps,PM p t n:=by
 unfold PM Lk;rw[zP];constructor
 ·rintro⟨s,hs,hm⟩;obtain⟨i,hi,rfl⟩:=zJ.1 hs;obtain⟨z6,e⟩:=zA.1 hi;rw[List.getElem_range]at e;subst e;obtain⟨x,hx,h1⟩:=((Y2 _ (Ld h t)).2 n).1 hm;obtain⟨p,hp,hx⟩:=Rn.1 hx;have ht:t<T:=by simpa using z6
  have z1:t<p.length:=by rw[(h p hp).1];exact ht
  rw[W1 z1]at hx;exact⟨p,hp,p[t],zF z1,x,hx,h1⟩
 ·rintro⟨p,hp,s,hs,x,hx,h1⟩;obtain⟨z1,e⟩:=zA.1 hs;have ht:t<T:=by rw[←(h p hp).1];exact z1
  refine⟨Rm (Q3 ps t),by simp[ht],((Y2 _ (Ld h t)).2 n).2 ⟨x,Rn.2 ⟨p,hp,?_⟩,h1⟩⟩;rw[W1 z1,e];exact hx
theorem Fa{T:Nat}{ps:List Prd}(h:∀p∈ps,PWf T p):PWf T (Lk T ps):=by
 refine⟨by simp[Lk],fun s hs=> ?_⟩;obtain⟨i,hi,rfl⟩:=zL.1 hs;refine⟨(Y2 _ (Ld h i)).1,fun n hn=> ?_⟩;have:PM (Lk T ps) i n:=⟨Rm (Q3 ps i),by simp[Lk,yJ.1 hi],hn⟩
 obtain⟨p,hp,hm⟩:=(Hy h i n).1 this;exact((h p hp).lt hm).2
theorem x14{T:Nat}{c:Prd}(h:PWf T c):Lk T [c]=c:=
 Db (Fa (by simpa using h)) h fun t n=>by rw[Hy (by simpa using h)];simp
theorem w1k{T:Nat}{p q:Prd}(hp:PWf T p)(hq:PWf T q):Lk T [p,q]=E4 p q:=by
 have h:∀x∈[p,q],PWf T x:=fun x hx=>by
  rcases zU.1 hx with rfl|hx
  ·exact hp
  ·obtain rfl:=zK.1 hx;exact hq
 exact Db (Fa h) (Da hp hq) fun t n=>by rw[Hy h,Fs hp hq];simp
def x0n(a:Aut)(s:Int):List Prd:=(a.mv.filter fun m=>decide (m.src=s)).map (·.on)
def Sk(a:Aut)(s:Int):Prd:=Ry (Lk a.types.toNat (x0n a s))
def q0c(a:Aut)(s:Int):Prd:=(x0n a s).foldl (fun r p=>Ez r (Ry p)) (Wg a.types.toNat)
structure WfA (a:Aut):Prop where
 types:1≤a.types∧a.types≤16
 fin:1≤a.fin.length
 src:∀m∈a.mv,0≤m.src∧m.src<a.fin.length
 dst:∀m∈a.mv,0≤m.dst∧m.dst<a.fin.length
 on:∀m∈a.mv,PWf a.types.toNat m.on
theorem OkA.wfA{a:Aut}(h:OkA a):WfA a:=⟨h.types,h.fin.1,fun m hm=>(h.mv m hm).src,fun m hm=>(h.mv m hm).dst,fun m hm=>(h.mv m hm).on.wf⟩
theorem Bj{a:Aut}(h:WfA a)(s:Int):∀p∈x0n a s,PWf a.types.toNat p:=fun p hp=>by obtain⟨m,hm,rfl⟩:=zL.1 hp;exact h.on m (wd.1 hm).1
theorem Kg{a:Aut}(h:WfA a)(s:Int)(t:Nat)(n:Int):PM (Sk a s) t n↔(t<a.types.toNat∧inR n)∧∀p∈x0n a s,¬PM p t n:=by rw[Sk,Sw (Fa (Bj h s)),Hy (Bj h s)];simp
theorem Bw{a:Aut}(h:WfA a)(s:Int):PWf a.types.toNat (Sk a s):=Jn (Fa (Bj h s))
theorem Zs{T:Nat}:∀(l:List Prd) (r:Prd),(∀p∈l,PWf T p)→PWf T r→PWf T (l.foldl (fun r p=>Ez r (Ry p)) r)∧
  ∀t n,PM (l.foldl (fun r p=>Ez r (Ry p)) r) t n↔PM r t n∧∀p∈l,¬PM p t n
 |[],r,_,hr=>⟨hr,fun t n=>by simp⟩
 |p::l,r,hl,hr=>by
  have hp:=hl p (by simp);obtain⟨h1,h2⟩:=Zs l (Ez r (Ry p)) (fun q hq=>hl q (by simp[hq])) (Y7 hr (Jn hp).1);refine⟨h1,fun t n=> ?_⟩;rw[xH,h2,E8 hr.1 (Jn hp).1,Sw hp];constructor
  ·rintro⟨⟨a,b,c⟩,d⟩;refine⟨a,fun q hq=> ?_⟩;rcases zU.1 hq with rfl|hq
   ·exact c
   ·exact d q hq
  ·rintro⟨a,d⟩;exact⟨⟨a,hr.lt a,d p (by simp)⟩,fun q hq=>d q (by simp[hq])⟩
theorem y17{a:Aut}(h:WfA a)(s:Int):q0c a s=Sk a s:=by obtain⟨h1,h2⟩:=Zs (x0n a s) (Wg a.types.toNat) (Bj h s) (Mb _);exact Db h1 (Bw h s) fun t n=>by rw[q0c,h2,Kg h,Sv]
theorem Lz{a:Aut}(h:WfA a)(s:Int):W2 (Sk a s)=true↔∀t n,t<a.types.toNat→inR n→∃p∈x0n a s,PM p t n:=by
 rw[Rb (Bw h s)];constructor
 ·intro hv t n ht hn;have:=hv t n;rw[Kg h]at this;by_cases hc:∃p∈x0n a s,PM p t n
  ·exact hc
  ·exact absurd ⟨⟨ht,hn⟩,fun p hp hm=>hc ⟨p,hp,hm⟩⟩ this
 ·intro hv t n;rw[Kg h];rintro⟨⟨ht,hn⟩,hx⟩;obtain⟨p,hp,hm⟩:=hv t n ht hn;exact hx p hp hm
def Xl(a:Aut):Bool:=decide (256<a.fin.length) || decide (2048<a.mv.length) || a.mv.any fun m=>m.on.any fun s=>decide (256<s.length)
theorem j1o{a:Aut}(h:WfA a):We a=0↔Xl a=false:=by
 rw[I3];unfold Xl;simp only[Bool.or_eq_false_iff,decide_eq_false_iff_not,wJ,decide_eq_true_eq];constructor
 ·rintro⟨h1,h2,h3,h4⟩;exact⟨⟨by omega,by omega⟩,fun m hm=>by
   simp only[ug,wJ,decide_eq_true_eq];exact fun s hs=>by have:=((h4 m hm).on.2 s hs).len;omega⟩
 ·rintro⟨⟨h1,h2⟩,h3⟩;refine⟨h.types,⟨h.fin,by omega⟩,by omega,fun m hm=>⟨h.src m hm,h.dst m hm,(h.on m hm).1,fun s hs=> ?_⟩⟩;have hw:=(h.on m hm).2 s hs;have:=h3 m hm;simp only[ug,wJ,decide_eq_true_eq]at this;exact Zv hw.1 (y0d hw.1 hw.2) (by have:=this s hs;omega)
def q00(a:Aut):Int×Aut:=if Xl a then(5,Ou)else(0,a)
def f1h(a:Aut):Int×Aut:=if We a≠0 then(5,Ou)else(0,a)
theorem k1w{a c:Aut}(h:WfA a)(hl:q00 a=(0,c)):c=a∧OkA a:=by
 unfold q00 at hl;cases hb:Xl a
 ·rw[hb,if_neg (by simp)]at hl;exact⟨(Prod.mk.inj hl).2.symm,(I3 a).1 ((j1o h).2 hb)⟩
 ·rw[hb,if_pos rfl]at hl;cases(Prod.mk.inj hl).1
theorem w1h{a:Aut}:(q00 a).1=0∨(q00 a).1=5:=by
 unfold q00;split
 ·exact .inr rfl
 ·exact .inl rfl
end Go.Abs
namespace Go.Abs
def V6(a:Aut)(lack:Int→Prd):List Mv:=(yD a.fin.length).filterMap fun s:Nat=>if W2 (lack s)then none else some ⟨s,a.fin.length,lack s⟩
def q25(a:Aut):Aut:=⟨a.types,a.fin++[false],a.mv++V6 a (Sk a)++[⟨a.fin.length,a.fin.length,Wg a.types.toNat⟩]⟩
def z0o(a:Aut):Int×Aut:=if(V6 a (Sk a)).isEmpty then(0,a)else q00 (q25 a)
def Z9(a:Aut):Bool:=(yD a.fin.length).all fun s:Nat=>W2 (q0c a s)
def w2s(a:Aut):Int×Aut:=if Z9 a then(0,a)else f1h ⟨a.types,a.fin++[false],a.mv++V6 a (q0c a)++[⟨a.fin.length,a.fin.length,Wg a.types.toNat⟩]⟩
theorem Cc{a:Aut}{lack:Int→Prd}{m:Mv}:m∈V6 a lack↔∃s:Nat,s<a.fin.length∧W2 (lack s)=false∧m=⟨s,a.fin.length,lack s⟩:=by
 unfold V6;rw[ww];constructor
 ·rintro⟨s,hs,h⟩;cases hv:W2 (lack s)
  ·rw[hv,if_neg (by simp)]at h;cases h;exact⟨s,yJ.1 hs,hv,rfl⟩
  ·rw[hv,if_pos rfl]at h;cases h
 ·rintro⟨s,hs,hv,rfl⟩;exact⟨s,yJ.2 hs,by rw[hv,if_neg (by simp)]⟩
theorem L5{a:Aut}{lack:Int→Prd}:V6 a lack=[]↔∀s:Nat,s<a.fin.length→W2 (lack s)=true:=by
 rw[x_];constructor
 ·intro h s hs;cases hv:W2 (lack s)
  ·exact absurd (Cc.2 ⟨s,hs,hv,rfl⟩) (h _)
  ·rfl
 ·intro h m hm;obtain⟨s,hs,hv,_⟩:=Cc.1 hm;rw[h s hs]at hv;cases hv
def c0y(a:Aut):Prop:=∀s:Int,0≤s→s<a.fin.length→∀x,Wj a x→∃m∈a.mv,m.src=s∧Rj m.on x=true
theorem g0i{a:Aut}{x:Sy}(h:Wj a x):x.ty.toNat<a.types.toNat∧inR x.num∧0≤x.ty:=⟨by have:=h.1;omega,h.2,h.1.1⟩
theorem Y0{a:Aut}(h:WfA a){m:Mv}(hm:m∈a.mv){x:Sy}(hx:Wj a x):Rj m.on x=true↔PM m.on x.ty.toNat x.num:=Oh (h.on m hm).1 x hx.1.1
theorem y0y{a:Aut}{s:Int}{p:Prd}:p∈x0n a s↔∃m∈a.mv,m.src=s∧m.on=p:=by
 unfold x0n;rw[zL];constructor
 ·rintro⟨m,hm,e⟩;have:=wd.1 hm;exact⟨m,this.1,by simpa using this.2,e⟩
 ·rintro⟨m,hm,hs,e⟩;exact⟨m,wd.2 ⟨hm,by simpa using hs⟩,e⟩
theorem g0e{a:Aut}(h:WfA a):V6 a (Sk a)=[]↔c0y a:=by
 rw[L5];constructor
 ·intro hv s h0 h1 x hx;have hs:=hv s.toNat (by omega);rw[show((s.toNat:Nat):Int)=s by omega,Lz h]at hs;obtain⟨k1,k2,_⟩:=g0i hx;obtain⟨p,hp,hm⟩:=hs _ _ k1 k2;obtain⟨m,z1,e,rfl⟩:=y0y.1 hp;exact⟨m,z1,e,(Y0 h z1 hx).2 hm⟩
 ·intro hf s hs;rw[Lz h];intro t n ht hn;have hx:Wj a ⟨t,n⟩:=⟨⟨by simp,by simp only;omega⟩,hn⟩
  obtain⟨m,hm,e,hh⟩:=hf s (by omega) (by omega) _ hx;exact⟨m.on,y0y.2 ⟨m,hm,e,rfl⟩,by have:=(Y0 h hm hx).1 hh;simpa using this⟩
theorem runIn{a:Aut}:∀(w:List Sy) (l:List Int),(∀j∈l,0≤j∧j<a.fin.length)→∀j∈Is a l w,0≤j∧j<a.fin.length
 |[],_,hl=>hl
 |x::w,_,_=>runIn w _ (fun _ hj=>Yg _ hj)
theorem z1z{a:Aut}(h:WfA a):∀j∈[(0:Int)],0≤j∧j<a.fin.length:=fun j hj=>by obtain rfl:=zK.1 hj;have:=h.fin;omega
theorem g0y{a:Aut}{l:List Int}:Iy a l=true↔∃s∈l,a.fin.getD s.toNat false=true:=by rw[Iy,wH]
end Go.Abs
namespace Go.Abs
def Ya(T:Int):List Prd→Int
 |[]=>0
 |p::r=>if Ew T p≠0 then Ew T p else Ya T r
def Af(L:List Prd):Bool:=decide (256<L.length) || L.any fun p=>p.any fun s=>decide (256<s.length)
def Ri(T:Int)(l:List Prd):Int×List Prd:=if T<1∨16<T then(2,[])else if 256<l.length then(5,[])else if Ya T l≠0 then(Ya T l,[])else
 if Af (Eg T.toNat l)then(5,[])else(0,Eg T.toNat l)
def Km(T:Int)(l:List Prd):Int×List Prd:=if T<1∨16<T then(2,[])else if 256<l.length then(5,[])else if Ya T l≠0 then(Ya T l,[])else
 if Af (Q4 T.toNat l)then(5,[])else(0,Q4 T.toNat l)
theorem Uy{T:Int}:∀(l:List Prd),Ya T l=0↔∀p∈l,Ew T p=0
 |[]=>by simp[Ya]
 |p::r=>by
  rw[Ya];by_cases h:Ew T p=0
  ·rw[if_neg (fun k=>k h),Uy r];simp[h]
  ·rw[if_pos h];exact⟨fun k=>absurd k h,fun k=>absurd (k p (by simp)) h⟩
theorem v02(T:Int)(l:List Prd):Km T l=Ri T l:=by
 unfold Km Ri;split
 ·rfl
 ·rename_i hT;split
  ·rfl
  ·split
   ·rfl
   ·rename_i hc;have z1:∀p∈l,PCk T.toNat p:=fun p hp=>((W7 T p).1 ((Uy l).1 (by simpa using hc) p hp)).2;rw[Ha (by omega) z1]
theorem u0v{T:Int}(hT:1≤T∧T≤16){l:List Prd}(hl:∀p∈l,PCk T.toNat p):(Ri T l).1=5∨Ri T l=(0,Q4 T.toNat l):=by
 unfold Ri;have hc:Ya T l=0:=(Uy l).2 fun p hp=>(W7 T p).2 ⟨hT,hl p hp⟩;rw[if_neg (by omega)];split
 ·exact .inl rfl
 ·rw[if_neg (by simp[hc])];split
  ·exact .inl rfl
  ·exact .inr (by rw[Ha (by omega) hl])
def onA(a:Aut):List Prd:=a.mv.map (·.on)
def Ov(a:Aut):Int×List Prd×List (List Int):=if We a≠0 then(We a,[],[])else
 if(Ri a.types (onA a)).1≠0 then((Ri a.types (onA a)).1,[],[])else
 match Dg a (Ri a.types (onA a)).2 with
 |none=>(5,[],[])
 |some Q=>(0,(Ri a.types (onA a)).2,Q)
def Ef(a:Aut):Int×Aut:=if(Ov a).1≠0 then((Ov a).1,Ou)else q00 (Ub a (Ov a).2.1 (Ov a).2.2)
def c1e(a:Aut):Int×Aut:=if We a≠0 then(We a,Ou)else z0o a
def g1x(a:Aut):Aut:={ a with fin:=a.fin.map (!·) }
def w2q(a:Aut):Int×Aut:=if(Ef a).1≠0 then((Ef a).1,Ou)else if(z0o (Ef a).2).1≠0 then((z0o (Ef a).2).1,Ou)else(0,g1x (z0o (Ef a).2).2)
theorem B6{a:Aut}(h:OkA a):∀p∈onA a,PCk a.types.toNat p:=fun p hp=>by obtain⟨m,hm,rfl⟩:=zL.1 hp;exact(h.mv m hm).on
theorem Fe{a:Aut}(h:OkA a):Ov a=(5,[],[])∨∃Q,Ov a=(0,Q4 a.types.toNat (onA a),Q)∧Dg a (Q4 a.types.toNat (onA a))=some Q∧Sub a (Q4 a.types.toNat (onA a)) Q∧Cls a (Q4 a.types.toNat (onA a)):=by
 unfold Ov;rw[if_neg (fun k=>k ((I3 a).2 h))];rcases u0v h.types (B6 h)with hm|hm
 ·rw[if_pos (by rw[hm];decide),hm];exact .inl rfl
 ·rw[hm,if_neg (by simp)];cases hs:Dg a (Q4 a.types.toNat (onA a))with
  |none=>exact .inl rfl
  |some Q=>exact .inr ⟨Q,rfl,rfl,x06 h hs,q14 h⟩
theorem j0d{a:Aut}(h:We a≠0):Ov a=(We a,[],[]):=if_pos h
theorem P4{a:Aut}{cl:List Prd}{Q:List (List Int)}(hc:Cls a cl){m:Mv}(hm:m∈Vd a cl Q):(∃n:Nat,n<Q.length∧m.src=n)∧(∃t:Nat,t<Q.length∧m.dst=t)∧PWf a.types.toNat m.on:=by obtain⟨n,l,hl,hg⟩:=U2.1 hm;have hi:=Po (a:=a) (Q:=Q) n l hc.wf;exact⟨⟨n,(zA.1 hl).1,hi.src m hg⟩,hi.dst m hg,hi.wf m hg⟩
theorem v1i{a:Aut}{cl:List Prd}{Q:List (List Int)}(hc:Cls a cl)(hs:Sub a cl Q):WfA (Ub a cl Q):=by
 have h0:=(zA.1 hs.first).1;have hl:(Ub a cl Q).fin.length=Q.length:=by simp[Ub]
 refine⟨hc.ok.types,by omega,fun m hm=> ?_,fun m hm=> ?_,fun m hm=>(P4 hc hm).2.2⟩
 ·obtain⟨⟨n,h1,h2⟩,_⟩:=P4 hc hm;rw[hl,h2];omega
 ·obtain⟨_,⟨n,h1,h2⟩,_⟩:=P4 hc hm;rw[hl,h2];omega
theorem Ug{a d:Aut}(h:OkA a)(hd:Ef a=(0,d)):∃Q,Dg a (Q4 a.types.toNat (onA a))=some Q∧Sub a (Q4 a.types.toNat (onA a)) Q∧Cls a (Q4 a.types.toNat (onA a))∧
  Ov a=(0,Q4 a.types.toNat (onA a),Q)∧d=Ub a (Q4 a.types.toNat (onA a)) Q∧OkA d∧Z0 d∧d.types=a.types∧∀w,(∀x∈w,Wj a x)→En d w=En a w:=by
 unfold Ef at hd;rcases Fe h with hs|⟨Q,hs,hq,z1,z6⟩
 ·rw[hs,if_pos (by decide)]at hd;cases(Prod.mk.inj hd).1
 ·rw[hs,if_neg (by simp)]at hd;obtain⟨rfl,hk⟩:=k1w (v1i z6 z1) hd;exact⟨Q,hq,z1,z6,hs,rfl,hk,Mm z6 z1,rfl,fun w hw=>w1o z6 z1 hw⟩
theorem j0i{a:Aut}(h:OkA a):(Ef a).1=0∨(Ef a).1=5:=by
 unfold Ef;rcases Fe h with hs|⟨Q,hs,_⟩
 ·rw[hs];exact .inr rfl
 ·rw[hs,if_neg (by simp)];exact w1h
theorem d0v{a:Aut}(hw:WfA a)(hd:Z0 a)(hf:c0y a){s:Int}(h0:0≤s)(h1:s<a.fin.length){x:Sy}(hx:Wj a x):∃t:Int,0≤t∧t<a.fin.length∧Qu a [s] x=[t]:=by
 obtain⟨m,hm,e,hh⟩:=hf s h0 h1 x hx;refine⟨m.dst,(hw.dst m hm).1,(hw.dst m hm).2,Tl (Yf ..) (by simp) fun z=> ?_⟩;rw[Wn];constructor
 ·rintro⟨_,k,hk,h2,h3,h4⟩;obtain h2:=zK.1 h2;have:k=m∨k.dst=m.dst:=by
   obtain⟨i,hi⟩:=yB.1 hm;obtain⟨j,hj⟩:=yB.1 hk;obtain⟨z7,z1⟩:=zA.1 hi;obtain⟨z8,z6⟩:=zA.1 hj;by_cases hij:i=j
   ·subst hij;left;rw[←z1,←z6]
   ·exfalso;rcases u7 hij with hlt|hgt
    ·have:=yA.1 hd i j z7 z8 hlt;rw[z1,z6]at this;exact this (by rw[e,h2]) x hx ⟨hh,h3⟩
    ·have:=yA.1 hd j i z8 z7 hgt;rw[z1,z6]at this;exact this (by rw[e,h2]) x hx ⟨h3,hh⟩
  rcases this with rfl|this
  ·rw[←h4];simp
  ·rw[←h4,this];simp
 ·intro hz;obtain rfl:=zK.1 hz;exact⟨hw.dst m hm,m,hm,by rw[e];simp,hh,rfl⟩
theorem c02{a:Aut}{cl:List Prd}(hc:Cls a cl){c:Prd}(hm:c∈cl):Wj a (Qi c):=by have h:=(W5 (hc.wf c hm).1 (hc.wf c hm).2).1;have h2:=(hc.wf c hm).1.lt h;exact⟨⟨by simp[Qi],by simp only[Qi];omega⟩,h2.2⟩
end Go.Abs
namespace Go.Abs
def q1r(p:Prd):Bool:=decide (p.length≤4) && p.all fun s=>decide (s.length≤12)
def Ci(a:Aut):Bool:=decide (a.fin.length≤8) && decide (a.mv.length≤16) && a.mv.all fun m=>q1r m.on
theorem J4{p:Prd}:q1r p=true↔p.length≤4∧∀s∈p,s.length≤12:=by simp[q1r]
theorem N5{a:Aut}:Ci a=true↔a.fin.length≤8∧a.mv.length≤16∧∀m∈a.mv,m.on.length≤4∧∀s∈m.on,s.length≤12:=by simp only[Ci,Bool.and_eq_true,decide_eq_true_eq,zM,J4,and_assoc]
def q29(a:Aut)(l:List Int)(x:Sy):Int×List Int:=if We a≠0 then(We a,[])else if 256<l.length then(5,[])else
 if l.any (fun s=>decide (s<0) || decide ((a.fin.length:Int)≤s))then(6,[])else if Fc a.types x≠0 then(Fc a.types x,[])else(0,Qu a l x)
theorem C5{n:Nat}{l:List Int}(h:l.Pairwise (·<·))(hr:∀s∈l,0≤s∧s<n):l.length≤n:=by
 have he:l=(Wo n).filter fun z=>decide (z∈l):=Tl h ((L8 n).filter _) fun z=>by rw[wd,Wq];exact⟨fun hz=>⟨hr z hz,by simpa using hz⟩,fun hz=>by simpa using hz.2⟩
 have h1:=wY (fun z=>decide (z∈l)) (Wo n);rw[←he]at h1;simpa[Wo]using h1
theorem Jm{a:Aut}(h:OkA a)(l:List Int)(x:Sy):(Qu a l x).length≤256:=by have:=C5 (Yf a l x) Yg;have:=h.fin;omega
def z0m(p q:Prd):Bool:= !W2 (Ez p q)
def Lp(a:Aut):Bool:=(yD a.mv.length).all fun i=>(yD i).all fun k=> !(decide ((a.mv.getD i default).src=(a.mv.getD k default).src) && z0m (a.mv.getD i default).on (a.mv.getD k default).on)
theorem Kz{T:Nat}{p q:Prd}(hp:PWf T p)(hq:PWf T q):z0m p q=true↔∃t n,PM p t n∧PM q t n:=by
 unfold z0m;cases hv:W2 (Ez p q)
 ·simp only[Bool.not_false,true_iff];apply Classical.byContradiction;intro hn;have:=(Rb (Y7 hp hq.1)).2 (fun t n hm=>hn ⟨t,n,(E8 hp.1 hq.1 t n).1 hm⟩);rw[hv]at this;cases this
 ·simp only[Bool.not_true,Bool.false_eq_true,false_iff];rintro⟨t,n,hm⟩;exact(Rb (Y7 hp hq.1)).1 hv t n ((E8 hp.1 hq.1 t n).2 hm)
theorem Vq{a:Aut}(h:WfA a):Lp a=true↔Z0 a:=by
 unfold Lp Z0;rw[zM,yA];have hg:∀(i:Nat) (hi:i<a.mv.length),a.mv.getD i default=a.mv[i]:=fun i hi=>by simp[yP,hi]
 constructor
 ·intro hs i j hi hj z6 e x hx;rintro⟨h1,h2⟩;have:=hs j (yJ.2 hj);rw[zM]at this;have:=this i (yJ.2 z6);rw[hg j hj,hg i hi,e]at this;have hc:z0m a.mv[j].on a.mv[i].on=true:=(Kz (h.on _ (zH hj)) (h.on _ (zH hi))).2 ⟨_,_,(Y0 h (zH hj) hx).1 h2,(Y0 h (zH hi) hx).1 h1⟩;rw[hc]at this;simp at this
 ·intro hd i hi;have hi:=yJ.1 hi;rw[zM];intro k hk;have hk:=yJ.1 hk;have z1:k<a.mv.length:=by omega
  rw[hg i hi,hg k z1];by_cases e:a.mv[i].src=a.mv[k].src
  ·cases hc:z0m a.mv[i].on a.mv[k].on
   ·simp
   ·exfalso;obtain⟨t,n,h1,h2⟩:=(Kz (h.on _ (zH hi)) (h.on _ (zH z1))).1 hc;have hb:=(h.on _ (zH hi)).lt h1;have hx:Wj a ⟨t,n⟩:=⟨⟨by simp,by simp only;omega⟩,hb.2⟩
    exact hd k i z1 hi hk e.symm ⟨t,n⟩ hx ⟨(Y0 h (zH z1) hx).2 (by simpa using h2),(Y0 h (zH hi) hx).2 (by simpa using h1)⟩
  ·simp[e]
end Go.Abs
