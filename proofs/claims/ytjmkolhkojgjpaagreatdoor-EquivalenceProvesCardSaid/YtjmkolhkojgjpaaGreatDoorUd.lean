/- Part Ud of the proof: steps on the way to the last part. No condition. -/
import Derived.Test.YtjmkolhkojgjpaaGreatDoorUc
set_option linter.all false
open List renaming take_append_drop->xO,mem_append->zV,mem_cons->zZ,foldl_cons->xS,take_succ_eq_append_getElem->zR,eq_nil_or_concat->vD,getElem?_append_right->zH,concat_eq_append->vE,take_length->yB,length_map->zY,drop_length->xH,getElem_of_mem->yY,getElem_mem->zK,any_eq_true->wP,any_eq_false->vu,replicate->yI,cons_append->u7,length_cons->yV,length_filter_le->xG,perm_middle->vJ,pairwise_append->yE,pairwise_cons->yP,pairwise_iff_getElem->yJ,getElem_take->tB,pairwise_mergeSort->uj,mem_mergeSort->tw,nil_append->xZ,mem_flatMap->xV,mem_filterMap->wI,countP_cons->vB,countP_eq_zero->tq,map_cons->xA,sum_cons->uG,getElem?_eq_some_iff->zB,mem_of_getElem?->zJ,getElem?_eq_getElem->zI,perm_ext_iff_of_nodup->ua,zipWith->sc,getElem?_replicate->vW,eq_of_mem_replicate->wY,getElem?_zipWith->vw,mem_iff_getElem?->yK,getElem?_map->zU,all_eq_true->zW,isEmpty_iff->tJ,mem_singleton->zP,pairwise_flatMap->vA,range->yR,getD->yS,getElem?_set_self->zL,getElem?_set_ne->zE,mem_cons_of_mem->tl,map_congr_left->xC,mem_map->zO,mem_range->yT,pairwise_map->xI,mem_filter->xJ,mem_append_left->yX,findIdx?_eq_some_iff_getElem->xM,getElem_inj->u3,nodup_append->vN,getElem?_eq_none_iff->uS,getElem?_append_left->zF,eq_nil_iff_forall_not_mem->w_,mem_append_right->vF,foldl_append->wL,reverse_cons->uD,reverse_reverse->un
open Nat renaming le_trans->yL,le_refl->zQ,zero_le->yW,lt_trichotomy->wT,lt_or_gt_of_ne->uK
open Bool renaming eq_iff_iff->xT,not_eq_true->ut
open Int renaming le_refl->yZ,lt_trichotomy->tI
open Option renaming map_eq_some_iff->zS
set_option maxHeartbeats 2000000
set_option linter.unusedSimpArgs false
set_option maxRecDepth 100000
open Go.Proofs.Tryz
namespace Go.Abs
section
open Go Go.Proofs
def Eu(l:List Iv):List Iv:=Qv [] (E8 l)
def W8(ini:List Iv)(y x:Iv):W6 (ini++[y]) x=if x.lo<=y.hi+1 then ini++[⟨y.lo,if y.hi<x.hi then x.hi else y.hi⟩]else ini++[y]++[x]:=by simp[W6]
def k13(s:List Iv)(x y:Iv):y∈V4 s x↔y=x\/y∈s:=by
 have:(s.take (Yn s x s.length)++s.drop (Yn s x s.length))=s:=xO _ _;rw[V4,zV,zZ]
 conv=>rhs;rw[<-this,zV]
 constructor<;>rintro(h|h|h)<;>simp[h]
def Ly:∀(l acc:List Iv) (y:Iv),y∈l.foldl V4 acc↔y∈acc\/y∈l
 |[],acc,y=>by simp
 |x::r,acc,y=>by
  rw[xS,Ly r,k13,zZ];constructor
  ·rintro((h|h)|h)<;>simp[h]
  rintro(h|h|h)<;>simp[h]
def f0o(l:List Iv)(y:Iv):y∈E8 l↔y∈l:=by rw[E8,Ly];simp
attribute [local irreducible] E8
def x1n(l:List Iv)(hl:l.length<=1000000000)(zk:∀y∈l,Oh y):PC prog 250 [LIv l] (λr=>r=LIv (Eu l)):=by
 refine pcB func250 results250 ntmps250 ?_;simp only[Qe];repeat(refine s_ ?_;simp)
 refine pcL (d0i l hl) ?_;simp;repeat(refine s_ ?_;simp)
 have hl':(E8 l).length<=1000000000:=by rw[K5];exact hl
 have z8:∀y∈E8 l,Oh y:=λy hy=>zk y ((f0o l y).1 hy);unfold Eu;generalize E8 l=s at hl' z8 |-;refine Qz 4 144 2 rfl ?_;simp;refine Qj (Qc (sl':=[(3,LIv s),(4,.sl 0 2 0 0),(5,.i 0)]) ?_ (by simp));refine Qi (F:=λ(u:Nat×Nat×List AObj)=>⟨[(3,LIv s),(4,.sl u.2.1 2 0 (Qv [] (s.take u.1)).length),(5,.i u.1)],u.2.2⟩)
  (λu=>u.1<=s.length/\u.2.2[u.2.1]?=some (.arr 144 2 ((Qv [] (s.take u.1)).map encIv))) (λu=>s.length - u.1) ?_ (0,0,[.arr 144 2 []]) ⟨by simp,rfl⟩
 rintro⟨j,q,H2⟩ ⟨hj,g1⟩ ih;simp only at hj g1 ih |-;repeat(refine s_ ?_;simp)
 refine Qa rfl (λzl=>?_) (λzm=>?_)
 ·have z1:j<s.length:=by simpa using zl
  have hw:=wz j (by omega);have zc:(Qv [] (s.take j)).length<=1000000000:=yL (R6 _ _) (by simp;omega);have zd:∀y∈Qv [] (s.take j),Oh y:=Pp _ _ (by simp) (λy hy=>z8 y (List.mem_of_mem_take hy));have zh:Qv [] (s.take (j+1))=W6 (Qv [] (s.take j)) s[j]:=by rw[zR z1,Iz]
  have z6:∀(q':Nat) (H':List AObj),H'[q']?=some (.arr 144 2 ((W6 (Qv [] (s.take j)) s[j]).map encIv))->_:=λq' H' h=>ih (j+1,q',H') ⟨by simp;omega,by rw[zh];exact h⟩ (by simp;omega);clear ih;simp only[zh]at z6;generalize Qv [] (s.take j)=acc at g1 zc zd z6 |-;repeat(refine s_ ?_;simp)
  rcases vD acc with rfl|⟨ini,y,rfl⟩
  ·have zi:IntKind.i64.wrap (-1)= -1:=by decide
   repeat(refine s_ ?_;simp[zi])
   refine Ql tOk mixed [] (.val 0 (.val 1 (.val 2 (.val 3 (.val 4 (.val 5 (.val 6 (.val 7 (.val 8 (.val 9 (.val 10 (.val 11 (.val 12 (.val 13 (.val 14 (.val 15 (.done))))))))))))))))) rfl (by kernel_rfl) ?_;simp[zi,z1,g1];refine Qq rfl ?_;simp;repeat(refine s_ ?_;simp[z1,g1])
   refine apS Ox Fe ?_;simp[Qb g1,Qg g1];refine⟨by simp[Wf,Qb g1,Qg g1]<;>omega,?_⟩;repeat(refine s_ ?_;simp[hw])
   exact Qc (sl':=[(3,LIv s),(4,.sl (H2.length+1) 2 0 1),(5,.i (j+1:Nat))]) (z6 (H2.length+1) _ (by rw[zH (by simp)];simp[W6])) (by simp)
  have hy:=zd y (by simp);have zn:=(Ec _).1 hy.2;have zj:IntKind.i64.wrap (y.hi+1)=y.hi+1:=wrap_i64 _ (by omega) (by omega);rw[vE]at g1 zc zd z6 |-;have hlen:(ini++[y]).length=ini.length+1:=by simp
  rw[hlen]at zc |-;have zb:IntKind.i64.wrap (ini.length:Int)=ini.length:=wrap_i64 _ (by omega) (by omega);have hg:((ini++[y]).map encIv)[ini.length]?=some (encIv y):=by simp
  have z7:(ini.length:Int)<ini.length+1:=by omega
  repeat(refine s_ ?_;simp[zb])
  have za:¬((ini.length:Int)<0):=by omega
  refine Ql tOk mixed [] (.val 0 (.val 1 (.val 2 (.val 3 (.val 4 (.val 5 (.val 6 (.val 7 (.val 8 (.val 9 (.val 10 (.val 11 (.val 12 (.val 13 (.val 14 (.val 15 (.done))))))))))))))))) rfl (by kernel_rfl) ?_;simp[z1,g1,zb,hg,zj,z7,za];rw[W8]at z6;refine Qa rfl (λh1=>?_) (λh1=>?_)
  ·have ze:¬(s[j].lo<=y.hi+1):=by simp at h1;omega
   rw[if_neg ze]at z6;repeat(refine s_ ?_;simp[z1,g1])
   refine apS Ox Fe ?_;simp[Qb g1,Qg g1];refine⟨by simp[Wf,Qb g1,Qg g1]<;>omega,?_⟩;repeat(refine s_ ?_;simp[hw])
   exact Qc (sl':=[(3,LIv s),(4,.sl (H2.length+1) 2 0 (ini.length+1+1)),(5,.i (j+1:Nat))]) (by
    have:=z6 (H2.length+1) (H2.set q .dead++[.arr 144 2 [encIv s[j]],.arr 144 2 ((ini++[y]++[s[j]]).map encIv)]) (by rw[zH (by simp)];simp);simpa using this) (by simp)
  have ze:s[j].lo<=y.hi+1:=by simp at h1;omega
  rw[if_pos ze]at z6;repeat(refine s_ ?_;simp)
  refine Ql tOk mixed [] (.val 0 (.val 1 (.val 2 (.val 3 (.val 4 (.val 5 (.val 6 (.val 7 (.val 8 (.val 9 (.val 10 (.done)))))))))))) rfl (by kernel_rfl) ?_;simp[z1,g1,zb,hg,zj,z7,za];refine Qa rfl (λh2=>?_) (λh2=>?_)
  ·have zf:y.hi<s[j].hi:=by simpa using h2
   rw[if_pos zf]at z6;repeat(refine s_ ?_;simp[z1,g1,hg,zb,z7,hw])
   exact Qc (sl':=[(3,LIv s),(4,.sl q 2 0 (ini.length+1)),(5,.i (j+1:Nat))]) (by
    have:=z6 q (H2.set q (.arr 144 2 ((ini++[(⟨y.lo,s[j].hi⟩:Iv)]).map encIv))) (Qh g1 _);simpa using this) (by simp)
  have zf:¬(y.hi<s[j].hi):=by simpa using h2
  rw[if_neg zf]at z6;repeat(refine s_ ?_;simp[hw])
  exact Qc (sl':=[(3,LIv s),(4,.sl q 2 0 (ini.length+1)),(5,.i (j+1:Nat))]) (by
   have:=z6 q H2 g1;simpa using this) (by simp)
 have zg:j=s.length:=by simp at zm;omega
 subst zg;rw[yB]at g1;repeat(refine s_ ?_;simp[g1])
 rw[List.take_of_length_le (by simp)]
end
section
open Go Go.Proofs
attribute [local irreducible] Eu
attribute [local irreducible] G5
def k2u(a b c d:Int):eqA T 9 144 (.agg [.int .i64 a,.int .i64 b]) (.agg [.int .i64 c,.int .i64 d])=some (a==c && b==d):=by simp[eqA,Y1,Sn,TI.agg]
def w24(a b:List Iv):PC prog 143 [LIv a,LIv b] (λr=>r= .bool (decide (a=b))):=by
 refine pcB func143 results143 ntmps143 ?_;simp only[Qe];refine Yb 0 rfl (λhlen=>?_);rw[zY]at hlen;repeat(refine s_ ?_;simp)
 refine Qa rfl (λh=>?_) (λh=>?_)
 ·repeat(refine s_ ?_;simp)
  have:a≠b:=λe=>by subst e;simp at h
  simp[this]
 have zc:a.length=b.length:=by simp at h;omega
 repeat(refine s_ ?_;simp)
 refine Qs a.length (λj=>decide (a=b)=decide (a.drop j=b.drop j)) (λj=>[(0,LIv a),(1,LIv b),(5,.i j)]) (λ_=>[]) rfl (by simp) (by simp) (by simp) (by simp) (by simp) ?_;intro j hj hI ih;repeat(refine s_ ?_;simp)
 refine Qa rfl (λza=>?_) (λzb=>?_)
 ·have z1:j<a.length:=by simpa using za
  have z6:j<b.length:=by omega
  have z7:(j:Int)<b.length:=by omega
  have hw:=wz j (by omega);rw[Wx z1,Wx z6]at hI;repeat(refine s_ ?_;simp)
  refine Ql tOk mixed [] (.val 0 (.val 1 (.val 2 (.val 3 (.val 4 (.val 5 (.val 6 (.val 7 (.val 8 (.done)))))))))) rfl (by kernel_rfl) ?_;simp[z1,z6,z7,k2u];refine Qa rfl (λh2=>?_) (λh2=>?_)
  ·repeat(refine s_ ?_;simp)
   have:a≠b:=λe=>by subst e;simp at h2
   simp[this]
  repeat(refine s_ ?_;simp[hw])
  have he:a[j]=b[j]:=by cases hx:a[j];cases hy:b[j];rw[hx,hy]at h2;simpa using h2
  refine Qp _ (ih z1 ?_) rfl (by simp) ?_ (by simp) (by simp)
  ·rw[hI,he];simp only[List.cons.injEq,true_and]
  simp
 have z8:j=a.length:=by simp at zb;omega
 subst z8;rw[xH,List.drop_of_length_le (by omega)]at hI;repeat(refine s_ ?_;simp)
 simpa using hI
def u2z(l:List Iv):PC prog 144 [LIv l] (λr=>r= .bool (decide ((l.length:Int)<=12))):=by refine pcB func144 results144 ntmps144 ?_;simp only[Qe];repeat(refine s_ ?_;simp)
end
section
open Go Go.Proofs
attribute [simp] T68
@[simp] def encL (l:List Iv):AV:= .list (l.map encIv)
attribute [local irreducible] ckR
end
section
open Go Go.Proofs
structure CanonL (l:List Iv):Prop where
 len:l.length<=256
 one:∀y∈l,G5 y=0
 gap:∀j,∀h:j+1<l.length,l[j].hi+2<=l[j+1].lo
def Mb{l:List Iv}{j:Nat}{x:Iv}(h:j<l.length)(hi:Oh l[j]):c0e l (j+1) x=decide (x.lo<l[j].hi+2):=by have h1:=(Ec _).1 hi.2;have:W (l[j].hi+2)=l[j].hi+2:=wrap_i64 _ (by omega) (by omega);simp[c0e,h,this]
def H9(l:List Iv)(hl:l.length<=256):∀(n j:Nat),l.length - j=n->j<=l.length->(∀h:0<j,∀h':j - 1<l.length,G5 l[j - 1]=0)->(O5 l j (l.drop j)=0↔(∀i,j<=i->∀h:i<l.length,G5 l[i]=0)/\∀i,j<=i+1->∀h:i+1<l.length,l[i].hi+2<=l[i+1].lo)
 |0,j,hn,hj,_=>by
  have:j=l.length:=by omega
  subst this;rw[xH,O5];exact⟨λ_=>⟨λi h1 h2=>by omega,λi h1 h2=>by omega⟩,λ_=>rfl⟩
 |n+1,j,hn,hj,hp=>by
  have z6:j<l.length:=by omega
  rw[Wx z6,O5];by_cases h1:(G5 l[j] != 0)=true
  ·rw[if_pos h1];have z1:G5 l[j]≠0:=by simpa using h1
   exact⟨λh=>absurd h z1,λh=>absurd (h.1 j (zQ _) z6) z1⟩
  rw[if_neg h1];have z1:G5 l[j]=0:=by simpa using h1
  have ih:=H9 l hl n (j+1) (by omega) (by omega) (λ_ _=>z1);by_cases h2:c0e l j l[j]=true
  ·rw[if_pos h2];refine⟨λh=>(by cases h),λh=>?_⟩;rcases j with _|j
   ·simp[c0e]at h2
   have hq:G5 l[j]=0:=hp (by omega) (by simp;omega);rw[Mb (by omega) (Na hq).1]at h2;have:=h.2 j (zQ _) z6;simp at h2;omega
  rw[if_neg h2,ih];constructor
  ·rintro⟨a,b⟩;refine⟨λi hi h=>?_,λi hi h=>?_⟩
   ·by_cases e:i=j
    ·subst e;exact z1
    exact a i (by omega) h
   by_cases e:j=i+1
   ·subst e;have hq:G5 l[i]=0:=hp (by omega) (by simp;omega);rw[Mb (by omega) (Na hq).1]at h2;simp at h2;exact h2
   exact b i (by omega) h
  rintro⟨a,b⟩;exact⟨λi hi h=>a i (by omega) h,λi hi h=>b i (by omega) h⟩
def N5(l:List Iv):ckR l=0↔CanonL l:=by
 rw[ckR];by_cases h:decide ((256:Int)<l.length)=true
 ·rw[if_pos h];simp at h;exact⟨λe=>(by cases e),λe=>(by have:=e.len;omega)⟩
 rw[if_neg h];simp at h;have hl:l.length<=256:=by omega
 have:=H9 l hl l.length 0 rfl (yW _) (λh=>by omega);rw[List.drop_zero]at this;rw[this];constructor
 ·rintro⟨a,b⟩;refine⟨hl,λy hy=>?_,λj h=>b j (by omega) h⟩;obtain⟨i,hi,rfl⟩:=yY hy;exact a i (by omega) hi
 rintro⟨_,a,b⟩;exact⟨λi _ h=>a _ (zK h),λi _ h=>b i h⟩
def CanonL.iv{l:List Iv}(h:CanonL l){j:Nat}(hj:j<l.length): -1099511627776<=l[j].lo/\l[j].lo<=l[j].hi/\l[j].hi<=1099511627776:=by obtain⟨⟨h1,h2⟩,h3⟩:=Na (h.one _ (zK hj));have:=(Ec _).1 h1;have:=(Ec _).1 h2;omega
attribute [local irreducible] ckR
end
section
open Go Go.Proofs
attribute [local irreducible] ckR
def c1p:List Iv->Int->Int×Int
 |[],_=>(0,2)
 |x::r,i=>if i<x.hi - x.lo+1 then(x.lo+i,0)else c1p r (i - (x.hi - x.lo+1))
def atR(l:List Iv)(i:Int):Int×Int:=if ckR l=0 then(if i<0 then(0,2)else c1p l i)else(0,ckR l)
def x0b(x:Iv)(n:Int):Int:=if x.hi<n then -1 else if n<x.lo then 1 else 0
def c01(x:Iv)(n:Int):PC prog 222 [encIv x,.i n] (λr=>r= .i (x0b x n)):=by
 refine pcB func222 results222 ntmps222 ?_;simp only[Qe];simp only[encIv];repeat(refine s_ ?_;simp)
 refine Qa rfl (λh=>?_) (λh=>?_)
 ·repeat(refine s_ ?_;simp)
  rw[x0b,if_pos (by simpa using h)]
 repeat(refine s_ ?_;simp)
 refine Qa rfl (λh2=>?_) (λh2=>?_)
 ·repeat(refine s_ ?_;simp)
  rw[x0b,if_neg (by simpa using h),if_pos (by simpa using h2)]
 repeat(refine s_ ?_;simp)
 rw[x0b,if_neg (by simpa using h),if_neg (by simpa using h2)]
def J5(l:List Iv)(n:Int):Bool:=l.any λx=>decide (x.lo<=n) && decide (n<=x.hi)
def P2{l:List Iv}(hc:CanonL l):∀ {i j:Nat},i<j->∀(hj:j<l.length),∀(hi:i<l.length),l[i].hi+2<=l[j].lo:=by
 intro i j z1 hj hi;obtain⟨d,rfl⟩:∃d,j=i+1+d:=⟨j - (i+1),by omega⟩
 induction d with
 |zero=>exact hc.gap i hj
 |succ d ih=>
  have h1:=ih (by omega) (by omega);have h2:=hc.gap (i+1+d) (by omega);have h3:=hc.iv (show i+1+d<l.length by omega);have h4:i+1+(d+1)=i+1+d+1:=by omega
  simp only[h4];omega
def J0(x:Iv)(n:Int):x0b x n<0↔x.hi<n:=by
 unfold x0b;by_cases h:x.hi<n
 ·rw[if_pos h];simp[h]
 rw[if_neg h];by_cases h2:n<x.lo
 ·rw[if_pos h2];simp[h]
 rw[if_neg h2];simp[h]
def d1m(x:Iv)(n:Int):x0b x n=0↔x.lo<=n/\n<=x.hi:=by
 unfold x0b;by_cases h:x.hi<n
 ·rw[if_pos h];constructor<;>intro h'<;>omega
 rw[if_neg h];by_cases h2:n<x.lo
 ·rw[if_pos h2];constructor<;>intro h'<;>omega
 rw[if_neg h2];constructor<;>intro h'<;>omega
def j2g{i j m:Nat}(hm:(i+j) / 2=m)(h:i+j<=1000000000):IntKind.i64.wrap ((IntKind.u64.wrap ((i:Int)+j)).fdiv (2 ^ min 1 IntKind.u64.bits))=m:=by
 have h1:IntKind.u64.wrap ((i:Int)+j)=i+j:=by simp[IntKind.wrap,IntKind.bits,IntKind.signed];omega
 have h2:min 1 IntKind.u64.bits=1:=by decide
 rw[h1,h2,Int.fdiv_eq_ediv_of_nonneg _ (by decide),wrap_i64 _ (by omega) (by omega)];omega
attribute [local irreducible] x0b
def Bi(l:List Iv)(n:Int)(hc:CanonL l):PC prog 221 [LIv l,.i n,.fn (.func 222) [] []] (λr=>∃k:Int,r= .tup [.i k,.bool (J5 l n)]):=by
 refine pcB func221 results221 ntmps221 ?_;simp only[Qe];have hlen:=hc.len;repeat(refine s_ ?_;simp)
 refine Qj (Qc (sl':=[(0,LIv l),(1,.i n),(2,.fn (.func 222) [] []),(8,.i l.length),(9,.i 0),(10,.i l.length)]) ?_ (by simp));refine Qi (F:=λ(u:Nat×Nat)=>⟨[(0,LIv l),(1,.i n),(2,.fn (.func 222) [] []),(8,.i l.length),(9,.i u.1),(10,.i u.2)],[]⟩) (λu=>u.1<=u.2/\u.2<=l.length/\(∀k,k<u.1->∀hk:k<l.length,x0b l[k] n<0)/\(∀k,u.2<=k->∀hk:k<l.length,¬x0b l[k] n<0)) (λu=>u.2 - u.1) ?_ (0,l.length) ⟨by simp,by simp,λk hk=>by simp at hk,λk hk z1=>by simp only at hk;omega⟩;rintro⟨i,j⟩ ⟨h1,h2,h3,h4⟩ ih;simp only at h1 h2 h3 h4 ih |-;repeat(refine s_ ?_;simp)
 refine Qa rfl (λzd=>?_) (λze=>?_)
 ·have zf:i<j:=by simpa using zd
  have hw:IntKind.i64.wrap ((i:Int)+j)=i+j:=wrap_i64 _ (by omega) (by omega);obtain⟨m,hm⟩:∃m,(i+j) / 2=m:=⟨_,rfl⟩
  have z8:IntKind.i64.wrap ((IntKind.u64.wrap ((i:Int)+j)).fdiv (2 ^ min 1 IntKind.u64.bits))=m:=j2g hm (by omega);have z6:m<l.length:=by omega
  have za:(m:Int)<l.length:=by omega
  have zg:=wz m (by omega);repeat(refine s_ ?_;simp[hw,z8,z6,za])
  refine pcL (c01 l[m] n) ?_;simp;refine Qa rfl (λh5=>?_) (λh5=>?_)
  ·repeat(refine s_ ?_;simp[zg])
   refine Qc (sl':=[(0,LIv l),(1,.i n),(2,.fn (.func 222) [] []),(8,.i l.length),(9,.i (m+1:Nat)),(10,.i j)]) (ih (m+1,j) ⟨by simp only;omega,h2,λk hk z1=>?_,h4⟩ (by simp only;omega)) (by simp);have zh:=hc.iv z1;have zi:=hc.iv z6;have z7:x0b l[m] n<0:=by simpa using h5
   by_cases e:k=m
   ·subst e;exact z7
   have:=P2 hc (show k<m by omega) z6 z1;rw[J0]at z7 |-;omega
  repeat(refine s_ ?_;simp)
  refine Qc (sl':=[(0,LIv l),(1,.i n),(2,.fn (.func 222) [] []),(8,.i l.length),(9,.i i),(10,.i m)]) (ih (i,m) ⟨by simp only;omega,by simp only;omega,h3,λk hk z1=>?_⟩ (by simp only;omega)) (by simp);have zh:=hc.iv z1;have zi:=hc.iv z6;have z7:¬x0b l[m] n<0:=by simpa using h5
  by_cases e:k=m
  ·subst e;exact z7
  have:=P2 hc (show m<k by omega) z1 z6;rw[J0]at z7 |-;omega
 have zb:i=j:=by simp at ze;omega
 subst zb;by_cases hil:i<l.length
 ·repeat(refine s_ ?_;simp[hil])
  refine pcL (c01 l[i] n) ?_;simp;repeat(refine s_ ?_;simp)
  have hh:J5 l n=(x0b l[i] n==0):=by
   rw[xT,beq_iff_eq,d1m,J5,wP];constructor
   ·rintro⟨x,hx,zc⟩;obtain⟨k,hk,rfl⟩:=yY hx;simp at zc;have e:k=i:=by
     by_cases e1:k<i
     ·have:=(J0 _ _).1 (h3 k e1 hk);omega
     by_cases e2:i<k
     ·have:=P2 hc e2 hk hil;have:¬l[i].hi<n:=λe=>h4 i (zQ _) hil ((J0 l[i] n).2 e);omega
     omega
    subst e;exact zc
   intro h;exact⟨l[i],zK hil,by simpa using h⟩
  rw[hh]
 repeat(refine s_ ?_;simp[hil])
 refine Qx rfl rfl ?_;simp;repeat(refine s_ ?_;simp)
 have hh:J5 l n=false:=by rw[J5,vu];intro x hx;obtain⟨k,hk,rfl⟩:=yY hx;have:=(J0 _ _).1 (h3 k (by omega) hk);simp;intro _;omega
 rw[hh]
def u2a(l:List Iv)(n:Int)(hc:CanonL l):PC prog 165 [LIv l,.i n] (λr=>r= .bool (J5 l n)):=by
 refine pcB func165 results165 ntmps165 ?_;simp only[Qe];repeat(refine s_ ?_;simp)
 refine v0y rfl rfl (by simp) (Bi l n hc) rfl ?_;rintro _ ⟨k,rfl⟩;simp;repeat(refine s_ ?_;simp)
attribute [local irreducible] J5
def g1c(l:List Iv)(n:Int):Bool×Int:=if ckR l=0 then(J5 l n,0)else(false,ckR l)
def H7(l:List Iv)(n:Int):PC prog 103 [LIv l,.i n] (λr=>r= .tup [.bool (g1c l n).1,.i (g1c l n).2]):=by
 refine pcB func103 results103 ntmps103 ?_;simp only[Qe];repeat(refine s_ ?_;simp)
 refine pcL (y0e l) ?_;simp;repeat(refine s_ ?_;simp)
 refine Qa rfl (λh=>?_) (λh=>?_)
 ·repeat(refine s_ ?_;simp)
  rw[g1c,if_neg (by simpa using h)];exact⟨rfl,rfl⟩
 have h0:ckR l=0:=by simpa using h
 repeat(refine s_ ?_;simp)
 refine pcL (u2a l n ((N5 l).1 h0)) ?_;simp;repeat(refine s_ ?_;simp)
 rw[g1c,if_pos h0];exact⟨rfl,rfl⟩
end
section
open Go Go.Proofs
attribute [local irreducible] ckR
end
section
open Go Go.Proofs
end
section
open Go Go.Proofs Go.RowKit Go.Shelf Go.Lib Go.Sort
def Tk(zs:List Int):List Int:=zs.mergeSort λx y=>decide (x<=y)
def Dp(zs:List Int):(Tk zs).length=zs.length:=by simp[Tk]
def L1(H:List AObj)(p:Nat)(zs:List Int)(hp:H[p]?=some (.arr 3 1 (zs.map (AV.int .i64))))(hl:zs.length<=1000000):
  FC prog 171 [.sl p 1 0 zs.length] H (λr H'=>r= .tup []/\H'=H.set p (.arr 3 1 ((Tk zs).map (AV.int .i64)))):=by
 refine(w1l (xs:=zs.map (AV.int .i64)) (rest:=[]) (Th func171 rfl rfl) (by simp) hp (g2e zs) [] (λw I m vs a b=>by simpa using a) (λz1=>z1=(Tk zs).map (AV.int .i64)) ?_ ?_).mono ?_
 ·intro b cap w hH hb hc;have:=Tryz.slices_Sort_int b 0 cap zs w (Nn hH) hb (by omega);refine Calls.mono (by simpa using this) ?_;rintro e w' ⟨rfl,n,os,rfl⟩;exact⟨rfl,_,((Tk zs).map (Value.int .i64)).toArray,n,os,rfl,by simp[Dp],g2e _,by rw[Zg];rfl⟩
 ·rintro h;have z6:zs=[]:=by simpa using h
  subst z6;exact⟨by simp[Tk],λw=>by simpa using Tryz.slices_Sort_int_none none 0 w⟩
 rintro r H' ⟨rfl,z1,rfl,rfl⟩;exact⟨rfl,rfl⟩
def Ds(H:List AObj)(p:Nat)(zs:List Int)(hp:H[p]?=some (.arr 3 1 (zs.map (AV.int .i64))))(hl:zs.length<=1000000)(z6:(Lib.compact zs).length<=zs.length):
  FC prog 172 [.sl p 1 0 zs.length] H (λr H'=>r= .sl p 1 0 (Lib.compact zs).length/\∃G:List Int,H'=H.set p (.arr 3 1 ((Lib.compact zs++G).map (AV.int .i64)))):=by
 refine(y2r (xs:=zs.map (AV.int .i64)) (Th func172 rfl rfl) (by simp) hp (g2e zs) (λz1 n=>n=(Lib.compact zs).length/\∃G:List Int,z1=(Lib.compact zs++G).map (AV.int .i64)) (λys n h=>by rw[h.1];exact z6) ?_ ?_).mono ?_
 ·intro b cap w hH hb hc hm;have:=Tryz.slices_Compact_int b 0 cap zs w (Nn hH) (by omega) hc;refine Calls.mono (by simpa using this) ?_;rintro e w' ⟨rfl,q,rfl⟩;exact⟨_,((Lib.compact zs++yI (zs.length - (Lib.compact zs).length) 0).map (Value.int .i64)).toArray,q,_,rfl,⟨rfl,_,rfl⟩,by simp;omega,g2e _,by rw[<-Zg]⟩
 ·rintro h;have z7:zs=[]:=by simpa using h
  subst z7;exact⟨⟨rfl,[],rfl⟩,λw=>by simpa using Tryz.slices_Compact_int_empty none 0 w⟩
 rintro r H' ⟨z1,n,rfl,⟨rfl,G,rfl⟩,rfl⟩;exact⟨rfl,G,rfl⟩
end
section
open Go Go.Proofs
attribute [simp] T47
def q04:List Iv->List Int
 |[]=>[]
 |x::r=>x.lo::(x.hi+1)::q04 r
def v0i:∀(l:List Iv) (x:Iv),q04 (l++[x])=q04 l++[x.lo,x.hi+1]
 |[],x=>rfl
 |y::r,x=>by rw[u7,q04,v0i r,q04];rfl
def c03:∀(l:List Iv),(q04 l).length=2 * l.length
 |[]=>rfl
 |x::r=>by rw[q04,yV,yV,c03 r,yV];omega
def k19(l:List Iv):List Int:=Lib.compact (Tk (q04 l))
def A5(zs:List Int):(Lib.compact zs).length<=zs.length:=by unfold Lib.compact Lib.compactUpTo;rw[zY];exact yL (xG _ _) (by simp)
attribute [local irreducible] ckR J5 W6 Tk Lib.compact q04
end
section
open Go Go.Proofs
attribute [local irreducible] ckR
end
def push_comm(acc:List Iv)(x y:Iv)(h:x.lo=y.lo)(hx:x.lo<=x.hi)(hy:y.lo<=y.hi):W6 (W6 acc x) y=W6 (W6 acc y) x:=by
 have one:∀(u v:Iv),u.lo=v.lo->u.lo<=u.hi->∀ini:List Iv,W6 (ini++[u]) v=ini++[⟨u.lo,if u.hi<v.hi then v.hi else u.hi⟩]:=λu v z6 hu ini=>by rw[W8,if_pos (by omega)]
 rcases vD acc with rfl|⟨ini,z,rfl⟩
 ·have e1:W6 [] x=[]++[x]:=rfl;have e2:W6 [] y=[]++[y]:=rfl;rw[e1,e2,one x y h hx,one y x h.symm hy,h]
  congr 3
  split<;>split<;>omega
 rw[vE];by_cases hz:x.lo<=z.hi+1
 ·have z1:∀(w u:Iv),u.lo<=w.hi+1->W6 (ini++[w]) u=ini++[⟨w.lo,if w.hi<u.hi then u.hi else w.hi⟩]:=λw u h=>by rw[W8,if_pos h]
  rw[z1 z x hz,z1 z y (by omega),z1 _ y (by simp only;split<;>omega),z1 _ x (by simp only;split<;>omega)]
  congr 3
  simp only;repeat split
  all_goals omega
 have ap:∀u:Iv,u.lo=x.lo->W6 (ini++[z]) u=ini++[z]++[u]:=λu h=>by rw[W8,if_neg (by omega)]
 rw[ap x rfl,ap y h.symm,one x y h hx,one y x h.symm hy,h]
 congr 3
 split<;>split<;>omega
def Gb:∀(A:List Iv) (acc:List Iv) (x:Iv) (B:List Iv),(∀y∈A,y.lo=x.lo/\y.lo<=y.hi)->x.lo<=x.hi->Qv acc (A++x::B)=Qv acc (x::(A++B))
 |[],acc,x,B,_,_=>rfl
 |y::A,acc,x,B,h,hx=>by have hy:=h y (by simp);have ih:=Gb A (W6 acc y) x B (λz hz=>h z (by simp[hz])) hx;simp only[Qv,u7,xS]at ih |-;rw[ih,push_comm acc y x hy.1 hy.2 hx]
def J7:∀(l l':List Iv) (acc:List Iv),l.Perm l'->Br l->Br l'->(∀y∈l,y.lo<=y.hi)->Qv acc l=Qv acc l'
 |[],l',acc,hp,_,_,_=>by rw[hp.nil_eq]
 |x::l,l',acc,hp,h1,h2,hf=>by
  obtain⟨A,B,rfl⟩:=List.append_of_mem (hp.mem_iff.1 (List.mem_cons_self));have z6:l.Perm (A++B):=(List.perm_cons x).1 (hp.trans vJ);have hA:∀y∈A,y.lo=x.lo/\y.lo<=y.hi:=λy hy=>by
   have z1:y∈x::l:=hp.mem_iff.2 (by simp[hy]);have a1:y.lo<=x.lo:=(yE.1 h2).2.2 y hy x (by simp);have a2:x.lo<=y.lo:=by
    rcases zZ.1 z1 with rfl|h
    ·exact yZ _
    exact(yP.1 h1).1 y h
   exact⟨by omega,hf y z1⟩
  rw[Gb A acc x B hA (hf x (by simp))];have hb:Br (A++B):=h2.sublist (List.Sublist.append_left (List.sublist_cons_self x B) A);exact J7 l (A++B) (W6 acc x) z6 (yP.1 h1).2 hb (λy hy=>hf y (by simp[hy]))
def f03(s:List Iv)(x:Iv):(V4 s x).Perm (x::s):=by unfold V4;refine vJ.trans ?_;rw[xO]
def Kg(s:List Iv)(x:Iv):∀j,j<=s.length->(∀k,Yn s x j<=k->k<j->∀h:k<s.length,x.lo<s[k].lo)/\(∀k,k+1=Yn s x j->∀h:k<s.length,s[k].lo<=x.lo)
 |0,_=>⟨λk _ h=>by omega,λk h=>by simp[Yn]at h⟩
 |j+1,hj=>by
  obtain⟨a,b⟩:=Kg s x j (by omega);have hg:k2o s j x=decide (x.lo<s[j].lo):=by simp[k2o,show j<s.length by omega]
  rw[Yn,hg];by_cases h:decide (x.lo<s[j].lo)=true
  ·rw[if_pos h];refine⟨λk h1 h2 h3=>?_,b⟩;by_cases e:k=j
   ·subst e;simpa using h
   exact a k h1 (by omega) h3
  rw[if_neg h];refine⟨λk h1 h2=>by omega,λk h1 h2=>?_⟩;have e:k=j:=by omega
  subst e;simp at h;omega
def y1p(s:List Iv)(x:Iv)(hs:Br s):Br (V4 s x):=by
 obtain⟨a,b⟩:=Kg s x s.length (zQ _);have hq:=Hu s x s.length;unfold V4;generalize Yn s x s.length=q at a b hq;have z6:∀i j,i<j->∀hi:i<s.length,∀hj:j<s.length,s[i].lo<=s[j].lo:=λi j h hi hj=>yJ.1 hs i j hi hj h;have z7:∀y∈s.take q,y.lo<=x.lo:=λy hy=>by
  obtain⟨i,hi,rfl⟩:=yY hy;have za:i<q:=by rw[List.length_take]at hi;omega
  rw[tB];have h1:=b (q - 1) (by omega) (by omega);by_cases e:i=q - 1
  ·subst e;exact h1
  have:=z6 i (q - 1) (by omega) (by omega) (by omega);omega
 have z8:∀y∈s.drop q,x.lo<=y.lo:=λy hy=>by obtain⟨i,hi,rfl⟩:=yY hy;rw[List.length_drop]at hi;rw[List.getElem_drop];have:=a (q+i) (by omega) (by omega) (by omega);omega
 have z1:=hs;unfold Br at z1 |-;rw[<-xO q s,yE]at z1;obtain⟨p1,p2,p3⟩:=z1;refine yE.2 ⟨p1,yP.2 ⟨z8,p2⟩,λy hy z hz=>?_⟩;rcases zZ.1 hz with rfl|h
 ·exact z7 y hy
 exact p3 y hy z h
def Ke:∀(l acc:List Iv),Br acc->(l.foldl V4 acc).Perm (acc++l)/\Br (l.foldl V4 acc)
 |[],acc,h=>⟨by simp,h⟩
 |x::r,acc,h=>by obtain⟨a,b⟩:=Ke r (V4 acc x) (y1p acc x h);refine⟨a.trans ?_,b⟩;exact((f03 acc x).append_right r).trans vJ.symm
def Ae(l:List Iv):(E8 l).Perm l/\Br (E8 l):=by have:=Ke l [] .nil;simpa[E8]using this
def M(l:List Iv)(n:Int):Prop:=∃x∈l,x.lo<=n/\n<=x.hi
def Sep(l:List Iv):Prop:=(∀x∈l,x.lo<=x.hi)/\l.Pairwise (λx y=>x.hi+2<=y.lo)
def z0d(n:Int):M [] n↔False:=by simp[M]
def Ey(x:Iv)(l:List Iv)(n:Int):M (x::l) n↔(x.lo<=n/\n<=x.hi)\/M l n:=by simp[M]
def Cp(a b:List Iv)(n:Int):M (a++b) n↔M a n\/M b n:=by simp[M,or_and_right,exists_or]
def w03(l:List Iv)(n:Int):J5 l n=true↔M l n:=by simp[J5,M]
def Sep.tail{x:Iv}{l:List Iv}(h:Sep (x::l)):Sep l:=⟨λy hy=>h.1 y (by simp[hy]),(yP.1 h.2).2⟩
def Sep.low{x:Iv}{l:List Iv}(h:Sep (x::l)){n:Int}(hm:M l n):x.hi+2<=n:=by obtain⟨y,hy,h1,h2⟩:=hm;have:=(yP.1 h.2).1 y hy;omega
def Sep.lowc{x:Iv}{l:List Iv}(h:Sep (x::l)){n:Int}(hm:M (x::l) n):x.lo<=n:=by
 rcases(Ey ..).1 hm with h1|h1
 ·exact h1.1
 have:=h.low h1;have:=h.1 x (by simp);omega
def q1d:∀(a b:List Iv),Sep a->Sep b->(∀n,M a n↔M b n)->a=b
 |[],[],_,_,_=>rfl
 |[],y::b,_,hb,h=>by have:=(h y.lo).2 ((Ey ..).2 (.inl ⟨yZ _,hb.1 y (by simp)⟩));exact absurd this (by simp[M])
 |x::a,[],ha,_,h=>by have:=(h x.lo).1 ((Ey ..).2 (.inl ⟨yZ _,ha.1 x (by simp)⟩));exact absurd this (by simp[M])
 |x::a,y::b,ha,hb,h=>by
  have hx:=ha.1 x (by simp);have hy:=hb.1 y (by simp);have e1:x.lo=y.lo:=by have h1:=hb.lowc ((h x.lo).1 ((Ey ..).2 (.inl ⟨yZ _,hx⟩)));have h2:=ha.lowc ((h y.lo).2 ((Ey ..).2 (.inl ⟨yZ _,hy⟩)));omega
  have e2:x.hi=y.hi:=by
   rcases tI x.hi y.hi with hlt|heq|hgt
   ·rcases(Ey ..).1 ((h (x.hi+1)).2 ((Ey ..).2 (.inl ⟨by omega,by omega⟩)))with h1|h1
    ·omega
    have:=ha.low h1;omega
   ·exact heq
   rcases(Ey ..).1 ((h (y.hi+1)).1 ((Ey ..).2 (.inl ⟨by omega,by omega⟩)))with h1|h1
   ·omega
   have:=hb.low h1;omega
  have e3:x=y:=by cases x;cases y;simp_all
  subst e3;rw[q1d a b ha.tail hb.tail λn=>⟨λhm=>?_,λhm=>?_⟩]
  ·have h1:=ha.low hm;rcases(Ey ..).1 ((h n).1 ((Ey ..).2 (.inr hm)))with h2|h2
   ·omega
   exact h2
  have h1:=hb.low hm;rcases(Ey ..).1 ((h n).2 ((Ey ..).2 (.inr hm)))with h2|h2
  ·omega
  exact h2
def S1{l:List Iv}(h:CanonL l):Sep l:=
 ⟨λx hx=>(Na (h.one x hx)).2,yJ.2 λ_ _ hi hj z1=>P2 h z1 hj hi⟩
def Cm{l:List Iv}(h:CanonL l):∀x∈l,Oh x:=λx hx=>(Na (h.one x hx)).1
def w2k{l:List Iv}(h:CanonL l){n:Int}(hm:M l n): -1099511627776<=n/\n<=1099511627776:=by obtain⟨x,hx,h1,h2⟩:=hm;have h3:=Cm h x hx;have h4:=(Ec _).1 h3.1;have h5:=(Ec _).1 h3.2;omega
def Kk{l:List Iv}(h:Sep l)(hi:∀x∈l,Oh x)(hl:l.length<=256):CanonL l:=
 ⟨hl,λy hy=>by
  have h1:=hi y hy;have h2:=h.1 y hy;have h4:=h1.1;have h5:=h1.2;simp[G5,h4,h5];omega,λj hj=>yJ.1 h.2 j (j+1) (by omega) hj (by omega)⟩
def j1f(acc:List Iv)(x:Iv)(ha:Sep acc)(hx:x.lo<=x.hi)(hle:∀y∈acc,y.lo<=x.lo):
  Sep (W6 acc x)/\(∀n,M (W6 acc x) n↔M acc n\/(x.lo<=n/\n<=x.hi))/\(∀z,x.lo<=z->∀y∈W6 acc x,y.lo<=z):=by
 rcases vD acc with rfl|⟨ini,y,rfl⟩
 ·have e:W6 [] x=[x]:=rfl;rw[e];exact⟨⟨λy hy=>by simp at hy;subst hy;exact hx,by simp⟩,λn=>by simp[M],λz hz y hy=>by simp at hy;subst hy;exact hz⟩
 rw[vE]at ha hle |-;rw[W8];have hy:=ha.1 y (by simp);have z1:=hle y (by simp);obtain⟨p1,p2,p3⟩:=yE.1 ha.2;split
 ·rename_i hj;refine⟨⟨λz hz=>?_,yE.2 ⟨p1,by simp,λu hu v hv=>?_⟩⟩,λn=>?_,λz hz u hu=>?_⟩
  ·rcases zV.1 hz with h|h
   ·exact ha.1 z (by simp[h])
   simp at h;subst h;simp only;split<;>omega
  ·simp at hv;subst hv;exact p3 u hu y (by simp)
  ·rw[Cp,Cp,Ey,Ey,z0d];simp only[or_false];by_cases hm:M ini n
   ·simp[hm]
   simp only[hm,false_or];split<;>omega
  rcases zV.1 hu with h|h
  ·have:=hle u (by simp[h]);omega
  simp at h;subst h;simp only;omega
 rename_i hj;refine⟨⟨λz hz=>?_,yE.2 ⟨ha.2,by simp,λu hu v hv=>?_⟩⟩,λn=>by rw[Cp,Ey,z0d];simp,λz hz u hu=>?_⟩
 ·rcases zV.1 hz with h|h
  ·exact ha.1 z h
  simp at h;subst h;exact hx
 ·simp at hv;subst hv;rcases zV.1 hu with h|h
  ·have:=p3 u h y (by simp);omega
  simp at h;subst h;omega
 rcases zV.1 hu with h|h
 ·have:=hle u h;omega
 simp at h;subst h;exact hz
def Fw:∀(l acc:List Iv),Sep acc->Br l->(∀x∈l,x.lo<=x.hi)->(∀y∈acc,∀x∈l,y.lo<=x.lo)->
  Sep (Qv acc l)/\∀n,M (Qv acc l) n↔M acc n\/M l n
 |[],acc,ha,_,_,_=>⟨ha,λn=>by simp[Qv,M]⟩
 |x::l,acc,ha,hb,hf,hle=>by have hp:=j1f acc x ha (hf x (by simp)) (λy hy=>hle y hy x (by simp));have ih:=Fw l (W6 acc x) hp.1 (yP.1 hb).2 (λy hy=>hf y (by simp[hy])) (λy hy z hz=>hp.2.2 z.lo ((yP.1 hb).1 z hz) y hy);refine⟨ih.1,λn=>?_⟩;have e:Qv acc (x::l)=Qv (W6 acc x) l:=rfl;rw[e,ih.2 n,hp.2.1 n,Ey,or_assoc]
def X9:Sep []:=⟨by simp,by simp⟩
def u2x{a b:List Iv}(h:a.Perm b)(n:Int):M a n↔M b n:=by simp only[M];exact⟨λ⟨x,hx,h1⟩=>⟨x,h.mem_iff.1 hx,h1⟩,λ⟨x,hx,h1⟩=>⟨x,h.mem_iff.2 hx,h1⟩⟩
def Iw(l:List Iv)(hf:∀x∈l,x.lo<=x.hi):Sep (Eu l)/\∀n,M (Eu l) n↔M l n:=by have hs:=Ae l;have h:=Fw (E8 l) [] X9 hs.2 (λx hx=>hf x (hs.1.mem_iff.1 hx)) (by simp);refine⟨h.1,λn=>?_⟩;rw[Eu,h.2 n,z0d,false_or,u2x hs.1]
section
open Go Go.Proofs
end
section
open Go Go.Proofs
def Rq:List Iv->Int->List Iv
 |[],n=>if n<=1099511627776 then [⟨n,1099511627776⟩]else []
 |x::r,n=>(if n<x.lo then [⟨n,x.lo - 1⟩]else [])++Rq r (x.hi+1)
def Ww(l:List Iv):List Iv:=Rq l (-1099511627776)
end
section
open Go
def c0k:∀(l:List Iv) (z:Int),z∈q04 l↔∃x∈l,z=x.lo\/z=x.hi+1
 |[],z=>by simp[q04]
 |y::r,z=>by rw[q04,zZ,zZ,c0k r z];simp[or_assoc]
def q0m(zs:List Int)(hs:zs.Pairwise (·<=·)):∀m,m<=zs.length->
  (Lib.compactUpTo zs.toArray m).Pairwise (·<·)/\(∀z,z∈Lib.compactUpTo zs.toArray m↔z∈zs.take m):=by
 intro m;induction m with
 |zero=>exact λ_=>⟨by simp[Lib.compactUpTo],by simp[Lib.compactUpTo]⟩
 |succ m ih=>
  intro hm;obtain⟨h1,h2⟩:=ih (by omega);have z1:m<zs.length:=by omega
  have hg:zs.toArray[m]! =zs[m]:=by simp[z1]
  rw[Lib.compactUpTo_succ];have ht:zs.take (m+1)=zs.take m++[zs[m]]:=by rw[zR z1]
  by_cases hk:Lib.keeps zs.toArray m=true
  ·rw[if_pos hk,hg,ht];refine⟨yE.2 ⟨h1,by simp,λu hu v hv=>?_⟩,λz=>by rw[zV,zV,h2]⟩;simp at hv;subst hv;obtain⟨i,hi,rfl⟩:=yY ((h2 u).1 hu);have za:i<m:=by simp at hi;omega
   rw[tB];have zb:zs[m]≠zs[m - 1]:=by
    simp[Lib.keeps]at hk;have z6:m≠0:=by omega
    have hk:=hk.resolve_left z6;simpa[z1,show m - 1<zs.length by omega]using hk
   have a1:zs[i]<=zs[m - 1]:=by
    rcases Nat.lt_or_ge i (m - 1)with h|h
    ·exact yJ.1 hs i (m - 1) (by omega) (by omega) h
    have:i=m - 1:=by omega
    subst this;exact yZ _
   have a2:zs[m - 1]<=zs[m]:=yJ.1 hs (m - 1) m (by omega) (by omega) (by omega);omega
  rw[if_neg hk,List.append_nil,ht];refine⟨h1,λz=>?_⟩;rw[h2,zV];refine⟨.inl,λh=>h.elim id λh=>?_⟩;simp at h;subst h;simp only[Lib.keeps,decide_eq_true_eq,not_or]at hk;have z7:m - 1<zs.length:=by omega
  have z8:zs[m]=zs[m - 1]:=by simpa[z1,z7]using hk.2
  rw[z8];exact List.mem_take_iff_getElem.2 ⟨m - 1,by omega,rfl⟩
def y1q(l:List Iv):(k19 l).Pairwise (·<·)/\∀z,z∈k19 l↔∃x∈l,z=x.lo\/z=x.hi+1:=by
 have hs:(Tk (q04 l)).Pairwise (·<=·):=by have:=uj (le:=λx y:Int=>decide (x<=y)) (λa b c h1 h2=>by simp at h1 h2 |-;omega) (λa b=>by simp;omega) (q04 l);simpa[Tk]using this
 have h:=q0m _ hs _ (zQ _);refine⟨h.1,λz=>?_⟩;have h2:=h.2 z;rw[yB]at h2;rw[k19,Lib.compact,h2,Tk,tw,c0k]
def w1h(l:List Iv)(cs:List Int)(h:∀x∈l,x.lo∈cs/\x.hi+1∈cs)(c n:Int)(hc:c<=n)(hm:∀d∈cs,d<=n->d<=c):J5 l n=J5 l c:=by
 rw[xT,w03,w03];constructor
 ·rintro⟨x,hx,h1,h2⟩;have:=hm _ (h x hx).1 h1;exact⟨x,hx,this,by omega⟩
 rintro⟨x,hx,h1,h2⟩;refine⟨x,hx,by omega,?_⟩;by_cases hn:x.hi+1<=n
 ·have:=hm _ (h x hx).2 hn;omega
 omega
def v0a{l:List Iv}(h:Sep l)(hb:∀n,M l n-> -1099511627776<=n/\n<=1099511627776):∀x∈l,Oh x:=λx hx=>
 ⟨(Ec _).2 (hb _ ⟨x,hx,yZ _,h.1 x hx⟩),(Ec _).2 (hb _ ⟨x,hx,h.1 x hx,yZ _⟩)⟩
def Pj:∀(l:List Iv) (s:Int),(∀x∈l,x.lo<=x.hi/\x.hi<=1099511627776)->l.Pairwise (λx y=>x.hi+2<=y.lo)->(∀x∈l,s<=x.lo)->
  Sep (Rq l s)/\(∀n,M (Rq l s) n↔s<=n/\n<=1099511627776/\¬M l n)/\(Rq l s).length<=l.length+1
 |[],s,_,_,_=>by
  rw[Rq];split
  ·exact⟨⟨λx hx=>by simp at hx;subst hx;assumption,by simp⟩,λn=>by rw[Ey,z0d];simp[z0d],by simp⟩
  exact⟨X9,λn=>by simp[z0d];omega,by simp⟩
 |x::l,s,hf,hp,hs=>by
  have hx:=hf x (by simp);have z7:=hs x (by simp);have z1:=(yP.1 hp).1;obtain⟨i1,i2,i3⟩:=Pj l (x.hi+1) (λy hy=>hf y (by simp[hy])) (yP.1 hp).2 (λy hy=>by have:=z1 y hy;omega);have z6:∀n,M l n->x.hi+2<=n:=by rintro n ⟨y,hy,h1,h2⟩;have:=z1 y hy;omega
  rw[Rq];split
  ·refine⟨⟨λy hy=>?_,?_⟩,λn=>?_,by simp;omega⟩
   ·rcases zV.1 hy with h|h
    ·simp at h;subst h;simp only;omega
    exact i1.1 y h
   ·refine yE.2 ⟨by simp,i1.2,λu hu v hv=>?_⟩;simp at hu;subst hu;have:=(i2 v.lo).1 ⟨v,hv,yZ _,i1.1 v hv⟩;simp only;omega
   rw[Cp,i2,Ey,z0d,Ey];by_cases hm:M l n
   ·have:=z6 n hm;simp[hm];omega
   simp only[hm,not_false_eq_true,and_true,or_false];omega
  refine⟨⟨λy hy=>i1.1 y (by simpa using hy),by simpa using i1.2⟩,λn=>?_,by simp;omega⟩;rw[xZ,i2,Ey];by_cases hm:M l n
  ·simp[hm]
  simp only[hm,not_false_eq_true,and_true,or_false];omega
def O0{l:List Iv}(h:CanonL l):Sep (Ww l)/\(∀n,M (Ww l) n↔(-1099511627776<=n/\n<=1099511627776)/\¬M l n)/\(Ww l).length<=l.length+1:=by have hs:=S1 h;have hi:=Cm h;have:=Pj l (-1099511627776) (λx hx=>⟨hs.1 x hx,((Ec _).1 (hi x hx).2).2⟩) hs.2 (λx hx=>((Ec _).1 (hi x hx).1).1);exact⟨this.1,λn=>by rw[Ww,this.2.1,and_assoc],this.2.2⟩
def Ai(x y:Iv):Option Iv:=if(if x.lo<y.lo then y.lo else x.lo)<=(if y.hi<x.hi then y.hi else x.hi)then some ⟨if x.lo<y.lo then y.lo else x.lo,if y.hi<x.hi then y.hi else x.hi⟩else none
def Rl(a b:List Iv):List Iv:=a.flatMap λx=>b.filterMap (Ai x)
def Hx{x y z:Iv}(h:Ai x y=some z):z.lo<=z.hi/\∀n,(z.lo<=n/\n<=z.hi)↔(x.lo<=n/\n<=x.hi)/\(y.lo<=n/\n<=y.hi):=by
 unfold Ai at h;by_cases hle:(if x.lo<y.lo then y.lo else x.lo)<=(if y.hi<x.hi then y.hi else x.hi)
 ·rw[if_pos hle]at h;cases h;refine⟨hle,λn=>?_⟩;simp only;split<;>split<;>omega
 rw[if_neg hle]at h;cases h
def k2w{x y:Iv}{n:Int}(h1:x.lo<=n/\n<=x.hi)(h2:y.lo<=n/\n<=y.hi):∃z,Ai x y=some z/\z.lo<=n/\n<=z.hi:=by
 unfold Ai;have:(if x.lo<y.lo then y.lo else x.lo)<=(if y.hi<x.hi then y.hi else x.hi):=by split<;>split<;>omega
 rw[if_pos this];refine⟨_,rfl,?_,?_⟩<;>simp only<;>split<;>omega
def Fs(a b:List Iv):(∀x∈Rl a b,x.lo<=x.hi)/\∀n,M (Rl a b) n↔M a n/\M b n:=by
 constructor
 ·intro z hz;obtain⟨x,_,hz⟩:=xV.1 hz;obtain⟨y,_,h⟩:=wI.1 hz;exact(Hx h).1
 intro n;constructor
 ·rintro⟨z,hz,h1⟩;obtain⟨x,hx,hz⟩:=xV.1 hz;obtain⟨y,hy,h⟩:=wI.1 hz;have:=((Hx h).2 n).1 h1;exact⟨⟨x,hx,this.1⟩,⟨y,hy,this.2⟩⟩
 rintro⟨⟨x,hx,h1⟩,⟨y,hy,h2⟩⟩;obtain⟨z,hz,h3⟩:=k2w h1 h2;exact⟨z,xV.2 ⟨x,hx,wI.2 ⟨y,hy,hz⟩⟩,h3⟩
def R5(a b:List Iv):List Iv:=Eu (Rl a b)
def Af(a b:List Iv):Sep (R5 a b)/\∀n,M (R5 a b) n↔M a n/\M b n:=by have h:=Iw (Rl a b) (Fs a b).1;exact⟨h.1,λn=>by rw[R5,h.2,(Fs a b).2]⟩
end
section
open Go
def b2(b:Bool):Int:=if b=true then 1 else 0
end
section
open Go
end
section
open Go
end
section
open Go
def w2m(x y:Iv):Bool:=decide (y.lo<x.lo) && decide (x.lo<=y.hi)
def k0j(x y:Iv):Bool:=decide (x.lo<=y.lo) && decide (y.lo<=x.hi)
def c0r(x:Iv):∀(b:List Iv),(b.filterMap (Ai x)).length<=b.countP (w2m x)+b.countP (k0j x)
 |[]=>by simp
 |y::b=>by
  have ih:=c0r x b;rw[vB,vB];cases h:Ai x y with
  |none=>rw[List.filterMap_cons_none h];omega
  |some z=>
   rw[List.filterMap_cons_some h,yV];have hz:=Hx h;have hm:=(hz.2 z.lo).1 ⟨yZ _,hz.1⟩;have:w2m x y=true\/k0j x y=true:=by simp[w2m,k0j];omega
   rcases this with h'|h'<;>rw[if_pos h']<;>omega
def x1g(x:Iv):∀(b:List Iv),Sep b->b.countP (w2m x)<=1
 |[],_=>by simp
 |y::b,hs=>by
  rw[vB];split
  ·rename_i h;simp[w2m]at h;have:b.countP (w2m x)=0:=tq.2 λz hz=>by have:=(yP.1 hs.2).1 z hz;simp[w2m];omega
   omega
  have:=x1g x b hs.tail;omega
def y0k(y:Iv):∀(a:List Iv),Sep a->a.countP (λx=>k0j x y)<=1
 |[],_=>by simp
 |x::a,hs=>by
  rw[vB];split
  ·rename_i h;simp[k0j]at h;have:a.countP (λx=>k0j x y)=0:=tq.2 λz hz=>by have:=(yP.1 hs.2).1 z hz;simp[k0j];omega
   omega
  have:=y0k y a hs.tail;omega
def x0w(a:List Iv)(ha:Sep a):∀(b:List Iv),(a.map λx=>b.countP (k0j x)).sum<=b.length
 |[]=>by
  have:∀a:List Iv,(a.map λx=>([]:List Iv).countP (k0j x)).sum=0:=λa=>by
   induction a with
   |nil=>rfl
   |cons x a ih=>simpa using ih
  rw[this];simp
 |y::b=>by
  have ih:=x0w a ha b;have h1:=y0k y a ha;have:∀a:List Iv,(a.map λx=>(y::b).countP (k0j x)).sum=(a.map λx=>b.countP (k0j x)).sum+a.countP (λx=>k0j x y):=λa=>by
   induction a with
   |nil=>rfl
   |cons x a ih=>rw[xA,uG,ih,xA,uG,vB,vB];omega
  rw[this,yV];omega
def Mr(a b:List Iv)(ha:Sep a)(hb:Sep b):(Rl a b).length<=a.length+b.length:=by
 have h:∀a:List Iv,(Rl a b).length<=a.length+(a.map λx=>b.countP (k0j x)).sum:=λa=>by
  induction a with
  |nil=>simp[Rl]
  |cons x a ih=>have e:Rl (x::a) b=b.filterMap (Ai x)++Rl a b:=rfl;have h1:=c0r x b;have h2:=x1g x b hb;rw[e,List.length_append,xA,uG,yV];omega
 have h1:=h a;have h2:=x0w a ha b;omega
def j1p{a b:List Iv}(h:(∀x∈a,Oh x)\/(∀y∈b,Oh y)):∀z∈Rl a b,Oh z:=by
 intro z hz;have hp:=Fs a b;have hf:=hp.1 z hz;have m1:=(hp.2 z.lo).1 ⟨z,hz,yZ _,hf⟩;have m2:=(hp.2 z.hi).1 ⟨z,hz,hf,yZ _⟩;have key:∀l:List Iv,(∀x∈l,Oh x)->∀n,M l n->inB n=true:=λl hl n ⟨x,hx,h1,h2⟩=>by have h3:=(Ec _).1 (hl x hx).1;have h4:=(Ec _).1 (hl x hx).2;exact(Ec _).2 (by omega)
 rcases h with h|h
 ·exact⟨key a h _ m1.1,key a h _ m2.1⟩
 exact⟨key b h _ m1.2,key b h _ m2.2⟩
end
abbrev Prd:=List (List Iv)
def PM(p:Prd)(t:Nat)(n:Int):Prop:=∃s,p[t]?=some s/\M s n
def inR(n:Int):Prop:= -1099511627776<=n/\n<=1099511627776
def PWf(T:Nat)(p:Prd):Prop:=p.length=T/\∀s∈p,Sep s/\∀n,M s n->inR n
def PWf.lt{T:Nat}{p:Prd}(h:PWf T p){t:Nat}{n:Int}(hm:PM p t n):t<T/\inR n:=by obtain⟨s,hs,hn⟩:=hm;exact⟨by rw[<-h.1];exact(zB.1 hs).1,(h.2 s (zJ hs)).2 n hn⟩
def Pk{T:Nat}{p q:Prd}(hp:PWf T p)(hq:PWf T q)(h:∀t n,PM p t n↔PM q t n):p=q:=by apply List.ext_getElem (by rw[hp.1,hq.1]);intro i h1 h2;refine q1d _ _ (hp.2 _ (zK h1)).1 (hq.2 _ (zK h2)).1 λn=>?_;have:=h i n;unfold PM at this;rw[zI h1,zI h2]at this;simpa using this
def Ol(t:Nat)(n:Int)(t':Nat)(n':Int):Prop:=t<t'\/t=t'/\n<n'
def Ol.irr{t:Nat}{n:Int}(h:Ol t n t n):False:=by unfold Ol at h;omega
def Ol.trans{a b c:Nat}{x y z:Int}(h:Ol a x b y)(k:Ol b y c z):Ol a x c z:=by unfold Ol at *;omega
def k2h(l:List Prd)(t:Nat)(n:Int)(t':Nat)(n':Int):Prop:=∀p∈l,PM p t n↔PM p t' n'
structure Prts (T:Nat) (l L:List Prd):Prop where
 wf:∀p∈L,PWf T p
 ne:∀p∈L,∃t n,PM p t n
 all:∀t n,t<T->inR n->∃p∈L,PM p t n
 cls:∀p∈L,∀t n,PM p t n->∀t' n',PM p t' n'↔t'<T/\inR n'/\k2h l t n t' n'
def u04(p q:Prd):Prop:=∃t n,PM p t n/\∀t' n',PM q t' n'->Ol t n t' n'
def u04.irr{p:Prd}(h:u04 p p):False:=by obtain⟨t,n,h1,h2⟩:=h;exact(h2 t n h1).irr
def u04.asymm{p q:Prd}(h:u04 p q)(k:u04 q p):False:=by obtain⟨t,n,h1,h2⟩:=h;obtain⟨t',n',k1,k2⟩:=k;exact((h2 t' n' k1).trans (k2 t n h1)).irr
def Prts.same{T:Nat}{l L L':List Prd}(h:Prts T l L)(h':Prts T l L'){p:Prd}(hp:p∈L):p∈L':=by
 obtain⟨t,n,hm⟩:=h.ne p hp;obtain⟨ht,hn⟩:=(h.wf p hp).lt hm;obtain⟨q,hq,z1⟩:=h'.all t n ht hn;have:p=q:=Pk (h.wf p hp) (h'.wf q hq) λt' n'=>by rw[h.cls p hp t n hm,h'.cls q hq t n z1]
 rw[this];exact hq
def Prts.unique{T:Nat}{l L L':List Prd}(h:Prts T l L)(h':Prts T l L')(s:L.Pairwise u04)(s':L'.Pairwise u04):L=L':=by have z1:∀ {X:List Prd},X.Pairwise u04->X.Nodup:=λhx=>hx.imp (λh e=>by subst e;exact h.irr);refine List.Perm.eq_of_pairwise (le:=u04) (λa b _ _ h1 h2=>(h1.asymm h2).elim) s s' ?_;exact(ua (z1 s) (z1 s')).2 λp=>⟨h.same h',h'.same h⟩
def Prts.disj{T:Nat}{l L:List Prd}(h:Prts T l L){p q:Prd}(hp:p∈L)(hq:q∈L){t:Nat}{n:Int}(h1:PM p t n)(h2:PM q t n):p=q:=
 Pk (h.wf p hp) (h.wf q hq) λt' n'=>by rw[h.cls p hp t n h1,h.cls q hq t n h2]
def Prts.perm{T:Nat}{l L L':List Prd}(h:Prts T l L)(e:L.Perm L'):Prts T l L':=
 ⟨λp hp=>h.wf p (e.mem_iff.2 hp),λp hp=>h.ne p (e.mem_iff.2 hp),λt n a b=>by obtain⟨p,hp,hm⟩:=h.all t n a b;exact⟨p,e.mem_iff.1 hp,hm⟩,λp hp=>h.cls p (e.mem_iff.2 hp)⟩
def Q9(T:Nat):Prd:=yI T (Ww [])
def W1(c p:Prd):Prd:=sc R5 c p
def Ro(p:Prd):Prd:=p.map Ww
def Wj(p:Prd):Bool:=p.all (·.isEmpty)
def Uq(p:Prd)(L:List Prd):List Prd:=L.flatMap λc=>(if Wj (W1 c p)then []else [W1 c p])++(if Wj (W1 c (Ro p))then []else [W1 c (Ro p)])
def P3(T:Nat)(l:List Prd):List Prd:=l.foldl (λL p=>Uq p L) [Q9 T]
def PCk(T:Nat)(p:Prd):Prop:=p.length=T/\∀s∈p,CanonL s
def PCk.wf{T:Nat}{p:Prd}(h:PCk T p):PWf T p:=⟨h.1,λs hs=>⟨S1 (h.2 s hs),λn hn=>w2k (h.2 s hs) hn⟩⟩
def Dv:CanonL []:=⟨by simp,by simp,λj h=>by simp at h⟩
def Dd(T t:Nat)(n:Int):PM (Q9 T) t n↔t<T/\inR n:=by
 unfold PM Q9;have hg:=(O0 Dv).2.1 n;constructor
 ·rintro⟨s,hs,hm⟩;rw[vW]at hs;split at hs
  ·cases hs;exact⟨by assumption,(hg.1 hm).1⟩
  cases hs
 rintro⟨h1,h2⟩;exact⟨Ww [],by rw[vW,if_pos h1],hg.2 ⟨h2,by simp[M]⟩⟩
def Dq(T:Nat):PWf T (Q9 T):=⟨by simp[Q9],λs hs=>by
 obtain rfl:=wY hs;exact⟨(O0 Dv).1,λn hn=>(((O0 Dv).2.1 n).1 hn).1⟩⟩
def El{T:Nat}{c p:Prd}(hc:c.length=T)(hp:p.length=T)(t:Nat)(n:Int):PM (W1 c p) t n↔PM c t n/\PM p t n:=by
 unfold PM W1;constructor
 ·rintro⟨s,hs,hm⟩;rw[vw]at hs;cases h1:c[t]? with
  |none=>rw[h1]at hs;simp at hs
  |some a=>
   cases h2:p[t]? with
   |none=>rw[h1,h2]at hs;simp at hs
   |some b=>rw[h1,h2]at hs;simp at hs;subst hs;have:=((Af a b).2 n).1 hm;exact⟨⟨a,rfl,this.1⟩,⟨b,rfl,this.2⟩⟩
 rintro⟨⟨a,h1,m1⟩,⟨b,h2,m2⟩⟩;exact⟨R5 a b,by rw[vw,h1,h2],((Af a b).2 n).2 ⟨m1,m2⟩⟩
def Tc{T:Nat}{c p:Prd}(hc:PWf T c)(hp:p.length=T):PWf T (W1 c p):=by
 refine⟨by simp[W1,hc.1,hp],λs hs=>?_⟩;obtain⟨i,hi⟩:=yK.1 hs;unfold W1 at hi;rw[vw]at hi;cases h1:c[i]? with
 |none=>rw[h1]at hi;simp at hi
 |some a=>
  cases h2:p[i]? with
  |none=>rw[h1,h2]at hi;simp at hi
  |some b=>rw[h1,h2]at hi;simp at hi;subst hi;exact⟨(Af a b).1,λn hn=>(hc.2 a (zJ h1)).2 n (((Af a b).2 n).1 hn).1⟩
def Vu{T:Nat}{p:Prd}(hp:PCk T p)(t:Nat)(n:Int):PM (Ro p) t n↔(t<T/\inR n)/\¬PM p t n:=by
 unfold PM Ro;rw[zU];constructor
 ·rintro⟨s,hs,hm⟩;obtain⟨a,ha,rfl⟩:=zS.1 hs;have hg:=((O0 (hp.2 a (zJ ha))).2.1 n).1 hm;refine⟨⟨by rw[<-hp.1];exact(zB.1 ha).1,hg.1⟩,?_⟩;rintro⟨b,hb,z1⟩;rw[ha]at hb;cases hb;exact hg.2 z1
 rintro⟨⟨h1,h2⟩,h3⟩;have hl:t<p.length:=by rw[hp.1];exact h1
 refine⟨Ww p[t],by rw[zI hl];rfl,((O0 (hp.2 _ (zK hl))).2.1 n).2 ⟨h2,λhm=>h3 ⟨_,zI hl,hm⟩⟩⟩
def Rp{T:Nat}{p:Prd}(h:PWf T p):Wj p=true↔∀t n,¬PM p t n:=by
 unfold Wj;rw[zW];constructor
 ·rintro hv t n ⟨s,hs,hm⟩;have:=hv s (zJ hs);rw[tJ]at this;subst this;simp[M]at hm
 intro hv s hs;obtain⟨i,hi⟩:=yK.1 hs;cases s with
 |nil=>rfl
 |cons x s=>exact absurd ⟨_,hi,(Ey ..).2 (.inl ⟨yZ _,(h.2 _ hs).1.1 x (by simp)⟩)⟩ (hv i x.lo)
def Zv{T:Nat}{l L:List Prd}{p:Prd}(h:Prts T l L)(hp:PCk T p):Prts T (l++[p]) (Uq p L):=by
 have z6:(Ro p).length=T:=by simp[Ro,hp.1]
 have z1:∀q,q∈Uq p L↔∃c∈L,((q=W1 c p)\/(q=W1 c (Ro p)))/\Wj q=false:=by
  intro q;unfold Uq;rw[xV];constructor
  ·rintro⟨c,hc,hq⟩;refine⟨c,hc,?_⟩;rcases zV.1 hq with hq|hq
   ·split at hq
    ·cases hq
    rename_i hv;obtain rfl:=zP.1 hq;exact⟨.inl rfl,by simpa using hv⟩
   split at hq
   ·cases hq
   rename_i hv;obtain rfl:=zP.1 hq;exact⟨.inr rfl,by simpa using hv⟩
  rintro⟨c,hc,hq,hv⟩;refine⟨c,hc,zV.2 ?_⟩;rcases hq with rfl|rfl
  ·left;rw[if_neg (by rw[hv];decide)];simp
  right;rw[if_neg (by rw[hv];decide)];simp
 have z7:∀q∈Uq p L,PWf T q:=λq hq=>by
  obtain⟨c,hc,rfl|rfl,_⟩:=(z1 q).1 hq
  ·exact Tc (h.wf c hc) hp.1
  exact Tc (h.wf c hc) z6
 have zb:∀q∈Uq p L,∃t n,PM q t n:=λq hq=>by
  obtain⟨c,hc,_,hv⟩:=(z1 q).1 hq;by_cases hx:∃t n,PM q t n
  ·exact hx
  exfalso;have:Wj q=true:=(Rp (z7 q hq)).2 λt n hm=>hx ⟨t,n,hm⟩;rw[this]at hv;cases hv
 refine⟨z7,zb,λt n ht hn=>?_,λq hq t n hm t' n'=>?_⟩
 ·obtain⟨c,hc,z8⟩:=h.all t n ht hn;have hv:∀q,(q=W1 c p\/q=W1 c (Ro p))->PM q t n->q∈Uq p L:=λq hq hm=>(z1 q).2 ⟨c,hc,hq,by
   have hw:PWf T q:=by
    rcases hq with rfl|rfl
    ·exact Tc (h.wf c hc) hp.1
    exact Tc (h.wf c hc) z6
   cases hvq:Wj q with
   |false=>rfl
   |true=>exact absurd hm ((Rp hw).1 hvq t n)⟩
  by_cases za:PM p t n
  ·have:=(El (h.wf c hc).1 hp.1 t n).2 ⟨z8,za⟩;exact⟨_,hv _ (.inl rfl) this,this⟩
  have:=(El (h.wf c hc).1 z6 t n).2 ⟨z8,(Vu hp t n).2 ⟨⟨ht,hn⟩,za⟩⟩;exact⟨_,hv _ (.inr rfl) this,this⟩
 obtain⟨c,hc,zc,_⟩:=(z1 q).1 hq;have zd:k2h (l++[p]) t n t' n'↔k2h l t n t' n'/\(PM p t n↔PM p t' n'):=by
  constructor
  ·exact λhs=>⟨λr hr=>hs r (by simp[hr]),hs p (by simp)⟩
  rintro⟨h1,h2⟩ r hr;rcases zV.1 hr with hr|hr
  ·exact h1 r hr
  obtain rfl:=zP.1 hr;exact h2
 rw[zd];rcases zc with rfl|rfl
 ·obtain⟨m1,m2⟩:=(El (h.wf c hc).1 hp.1 t n).1 hm;rw[El (h.wf c hc).1 hp.1,h.cls c hc t n m1];constructor
  ·rintro⟨⟨h1,h2,h3⟩,h4⟩;exact⟨h1,h2,h3,λ_=>h4,λ_=>m2⟩
  rintro⟨h1,h2,h3,h4⟩;exact⟨⟨h1,h2,h3⟩,h4.1 m2⟩
 obtain⟨m1,m2⟩:=(El (h.wf c hc).1 z6 t n).1 hm;have m3:=((Vu hp t n).1 m2).2;rw[El (h.wf c hc).1 z6,h.cls c hc t n m1,Vu hp];constructor
 ·rintro⟨⟨h1,h2,h3⟩,h4⟩;exact⟨h1,h2,h3,λh=>absurd h m3,λh=>absurd h h4.2⟩
 rintro⟨h1,h2,h3,h4⟩;exact⟨⟨h1,h2,h3⟩,⟨h1,h2⟩,λh=>m3 (h4.2 h)⟩
def Zk(T:Nat)(hT:0<T):Prts T [] [Q9 T]:=by
 refine⟨λp hp=>?_,λp hp=>?_,λt n ht hn=>?_,λp hp t n hm t' n'=>?_⟩
 ·obtain rfl:=zP.1 hp;exact Dq T
 ·obtain rfl:=zP.1 hp;exact⟨0,0,(Dd T 0 0).2 ⟨hT,by unfold inR;omega⟩⟩
 ·exact⟨_,List.mem_singleton_self _,(Dd T t n).2 ⟨ht,hn⟩⟩
 obtain rfl:=zP.1 hp;rw[Dd];exact⟨λh=>⟨h.1,h.2,λr hr=>by cases hr⟩,λh=>⟨h.1,h.2.1⟩⟩
def Bs{T:Nat}(hT:0<T){l:List Prd}(hl:∀p∈l,PCk T p):Prts T l (P3 T l):=by
 have key:∀(r d L:List Prd),Prts T d L->(∀p∈r,PCk T p)->Prts T (d++r) (r.foldl (λL p=>Uq p L) L):=by
  intro r;induction r with
  |nil=>intro d L h _;simpa using h
  |cons p r ih=>intro d L h hr;rw[xS];have:=ih (d++[p]) (Uq p L) (Zv h (hr p (by simp))) (λq hq=>hr q (by simp[hq]));simpa using this
 have:=key l [] [Q9 T] (Zk T hT) hl;simpa[P3]using this
def Qy:Prd->Nat->Nat×Int
 |[],_=>(0,0)
 |(x::_)::_,i=>(i,x.lo)
 |[]::p,i=>Qy p (i+1)
def q0e(a b:Nat×Int):Bool:=decide (a.1<b.1) || (decide (a.1=b.1) && decide (a.2<b.2))
def Ta(a b:Nat×Int):q0e a b=true↔Ol a.1 a.2 b.1 b.2:=by simp[q0e,Ol]
def Mz:∀(p:Prd) (i:Nat),(∀s∈p,Sep s)->(∃s∈p,s≠[])->∃t x r,p[t]?=some (x::r)/\Qy p i=(i+t,x.lo)/\∀j,j<t->p[j]?=some []
 |[],_,_,⟨s,hs,_⟩=>by cases hs
 |(x::r)::p,i,_,_=>⟨0,x,r,rfl,rfl,λj hj=>by omega⟩
 |[]::p,i,h,⟨s,hs,hn⟩=>by
  have z1:s∈p:=by
   rcases zZ.1 hs with rfl|hs
   ·exact absurd rfl hn
   exact hs
  obtain⟨t,x,r,h1,h2,h3⟩:=Mz p (i+1) (λs hs=>h s (by simp[hs])) ⟨s,z1,hn⟩;refine⟨t+1,x,r,by simpa using h1,by rw[Qy,h2];congr 1;omega,λj hj=>?_⟩;cases j with
  |zero=>rfl
  |succ j=>simpa using h3 j (by omega)
def Eb{T:Nat}{p:Prd}(h:PWf T p)(hn:∃t n,PM p t n):PM p (Qy p 0).1 (Qy p 0).2/\∀t n,PM p t n->((Qy p 0).1=t/\(Qy p 0).2=n)\/Ol (Qy p 0).1 (Qy p 0).2 t n:=by
 obtain⟨t0,n0,s0,z1,m0⟩:=hn;have z6:s0≠[]:=λe=>by subst e;simp[M]at m0
 obtain⟨t,x,r,h1,h2,h3⟩:=Mz p 0 (λs hs=>(h.2 s hs).1) ⟨s0,zJ z1,z6⟩;rw[Nat.zero_add]at h2;rw[h2];have hx:=(h.2 _ (zJ h1)).1;refine⟨⟨_,h1,(Ey ..).2 (.inl ⟨yZ _,hx.1 x (by simp)⟩)⟩,λt' n' hm=>?_⟩;obtain⟨s,hs,hm⟩:=hm;simp only;rcases wT t' t with hlt|rfl|hgt
 ·rw[h3 t' hlt]at hs;cases hs;simp[M]at hm
 ·rw[h1]at hs;cases hs;have:=hx.lowc hm;unfold Ol;omega
 exact .inr (.inl hgt)
def C5{T:Nat}{p q:Prd}(hp:PWf T p)(z1:∃t n,PM p t n)(hq:PWf T q)(z6:∃t n,PM q t n)(h:Ol (Qy p 0).1 (Qy p 0).2 (Qy q 0).1 (Qy q 0).2):u04 p q:=
 ⟨_,_,(Eb hp z1).1,λt n hm=>by
  rcases(Eb hq z6).2 t n hm with⟨e1,e2⟩|h2
  ·rw[<-e1,<-e2];exact h
  exact h.trans h2⟩
def v1g(s:List Prd)(x:Prd):Nat->Nat
 |0=>0
 |j+1=>match s[j]? with
  |some y=>if q0e (Qy x 0) (Qy y 0)=true then v1g s x j else j+1
  |none=>j+1
def v1f(s:List Prd)(x:Prd):List Prd:=s.take (v1g s x s.length)++x::s.drop (v1g s x s.length)
def v13(L:List Prd):List Prd:=L.foldl v1f []
def Nc(s:List Prd)(x:Prd):∀j,j<=s.length->v1g s x j<=j/\(∀i,v1g s x j<=i->i<j->∀h:i<s.length,q0e (Qy x 0) (Qy s[i] 0)=true)/\(∀i,i+1=v1g s x j->∀h:i<s.length,q0e (Qy x 0) (Qy s[i] 0)=false)
 |0,_=>⟨zQ _,λi _ h=>by omega,λi h=>by simp[v1g]at h⟩
 |j+1,hj=>by
  have z1:j<s.length:=by omega
  rw[v1g,zI z1];simp only;by_cases hb:q0e (Qy x 0) (Qy s[j] 0)=true
  ·rw[if_pos hb];obtain⟨h1,h2,h3⟩:=Nc s x j (by omega);refine⟨by omega,λi hi z6 hl=>?_,h3⟩;by_cases hij:i=j
   ·subst hij;exact hb
   exact h2 i hi (by omega) hl
  rw[if_neg hb];refine⟨zQ _,λi hi z6=>by omega,λi hi hl=>?_⟩;have:i=j:=by omega
  subst this;simpa using hb
def y10(s:List Prd)(x:Prd):(v1f s x).Perm (x::s):=by unfold v1f;refine vJ.trans ?_;rw[xO]
def Vb(p q:Prd):Prop:=Ol (Qy p 0).1 (Qy p 0).2 (Qy q 0).1 (Qy q 0).2
def w0o{s:List Prd}{x:Prd}(hs:s.Pairwise Vb)(hd:∀y∈s,Qy y 0≠Qy x 0):(v1f s x).Pairwise Vb:=by
 obtain⟨h1,h2,h3⟩:=Nc s x s.length (zQ _);unfold v1f;generalize v1g s x s.length=k at *
 have z1:=hs;rw[<-xO k s]at z1;obtain⟨p1,p2,p3⟩:=yE.1 z1;have z7:∀y∈s.drop k,Vb x y:=λy hy=>by obtain⟨i,hi⟩:=yK.1 hy;rw[List.getElem?_drop]at hi;obtain⟨hl,e⟩:=zB.1 hi;have:=h2 (k+i) (by omega) hl hl;rw[e]at this;exact(Ta _ _).1 this
 have z8:∀i,i+1=k->∀h:i<s.length,Vb s[i] x:=λi hi hl=>by
  have h4:=h3 i hi hl;have zc:=hd s[i] (zK hl);unfold Vb;rcases wT (Qy s[i] 0).1 (Qy x 0).1 with a|a|a
  ·exact .inl a
  ·rcases tI (Qy s[i] 0).2 (Qy x 0).2 with b|b|b
   ·exact .inr ⟨a,b⟩
   ·exact absurd (Prod.ext a b) zc
   have:q0e (Qy x 0) (Qy s[i] 0)=true:=(Ta _ _).2 (.inr ⟨a.symm,b⟩);rw[this]at h4;cases h4
  have:q0e (Qy x 0) (Qy s[i] 0)=true:=(Ta _ _).2 (.inl a);rw[this]at h4;cases h4
 have z6:∀y∈s.take k,Vb y x:=λy hy=>by
  obtain⟨i,hi⟩:=yK.1 hy;rw[List.getElem?_take]at hi;split at hi
  ·rename_i zd;obtain⟨hl,e⟩:=zB.1 hi;obtain⟨k',rfl⟩:∃k',k=k'+1:=⟨k - 1,by omega⟩
   have za:k'<s.length:=by omega
   have zb:=z8 k' rfl za;by_cases hij:i=k'
   ·subst hij;rw[<-e];exact zb
   have:=yJ.1 hs i k' hl za (by omega);rw[e]at this;exact Ol.trans this zb
  cases hi
 refine yE.2 ⟨p1,yP.2 ⟨z7,p2⟩,λy hy z hz=>?_⟩;rcases zZ.1 hz with rfl|hz
 ·exact z6 y hy
 exact p3 y hy z hz
def u0q(L:List Prd)(hd:L.Pairwise (λp q=>Qy p 0≠Qy q 0)):(v13 L).Perm L/\(v13 L).Pairwise Vb:=by
 have key:∀(r s:List Prd),s.Pairwise Vb->(s++r).Pairwise (λp q=>Qy p 0≠Qy q 0)->(r.foldl v1f s).Perm (s++r)/\(r.foldl v1f s).Pairwise Vb:=by
  intro r;induction r with
  |nil=>intro s h _;simpa using h
  |cons x r ih=>intro s h hd;obtain⟨d1,d2,d3⟩:=yE.1 hd;have hi:=w0o h (λy hy=>d3 y hy x (by simp));have hp:=y10 s x;have z1:(v1f s x++r).Perm (s++x::r):=(hp.append_right r).trans (vJ (l₁:=s) (a:=x) (l₂:=r)).symm;have z6:(v1f s x++r).Pairwise (λp q=>Qy p 0≠Qy q 0):=(z1.pairwise_iff (λh=>Ne.symm h)).2 hd;obtain⟨i1,i2⟩:=ih (v1f s x) hi z6;rw[xS];exact⟨i1.trans z1,i2⟩
 have h:=key L [] List.Pairwise.nil (by simpa using hd);unfold v13;simpa using h
def Q7(T:Nat)(l:List Prd):List Prd:=v13 (P3 T l)
def M3{T:Nat}{l L:List Prd}{p:Prd}(h:Prts T l L)(hp:PCk T p)(hd:L.Pairwise (λa b=>∀t n,PM a t n->¬PM b t n)):(Uq p L).Pairwise (λa b=>∀t n,PM a t n->¬PM b t n):=by
 have z7:(Ro p).length=T:=by simp[Ro,hp.1]
 have z8:∀c∈L,∀q∈(if Wj (W1 c p)then []else [W1 c p])++(if Wj (W1 c (Ro p))then []else [W1 c (Ro p)]),∀t n,PM q t n->PM c t n:=by
  intro c hc q hq t n hm;rcases zV.1 hq with hq|hq
  ·split at hq
   ·cases hq
   obtain rfl:=zP.1 hq;exact((El (h.wf c hc).1 hp.1 t n).1 hm).1
  split at hq
  ·cases hq
  obtain rfl:=zP.1 hq;exact((El (h.wf c hc).1 z7 t n).1 hm).1
 unfold Uq;rw[vA];refine⟨λc hc=>?_,?_⟩
 ·refine yE.2 ⟨by split<;>simp,by split<;>simp,λa ha b hb t n z1 z6=>?_⟩;split at ha
  ·cases ha
  split at hb
  ·cases hb
  obtain rfl:=zP.1 ha;obtain rfl:=zP.1 hb;exact((Vu hp t n).1 ((El (h.wf c hc).1 z7 t n).1 z6).2).2 ((El (h.wf c hc).1 hp.1 t n).1 z1).2
 exact hd.imp_of_mem (λ{a b} ha hb hab x hx y hy t n z1 z6=>hab t n (z8 a ha x hx t n z1) (z8 b hb y hy t n z6))
def Mj{T:Nat}(hT:0<T){l:List Prd}(hl:∀p∈l,PCk T p):(P3 T l).Pairwise (λa b=>∀t n,PM a t n->¬PM b t n):=by
 have key:∀(r d L:List Prd),Prts T d L->(∀p∈r,PCk T p)->L.Pairwise (λa b=>∀t n,PM a t n->¬PM b t n)->(r.foldl (λL p=>Uq p L) L).Pairwise (λa b=>∀t n,PM a t n->¬PM b t n):=by
  intro r;induction r with
  |nil=>intro d L _ _ h;simpa using h
  |cons p r ih=>intro d L h hr hd;rw[xS];exact ih (d++[p]) (Uq p L) (Zv h (hr p (by simp))) (λq hq=>hr q (by simp[hq])) (M3 h (hr p (by simp)) hd)
 exact key l [] [Q9 T] (Zk T hT) hl (by simp)
def I5{T:Nat}(hT:0<T){l:List Prd}(hl:∀p∈l,PCk T p):Prts T l (Q7 T l)/\(Q7 T l).Pairwise u04:=by
 have h:=Bs hT hl;have hd:(P3 T l).Pairwise (λp q=>Qy p 0≠Qy q 0):=(Mj hT hl).imp_of_mem (λ{a b} ha hb hab e=>by
  have h1:=(Eb (h.wf a ha) (h.ne a ha)).1;have h2:=(Eb (h.wf b hb) (h.ne b hb)).1;rw[<-e]at h2;exact hab _ _ h1 h2)
 obtain⟨h1,h2⟩:=u0q _ hd;have h3:Prts T l (Q7 T l):=h.perm h1.symm;refine⟨h3,?_⟩;exact h2.imp_of_mem (λ{a b} ha hb hab=>C5 (h3.wf a ha) (h3.ne a ha) (h3.wf b hb) (h3.ne b hb) hab)
def Qu(l:List Prd)(i:Nat):List Iv:=l.flatMap λp=>p.getD i []
def Wa(l:List Prd)(i:Nat):List Int:=k19 (⟨-1099511627776,1099511627776⟩::Qu l i)
def Yy:List Int->List Iv
 |a::b::r=>⟨a,b - 1⟩::Yy (b::r)
 |_=>[]
def Ow(l:List Prd)(i:Nat)(n:Int):List Bool:=l.map λp=>J5 (p.getD i []) n
def Of(p:Prd)(i:Nat)(x:Iv):Prd:=p.set i (p.getD i []++[x])
def Yv(T i:Nat)(sg:List Bool)(x:Iv):List (List Bool×Prd)->List (List Bool×Prd)
 |[]=>[(sg,Of (yI T []) i x)]
 |(s,p)::r=>if s=sg then(s,Of p i x)::r else(s,p)::Yv T i sg x r
def Zi(T:Nat)(l:List Prd):List (Nat×Iv):=(yR T).flatMap λi=>(Yy (Wa l i)).map λx=>(i,x)
def Aq(T:Nat)(l:List Prd):List (List Bool×Prd):=(Zi T l).foldl (λst a=>Yv T a.1 (Ow l a.1 a.2.lo) a.2 st) []
def Rw(p:Prd):Prd:=p.map (Qv [])
def Rg(T:Nat)(l:List Prd):List Prd:=(Aq T l).map λg=>Rw g.2
def x2l(a:Nat×Iv)(t:Nat)(n:Int):Prop:=t=a.1/\a.2.lo<=n/\n<=a.2.hi
structure GInv (T:Nat) (sig:Nat->Int->List Bool) (D:Nat->Int->Prop) (st:List (List Bool×Prd)):Prop where
 len:∀g∈st,g.2.length=T
 asc:∀g∈st,∀s∈g.2,(∀x∈s,x.lo<=x.hi)/\s.Pairwise (λx y=>x.hi<y.lo)
 mem:∀g∈st,∀t n,PM g.2 t n↔D t n/\sig t n=g.1
 ne:∀g∈st,∃t n,PM g.2 t n
 nd:st.Pairwise (λg h=>g.1≠h.1)
 all:∀t n,D t n->∃g∈st,g.1=sig t n
 ord:st.Pairwise (λg h=>∃t n,PM g.2 t n/\∀t' n',PM h.2 t' n'->Ol t n t' n')
def Wt{p:Prd}{i:Nat}(h:i<p.length):p.getD i []=p[i]:=by simp[yS,h]
def c1w{T:Nat}{p:Prd}(hp:p.length=T){i:Nat}(hi:i<T)(x:Iv)(t:Nat)(n:Int):PM (Of p i x) t n↔PM p t n\/x2l (i,x) t n:=by
 unfold PM Of x2l;have z1:i<p.length:=by omega
 rw[Wt z1];by_cases ht:t=i
 ·subst ht;rw[zL z1,zI z1];constructor
  ·rintro⟨s,hs,hm⟩;cases hs;rcases(Cp ..).1 hm with h|h
   ·exact .inl ⟨_,rfl,h⟩
   rcases(Ey ..).1 h with h|h
   ·exact .inr ⟨rfl,h⟩
   simp[M]at h
  rintro(⟨s,hs,hm⟩|⟨_,h⟩)
  ·cases hs;exact⟨_,rfl,(Cp ..).2 (.inl hm)⟩
  exact⟨_,rfl,(Cp ..).2 (.inr ((Ey ..).2 (.inl h)))⟩
 rw[zE (by omega)];constructor
 ·exact λh=> .inl h
 rintro(h|⟨h,_⟩)
 ·exact h
 exact absurd h ht
def d0m{T:Nat}{p:Prd}(hp:p.length=T){i:Nat}(hi:i<T){x:Iv}(hx:x.lo<=x.hi)(h:∀s∈p,(∀y∈s,y.lo<=y.hi)/\s.Pairwise (λy z=>y.hi<z.lo))(z6:∀t n,PM p t n->Ol t n i x.lo):
  ∀s∈Of p i x,(∀y∈s,y.lo<=y.hi)/\s.Pairwise (λy z=>y.hi<z.lo):=by
 intro s hs;have z1:i<p.length:=by omega
 rcases List.mem_or_eq_of_mem_set hs with hs|rfl
 ·exact h s hs
 rw[Wt z1];obtain⟨h1,h2⟩:=h _ (zK z1);refine⟨λy hy=>?_,yE.2 ⟨h2,by simp,λy hy z hz=>?_⟩⟩
 ·rcases zV.1 hy with hy|hy
  ·exact h1 y hy
  obtain rfl:=zP.1 hy;exact hx
 obtain rfl:=zP.1 hz;have:=z6 i y.hi ⟨_,zI z1,y,hy,h1 y hy,yZ _⟩;unfold Ol at this;omega
def P9{T i:Nat}{sg:List Bool}{x:Iv}:∀ {st:List (List Bool×Prd)},(∀g∈st,g.1≠sg)->Yv T i sg x st=st++[(sg,Of (yI T []) i x)]
 |[],_=>rfl
 |(s,p)::r,h=>by rw[Yv,if_neg (h (s,p) (by simp)),P9 (λg hg=>h g (by simp[hg]))];rfl
def D7{T i:Nat}{sg:List Bool}{x:Iv}:∀ {st:List (List Bool×Prd)},(∃g∈st,g.1=sg)->∃a p b,st=a++(sg,p)::b/\(∀g∈a,g.1≠sg)/\Yv T i sg x st=a++(sg,Of p i x)::b
 |[],⟨g,hg,_⟩=>by cases hg
 |(s,p)::r,⟨g,hg,he⟩=>by
  by_cases hs:s=sg
  ·subst hs;exact⟨[],p,r,rfl,by simp,by rw[Yv,if_pos rfl];rfl⟩
  have z1:g∈r:=by
   rcases zZ.1 hg with rfl|hg
   ·exact absurd he hs
   exact hg
  obtain⟨a,q,b,h1,h2,h3⟩:=D7 (T:=T) (i:=i) (x:=x) ⟨g,z1,he⟩;refine⟨(s,p)::a,q,b,by rw[h1];rfl,λg hg=>?_,by rw[Yv,if_neg hs,h3];rfl⟩;rcases zZ.1 hg with rfl|hg
  ·exact hs
  exact h2 g hg
def X8(T t:Nat)(n:Int):¬PM (yI T []) t n:=by rintro⟨s,hs,hm⟩;obtain rfl:=wY (zJ hs);simp[M]at hm
def GInv.step{T:Nat}{sig:Nat->Int->List Bool}{D:Nat->Int->Prop}{st:List (List Bool×Prd)}(h:GInv T sig D st){i:Nat}{x:Iv}(hi:i<T)(hx:x.lo<=x.hi)(hc:∀n,x.lo<=n->n<=x.hi->sig i n=sig i x.lo)(hD:∀t n,D t n->∀n',x.lo<=n'->n'<=x.hi->Ol t n i n'):
  GInv T sig (λt n=>D t n\/x2l (i,x) t n) (Yv T i (sig i x.lo) x st):=by
 have z7:∀t n,x2l (i,x) t n->sig t n=sig i x.lo:=λt n hp=>by obtain⟨rfl,h1,h2⟩:=hp;exact hc n h1 h2
 have zb:∀t n,D t n->∀t' n',x2l (i,x) t' n'->Ol t n t' n':=λt n hd t' n' hp=>by obtain⟨rfl,h1,h2⟩:=hp;exact hD t n hd n' h1 h2
 have zc:x2l (i,x) i x.lo:=⟨rfl,yZ _,hx⟩
 by_cases hit:∃g∈st,g.1=sig i x.lo
 ·obtain⟨a,p,b,h1,h2,h3⟩:=D7 (T:=T) (i:=i) (x:=x) hit;rw[h3];subst h1;generalize zh:sig i x.lo=s0 at *
  have za:(s0,p)∈a++(s0,p)::b:=by simp
  have zd:=h.mem _ za;have hlen:=h.len _ za;have zf:=h.nd;obtain⟨n1,n2,n3⟩:=yE.1 zf;obtain⟨n4,n5⟩:=yP.1 n2;obtain⟨o1,o2,o3⟩:=yE.1 h.ord;obtain⟨o4,o5⟩:=yP.1 o2;have z1:=λt n=>c1w hlen hi x t n;have hold:∀g∈a++(s0,Of p i x)::b,(g∈a++(s0,p)::b/\g.1≠s0)\/g=(s0,Of p i x):=λg hg=>by
   rcases zV.1 hg with hg|hg
   ·exact .inl ⟨by simp[hg],h2 g hg⟩
   rcases zZ.1 hg with rfl|hg
   ·exact .inr rfl
   exact .inl ⟨by simp[hg],(n4 g hg).symm⟩
  refine⟨λg hg=>?_,λg hg=>?_,λg hg t n=>?_,λg hg=>?_,?_,λt n hd=>?_,?_⟩
  ·rcases hold g hg with⟨hg,_⟩|rfl
   ·exact h.len g hg
   simp[Of,hlen]
  ·rcases hold g hg with⟨hg,_⟩|rfl
   ·exact h.asc g hg
   exact d0m hlen hi hx (h.asc _ za) (λt n hm=>hD t n ((zd t n).1 hm).1 x.lo (yZ _) hx)
  ·rcases hold g hg with⟨hg,zg⟩|rfl
   ·rw[h.mem g hg t n];constructor
    ·exact λhh=>⟨.inl hh.1,hh.2⟩
    rintro⟨hd|hd,hs⟩
    ·exact⟨hd,hs⟩
    exact absurd (by rw[<-hs,z7 t n hd]) zg
   rw[z1,zd];constructor
   ·rintro(⟨hd,hs⟩|hd)
    ·exact⟨.inl hd,hs⟩
    exact⟨.inr hd,z7 t n hd⟩
   rintro⟨hd|hd,hs⟩
   ·exact .inl ⟨hd,hs⟩
   exact .inr hd
  ·rcases hold g hg with⟨hg,_⟩|rfl
   ·exact h.ne g hg
   exact⟨i,x.lo,(z1 i x.lo).2 (.inr zc)⟩
  ·exact yE.2 ⟨n1,yP.2 ⟨λg hg=>n4 g hg,n5⟩,λg hg k hk=>by
    rcases zZ.1 hk with rfl|hk
    ·exact h2 g hg
    exact n3 g hg k (by simp[hk])⟩
  ·rcases hd with hd|hd
   ·obtain⟨g,hg,he⟩:=h.all t n hd;rcases zV.1 hg with hg|hg
    ·exact⟨g,by simp[hg],he⟩
    rcases zZ.1 hg with rfl|hg
    ·exact⟨(s0,Of p i x),by simp,he⟩
    exact⟨g,by simp[hg],he⟩
   exact⟨(s0,Of p i x),by simp,(z7 t n hd).symm⟩
  refine yE.2 ⟨o1,yP.2 ⟨λg hg=>?_,o5⟩,λg hg k hk=>?_⟩
  ·obtain⟨t,n,e1,e2⟩:=o4 g hg;exact⟨t,n,(z1 t n).2 (.inl e1),e2⟩
  rcases zZ.1 hk with rfl|hk
  ·obtain⟨t,n,e1,e2⟩:=o3 g hg (s0,p) (by simp);refine⟨t,n,e1,λt' n' hm=>?_⟩;rcases(z1 t' n').1 hm with hm|hm
   ·exact e2 t' n' hm
   exact zb t n ((h.mem g (by simp[hg]) t n).1 e1).1 t' n' hm
  exact o3 g hg k (by simp[hk])
 have z8:∀g∈st,g.1≠sig i x.lo:=λg hg he=>hit ⟨g,hg,he⟩;rw[P9 z8];have ze:(yI T ([]:List Iv)).length=T:=by simp
 have z1:=λt n=>c1w ze hi x t n;have z6:∀g∈st++[(sig i x.lo,Of (yI T []) i x)],g∈st\/g=(sig i x.lo,Of (yI T []) i x):=λg hg=>by
  rcases zV.1 hg with hg|hg
  ·exact .inl hg
  exact .inr (zP.1 hg)
 refine⟨λg hg=>?_,λg hg=>?_,λg hg t n=>?_,λg hg=>?_,?_,λt n hd=>?_,?_⟩
 ·rcases z6 g hg with hg|rfl
  ·exact h.len g hg
  simp[Of]
 ·rcases z6 g hg with hg|rfl
  ·exact h.asc g hg
  exact d0m ze hi hx (λs hs=>by obtain rfl:=wY hs;simp) (λt n hm=>absurd hm (X8 T t n))
 ·rcases z6 g hg with hg|rfl
  ·rw[h.mem g hg t n];constructor
   ·exact λhh=>⟨.inl hh.1,hh.2⟩
   rintro⟨hd|hd,hs⟩
   ·exact⟨hd,hs⟩
   exact absurd (by rw[<-hs,z7 t n hd]) (z8 g hg)
  rw[z1];constructor
  ·rintro(hm|hd)
   ·exact absurd hm (X8 T t n)
   exact⟨.inr hd,z7 t n hd⟩
  rintro⟨hd|hd,hs⟩
  ·obtain⟨g,hg,he⟩:=h.all t n hd;exact absurd (he.trans hs) (z8 g hg)
  exact .inr hd
 ·rcases z6 g hg with hg|rfl
  ·exact h.ne g hg
  exact⟨i,x.lo,(z1 i x.lo).2 (.inr zc)⟩
 ·exact yE.2 ⟨h.nd,by simp,λg hg k hk=>by obtain rfl:=zP.1 hk;exact z8 g hg⟩
 ·rcases hd with hd|hd
  ·obtain⟨g,hg,he⟩:=h.all t n hd;exact⟨g,by simp[hg],he⟩
  exact⟨(sig i x.lo,Of (yI T []) i x),by simp,(z7 t n hd).symm⟩
 refine yE.2 ⟨h.ord,by simp,λg hg k hk=>?_⟩;obtain rfl:=zP.1 hk;obtain⟨t,n,e1⟩:=h.ne g hg;refine⟨t,n,e1,λt' n' hm=>?_⟩;rcases(z1 t' n').1 hm with hm|hm
 ·exact absurd hm (X8 T t' n')
 exact zb t n ((h.mem g hg t n).1 e1).1 t' n' hm
def Dk:∀(cs:List Int),cs.Pairwise (·<·)->∀x∈Yy cs,x.lo<=x.hi/\x.lo∈cs/\x.hi+1∈cs/\∀d∈cs,d<=x.hi->d<=x.lo
 |[],_,x,hx=>by simp[Yy]at hx
 |[a],_,x,hx=>by simp[Yy]at hx
 |a::b::r,h,x,hx=>by
  obtain⟨h1,h2⟩:=yP.1 h;rw[Yy]at hx;rcases zZ.1 hx with rfl|hx
  ·have z1:=h1 b (by simp);refine⟨by simp only;omega,by simp,by simp,λd hd hle=>?_⟩;simp only at hle |-;rcases zZ.1 hd with rfl|hd
   ·omega
   have:b<=d:=by
    rcases zZ.1 hd with rfl|hd
    ·omega
    have:=(yP.1 h2).1 d hd;omega
   omega
  obtain⟨k1,k2,k3,k4⟩:=Dk (b::r) h2 x hx;refine⟨k1,by simp only[zZ]at k2 |-;exact .inr k2,by simp only[zZ]at k3 |-;exact .inr k3,λd hd hle=>?_⟩;rcases zZ.1 hd with rfl|hd
  ·have:=h1 x.lo k2;omega
  exact k4 d hd hle
def x0d:∀(cs:List Int),cs.Pairwise (·<·)->(Yy cs).Pairwise (λx y=>x.hi<y.lo)
 |[],_=>by simp[Yy]
 |[a],_=>by simp[Yy]
 |a::b::r,h=>by
  obtain⟨h1,h2⟩:=yP.1 h;rw[Yy];refine yP.2 ⟨λy hy=>?_,x0d (b::r) h2⟩;obtain⟨_,k2,_,_⟩:=Dk (b::r) h2 y hy;have:b<=y.lo:=by
   rcases zZ.1 k2 with e|k2
   ·omega
   have:=(yP.1 h2).1 y.lo k2;omega
  simp only;omega
def Zj:∀(cs:List Int),cs.Pairwise (·<·)->∀n,(∃a∈cs,a<=n)->(∃b∈cs,n<b)->∃x∈Yy cs,x.lo<=n/\n<=x.hi
 |[],_,n,⟨a,ha,_⟩,_=>by cases ha
 |[a],_,n,⟨c,hc,h1⟩,⟨d,hd,h2⟩=>by obtain rfl:=zP.1 hc;obtain rfl:=zP.1 hd;omega
 |a::b::r,h,n,⟨c,hc,h1⟩,⟨d,hd,h2⟩=>by
  obtain⟨p1,p2⟩:=yP.1 h;rw[Yy];have z1:a<=n:=by
   rcases zZ.1 hc with rfl|hc
   ·exact h1
   have:=p1 c hc;omega
  by_cases hb:n<b
  ·exact⟨⟨a,b - 1⟩,by simp,z1,by simp only;omega⟩
  have z6:d∈b::r:=by
   rcases zZ.1 hd with rfl|hd
   ·omega
   exact hd
  obtain⟨x,hx,e⟩:=Zj (b::r) p2 n ⟨b,by simp,by omega⟩ ⟨d,z6,h2⟩;exact⟨x,by simp[hx],e⟩
def Tn{l:List Prd}{i:Nat}{x:Iv}:x∈Qu l i↔∃p∈l,x∈p.getD i []:=by simp[Qu]
def v1i{T:Nat}{p:Prd}(hp:PCk T p)(i:Nat):CanonL (p.getD i []):=by
 by_cases hi:i<p.length
 ·rw[Wt hi];exact hp.2 _ (zK hi)
 have:p.getD i []=[]:=by simp[yS,List.getElem?_eq_none (by omega:p.length<=i)]
 rw[this];exact Dv
def Yk{T:Nat}{l:List Prd}(hl:∀p∈l,PCk T p)(i:Nat):(Wa l i).Pairwise (·<·)/\(-1099511627776:Int)∈Wa l i/\(1099511627777:Int)∈Wa l i/\
  (∀z∈Wa l i,-1099511627776<=z/\z<=1099511627777)/\∀p∈l,∀x∈p.getD i [],x.lo∈Wa l i/\x.hi+1∈Wa l i:=by
 obtain⟨h1,h2⟩:=y1q (⟨-1099511627776,1099511627776⟩::Qu l i);refine⟨h1,(h2 _).2 ⟨⟨-1099511627776,1099511627776⟩,by simp,.inl rfl⟩,(h2 _).2 ⟨⟨-1099511627776,1099511627776⟩,by simp,.inr (by simp)⟩,λz hz=>?_,λp hp x hx=>⟨(h2 _).2 ⟨x,?_,.inl rfl⟩,(h2 _).2 ⟨x,?_,.inr rfl⟩⟩⟩
 ·obtain⟨x,hx,e⟩:=(h2 z).1 hz;rcases zZ.1 hx with rfl|hx
  ·simp only at e;omega
  obtain⟨p,hp,hx⟩:=Tn.1 hx;have hc:=v1i (hl p hp) i;have h3:=Cm hc x hx;have h4:=(Ec _).1 h3.1;have h5:=(Ec _).1 h3.2;have:=(S1 hc).1 x hx;omega
 ·exact tl _ (Tn.2 ⟨p,hp,hx⟩)
 exact tl _ (Tn.2 ⟨p,hp,hx⟩)
def w1j{T:Nat}{l:List Prd}(hl:∀p∈l,PCk T p)(i:Nat){x:Iv}(hx:x∈Yy (Wa l i))(n:Int)(h1:x.lo<=n)(h2:n<=x.hi):Ow l i n=Ow l i x.lo:=by obtain⟨c1,_,_,_,c5⟩:=Yk hl i;obtain⟨_,_,_,k4⟩:=Dk _ c1 x hx;unfold Ow;apply xC;intro p hp;exact w1h _ (Wa l i) (c5 p hp) x.lo n h1 (λd hd hle=>k4 d hd (by omega))
def Bh{T:Nat}{p:Prd}(hp:p.length=T){t:Nat}(ht:t<T)(n:Int):J5 (p.getD t []) n=true↔PM p t n:=by
 have z1:t<p.length:=by omega
 rw[Wt z1,w03];unfold PM;rw[zI z1];simp
def c18{T:Nat}{l:List Prd}(hl:∀p∈l,PCk T p){t t':Nat}(ht:t<T)(z1:t'<T)(n n':Int):Ow l t n=Ow l t' n'↔k2h l t n t' n':=by
 unfold Ow k2h;constructor
 ·intro h p hp;have:=(List.map_inj_left.1 h) p hp;rw[<-Bh (hl p hp).1 ht,<-Bh (hl p hp).1 z1,this]
 intro h;apply xC;intro p hp;have:=h p hp;rw[<-Bh (hl p hp).1 ht,<-Bh (hl p hp).1 z1]at this;exact xT.2 this
def GInv.congr{T:Nat}{sig:Nat->Int->List Bool}{D D':Nat->Int->Prop}{st:List (List Bool×Prd)}(h:GInv T sig D st)(e:∀t n,D t n↔D' t n):GInv T sig D' st:=by have:D=D':=funext λt=>funext λn=>propext (e t n);rw[<-this];exact h
def N2{T:Nat}{sig:Nat->Int->List Bool}:∀(A:List (Nat×Iv)) (D:Nat->Int->Prop) (st:List (List Bool×Prd)),GInv T sig D st->(∀a∈A,a.1<T/\a.2.lo<=a.2.hi/\∀n,a.2.lo<=n->n<=a.2.hi->sig a.1 n=sig a.1 a.2.lo)->
  (∀t n,D t n->∀a∈A,∀n',a.2.lo<=n'->n'<=a.2.hi->Ol t n a.1 n')->A.Pairwise (λa b=>∀n n',a.2.lo<=n->n<=a.2.hi->b.2.lo<=n'->n'<=b.2.hi->Ol a.1 n b.1 n')->
  GInv T sig (λt n=>D t n\/∃a∈A,x2l a t n) (A.foldl (λst a=>Yv T a.1 (sig a.1 a.2.lo) a.2 st) st)
 |[],D,st,h,_,_,_=>h.congr (λt n=>by simp)
 |a::A,D,st,h,h1,h2,h3=>by
  obtain⟨i,x⟩:=a;obtain⟨e1,e2,e3⟩:=h1 (i,x) (by simp);obtain⟨p1,p2⟩:=yP.1 h3;have hs:=h.step e1 e2 e3 (λt n hd n' q1 q2=>h2 t n hd (i,x) (by simp) n' q1 q2);rw[xS];refine(N2 A _ _ hs (λb hb=>h1 b (by simp[hb])) (λt n hd b hb n' q1 q2=>?_) p2).congr (λt n=>?_)
  ·rcases hd with hd|hd
   ·exact h2 t n hd b (by simp[hb]) n' q1 q2
   obtain⟨rfl,d1,d2⟩:=hd;exact p1 b hb n n' d1 d2 q1 q2
  simp[or_assoc]
def Jb{T:Nat}{l:List Prd}{a:Nat×Iv}:a∈Zi T l↔a.1<T/\a.2∈Yy (Wa l a.1):=by
 unfold Zi;rw[xV];constructor
 ·rintro⟨i,hi,h⟩;obtain⟨x,hx,rfl⟩:=zO.1 h;exact⟨yT.1 hi,hx⟩
 rintro⟨h1,h2⟩;exact⟨a.1,yT.2 h1,zO.2 ⟨a.2,h2,rfl⟩⟩
def w19{T:Nat}{l:List Prd}(hl:∀p∈l,PCk T p):(Zi T l).Pairwise (λa b=>∀n n',a.2.lo<=n->n<=a.2.hi->b.2.lo<=n'->n'<=b.2.hi->Ol a.1 n b.1 n'):=by
 unfold Zi;rw[vA];refine⟨λi _=>?_,?_⟩
 ·rw[xI];refine(x0d _ (Yk hl i).1).imp (λ{x y} h n n' h1 h2 h3 h4=> .inr ⟨rfl,by simp only at h2 h3;omega⟩)
 refine List.pairwise_lt_range.imp (λ{i j} h a ha b hb n n' _ _ _ _=>?_);obtain⟨x,_,rfl⟩:=zO.1 ha;obtain⟨y,_,rfl⟩:=zO.1 hb;exact .inl h
def z16{T:Nat}{l:List Prd}(hl:∀p∈l,PCk T p):GInv T (Ow l) (λt n=>t<T/\inR n) (Aq T l):=by
 have h0:GInv T (Ow l) (λ_ _=>False) []:=⟨by simp,by simp,by simp,by simp,by simp,λ_ _ h=>h.elim,by simp⟩
 refine(N2 (Zi T l) _ [] h0 (λa ha=>?_) (λ_ _ h=>h.elim) (w19 hl)).congr (λt n=>?_)
 ·obtain⟨h1,h2⟩:=Jb.1 ha;exact⟨h1,(Dk _ (Yk hl a.1).1 _ h2).1,λn q1 q2=>w1j hl a.1 h2 n q1 q2⟩
 obtain⟨c1,c2,c3,c4,c5⟩:=Yk hl t;constructor
 ·rintro(h|⟨a,ha,rfl,h1,h2⟩)
  ·exact h.elim
  obtain⟨q1,q2⟩:=Jb.1 ha;obtain⟨s1,s2,s3,s4⟩:=Dk _ c1 _ q2;have:=c4 _ s2;have:=c4 _ s3;exact⟨q1,by unfold inR;omega⟩
 rintro⟨h1,h2⟩;unfold inR at h2;obtain⟨x,hx,e1,e2⟩:=Zj _ c1 n ⟨_,c2,h2.1⟩ ⟨_,c3,by omega⟩;exact .inr ⟨(t,x),Jb.2 ⟨h1,hx⟩,rfl,e1,e2⟩
def P8{s:List Iv}(h:(∀x∈s,x.lo<=x.hi)/\s.Pairwise (λx y=>x.hi<y.lo)):Sep (Qv [] s)/\∀n,M (Qv [] s) n↔M s n:=by have hb:Br s:=h.2.imp_of_mem (λ{x y} hx hy hxy=>by have:=h.1 x hx;omega);have:=Fw s [] X9 hb h.1 (by simp);refine⟨this.1,λn=>?_⟩;rw[this.2 n];simp[M]
def C0{T:Nat}{p:Prd}(h:∀s∈p,(∀x∈s,x.lo<=x.hi)/\s.Pairwise (λx y=>x.hi<y.lo))(t:Nat)(n:Int):PM (Rw p) t n↔PM p t n:=by
 unfold PM Rw;rw[zU];constructor
 ·rintro⟨s,hs,hm⟩;obtain⟨a,ha,rfl⟩:=zS.1 hs;exact⟨a,ha,((P8 (h a (zJ ha))).2 n).1 hm⟩
 rintro⟨a,ha,hm⟩;exact⟨Qv [] a,by rw[ha];rfl,((P8 (h a (zJ ha))).2 n).2 hm⟩
def Vq{T:Nat}{l:List Prd}(hl:∀p∈l,PCk T p):Prts T l (Rg T l)/\(Rg T l).Pairwise u04:=by
 have h:=z16 hl;have z1:∀g∈Aq T l,∀t n,PM (Rw g.2) t n↔(t<T/\inR n)/\Ow l t n=g.1:=λg hg t n=>by rw[C0 (T:=T) (h.asc g hg),h.mem g hg]
 have z6:∀p∈Rg T l,∃g∈Aq T l,p=Rw g.2:=λp hp=>by obtain⟨g,hg,rfl⟩:=zO.1 hp;exact⟨g,hg,rfl⟩
 refine⟨⟨λp hp=>?_,λp hp=>?_,λt n ht hn=>?_,λp hp t n hm t' n'=>?_⟩,?_⟩
 ·obtain⟨g,hg,rfl⟩:=z6 p hp;refine⟨by simp[Rw,h.len g hg],λs hs=>?_⟩;obtain⟨i,hi⟩:=yK.1 hs;have z7:=hs;obtain⟨a,ha,rfl⟩:=zO.1 hs;exact⟨(P8 (h.asc g hg a ha)).1,λn hn=>((z1 g hg i n).1 ⟨_,hi,hn⟩).1.2⟩
 ·obtain⟨g,hg,rfl⟩:=z6 p hp;obtain⟨t,n,hm⟩:=h.ne g hg;exact⟨t,n,(C0 (T:=T) (h.asc g hg) t n).2 hm⟩
 ·obtain⟨g,hg,he⟩:=h.all t n ⟨ht,hn⟩;exact⟨Rw g.2,zO.2 ⟨g,hg,rfl⟩,(z1 g hg t n).2 ⟨⟨ht,hn⟩,he.symm⟩⟩
 ·obtain⟨g,hg,rfl⟩:=z6 p hp;obtain⟨⟨q1,q2⟩,q3⟩:=(z1 g hg t n).1 hm;rw[z1 g hg];constructor
  ·rintro⟨⟨h1,h2⟩,h3⟩;exact⟨h1,h2,(c18 hl q1 h1 n n').1 (q3.trans h3.symm)⟩
  rintro⟨h1,h2,h3⟩;exact⟨⟨h1,h2⟩,((c18 hl q1 h1 n n').2 h3).symm.trans q3⟩
 unfold Rg;rw[xI];refine h.ord.imp_of_mem (λ{a b} ha hb hab=>?_);obtain⟨t,n,e1,e2⟩:=hab;exact⟨t,n,(C0 (T:=T) (h.asc a ha) t n).2 e1,λt' n' hm=>e2 t' n' ((C0 (T:=T) (h.asc b hb) t' n').1 hm)⟩
def Ze{T:Nat}(hT:0<T){l:List Prd}(hl:∀p∈l,PCk T p):Rg T l=Q7 T l:=by obtain⟨a1,a2⟩:=Vq hl;obtain⟨b1,b2⟩:=I5 hT hl;exact a1.unique b1 a2 b2
structure Sy where
 ty:Int
 num:Int
deriving Inhabited,DecidableEq
structure Mv where
 src:Int
 dst:Int
 on:Prd
deriving Inhabited
structure Aut where
 types:Int
 fin:List Bool
 mv:List Mv
deriving Inhabited
def Ix:Aut:=⟨0,[],[]⟩
def j0q:List (List Iv)->Int
 |[]=>0
 |s::r=>if ckR s≠0 then ckR s else j0q r
def Re(T:Int)(p:Prd):Int:=if T<1\/16<T then 2 else if(p.length:Int)≠T then 15 else j0q p
def u0v(T:Int)(n:Nat):List Mv->Int
 |[]=>0
 |m::r=>if ¬((0<=m.src/\m.src<n)/\(0<=m.dst/\m.dst<n))then 2 else if Re T m.on≠0 then Re T m.on else u0v T n r
def Wl(a:Aut):Int:=if a.types<1\/16<a.types then 2 else if a.fin.length<1\/256<a.fin.length\/2048<a.mv.length then 5 else u0v a.types a.fin.length a.mv
def y04:∀(p:List (List Iv)),j0q p=0↔∀s∈p,CanonL s
 |[]=>by simp[j0q]
 |s::r=>by
  rw[j0q];by_cases h:ckR s=0
  ·rw[if_neg (λk=>k h),y04 r];simp[(N5 s).1 h]
  rw[if_pos h];refine⟨λk=>absurd k h,λk=>absurd ((N5 s).2 (k s (by simp))) h⟩
def Eg(T:Int)(p:Prd):Re T p=0↔(1<=T/\T<=16)/\PCk T.toNat p:=by
 unfold Re PCk;by_cases h1:T<1\/16<T
 ·rw[if_pos h1];exact⟨λh=>by omega,λh=>by omega⟩
 rw[if_neg h1];by_cases h2:(p.length:Int)≠T
 ·rw[if_pos h2];exact⟨λh=>by omega,λh=>by omega⟩
 rw[if_neg h2,y04];exact⟨λh=>⟨by omega,by omega,h⟩,λh=>h.2.2⟩
structure OkMv (T:Nat) (n:Nat) (m:Mv):Prop where
 src:0<=m.src/\m.src<n
 dst:0<=m.dst/\m.dst<n
 on:PCk T m.on
structure OkA (a:Aut):Prop where
 types:1<=a.types/\a.types<=16
 fin:1<=a.fin.length/\a.fin.length<=256
 mvs:a.mv.length<=2048
 mv:∀m∈a.mv,OkMv a.types.toNat a.fin.length m
def v0e{T:Int}(hT:1<=T/\T<=16)(n:Nat):∀(l:List Mv),u0v T n l=0↔∀m∈l,OkMv T.toNat n m
 |[]=>by simp[u0v]
 |m::r=>by
  rw[u0v];by_cases h1:(0<=m.src/\m.src<n)/\(0<=m.dst/\m.dst<n)
  ·rw[if_neg (λk=>k h1)];by_cases h2:Re T m.on=0
   ·rw[if_neg (λk=>k h2),v0e hT n r];have h3:=((Eg T m.on).1 h2).2;constructor
    ·intro h x hx;rcases zZ.1 hx with rfl|hx
     ·exact⟨h1.1,h1.2,h3⟩
     exact h x hx
    exact λh x hx=>h x (by simp[hx])
   rw[if_pos h2];exact⟨λh=>absurd h h2,λh=>absurd ((Eg T m.on).2 ⟨hT,(h m (by simp)).on⟩) h2⟩
  rw[if_pos h1];exact⟨λh=>(by cases h),λh=>absurd ⟨(h m (by simp)).src,(h m (by simp)).dst⟩ h1⟩
def Y4(a:Aut):Wl a=0↔OkA a:=by
 unfold Wl;by_cases h1:a.types<1\/16<a.types
 ·rw[if_pos h1];exact⟨λh=>(by cases h),λh=>by have:=h.types;omega⟩
 rw[if_neg h1];by_cases h2:a.fin.length<1\/256<a.fin.length\/2048<a.mv.length
 ·rw[if_pos h2];exact⟨λh=>(by cases h),λh=>by have:=h.fin;have:=h.mvs;omega⟩
 rw[if_neg h2,v0e (by omega)];exact⟨λh=>⟨by omega,by omega,by omega,h⟩,λh=>h.mv⟩
def Tj(p:Prd)(x:Sy):Bool:=decide (0<=x.ty) && decide (x.ty<p.length) && J5 (p.getD x.ty.toNat []) x.num
def Le(T:Int)(x:Sy):Int:=if x.ty<0\/T<=x.ty then 6 else if x.num< -1099511627776\/1099511627776<x.num then 2 else 0
def I3(T:Int)(x:Sy):Le T x=0↔(0<=x.ty/\x.ty<T)/\inR x.num:=by
 unfold Le inR;split
 ·constructor
  ·intro h;cases h
  intro h;omega
 split
 ·constructor
  ·intro h;cases h
  intro h;omega
 constructor
 ·intro _;omega
 intro _;rfl
def Rs{T:Nat}{p:Prd}(hp:p.length=T)(x:Sy)(hx:0<=x.ty):Tj p x=true↔PM p x.ty.toNat x.num:=by
 unfold Tj;by_cases h:x.ty<p.length
 ·have h1:x.ty.toNat<T:=by omega
  rw[<-Bh hp h1];simp[h,hx]
 have:¬PM p x.ty.toNat x.num:=by rintro⟨s,hs,_⟩;have:=(zB.1 hs).1;omega
 simp[h,this]
def Ee(n:Nat):List Int:=(yR n).map λi:Nat=>(i:Int)
def Wy{n:Nat}{z:Int}:z∈Ee n↔0<=z/\z<n:=by
 unfold Ee;rw[zO];constructor
 ·rintro⟨i,hi,rfl⟩;have:=yT.1 hi;omega
 rintro⟨h1,h2⟩;exact⟨z.toNat,yT.2 (by omega),by omega⟩
def Ky(n:Nat):(Ee n).Pairwise (·<·):=by unfold Ee;rw[xI];exact List.pairwise_lt_range.imp (λh=>by omega)
def q21(a:Aut)(l:List Int)(x:Sy)(j:Int):Bool:=a.mv.any λm=>l.contains m.src && Tj m.on x && decide (m.dst=j)
def Q1(a:Aut)(l:List Int)(x:Sy):List Int:=(Ee a.fin.length).filter (q21 a l x)
def w27(a:Aut)(l:List Int)(x:Sy):List Int:=Go.Lib.compact (Tk ((a.mv.filter λm=>l.contains m.src && Tj m.on x).map (·.dst)))
def u1c(zs:List Int):(Tk zs).Pairwise (·<=·):=by have:=uj (le:=λx y:Int=>decide (x<=y)) (λa b c h1 h2=>by simp at h1 h2 |-;omega) (λa b=>by simp;omega) zs;simpa[Tk]using this
def By(zs:List Int):(Go.Lib.compact (Tk zs)).Pairwise (·<·)/\∀z,z∈Go.Lib.compact (Tk zs)↔z∈zs:=by have h:=q0m _ (u1c zs) _ (zQ _);refine⟨h.1,λz=>?_⟩;have h2:=h.2 z;rw[yB]at h2;rw[Go.Lib.compact,h2,Tk,tw]
def Yh{a b:List Int}(ha:a.Pairwise (·<·))(hb:b.Pairwise (·<·))(h:∀z,z∈a↔z∈b):a=b:=by have hn:∀ {l:List Int},l.Pairwise (·<·)->l.Nodup:=λhl=>hl.imp (λh e=>by omega);exact List.Perm.eq_of_pairwise (le:=(·<·)) (λa b _ _ h1 h2=>by omega) ha hb ((ua (hn ha) (hn hb)).2 h)
def Up(a:Aut)(l:List Int)(x:Sy):(Q1 a l x).Pairwise (·<·):=(Ky _).filter _
def Wu{a:Aut}{l:List Int}{x:Sy}{j:Int}:j∈Q1 a l x↔(0<=j/\j<a.fin.length)/\∃m∈a.mv,m.src∈l/\Tj m.on x=true/\m.dst=j:=by unfold Q1 q21;rw[xJ,Wy,wP];simp[and_assoc]
def x2y{a:Aut}(h:∀m∈a.mv,0<=m.dst/\m.dst<a.fin.length)(l:List Int)(x:Sy):w27 a l x=Q1 a l x:=by
 obtain⟨h1,h2⟩:=By ((a.mv.filter λm=>l.contains m.src && Tj m.on x).map (·.dst));refine Yh h1 (Up a l x) λz=>?_;rw[w27,h2,Wu];constructor
 ·intro hz;obtain⟨m,hm,rfl⟩:=zO.1 hz;obtain⟨hm,hc⟩:=xJ.1 hm;simp at hc;exact⟨h m hm,m,hm,hc.1,hc.2,rfl⟩
 rintro⟨_,m,hm,c1,c2,rfl⟩;exact zO.2 ⟨m,xJ.2 ⟨hm,by simp[c1,c2]⟩,rfl⟩
def Ur{a:Aut}{l:List Int}{x:Sy}:∀j∈Q1 a l x,0<=j/\j<a.fin.length:=λj hj=>(Wu.1 hj).1
def Qm(p:Prd):Sy:=⟨(Qy p 0).1,(Qy p 0).2⟩
def Z8(Q:List (List Int))(x:List Int):List (List Int):=if x=[]\/x∈Q then Q else Q++[x]
def Eh(Q:List (List Int))(xs:List (List Int)):List (List Int):=xs.foldl Z8 Q
def Tq(a:Aut)(cl:List Prd)(l:List Int):List (List Int):=cl.map λc=>Q1 a l (Qm c)
def k0f(a:Aut)(cl:List Prd):Nat->Nat->List (List Int)->Option (List (List Int))
 |0,_,_=>none
 |f+1,i,Q=>match Q[i]? with
  |some l=>if 256<(Eh Q (Tq a cl l)).length then none else k0f a cl f (i+1) (Eh Q (Tq a cl l))
  |none=>some Q
def v16(Q:List (List Int))(x:List Int):∃R,Z8 Q x=Q++R/\∀y∈R,y=x/\x≠[]:=by
 unfold Z8;split
 ·exact⟨[],by simp,by simp⟩
 rename_i h;exact⟨[x],rfl,λy hy=>⟨zP.1 hy,λe=>h (.inl e)⟩⟩
def Ii:∀(xs:List (List Int)) (Q:List (List Int)),∃R,Eh Q xs=Q++R/\∀y∈R,y∈xs/\y≠[]
 |[],Q=>⟨[],by simp[Eh],by simp⟩
 |x::xs,Q=>by
  obtain⟨R1,h1,h2⟩:=v16 Q x;obtain⟨R2,h3,h4⟩:=Ii xs (Z8 Q x);refine⟨R1++R2,?_,λy hy=>?_⟩
  ·show Eh (Z8 Q x) xs=_;rw[h3,h1,List.append_assoc]
  rcases zV.1 hy with hy|hy
  ·obtain⟨rfl,hn⟩:=h2 y hy;exact⟨by simp,hn⟩
  exact⟨by simp[(h4 y hy).1],(h4 y hy).2⟩
def j0c(Q xs:List (List Int)):Q.length<=(Eh Q xs).length:=by obtain⟨R,h,_⟩:=Ii xs Q;rw[h];simp
def d1j{Q:List (List Int)}{x:List Int}(hx:x≠[]):x∈Z8 Q x:=by
 unfold Z8;split
 ·rename_i h;rcases h with h|h
  ·exact absurd h hx
  exact h
 simp
def Xp:∀ {xs:List (List Int)} {Q:List (List Int)} {x:List Int},x∈xs->x≠[]->x∈Eh Q xs
 |[],_,_,h,_=>by cases h
 |y::xs,Q,x,h,hn=>by
  show x∈Eh (Z8 Q y) xs;rcases zZ.1 h with rfl|h
  ·obtain⟨R,e,_⟩:=Ii xs (Z8 Q x);rw[e];exact yX _ (d1j hn)
  exact Xp h hn
def R4(p q:Prd):Prd:=sc (λa b=>Eu (a++b)) p q
def De{T:Nat}{p q:Prd}(hp:PWf T p)(hq:PWf T q)(t:Nat)(n:Int):PM (R4 p q) t n↔PM p t n\/PM q t n:=by
 have hf:∀ {a b:List Iv},a∈p->b∈q->∀x∈a++b,x.lo<=x.hi:=λha hb x hx=>by
  rcases zV.1 hx with hx|hx
  ·exact(hp.2 _ ha).1.1 x hx
  exact(hq.2 _ hb).1.1 x hx
 unfold PM R4;rw[vw];constructor
 ·rintro⟨s,hs,hm⟩;cases h1:p[t]? with
  |none=>rw[h1]at hs;simp at hs
  |some a=>
   cases h2:q[t]? with
   |none=>rw[h1,h2]at hs;simp at hs
   |some b=>
    rw[h1,h2]at hs;simp at hs;subst hs;have:=((Iw _ (hf (zJ h1) (zJ h2))).2 n).1 hm;rcases(Cp ..).1 this with h|h
    ·exact .inl ⟨a,rfl,h⟩
    exact .inr ⟨b,rfl,h⟩
 intro h;have z1:t<T:=by
  rcases h with⟨s,hs,_⟩|⟨s,hs,_⟩
  ·rw[<-hp.1];exact(zB.1 hs).1
  rw[<-hq.1];exact(zB.1 hs).1
 have h1:t<p.length:=by rw[hp.1];exact z1
 have h2:t<q.length:=by rw[hq.1];exact z1
 rw[zI h1,zI h2]at h |-;refine⟨_,rfl,((Iw _ (hf (zK h1) (zK h2))).2 n).2 ((Cp ..).2 ?_)⟩;rcases h with⟨s,hs,hm⟩|⟨s,hs,hm⟩
 ·cases hs;exact .inl hm
 cases hs;exact .inr hm
def J8{T:Nat}{p q:Prd}(hp:PWf T p)(hq:PWf T q):PWf T (R4 p q):=by
 refine⟨by simp[R4,hp.1,hq.1],λs hs=>?_⟩;obtain⟨i,hi⟩:=yK.1 hs;have z1:=hi;unfold R4 at hi;rw[vw]at hi;cases h1:p[i]? with
 |none=>rw[h1]at hi;simp at hi
 |some a=>
  cases h2:q[i]? with
  |none=>rw[h1,h2]at hi;simp at hi
  |some b=>
   rw[h1,h2]at hi;simp at hi;subst hi;refine⟨(Iw _ λx hx=>?_).1,λn hn=>?_⟩
   ·rcases zV.1 hx with hx|hx
    ·exact(hp.2 _ (zJ h1)).1.1 x hx
    exact(hq.2 _ (zJ h2)).1.1 x hx
   rcases(De hp hq i n).1 ⟨_,z1,hn⟩with h|h
   ·exact(hp.lt h).2
   exact(hq.lt h).2
def g05(Q:List (List Int))(x:List Int):Option Nat:=Q.findIdx? λy=>decide (y=x)
def Jl{Q:List (List Int)}{x:List Int}{t:Nat}(h:g05 Q x=some t):Q[t]?=some x:=by unfold g05 at h;obtain⟨h1,h2,_⟩:=xM.1 h;rw[zI h1];simpa using h2
def q1o{Q:List (List Int)}(hn:Q.Nodup){t:Nat}{x:List Int}(h:Q[t]?=some x):g05 Q x=some t:=by
 unfold g05;obtain⟨h1,h2⟩:=zB.1 h;refine xM.2 ⟨h1,by simpa using h2,λj hj=>?_⟩;have z1:Q[j]≠Q[t]:=λe=>by have:=(u3 hn).1 e;omega
 rw[h2]at z1;simpa using z1
def T8(n:Nat)(g:List Mv)(to:Nat)(c:Prd):List Mv:=match g.findIdx? λm:Mv=>decide (m.dst=(to:Int))with
 |none=>g++[⟨n,to,c⟩]
 |some i=>match g[i]? with
  |some m=>g.set i { m with on:=R4 m.on c }
  |none=>g
def M0(a:Aut)(cl:List Prd)(Q:List (List Int))(n:Nat)(l:List Int):List Mv:=
 cl.foldl (λg c=>match g05 Q (Q1 a l (Qm c))with|some t=>T8 n g t c|none=>g) []
def z0j(a:Aut)(cl:List Prd)(Q:List (List Int)):List Mv:=(yR Q.length).flatMap λn=>M0 a cl Q n (Q.getD n [])
def P6(a:Aut)(l:List Int):Bool:=l.any λs=>a.fin.getD s.toNat false
def Ia(a:Aut)(cl:List Prd)(Q:List (List Int)):Aut:=⟨a.types,Q.map (P6 a),z0j a cl Q⟩
structure MInv (T N n:Nat) (D:Nat->Nat->Int->Prop) (g:List Mv):Prop where
 wf:∀m∈g,PWf T m.on
 src:∀m∈g,m.src=n
 dst:∀m∈g,∃t:Nat,t<N/\m.dst=t
 nd:g.Pairwise (λm k=>m.dst≠k.dst)
 mem:∀m∈g,∀t:Nat,m.dst=t->∀ty y,PM m.on ty y↔D t ty y
 all:∀t ty y,D t ty y->∃m∈g,m.dst=(t:Int)
def MInv.add{T N n:Nat}{D:Nat->Nat->Int->Prop}{g:List Mv}(h:MInv T N n D g){to:Nat}(ht:to<N){c:Prd}(hc:PWf T c)(zh:∃ty y,PM c ty y):
  MInv T N n (λt ty y=>D t ty y\/(t=to/\PM c ty y)) (T8 n g to c):=by
 unfold T8;cases hf:g.findIdx? λm:Mv=>decide (m.dst=(to:Int))with
 |none=>
  rw[List.findIdx?_eq_none_iff]at hf;have z7:∀m∈g,m.dst≠(to:Int):=λm hm=>by simpa using hf m hm
  show MInv T N n _ (g++[⟨n,to,c⟩]);have z1:∀m∈g++[(⟨n,to,c⟩:Mv)],m∈g\/m=⟨n,to,c⟩:=λm hm=>by
   rcases zV.1 hm with hm|hm
   ·exact .inl hm
   exact .inr (zP.1 hm)
  have hD:∀ty y,¬D to ty y:=λty y hd=>by obtain⟨m,hm,e⟩:=h.all to ty y hd;exact z7 m hm e
  refine⟨λm hm=>?_,λm hm=>?_,λm hm=>?_,?_,λm hm t e ty y=>?_,λt ty y hd=>?_⟩
  ·rcases z1 m hm with hm|rfl
   ·exact h.wf m hm
   exact hc
  ·rcases z1 m hm with hm|rfl
   ·exact h.src m hm
   rfl
  ·rcases z1 m hm with hm|rfl
   ·exact h.dst m hm
   exact⟨to,ht,rfl⟩
  ·exact yE.2 ⟨h.nd,by simp,λm hm k hk=>by obtain rfl:=zP.1 hk;exact z7 m hm⟩
  ·rcases z1 m hm with hm'|rfl
   ·rw[h.mem m hm' t e];constructor
    ·exact λhd=> .inl hd
    rintro(hd|⟨e2,_⟩)
    ·exact hd
    exact absurd (by rw[e,e2]) (z7 m hm')
   have:t=to:=by simp at e;omega
   subst this;constructor
   ·exact λhd=> .inr ⟨rfl,hd⟩
   rintro(hd|⟨_,hd⟩)
   ·exact absurd hd (hD ty y)
   exact hd
  rcases hd with hd|⟨rfl,_⟩
  ·obtain⟨m,hm,e⟩:=h.all t ty y hd;exact⟨m,by simp[hm],e⟩
  exact⟨⟨n,t,c⟩,by simp,rfl⟩
 |some i=>
  obtain⟨hi,zf,_⟩:=xM.1 hf;simp only[zI hi];have z6:g[i].dst=(to:Int):=by simpa using zf
  have z8:=zK hi;have hw:=h.wf _ z8;have z1:∀m∈g.set i { g[i]with on:=R4 g[i].on c },(m∈g/\m.dst≠(to:Int))\/m={ g[i]with on:=R4 g[i].on c }:=λm hm=>by
   obtain⟨j,hj⟩:=yK.1 hm;by_cases hij:i=j
   ·subst hij;rw[zL hi]at hj;exact .inr (Option.some.inj hj).symm
   rw[zE hij]at hj;obtain⟨zc,zd⟩:=zB.1 hj;refine .inl ⟨zJ hj,λe=>?_⟩;rcases uK hij with hlt|hgt
   ·exact yJ.1 h.nd i j hi zc hlt (by rw[zd,e,z6])
   exact yJ.1 h.nd j i zc hi hgt (by rw[zd,e,z6])
  refine⟨λm hm=>?_,λm hm=>?_,λm hm=>?_,?_,λm hm t e ty y=>?_,λt ty y hd=>?_⟩
  ·rcases z1 m hm with⟨hm,_⟩|rfl
   ·exact h.wf m hm
   exact J8 hw hc
  ·rcases z1 m hm with⟨hm,_⟩|rfl
   ·exact h.src m hm
   have:=h.src g[i] z8;simpa using this
  ·rcases z1 m hm with⟨hm,_⟩|rfl
   ·exact h.dst m hm
   exact⟨to,ht,z6⟩
  ·have za:(g.set i { g[i]with on:=R4 g[i].on c }).map (·.dst)=g.map (·.dst):=by
    apply List.ext_getElem?;intro j;rw[zU,zU];by_cases hij:i=j
    ·subst hij;rw[zL hi,zI hi];rfl
    rw[zE hij]
   have hp:(g.map (·.dst)).Pairwise (·≠·):=xI.2 h.nd;rw[<-za]at hp;exact xI.1 hp
  ·rcases z1 m hm with⟨hm,zg⟩|rfl
   ·rw[h.mem m hm t e];constructor
    ·exact λhd=> .inl hd
    rintro(hd|⟨rfl,_⟩)
    ·exact hd
    exact absurd e zg
   have:t=to:=by simp only at e;omega
   subst this;have zb:=De hw hc ty y;have ze:=h.mem _ z8 t z6 ty y;constructor
   ·intro hd;rcases zb.1 hd with hd|hd
    ·exact .inl (ze.1 hd)
    exact .inr ⟨rfl,hd⟩
   rintro(hd|⟨_,hd⟩)
   ·exact zb.2 (.inl (ze.2 hd))
   exact zb.2 (.inr hd)
  rcases hd with hd|⟨rfl,_⟩
  ·obtain⟨m,hm,e⟩:=h.all t ty y hd;obtain⟨j,hj⟩:=yK.1 hm;by_cases hij:i=j
   ·subst hij;rw[zI hi]at hj;cases hj;exact⟨_,zJ (zL hi),e⟩
   exact⟨m,zJ (by rw[zE hij];exact hj),e⟩
  exact⟨_,zJ (zL hi),z6⟩
def MInv.congr{T N n:Nat}{D D':Nat->Nat->Int->Prop}{g:List Mv}(h:MInv T N n D g)(e:∀t ty y,D t ty y↔D' t ty y):MInv T N n D' g:=by have:D=D':=funext λt=>funext λty=>funext λy=>propext (e t ty y);rw[<-this];exact h
def Da{T:Nat}{a:Aut}{cl:List Prd}{Q:List (List Int)}(n:Nat)(l:List Int)(hw:∀c∈cl,PWf T c/\∃ty y,PM c ty y):
  MInv T Q.length n (λt ty y=>∃c∈cl,g05 Q (Q1 a l (Qm c))=some t/\PM c ty y) (M0 a cl Q n l):=by
 have key:∀(r:List Prd) (D:Nat->Nat->Int->Prop) (g:List Mv),MInv T Q.length n D g->(∀c∈r,PWf T c/\∃ty y,PM c ty y)->
   MInv T Q.length n (λt ty y=>D t ty y\/∃c∈r,g05 Q (Q1 a l (Qm c))=some t/\PM c ty y) (r.foldl (λg c=>match g05 Q (Q1 a l (Qm c))with|some t=>T8 n g t c|none=>g) g):=by
  intro r;induction r with
  |nil=>intro D g h _;exact h.congr (λt ty y=>by simp)
  |cons c r ih=>
   intro D g h hr;rw[xS];cases hx:g05 Q (Q1 a l (Qm c))with
   |none=>refine(ih D g h (λd hd=>hr d (by simp[hd]))).congr (λt ty y=>?_);simp[hx]
   |some to=>
    have z1:=(zB.1 (Jl hx)).1;have hc:=hr c (by simp);refine(ih _ _ (h.add z1 hc.1 hc.2) (λd hd=>hr d (by simp[hd]))).congr (λt ty y=>?_);simp only[zZ,exists_eq_or_imp,hx,Option.some.injEq,or_assoc];constructor
    ·rintro(h|⟨e,h⟩|h)
     ·exact .inl h
     ·exact .inr (.inl ⟨e.symm,h⟩)
     exact .inr (.inr h)
    rintro(h|⟨e,h⟩|h)
    ·exact .inl h
    ·exact .inr (.inl ⟨e.symm,h⟩)
    exact .inr (.inr h)
 have h0:MInv T Q.length n (λ_ _ _=>False) []:=⟨by simp,by simp,by simp,by simp,by simp,λ_ _ _ h=>h.elim⟩
 exact(key cl _ [] h0 hw).congr (λt ty y=>by simp)
structure Cls (a:Aut) (cl:List Prd):Prop where
 ok:OkA a
 prts:Prts a.types.toNat (a.mv.map (·.on)) cl
 wf:∀c∈cl,PWf a.types.toNat c/\∃ty y,PM c ty y
def q2e{a:Aut}(h:OkA a):Cls a (Q7 a.types.toNat (a.mv.map (·.on))):=by
 have hT:0<a.types.toNat:=by have:=h.types;omega
 have hp:=(I5 hT (l:=a.mv.map (·.on)) (λp hp=>by obtain⟨m,hm,rfl⟩:=zO.1 hp;exact(h.mv m hm).on)).1;exact⟨h,hp,λc hc=>⟨hp.wf c hc,hp.ne c hc⟩⟩
def Wk(a:Aut)(x:Sy):Prop:=(0<=x.ty/\x.ty<a.types)/\inR x.num
def k06{a:Aut}{l:List Int}{x y:Sy}(h:∀m∈a.mv,Tj m.on x=Tj m.on y):Q1 a l x=Q1 a l y:=by
 refine Yh (Up ..) (Up ..) λz=>?_;rw[Wu,Wu];constructor
 ·rintro⟨h1,m,hm,h2,h3,h4⟩;exact⟨h1,m,hm,h2,by rw[<-h m hm];exact h3,h4⟩
 rintro⟨h1,m,hm,h2,h3,h4⟩;exact⟨h1,m,hm,h2,by rw[h m hm];exact h3,h4⟩
def Cls.of{a:Aut}{cl:List Prd}(h:Cls a cl){x:Sy}(hx:Wk a x):∃c∈cl,PM c x.ty.toNat x.num/\∀l,Q1 a l x=Q1 a l (Qm c):=by obtain⟨c,hc,hm⟩:=h.prts.all x.ty.toNat x.num (by have:=hx.1;omega) hx.2;refine⟨c,hc,hm,λl=>k06 λm z1=>?_⟩;have h1:=(Eb (h.wf c hc).1 (h.wf c hc).2).1;have h2:=((h.prts.cls c hc _ _ hm _ _).1 h1).2.2 m.on (zO.2 ⟨m,z1,rfl⟩);have hl:=(h.ok.mv m z1).on.1;rw[xT,Rs hl x hx.1.1,Rs hl (Qm c) (by simp[Qm])];simpa[Qm]using h2
def Cls.same{a:Aut}{cl:List Prd}(h:Cls a cl){c:Prd}(hc:c∈cl){x:Sy}(hx:Wk a x)(hm:PM c x.ty.toNat x.num)(l:List Int):Q1 a l x=Q1 a l (Qm c):=by obtain⟨d,hd,z1,e⟩:=h.of hx;rw[e l,h.prts.disj hd hc z1 hm]
structure Sub (a:Aut) (cl:List Prd) (Q:List (List Int)):Prop where
 first:Q[0]?=some [0]
 nd:Q.Nodup
 ne:∀l∈Q,l≠[]
 lim:Q.length<=256
 elem:∀l∈Q,l.Pairwise (·<·)/\∀s∈l,0<=s/\s<a.fin.length
 closed:∀l∈Q,∀c∈cl,Q1 a l (Qm c)=[]\/Q1 a l (Qm c)∈Q
def j02{Q:List (List Int)}{x:List Int}(h:Q.Nodup):(Z8 Q x).Nodup:=by
 unfold Z8;split
 ·exact h
 rename_i hx;exact vN.2 ⟨h,by simp,λa ha b hb e=>by
  obtain rfl:=zP.1 hb;subst e;exact hx (.inr ha)⟩
def Gm:∀(xs:List (List Int)) {Q:List (List Int)},Q.Nodup->(Eh Q xs).Nodup
 |[],_,h=>h
 |x::xs,Q,h=>Gm xs (j02 (x:=x) h)
def x1c{a:Aut}(ha:OkA a)(cl:List Prd):∀(f i:Nat) (Q R:List (List Int)),k0f a cl f i Q=some R->Q[0]?=some [0]->Q.Nodup->(∀l∈Q,l≠[])->Q.length<=256->(∀l∈Q,l.Pairwise (·<·)/\∀s∈l,0<=s/\s<a.fin.length)->
  (∀j,j<i->∀l,Q[j]?=some l->∀c∈cl,Q1 a l (Qm c)=[]\/Q1 a l (Qm c)∈Q)->Sub a cl R
 |0,_,_,_,h,_,_,_,_,_,_=>by cases h
 |f+1,i,Q,R,h,h1,h2,h3,h4,h5,h6=>by
  rw[k0f]at h;cases hq:Q[i]? with
  |none=>rw[hq]at h;simp only[Option.some.injEq]at h;subst h;have hi:Q.length<=i:=uS.1 hq;refine⟨h1,h2,h3,h4,h5,λl hl c hc=>?_⟩;obtain⟨j,hj⟩:=yK.1 hl;exact h6 j (by have:=(zB.1 hj).1;omega) l hj c hc
  |some l=>
   rw[hq]at h;simp only at h;by_cases hlim:256<(Eh Q (Tq a cl l)).length
   ·rw[if_pos hlim]at h;cases h
   rw[if_neg hlim]at h;obtain⟨X,hX,z6⟩:=Ii (Tq a cl l) Q;have hlen:0<Q.length:=(zB.1 h1).1;have z1:∀y∈Eh Q (Tq a cl l),y∈Q\/(y≠[]/\∃c∈cl,y=Q1 a l (Qm c)):=λy hy=>by
    rw[hX]at hy;rcases zV.1 hy with hy|hy
    ·exact .inl hy
    obtain⟨p1,p2⟩:=z6 y hy;obtain⟨c,hc,rfl⟩:=zO.1 p1;exact .inr ⟨p2,c,hc,rfl⟩
   refine x1c ha cl f (i+1) _ R h ?_ (Gm _ h2) ?_ (by omega) ?_ ?_
   ·rw[hX,zF hlen];exact h1
   ·intro y hy;rcases z1 y hy with hy|⟨hy,_⟩
    ·exact h3 y hy
    exact hy
   ·intro y hy;rcases z1 y hy with hy|⟨_,c,_,rfl⟩
    ·exact h5 y hy
    exact⟨Up ..,Ur⟩
   intro j hj k hk c hc;by_cases hji:j<i
   ·have z7:j<Q.length:=by have:=(zB.1 hq).1;omega
    rw[hX,zF z7]at hk;rcases h6 j hji k hk c hc with h7|h7
    ·exact .inl h7
    right;rw[hX];exact yX _ h7
   have:j=i:=by omega
   subst this;rw[hX,zF (zB.1 hq).1,hq]at hk;cases hk;by_cases hn:Q1 a l (Qm c)=[]
   ·exact .inl hn
   exact .inr (Xp (zO.2 ⟨c,hc,rfl⟩) hn)
def Jx(a:Aut)(cl:List Prd):Option (List (List Int)):=k0f a cl 257 0 [[0]]
def q16{a:Aut}(ha:OkA a){cl:List Prd}{Q:List (List Int)}(h:Jx a cl=some Q):Sub a cl Q:=
 x1c ha cl 257 0 [[0]] Q h rfl (by simp) (by simp) (by simp) (by intro l hl;obtain rfl:=zP.1 hl;exact⟨by simp,λs hs=>by obtain rfl:=zP.1 hs;have:=ha.fin;omega⟩) (λj hj=>by omega)
def Sub.step{a:Aut}{cl:List Prd}{Q:List (List Int)}(hs:Sub a cl Q)(hc:Cls a cl){l:List Int}(hl:l∈Q){x:Sy}(hx:Wk a x):Q1 a l x=[]\/Q1 a l x∈Q:=by obtain⟨c,h1,_,h3⟩:=hc.of hx;rw[h3 l];exact hs.closed l hl c h1
def Pf{a:Aut}{cl:List Prd}{Q:List (List Int)}{m:Mv}:m∈z0j a cl Q↔∃n l,Q[n]?=some l/\m∈M0 a cl Q n l:=by
 unfold z0j;rw[xV];constructor
 ·rintro⟨n,hn,hm⟩;have z1:=yT.1 hn;refine⟨n,Q[n],zI z1,?_⟩;simpa[yS,z1]using hm
 rintro⟨n,l,hl,hm⟩;have z1:=(zB.1 hl).1;refine⟨n,yT.2 z1,?_⟩;simpa[yS,hl]using hm
def Hn{a:Aut}{cl:List Prd}{Q:List (List Int)}(hc:Cls a cl)(hs:Sub a cl Q){n:Nat}{l:List Int}(hl:Q[n]?=some l){x:Sy}(hx:Wk a x)(t:Nat):
  (∃m∈z0j a cl Q,m.src=(n:Int)/\m.dst=(t:Int)/\Tj m.on x=true)↔Q[t]?=some (Q1 a l x):=by
 have hg:=Da (a:=a) (Q:=Q) n l hc.wf;have key:g05 Q (Q1 a l x)=some t↔Q[t]?=some (Q1 a l x):=⟨Jl,q1o hs.nd⟩
 rw[<-key];constructor
 ·rintro⟨m,hm,h1,h2,h3⟩;obtain⟨n',l',hl',z6⟩:=Pf.1 hm;have z7:=Da (a:=a) (Q:=Q) n' l' hc.wf;have:n'=n:=by have:=z7.src m z6;omega
  subst this;rw[hl]at hl';cases hl';rw[Rs (hg.wf m z6).1 x hx.1.1]at h3;obtain⟨c,z1,e1,e2⟩:=(hg.mem m z6 t h2 _ _).1 h3;rw[hc.same z1 hx e2];exact e1
 intro h;obtain⟨c,z1,e1,e2⟩:=hc.of hx;rw[e2]at h;obtain⟨m,hm,hd⟩:=hg.all t _ _ ⟨c,z1,h,e1⟩;refine⟨m,Pf.2 ⟨n,l,hl,hm⟩,hg.src m hm,hd,?_⟩;rw[Rs (hg.wf m hm).1 x hx.1.1];exact(hg.mem m hm t hd _ _).2 ⟨c,z1,h,e1⟩
def g1n{a:Aut}{cl:List Prd}{Q:List (List Int)}(hc:Cls a cl)(hs:Sub a cl Q){n:Nat}{l:List Int}(hl:Q[n]?=some l){x:Sy}(hx:Wk a x):
  (Q1 a l x=[]/\Q1 (Ia a cl Q) [(n:Int)] x=[])\/∃t:Nat,Q[t]?=some (Q1 a l x)/\Q1 (Ia a cl Q) [(n:Int)] x=[(t:Int)]:=by
 have z1:∀j,j∈Q1 (Ia a cl Q) [(n:Int)] x↔∃t:Nat,j=t/\Q[t]?=some (Q1 a l x):=λj=>by
  rw[Wu];constructor
  ·rintro⟨⟨h1,h2⟩,m,hm,h3,h4,h5⟩;refine⟨j.toNat,by omega,(Hn hc hs hl hx j.toNat).1 ⟨m,hm,zP.1 h3,by omega,h4⟩⟩
  rintro⟨t,rfl,ht⟩;obtain⟨m,hm,h1,h2,h3⟩:=(Hn hc hs hl hx t).2 ht;have:=(zB.1 ht).1;exact⟨⟨by omega,by simp[Ia];omega⟩,m,hm,by rw[h1];simp,h3,h2⟩
 rcases hs.step hc (zJ hl) hx with h0|h0
 ·refine .inl ⟨h0,w_.2 λj hj=>?_⟩;obtain⟨t,_,ht⟩:=(z1 j).1 hj;rw[h0]at ht;exact hs.ne _ (zJ ht) rfl
 obtain⟨t,ht⟩:=yK.1 h0;refine .inr ⟨t,ht,Yh (Up ..) (by simp) λz=>?_⟩;rw[z1 z];constructor
 ·rintro⟨u,rfl,hu⟩;obtain⟨h1,h2⟩:=zB.1 ht;obtain⟨h3,h4⟩:=zB.1 hu;have:u=t:=(u3 hs.nd).1 (by rw[h4,h2]);simp[this]
 intro hz;exact⟨t,zP.1 hz,ht⟩
def Pb(a:Aut)(l:List Int)(w:List Sy):List Int:=w.foldl (Q1 a) l
def Rc(a:Aut)(w:List Sy):Bool:=P6 a (Pb a [0] w)
def q0y(a:Aut):∀w,Pb a [] w=[]
 |[]=>rfl
 |x::w=>by
  show Pb a (Q1 a [] x) w=[]
  have:Q1 a [] x=[]:=w_.2 λj hj=>by obtain⟨_,m,_,h,_⟩:=Wu.1 hj;cases h
  rw[this,q0y a w]
def z19{a:Aut}{cl:List Prd}{Q:List (List Int)}(hc:Cls a cl)(hs:Sub a cl Q):∀(w:List Sy),(∀x∈w,Wk a x)->∀(n:Nat) (l:List Int),Q[n]?=some l->
  (Pb a l w=[]/\Pb (Ia a cl Q) [(n:Int)] w=[])\/∃t:Nat,Q[t]?=some (Pb a l w)/\Pb (Ia a cl Q) [(n:Int)] w=[(t:Int)]
 |[],_,n,l,hl=> .inr ⟨n,hl,rfl⟩
 |x::w,hw,n,l,hl=>by
  show(Pb a (Q1 a l x) w=[]/\Pb (Ia a cl Q) (Q1 (Ia a cl Q) [(n:Int)] x) w=[])\/∃t:Nat,Q[t]?=some (Pb a (Q1 a l x) w)/\Pb (Ia a cl Q) (Q1 (Ia a cl Q) [(n:Int)] x) w=[(t:Int)]
  rcases g1n hc hs hl (hw x (by simp))with⟨h1,h2⟩|⟨t,h1,h2⟩
  ·rw[h1,h2];exact .inl ⟨q0y _ _,q0y _ _⟩
  rw[h2];exact z19 hc hs w (λy hy=>hw y (by simp[hy])) t _ h1
def z2w{a:Aut}{cl:List Prd}{Q:List (List Int)}(hc:Cls a cl)(hs:Sub a cl Q){w:List Sy}(hw:∀x∈w,Wk a x):Rc (Ia a cl Q) w=Rc a w:=by
 unfold Rc;rcases z19 hc hs w hw 0 [0] hs.first with⟨h1,h2⟩|⟨t,h1,h2⟩
 ·have z1:Pb (Ia a cl Q) [0] w=[]:=h2;rw[h1,z1];rfl
 have z1:Pb (Ia a cl Q) [0] w=[(t:Int)]:=h2;rw[z1];simp only[P6,Ia,List.any_cons,List.any_nil,Bool.or_false,Int.toNat_natCast,yS,zU,h1,Option.map_some,Option.getD_some]
def A2(a:Aut):Prop:=a.mv.Pairwise (λm k=>m.src=k.src->∀x:Sy,Wk a x->¬(Tj m.on x=true/\Tj k.on x=true))
def u0r{a:Aut}{cl:List Prd}{Q:List (List Int)}(hc:Cls a cl)(hs:Sub a cl Q):A2 (Ia a cl Q):=by
 unfold A2;show(z0j a cl Q).Pairwise _;unfold z0j;rw[vA];constructor
 ·intro n hn;have z1:=yT.1 hn;have hl:Q[n]?=some Q[n]:=zI z1;have hg:Q.getD n []=Q[n]:=by simp[yS,z1]
  rw[hg];have hi:=Da (a:=a) (Q:=Q) n Q[n] hc.wf;refine hi.nd.imp_of_mem (λ{m k} hm hk hne _ x hx=>?_);rintro⟨h1,h2⟩;obtain⟨t1,_,e1⟩:=hi.dst m hm;obtain⟨t2,_,e2⟩:=hi.dst k hk;have z6:Wk a x:=hx;have d1:=(Hn hc hs hl z6 t1).1 ⟨m,Pf.2 ⟨n,_,hl,hm⟩,hi.src m hm,e1,h1⟩;have d2:=(Hn hc hs hl z6 t2).1 ⟨k,Pf.2 ⟨n,_,hl,hk⟩,hi.src k hk,e2,h2⟩;obtain⟨p1,p2⟩:=zB.1 d1;obtain⟨p3,p4⟩:=zB.1 d2;have:t1=t2:=(u3 hs.nd).1 (by rw[p2,p4]);exact hne (by rw[e1,e2,this])
 refine List.pairwise_lt_range.imp (λ{i j} hij m hm k hk e=>?_);exfalso;have h1:∀n m,m∈M0 a cl Q n (Q.getD n [])->m.src=(n:Int):=λn m hm=>(Da (a:=a) (Q:=Q) n _ hc.wf).src m hm;have:=h1 i m hm;have:=h1 j k hk;omega
def A1{l:List Iv}(h:Sep l)(hb:∀n,M l n->inR n):Sep (Ww l)/\(∀n,M (Ww l) n↔inR n/\¬M l n)/\(Ww l).length<=l.length+1:=by
 have z1:∀x∈l,inR x.lo/\inR x.hi:=λx hx=>⟨hb _ ⟨x,hx,yZ _,h.1 x hx⟩,hb _ ⟨x,hx,h.1 x hx,yZ _⟩⟩
 have:=Pj l (-1099511627776) (λx hx=>⟨h.1 x hx,(z1 x hx).2.2⟩) h.2 (λx hx=>(z1 x hx).1.1);exact⟨this.1,λn=>by rw[Ww,this.2.1,inR,and_assoc],this.2.2⟩
def He{T:Nat}{p:Prd}(hp:PWf T p)(t:Nat)(n:Int):PM (Ro p) t n↔(t<T/\inR n)/\¬PM p t n:=by
 unfold PM Ro;rw[zU];constructor
 ·rintro⟨s,hs,hm⟩;obtain⟨a,ha,rfl⟩:=zS.1 hs;have hw:=hp.2 a (zJ ha);have hg:=((A1 hw.1 hw.2).2.1 n).1 hm;refine⟨⟨by rw[<-hp.1];exact(zB.1 ha).1,hg.1⟩,?_⟩;rintro⟨b,hb,z1⟩;rw[ha]at hb;cases hb;exact hg.2 z1
 rintro⟨⟨h1,h2⟩,h3⟩;have hl:t<p.length:=by rw[hp.1];exact h1
 have hw:=hp.2 _ (zK hl);exact⟨Ww p[t],by rw[zI hl];rfl,((A1 hw.1 hw.2).2.1 n).2 ⟨h2,λhm=>h3 ⟨_,zI hl,hm⟩⟩⟩
def A7{T:Nat}{p:Prd}(hp:PWf T p):PWf T (Ro p):=⟨by simp[Ro,hp.1],λs hs=>by
 obtain⟨a,ha,rfl⟩:=zO.1 hs;have hw:=hp.2 a ha;exact⟨(A1 hw.1 hw.2).1,λn hn=>(((A1 hw.1 hw.2).2.1 n).1 hn).1⟩⟩
def Iu(T:Nat)(ps:List Prd):Prd:=(yR T).map λi=>Eu (Qu ps i)
def C3{T:Nat}{ps:List Prd}(h:∀p∈ps,PWf T p)(i:Nat):∀x∈Qu ps i,x.lo<=x.hi:=λx hx=>by
 obtain⟨p,hp,hx⟩:=Tn.1 hx;have hm:p.getD i []=[]\/p.getD i []∈p:=by
  by_cases hi:i<p.length
  ·exact .inr (by rw[Wt hi];exact zK hi)
  exact .inl (by simp[yS,hi])
 rcases hm with e|hm
 ·rw[e]at hx;cases hx
 exact((h p hp).2 _ hm).1.1 x hx
def K3{T:Nat}{ps:List Prd}(h:∀p∈ps,PWf T p)(t:Nat)(n:Int):PM (Iu T ps) t n↔∃p∈ps,PM p t n:=by
 unfold PM Iu;rw[zU];constructor
 ·rintro⟨s,hs,hm⟩;obtain⟨i,hi,rfl⟩:=zS.1 hs;obtain⟨z6,e⟩:=zB.1 hi;rw[List.getElem_range]at e;subst e;obtain⟨x,hx,h1⟩:=((Iw _ (C3 h t)).2 n).1 hm;obtain⟨p,hp,hx⟩:=Tn.1 hx;have ht:t<T:=by simpa using z6
  have z1:t<p.length:=by rw[(h p hp).1];exact ht
  rw[Wt z1]at hx;exact⟨p,hp,p[t],zI z1,x,hx,h1⟩
 rintro⟨p,hp,s,hs,x,hx,h1⟩;obtain⟨z1,e⟩:=zB.1 hs;have ht:t<T:=by rw[<-(h p hp).1];exact z1
 refine⟨Eu (Qu ps t),by simp[ht],((Iw _ (C3 h t)).2 n).2 ⟨x,Tn.2 ⟨p,hp,?_⟩,h1⟩⟩;rw[Wt z1,e];exact hx
def Sp{T:Nat}{ps:List Prd}(h:∀p∈ps,PWf T p):PWf T (Iu T ps):=by
 refine⟨by simp[Iu],λs hs=>?_⟩;obtain⟨i,hi,rfl⟩:=zO.1 hs;refine⟨(Iw _ (C3 h i)).1,λn hn=>?_⟩;have:PM (Iu T ps) i n:=⟨Eu (Qu ps i),by simp[Iu,yT.1 hi],hn⟩
 obtain⟨p,hp,hm⟩:=(K3 h i n).1 this;exact((h p hp).lt hm).2
def y24{T:Nat}{c:Prd}(h:PWf T c):Iu T [c]=c:=
 Pk (Sp (by simpa using h)) h λt n=>by rw[K3 (by simpa using h)];simp
def x2m{T:Nat}{p q:Prd}(hp:PWf T p)(hq:PWf T q):Iu T [p,q]=R4 p q:=by
 have h:∀x∈[p,q],PWf T x:=λx hx=>by
  rcases zZ.1 hx with rfl|hx
  ·exact hp
  obtain rfl:=zP.1 hx;exact hq
 exact Pk (Sp h) (J8 hp hq) λt n=>by rw[K3 h,De hp hq];simp
def K7(a:Aut)(s:Int):List Prd:=(a.mv.filter λm=>decide (m.src=s)).map (·.on)
def W3(a:Aut)(s:Int):Prd:=Ro (Iu a.types.toNat (K7 a s))
def G9(a:Aut)(s:Int):Prd:=(K7 a s).foldl (λr p=>W1 r (Ro p)) (Q9 a.types.toNat)
structure WfA (a:Aut):Prop where
 types:1<=a.types/\a.types<=16
 fin:1<=a.fin.length
 src:∀m∈a.mv,0<=m.src/\m.src<a.fin.length
 dst:∀m∈a.mv,0<=m.dst/\m.dst<a.fin.length
 on:∀m∈a.mv,PWf a.types.toNat m.on
def OkA.wfA{a:Aut}(h:OkA a):WfA a:=⟨h.types,h.fin.1,λm hm=>(h.mv m hm).src,λm hm=>(h.mv m hm).dst,λm hm=>(h.mv m hm).on.wf⟩
def Zd{a:Aut}(h:WfA a)(s:Int):∀p∈K7 a s,PWf a.types.toNat p:=λp hp=>by obtain⟨m,hm,rfl⟩:=zO.1 hp;exact h.on m (xJ.1 hm).1
def Dl{a:Aut}(h:WfA a)(s:Int)(t:Nat)(n:Int):PM (W3 a s) t n↔(t<a.types.toNat/\inR n)/\∀p∈K7 a s,¬PM p t n:=by rw[W3,He (Sp (Zd h s)),K3 (Zd h s)];simp
def P4{a:Aut}(h:WfA a)(s:Int):PWf a.types.toNat (W3 a s):=A7 (Sp (Zd h s))
def Mq{T:Nat}:∀(l:List Prd) (r:Prd),(∀p∈l,PWf T p)->PWf T r->PWf T (l.foldl (λr p=>W1 r (Ro p)) r)/\
  ∀t n,PM (l.foldl (λr p=>W1 r (Ro p)) r) t n↔PM r t n/\∀p∈l,¬PM p t n
 |[],r,_,hr=>⟨hr,λt n=>by simp⟩
 |p::l,r,hl,hr=>by
  have hp:=hl p (by simp);obtain⟨h1,h2⟩:=Mq l (W1 r (Ro p)) (λq hq=>hl q (by simp[hq])) (Tc hr (A7 hp).1);refine⟨h1,λt n=>?_⟩;rw[xS,h2,El hr.1 (A7 hp).1,He hp];constructor
  ·rintro⟨⟨a,b,c⟩,d⟩;refine⟨a,λq hq=>?_⟩;rcases zZ.1 hq with rfl|hq
   ·exact c
   exact d q hq
  rintro⟨a,d⟩;exact⟨⟨a,hr.lt a,d p (by simp)⟩,λq hq=>d q (by simp[hq])⟩
def w2q{a:Aut}(h:WfA a)(s:Int):G9 a s=W3 a s:=by obtain⟨h1,h2⟩:=Mq (K7 a s) (Q9 a.types.toNat) (Zd h s) (Dq _);exact Pk h1 (P4 h s) λt n=>by rw[G9,h2,Dl h,Dd]
def M8{a:Aut}(h:WfA a)(s:Int):Wj (W3 a s)=true↔∀t n,t<a.types.toNat->inR n->∃p∈K7 a s,PM p t n:=by
 rw[Rp (P4 h s)];constructor
 ·intro hv t n ht hn;have:=hv t n;rw[Dl h]at this;by_cases hc:∃p∈K7 a s,PM p t n
  ·exact hc
  exact absurd ⟨⟨ht,hn⟩,λp hp hm=>hc ⟨p,hp,hm⟩⟩ this
 intro hv t n;rw[Dl h];rintro⟨⟨ht,hn⟩,hx⟩;obtain⟨p,hp,hm⟩:=hv t n ht hn;exact hx p hp hm
def C6(a:Aut):Bool:=decide (256<a.fin.length) || decide (2048<a.mv.length) || a.mv.any λm=>m.on.any λs=>decide (256<s.length)
def c15{a:Aut}(h:WfA a):Wl a=0↔C6 a=false:=by
 rw[Y4];unfold C6;simp only[Bool.or_eq_false_iff,decide_eq_false_iff_not,vu,decide_eq_true_eq];constructor
 ·rintro⟨h1,h2,h3,h4⟩;exact⟨⟨by omega,by omega⟩,λm hm=>by
   simp only[ut,vu,decide_eq_true_eq];exact λs hs=>by have:=((h4 m hm).on.2 s hs).len;omega⟩
 rintro⟨⟨h1,h2⟩,h3⟩;refine⟨h.types,⟨h.fin,by omega⟩,by omega,λm hm=>⟨h.src m hm,h.dst m hm,(h.on m hm).1,λs hs=>?_⟩⟩;have hw:=(h.on m hm).2 s hs;have:=h3 m hm;simp only[ut,vu,decide_eq_true_eq]at this;exact Kk hw.1 (v0a hw.1 hw.2) (by have:=this s hs;omega)
def Z6(a:Aut):Int×Aut:=if C6 a then(5,Ix)else(0,a)
def c0g{a c:Aut}(h:WfA a)(hl:Z6 a=(0,c)):c=a/\OkA a:=by
 unfold Z6 at hl;cases hb:C6 a
 ·rw[hb,if_neg (by simp)]at hl;exact⟨(Prod.mk.inj hl).2.symm,(Y4 a).1 ((c15 h).2 hb)⟩
 rw[hb,if_pos rfl]at hl;cases(Prod.mk.inj hl).1
def y1y{a:Aut}:(Z6 a).1=0\/(Z6 a).1=5:=by
 unfold Z6;split
 ·exact .inr rfl
 exact .inl rfl
def Tp(a:Aut)(lack:Int->Prd):List Mv:=(yR a.fin.length).filterMap λs:Nat=>if Wj (lack s)then none else some ⟨s,a.fin.length,lack s⟩
def Oa(a:Aut):Aut:=⟨a.types,a.fin++[false],a.mv++Tp a (W3 a)++[⟨a.fin.length,a.fin.length,Q9 a.types.toNat⟩]⟩
def G4(a:Aut):Int×Aut:=if(Tp a (W3 a)).isEmpty then(0,a)else Z6 (Oa a)
def F2(a:Aut):Bool:=(yR a.fin.length).all λs:Nat=>Wj (G9 a s)
def Y5{a:Aut}{lack:Int->Prd}{m:Mv}:m∈Tp a lack↔∃s:Nat,s<a.fin.length/\Wj (lack s)=false/\m=⟨s,a.fin.length,lack s⟩:=by
 unfold Tp;rw[wI];constructor
 ·rintro⟨s,hs,h⟩;cases hv:Wj (lack s)
  ·rw[hv,if_neg (by simp)]at h;cases h;exact⟨s,yT.1 hs,hv,rfl⟩
  rw[hv,if_pos rfl]at h;cases h
 rintro⟨s,hs,hv,rfl⟩;exact⟨s,yT.2 hs,by rw[hv,if_neg (by simp)]⟩
def Bq{a:Aut}{lack:Int->Prd}:Tp a lack=[]↔∀s:Nat,s<a.fin.length->Wj (lack s)=true:=by
 rw[w_];constructor
 ·intro h s hs;cases hv:Wj (lack s)
  ·exact absurd (Y5.2 ⟨s,hs,hv,rfl⟩) (h _)
  rfl
 intro h m hm;obtain⟨s,hs,hv,_⟩:=Y5.1 hm;rw[h s hs]at hv;cases hv
def c1b{a:Aut}(h:WfA a):WfA (Oa a):=by
 have z1:∀m∈(Oa a).mv,m∈a.mv\/(∃s:Nat,s<a.fin.length/\m=⟨s,a.fin.length,W3 a s⟩)\/m=⟨a.fin.length,a.fin.length,Q9 a.types.toNat⟩:=λm hm=>by
  rcases zV.1 hm with hm|hm
  ·rcases zV.1 hm with hm|hm
   ·exact .inl hm
   obtain⟨s,hs,_,e⟩:=Y5.1 hm;exact .inr (.inl ⟨s,hs,e⟩)
  exact .inr (.inr (zP.1 hm))
 have hl:(Oa a).fin.length=a.fin.length+1:=by simp[Oa]
 refine⟨h.types,by rw[hl];omega,λm hm=>?_,λm hm=>?_,λm hm=>?_⟩
 ·rw[hl];rcases z1 m hm with hm|⟨s,hs,rfl⟩|rfl
  ·have:=h.src m hm;omega
  ·simp only;omega
  simp only;omega
 ·rw[hl];rcases z1 m hm with hm|⟨s,hs,rfl⟩|rfl
  ·have:=h.dst m hm;omega
  ·simp only;omega
  simp only;omega
 rcases z1 m hm with hm|⟨s,hs,rfl⟩|rfl
 ·exact h.on m hm
 ·exact P4 h s
 exact Dq _
def z0g(a:Aut):Prop:=∀s:Int,0<=s->s<a.fin.length->∀x,Wk a x->∃m∈a.mv,m.src=s/\Tj m.on x=true
def y0i{a:Aut}{x:Sy}(h:Wk a x):x.ty.toNat<a.types.toNat/\inR x.num/\0<=x.ty:=⟨by have:=h.1;omega,h.2,h.1.1⟩
def R0{a:Aut}(h:WfA a){m:Mv}(hm:m∈a.mv){x:Sy}(hx:Wk a x):Tj m.on x=true↔PM m.on x.ty.toNat x.num:=Rs (h.on m hm).1 x hx.1.1
def V0{a:Aut}{s:Int}{p:Prd}:p∈K7 a s↔∃m∈a.mv,m.src=s/\m.on=p:=by
 unfold K7;rw[zO];constructor
 ·rintro⟨m,hm,e⟩;have:=xJ.1 hm;exact⟨m,this.1,by simpa using this.2,e⟩
 rintro⟨m,hm,hs,e⟩;exact⟨m,xJ.2 ⟨hm,by simpa using hs⟩,e⟩
def y0s{a:Aut}(h:WfA a):Tp a (W3 a)=[]↔z0g a:=by
 rw[Bq];constructor
 ·intro hv s h0 h1 x hx;have hs:=hv s.toNat (by omega);rw[show((s.toNat:Nat):Int)=s by omega,M8 h]at hs;obtain⟨k1,k2,_⟩:=y0i hx;obtain⟨p,hp,hm⟩:=hs _ _ k1 k2;obtain⟨m,z1,e,rfl⟩:=V0.1 hp;exact⟨m,z1,e,(R0 h z1 hx).2 hm⟩
 intro hf s hs;rw[M8 h];intro t n ht hn;have hx:Wk a ⟨t,n⟩:=⟨⟨by simp,by simp only;omega⟩,hn⟩
 obtain⟨m,hm,e,hh⟩:=hf s (by omega) (by omega) _ hx;exact⟨m.on,V0.2 ⟨m,hm,e,rfl⟩,by have:=(R0 h hm hx).1 hh;simpa using this⟩
def k1v{a:Aut}(h:WfA a):z0g (Oa a):=by
 intro s h0 h1 x hx;have z1:Wk a x:=hx;have hl:(Oa a).fin.length=a.fin.length+1:=by simp[Oa]
 obtain⟨k1,k2,_⟩:=y0i z1;by_cases hs:s<a.fin.length
 ·by_cases hp:∃p∈K7 a s,PM p x.ty.toNat x.num
  ·obtain⟨p,hp,hm⟩:=hp;obtain⟨m,z6,e,rfl⟩:=V0.1 hp;exact⟨m,yX _ (yX _ z6),e,(R0 h z6 z1).2 hm⟩
  have z7:PM (W3 a s) x.ty.toNat x.num:=(Dl h s _ _).2 ⟨⟨k1,k2⟩,λp z8 hm=>hp ⟨p,z8,hm⟩⟩;have hv:Wj (W3 a s)=false:=by
   cases hv:Wj (W3 a s)
   ·rfl
   exact absurd z7 ((Rp (P4 h s)).1 hv _ _)
  have e:((s.toNat:Nat):Int)=s:=by omega
  refine⟨⟨s,a.fin.length,W3 a s⟩,yX _ (vF _ (Y5.2 ⟨s.toNat,by omega,by rw[e];exact hv,by rw[e]⟩)),rfl,?_⟩;exact(Rs (P4 h s).1 x hx.1.1).2 z7
 refine⟨⟨a.fin.length,a.fin.length,Q9 a.types.toNat⟩,vF _ (by simp),by simp only;omega,?_⟩;exact(Rs (Dq _).1 x hx.1.1).2 ((Dd ..).2 ⟨k1,k2⟩)
def q2g{a:Aut}(h:WfA a)(hd:A2 a):A2 (Oa a):=by
 unfold A2;show(a.mv++Tp a (W3 a)++[_]).Pairwise _;rw[yE,yE];refine⟨⟨hd,?_,λm hm k hk e x hx=>?_⟩,by simp,λm hm k hk e x hx=>?_⟩
 ·unfold Tp;rw[List.pairwise_filterMap];refine List.pairwise_lt_range.imp (λ{i j} hij m hm k hk e=>?_);have z1:∀(i:Nat) (m:Mv),(if Wj (W3 a i)then none else some (⟨i,a.fin.length,W3 a i⟩:Mv))=some m->m.src=i:=λi m hm=>by
   split at hm
   ·cases hm
   cases hm;rfl
  have:=z1 i m hm;have:=z1 j k hk;omega
 ·obtain⟨s,hs,_,rfl⟩:=Y5.1 hk;rintro⟨h1,h2⟩;have z6:Wk a x:=hx;have p1:=(R0 h hm z6).1 h1;have p2:=(Rs (P4 h s).1 x hx.1.1).1 h2;exact((Dl h s _ _).1 p2).2 _ (V0.2 ⟨m,hm,e,rfl⟩) p1
 obtain rfl:=zP.1 hk;exfalso;have e':m.src=(a.fin.length:Int):=e;rcases zV.1 hm with hm|hm
 ·have:=h.src m hm;omega
 obtain⟨s,hs,_,rfl⟩:=Y5.1 hm;simp only at e';omega
def v1w{a:Aut}(h:WfA a){l l':List Int}(hl:∀j:Int,j<a.fin.length->(j∈l'↔j∈l))(x:Sy):∀j:Int,j<a.fin.length->(j∈Q1 (Oa a) l' x↔j∈Q1 a l x):=by
 intro j hj;rw[Wu,Wu];have hlen:(Oa a).fin.length=a.fin.length+1:=by simp[Oa]
 constructor
 ·rintro⟨h1,m,hm,h2,h3,h4⟩;rcases zV.1 hm with hm|hm
  ·rcases zV.1 hm with hm|hm
   ·exact⟨⟨h1.1,hj⟩,m,hm,(hl _ (h.src m hm).2).1 h2,h3,h4⟩
   obtain⟨s,hs,_,rfl⟩:=Y5.1 hm;simp only at h4;omega
  obtain rfl:=zP.1 hm;simp only at h4;omega
 rintro⟨h1,m,hm,h2,h3,h4⟩;exact⟨⟨h1.1,by omega⟩,m,yX _ (yX _ hm),(hl _ (h.src m hm).2).2 h2,h3,h4⟩
def d04{a:Aut}(h:WfA a):∀(w:List Sy) (l l':List Int),(∀j:Int,j<a.fin.length->(j∈l'↔j∈l))->∀j:Int,j<a.fin.length->(j∈Pb (Oa a) l' w↔j∈Pb a l w)
 |[],_,_,hl=>hl
 |x::w,_,_,hl=>d04 h w _ _ (v1w h hl x)
def runIn{a:Aut}:∀(w:List Sy) (l:List Int),(∀j∈l,0<=j/\j<a.fin.length)->∀j∈Pb a l w,0<=j/\j<a.fin.length
 |[],_,hl=>hl
 |x::w,_,_=>runIn w _ (λ_ hj=>Ur _ hj)
def w0a{a:Aut}(h:WfA a):∀j∈[(0:Int)],0<=j/\j<a.fin.length:=λj hj=>by obtain rfl:=zP.1 hj;have:=h.fin;omega
def Vd{a:Aut}{l:List Int}:P6 a l=true↔∃s∈l,a.fin.getD s.toNat false=true:=by rw[P6,wP]
def z2z{a:Aut}(h:WfA a)(w:List Sy):Rc (Oa a) w=Rc a w:=by
 unfold Rc;rw[xT,Vd,Vd];have hr:=d04 h w [0] [0] (λ_ _=>Iff.rfl);have z7:=runIn w _ (w0a (c1b h));have z6:=runIn w _ (w0a h);have hlen:(Oa a).fin.length=a.fin.length+1:=by simp[Oa]
 have z1:∀s:Int,0<=s->s<a.fin.length->(Oa a).fin.getD s.toNat false=a.fin.getD s.toNat false:=λs h0 h1=>by simp only[Oa,List.getD_eq_getElem?_getD];rw[zF (by omega)]
 constructor
 ·rintro⟨s,hs,hf⟩;have:=z7 s hs;by_cases hlt:s<a.fin.length
  ·exact⟨s,(hr s hlt).1 hs,by rw[<-z1 s this.1 hlt];exact hf⟩
  have:s.toNat=a.fin.length:=by omega
  rw[this]at hf;simp[Oa]at hf
 rintro⟨s,hs,hf⟩;have:=z6 s hs;exact⟨s,(hr s this.2).2 hs,by rw[z1 s this.1 this.2];exact hf⟩
def k1i{a c:Aut}(h:OkA a)(hc:G4 a=(0,c)):OkA c/\c.types=a.types/\z0g c/\(A2 a->A2 c)/\∀w,Rc c w=Rc a w:=by
 unfold G4 at hc;split at hc
 ·rename_i hn;cases hc;exact⟨h,rfl,(y0s h.wfA).1 (tJ.1 hn),id,λ_=>rfl⟩
 obtain⟨rfl,hk⟩:=c0g (c1b h.wfA) hc;exact⟨hk,rfl,k1v h.wfA,q2g h.wfA,z2z h.wfA⟩
def x2f(a:Aut):(G4 a).1=0\/(G4 a).1=5:=by
 unfold G4;split
 ·exact .inl rfl
 exact y1y
def Ux(T:Int):List Prd->Int
 |[]=>0
 |p::r=>if Re T p≠0 then Re T p else Ux T r
def F4(L:List Prd):Bool:=decide (256<L.length) || L.any λp=>p.any λs=>decide (256<s.length)
def Tb(T:Int)(l:List Prd):Int×List Prd:=if T<1\/16<T then(2,[])else if 256<l.length then(5,[])else if Ux T l≠0 then(Ux T l,[])else
 if F4 (Rg T.toNat l)then(5,[])else(0,Rg T.toNat l)
def Xs(T:Int)(l:List Prd):Int×List Prd:=if T<1\/16<T then(2,[])else if 256<l.length then(5,[])else if Ux T l≠0 then(Ux T l,[])else
 if F4 (Q7 T.toNat l)then(5,[])else(0,Q7 T.toNat l)
def Oy{T:Int}:∀(l:List Prd),Ux T l=0↔∀p∈l,Re T p=0
 |[]=>by simp[Ux]
 |p::r=>by
  rw[Ux];by_cases h:Re T p=0
  ·rw[if_neg (λk=>k h),Oy r];simp[h]
  rw[if_pos h];exact⟨λk=>absurd k h,λk=>absurd (k p (by simp)) h⟩
def q1v(T:Int)(l:List Prd):Xs T l=Tb T l:=by
 unfold Xs Tb;split
 ·rfl
 rename_i hT;split
 ·rfl
 split
 ·rfl
 rename_i hc;have z1:∀p∈l,PCk T.toNat p:=λp hp=>((Eg T p).1 ((Oy l).1 (by simpa using hc) p hp)).2;rw[Ze (by omega) z1]
def f07{T:Int}(hT:1<=T/\T<=16){l:List Prd}(hl:∀p∈l,PCk T.toNat p):(Tb T l).1=5\/Tb T l=(0,Q7 T.toNat l):=by
 unfold Tb;have hc:Ux T l=0:=(Oy l).2 λp hp=>(Eg T p).2 ⟨hT,hl p hp⟩;rw[if_neg (by omega)];split
 ·exact .inl rfl
 rw[if_neg (by simp[hc])];split
 ·exact .inl rfl
 exact .inr (by rw[Ze (by omega) hl])
def onA(a:Aut):List Prd:=a.mv.map (·.on)
def Ak(a:Aut):Int×List Prd×List (List Int):=if Wl a≠0 then(Wl a,[],[])else
 if(Tb a.types (onA a)).1≠0 then((Tb a.types (onA a)).1,[],[])else
 match Jx a (Tb a.types (onA a)).2 with
 |none=>(5,[],[])
 |some Q=>(0,(Tb a.types (onA a)).2,Q)
def Ej(a:Aut):Int×Aut:=if(Ak a).1≠0 then((Ak a).1,Ix)else Z6 (Ia a (Ak a).2.1 (Ak a).2.2)
def Lu(a:Aut):Int×Aut:=if Wl a≠0 then(Wl a,Ix)else G4 a
def x0i{a:Aut}(h:OkA a):∀p∈onA a,PCk a.types.toNat p:=λp hp=>by obtain⟨m,hm,rfl⟩:=zO.1 hp;exact(h.mv m hm).on
def Kw{a:Aut}(h:OkA a):Ak a=(5,[],[])\/∃Q,Ak a=(0,Q7 a.types.toNat (onA a),Q)/\Jx a (Q7 a.types.toNat (onA a))=some Q/\Sub a (Q7 a.types.toNat (onA a)) Q/\Cls a (Q7 a.types.toNat (onA a)):=by
 unfold Ak;rw[if_neg (λk=>k ((Y4 a).2 h))];rcases f07 h.types (x0i h)with hm|hm
 ·rw[if_pos (by rw[hm];decide),hm];exact .inl rfl
 rw[hm,if_neg (by simp)];cases hs:Jx a (Q7 a.types.toNat (onA a))with
 |none=>exact .inl rfl
 |some Q=>exact .inr ⟨Q,rfl,rfl,q16 h hs,q2e h⟩
def w06{a:Aut}(h:Wl a≠0):Ak a=(Wl a,[],[]):=if_pos h
def Fi{a:Aut}{cl:List Prd}{Q:List (List Int)}(hc:Cls a cl){m:Mv}(hm:m∈z0j a cl Q):(∃n:Nat,n<Q.length/\m.src=n)/\(∃t:Nat,t<Q.length/\m.dst=t)/\PWf a.types.toNat m.on:=by obtain⟨n,l,hl,hg⟩:=Pf.1 hm;have hi:=Da (a:=a) (Q:=Q) n l hc.wf;exact⟨⟨n,(zB.1 hl).1,hi.src m hg⟩,hi.dst m hg,hi.wf m hg⟩
def d1w{a:Aut}{cl:List Prd}{Q:List (List Int)}(hc:Cls a cl)(hs:Sub a cl Q):WfA (Ia a cl Q):=by
 have h0:=(zB.1 hs.first).1;have hl:(Ia a cl Q).fin.length=Q.length:=by simp[Ia]
 refine⟨hc.ok.types,by omega,λm hm=>?_,λm hm=>?_,λm hm=>(Fi hc hm).2.2⟩
 ·obtain⟨⟨n,h1,h2⟩,_⟩:=Fi hc hm;rw[hl,h2];omega
 obtain⟨_,⟨n,h1,h2⟩,_⟩:=Fi hc hm;rw[hl,h2];omega
def I9{a d:Aut}(h:OkA a)(hd:Ej a=(0,d)):∃Q,Jx a (Q7 a.types.toNat (onA a))=some Q/\Sub a (Q7 a.types.toNat (onA a)) Q/\Cls a (Q7 a.types.toNat (onA a))/\
  Ak a=(0,Q7 a.types.toNat (onA a),Q)/\d=Ia a (Q7 a.types.toNat (onA a)) Q/\OkA d/\A2 d/\d.types=a.types/\∀w,(∀x∈w,Wk a x)->Rc d w=Rc a w:=by
 unfold Ej at hd;rcases Kw h with hs|⟨Q,hs,hq,z1,z6⟩
 ·rw[hs,if_pos (by decide)]at hd;cases(Prod.mk.inj hd).1
 rw[hs,if_neg (by simp)]at hd;obtain⟨rfl,hk⟩:=c0g (d1w z6 z1) hd;exact⟨Q,hq,z1,z6,hs,rfl,hk,u0r z6 z1,rfl,λw hw=>z2w z6 z1 hw⟩
def w2p{a:Aut}(h:OkA a):(Ej a).1=0\/(Ej a).1=5:=by
 unfold Ej;rcases Kw h with hs|⟨Q,hs,_⟩
 ·rw[hs];exact .inr rfl
 rw[hs,if_neg (by simp)];exact y1y
def v1m{a:Aut}(hw:WfA a)(hd:A2 a)(hf:z0g a){s:Int}(h0:0<=s)(h1:s<a.fin.length){x:Sy}(hx:Wk a x):∃t:Int,0<=t/\t<a.fin.length/\Q1 a [s] x=[t]:=by
 obtain⟨m,hm,e,hh⟩:=hf s h0 h1 x hx;refine⟨m.dst,(hw.dst m hm).1,(hw.dst m hm).2,Yh (Up ..) (by simp) λz=>?_⟩;rw[Wu];constructor
 ·rintro⟨_,k,hk,h2,h3,h4⟩;obtain h2:=zP.1 h2;have:k=m\/k.dst=m.dst:=by
   obtain⟨i,hi⟩:=yK.1 hm;obtain⟨j,hj⟩:=yK.1 hk;obtain⟨z7,z1⟩:=zB.1 hi;obtain⟨z8,z6⟩:=zB.1 hj;by_cases hij:i=j
   ·subst hij;left;rw[<-z1,<-z6]
   exfalso;rcases uK hij with hlt|hgt
   ·have:=yJ.1 hd i j z7 z8 hlt;rw[z1,z6]at this;exact this (by rw[e,h2]) x hx ⟨hh,h3⟩
   have:=yJ.1 hd j i z8 z7 hgt;rw[z1,z6]at this;exact this (by rw[e,h2]) x hx ⟨h3,hh⟩
  rcases this with rfl|this
  ·rw[<-h4];simp
  rw[<-h4,this];simp
 intro hz;obtain rfl:=zP.1 hz;exact⟨hw.dst m hm,m,hm,by rw[e];simp,hh,rfl⟩
def g1p{a:Aut}{cl:List Prd}(hc:Cls a cl){c:Prd}(hm:c∈cl):Wk a (Qm c):=by have h:=(Eb (hc.wf c hm).1 (hc.wf c hm).2).1;have h2:=(hc.wf c hm).1.lt h;exact⟨⟨by simp[Qm],by simp only[Qm];omega⟩,h2.2⟩
def c1y(p:Prd):Bool:=decide (p.length<=4) && p.all λs=>decide (s.length<=12)
def q0v(a:Aut):Bool:=decide (a.fin.length<=8) && decide (a.mv.length<=16) && a.mv.all λm=>c1y m.on
def Vy{p:Prd}:c1y p=true↔p.length<=4/\∀s∈p,s.length<=12:=by simp[c1y]
def y07{a:Aut}:q0v a=true↔a.fin.length<=8/\a.mv.length<=16/\∀m∈a.mv,m.on.length<=4/\∀s∈m.on,s.length<=12:=by simp only[q0v,Bool.and_eq_true,decide_eq_true_eq,zW,Vy,and_assoc]
def y0q(l:List Iv):(Eu l).length<=l.length:=by have h1:=R6 (E8 l) [];have h2:=(Ae l).1.length_eq;rw[Eu];simp at h1;omega
def j1k{l:List Iv}(h:Sep l)(hb:∀n,M l n->inR n):(Ww l).length<=l.length+1:=(A1 h hb).2.2
def x1t(T:Nat):∀x∈Q9 T,x.length=1:=λx hx=>by obtain rfl:=wY hx;rfl
def w0p{n:Nat}{l:List Int}(h:l.Pairwise (·<·))(hr:∀s∈l,0<=s/\s<n):l.length<=n:=by
 have he:l=(Ee n).filter λz=>decide (z∈l):=Yh h ((Ky n).filter _) λz=>by rw[xJ,Wy];exact⟨λhz=>⟨hr z hz,by simpa using hz⟩,λhz=>by simpa using hz.2⟩
 have h1:=xG (λz=>decide (z∈l)) (Ee n);rw[<-he]at h1;simpa[Ee]using h1
def Vm{a:Aut}(h:OkA a)(l:List Int)(x:Sy):(Q1 a l x).length<=256:=by have:=w0p (Up a l x) Ur;have:=h.fin;omega
def v0k(p q:Prd):Bool:= !Wj (W1 p q)
def Ns(a:Aut):Bool:=(yR a.mv.length).all λi=>(yR i).all λk=> !(decide ((a.mv.getD i default).src=(a.mv.getD k default).src) && v0k (a.mv.getD i default).on (a.mv.getD k default).on)
def Cd{T:Nat}{p q:Prd}(hp:PWf T p)(hq:PWf T q):v0k p q=true↔∃t n,PM p t n/\PM q t n:=by
 unfold v0k;cases hv:Wj (W1 p q)
 ·simp only[Bool.not_false,true_iff];apply Classical.byContradiction;intro hn;have:=(Rp (Tc hp hq.1)).2 (λt n hm=>hn ⟨t,n,(El hp.1 hq.1 t n).1 hm⟩);rw[hv]at this;cases this
 simp only[Bool.not_true,Bool.false_eq_true,false_iff];rintro⟨t,n,hm⟩;exact(Rp (Tc hp hq.1)).1 hv t n ((El hp.1 hq.1 t n).2 hm)
def w0q{a:Aut}(h:WfA a):Ns a=true↔A2 a:=by
 unfold Ns A2;rw[zW,yJ];have hg:∀(i:Nat) (hi:i<a.mv.length),a.mv.getD i default=a.mv[i]:=λi hi=>by simp[yS,hi]
 constructor
 ·intro hs i j hi hj z6 e x hx;rintro⟨h1,h2⟩;have:=hs j (yT.2 hj);rw[zW]at this;have:=this i (yT.2 z6);rw[hg j hj,hg i hi,e]at this;have hc:v0k a.mv[j].on a.mv[i].on=true:=(Cd (h.on _ (zK hj)) (h.on _ (zK hi))).2 ⟨_,_,(R0 h (zK hj) hx).1 h2,(R0 h (zK hi) hx).1 h1⟩;rw[hc]at this;simp at this
 intro hd i hi;have hi:=yT.1 hi;rw[zW];intro k hk;have hk:=yT.1 hk;have z1:k<a.mv.length:=by omega
 rw[hg i hi,hg k z1];by_cases e:a.mv[i].src=a.mv[k].src
 ·cases hc:v0k a.mv[i].on a.mv[k].on
  ·simp
  exfalso;obtain⟨t,n,h1,h2⟩:=(Cd (h.on _ (zK hi)) (h.on _ (zK z1))).1 hc;have hb:=(h.on _ (zK hi)).lt h1;have hx:Wk a ⟨t,n⟩:=⟨⟨by simp,by simp only;omega⟩,hb.2⟩
  exact hd k i z1 hi hk e.symm ⟨t,n⟩ hx ⟨(R0 h (zK z1) hx).2 (by simpa using h2),(R0 h (zK hi) hx).2 (by simpa using h1)⟩
 simp[e]
section
def sLt(x y:Sy):Prop:=x.ty<y.ty\/(x.ty=y.ty/\x.num<y.num)
def sLt.irr{x:Sy}(h:sLt x x):False:=by unfold sLt at h;omega
def sLt.trans{x y z:Sy}(h:sLt x y)(k:sLt y z):sLt x z:=by unfold sLt at *;omega
def sLt.tri(x y:Sy):sLt x y\/x=y\/sLt y x:=by cases x;cases y;unfold sLt;simp only[Sy.mk.injEq];omega
def v00:List Sy->List Sy->Prop
 |x::v,y::w=>sLt x y\/(x=y/\v00 v w)
 |_,_=>False
def ll(v w:List Sy):Prop:=v.length<w.length\/(v.length=w.length/\v00 v w)
def lle(v w:List Sy):Prop:=v=w\/ll v w
def v00.irr:∀ {v:List Sy},¬v00 v v
 |[],h=>h
 |x::v,h=>by
  rcases h with h|⟨_,h⟩
  ·exact h.irr
  exact v00.irr h
def v00.trans:∀ {u v w:List Sy},v00 u v->v00 v w->v00 u w
 |[],_,_,h,_=>h.elim
 |_::_,[],_,h,_=>h.elim
 |_::_,_::_,[],_,k=>k.elim
 |x::u,y::v,z::w,h,k=>by
  rcases h with h|⟨rfl,h⟩
  ·rcases k with k|⟨rfl,k⟩
   ·exact .inl (h.trans k)
   exact .inl h
  rcases k with k|⟨rfl,k⟩
  ·exact .inl k
  exact .inr ⟨rfl,h.trans k⟩
def ll.irr{v:List Sy}(h:ll v v):False:=by
 rcases h with h|⟨_,h⟩
 ·omega
 exact v00.irr h
def ll.trans{u v w:List Sy}(h:ll u v)(k:ll v w):ll u w:=by
 rcases h with h|⟨h1,h2⟩
 ·rcases k with k|⟨k1,_⟩
  ·exact .inl (by omega)
  exact .inl (by omega)
 rcases k with k|⟨k1,k2⟩
 ·exact .inl (by omega)
 exact .inr ⟨by omega,h2.trans k2⟩
def lle.refl(v:List Sy):lle v v:= .inl rfl
def lle.trans{u v w:List Sy}(h:lle u v)(k:lle v w):lle u w:=by
 rcases h with rfl|h
 ·exact k
 rcases k with rfl|k
 ·exact .inr h
 exact .inr (h.trans k)
def ll.lle{u v w:List Sy}(h:ll u v)(k:lle v w):ll u w:=by
 rcases k with rfl|k
 ·exact h
 exact h.trans k
def lle.anti{u v:List Sy}(h:lle u v)(k:lle v u):u=v:=by
 rcases h with rfl|h
 ·rfl
 exact((h.lle k).irr).elim
def v01:∀ {u v:List Sy} (a b:List Sy),u.length=v.length->v00 u v->v00 (u++a) (v++b)
 |[],_,_,_,_,h=>h.elim
 |_::_,[],_,_,_,h=>h.elim
 |x::u,y::v,a,b,e,h=>by
  rcases h with h|⟨rfl,h⟩
  ·exact .inl h
  exact .inr ⟨rfl,v01 a b (by simpa using e) h⟩
def y0r:∀(u:List Sy) {a b:List Sy},v00 a b->v00 (u++a) (u++b)
 |[],_,_,h=>h
 |_::u,_,_,h=> .inr ⟨rfl,y0r u h⟩
def w13{u v:List Sy}(h:ll u v)(x y:Sy):ll (u++[x]) (v++[y]):=by
 rcases h with h|⟨h1,h2⟩
 ·exact .inl (by simp;omega)
 exact .inr ⟨by simp;omega,v01 _ _ h1 h2⟩
def y08(u:List Sy){x y:Sy}(h:sLt x y):ll (u++[x]) (u++[y]):= .inr ⟨by simp,y0r u (.inl h)⟩
def g1h{u v:List Sy}(h:lle u v){x y:Sy}(k:x=y\/sLt x y):lle (u++[x]) (v++[y]):=by
 rcases h with rfl|h
 ·rcases k with rfl|k
  ·exact .inl rfl
  exact .inr (y08 _ k)
 exact .inr (w13 h x y)
def y2s(u:List Sy)(x:Sy):ll u (u++[x]):= .inl (by simp)
def Yu{α:Type}[DecidableEq α]:∀(l U:List α),l.Nodup->(∀x∈l,x∈U)->l.length<=U.length
 |[],_,_,_=>yW _
 |x::l,U,hn,h=>by have hx:=h x (by simp);have hc:=List.nodup_cons.1 hn;have ih:=Yu l (U.erase x) hc.2 (λy hy=>(List.mem_erase_of_ne (λe=>hc.1 (by rw[<-e];exact hy))).2 (h y (by simp[hy])));rw[List.length_erase_of_mem hx]at ih;have:=List.length_pos_of_mem hx;simp only[yV];omega
section
variable {σ:Type} [DecidableEq σ] (ok:Sy->Prop) (step:σ->Sy->σ) (good:σ->Bool)
def R9(s:σ)(w:List Sy):σ:=w.foldl step s
structure FirstW (s:σ) (w:List Sy):Prop where
 okw:∀x∈w,ok x
 goodw:good (R9 step s w)=true
 least:∀v,(∀x∈v,ok x)->good (R9 step s v)=true->lle w v
variable {ok step good}
def FirstW.unique{s:σ}{v w:List Sy}(h:FirstW ok step good s v)(k:FirstW ok step good s w):v=w:=
 (h.least w k.okw k.goodw).anti (k.least v h.okw h.goodw)
variable (ok step good)
structure SuccOk (s:σ) (l:List (Sy×σ)):Prop where
 asc:l.Pairwise (λa b=>sLt a.1 b.1)
 mem:∀e∈l,ok e.1/\e.2=step s e.1
 cov:∀y,ok y->∃e∈l,e.2=step s y/\(e.1=y\/sLt e.1 y)
variable (succ:σ->List (Sy×σ))
def g04(l:List (σ×List Sy))(t:σ)(w:List Sy):List (σ×List Sy):=if t∈l.map (·.1)then l else l++[(t,w)]
def Ez(l:List (σ×List Sy))(w:List Sy)(es:List (Sy×σ)):List (σ×List Sy):=es.foldl (λl e=>g04 l e.2 (w++[e.1])) l
def Xf:Nat->Nat->List (σ×List Sy)->Option (List Sy)×List (σ×List Sy)
 |0,_,l=>(none,l)
 |f+1,n,l=>match l[n]? with
  |none=>(none,l)
  |some (s,w)=>if good s then(some w,l)else Xf f (n+1) (Ez l w (succ s))
variable (s0:σ) (G:σ->Prop)
structure BInv (n:Nat) (L:List (σ×List Sy)) (done:List (Sy×σ)):Prop where
 first:L[0]?=some (s0,[])
 mem:∀e∈L,(∀x∈e.2,ok x)/\R9 step s0 e.2=e.1/\G e.1
 asc:L.Pairwise (λa b=>ll a.2 b.2)
 nd:(L.map (·.1)).Nodup
 bad:∀i s w,i<n->L[i]?=some (s,w)->good s=false
 cls:∀i s w,i<n->L[i]?=some (s,w)->∀e∈succ s,∃v,(e.2,v)∈L/\lle v (w++[e.1])
 cur:∀s w,L[n]?=some (s,w)->∀e∈done,∃v,(e.2,v)∈L/\lle v (w++[e.1])
 org:∀d∈L,d.2=[]\/∃i s w x,L[i]?=some (s,w)/\d.2=w++[x]/\(i<n\/(i=n/\∃e∈done,e.1=x))
variable {ok step good succ s0 G}
def BInv.low{n:Nat}{L:List (σ×List Sy)}{done:List (Sy×σ)}(h:BInv ok step good succ s0 G n L done){s:σ}{w:List Sy}(hn:L[n]?=some (s,w))(x:Sy)(hx:∀e∈done,sLt e.1 x):∀e∈L,ll e.2 (w++[x]):=by
 intro d hd;rcases h.org d hd with e|⟨i,s',w',y,hi,e,hc⟩
 ·rw[e];exact .inl (by simp)
 rw[e];rcases hc with hc|⟨rfl,c,hc,rfl⟩
 ·obtain⟨h1,h2⟩:=zB.1 hi;obtain⟨h3,h4⟩:=zB.1 hn;have:=yJ.1 h.asc i n h1 h3 hc;rw[h2,h4]at this;exact w13 this _ _
 rw[hn]at hi;cases hi;exact y08 _ (hx c hc)
def BInv.add {n:Nat} {L:List (σ×List Sy)} {done:List (Sy×σ)} (h:BInv ok step good succ s0 G n L done) {s:σ} {w:List Sy} (hn:L[n]?=some (s,w)) {e:Sy×σ} (he:ok e.1/\e.2=step s e.1) (hG:G e.2)
  (z8:∀d∈done,sLt d.1 e.1):BInv ok step good succ s0 G n (g04 L e.2 (w++[e.1])) (done++[e])/\(g04 L e.2 (w++[e.1]))[n]?=some (s,w):=by
 have zb:=(zB.1 hn).1;have z7:=h.low hn e.1 z8;unfold g04;by_cases hin:e.2∈L.map (·.1)
 ·rw[if_pos hin];obtain⟨⟨t,v⟩,hv,ht⟩:=zO.1 hin;simp only at ht;subst ht;refine⟨⟨h.first,h.mem,h.asc,h.nd,h.bad,h.cls,λs' w' z6 d hd=>?_,λd hd=>?_⟩,hn⟩
  ·rw[hn]at z6;cases z6;rcases zV.1 hd with hd|hd
   ·exact h.cur s w hn d hd
   obtain rfl:=zP.1 hd;exact⟨v,hv,.inr (z7 _ hv)⟩
  rcases h.org d hd with e'|⟨i,s',w',y,hi,e',hc⟩
  ·exact .inl e'
  exact .inr ⟨i,s',w',y,hi,e',hc.imp id λ⟨k1,c,k2,k3⟩=>⟨k1,c,yX _ k2,k3⟩⟩
 rw[if_neg hin];have z1:∀i,i<=n->(L++[(e.2,w++[e.1])])[i]? =L[i]? :=λi hi=>zF (by omega);have hw:=h.mem _ (zJ hn);refine⟨⟨by rw[z1 0 (yW _)];exact h.first,λd hd=>?_,?_,?_,λi s' w' hi z6=>h.bad i s' w' hi (by rw[<-z1 i (by omega)];exact z6),λi s' w' hi z6 d hd=>?_,λs' w' z6 d hd=>?_,λd hd=>?_⟩,by rw[z1 n (zQ _)];exact hn⟩
 ·rcases zV.1 hd with hd|hd
  ·exact h.mem d hd
  obtain rfl:=zP.1 hd;refine⟨λx hx=>?_,?_,hG⟩
  ·rcases zV.1 hx with hx|hx
   ·exact hw.1 x hx
   obtain rfl:=zP.1 hx;exact he.1
  show R9 step s0 (w++[e.1])=e.2;have h2:R9 step s0 w=s:=hw.2.1;rw[R9,wL];show step (R9 step s0 w) e.1=e.2;rw[h2,he.2]
 ·exact yE.2 ⟨h.asc,by simp,λa ha b hb=>by obtain rfl:=zP.1 hb;exact z7 a ha⟩
 ·rw[List.map_append];exact vN.2 ⟨h.nd,by simp,λa ha b hb e'=>by
   simp at hb;subst hb;subst e';exact hin ha⟩
 ·rw[z1 i (by omega)]at z6;obtain⟨v,hv,hl⟩:=h.cls i s' w' hi z6 d hd;exact⟨v,yX _ hv,hl⟩
 ·rw[z1 n (zQ _),hn]at z6;cases z6;rcases zV.1 hd with hd|hd
  ·obtain⟨v,hv,hl⟩:=h.cur s w hn d hd;exact⟨v,yX _ hv,hl⟩
  obtain rfl:=zP.1 hd;exact⟨_,vF _ (by simp),.inl rfl⟩
 rcases zV.1 hd with hd|hd
 ·rcases h.org d hd with e'|⟨i,s',w',y,hi,e',hc⟩
  ·exact .inl e'
  have za:i<=n:=by rcases hc with hc|hc<;>omega
  exact .inr ⟨i,s',w',y,by rw[z1 i za];exact hi,e',hc.imp id λ⟨k1,c,k2,k3⟩=>⟨k1,c,yX _ k2,k3⟩⟩
 obtain rfl:=zP.1 hd;exact .inr ⟨n,s,w,e.1,by rw[z1 n (zQ _)];exact hn,rfl,.inr ⟨rfl,e,by simp,rfl⟩⟩
def BInv.round{n:Nat}:∀(es:List (Sy×σ)) (done:List (Sy×σ)) (L:List (σ×List Sy)) {s:σ} {w:List Sy},BInv ok step good succ s0 G n L done->L[n]?=some (s,w)->(∀e∈es,ok e.1/\e.2=step s e.1)->(∀e∈es,G e.2)->
  (done++es).Pairwise (λa b=>sLt a.1 b.1)->BInv ok step good succ s0 G n (Ez L w es) (done++es)/\(Ez L w es)[n]?=some (s,w)
 |[],done,L,s,w,h,hn,_,_,_=>by simpa[Ez]using⟨h,hn⟩
 |e::es,done,L,s,w,h,hn,hm,hG,hp=>by have z1:∀d∈done,sLt d.1 e.1:=λd hd=>(yE.1 hp).2.2 d hd e (by simp);obtain⟨h1,h2⟩:=h.add hn (hm e (by simp)) (hG e (by simp)) z1;have:=BInv.round es (done++[e]) _ h1 h2 (λd hd=>hm d (by simp[hd])) (λd hd=>hG d (by simp[hd])) (by simpa using hp);simpa[Ez]using this
def BInv.next{n:Nat}{L:List (σ×List Sy)}{s:σ}{w:List Sy}(h:BInv ok step good succ s0 G n L [])(hn:L[n]?=some (s,w))(hg:good s=false)(hs:SuccOk ok step s (succ s))(hG:∀e∈succ s,G e.2):
  BInv ok step good succ s0 G (n+1) (Ez L w (succ s)) []:=by
 obtain⟨h1,h2⟩:=h.round (succ s) [] L hn hs.mem hG (by simpa using hs.asc);rw[xZ]at h1;refine⟨h1.first,h1.mem,h1.asc,h1.nd,λi s' w' hi z1=>?_,λi s' w' hi z1 d hd=>?_,λ_ _ _ _ hd=>(by cases hd),λd hd=>?_⟩
 ·by_cases hin:i<n
  ·exact h1.bad i s' w' hin z1
  have:i=n:=by omega
  subst this;rw[h2]at z1;cases z1;exact hg
 ·by_cases hin:i<n
  ·exact h1.cls i s' w' hin z1 d hd
  have:i=n:=by omega
  subst this;rw[h2]at z1;cases z1;exact h1.cur s w h2 d hd
 rcases h1.org d hd with e'|⟨i,s',w',y,hi,e',hc⟩
 ·exact .inl e'
 exact .inr ⟨i,s',w',y,hi,e',.inl (by rcases hc with hc|hc<;>omega)⟩
def BInv.reach{n:Nat}{L:List (σ×List Sy)}(h:BInv ok step good succ s0 G n L [])(hs:∀s,G s->SuccOk ok step s (succ s)):∀(r:List Sy),(∀x∈r,ok x)->
  (∃v,(R9 step s0 r.reverse,v)∈L/\lle v r.reverse)\/∃i s w,n<=i/\L[i]?=some (s,w)/\lle w r.reverse
 |[],_=> .inl ⟨[],zJ h.first,lle.refl _⟩
 |x::r,hx=>by
  have z1:ll r.reverse (x::r).reverse:=by rw[uD];exact y2s _ _
  rcases BInv.reach h hs r (λy hy=>hx y (by simp[hy]))with⟨v,hv,hl⟩|⟨i,s,w,h1,h2,h3⟩
  ·obtain⟨i,hi⟩:=yK.1 hv;by_cases hin:i<n
   ·obtain⟨e,he,e1,e2⟩:=(hs _ (h.mem _ hv).2.2).cov x (hx x (by simp));obtain⟨u,hu,z6⟩:=h.cls i _ _ hin hi e he;refine .inl ⟨u,?_,?_⟩
    ·rw[uD,R9,wL];show(step (R9 step s0 r.reverse) x,u)∈L;rw[<-e1];exact hu
    rw[uD];exact z6.trans (g1h hl e2)
   exact .inr ⟨i,_,v,by omega,hi,hl.trans (.inr z1)⟩
  exact .inr ⟨i,s,w,h1,h2,h3.trans (.inr z1)⟩
def BInv.found{n:Nat}{L:List (σ×List Sy)}{s:σ}{w:List Sy}(h:BInv ok step good succ s0 G n L [])(hs:∀s,G s->SuccOk ok step s (succ s))(hn:L[n]?=some (s,w))(hg:good s=true):FirstW ok step good s0 w:=by
 have hm:=h.mem _ (zJ hn);refine⟨hm.1,by rw[hm.2.1];exact hg,λv hv z1=>?_⟩;have hle:∀i s' w',n<=i->L[i]?=some (s',w')->lle w w':=λi s' w' hi hl=>by
  obtain⟨h1,h2⟩:=zB.1 hn;obtain⟨h3,h4⟩:=zB.1 hl;rcases Nat.lt_or_eq_of_le hi with hlt|rfl
  ·have:=yJ.1 h.asc n i h1 h3 hlt;rw[h2,h4]at this;exact .inr this
  rw[hn]at hl;cases hl;exact .inl rfl
 rcases h.reach hs v.reverse (λx hx=>hv x (by simpa using hx))with⟨u,hu,hl⟩|⟨i,s',w',h1,h2,h3⟩
 ·rw[un]at hu hl;obtain⟨i,hi⟩:=yK.1 hu;by_cases hin:i<n
  ·have:=h.bad i _ _ hin hi;rw[this]at z1;cases z1
  exact(hle i _ _ (by omega) hi).trans hl
 rw[un]at h3;exact(hle i _ _ h1 h2).trans h3
def BInv.none{n:Nat}{L:List (σ×List Sy)}(h:BInv ok step good succ s0 G n L [])(hs:∀s,G s->SuccOk ok step s (succ s))(hn:L[n]? =none):
  (∀v,(∀x∈v,ok x)->R9 step s0 v∈L.map (·.1)/\good (R9 step s0 v)=false):=by
 intro v hv;have hlen:=uS.1 hn;rcases h.reach hs v.reverse (λx hx=>hv x (by simpa using hx))with⟨u,hu,_⟩|⟨i,s',w',h1,h2,_⟩
 ·rw[un]at hu;obtain⟨i,hi⟩:=yK.1 hu;have:=(zB.1 hi).1;exact⟨zO.2 ⟨_,hu,rfl⟩,h.bad i _ _ (by omega) hi⟩
 have:=(zB.1 h2).1;omega
def Dx(hs:∀s,G s->SuccOk ok step s (succ s))(hG:∀s,G s->∀e∈succ s,G e.2)(U:List σ)(hU:∀s,G s->s∈U):∀(f n:Nat) (L:List (σ×List Sy)),U.length+1<=n+f->n<=L.length->BInv ok step good succ s0 G n L []->
  (∃w L',Xf good succ f n L=(some w,L')/\FirstW ok step good s0 w)\/
  (∃L',Xf good succ f n L=(Option.none,L')/\(L'.map (·.1)).Nodup/\(∀e∈L',(∀x∈e.2,ok x)/\R9 step s0 e.2=e.1/\G e.1)/\∀v,(∀x∈v,ok x)->R9 step s0 v∈L'.map (·.1)/\good (R9 step s0 v)=false)
 |0,n,L,hf,hn,h=>by
  exfalso;have:=Yu _ U h.nd (λs hs=>by
   obtain⟨e,he,rfl⟩:=zO.1 hs;exact hU _ (h.mem e he).2.2)
  simp at this;omega
 |f+1,n,L,hf,hn,h=>by
  rw[Xf];cases hl:L[n]? with
  |none=>exact .inr ⟨L,rfl,h.nd,h.mem,h.none hs hl⟩
  |some e=>
   obtain⟨s,w⟩:=e;simp only;cases hg:good s with
   |true=>rw[if_pos rfl];exact .inl ⟨w,L,rfl,h.found hs hl hg⟩
   |false=>
    rw[if_neg (by simp)];have z1:=(h.mem _ (zJ hl)).2.2;have h':=h.next hl hg (hs s z1) (hG s z1);refine Dx hs hG U hU f (n+1) _ (by omega) ?_ h';have z6:=(zB.1 hl).1;have z7:∀(es:List (Sy×σ)) (L:List (σ×List Sy)),L.length<=(Ez L w es).length:=by
     intro es;induction es with
     |nil=>intro L;exact zQ _
     |cons e es ih=>
      intro L;refine yL ?_ (ih (g04 L e.2 (w++[e.1])));unfold g04;split
      ·exact zQ _
      simp
    exact yL z6 (z7 _ _)
def Py(z1:G s0):BInv ok step good succ s0 G 0 [(s0,[])] []:=
 ⟨rfl,λe he=>by obtain rfl:=zP.1 he;exact⟨by simp,rfl,z1⟩,by simp,by simp,λi _ _ hi=>by omega,λi _ _ hi=>by omega,λ_ _ _ _ hd=>(by cases hd),λd hd=>by obtain rfl:=zP.1 hd;exact .inl rfl⟩
end
end
end Go.Abs
