/- Part Vd of the proof: steps on the way to the last part. No condition. -/
import Derived.Test.YtjmkolhkojgjpaaGreatDoorVc
set_option linter.all false
open Nat renaming le_refl->zW,lt_trichotomy->wZ,lt_or_gt_of_ne->uX
open List renaming foldl_cons->xX,length_cons->xI,length_map->yL,drop_length->x_,getElem_of_mem->xE,getElem_mem->zT,any_eq_true->wW,any_eq_false->vI,replicate->yH,cons_append->tV,length_filter_le->xN,eq_nil_or_concat->uf,concat_eq_append->ug,perm_middle->vT,pairwise_append->yT,mem_cons->yO,pairwise_cons->yZ,take_append_drop->xW,pairwise_iff_getElem->yU,getElem_take->tP,mem_append->yB,pairwise_mergeSort->uz,take_length->yR,mem_mergeSort->tM,mem_flatMap->xZ,mem_filterMap->wR,getElem?_eq_some_iff->zE,mem_of_getElem?->zL,getElem?_eq_getElem->zP,perm_ext_iff_of_nodup->ul,zipWith->su,getElem?_replicate->vM,eq_of_mem_replicate->vF,getElem?_zipWith->vK,mem_iff_getElem?->yQ,getElem?_map->z_,all_eq_true->yE,isEmpty_iff->tX,mem_singleton->zV,pairwise_flatMap->vN,range->y_,getD->yV,getElem?_set_self->zS,getElem?_set_ne->zH,mem_cons_of_mem->tE,map_congr_left->xH,mem_map->zU,mem_range->xD,pairwise_map->xS,mem_filter->xT,mem_append_left->xB,findIdx?_eq_some_iff_getElem->xV,getElem_inj->ua,getElem?_append_left->zI,eq_nil_iff_forall_not_mem->vG,mem_append_right->vP
open Bool renaming eq_iff_iff->wB,not_eq_true->uI
open Int renaming le_refl->xC,lt_trichotomy->tW
open Option renaming map_eq_some_iff->zX
set_option linter.unusedSimpArgs false
set_option maxRecDepth 100000
open Go.Proofs.Tryz
namespace Go.Abs
section
open Go Go.Proofs
def g2y(s:List Iv)(j:Nat)(x:Iv):Bool:=match s[j]? with|some y=>decide (x.lo<y.lo)|none=>false
def P6(s:List Iv)(x:Iv):Nat->Nat
 |0=>0
 |j+1=>if g2y s j x=true then P6 s x j else j+1
def c0u(s:List Iv)(x:Iv):List Iv:=s.take (P6 s x s.length)++x::s.drop (P6 s x s.length)
def O6(l:List Iv):List Iv:=l.foldl c0u []
def Je(s:List Iv)(x:Iv):∀j,P6 s x j<=j
 |0=>zW _
 |j+1=>by
  rw[P6];split
  ·exact Nat.le_succ_of_le (Je s x j)
  exact zW _
def v1u(s:List Iv)(x:Iv):(c0u s x).length=s.length+1:=by have:=Je s x s.length;simp[c0u];omega
def Zk:∀(l acc:List Iv),(l.foldl c0u acc).length=acc.length+l.length
 |[],acc=>by simp
 |x::r,acc=>by rw[xX,Zk r,v1u,xI];omega
def q16(l:List Iv):(O6 l).length=l.length:=by rw[O6,Zk];simp
end
section
open Go Go.Proofs
def E5(l:List Iv):List Iv:=Qz [] (O6 l)
def Eh(ini:List Iv)(y x:Iv):Eb (ini++[y]) x=if x.lo<=y.hi+1 then ini++[⟨y.lo,if y.hi<x.hi then x.hi else y.hi⟩]else ini++[y]++[x]:=by simp[Eb]
attribute [local irreducible] O6
end
section
open Go Go.Proofs
attribute [local irreducible] E5
attribute [local irreducible] Gd
def c1f(a b c d:Int):eqA T 9 144 (.agg [.int .i64 a,.int .i64 b]) (.agg [.int .i64 c,.int .i64 d])=some (a==c && b==d):=by simp[eqA,Y2,Dw,TI.agg]
def v2o(a b:List Iv):PC prog 143 [LIv a,LIv b] (λr=>r= .bool (decide (a=b))):=by
 refine pcB func143 results143 ntmps143 ?_;simp only[Qe];refine Tw 0 rfl (λhlen=>?_);rw[yL]at hlen;repeat(refine s_ ?_;simp)
 refine Qa rfl (λh=>?_) (λh=>?_)
 ·repeat(refine s_ ?_;simp)
  have:a≠b:=λe=>by subst e;simp at h
  simp[this]
 have zc:a.length=b.length:=by simp at h;omega
 repeat(refine s_ ?_;simp)
 refine Qu a.length (λj=>decide (a=b)=decide (a.drop j=b.drop j)) (λj=>[(0,LIv a),(1,LIv b),(5,.i j)]) (λ_=>[]) rfl (by simp) (by simp) (by simp) (by simp) (by simp) ?_;intro j hj hI ih;repeat(refine s_ ?_;simp)
 refine Qa rfl (λza=>?_) (λzb=>?_)
 ·have z1:j<a.length:=by simpa using za
  have z6:j<b.length:=by omega
  have z7:(j:Int)<b.length:=by omega
  have hw:=wz j (by omega);rw[Ec z1,Ec z6]at hI;repeat(refine s_ ?_;simp)
  refine Qn tOk mixed [] (.val 0 (.val 1 (.val 2 (.val 3 (.val 4 (.val 5 (.val 6 (.val 7 (.val 8 (.done)))))))))) rfl (by kernel_rfl) ?_;simp[z1,z6,z7,c1f];refine Qa rfl (λh2=>?_) (λh2=>?_)
  ·repeat(refine s_ ?_;simp)
   have:a≠b:=λe=>by subst e;simp at h2
   simp[this]
  repeat(refine s_ ?_;simp[hw])
  have he:a[j]=b[j]:=by cases hx:a[j];cases hy:b[j];rw[hx,hy]at h2;simpa using h2
  refine Qs _ (ih z1 ?_) rfl (by simp) ?_ (by simp) (by simp)
  ·rw[hI,he];simp only[List.cons.injEq,true_and]
  simp
 have z8:j=a.length:=by simp at zb;omega
 subst z8;rw[x_,List.drop_of_length_le (by omega)]at hI;repeat(refine s_ ?_;simp)
 simpa using hI
def j2a(l:List Iv):PC prog 144 [LIv l] (λr=>r= .bool (decide ((l.length:Int)<=12))):=by refine pcB func144 results144 ntmps144 ?_;simp only[Qe];repeat(refine s_ ?_;simp)
end
section
open Go Go.Proofs
attribute [simp] T68
@[simp] def encL (l:List Iv):AV:= .list (l.map encIv)
attribute [local irreducible] ckR
end
section
open Go Go.Proofs
structure CanonL (l:List Iv):Prop where
 len:l.length<=256
 one:∀y∈l,Gd y=0
 gap:∀j,∀h:j+1<l.length,l[j].hi+2<=l[j+1].lo
def Be{l:List Iv}{j:Nat}{x:Iv}(h:j<l.length)(hi:Dk l[j]):q1g l (j+1) x=decide (x.lo<l[j].hi+2):=by have h1:=(Ev _).1 hi.2;have:W (l[j].hi+2)=l[j].hi+2:=wrap_i64 _ (by omega) (by omega);simp[q1g,h,this]
def J4(l:List Iv)(hl:l.length<=256):∀(n j:Nat),l.length - j=n->j<=l.length->(∀h:0<j,∀h':j - 1<l.length,Gd l[j - 1]=0)->(Pd l j (l.drop j)=0↔(∀i,j<=i->∀h:i<l.length,Gd l[i]=0)/\∀i,j<=i+1->∀h:i+1<l.length,l[i].hi+2<=l[i+1].lo)
 |0,j,hn,hj,_=>by
  have:j=l.length:=by omega
  subst this;rw[x_,Pd];exact⟨λ_=>⟨λi h1 h2=>by omega,λi h1 h2=>by omega⟩,λ_=>rfl⟩
 |n+1,j,hn,hj,hp=>by
  have z6:j<l.length:=by omega
  rw[Ec z6,Pd];by_cases h1:(Gd l[j] != 0)=true
  ·rw[if_pos h1];have z1:Gd l[j]≠0:=by simpa using h1
   exact⟨λh=>absurd h z1,λh=>absurd (h.1 j (zW _) z6) z1⟩
  rw[if_neg h1];have z1:Gd l[j]=0:=by simpa using h1
  have ih:=J4 l hl n (j+1) (by omega) (by omega) (λ_ _=>z1);by_cases h2:q1g l j l[j]=true
  ·rw[if_pos h2];refine⟨λh=>(by cases h),λh=>?_⟩;rcases j with _|j
   ·simp[q1g]at h2
   have hq:Gd l[j]=0:=hp (by omega) (by simp;omega);rw[Be (by omega) (Nk hq).1]at h2;have:=h.2 j (zW _) z6;simp at h2;omega
  rw[if_neg h2,ih];constructor
  ·rintro⟨a,b⟩;refine⟨λi hi h=>?_,λi hi h=>?_⟩
   ·by_cases e:i=j
    ·subst e;exact z1
    exact a i (by omega) h
   by_cases e:j=i+1
   ·subst e;have hq:Gd l[i]=0:=hp (by omega) (by simp;omega);rw[Be (by omega) (Nk hq).1]at h2;simp at h2;exact h2
   exact b i (by omega) h
  rintro⟨a,b⟩;exact⟨λi hi h=>a i (by omega) h,λi hi h=>b i (by omega) h⟩
def Bk(l:List Iv):ckR l=0↔CanonL l:=by
 rw[ckR];by_cases h:decide ((256:Int)<l.length)=true
 ·rw[if_pos h];simp at h;exact⟨λe=>(by cases e),λe=>(by have:=e.len;omega)⟩
 rw[if_neg h];simp at h;have hl:l.length<=256:=by omega
 have:=J4 l hl l.length 0 rfl (Nat.zero_le _) (λh=>by omega);rw[List.drop_zero]at this;rw[this];constructor
 ·rintro⟨a,b⟩;refine⟨hl,λy hy=>?_,λj h=>b j (by omega) h⟩;obtain⟨i,hi,rfl⟩:=xE hy;exact a i (by omega) hi
 rintro⟨_,a,b⟩;exact⟨λi _ h=>a _ (zT h),λi _ h=>b i h⟩
def CanonL.iv{l:List Iv}(h:CanonL l){j:Nat}(hj:j<l.length): -1099511627776<=l[j].lo/\l[j].lo<=l[j].hi/\l[j].hi<=1099511627776:=by obtain⟨⟨h1,h2⟩,h3⟩:=Nk (h.one _ (zT hj));have:=(Ev _).1 h1;have:=(Ev _).1 h2;omega
attribute [local irreducible] ckR
end
section
open Go Go.Proofs
attribute [local irreducible] ckR
def c15:List Iv->Int->Int×Int
 |[],_=>(0,2)
 |x::r,i=>if i<x.hi - x.lo+1 then(x.lo+i,0)else c15 r (i - (x.hi - x.lo+1))
def atR(l:List Iv)(i:Int):Int×Int:=if ckR l=0 then(if i<0 then(0,2)else c15 l i)else(0,ckR l)
def y0k(x:Iv)(n:Int):Int:=if x.hi<n then -1 else if n<x.lo then 1 else 0
def z13(x:Iv)(n:Int):PC prog 222 [encIv x,.i n] (λr=>r= .i (y0k x n)):=by
 refine pcB func222 results222 ntmps222 ?_;simp only[Qe];simp only[encIv];repeat(refine s_ ?_;simp)
 refine Qa rfl (λh=>?_) (λh=>?_)
 ·repeat(refine s_ ?_;simp)
  rw[y0k,if_pos (by simpa using h)]
 repeat(refine s_ ?_;simp)
 refine Qa rfl (λh2=>?_) (λh2=>?_)
 ·repeat(refine s_ ?_;simp)
  rw[y0k,if_neg (by simpa using h),if_pos (by simpa using h2)]
 repeat(refine s_ ?_;simp)
 rw[y0k,if_neg (by simpa using h),if_neg (by simpa using h2)]
def Kj(l:List Iv)(n:Int):Bool:=l.any λx=>decide (x.lo<=n) && decide (n<=x.hi)
def Pr{l:List Iv}(hc:CanonL l):∀ {i j:Nat},i<j->∀(hj:j<l.length),∀(hi:i<l.length),l[i].hi+2<=l[j].lo:=by
 intro i j z1 hj hi;obtain⟨d,rfl⟩:∃d,j=i+1+d:=⟨j - (i+1),by omega⟩
 induction d with
 |zero=>exact hc.gap i hj
 |succ d ih=>
  have h1:=ih (by omega) (by omega);have h2:=hc.gap (i+1+d) (by omega);have h3:=hc.iv (show i+1+d<l.length by omega);have h4:i+1+(d+1)=i+1+d+1:=by omega
  simp only[h4];omega
def Hx(x:Iv)(n:Int):y0k x n<0↔x.hi<n:=by
 unfold y0k;by_cases h:x.hi<n
 ·rw[if_pos h];simp[h]
 rw[if_neg h];by_cases h2:n<x.lo
 ·rw[if_pos h2];simp[h]
 rw[if_neg h2];simp[h]
def j1z(x:Iv)(n:Int):y0k x n=0↔x.lo<=n/\n<=x.hi:=by
 unfold y0k;by_cases h:x.hi<n
 ·rw[if_pos h];constructor<;>intro h'<;>omega
 rw[if_neg h];by_cases h2:n<x.lo
 ·rw[if_pos h2];constructor<;>intro h'<;>omega
 rw[if_neg h2];constructor<;>intro h'<;>omega
def v2y{i j m:Nat}(hm:(i+j) / 2=m)(h:i+j<=1000000000):IntKind.i64.wrap ((IntKind.u64.wrap ((i:Int)+j)).fdiv (2 ^ min 1 IntKind.u64.bits))=m:=by
 have h1:IntKind.u64.wrap ((i:Int)+j)=i+j:=by simp[IntKind.wrap,IntKind.bits,IntKind.signed];omega
 have h2:min 1 IntKind.u64.bits=1:=by decide
 rw[h1,h2,Int.fdiv_eq_ediv_of_nonneg _ (by decide),wrap_i64 _ (by omega) (by omega)];omega
attribute [local irreducible] y0k
set_option maxHeartbeats 2000000 in
def B1(l:List Iv)(n:Int)(hc:CanonL l):PC prog 221 [LIv l,.i n,.fn (.func 222) [] []] (λr=>∃k:Int,r= .tup [.i k,.bool (Kj l n)]):=by
 refine pcB func221 results221 ntmps221 ?_;simp only[Qe];have hlen:=hc.len;repeat(refine s_ ?_;simp)
 refine Qi (Qc (sl':=[(0,LIv l),(1,.i n),(2,.fn (.func 222) [] []),(8,.i l.length),(9,.i 0),(10,.i l.length)]) ?_ (by simp));refine Qj (F:=λ(u:Nat×Nat)=>⟨[(0,LIv l),(1,.i n),(2,.fn (.func 222) [] []),(8,.i l.length),(9,.i u.1),(10,.i u.2)],[]⟩) (λu=>u.1<=u.2/\u.2<=l.length/\(∀k,k<u.1->∀hk:k<l.length,y0k l[k] n<0)/\(∀k,u.2<=k->∀hk:k<l.length,¬y0k l[k] n<0)) (λu=>u.2 - u.1) ?_ (0,l.length) ⟨by simp,by simp,λk hk=>by simp at hk,λk hk z1=>by simp only at hk;omega⟩;rintro⟨i,j⟩ ⟨h1,h2,h3,h4⟩ ih;simp only at h1 h2 h3 h4 ih |-;repeat(refine s_ ?_;simp)
 refine Qa rfl (λzd=>?_) (λze=>?_)
 ·have zf:i<j:=by simpa using zd
  have hw:IntKind.i64.wrap ((i:Int)+j)=i+j:=wrap_i64 _ (by omega) (by omega);obtain⟨m,hm⟩:∃m,(i+j) / 2=m:=⟨_,rfl⟩
  have z8:IntKind.i64.wrap ((IntKind.u64.wrap ((i:Int)+j)).fdiv (2 ^ min 1 IntKind.u64.bits))=m:=v2y hm (by omega);have z6:m<l.length:=by omega
  have za:(m:Int)<l.length:=by omega
  have zg:=wz m (by omega);repeat(refine s_ ?_;simp[hw,z8,z6,za])
  refine pcL (z13 l[m] n) ?_;simp;refine Qa rfl (λh5=>?_) (λh5=>?_)
  ·repeat(refine s_ ?_;simp[zg])
   refine Qc (sl':=[(0,LIv l),(1,.i n),(2,.fn (.func 222) [] []),(8,.i l.length),(9,.i (m+1:Nat)),(10,.i j)]) (ih (m+1,j) ⟨by simp only;omega,h2,λk hk z1=>?_,h4⟩ (by simp only;omega)) (by simp);have zh:=hc.iv z1;have zi:=hc.iv z6;have z7:y0k l[m] n<0:=by simpa using h5
   by_cases e:k=m
   ·subst e;exact z7
   have:=Pr hc (show k<m by omega) z6 z1;rw[Hx]at z7 |-;omega
  repeat(refine s_ ?_;simp)
  refine Qc (sl':=[(0,LIv l),(1,.i n),(2,.fn (.func 222) [] []),(8,.i l.length),(9,.i i),(10,.i m)]) (ih (i,m) ⟨by simp only;omega,by simp only;omega,h3,λk hk z1=>?_⟩ (by simp only;omega)) (by simp);have zh:=hc.iv z1;have zi:=hc.iv z6;have z7:¬y0k l[m] n<0:=by simpa using h5
  by_cases e:k=m
  ·subst e;exact z7
  have:=Pr hc (show m<k by omega) z1 z6;rw[Hx]at z7 |-;omega
 have zb:i=j:=by simp at ze;omega
 subst zb;by_cases hil:i<l.length
 ·repeat(refine s_ ?_;simp[hil])
  refine pcL (z13 l[i] n) ?_;simp;repeat(refine s_ ?_;simp)
  have hh:Kj l n=(y0k l[i] n==0):=by
   rw[wB,beq_iff_eq,j1z,Kj,wW];constructor
   ·rintro⟨x,hx,zc⟩;obtain⟨k,hk,rfl⟩:=xE hx;simp at zc;have e:k=i:=by
     by_cases e1:k<i
     ·have:=(Hx _ _).1 (h3 k e1 hk);omega
     by_cases e2:i<k
     ·have:=Pr hc e2 hk hil;have:¬l[i].hi<n:=λe=>h4 i (zW _) hil ((Hx l[i] n).2 e);omega
     omega
    subst e;exact zc
   intro h;exact⟨l[i],zT hil,by simpa using h⟩
  rw[hh]
 repeat(refine s_ ?_;simp[hil])
 refine Wg rfl rfl ?_;simp;repeat(refine s_ ?_;simp)
 have hh:Kj l n=false:=by rw[Kj,vI];intro x hx;obtain⟨k,hk,rfl⟩:=xE hx;have:=(Hx _ _).1 (h3 k (by omega) hk);simp;intro _;omega
 rw[hh]
def j2m(l:List Iv)(n:Int)(hc:CanonL l):PC prog 165 [LIv l,.i n] (λr=>r= .bool (Kj l n)):=by
 refine pcB func165 results165 ntmps165 ?_;simp only[Qe];repeat(refine s_ ?_;simp)
 refine v0x rfl rfl (by simp) (B1 l n hc) rfl ?_;rintro _ ⟨k,rfl⟩;simp;repeat(refine s_ ?_;simp)
attribute [local irreducible] Kj
def f1h(l:List Iv)(n:Int):Bool×Int:=if ckR l=0 then(Kj l n,0)else(false,ckR l)
def Jd(l:List Iv)(n:Int):PC prog 103 [LIv l,.i n] (λr=>r= .tup [.bool (f1h l n).1,.i (f1h l n).2]):=by
 refine pcB func103 results103 ntmps103 ?_;simp only[Qe];repeat(refine s_ ?_;simp)
 refine pcL (v0h l) ?_;simp;repeat(refine s_ ?_;simp)
 refine Qa rfl (λh=>?_) (λh=>?_)
 ·repeat(refine s_ ?_;simp)
  rw[f1h,if_neg (by simpa using h)];exact⟨rfl,rfl⟩
 have h0:ckR l=0:=by simpa using h
 repeat(refine s_ ?_;simp)
 refine pcL (j2m l n ((Bk l).1 h0)) ?_;simp;repeat(refine s_ ?_;simp)
 rw[f1h,if_pos h0];exact⟨rfl,rfl⟩
end
section
open Go Go.Proofs
attribute [local irreducible] ckR
end
section
open Go Go.Proofs
end
section
open Go Go.Proofs Go.RowKit Go.Shelf Go.Lib Go.Sort
def Tm(zs:List Int):List Int:=zs.mergeSort λx y=>decide (x<=y)
def S0(zs:List Int):(Tm zs).length=zs.length:=by simp[Tm]
def Lh(H:List AObj)(p:Nat)(zs:List Int)(hp:H[p]?=some (.arr 3 1 (zs.map (AV.int .i64))))(hl:zs.length<=1000000):
  FC prog 171 [.sl p 1 0 zs.length] H (λr H'=>r= .tup []/\H'=H.set p (.arr 3 1 ((Tm zs).map (AV.int .i64)))):=by
 refine(w1d (xs:=zs.map (AV.int .i64)) (rest:=[]) (R9 func171 rfl rfl) (by simp) hp (g2i zs) [] (λw I m vs a b=>by simpa using a) (λz1=>z1=(Tm zs).map (AV.int .i64)) ?_ ?_).mono ?_
 ·intro b cap w hH hb hc;have:=Tryz.slices_Sort_int b 0 cap zs w (M1 hH) hb (by omega);refine Calls.mono (by simpa using this) ?_;rintro e w' ⟨rfl,n,os,rfl⟩;exact⟨rfl,_,((Tm zs).map (Value.int .i64)).toArray,n,os,rfl,by simp[S0],g2i _,by rw[Zr];rfl⟩
 ·rintro h;have z6:zs=[]:=by simpa using h
  subst z6;exact⟨by simp[Tm],λw=>by simpa using Tryz.slices_Sort_int_none none 0 w⟩
 rintro r H' ⟨rfl,z1,rfl,rfl⟩;exact⟨rfl,rfl⟩
def S9(H:List AObj)(p:Nat)(zs:List Int)(hp:H[p]?=some (.arr 3 1 (zs.map (AV.int .i64))))(hl:zs.length<=1000000)(z6:(Lib.compact zs).length<=zs.length):
  FC prog 172 [.sl p 1 0 zs.length] H (λr H'=>r= .sl p 1 0 (Lib.compact zs).length/\∃G:List Int,H'=H.set p (.arr 3 1 ((Lib.compact zs++G).map (AV.int .i64)))):=by
 refine(q23 (xs:=zs.map (AV.int .i64)) (R9 func172 rfl rfl) (by simp) hp (g2i zs) (λz1 n=>n=(Lib.compact zs).length/\∃G:List Int,z1=(Lib.compact zs++G).map (AV.int .i64)) (λys n h=>by rw[h.1];exact z6) ?_ ?_).mono ?_
 ·intro b cap w hH hb hc hm;have:=Tryz.slices_Compact_int b 0 cap zs w (M1 hH) (by omega) hc;refine Calls.mono (by simpa using this) ?_;rintro e w' ⟨rfl,q,rfl⟩;exact⟨_,((Lib.compact zs++yH (zs.length - (Lib.compact zs).length) 0).map (Value.int .i64)).toArray,q,_,rfl,⟨rfl,_,rfl⟩,by simp;omega,g2i _,by rw[<-Zr]⟩
 ·rintro h;have z7:zs=[]:=by simpa using h
  subst z7;exact⟨⟨rfl,[],rfl⟩,λw=>by simpa using Tryz.slices_Compact_int_empty none 0 w⟩
 rintro r H' ⟨z1,n,rfl,⟨rfl,G,rfl⟩,rfl⟩;exact⟨rfl,G,rfl⟩
end
section
open Go Go.Proofs
attribute [simp] T47
def w0n:List Iv->List Int
 |[]=>[]
 |x::r=>x.lo::(x.hi+1)::w0n r
def x0t:∀(l:List Iv) (x:Iv),w0n (l++[x])=w0n l++[x.lo,x.hi+1]
 |[],x=>rfl
 |y::r,x=>by rw[tV,w0n,x0t r,w0n];rfl
def y1n:∀(l:List Iv),(w0n l).length=2 * l.length
 |[]=>rfl
 |x::r=>by rw[w0n,xI,xI,y1n r,xI];omega
def d1d(l:List Iv):List Int:=Lib.compact (Tm (w0n l))
def Ai(zs:List Int):(Lib.compact zs).length<=zs.length:=by unfold Lib.compact Lib.compactUpTo;rw[yL];exact Nat.le_trans (xN _ _) (by simp)
attribute [local irreducible] ckR Kj Eb Tm Lib.compact w0n
end
section
open Go Go.Proofs
attribute [local irreducible] ckR
end
def push_comm(acc:List Iv)(x y:Iv)(h:x.lo=y.lo)(hx:x.lo<=x.hi)(hy:y.lo<=y.hi):Eb (Eb acc x) y=Eb (Eb acc y) x:=by
 have one:∀(u v:Iv),u.lo=v.lo->u.lo<=u.hi->∀ini:List Iv,Eb (ini++[u]) v=ini++[⟨u.lo,if u.hi<v.hi then v.hi else u.hi⟩]:=λu v z6 hu ini=>by rw[Eh,if_pos (by omega)]
 rcases uf acc with rfl|⟨ini,z,rfl⟩
 ·have e1:Eb [] x=[]++[x]:=rfl;have e2:Eb [] y=[]++[y]:=rfl;rw[e1,e2,one x y h hx,one y x h.symm hy,h]
  congr 3
  split<;>split<;>omega
 rw[ug];by_cases hz:x.lo<=z.hi+1
 ·have z1:∀(w u:Iv),u.lo<=w.hi+1->Eb (ini++[w]) u=ini++[⟨w.lo,if w.hi<u.hi then u.hi else w.hi⟩]:=λw u h=>by rw[Eh,if_pos h]
  rw[z1 z x hz,z1 z y (by omega),z1 _ y (by simp only;split<;>omega),z1 _ x (by simp only;split<;>omega)]
  congr 3
  simp only;repeat split
  all_goals omega
 have ap:∀u:Iv,u.lo=x.lo->Eb (ini++[z]) u=ini++[z]++[u]:=λu h=>by rw[Eh,if_neg (by omega)]
 rw[ap x rfl,ap y h.symm,one x y h hx,one y x h.symm hy,h]
 congr 3
 split<;>split<;>omega
def Fu:∀(A:List Iv) (acc:List Iv) (x:Iv) (B:List Iv),(∀y∈A,y.lo=x.lo/\y.lo<=y.hi)->x.lo<=x.hi->Qz acc (A++x::B)=Qz acc (x::(A++B))
 |[],acc,x,B,_,_=>rfl
 |y::A,acc,x,B,h,hx=>by have hy:=h y (by simp);have ih:=Fu A (Eb acc y) x B (λz hz=>h z (by simp[hz])) hx;simp only[Qz,tV,xX]at ih |-;rw[ih,push_comm acc y x hy.1 hy.2 hx]
def Kh:∀(l l':List Iv) (acc:List Iv),l.Perm l'->Ni l->Ni l'->(∀y∈l,y.lo<=y.hi)->Qz acc l=Qz acc l'
 |[],l',acc,hp,_,_,_=>by rw[hp.nil_eq]
 |x::l,l',acc,hp,h1,h2,hf=>by
  obtain⟨A,B,rfl⟩:=List.append_of_mem (hp.mem_iff.1 (List.mem_cons_self));have z6:l.Perm (A++B):=(List.perm_cons x).1 (hp.trans vT);have hA:∀y∈A,y.lo=x.lo/\y.lo<=y.hi:=λy hy=>by
   have z1:y∈x::l:=hp.mem_iff.2 (by simp[hy]);have a1:y.lo<=x.lo:=(yT.1 h2).2.2 y hy x (by simp);have a2:x.lo<=y.lo:=by
    rcases yO.1 z1 with rfl|h
    ·exact xC _
    exact(yZ.1 h1).1 y h
   exact⟨by omega,hf y z1⟩
  rw[Fu A acc x B hA (hf x (by simp))];have hb:Ni (A++B):=h2.sublist (List.Sublist.append_left (List.sublist_cons_self x B) A);exact Kh l (A++B) (Eb acc x) z6 (yZ.1 h1).2 hb (λy hy=>hf y (by simp[hy]))
def c05(s:List Iv)(x:Iv):(c0u s x).Perm (x::s):=by unfold c0u;refine vT.trans ?_;rw[xW]
def Js(s:List Iv)(x:Iv):∀j,j<=s.length->(∀k,P6 s x j<=k->k<j->∀h:k<s.length,x.lo<s[k].lo)/\(∀k,k+1=P6 s x j->∀h:k<s.length,s[k].lo<=x.lo)
 |0,_=>⟨λk _ h=>by omega,λk h=>by simp[P6]at h⟩
 |j+1,hj=>by
  obtain⟨a,b⟩:=Js s x j (by omega);have hg:g2y s j x=decide (x.lo<s[j].lo):=by simp[g2y,show j<s.length by omega]
  rw[P6,hg];by_cases h:decide (x.lo<s[j].lo)=true
  ·rw[if_pos h];refine⟨λk h1 h2 h3=>?_,b⟩;by_cases e:k=j
   ·subst e;simpa using h
   exact a k h1 (by omega) h3
  rw[if_neg h];refine⟨λk h1 h2=>by omega,λk h1 h2=>?_⟩;have e:k=j:=by omega
  subst e;simp at h;omega
def z1r(s:List Iv)(x:Iv)(hs:Ni s):Ni (c0u s x):=by
 obtain⟨a,b⟩:=Js s x s.length (zW _);have hq:=Je s x s.length;unfold c0u;generalize P6 s x s.length=q at a b hq;have z6:∀i j,i<j->∀hi:i<s.length,∀hj:j<s.length,s[i].lo<=s[j].lo:=λi j h hi hj=>yU.1 hs i j hi hj h;have z7:∀y∈s.take q,y.lo<=x.lo:=λy hy=>by
  obtain⟨i,hi,rfl⟩:=xE hy;have za:i<q:=by rw[List.length_take]at hi;omega
  rw[tP];have h1:=b (q - 1) (by omega) (by omega);by_cases e:i=q - 1
  ·subst e;exact h1
  have:=z6 i (q - 1) (by omega) (by omega) (by omega);omega
 have z8:∀y∈s.drop q,x.lo<=y.lo:=λy hy=>by obtain⟨i,hi,rfl⟩:=xE hy;rw[List.length_drop]at hi;rw[List.getElem_drop];have:=a (q+i) (by omega) (by omega) (by omega);omega
 have z1:=hs;unfold Ni at z1 |-;rw[<-xW q s,yT]at z1;obtain⟨p1,p2,p3⟩:=z1;refine yT.2 ⟨p1,yZ.2 ⟨z8,p2⟩,λy hy z hz=>?_⟩;rcases yO.1 hz with rfl|h
 ·exact z7 y hy
 exact p3 y hy z h
def Ka:∀(l acc:List Iv),Ni acc->(l.foldl c0u acc).Perm (acc++l)/\Ni (l.foldl c0u acc)
 |[],acc,h=>⟨by simp,h⟩
 |x::r,acc,h=>by obtain⟨a,b⟩:=Ka r (c0u acc x) (z1r acc x h);refine⟨a.trans ?_,b⟩;exact((c05 acc x).append_right r).trans vT.symm
def Pl(l:List Iv):(O6 l).Perm l/\Ni (O6 l):=by have:=Ka l [] .nil;simpa[O6]using this
def M(l:List Iv)(n:Int):Prop:=∃x∈l,x.lo<=n/\n<=x.hi
def Sep(l:List Iv):Prop:=(∀x∈l,x.lo<=x.hi)/\l.Pairwise (λx y=>x.hi+2<=y.lo)
def w07(n:Int):M [] n↔False:=by simp[M]
def Ey(x:Iv)(l:List Iv)(n:Int):M (x::l) n↔(x.lo<=n/\n<=x.hi)\/M l n:=by simp[M]
def Xc(a b:List Iv)(n:Int):M (a++b) n↔M a n\/M b n:=by simp[M,or_and_right,exists_or]
def w0q(l:List Iv)(n:Int):Kj l n=true↔M l n:=by simp[Kj,M]
def Sep.tail{x:Iv}{l:List Iv}(h:Sep (x::l)):Sep l:=⟨λy hy=>h.1 y (by simp[hy]),(yZ.1 h.2).2⟩
def Sep.low{x:Iv}{l:List Iv}(h:Sep (x::l)){n:Int}(hm:M l n):x.hi+2<=n:=by obtain⟨y,hy,h1,h2⟩:=hm;have:=(yZ.1 h.2).1 y hy;omega
def Sep.lowc{x:Iv}{l:List Iv}(h:Sep (x::l)){n:Int}(hm:M (x::l) n):x.lo<=n:=by
 rcases(Ey ..).1 hm with h1|h1
 ·exact h1.1
 have:=h.low h1;have:=h.1 x (by simp);omega
def q1c:∀(a b:List Iv),Sep a->Sep b->(∀n,M a n↔M b n)->a=b
 |[],[],_,_,_=>rfl
 |[],y::b,_,hb,h=>by have:=(h y.lo).2 ((Ey ..).2 (.inl ⟨xC _,hb.1 y (by simp)⟩));exact absurd this (by simp[M])
 |x::a,[],ha,_,h=>by have:=(h x.lo).1 ((Ey ..).2 (.inl ⟨xC _,ha.1 x (by simp)⟩));exact absurd this (by simp[M])
 |x::a,y::b,ha,hb,h=>by
  have hx:=ha.1 x (by simp);have hy:=hb.1 y (by simp);have e1:x.lo=y.lo:=by have h1:=hb.lowc ((h x.lo).1 ((Ey ..).2 (.inl ⟨xC _,hx⟩)));have h2:=ha.lowc ((h y.lo).2 ((Ey ..).2 (.inl ⟨xC _,hy⟩)));omega
  have e2:x.hi=y.hi:=by
   rcases tW x.hi y.hi with hlt|heq|hgt
   ·rcases(Ey ..).1 ((h (x.hi+1)).2 ((Ey ..).2 (.inl ⟨by omega,by omega⟩)))with h1|h1
    ·omega
    have:=ha.low h1;omega
   ·exact heq
   rcases(Ey ..).1 ((h (y.hi+1)).1 ((Ey ..).2 (.inl ⟨by omega,by omega⟩)))with h1|h1
   ·omega
   have:=hb.low h1;omega
  have e3:x=y:=by cases x;cases y;simp_all
  subst e3;rw[q1c a b ha.tail hb.tail λn=>⟨λhm=>?_,λhm=>?_⟩]
  ·have h1:=ha.low hm;rcases(Ey ..).1 ((h n).1 ((Ey ..).2 (.inr hm)))with h2|h2
   ·omega
   exact h2
  have h1:=hb.low hm;rcases(Ey ..).1 ((h n).2 ((Ey ..).2 (.inr hm)))with h2|h2
  ·omega
  exact h2
def Sb{l:List Iv}(h:CanonL l):Sep l:=
 ⟨λx hx=>(Nk (h.one x hx)).2,yU.2 λ_ _ hi hj z1=>Pr h z1 hj hi⟩
def Vs{l:List Iv}(h:CanonL l):∀x∈l,Dk x:=λx hx=>(Nk (h.one x hx)).1
def w2g{l:List Iv}(h:CanonL l){n:Int}(hm:M l n): -1099511627776<=n/\n<=1099511627776:=by obtain⟨x,hx,h1,h2⟩:=hm;have h3:=Vs h x hx;have h4:=(Ev _).1 h3.1;have h5:=(Ev _).1 h3.2;omega
def Jx{l:List Iv}(h:Sep l)(hi:∀x∈l,Dk x)(hl:l.length<=256):CanonL l:=
 ⟨hl,λy hy=>by
  have h1:=hi y hy;have h2:=h.1 y hy;have h4:=h1.1;have h5:=h1.2;simp[Gd,h4,h5];omega,λj hj=>yU.1 h.2 j (j+1) (by omega) hj (by omega)⟩
def j1d(acc:List Iv)(x:Iv)(ha:Sep acc)(hx:x.lo<=x.hi)(hle:∀y∈acc,y.lo<=x.lo):
  Sep (Eb acc x)/\(∀n,M (Eb acc x) n↔M acc n\/(x.lo<=n/\n<=x.hi))/\(∀z,x.lo<=z->∀y∈Eb acc x,y.lo<=z):=by
 rcases uf acc with rfl|⟨ini,y,rfl⟩
 ·have e:Eb [] x=[x]:=rfl;rw[e];exact⟨⟨λy hy=>by simp at hy;subst hy;exact hx,by simp⟩,λn=>by simp[M],λz hz y hy=>by simp at hy;subst hy;exact hz⟩
 rw[ug]at ha hle |-;rw[Eh];have hy:=ha.1 y (by simp);have z1:=hle y (by simp);obtain⟨p1,p2,p3⟩:=yT.1 ha.2;split
 ·rename_i hj;refine⟨⟨λz hz=>?_,yT.2 ⟨p1,by simp,λu hu v hv=>?_⟩⟩,λn=>?_,λz hz u hu=>?_⟩
  ·rcases yB.1 hz with h|h
   ·exact ha.1 z (by simp[h])
   simp at h;subst h;simp only;split<;>omega
  ·simp at hv;subst hv;exact p3 u hu y (by simp)
  ·rw[Xc,Xc,Ey,Ey,w07];simp only[or_false];by_cases hm:M ini n
   ·simp[hm]
   simp only[hm,false_or];split<;>omega
  rcases yB.1 hu with h|h
  ·have:=hle u (by simp[h]);omega
  simp at h;subst h;simp only;omega
 rename_i hj;refine⟨⟨λz hz=>?_,yT.2 ⟨ha.2,by simp,λu hu v hv=>?_⟩⟩,λn=>by rw[Xc,Ey,w07];simp,λz hz u hu=>?_⟩
 ·rcases yB.1 hz with h|h
  ·exact ha.1 z h
  simp at h;subst h;exact hx
 ·simp at hv;subst hv;rcases yB.1 hu with h|h
  ·have:=p3 u h y (by simp);omega
  simp at h;subst h;omega
 rcases yB.1 hu with h|h
 ·have:=hle u h;omega
 simp at h;subst h;exact hz
def Ds:∀(l acc:List Iv),Sep acc->Ni l->(∀x∈l,x.lo<=x.hi)->(∀y∈acc,∀x∈l,y.lo<=x.lo)->
  Sep (Qz acc l)/\∀n,M (Qz acc l) n↔M acc n\/M l n
 |[],acc,ha,_,_,_=>⟨ha,λn=>by simp[Qz,M]⟩
 |x::l,acc,ha,hb,hf,hle=>by have hp:=j1d acc x ha (hf x (by simp)) (λy hy=>hle y hy x (by simp));have ih:=Ds l (Eb acc x) hp.1 (yZ.1 hb).2 (λy hy=>hf y (by simp[hy])) (λy hy z hz=>hp.2.2 z.lo ((yZ.1 hb).1 z hz) y hy);refine⟨ih.1,λn=>?_⟩;have e:Qz acc (x::l)=Qz (Eb acc x) l:=rfl;rw[e,ih.2 n,hp.2.1 n,Ey,or_assoc]
def z0c:Sep []:=⟨by simp,by simp⟩
def u2a{a b:List Iv}(h:a.Perm b)(n:Int):M a n↔M b n:=by simp only[M];exact⟨λ⟨x,hx,h1⟩=>⟨x,h.mem_iff.1 hx,h1⟩,λ⟨x,hx,h1⟩=>⟨x,h.mem_iff.2 hx,h1⟩⟩
def Ih(l:List Iv)(hf:∀x∈l,x.lo<=x.hi):Sep (E5 l)/\∀n,M (E5 l) n↔M l n:=by have hs:=Pl l;have h:=Ds (O6 l) [] z0c hs.2 (λx hx=>hf x (hs.1.mem_iff.1 hx)) (by simp);refine⟨h.1,λn=>?_⟩;rw[E5,h.2 n,w07,false_or,u2a hs.1]
section
open Go Go.Proofs
end
section
open Go Go.Proofs
def R3:List Iv->Int->List Iv
 |[],n=>if n<=1099511627776 then [⟨n,1099511627776⟩]else []
 |x::r,n=>(if n<x.lo then [⟨n,x.lo - 1⟩]else [])++R3 r (x.hi+1)
def E9(l:List Iv):List Iv:=R3 l (-1099511627776)
end
section
open Go
def x16:∀(l:List Iv) (z:Int),z∈w0n l↔∃x∈l,z=x.lo\/z=x.hi+1
 |[],z=>by simp[w0n]
 |y::r,z=>by rw[w0n,yO,yO,x16 r z];simp[or_assoc]
def M7(zs:List Int)(hs:zs.Pairwise (·<=·)):∀m,m<=zs.length->
  (Lib.compactUpTo zs.toArray m).Pairwise (·<·)/\(∀z,z∈Lib.compactUpTo zs.toArray m↔z∈zs.take m):=by
 intro m;induction m with
 |zero=>exact λ_=>⟨by simp[Lib.compactUpTo],by simp[Lib.compactUpTo]⟩
 |succ m ih=>
  intro hm;obtain⟨h1,h2⟩:=ih (by omega);have z1:m<zs.length:=by omega
  have hg:zs.toArray[m]! =zs[m]:=by simp[z1]
  rw[Lib.compactUpTo_succ];have ht:zs.take (m+1)=zs.take m++[zs[m]]:=by rw[List.take_succ_eq_append_getElem z1]
  by_cases hk:Lib.keeps zs.toArray m=true
  ·rw[if_pos hk,hg,ht];refine⟨yT.2 ⟨h1,by simp,λu hu v hv=>?_⟩,λz=>by rw[yB,yB,h2]⟩;simp at hv;subst hv;obtain⟨i,hi,rfl⟩:=xE ((h2 u).1 hu);have za:i<m:=by simp at hi;omega
   rw[tP];have zb:zs[m]≠zs[m - 1]:=by
    simp[Lib.keeps]at hk;have z6:m≠0:=by omega
    have hk:=hk.resolve_left z6;simpa[z1,show m - 1<zs.length by omega]using hk
   have a1:zs[i]<=zs[m - 1]:=by
    rcases Nat.lt_or_ge i (m - 1)with h|h
    ·exact yU.1 hs i (m - 1) (by omega) (by omega) h
    have:i=m - 1:=by omega
    subst this;exact xC _
   have a2:zs[m - 1]<=zs[m]:=yU.1 hs (m - 1) m (by omega) (by omega) (by omega);omega
  rw[if_neg hk,List.append_nil,ht];refine⟨h1,λz=>?_⟩;rw[h2,yB];refine⟨.inl,λh=>h.elim id λh=>?_⟩;simp at h;subst h;simp only[Lib.keeps,decide_eq_true_eq,not_or]at hk;have z7:m - 1<zs.length:=by omega
  have z8:zs[m]=zs[m - 1]:=by simpa[z1,z7]using hk.2
  rw[z8];exact List.mem_take_iff_getElem.2 ⟨m - 1,by omega,rfl⟩
def f0t(l:List Iv):(d1d l).Pairwise (·<·)/\∀z,z∈d1d l↔∃x∈l,z=x.lo\/z=x.hi+1:=by
 have hs:(Tm (w0n l)).Pairwise (·<=·):=by have:=uz (le:=λx y:Int=>decide (x<=y)) (λa b c h1 h2=>by simp at h1 h2 |-;omega) (λa b=>by simp;omega) (w0n l);simpa[Tm]using this
 have h:=M7 _ hs _ (zW _);refine⟨h.1,λz=>?_⟩;have h2:=h.2 z;rw[yR]at h2;rw[d1d,Lib.compact,h2,Tm,tM,x16]
def y1x(l:List Iv)(cs:List Int)(h:∀x∈l,x.lo∈cs/\x.hi+1∈cs)(c n:Int)(hc:c<=n)(hm:∀d∈cs,d<=n->d<=c):Kj l n=Kj l c:=by
 rw[wB,w0q,w0q];constructor
 ·rintro⟨x,hx,h1,h2⟩;have:=hm _ (h x hx).1 h1;exact⟨x,hx,this,by omega⟩
 rintro⟨x,hx,h1,h2⟩;refine⟨x,hx,by omega,?_⟩;by_cases hn:x.hi+1<=n
 ·have:=hm _ (h x hx).2 hn;omega
 omega
def y0r{l:List Iv}(h:Sep l)(hb:∀n,M l n-> -1099511627776<=n/\n<=1099511627776):∀x∈l,Dk x:=λx hx=>
 ⟨(Ev _).2 (hb _ ⟨x,hx,xC _,h.1 x hx⟩),(Ev _).2 (hb _ ⟨x,hx,h.1 x hx,xC _⟩)⟩
def Om:∀(l:List Iv) (s:Int),(∀x∈l,x.lo<=x.hi/\x.hi<=1099511627776)->l.Pairwise (λx y=>x.hi+2<=y.lo)->(∀x∈l,s<=x.lo)->
  Sep (R3 l s)/\(∀n,M (R3 l s) n↔s<=n/\n<=1099511627776/\¬M l n)/\(R3 l s).length<=l.length+1
 |[],s,_,_,_=>by
  rw[R3];split
  ·exact⟨⟨λx hx=>by simp at hx;subst hx;assumption,by simp⟩,λn=>by rw[Ey,w07];simp[w07],by simp⟩
  exact⟨z0c,λn=>by simp[w07];omega,by simp⟩
 |x::l,s,hf,hp,hs=>by
  have hx:=hf x (by simp);have z7:=hs x (by simp);have z1:=(yZ.1 hp).1;obtain⟨i1,i2,i3⟩:=Om l (x.hi+1) (λy hy=>hf y (by simp[hy])) (yZ.1 hp).2 (λy hy=>by have:=z1 y hy;omega);have z6:∀n,M l n->x.hi+2<=n:=by rintro n ⟨y,hy,h1,h2⟩;have:=z1 y hy;omega
  rw[R3];split
  ·refine⟨⟨λy hy=>?_,?_⟩,λn=>?_,by simp;omega⟩
   ·rcases yB.1 hy with h|h
    ·simp at h;subst h;simp only;omega
    exact i1.1 y h
   ·refine yT.2 ⟨by simp,i1.2,λu hu v hv=>?_⟩;simp at hu;subst hu;have:=(i2 v.lo).1 ⟨v,hv,xC _,i1.1 v hv⟩;simp only;omega
   rw[Xc,i2,Ey,w07,Ey];by_cases hm:M l n
   ·have:=z6 n hm;simp[hm];omega
   simp only[hm,not_false_eq_true,and_true,or_false];omega
  refine⟨⟨λy hy=>i1.1 y (by simpa using hy),by simpa using i1.2⟩,λn=>?_,by simp;omega⟩;rw[List.nil_append,i2,Ey];by_cases hm:M l n
  ·simp[hm]
  simp only[hm,not_false_eq_true,and_true,or_false];omega
def Oy{l:List Iv}(h:CanonL l):Sep (E9 l)/\(∀n,M (E9 l) n↔(-1099511627776<=n/\n<=1099511627776)/\¬M l n)/\(E9 l).length<=l.length+1:=by have hs:=Sb h;have hi:=Vs h;have:=Om l (-1099511627776) (λx hx=>⟨hs.1 x hx,((Ev _).1 (hi x hx).2).2⟩) hs.2 (λx hx=>((Ev _).1 (hi x hx).1).1);exact⟨this.1,λn=>by rw[E9,this.2.1,and_assoc],this.2.2⟩
def w1h(x y:Iv):Option Iv:=if(if x.lo<y.lo then y.lo else x.lo)<=(if y.hi<x.hi then y.hi else x.hi)then some ⟨if x.lo<y.lo then y.lo else x.lo,if y.hi<x.hi then y.hi else x.hi⟩else none
def q0e(a b:List Iv):List Iv:=a.flatMap λx=>b.filterMap (w1h x)
def Mo{x y z:Iv}(h:w1h x y=some z):z.lo<=z.hi/\∀n,(z.lo<=n/\n<=z.hi)↔(x.lo<=n/\n<=x.hi)/\(y.lo<=n/\n<=y.hi):=by
 unfold w1h at h;by_cases hle:(if x.lo<y.lo then y.lo else x.lo)<=(if y.hi<x.hi then y.hi else x.hi)
 ·rw[if_pos hle]at h;cases h;refine⟨hle,λn=>?_⟩;simp only;split<;>split<;>omega
 rw[if_neg hle]at h;cases h
def k2a{x y:Iv}{n:Int}(h1:x.lo<=n/\n<=x.hi)(h2:y.lo<=n/\n<=y.hi):∃z,w1h x y=some z/\z.lo<=n/\n<=z.hi:=by
 unfold w1h;have:(if x.lo<y.lo then y.lo else x.lo)<=(if y.hi<x.hi then y.hi else x.hi):=by split<;>split<;>omega
 rw[if_pos this];refine⟨_,rfl,?_,?_⟩<;>simp only<;>split<;>omega
def Lt(a b:List Iv):(∀x∈q0e a b,x.lo<=x.hi)/\∀n,M (q0e a b) n↔M a n/\M b n:=by
 constructor
 ·intro z hz;obtain⟨x,_,hz⟩:=xZ.1 hz;obtain⟨y,_,h⟩:=wR.1 hz;exact(Mo h).1
 intro n;constructor
 ·rintro⟨z,hz,h1⟩;obtain⟨x,hx,hz⟩:=xZ.1 hz;obtain⟨y,hy,h⟩:=wR.1 hz;have:=((Mo h).2 n).1 h1;exact⟨⟨x,hx,this.1⟩,⟨y,hy,this.2⟩⟩
 rintro⟨⟨x,hx,h1⟩,⟨y,hy,h2⟩⟩;obtain⟨z,hz,h3⟩:=k2a h1 h2;exact⟨z,xZ.2 ⟨x,hx,wR.2 ⟨y,hy,hz⟩⟩,h3⟩
def Hp(a b:List Iv):List Iv:=E5 (q0e a b)
def Py(a b:List Iv):Sep (Hp a b)/\∀n,M (Hp a b) n↔M a n/\M b n:=by have h:=Ih (q0e a b) (Lt a b).1;exact⟨h.1,λn=>by rw[Hp,h.2,(Lt a b).2]⟩
end
section
open Go
def b2(b:Bool):Int:=if b=true then 1 else 0
end
section
open Go
end
section
open Go
end
section
open Go
end
abbrev Prd:=List (List Iv)
def PM(p:Prd)(t:Nat)(n:Int):Prop:=∃s,p[t]?=some s/\M s n
def inR(n:Int):Prop:= -1099511627776<=n/\n<=1099511627776
def PWf(T:Nat)(p:Prd):Prop:=p.length=T/\∀s∈p,Sep s/\∀n,M s n->inR n
def PWf.lt{T:Nat}{p:Prd}(h:PWf T p){t:Nat}{n:Int}(hm:PM p t n):t<T/\inR n:=by obtain⟨s,hs,hn⟩:=hm;exact⟨by rw[<-h.1];exact(zE.1 hs).1,(h.2 s (zL hs)).2 n hn⟩
def Il{T:Nat}{p q:Prd}(hp:PWf T p)(hq:PWf T q)(h:∀t n,PM p t n↔PM q t n):p=q:=by apply List.ext_getElem (by rw[hp.1,hq.1]);intro i h1 h2;refine q1c _ _ (hp.2 _ (zT h1)).1 (hq.2 _ (zT h2)).1 λn=>?_;have:=h i n;unfold PM at this;rw[zP h1,zP h2]at this;simpa using this
def I3(t:Nat)(n:Int)(t':Nat)(n':Int):Prop:=t<t'\/t=t'/\n<n'
def I3.irr{t:Nat}{n:Int}(h:I3 t n t n):False:=by unfold I3 at h;omega
def I3.trans{a b c:Nat}{x y z:Int}(h:I3 a x b y)(k:I3 b y c z):I3 a x c z:=by unfold I3 at *;omega
def j2q(l:List Prd)(t:Nat)(n:Int)(t':Nat)(n':Int):Prop:=∀p∈l,PM p t n↔PM p t' n'
structure Prts (T:Nat) (l L:List Prd):Prop where
 wf:∀p∈L,PWf T p
 ne:∀p∈L,∃t n,PM p t n
 all:∀t n,t<T->inR n->∃p∈L,PM p t n
 cls:∀p∈L,∀t n,PM p t n->∀t' n',PM p t' n'↔t'<T/\inR n'/\j2q l t n t' n'
def u0c(p q:Prd):Prop:=∃t n,PM p t n/\∀t' n',PM q t' n'->I3 t n t' n'
def u0c.irr{p:Prd}(h:u0c p p):False:=by obtain⟨t,n,h1,h2⟩:=h;exact(h2 t n h1).irr
def u0c.asymm{p q:Prd}(h:u0c p q)(k:u0c q p):False:=by obtain⟨t,n,h1,h2⟩:=h;obtain⟨t',n',k1,k2⟩:=k;exact((h2 t' n' k1).trans (k2 t n h1)).irr
def Prts.same{T:Nat}{l L L':List Prd}(h:Prts T l L)(h':Prts T l L'){p:Prd}(hp:p∈L):p∈L':=by
 obtain⟨t,n,hm⟩:=h.ne p hp;obtain⟨ht,hn⟩:=(h.wf p hp).lt hm;obtain⟨q,hq,z1⟩:=h'.all t n ht hn;have:p=q:=Il (h.wf p hp) (h'.wf q hq) λt' n'=>by rw[h.cls p hp t n hm,h'.cls q hq t n z1]
 rw[this];exact hq
def Prts.unique{T:Nat}{l L L':List Prd}(h:Prts T l L)(h':Prts T l L')(s:L.Pairwise u0c)(s':L'.Pairwise u0c):L=L':=by have z1:∀ {X:List Prd},X.Pairwise u0c->X.Nodup:=λhx=>hx.imp (λh e=>by subst e;exact h.irr);refine List.Perm.eq_of_pairwise (le:=u0c) (λa b _ _ h1 h2=>(h1.asymm h2).elim) s s' ?_;exact(ul (z1 s) (z1 s')).2 λp=>⟨h.same h',h'.same h⟩
def Prts.disj{T:Nat}{l L:List Prd}(h:Prts T l L){p q:Prd}(hp:p∈L)(hq:q∈L){t:Nat}{n:Int}(h1:PM p t n)(h2:PM q t n):p=q:=
 Il (h.wf p hp) (h.wf q hq) λt' n'=>by rw[h.cls p hp t n h1,h.cls q hq t n h2]
def Prts.perm{T:Nat}{l L L':List Prd}(h:Prts T l L)(e:L.Perm L'):Prts T l L':=
 ⟨λp hp=>h.wf p (e.mem_iff.2 hp),λp hp=>h.ne p (e.mem_iff.2 hp),λt n a b=>by obtain⟨p,hp,hm⟩:=h.all t n a b;exact⟨p,e.mem_iff.1 hp,hm⟩,λp hp=>h.cls p (e.mem_iff.2 hp)⟩
def Wi(T:Nat):Prd:=yH T (E9 [])
def Ee(c p:Prd):Prd:=su Hp c p
def Tk(p:Prd):Prd:=p.map E9
def Wp(p:Prd):Bool:=p.all (·.isEmpty)
def Ue(p:Prd)(L:List Prd):List Prd:=L.flatMap λc=>(if Wp (Ee c p)then []else [Ee c p])++(if Wp (Ee c (Tk p))then []else [Ee c (Tk p)])
def Po(T:Nat)(l:List Prd):List Prd:=l.foldl (λL p=>Ue p L) [Wi T]
def PCk(T:Nat)(p:Prd):Prop:=p.length=T/\∀s∈p,CanonL s
def PCk.wf{T:Nat}{p:Prd}(h:PCk T p):PWf T p:=⟨h.1,λs hs=>⟨Sb (h.2 s hs),λn hn=>w2g (h.2 s hs) hn⟩⟩
def A7:CanonL []:=⟨by simp,by simp,λj h=>by simp at h⟩
def Da(T t:Nat)(n:Int):PM (Wi T) t n↔t<T/\inR n:=by
 unfold PM Wi;have hg:=(Oy A7).2.1 n;constructor
 ·rintro⟨s,hs,hm⟩;rw[vM]at hs;split at hs
  ·cases hs;exact⟨by assumption,(hg.1 hm).1⟩
  cases hs
 rintro⟨h1,h2⟩;exact⟨E9 [],by rw[vM,if_pos h1],hg.2 ⟨h2,by simp[M]⟩⟩
def Gj(T:Nat):PWf T (Wi T):=⟨by simp[Wi],λs hs=>by
 obtain rfl:=vF hs;exact⟨(Oy A7).1,λn hn=>(((Oy A7).2.1 n).1 hn).1⟩⟩
def Ea{T:Nat}{c p:Prd}(hc:c.length=T)(hp:p.length=T)(t:Nat)(n:Int):PM (Ee c p) t n↔PM c t n/\PM p t n:=by
 unfold PM Ee;constructor
 ·rintro⟨s,hs,hm⟩;rw[vK]at hs;cases h1:c[t]? with
  |none=>rw[h1]at hs;simp at hs
  |some a=>
   cases h2:p[t]? with
   |none=>rw[h1,h2]at hs;simp at hs
   |some b=>rw[h1,h2]at hs;simp at hs;subst hs;have:=((Py a b).2 n).1 hm;exact⟨⟨a,rfl,this.1⟩,⟨b,rfl,this.2⟩⟩
 rintro⟨⟨a,h1,m1⟩,⟨b,h2,m2⟩⟩;exact⟨Hp a b,by rw[vK,h1,h2],((Py a b).2 n).2 ⟨m1,m2⟩⟩
def Ry{T:Nat}{c p:Prd}(hc:PWf T c)(hp:p.length=T):PWf T (Ee c p):=by
 refine⟨by simp[Ee,hc.1,hp],λs hs=>?_⟩;obtain⟨i,hi⟩:=yQ.1 hs;unfold Ee at hi;rw[vK]at hi;cases h1:c[i]? with
 |none=>rw[h1]at hi;simp at hi
 |some a=>
  cases h2:p[i]? with
  |none=>rw[h1,h2]at hi;simp at hi
  |some b=>rw[h1,h2]at hi;simp at hi;subst hi;exact⟨(Py a b).1,λn hn=>(hc.2 a (zL h1)).2 n (((Py a b).2 n).1 hn).1⟩
def Xl{T:Nat}{p:Prd}(hp:PCk T p)(t:Nat)(n:Int):PM (Tk p) t n↔(t<T/\inR n)/\¬PM p t n:=by
 unfold PM Tk;rw[z_];constructor
 ·rintro⟨s,hs,hm⟩;obtain⟨a,ha,rfl⟩:=zX.1 hs;have hg:=((Oy (hp.2 a (zL ha))).2.1 n).1 hm;refine⟨⟨by rw[<-hp.1];exact(zE.1 ha).1,hg.1⟩,?_⟩;rintro⟨b,hb,z1⟩;rw[ha]at hb;cases hb;exact hg.2 z1
 rintro⟨⟨h1,h2⟩,h3⟩;have hl:t<p.length:=by rw[hp.1];exact h1
 refine⟨E9 p[t],by rw[zP hl];rfl,((Oy (hp.2 _ (zT hl))).2.1 n).2 ⟨h2,λhm=>h3 ⟨_,zP hl,hm⟩⟩⟩
def Rn{T:Nat}{p:Prd}(h:PWf T p):Wp p=true↔∀t n,¬PM p t n:=by
 unfold Wp;rw[yE];constructor
 ·rintro hv t n ⟨s,hs,hm⟩;have:=hv s (zL hs);rw[tX]at this;subst this;simp[M]at hm
 intro hv s hs;obtain⟨i,hi⟩:=yQ.1 hs;cases s with
 |nil=>rfl
 |cons x s=>exact absurd ⟨_,hi,(Ey ..).2 (.inl ⟨xC _,(h.2 _ hs).1.1 x (by simp)⟩)⟩ (hv i x.lo)
def Zp{T:Nat}{l L:List Prd}{p:Prd}(h:Prts T l L)(hp:PCk T p):Prts T (l++[p]) (Ue p L):=by
 have z6:(Tk p).length=T:=by simp[Tk,hp.1]
 have z1:∀q,q∈Ue p L↔∃c∈L,((q=Ee c p)\/(q=Ee c (Tk p)))/\Wp q=false:=by
  intro q;unfold Ue;rw[xZ];constructor
  ·rintro⟨c,hc,hq⟩;refine⟨c,hc,?_⟩;rcases yB.1 hq with hq|hq
   ·split at hq
    ·cases hq
    rename_i hv;obtain rfl:=zV.1 hq;exact⟨.inl rfl,by simpa using hv⟩
   split at hq
   ·cases hq
   rename_i hv;obtain rfl:=zV.1 hq;exact⟨.inr rfl,by simpa using hv⟩
  rintro⟨c,hc,hq,hv⟩;refine⟨c,hc,yB.2 ?_⟩;rcases hq with rfl|rfl
  ·left;rw[if_neg (by rw[hv];decide)];simp
  right;rw[if_neg (by rw[hv];decide)];simp
 have z7:∀q∈Ue p L,PWf T q:=λq hq=>by
  obtain⟨c,hc,rfl|rfl,_⟩:=(z1 q).1 hq
  ·exact Ry (h.wf c hc) hp.1
  exact Ry (h.wf c hc) z6
 have zb:∀q∈Ue p L,∃t n,PM q t n:=λq hq=>by
  obtain⟨c,hc,_,hv⟩:=(z1 q).1 hq;by_cases hx:∃t n,PM q t n
  ·exact hx
  exfalso;have:Wp q=true:=(Rn (z7 q hq)).2 λt n hm=>hx ⟨t,n,hm⟩;rw[this]at hv;cases hv
 refine⟨z7,zb,λt n ht hn=>?_,λq hq t n hm t' n'=>?_⟩
 ·obtain⟨c,hc,z8⟩:=h.all t n ht hn;have hv:∀q,(q=Ee c p\/q=Ee c (Tk p))->PM q t n->q∈Ue p L:=λq hq hm=>(z1 q).2 ⟨c,hc,hq,by
   have hw:PWf T q:=by
    rcases hq with rfl|rfl
    ·exact Ry (h.wf c hc) hp.1
    exact Ry (h.wf c hc) z6
   cases hvq:Wp q with
   |false=>rfl
   |true=>exact absurd hm ((Rn hw).1 hvq t n)⟩
  by_cases za:PM p t n
  ·have:=(Ea (h.wf c hc).1 hp.1 t n).2 ⟨z8,za⟩;exact⟨_,hv _ (.inl rfl) this,this⟩
  have:=(Ea (h.wf c hc).1 z6 t n).2 ⟨z8,(Xl hp t n).2 ⟨⟨ht,hn⟩,za⟩⟩;exact⟨_,hv _ (.inr rfl) this,this⟩
 obtain⟨c,hc,zc,_⟩:=(z1 q).1 hq;have zd:j2q (l++[p]) t n t' n'↔j2q l t n t' n'/\(PM p t n↔PM p t' n'):=by
  constructor
  ·exact λhs=>⟨λr hr=>hs r (by simp[hr]),hs p (by simp)⟩
  rintro⟨h1,h2⟩ r hr;rcases yB.1 hr with hr|hr
  ·exact h1 r hr
  obtain rfl:=zV.1 hr;exact h2
 rw[zd];rcases zc with rfl|rfl
 ·obtain⟨m1,m2⟩:=(Ea (h.wf c hc).1 hp.1 t n).1 hm;rw[Ea (h.wf c hc).1 hp.1,h.cls c hc t n m1];constructor
  ·rintro⟨⟨h1,h2,h3⟩,h4⟩;exact⟨h1,h2,h3,λ_=>h4,λ_=>m2⟩
  rintro⟨h1,h2,h3,h4⟩;exact⟨⟨h1,h2,h3⟩,h4.1 m2⟩
 obtain⟨m1,m2⟩:=(Ea (h.wf c hc).1 z6 t n).1 hm;have m3:=((Xl hp t n).1 m2).2;rw[Ea (h.wf c hc).1 z6,h.cls c hc t n m1,Xl hp];constructor
 ·rintro⟨⟨h1,h2,h3⟩,h4⟩;exact⟨h1,h2,h3,λh=>absurd h m3,λh=>absurd h h4.2⟩
 rintro⟨h1,h2,h3,h4⟩;exact⟨⟨h1,h2,h3⟩,⟨h1,h2⟩,λh=>m3 (h4.2 h)⟩
def Zz(T:Nat)(hT:0<T):Prts T [] [Wi T]:=by
 refine⟨λp hp=>?_,λp hp=>?_,λt n ht hn=>?_,λp hp t n hm t' n'=>?_⟩
 ·obtain rfl:=zV.1 hp;exact Gj T
 ·obtain rfl:=zV.1 hp;exact⟨0,0,(Da T 0 0).2 ⟨hT,by unfold inR;omega⟩⟩
 ·exact⟨_,List.mem_singleton_self _,(Da T t n).2 ⟨ht,hn⟩⟩
 obtain rfl:=zV.1 hp;rw[Da];exact⟨λh=>⟨h.1,h.2,λr hr=>by cases hr⟩,λh=>⟨h.1,h.2.1⟩⟩
def q0d{T:Nat}(hT:0<T){l:List Prd}(hl:∀p∈l,PCk T p):Prts T l (Po T l):=by
 have key:∀(r d L:List Prd),Prts T d L->(∀p∈r,PCk T p)->Prts T (d++r) (r.foldl (λL p=>Ue p L) L):=by
  intro r;induction r with
  |nil=>intro d L h _;simpa using h
  |cons p r ih=>intro d L h hr;rw[xX];have:=ih (d++[p]) (Ue p L) (Zp h (hr p (by simp))) (λq hq=>hr q (by simp[hq]));simpa using this
 have:=key l [] [Wi T] (Zz T hT) hl;simpa[Po]using this
def Qy:Prd->Nat->Nat×Int
 |[],_=>(0,0)
 |(x::_)::_,i=>(i,x.lo)
 |[]::p,i=>Qy p (i+1)
def Nf(a b:Nat×Int):Bool:=decide (a.1<b.1) || (decide (a.1=b.1) && decide (a.2<b.2))
def Th(a b:Nat×Int):Nf a b=true↔I3 a.1 a.2 b.1 b.2:=by simp[Nf,I3]
def Bq:∀(p:Prd) (i:Nat),(∀s∈p,Sep s)->(∃s∈p,s≠[])->∃t x r,p[t]?=some (x::r)/\Qy p i=(i+t,x.lo)/\∀j,j<t->p[j]?=some []
 |[],_,_,⟨s,hs,_⟩=>by cases hs
 |(x::r)::p,i,_,_=>⟨0,x,r,rfl,rfl,λj hj=>by omega⟩
 |[]::p,i,h,⟨s,hs,hn⟩=>by
  have z1:s∈p:=by
   rcases yO.1 hs with rfl|hs
   ·exact absurd rfl hn
   exact hs
  obtain⟨t,x,r,h1,h2,h3⟩:=Bq p (i+1) (λs hs=>h s (by simp[hs])) ⟨s,z1,hn⟩;refine⟨t+1,x,r,by simpa using h1,by rw[Qy,h2];congr 1;omega,λj hj=>?_⟩;cases j with
  |zero=>rfl
  |succ j=>simpa using h3 j (by omega)
def W9{T:Nat}{p:Prd}(h:PWf T p)(hn:∃t n,PM p t n):PM p (Qy p 0).1 (Qy p 0).2/\∀t n,PM p t n->((Qy p 0).1=t/\(Qy p 0).2=n)\/I3 (Qy p 0).1 (Qy p 0).2 t n:=by
 obtain⟨t0,n0,s0,z1,m0⟩:=hn;have z6:s0≠[]:=λe=>by subst e;simp[M]at m0
 obtain⟨t,x,r,h1,h2,h3⟩:=Bq p 0 (λs hs=>(h.2 s hs).1) ⟨s0,zL z1,z6⟩;rw[Nat.zero_add]at h2;rw[h2];have hx:=(h.2 _ (zL h1)).1;refine⟨⟨_,h1,(Ey ..).2 (.inl ⟨xC _,hx.1 x (by simp)⟩)⟩,λt' n' hm=>?_⟩;obtain⟨s,hs,hm⟩:=hm;simp only;rcases wZ t' t with hlt|rfl|hgt
 ·rw[h3 t' hlt]at hs;cases hs;simp[M]at hm
 ·rw[h1]at hs;cases hs;have:=hx.lowc hm;unfold I3;omega
 exact .inr (.inl hgt)
def Ch{T:Nat}{p q:Prd}(hp:PWf T p)(z1:∃t n,PM p t n)(hq:PWf T q)(z6:∃t n,PM q t n)(h:I3 (Qy p 0).1 (Qy p 0).2 (Qy q 0).1 (Qy q 0).2):u0c p q:=
 ⟨_,_,(W9 hp z1).1,λt n hm=>by
  rcases(W9 hq z6).2 t n hm with⟨e1,e2⟩|h2
  ·rw[<-e1,<-e2];exact h
  exact h.trans h2⟩
def v1g(s:List Prd)(x:Prd):Nat->Nat
 |0=>0
 |j+1=>match s[j]? with
  |some y=>if Nf (Qy x 0) (Qy y 0)=true then v1g s x j else j+1
  |none=>j+1
def v1f(s:List Prd)(x:Prd):List Prd:=s.take (v1g s x s.length)++x::s.drop (v1g s x s.length)
def g1a(L:List Prd):List Prd:=L.foldl v1f []
def Mf(s:List Prd)(x:Prd):∀j,j<=s.length->v1g s x j<=j/\(∀i,v1g s x j<=i->i<j->∀h:i<s.length,Nf (Qy x 0) (Qy s[i] 0)=true)/\(∀i,i+1=v1g s x j->∀h:i<s.length,Nf (Qy x 0) (Qy s[i] 0)=false)
 |0,_=>⟨zW _,λi _ h=>by omega,λi h=>by simp[v1g]at h⟩
 |j+1,hj=>by
  have z1:j<s.length:=by omega
  rw[v1g,zP z1];simp only;by_cases hb:Nf (Qy x 0) (Qy s[j] 0)=true
  ·rw[if_pos hb];obtain⟨h1,h2,h3⟩:=Mf s x j (by omega);refine⟨by omega,λi hi z6 hl=>?_,h3⟩;by_cases hij:i=j
   ·subst hij;exact hb
   exact h2 i hi (by omega) hl
  rw[if_neg hb];refine⟨zW _,λi hi z6=>by omega,λi hi hl=>?_⟩;have:i=j:=by omega
  subst this;simpa using hb
def x1g(s:List Prd)(x:Prd):(v1f s x).Perm (x::s):=by unfold v1f;refine vT.trans ?_;rw[xW]
def Xa(p q:Prd):Prop:=I3 (Qy p 0).1 (Qy p 0).2 (Qy q 0).1 (Qy q 0).2
def z0r{s:List Prd}{x:Prd}(hs:s.Pairwise Xa)(hd:∀y∈s,Qy y 0≠Qy x 0):(v1f s x).Pairwise Xa:=by
 obtain⟨h1,h2,h3⟩:=Mf s x s.length (zW _);unfold v1f;generalize v1g s x s.length=k at *
 have z1:=hs;rw[<-xW k s]at z1;obtain⟨p1,p2,p3⟩:=yT.1 z1;have z7:∀y∈s.drop k,Xa x y:=λy hy=>by obtain⟨i,hi⟩:=yQ.1 hy;rw[List.getElem?_drop]at hi;obtain⟨hl,e⟩:=zE.1 hi;have:=h2 (k+i) (by omega) hl hl;rw[e]at this;exact(Th _ _).1 this
 have z8:∀i,i+1=k->∀h:i<s.length,Xa s[i] x:=λi hi hl=>by
  have h4:=h3 i hi hl;have zc:=hd s[i] (zT hl);unfold Xa;rcases wZ (Qy s[i] 0).1 (Qy x 0).1 with a|a|a
  ·exact .inl a
  ·rcases tW (Qy s[i] 0).2 (Qy x 0).2 with b|b|b
   ·exact .inr ⟨a,b⟩
   ·exact absurd (Prod.ext a b) zc
   have:Nf (Qy x 0) (Qy s[i] 0)=true:=(Th _ _).2 (.inr ⟨a.symm,b⟩);rw[this]at h4;cases h4
  have:Nf (Qy x 0) (Qy s[i] 0)=true:=(Th _ _).2 (.inl a);rw[this]at h4;cases h4
 have z6:∀y∈s.take k,Xa y x:=λy hy=>by
  obtain⟨i,hi⟩:=yQ.1 hy;rw[List.getElem?_take]at hi;split at hi
  ·rename_i zd;obtain⟨hl,e⟩:=zE.1 hi;obtain⟨k',rfl⟩:∃k',k=k'+1:=⟨k - 1,by omega⟩
   have za:k'<s.length:=by omega
   have zb:=z8 k' rfl za;by_cases hij:i=k'
   ·subst hij;rw[<-e];exact zb
   have:=yU.1 hs i k' hl za (by omega);rw[e]at this;exact I3.trans this zb
  cases hi
 refine yT.2 ⟨p1,yZ.2 ⟨z7,p2⟩,λy hy z hz=>?_⟩;rcases yO.1 hz with rfl|hz
 ·exact z6 y hy
 exact p3 y hy z hz
def j0g(L:List Prd)(hd:L.Pairwise (λp q=>Qy p 0≠Qy q 0)):(g1a L).Perm L/\(g1a L).Pairwise Xa:=by
 have key:∀(r s:List Prd),s.Pairwise Xa->(s++r).Pairwise (λp q=>Qy p 0≠Qy q 0)->(r.foldl v1f s).Perm (s++r)/\(r.foldl v1f s).Pairwise Xa:=by
  intro r;induction r with
  |nil=>intro s h _;simpa using h
  |cons x r ih=>intro s h hd;obtain⟨d1,d2,d3⟩:=yT.1 hd;have hi:=z0r h (λy hy=>d3 y hy x (by simp));have hp:=x1g s x;have z1:(v1f s x++r).Perm (s++x::r):=(hp.append_right r).trans (vT (l₁:=s) (a:=x) (l₂:=r)).symm;have z6:(v1f s x++r).Pairwise (λp q=>Qy p 0≠Qy q 0):=(z1.pairwise_iff (λh=>Ne.symm h)).2 hd;obtain⟨i1,i2⟩:=ih (v1f s x) hi z6;rw[xX];exact⟨i1.trans z1,i2⟩
 have h:=key L [] List.Pairwise.nil (by simpa using hd);unfold g1a;simpa using h
def Q9(T:Nat)(l:List Prd):List Prd:=g1a (Po T l)
def Mn{T:Nat}{l L:List Prd}{p:Prd}(h:Prts T l L)(hp:PCk T p)(hd:L.Pairwise (λa b=>∀t n,PM a t n->¬PM b t n)):(Ue p L).Pairwise (λa b=>∀t n,PM a t n->¬PM b t n):=by
 have z7:(Tk p).length=T:=by simp[Tk,hp.1]
 have z8:∀c∈L,∀q∈(if Wp (Ee c p)then []else [Ee c p])++(if Wp (Ee c (Tk p))then []else [Ee c (Tk p)]),∀t n,PM q t n->PM c t n:=by
  intro c hc q hq t n hm;rcases yB.1 hq with hq|hq
  ·split at hq
   ·cases hq
   obtain rfl:=zV.1 hq;exact((Ea (h.wf c hc).1 hp.1 t n).1 hm).1
  split at hq
  ·cases hq
  obtain rfl:=zV.1 hq;exact((Ea (h.wf c hc).1 z7 t n).1 hm).1
 unfold Ue;rw[vN];refine⟨λc hc=>?_,?_⟩
 ·refine yT.2 ⟨by split<;>simp,by split<;>simp,λa ha b hb t n z1 z6=>?_⟩;split at ha
  ·cases ha
  split at hb
  ·cases hb
  obtain rfl:=zV.1 ha;obtain rfl:=zV.1 hb;exact((Xl hp t n).1 ((Ea (h.wf c hc).1 z7 t n).1 z6).2).2 ((Ea (h.wf c hc).1 hp.1 t n).1 z1).2
 exact hd.imp_of_mem (λ{a b} ha hb hab x hx y hy t n z1 z6=>hab t n (z8 a ha x hx t n z1) (z8 b hb y hy t n z6))
def Mz{T:Nat}(hT:0<T){l:List Prd}(hl:∀p∈l,PCk T p):(Po T l).Pairwise (λa b=>∀t n,PM a t n->¬PM b t n):=by
 have key:∀(r d L:List Prd),Prts T d L->(∀p∈r,PCk T p)->L.Pairwise (λa b=>∀t n,PM a t n->¬PM b t n)->(r.foldl (λL p=>Ue p L) L).Pairwise (λa b=>∀t n,PM a t n->¬PM b t n):=by
  intro r;induction r with
  |nil=>intro d L _ _ h;simpa using h
  |cons p r ih=>intro d L h hr hd;rw[xX];exact ih (d++[p]) (Ue p L) (Zp h (hr p (by simp))) (λq hq=>hr q (by simp[hq])) (Mn h (hr p (by simp)) hd)
 exact key l [] [Wi T] (Zz T hT) hl (by simp)
def Im{T:Nat}(hT:0<T){l:List Prd}(hl:∀p∈l,PCk T p):Prts T l (Q9 T l)/\(Q9 T l).Pairwise u0c:=by
 have h:=q0d hT hl;have hd:(Po T l).Pairwise (λp q=>Qy p 0≠Qy q 0):=(Mz hT hl).imp_of_mem (λ{a b} ha hb hab e=>by
  have h1:=(W9 (h.wf a ha) (h.ne a ha)).1;have h2:=(W9 (h.wf b hb) (h.ne b hb)).1;rw[<-e]at h2;exact hab _ _ h1 h2)
 obtain⟨h1,h2⟩:=j0g _ hd;have h3:Prts T l (Q9 T l):=h.perm h1.symm;refine⟨h3,?_⟩;exact h2.imp_of_mem (λ{a b} ha hb hab=>Ch (h3.wf a ha) (h3.ne a ha) (h3.wf b hb) (h3.ne b hb) hab)
def Qw(l:List Prd)(i:Nat):List Iv:=l.flatMap λp=>p.getD i []
def Wc(l:List Prd)(i:Nat):List Int:=d1d (⟨-1099511627776,1099511627776⟩::Qw l i)
def Y5:List Int->List Iv
 |a::b::r=>⟨a,b - 1⟩::Y5 (b::r)
 |_=>[]
def I9(l:List Prd)(i:Nat)(n:Int):List Bool:=l.map λp=>Kj (p.getD i []) n
def It(p:Prd)(i:Nat)(x:Iv):Prd:=p.set i (p.getD i []++[x])
def Y1(T i:Nat)(sg:List Bool)(x:Iv):List (List Bool×Prd)->List (List Bool×Prd)
 |[]=>[(sg,It (yH T []) i x)]
 |(s,p)::r=>if s=sg then(s,It p i x)::r else(s,p)::Y1 T i sg x r
def Zi(T:Nat)(l:List Prd):List (Nat×Iv):=(y_ T).flatMap λi=>(Y5 (Wc l i)).map λx=>(i,x)
def Ad(T:Nat)(l:List Prd):List (List Bool×Prd):=(Zi T l).foldl (λst a=>Y1 T a.1 (I9 l a.1 a.2.lo) a.2 st) []
def Rv(p:Prd):Prd:=p.map (Qz [])
def Rg(T:Nat)(l:List Prd):List Prd:=(Ad T l).map λg=>Rv g.2
def w2p(a:Nat×Iv)(t:Nat)(n:Int):Prop:=t=a.1/\a.2.lo<=n/\n<=a.2.hi
structure GInv (T:Nat) (sig:Nat->Int->List Bool) (D:Nat->Int->Prop) (st:List (List Bool×Prd)):Prop where
 len:∀g∈st,g.2.length=T
 asc:∀g∈st,∀s∈g.2,(∀x∈s,x.lo<=x.hi)/\s.Pairwise (λx y=>x.hi<y.lo)
 mem:∀g∈st,∀t n,PM g.2 t n↔D t n/\sig t n=g.1
 ne:∀g∈st,∃t n,PM g.2 t n
 nd:st.Pairwise (λg h=>g.1≠h.1)
 all:∀t n,D t n->∃g∈st,g.1=sig t n
 ord:st.Pairwise (λg h=>∃t n,PM g.2 t n/\∀t' n',PM h.2 t' n'->I3 t n t' n')
def W4{p:Prd}{i:Nat}(h:i<p.length):p.getD i []=p[i]:=by simp[yV,h]
def c1n{T:Nat}{p:Prd}(hp:p.length=T){i:Nat}(hi:i<T)(x:Iv)(t:Nat)(n:Int):PM (It p i x) t n↔PM p t n\/w2p (i,x) t n:=by
 unfold PM It w2p;have z1:i<p.length:=by omega
 rw[W4 z1];by_cases ht:t=i
 ·subst ht;rw[zS z1,zP z1];constructor
  ·rintro⟨s,hs,hm⟩;cases hs;rcases(Xc ..).1 hm with h|h
   ·exact .inl ⟨_,rfl,h⟩
   rcases(Ey ..).1 h with h|h
   ·exact .inr ⟨rfl,h⟩
   simp[M]at h
  rintro(⟨s,hs,hm⟩|⟨_,h⟩)
  ·cases hs;exact⟨_,rfl,(Xc ..).2 (.inl hm)⟩
  exact⟨_,rfl,(Xc ..).2 (.inr ((Ey ..).2 (.inl h)))⟩
 rw[zH (by omega)];constructor
 ·exact λh=> .inl h
 rintro(h|⟨h,_⟩)
 ·exact h
 exact absurd h ht
def y1t{T:Nat}{p:Prd}(hp:p.length=T){i:Nat}(hi:i<T){x:Iv}(hx:x.lo<=x.hi)(h:∀s∈p,(∀y∈s,y.lo<=y.hi)/\s.Pairwise (λy z=>y.hi<z.lo))(z6:∀t n,PM p t n->I3 t n i x.lo):
  ∀s∈It p i x,(∀y∈s,y.lo<=y.hi)/\s.Pairwise (λy z=>y.hi<z.lo):=by
 intro s hs;have z1:i<p.length:=by omega
 rcases List.mem_or_eq_of_mem_set hs with hs|rfl
 ·exact h s hs
 rw[W4 z1];obtain⟨h1,h2⟩:=h _ (zT z1);refine⟨λy hy=>?_,yT.2 ⟨h2,by simp,λy hy z hz=>?_⟩⟩
 ·rcases yB.1 hy with hy|hy
  ·exact h1 y hy
  obtain rfl:=zV.1 hy;exact hx
 obtain rfl:=zV.1 hz;have:=z6 i y.hi ⟨_,zP z1,y,hy,h1 y hy,xC _⟩;unfold I3 at this;omega
def Pe{T i:Nat}{sg:List Bool}{x:Iv}:∀ {st:List (List Bool×Prd)},(∀g∈st,g.1≠sg)->Y1 T i sg x st=st++[(sg,It (yH T []) i x)]
 |[],_=>rfl
 |(s,p)::r,h=>by rw[Y1,if_neg (h (s,p) (by simp)),Pe (λg hg=>h g (by simp[hg]))];rfl
def D3{T i:Nat}{sg:List Bool}{x:Iv}:∀ {st:List (List Bool×Prd)},(∃g∈st,g.1=sg)->∃a p b,st=a++(sg,p)::b/\(∀g∈a,g.1≠sg)/\Y1 T i sg x st=a++(sg,It p i x)::b
 |[],⟨g,hg,_⟩=>by cases hg
 |(s,p)::r,⟨g,hg,he⟩=>by
  by_cases hs:s=sg
  ·subst hs;exact⟨[],p,r,rfl,by simp,by rw[Y1,if_pos rfl];rfl⟩
  have z1:g∈r:=by
   rcases yO.1 hg with rfl|hg
   ·exact absurd he hs
   exact hg
  obtain⟨a,q,b,h1,h2,h3⟩:=D3 (T:=T) (i:=i) (x:=x) ⟨g,z1,he⟩;refine⟨(s,p)::a,q,b,by rw[h1];rfl,λg hg=>?_,by rw[Y1,if_neg hs,h3];rfl⟩;rcases yO.1 hg with rfl|hg
  ·exact hs
  exact h2 g hg
def Xm(T t:Nat)(n:Int):¬PM (yH T []) t n:=by rintro⟨s,hs,hm⟩;obtain rfl:=vF (zL hs);simp[M]at hm
def GInv.step{T:Nat}{sig:Nat->Int->List Bool}{D:Nat->Int->Prop}{st:List (List Bool×Prd)}(h:GInv T sig D st){i:Nat}{x:Iv}(hi:i<T)(hx:x.lo<=x.hi)(hc:∀n,x.lo<=n->n<=x.hi->sig i n=sig i x.lo)(hD:∀t n,D t n->∀n',x.lo<=n'->n'<=x.hi->I3 t n i n'):
  GInv T sig (λt n=>D t n\/w2p (i,x) t n) (Y1 T i (sig i x.lo) x st):=by
 have z7:∀t n,w2p (i,x) t n->sig t n=sig i x.lo:=λt n hp=>by obtain⟨rfl,h1,h2⟩:=hp;exact hc n h1 h2
 have zb:∀t n,D t n->∀t' n',w2p (i,x) t' n'->I3 t n t' n':=λt n hd t' n' hp=>by obtain⟨rfl,h1,h2⟩:=hp;exact hD t n hd n' h1 h2
 have zc:w2p (i,x) i x.lo:=⟨rfl,xC _,hx⟩
 by_cases hit:∃g∈st,g.1=sig i x.lo
 ·obtain⟨a,p,b,h1,h2,h3⟩:=D3 (T:=T) (i:=i) (x:=x) hit;rw[h3];subst h1;generalize zh:sig i x.lo=s0 at *
  have za:(s0,p)∈a++(s0,p)::b:=by simp
  have zd:=h.mem _ za;have hlen:=h.len _ za;have zf:=h.nd;obtain⟨n1,n2,n3⟩:=yT.1 zf;obtain⟨n4,n5⟩:=yZ.1 n2;obtain⟨o1,o2,o3⟩:=yT.1 h.ord;obtain⟨o4,o5⟩:=yZ.1 o2;have z1:=λt n=>c1n hlen hi x t n;have hold:∀g∈a++(s0,It p i x)::b,(g∈a++(s0,p)::b/\g.1≠s0)\/g=(s0,It p i x):=λg hg=>by
   rcases yB.1 hg with hg|hg
   ·exact .inl ⟨by simp[hg],h2 g hg⟩
   rcases yO.1 hg with rfl|hg
   ·exact .inr rfl
   exact .inl ⟨by simp[hg],(n4 g hg).symm⟩
  refine⟨λg hg=>?_,λg hg=>?_,λg hg t n=>?_,λg hg=>?_,?_,λt n hd=>?_,?_⟩
  ·rcases hold g hg with⟨hg,_⟩|rfl
   ·exact h.len g hg
   simp[It,hlen]
  ·rcases hold g hg with⟨hg,_⟩|rfl
   ·exact h.asc g hg
   exact y1t hlen hi hx (h.asc _ za) (λt n hm=>hD t n ((zd t n).1 hm).1 x.lo (xC _) hx)
  ·rcases hold g hg with⟨hg,zg⟩|rfl
   ·rw[h.mem g hg t n];constructor
    ·exact λhh=>⟨.inl hh.1,hh.2⟩
    rintro⟨hd|hd,hs⟩
    ·exact⟨hd,hs⟩
    exact absurd (by rw[<-hs,z7 t n hd]) zg
   rw[z1,zd];constructor
   ·rintro(⟨hd,hs⟩|hd)
    ·exact⟨.inl hd,hs⟩
    exact⟨.inr hd,z7 t n hd⟩
   rintro⟨hd|hd,hs⟩
   ·exact .inl ⟨hd,hs⟩
   exact .inr hd
  ·rcases hold g hg with⟨hg,_⟩|rfl
   ·exact h.ne g hg
   exact⟨i,x.lo,(z1 i x.lo).2 (.inr zc)⟩
  ·exact yT.2 ⟨n1,yZ.2 ⟨λg hg=>n4 g hg,n5⟩,λg hg k hk=>by
    rcases yO.1 hk with rfl|hk
    ·exact h2 g hg
    exact n3 g hg k (by simp[hk])⟩
  ·rcases hd with hd|hd
   ·obtain⟨g,hg,he⟩:=h.all t n hd;rcases yB.1 hg with hg|hg
    ·exact⟨g,by simp[hg],he⟩
    rcases yO.1 hg with rfl|hg
    ·exact⟨(s0,It p i x),by simp,he⟩
    exact⟨g,by simp[hg],he⟩
   exact⟨(s0,It p i x),by simp,(z7 t n hd).symm⟩
  refine yT.2 ⟨o1,yZ.2 ⟨λg hg=>?_,o5⟩,λg hg k hk=>?_⟩
  ·obtain⟨t,n,e1,e2⟩:=o4 g hg;exact⟨t,n,(z1 t n).2 (.inl e1),e2⟩
  rcases yO.1 hk with rfl|hk
  ·obtain⟨t,n,e1,e2⟩:=o3 g hg (s0,p) (by simp);refine⟨t,n,e1,λt' n' hm=>?_⟩;rcases(z1 t' n').1 hm with hm|hm
   ·exact e2 t' n' hm
   exact zb t n ((h.mem g (by simp[hg]) t n).1 e1).1 t' n' hm
  exact o3 g hg k (by simp[hk])
 have z8:∀g∈st,g.1≠sig i x.lo:=λg hg he=>hit ⟨g,hg,he⟩;rw[Pe z8];have ze:(yH T ([]:List Iv)).length=T:=by simp
 have z1:=λt n=>c1n ze hi x t n;have z6:∀g∈st++[(sig i x.lo,It (yH T []) i x)],g∈st\/g=(sig i x.lo,It (yH T []) i x):=λg hg=>by
  rcases yB.1 hg with hg|hg
  ·exact .inl hg
  exact .inr (zV.1 hg)
 refine⟨λg hg=>?_,λg hg=>?_,λg hg t n=>?_,λg hg=>?_,?_,λt n hd=>?_,?_⟩
 ·rcases z6 g hg with hg|rfl
  ·exact h.len g hg
  simp[It]
 ·rcases z6 g hg with hg|rfl
  ·exact h.asc g hg
  exact y1t ze hi hx (λs hs=>by obtain rfl:=vF hs;simp) (λt n hm=>absurd hm (Xm T t n))
 ·rcases z6 g hg with hg|rfl
  ·rw[h.mem g hg t n];constructor
   ·exact λhh=>⟨.inl hh.1,hh.2⟩
   rintro⟨hd|hd,hs⟩
   ·exact⟨hd,hs⟩
   exact absurd (by rw[<-hs,z7 t n hd]) (z8 g hg)
  rw[z1];constructor
  ·rintro(hm|hd)
   ·exact absurd hm (Xm T t n)
   exact⟨.inr hd,z7 t n hd⟩
  rintro⟨hd|hd,hs⟩
  ·obtain⟨g,hg,he⟩:=h.all t n hd;exact absurd (he.trans hs) (z8 g hg)
  exact .inr hd
 ·rcases z6 g hg with hg|rfl
  ·exact h.ne g hg
  exact⟨i,x.lo,(z1 i x.lo).2 (.inr zc)⟩
 ·exact yT.2 ⟨h.nd,by simp,λg hg k hk=>by obtain rfl:=zV.1 hk;exact z8 g hg⟩
 ·rcases hd with hd|hd
  ·obtain⟨g,hg,he⟩:=h.all t n hd;exact⟨g,by simp[hg],he⟩
  exact⟨(sig i x.lo,It (yH T []) i x),by simp,(z7 t n hd).symm⟩
 refine yT.2 ⟨h.ord,by simp,λg hg k hk=>?_⟩;obtain rfl:=zV.1 hk;obtain⟨t,n,e1⟩:=h.ne g hg;refine⟨t,n,e1,λt' n' hm=>?_⟩;rcases(z1 t' n').1 hm with hm|hm
 ·exact absurd hm (Xm T t' n')
 exact zb t n ((h.mem g hg t n).1 e1).1 t' n' hm
def Sj:∀(cs:List Int),cs.Pairwise (·<·)->∀x∈Y5 cs,x.lo<=x.hi/\x.lo∈cs/\x.hi+1∈cs/\∀d∈cs,d<=x.hi->d<=x.lo
 |[],_,x,hx=>by simp[Y5]at hx
 |[a],_,x,hx=>by simp[Y5]at hx
 |a::b::r,h,x,hx=>by
  obtain⟨h1,h2⟩:=yZ.1 h;rw[Y5]at hx;rcases yO.1 hx with rfl|hx
  ·have z1:=h1 b (by simp);refine⟨by simp only;omega,by simp,by simp,λd hd hle=>?_⟩;simp only at hle |-;rcases yO.1 hd with rfl|hd
   ·omega
   have:b<=d:=by
    rcases yO.1 hd with rfl|hd
    ·omega
    have:=(yZ.1 h2).1 d hd;omega
   omega
  obtain⟨k1,k2,k3,k4⟩:=Sj (b::r) h2 x hx;refine⟨k1,by simp only[yO]at k2 |-;exact .inr k2,by simp only[yO]at k3 |-;exact .inr k3,λd hd hle=>?_⟩;rcases yO.1 hd with rfl|hd
  ·have:=h1 x.lo k2;omega
  exact k4 d hd hle
def y0w:∀(cs:List Int),cs.Pairwise (·<·)->(Y5 cs).Pairwise (λx y=>x.hi<y.lo)
 |[],_=>by simp[Y5]
 |[a],_=>by simp[Y5]
 |a::b::r,h=>by
  obtain⟨h1,h2⟩:=yZ.1 h;rw[Y5];refine yZ.2 ⟨λy hy=>?_,y0w (b::r) h2⟩;obtain⟨_,k2,_,_⟩:=Sj (b::r) h2 y hy;have:b<=y.lo:=by
   rcases yO.1 k2 with e|k2
   ·omega
   have:=(yZ.1 h2).1 y.lo k2;omega
  simp only;omega
def L4:∀(cs:List Int),cs.Pairwise (·<·)->∀n,(∃a∈cs,a<=n)->(∃b∈cs,n<b)->∃x∈Y5 cs,x.lo<=n/\n<=x.hi
 |[],_,n,⟨a,ha,_⟩,_=>by cases ha
 |[a],_,n,⟨c,hc,h1⟩,⟨d,hd,h2⟩=>by obtain rfl:=zV.1 hc;obtain rfl:=zV.1 hd;omega
 |a::b::r,h,n,⟨c,hc,h1⟩,⟨d,hd,h2⟩=>by
  obtain⟨p1,p2⟩:=yZ.1 h;rw[Y5];have z1:a<=n:=by
   rcases yO.1 hc with rfl|hc
   ·exact h1
   have:=p1 c hc;omega
  by_cases hb:n<b
  ·exact⟨⟨a,b - 1⟩,by simp,z1,by simp only;omega⟩
  have z6:d∈b::r:=by
   rcases yO.1 hd with rfl|hd
   ·omega
   exact hd
  obtain⟨x,hx,e⟩:=L4 (b::r) p2 n ⟨b,by simp,by omega⟩ ⟨d,z6,h2⟩;exact⟨x,by simp[hx],e⟩
def Tq{l:List Prd}{i:Nat}{x:Iv}:x∈Qw l i↔∃p∈l,x∈p.getD i []:=by simp[Qw]
def g1z{T:Nat}{p:Prd}(hp:PCk T p)(i:Nat):CanonL (p.getD i []):=by
 by_cases hi:i<p.length
 ·rw[W4 hi];exact hp.2 _ (zT hi)
 have:p.getD i []=[]:=by simp[yV,List.getElem?_eq_none (by omega:p.length<=i)]
 rw[this];exact A7
def Ys{T:Nat}{l:List Prd}(hl:∀p∈l,PCk T p)(i:Nat):(Wc l i).Pairwise (·<·)/\(-1099511627776:Int)∈Wc l i/\(1099511627777:Int)∈Wc l i/\
  (∀z∈Wc l i,-1099511627776<=z/\z<=1099511627777)/\∀p∈l,∀x∈p.getD i [],x.lo∈Wc l i/\x.hi+1∈Wc l i:=by
 obtain⟨h1,h2⟩:=f0t (⟨-1099511627776,1099511627776⟩::Qw l i);refine⟨h1,(h2 _).2 ⟨⟨-1099511627776,1099511627776⟩,by simp,.inl rfl⟩,(h2 _).2 ⟨⟨-1099511627776,1099511627776⟩,by simp,.inr (by simp)⟩,λz hz=>?_,λp hp x hx=>⟨(h2 _).2 ⟨x,?_,.inl rfl⟩,(h2 _).2 ⟨x,?_,.inr rfl⟩⟩⟩
 ·obtain⟨x,hx,e⟩:=(h2 z).1 hz;rcases yO.1 hx with rfl|hx
  ·simp only at e;omega
  obtain⟨p,hp,hx⟩:=Tq.1 hx;have hc:=g1z (hl p hp) i;have h3:=Vs hc x hx;have h4:=(Ev _).1 h3.1;have h5:=(Ev _).1 h3.2;have:=(Sb hc).1 x hx;omega
 ·exact tE _ (Tq.2 ⟨p,hp,hx⟩)
 exact tE _ (Tq.2 ⟨p,hp,hx⟩)
def c0v{T:Nat}{l:List Prd}(hl:∀p∈l,PCk T p)(i:Nat){x:Iv}(hx:x∈Y5 (Wc l i))(n:Int)(h1:x.lo<=n)(h2:n<=x.hi):I9 l i n=I9 l i x.lo:=by obtain⟨c1,_,_,_,c5⟩:=Ys hl i;obtain⟨_,_,_,k4⟩:=Sj _ c1 x hx;unfold I9;apply xH;intro p hp;exact y1x _ (Wc l i) (c5 p hp) x.lo n h1 (λd hd hle=>k4 d hd (by omega))
def Ba{T:Nat}{p:Prd}(hp:p.length=T){t:Nat}(ht:t<T)(n:Int):Kj (p.getD t []) n=true↔PM p t n:=by
 have z1:t<p.length:=by omega
 rw[W4 z1,w0q];unfold PM;rw[zP z1];simp
def c17{T:Nat}{l:List Prd}(hl:∀p∈l,PCk T p){t t':Nat}(ht:t<T)(z1:t'<T)(n n':Int):I9 l t n=I9 l t' n'↔j2q l t n t' n':=by
 unfold I9 j2q;constructor
 ·intro h p hp;have:=(List.map_inj_left.1 h) p hp;rw[<-Ba (hl p hp).1 ht,<-Ba (hl p hp).1 z1,this]
 intro h;apply xH;intro p hp;have:=h p hp;rw[<-Ba (hl p hp).1 ht,<-Ba (hl p hp).1 z1]at this;exact wB.2 this
def GInv.congr{T:Nat}{sig:Nat->Int->List Bool}{D D':Nat->Int->Prop}{st:List (List Bool×Prd)}(h:GInv T sig D st)(e:∀t n,D t n↔D' t n):GInv T sig D' st:=by have:D=D':=funext λt=>funext λn=>propext (e t n);rw[<-this];exact h
def q0b{T:Nat}{sig:Nat->Int->List Bool}:∀(A:List (Nat×Iv)) (D:Nat->Int->Prop) (st:List (List Bool×Prd)),GInv T sig D st->(∀a∈A,a.1<T/\a.2.lo<=a.2.hi/\∀n,a.2.lo<=n->n<=a.2.hi->sig a.1 n=sig a.1 a.2.lo)->
  (∀t n,D t n->∀a∈A,∀n',a.2.lo<=n'->n'<=a.2.hi->I3 t n a.1 n')->A.Pairwise (λa b=>∀n n',a.2.lo<=n->n<=a.2.hi->b.2.lo<=n'->n'<=b.2.hi->I3 a.1 n b.1 n')->
  GInv T sig (λt n=>D t n\/∃a∈A,w2p a t n) (A.foldl (λst a=>Y1 T a.1 (sig a.1 a.2.lo) a.2 st) st)
 |[],D,st,h,_,_,_=>h.congr (λt n=>by simp)
 |a::A,D,st,h,h1,h2,h3=>by
  obtain⟨i,x⟩:=a;obtain⟨e1,e2,e3⟩:=h1 (i,x) (by simp);obtain⟨p1,p2⟩:=yZ.1 h3;have hs:=h.step e1 e2 e3 (λt n hd n' q1 q2=>h2 t n hd (i,x) (by simp) n' q1 q2);rw[xX];refine(q0b A _ _ hs (λb hb=>h1 b (by simp[hb])) (λt n hd b hb n' q1 q2=>?_) p2).congr (λt n=>?_)
  ·rcases hd with hd|hd
   ·exact h2 t n hd b (by simp[hb]) n' q1 q2
   obtain⟨rfl,d1,d2⟩:=hd;exact p1 b hb n n' d1 d2 q1 q2
  simp[or_assoc]
def Jo{T:Nat}{l:List Prd}{a:Nat×Iv}:a∈Zi T l↔a.1<T/\a.2∈Y5 (Wc l a.1):=by
 unfold Zi;rw[xZ];constructor
 ·rintro⟨i,hi,h⟩;obtain⟨x,hx,rfl⟩:=zU.1 h;exact⟨xD.1 hi,hx⟩
 rintro⟨h1,h2⟩;exact⟨a.1,xD.2 h1,zU.2 ⟨a.2,h2,rfl⟩⟩
def f0z{T:Nat}{l:List Prd}(hl:∀p∈l,PCk T p):(Zi T l).Pairwise (λa b=>∀n n',a.2.lo<=n->n<=a.2.hi->b.2.lo<=n'->n'<=b.2.hi->I3 a.1 n b.1 n'):=by
 unfold Zi;rw[vN];refine⟨λi _=>?_,?_⟩
 ·rw[xS];refine(y0w _ (Ys hl i).1).imp (λ{x y} h n n' h1 h2 h3 h4=> .inr ⟨rfl,by simp only at h2 h3;omega⟩)
 refine List.pairwise_lt_range.imp (λ{i j} h a ha b hb n n' _ _ _ _=>?_);obtain⟨x,_,rfl⟩:=zU.1 ha;obtain⟨y,_,rfl⟩:=zU.1 hb;exact .inl h
def x12{T:Nat}{l:List Prd}(hl:∀p∈l,PCk T p):GInv T (I9 l) (λt n=>t<T/\inR n) (Ad T l):=by
 have h0:GInv T (I9 l) (λ_ _=>False) []:=⟨by simp,by simp,by simp,by simp,by simp,λ_ _ h=>h.elim,by simp⟩
 refine(q0b (Zi T l) _ [] h0 (λa ha=>?_) (λ_ _ h=>h.elim) (f0z hl)).congr (λt n=>?_)
 ·obtain⟨h1,h2⟩:=Jo.1 ha;exact⟨h1,(Sj _ (Ys hl a.1).1 _ h2).1,λn q1 q2=>c0v hl a.1 h2 n q1 q2⟩
 obtain⟨c1,c2,c3,c4,c5⟩:=Ys hl t;constructor
 ·rintro(h|⟨a,ha,rfl,h1,h2⟩)
  ·exact h.elim
  obtain⟨q1,q2⟩:=Jo.1 ha;obtain⟨s1,s2,s3,s4⟩:=Sj _ c1 _ q2;have:=c4 _ s2;have:=c4 _ s3;exact⟨q1,by unfold inR;omega⟩
 rintro⟨h1,h2⟩;unfold inR at h2;obtain⟨x,hx,e1,e2⟩:=L4 _ c1 n ⟨_,c2,h2.1⟩ ⟨_,c3,by omega⟩;exact .inr ⟨(t,x),Jo.2 ⟨h1,hx⟩,rfl,e1,e2⟩
def Px{s:List Iv}(h:(∀x∈s,x.lo<=x.hi)/\s.Pairwise (λx y=>x.hi<y.lo)):Sep (Qz [] s)/\∀n,M (Qz [] s) n↔M s n:=by have hb:Ni s:=h.2.imp_of_mem (λ{x y} hx hy hxy=>by have:=h.1 x hx;omega);have:=Ds s [] z0c hb h.1 (by simp);refine⟨this.1,λn=>?_⟩;rw[this.2 n];simp[M]
def Xb{T:Nat}{p:Prd}(h:∀s∈p,(∀x∈s,x.lo<=x.hi)/\s.Pairwise (λx y=>x.hi<y.lo))(t:Nat)(n:Int):PM (Rv p) t n↔PM p t n:=by
 unfold PM Rv;rw[z_];constructor
 ·rintro⟨s,hs,hm⟩;obtain⟨a,ha,rfl⟩:=zX.1 hs;exact⟨a,ha,((Px (h a (zL ha))).2 n).1 hm⟩
 rintro⟨a,ha,hm⟩;exact⟨Qz [] a,by rw[ha];rfl,((Px (h a (zL ha))).2 n).2 hm⟩
def Vu{T:Nat}{l:List Prd}(hl:∀p∈l,PCk T p):Prts T l (Rg T l)/\(Rg T l).Pairwise u0c:=by
 have h:=x12 hl;have z1:∀g∈Ad T l,∀t n,PM (Rv g.2) t n↔(t<T/\inR n)/\I9 l t n=g.1:=λg hg t n=>by rw[Xb (T:=T) (h.asc g hg),h.mem g hg]
 have z6:∀p∈Rg T l,∃g∈Ad T l,p=Rv g.2:=λp hp=>by obtain⟨g,hg,rfl⟩:=zU.1 hp;exact⟨g,hg,rfl⟩
 refine⟨⟨λp hp=>?_,λp hp=>?_,λt n ht hn=>?_,λp hp t n hm t' n'=>?_⟩,?_⟩
 ·obtain⟨g,hg,rfl⟩:=z6 p hp;refine⟨by simp[Rv,h.len g hg],λs hs=>?_⟩;obtain⟨i,hi⟩:=yQ.1 hs;have z7:=hs;obtain⟨a,ha,rfl⟩:=zU.1 hs;exact⟨(Px (h.asc g hg a ha)).1,λn hn=>((z1 g hg i n).1 ⟨_,hi,hn⟩).1.2⟩
 ·obtain⟨g,hg,rfl⟩:=z6 p hp;obtain⟨t,n,hm⟩:=h.ne g hg;exact⟨t,n,(Xb (T:=T) (h.asc g hg) t n).2 hm⟩
 ·obtain⟨g,hg,he⟩:=h.all t n ⟨ht,hn⟩;exact⟨Rv g.2,zU.2 ⟨g,hg,rfl⟩,(z1 g hg t n).2 ⟨⟨ht,hn⟩,he.symm⟩⟩
 ·obtain⟨g,hg,rfl⟩:=z6 p hp;obtain⟨⟨q1,q2⟩,q3⟩:=(z1 g hg t n).1 hm;rw[z1 g hg];constructor
  ·rintro⟨⟨h1,h2⟩,h3⟩;exact⟨h1,h2,(c17 hl q1 h1 n n').1 (q3.trans h3.symm)⟩
  rintro⟨h1,h2,h3⟩;exact⟨⟨h1,h2⟩,((c17 hl q1 h1 n n').2 h3).symm.trans q3⟩
 unfold Rg;rw[xS];refine h.ord.imp_of_mem (λ{a b} ha hb hab=>?_);obtain⟨t,n,e1,e2⟩:=hab;exact⟨t,n,(Xb (T:=T) (h.asc a ha) t n).2 e1,λt' n' hm=>e2 t' n' ((Xb (T:=T) (h.asc b hb) t' n').1 hm)⟩
def Lk{T:Nat}(hT:0<T){l:List Prd}(hl:∀p∈l,PCk T p):Rg T l=Q9 T l:=by obtain⟨a1,a2⟩:=Vu hl;obtain⟨b1,b2⟩:=Im hT hl;exact a1.unique b1 a2 b2
structure Sy where
 ty:Int
 num:Int
deriving Inhabited,DecidableEq
structure Mv where
 src:Int
 dst:Int
 on:Prd
deriving Inhabited
structure Aut where
 types:Int
 fin:List Bool
 mv:List Mv
deriving Inhabited
def Iq:Aut:=⟨0,[],[]⟩
def u0q:List (List Iv)->Int
 |[]=>0
 |s::r=>if ckR s≠0 then ckR s else u0q r
def Ra(T:Int)(p:Prd):Int:=if T<1\/16<T then 2 else if(p.length:Int)≠T then 15 else u0q p
def k0s(T:Int)(n:Nat):List Mv->Int
 |[]=>0
 |m::r=>if ¬((0<=m.src/\m.src<n)/\(0<=m.dst/\m.dst<n))then 2 else if Ra T m.on≠0 then Ra T m.on else k0s T n r
def Wd(a:Aut):Int:=if a.types<1\/16<a.types then 2 else if a.fin.length<1\/256<a.fin.length\/2048<a.mv.length then 5 else k0s a.types a.fin.length a.mv
def v0n:∀(p:List (List Iv)),u0q p=0↔∀s∈p,CanonL s
 |[]=>by simp[u0q]
 |s::r=>by
  rw[u0q];by_cases h:ckR s=0
  ·rw[if_neg (λk=>k h),v0n r];simp[(Bk s).1 h]
  rw[if_pos h];refine⟨λk=>absurd k h,λk=>absurd ((Bk s).2 (k s (by simp))) h⟩
def Ef(T:Int)(p:Prd):Ra T p=0↔(1<=T/\T<=16)/\PCk T.toNat p:=by
 unfold Ra PCk;by_cases h1:T<1\/16<T
 ·rw[if_pos h1];exact⟨λh=>by omega,λh=>by omega⟩
 rw[if_neg h1];by_cases h2:(p.length:Int)≠T
 ·rw[if_pos h2];exact⟨λh=>by omega,λh=>by omega⟩
 rw[if_neg h2,v0n];exact⟨λh=>⟨by omega,by omega,h⟩,λh=>h.2.2⟩
structure OkMv (T:Nat) (n:Nat) (m:Mv):Prop where
 src:0<=m.src/\m.src<n
 dst:0<=m.dst/\m.dst<n
 on:PCk T m.on
structure OkA (a:Aut):Prop where
 types:1<=a.types/\a.types<=16
 fin:1<=a.fin.length/\a.fin.length<=256
 mvs:a.mv.length<=2048
 mv:∀m∈a.mv,OkMv a.types.toNat a.fin.length m
def y02{T:Int}(hT:1<=T/\T<=16)(n:Nat):∀(l:List Mv),k0s T n l=0↔∀m∈l,OkMv T.toNat n m
 |[]=>by simp[k0s]
 |m::r=>by
  rw[k0s];by_cases h1:(0<=m.src/\m.src<n)/\(0<=m.dst/\m.dst<n)
  ·rw[if_neg (λk=>k h1)];by_cases h2:Ra T m.on=0
   ·rw[if_neg (λk=>k h2),y02 hT n r];have h3:=((Ef T m.on).1 h2).2;constructor
    ·intro h x hx;rcases yO.1 hx with rfl|hx
     ·exact⟨h1.1,h1.2,h3⟩
     exact h x hx
    exact λh x hx=>h x (by simp[hx])
   rw[if_pos h2];exact⟨λh=>absurd h h2,λh=>absurd ((Ef T m.on).2 ⟨hT,(h m (by simp)).on⟩) h2⟩
  rw[if_pos h1];exact⟨λh=>(by cases h),λh=>absurd ⟨(h m (by simp)).src,(h m (by simp)).dst⟩ h1⟩
def Yh(a:Aut):Wd a=0↔OkA a:=by
 unfold Wd;by_cases h1:a.types<1\/16<a.types
 ·rw[if_pos h1];exact⟨λh=>(by cases h),λh=>by have:=h.types;omega⟩
 rw[if_neg h1];by_cases h2:a.fin.length<1\/256<a.fin.length\/2048<a.mv.length
 ·rw[if_pos h2];exact⟨λh=>(by cases h),λh=>by have:=h.fin;have:=h.mvs;omega⟩
 rw[if_neg h2,y02 (by omega)];exact⟨λh=>⟨by omega,by omega,by omega,h⟩,λh=>h.mv⟩
def Ti(p:Prd)(x:Sy):Bool:=decide (0<=x.ty) && decide (x.ty<p.length) && Kj (p.getD x.ty.toNat []) x.num
def Ky(T:Int)(x:Sy):Int:=if x.ty<0\/T<=x.ty then 6 else if x.num< -1099511627776\/1099511627776<x.num then 2 else 0
def Gv(T:Int)(x:Sy):Ky T x=0↔(0<=x.ty/\x.ty<T)/\inR x.num:=by
 unfold Ky inR;split
 ·constructor
  ·intro h;cases h
  intro h;omega
 split
 ·constructor
  ·intro h;cases h
  intro h;omega
 constructor
 ·intro _;omega
 intro _;rfl
def Ep{T:Nat}{p:Prd}(hp:p.length=T)(x:Sy)(hx:0<=x.ty):Ti p x=true↔PM p x.ty.toNat x.num:=by
 unfold Ti;by_cases h:x.ty<p.length
 ·have h1:x.ty.toNat<T:=by omega
  rw[<-Ba hp h1];simp[h,hx]
 have:¬PM p x.ty.toNat x.num:=by rintro⟨s,hs,_⟩;have:=(zE.1 hs).1;omega
 simp[h,this]
def Wj(n:Nat):List Int:=(y_ n).map λi:Nat=>(i:Int)
def Wo{n:Nat}{z:Int}:z∈Wj n↔0<=z/\z<n:=by
 unfold Wj;rw[zU];constructor
 ·rintro⟨i,hi,rfl⟩;have:=xD.1 hi;omega
 rintro⟨h1,h2⟩;exact⟨z.toNat,xD.2 (by omega),by omega⟩
def S6(n:Nat):(Wj n).Pairwise (·<·):=by unfold Wj;rw[xS];exact List.pairwise_lt_range.imp (λh=>by omega)
def y2k(a:Aut)(l:List Int)(x:Sy)(j:Int):Bool:=a.mv.any λm=>l.contains m.src && Ti m.on x && decide (m.dst=j)
def Q1(a:Aut)(l:List Int)(x:Sy):List Int:=(Wj a.fin.length).filter (y2k a l x)
def y2f(a:Aut)(l:List Int)(x:Sy):List Int:=Go.Lib.compact (Tm ((a.mv.filter λm=>l.contains m.src && Ti m.on x).map (·.dst)))
def k1e(zs:List Int):(Tm zs).Pairwise (·<=·):=by have:=uz (le:=λx y:Int=>decide (x<=y)) (λa b c h1 h2=>by simp at h1 h2 |-;omega) (λa b=>by simp;omega) zs;simpa[Tm]using this
def Nt(zs:List Int):(Go.Lib.compact (Tm zs)).Pairwise (·<·)/\∀z,z∈Go.Lib.compact (Tm zs)↔z∈zs:=by have h:=M7 _ (k1e zs) _ (zW _);refine⟨h.1,λz=>?_⟩;have h2:=h.2 z;rw[yR]at h2;rw[Go.Lib.compact,h2,Tm,tM]
def Yq{a b:List Int}(ha:a.Pairwise (·<·))(hb:b.Pairwise (·<·))(h:∀z,z∈a↔z∈b):a=b:=by have hn:∀ {l:List Int},l.Pairwise (·<·)->l.Nodup:=λhl=>hl.imp (λh e=>by omega);exact List.Perm.eq_of_pairwise (le:=(·<·)) (λa b _ _ h1 h2=>by omega) ha hb ((ul (hn ha) (hn hb)).2 h)
def Ub(a:Aut)(l:List Int)(x:Sy):(Q1 a l x).Pairwise (·<·):=(S6 _).filter _
def Ws{a:Aut}{l:List Int}{x:Sy}{j:Int}:j∈Q1 a l x↔(0<=j/\j<a.fin.length)/\∃m∈a.mv,m.src∈l/\Ti m.on x=true/\m.dst=j:=by unfold Q1 y2k;rw[xT,Wo,wW];simp[and_assoc]
def x2z{a:Aut}(h:∀m∈a.mv,0<=m.dst/\m.dst<a.fin.length)(l:List Int)(x:Sy):y2f a l x=Q1 a l x:=by
 obtain⟨h1,h2⟩:=Nt ((a.mv.filter λm=>l.contains m.src && Ti m.on x).map (·.dst));refine Yq h1 (Ub a l x) λz=>?_;rw[y2f,h2,Ws];constructor
 ·intro hz;obtain⟨m,hm,rfl⟩:=zU.1 hz;obtain⟨hm,hc⟩:=xT.1 hm;simp at hc;exact⟨h m hm,m,hm,hc.1,hc.2,rfl⟩
 rintro⟨_,m,hm,c1,c2,rfl⟩;exact zU.2 ⟨m,xT.2 ⟨hm,by simp[c1,c2]⟩,rfl⟩
def Ui{a:Aut}{l:List Int}{x:Sy}:∀j∈Q1 a l x,0<=j/\j<a.fin.length:=λj hj=>(Ws.1 hj).1
def Qk(p:Prd):Sy:=⟨(Qy p 0).1,(Qy p 0).2⟩
def Zg(Q:List (List Int))(x:List Int):List (List Int):=if x=[]\/x∈Q then Q else Q++[x]
def Eg(Q:List (List Int))(xs:List (List Int)):List (List Int):=xs.foldl Zg Q
def Tt(a:Aut)(cl:List Prd)(l:List Int):List (List Int):=cl.map λc=>Q1 a l (Qk c)
def u0v(a:Aut)(cl:List Prd):Nat->Nat->List (List Int)->Option (List (List Int))
 |0,_,_=>none
 |f+1,i,Q=>match Q[i]? with
  |some l=>if 256<(Eg Q (Tt a cl l)).length then none else u0v a cl f (i+1) (Eg Q (Tt a cl l))
  |none=>some Q
def k1s(Q:List (List Int))(x:List Int):∃R,Zg Q x=Q++R/\∀y∈R,y=x/\x≠[]:=by
 unfold Zg;split
 ·exact⟨[],by simp,by simp⟩
 rename_i h;exact⟨[x],rfl,λy hy=>⟨zV.1 hy,λe=>h (.inl e)⟩⟩
def U6:∀(xs:List (List Int)) (Q:List (List Int)),∃R,Eg Q xs=Q++R/\∀y∈R,y∈xs/\y≠[]
 |[],Q=>⟨[],by simp[Eg],by simp⟩
 |x::xs,Q=>by
  obtain⟨R1,h1,h2⟩:=k1s Q x;obtain⟨R2,h3,h4⟩:=U6 xs (Zg Q x);refine⟨R1++R2,?_,λy hy=>?_⟩
  ·show Eg (Zg Q x) xs=_;rw[h3,h1,List.append_assoc]
  rcases yB.1 hy with hy|hy
  ·obtain⟨rfl,hn⟩:=h2 y hy;exact⟨by simp,hn⟩
  exact⟨by simp[(h4 y hy).1],(h4 y hy).2⟩
def j0o(Q xs:List (List Int)):Q.length<=(Eg Q xs).length:=by obtain⟨R,h,_⟩:=U6 xs Q;rw[h];simp
def j1r{Q:List (List Int)}{x:List Int}(hx:x≠[]):x∈Zg Q x:=by
 unfold Zg;split
 ·rename_i h;rcases h with h|h
  ·exact absurd h hx
  exact h
 simp
def Lp:∀ {xs:List (List Int)} {Q:List (List Int)} {x:List Int},x∈xs->x≠[]->x∈Eg Q xs
 |[],_,_,h,_=>by cases h
 |y::xs,Q,x,h,hn=>by
  show x∈Eg (Zg Q y) xs;rcases yO.1 h with rfl|h
  ·obtain⟨R,e,_⟩:=U6 xs (Zg Q x);rw[e];exact xB _ (j1r hn)
  exact Lp h hn
def R4(p q:Prd):Prd:=su (λa b=>E5 (a++b)) p q
def Sg{T:Nat}{p q:Prd}(hp:PWf T p)(hq:PWf T q)(t:Nat)(n:Int):PM (R4 p q) t n↔PM p t n\/PM q t n:=by
 have hf:∀ {a b:List Iv},a∈p->b∈q->∀x∈a++b,x.lo<=x.hi:=λha hb x hx=>by
  rcases yB.1 hx with hx|hx
  ·exact(hp.2 _ ha).1.1 x hx
  exact(hq.2 _ hb).1.1 x hx
 unfold PM R4;rw[vK];constructor
 ·rintro⟨s,hs,hm⟩;cases h1:p[t]? with
  |none=>rw[h1]at hs;simp at hs
  |some a=>
   cases h2:q[t]? with
   |none=>rw[h1,h2]at hs;simp at hs
   |some b=>
    rw[h1,h2]at hs;simp at hs;subst hs;have:=((Ih _ (hf (zL h1) (zL h2))).2 n).1 hm;rcases(Xc ..).1 this with h|h
    ·exact .inl ⟨a,rfl,h⟩
    exact .inr ⟨b,rfl,h⟩
 intro h;have z1:t<T:=by
  rcases h with⟨s,hs,_⟩|⟨s,hs,_⟩
  ·rw[<-hp.1];exact(zE.1 hs).1
  rw[<-hq.1];exact(zE.1 hs).1
 have h1:t<p.length:=by rw[hp.1];exact z1
 have h2:t<q.length:=by rw[hq.1];exact z1
 rw[zP h1,zP h2]at h |-;refine⟨_,rfl,((Ih _ (hf (zT h1) (zT h2))).2 n).2 ((Xc ..).2 ?_)⟩;rcases h with⟨s,hs,hm⟩|⟨s,hs,hm⟩
 ·cases hs;exact .inl hm
 cases hs;exact .inr hm
def J8{T:Nat}{p q:Prd}(hp:PWf T p)(hq:PWf T q):PWf T (R4 p q):=by
 refine⟨by simp[R4,hp.1,hq.1],λs hs=>?_⟩;obtain⟨i,hi⟩:=yQ.1 hs;have z1:=hi;unfold R4 at hi;rw[vK]at hi;cases h1:p[i]? with
 |none=>rw[h1]at hi;simp at hi
 |some a=>
  cases h2:q[i]? with
  |none=>rw[h1,h2]at hi;simp at hi
  |some b=>
   rw[h1,h2]at hi;simp at hi;subst hi;refine⟨(Ih _ λx hx=>?_).1,λn hn=>?_⟩
   ·rcases yB.1 hx with hx|hx
    ·exact(hp.2 _ (zL h1)).1.1 x hx
    exact(hq.2 _ (zL h2)).1.1 x hx
   rcases(Sg hp hq i n).1 ⟨_,z1,hn⟩with h|h
   ·exact(hp.lt h).2
   exact(hq.lt h).2
def f0b(Q:List (List Int))(x:List Int):Option Nat:=Q.findIdx? λy=>decide (y=x)
def J5{Q:List (List Int)}{x:List Int}{t:Nat}(h:f0b Q x=some t):Q[t]?=some x:=by unfold f0b at h;obtain⟨h1,h2,_⟩:=xV.1 h;rw[zP h1];simpa using h2
def z1a{Q:List (List Int)}(hn:Q.Nodup){t:Nat}{x:List Int}(h:Q[t]?=some x):f0b Q x=some t:=by
 unfold f0b;obtain⟨h1,h2⟩:=zE.1 h;refine xV.2 ⟨h1,by simpa using h2,λj hj=>?_⟩;have z1:Q[j]≠Q[t]:=λe=>by have:=(ua hn).1 e;omega
 rw[h2]at z1;simpa using z1
def Yi(n:Nat)(g:List Mv)(to:Nat)(c:Prd):List Mv:=match g.findIdx? λm:Mv=>decide (m.dst=(to:Int))with
 |none=>g++[⟨n,to,c⟩]
 |some i=>match g[i]? with
  |some m=>g.set i { m with on:=R4 m.on c }
  |none=>g
def Mw(a:Aut)(cl:List Prd)(Q:List (List Int))(n:Nat)(l:List Int):List Mv:=
 cl.foldl (λg c=>match f0b Q (Q1 a l (Qk c))with|some t=>Yi n g t c|none=>g) []
def w0t(a:Aut)(cl:List Prd)(Q:List (List Int)):List Mv:=(y_ Q.length).flatMap λn=>Mw a cl Q n (Q.getD n [])
def Pp(a:Aut)(l:List Int):Bool:=l.any λs=>a.fin.getD s.toNat false
def Ux(a:Aut)(cl:List Prd)(Q:List (List Int)):Aut:=⟨a.types,Q.map (Pp a),w0t a cl Q⟩
structure MInv (T N n:Nat) (D:Nat->Nat->Int->Prop) (g:List Mv):Prop where
 wf:∀m∈g,PWf T m.on
 src:∀m∈g,m.src=n
 dst:∀m∈g,∃t:Nat,t<N/\m.dst=t
 nd:g.Pairwise (λm k=>m.dst≠k.dst)
 mem:∀m∈g,∀t:Nat,m.dst=t->∀ty y,PM m.on ty y↔D t ty y
 all:∀t ty y,D t ty y->∃m∈g,m.dst=(t:Int)
def MInv.add{T N n:Nat}{D:Nat->Nat->Int->Prop}{g:List Mv}(h:MInv T N n D g){to:Nat}(ht:to<N){c:Prd}(hc:PWf T c)(zh:∃ty y,PM c ty y):
  MInv T N n (λt ty y=>D t ty y\/(t=to/\PM c ty y)) (Yi n g to c):=by
 unfold Yi;cases hf:g.findIdx? λm:Mv=>decide (m.dst=(to:Int))with
 |none=>
  rw[List.findIdx?_eq_none_iff]at hf;have z7:∀m∈g,m.dst≠(to:Int):=λm hm=>by simpa using hf m hm
  show MInv T N n _ (g++[⟨n,to,c⟩]);have z1:∀m∈g++[(⟨n,to,c⟩:Mv)],m∈g\/m=⟨n,to,c⟩:=λm hm=>by
   rcases yB.1 hm with hm|hm
   ·exact .inl hm
   exact .inr (zV.1 hm)
  have hD:∀ty y,¬D to ty y:=λty y hd=>by obtain⟨m,hm,e⟩:=h.all to ty y hd;exact z7 m hm e
  refine⟨λm hm=>?_,λm hm=>?_,λm hm=>?_,?_,λm hm t e ty y=>?_,λt ty y hd=>?_⟩
  ·rcases z1 m hm with hm|rfl
   ·exact h.wf m hm
   exact hc
  ·rcases z1 m hm with hm|rfl
   ·exact h.src m hm
   rfl
  ·rcases z1 m hm with hm|rfl
   ·exact h.dst m hm
   exact⟨to,ht,rfl⟩
  ·exact yT.2 ⟨h.nd,by simp,λm hm k hk=>by obtain rfl:=zV.1 hk;exact z7 m hm⟩
  ·rcases z1 m hm with hm'|rfl
   ·rw[h.mem m hm' t e];constructor
    ·exact λhd=> .inl hd
    rintro(hd|⟨e2,_⟩)
    ·exact hd
    exact absurd (by rw[e,e2]) (z7 m hm')
   have:t=to:=by simp at e;omega
   subst this;constructor
   ·exact λhd=> .inr ⟨rfl,hd⟩
   rintro(hd|⟨_,hd⟩)
   ·exact absurd hd (hD ty y)
   exact hd
  rcases hd with hd|⟨rfl,_⟩
  ·obtain⟨m,hm,e⟩:=h.all t ty y hd;exact⟨m,by simp[hm],e⟩
  exact⟨⟨n,t,c⟩,by simp,rfl⟩
 |some i=>
  obtain⟨hi,zf,_⟩:=xV.1 hf;simp only[zP hi];have z6:g[i].dst=(to:Int):=by simpa using zf
  have z8:=zT hi;have hw:=h.wf _ z8;have z1:∀m∈g.set i { g[i]with on:=R4 g[i].on c },(m∈g/\m.dst≠(to:Int))\/m={ g[i]with on:=R4 g[i].on c }:=λm hm=>by
   obtain⟨j,hj⟩:=yQ.1 hm;by_cases hij:i=j
   ·subst hij;rw[zS hi]at hj;exact .inr (Option.some.inj hj).symm
   rw[zH hij]at hj;obtain⟨zc,zd⟩:=zE.1 hj;refine .inl ⟨zL hj,λe=>?_⟩;rcases uX hij with hlt|hgt
   ·exact yU.1 h.nd i j hi zc hlt (by rw[zd,e,z6])
   exact yU.1 h.nd j i zc hi hgt (by rw[zd,e,z6])
  refine⟨λm hm=>?_,λm hm=>?_,λm hm=>?_,?_,λm hm t e ty y=>?_,λt ty y hd=>?_⟩
  ·rcases z1 m hm with⟨hm,_⟩|rfl
   ·exact h.wf m hm
   exact J8 hw hc
  ·rcases z1 m hm with⟨hm,_⟩|rfl
   ·exact h.src m hm
   have:=h.src g[i] z8;simpa using this
  ·rcases z1 m hm with⟨hm,_⟩|rfl
   ·exact h.dst m hm
   exact⟨to,ht,z6⟩
  ·have za:(g.set i { g[i]with on:=R4 g[i].on c }).map (·.dst)=g.map (·.dst):=by
    apply List.ext_getElem?;intro j;rw[z_,z_];by_cases hij:i=j
    ·subst hij;rw[zS hi,zP hi];rfl
    rw[zH hij]
   have hp:(g.map (·.dst)).Pairwise (·≠·):=xS.2 h.nd;rw[<-za]at hp;exact xS.1 hp
  ·rcases z1 m hm with⟨hm,zg⟩|rfl
   ·rw[h.mem m hm t e];constructor
    ·exact λhd=> .inl hd
    rintro(hd|⟨rfl,_⟩)
    ·exact hd
    exact absurd e zg
   have:t=to:=by simp only at e;omega
   subst this;have zb:=Sg hw hc ty y;have ze:=h.mem _ z8 t z6 ty y;constructor
   ·intro hd;rcases zb.1 hd with hd|hd
    ·exact .inl (ze.1 hd)
    exact .inr ⟨rfl,hd⟩
   rintro(hd|⟨_,hd⟩)
   ·exact zb.2 (.inl (ze.2 hd))
   exact zb.2 (.inr hd)
  rcases hd with hd|⟨rfl,_⟩
  ·obtain⟨m,hm,e⟩:=h.all t ty y hd;obtain⟨j,hj⟩:=yQ.1 hm;by_cases hij:i=j
   ·subst hij;rw[zP hi]at hj;cases hj;exact⟨_,zL (zS hi),e⟩
   exact⟨m,zL (by rw[zH hij];exact hj),e⟩
  exact⟨_,zL (zS hi),z6⟩
def MInv.congr{T N n:Nat}{D D':Nat->Nat->Int->Prop}{g:List Mv}(h:MInv T N n D g)(e:∀t ty y,D t ty y↔D' t ty y):MInv T N n D' g:=by have:D=D':=funext λt=>funext λty=>funext λy=>propext (e t ty y);rw[<-this];exact h
def S8{T:Nat}{a:Aut}{cl:List Prd}{Q:List (List Int)}(n:Nat)(l:List Int)(hw:∀c∈cl,PWf T c/\∃ty y,PM c ty y):
  MInv T Q.length n (λt ty y=>∃c∈cl,f0b Q (Q1 a l (Qk c))=some t/\PM c ty y) (Mw a cl Q n l):=by
 have key:∀(r:List Prd) (D:Nat->Nat->Int->Prop) (g:List Mv),MInv T Q.length n D g->(∀c∈r,PWf T c/\∃ty y,PM c ty y)->
   MInv T Q.length n (λt ty y=>D t ty y\/∃c∈r,f0b Q (Q1 a l (Qk c))=some t/\PM c ty y) (r.foldl (λg c=>match f0b Q (Q1 a l (Qk c))with|some t=>Yi n g t c|none=>g) g):=by
  intro r;induction r with
  |nil=>intro D g h _;exact h.congr (λt ty y=>by simp)
  |cons c r ih=>
   intro D g h hr;rw[xX];cases hx:f0b Q (Q1 a l (Qk c))with
   |none=>refine(ih D g h (λd hd=>hr d (by simp[hd]))).congr (λt ty y=>?_);simp[hx]
   |some to=>
    have z1:=(zE.1 (J5 hx)).1;have hc:=hr c (by simp);refine(ih _ _ (h.add z1 hc.1 hc.2) (λd hd=>hr d (by simp[hd]))).congr (λt ty y=>?_);simp only[yO,exists_eq_or_imp,hx,Option.some.injEq,or_assoc];constructor
    ·rintro(h|⟨e,h⟩|h)
     ·exact .inl h
     ·exact .inr (.inl ⟨e.symm,h⟩)
     exact .inr (.inr h)
    rintro(h|⟨e,h⟩|h)
    ·exact .inl h
    ·exact .inr (.inl ⟨e.symm,h⟩)
    exact .inr (.inr h)
 have h0:MInv T Q.length n (λ_ _ _=>False) []:=⟨by simp,by simp,by simp,by simp,by simp,λ_ _ _ h=>h.elim⟩
 exact(key cl _ [] h0 hw).congr (λt ty y=>by simp)
structure Cls (a:Aut) (cl:List Prd):Prop where
 ok:OkA a
 prts:Prts a.types.toNat (a.mv.map (·.on)) cl
 wf:∀c∈cl,PWf a.types.toNat c/\∃ty y,PM c ty y
def c1z{a:Aut}(h:OkA a):Cls a (Q9 a.types.toNat (a.mv.map (·.on))):=by
 have hT:0<a.types.toNat:=by have:=h.types;omega
 have hp:=(Im hT (l:=a.mv.map (·.on)) (λp hp=>by obtain⟨m,hm,rfl⟩:=zU.1 hp;exact(h.mv m hm).on)).1;exact⟨h,hp,λc hc=>⟨hp.wf c hc,hp.ne c hc⟩⟩
def Q8(a:Aut)(x:Sy):Prop:=(0<=x.ty/\x.ty<a.types)/\inR x.num
def u08{a:Aut}{l:List Int}{x y:Sy}(h:∀m∈a.mv,Ti m.on x=Ti m.on y):Q1 a l x=Q1 a l y:=by
 refine Yq (Ub ..) (Ub ..) λz=>?_;rw[Ws,Ws];constructor
 ·rintro⟨h1,m,hm,h2,h3,h4⟩;exact⟨h1,m,hm,h2,by rw[<-h m hm];exact h3,h4⟩
 rintro⟨h1,m,hm,h2,h3,h4⟩;exact⟨h1,m,hm,h2,by rw[h m hm];exact h3,h4⟩
def Cls.of{a:Aut}{cl:List Prd}(h:Cls a cl){x:Sy}(hx:Q8 a x):∃c∈cl,PM c x.ty.toNat x.num/\∀l,Q1 a l x=Q1 a l (Qk c):=by obtain⟨c,hc,hm⟩:=h.prts.all x.ty.toNat x.num (by have:=hx.1;omega) hx.2;refine⟨c,hc,hm,λl=>u08 λm z1=>?_⟩;have h1:=(W9 (h.wf c hc).1 (h.wf c hc).2).1;have h2:=((h.prts.cls c hc _ _ hm _ _).1 h1).2.2 m.on (zU.2 ⟨m,z1,rfl⟩);have hl:=(h.ok.mv m z1).on.1;rw[wB,Ep hl x hx.1.1,Ep hl (Qk c) (by simp[Qk])];simpa[Qk]using h2
def Cls.same{a:Aut}{cl:List Prd}(h:Cls a cl){c:Prd}(hc:c∈cl){x:Sy}(hx:Q8 a x)(hm:PM c x.ty.toNat x.num)(l:List Int):Q1 a l x=Q1 a l (Qk c):=by obtain⟨d,hd,z1,e⟩:=h.of hx;rw[e l,h.prts.disj hd hc z1 hm]
structure Sub (a:Aut) (cl:List Prd) (Q:List (List Int)):Prop where
 first:Q[0]?=some [0]
 nd:Q.Nodup
 ne:∀l∈Q,l≠[]
 lim:Q.length<=256
 elem:∀l∈Q,l.Pairwise (·<·)/\∀s∈l,0<=s/\s<a.fin.length
 closed:∀l∈Q,∀c∈cl,Q1 a l (Qk c)=[]\/Q1 a l (Qk c)∈Q
def k0h{Q:List (List Int)}{x:List Int}(h:Q.Nodup):(Zg Q x).Nodup:=by
 unfold Zg;split
 ·exact h
 rename_i hx;exact List.nodup_append.2 ⟨h,by simp,λa ha b hb e=>by
  obtain rfl:=zV.1 hb;subst e;exact hx (.inr ha)⟩
def Ft:∀(xs:List (List Int)) {Q:List (List Int)},Q.Nodup->(Eg Q xs).Nodup
 |[],_,h=>h
 |x::xs,Q,h=>Ft xs (k0h (x:=x) h)
def q1z{a:Aut}(ha:OkA a)(cl:List Prd):∀(f i:Nat) (Q R:List (List Int)),u0v a cl f i Q=some R->Q[0]?=some [0]->Q.Nodup->(∀l∈Q,l≠[])->Q.length<=256->(∀l∈Q,l.Pairwise (·<·)/\∀s∈l,0<=s/\s<a.fin.length)->
  (∀j,j<i->∀l,Q[j]?=some l->∀c∈cl,Q1 a l (Qk c)=[]\/Q1 a l (Qk c)∈Q)->Sub a cl R
 |0,_,_,_,h,_,_,_,_,_,_=>by cases h
 |f+1,i,Q,R,h,h1,h2,h3,h4,h5,h6=>by
  rw[u0v]at h;cases hq:Q[i]? with
  |none=>rw[hq]at h;simp only[Option.some.injEq]at h;subst h;have hi:Q.length<=i:=List.getElem?_eq_none_iff.1 hq;refine⟨h1,h2,h3,h4,h5,λl hl c hc=>?_⟩;obtain⟨j,hj⟩:=yQ.1 hl;exact h6 j (by have:=(zE.1 hj).1;omega) l hj c hc
  |some l=>
   rw[hq]at h;simp only at h;by_cases hlim:256<(Eg Q (Tt a cl l)).length
   ·rw[if_pos hlim]at h;cases h
   rw[if_neg hlim]at h;obtain⟨X,hX,z6⟩:=U6 (Tt a cl l) Q;have hlen:0<Q.length:=(zE.1 h1).1;have z1:∀y∈Eg Q (Tt a cl l),y∈Q\/(y≠[]/\∃c∈cl,y=Q1 a l (Qk c)):=λy hy=>by
    rw[hX]at hy;rcases yB.1 hy with hy|hy
    ·exact .inl hy
    obtain⟨p1,p2⟩:=z6 y hy;obtain⟨c,hc,rfl⟩:=zU.1 p1;exact .inr ⟨p2,c,hc,rfl⟩
   refine q1z ha cl f (i+1) _ R h ?_ (Ft _ h2) ?_ (by omega) ?_ ?_
   ·rw[hX,zI hlen];exact h1
   ·intro y hy;rcases z1 y hy with hy|⟨hy,_⟩
    ·exact h3 y hy
    exact hy
   ·intro y hy;rcases z1 y hy with hy|⟨_,c,_,rfl⟩
    ·exact h5 y hy
    exact⟨Ub ..,Ui⟩
   intro j hj k hk c hc;by_cases hji:j<i
   ·have z7:j<Q.length:=by have:=(zE.1 hq).1;omega
    rw[hX,zI z7]at hk;rcases h6 j hji k hk c hc with h7|h7
    ·exact .inl h7
    right;rw[hX];exact xB _ h7
   have:j=i:=by omega
   subst this;rw[hX,zI (zE.1 hq).1,hq]at hk;cases hk;by_cases hn:Q1 a l (Qk c)=[]
   ·exact .inl hn
   exact .inr (Lp (zU.2 ⟨c,hc,rfl⟩) hn)
def Jt(a:Aut)(cl:List Prd):Option (List (List Int)):=u0v a cl 257 0 [[0]]
def q12{a:Aut}(ha:OkA a){cl:List Prd}{Q:List (List Int)}(h:Jt a cl=some Q):Sub a cl Q:=
 q1z ha cl 257 0 [[0]] Q h rfl (by simp) (by simp) (by simp) (by intro l hl;obtain rfl:=zV.1 hl;exact⟨by simp,λs hs=>by obtain rfl:=zV.1 hs;have:=ha.fin;omega⟩) (λj hj=>by omega)
def Sub.step{a:Aut}{cl:List Prd}{Q:List (List Int)}(hs:Sub a cl Q)(hc:Cls a cl){l:List Int}(hl:l∈Q){x:Sy}(hx:Q8 a x):Q1 a l x=[]\/Q1 a l x∈Q:=by obtain⟨c,h1,_,h3⟩:=hc.of hx;rw[h3 l];exact hs.closed l hl c h1
def O1{a:Aut}{cl:List Prd}{Q:List (List Int)}{m:Mv}:m∈w0t a cl Q↔∃n l,Q[n]?=some l/\m∈Mw a cl Q n l:=by
 unfold w0t;rw[xZ];constructor
 ·rintro⟨n,hn,hm⟩;have z1:=xD.1 hn;refine⟨n,Q[n],zP z1,?_⟩;simpa[yV,z1]using hm
 rintro⟨n,l,hl,hm⟩;have z1:=(zE.1 hl).1;refine⟨n,xD.2 z1,?_⟩;simpa[yV,hl]using hm
def Gl{a:Aut}{cl:List Prd}{Q:List (List Int)}(hc:Cls a cl)(hs:Sub a cl Q){n:Nat}{l:List Int}(hl:Q[n]?=some l){x:Sy}(hx:Q8 a x)(t:Nat):
  (∃m∈w0t a cl Q,m.src=(n:Int)/\m.dst=(t:Int)/\Ti m.on x=true)↔Q[t]?=some (Q1 a l x):=by
 have hg:=S8 (a:=a) (Q:=Q) n l hc.wf;have key:f0b Q (Q1 a l x)=some t↔Q[t]?=some (Q1 a l x):=⟨J5,z1a hs.nd⟩
 rw[<-key];constructor
 ·rintro⟨m,hm,h1,h2,h3⟩;obtain⟨n',l',hl',z6⟩:=O1.1 hm;have z7:=S8 (a:=a) (Q:=Q) n' l' hc.wf;have:n'=n:=by have:=z7.src m z6;omega
  subst this;rw[hl]at hl';cases hl';rw[Ep (hg.wf m z6).1 x hx.1.1]at h3;obtain⟨c,z1,e1,e2⟩:=(hg.mem m z6 t h2 _ _).1 h3;rw[hc.same z1 hx e2];exact e1
 intro h;obtain⟨c,z1,e1,e2⟩:=hc.of hx;rw[e2]at h;obtain⟨m,hm,hd⟩:=hg.all t _ _ ⟨c,z1,h,e1⟩;refine⟨m,O1.2 ⟨n,l,hl,hm⟩,hg.src m hm,hd,?_⟩;rw[Ep (hg.wf m hm).1 x hx.1.1];exact(hg.mem m hm t hd _ _).2 ⟨c,z1,h,e1⟩
def j18{a:Aut}{cl:List Prd}{Q:List (List Int)}(hc:Cls a cl)(hs:Sub a cl Q){n:Nat}{l:List Int}(hl:Q[n]?=some l){x:Sy}(hx:Q8 a x):
  (Q1 a l x=[]/\Q1 (Ux a cl Q) [(n:Int)] x=[])\/∃t:Nat,Q[t]?=some (Q1 a l x)/\Q1 (Ux a cl Q) [(n:Int)] x=[(t:Int)]:=by
 have z1:∀j,j∈Q1 (Ux a cl Q) [(n:Int)] x↔∃t:Nat,j=t/\Q[t]?=some (Q1 a l x):=λj=>by
  rw[Ws];constructor
  ·rintro⟨⟨h1,h2⟩,m,hm,h3,h4,h5⟩;refine⟨j.toNat,by omega,(Gl hc hs hl hx j.toNat).1 ⟨m,hm,zV.1 h3,by omega,h4⟩⟩
  rintro⟨t,rfl,ht⟩;obtain⟨m,hm,h1,h2,h3⟩:=(Gl hc hs hl hx t).2 ht;have:=(zE.1 ht).1;exact⟨⟨by omega,by simp[Ux];omega⟩,m,hm,by rw[h1];simp,h3,h2⟩
 rcases hs.step hc (zL hl) hx with h0|h0
 ·refine .inl ⟨h0,vG.2 λj hj=>?_⟩;obtain⟨t,_,ht⟩:=(z1 j).1 hj;rw[h0]at ht;exact hs.ne _ (zL ht) rfl
 obtain⟨t,ht⟩:=yQ.1 h0;refine .inr ⟨t,ht,Yq (Ub ..) (by simp) λz=>?_⟩;rw[z1 z];constructor
 ·rintro⟨u,rfl,hu⟩;obtain⟨h1,h2⟩:=zE.1 ht;obtain⟨h3,h4⟩:=zE.1 hu;have:u=t:=(ua hs.nd).1 (by rw[h4,h2]);simp[this]
 intro hz;exact⟨t,zV.1 hz,ht⟩
def O0(a:Aut)(l:List Int)(w:List Sy):List Int:=w.foldl (Q1 a) l
def Ro(a:Aut)(w:List Sy):Bool:=Pp a (O0 a [0] w)
def q0x(a:Aut):∀w,O0 a [] w=[]
 |[]=>rfl
 |x::w=>by
  show O0 a (Q1 a [] x) w=[]
  have:Q1 a [] x=[]:=vG.2 λj hj=>by obtain⟨_,m,_,h,_⟩:=Ws.1 hj;cases h
  rw[this,q0x a w]
def z1x{a:Aut}{cl:List Prd}{Q:List (List Int)}(hc:Cls a cl)(hs:Sub a cl Q):∀(w:List Sy),(∀x∈w,Q8 a x)->∀(n:Nat) (l:List Int),Q[n]?=some l->
  (O0 a l w=[]/\O0 (Ux a cl Q) [(n:Int)] w=[])\/∃t:Nat,Q[t]?=some (O0 a l w)/\O0 (Ux a cl Q) [(n:Int)] w=[(t:Int)]
 |[],_,n,l,hl=> .inr ⟨n,hl,rfl⟩
 |x::w,hw,n,l,hl=>by
  show(O0 a (Q1 a l x) w=[]/\O0 (Ux a cl Q) (Q1 (Ux a cl Q) [(n:Int)] x) w=[])\/∃t:Nat,Q[t]?=some (O0 a (Q1 a l x) w)/\O0 (Ux a cl Q) (Q1 (Ux a cl Q) [(n:Int)] x) w=[(t:Int)]
  rcases j18 hc hs hl (hw x (by simp))with⟨h1,h2⟩|⟨t,h1,h2⟩
  ·rw[h1,h2];exact .inl ⟨q0x _ _,q0x _ _⟩
  rw[h2];exact z1x hc hs w (λy hy=>hw y (by simp[hy])) t _ h1
def x2m{a:Aut}{cl:List Prd}{Q:List (List Int)}(hc:Cls a cl)(hs:Sub a cl Q){w:List Sy}(hw:∀x∈w,Q8 a x):Ro (Ux a cl Q) w=Ro a w:=by
 unfold Ro;rcases z1x hc hs w hw 0 [0] hs.first with⟨h1,h2⟩|⟨t,h1,h2⟩
 ·have z1:O0 (Ux a cl Q) [0] w=[]:=h2;rw[h1,z1];rfl
 have z1:O0 (Ux a cl Q) [0] w=[(t:Int)]:=h2;rw[z1];simp only[Pp,Ux,List.any_cons,List.any_nil,Bool.or_false,Int.toNat_natCast,yV,z_,h1,Option.map_some,Option.getD_some]
def Ah(a:Aut):Prop:=a.mv.Pairwise (λm k=>m.src=k.src->∀x:Sy,Q8 a x->¬(Ti m.on x=true/\Ti k.on x=true))
def j06{a:Aut}{cl:List Prd}{Q:List (List Int)}(hc:Cls a cl)(hs:Sub a cl Q):Ah (Ux a cl Q):=by
 unfold Ah;show(w0t a cl Q).Pairwise _;unfold w0t;rw[vN];constructor
 ·intro n hn;have z1:=xD.1 hn;have hl:Q[n]?=some Q[n]:=zP z1;have hg:Q.getD n []=Q[n]:=by simp[yV,z1]
  rw[hg];have hi:=S8 (a:=a) (Q:=Q) n Q[n] hc.wf;refine hi.nd.imp_of_mem (λ{m k} hm hk hne _ x hx=>?_);rintro⟨h1,h2⟩;obtain⟨t1,_,e1⟩:=hi.dst m hm;obtain⟨t2,_,e2⟩:=hi.dst k hk;have z6:Q8 a x:=hx;have d1:=(Gl hc hs hl z6 t1).1 ⟨m,O1.2 ⟨n,_,hl,hm⟩,hi.src m hm,e1,h1⟩;have d2:=(Gl hc hs hl z6 t2).1 ⟨k,O1.2 ⟨n,_,hl,hk⟩,hi.src k hk,e2,h2⟩;obtain⟨p1,p2⟩:=zE.1 d1;obtain⟨p3,p4⟩:=zE.1 d2;have:t1=t2:=(ua hs.nd).1 (by rw[p2,p4]);exact hne (by rw[e1,e2,this])
 refine List.pairwise_lt_range.imp (λ{i j} hij m hm k hk e=>?_);exfalso;have h1:∀n m,m∈Mw a cl Q n (Q.getD n [])->m.src=(n:Int):=λn m hm=>(S8 (a:=a) (Q:=Q) n _ hc.wf).src m hm;have:=h1 i m hm;have:=h1 j k hk;omega
def Jb{l:List Iv}(h:Sep l)(hb:∀n,M l n->inR n):Sep (E9 l)/\(∀n,M (E9 l) n↔inR n/\¬M l n)/\(E9 l).length<=l.length+1:=by
 have z1:∀x∈l,inR x.lo/\inR x.hi:=λx hx=>⟨hb _ ⟨x,hx,xC _,h.1 x hx⟩,hb _ ⟨x,hx,h.1 x hx,xC _⟩⟩
 have:=Om l (-1099511627776) (λx hx=>⟨h.1 x hx,(z1 x hx).2.2⟩) h.2 (λx hx=>(z1 x hx).1.1);exact⟨this.1,λn=>by rw[E9,this.2.1,inR,and_assoc],this.2.2⟩
def Gi{T:Nat}{p:Prd}(hp:PWf T p)(t:Nat)(n:Int):PM (Tk p) t n↔(t<T/\inR n)/\¬PM p t n:=by
 unfold PM Tk;rw[z_];constructor
 ·rintro⟨s,hs,hm⟩;obtain⟨a,ha,rfl⟩:=zX.1 hs;have hw:=hp.2 a (zL ha);have hg:=((Jb hw.1 hw.2).2.1 n).1 hm;refine⟨⟨by rw[<-hp.1];exact(zE.1 ha).1,hg.1⟩,?_⟩;rintro⟨b,hb,z1⟩;rw[ha]at hb;cases hb;exact hg.2 z1
 rintro⟨⟨h1,h2⟩,h3⟩;have hl:t<p.length:=by rw[hp.1];exact h1
 have hw:=hp.2 _ (zT hl);exact⟨E9 p[t],by rw[zP hl];rfl,((Jb hw.1 hw.2).2.1 n).2 ⟨h2,λhm=>h3 ⟨_,zP hl,hm⟩⟩⟩
def Cj{T:Nat}{p:Prd}(hp:PWf T p):PWf T (Tk p):=⟨by simp[Tk,hp.1],λs hs=>by
 obtain⟨a,ha,rfl⟩:=zU.1 hs;have hw:=hp.2 a ha;exact⟨(Jb hw.1 hw.2).1,λn hn=>(((Jb hw.1 hw.2).2.1 n).1 hn).1⟩⟩
def Uw(T:Nat)(ps:List Prd):Prd:=(y_ T).map λi=>E5 (Qw ps i)
def Vq{T:Nat}{ps:List Prd}(h:∀p∈ps,PWf T p)(i:Nat):∀x∈Qw ps i,x.lo<=x.hi:=λx hx=>by
 obtain⟨p,hp,hx⟩:=Tq.1 hx;have hm:p.getD i []=[]\/p.getD i []∈p:=by
  by_cases hi:i<p.length
  ·exact .inr (by rw[W4 hi];exact zT hi)
  exact .inl (by simp[yV,hi])
 rcases hm with e|hm
 ·rw[e]at hx;cases hx
 exact((h p hp).2 _ hm).1.1 x hx
def Fp{T:Nat}{ps:List Prd}(h:∀p∈ps,PWf T p)(t:Nat)(n:Int):PM (Uw T ps) t n↔∃p∈ps,PM p t n:=by
 unfold PM Uw;rw[z_];constructor
 ·rintro⟨s,hs,hm⟩;obtain⟨i,hi,rfl⟩:=zX.1 hs;obtain⟨z6,e⟩:=zE.1 hi;rw[List.getElem_range]at e;subst e;obtain⟨x,hx,h1⟩:=((Ih _ (Vq h t)).2 n).1 hm;obtain⟨p,hp,hx⟩:=Tq.1 hx;have ht:t<T:=by simpa using z6
  have z1:t<p.length:=by rw[(h p hp).1];exact ht
  rw[W4 z1]at hx;exact⟨p,hp,p[t],zP z1,x,hx,h1⟩
 rintro⟨p,hp,s,hs,x,hx,h1⟩;obtain⟨z1,e⟩:=zE.1 hs;have ht:t<T:=by rw[<-(h p hp).1];exact z1
 refine⟨E5 (Qw ps t),by simp[ht],((Ih _ (Vq h t)).2 n).2 ⟨x,Tq.2 ⟨p,hp,?_⟩,h1⟩⟩;rw[W4 z1,e];exact hx
def P4{T:Nat}{ps:List Prd}(h:∀p∈ps,PWf T p):PWf T (Uw T ps):=by
 refine⟨by simp[Uw],λs hs=>?_⟩;obtain⟨i,hi,rfl⟩:=zU.1 hs;refine⟨(Ih _ (Vq h i)).1,λn hn=>?_⟩;have:PM (Uw T ps) i n:=⟨E5 (Qw ps i),by simp[Uw,xD.1 hi],hn⟩
 obtain⟨p,hp,hm⟩:=(Fp h i n).1 this;exact((h p hp).lt hm).2
def y27{T:Nat}{c:Prd}(h:PWf T c):Uw T [c]=c:=
 Il (P4 (by simpa using h)) h λt n=>by rw[Fp (by simpa using h)];simp
def w20{T:Nat}{p q:Prd}(hp:PWf T p)(hq:PWf T q):Uw T [p,q]=R4 p q:=by
 have h:∀x∈[p,q],PWf T x:=λx hx=>by
  rcases yO.1 hx with rfl|hx
  ·exact hp
  obtain rfl:=zV.1 hx;exact hq
 exact Il (P4 h) (J8 hp hq) λt n=>by rw[Fp h,Sg hp hq];simp
def Cp(a:Aut)(s:Int):List Prd:=(a.mv.filter λm=>decide (m.src=s)).map (·.on)
def W3(a:Aut)(s:Int):Prd:=Tk (Uw a.types.toNat (Cp a s))
def w1e(a:Aut)(s:Int):Prd:=(Cp a s).foldl (λr p=>Ee r (Tk p)) (Wi a.types.toNat)
structure WfA (a:Aut):Prop where
 types:1<=a.types/\a.types<=16
 fin:1<=a.fin.length
 src:∀m∈a.mv,0<=m.src/\m.src<a.fin.length
 dst:∀m∈a.mv,0<=m.dst/\m.dst<a.fin.length
 on:∀m∈a.mv,PWf a.types.toNat m.on
def OkA.wfA{a:Aut}(h:OkA a):WfA a:=⟨h.types,h.fin.1,λm hm=>(h.mv m hm).src,λm hm=>(h.mv m hm).dst,λm hm=>(h.mv m hm).on.wf⟩
def Ld{a:Aut}(h:WfA a)(s:Int):∀p∈Cp a s,PWf a.types.toNat p:=λp hp=>by obtain⟨m,hm,rfl⟩:=zU.1 hp;exact h.on m (xT.1 hm).1
def Ss{a:Aut}(h:WfA a)(s:Int)(t:Nat)(n:Int):PM (W3 a s) t n↔(t<a.types.toNat/\inR n)/\∀p∈Cp a s,¬PM p t n:=by rw[W3,Gi (P4 (Ld h s)),Fp (Ld h s)];simp
def Pm{a:Aut}(h:WfA a)(s:Int):PWf a.types.toNat (W3 a s):=Cj (P4 (Ld h s))
def M6{T:Nat}:∀(l:List Prd) (r:Prd),(∀p∈l,PWf T p)->PWf T r->PWf T (l.foldl (λr p=>Ee r (Tk p)) r)/\
  ∀t n,PM (l.foldl (λr p=>Ee r (Tk p)) r) t n↔PM r t n/\∀p∈l,¬PM p t n
 |[],r,_,hr=>⟨hr,λt n=>by simp⟩
 |p::l,r,hl,hr=>by
  have hp:=hl p (by simp);obtain⟨h1,h2⟩:=M6 l (Ee r (Tk p)) (λq hq=>hl q (by simp[hq])) (Ry hr (Cj hp).1);refine⟨h1,λt n=>?_⟩;rw[xX,h2,Ea hr.1 (Cj hp).1,Gi hp];constructor
  ·rintro⟨⟨a,b,c⟩,d⟩;refine⟨a,λq hq=>?_⟩;rcases yO.1 hq with rfl|hq
   ·exact c
   exact d q hq
  rintro⟨a,d⟩;exact⟨⟨a,hr.lt a,d p (by simp)⟩,λq hq=>d q (by simp[hq])⟩
def v2n{a:Aut}(h:WfA a)(s:Int):w1e a s=W3 a s:=by obtain⟨h1,h2⟩:=M6 (Cp a s) (Wi a.types.toNat) (Ld h s) (Gj _);exact Il h1 (Pm h s) λt n=>by rw[w1e,h2,Ss h,Da]
def Bo{a:Aut}(h:WfA a)(s:Int):Wp (W3 a s)=true↔∀t n,t<a.types.toNat->inR n->∃p∈Cp a s,PM p t n:=by
 rw[Rn (Pm h s)];constructor
 ·intro hv t n ht hn;have:=hv t n;rw[Ss h]at this;by_cases hc:∃p∈Cp a s,PM p t n
  ·exact hc
  exact absurd ⟨⟨ht,hn⟩,λp hp hm=>hc ⟨p,hp,hm⟩⟩ this
 intro hv t n;rw[Ss h];rintro⟨⟨ht,hn⟩,hx⟩;obtain⟨p,hp,hm⟩:=hv t n ht hn;exact hx p hp hm
def V3(a:Aut):Bool:=decide (256<a.fin.length) || decide (2048<a.mv.length) || a.mv.any λm=>m.on.any λs=>decide (256<s.length)
def c1x{a:Aut}(h:WfA a):Wd a=0↔V3 a=false:=by
 rw[Yh];unfold V3;simp only[Bool.or_eq_false_iff,decide_eq_false_iff_not,vI,decide_eq_true_eq];constructor
 ·rintro⟨h1,h2,h3,h4⟩;exact⟨⟨by omega,by omega⟩,λm hm=>by
   simp only[uI,vI,decide_eq_true_eq];exact λs hs=>by have:=((h4 m hm).on.2 s hs).len;omega⟩
 rintro⟨⟨h1,h2⟩,h3⟩;refine⟨h.types,⟨h.fin,by omega⟩,by omega,λm hm=>⟨h.src m hm,h.dst m hm,(h.on m hm).1,λs hs=>?_⟩⟩;have hw:=(h.on m hm).2 s hs;have:=h3 m hm;simp only[uI,vI,decide_eq_true_eq]at this;exact Jx hw.1 (y0r hw.1 hw.2) (by have:=this s hs;omega)
def Zw(a:Aut):Int×Aut:=if V3 a then(5,Iq)else(0,a)
def q14{a c:Aut}(h:WfA a)(hl:Zw a=(0,c)):c=a/\OkA a:=by
 unfold Zw at hl;cases hb:V3 a
 ·rw[hb,if_neg (by simp)]at hl;exact⟨(Prod.mk.inj hl).2.symm,(Yh a).1 ((c1x h).2 hb)⟩
 rw[hb,if_pos rfl]at hl;cases(Prod.mk.inj hl).1
def x1q{a:Aut}:(Zw a).1=0\/(Zw a).1=5:=by
 unfold Zw;split
 ·exact .inr rfl
 exact .inl rfl
def Tl(a:Aut)(lack:Int->Prd):List Mv:=(y_ a.fin.length).filterMap λs:Nat=>if Wp (lack s)then none else some ⟨s,a.fin.length,lack s⟩
def I1(a:Aut):Aut:=⟨a.types,a.fin++[false],a.mv++Tl a (W3 a)++[⟨a.fin.length,a.fin.length,Wi a.types.toNat⟩]⟩
def Du(a:Aut):Int×Aut:=if(Tl a (W3 a)).isEmpty then(0,a)else Zw (I1 a)
def w06(a:Aut):Bool:=(y_ a.fin.length).all λs:Nat=>Wp (w1e a s)
def Yx{a:Aut}{lack:Int->Prd}{m:Mv}:m∈Tl a lack↔∃s:Nat,s<a.fin.length/\Wp (lack s)=false/\m=⟨s,a.fin.length,lack s⟩:=by
 unfold Tl;rw[wR];constructor
 ·rintro⟨s,hs,h⟩;cases hv:Wp (lack s)
  ·rw[hv,if_neg (by simp)]at h;cases h;exact⟨s,xD.1 hs,hv,rfl⟩
  rw[hv,if_pos rfl]at h;cases h
 rintro⟨s,hs,hv,rfl⟩;exact⟨s,xD.2 hs,by rw[hv,if_neg (by simp)]⟩
def q0h{a:Aut}{lack:Int->Prd}:Tl a lack=[]↔∀s:Nat,s<a.fin.length->Wp (lack s)=true:=by
 rw[vG];constructor
 ·intro h s hs;cases hv:Wp (lack s)
  ·exact absurd (Yx.2 ⟨s,hs,hv,rfl⟩) (h _)
  rfl
 intro h m hm;obtain⟨s,hs,hv,_⟩:=Yx.1 hm;rw[h s hs]at hv;cases hv
def c1i{a:Aut}(h:WfA a):WfA (I1 a):=by
 have z1:∀m∈(I1 a).mv,m∈a.mv\/(∃s:Nat,s<a.fin.length/\m=⟨s,a.fin.length,W3 a s⟩)\/m=⟨a.fin.length,a.fin.length,Wi a.types.toNat⟩:=λm hm=>by
  rcases yB.1 hm with hm|hm
  ·rcases yB.1 hm with hm|hm
   ·exact .inl hm
   obtain⟨s,hs,_,e⟩:=Yx.1 hm;exact .inr (.inl ⟨s,hs,e⟩)
  exact .inr (.inr (zV.1 hm))
 have hl:(I1 a).fin.length=a.fin.length+1:=by simp[I1]
 refine⟨h.types,by rw[hl];omega,λm hm=>?_,λm hm=>?_,λm hm=>?_⟩
 ·rw[hl];rcases z1 m hm with hm|⟨s,hs,rfl⟩|rfl
  ·have:=h.src m hm;omega
  ·simp only;omega
  simp only;omega
 ·rw[hl];rcases z1 m hm with hm|⟨s,hs,rfl⟩|rfl
  ·have:=h.dst m hm;omega
  ·simp only;omega
  simp only;omega
 rcases z1 m hm with hm|⟨s,hs,rfl⟩|rfl
 ·exact h.on m hm
 ·exact Pm h s
 exact Gj _
def z0x(a:Aut):Prop:=∀s:Int,0<=s->s<a.fin.length->∀x,Q8 a x->∃m∈a.mv,m.src=s/\Ti m.on x=true
def v0q{a:Aut}{x:Sy}(h:Q8 a x):x.ty.toNat<a.types.toNat/\inR x.num/\0<=x.ty:=⟨by have:=h.1;omega,h.2,h.1.1⟩
def Rh{a:Aut}(h:WfA a){m:Mv}(hm:m∈a.mv){x:Sy}(hx:Q8 a x):Ti m.on x=true↔PM m.on x.ty.toNat x.num:=Ep (h.on m hm).1 x hx.1.1
def Ci{a:Aut}{s:Int}{p:Prd}:p∈Cp a s↔∃m∈a.mv,m.src=s/\m.on=p:=by
 unfold Cp;rw[zU];constructor
 ·rintro⟨m,hm,e⟩;have:=xT.1 hm;exact⟨m,this.1,by simpa using this.2,e⟩
 rintro⟨m,hm,hs,e⟩;exact⟨m,xT.2 ⟨hm,by simpa using hs⟩,e⟩
def x0b{a:Aut}(h:WfA a):Tl a (W3 a)=[]↔z0x a:=by
 rw[q0h];constructor
 ·intro hv s h0 h1 x hx;have hs:=hv s.toNat (by omega);rw[show((s.toNat:Nat):Int)=s by omega,Bo h]at hs;obtain⟨k1,k2,_⟩:=v0q hx;obtain⟨p,hp,hm⟩:=hs _ _ k1 k2;obtain⟨m,z1,e,rfl⟩:=Ci.1 hp;exact⟨m,z1,e,(Rh h z1 hx).2 hm⟩
 intro hf s hs;rw[Bo h];intro t n ht hn;have hx:Q8 a ⟨t,n⟩:=⟨⟨by simp,by simp only;omega⟩,hn⟩
 obtain⟨m,hm,e,hh⟩:=hf s (by omega) (by omega) _ hx;exact⟨m.on,Ci.2 ⟨m,hm,e,rfl⟩,by have:=(Rh h hm hx).1 hh;simpa using this⟩
def f1i{a:Aut}(h:WfA a):z0x (I1 a):=by
 intro s h0 h1 x hx;have z1:Q8 a x:=hx;have hl:(I1 a).fin.length=a.fin.length+1:=by simp[I1]
 obtain⟨k1,k2,_⟩:=v0q z1;by_cases hs:s<a.fin.length
 ·by_cases hp:∃p∈Cp a s,PM p x.ty.toNat x.num
  ·obtain⟨p,hp,hm⟩:=hp;obtain⟨m,z6,e,rfl⟩:=Ci.1 hp;exact⟨m,xB _ (xB _ z6),e,(Rh h z6 z1).2 hm⟩
  have z7:PM (W3 a s) x.ty.toNat x.num:=(Ss h s _ _).2 ⟨⟨k1,k2⟩,λp z8 hm=>hp ⟨p,z8,hm⟩⟩;have hv:Wp (W3 a s)=false:=by
   cases hv:Wp (W3 a s)
   ·rfl
   exact absurd z7 ((Rn (Pm h s)).1 hv _ _)
  have e:((s.toNat:Nat):Int)=s:=by omega
  refine⟨⟨s,a.fin.length,W3 a s⟩,xB _ (vP _ (Yx.2 ⟨s.toNat,by omega,by rw[e];exact hv,by rw[e]⟩)),rfl,?_⟩;exact(Ep (Pm h s).1 x hx.1.1).2 z7
 refine⟨⟨a.fin.length,a.fin.length,Wi a.types.toNat⟩,vP _ (by simp),by simp only;omega,?_⟩;exact(Ep (Gj _).1 x hx.1.1).2 ((Da ..).2 ⟨k1,k2⟩)
def y2y{a:Aut}(h:WfA a)(hd:Ah a):Ah (I1 a):=by
 unfold Ah;show(a.mv++Tl a (W3 a)++[_]).Pairwise _;rw[yT,yT];refine⟨⟨hd,?_,λm hm k hk e x hx=>?_⟩,by simp,λm hm k hk e x hx=>?_⟩
 ·unfold Tl;rw[List.pairwise_filterMap];refine List.pairwise_lt_range.imp (λ{i j} hij m hm k hk e=>?_);have z1:∀(i:Nat) (m:Mv),(if Wp (W3 a i)then none else some (⟨i,a.fin.length,W3 a i⟩:Mv))=some m->m.src=i:=λi m hm=>by
   split at hm
   ·cases hm
   cases hm;rfl
  have:=z1 i m hm;have:=z1 j k hk;omega
 ·obtain⟨s,hs,_,rfl⟩:=Yx.1 hk;rintro⟨h1,h2⟩;have z6:Q8 a x:=hx;have p1:=(Rh h hm z6).1 h1;have p2:=(Ep (Pm h s).1 x hx.1.1).1 h2;exact((Ss h s _ _).1 p2).2 _ (Ci.2 ⟨m,hm,e,rfl⟩) p1
 obtain rfl:=zV.1 hk;exfalso;have e':m.src=(a.fin.length:Int):=e;rcases yB.1 hm with hm|hm
 ·have:=h.src m hm;omega
 obtain⟨s,hs,_,rfl⟩:=Yx.1 hm;simp only at e';omega
def u17{a:Aut}(h:WfA a){l l':List Int}(hl:∀j:Int,j<a.fin.length->(j∈l'↔j∈l))(x:Sy):∀j:Int,j<a.fin.length->(j∈Q1 (I1 a) l' x↔j∈Q1 a l x):=by
 intro j hj;rw[Ws,Ws];have hlen:(I1 a).fin.length=a.fin.length+1:=by simp[I1]
 constructor
 ·rintro⟨h1,m,hm,h2,h3,h4⟩;rcases yB.1 hm with hm|hm
  ·rcases yB.1 hm with hm|hm
   ·exact⟨⟨h1.1,hj⟩,m,hm,(hl _ (h.src m hm).2).1 h2,h3,h4⟩
   obtain⟨s,hs,_,rfl⟩:=Yx.1 hm;simp only at h4;omega
  obtain rfl:=zV.1 hm;simp only at h4;omega
 rintro⟨h1,m,hm,h2,h3,h4⟩;exact⟨⟨h1.1,by omega⟩,m,xB _ (xB _ hm),(hl _ (h.src m hm).2).2 h2,h3,h4⟩
def z1y{a:Aut}(h:WfA a):∀(w:List Sy) (l l':List Int),(∀j:Int,j<a.fin.length->(j∈l'↔j∈l))->∀j:Int,j<a.fin.length->(j∈O0 (I1 a) l' w↔j∈O0 a l w)
 |[],_,_,hl=>hl
 |x::w,_,_,hl=>z1y h w _ _ (u17 h hl x)
def runIn{a:Aut}:∀(w:List Sy) (l:List Int),(∀j∈l,0<=j/\j<a.fin.length)->∀j∈O0 a l w,0<=j/\j<a.fin.length
 |[],_,hl=>hl
 |x::w,_,_=>runIn w _ (λ_ hj=>Ui _ hj)
def w0i{a:Aut}(h:WfA a):∀j∈[(0:Int)],0<=j/\j<a.fin.length:=λj hj=>by obtain rfl:=zV.1 hj;have:=h.fin;omega
def Cg{a:Aut}{l:List Int}:Pp a l=true↔∃s∈l,a.fin.getD s.toNat false=true:=by rw[Pp,wW]
def y22{a:Aut}(h:WfA a)(w:List Sy):Ro (I1 a) w=Ro a w:=by
 unfold Ro;rw[wB,Cg,Cg];have hr:=z1y h w [0] [0] (λ_ _=>Iff.rfl);have z7:=runIn w _ (w0i (c1i h));have z6:=runIn w _ (w0i h);have hlen:(I1 a).fin.length=a.fin.length+1:=by simp[I1]
 have z1:∀s:Int,0<=s->s<a.fin.length->(I1 a).fin.getD s.toNat false=a.fin.getD s.toNat false:=λs h0 h1=>by simp only[I1,List.getD_eq_getElem?_getD];rw[zI (by omega)]
 constructor
 ·rintro⟨s,hs,hf⟩;have:=z7 s hs;by_cases hlt:s<a.fin.length
  ·exact⟨s,(hr s hlt).1 hs,by rw[<-z1 s this.1 hlt];exact hf⟩
  have:s.toNat=a.fin.length:=by omega
  rw[this]at hf;simp[I1]at hf
 rintro⟨s,hs,hf⟩;have:=z6 s hs;exact⟨s,(hr s this.2).2 hs,by rw[z1 s this.1 this.2];exact hf⟩
def u1f{a c:Aut}(h:OkA a)(hc:Du a=(0,c)):OkA c/\c.types=a.types/\z0x c/\(Ah a->Ah c)/\∀w,Ro c w=Ro a w:=by
 unfold Du at hc;split at hc
 ·rename_i hn;cases hc;exact⟨h,rfl,(x0b h.wfA).1 (tX.1 hn),id,λ_=>rfl⟩
 obtain⟨rfl,hk⟩:=q14 (c1i h.wfA) hc;exact⟨hk,rfl,f1i h.wfA,y2y h.wfA,y22 h.wfA⟩
def x26(a:Aut):(Du a).1=0\/(Du a).1=5:=by
 unfold Du;split
 ·exact .inl rfl
 exact x1q
def Un(T:Int):List Prd->Int
 |[]=>0
 |p::r=>if Ra T p≠0 then Ra T p else Un T r
def Dv(L:List Prd):Bool:=decide (256<L.length) || L.any λp=>p.any λs=>decide (256<s.length)
def Tb(T:Int)(l:List Prd):Int×List Prd:=if T<1\/16<T then(2,[])else if 256<l.length then(5,[])else if Un T l≠0 then(Un T l,[])else
 if Dv (Rg T.toNat l)then(5,[])else(0,Rg T.toNat l)
def Xu(T:Int)(l:List Prd):Int×List Prd:=if T<1\/16<T then(2,[])else if 256<l.length then(5,[])else if Un T l≠0 then(Un T l,[])else
 if Dv (Q9 T.toNat l)then(5,[])else(0,Q9 T.toNat l)
def Oe{T:Int}:∀(l:List Prd),Un T l=0↔∀p∈l,Ra T p=0
 |[]=>by simp[Un]
 |p::r=>by
  rw[Un];by_cases h:Ra T p=0
  ·rw[if_neg (λk=>k h),Oe r];simp[h]
  rw[if_pos h];exact⟨λk=>absurd k h,λk=>absurd (k p (by simp)) h⟩
def x1l(T:Int)(l:List Prd):Xu T l=Tb T l:=by
 unfold Xu Tb;split
 ·rfl
 rename_i hT;split
 ·rfl
 split
 ·rfl
 rename_i hc;have z1:∀p∈l,PCk T.toNat p:=λp hp=>((Ef T p).1 ((Oe l).1 (by simpa using hc) p hp)).2;rw[Lk (by omega) z1]
def d0x{T:Int}(hT:1<=T/\T<=16){l:List Prd}(hl:∀p∈l,PCk T.toNat p):(Tb T l).1=5\/Tb T l=(0,Q9 T.toNat l):=by
 unfold Tb;have hc:Un T l=0:=(Oe l).2 λp hp=>(Ef T p).2 ⟨hT,hl p hp⟩;rw[if_neg (by omega)];split
 ·exact .inl rfl
 rw[if_neg (by simp[hc])];split
 ·exact .inl rfl
 exact .inr (by rw[Lk (by omega) hl])
def onA(a:Aut):List Prd:=a.mv.map (·.on)
def P1(a:Aut):Int×List Prd×List (List Int):=if Wd a≠0 then(Wd a,[],[])else
 if(Tb a.types (onA a)).1≠0 then((Tb a.types (onA a)).1,[],[])else
 match Jt a (Tb a.types (onA a)).2 with
 |none=>(5,[],[])
 |some Q=>(0,(Tb a.types (onA a)).2,Q)
def Ed(a:Aut):Int×Aut:=if(P1 a).1≠0 then((P1 a).1,Iq)else Zw (Ux a (P1 a).2.1 (P1 a).2.2)
def Kw(a:Aut):Int×Aut:=if Wd a≠0 then(Wd a,Iq)else Du a
def y00{a:Aut}(h:OkA a):∀p∈onA a,PCk a.types.toNat p:=λp hp=>by obtain⟨m,hm,rfl⟩:=zU.1 hp;exact(h.mv m hm).on
def Hi{a:Aut}(h:OkA a):P1 a=(5,[],[])\/∃Q,P1 a=(0,Q9 a.types.toNat (onA a),Q)/\Jt a (Q9 a.types.toNat (onA a))=some Q/\Sub a (Q9 a.types.toNat (onA a)) Q/\Cls a (Q9 a.types.toNat (onA a)):=by
 unfold P1;rw[if_neg (λk=>k ((Yh a).2 h))];rcases d0x h.types (y00 h)with hm|hm
 ·rw[if_pos (by rw[hm];decide),hm];exact .inl rfl
 rw[hm,if_neg (by simp)];cases hs:Jt a (Q9 a.types.toNat (onA a))with
 |none=>exact .inl rfl
 |some Q=>exact .inr ⟨Q,rfl,rfl,q12 h hs,c1z h⟩
def w0m{a:Aut}(h:Wd a≠0):P1 a=(Wd a,[],[]):=if_pos h
def D2{a:Aut}{cl:List Prd}{Q:List (List Int)}(hc:Cls a cl){m:Mv}(hm:m∈w0t a cl Q):(∃n:Nat,n<Q.length/\m.src=n)/\(∃t:Nat,t<Q.length/\m.dst=t)/\PWf a.types.toNat m.on:=by obtain⟨n,l,hl,hg⟩:=O1.1 hm;have hi:=S8 (a:=a) (Q:=Q) n l hc.wf;exact⟨⟨n,(zE.1 hl).1,hi.src m hg⟩,hi.dst m hg,hi.wf m hg⟩
def q2j{a:Aut}{cl:List Prd}{Q:List (List Int)}(hc:Cls a cl)(hs:Sub a cl Q):WfA (Ux a cl Q):=by
 have h0:=(zE.1 hs.first).1;have hl:(Ux a cl Q).fin.length=Q.length:=by simp[Ux]
 refine⟨hc.ok.types,by omega,λm hm=>?_,λm hm=>?_,λm hm=>(D2 hc hm).2.2⟩
 ·obtain⟨⟨n,h1,h2⟩,_⟩:=D2 hc hm;rw[hl,h2];omega
 obtain⟨_,⟨n,h1,h2⟩,_⟩:=D2 hc hm;rw[hl,h2];omega
def Ul{a d:Aut}(h:OkA a)(hd:Ed a=(0,d)):∃Q,Jt a (Q9 a.types.toNat (onA a))=some Q/\Sub a (Q9 a.types.toNat (onA a)) Q/\Cls a (Q9 a.types.toNat (onA a))/\
  P1 a=(0,Q9 a.types.toNat (onA a),Q)/\d=Ux a (Q9 a.types.toNat (onA a)) Q/\OkA d/\Ah d/\d.types=a.types/\∀w,(∀x∈w,Q8 a x)->Ro d w=Ro a w:=by
 unfold Ed at hd;rcases Hi h with hs|⟨Q,hs,hq,z1,z6⟩
 ·rw[hs,if_pos (by decide)]at hd;cases(Prod.mk.inj hd).1
 rw[hs,if_neg (by simp)]at hd;obtain⟨rfl,hk⟩:=q14 (q2j z6 z1) hd;exact⟨Q,hq,z1,z6,hs,rfl,hk,j06 z6 z1,rfl,λw hw=>x2m z6 z1 hw⟩
def q09{a:Aut}(h:OkA a):(Ed a).1=0\/(Ed a).1=5:=by
 unfold Ed;rcases Hi h with hs|⟨Q,hs,_⟩
 ·rw[hs];exact .inr rfl
 rw[hs,if_neg (by simp)];exact x1q
def d1m{a:Aut}(hw:WfA a)(hd:Ah a)(hf:z0x a){s:Int}(h0:0<=s)(h1:s<a.fin.length){x:Sy}(hx:Q8 a x):∃t:Int,0<=t/\t<a.fin.length/\Q1 a [s] x=[t]:=by
 obtain⟨m,hm,e,hh⟩:=hf s h0 h1 x hx;refine⟨m.dst,(hw.dst m hm).1,(hw.dst m hm).2,Yq (Ub ..) (by simp) λz=>?_⟩;rw[Ws];constructor
 ·rintro⟨_,k,hk,h2,h3,h4⟩;obtain h2:=zV.1 h2;have:k=m\/k.dst=m.dst:=by
   obtain⟨i,hi⟩:=yQ.1 hm;obtain⟨j,hj⟩:=yQ.1 hk;obtain⟨z7,z1⟩:=zE.1 hi;obtain⟨z8,z6⟩:=zE.1 hj;by_cases hij:i=j
   ·subst hij;left;rw[<-z1,<-z6]
   exfalso;rcases uX hij with hlt|hgt
   ·have:=yU.1 hd i j z7 z8 hlt;rw[z1,z6]at this;exact this (by rw[e,h2]) x hx ⟨hh,h3⟩
   have:=yU.1 hd j i z8 z7 hgt;rw[z1,z6]at this;exact this (by rw[e,h2]) x hx ⟨h3,hh⟩
  rcases this with rfl|this
  ·rw[<-h4];simp
  rw[<-h4,this];simp
 intro hz;obtain rfl:=zV.1 hz;exact⟨hw.dst m hm,m,hm,by rw[e];simp,hh,rfl⟩
def k1r{a:Aut}{cl:List Prd}(hc:Cls a cl){c:Prd}(hm:c∈cl):Q8 a (Qk c):=by have h:=(W9 (hc.wf c hm).1 (hc.wf c hm).2).1;have h2:=(hc.wf c hm).1.lt h;exact⟨⟨by simp[Qk],by simp only[Qk];omega⟩,h2.2⟩
def q2g(p:Prd):Bool:=decide (p.length<=4) && p.all λs=>decide (s.length<=12)
def V0(a:Aut):Bool:=decide (a.fin.length<=8) && decide (a.mv.length<=16) && a.mv.all λm=>q2g m.on
def Xz{p:Prd}:q2g p=true↔p.length<=4/\∀s∈p,s.length<=12:=by simp[q2g]
def x0d{a:Aut}:V0 a=true↔a.fin.length<=8/\a.mv.length<=16/\∀m∈a.mv,m.on.length<=4/\∀s∈m.on,s.length<=12:=by simp only[V0,Bool.and_eq_true,decide_eq_true_eq,yE,Xz,and_assoc]
def k1q(l:List Iv):(E5 l).length<=l.length:=by have h1:=Tu (O6 l) [];have h2:=(Pl l).1.length_eq;rw[E5];simp at h1;omega
def w0p{n:Nat}{l:List Int}(h:l.Pairwise (·<·))(hr:∀s∈l,0<=s/\s<n):l.length<=n:=by
 have he:l=(Wj n).filter λz=>decide (z∈l):=Yq h ((S6 n).filter _) λz=>by rw[xT,Wo];exact⟨λhz=>⟨hr z hz,by simpa using hz⟩,λhz=>by simpa using hz.2⟩
 have h1:=xN (λz=>decide (z∈l)) (Wj n);rw[<-he]at h1;simpa[Wj]using h1
def C2{a:Aut}(h:OkA a)(l:List Int)(x:Sy):(Q1 a l x).length<=256:=by have:=w0p (Ub a l x) Ui;have:=h.fin;omega
def f0c(p q:Prd):Bool:= !Wp (Ee p q)
def Hq(a:Aut):Bool:=(y_ a.mv.length).all λi=>(y_ i).all λk=> !(decide ((a.mv.getD i default).src=(a.mv.getD k default).src) && f0c (a.mv.getD i default).on (a.mv.getD k default).on)
def Xh{T:Nat}{p q:Prd}(hp:PWf T p)(hq:PWf T q):f0c p q=true↔∃t n,PM p t n/\PM q t n:=by
 unfold f0c;cases hv:Wp (Ee p q)
 ·simp only[Bool.not_false,true_iff];apply Classical.byContradiction;intro hn;have:=(Rn (Ry hp hq.1)).2 (λt n hm=>hn ⟨t,n,(Ea hp.1 hq.1 t n).1 hm⟩);rw[hv]at this;cases this
 simp only[Bool.not_true,Bool.false_eq_true,false_iff];rintro⟨t,n,hm⟩;exact(Rn (Ry hp hq.1)).1 hv t n ((Ea hp.1 hq.1 t n).2 hm)
def Ao{a:Aut}(h:WfA a):Hq a=true↔Ah a:=by
 unfold Hq Ah;rw[yE,yU];have hg:∀(i:Nat) (hi:i<a.mv.length),a.mv.getD i default=a.mv[i]:=λi hi=>by simp[yV,hi]
 constructor
 ·intro hs i j hi hj z6 e x hx;rintro⟨h1,h2⟩;have:=hs j (xD.2 hj);rw[yE]at this;have:=this i (xD.2 z6);rw[hg j hj,hg i hi,e]at this;have hc:f0c a.mv[j].on a.mv[i].on=true:=(Xh (h.on _ (zT hj)) (h.on _ (zT hi))).2 ⟨_,_,(Rh h (zT hj) hx).1 h2,(Rh h (zT hi) hx).1 h1⟩;rw[hc]at this;simp at this
 intro hd i hi;have hi:=xD.1 hi;rw[yE];intro k hk;have hk:=xD.1 hk;have z1:k<a.mv.length:=by omega
 rw[hg i hi,hg k z1];by_cases e:a.mv[i].src=a.mv[k].src
 ·cases hc:f0c a.mv[i].on a.mv[k].on
  ·simp
  exfalso;obtain⟨t,n,h1,h2⟩:=(Xh (h.on _ (zT hi)) (h.on _ (zT z1))).1 hc;have hb:=(h.on _ (zT hi)).lt h1;have hx:Q8 a ⟨t,n⟩:=⟨⟨by simp,by simp only;omega⟩,hb.2⟩
  exact hd k i z1 hi hk e.symm ⟨t,n⟩ hx ⟨(Rh h (zT z1) hx).2 (by simpa using h2),(Rh h (zT hi) hx).2 (by simpa using h1)⟩
 simp[e]
end Go.Abs
