/- Part Xd of the proof: steps on the way to the last part. No condition. -/
import Derived.Test.YtjmkolhkojgjpaaGreatDoorXc
set_option linter.all false
open Nat renaming le_refl->zR,le_trans->yP,lt_trichotomy->w_,lt_or_gt_of_ne->uQ
open List renaming foldl_cons->xU,length_cons->yW,getElem_of_mem->yZ,getElem_mem->zL,any_eq_true->wM,any_eq_false->vv,take_succ_eq_append_getElem->zU,flatten_append->uI,append_nil->xG,take_append_drop->xO,length_append->zW,take_length->yI,getElem?_append_right->zH,take_of_length_le->zV,replicate->yB,cons_append->tN,eq_nil_or_concat->wW,concat_eq_append->wX,mem_append->zT,mem_cons->zX,length_filter_le->yX,mem_map->zQ,mem_filter->xH,map_append->yR,length_take->xV,perm_middle->vM,pairwise_append->yE,pairwise_cons->yK,pairwise_iff_getElem->yL,getElem_take->tG,mem_cons_of_mem->vE,pairwise_mergeSort->ul,mem_mergeSort->tD,mem_flatMap->xS,mem_filterMap->wI,getElem?_eq_some_iff->zB,mem_of_getElem?->zJ,getElem?_eq_getElem->zI,perm_ext_iff_of_nodup->u7,zipWith->sd,getElem?_replicate->vD,eq_of_mem_replicate->vO,getElem?_zipWith->vA,mem_iff_getElem?->yH,getElem?_map->zS,isEmpty_iff->tP,mem_singleton->zO,pairwise_flatMap->vF,range->yU,getD->yQ,getElem?_set_self->zK,getElem?_set_ne->zE,map_congr_left->y_,mem_range->xJ,pairwise_map->xM,mem_append_left->yV,findIdx?_eq_some_iff_getElem->xP,getElem_inj->vW,getElem?_append_left->zF,eq_nil_iff_forall_not_mem->wZ,mem_append_right->vI,getD_eq_getElem?_getD->vH
open Bool renaming eq_iff_iff->wK,not_eq_true->uz
open Int renaming le_refl->xK,lt_trichotomy->tO
open Option renaming map_eq_some_iff->zP
open Prod renaming ext->vY
set_option maxHeartbeats 4000000
set_option linter.unusedSimpArgs false
set_option maxRecDepth 100000
open Go.Proofs.Tryz
namespace Go.Abs
section
open Go Go.Proofs
def j2v(s:List Iv)(j:Nat)(x:Iv):Bool:=match s[j]? with|some y=>decide (x.lo<y.lo)|none=>false
def Pw(s:List Iv)(x:Iv):Nat->Nat
 |0=>0
 |j+1=>if j2v s j x=true then Pw s x j else j+1
def c02(s:List Iv)(x:Iv):List Iv:=s.take (Pw s x s.length)++x::s.drop (Pw s x s.length)
def Ox(l:List Iv):List Iv:=l.foldl c02 []
def H7(s:List Iv)(x:Iv):∀j,Pw s x j<=j
 |0=>zR _
 |j+1=>by
  rw[Pw];split
  ·exact Nat.le_succ_of_le (H7 s x j)
  exact zR _
def y11(s:List Iv)(x:Iv):(c02 s x).length=s.length+1:=by have:=H7 s x s.length;simp[c02];omega
def Lh:∀(l acc:List Iv),(l.foldl c02 acc).length=acc.length+l.length
 |[],acc=>by simp
 |x::r,acc=>by rw[xU,Lh r,y11,yW];omega
def w1w(l:List Iv):(Ox l).length=l.length:=by rw[Ox,Lh];simp
end
section
open Go Go.Proofs
def Ez(l:List Iv):List Iv:=Qz [] (Ox l)
def W7(ini:List Iv)(y x:Iv):Wt (ini++[y]) x=if x.lo<=y.hi+1 then ini++[⟨y.lo,if y.hi<x.hi then x.hi else y.hi⟩]else ini++[y]++[x]:=by simp[Wt]
attribute [local irreducible] Ox
end
section
open Go Go.Proofs
attribute [local irreducible] Ez
attribute [local irreducible] Fm
def x2d(l:List Iv):PC prog 144 [LIv l] (λr=>r= .bool (decide ((l.length:Int)<=12))):=by refine pcB func144 results144 ntmps144 ?_;simp only[Qf];repeat(refine s_ ?_;simp)
end
section
open Go Go.Proofs
attribute [simp] T68
@[simp] def encL (l:List Iv):AV:= .list (l.map encIv)
attribute [local irreducible] ckR
end
section
open Go Go.Proofs
structure CanonL (l:List Iv):Prop where
 len:l.length<=256
 one:∀y∈l,Fm y=0
 gap:∀j,∀h:j+1<l.length,l[j].hi+2<=l[j+1].lo
def V2{l:List Iv}{j:Nat}{x:Iv}(h:j<l.length)(hi:Sz l[j]):g03 l (j+1) x=decide (x.lo<l[j].hi+2):=by have h1:=(Es _).1 hi.2;have:W (l[j].hi+2)=l[j].hi+2:=wrap_i64 _ (by omega) (by omega);simp[g03,h,this]
def Hw(l:List Iv)(hl:l.length<=256):∀(n j:Nat),l.length - j=n->j<=l.length->(∀h:0<j,∀h':j - 1<l.length,Fm l[j - 1]=0)->(Iz l j (l.drop j)=0↔(∀i,j<=i->∀h:i<l.length,Fm l[i]=0)/\∀i,j<=i+1->∀h:i+1<l.length,l[i].hi+2<=l[i+1].lo)
 |0,j,hn,hj,_=>by
  have:j=l.length:=by omega
  subst this;rw[List.drop_length,Iz];exact⟨λ_=>⟨λi h1 h2=>by omega,λi h1 h2=>by omega⟩,λ_=>rfl⟩
 |n+1,j,hn,hj,hp=>by
  have z6:j<l.length:=by omega
  rw[Ed z6,Iz];by_cases h1:(Fm l[j] != 0)=true
  ·rw[if_pos h1];have z1:Fm l[j]≠0:=by simpa using h1
   exact⟨λh=>absurd h z1,λh=>absurd (h.1 j (zR _) z6) z1⟩
  rw[if_neg h1];have z1:Fm l[j]=0:=by simpa using h1
  have ih:=Hw l hl n (j+1) (by omega) (by omega) (λ_ _=>z1);by_cases h2:g03 l j l[j]=true
  ·rw[if_pos h2];refine⟨λh=>(by cases h),λh=>?_⟩;rcases j with _|j
   ·simp[g03]at h2
   have hq:Fm l[j]=0:=hp (by omega) (by simp;omega);rw[V2 (by omega) (Bj hq).1]at h2;have:=h.2 j (zR _) z6;simp at h2;omega
  rw[if_neg h2,ih];constructor
  ·rintro⟨a,b⟩;refine⟨λi hi h=>?_,λi hi h=>?_⟩
   ·by_cases e:i=j
    ·subst e;exact z1
    exact a i (by omega) h
   by_cases e:j=i+1
   ·subst e;have hq:Fm l[i]=0:=hp (by omega) (by simp;omega);rw[V2 (by omega) (Bj hq).1]at h2;simp at h2;exact h2
   exact b i (by omega) h
  rintro⟨a,b⟩;exact⟨λi hi h=>a i (by omega) h,λi hi h=>b i (by omega) h⟩
def Dy(l:List Iv):ckR l=0↔CanonL l:=by
 rw[ckR];by_cases h:decide ((256:Int)<l.length)=true
 ·rw[if_pos h];simp at h;exact⟨λe=>(by cases e),λe=>(by have:=e.len;omega)⟩
 rw[if_neg h];simp at h;have hl:l.length<=256:=by omega
 have:=Hw l hl l.length 0 rfl (Nat.zero_le _) (λh=>by omega);rw[List.drop_zero]at this;rw[this];constructor
 ·rintro⟨a,b⟩;refine⟨hl,λy hy=>?_,λj h=>b j (by omega) h⟩;obtain⟨i,hi,rfl⟩:=yZ hy;exact a i (by omega) hi
 rintro⟨_,a,b⟩;exact⟨λi _ h=>a _ (zL h),λi _ h=>b i h⟩
def CanonL.iv{l:List Iv}(h:CanonL l){j:Nat}(hj:j<l.length): -1099511627776<=l[j].lo/\l[j].lo<=l[j].hi/\l[j].hi<=1099511627776:=by obtain⟨⟨h1,h2⟩,h3⟩:=Bj (h.one _ (zL hj));have:=(Es _).1 h1;have:=(Es _).1 h2;omega
attribute [local irreducible] ckR
end
section
open Go Go.Proofs
attribute [local irreducible] ckR
def Js(a b:List Iv):Int:=if ckR a=0 then ckR b else ckR a
def c1s(a b:List Iv):PC prog 230 [LIv a,LIv b] (λr=>r= .i (Js a b)):=by
 refine pcB func230 results230 ntmps230 ?_;simp only[Qf];repeat(refine s_ ?_;simp)
 refine pcL (Fz a) ?_;simp;repeat(refine s_ ?_;simp)
 refine Qb rfl (λh=>?_) (λh=>?_)
 ·repeat(refine s_ ?_;simp)
  rw[Js,if_neg (by simpa using h)]
 repeat(refine s_ ?_;simp)
 refine pcL (Fz b) ?_;simp;repeat(refine s_ ?_;simp)
 rw[Js,if_pos (by simpa using h)]
def N5(l:List Iv):AV:=if l.length<=256 then .tup [LIv l,.i 0]else .tup [.list [],.i 5]
def Lv(l:List Iv):PC prog 231 [LIv l] (λr=>r=N5 l):=by
 refine pcB func231 results231 ntmps231 ?_;simp only[Qf];repeat(refine s_ ?_;simp)
 refine Qb rfl (λh=>?_) (λh=>?_)
 ·repeat(refine s_ ?_;simp)
  rw[N5,if_neg (by simp at h;omega)]
 repeat(refine s_ ?_;simp)
 rw[N5,if_pos (by simp at h;omega)]
def d1j:List Iv->Int->Int×Int
 |[],_=>(0,2)
 |x::r,i=>if i<x.hi - x.lo+1 then(x.lo+i,0)else d1j r (i - (x.hi - x.lo+1))
def atR(l:List Iv)(i:Int):Int×Int:=if ckR l=0 then(if i<0 then(0,2)else d1j l i)else(0,ckR l)
def z0h(x:Iv)(n:Int):Int:=if x.hi<n then -1 else if n<x.lo then 1 else 0
def g0a(x:Iv)(n:Int):PC prog 222 [encIv x,.i n] (λr=>r= .i (z0h x n)):=by
 refine pcB func222 results222 ntmps222 ?_;simp only[Qf];simp only[encIv];repeat(refine s_ ?_;simp)
 refine Qb rfl (λh=>?_) (λh=>?_)
 ·repeat(refine s_ ?_;simp)
  rw[z0h,if_pos (by simpa using h)]
 repeat(refine s_ ?_;simp)
 refine Qb rfl (λh2=>?_) (λh2=>?_)
 ·repeat(refine s_ ?_;simp)
  rw[z0h,if_neg (by simpa using h),if_pos (by simpa using h2)]
 repeat(refine s_ ?_;simp)
 rw[z0h,if_neg (by simpa using h),if_neg (by simpa using h2)]
def Y5(l:List Iv)(n:Int):Bool:=l.any λx=>decide (x.lo<=n) && decide (n<=x.hi)
def O4{l:List Iv}(hc:CanonL l):∀ {i j:Nat},i<j->∀(hj:j<l.length),∀(hi:i<l.length),l[i].hi+2<=l[j].lo:=by
 intro i j z1 hj hi;obtain⟨d,rfl⟩:∃d,j=i+1+d:=⟨j - (i+1),by omega⟩
 induction d with
 |zero=>exact hc.gap i hj
 |succ d ih=>
  have h1:=ih (by omega) (by omega);have h2:=hc.gap (i+1+d) (by omega);have h3:=hc.iv (show i+1+d<l.length by omega);have h4:i+1+(d+1)=i+1+d+1:=by omega
  simp only[h4];omega
def Ja(x:Iv)(n:Int):z0h x n<0↔x.hi<n:=by
 unfold z0h;by_cases h:x.hi<n
 ·rw[if_pos h];simp[h]
 rw[if_neg h];by_cases h2:n<x.lo
 ·rw[if_pos h2];simp[h]
 rw[if_neg h2];simp[h]
def y13(x:Iv)(n:Int):z0h x n=0↔x.lo<=n/\n<=x.hi:=by
 unfold z0h;by_cases h:x.hi<n
 ·rw[if_pos h];constructor<;>intro h'<;>omega
 rw[if_neg h];by_cases h2:n<x.lo
 ·rw[if_pos h2];constructor<;>intro h'<;>omega
 rw[if_neg h2];constructor<;>intro h'<;>omega
def x2o{i j m:Nat}(hm:(i+j) / 2=m)(h:i+j<=1000000000):IntKind.i64.wrap ((IntKind.u64.wrap ((i:Int)+j)).fdiv (2 ^ min 1 IntKind.u64.bits))=m:=by
 have h1:IntKind.u64.wrap ((i:Int)+j)=i+j:=by simp[IntKind.wrap,IntKind.bits,IntKind.signed];omega
 have h2:min 1 IntKind.u64.bits=1:=by decide
 rw[h1,h2,Int.fdiv_eq_ediv_of_nonneg _ (by decide),wrap_i64 _ (by omega) (by omega)];omega
attribute [local irreducible] z0h
def Bd(l:List Iv)(n:Int)(hc:CanonL l):PC prog 221 [LIv l,.i n,.fn (.func 222) [] []] (λr=>∃k:Int,r= .tup [.i k,.bool (Y5 l n)]):=by
 refine pcB func221 results221 ntmps221 ?_;simp only[Qf];have hlen:=hc.len;repeat(refine s_ ?_;simp)
 refine Qj (Qc (sl':=[(0,LIv l),(1,.i n),(2,.fn (.func 222) [] []),(8,.i l.length),(9,.i 0),(10,.i l.length)]) ?_ (by simp));refine Qi (F:=λ(u:Nat×Nat)=>⟨[(0,LIv l),(1,.i n),(2,.fn (.func 222) [] []),(8,.i l.length),(9,.i u.1),(10,.i u.2)],[]⟩) (λu=>u.1<=u.2/\u.2<=l.length/\(∀k,k<u.1->∀hk:k<l.length,z0h l[k] n<0)/\(∀k,u.2<=k->∀hk:k<l.length,¬z0h l[k] n<0)) (λu=>u.2 - u.1) ?_ (0,l.length) ⟨by simp,by simp,λk hk=>by simp at hk,λk hk z1=>by simp only at hk;omega⟩;rintro⟨i,j⟩ ⟨h1,h2,h3,h4⟩ ih;simp only at h1 h2 h3 h4 ih |-;repeat(refine s_ ?_;simp)
 refine Qb rfl (λzd=>?_) (λze=>?_)
 ·have zf:i<j:=by simpa using zd
  have hw:IntKind.i64.wrap ((i:Int)+j)=i+j:=wrap_i64 _ (by omega) (by omega);obtain⟨m,hm⟩:∃m,(i+j) / 2=m:=⟨_,rfl⟩
  have z8:IntKind.i64.wrap ((IntKind.u64.wrap ((i:Int)+j)).fdiv (2 ^ min 1 IntKind.u64.bits))=m:=x2o hm (by omega);have z6:m<l.length:=by omega
  have za:(m:Int)<l.length:=by omega
  have zg:=wz m (by omega);repeat(refine s_ ?_;simp[hw,z8,z6,za])
  refine pcL (g0a l[m] n) ?_;simp;refine Qb rfl (λh5=>?_) (λh5=>?_)
  ·repeat(refine s_ ?_;simp[zg])
   refine Qc (sl':=[(0,LIv l),(1,.i n),(2,.fn (.func 222) [] []),(8,.i l.length),(9,.i (m+1:Nat)),(10,.i j)]) (ih (m+1,j) ⟨by simp only;omega,h2,λk hk z1=>?_,h4⟩ (by simp only;omega)) (by simp);have zh:=hc.iv z1;have zi:=hc.iv z6;have z7:z0h l[m] n<0:=by simpa using h5
   by_cases e:k=m
   ·subst e;exact z7
   have:=O4 hc (show k<m by omega) z6 z1;rw[Ja]at z7 |-;omega
  repeat(refine s_ ?_;simp)
  refine Qc (sl':=[(0,LIv l),(1,.i n),(2,.fn (.func 222) [] []),(8,.i l.length),(9,.i i),(10,.i m)]) (ih (i,m) ⟨by simp only;omega,by simp only;omega,h3,λk hk z1=>?_⟩ (by simp only;omega)) (by simp);have zh:=hc.iv z1;have zi:=hc.iv z6;have z7:¬z0h l[m] n<0:=by simpa using h5
  by_cases e:k=m
  ·subst e;exact z7
  have:=O4 hc (show m<k by omega) z1 z6;rw[Ja]at z7 |-;omega
 have zb:i=j:=by simp at ze;omega
 subst zb;by_cases hil:i<l.length
 ·repeat(refine s_ ?_;simp[hil])
  refine pcL (g0a l[i] n) ?_;simp;repeat(refine s_ ?_;simp)
  have hh:Y5 l n=(z0h l[i] n==0):=by
   rw[wK,beq_iff_eq,y13,Y5,wM];constructor
   ·rintro⟨x,hx,zc⟩;obtain⟨k,hk,rfl⟩:=yZ hx;simp at zc;have e:k=i:=by
     by_cases e1:k<i
     ·have:=(Ja _ _).1 (h3 k e1 hk);omega
     by_cases e2:i<k
     ·have:=O4 hc e2 hk hil;have:¬l[i].hi<n:=λe=>h4 i (zR _) hil ((Ja l[i] n).2 e);omega
     omega
    subst e;exact zc
   intro h;exact⟨l[i],zL hil,by simpa using h⟩
  rw[hh]
 repeat(refine s_ ?_;simp[hil])
 refine Wi rfl rfl ?_;simp;repeat(refine s_ ?_;simp)
 have hh:Y5 l n=false:=by rw[Y5,vv];intro x hx;obtain⟨k,hk,rfl⟩:=yZ hx;have:=(Ja _ _).1 (h3 k (by omega) hk);simp;intro _;omega
 rw[hh]
def f02(l:List Iv)(n:Int)(hc:CanonL l):PC prog 165 [LIv l,.i n] (λr=>r= .bool (Y5 l n)):=by
 refine pcB func165 results165 ntmps165 ?_;simp only[Qf];repeat(refine s_ ?_;simp)
 refine Vi rfl rfl (by simp) (Bd l n hc) rfl ?_;rintro _ ⟨k,rfl⟩;simp;repeat(refine s_ ?_;simp)
attribute [local irreducible] Y5
def u1c(l:List Iv)(n:Int):Bool×Int:=if ckR l=0 then(Y5 l n,0)else(false,ckR l)
def Ke(l:List Iv)(n:Int):PC prog 103 [LIv l,.i n] (λr=>r= .tup [.bool (u1c l n).1,.i (u1c l n).2]):=by
 refine pcB func103 results103 ntmps103 ?_;simp only[Qf];repeat(refine s_ ?_;simp)
 refine pcL (Fz l) ?_;simp;repeat(refine s_ ?_;simp)
 refine Qb rfl (λh=>?_) (λh=>?_)
 ·repeat(refine s_ ?_;simp)
  rw[u1c,if_neg (by simpa using h)];exact⟨rfl,rfl⟩
 have h0:ckR l=0:=by simpa using h
 repeat(refine s_ ?_;simp)
 refine pcL (f02 l n ((Dy l).1 h0)) ?_;simp;repeat(refine s_ ?_;simp)
 rw[u1c,if_pos h0];exact⟨rfl,rfl⟩
end
section
open Go Go.Proofs
attribute [local irreducible] ckR
end
section
open Go Go.Proofs
def w2d(H:List AObj)(n:Nat)(h0:0<n)(hn:n<=100000):FC prog 312 [.nils,.i n] H
  (λr H'=>r= .sl H.length 2 0 0/\H'=H++[.arr 144 2 []]):=by
 have z6:¬((n:Int)<0):=by omega
 have hw:IntKind.i64.wrap (n:Int)=n:=wrap_i64 _ (by omega) (by omega);refine fcB func312 results312 ntmps312 ?_;simp only[Qf];repeat(refine s_ ?_;simp)
 refine Qb rfl (λh=>?_) (λh=>?_)
 ·simp[z6]at h
 have z1:IntKind.i64.wrap 0=0:=by decide
 repeat(refine s_ ?_;simp[hw])
 refine Rv tOk rfl rfl P3 rfl rfl rfl ?_;simp[hw,z1];repeat(refine s_ ?_;simp[hw,z1])
 refine Qb rfl (λh2=>?_) (λh2=>?_)
 ·repeat(refine s_ ?_;simp[hw,z1])
  refine Rv tOk rfl rfl P3 rfl rfl rfl ?_;simp[hw,z1];refine Yn tOk rfl rfl P3 rfl T3 rfl Kz rfl (by decide) rfl (n:=n) rfl h0 (by simp;omega) (by omega) (.agg [.int .i64 0,.int .i64 0]) rfl rfl ?_;simp;refine Gx H.length 0 (q17 H _ []) ?_;simp;repeat(refine s_ ?_;simp)
 simp at h2;omega
def y1y(H:List AObj):FC prog 312 [.nils,.i 0] H (λr H'=>r= .nils/\H'=H):=by
 refine fcB func312 results312 ntmps312 ?_;simp only[Qf];have z1:IntKind.i64.wrap 0=0:=by decide
 repeat(refine s_ ?_;simp)
 refine Qr rfl ?_;simp;repeat(refine s_ ?_;simp[z1])
 refine Rv tOk rfl rfl P3 rfl rfl rfl ?_;simp[z1];repeat(refine s_ ?_;simp[z1])
 refine Qr rfl ?_;simp;repeat(refine s_ ?_;simp[z1])
def It(ls:List (List Iv)):List Iv:=ls.flatten
def J0(ls:List (List Iv))(j:Nat)(h:j<ls.length):It (ls.take (j+1))=It (ls.take j)++ls[j]:=by unfold It;rw[zU h,uI];simp only[List.flatten_cons,List.flatten_nil,xG]
def q0p(ls:List (List Iv))(j:Nat):(It (ls.take j)).length<=(It ls).length:=by
 conv=>rhs;rw[<-xO j ls,It,uI,zW]
 rw[It];omega
def X5(ls:List (List Iv)):It (ls.take ls.length)=It ls:=by rw[yI]
def A4:It []=[]:=rfl
attribute [local irreducible] It
def d0t(ls:List (List Iv))(hl:ls.length<=1000)(ht:(It ls).length<=100000):PC prog 279 [.list (ls.map encL)] (λr=>r=LIv (It ls)):=by
 refine pcB func279 results279 ntmps279 ?_;simp only[Qf];repeat(refine s_ ?_;simp)
 refine Wf ls.length (λ_=>True) (λj=>[(0,.list (ls.map encL)),(3,.i (It (ls.take j)).length),(9,.list (ls.map encL)),(10,.i ls.length),(11,.i j)]) (λ_=>[]) rfl (by simp) (by simp[A4]) (by simp) (by simp) trivial ?_;intro j hj hI ih;repeat(refine s_ ?_;simp)
 refine Qb rfl (λz8=>?_) (λza=>?_)
 ·have z1:j<ls.length:=by simpa using z8
  have hw:=wz j (by omega);have zc:=q0p ls (j+1);have ih:=ih z1 trivial;have z7:(It (ls.take (j+1))).length=(It (ls.take j)).length+ls[j].length:=by rw[J0 ls j z1,zW]
  generalize (It (ls.take (j+1))).length=m at *;generalize (It (ls.take j)).length=k at *
  have zd:IntKind.i64.wrap ((k:Int)+ls[j].length)=m:=by rw[wrap_i64 _ (by omega) (by omega)];omega
  repeat(refine s_ ?_;simp[z1,zd])
  refine Qb rfl (λh2=>?_) (λh2=>?_)
  ·simp at h2;omega
  repeat(refine s_ ?_;simp[hw,zd])
  refine Wd _ ih rfl (by simp) ?_ (by simp) (by simp);simp
 have z6:j=ls.length:=by simp at za;omega
 subst z6;clear ih;obtain⟨n,hn⟩:∃n,(It ls).length=n:=⟨_,rfl⟩
 rw[X5,hn];rcases Nat.eq_zero_or_pos n with h0|h0
 ·subst h0;repeat(refine s_ ?_;simp)
  refine Qu rfl rfl (y1y []) rfl ?_;rintro r H' ⟨rfl,rfl⟩;simp;repeat(refine s_ ?_;simp)
  refine Q3 6 144 2 rfl ?_;simp;refine Qj (Qc (sl':=[(6,.sl 0 2 0 (It (ls.take 0)).length),(25,.list (ls.map encL)),(26,.i ls.length),(27,.i 0)]) ?_ (by simp[A4]));refine Qi (F:=λ(u:Nat×Nat×List AObj)=>⟨[(6,.sl u.2.1 2 0 (It (ls.take u.1)).length),(25,.list (ls.map encL)),(26,.i ls.length),(27,.i u.1)],u.2.2⟩)
   (λu=>u.1<=ls.length/\u.2.2[u.2.1]?=some (.arr 144 2 ((It (ls.take u.1)).map encIv))) (λu=>ls.length - u.1) ?_ (0,0,[.arr 144 2 []]) ⟨by simp,by simp[A4]⟩
  rintro⟨j,q,H2⟩ ⟨hj,g1⟩ ih;simp only at hj g1 ih |-;repeat(refine s_ ?_;simp)
  refine Qb rfl (λz8=>?_) (λza=>?_)
  ·have z1:j<ls.length:=by simpa using z8
   have hw:=wz j (by omega);have zc:=q0p ls (j+1);have hs:=J0 ls j z1;have z7:(It (ls.take (j+1))).length=(It (ls.take j)).length+ls[j].length:=by rw[hs,zW]
   have zb:=λ(q':Nat) (H':List AObj) (h:H'[q']?=some (.arr 144 2 ((It (ls.take j)++ls[j]).map encIv)))=>ih (j+1,q',H') ⟨by simp;omega,by rw[hs];exact h⟩ (by simp;omega);clear ih;simp only[hs]at zb;rw[z7]at zc;clear hs z7;generalize It (ls.take j)=acc at *
   repeat(refine s_ ?_;simp[z1])
   refine apS P3 Kz ?_;simp[Qa g1,Qh g1,g1];refine⟨by simp[Wg,Qa g1,Qh g1,g1]<;>omega,?_⟩;repeat(refine s_ ?_;simp[hw])
   exact Qc (sl':=[(6,.sl H2.length 2 0 (acc.length+ls[j].length)),(25,.list (ls.map encL)),(26,.i ls.length),(27,.i (j+1:Nat))]) (by
    have:=zb H2.length (H2.set q .dead++[.arr 144 2 ((acc++ls[j]).map encIv)]) (by rw[zH (by simp)];simp);simpa using this) (by simp)
  have z6:j=ls.length:=by simp at za;omega
  subst z6;rw[X5]at g1;rw[yI];repeat(refine s_ ?_;simp[g1])
  rw[zV (by simp)]
 repeat(refine s_ ?_;simp)
 refine Qu rfl rfl (w2d [] n h0 (by omega)) rfl ?_;rintro r H' ⟨rfl,rfl⟩;simp;repeat(refine s_ ?_;simp)
 refine Qj (Qc (sl':=[(6,.sl 0 2 0 (It (ls.take 0)).length),(25,.list (ls.map encL)),(26,.i ls.length),(27,.i 0)]) ?_ (by simp[A4]));refine Qi (F:=λ(u:Nat×Nat×List AObj)=>⟨[(6,.sl u.2.1 2 0 (It (ls.take u.1)).length),(25,.list (ls.map encL)),(26,.i ls.length),(27,.i u.1)],u.2.2⟩)
  (λu=>u.1<=ls.length/\u.2.2[u.2.1]?=some (.arr 144 2 ((It (ls.take u.1)).map encIv))) (λu=>ls.length - u.1) ?_ (0,0,[.arr 144 2 []]) ⟨by simp,by simp[A4]⟩
 rintro⟨j,q,H2⟩ ⟨hj,g1⟩ ih;simp only at hj g1 ih |-;repeat(refine s_ ?_;simp)
 refine Qb rfl (λz8=>?_) (λza=>?_)
 ·have z1:j<ls.length:=by simpa using z8
  have hw:=wz j (by omega);have zc:=q0p ls (j+1);have hs:=J0 ls j z1;have z7:(It (ls.take (j+1))).length=(It (ls.take j)).length+ls[j].length:=by rw[hs,zW]
  have zb:=λ(q':Nat) (H':List AObj) (h:H'[q']?=some (.arr 144 2 ((It (ls.take j)++ls[j]).map encIv)))=>ih (j+1,q',H') ⟨by simp;omega,by rw[hs];exact h⟩ (by simp;omega);clear ih;simp only[hs]at zb;rw[z7]at zc;clear hs z7;generalize It (ls.take j)=acc at *
  repeat(refine s_ ?_;simp[z1])
  refine apS P3 Kz ?_;simp[Qa g1,Qh g1,g1];refine⟨by simp[Wg,Qa g1,Qh g1,g1]<;>omega,?_⟩;repeat(refine s_ ?_;simp[hw])
  exact Qc (sl':=[(6,.sl H2.length 2 0 (acc.length+ls[j].length)),(25,.list (ls.map encL)),(26,.i ls.length),(27,.i (j+1:Nat))]) (by
   have:=zb H2.length (H2.set q .dead++[.arr 144 2 ((acc++ls[j]).map encIv)]) (by rw[zH (by simp)];simp);simpa using this) (by simp)
 have z6:j=ls.length:=by simp at za;omega
 subst z6;rw[X5]at g1;rw[yI];repeat(refine s_ ?_;simp[g1])
 rw[zV (by simp)]
end
section
open Go Go.Proofs Go.RowKit Go.Shelf Go.Lib Go.Sort
def E4(zs:List Int):List Int:=zs.mergeSort λx y=>decide (x<=y)
def Ut(zs:List Int):(E4 zs).length=zs.length:=by simp[E4]
def Ds(H:List AObj)(p:Nat)(zs:List Int)(hp:H[p]?=some (.arr 3 1 (zs.map (AV.int .i64))))(hl:zs.length<=1000000):
  FC prog 171 [.sl p 1 0 zs.length] H (λr H'=>r= .tup []/\H'=H.set p (.arr 3 1 ((E4 zs).map (AV.int .i64)))):=by
 refine(c0i (xs:=zs.map (AV.int .i64)) (rest:=[]) (R3 func171 rfl rfl) (by simp) hp (k2n zs) [] (λw I m vs a b=>by simpa using a) (λz1=>z1=(E4 zs).map (AV.int .i64)) ?_ ?_).mono ?_
 ·intro b cap w hH hb hc;have:=Tryz.slices_Sort_int b 0 cap zs w (Bn hH) hb (by omega);refine Calls.mono (by simpa using this) ?_;rintro e w' ⟨rfl,n,os,rfl⟩;exact⟨rfl,_,((E4 zs).map (Value.int .i64)).toArray,n,os,rfl,by simp[Ut],k2n _,by rw[Zn];rfl⟩
 ·rintro h;have z6:zs=[]:=by simpa using h
  subst z6;exact⟨by simp[E4],λw=>by simpa using Tryz.slices_Sort_int_none none 0 w⟩
 rintro r H' ⟨rfl,z1,rfl,rfl⟩;exact⟨rfl,rfl⟩
def U7(H:List AObj)(p:Nat)(zs:List Int)(hp:H[p]?=some (.arr 3 1 (zs.map (AV.int .i64))))(hl:zs.length<=1000000)(z6:(Lib.compact zs).length<=zs.length):
  FC prog 172 [.sl p 1 0 zs.length] H (λr H'=>r= .sl p 1 0 (Lib.compact zs).length/\∃G:List Int,H'=H.set p (.arr 3 1 ((Lib.compact zs++G).map (AV.int .i64)))):=by
 refine(y2r (xs:=zs.map (AV.int .i64)) (R3 func172 rfl rfl) (by simp) hp (k2n zs) (λz1 n=>n=(Lib.compact zs).length/\∃G:List Int,z1=(Lib.compact zs++G).map (AV.int .i64)) (λys n h=>by rw[h.1];exact z6) ?_ ?_).mono ?_
 ·intro b cap w hH hb hc hm;have:=Tryz.slices_Compact_int b 0 cap zs w (Bn hH) (by omega) hc;refine Calls.mono (by simpa using this) ?_;rintro e w' ⟨rfl,q,rfl⟩;exact⟨_,((Lib.compact zs++yB (zs.length - (Lib.compact zs).length) 0).map (Value.int .i64)).toArray,q,_,rfl,⟨rfl,_,rfl⟩,by simp;omega,k2n _,by rw[<-Zn]⟩
 ·rintro h;have z7:zs=[]:=by simpa using h
  subst z7;exact⟨⟨rfl,[],rfl⟩,λw=>by simpa using Tryz.slices_Compact_int_empty none 0 w⟩
 rintro r H' ⟨z1,n,rfl,⟨rfl,G,rfl⟩,rfl⟩;exact⟨rfl,G,rfl⟩
end
section
open Go Go.Proofs
attribute [simp] T47
def Iq:List Iv->List Int
 |[]=>[]
 |x::r=>x.lo::(x.hi+1)::Iq r
def X9:∀(l:List Iv) (x:Iv),Iq (l++[x])=Iq l++[x.lo,x.hi+1]
 |[],x=>rfl
 |y::r,x=>by rw[tN,Iq,X9 r,Iq];rfl
def Kb:∀(l:List Iv),(Iq l).length=2 * l.length
 |[]=>rfl
 |x::r=>by rw[Iq,yW,yW,Kb r,yW];omega
def j0z:Iq []=[]:=rfl
def Ae(l:List Iv):List Int:=Lib.compact (E4 (Iq l))
def D7(f:Int->Bool):List Int->List Iv->List Iv
 |c::d::r,acc=>D7 f (d::r) (if f c=true then Wt acc ⟨c,d - 1⟩else acc)
 |_,acc=>acc
def w1q{acc:List Iv}{x:Iv}(ha:∀y∈acc,B2 y)(hx:B2 x):∀y∈Wt acc x,B2 y:=by
 rcases wW acc with rfl|⟨ini,z,rfl⟩
 ·simpa[Wt]using hx
 have hz:=ha z (by simp);have hi:∀y∈ini,B2 y:=λy hy=>ha y (by simp[hy]);intro y hy;rw[wX,W7]at hy;split at hy
 ·rcases zT.1 hy with h|h
  ·exact hi y h
  simp at h;subst h;unfold B2 at *;simp only;split<;>omega
 rcases zT.1 hy with h|h
 ·rcases zT.1 h with h|h
  ·exact hi y h
  simp at h;subst h;exact hz
 simp at h;subst h;exact hx
def g0o:∀(l:List Iv) (z:Int),z∈Iq l->∃x∈l,z=x.lo\/z=x.hi+1
 |[],z,h=>by simp[Iq]at h
 |y::r,z,h=>by
  rw[Iq]at h;rcases zX.1 h with h|h
  ·exact⟨y,by simp,.inl h⟩
  rcases zX.1 h with h|h
  ·exact⟨y,by simp,.inr h⟩
  obtain⟨x,hx,hz⟩:=g0o r z h;exact⟨x,by simp[hx],hz⟩
def q1i(zs:List Int)(z:Int)(h:z∈E4 zs):z∈zs:=by unfold E4 at h;simpa using h
def Ic(op:Bool->Bool->Bool)(a b:List Iv):List Iv:=D7 (λn=>op (Y5 a n) (Y5 b n)) (Ae (a++b)) []
def Tg(zs:List Int):(Lib.compact zs).length<=zs.length:=by unfold Lib.compact Lib.compactUpTo;rw[List.length_map];exact yP (yX _ _) (by simp)
def q0x{zs:List Int}{z:Int}(h:z∈Lib.compact zs):z∈zs:=by
 unfold Lib.compact Lib.compactUpTo at h;obtain⟨i,hi,rfl⟩:=zQ.1 h;have z1:i<zs.length:=by simpa using(xH.1 hi).1
 rw[getElem!_pos _ i (by simpa using z1)];simp
def z02(a b:List Iv):It [a,b]=a++b:=by simp[It]
attribute [local irreducible] ckR Y5 It Wt E4 Lib.compact Iq
def u18(g:Nat)(op:Bool->Bool->Bool)(hg:∀x y,PC prog g [.bool x,.bool y] (λr=>r= .bool (op x y)))(a b:List Iv)(ha:CanonL a)(hb:CanonL b):
  PC prog 232 [LIv a,LIv b,.fn (.func g) [] []] (λr=>r=LIv (Ic op a b)):=by
 refine pcB func232 results232 ntmps232 ?_;simp only[Qf];have zr:=ha.len;have zt:=hb.len;repeat(refine s_ ?_;simp)
 have hc:∀y∈a++b,-1099511627776<=y.lo/\y.lo<=y.hi/\y.hi<=1099511627776:=λy hy=>by
  rcases zT.1 hy with h|h<;>obtain⟨i,hi,rfl⟩:=yZ h
  ·exact ha.iv hi
  exact hb.iv hi
 have zu:(a++b).length<=512:=by rw[zW];omega
 obtain⟨R,hR⟩:∃R,Ic op a b=R:=⟨_,rfl⟩
 rw[hR];rw[Ic]at hR;refine Y1 0 rfl ?_;simp;refine pcL (d0t [a,b] (by simp) (by rw[z02,zW];omega)) ?_;simp[z02,-yR];have zi:(a.length:Int)+b.length=((a++b).length:Nat):=by simp
 generalize a++b=c at *;rw[zi]
 repeat(refine s_ ?_;simp)
 refine Qn (sl':=[(0,LIv a),(1,LIv b),(2,.fn (.func g) [] []),(7,.nils),(15,LIv c),(16,.i c.length),(17,.i 0)]) ?_ (by simp);refine x0m (H:=[]) _ ?_ (by simp) (by simp) (by simp);refine Q3 7 3 1 rfl ?_;simp;refine Qj (Qc (sl':=[(0,LIv a),(1,LIv b),(2,.fn (.func g) [] []),(7,.sl 0 1 0 (Iq (c.take 0)).length),(15,LIv c),(16,.i c.length),(17,.i 0)]) ?_ (by simp[j0z]));refine Qi (F:=λ(u:Nat×Nat×List AObj)=>⟨[(0,LIv a),(1,LIv b),(2,.fn (.func g) [] []),(7,.sl u.2.1 1 0 (Iq (c.take u.1)).length),(15,LIv c),(16,.i c.length),(17,.i u.1)],u.2.2⟩)
  (λu=>u.1<=c.length/\u.2.2[u.2.1]?=some (.arr 3 1 ((Iq (c.take u.1)).map (AV.int .i64)))) (λu=>c.length - u.1) ?_ (0,0,[.arr 3 1 []]) ⟨by simp,by simp[j0z]⟩
 rintro⟨j,q,H2⟩ ⟨hj,g1⟩ ih;simp only at hj g1 ih |-;repeat(refine s_ ?_;simp)
 refine Qb rfl (λzd=>?_) (λze=>?_)
 ·have z8:j<c.length:=by simpa using zd
  have hw:=wz j (by omega);have zv:=hc _ (zL z8);have zf:IntKind.i64.wrap (c[j].hi+1)=c[j].hi+1:=wrap_i64 _ (by omega) (by omega);have hs:Iq (c.take (j+1))=Iq (c.take j)++[c[j].lo,c[j].hi+1]:=by rw[zU z8,X9]
  have zj:(Iq (c.take j)).length<=1024:=by rw[Kb,xV];omega
  have zh:=λ(q':Nat) (H':List AObj) (h:H'[q']?=some (.arr 3 1 ((Iq (c.take j)++[c[j].lo,c[j].hi+1]).map (AV.int .i64))))=>ih (j+1,q',H') ⟨by simp;omega,by rw[hs];exact h⟩ (by simp;omega);clear ih;simp only[hs]at zh;clear hs;generalize Iq (c.take j)=acc at *
  repeat(refine s_ ?_;simp[z8,zf])
  refine apS T47 T3 ?_;simp[Qa g1,Qh g1];refine⟨by simp[Wg]<;>omega,?_⟩;repeat(refine s_ ?_;simp[hw])
  exact Qc (sl':=[(0,LIv a),(1,LIv b),(2,.fn (.func g) [] []),(7,.sl (H2.length+2) 1 0 (acc.length+2)),(15,LIv c),(16,.i c.length),(17,.i (j+1:Nat))]) (by
   have:=zh (H2.length+2) (H2.set q .dead++[.vars [.int .i64 c[j].lo,.int .i64 c[j].hi],.arr 3 1 [.int .i64 c[j].lo,.int .i64 (c[j].hi+1)],.arr 3 1 ((acc++[c[j].lo,c[j].hi+1]).map (AV.int .i64))]) (by rw[zH (by simp)];simp);simpa using this) (by simp)
 have za:j=c.length:=by simp at ze;omega
 subst za;rw[yI]at g1;rw[yI];repeat(refine s_ ?_;simp)
 have zj:(Iq c).length<=1024:=by rw[Kb];omega
 refine Qu rfl rfl (Ds H2 q (Iq c) g1 (by omega)) rfl ?_;rintro r H' ⟨rfl,rfl⟩;simp;repeat(refine s_ ?_;simp)
 have g2:=Qg g1 (.arr 3 1 ((E4 (Iq c)).map (AV.int .i64)));have zk:=Ut (Iq c);rw[<-zk];refine Qu rfl rfl (U7 _ q (E4 (Iq c)) g2 (by omega) (Tg _)) rfl ?_;rintro r H' ⟨rfl,G,rfl⟩;simp;have g3:=Qg g1 (.arr 3 1 ((Lib.compact (E4 (Iq c))++G).map (AV.int .i64)));have zg:∀z∈Ae c,-1099511627776<=z/\z<=1099511627777:=λz hz=>by obtain⟨x,hx,h⟩:=g0o c z (q1i _ _ (q0x hz));have:=hc x hx;omega
 have zl:(Ae c).length<=1024:=yP (Tg _) (by omega);change D7 _ (Lib.compact (E4 (Iq c))) []=R at hR;unfold Ae at zg zl;generalize Lib.compact (E4 (Iq c))=cs at *
 repeat(refine s_ ?_;simp)
 refine Qn (sl':=[(0,LIv a),(1,LIv b),(2,.fn (.func g) [] []),(7,.sl q 1 0 cs.length),(10,.nils),(11,.i 0)]) ?_ (by simp);simp only[<-yR];refine Gx q cs.length g3 ?_;rw[yR,List.take_append_of_le_length (by simp),zV (by simp)];have g4:((H2.set q (.arr 3 1 ((cs++G).map (AV.int .i64)))).set q (.arr 3 1 (cs.map (AV.int .i64))))[q]?=some (.arr 3 1 (cs.map (AV.int .i64))):=Qg g3 _;rw[yR]at g4;refine k0s q g4 ?_;simp;refine x0m (H:=[]) _ ?_ (by simp) (by simp) (by simp);refine Q3 10 144 2 rfl ?_;simp;refine Qn (sl':=[(0,LIv a),(1,LIv b),(2,.fn (.func g) [] []),(7,.list (cs.map (AV.int .i64))),(10,.sl 0 2 0 0),(11,.i 0)]) ?_ (by simp;rw[zV (by simp)]);refine Qj ?_;refine Qi (F:=λ(u:Nat×Nat×List Iv×List AObj)=>⟨[(0,LIv a),(1,LIv b),(2,.fn (.func g) [] []),(7,.list (cs.map (AV.int .i64))),(10,.sl u.2.1 2 0 u.2.2.1.length),(11,.i u.1)],u.2.2.2⟩)
  (λu=>u.1<=cs.length/\u.2.2.2[u.2.1]?=some (.arr 144 2 (u.2.2.1.map encIv))/\(∀y∈u.2.2.1,B2 y)/\u.2.2.1.length<=u.1/\D7 (λn=>op (Y5 a n) (Y5 b n)) (cs.drop u.1) u.2.2.1=R) (λu=>cs.length - u.1) ?_ (0,0,[],[.arr 144 2 []]) ⟨by simp,rfl,by simp,by simp,by simpa using hR⟩
 clear hR;rintro⟨j,q,acc,H2⟩ ⟨hj,g1,zc,zm,hI⟩ ih;simp only at hj g1 zc zm hI ih |-;have hw:=wz j (by omega);repeat(refine s_ ?_;simp[hw])
 refine Qb rfl (λzd=>?_) (λze=>?_)
 ·have z7:j+1<cs.length:=by simp at zd;omega
  have z6:j<cs.length:=by omega
  have z1:(j:Int)<cs.length:=by omega
  have zb:(j:Int)+1<cs.length:=by omega
  have zn:((j:Int)+1).toNat=j+1:=by omega
  have zo:(0:Int)<=(j:Int)+1:=by omega
  have hd:cs.drop j=cs[j]::cs[j+1]::cs.drop (j+2):=by rw[Ed z6,Ed z7]
  have zp:cs.drop (j+1)=cs[j+1]::cs.drop (j+2):=Ed z7;rw[hd,D7,<-zp]at hI;repeat(refine s_ ?_;simp)
  refine Qo tOk mixed [] (.val 0 (.val 1 (.val 2 (.val 3 (.val 4 (.val 5 (.val 7 (.val 8 (.val 9 (.val 10 (.val 11 (.one 6 (.one 12 (.one 13 (.done))))))))))))))) rfl (by kernel_rfl) ?_;simp[z6,z1];refine pcL (f02 a cs[j] ha) ?_;simp[z6,z1];refine pcL (f02 b cs[j] hb) ?_;simp[z6,z1];refine pcL (hg (Y5 a cs[j]) (Y5 b cs[j])) ?_;simp[z6,z1];have zw:=zg _ (zL z6);have zx:=zg _ (zL z7);have zf:IntKind.i64.wrap (cs[j+1] - 1)=cs[j+1] - 1:=wrap_i64 _ (by omega) (by omega);refine Qb rfl (λh1=>?_) (λh1=>?_)
  ·rw[if_pos h1]at hI;repeat(refine s_ ?_;simp)
   refine Qo tOk mixed [12] (.val 0 (.val 1 (.val 2 (.val 3 (.val 4 (.val 5 (.val 6 (.val 7 (.val 8 (.val 9 (.val 10 (.val 11 (.one 12 (.val 13 .done)))))))))))))) rfl (by kernel_rfl) ?_;simp[z6,z1,hw,zf,z7,zb,zn,zo];refine Qu rfl rfl (d1t H2 q acc ⟨cs[j],cs[j+1] - 1⟩ g1 (by omega) zc) rfl ?_;rintro r H' ⟨q',rfl,k1,k2,k3⟩;simp;repeat(refine s_ ?_;simp[hw])
   have zq:=x0g acc ⟨cs[j],cs[j+1] - 1⟩;have key:=ih (j+1,q',Wt acc ⟨cs[j],cs[j+1] - 1⟩,H') ⟨by simp only;omega,k1,w1q zc (by unfold B2;simp only;omega),by simp only;omega,hI⟩ (by simp only;omega);exact Qc key (by simp)
  rw[if_neg (by simpa using h1)]at hI;repeat(refine s_ ?_;simp[hw])
  exact Qc (sl':=[(0,LIv a),(1,LIv b),(2,.fn (.func g) [] []),(7,.list (cs.map (AV.int .i64))),(10,.sl q 2 0 acc.length),(11,.i (j+1:Nat))]) (ih (j+1,q,acc,H2) ⟨by simp only;omega,g1,zc,by simp only;omega,hI⟩ (by simp only;omega)) (by simp)
 have za:cs.length<=j+1:=by simp at ze;omega
 have hs:D7 (λn=>op (Y5 a n) (Y5 b n)) (cs.drop j) acc=acc:=by
  rcases hd:cs.drop j with _|⟨x,_|⟨y,r⟩⟩
  ·rfl
  ·rfl
  have:=congrArg List.length hd;simp at this;omega
 rw[hs]at hI;subst hI;repeat(refine s_ ?_;simp[g1])
 rw[zV (by simp)]
end
section
open Go Go.Proofs
attribute [local irreducible] ckR Ic
def Xq(x y:Bool):PC prog 187 [.bool x,.bool y] (λr=>r= .bool (x && y)):=by refine pcB func187 results187 ntmps187 ?_;simp only[Qf];repeat(refine s_ ?_;simp)
def Hu(op:Bool->Bool->Bool)(a b:List Iv):AV:=if Js a b=0 then N5 (Ic op a b)else .tup [.list [],.i (Js a b)]
def g0y{a b:List Iv}(h:Js a b=0):CanonL a/\CanonL b:=by
 unfold Js at h;by_cases h1:ckR a=0
 ·rw[if_pos h1]at h;exact⟨(Dy a).1 h1,(Dy b).1 h⟩
 rw[if_neg h1]at h;exact absurd h h1
attribute [local irreducible] Js
def u03(g:Nat)(op:Bool->Bool->Bool)(hg:∀x y,PC prog g [.bool x,.bool y] (λr=>r= .bool (op x y)))(a b:List Iv):
  PC prog 186 [LIv a,LIv b,.fn (.func g) [] []] (λr=>r=Hu op a b):=by
 refine pcB func186 results186 ntmps186 ?_;simp only[Qf];repeat(refine s_ ?_;simp)
 refine pcL (c1s a b) ?_;simp;repeat(refine s_ ?_;simp)
 refine Qb rfl (λh=>?_) (λh=>?_)
 ·repeat(refine s_ ?_;simp)
  rw[Hu,if_neg (by simpa using h)]
 have h0:Js a b=0:=by simpa using h
 obtain⟨h1,h2⟩:=g0y h0;rw[Hu,if_pos h0];repeat(refine s_ ?_;simp)
 refine pcL (u18 g op hg a b h1 h2) ?_;simp;generalize Ic op a b=s;by_cases hs:s.length<=256
 ·have e:N5 s= .tup [LIv s,.i 0]:=by rw[N5,if_pos hs]
  refine pcL (Lv s) ?_;simp[e];repeat(refine s_ ?_;simp)
 have e:N5 s= .tup [.list [],.i 5]:=by rw[N5,if_neg hs]
 refine pcL (Lv s) ?_;simp[e];repeat(refine s_ ?_;simp)
attribute [local irreducible] Hu
end
def push_comm(acc:List Iv)(x y:Iv)(h:x.lo=y.lo)(hx:x.lo<=x.hi)(hy:y.lo<=y.hi):Wt (Wt acc x) y=Wt (Wt acc y) x:=by
 have one:∀(u v:Iv),u.lo=v.lo->u.lo<=u.hi->∀ini:List Iv,Wt (ini++[u]) v=ini++[⟨u.lo,if u.hi<v.hi then v.hi else u.hi⟩]:=λu v z6 hu ini=>by rw[W7,if_pos (by omega)]
 rcases wW acc with rfl|⟨ini,z,rfl⟩
 ·have e1:Wt [] x=[]++[x]:=rfl;have e2:Wt [] y=[]++[y]:=rfl;rw[e1,e2,one x y h hx,one y x h.symm hy,h]
  congr 3
  split<;>split<;>omega
 rw[wX];by_cases hz:x.lo<=z.hi+1
 ·have z1:∀(w u:Iv),u.lo<=w.hi+1->Wt (ini++[w]) u=ini++[⟨w.lo,if w.hi<u.hi then u.hi else w.hi⟩]:=λw u h=>by rw[W7,if_pos h]
  rw[z1 z x hz,z1 z y (by omega),z1 _ y (by simp only;split<;>omega),z1 _ x (by simp only;split<;>omega)]
  congr 3
  simp only;repeat split
  all_goals omega
 have ap:∀u:Iv,u.lo=x.lo->Wt (ini++[z]) u=ini++[z]++[u]:=λu h=>by rw[W7,if_neg (by omega)]
 rw[ap x rfl,ap y h.symm,one x y h hx,one y x h.symm hy,h]
 congr 3
 split<;>split<;>omega
def Fe:∀(A:List Iv) (acc:List Iv) (x:Iv) (B:List Iv),(∀y∈A,y.lo=x.lo/\y.lo<=y.hi)->x.lo<=x.hi->Qz acc (A++x::B)=Qz acc (x::(A++B))
 |[],acc,x,B,_,_=>rfl
 |y::A,acc,x,B,h,hx=>by have hy:=h y (by simp);have ih:=Fe A (Wt acc y) x B (λz hz=>h z (by simp[hz])) hx;simp only[Qz,tN,xU]at ih |-;rw[ih,push_comm acc y x hy.1 hy.2 hx]
def Ji:∀(l l':List Iv) (acc:List Iv),l.Perm l'->Za l->Za l'->(∀y∈l,y.lo<=y.hi)->Qz acc l=Qz acc l'
 |[],l',acc,hp,_,_,_=>by rw[hp.nil_eq]
 |x::l,l',acc,hp,h1,h2,hf=>by
  obtain⟨A,B,rfl⟩:=List.append_of_mem (hp.mem_iff.1 (List.mem_cons_self));have z6:l.Perm (A++B):=(List.perm_cons x).1 (hp.trans vM);have hA:∀y∈A,y.lo=x.lo/\y.lo<=y.hi:=λy hy=>by
   have z1:y∈x::l:=hp.mem_iff.2 (by simp[hy]);have a1:y.lo<=x.lo:=(yE.1 h2).2.2 y hy x (by simp);have a2:x.lo<=y.lo:=by
    rcases zX.1 z1 with rfl|h
    ·exact xK _
    exact(yK.1 h1).1 y h
   exact⟨by omega,hf y z1⟩
  rw[Fe A acc x B hA (hf x (by simp))];have hb:Za (A++B):=h2.sublist (List.Sublist.append_left (List.sublist_cons_self x B) A);exact Ji l (A++B) (Wt acc x) z6 (yK.1 h1).2 hb (λy hy=>hf y (by simp[hy]))
def q1r(s:List Iv)(x:Iv):(c02 s x).Perm (x::s):=by unfold c02;refine vM.trans ?_;rw[xO]
def J5(s:List Iv)(x:Iv):∀j,j<=s.length->(∀k,Pw s x j<=k->k<j->∀h:k<s.length,x.lo<s[k].lo)/\(∀k,k+1=Pw s x j->∀h:k<s.length,s[k].lo<=x.lo)
 |0,_=>⟨λk _ h=>by omega,λk h=>by simp[Pw]at h⟩
 |j+1,hj=>by
  obtain⟨a,b⟩:=J5 s x j (by omega);have hg:j2v s j x=decide (x.lo<s[j].lo):=by simp[j2v,show j<s.length by omega]
  rw[Pw,hg];by_cases h:decide (x.lo<s[j].lo)=true
  ·rw[if_pos h];refine⟨λk h1 h2 h3=>?_,b⟩;by_cases e:k=j
   ·subst e;simpa using h
   exact a k h1 (by omega) h3
  rw[if_neg h];refine⟨λk h1 h2=>by omega,λk h1 h2=>?_⟩;have e:k=j:=by omega
  subst e;simp at h;omega
def w1d(s:List Iv)(x:Iv)(hs:Za s):Za (c02 s x):=by
 obtain⟨a,b⟩:=J5 s x s.length (zR _);have hq:=H7 s x s.length;unfold c02;generalize Pw s x s.length=q at a b hq;have z6:∀i j,i<j->∀hi:i<s.length,∀hj:j<s.length,s[i].lo<=s[j].lo:=λi j h hi hj=>yL.1 hs i j hi hj h;have z7:∀y∈s.take q,y.lo<=x.lo:=λy hy=>by
  obtain⟨i,hi,rfl⟩:=yZ hy;have za:i<q:=by rw[xV]at hi;omega
  rw[tG];have h1:=b (q - 1) (by omega) (by omega);by_cases e:i=q - 1
  ·subst e;exact h1
  have:=z6 i (q - 1) (by omega) (by omega) (by omega);omega
 have z8:∀y∈s.drop q,x.lo<=y.lo:=λy hy=>by obtain⟨i,hi,rfl⟩:=yZ hy;rw[List.length_drop]at hi;rw[List.getElem_drop];have:=a (q+i) (by omega) (by omega) (by omega);omega
 have z1:=hs;unfold Za at z1 |-;rw[<-xO q s,yE]at z1;obtain⟨p1,p2,p3⟩:=z1;refine yE.2 ⟨p1,yK.2 ⟨z8,p2⟩,λy hy z hz=>?_⟩;rcases zX.1 hz with rfl|h
 ·exact z7 y hy
 exact p3 y hy z h
def Kc:∀(l acc:List Iv),Za acc->(l.foldl c02 acc).Perm (acc++l)/\Za (l.foldl c02 acc)
 |[],acc,h=>⟨by simp,h⟩
 |x::r,acc,h=>by obtain⟨a,b⟩:=Kc r (c02 acc x) (w1d acc x h);refine⟨a.trans ?_,b⟩;exact((q1r acc x).append_right r).trans vM.symm
def O8(l:List Iv):(Ox l).Perm l/\Za (Ox l):=by have:=Kc l [] .nil;simpa[Ox]using this
def M(l:List Iv)(n:Int):Prop:=∃x∈l,x.lo<=n/\n<=x.hi
def Sep(l:List Iv):Prop:=(∀x∈l,x.lo<=x.hi)/\l.Pairwise (λx y=>x.hi+2<=y.lo)
def Pz(n:Int):M [] n↔False:=by simp[M]
def Eh(x:Iv)(l:List Iv)(n:Int):M (x::l) n↔(x.lo<=n/\n<=x.hi)\/M l n:=by simp[M]
def Kw(a b:List Iv)(n:Int):M (a++b) n↔M a n\/M b n:=by simp[M,or_and_right,exists_or]
def Iw(l:List Iv)(n:Int):Y5 l n=true↔M l n:=by simp[Y5,M]
def Sep.tail{x:Iv}{l:List Iv}(h:Sep (x::l)):Sep l:=⟨λy hy=>h.1 y (by simp[hy]),(yK.1 h.2).2⟩
def Sep.low{x:Iv}{l:List Iv}(h:Sep (x::l)){n:Int}(hm:M l n):x.hi+2<=n:=by obtain⟨y,hy,h1,h2⟩:=hm;have:=(yK.1 h.2).1 y hy;omega
def Sep.lowc{x:Iv}{l:List Iv}(h:Sep (x::l)){n:Int}(hm:M (x::l) n):x.lo<=n:=by
 rcases(Eh ..).1 hm with h1|h1
 ·exact h1.1
 have:=h.low h1;have:=h.1 x (by simp);omega
def w0d:∀(a b:List Iv),Sep a->Sep b->(∀n,M a n↔M b n)->a=b
 |[],[],_,_,_=>rfl
 |[],y::b,_,hb,h=>by have:=(h y.lo).2 ((Eh ..).2 (.inl ⟨xK _,hb.1 y (by simp)⟩));exact absurd this (by simp[M])
 |x::a,[],ha,_,h=>by have:=(h x.lo).1 ((Eh ..).2 (.inl ⟨xK _,ha.1 x (by simp)⟩));exact absurd this (by simp[M])
 |x::a,y::b,ha,hb,h=>by
  have hx:=ha.1 x (by simp);have hy:=hb.1 y (by simp);have e1:x.lo=y.lo:=by have h1:=hb.lowc ((h x.lo).1 ((Eh ..).2 (.inl ⟨xK _,hx⟩)));have h2:=ha.lowc ((h y.lo).2 ((Eh ..).2 (.inl ⟨xK _,hy⟩)));omega
  have e2:x.hi=y.hi:=by
   rcases tO x.hi y.hi with hlt|heq|hgt
   ·rcases(Eh ..).1 ((h (x.hi+1)).2 ((Eh ..).2 (.inl ⟨by omega,by omega⟩)))with h1|h1
    ·omega
    have:=ha.low h1;omega
   ·exact heq
   rcases(Eh ..).1 ((h (y.hi+1)).1 ((Eh ..).2 (.inl ⟨by omega,by omega⟩)))with h1|h1
   ·omega
   have:=hb.low h1;omega
  have e3:x=y:=by cases x;cases y;simp_all
  subst e3;rw[w0d a b ha.tail hb.tail λn=>⟨λhm=>?_,λhm=>?_⟩]
  ·have h1:=ha.low hm;rcases(Eh ..).1 ((h n).1 ((Eh ..).2 (.inr hm)))with h2|h2
   ·omega
   exact h2
  have h1:=hb.low hm;rcases(Eh ..).1 ((h n).2 ((Eh ..).2 (.inr hm)))with h2|h2
  ·omega
  exact h2
def Sl{l:List Iv}(h:CanonL l):Sep l:=
 ⟨λx hx=>(Bj (h.one x hx)).2,yL.2 λ_ _ hi hj z1=>O4 h z1 hj hi⟩
def Xp{l:List Iv}(h:CanonL l):∀x∈l,Sz x:=λx hx=>(Bj (h.one x hx)).1
def c1e{l:List Iv}(h:CanonL l){n:Int}(hm:M l n): -1099511627776<=n/\n<=1099511627776:=by obtain⟨x,hx,h1,h2⟩:=hm;have h3:=Xp h x hx;have h4:=(Es _).1 h3.1;have h5:=(Es _).1 h3.2;omega
def Sr{l:List Iv}(h:Sep l)(hi:∀x∈l,Sz x)(hl:l.length<=256):CanonL l:=
 ⟨hl,λy hy=>by
  have h1:=hi y hy;have h2:=h.1 y hy;have h4:=h1.1;have h5:=h1.2;simp[Fm,h4,h5];omega,λj hj=>yL.1 h.2 j (j+1) (by omega) hj (by omega)⟩
def g1l(acc:List Iv)(x:Iv)(ha:Sep acc)(hx:x.lo<=x.hi)(hle:∀y∈acc,y.lo<=x.lo):
  Sep (Wt acc x)/\(∀n,M (Wt acc x) n↔M acc n\/(x.lo<=n/\n<=x.hi))/\(∀z,x.lo<=z->∀y∈Wt acc x,y.lo<=z):=by
 rcases wW acc with rfl|⟨ini,y,rfl⟩
 ·have e:Wt [] x=[x]:=rfl;rw[e];exact⟨⟨λy hy=>by simp at hy;subst hy;exact hx,by simp⟩,λn=>by simp[M],λz hz y hy=>by simp at hy;subst hy;exact hz⟩
 rw[wX]at ha hle |-;rw[W7];have hy:=ha.1 y (by simp);have z1:=hle y (by simp);obtain⟨p1,p2,p3⟩:=yE.1 ha.2;split
 ·rename_i hj;refine⟨⟨λz hz=>?_,yE.2 ⟨p1,by simp,λu hu v hv=>?_⟩⟩,λn=>?_,λz hz u hu=>?_⟩
  ·rcases zT.1 hz with h|h
   ·exact ha.1 z (by simp[h])
   simp at h;subst h;simp only;split<;>omega
  ·simp at hv;subst hv;exact p3 u hu y (by simp)
  ·rw[Kw,Kw,Eh,Eh,Pz];simp only[or_false];by_cases hm:M ini n
   ·simp[hm]
   simp only[hm,false_or];split<;>omega
  rcases zT.1 hu with h|h
  ·have:=hle u (by simp[h]);omega
  simp at h;subst h;simp only;omega
 rename_i hj;refine⟨⟨λz hz=>?_,yE.2 ⟨ha.2,by simp,λu hu v hv=>?_⟩⟩,λn=>by rw[Kw,Eh,Pz];simp,λz hz u hu=>?_⟩
 ·rcases zT.1 hz with h|h
  ·exact ha.1 z h
  simp at h;subst h;exact hx
 ·simp at hv;subst hv;rcases zT.1 hu with h|h
  ·have:=p3 u h y (by simp);omega
  simp at h;subst h;omega
 rcases zT.1 hu with h|h
 ·have:=hle u h;omega
 simp at h;subst h;exact hz
def O7:∀(l acc:List Iv),Sep acc->Za l->(∀x∈l,x.lo<=x.hi)->(∀y∈acc,∀x∈l,y.lo<=x.lo)->
  Sep (Qz acc l)/\∀n,M (Qz acc l) n↔M acc n\/M l n
 |[],acc,ha,_,_,_=>⟨ha,λn=>by simp[Qz,M]⟩
 |x::l,acc,ha,hb,hf,hle=>by have hp:=g1l acc x ha (hf x (by simp)) (λy hy=>hle y hy x (by simp));have ih:=O7 l (Wt acc x) hp.1 (yK.1 hb).2 (λy hy=>hf y (by simp[hy])) (λy hy z hz=>hp.2.2 z.lo ((yK.1 hb).1 z hz) y hy);refine⟨ih.1,λn=>?_⟩;have e:Qz acc (x::l)=Qz (Wt acc x) l:=rfl;rw[e,ih.2 n,hp.2.1 n,Eh,or_assoc]
def X0:Sep []:=⟨by simp,by simp⟩
def x23{a b:List Iv}(h:a.Perm b)(n:Int):M a n↔M b n:=by simp only[M];exact⟨λ⟨x,hx,h1⟩=>⟨x,h.mem_iff.1 hx,h1⟩,λ⟨x,hx,h1⟩=>⟨x,h.mem_iff.2 hx,h1⟩⟩
def Uw(l:List Iv)(hf:∀x∈l,x.lo<=x.hi):Sep (Ez l)/\∀n,M (Ez l) n↔M l n:=by have hs:=O8 l;have h:=O7 (Ox l) [] X0 hs.2 (λx hx=>hf x (hs.1.mem_iff.1 hx)) (by simp);refine⟨h.1,λn=>?_⟩;rw[Ez,h.2 n,Pz,false_or,x23 hs.1]
def pieces(f:Int->Bool):List Int->List Iv
 |c::d::r=>(if f c=true then [⟨c,d - 1⟩]else [])++pieces f (d::r)
 |_=>[]
def V4(f:Int->Bool):∀(cs:List Int) (acc:List Iv),D7 f cs acc=Qz acc (pieces f cs)
 |[],acc=>rfl
 |[c],acc=>rfl
 |c::d::r,acc=>by rw[D7,V4 f (d::r),pieces];split<;>rfl
def Mn(f:Int->Bool):∀(cs:List Int),cs.Pairwise (·<·)->(∀x∈pieces f cs,x.lo<=x.hi/\x.lo∈cs)/\Za (pieces f cs)
 |[],_=>⟨by simp[pieces],by simp[pieces,Za]⟩
 |[c],_=>⟨by simp[pieces],by simp[pieces,Za]⟩
 |c::d::r,h=>by
  have ih:=Mn f (d::r) (yK.1 h).2;have z1:=(yK.1 h).1 d (by simp);have hc:=(yK.1 h).1;rw[pieces];split
  ·refine⟨λx hx=>?_,yE.2 ⟨by simp,ih.2,λu hu v hv=>?_⟩⟩
   ·rcases zT.1 hx with h1|h1
    ·simp at h1;subst h1;exact⟨by simp only;omega,by simp⟩
    exact⟨(ih.1 x h1).1,vE _ (ih.1 x h1).2⟩
   simp at hu;subst hu;have:=hc v.lo (ih.1 v hv).2;simp only;omega
  refine⟨λx hx=>?_,by simpa using ih.2⟩;have h1:x∈pieces f (d::r):=by simpa using hx
  exact⟨(ih.1 x h1).1,vE _ (ih.1 x h1).2⟩
def z0m(f:Int->Bool):∀(cs:List Int),cs.Pairwise (·<·)->(∀c n,c∈cs->c<=n->(∀d∈cs,d<=n->d<=c)->f n=f c)->(∀n,(∀d∈cs,d<=n)->f n=false)->
  ∀n,M (pieces f cs) n↔(∃c∈cs,c<=n)/\f n=true
 |[],_,_,_,n=>by simp[pieces,M]
 |[c],_,h1,h2,n=>by simp only[pieces,Pz,false_iff];rintro⟨⟨d,hd,z6⟩,hf⟩;rw[h2 n λe he=>by simp at hd he;omega]at hf;exact absurd hf (by simp)
 |c::d::r,h,h1,h2,n=>by
  have hc:=(yK.1 h).1;have hd:=(yK.1 (yK.1 h).2).1;have za:=hc d (by simp);have ih:=z0m f (d::r) (yK.1 h).2
   (λc' n' z8 z7 hm=>h1 c' n' (vE _ z8) z7 λe he z1=>by
    rcases zX.1 he with rfl|he
    ·have:=hc c' z8;omega
    exact hm e he z1)
   (λn' z7=>h2 n' λe he=>by
    rcases zX.1 he with rfl|he
    ·have:=z7 d (by simp);omega
    exact z7 e he) n
  rw[pieces,Kw,ih];by_cases z6:d<=n
  ·have e1:M (if f c=true then [(⟨c,d - 1⟩:Iv)]else []) n↔False:=by
    split
    ·rw[Eh,Pz,or_false,iff_false];exact λh=>by have:=h.2;simp only at this;omega
    exact Pz n
   rw[e1,false_or];exact⟨λ⟨_,hf⟩=>⟨⟨d,by simp,z6⟩,hf⟩,λ⟨_,hf⟩=>⟨⟨d,by simp,z6⟩,hf⟩⟩
  have e2:¬ ∃e∈d::r,e<=n:=by
   rintro⟨e,he,z1⟩;rcases zX.1 he with rfl|he
   ·exact z6 z1
   have:=hd e he;omega
  simp only[e2,false_and,or_false];by_cases hcn:c<=n
  ·have e3:f n=f c:=h1 c n (by simp) hcn λe he z1=>by
    rcases zX.1 he with rfl|he
    ·exact xK _
    exact absurd ⟨e,he,z1⟩ e2
   rw[e3];by_cases hfc:f c=true
   ·rw[if_pos hfc,Eh,Pz];simp[hfc,hcn];omega
   rw[if_neg hfc,Pz];simp[hfc]
  have e4:¬ ∃e∈c::d::r,e<=n:=by
   rintro⟨e,he,z1⟩;rcases zX.1 he with rfl|he
   ·exact hcn z1
   exact e2 ⟨e,he,z1⟩
  simp only[e4,false_and,iff_false];split
  ·rw[Eh,Pz,or_false];exact λh=>hcn h.1
  exact λh=>(Pz n).1 h
section
open Go Go.Proofs
def d0m(op:Bool->Bool->Bool)(a b:List Iv):∃s n,Hu op a b= .tup [LIv s,.i n]:=by
 unfold Hu N5;split
 ·split
  ·exact⟨_,_,rfl⟩
  exact⟨[],5,rfl⟩
 exact⟨[],_,rfl⟩
attribute [local irreducible] Hu Js Ic
def P5(x y:Bool):Bool:=x && y
def Mb(a b:List Iv):PC prog 123 [LIv a,LIv b] (λr=>r=Hu P5 a b):=by
 refine pcB func123 results123 ntmps123 ?_;simp only[Qf];repeat(refine s_ ?_;simp)
 obtain⟨s,n,e⟩:=d0m P5 a b;refine pcL (u03 _ P5 Xq a b) ?_;simp[e];repeat(refine s_ ?_;simp)
end
section
open Go Go.Proofs
def Rp:List Iv->Int->List Iv
 |[],n=>if n<=1099511627776 then [⟨n,1099511627776⟩]else []
 |x::r,n=>(if n<x.lo then [⟨n,x.lo - 1⟩]else [])++Rp r (x.hi+1)
def E3(l:List Iv):List Iv:=Rp l (-1099511627776)
end
section
open Go
def f0g:∀(l:List Iv) (z:Int),z∈Iq l↔∃x∈l,z=x.lo\/z=x.hi+1
 |[],z=>by simp[Iq]
 |y::r,z=>by rw[Iq,zX,zX,f0g r z];simp[or_assoc]
def Bv(zs:List Int)(hs:zs.Pairwise (·<=·)):∀m,m<=zs.length->
  (Lib.compactUpTo zs.toArray m).Pairwise (·<·)/\(∀z,z∈Lib.compactUpTo zs.toArray m↔z∈zs.take m):=by
 intro m;induction m with
 |zero=>exact λ_=>⟨by simp[Lib.compactUpTo],by simp[Lib.compactUpTo]⟩
 |succ m ih=>
  intro hm;obtain⟨h1,h2⟩:=ih (by omega);have z1:m<zs.length:=by omega
  have hg:zs.toArray[m]! =zs[m]:=by simp[z1]
  rw[Lib.compactUpTo_succ];have ht:zs.take (m+1)=zs.take m++[zs[m]]:=by rw[zU z1]
  by_cases hk:Lib.keeps zs.toArray m=true
  ·rw[if_pos hk,hg,ht];refine⟨yE.2 ⟨h1,by simp,λu hu v hv=>?_⟩,λz=>by rw[zT,zT,h2]⟩;simp at hv;subst hv;obtain⟨i,hi,rfl⟩:=yZ ((h2 u).1 hu);have za:i<m:=by simp at hi;omega
   rw[tG];have zb:zs[m]≠zs[m - 1]:=by
    simp[Lib.keeps]at hk;have z6:m≠0:=by omega
    have hk:=hk.resolve_left z6;simpa[z1,show m - 1<zs.length by omega]using hk
   have a1:zs[i]<=zs[m - 1]:=by
    rcases Nat.lt_or_ge i (m - 1)with h|h
    ·exact yL.1 hs i (m - 1) (by omega) (by omega) h
    have:i=m - 1:=by omega
    subst this;exact xK _
   have a2:zs[m - 1]<=zs[m]:=yL.1 hs (m - 1) m (by omega) (by omega) (by omega);omega
  rw[if_neg hk,xG,ht];refine⟨h1,λz=>?_⟩;rw[h2,zT];refine⟨.inl,λh=>h.elim id λh=>?_⟩;simp at h;subst h;simp only[Lib.keeps,decide_eq_true_eq,not_or]at hk;have z7:m - 1<zs.length:=by omega
  have z8:zs[m]=zs[m - 1]:=by simpa[z1,z7]using hk.2
  rw[z8];exact List.mem_take_iff_getElem.2 ⟨m - 1,by omega,rfl⟩
def Nc(l:List Iv):(Ae l).Pairwise (·<·)/\∀z,z∈Ae l↔∃x∈l,z=x.lo\/z=x.hi+1:=by
 have hs:(E4 (Iq l)).Pairwise (·<=·):=by have:=ul (le:=λx y:Int=>decide (x<=y)) (λa b c h1 h2=>by simp at h1 h2 |-;omega) (λa b=>by simp;omega) (Iq l);simpa[E4]using this
 have h:=Bv _ hs _ (zR _);refine⟨h.1,λz=>?_⟩;have h2:=h.2 z;rw[yI]at h2;rw[Ae,Lib.compact,h2,E4,tD,f0g]
def Kd(l:List Iv)(cs:List Int)(h:∀x∈l,x.lo∈cs/\x.hi+1∈cs)(c n:Int)(hc:c<=n)(hm:∀d∈cs,d<=n->d<=c):Y5 l n=Y5 l c:=by
 rw[wK,Iw,Iw];constructor
 ·rintro⟨x,hx,h1,h2⟩;have:=hm _ (h x hx).1 h1;exact⟨x,hx,this,by omega⟩
 rintro⟨x,hx,h1,h2⟩;refine⟨x,hx,by omega,?_⟩;by_cases hn:x.hi+1<=n
 ·have:=hm _ (h x hx).2 hn;omega
 omega
def y1h(l:List Iv)(cs:List Int)(h:∀x∈l,x.lo∈cs/\x.hi+1∈cs)(n:Int)(hm:∀d∈cs,d<=n):Y5 l n=false:=by rw[Bool.eq_false_iff];intro hh;obtain⟨x,hx,h1,h2⟩:=(Iw ..).1 hh;have:=hm _ (h x hx).2;omega
def u0l(op:Bool->Bool->Bool)(h0:op false false=false)(a b:List Iv):
  Sep (Ic op a b)/\(∀n,M (Ic op a b) n↔op (Y5 a n) (Y5 b n)=true)/\(Ic op a b).length<=2 * (a.length+b.length):=by
 obtain⟨z6,z1⟩:=Nc (a++b);have ha:∀x∈a,x.lo∈Ae (a++b)/\x.hi+1∈Ae (a++b):=λx hx=>⟨(z1 _).2 ⟨x,by simp[hx],.inl rfl⟩,(z1 _).2 ⟨x,by simp[hx],.inr rfl⟩⟩
 have hb:∀x∈b,x.lo∈Ae (a++b)/\x.hi+1∈Ae (a++b):=λx hx=>⟨(z1 _).2 ⟨x,by simp[hx],.inl rfl⟩,(z1 _).2 ⟨x,by simp[hx],.inr rfl⟩⟩
 have hlen:(Ae (a++b)).length<=2 * (a.length+b.length):=by rw[Ae];have h1:=Tg (E4 (Iq (a++b)));rw[Ut,Kb,zW]at h1;exact h1
 rw[Ic,V4];generalize Ae (a++b)=cs at z6 ha hb hlen |-;have hp:=Mn (λn=>op (Y5 a n) (Y5 b n)) cs z6;have hM:=z0m (λn=>op (Y5 a n) (Y5 b n)) cs z6
  (λc n _ z7 hm=>by rw[Kd a cs ha c n z7 hm,Kd b cs hb c n z7 hm])
  (λn hn=>by rw[y1h a cs ha n hn,y1h b cs hb n hn,h0])
 have hs:=O7 _ [] X0 hp.2 (λx hx=>(hp.1 x hx).1) (by simp);refine⟨hs.1,λn=>?_,?_⟩
 ·rw[hs.2 n,Pz,false_or,hM n];refine⟨λh=>h.2,λh=>⟨?_,h⟩⟩;cases hA:Y5 a n with
  |true=>obtain⟨x,hx,h1,_⟩:=(Iw ..).1 hA;exact⟨_,(ha x hx).1,h1⟩
  |false=>
   cases hB:Y5 b n with
   |true=>obtain⟨x,hx,h1,_⟩:=(Iw ..).1 hB;exact⟨_,(hb x hx).1,h1⟩
   |false=>rw[hA,hB,h0]at h;exact absurd h (by simp)
 have h1:=Rs (pieces (λn=>op (Y5 a n) (Y5 b n)) cs) [];have h2:∀(f:Int->Bool) (cs:List Int),(pieces f cs).length<=cs.length:=by
  intro f cs;induction cs with
  |nil=>simp[pieces]
  |cons c r ih=>
   cases r with
   |nil=>simp[pieces]
   |cons d r=>rw[pieces,zW,yW];split<;>simp at ih |-<;>omega
 have:=h2 (λn=>op (Y5 a n) (Y5 b n)) cs;simp at h1;omega
def Mg{l:List Iv}(h:Sep l)(hb:∀n,M l n-> -1099511627776<=n/\n<=1099511627776):∀x∈l,Sz x:=λx hx=>
 ⟨(Es _).2 (hb _ ⟨x,hx,xK _,h.1 x hx⟩),(Es _).2 (hb _ ⟨x,hx,h.1 x hx,xK _⟩)⟩
def Oi:∀(l:List Iv) (s:Int),(∀x∈l,x.lo<=x.hi/\x.hi<=1099511627776)->l.Pairwise (λx y=>x.hi+2<=y.lo)->(∀x∈l,s<=x.lo)->
  Sep (Rp l s)/\(∀n,M (Rp l s) n↔s<=n/\n<=1099511627776/\¬M l n)/\(Rp l s).length<=l.length+1
 |[],s,_,_,_=>by
  rw[Rp];split
  ·exact⟨⟨λx hx=>by simp at hx;subst hx;assumption,by simp⟩,λn=>by rw[Eh,Pz];simp[Pz],by simp⟩
  exact⟨X0,λn=>by simp[Pz];omega,by simp⟩
 |x::l,s,hf,hp,hs=>by
  have hx:=hf x (by simp);have z7:=hs x (by simp);have z1:=(yK.1 hp).1;obtain⟨i1,i2,i3⟩:=Oi l (x.hi+1) (λy hy=>hf y (by simp[hy])) (yK.1 hp).2 (λy hy=>by have:=z1 y hy;omega);have z6:∀n,M l n->x.hi+2<=n:=by rintro n ⟨y,hy,h1,h2⟩;have:=z1 y hy;omega
  rw[Rp];split
  ·refine⟨⟨λy hy=>?_,?_⟩,λn=>?_,by simp;omega⟩
   ·rcases zT.1 hy with h|h
    ·simp at h;subst h;simp only;omega
    exact i1.1 y h
   ·refine yE.2 ⟨by simp,i1.2,λu hu v hv=>?_⟩;simp at hu;subst hu;have:=(i2 v.lo).1 ⟨v,hv,xK _,i1.1 v hv⟩;simp only;omega
   rw[Kw,i2,Eh,Pz,Eh];by_cases hm:M l n
   ·have:=z6 n hm;simp[hm];omega
   simp only[hm,not_false_eq_true,and_true,or_false];omega
  refine⟨⟨λy hy=>i1.1 y (by simpa using hy),by simpa using i1.2⟩,λn=>?_,by simp;omega⟩;rw[List.nil_append,i2,Eh];by_cases hm:M l n
  ·simp[hm]
  simp only[hm,not_false_eq_true,and_true,or_false];omega
def I5{l:List Iv}(h:CanonL l):Sep (E3 l)/\(∀n,M (E3 l) n↔(-1099511627776<=n/\n<=1099511627776)/\¬M l n)/\(E3 l).length<=l.length+1:=by have hs:=Sl h;have hi:=Xp h;have:=Oi l (-1099511627776) (λx hx=>⟨hs.1 x hx,((Es _).1 (hi x hx).2).2⟩) hs.2 (λx hx=>((Es _).1 (hi x hx).1).1);exact⟨this.1,λn=>by rw[E3,this.2.1,and_assoc],this.2.2⟩
def g0p(x y:Iv):Option Iv:=if(if x.lo<y.lo then y.lo else x.lo)<=(if y.hi<x.hi then y.hi else x.hi)then some ⟨if x.lo<y.lo then y.lo else x.lo,if y.hi<x.hi then y.hi else x.hi⟩else none
def Nd(a b:List Iv):List Iv:=a.flatMap λx=>b.filterMap (g0p x)
def Vy{x y z:Iv}(h:g0p x y=some z):z.lo<=z.hi/\∀n,(z.lo<=n/\n<=z.hi)↔(x.lo<=n/\n<=x.hi)/\(y.lo<=n/\n<=y.hi):=by
 unfold g0p at h;by_cases hle:(if x.lo<y.lo then y.lo else x.lo)<=(if y.hi<x.hi then y.hi else x.hi)
 ·rw[if_pos hle]at h;cases h;refine⟨hle,λn=>?_⟩;simp only;split<;>split<;>omega
 rw[if_neg hle]at h;cases h
def u2q{x y:Iv}{n:Int}(h1:x.lo<=n/\n<=x.hi)(h2:y.lo<=n/\n<=y.hi):∃z,g0p x y=some z/\z.lo<=n/\n<=z.hi:=by
 unfold g0p;have:(if x.lo<y.lo then y.lo else x.lo)<=(if y.hi<x.hi then y.hi else x.hi):=by split<;>split<;>omega
 rw[if_pos this];refine⟨_,rfl,?_,?_⟩<;>simp only<;>split<;>omega
def K5(a b:List Iv):(∀x∈Nd a b,x.lo<=x.hi)/\∀n,M (Nd a b) n↔M a n/\M b n:=by
 constructor
 ·intro z hz;obtain⟨x,_,hz⟩:=xS.1 hz;obtain⟨y,_,h⟩:=wI.1 hz;exact(Vy h).1
 intro n;constructor
 ·rintro⟨z,hz,h1⟩;obtain⟨x,hx,hz⟩:=xS.1 hz;obtain⟨y,hy,h⟩:=wI.1 hz;have:=((Vy h).2 n).1 h1;exact⟨⟨x,hx,this.1⟩,⟨y,hy,this.2⟩⟩
 rintro⟨⟨x,hx,h1⟩,⟨y,hy,h2⟩⟩;obtain⟨z,hz,h3⟩:=u2q h1 h2;exact⟨z,xS.2 ⟨x,hx,wI.2 ⟨y,hy,hz⟩⟩,h3⟩
def Uo(a b:List Iv):List Iv:=Ez (Nd a b)
def Um(a b:List Iv):Sep (Uo a b)/\∀n,M (Uo a b) n↔M a n/\M b n:=by have h:=Uw (Nd a b) (K5 a b).1;exact⟨h.1,λn=>by rw[Uo,h.2,(K5 a b).2]⟩
def inter_eq(a b:List Iv):Ic P5 a b=Uo a b:=by have h1:=u0l P5 rfl a b;have h2:=Um a b;refine w0d _ _ h1.1 h2.1 λn=>?_;rw[h1.2.1,h2.2,P5,Bool.and_eq_true,Iw,Iw]
end
section
open Go
def b2(b:Bool):Int:=if b=true then 1 else 0
end
section
open Go
end
section
open Go
end
section
open Go
end
abbrev Prd:=List (List Iv)
def PM(p:Prd)(t:Nat)(n:Int):Prop:=∃s,p[t]?=some s/\M s n
def inR(n:Int):Prop:= -1099511627776<=n/\n<=1099511627776
def PWf(T:Nat)(p:Prd):Prop:=p.length=T/\∀s∈p,Sep s/\∀n,M s n->inR n
def PWf.lt{T:Nat}{p:Prd}(h:PWf T p){t:Nat}{n:Int}(hm:PM p t n):t<T/\inR n:=by obtain⟨s,hs,hn⟩:=hm;exact⟨by rw[<-h.1];exact(zB.1 hs).1,(h.2 s (zJ hs)).2 n hn⟩
def P4{T:Nat}{p q:Prd}(hp:PWf T p)(hq:PWf T q)(h:∀t n,PM p t n↔PM q t n):p=q:=by apply List.ext_getElem (by rw[hp.1,hq.1]);intro i h1 h2;refine w0d _ _ (hp.2 _ (zL h1)).1 (hq.2 _ (zL h2)).1 λn=>?_;have:=h i n;unfold PM at this;rw[zI h1,zI h2]at this;simpa using this
def Ik(t:Nat)(n:Int)(t':Nat)(n':Int):Prop:=t<t'\/t=t'/\n<n'
def Ik.irr{t:Nat}{n:Int}(h:Ik t n t n):False:=by unfold Ik at h;omega
def Ik.trans{a b c:Nat}{x y z:Int}(h:Ik a x b y)(k:Ik b y c z):Ik a x c z:=by unfold Ik at *;omega
def u2k(l:List Prd)(t:Nat)(n:Int)(t':Nat)(n':Int):Prop:=∀p∈l,PM p t n↔PM p t' n'
structure Prts (T:Nat) (l L:List Prd):Prop where
 wf:∀p∈L,PWf T p
 ne:∀p∈L,∃t n,PM p t n
 all:∀t n,t<T->inR n->∃p∈L,PM p t n
 cls:∀p∈L,∀t n,PM p t n->∀t' n',PM p t' n'↔t'<T/\inR n'/\u2k l t n t' n'
def u0o(p q:Prd):Prop:=∃t n,PM p t n/\∀t' n',PM q t' n'->Ik t n t' n'
def u0o.irr{p:Prd}(h:u0o p p):False:=by obtain⟨t,n,h1,h2⟩:=h;exact(h2 t n h1).irr
def u0o.asymm{p q:Prd}(h:u0o p q)(k:u0o q p):False:=by obtain⟨t,n,h1,h2⟩:=h;obtain⟨t',n',k1,k2⟩:=k;exact((h2 t' n' k1).trans (k2 t n h1)).irr
def Prts.same{T:Nat}{l L L':List Prd}(h:Prts T l L)(h':Prts T l L'){p:Prd}(hp:p∈L):p∈L':=by
 obtain⟨t,n,hm⟩:=h.ne p hp;obtain⟨ht,hn⟩:=(h.wf p hp).lt hm;obtain⟨q,hq,z1⟩:=h'.all t n ht hn;have:p=q:=P4 (h.wf p hp) (h'.wf q hq) λt' n'=>by rw[h.cls p hp t n hm,h'.cls q hq t n z1]
 rw[this];exact hq
def Prts.unique{T:Nat}{l L L':List Prd}(h:Prts T l L)(h':Prts T l L')(s:L.Pairwise u0o)(s':L'.Pairwise u0o):L=L':=by have z1:∀ {X:List Prd},X.Pairwise u0o->X.Nodup:=λhx=>hx.imp (λh e=>by subst e;exact h.irr);refine List.Perm.eq_of_pairwise (le:=u0o) (λa b _ _ h1 h2=>(h1.asymm h2).elim) s s' ?_;exact(u7 (z1 s) (z1 s')).2 λp=>⟨h.same h',h'.same h⟩
def Prts.disj{T:Nat}{l L:List Prd}(h:Prts T l L){p q:Prd}(hp:p∈L)(hq:q∈L){t:Nat}{n:Int}(h1:PM p t n)(h2:PM q t n):p=q:=
 P4 (h.wf p hp) (h.wf q hq) λt' n'=>by rw[h.cls p hp t n h1,h.cls q hq t n h2]
def Prts.perm{T:Nat}{l L L':List Prd}(h:Prts T l L)(e:L.Perm L'):Prts T l L':=
 ⟨λp hp=>h.wf p (e.mem_iff.2 hp),λp hp=>h.ne p (e.mem_iff.2 hp),λt n a b=>by obtain⟨p,hp,hm⟩:=h.all t n a b;exact⟨p,e.mem_iff.1 hp,hm⟩,λp hp=>h.cls p (e.mem_iff.2 hp)⟩
def Ea(T:Nat):Prd:=yB T (E3 [])
def Wn(c p:Prd):Prd:=sd Uo c p
def T6(p:Prd):Prd:=p.map E3
def Wj(p:Prd):Bool:=p.all (·.isEmpty)
def Y0(p:Prd)(L:List Prd):List Prd:=L.flatMap λc=>(if Wj (Wn c p)then []else [Wn c p])++(if Wj (Wn c (T6 p))then []else [Wn c (T6 p)])
def Pd(T:Nat)(l:List Prd):List Prd:=l.foldl (λL p=>Y0 p L) [Ea T]
def PCk(T:Nat)(p:Prd):Prop:=p.length=T/\∀s∈p,CanonL s
def PCk.wf{T:Nat}{p:Prd}(h:PCk T p):PWf T p:=⟨h.1,λs hs=>⟨Sl (h.2 s hs),λn hn=>c1e (h.2 s hs) hn⟩⟩
def Sw:CanonL []:=⟨by simp,by simp,λj h=>by simp at h⟩
def Ga(T t:Nat)(n:Int):PM (Ea T) t n↔t<T/\inR n:=by
 unfold PM Ea;have hg:=(I5 Sw).2.1 n;constructor
 ·rintro⟨s,hs,hm⟩;rw[vD]at hs;split at hs
  ·cases hs;exact⟨by assumption,(hg.1 hm).1⟩
  cases hs
 rintro⟨h1,h2⟩;exact⟨E3 [],by rw[vD,if_pos h1],hg.2 ⟨h2,by simp[M]⟩⟩
def Cl(T:Nat):PWf T (Ea T):=⟨by simp[Ea],λs hs=>by
 obtain rfl:=vO hs;exact⟨(I5 Sw).1,λn hn=>(((I5 Sw).2.1 n).1 hn).1⟩⟩
def Eo{T:Nat}{c p:Prd}(hc:c.length=T)(hp:p.length=T)(t:Nat)(n:Int):PM (Wn c p) t n↔PM c t n/\PM p t n:=by
 unfold PM Wn;constructor
 ·rintro⟨s,hs,hm⟩;rw[vA]at hs;cases h1:c[t]? with
  |none=>rw[h1]at hs;simp at hs
  |some a=>
   cases h2:p[t]? with
   |none=>rw[h1,h2]at hs;simp at hs
   |some b=>rw[h1,h2]at hs;simp at hs;subst hs;have:=((Um a b).2 n).1 hm;exact⟨⟨a,rfl,this.1⟩,⟨b,rfl,this.2⟩⟩
 rintro⟨⟨a,h1,m1⟩,⟨b,h2,m2⟩⟩;exact⟨Uo a b,by rw[vA,h1,h2],((Um a b).2 n).2 ⟨m1,m2⟩⟩
def Tu{T:Nat}{c p:Prd}(hc:PWf T c)(hp:p.length=T):PWf T (Wn c p):=by
 refine⟨by simp[Wn,hc.1,hp],λs hs=>?_⟩;obtain⟨i,hi⟩:=yH.1 hs;unfold Wn at hi;rw[vA]at hi;cases h1:c[i]? with
 |none=>rw[h1]at hi;simp at hi
 |some a=>
  cases h2:p[i]? with
  |none=>rw[h1,h2]at hi;simp at hi
  |some b=>rw[h1,h2]at hi;simp at hi;subst hi;exact⟨(Um a b).1,λn hn=>(hc.2 a (zJ h1)).2 n (((Um a b).2 n).1 hn).1⟩
def Cr{T:Nat}{p:Prd}(hp:PCk T p)(t:Nat)(n:Int):PM (T6 p) t n↔(t<T/\inR n)/\¬PM p t n:=by
 unfold PM T6;rw[zS];constructor
 ·rintro⟨s,hs,hm⟩;obtain⟨a,ha,rfl⟩:=zP.1 hs;have hg:=((I5 (hp.2 a (zJ ha))).2.1 n).1 hm;refine⟨⟨by rw[<-hp.1];exact(zB.1 ha).1,hg.1⟩,?_⟩;rintro⟨b,hb,z1⟩;rw[ha]at hb;cases hb;exact hg.2 z1
 rintro⟨⟨h1,h2⟩,h3⟩;have hl:t<p.length:=by rw[hp.1];exact h1
 refine⟨E3 p[t],by rw[zI hl];rfl,((I5 (hp.2 _ (zL hl))).2.1 n).2 ⟨h2,λhm=>h3 ⟨_,zI hl,hm⟩⟩⟩
def T8{T:Nat}{p:Prd}(h:PWf T p):Wj p=true↔∀t n,¬PM p t n:=by
 unfold Wj;rw[List.all_eq_true];constructor
 ·rintro hv t n ⟨s,hs,hm⟩;have:=hv s (zJ hs);rw[tP]at this;subst this;simp[M]at hm
 intro hv s hs;obtain⟨i,hi⟩:=yH.1 hs;cases s with
 |nil=>rfl
 |cons x s=>exact absurd ⟨_,hi,(Eh ..).2 (.inl ⟨xK _,(h.2 _ hs).1.1 x (by simp)⟩)⟩ (hv i x.lo)
def Lj{T:Nat}{l L:List Prd}{p:Prd}(h:Prts T l L)(hp:PCk T p):Prts T (l++[p]) (Y0 p L):=by
 have z6:(T6 p).length=T:=by simp[T6,hp.1]
 have z1:∀q,q∈Y0 p L↔∃c∈L,((q=Wn c p)\/(q=Wn c (T6 p)))/\Wj q=false:=by
  intro q;unfold Y0;rw[xS];constructor
  ·rintro⟨c,hc,hq⟩;refine⟨c,hc,?_⟩;rcases zT.1 hq with hq|hq
   ·split at hq
    ·cases hq
    rename_i hv;obtain rfl:=zO.1 hq;exact⟨.inl rfl,by simpa using hv⟩
   split at hq
   ·cases hq
   rename_i hv;obtain rfl:=zO.1 hq;exact⟨.inr rfl,by simpa using hv⟩
  rintro⟨c,hc,hq,hv⟩;refine⟨c,hc,zT.2 ?_⟩;rcases hq with rfl|rfl
  ·left;rw[if_neg (by rw[hv];decide)];simp
  right;rw[if_neg (by rw[hv];decide)];simp
 have z7:∀q∈Y0 p L,PWf T q:=λq hq=>by
  obtain⟨c,hc,rfl|rfl,_⟩:=(z1 q).1 hq
  ·exact Tu (h.wf c hc) hp.1
  exact Tu (h.wf c hc) z6
 have zb:∀q∈Y0 p L,∃t n,PM q t n:=λq hq=>by
  obtain⟨c,hc,_,hv⟩:=(z1 q).1 hq;by_cases hx:∃t n,PM q t n
  ·exact hx
  exfalso;have:Wj q=true:=(T8 (z7 q hq)).2 λt n hm=>hx ⟨t,n,hm⟩;rw[this]at hv;cases hv
 refine⟨z7,zb,λt n ht hn=>?_,λq hq t n hm t' n'=>?_⟩
 ·obtain⟨c,hc,z8⟩:=h.all t n ht hn;have hv:∀q,(q=Wn c p\/q=Wn c (T6 p))->PM q t n->q∈Y0 p L:=λq hq hm=>(z1 q).2 ⟨c,hc,hq,by
   have hw:PWf T q:=by
    rcases hq with rfl|rfl
    ·exact Tu (h.wf c hc) hp.1
    exact Tu (h.wf c hc) z6
   cases hvq:Wj q with
   |false=>rfl
   |true=>exact absurd hm ((T8 hw).1 hvq t n)⟩
  by_cases za:PM p t n
  ·have:=(Eo (h.wf c hc).1 hp.1 t n).2 ⟨z8,za⟩;exact⟨_,hv _ (.inl rfl) this,this⟩
  have:=(Eo (h.wf c hc).1 z6 t n).2 ⟨z8,(Cr hp t n).2 ⟨⟨ht,hn⟩,za⟩⟩;exact⟨_,hv _ (.inr rfl) this,this⟩
 obtain⟨c,hc,zc,_⟩:=(z1 q).1 hq;have zd:u2k (l++[p]) t n t' n'↔u2k l t n t' n'/\(PM p t n↔PM p t' n'):=by
  constructor
  ·exact λhs=>⟨λr hr=>hs r (by simp[hr]),hs p (by simp)⟩
  rintro⟨h1,h2⟩ r hr;rcases zT.1 hr with hr|hr
  ·exact h1 r hr
  obtain rfl:=zO.1 hr;exact h2
 rw[zd];rcases zc with rfl|rfl
 ·obtain⟨m1,m2⟩:=(Eo (h.wf c hc).1 hp.1 t n).1 hm;rw[Eo (h.wf c hc).1 hp.1,h.cls c hc t n m1];constructor
  ·rintro⟨⟨h1,h2,h3⟩,h4⟩;exact⟨h1,h2,h3,λ_=>h4,λ_=>m2⟩
  rintro⟨h1,h2,h3,h4⟩;exact⟨⟨h1,h2,h3⟩,h4.1 m2⟩
 obtain⟨m1,m2⟩:=(Eo (h.wf c hc).1 z6 t n).1 hm;have m3:=((Cr hp t n).1 m2).2;rw[Eo (h.wf c hc).1 z6,h.cls c hc t n m1,Cr hp];constructor
 ·rintro⟨⟨h1,h2,h3⟩,h4⟩;exact⟨h1,h2,h3,λh=>absurd h m3,λh=>absurd h h4.2⟩
 rintro⟨h1,h2,h3,h4⟩;exact⟨⟨h1,h2,h3⟩,⟨h1,h2⟩,λh=>m3 (h4.2 h)⟩
def Zk(T:Nat)(hT:0<T):Prts T [] [Ea T]:=by
 refine⟨λp hp=>?_,λp hp=>?_,λt n ht hn=>?_,λp hp t n hm t' n'=>?_⟩
 ·obtain rfl:=zO.1 hp;exact Cl T
 ·obtain rfl:=zO.1 hp;exact⟨0,0,(Ga T 0 0).2 ⟨hT,by unfold inR;omega⟩⟩
 ·exact⟨_,List.mem_singleton_self _,(Ga T t n).2 ⟨ht,hn⟩⟩
 obtain rfl:=zO.1 hp;rw[Ga];exact⟨λh=>⟨h.1,h.2,λr hr=>by cases hr⟩,λh=>⟨h.1,h.2.1⟩⟩
def Ma{T:Nat}(hT:0<T){l:List Prd}(hl:∀p∈l,PCk T p):Prts T l (Pd T l):=by
 have key:∀(r d L:List Prd),Prts T d L->(∀p∈r,PCk T p)->Prts T (d++r) (r.foldl (λL p=>Y0 p L) L):=by
  intro r;induction r with
  |nil=>intro d L h _;simpa using h
  |cons p r ih=>intro d L h hr;rw[xU];have:=ih (d++[p]) (Y0 p L) (Lj h (hr p (by simp))) (λq hq=>hr q (by simp[hq]));simpa using this
 have:=key l [] [Ea T] (Zk T hT) hl;simpa[Pd]using this
def Qx:Prd->Nat->Nat×Int
 |[],_=>(0,0)
 |(x::_)::_,i=>(i,x.lo)
 |[]::p,i=>Qx p (i+1)
def Bs(a b:Nat×Int):Bool:=decide (a.1<b.1) || (decide (a.1=b.1) && decide (a.2<b.2))
def R7(a b:Nat×Int):Bs a b=true↔Ik a.1 a.2 b.1 b.2:=by simp[Bs,Ik]
def Ny:∀(p:Prd) (i:Nat),(∀s∈p,Sep s)->(∃s∈p,s≠[])->∃t x r,p[t]?=some (x::r)/\Qx p i=(i+t,x.lo)/\∀j,j<t->p[j]?=some []
 |[],_,_,⟨s,hs,_⟩=>by cases hs
 |(x::r)::p,i,_,_=>⟨0,x,r,rfl,rfl,λj hj=>by omega⟩
 |[]::p,i,h,⟨s,hs,hn⟩=>by
  have z1:s∈p:=by
   rcases zX.1 hs with rfl|hs
   ·exact absurd rfl hn
   exact hs
  obtain⟨t,x,r,h1,h2,h3⟩:=Ny p (i+1) (λs hs=>h s (by simp[hs])) ⟨s,z1,hn⟩;refine⟨t+1,x,r,by simpa using h1,by rw[Qx,h2];congr 1;omega,λj hj=>?_⟩;cases j with
  |zero=>rfl
  |succ j=>simpa using h3 j (by omega)
def W8{T:Nat}{p:Prd}(h:PWf T p)(hn:∃t n,PM p t n):PM p (Qx p 0).1 (Qx p 0).2/\∀t n,PM p t n->((Qx p 0).1=t/\(Qx p 0).2=n)\/Ik (Qx p 0).1 (Qx p 0).2 t n:=by
 obtain⟨t0,n0,s0,z1,m0⟩:=hn;have z6:s0≠[]:=λe=>by subst e;simp[M]at m0
 obtain⟨t,x,r,h1,h2,h3⟩:=Ny p 0 (λs hs=>(h.2 s hs).1) ⟨s0,zJ z1,z6⟩;rw[Nat.zero_add]at h2;rw[h2];have hx:=(h.2 _ (zJ h1)).1;refine⟨⟨_,h1,(Eh ..).2 (.inl ⟨xK _,hx.1 x (by simp)⟩)⟩,λt' n' hm=>?_⟩;obtain⟨s,hs,hm⟩:=hm;simp only;rcases w_ t' t with hlt|rfl|hgt
 ·rw[h3 t' hlt]at hs;cases hs;simp[M]at hm
 ·rw[h1]at hs;cases hs;have:=hx.lowc hm;unfold Ik;omega
 exact .inr (.inl hgt)
def Ve{T:Nat}{p q:Prd}(hp:PWf T p)(z1:∃t n,PM p t n)(hq:PWf T q)(z6:∃t n,PM q t n)(h:Ik (Qx p 0).1 (Qx p 0).2 (Qx q 0).1 (Qx q 0).2):u0o p q:=
 ⟨_,_,(W8 hp z1).1,λt n hm=>by
  rcases(W8 hq z6).2 t n hm with⟨e1,e2⟩|h2
  ·rw[<-e1,<-e2];exact h
  exact h.trans h2⟩
def y1t(s:List Prd)(x:Prd):Nat->Nat
 |0=>0
 |j+1=>match s[j]? with
  |some y=>if Bs (Qx x 0) (Qx y 0)=true then y1t s x j else j+1
  |none=>j+1
def y1u(s:List Prd)(x:Prd):List Prd:=s.take (y1t s x s.length)++x::s.drop (y1t s x s.length)
def k17(L:List Prd):List Prd:=L.foldl y1u []
def Nh(s:List Prd)(x:Prd):∀j,j<=s.length->y1t s x j<=j/\(∀i,y1t s x j<=i->i<j->∀h:i<s.length,Bs (Qx x 0) (Qx s[i] 0)=true)/\(∀i,i+1=y1t s x j->∀h:i<s.length,Bs (Qx x 0) (Qx s[i] 0)=false)
 |0,_=>⟨zR _,λi _ h=>by omega,λi h=>by simp[y1t]at h⟩
 |j+1,hj=>by
  have z1:j<s.length:=by omega
  rw[y1t,zI z1];simp only;by_cases hb:Bs (Qx x 0) (Qx s[j] 0)=true
  ·rw[if_pos hb];obtain⟨h1,h2,h3⟩:=Nh s x j (by omega);refine⟨by omega,λi hi z6 hl=>?_,h3⟩;by_cases hij:i=j
   ·subst hij;exact hb
   exact h2 i hi (by omega) hl
  rw[if_neg hb];refine⟨zR _,λi hi z6=>by omega,λi hi hl=>?_⟩;have:i=j:=by omega
  subst this;simpa using hb
def f0s(s:List Prd)(x:Prd):(y1u s x).Perm (x::s):=by unfold y1u;refine vM.trans ?_;rw[xO]
def Cm(p q:Prd):Prop:=Ik (Qx p 0).1 (Qx p 0).2 (Qx q 0).1 (Qx q 0).2
def w0c{s:List Prd}{x:Prd}(hs:s.Pairwise Cm)(hd:∀y∈s,Qx y 0≠Qx x 0):(y1u s x).Pairwise Cm:=by
 obtain⟨h1,h2,h3⟩:=Nh s x s.length (zR _);unfold y1u;generalize y1t s x s.length=k at *
 have z1:=hs;rw[<-xO k s]at z1;obtain⟨p1,p2,p3⟩:=yE.1 z1;have z7:∀y∈s.drop k,Cm x y:=λy hy=>by obtain⟨i,hi⟩:=yH.1 hy;rw[List.getElem?_drop]at hi;obtain⟨hl,e⟩:=zB.1 hi;have:=h2 (k+i) (by omega) hl hl;rw[e]at this;exact(R7 _ _).1 this
 have z8:∀i,i+1=k->∀h:i<s.length,Cm s[i] x:=λi hi hl=>by
  have h4:=h3 i hi hl;have zc:=hd s[i] (zL hl);unfold Cm;rcases w_ (Qx s[i] 0).1 (Qx x 0).1 with a|a|a
  ·exact .inl a
  ·rcases tO (Qx s[i] 0).2 (Qx x 0).2 with b|b|b
   ·exact .inr ⟨a,b⟩
   ·exact absurd (vY a b) zc
   have:Bs (Qx x 0) (Qx s[i] 0)=true:=(R7 _ _).2 (.inr ⟨a.symm,b⟩);rw[this]at h4;cases h4
  have:Bs (Qx x 0) (Qx s[i] 0)=true:=(R7 _ _).2 (.inl a);rw[this]at h4;cases h4
 have z6:∀y∈s.take k,Cm y x:=λy hy=>by
  obtain⟨i,hi⟩:=yH.1 hy;rw[List.getElem?_take]at hi;split at hi
  ·rename_i zd;obtain⟨hl,e⟩:=zB.1 hi;obtain⟨k',rfl⟩:∃k',k=k'+1:=⟨k - 1,by omega⟩
   have za:k'<s.length:=by omega
   have zb:=z8 k' rfl za;by_cases hij:i=k'
   ·subst hij;rw[<-e];exact zb
   have:=yL.1 hs i k' hl za (by omega);rw[e]at this;exact Ik.trans this zb
  cases hi
 refine yE.2 ⟨p1,yK.2 ⟨z7,p2⟩,λy hy z hz=>?_⟩;rcases zX.1 hz with rfl|hz
 ·exact z6 y hy
 exact p3 y hy z hz
def u0i(L:List Prd)(hd:L.Pairwise (λp q=>Qx p 0≠Qx q 0)):(k17 L).Perm L/\(k17 L).Pairwise Cm:=by
 have key:∀(r s:List Prd),s.Pairwise Cm->(s++r).Pairwise (λp q=>Qx p 0≠Qx q 0)->(r.foldl y1u s).Perm (s++r)/\(r.foldl y1u s).Pairwise Cm:=by
  intro r;induction r with
  |nil=>intro s h _;simpa using h
  |cons x r ih=>intro s h hd;obtain⟨d1,d2,d3⟩:=yE.1 hd;have hi:=w0c h (λy hy=>d3 y hy x (by simp));have hp:=f0s s x;have z1:(y1u s x++r).Perm (s++x::r):=(hp.append_right r).trans (vM (l₁:=s) (a:=x) (l₂:=r)).symm;have z6:(y1u s x++r).Pairwise (λp q=>Qx p 0≠Qx q 0):=(z1.pairwise_iff (λh=>Ne.symm h)).2 hd;obtain⟨i1,i2⟩:=ih (y1u s x) hi z6;rw[xU];exact⟨i1.trans z1,i2⟩
 have h:=key L [] List.Pairwise.nil (by simpa using hd);unfold k17;simpa using h
def Q5(T:Nat)(l:List Prd):List Prd:=k17 (Pd T l)
def Nr{T:Nat}{l L:List Prd}{p:Prd}(h:Prts T l L)(hp:PCk T p)(hd:L.Pairwise (λa b=>∀t n,PM a t n->¬PM b t n)):(Y0 p L).Pairwise (λa b=>∀t n,PM a t n->¬PM b t n):=by
 have z7:(T6 p).length=T:=by simp[T6,hp.1]
 have z8:∀c∈L,∀q∈(if Wj (Wn c p)then []else [Wn c p])++(if Wj (Wn c (T6 p))then []else [Wn c (T6 p)]),∀t n,PM q t n->PM c t n:=by
  intro c hc q hq t n hm;rcases zT.1 hq with hq|hq
  ·split at hq
   ·cases hq
   obtain rfl:=zO.1 hq;exact((Eo (h.wf c hc).1 hp.1 t n).1 hm).1
  split at hq
  ·cases hq
  obtain rfl:=zO.1 hq;exact((Eo (h.wf c hc).1 z7 t n).1 hm).1
 unfold Y0;rw[vF];refine⟨λc hc=>?_,?_⟩
 ·refine yE.2 ⟨by split<;>simp,by split<;>simp,λa ha b hb t n z1 z6=>?_⟩;split at ha
  ·cases ha
  split at hb
  ·cases hb
  obtain rfl:=zO.1 ha;obtain rfl:=zO.1 hb;exact((Cr hp t n).1 ((Eo (h.wf c hc).1 z7 t n).1 z6).2).2 ((Eo (h.wf c hc).1 hp.1 t n).1 z1).2
 exact hd.imp_of_mem (λ{a b} ha hb hab x hx y hy t n z1 z6=>hab t n (z8 a ha x hx t n z1) (z8 b hb y hy t n z6))
def B3{T:Nat}(hT:0<T){l:List Prd}(hl:∀p∈l,PCk T p):(Pd T l).Pairwise (λa b=>∀t n,PM a t n->¬PM b t n):=by
 have key:∀(r d L:List Prd),Prts T d L->(∀p∈r,PCk T p)->L.Pairwise (λa b=>∀t n,PM a t n->¬PM b t n)->(r.foldl (λL p=>Y0 p L) L).Pairwise (λa b=>∀t n,PM a t n->¬PM b t n):=by
  intro r;induction r with
  |nil=>intro d L _ _ h;simpa using h
  |cons p r ih=>intro d L h hr hd;rw[xU];exact ih (d++[p]) (Y0 p L) (Lj h (hr p (by simp))) (λq hq=>hr q (by simp[hq])) (Nr h (hr p (by simp)) hd)
 exact key l [] [Ea T] (Zk T hT) hl (by simp)
def U9{T:Nat}(hT:0<T){l:List Prd}(hl:∀p∈l,PCk T p):Prts T l (Q5 T l)/\(Q5 T l).Pairwise u0o:=by
 have h:=Ma hT hl;have hd:(Pd T l).Pairwise (λp q=>Qx p 0≠Qx q 0):=(B3 hT hl).imp_of_mem (λ{a b} ha hb hab e=>by
  have h1:=(W8 (h.wf a ha) (h.ne a ha)).1;have h2:=(W8 (h.wf b hb) (h.ne b hb)).1;rw[<-e]at h2;exact hab _ _ h1 h2)
 obtain⟨h1,h2⟩:=u0i _ hd;have h3:Prts T l (Q5 T l):=h.perm h1.symm;refine⟨h3,?_⟩;exact h2.imp_of_mem (λ{a b} ha hb hab=>Ve (h3.wf a ha) (h3.ne a ha) (h3.wf b hb) (h3.ne b hb) hab)
def Qv(l:List Prd)(i:Nat):List Iv:=l.flatMap λp=>p.getD i []
def Wa(l:List Prd)(i:Nat):List Int:=Ae (⟨-1099511627776,1099511627776⟩::Qv l i)
def Yu:List Int->List Iv
 |a::b::r=>⟨a,b - 1⟩::Yu (b::r)
 |_=>[]
def Is(l:List Prd)(i:Nat)(n:Int):List Bool:=l.map λp=>Y5 (p.getD i []) n
def U6(p:Prd)(i:Nat)(x:Iv):Prd:=p.set i (p.getD i []++[x])
def Yl(T i:Nat)(sg:List Bool)(x:Iv):List (List Bool×Prd)->List (List Bool×Prd)
 |[]=>[(sg,U6 (yB T []) i x)]
 |(s,p)::r=>if s=sg then(s,U6 p i x)::r else(s,p)::Yl T i sg x r
def Zf(T:Nat)(l:List Prd):List (Nat×Iv):=(yU T).flatMap λi=>(Yu (Wa l i)).map λx=>(i,x)
def Pv(T:Nat)(l:List Prd):List (List Bool×Prd):=(Zf T l).foldl (λst a=>Yl T a.1 (Is l a.1 a.2.lo) a.2 st) []
def Ri(p:Prd):Prd:=p.map (Qz [])
def Re(T:Nat)(l:List Prd):List Prd:=(Pv T l).map λg=>Ri g.2
def c1x(a:Nat×Iv)(t:Nat)(n:Int):Prop:=t=a.1/\a.2.lo<=n/\n<=a.2.hi
structure GInv (T:Nat) (sig:Nat->Int->List Bool) (D:Nat->Int->Prop) (st:List (List Bool×Prd)):Prop where
 len:∀g∈st,g.2.length=T
 asc:∀g∈st,∀s∈g.2,(∀x∈s,x.lo<=x.hi)/\s.Pairwise (λx y=>x.hi<y.lo)
 mem:∀g∈st,∀t n,PM g.2 t n↔D t n/\sig t n=g.1
 ne:∀g∈st,∃t n,PM g.2 t n
 nd:st.Pairwise (λg h=>g.1≠h.1)
 all:∀t n,D t n->∃g∈st,g.1=sig t n
 ord:st.Pairwise (λg h=>∃t n,PM g.2 t n/\∀t' n',PM h.2 t' n'->Ik t n t' n')
def W9{p:Prd}{i:Nat}(h:i<p.length):p.getD i []=p[i]:=by simp[yQ,h]
def d1p{T:Nat}{p:Prd}(hp:p.length=T){i:Nat}(hi:i<T)(x:Iv)(t:Nat)(n:Int):PM (U6 p i x) t n↔PM p t n\/c1x (i,x) t n:=by
 unfold PM U6 c1x;have z1:i<p.length:=by omega
 rw[W9 z1];by_cases ht:t=i
 ·subst ht;rw[zK z1,zI z1];constructor
  ·rintro⟨s,hs,hm⟩;cases hs;rcases(Kw ..).1 hm with h|h
   ·exact .inl ⟨_,rfl,h⟩
   rcases(Eh ..).1 h with h|h
   ·exact .inr ⟨rfl,h⟩
   simp[M]at h
  rintro(⟨s,hs,hm⟩|⟨_,h⟩)
  ·cases hs;exact⟨_,rfl,(Kw ..).2 (.inl hm)⟩
  exact⟨_,rfl,(Kw ..).2 (.inr ((Eh ..).2 (.inl h)))⟩
 rw[zE (by omega)];constructor
 ·exact λh=> .inl h
 rintro(h|⟨h,_⟩)
 ·exact h
 exact absurd h ht
def q1f{T:Nat}{p:Prd}(hp:p.length=T){i:Nat}(hi:i<T){x:Iv}(hx:x.lo<=x.hi)(h:∀s∈p,(∀y∈s,y.lo<=y.hi)/\s.Pairwise (λy z=>y.hi<z.lo))(z6:∀t n,PM p t n->Ik t n i x.lo):
  ∀s∈U6 p i x,(∀y∈s,y.lo<=y.hi)/\s.Pairwise (λy z=>y.hi<z.lo):=by
 intro s hs;have z1:i<p.length:=by omega
 rcases List.mem_or_eq_of_mem_set hs with hs|rfl
 ·exact h s hs
 rw[W9 z1];obtain⟨h1,h2⟩:=h _ (zL z1);refine⟨λy hy=>?_,yE.2 ⟨h2,by simp,λy hy z hz=>?_⟩⟩
 ·rcases zT.1 hy with hy|hy
  ·exact h1 y hy
  obtain rfl:=zO.1 hy;exact hx
 obtain rfl:=zO.1 hz;have:=z6 i y.hi ⟨_,zI z1,y,hy,h1 y hy,xK _⟩;unfold Ik at this;omega
def O3{T i:Nat}{sg:List Bool}{x:Iv}:∀ {st:List (List Bool×Prd)},(∀g∈st,g.1≠sg)->Yl T i sg x st=st++[(sg,U6 (yB T []) i x)]
 |[],_=>rfl
 |(s,p)::r,h=>by rw[Yl,if_neg (h (s,p) (by simp)),O3 (λg hg=>h g (by simp[hg]))];rfl
def S9{T i:Nat}{sg:List Bool}{x:Iv}:∀ {st:List (List Bool×Prd)},(∃g∈st,g.1=sg)->∃a p b,st=a++(sg,p)::b/\(∀g∈a,g.1≠sg)/\Yl T i sg x st=a++(sg,U6 p i x)::b
 |[],⟨g,hg,_⟩=>by cases hg
 |(s,p)::r,⟨g,hg,he⟩=>by
  by_cases hs:s=sg
  ·subst hs;exact⟨[],p,r,rfl,by simp,by rw[Yl,if_pos rfl];rfl⟩
  have z1:g∈r:=by
   rcases zX.1 hg with rfl|hg
   ·exact absurd he hs
   exact hg
  obtain⟨a,q,b,h1,h2,h3⟩:=S9 (T:=T) (i:=i) (x:=x) ⟨g,z1,he⟩;refine⟨(s,p)::a,q,b,by rw[h1];rfl,λg hg=>?_,by rw[Yl,if_neg hs,h3];rfl⟩;rcases zX.1 hg with rfl|hg
  ·exact hs
  exact h2 g hg
def Z4(T t:Nat)(n:Int):¬PM (yB T []) t n:=by rintro⟨s,hs,hm⟩;obtain rfl:=vO (zJ hs);simp[M]at hm
def GInv.step{T:Nat}{sig:Nat->Int->List Bool}{D:Nat->Int->Prop}{st:List (List Bool×Prd)}(h:GInv T sig D st){i:Nat}{x:Iv}(hi:i<T)(hx:x.lo<=x.hi)(hc:∀n,x.lo<=n->n<=x.hi->sig i n=sig i x.lo)(hD:∀t n,D t n->∀n',x.lo<=n'->n'<=x.hi->Ik t n i n'):
  GInv T sig (λt n=>D t n\/c1x (i,x) t n) (Yl T i (sig i x.lo) x st):=by
 have z7:∀t n,c1x (i,x) t n->sig t n=sig i x.lo:=λt n hp=>by obtain⟨rfl,h1,h2⟩:=hp;exact hc n h1 h2
 have zb:∀t n,D t n->∀t' n',c1x (i,x) t' n'->Ik t n t' n':=λt n hd t' n' hp=>by obtain⟨rfl,h1,h2⟩:=hp;exact hD t n hd n' h1 h2
 have zc:c1x (i,x) i x.lo:=⟨rfl,xK _,hx⟩
 by_cases hit:∃g∈st,g.1=sig i x.lo
 ·obtain⟨a,p,b,h1,h2,h3⟩:=S9 (T:=T) (i:=i) (x:=x) hit;rw[h3];subst h1;generalize zh:sig i x.lo=s0 at *
  have za:(s0,p)∈a++(s0,p)::b:=by simp
  have zd:=h.mem _ za;have hlen:=h.len _ za;have zf:=h.nd;obtain⟨n1,n2,n3⟩:=yE.1 zf;obtain⟨n4,n5⟩:=yK.1 n2;obtain⟨o1,o2,o3⟩:=yE.1 h.ord;obtain⟨o4,o5⟩:=yK.1 o2;have z1:=λt n=>d1p hlen hi x t n;have hold:∀g∈a++(s0,U6 p i x)::b,(g∈a++(s0,p)::b/\g.1≠s0)\/g=(s0,U6 p i x):=λg hg=>by
   rcases zT.1 hg with hg|hg
   ·exact .inl ⟨by simp[hg],h2 g hg⟩
   rcases zX.1 hg with rfl|hg
   ·exact .inr rfl
   exact .inl ⟨by simp[hg],(n4 g hg).symm⟩
  refine⟨λg hg=>?_,λg hg=>?_,λg hg t n=>?_,λg hg=>?_,?_,λt n hd=>?_,?_⟩
  ·rcases hold g hg with⟨hg,_⟩|rfl
   ·exact h.len g hg
   simp[U6,hlen]
  ·rcases hold g hg with⟨hg,_⟩|rfl
   ·exact h.asc g hg
   exact q1f hlen hi hx (h.asc _ za) (λt n hm=>hD t n ((zd t n).1 hm).1 x.lo (xK _) hx)
  ·rcases hold g hg with⟨hg,zg⟩|rfl
   ·rw[h.mem g hg t n];constructor
    ·exact λhh=>⟨.inl hh.1,hh.2⟩
    rintro⟨hd|hd,hs⟩
    ·exact⟨hd,hs⟩
    exact absurd (by rw[<-hs,z7 t n hd]) zg
   rw[z1,zd];constructor
   ·rintro(⟨hd,hs⟩|hd)
    ·exact⟨.inl hd,hs⟩
    exact⟨.inr hd,z7 t n hd⟩
   rintro⟨hd|hd,hs⟩
   ·exact .inl ⟨hd,hs⟩
   exact .inr hd
  ·rcases hold g hg with⟨hg,_⟩|rfl
   ·exact h.ne g hg
   exact⟨i,x.lo,(z1 i x.lo).2 (.inr zc)⟩
  ·exact yE.2 ⟨n1,yK.2 ⟨λg hg=>n4 g hg,n5⟩,λg hg k hk=>by
    rcases zX.1 hk with rfl|hk
    ·exact h2 g hg
    exact n3 g hg k (by simp[hk])⟩
  ·rcases hd with hd|hd
   ·obtain⟨g,hg,he⟩:=h.all t n hd;rcases zT.1 hg with hg|hg
    ·exact⟨g,by simp[hg],he⟩
    rcases zX.1 hg with rfl|hg
    ·exact⟨(s0,U6 p i x),by simp,he⟩
    exact⟨g,by simp[hg],he⟩
   exact⟨(s0,U6 p i x),by simp,(z7 t n hd).symm⟩
  refine yE.2 ⟨o1,yK.2 ⟨λg hg=>?_,o5⟩,λg hg k hk=>?_⟩
  ·obtain⟨t,n,e1,e2⟩:=o4 g hg;exact⟨t,n,(z1 t n).2 (.inl e1),e2⟩
  rcases zX.1 hk with rfl|hk
  ·obtain⟨t,n,e1,e2⟩:=o3 g hg (s0,p) (by simp);refine⟨t,n,e1,λt' n' hm=>?_⟩;rcases(z1 t' n').1 hm with hm|hm
   ·exact e2 t' n' hm
   exact zb t n ((h.mem g (by simp[hg]) t n).1 e1).1 t' n' hm
  exact o3 g hg k (by simp[hk])
 have z8:∀g∈st,g.1≠sig i x.lo:=λg hg he=>hit ⟨g,hg,he⟩;rw[O3 z8];have ze:(yB T ([]:List Iv)).length=T:=by simp
 have z1:=λt n=>d1p ze hi x t n;have z6:∀g∈st++[(sig i x.lo,U6 (yB T []) i x)],g∈st\/g=(sig i x.lo,U6 (yB T []) i x):=λg hg=>by
  rcases zT.1 hg with hg|hg
  ·exact .inl hg
  exact .inr (zO.1 hg)
 refine⟨λg hg=>?_,λg hg=>?_,λg hg t n=>?_,λg hg=>?_,?_,λt n hd=>?_,?_⟩
 ·rcases z6 g hg with hg|rfl
  ·exact h.len g hg
  simp[U6]
 ·rcases z6 g hg with hg|rfl
  ·exact h.asc g hg
  exact q1f ze hi hx (λs hs=>by obtain rfl:=vO hs;simp) (λt n hm=>absurd hm (Z4 T t n))
 ·rcases z6 g hg with hg|rfl
  ·rw[h.mem g hg t n];constructor
   ·exact λhh=>⟨.inl hh.1,hh.2⟩
   rintro⟨hd|hd,hs⟩
   ·exact⟨hd,hs⟩
   exact absurd (by rw[<-hs,z7 t n hd]) (z8 g hg)
  rw[z1];constructor
  ·rintro(hm|hd)
   ·exact absurd hm (Z4 T t n)
   exact⟨.inr hd,z7 t n hd⟩
  rintro⟨hd|hd,hs⟩
  ·obtain⟨g,hg,he⟩:=h.all t n hd;exact absurd (he.trans hs) (z8 g hg)
  exact .inr hd
 ·rcases z6 g hg with hg|rfl
  ·exact h.ne g hg
  exact⟨i,x.lo,(z1 i x.lo).2 (.inr zc)⟩
 ·exact yE.2 ⟨h.nd,by simp,λg hg k hk=>by obtain rfl:=zO.1 hk;exact z8 g hg⟩
 ·rcases hd with hd|hd
  ·obtain⟨g,hg,he⟩:=h.all t n hd;exact⟨g,by simp[hg],he⟩
  exact⟨(sig i x.lo,U6 (yB T []) i x),by simp,(z7 t n hd).symm⟩
 refine yE.2 ⟨h.ord,by simp,λg hg k hk=>?_⟩;obtain rfl:=zO.1 hk;obtain⟨t,n,e1⟩:=h.ne g hg;refine⟨t,n,e1,λt' n' hm=>?_⟩;rcases(z1 t' n').1 hm with hm|hm
 ·exact absurd hm (Z4 T t' n')
 exact zb t n ((h.mem g hg t n).1 e1).1 t' n' hm
def Sq:∀(cs:List Int),cs.Pairwise (·<·)->∀x∈Yu cs,x.lo<=x.hi/\x.lo∈cs/\x.hi+1∈cs/\∀d∈cs,d<=x.hi->d<=x.lo
 |[],_,x,hx=>by simp[Yu]at hx
 |[a],_,x,hx=>by simp[Yu]at hx
 |a::b::r,h,x,hx=>by
  obtain⟨h1,h2⟩:=yK.1 h;rw[Yu]at hx;rcases zX.1 hx with rfl|hx
  ·have z1:=h1 b (by simp);refine⟨by simp only;omega,by simp,by simp,λd hd hle=>?_⟩;simp only at hle |-;rcases zX.1 hd with rfl|hd
   ·omega
   have:b<=d:=by
    rcases zX.1 hd with rfl|hd
    ·omega
    have:=(yK.1 h2).1 d hd;omega
   omega
  obtain⟨k1,k2,k3,k4⟩:=Sq (b::r) h2 x hx;refine⟨k1,by simp only[zX]at k2 |-;exact .inr k2,by simp only[zX]at k3 |-;exact .inr k3,λd hd hle=>?_⟩;rcases zX.1 hd with rfl|hd
  ·have:=h1 x.lo k2;omega
  exact k4 d hd hle
def y05:∀(cs:List Int),cs.Pairwise (·<·)->(Yu cs).Pairwise (λx y=>x.hi<y.lo)
 |[],_=>by simp[Yu]
 |[a],_=>by simp[Yu]
 |a::b::r,h=>by
  obtain⟨h1,h2⟩:=yK.1 h;rw[Yu];refine yK.2 ⟨λy hy=>?_,y05 (b::r) h2⟩;obtain⟨_,k2,_,_⟩:=Sq (b::r) h2 y hy;have:b<=y.lo:=by
   rcases zX.1 k2 with e|k2
   ·omega
   have:=(yK.1 h2).1 y.lo k2;omega
  simp only;omega
def L7:∀(cs:List Int),cs.Pairwise (·<·)->∀n,(∃a∈cs,a<=n)->(∃b∈cs,n<b)->∃x∈Yu cs,x.lo<=n/\n<=x.hi
 |[],_,n,⟨a,ha,_⟩,_=>by cases ha
 |[a],_,n,⟨c,hc,h1⟩,⟨d,hd,h2⟩=>by obtain rfl:=zO.1 hc;obtain rfl:=zO.1 hd;omega
 |a::b::r,h,n,⟨c,hc,h1⟩,⟨d,hd,h2⟩=>by
  obtain⟨p1,p2⟩:=yK.1 h;rw[Yu];have z1:a<=n:=by
   rcases zX.1 hc with rfl|hc
   ·exact h1
   have:=p1 c hc;omega
  by_cases hb:n<b
  ·exact⟨⟨a,b - 1⟩,by simp,z1,by simp only;omega⟩
  have z6:d∈b::r:=by
   rcases zX.1 hd with rfl|hd
   ·omega
   exact hd
  obtain⟨x,hx,e⟩:=L7 (b::r) p2 n ⟨b,by simp,by omega⟩ ⟨d,z6,h2⟩;exact⟨x,by simp[hx],e⟩
def Tf{l:List Prd}{i:Nat}{x:Iv}:x∈Qv l i↔∃p∈l,x∈p.getD i []:=by simp[Qv]
def j1a{T:Nat}{p:Prd}(hp:PCk T p)(i:Nat):CanonL (p.getD i []):=by
 by_cases hi:i<p.length
 ·rw[W9 hi];exact hp.2 _ (zL hi)
 have:p.getD i []=[]:=by simp[yQ,List.getElem?_eq_none (by omega:p.length<=i)]
 rw[this];exact Sw
def Yf{T:Nat}{l:List Prd}(hl:∀p∈l,PCk T p)(i:Nat):(Wa l i).Pairwise (·<·)/\(-1099511627776:Int)∈Wa l i/\(1099511627777:Int)∈Wa l i/\
  (∀z∈Wa l i,-1099511627776<=z/\z<=1099511627777)/\∀p∈l,∀x∈p.getD i [],x.lo∈Wa l i/\x.hi+1∈Wa l i:=by
 obtain⟨h1,h2⟩:=Nc (⟨-1099511627776,1099511627776⟩::Qv l i);refine⟨h1,(h2 _).2 ⟨⟨-1099511627776,1099511627776⟩,by simp,.inl rfl⟩,(h2 _).2 ⟨⟨-1099511627776,1099511627776⟩,by simp,.inr (by simp)⟩,λz hz=>?_,λp hp x hx=>⟨(h2 _).2 ⟨x,?_,.inl rfl⟩,(h2 _).2 ⟨x,?_,.inr rfl⟩⟩⟩
 ·obtain⟨x,hx,e⟩:=(h2 z).1 hz;rcases zX.1 hx with rfl|hx
  ·simp only at e;omega
  obtain⟨p,hp,hx⟩:=Tf.1 hx;have hc:=j1a (hl p hp) i;have h3:=Xp hc x hx;have h4:=(Es _).1 h3.1;have h5:=(Es _).1 h3.2;have:=(Sl hc).1 x hx;omega
 ·exact vE _ (Tf.2 ⟨p,hp,hx⟩)
 exact vE _ (Tf.2 ⟨p,hp,hx⟩)
def w1l{T:Nat}{l:List Prd}(hl:∀p∈l,PCk T p)(i:Nat){x:Iv}(hx:x∈Yu (Wa l i))(n:Int)(h1:x.lo<=n)(h2:n<=x.hi):Is l i n=Is l i x.lo:=by obtain⟨c1,_,_,_,c5⟩:=Yf hl i;obtain⟨_,_,_,k4⟩:=Sq _ c1 x hx;unfold Is;apply y_;intro p hp;exact Kd _ (Wa l i) (c5 p hp) x.lo n h1 (λd hd hle=>k4 d hd (by omega))
def Md{T:Nat}{p:Prd}(hp:p.length=T){t:Nat}(ht:t<T)(n:Int):Y5 (p.getD t []) n=true↔PM p t n:=by
 have z1:t<p.length:=by omega
 rw[W9 z1,Iw];unfold PM;rw[zI z1];simp
def f1j{T:Nat}{l:List Prd}(hl:∀p∈l,PCk T p){t t':Nat}(ht:t<T)(z1:t'<T)(n n':Int):Is l t n=Is l t' n'↔u2k l t n t' n':=by
 unfold Is u2k;constructor
 ·intro h p hp;have:=(List.map_inj_left.1 h) p hp;rw[<-Md (hl p hp).1 ht,<-Md (hl p hp).1 z1,this]
 intro h;apply y_;intro p hp;have:=h p hp;rw[<-Md (hl p hp).1 ht,<-Md (hl p hp).1 z1]at this;exact wK.2 this
def GInv.congr{T:Nat}{sig:Nat->Int->List Bool}{D D':Nat->Int->Prop}{st:List (List Bool×Prd)}(h:GInv T sig D st)(e:∀t n,D t n↔D' t n):GInv T sig D' st:=by have:D=D':=funext λt=>funext λn=>propext (e t n);rw[<-this];exact h
def N2{T:Nat}{sig:Nat->Int->List Bool}:∀(A:List (Nat×Iv)) (D:Nat->Int->Prop) (st:List (List Bool×Prd)),GInv T sig D st->(∀a∈A,a.1<T/\a.2.lo<=a.2.hi/\∀n,a.2.lo<=n->n<=a.2.hi->sig a.1 n=sig a.1 a.2.lo)->
  (∀t n,D t n->∀a∈A,∀n',a.2.lo<=n'->n'<=a.2.hi->Ik t n a.1 n')->A.Pairwise (λa b=>∀n n',a.2.lo<=n->n<=a.2.hi->b.2.lo<=n'->n'<=b.2.hi->Ik a.1 n b.1 n')->
  GInv T sig (λt n=>D t n\/∃a∈A,c1x a t n) (A.foldl (λst a=>Yl T a.1 (sig a.1 a.2.lo) a.2 st) st)
 |[],D,st,h,_,_,_=>h.congr (λt n=>by simp)
 |a::A,D,st,h,h1,h2,h3=>by
  obtain⟨i,x⟩:=a;obtain⟨e1,e2,e3⟩:=h1 (i,x) (by simp);obtain⟨p1,p2⟩:=yK.1 h3;have hs:=h.step e1 e2 e3 (λt n hd n' q1 q2=>h2 t n hd (i,x) (by simp) n' q1 q2);rw[xU];refine(N2 A _ _ hs (λb hb=>h1 b (by simp[hb])) (λt n hd b hb n' q1 q2=>?_) p2).congr (λt n=>?_)
  ·rcases hd with hd|hd
   ·exact h2 t n hd b (by simp[hb]) n' q1 q2
   obtain⟨rfl,d1,d2⟩:=hd;exact p1 b hb n n' d1 d2 q1 q2
  simp[or_assoc]
def Jc{T:Nat}{l:List Prd}{a:Nat×Iv}:a∈Zf T l↔a.1<T/\a.2∈Yu (Wa l a.1):=by
 unfold Zf;rw[xS];constructor
 ·rintro⟨i,hi,h⟩;obtain⟨x,hx,rfl⟩:=zQ.1 h;exact⟨xJ.1 hi,hx⟩
 rintro⟨h1,h2⟩;exact⟨a.1,xJ.2 h1,zQ.2 ⟨a.2,h2,rfl⟩⟩
def y1m{T:Nat}{l:List Prd}(hl:∀p∈l,PCk T p):(Zf T l).Pairwise (λa b=>∀n n',a.2.lo<=n->n<=a.2.hi->b.2.lo<=n'->n'<=b.2.hi->Ik a.1 n b.1 n'):=by
 unfold Zf;rw[vF];refine⟨λi _=>?_,?_⟩
 ·rw[xM];refine(y05 _ (Yf hl i).1).imp (λ{x y} h n n' h1 h2 h3 h4=> .inr ⟨rfl,by simp only at h2 h3;omega⟩)
 refine List.pairwise_lt_range.imp (λ{i j} h a ha b hb n n' _ _ _ _=>?_);obtain⟨x,_,rfl⟩:=zQ.1 ha;obtain⟨y,_,rfl⟩:=zQ.1 hb;exact .inl h
def d0i{T:Nat}{l:List Prd}(hl:∀p∈l,PCk T p):GInv T (Is l) (λt n=>t<T/\inR n) (Pv T l):=by
 have h0:GInv T (Is l) (λ_ _=>False) []:=⟨by simp,by simp,by simp,by simp,by simp,λ_ _ h=>h.elim,by simp⟩
 refine(N2 (Zf T l) _ [] h0 (λa ha=>?_) (λ_ _ h=>h.elim) (y1m hl)).congr (λt n=>?_)
 ·obtain⟨h1,h2⟩:=Jc.1 ha;exact⟨h1,(Sq _ (Yf hl a.1).1 _ h2).1,λn q1 q2=>w1l hl a.1 h2 n q1 q2⟩
 obtain⟨c1,c2,c3,c4,c5⟩:=Yf hl t;constructor
 ·rintro(h|⟨a,ha,rfl,h1,h2⟩)
  ·exact h.elim
  obtain⟨q1,q2⟩:=Jc.1 ha;obtain⟨s1,s2,s3,s4⟩:=Sq _ c1 _ q2;have:=c4 _ s2;have:=c4 _ s3;exact⟨q1,by unfold inR;omega⟩
 rintro⟨h1,h2⟩;unfold inR at h2;obtain⟨x,hx,e1,e2⟩:=L7 _ c1 n ⟨_,c2,h2.1⟩ ⟨_,c3,by omega⟩;exact .inr ⟨(t,x),Jc.2 ⟨h1,hx⟩,rfl,e1,e2⟩
def O0{s:List Iv}(h:(∀x∈s,x.lo<=x.hi)/\s.Pairwise (λx y=>x.hi<y.lo)):Sep (Qz [] s)/\∀n,M (Qz [] s) n↔M s n:=by have hb:Za s:=h.2.imp_of_mem (λ{x y} hx hy hxy=>by have:=h.1 x hx;omega);have:=O7 s [] X0 hb h.1 (by simp);refine⟨this.1,λn=>?_⟩;rw[this.2 n];simp[M]
def Vf{T:Nat}{p:Prd}(h:∀s∈p,(∀x∈s,x.lo<=x.hi)/\s.Pairwise (λx y=>x.hi<y.lo))(t:Nat)(n:Int):PM (Ri p) t n↔PM p t n:=by
 unfold PM Ri;rw[zS];constructor
 ·rintro⟨s,hs,hm⟩;obtain⟨a,ha,rfl⟩:=zP.1 hs;exact⟨a,ha,((O0 (h a (zJ ha))).2 n).1 hm⟩
 rintro⟨a,ha,hm⟩;exact⟨Qz [] a,by rw[ha];rfl,((O0 (h a (zJ ha))).2 n).2 hm⟩
def Xx{T:Nat}{l:List Prd}(hl:∀p∈l,PCk T p):Prts T l (Re T l)/\(Re T l).Pairwise u0o:=by
 have h:=d0i hl;have z1:∀g∈Pv T l,∀t n,PM (Ri g.2) t n↔(t<T/\inR n)/\Is l t n=g.1:=λg hg t n=>by rw[Vf (T:=T) (h.asc g hg),h.mem g hg]
 have z6:∀p∈Re T l,∃g∈Pv T l,p=Ri g.2:=λp hp=>by obtain⟨g,hg,rfl⟩:=zQ.1 hp;exact⟨g,hg,rfl⟩
 refine⟨⟨λp hp=>?_,λp hp=>?_,λt n ht hn=>?_,λp hp t n hm t' n'=>?_⟩,?_⟩
 ·obtain⟨g,hg,rfl⟩:=z6 p hp;refine⟨by simp[Ri,h.len g hg],λs hs=>?_⟩;obtain⟨i,hi⟩:=yH.1 hs;have z7:=hs;obtain⟨a,ha,rfl⟩:=zQ.1 hs;exact⟨(O0 (h.asc g hg a ha)).1,λn hn=>((z1 g hg i n).1 ⟨_,hi,hn⟩).1.2⟩
 ·obtain⟨g,hg,rfl⟩:=z6 p hp;obtain⟨t,n,hm⟩:=h.ne g hg;exact⟨t,n,(Vf (T:=T) (h.asc g hg) t n).2 hm⟩
 ·obtain⟨g,hg,he⟩:=h.all t n ⟨ht,hn⟩;exact⟨Ri g.2,zQ.2 ⟨g,hg,rfl⟩,(z1 g hg t n).2 ⟨⟨ht,hn⟩,he.symm⟩⟩
 ·obtain⟨g,hg,rfl⟩:=z6 p hp;obtain⟨⟨q1,q2⟩,q3⟩:=(z1 g hg t n).1 hm;rw[z1 g hg];constructor
  ·rintro⟨⟨h1,h2⟩,h3⟩;exact⟨h1,h2,(f1j hl q1 h1 n n').1 (q3.trans h3.symm)⟩
  rintro⟨h1,h2,h3⟩;exact⟨⟨h1,h2⟩,((f1j hl q1 h1 n n').2 h3).symm.trans q3⟩
 unfold Re;rw[xM];refine h.ord.imp_of_mem (λ{a b} ha hb hab=>?_);obtain⟨t,n,e1,e2⟩:=hab;exact⟨t,n,(Vf (T:=T) (h.asc a ha) t n).2 e1,λt' n' hm=>e2 t' n' ((Vf (T:=T) (h.asc b hb) t' n').1 hm)⟩
def K9{T:Nat}(hT:0<T){l:List Prd}(hl:∀p∈l,PCk T p):Re T l=Q5 T l:=by obtain⟨a1,a2⟩:=Xx hl;obtain⟨b1,b2⟩:=U9 hT hl;exact a1.unique b1 a2 b2
structure Sy where
 ty:Int
 num:Int
deriving Inhabited,DecidableEq
structure Mv where
 src:Int
 dst:Int
 on:Prd
deriving Inhabited
structure Aut where
 types:Int
 fin:List Bool
 mv:List Mv
deriving Inhabited
def Ty:Aut:=⟨0,[],[]⟩
def u0h:List (List Iv)->Int
 |[]=>0
 |s::r=>if ckR s≠0 then ckR s else u0h r
def Eu(T:Int)(p:Prd):Int:=if T<1\/16<T then 2 else if(p.length:Int)≠T then 15 else u0h p
def v09(T:Int)(n:Nat):List Mv->Int
 |[]=>0
 |m::r=>if ¬((0<=m.src/\m.src<n)/\(0<=m.dst/\m.dst<n))then 2 else if Eu T m.on≠0 then Eu T m.on else v09 T n r
def Wo(a:Aut):Int:=if a.types<1\/16<a.types then 2 else if a.fin.length<1\/256<a.fin.length\/2048<a.mv.length then 5 else v09 a.types a.fin.length a.mv
def x0a:∀(p:List (List Iv)),u0h p=0↔∀s∈p,CanonL s
 |[]=>by simp[u0h]
 |s::r=>by
  rw[u0h];by_cases h:ckR s=0
  ·rw[if_neg (λk=>k h),x0a r];simp[(Dy s).1 h]
  rw[if_pos h];refine⟨λk=>absurd k h,λk=>absurd ((Dy s).2 (k s (by simp))) h⟩
def W3(T:Int)(p:Prd):Eu T p=0↔(1<=T/\T<=16)/\PCk T.toNat p:=by
 unfold Eu PCk;by_cases h1:T<1\/16<T
 ·rw[if_pos h1];exact⟨λh=>by omega,λh=>by omega⟩
 rw[if_neg h1];by_cases h2:(p.length:Int)≠T
 ·rw[if_pos h2];exact⟨λh=>by omega,λh=>by omega⟩
 rw[if_neg h2,x0a];exact⟨λh=>⟨by omega,by omega,h⟩,λh=>h.2.2⟩
structure OkMv (T:Nat) (n:Nat) (m:Mv):Prop where
 src:0<=m.src/\m.src<n
 dst:0<=m.dst/\m.dst<n
 on:PCk T m.on
structure OkA (a:Aut):Prop where
 types:1<=a.types/\a.types<=16
 fin:1<=a.fin.length/\a.fin.length<=256
 mvs:a.mv.length<=2048
 mv:∀m∈a.mv,OkMv a.types.toNat a.fin.length m
def w05{T:Int}(hT:1<=T/\T<=16)(n:Nat):∀(l:List Mv),v09 T n l=0↔∀m∈l,OkMv T.toNat n m
 |[]=>by simp[v09]
 |m::r=>by
  rw[v09];by_cases h1:(0<=m.src/\m.src<n)/\(0<=m.dst/\m.dst<n)
  ·rw[if_neg (λk=>k h1)];by_cases h2:Eu T m.on=0
   ·rw[if_neg (λk=>k h2),w05 hT n r];have h3:=((W3 T m.on).1 h2).2;constructor
    ·intro h x hx;rcases zX.1 hx with rfl|hx
     ·exact⟨h1.1,h1.2,h3⟩
     exact h x hx
    exact λh x hx=>h x (by simp[hx])
   rw[if_pos h2];exact⟨λh=>absurd h h2,λh=>absurd ((W3 T m.on).2 ⟨hT,(h m (by simp)).on⟩) h2⟩
  rw[if_pos h1];exact⟨λh=>(by cases h),λh=>absurd ⟨(h m (by simp)).src,(h m (by simp)).dst⟩ h1⟩
def Ud(a:Aut):Wo a=0↔OkA a:=by
 unfold Wo;by_cases h1:a.types<1\/16<a.types
 ·rw[if_pos h1];exact⟨λh=>(by cases h),λh=>by have:=h.types;omega⟩
 rw[if_neg h1];by_cases h2:a.fin.length<1\/256<a.fin.length\/2048<a.mv.length
 ·rw[if_pos h2];exact⟨λh=>(by cases h),λh=>by have:=h.fin;have:=h.mvs;omega⟩
 rw[if_neg h2,w05 (by omega)];exact⟨λh=>⟨by omega,by omega,by omega,h⟩,λh=>h.mv⟩
def Rk(p:Prd)(x:Sy):Bool:=decide (0<=x.ty) && decide (x.ty<p.length) && Y5 (p.getD x.ty.toNat []) x.num
def Jd(T:Int)(x:Sy):Int:=if x.ty<0\/T<=x.ty then 6 else if x.num< -1099511627776\/1099511627776<x.num then 2 else 0
def Am(T:Int)(x:Sy):Jd T x=0↔(0<=x.ty/\x.ty<T)/\inR x.num:=by
 unfold Jd inR;split
 ·constructor
  ·intro h;cases h
  intro h;omega
 split
 ·constructor
  ·intro h;cases h
  intro h;omega
 constructor
 ·intro _;omega
 intro _;rfl
def Ej{T:Nat}{p:Prd}(hp:p.length=T)(x:Sy)(hx:0<=x.ty):Rk p x=true↔PM p x.ty.toNat x.num:=by
 unfold Rk;by_cases h:x.ty<p.length
 ·have h1:x.ty.toNat<T:=by omega
  rw[<-Md hp h1];simp[h,hx]
 have:¬PM p x.ty.toNat x.num:=by rintro⟨s,hs,_⟩;have:=(zB.1 hs).1;omega
 simp[h,this]
def El(n:Nat):List Int:=(yU n).map λi:Nat=>(i:Int)
def Ek{n:Nat}{z:Int}:z∈El n↔0<=z/\z<n:=by
 unfold El;rw[zQ];constructor
 ·rintro⟨i,hi,rfl⟩;have:=xJ.1 hi;omega
 rintro⟨h1,h2⟩;exact⟨z.toNat,xJ.2 (by omega),by omega⟩
def Ka(n:Nat):(El n).Pairwise (·<·):=by unfold El;rw[xM];exact List.pairwise_lt_range.imp (λh=>by omega)
def z29(a:Aut)(l:List Int)(x:Sy)(j:Int):Bool:=a.mv.any λm=>l.contains m.src && Rk m.on x && decide (m.dst=j)
def Qy(a:Aut)(l:List Int)(x:Sy):List Int:=(El a.fin.length).filter (z29 a l x)
def z2z(a:Aut)(l:List Int)(x:Sy):List Int:=Go.Lib.compact (E4 ((a.mv.filter λm=>l.contains m.src && Rk m.on x).map (·.dst)))
def x16(zs:List Int):(E4 zs).Pairwise (·<=·):=by have:=ul (le:=λx y:Int=>decide (x<=y)) (λa b c h1 h2=>by simp at h1 h2 |-;omega) (λa b=>by simp;omega) zs;simpa[E4]using this
def Br(zs:List Int):(Go.Lib.compact (E4 zs)).Pairwise (·<·)/\∀z,z∈Go.Lib.compact (E4 zs)↔z∈zs:=by have h:=Bv _ (x16 zs) _ (zR _);refine⟨h.1,λz=>?_⟩;have h2:=h.2 z;rw[yI]at h2;rw[Go.Lib.compact,h2,E4,tD]
def Ye{a b:List Int}(ha:a.Pairwise (·<·))(hb:b.Pairwise (·<·))(h:∀z,z∈a↔z∈b):a=b:=by have hn:∀ {l:List Int},l.Pairwise (·<·)->l.Nodup:=λhl=>hl.imp (λh e=>by omega);exact List.Perm.eq_of_pairwise (le:=(·<·)) (λa b _ _ h1 h2=>by omega) ha hb ((u7 (hn ha) (hn hb)).2 h)
def Yx(a:Aut)(l:List Int)(x:Sy):(Qy a l x).Pairwise (·<·):=(Ka _).filter _
def We{a:Aut}{l:List Int}{x:Sy}{j:Int}:j∈Qy a l x↔(0<=j/\j<a.fin.length)/\∃m∈a.mv,m.src∈l/\Rk m.on x=true/\m.dst=j:=by unfold Qy z29;rw[xH,Ek,wM];simp[and_assoc]
def z2n{a:Aut}(h:∀m∈a.mv,0<=m.dst/\m.dst<a.fin.length)(l:List Int)(x:Sy):z2z a l x=Qy a l x:=by
 obtain⟨h1,h2⟩:=Br ((a.mv.filter λm=>l.contains m.src && Rk m.on x).map (·.dst));refine Ye h1 (Yx a l x) λz=>?_;rw[z2z,h2,We];constructor
 ·intro hz;obtain⟨m,hm,rfl⟩:=zQ.1 hz;obtain⟨hm,hc⟩:=xH.1 hm;simp at hc;exact⟨h m hm,m,hm,hc.1,hc.2,rfl⟩
 rintro⟨_,m,hm,c1,c2,rfl⟩;exact zQ.2 ⟨m,xH.2 ⟨hm,by simp[c1,c2]⟩,rfl⟩
def O1{a:Aut}{l:List Int}{x:Sy}:∀j∈Qy a l x,0<=j/\j<a.fin.length:=λj hj=>(We.1 hj).1
def Ql(p:Prd):Sy:=⟨(Qx p 0).1,(Qx p 0).2⟩
def L6(Q:List (List Int))(x:List Int):List (List Int):=if x=[]\/x∈Q then Q else Q++[x]
def Ee(Q:List (List Int))(xs:List (List Int)):List (List Int):=xs.foldl L6 Q
def Tc(a:Aut)(cl:List Prd)(l:List Int):List (List Int):=cl.map λc=>Qy a l (Ql c)
def v0g(a:Aut)(cl:List Prd):Nat->Nat->List (List Int)->Option (List (List Int))
 |0,_,_=>none
 |f+1,i,Q=>match Q[i]? with
  |some l=>if 256<(Ee Q (Tc a cl l)).length then none else v0g a cl f (i+1) (Ee Q (Tc a cl l))
  |none=>some Q
def x1m(Q:List (List Int))(x:List Int):∃R,L6 Q x=Q++R/\∀y∈R,y=x/\x≠[]:=by
 unfold L6;split
 ·exact⟨[],by simp,by simp⟩
 rename_i h;exact⟨[x],rfl,λy hy=>⟨zO.1 hy,λe=>h (.inl e)⟩⟩
def Uu:∀(xs:List (List Int)) (Q:List (List Int)),∃R,Ee Q xs=Q++R/\∀y∈R,y∈xs/\y≠[]
 |[],Q=>⟨[],by simp[Ee],by simp⟩
 |x::xs,Q=>by
  obtain⟨R1,h1,h2⟩:=x1m Q x;obtain⟨R2,h3,h4⟩:=Uu xs (L6 Q x);refine⟨R1++R2,?_,λy hy=>?_⟩
  ·show Ee (L6 Q x) xs=_;rw[h3,h1,List.append_assoc]
  rcases zT.1 hy with hy|hy
  ·obtain⟨rfl,hn⟩:=h2 y hy;exact⟨by simp,hn⟩
  exact⟨by simp[(h4 y hy).1],(h4 y hy).2⟩
def v0x(Q xs:List (List Int)):Q.length<=(Ee Q xs).length:=by obtain⟨R,h,_⟩:=Uu xs Q;rw[h];simp
def x11{Q:List (List Int)}{x:List Int}(hx:x≠[]):x∈L6 Q x:=by
 unfold L6;split
 ·rename_i h;rcases h with h|h
  ·exact absurd h hx
  exact h
 simp
def Zi:∀ {xs:List (List Int)} {Q:List (List Int)} {x:List Int},x∈xs->x≠[]->x∈Ee Q xs
 |[],_,_,h,_=>by cases h
 |y::xs,Q,x,h,hn=>by
  show x∈Ee (L6 Q y) xs;rcases zX.1 h with rfl|h
  ·obtain⟨R,e,_⟩:=Uu xs (L6 Q x);rw[e];exact yV _ (x11 hn)
  exact Zi h hn
def Ro(p q:Prd):Prd:=sd (λa b=>Ez (a++b)) p q
def Sc{T:Nat}{p q:Prd}(hp:PWf T p)(hq:PWf T q)(t:Nat)(n:Int):PM (Ro p q) t n↔PM p t n\/PM q t n:=by
 have hf:∀ {a b:List Iv},a∈p->b∈q->∀x∈a++b,x.lo<=x.hi:=λha hb x hx=>by
  rcases zT.1 hx with hx|hx
  ·exact(hp.2 _ ha).1.1 x hx
  exact(hq.2 _ hb).1.1 x hx
 unfold PM Ro;rw[vA];constructor
 ·rintro⟨s,hs,hm⟩;cases h1:p[t]? with
  |none=>rw[h1]at hs;simp at hs
  |some a=>
   cases h2:q[t]? with
   |none=>rw[h1,h2]at hs;simp at hs
   |some b=>
    rw[h1,h2]at hs;simp at hs;subst hs;have:=((Uw _ (hf (zJ h1) (zJ h2))).2 n).1 hm;rcases(Kw ..).1 this with h|h
    ·exact .inl ⟨a,rfl,h⟩
    exact .inr ⟨b,rfl,h⟩
 intro h;have z1:t<T:=by
  rcases h with⟨s,hs,_⟩|⟨s,hs,_⟩
  ·rw[<-hp.1];exact(zB.1 hs).1
  rw[<-hq.1];exact(zB.1 hs).1
 have h1:t<p.length:=by rw[hp.1];exact z1
 have h2:t<q.length:=by rw[hq.1];exact z1
 rw[zI h1,zI h2]at h |-;refine⟨_,rfl,((Uw _ (hf (zL h1) (zL h2))).2 n).2 ((Kw ..).2 ?_)⟩;rcases h with⟨s,hs,hm⟩|⟨s,hs,hm⟩
 ·cases hs;exact .inl hm
 cases hs;exact .inr hm
def G6{T:Nat}{p q:Prd}(hp:PWf T p)(hq:PWf T q):PWf T (Ro p q):=by
 refine⟨by simp[Ro,hp.1,hq.1],λs hs=>?_⟩;obtain⟨i,hi⟩:=yH.1 hs;have z1:=hi;unfold Ro at hi;rw[vA]at hi;cases h1:p[i]? with
 |none=>rw[h1]at hi;simp at hi
 |some a=>
  cases h2:q[i]? with
  |none=>rw[h1,h2]at hi;simp at hi
  |some b=>
   rw[h1,h2]at hi;simp at hi;subst hi;refine⟨(Uw _ λx hx=>?_).1,λn hn=>?_⟩
   ·rcases zT.1 hx with hx|hx
    ·exact(hp.2 _ (zJ h1)).1.1 x hx
    exact(hq.2 _ (zJ h2)).1.1 x hx
   rcases(Sc hp hq i n).1 ⟨_,z1,hn⟩with h|h
   ·exact(hp.lt h).2
   exact(hq.lt h).2
def j0h(Q:List (List Int))(x:List Int):Option Nat:=Q.findIdx? λy=>decide (y=x)
def J8{Q:List (List Int)}{x:List Int}{t:Nat}(h:j0h Q x=some t):Q[t]?=some x:=by unfold j0h at h;obtain⟨h1,h2,_⟩:=xP.1 h;rw[zI h1];simpa using h2
def j07{Q:List (List Int)}(hn:Q.Nodup){t:Nat}{x:List Int}(h:Q[t]?=some x):j0h Q x=some t:=by
 unfold j0h;obtain⟨h1,h2⟩:=zB.1 h;refine xP.2 ⟨h1,by simpa using h2,λj hj=>?_⟩;have z1:Q[j]≠Q[t]:=λe=>by have:=(vW hn).1 e;omega
 rw[h2]at z1;simpa using z1
def Tx(n:Nat)(g:List Mv)(to:Nat)(c:Prd):List Mv:=match g.findIdx? λm:Mv=>decide (m.dst=(to:Int))with
 |none=>g++[⟨n,to,c⟩]
 |some i=>match g[i]? with
  |some m=>g.set i { m with on:=Ro m.on c }
  |none=>g
def Mq(a:Aut)(cl:List Prd)(Q:List (List Int))(n:Nat)(l:List Int):List Mv:=
 cl.foldl (λg c=>match j0h Q (Qy a l (Ql c))with|some t=>Tx n g t c|none=>g) []
def q0e(a:Aut)(cl:List Prd)(Q:List (List Int)):List Mv:=(yU Q.length).flatMap λn=>Mq a cl Q n (Q.getD n [])
def O9(a:Aut)(l:List Int):Bool:=l.any λs=>a.fin.getD s.toNat false
def Uh(a:Aut)(cl:List Prd)(Q:List (List Int)):Aut:=⟨a.types,Q.map (O9 a),q0e a cl Q⟩
structure MInv (T N n:Nat) (D:Nat->Nat->Int->Prop) (g:List Mv):Prop where
 wf:∀m∈g,PWf T m.on
 src:∀m∈g,m.src=n
 dst:∀m∈g,∃t:Nat,t<N/\m.dst=t
 nd:g.Pairwise (λm k=>m.dst≠k.dst)
 mem:∀m∈g,∀t:Nat,m.dst=t->∀ty y,PM m.on ty y↔D t ty y
 all:∀t ty y,D t ty y->∃m∈g,m.dst=(t:Int)
def MInv.add{T N n:Nat}{D:Nat->Nat->Int->Prop}{g:List Mv}(h:MInv T N n D g){to:Nat}(ht:to<N){c:Prd}(hc:PWf T c)(zh:∃ty y,PM c ty y):
  MInv T N n (λt ty y=>D t ty y\/(t=to/\PM c ty y)) (Tx n g to c):=by
 unfold Tx;cases hf:g.findIdx? λm:Mv=>decide (m.dst=(to:Int))with
 |none=>
  rw[List.findIdx?_eq_none_iff]at hf;have z7:∀m∈g,m.dst≠(to:Int):=λm hm=>by simpa using hf m hm
  show MInv T N n _ (g++[⟨n,to,c⟩]);have z1:∀m∈g++[(⟨n,to,c⟩:Mv)],m∈g\/m=⟨n,to,c⟩:=λm hm=>by
   rcases zT.1 hm with hm|hm
   ·exact .inl hm
   exact .inr (zO.1 hm)
  have hD:∀ty y,¬D to ty y:=λty y hd=>by obtain⟨m,hm,e⟩:=h.all to ty y hd;exact z7 m hm e
  refine⟨λm hm=>?_,λm hm=>?_,λm hm=>?_,?_,λm hm t e ty y=>?_,λt ty y hd=>?_⟩
  ·rcases z1 m hm with hm|rfl
   ·exact h.wf m hm
   exact hc
  ·rcases z1 m hm with hm|rfl
   ·exact h.src m hm
   rfl
  ·rcases z1 m hm with hm|rfl
   ·exact h.dst m hm
   exact⟨to,ht,rfl⟩
  ·exact yE.2 ⟨h.nd,by simp,λm hm k hk=>by obtain rfl:=zO.1 hk;exact z7 m hm⟩
  ·rcases z1 m hm with hm'|rfl
   ·rw[h.mem m hm' t e];constructor
    ·exact λhd=> .inl hd
    rintro(hd|⟨e2,_⟩)
    ·exact hd
    exact absurd (by rw[e,e2]) (z7 m hm')
   have:t=to:=by simp at e;omega
   subst this;constructor
   ·exact λhd=> .inr ⟨rfl,hd⟩
   rintro(hd|⟨_,hd⟩)
   ·exact absurd hd (hD ty y)
   exact hd
  rcases hd with hd|⟨rfl,_⟩
  ·obtain⟨m,hm,e⟩:=h.all t ty y hd;exact⟨m,by simp[hm],e⟩
  exact⟨⟨n,t,c⟩,by simp,rfl⟩
 |some i=>
  obtain⟨hi,zf,_⟩:=xP.1 hf;simp only[zI hi];have z6:g[i].dst=(to:Int):=by simpa using zf
  have z8:=zL hi;have hw:=h.wf _ z8;have z1:∀m∈g.set i { g[i]with on:=Ro g[i].on c },(m∈g/\m.dst≠(to:Int))\/m={ g[i]with on:=Ro g[i].on c }:=λm hm=>by
   obtain⟨j,hj⟩:=yH.1 hm;by_cases hij:i=j
   ·subst hij;rw[zK hi]at hj;exact .inr (Option.some.inj hj).symm
   rw[zE hij]at hj;obtain⟨zc,zd⟩:=zB.1 hj;refine .inl ⟨zJ hj,λe=>?_⟩;rcases uQ hij with hlt|hgt
   ·exact yL.1 h.nd i j hi zc hlt (by rw[zd,e,z6])
   exact yL.1 h.nd j i zc hi hgt (by rw[zd,e,z6])
  refine⟨λm hm=>?_,λm hm=>?_,λm hm=>?_,?_,λm hm t e ty y=>?_,λt ty y hd=>?_⟩
  ·rcases z1 m hm with⟨hm,_⟩|rfl
   ·exact h.wf m hm
   exact G6 hw hc
  ·rcases z1 m hm with⟨hm,_⟩|rfl
   ·exact h.src m hm
   have:=h.src g[i] z8;simpa using this
  ·rcases z1 m hm with⟨hm,_⟩|rfl
   ·exact h.dst m hm
   exact⟨to,ht,z6⟩
  ·have za:(g.set i { g[i]with on:=Ro g[i].on c }).map (·.dst)=g.map (·.dst):=by
    apply List.ext_getElem?;intro j;rw[zS,zS];by_cases hij:i=j
    ·subst hij;rw[zK hi,zI hi];rfl
    rw[zE hij]
   have hp:(g.map (·.dst)).Pairwise (·≠·):=xM.2 h.nd;rw[<-za]at hp;exact xM.1 hp
  ·rcases z1 m hm with⟨hm,zg⟩|rfl
   ·rw[h.mem m hm t e];constructor
    ·exact λhd=> .inl hd
    rintro(hd|⟨rfl,_⟩)
    ·exact hd
    exact absurd e zg
   have:t=to:=by simp only at e;omega
   subst this;have zb:=Sc hw hc ty y;have ze:=h.mem _ z8 t z6 ty y;constructor
   ·intro hd;rcases zb.1 hd with hd|hd
    ·exact .inl (ze.1 hd)
    exact .inr ⟨rfl,hd⟩
   rintro(hd|⟨_,hd⟩)
   ·exact zb.2 (.inl (ze.2 hd))
   exact zb.2 (.inr hd)
  rcases hd with hd|⟨rfl,_⟩
  ·obtain⟨m,hm,e⟩:=h.all t ty y hd;obtain⟨j,hj⟩:=yH.1 hm;by_cases hij:i=j
   ·subst hij;rw[zI hi]at hj;cases hj;exact⟨_,zJ (zK hi),e⟩
   exact⟨m,zJ (by rw[zE hij];exact hj),e⟩
  exact⟨_,zJ (zK hi),z6⟩
def MInv.congr{T N n:Nat}{D D':Nat->Nat->Int->Prop}{g:List Mv}(h:MInv T N n D g)(e:∀t ty y,D t ty y↔D' t ty y):MInv T N n D' g:=by have:D=D':=funext λt=>funext λty=>funext λy=>propext (e t ty y);rw[<-this];exact h
def Sf{T:Nat}{a:Aut}{cl:List Prd}{Q:List (List Int)}(n:Nat)(l:List Int)(hw:∀c∈cl,PWf T c/\∃ty y,PM c ty y):
  MInv T Q.length n (λt ty y=>∃c∈cl,j0h Q (Qy a l (Ql c))=some t/\PM c ty y) (Mq a cl Q n l):=by
 have key:∀(r:List Prd) (D:Nat->Nat->Int->Prop) (g:List Mv),MInv T Q.length n D g->(∀c∈r,PWf T c/\∃ty y,PM c ty y)->
   MInv T Q.length n (λt ty y=>D t ty y\/∃c∈r,j0h Q (Qy a l (Ql c))=some t/\PM c ty y) (r.foldl (λg c=>match j0h Q (Qy a l (Ql c))with|some t=>Tx n g t c|none=>g) g):=by
  intro r;induction r with
  |nil=>intro D g h _;exact h.congr (λt ty y=>by simp)
  |cons c r ih=>
   intro D g h hr;rw[xU];cases hx:j0h Q (Qy a l (Ql c))with
   |none=>refine(ih D g h (λd hd=>hr d (by simp[hd]))).congr (λt ty y=>?_);simp[hx]
   |some to=>
    have z1:=(zB.1 (J8 hx)).1;have hc:=hr c (by simp);refine(ih _ _ (h.add z1 hc.1 hc.2) (λd hd=>hr d (by simp[hd]))).congr (λt ty y=>?_);simp only[zX,exists_eq_or_imp,hx,Option.some.injEq,or_assoc];constructor
    ·rintro(h|⟨e,h⟩|h)
     ·exact .inl h
     ·exact .inr (.inl ⟨e.symm,h⟩)
     exact .inr (.inr h)
    rintro(h|⟨e,h⟩|h)
    ·exact .inl h
    ·exact .inr (.inl ⟨e.symm,h⟩)
    exact .inr (.inr h)
 have h0:MInv T Q.length n (λ_ _ _=>False) []:=⟨by simp,by simp,by simp,by simp,by simp,λ_ _ _ h=>h.elim⟩
 exact(key cl _ [] h0 hw).congr (λt ty y=>by simp)
structure Cls (a:Aut) (cl:List Prd):Prop where
 ok:OkA a
 prts:Prts a.types.toNat (a.mv.map (·.on)) cl
 wf:∀c∈cl,PWf a.types.toNat c/\∃ty y,PM c ty y
def f1n{a:Aut}(h:OkA a):Cls a (Q5 a.types.toNat (a.mv.map (·.on))):=by
 have hT:0<a.types.toNat:=by have:=h.types;omega
 have hp:=(U9 hT (l:=a.mv.map (·.on)) (λp hp=>by obtain⟨m,hm,rfl⟩:=zQ.1 hp;exact(h.mv m hm).on)).1;exact⟨h,hp,λc hc=>⟨hp.wf c hc,hp.ne c hc⟩⟩
def Wb(a:Aut)(x:Sy):Prop:=(0<=x.ty/\x.ty<a.types)/\inR x.num
def k05{a:Aut}{l:List Int}{x y:Sy}(h:∀m∈a.mv,Rk m.on x=Rk m.on y):Qy a l x=Qy a l y:=by
 refine Ye (Yx ..) (Yx ..) λz=>?_;rw[We,We];constructor
 ·rintro⟨h1,m,hm,h2,h3,h4⟩;exact⟨h1,m,hm,h2,by rw[<-h m hm];exact h3,h4⟩
 rintro⟨h1,m,hm,h2,h3,h4⟩;exact⟨h1,m,hm,h2,by rw[h m hm];exact h3,h4⟩
def Cls.of{a:Aut}{cl:List Prd}(h:Cls a cl){x:Sy}(hx:Wb a x):∃c∈cl,PM c x.ty.toNat x.num/\∀l,Qy a l x=Qy a l (Ql c):=by obtain⟨c,hc,hm⟩:=h.prts.all x.ty.toNat x.num (by have:=hx.1;omega) hx.2;refine⟨c,hc,hm,λl=>k05 λm z1=>?_⟩;have h1:=(W8 (h.wf c hc).1 (h.wf c hc).2).1;have h2:=((h.prts.cls c hc _ _ hm _ _).1 h1).2.2 m.on (zQ.2 ⟨m,z1,rfl⟩);have hl:=(h.ok.mv m z1).on.1;rw[wK,Ej hl x hx.1.1,Ej hl (Ql c) (by simp[Ql])];simpa[Ql]using h2
def Cls.same{a:Aut}{cl:List Prd}(h:Cls a cl){c:Prd}(hc:c∈cl){x:Sy}(hx:Wb a x)(hm:PM c x.ty.toNat x.num)(l:List Int):Qy a l x=Qy a l (Ql c):=by obtain⟨d,hd,z1,e⟩:=h.of hx;rw[e l,h.prts.disj hd hc z1 hm]
structure Sub (a:Aut) (cl:List Prd) (Q:List (List Int)):Prop where
 first:Q[0]?=some [0]
 nd:Q.Nodup
 ne:∀l∈Q,l≠[]
 lim:Q.length<=256
 elem:∀l∈Q,l.Pairwise (·<·)/\∀s∈l,0<=s/\s<a.fin.length
 closed:∀l∈Q,∀c∈cl,Qy a l (Ql c)=[]\/Qy a l (Ql c)∈Q
def k0y{Q:List (List Int)}{x:List Int}(h:Q.Nodup):(L6 Q x).Nodup:=by
 unfold L6;split
 ·exact h
 rename_i hx;exact List.nodup_append.2 ⟨h,by simp,λa ha b hb e=>by
  obtain rfl:=zO.1 hb;subst e;exact hx (.inr ha)⟩
def D2:∀(xs:List (List Int)) {Q:List (List Int)},Q.Nodup->(Ee Q xs).Nodup
 |[],_,h=>h
 |x::xs,Q,h=>D2 xs (k0y (x:=x) h)
def f0y{a:Aut}(ha:OkA a)(cl:List Prd):∀(f i:Nat) (Q R:List (List Int)),v0g a cl f i Q=some R->Q[0]?=some [0]->Q.Nodup->(∀l∈Q,l≠[])->Q.length<=256->(∀l∈Q,l.Pairwise (·<·)/\∀s∈l,0<=s/\s<a.fin.length)->
  (∀j,j<i->∀l,Q[j]?=some l->∀c∈cl,Qy a l (Ql c)=[]\/Qy a l (Ql c)∈Q)->Sub a cl R
 |0,_,_,_,h,_,_,_,_,_,_=>by cases h
 |f+1,i,Q,R,h,h1,h2,h3,h4,h5,h6=>by
  rw[v0g]at h;cases hq:Q[i]? with
  |none=>rw[hq]at h;simp only[Option.some.injEq]at h;subst h;have hi:Q.length<=i:=List.getElem?_eq_none_iff.1 hq;refine⟨h1,h2,h3,h4,h5,λl hl c hc=>?_⟩;obtain⟨j,hj⟩:=yH.1 hl;exact h6 j (by have:=(zB.1 hj).1;omega) l hj c hc
  |some l=>
   rw[hq]at h;simp only at h;by_cases hlim:256<(Ee Q (Tc a cl l)).length
   ·rw[if_pos hlim]at h;cases h
   rw[if_neg hlim]at h;obtain⟨X,hX,z6⟩:=Uu (Tc a cl l) Q;have hlen:0<Q.length:=(zB.1 h1).1;have z1:∀y∈Ee Q (Tc a cl l),y∈Q\/(y≠[]/\∃c∈cl,y=Qy a l (Ql c)):=λy hy=>by
    rw[hX]at hy;rcases zT.1 hy with hy|hy
    ·exact .inl hy
    obtain⟨p1,p2⟩:=z6 y hy;obtain⟨c,hc,rfl⟩:=zQ.1 p1;exact .inr ⟨p2,c,hc,rfl⟩
   refine f0y ha cl f (i+1) _ R h ?_ (D2 _ h2) ?_ (by omega) ?_ ?_
   ·rw[hX,zF hlen];exact h1
   ·intro y hy;rcases z1 y hy with hy|⟨hy,_⟩
    ·exact h3 y hy
    exact hy
   ·intro y hy;rcases z1 y hy with hy|⟨_,c,_,rfl⟩
    ·exact h5 y hy
    exact⟨Yx ..,O1⟩
   intro j hj k hk c hc;by_cases hji:j<i
   ·have z7:j<Q.length:=by have:=(zB.1 hq).1;omega
    rw[hX,zF z7]at hk;rcases h6 j hji k hk c hc with h7|h7
    ·exact .inl h7
    right;rw[hX];exact yV _ h7
   have:j=i:=by omega
   subst this;rw[hX,zF (zB.1 hq).1,hq]at hk;cases hk;by_cases hn:Qy a l (Ql c)=[]
   ·exact .inl hn
   exact .inr (Zi (zQ.2 ⟨c,hc,rfl⟩) hn)
def Jm(a:Aut)(cl:List Prd):Option (List (List Int)):=v0g a cl 257 0 [[0]]
def f0o{a:Aut}(ha:OkA a){cl:List Prd}{Q:List (List Int)}(h:Jm a cl=some Q):Sub a cl Q:=
 f0y ha cl 257 0 [[0]] Q h rfl (by simp) (by simp) (by simp) (by intro l hl;obtain rfl:=zO.1 hl;exact⟨by simp,λs hs=>by obtain rfl:=zO.1 hs;have:=ha.fin;omega⟩) (λj hj=>by omega)
def Sub.step{a:Aut}{cl:List Prd}{Q:List (List Int)}(hs:Sub a cl Q)(hc:Cls a cl){l:List Int}(hl:l∈Q){x:Sy}(hx:Wb a x):Qy a l x=[]\/Qy a l x∈Q:=by obtain⟨c,h1,_,h3⟩:=hc.of hx;rw[h3 l];exact hs.closed l hl c h1
def Of{a:Aut}{cl:List Prd}{Q:List (List Int)}{m:Mv}:m∈q0e a cl Q↔∃n l,Q[n]?=some l/\m∈Mq a cl Q n l:=by
 unfold q0e;rw[xS];constructor
 ·rintro⟨n,hn,hm⟩;have z1:=xJ.1 hn;refine⟨n,Q[n],zI z1,?_⟩;simpa[yQ,z1]using hm
 rintro⟨n,l,hl,hm⟩;have z1:=(zB.1 hl).1;refine⟨n,xJ.2 z1,?_⟩;simpa[yQ,hl]using hm
def F0{a:Aut}{cl:List Prd}{Q:List (List Int)}(hc:Cls a cl)(hs:Sub a cl Q){n:Nat}{l:List Int}(hl:Q[n]?=some l){x:Sy}(hx:Wb a x)(t:Nat):
  (∃m∈q0e a cl Q,m.src=(n:Int)/\m.dst=(t:Int)/\Rk m.on x=true)↔Q[t]?=some (Qy a l x):=by
 have hg:=Sf (a:=a) (Q:=Q) n l hc.wf;have key:j0h Q (Qy a l x)=some t↔Q[t]?=some (Qy a l x):=⟨J8,j07 hs.nd⟩
 rw[<-key];constructor
 ·rintro⟨m,hm,h1,h2,h3⟩;obtain⟨n',l',hl',z6⟩:=Of.1 hm;have z7:=Sf (a:=a) (Q:=Q) n' l' hc.wf;have:n'=n:=by have:=z7.src m z6;omega
  subst this;rw[hl]at hl';cases hl';rw[Ej (hg.wf m z6).1 x hx.1.1]at h3;obtain⟨c,z1,e1,e2⟩:=(hg.mem m z6 t h2 _ _).1 h3;rw[hc.same z1 hx e2];exact e1
 intro h;obtain⟨c,z1,e1,e2⟩:=hc.of hx;rw[e2]at h;obtain⟨m,hm,hd⟩:=hg.all t _ _ ⟨c,z1,h,e1⟩;refine⟨m,Of.2 ⟨n,l,hl,hm⟩,hg.src m hm,hd,?_⟩;rw[Ej (hg.wf m hm).1 x hx.1.1];exact(hg.mem m hm t hd _ _).2 ⟨c,z1,h,e1⟩
def v1g{a:Aut}{cl:List Prd}{Q:List (List Int)}(hc:Cls a cl)(hs:Sub a cl Q){n:Nat}{l:List Int}(hl:Q[n]?=some l){x:Sy}(hx:Wb a x):
  (Qy a l x=[]/\Qy (Uh a cl Q) [(n:Int)] x=[])\/∃t:Nat,Q[t]?=some (Qy a l x)/\Qy (Uh a cl Q) [(n:Int)] x=[(t:Int)]:=by
 have z1:∀j,j∈Qy (Uh a cl Q) [(n:Int)] x↔∃t:Nat,j=t/\Q[t]?=some (Qy a l x):=λj=>by
  rw[We];constructor
  ·rintro⟨⟨h1,h2⟩,m,hm,h3,h4,h5⟩;refine⟨j.toNat,by omega,(F0 hc hs hl hx j.toNat).1 ⟨m,hm,zO.1 h3,by omega,h4⟩⟩
  rintro⟨t,rfl,ht⟩;obtain⟨m,hm,h1,h2,h3⟩:=(F0 hc hs hl hx t).2 ht;have:=(zB.1 ht).1;exact⟨⟨by omega,by simp[Uh];omega⟩,m,hm,by rw[h1];simp,h3,h2⟩
 rcases hs.step hc (zJ hl) hx with h0|h0
 ·refine .inl ⟨h0,wZ.2 λj hj=>?_⟩;obtain⟨t,_,ht⟩:=(z1 j).1 hj;rw[h0]at ht;exact hs.ne _ (zJ ht) rfl
 obtain⟨t,ht⟩:=yH.1 h0;refine .inr ⟨t,ht,Ye (Yx ..) (by simp) λz=>?_⟩;rw[z1 z];constructor
 ·rintro⟨u,rfl,hu⟩;obtain⟨h1,h2⟩:=zB.1 ht;obtain⟨h3,h4⟩:=zB.1 hu;have:u=t:=(vW hs.nd).1 (by rw[h4,h2]);simp[this]
 intro hz;exact⟨t,zO.1 hz,ht⟩
def Uv(a:Aut)(l:List Int)(w:List Sy):List Int:=w.foldl (Qy a) l
def E5(a:Aut)(w:List Sy):Bool:=O9 a (Uv a [0] w)
def q0t(a:Aut):∀w,Uv a [] w=[]
 |[]=>rfl
 |x::w=>by
  show Uv a (Qy a [] x) w=[]
  have:Qy a [] x=[]:=wZ.2 λj hj=>by obtain⟨_,m,_,h,_⟩:=We.1 hj;cases h
  rw[this,q0t a w]
def z1d{a:Aut}{cl:List Prd}{Q:List (List Int)}(hc:Cls a cl)(hs:Sub a cl Q):∀(w:List Sy),(∀x∈w,Wb a x)->∀(n:Nat) (l:List Int),Q[n]?=some l->
  (Uv a l w=[]/\Uv (Uh a cl Q) [(n:Int)] w=[])\/∃t:Nat,Q[t]?=some (Uv a l w)/\Uv (Uh a cl Q) [(n:Int)] w=[(t:Int)]
 |[],_,n,l,hl=> .inr ⟨n,hl,rfl⟩
 |x::w,hw,n,l,hl=>by
  show(Uv a (Qy a l x) w=[]/\Uv (Uh a cl Q) (Qy (Uh a cl Q) [(n:Int)] x) w=[])\/∃t:Nat,Q[t]?=some (Uv a (Qy a l x) w)/\Uv (Uh a cl Q) (Qy (Uh a cl Q) [(n:Int)] x) w=[(t:Int)]
  rcases v1g hc hs hl (hw x (by simp))with⟨h1,h2⟩|⟨t,h1,h2⟩
  ·rw[h1,h2];exact .inl ⟨q0t _ _,q0t _ _⟩
  rw[h2];exact z1d hc hs w (λy hy=>hw y (by simp[hy])) t _ h1
def c1q{a:Aut}{cl:List Prd}{Q:List (List Int)}(hc:Cls a cl)(hs:Sub a cl Q){w:List Sy}(hw:∀x∈w,Wb a x):E5 (Uh a cl Q) w=E5 a w:=by
 unfold E5;rcases z1d hc hs w hw 0 [0] hs.first with⟨h1,h2⟩|⟨t,h1,h2⟩
 ·have z1:Uv (Uh a cl Q) [0] w=[]:=h2;rw[h1,z1];rfl
 have z1:Uv (Uh a cl Q) [0] w=[(t:Int)]:=h2;rw[z1];simp only[O9,Uh,List.any_cons,List.any_nil,Bool.or_false,Int.toNat_natCast,yQ,zS,h1,Option.map_some,Option.getD_some]
def Im(a:Aut):Prop:=a.mv.Pairwise (λm k=>m.src=k.src->∀x:Sy,Wb a x->¬(Rk m.on x=true/\Rk k.on x=true))
def u0g{a:Aut}{cl:List Prd}{Q:List (List Int)}(hc:Cls a cl)(hs:Sub a cl Q):Im (Uh a cl Q):=by
 unfold Im;show(q0e a cl Q).Pairwise _;unfold q0e;rw[vF];constructor
 ·intro n hn;have z1:=xJ.1 hn;have hl:Q[n]?=some Q[n]:=zI z1;have hg:Q.getD n []=Q[n]:=by simp[yQ,z1]
  rw[hg];have hi:=Sf (a:=a) (Q:=Q) n Q[n] hc.wf;refine hi.nd.imp_of_mem (λ{m k} hm hk hne _ x hx=>?_);rintro⟨h1,h2⟩;obtain⟨t1,_,e1⟩:=hi.dst m hm;obtain⟨t2,_,e2⟩:=hi.dst k hk;have z6:Wb a x:=hx;have d1:=(F0 hc hs hl z6 t1).1 ⟨m,Of.2 ⟨n,_,hl,hm⟩,hi.src m hm,e1,h1⟩;have d2:=(F0 hc hs hl z6 t2).1 ⟨k,Of.2 ⟨n,_,hl,hk⟩,hi.src k hk,e2,h2⟩;obtain⟨p1,p2⟩:=zB.1 d1;obtain⟨p3,p4⟩:=zB.1 d2;have:t1=t2:=(vW hs.nd).1 (by rw[p2,p4]);exact hne (by rw[e1,e2,this])
 refine List.pairwise_lt_range.imp (λ{i j} hij m hm k hk e=>?_);exfalso;have h1:∀n m,m∈Mq a cl Q n (Q.getD n [])->m.src=(n:Int):=λn m hm=>(Sf (a:=a) (Q:=Q) n _ hc.wf).src m hm;have:=h1 i m hm;have:=h1 j k hk;omega
def Jx{l:List Iv}(h:Sep l)(hb:∀n,M l n->inR n):Sep (E3 l)/\(∀n,M (E3 l) n↔inR n/\¬M l n)/\(E3 l).length<=l.length+1:=by
 have z1:∀x∈l,inR x.lo/\inR x.hi:=λx hx=>⟨hb _ ⟨x,hx,xK _,h.1 x hx⟩,hb _ ⟨x,hx,h.1 x hx,xK _⟩⟩
 have:=Oi l (-1099511627776) (λx hx=>⟨h.1 x hx,(z1 x hx).2.2⟩) h.2 (λx hx=>(z1 x hx).1.1);exact⟨this.1,λn=>by rw[E3,this.2.1,inR,and_assoc],this.2.2⟩
def Cc{T:Nat}{p:Prd}(hp:PWf T p)(t:Nat)(n:Int):PM (T6 p) t n↔(t<T/\inR n)/\¬PM p t n:=by
 unfold PM T6;rw[zS];constructor
 ·rintro⟨s,hs,hm⟩;obtain⟨a,ha,rfl⟩:=zP.1 hs;have hw:=hp.2 a (zJ ha);have hg:=((Jx hw.1 hw.2).2.1 n).1 hm;refine⟨⟨by rw[<-hp.1];exact(zB.1 ha).1,hg.1⟩,?_⟩;rintro⟨b,hb,z1⟩;rw[ha]at hb;cases hb;exact hg.2 z1
 rintro⟨⟨h1,h2⟩,h3⟩;have hl:t<p.length:=by rw[hp.1];exact h1
 have hw:=hp.2 _ (zL hl);exact⟨E3 p[t],by rw[zI hl];rfl,((Jx hw.1 hw.2).2.1 n).2 ⟨h2,λhm=>h3 ⟨_,zI hl,hm⟩⟩⟩
def j04{T:Nat}{p:Prd}(hp:PWf T p):PWf T (T6 p):=⟨by simp[T6,hp.1],λs hs=>by
 obtain⟨a,ha,rfl⟩:=zQ.1 hs;have hw:=hp.2 a ha;exact⟨(Jx hw.1 hw.2).1,λn hn=>(((Jx hw.1 hw.2).2.1 n).1 hn).1⟩⟩
def Ux(T:Nat)(ps:List Prd):Prd:=(yU T).map λi=>Ez (Qv ps i)
def Cn{T:Nat}{ps:List Prd}(h:∀p∈ps,PWf T p)(i:Nat):∀x∈Qv ps i,x.lo<=x.hi:=λx hx=>by
 obtain⟨p,hp,hx⟩:=Tf.1 hx;have hm:p.getD i []=[]\/p.getD i []∈p:=by
  by_cases hi:i<p.length
  ·exact .inr (by rw[W9 hi];exact zL hi)
  exact .inl (by simp[yQ,hi])
 rcases hm with e|hm
 ·rw[e]at hx;cases hx
 exact((h p hp).2 _ hm).1.1 x hx
def Jv{T:Nat}{ps:List Prd}(h:∀p∈ps,PWf T p)(t:Nat)(n:Int):PM (Ux T ps) t n↔∃p∈ps,PM p t n:=by
 unfold PM Ux;rw[zS];constructor
 ·rintro⟨s,hs,hm⟩;obtain⟨i,hi,rfl⟩:=zP.1 hs;obtain⟨z6,e⟩:=zB.1 hi;rw[List.getElem_range]at e;subst e;obtain⟨x,hx,h1⟩:=((Uw _ (Cn h t)).2 n).1 hm;obtain⟨p,hp,hx⟩:=Tf.1 hx;have ht:t<T:=by simpa using z6
  have z1:t<p.length:=by rw[(h p hp).1];exact ht
  rw[W9 z1]at hx;exact⟨p,hp,p[t],zI z1,x,hx,h1⟩
 rintro⟨p,hp,s,hs,x,hx,h1⟩;obtain⟨z1,e⟩:=zB.1 hs;have ht:t<T:=by rw[<-(h p hp).1];exact z1
 refine⟨Ez (Qv ps t),by simp[ht],((Uw _ (Cn h t)).2 n).2 ⟨x,Tf.2 ⟨p,hp,?_⟩,h1⟩⟩;rw[W9 z1,e];exact hx
def Ao{T:Nat}{ps:List Prd}(h:∀p∈ps,PWf T p):PWf T (Ux T ps):=by
 refine⟨by simp[Ux],λs hs=>?_⟩;obtain⟨i,hi,rfl⟩:=zQ.1 hs;refine⟨(Uw _ (Cn h i)).1,λn hn=>?_⟩;have:PM (Ux T ps) i n:=⟨Ez (Qv ps i),by simp[Ux,xJ.1 hi],hn⟩
 obtain⟨p,hp,hm⟩:=(Jv h i n).1 this;exact((h p hp).lt hm).2
def y2y{T:Nat}{c:Prd}(h:PWf T c):Ux T [c]=c:=
 P4 (Ao (by simpa using h)) h λt n=>by rw[Jv (by simpa using h)];simp
def q2t{T:Nat}{p q:Prd}(hp:PWf T p)(hq:PWf T q):Ux T [p,q]=Ro p q:=by
 have h:∀x∈[p,q],PWf T x:=λx hx=>by
  rcases zX.1 hx with rfl|hx
  ·exact hp
  obtain rfl:=zO.1 hx;exact hq
 exact P4 (Ao h) (G6 hp hq) λt n=>by rw[Jv h,Sc hp hq];simp
def Bo(a:Aut)(s:Int):List Prd:=(a.mv.filter λm=>decide (m.src=s)).map (·.on)
def Wz(a:Aut)(s:Int):Prd:=T6 (Ux a.types.toNat (Bo a s))
structure WfA (a:Aut):Prop where
 types:1<=a.types/\a.types<=16
 fin:1<=a.fin.length
 src:∀m∈a.mv,0<=m.src/\m.src<a.fin.length
 dst:∀m∈a.mv,0<=m.dst/\m.dst<a.fin.length
 on:∀m∈a.mv,PWf a.types.toNat m.on
def OkA.wfA{a:Aut}(h:OkA a):WfA a:=⟨h.types,h.fin.1,λm hm=>(h.mv m hm).src,λm hm=>(h.mv m hm).dst,λm hm=>(h.mv m hm).on.wf⟩
def Vu{a:Aut}(h:WfA a)(s:Int):∀p∈Bo a s,PWf a.types.toNat p:=λp hp=>by obtain⟨m,hm,rfl⟩:=zQ.1 hp;exact h.on m (xH.1 hm).1
def Gi{a:Aut}(h:WfA a)(s:Int)(t:Nat)(n:Int):PM (Wz a s) t n↔(t<a.types.toNat/\inR n)/\∀p∈Bo a s,¬PM p t n:=by rw[Wz,Cc (Ao (Vu h s)),Jv (Vu h s)];simp
def Sp{a:Aut}(h:WfA a)(s:Int):PWf a.types.toNat (Wz a s):=j04 (Ao (Vu h s))
def Bp{a:Aut}(h:WfA a)(s:Int):Wj (Wz a s)=true↔∀t n,t<a.types.toNat->inR n->∃p∈Bo a s,PM p t n:=by
 rw[T8 (Sp h s)];constructor
 ·intro hv t n ht hn;have:=hv t n;rw[Gi h]at this;by_cases hc:∃p∈Bo a s,PM p t n
  ·exact hc
  exact absurd ⟨⟨ht,hn⟩,λp hp hm=>hc ⟨p,hp,hm⟩⟩ this
 intro hv t n;rw[Gi h];rintro⟨⟨ht,hn⟩,hx⟩;obtain⟨p,hp,hm⟩:=hv t n ht hn;exact hx p hp hm
def Vn(a:Aut):Bool:=decide (256<a.fin.length) || decide (2048<a.mv.length) || a.mv.any λm=>m.on.any λs=>decide (256<s.length)
def f1y{a:Aut}(h:WfA a):Wo a=0↔Vn a=false:=by
 rw[Ud];unfold Vn;simp only[Bool.or_eq_false_iff,decide_eq_false_iff_not,vv,decide_eq_true_eq];constructor
 ·rintro⟨h1,h2,h3,h4⟩;exact⟨⟨by omega,by omega⟩,λm hm=>by
   simp only[uz,vv,decide_eq_true_eq];exact λs hs=>by have:=((h4 m hm).on.2 s hs).len;omega⟩
 rintro⟨⟨h1,h2⟩,h3⟩;refine⟨h.types,⟨h.fin,by omega⟩,by omega,λm hm=>⟨h.src m hm,h.dst m hm,(h.on m hm).1,λs hs=>?_⟩⟩;have hw:=(h.on m hm).2 s hs;have:=h3 m hm;simp only[uz,vv,decide_eq_true_eq]at this;exact Sr hw.1 (Mg hw.1 hw.2) (by have:=this s hs;omega)
def La(a:Aut):Int×Aut:=if Vn a then(5,Ty)else(0,a)
def q15{a c:Aut}(h:WfA a)(hl:La a=(0,c)):c=a/\OkA a:=by
 unfold La at hl;cases hb:Vn a
 ·rw[hb,if_neg (by simp)]at hl;exact⟨(Prod.mk.inj hl).2.symm,(Ud a).1 ((f1y h).2 hb)⟩
 rw[hb,if_pos rfl]at hl;cases(Prod.mk.inj hl).1
def c0w{a:Aut}:(La a).1=0\/(La a).1=5:=by
 unfold La;split
 ·exact .inr rfl
 exact .inl rfl
def Ta(a:Aut)(lack:Int->Prd):List Mv:=(yU a.fin.length).filterMap λs:Nat=>if Wj (lack s)then none else some ⟨s,a.fin.length,lack s⟩
def U4(a:Aut):Aut:=⟨a.types,a.fin++[false],a.mv++Ta a (Wz a)++[⟨a.fin.length,a.fin.length,Ea a.types.toNat⟩]⟩
def Il(a:Aut):Int×Aut:=if(Ta a (Wz a)).isEmpty then(0,a)else La (U4 a)
def Yt{a:Aut}{lack:Int->Prd}{m:Mv}:m∈Ta a lack↔∃s:Nat,s<a.fin.length/\Wj (lack s)=false/\m=⟨s,a.fin.length,lack s⟩:=by
 unfold Ta;rw[wI];constructor
 ·rintro⟨s,hs,h⟩;cases hv:Wj (lack s)
  ·rw[hv,if_neg (by simp)]at h;cases h;exact⟨s,xJ.1 hs,hv,rfl⟩
  rw[hv,if_pos rfl]at h;cases h
 rintro⟨s,hs,hv,rfl⟩;exact⟨s,xJ.2 hs,by rw[hv,if_neg (by simp)]⟩
def g0u{a:Aut}{lack:Int->Prd}:Ta a lack=[]↔∀s:Nat,s<a.fin.length->Wj (lack s)=true:=by
 rw[wZ];constructor
 ·intro h s hs;cases hv:Wj (lack s)
  ·exact absurd (Yt.2 ⟨s,hs,hv,rfl⟩) (h _)
  rfl
 intro h m hm;obtain⟨s,hs,hv,_⟩:=Yt.1 hm;rw[h s hs]at hv;cases hv
def d1h{a:Aut}(h:WfA a):WfA (U4 a):=by
 have z1:∀m∈(U4 a).mv,m∈a.mv\/(∃s:Nat,s<a.fin.length/\m=⟨s,a.fin.length,Wz a s⟩)\/m=⟨a.fin.length,a.fin.length,Ea a.types.toNat⟩:=λm hm=>by
  rcases zT.1 hm with hm|hm
  ·rcases zT.1 hm with hm|hm
   ·exact .inl hm
   obtain⟨s,hs,_,e⟩:=Yt.1 hm;exact .inr (.inl ⟨s,hs,e⟩)
  exact .inr (.inr (zO.1 hm))
 have hl:(U4 a).fin.length=a.fin.length+1:=by simp[U4]
 refine⟨h.types,by rw[hl];omega,λm hm=>?_,λm hm=>?_,λm hm=>?_⟩
 ·rw[hl];rcases z1 m hm with hm|⟨s,hs,rfl⟩|rfl
  ·have:=h.src m hm;omega
  ·simp only;omega
  simp only;omega
 ·rw[hl];rcases z1 m hm with hm|⟨s,hs,rfl⟩|rfl
  ·have:=h.dst m hm;omega
  ·simp only;omega
  simp only;omega
 rcases z1 m hm with hm|⟨s,hs,rfl⟩|rfl
 ·exact h.on m hm
 ·exact Sp h s
 exact Cl _
def G5(a:Aut):Prop:=∀s:Int,0<=s->s<a.fin.length->∀x,Wb a x->∃m∈a.mv,m.src=s/\Rk m.on x=true
def w09{a:Aut}{x:Sy}(h:Wb a x):x.ty.toNat<a.types.toNat/\inR x.num/\0<=x.ty:=⟨by have:=h.1;omega,h.2,h.1.1⟩
def Yr{a:Aut}(h:WfA a){m:Mv}(hm:m∈a.mv){x:Sy}(hx:Wb a x):Rk m.on x=true↔PM m.on x.ty.toNat x.num:=Ej (h.on m hm).1 x hx.1.1
def Z7{a:Aut}{s:Int}{p:Prd}:p∈Bo a s↔∃m∈a.mv,m.src=s/\m.on=p:=by
 unfold Bo;rw[zQ];constructor
 ·rintro⟨m,hm,e⟩;have:=xH.1 hm;exact⟨m,this.1,by simpa using this.2,e⟩
 rintro⟨m,hm,hs,e⟩;exact⟨m,xH.2 ⟨hm,by simpa using hs⟩,e⟩
def y10{a:Aut}(h:WfA a):Ta a (Wz a)=[]↔G5 a:=by
 rw[g0u];constructor
 ·intro hv s h0 h1 x hx;have hs:=hv s.toNat (by omega);rw[show((s.toNat:Nat):Int)=s by omega,Bp h]at hs;obtain⟨k1,k2,_⟩:=w09 hx;obtain⟨p,hp,hm⟩:=hs _ _ k1 k2;obtain⟨m,z1,e,rfl⟩:=Z7.1 hp;exact⟨m,z1,e,(Yr h z1 hx).2 hm⟩
 intro hf s hs;rw[Bp h];intro t n ht hn;have hx:Wb a ⟨t,n⟩:=⟨⟨by simp,by simp only;omega⟩,hn⟩
 obtain⟨m,hm,e,hh⟩:=hf s (by omega) (by omega) _ hx;exact⟨m.on,Z7.2 ⟨m,hm,e,rfl⟩,by have:=(Yr h hm hx).1 hh;simpa using this⟩
def k13{a:Aut}(h:WfA a):G5 (U4 a):=by
 intro s h0 h1 x hx;have z1:Wb a x:=hx;have hl:(U4 a).fin.length=a.fin.length+1:=by simp[U4]
 obtain⟨k1,k2,_⟩:=w09 z1;by_cases hs:s<a.fin.length
 ·by_cases hp:∃p∈Bo a s,PM p x.ty.toNat x.num
  ·obtain⟨p,hp,hm⟩:=hp;obtain⟨m,z6,e,rfl⟩:=Z7.1 hp;exact⟨m,yV _ (yV _ z6),e,(Yr h z6 z1).2 hm⟩
  have z7:PM (Wz a s) x.ty.toNat x.num:=(Gi h s _ _).2 ⟨⟨k1,k2⟩,λp z8 hm=>hp ⟨p,z8,hm⟩⟩;have hv:Wj (Wz a s)=false:=by
   cases hv:Wj (Wz a s)
   ·rfl
   exact absurd z7 ((T8 (Sp h s)).1 hv _ _)
  have e:((s.toNat:Nat):Int)=s:=by omega
  refine⟨⟨s,a.fin.length,Wz a s⟩,yV _ (vI _ (Yt.2 ⟨s.toNat,by omega,by rw[e];exact hv,by rw[e]⟩)),rfl,?_⟩;exact(Ej (Sp h s).1 x hx.1.1).2 z7
 refine⟨⟨a.fin.length,a.fin.length,Ea a.types.toNat⟩,vI _ (by simp),by simp only;omega,?_⟩;exact(Ej (Cl _).1 x hx.1.1).2 ((Ga ..).2 ⟨k1,k2⟩)
def y21{a:Aut}(h:WfA a)(hd:Im a):Im (U4 a):=by
 unfold Im;show(a.mv++Ta a (Wz a)++[_]).Pairwise _;rw[yE,yE];refine⟨⟨hd,?_,λm hm k hk e x hx=>?_⟩,by simp,λm hm k hk e x hx=>?_⟩
 ·unfold Ta;rw[List.pairwise_filterMap];refine List.pairwise_lt_range.imp (λ{i j} hij m hm k hk e=>?_);have z1:∀(i:Nat) (m:Mv),(if Wj (Wz a i)then none else some (⟨i,a.fin.length,Wz a i⟩:Mv))=some m->m.src=i:=λi m hm=>by
   split at hm
   ·cases hm
   cases hm;rfl
  have:=z1 i m hm;have:=z1 j k hk;omega
 ·obtain⟨s,hs,_,rfl⟩:=Yt.1 hk;rintro⟨h1,h2⟩;have z6:Wb a x:=hx;have p1:=(Yr h hm z6).1 h1;have p2:=(Ej (Sp h s).1 x hx.1.1).1 h2;exact((Gi h s _ _).1 p2).2 _ (Z7.2 ⟨m,hm,e,rfl⟩) p1
 obtain rfl:=zO.1 hk;exfalso;have e':m.src=(a.fin.length:Int):=e;rcases zT.1 hm with hm|hm
 ·have:=h.src m hm;omega
 obtain⟨s,hs,_,rfl⟩:=Yt.1 hm;simp only at e';omega
def u1r{a:Aut}(h:WfA a){l l':List Int}(hl:∀j:Int,j<a.fin.length->(j∈l'↔j∈l))(x:Sy):∀j:Int,j<a.fin.length->(j∈Qy (U4 a) l' x↔j∈Qy a l x):=by
 intro j hj;rw[We,We];have hlen:(U4 a).fin.length=a.fin.length+1:=by simp[U4]
 constructor
 ·rintro⟨h1,m,hm,h2,h3,h4⟩;rcases zT.1 hm with hm|hm
  ·rcases zT.1 hm with hm|hm
   ·exact⟨⟨h1.1,hj⟩,m,hm,(hl _ (h.src m hm).2).1 h2,h3,h4⟩
   obtain⟨s,hs,_,rfl⟩:=Yt.1 hm;simp only at h4;omega
  obtain rfl:=zO.1 hm;simp only at h4;omega
 rintro⟨h1,m,hm,h2,h3,h4⟩;exact⟨⟨h1.1,by omega⟩,m,yV _ (yV _ hm),(hl _ (h.src m hm).2).2 h2,h3,h4⟩
def c0y{a:Aut}(h:WfA a):∀(w:List Sy) (l l':List Int),(∀j:Int,j<a.fin.length->(j∈l'↔j∈l))->∀j:Int,j<a.fin.length->(j∈Uv (U4 a) l' w↔j∈Uv a l w)
 |[],_,_,hl=>hl
 |x::w,_,_,hl=>c0y h w _ _ (u1r h hl x)
def runIn{a:Aut}:∀(w:List Sy) (l:List Int),(∀j∈l,0<=j/\j<a.fin.length)->∀j∈Uv a l w,0<=j/\j<a.fin.length
 |[],_,hl=>hl
 |x::w,_,_=>runIn w _ (λ_ hj=>O1 _ hj)
def q00{a:Aut}(h:WfA a):∀j∈[(0:Int)],0<=j/\j<a.fin.length:=λj hj=>by obtain rfl:=zO.1 hj;have:=h.fin;omega
def Xr{a:Aut}{l:List Int}:O9 a l=true↔∃s∈l,a.fin.getD s.toNat false=true:=by rw[O9,wM]
def w2x{a:Aut}(h:WfA a)(w:List Sy):E5 (U4 a) w=E5 a w:=by
 unfold E5;rw[wK,Xr,Xr];have hr:=c0y h w [0] [0] (λ_ _=>Iff.rfl);have z7:=runIn w _ (q00 (d1h h));have z6:=runIn w _ (q00 h);have hlen:(U4 a).fin.length=a.fin.length+1:=by simp[U4]
 have z1:∀s:Int,0<=s->s<a.fin.length->(U4 a).fin.getD s.toNat false=a.fin.getD s.toNat false:=λs h0 h1=>by simp only[U4,vH];rw[zF (by omega)]
 constructor
 ·rintro⟨s,hs,hf⟩;have:=z7 s hs;by_cases hlt:s<a.fin.length
  ·exact⟨s,(hr s hlt).1 hs,by rw[<-z1 s this.1 hlt];exact hf⟩
  have:s.toNat=a.fin.length:=by omega
  rw[this]at hf;simp[U4]at hf
 rintro⟨s,hs,hf⟩;have:=z6 s hs;exact⟨s,(hr s this.2).2 hs,by rw[z1 s this.1 this.2];exact hf⟩
def Gf{a c:Aut}(h:OkA a)(hc:Il a=(0,c)):OkA c/\c.types=a.types/\G5 c/\(Im a->Im c)/\∀w,E5 c w=E5 a w:=by
 unfold Il at hc;split at hc
 ·rename_i hn;cases hc;exact⟨h,rfl,(y10 h.wfA).1 (tP.1 hn),id,λ_=>rfl⟩
 obtain⟨rfl,hk⟩:=q15 (d1h h.wfA) hc;exact⟨hk,rfl,k13 h.wfA,y21 h.wfA,w2x h.wfA⟩
def q03(a:Aut):(Il a).1=0\/(Il a).1=5:=by
 unfold Il;split
 ·exact .inl rfl
 exact c0w
def Yz(T:Int):List Prd->Int
 |[]=>0
 |p::r=>if Eu T p≠0 then Eu T p else Yz T r
def Di(L:List Prd):Bool:=decide (256<L.length) || L.any λp=>p.any λs=>decide (256<s.length)
def R9(T:Int)(l:List Prd):Int×List Prd:=if T<1\/16<T then(2,[])else if 256<l.length then(5,[])else if Yz T l≠0 then(Yz T l,[])else
 if Di (Re T.toNat l)then(5,[])else(0,Re T.toNat l)
def Cf(T:Int)(l:List Prd):Int×List Prd:=if T<1\/16<T then(2,[])else if 256<l.length then(5,[])else if Yz T l≠0 then(Yz T l,[])else
 if Di (Q5 T.toNat l)then(5,[])else(0,Q5 T.toNat l)
def Ol{T:Int}:∀(l:List Prd),Yz T l=0↔∀p∈l,Eu T p=0
 |[]=>by simp[Yz]
 |p::r=>by
  rw[Yz];by_cases h:Eu T p=0
  ·rw[if_neg (λk=>k h),Ol r];simp[h]
  rw[if_pos h];exact⟨λk=>absurd k h,λk=>absurd (k p (by simp)) h⟩
def c0b(T:Int)(l:List Prd):Cf T l=R9 T l:=by
 unfold Cf R9;split
 ·rfl
 rename_i hT;split
 ·rfl
 split
 ·rfl
 rename_i hc;have z1:∀p∈l,PCk T.toNat p:=λp hp=>((W3 T p).1 ((Ol l).1 (by simpa using hc) p hp)).2;rw[K9 (by omega) z1]
def w12{T:Int}(hT:1<=T/\T<=16){l:List Prd}(hl:∀p∈l,PCk T.toNat p):(R9 T l).1=5\/R9 T l=(0,Q5 T.toNat l):=by
 unfold R9;have hc:Yz T l=0:=(Ol l).2 λp hp=>(W3 T p).2 ⟨hT,hl p hp⟩;rw[if_neg (by omega)];split
 ·exact .inl rfl
 rw[if_neg (by simp[hc])];split
 ·exact .inl rfl
 exact .inr (by rw[K9 (by omega) hl])
def onA(a:Aut):List Prd:=a.mv.map (·.on)
def Pn(a:Aut):Int×List Prd×List (List Int):=if Wo a≠0 then(Wo a,[],[])else
 if(R9 a.types (onA a)).1≠0 then((R9 a.types (onA a)).1,[],[])else
 match Jm a (R9 a.types (onA a)).2 with
 |none=>(5,[],[])
 |some Q=>(0,(R9 a.types (onA a)).2,Q)
def Wv(a:Aut):Int×Aut:=if(Pn a).1≠0 then((Pn a).1,Ty)else La (Uh a (Pn a).2.1 (Pn a).2.2)
def Sx(a:Aut):Int×Aut:=if Wo a≠0 then(Wo a,Ty)else Il a
def I9(a:Aut):Aut:={ a with fin:=a.fin.map (!·) }
def Mw(a:Aut):Int×Aut:=if(Wv a).1≠0 then((Wv a).1,Ty)else if(Il (Wv a).2).1≠0 then((Il (Wv a).2).1,Ty)else(0,I9 (Il (Wv a).2).2)
def y07{a:Aut}(h:OkA a):∀p∈onA a,PCk a.types.toNat p:=λp hp=>by obtain⟨m,hm,rfl⟩:=zQ.1 hp;exact(h.mv m hm).on
def Hg{a:Aut}(h:OkA a):Pn a=(5,[],[])\/∃Q,Pn a=(0,Q5 a.types.toNat (onA a),Q)/\Jm a (Q5 a.types.toNat (onA a))=some Q/\Sub a (Q5 a.types.toNat (onA a)) Q/\Cls a (Q5 a.types.toNat (onA a)):=by
 unfold Pn;rw[if_neg (λk=>k ((Ud a).2 h))];rcases w12 h.types (y07 h)with hm|hm
 ·rw[if_pos (by rw[hm];decide),hm];exact .inl rfl
 rw[hm,if_neg (by simp)];cases hs:Jm a (Q5 a.types.toNat (onA a))with
 |none=>exact .inl rfl
 |some Q=>exact .inr ⟨Q,rfl,rfl,f0o h hs,f1n h⟩
def w0q{a:Aut}(h:Wo a≠0):Pn a=(Wo a,[],[]):=if_pos h
def S7{a:Aut}{cl:List Prd}{Q:List (List Int)}(hc:Cls a cl){m:Mv}(hm:m∈q0e a cl Q):(∃n:Nat,n<Q.length/\m.src=n)/\(∃t:Nat,t<Q.length/\m.dst=t)/\PWf a.types.toNat m.on:=by obtain⟨n,l,hl,hg⟩:=Of.1 hm;have hi:=Sf (a:=a) (Q:=Q) n l hc.wf;exact⟨⟨n,(zB.1 hl).1,hi.src m hg⟩,hi.dst m hg,hi.wf m hg⟩
def g1y{a:Aut}{cl:List Prd}{Q:List (List Int)}(hc:Cls a cl)(hs:Sub a cl Q):WfA (Uh a cl Q):=by
 have h0:=(zB.1 hs.first).1;have hl:(Uh a cl Q).fin.length=Q.length:=by simp[Uh]
 refine⟨hc.ok.types,by omega,λm hm=>?_,λm hm=>?_,λm hm=>(S7 hc hm).2.2⟩
 ·obtain⟨⟨n,h1,h2⟩,_⟩:=S7 hc hm;rw[hl,h2];omega
 obtain⟨_,⟨n,h1,h2⟩,_⟩:=S7 hc hm;rw[hl,h2];omega
def Tk{a d:Aut}(h:OkA a)(hd:Wv a=(0,d)):∃Q,Jm a (Q5 a.types.toNat (onA a))=some Q/\Sub a (Q5 a.types.toNat (onA a)) Q/\Cls a (Q5 a.types.toNat (onA a))/\
  Pn a=(0,Q5 a.types.toNat (onA a),Q)/\d=Uh a (Q5 a.types.toNat (onA a)) Q/\OkA d/\Im d/\d.types=a.types/\∀w,(∀x∈w,Wb a x)->E5 d w=E5 a w:=by
 unfold Wv at hd;rcases Hg h with hs|⟨Q,hs,hq,z1,z6⟩
 ·rw[hs,if_pos (by decide)]at hd;cases(Prod.mk.inj hd).1
 rw[hs,if_neg (by simp)]at hd;obtain⟨rfl,hk⟩:=q15 (g1y z6 z1) hd;exact⟨Q,hq,z1,z6,hs,rfl,hk,u0g z6 z1,rfl,λw hw=>c1q z6 z1 hw⟩
def q0n{a:Aut}(h:OkA a):(Wv a).1=0\/(Wv a).1=5:=by
 unfold Wv;rcases Hg h with hs|⟨Q,hs,_⟩
 ·rw[hs];exact .inr rfl
 rw[hs,if_neg (by simp)];exact c0w
def d1x{a:Aut}(h:OkA a):OkA (I9 a):=⟨h.types,by simpa[I9]using h.fin,h.mvs,λm hm=>by have:=h.mv m hm;exact⟨by simpa[I9]using this.src,by simpa[I9]using this.dst,this.on⟩⟩
def y08(a:Aut):(I9 a).fin.length=a.fin.length:=by simp[I9]
def j0m(a:Aut)(l:List Int)(x:Sy):Qy (I9 a) l x=Qy a l x:=by unfold Qy;rw[y08];rfl
def x0c(a:Aut):∀(w:List Sy) (l:List Int),Uv (I9 a) l w=Uv a l w
 |[],_=>rfl
 |x::w,l=>by show Uv (I9 a) (Qy (I9 a) l x) w=Uv a (Qy a l x) w;rw[j0m,x0c a w]
def q1l{a:Aut}(h:G5 a):G5 (I9 a):=λs h0 h1 x hx=>h s h0 (by rw[y08]at h1;exact h1) x hx
def j1f{a:Aut}(h:Im a):Im (I9 a):=h
def y06{a:Aut}(hw:WfA a)(hd:Im a)(hf:G5 a){s:Int}(h0:0<=s)(h1:s<a.fin.length){x:Sy}(hx:Wb a x):∃t:Int,0<=t/\t<a.fin.length/\Qy a [s] x=[t]:=by
 obtain⟨m,hm,e,hh⟩:=hf s h0 h1 x hx;refine⟨m.dst,(hw.dst m hm).1,(hw.dst m hm).2,Ye (Yx ..) (by simp) λz=>?_⟩;rw[We];constructor
 ·rintro⟨_,k,hk,h2,h3,h4⟩;obtain h2:=zO.1 h2;have:k=m\/k.dst=m.dst:=by
   obtain⟨i,hi⟩:=yH.1 hm;obtain⟨j,hj⟩:=yH.1 hk;obtain⟨z7,z1⟩:=zB.1 hi;obtain⟨z8,z6⟩:=zB.1 hj;by_cases hij:i=j
   ·subst hij;left;rw[<-z1,<-z6]
   exfalso;rcases uQ hij with hlt|hgt
   ·have:=yL.1 hd i j z7 z8 hlt;rw[z1,z6]at this;exact this (by rw[e,h2]) x hx ⟨hh,h3⟩
   have:=yL.1 hd j i z8 z7 hgt;rw[z1,z6]at this;exact this (by rw[e,h2]) x hx ⟨h3,hh⟩
  rcases this with rfl|this
  ·rw[<-h4];simp
  rw[<-h4,this];simp
 intro hz;obtain rfl:=zO.1 hz;exact⟨hw.dst m hm,m,hm,by rw[e];simp,hh,rfl⟩
def g0r{a:Aut}(hw:WfA a)(hd:Im a)(hf:G5 a):∀(w:List Sy) (s:Int),0<=s->s<a.fin.length->(∀x∈w,Wb a x)->∃t:Int,0<=t/\t<a.fin.length/\Uv a [s] w=[t]
 |[],s,h0,h1,_=>⟨s,h0,h1,rfl⟩
 |x::w,s,h0,h1,hx=>by
  obtain⟨t,t0,t1,e⟩:=y06 hw hd hf h0 h1 (hx x (by simp));show ∃u:Int,0<=u/\u<a.fin.length/\Uv a (Qy a [s] x) w=[u]
  rw[e];exact g0r hw hd hf w t t0 t1 (λy hy=>hx y (by simp[hy]))
def g1h{a:Aut}(hw:WfA a)(hd:Im a)(hf:G5 a){w:List Sy}(hx:∀x∈w,Wb a x):E5 (I9 a) w= !E5 a w:=by
 obtain⟨t,t0,t1,e⟩:=g0r hw hd hf w 0 (xK _) (by have:=hw.fin;omega) hx;unfold E5;rw[x0c,e];have hl:t.toNat<a.fin.length:=by omega
 simp[O9,I9,vH,hl]
def Cs{a c:Aut}(h:OkA a)(hc:Mw a=(0,c)):OkA c/\Im c/\G5 c/\c.types=a.types/\∀w,(∀x∈w,Wb a x)->E5 c w= !E5 a w:=by
 unfold Mw at hc;split at hc
 ·rename_i h1;exact absurd (Prod.mk.inj hc).1 h1
 split at hc
 ·rename_i h1 h2;exact absurd (Prod.mk.inj hc).1 h2
 rename_i h1 h2;have hd:Wv a=(0,(Wv a).2):=vY (by simpa using h1) rfl;have hk:Il (Wv a).2=(0,(Il (Wv a).2).2):=vY (by simpa using h2) rfl;obtain⟨Q,_,_,_,_,_,d1,d2,d3,d4⟩:=Tk h hd;obtain⟨k1,k2,k3,k4,k5⟩:=Gf d1 hk;obtain rfl:=(Prod.mk.inj hc).2;have z1:((Il (Wv a).2).2).types=a.types:=by rw[k2,d3]
 refine⟨d1x k1,j1f (k4 d2),q1l k3,z1,λw hw=>?_⟩;rw[g1h k1.wfA (k4 d2) k3 (λx hx=>by have:=hw x hx;unfold Wb at *;rw[z1];exact this),k5,d4 w hw]
def d0e{a:Aut}(h:OkA a):(Mw a).1=0\/(Mw a).1=5:=by
 unfold Mw;have h1:=q0n h;have h2:=q03 (Wv a).2;split
 ·exact h1
 split
 ·exact h2
 exact .inl rfl
def k1g{a:Aut}{cl:List Prd}(hc:Cls a cl){c:Prd}(hm:c∈cl):Wb a (Ql c):=by have h:=(W8 (hc.wf c hm).1 (hc.wf c hm).2).1;have h2:=(hc.wf c hm).1.lt h;exact⟨⟨by simp[Ql],by simp only[Ql];omega⟩,h2.2⟩
def f1s(p:Prd):Bool:=decide (p.length<=4) && p.all λs=>decide (s.length<=12)
def Mu(a:Aut):Bool:=decide (a.fin.length<=8) && decide (a.mv.length<=16) && a.mv.all λm=>f1s m.on
def y0d{p:Prd}:f1s p=true↔p.length<=4/\∀s∈p,s.length<=12:=by simp[f1s]
def k18(l:List Iv):(Ez l).length<=l.length:=by have h1:=Rs (Ox l) [];have h2:=(O8 l).1.length_eq;rw[Ez];simp at h1;omega
def w0b{n:Nat}{l:List Int}(h:l.Pairwise (·<·))(hr:∀s∈l,0<=s/\s<n):l.length<=n:=by
 have he:l=(El n).filter λz=>decide (z∈l):=Ye h ((Ka n).filter _) λz=>by rw[xH,Ek];exact⟨λhz=>⟨hr z hz,by simpa using hz⟩,λhz=>by simpa using hz.2⟩
 have h1:=yX (λz=>decide (z∈l)) (El n);rw[<-he]at h1;simpa[El]using h1
def Zo{a:Aut}(h:OkA a)(l:List Int)(x:Sy):(Qy a l x).length<=256:=by have:=w0b (Yx a l x) O1;have:=h.fin;omega
end Go.Abs
