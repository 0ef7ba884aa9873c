/- Part Wd of the proof: steps on the way to the last part. No condition. -/
import Derived.Test.YtjmkolhkojgjpaaGreatDoorWc
set_option linter.all false
open Nat renaming le_refl->zS,zero_le->xA,le_trans->yP,lt_trichotomy->wR,lt_or_gt_of_ne->uO
open List renaming getElem_of_mem->yX,getElem_mem->zL,any_eq_true->wL,any_eq_false->vw,take_succ_eq_append_getElem->zR,flatten_append->vA,append_nil->yV,take_append_drop->xI,length_append->zW,take_length->zY,getElem?_append_right->zF,take_of_length_le->zT,replicate->yF,cons_append->uV,length_cons->yZ,eq_nil_or_concat->wT,concat_eq_append->wU,mem_append->zV,mem_cons->yB,length_filter_le->yW,mem_map->zO,mem_filter->xH,map_append->yR,length_take->xR,foldl_cons->xV,perm_middle->vO,pairwise_append->yH,pairwise_cons->yJ,pairwise_iff_getElem->yK,getElem_take->tJ,mem_cons_of_mem->vG,pairwise_mergeSort->ur,mem_mergeSort->tF,nil_append->vM,mem_flatMap->xQ,mem_filterMap->wH,getElem?_eq_some_iff->zB,mem_of_getElem?->zJ,getElem?_eq_getElem->zI,perm_ext_iff_of_nodup->ud,zipWith->sq,getElem?_replicate->vF,eq_of_mem_replicate->vQ,getElem?_zipWith->vC,mem_iff_getElem?->yO,getElem?_map->zU,all_eq_true->zX,isEmpty_iff->tV,mem_singleton->zP,pairwise_flatMap->vH,range->yQ,getD->yL,getElem?_set_self->zK,getElem?_set_ne->zE,map_congr_left->xD,mem_range->yU,pairwise_map->xK,mem_append_left->yY,findIdx?_eq_some_iff_getElem->xM,getElem_inj->vY,nodup_append->vL,getElem?_eq_none_iff->uZ,getElem?_append_left->zH,eq_nil_iff_forall_not_mem->vv,mem_append_right->vI,getD_eq_getElem?_getD->vJ,foldl_append->wJ,reverse_cons->uH,reverse_reverse->uw,find?_cons->tZ
open Bool renaming eq_iff_iff->x_,not_eq_true->uX
open Int renaming le_refl->xC,lt_trichotomy->tU
open Option renaming map_eq_some_iff->zQ
open Prod renaming ext->u6
set_option maxHeartbeats 4000000
set_option linter.unusedSimpArgs false
set_option maxRecDepth 100000
open Go.Proofs.Tryz
namespace Go.Abs
section
open Go Go.Proofs
attribute [local irreducible] Rg
attribute [local irreducible] Hi
def j25(l:List Iv):PC prog 144 [LIv l] (λr=>r= .bool (decide ((l.length:Int)<=12))):=by refine pcB func144 results144 ntmps144 ?_;simp only[Qd];repeat(refine s_ ?_;simp)
end
section
open Go Go.Proofs
attribute [simp] T68
@[simp] def encL (l:List Iv):AV:= .list (l.map encIv)
attribute [local irreducible] ckR
end
section
open Go Go.Proofs
structure CanonL (l:List Iv):Prop where
 len:l.length<=256
 one:∀y∈l,Hi y=0
 gap:∀j,∀h:j+1<l.length,l[j].hi+2<=l[j+1].lo
def Mz{l:List Iv}{j:Nat}{x:Iv}(h:j<l.length)(hi:Fc l[j]):d0q l (j+1) x=decide (x.lo<l[j].hi+2):=by have h1:=(E4 _).1 hi.2;have:W (l[j].hi+2)=l[j].hi+2:=wrap_i64 _ (by omega) (by omega);simp[d0q,h,this]
def Lo(l:List Iv)(hl:l.length<=256):∀(n j:Nat),l.length - j=n->j<=l.length->(∀h:0<j,∀h':j - 1<l.length,Hi l[j - 1]=0)->(Po l j (l.drop j)=0↔(∀i,j<=i->∀h:i<l.length,Hi l[i]=0)/\∀i,j<=i+1->∀h:i+1<l.length,l[i].hi+2<=l[i+1].lo)
 |0,j,hn,hj,_=>by
  have:j=l.length:=by omega
  subst this;rw[List.drop_length,Po];exact⟨λ_=>⟨λi h1 h2=>by omega,λi h1 h2=>by omega⟩,λ_=>rfl⟩
 |n+1,j,hn,hj,hp=>by
  have z6:j<l.length:=by omega
  rw[Eh z6,Po];by_cases h1:(Hi l[j] != 0)=true
  ·rw[if_pos h1];have z1:Hi l[j]≠0:=by simpa using h1
   exact⟨λh=>absurd h z1,λh=>absurd (h.1 j (zS _) z6) z1⟩
  rw[if_neg h1];have z1:Hi l[j]=0:=by simpa using h1
  have ih:=Lo l hl n (j+1) (by omega) (by omega) (λ_ _=>z1);by_cases h2:d0q l j l[j]=true
  ·rw[if_pos h2];refine⟨λh=>(by cases h),λh=>?_⟩;rcases j with _|j
   ·simp[d0q]at h2
   have hq:Hi l[j]=0:=hp (by omega) (by simp;omega);rw[Mz (by omega) (w0p hq).1]at h2;have:=h.2 j (zS _) z6;simp at h2;omega
  rw[if_neg h2,ih];constructor
  ·rintro⟨a,b⟩;refine⟨λi hi h=>?_,λi hi h=>?_⟩
   ·by_cases e:i=j
    ·subst e;exact z1
    exact a i (by omega) h
   by_cases e:j=i+1
   ·subst e;have hq:Hi l[i]=0:=hp (by omega) (by simp;omega);rw[Mz (by omega) (w0p hq).1]at h2;simp at h2;exact h2
   exact b i (by omega) h
  rintro⟨a,b⟩;exact⟨λi hi h=>a i (by omega) h,λi hi h=>b i (by omega) h⟩
def Gr(l:List Iv):ckR l=0↔CanonL l:=by
 rw[ckR];by_cases h:decide ((256:Int)<l.length)=true
 ·rw[if_pos h];simp at h;exact⟨λe=>(by cases e),λe=>(by have:=e.len;omega)⟩
 rw[if_neg h];simp at h;have hl:l.length<=256:=by omega
 have:=Lo l hl l.length 0 rfl (xA _) (λh=>by omega);rw[List.drop_zero]at this;rw[this];constructor
 ·rintro⟨a,b⟩;refine⟨hl,λy hy=>?_,λj h=>b j (by omega) h⟩;obtain⟨i,hi,rfl⟩:=yX hy;exact a i (by omega) hi
 rintro⟨_,a,b⟩;exact⟨λi _ h=>a _ (zL h),λi _ h=>b i h⟩
def CanonL.iv{l:List Iv}(h:CanonL l){j:Nat}(hj:j<l.length): -1099511627776<=l[j].lo/\l[j].lo<=l[j].hi/\l[j].hi<=1099511627776:=by obtain⟨⟨h1,h2⟩,h3⟩:=w0p (h.one _ (zL hj));have:=(E4 _).1 h1;have:=(E4 _).1 h2;omega
attribute [local irreducible] ckR
end
section
open Go Go.Proofs
attribute [local irreducible] ckR
def Jh(a b:List Iv):Int:=if ckR a=0 then ckR b else ckR a
def y2p(a b:List Iv):PC prog 230 [LIv a,LIv b] (λr=>r= .i (Jh a b)):=by
 refine pcB func230 results230 ntmps230 ?_;simp only[Qd];repeat(refine s_ ?_;simp)
 refine pcL (Jb a) ?_;simp;repeat(refine s_ ?_;simp)
 refine Qa rfl (λh=>?_) (λh=>?_)
 ·repeat(refine s_ ?_;simp)
  rw[Jh,if_neg (by simpa using h)]
 repeat(refine s_ ?_;simp)
 refine pcL (Jb b) ?_;simp;repeat(refine s_ ?_;simp)
 rw[Jh,if_pos (by simpa using h)]
def Me(l:List Iv):AV:=if l.length<=256 then .tup [LIv l,.i 0]else .tup [.list [],.i 5]
def Xe(l:List Iv):PC prog 231 [LIv l] (λr=>r=Me l):=by
 refine pcB func231 results231 ntmps231 ?_;simp only[Qd];repeat(refine s_ ?_;simp)
 refine Qa rfl (λh=>?_) (λh=>?_)
 ·repeat(refine s_ ?_;simp)
  rw[Me,if_neg (by simp at h;omega)]
 repeat(refine s_ ?_;simp)
 rw[Me,if_pos (by simp at h;omega)]
def w2x:List Iv->Int->Int×Int
 |[],_=>(0,2)
 |x::r,i=>if i<x.hi - x.lo+1 then(x.lo+i,0)else w2x r (i - (x.hi - x.lo+1))
def atR(l:List Iv)(i:Int):Int×Int:=if ckR l=0 then(if i<0 then(0,2)else w2x l i)else(0,ckR l)
def u0t(x:Iv)(n:Int):Int:=if x.hi<n then -1 else if n<x.lo then 1 else 0
def v1w(x:Iv)(n:Int):PC prog 222 [encIv x,.i n] (λr=>r= .i (u0t x n)):=by
 refine pcB func222 results222 ntmps222 ?_;simp only[Qd];simp only[encIv];repeat(refine s_ ?_;simp)
 refine Qa rfl (λh=>?_) (λh=>?_)
 ·repeat(refine s_ ?_;simp)
  rw[u0t,if_pos (by simpa using h)]
 repeat(refine s_ ?_;simp)
 refine Qa rfl (λh2=>?_) (λh2=>?_)
 ·repeat(refine s_ ?_;simp)
  rw[u0t,if_neg (by simpa using h),if_pos (by simpa using h2)]
 repeat(refine s_ ?_;simp)
 rw[u0t,if_neg (by simpa using h),if_neg (by simpa using h2)]
def Ul(l:List Iv)(n:Int):Bool:=l.any λx=>decide (x.lo<=n) && decide (n<=x.hi)
def Ak{l:List Iv}(hc:CanonL l):∀ {i j:Nat},i<j->∀(hj:j<l.length),∀(hi:i<l.length),l[i].hi+2<=l[j].lo:=by
 intro i j z1 hj hi;obtain⟨d,rfl⟩:∃d,j=i+1+d:=⟨j - (i+1),by omega⟩
 induction d with
 |zero=>exact hc.gap i hj
 |succ d ih=>
  have h1:=ih (by omega) (by omega);have h2:=hc.gap (i+1+d) (by omega);have h3:=hc.iv (show i+1+d<l.length by omega);have h4:i+1+(d+1)=i+1+d+1:=by omega
  simp only[h4];omega
def K3(x:Iv)(n:Int):u0t x n<0↔x.hi<n:=by
 unfold u0t;by_cases h:x.hi<n
 ·rw[if_pos h];simp[h]
 rw[if_neg h];by_cases h2:n<x.lo
 ·rw[if_pos h2];simp[h]
 rw[if_neg h2];simp[h]
def k1k(x:Iv)(n:Int):u0t x n=0↔x.lo<=n/\n<=x.hi:=by
 unfold u0t;by_cases h:x.hi<n
 ·rw[if_pos h];constructor<;>intro h'<;>omega
 rw[if_neg h];by_cases h2:n<x.lo
 ·rw[if_pos h2];constructor<;>intro h'<;>omega
 rw[if_neg h2];constructor<;>intro h'<;>omega
def j2y{i j m:Nat}(hm:(i+j) / 2=m)(h:i+j<=1000000000):IntKind.i64.wrap ((IntKind.u64.wrap ((i:Int)+j)).fdiv (2 ^ min 1 IntKind.u64.bits))=m:=by
 have h1:IntKind.u64.wrap ((i:Int)+j)=i+j:=by simp[IntKind.wrap,IntKind.bits,IntKind.signed];omega
 have h2:min 1 IntKind.u64.bits=1:=by decide
 rw[h1,h2,Int.fdiv_eq_ediv_of_nonneg _ (by decide),wrap_i64 _ (by omega) (by omega)];omega
attribute [local irreducible] u0t
def Mu(l:List Iv)(n:Int)(hc:CanonL l):PC prog 221 [LIv l,.i n,.fn (.func 222) [] []] (λr=>∃k:Int,r= .tup [.i k,.bool (Ul l n)]):=by
 refine pcB func221 results221 ntmps221 ?_;simp only[Qd];have hlen:=hc.len;repeat(refine s_ ?_;simp)
 refine lpV (F:=λ(u:Nat×Nat)=>⟨[(0,LIv l),(1,.i n),(2,.fn (.func 222) [] []),(8,.i l.length),(9,.i u.1),(10,.i u.2)],[]⟩) (λu=>u.1<=u.2/\u.2<=l.length/\(∀k,k<u.1->∀hk:k<l.length,u0t l[k] n<0)/\(∀k,u.2<=k->∀hk:k<l.length,¬u0t l[k] n<0)) (λu=>u.2 - u.1) ?_ (0,l.length) ⟨by simp,by simp,λk hk=>by simp at hk,λk hk z1=>by simp only at hk;omega⟩;rintro⟨i,j⟩ ⟨h1,h2,h3,h4⟩ ih;simp only at h1 h2 h3 h4 ih |-;repeat(refine s_ ?_;simp)
 refine Qa rfl (λzd=>?_) (λze=>?_)
 ·have zf:i<j:=by simpa using zd
  have hw:IntKind.i64.wrap ((i:Int)+j)=i+j:=wrap_i64 _ (by omega) (by omega);obtain⟨m,hm⟩:∃m,(i+j) / 2=m:=⟨_,rfl⟩
  have z8:IntKind.i64.wrap ((IntKind.u64.wrap ((i:Int)+j)).fdiv (2 ^ min 1 IntKind.u64.bits))=m:=j2y hm (by omega);have z6:m<l.length:=by omega
  have za:(m:Int)<l.length:=by omega
  have zg:=wz m (by omega);repeat(refine s_ ?_;simp[hw,z8,z6,za])
  refine pcL (v1w l[m] n) ?_;simp;refine Qa rfl (λh5=>?_) (λh5=>?_)
  ·repeat(refine s_ ?_;simp[zg])
   refine Qo (sl':=[(0,LIv l),(1,.i n),(2,.fn (.func 222) [] []),(8,.i l.length),(9,.i (m+1:Nat)),(10,.i j)]) (ih (m+1,j) ⟨by simp only;omega,h2,λk hk z1=>?_,h4⟩ (by simp only;omega)) (by simp);have zh:=hc.iv z1;have zi:=hc.iv z6;have z7:u0t l[m] n<0:=by simpa using h5
   by_cases e:k=m
   ·subst e;exact z7
   have:=Ak hc (show k<m by omega) z6 z1;rw[K3]at z7 |-;omega
  repeat(refine s_ ?_;simp)
  refine Qo (sl':=[(0,LIv l),(1,.i n),(2,.fn (.func 222) [] []),(8,.i l.length),(9,.i i),(10,.i m)]) (ih (i,m) ⟨by simp only;omega,by simp only;omega,h3,λk hk z1=>?_⟩ (by simp only;omega)) (by simp);have zh:=hc.iv z1;have zi:=hc.iv z6;have z7:¬u0t l[m] n<0:=by simpa using h5
  by_cases e:k=m
  ·subst e;exact z7
  have:=Ak hc (show m<k by omega) z1 z6;rw[K3]at z7 |-;omega
 have zb:i=j:=by simp at ze;omega
 subst zb;by_cases hil:i<l.length
 ·repeat(refine s_ ?_;simp[hil])
  refine pcL (v1w l[i] n) ?_;simp;repeat(refine s_ ?_;simp)
  have hh:Ul l n=(u0t l[i] n==0):=by
   rw[x_,beq_iff_eq,k1k,Ul,wL];constructor
   ·rintro⟨x,hx,zc⟩;obtain⟨k,hk,rfl⟩:=yX hx;simp at zc;have e:k=i:=by
     by_cases e1:k<i
     ·have:=(K3 _ _).1 (h3 k e1 hk);omega
     by_cases e2:i<k
     ·have:=Ak hc e2 hk hil;have:¬l[i].hi<n:=λe=>h4 i (zS _) hil ((K3 l[i] n).2 e);omega
     omega
    subst e;exact zc
   intro h;exact⟨l[i],zL hil,by simpa using h⟩
  rw[hh]
 repeat(refine s_ ?_;simp[hil])
 refine Wq rfl rfl ?_;simp;repeat(refine s_ ?_;simp)
 have hh:Ul l n=false:=by rw[Ul,vw];intro x hx;obtain⟨k,hk,rfl⟩:=yX hx;have:=(K3 _ _).1 (h3 k (by omega) hk);simp;intro _;omega
 rw[hh]
def z1q(l:List Iv)(n:Int)(hc:CanonL l):PC prog 165 [LIv l,.i n] (λr=>r= .bool (Ul l n)):=by
 refine pcB func165 results165 ntmps165 ?_;simp only[Qd];repeat(refine s_ ?_;simp)
 refine Ve rfl rfl (by simp) (Mu l n hc) rfl ?_;rintro _ ⟨k,rfl⟩;simp;repeat(refine s_ ?_;simp)
attribute [local irreducible] Ul
def c13(l:List Iv)(n:Int):Bool×Int:=if ckR l=0 then(Ul l n,0)else(false,ckR l)
def Lu(l:List Iv)(n:Int):PC prog 103 [LIv l,.i n] (λr=>r= .tup [.bool (c13 l n).1,.i (c13 l n).2]):=by
 refine pcB func103 results103 ntmps103 ?_;simp only[Qd];repeat(refine s_ ?_;simp)
 refine pcL (Jb l) ?_;simp;repeat(refine s_ ?_;simp)
 refine Qa rfl (λh=>?_) (λh=>?_)
 ·repeat(refine s_ ?_;simp)
  rw[c13,if_neg (by simpa using h)];exact⟨rfl,rfl⟩
 have h0:ckR l=0:=by simpa using h
 repeat(refine s_ ?_;simp)
 refine pcL (z1q l n ((Gr l).1 h0)) ?_;simp;repeat(refine s_ ?_;simp)
 rw[c13,if_pos h0];exact⟨rfl,rfl⟩
end
section
open Go Go.Proofs
attribute [local irreducible] ckR
end
section
open Go Go.Proofs
def x2e(H:List AObj)(n:Nat)(h0:0<n)(hn:n<=100000):FC prog 312 [.nils,.i n] H
  (λr H'=>r= .sl H.length 2 0 0/\H'=H++[.arr 144 2 []]):=by
 have z6:¬((n:Int)<0):=by omega
 have hw:IntKind.i64.wrap (n:Int)=n:=wrap_i64 _ (by omega) (by omega);refine fcB func312 results312 ntmps312 ?_;simp only[Qd];repeat(refine s_ ?_;simp)
 refine Qa rfl (λh=>?_) (λh=>?_)
 ·simp[z6]at h
 have z1:IntKind.i64.wrap 0=0:=by decide
 repeat(refine s_ ?_;simp[hw])
 refine W6 tOk rfl rfl P6 rfl rfl rfl ?_;simp[hw,z1];repeat(refine s_ ?_;simp[hw,z1])
 refine Qa rfl (λh2=>?_) (λh2=>?_)
 ·repeat(refine s_ ?_;simp[hw,z1])
  refine W6 tOk rfl rfl P6 rfl rfl rfl ?_;simp[hw,z1];refine E5 tOk rfl rfl P6 rfl T3 rfl L1 rfl (by decide) rfl (n:=n) rfl h0 (by simp;omega) (by omega) (.agg [.int .i64 0,.int .i64 0]) rfl rfl ?_;simp;refine Pq H.length 0 (Fp H _ []) ?_;simp;repeat(refine s_ ?_;simp)
 simp at h2;omega
def c1x(H:List AObj):FC prog 312 [.nils,.i 0] H (λr H'=>r= .nils/\H'=H):=by
 refine fcB func312 results312 ntmps312 ?_;simp only[Qd];have z1:IntKind.i64.wrap 0=0:=by decide
 repeat(refine s_ ?_;simp)
 refine Qk rfl ?_;simp;repeat(refine s_ ?_;simp[z1])
 refine W6 tOk rfl rfl P6 rfl rfl rfl ?_;simp[z1];repeat(refine s_ ?_;simp[z1])
 refine Qk rfl ?_;simp;repeat(refine s_ ?_;simp[z1])
def Ah(ls:List (List Iv)):List Iv:=ls.flatten
def Kc(ls:List (List Iv))(j:Nat)(h:j<ls.length):Ah (ls.take (j+1))=Ah (ls.take j)++ls[j]:=by unfold Ah;rw[zR h,vA];simp only[List.flatten_cons,List.flatten_nil,yV]
def w0y(ls:List (List Iv))(j:Nat):(Ah (ls.take j)).length<=(Ah ls).length:=by
 conv=>rhs;rw[<-xI j ls,Ah,vA,zW]
 rw[Ah];omega
def Vq(ls:List (List Iv)):Ah (ls.take ls.length)=Ah ls:=by rw[zY]
def Dw:Ah []=[]:=rfl
attribute [local irreducible] Ah
def q17(ls:List (List Iv))(hl:ls.length<=1000)(ht:(Ah ls).length<=100000):PC prog 279 [.list (ls.map encL)] (λr=>r=LIv (Ah ls)):=by
 refine pcB func279 results279 ntmps279 ?_;simp only[Qd];repeat(refine s_ ?_;simp)
 refine Qr ls.length (λ_=>True) (λj=>[(0,.list (ls.map encL)),(3,.i (Ah (ls.take j)).length),(9,.list (ls.map encL)),(10,.i ls.length),(11,.i j)]) (λ_=>[]) rfl (by simp) (by simp[Dw]) (by simp) (by simp) trivial ?_;intro j hj hI ih;repeat(refine s_ ?_;simp)
 refine Qa rfl (λz8=>?_) (λza=>?_)
 ·have z1:j<ls.length:=by simpa using z8
  have hw:=wz j (by omega);have zc:=w0y ls (j+1);have ih:=ih z1 trivial;have z7:(Ah (ls.take (j+1))).length=(Ah (ls.take j)).length+ls[j].length:=by rw[Kc ls j z1,zW]
  generalize (Ah (ls.take (j+1))).length=m at *;generalize (Ah (ls.take j)).length=k at *
  have zd:IntKind.i64.wrap ((k:Int)+ls[j].length)=m:=by rw[wrap_i64 _ (by omega) (by omega)];omega
  repeat(refine s_ ?_;simp[z1,zd])
  refine Qa rfl (λh2=>?_) (λh2=>?_)
  ·simp at h2;omega
  repeat(refine s_ ?_;simp[hw,zd])
  refine Qt _ ih rfl (by simp) ?_ (by simp) (by simp);simp
 have z6:j=ls.length:=by simp at za;omega
 subst z6;clear ih;obtain⟨n,hn⟩:∃n,(Ah ls).length=n:=⟨_,rfl⟩
 rw[Vq,hn];rcases Nat.eq_zero_or_pos n with h0|h0
 ·subst h0;repeat(refine s_ ?_;simp)
  refine Qm rfl rfl (c1x []) rfl ?_;rintro r H' ⟨rfl,rfl⟩;simp;repeat(refine s_ ?_;simp)
  refine Qw 6 144 2 rfl ?_;simp;refine lpW (F:=λ(u:Nat×Nat×List AObj)=>⟨[(6,.sl u.2.1 2 0 (Ah (ls.take u.1)).length),(25,.list (ls.map encL)),(26,.i ls.length),(27,.i u.1)],u.2.2⟩)
   (λu=>u.1<=ls.length/\u.2.2[u.2.1]?=some (.arr 144 2 ((Ah (ls.take u.1)).map encIv))) (λu=>ls.length - u.1) ?_ (0,0,[.arr 144 2 []]) ⟨by simp,by simp[Dw]⟩ (by simp[Dw])
  rintro⟨j,q,H2⟩ ⟨hj,g1⟩ ih;simp only at hj g1 ih |-;repeat(refine s_ ?_;simp)
  refine Qa rfl (λz8=>?_) (λza=>?_)
  ·have z1:j<ls.length:=by simpa using z8
   have hw:=wz j (by omega);have zc:=w0y ls (j+1);have hs:=Kc ls j z1;have z7:(Ah (ls.take (j+1))).length=(Ah (ls.take j)).length+ls[j].length:=by rw[hs,zW]
   have zb:=λ(q':Nat) (H':List AObj) (h:H'[q']?=some (.arr 144 2 ((Ah (ls.take j)++ls[j]).map encIv)))=>ih (j+1,q',H') ⟨by simp;omega,by rw[hs];exact h⟩ (by simp;omega);clear ih;simp only[hs]at zb;rw[z7]at zc;clear hs z7;generalize Ah (ls.take j)=acc at *
   repeat(refine s_ ?_;simp[z1])
   refine apS P6 L1 ?_;simp[Qb g1,Qg g1,g1];refine⟨by simp[Wo,Qb g1,Qg g1,g1]<;>omega,?_⟩;repeat(refine s_ ?_;simp[hw])
   exact Qo (sl':=[(6,.sl H2.length 2 0 (acc.length+ls[j].length)),(25,.list (ls.map encL)),(26,.i ls.length),(27,.i (j+1:Nat))]) (by
    have:=zb H2.length (H2.set q .dead++[.arr 144 2 ((acc++ls[j]).map encIv)]) (by rw[zF (by simp)];simp);simpa using this) (by simp)
  have z6:j=ls.length:=by simp at za;omega
  subst z6;rw[Vq]at g1;rw[zY];repeat(refine s_ ?_;simp[g1])
  rw[zT (by simp)]
 repeat(refine s_ ?_;simp)
 refine Qm rfl rfl (x2e [] n h0 (by omega)) rfl ?_;rintro r H' ⟨rfl,rfl⟩;simp;repeat(refine s_ ?_;simp)
 refine lpW (F:=λ(u:Nat×Nat×List AObj)=>⟨[(6,.sl u.2.1 2 0 (Ah (ls.take u.1)).length),(25,.list (ls.map encL)),(26,.i ls.length),(27,.i u.1)],u.2.2⟩)
  (λu=>u.1<=ls.length/\u.2.2[u.2.1]?=some (.arr 144 2 ((Ah (ls.take u.1)).map encIv))) (λu=>ls.length - u.1) ?_ (0,0,[.arr 144 2 []]) ⟨by simp,by simp[Dw]⟩ (by simp[Dw])
 rintro⟨j,q,H2⟩ ⟨hj,g1⟩ ih;simp only at hj g1 ih |-;repeat(refine s_ ?_;simp)
 refine Qa rfl (λz8=>?_) (λza=>?_)
 ·have z1:j<ls.length:=by simpa using z8
  have hw:=wz j (by omega);have zc:=w0y ls (j+1);have hs:=Kc ls j z1;have z7:(Ah (ls.take (j+1))).length=(Ah (ls.take j)).length+ls[j].length:=by rw[hs,zW]
  have zb:=λ(q':Nat) (H':List AObj) (h:H'[q']?=some (.arr 144 2 ((Ah (ls.take j)++ls[j]).map encIv)))=>ih (j+1,q',H') ⟨by simp;omega,by rw[hs];exact h⟩ (by simp;omega);clear ih;simp only[hs]at zb;rw[z7]at zc;clear hs z7;generalize Ah (ls.take j)=acc at *
  repeat(refine s_ ?_;simp[z1])
  refine apS P6 L1 ?_;simp[Qb g1,Qg g1,g1];refine⟨by simp[Wo,Qb g1,Qg g1,g1]<;>omega,?_⟩;repeat(refine s_ ?_;simp[hw])
  exact Qo (sl':=[(6,.sl H2.length 2 0 (acc.length+ls[j].length)),(25,.list (ls.map encL)),(26,.i ls.length),(27,.i (j+1:Nat))]) (by
   have:=zb H2.length (H2.set q .dead++[.arr 144 2 ((acc++ls[j]).map encIv)]) (by rw[zF (by simp)];simp);simpa using this) (by simp)
 have z6:j=ls.length:=by simp at za;omega
 subst z6;rw[Vq]at g1;rw[zY];repeat(refine s_ ?_;simp[g1])
 rw[zT (by simp)]
end
section
open Go Go.Proofs Go.RowKit Go.Shelf Go.Lib Go.Sort
def Rj(zs:List Int):List Int:=zs.mergeSort λx y=>decide (x<=y)
def Ib(zs:List Int):(Rj zs).length=zs.length:=by simp[Rj]
def Ga(H:List AObj)(p:Nat)(zs:List Int)(hp:H[p]?=some (.arr 3 1 (zs.map (AV.int .i64))))(hl:zs.length<=1000000):
  FC prog 171 [.sl p 1 0 zs.length] H (λr H'=>r= .tup []/\H'=H.set p (.arr 3 1 ((Rj zs).map (AV.int .i64)))):=by
 refine(z13 (xs:=zs.map (AV.int .i64)) (rest:=[]) (Ts func171 rfl rfl) (by simp) hp (d2u zs) [] (λw I m vs a b=>by simpa using a) (λz1=>z1=(Rj zs).map (AV.int .i64)) ?_ ?_).mono ?_
 ·intro b cap w hH hb hc;have:=Tryz.slices_Sort_int b 0 cap zs w (Mq hH) hb (by omega);refine Calls.mono (by simpa using this) ?_;rintro e w' ⟨rfl,n,os,rfl⟩;exact⟨rfl,_,((Rj zs).map (Value.int .i64)).toArray,n,os,rfl,by simp[Ib],d2u _,by rw[Z4];rfl⟩
 ·rintro h;have z6:zs=[]:=by simpa using h
  subst z6;exact⟨by simp[Rj],λw=>by simpa using Tryz.slices_Sort_int_none none 0 w⟩
 rintro r H' ⟨rfl,z1,rfl,rfl⟩;exact⟨rfl,rfl⟩
def I5(H:List AObj)(p:Nat)(zs:List Int)(hp:H[p]?=some (.arr 3 1 (zs.map (AV.int .i64))))(hl:zs.length<=1000000)(z6:(Lib.compact zs).length<=zs.length):
  FC prog 172 [.sl p 1 0 zs.length] H (λr H'=>r= .sl p 1 0 (Lib.compact zs).length/\∃G:List Int,H'=H.set p (.arr 3 1 ((Lib.compact zs++G).map (AV.int .i64)))):=by
 refine(u2z (xs:=zs.map (AV.int .i64)) (Ts func172 rfl rfl) (by simp) hp (d2u zs) (λz1 n=>n=(Lib.compact zs).length/\∃G:List Int,z1=(Lib.compact zs++G).map (AV.int .i64)) (λys n h=>by rw[h.1];exact z6) ?_ ?_).mono ?_
 ·intro b cap w hH hb hc hm;have:=Tryz.slices_Compact_int b 0 cap zs w (Mq hH) (by omega) hc;refine Calls.mono (by simpa using this) ?_;rintro e w' ⟨rfl,q,rfl⟩;exact⟨_,((Lib.compact zs++yF (zs.length - (Lib.compact zs).length) 0).map (Value.int .i64)).toArray,q,_,rfl,⟨rfl,_,rfl⟩,by simp;omega,d2u _,by rw[<-Z4]⟩
 ·rintro h;have z7:zs=[]:=by simpa using h
  subst z7;exact⟨⟨rfl,[],rfl⟩,λw=>by simpa using Tryz.slices_Compact_int_empty none 0 w⟩
 rintro r H' ⟨z1,n,rfl,⟨rfl,G,rfl⟩,rfl⟩;exact⟨rfl,G,rfl⟩
end
section
open Go Go.Proofs
attribute [simp] T47
def Pa:List Iv->List Int
 |[]=>[]
 |x::r=>x.lo::(x.hi+1)::Pa r
def Vi:∀(l:List Iv) (x:Iv),Pa (l++[x])=Pa l++[x.lo,x.hi+1]
 |[],x=>rfl
 |y::r,x=>by rw[uV,Pa,Vi r,Pa];rfl
def Kk:∀(l:List Iv),(Pa l).length=2 * l.length
 |[]=>rfl
 |x::r=>by rw[Pa,yZ,yZ,Kk r,yZ];omega
def x1j:Pa []=[]:=rfl
def Su(l:List Iv):List Int:=Lib.compact (Rj (Pa l))
def Gn(f:Int->Bool):List Int->List Iv->List Iv
 |c::d::r,acc=>Gn f (d::r) (if f c=true then W4 acc ⟨c,d - 1⟩else acc)
 |_,acc=>acc
def z1r{acc:List Iv}{x:Iv}(ha:∀y∈acc,Nu y)(hx:Nu x):∀y∈W4 acc x,Nu y:=by
 rcases wT acc with rfl|⟨ini,z,rfl⟩
 ·simpa[W4]using hx
 have hz:=ha z (by simp);have hi:∀y∈ini,Nu y:=λy hy=>ha y (by simp[hy]);intro y hy;rw[wU,Ej]at hy;split at hy
 ·rcases zV.1 hy with h|h
  ·exact hi y h
  simp at h;subst h;unfold Nu at *;simp only;split<;>omega
 rcases zV.1 hy with h|h
 ·rcases zV.1 h with h|h
  ·exact hi y h
  simp at h;subst h;exact hz
 simp at h;subst h;exact hx
def d0u:∀(l:List Iv) (z:Int),z∈Pa l->∃x∈l,z=x.lo\/z=x.hi+1
 |[],z,h=>by simp[Pa]at h
 |y::r,z,h=>by
  rw[Pa]at h;rcases yB.1 h with h|h
  ·exact⟨y,by simp,.inl h⟩
  rcases yB.1 h with h|h
  ·exact⟨y,by simp,.inr h⟩
  obtain⟨x,hx,hz⟩:=d0u r z h;exact⟨x,by simp[hx],hz⟩
def w1k(zs:List Int)(z:Int)(h:z∈Rj zs):z∈zs:=by unfold Rj at h;simpa using h
def Ou(op:Bool->Bool->Bool)(a b:List Iv):List Iv:=Gn (λn=>op (Ul a n) (Ul b n)) (Su (a++b)) []
def Tv(zs:List Int):(Lib.compact zs).length<=zs.length:=by unfold Lib.compact Lib.compactUpTo;rw[List.length_map];exact yP (yW _ _) (by simp)
def z0v{zs:List Int}{z:Int}(h:z∈Lib.compact zs):z∈zs:=by
 unfold Lib.compact Lib.compactUpTo at h;obtain⟨i,hi,rfl⟩:=zO.1 h;have z1:i<zs.length:=by simpa using(xH.1 hi).1
 rw[getElem!_pos _ i (by simpa using z1)];simp
def v0z(a b:List Iv):Ah [a,b]=a++b:=by simp[Ah]
attribute [local irreducible] ckR Ul Ah W4 Rj Lib.compact Pa
def d1j(g:Nat)(op:Bool->Bool->Bool)(hg:∀x y,PC prog g [.bool x,.bool y] (λr=>r= .bool (op x y)))(a b:List Iv)(ha:CanonL a)(hb:CanonL b):
  PC prog 232 [LIv a,LIv b,.fn (.func g) [] []] (λr=>r=LIv (Ou op a b)):=by
 refine pcB func232 results232 ntmps232 ?_;simp only[Qd];have zr:=ha.len;have zt:=hb.len;repeat(refine s_ ?_;simp)
 have hc:∀y∈a++b,-1099511627776<=y.lo/\y.lo<=y.hi/\y.hi<=1099511627776:=λy hy=>by
  rcases zV.1 hy with h|h<;>obtain⟨i,hi,rfl⟩:=yX h
  ·exact ha.iv hi
  exact hb.iv hi
 have zu:(a++b).length<=512:=by rw[zW];omega
 obtain⟨R,hR⟩:∃R,Ou op a b=R:=⟨_,rfl⟩
 rw[hR];rw[Ou]at hR;refine Ek 0 rfl ?_;simp;refine pcL (q17 [a,b] (by simp) (by rw[v0z,zW];omega)) ?_;simp[v0z,-yR];have zi:(a.length:Int)+b.length=((a++b).length:Nat):=by simp
 generalize a++b=c at *;rw[zi]
 repeat(refine s_ ?_;simp)
 refine kpA [(0,LIv a),(1,LIv b),(2,.fn (.func g) [] []),(7,.nils),(15,LIv c),(16,.i c.length),(17,.i 0)] ?_;refine x01 (H:=[]) _ ?_ (by simp) (by simp) (by simp);refine Qw 7 3 1 rfl ?_;simp;refine lpW (F:=λ(u:Nat×Nat×List AObj)=>⟨[(0,LIv a),(1,LIv b),(2,.fn (.func g) [] []),(7,.sl u.2.1 1 0 (Pa (c.take u.1)).length),(15,LIv c),(16,.i c.length),(17,.i u.1)],u.2.2⟩)
  (λu=>u.1<=c.length/\u.2.2[u.2.1]?=some (.arr 3 1 ((Pa (c.take u.1)).map (AV.int .i64)))) (λu=>c.length - u.1) ?_ (0,0,[.arr 3 1 []]) ⟨by simp,by simp[x1j]⟩ (by simp[x1j])
 rintro⟨j,q,H2⟩ ⟨hj,g1⟩ ih;simp only at hj g1 ih |-;repeat(refine s_ ?_;simp)
 refine Qa rfl (λzd=>?_) (λze=>?_)
 ·have z8:j<c.length:=by simpa using zd
  have hw:=wz j (by omega);have zv:=hc _ (zL z8);have zf:IntKind.i64.wrap (c[j].hi+1)=c[j].hi+1:=wrap_i64 _ (by omega) (by omega);have hs:Pa (c.take (j+1))=Pa (c.take j)++[c[j].lo,c[j].hi+1]:=by rw[zR z8,Vi]
  have zj:(Pa (c.take j)).length<=1024:=by rw[Kk,xR];omega
  have zh:=λ(q':Nat) (H':List AObj) (h:H'[q']?=some (.arr 3 1 ((Pa (c.take j)++[c[j].lo,c[j].hi+1]).map (AV.int .i64))))=>ih (j+1,q',H') ⟨by simp;omega,by rw[hs];exact h⟩ (by simp;omega);clear ih;simp only[hs]at zh;clear hs;generalize Pa (c.take j)=acc at *
  repeat(refine s_ ?_;simp[z8,zf])
  refine apS T47 T3 ?_;simp[Qb g1,Qg g1];refine⟨by simp[Wo]<;>omega,?_⟩;repeat(refine s_ ?_;simp[hw])
  exact Qo (sl':=[(0,LIv a),(1,LIv b),(2,.fn (.func g) [] []),(7,.sl (H2.length+2) 1 0 (acc.length+2)),(15,LIv c),(16,.i c.length),(17,.i (j+1:Nat))]) (by
   have:=zh (H2.length+2) (H2.set q .dead++[.vars [.int .i64 c[j].lo,.int .i64 c[j].hi],.arr 3 1 [.int .i64 c[j].lo,.int .i64 (c[j].hi+1)],.arr 3 1 ((acc++[c[j].lo,c[j].hi+1]).map (AV.int .i64))]) (by rw[zF (by simp)];simp);simpa using this) (by simp)
 have za:j=c.length:=by simp at ze;omega
 subst za;rw[zY]at g1;rw[zY];repeat(refine s_ ?_;simp)
 have zj:(Pa c).length<=1024:=by rw[Kk];omega
 refine Qm rfl rfl (Ga H2 q (Pa c) g1 (by omega)) rfl ?_;rintro r H' ⟨rfl,rfl⟩;simp;repeat(refine s_ ?_;simp)
 have g2:=Qf g1 (.arr 3 1 ((Rj (Pa c)).map (AV.int .i64)));have zk:=Ib (Pa c);rw[<-zk];refine Qm rfl rfl (I5 _ q (Rj (Pa c)) g2 (by omega) (Tv _)) rfl ?_;rintro r H' ⟨rfl,G,rfl⟩;simp;have g3:=Qf g1 (.arr 3 1 ((Lib.compact (Rj (Pa c))++G).map (AV.int .i64)));have zg:∀z∈Su c,-1099511627776<=z/\z<=1099511627777:=λz hz=>by obtain⟨x,hx,h⟩:=d0u c z (w1k _ _ (z0v hz));have:=hc x hx;omega
 have zl:(Su c).length<=1024:=yP (Tv _) (by omega);change Gn _ (Lib.compact (Rj (Pa c))) []=R at hR;unfold Su at zg zl;generalize Lib.compact (Rj (Pa c))=cs at *
 repeat(refine s_ ?_;simp)
 refine kpA [(0,LIv a),(1,LIv b),(2,.fn (.func g) [] []),(7,.sl q 1 0 cs.length),(10,.nils),(11,.i 0)] ?_;simp only[<-yR];refine Pq q cs.length g3 ?_;rw[yR,List.take_append_of_le_length (by simp),zT (by simp)];have g4:((H2.set q (.arr 3 1 ((cs++G).map (AV.int .i64)))).set q (.arr 3 1 (cs.map (AV.int .i64))))[q]?=some (.arr 3 1 (cs.map (AV.int .i64))):=Qf g3 _;rw[yR]at g4;refine g0q q g4 ?_;simp;refine x01 (H:=[]) _ ?_ (by simp) (by simp) (by simp);refine Qw 10 144 2 rfl ?_;simp;refine Ru (sl':=[(0,LIv a),(1,LIv b),(2,.fn (.func g) [] []),(7,.list (cs.map (AV.int .i64))),(10,.sl 0 2 0 0),(11,.i 0)]) ?_ (by simp;rw[zT (by simp)]);refine R9 ?_;refine R8 (F:=λ(u:Nat×Nat×List Iv×List AObj)=>⟨[(0,LIv a),(1,LIv b),(2,.fn (.func g) [] []),(7,.list (cs.map (AV.int .i64))),(10,.sl u.2.1 2 0 u.2.2.1.length),(11,.i u.1)],u.2.2.2⟩)
  (λu=>u.1<=cs.length/\u.2.2.2[u.2.1]?=some (.arr 144 2 (u.2.2.1.map encIv))/\(∀y∈u.2.2.1,Nu y)/\u.2.2.1.length<=u.1/\Gn (λn=>op (Ul a n) (Ul b n)) (cs.drop u.1) u.2.2.1=R) (λu=>cs.length - u.1) ?_ (0,0,[],[.arr 144 2 []]) ⟨by simp,rfl,by simp,by simp,by simpa using hR⟩
 clear hR;rintro⟨j,q,acc,H2⟩ ⟨hj,g1,zc,zm,hI⟩ ih;simp only at hj g1 zc zm hI ih |-;have hw:=wz j (by omega);repeat(refine s_ ?_;simp[hw])
 refine Qa rfl (λzd=>?_) (λze=>?_)
 ·have z7:j+1<cs.length:=by simp at zd;omega
  have z6:j<cs.length:=by omega
  have z1:(j:Int)<cs.length:=by omega
  have zb:(j:Int)+1<cs.length:=by omega
  have zn:((j:Int)+1).toNat=j+1:=by omega
  have zo:(0:Int)<=(j:Int)+1:=by omega
  have hd:cs.drop j=cs[j]::cs[j+1]::cs.drop (j+2):=by rw[Eh z6,Eh z7]
  have zp:cs.drop (j+1)=cs[j+1]::cs.drop (j+2):=Eh z7;rw[hd,Gn,<-zp]at hI;repeat(refine s_ ?_;simp)
  refine drT [] (.pv 0 6 (.pv 7 5 (.one 6 (.one 12 (.one 13 (.done)))))) ?_;simp[z6,z1];refine pcL (z1q a cs[j] ha) ?_;simp[z6,z1];refine pcL (z1q b cs[j] hb) ?_;simp[z6,z1];refine pcL (hg (Ul a cs[j]) (Ul b cs[j])) ?_;simp[z6,z1];have zw:=zg _ (zL z6);have zx:=zg _ (zL z7);have zf:IntKind.i64.wrap (cs[j+1] - 1)=cs[j+1] - 1:=wrap_i64 _ (by omega) (by omega);refine Qa rfl (λh1=>?_) (λh1=>?_)
  ·rw[if_pos h1]at hI;repeat(refine s_ ?_;simp)
   refine drT [12] (.pv 0 12 (.one 12 (.val 13 (.done)))) ?_;simp[z6,z1,hw,zf,z7,zb,zn,zo];refine Qm rfl rfl (v2n H2 q acc ⟨cs[j],cs[j+1] - 1⟩ g1 (by omega) zc) rfl ?_;rintro r H' ⟨q',rfl,k1,k2,k3⟩;simp;repeat(refine s_ ?_;simp[hw])
   have zq:=u0k acc ⟨cs[j],cs[j+1] - 1⟩;have key:=ih (j+1,q',W4 acc ⟨cs[j],cs[j+1] - 1⟩,H') ⟨by simp only;omega,k1,z1r zc (by unfold Nu;simp only;omega),by simp only;omega,hI⟩ (by simp only;omega);exact Qo key (by simp)
  rw[if_neg (by simpa using h1)]at hI;repeat(refine s_ ?_;simp[hw])
  exact Qo (sl':=[(0,LIv a),(1,LIv b),(2,.fn (.func g) [] []),(7,.list (cs.map (AV.int .i64))),(10,.sl q 2 0 acc.length),(11,.i (j+1:Nat))]) (ih (j+1,q,acc,H2) ⟨by simp only;omega,g1,zc,by simp only;omega,hI⟩ (by simp only;omega)) (by simp)
 have za:cs.length<=j+1:=by simp at ze;omega
 have hs:Gn (λn=>op (Ul a n) (Ul b n)) (cs.drop j) acc=acc:=by
  rcases hd:cs.drop j with _|⟨x,_|⟨y,r⟩⟩
  ·rfl
  ·rfl
  have:=congrArg List.length hd;simp at this;omega
 rw[hs]at hI;subst hI;repeat(refine s_ ?_;simp[g1])
 rw[zT (by simp)]
end
section
open Go Go.Proofs
attribute [local irreducible] ckR Ou
def Ck(x y:Bool):PC prog 187 [.bool x,.bool y] (λr=>r= .bool (x && y)):=by refine pcB func187 results187 ntmps187 ?_;simp only[Qd];repeat(refine s_ ?_;simp)
def Kg(op:Bool->Bool->Bool)(a b:List Iv):AV:=if Jh a b=0 then Me (Ou op a b)else .tup [.list [],.i (Jh a b)]
def v1f{a b:List Iv}(h:Jh a b=0):CanonL a/\CanonL b:=by
 unfold Jh at h;by_cases h1:ckR a=0
 ·rw[if_pos h1]at h;exact⟨(Gr a).1 h1,(Gr b).1 h⟩
 rw[if_neg h1]at h;exact absurd h h1
attribute [local irreducible] Jh
def k08(g:Nat)(op:Bool->Bool->Bool)(hg:∀x y,PC prog g [.bool x,.bool y] (λr=>r= .bool (op x y)))(a b:List Iv):
  PC prog 186 [LIv a,LIv b,.fn (.func g) [] []] (λr=>r=Kg op a b):=by
 refine pcB func186 results186 ntmps186 ?_;simp only[Qd];repeat(refine s_ ?_;simp)
 refine pcL (y2p a b) ?_;simp;repeat(refine s_ ?_;simp)
 refine Qa rfl (λh=>?_) (λh=>?_)
 ·repeat(refine s_ ?_;simp)
  rw[Kg,if_neg (by simpa using h)]
 have h0:Jh a b=0:=by simpa using h
 obtain⟨h1,h2⟩:=v1f h0;rw[Kg,if_pos h0];repeat(refine s_ ?_;simp)
 refine pcL (d1j g op hg a b h1 h2) ?_;simp;generalize Ou op a b=s;by_cases hs:s.length<=256
 ·have e:Me s= .tup [LIv s,.i 0]:=by rw[Me,if_pos hs]
  refine pcL (Xe s) ?_;simp[e];repeat(refine s_ ?_;simp)
 have e:Me s= .tup [.list [],.i 5]:=by rw[Me,if_neg hs]
 refine pcL (Xe s) ?_;simp[e];repeat(refine s_ ?_;simp)
attribute [local irreducible] Kg
end
def push_comm(acc:List Iv)(x y:Iv)(h:x.lo=y.lo)(hx:x.lo<=x.hi)(hy:y.lo<=y.hi):W4 (W4 acc x) y=W4 (W4 acc y) x:=by
 have one:∀(u v:Iv),u.lo=v.lo->u.lo<=u.hi->∀ini:List Iv,W4 (ini++[u]) v=ini++[⟨u.lo,if u.hi<v.hi then v.hi else u.hi⟩]:=λu v z6 hu ini=>by rw[Ej,if_pos (by omega)]
 rcases wT acc with rfl|⟨ini,z,rfl⟩
 ·have e1:W4 [] x=[]++[x]:=rfl;have e2:W4 [] y=[]++[y]:=rfl;rw[e1,e2,one x y h hx,one y x h.symm hy,h]
  congr 3
  split<;>split<;>omega
 rw[wU];by_cases hz:x.lo<=z.hi+1
 ·have z1:∀(w u:Iv),u.lo<=w.hi+1->W4 (ini++[w]) u=ini++[⟨w.lo,if w.hi<u.hi then u.hi else w.hi⟩]:=λw u h=>by rw[Ej,if_pos h]
  rw[z1 z x hz,z1 z y (by omega),z1 _ y (by simp only;split<;>omega),z1 _ x (by simp only;split<;>omega)]
  congr 3
  simp only;repeat split
  all_goals omega
 have ap:∀u:Iv,u.lo=x.lo->W4 (ini++[z]) u=ini++[z]++[u]:=λu h=>by rw[Ej,if_neg (by omega)]
 rw[ap x rfl,ap y h.symm,one x y h hx,one y x h.symm hy,h]
 congr 3
 split<;>split<;>omega
def Gm:∀(A:List Iv) (acc:List Iv) (x:Iv) (B:List Iv),(∀y∈A,y.lo=x.lo/\y.lo<=y.hi)->x.lo<=x.hi->Qz acc (A++x::B)=Qz acc (x::(A++B))
 |[],acc,x,B,_,_=>rfl
 |y::A,acc,x,B,h,hx=>by have hy:=h y (by simp);have ih:=Gm A (W4 acc y) x B (λz hz=>h z (by simp[hz])) hx;simp only[Qz,uV,xV]at ih |-;rw[ih,push_comm acc y x hy.1 hy.2 hx]
def Ko:∀(l l':List Iv) (acc:List Iv),l.Perm l'->Xx l->Xx l'->(∀y∈l,y.lo<=y.hi)->Qz acc l=Qz acc l'
 |[],l',acc,hp,_,_,_=>by rw[hp.nil_eq]
 |x::l,l',acc,hp,h1,h2,hf=>by
  obtain⟨A,B,rfl⟩:=List.append_of_mem (hp.mem_iff.1 (List.mem_cons_self));have z6:l.Perm (A++B):=(List.perm_cons x).1 (hp.trans vO);have hA:∀y∈A,y.lo=x.lo/\y.lo<=y.hi:=λy hy=>by
   have z1:y∈x::l:=hp.mem_iff.2 (by simp[hy]);have a1:y.lo<=x.lo:=(yH.1 h2).2.2 y hy x (by simp);have a2:x.lo<=y.lo:=by
    rcases yB.1 z1 with rfl|h
    ·exact xC _
    exact(yJ.1 h1).1 y h
   exact⟨by omega,hf y z1⟩
  rw[Gm A acc x B hA (hf x (by simp))];have hb:Xx (A++B):=h2.sublist (List.Sublist.append_left (List.sublist_cons_self x B) A);exact Ko l (A++B) (W4 acc x) z6 (yJ.1 h1).2 hb (λy hy=>hf y (by simp[hy]))
def z1i(s:List Iv)(x:Iv):(v15 s x).Perm (x::s):=by unfold v15;refine vO.trans ?_;rw[xI]
def Kd(s:List Iv)(x:Iv):∀j,j<=s.length->(∀k,A8 s x j<=k->k<j->∀h:k<s.length,x.lo<s[k].lo)/\(∀k,k+1=A8 s x j->∀h:k<s.length,s[k].lo<=x.lo)
 |0,_=>⟨λk _ h=>by omega,λk h=>by simp[A8]at h⟩
 |j+1,hj=>by
  obtain⟨a,b⟩:=Kd s x j (by omega);have hg:q3h s j x=decide (x.lo<s[j].lo):=by simp[q3h,show j<s.length by omega]
  rw[A8,hg];by_cases h:decide (x.lo<s[j].lo)=true
  ·rw[if_pos h];refine⟨λk h1 h2 h3=>?_,b⟩;by_cases e:k=j
   ·subst e;simpa using h
   exact a k h1 (by omega) h3
  rw[if_neg h];refine⟨λk h1 h2=>by omega,λk h1 h2=>?_⟩;have e:k=j:=by omega
  subst e;simp at h;omega
def w1d(s:List Iv)(x:Iv)(hs:Xx s):Xx (v15 s x):=by
 obtain⟨a,b⟩:=Kd s x s.length (zS _);have hq:=Ju s x s.length;unfold v15;generalize A8 s x s.length=q at a b hq;have z6:∀i j,i<j->∀hi:i<s.length,∀hj:j<s.length,s[i].lo<=s[j].lo:=λi j h hi hj=>yK.1 hs i j hi hj h;have z7:∀y∈s.take q,y.lo<=x.lo:=λy hy=>by
  obtain⟨i,hi,rfl⟩:=yX hy;have za:i<q:=by rw[xR]at hi;omega
  rw[tJ];have h1:=b (q - 1) (by omega) (by omega);by_cases e:i=q - 1
  ·subst e;exact h1
  have:=z6 i (q - 1) (by omega) (by omega) (by omega);omega
 have z8:∀y∈s.drop q,x.lo<=y.lo:=λy hy=>by obtain⟨i,hi,rfl⟩:=yX hy;rw[List.length_drop]at hi;rw[List.getElem_drop];have:=a (q+i) (by omega) (by omega) (by omega);omega
 have z1:=hs;unfold Xx at z1 |-;rw[<-xI q s,yH]at z1;obtain⟨p1,p2,p3⟩:=z1;refine yH.2 ⟨p1,yJ.2 ⟨z8,p2⟩,λy hy z hz=>?_⟩;rcases yB.1 hz with rfl|h
 ·exact z7 y hy
 exact p3 y hy z h
def Lb:∀(l acc:List Iv),Xx acc->(l.foldl v15 acc).Perm (acc++l)/\Xx (l.foldl v15 acc)
 |[],acc,h=>⟨by simp,h⟩
 |x::r,acc,h=>by obtain⟨a,b⟩:=Lb r (v15 acc x) (w1d acc x h);refine⟨a.trans ?_,b⟩;exact((z1i acc x).append_right r).trans vO.symm
def Af(l:List Iv):(Py l).Perm l/\Xx (Py l):=by have:=Lb l [] .nil;simpa[Py]using this
def M(l:List Iv)(n:Int):Prop:=∃x∈l,x.lo<=n/\n<=x.hi
def Sep(l:List Iv):Prop:=(∀x∈l,x.lo<=x.hi)/\l.Pairwise (λx y=>x.hi+2<=y.lo)
def Sq(n:Int):M [] n↔False:=by simp[M]
def Ew(x:Iv)(l:List Iv)(n:Int):M (x::l) n↔(x.lo<=n/\n<=x.hi)\/M l n:=by simp[M]
def Zd(a b:List Iv)(n:Int):M (a++b) n↔M a n\/M b n:=by simp[M,or_and_right,exists_or]
def O5(l:List Iv)(n:Int):Ul l n=true↔M l n:=by simp[Ul,M]
def Sep.tail{x:Iv}{l:List Iv}(h:Sep (x::l)):Sep l:=⟨λy hy=>h.1 y (by simp[hy]),(yJ.1 h.2).2⟩
def Sep.low{x:Iv}{l:List Iv}(h:Sep (x::l)){n:Int}(hm:M l n):x.hi+2<=n:=by obtain⟨y,hy,h1,h2⟩:=hm;have:=(yJ.1 h.2).1 y hy;omega
def Sep.lowc{x:Iv}{l:List Iv}(h:Sep (x::l)){n:Int}(hm:M (x::l) n):x.lo<=n:=by
 rcases(Ew ..).1 hm with h1|h1
 ·exact h1.1
 have:=h.low h1;have:=h.1 x (by simp);omega
def y05:∀(a b:List Iv),Sep a->Sep b->(∀n,M a n↔M b n)->a=b
 |[],[],_,_,_=>rfl
 |[],y::b,_,hb,h=>by have:=(h y.lo).2 ((Ew ..).2 (.inl ⟨xC _,hb.1 y (by simp)⟩));exact absurd this (by simp[M])
 |x::a,[],ha,_,h=>by have:=(h x.lo).1 ((Ew ..).2 (.inl ⟨xC _,ha.1 x (by simp)⟩));exact absurd this (by simp[M])
 |x::a,y::b,ha,hb,h=>by
  have hx:=ha.1 x (by simp);have hy:=hb.1 y (by simp);have e1:x.lo=y.lo:=by have h1:=hb.lowc ((h x.lo).1 ((Ew ..).2 (.inl ⟨xC _,hx⟩)));have h2:=ha.lowc ((h y.lo).2 ((Ew ..).2 (.inl ⟨xC _,hy⟩)));omega
  have e2:x.hi=y.hi:=by
   rcases tU x.hi y.hi with hlt|heq|hgt
   ·rcases(Ew ..).1 ((h (x.hi+1)).2 ((Ew ..).2 (.inl ⟨by omega,by omega⟩)))with h1|h1
    ·omega
    have:=ha.low h1;omega
   ·exact heq
   rcases(Ew ..).1 ((h (y.hi+1)).1 ((Ew ..).2 (.inl ⟨by omega,by omega⟩)))with h1|h1
   ·omega
   have:=hb.low h1;omega
  have e3:x=y:=by cases x;cases y;simp_all
  subst e3;rw[y05 a b ha.tail hb.tail λn=>⟨λhm=>?_,λhm=>?_⟩]
  ·have h1:=ha.low hm;rcases(Ew ..).1 ((h n).1 ((Ew ..).2 (.inr hm)))with h2|h2
   ·omega
   exact h2
  have h1:=hb.low hm;rcases(Ew ..).1 ((h n).2 ((Ew ..).2 (.inr hm)))with h2|h2
  ·omega
  exact h2
def Dg{l:List Iv}(h:CanonL l):Sep l:=
 ⟨λx hx=>(w0p (h.one x hx)).2,yK.2 λ_ _ hi hj z1=>Ak h z1 hj hi⟩
def Vv{l:List Iv}(h:CanonL l):∀x∈l,Fc x:=λx hx=>(w0p (h.one x hx)).1
def x2g{l:List Iv}(h:CanonL l){n:Int}(hm:M l n): -1099511627776<=n/\n<=1099511627776:=by obtain⟨x,hx,h1,h2⟩:=hm;have h3:=Vv h x hx;have h4:=(E4 _).1 h3.1;have h5:=(E4 _).1 h3.2;omega
def Dn{l:List Iv}(h:Sep l)(hi:∀x∈l,Fc x)(hl:l.length<=256):CanonL l:=
 ⟨hl,λy hy=>by
  have h1:=hi y hy;have h2:=h.1 y hy;have h4:=h1.1;have h5:=h1.2;simp[Hi,h4,h5];omega,λj hj=>yK.1 h.2 j (j+1) (by omega) hj (by omega)⟩
def q2y(acc:List Iv)(x:Iv)(ha:Sep acc)(hx:x.lo<=x.hi)(hle:∀y∈acc,y.lo<=x.lo):
  Sep (W4 acc x)/\(∀n,M (W4 acc x) n↔M acc n\/(x.lo<=n/\n<=x.hi))/\(∀z,x.lo<=z->∀y∈W4 acc x,y.lo<=z):=by
 rcases wT acc with rfl|⟨ini,y,rfl⟩
 ·have e:W4 [] x=[x]:=rfl;rw[e];exact⟨⟨λy hy=>by simp at hy;subst hy;exact hx,by simp⟩,λn=>by simp[M],λz hz y hy=>by simp at hy;subst hy;exact hz⟩
 rw[wU]at ha hle |-;rw[Ej];have hy:=ha.1 y (by simp);have z1:=hle y (by simp);obtain⟨p1,p2,p3⟩:=yH.1 ha.2;split
 ·rename_i hj;refine⟨⟨λz hz=>?_,yH.2 ⟨p1,by simp,λu hu v hv=>?_⟩⟩,λn=>?_,λz hz u hu=>?_⟩
  ·rcases zV.1 hz with h|h
   ·exact ha.1 z (by simp[h])
   simp at h;subst h;simp only;split<;>omega
  ·simp at hv;subst hv;exact p3 u hu y (by simp)
  ·rw[Zd,Zd,Ew,Ew,Sq];simp only[or_false];by_cases hm:M ini n
   ·simp[hm]
   simp only[hm,false_or];split<;>omega
  rcases zV.1 hu with h|h
  ·have:=hle u (by simp[h]);omega
  simp at h;subst h;simp only;omega
 rename_i hj;refine⟨⟨λz hz=>?_,yH.2 ⟨ha.2,by simp,λu hu v hv=>?_⟩⟩,λn=>by rw[Zd,Ew,Sq];simp,λz hz u hu=>?_⟩
 ·rcases zV.1 hz with h|h
  ·exact ha.1 z h
  simp at h;subst h;exact hx
 ·simp at hv;subst hv;rcases zV.1 hu with h|h
  ·have:=p3 u h y (by simp);omega
  simp at h;subst h;omega
 rcases zV.1 hu with h|h
 ·have:=hle u h;omega
 simp at h;subst h;exact hz
def Ap:∀(l acc:List Iv),Sep acc->Xx l->(∀x∈l,x.lo<=x.hi)->(∀y∈acc,∀x∈l,y.lo<=x.lo)->
  Sep (Qz acc l)/\∀n,M (Qz acc l) n↔M acc n\/M l n
 |[],acc,ha,_,_,_=>⟨ha,λn=>by simp[Qz,M]⟩
 |x::l,acc,ha,hb,hf,hle=>by have hp:=q2y acc x ha (hf x (by simp)) (λy hy=>hle y hy x (by simp));have ih:=Ap l (W4 acc x) hp.1 (yJ.1 hb).2 (λy hy=>hf y (by simp[hy])) (λy hy z hz=>hp.2.2 z.lo ((yJ.1 hb).1 z hz) y hy);refine⟨ih.1,λn=>?_⟩;have e:Qz acc (x::l)=Qz (W4 acc x) l:=rfl;rw[e,ih.2 n,hp.2.1 n,Ew,or_assoc]
def Vo:Sep []:=⟨by simp,by simp⟩
def g2j{a b:List Iv}(h:a.Perm b)(n:Int):M a n↔M b n:=by simp only[M];exact⟨λ⟨x,hx,h1⟩=>⟨x,h.mem_iff.1 hx,h1⟩,λ⟨x,hx,h1⟩=>⟨x,h.mem_iff.2 hx,h1⟩⟩
def Om(l:List Iv)(hf:∀x∈l,x.lo<=x.hi):Sep (Rg l)/\∀n,M (Rg l) n↔M l n:=by have hs:=Af l;have h:=Ap (Py l) [] Vo hs.2 (λx hx=>hf x (hs.1.mem_iff.1 hx)) (by simp);refine⟨h.1,λn=>?_⟩;rw[Rg,h.2 n,Sq,false_or,g2j hs.1]
def pieces(f:Int->Bool):List Int->List Iv
 |c::d::r=>(if f c=true then [⟨c,d - 1⟩]else [])++pieces f (d::r)
 |_=>[]
def Ny(f:Int->Bool):∀(cs:List Int) (acc:List Iv),Gn f cs acc=Qz acc (pieces f cs)
 |[],acc=>rfl
 |[c],acc=>rfl
 |c::d::r,acc=>by rw[Gn,Ny f (d::r),pieces];split<;>rfl
def q0k(f:Int->Bool):∀(cs:List Int),cs.Pairwise (·<·)->(∀x∈pieces f cs,x.lo<=x.hi/\x.lo∈cs)/\Xx (pieces f cs)
 |[],_=>⟨by simp[pieces],by simp[pieces,Xx]⟩
 |[c],_=>⟨by simp[pieces],by simp[pieces,Xx]⟩
 |c::d::r,h=>by
  have ih:=q0k f (d::r) (yJ.1 h).2;have z1:=(yJ.1 h).1 d (by simp);have hc:=(yJ.1 h).1;rw[pieces];split
  ·refine⟨λx hx=>?_,yH.2 ⟨by simp,ih.2,λu hu v hv=>?_⟩⟩
   ·rcases zV.1 hx with h1|h1
    ·simp at h1;subst h1;exact⟨by simp only;omega,by simp⟩
    exact⟨(ih.1 x h1).1,vG _ (ih.1 x h1).2⟩
   simp at hu;subst hu;have:=hc v.lo (ih.1 v hv).2;simp only;omega
  refine⟨λx hx=>?_,by simpa using ih.2⟩;have h1:x∈pieces f (d::r):=by simpa using hx
  exact⟨(ih.1 x h1).1,vG _ (ih.1 x h1).2⟩
def x0f(f:Int->Bool):∀(cs:List Int),cs.Pairwise (·<·)->(∀c n,c∈cs->c<=n->(∀d∈cs,d<=n->d<=c)->f n=f c)->(∀n,(∀d∈cs,d<=n)->f n=false)->
  ∀n,M (pieces f cs) n↔(∃c∈cs,c<=n)/\f n=true
 |[],_,_,_,n=>by simp[pieces,M]
 |[c],_,h1,h2,n=>by simp only[pieces,Sq,false_iff];rintro⟨⟨d,hd,z6⟩,hf⟩;rw[h2 n λe he=>by simp at hd he;omega]at hf;exact absurd hf (by simp)
 |c::d::r,h,h1,h2,n=>by
  have hc:=(yJ.1 h).1;have hd:=(yJ.1 (yJ.1 h).2).1;have za:=hc d (by simp);have ih:=x0f f (d::r) (yJ.1 h).2
   (λc' n' z8 z7 hm=>h1 c' n' (vG _ z8) z7 λe he z1=>by
    rcases yB.1 he with rfl|he
    ·have:=hc c' z8;omega
    exact hm e he z1)
   (λn' z7=>h2 n' λe he=>by
    rcases yB.1 he with rfl|he
    ·have:=z7 d (by simp);omega
    exact z7 e he) n
  rw[pieces,Zd,ih];by_cases z6:d<=n
  ·have e1:M (if f c=true then [(⟨c,d - 1⟩:Iv)]else []) n↔False:=by
    split
    ·rw[Ew,Sq,or_false,iff_false];exact λh=>by have:=h.2;simp only at this;omega
    exact Sq n
   rw[e1,false_or];exact⟨λ⟨_,hf⟩=>⟨⟨d,by simp,z6⟩,hf⟩,λ⟨_,hf⟩=>⟨⟨d,by simp,z6⟩,hf⟩⟩
  have e2:¬ ∃e∈d::r,e<=n:=by
   rintro⟨e,he,z1⟩;rcases yB.1 he with rfl|he
   ·exact z6 z1
   have:=hd e he;omega
  simp only[e2,false_and,or_false];by_cases hcn:c<=n
  ·have e3:f n=f c:=h1 c n (by simp) hcn λe he z1=>by
    rcases yB.1 he with rfl|he
    ·exact xC _
    exact absurd ⟨e,he,z1⟩ e2
   rw[e3];by_cases hfc:f c=true
   ·rw[if_pos hfc,Ew,Sq];simp[hfc,hcn];omega
   rw[if_neg hfc,Sq];simp[hfc]
  have e4:¬ ∃e∈c::d::r,e<=n:=by
   rintro⟨e,he,z1⟩;rcases yB.1 he with rfl|he
   ·exact hcn z1
   exact e2 ⟨e,he,z1⟩
  simp only[e4,false_and,iff_false];split
  ·rw[Ew,Sq,or_false];exact λh=>hcn h.1
  exact λh=>(Sq n).1 h
section
open Go Go.Proofs
def z1u(op:Bool->Bool->Bool)(a b:List Iv):∃s n,Kg op a b= .tup [LIv s,.i n]:=by
 unfold Kg Me;split
 ·split
  ·exact⟨_,_,rfl⟩
  exact⟨[],5,rfl⟩
 exact⟨[],_,rfl⟩
attribute [local irreducible] Kg Jh Ou
def Sd(x y:Bool):Bool:=x && y
def w0o(a b:List Iv):PC prog 123 [LIv a,LIv b] (λr=>r=Kg Sd a b):=by
 refine pcB func123 results123 ntmps123 ?_;simp only[Qd];repeat(refine s_ ?_;simp)
 obtain⟨s,n,e⟩:=z1u Sd a b;refine pcL (k08 _ Sd Ck a b) ?_;simp[e];repeat(refine s_ ?_;simp)
end
section
open Go Go.Proofs
def Te:List Iv->Int->List Iv
 |[],n=>if n<=1099511627776 then [⟨n,1099511627776⟩]else []
 |x::r,n=>(if n<x.lo then [⟨n,x.lo - 1⟩]else [])++Te r (x.hi+1)
def Rk(l:List Iv):List Iv:=Te l (-1099511627776)
end
section
open Go
def x1o:∀(l:List Iv) (z:Int),z∈Pa l↔∃x∈l,z=x.lo\/z=x.hi+1
 |[],z=>by simp[Pa]
 |y::r,z=>by rw[Pa,yB,yB,x1o r z];simp[or_assoc]
def N1(zs:List Int)(hs:zs.Pairwise (·<=·)):∀m,m<=zs.length->
  (Lib.compactUpTo zs.toArray m).Pairwise (·<·)/\(∀z,z∈Lib.compactUpTo zs.toArray m↔z∈zs.take m):=by
 intro m;induction m with
 |zero=>exact λ_=>⟨by simp[Lib.compactUpTo],by simp[Lib.compactUpTo]⟩
 |succ m ih=>
  intro hm;obtain⟨h1,h2⟩:=ih (by omega);have z1:m<zs.length:=by omega
  have hg:zs.toArray[m]! =zs[m]:=by simp[z1]
  rw[Lib.compactUpTo_succ];have ht:zs.take (m+1)=zs.take m++[zs[m]]:=by rw[zR z1]
  by_cases hk:Lib.keeps zs.toArray m=true
  ·rw[if_pos hk,hg,ht];refine⟨yH.2 ⟨h1,by simp,λu hu v hv=>?_⟩,λz=>by rw[zV,zV,h2]⟩;simp at hv;subst hv;obtain⟨i,hi,rfl⟩:=yX ((h2 u).1 hu);have za:i<m:=by simp at hi;omega
   rw[tJ];have zb:zs[m]≠zs[m - 1]:=by
    simp[Lib.keeps]at hk;have z6:m≠0:=by omega
    have hk:=hk.resolve_left z6;simpa[z1,show m - 1<zs.length by omega]using hk
   have a1:zs[i]<=zs[m - 1]:=by
    rcases Nat.lt_or_ge i (m - 1)with h|h
    ·exact yK.1 hs i (m - 1) (by omega) (by omega) h
    have:i=m - 1:=by omega
    subst this;exact xC _
   have a2:zs[m - 1]<=zs[m]:=yK.1 hs (m - 1) m (by omega) (by omega) (by omega);omega
  rw[if_neg hk,yV,ht];refine⟨h1,λz=>?_⟩;rw[h2,zV];refine⟨.inl,λh=>h.elim id λh=>?_⟩;simp at h;subst h;simp only[Lib.keeps,decide_eq_true_eq,not_or]at hk;have z7:m - 1<zs.length:=by omega
  have z8:zs[m]=zs[m - 1]:=by simpa[z1,z7]using hk.2
  rw[z8];exact List.mem_take_iff_getElem.2 ⟨m - 1,by omega,rfl⟩
def q0g(l:List Iv):(Su l).Pairwise (·<·)/\∀z,z∈Su l↔∃x∈l,z=x.lo\/z=x.hi+1:=by
 have hs:(Rj (Pa l)).Pairwise (·<=·):=by have:=ur (le:=λx y:Int=>decide (x<=y)) (λa b c h1 h2=>by simp at h1 h2 |-;omega) (λa b=>by simp;omega) (Pa l);simpa[Rj]using this
 have h:=N1 _ hs _ (zS _);refine⟨h.1,λz=>?_⟩;have h2:=h.2 z;rw[zY]at h2;rw[Su,Lib.compact,h2,Rj,tF,x1o]
def Ki(l:List Iv)(cs:List Int)(h:∀x∈l,x.lo∈cs/\x.hi+1∈cs)(c n:Int)(hc:c<=n)(hm:∀d∈cs,d<=n->d<=c):Ul l n=Ul l c:=by
 rw[x_,O5,O5];constructor
 ·rintro⟨x,hx,h1,h2⟩;have:=hm _ (h x hx).1 h1;exact⟨x,hx,this,by omega⟩
 rintro⟨x,hx,h1,h2⟩;refine⟨x,hx,by omega,?_⟩;by_cases hn:x.hi+1<=n
 ·have:=hm _ (h x hx).2 hn;omega
 omega
def w11(l:List Iv)(cs:List Int)(h:∀x∈l,x.lo∈cs/\x.hi+1∈cs)(n:Int)(hm:∀d∈cs,d<=n):Ul l n=false:=by rw[Bool.eq_false_iff];intro hh;obtain⟨x,hx,h1,h2⟩:=(O5 ..).1 hh;have:=hm _ (h x hx).2;omega
def j0h(op:Bool->Bool->Bool)(h0:op false false=false)(a b:List Iv):
  Sep (Ou op a b)/\(∀n,M (Ou op a b) n↔op (Ul a n) (Ul b n)=true)/\(Ou op a b).length<=2 * (a.length+b.length):=by
 obtain⟨z6,z1⟩:=q0g (a++b);have ha:∀x∈a,x.lo∈Su (a++b)/\x.hi+1∈Su (a++b):=λx hx=>⟨(z1 _).2 ⟨x,by simp[hx],.inl rfl⟩,(z1 _).2 ⟨x,by simp[hx],.inr rfl⟩⟩
 have hb:∀x∈b,x.lo∈Su (a++b)/\x.hi+1∈Su (a++b):=λx hx=>⟨(z1 _).2 ⟨x,by simp[hx],.inl rfl⟩,(z1 _).2 ⟨x,by simp[hx],.inr rfl⟩⟩
 have hlen:(Su (a++b)).length<=2 * (a.length+b.length):=by rw[Su];have h1:=Tv (Rj (Pa (a++b)));rw[Ib,Kk,zW]at h1;exact h1
 rw[Ou,Ny];generalize Su (a++b)=cs at z6 ha hb hlen |-;have hp:=q0k (λn=>op (Ul a n) (Ul b n)) cs z6;have hM:=x0f (λn=>op (Ul a n) (Ul b n)) cs z6
  (λc n _ z7 hm=>by rw[Ki a cs ha c n z7 hm,Ki b cs hb c n z7 hm])
  (λn hn=>by rw[w11 a cs ha n hn,w11 b cs hb n hn,h0])
 have hs:=Ap _ [] Vo hp.2 (λx hx=>(hp.1 x hx).1) (by simp);refine⟨hs.1,λn=>?_,?_⟩
 ·rw[hs.2 n,Sq,false_or,hM n];refine⟨λh=>h.2,λh=>⟨?_,h⟩⟩;cases hA:Ul a n with
  |true=>obtain⟨x,hx,h1,_⟩:=(O5 ..).1 hA;exact⟨_,(ha x hx).1,h1⟩
  |false=>
   cases hB:Ul b n with
   |true=>obtain⟨x,hx,h1,_⟩:=(O5 ..).1 hB;exact⟨_,(hb x hx).1,h1⟩
   |false=>rw[hA,hB,h0]at h;exact absurd h (by simp)
 have h1:=Th (pieces (λn=>op (Ul a n) (Ul b n)) cs) [];have h2:∀(f:Int->Bool) (cs:List Int),(pieces f cs).length<=cs.length:=by
  intro f cs;induction cs with
  |nil=>simp[pieces]
  |cons c r ih=>
   cases r with
   |nil=>simp[pieces]
   |cons d r=>rw[pieces,zW,yZ];split<;>simp at ih |-<;>omega
 have:=h2 (λn=>op (Ul a n) (Ul b n)) cs;simp at h1;omega
def q04{l:List Iv}(h:Sep l)(hb:∀n,M l n-> -1099511627776<=n/\n<=1099511627776):∀x∈l,Fc x:=λx hx=>
 ⟨(E4 _).2 (hb _ ⟨x,hx,xC _,h.1 x hx⟩),(E4 _).2 (hb _ ⟨x,hx,h.1 x hx,xC _⟩)⟩
def Pc:∀(l:List Iv) (s:Int),(∀x∈l,x.lo<=x.hi/\x.hi<=1099511627776)->l.Pairwise (λx y=>x.hi+2<=y.lo)->(∀x∈l,s<=x.lo)->
  Sep (Te l s)/\(∀n,M (Te l s) n↔s<=n/\n<=1099511627776/\¬M l n)/\(Te l s).length<=l.length+1
 |[],s,_,_,_=>by
  rw[Te];split
  ·exact⟨⟨λx hx=>by simp at hx;subst hx;assumption,by simp⟩,λn=>by rw[Ew,Sq];simp[Sq],by simp⟩
  exact⟨Vo,λn=>by simp[Sq];omega,by simp⟩
 |x::l,s,hf,hp,hs=>by
  have hx:=hf x (by simp);have z7:=hs x (by simp);have z1:=(yJ.1 hp).1;obtain⟨i1,i2,i3⟩:=Pc l (x.hi+1) (λy hy=>hf y (by simp[hy])) (yJ.1 hp).2 (λy hy=>by have:=z1 y hy;omega);have z6:∀n,M l n->x.hi+2<=n:=by rintro n ⟨y,hy,h1,h2⟩;have:=z1 y hy;omega
  rw[Te];split
  ·refine⟨⟨λy hy=>?_,?_⟩,λn=>?_,by simp;omega⟩
   ·rcases zV.1 hy with h|h
    ·simp at h;subst h;simp only;omega
    exact i1.1 y h
   ·refine yH.2 ⟨by simp,i1.2,λu hu v hv=>?_⟩;simp at hu;subst hu;have:=(i2 v.lo).1 ⟨v,hv,xC _,i1.1 v hv⟩;simp only;omega
   rw[Zd,i2,Ew,Sq,Ew];by_cases hm:M l n
   ·have:=z6 n hm;simp[hm];omega
   simp only[hm,not_false_eq_true,and_true,or_false];omega
  refine⟨⟨λy hy=>i1.1 y (by simpa using hy),by simpa using i1.2⟩,λn=>?_,by simp;omega⟩;rw[vM,i2,Ew];by_cases hm:M l n
  ·simp[hm]
  simp only[hm,not_false_eq_true,and_true,or_false];omega
def O8{l:List Iv}(h:CanonL l):Sep (Rk l)/\(∀n,M (Rk l) n↔(-1099511627776<=n/\n<=1099511627776)/\¬M l n)/\(Rk l).length<=l.length+1:=by have hs:=Dg h;have hi:=Vv h;have:=Pc l (-1099511627776) (λx hx=>⟨hs.1 x hx,((E4 _).1 (hi x hx).2).2⟩) hs.2 (λx hx=>((E4 _).1 (hi x hx).1).1);exact⟨this.1,λn=>by rw[Rk,this.2.1,and_assoc],this.2.2⟩
def q1d(x y:Iv):Option Iv:=if(if x.lo<y.lo then y.lo else x.lo)<=(if y.hi<x.hi then y.hi else x.hi)then some ⟨if x.lo<y.lo then y.lo else x.lo,if y.hi<x.hi then y.hi else x.hi⟩else none
def w0h(a b:List Iv):List Iv:=a.flatMap λx=>b.filterMap (q1d x)
def My{x y z:Iv}(h:q1d x y=some z):z.lo<=z.hi/\∀n,(z.lo<=n/\n<=z.hi)↔(x.lo<=n/\n<=x.hi)/\(y.lo<=n/\n<=y.hi):=by
 unfold q1d at h;by_cases hle:(if x.lo<y.lo then y.lo else x.lo)<=(if y.hi<x.hi then y.hi else x.hi)
 ·rw[if_pos hle]at h;cases h;refine⟨hle,λn=>?_⟩;simp only;split<;>split<;>omega
 rw[if_neg hle]at h;cases h
def f2r{x y:Iv}{n:Int}(h1:x.lo<=n/\n<=x.hi)(h2:y.lo<=n/\n<=y.hi):∃z,q1d x y=some z/\z.lo<=n/\n<=z.hi:=by
 unfold q1d;have:(if x.lo<y.lo then y.lo else x.lo)<=(if y.hi<x.hi then y.hi else x.hi):=by split<;>split<;>omega
 rw[if_pos this];refine⟨_,rfl,?_,?_⟩<;>simp only<;>split<;>omega
def Zl(a b:List Iv):(∀x∈w0h a b,x.lo<=x.hi)/\∀n,M (w0h a b) n↔M a n/\M b n:=by
 constructor
 ·intro z hz;obtain⟨x,_,hz⟩:=xQ.1 hz;obtain⟨y,_,h⟩:=wH.1 hz;exact(My h).1
 intro n;constructor
 ·rintro⟨z,hz,h1⟩;obtain⟨x,hx,hz⟩:=xQ.1 hz;obtain⟨y,hy,h⟩:=wH.1 hz;have:=((My h).2 n).1 h1;exact⟨⟨x,hx,this.1⟩,⟨y,hy,this.2⟩⟩
 rintro⟨⟨x,hx,h1⟩,⟨y,hy,h2⟩⟩;obtain⟨z,hz,h3⟩:=f2r h1 h2;exact⟨z,xQ.2 ⟨x,hx,wH.2 ⟨y,hy,hz⟩⟩,h3⟩
def Iw(a b:List Iv):List Iv:=Rg (w0h a b)
def Il(a b:List Iv):Sep (Iw a b)/\∀n,M (Iw a b) n↔M a n/\M b n:=by have h:=Om (w0h a b) (Zl a b).1;exact⟨h.1,λn=>by rw[Iw,h.2,(Zl a b).2]⟩
def inter_eq(a b:List Iv):Ou Sd a b=Iw a b:=by have h1:=j0h Sd rfl a b;have h2:=Il a b;refine y05 _ _ h1.1 h2.1 λn=>?_;rw[h1.2.1,h2.2,Sd,Bool.and_eq_true,O5,O5]
end
section
open Go
def b2(b:Bool):Int:=if b=true then 1 else 0
end
section
open Go
end
section
open Go
end
section
open Go
end
abbrev Prd:=List (List Iv)
def PM(p:Prd)(t:Nat)(n:Int):Prop:=∃s,p[t]?=some s/\M s n
def inR(n:Int):Prop:= -1099511627776<=n/\n<=1099511627776
def PWf(T:Nat)(p:Prd):Prop:=p.length=T/\∀s∈p,Sep s/\∀n,M s n->inR n
def PWf.lt{T:Nat}{p:Prd}(h:PWf T p){t:Nat}{n:Int}(hm:PM p t n):t<T/\inR n:=by obtain⟨s,hs,hn⟩:=hm;exact⟨by rw[<-h.1];exact(zB.1 hs).1,(h.2 s (zJ hs)).2 n hn⟩
def Pu{T:Nat}{p q:Prd}(hp:PWf T p)(hq:PWf T q)(h:∀t n,PM p t n↔PM q t n):p=q:=by apply List.ext_getElem (by rw[hp.1,hq.1]);intro i h1 h2;refine y05 _ _ (hp.2 _ (zL h1)).1 (hq.2 _ (zL h2)).1 λn=>?_;have:=h i n;unfold PM at this;rw[zI h1,zI h2]at this;simpa using this
def Ov(t:Nat)(n:Int)(t':Nat)(n':Int):Prop:=t<t'\/t=t'/\n<n'
def Ov.irr{t:Nat}{n:Int}(h:Ov t n t n):False:=by unfold Ov at h;omega
def Ov.trans{a b c:Nat}{x y z:Int}(h:Ov a x b y)(k:Ov b y c z):Ov a x c z:=by unfold Ov at *;omega
def j2f(l:List Prd)(t:Nat)(n:Int)(t':Nat)(n':Int):Prop:=∀p∈l,PM p t n↔PM p t' n'
structure Prts (T:Nat) (l L:List Prd):Prop where
 wf:∀p∈L,PWf T p
 ne:∀p∈L,∃t n,PM p t n
 all:∀t n,t<T->inR n->∃p∈L,PM p t n
 cls:∀p∈L,∀t n,PM p t n->∀t' n',PM p t' n'↔t'<T/\inR n'/\j2f l t n t' n'
def k0h(p q:Prd):Prop:=∃t n,PM p t n/\∀t' n',PM q t' n'->Ov t n t' n'
def k0h.irr{p:Prd}(h:k0h p p):False:=by obtain⟨t,n,h1,h2⟩:=h;exact(h2 t n h1).irr
def k0h.asymm{p q:Prd}(h:k0h p q)(k:k0h q p):False:=by obtain⟨t,n,h1,h2⟩:=h;obtain⟨t',n',k1,k2⟩:=k;exact((h2 t' n' k1).trans (k2 t n h1)).irr
def Prts.same{T:Nat}{l L L':List Prd}(h:Prts T l L)(h':Prts T l L'){p:Prd}(hp:p∈L):p∈L':=by
 obtain⟨t,n,hm⟩:=h.ne p hp;obtain⟨ht,hn⟩:=(h.wf p hp).lt hm;obtain⟨q,hq,z1⟩:=h'.all t n ht hn;have:p=q:=Pu (h.wf p hp) (h'.wf q hq) λt' n'=>by rw[h.cls p hp t n hm,h'.cls q hq t n z1]
 rw[this];exact hq
def Prts.unique{T:Nat}{l L L':List Prd}(h:Prts T l L)(h':Prts T l L')(s:L.Pairwise k0h)(s':L'.Pairwise k0h):L=L':=by have z1:∀ {X:List Prd},X.Pairwise k0h->X.Nodup:=λhx=>hx.imp (λh e=>by subst e;exact h.irr);refine List.Perm.eq_of_pairwise (le:=k0h) (λa b _ _ h1 h2=>(h1.asymm h2).elim) s s' ?_;exact(ud (z1 s) (z1 s')).2 λp=>⟨h.same h',h'.same h⟩
def Prts.disj{T:Nat}{l L:List Prd}(h:Prts T l L){p q:Prd}(hp:p∈L)(hq:q∈L){t:Nat}{n:Int}(h1:PM p t n)(h2:PM q t n):p=q:=
 Pu (h.wf p hp) (h.wf q hq) λt' n'=>by rw[h.cls p hp t n h1,h.cls q hq t n h2]
def Prts.perm{T:Nat}{l L L':List Prd}(h:Prts T l L)(e:L.Perm L'):Prts T l L':=
 ⟨λp hp=>h.wf p (e.mem_iff.2 hp),λp hp=>h.ne p (e.mem_iff.2 hp),λt n a b=>by obtain⟨p,hp,hm⟩:=h.all t n a b;exact⟨p,e.mem_iff.1 hp,hm⟩,λp hp=>h.cls p (e.mem_iff.2 hp)⟩
def Wt(T:Nat):Prd:=yF T (Rk [])
def Wp(c p:Prd):Prd:=sq Iw c p
def Tt(p:Prd):Prd:=p.map Rk
def Ws(p:Prd):Bool:=p.all (·.isEmpty)
def Uj(p:Prd)(L:List Prd):List Prd:=L.flatMap λc=>(if Ws (Wp c p)then []else [Wp c p])++(if Ws (Wp c (Tt p))then []else [Wp c (Tt p)])
def Aq(T:Nat)(l:List Prd):List Prd:=l.foldl (λL p=>Uj p L) [Wt T]
def PCk(T:Nat)(p:Prd):Prop:=p.length=T/\∀s∈p,CanonL s
def PCk.wf{T:Nat}{p:Prd}(h:PCk T p):PWf T p:=⟨h.1,λs hs=>⟨Dg (h.2 s hs),λn hn=>x2g (h.2 s hs) hn⟩⟩
def S7:CanonL []:=⟨by simp,by simp,λj h=>by simp at h⟩
def D4(T t:Nat)(n:Int):PM (Wt T) t n↔t<T/\inR n:=by
 unfold PM Wt;have hg:=(O8 S7).2.1 n;constructor
 ·rintro⟨s,hs,hm⟩;rw[vF]at hs;split at hs
  ·cases hs;exact⟨by assumption,(hg.1 hm).1⟩
  cases hs
 rintro⟨h1,h2⟩;exact⟨Rk [],by rw[vF,if_pos h1],hg.2 ⟨h2,by simp[M]⟩⟩
def H6(T:Nat):PWf T (Wt T):=⟨by simp[Wt],λs hs=>by
 obtain rfl:=vQ hs;exact⟨(O8 S7).1,λn hn=>(((O8 S7).2.1 n).1 hn).1⟩⟩
def Er{T:Nat}{c p:Prd}(hc:c.length=T)(hp:p.length=T)(t:Nat)(n:Int):PM (Wp c p) t n↔PM c t n/\PM p t n:=by
 unfold PM Wp;constructor
 ·rintro⟨s,hs,hm⟩;rw[vC]at hs;cases h1:c[t]? with
  |none=>rw[h1]at hs;simp at hs
  |some a=>
   cases h2:p[t]? with
   |none=>rw[h1,h2]at hs;simp at hs
   |some b=>rw[h1,h2]at hs;simp at hs;subst hs;have:=((Il a b).2 n).1 hm;exact⟨⟨a,rfl,this.1⟩,⟨b,rfl,this.2⟩⟩
 rintro⟨⟨a,h1,m1⟩,⟨b,h2,m2⟩⟩;exact⟨Iw a b,by rw[vC,h1,h2],((Il a b).2 n).2 ⟨m1,m2⟩⟩
def Ta{T:Nat}{c p:Prd}(hc:PWf T c)(hp:p.length=T):PWf T (Wp c p):=by
 refine⟨by simp[Wp,hc.1,hp],λs hs=>?_⟩;obtain⟨i,hi⟩:=yO.1 hs;unfold Wp at hi;rw[vC]at hi;cases h1:c[i]? with
 |none=>rw[h1]at hi;simp at hi
 |some a=>
  cases h2:p[i]? with
  |none=>rw[h1,h2]at hi;simp at hi
  |some b=>rw[h1,h2]at hi;simp at hi;subst hi;exact⟨(Il a b).1,λn hn=>(hc.2 a (zJ h1)).2 n (((Il a b).2 n).1 hn).1⟩
def Bm{T:Nat}{p:Prd}(hp:PCk T p)(t:Nat)(n:Int):PM (Tt p) t n↔(t<T/\inR n)/\¬PM p t n:=by
 unfold PM Tt;rw[zU];constructor
 ·rintro⟨s,hs,hm⟩;obtain⟨a,ha,rfl⟩:=zQ.1 hs;have hg:=((O8 (hp.2 a (zJ ha))).2.1 n).1 hm;refine⟨⟨by rw[<-hp.1];exact(zB.1 ha).1,hg.1⟩,?_⟩;rintro⟨b,hb,z1⟩;rw[ha]at hb;cases hb;exact hg.2 z1
 rintro⟨⟨h1,h2⟩,h3⟩;have hl:t<p.length:=by rw[hp.1];exact h1
 refine⟨Rk p[t],by rw[zI hl];rfl,((O8 (hp.2 _ (zL hl))).2.1 n).2 ⟨h2,λhm=>h3 ⟨_,zI hl,hm⟩⟩⟩
def Rv{T:Nat}{p:Prd}(h:PWf T p):Ws p=true↔∀t n,¬PM p t n:=by
 unfold Ws;rw[zX];constructor
 ·rintro hv t n ⟨s,hs,hm⟩;have:=hv s (zJ hs);rw[tV]at this;subst this;simp[M]at hm
 intro hv s hs;obtain⟨i,hi⟩:=yO.1 hs;cases s with
 |nil=>rfl
 |cons x s=>exact absurd ⟨_,hi,(Ew ..).2 (.inl ⟨xC _,(h.2 _ hs).1.1 x (by simp)⟩)⟩ (hv i x.lo)
def X2{T:Nat}{l L:List Prd}{p:Prd}(h:Prts T l L)(hp:PCk T p):Prts T (l++[p]) (Uj p L):=by
 have z6:(Tt p).length=T:=by simp[Tt,hp.1]
 have z1:∀q,q∈Uj p L↔∃c∈L,((q=Wp c p)\/(q=Wp c (Tt p)))/\Ws q=false:=by
  intro q;unfold Uj;rw[xQ];constructor
  ·rintro⟨c,hc,hq⟩;refine⟨c,hc,?_⟩;rcases zV.1 hq with hq|hq
   ·split at hq
    ·cases hq
    rename_i hv;obtain rfl:=zP.1 hq;exact⟨.inl rfl,by simpa using hv⟩
   split at hq
   ·cases hq
   rename_i hv;obtain rfl:=zP.1 hq;exact⟨.inr rfl,by simpa using hv⟩
  rintro⟨c,hc,hq,hv⟩;refine⟨c,hc,zV.2 ?_⟩;rcases hq with rfl|rfl
  ·left;rw[if_neg (by rw[hv];decide)];simp
  right;rw[if_neg (by rw[hv];decide)];simp
 have z7:∀q∈Uj p L,PWf T q:=λq hq=>by
  obtain⟨c,hc,rfl|rfl,_⟩:=(z1 q).1 hq
  ·exact Ta (h.wf c hc) hp.1
  exact Ta (h.wf c hc) z6
 have zb:∀q∈Uj p L,∃t n,PM q t n:=λq hq=>by
  obtain⟨c,hc,_,hv⟩:=(z1 q).1 hq;by_cases hx:∃t n,PM q t n
  ·exact hx
  exfalso;have:Ws q=true:=(Rv (z7 q hq)).2 λt n hm=>hx ⟨t,n,hm⟩;rw[this]at hv;cases hv
 refine⟨z7,zb,λt n ht hn=>?_,λq hq t n hm t' n'=>?_⟩
 ·obtain⟨c,hc,z8⟩:=h.all t n ht hn;have hv:∀q,(q=Wp c p\/q=Wp c (Tt p))->PM q t n->q∈Uj p L:=λq hq hm=>(z1 q).2 ⟨c,hc,hq,by
   have hw:PWf T q:=by
    rcases hq with rfl|rfl
    ·exact Ta (h.wf c hc) hp.1
    exact Ta (h.wf c hc) z6
   cases hvq:Ws q with
   |false=>rfl
   |true=>exact absurd hm ((Rv hw).1 hvq t n)⟩
  by_cases za:PM p t n
  ·have:=(Er (h.wf c hc).1 hp.1 t n).2 ⟨z8,za⟩;exact⟨_,hv _ (.inl rfl) this,this⟩
  have:=(Er (h.wf c hc).1 z6 t n).2 ⟨z8,(Bm hp t n).2 ⟨⟨ht,hn⟩,za⟩⟩;exact⟨_,hv _ (.inr rfl) this,this⟩
 obtain⟨c,hc,zc,_⟩:=(z1 q).1 hq;have zd:j2f (l++[p]) t n t' n'↔j2f l t n t' n'/\(PM p t n↔PM p t' n'):=by
  constructor
  ·exact λhs=>⟨λr hr=>hs r (by simp[hr]),hs p (by simp)⟩
  rintro⟨h1,h2⟩ r hr;rcases zV.1 hr with hr|hr
  ·exact h1 r hr
  obtain rfl:=zP.1 hr;exact h2
 rw[zd];rcases zc with rfl|rfl
 ·obtain⟨m1,m2⟩:=(Er (h.wf c hc).1 hp.1 t n).1 hm;rw[Er (h.wf c hc).1 hp.1,h.cls c hc t n m1];constructor
  ·rintro⟨⟨h1,h2,h3⟩,h4⟩;exact⟨h1,h2,h3,λ_=>h4,λ_=>m2⟩
  rintro⟨h1,h2,h3,h4⟩;exact⟨⟨h1,h2,h3⟩,h4.1 m2⟩
 obtain⟨m1,m2⟩:=(Er (h.wf c hc).1 z6 t n).1 hm;have m3:=((Bm hp t n).1 m2).2;rw[Er (h.wf c hc).1 z6,h.cls c hc t n m1,Bm hp];constructor
 ·rintro⟨⟨h1,h2,h3⟩,h4⟩;exact⟨h1,h2,h3,λh=>absurd h m3,λh=>absurd h h4.2⟩
 rintro⟨h1,h2,h3,h4⟩;exact⟨⟨h1,h2,h3⟩,⟨h1,h2⟩,λh=>m3 (h4.2 h)⟩
def Z3(T:Nat)(hT:0<T):Prts T [] [Wt T]:=by
 refine⟨λp hp=>?_,λp hp=>?_,λt n ht hn=>?_,λp hp t n hm t' n'=>?_⟩
 ·obtain rfl:=zP.1 hp;exact H6 T
 ·obtain rfl:=zP.1 hp;exact⟨0,0,(D4 T 0 0).2 ⟨hT,by unfold inR;omega⟩⟩
 ·exact⟨_,List.mem_singleton_self _,(D4 T t n).2 ⟨ht,hn⟩⟩
 obtain rfl:=zP.1 hp;rw[D4];exact⟨λh=>⟨h.1,h.2,λr hr=>by cases hr⟩,λh=>⟨h.1,h.2.1⟩⟩
def M9{T:Nat}(hT:0<T){l:List Prd}(hl:∀p∈l,PCk T p):Prts T l (Aq T l):=by
 have key:∀(r d L:List Prd),Prts T d L->(∀p∈r,PCk T p)->Prts T (d++r) (r.foldl (λL p=>Uj p L) L):=by
  intro r;induction r with
  |nil=>intro d L h _;simpa using h
  |cons p r ih=>intro d L h hr;rw[xV];have:=ih (d++[p]) (Uj p L) (X2 h (hr p (by simp))) (λq hq=>hr q (by simp[hq]));simpa using this
 have:=key l [] [Wt T] (Z3 T hT) hl;simpa[Aq]using this
def Qu:Prd->Nat->Nat×Int
 |[],_=>(0,0)
 |(x::_)::_,i=>(i,x.lo)
 |[]::p,i=>Qu p (i+1)
def Ma(a b:Nat×Int):Bool:=decide (a.1<b.1) || (decide (a.1=b.1) && decide (a.2<b.2))
def Tp(a b:Nat×Int):Ma a b=true↔Ov a.1 a.2 b.1 b.2:=by simp[Ma,Ov]
def w0k:∀(p:Prd) (i:Nat),(∀s∈p,Sep s)->(∃s∈p,s≠[])->∃t x r,p[t]?=some (x::r)/\Qu p i=(i+t,x.lo)/\∀j,j<t->p[j]?=some []
 |[],_,_,⟨s,hs,_⟩=>by cases hs
 |(x::r)::p,i,_,_=>⟨0,x,r,rfl,rfl,λj hj=>by omega⟩
 |[]::p,i,h,⟨s,hs,hn⟩=>by
  have z1:s∈p:=by
   rcases yB.1 hs with rfl|hs
   ·exact absurd rfl hn
   exact hs
  obtain⟨t,x,r,h1,h2,h3⟩:=w0k p (i+1) (λs hs=>h s (by simp[hs])) ⟨s,z1,hn⟩;refine⟨t+1,x,r,by simpa using h1,by rw[Qu,h2];congr 1;omega,λj hj=>?_⟩;cases j with
  |zero=>rfl
  |succ j=>simpa using h3 j (by omega)
def El{T:Nat}{p:Prd}(h:PWf T p)(hn:∃t n,PM p t n):PM p (Qu p 0).1 (Qu p 0).2/\∀t n,PM p t n->((Qu p 0).1=t/\(Qu p 0).2=n)\/Ov (Qu p 0).1 (Qu p 0).2 t n:=by
 obtain⟨t0,n0,s0,z1,m0⟩:=hn;have z6:s0≠[]:=λe=>by subst e;simp[M]at m0
 obtain⟨t,x,r,h1,h2,h3⟩:=w0k p 0 (λs hs=>(h.2 s hs).1) ⟨s0,zJ z1,z6⟩;rw[Nat.zero_add]at h2;rw[h2];have hx:=(h.2 _ (zJ h1)).1;refine⟨⟨_,h1,(Ew ..).2 (.inl ⟨xC _,hx.1 x (by simp)⟩)⟩,λt' n' hm=>?_⟩;obtain⟨s,hs,hm⟩:=hm;simp only;rcases wR t' t with hlt|rfl|hgt
 ·rw[h3 t' hlt]at hs;cases hs;simp[M]at hm
 ·rw[h1]at hs;cases hs;have:=hx.lowc hm;unfold Ov;omega
 exact .inr (.inl hgt)
def Vp{T:Nat}{p q:Prd}(hp:PWf T p)(z1:∃t n,PM p t n)(hq:PWf T q)(z6:∃t n,PM q t n)(h:Ov (Qu p 0).1 (Qu p 0).2 (Qu q 0).1 (Qu q 0).2):k0h p q:=
 ⟨_,_,(El hp z1).1,λt n hm=>by
  rcases(El hq z6).2 t n hm with⟨e1,e2⟩|h2
  ·rw[<-e1,<-e2];exact h
  exact h.trans h2⟩
def u1z(s:List Prd)(x:Prd):Nat->Nat
 |0=>0
 |j+1=>match s[j]? with
  |some y=>if Ma (Qu x 0) (Qu y 0)=true then u1z s x j else j+1
  |none=>j+1
def u10(s:List Prd)(x:Prd):List Prd:=s.take (u1z s x s.length)++x::s.drop (u1z s x s.length)
def c1t(L:List Prd):List Prd:=L.foldl u10 []
def q0r(s:List Prd)(x:Prd):∀j,j<=s.length->u1z s x j<=j/\(∀i,u1z s x j<=i->i<j->∀h:i<s.length,Ma (Qu x 0) (Qu s[i] 0)=true)/\(∀i,i+1=u1z s x j->∀h:i<s.length,Ma (Qu x 0) (Qu s[i] 0)=false)
 |0,_=>⟨zS _,λi _ h=>by omega,λi h=>by simp[u1z]at h⟩
 |j+1,hj=>by
  have z1:j<s.length:=by omega
  rw[u1z,zI z1];simp only;by_cases hb:Ma (Qu x 0) (Qu s[j] 0)=true
  ·rw[if_pos hb];obtain⟨h1,h2,h3⟩:=q0r s x j (by omega);refine⟨by omega,λi hi z6 hl=>?_,h3⟩;by_cases hij:i=j
   ·subst hij;exact hb
   exact h2 i hi (by omega) hl
  rw[if_neg hb];refine⟨zS _,λi hi z6=>by omega,λi hi hl=>?_⟩;have:i=j:=by omega
  subst this;simpa using hb
def z1g(s:List Prd)(x:Prd):(u10 s x).Perm (x::s):=by unfold u10;refine vO.trans ?_;rw[xI]
def Nf(p q:Prd):Prop:=Ov (Qu p 0).1 (Qu p 0).2 (Qu q 0).1 (Qu q 0).2
def z0u{s:List Prd}{x:Prd}(hs:s.Pairwise Nf)(hd:∀y∈s,Qu y 0≠Qu x 0):(u10 s x).Pairwise Nf:=by
 obtain⟨h1,h2,h3⟩:=q0r s x s.length (zS _);unfold u10;generalize u1z s x s.length=k at *
 have z1:=hs;rw[<-xI k s]at z1;obtain⟨p1,p2,p3⟩:=yH.1 z1;have z7:∀y∈s.drop k,Nf x y:=λy hy=>by obtain⟨i,hi⟩:=yO.1 hy;rw[List.getElem?_drop]at hi;obtain⟨hl,e⟩:=zB.1 hi;have:=h2 (k+i) (by omega) hl hl;rw[e]at this;exact(Tp _ _).1 this
 have z8:∀i,i+1=k->∀h:i<s.length,Nf s[i] x:=λi hi hl=>by
  have h4:=h3 i hi hl;have zc:=hd s[i] (zL hl);unfold Nf;rcases wR (Qu s[i] 0).1 (Qu x 0).1 with a|a|a
  ·exact .inl a
  ·rcases tU (Qu s[i] 0).2 (Qu x 0).2 with b|b|b
   ·exact .inr ⟨a,b⟩
   ·exact absurd (u6 a b) zc
   have:Ma (Qu x 0) (Qu s[i] 0)=true:=(Tp _ _).2 (.inr ⟨a.symm,b⟩);rw[this]at h4;cases h4
  have:Ma (Qu x 0) (Qu s[i] 0)=true:=(Tp _ _).2 (.inl a);rw[this]at h4;cases h4
 have z6:∀y∈s.take k,Nf y x:=λy hy=>by
  obtain⟨i,hi⟩:=yO.1 hy;rw[List.getElem?_take]at hi;split at hi
  ·rename_i zd;obtain⟨hl,e⟩:=zB.1 hi;obtain⟨k',rfl⟩:∃k',k=k'+1:=⟨k - 1,by omega⟩
   have za:k'<s.length:=by omega
   have zb:=z8 k' rfl za;by_cases hij:i=k'
   ·subst hij;rw[<-e];exact zb
   have:=yK.1 hs i k' hl za (by omega);rw[e]at this;exact Ov.trans this zb
  cases hi
 refine yH.2 ⟨p1,yJ.2 ⟨z7,p2⟩,λy hy z hz=>?_⟩;rcases yB.1 hz with rfl|hz
 ·exact z6 y hy
 exact p3 y hy z hz
def g05(L:List Prd)(hd:L.Pairwise (λp q=>Qu p 0≠Qu q 0)):(c1t L).Perm L/\(c1t L).Pairwise Nf:=by
 have key:∀(r s:List Prd),s.Pairwise Nf->(s++r).Pairwise (λp q=>Qu p 0≠Qu q 0)->(r.foldl u10 s).Perm (s++r)/\(r.foldl u10 s).Pairwise Nf:=by
  intro r;induction r with
  |nil=>intro s h _;simpa using h
  |cons x r ih=>intro s h hd;obtain⟨d1,d2,d3⟩:=yH.1 hd;have hi:=z0u h (λy hy=>d3 y hy x (by simp));have hp:=z1g s x;have z1:(u10 s x++r).Perm (s++x::r):=(hp.append_right r).trans (vO (l₁:=s) (a:=x) (l₂:=r)).symm;have z6:(u10 s x++r).Pairwise (λp q=>Qu p 0≠Qu q 0):=(z1.pairwise_iff (λh=>Ne.symm h)).2 hd;obtain⟨i1,i2⟩:=ih (u10 s x) hi z6;rw[xV];exact⟨i1.trans z1,i2⟩
 have h:=key L [] List.Pairwise.nil (by simpa using hd);unfold c1t;simpa using h
def Q4(T:Nat)(l:List Prd):List Prd:=c1t (Aq T l)
def q0u{T:Nat}{l L:List Prd}{p:Prd}(h:Prts T l L)(hp:PCk T p)(hd:L.Pairwise (λa b=>∀t n,PM a t n->¬PM b t n)):(Uj p L).Pairwise (λa b=>∀t n,PM a t n->¬PM b t n):=by
 have z7:(Tt p).length=T:=by simp[Tt,hp.1]
 have z8:∀c∈L,∀q∈(if Ws (Wp c p)then []else [Wp c p])++(if Ws (Wp c (Tt p))then []else [Wp c (Tt p)]),∀t n,PM q t n->PM c t n:=by
  intro c hc q hq t n hm;rcases zV.1 hq with hq|hq
  ·split at hq
   ·cases hq
   obtain rfl:=zP.1 hq;exact((Er (h.wf c hc).1 hp.1 t n).1 hm).1
  split at hq
  ·cases hq
  obtain rfl:=zP.1 hq;exact((Er (h.wf c hc).1 z7 t n).1 hm).1
 unfold Uj;rw[vH];refine⟨λc hc=>?_,?_⟩
 ·refine yH.2 ⟨by split<;>simp,by split<;>simp,λa ha b hb t n z1 z6=>?_⟩;split at ha
  ·cases ha
  split at hb
  ·cases hb
  obtain rfl:=zP.1 ha;obtain rfl:=zP.1 hb;exact((Bm hp t n).1 ((Er (h.wf c hc).1 z7 t n).1 z6).2).2 ((Er (h.wf c hc).1 hp.1 t n).1 z1).2
 exact hd.imp_of_mem (λ{a b} ha hb hab x hx y hy t n z1 z6=>hab t n (z8 a ha x hx t n z1) (z8 b hb y hy t n z6))
def N2{T:Nat}(hT:0<T){l:List Prd}(hl:∀p∈l,PCk T p):(Aq T l).Pairwise (λa b=>∀t n,PM a t n->¬PM b t n):=by
 have key:∀(r d L:List Prd),Prts T d L->(∀p∈r,PCk T p)->L.Pairwise (λa b=>∀t n,PM a t n->¬PM b t n)->(r.foldl (λL p=>Uj p L) L).Pairwise (λa b=>∀t n,PM a t n->¬PM b t n):=by
  intro r;induction r with
  |nil=>intro d L _ _ h;simpa using h
  |cons p r ih=>intro d L h hr hd;rw[xV];exact ih (d++[p]) (Uj p L) (X2 h (hr p (by simp))) (λq hq=>hr q (by simp[hq])) (q0u h (hr p (by simp)) hd)
 exact key l [] [Wt T] (Z3 T hT) hl (by simp)
def Of{T:Nat}(hT:0<T){l:List Prd}(hl:∀p∈l,PCk T p):Prts T l (Q4 T l)/\(Q4 T l).Pairwise k0h:=by
 have h:=M9 hT hl;have hd:(Aq T l).Pairwise (λp q=>Qu p 0≠Qu q 0):=(N2 hT hl).imp_of_mem (λ{a b} ha hb hab e=>by
  have h1:=(El (h.wf a ha) (h.ne a ha)).1;have h2:=(El (h.wf b hb) (h.ne b hb)).1;rw[<-e]at h2;exact hab _ _ h1 h2)
 obtain⟨h1,h2⟩:=g05 _ hd;have h3:Prts T l (Q4 T l):=h.perm h1.symm;refine⟨h3,?_⟩;exact h2.imp_of_mem (λ{a b} ha hb hab=>Vp (h3.wf a ha) (h3.ne a ha) (h3.wf b hb) (h3.ne b hb) hab)
def Qq(l:List Prd)(i:Nat):List Iv:=l.flatMap λp=>p.getD i []
def Wm(l:List Prd)(i:Nat):List Int:=Su (⟨-1099511627776,1099511627776⟩::Qq l i)
def Ua:List Int->List Iv
 |a::b::r=>⟨a,b - 1⟩::Ua (b::r)
 |_=>[]
def Oz(l:List Prd)(i:Nat)(n:Int):List Bool:=l.map λp=>Ul (p.getD i []) n
def Ob(p:Prd)(i:Nat)(x:Iv):Prd:=p.set i (p.getD i []++[x])
def Ue(T i:Nat)(sg:List Bool)(x:Iv):List (List Bool×Prd)->List (List Bool×Prd)
 |[]=>[(sg,Ob (yF T []) i x)]
 |(s,p)::r=>if s=sg then(s,Ob p i x)::r else(s,p)::Ue T i sg x r
def Cb(T:Nat)(l:List Prd):List (Nat×Iv):=(yQ T).flatMap λi=>(Ua (Wm l i)).map λx=>(i,x)
def A7(T:Nat)(l:List Prd):List (List Bool×Prd):=(Cb T l).foldl (λst a=>Ue T a.1 (Oz l a.1 a.2.lo) a.2 st) []
def Rz(p:Prd):Prd:=p.map (Qz [])
def Ro(T:Nat)(l:List Prd):List Prd:=(A7 T l).map λg=>Rz g.2
def k2f(a:Nat×Iv)(t:Nat)(n:Int):Prop:=t=a.1/\a.2.lo<=n/\n<=a.2.hi
structure GInv (T:Nat) (sig:Nat->Int->List Bool) (D:Nat->Int->Prop) (st:List (List Bool×Prd)):Prop where
 len:∀g∈st,g.2.length=T
 asc:∀g∈st,∀s∈g.2,(∀x∈s,x.lo<=x.hi)/\s.Pairwise (λx y=>x.hi<y.lo)
 mem:∀g∈st,∀t n,PM g.2 t n↔D t n/\sig t n=g.1
 ne:∀g∈st,∃t n,PM g.2 t n
 nd:st.Pairwise (λg h=>g.1≠h.1)
 all:∀t n,D t n->∃g∈st,g.1=sig t n
 ord:st.Pairwise (λg h=>∃t n,PM g.2 t n/\∀t' n',PM h.2 t' n'->Ov t n t' n')
def Ef{p:Prd}{i:Nat}(h:i<p.length):p.getD i []=p[i]:=by simp[yL,h]
def z2d{T:Nat}{p:Prd}(hp:p.length=T){i:Nat}(hi:i<T)(x:Iv)(t:Nat)(n:Int):PM (Ob p i x) t n↔PM p t n\/k2f (i,x) t n:=by
 unfold PM Ob k2f;have z1:i<p.length:=by omega
 rw[Ef z1];by_cases ht:t=i
 ·subst ht;rw[zK z1,zI z1];constructor
  ·rintro⟨s,hs,hm⟩;cases hs;rcases(Zd ..).1 hm with h|h
   ·exact .inl ⟨_,rfl,h⟩
   rcases(Ew ..).1 h with h|h
   ·exact .inr ⟨rfl,h⟩
   simp[M]at h
  rintro(⟨s,hs,hm⟩|⟨_,h⟩)
  ·cases hs;exact⟨_,rfl,(Zd ..).2 (.inl hm)⟩
  exact⟨_,rfl,(Zd ..).2 (.inr ((Ew ..).2 (.inl h)))⟩
 rw[zE (by omega)];constructor
 ·exact λh=> .inl h
 rintro(h|⟨h,_⟩)
 ·exact h
 exact absurd h ht
def d0s{T:Nat}{p:Prd}(hp:p.length=T){i:Nat}(hi:i<T){x:Iv}(hx:x.lo<=x.hi)(h:∀s∈p,(∀y∈s,y.lo<=y.hi)/\s.Pairwise (λy z=>y.hi<z.lo))(z6:∀t n,PM p t n->Ov t n i x.lo):
  ∀s∈Ob p i x,(∀y∈s,y.lo<=y.hi)/\s.Pairwise (λy z=>y.hi<z.lo):=by
 intro s hs;have z1:i<p.length:=by omega
 rcases List.mem_or_eq_of_mem_set hs with hs|rfl
 ·exact h s hs
 rw[Ef z1];obtain⟨h1,h2⟩:=h _ (zL z1);refine⟨λy hy=>?_,yH.2 ⟨h2,by simp,λy hy z hz=>?_⟩⟩
 ·rcases zV.1 hy with hy|hy
  ·exact h1 y hy
  obtain rfl:=zP.1 hy;exact hx
 obtain rfl:=zP.1 hz;have:=z6 i y.hi ⟨_,zI z1,y,hy,h1 y hy,xC _⟩;unfold Ov at this;omega
def Ar{T i:Nat}{sg:List Bool}{x:Iv}:∀ {st:List (List Bool×Prd)},(∀g∈st,g.1≠sg)->Ue T i sg x st=st++[(sg,Ob (yF T []) i x)]
 |[],_=>rfl
 |(s,p)::r,h=>by rw[Ue,if_neg (h (s,p) (by simp)),Ar (λg hg=>h g (by simp[hg]))];rfl
def Fj{T i:Nat}{sg:List Bool}{x:Iv}:∀ {st:List (List Bool×Prd)},(∃g∈st,g.1=sg)->∃a p b,st=a++(sg,p)::b/\(∀g∈a,g.1≠sg)/\Ue T i sg x st=a++(sg,Ob p i x)::b
 |[],⟨g,hg,_⟩=>by cases hg
 |(s,p)::r,⟨g,hg,he⟩=>by
  by_cases hs:s=sg
  ·subst hs;exact⟨[],p,r,rfl,by simp,by rw[Ue,if_pos rfl];rfl⟩
  have z1:g∈r:=by
   rcases yB.1 hg with rfl|hg
   ·exact absurd he hs
   exact hg
  obtain⟨a,q,b,h1,h2,h3⟩:=Fj (T:=T) (i:=i) (x:=x) ⟨g,z1,he⟩;refine⟨(s,p)::a,q,b,by rw[h1];rfl,λg hg=>?_,by rw[Ue,if_neg hs,h3];rfl⟩;rcases yB.1 hg with rfl|hg
  ·exact hs
  exact h2 g hg
def Ci(T t:Nat)(n:Int):¬PM (yF T []) t n:=by rintro⟨s,hs,hm⟩;obtain rfl:=vQ (zJ hs);simp[M]at hm
def GInv.step{T:Nat}{sig:Nat->Int->List Bool}{D:Nat->Int->Prop}{st:List (List Bool×Prd)}(h:GInv T sig D st){i:Nat}{x:Iv}(hi:i<T)(hx:x.lo<=x.hi)(hc:∀n,x.lo<=n->n<=x.hi->sig i n=sig i x.lo)(hD:∀t n,D t n->∀n',x.lo<=n'->n'<=x.hi->Ov t n i n'):
  GInv T sig (λt n=>D t n\/k2f (i,x) t n) (Ue T i (sig i x.lo) x st):=by
 have z7:∀t n,k2f (i,x) t n->sig t n=sig i x.lo:=λt n hp=>by obtain⟨rfl,h1,h2⟩:=hp;exact hc n h1 h2
 have zb:∀t n,D t n->∀t' n',k2f (i,x) t' n'->Ov t n t' n':=λt n hd t' n' hp=>by obtain⟨rfl,h1,h2⟩:=hp;exact hD t n hd n' h1 h2
 have zc:k2f (i,x) i x.lo:=⟨rfl,xC _,hx⟩
 by_cases hit:∃g∈st,g.1=sig i x.lo
 ·obtain⟨a,p,b,h1,h2,h3⟩:=Fj (T:=T) (i:=i) (x:=x) hit;rw[h3];subst h1;generalize zh:sig i x.lo=s0 at *
  have za:(s0,p)∈a++(s0,p)::b:=by simp
  have zd:=h.mem _ za;have hlen:=h.len _ za;have zf:=h.nd;obtain⟨n1,n2,n3⟩:=yH.1 zf;obtain⟨n4,n5⟩:=yJ.1 n2;obtain⟨o1,o2,o3⟩:=yH.1 h.ord;obtain⟨o4,o5⟩:=yJ.1 o2;have z1:=λt n=>z2d hlen hi x t n;have hold:∀g∈a++(s0,Ob p i x)::b,(g∈a++(s0,p)::b/\g.1≠s0)\/g=(s0,Ob p i x):=λg hg=>by
   rcases zV.1 hg with hg|hg
   ·exact .inl ⟨by simp[hg],h2 g hg⟩
   rcases yB.1 hg with rfl|hg
   ·exact .inr rfl
   exact .inl ⟨by simp[hg],(n4 g hg).symm⟩
  refine⟨λg hg=>?_,λg hg=>?_,λg hg t n=>?_,λg hg=>?_,?_,λt n hd=>?_,?_⟩
  ·rcases hold g hg with⟨hg,_⟩|rfl
   ·exact h.len g hg
   simp[Ob,hlen]
  ·rcases hold g hg with⟨hg,_⟩|rfl
   ·exact h.asc g hg
   exact d0s hlen hi hx (h.asc _ za) (λt n hm=>hD t n ((zd t n).1 hm).1 x.lo (xC _) hx)
  ·rcases hold g hg with⟨hg,zg⟩|rfl
   ·rw[h.mem g hg t n];constructor
    ·exact λhh=>⟨.inl hh.1,hh.2⟩
    rintro⟨hd|hd,hs⟩
    ·exact⟨hd,hs⟩
    exact absurd (by rw[<-hs,z7 t n hd]) zg
   rw[z1,zd];constructor
   ·rintro(⟨hd,hs⟩|hd)
    ·exact⟨.inl hd,hs⟩
    exact⟨.inr hd,z7 t n hd⟩
   rintro⟨hd|hd,hs⟩
   ·exact .inl ⟨hd,hs⟩
   exact .inr hd
  ·rcases hold g hg with⟨hg,_⟩|rfl
   ·exact h.ne g hg
   exact⟨i,x.lo,(z1 i x.lo).2 (.inr zc)⟩
  ·exact yH.2 ⟨n1,yJ.2 ⟨λg hg=>n4 g hg,n5⟩,λg hg k hk=>by
    rcases yB.1 hk with rfl|hk
    ·exact h2 g hg
    exact n3 g hg k (by simp[hk])⟩
  ·rcases hd with hd|hd
   ·obtain⟨g,hg,he⟩:=h.all t n hd;rcases zV.1 hg with hg|hg
    ·exact⟨g,by simp[hg],he⟩
    rcases yB.1 hg with rfl|hg
    ·exact⟨(s0,Ob p i x),by simp,he⟩
    exact⟨g,by simp[hg],he⟩
   exact⟨(s0,Ob p i x),by simp,(z7 t n hd).symm⟩
  refine yH.2 ⟨o1,yJ.2 ⟨λg hg=>?_,o5⟩,λg hg k hk=>?_⟩
  ·obtain⟨t,n,e1,e2⟩:=o4 g hg;exact⟨t,n,(z1 t n).2 (.inl e1),e2⟩
  rcases yB.1 hk with rfl|hk
  ·obtain⟨t,n,e1,e2⟩:=o3 g hg (s0,p) (by simp);refine⟨t,n,e1,λt' n' hm=>?_⟩;rcases(z1 t' n').1 hm with hm|hm
   ·exact e2 t' n' hm
   exact zb t n ((h.mem g (by simp[hg]) t n).1 e1).1 t' n' hm
  exact o3 g hg k (by simp[hk])
 have z8:∀g∈st,g.1≠sig i x.lo:=λg hg he=>hit ⟨g,hg,he⟩;rw[Ar z8];have ze:(yF T ([]:List Iv)).length=T:=by simp
 have z1:=λt n=>z2d ze hi x t n;have z6:∀g∈st++[(sig i x.lo,Ob (yF T []) i x)],g∈st\/g=(sig i x.lo,Ob (yF T []) i x):=λg hg=>by
  rcases zV.1 hg with hg|hg
  ·exact .inl hg
  exact .inr (zP.1 hg)
 refine⟨λg hg=>?_,λg hg=>?_,λg hg t n=>?_,λg hg=>?_,?_,λt n hd=>?_,?_⟩
 ·rcases z6 g hg with hg|rfl
  ·exact h.len g hg
  simp[Ob]
 ·rcases z6 g hg with hg|rfl
  ·exact h.asc g hg
  exact d0s ze hi hx (λs hs=>by obtain rfl:=vQ hs;simp) (λt n hm=>absurd hm (Ci T t n))
 ·rcases z6 g hg with hg|rfl
  ·rw[h.mem g hg t n];constructor
   ·exact λhh=>⟨.inl hh.1,hh.2⟩
   rintro⟨hd|hd,hs⟩
   ·exact⟨hd,hs⟩
   exact absurd (by rw[<-hs,z7 t n hd]) (z8 g hg)
  rw[z1];constructor
  ·rintro(hm|hd)
   ·exact absurd hm (Ci T t n)
   exact⟨.inr hd,z7 t n hd⟩
  rintro⟨hd|hd,hs⟩
  ·obtain⟨g,hg,he⟩:=h.all t n hd;exact absurd (he.trans hs) (z8 g hg)
  exact .inr hd
 ·rcases z6 g hg with hg|rfl
  ·exact h.ne g hg
  exact⟨i,x.lo,(z1 i x.lo).2 (.inr zc)⟩
 ·exact yH.2 ⟨h.nd,by simp,λg hg k hk=>by obtain rfl:=zP.1 hk;exact z8 g hg⟩
 ·rcases hd with hd|hd
  ·obtain⟨g,hg,he⟩:=h.all t n hd;exact⟨g,by simp[hg],he⟩
  exact⟨(sig i x.lo,Ob (yF T []) i x),by simp,(z7 t n hd).symm⟩
 refine yH.2 ⟨h.ord,by simp,λg hg k hk=>?_⟩;obtain rfl:=zP.1 hk;obtain⟨t,n,e1⟩:=h.ne g hg;refine⟨t,n,e1,λt' n' hm=>?_⟩;rcases(z1 t' n').1 hm with hm|hm
 ·exact absurd hm (Ci T t' n')
 exact zb t n ((h.mem g hg t n).1 e1).1 t' n' hm
def Dd:∀(cs:List Int),cs.Pairwise (·<·)->∀x∈Ua cs,x.lo<=x.hi/\x.lo∈cs/\x.hi+1∈cs/\∀d∈cs,d<=x.hi->d<=x.lo
 |[],_,x,hx=>by simp[Ua]at hx
 |[a],_,x,hx=>by simp[Ua]at hx
 |a::b::r,h,x,hx=>by
  obtain⟨h1,h2⟩:=yJ.1 h;rw[Ua]at hx;rcases yB.1 hx with rfl|hx
  ·have z1:=h1 b (by simp);refine⟨by simp only;omega,by simp,by simp,λd hd hle=>?_⟩;simp only at hle |-;rcases yB.1 hd with rfl|hd
   ·omega
   have:b<=d:=by
    rcases yB.1 hd with rfl|hd
    ·omega
    have:=(yJ.1 h2).1 d hd;omega
   omega
  obtain⟨k1,k2,k3,k4⟩:=Dd (b::r) h2 x hx;refine⟨k1,by simp only[yB]at k2 |-;exact .inr k2,by simp only[yB]at k3 |-;exact .inr k3,λd hd hle=>?_⟩;rcases yB.1 hd with rfl|hd
  ·have:=h1 x.lo k2;omega
  exact k4 d hd hle
def x00:∀(cs:List Int),cs.Pairwise (·<·)->(Ua cs).Pairwise (λx y=>x.hi<y.lo)
 |[],_=>by simp[Ua]
 |[a],_=>by simp[Ua]
 |a::b::r,h=>by
  obtain⟨h1,h2⟩:=yJ.1 h;rw[Ua];refine yJ.2 ⟨λy hy=>?_,x00 (b::r) h2⟩;obtain⟨_,k2,_,_⟩:=Dd (b::r) h2 y hy;have:b<=y.lo:=by
   rcases yB.1 k2 with e|k2
   ·omega
   have:=(yJ.1 h2).1 y.lo k2;omega
  simp only;omega
def Xd:∀(cs:List Int),cs.Pairwise (·<·)->∀n,(∃a∈cs,a<=n)->(∃b∈cs,n<b)->∃x∈Ua cs,x.lo<=n/\n<=x.hi
 |[],_,n,⟨a,ha,_⟩,_=>by cases ha
 |[a],_,n,⟨c,hc,h1⟩,⟨d,hd,h2⟩=>by obtain rfl:=zP.1 hc;obtain rfl:=zP.1 hd;omega
 |a::b::r,h,n,⟨c,hc,h1⟩,⟨d,hd,h2⟩=>by
  obtain⟨p1,p2⟩:=yJ.1 h;rw[Ua];have z1:a<=n:=by
   rcases yB.1 hc with rfl|hc
   ·exact h1
   have:=p1 c hc;omega
  by_cases hb:n<b
  ·exact⟨⟨a,b - 1⟩,by simp,z1,by simp only;omega⟩
  have z6:d∈b::r:=by
   rcases yB.1 hd with rfl|hd
   ·omega
   exact hd
  obtain⟨x,hx,e⟩:=Xd (b::r) p2 n ⟨b,by simp,by omega⟩ ⟨d,z6,h2⟩;exact⟨x,by simp[hx],e⟩
def Tx{l:List Prd}{i:Nat}{x:Iv}:x∈Qq l i↔∃p∈l,x∈p.getD i []:=by simp[Qq]
def u17{T:Nat}{p:Prd}(hp:PCk T p)(i:Nat):CanonL (p.getD i []):=by
 by_cases hi:i<p.length
 ·rw[Ef hi];exact hp.2 _ (zL hi)
 have:p.getD i []=[]:=by simp[yL,List.getElem?_eq_none (by omega:p.length<=i)]
 rw[this];exact S7
def Yu{T:Nat}{l:List Prd}(hl:∀p∈l,PCk T p)(i:Nat):(Wm l i).Pairwise (·<·)/\(-1099511627776:Int)∈Wm l i/\(1099511627777:Int)∈Wm l i/\
  (∀z∈Wm l i,-1099511627776<=z/\z<=1099511627777)/\∀p∈l,∀x∈p.getD i [],x.lo∈Wm l i/\x.hi+1∈Wm l i:=by
 obtain⟨h1,h2⟩:=q0g (⟨-1099511627776,1099511627776⟩::Qq l i);refine⟨h1,(h2 _).2 ⟨⟨-1099511627776,1099511627776⟩,by simp,.inl rfl⟩,(h2 _).2 ⟨⟨-1099511627776,1099511627776⟩,by simp,.inr (by simp)⟩,λz hz=>?_,λp hp x hx=>⟨(h2 _).2 ⟨x,?_,.inl rfl⟩,(h2 _).2 ⟨x,?_,.inr rfl⟩⟩⟩
 ·obtain⟨x,hx,e⟩:=(h2 z).1 hz;rcases yB.1 hx with rfl|hx
  ·simp only at e;omega
  obtain⟨p,hp,hx⟩:=Tx.1 hx;have hc:=u17 (hl p hp) i;have h3:=Vv hc x hx;have h4:=(E4 _).1 h3.1;have h5:=(E4 _).1 h3.2;have:=(Dg hc).1 x hx;omega
 ·exact vG _ (Tx.2 ⟨p,hp,hx⟩)
 exact vG _ (Tx.2 ⟨p,hp,hx⟩)
def u1d{T:Nat}{l:List Prd}(hl:∀p∈l,PCk T p)(i:Nat){x:Iv}(hx:x∈Ua (Wm l i))(n:Int)(h1:x.lo<=n)(h2:n<=x.hi):Oz l i n=Oz l i x.lo:=by obtain⟨c1,_,_,_,c5⟩:=Yu hl i;obtain⟨_,_,_,k4⟩:=Dd _ c1 x hx;unfold Oz;apply xD;intro p hp;exact Ki _ (Wm l i) (c5 p hp) x.lo n h1 (λd hd hle=>k4 d hd (by omega))
def q0a{T:Nat}{p:Prd}(hp:p.length=T){t:Nat}(ht:t<T)(n:Int):Ul (p.getD t []) n=true↔PM p t n:=by
 have z1:t<p.length:=by omega
 rw[Ef z1,O5];unfold PM;rw[zI z1];simp
def w2d{T:Nat}{l:List Prd}(hl:∀p∈l,PCk T p){t t':Nat}(ht:t<T)(z1:t'<T)(n n':Int):Oz l t n=Oz l t' n'↔j2f l t n t' n':=by
 unfold Oz j2f;constructor
 ·intro h p hp;have:=(List.map_inj_left.1 h) p hp;rw[<-q0a (hl p hp).1 ht,<-q0a (hl p hp).1 z1,this]
 intro h;apply xD;intro p hp;have:=h p hp;rw[<-q0a (hl p hp).1 ht,<-q0a (hl p hp).1 z1]at this;exact x_.2 this
def GInv.congr{T:Nat}{sig:Nat->Int->List Bool}{D D':Nat->Int->Prop}{st:List (List Bool×Prd)}(h:GInv T sig D st)(e:∀t n,D t n↔D' t n):GInv T sig D' st:=by have:D=D':=funext λt=>funext λn=>propext (e t n);rw[<-this];exact h
def q0v{T:Nat}{sig:Nat->Int->List Bool}:∀(A:List (Nat×Iv)) (D:Nat->Int->Prop) (st:List (List Bool×Prd)),GInv T sig D st->(∀a∈A,a.1<T/\a.2.lo<=a.2.hi/\∀n,a.2.lo<=n->n<=a.2.hi->sig a.1 n=sig a.1 a.2.lo)->
  (∀t n,D t n->∀a∈A,∀n',a.2.lo<=n'->n'<=a.2.hi->Ov t n a.1 n')->A.Pairwise (λa b=>∀n n',a.2.lo<=n->n<=a.2.hi->b.2.lo<=n'->n'<=b.2.hi->Ov a.1 n b.1 n')->
  GInv T sig (λt n=>D t n\/∃a∈A,k2f a t n) (A.foldl (λst a=>Ue T a.1 (sig a.1 a.2.lo) a.2 st) st)
 |[],D,st,h,_,_,_=>h.congr (λt n=>by simp)
 |a::A,D,st,h,h1,h2,h3=>by
  obtain⟨i,x⟩:=a;obtain⟨e1,e2,e3⟩:=h1 (i,x) (by simp);obtain⟨p1,p2⟩:=yJ.1 h3;have hs:=h.step e1 e2 e3 (λt n hd n' q1 q2=>h2 t n hd (i,x) (by simp) n' q1 q2);rw[xV];refine(q0v A _ _ hs (λb hb=>h1 b (by simp[hb])) (λt n hd b hb n' q1 q2=>?_) p2).congr (λt n=>?_)
  ·rcases hd with hd|hd
   ·exact h2 t n hd b (by simp[hb]) n' q1 q2
   obtain⟨rfl,d1,d2⟩:=hd;exact p1 b hb n n' d1 d2 q1 q2
  simp[or_assoc]
def K5{T:Nat}{l:List Prd}{a:Nat×Iv}:a∈Cb T l↔a.1<T/\a.2∈Ua (Wm l a.1):=by
 unfold Cb;rw[xQ];constructor
 ·rintro⟨i,hi,h⟩;obtain⟨x,hx,rfl⟩:=zO.1 h;exact⟨yU.1 hi,hx⟩
 rintro⟨h1,h2⟩;exact⟨a.1,yU.2 h1,zO.2 ⟨a.2,h2,rfl⟩⟩
def z1n{T:Nat}{l:List Prd}(hl:∀p∈l,PCk T p):(Cb T l).Pairwise (λa b=>∀n n',a.2.lo<=n->n<=a.2.hi->b.2.lo<=n'->n'<=b.2.hi->Ov a.1 n b.1 n'):=by
 unfold Cb;rw[vH];refine⟨λi _=>?_,?_⟩
 ·rw[xK];refine(x00 _ (Yu hl i).1).imp (λ{x y} h n n' h1 h2 h3 h4=> .inr ⟨rfl,by simp only at h2 h3;omega⟩)
 refine List.pairwise_lt_range.imp (λ{i j} h a ha b hb n n' _ _ _ _=>?_);obtain⟨x,_,rfl⟩:=zO.1 ha;obtain⟨y,_,rfl⟩:=zO.1 hb;exact .inl h
def x1e{T:Nat}{l:List Prd}(hl:∀p∈l,PCk T p):GInv T (Oz l) (λt n=>t<T/\inR n) (A7 T l):=by
 have h0:GInv T (Oz l) (λ_ _=>False) []:=⟨by simp,by simp,by simp,by simp,by simp,λ_ _ h=>h.elim,by simp⟩
 refine(q0v (Cb T l) _ [] h0 (λa ha=>?_) (λ_ _ h=>h.elim) (z1n hl)).congr (λt n=>?_)
 ·obtain⟨h1,h2⟩:=K5.1 ha;exact⟨h1,(Dd _ (Yu hl a.1).1 _ h2).1,λn q1 q2=>u1d hl a.1 h2 n q1 q2⟩
 obtain⟨c1,c2,c3,c4,c5⟩:=Yu hl t;constructor
 ·rintro(h|⟨a,ha,rfl,h1,h2⟩)
  ·exact h.elim
  obtain⟨q1,q2⟩:=K5.1 ha;obtain⟨s1,s2,s3,s4⟩:=Dd _ c1 _ q2;have:=c4 _ s2;have:=c4 _ s3;exact⟨q1,by unfold inR;omega⟩
 rintro⟨h1,h2⟩;unfold inR at h2;obtain⟨x,hx,e1,e2⟩:=Xd _ c1 n ⟨_,c2,h2.1⟩ ⟨_,c3,by omega⟩;exact .inr ⟨(t,x),K5.2 ⟨h1,hx⟩,rfl,e1,e2⟩
def P9{s:List Iv}(h:(∀x∈s,x.lo<=x.hi)/\s.Pairwise (λx y=>x.hi<y.lo)):Sep (Qz [] s)/\∀n,M (Qz [] s) n↔M s n:=by have hb:Xx s:=h.2.imp_of_mem (λ{x y} hx hy hxy=>by have:=h.1 x hx;omega);have:=Ap s [] Vo hb h.1 (by simp);refine⟨this.1,λn=>?_⟩;rw[this.2 n];simp[M]
def Bw{T:Nat}{p:Prd}(h:∀s∈p,(∀x∈s,x.lo<=x.hi)/\s.Pairwise (λx y=>x.hi<y.lo))(t:Nat)(n:Int):PM (Rz p) t n↔PM p t n:=by
 unfold PM Rz;rw[zU];constructor
 ·rintro⟨s,hs,hm⟩;obtain⟨a,ha,rfl⟩:=zQ.1 hs;exact⟨a,ha,((P9 (h a (zJ ha))).2 n).1 hm⟩
 rintro⟨a,ha,hm⟩;exact⟨Qz [] a,by rw[ha];rfl,((P9 (h a (zJ ha))).2 n).2 hm⟩
def Bq{T:Nat}{l:List Prd}(hl:∀p∈l,PCk T p):Prts T l (Ro T l)/\(Ro T l).Pairwise k0h:=by
 have h:=x1e hl;have z1:∀g∈A7 T l,∀t n,PM (Rz g.2) t n↔(t<T/\inR n)/\Oz l t n=g.1:=λg hg t n=>by rw[Bw (T:=T) (h.asc g hg),h.mem g hg]
 have z6:∀p∈Ro T l,∃g∈A7 T l,p=Rz g.2:=λp hp=>by obtain⟨g,hg,rfl⟩:=zO.1 hp;exact⟨g,hg,rfl⟩
 refine⟨⟨λp hp=>?_,λp hp=>?_,λt n ht hn=>?_,λp hp t n hm t' n'=>?_⟩,?_⟩
 ·obtain⟨g,hg,rfl⟩:=z6 p hp;refine⟨by simp[Rz,h.len g hg],λs hs=>?_⟩;obtain⟨i,hi⟩:=yO.1 hs;have z7:=hs;obtain⟨a,ha,rfl⟩:=zO.1 hs;exact⟨(P9 (h.asc g hg a ha)).1,λn hn=>((z1 g hg i n).1 ⟨_,hi,hn⟩).1.2⟩
 ·obtain⟨g,hg,rfl⟩:=z6 p hp;obtain⟨t,n,hm⟩:=h.ne g hg;exact⟨t,n,(Bw (T:=T) (h.asc g hg) t n).2 hm⟩
 ·obtain⟨g,hg,he⟩:=h.all t n ⟨ht,hn⟩;exact⟨Rz g.2,zO.2 ⟨g,hg,rfl⟩,(z1 g hg t n).2 ⟨⟨ht,hn⟩,he.symm⟩⟩
 ·obtain⟨g,hg,rfl⟩:=z6 p hp;obtain⟨⟨q1,q2⟩,q3⟩:=(z1 g hg t n).1 hm;rw[z1 g hg];constructor
  ·rintro⟨⟨h1,h2⟩,h3⟩;exact⟨h1,h2,(w2d hl q1 h1 n n').1 (q3.trans h3.symm)⟩
  rintro⟨h1,h2,h3⟩;exact⟨⟨h1,h2⟩,((w2d hl q1 h1 n n').2 h3).symm.trans q3⟩
 unfold Ro;rw[xK];refine h.ord.imp_of_mem (λ{a b} ha hb hab=>?_);obtain⟨t,n,e1,e2⟩:=hab;exact⟨t,n,(Bw (T:=T) (h.asc a ha) t n).2 e1,λt' n' hm=>e2 t' n' ((Bw (T:=T) (h.asc b hb) t' n').1 hm)⟩
def Z8{T:Nat}(hT:0<T){l:List Prd}(hl:∀p∈l,PCk T p):Ro T l=Q4 T l:=by obtain⟨a1,a2⟩:=Bq hl;obtain⟨b1,b2⟩:=Of hT hl;exact a1.unique b1 a2 b2
structure Sy where
 ty:Int
 num:Int
deriving Inhabited,DecidableEq
structure Mv where
 src:Int
 dst:Int
 on:Prd
deriving Inhabited
structure Aut where
 types:Int
 fin:List Bool
 mv:List Mv
deriving Inhabited
def Yj:Aut:=⟨0,[],[]⟩
def u06:List (List Iv)->Int
 |[]=>0
 |s::r=>if ckR s≠0 then ckR s else u06 r
def E9(T:Int)(p:Prd):Int:=if T<1\/16<T then 2 else if(p.length:Int)≠T then 15 else u06 p
def k0r(T:Int)(n:Nat):List Mv->Int
 |[]=>0
 |m::r=>if ¬((0<=m.src/\m.src<n)/\(0<=m.dst/\m.dst<n))then 2 else if E9 T m.on≠0 then E9 T m.on else k0r T n r
def Wu(a:Aut):Int:=if a.types<1\/16<a.types then 2 else if a.fin.length<1\/256<a.fin.length\/2048<a.mv.length then 5 else k0r a.types a.fin.length a.mv
def x0m:∀(p:List (List Iv)),u06 p=0↔∀s∈p,CanonL s
 |[]=>by simp[u06]
 |s::r=>by
  rw[u06];by_cases h:ckR s=0
  ·rw[if_neg (λk=>k h),x0m r];simp[(Gr s).1 h]
  rw[if_pos h];refine⟨λk=>absurd k h,λk=>absurd ((Gr s).2 (k s (by simp))) h⟩
def Eg(T:Int)(p:Prd):E9 T p=0↔(1<=T/\T<=16)/\PCk T.toNat p:=by
 unfold E9 PCk;by_cases h1:T<1\/16<T
 ·rw[if_pos h1];exact⟨λh=>by omega,λh=>by omega⟩
 rw[if_neg h1];by_cases h2:(p.length:Int)≠T
 ·rw[if_pos h2];exact⟨λh=>by omega,λh=>by omega⟩
 rw[if_neg h2,x0m];exact⟨λh=>⟨by omega,by omega,h⟩,λh=>h.2.2⟩
structure OkMv (T:Nat) (n:Nat) (m:Mv):Prop where
 src:0<=m.src/\m.src<n
 dst:0<=m.dst/\m.dst<n
 on:PCk T m.on
structure OkA (a:Aut):Prop where
 types:1<=a.types/\a.types<=16
 fin:1<=a.fin.length/\a.fin.length<=256
 mvs:a.mv.length<=2048
 mv:∀m∈a.mv,OkMv a.types.toNat a.fin.length m
def x03{T:Int}(hT:1<=T/\T<=16)(n:Nat):∀(l:List Mv),k0r T n l=0↔∀m∈l,OkMv T.toNat n m
 |[]=>by simp[k0r]
 |m::r=>by
  rw[k0r];by_cases h1:(0<=m.src/\m.src<n)/\(0<=m.dst/\m.dst<n)
  ·rw[if_neg (λk=>k h1)];by_cases h2:E9 T m.on=0
   ·rw[if_neg (λk=>k h2),x03 hT n r];have h3:=((Eg T m.on).1 h2).2;constructor
    ·intro h x hx;rcases yB.1 hx with rfl|hx
     ·exact⟨h1.1,h1.2,h3⟩
     exact h x hx
    exact λh x hx=>h x (by simp[hx])
   rw[if_pos h2];exact⟨λh=>absurd h h2,λh=>absurd ((Eg T m.on).2 ⟨hT,(h m (by simp)).on⟩) h2⟩
  rw[if_pos h1];exact⟨λh=>(by cases h),λh=>absurd ⟨(h m (by simp)).src,(h m (by simp)).dst⟩ h1⟩
def I8(a:Aut):Wu a=0↔OkA a:=by
 unfold Wu;by_cases h1:a.types<1\/16<a.types
 ·rw[if_pos h1];exact⟨λh=>(by cases h),λh=>by have:=h.types;omega⟩
 rw[if_neg h1];by_cases h2:a.fin.length<1\/256<a.fin.length\/2048<a.mv.length
 ·rw[if_pos h2];exact⟨λh=>(by cases h),λh=>by have:=h.fin;have:=h.mvs;omega⟩
 rw[if_neg h2,x03 (by omega)];exact⟨λh=>⟨by omega,by omega,by omega,h⟩,λh=>h.mv⟩
def Ry(p:Prd)(x:Sy):Bool:=decide (0<=x.ty) && decide (x.ty<p.length) && Ul (p.getD x.ty.toNat []) x.num
def Zg(T:Int)(x:Sy):Int:=if x.ty<0\/T<=x.ty then 6 else if x.num< -1099511627776\/1099511627776<x.num then 2 else 0
def Je(T:Int)(x:Sy):Zg T x=0↔(0<=x.ty/\x.ty<T)/\inR x.num:=by
 unfold Zg inR;split
 ·constructor
  ·intro h;cases h
  intro h;omega
 split
 ·constructor
  ·intro h;cases h
  intro h;omega
 constructor
 ·intro _;omega
 intro _;rfl
def E7{T:Nat}{p:Prd}(hp:p.length=T)(x:Sy)(hx:0<=x.ty):Ry p x=true↔PM p x.ty.toNat x.num:=by
 unfold Ry;by_cases h:x.ty<p.length
 ·have h1:x.ty.toNat<T:=by omega
  rw[<-q0a hp h1];simp[h,hx]
 have:¬PM p x.ty.toNat x.num:=by rintro⟨s,hs,_⟩;have:=(zB.1 hs).1;omega
 simp[h,this]
def W9(n:Nat):List Int:=(yQ n).map λi:Nat=>(i:Int)
def Wy{n:Nat}{z:Int}:z∈W9 n↔0<=z/\z<n:=by
 unfold W9;rw[zO];constructor
 ·rintro⟨i,hi,rfl⟩;have:=yU.1 hi;omega
 rintro⟨h1,h2⟩;exact⟨z.toNat,yU.2 (by omega),by omega⟩
def J3(n:Nat):(W9 n).Pairwise (·<·):=by unfold W9;rw[xK];exact List.pairwise_lt_range.imp (λh=>by omega)
def z2z(a:Aut)(l:List Int)(x:Sy)(j:Int):Bool:=a.mv.any λm=>l.contains m.src && Ry m.on x && decide (m.dst=j)
def Qv(a:Aut)(l:List Int)(x:Sy):List Int:=(W9 a.fin.length).filter (z2z a l x)
def y2w(a:Aut)(l:List Int)(x:Sy):List Int:=Go.Lib.compact (Rj ((a.mv.filter λm=>l.contains m.src && Ry m.on x).map (·.dst)))
def g1b(zs:List Int):(Rj zs).Pairwise (·<=·):=by have:=ur (le:=λx y:Int=>decide (x<=y)) (λa b c h1 h2=>by simp at h1 h2 |-;omega) (λa b=>by simp;omega) zs;simpa[Rj]using this
def Mt(zs:List Int):(Go.Lib.compact (Rj zs)).Pairwise (·<·)/\∀z,z∈Go.Lib.compact (Rj zs)↔z∈zs:=by have h:=N1 _ (g1b zs) _ (zS _);refine⟨h.1,λz=>?_⟩;have h2:=h.2 z;rw[zY]at h2;rw[Go.Lib.compact,h2,Rj,tF]
def Yv{a b:List Int}(ha:a.Pairwise (·<·))(hb:b.Pairwise (·<·))(h:∀z,z∈a↔z∈b):a=b:=by have hn:∀ {l:List Int},l.Pairwise (·<·)->l.Nodup:=λhl=>hl.imp (λh e=>by omega);exact List.Perm.eq_of_pairwise (le:=(·<·)) (λa b _ _ h1 h2=>by omega) ha hb ((ud (hn ha) (hn hb)).2 h)
def Up(a:Aut)(l:List Int)(x:Sy):(Qv a l x).Pairwise (·<·):=(J3 _).filter _
def Q5{a:Aut}{l:List Int}{x:Sy}{j:Int}:j∈Qv a l x↔(0<=j/\j<a.fin.length)/\∃m∈a.mv,m.src∈l/\Ry m.on x=true/\m.dst=j:=by unfold Qv z2z;rw[xH,Wy,wL];simp[and_assoc]
def z2t{a:Aut}(h:∀m∈a.mv,0<=m.dst/\m.dst<a.fin.length)(l:List Int)(x:Sy):y2w a l x=Qv a l x:=by
 obtain⟨h1,h2⟩:=Mt ((a.mv.filter λm=>l.contains m.src && Ry m.on x).map (·.dst));refine Yv h1 (Up a l x) λz=>?_;rw[y2w,h2,Q5];constructor
 ·intro hz;obtain⟨m,hm,rfl⟩:=zO.1 hz;obtain⟨hm,hc⟩:=xH.1 hm;simp at hc;exact⟨h m hm,m,hm,hc.1,hc.2,rfl⟩
 rintro⟨_,m,hm,c1,c2,rfl⟩;exact zO.2 ⟨m,xH.2 ⟨hm,by simp[c1,c2]⟩,rfl⟩
def Ur{a:Aut}{l:List Int}{x:Sy}:∀j∈Qv a l x,0<=j/\j<a.fin.length:=λj hj=>(Q5.1 hj).1
def Qh(p:Prd):Sy:=⟨(Qu p 0).1,(Qu p 0).2⟩
def Z0(Q:List (List Int))(x:List Int):List (List Int):=if x=[]\/x∈Q then Q else Q++[x]
def Es(Q:List (List Int))(xs:List (List Int)):List (List Int):=xs.foldl Z0 Q
def T0(a:Aut)(cl:List Prd)(l:List Int):List (List Int):=cl.map λc=>Qv a l (Qh c)
def g04(a:Aut)(cl:List Prd):Nat->Nat->List (List Int)->Option (List (List Int))
 |0,_,_=>none
 |f+1,i,Q=>match Q[i]? with
  |some l=>if 256<(Es Q (T0 a cl l)).length then none else g04 a cl f (i+1) (Es Q (T0 a cl l))
  |none=>some Q
def k1q(Q:List (List Int))(x:List Int):∃R,Z0 Q x=Q++R/\∀y∈R,y=x/\x≠[]:=by
 unfold Z0;split
 ·exact⟨[],by simp,by simp⟩
 rename_i h;exact⟨[x],rfl,λy hy=>⟨zP.1 hy,λe=>h (.inl e)⟩⟩
def Ip:∀(xs:List (List Int)) (Q:List (List Int)),∃R,Es Q xs=Q++R/\∀y∈R,y∈xs/\y≠[]
 |[],Q=>⟨[],by simp[Es],by simp⟩
 |x::xs,Q=>by
  obtain⟨R1,h1,h2⟩:=k1q Q x;obtain⟨R2,h3,h4⟩:=Ip xs (Z0 Q x);refine⟨R1++R2,?_,λy hy=>?_⟩
  ·show Es (Z0 Q x) xs=_;rw[h3,h1,List.append_assoc]
  rcases zV.1 hy with hy|hy
  ·obtain⟨rfl,hn⟩:=h2 y hy;exact⟨by simp,hn⟩
  exact⟨by simp[(h4 y hy).1],(h4 y hy).2⟩
def f0y(Q xs:List (List Int)):Q.length<=(Es Q xs).length:=by obtain⟨R,h,_⟩:=Ip xs Q;rw[h];simp
def c12{Q:List (List Int)}{x:List Int}(hx:x≠[]):x∈Z0 Q x:=by
 unfold Z0;split
 ·rename_i h;rcases h with h|h
  ·exact absurd h hx
  exact h
 simp
def Zn:∀ {xs:List (List Int)} {Q:List (List Int)} {x:List Int},x∈xs->x≠[]->x∈Es Q xs
 |[],_,_,h,_=>by cases h
 |y::xs,Q,x,h,hn=>by
  show x∈Es (Z0 Q y) xs;rcases yB.1 h with rfl|h
  ·obtain⟨R,e,_⟩:=Ip xs (Z0 Q x);rw[e];exact yY _ (c12 hn)
  exact Zn h hn
def Td(p q:Prd):Prd:=sq (λa b=>Rg (a++b)) p q
def Dr{T:Nat}{p q:Prd}(hp:PWf T p)(hq:PWf T q)(t:Nat)(n:Int):PM (Td p q) t n↔PM p t n\/PM q t n:=by
 have hf:∀ {a b:List Iv},a∈p->b∈q->∀x∈a++b,x.lo<=x.hi:=λha hb x hx=>by
  rcases zV.1 hx with hx|hx
  ·exact(hp.2 _ ha).1.1 x hx
  exact(hq.2 _ hb).1.1 x hx
 unfold PM Td;rw[vC];constructor
 ·rintro⟨s,hs,hm⟩;cases h1:p[t]? with
  |none=>rw[h1]at hs;simp at hs
  |some a=>
   cases h2:q[t]? with
   |none=>rw[h1,h2]at hs;simp at hs
   |some b=>
    rw[h1,h2]at hs;simp at hs;subst hs;have:=((Om _ (hf (zJ h1) (zJ h2))).2 n).1 hm;rcases(Zd ..).1 this with h|h
    ·exact .inl ⟨a,rfl,h⟩
    exact .inr ⟨b,rfl,h⟩
 intro h;have z1:t<T:=by
  rcases h with⟨s,hs,_⟩|⟨s,hs,_⟩
  ·rw[<-hp.1];exact(zB.1 hs).1
  rw[<-hq.1];exact(zB.1 hs).1
 have h1:t<p.length:=by rw[hp.1];exact z1
 have h2:t<q.length:=by rw[hq.1];exact z1
 rw[zI h1,zI h2]at h |-;refine⟨_,rfl,((Om _ (hf (zL h1) (zL h2))).2 n).2 ((Zd ..).2 ?_)⟩;rcases h with⟨s,hs,hm⟩|⟨s,hs,hm⟩
 ·cases hs;exact .inl hm
 cases hs;exact .inr hm
def Lq{T:Nat}{p q:Prd}(hp:PWf T p)(hq:PWf T q):PWf T (Td p q):=by
 refine⟨by simp[Td,hp.1,hq.1],λs hs=>?_⟩;obtain⟨i,hi⟩:=yO.1 hs;have z1:=hi;unfold Td at hi;rw[vC]at hi;cases h1:p[i]? with
 |none=>rw[h1]at hi;simp at hi
 |some a=>
  cases h2:q[i]? with
  |none=>rw[h1,h2]at hi;simp at hi
  |some b=>
   rw[h1,h2]at hi;simp at hi;subst hi;refine⟨(Om _ λx hx=>?_).1,λn hn=>?_⟩
   ·rcases zV.1 hx with hx|hx
    ·exact(hp.2 _ (zJ h1)).1.1 x hx
    exact(hq.2 _ (zJ h2)).1.1 x hx
   rcases(Dr hp hq i n).1 ⟨_,z1,hn⟩with h|h
   ·exact(hp.lt h).2
   exact(hq.lt h).2
def f04(Q:List (List Int))(x:List Int):Option Nat:=Q.findIdx? λy=>decide (y=x)
def J6{Q:List (List Int)}{x:List Int}{t:Nat}(h:f04 Q x=some t):Q[t]?=some x:=by unfold f04 at h;obtain⟨h1,h2,_⟩:=xM.1 h;rw[zI h1];simpa using h2
def c07{Q:List (List Int)}(hn:Q.Nodup){t:Nat}{x:List Int}(h:Q[t]?=some x):f04 Q x=some t:=by
 unfold f04;obtain⟨h1,h2⟩:=zB.1 h;refine xM.2 ⟨h1,by simpa using h2,λj hj=>?_⟩;have z1:Q[j]≠Q[t]:=λe=>by have:=(vY hn).1 e;omega
 rw[h2]at z1;simpa using z1
def Ym(n:Nat)(g:List Mv)(to:Nat)(c:Prd):List Mv:=match g.findIdx? λm:Mv=>decide (m.dst=(to:Int))with
 |none=>g++[⟨n,to,c⟩]
 |some i=>match g[i]? with
  |some m=>g.set i { m with on:=Td m.on c }
  |none=>g
def Mj(a:Aut)(cl:List Prd)(Q:List (List Int))(n:Nat)(l:List Int):List Mv:=
 cl.foldl (λg c=>match f04 Q (Qv a l (Qh c))with|some t=>Ym n g t c|none=>g) []
def z0a(a:Aut)(cl:List Prd)(Q:List (List Int)):List Mv:=(yQ Q.length).flatMap λn=>Mj a cl Q n (Q.getD n [])
def Pr(a:Aut)(l:List Int):Bool:=l.any λs=>a.fin.getD s.toNat false
def Ia(a:Aut)(cl:List Prd)(Q:List (List Int)):Aut:=⟨a.types,Q.map (Pr a),z0a a cl Q⟩
structure MInv (T N n:Nat) (D:Nat->Nat->Int->Prop) (g:List Mv):Prop where
 wf:∀m∈g,PWf T m.on
 src:∀m∈g,m.src=n
 dst:∀m∈g,∃t:Nat,t<N/\m.dst=t
 nd:g.Pairwise (λm k=>m.dst≠k.dst)
 mem:∀m∈g,∀t:Nat,m.dst=t->∀ty y,PM m.on ty y↔D t ty y
 all:∀t ty y,D t ty y->∃m∈g,m.dst=(t:Int)
def MInv.add{T N n:Nat}{D:Nat->Nat->Int->Prop}{g:List Mv}(h:MInv T N n D g){to:Nat}(ht:to<N){c:Prd}(hc:PWf T c)(zh:∃ty y,PM c ty y):
  MInv T N n (λt ty y=>D t ty y\/(t=to/\PM c ty y)) (Ym n g to c):=by
 unfold Ym;cases hf:g.findIdx? λm:Mv=>decide (m.dst=(to:Int))with
 |none=>
  rw[List.findIdx?_eq_none_iff]at hf;have z7:∀m∈g,m.dst≠(to:Int):=λm hm=>by simpa using hf m hm
  show MInv T N n _ (g++[⟨n,to,c⟩]);have z1:∀m∈g++[(⟨n,to,c⟩:Mv)],m∈g\/m=⟨n,to,c⟩:=λm hm=>by
   rcases zV.1 hm with hm|hm
   ·exact .inl hm
   exact .inr (zP.1 hm)
  have hD:∀ty y,¬D to ty y:=λty y hd=>by obtain⟨m,hm,e⟩:=h.all to ty y hd;exact z7 m hm e
  refine⟨λm hm=>?_,λm hm=>?_,λm hm=>?_,?_,λm hm t e ty y=>?_,λt ty y hd=>?_⟩
  ·rcases z1 m hm with hm|rfl
   ·exact h.wf m hm
   exact hc
  ·rcases z1 m hm with hm|rfl
   ·exact h.src m hm
   rfl
  ·rcases z1 m hm with hm|rfl
   ·exact h.dst m hm
   exact⟨to,ht,rfl⟩
  ·exact yH.2 ⟨h.nd,by simp,λm hm k hk=>by obtain rfl:=zP.1 hk;exact z7 m hm⟩
  ·rcases z1 m hm with hm'|rfl
   ·rw[h.mem m hm' t e];constructor
    ·exact λhd=> .inl hd
    rintro(hd|⟨e2,_⟩)
    ·exact hd
    exact absurd (by rw[e,e2]) (z7 m hm')
   have:t=to:=by simp at e;omega
   subst this;constructor
   ·exact λhd=> .inr ⟨rfl,hd⟩
   rintro(hd|⟨_,hd⟩)
   ·exact absurd hd (hD ty y)
   exact hd
  rcases hd with hd|⟨rfl,_⟩
  ·obtain⟨m,hm,e⟩:=h.all t ty y hd;exact⟨m,by simp[hm],e⟩
  exact⟨⟨n,t,c⟩,by simp,rfl⟩
 |some i=>
  obtain⟨hi,zf,_⟩:=xM.1 hf;simp only[zI hi];have z6:g[i].dst=(to:Int):=by simpa using zf
  have z8:=zL hi;have hw:=h.wf _ z8;have z1:∀m∈g.set i { g[i]with on:=Td g[i].on c },(m∈g/\m.dst≠(to:Int))\/m={ g[i]with on:=Td g[i].on c }:=λm hm=>by
   obtain⟨j,hj⟩:=yO.1 hm;by_cases hij:i=j
   ·subst hij;rw[zK hi]at hj;exact .inr (Option.some.inj hj).symm
   rw[zE hij]at hj;obtain⟨zc,zd⟩:=zB.1 hj;refine .inl ⟨zJ hj,λe=>?_⟩;rcases uO hij with hlt|hgt
   ·exact yK.1 h.nd i j hi zc hlt (by rw[zd,e,z6])
   exact yK.1 h.nd j i zc hi hgt (by rw[zd,e,z6])
  refine⟨λm hm=>?_,λm hm=>?_,λm hm=>?_,?_,λm hm t e ty y=>?_,λt ty y hd=>?_⟩
  ·rcases z1 m hm with⟨hm,_⟩|rfl
   ·exact h.wf m hm
   exact Lq hw hc
  ·rcases z1 m hm with⟨hm,_⟩|rfl
   ·exact h.src m hm
   have:=h.src g[i] z8;simpa using this
  ·rcases z1 m hm with⟨hm,_⟩|rfl
   ·exact h.dst m hm
   exact⟨to,ht,z6⟩
  ·have za:(g.set i { g[i]with on:=Td g[i].on c }).map (·.dst)=g.map (·.dst):=by
    apply List.ext_getElem?;intro j;rw[zU,zU];by_cases hij:i=j
    ·subst hij;rw[zK hi,zI hi];rfl
    rw[zE hij]
   have hp:(g.map (·.dst)).Pairwise (·≠·):=xK.2 h.nd;rw[<-za]at hp;exact xK.1 hp
  ·rcases z1 m hm with⟨hm,zg⟩|rfl
   ·rw[h.mem m hm t e];constructor
    ·exact λhd=> .inl hd
    rintro(hd|⟨rfl,_⟩)
    ·exact hd
    exact absurd e zg
   have:t=to:=by simp only at e;omega
   subst this;have zb:=Dr hw hc ty y;have ze:=h.mem _ z8 t z6 ty y;constructor
   ·intro hd;rcases zb.1 hd with hd|hd
    ·exact .inl (ze.1 hd)
    exact .inr ⟨rfl,hd⟩
   rintro(hd|⟨_,hd⟩)
   ·exact zb.2 (.inl (ze.2 hd))
   exact zb.2 (.inr hd)
  rcases hd with hd|⟨rfl,_⟩
  ·obtain⟨m,hm,e⟩:=h.all t ty y hd;obtain⟨j,hj⟩:=yO.1 hm;by_cases hij:i=j
   ·subst hij;rw[zI hi]at hj;cases hj;exact⟨_,zJ (zK hi),e⟩
   exact⟨m,zJ (by rw[zE hij];exact hj),e⟩
  exact⟨_,zJ (zK hi),z6⟩
def MInv.congr{T N n:Nat}{D D':Nat->Nat->Int->Prop}{g:List Mv}(h:MInv T N n D g)(e:∀t ty y,D t ty y↔D' t ty y):MInv T N n D' g:=by have:D=D':=funext λt=>funext λty=>funext λy=>propext (e t ty y);rw[<-this];exact h
def Db{T:Nat}{a:Aut}{cl:List Prd}{Q:List (List Int)}(n:Nat)(l:List Int)(hw:∀c∈cl,PWf T c/\∃ty y,PM c ty y):
  MInv T Q.length n (λt ty y=>∃c∈cl,f04 Q (Qv a l (Qh c))=some t/\PM c ty y) (Mj a cl Q n l):=by
 have key:∀(r:List Prd) (D:Nat->Nat->Int->Prop) (g:List Mv),MInv T Q.length n D g->(∀c∈r,PWf T c/\∃ty y,PM c ty y)->
   MInv T Q.length n (λt ty y=>D t ty y\/∃c∈r,f04 Q (Qv a l (Qh c))=some t/\PM c ty y) (r.foldl (λg c=>match f04 Q (Qv a l (Qh c))with|some t=>Ym n g t c|none=>g) g):=by
  intro r;induction r with
  |nil=>intro D g h _;exact h.congr (λt ty y=>by simp)
  |cons c r ih=>
   intro D g h hr;rw[xV];cases hx:f04 Q (Qv a l (Qh c))with
   |none=>refine(ih D g h (λd hd=>hr d (by simp[hd]))).congr (λt ty y=>?_);simp[hx]
   |some to=>
    have z1:=(zB.1 (J6 hx)).1;have hc:=hr c (by simp);refine(ih _ _ (h.add z1 hc.1 hc.2) (λd hd=>hr d (by simp[hd]))).congr (λt ty y=>?_);simp only[yB,exists_eq_or_imp,hx,Option.some.injEq,or_assoc];constructor
    ·rintro(h|⟨e,h⟩|h)
     ·exact .inl h
     ·exact .inr (.inl ⟨e.symm,h⟩)
     exact .inr (.inr h)
    rintro(h|⟨e,h⟩|h)
    ·exact .inl h
    ·exact .inr (.inl ⟨e.symm,h⟩)
    exact .inr (.inr h)
 have h0:MInv T Q.length n (λ_ _ _=>False) []:=⟨by simp,by simp,by simp,by simp,by simp,λ_ _ _ h=>h.elim⟩
 exact(key cl _ [] h0 hw).congr (λt ty y=>by simp)
structure Cls (a:Aut) (cl:List Prd):Prop where
 ok:OkA a
 prts:Prts a.types.toNat (a.mv.map (·.on)) cl
 wf:∀c∈cl,PWf a.types.toNat c/\∃ty y,PM c ty y
def w2h{a:Aut}(h:OkA a):Cls a (Q4 a.types.toNat (a.mv.map (·.on))):=by
 have hT:0<a.types.toNat:=by have:=h.types;omega
 have hp:=(Of hT (l:=a.mv.map (·.on)) (λp hp=>by obtain⟨m,hm,rfl⟩:=zO.1 hp;exact(h.mv m hm).on)).1;exact⟨h,hp,λc hc=>⟨hp.wf c hc,hp.ne c hc⟩⟩
def Q9(a:Aut)(x:Sy):Prop:=(0<=x.ty/\x.ty<a.types)/\inR x.num
def j0z{a:Aut}{l:List Int}{x y:Sy}(h:∀m∈a.mv,Ry m.on x=Ry m.on y):Qv a l x=Qv a l y:=by
 refine Yv (Up ..) (Up ..) λz=>?_;rw[Q5,Q5];constructor
 ·rintro⟨h1,m,hm,h2,h3,h4⟩;exact⟨h1,m,hm,h2,by rw[<-h m hm];exact h3,h4⟩
 rintro⟨h1,m,hm,h2,h3,h4⟩;exact⟨h1,m,hm,h2,by rw[h m hm];exact h3,h4⟩
def Cls.of{a:Aut}{cl:List Prd}(h:Cls a cl){x:Sy}(hx:Q9 a x):∃c∈cl,PM c x.ty.toNat x.num/\∀l,Qv a l x=Qv a l (Qh c):=by obtain⟨c,hc,hm⟩:=h.prts.all x.ty.toNat x.num (by have:=hx.1;omega) hx.2;refine⟨c,hc,hm,λl=>j0z λm z1=>?_⟩;have h1:=(El (h.wf c hc).1 (h.wf c hc).2).1;have h2:=((h.prts.cls c hc _ _ hm _ _).1 h1).2.2 m.on (zO.2 ⟨m,z1,rfl⟩);have hl:=(h.ok.mv m z1).on.1;rw[x_,E7 hl x hx.1.1,E7 hl (Qh c) (by simp[Qh])];simpa[Qh]using h2
def Cls.same{a:Aut}{cl:List Prd}(h:Cls a cl){c:Prd}(hc:c∈cl){x:Sy}(hx:Q9 a x)(hm:PM c x.ty.toNat x.num)(l:List Int):Qv a l x=Qv a l (Qh c):=by obtain⟨d,hd,z1,e⟩:=h.of hx;rw[e l,h.prts.disj hd hc z1 hm]
structure Sub (a:Aut) (cl:List Prd) (Q:List (List Int)):Prop where
 first:Q[0]?=some [0]
 nd:Q.Nodup
 ne:∀l∈Q,l≠[]
 lim:Q.length<=256
 elem:∀l∈Q,l.Pairwise (·<·)/\∀s∈l,0<=s/\s<a.fin.length
 closed:∀l∈Q,∀c∈cl,Qv a l (Qh c)=[]\/Qv a l (Qh c)∈Q
def g01{Q:List (List Int)}{x:List Int}(h:Q.Nodup):(Z0 Q x).Nodup:=by
 unfold Z0;split
 ·exact h
 rename_i hx;exact vL.2 ⟨h,by simp,λa ha b hb e=>by
  obtain rfl:=zP.1 hb;subst e;exact hx (.inr ha)⟩
def Gu:∀(xs:List (List Int)) {Q:List (List Int)},Q.Nodup->(Es Q xs).Nodup
 |[],_,h=>h
 |x::xs,Q,h=>Gu xs (g01 (x:=x) h)
def v1s{a:Aut}(ha:OkA a)(cl:List Prd):∀(f i:Nat) (Q R:List (List Int)),g04 a cl f i Q=some R->Q[0]?=some [0]->Q.Nodup->(∀l∈Q,l≠[])->Q.length<=256->(∀l∈Q,l.Pairwise (·<·)/\∀s∈l,0<=s/\s<a.fin.length)->
  (∀j,j<i->∀l,Q[j]?=some l->∀c∈cl,Qv a l (Qh c)=[]\/Qv a l (Qh c)∈Q)->Sub a cl R
 |0,_,_,_,h,_,_,_,_,_,_=>by cases h
 |f+1,i,Q,R,h,h1,h2,h3,h4,h5,h6=>by
  rw[g04]at h;cases hq:Q[i]? with
  |none=>rw[hq]at h;simp only[Option.some.injEq]at h;subst h;have hi:Q.length<=i:=uZ.1 hq;refine⟨h1,h2,h3,h4,h5,λl hl c hc=>?_⟩;obtain⟨j,hj⟩:=yO.1 hl;exact h6 j (by have:=(zB.1 hj).1;omega) l hj c hc
  |some l=>
   rw[hq]at h;simp only at h;by_cases hlim:256<(Es Q (T0 a cl l)).length
   ·rw[if_pos hlim]at h;cases h
   rw[if_neg hlim]at h;obtain⟨X,hX,z6⟩:=Ip (T0 a cl l) Q;have hlen:0<Q.length:=(zB.1 h1).1;have z1:∀y∈Es Q (T0 a cl l),y∈Q\/(y≠[]/\∃c∈cl,y=Qv a l (Qh c)):=λy hy=>by
    rw[hX]at hy;rcases zV.1 hy with hy|hy
    ·exact .inl hy
    obtain⟨p1,p2⟩:=z6 y hy;obtain⟨c,hc,rfl⟩:=zO.1 p1;exact .inr ⟨p2,c,hc,rfl⟩
   refine v1s ha cl f (i+1) _ R h ?_ (Gu _ h2) ?_ (by omega) ?_ ?_
   ·rw[hX,zH hlen];exact h1
   ·intro y hy;rcases z1 y hy with hy|⟨hy,_⟩
    ·exact h3 y hy
    exact hy
   ·intro y hy;rcases z1 y hy with hy|⟨_,c,_,rfl⟩
    ·exact h5 y hy
    exact⟨Up ..,Ur⟩
   intro j hj k hk c hc;by_cases hji:j<i
   ·have z7:j<Q.length:=by have:=(zB.1 hq).1;omega
    rw[hX,zH z7]at hk;rcases h6 j hji k hk c hc with h7|h7
    ·exact .inl h7
    right;rw[hX];exact yY _ h7
   have:j=i:=by omega
   subst this;rw[hX,zH (zB.1 hq).1,hq]at hk;cases hk;by_cases hn:Qv a l (Qh c)=[]
   ·exact .inl hn
   exact .inr (Zn (zO.2 ⟨c,hc,rfl⟩) hn)
def Ks(a:Aut)(cl:List Prd):Option (List (List Int)):=g04 a cl 257 0 [[0]]
def w1w{a:Aut}(ha:OkA a){cl:List Prd}{Q:List (List Int)}(h:Ks a cl=some Q):Sub a cl Q:=
 v1s ha cl 257 0 [[0]] Q h rfl (by simp) (by simp) (by simp) (by intro l hl;obtain rfl:=zP.1 hl;exact⟨by simp,λs hs=>by obtain rfl:=zP.1 hs;have:=ha.fin;omega⟩) (λj hj=>by omega)
def Sub.step{a:Aut}{cl:List Prd}{Q:List (List Int)}(hs:Sub a cl Q)(hc:Cls a cl){l:List Int}(hl:l∈Q){x:Sy}(hx:Q9 a x):Qv a l x=[]\/Qv a l x∈Q:=by obtain⟨c,h1,_,h3⟩:=hc.of hx;rw[h3 l];exact hs.closed l hl c h1
def Pm{a:Aut}{cl:List Prd}{Q:List (List Int)}{m:Mv}:m∈z0a a cl Q↔∃n l,Q[n]?=some l/\m∈Mj a cl Q n l:=by
 unfold z0a;rw[xQ];constructor
 ·rintro⟨n,hn,hm⟩;have z1:=yU.1 hn;refine⟨n,Q[n],zI z1,?_⟩;simpa[yL,z1]using hm
 rintro⟨n,l,hl,hm⟩;have z1:=(zB.1 hl).1;refine⟨n,yU.2 z1,?_⟩;simpa[yL,hl]using hm
def H4{a:Aut}{cl:List Prd}{Q:List (List Int)}(hc:Cls a cl)(hs:Sub a cl Q){n:Nat}{l:List Int}(hl:Q[n]?=some l){x:Sy}(hx:Q9 a x)(t:Nat):
  (∃m∈z0a a cl Q,m.src=(n:Int)/\m.dst=(t:Int)/\Ry m.on x=true)↔Q[t]?=some (Qv a l x):=by
 have hg:=Db (a:=a) (Q:=Q) n l hc.wf;have key:f04 Q (Qv a l x)=some t↔Q[t]?=some (Qv a l x):=⟨J6,c07 hs.nd⟩
 rw[<-key];constructor
 ·rintro⟨m,hm,h1,h2,h3⟩;obtain⟨n',l',hl',z6⟩:=Pm.1 hm;have z7:=Db (a:=a) (Q:=Q) n' l' hc.wf;have:n'=n:=by have:=z7.src m z6;omega
  subst this;rw[hl]at hl';cases hl';rw[E7 (hg.wf m z6).1 x hx.1.1]at h3;obtain⟨c,z1,e1,e2⟩:=(hg.mem m z6 t h2 _ _).1 h3;rw[hc.same z1 hx e2];exact e1
 intro h;obtain⟨c,z1,e1,e2⟩:=hc.of hx;rw[e2]at h;obtain⟨m,hm,hd⟩:=hg.all t _ _ ⟨c,z1,h,e1⟩;refine⟨m,Pm.2 ⟨n,l,hl,hm⟩,hg.src m hm,hd,?_⟩;rw[E7 (hg.wf m hm).1 x hx.1.1];exact(hg.mem m hm t hd _ _).2 ⟨c,z1,h,e1⟩
def q2r{a:Aut}{cl:List Prd}{Q:List (List Int)}(hc:Cls a cl)(hs:Sub a cl Q){n:Nat}{l:List Int}(hl:Q[n]?=some l){x:Sy}(hx:Q9 a x):
  (Qv a l x=[]/\Qv (Ia a cl Q) [(n:Int)] x=[])\/∃t:Nat,Q[t]?=some (Qv a l x)/\Qv (Ia a cl Q) [(n:Int)] x=[(t:Int)]:=by
 have z1:∀j,j∈Qv (Ia a cl Q) [(n:Int)] x↔∃t:Nat,j=t/\Q[t]?=some (Qv a l x):=λj=>by
  rw[Q5];constructor
  ·rintro⟨⟨h1,h2⟩,m,hm,h3,h4,h5⟩;refine⟨j.toNat,by omega,(H4 hc hs hl hx j.toNat).1 ⟨m,hm,zP.1 h3,by omega,h4⟩⟩
  rintro⟨t,rfl,ht⟩;obtain⟨m,hm,h1,h2,h3⟩:=(H4 hc hs hl hx t).2 ht;have:=(zB.1 ht).1;exact⟨⟨by omega,by simp[Ia];omega⟩,m,hm,by rw[h1];simp,h3,h2⟩
 rcases hs.step hc (zJ hl) hx with h0|h0
 ·refine .inl ⟨h0,vv.2 λj hj=>?_⟩;obtain⟨t,_,ht⟩:=(z1 j).1 hj;rw[h0]at ht;exact hs.ne _ (zJ ht) rfl
 obtain⟨t,ht⟩:=yO.1 h0;refine .inr ⟨t,ht,Yv (Up ..) (by simp) λz=>?_⟩;rw[z1 z];constructor
 ·rintro⟨u,rfl,hu⟩;obtain⟨h1,h2⟩:=zB.1 ht;obtain⟨h3,h4⟩:=zB.1 hu;have:u=t:=(vY hs.nd).1 (by rw[h4,h2]);simp[this]
 intro hz;exact⟨t,zP.1 hz,ht⟩
def Is(a:Aut)(l:List Int)(w:List Sy):List Int:=w.foldl (Qv a) l
def Eo(a:Aut)(w:List Sy):Bool:=Pr a (Is a [0] w)
def z0z(a:Aut):∀w,Is a [] w=[]
 |[]=>rfl
 |x::w=>by
  show Is a (Qv a [] x) w=[]
  have:Qv a [] x=[]:=vv.2 λj hj=>by obtain⟨_,m,_,h,_⟩:=Q5.1 hj;cases h
  rw[this,z0z a w]
def z15{a:Aut}{cl:List Prd}{Q:List (List Int)}(hc:Cls a cl)(hs:Sub a cl Q):∀(w:List Sy),(∀x∈w,Q9 a x)->∀(n:Nat) (l:List Int),Q[n]?=some l->
  (Is a l w=[]/\Is (Ia a cl Q) [(n:Int)] w=[])\/∃t:Nat,Q[t]?=some (Is a l w)/\Is (Ia a cl Q) [(n:Int)] w=[(t:Int)]
 |[],_,n,l,hl=> .inr ⟨n,hl,rfl⟩
 |x::w,hw,n,l,hl=>by
  show(Is a (Qv a l x) w=[]/\Is (Ia a cl Q) (Qv (Ia a cl Q) [(n:Int)] x) w=[])\/∃t:Nat,Q[t]?=some (Is a (Qv a l x) w)/\Is (Ia a cl Q) (Qv (Ia a cl Q) [(n:Int)] x) w=[(t:Int)]
  rcases q2r hc hs hl (hw x (by simp))with⟨h1,h2⟩|⟨t,h1,h2⟩
  ·rw[h1,h2];exact .inl ⟨z0z _ _,z0z _ _⟩
  rw[h2];exact z15 hc hs w (λy hy=>hw y (by simp[hy])) t _ h1
def y2b{a:Aut}{cl:List Prd}{Q:List (List Int)}(hc:Cls a cl)(hs:Sub a cl Q){w:List Sy}(hw:∀x∈w,Q9 a x):Eo (Ia a cl Q) w=Eo a w:=by
 unfold Eo;rcases z15 hc hs w hw 0 [0] hs.first with⟨h1,h2⟩|⟨t,h1,h2⟩
 ·have z1:Is (Ia a cl Q) [0] w=[]:=h2;rw[h1,z1];rfl
 have z1:Is (Ia a cl Q) [0] w=[(t:Int)]:=h2;rw[z1];simp only[Pr,Ia,List.any_cons,List.any_nil,Bool.or_false,Int.toNat_natCast,yL,zU,h1,Option.map_some,Option.getD_some]
def Ih(a:Aut):Prop:=a.mv.Pairwise (λm k=>m.src=k.src->∀x:Sy,Q9 a x->¬(Ry m.on x=true/\Ry k.on x=true))
def k0g{a:Aut}{cl:List Prd}{Q:List (List Int)}(hc:Cls a cl)(hs:Sub a cl Q):Ih (Ia a cl Q):=by
 unfold Ih;show(z0a a cl Q).Pairwise _;unfold z0a;rw[vH];constructor
 ·intro n hn;have z1:=yU.1 hn;have hl:Q[n]?=some Q[n]:=zI z1;have hg:Q.getD n []=Q[n]:=by simp[yL,z1]
  rw[hg];have hi:=Db (a:=a) (Q:=Q) n Q[n] hc.wf;refine hi.nd.imp_of_mem (λ{m k} hm hk hne _ x hx=>?_);rintro⟨h1,h2⟩;obtain⟨t1,_,e1⟩:=hi.dst m hm;obtain⟨t2,_,e2⟩:=hi.dst k hk;have z6:Q9 a x:=hx;have d1:=(H4 hc hs hl z6 t1).1 ⟨m,Pm.2 ⟨n,_,hl,hm⟩,hi.src m hm,e1,h1⟩;have d2:=(H4 hc hs hl z6 t2).1 ⟨k,Pm.2 ⟨n,_,hl,hk⟩,hi.src k hk,e2,h2⟩;obtain⟨p1,p2⟩:=zB.1 d1;obtain⟨p3,p4⟩:=zB.1 d2;have:t1=t2:=(vY hs.nd).1 (by rw[p2,p4]);exact hne (by rw[e1,e2,this])
 refine List.pairwise_lt_range.imp (λ{i j} hij m hm k hk e=>?_);exfalso;have h1:∀n m,m∈Mj a cl Q n (Q.getD n [])->m.src=(n:Int):=λn m hm=>(Db (a:=a) (Q:=Q) n _ hc.wf).src m hm;have:=h1 i m hm;have:=h1 j k hk;omega
def Ly{l:List Iv}(h:Sep l)(hb:∀n,M l n->inR n):Sep (Rk l)/\(∀n,M (Rk l) n↔inR n/\¬M l n)/\(Rk l).length<=l.length+1:=by
 have z1:∀x∈l,inR x.lo/\inR x.hi:=λx hx=>⟨hb _ ⟨x,hx,xC _,h.1 x hx⟩,hb _ ⟨x,hx,h.1 x hx,xC _⟩⟩
 have:=Pc l (-1099511627776) (λx hx=>⟨h.1 x hx,(z1 x hx).2.2⟩) h.2 (λx hx=>(z1 x hx).1.1);exact⟨this.1,λn=>by rw[Rk,this.2.1,inR,and_assoc],this.2.2⟩
def Hq{T:Nat}{p:Prd}(hp:PWf T p)(t:Nat)(n:Int):PM (Tt p) t n↔(t<T/\inR n)/\¬PM p t n:=by
 unfold PM Tt;rw[zU];constructor
 ·rintro⟨s,hs,hm⟩;obtain⟨a,ha,rfl⟩:=zQ.1 hs;have hw:=hp.2 a (zJ ha);have hg:=((Ly hw.1 hw.2).2.1 n).1 hm;refine⟨⟨by rw[<-hp.1];exact(zB.1 ha).1,hg.1⟩,?_⟩;rintro⟨b,hb,z1⟩;rw[ha]at hb;cases hb;exact hg.2 z1
 rintro⟨⟨h1,h2⟩,h3⟩;have hl:t<p.length:=by rw[hp.1];exact h1
 have hw:=hp.2 _ (zL hl);exact⟨Rk p[t],by rw[zI hl];rfl,((Ly hw.1 hw.2).2.1 n).2 ⟨h2,λhm=>h3 ⟨_,zI hl,hm⟩⟩⟩
def Ct{T:Nat}{p:Prd}(hp:PWf T p):PWf T (Tt p):=⟨by simp[Tt,hp.1],λs hs=>by
 obtain⟨a,ha,rfl⟩:=zO.1 hs;have hw:=hp.2 a ha;exact⟨(Ly hw.1 hw.2).1,λn hn=>(((Ly hw.1 hw.2).2.1 n).1 hn).1⟩⟩
def Oh(T:Nat)(ps:List Prd):Prd:=(yQ T).map λi=>Rg (Qq ps i)
def Bs{T:Nat}{ps:List Prd}(h:∀p∈ps,PWf T p)(i:Nat):∀x∈Qq ps i,x.lo<=x.hi:=λx hx=>by
 obtain⟨p,hp,hx⟩:=Tx.1 hx;have hm:p.getD i []=[]\/p.getD i []∈p:=by
  by_cases hi:i<p.length
  ·exact .inr (by rw[Ef hi];exact zL hi)
  exact .inl (by simp[yL,hi])
 rcases hm with e|hm
 ·rw[e]at hx;cases hx
 exact((h p hp).2 _ hm).1.1 x hx
def Kh{T:Nat}{ps:List Prd}(h:∀p∈ps,PWf T p)(t:Nat)(n:Int):PM (Oh T ps) t n↔∃p∈ps,PM p t n:=by
 unfold PM Oh;rw[zU];constructor
 ·rintro⟨s,hs,hm⟩;obtain⟨i,hi,rfl⟩:=zQ.1 hs;obtain⟨z6,e⟩:=zB.1 hi;rw[List.getElem_range]at e;subst e;obtain⟨x,hx,h1⟩:=((Om _ (Bs h t)).2 n).1 hm;obtain⟨p,hp,hx⟩:=Tx.1 hx;have ht:t<T:=by simpa using z6
  have z1:t<p.length:=by rw[(h p hp).1];exact ht
  rw[Ef z1]at hx;exact⟨p,hp,p[t],zI z1,x,hx,h1⟩
 rintro⟨p,hp,s,hs,x,hx,h1⟩;obtain⟨z1,e⟩:=zB.1 hs;have ht:t<T:=by rw[<-(h p hp).1];exact z1
 refine⟨Rg (Qq ps t),by simp[ht],((Om _ (Bs h t)).2 n).2 ⟨x,Tx.2 ⟨p,hp,?_⟩,h1⟩⟩;rw[Ef z1,e];exact hx
def S9{T:Nat}{ps:List Prd}(h:∀p∈ps,PWf T p):PWf T (Oh T ps):=by
 refine⟨by simp[Oh],λs hs=>?_⟩;obtain⟨i,hi,rfl⟩:=zO.1 hs;refine⟨(Om _ (Bs h i)).1,λn hn=>?_⟩;have:PM (Oh T ps) i n:=⟨Rg (Qq ps i),by simp[Oh,yU.1 hi],hn⟩
 obtain⟨p,hp,hm⟩:=(Kh h i n).1 this;exact((h p hp).lt hm).2
def k2z{T:Nat}{c:Prd}(h:PWf T c):Oh T [c]=c:=
 Pu (S9 (by simpa using h)) h λt n=>by rw[Kh (by simpa using h)];simp
def u2t{T:Nat}{p q:Prd}(hp:PWf T p)(hq:PWf T q):Oh T [p,q]=Td p q:=by
 have h:∀x∈[p,q],PWf T x:=λx hx=>by
  rcases yB.1 hx with rfl|hx
  ·exact hp
  obtain rfl:=zP.1 hx;exact hq
 exact Pu (S9 h) (Lq hp hq) λt n=>by rw[Kh h,Dr hp hq];simp
def Co(a:Aut)(s:Int):List Prd:=(a.mv.filter λm=>decide (m.src=s)).map (·.on)
def Ed(a:Aut)(s:Int):Prd:=Tt (Oh a.types.toNat (Co a s))
def v1d(a:Aut)(s:Int):Prd:=(Co a s).foldl (λr p=>Wp r (Tt p)) (Wt a.types.toNat)
structure WfA (a:Aut):Prop where
 types:1<=a.types/\a.types<=16
 fin:1<=a.fin.length
 src:∀m∈a.mv,0<=m.src/\m.src<a.fin.length
 dst:∀m∈a.mv,0<=m.dst/\m.dst<a.fin.length
 on:∀m∈a.mv,PWf a.types.toNat m.on
def OkA.wfA{a:Aut}(h:OkA a):WfA a:=⟨h.types,h.fin.1,λm hm=>(h.mv m hm).src,λm hm=>(h.mv m hm).dst,λm hm=>(h.mv m hm).on.wf⟩
def X3{a:Aut}(h:WfA a)(s:Int):∀p∈Co a s,PWf a.types.toNat p:=λp hp=>by obtain⟨m,hm,rfl⟩:=zO.1 hp;exact h.on m (xH.1 hm).1
def Dv{a:Aut}(h:WfA a)(s:Int)(t:Nat)(n:Int):PM (Ed a s) t n↔(t<a.types.toNat/\inR n)/\∀p∈Co a s,¬PM p t n:=by rw[Ed,Hq (S9 (X3 h s)),Kh (X3 h s)];simp
def P5{a:Aut}(h:WfA a)(s:Int):PWf a.types.toNat (Ed a s):=Ct (S9 (X3 h s))
def N0{T:Nat}:∀(l:List Prd) (r:Prd),(∀p∈l,PWf T p)->PWf T r->PWf T (l.foldl (λr p=>Wp r (Tt p)) r)/\
  ∀t n,PM (l.foldl (λr p=>Wp r (Tt p)) r) t n↔PM r t n/\∀p∈l,¬PM p t n
 |[],r,_,hr=>⟨hr,λt n=>by simp⟩
 |p::l,r,hl,hr=>by
  have hp:=hl p (by simp);obtain⟨h1,h2⟩:=N0 l (Wp r (Tt p)) (λq hq=>hl q (by simp[hq])) (Ta hr (Ct hp).1);refine⟨h1,λt n=>?_⟩;rw[xV,h2,Er hr.1 (Ct hp).1,Hq hp];constructor
  ·rintro⟨⟨a,b,c⟩,d⟩;refine⟨a,λq hq=>?_⟩;rcases yB.1 hq with rfl|hq
   ·exact c
   exact d q hq
  rintro⟨a,d⟩;exact⟨⟨a,hr.lt a,d p (by simp)⟩,λq hq=>d q (by simp[hq])⟩
def k2n{a:Aut}(h:WfA a)(s:Int):v1d a s=Ed a s:=by obtain⟨h1,h2⟩:=N0 (Co a s) (Wt a.types.toNat) (X3 h s) (H6 _);exact Pu h1 (P5 h s) λt n=>by rw[v1d,h2,Dv h,D4]
def Mp{a:Aut}(h:WfA a)(s:Int):Ws (Ed a s)=true↔∀t n,t<a.types.toNat->inR n->∃p∈Co a s,PM p t n:=by
 rw[Rv (P5 h s)];constructor
 ·intro hv t n ht hn;have:=hv t n;rw[Dv h]at this;by_cases hc:∃p∈Co a s,PM p t n
  ·exact hc
  exact absurd ⟨⟨ht,hn⟩,λp hp hm=>hc ⟨p,hp,hm⟩⟩ this
 intro hv t n;rw[Dv h];rintro⟨⟨ht,hn⟩,hx⟩;obtain⟨p,hp,hm⟩:=hv t n ht hn;exact hx p hp hm
def Cw(a:Aut):Bool:=decide (256<a.fin.length) || decide (2048<a.mv.length) || a.mv.any λm=>m.on.any λs=>decide (256<s.length)
def w2f{a:Aut}(h:WfA a):Wu a=0↔Cw a=false:=by
 rw[I8];unfold Cw;simp only[Bool.or_eq_false_iff,decide_eq_false_iff_not,vw,decide_eq_true_eq];constructor
 ·rintro⟨h1,h2,h3,h4⟩;exact⟨⟨by omega,by omega⟩,λm hm=>by
   simp only[uX,vw,decide_eq_true_eq];exact λs hs=>by have:=((h4 m hm).on.2 s hs).len;omega⟩
 rintro⟨⟨h1,h2⟩,h3⟩;refine⟨h.types,⟨h.fin,by omega⟩,by omega,λm hm=>⟨h.src m hm,h.dst m hm,(h.on m hm).1,λs hs=>?_⟩⟩;have hw:=(h.on m hm).2 s hs;have:=h3 m hm;simp only[uX,vw,decide_eq_true_eq]at this;exact Dn hw.1 (q04 hw.1 hw.2) (by have:=this s hs;omega)
def Xq(a:Aut):Int×Aut:=if Cw a then(5,Yj)else(0,a)
def d03{a c:Aut}(h:WfA a)(hl:Xq a=(0,c)):c=a/\OkA a:=by
 unfold Xq at hl;cases hb:Cw a
 ·rw[hb,if_neg (by simp)]at hl;exact⟨(Prod.mk.inj hl).2.symm,(I8 a).1 ((w2f h).2 hb)⟩
 rw[hb,if_pos rfl]at hl;cases(Prod.mk.inj hl).1
def v1p{a:Aut}:(Xq a).1=0\/(Xq a).1=5:=by
 unfold Xq;split
 ·exact .inr rfl
 exact .inl rfl
def Tz(a:Aut)(lack:Int->Prd):List Mv:=(yQ a.fin.length).filterMap λs:Nat=>if Ws (lack s)then none else some ⟨s,a.fin.length,lack s⟩
def Oi(a:Aut):Aut:=⟨a.types,a.fin++[false],a.mv++Tz a (Ed a)++[⟨a.fin.length,a.fin.length,Wt a.types.toNat⟩]⟩
def Ad(a:Aut):Int×Aut:=if(Tz a (Ed a)).isEmpty then(0,a)else Xq (Oi a)
def z07(a:Aut):Bool:=(yQ a.fin.length).all λs:Nat=>Ws (v1d a s)
def Y4{a:Aut}{lack:Int->Prd}{m:Mv}:m∈Tz a lack↔∃s:Nat,s<a.fin.length/\Ws (lack s)=false/\m=⟨s,a.fin.length,lack s⟩:=by
 unfold Tz;rw[wH];constructor
 ·rintro⟨s,hs,h⟩;cases hv:Ws (lack s)
  ·rw[hv,if_neg (by simp)]at h;cases h;exact⟨s,yU.1 hs,hv,rfl⟩
  rw[hv,if_pos rfl]at h;cases h
 rintro⟨s,hs,hv,rfl⟩;exact⟨s,yU.2 hs,by rw[hv,if_neg (by simp)]⟩
def N4{a:Aut}{lack:Int->Prd}:Tz a lack=[]↔∀s:Nat,s<a.fin.length->Ws (lack s)=true:=by
 rw[vv];constructor
 ·intro h s hs;cases hv:Ws (lack s)
  ·exact absurd (Y4.2 ⟨s,hs,hv,rfl⟩) (h _)
  rfl
 intro h m hm;obtain⟨s,hs,hv,_⟩:=Y4.1 hm;rw[h s hs]at hv;cases hv
def q23{a:Aut}(h:WfA a):WfA (Oi a):=by
 have z1:∀m∈(Oi a).mv,m∈a.mv\/(∃s:Nat,s<a.fin.length/\m=⟨s,a.fin.length,Ed a s⟩)\/m=⟨a.fin.length,a.fin.length,Wt a.types.toNat⟩:=λm hm=>by
  rcases zV.1 hm with hm|hm
  ·rcases zV.1 hm with hm|hm
   ·exact .inl hm
   obtain⟨s,hs,_,e⟩:=Y4.1 hm;exact .inr (.inl ⟨s,hs,e⟩)
  exact .inr (.inr (zP.1 hm))
 have hl:(Oi a).fin.length=a.fin.length+1:=by simp[Oi]
 refine⟨h.types,by rw[hl];omega,λm hm=>?_,λm hm=>?_,λm hm=>?_⟩
 ·rw[hl];rcases z1 m hm with hm|⟨s,hs,rfl⟩|rfl
  ·have:=h.src m hm;omega
  ·simp only;omega
  simp only;omega
 ·rw[hl];rcases z1 m hm with hm|⟨s,hs,rfl⟩|rfl
  ·have:=h.dst m hm;omega
  ·simp only;omega
  simp only;omega
 rcases z1 m hm with hm|⟨s,hs,rfl⟩|rfl
 ·exact h.on m hm
 ·exact P5 h s
 exact H6 _
def Ha(a:Aut):Prop:=∀s:Int,0<=s->s<a.fin.length->∀x,Q9 a x->∃m∈a.mv,m.src=s/\Ry m.on x=true
def v0s{a:Aut}{x:Sy}(h:Q9 a x):x.ty.toNat<a.types.toNat/\inR x.num/\0<=x.ty:=⟨by have:=h.1;omega,h.2,h.1.1⟩
def Tc{a:Aut}(h:WfA a){m:Mv}(hm:m∈a.mv){x:Sy}(hx:Q9 a x):Ry m.on x=true↔PM m.on x.ty.toNat x.num:=E7 (h.on m hm).1 x hx.1.1
def C7{a:Aut}{s:Int}{p:Prd}:p∈Co a s↔∃m∈a.mv,m.src=s/\m.on=p:=by
 unfold Co;rw[zO];constructor
 ·rintro⟨m,hm,e⟩;have:=xH.1 hm;exact⟨m,this.1,by simpa using this.2,e⟩
 rintro⟨m,hm,hs,e⟩;exact⟨m,xH.2 ⟨hm,by simpa using hs⟩,e⟩
def u0r{a:Aut}(h:WfA a):Tz a (Ed a)=[]↔Ha a:=by
 rw[N4];constructor
 ·intro hv s h0 h1 x hx;have hs:=hv s.toNat (by omega);rw[show((s.toNat:Nat):Int)=s by omega,Mp h]at hs;obtain⟨k1,k2,_⟩:=v0s hx;obtain⟨p,hp,hm⟩:=hs _ _ k1 k2;obtain⟨m,z1,e,rfl⟩:=C7.1 hp;exact⟨m,z1,e,(Tc h z1 hx).2 hm⟩
 intro hf s hs;rw[Mp h];intro t n ht hn;have hx:Q9 a ⟨t,n⟩:=⟨⟨by simp,by simp only;omega⟩,hn⟩
 obtain⟨m,hm,e,hh⟩:=hf s (by omega) (by omega) _ hx;exact⟨m.on,C7.2 ⟨m,hm,e,rfl⟩,by have:=(Tc h hm hx).1 hh;simpa using this⟩
def d1e{a:Aut}(h:WfA a):Ha (Oi a):=by
 intro s h0 h1 x hx;have z1:Q9 a x:=hx;have hl:(Oi a).fin.length=a.fin.length+1:=by simp[Oi]
 obtain⟨k1,k2,_⟩:=v0s z1;by_cases hs:s<a.fin.length
 ·by_cases hp:∃p∈Co a s,PM p x.ty.toNat x.num
  ·obtain⟨p,hp,hm⟩:=hp;obtain⟨m,z6,e,rfl⟩:=C7.1 hp;exact⟨m,yY _ (yY _ z6),e,(Tc h z6 z1).2 hm⟩
  have z7:PM (Ed a s) x.ty.toNat x.num:=(Dv h s _ _).2 ⟨⟨k1,k2⟩,λp z8 hm=>hp ⟨p,z8,hm⟩⟩;have hv:Ws (Ed a s)=false:=by
   cases hv:Ws (Ed a s)
   ·rfl
   exact absurd z7 ((Rv (P5 h s)).1 hv _ _)
  have e:((s.toNat:Nat):Int)=s:=by omega
  refine⟨⟨s,a.fin.length,Ed a s⟩,yY _ (vI _ (Y4.2 ⟨s.toNat,by omega,by rw[e];exact hv,by rw[e]⟩)),rfl,?_⟩;exact(E7 (P5 h s).1 x hx.1.1).2 z7
 refine⟨⟨a.fin.length,a.fin.length,Wt a.types.toNat⟩,vI _ (by simp),by simp only;omega,?_⟩;exact(E7 (H6 _).1 x hx.1.1).2 ((D4 ..).2 ⟨k1,k2⟩)
def z2j{a:Aut}(h:WfA a)(hd:Ih a):Ih (Oi a):=by
 unfold Ih;show(a.mv++Tz a (Ed a)++[_]).Pairwise _;rw[yH,yH];refine⟨⟨hd,?_,λm hm k hk e x hx=>?_⟩,by simp,λm hm k hk e x hx=>?_⟩
 ·unfold Tz;rw[List.pairwise_filterMap];refine List.pairwise_lt_range.imp (λ{i j} hij m hm k hk e=>?_);have z1:∀(i:Nat) (m:Mv),(if Ws (Ed a i)then none else some (⟨i,a.fin.length,Ed a i⟩:Mv))=some m->m.src=i:=λi m hm=>by
   split at hm
   ·cases hm
   cases hm;rfl
  have:=z1 i m hm;have:=z1 j k hk;omega
 ·obtain⟨s,hs,_,rfl⟩:=Y4.1 hk;rintro⟨h1,h2⟩;have z6:Q9 a x:=hx;have p1:=(Tc h hm z6).1 h1;have p2:=(E7 (P5 h s).1 x hx.1.1).1 h2;exact((Dv h s _ _).1 p2).2 _ (C7.2 ⟨m,hm,e,rfl⟩) p1
 obtain rfl:=zP.1 hk;exfalso;have e':m.src=(a.fin.length:Int):=e;rcases zV.1 hm with hm|hm
 ·have:=h.src m hm;omega
 obtain⟨s,hs,_,rfl⟩:=Y4.1 hm;simp only at e';omega
def k1w{a:Aut}(h:WfA a){l l':List Int}(hl:∀j:Int,j<a.fin.length->(j∈l'↔j∈l))(x:Sy):∀j:Int,j<a.fin.length->(j∈Qv (Oi a) l' x↔j∈Qv a l x):=by
 intro j hj;rw[Q5,Q5];have hlen:(Oi a).fin.length=a.fin.length+1:=by simp[Oi]
 constructor
 ·rintro⟨h1,m,hm,h2,h3,h4⟩;rcases zV.1 hm with hm|hm
  ·rcases zV.1 hm with hm|hm
   ·exact⟨⟨h1.1,hj⟩,m,hm,(hl _ (h.src m hm).2).1 h2,h3,h4⟩
   obtain⟨s,hs,_,rfl⟩:=Y4.1 hm;simp only at h4;omega
  obtain rfl:=zP.1 hm;simp only at h4;omega
 rintro⟨h1,m,hm,h2,h3,h4⟩;exact⟨⟨h1.1,by omega⟩,m,yY _ (yY _ hm),(hl _ (h.src m hm).2).2 h2,h3,h4⟩
def x18{a:Aut}(h:WfA a):∀(w:List Sy) (l l':List Int),(∀j:Int,j<a.fin.length->(j∈l'↔j∈l))->∀j:Int,j<a.fin.length->(j∈Is (Oi a) l' w↔j∈Is a l w)
 |[],_,_,hl=>hl
 |x::w,_,_,hl=>x18 h w _ _ (k1w h hl x)
def runIn{a:Aut}:∀(w:List Sy) (l:List Int),(∀j∈l,0<=j/\j<a.fin.length)->∀j∈Is a l w,0<=j/\j<a.fin.length
 |[],_,hl=>hl
 |x::w,_,_=>runIn w _ (λ_ hj=>Ur _ hj)
def y04{a:Aut}(h:WfA a):∀j∈[(0:Int)],0<=j/\j<a.fin.length:=λj hj=>by obtain rfl:=zP.1 hj;have:=h.fin;omega
def C0{a:Aut}{l:List Int}:Pr a l=true↔∃s∈l,a.fin.getD s.toNat false=true:=by rw[Pr,wL]
def k2e{a:Aut}(h:WfA a)(w:List Sy):Eo (Oi a) w=Eo a w:=by
 unfold Eo;rw[x_,C0,C0];have hr:=x18 h w [0] [0] (λ_ _=>Iff.rfl);have z7:=runIn w _ (y04 (q23 h));have z6:=runIn w _ (y04 h);have hlen:(Oi a).fin.length=a.fin.length+1:=by simp[Oi]
 have z1:∀s:Int,0<=s->s<a.fin.length->(Oi a).fin.getD s.toNat false=a.fin.getD s.toNat false:=λs h0 h1=>by simp only[Oi,vJ];rw[zH (by omega)]
 constructor
 ·rintro⟨s,hs,hf⟩;have:=z7 s hs;by_cases hlt:s<a.fin.length
  ·exact⟨s,(hr s hlt).1 hs,by rw[<-z1 s this.1 hlt];exact hf⟩
  have:s.toNat=a.fin.length:=by omega
  rw[this]at hf;simp[Oi]at hf
 rintro⟨s,hs,hf⟩;have:=z6 s hs;exact⟨s,(hr s this.2).2 hs,by rw[z1 s this.1 this.2];exact hf⟩
def Cu{a c:Aut}(h:OkA a)(hc:Ad a=(0,c)):OkA c/\c.types=a.types/\Ha c/\(Ih a->Ih c)/\∀w,Eo c w=Eo a w:=by
 unfold Ad at hc;split at hc
 ·rename_i hn;cases hc;exact⟨h,rfl,(u0r h.wfA).1 (tV.1 hn),id,λ_=>rfl⟩
 obtain⟨rfl,hk⟩:=d03 (q23 h.wfA) hc;exact⟨hk,rfl,d1e h.wfA,z2j h.wfA,k2e h.wfA⟩
def d00(a:Aut):(Ad a).1=0\/(Ad a).1=5:=by
 unfold Ad;split
 ·exact .inl rfl
 exact v1p
def Ux(T:Int):List Prd->Int
 |[]=>0
 |p::r=>if E9 T p≠0 then E9 T p else Ux T r
def F6(L:List Prd):Bool:=decide (256<L.length) || L.any λp=>p.any λs=>decide (256<s.length)
def Tq(T:Int)(l:List Prd):Int×List Prd:=if T<1\/16<T then(2,[])else if 256<l.length then(5,[])else if Ux T l≠0 then(Ux T l,[])else
 if F6 (Ro T.toNat l)then(5,[])else(0,Ro T.toNat l)
def Cq(T:Int)(l:List Prd):Int×List Prd:=if T<1\/16<T then(2,[])else if 256<l.length then(5,[])else if Ux T l≠0 then(Ux T l,[])else
 if F6 (Q4 T.toNat l)then(5,[])else(0,Q4 T.toNat l)
def Pb{T:Int}:∀(l:List Prd),Ux T l=0↔∀p∈l,E9 T p=0
 |[]=>by simp[Ux]
 |p::r=>by
  rw[Ux];by_cases h:E9 T p=0
  ·rw[if_neg (λk=>k h),Pb r];simp[h]
  rw[if_pos h];exact⟨λk=>absurd k h,λk=>absurd (k p (by simp)) h⟩
def x1r(T:Int)(l:List Prd):Cq T l=Tq T l:=by
 unfold Cq Tq;split
 ·rfl
 rename_i hT;split
 ·rfl
 split
 ·rfl
 rename_i hc;have z1:∀p∈l,PCk T.toNat p:=λp hp=>((Eg T p).1 ((Pb l).1 (by simpa using hc) p hp)).2;rw[Z8 (by omega) z1]
def z1z{T:Int}(hT:1<=T/\T<=16){l:List Prd}(hl:∀p∈l,PCk T.toNat p):(Tq T l).1=5\/Tq T l=(0,Q4 T.toNat l):=by
 unfold Tq;have hc:Ux T l=0:=(Pb l).2 λp hp=>(Eg T p).2 ⟨hT,hl p hp⟩;rw[if_neg (by omega)];split
 ·exact .inl rfl
 rw[if_neg (by simp[hc])];split
 ·exact .inl rfl
 exact .inr (by rw[Z8 (by omega) hl])
def onA(a:Aut):List Prd:=a.mv.map (·.on)
def Ay(a:Aut):Int×List Prd×List (List Int):=if Wu a≠0 then(Wu a,[],[])else
 if(Tq a.types (onA a)).1≠0 then((Tq a.types (onA a)).1,[],[])else
 match Ks a (Tq a.types (onA a)).2 with
 |none=>(5,[],[])
 |some Q=>(0,(Tq a.types (onA a)).2,Q)
def W7(a:Aut):Int×Aut:=if(Ay a).1≠0 then((Ay a).1,Yj)else Xq (Ia a (Ay a).2.1 (Ay a).2.2)
def L4(a:Aut):Int×Aut:=if Wu a≠0 then(Wu a,Yj)else Ad a
def P1(a:Aut):Aut:={ a with fin:=a.fin.map (!·) }
def g0t(a:Aut):Int×Aut:=if(W7 a).1≠0 then((W7 a).1,Yj)else if(Ad (W7 a).2).1≠0 then((Ad (W7 a).2).1,Yj)else(0,P1 (Ad (W7 a).2).2)
def v0w{a:Aut}(h:OkA a):∀p∈onA a,PCk a.types.toNat p:=λp hp=>by obtain⟨m,hm,rfl⟩:=zO.1 hp;exact(h.mv m hm).on
def Ky{a:Aut}(h:OkA a):Ay a=(5,[],[])\/∃Q,Ay a=(0,Q4 a.types.toNat (onA a),Q)/\Ks a (Q4 a.types.toNat (onA a))=some Q/\Sub a (Q4 a.types.toNat (onA a)) Q/\Cls a (Q4 a.types.toNat (onA a)):=by
 unfold Ay;rw[if_neg (λk=>k ((I8 a).2 h))];rcases z1z h.types (v0w h)with hm|hm
 ·rw[if_pos (by rw[hm];decide),hm];exact .inl rfl
 rw[hm,if_neg (by simp)];cases hs:Ks a (Q4 a.types.toNat (onA a))with
 |none=>exact .inl rfl
 |some Q=>exact .inr ⟨Q,rfl,rfl,w1w h hs,w2h h⟩
def y0w{a:Aut}(h:Wu a≠0):Ay a=(Wu a,[],[]):=if_pos h
def F0{a:Aut}{cl:List Prd}{Q:List (List Int)}(hc:Cls a cl){m:Mv}(hm:m∈z0a a cl Q):(∃n:Nat,n<Q.length/\m.src=n)/\(∃t:Nat,t<Q.length/\m.dst=t)/\PWf a.types.toNat m.on:=by obtain⟨n,l,hl,hg⟩:=Pm.1 hm;have hi:=Db (a:=a) (Q:=Q) n l hc.wf;exact⟨⟨n,(zB.1 hl).1,hi.src m hg⟩,hi.dst m hg,hi.wf m hg⟩
def w2s{a:Aut}{cl:List Prd}{Q:List (List Int)}(hc:Cls a cl)(hs:Sub a cl Q):WfA (Ia a cl Q):=by
 have h0:=(zB.1 hs.first).1;have hl:(Ia a cl Q).fin.length=Q.length:=by simp[Ia]
 refine⟨hc.ok.types,by omega,λm hm=>?_,λm hm=>?_,λm hm=>(F0 hc hm).2.2⟩
 ·obtain⟨⟨n,h1,h2⟩,_⟩:=F0 hc hm;rw[hl,h2];omega
 obtain⟨_,⟨n,h1,h2⟩,_⟩:=F0 hc hm;rw[hl,h2];omega
def Uu{a d:Aut}(h:OkA a)(hd:W7 a=(0,d)):∃Q,Ks a (Q4 a.types.toNat (onA a))=some Q/\Sub a (Q4 a.types.toNat (onA a)) Q/\Cls a (Q4 a.types.toNat (onA a))/\
  Ay a=(0,Q4 a.types.toNat (onA a),Q)/\d=Ia a (Q4 a.types.toNat (onA a)) Q/\OkA d/\Ih d/\d.types=a.types/\∀w,(∀x∈w,Q9 a x)->Eo d w=Eo a w:=by
 unfold W7 at hd;rcases Ky h with hs|⟨Q,hs,hq,z1,z6⟩
 ·rw[hs,if_pos (by decide)]at hd;cases(Prod.mk.inj hd).1
 rw[hs,if_neg (by simp)]at hd;obtain⟨rfl,hk⟩:=d03 (w2s z6 z1) hd;exact⟨Q,hq,z1,z6,hs,rfl,hk,k0g z6 z1,rfl,λw hw=>y2b z6 z1 hw⟩
def C3{a:Aut}(h:OkA a):(W7 a).1=0\/(W7 a).1=5:=by
 unfold W7;rcases Ky h with hs|⟨Q,hs,_⟩
 ·rw[hs];exact .inr rfl
 rw[hs,if_neg (by simp)];exact v1p
def y25{a:Aut}(h:OkA a):OkA (P1 a):=⟨h.types,by simpa[P1]using h.fin,h.mvs,λm hm=>by have:=h.mv m hm;exact⟨by simpa[P1]using this.src,by simpa[P1]using this.dst,this.on⟩⟩
def v0n(a:Aut):(P1 a).fin.length=a.fin.length:=by simp[P1]
def w1g(a:Aut)(l:List Int)(x:Sy):Qv (P1 a) l x=Qv a l x:=by unfold Qv;rw[v0n];rfl
def x0v(a:Aut):∀(w:List Sy) (l:List Int),Is (P1 a) l w=Is a l w
 |[],_=>rfl
 |x::w,l=>by show Is (P1 a) (Qv (P1 a) l x) w=Is a (Qv a l x) w;rw[w1g,x0v a w]
def c0w{a:Aut}(h:Ha a):Ha (P1 a):=λs h0 h1 x hx=>h s h0 (by rw[v0n]at h1;exact h1) x hx
def c1f{a:Aut}(h:Ih a):Ih (P1 a):=h
def u0m{a:Aut}(hw:WfA a)(hd:Ih a)(hf:Ha a){s:Int}(h0:0<=s)(h1:s<a.fin.length){x:Sy}(hx:Q9 a x):∃t:Int,0<=t/\t<a.fin.length/\Qv a [s] x=[t]:=by
 obtain⟨m,hm,e,hh⟩:=hf s h0 h1 x hx;refine⟨m.dst,(hw.dst m hm).1,(hw.dst m hm).2,Yv (Up ..) (by simp) λz=>?_⟩;rw[Q5];constructor
 ·rintro⟨_,k,hk,h2,h3,h4⟩;obtain h2:=zP.1 h2;have:k=m\/k.dst=m.dst:=by
   obtain⟨i,hi⟩:=yO.1 hm;obtain⟨j,hj⟩:=yO.1 hk;obtain⟨z7,z1⟩:=zB.1 hi;obtain⟨z8,z6⟩:=zB.1 hj;by_cases hij:i=j
   ·subst hij;left;rw[<-z1,<-z6]
   exfalso;rcases uO hij with hlt|hgt
   ·have:=yK.1 hd i j z7 z8 hlt;rw[z1,z6]at this;exact this (by rw[e,h2]) x hx ⟨hh,h3⟩
   have:=yK.1 hd j i z8 z7 hgt;rw[z1,z6]at this;exact this (by rw[e,h2]) x hx ⟨h3,hh⟩
  rcases this with rfl|this
  ·rw[<-h4];simp
  rw[<-h4,this];simp
 intro hz;obtain rfl:=zP.1 hz;exact⟨hw.dst m hm,m,hm,by rw[e];simp,hh,rfl⟩
def y1m{a:Aut}(hw:WfA a)(hd:Ih a)(hf:Ha a):∀(w:List Sy) (s:Int),0<=s->s<a.fin.length->(∀x∈w,Q9 a x)->∃t:Int,0<=t/\t<a.fin.length/\Is a [s] w=[t]
 |[],s,h0,h1,_=>⟨s,h0,h1,rfl⟩
 |x::w,s,h0,h1,hx=>by
  obtain⟨t,t0,t1,e⟩:=u0m hw hd hf h0 h1 (hx x (by simp));show ∃u:Int,0<=u/\u<a.fin.length/\Is a (Qv a [s] x) w=[u]
  rw[e];exact y1m hw hd hf w t t0 t1 (λy hy=>hx y (by simp[hy]))
def k1y{a:Aut}(hw:WfA a)(hd:Ih a)(hf:Ha a){w:List Sy}(hx:∀x∈w,Q9 a x):Eo (P1 a) w= !Eo a w:=by
 obtain⟨t,t0,t1,e⟩:=y1m hw hd hf w 0 (xC _) (by have:=hw.fin;omega) hx;unfold Eo;rw[x0v,e];have hl:t.toNat<a.fin.length:=by omega
 simp[Pr,P1,vJ,hl]
def f1h{a c:Aut}(h:OkA a)(hc:g0t a=(0,c)):OkA c/\Ih c/\Ha c/\c.types=a.types/\∀w,(∀x∈w,Q9 a x)->Eo c w= !Eo a w:=by
 unfold g0t at hc;split at hc
 ·rename_i h1;exact absurd (Prod.mk.inj hc).1 h1
 split at hc
 ·rename_i h1 h2;exact absurd (Prod.mk.inj hc).1 h2
 rename_i h1 h2;have hd:W7 a=(0,(W7 a).2):=u6 (by simpa using h1) rfl;have hk:Ad (W7 a).2=(0,(Ad (W7 a).2).2):=u6 (by simpa using h2) rfl;obtain⟨Q,_,_,_,_,_,d1,d2,d3,d4⟩:=Uu h hd;obtain⟨k1,k2,k3,k4,k5⟩:=Cu d1 hk;obtain rfl:=(Prod.mk.inj hc).2;have z1:((Ad (W7 a).2).2).types=a.types:=by rw[k2,d3]
 refine⟨y25 k1,c1f (k4 d2),c0w k3,z1,λw hw=>?_⟩;rw[k1y k1.wfA (k4 d2) k3 (λx hx=>by have:=hw x hx;unfold Q9 at *;rw[z1];exact this),k5,d4 w hw]
def u20{a:Aut}(h:OkA a):(g0t a).1=0\/(g0t a).1=5:=by
 unfold g0t;have h1:=C3 h;have h2:=d00 (W7 a).2;split
 ·exact h1
 split
 ·exact h2
 exact .inl rfl
def j1z{a:Aut}{cl:List Prd}(hc:Cls a cl){c:Prd}(hm:c∈cl):Q9 a (Qh c):=by have h:=(El (hc.wf c hm).1 (hc.wf c hm).2).1;have h2:=(hc.wf c hm).1.lt h;exact⟨⟨by simp[Qh],by simp only[Qh];omega⟩,h2.2⟩
def w2z(p:Prd):Bool:=decide (p.length<=4) && p.all λs=>decide (s.length<=12)
def v0t(a:Aut):Bool:=decide (a.fin.length<=8) && decide (a.mv.length<=16) && a.mv.all λm=>w2z m.on
def u0y{p:Prd}:w2z p=true↔p.length<=4/\∀s∈p,s.length<=12:=by simp[w2z]
def q2n(l:List Iv):(Rg l).length<=l.length:=by have h1:=Th (Py l) [];have h2:=(Af l).1.length_eq;rw[Rg];simp at h1;omega
def z0g{n:Nat}{l:List Int}(h:l.Pairwise (·<·))(hr:∀s∈l,0<=s/\s<n):l.length<=n:=by
 have he:l=(W9 n).filter λz=>decide (z∈l):=Yv h ((J3 n).filter _) λz=>by rw[xH,Wy];exact⟨λhz=>⟨hr z hz,by simpa using hz⟩,λhz=>by simpa using hz.2⟩
 have h1:=yW (λz=>decide (z∈l)) (W9 n);rw[<-he]at h1;simpa[W9]using h1
def B5{a:Aut}(h:OkA a)(l:List Int)(x:Sy):(Qv a l x).length<=256:=by have:=z0g (Up a l x) Ur;have:=h.fin;omega
def f07(p q:Prd):Bool:= !Ws (Wp p q)
def y0n(a:Aut):Bool:=(yQ a.mv.length).all λi=>(yQ i).all λk=> !(decide ((a.mv.getD i default).src=(a.mv.getD k default).src) && f07 (a.mv.getD i default).on (a.mv.getD k default).on)
def Nd{T:Nat}{p q:Prd}(hp:PWf T p)(hq:PWf T q):f07 p q=true↔∃t n,PM p t n/\PM q t n:=by
 unfold f07;cases hv:Ws (Wp p q)
 ·simp only[Bool.not_false,true_iff];apply Classical.byContradiction;intro hn;have:=(Rv (Ta hp hq.1)).2 (λt n hm=>hn ⟨t,n,(Er hp.1 hq.1 t n).1 hm⟩);rw[hv]at this;cases this
 simp only[Bool.not_true,Bool.false_eq_true,false_iff];rintro⟨t,n,hm⟩;exact(Rv (Ta hp hq.1)).1 hv t n ((Er hp.1 hq.1 t n).2 hm)
def z0w{a:Aut}(h:WfA a):y0n a=true↔Ih a:=by
 unfold y0n Ih;rw[zX,yK];have hg:∀(i:Nat) (hi:i<a.mv.length),a.mv.getD i default=a.mv[i]:=λi hi=>by simp[yL,hi]
 constructor
 ·intro hs i j hi hj z6 e x hx;rintro⟨h1,h2⟩;have:=hs j (yU.2 hj);rw[zX]at this;have:=this i (yU.2 z6);rw[hg j hj,hg i hi,e]at this;have hc:f07 a.mv[j].on a.mv[i].on=true:=(Nd (h.on _ (zL hj)) (h.on _ (zL hi))).2 ⟨_,_,(Tc h (zL hj) hx).1 h2,(Tc h (zL hi) hx).1 h1⟩;rw[hc]at this;simp at this
 intro hd i hi;have hi:=yU.1 hi;rw[zX];intro k hk;have hk:=yU.1 hk;have z1:k<a.mv.length:=by omega
 rw[hg i hi,hg k z1];by_cases e:a.mv[i].src=a.mv[k].src
 ·cases hc:f07 a.mv[i].on a.mv[k].on
  ·simp
  exfalso;obtain⟨t,n,h1,h2⟩:=(Nd (h.on _ (zL hi)) (h.on _ (zL z1))).1 hc;have hb:=(h.on _ (zL hi)).lt h1;have hx:Q9 a ⟨t,n⟩:=⟨⟨by simp,by simp only;omega⟩,hb.2⟩
  exact hd k i z1 hi hk e.symm ⟨t,n⟩ hx ⟨(Tc h (zL z1) hx).2 (by simpa using h2),(Tc h (zL hi) hx).2 (by simpa using h1)⟩
 simp[e]
section
def sLt(x y:Sy):Prop:=x.ty<y.ty\/(x.ty=y.ty/\x.num<y.num)
def sLt.irr{x:Sy}(h:sLt x x):False:=by unfold sLt at h;omega
def sLt.trans{x y z:Sy}(h:sLt x y)(k:sLt y z):sLt x z:=by unfold sLt at *;omega
def sLt.tri(x y:Sy):sLt x y\/x=y\/sLt y x:=by cases x;cases y;unfold sLt;simp only[Sy.mk.injEq];omega
def v0h:List Sy->List Sy->Prop
 |x::v,y::w=>sLt x y\/(x=y/\v0h v w)
 |_,_=>False
def ll(v w:List Sy):Prop:=v.length<w.length\/(v.length=w.length/\v0h v w)
def lle(v w:List Sy):Prop:=v=w\/ll v w
def v0h.irr:∀ {v:List Sy},¬v0h v v
 |[],h=>h
 |x::v,h=>by
  rcases h with h|⟨_,h⟩
  ·exact h.irr
  exact v0h.irr h
def v0h.trans:∀ {u v w:List Sy},v0h u v->v0h v w->v0h u w
 |[],_,_,h,_=>h.elim
 |_::_,[],_,h,_=>h.elim
 |_::_,_::_,[],_,k=>k.elim
 |x::u,y::v,z::w,h,k=>by
  rcases h with h|⟨rfl,h⟩
  ·rcases k with k|⟨rfl,k⟩
   ·exact .inl (h.trans k)
   exact .inl h
  rcases k with k|⟨rfl,k⟩
  ·exact .inl k
  exact .inr ⟨rfl,h.trans k⟩
def ll.irr{v:List Sy}(h:ll v v):False:=by
 rcases h with h|⟨_,h⟩
 ·omega
 exact v0h.irr h
def ll.trans{u v w:List Sy}(h:ll u v)(k:ll v w):ll u w:=by
 rcases h with h|⟨h1,h2⟩
 ·rcases k with k|⟨k1,_⟩
  ·exact .inl (by omega)
  exact .inl (by omega)
 rcases k with k|⟨k1,k2⟩
 ·exact .inl (by omega)
 exact .inr ⟨by omega,h2.trans k2⟩
def lle.refl(v:List Sy):lle v v:= .inl rfl
def lle.trans{u v w:List Sy}(h:lle u v)(k:lle v w):lle u w:=by
 rcases h with rfl|h
 ·exact k
 rcases k with rfl|k
 ·exact .inr h
 exact .inr (h.trans k)
def ll.lle{u v w:List Sy}(h:ll u v)(k:lle v w):ll u w:=by
 rcases k with rfl|k
 ·exact h
 exact h.trans k
def lle.anti{u v:List Sy}(h:lle u v)(k:lle v u):u=v:=by
 rcases h with rfl|h
 ·rfl
 exact((h.lle k).irr).elim
def x0h:∀ {u v:List Sy} (a b:List Sy),u.length=v.length->v0h u v->v0h (u++a) (v++b)
 |[],_,_,_,_,h=>h.elim
 |_::_,[],_,_,_,h=>h.elim
 |x::u,y::v,a,b,e,h=>by
  rcases h with h|⟨rfl,h⟩
  ·exact .inl h
  exact .inr ⟨rfl,x0h a b (by simpa using e) h⟩
def u0u:∀(u:List Sy) {a b:List Sy},v0h a b->v0h (u++a) (u++b)
 |[],_,_,h=>h
 |_::u,_,_,h=> .inr ⟨rfl,u0u u h⟩
def z1p{u v:List Sy}(h:ll u v)(x y:Sy):ll (u++[x]) (v++[y]):=by
 rcases h with h|⟨h1,h2⟩
 ·exact .inl (by simp;omega)
 exact .inr ⟨by simp;omega,x0h _ _ h1 h2⟩
def v06(u:List Sy){x y:Sy}(h:sLt x y):ll (u++[x]) (u++[y]):= .inr ⟨by simp,u0u u (.inl h)⟩
def k18{u v:List Sy}(h:lle u v){x y:Sy}(k:x=y\/sLt x y):lle (u++[x]) (v++[y]):=by
 rcases h with rfl|h
 ·rcases k with rfl|k
  ·exact .inl rfl
  exact .inr (v06 _ k)
 exact .inr (z1p h x y)
def z2q(u:List Sy)(x:Sy):ll u (u++[x]):= .inl (by simp)
def Yd{α:Type}[DecidableEq α]:∀(l U:List α),l.Nodup->(∀x∈l,x∈U)->l.length<=U.length
 |[],_,_,_=>xA _
 |x::l,U,hn,h=>by have hx:=h x (by simp);have hc:=List.nodup_cons.1 hn;have ih:=Yd l (U.erase x) hc.2 (λy hy=>(List.mem_erase_of_ne (λe=>hc.1 (by rw[<-e];exact hy))).2 (h y (by simp[hy])));rw[List.length_erase_of_mem hx]at ih;have:=List.length_pos_of_mem hx;simp only[yZ];omega
section
variable {σ:Type} [DecidableEq σ] (ok:Sy->Prop) (step:σ->Sy->σ) (good:σ->Bool)
def Tj(s:σ)(w:List Sy):σ:=w.foldl step s
structure FirstW (s:σ) (w:List Sy):Prop where
 okw:∀x∈w,ok x
 goodw:good (Tj step s w)=true
 least:∀v,(∀x∈v,ok x)->good (Tj step s v)=true->lle w v
variable {ok step good}
def FirstW.unique{s:σ}{v w:List Sy}(h:FirstW ok step good s v)(k:FirstW ok step good s w):v=w:=
 (h.least w k.okw k.goodw).anti (k.least v h.okw h.goodw)
variable (ok step good)
structure SuccOk (s:σ) (l:List (Sy×σ)):Prop where
 asc:l.Pairwise (λa b=>sLt a.1 b.1)
 mem:∀e∈l,ok e.1/\e.2=step s e.1
 cov:∀y,ok y->∃e∈l,e.2=step s y/\(e.1=y\/sLt e.1 y)
variable (succ:σ->List (Sy×σ))
def f02(l:List (σ×List Sy))(t:σ)(w:List Sy):List (σ×List Sy):=if t∈l.map (·.1)then l else l++[(t,w)]
def Ra(l:List (σ×List Sy))(w:List Sy)(es:List (Sy×σ)):List (σ×List Sy):=es.foldl (λl e=>f02 l e.2 (w++[e.1])) l
def Xi:Nat->Nat->List (σ×List Sy)->Option (List Sy)×List (σ×List Sy)
 |0,_,l=>(none,l)
 |f+1,n,l=>match l[n]? with
  |none=>(none,l)
  |some (s,w)=>if good s then(some w,l)else Xi f (n+1) (Ra l w (succ s))
variable (s0:σ) (G:σ->Prop)
structure BInv (n:Nat) (L:List (σ×List Sy)) (done:List (Sy×σ)):Prop where
 first:L[0]?=some (s0,[])
 mem:∀e∈L,(∀x∈e.2,ok x)/\Tj step s0 e.2=e.1/\G e.1
 asc:L.Pairwise (λa b=>ll a.2 b.2)
 nd:(L.map (·.1)).Nodup
 bad:∀i s w,i<n->L[i]?=some (s,w)->good s=false
 cls:∀i s w,i<n->L[i]?=some (s,w)->∀e∈succ s,∃v,(e.2,v)∈L/\lle v (w++[e.1])
 cur:∀s w,L[n]?=some (s,w)->∀e∈done,∃v,(e.2,v)∈L/\lle v (w++[e.1])
 org:∀d∈L,d.2=[]\/∃i s w x,L[i]?=some (s,w)/\d.2=w++[x]/\(i<n\/(i=n/\∃e∈done,e.1=x))
variable {ok step good succ s0 G}
def BInv.low{n:Nat}{L:List (σ×List Sy)}{done:List (Sy×σ)}(h:BInv ok step good succ s0 G n L done){s:σ}{w:List Sy}(hn:L[n]?=some (s,w))(x:Sy)(hx:∀e∈done,sLt e.1 x):∀e∈L,ll e.2 (w++[x]):=by
 intro d hd;rcases h.org d hd with e|⟨i,s',w',y,hi,e,hc⟩
 ·rw[e];exact .inl (by simp)
 rw[e];rcases hc with hc|⟨rfl,c,hc,rfl⟩
 ·obtain⟨h1,h2⟩:=zB.1 hi;obtain⟨h3,h4⟩:=zB.1 hn;have:=yK.1 h.asc i n h1 h3 hc;rw[h2,h4]at this;exact z1p this _ _
 rw[hn]at hi;cases hi;exact v06 _ (hx c hc)
def BInv.add {n:Nat} {L:List (σ×List Sy)} {done:List (Sy×σ)} (h:BInv ok step good succ s0 G n L done) {s:σ} {w:List Sy} (hn:L[n]?=some (s,w)) {e:Sy×σ} (he:ok e.1/\e.2=step s e.1) (hG:G e.2)
  (z8:∀d∈done,sLt d.1 e.1):BInv ok step good succ s0 G n (f02 L e.2 (w++[e.1])) (done++[e])/\(f02 L e.2 (w++[e.1]))[n]?=some (s,w):=by
 have zb:=(zB.1 hn).1;have z7:=h.low hn e.1 z8;unfold f02;by_cases hin:e.2∈L.map (·.1)
 ·rw[if_pos hin];obtain⟨⟨t,v⟩,hv,ht⟩:=zO.1 hin;simp only at ht;subst ht;refine⟨⟨h.first,h.mem,h.asc,h.nd,h.bad,h.cls,λs' w' z6 d hd=>?_,λd hd=>?_⟩,hn⟩
  ·rw[hn]at z6;cases z6;rcases zV.1 hd with hd|hd
   ·exact h.cur s w hn d hd
   obtain rfl:=zP.1 hd;exact⟨v,hv,.inr (z7 _ hv)⟩
  rcases h.org d hd with e'|⟨i,s',w',y,hi,e',hc⟩
  ·exact .inl e'
  exact .inr ⟨i,s',w',y,hi,e',hc.imp id λ⟨k1,c,k2,k3⟩=>⟨k1,c,yY _ k2,k3⟩⟩
 rw[if_neg hin];have z1:∀i,i<=n->(L++[(e.2,w++[e.1])])[i]? =L[i]? :=λi hi=>zH (by omega);have hw:=h.mem _ (zJ hn);refine⟨⟨by rw[z1 0 (xA _)];exact h.first,λd hd=>?_,?_,?_,λi s' w' hi z6=>h.bad i s' w' hi (by rw[<-z1 i (by omega)];exact z6),λi s' w' hi z6 d hd=>?_,λs' w' z6 d hd=>?_,λd hd=>?_⟩,by rw[z1 n (zS _)];exact hn⟩
 ·rcases zV.1 hd with hd|hd
  ·exact h.mem d hd
  obtain rfl:=zP.1 hd;refine⟨λx hx=>?_,?_,hG⟩
  ·rcases zV.1 hx with hx|hx
   ·exact hw.1 x hx
   obtain rfl:=zP.1 hx;exact he.1
  show Tj step s0 (w++[e.1])=e.2;have h2:Tj step s0 w=s:=hw.2.1;rw[Tj,wJ];show step (Tj step s0 w) e.1=e.2;rw[h2,he.2]
 ·exact yH.2 ⟨h.asc,by simp,λa ha b hb=>by obtain rfl:=zP.1 hb;exact z7 a ha⟩
 ·rw[yR];exact vL.2 ⟨h.nd,by simp,λa ha b hb e'=>by
   simp at hb;subst hb;subst e';exact hin ha⟩
 ·rw[z1 i (by omega)]at z6;obtain⟨v,hv,hl⟩:=h.cls i s' w' hi z6 d hd;exact⟨v,yY _ hv,hl⟩
 ·rw[z1 n (zS _),hn]at z6;cases z6;rcases zV.1 hd with hd|hd
  ·obtain⟨v,hv,hl⟩:=h.cur s w hn d hd;exact⟨v,yY _ hv,hl⟩
  obtain rfl:=zP.1 hd;exact⟨_,vI _ (by simp),.inl rfl⟩
 rcases zV.1 hd with hd|hd
 ·rcases h.org d hd with e'|⟨i,s',w',y,hi,e',hc⟩
  ·exact .inl e'
  have za:i<=n:=by rcases hc with hc|hc<;>omega
  exact .inr ⟨i,s',w',y,by rw[z1 i za];exact hi,e',hc.imp id λ⟨k1,c,k2,k3⟩=>⟨k1,c,yY _ k2,k3⟩⟩
 obtain rfl:=zP.1 hd;exact .inr ⟨n,s,w,e.1,by rw[z1 n (zS _)];exact hn,rfl,.inr ⟨rfl,e,by simp,rfl⟩⟩
def BInv.round{n:Nat}:∀(es:List (Sy×σ)) (done:List (Sy×σ)) (L:List (σ×List Sy)) {s:σ} {w:List Sy},BInv ok step good succ s0 G n L done->L[n]?=some (s,w)->(∀e∈es,ok e.1/\e.2=step s e.1)->(∀e∈es,G e.2)->
  (done++es).Pairwise (λa b=>sLt a.1 b.1)->BInv ok step good succ s0 G n (Ra L w es) (done++es)/\(Ra L w es)[n]?=some (s,w)
 |[],done,L,s,w,h,hn,_,_,_=>by simpa[Ra]using⟨h,hn⟩
 |e::es,done,L,s,w,h,hn,hm,hG,hp=>by have z1:∀d∈done,sLt d.1 e.1:=λd hd=>(yH.1 hp).2.2 d hd e (by simp);obtain⟨h1,h2⟩:=h.add hn (hm e (by simp)) (hG e (by simp)) z1;have:=BInv.round es (done++[e]) _ h1 h2 (λd hd=>hm d (by simp[hd])) (λd hd=>hG d (by simp[hd])) (by simpa using hp);simpa[Ra]using this
def BInv.next{n:Nat}{L:List (σ×List Sy)}{s:σ}{w:List Sy}(h:BInv ok step good succ s0 G n L [])(hn:L[n]?=some (s,w))(hg:good s=false)(hs:SuccOk ok step s (succ s))(hG:∀e∈succ s,G e.2):
  BInv ok step good succ s0 G (n+1) (Ra L w (succ s)) []:=by
 obtain⟨h1,h2⟩:=h.round (succ s) [] L hn hs.mem hG (by simpa using hs.asc);rw[vM]at h1;refine⟨h1.first,h1.mem,h1.asc,h1.nd,λi s' w' hi z1=>?_,λi s' w' hi z1 d hd=>?_,λ_ _ _ _ hd=>(by cases hd),λd hd=>?_⟩
 ·by_cases hin:i<n
  ·exact h1.bad i s' w' hin z1
  have:i=n:=by omega
  subst this;rw[h2]at z1;cases z1;exact hg
 ·by_cases hin:i<n
  ·exact h1.cls i s' w' hin z1 d hd
  have:i=n:=by omega
  subst this;rw[h2]at z1;cases z1;exact h1.cur s w h2 d hd
 rcases h1.org d hd with e'|⟨i,s',w',y,hi,e',hc⟩
 ·exact .inl e'
 exact .inr ⟨i,s',w',y,hi,e',.inl (by rcases hc with hc|hc<;>omega)⟩
def BInv.reach{n:Nat}{L:List (σ×List Sy)}(h:BInv ok step good succ s0 G n L [])(hs:∀s,G s->SuccOk ok step s (succ s)):∀(r:List Sy),(∀x∈r,ok x)->
  (∃v,(Tj step s0 r.reverse,v)∈L/\lle v r.reverse)\/∃i s w,n<=i/\L[i]?=some (s,w)/\lle w r.reverse
 |[],_=> .inl ⟨[],zJ h.first,lle.refl _⟩
 |x::r,hx=>by
  have z1:ll r.reverse (x::r).reverse:=by rw[uH];exact z2q _ _
  rcases BInv.reach h hs r (λy hy=>hx y (by simp[hy]))with⟨v,hv,hl⟩|⟨i,s,w,h1,h2,h3⟩
  ·obtain⟨i,hi⟩:=yO.1 hv;by_cases hin:i<n
   ·obtain⟨e,he,e1,e2⟩:=(hs _ (h.mem _ hv).2.2).cov x (hx x (by simp));obtain⟨u,hu,z6⟩:=h.cls i _ _ hin hi e he;refine .inl ⟨u,?_,?_⟩
    ·rw[uH,Tj,wJ];show(step (Tj step s0 r.reverse) x,u)∈L;rw[<-e1];exact hu
    rw[uH];exact z6.trans (k18 hl e2)
   exact .inr ⟨i,_,v,by omega,hi,hl.trans (.inr z1)⟩
  exact .inr ⟨i,s,w,h1,h2,h3.trans (.inr z1)⟩
def BInv.found{n:Nat}{L:List (σ×List Sy)}{s:σ}{w:List Sy}(h:BInv ok step good succ s0 G n L [])(hs:∀s,G s->SuccOk ok step s (succ s))(hn:L[n]?=some (s,w))(hg:good s=true):FirstW ok step good s0 w:=by
 have hm:=h.mem _ (zJ hn);refine⟨hm.1,by rw[hm.2.1];exact hg,λv hv z1=>?_⟩;have hle:∀i s' w',n<=i->L[i]?=some (s',w')->lle w w':=λi s' w' hi hl=>by
  obtain⟨h1,h2⟩:=zB.1 hn;obtain⟨h3,h4⟩:=zB.1 hl;rcases Nat.lt_or_eq_of_le hi with hlt|rfl
  ·have:=yK.1 h.asc n i h1 h3 hlt;rw[h2,h4]at this;exact .inr this
  rw[hn]at hl;cases hl;exact .inl rfl
 rcases h.reach hs v.reverse (λx hx=>hv x (by simpa using hx))with⟨u,hu,hl⟩|⟨i,s',w',h1,h2,h3⟩
 ·rw[uw]at hu hl;obtain⟨i,hi⟩:=yO.1 hu;by_cases hin:i<n
  ·have:=h.bad i _ _ hin hi;rw[this]at z1;cases z1
  exact(hle i _ _ (by omega) hi).trans hl
 rw[uw]at h3;exact(hle i _ _ h1 h2).trans h3
def BInv.none{n:Nat}{L:List (σ×List Sy)}(h:BInv ok step good succ s0 G n L [])(hs:∀s,G s->SuccOk ok step s (succ s))(hn:L[n]? =none):
  (∀v,(∀x∈v,ok x)->Tj step s0 v∈L.map (·.1)/\good (Tj step s0 v)=false):=by
 intro v hv;have hlen:=uZ.1 hn;rcases h.reach hs v.reverse (λx hx=>hv x (by simpa using hx))with⟨u,hu,_⟩|⟨i,s',w',h1,h2,_⟩
 ·rw[uw]at hu;obtain⟨i,hi⟩:=yO.1 hu;have:=(zB.1 hi).1;exact⟨zO.2 ⟨_,hu,rfl⟩,h.bad i _ _ (by omega) hi⟩
 have:=(zB.1 h2).1;omega
def Dc(hs:∀s,G s->SuccOk ok step s (succ s))(hG:∀s,G s->∀e∈succ s,G e.2)(U:List σ)(hU:∀s,G s->s∈U):∀(f n:Nat) (L:List (σ×List Sy)),U.length+1<=n+f->n<=L.length->BInv ok step good succ s0 G n L []->
  (∃w L',Xi good succ f n L=(some w,L')/\FirstW ok step good s0 w)\/
  (∃L',Xi good succ f n L=(Option.none,L')/\(L'.map (·.1)).Nodup/\(∀e∈L',(∀x∈e.2,ok x)/\Tj step s0 e.2=e.1/\G e.1)/\∀v,(∀x∈v,ok x)->Tj step s0 v∈L'.map (·.1)/\good (Tj step s0 v)=false)
 |0,n,L,hf,hn,h=>by
  exfalso;have:=Yd _ U h.nd (λs hs=>by
   obtain⟨e,he,rfl⟩:=zO.1 hs;exact hU _ (h.mem e he).2.2)
  simp at this;omega
 |f+1,n,L,hf,hn,h=>by
  rw[Xi];cases hl:L[n]? with
  |none=>exact .inr ⟨L,rfl,h.nd,h.mem,h.none hs hl⟩
  |some e=>
   obtain⟨s,w⟩:=e;simp only;cases hg:good s with
   |true=>rw[if_pos rfl];exact .inl ⟨w,L,rfl,h.found hs hl hg⟩
   |false=>
    rw[if_neg (by simp)];have z1:=(h.mem _ (zJ hl)).2.2;have h':=h.next hl hg (hs s z1) (hG s z1);refine Dc hs hG U hU f (n+1) _ (by omega) ?_ h';have z6:=(zB.1 hl).1;have z7:∀(es:List (Sy×σ)) (L:List (σ×List Sy)),L.length<=(Ra L w es).length:=by
     intro es;induction es with
     |nil=>intro L;exact zS _
     |cons e es ih=>
      intro L;refine yP ?_ (ih (f02 L e.2 (w++[e.1])));unfold f02;split
      ·exact zS _
      simp
    exact yP z6 (z7 _ _)
def P7(z1:G s0):BInv ok step good succ s0 G 0 [(s0,[])] []:=
 ⟨rfl,λe he=>by obtain rfl:=zP.1 he;exact⟨by simp,rfl,z1⟩,by simp,by simp,λi _ _ hi=>by omega,λi _ _ hi=>by omega,λ_ _ _ _ hd=>(by cases hd),λd hd=>by obtain rfl:=zP.1 hd;exact .inl rfl⟩
end
end
structure Dfa (a:Aut):Prop where
 ok:OkA a
 det:Ih a
 full:Ha a
def toL(a:Aut)(s:Int)(x:Sy):Int:=match a.mv.find? (λm=>decide (m.src=s) && Ry m.on x)with|some m=>m.dst|none=> -1
def inS(a:Aut)(s:Int):Prop:=0<=s/\s<a.fin.length
def Dfa.next{a:Aut}(h:Dfa a){s:Int}(hs:inS a s){x:Sy}(hx:Q9 a x):inS a (toL a s x)/\Qv a [s] x=[toL a s x]:=by
 obtain⟨t,t0,t1,e⟩:=u0m h.ok.wfA h.det h.full hs.1 hs.2 hx;obtain⟨m,hm,h1,h2⟩:=h.full s hs.1 hs.2 x hx;have hf:toL a s x=t:=by
  unfold toL;cases hq:a.mv.find? (λm=>decide (m.src=s) && Ry m.on x)with
  |none=>have:=List.find?_eq_none.1 hq m hm;simp[h1,h2]at this
  |some k=>have hk:=List.mem_of_find?_eq_some hq;have hp:=List.find?_some hq;simp at hp;have z1:k.dst∈Qv a [s] x:=Q5.2 ⟨h.ok.wfA.dst k hk,k,hk,by rw[hp.1];simp,hp.2,rfl⟩;rw[e]at z1;exact zP.1 z1
 rw[hf];exact⟨⟨t0,t1⟩,e⟩
def Dfa.to_of{a:Aut}(h:Dfa a){m:Mv}(hm:m∈a.mv){x:Sy}(hx:Q9 a x)(hh:Ry m.on x=true):toL a m.src x=m.dst:=by have hs:inS a m.src:=h.ok.wfA.src m hm;have h1:=(h.next hs hx).2;have z1:m.dst∈Qv a [m.src] x:=Q5.2 ⟨h.ok.wfA.dst m hm,m,hm,by simp,hh,rfl⟩;rw[h1]at z1;exact(zP.1 z1).symm
def Dfa.move{a:Aut}(h:Dfa a){s:Int}(hs:inS a s){x:Sy}(hx:Q9 a x):∃m∈a.mv,m.src=s/\Ry m.on x=true/\m.dst=toL a s x:=by obtain⟨m,hm,h1,h2⟩:=h.full s hs.1 hs.2 x hx;exact⟨m,hm,h1,h2,by rw[<-h1,h.to_of hm hx h2]⟩
def u0h{a:Aut}{x y:Sy}(h:∀m∈a.mv,Ry m.on x=Ry m.on y)(s:Int):toL a s x=toL a s y:=by
 unfold toL;have:a.mv.find? (λm=>decide (m.src=s) && Ry m.on x)=a.mv.find? (λm=>decide (m.src=s) && Ry m.on y):=by
  generalize a.mv=l at h;induction l with
  |nil=>rfl
  |cons m l ih=>rw[tZ,tZ,h m (by simp),ih (λk hk=>h k (by simp[hk]))]
 rw[this]
def stF(a:Aut)(s:Int)(w:List Sy):Int:=w.foldl (toL a) s
def Lz(a:Aut)(s:Int)(w:List Sy):Bool:=a.fin.getD (stF a s w).toNat false
def Dfa.run{a:Aut}(h:Dfa a):∀(w:List Sy) (s:Int),inS a s->(∀x∈w,Q9 a x)->inS a (stF a s w)/\Is a [s] w=[stF a s w]
 |[],s,hs,_=>⟨hs,rfl⟩
 |x::w,s,hs,hx=>by obtain⟨h1,h2⟩:=h.next hs (hx x (by simp));have:=h.run w _ h1 (λy hy=>hx y (by simp[hy]));refine⟨this.1,?_⟩;show Is a (Qv a [s] x) w=_;rw[h2];exact this.2
def Dfa.zero{a:Aut}(h:Dfa a):inS a 0:=⟨xC _,by have:=h.ok.fin;omega⟩
def Dfa.acc{a:Aut}(h:Dfa a){w:List Sy}(hw:∀x∈w,Q9 a x):Eo a w=Lz a 0 w:=by unfold Eo Lz;rw[(h.run w 0 h.zero hw).2];simp[Pr]
structure Ltr (T:Nat) (l cl:List Prd):Prop where
 prts:Prts T l cl
 asc:cl.Pairwise k0h
 len:∀p∈l,p.length=T
def okT(T:Nat)(x:Sy):Prop:=0<=x.ty/\x.ty.toNat<T/\inR x.num
def f2b{T:Nat}(hT:0<T){l:List Prd}(hl:∀p∈l,PCk T p):Ltr T l (Q4 T l):=by obtain⟨h1,h2⟩:=Of hT hl;exact⟨h1,h2,λp hp=>(hl p hp).1⟩
def q13{p:Prd}{t:Nat}{n:Int}(h:Ov (Qu p 0).1 (Qu p 0).2 t n):sLt (Qh p) ⟨t,n⟩:=by unfold Ov at h;unfold sLt Qh;simp only;omega
def Ltr.least{T:Nat}{l cl:List Prd}(h:Ltr T l cl){c:Prd}(hc:c∈cl):okT T (Qh c)/\PM c (Qh c).ty.toNat (Qh c).num:=by have h1:=(El (h.prts.wf c hc) (h.prts.ne c hc)).1;have h2:=(h.prts.wf c hc).lt h1;exact⟨⟨by simp[Qh],by simpa[Qh]using h2.1,h2.2⟩,by simpa[Qh]using h1⟩
def Ltr.sig{T:Nat}{l cl:List Prd}(h:Ltr T l cl){c:Prd}(hc:c∈cl){x y:Sy}(hx:okT T x)(hy:okT T y)(z1:PM c x.ty.toNat x.num)(z6:PM c y.ty.toNat y.num):∀p∈l,Ry p x=Ry p y:=λp hp=>by have h2:=((h.prts.cls c hc _ _ z1 _ _).1 z6).2.2 p hp;rw[x_,E7 (h.len p hp) x hx.1,E7 (h.len p hp) y hy.1];exact h2
def Ltr.cov{T:Nat}{l cl:List Prd}(h:Ltr T l cl){x:Sy}(hx:okT T x):∃c∈cl,PM c x.ty.toNat x.num/\(Qh c=x\/sLt (Qh c) x)/\∀p∈l,Ry p x=Ry p (Qh c):=by
 obtain⟨c,hc,hm⟩:=h.prts.all x.ty.toNat x.num hx.2.1 hx.2.2;obtain⟨h1,h2⟩:=h.least hc;refine⟨c,hc,hm,?_,h.sig hc hx h1 hm h2⟩;rcases(El (h.prts.wf c hc) (h.prts.ne c hc)).2 _ _ hm with⟨e1,e2⟩|hlt
 ·left;unfold Qh;rw[e1,e2,show((x.ty.toNat:Nat):Int)=x.ty by have:=hx.1;omega]
 right;have:=q13 hlt;have e:(⟨(x.ty.toNat:Int),x.num⟩:Sy)=x:=by rw[show((x.ty.toNat:Nat):Int)=x.ty by have:=hx.1;omega]
 rw[e]at this;exact this
def Ltr.ascS{T:Nat}{l cl:List Prd}(h:Ltr T l cl):(cl.map Qh).Pairwise sLt:=by
 refine xK.2 (h.asc.imp_of_mem λ{p q} hp hq hlt=>?_);obtain⟨t,n,hm,z1⟩:=hlt;have h1:=z1 _ _ (El (h.prts.wf q hq) (h.prts.ne q hq)).1;have h2:Ov (Qu p 0).1 (Qu p 0).2 (Qu q 0).1 (Qu q 0).2:=by
  rcases(El (h.prts.wf p hp) (h.prts.ne p hp)).2 t n hm with⟨e1,e2⟩|h3
  ·rw[e1,e2];exact h1
  exact h3.trans h1
 exact q13 h2
def Ao(a b:Aut):List Sy:=(Q4 a.types.toNat (onA a++onA b)).map Qh
def Rl(a b:Aut)(s:Int×Int)(x:Sy):Int×Int:=(toL a s.1 x,toL b s.2 x)
def Ml(a b:Aut)(s:Int×Int):List (Sy×(Int×Int)):=(Ao a b).map λx=>(x,Rl a b s x)
def U8{a:Aut}{x:Sy}:okT a.types.toNat x↔Q9 a x:=by
 unfold okT Q9;constructor
 ·rintro⟨h1,h2,h3⟩;exact⟨⟨h1,by omega⟩,h3⟩
 rintro⟨⟨h1,h2⟩,h3⟩;exact⟨h1,by omega,h3⟩
def q24{a b:Aut}(ha:OkA a)(hb:OkA b)(ht:b.types=a.types):Ltr a.types.toNat (onA a++onA b) (Q4 a.types.toNat (onA a++onA b)):=
 f2b (by have:=ha.types;omega) λp hp=>by
  rcases zV.1 hp with hp|hp
  ·exact v0w ha p hp
  rw[<-ht];exact v0w hb p hp
def Vg{a:Aut}{m:Mv}(h:m∈a.mv):m.on∈onA a:=zO.2 ⟨m,h,rfl⟩
def F4{a b:Aut}(ha:OkA a)(hb:OkA b)(ht:b.types=a.types)(s:Int×Int):SuccOk (Q9 a) (Rl a b) s (Ml a b s):=by
 have hl:=q24 ha hb ht;refine⟨?_,λe he=>?_,λy hy=>?_⟩
 ·unfold Ml;exact xK.2 (hl.ascS.imp λh=>h)
 ·obtain⟨x,hx,rfl⟩:=zO.1 he;obtain⟨c,hc,rfl⟩:=zO.1 hx;exact⟨U8.1 (hl.least hc).1,rfl⟩
 obtain⟨c,hc,hm,hle,z1⟩:=hl.cov (U8.2 hy);refine⟨(Qh c,Rl a b s (Qh c)),zO.2 ⟨Qh c,zO.2 ⟨c,hc,rfl⟩,rfl⟩,?_,hle⟩;unfold Rl;rw[u0h (λm hm=>(z1 m.on (yY _ (Vg hm))).symm),u0h (a:=b) (λm hm=>(z1 m.on (vI _ (Vg hm))).symm)]
def Ys(a b:Aut)(s:Int×Int):Bool:=a.fin.getD s.1.toNat false != b.fin.getD s.2.toNat false
def Fu(a b:Aut)(p q:Int):Option (List Sy)×List ((Int×Int)×List Sy):=Xi (Ys a b) (Ml a b) (a.fin.length * b.fin.length+1) 0 [((p,q),[])]
def Ik(a b:Aut):∀(w:List Sy) (p q:Int),Tj (Rl a b) (p,q) w=(stF a p w,stF b q w)
 |[],_,_=>rfl
 |x::w,p,q=>Ik a b w (toL a p x) (toL b q x)
def Sl(a b:Aut):List (Int×Int):=(W9 a.fin.length).flatMap λi=>(W9 b.fin.length).map λj=>(i,j)
def Pj(a b:Aut):(Sl a b).length=a.fin.length * b.fin.length:=by unfold Sl;rw[List.length_flatMap,xD (g:=λ_=>b.fin.length) (λi _=>by simp[W9]),List.map_const',List.sum_replicate_nat];simp[W9]
def S1{a b:Aut}{s:Int×Int}(h1:inS a s.1)(h2:inS b s.2):s∈Sl a b:=by unfold Sl;rw[xQ];exact⟨s.1,Wy.2 h1,zO.2 ⟨s.2,Wy.2 h2,rfl⟩⟩
def w2n(a b:Aut)(p q:Int)(w:List Sy):Prop:=FirstW (Q9 a) (Rl a b) (Ys a b) (p,q) w
def Ds(a b:Aut)(p q:Int)(w:List Sy):Ys a b (Tj (Rl a b) (p,q) w)=true↔Lz a p w≠Lz b q w:=by rw[Ik];simp[Ys,Lz]
def Jr{a b:Aut}(ha:Dfa a)(hb:Dfa b)(ht:b.types=a.types){p q:Int}(hp:inS a p)(hq:inS b q):
  (∃w,(Fu a b p q).1=some w/\w2n a b p q w)\/((Fu a b p q).1=none/\∀w,(∀x∈w,Q9 a x)->Lz a p w=Lz b q w):=by
 have z1:∀x,Q9 a x->Q9 b x:=λx hx=>by unfold Q9 at *;rw[ht];exact hx
 rcases Dc (ok:=Q9 a) (step:=Rl a b) (good:=Ys a b) (succ:=Ml a b) (s0:=(p,q)) (G:=λs=>inS a s.1/\inS b s.2) (λs _=>F4 ha.ok hb.ok ht s)
  (λs hs e he=>by
   obtain⟨h1,h2⟩:=(F4 ha.ok hb.ok ht s).mem e he;rw[h2];exact⟨(ha.next hs.1 h1).1,(hb.next hs.2 (z1 _ h1)).1⟩) (Sl a b) (λs hs=>S1 hs.1 hs.2) (a.fin.length * b.fin.length+1) 0 [((p,q),[])] (by rw[Pj];omega) (by simp) (P7 ⟨hp,hq⟩)with⟨w,L,h1,h2⟩|⟨L,h1,_,_,h2⟩
 ·exact .inl ⟨w,by rw[Fu,h1],h2⟩
 refine .inr ⟨by rw[Fu,h1],λw hw=>?_⟩;have:=(h2 w hw).2;by_cases hd:Lz a p w=Lz b q w
 ·exact hd
 rw[(Ds a b p q w).2 hd]at this;cases this
end Go.Abs
