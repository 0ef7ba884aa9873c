/- Part Wf of the proof: steps on the way to the last part. No condition. -/
import Derived.Test.YtjmkolhkojgjpaaGreatDoorWe
import Derived.Test.YtjmkolhkojgjpaaGreatDoorWd
import Derived.Test.YtjmkolhkojgjpaaGreatDoorWc
set_option linter.all false
open Bool renaming eq_false_iff->vV,and_eq_true->z_,eq_iff_iff->x_,or_eq_true->vD
open List renaming getElem?_eq_some_iff->zB,getD->yL,getElem_mem->zL,getElem?_eq_getElem->zI,getElem_of_mem->yX,take->tB,findIdx?_eq_some_iff_getElem->xM,findIdx?_eq_none_iff->vT,any_eq_false->vw,any_eq_true->wL,length_map->yE,getElem?_append_left->zH,getElem?_append_right->zF,getElem?_set_ne->zE,take_succ_eq_append_getElem->zR,filter_append->wZ,map_append->yR,length_filter_le->yW,take_zero->wB,length_take->xR,take_length->zY,all_eq_true->zX,replicate->yF,nil_append->vM,getElem?_set_self->zK,take_of_length_le->zT,flatMap_append->wV,length_append->zW,mem_of_mem_take->xY,append_nil->yV,replicate_succ->uz,range->yQ,ext_getElem->xT,mem_map->zO,take_append_drop->xI,mem_range->yU,range_succ->wQ,ext_getElem?->xL,length_set->w_,getElem?_eq_none->y_,length_singleton->vW
open Int renaming le_refl->xC
open Nat renaming le_trans->yP
set_option maxHeartbeats 4000000
set_option linter.unusedSimpArgs false
set_option maxRecDepth 100000
open Go.Proofs.Tryz
namespace Go.Abs
open Go Go.Proofs
section
def ovl(x y:Iv):Bool:=decide (x.lo<=y.hi) && decide (y.lo<=x.hi)
def noC(p q:Prd)(i:Nat):Prop:=∀x∈p.getD i [],∀y∈q.getD i [],ovl x y=false
def u1p{T:Nat}{p q:Prd}(hp:PWf T p)(hq:PWf T q)(h:∀i,i<p.length->noC p q i):f07 p q=false:=by rw[vV,Ne,Nd hp hq];rintro⟨t,n,⟨s,hs,x,hx,h1,h2⟩,⟨s',z1,y,hy,h3,h4⟩⟩;have ht:=(zB.1 hs).1;have:=h t ht x (by rw[yL,hs];exact hx) y (by rw[yL,z1];exact hy);simp only[ovl,Bool.and_eq_false_iff,decide_eq_false_iff_not]at this;omega
def c15{T:Nat}{p q:Prd}(hp:PWf T p)(hq:PWf T q){i:Nat}(hi:i<p.length)(z1:i<q.length){x y:Iv}(hx:x∈p[i])(hy:y∈q[i])(h:ovl x y=true):f07 p q=true:=by
 rw[Nd hp hq];simp only[ovl,z_,decide_eq_true_eq]at h;have h1:=(hp.2 _ (zL hi)).1.1 x hx;have h2:=(hq.2 _ (zL z1)).1.1 y hy;by_cases hl:x.lo<=y.lo
 ·exact⟨i,y.lo,⟨p[i],zI hi,x,hx,hl,h.2⟩,⟨q[i],zI z1,y,hy,xC _,h2⟩⟩
 exact⟨i,x.lo,⟨p[i],zI hi,x,hx,xC _,h1⟩,⟨q[i],zI z1,y,hy,by omega,h.1⟩⟩
attribute [local irreducible] f07
def d0y(T:Nat)(p q:Prd)(hp:PWf T p)(hq:PWf T q)(zj:∀s∈p,s.length<=1000000000)(zk:∀s∈q,s.length<=1000000000)(hT:T<=1000):PC prog 136 [encP p,encP q] (λr=>r= .bool (f07 p q)):=by
 refine pcB func136 results136 ntmps136 ?_;simp only[Qd];simp only[encP];have hlen:=hp.1;have zg:=hq.1;repeat(refine s_ ?_;simp)
 refine Qr p.length (λi=>∀i',i'<i->noC p q i') (λi=>[(3,.vptr 1 0),(12,.list (p.map encL)),(13,.i p.length),(14,.i i)]) (λ_=>[.vars [.list (p.map encL)],.vars [.list (q.map encL)]]) rfl (by simp) (by simp) (by simp) (by simp) (by simp) ?_;intro i hi hI ih;repeat(refine s_ ?_;simp)
 refine Qa rfl (λzl=>?_) (λzm=>?_)
 ·have z1:i<p.length:=by simpa using zl
  have z6:i<q.length:=by omega
  have hw:=wz i (by omega);have zx:=zj _ (zL z1);have zy:=zk _ (zL z6);repeat(refine s_ ?_;simp[z1])
  refine Qr p[i].length (λu=>∀u',u'<u->∀h:u'<p[i].length,∀y∈q[i],ovl p[i][u'] y=false) (λu=>[(3,.vptr 1 0),(5,.i i),(12,.list (p.map encL)),(13,.i p.length),(14,.i i),(19,LIv p[i]),(20,.i p[i].length),(21,.i u)]) (λ_=>[.vars [.list (p.map encL)],.vars [.list (q.map encL)]]) rfl (by simp) (by simp) (by simp) (by simp) (by simp) ?_;intro u hu zh zn;repeat(refine s_ ?_;simp)
  refine Qa rfl (λz7=>?_) (λz8=>?_)
  ·have za:u<p[i].length:=by simpa using z7
   have zo:=wz u (by omega);repeat(refine s_ ?_;simp[za,z6])
   refine Qr q[i].length (λv=>∀v',v'<v->∀h:v'<q[i].length,ovl p[i][u] q[i][v']=false) (λv=>[(3,.vptr 1 0),(5,.i i),(8,.vptr 2 0),(12,.list (p.map encL)),(13,.i p.length),(14,.i i),(19,LIv p[i]),(20,.i p[i].length),(21,.i u),(29,LIv q[i]),(30,.i q[i].length),(31,.i v)]) (λ_=>[.vars [.list (p.map encL)],.vars [.list (q.map encL)],.vars [.i p[i][u].lo,.i p[i][u].hi]]) rfl (by simp) (by simp) (by simp) (by simp) (by simp) ?_;intro v hv zi zp;repeat(refine s_ ?_;simp)
   refine Qa rfl (λzb=>?_) (λzc=>?_)
   ·have zd:v<q[i].length:=by simpa using zb
    have zq:=wz v (by omega);repeat(refine s_ ?_;simp[zd])
    refine Qa rfl (λh=>?_) (λh=>?_)
    ·repeat(refine s_ ?_;simp)
     rw[c15 hp hq z1 z6 (zL za) (zL zd) (by simpa[ovl]using h)]
    repeat(refine s_ ?_;simp[zq])
    refine Qt _ (zp zd (λv' ze zr=>?_)) rfl (by simp) ?_ (by simp) (by simp)
    ·by_cases e:v'=v
     ·subst e;simpa[ovl]using h
     exact zi v' (by omega) zr
    simp
   have zt:v=q[i].length:=by simp at zc;omega
   subst zt;repeat(refine s_ ?_;simp[zo])
   refine Qt _ (zn za (λu' zf zu y hy=>?_)) rfl (by simp) ?_ (by simp) (by simp)
   ·by_cases e:u'=u
    ·subst e;obtain⟨v',ze,rfl⟩:=yX hy;exact zi v' ze ze
    exact zh u' (by omega) zu y hy
   simp
  have zv:u=p[i].length:=by simp at z8;omega
  subst zv;repeat(refine s_ ?_;simp[hw])
  refine Qt _ (ih z1 (λi' zz=>?_)) rfl (by simp) ?_ (by simp) (by simp)
  ·by_cases e:i'=i
   ·subst e;intro x hx y hy;rw[Ef z1]at hx;rw[Ef z6]at hy;obtain⟨u',zf,rfl⟩:=yX hx;exact zh u' zf zf y hy
   exact hI i' (by omega)
  simp
 have zw:i=p.length:=by simp at zm;omega
 subst zw;repeat(refine s_ ?_;simp)
 rw[u1p hp hq hI]
attribute [local irreducible] f00
def g2q(a:Aut):PC prog 73 [encA a] (λr=>r= .tup [.bool (q26 a).1,.i (q26 a).2]):=by
 refine pcB func73 results73 ntmps73 ?_;simp only[Qd];simp only[encA];repeat(refine s_ ?_;simp)
 refine pcL (Tm a) ?_;simp;repeat(refine s_ ?_;simp)
 refine Qa rfl (λh=>?_) (λh=>?_)
 ·repeat(refine s_ ?_;simp)
  rw[q26,if_neg (by simpa using h)];exact⟨rfl,rfl⟩
 have h0:Wu a=0:=by simpa using h
 have z8:=(I8 a).1 h0;have zt:=z8.mvs;rw[q26,if_pos h0];repeat(refine s_ ?_;simp)
 refine Qr a.mv.length (λj=>∀i,i<j->∀k,k<i->f00 a i k=false) (λj=>[(1,.vptr 0 0),(15,.list (a.mv.map encMv)),(16,.i a.mv.length),(17,.i j)]) (λ_=>[.vars (Qj a)]) rfl (by simp) (by simp) (by simp) (by simp) (by simp) ?_;intro j hj hI ih;repeat(refine s_ ?_;simp)
 refine Qa rfl (λzq=>?_) (λzr=>?_)
 ·have z1:j<a.mv.length:=by simpa using zq
  have hw:=wz j (by omega);have ze:j<=a.mv.length:=hj;have z7:min j a.mv.length=j:=by omega
  repeat(refine s_ ?_;simp[z1,ze,z7])
  refine Qr j (λk=>∀k',k'<k->f00 a j k'=false) (λk=>[(1,.vptr 0 0),(6,.vptr 1 0),(15,.list (a.mv.map encMv)),(16,.i a.mv.length),(17,.i j),(25,.list (tB j (a.mv.map encMv))),(26,.i j),(27,.i k)]) (λ_=>[.vars (Qj a),.vars [.i a.mv[j].src,.i a.mv[j].dst,.list (a.mv[j].on.map encL)]]) rfl (by simp) (by simp) (by simp) (by simp) (by simp) ?_;intro k hk zj zk;repeat(refine s_ ?_;simp)
  refine Qa rfl (λzf=>?_) (λzg=>?_)
  ·have za:k<j:=by simpa using zf
   have zb:k<a.mv.length:=by omega
   have zl:=wz k (by omega);have z6:=f1y (a:=a) z1 zb;have zm:f00 a j k=false->∀k',k'<k+1->f00 a j k'=false:=λhb k' zh=>by
    by_cases e:k'=k
    ·rw[e];exact hb
    exact zj k' (by omega)
   have zn:(tB j (a.mv.map encMv))[k]?=some (encMv a.mv[k]):=by rw[List.getElem?_take_of_lt za];simp[zb]
   by_cases he:a.mv[j].src=a.mv[k].src
   ·rw[decide_eq_true he,Bool.true_and]at z6;have zc:(a.mv[j].src==a.mv[k].src)=true:=by simpa using he
    repeat(refine s_ ?_;simp[zn,za,zb,z7,zc])
    have zo:=zL z1;have zp:=zL zb;refine pcL (d0y a.types.toNat a.mv[j].on a.mv[k].on (z8.mv _ zo).on.wf (z8.mv _ zp).on.wf (λs hs=>by have:=Gv z8 zo s hs;omega) (λs hs=>by have:=Gv z8 zp s hs;omega) (by have:=z8.types;omega)) ?_;simp;repeat(refine s_ ?_;simp)
    refine Qa rfl (λh3=>?_) (λh3=>?_)
    ·repeat(refine s_ ?_;simp)
     rw[w1l z1 za (by rw[z6];simpa using h3)]
    repeat(refine s_ ?_;simp[zl])
    refine Qt _ (zk za (zm (by rw[z6];simpa using h3))) rfl (by simp) ?_ (by simp) (by simp);simp
   rw[decide_eq_false he,Bool.false_and]at z6;have zc:(a.mv[j].src==a.mv[k].src)=false:=beq_eq_false_iff_ne.2 he;repeat(refine s_ ?_;simp[zn,za,zb,z7,zc])
   refine Wq rfl rfl ?_;simp[zc];repeat(refine s_ ?_;simp[zc])
   refine Qk rfl ?_;repeat(refine s_ ?_;simp[zl])
   refine Qt _ (zk za (zm z6)) rfl (by simp) ?_ (by simp) (by simp);simp
  have zd:k=j:=by simp at zg;omega
  subst zd;repeat(refine s_ ?_;simp[hw])
  refine Qt _ (ih z1 (λi hi k' zh=>?_)) rfl (by simp) ?_ (by simp) (by simp)
  ·by_cases e:i=k
   ·subst e;exact zj k' zh
   exact hI i (by omega) k' zh
  simp
 have zi:j=a.mv.length:=by simp at zr;omega
 subst zi;repeat(refine s_ ?_;simp)
 rw[c17 hI]
end
section
abbrev LI (l:List Int):AV:= .list (l.map (AV.int .i64))
def q02{α:Type}(f:α->Bool)(l:List α):Int:=match l.findIdx? f with|some i=>i|none=> -1
def Ba{α:Type}{f:α->Bool}{l:List α}{j:Nat}(hj:j<l.length)(h:f l[j]=true)(hb:∀i,∀hi:i<l.length,i<j->f l[i]=false):q02 f l=j:=by unfold q02;rw[xM.2 ⟨hj,h,λi hi=>by rw[hb i (by omega) hi];simp⟩]
def Ja{α:Type}{f:α->Bool}{l:List α}(hb:∀i,∀hi:i<l.length,i<l.length->f l[i]=false):q02 f l= -1:=by unfold q02;rw[vT.2 (λx hx=>by obtain⟨i,hi,rfl⟩:=yX hx;exact hb i hi hi)]
def w1o{α:Type}(f:α->Bool)(l:List α):decide (0<=q02 f l)=l.any f:=by
 unfold q02;cases h:l.findIdx? f with
 |none=>
  rw[vT]at h;have:l.any f=false:=by rw[vw];intro x hx;rw[h x hx];simp
  rw[this];rfl
 |some i=>obtain⟨h1,h2,_⟩:=xM.1 h;have:l.any f=true:=wL.2 ⟨_,zL h1,h2⟩;rw[this];simp
def v0l(l:List Int)(v:Int):PC prog 118 [LI l,.i v] (λr=>r= .i (q02 (λy=>v==y) l)):=by
 refine pcB func118 results118 ntmps118 ?_;simp only[Qd];refine Y5 0 rfl (λhlen=>?_);rw[yE]at hlen;repeat(refine s_ ?_;simp)
 refine Qr l.length (λj=>∀i,∀hi:i<l.length,i<j->(v==l[i])=false) (λj=>[(0,LI l),(1,.i v),(7,.i l.length),(8,.i j)]) (λ_=>[]) rfl (by simp) (by simp) (by simp) (by simp) (by simp) ?_;intro j hj hI ih;repeat(refine s_ ?_;simp)
 refine Qa rfl (λz7=>?_) (λz8=>?_)
 ·have z1:j<l.length:=by simpa using z7
  have hw:=wz j (by omega);repeat(refine s_ ?_;simp[z1])
  refine Qa rfl (λh=>?_) (λh=>?_)
  ·repeat(refine s_ ?_;simp)
   rw[Ba (f:=λy=>v==y) z1 h hI]
  repeat(refine s_ ?_;simp[hw])
  refine Qt _ (ih z1 (λi hi za=>?_)) rfl (by simp) ?_ (by simp) (by simp)
  ·by_cases e:i=j
   ·subst e;exact h
   exact hI i hi (by omega)
  simp
 have z6:j=l.length:=by simp at z8;omega
 subst z6;repeat(refine s_ ?_;simp)
 rw[Ja (f:=λy=>v==y) hI]
def G7(l:List Int)(v:Int):PC prog 169 [LI l,.i v] (λr=>r= .bool (l.contains v)):=by
 refine pcB func169 results169 ntmps169 ?_;simp only[Qd];repeat(refine s_ ?_;simp)
 refine pcL (v0l l v) ?_;simp;repeat(refine s_ ?_;simp)
 have:=w1o (λy=>v==y) l;rw[x_]at this;simpa using this
structure SL (K G:List AObj) (p e sz:Nat) (xs:List AV):Prop where
 arr:G[p]?=some (.arr e sz xs)
 ge:K.length<=p
 keep:∀j,j<K.length->G[j]? =K[j]?
def SL.kp{K G:List AObj}{p e sz:Nat}{xs:List AV}(h:SL K G p e sz xs){j:Nat}{x:AObj}(hx:K[j]?=some x):G[j]?=some x:=by rw[h.keep j (zB.1 hx).1];exact hx
def SL.start(K:List AObj)(e sz:Nat):SL K (K++[AObj.arr e sz []]) K.length e sz []:=
 ⟨by simp,Nat.le_refl _,λj hj=>zH hj⟩
def SL.add{K G:List AObj}{p e sz:Nat}{xs:List AV}(h:SL K G p e sz xs)(L:List AObj):SL K (G++L) p e sz xs:=
 ⟨by rw[zH (zB.1 h.arr).1];exact h.arr,h.ge,λj hj=>by
  rw[zH (by have:=(zB.1 h.arr).1;have:=h.ge;omega)];exact h.keep j hj⟩
def SL.put{K G:List AObj}{p e sz:Nat}{xs:List AV}(h:SL K G p e sz xs)(L:List AObj)(ys:List AV){n:Nat}(hn:n=G.length+L.length):SL K (G.set p .dead++(L++[AObj.arr e sz ys])) n e sz ys:=by have hp:=(zB.1 h.arr).1;have z1:=h.ge;subst hn;refine⟨by rw[zF (by simp),zF (by simp)];simp,by omega,λj hj=>?_⟩;rw[zH (by simp;omega),zE (by omega)];exact h.keep j hj
def SL.at'{K G:List AObj}{p e sz:Nat}{xs:List AV}(h:SL K G p e sz xs){j:Nat}{x:AObj}(hx:K[j]?=some x)(L:List AObj):(G++L)[j]?=some x:=(h.add L).kp hx
def j15(l:List Int)(x:Sy)(m:Mv):Bool:=l.contains m.src && Ry m.on x
def Ng(l:List Int)(x:Sy)(ms:List Mv):List Int:=(ms.filter (j15 l x)).map (·.dst)
def c0u(l:List Int)(x:Sy)(ms:List Mv)(j:Nat)(h:j<ms.length):Ng l x (ms.take (j+1))=Ng l x (ms.take j)++(if j15 l x ms[j]then [ms[j].dst]else []):=by unfold Ng;rw[zR h,wZ,yR];cases h:j15 l x ms[j]<;>simp[h]
def x0t(l:List Int)(x:Sy)(ms:List Mv):(Ng l x ms).length<=ms.length:=by unfold Ng;rw[yE];exact yW _ _
def j1b(a:Aut)(l:List Int)(x:Sy):Lib.compact (Rj (Ng l x a.mv))=y2w a l x:=rfl
def g1v(l:List Int)(x:Sy):Ng l x []=[]:=rfl
attribute [local irreducible] Ng Nj Rj Lib.compact
def w0n(a:Aut)(ha:OkA a)(l:List Int)(x:Sy)(hx:Q9 a x):PC prog 108 [encA a,LI l,encSy x] (λr=>r=LI (Qv a l x)):=by
 refine pcB func108 results108 ntmps108 ?_;simp only[Qd];simp only[encA,encSy];have zh:=ha.mvs;have hF:∀m∈a.mv,Nj m.on x=(Ry m.on x,0):=λm hm=>by rw[z04 ((Eg a.types m.on).2 ⟨ha.types,(ha.mv m hm).on⟩),if_neg (λk=>k ((Je _ _).2 hx))]
 repeat(refine s_ ?_;simp)
 refine Qw 7 3 1 rfl ?_;simp;refine R9 (Qo (sl':=[(1,LI l),(3,.vptr 0 0),(5,.vptr 1 0),(7,.sl 2 1 0 (Ng l x (a.mv.take 0)).length),(11,.list (a.mv.map encMv)),(12,.i a.mv.length),(13,.i 0)]) ?_ (by simp[Ng]));obtain⟨K,hK⟩:∃K,K=[AObj.vars (Qj a),AObj.vars [AV.i x.ty,AV.i x.num]]:=⟨_,rfl⟩
 have z8:K[1]?=some (AObj.vars [AV.i x.ty,AV.i x.num]):=by rw[hK];rfl
 have hst:=SL.start K 3 1;refine R8 (F:=λ(u:Nat×Nat×List AObj)=>⟨[(1,LI l),(3,.vptr 0 0),(5,.vptr 1 0),(7,.sl u.2.1 1 0 (Ng l x (a.mv.take u.1)).length),(11,.list (a.mv.map encMv)),(12,.i a.mv.length),(13,.i u.1)],u.2.2⟩)
  (λu=>u.1<=a.mv.length/\SL K u.2.2 u.2.1 3 1 ((Ng l x (a.mv.take u.1)).map (AV.int .i64))) (λu=>a.mv.length - u.1) ?_ (0,2,_) ⟨by simp,by rw[wB,g1v];rw[hK]at hst |-;exact hst⟩
 rintro⟨j,q,H2⟩ ⟨hj,g⟩ ih;simp only at hj g ih |-;have g1:=g.kp z8;repeat(refine s_ ?_;simp)
 refine Qa rfl (λzb=>?_) (λzc=>?_)
 ·have z1:j<a.mv.length:=by simpa using zb
  have hw:=wz j (by omega);have zd:=c0u l x a.mv j z1;have za:=x0t l x (a.mv.take j);rw[xR]at za;have ze:=hF _ (zL z1);have z6:=λq' H'=>ih (j+1,q',H');simp only[zd]at z6;generalize Ng l x (a.mv.take j)=acc at *
  have gL:=λL=>g.at' z8 L;repeat(refine s_ ?_;simp[z1])
  by_cases hb:a.mv[j].src∈l
  ·have zf:l.contains a.mv[j].src=true:=by simpa using hb
   refine pcL (G7 l a.mv[j].src) ?_;simp[hb,gL];repeat(refine s_ ?_;simp[gL])
   refine pcL (v2h a.mv[j].on x) ?_;simp[ze];repeat(refine s_ ?_;simp)
   cases hb2:Ry a.mv[j].on x with
   |false=>
    have hh:j15 l x a.mv[j]=false:=by rw[j15,hb2];simp
    refine Qk rfl ?_;simp[hb2];repeat(refine s_ ?_;simp[hw])
    refine lkA [(1,LI l),(3,.vptr 0 0),(5,.vptr 1 0),(7,.sl q 1 0 acc.length),(11,.list (a.mv.map encMv)),(12,.i a.mv.length),(13,.i (j+1:Nat))] ?_;have:=z6 q _ ⟨by omega,by rw[hh];simpa using g.add [AObj.vars [AV.i a.mv[j].src,AV.i a.mv[j].dst,AV.list (a.mv[j].on.map encL)]]⟩ (by omega);rw[hh]at this;simpa using this
   |true=>
    have hh:j15 l x a.mv[j]=true:=by rw[j15,zf,hb2];rfl
    refine Qk rfl ?_;simp[hb2];repeat(refine s_ ?_;simp)
    refine apS T47 T3 ?_;simp[Qb g.arr,Qg g.arr];refine⟨by simp[Wo,Qb g.arr,Qg g.arr]<;>omega,?_⟩;repeat(refine s_ ?_;simp[hw])
    refine lkA [(1,LI l),(3,.vptr 0 0),(5,.vptr 1 0),(7,.sl (H2.length+2) 1 0 (acc.length+1)),(11,.list (a.mv.map encMv)),(12,.i a.mv.length),(13,.i (j+1:Nat))] ?_;have:=z6 (H2.length+2) _ ⟨by omega,by rw[hh];exact g.put [AObj.vars [AV.i a.mv[j].src,AV.i a.mv[j].dst,AV.list (a.mv[j].on.map encL)],AObj.arr 3 1 [AV.i a.mv[j].dst]] _ rfl⟩ (by omega);rw[hh]at this;simpa using this
  have hh:j15 l x a.mv[j]=false:=by simp[j15,hb]
  refine pcL (G7 l a.mv[j].src) ?_;simp[hb,gL];refine Wq rfl rfl ?_;simp[hb];refine Qk rfl ?_;repeat(refine s_ ?_;simp[hw])
  refine lkA [(1,LI l),(3,.vptr 0 0),(5,.vptr 1 0),(7,.sl q 1 0 acc.length),(11,.list (a.mv.map encMv)),(12,.i a.mv.length),(13,.i (j+1:Nat))] ?_;have:=z6 q _ ⟨by omega,by rw[hh];simpa using g.add [AObj.vars [AV.i a.mv[j].src,AV.i a.mv[j].dst,AV.list (a.mv[j].on.map encL)]]⟩ (by omega);rw[hh]at this;simpa using this
 have z7:j=a.mv.length:=by simp at zc;omega
 subst z7;rw[zY]at g |-;have za:=x0t l x a.mv;repeat(refine s_ ?_;simp)
 refine Qm rfl rfl (Ga H2 q (Ng l x a.mv) g.arr (by omega)) rfl ?_;rintro r H' ⟨rfl,rfl⟩;simp;repeat(refine s_ ?_;simp)
 have g2:=Qf g.arr (.arr 3 1 ((Rj (Ng l x a.mv)).map (AV.int .i64)));have zg:=Ib (Ng l x a.mv);rw[<-zg];refine Qm rfl rfl (I5 _ q (Rj (Ng l x a.mv)) g2 (by omega) (Tv _)) rfl ?_;rintro r H' ⟨rfl,G,rfl⟩;simp;have g3:=Qf g.arr (.arr 3 1 ((Lib.compact (Rj (Ng l x a.mv))++G).map (AV.int .i64)));rw[j1b,z2t (λm hm=>(ha.mv m hm).dst)]at *
 repeat(refine s_ ?_;simp)
 rw[yR]at g3;simp[g3]
end
def c0j(H:List AObj)(l:List Int)(g:Nat)(cap:AV)(f:Int->Bool)(hl:l.length<=1000000000)(hg:∀z∈l,FC prog g [.i z,cap] H (λr H'=>r= .bool (f z)/\H'=H)):
  FC prog 106 [LI l,.fn (.func g) [] [cap]] H (λr H'=>r= .i (q02 f l)/\H'=H):=by
 refine fcB func106 results106 ntmps106 ?_;simp only[Qd];repeat(refine s_ ?_;simp)
 refine lpV (F:=λ(j:Nat)=>⟨[(0,LI l),(1,.fn (.func g) [] [cap]),(7,.i l.length),(8,.i j)],H⟩)
  (λj=>j<=l.length/\∀i,∀hi:i<l.length,i<j->f l[i]=false) (λj=>l.length - j) ?_ 0 ⟨by simp,by simp⟩
 rintro j ⟨hj,hI⟩ ih;repeat(refine s_ ?_;simp)
 refine Qa rfl (λz7=>?_) (λz8=>?_)
 ·have z1:j<l.length:=by simpa using z7
  have hw:=wz j (by omega);repeat(refine s_ ?_;simp[z1])
  refine Qm rfl rfl (hg _ (zL z1)) rfl ?_;rintro r H' ⟨rfl,rfl⟩;simp;repeat(refine s_ ?_;simp)
  refine Qa rfl (λh=>?_) (λh=>?_)
  ·repeat(refine s_ ?_;simp)
   rw[Ba z1 h hI]
  repeat(refine s_ ?_;simp[hw])
  refine Qo (sl':=[(0,LI l),(1,.fn (.func g) [] [cap]),(7,.i l.length),(8,.i (j+1:Nat))]) (ih (j+1) ⟨by omega,λi hi za=>?_⟩ (by omega)) (by simp);by_cases e:i=j
  ·subst e;exact h
  exact hI i hi (by omega)
 have z6:j=l.length:=by simp at z8;omega
 subst z6;repeat(refine s_ ?_;simp)
 rw[Ja hI]
def Mf(H:List AObj)(l:List Int)(g:Nat)(cap:AV)(f:Int->Bool)(hl:l.length<=1000000000)(hg:∀z∈l,FC prog g [.i z,cap] H (λr H'=>r= .bool (f z)/\H'=H)):
  FC prog 47 [LI l,.fn (.func g) [] [cap]] H (λr H'=>r= .bool (l.any f)/\H'=H):=by
 refine fcB func47 results47 ntmps47 ?_;simp only[Qd];repeat(refine s_ ?_;simp)
 refine Qm rfl rfl (c0j H l g cap f hl hg) rfl ?_;rintro r H' ⟨rfl,rfl⟩;simp;repeat(refine s_ ?_;simp)
 rw[<-w1o]
attribute [simp] T4
section
attribute [local irreducible] Ry
end
section
attribute [local irreducible] Zg
attribute [local irreducible] E9
end
section
attribute [local irreducible] Wp Tt Wt Ws
end
section
attribute [local irreducible] v1d Ws
end
def j0j{p:Prd}{i:Nat}(h:i<p.length)(hv:¬(p[i].length<=12)):w2z p=false:=by rw[vV,Ne,u0y];exact λk=>hv (k.2 _ (zL h))
def f1z(p:Prd):PC prog 78 [encP p] (λr=>r= .bool (w2z p)):=by
 refine pcB func78 results78 ntmps78 ?_;simp only[Qd];simp only[encP];refine Wv 0 0 rfl rfl (λhlen=>?_);rw[yE]at hlen;repeat(refine s_ ?_;simp)
 refine Qr p.length (λj=>j<=5/\∀i,∀hi:i<p.length,i<j->p[i].length<=12) (λj=>[(1,.vptr 0 0),(3,.i j)]) (λ_=>[.vars [.list (p.map encL)]]) rfl (by simp) (by simp) (by simp) (by simp) (by simp) ?_;rintro j hj ⟨za,hI⟩ ih;repeat(refine s_ ?_;simp)
 refine Qa rfl (λz6=>?_) (λz7=>?_)
 ·have z1:j<p.length:=by simp at z6;omega
  have zb:j<5:=by simp at z6;omega
  have hw:=wz j (by omega);repeat(refine s_ ?_;simp[z1])
  refine pcL (j25 p[j]) ?_;simp;repeat(refine s_ ?_;simp)
  refine Qa rfl (λhe=>?_) (λhe=>?_)
  ·repeat(refine s_ ?_;simp)
   rw[j0j z1 (by simp at he;omega)]
  repeat(refine s_ ?_;simp[hw])
  refine Qt [] (ih z1 ⟨by omega,λi hi zc=>?_⟩) rfl (by simp) ?_ (by simp) (by simp)
  ·by_cases e:i=j
   ·subst e;simp at he;omega
   exact hI i hi (by omega)
  simp
 have z8:p.length<=j\/5<=j:=by simp at z7;omega
 repeat(refine s_ ?_;simp)
 rw[x_,u0y,decide_eq_true_eq];constructor
 ·intro h4;refine⟨by omega,λs hs=>?_⟩;obtain⟨i,hi,rfl⟩:=yX hs;exact hI i hi (by omega)
 intro h4;omega
section
def N7{a:Aut}:v0t a=true↔a.fin.length<=8/\a.mv.length<=16/\∀m∈a.mv,w2z m.on=true:=by simp only[v0t,z_,decide_eq_true_eq,zX,and_assoc]
attribute [local irreducible] w2z
def z1h(a:Aut):PC prog 27 [encA a] (λr=>r= .bool (v0t a)):=by
 refine pcB func27 results27 ntmps27 ?_;simp only[Qd];simp only[encA];refine Wv 0 2 rfl rfl (λhlen=>?_);rw[yE]at hlen;repeat(refine s_ ?_;simp)
 refine Qr a.mv.length (λj=>j<=20/\∀i,∀hi:i<a.mv.length,i<j->w2z a.mv[i].on=true) (λj=>[(1,.vptr 0 0),(3,.i j)]) (λ_=>[.vars (Qj a)]) rfl (by simp) (by simp) (by simp) (by simp) (by simp) ?_;rintro j hj ⟨za,hI⟩ ih;repeat(refine s_ ?_;simp)
 refine Qa rfl (λz6=>?_) (λz7=>?_)
 ·have z1:j<a.mv.length:=by simp at z6;omega
  have zb:j<20:=by simp at z6;omega
  have hw:=wz j (by omega);repeat(refine s_ ?_;simp[z1])
  refine pcL (f1z a.mv[j].on) ?_;simp;repeat(refine s_ ?_;simp)
  refine Qa rfl (λhe=>?_) (λhe=>?_)
  ·repeat(refine s_ ?_;simp)
   have:v0t a=false:=by rw[vV,Ne,N7];intro k;have:=k.2.2 _ (zL z1);rw[this]at he;cases he
   rw[this]
  repeat(refine s_ ?_;simp[hw])
  refine Qt [] (ih z1 ⟨by omega,λi hi zc=>?_⟩) rfl (by simp) ?_ (by simp) (by simp)
  ·by_cases e:i=j
   ·subst e;simpa using he
   exact hI i hi (by omega)
  simp
 have z8:a.mv.length<=j\/20<=j:=by simp at z7;omega
 repeat(refine s_ ?_;simp)
 rw[x_,N7];simp;constructor
 ·rintro⟨h4,h5⟩;refine⟨by omega,by omega,λm hm=>?_⟩;obtain⟨i,hi,rfl⟩:=yX hm;exact hI i hi (by omega)
 rintro⟨h4,h5,_⟩;omega
end
section
def x1k(p:Prd)(g:Nat)(f:List Iv->Bool)(hg:∀s,PC prog g [LIv s] (λr=>r= .bool (f s))):
  PC prog 176 [.list (p.map encL),.fn (.func g) [] []] (λr=>r= .i (q02 f p)):=by
 refine pcB func176 results176 ntmps176 ?_;simp only[Qd];refine Y5 0 rfl (λhlen=>?_);rw[yE]at hlen;repeat(refine s_ ?_;simp)
 refine Qr p.length (λj=>∀i,∀hi:i<p.length,i<j->f p[i]=false) (λj=>[(0,.list (p.map encL)),(1,.fn (.func g) [] []),(7,.i p.length),(8,.i j)]) (λ_=>[]) rfl (by simp) (by simp) (by simp) (by simp) (by simp) ?_;intro j hj hI ih;repeat(refine s_ ?_;simp)
 refine Qa rfl (λz7=>?_) (λz8=>?_)
 ·have z1:j<p.length:=by simpa using z7
  have hw:=wz j (by omega);repeat(refine s_ ?_;simp[z1])
  refine pcL (hg p[j]) ?_;simp;repeat(refine s_ ?_;simp)
  refine Qa rfl (λh=>?_) (λh=>?_)
  ·repeat(refine s_ ?_;simp)
   rw[Ba z1 h hI]
  repeat(refine s_ ?_;simp[hw])
  refine Qt [] (ih z1 (λi hi za=>?_)) rfl (by simp) ?_ (by simp) (by simp)
  ·by_cases e:i=j
   ·subst e;exact h
   exact hI i hi (by omega)
  simp
 have z6:j=p.length:=by simp at z8;omega
 subst z6;repeat(refine s_ ?_;simp)
 rw[Ja hI]
def Gh(p:Prd)(g:Nat)(f:List Iv->Bool)(hg:∀s,PC prog g [LIv s] (λr=>r= .bool (f s))):
  PC prog 111 [.list (p.map encL),.fn (.func g) [] []] (λr=>r= .bool (p.any f)):=by
 refine pcB func111 results111 ntmps111 ?_;simp only[Qd];repeat(refine s_ ?_;simp)
 refine pcL (x1k p g f hg) ?_;simp;repeat(refine s_ ?_;simp)
 rw[<-w1o]
def d1w(s:List Iv):PC prog 177 [LIv s] (λr=>r= .bool (decide (0<s.length))):=by refine pcB func177 results177 ntmps177 ?_;simp only[Qd];repeat(refine s_ ?_;simp)
def y2e(s:List Iv):PC prog 112 [LIv s] (λr=>r= .bool (decide (256<s.length))):=by
 refine pcB func112 results112 ntmps112 ?_;simp only[Qd];repeat(refine s_ ?_;simp)
 omega
def g1q(p:Prd):(!p.any λs=>decide (0<s.length))=Ws p:=by
 unfold Ws;rw[List.not_any_eq_all_not]
 congr 1
 funext s;cases s<;>simp
def j16(p:Prd):PC prog 116 [encP p] (λr=>r= .bool (Ws p)):=by
 refine pcB func116 results116 ntmps116 ?_;simp only[Qd];simp only[encP];repeat(refine s_ ?_;simp)
 refine pcL (Gh p 177 (λs=>decide (0<s.length)) d1w) ?_;simp;repeat(refine s_ ?_;simp)
 rw[<-g1q p,Bool.not_not]
def w2a(m:Mv):Bool:=m.on.any λs=>decide (256<s.length)
def z0s(a:Aut):Cw a=(decide (256<a.fin.length) || decide (2048<a.mv.length) || a.mv.any w2a):=rfl
attribute [local irreducible] w2a
end
abbrev LSy (w:List Sy):AV:= .list (w.map encSy)
section
def w0t(T:Int):List Sy->Int
 |[]=>0
 |x::r=>if Zg T x≠0 then Zg T x else w0t T r
def u1y(a:Aut)(w:List Sy):Int:=if Wu a≠0 then Wu a else if 4096<w.length then 5 else w0t a.types w
def d07(a:Aut)(w:List Sy):Bool×Int:=if u1y a w≠0 then(false,u1y a w)else(Eo a w,0)
def Vh{T:Int}:∀(w:List Sy),w0t T w=0↔∀x∈w,Zg T x=0
 |[]=>by simp[w0t]
 |x::r=>by
  rw[w0t];by_cases h:Zg T x=0
  ·rw[if_neg (λk=>k h),Vh r];simp[h]
  rw[if_pos h];exact⟨λk=>absurd k h,λk=>absurd (k x (by simp)) h⟩
attribute [local irreducible] Zg Eo
end
def Oy:List Iv:=[⟨-1099511627776,1099511627776⟩]
def g09:Rk []=Oy:=by simp[Rk,Te,Oy]
def d1d:PC prog 101 [] (λr=>r=LIv Oy):=by
 refine pcB func101 results101 ntmps101 ?_;simp only[Qd];repeat(refine s_ ?_;simp)
 simp[Oy]
def k2h(n:Int):PC prog 100 [.i n] (λr=>r= .tup [LIv Oy,.i 0]):=by
 refine pcB func100 results100 ntmps100 ?_;simp only[Qd];repeat(refine s_ ?_;simp)
 refine pcL (d1d) ?_;simp;repeat(refine s_ ?_;simp)
section
attribute [local irreducible] upL Oy
def g0p(T:Nat)(hT:T<=1000):PC prog 99 [.i T,.fn (.func 100) [] []] (λr=>r= .tup [encP (yF T Oy),.i 0]):=by
 refine pcB func99 results99 ntmps99 ?_;simp only[Qd];simp only[encP];repeat(refine s_ ?_;simp)
 refine Eu 1 0 145 1 rfl rfl ?_;simp;obtain⟨K,hK⟩:∃K,K=[AObj.vars [AV.nils],AObj.vars [AV.nils]]:=⟨_,rfl⟩
 have hst:=GL.start (K:=K) (S:=1) [] [] 145 1 (by rw[hK];simp);refine lpV (F:=λ(u:Nat×Nat×List AObj)=>⟨[(1,.fn (.func 100) [] []),(4,.vptr 0 0),(6,.vptr 1 0),(10,.i T),(11,.i u.1)],u.2.2⟩)
  (λu=>u.1<=T/\GL K u.2.2 1 u.2.1 [] [] 145 1 (upL (λ_=>Oy) u.1)) (λu=>T - u.1) ?_ (0,K.length,_) ⟨by simp,by rw[Bk,hK]at *;exact hst⟩
 rintro⟨j,q,H2⟩ ⟨hj,g⟩ ih;simp only at hj g ih |-;have gR:H2[0]?=some (AObj.vars [AV.nils]):=g.kp (by decide) (by rw[hK];rfl);have g2:=g.cell;have g3:=g.arr;rw[Tw]at g2;simp only[vM]at g2;repeat(refine s_ ?_;simp)
 refine Qa rfl (λzd=>?_) (λze=>?_)
 ·have zf:j<T:=by simpa using zd
  have hw:=wz j (by omega);repeat(refine s_ ?_;simp)
  refine pcL (k2h j) ?_;simp;repeat(refine s_ ?_;simp)
  refine Qk rfl ?_;have z6:∀L:List AObj,(H2.set q .dead++L)[1]?=some (AObj.vars [AV.sl q 1 0 j]):=λL=>by have:=g.at L;rw[Tw]at this;exact this
  have z8:∀(L:List AObj) (h:1<(H2.set q .dead++L).length),(H2.set q .dead++L)[1]'h=AObj.vars [AV.sl q 1 0 j]:=λL h=>by have:=z6 L;rw[zI h]at this;exact Option.some.inj this
  have za:=λA y=>g.put A y (Tw _ _).symm;have zg:upL (λ_=>Oy) j++[encL Oy]=upL (λ_=>Oy) (j+1):=(Bg _ _).symm;have z1:=λH=>ih (j+1,H2.length+1,H);have z7:=Tw (λ_=>Oy) j;simp only[<-zg]at z1;repeat(refine s_ ?_;simp[g2])
  generalize upL (λ_=>Oy) j=xs at *
  refine apS T68 P6 ?_;simp[Qb g3,Qg g3,z7,z6,z8];refine⟨by simp[Wo,Qb g3,Qg g3,z7,z6,z8]<;>omega,?_⟩;repeat(refine s_ ?_;simp[g2,hw,z6,z8])
  refine Qo (sl':=[(1,.fn (.func 100) [] []),(4,.vptr 0 0),(6,.vptr 1 0),(10,.i T),(11,.i (j+1:Nat))]) (z1 _ ⟨by omega,za _ _⟩ (by omega)) ?_;simp
 have zb:j=T:=by simp at ze;omega
 subst zb;have hS:=(zB.1 g2).1;have zh:q≠0/\q≠1:=by have:=g.ge;rw[hK]at this;simp at this;omega
 have z7:=Tw (λ_=>Oy) j;have zc: .list (upL (λ_=>Oy) j)=AV.list ((yF j Oy).map encL):=by rw[y0q];simp[Function.comp_def,List.map_const']
 generalize upL (λ_=>Oy) j=xs at *
 refine Q0 q g3 1 g2 ?_;have k1:∀X,((H2.set q .dead).set 1 X)[0]?=some (AObj.vars [AV.nils]):=λX=>Qc (by decide) (Qc zh.1 gR _) _;have k2:∀X,((H2.set q .dead).set 1 X)[1]?=some X:=λX=>zK (by simpa using hS);have k3:∀X Y,(((H2.set q .dead).set 1 X).set 0 Y)[0]?=some Y:=λX Y=>Qf (k1 X) _;simp[z7];rw[zT (by omega)];repeat(refine s_ ?_;simp[k1,k2,k3])
 have h2:=AV.list.inj zc;rw[List.map_replicate]at h2;exact h2
def x0e(T:Int)(h1:1<=T)(h2:T<=16):PC prog 42 [.i T] (λr=>r= .tup [encP (Wt T.toNat),.i 0]):=by
 refine pcB func42 results42 ntmps42 ?_;simp only[Qd];simp only[encP];have hw:Wt T.toNat=yF T.toNat Oy:=by rw[Wt,g09]
 have hT:((T.toNat:Nat):Int)=T:=by omega
 have hc:=g0p T.toNat (by omega);rw[hT]at hc;have n1:¬T<1:=by omega
 have n2:¬16<T:=by omega
 rw[hw];repeat(refine s_ ?_;simp[n1,n2])
 refine Qa rfl (λh=>?_) (λh=>?_)
 ·simp at h
 repeat(refine s_ ?_;simp)
 refine pcL (hc) ?_;simp;repeat(refine s_ ?_;simp)
end
section
attribute [local irreducible] A0
def q0t(p:Prd):PC prog 125 [encP p] (λr=>r= .fn (.func 188) [] [.iptr [.list (p.map encL)]]):=by refine pcB func125 results125 ntmps125 ?_;simp only[Qd];simp only[encP];repeat(refine s_ ?_;simp)
def k0z(p:Prd)(h0:A0 [p]=0)(hv:Ws p=false):PC prog 64 [encP p] (λr=>r= .tup [encSy (Qh p),.i 0]):=by
 have hlen:p.length<=16:=by
  unfold A0 at h0;by_cases hc:E9 p.length p=0
  ·have:=((Eg _ p).1 hc).1;omega
  rw[if_pos hc]at h0;exact absurd h0 hc
 obtain⟨t,x,rr,h1,h2,h3⟩:∃t x r,p[t]?=some (x::r)/\Qu p 0=(0+t,x.lo)/\∀j,j<t->p[j]?=some []:=by refine Ll p 0 ?_;rw[Ws,List.all_eq_false]at hv;obtain⟨s,hs,hn⟩:=hv;exact⟨s,hs,λe=>hn (by rw[e];rfl)⟩
 rw[Nat.zero_add]at h2;have z8:Qh p=⟨t,x.lo⟩:=by rw[Qh,h2]
 rw[z8];obtain⟨zd,za⟩:=zB.1 h1;refine pcB func64 results64 ntmps64 ?_;simp only[Qd];simp only[encP,encSy];repeat(refine s_ ?_;simp)
 refine Ek 3 rfl ?_;simp;refine pcL (Ag [p]) ?_;simp;repeat(refine s_ ?_;simp)
 refine Qa rfl (λh=>by rw[h0]at h;simp at h) (λh=>?_);repeat(refine s_ ?_;simp)
 refine pcL (q0t p) ?_;simp;repeat(refine s_ ?_;simp)
 refine Eb rfl (Rf:=λ_ H'=>4<H'.length/\(∃sl' ps' a' b',H'[4]?=some (.lp false (some Code.ret) 25 sl' ps' a' b'))/\H'[1]?=some (.vars [.i t,.i x.lo])/\H'[2]?=some (.vars [.i 0])) ?_ ?_
 ·simp;refine A9 λH1 z6=>?_;have f1:H1[1]?=some (.vars [.i 0,.i 0]):=by rw[z6];rfl
  have f2:H1[2]?=some (.vars [.i 0]):=by rw[z6];rfl
  have f4:=congrArg (λh:List AObj=>h[4]?) z6;simp at f4;have zb:H1.length=5:=by rw[z6];simp
  clear z6;refine fcB func188 results188 ntmps188 ?_;simp only[Qd];repeat(refine s_ ?_;simp)
  refine lpV (F:=λ(u:Nat)=>⟨[(0,.yld 4),(6,.list (p.map encL)),(7,.i p.length),(8,.i u)],H1⟩) (λu=>u<=t) (λu=>t - u) ?_ 0 (by simp);rintro j hj ih;have z1:j<p.length:=by omega
  have hw:=wz j (by omega);repeat(refine s_ ?_;simp)
  refine Qa rfl (λ_=>?_) (λzc=>by simp at zc;omega);by_cases hjt:j=t
  ·subst hjt;repeat(refine s_ ?_;simp[z1,za])
   refine Tb rfl rfl (q:=4) rfl rfl f4 rfl rfl rfl (λjm K2=>jm=some Code.ret/\5<=K2.length/\K2[1]?=some (.vars [.i j,.i x.lo])/\K2[2]?=some (.vars [.i 0])) ?_ ?_
   ·simp[Rh];have e1:=Qc (j:=4) (by decide) f1 .dead;have e2:=Qc (j:=4) (by decide) f2 .dead;have e4:=Qf f4 .dead;have e6:(H1.set 4 .dead).length=5:=by simp[zb]
    generalize H1.set 4 .dead=E at *
    have e3:∀y,(E.set 1 y)[2]?=some (.vars [.i 0]):=λy=>Qc (by decide) e2 y;repeat(refine s_ ?_;simp[e1,e2,e3])
    exact⟨Qc (by decide) (Qc (by decide) e4 _) _,rfl,by simp[e6],Qc (by decide) (Qf e1 _) _,Qf (e3 _) _⟩
   rintro jm K2 ⟨rfl,v1,v2,v3⟩;simp;repeat(refine s_ ?_;simp)
   have v6:4<K2.length:=by omega
   refine Qa rfl (λ_=>?_) (λh=>by cases h);repeat(refine s_ ?_;simp)
   exact⟨by omega,⟨_,_,_,_,zK v6⟩,v2,v3⟩
  have z7:p[j]=[]:=by have:=h3 j (by omega);rw[zI z1]at this;exact Option.some.inj this
  repeat(refine s_ ?_;simp[z1,z7])
  refine Wq rfl rfl ?_;simp;refine Qk rfl ?_;simp;repeat(refine s_ ?_;simp[hw])
  exact Qo (sl':=[(0,.yld 4),(6,.list (p.map encL)),(7,.i p.length),(8,.i (j+1:Nat))]) (ih (j+1) (by omega) (by omega)) (by simp)
 rintro r H' ⟨hl,⟨sl',ps',a',b',k4⟩,k1,k2⟩;refine⟨_,_,_,_,_,_,_,k4,?_⟩;simp;have u1:=Qc (j:=4) (by decide) k1 .dead;have u2:=Qc (j:=4) (by decide) k2 .dead;generalize H'.set 4 .dead=E at *
 repeat(refine s_ ?_;simp[u1,u2])
end
section
abbrev w3l:Iv:=⟨-1099511627776,1099511627776⟩
def Ig(i:Nat):Qq [] i=[]:=rfl
def Sb{l:List Prd}{j i:Nat}(hj:j<l.length)(hi:i<l[j].length):Qq (l.take (j+1)) i=Qq (l.take j) i++l[j][i]:=by unfold Qq;rw[zR hj,wV];simp[yL,hi]
def P3{T:Nat}{l:List Prd}(hl:∀p∈l,PCk T p)(i:Nat):(Qq l i).length<=256 * l.length:=by
 induction l with
 |nil=>simp[Qq]
 |cons p r ih=>
  have h1:=ih (λq hq=>hl q (by simp[hq]));have h2:(p.getD i []).length<=256:=by
   by_cases hi:i<p.length
   ·rw[Ef hi];exact((hl p (by simp)).2 _ (zL hi)).len
   simp[yL,hi]
  unfold Qq at *;rw[List.flatMap_cons,zW,List.length_cons];omega
def Bb(xs:List Iv):List Int:=Pa (w3l::xs)
def v18(xs:List Iv)(x:Iv):Bb (xs++[x])=Bb xs++[x.lo,x.hi+1]:=by unfold Bb;rw[<-List.cons_append,Vi]
def B8(xs:List Iv):(Bb xs).length=2 * xs.length+2:=by rw[Bb,Kk];simp;omega
def v0i(l:List Prd)(i:Nat):Lib.compact (Rj (Bb (Qq l i)))=Wm l i:=rfl
attribute [local irreducible] Bb Rj Lib.compact Qq
def u2g(T:Nat)(l:List Prd)(i:Nat)(hi:i<T)(hT:T<=16)(hl:∀p∈l,PCk T p)(hn:l.length<=256):PC prog 166 [LP l,.i i] (λr=>r=LI (Wm l i)):=by
 refine pcB func166 results166 ntmps166 ?_;simp only[Qd];repeat(refine s_ ?_;simp)
 have h2:Bb (Qq (l.take 0) i)=[-1099511627776,1099511627777]:=by rw[wB,Ig,Bb];rfl
 have zi:=P3 hl i;refine lpW (F:=λ(u:Nat×Nat×List AObj)=>⟨[(0,LP l),(1,.i i),(5,.sl u.2.1 1 0 (Bb (Qq (l.take u.1) i)).length),(11,LP l),(12,.i l.length),(13,.i u.1)],u.2.2⟩)
  (λu=>u.1<=l.length/\SL [] u.2.2 u.2.1 3 1 ((Bb (Qq (l.take u.1) i)).map (AV.int .i64))) (λu=>l.length - u.1) ?_ (0,0,_) ⟨by simp,by rw[h2];exact⟨rfl,by simp,λj hj=>by simp at hj⟩⟩ (by rw[h2];simp)
 rintro⟨j,q,H2⟩ ⟨hj,g⟩ ih;simp only at hj g ih |-;repeat(refine s_ ?_;simp)
 refine Qa rfl (λzj=>?_) (λzk=>?_)
 ·have z6:j<l.length:=by simpa using zj
  have hw:=wz j (by omega);have hp:=hl _ (zL z6);have z8:i<l[j].length:=by rw[hp.1];exact hi
  have hs:=hp.2 _ (zL z8);have hst:=Sb z6 z8;have za:=P3 (l:=l.take j) (λp hp=>hl p (xY hp)) i;rw[xR]at za;have zf:=hs.len;have zb:=λk hk=>hs.iv (j:=k) hk;repeat(refine s_ ?_;simp[z6,z8])
  generalize l[j][i]=s at *;generalize hA:Qq (l.take j) i=A at *;refine lpV (F:=λ(u:Nat×Nat×List AObj)=>⟨[(0,LP l),(1,.i i),(5,.sl u.2.1 1 0 (Bb (A++s.take u.1)).length),(11,LP l),(12,.i l.length),(13,.i j),(21,LIv s),(22,.i s.length),(23,.i u.1)],u.2.2⟩)
   (λu=>u.1<=s.length/\SL [] u.2.2 u.2.1 3 1 ((Bb (A++s.take u.1)).map (AV.int .i64))) (λu=>s.length - u.1) ?_ (0,q,_) ⟨by simp,by rw[wB,yV];exact g.add _⟩
  rintro⟨m,q',H3⟩ ⟨hm,g'⟩ ih';simp only at hm g' ih' |-;repeat(refine s_ ?_;simp)
  refine Qa rfl (λzc=>?_) (λzd=>?_)
  ·have z1:m<s.length:=by simpa using zc
   have zl:=wz m (by omega);obtain⟨b1,b2,b3⟩:=zb m z1;have zm:IntKind.i64.wrap (s[m].hi+1)=s[m].hi+1:=wrap_i64 _ (by omega) (by omega);have zn:Bb (A++s.take (m+1))=Bb (A++s.take m)++[s[m].lo,s[m].hi+1]:=by rw[zR z1,<-List.append_assoc,v18]
   have zg:=B8 (A++s.take m);rw[zW,xR]at zg;have zh:=λq' H'=>ih' (m+1,q',H');simp only[zn]at zh;generalize Bb (A++s.take m)=acc at *
   repeat(refine s_ ?_;simp[z1,zm])
   refine apS T47 T3 ?_;simp[Qb g'.arr,Qg g'.arr];refine⟨by simp[Wo,Qb g'.arr,Qg g'.arr]<;>omega,?_⟩;repeat(refine s_ ?_;simp[zl])
   refine lkA [(0,LP l),(1,.i i),(5,.sl (H3.length+2) 1 0 (acc.length+2)),(11,LP l),(12,.i l.length),(13,.i j),(21,LIv s),(22,.i s.length),(23,.i (m+1:Nat))] ?_;have:=zh (H3.length+2) _ ⟨by omega,g'.put [AObj.vars [AV.i s[m].lo,AV.i s[m].hi],AObj.arr 3 1 [AV.i s[m].lo,AV.i (s[m].hi+1)]] _ rfl⟩ (by omega);simpa using this
  have z7:m=s.length:=by simp at zd;omega
  subst z7;rw[zY]at g' |-;repeat(refine s_ ?_;simp[hw])
  refine lkA [(0,LP l),(1,.i i),(5,.sl q' 1 0 (Bb (A++s)).length),(11,LP l),(12,.i l.length),(13,.i (j+1:Nat))] ?_;have:=ih (j+1,q',H3) ⟨by omega,by rw[hst];exact g'⟩ (by show l.length - (j+1)<l.length - j;omega);rw[hst]at this;exact this
 have ze:j=l.length:=by simp at zk;omega
 subst ze;rw[zY]at g |-;have zg:=B8 (Qq l i);rw[<-v0i];generalize Bb (Qq l i)=acc at *
 repeat(refine s_ ?_;simp)
 refine Qm rfl rfl (Ga H2 q acc g.arr (by omega)) rfl ?_;rintro r H' ⟨rfl,rfl⟩;simp;repeat(refine s_ ?_;simp)
 have g2:=Qf g.arr (.arr 3 1 ((Rj acc).map (AV.int .i64)));have zf:=Ib acc;rw[<-zf];refine Qm rfl rfl (I5 _ q (Rj acc) g2 (by omega) (Tv _)) rfl ?_;rintro r H' ⟨rfl,G,rfl⟩;simp;have g3:=Qf g.arr (.arr 3 1 ((Lib.compact (Rj acc)++G).map (AV.int .i64)));repeat(refine s_ ?_;simp)
 rw[yR]at g3;simp[g3]
end
section
attribute [simp] c2s T5 T9
def sb(b:Bool):UInt8:=if b then 1 else 0
def sgB(bs:List Bool):List UInt8:=bs.map sb
def c0a:∀ {a b:List Bool},sgB a=sgB b->a=b
 |[],[],_=>rfl
 |[],_::_,h=>by simp[sgB]at h
 |_::_,[],h=>by simp[sgB]at h
 |x::a,y::b,h=>by simp only[sgB,List.map_cons,List.cons.injEq]at h;obtain⟨h1,h2⟩:=h;rw[c0a (a:=a) (b:=b) h2];cases x<;>cases y<;>simp[sb]at h1 |-
def V5(bs:List Bool):(sgB bs).length=bs.length:=by simp[sgB]
def sgJ(bs:List Bool)(j:Nat):List AV:=(sgB (bs.take j)++yF (bs.length - j) 0).map byteAV
def y24{bs:List Bool}{j:Nat}(h:j<=bs.length):(sgJ bs j).length=bs.length:=by simp[sgJ,sgB];omega
def j10(bs:List Bool):yF bs.length (AV.int .u8 0)=sgJ bs 0:=by simp[sgJ,sgB]
def u2a(bs:List Bool):sgJ bs bs.length=(sgB bs).map byteAV:=by simp[sgJ]
def q3x{bs:List Bool}{j:Nat}(h:j<bs.length)(hb:bs[j]=true):(sgJ bs j).set j (AV.int .u8 1)=sgJ bs (j+1):=by
 have h1:(sgB (bs.take j)).length=j:=by simp[sgB];omega
 have e:bs.length - j=(bs.length - (j+1))+1:=by omega
 unfold sgJ;rw[yR,List.set_append_right (h:=by simp[h1]),zR h,e,uz];have hm:j - min j bs.length=0:=by omega
 simp[h1,sgB,hb,sb,byteAV,hm]
def u2h{bs:List Bool}{j:Nat}(h:j<bs.length):(sgJ bs j)[j]?=some (AV.int .u8 0):=by
 have h1:(sgB (bs.take j)).length=j:=by simp[sgB];omega
 unfold sgJ;have e:bs.length - j=(bs.length - (j+1))+1:=by omega
 rw[yR,zF (by simp[h1]),e,uz];simp[h1]
def c2x{bs:List Bool}{j:Nat}(h:j<bs.length)(hb:bs[j]=false):sgJ bs j=sgJ bs (j+1):=by
 have e:bs.length - j=(bs.length - (j+1))+1:=by omega
 unfold sgJ;rw[zR h,e,uz];simp[sgB,hb,sb]
def u2k{l:List Prd}{i j:Nat}(n:Int)(hj:j<l.length)(hi:i<l[j].length)(h:j<(Oz l i n).length):(Oz l i n)[j]=Ul l[j][i] n:=by simp[Oz,yL,hi]
attribute [local irreducible] sgJ sgB Ul Oz
def Mr(T:Nat)(l:List Prd)(i:Nat)(n:Int)(hi:i<T)(hT:T<=16)(hl:∀p∈l,PCk T p)(hn:l.length<=256):PC prog 167 [LP l,.i i,.i n] (λr=>r= .str (sgB (Oz l i n))):=by
 refine pcB func167 results167 ntmps167 ?_;simp only[Qd];have z6:(Oz l i n).length=l.length:=by simp[Oz]
 repeat(refine s_ ?_;simp)
 refine Ez tOk rfl rfl rfl c2s rfl T5 rfl rfl rfl (n:=l.length) (by simp;omega) (by unfold maxLen;omega) (.int .u8 0) rfl ?_;simp;rw[<-z6,j10];repeat(refine s_ ?_;simp)
 refine lpW (F:=λ(u:Nat×List AObj)=>⟨[(1,.i i),(2,.i n),(7,.sl 0 1 0 l.length),(15,LP l),(16,.i l.length),(17,.i u.1)],u.2⟩)
  (λu=>u.1<=l.length/\u.2[0]?=some (.arr 5 1 (sgJ (Oz l i n) u.1))) (λu=>l.length - u.1) ?_ (0,_) ⟨by simp,rfl⟩ (by simp[z6])
 rintro⟨j,H2⟩ ⟨hj,g⟩ ih;simp only at hj g ih |-;have ze:=y24 (bs:=Oz l i n) (j:=j) (by omega);repeat(refine s_ ?_;simp)
 refine Qa rfl (λzg=>?_) (λzh=>?_)
 ·have z1:j<l.length:=by simpa using zg
  have hw:=wz j (by omega);have hp:=hl _ (zL z1);have za:i<l[j].length:=by rw[hp.1];exact hi
  have hs:=hp.2 _ (zL za);have zi:=u2k n z1 za (by omega);have hT:=q3x (bs:=Oz l i n) (j:=j) (by omega);have hF:=c2x (bs:=Oz l i n) (j:=j) (by omega);rw[zi]at hT hF;have zb:c13 l[j][i] n=(Ul l[j][i] n,0):=by rw[c13,if_pos ((Gr _).2 hs)]
  have z7:=λH'=>ih (j+1,H');simp only at z7;repeat(refine s_ ?_;simp[z1,za])
  refine pcL (Lu l[j][i] n) ?_;simp;rw[zb];generalize Ul l[j][i] n=b at *
  repeat(refine s_ ?_;simp)
  have gL:∀L,(H2++L)[0]?=some (.arr 5 1 (sgJ (Oz l i n) j)):=λL=>Qb g L;cases b with
  |true=>
   rw[<-hT rfl]at z7;clear hT hF;refine Qa rfl (λ_=>?_) (λh=>by cases h);have zc:=u2h (bs:=Oz l i n) (j:=j) (by omega);have zj:∀hh,(sgJ (Oz l i n) j)[j]'hh=AV.int .u8 0:=λhh=>by rw[zI hh]at zc;exact Option.some.inj zc
   have gL1:∀L hh,(H2++L)[0]'hh= .arr 5 1 (sgJ (Oz l i n) j):=λL hh=>by have:=gL L;rw[zI hh]at this;exact Option.some.inj this
   repeat(refine s_ ?_;simp[gL,gL1,ze,z1,z6,zc,zj,hw])
   exact lkB (z7 _ ⟨by omega,Qf (gL _) _⟩ (by omega))
  |false=>
   rw[<-hF rfl]at z7;refine Qa rfl (λh=>by cases h) (λ_=>?_);repeat(refine s_ ?_;simp[hw])
   exact lkB (z7 _ ⟨by omega,gL _⟩ (by omega))
 have zd:j=l.length:=by simp at zh;omega
 subst zd;have z8:=u2a (Oz l i n);rw[z6]at z8;rw[z8]at g ze;have zf:=V5 (Oz l i n);generalize sgB (Oz l i n)=s at *
 repeat(refine s_ ?_;simp)
 refine y00 tOk rfl rfl c2s rfl T5 rfl T9 rfl rfl (s:=s) (by simp[g,zf,z6];rw[zT (by simp[zf,z6])]) rfl ?_;simp;repeat(refine s_ ?_;simp)
end
section
open Go.RowKit Go.Shelf Go.Lib Go.Sort
def z0h(x y:Iv)(W:World):Calls prog 175 #[.agg #[.int .i64 x.lo,.int .i64 x.hi],.agg #[.int .i64 y.lo,.int .i64 y.hi]] W λe w'=>e= .returned (.int .i64 (Lib.compareInt x.lo y.lo))/\∃q os',w'=grow (W.drewN q) os':=by
 have z1:=λW'=>Tryz.cmp_Compare_int x.lo y.lo W';generalize Lib.compareInt x.lo y.lo=r at z1 |-
 go_enter func175,ntmps175
 go_wp2_with (go_at_call 133;refine(z1 _).mono ?_;rintro e w' ⟨rfl,rfl⟩)
 go_ret
 exact⟨rfl,0,_,by rw[alloc_eq_grow,alloc_eq_grow,grow_grow];rfl⟩
def d1c(H:List AObj)(p:Nat)(l:List Iv)(hp:H[p]?=some (.arr 144 2 (l.map encIv)))(hl:l.length<=1000000):
  FC prog 174 [.sl p 2 0 l.length,.fn (.func 175) [] []] H
   (λr H'=>r= .tup []/\∃l':List Iv,l'.Perm l/\Xx l'/\H'=H.set p (.arr 144 2 (l'.map encIv))):=by
 refine(z13 (xs:=l.map encIv) (Ts func174 rfl rfl) (by simp) hp (j2l l) [.func (.func 175) #[] #[]] (λw I m vs a b=>K4 _ w I m _ vs a b) (λz1=>∃l':List Iv,l'.Perm l/\Xx l'/\z1=l'.map encIv) ?_ ?_).mono ?_
 ·intro b cap w hH hb hc;have eg:∀args w,(callFunc 175 args).run prog w= .ok (.enter 175 args) w:=enters_of func175 (by kernel_rfl) rfl;have:=AnyQ.slices_SortFunc Tryz.sortIv 2 isAgg144 sizeOf144 Xk (λ_=>rfl) (λx v hv=>by simp[Xk]at hv;rcases hv with rfl|rfl<;>rfl) (λx y=>Lib.compareInt x.lo y.lo) c27 175 #[] b 0 cap l.toArray w eg (λ_ _ _ _ x y=>z0h x y _) hH hb (by simp;omega);change Calls prog 174 _ _ _ at this;rw[show(l.toArray).size=l.length by simp]at this;refine Calls.mono (this) ?_;rintro e w' ⟨rfl,d',n,os,h1,h2,rfl⟩;obtain⟨s1,_,s3⟩:=h1;have hs:d'.toList.length=l.length:=by simpa using s1
  refine⟨rfl,d'.toList.map encIv,flatK Xk 2 d',n,os,⟨d'.toList,?_,?_,rfl⟩,by simp[hs],by simpa using j2l d'.toList,rfl⟩
  ·rw[show d'.extract 0 l.length=d' by simp[<-hs],show l.toArray.extract 0 l.length=l.toArray by simp]at s3;simpa using s3
  refine List.pairwise_iff_getElem.2 λi j hi hj z6=>?_;have:=h2 i j (Nat.zero_le _) z6 (by omega);rw[c2n,getElem!_pos d' i (by simpa using hi),getElem!_pos d' j (by simpa using hj)]at this;simpa using this
 ·rintro h;have z7:l=[]:=by simpa using h
  subst z7;exact⟨⟨[],.refl _,.nil,rfl⟩,λw=>AnyF.slices_SortFunc_none Tryz.sortIv none 0 _ w⟩
 rintro r H' ⟨rfl,z1,⟨l',h1,h2,rfl⟩,rfl⟩;exact⟨rfl,l',h1,h2,rfl⟩
end
section
def G5(l l':List Iv)(z1:∀y∈l,y.lo<=y.hi)(hp:l'.Perm l)(hl:Xx l'):Qz [] l'=Rg l:=
 Ko l' (Py l) [] (hp.trans (Af l).1.symm) hl (Af l).2 (λy hy=>z1 y (hp.mem_iff.1 hy))
def SL.upd{K G:List AObj}{p e sz:Nat}{xs:List AV}(h:SL K G p e sz xs)(L:List AObj)(ys:List AV):SL K (G.set p (.arr e sz ys)++L) p e sz ys:=by have hp:=(zB.1 h.arr).1;have z1:=h.ge;refine⟨by rw[zH (by simpa using hp)];exact zK hp,z1,λj hj=>?_⟩;rw[zH (by simp;omega),zE (by omega)];exact h.keep j hj
attribute [local irreducible] W4 Qz Rg
def q03(H:List AObj)(q:Nat)(l:List Iv)(hq:H[q]?=some (.arr 144 2 (l.map encIv)))(hl:l.length<=1000000)(zf:∀y∈l,Fc y/\y.lo<=y.hi):
  FC prog 110 [.sl q 2 0 l.length] H (λr H'=>r=LIv (Rg l)/\H.length<=H'.length/\∀i,i<H.length->i≠q->H'[i]? =H[i]?):=by
 refine fcB func110 results110 ntmps110 ?_;simp only[Qd];repeat(refine s_ ?_;simp)
 refine Qm rfl rfl (d1c H q l hq hl) rfl ?_;rintro r H' ⟨rfl,l',h1,h2,rfl⟩;simp;have hl':l'.length<=1000000:=by rw[h1.length_eq];exact hl
 have zl:=h1.length_eq;have zc:∀y∈l',Fc y:=λy hy=>(zf y (h1.mem_iff.1 hy)).1;rw[<-G5 l l' (λy hy=>(zf y hy).2) h1 h2,<-zl];have g0:=Qf hq (.arr 144 2 (l'.map encIv));have z7:∀i,i≠q->(H.set q (.arr 144 2 (l'.map encIv)))[i]? =H[i]? :=λi hi=>zE (λe=>hi e.symm);have hlen:(H.set q (.arr 144 2 (l'.map encIv))).length=H.length:=by simp
 generalize H.set q (.arr 144 2 (l'.map encIv))=H1 at *
 repeat(refine s_ ?_;simp)
 refine kpA [(2,.nils),(3,.nils),(9,.sl q 2 0 l'.length),(10,.i l'.length),(11,.i (0:Nat))] ?_;refine W3 q g0 ?_;simp;rw[zT (by simp)];have z1:∀i,i<H.length->i≠q->(H1.set q .dead)[i]? =H[i]? :=λi h1 h2=>by rw[zE (λe=>h2 e.symm)];exact z7 i h2
 have z8:(H1.set q .dead).length=H.length:=by simp[hlen]
 generalize H1.set q .dead=K at *;refine Qw 3 144 2 rfl ?_
 simp;have hst:=SL.start K 144 2;refine lpW (F:=λ(u:Nat×Nat×List AObj)=>⟨[(3,.sl u.2.1 2 0 (Qz [] (l'.take u.1)).length),(9,LIv l'),(10,.i l'.length),(11,.i u.1)],u.2.2⟩)
  (λu=>u.1<=l'.length/\SL K u.2.2 u.2.1 144 2 ((Qz [] (l'.take u.1)).map encIv)) (λu=>l'.length - u.1) ?_ (0,K.length,_) ⟨by simp,by rw[wB,Qz,List.foldl_nil];exact hst⟩ (by simp[z8,Qz])
 rintro⟨j,p,G⟩ ⟨hj,g⟩ ih;simp only at hj g ih |-;repeat(refine s_ ?_;simp)
 refine Qa rfl (λzm=>?_) (λzg=>?_)
 ·have za:j<l'.length:=by simpa using zm
  have hw:=wz j (by omega);have zh:Qz [] (l'.take (j+1))=W4 (Qz [] (l'.take j)) l'[j]:=by rw[zR za,Sm]
  have zi:(Qz [] (l'.take j)).length<=j:=yP (Th _ _) (by simp;omega);have zd:∀y∈Qz [] (l'.take j),Fc y:=D5 _ _ (by simp) (λy hy=>zc y (xY hy));have z6:=λp' G'=>ih (j+1,p',G');simp only[zh]at z6;clear zh;generalize Qz [] (l'.take j)=acc at *;generalize hx:l'[j]=x at *
  repeat(refine s_ ?_;simp[za,hx])
  rcases List.eq_nil_or_concat acc with rfl|⟨ini,y,rfl⟩
  ·refine drT [] (.pv 0 14 (.done)) ?_;simp;refine Qk rfl ?_;simp;repeat(refine s_ ?_;simp)
   refine apS P6 L1 ?_;simp[Qb g.arr,Qg g.arr];refine⟨by simp[Wo,Qb g.arr,Qg g.arr]<;>omega,?_⟩;repeat(refine s_ ?_;simp[hw])
   refine lkA [(3,.sl (G.length+2) 2 0 1),(9,LIv l'),(10,.i l'.length),(11,.i (j+1:Nat))] ?_;have:=z6 (G.length+2) _ ⟨by omega,by rw[W4];exact g.put [AObj.vars [AV.i x.lo,AV.i x.hi],AObj.arr 144 2 [encIv x]] _ rfl⟩ (by omega);rw[W4]at this;simpa using this
  have zn:=(E4 _).1 (zd y (by simp)).2;have zj:IntKind.i64.wrap (y.hi+1)=y.hi+1:=wrap_i64 _ (by omega) (by omega);have gA:=g.arr;rw[List.concat_eq_append]at g gA z6 zi |-;have hlen:(ini++[y]).length=ini.length+1:=by simp
  rw[hlen]at zi |-;have zk:IntKind.i64.wrap (ini.length:Int)=ini.length:=wrap_i64 _ (by omega) (by omega);have hg:((ini++[y]).map encIv)[ini.length]?=some (encIv y):=by simp
  have zb:(ini.length:Int)<ini.length+1:=by omega
  refine drT [] (.pv 0 14 (.done)) ?_;simp[Qb gA,zk,hg,zj,zb];refine Qa rfl (λh1=>?_) (λh1=>?_)
  ·repeat(refine s_ ?_;simp)
   refine drT [14] (.pv 0 14 (.one 14 (.done))) ?_;simp[Qb gA,zk,hg,zj,zb,Qg gA];repeat(refine s_ ?_;simp[hw])
   have hR:W4 (ini++[y]) x=ini++[⟨y.lo,if y.hi<x.hi then x.hi else y.hi⟩]:=by rw[Ej,if_pos (by simpa using h1)]
   rw[hR]at z6;refine lkA [(3,.sl p 2 0 (ini.length+1)),(9,LIv l'),(10,.i l'.length),(11,.i (j+1:Nat))] ?_;have:=z6 p _ ⟨by omega,g.upd [AObj.vars [AV.i x.lo,AV.i x.hi]] _⟩ (by omega);simpa using this
  repeat(refine s_ ?_;simp)
  refine apS P6 L1 ?_;simp[Qb gA,Qg gA];refine⟨by simp[Wo,Qb gA,Qg gA]<;>omega,?_⟩;repeat(refine s_ ?_;simp[hw])
  have hR:W4 (ini++[y]) x=ini++[y]++[x]:=by rw[Ej,if_neg (by simpa using h1)]
  rw[hR]at z6;refine lkA [(3,.sl (G.length+2) 2 0 (ini.length+2)),(9,LIv l'),(10,.i l'.length),(11,.i (j+1:Nat))] ?_;have:=z6 (G.length+2) _ ⟨by omega,g.put [AObj.vars [AV.i x.lo,AV.i x.hi],AObj.arr 144 2 [encIv x]] _ rfl⟩ (by omega);simpa using this
 have ze:j=l'.length:=by simp at zg;omega
 subst ze;rw[zY]at g |-;refine W3 p g.arr ?_;simp;rw[zT (by simp)];repeat(refine s_ ?_;simp)
 have zo:=(zB.1 g.arr).1;have zg:=g.ge;refine⟨by omega,λi h1 h2=>?_⟩;rw[zE (by omega),g.keep i (by omega)];exact z1 i h1 h2
end
section
def Gb(F:Nat->List Iv)(T i:Nat):List AV:=(yQ T).map λk=>if k<i then encL (F k)else .nils
def Bd(F:Nat->List Iv)(T i:Nat):(Gb F T i).length=T:=by simp[Gb]
def Jj(F:Nat->List Iv)(T:Nat):yF T AV.nils=Gb F T 0:=by refine xT (by simp[Gb]) λk h1 h2=>by simp[Gb]
def Vs(F:Nat->List Iv){T i:Nat}(h:i<T):(Gb F T i)[i]?=some .nils:=by simp[Gb,h]
def C5(F:Nat->List Iv){T i:Nat}(h:i<T):(Gb F T i).set i (encL (F i))=Gb F T (i+1):=by
 refine xT (by simp[Gb]) λk h1 h2=>?_;have hk:k<T:=by simpa[Gb]using h2
 rw[List.getElem_set];by_cases e:i=k
 ·subst e;simp[Gb]
 rw[if_neg e];simp only[Gb,List.getElem_map,List.getElem_range];by_cases h3:k<i
 ·rw[if_pos h3,if_pos (by omega)]
 rw[if_neg h3,if_neg (by omega)]
def Hw(F:Nat->List Iv)(T:Nat):Gb F T T=((yQ T).map F).map encL:=by
 refine xT (by simp[Gb]) λk h1 h2=>?_;have hk:k<T:=by simpa[Gb]using h1
 simp[Gb,hk]
def v1g(F:Nat->List Iv)(T:Nat):(Gb F T T).all (λx=>x.cells.all AV.pure)=true:=by rw[Hw,zX];intro x hx;obtain⟨s,_,rfl⟩:=zO.1 hx;simp[AV.cells,AV.pure]
def Mw{T:Nat}{l:List Prd}(hl:∀p∈l,PWf T p){i:Nat}{y:Iv}(hy:y∈Qq l i):Fc y/\y.lo<=y.hi:=by
 obtain⟨p,hp,hx⟩:=Tx.1 hy;by_cases hi:i<p.length
 ·rw[Ef hi]at hx;exact⟨q3y (hl p hp) (zL hi) y hx,((hl p hp).2 _ (zL hi)).1.1 y hx⟩
 simp[yL,hi]at hx
def u0q(T:Nat)(l:List Prd):(Oh T l).length=T:=by simp[Oh]
attribute [local irreducible] Rg Qq Oh Gb
def Vz(T:Nat)(l:List Prd)(hT:T<=16)(hl:∀p∈l,PWf T p)(hn:∀i,i<T->(Qq l i).length<=1000000)(y1:l.length<=1000000):PC prog 53 [.i T,LP l] (λr=>r=encP (Oh T l)):=by
 refine pcB func53 results53 ntmps53 ?_;simp only[Qd];simp only[encP];repeat(refine s_ ?_;simp)
 refine Ez tOk rfl rfl rfl T68 rfl P6 rfl rfl rfl (n:=T) (by simp;omega) (by unfold maxLen;omega) .nils rfl ?_;simp;repeat(refine s_ ?_;simp)
 rw[Jj (λk=>Rg (Qq l k))];refine Jc 1 rfl ?_;simp;refine lpV (F:=λ(u:Nat×List AObj)=>⟨[(0,.i T),(1,LP l),(4,.vptr 0 0),(5,.vptr 2 0),(12,.i T),(13,.i u.1)],u.2⟩)
  (λu=>u.1<=T/\3<=u.2.length/\u.2[0]?=some (.vars [.nils])/\u.2[1]?=some (.va 145 1 (Gb (λk=>Rg (Qq l k)) T u.1))/\u.2[2]?=some (.vars [.sl 1 1 0 T])) (λu=>T - u.1) ?_ (0,_) ⟨by simp,by simp,rfl,rfl,rfl⟩
 rintro⟨i,H2⟩ ⟨hi,hH,g0,g1,g2⟩ ih;simp only at hi hH g0 g1 g2 ih |-;repeat(refine s_ ?_;simp)
 refine Qa rfl (λzp=>?_) (λzq=>?_)
 ·have z1:i<T:=by simpa using zp
  have hw:=wz i (by omega);have zl:=C5 (λk=>Rg (Qq l k)) z1;have zr:=Vs (λk=>Rg (Qq l k)) z1;have z7:=Bd (λk=>Rg (Qq l k)) T i;have zd:=hn i z1;have ze:=λH'=>ih (i+1,H');simp only[<-zl]at ze;clear zl;generalize Gb (λk=>Rg (Qq l k)) T i=row at *
  repeat(refine s_ ?_;simp)
  refine Dp 1 i 144 2 g1 zr ?_;refine lpV (F:=λ(u:Nat×Nat×List AObj)=>⟨[(0,.i T),(1,LP l),(4,.vptr 0 0),(5,.vptr 2 0),(6,.i i),(12,.i T),(13,.i i),(16,LP l),(17,.i l.length),(18,.i u.1)],u.2.2⟩)
   (λu=>u.1<=l.length/\3<=u.2.1/\u.2.2[0]?=some (.vars [.nils])/\u.2.2[1]?=some (.va 145 1 (row.set i (.sl u.2.1 2 0 (Qq (l.take u.1) i).length)))/\u.2.2[2]?=some (.vars [.sl 1 1 0 T])/\u.2.2[u.2.1]?=some (.arr 144 2 ((Qq (l.take u.1) i).map encIv))) (λu=>l.length - u.1) ?_
   (0,H2.length,_) ⟨by simp,hH,Qc (by decide) (Qb g0 _) _,by rw[wB,Ig];exact Qf (Qb g1 _) _,Qc (by decide) (Qb g2 _) _,by rw[wB,Ig];simp only;rw[zE (i:=1) (j:=H2.length) (by omega)];simp⟩
  rintro⟨j,q,G⟩ ⟨hj,zt,k0,k1,k2,k3⟩ ih2;simp only at hj zt k0 k1 k2 k3 ih2 |-;repeat(refine s_ ?_;simp)
  refine Qa rfl (λzf=>?_) (λzg=>?_)
  ·have z6:j<l.length:=by simpa using zf
   have zm:=wz j (by omega);have hp:=hl _ (zL z6);have zh:i<l[j].length:=by rw[hp.1];exact z1
   have hst:=Sb z6 zh;have zi:(Qq (l.take (j+1)) i).length<=1000000:=by refine yP ?_ zd;unfold Qq;rw[<-xI (j+1) l,wV,zW,xI];omega
   rw[hst,zW]at zi;have z8:=λq' G'=>ih2 (j+1,q',G');simp only[hst]at z8;clear hst;repeat(refine s_ ?_;simp[z6,zh])
   generalize hs:l[j][i]=s at *;generalize Qq (l.take j) i=acc at *;refine drT [13,15] (.val 0 (.pv 2 11 (.two 1 (.one 13 (.val 14 (.one 15 (.done)))) 13 (.val 1 (.val 14 (.one 15 (.done))))))) ?_
   simp[Qb k1,Qb k2,z1,zh,z6,hs,z7];have zu:q≠0:=by omega
   have zv:q≠1:=by omega
   have zw:q≠2:=by omega
   have y2:=(zB.1 k3).1;have m0:∀L,(G.set q .dead++L)[0]?=some (AObj.vars [AV.nils]):=λL=>Qb (Qc zu k0 _) L;have m1:∀L,(G.set q .dead++L)[1]?=some (.va 145 1 (row.set i (.sl q 2 0 acc.length))):=λL=>Qb (Qc zv k1 _) L;have zc:∀L hh,(G.set q .dead++L)[1]'hh= .va 145 1 (row.set i (.sl q 2 0 acc.length)):=λL hh=>by have:=m1 L;rw[zI hh]at this;exact Option.some.inj this
   have m2:∀L,(G.set q .dead++L)[2]?=some (AObj.vars [AV.sl 1 1 0 T]):=λL=>Qb (Qc zw k2 _) L;have n2:∀L,(G++L)[2]?=some (AObj.vars [AV.sl 1 1 0 T]):=λL=>Qb k2 L;refine⟨?_,?_⟩
   ·refine apS P6 L1 ?_;simp[Qb k3,Qg k3,m0,m1,zc,m2,n2,z1,z7];refine⟨by simp[Wo,Qb k3,Qg k3,m0,m1,zc,m2,n2,z1,z7]<;>omega,?_⟩;repeat(refine s_ ?_;simp[zm])
    refine lkA [(0,.i T),(1,LP l),(4,.vptr 0 0),(5,.vptr 2 0),(6,.i i),(12,.i T),(13,.i i),(16,LP l),(17,.i l.length),(18,.i (j+1:Nat))] ?_;refine z8 (G.length+1) _ ⟨by omega,by omega,Qc (by decide) (m0 _) _,?_,Qc (by decide) (m2 _) _,?_⟩ (by omega)
    ·rw[Qf (m1 _) _];simp
    rw[zE (by omega),zF (by simp)];simp
   refine apS P6 L1 ?_;simp[Qb k3,Qg k3,m0,m1,zc,m2,n2,z1,z7];refine⟨by simp[Wo,Qb k3,Qg k3,m0,m1,zc,m2,n2,z1,z7]<;>omega,?_⟩;repeat(refine s_ ?_;simp[zm])
   refine lkA [(0,.i T),(1,LP l),(4,.vptr 0 0),(5,.vptr 2 0),(6,.i i),(12,.i T),(13,.i i),(16,LP l),(17,.i l.length),(18,.i (j+1:Nat))] ?_;refine z8 (G.length+1) _ ⟨by omega,by omega,Qc (by decide) (m0 _) _,?_,Qc (by decide) (m2 _) _,?_⟩ (by omega)
   ·rw[Qf (m1 _) _];simp
   rw[zE (by omega),zF (by simp)];simp
  have zb:j=l.length:=by simp at zg;omega
  subst zb;rw[zY]at k1 k3;have zn:∀y∈Qq l i,Fc y/\y.lo<=y.hi:=λy hy=>Mw hl hy;have y3:∀L,(G++L)[2]?=some (AObj.vars [AV.sl 1 1 0 T]):=λL=>Qb k2 L;have zx:∀hh,G[1]'hh= .va 145 1 (row.set i (.sl q 2 0 (Qq l i).length)):=λhh=>by rw[zI hh]at k1;exact Option.some.inj k1
  repeat(refine s_ ?_;simp)
  refine drT [8,10] (.val 0 (.pv 2 6 (.two 1 (.one 8 (.val 9 (.one 10 (.done)))) 8 (.val 1 (.val 9 (.one 10 (.done))))))) ?_;simp[k1,zx,k2,z1,z7];refine⟨?_,?_⟩
  ·refine Qm rfl rfl (q03 G q (Qq l i) k3 zd zn) rfl ?_;rintro r H' ⟨rfl,hl',za⟩;have zy:=(zB.1 k2).1;have u0:=(za 0 (by omega) (by omega)).trans k0;have u1:=(za 1 (by omega) (by omega)).trans k1;have u2:=(za 2 (by omega) (by omega)).trans k2;have zj:∀hh,H'[1]'hh= .va 145 1 (row.set i (.sl q 2 0 (Qq l i).length)):=λhh=>by rw[zI hh]at u1;exact Option.some.inj u1
   simp[u1,zj,u2,z1,z7];repeat(refine s_ ?_;simp[hw])
   exact lkB (ze _ ⟨by omega,by simp;omega,Qc (by decide) u0 _,Qf u1 _,Qc (by decide) u2 _⟩ (by omega))
  refine Qm rfl rfl (q03 G q (Qq l i) k3 zd zn) rfl ?_;rintro r H' ⟨rfl,hl',za⟩;have zy:=(zB.1 k2).1;have u0:=(za 0 (by omega) (by omega)).trans k0;have u1:=(za 1 (by omega) (by omega)).trans k1;have u2:=(za 2 (by omega) (by omega)).trans k2;have zj:∀hh,H'[1]'hh= .va 145 1 (row.set i (.sl q 2 0 (Qq l i).length)):=λhh=>by rw[zI hh]at u1;exact Option.some.inj u1
  simp[u1,zj,u2,z1,z7];repeat(refine s_ ?_;simp[hw])
  exact lkB (ze _ ⟨by omega,by simp;omega,Qc (by decide) u0 _,Qf u1 _,Qc (by decide) u2 _⟩ (by omega))
 have zk:i=T:=by simp at zq;omega
 subst zk;refine P0 1 g1 (v1g _ _) ?_;rw[Hw]at *
 have zz:(yQ i).map (λk=>Rg (Qq l k))=Oh i l:=by unfold Oh;rfl
 rw[zz]at *;refine Q0 1 (Qf g1 _) 2 (Qc (by decide) g2 _) ?_
 have zo:=u0q i l;have e0:∀Y,((H2.set 1 AObj.dead).set 2 Y)[0]?=some (AObj.vars [AV.nils]):=λY=>Qc (by decide) (Qc (by decide) g0 _) _;have y0:∀Y hh,((H2.set 1 AObj.dead).set 2 Y)[0]'hh=AObj.vars [AV.nils]:=λY hh=>by have:=e0 Y;rw[zI hh]at this;exact Option.some.inj this
 have e2:∀Y,((H2.set 1 AObj.dead).set 2 Y)[2]?=some Y:=λY=>Qf (Qc (by decide) g2 _) _;have e3:∀Y Z,(((H2.set 1 AObj.dead).set 2 Y).set 0 Z)[0]?=some Z:=λY Z=>Qf (e0 Y) _;simp[zo];rw[zT (by simp[zo])];repeat(refine s_ ?_;simp[e0,y0,e2,e3])
end
section
def GL.keepAll{K G G':List AObj}{S p:Nat}{pre post:List AV}{e sz:Nat}{xs:List AV}(h:GL K G S p pre post e sz xs)(hk:∀j,j<G.length->G'[j]? =G[j]?)(hl:G.length<=G'.length):GL K G' S p pre post e sz xs:=by have h1:=h.len;have h2:=h.lt;have h3:=(zB.1 h.arr).1;exact⟨(hk _ (by omega)).trans h.cell,(hk _ h3).trans h.arr,h.ge,h.lt,by omega,λj hj z1=>(hk j (by omega)).trans (h.keep j hj z1)⟩
def SL.le{K G:List AObj}{p e sz:Nat}{xs:List AV}(h:SL K G p e sz xs):K.length<=G.length:=by have:=(zB.1 h.arr).1;have:=h.ge;omega
attribute [local irreducible] upL Rk Te
def f1l(T:Nat)(p:Prd)(hp:PWf T p)(hl:∀s∈p,s.length<=1000000)(hT:T<=1000):PC prog 115 [encP p] (λr=>r=encP (Tt p)):=by
 refine pcB func115 results115 ntmps115 ?_;simp only[Qd];simp only[encP];have hlen:=hp.1;repeat(refine s_ ?_;simp)
 refine Eu 2 0 145 1 rfl rfl ?_;simp;obtain⟨K,hK⟩:∃K,K=[AObj.vars [.list (p.map encL)],AObj.vars [AV.nils],AObj.vars [AV.nils]]:=⟨_,rfl⟩
 have hst:=GL.start (K:=K) (S:=2) [] [] 145 1 (by rw[hK];simp);refine lpV (F:=λ(u:Nat×Nat×List AObj)=>⟨[(2,.vptr 1 0),(3,.vptr 2 0),(11,.list (p.map encL)),(12,.i p.length),(13,.i u.1)],u.2.2⟩)
  (λu=>u.1<=p.length/\GL K u.2.2 2 u.2.1 [] [] 145 1 (upL (λi=>Rk (p.getD i [])) u.1)) (λu=>p.length - u.1) ?_ (0,K.length,_) ⟨by simp,by rw[Bk,hK]at *;exact hst⟩
 rintro⟨j,q,H2⟩ ⟨hj,g⟩ ih;simp only at hj g ih |-;repeat(refine s_ ?_;simp)
 refine Qa rfl (λzn=>?_) (λzo=>?_)
 ·have z7:j<p.length:=by simpa using zn
  have hw:=wz j (by omega);have hs:=hp.2 _ (zL z7);have zx:=hl _ (zL z7);have zy:=(Ly hs.1 hs.2).2.2;have zj:upL (λi=>Rk (p.getD i [])) j++[encL (Rk p[j])]=upL (λi=>Rk (p.getD i [])) (j+1):=by rw[Bg,Ef z7]
  have z6:=Tw (λi=>Rk (p.getD i [])) j;have zc:=λq' H'=>ih (j+1,q',H');simp only[<-zj]at zc;clear zj;generalize upL (λi=>Rk (p.getD i [])) j=done at *
  repeat(refine s_ ?_;simp[z7])
  generalize p[j]=l at *
  obtain⟨zk,hb⟩:=hs;refine Qw 6 144 2 rfl ?_;simp;have zd:=SL.start H2 144 2;refine lpV (F:=λ(u:Nat×Nat×List Iv×Int×List AObj)=>⟨[(2,.vptr 1 0),(3,.vptr 2 0),(6,.sl u.2.1 2 0 u.2.2.1.length),(7,.i u.2.2.2.1),(11,.list (p.map encL)),(12,.i p.length),(13,.i j),(17,LIv l),(18,.i l.length),(19,.i u.1)],u.2.2.2.2⟩)
   (λu=>u.1<=l.length/\SL H2 u.2.2.2.2 u.2.1 144 2 (u.2.2.1.map encIv)/\u.2.2.1++Te (l.drop u.1) u.2.2.2.1=Rk l) (λu=>l.length - u.1) ?_ (0,H2.length,[],-1099511627776,_) ⟨by simp,zd,by simp[q2x]⟩
  rintro⟨k,p2,acc,n,G⟩ ⟨hk,s1,g2⟩ ih2;simp only at hk s1 g2 ih2 |-;have zz:acc.length<=1000001:=by have:=congrArg List.length g2;simp only[zW]at this;omega
  repeat(refine s_ ?_;simp)
  refine Qa rfl (λze=>?_) (λzf=>?_)
  ·have z1:k<l.length:=by simpa using ze
   have zp:=hb _ ⟨l[k],zL z1,xC _,zk.1 _ (zL z1)⟩;have zq:=hb _ ⟨l[k],zL z1,zk.1 _ (zL z1),xC _⟩;unfold inR at zp zq;have zl:=wz k (by omega);have zr:IntKind.i64.wrap (l[k].lo - 1)=l[k].lo - 1:=wrap_i64 _ (by omega) (by omega);have zm:IntKind.i64.wrap (l[k].hi+1)=l[k].hi+1:=wrap_i64 _ (by omega) (by omega);rw[Eh z1,Bv]at g2;repeat(refine s_ ?_;simp[z1])
   refine Qa rfl (λh3=>?_) (λh3=>?_)
   ·rw[if_pos (by simpa using h3)]at g2;repeat(refine s_ ?_;simp[z1,zr])
    refine apS P6 L1 ?_;simp[Qb s1.arr,Qg s1.arr];refine⟨by simp[Wo,Qb s1.arr,Qg s1.arr]<;>omega,?_⟩;repeat(refine s_ ?_;simp[z1,zl,zm])
    refine lkA [(2,.vptr 1 0),(3,.vptr 2 0),(6,.sl (G.length+2) 2 0 (acc.length+1)),(7,.i (l[k].hi+1)),(11,.list (p.map encL)),(12,.i p.length),(13,.i j),(17,LIv l),(18,.i l.length),(19,.i (k+1:Nat))] ?_;have:=ih2 (k+1,G.length+2,acc++[(⟨n,l[k].lo - 1⟩:Iv)],l[k].hi+1,_) ⟨by simp;omega,s1.put [AObj.vars [AV.i l[k].lo,AV.i l[k].hi],.arr 144 2 [encIv (⟨n,l[k].lo - 1⟩:Iv)]] ((acc++[(⟨n,l[k].lo - 1⟩:Iv)]).map encIv) rfl,by simpa using g2⟩ (by simp;omega);simpa using this
   rw[if_neg (by simpa using h3)]at g2;repeat(refine s_ ?_;simp[z1,zl,zm])
   refine lkA [(2,.vptr 1 0),(3,.vptr 2 0),(6,.sl p2 2 0 acc.length),(7,.i (l[k].hi+1)),(11,.list (p.map encL)),(12,.i p.length),(13,.i j),(17,LIv l),(18,.i l.length),(19,.i (k+1:Nat))] ?_;have:=ih2 (k+1,p2,acc,l[k].hi+1,_) ⟨by simp;omega,s1.add [AObj.vars [AV.i l[k].lo,AV.i l[k].hi]],by simpa using g2⟩ (by simp;omega);simpa using this
  have zb:k=l.length:=by simp at zf;omega
  subst zb;rw[List.drop_length,Ns]at g2;repeat(refine s_ ?_;simp)
  refine Qa rfl (λh3=>?_) (λh3=>?_)
  ·rw[if_pos (by simpa using h3)]at g2;repeat(refine s_ ?_;simp)
   refine apS P6 L1 ?_;simp[Qb s1.arr,Qg s1.arr];refine⟨by simp[Wo,Qb s1.arr,Qg s1.arr]<;>omega,?_⟩;have s2:=s1.put [.arr 144 2 [encIv (⟨n,1099511627776⟩:Iv)]] ((acc++[(⟨n,1099511627776⟩:Iv)]).map encIv) rfl;have e1:(acc++[(⟨n,1099511627776⟩:Iv)]).length=acc.length+1:=by simp
   rw[g2]at s2 e1;rw[<-e1];have e2:acc.map encIv++[AV.agg [AV.int IntKind.i64 n,AV.int IntKind.i64 1099511627776]]=(Rk l).map encIv:=by rw[<-g2];simp
   rw[e2];refine kpA [(2,.vptr 1 0),(3,.vptr 2 0),(6,.sl (G.length+1) 2 0 (Rk l).length),(11,.list (p.map encL)),(12,.i p.length),(13,.i j)] ?_;generalize zg:G.set p2 AObj.dead++[AObj.arr 144 2 [AV.agg [AV.int IntKind.i64 n,AV.int IntKind.i64 1099511627776]],AObj.arr 144 2 ((Rk l).map encIv)]=GE;have s3:SL H2 GE (G.length+1) 144 2 ((Rk l).map encIv):=by rw[<-zg];simpa using s2
   clear s1 s2 zg;refine W3 (G.length+1) s3.arr ?_;simp;rw[zT (by simp)];have zt:=(zB.1 s3.arr).1;have zu:=s3.ge;have g':=g.keepAll (G':=GE.set (G.length+1) .dead) (λj hj=>by rw[zE (by omega)];exact s3.keep j hj) (by simp;have:=s3.le;omega);generalize GE.set (G.length+1) .dead=E at *
   have c2:=g'.cell;have c3:=g'.arr;rw[z6]at c2;simp only[vM]at c2;have z8:∀L:List AObj,(E.set q .dead++L)[2]?=some (AObj.vars [AV.sl q 1 0 j]):=λL=>by have:=g'.at L;rw[z6]at this;exact this
   have za:=λA y=>g'.put A y z6.symm;repeat(refine s_ ?_;simp[c2])
   refine apS T68 P6 ?_;simp[Qb c3,Qg c3,z6,z8];refine⟨by simp[Wo,Qb c3,Qg c3,z6,z8]<;>omega,?_⟩;repeat(refine s_ ?_;simp[c2,hw,z8])
   exact lkB (zc (E.length+1) _ ⟨by omega,za _ _⟩ (by omega))
  rw[if_neg (by simpa using h3),yV]at g2;subst g2;refine kpA [(2,.vptr 1 0),(3,.vptr 2 0),(6,.sl p2 2 0 (Rk l).length),(11,.list (p.map encL)),(12,.i p.length),(13,.i j)] ?_;have s3:=s1;clear s1;generalize zg:G=GE at *;refine W3 p2 s3.arr ?_
  simp;rw[zT (by simp)];have zt:=(zB.1 s3.arr).1;have zu:=s3.ge;have g':=g.keepAll (G':=GE.set p2 .dead) (λj hj=>by rw[zE (by omega)];exact s3.keep j hj) (by simp;have:=s3.le;omega);generalize GE.set p2 .dead=E at *
  have c2:=g'.cell;have c3:=g'.arr;rw[z6]at c2;simp only[vM]at c2;have z8:∀L:List AObj,(E.set q .dead++L)[2]?=some (AObj.vars [AV.sl q 1 0 j]):=λL=>by have:=g'.at L;rw[z6]at this;exact this
  have za:=λA y=>g'.put A y z6.symm;repeat(refine s_ ?_;simp[c2])
  refine apS T68 P6 ?_;simp[Qb c3,Qg c3,z6,z8];refine⟨by simp[Wo,Qb c3,Qg c3,z6,z8]<;>omega,?_⟩;repeat(refine s_ ?_;simp[c2,hw,z8])
  exact lkB (zc (E.length+1) _ ⟨by omega,za _ _⟩ (by omega))
 have zh:j=p.length:=by simp at zo;omega
 subst zh;have g2:=g.cell;have g3:=g.arr;rw[Tw]at g2;simp only[vM]at g2;have gR:H2[1]?=some (AObj.vars [AV.nils]):=g.kp (by decide) (by rw[hK];rfl);have hS:=(zB.1 g2).1;have zv:q≠1/\q≠2:=by have:=g.ge;rw[hK]at this;simp at this;omega
 have z6:=Tw (λi=>Rk (p.getD i [])) p.length;have zi: .list (upL (λi=>Rk (p.getD i [])) p.length)=AV.list ((Tt p).map encL):=by rw[y0q,k05];rfl
 generalize upL (λi=>Rk (p.getD i [])) p.length=xs at *
 refine Q0 q g3 2 g2 ?_;have k1:∀X,((H2.set q .dead).set 2 X)[1]?=some (AObj.vars [AV.nils]):=λX=>Qc (by decide) (Qc zv.1 gR _) _;have zw:∀X hh,((H2.set q .dead).set 2 X)[1]'hh=AObj.vars [AV.nils]:=λX hh=>by have:=k1 X;rw[zI hh]at this;exact Option.some.inj this
 have k2:∀X,((H2.set q .dead).set 2 X)[2]?=some X:=λX=>zK (by simpa using hS);have k3:∀X Y,(((H2.set q .dead).set 2 X).set 1 Y)[1]?=some Y:=λX Y=>Qf (k1 X) _;simp[z6];rw[zT (by omega)];repeat(refine s_ ?_;simp[k1,zw,k2,k3])
 exact AV.list.inj zi
end
section
def q0o(l:List Bool)(hb:l.length<=1000000):FR prog 113 [.list (l.map .bool)] 4 1 (λr=>r=l.map .bool):=by
 refine w1n tOk func113 rfl results113 rfl (by simp[ntmps113]) ?_;rw[ntmps113];simp only[Qd];repeat(refine s_ ?_;simp)
 refine Si tOk rfl rfl T22 rfl rfl rfl (λb z1=>?_);simp;refine Qa rfl (λh=>?_) (λh=>?_)
 ·subst h;have:l=[]:=by
   cases hx:l
   ·rfl
   have:=z1 (by simp[hx]);cases this
  rw[this];repeat(refine s_ ?_;simp)
 repeat(refine s_ ?_;simp)
 refine apS T22 T4 ?_;simp;refine⟨⟨?_,by simp;omega⟩,?_⟩
 ·intro y hy;obtain⟨x,_,rfl⟩:=zO.1 hy;exact⟨rfl,by simp[AV.cells,AV.leaf]⟩
 repeat(refine s_ ?_;simp)
def Jz(l:List Mv)(hb:l.length<=1000000):FR prog 114 [.list (l.map encMv)] 73 3 (λr=>r=l.map encMv):=by
 refine w1n tOk func114 rfl results114 rfl (by simp[ntmps114]) ?_;rw[ntmps114];simp only[Qd];repeat(refine s_ ?_;simp)
 refine Si tOk rfl rfl T23 rfl rfl rfl (λb z1=>?_);simp;refine Qa rfl (λh=>?_) (λh=>?_)
 ·subst h;have:l=[]:=by
   cases hx:l
   ·rfl
   have:=z1 (by simp[hx]);cases this
  rw[this];repeat(refine s_ ?_;simp)
 repeat(refine s_ ?_;simp)
 refine apS T23 T73 ?_;simp;refine⟨⟨?_,by simp;omega⟩,?_⟩
 ·intro y hy;obtain⟨x,_,rfl⟩:=zO.1 hy;exact⟨rfl,by simp[AV.cells,AV.leaf]⟩
 repeat(refine s_ ?_;simp)
attribute [local irreducible] w2a
def Lm(H:List AObj)(f:Nat)(a:Aut)(hf:H[f]?=some (.arr 4 1 (a.fin.map .bool)))(zd:a.fin.length<=1000000)(ze:a.mv.length<=1000000):
  FC prog 54 [.agg [.i a.types,.sl f 1 0 a.fin.length,.list (a.mv.map encMv)]] H
   (λr H'=>((Cw a=true/\r= .tup [.agg [.i 0,.nils,.nils],.i 5])\/(Cw a=false/\r= .tup [.agg [.i a.types,.sl f 1 0 a.fin.length,.list (a.mv.map encMv)],.i 0]))/\∀i,i<H.length->H'[i]? =H[i]?):=by
 refine fcB func54 results54 ntmps54 ?_;simp only[Qd];repeat(refine s_ ?_;simp)
 refine Qa rfl (λh=>?_) (λh=>?_)
 ·repeat(refine s_ ?_;simp)
  have hb:Cw a=true:=by rw[z0s,vD];left;simp at h |-;omega
  exact⟨hb,λi hi=>zH hi⟩
 have hb:(decide (256<a.fin.length) || decide (2048<a.mv.length))=false:=by simp at h |-;omega
 repeat(refine s_ ?_;simp)
 refine lpV (F:=λ(u:Nat×List AObj)=>⟨[(1,.vptr H.length 0),(2,.vptr (H.length+1) 0),(18,.list (a.mv.map encMv)),(19,.i a.mv.length),(20,.i u.1)],u.2⟩)
  (λu=>u.1<=a.mv.length/\H.length+2<=u.2.length/\(∀i,i<H.length->u.2[i]? =H[i]?)/\u.2[H.length]?=some (.vars [.i a.types,.sl f 1 0 a.fin.length,.list (a.mv.map encMv)])/\u.2[H.length+1]?=some (.vars [.i 0,.nils,.nils])/\∀i,∀hi:i<a.mv.length,i<u.1->w2a a.mv[i]=false) (λu=>a.mv.length - u.1) ?_ (0,_)
  ⟨by simp,by simp,λi hi=>zH hi,by simp,by simp,λi hi h=>by omega⟩
 rintro⟨j,G⟩ ⟨hj,hG,k0,k1,k2,hI⟩ ih;simp only at hj hG k0 k1 k2 hI ih |-;repeat(refine s_ ?_;simp)
 refine Qa rfl (λza=>?_) (λzb=>?_)
 ·have z1:j<a.mv.length:=by simpa using za
  have hw:=wz j (by omega);repeat(refine s_ ?_;simp[z1])
  refine pcL (Gh a.mv[j].on 112 (λs=>decide (256<s.length)) y2e) ?_;simp;repeat(refine s_ ?_;simp)
  have z8:∀L,(G++L)[H.length+1]?=some (.vars [.i 0,.nils,.nils]):=λL=>Qb k2 L;refine Qa rfl (λh=>?_) (λh=>?_)
  ·have k3:∀L Y,((G++L).set (H.length+1) Y)[H.length+1]?=some Y:=λL Y=>Qf (z8 L) Y;repeat(refine s_ ?_;simp[z8,k3])
   have hm:w2a a.mv[j]=true:=by unfold w2a;exact h
   have z6:Cw a=true:=by rw[z0s,vD];right;exact wL.2 ⟨_,zL z1,hm⟩
   exact⟨z6,λi hi=>by rw[zE (by omega),zH (by omega)];exact k0 i hi⟩
  have hm:w2a a.mv[j]=false:=by unfold w2a;exact h
  repeat(refine s_ ?_;simp[hw])
  refine lkA [(1,.vptr H.length 0),(2,.vptr (H.length+1) 0),(18,.list (a.mv.map encMv)),(19,.i a.mv.length),(20,.i (j+1:Nat))] ?_;refine ih (j+1,_) ⟨by simp only;omega,by simp;omega,λi hi=>(zH (by omega)).trans (k0 i hi),Qb k1 _,Qb k2 _,λi hi zc=>?_⟩ (by simp only;omega);by_cases e:i=j
  ·subst e;exact hm
  exact hI i hi (by simp only at zc;omega)
 have z7:j=a.mv.length:=by simp at zb;omega
 subst z7;have z6:Cw a=false:=by rw[z0s,hb,Bool.false_or,vw];intro m hm;obtain⟨i,hi,rfl⟩:=yX hm;rw[hI i hi hi];simp
 have k3:∀Y,(G.set (H.length+1) Y)[H.length+1]?=some Y:=λY=>Qf k2 Y;repeat(refine s_ ?_;simp[k1,k2,k3])
 exact⟨z6,λi hi=>by rw[zE (by omega)];exact k0 i hi⟩
end
section
structure CM (H:List AObj) (a:Aut) (G:List AObj) (f p c:Nat) (xs:List AV):Prop where
 b:G[H.length]?=some (.vars (Qj a))
 r:G[H.length+1]?=some (.vars [.i 0,.nils,.nils])
 k:∀i,i<H.length->G[i]? =H[i]?
 ce:G[c]?=some (.vars [.i a.types,.sl f 1 0 a.fin.length,.sl p 3 0 xs.length])
 fe:G[f]?=some (.arr 4 1 (a.fin.map .bool))
 m:G[p]?=some (.arr 73 3 xs)
 hf:H.length+2<=f
 hc:H.length+2<=c
 hp:H.length+2<=p
def CM.keepAll{H:List AObj}{a:Aut}{G G':List AObj}{f p c:Nat}{xs:List AV}(h:CM H a G f p c xs)(hk:∀j,j<G.length->G'[j]? =G[j]?):CM H a G' f p c xs:=by have l1:=(zB.1 h.b).1;have l2:=(zB.1 h.r).1;have l3:=(zB.1 h.ce).1;have l4:=(zB.1 h.fe).1;have l5:=(zB.1 h.m).1;exact⟨(hk _ l1).trans h.b,(hk _ l2).trans h.r,λi hi=>(hk i (by omega)).trans (h.k i hi),(hk _ l3).trans h.ce,(hk _ l4).trans h.fe,(hk _ l5).trans h.m,h.hf,h.hc,h.hp⟩
def CM.ne1{H:List AObj}{a:Aut}{G:List AObj}{f p c:Nat}{xs:List AV}(h:CM H a G f p c xs):p≠c/\p≠f/\c≠f:=by
 refine⟨λe=>?_,λe=>?_,λe=>?_⟩
 ·have h1:=h.ce;have h2:=h.m;subst e;rw[h1]at h2;simp at h2
 ·have h1:=h.fe;have h2:=h.m;subst e;rw[h1]at h2;simp at h2
 have h1:=h.fe;have h2:=h.ce;subst e;rw[h1]at h2;simp at h2
def CM.put{H:List AObj}{a:Aut}{G:List AObj}{f p c:Nat}{xs:List AV}(h:CM H a G f p c xs)(A:AObj)(ys:List AV):
  CM H a ((G.set p .dead++[A,.arr 73 3 ys]).set c (.vars [.i a.types,.sl f 1 0 a.fin.length,.sl (G.length+1) 3 0 ys.length])) f (G.length+1) c ys:=by
 obtain⟨n1,n2,n3⟩:=h.ne1;have l3:=(zB.1 h.ce).1;have l5:=(zB.1 h.m).1;have hp:=h.hp;have hc:=h.hc;have hf:=h.hf;have low:∀i x,i≠p->i≠c->G[i]?=some x->((G.set p .dead++[A,.arr 73 3 ys]).set c (.vars [.i a.types,.sl f 1 0 a.fin.length,.sl (G.length+1) 3 0 ys.length]))[i]?=some x:=λi x e1 e2 hx=>by rw[zE (λe=>e2 e.symm),zH (by have:=(zB.1 hx).1;simpa using this),zE (λe=>e1 e.symm)];exact hx
 refine⟨low _ _ (by omega) (by omega) h.b,low _ _ (by omega) (by omega) h.r,λi hi=>?_,zK (by simp;omega),low _ _ (by omega) (by omega) h.fe,?_,hf,hc,by omega⟩
 ·have hg:=h.k i hi;have z1:i<G.length:=by omega
  rw[zI z1]at hg;rw[low i _ (by omega) (by omega) (zI z1)];exact hg
 rw[zE (by omega),zF (by simp)];simp
def CM.cell{H:List AObj}{a:Aut}{G:List AObj}{f p c:Nat}{xs:List AV}(h:CM H a G f p c xs)(L:List AObj):(G.set p .dead++L)[c]?=some (.vars [.i a.types,.sl f 1 0 a.fin.length,.sl p 3 0 xs.length]):=
 Qb (Qc h.ne1.1 h.ce _) L
def CM.frz{H:List AObj}{a:Aut}{G:List AObj}{f p c:Nat}{xs:List AV}(h:CM H a G f p c xs)(X:AObj):
  ((G.set p .dead).set c X)[H.length]?=some (.vars (Qj a))/\((G.set p .dead).set c X)[H.length+1]?=some (.vars [.i 0,.nils,.nils])/\((G.set p .dead).set c X)[c]?=some X/\((G.set p .dead).set c X)[f]?=some (.arr 4 1 (a.fin.map .bool))/\∀i,i<H.length->((G.set p .dead).set c X)[i]? =H[i]? :=by
 obtain⟨n1,n2,n3⟩:=h.ne1;have hp:=h.hp;have hc:=h.hc;have hf:=h.hf;refine⟨Qc (by omega) (Qc (by omega) h.b _) _,Qc (by omega) (Qc (by omega) h.r _) _,Qf (Qc n1 h.ce _) _,Qc n3 (Qc n2 h.fe _) _,λi hi=>?_⟩;rw[zE (by omega),zE (by omega)];exact h.k i hi
def u02(l:List Iv):(Rg l).length<=l.length:=by unfold Rg;have:=Th (Py l) [];rw[x13]at this;simpa using this
def u2n{T:Nat}{l:List Prd}{k:Nat}(h:∀i,i<T->(Qq l i).length<=k):∀s∈Oh T l,s.length<=k:=by intro s hs;obtain⟨i,hi,rfl⟩:=zO.1 hs;exact yP (u02 _) (h i (yU.1 hi))
def v0r{a:Aut}(h:OkA a)(s:Int)(i:Nat):(Qq (Co a s) i).length<=1000000:=by
 have h1:(Co a s).length<=2048:=by unfold Co;rw[yE];exact yP (yW _ _) h.mvs
 have h2:∀p∈Co a s,PCk a.types.toNat p:=λp hp=>by obtain⟨m,hm,rfl⟩:=zO.1 hp;exact(h.mv m (List.mem_filter.1 hm).1).on
 have:=P3 h2 i;omega
def z1e(a:Aut)(k:Nat):List Mv:=(yQ k).filterMap λs:Nat=>if Ws (Ed a s)then none else some ⟨s,a.fin.length,Ed a s⟩
def x0a(a:Aut):z1e a a.fin.length=Tz a (Ed a):=rfl
def y1l(a:Aut)(k:Nat):z1e a (k+1)=z1e a k++(if Ws (Ed a k)then []else [⟨k,a.fin.length,Ed a k⟩]):=by unfold z1e;rw[wQ,List.filterMap_append];cases h:Ws (Ed a k)<;>simp[h]
def u0p(a:Aut)(k:Nat):(z1e a k).length<=k:=by unfold z1e;exact yP (List.length_filterMap_le _ _) (by simp)
def c0x(a:Aut):z1e a 0=[]:=rfl
def u1w(a:Aut)(s:Int)(k:Nat):List Prd:=((a.mv.take k).filter λm=>decide (m.src=s)).map (·.on)
def u0f(a:Aut)(s:Int):u1w a s a.mv.length=Co a s:=by rw[u1w,zY];rfl
def y1u(a:Aut)(s:Int)(k:Nat)(h:k<a.mv.length):u1w a s (k+1)=u1w a s k++(if a.mv[k].src=s then [a.mv[k].on]else []):=by unfold u1w;rw[zR h,wZ,yR];by_cases hb:a.mv[k].src=s<;>simp[hb]
def x0u(a:Aut)(s:Int)(k:Nat):(u1w a s k).length<=a.mv.length:=by unfold u1w;rw[yE];exact yP (yW _ _) (by simp;omega)
attribute [local irreducible] z1e Ed Ws Oh Tt Co
def Gk(H:List AObj)(a:Aut)(ha:OkA a):FC prog 55 [encA a] H
  (λr H'=>((∃e,Ad a=(e,Yj)/\e≠0/\r= .tup [.agg [.i 0,.nils,.nils],.i e])\/
   (∃b f,Ad a=(0,b)/\r= .tup [.agg [.i b.types,.sl f 1 0 b.fin.length,.list (b.mv.map encMv)],.i 0]/\H'[f]?=some (.arr 4 1 (b.fin.map .bool))/\H.length<=f))/\∀i,i<H.length->H'[i]? =H[i]?):=by
 have zv:=ha.fin;have zw:=ha.mvs;refine fcB func55 results55 ntmps55 ?_;simp only[Qd];simp only[encA];repeat(refine s_ ?_;simp)
 refine K8 (P:=prog) tOk mixed [10] (.val 0 (.val 1 (.val 2 (.val 3 (.val 5 (.val 6 (.two 4 (.two 7 (.val 8 (.one 9 (.one 10 (.done)))) 9 (.one 7 (.val 8 (.one 10 (.done))))) 9 (.one 4 (.one 7 (.val 8 (.one 10 (.done)))))))))))) (λS'=>∃f p c,CM H a S'.hp f p c (a.mv.map encMv)/\look S'.sl 1=some (.vptr H.length 0)/\look S'.sl 2=some (.vptr (H.length+1) 0)/\look S'.sl 3=some (.i 0)/\look S'.sl 4=some (.vptr c 0)) rfl (by kernel_rfl) ?_ ?_
 ·simp;refine⟨?_,?_⟩
  ·refine S5 rfl rfl (by simp) (q0o a.fin (by omega)) rfl ?_;rintro _ rfl;simp;refine⟨?_,?_⟩
   ·refine S5 rfl rfl (by simp) (Jz a.mv (by omega)) rfl ?_;rintro _ rfl;simp;exact⟨H.length+2,H.length+3,by simp,by simp,λi hi=>zH hi,by simp,by simp,by simp,by omega,by omega,by omega⟩
   refine S5 rfl rfl (by simp) (Jz a.mv (by omega)) rfl ?_;rintro _ rfl;simp;exact⟨H.length+2,H.length+4,by simp,by simp,λi hi=>zH hi,by simp,by simp,by simp,by omega,by omega,by omega⟩
  refine S5 rfl rfl (by simp) (q0o a.fin (by omega)) rfl ?_;rintro _ rfl;simp;refine S5 rfl rfl (by simp) (Jz a.mv (by omega)) rfl ?_;rintro _ rfl;simp;exact⟨H.length+3,H.length+4,by simp,by simp,λi hi=>zH hi,by simp,by simp,by simp,by omega,by omega,by omega⟩
 rintro⟨sl,G⟩ ⟨f,p,c,g,e1,e2,e3,e4⟩;simp only at g e1 e2 e3 e4;refine Ru (sl':=[(1,.vptr H.length 0),(2,.vptr (H.length+1) 0),(3,.i 0),(4,.vptr c 0)]) ?_ (by simp[e1,e2,e3,e4]);have g1:=g.b;repeat(refine s_ ?_;simp[g1])
 refine lpV (F:=λ(u:Nat×Nat×List AObj)=>⟨[(1,.vptr H.length 0),(2,.vptr (H.length+1) 0),(3,.i 0),(4,.vptr c 0),(5,.i a.fin.length),(27,.i a.fin.length),(28,.i u.1)],u.2.2⟩)
  (λu=>u.1<=a.fin.length/\CM H a u.2.2 f u.2.1 c ((a.mv++z1e a u.1).map encMv)) (λu=>a.fin.length - u.1) ?_ (0,p,G) ⟨by simp,by rw[c0x,yV];exact g⟩
 clear g g1;rintro⟨s,p,G⟩ ⟨hs,g⟩ ih;simp only at hs g ih |-;repeat(refine s_ ?_;simp)
 refine Qa rfl (λzx=>?_) (λzy=>?_)
 ·have zz:s<a.fin.length:=by simpa using zx
  have hw:=wz s (by omega);have g1:∀L,(G++L)[H.length]?=some (.vars (Qj a)):=λL=>Qb g.b L;repeat(refine s_ ?_;simp[g1])
  have hst:=SL.start G 70 1;refine lpV (F:=λ(u:Nat×Nat×List AObj)=>⟨[(1,.vptr H.length 0),(2,.vptr (H.length+1) 0),(3,.i 0),(4,.vptr c 0),(5,.i a.fin.length),(6,.i s),(7,.sl u.2.1 1 0 (u1w a s u.1).length),(27,.i a.fin.length),(28,.i s),(33,.list (a.mv.map encMv)),(34,.i a.mv.length),(35,.i u.1)],u.2.2⟩)
   (λu=>u.1<=a.mv.length/\SL G u.2.2 u.2.1 70 1 ((u1w a s u.1).map encP)) (λu=>a.mv.length - u.1) ?_ (0,G.length,_) ⟨by simp,hst⟩ (by simp[u1w])
  rintro⟨k,q,E⟩ ⟨hk,s1⟩ ih2;simp only at hk s1 ih2 |-;repeat(refine s_ ?_;simp)
  refine Qa rfl (λzh=>?_) (λzi=>?_)
  ·have z7:k<a.mv.length:=by simpa using zh
   have zp:=wz k (by omega);have zb:=y1u a s k z7;have y9:=x0u a s k;have z6:=λq' E'=>ih2 (k+1,q',E');simp only[zb]at z6;clear zb;generalize u1w a s k=acc at *
   repeat(refine s_ ?_;simp[z7])
   by_cases hb:a.mv[k].src=s
   ·rw[if_pos hb]at z6;refine Qa rfl (λ_=>?_) (λh=>by simp[hb]at h);repeat(refine s_ ?_;simp)
    refine apS T87 T70 ?_;simp[Qb s1.arr,Qg s1.arr];refine⟨by simp[Wo,Qb s1.arr,Qg s1.arr]<;>omega,?_⟩;repeat(refine s_ ?_;simp[zp])
    refine lkA [(1,.vptr H.length 0),(2,.vptr (H.length+1) 0),(3,.i 0),(4,.vptr c 0),(5,.i a.fin.length),(6,.i s),(7,.sl (E.length+2) 1 0 (acc.length+1)),(27,.i a.fin.length),(28,.i s),(33,.list (a.mv.map encMv)),(34,.i a.mv.length),(35,.i (k+1:Nat))] ?_;have:=z6 (E.length+2) _ ⟨by omega,s1.put [AObj.vars [AV.i a.mv[k].src,AV.i a.mv[k].dst,AV.list (a.mv[k].on.map encL)],.arr 70 1 [encP a.mv[k].on]] ((acc++[a.mv[k].on]).map encP) rfl⟩ (by omega);simpa using this
   rw[if_neg hb,yV]at z6;refine Qa rfl (λh=>by simp[hb]at h) (λ_=>?_);repeat(refine s_ ?_;simp[zp])
   refine lkA [(1,.vptr H.length 0),(2,.vptr (H.length+1) 0),(3,.i 0),(4,.vptr c 0),(5,.i a.fin.length),(6,.i s),(7,.sl q 1 0 acc.length),(27,.i a.fin.length),(28,.i s),(33,.list (a.mv.map encMv)),(34,.i a.mv.length),(35,.i (k+1:Nat))] ?_;have:=z6 q _ ⟨by omega,s1.add [AObj.vars [AV.i a.mv[k].src,AV.i a.mv[k].dst,AV.list (a.mv[k].on.map encL)]]⟩ (by omega);simpa using this
  have zc:k=a.mv.length:=by simp at zi;omega
  subst zc;rw[u0f]at s1 |-;refine W3 q s1.arr ?_;simp;rw[zT (by simp)];have ya:=s1.ge;have yb:=s1.le;have g':=g.keepAll (G':=E.set q .dead) (λj hj=>by rw[zE (by omega)];exact s1.keep j hj);generalize E.set q .dead=G2 at *;clear s1 hst g1
  have g1:=g'.b;repeat(refine s_ ?_;simp[g1])
  have y0:((a.types.toNat:Nat):Int)=a.types:=by have:=ha.types;omega
  have zq:=Vz a.types.toNat (Co a s) (by have:=ha.types;omega) (X3 ha.wfA s) (λi _=>v0r ha s i) (by have:=x0u a s a.mv.length;rw[u0f]at this;omega);rw[y0]at zq;refine pcL (zq) ?_;simp;refine pcL (f1l a.types.toNat (Oh a.types.toNat (Co a s)) (S9 (X3 ha.wfA s)) (u2n (λi _=>v0r ha s i)) (by have:=ha.types;omega)) ?_;simp;have y1:Tt (Oh a.types.toNat (Co a s))=Ed a s:=by unfold Ed;rfl
  rw[y1];repeat(refine s_ ?_;simp)
  refine pcL (j16 (Ed a s)) ?_;simp;repeat(refine s_ ?_;simp)
  have g3:=g'.keepAll (G':=G2++[AObj.vars [AV.list ((Ed a s).map encL)]]) (λj hj=>zH hj);have y3:(G2++[AObj.vars [AV.list ((Ed a s).map encL)]])[G2.length]?=some (AObj.vars [AV.list ((Ed a s).map encL)]):=by simp
  generalize G2++[AObj.vars [AV.list ((Ed a s).map encL)]]=G3 at *
  have zb:=y1l a s;have y4:=u0p a s;have zd:=λp' G'=>ih (s+1,p',G');simp only[zb]at zd;clear zb g';generalize z1e a s=new at *
  have y5:(a.mv++new).length=a.mv.length+new.length:=by simp
  obtain⟨d1,d2,d3⟩:=g3.ne1;have g3c:=g3.ce;have g3m:=g3.m;have g3cc:=g3.cell;rw[yE,y5]at g3c g3cc;cases hv:Ws (Ed a s)with
  |true=>
   rw[hv]at zd;refine Qk rfl ?_;simp[hv];repeat(refine s_ ?_;simp[hw])
   refine lkA [(1,.vptr H.length 0),(2,.vptr (H.length+1) 0),(3,.i 0),(4,.vptr c 0),(5,.i a.fin.length),(27,.i a.fin.length),(28,.i (s+1:Nat))] ?_;have:=zd p G3 ⟨by omega,by simpa using g3⟩ (by omega);exact this
  |false=>
   rw[hv]at zd;refine Qk rfl ?_;simp[hv];repeat(refine s_ ?_;simp[g3c,y3])
   refine apS T23 T73 ?_;simp[Qb g3m,Qg g3m,g3cc,Qb g3c];refine⟨by simp[Wo,Qb g3m,Qg g3m,g3cc,Qb g3c]<;>omega,?_⟩;repeat(refine s_ ?_;simp[hw,g3cc])
   refine lkA [(1,.vptr H.length 0),(2,.vptr (H.length+1) 0),(3,.i 0),(4,.vptr c 0),(5,.i a.fin.length),(27,.i a.fin.length),(28,.i (s+1:Nat))] ?_;have y6:=g3.put (.arr 73 3 [encMv (⟨s,a.fin.length,Ed a s⟩:Mv)]) ((a.mv++(new++[(⟨s,a.fin.length,Ed a s⟩:Mv)])).map encMv);have:=zd (G3.length+1) _ ⟨by omega,y6⟩ (by omega);simpa[Nat.add_assoc]using this
 have zj:s=a.fin.length:=by simp at zy;omega
 subst zj;rw[x0a]at g;have zm:Ad a=if(Tz a (Ed a)).isEmpty then(0,a)else Xq (Oi a):=rfl
 obtain⟨d1,d2,d3⟩:=g.ne1;have yc:=g.hf;have yd:=g.hc;have ye:=g.hp;have y4:(Tz a (Ed a)).length<=a.fin.length:=by rw[<-x0a];exact u0p a _
 by_cases hn:Tz a (Ed a)=[]
 ·rw[hn]at zm;rw[hn,yV]at g;have gz:=g.frz (.vars [.i a.types,.sl f 1 0 a.fin.length,.list (a.mv.map encMv)]);refine Q0 p g.m c g.ce ?_;simp[d2.symm];rw[zT (by simp)];generalize (G.set p AObj.dead).set c (.vars [.i a.types,.sl f 1 0 a.fin.length,.list (a.mv.map encMv)])=E at *
  obtain⟨q1,q2,q3,q4,q5⟩:=gz;have q6:∀Y,(E.set (H.length+1) Y)[H.length+1]?=some Y:=λY=>Qf q2 Y;repeat(refine s_ ?_;simp[q1,q2,q3])
  refine Qk rfl ?_;simp;repeat(refine s_ ?_;simp[q1,q2,q3,q6])
  exact⟨⟨a,by simpa using zm,f,⟨rfl,⟨rfl,rfl⟩,rfl⟩,Qc (by omega) q4 _,by omega⟩,λi hi=>by rw[zE (by omega)];exact q5 i hi⟩
 have ze:Ad a=Xq (Oi a):=by rw[zm,if_neg (by simpa using hn)]
 have gm:=g.ce;rw[yE,zW]at gm;have gb:=g.b;repeat(refine s_ ?_;simp[gb,gm])
 have yg:(Tz a (Ed a)).length≠0:=by simpa using hn
 refine Qa rfl (λh=>by simp at h;omega) (λh=>?_);repeat(refine s_ ?_;simp[gb])
 refine pcL (x0e a.types ha.types.1 ha.types.2) ?_;simp;repeat(refine s_ ?_;simp)
 refine Qa rfl (λh=>by simp at h) (λ_=>?_);have g3:=g.keepAll (G':=G++[AObj.vars [AV.list ((Wt a.types.toNat).map encL)]]) (λj hj=>zH hj);have za:(G++[AObj.vars [AV.list ((Wt a.types.toNat).map encL)]])[G.length]?=some (AObj.vars [AV.list ((Wt a.types.toNat).map encL)]):=by simp
 generalize G++[AObj.vars [AV.list ((Wt a.types.toNat).map encL)]]=G1 at *
 have k1:=g3.ce;rw[yE,zW]at k1;have k2:=g3.fe;have k3:∀L,(G1.set f .dead++L)[c]?=some (.vars [.i a.types,.sl f 1 0 a.fin.length,.sl p 3 0 (a.mv.length+(Tz a (Ed a)).length)]):=λL=>Qb (Qc d3.symm k1 _) L;repeat(refine s_ ?_;simp[k1])
 refine apS T22 T4 ?_;simp[Qb k2,Qg k2,Qb k1,k3];refine⟨by simp[Wo,Qb k2,Qg k2,Qb k1,k3]<;>omega,?_⟩;have lf:=(zB.1 k2).1;have lc:=(zB.1 k1).1;have lp:=(zB.1 g3.m).1;have low:∀(X:AObj) i x,i≠f->i≠c->G1[i]?=some x->((G1.set f .dead++[AObj.arr 4 1 [AV.bool false],AObj.arr 4 1 (a.fin.map AV.bool++[AV.bool false])]).set c X)[i]?=some x:=λX i x e1 e2 hx=>by rw[zE (λe=>e2 e.symm),zH (by have:=(zB.1 hx).1;simpa using this),zE (λe=>e1 e.symm)];exact hx
 have yh:=(zB.1 za).1;have r2:=low (.vars [.i a.types,.sl (G1.length+1) 1 0 (a.fin.length+1),.sl p 3 0 (a.mv.length+(Tz a (Ed a)).length)]) _ _ (by omega) (by omega) g3.r;have m2:=low (.vars [.i a.types,.sl (G1.length+1) 1 0 (a.fin.length+1),.sl p 3 0 (a.mv.length+(Tz a (Ed a)).length)]) _ _ d2 d1 g3.m;have w2:=low (.vars [.i a.types,.sl (G1.length+1) 1 0 (a.fin.length+1),.sl p 3 0 (a.mv.length+(Tz a (Ed a)).length)]) _ _ (λe=>by rw[e,k2]at za;simp at za) (λe=>by rw[e,k1]at za;simp at za) za;have c2:((G1.set f .dead++[AObj.arr 4 1 [AV.bool false],AObj.arr 4 1 (a.fin.map AV.bool++[AV.bool false])]).set c (.vars [.i a.types,.sl (G1.length+1) 1 0 (a.fin.length+1),.sl p 3 0 (a.mv.length+(Tz a (Ed a)).length)]))[c]?=some (.vars [.i a.types,.sl (G1.length+1) 1 0 (a.fin.length+1),.sl p 3 0 (a.mv.length+(Tz a (Ed a)).length)]):=Qf (k3 _) _;have f2:((G1.set f .dead++[AObj.arr 4 1 [AV.bool false],AObj.arr 4 1 (a.fin.map AV.bool++[AV.bool false])]).set c (.vars [.i a.types,.sl (G1.length+1) 1 0 (a.fin.length+1),.sl p 3 0 (a.mv.length+(Tz a (Ed a)).length)]))[G1.length+1]?=some (.arr 4 1 ((Oi a).fin.map AV.bool)):=by rw[zE (by omega),zF (by simp)];simp[Oi]
 have q2:∀i,i<H.length->((G1.set f .dead++[AObj.arr 4 1 [AV.bool false],AObj.arr 4 1 (a.fin.map AV.bool++[AV.bool false])]).set c (.vars [.i a.types,.sl (G1.length+1) 1 0 (a.fin.length+1),.sl p 3 0 (a.mv.length+(Tz a (Ed a)).length)]))[i]? =H[i]? :=λi hi=>by rw[zE (by omega),zH (by simp;omega),zE (by omega)];exact g3.k i hi
 generalize (G1.set f .dead++[AObj.arr 4 1 [AV.bool false],AObj.arr 4 1 (a.fin.map AV.bool++[AV.bool false])]).set c (.vars [.i a.types,.sl (G1.length+1) 1 0 (a.fin.length+1),.sl p 3 0 (a.mv.length+(Tz a (Ed a)).length)])=E at *
 have k4:∀L,(E.set p .dead++L)[c]?=some (.vars [.i a.types,.sl (G1.length+1) 1 0 (a.fin.length+1),.sl p 3 0 (a.mv.length+(Tz a (Ed a)).length)]):=λL=>Qb (Qc d1 c2 _) L;have zt:(Oi a).mv.length=a.mv.length+(Tz a (Ed a)).length+1:=by simp[Oi];omega
 have y7:(Oi a).fin.length=a.fin.length+1:=by simp[Oi]
 have yi:(a.mv++Tz a (Ed a)).map encMv++[encMv ⟨a.fin.length,a.fin.length,Wt a.types.toNat⟩]=(Oi a).mv.map encMv:=by simp[Oi]
 have yj:=(zB.1 c2).1;have ym:=(zB.1 m2).1;have yn:=(zB.1 f2).1;repeat(refine s_ ?_;simp[c2,w2])
 refine apS T23 T73 ?_;simp[Qb m2,Qg m2,Qb c2,k4];refine⟨by simp[Wo,Qb m2,Qg m2,Qb c2,k4]<;>omega,?_⟩;have hB:a.mv.map encMv++((Tz a (Ed a)).map encMv++[AV.agg [AV.int IntKind.i64 ↑a.fin.length,AV.int IntKind.i64 ↑a.fin.length,AV.list ((Wt a.types.toNat).map encL)]])=(Oi a).mv.map encMv:=by simp[Oi]
 rw[hB];refine Q3 λZ hZ=>?_;have z1:Z[E.length+1]?=some (.arr 73 3 ((Oi a).mv.map encMv)):=by rw[hZ,zE (by omega),zF (by simp)];simp
 have z2:Z[c]?=some (.vars [.i a.types,.sl (G1.length+1) 1 0 (a.fin.length+1),.sl (E.length+1) 3 0 (a.mv.length+(Tz a (Ed a)).length+1)]):=by rw[hZ,zK (by simp;omega)]
 have zr:Z[H.length+1]?=some (.vars [.i 0,.nils,.nils]):=by rw[hZ,zE (by omega),zH (by simp;omega),zE (by omega)];exact r2
 have zf:Z[G1.length+1]?=some (.arr 4 1 ((Oi a).fin.map AV.bool)):=by rw[hZ,zE (by omega),zH (by simp;omega),zE (by omega)];exact f2
 have zk:∀i,i<H.length->Z[i]? =H[i]? :=λi hi=>by rw[hZ,zE (by omega),zH (by simp;omega),zE (by omega)];exact q2 i hi
 have zl:E.length+2=Z.length:=by rw[hZ];simp
 clear hZ;refine kpA [(2,.vptr (H.length+1) 0),(4,.vptr c 0)] ?_;refine Q0 (E.length+1) z1 c z2 ?_;have zn:G1.length+1≠E.length+1:=by omega
 simp[zn,zt];rw[zT (by simp[zt])];refine Q3 λY hY=>?_;have y2:Y[c]?=some (.vars [.i a.types,.sl (G1.length+1) 1 0 (a.fin.length+1),.list ((Oi a).mv.map encMv)]):=by rw[hY,zK (by simp;omega)]
 have yr:Y[H.length+1]?=some (.vars [.i 0,.nils,.nils]):=by rw[hY,zE (by omega),zE (by omega)];exact zr
 have yf:Y[G1.length+1]?=some (.arr 4 1 ((Oi a).fin.map AV.bool)):=by rw[hY,zE (by omega),zE (by omega)];exact zf
 have yk:∀i,i<H.length->Y[i]? =H[i]? :=λi hi=>by rw[hY,zE (by omega),zE (by omega)];exact zk i hi
 have yl:Y.length=Z.length:=by rw[hY];simp
 clear hY;repeat(refine s_ ?_;simp[y2])
 rw[<-y7];refine Qm rfl rfl (Lm Y (G1.length+1) (Oi a) yf (by omega) (by omega)) rfl ?_;rintro r H' ⟨hr,zg⟩;have zo:=(zg (H.length+1) (by omega)).trans yr;have zu:∀X,(H'.set (H.length+1) X)[H.length+1]?=some X:=λX=>Qf zo X;rcases hr with⟨hb,rfl⟩|⟨hb,rfl⟩
 ·have z8:Ad a=(5,Yj):=by rw[ze,Xq,if_pos hb]
  simp[zo];repeat(refine s_ ?_;simp[zu])
  refine⟨z8,λi hi=>?_⟩;rw[zE (by omega),zg i (by omega)];exact yk i hi
 have z8:Ad a=(0,Oi a):=by rw[ze,Xq,hb,if_neg (by simp)]
 have y8:(Oi a).types=a.types:=rfl;simp[zo];repeat(refine s_ ?_;simp[zu])
 refine⟨⟨Oi a,z8,G1.length+1,⟨by rw[y8],⟨rfl,rfl⟩,rfl⟩,?_,by omega⟩,λi hi=>?_⟩
 ·rw[zE (by omega),zg _ (by omega)];exact yf
 rw[zE (by omega),zg i (by omega)];exact yk i hi
end
section
attribute [local irreducible] Ad Wu
def z0c(a:Aut):PC prog 17 [encA a] (λr=>r= .tup [encA (L4 a).2,.i (L4 a).1]):=by
 refine pcB func17 results17 ntmps17 ?_;simp only[Qd];simp only[encA];repeat(refine s_ ?_;simp)
 refine pcL (Tm a) ?_;simp;repeat(refine s_ ?_;simp)
 refine Qa rfl (λh=>?_) (λh=>?_)
 ·have h':Wu a≠0:=by simpa using h
  have hc:L4 a=(Wu a,Yj):=by rw[L4,if_pos h']
  rw[hc];repeat(refine s_ ?_;simp)
  exact⟨rfl,rfl,rfl⟩
 have h':Wu a=0:=by simpa using h
 have hc:L4 a=Ad a:=by rw[L4,if_neg (by simp[h'])]
 rw[hc];repeat(refine s_ ?_;simp)
 refine Qm rfl rfl (Gk _ a ((I8 a).1 h')) rfl ?_;rintro r H' ⟨hr,hk⟩;have z6:=hk 1 (by simp);simp at z6;have z8:∀X,(H'.set 1 X)[1]?=some X:=λX=>Qf z6 X;rcases hr with⟨e,he,zb,rfl⟩|⟨b,f,he,rfl,hf,za⟩
 ·rw[he];simp[z6];repeat(refine s_ ?_;simp[z8])
  exact⟨rfl,rfl,rfl⟩
 rw[he];simp[z6];have z7:f≠1:=by simp at za;omega
 refine kpA [(2,.vptr 1 0),(3,.i 0)] ?_;refine Q0 f (Qc (Ne.symm z7) hf _) 1 (Qf z6 _) ?_;simp;rw[zT (by simp)];have zc:∀X,((H'.set f X).set 1 X)[1]?=some X:=λX=>Qf (Qc z7 z6 _) X;refine Q3 λZ hZ=>?_;have z1:Z[1]?=some (.vars [.i b.types,.list (b.fin.map AV.bool),.list (b.mv.map encMv)]):=by rw[hZ];exact zK (by have:=(zB.1 z6).1;simpa using this)
 repeat(refine s_ ?_;simp[z1])
end
section
def Hf(p:Nat)(xs:List Iv):AV:=if xs=[]then .nils else .sl p 2 0 xs.length
def d06(L:Nat->Nat)(T:Nat)(p:Prd):List AV:=(yQ T).map λk=>Hf (L k) (p.getD k [])
def Nl(Q:Nat->Nat)(T n:Nat):List AV:=(yQ n).map λc=> .agg [.sl (Q c) 1 0 T]
def Al(L:Nat->Nat)(T:Nat)(p:Prd):(d06 L T p).length=T:=by simp[d06]
def Cg(Q:Nat->Nat)(T n:Nat):(Nl Q T n).length=n:=by simp[Nl]
def Dh(L:Nat->Nat){T k:Nat}(p:Prd)(h:k<T):(d06 L T p)[k]?=some (Hf (L k) (p.getD k [])):=by simp[d06,h]
def u0n(Q:Nat->Nat)(T:Nat){n c:Nat}(h:c<n):(Nl Q T n)[c]?=some (.agg [.sl (Q c) 1 0 T]):=by simp[Nl,h]
def Vk{p:Prd}{i:Nat}(h:i<p.length)(y:List Iv):(p.set i y).getD i []=y:=by simp[yL,h]
def getD_set_ne{p:Prd}{i k:Nat}(h:i≠k)(y:List Iv):(p.set i y).getD k []=p.getD k []:=by simp only[yL];rw[zE h]
structure Rows (K:List AObj) (T o:Nat) (st:List Prd) (Q:Nat->Nat) (L:Nat->Nat->Nat) (tag:Nat->Nat×Nat) (H:List AObj):Prop where
 out:H[o]?=some (.va 70 1 (Nl Q T st.length))
 row:∀c p,st[c]?=some p->H[Q c]?=some (.va 145 1 (d06 (L c) T p))
 leaf:∀c p k,st[c]?=some p->k<T->p.getD k []≠[]->H[L c k]?=some (.arr 144 2 ((p.getD k []).map encIv))
 tQ:∀c,c<st.length->tag (Q c)=(c+1,0)
 tL:∀c p k,st[c]?=some p->k<T->p.getD k []≠[]->tag (L c k)=(c+1,k+1)
 to:tag o=(0,0)
 geo:K.length<=o
 geQ:∀c,c<st.length->K.length<=Q c
 geL:∀c p k,st[c]?=some p->k<T->p.getD k []≠[]->K.length<=L c k
 keep:∀i,i<K.length->H[i]? =K[i]?
 len:K.length<=H.length
 tK:∀i,i<K.length->tag i=(0,0)
section
variable {K:List AObj} {T o:Nat} {st:List Prd} {Q:Nat->Nat} {L:Nat->Nat->Nat} {tag:Nat->Nat×Nat} {H H':List AObj}
def Y6{α:Type}{l:List α}{i:Nat}{x:α}(h:l[i]?=some x):i<l.length:=(zB.1 h).1
def Qe{H:List AObj}{i:Nat}{x:AObj}(h:H[i]?=some x):i<H.length:=(zB.1 h).1
def Rows.other(h:Rows K T o st Q L tag H)(hk:∀j,j<H.length->tag j≠(0,1)->H'[j]? =H[j]?)(hl:H.length<=H'.length)(hK:K=[]:=by rfl):Rows K T o st Q L tag H':=by
 subst hK;exact⟨(hk _ (Qe h.out) (by rw[h.to];simp)).trans h.out,λc p hc=>(hk _ (Qe (h.row c p hc)) (by rw[h.tQ c (Y6 hc)];simp)).trans (h.row c p hc),λc p k hc z1 hn=>(hk _ (Qe (h.leaf c p k hc z1 hn)) (by rw[h.tL c p k hc z1 hn];simp)).trans (h.leaf c p k hc z1 hn),
  h.tQ,h.tL,h.to,h.geo,h.geQ,h.geL,λi hi=>by simp at hi,by simp,h.tK⟩
def v0x{l:List AV}{i:Nat}{x:AV}(h:l[i]?=some x):l.set i x=l:=by
 refine xL λj=>?_;by_cases e:i=j
 ·subst e;rw[h,zK (Y6 h)]
 rw[zE e]
def Rows.put (h:Rows K T o st Q L tag H) {c:Nat} {p:Prd} (hc:st[c]?=some p) (zi:p.length=T) {i:Nat} (hi:i<T) {x:Iv} {np:Nat} (zj:H.length<=np)
  (zf:H'[Q c]?=some (.va 145 1 ((d06 (L c) T p).set i (.sl np 2 0 ((p.getD i []).length+1)))))
  (z8:H'[np]?=some (.arr 144 2 ((p.getD i []++[x]).map encIv)))
  (hk:∀j,j<H.length->j≠Q c->tag j≠(c+1,i+1)->H'[j]? =H[j]?):
  Rows K T o (st.set c (Ob p i x)) Q (λc' k'=>if c'=c/\k'=i then np else L c' k') (λj=>if j=np then(c+1,i+1)else tag j) H':=by
 have zd:=(zB.1 hc).1;have ze:∀c' p',(st.set c (Ob p i x))[c']?=some p'->(c'=c/\p'=Ob p i x)\/(c'≠c/\st[c']?=some p'):=λc' p' e=>by
  by_cases zg:c'=c
  ·subst zg;rw[zK zd]at e;exact .inl ⟨rfl,(Option.some.inj e).symm⟩
  rw[zE (λe=>zg e.symm)]at e;exact .inr ⟨zg,e⟩
 have za:(Ob p i x).getD i []=p.getD i []++[x]:=Vk (by omega) _;have z6:∀k,k≠i->(Ob p i x).getD k []=p.getD k []:=λk hk=>getD_set_ne (λe=>hk e.symm) _;have zh:o≠Q c:=λe=>by have h1:=h.to;have h2:=h.tQ c zd;rw[e,h2]at h1;simp at h1
 have lo:=Qe h.out;have lQ:∀c',c'<st.length->Q c'<H.length:=λc' zb=>Qe (h.row c' _ (zI zb));have geQ:=h.geQ;refine⟨?_,λc' p' e=>?_,λc' p' k e z1 hn=>?_,λc' zb=>?_,λc' p' k e z1 hn=>?_,?_,h.geo,λc' zb=>?_,λc' p' k e z1 hn=>?_,λj hj=>?_,?_,λj hj=>?_⟩
 ·rw[w_,hk o lo zh (by rw[h.to];simp)];exact h.out
 ·rcases ze c' p' e with⟨rfl,rfl⟩|⟨zc,e'⟩
  ·rw[zf]
   congr 2
   refine xL λk=>?_;by_cases hkT:k<T
   ·rw[Dh _ _ hkT];by_cases hki:k=i
    ·subst hki;rw[zK (by rw[Al];exact hkT),za];simp[Hf]
    rw[zE (λe=>hki e.symm),Dh _ _ hkT,z6 k hki];simp[hki]
   rw[y_ (by rw[w_,Al];omega),y_ (by rw[Al];omega)]
  have z7:=(zB.1 e').1;rw[hk _ (lQ c' z7) (λe=>by have h1:=h.tQ c zd;have h2:=h.tQ c' z7;rw[e,h1]at h2;simp at h2;omega) (by rw[h.tQ c' z7];simp),h.row c' p' e'];simp[zc]
 ·rcases ze c' p' e with⟨rfl,rfl⟩|⟨zc,e'⟩
  ·by_cases hki:k=i
   ·subst hki;rw[za,if_pos ⟨rfl,rfl⟩];exact z8
   rw[z6 k hki]at hn |-;rw[if_neg (λa=>hki a.2),hk _ (Qe (h.leaf _ _ k hc z1 hn)) (λe=>by have h1:=h.tQ c' zd;have h2:=h.tL c' p k hc z1 hn;rw[e,h1]at h2;simp at h2) (by rw[h.tL c' p k hc z1 hn];simp;omega)];exact h.leaf _ _ k hc z1 hn
  have z7:=(zB.1 e').1;rw[if_neg (λa=>zc a.1),hk _ (Qe (h.leaf _ _ k e' z1 hn)) (λe=>by have h1:=h.tQ c zd;have h2:=h.tL c' p' k e' z1 hn;rw[e,h1]at h2;simp at h2) (by rw[h.tL c' p' k e' z1 hn];simp;omega)];exact h.leaf _ _ k e' z1 hn
 ·rw[w_]at zb;have:=lQ c' zb;rw[if_neg (by omega)];exact h.tQ c' zb
 ·rcases ze c' p' e with⟨rfl,rfl⟩|⟨zc,e'⟩
  ·by_cases hki:k=i
   ·subst hki;simp only[and_self,if_true]
   rw[z6 k hki]at hn;have:=Qe (h.leaf _ _ k hc z1 hn);simp only[hki,and_false,if_false];rw[if_neg (by omega)];exact h.tL _ _ k hc z1 hn
  have:=Qe (h.leaf _ _ k e' z1 hn);simp only[zc,false_and,if_false];rw[if_neg (by omega)];exact h.tL _ _ k e' z1 hn
 ·rw[if_neg (by omega)];exact h.to
 ·rw[w_]at zb;exact h.geQ c' zb
 ·rcases ze c' p' e with⟨rfl,rfl⟩|⟨zc,e'⟩
  ·by_cases hki:k=i
   ·subst hki;have:=h.len;rw[if_pos ⟨rfl,rfl⟩];omega
   rw[z6 k hki]at hn;rw[if_neg (λa=>hki a.2)];exact h.geL _ _ k hc z1 hn
  rw[if_neg (λa=>zc a.1)];exact h.geL _ _ k e' z1 hn
 ·have h1:=h.len;have h2:=geQ c zd;rw[hk j (by omega) (by omega) (by rw[h.tK j hj];simp)];exact h.keep j hj
 ·have:=Qe z8;have:=h.len;omega
 have:=h.len;rw[if_neg (by omega)];exact h.tK j hj
def Rows.new (h:Rows K T o st Q L tag H) {q o':Nat} (hq:H.length<=q) (ho:H.length<=o') (zd:q≠o')
  (zc:H'[q]?=some (.va 145 1 (yF T .nils))) (za:H'[o']?=some (.va 70 1 (Nl Q T st.length++[.agg [.sl q 1 0 T]])))
  (hk:∀j,j<H.length->j≠o->H'[j]? =H[j]?):
  Rows K T o' (st++[yF T []]) (λc=>if c=st.length then q else Q c) L (λj=>if j=q then(st.length+1,0)else if j=o' then(0,0)else tag j) H':=by
 have zb:∀c' p',(st++[yF T []])[c']?=some p'->(c'=st.length/\p'=yF T [])\/(c'<st.length/\st[c']?=some p'):=λc' p' e=>by
  by_cases z1:c'<st.length
  ·rw[zH z1]at e;exact .inr ⟨z1,e⟩
  rw[zF (by omega)]at e;have h0:c' - st.length=0:=by have:=(zB.1 e).1;simpa using this
  rw[h0]at e;exact .inl ⟨by omega,(Option.some.inj e).symm⟩
 have z6:∀k,(yF T ([]:List Iv)).getD k []=[]:=λk=>by by_cases hk:k<T<;>simp[yL,hk]
 have lQ:∀c',c'<st.length->Q c'<H.length:=λc' z7=>Qe (h.row c' _ (zI z7));have lo:=Qe h.out;have hlen:=h.len;have ze:∀c',c'<st.length->Q c'≠o:=λc' z7 e=>by have h1:=h.to;have h2:=h.tQ c' z7;rw[<-e,h2]at h1;simp at h1
 refine⟨?_,λc' p' e=>?_,λc' p' k e z8 hn=>?_,λc' z7=>?_,λc' p' k e z8 hn=>?_,?_,by omega,λc' z7=>?_,λc' p' k e z8 hn=>?_,λj hj=>?_,by have:=Qe za;omega,λj hj=>?_⟩
 ·rw[za]
  congr 2
  rw[zW,vW,Nl,Nl,wQ,yR]
  congr 1
  ·exact List.map_congr_left λc hc=>by rw[if_neg (by have:=yU.1 hc;omega)]
  simp
 ·rcases zb c' p' e with⟨rfl,rfl⟩|⟨hc,e'⟩
  ·rw[if_pos rfl,zc]
   congr 2
   refine xL λk=>?_;by_cases hkT:k<T
   ·rw[Dh _ _ hkT,z6];simp[Hf,hkT]
   rw[y_ (by simp;omega),y_ (by rw[Al];omega)]
  rw[if_neg (by omega),hk _ (lQ c' hc) (ze c' hc)];exact h.row _ _ e'
 ·rcases zb c' p' e with⟨rfl,rfl⟩|⟨hc,e'⟩
  ·exact absurd (z6 k) hn
  have hl:=h.leaf _ _ k e' z8 hn;rw[hk _ (Qe hl) (λe=>by have h1:=h.to;have h2:=h.tL _ _ k e' z8 hn;rw[e,h1]at h2;simp at h2)];exact hl
 ·rw[zW,vW]at z7;by_cases z1:c'=st.length
  ·rw[if_pos z1,if_pos rfl,z1]
  have:=lQ c' (by omega);rw[if_neg z1,if_neg (by omega),if_neg (by omega)];exact h.tQ c' (by omega)
 ·rcases zb c' p' e with⟨rfl,rfl⟩|⟨hc,e'⟩
  ·exact absurd (z6 k) hn
  have:=Qe (h.leaf _ _ k e' z8 hn);rw[if_neg (by omega),if_neg (by omega)];exact h.tL _ _ k e' z8 hn
 ·rw[if_neg (λe=>zd e.symm),if_pos rfl]
 ·rw[zW,vW]at z7;by_cases z1:c'=st.length
  ·rw[if_pos z1];omega
  rw[if_neg z1];exact h.geQ c' (by omega)
 ·rcases zb c' p' e with⟨rfl,rfl⟩|⟨hc,e'⟩
  ·exact absurd (z6 k) hn
  exact h.geL _ _ k e' z8 hn
 ·have zf:=h.geo;rw[hk j (by omega) (by omega)];exact h.keep j hj
 rw[if_neg (by omega),if_neg (by omega)];exact h.tK j hj
def Rows.start0(T o:Nat)(H:List AObj)(ho:H[o]?=some (.va 70 1 []))(tag:Nat->Nat×Nat)(ht:tag o=(0,0)):Rows [] T o [] (λ_=>0) (λ_ _=>0) tag H:=by refine⟨by simpa[Nl]using ho,λc p hc=>by simp at hc,λc p k hc=>by simp at hc,λc hc=>by simp at hc,λc p k hc=>by simp at hc,ht,by simp,λc hc=>by simp at hc,λc p k hc=>by simp at hc,λi hi=>by simp at hi,by simp,λi hi=>by simp at hi⟩
end
end
end Go.Abs
