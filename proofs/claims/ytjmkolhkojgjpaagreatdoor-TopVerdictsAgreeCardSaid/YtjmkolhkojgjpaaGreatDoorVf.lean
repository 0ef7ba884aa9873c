/- Part Vf of the proof: steps on the way to the last part. No condition. -/
import Derived.Test.YtjmkolhkojgjpaaGreatDoorVe
import Derived.Test.YtjmkolhkojgjpaaGreatDoorVc
import Derived.Test.YtjmkolhkojgjpaaGreatDoorVd
set_option linter.all false
open List renaming getElem?_eq_some_iff->zE,getElem?_set_self->zS,getElem?_set_ne->zH,getElem?_append_left->zI,getElem?_append_right->zO,range->y_,ext_getElem->wG,getD->yV,all_eq_false->ut,mem_range->xD,all_eq_true->yE,getElem_mem->zT,getElem?_eq_getElem->zP,getElem_of_mem->xE,take->sw,findIdx?_eq_some_iff_getElem->xV,findIdx?_eq_none_iff->vY,any_eq_false->vI,any_eq_true->wW,length_map->yL,take_succ_eq_append_getElem->zY,map_append->xA,take_zero->wD,length_take->wC,take_length->yR,replicate->yH,nil_append->u5,take_of_length_le->zZ,flatMap_append->wS,length_append->yP,mem_of_mem_take->wd,append_nil->xO,replicate_succ->uJ,mem_map->zU,take_append_drop->xW
open Nat renaming le_refl->zW,le_trans->yW
open Bool renaming eq_false_iff->u6,and_eq_true->yJ,eq_iff_iff->wB,or_eq_true->vB
open Int renaming le_refl->xC
set_option maxHeartbeats 4000000
set_option linter.unusedSimpArgs false
set_option maxRecDepth 100000
open Go.Proofs.Tryz
namespace Go.Abs
open Go Go.Proofs
section
structure GL (K G:List AObj) (S p:Nat) (pre post:List AV) (e sz:Nat) (xs:List AV):Prop where
 cell:G[S]?=some (.vars (pre++ .sl p sz 0 xs.length::post))
 arr:G[p]?=some (.arr e sz xs)
 ge:K.length<=p
 lt:S<K.length
 len:K.length<=G.length
 keep:∀j,j<K.length->j≠S->G[j]? =K[j]?
def GL.kp{K G:List AObj}{S p:Nat}{pre post:List AV}{e sz:Nat}{xs:List AV}(h:GL K G S p pre post e sz xs){j:Nat}{x:AObj}(hj:j≠S)(hx:K[j]?=some x):G[j]?=some x:=by rw[h.keep j (zE.1 hx).1 hj];exact hx
def GL.start{K:List AObj}{S:Nat}(pre post:List AV)(e sz:Nat)(h:S<K.length):GL K ((K++[AObj.arr e sz []]).set S (.vars (pre++ .sl K.length sz 0 0::post))) S K.length pre post e sz []:=
 ⟨zS (by simp;omega),by rw[zH (by omega)];simp,zW _,h,by simp,λj hj z1=>by
  rw[zH (λe=>z1 e.symm),zI hj]⟩
def GL.put{K G:List AObj}{S p:Nat}{pre post:List AV}{e sz:Nat}{xs:List AV}(h:GL K G S p pre post e sz xs)(A:AObj)(y:AV){n:Nat}(hn:n=xs.length):
  GL K ((G.set p .dead++[A,AObj.arr e sz (xs++[y])]).set S (.vars (pre++ .sl (G.length+1) sz 0 (n+1)::post))) S (G.length+1) pre post e sz (xs++[y]):=by
 have hl:=h.len;have z6:=h.lt;have z7:=h.ge;subst hn;refine⟨by rw[zS (by simp;omega)];simp,by rw[zH (by omega),zO (by simp)];simp,by omega,z6,by simp;omega,λj hj z1=>?_⟩;rw[zH (λe=>z1 e.symm),zI (by simp;omega),zH (by omega)];exact h.keep j hj z1
def GL.at{K G:List AObj}{S p:Nat}{pre post:List AV}{e sz:Nat}{xs:List AV}(h:GL K G S p pre post e sz xs)(L:List AObj):(G.set p .dead++L)[S]?=some (.vars (pre++ .sl p sz 0 xs.length::post)):=by have hl:=h.len;have z1:=h.lt;have z6:=h.ge;rw[zI (by simp;omega),zH (by omega)];exact h.cell
def upL(F:Nat->List Iv)(j:Nat):List AV:=(y_ j).map λi=>encL (F i)
def x09(F:Nat->List Iv)(j:Nat):upL F (j+1)=upL F j++[encL (F j)]:=by simp[upL,List.range_succ]
def Oh(F:Nat->List Iv)(j:Nat):(upL F j).length=j:=by simp[upL]
def x15(F:Nat->List Iv)(n:Nat):upL F n=((y_ n).map F).map encL:=by simp[upL]
def j0p{α β:Type}(d:α)(f:α->β)(p:List α):(y_ p.length).map (λi=>f (p.getD i d))=p.map f:=by
 refine wG (by simp) λi h1 h2=>?_;have h:i<p.length:=by simpa using h1
 simp[yV,h]
def v05(F:Nat->List Iv):upL F 0=[]:=rfl
attribute [local irreducible] upL
end
section
def d2j{T:Nat}{p:Prd}(h:PWf T p){s:List Iv}(hs:s∈p):∀x∈s,Dk x:=y0r (h.2 s hs).1 (h.2 s hs).2
attribute [local irreducible] Hp E5
def H8:∀(p:Prd) (i:Nat),(∃s∈p,s≠[])->∃t x r,p[t]?=some (x::r)/\Qy p i=(i+t,x.lo)/\∀j,j<t->p[j]?=some []
 |[],i,h=>by obtain⟨s,hs,_⟩:=h;cases hs
 |[]::p,i,h=>by
  obtain⟨t,x,r,h1,h2,h3⟩:=H8 p (i+1) (by obtain⟨s,hs,hn⟩:=h;rcases List.mem_cons.1 hs with rfl|hs;exact absurd rfl hn;exact⟨s,hs,hn⟩);refine⟨t+1,x,r,by simpa using h1,by rw[Qy,h2];congr 1;omega,λj hj=>?_⟩;cases j with
  |zero=>rfl
  |succ j=>simpa using h3 j (by omega)
 |(x::r)::p,i,_=>⟨0,x,r,rfl,by simp[Qy],λj hj=>by omega⟩
end
section
attribute [local irreducible] Hp E5 upL E9
end
section
attribute [local irreducible] Kj
def g06(a:Aut)(i k:Nat):Bool:=decide ((a.mv.getD i default).src=(a.mv.getD k default).src) && f0c (a.mv.getD i default).on (a.mv.getD k default).on
def z1e{a:Aut}{i k:Nat}(hi:i<a.mv.length)(hk:k<i)(h:g06 a i k=true):Hq a=false:=by unfold Hq;rw[ut];refine⟨i,xD.2 hi,?_⟩;rw[Bool.not_eq_true,ut];exact⟨k,xD.2 hk,by unfold g06 at h;rw[h];simp⟩
def v1p{a:Aut}(h:∀i,i<a.mv.length->∀k,k<i->g06 a i k=false):Hq a=true:=by unfold Hq;rw[yE];intro i hi;rw[yE];intro k hk;have:=h i (xD.1 hi) k (xD.1 hk);unfold g06 at this;rw[this];rfl
def d1g{a:Aut}{i k:Nat}(hi:i<a.mv.length)(hk:k<a.mv.length):g06 a i k=(decide (a.mv[i].src=a.mv[k].src) && f0c a.mv[i].on a.mv[k].on):=by simp[g06,yV,hi,hk]
def v0u{a:Aut}(h:OkA a){m:Mv}(hm:m∈a.mv):∀s∈m.on,s.length<=256:=λs hs=>((h.mv m hm).on.2 s hs).len
attribute [local irreducible] g06 f0c Ee Wp
def u1d(a:Aut):Bool×Int:=if Wd a=0 then(Hq a,0)else(false,Wd a)
end
section
def ovl(x y:Iv):Bool:=decide (x.lo<=y.hi) && decide (y.lo<=x.hi)
def noC(p q:Prd)(i:Nat):Prop:=∀x∈p.getD i [],∀y∈q.getD i [],ovl x y=false
def y1i{T:Nat}{p q:Prd}(hp:PWf T p)(hq:PWf T q)(h:∀i,i<p.length->noC p q i):f0c p q=false:=by rw[u6,Ne,Xh hp hq];rintro⟨t,n,⟨s,hs,x,hx,h1,h2⟩,⟨s',z1,y,hy,h3,h4⟩⟩;have ht:=(zE.1 hs).1;have:=h t ht x (by rw[yV,hs];exact hx) y (by rw[yV,z1];exact hy);simp only[ovl,Bool.and_eq_false_iff,decide_eq_false_iff_not]at this;omega
def d1k{T:Nat}{p q:Prd}(hp:PWf T p)(hq:PWf T q){i:Nat}(hi:i<p.length)(z1:i<q.length){x y:Iv}(hx:x∈p[i])(hy:y∈q[i])(h:ovl x y=true):f0c p q=true:=by
 rw[Xh hp hq];simp only[ovl,yJ,decide_eq_true_eq]at h;have h1:=(hp.2 _ (zT hi)).1.1 x hx;have h2:=(hq.2 _ (zT z1)).1.1 y hy;by_cases hl:x.lo<=y.lo
 ·exact⟨i,y.lo,⟨p[i],zP hi,x,hx,hl,h.2⟩,⟨q[i],zP z1,y,hy,xC _,h2⟩⟩
 exact⟨i,x.lo,⟨p[i],zP hi,x,hx,xC _,h1⟩,⟨q[i],zP z1,y,hy,by omega,h.1⟩⟩
attribute [local irreducible] f0c
def y1b(T:Nat)(p q:Prd)(hp:PWf T p)(hq:PWf T q)(zj:∀s∈p,s.length<=1000000000)(zk:∀s∈q,s.length<=1000000000)(hT:T<=1000):PC prog 136 [encP p,encP q] (λr=>r= .bool (f0c p q)):=by
 refine pcB func136 results136 ntmps136 ?_;simp only[Qe];simp only[encP];have hlen:=hp.1;have zg:=hq.1;repeat(refine s_ ?_;simp)
 refine Qu p.length (λi=>∀i',i'<i->noC p q i') (λi=>[(3,.vptr 1 0),(12,.list (p.map encL)),(13,.i p.length),(14,.i i)]) (λ_=>[.vars [.list (p.map encL)],.vars [.list (q.map encL)]]) rfl (by simp) (by simp) (by simp) (by simp) (by simp) ?_;intro i hi hI ih;repeat(refine s_ ?_;simp)
 refine Qa rfl (λzl=>?_) (λzm=>?_)
 ·have z1:i<p.length:=by simpa using zl
  have z6:i<q.length:=by omega
  have hw:=wz i (by omega);have zx:=zj _ (zT z1);have zy:=zk _ (zT z6);repeat(refine s_ ?_;simp[z1])
  refine Qu p[i].length (λu=>∀u',u'<u->∀h:u'<p[i].length,∀y∈q[i],ovl p[i][u'] y=false) (λu=>[(3,.vptr 1 0),(5,.i i),(12,.list (p.map encL)),(13,.i p.length),(14,.i i),(19,LIv p[i]),(20,.i p[i].length),(21,.i u)]) (λ_=>[.vars [.list (p.map encL)],.vars [.list (q.map encL)]]) rfl (by simp) (by simp) (by simp) (by simp) (by simp) ?_;intro u hu zh zn;repeat(refine s_ ?_;simp)
  refine Qa rfl (λz7=>?_) (λz8=>?_)
  ·have za:u<p[i].length:=by simpa using z7
   have zo:=wz u (by omega);repeat(refine s_ ?_;simp[za,z6])
   refine Qu q[i].length (λv=>∀v',v'<v->∀h:v'<q[i].length,ovl p[i][u] q[i][v']=false) (λv=>[(3,.vptr 1 0),(5,.i i),(8,.vptr 2 0),(12,.list (p.map encL)),(13,.i p.length),(14,.i i),(19,LIv p[i]),(20,.i p[i].length),(21,.i u),(29,LIv q[i]),(30,.i q[i].length),(31,.i v)]) (λ_=>[.vars [.list (p.map encL)],.vars [.list (q.map encL)],.vars [.i p[i][u].lo,.i p[i][u].hi]]) rfl (by simp) (by simp) (by simp) (by simp) (by simp) ?_;intro v hv zi zp;repeat(refine s_ ?_;simp)
   refine Qa rfl (λzb=>?_) (λzc=>?_)
   ·have zd:v<q[i].length:=by simpa using zb
    have zq:=wz v (by omega);repeat(refine s_ ?_;simp[zd])
    refine Qa rfl (λh=>?_) (λh=>?_)
    ·repeat(refine s_ ?_;simp)
     rw[d1k hp hq z1 z6 (zT za) (zT zd) (by simpa[ovl]using h)]
    repeat(refine s_ ?_;simp[zq])
    refine Qs _ (zp zd (λv' ze zr=>?_)) rfl (by simp) ?_ (by simp) (by simp)
    ·by_cases e:v'=v
     ·subst e;simpa[ovl]using h
     exact zi v' (by omega) zr
    simp
   have zt:v=q[i].length:=by simp at zc;omega
   subst zt;repeat(refine s_ ?_;simp[zo])
   refine Qs _ (zn za (λu' zf zu y hy=>?_)) rfl (by simp) ?_ (by simp) (by simp)
   ·by_cases e:u'=u
    ·subst e;obtain⟨v',ze,rfl⟩:=xE hy;exact zi v' ze ze
    exact zh u' (by omega) zu y hy
   simp
  have zv:u=p[i].length:=by simp at z8;omega
  subst zv;repeat(refine s_ ?_;simp[hw])
  refine Qs _ (ih z1 (λi' zz=>?_)) rfl (by simp) ?_ (by simp) (by simp)
  ·by_cases e:i'=i
   ·subst e;intro x hx y hy;rw[W4 z1]at hx;rw[W4 z6]at hy;obtain⟨u',zf,rfl⟩:=xE hx;exact zh u' zf zf y hy
   exact hI i' (by omega)
  simp
 have zw:i=p.length:=by simp at zm;omega
 subst zw;repeat(refine s_ ?_;simp)
 rw[y1i hp hq hI]
attribute [local irreducible] g06
def y13(a:Aut):PC prog 73 [encA a] (λr=>r= .tup [.bool (u1d a).1,.i (u1d a).2]):=by
 refine pcB func73 results73 ntmps73 ?_;simp only[Qe];simp only[encA];repeat(refine s_ ?_;simp)
 refine pcL (Tg a) ?_;simp;repeat(refine s_ ?_;simp)
 refine Qa rfl (λh=>?_) (λh=>?_)
 ·repeat(refine s_ ?_;simp)
  rw[u1d,if_neg (by simpa using h)];exact⟨rfl,rfl⟩
 have h0:Wd a=0:=by simpa using h
 have z8:=(Yh a).1 h0;have zt:=z8.mvs;rw[u1d,if_pos h0];repeat(refine s_ ?_;simp)
 refine Qu a.mv.length (λj=>∀i,i<j->∀k,k<i->g06 a i k=false) (λj=>[(1,.vptr 0 0),(15,.list (a.mv.map encMv)),(16,.i a.mv.length),(17,.i j)]) (λ_=>[.vars (Ql a)]) rfl (by simp) (by simp) (by simp) (by simp) (by simp) ?_;intro j hj hI ih;repeat(refine s_ ?_;simp)
 refine Qa rfl (λzq=>?_) (λzr=>?_)
 ·have z1:j<a.mv.length:=by simpa using zq
  have hw:=wz j (by omega);have ze:j<=a.mv.length:=hj;have z7:min j a.mv.length=j:=by omega
  repeat(refine s_ ?_;simp[z1,ze,z7])
  refine Qu j (λk=>∀k',k'<k->g06 a j k'=false) (λk=>[(1,.vptr 0 0),(6,.vptr 1 0),(15,.list (a.mv.map encMv)),(16,.i a.mv.length),(17,.i j),(25,.list (sw j (a.mv.map encMv))),(26,.i j),(27,.i k)]) (λ_=>[.vars (Ql a),.vars [.i a.mv[j].src,.i a.mv[j].dst,.list (a.mv[j].on.map encL)]]) rfl (by simp) (by simp) (by simp) (by simp) (by simp) ?_;intro k hk zj zk;repeat(refine s_ ?_;simp)
  refine Qa rfl (λzf=>?_) (λzg=>?_)
  ·have za:k<j:=by simpa using zf
   have zb:k<a.mv.length:=by omega
   have zl:=wz k (by omega);have z6:=d1g (a:=a) z1 zb;have zm:g06 a j k=false->∀k',k'<k+1->g06 a j k'=false:=λhb k' zh=>by
    by_cases e:k'=k
    ·rw[e];exact hb
    exact zj k' (by omega)
   have zn:(sw j (a.mv.map encMv))[k]?=some (encMv a.mv[k]):=by rw[List.getElem?_take_of_lt za];simp[zb]
   by_cases he:a.mv[j].src=a.mv[k].src
   ·rw[decide_eq_true he,Bool.true_and]at z6;have zc:(a.mv[j].src==a.mv[k].src)=true:=by simpa using he
    repeat(refine s_ ?_;simp[zn,za,zb,z7,zc])
    have zo:=zT z1;have zp:=zT zb;refine pcL (y1b a.types.toNat a.mv[j].on a.mv[k].on (z8.mv _ zo).on.wf (z8.mv _ zp).on.wf (λs hs=>by have:=v0u z8 zo s hs;omega) (λs hs=>by have:=v0u z8 zp s hs;omega) (by have:=z8.types;omega)) ?_;simp;repeat(refine s_ ?_;simp)
    refine Qa rfl (λh3=>?_) (λh3=>?_)
    ·repeat(refine s_ ?_;simp)
     rw[z1e z1 za (by rw[z6];simpa using h3)]
    repeat(refine s_ ?_;simp[zl])
    refine Qs _ (zk za (zm (by rw[z6];simpa using h3))) rfl (by simp) ?_ (by simp) (by simp);simp
   rw[decide_eq_false he,Bool.false_and]at z6;have zc:(a.mv[j].src==a.mv[k].src)=false:=beq_eq_false_iff_ne.2 he;repeat(refine s_ ?_;simp[zn,za,zb,z7,zc])
   refine Wg rfl rfl ?_;simp[zc];repeat(refine s_ ?_;simp[zc])
   refine Qv rfl ?_;repeat(refine s_ ?_;simp[zl])
   refine Qs _ (zk za (zm z6)) rfl (by simp) ?_ (by simp) (by simp);simp
  have zd:k=j:=by simp at zg;omega
  subst zd;repeat(refine s_ ?_;simp[hw])
  refine Qs _ (ih z1 (λi hi k' zh=>?_)) rfl (by simp) ?_ (by simp) (by simp)
  ·by_cases e:i=k
   ·subst e;exact zj k' zh
   exact hI i (by omega) k' zh
  simp
 have zi:j=a.mv.length:=by simp at zr;omega
 subst zi;repeat(refine s_ ?_;simp)
 rw[v1p hI]
end
section
abbrev LI (l:List Int):AV:= .list (l.map (AV.int .i64))
def Nq{α:Type}(f:α->Bool)(l:List α):Int:=match l.findIdx? f with|some i=>i|none=> -1
def Cv{α:Type}{f:α->Bool}{l:List α}{j:Nat}(hj:j<l.length)(h:f l[j]=true)(hb:∀i,∀hi:i<l.length,i<j->f l[i]=false):Nq f l=j:=by unfold Nq;rw[xV.2 ⟨hj,h,λi hi=>by rw[hb i (by omega) hi];simp⟩]
def Gy{α:Type}{f:α->Bool}{l:List α}(hb:∀i,∀hi:i<l.length,i<l.length->f l[i]=false):Nq f l= -1:=by unfold Nq;rw[vY.2 (λx hx=>by obtain⟨i,hi,rfl⟩:=xE hx;exact hb i hi hi)]
def y17{α:Type}(f:α->Bool)(l:List α):decide (0<=Nq f l)=l.any f:=by
 unfold Nq;cases h:l.findIdx? f with
 |none=>
  rw[vY]at h;have:l.any f=false:=by rw[vI];intro x hx;rw[h x hx];simp
  rw[this];rfl
 |some i=>obtain⟨h1,h2,_⟩:=xV.1 h;have:l.any f=true:=wW.2 ⟨_,zT h1,h2⟩;rw[this];simp
def x0w(l:List Int)(v:Int):PC prog 118 [LI l,.i v] (λr=>r= .i (Nq (λy=>v==y) l)):=by
 refine pcB func118 results118 ntmps118 ?_;simp only[Qe];refine Tw 0 rfl (λhlen=>?_);rw[yL]at hlen;repeat(refine s_ ?_;simp)
 refine Qu l.length (λj=>∀i,∀hi:i<l.length,i<j->(v==l[i])=false) (λj=>[(0,LI l),(1,.i v),(7,.i l.length),(8,.i j)]) (λ_=>[]) rfl (by simp) (by simp) (by simp) (by simp) (by simp) ?_;intro j hj hI ih;repeat(refine s_ ?_;simp)
 refine Qa rfl (λz7=>?_) (λz8=>?_)
 ·have z1:j<l.length:=by simpa using z7
  have hw:=wz j (by omega);repeat(refine s_ ?_;simp[z1])
  refine Qa rfl (λh=>?_) (λh=>?_)
  ·repeat(refine s_ ?_;simp)
   rw[Cv (f:=λy=>v==y) z1 h hI]
  repeat(refine s_ ?_;simp[hw])
  refine Qs _ (ih z1 (λi hi za=>?_)) rfl (by simp) ?_ (by simp) (by simp)
  ·by_cases e:i=j
   ·subst e;exact h
   exact hI i hi (by omega)
  simp
 have z6:j=l.length:=by simp at z8;omega
 subst z6;repeat(refine s_ ?_;simp)
 rw[Gy (f:=λy=>v==y) hI]
def Fs(l:List Int)(v:Int):PC prog 169 [LI l,.i v] (λr=>r= .bool (l.contains v)):=by
 refine pcB func169 results169 ntmps169 ?_;simp only[Qe];repeat(refine s_ ?_;simp)
 refine pcL (x0w l v) ?_;simp;repeat(refine s_ ?_;simp)
 have:=y17 (λy=>v==y) l;rw[wB]at this;simpa using this
structure SL (K G:List AObj) (p e sz:Nat) (xs:List AV):Prop where
 arr:G[p]?=some (.arr e sz xs)
 ge:K.length<=p
 keep:∀j,j<K.length->G[j]? =K[j]?
def SL.kp{K G:List AObj}{p e sz:Nat}{xs:List AV}(h:SL K G p e sz xs){j:Nat}{x:AObj}(hx:K[j]?=some x):G[j]?=some x:=by rw[h.keep j (zE.1 hx).1];exact hx
def SL.start(K:List AObj)(e sz:Nat):SL K (K++[AObj.arr e sz []]) K.length e sz []:=
 ⟨by simp,zW _,λj hj=>zI hj⟩
def SL.add{K G:List AObj}{p e sz:Nat}{xs:List AV}(h:SL K G p e sz xs)(L:List AObj):SL K (G++L) p e sz xs:=
 ⟨by rw[zI (zE.1 h.arr).1];exact h.arr,h.ge,λj hj=>by
  rw[zI (by have:=(zE.1 h.arr).1;have:=h.ge;omega)];exact h.keep j hj⟩
def SL.put{K G:List AObj}{p e sz:Nat}{xs:List AV}(h:SL K G p e sz xs)(L:List AObj)(ys:List AV){n:Nat}(hn:n=G.length+L.length):SL K (G.set p .dead++(L++[AObj.arr e sz ys])) n e sz ys:=by have hp:=(zE.1 h.arr).1;have z1:=h.ge;subst hn;refine⟨by rw[zO (by simp),zO (by simp)];simp,by omega,λj hj=>?_⟩;rw[zI (by simp;omega),zH (by omega)];exact h.keep j hj
def SL.at'{K G:List AObj}{p e sz:Nat}{xs:List AV}(h:SL K G p e sz xs){j:Nat}{x:AObj}(hx:K[j]?=some x)(L:List AObj):(G++L)[j]?=some x:=(h.add L).kp hx
def f1o(l:List Int)(x:Sy)(m:Mv):Bool:=l.contains m.src && Ti m.on x
def V2(l:List Int)(x:Sy)(ms:List Mv):List Int:=(ms.filter (f1o l x)).map (·.dst)
def w1x(l:List Int)(x:Sy)(ms:List Mv)(j:Nat)(h:j<ms.length):V2 l x (ms.take (j+1))=V2 l x (ms.take j)++(if f1o l x ms[j]then [ms[j].dst]else []):=by unfold V2;rw[zY h,List.filter_append,xA];cases h:f1o l x ms[j]<;>simp[h]
def x0k(l:List Int)(x:Sy)(ms:List Mv):(V2 l x ms).length<=ms.length:=by unfold V2;rw[yL];exact List.length_filter_le _ _
def k1v(a:Aut)(l:List Int)(x:Sy):Lib.compact (Tm (V2 l x a.mv))=y2f a l x:=rfl
def k1t(l:List Int)(x:Sy):V2 l x []=[]:=rfl
attribute [local irreducible] V2 V8 Tm Lib.compact
def Bw(a:Aut)(ha:OkA a)(l:List Int)(x:Sy)(hx:Q8 a x):PC prog 108 [encA a,LI l,encSy x] (λr=>r=LI (Q1 a l x)):=by
 refine pcB func108 results108 ntmps108 ?_;simp only[Qe];simp only[encA,encSy];have zh:=ha.mvs;have hF:∀m∈a.mv,V8 m.on x=(Ti m.on x,0):=λm hm=>by rw[w05 ((Ef a.types m.on).2 ⟨ha.types,(ha.mv m hm).on⟩),if_neg (λk=>k ((Gv _ _).2 hx))]
 repeat(refine s_ ?_;simp)
 refine Q5 7 3 1 rfl ?_;simp;refine Qi (Qc (sl':=[(1,LI l),(3,.vptr 0 0),(5,.vptr 1 0),(7,.sl 2 1 0 (V2 l x (a.mv.take 0)).length),(11,.list (a.mv.map encMv)),(12,.i a.mv.length),(13,.i 0)]) ?_ (by simp[V2]));obtain⟨K,hK⟩:∃K,K=[AObj.vars (Ql a),AObj.vars [AV.i x.ty,AV.i x.num]]:=⟨_,rfl⟩
 have z8:K[1]?=some (AObj.vars [AV.i x.ty,AV.i x.num]):=by rw[hK];rfl
 have hst:=SL.start K 3 1;refine Qj (F:=λ(u:Nat×Nat×List AObj)=>⟨[(1,LI l),(3,.vptr 0 0),(5,.vptr 1 0),(7,.sl u.2.1 1 0 (V2 l x (a.mv.take u.1)).length),(11,.list (a.mv.map encMv)),(12,.i a.mv.length),(13,.i u.1)],u.2.2⟩)
  (λu=>u.1<=a.mv.length/\SL K u.2.2 u.2.1 3 1 ((V2 l x (a.mv.take u.1)).map (AV.int .i64))) (λu=>a.mv.length - u.1) ?_ (0,2,_) ⟨by simp,by rw[wD,k1t];rw[hK]at hst |-;exact hst⟩
 rintro⟨j,q,H2⟩ ⟨hj,g⟩ ih;simp only at hj g ih |-;have g1:=g.kp z8;repeat(refine s_ ?_;simp)
 refine Qa rfl (λzb=>?_) (λzc=>?_)
 ·have z1:j<a.mv.length:=by simpa using zb
  have hw:=wz j (by omega);have zd:=w1x l x a.mv j z1;have za:=x0k l x (a.mv.take j);rw[wC]at za;have ze:=hF _ (zT z1);have z6:=λq' H'=>ih (j+1,q',H');simp only[zd]at z6;generalize V2 l x (a.mv.take j)=acc at *
  have gL:=λL=>g.at' z8 L;repeat(refine s_ ?_;simp[z1])
  by_cases hb:a.mv[j].src∈l
  ·have zf:l.contains a.mv[j].src=true:=by simpa using hb
   refine pcL (Fs l a.mv[j].src) ?_;simp[hb,gL];repeat(refine s_ ?_;simp[gL])
   refine pcL (w2a a.mv[j].on x) ?_;simp[ze];repeat(refine s_ ?_;simp)
   cases hb2:Ti a.mv[j].on x with
   |false=>
    have hh:f1o l x a.mv[j]=false:=by rw[f1o,hb2];simp
    refine Qv rfl ?_;simp[hb2];repeat(refine s_ ?_;simp[hw])
    refine Qc (sl':=[(1,LI l),(3,.vptr 0 0),(5,.vptr 1 0),(7,.sl q 1 0 acc.length),(11,.list (a.mv.map encMv)),(12,.i a.mv.length),(13,.i (j+1:Nat))]) ?_ (by simp);have:=z6 q _ ⟨by omega,by rw[hh];simpa using g.add [AObj.vars [AV.i a.mv[j].src,AV.i a.mv[j].dst,AV.list (a.mv[j].on.map encL)]]⟩ (by omega);rw[hh]at this;simpa using this
   |true=>
    have hh:f1o l x a.mv[j]=true:=by rw[f1o,zf,hb2];rfl
    refine Qv rfl ?_;simp[hb2];repeat(refine s_ ?_;simp)
    refine apS T47 T3 ?_;simp[Qb g.arr,Qh g.arr];refine⟨by simp[W1,Qb g.arr,Qh g.arr]<;>omega,?_⟩;repeat(refine s_ ?_;simp[hw])
    refine Qc (sl':=[(1,LI l),(3,.vptr 0 0),(5,.vptr 1 0),(7,.sl (H2.length+2) 1 0 (acc.length+1)),(11,.list (a.mv.map encMv)),(12,.i a.mv.length),(13,.i (j+1:Nat))]) ?_ (by simp);have:=z6 (H2.length+2) _ ⟨by omega,by rw[hh];exact g.put [AObj.vars [AV.i a.mv[j].src,AV.i a.mv[j].dst,AV.list (a.mv[j].on.map encL)],AObj.arr 3 1 [AV.i a.mv[j].dst]] _ rfl⟩ (by omega);rw[hh]at this;simpa using this
  have hh:f1o l x a.mv[j]=false:=by simp[f1o,hb]
  refine pcL (Fs l a.mv[j].src) ?_;simp[hb,gL];refine Wg rfl rfl ?_;simp[hb];refine Qv rfl ?_;repeat(refine s_ ?_;simp[hw])
  refine Qc (sl':=[(1,LI l),(3,.vptr 0 0),(5,.vptr 1 0),(7,.sl q 1 0 acc.length),(11,.list (a.mv.map encMv)),(12,.i a.mv.length),(13,.i (j+1:Nat))]) ?_ (by simp);have:=z6 q _ ⟨by omega,by rw[hh];simpa using g.add [AObj.vars [AV.i a.mv[j].src,AV.i a.mv[j].dst,AV.list (a.mv[j].on.map encL)]]⟩ (by omega);rw[hh]at this;simpa using this
 have z7:j=a.mv.length:=by simp at zc;omega
 subst z7;rw[yR]at g |-;have za:=x0k l x a.mv;repeat(refine s_ ?_;simp)
 refine Q0 rfl rfl (Lh H2 q (V2 l x a.mv) g.arr (by omega)) rfl ?_;rintro r H' ⟨rfl,rfl⟩;simp;repeat(refine s_ ?_;simp)
 have g2:=Qg g.arr (.arr 3 1 ((Tm (V2 l x a.mv)).map (AV.int .i64)));have zg:=S0 (V2 l x a.mv);rw[<-zg];refine Q0 rfl rfl (S9 _ q (Tm (V2 l x a.mv)) g2 (by omega) (Ai _)) rfl ?_;rintro r H' ⟨rfl,G,rfl⟩;simp;have g3:=Qg g.arr (.arr 3 1 ((Lib.compact (Tm (V2 l x a.mv))++G).map (AV.int .i64)));rw[k1v,x2z (λm hm=>(ha.mv m hm).dst)]at *
 repeat(refine s_ ?_;simp)
 rw[xA]at g3;simp[g3]
end
def d0k(H:List AObj)(l:List Int)(g:Nat)(cap:AV)(f:Int->Bool)(hl:l.length<=1000000000)(hg:∀z∈l,FC prog g [.i z,cap] H (λr H'=>r= .bool (f z)/\H'=H)):
  FC prog 106 [LI l,.fn (.func g) [] [cap]] H (λr H'=>r= .i (Nq f l)/\H'=H):=by
 refine fcB func106 results106 ntmps106 ?_;simp only[Qe];repeat(refine s_ ?_;simp)
 refine Qi (Qc (sl':=[(0,LI l),(1,.fn (.func g) [] [cap]),(7,.i l.length),(8,.i 0)]) ?_ (by simp));refine Qj (F:=λ(j:Nat)=>⟨[(0,LI l),(1,.fn (.func g) [] [cap]),(7,.i l.length),(8,.i j)],H⟩)
  (λj=>j<=l.length/\∀i,∀hi:i<l.length,i<j->f l[i]=false) (λj=>l.length - j) ?_ 0 ⟨by simp,by simp⟩
 rintro j ⟨hj,hI⟩ ih;repeat(refine s_ ?_;simp)
 refine Qa rfl (λz7=>?_) (λz8=>?_)
 ·have z1:j<l.length:=by simpa using z7
  have hw:=wz j (by omega);repeat(refine s_ ?_;simp[z1])
  refine Q0 rfl rfl (hg _ (zT z1)) rfl ?_;rintro r H' ⟨rfl,rfl⟩;simp;repeat(refine s_ ?_;simp)
  refine Qa rfl (λh=>?_) (λh=>?_)
  ·repeat(refine s_ ?_;simp)
   rw[Cv z1 h hI]
  repeat(refine s_ ?_;simp[hw])
  refine Qc (sl':=[(0,LI l),(1,.fn (.func g) [] [cap]),(7,.i l.length),(8,.i (j+1:Nat))]) (ih (j+1) ⟨by omega,λi hi za=>?_⟩ (by omega)) (by simp);by_cases e:i=j
  ·subst e;exact h
  exact hI i hi (by omega)
 have z6:j=l.length:=by simp at z8;omega
 subst z6;repeat(refine s_ ?_;simp)
 rw[Gy hI]
def B8(H:List AObj)(l:List Int)(g:Nat)(cap:AV)(f:Int->Bool)(hl:l.length<=1000000000)(hg:∀z∈l,FC prog g [.i z,cap] H (λr H'=>r= .bool (f z)/\H'=H)):
  FC prog 47 [LI l,.fn (.func g) [] [cap]] H (λr H'=>r= .bool (l.any f)/\H'=H):=by
 refine fcB func47 results47 ntmps47 ?_;simp only[Qe];repeat(refine s_ ?_;simp)
 refine Q0 rfl rfl (d0k H l g cap f hl hg) rfl ?_;rintro r H' ⟨rfl,rfl⟩;simp;repeat(refine s_ ?_;simp)
 rw[<-y17]
attribute [simp] T4
section
attribute [local irreducible] Ti
end
section
attribute [local irreducible] Ky
attribute [local irreducible] Ra
end
def w1m{α:Type}{a b:List α}(h:a.length=b.length)(hi:∀i,∀h1:i<a.length,∀h2:i<b.length,a[i]=b[i]):a=b:=wG h hi
section
attribute [local irreducible] Ee Tk Wi Wp
end
section
attribute [local irreducible] w1e Wp
end
def u0i{p:Prd}{i:Nat}(h:i<p.length)(hv:¬(p[i].length<=12)):q2g p=false:=by rw[u6,Ne,Xz];exact λk=>hv (k.2 _ (zT h))
def k1b(p:Prd):PC prog 78 [encP p] (λr=>r= .bool (q2g p)):=by
 refine pcB func78 results78 ntmps78 ?_;simp only[Qe];simp only[encP];refine Wf 0 0 rfl rfl (λhlen=>?_);rw[yL]at hlen;repeat(refine s_ ?_;simp)
 refine Qu p.length (λj=>j<=5/\∀i,∀hi:i<p.length,i<j->p[i].length<=12) (λj=>[(1,.vptr 0 0),(3,.i j)]) (λ_=>[.vars [.list (p.map encL)]]) rfl (by simp) (by simp) (by simp) (by simp) (by simp) ?_;rintro j hj ⟨za,hI⟩ ih;repeat(refine s_ ?_;simp)
 refine Qa rfl (λz6=>?_) (λz7=>?_)
 ·have z1:j<p.length:=by simp at z6;omega
  have zb:j<5:=by simp at z6;omega
  have hw:=wz j (by omega);repeat(refine s_ ?_;simp[z1])
  refine pcL (j2a p[j]) ?_;simp;repeat(refine s_ ?_;simp)
  refine Qa rfl (λhe=>?_) (λhe=>?_)
  ·repeat(refine s_ ?_;simp)
   rw[u0i z1 (by simp at he;omega)]
  repeat(refine s_ ?_;simp[hw])
  refine Qs [] (ih z1 ⟨by omega,λi hi zc=>?_⟩) rfl (by simp) ?_ (by simp) (by simp)
  ·by_cases e:i=j
   ·subst e;simp at he;omega
   exact hI i hi (by omega)
  simp
 have z8:p.length<=j\/5<=j:=by simp at z7;omega
 repeat(refine s_ ?_;simp)
 rw[wB,Xz,decide_eq_true_eq];constructor
 ·intro h4;refine⟨by omega,λs hs=>?_⟩;obtain⟨i,hi,rfl⟩:=xE hs;exact hI i hi (by omega)
 intro h4;omega
section
def Mm{a:Aut}:V0 a=true↔a.fin.length<=8/\a.mv.length<=16/\∀m∈a.mv,q2g m.on=true:=by simp only[V0,yJ,decide_eq_true_eq,yE,and_assoc]
attribute [local irreducible] q2g
def z1w(a:Aut):PC prog 27 [encA a] (λr=>r= .bool (V0 a)):=by
 refine pcB func27 results27 ntmps27 ?_;simp only[Qe];simp only[encA];refine Wf 0 2 rfl rfl (λhlen=>?_);rw[yL]at hlen;repeat(refine s_ ?_;simp)
 refine Qu a.mv.length (λj=>j<=20/\∀i,∀hi:i<a.mv.length,i<j->q2g a.mv[i].on=true) (λj=>[(1,.vptr 0 0),(3,.i j)]) (λ_=>[.vars (Ql a)]) rfl (by simp) (by simp) (by simp) (by simp) (by simp) ?_;rintro j hj ⟨za,hI⟩ ih;repeat(refine s_ ?_;simp)
 refine Qa rfl (λz6=>?_) (λz7=>?_)
 ·have z1:j<a.mv.length:=by simp at z6;omega
  have zb:j<20:=by simp at z6;omega
  have hw:=wz j (by omega);repeat(refine s_ ?_;simp[z1])
  refine pcL (k1b a.mv[j].on) ?_;simp;repeat(refine s_ ?_;simp)
  refine Qa rfl (λhe=>?_) (λhe=>?_)
  ·repeat(refine s_ ?_;simp)
   have:V0 a=false:=by rw[u6,Ne,Mm];intro k;have:=k.2.2 _ (zT z1);rw[this]at he;cases he
   rw[this]
  repeat(refine s_ ?_;simp[hw])
  refine Qs [] (ih z1 ⟨by omega,λi hi zc=>?_⟩) rfl (by simp) ?_ (by simp) (by simp)
  ·by_cases e:i=j
   ·subst e;simpa using he
   exact hI i hi (by omega)
  simp
 have z8:a.mv.length<=j\/20<=j:=by simp at z7;omega
 repeat(refine s_ ?_;simp)
 rw[wB,Mm];simp;constructor
 ·rintro⟨h4,h5⟩;refine⟨by omega,by omega,λm hm=>?_⟩;obtain⟨i,hi,rfl⟩:=xE hm;exact hI i hi (by omega)
 rintro⟨h4,h5,_⟩;omega
end
def Bz(a b:Prd):PC prog 77 [encP a,encP b] (λr=>r= .bool (decide (a=b))):=by
 refine pcB func77 results77 ntmps77 ?_;simp only[Qe];simp only[encP];refine Wf 0 0 rfl rfl (λhlen=>?_);rw[yL]at hlen;repeat(refine s_ ?_;simp)
 refine Qa rfl (λh=>?_) (λh=>?_)
 ·repeat(refine s_ ?_;simp)
  intro e;subst e;simp at h
 have hl:a.length=b.length:=by simp at h;omega
 repeat(refine s_ ?_;simp)
 refine Qu a.length (λj=>∀i,i<j->∀h1:i<a.length,∀h2:i<b.length,a[i]=b[i]) (λj=>[(2,.vptr 0 0),(3,.vptr 1 0),(5,.i j)]) (λ_=>[.vars [.list (a.map encL)],.vars [.list (b.map encL)]]) rfl (by simp) (by simp) (by simp) (by simp) (by simp) ?_;intro j hj hI ih;repeat(refine s_ ?_;simp)
 refine Qa rfl (λz7=>?_) (λz8=>?_)
 ·have z1:j<a.length:=by simpa using z7
  have za:j<b.length:=by omega
  have hw:=wz j (by omega);repeat(refine s_ ?_;simp)
  refine Qn tOk mixed [] (.val 0 (.val 1 (.val 2 (.val 3 (.val 4 (.val 5 (.val 6 (.val 7 (.val 8 (.val 9 (.one 10 (.val 11 (.done))))))))))))) rfl (by kernel_rfl) ?_;simp[z1,za];refine pcL (v2o a[j] b[j]) ?_;simp;repeat(refine s_ ?_;simp)
  refine Qa rfl (λh3=>?_) (λh3=>?_)
  ·repeat(refine s_ ?_;simp)
   intro e;subst e;simp at h3
  repeat(refine s_ ?_;simp[hw])
  refine Qs [] (ih z1 (λi hi h1 h2=>?_)) rfl (by simp) ?_ (by simp) (by simp)
  ·by_cases e:i=j
   ·subst e;simpa using h3
   exact hI i (by omega) h1 h2
  simp
 have z6:j=a.length:=by simp at z8;omega
 subst z6;repeat(refine s_ ?_;simp)
 exact w1m hl (λi h1 h2=>hI i h1 h1 h2)
section
def d0s(p:Prd)(g:Nat)(f:List Iv->Bool)(hg:∀s,PC prog g [LIv s] (λr=>r= .bool (f s))):
  PC prog 176 [.list (p.map encL),.fn (.func g) [] []] (λr=>r= .i (Nq f p)):=by
 refine pcB func176 results176 ntmps176 ?_;simp only[Qe];refine Tw 0 rfl (λhlen=>?_);rw[yL]at hlen;repeat(refine s_ ?_;simp)
 refine Qu p.length (λj=>∀i,∀hi:i<p.length,i<j->f p[i]=false) (λj=>[(0,.list (p.map encL)),(1,.fn (.func g) [] []),(7,.i p.length),(8,.i j)]) (λ_=>[]) rfl (by simp) (by simp) (by simp) (by simp) (by simp) ?_;intro j hj hI ih;repeat(refine s_ ?_;simp)
 refine Qa rfl (λz7=>?_) (λz8=>?_)
 ·have z1:j<p.length:=by simpa using z7
  have hw:=wz j (by omega);repeat(refine s_ ?_;simp[z1])
  refine pcL (hg p[j]) ?_;simp;repeat(refine s_ ?_;simp)
  refine Qa rfl (λh=>?_) (λh=>?_)
  ·repeat(refine s_ ?_;simp)
   rw[Cv z1 h hI]
  repeat(refine s_ ?_;simp[hw])
  refine Qs [] (ih z1 (λi hi za=>?_)) rfl (by simp) ?_ (by simp) (by simp)
  ·by_cases e:i=j
   ·subst e;exact h
   exact hI i hi (by omega)
  simp
 have z6:j=p.length:=by simp at z8;omega
 subst z6;repeat(refine s_ ?_;simp)
 rw[Gy hI]
def Fz(p:Prd)(g:Nat)(f:List Iv->Bool)(hg:∀s,PC prog g [LIv s] (λr=>r= .bool (f s))):
  PC prog 111 [.list (p.map encL),.fn (.func g) [] []] (λr=>r= .bool (p.any f)):=by
 refine pcB func111 results111 ntmps111 ?_;simp only[Qe];repeat(refine s_ ?_;simp)
 refine pcL (d0s p g f hg) ?_;simp;repeat(refine s_ ?_;simp)
 rw[<-y17]
def j1x(s:List Iv):PC prog 177 [LIv s] (λr=>r= .bool (decide (0<s.length))):=by refine pcB func177 results177 ntmps177 ?_;simp only[Qe];repeat(refine s_ ?_;simp)
def w2k(s:List Iv):PC prog 112 [LIv s] (λr=>r= .bool (decide (256<s.length))):=by
 refine pcB func112 results112 ntmps112 ?_;simp only[Qe];repeat(refine s_ ?_;simp)
 omega
def u1j(p:Prd):(!p.any λs=>decide (0<s.length))=Wp p:=by
 unfold Wp;rw[List.not_any_eq_all_not]
 congr 1
 funext s;cases s<;>simp
def g1b(p:Prd):PC prog 116 [encP p] (λr=>r= .bool (Wp p)):=by
 refine pcB func116 results116 ntmps116 ?_;simp only[Qe];simp only[encP];repeat(refine s_ ?_;simp)
 refine pcL (Fz p 177 (λs=>decide (0<s.length)) j1x) ?_;simp;repeat(refine s_ ?_;simp)
 rw[<-u1j p,Bool.not_not]
def q2n(m:Mv):Bool:=m.on.any λs=>decide (256<s.length)
def w0e(a:Aut):V3 a=(decide (256<a.fin.length) || decide (2048<a.mv.length) || a.mv.any q2n):=rfl
attribute [local irreducible] q2n
end
abbrev LSy (w:List Sy):AV:= .list (w.map encSy)
section
def M4(T:Int):List Sy->Int
 |[]=>0
 |x::r=>if Ky T x≠0 then Ky T x else M4 T r
def v1h(a:Aut)(w:List Sy):Int:=if Wd a≠0 then Wd a else if 4096<w.length then 5 else M4 a.types w
def w16(a:Aut)(w:List Sy):Bool×Int:=if v1h a w≠0 then(false,v1h a w)else(Ro a w,0)
def C5{T:Int}:∀(w:List Sy),M4 T w=0↔∀x∈w,Ky T x=0
 |[]=>by simp[M4]
 |x::r=>by
  rw[M4];by_cases h:Ky T x=0
  ·rw[if_neg (λk=>k h),C5 r];simp[h]
  rw[if_pos h];exact⟨λk=>absurd k h,λk=>absurd (k x (by simp)) h⟩
attribute [local irreducible] Ky Ro
end
def I7:List Iv:=[⟨-1099511627776,1099511627776⟩]
def u0f:E9 []=I7:=by simp[E9,R3,I7]
def u15:PC prog 101 [] (λr=>r=LIv I7):=by
 refine pcB func101 results101 ntmps101 ?_;simp only[Qe];repeat(refine s_ ?_;simp)
 simp[I7]
def w25(n:Int):PC prog 100 [.i n] (λr=>r= .tup [LIv I7,.i 0]):=by
 refine pcB func100 results100 ntmps100 ?_;simp only[Qe];repeat(refine s_ ?_;simp)
 refine pcL (u15) ?_;simp;repeat(refine s_ ?_;simp)
section
attribute [local irreducible] upL I7
def j0k(T:Nat)(hT:T<=1000):PC prog 99 [.i T,.fn (.func 100) [] []] (λr=>r= .tup [encP (yH T I7),.i 0]):=by
 refine pcB func99 results99 ntmps99 ?_;simp only[Qe];simp only[encP];repeat(refine s_ ?_;simp)
 refine Ts 1 0 145 1 rfl rfl ?_;simp;obtain⟨K,hK⟩:∃K,K=[AObj.vars [AV.nils],AObj.vars [AV.nils]]:=⟨_,rfl⟩
 have hst:=GL.start (K:=K) (S:=1) [] [] 145 1 (by rw[hK];simp);refine Qi (Qc (sl':=[(1,.fn (.func 100) [] []),(4,.vptr 0 0),(6,.vptr 1 0),(10,.i T),(11,.i 0)]) ?_ (by simp));refine Qj (F:=λ(u:Nat×Nat×List AObj)=>⟨[(1,.fn (.func 100) [] []),(4,.vptr 0 0),(6,.vptr 1 0),(10,.i T),(11,.i u.1)],u.2.2⟩)
  (λu=>u.1<=T/\GL K u.2.2 1 u.2.1 [] [] 145 1 (upL (λ_=>I7) u.1)) (λu=>T - u.1) ?_ (0,K.length,_) ⟨by simp,by rw[v05,hK]at *;exact hst⟩
 rintro⟨j,q,H2⟩ ⟨hj,g⟩ ih;simp only at hj g ih |-;have gR:H2[0]?=some (AObj.vars [AV.nils]):=g.kp (by decide) (by rw[hK];rfl);have g2:=g.cell;have g3:=g.arr;rw[Oh]at g2;simp only[u5]at g2;repeat(refine s_ ?_;simp)
 refine Qa rfl (λzd=>?_) (λze=>?_)
 ·have zf:j<T:=by simpa using zd
  have hw:=wz j (by omega);repeat(refine s_ ?_;simp)
  refine pcL (w25 j) ?_;simp;repeat(refine s_ ?_;simp)
  refine Qv rfl ?_;have z6:∀L:List AObj,(H2.set q .dead++L)[1]?=some (AObj.vars [AV.sl q 1 0 j]):=λL=>by have:=g.at L;rw[Oh]at this;exact this
  have z8:∀(L:List AObj) (h:1<(H2.set q .dead++L).length),(H2.set q .dead++L)[1]'h=AObj.vars [AV.sl q 1 0 j]:=λL h=>by have:=z6 L;rw[zP h]at this;exact Option.some.inj this
  have za:=λA y=>g.put A y (Oh _ _).symm;have zg:upL (λ_=>I7) j++[encL I7]=upL (λ_=>I7) (j+1):=(x09 _ _).symm;have z1:=λH=>ih (j+1,H2.length+1,H);have z7:=Oh (λ_=>I7) j;simp only[<-zg]at z1;repeat(refine s_ ?_;simp[g2])
  generalize upL (λ_=>I7) j=xs at *
  refine apS T68 Km ?_;simp[Qb g3,Qh g3,z7,z6,z8];refine⟨by simp[W1,Qb g3,Qh g3,z7,z6,z8]<;>omega,?_⟩;repeat(refine s_ ?_;simp[g2,hw,z6,z8])
  refine Qc (sl':=[(1,.fn (.func 100) [] []),(4,.vptr 0 0),(6,.vptr 1 0),(10,.i T),(11,.i (j+1:Nat))]) (z1 _ ⟨by omega,za _ _⟩ (by omega)) ?_;simp
 have zb:j=T:=by simp at ze;omega
 subst zb;have hS:=(zE.1 g2).1;have zh:q≠0/\q≠1:=by have:=g.ge;rw[hK]at this;simp at this;omega
 have z7:=Oh (λ_=>I7) j;have zc: .list (upL (λ_=>I7) j)=AV.list ((yH j I7).map encL):=by rw[x15];simp[Function.comp_def,List.map_const']
 generalize upL (λ_=>I7) j=xs at *
 refine Wn q g3 1 g2 ?_;have k1:∀X,((H2.set q .dead).set 1 X)[0]?=some (AObj.vars [AV.nils]):=λX=>Qd (by decide) (Qd zh.1 gR _) _;have k2:∀X,((H2.set q .dead).set 1 X)[1]?=some X:=λX=>zS (by simpa using hS);have k3:∀X Y,(((H2.set q .dead).set 1 X).set 0 Y)[0]?=some Y:=λX Y=>Qg (k1 X) _;simp[z7];rw[zZ (by omega)];repeat(refine s_ ?_;simp[k1,k2,k3])
 have h2:=AV.list.inj zc;rw[List.map_replicate]at h2;exact h2
def v0p(T:Int)(h1:1<=T)(h2:T<=16):PC prog 42 [.i T] (λr=>r= .tup [encP (Wi T.toNat),.i 0]):=by
 refine pcB func42 results42 ntmps42 ?_;simp only[Qe];simp only[encP];have hw:Wi T.toNat=yH T.toNat I7:=by rw[Wi,u0f]
 have hT:((T.toNat:Nat):Int)=T:=by omega
 have hc:=j0k T.toNat (by omega);rw[hT]at hc;have n1:¬T<1:=by omega
 have n2:¬16<T:=by omega
 rw[hw];repeat(refine s_ ?_;simp[n1,n2])
 refine Qa rfl (λh=>?_) (λh=>?_)
 ·simp at h
 repeat(refine s_ ?_;simp)
 refine pcL (hc) ?_;simp;repeat(refine s_ ?_;simp)
end
section
attribute [local irreducible] Kp
def x17(p:Prd):PC prog 125 [encP p] (λr=>r= .fn (.func 188) [] [.iptr [.list (p.map encL)]]):=by refine pcB func125 results125 ntmps125 ?_;simp only[Qe];simp only[encP];repeat(refine s_ ?_;simp)
def j0x(p:Prd)(h0:Kp [p]=0)(hv:Wp p=false):PC prog 64 [encP p] (λr=>r= .tup [encSy (Qk p),.i 0]):=by
 have hlen:p.length<=16:=by
  unfold Kp at h0;by_cases hc:Ra p.length p=0
  ·have:=((Ef _ p).1 hc).1;omega
  rw[if_pos hc]at h0;exact absurd h0 hc
 obtain⟨t,x,rr,h1,h2,h3⟩:∃t x r,p[t]?=some (x::r)/\Qy p 0=(0+t,x.lo)/\∀j,j<t->p[j]?=some []:=by refine H8 p 0 ?_;rw[Wp,ut]at hv;obtain⟨s,hs,hn⟩:=hv;exact⟨s,hs,λe=>hn (by rw[e];rfl)⟩
 rw[Nat.zero_add]at h2;have z8:Qk p=⟨t,x.lo⟩:=by rw[Qk,h2]
 rw[z8];obtain⟨zd,za⟩:=zE.1 h1;refine pcB func64 results64 ntmps64 ?_;simp only[Qe];simp only[encP,encSy];repeat(refine s_ ?_;simp)
 refine Fl 3 rfl ?_;simp;refine pcL (Ll [p]) ?_;simp;repeat(refine s_ ?_;simp)
 refine Qa rfl (λh=>by rw[h0]at h;simp at h) (λh=>?_);repeat(refine s_ ?_;simp)
 refine pcL (x17 p) ?_;simp;repeat(refine s_ ?_;simp)
 refine Ej rfl (Rf:=λ_ H'=>4<H'.length/\(∃sl' ps' a' b',H'[4]?=some (.lp false (some Code.ret) 25 sl' ps' a' b'))/\H'[1]?=some (.vars [.i t,.i x.lo])/\H'[2]?=some (.vars [.i 0])) ?_ ?_
 ·simp;refine F3 λH1 z6=>?_;have f1:H1[1]?=some (.vars [.i 0,.i 0]):=by rw[z6];rfl
  have f2:H1[2]?=some (.vars [.i 0]):=by rw[z6];rfl
  have f4:=congrArg (λh:List AObj=>h[4]?) z6;simp at f4;have zb:H1.length=5:=by rw[z6];simp
  clear z6;refine fcB func188 results188 ntmps188 ?_;simp only[Qe];repeat(refine s_ ?_;simp)
  refine Qi (Qc (sl':=[(0,.yld 4),(6,.list (p.map encL)),(7,.i p.length),(8,.i (0:Nat))]) ?_ (by simp));refine Qj (F:=λ(u:Nat)=>⟨[(0,.yld 4),(6,.list (p.map encL)),(7,.i p.length),(8,.i u)],H1⟩) (λu=>u<=t) (λu=>t - u) ?_ 0 (by simp);rintro j hj ih;have z1:j<p.length:=by omega
  have hw:=wz j (by omega);repeat(refine s_ ?_;simp)
  refine Qa rfl (λ_=>?_) (λzc=>by simp at zc;omega);by_cases hjt:j=t
  ·subst hjt;repeat(refine s_ ?_;simp[z1,za])
   refine Yv rfl rfl (q:=4) rfl rfl f4 rfl rfl rfl (λjm K2=>jm=some Code.ret/\5<=K2.length/\K2[1]?=some (.vars [.i j,.i x.lo])/\K2[2]?=some (.vars [.i 0])) ?_ ?_
   ·simp[Rz];have e1:=Qd (j:=4) (by decide) f1 .dead;have e2:=Qd (j:=4) (by decide) f2 .dead;have e4:=Qg f4 .dead;have e6:(H1.set 4 .dead).length=5:=by simp[zb]
    generalize H1.set 4 .dead=E at *
    have e3:∀y,(E.set 1 y)[2]?=some (.vars [.i 0]):=λy=>Qd (by decide) e2 y;repeat(refine s_ ?_;simp[e1,e2,e3])
    exact⟨Qd (by decide) (Qd (by decide) e4 _) _,rfl,by simp[e6],Qd (by decide) (Qg e1 _) _,Qg (e3 _) _⟩
   rintro jm K2 ⟨rfl,v1,v2,v3⟩;simp;repeat(refine s_ ?_;simp)
   have v6:4<K2.length:=by omega
   refine Qa rfl (λ_=>?_) (λh=>by cases h);repeat(refine s_ ?_;simp)
   exact⟨by omega,⟨_,_,_,_,zS v6⟩,v2,v3⟩
  have z7:p[j]=[]:=by have:=h3 j (by omega);rw[zP z1]at this;exact Option.some.inj this
  repeat(refine s_ ?_;simp[z1,z7])
  refine Wg rfl rfl ?_;simp;refine Qv rfl ?_;simp;repeat(refine s_ ?_;simp[hw])
  exact Qc (sl':=[(0,.yld 4),(6,.list (p.map encL)),(7,.i p.length),(8,.i (j+1:Nat))]) (ih (j+1) (by omega) (by omega)) (by simp)
 rintro r H' ⟨hl,⟨sl',ps',a',b',k4⟩,k1,k2⟩;refine⟨_,_,_,_,_,_,_,k4,?_⟩;simp;have u1:=Qd (j:=4) (by decide) k1 .dead;have u2:=Qd (j:=4) (by decide) k2 .dead;generalize H'.set 4 .dead=E at *
 repeat(refine s_ ?_;simp[u1,u2])
end
section
abbrev c2g:Iv:=⟨-1099511627776,1099511627776⟩
def U7(i:Nat):Qw [] i=[]:=rfl
def Av{l:List Prd}{j i:Nat}(hj:j<l.length)(hi:i<l[j].length):Qw (l.take (j+1)) i=Qw (l.take j) i++l[j][i]:=by unfold Qw;rw[zY hj,wS];simp[yV,hi]
def Uz{T:Nat}{l:List Prd}(hl:∀p∈l,PCk T p)(i:Nat):(Qw l i).length<=256 * l.length:=by
 induction l with
 |nil=>simp[Qw]
 |cons p r ih=>
  have h1:=ih (λq hq=>hl q (by simp[hq]));have h2:(p.getD i []).length<=256:=by
   by_cases hi:i<p.length
   ·rw[W4 hi];exact((hl p (by simp)).2 _ (zT hi)).len
   simp[yV,hi]
  unfold Qw at *;rw[List.flatMap_cons,yP,List.length_cons];omega
def Kv(xs:List Iv):List Int:=w0n (c2g::xs)
def q11(xs:List Iv)(x:Iv):Kv (xs++[x])=Kv xs++[x.lo,x.hi+1]:=by unfold Kv;rw[<-List.cons_append,x0t]
def Z8(xs:List Iv):(Kv xs).length=2 * xs.length+2:=by rw[Kv,y1n];simp;omega
def z02(l:List Prd)(i:Nat):Lib.compact (Tm (Kv (Qw l i)))=Wc l i:=rfl
attribute [local irreducible] Kv Tm Lib.compact Qw
def y2r(T:Nat)(l:List Prd)(i:Nat)(hi:i<T)(hT:T<=16)(hl:∀p∈l,PCk T p)(hn:l.length<=256):PC prog 166 [LP l,.i i] (λr=>r=LI (Wc l i)):=by
 refine pcB func166 results166 ntmps166 ?_;simp only[Qe];repeat(refine s_ ?_;simp)
 have h2:Kv (Qw (l.take 0) i)=[-1099511627776,1099511627777]:=by rw[wD,U7,Kv];rfl
 have zi:=Uz hl i;refine Qi (Qc (sl':=[(0,LP l),(1,.i i),(5,.sl 0 1 0 (Kv (Qw (l.take 0) i)).length),(11,LP l),(12,.i l.length),(13,.i (0:Nat))]) ?_ (by rw[h2];simp));refine Qj (F:=λ(u:Nat×Nat×List AObj)=>⟨[(0,LP l),(1,.i i),(5,.sl u.2.1 1 0 (Kv (Qw (l.take u.1) i)).length),(11,LP l),(12,.i l.length),(13,.i u.1)],u.2.2⟩)
  (λu=>u.1<=l.length/\SL [] u.2.2 u.2.1 3 1 ((Kv (Qw (l.take u.1) i)).map (AV.int .i64))) (λu=>l.length - u.1) ?_ (0,0,_) ⟨by simp,by rw[h2];exact⟨rfl,by simp,λj hj=>by simp at hj⟩⟩
 rintro⟨j,q,H2⟩ ⟨hj,g⟩ ih;simp only at hj g ih |-;repeat(refine s_ ?_;simp)
 refine Qa rfl (λzj=>?_) (λzk=>?_)
 ·have z6:j<l.length:=by simpa using zj
  have hw:=wz j (by omega);have hp:=hl _ (zT z6);have z8:i<l[j].length:=by rw[hp.1];exact hi
  have hs:=hp.2 _ (zT z8);have hst:=Av z6 z8;have za:=Uz (l:=l.take j) (λp hp=>hl p (wd hp)) i;rw[wC]at za;have zf:=hs.len;have zb:=λk hk=>hs.iv (j:=k) hk;repeat(refine s_ ?_;simp[z6,z8])
  generalize l[j][i]=s at *;generalize hA:Qw (l.take j) i=A at *;refine Qi (Qc (sl':=[(0,LP l),(1,.i i),(5,.sl q 1 0 (Kv (A++s.take 0)).length),(11,LP l),(12,.i l.length),(13,.i j),(21,LIv s),(22,.i s.length),(23,.i (0:Nat))]) ?_ (by simp))
  refine Qj (F:=λ(u:Nat×Nat×List AObj)=>⟨[(0,LP l),(1,.i i),(5,.sl u.2.1 1 0 (Kv (A++s.take u.1)).length),(11,LP l),(12,.i l.length),(13,.i j),(21,LIv s),(22,.i s.length),(23,.i u.1)],u.2.2⟩)
   (λu=>u.1<=s.length/\SL [] u.2.2 u.2.1 3 1 ((Kv (A++s.take u.1)).map (AV.int .i64))) (λu=>s.length - u.1) ?_ (0,q,_) ⟨by simp,by rw[wD,xO];exact g.add _⟩
  rintro⟨m,q',H3⟩ ⟨hm,g'⟩ ih';simp only at hm g' ih' |-;repeat(refine s_ ?_;simp)
  refine Qa rfl (λzc=>?_) (λzd=>?_)
  ·have z1:m<s.length:=by simpa using zc
   have zl:=wz m (by omega);obtain⟨b1,b2,b3⟩:=zb m z1;have zm:IntKind.i64.wrap (s[m].hi+1)=s[m].hi+1:=wrap_i64 _ (by omega) (by omega);have zn:Kv (A++s.take (m+1))=Kv (A++s.take m)++[s[m].lo,s[m].hi+1]:=by rw[zY z1,<-List.append_assoc,q11]
   have zg:=Z8 (A++s.take m);rw[yP,wC]at zg;have zh:=λq' H'=>ih' (m+1,q',H');simp only[zn]at zh;generalize Kv (A++s.take m)=acc at *
   repeat(refine s_ ?_;simp[z1,zm])
   refine apS T47 T3 ?_;simp[Qb g'.arr,Qh g'.arr];refine⟨by simp[W1,Qb g'.arr,Qh g'.arr]<;>omega,?_⟩;repeat(refine s_ ?_;simp[zl])
   refine Qc (sl':=[(0,LP l),(1,.i i),(5,.sl (H3.length+2) 1 0 (acc.length+2)),(11,LP l),(12,.i l.length),(13,.i j),(21,LIv s),(22,.i s.length),(23,.i (m+1:Nat))]) ?_ (by simp);have:=zh (H3.length+2) _ ⟨by omega,g'.put [AObj.vars [AV.i s[m].lo,AV.i s[m].hi],AObj.arr 3 1 [AV.i s[m].lo,AV.i (s[m].hi+1)]] _ rfl⟩ (by omega);simpa using this
  have z7:m=s.length:=by simp at zd;omega
  subst z7;rw[yR]at g' |-;repeat(refine s_ ?_;simp[hw])
  refine Qc (sl':=[(0,LP l),(1,.i i),(5,.sl q' 1 0 (Kv (A++s)).length),(11,LP l),(12,.i l.length),(13,.i (j+1:Nat))]) ?_ (by simp);have:=ih (j+1,q',H3) ⟨by omega,by rw[hst];exact g'⟩ (by show l.length - (j+1)<l.length - j;omega);rw[hst]at this;exact this
 have ze:j=l.length:=by simp at zk;omega
 subst ze;rw[yR]at g |-;have zg:=Z8 (Qw l i);rw[<-z02];generalize Kv (Qw l i)=acc at *
 repeat(refine s_ ?_;simp)
 refine Q0 rfl rfl (Lh H2 q acc g.arr (by omega)) rfl ?_;rintro r H' ⟨rfl,rfl⟩;simp;repeat(refine s_ ?_;simp)
 have g2:=Qg g.arr (.arr 3 1 ((Tm acc).map (AV.int .i64)));have zf:=S0 acc;rw[<-zf];refine Q0 rfl rfl (S9 _ q (Tm acc) g2 (by omega) (Ai _)) rfl ?_;rintro r H' ⟨rfl,G,rfl⟩;simp;have g3:=Qg g.arr (.arr 3 1 ((Lib.compact (Tm acc)++G).map (AV.int .i64)));repeat(refine s_ ?_;simp)
 rw[xA]at g3;simp[g3]
end
section
attribute [simp] g2j T5 T9
def sb(b:Bool):UInt8:=if b then 1 else 0
def sgB(bs:List Bool):List UInt8:=bs.map sb
def f0p:∀ {a b:List Bool},sgB a=sgB b->a=b
 |[],[],_=>rfl
 |[],_::_,h=>by simp[sgB]at h
 |_::_,[],h=>by simp[sgB]at h
 |x::a,y::b,h=>by simp only[sgB,List.map_cons,List.cons.injEq]at h;obtain⟨h1,h2⟩:=h;rw[f0p (a:=a) (b:=b) h2];cases x<;>cases y<;>simp[sb]at h1 |-
def Ca(bs:List Bool):(sgB bs).length=bs.length:=by simp[sgB]
def sgJ(bs:List Bool)(j:Nat):List AV:=(sgB (bs.take j)++yH (bs.length - j) 0).map byteAV
def y2c{bs:List Bool}{j:Nat}(h:j<=bs.length):(sgJ bs j).length=bs.length:=by simp[sgJ,sgB];omega
def k1k(bs:List Bool):yH bs.length (AV.int .u8 0)=sgJ bs 0:=by simp[sgJ,sgB]
def v2j(bs:List Bool):sgJ bs bs.length=(sgB bs).map byteAV:=by simp[sgJ]
def d2h{bs:List Bool}{j:Nat}(h:j<bs.length)(hb:bs[j]=true):(sgJ bs j).set j (AV.int .u8 1)=sgJ bs (j+1):=by
 have h1:(sgB (bs.take j)).length=j:=by simp[sgB];omega
 have e:bs.length - j=(bs.length - (j+1))+1:=by omega
 unfold sgJ;rw[xA,List.set_append_right (h:=by simp[h1]),zY h,e,uJ];have hm:j - min j bs.length=0:=by omega
 simp[h1,sgB,hb,sb,byteAV,hm]
def z2a{bs:List Bool}{j:Nat}(h:j<bs.length):(sgJ bs j)[j]?=some (AV.int .u8 0):=by
 have h1:(sgB (bs.take j)).length=j:=by simp[sgB];omega
 unfold sgJ;have e:bs.length - j=(bs.length - (j+1))+1:=by omega
 rw[xA,zO (by simp[h1]),e,uJ];simp[h1]
def g28{bs:List Bool}{j:Nat}(h:j<bs.length)(hb:bs[j]=false):sgJ bs j=sgJ bs (j+1):=by
 have e:bs.length - j=(bs.length - (j+1))+1:=by omega
 unfold sgJ;rw[zY h,e,uJ];simp[sgB,hb,sb]
def w2v{l:List Prd}{i j:Nat}(n:Int)(hj:j<l.length)(hi:i<l[j].length)(h:j<(I9 l i n).length):(I9 l i n)[j]=Kj l[j][i] n:=by simp[I9,yV,hi]
attribute [local irreducible] sgJ sgB Kj I9
def Bu(T:Nat)(l:List Prd)(i:Nat)(n:Int)(hi:i<T)(hT:T<=16)(hl:∀p∈l,PCk T p)(hn:l.length<=256):PC prog 167 [LP l,.i i,.i n] (λr=>r= .str (sgB (I9 l i n))):=by
 refine pcB func167 results167 ntmps167 ?_;simp only[Qe];have z6:(I9 l i n).length=l.length:=by simp[I9]
 repeat(refine s_ ?_;simp)
 refine Er tOk rfl rfl rfl g2j rfl T5 rfl rfl rfl (n:=l.length) (by simp;omega) (by unfold maxLen;omega) (.int .u8 0) rfl ?_;simp;rw[<-z6,k1k];repeat(refine s_ ?_;simp)
 refine Qi (Qc (sl':=[(1,.i i),(2,.i n),(7,.sl 0 1 0 l.length),(15,LP l),(16,.i l.length),(17,.i (0:Nat))]) ?_ (by simp[z6]));refine Qj (F:=λ(u:Nat×List AObj)=>⟨[(1,.i i),(2,.i n),(7,.sl 0 1 0 l.length),(15,LP l),(16,.i l.length),(17,.i u.1)],u.2⟩)
  (λu=>u.1<=l.length/\u.2[0]?=some (.arr 5 1 (sgJ (I9 l i n) u.1))) (λu=>l.length - u.1) ?_ (0,_) ⟨by simp,rfl⟩
 rintro⟨j,H2⟩ ⟨hj,g⟩ ih;simp only at hj g ih |-;have ze:=y2c (bs:=I9 l i n) (j:=j) (by omega);repeat(refine s_ ?_;simp)
 refine Qa rfl (λzg=>?_) (λzh=>?_)
 ·have z1:j<l.length:=by simpa using zg
  have hw:=wz j (by omega);have hp:=hl _ (zT z1);have za:i<l[j].length:=by rw[hp.1];exact hi
  have hs:=hp.2 _ (zT za);have zi:=w2v n z1 za (by omega);have hT:=d2h (bs:=I9 l i n) (j:=j) (by omega);have hF:=g28 (bs:=I9 l i n) (j:=j) (by omega);rw[zi]at hT hF;have zb:f1h l[j][i] n=(Kj l[j][i] n,0):=by rw[f1h,if_pos ((Bk _).2 hs)]
  have z7:=λH'=>ih (j+1,H');simp only at z7;repeat(refine s_ ?_;simp[z1,za])
  refine pcL (Jd l[j][i] n) ?_;simp;rw[zb];generalize Kj l[j][i] n=b at *
  repeat(refine s_ ?_;simp)
  have gL:∀L,(H2++L)[0]?=some (.arr 5 1 (sgJ (I9 l i n) j)):=λL=>Qb g L;cases b with
  |true=>
   rw[<-hT rfl]at z7;clear hT hF;refine Qa rfl (λ_=>?_) (λh=>by cases h);have zc:=z2a (bs:=I9 l i n) (j:=j) (by omega);have zj:∀hh,(sgJ (I9 l i n) j)[j]'hh=AV.int .u8 0:=λhh=>by rw[zP hh]at zc;exact Option.some.inj zc
   have gL1:∀L hh,(H2++L)[0]'hh= .arr 5 1 (sgJ (I9 l i n) j):=λL hh=>by have:=gL L;rw[zP hh]at this;exact Option.some.inj this
   repeat(refine s_ ?_;simp[gL,gL1,ze,z1,z6,zc,zj,hw])
   refine Qc (sl':=[(1,.i i),(2,.i n),(7,.sl 0 1 0 l.length),(15,LP l),(16,.i l.length),(17,.i (j+1:Nat))]) ?_ (by simp);exact z7 _ ⟨by omega,Qg (gL _) _⟩ (by omega)
  |false=>
   rw[<-hF rfl]at z7;refine Qa rfl (λh=>by cases h) (λ_=>?_);repeat(refine s_ ?_;simp[hw])
   refine Qc (sl':=[(1,.i i),(2,.i n),(7,.sl 0 1 0 l.length),(15,LP l),(16,.i l.length),(17,.i (j+1:Nat))]) ?_ (by simp);exact z7 _ ⟨by omega,gL _⟩ (by omega)
 have zd:j=l.length:=by simp at zh;omega
 subst zd;have z8:=v2j (I9 l i n);rw[z6]at z8;rw[z8]at g ze;have zf:=Ca (I9 l i n);generalize sgB (I9 l i n)=s at *
 repeat(refine s_ ?_;simp)
 refine w01 tOk rfl rfl g2j rfl T5 rfl T9 rfl rfl (s:=s) (by simp[g,zf,z6];rw[zZ (by simp[zf,z6])]) rfl ?_;simp;repeat(refine s_ ?_;simp)
end
section
open Go.RowKit Go.Shelf Go.Lib Go.Sort
def z0m(x y:Iv)(W:World):Calls prog 175 #[.agg #[.int .i64 x.lo,.int .i64 x.hi],.agg #[.int .i64 y.lo,.int .i64 y.hi]] W λe w'=>e= .returned (.int .i64 (Lib.compareInt x.lo y.lo))/\∃q os',w'=grow (W.drewN q) os':=by
 have z1:=λW'=>Tryz.cmp_Compare_int x.lo y.lo W';generalize Lib.compareInt x.lo y.lo=r at z1 |-
 go_enter func175,ntmps175
 go_wp2_with (go_at_call 133;refine(z1 _).mono ?_;rintro e w' ⟨rfl,rfl⟩)
 go_ret
 exact⟨rfl,0,_,by rw[alloc_eq_grow,alloc_eq_grow,grow_grow];rfl⟩
def k1a(H:List AObj)(p:Nat)(l:List Iv)(hp:H[p]?=some (.arr 144 2 (l.map encIv)))(hl:l.length<=1000000):
  FC prog 174 [.sl p 2 0 l.length,.fn (.func 175) [] []] H
   (λr H'=>r= .tup []/\∃l':List Iv,l'.Perm l/\Ni l'/\H'=H.set p (.arr 144 2 (l'.map encIv))):=by
 refine(w1d (xs:=l.map encIv) (R9 func174 rfl rfl) (by simp) hp (u2e l) [.func (.func 175) #[] #[]] (λw I m vs a b=>Hv _ w I m _ vs a b) (λz1=>∃l':List Iv,l'.Perm l/\Ni l'/\z1=l'.map encIv) ?_ ?_).mono ?_
 ·intro b cap w hH hb hc;have eg:∀args w,(callFunc 175 args).run prog w= .ok (.enter 175 args) w:=enters_of func175 (by kernel_rfl) rfl;have:=AnyQ.slices_SortFunc Tryz.sortIv 2 isAgg144 sizeOf144 Zd (λ_=>rfl) (λx v hv=>by simp[Zd]at hv;rcases hv with rfl|rfl<;>rfl) (λx y=>Lib.compareInt x.lo y.lo) d2a 175 #[] b 0 cap l.toArray w eg (λ_ _ _ _ x y=>z0m x y _) hH hb (by simp;omega);change Calls prog 174 _ _ _ at this;rw[show(l.toArray).size=l.length by simp]at this;refine Calls.mono (this) ?_;rintro e w' ⟨rfl,d',n,os,h1,h2,rfl⟩;obtain⟨s1,_,s3⟩:=h1;have hs:d'.toList.length=l.length:=by simpa using s1
  refine⟨rfl,d'.toList.map encIv,flatK Zd 2 d',n,os,⟨d'.toList,?_,?_,rfl⟩,by simp[hs],by simpa using u2e d'.toList,rfl⟩
  ·rw[show d'.extract 0 l.length=d' by simp[<-hs],show l.toArray.extract 0 l.length=l.toArray by simp]at s3;simpa using s3
  refine List.pairwise_iff_getElem.2 λi j hi hj z6=>?_;have:=h2 i j (Nat.zero_le _) z6 (by omega);rw[g2h,getElem!_pos d' i (by simpa using hi),getElem!_pos d' j (by simpa using hj)]at this;simpa using this
 ·rintro h;have z7:l=[]:=by simpa using h
  subst z7;exact⟨⟨[],.refl _,.nil,rfl⟩,λw=>AnyF.slices_SortFunc_none Tryz.sortIv none 0 _ w⟩
 rintro r H' ⟨rfl,z1,⟨l',h1,h2,rfl⟩,rfl⟩;exact⟨rfl,l',h1,h2,rfl⟩
end
section
def F0(l l':List Iv)(z1:∀y∈l,y.lo<=y.hi)(hp:l'.Perm l)(hl:Ni l'):Qz [] l'=E5 l:=
 Kh l' (O6 l) [] (hp.trans (Pl l).1.symm) hl (Pl l).2 (λy hy=>z1 y (hp.mem_iff.1 hy))
def SL.upd{K G:List AObj}{p e sz:Nat}{xs:List AV}(h:SL K G p e sz xs)(L:List AObj)(ys:List AV):SL K (G.set p (.arr e sz ys)++L) p e sz ys:=by have hp:=(zE.1 h.arr).1;have z1:=h.ge;refine⟨by rw[zI (by simpa using hp)];exact zS hp,z1,λj hj=>?_⟩;rw[zI (by simp;omega),zH (by omega)];exact h.keep j hj
attribute [local irreducible] Eb Qz E5
def N1(H:List AObj)(q:Nat)(l:List Iv)(hq:H[q]?=some (.arr 144 2 (l.map encIv)))(hl:l.length<=1000000)(zf:∀y∈l,Dk y/\y.lo<=y.hi):
  FC prog 110 [.sl q 2 0 l.length] H (λr H'=>r=LIv (E5 l)/\H.length<=H'.length/\∀i,i<H.length->i≠q->H'[i]? =H[i]?):=by
 refine fcB func110 results110 ntmps110 ?_;simp only[Qe];repeat(refine s_ ?_;simp)
 refine Q0 rfl rfl (k1a H q l hq hl) rfl ?_;rintro r H' ⟨rfl,l',h1,h2,rfl⟩;simp;have hl':l'.length<=1000000:=by rw[h1.length_eq];exact hl
 have zl:=h1.length_eq;have zc:∀y∈l',Dk y:=λy hy=>(zf y (h1.mem_iff.1 hy)).1;rw[<-F0 l l' (λy hy=>(zf y hy).2) h1 h2,<-zl];have g0:=Qg hq (.arr 144 2 (l'.map encIv));have z7:∀i,i≠q->(H.set q (.arr 144 2 (l'.map encIv)))[i]? =H[i]? :=λi hi=>zH (λe=>hi e.symm);have hlen:(H.set q (.arr 144 2 (l'.map encIv))).length=H.length:=by simp
 generalize H.set q (.arr 144 2 (l'.map encIv))=H1 at *
 repeat(refine s_ ?_;simp)
 refine Qp (sl':=[(2,.nils),(3,.nils),(9,.sl q 2 0 l'.length),(10,.i l'.length),(11,.i (0:Nat))]) ?_ (by simp);refine Wu q g0 ?_;simp;rw[zZ (by simp)];have z1:∀i,i<H.length->i≠q->(H1.set q .dead)[i]? =H[i]? :=λi h1 h2=>by rw[zH (λe=>h2 e.symm)];exact z7 i h2
 have z8:(H1.set q .dead).length=H.length:=by simp[hlen]
 generalize H1.set q .dead=K at *;refine Q5 3 144 2 rfl ?_
 simp;have hst:=SL.start K 144 2;refine Qi (Qc (sl':=[(3,.sl K.length 2 0 (Qz [] (l'.take 0)).length),(9,LIv l'),(10,.i l'.length),(11,.i (0:Nat))]) ?_ (by simp[z8,Qz]));refine Qj (F:=λ(u:Nat×Nat×List AObj)=>⟨[(3,.sl u.2.1 2 0 (Qz [] (l'.take u.1)).length),(9,LIv l'),(10,.i l'.length),(11,.i u.1)],u.2.2⟩)
  (λu=>u.1<=l'.length/\SL K u.2.2 u.2.1 144 2 ((Qz [] (l'.take u.1)).map encIv)) (λu=>l'.length - u.1) ?_ (0,K.length,_) ⟨by simp,by rw[wD,Qz,List.foldl_nil];exact hst⟩
 rintro⟨j,p,G⟩ ⟨hj,g⟩ ih;simp only at hj g ih |-;repeat(refine s_ ?_;simp)
 refine Qa rfl (λzm=>?_) (λzg=>?_)
 ·have za:j<l'.length:=by simpa using zm
  have hw:=wz j (by omega);have zh:Qz [] (l'.take (j+1))=Eb (Qz [] (l'.take j)) l'[j]:=by rw[zY za,Ay]
  have zi:(Qz [] (l'.take j)).length<=j:=yW (Tu _ _) (by simp;omega);have zd:∀y∈Qz [] (l'.take j),Dk y:=A1 _ _ (by simp) (λy hy=>zc y (wd hy));have z6:=λp' G'=>ih (j+1,p',G');simp only[zh]at z6;clear zh;generalize Qz [] (l'.take j)=acc at *;generalize hx:l'[j]=x at *
  repeat(refine s_ ?_;simp[za,hx])
  rcases List.eq_nil_or_concat acc with rfl|⟨ini,y,rfl⟩
  ·refine Qn tOk mixed [] (.val 0 (.val 1 (.val 2 (.val 3 (.val 4 (.val 5 (.val 6 (.val 7 (.val 8 (.val 9 (.val 10 (.val 11 (.val 12 (.val 13 (.done))))))))))))))) rfl (by kernel_rfl) ?_;simp;refine Qv rfl ?_;simp;repeat(refine s_ ?_;simp)
   refine apS Km q0k ?_;simp[Qb g.arr,Qh g.arr];refine⟨by simp[W1,Qb g.arr,Qh g.arr]<;>omega,?_⟩;repeat(refine s_ ?_;simp[hw])
   refine Qc (sl':=[(3,.sl (G.length+2) 2 0 1),(9,LIv l'),(10,.i l'.length),(11,.i (j+1:Nat))]) ?_ (by simp);have:=z6 (G.length+2) _ ⟨by omega,by rw[Eb];exact g.put [AObj.vars [AV.i x.lo,AV.i x.hi],AObj.arr 144 2 [encIv x]] _ rfl⟩ (by omega);rw[Eb]at this;simpa using this
  have zn:=(Ev _).1 (zd y (by simp)).2;have zj:IntKind.i64.wrap (y.hi+1)=y.hi+1:=wrap_i64 _ (by omega) (by omega);have gA:=g.arr;rw[List.concat_eq_append]at g gA z6 zi |-;have hlen:(ini++[y]).length=ini.length+1:=by simp
  rw[hlen]at zi |-;have zk:IntKind.i64.wrap (ini.length:Int)=ini.length:=wrap_i64 _ (by omega) (by omega);have hg:((ini++[y]).map encIv)[ini.length]?=some (encIv y):=by simp
  have zb:(ini.length:Int)<ini.length+1:=by omega
  refine Qn tOk mixed [] (.val 0 (.val 1 (.val 2 (.val 3 (.val 4 (.val 5 (.val 6 (.val 7 (.val 8 (.val 9 (.val 10 (.val 11 (.val 12 (.val 13 (.done))))))))))))))) rfl (by kernel_rfl) ?_;simp[Qb gA,zk,hg,zj,zb];refine Qa rfl (λh1=>?_) (λh1=>?_)
  ·repeat(refine s_ ?_;simp)
   refine Qn tOk mixed [14] (.val 0 (.val 1 (.val 2 (.val 3 (.val 4 (.val 5 (.val 6 (.val 7 (.val 8 (.val 9 (.val 10 (.val 11 (.val 12 (.val 13 (.one 14 (.done)))))))))))))))) rfl (by kernel_rfl) ?_;simp[Qb gA,zk,hg,zj,zb,Qh gA];repeat(refine s_ ?_;simp[hw])
   have hR:Eb (ini++[y]) x=ini++[⟨y.lo,if y.hi<x.hi then x.hi else y.hi⟩]:=by rw[Eh,if_pos (by simpa using h1)]
   rw[hR]at z6;refine Qc (sl':=[(3,.sl p 2 0 (ini.length+1)),(9,LIv l'),(10,.i l'.length),(11,.i (j+1:Nat))]) ?_ (by simp);have:=z6 p _ ⟨by omega,g.upd [AObj.vars [AV.i x.lo,AV.i x.hi]] _⟩ (by omega);simpa using this
  repeat(refine s_ ?_;simp)
  refine apS Km q0k ?_;simp[Qb gA,Qh gA];refine⟨by simp[W1,Qb gA,Qh gA]<;>omega,?_⟩;repeat(refine s_ ?_;simp[hw])
  have hR:Eb (ini++[y]) x=ini++[y]++[x]:=by rw[Eh,if_neg (by simpa using h1)]
  rw[hR]at z6;refine Qc (sl':=[(3,.sl (G.length+2) 2 0 (ini.length+2)),(9,LIv l'),(10,.i l'.length),(11,.i (j+1:Nat))]) ?_ (by simp);have:=z6 (G.length+2) _ ⟨by omega,g.put [AObj.vars [AV.i x.lo,AV.i x.hi],AObj.arr 144 2 [encIv x]] _ rfl⟩ (by omega);simpa using this
 have ze:j=l'.length:=by simp at zg;omega
 subst ze;rw[yR]at g |-;refine Wu p g.arr ?_;simp;rw[zZ (by simp)];repeat(refine s_ ?_;simp)
 have zo:=(zE.1 g.arr).1;have zg:=g.ge;refine⟨by omega,λi h1 h2=>?_⟩;rw[zH (by omega),g.keep i (by omega)];exact z1 i h1 h2
end
section
def G6(F:Nat->List Iv)(T i:Nat):List AV:=(y_ T).map λk=>if k<i then encL (F k)else .nils
def z09(F:Nat->List Iv)(T i:Nat):(G6 F T i).length=T:=by simp[G6]
def Mb(F:Nat->List Iv)(T:Nat):yH T AV.nils=G6 F T 0:=by refine wG (by simp[G6]) λk h1 h2=>by simp[G6]
def y0f(F:Nat->List Iv){T i:Nat}(h:i<T):(G6 F T i)[i]?=some .nils:=by simp[G6,h]
def y0b(F:Nat->List Iv){T i:Nat}(h:i<T):(G6 F T i).set i (encL (F i))=G6 F T (i+1):=by
 refine wG (by simp[G6]) λk h1 h2=>?_;have hk:k<T:=by simpa[G6]using h2
 rw[List.getElem_set];by_cases e:i=k
 ·subst e;simp[G6]
 rw[if_neg e];simp only[G6,List.getElem_map,List.getElem_range];by_cases h3:k<i
 ·rw[if_pos h3,if_pos (by omega)]
 rw[if_neg h3,if_neg (by omega)]
def Cl(F:Nat->List Iv)(T:Nat):G6 F T T=((y_ T).map F).map encL:=by
 refine wG (by simp[G6]) λk h1 h2=>?_;have hk:k<T:=by simpa[G6]using h1
 simp[G6,hk]
def d0p(F:Nat->List Iv)(T:Nat):(G6 F T T).all (λx=>x.cells.all AV.pure)=true:=by rw[Cl,yE];intro x hx;obtain⟨s,_,rfl⟩:=zU.1 hx;simp[AV.cells,AV.pure]
def B0{T:Nat}{l:List Prd}(hl:∀p∈l,PWf T p){i:Nat}{y:Iv}(hy:y∈Qw l i):Dk y/\y.lo<=y.hi:=by
 obtain⟨p,hp,hx⟩:=Tq.1 hy;by_cases hi:i<p.length
 ·rw[W4 hi]at hx;exact⟨d2j (hl p hp) (zT hi) y hx,((hl p hp).2 _ (zT hi)).1.1 y hx⟩
 simp[yV,hi]at hx
def x01(T:Nat)(l:List Prd):(Uw T l).length=T:=by simp[Uw]
attribute [local irreducible] E5 Qw Uw G6
def Z7(T:Nat)(l:List Prd)(hT:T<=16)(hl:∀p∈l,PWf T p)(hn:∀i,i<T->(Qw l i).length<=1000000)(y1:l.length<=1000000):PC prog 53 [.i T,LP l] (λr=>r=encP (Uw T l)):=by
 refine pcB func53 results53 ntmps53 ?_;simp only[Qe];simp only[encP];repeat(refine s_ ?_;simp)
 refine Er tOk rfl rfl rfl T68 rfl Km rfl rfl rfl (n:=T) (by simp;omega) (by unfold maxLen;omega) .nils rfl ?_;simp;repeat(refine s_ ?_;simp)
 rw[Mb (λk=>E5 (Qw l k))];refine G8 1 rfl ?_;simp;refine Qi (Qc (sl':=[(0,.i T),(1,LP l),(4,.vptr 0 0),(5,.vptr 2 0),(12,.i T),(13,.i (0:Nat))]) ?_ (by simp));refine Qj (F:=λ(u:Nat×List AObj)=>⟨[(0,.i T),(1,LP l),(4,.vptr 0 0),(5,.vptr 2 0),(12,.i T),(13,.i u.1)],u.2⟩)
  (λu=>u.1<=T/\3<=u.2.length/\u.2[0]?=some (.vars [.nils])/\u.2[1]?=some (.va 145 1 (G6 (λk=>E5 (Qw l k)) T u.1))/\u.2[2]?=some (.vars [.sl 1 1 0 T])) (λu=>T - u.1) ?_ (0,_) ⟨by simp,by simp,rfl,rfl,rfl⟩
 rintro⟨i,H2⟩ ⟨hi,hH,g0,g1,g2⟩ ih;simp only at hi hH g0 g1 g2 ih |-;repeat(refine s_ ?_;simp)
 refine Qa rfl (λzp=>?_) (λzq=>?_)
 ·have z1:i<T:=by simpa using zp
  have hw:=wz i (by omega);have zl:=y0b (λk=>E5 (Qw l k)) z1;have zr:=y0f (λk=>E5 (Qw l k)) z1;have z7:=z09 (λk=>E5 (Qw l k)) T i;have zd:=hn i z1;have ze:=λH'=>ih (i+1,H');simp only[<-zl]at ze;clear zl;generalize G6 (λk=>E5 (Qw l k)) T i=row at *
  repeat(refine s_ ?_;simp)
  refine Sm 1 i 144 2 g1 zr ?_;refine Qi (Qc (sl':=[(0,.i T),(1,LP l),(4,.vptr 0 0),(5,.vptr 2 0),(6,.i i),(12,.i T),(13,.i i),(16,LP l),(17,.i l.length),(18,.i (0:Nat))]) ?_ (by simp));refine Qj (F:=λ(u:Nat×Nat×List AObj)=>⟨[(0,.i T),(1,LP l),(4,.vptr 0 0),(5,.vptr 2 0),(6,.i i),(12,.i T),(13,.i i),(16,LP l),(17,.i l.length),(18,.i u.1)],u.2.2⟩)
   (λu=>u.1<=l.length/\3<=u.2.1/\u.2.2[0]?=some (.vars [.nils])/\u.2.2[1]?=some (.va 145 1 (row.set i (.sl u.2.1 2 0 (Qw (l.take u.1) i).length)))/\u.2.2[2]?=some (.vars [.sl 1 1 0 T])/\u.2.2[u.2.1]?=some (.arr 144 2 ((Qw (l.take u.1) i).map encIv))) (λu=>l.length - u.1) ?_
   (0,H2.length,_) ⟨by simp,hH,Qd (by decide) (Qb g0 _) _,by rw[wD,U7];exact Qg (Qb g1 _) _,Qd (by decide) (Qb g2 _) _,by rw[wD,U7];simp only;rw[zH (i:=1) (j:=H2.length) (by omega)];simp⟩
  rintro⟨j,q,G⟩ ⟨hj,zt,k0,k1,k2,k3⟩ ih2;simp only at hj zt k0 k1 k2 k3 ih2 |-;repeat(refine s_ ?_;simp)
  refine Qa rfl (λzf=>?_) (λzg=>?_)
  ·have z6:j<l.length:=by simpa using zf
   have zm:=wz j (by omega);have hp:=hl _ (zT z6);have zh:i<l[j].length:=by rw[hp.1];exact z1
   have hst:=Av z6 zh;have zi:(Qw (l.take (j+1)) i).length<=1000000:=by refine yW ?_ zd;unfold Qw;rw[<-xW (j+1) l,wS,yP,xW];omega
   rw[hst,yP]at zi;have z8:=λq' G'=>ih2 (j+1,q',G');simp only[hst]at z8;clear hst;repeat(refine s_ ?_;simp[z6,zh])
   generalize hs:l[j][i]=s at *;generalize Qw (l.take j) i=acc at *;refine Qn tOk mixed [13,15] (.val 0 (.val 2 (.val 3 (.val 4 (.val 5 (.val 6 (.val 7 (.val 8 (.val 9 (.val 10 (.val 11 (.val 12 (.two 1 (.one 13 (.val 14 (.one 15 (.done)))) 13 (.val 1 (.val 14 (.one 15 (.done))))))))))))))))) rfl (by kernel_rfl) ?_
   simp[Qb k1,Qb k2,z1,zh,z6,hs,z7];have zu:q≠0:=by omega
   have zv:q≠1:=by omega
   have zw:q≠2:=by omega
   have y2:=(zE.1 k3).1;have m0:∀L,(G.set q .dead++L)[0]?=some (AObj.vars [AV.nils]):=λL=>Qb (Qd zu k0 _) L;have m1:∀L,(G.set q .dead++L)[1]?=some (.va 145 1 (row.set i (.sl q 2 0 acc.length))):=λL=>Qb (Qd zv k1 _) L;have zc:∀L hh,(G.set q .dead++L)[1]'hh= .va 145 1 (row.set i (.sl q 2 0 acc.length)):=λL hh=>by have:=m1 L;rw[zP hh]at this;exact Option.some.inj this
   have m2:∀L,(G.set q .dead++L)[2]?=some (AObj.vars [AV.sl 1 1 0 T]):=λL=>Qb (Qd zw k2 _) L;have n2:∀L,(G++L)[2]?=some (AObj.vars [AV.sl 1 1 0 T]):=λL=>Qb k2 L;refine⟨?_,?_⟩
   ·refine apS Km q0k ?_;simp[Qb k3,Qh k3,m0,m1,zc,m2,n2,z1,z7];refine⟨by simp[W1,Qb k3,Qh k3,m0,m1,zc,m2,n2,z1,z7]<;>omega,?_⟩;repeat(refine s_ ?_;simp[zm])
    refine Qc (sl':=[(0,.i T),(1,LP l),(4,.vptr 0 0),(5,.vptr 2 0),(6,.i i),(12,.i T),(13,.i i),(16,LP l),(17,.i l.length),(18,.i (j+1:Nat))]) ?_ (by simp);refine z8 (G.length+1) _ ⟨by omega,by omega,Qd (by decide) (m0 _) _,?_,Qd (by decide) (m2 _) _,?_⟩ (by omega)
    ·rw[Qg (m1 _) _];simp
    rw[zH (by omega),zO (by simp)];simp
   refine apS Km q0k ?_;simp[Qb k3,Qh k3,m0,m1,zc,m2,n2,z1,z7];refine⟨by simp[W1,Qb k3,Qh k3,m0,m1,zc,m2,n2,z1,z7]<;>omega,?_⟩;repeat(refine s_ ?_;simp[zm])
   refine Qc (sl':=[(0,.i T),(1,LP l),(4,.vptr 0 0),(5,.vptr 2 0),(6,.i i),(12,.i T),(13,.i i),(16,LP l),(17,.i l.length),(18,.i (j+1:Nat))]) ?_ (by simp);refine z8 (G.length+1) _ ⟨by omega,by omega,Qd (by decide) (m0 _) _,?_,Qd (by decide) (m2 _) _,?_⟩ (by omega)
   ·rw[Qg (m1 _) _];simp
   rw[zH (by omega),zO (by simp)];simp
  have zb:j=l.length:=by simp at zg;omega
  subst zb;rw[yR]at k1 k3;have zn:∀y∈Qw l i,Dk y/\y.lo<=y.hi:=λy hy=>B0 hl hy;have y3:∀L,(G++L)[2]?=some (AObj.vars [AV.sl 1 1 0 T]):=λL=>Qb k2 L;have zx:∀hh,G[1]'hh= .va 145 1 (row.set i (.sl q 2 0 (Qw l i).length)):=λhh=>by rw[zP hh]at k1;exact Option.some.inj k1
  repeat(refine s_ ?_;simp)
  refine Qn tOk mixed [8,10] (.val 0 (.val 2 (.val 3 (.val 4 (.val 5 (.val 6 (.val 7 (.two 1 (.one 8 (.val 9 (.one 10 (.done)))) 8 (.val 1 (.val 9 (.one 10 (.done)))))))))))) rfl (by kernel_rfl) ?_;simp[k1,zx,k2,z1,z7];refine⟨?_,?_⟩
  ·refine Q0 rfl rfl (N1 G q (Qw l i) k3 zd zn) rfl ?_;rintro r H' ⟨rfl,hl',za⟩;have zy:=(zE.1 k2).1;have u0:=(za 0 (by omega) (by omega)).trans k0;have u1:=(za 1 (by omega) (by omega)).trans k1;have u2:=(za 2 (by omega) (by omega)).trans k2;have zj:∀hh,H'[1]'hh= .va 145 1 (row.set i (.sl q 2 0 (Qw l i).length)):=λhh=>by rw[zP hh]at u1;exact Option.some.inj u1
   simp[u1,zj,u2,z1,z7];repeat(refine s_ ?_;simp[hw])
   refine Qc (sl':=[(0,.i T),(1,LP l),(4,.vptr 0 0),(5,.vptr 2 0),(12,.i T),(13,.i (i+1:Nat))]) ?_ (by simp);exact ze _ ⟨by omega,by simp;omega,Qd (by decide) u0 _,Qg u1 _,Qd (by decide) u2 _⟩ (by omega)
  refine Q0 rfl rfl (N1 G q (Qw l i) k3 zd zn) rfl ?_;rintro r H' ⟨rfl,hl',za⟩;have zy:=(zE.1 k2).1;have u0:=(za 0 (by omega) (by omega)).trans k0;have u1:=(za 1 (by omega) (by omega)).trans k1;have u2:=(za 2 (by omega) (by omega)).trans k2;have zj:∀hh,H'[1]'hh= .va 145 1 (row.set i (.sl q 2 0 (Qw l i).length)):=λhh=>by rw[zP hh]at u1;exact Option.some.inj u1
  simp[u1,zj,u2,z1,z7];repeat(refine s_ ?_;simp[hw])
  refine Qc (sl':=[(0,.i T),(1,LP l),(4,.vptr 0 0),(5,.vptr 2 0),(12,.i T),(13,.i (i+1:Nat))]) ?_ (by simp);exact ze _ ⟨by omega,by simp;omega,Qd (by decide) u0 _,Qg u1 _,Qd (by decide) u2 _⟩ (by omega)
 have zk:i=T:=by simp at zq;omega
 subst zk;refine Oc 1 g1 (d0p _ _) ?_;rw[Cl]at *
 have zz:(y_ i).map (λk=>E5 (Qw l k))=Uw i l:=by unfold Uw;rfl
 rw[zz]at *;refine Wn 1 (Qg g1 _) 2 (Qd (by decide) g2 _) ?_
 have zo:=x01 i l;have e0:∀Y,((H2.set 1 AObj.dead).set 2 Y)[0]?=some (AObj.vars [AV.nils]):=λY=>Qd (by decide) (Qd (by decide) g0 _) _;have y0:∀Y hh,((H2.set 1 AObj.dead).set 2 Y)[0]'hh=AObj.vars [AV.nils]:=λY hh=>by have:=e0 Y;rw[zP hh]at this;exact Option.some.inj this
 have e2:∀Y,((H2.set 1 AObj.dead).set 2 Y)[2]?=some Y:=λY=>Qg (Qd (by decide) g2 _) _;have e3:∀Y Z,(((H2.set 1 AObj.dead).set 2 Y).set 0 Z)[0]?=some Z:=λY Z=>Qg (e0 Y) _;simp[zo];rw[zZ (by simp[zo])];repeat(refine s_ ?_;simp[e0,y0,e2,e3])
end
section
def GL.keepAll{K G G':List AObj}{S p:Nat}{pre post:List AV}{e sz:Nat}{xs:List AV}(h:GL K G S p pre post e sz xs)(hk:∀j,j<G.length->G'[j]? =G[j]?)(hl:G.length<=G'.length):GL K G' S p pre post e sz xs:=by have h1:=h.len;have h2:=h.lt;have h3:=(zE.1 h.arr).1;exact⟨(hk _ (by omega)).trans h.cell,(hk _ h3).trans h.arr,h.ge,h.lt,by omega,λj hj z1=>(hk j (by omega)).trans (h.keep j hj z1)⟩
def SL.le{K G:List AObj}{p e sz:Nat}{xs:List AV}(h:SL K G p e sz xs):K.length<=G.length:=by have:=(zE.1 h.arr).1;have:=h.ge;omega
attribute [local irreducible] upL E9 R3
def f1x(T:Nat)(p:Prd)(hp:PWf T p)(hl:∀s∈p,s.length<=1000000)(hT:T<=1000):PC prog 115 [encP p] (λr=>r=encP (Tk p)):=by
 refine pcB func115 results115 ntmps115 ?_;simp only[Qe];simp only[encP];have hlen:=hp.1;repeat(refine s_ ?_;simp)
 refine Ts 2 0 145 1 rfl rfl ?_;simp;obtain⟨K,hK⟩:∃K,K=[AObj.vars [.list (p.map encL)],AObj.vars [AV.nils],AObj.vars [AV.nils]]:=⟨_,rfl⟩
 have hst:=GL.start (K:=K) (S:=2) [] [] 145 1 (by rw[hK];simp);refine Qi (Qc (sl':=[(2,.vptr 1 0),(3,.vptr 2 0),(11,.list (p.map encL)),(12,.i p.length),(13,.i 0)]) ?_ (by simp));refine Qj (F:=λ(u:Nat×Nat×List AObj)=>⟨[(2,.vptr 1 0),(3,.vptr 2 0),(11,.list (p.map encL)),(12,.i p.length),(13,.i u.1)],u.2.2⟩)
  (λu=>u.1<=p.length/\GL K u.2.2 2 u.2.1 [] [] 145 1 (upL (λi=>E9 (p.getD i [])) u.1)) (λu=>p.length - u.1) ?_ (0,K.length,_) ⟨by simp,by rw[v05,hK]at *;exact hst⟩
 rintro⟨j,q,H2⟩ ⟨hj,g⟩ ih;simp only at hj g ih |-;repeat(refine s_ ?_;simp)
 refine Qa rfl (λzn=>?_) (λzo=>?_)
 ·have z7:j<p.length:=by simpa using zn
  have hw:=wz j (by omega);have hs:=hp.2 _ (zT z7);have zx:=hl _ (zT z7);have zy:=(Jb hs.1 hs.2).2.2;have zj:upL (λi=>E9 (p.getD i [])) j++[encL (E9 p[j])]=upL (λi=>E9 (p.getD i [])) (j+1):=by rw[x09,W4 z7]
  have z6:=Oh (λi=>E9 (p.getD i [])) j;have zc:=λq' H'=>ih (j+1,q',H');simp only[<-zj]at zc;clear zj;generalize upL (λi=>E9 (p.getD i [])) j=done at *
  repeat(refine s_ ?_;simp[z7])
  generalize p[j]=l at *
  obtain⟨zk,hb⟩:=hs;refine Q5 6 144 2 rfl ?_;simp;have zd:=SL.start H2 144 2;refine Qi (Qc (sl':=[(2,.vptr 1 0),(3,.vptr 2 0),(6,.sl H2.length 2 0 0),(7,.i (-1099511627776)),(11,.list (p.map encL)),(12,.i p.length),(13,.i j),(17,LIv l),(18,.i l.length),(19,.i (0:Nat))]) ?_ (by simp));refine Qj (F:=λ(u:Nat×Nat×List Iv×Int×List AObj)=>⟨[(2,.vptr 1 0),(3,.vptr 2 0),(6,.sl u.2.1 2 0 u.2.2.1.length),(7,.i u.2.2.2.1),(11,.list (p.map encL)),(12,.i p.length),(13,.i j),(17,LIv l),(18,.i l.length),(19,.i u.1)],u.2.2.2.2⟩)
   (λu=>u.1<=l.length/\SL H2 u.2.2.2.2 u.2.1 144 2 (u.2.2.1.map encIv)/\u.2.2.1++R3 (l.drop u.1) u.2.2.2.1=E9 l) (λu=>l.length - u.1) ?_ (0,H2.length,[],-1099511627776,_) ⟨by simp,zd,by simp[f1c]⟩
  rintro⟨k,p2,acc,n,G⟩ ⟨hk,s1,g2⟩ ih2;simp only at hk s1 g2 ih2 |-;have zz:acc.length<=1000001:=by have:=congrArg List.length g2;simp only[yP]at this;omega
  repeat(refine s_ ?_;simp)
  refine Qa rfl (λze=>?_) (λzf=>?_)
  ·have z1:k<l.length:=by simpa using ze
   have zp:=hb _ ⟨l[k],zT z1,xC _,zk.1 _ (zT z1)⟩;have zq:=hb _ ⟨l[k],zT z1,zk.1 _ (zT z1),xC _⟩;unfold inR at zp zq;have zl:=wz k (by omega);have zr:IntKind.i64.wrap (l[k].lo - 1)=l[k].lo - 1:=wrap_i64 _ (by omega) (by omega);have zm:IntKind.i64.wrap (l[k].hi+1)=l[k].hi+1:=wrap_i64 _ (by omega) (by omega);rw[Ec z1,Vp]at g2;repeat(refine s_ ?_;simp[z1])
   refine Qa rfl (λh3=>?_) (λh3=>?_)
   ·rw[if_pos (by simpa using h3)]at g2;repeat(refine s_ ?_;simp[z1,zr])
    refine apS Km q0k ?_;simp[Qb s1.arr,Qh s1.arr];refine⟨by simp[W1,Qb s1.arr,Qh s1.arr]<;>omega,?_⟩;repeat(refine s_ ?_;simp[z1,zl,zm])
    refine Qc (sl':=[(2,.vptr 1 0),(3,.vptr 2 0),(6,.sl (G.length+2) 2 0 (acc.length+1)),(7,.i (l[k].hi+1)),(11,.list (p.map encL)),(12,.i p.length),(13,.i j),(17,LIv l),(18,.i l.length),(19,.i (k+1:Nat))]) ?_ (by simp);have:=ih2 (k+1,G.length+2,acc++[(⟨n,l[k].lo - 1⟩:Iv)],l[k].hi+1,_) ⟨by simp;omega,s1.put [AObj.vars [AV.i l[k].lo,AV.i l[k].hi],.arr 144 2 [encIv (⟨n,l[k].lo - 1⟩:Iv)]] ((acc++[(⟨n,l[k].lo - 1⟩:Iv)]).map encIv) rfl,by simpa using g2⟩ (by simp;omega);simpa using this
   rw[if_neg (by simpa using h3)]at g2;repeat(refine s_ ?_;simp[z1,zl,zm])
   refine Qc (sl':=[(2,.vptr 1 0),(3,.vptr 2 0),(6,.sl p2 2 0 acc.length),(7,.i (l[k].hi+1)),(11,.list (p.map encL)),(12,.i p.length),(13,.i j),(17,LIv l),(18,.i l.length),(19,.i (k+1:Nat))]) ?_ (by simp);have:=ih2 (k+1,p2,acc,l[k].hi+1,_) ⟨by simp;omega,s1.add [AObj.vars [AV.i l[k].lo,AV.i l[k].hi]],by simpa using g2⟩ (by simp;omega);simpa using this
  have zb:k=l.length:=by simp at zf;omega
  subst zb;rw[List.drop_length,Mj]at g2;repeat(refine s_ ?_;simp)
  refine Qa rfl (λh3=>?_) (λh3=>?_)
  ·rw[if_pos (by simpa using h3)]at g2;repeat(refine s_ ?_;simp)
   refine apS Km q0k ?_;simp[Qb s1.arr,Qh s1.arr];refine⟨by simp[W1,Qb s1.arr,Qh s1.arr]<;>omega,?_⟩;have s2:=s1.put [.arr 144 2 [encIv (⟨n,1099511627776⟩:Iv)]] ((acc++[(⟨n,1099511627776⟩:Iv)]).map encIv) rfl;have e1:(acc++[(⟨n,1099511627776⟩:Iv)]).length=acc.length+1:=by simp
   rw[g2]at s2 e1;rw[<-e1];have e2:acc.map encIv++[AV.agg [AV.int IntKind.i64 n,AV.int IntKind.i64 1099511627776]]=(E9 l).map encIv:=by rw[<-g2];simp
   rw[e2];refine Qp (sl':=[(2,.vptr 1 0),(3,.vptr 2 0),(6,.sl (G.length+1) 2 0 (E9 l).length),(11,.list (p.map encL)),(12,.i p.length),(13,.i j)]) ?_ (by simp);generalize zg:G.set p2 AObj.dead++[AObj.arr 144 2 [AV.agg [AV.int IntKind.i64 n,AV.int IntKind.i64 1099511627776]],AObj.arr 144 2 ((E9 l).map encIv)]=GE;have s3:SL H2 GE (G.length+1) 144 2 ((E9 l).map encIv):=by rw[<-zg];simpa using s2
   clear s1 s2 zg;refine Wu (G.length+1) s3.arr ?_;simp;rw[zZ (by simp)];have zt:=(zE.1 s3.arr).1;have zu:=s3.ge;have g':=g.keepAll (G':=GE.set (G.length+1) .dead) (λj hj=>by rw[zH (by omega)];exact s3.keep j hj) (by simp;have:=s3.le;omega);generalize GE.set (G.length+1) .dead=E at *
   have c2:=g'.cell;have c3:=g'.arr;rw[z6]at c2;simp only[u5]at c2;have z8:∀L:List AObj,(E.set q .dead++L)[2]?=some (AObj.vars [AV.sl q 1 0 j]):=λL=>by have:=g'.at L;rw[z6]at this;exact this
   have za:=λA y=>g'.put A y z6.symm;repeat(refine s_ ?_;simp[c2])
   refine apS T68 Km ?_;simp[Qb c3,Qh c3,z6,z8];refine⟨by simp[W1,Qb c3,Qh c3,z6,z8]<;>omega,?_⟩;repeat(refine s_ ?_;simp[c2,hw,z8])
   refine Qc (sl':=[(2,.vptr 1 0),(3,.vptr 2 0),(11,.list (p.map encL)),(12,.i p.length),(13,.i (j+1:Nat))]) ?_ (by simp);exact zc (E.length+1) _ ⟨by omega,za _ _⟩ (by omega)
  rw[if_neg (by simpa using h3),xO]at g2;subst g2;refine Qp (sl':=[(2,.vptr 1 0),(3,.vptr 2 0),(6,.sl p2 2 0 (E9 l).length),(11,.list (p.map encL)),(12,.i p.length),(13,.i j)]) ?_ (by simp);have s3:=s1;clear s1;generalize zg:G=GE at *;refine Wu p2 s3.arr ?_
  simp;rw[zZ (by simp)];have zt:=(zE.1 s3.arr).1;have zu:=s3.ge;have g':=g.keepAll (G':=GE.set p2 .dead) (λj hj=>by rw[zH (by omega)];exact s3.keep j hj) (by simp;have:=s3.le;omega);generalize GE.set p2 .dead=E at *
  have c2:=g'.cell;have c3:=g'.arr;rw[z6]at c2;simp only[u5]at c2;have z8:∀L:List AObj,(E.set q .dead++L)[2]?=some (AObj.vars [AV.sl q 1 0 j]):=λL=>by have:=g'.at L;rw[z6]at this;exact this
  have za:=λA y=>g'.put A y z6.symm;repeat(refine s_ ?_;simp[c2])
  refine apS T68 Km ?_;simp[Qb c3,Qh c3,z6,z8];refine⟨by simp[W1,Qb c3,Qh c3,z6,z8]<;>omega,?_⟩;repeat(refine s_ ?_;simp[c2,hw,z8])
  refine Qc (sl':=[(2,.vptr 1 0),(3,.vptr 2 0),(11,.list (p.map encL)),(12,.i p.length),(13,.i (j+1:Nat))]) ?_ (by simp);exact zc (E.length+1) _ ⟨by omega,za _ _⟩ (by omega)
 have zh:j=p.length:=by simp at zo;omega
 subst zh;have g2:=g.cell;have g3:=g.arr;rw[Oh]at g2;simp only[u5]at g2;have gR:H2[1]?=some (AObj.vars [AV.nils]):=g.kp (by decide) (by rw[hK];rfl);have hS:=(zE.1 g2).1;have zv:q≠1/\q≠2:=by have:=g.ge;rw[hK]at this;simp at this;omega
 have z6:=Oh (λi=>E9 (p.getD i [])) p.length;have zi: .list (upL (λi=>E9 (p.getD i [])) p.length)=AV.list ((Tk p).map encL):=by rw[x15,j0p];rfl
 generalize upL (λi=>E9 (p.getD i [])) p.length=xs at *
 refine Wn q g3 2 g2 ?_;have k1:∀X,((H2.set q .dead).set 2 X)[1]?=some (AObj.vars [AV.nils]):=λX=>Qd (by decide) (Qd zv.1 gR _) _;have zw:∀X hh,((H2.set q .dead).set 2 X)[1]'hh=AObj.vars [AV.nils]:=λX hh=>by have:=k1 X;rw[zP hh]at this;exact Option.some.inj this
 have k2:∀X,((H2.set q .dead).set 2 X)[2]?=some X:=λX=>zS (by simpa using hS);have k3:∀X Y,(((H2.set q .dead).set 2 X).set 1 Y)[1]?=some Y:=λX Y=>Qg (k1 X) _;simp[z6];rw[zZ (by omega)];repeat(refine s_ ?_;simp[k1,zw,k2,k3])
 exact AV.list.inj zi
end
section
def q0a(l:List Bool)(hb:l.length<=1000000):FR prog 113 [.list (l.map .bool)] 4 1 (λr=>r=l.map .bool):=by
 refine q08 tOk func113 rfl results113 rfl (by simp[ntmps113]) ?_;rw[ntmps113];simp only[Qe];repeat(refine s_ ?_;simp)
 refine H5 tOk rfl rfl T22 rfl rfl rfl (λb z1=>?_);simp;refine Qa rfl (λh=>?_) (λh=>?_)
 ·subst h;have:l=[]:=by
   cases hx:l
   ·rfl
   have:=z1 (by simp[hx]);cases this
  rw[this];repeat(refine s_ ?_;simp)
 repeat(refine s_ ?_;simp)
 refine apS T22 T4 ?_;simp;refine⟨⟨?_,by simp;omega⟩,?_⟩
 ·intro y hy;obtain⟨x,_,rfl⟩:=zU.1 hy;exact⟨rfl,by simp[AV.cells,AV.leaf]⟩
 repeat(refine s_ ?_;simp)
def Ja(l:List Mv)(hb:l.length<=1000000):FR prog 114 [.list (l.map encMv)] 73 3 (λr=>r=l.map encMv):=by
 refine q08 tOk func114 rfl results114 rfl (by simp[ntmps114]) ?_;rw[ntmps114];simp only[Qe];repeat(refine s_ ?_;simp)
 refine H5 tOk rfl rfl T23 rfl rfl rfl (λb z1=>?_);simp;refine Qa rfl (λh=>?_) (λh=>?_)
 ·subst h;have:l=[]:=by
   cases hx:l
   ·rfl
   have:=z1 (by simp[hx]);cases this
  rw[this];repeat(refine s_ ?_;simp)
 repeat(refine s_ ?_;simp)
 refine apS T23 T73 ?_;simp;refine⟨⟨?_,by simp;omega⟩,?_⟩
 ·intro y hy;obtain⟨x,_,rfl⟩:=zU.1 hy;exact⟨rfl,by simp[AV.cells,AV.leaf]⟩
 repeat(refine s_ ?_;simp)
attribute [local irreducible] q2n
def Jv(H:List AObj)(f:Nat)(a:Aut)(hf:H[f]?=some (.arr 4 1 (a.fin.map .bool)))(zd:a.fin.length<=1000000)(ze:a.mv.length<=1000000):
  FC prog 54 [.agg [.i a.types,.sl f 1 0 a.fin.length,.list (a.mv.map encMv)]] H
   (λr H'=>((V3 a=true/\r= .tup [.agg [.i 0,.nils,.nils],.i 5])\/(V3 a=false/\r= .tup [.agg [.i a.types,.sl f 1 0 a.fin.length,.list (a.mv.map encMv)],.i 0]))/\∀i,i<H.length->H'[i]? =H[i]?):=by
 refine fcB func54 results54 ntmps54 ?_;simp only[Qe];repeat(refine s_ ?_;simp)
 refine Qa rfl (λh=>?_) (λh=>?_)
 ·repeat(refine s_ ?_;simp)
  have hb:V3 a=true:=by rw[w0e,vB];left;simp at h |-;omega
  exact⟨hb,λi hi=>zI hi⟩
 have hb:(decide (256<a.fin.length) || decide (2048<a.mv.length))=false:=by simp at h |-;omega
 repeat(refine s_ ?_;simp)
 refine Qi (Qc (sl':=[(1,.vptr H.length 0),(2,.vptr (H.length+1) 0),(18,.list (a.mv.map encMv)),(19,.i a.mv.length),(20,.i (0:Nat))]) ?_ (by simp));refine Qj (F:=λ(u:Nat×List AObj)=>⟨[(1,.vptr H.length 0),(2,.vptr (H.length+1) 0),(18,.list (a.mv.map encMv)),(19,.i a.mv.length),(20,.i u.1)],u.2⟩)
  (λu=>u.1<=a.mv.length/\H.length+2<=u.2.length/\(∀i,i<H.length->u.2[i]? =H[i]?)/\u.2[H.length]?=some (.vars [.i a.types,.sl f 1 0 a.fin.length,.list (a.mv.map encMv)])/\u.2[H.length+1]?=some (.vars [.i 0,.nils,.nils])/\∀i,∀hi:i<a.mv.length,i<u.1->q2n a.mv[i]=false) (λu=>a.mv.length - u.1) ?_ (0,_)
  ⟨by simp,by simp,λi hi=>zI hi,by simp,by simp,λi hi h=>by omega⟩
 rintro⟨j,G⟩ ⟨hj,hG,k0,k1,k2,hI⟩ ih;simp only at hj hG k0 k1 k2 hI ih |-;repeat(refine s_ ?_;simp)
 refine Qa rfl (λza=>?_) (λzb=>?_)
 ·have z1:j<a.mv.length:=by simpa using za
  have hw:=wz j (by omega);repeat(refine s_ ?_;simp[z1])
  refine pcL (Fz a.mv[j].on 112 (λs=>decide (256<s.length)) w2k) ?_;simp;repeat(refine s_ ?_;simp)
  have z8:∀L,(G++L)[H.length+1]?=some (.vars [.i 0,.nils,.nils]):=λL=>Qb k2 L;refine Qa rfl (λh=>?_) (λh=>?_)
  ·have k3:∀L Y,((G++L).set (H.length+1) Y)[H.length+1]?=some Y:=λL Y=>Qg (z8 L) Y;repeat(refine s_ ?_;simp[z8,k3])
   have hm:q2n a.mv[j]=true:=by unfold q2n;exact h
   have z6:V3 a=true:=by rw[w0e,vB];right;exact wW.2 ⟨_,zT z1,hm⟩
   exact⟨z6,λi hi=>by rw[zH (by omega),zI (by omega)];exact k0 i hi⟩
  have hm:q2n a.mv[j]=false:=by unfold q2n;exact h
  repeat(refine s_ ?_;simp[hw])
  refine Qc (sl':=[(1,.vptr H.length 0),(2,.vptr (H.length+1) 0),(18,.list (a.mv.map encMv)),(19,.i a.mv.length),(20,.i (j+1:Nat))]) ?_ (by simp);refine ih (j+1,_) ⟨by simp only;omega,by simp;omega,λi hi=>(zI (by omega)).trans (k0 i hi),Qb k1 _,Qb k2 _,λi hi zc=>?_⟩ (by simp only;omega);by_cases e:i=j
  ·subst e;exact hm
  exact hI i hi (by simp only at zc;omega)
 have z7:j=a.mv.length:=by simp at zb;omega
 subst z7;have z6:V3 a=false:=by rw[w0e,hb,Bool.false_or,vI];intro m hm;obtain⟨i,hi,rfl⟩:=xE hm;rw[hI i hi hi];simp
 have k3:∀Y,(G.set (H.length+1) Y)[H.length+1]?=some Y:=λY=>Qg k2 Y;repeat(refine s_ ?_;simp[k1,k2,k3])
 exact⟨z6,λi hi=>by rw[zH (by omega)];exact k0 i hi⟩
end
end Go.Abs
