/- Part Xf of the proof: steps on the way to the last part. No condition. -/
import Derived.Test.YtjmkolhkojgjpaaGreatDoorXe
import Derived.Test.YtjmkolhkojgjpaaGreatDoorXc
import Derived.Test.YtjmkolhkojgjpaaGreatDoorXd
set_option linter.all false
open List renaming getElem?_eq_some_iff->zB,getElem?_set_self->zK,getElem?_set_ne->zE,getElem?_append_left->zF,getElem?_append_right->zH,range->yU,ext_getElem->xZ,getD->yQ,findIdx?_eq_some_iff_getElem->xP,findIdx?_eq_none_iff->vR,getElem_of_mem->yZ,any_eq_false->vv,any_eq_true->wM,getElem_mem->zL,length_map->yO,take_succ_eq_append_getElem->zU,map_append->yR,take_zero->wd,length_take->xV,take_length->yI,all_eq_true->zZ,replicate->yB,nil_append->vU,getElem?_eq_getElem->zI,take_of_length_le->zV,flatMap_append->wJ,length_append->zW,mem_of_mem_take->xX,append_nil->xG,replicate_succ->uB,mem_map->zQ,take_append_drop->xO
open Nat renaming le_refl->zR,le_trans->yP
open Bool renaming eq_iff_iff->wK,eq_false_iff->uf,or_eq_true->wV
open Int renaming le_refl->xK
set_option maxHeartbeats 4000000
set_option linter.unusedSimpArgs false
set_option maxRecDepth 100000
open Go.Proofs.Tryz
namespace Go.Abs
open Go Go.Proofs
section
structure GL (K G:List AObj) (S p:Nat) (pre post:List AV) (e sz:Nat) (xs:List AV):Prop where
 cell:G[S]?=some (.vars (pre++ .sl p sz 0 xs.length::post))
 arr:G[p]?=some (.arr e sz xs)
 ge:K.length<=p
 lt:S<K.length
 len:K.length<=G.length
 keep:∀j,j<K.length->j≠S->G[j]? =K[j]?
def GL.kp{K G:List AObj}{S p:Nat}{pre post:List AV}{e sz:Nat}{xs:List AV}(h:GL K G S p pre post e sz xs){j:Nat}{x:AObj}(hj:j≠S)(hx:K[j]?=some x):G[j]?=some x:=by rw[h.keep j (zB.1 hx).1 hj];exact hx
def GL.start{K:List AObj}{S:Nat}(pre post:List AV)(e sz:Nat)(h:S<K.length):GL K ((K++[AObj.arr e sz []]).set S (.vars (pre++ .sl K.length sz 0 0::post))) S K.length pre post e sz []:=
 ⟨zK (by simp;omega),by rw[zE (by omega)];simp,zR _,h,by simp,λj hj z1=>by
  rw[zE (λe=>z1 e.symm),zF hj]⟩
def GL.put{K G:List AObj}{S p:Nat}{pre post:List AV}{e sz:Nat}{xs:List AV}(h:GL K G S p pre post e sz xs)(A:AObj)(y:AV){n:Nat}(hn:n=xs.length):
  GL K ((G.set p .dead++[A,AObj.arr e sz (xs++[y])]).set S (.vars (pre++ .sl (G.length+1) sz 0 (n+1)::post))) S (G.length+1) pre post e sz (xs++[y]):=by
 have hl:=h.len;have z6:=h.lt;have z7:=h.ge;subst hn;refine⟨by rw[zK (by simp;omega)];simp,by rw[zE (by omega),zH (by simp)];simp,by omega,z6,by simp;omega,λj hj z1=>?_⟩;rw[zE (λe=>z1 e.symm),zF (by simp;omega),zE (by omega)];exact h.keep j hj z1
def GL.at{K G:List AObj}{S p:Nat}{pre post:List AV}{e sz:Nat}{xs:List AV}(h:GL K G S p pre post e sz xs)(L:List AObj):(G.set p .dead++L)[S]?=some (.vars (pre++ .sl p sz 0 xs.length::post)):=by have hl:=h.len;have z1:=h.lt;have z6:=h.ge;rw[zF (by simp;omega),zE (by omega)];exact h.cell
def upL(F:Nat->List Iv)(j:Nat):List AV:=(yU j).map λi=>encL (F i)
def X3(F:Nat->List Iv)(j:Nat):upL F (j+1)=upL F j++[encL (F j)]:=by simp[upL,List.range_succ]
def Td(F:Nat->List Iv)(j:Nat):(upL F j).length=j:=by simp[upL]
def M4(F:Nat->List Iv)(n:Nat):upL F n=((yU n).map F).map encL:=by simp[upL]
def v01{α β:Type}(d:α)(f:α->β)(p:List α):(yU p.length).map (λi=>f (p.getD i d))=p.map f:=by
 refine xZ (by simp) λi h1 h2=>?_;have h:i<p.length:=by simpa using h1
 simp[yQ,h]
def C8(F:Nat->List Iv):upL F 0=[]:=rfl
attribute [local irreducible] upL
end
section
def j2o{T:Nat}{p:Prd}(h:PWf T p){s:List Iv}(hs:s∈p):∀x∈s,Sz x:=Mg (h.2 s hs).1 (h.2 s hs).2
attribute [local irreducible] Uo Ez
def Jp:∀(p:Prd) (i:Nat),(∃s∈p,s≠[])->∃t x r,p[t]?=some (x::r)/\Qx p i=(i+t,x.lo)/\∀j,j<t->p[j]?=some []
 |[],i,h=>by obtain⟨s,hs,_⟩:=h;cases hs
 |[]::p,i,h=>by
  obtain⟨t,x,r,h1,h2,h3⟩:=Jp p (i+1) (by obtain⟨s,hs,hn⟩:=h;rcases List.mem_cons.1 hs with rfl|hs;exact absurd rfl hn;exact⟨s,hs,hn⟩);refine⟨t+1,x,r,by simpa using h1,by rw[Qx,h2];congr 1;omega,λj hj=>?_⟩;cases j with
  |zero=>rfl
  |succ j=>simpa using h3 j (by omega)
 |(x::r)::p,i,_=>⟨0,x,r,rfl,by simp[Qx],λj hj=>by omega⟩
end
section
attribute [local irreducible] Uo Ez upL E3
end
section
attribute [local irreducible] Y5
def d1l{a:Aut}(h:OkA a){m:Mv}(hm:m∈a.mv):∀s∈m.on,s.length<=256:=λs hs=>((h.mv m hm).on.2 s hs).len
attribute [local irreducible] Wn Wj
end
section
abbrev LI (l:List Int):AV:= .list (l.map (AV.int .i64))
def Nt{α:Type}(f:α->Bool)(l:List α):Int:=match l.findIdx? f with|some i=>i|none=> -1
def X1{α:Type}{f:α->Bool}{l:List α}{j:Nat}(hj:j<l.length)(h:f l[j]=true)(hb:∀i,∀hi:i<l.length,i<j->f l[i]=false):Nt f l=j:=by unfold Nt;rw[xP.2 ⟨hj,h,λi hi=>by rw[hb i (by omega) hi];simp⟩]
def Gn{α:Type}{f:α->Bool}{l:List α}(hb:∀i,∀hi:i<l.length,i<l.length->f l[i]=false):Nt f l= -1:=by unfold Nt;rw[vR.2 (λx hx=>by obtain⟨i,hi,rfl⟩:=yZ hx;exact hb i hi hi)]
def g08{α:Type}(f:α->Bool)(l:List α):decide (0<=Nt f l)=l.any f:=by
 unfold Nt;cases h:l.findIdx? f with
 |none=>
  rw[vR]at h;have:l.any f=false:=by rw[vv];intro x hx;rw[h x hx];simp
  rw[this];rfl
 |some i=>obtain⟨h1,h2,_⟩:=xP.1 h;have:l.any f=true:=wM.2 ⟨_,zL h1,h2⟩;rw[this];simp
def z0j(l:List Int)(v:Int):PC prog 118 [LI l,.i v] (λr=>r= .i (Nt (λy=>v==y) l)):=by
 refine pcB func118 results118 ntmps118 ?_;simp only[Qf];refine U5 0 rfl (λhlen=>?_);rw[yO]at hlen;repeat(refine s_ ?_;simp)
 refine Wf l.length (λj=>∀i,∀hi:i<l.length,i<j->(v==l[i])=false) (λj=>[(0,LI l),(1,.i v),(7,.i l.length),(8,.i j)]) (λ_=>[]) rfl (by simp) (by simp) (by simp) (by simp) (by simp) ?_;intro j hj hI ih;repeat(refine s_ ?_;simp)
 refine Qb rfl (λz7=>?_) (λz8=>?_)
 ·have z1:j<l.length:=by simpa using z7
  have hw:=wz j (by omega);repeat(refine s_ ?_;simp[z1])
  refine Qb rfl (λh=>?_) (λh=>?_)
  ·repeat(refine s_ ?_;simp)
   rw[X1 (f:=λy=>v==y) z1 h hI]
  repeat(refine s_ ?_;simp[hw])
  refine Wd _ (ih z1 (λi hi za=>?_)) rfl (by simp) ?_ (by simp) (by simp)
  ·by_cases e:i=j
   ·subst e;exact h
   exact hI i hi (by omega)
  simp
 have z6:j=l.length:=by simp at z8;omega
 subst z6;repeat(refine s_ ?_;simp)
 rw[Gn (f:=λy=>v==y) hI]
def Dw(l:List Int)(v:Int):PC prog 169 [LI l,.i v] (λr=>r= .bool (l.contains v)):=by
 refine pcB func169 results169 ntmps169 ?_;simp only[Qf];repeat(refine s_ ?_;simp)
 refine pcL (z0j l v) ?_;simp;repeat(refine s_ ?_;simp)
 have:=g08 (λy=>v==y) l;rw[wK]at this;simpa using this
structure SL (K G:List AObj) (p e sz:Nat) (xs:List AV):Prop where
 arr:G[p]?=some (.arr e sz xs)
 ge:K.length<=p
 keep:∀j,j<K.length->G[j]? =K[j]?
def SL.kp{K G:List AObj}{p e sz:Nat}{xs:List AV}(h:SL K G p e sz xs){j:Nat}{x:AObj}(hx:K[j]?=some x):G[j]?=some x:=by rw[h.keep j (zB.1 hx).1];exact hx
def SL.start(K:List AObj)(e sz:Nat):SL K (K++[AObj.arr e sz []]) K.length e sz []:=
 ⟨by simp,zR _,λj hj=>zF hj⟩
def SL.add{K G:List AObj}{p e sz:Nat}{xs:List AV}(h:SL K G p e sz xs)(L:List AObj):SL K (G++L) p e sz xs:=
 ⟨by rw[zF (zB.1 h.arr).1];exact h.arr,h.ge,λj hj=>by
  rw[zF (by have:=(zB.1 h.arr).1;have:=h.ge;omega)];exact h.keep j hj⟩
def SL.put{K G:List AObj}{p e sz:Nat}{xs:List AV}(h:SL K G p e sz xs)(L:List AObj)(ys:List AV){n:Nat}(hn:n=G.length+L.length):SL K (G.set p .dead++(L++[AObj.arr e sz ys])) n e sz ys:=by have hp:=(zB.1 h.arr).1;have z1:=h.ge;subst hn;refine⟨by rw[zH (by simp),zH (by simp)];simp,by omega,λj hj=>?_⟩;rw[zF (by simp;omega),zE (by omega)];exact h.keep j hj
def SL.at'{K G:List AObj}{p e sz:Nat}{xs:List AV}(h:SL K G p e sz xs){j:Nat}{x:AObj}(hx:K[j]?=some x)(L:List AObj):(G++L)[j]?=some x:=(h.add L).kp hx
def v1k(l:List Int)(x:Sy)(m:Mv):Bool:=l.contains m.src && Rk m.on x
def Vp(l:List Int)(x:Sy)(ms:List Mv):List Int:=(ms.filter (v1k l x)).map (·.dst)
def c0u(l:List Int)(x:Sy)(ms:List Mv)(j:Nat)(h:j<ms.length):Vp l x (ms.take (j+1))=Vp l x (ms.take j)++(if v1k l x ms[j]then [ms[j].dst]else []):=by unfold Vp;rw[zU h,List.filter_append,yR];cases h:v1k l x ms[j]<;>simp[h]
def z0t(l:List Int)(x:Sy)(ms:List Mv):(Vp l x ms).length<=ms.length:=by unfold Vp;rw[yO];exact List.length_filter_le _ _
def k1z(a:Aut)(l:List Int)(x:Sy):Lib.compact (E4 (Vp l x a.mv))=z2z a l x:=rfl
def k1f(l:List Int)(x:Sy):Vp l x []=[]:=rfl
attribute [local irreducible] Vp Vm E4 Lib.compact
def Bt(a:Aut)(ha:OkA a)(l:List Int)(x:Sy)(hx:Wb a x):PC prog 108 [encA a,LI l,encSy x] (λr=>r=LI (Qy a l x)):=by
 refine pcB func108 results108 ntmps108 ?_;simp only[Qf];simp only[encA,encSy];have zh:=ha.mvs;have hF:∀m∈a.mv,Vm m.on x=(Rk m.on x,0):=λm hm=>by rw[q0g ((W3 a.types m.on).2 ⟨ha.types,(ha.mv m hm).on⟩),if_neg (λk=>k ((Am _ _).2 hx))]
 repeat(refine s_ ?_;simp)
 refine Q3 7 3 1 rfl ?_;simp;refine Qj (Qc (sl':=[(1,LI l),(3,.vptr 0 0),(5,.vptr 1 0),(7,.sl 2 1 0 (Vp l x (a.mv.take 0)).length),(11,.list (a.mv.map encMv)),(12,.i a.mv.length),(13,.i 0)]) ?_ (by simp[Vp]));obtain⟨K,hK⟩:∃K,K=[AObj.vars (Qk a),AObj.vars [AV.i x.ty,AV.i x.num]]:=⟨_,rfl⟩
 have z8:K[1]?=some (AObj.vars [AV.i x.ty,AV.i x.num]):=by rw[hK];rfl
 have hst:=SL.start K 3 1;refine Qi (F:=λ(u:Nat×Nat×List AObj)=>⟨[(1,LI l),(3,.vptr 0 0),(5,.vptr 1 0),(7,.sl u.2.1 1 0 (Vp l x (a.mv.take u.1)).length),(11,.list (a.mv.map encMv)),(12,.i a.mv.length),(13,.i u.1)],u.2.2⟩)
  (λu=>u.1<=a.mv.length/\SL K u.2.2 u.2.1 3 1 ((Vp l x (a.mv.take u.1)).map (AV.int .i64))) (λu=>a.mv.length - u.1) ?_ (0,2,_) ⟨by simp,by rw[wd,k1f];rw[hK]at hst |-;exact hst⟩
 rintro⟨j,q,H2⟩ ⟨hj,g⟩ ih;simp only at hj g ih |-;have g1:=g.kp z8;repeat(refine s_ ?_;simp)
 refine Qb rfl (λzb=>?_) (λzc=>?_)
 ·have z1:j<a.mv.length:=by simpa using zb
  have hw:=wz j (by omega);have zd:=c0u l x a.mv j z1;have za:=z0t l x (a.mv.take j);rw[xV]at za;have ze:=hF _ (zL z1);have z6:=λq' H'=>ih (j+1,q',H');simp only[zd]at z6;generalize Vp l x (a.mv.take j)=acc at *
  have gL:=λL=>g.at' z8 L;repeat(refine s_ ?_;simp[z1])
  by_cases hb:a.mv[j].src∈l
  ·have zf:l.contains a.mv[j].src=true:=by simpa using hb
   refine pcL (Dw l a.mv[j].src) ?_;simp[hb,gL];repeat(refine s_ ?_;simp[gL])
   refine pcL (w2k a.mv[j].on x) ?_;simp[ze];repeat(refine s_ ?_;simp)
   cases hb2:Rk a.mv[j].on x with
   |false=>
    have hh:v1k l x a.mv[j]=false:=by rw[v1k,hb2];simp
    refine Qr rfl ?_;simp[hb2];repeat(refine s_ ?_;simp[hw])
    refine Qc (sl':=[(1,LI l),(3,.vptr 0 0),(5,.vptr 1 0),(7,.sl q 1 0 acc.length),(11,.list (a.mv.map encMv)),(12,.i a.mv.length),(13,.i (j+1:Nat))]) ?_ (by simp);have:=z6 q _ ⟨by omega,by rw[hh];simpa using g.add [AObj.vars [AV.i a.mv[j].src,AV.i a.mv[j].dst,AV.list (a.mv[j].on.map encL)]]⟩ (by omega);rw[hh]at this;simpa using this
   |true=>
    have hh:v1k l x a.mv[j]=true:=by rw[v1k,zf,hb2];rfl
    refine Qr rfl ?_;simp[hb2];repeat(refine s_ ?_;simp)
    refine apS T47 T3 ?_;simp[Qa g.arr,Qh g.arr];refine⟨by simp[Wg,Qa g.arr,Qh g.arr]<;>omega,?_⟩;repeat(refine s_ ?_;simp[hw])
    refine Qc (sl':=[(1,LI l),(3,.vptr 0 0),(5,.vptr 1 0),(7,.sl (H2.length+2) 1 0 (acc.length+1)),(11,.list (a.mv.map encMv)),(12,.i a.mv.length),(13,.i (j+1:Nat))]) ?_ (by simp);have:=z6 (H2.length+2) _ ⟨by omega,by rw[hh];exact g.put [AObj.vars [AV.i a.mv[j].src,AV.i a.mv[j].dst,AV.list (a.mv[j].on.map encL)],AObj.arr 3 1 [AV.i a.mv[j].dst]] _ rfl⟩ (by omega);rw[hh]at this;simpa using this
  have hh:v1k l x a.mv[j]=false:=by simp[v1k,hb]
  refine pcL (Dw l a.mv[j].src) ?_;simp[hb,gL];refine Wi rfl rfl ?_;simp[hb];refine Qr rfl ?_;repeat(refine s_ ?_;simp[hw])
  refine Qc (sl':=[(1,LI l),(3,.vptr 0 0),(5,.vptr 1 0),(7,.sl q 1 0 acc.length),(11,.list (a.mv.map encMv)),(12,.i a.mv.length),(13,.i (j+1:Nat))]) ?_ (by simp);have:=z6 q _ ⟨by omega,by rw[hh];simpa using g.add [AObj.vars [AV.i a.mv[j].src,AV.i a.mv[j].dst,AV.list (a.mv[j].on.map encL)]]⟩ (by omega);rw[hh]at this;simpa using this
 have z7:j=a.mv.length:=by simp at zc;omega
 subst z7;rw[yI]at g |-;have za:=z0t l x a.mv;repeat(refine s_ ?_;simp)
 refine Qu rfl rfl (Ds H2 q (Vp l x a.mv) g.arr (by omega)) rfl ?_;rintro r H' ⟨rfl,rfl⟩;simp;repeat(refine s_ ?_;simp)
 have g2:=Qg g.arr (.arr 3 1 ((E4 (Vp l x a.mv)).map (AV.int .i64)));have zg:=Ut (Vp l x a.mv);rw[<-zg];refine Qu rfl rfl (U7 _ q (E4 (Vp l x a.mv)) g2 (by omega) (Tg _)) rfl ?_;rintro r H' ⟨rfl,G,rfl⟩;simp;have g3:=Qg g.arr (.arr 3 1 ((Lib.compact (E4 (Vp l x a.mv))++G).map (AV.int .i64)));rw[k1z,z2n (λm hm=>(ha.mv m hm).dst)]at *
 repeat(refine s_ ?_;simp)
 rw[yR]at g3;simp[g3]
end
def j0s(H:List AObj)(l:List Int)(g:Nat)(cap:AV)(f:Int->Bool)(hl:l.length<=1000000000)(hg:∀z∈l,FC prog g [.i z,cap] H (λr H'=>r= .bool (f z)/\H'=H)):
  FC prog 106 [LI l,.fn (.func g) [] [cap]] H (λr H'=>r= .i (Nt f l)/\H'=H):=by
 refine fcB func106 results106 ntmps106 ?_;simp only[Qf];repeat(refine s_ ?_;simp)
 refine Qj (Qc (sl':=[(0,LI l),(1,.fn (.func g) [] [cap]),(7,.i l.length),(8,.i 0)]) ?_ (by simp));refine Qi (F:=λ(j:Nat)=>⟨[(0,LI l),(1,.fn (.func g) [] [cap]),(7,.i l.length),(8,.i j)],H⟩)
  (λj=>j<=l.length/\∀i,∀hi:i<l.length,i<j->f l[i]=false) (λj=>l.length - j) ?_ 0 ⟨by simp,by simp⟩
 rintro j ⟨hj,hI⟩ ih;repeat(refine s_ ?_;simp)
 refine Qb rfl (λz7=>?_) (λz8=>?_)
 ·have z1:j<l.length:=by simpa using z7
  have hw:=wz j (by omega);repeat(refine s_ ?_;simp[z1])
  refine Qu rfl rfl (hg _ (zL z1)) rfl ?_;rintro r H' ⟨rfl,rfl⟩;simp;repeat(refine s_ ?_;simp)
  refine Qb rfl (λh=>?_) (λh=>?_)
  ·repeat(refine s_ ?_;simp)
   rw[X1 z1 h hI]
  repeat(refine s_ ?_;simp[hw])
  refine Qc (sl':=[(0,LI l),(1,.fn (.func g) [] [cap]),(7,.i l.length),(8,.i (j+1:Nat))]) (ih (j+1) ⟨by omega,λi hi za=>?_⟩ (by omega)) (by simp);by_cases e:i=j
  ·subst e;exact h
  exact hI i hi (by omega)
 have z6:j=l.length:=by simp at z8;omega
 subst z6;repeat(refine s_ ?_;simp)
 rw[Gn hI]
def Nf(H:List AObj)(l:List Int)(g:Nat)(cap:AV)(f:Int->Bool)(hl:l.length<=1000000000)(hg:∀z∈l,FC prog g [.i z,cap] H (λr H'=>r= .bool (f z)/\H'=H)):
  FC prog 47 [LI l,.fn (.func g) [] [cap]] H (λr H'=>r= .bool (l.any f)/\H'=H):=by
 refine fcB func47 results47 ntmps47 ?_;simp only[Qf];repeat(refine s_ ?_;simp)
 refine Qu rfl rfl (j0s H l g cap f hl hg) rfl ?_;rintro r H' ⟨rfl,rfl⟩;simp;repeat(refine s_ ?_;simp)
 rw[<-g08]
attribute [simp] T4
section
attribute [local irreducible] Rk
end
section
attribute [local irreducible] Jd
attribute [local irreducible] Eu
end
section
attribute [local irreducible] Wn T6 Ea Wj
end
section
attribute [local irreducible] Wj
end
def u0r{p:Prd}{i:Nat}(h:i<p.length)(hv:¬(p[i].length<=12)):f1s p=false:=by rw[uf,Ne,y0d];exact λk=>hv (k.2 _ (zL h))
def j1b(p:Prd):PC prog 78 [encP p] (λr=>r= .bool (f1s p)):=by
 refine pcB func78 results78 ntmps78 ?_;simp only[Qf];simp only[encP];refine Ec 0 0 rfl rfl (λhlen=>?_);rw[yO]at hlen;repeat(refine s_ ?_;simp)
 refine Wf p.length (λj=>j<=5/\∀i,∀hi:i<p.length,i<j->p[i].length<=12) (λj=>[(1,.vptr 0 0),(3,.i j)]) (λ_=>[.vars [.list (p.map encL)]]) rfl (by simp) (by simp) (by simp) (by simp) (by simp) ?_;rintro j hj ⟨za,hI⟩ ih;repeat(refine s_ ?_;simp)
 refine Qb rfl (λz6=>?_) (λz7=>?_)
 ·have z1:j<p.length:=by simp at z6;omega
  have zb:j<5:=by simp at z6;omega
  have hw:=wz j (by omega);repeat(refine s_ ?_;simp[z1])
  refine pcL (x2d p[j]) ?_;simp;repeat(refine s_ ?_;simp)
  refine Qb rfl (λhe=>?_) (λhe=>?_)
  ·repeat(refine s_ ?_;simp)
   rw[u0r z1 (by simp at he;omega)]
  repeat(refine s_ ?_;simp[hw])
  refine Wd [] (ih z1 ⟨by omega,λi hi zc=>?_⟩) rfl (by simp) ?_ (by simp) (by simp)
  ·by_cases e:i=j
   ·subst e;simp at he;omega
   exact hI i hi (by omega)
  simp
 have z8:p.length<=j\/5<=j:=by simp at z7;omega
 repeat(refine s_ ?_;simp)
 rw[wK,y0d,decide_eq_true_eq];constructor
 ·intro h4;refine⟨by omega,λs hs=>?_⟩;obtain⟨i,hi,rfl⟩:=yZ hs;exact hI i hi (by omega)
 intro h4;omega
section
def Bx{a:Aut}:Mu a=true↔a.fin.length<=8/\a.mv.length<=16/\∀m∈a.mv,f1s m.on=true:=by simp only[Mu,Bool.and_eq_true,decide_eq_true_eq,zZ,and_assoc]
attribute [local irreducible] f1s
def g09(a:Aut):PC prog 27 [encA a] (λr=>r= .bool (Mu a)):=by
 refine pcB func27 results27 ntmps27 ?_;simp only[Qf];simp only[encA];refine Ec 0 2 rfl rfl (λhlen=>?_);rw[yO]at hlen;repeat(refine s_ ?_;simp)
 refine Wf a.mv.length (λj=>j<=20/\∀i,∀hi:i<a.mv.length,i<j->f1s a.mv[i].on=true) (λj=>[(1,.vptr 0 0),(3,.i j)]) (λ_=>[.vars (Qk a)]) rfl (by simp) (by simp) (by simp) (by simp) (by simp) ?_;rintro j hj ⟨za,hI⟩ ih;repeat(refine s_ ?_;simp)
 refine Qb rfl (λz6=>?_) (λz7=>?_)
 ·have z1:j<a.mv.length:=by simp at z6;omega
  have zb:j<20:=by simp at z6;omega
  have hw:=wz j (by omega);repeat(refine s_ ?_;simp[z1])
  refine pcL (j1b a.mv[j].on) ?_;simp;repeat(refine s_ ?_;simp)
  refine Qb rfl (λhe=>?_) (λhe=>?_)
  ·repeat(refine s_ ?_;simp)
   have:Mu a=false:=by rw[uf,Ne,Bx];intro k;have:=k.2.2 _ (zL z1);rw[this]at he;cases he
   rw[this]
  repeat(refine s_ ?_;simp[hw])
  refine Wd [] (ih z1 ⟨by omega,λi hi zc=>?_⟩) rfl (by simp) ?_ (by simp) (by simp)
  ·by_cases e:i=j
   ·subst e;simpa using he
   exact hI i hi (by omega)
  simp
 have z8:a.mv.length<=j\/20<=j:=by simp at z7;omega
 repeat(refine s_ ?_;simp)
 rw[wK,Bx];simp;constructor
 ·rintro⟨h4,h5⟩;refine⟨by omega,by omega,λm hm=>?_⟩;obtain⟨i,hi,rfl⟩:=yZ hm;exact hI i hi (by omega)
 rintro⟨h4,h5,_⟩;omega
end
section
def q1k(p:Prd)(g:Nat)(f:List Iv->Bool)(hg:∀s,PC prog g [LIv s] (λr=>r= .bool (f s))):
  PC prog 176 [.list (p.map encL),.fn (.func g) [] []] (λr=>r= .i (Nt f p)):=by
 refine pcB func176 results176 ntmps176 ?_;simp only[Qf];refine U5 0 rfl (λhlen=>?_);rw[yO]at hlen;repeat(refine s_ ?_;simp)
 refine Wf p.length (λj=>∀i,∀hi:i<p.length,i<j->f p[i]=false) (λj=>[(0,.list (p.map encL)),(1,.fn (.func g) [] []),(7,.i p.length),(8,.i j)]) (λ_=>[]) rfl (by simp) (by simp) (by simp) (by simp) (by simp) ?_;intro j hj hI ih;repeat(refine s_ ?_;simp)
 refine Qb rfl (λz7=>?_) (λz8=>?_)
 ·have z1:j<p.length:=by simpa using z7
  have hw:=wz j (by omega);repeat(refine s_ ?_;simp[z1])
  refine pcL (hg p[j]) ?_;simp;repeat(refine s_ ?_;simp)
  refine Qb rfl (λh=>?_) (λh=>?_)
  ·repeat(refine s_ ?_;simp)
   rw[X1 z1 h hI]
  repeat(refine s_ ?_;simp[hw])
  refine Wd [] (ih z1 (λi hi za=>?_)) rfl (by simp) ?_ (by simp) (by simp)
  ·by_cases e:i=j
   ·subst e;exact h
   exact hI i hi (by omega)
  simp
 have z6:j=p.length:=by simp at z8;omega
 subst z6;repeat(refine s_ ?_;simp)
 rw[Gn hI]
def Ff(p:Prd)(g:Nat)(f:List Iv->Bool)(hg:∀s,PC prog g [LIv s] (λr=>r= .bool (f s))):
  PC prog 111 [.list (p.map encL),.fn (.func g) [] []] (λr=>r= .bool (p.any f)):=by
 refine pcB func111 results111 ntmps111 ?_;simp only[Qf];repeat(refine s_ ?_;simp)
 refine pcL (q1k p g f hg) ?_;simp;repeat(refine s_ ?_;simp)
 rw[<-g08]
def j19(s:List Iv):PC prog 177 [LIv s] (λr=>r= .bool (decide (0<s.length))):=by refine pcB func177 results177 ntmps177 ?_;simp only[Qf];repeat(refine s_ ?_;simp)
def z2q(s:List Iv):PC prog 112 [LIv s] (λr=>r= .bool (decide (256<s.length))):=by
 refine pcB func112 results112 ntmps112 ?_;simp only[Qf];repeat(refine s_ ?_;simp)
 omega
def k12(p:Prd):(!p.any λs=>decide (0<s.length))=Wj p:=by
 unfold Wj;rw[List.not_any_eq_all_not]
 congr 1
 funext s;cases s<;>simp
def u13(p:Prd):PC prog 116 [encP p] (λr=>r= .bool (Wj p)):=by
 refine pcB func116 results116 ntmps116 ?_;simp only[Qf];simp only[encP];repeat(refine s_ ?_;simp)
 refine pcL (Ff p 177 (λs=>decide (0<s.length)) j19) ?_;simp;repeat(refine s_ ?_;simp)
 rw[<-k12 p,Bool.not_not]
def f1h(m:Mv):Bool:=m.on.any λs=>decide (256<s.length)
def w0r(a:Aut):Vn a=(decide (256<a.fin.length) || decide (2048<a.mv.length) || a.mv.any f1h):=rfl
attribute [local irreducible] f1h
end
abbrev LSy (w:List Sy):AV:= .list (w.map encSy)
section
def Vl(T:Int):List Sy->Int
 |[]=>0
 |x::r=>if Jd T x≠0 then Jd T x else Vl T r
def j0g(a:Aut)(w:List Sy):Int:=if Wo a≠0 then Wo a else if 4096<w.length then 5 else Vl a.types w
def w0p(a:Aut)(w:List Sy):Bool×Int:=if j0g a w≠0 then(false,j0g a w)else(E5 a w,0)
def Gh{T:Int}:∀(w:List Sy),Vl T w=0↔∀x∈w,Jd T x=0
 |[]=>by simp[Vl]
 |x::r=>by
  rw[Vl];by_cases h:Jd T x=0
  ·rw[if_neg (λk=>k h),Gh r];simp[h]
  rw[if_pos h];exact⟨λk=>absurd k h,λk=>absurd (k x (by simp)) h⟩
attribute [local irreducible] Jd E5
end
def Ig:List Iv:=[⟨-1099511627776,1099511627776⟩]
def x03:E3 []=Ig:=by simp[E3,Rp,Ig]
def v1e:PC prog 101 [] (λr=>r=LIv Ig):=by
 refine pcB func101 results101 ntmps101 ?_;simp only[Qf];repeat(refine s_ ?_;simp)
 simp[Ig]
def w24(n:Int):PC prog 100 [.i n] (λr=>r= .tup [LIv Ig,.i 0]):=by
 refine pcB func100 results100 ntmps100 ?_;simp only[Qf];repeat(refine s_ ?_;simp)
 refine pcL (v1e) ?_;simp;repeat(refine s_ ?_;simp)
section
attribute [local irreducible] upL Ig
def k01(T:Nat)(hT:T<=1000):PC prog 99 [.i T,.fn (.func 100) [] []] (λr=>r= .tup [encP (yB T Ig),.i 0]):=by
 refine pcB func99 results99 ntmps99 ?_;simp only[Qf];simp only[encP];repeat(refine s_ ?_;simp)
 refine Ep 1 0 145 1 rfl rfl ?_;simp;obtain⟨K,hK⟩:∃K,K=[AObj.vars [AV.nils],AObj.vars [AV.nils]]:=⟨_,rfl⟩
 have hst:=GL.start (K:=K) (S:=1) [] [] 145 1 (by rw[hK];simp);refine Qj (Qc (sl':=[(1,.fn (.func 100) [] []),(4,.vptr 0 0),(6,.vptr 1 0),(10,.i T),(11,.i 0)]) ?_ (by simp));refine Qi (F:=λ(u:Nat×Nat×List AObj)=>⟨[(1,.fn (.func 100) [] []),(4,.vptr 0 0),(6,.vptr 1 0),(10,.i T),(11,.i u.1)],u.2.2⟩)
  (λu=>u.1<=T/\GL K u.2.2 1 u.2.1 [] [] 145 1 (upL (λ_=>Ig) u.1)) (λu=>T - u.1) ?_ (0,K.length,_) ⟨by simp,by rw[C8,hK]at *;exact hst⟩
 rintro⟨j,q,H2⟩ ⟨hj,g⟩ ih;simp only at hj g ih |-;have gR:H2[0]?=some (AObj.vars [AV.nils]):=g.kp (by decide) (by rw[hK];rfl);have g2:=g.cell;have g3:=g.arr;rw[Td]at g2;simp only[vU]at g2;repeat(refine s_ ?_;simp)
 refine Qb rfl (λzd=>?_) (λze=>?_)
 ·have zf:j<T:=by simpa using zd
  have hw:=wz j (by omega);repeat(refine s_ ?_;simp)
  refine pcL (w24 j) ?_;simp;repeat(refine s_ ?_;simp)
  refine Qr rfl ?_;have z6:∀L:List AObj,(H2.set q .dead++L)[1]?=some (AObj.vars [AV.sl q 1 0 j]):=λL=>by have:=g.at L;rw[Td]at this;exact this
  have z8:∀(L:List AObj) (h:1<(H2.set q .dead++L).length),(H2.set q .dead++L)[1]'h=AObj.vars [AV.sl q 1 0 j]:=λL h=>by have:=z6 L;rw[zI h]at this;exact Option.some.inj this
  have za:=λA y=>g.put A y (Td _ _).symm;have zg:upL (λ_=>Ig) j++[encL Ig]=upL (λ_=>Ig) (j+1):=(X3 _ _).symm;have z1:=λH=>ih (j+1,H2.length+1,H);have z7:=Td (λ_=>Ig) j;simp only[<-zg]at z1;repeat(refine s_ ?_;simp[g2])
  generalize upL (λ_=>Ig) j=xs at *
  refine apS T68 P3 ?_;simp[Qa g3,Qh g3,z7,z6,z8];refine⟨by simp[Wg,Qa g3,Qh g3,z7,z6,z8]<;>omega,?_⟩;repeat(refine s_ ?_;simp[g2,hw,z6,z8])
  refine Qc (sl':=[(1,.fn (.func 100) [] []),(4,.vptr 0 0),(6,.vptr 1 0),(10,.i T),(11,.i (j+1:Nat))]) (z1 _ ⟨by omega,za _ _⟩ (by omega)) ?_;simp
 have zb:j=T:=by simp at ze;omega
 subst zb;have hS:=(zB.1 g2).1;have zh:q≠0/\q≠1:=by have:=g.ge;rw[hK]at this;simp at this;omega
 have z7:=Td (λ_=>Ig) j;have zc: .list (upL (λ_=>Ig) j)=AV.list ((yB j Ig).map encL):=by rw[M4];simp[Function.comp_def,List.map_const']
 generalize upL (λ_=>Ig) j=xs at *
 refine Q6 q g3 1 g2 ?_;have k1:∀X,((H2.set q .dead).set 1 X)[0]?=some (AObj.vars [AV.nils]):=λX=>Qd (by decide) (Qd zh.1 gR _) _;have k2:∀X,((H2.set q .dead).set 1 X)[1]?=some X:=λX=>zK (by simpa using hS);have k3:∀X Y,(((H2.set q .dead).set 1 X).set 0 Y)[0]?=some Y:=λX Y=>Qg (k1 X) _;simp[z7];rw[zV (by omega)];repeat(refine s_ ?_;simp[k1,k2,k3])
 have h2:=AV.list.inj zc;rw[List.map_replicate]at h2;exact h2
def d1d(T:Int)(h1:1<=T)(h2:T<=16):PC prog 42 [.i T] (λr=>r= .tup [encP (Ea T.toNat),.i 0]):=by
 refine pcB func42 results42 ntmps42 ?_;simp only[Qf];simp only[encP];have hw:Ea T.toNat=yB T.toNat Ig:=by rw[Ea,x03]
 have hT:((T.toNat:Nat):Int)=T:=by omega
 have hc:=k01 T.toNat (by omega);rw[hT]at hc;have n1:¬T<1:=by omega
 have n2:¬16<T:=by omega
 rw[hw];repeat(refine s_ ?_;simp[n1,n2])
 refine Qb rfl (λh=>?_) (λh=>?_)
 ·simp at h
 repeat(refine s_ ?_;simp)
 refine pcL (hc) ?_;simp;repeat(refine s_ ?_;simp)
end
section
attribute [local irreducible] Pk
def N8(p:Prd):PC prog 125 [encP p] (λr=>r= .fn (.func 188) [] [.iptr [.list (p.map encL)]]):=by refine pcB func125 results125 ntmps125 ?_;simp only[Qf];simp only[encP];repeat(refine s_ ?_;simp)
def u07(p:Prd)(h0:Pk [p]=0)(hv:Wj p=false):PC prog 64 [encP p] (λr=>r= .tup [encSy (Ql p),.i 0]):=by
 have hlen:p.length<=16:=by
  unfold Pk at h0;by_cases hc:Eu p.length p=0
  ·have:=((W3 _ p).1 hc).1;omega
  rw[if_pos hc]at h0;exact absurd h0 hc
 obtain⟨t,x,rr,h1,h2,h3⟩:∃t x r,p[t]?=some (x::r)/\Qx p 0=(0+t,x.lo)/\∀j,j<t->p[j]?=some []:=by refine Jp p 0 ?_;rw[Wj,List.all_eq_false]at hv;obtain⟨s,hs,hn⟩:=hv;exact⟨s,hs,λe=>hn (by rw[e];rfl)⟩
 rw[Nat.zero_add]at h2;have za:Ql p=⟨t,x.lo⟩:=by rw[Ql,h2]
 rw[za];obtain⟨ze,zb⟩:=zB.1 h1;refine pcB func64 results64 ntmps64 ?_;simp only[Qf];simp only[encP,encSy];repeat(refine s_ ?_;simp)
 refine Y1 3 rfl ?_;simp;refine pcL (Pa [p]) ?_;simp;repeat(refine s_ ?_;simp)
 refine Qb rfl (λh=>by rw[h0]at h;simp at h) (λh=>?_);repeat(refine s_ ?_;simp)
 refine pcL (N8 p) ?_;simp;repeat(refine s_ ?_;simp)
 refine W5 rfl (Rf:=λ_ H'=>4<H'.length/\(∃sl' z8 a' b',H'[4]?=some (.lp false (some Code.ret) 25 sl' z8 a' b'))/\H'[1]?=some (.vars [.i t,.i x.lo])/\H'[2]?=some (.vars [.i 0])) ?_ ?_
 ·simp;refine Sd λH1 z6=>?_;have f1:H1[1]?=some (.vars [.i 0,.i 0]):=by rw[z6];rfl
  have f2:H1[2]?=some (.vars [.i 0]):=by rw[z6];rfl
  have f4:=congrArg (λh:List AObj=>h[4]?) z6;simp at f4;have zc:H1.length=5:=by rw[z6];simp
  clear z6;refine fcB func188 results188 ntmps188 ?_;simp only[Qf];repeat(refine s_ ?_;simp)
  refine Qj (Qc (sl':=[(0,.yld 4),(6,.list (p.map encL)),(7,.i p.length),(8,.i (0:Nat))]) ?_ (by simp));refine Qi (F:=λ(u:Nat)=>⟨[(0,.yld 4),(6,.list (p.map encL)),(7,.i p.length),(8,.i u)],H1⟩) (λu=>u<=t) (λu=>t - u) ?_ 0 (by simp);rintro j hj ih;have z1:j<p.length:=by omega
  have hw:=wz j (by omega);repeat(refine s_ ?_;simp)
  refine Qb rfl (λ_=>?_) (λzd=>by simp at zd;omega);by_cases hjt:j=t
  ·subst hjt;repeat(refine s_ ?_;simp[z1,zb])
   refine Rn rfl rfl (q:=4) rfl rfl f4 rfl rfl rfl (λjm K2=>jm=some Code.ret/\5<=K2.length/\K2[1]?=some (.vars [.i j,.i x.lo])/\K2[2]?=some (.vars [.i 0])) ?_ ?_
   ·simp[E7];have e1:=Qd (j:=4) (by decide) f1 .dead;have e2:=Qd (j:=4) (by decide) f2 .dead;have e4:=Qg f4 .dead;have e6:(H1.set 4 .dead).length=5:=by simp[zc]
    generalize H1.set 4 .dead=E at *
    have e3:∀y,(E.set 1 y)[2]?=some (.vars [.i 0]):=λy=>Qd (by decide) e2 y;repeat(refine s_ ?_;simp[e1,e2,e3])
    exact⟨Qd (by decide) (Qd (by decide) e4 _) _,rfl,by simp[e6],Qd (by decide) (Qg e1 _) _,Qg (e3 _) _⟩
   rintro jm K2 ⟨rfl,v1,v2,v3⟩;simp;repeat(refine s_ ?_;simp)
   have v6:4<K2.length:=by omega
   refine Qb rfl (λ_=>?_) (λh=>by cases h);repeat(refine s_ ?_;simp)
   exact⟨by omega,⟨_,_,_,_,zK v6⟩,v2,v3⟩
  have z7:p[j]=[]:=by have:=h3 j (by omega);rw[zI z1]at this;exact Option.some.inj this
  repeat(refine s_ ?_;simp[z1,z7])
  refine Wi rfl rfl ?_;simp;refine Qr rfl ?_;simp;repeat(refine s_ ?_;simp[hw])
  exact Qc (sl':=[(0,.yld 4),(6,.list (p.map encL)),(7,.i p.length),(8,.i (j+1:Nat))]) (ih (j+1) (by omega) (by omega)) (by simp)
 rintro r H' ⟨hl,⟨sl',z8,a',b',k4⟩,k1,k2⟩;refine⟨_,_,_,_,_,_,_,k4,?_⟩;simp;have u1:=Qd (j:=4) (by decide) k1 .dead;have u2:=Qd (j:=4) (by decide) k2 .dead;generalize H'.set 4 .dead=E at *
 repeat(refine s_ ?_;simp[u1,u2])
end
section
abbrev g2r:Iv:=⟨-1099511627776,1099511627776⟩
def Up(i:Nat):Qv [] i=[]:=rfl
def P7{l:List Prd}{j i:Nat}(hj:j<l.length)(hi:i<l[j].length):Qv (l.take (j+1)) i=Qv (l.take j) i++l[j][i]:=by unfold Qv;rw[zU hj,wJ];simp[yQ,hi]
def I8{T:Nat}{l:List Prd}(hl:∀p∈l,PCk T p)(i:Nat):(Qv l i).length<=256 * l.length:=by
 induction l with
 |nil=>simp[Qv]
 |cons p r ih=>
  have h1:=ih (λq hq=>hl q (by simp[hq]));have h2:(p.getD i []).length<=256:=by
   by_cases hi:i<p.length
   ·rw[W9 hi];exact((hl p (by simp)).2 _ (zL hi)).len
   simp[yQ,hi]
  unfold Qv at *;rw[List.flatMap_cons,zW,List.length_cons];omega
def Ko(xs:List Iv):List Int:=Iq (g2r::xs)
def c0h(xs:List Iv)(x:Iv):Ko (xs++[x])=Ko xs++[x.lo,x.hi+1]:=by unfold Ko;rw[<-List.cons_append,X9]
def C9(xs:List Iv):(Ko xs).length=2 * xs.length+2:=by rw[Ko,Kb];simp;omega
def w00(l:List Prd)(i:Nat):Lib.compact (E4 (Ko (Qv l i)))=Wa l i:=rfl
attribute [local irreducible] Ko E4 Lib.compact Qv
def q2m(T:Nat)(l:List Prd)(i:Nat)(hi:i<T)(hT:T<=16)(hl:∀p∈l,PCk T p)(hn:l.length<=256):PC prog 166 [LP l,.i i] (λr=>r=LI (Wa l i)):=by
 refine pcB func166 results166 ntmps166 ?_;simp only[Qf];repeat(refine s_ ?_;simp)
 have h2:Ko (Qv (l.take 0) i)=[-1099511627776,1099511627777]:=by rw[wd,Up,Ko];rfl
 have zi:=I8 hl i;refine Qj (Qc (sl':=[(0,LP l),(1,.i i),(5,.sl 0 1 0 (Ko (Qv (l.take 0) i)).length),(11,LP l),(12,.i l.length),(13,.i (0:Nat))]) ?_ (by rw[h2];simp));refine Qi (F:=λ(u:Nat×Nat×List AObj)=>⟨[(0,LP l),(1,.i i),(5,.sl u.2.1 1 0 (Ko (Qv (l.take u.1) i)).length),(11,LP l),(12,.i l.length),(13,.i u.1)],u.2.2⟩)
  (λu=>u.1<=l.length/\SL [] u.2.2 u.2.1 3 1 ((Ko (Qv (l.take u.1) i)).map (AV.int .i64))) (λu=>l.length - u.1) ?_ (0,0,_) ⟨by simp,by rw[h2];exact⟨rfl,by simp,λj hj=>by simp at hj⟩⟩
 rintro⟨j,q,H2⟩ ⟨hj,g⟩ ih;simp only at hj g ih |-;repeat(refine s_ ?_;simp)
 refine Qb rfl (λzj=>?_) (λzk=>?_)
 ·have z6:j<l.length:=by simpa using zj
  have hw:=wz j (by omega);have hp:=hl _ (zL z6);have z8:i<l[j].length:=by rw[hp.1];exact hi
  have hs:=hp.2 _ (zL z8);have hst:=P7 z6 z8;have za:=I8 (l:=l.take j) (λp hp=>hl p (xX hp)) i;rw[xV]at za;have zf:=hs.len;have zb:=λk hk=>hs.iv (j:=k) hk;repeat(refine s_ ?_;simp[z6,z8])
  generalize l[j][i]=s at *;generalize hA:Qv (l.take j) i=A at *;refine Qj (Qc (sl':=[(0,LP l),(1,.i i),(5,.sl q 1 0 (Ko (A++s.take 0)).length),(11,LP l),(12,.i l.length),(13,.i j),(21,LIv s),(22,.i s.length),(23,.i (0:Nat))]) ?_ (by simp))
  refine Qi (F:=λ(u:Nat×Nat×List AObj)=>⟨[(0,LP l),(1,.i i),(5,.sl u.2.1 1 0 (Ko (A++s.take u.1)).length),(11,LP l),(12,.i l.length),(13,.i j),(21,LIv s),(22,.i s.length),(23,.i u.1)],u.2.2⟩)
   (λu=>u.1<=s.length/\SL [] u.2.2 u.2.1 3 1 ((Ko (A++s.take u.1)).map (AV.int .i64))) (λu=>s.length - u.1) ?_ (0,q,_) ⟨by simp,by rw[wd,xG];exact g.add _⟩
  rintro⟨m,q',H3⟩ ⟨hm,g'⟩ ih';simp only at hm g' ih' |-;repeat(refine s_ ?_;simp)
  refine Qb rfl (λzc=>?_) (λzd=>?_)
  ·have z1:m<s.length:=by simpa using zc
   have zl:=wz m (by omega);obtain⟨b1,b2,b3⟩:=zb m z1;have zm:IntKind.i64.wrap (s[m].hi+1)=s[m].hi+1:=wrap_i64 _ (by omega) (by omega);have zn:Ko (A++s.take (m+1))=Ko (A++s.take m)++[s[m].lo,s[m].hi+1]:=by rw[zU z1,<-List.append_assoc,c0h]
   have zg:=C9 (A++s.take m);rw[zW,xV]at zg;have zh:=λq' H'=>ih' (m+1,q',H');simp only[zn]at zh;generalize Ko (A++s.take m)=acc at *
   repeat(refine s_ ?_;simp[z1,zm])
   refine apS T47 T3 ?_;simp[Qa g'.arr,Qh g'.arr];refine⟨by simp[Wg,Qa g'.arr,Qh g'.arr]<;>omega,?_⟩;repeat(refine s_ ?_;simp[zl])
   refine Qc (sl':=[(0,LP l),(1,.i i),(5,.sl (H3.length+2) 1 0 (acc.length+2)),(11,LP l),(12,.i l.length),(13,.i j),(21,LIv s),(22,.i s.length),(23,.i (m+1:Nat))]) ?_ (by simp);have:=zh (H3.length+2) _ ⟨by omega,g'.put [AObj.vars [AV.i s[m].lo,AV.i s[m].hi],AObj.arr 3 1 [AV.i s[m].lo,AV.i (s[m].hi+1)]] _ rfl⟩ (by omega);simpa using this
  have z7:m=s.length:=by simp at zd;omega
  subst z7;rw[yI]at g' |-;repeat(refine s_ ?_;simp[hw])
  refine Qc (sl':=[(0,LP l),(1,.i i),(5,.sl q' 1 0 (Ko (A++s)).length),(11,LP l),(12,.i l.length),(13,.i (j+1:Nat))]) ?_ (by simp);have:=ih (j+1,q',H3) ⟨by omega,by rw[hst];exact g'⟩ (by show l.length - (j+1)<l.length - j;omega);rw[hst]at this;exact this
 have ze:j=l.length:=by simp at zk;omega
 subst ze;rw[yI]at g |-;have zg:=C9 (Qv l i);rw[<-w00];generalize Ko (Qv l i)=acc at *
 repeat(refine s_ ?_;simp)
 refine Qu rfl rfl (Ds H2 q acc g.arr (by omega)) rfl ?_;rintro r H' ⟨rfl,rfl⟩;simp;repeat(refine s_ ?_;simp)
 have g2:=Qg g.arr (.arr 3 1 ((E4 acc).map (AV.int .i64)));have zf:=Ut acc;rw[<-zf];refine Qu rfl rfl (U7 _ q (E4 acc) g2 (by omega) (Tg _)) rfl ?_;rintro r H' ⟨rfl,G,rfl⟩;simp;have g3:=Qg g.arr (.arr 3 1 ((Lib.compact (E4 acc)++G).map (AV.int .i64)));repeat(refine s_ ?_;simp)
 rw[yR]at g3;simp[g3]
end
section
attribute [simp] k2w T5 T9
def sb(b:Bool):UInt8:=if b then 1 else 0
def sgB(bs:List Bool):List UInt8:=bs.map sb
def w1y:∀ {a b:List Bool},sgB a=sgB b->a=b
 |[],[],_=>rfl
 |[],_::_,h=>by simp[sgB]at h
 |_::_,[],h=>by simp[sgB]at h
 |x::a,y::b,h=>by simp only[sgB,List.map_cons,List.cons.injEq]at h;obtain⟨h1,h2⟩:=h;rw[w1y (a:=a) (b:=b) h2];cases x<;>cases y<;>simp[sb]at h1 |-
def Zx(bs:List Bool):(sgB bs).length=bs.length:=by simp[sgB]
def sgJ(bs:List Bool)(j:Nat):List AV:=(sgB (bs.take j)++yB (bs.length - j) 0).map byteAV
def z27{bs:List Bool}{j:Nat}(h:j<=bs.length):(sgJ bs j).length=bs.length:=by simp[sgJ,sgB];omega
def j1v(bs:List Bool):yB bs.length (AV.int .u8 0)=sgJ bs 0:=by simp[sgJ,sgB]
def z2t(bs:List Bool):sgJ bs bs.length=(sgB bs).map byteAV:=by simp[sgJ]
def k26{bs:List Bool}{j:Nat}(h:j<bs.length)(hb:bs[j]=true):(sgJ bs j).set j (AV.int .u8 1)=sgJ bs (j+1):=by
 have h1:(sgB (bs.take j)).length=j:=by simp[sgB];omega
 have e:bs.length - j=(bs.length - (j+1))+1:=by omega
 unfold sgJ;rw[yR,List.set_append_right (h:=by simp[h1]),zU h,e,uB];have hm:j - min j bs.length=0:=by omega
 simp[h1,sgB,hb,sb,byteAV,hm]
def y2c{bs:List Bool}{j:Nat}(h:j<bs.length):(sgJ bs j)[j]?=some (AV.int .u8 0):=by
 have h1:(sgB (bs.take j)).length=j:=by simp[sgB];omega
 unfold sgJ;have e:bs.length - j=(bs.length - (j+1))+1:=by omega
 rw[yR,zH (by simp[h1]),e,uB];simp[h1]
def j2g{bs:List Bool}{j:Nat}(h:j<bs.length)(hb:bs[j]=false):sgJ bs j=sgJ bs (j+1):=by
 have e:bs.length - j=(bs.length - (j+1))+1:=by omega
 unfold sgJ;rw[zU h,e,uB];simp[sgB,hb,sb]
def w2w{l:List Prd}{i j:Nat}(n:Int)(hj:j<l.length)(hi:i<l[j].length)(h:j<(Is l i n).length):(Is l i n)[j]=Y5 l[j][i] n:=by simp[Is,yQ,hi]
attribute [local irreducible] sgJ sgB Y5 Is
def Vs(T:Nat)(l:List Prd)(i:Nat)(n:Int)(hi:i<T)(hT:T<=16)(hl:∀p∈l,PCk T p)(hn:l.length<=256):PC prog 167 [LP l,.i i,.i n] (λr=>r= .str (sgB (Is l i n))):=by
 refine pcB func167 results167 ntmps167 ?_;simp only[Qf];have z6:(Is l i n).length=l.length:=by simp[Is]
 repeat(refine s_ ?_;simp)
 refine Rb tOk rfl rfl rfl k2w rfl T5 rfl rfl rfl (n:=l.length) (by simp;omega) (by unfold maxLen;omega) (.int .u8 0) rfl ?_;simp;rw[<-z6,j1v];repeat(refine s_ ?_;simp)
 refine Qj (Qc (sl':=[(1,.i i),(2,.i n),(7,.sl 0 1 0 l.length),(15,LP l),(16,.i l.length),(17,.i (0:Nat))]) ?_ (by simp[z6]));refine Qi (F:=λ(u:Nat×List AObj)=>⟨[(1,.i i),(2,.i n),(7,.sl 0 1 0 l.length),(15,LP l),(16,.i l.length),(17,.i u.1)],u.2⟩)
  (λu=>u.1<=l.length/\u.2[0]?=some (.arr 5 1 (sgJ (Is l i n) u.1))) (λu=>l.length - u.1) ?_ (0,_) ⟨by simp,rfl⟩
 rintro⟨j,H2⟩ ⟨hj,g⟩ ih;simp only at hj g ih |-;have ze:=z27 (bs:=Is l i n) (j:=j) (by omega);repeat(refine s_ ?_;simp)
 refine Qb rfl (λzg=>?_) (λzh=>?_)
 ·have z1:j<l.length:=by simpa using zg
  have hw:=wz j (by omega);have hp:=hl _ (zL z1);have za:i<l[j].length:=by rw[hp.1];exact hi
  have hs:=hp.2 _ (zL za);have zi:=w2w n z1 za (by omega);have hT:=k26 (bs:=Is l i n) (j:=j) (by omega);have hF:=j2g (bs:=Is l i n) (j:=j) (by omega);rw[zi]at hT hF;have zb:u1c l[j][i] n=(Y5 l[j][i] n,0):=by rw[u1c,if_pos ((Dy _).2 hs)]
  have z7:=λH'=>ih (j+1,H');simp only at z7;repeat(refine s_ ?_;simp[z1,za])
  refine pcL (Ke l[j][i] n) ?_;simp;rw[zb];generalize Y5 l[j][i] n=b at *
  repeat(refine s_ ?_;simp)
  have gL:∀L,(H2++L)[0]?=some (.arr 5 1 (sgJ (Is l i n) j)):=λL=>Qa g L;cases b with
  |true=>
   rw[<-hT rfl]at z7;clear hT hF;refine Qb rfl (λ_=>?_) (λh=>by cases h);have zc:=y2c (bs:=Is l i n) (j:=j) (by omega);have zj:∀hh,(sgJ (Is l i n) j)[j]'hh=AV.int .u8 0:=λhh=>by rw[zI hh]at zc;exact Option.some.inj zc
   have gL1:∀L hh,(H2++L)[0]'hh= .arr 5 1 (sgJ (Is l i n) j):=λL hh=>by have:=gL L;rw[zI hh]at this;exact Option.some.inj this
   repeat(refine s_ ?_;simp[gL,gL1,ze,z1,z6,zc,zj,hw])
   refine Qc (sl':=[(1,.i i),(2,.i n),(7,.sl 0 1 0 l.length),(15,LP l),(16,.i l.length),(17,.i (j+1:Nat))]) ?_ (by simp);exact z7 _ ⟨by omega,Qg (gL _) _⟩ (by omega)
  |false=>
   rw[<-hF rfl]at z7;refine Qb rfl (λh=>by cases h) (λ_=>?_);repeat(refine s_ ?_;simp[hw])
   refine Qc (sl':=[(1,.i i),(2,.i n),(7,.sl 0 1 0 l.length),(15,LP l),(16,.i l.length),(17,.i (j+1:Nat))]) ?_ (by simp);exact z7 _ ⟨by omega,gL _⟩ (by omega)
 have zd:j=l.length:=by simp at zh;omega
 subst zd;have z8:=z2t (Is l i n);rw[z6]at z8;rw[z8]at g ze;have zf:=Zx (Is l i n);generalize sgB (Is l i n)=s at *
 repeat(refine s_ ?_;simp)
 refine q0d tOk rfl rfl k2w rfl T5 rfl T9 rfl rfl (s:=s) (by simp[g,zf,z6];rw[zV (by simp[zf,z6])]) rfl ?_;simp;repeat(refine s_ ?_;simp)
end
section
open Go.RowKit Go.Shelf Go.Lib Go.Sort
def q0m(x y:Iv)(W:World):Calls prog 175 #[.agg #[.int .i64 x.lo,.int .i64 x.hi],.agg #[.int .i64 y.lo,.int .i64 y.hi]] W λe w'=>e= .returned (.int .i64 (Lib.compareInt x.lo y.lo))/\∃q os',w'=grow (W.drewN q) os':=by
 have z1:=λW'=>Tryz.cmp_Compare_int x.lo y.lo W';generalize Lib.compareInt x.lo y.lo=r at z1 |-
 go_enter func175,ntmps175
 go_wp2_with (go_at_call 133;refine(z1 _).mono ?_;rintro e w' ⟨rfl,rfl⟩)
 go_ret
 exact⟨rfl,0,_,by rw[alloc_eq_grow,alloc_eq_grow,grow_grow];rfl⟩
def v16(H:List AObj)(p:Nat)(l:List Iv)(hp:H[p]?=some (.arr 144 2 (l.map encIv)))(hl:l.length<=1000000):
  FC prog 174 [.sl p 2 0 l.length,.fn (.func 175) [] []] H
   (λr H'=>r= .tup []/\∃l':List Iv,l'.Perm l/\Za l'/\H'=H.set p (.arr 144 2 (l'.map encIv))):=by
 refine(c0i (xs:=l.map encIv) (R3 func174 rfl rfl) (by simp) hp (x2v l) [.func (.func 175) #[] #[]] (λw I m vs a b=>H9 _ w I m _ vs a b) (λz1=>∃l':List Iv,l'.Perm l/\Za l'/\z1=l'.map encIv) ?_ ?_).mono ?_
 ·intro b cap w hH hb hc;have eg:∀args w,(callFunc 175 args).run prog w= .ok (.enter 175 args) w:=enters_of func175 (by kernel_rfl) rfl;have:=AnyQ.slices_SortFunc Tryz.sortIv 2 isAgg144 sizeOf144 L8 (λ_=>rfl) (λx v hv=>by simp[L8]at hv;rcases hv with rfl|rfl<;>rfl) (λx y=>Lib.compareInt x.lo y.lo) j2i 175 #[] b 0 cap l.toArray w eg (λ_ _ _ _ x y=>q0m x y _) hH hb (by simp;omega);change Calls prog 174 _ _ _ at this;rw[show(l.toArray).size=l.length by simp]at this;refine Calls.mono (this) ?_;rintro e w' ⟨rfl,d',n,os,h1,h2,rfl⟩;obtain⟨s1,_,s3⟩:=h1;have hs:d'.toList.length=l.length:=by simpa using s1
  refine⟨rfl,d'.toList.map encIv,flatK L8 2 d',n,os,⟨d'.toList,?_,?_,rfl⟩,by simp[hs],by simpa using x2v d'.toList,rfl⟩
  ·rw[show d'.extract 0 l.length=d' by simp[<-hs],show l.toArray.extract 0 l.length=l.toArray by simp]at s3;simpa using s3
  refine List.pairwise_iff_getElem.2 λi j hi hj z6=>?_;have:=h2 i j (Nat.zero_le _) z6 (by omega);rw[k2h,getElem!_pos d' i (by simpa using hi),getElem!_pos d' j (by simpa using hj)]at this;simpa using this
 ·rintro h;have z7:l=[]:=by simpa using h
  subst z7;exact⟨⟨[],.refl _,.nil,rfl⟩,λw=>AnyF.slices_SortFunc_none Tryz.sortIv none 0 _ w⟩
 rintro r H' ⟨rfl,z1,⟨l',h1,h2,rfl⟩,rfl⟩;exact⟨rfl,l',h1,h2,rfl⟩
end
section
def D8(l l':List Iv)(z1:∀y∈l,y.lo<=y.hi)(hp:l'.Perm l)(hl:Za l'):Qz [] l'=Ez l:=
 Ji l' (Ox l) [] (hp.trans (O8 l).1.symm) hl (O8 l).2 (λy hy=>z1 y (hp.mem_iff.1 hy))
def SL.upd{K G:List AObj}{p e sz:Nat}{xs:List AV}(h:SL K G p e sz xs)(L:List AObj)(ys:List AV):SL K (G.set p (.arr e sz ys)++L) p e sz ys:=by have hp:=(zB.1 h.arr).1;have z1:=h.ge;refine⟨by rw[zF (by simpa using hp)];exact zK hp,z1,λj hj=>?_⟩;rw[zF (by simp;omega),zE (by omega)];exact h.keep j hj
attribute [local irreducible] Wt Qz Ez
def Bq(H:List AObj)(q:Nat)(l:List Iv)(hq:H[q]?=some (.arr 144 2 (l.map encIv)))(hl:l.length<=1000000)(zf:∀y∈l,Sz y/\y.lo<=y.hi):
  FC prog 110 [.sl q 2 0 l.length] H (λr H'=>r=LIv (Ez l)/\H.length<=H'.length/\∀i,i<H.length->i≠q->H'[i]? =H[i]?):=by
 refine fcB func110 results110 ntmps110 ?_;simp only[Qf];repeat(refine s_ ?_;simp)
 refine Qu rfl rfl (v16 H q l hq hl) rfl ?_;rintro r H' ⟨rfl,l',h1,h2,rfl⟩;simp;have hl':l'.length<=1000000:=by rw[h1.length_eq];exact hl
 have zl:=h1.length_eq;have zc:∀y∈l',Sz y:=λy hy=>(zf y (h1.mem_iff.1 hy)).1;rw[<-D8 l l' (λy hy=>(zf y hy).2) h1 h2,<-zl];have g0:=Qg hq (.arr 144 2 (l'.map encIv));have z7:∀i,i≠q->(H.set q (.arr 144 2 (l'.map encIv)))[i]? =H[i]? :=λi hi=>zE (λe=>hi e.symm);have hlen:(H.set q (.arr 144 2 (l'.map encIv))).length=H.length:=by simp
 generalize H.set q (.arr 144 2 (l'.map encIv))=H1 at *
 repeat(refine s_ ?_;simp)
 refine Qn (sl':=[(2,.nils),(3,.nils),(9,.sl q 2 0 l'.length),(10,.i l'.length),(11,.i (0:Nat))]) ?_ (by simp);refine Ws q g0 ?_;simp;rw[zV (by simp)];have z1:∀i,i<H.length->i≠q->(H1.set q .dead)[i]? =H[i]? :=λi h1 h2=>by rw[zE (λe=>h2 e.symm)];exact z7 i h2
 have z8:(H1.set q .dead).length=H.length:=by simp[hlen]
 generalize H1.set q .dead=K at *;refine Q3 3 144 2 rfl ?_
 simp;have hst:=SL.start K 144 2;refine Qj (Qc (sl':=[(3,.sl K.length 2 0 (Qz [] (l'.take 0)).length),(9,LIv l'),(10,.i l'.length),(11,.i (0:Nat))]) ?_ (by simp[z8,Qz]));refine Qi (F:=λ(u:Nat×Nat×List AObj)=>⟨[(3,.sl u.2.1 2 0 (Qz [] (l'.take u.1)).length),(9,LIv l'),(10,.i l'.length),(11,.i u.1)],u.2.2⟩)
  (λu=>u.1<=l'.length/\SL K u.2.2 u.2.1 144 2 ((Qz [] (l'.take u.1)).map encIv)) (λu=>l'.length - u.1) ?_ (0,K.length,_) ⟨by simp,by rw[wd,Qz,List.foldl_nil];exact hst⟩
 rintro⟨j,p,G⟩ ⟨hj,g⟩ ih;simp only at hj g ih |-;repeat(refine s_ ?_;simp)
 refine Qb rfl (λzm=>?_) (λzg=>?_)
 ·have za:j<l'.length:=by simpa using zm
  have hw:=wz j (by omega);have zh:Qz [] (l'.take (j+1))=Wt (Qz [] (l'.take j)) l'[j]:=by rw[zU za,P2]
  have zi:(Qz [] (l'.take j)).length<=j:=yP (Rs _ _) (by simp;omega);have zd:∀y∈Qz [] (l'.take j),Sz y:=Sv _ _ (by simp) (λy hy=>zc y (xX hy));have z6:=λp' G'=>ih (j+1,p',G');simp only[zh]at z6;clear zh;generalize Qz [] (l'.take j)=acc at *;generalize hx:l'[j]=x at *
  repeat(refine s_ ?_;simp[za,hx])
  rcases List.eq_nil_or_concat acc with rfl|⟨ini,y,rfl⟩
  ·refine Qo tOk mixed [] (.val 0 (.val 1 (.val 2 (.val 3 (.val 4 (.val 5 (.val 6 (.val 7 (.val 8 (.val 9 (.val 10 (.val 11 (.val 12 (.val 13 (.done))))))))))))))) rfl (by kernel_rfl) ?_;simp;refine Qr rfl ?_;simp;repeat(refine s_ ?_;simp)
   refine apS P3 Kz ?_;simp[Qa g.arr,Qh g.arr];refine⟨by simp[Wg,Qa g.arr,Qh g.arr]<;>omega,?_⟩;repeat(refine s_ ?_;simp[hw])
   refine Qc (sl':=[(3,.sl (G.length+2) 2 0 1),(9,LIv l'),(10,.i l'.length),(11,.i (j+1:Nat))]) ?_ (by simp);have:=z6 (G.length+2) _ ⟨by omega,by rw[Wt];exact g.put [AObj.vars [AV.i x.lo,AV.i x.hi],AObj.arr 144 2 [encIv x]] _ rfl⟩ (by omega);rw[Wt]at this;simpa using this
  have zn:=(Es _).1 (zd y (by simp)).2;have zj:IntKind.i64.wrap (y.hi+1)=y.hi+1:=wrap_i64 _ (by omega) (by omega);have gA:=g.arr;rw[List.concat_eq_append]at g gA z6 zi |-;have hlen:(ini++[y]).length=ini.length+1:=by simp
  rw[hlen]at zi |-;have zk:IntKind.i64.wrap (ini.length:Int)=ini.length:=wrap_i64 _ (by omega) (by omega);have hg:((ini++[y]).map encIv)[ini.length]?=some (encIv y):=by simp
  have zb:(ini.length:Int)<ini.length+1:=by omega
  refine Qo tOk mixed [] (.val 0 (.val 1 (.val 2 (.val 3 (.val 4 (.val 5 (.val 6 (.val 7 (.val 8 (.val 9 (.val 10 (.val 11 (.val 12 (.val 13 (.done))))))))))))))) rfl (by kernel_rfl) ?_;simp[Qa gA,zk,hg,zj,zb];refine Qb rfl (λh1=>?_) (λh1=>?_)
  ·repeat(refine s_ ?_;simp)
   refine Qo tOk mixed [14] (.val 0 (.val 1 (.val 2 (.val 3 (.val 4 (.val 5 (.val 6 (.val 7 (.val 8 (.val 9 (.val 10 (.val 11 (.val 12 (.val 13 (.one 14 (.done)))))))))))))))) rfl (by kernel_rfl) ?_;simp[Qa gA,zk,hg,zj,zb,Qh gA];repeat(refine s_ ?_;simp[hw])
   have hR:Wt (ini++[y]) x=ini++[⟨y.lo,if y.hi<x.hi then x.hi else y.hi⟩]:=by rw[W7,if_pos (by simpa using h1)]
   rw[hR]at z6;refine Qc (sl':=[(3,.sl p 2 0 (ini.length+1)),(9,LIv l'),(10,.i l'.length),(11,.i (j+1:Nat))]) ?_ (by simp);have:=z6 p _ ⟨by omega,g.upd [AObj.vars [AV.i x.lo,AV.i x.hi]] _⟩ (by omega);simpa using this
  repeat(refine s_ ?_;simp)
  refine apS P3 Kz ?_;simp[Qa gA,Qh gA];refine⟨by simp[Wg,Qa gA,Qh gA]<;>omega,?_⟩;repeat(refine s_ ?_;simp[hw])
  have hR:Wt (ini++[y]) x=ini++[y]++[x]:=by rw[W7,if_neg (by simpa using h1)]
  rw[hR]at z6;refine Qc (sl':=[(3,.sl (G.length+2) 2 0 (ini.length+2)),(9,LIv l'),(10,.i l'.length),(11,.i (j+1:Nat))]) ?_ (by simp);have:=z6 (G.length+2) _ ⟨by omega,g.put [AObj.vars [AV.i x.lo,AV.i x.hi],AObj.arr 144 2 [encIv x]] _ rfl⟩ (by omega);simpa using this
 have ze:j=l'.length:=by simp at zg;omega
 subst ze;rw[yI]at g |-;refine Ws p g.arr ?_;simp;rw[zV (by simp)];repeat(refine s_ ?_;simp)
 have zo:=(zB.1 g.arr).1;have zg:=g.ge;refine⟨by omega,λi h1 h2=>?_⟩;rw[zE (by omega),g.keep i (by omega)];exact z1 i h1 h2
end
section
def F2(F:Nat->List Iv)(T i:Nat):List AV:=(yU T).map λk=>if k<i then encL (F k)else .nils
def z09(F:Nat->List Iv)(T i:Nat):(F2 F T i).length=T:=by simp[F2]
def V8(F:Nat->List Iv)(T:Nat):yB T AV.nils=F2 F T 0:=by refine xZ (by simp[F2]) λk h1 h2=>by simp[F2]
def z0x(F:Nat->List Iv){T i:Nat}(h:i<T):(F2 F T i)[i]?=some .nils:=by simp[F2,h]
def x0i(F:Nat->List Iv){T i:Nat}(h:i<T):(F2 F T i).set i (encL (F i))=F2 F T (i+1):=by
 refine xZ (by simp[F2]) λk h1 h2=>?_;have hk:k<T:=by simpa[F2]using h2
 rw[List.getElem_set];by_cases e:i=k
 ·subst e;simp[F2]
 rw[if_neg e];simp only[F2,List.getElem_map,List.getElem_range];by_cases h3:k<i
 ·rw[if_pos h3,if_pos (by omega)]
 rw[if_neg h3,if_neg (by omega)]
def Ch(F:Nat->List Iv)(T:Nat):F2 F T T=((yU T).map F).map encL:=by
 refine xZ (by simp[F2]) λk h1 h2=>?_;have hk:k<T:=by simpa[F2]using h1
 simp[F2,hk]
def d0x(F:Nat->List Iv)(T:Nat):(F2 F T T).all (λx=>x.cells.all AV.pure)=true:=by rw[Ch,zZ];intro x hx;obtain⟨s,_,rfl⟩:=zQ.1 hx;simp[AV.cells,AV.pure]
def Bi{T:Nat}{l:List Prd}(hl:∀p∈l,PWf T p){i:Nat}{y:Iv}(hy:y∈Qv l i):Sz y/\y.lo<=y.hi:=by
 obtain⟨p,hp,hx⟩:=Tf.1 hy;by_cases hi:i<p.length
 ·rw[W9 hi]at hx;exact⟨j2o (hl p hp) (zL hi) y hx,((hl p hp).2 _ (zL hi)).1.1 y hx⟩
 simp[yQ,hi]at hx
def x0k(T:Nat)(l:List Prd):(Ux T l).length=T:=by simp[Ux]
attribute [local irreducible] Ez Qv Ux F2
def X4(T:Nat)(l:List Prd)(hT:T<=16)(hl:∀p∈l,PWf T p)(hn:∀i,i<T->(Qv l i).length<=1000000)(y1:l.length<=1000000):PC prog 53 [.i T,LP l] (λr=>r=encP (Ux T l)):=by
 refine pcB func53 results53 ntmps53 ?_;simp only[Qf];simp only[encP];repeat(refine s_ ?_;simp)
 refine Rb tOk rfl rfl rfl T68 rfl P3 rfl rfl rfl (n:=T) (by simp;omega) (by unfold maxLen;omega) .nils rfl ?_;simp;repeat(refine s_ ?_;simp)
 rw[V8 (λk=>Ez (Qv l k))];refine Gs 1 rfl ?_;simp;refine Qj (Qc (sl':=[(0,.i T),(1,LP l),(4,.vptr 0 0),(5,.vptr 2 0),(12,.i T),(13,.i (0:Nat))]) ?_ (by simp));refine Qi (F:=λ(u:Nat×List AObj)=>⟨[(0,.i T),(1,LP l),(4,.vptr 0 0),(5,.vptr 2 0),(12,.i T),(13,.i u.1)],u.2⟩)
  (λu=>u.1<=T/\3<=u.2.length/\u.2[0]?=some (.vars [.nils])/\u.2[1]?=some (.va 145 1 (F2 (λk=>Ez (Qv l k)) T u.1))/\u.2[2]?=some (.vars [.sl 1 1 0 T])) (λu=>T - u.1) ?_ (0,_) ⟨by simp,by simp,rfl,rfl,rfl⟩
 rintro⟨i,H2⟩ ⟨hi,hH,g0,g1,g2⟩ ih;simp only at hi hH g0 g1 g2 ih |-;repeat(refine s_ ?_;simp)
 refine Qb rfl (λzp=>?_) (λzq=>?_)
 ·have z1:i<T:=by simpa using zp
  have hw:=wz i (by omega);have zl:=x0i (λk=>Ez (Qv l k)) z1;have zr:=z0x (λk=>Ez (Qv l k)) z1;have z7:=z09 (λk=>Ez (Qv l k)) T i;have zd:=hn i z1;have ze:=λH'=>ih (i+1,H');simp only[<-zl]at ze;clear zl;generalize F2 (λk=>Ez (Qv l k)) T i=row at *
  repeat(refine s_ ?_;simp)
  refine As 1 i 144 2 g1 zr ?_;refine Qj (Qc (sl':=[(0,.i T),(1,LP l),(4,.vptr 0 0),(5,.vptr 2 0),(6,.i i),(12,.i T),(13,.i i),(16,LP l),(17,.i l.length),(18,.i (0:Nat))]) ?_ (by simp));refine Qi (F:=λ(u:Nat×Nat×List AObj)=>⟨[(0,.i T),(1,LP l),(4,.vptr 0 0),(5,.vptr 2 0),(6,.i i),(12,.i T),(13,.i i),(16,LP l),(17,.i l.length),(18,.i u.1)],u.2.2⟩)
   (λu=>u.1<=l.length/\3<=u.2.1/\u.2.2[0]?=some (.vars [.nils])/\u.2.2[1]?=some (.va 145 1 (row.set i (.sl u.2.1 2 0 (Qv (l.take u.1) i).length)))/\u.2.2[2]?=some (.vars [.sl 1 1 0 T])/\u.2.2[u.2.1]?=some (.arr 144 2 ((Qv (l.take u.1) i).map encIv))) (λu=>l.length - u.1) ?_
   (0,H2.length,_) ⟨by simp,hH,Qd (by decide) (Qa g0 _) _,by rw[wd,Up];exact Qg (Qa g1 _) _,Qd (by decide) (Qa g2 _) _,by rw[wd,Up];simp only;rw[zE (i:=1) (j:=H2.length) (by omega)];simp⟩
  rintro⟨j,q,G⟩ ⟨hj,zt,k0,k1,k2,k3⟩ ih2;simp only at hj zt k0 k1 k2 k3 ih2 |-;repeat(refine s_ ?_;simp)
  refine Qb rfl (λzf=>?_) (λzg=>?_)
  ·have z6:j<l.length:=by simpa using zf
   have zm:=wz j (by omega);have hp:=hl _ (zL z6);have zh:i<l[j].length:=by rw[hp.1];exact z1
   have hst:=P7 z6 zh;have zi:(Qv (l.take (j+1)) i).length<=1000000:=by refine yP ?_ zd;unfold Qv;rw[<-xO (j+1) l,wJ,zW,xO];omega
   rw[hst,zW]at zi;have z8:=λq' G'=>ih2 (j+1,q',G');simp only[hst]at z8;clear hst;repeat(refine s_ ?_;simp[z6,zh])
   generalize hs:l[j][i]=s at *;generalize Qv (l.take j) i=acc at *;refine Qo tOk mixed [13,15] (.val 0 (.val 2 (.val 3 (.val 4 (.val 5 (.val 6 (.val 7 (.val 8 (.val 9 (.val 10 (.val 11 (.val 12 (.two 1 (.one 13 (.val 14 (.one 15 (.done)))) 13 (.val 1 (.val 14 (.one 15 (.done))))))))))))))))) rfl (by kernel_rfl) ?_
   simp[Qa k1,Qa k2,z1,zh,z6,hs,z7];have zu:q≠0:=by omega
   have zv:q≠1:=by omega
   have zw:q≠2:=by omega
   have y2:=(zB.1 k3).1;have m0:∀L,(G.set q .dead++L)[0]?=some (AObj.vars [AV.nils]):=λL=>Qa (Qd zu k0 _) L;have m1:∀L,(G.set q .dead++L)[1]?=some (.va 145 1 (row.set i (.sl q 2 0 acc.length))):=λL=>Qa (Qd zv k1 _) L;have zc:∀L hh,(G.set q .dead++L)[1]'hh= .va 145 1 (row.set i (.sl q 2 0 acc.length)):=λL hh=>by have:=m1 L;rw[zI hh]at this;exact Option.some.inj this
   have m2:∀L,(G.set q .dead++L)[2]?=some (AObj.vars [AV.sl 1 1 0 T]):=λL=>Qa (Qd zw k2 _) L;have n2:∀L,(G++L)[2]?=some (AObj.vars [AV.sl 1 1 0 T]):=λL=>Qa k2 L;refine⟨?_,?_⟩
   ·refine apS P3 Kz ?_;simp[Qa k3,Qh k3,m0,m1,zc,m2,n2,z1,z7];refine⟨by simp[Wg,Qa k3,Qh k3,m0,m1,zc,m2,n2,z1,z7]<;>omega,?_⟩;repeat(refine s_ ?_;simp[zm])
    refine Qc (sl':=[(0,.i T),(1,LP l),(4,.vptr 0 0),(5,.vptr 2 0),(6,.i i),(12,.i T),(13,.i i),(16,LP l),(17,.i l.length),(18,.i (j+1:Nat))]) ?_ (by simp);refine z8 (G.length+1) _ ⟨by omega,by omega,Qd (by decide) (m0 _) _,?_,Qd (by decide) (m2 _) _,?_⟩ (by omega)
    ·rw[Qg (m1 _) _];simp
    rw[zE (by omega),zH (by simp)];simp
   refine apS P3 Kz ?_;simp[Qa k3,Qh k3,m0,m1,zc,m2,n2,z1,z7];refine⟨by simp[Wg,Qa k3,Qh k3,m0,m1,zc,m2,n2,z1,z7]<;>omega,?_⟩;repeat(refine s_ ?_;simp[zm])
   refine Qc (sl':=[(0,.i T),(1,LP l),(4,.vptr 0 0),(5,.vptr 2 0),(6,.i i),(12,.i T),(13,.i i),(16,LP l),(17,.i l.length),(18,.i (j+1:Nat))]) ?_ (by simp);refine z8 (G.length+1) _ ⟨by omega,by omega,Qd (by decide) (m0 _) _,?_,Qd (by decide) (m2 _) _,?_⟩ (by omega)
   ·rw[Qg (m1 _) _];simp
   rw[zE (by omega),zH (by simp)];simp
  have zb:j=l.length:=by simp at zg;omega
  subst zb;rw[yI]at k1 k3;have zn:∀y∈Qv l i,Sz y/\y.lo<=y.hi:=λy hy=>Bi hl hy;have y3:∀L,(G++L)[2]?=some (AObj.vars [AV.sl 1 1 0 T]):=λL=>Qa k2 L;have zx:∀hh,G[1]'hh= .va 145 1 (row.set i (.sl q 2 0 (Qv l i).length)):=λhh=>by rw[zI hh]at k1;exact Option.some.inj k1
  repeat(refine s_ ?_;simp)
  refine Qo tOk mixed [8,10] (.val 0 (.val 2 (.val 3 (.val 4 (.val 5 (.val 6 (.val 7 (.two 1 (.one 8 (.val 9 (.one 10 (.done)))) 8 (.val 1 (.val 9 (.one 10 (.done)))))))))))) rfl (by kernel_rfl) ?_;simp[k1,zx,k2,z1,z7];refine⟨?_,?_⟩
  ·refine Qu rfl rfl (Bq G q (Qv l i) k3 zd zn) rfl ?_;rintro r H' ⟨rfl,hl',za⟩;have zy:=(zB.1 k2).1;have u0:=(za 0 (by omega) (by omega)).trans k0;have u1:=(za 1 (by omega) (by omega)).trans k1;have u2:=(za 2 (by omega) (by omega)).trans k2;have zj:∀hh,H'[1]'hh= .va 145 1 (row.set i (.sl q 2 0 (Qv l i).length)):=λhh=>by rw[zI hh]at u1;exact Option.some.inj u1
   simp[u1,zj,u2,z1,z7];repeat(refine s_ ?_;simp[hw])
   refine Qc (sl':=[(0,.i T),(1,LP l),(4,.vptr 0 0),(5,.vptr 2 0),(12,.i T),(13,.i (i+1:Nat))]) ?_ (by simp);exact ze _ ⟨by omega,by simp;omega,Qd (by decide) u0 _,Qg u1 _,Qd (by decide) u2 _⟩ (by omega)
  refine Qu rfl rfl (Bq G q (Qv l i) k3 zd zn) rfl ?_;rintro r H' ⟨rfl,hl',za⟩;have zy:=(zB.1 k2).1;have u0:=(za 0 (by omega) (by omega)).trans k0;have u1:=(za 1 (by omega) (by omega)).trans k1;have u2:=(za 2 (by omega) (by omega)).trans k2;have zj:∀hh,H'[1]'hh= .va 145 1 (row.set i (.sl q 2 0 (Qv l i).length)):=λhh=>by rw[zI hh]at u1;exact Option.some.inj u1
  simp[u1,zj,u2,z1,z7];repeat(refine s_ ?_;simp[hw])
  refine Qc (sl':=[(0,.i T),(1,LP l),(4,.vptr 0 0),(5,.vptr 2 0),(12,.i T),(13,.i (i+1:Nat))]) ?_ (by simp);exact ze _ ⟨by omega,by simp;omega,Qd (by decide) u0 _,Qg u1 _,Qd (by decide) u2 _⟩ (by omega)
 have zk:i=T:=by simp at zq;omega
 subst zk;refine Ow 1 g1 (d0x _ _) ?_;rw[Ch]at *
 have zz:(yU i).map (λk=>Ez (Qv l k))=Ux i l:=by unfold Ux;rfl
 rw[zz]at *;refine Q6 1 (Qg g1 _) 2 (Qd (by decide) g2 _) ?_
 have zo:=x0k i l;have e0:∀Y,((H2.set 1 AObj.dead).set 2 Y)[0]?=some (AObj.vars [AV.nils]):=λY=>Qd (by decide) (Qd (by decide) g0 _) _;have y0:∀Y hh,((H2.set 1 AObj.dead).set 2 Y)[0]'hh=AObj.vars [AV.nils]:=λY hh=>by have:=e0 Y;rw[zI hh]at this;exact Option.some.inj this
 have e2:∀Y,((H2.set 1 AObj.dead).set 2 Y)[2]?=some Y:=λY=>Qg (Qd (by decide) g2 _) _;have e3:∀Y Z,(((H2.set 1 AObj.dead).set 2 Y).set 0 Z)[0]?=some Z:=λY Z=>Qg (e0 Y) _;simp[zo];rw[zV (by simp[zo])];repeat(refine s_ ?_;simp[e0,y0,e2,e3])
end
section
def GL.keepAll{K G G':List AObj}{S p:Nat}{pre post:List AV}{e sz:Nat}{xs:List AV}(h:GL K G S p pre post e sz xs)(hk:∀j,j<G.length->G'[j]? =G[j]?)(hl:G.length<=G'.length):GL K G' S p pre post e sz xs:=by have h1:=h.len;have h2:=h.lt;have h3:=(zB.1 h.arr).1;exact⟨(hk _ (by omega)).trans h.cell,(hk _ h3).trans h.arr,h.ge,h.lt,by omega,λj hj z1=>(hk j (by omega)).trans (h.keep j hj z1)⟩
def SL.le{K G:List AObj}{p e sz:Nat}{xs:List AV}(h:SL K G p e sz xs):K.length<=G.length:=by have:=(zB.1 h.arr).1;have:=h.ge;omega
attribute [local irreducible] upL E3 Rp
def v1s(T:Nat)(p:Prd)(hp:PWf T p)(hl:∀s∈p,s.length<=1000000)(hT:T<=1000):PC prog 115 [encP p] (λr=>r=encP (T6 p)):=by
 refine pcB func115 results115 ntmps115 ?_;simp only[Qf];simp only[encP];have hlen:=hp.1;repeat(refine s_ ?_;simp)
 refine Ep 2 0 145 1 rfl rfl ?_;simp;obtain⟨K,hK⟩:∃K,K=[AObj.vars [.list (p.map encL)],AObj.vars [AV.nils],AObj.vars [AV.nils]]:=⟨_,rfl⟩
 have hst:=GL.start (K:=K) (S:=2) [] [] 145 1 (by rw[hK];simp);refine Qj (Qc (sl':=[(2,.vptr 1 0),(3,.vptr 2 0),(11,.list (p.map encL)),(12,.i p.length),(13,.i 0)]) ?_ (by simp));refine Qi (F:=λ(u:Nat×Nat×List AObj)=>⟨[(2,.vptr 1 0),(3,.vptr 2 0),(11,.list (p.map encL)),(12,.i p.length),(13,.i u.1)],u.2.2⟩)
  (λu=>u.1<=p.length/\GL K u.2.2 2 u.2.1 [] [] 145 1 (upL (λi=>E3 (p.getD i [])) u.1)) (λu=>p.length - u.1) ?_ (0,K.length,_) ⟨by simp,by rw[C8,hK]at *;exact hst⟩
 rintro⟨j,q,H2⟩ ⟨hj,g⟩ ih;simp only at hj g ih |-;repeat(refine s_ ?_;simp)
 refine Qb rfl (λzn=>?_) (λzo=>?_)
 ·have z7:j<p.length:=by simpa using zn
  have hw:=wz j (by omega);have hs:=hp.2 _ (zL z7);have zx:=hl _ (zL z7);have zy:=(Jx hs.1 hs.2).2.2;have zj:upL (λi=>E3 (p.getD i [])) j++[encL (E3 p[j])]=upL (λi=>E3 (p.getD i [])) (j+1):=by rw[X3,W9 z7]
  have z6:=Td (λi=>E3 (p.getD i [])) j;have zc:=λq' H'=>ih (j+1,q',H');simp only[<-zj]at zc;clear zj;generalize upL (λi=>E3 (p.getD i [])) j=done at *
  repeat(refine s_ ?_;simp[z7])
  generalize p[j]=l at *
  obtain⟨zk,hb⟩:=hs;refine Q3 6 144 2 rfl ?_;simp;have zd:=SL.start H2 144 2;refine Qj (Qc (sl':=[(2,.vptr 1 0),(3,.vptr 2 0),(6,.sl H2.length 2 0 0),(7,.i (-1099511627776)),(11,.list (p.map encL)),(12,.i p.length),(13,.i j),(17,LIv l),(18,.i l.length),(19,.i (0:Nat))]) ?_ (by simp));refine Qi (F:=λ(u:Nat×Nat×List Iv×Int×List AObj)=>⟨[(2,.vptr 1 0),(3,.vptr 2 0),(6,.sl u.2.1 2 0 u.2.2.1.length),(7,.i u.2.2.2.1),(11,.list (p.map encL)),(12,.i p.length),(13,.i j),(17,LIv l),(18,.i l.length),(19,.i u.1)],u.2.2.2.2⟩)
   (λu=>u.1<=l.length/\SL H2 u.2.2.2.2 u.2.1 144 2 (u.2.2.1.map encIv)/\u.2.2.1++Rp (l.drop u.1) u.2.2.2.1=E3 l) (λu=>l.length - u.1) ?_ (0,H2.length,[],-1099511627776,_) ⟨by simp,zd,by simp[g1t]⟩
  rintro⟨k,p2,acc,n,G⟩ ⟨hk,s1,g2⟩ ih2;simp only at hk s1 g2 ih2 |-;have zz:acc.length<=1000001:=by have:=congrArg List.length g2;simp only[zW]at this;omega
  repeat(refine s_ ?_;simp)
  refine Qb rfl (λze=>?_) (λzf=>?_)
  ·have z1:k<l.length:=by simpa using ze
   have zp:=hb _ ⟨l[k],zL z1,xK _,zk.1 _ (zL z1)⟩;have zq:=hb _ ⟨l[k],zL z1,zk.1 _ (zL z1),xK _⟩;unfold inR at zp zq;have zl:=wz k (by omega);have zr:IntKind.i64.wrap (l[k].lo - 1)=l[k].lo - 1:=wrap_i64 _ (by omega) (by omega);have zm:IntKind.i64.wrap (l[k].hi+1)=l[k].hi+1:=wrap_i64 _ (by omega) (by omega);rw[Ed z1,Cd]at g2;repeat(refine s_ ?_;simp[z1])
   refine Qb rfl (λh3=>?_) (λh3=>?_)
   ·rw[if_pos (by simpa using h3)]at g2;repeat(refine s_ ?_;simp[z1,zr])
    refine apS P3 Kz ?_;simp[Qa s1.arr,Qh s1.arr];refine⟨by simp[Wg,Qa s1.arr,Qh s1.arr]<;>omega,?_⟩;repeat(refine s_ ?_;simp[z1,zl,zm])
    refine Qc (sl':=[(2,.vptr 1 0),(3,.vptr 2 0),(6,.sl (G.length+2) 2 0 (acc.length+1)),(7,.i (l[k].hi+1)),(11,.list (p.map encL)),(12,.i p.length),(13,.i j),(17,LIv l),(18,.i l.length),(19,.i (k+1:Nat))]) ?_ (by simp);have:=ih2 (k+1,G.length+2,acc++[(⟨n,l[k].lo - 1⟩:Iv)],l[k].hi+1,_) ⟨by simp;omega,s1.put [AObj.vars [AV.i l[k].lo,AV.i l[k].hi],.arr 144 2 [encIv (⟨n,l[k].lo - 1⟩:Iv)]] ((acc++[(⟨n,l[k].lo - 1⟩:Iv)]).map encIv) rfl,by simpa using g2⟩ (by simp;omega);simpa using this
   rw[if_neg (by simpa using h3)]at g2;repeat(refine s_ ?_;simp[z1,zl,zm])
   refine Qc (sl':=[(2,.vptr 1 0),(3,.vptr 2 0),(6,.sl p2 2 0 acc.length),(7,.i (l[k].hi+1)),(11,.list (p.map encL)),(12,.i p.length),(13,.i j),(17,LIv l),(18,.i l.length),(19,.i (k+1:Nat))]) ?_ (by simp);have:=ih2 (k+1,p2,acc,l[k].hi+1,_) ⟨by simp;omega,s1.add [AObj.vars [AV.i l[k].lo,AV.i l[k].hi]],by simpa using g2⟩ (by simp;omega);simpa using this
  have zb:k=l.length:=by simp at zf;omega
  subst zb;rw[List.drop_length,Mr]at g2;repeat(refine s_ ?_;simp)
  refine Qb rfl (λh3=>?_) (λh3=>?_)
  ·rw[if_pos (by simpa using h3)]at g2;repeat(refine s_ ?_;simp)
   refine apS P3 Kz ?_;simp[Qa s1.arr,Qh s1.arr];refine⟨by simp[Wg,Qa s1.arr,Qh s1.arr]<;>omega,?_⟩;have s2:=s1.put [.arr 144 2 [encIv (⟨n,1099511627776⟩:Iv)]] ((acc++[(⟨n,1099511627776⟩:Iv)]).map encIv) rfl;have e1:(acc++[(⟨n,1099511627776⟩:Iv)]).length=acc.length+1:=by simp
   rw[g2]at s2 e1;rw[<-e1];have e2:acc.map encIv++[AV.agg [AV.int IntKind.i64 n,AV.int IntKind.i64 1099511627776]]=(E3 l).map encIv:=by rw[<-g2];simp
   rw[e2];refine Qn (sl':=[(2,.vptr 1 0),(3,.vptr 2 0),(6,.sl (G.length+1) 2 0 (E3 l).length),(11,.list (p.map encL)),(12,.i p.length),(13,.i j)]) ?_ (by simp);generalize zg:G.set p2 AObj.dead++[AObj.arr 144 2 [AV.agg [AV.int IntKind.i64 n,AV.int IntKind.i64 1099511627776]],AObj.arr 144 2 ((E3 l).map encIv)]=GE;have s3:SL H2 GE (G.length+1) 144 2 ((E3 l).map encIv):=by rw[<-zg];simpa using s2
   clear s1 s2 zg;refine Ws (G.length+1) s3.arr ?_;simp;rw[zV (by simp)];have zt:=(zB.1 s3.arr).1;have zu:=s3.ge;have g':=g.keepAll (G':=GE.set (G.length+1) .dead) (λj hj=>by rw[zE (by omega)];exact s3.keep j hj) (by simp;have:=s3.le;omega);generalize GE.set (G.length+1) .dead=E at *
   have c2:=g'.cell;have c3:=g'.arr;rw[z6]at c2;simp only[vU]at c2;have z8:∀L:List AObj,(E.set q .dead++L)[2]?=some (AObj.vars [AV.sl q 1 0 j]):=λL=>by have:=g'.at L;rw[z6]at this;exact this
   have za:=λA y=>g'.put A y z6.symm;repeat(refine s_ ?_;simp[c2])
   refine apS T68 P3 ?_;simp[Qa c3,Qh c3,z6,z8];refine⟨by simp[Wg,Qa c3,Qh c3,z6,z8]<;>omega,?_⟩;repeat(refine s_ ?_;simp[c2,hw,z8])
   refine Qc (sl':=[(2,.vptr 1 0),(3,.vptr 2 0),(11,.list (p.map encL)),(12,.i p.length),(13,.i (j+1:Nat))]) ?_ (by simp);exact zc (E.length+1) _ ⟨by omega,za _ _⟩ (by omega)
  rw[if_neg (by simpa using h3),xG]at g2;subst g2;refine Qn (sl':=[(2,.vptr 1 0),(3,.vptr 2 0),(6,.sl p2 2 0 (E3 l).length),(11,.list (p.map encL)),(12,.i p.length),(13,.i j)]) ?_ (by simp);have s3:=s1;clear s1;generalize zg:G=GE at *;refine Ws p2 s3.arr ?_
  simp;rw[zV (by simp)];have zt:=(zB.1 s3.arr).1;have zu:=s3.ge;have g':=g.keepAll (G':=GE.set p2 .dead) (λj hj=>by rw[zE (by omega)];exact s3.keep j hj) (by simp;have:=s3.le;omega);generalize GE.set p2 .dead=E at *
  have c2:=g'.cell;have c3:=g'.arr;rw[z6]at c2;simp only[vU]at c2;have z8:∀L:List AObj,(E.set q .dead++L)[2]?=some (AObj.vars [AV.sl q 1 0 j]):=λL=>by have:=g'.at L;rw[z6]at this;exact this
  have za:=λA y=>g'.put A y z6.symm;repeat(refine s_ ?_;simp[c2])
  refine apS T68 P3 ?_;simp[Qa c3,Qh c3,z6,z8];refine⟨by simp[Wg,Qa c3,Qh c3,z6,z8]<;>omega,?_⟩;repeat(refine s_ ?_;simp[c2,hw,z8])
  refine Qc (sl':=[(2,.vptr 1 0),(3,.vptr 2 0),(11,.list (p.map encL)),(12,.i p.length),(13,.i (j+1:Nat))]) ?_ (by simp);exact zc (E.length+1) _ ⟨by omega,za _ _⟩ (by omega)
 have zh:j=p.length:=by simp at zo;omega
 subst zh;have g2:=g.cell;have g3:=g.arr;rw[Td]at g2;simp only[vU]at g2;have gR:H2[1]?=some (AObj.vars [AV.nils]):=g.kp (by decide) (by rw[hK];rfl);have hS:=(zB.1 g2).1;have zv:q≠1/\q≠2:=by have:=g.ge;rw[hK]at this;simp at this;omega
 have z6:=Td (λi=>E3 (p.getD i [])) p.length;have zi: .list (upL (λi=>E3 (p.getD i [])) p.length)=AV.list ((T6 p).map encL):=by rw[M4,v01];rfl
 generalize upL (λi=>E3 (p.getD i [])) p.length=xs at *
 refine Q6 q g3 2 g2 ?_;have k1:∀X,((H2.set q .dead).set 2 X)[1]?=some (AObj.vars [AV.nils]):=λX=>Qd (by decide) (Qd zv.1 gR _) _;have zw:∀X hh,((H2.set q .dead).set 2 X)[1]'hh=AObj.vars [AV.nils]:=λX hh=>by have:=k1 X;rw[zI hh]at this;exact Option.some.inj this
 have k2:∀X,((H2.set q .dead).set 2 X)[2]?=some X:=λX=>zK (by simpa using hS);have k3:∀X Y,(((H2.set q .dead).set 2 X).set 1 Y)[1]?=some Y:=λX Y=>Qg (k1 X) _;simp[z6];rw[zV (by omega)];repeat(refine s_ ?_;simp[k1,zw,k2,k3])
 exact AV.list.inj zi
end
section
def Na(l:List Bool)(hb:l.length<=1000000):FR prog 113 [.list (l.map .bool)] 4 1 (λr=>r=l.map .bool):=by
 refine c05 tOk func113 rfl results113 rfl (by simp[ntmps113]) ?_;rw[ntmps113];simp only[Qf];repeat(refine s_ ?_;simp)
 refine J9 tOk rfl rfl T22 rfl rfl rfl (λb z1=>?_);simp;refine Qb rfl (λh=>?_) (λh=>?_)
 ·subst h;have:l=[]:=by
   cases hx:l
   ·rfl
   have:=z1 (by simp[hx]);cases this
  rw[this];repeat(refine s_ ?_;simp)
 repeat(refine s_ ?_;simp)
 refine apS T22 T4 ?_;simp;refine⟨⟨?_,by simp;omega⟩,?_⟩
 ·intro y hy;obtain⟨x,_,rfl⟩:=zQ.1 hy;exact⟨rfl,by simp[AV.cells,AV.leaf]⟩
 repeat(refine s_ ?_;simp)
def J3(l:List Mv)(hb:l.length<=1000000):FR prog 114 [.list (l.map encMv)] 73 3 (λr=>r=l.map encMv):=by
 refine c05 tOk func114 rfl results114 rfl (by simp[ntmps114]) ?_;rw[ntmps114];simp only[Qf];repeat(refine s_ ?_;simp)
 refine J9 tOk rfl rfl T23 rfl rfl rfl (λb z1=>?_);simp;refine Qb rfl (λh=>?_) (λh=>?_)
 ·subst h;have:l=[]:=by
   cases hx:l
   ·rfl
   have:=z1 (by simp[hx]);cases this
  rw[this];repeat(refine s_ ?_;simp)
 repeat(refine s_ ?_;simp)
 refine apS T23 T73 ?_;simp;refine⟨⟨?_,by simp;omega⟩,?_⟩
 ·intro y hy;obtain⟨x,_,rfl⟩:=zQ.1 hy;exact⟨rfl,by simp[AV.cells,AV.leaf]⟩
 repeat(refine s_ ?_;simp)
attribute [local irreducible] f1h
def Hc(H:List AObj)(f:Nat)(a:Aut)(hf:H[f]?=some (.arr 4 1 (a.fin.map .bool)))(zd:a.fin.length<=1000000)(ze:a.mv.length<=1000000):
  FC prog 54 [.agg [.i a.types,.sl f 1 0 a.fin.length,.list (a.mv.map encMv)]] H
   (λr H'=>((Vn a=true/\r= .tup [.agg [.i 0,.nils,.nils],.i 5])\/(Vn a=false/\r= .tup [.agg [.i a.types,.sl f 1 0 a.fin.length,.list (a.mv.map encMv)],.i 0]))/\∀i,i<H.length->H'[i]? =H[i]?):=by
 refine fcB func54 results54 ntmps54 ?_;simp only[Qf];repeat(refine s_ ?_;simp)
 refine Qb rfl (λh=>?_) (λh=>?_)
 ·repeat(refine s_ ?_;simp)
  have hb:Vn a=true:=by rw[w0r,wV];left;simp at h |-;omega
  exact⟨hb,λi hi=>zF hi⟩
 have hb:(decide (256<a.fin.length) || decide (2048<a.mv.length))=false:=by simp at h |-;omega
 repeat(refine s_ ?_;simp)
 refine Qj (Qc (sl':=[(1,.vptr H.length 0),(2,.vptr (H.length+1) 0),(18,.list (a.mv.map encMv)),(19,.i a.mv.length),(20,.i (0:Nat))]) ?_ (by simp));refine Qi (F:=λ(u:Nat×List AObj)=>⟨[(1,.vptr H.length 0),(2,.vptr (H.length+1) 0),(18,.list (a.mv.map encMv)),(19,.i a.mv.length),(20,.i u.1)],u.2⟩)
  (λu=>u.1<=a.mv.length/\H.length+2<=u.2.length/\(∀i,i<H.length->u.2[i]? =H[i]?)/\u.2[H.length]?=some (.vars [.i a.types,.sl f 1 0 a.fin.length,.list (a.mv.map encMv)])/\u.2[H.length+1]?=some (.vars [.i 0,.nils,.nils])/\∀i,∀hi:i<a.mv.length,i<u.1->f1h a.mv[i]=false) (λu=>a.mv.length - u.1) ?_ (0,_)
  ⟨by simp,by simp,λi hi=>zF hi,by simp,by simp,λi hi h=>by omega⟩
 rintro⟨j,G⟩ ⟨hj,hG,k0,k1,k2,hI⟩ ih;simp only at hj hG k0 k1 k2 hI ih |-;repeat(refine s_ ?_;simp)
 refine Qb rfl (λza=>?_) (λzb=>?_)
 ·have z1:j<a.mv.length:=by simpa using za
  have hw:=wz j (by omega);repeat(refine s_ ?_;simp[z1])
  refine pcL (Ff a.mv[j].on 112 (λs=>decide (256<s.length)) z2q) ?_;simp;repeat(refine s_ ?_;simp)
  have z8:∀L,(G++L)[H.length+1]?=some (.vars [.i 0,.nils,.nils]):=λL=>Qa k2 L;refine Qb rfl (λh=>?_) (λh=>?_)
  ·have k3:∀L Y,((G++L).set (H.length+1) Y)[H.length+1]?=some Y:=λL Y=>Qg (z8 L) Y;repeat(refine s_ ?_;simp[z8,k3])
   have hm:f1h a.mv[j]=true:=by unfold f1h;exact h
   have z6:Vn a=true:=by rw[w0r,wV];right;exact wM.2 ⟨_,zL z1,hm⟩
   exact⟨z6,λi hi=>by rw[zE (by omega),zF (by omega)];exact k0 i hi⟩
  have hm:f1h a.mv[j]=false:=by unfold f1h;exact h
  repeat(refine s_ ?_;simp[hw])
  refine Qc (sl':=[(1,.vptr H.length 0),(2,.vptr (H.length+1) 0),(18,.list (a.mv.map encMv)),(19,.i a.mv.length),(20,.i (j+1:Nat))]) ?_ (by simp);refine ih (j+1,_) ⟨by simp only;omega,by simp;omega,λi hi=>(zF (by omega)).trans (k0 i hi),Qa k1 _,Qa k2 _,λi hi zc=>?_⟩ (by simp only;omega);by_cases e:i=j
  ·subst e;exact hm
  exact hI i hi (by simp only at zc;omega)
 have z7:j=a.mv.length:=by simp at zb;omega
 subst z7;have z6:Vn a=false:=by rw[w0r,hb,Bool.false_or,vv];intro m hm;obtain⟨i,hi,rfl⟩:=yZ hm;rw[hI i hi hi];simp
 have k3:∀Y,(G.set (H.length+1) Y)[H.length+1]?=some Y:=λY=>Qg k2 Y;repeat(refine s_ ?_;simp[k1,k2,k3])
 exact⟨z6,λi hi=>by rw[zE (by omega)];exact k0 i hi⟩
end
end Go.Abs
