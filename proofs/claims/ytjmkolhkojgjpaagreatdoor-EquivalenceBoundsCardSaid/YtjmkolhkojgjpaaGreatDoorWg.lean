/- Part Wg of the proof: steps on the way to the last part. No condition. -/
import Derived.Test.YtjmkolhkojgjpaaGreatDoorWf
import Derived.Test.YtjmkolhkojgjpaaGreatDoorWc
import Derived.Test.YtjmkolhkojgjpaaGreatDoorWd
import Derived.Shelf.Small.Bits
import Derived.Shelf.Strconv.Itoa0
import Derived.Shelf.Strconv.Itoa1
import Derived.Shelf.LaysM
import Derived.Shelf.Strconv.Itoa2
import Derived.Shelf.Strconv.AppendUint10
import Derived.Shelf.Strconv.AppendInt10
import Derived.Shelf.Strconv.AppendIntPublic10
import Derived.Test.YtjmkolhkojgjpaaGreatDoorProg
import Derived.Lib.AppendIntMem
import Derived.Lib.ItoaLen
import Derived.Lib.Slices
import Derived.Lib.Hide
import Derived.Laws.IdiomStrings
import Derived.OwnWalk
import Derived.WalkKit
import Derived.BigCall
set_option linter.all false
open List renaming mem_of_mem_take->xY,getElem_of_mem->yX,length_take->xR,any_eq_true->wL,range->yQ,map_congr_left->xD,ext_getElem->xT,getElem_set->tW,getElem_map->ut,getElem_range->tH,map_map->vE,all_eq_true->zX,mem_map->zO,getD->yL,map_cons->xJ,map_nil->wG,take_of_length_le->zT,getElem?_eq_some_iff->zB,getElem_mem->zL,getElem?_eq_getElem->zI,take_succ_eq_append_getElem->zR,getElem?_append_left->zH,getElem?_set_ne->zE,ext_getElem?->xL,getElem?_set_self->zK,take_zero->wB,foldl_nil->sk,eq_nil_or_concat->wT,concat_eq_append->wU,take_length->zY,mem_append->zV,mem_singleton->zP,getElem?_map->zU,mem_of_getElem?->zJ,mem_mapIdx->sa,getElem?_mapIdx->vK,length_cons->yZ,getElem?_cons_succ->td,mem_or_eq_of_mem_set->vP,length_append->zW,mem_append_left->yY,mem_cons->yB,replicate->yF,mem_replicate->uF,map_append->yR,foldl_append->wJ,range_succ->wQ,append_assoc->xO,flatMap_append->wV,append_nil->yV,length_map->yE,drop_length->xX,map_set->tj,getElem?_append_right->zF,set_append_right->vX,length_pos_iff->uI,foldl_cons->xV,cons_append->uV,mem_of_mem_eraseIdx->ta,length_eraseIdx->uD,any_eq_false->vw,findIdx?_eq_some_iff_getElem->xM,not_mem_nil->uf
open Int renaming le_refl->xC
open Bool renaming or_eq_true->vD,eq_false_iff->vV
open Nat renaming le_refl->zS,le_trans->yP
open Option renaming map_eq_some_iff->zQ
set_option maxHeartbeats 8000000
set_option linter.unusedSimpArgs false
set_option maxRecDepth 100000
open Go.Proofs.Tryz
namespace Go.Abs
open Go Go.Proofs
section
def ascS(s:List Iv):Prop:=(∀x∈s,x.lo<=x.hi)/\s.Pairwise (λx y=>x.hi<y.lo)
def ascS.take{s:List Iv}(h:ascS s)(k:Nat):ascS (s.take k):=⟨λx hx=>h.1 x (xY hx),h.2.take⟩
def z06{s ini:List Iv}{y x:Iv}{m:Nat}(h:ascS s)(hm:m<s.length)(hx:s[m]=x)(e:Qz [] (s.take m)=ini++[y]):y.hi<x.lo:=by
 have h1:=P9 (h.take m);have hy:y∈Qz [] (s.take m):=by rw[e];simp
 have z7:y.lo<=y.hi:=h1.1.1 y hy;obtain⟨z,hz,z1,z2⟩:=(h1.2 y.hi).1 ⟨y,hy,z7,xC _⟩;obtain⟨i,hi,z6⟩:=yX hz;rw[xR]at hi;rw[List.getElem_take]at z6;have:=List.pairwise_iff_getElem.1 h.2 i m (by omega) hm (by omega);rw[z6,hx]at this;omega
def v2v{ini:List Iv}{y x:Iv}(h1:y.hi<x.lo)(h2:x.lo<=x.hi):W4 (ini++[y]) x=if y.hi+1=x.lo then ini++[⟨y.lo,x.hi⟩]else ini++[y]++[x]:=by
 rw[Ej];by_cases e:y.hi+1=x.lo
 ·rw[if_pos e,if_pos (by omega),if_pos (by omega)]
 rw[if_neg e,if_neg (by omega)]
def g2o{L:List Prd}{p:Prd}{s:List Iv}(hp:p∈L)(hs:s∈p)(h:256<s.length):F6 L=true:=by simp only[F6,vD,wL];exact .inr ⟨p,hp,s,hs,by simpa using h⟩
def v2d{L:List Prd}(hl:L.length<=256)(h:∀p∈L,∀s∈p,s.length<=256):F6 L=false:=by
 rw[vV];intro hb;simp only[F6,vD,wL,decide_eq_true_eq]at hb;rcases hb with hb|⟨p,hp,s,hs,hb⟩
 ·omega
 have:=h p hp s hs;omega
def w0r(L:Nat->Nat)(T:Nat)(p:Prd)(k:Nat):List AV:=(yQ T).map λi=>if i<k then encL (Qz [] (p.getD i []))else Hf (L i) (p.getD i [])
def f1t(L:Nat->Nat)(T:Nat)(p:Prd)(k:Nat):(w0r L T p k).length=T:=by simp[w0r]
def d0v(L:Nat->Nat)(T:Nat)(p:Prd):w0r L T p 0=d06 L T p:=xD λi _=>by simp
def f1w(L:Nat->Nat){T k:Nat}(p:Prd)(h:k<T):(w0r L T p k)[k]?=some (Hf (L k) (p.getD k [])):=by simp[w0r,h]
def f1i(L:Nat->Nat){T k:Nat}(p:Prd)(h:k<T):(w0r L T p k).set k (encL (Qz [] (p.getD k [])))=w0r L T p (k+1):=by
 refine xT (by simp[w0r]) λj h1 h2=>?_;have hj:j<T:=by simpa[w0r]using h2
 rw[tW];by_cases e:k=j
 ·subst e;simp[w0r]
 rw[if_neg e];simp only[w0r,ut,tH];by_cases h3:j<k
 ·rw[if_pos h3,if_pos (by omega)]
 rw[if_neg h3,if_neg (by omega)]
def y0z{p:Prd}{T:Nat}(h:p.length=T)(f:List Iv->AV):(yQ T).map (λi=>f (p.getD i []))=p.map f:=by
 subst h;refine xT (by simp) λj h1 h2=>?_;have hj:j<p.length:=by simpa using h1
 simp[hj]
def k1l(L:Nat->Nat){T:Nat}{p:Prd}(h:p.length=T):w0r L T p T=(Rz p).map encL:=by
 have:w0r L T p T=(yQ T).map (λi=>(λs=>encL (Qz [] s)) (p.getD i [])):=xD λi hi=>by rw[if_pos (List.mem_range.1 hi)]
 rw[this,y0z h (λs=>encL (Qz [] s)),Rz,vE];rfl
def q16(l:List (List Iv)):(l.map encL).all (λx=>x.cells.all AV.pure)=true:=by rw[zX];intro x hx;obtain⟨s,_,rfl⟩:=zO.1 hx;simp[AV.cells,AV.pure]
def Mh(Q:Nat->Nat)(T:Nat)(st:List Prd)(c:Nat):List AV:=(yQ st.length).map λj=>if j<c then encP (Rz (st.getD j []))else .agg [.sl (Q j) 1 0 T]
def d1r(Q:Nat->Nat)(T:Nat)(st:List Prd)(c:Nat):(Mh Q T st c).length=st.length:=by simp[Mh]
def x1f(Q:Nat->Nat)(T:Nat)(st:List Prd):Mh Q T st 0=Nl Q T st.length:=xD λi _=>by simp
def d1k(Q:Nat->Nat)(T:Nat){st:List Prd}{c:Nat}(h:c<st.length):(Mh Q T st c)[c]?=some (.agg [.sl (Q c) 1 0 T]):=by simp[Mh,h]
def z29{Q:Nat->Nat}{T:Nat}{st:List Prd}{c:Nat}(h:c<st.length)(z6:∀j,j<st.length->j≠c->Q j≠Q c)(hT:st[c].length=T):
  (Mh Q T st c).map (AV.fz (Q c) 1 ((Rz st[c]).map encL))=Mh Q T st (c+1):=by
 refine xT (by simp[Mh]) λj h1 h2=>?_;have hj:j<st.length:=by simpa[Mh]using h2
 have z1:(Rz st[c]).length=T:=by simp[Rz,hT]
 simp only[Mh,ut,tH];by_cases h3:j<c
 ·rw[if_pos h3,if_pos (by omega)];simp[Zm,x1b]
 rw[if_neg h3];by_cases e:j=c
 ·subst e;rw[if_pos (by omega),Zm];have:st.getD j []=st[j]:=by simp[yL,hj]
  rw[this];simp only[xJ,wG,AV.fz,encP];rw[if_pos (by simp[z1]),List.drop_zero,zT (by simp[z1])]
 rw[if_neg (by omega),Zm];simp only[xJ,wG,AV.fz];rw[if_neg (λa=>z6 j hj e a.1)]
def k1e(Q:Nat->Nat)(T:Nat)(st:List Prd):Mh Q T st st.length=(st.map Rz).map encP:=by
 refine xT (by simp[Mh]) λj h1 h2=>?_;have hj:j<st.length:=by simpa[Mh]using h1
 simp[Mh,hj]
def d0x(l:List Prd):(l.map encP).all (λx=>x.cells.all AV.pure)=true:=by rw[zX];intro x hx;obtain⟨s,_,rfl⟩:=zO.1 hx;simp[AV.cells,AV.pure]
def x2q{l:List AV}{i:Nat}{x:AV}(h:l[i]?=some x):i<l.length:=(zB.1 h).1
def w05{P:Program}[Env P]{nt k:Nat}{cd:Code}{Q:Exit->AS->Prop}{sl:List (Nat×AV)}{H:List AObj}(F:List AObj->Prop)(h1:(∀H1,F H1->AWP P nt k cd Q ⟨sl,H1⟩)->AWP P nt k cd Q ⟨sl,H⟩)(h2:∀H1,F H1->AWP P nt k cd Q ⟨sl,H1⟩):AWP P nt k cd Q ⟨sl,H⟩:=h1 h2
attribute [local irreducible] W4 Qz Rg d06 w0r Nl Mh
def u2s(T o:Nat)(st:List Prd)(Q:Nat->Nat)(L:Nat->Nat->Nat)(tag:Nat->Nat×Nat)(H:List AObj)(h:Rows [] T o st Q L tag H)(hT:T<=16)(hw:∀p∈st,p.length=T/\∀s∈p,ascS s/\s.length<=10000000/\∀x∈s,Fc x):
  FC prog 168 [.sl o 1 0 st.length] H (λr _=>(r= .tup [.nils,.i 5]/\F6 (st.map Rz)=true)\/(r= .tup [LP (st.map Rz),.i 0]/\F6 (st.map Rz)=false)):=by
 refine fcB func168 results168 ntmps168 ?_;simp only[Qd];repeat(refine s_ ?_;simp)
 refine Qa rfl (λzc=>?_) (λyb=>?_)
 ·have hb:256<st.length:=by simp at zc;omega
  repeat(refine s_ ?_;simp)
  simp[F6];omega
 have hn:st.length<=256:=by simp at yb;omega
 repeat(refine s_ ?_;simp)
 have yp:=Qe h.out;have tagne:∀c c',c<st.length->c'<st.length->c≠c'->Q c≠Q c':=λc c' h1 h2 za e=>by have a:=h.tQ c h1;have b:=h.tQ c' h2;rw[e,b]at a;simp at a;omega
 have y3:∀c,c<st.length->Q c≠o:=λc hc e=>by have h1:=h.to;have h2:=h.tQ c hc;rw[<-e,h2]at h1;simp at h1
 refine lpV (F:=λ(u:Nat×List AObj)=>⟨[(0,.sl o 1 0 st.length),(15,.sl o 1 0 st.length),(16,.i st.length),(17,.i u.1)],u.2⟩)
  (λu=>u.1<=st.length/\H.length<=u.2.length/\u.2[o]?=some (.va 70 1 (Mh Q T st u.1))/\(∀j,j<H.length->j≠o->(∀c,c<u.1->j≠Q c)->u.2[j]? =H[j]?)/\∀p∈(st.map Rz).take u.1,∀s∈p,s.length<=256) (λu=>st.length - u.1) ?_ (0,H) ⟨by simp,by simp,by rw[x1f];exact h.out,λ_ _ _ _=>rfl,by simp⟩
 rintro⟨c,G⟩ ⟨hc,hG,go,gk,gs⟩ ih;simp only at hc hG go gk gs ih |-;repeat(refine s_ ?_;simp)
 refine Qa rfl (λyc=>?_) (λyd=>?_)
 ·have z1:c<st.length:=by simpa using yc
  have ye:=wz c (by omega);have zn:=d1k Q T z1;have yf:=d1r Q T st c;have hp:=hw _ (zL z1);have yg:=z29 z1 (λj hj za=>tagne j c hj z1 za) hp.1;have yh:=(gk (Q c) (Qe (h.row c _ (zI z1))) (y3 c z1) (λc' zj=>tagne c c' z1 (by omega) (by omega))).trans (h.row c _ (zI z1));have hle:∀k,k<T->st[c].getD k []≠[]->G[L c k]?=some (.arr 144 2 ((st[c].getD k []).map encIv))/\L c k≠Q c/\L c k≠o/\L c k<H.length:=λk hk za=>by
   have hl:=h.leaf c _ k (zI z1) hk za;have ht:=h.tL c _ k (zI z1) hk za;have h1:L c k≠o:=λe=>by have:=h.to;rw[<-e,ht]at this;simp at this
   have h2:∀c',c'<st.length->L c k≠Q c':=λc' zj e=>by have:=h.tQ c' zj;rw[<-e,ht]at this;simp at this
   exact⟨(gk _ (Qe hl) h1 (λc' zj=>h2 c' (by omega))).trans hl,h2 c z1,h1,Qe hl⟩
  have yq:=Qe (h.row c _ (zI z1));have zk:=y3 c z1;have yi:(st.map Rz).take (c+1)=(st.map Rz).take c++[Rz st[c]]:=by rw[zR (by simpa using z1)];simp
  have yj:Rz st[c]∈st.map Rz:=zO.2 ⟨_,zL z1,rfl⟩;generalize yr:st[c]=p at *;generalize Mh Q T st c=od at *
  have zo:∀hh,od[c]'hh= .agg [.sl (Q c) 1 0 T]:=λhh=>by rw[zI hh]at zn;exact Option.some.inj zn
  repeat(refine s_ ?_;simp[go,zn,zo,yf,z1])
  have yt:0<G.length:=by omega
  refine lpV (F:=λ(u:Nat×List AObj)=>⟨[(0,.sl o 1 0 st.length),(5,.vptr G.length 0),(15,.sl o 1 0 st.length),(16,.i st.length),(17,.i c),(22,.sl (Q c) 1 0 T),(23,.i T),(24,.i u.1)],u.2⟩)
   (λu=>u.1<=T/\G.length+1<=u.2.length/\u.2[Q c]?=some (.va 145 1 (w0r (L c) T p u.1))/\(∀j,j<G.length->j≠Q c->u.2[j]? =G[j]?)/\u.2[G.length]?=some (.vars [.sl (Q c) 1 0 T])/\∀s∈(Rz p).take u.1,s.length<=256) (λu=>T - u.1) ?_ (0,_) ⟨by simp,by simp,by rw[d0v];exact Qb yh _,λj hj _=>zH hj,by simp,by simp⟩
  rintro⟨k,E⟩ ⟨hk,hE,eq,ek,e5,es⟩ ih2;simp only at hk hE eq ek e5 es ih2 |-;repeat(refine s_ ?_;simp)
  refine Qa rfl (λzp=>?_) (λzq=>?_)
  ·have z6:k<T:=by simpa using zp
   have yk:=wz k (by omega);have zd:=f1w (L c) p z6;have y4:=f1t (L c) T p k;have zr:=f1i (L c) p z6;have zl:k<p.length:=by rw[hp.1];exact z6
   have y5:p.getD k []=p[k]:=Ef zl;have y6:(Rz p).take (k+1)=(Rz p).take k++[Qz [] p[k]]:=by rw[zR (by simpa[Rz]using zl)];simp[Rz]
   have yl:Qz [] p[k]∈Rz p:=zO.2 ⟨_,zL zl,rfl⟩;have ze:=hp.2 _ (zL zl);have y7:=hle k z6;have zf:=λE'=>ih2 (k+1,E');rw[y5]at zd y7 zr;simp only[<-zr,y6]at zf;clear zr y6 y5;generalize w0r (L c) T p k=rd at *;generalize p[k]=s at *
   have yu:E[Q c]?=some (.va 145 1 rd):=eq;refine w05 (λE1=>∃z,E1[Q c]?=some (.va 145 1 (rd.set k (.sl z 2 0 s.length)))/\E1[z]?=some (.arr 144 2 (s.map encIv))/\(∀j,j<G.length+1->j≠Q c->E1[j]? =E[j]?)/\E.length<=E1.length/\z≠Q c) (λhm=>?_) ?_
   ·by_cases hs0:s=[]
    ·subst hs0;simp only[Hf,if_true]at zd;refine Dp (Q c) k 144 2 eq zd ?_;have hl:=Qe eq;refine hm _ ⟨E.length,Qf (Qb eq _) _,?_,λj hj za=>?_,by simp,by omega⟩
     ·rw[zE (by omega)];simp
     rw[zE (Ne.symm za),zH (by omega)]
    simp only[Hf,if_neg hs0]at zd;obtain⟨k1,k2,k3,k4⟩:=y7 hs0;have zt:rd.set k (.sl (L c k) 2 0 s.length)=rd:=by
     refine xL λj=>?_;by_cases e:k=j
     ·subst e;rw[zd,zK (x2q zd)]
     rw[zE e]
    refine hm E ⟨L c k,by rw[zt];exact eq,?_,λ_ _ _=>rfl,zS _,k2⟩;rw[ek _ (by omega) k2];exact k1
   rintro E1 ⟨z,f1,f2,f3,f4,f5⟩;have ym:∀hh,(rd.set k (.sl z 2 0 s.length))[k]'hh= .sl z 2 0 s.length:=λhh=>by simp
   have f6:=f3 G.length (by omega) (by omega);rw[e5]at f6;have yv:=ze.2.1;repeat(refine s_ ?_;simp[f1,ym,y4,z6])
   refine Qw 8 144 2 rfl ?_;simp;have hst:=SL.start E1 144 2;refine lpW (F:=λ(u:Nat×Nat×List AObj)=>⟨[(0,.sl o 1 0 st.length),(5,.vptr G.length 0),(6,.i k),(8,.sl u.2.1 2 0 (Qz [] (s.take u.1)).length),(15,.sl o 1 0 st.length),(16,.i st.length),(17,.i c),(22,.sl (Q c) 1 0 T),(23,.i T),(24,.i k),(29,.sl z 2 0 s.length),(30,.i s.length),(31,.i u.1)],u.2.2⟩)
    (λu=>u.1<=s.length/\SL E1 u.2.2 u.2.1 144 2 ((Qz [] (s.take u.1)).map encIv)) (λu=>s.length - u.1) ?_ (0,E1.length,_) ⟨by simp,by rw[wB,Qz,sk];exact hst⟩ (by simp[Qz])
   rintro⟨j,p2,W⟩ ⟨hj,g⟩ ih3;simp only at hj g ih3 |-;repeat(refine s_ ?_;simp)
   refine Qa rfl (λzu=>?_) (λzv=>?_)
   ·have z7:j<s.length:=by simpa using zu
    have zw:=wz j (by omega);have y8:Qz [] (s.take (j+1))=W4 (Qz [] (s.take j)) s[j]:=by rw[zR z7,Sm]
    have zx:(Qz [] (s.take j)).length<=j:=yP (Th _ _) (by simp;omega);have zy:∀y∈Qz [] (s.take j),Fc y:=D5 _ _ (by simp) (λy hy=>ze.2.2 y (xY hy));have zb:=λini y=>z06 (ini:=ini) (y:=y) (x:=s[j]) ze.1 z7 rfl;have yn:=ze.1.1 _ (zL z7);have yw:=(E4 _).1 (ze.2.2 _ (zL z7)).2;have gz:=(g.keep z (Qe f2)).trans f2;have z8:=λp' G'=>ih3 (j+1,p',G');simp only[y8]at z8;clear y8;generalize Qz [] (s.take j)=acc at *
    repeat(refine s_ ?_;simp[gz,z7])
    generalize s[j]=x at *
    rcases wT acc with rfl|⟨ini,y,rfl⟩
    ·refine drT [] (.pv 0 14 (.done)) ?_;simp[(by decide:IntKind.i64.wrap (-1)= -1)];refine Qk rfl ?_;simp;repeat(refine s_ ?_;simp)
     refine apS P6 L1 ?_;simp[Qb g.arr,Qg g.arr];refine⟨by simp[Wo,Qb g.arr,Qg g.arr]<;>omega,?_⟩;repeat(refine s_ ?_;simp[zw])
     refine lkA [(0,.sl o 1 0 st.length),(5,.vptr G.length 0),(6,.i k),(8,.sl (W.length+2) 2 0 1),(15,.sl o 1 0 st.length),(16,.i st.length),(17,.i c),(22,.sl (Q c) 1 0 T),(23,.i T),(24,.i k),(29,.sl z 2 0 s.length),(30,.i s.length),(31,.i (j+1:Nat))] ?_;have:=z8 (W.length+2) _ ⟨by omega,by rw[W4];exact g.put [AObj.vars [AV.i x.lo,AV.i x.hi],AObj.arr 144 2 [encIv x]] _ rfl⟩ (by omega);rw[W4]at this;simpa using this
    have yx:=(E4 _).1 (zy y (by simp)).2;have y9:IntKind.i64.wrap (y.hi+1)=y.hi+1:=wrap_i64 _ (by omega) (by omega);have gA:=g.arr;rw[wU]at g gA z8 zx zb |-;have hlen:(ini++[y]).length=ini.length+1:=by simp
    rw[hlen]at zx |-;have ya:IntKind.i64.wrap (ini.length:Int)=ini.length:=wrap_i64 _ (by omega) (by omega);have hg:((ini++[y]).map encIv)[ini.length]?=some (encIv y):=by simp
    have zg:(ini.length:Int)<ini.length+1:=by omega
    have zm:=v2v (ini:=ini) (zb ini y rfl) yn;refine drT [] (.pv 0 14 (.done)) ?_;simp[Qb gA,ya,hg,y9,zg];refine Qa rfl (λh1=>?_) (λh1=>?_)
    ·repeat(refine s_ ?_;simp[Qb gA,ya,hg,y9,zg,Qg gA,zw])
     have zz:y.hi+1=x.lo:=by simpa using h1
     rw[if_pos zz]at zm;rw[zm]at z8;refine lkA [(0,.sl o 1 0 st.length),(5,.vptr G.length 0),(6,.i k),(8,.sl p2 2 0 (ini.length+1)),(15,.sl o 1 0 st.length),(16,.i st.length),(17,.i c),(22,.sl (Q c) 1 0 T),(23,.i T),(24,.i k),(29,.sl z 2 0 s.length),(30,.i s.length),(31,.i (j+1:Nat))] ?_;have:=z8 p2 _ ⟨by omega,g.upd [AObj.vars [AV.i x.lo,AV.i x.hi]] _⟩ (by omega);simpa using this
    repeat(refine s_ ?_;simp)
    refine apS P6 L1 ?_;simp[Qb gA,Qg gA];refine⟨by simp[Wo,Qb gA,Qg gA]<;>omega,?_⟩;repeat(refine s_ ?_;simp[zw])
    have zz:¬y.hi+1=x.lo:=by simpa using h1
    rw[if_neg zz]at zm;rw[zm]at z8;refine lkA [(0,.sl o 1 0 st.length),(5,.vptr G.length 0),(6,.i k),(8,.sl (W.length+2) 2 0 (ini.length+2)),(15,.sl o 1 0 st.length),(16,.i st.length),(17,.i c),(22,.sl (Q c) 1 0 T),(23,.i T),(24,.i k),(29,.sl z 2 0 s.length),(30,.i s.length),(31,.i (j+1:Nat))] ?_;have:=z8 (W.length+2) _ ⟨by omega,g.put [AObj.vars [AV.i x.lo,AV.i x.hi],AObj.arr 144 2 [encIv x]] _ rfl⟩ (by omega);simpa using this
   have zh:j=s.length:=by simp at zv;omega
   subst zh;rw[zY]at g |-;have zx:(Qz [] s).length<=s.length:=yP (Th _ _) (by simp);repeat(refine s_ ?_;simp)
   refine W3 p2 g.arr ?_;simp;rw[zT (by simp)];have yy:=(Qe g.arr)
   have yz:=g.ge;have w1:∀j,j<E1.length->(W.set p2 .dead)[j]? =E1[j]? :=λj hj=>by rw[zE (by omega)];exact g.keep j hj
   have w2:(W.set p2 .dead).length=W.length:=by simp
   generalize W.set p2 .dead=V at *;refine Qa rfl (λzc=>?_) (λy0=>?_)
   ·repeat(refine s_ ?_;simp)
    exact g2o yj yl (by simp at zc;omega)
   have v1:=(w1 _ (Qe f1)).trans f1;have v2:=(w1 _ (Qe f6)).trans f6;have v0:∀j,j<G.length+1->j≠Q c->V[j]? =E[j]? :=λj hj za=>(w1 j (by omega)).trans (f3 j hj za);repeat(refine s_ ?_;simp[v1,v2,y4,z6,yk])
   refine lkA [(0,.sl o 1 0 st.length),(5,.vptr G.length 0),(15,.sl o 1 0 st.length),(16,.i st.length),(17,.i c),(22,.sl (Q c) 1 0 T),(23,.i T),(24,.i (k+1:Nat))] ?_;refine zf _ ⟨by omega,by simp;omega,Qf v1 _,λj hj za=>?_,?_,λt ht=>?_⟩ (by omega)
   ·rw[zE (Ne.symm za),v0 j (by omega) za];exact ek j hj za
   ·rw[zE (by omega)];exact v2
   rcases zV.1 ht with ht|ht
   ·exact es t ht
   rw[zP.1 ht];simp at y0;omega
  have zi:k=T:=by simp at zq;omega
  subst zi;rw[k1l (L c) hp.1]at eq;have x0:(Rz p).length=k:=by simp[Rz,hp.1]
  have eo:=(ek o (Qe go) (Ne.symm zk)).trans go;refine P0 (Q c) eq (q16 _) ?_;refine Iz (Q c) (Qf eq _) (o0:= .va 70 1 od) o (Qc zk eo _) (Ne.symm zk) rfl ?_;have y1:¬o=Q c:=Ne.symm zk;simp[AObj.fz,yg,y1];repeat(refine s_ ?_;simp[ye])
  refine lkA [(0,.sl o 1 0 st.length),(15,.sl o 1 0 st.length),(16,.i st.length),(17,.i (c+1:Nat))] ?_;have yo:=Qe eo;refine ih (c+1,_) ⟨by omega,by simp;omega,zK (by simpa using yo),λj hj h1 h2=>?_,λP hP=>?_⟩ (by omega)
  ·have h3:=h2 c (by omega);rw[zE (Ne.symm h1),zE (Ne.symm h3),ek j (by omega) h3];exact gk j hj h1 (λc' zj=>h2 c' (by omega))
  rw[yi]at hP;rcases zV.1 hP with hP|hP
  ·exact gs P hP
  rw[zP.1 hP];rw[zT (by omega)]at es;exact es
 have y2:c=st.length:=by simp at yd;omega
 subst y2;rw[k1e]at go;rw[zT (by simp)]at gs;refine P0 o go (d0x _) ?_;refine W3 o (Qf go _) ?_;simp;rw[zT (by simp)];repeat(refine s_ ?_;simp)
 exact v2d (by simpa using hn) gs
end
section
open Go.Maps
attribute [simp] T79 T89
def stM(l:List Int):AObj:= .mp (l.map λz=>(.i z,.bool true))
def Uw:Keyed prog 3:=int_keyed (q:= .i64) (by kernel_rfl)
def w2q{z:Int}(h:0<=z/\z<=1000000):(Lit.int .i64 z).wf=true:=by
 have h1:IntKind.i64.min= -9223372036854775808:=by decide
 have h2:IntKind.i64.max=9223372036854775807:=by decide
 simp only[Lit.wf,h1,h2,Bool.and_eq_true,decide_eq_true_eq];omega
def Rb{z:Int}(h:0<=z/\z<=1000000):isKey prog 3 (.i z):=
 ⟨.int .i64 z,.int .i64 z,rfl,keyOf_int_mk (q:= .i64) (by kernel_rfl) (w2q h)⟩
section
variable {nt k:Nat} {S:AS} {ops:Array Oper} {o:Oper} {R:AS->Prop}
def z0p {wr:Bool} (hw:Qn ops S o=some true) (hd:Wx nt o=true) {x ix:Operand} (ho:o.op= .lookup 79 x ix false) {id:Nat} (hx:rho S.sl x=some (.mref id)) {z:Int} (z1:rho S.sl ix=some (.i z))
  {l:List Int} (z6:S.hp[id]?=some (stM l)) (hl:∀m∈l,0<=m/\m<=1000000) (hn:0<=z/\z<=1000000) (hR:R (S.putD o.dst (.bool (decide (z∈l))))):Q7 prog nt k wr ops o S R:=by
 refine Gj tOk hw hd ho T79 rfl T4 Uw hx z1 z6 (Rb hn) (λp hp=>?_) (z:= .bool false) rfl (λj p hp he=>?_) (λz7=>?_)
 ·obtain⟨m,hm,rfl⟩:=zO.1 hp;exact Rb (hl m hm)
 ·rw[zU]at hp;obtain⟨m,hm,rfl⟩:=zQ.1 hp;have z8:m=z:=by simpa using he
  rw[decide_eq_true (by rw[<-z8];exact zJ hm)]at hR;exact hR
 rw[decide_eq_false (λh=>z7 (.i z,.bool true) (zO.2 ⟨z,h,rfl⟩) rfl)]at hR;exact hR
def f0z (hw:Qn ops S o=some true) (hd:Wx nt o=true) {x ix y:Operand} (ho:o.op= .mapUpdate 79 x ix y) {id:Nat} (hx:rho S.sl x=some (.mref id)) {z:Int} (z1:rho S.sl ix=some (.i z)) (hy:rho S.sl y=some (.bool true))
  {l:List Int} (z6:S.hp[id]?=some (stM l)) (hl:∀m∈l,0<=m/\m<=1000000) (hn:0<=z/\z<=1000000) (z7:z∉l) (hR:R (({ S with hp:=S.hp.set id (stM (l++[z])) }:AS).putD o.dst (.tup []))):Q7 prog nt k true ops o S R:=by
 refine Ey tOk hw hd ho T79 rfl Uw hx z1 hy (by simp[AV.pure]) z6 (Rb hn) (λp hp=>?_) (λj p hp he=>?_) (λza=>?_)
 ·obtain⟨m,hm,rfl⟩:=zO.1 hp;exact Rb (hl m hm)
 ·rw[zU]at hp;obtain⟨m,hm,rfl⟩:=zQ.1 hp;have z8:m=z:=by simpa using he
  exact absurd (by rw[<-z8];exact zJ hm) z7
 have:l.map (λz=>(AV.i z,AV.bool true))++[(.i z,.bool true)]=(l++[z]).map λz=>(.i z,.bool true):=by simp
 rw[this];exact hR
def g0j (hw:Qn ops S o=some true) (hd:Wx nt o=true) {x ix y:Operand} (ho:o.op= .insert 79 x ix y) {id:Nat} (hx:rho S.sl x=some (.mref id)) {z:Int} (z1:rho S.sl ix=some (.i z)) (hy:rho S.sl y=some (.bool true))
  (z6:S.hp[id]?=some (.mp [])) (hn:0<=z/\z<=1000000) (hR:R (({ S with hp:=S.hp.set id (stM [z]) }:AS).putD o.dst (.tup []))):Q7 prog nt k true ops o S R:=by
 refine Um tOk hw hd ho T79 rfl Uw hx z1 hy (by simp[AV.pure]) z6 (Rb hn) (λp hp=>by cases hp) (λj p hp he=>by cases hp) (λz7=>?_);exact hR
end
end
section
open Go.Maps
def N6:Keyed prog 9:=string_keyed (by kernel_rfl)
def Fq(s:List UInt8)(h:s.length<=1000000):isKey prog 9 (.str s):=
 ⟨.string ⟨s.toArray⟩,.string s,rfl,by
  have:=Go.WideMaps.keyOf_string_mk (P:=prog) (k:=9) (s:=⟨s.toArray⟩) (by kernel_rfl) (by show s.toArray.size<=maxLen;unfold maxLen;simp;omega);exact this⟩
def mpT(ks:List (List UInt8)):AObj:= .mp (ks.mapIdx λc k=>(.str k,.i c))
section
variable {nt k:Nat} {S:AS} {ops:Array Oper} {o:Oper} {R:AS->Prop}
def z16{ks:List (List UInt8)}(hl:∀m∈ks,m.length<=1000000):∀p∈ks.mapIdx (λc k=>(AV.str k,AV.i (c:Nat))),isKey prog 9 p.1:=λp hp=>by obtain⟨i,h,rfl⟩:=sa.1 hp;exact Fq _ (hl _ (zL h))
def Jy {wr:Bool} (hw:Qn ops S o=some true) (hd:Wx nt o=true) {x ix:Operand} (ho:o.op= .lookup 89 x ix true) {id:Nat} (hx:rho S.sl x=some (.mref id)) {n:List UInt8} (z1:rho S.sl ix=some (.str n))
  {ks:List (List UInt8)} (z6:S.hp[id]?=some (mpT ks)) (hl:∀m∈ks,m.length<=1000000) (hn:n.length<=1000000) (z7:∀j:Nat,ks[j]?=some n->R (S.putD o.dst (.tup [.i j,.bool true]))) (z8:n∉ks->R (S.putD o.dst (.tup [.i 0,.bool false]))):Q7 prog nt k wr ops o S R:=by
 refine U7 tOk hw hd ho T89 rfl T3 N6 hx z1 z6 (Fq n hn) (z16 hl) (z:= .i 0) rfl (λj p hp he=>?_) (λza=>?_)
 ·rw[vK]at hp;obtain⟨m,hm,rfl⟩:=zQ.1 hp;have zb:m=n:=by simpa using he
  rw[zb]at hm;exact z7 j hm
 refine z8 λh=>?_;obtain⟨i,hi,rfl⟩:=yX h;exact za _ (sa.2 ⟨i,hi,rfl⟩) rfl
def Zu (hw:Qn ops S o=some true) (hd:Wx nt o=true) {x ix y:Operand} (ho:o.op= .mapUpdate 89 x ix y) {id:Nat} (hx:rho S.sl x=some (.mref id)) {n:List UInt8} (z1:rho S.sl ix=some (.str n))
  {ks:List (List UInt8)} (hy:rho S.sl y=some (.i ks.length)) (z6:S.hp[id]?=some (mpT ks)) (hl:∀m∈ks,m.length<=1000000) (hn:n.length<=1000000) (z7:n∉ks) (hR:R (({ S with hp:=S.hp.set id (mpT (ks++[n])) }:AS).putD o.dst (.tup []))):Q7 prog nt k true ops o S R:=by
 refine Ey tOk hw hd ho T89 rfl N6 hx z1 hy (by simp[AV.pure]) z6 (Fq n hn) (z16 hl) (λj p hp he=>?_) (λza=>?_)
 ·rw[vK]at hp;obtain⟨m,hm,rfl⟩:=zQ.1 hp;have z8:m=n:=by simpa using he
  exact absurd (by rw[<-z8];exact zJ hm) z7
 have:ks.mapIdx (λc k=>(AV.str k,AV.i (c:Nat)))++[(.str n,.i ks.length)]=(ks++[n]).mapIdx (λc k=>(AV.str k,AV.i (c:Nat))):=by simp
 rw[this];exact hR
end
def Ht:∀cs:List Int,(Ua cs).length=cs.length - 1
 |[]=>rfl
 |[_]=>rfl
 |a::b::r=>by rw[Ua,yZ,Ht (b::r)];simp
def x07:∀(cs:List Int) (k:Nat) (h:k+1<cs.length),(Ua cs)[k]?=some ⟨cs[k],cs[k+1] - 1⟩
 |[],k,h=>by simp at h
 |[_],k,h=>by simp at h
 |a::b::r,0,h=>rfl
 |a::b::r,k+1,h=>by
  have h':k+1<(b::r).length:=by simp at h |-;omega
  rw[Ua,td,x07 (b::r) k h'];rfl
def q09{T i:Nat}{sg:List Bool}{x:Iv}:∀ {st:List (List Bool×Prd)} {j:Nat} {p:Prd},(st.map (·.1)).Nodup->st[j]?=some (sg,p)->Ue T i sg x st=st.set j (sg,Ob p i x)
 |[],j,p,_,h=>by simp at h
 |(s,q)::r,0,p,hn,h=>by simp at h;obtain⟨rfl,rfl⟩:=h;rw[Ue,if_pos rfl];rfl
 |(s,q)::r,j+1,p,hn,h=>by rw[xJ,List.nodup_cons]at hn;rw[td]at h;rw[Ue,if_neg (λe=>hn.1 (by subst e;exact zO.2 ⟨_,zJ h,rfl⟩)),q09 hn.2 h];rfl
structure GB (T N n:Nat) (st:List (List Bool×Prd)):Prop where
 nd:(st.map (·.1)).Nodup
 le:st.length<=n
 len:∀g∈st,g.2.length=T
 sz:∀g∈st,∀s∈g.2,s.length<=n
 kl:∀g∈st,g.1.length=N
def y1z{T n:Nat}{p:Prd}(hp:p.length=T)(h:∀s∈p,s.length<=n)(i:Nat)(x:Iv):(Ob p i x).length=T/\∀s∈Ob p i x,s.length<=n+1:=by
 refine⟨by simp[Ob,hp],λs hs=>?_⟩;rcases vP hs with hs|rfl
 ·have:=h s hs;omega
 rw[zW];by_cases hi:i<p.length
 ·rw[Ef hi];have:=h _ (zL hi);simp;omega
 simp[yL,hi]
def GB.put{T N n:Nat}{st:List (List Bool×Prd)}(h:GB T N n st){sg:List Bool}(hs:sg.length=N)(i:Nat)(x:Iv):GB T N (n+1) (Ue T i sg x st):=by
 by_cases hm:∃g∈st,g.1=sg
 ·obtain⟨a,p,b,h1,h2,h3⟩:=Fj (T:=T) (i:=i) (x:=x) hm;rw[h3];subst h1;have hp:=y1z (h.len (sg,p) (by simp)) (h.sz (sg,p) (by simp)) i x;have z1:∀g∈a++(sg,Ob p i x)::b,g=(sg,Ob p i x)\/g∈a++(sg,p)::b:=λg hg=>by
   rcases zV.1 hg with hg|hg
   ·exact .inr (yY _ hg)
   rcases yB.1 hg with rfl|hg
   ·exact .inl rfl
   exact .inr (List.mem_append_right _ (List.mem_cons_of_mem _ hg))
  refine⟨by simpa using h.nd,by have:=h.le;simp at this |-;omega,λg hg=>?_,λg hg s z6=>?_,λg hg=>?_⟩
  ·rcases z1 g hg with rfl|hg
   ·exact hp.1
   exact h.len g hg
  ·rcases z1 g hg with rfl|hg
   ·exact hp.2 s z6
   have:=h.sz g hg s z6;omega
  rcases z1 g hg with rfl|hg
  ·exact hs
  exact h.kl g hg
 have z7:∀g∈st,g.1≠sg:=λg hg e=>hm ⟨g,hg,e⟩;rw[Ar z7];have hp:=y1z (T:=T) (p:=yF T []) (n:=n) (by simp) (λs z6=>by rw[(uF.1 z6).2];simp) i x;have z1:∀g∈st++[(sg,Ob (yF T []) i x)],g=(sg,Ob (yF T []) i x)\/g∈st:=λg hg=>by
  rcases zV.1 hg with hg|hg
  ·exact .inr hg
  exact .inl (zP.1 hg)
 refine⟨?_,by have:=h.le;simp;omega,λg hg=>?_,λg hg s z6=>?_,λg hg=>?_⟩
 ·rw[yR,List.nodup_append];refine⟨h.nd,by simp,λa ha b hb e=>?_⟩;obtain⟨g,hg,rfl⟩:=zO.1 ha;simp at hb;exact z7 g hg (e.trans hb)
 ·rcases z1 g hg with rfl|hg
  ·exact hp.1
  exact h.len g hg
 ·rcases z1 g hg with rfl|hg
  ·exact hp.2 s z6
  have:=h.sz g hg s z6;omega
 rcases z1 g hg with rfl|hg
 ·exact hs
 exact h.kl g hg
end
section
open Go.Maps
def ksG(st:List (List Bool×Prd)):List (List UInt8):=st.map λg=>sgB g.1
def prG(st:List (List Bool×Prd)):List Prd:=st.map (·.2)
def Uy(T:Nat)(l:List Prd)(A:List (Nat×Iv)):List (List Bool×Prd):=A.foldl (λst a=>Ue T a.1 (Oz l a.1 a.2.lo) a.2 st) []
def Ca(T:Nat)(l:List Prd)(A:List (Nat×Iv))(a:Nat×Iv):Uy T l (A++[a])=Ue T a.1 (Oz l a.1 a.2.lo) a.2 (Uy T l A):=by unfold Uy;rw[wJ];rfl
def Ms(T:Nat)(l:List Prd)(A:List (Nat×Iv)):GB T l.length A.length (Uy T l A):=by
 suffices h:∀n,∀A:List (Nat×Iv),A.length=n->GB T l.length n (Uy T l A) from h _ A rfl
 intro n;induction n with
 |zero=>intro A hA;have:=List.eq_nil_of_length_eq_zero hA;subst this;exact⟨by simp[Uy],by simp[Uy],λg hg=>by simp[Uy]at hg,λg hg=>by simp[Uy]at hg,λg hg=>by simp[Uy]at hg⟩
 |succ n ih=>
  intro A hA;rcases wT A with rfl|⟨B,a,rfl⟩
  ·simp at hA
  rw[wU]at hA |-;rw[Ca];exact(ih B (by simp at hA;omega)).put (by simp[Oz]) _ _
def Ax(l:List Prd)(i:Nat):List (Nat×Iv):=(yQ i).flatMap λi=>(Ua (Wm l i)).map λx=>(i,x)
def P2(l:List Prd)(i k:Nat):List (Nat×Iv):=Ax l i++((Ua (Wm l i)).take k).map λx=>(i,x)
def F7(l:List Prd)(i:Nat):P2 l i 0=Ax l i:=by simp[P2]
def y1b(l:List Prd)(i:Nat):P2 l i (Ua (Wm l i)).length=Ax l (i+1):=by simp[P2,Ax,wQ,zY]
def k0l(l:List Prd)(i k:Nat)(h:k+1<(Wm l i).length):P2 l i (k+1)=P2 l i k++[(i,(⟨(Wm l i)[k],(Wm l i)[k+1] - 1⟩:Iv))]:=by have h1:=x07 (Wm l i) k h;obtain⟨h2,h3⟩:=zB.1 h1;rw[P2,P2,zR h2,h3,yR,xO];rfl
def w0w{T:Nat}{l:List Prd}(hl:∀p∈l,PCk T p)(hn:l.length<=256)(i:Nat):(Wm l i).length<=131074:=by rw[<-v0i];have h1:=Tv (Rj (Bb (Qq l i)));have h2:=B8 (Qq l i);rw[Ib,h2]at h1;have:=P3 hl i;omega
end
section
open Go.Maps
def GInv.iv{T:Nat}{sig:Nat->Int->List Bool}{st:List (List Bool×Prd)}(h:GInv T sig (λt n=>t<T/\inR n) st){g:List Bool×Prd}(hg:g∈st){s:List Iv}(hs:s∈g.2):ascS s/\∀x∈s,Fc x:=by have ha:=h.asc g hg s hs;refine⟨ha,λx hx=>?_⟩;obtain⟨t,ht,rfl⟩:=yX hs;have h1:=((h.mem g hg t x.lo).1 ⟨_,zI ht,x,hx,xC _,ha.1 x hx⟩).1.2;have h2:=((h.mem g hg t x.hi).1 ⟨_,zI ht,x,hx,ha.1 x hx,xC _⟩).1.2;unfold inR at h1 h2;exact⟨(E4 _).2 h1,(E4 _).2 h2⟩
def Kb{T:Nat}{l:List Prd}(hl:∀p∈l,PCk T p)(hn:l.length<=256):∀i,(Ax l i).length<=i * 131073
 |0=>by simp[Ax]
 |i+1=>by have:=Kb hl hn i;have h2:=w0w hl hn i;have h3:=Ht (Wm l i);rw[Ax,wQ,wV,zW];have h4:((yQ i).flatMap λi=>(Ua (Wm l i)).map λx=>(i,x)).length=(Ax l i).length:=rfl;rw[h4];simp only[List.flatMap_cons,List.flatMap_nil,yV,yE];omega
def q10{T:Nat}{l:List Prd}(hl:∀p∈l,PCk T p)(hn:l.length<=256){i k:Nat}(hi:i<16):(P2 l i k).length<=2097168:=by have:=Kb hl hn i;have h2:=w0w hl hn i;have h3:=Ht (Wm l i);rw[P2,zW,yE,xR];omega
def k1z(l:List Prd)(i:Nat)(n:Int):(Oz l i n).length=l.length:=by simp[Oz]
def x20(T:Nat)(l:List Prd):Uy T l (Ax l T)=A7 T l:=rfl
def Gc(l:List Prd):Ax l 0=[]:=rfl
def Km(T:Nat)(l:List Prd):Uy T l []=[]:=rfl
def Rs(ks:List (List UInt8)):mpT ks= .mp (ks.mapIdx λc k=>(.str k,.i c)):=rfl
def d1h{T:Nat}{l:List Prd}(hl:∀p∈l,PCk T p)(i:Nat):∀z∈Wm l i,-1099511627776<=z/\z<=1099511627777:=(Yu hl i).2.2.2.1
attribute [local irreducible] d06 Nl Wm Oz Uy Ax P2 mpT
def y0x(T:Int)(l:List Prd):PC prog 105 [.i T,LP l] (λr=>r= .tup [LP (Tq T l).2,.i (Tq T l).1]):=by
 refine pcB func105 results105 ntmps105 ?_;simp only[Qd];repeat(refine s_ ?_;simp)
 refine Qa rfl (λhc=>?_) (λhc=>?_)
 ·have yf:T<1\/16<T:=by simpa using hc
  have hm:Tq T l=(2,[]):=by rw[Tq,if_pos yf]
  rw[hm];repeat(refine s_ ?_;simp)
 have yf:¬(T<1\/16<T):=by simpa using hc
 have xm:¬T<1:=λh=>yf (.inl h);have xn:¬16<T:=λh=>yf (.inr h);repeat(refine s_ ?_;simp)
 refine Qa rfl (λh=>?_) (λh=>?_)
 ·have hm:Tq T l=(5,[]):=by rw[Tq,if_neg (by omega),if_pos (by simp at h;omega)]
  rw[hm];repeat(refine s_ ?_;simp)
 have hn:l.length<=256:=by simp at h;omega
 repeat(refine s_ ?_;simp)
 refine Qr l.length (λj=>Ux T l=Ux T (l.drop j)) (λj=>[(0,.i T),(1,LP l),(28,LP l),(29,.i l.length),(30,.i j)]) (λ_=>[]) rfl (by simp) (by simp) (by simp) (by simp) (by simp) ?_;intro j hj hI ih;repeat(refine s_ ?_;simp)
 refine Qa rfl (λyg=>?_) (λyh=>?_)
 ·have z1:j<l.length:=by simpa using yg
  have hw:=wz j (by omega);rw[Eh z1,Ux]at hI;repeat(refine s_ ?_;simp[z1])
  refine pcL (De T l[j]) ?_;simp;repeat(refine s_ ?_;simp)
  refine Qa rfl (λh3=>?_) (λh3=>?_)
  ·repeat(refine s_ ?_;simp)
   rw[if_pos (by simpa using h3)]at hI;have hm:Tq T l=(E9 T l[j],[]):=by rw[Tq,if_neg (by omega),if_neg (by omega),hI,if_pos (by simpa using h3)]
   rw[hm];exact⟨rfl,rfl⟩
  rw[if_neg (by simpa using h3)]at hI;repeat(refine s_ ?_;simp[hw])
  refine Qt _ (ih z1 hI) rfl (by simp) ?_ (by simp) (by simp);simp
 have zr:j=l.length:=by simp at yh;omega
 subst zr;rw[xX]at hI;obtain⟨N,hN⟩:∃N:Nat,T=N:=⟨T.toNat,by omega⟩
 subst hN;have zp:∀p∈l,PCk N p:=λp hp=>by simpa using((Eg (N:Int) p).1 ((Pb l).1 hI p hp)).2
 have hm:Tq N l=if F6 (Ro N l)then(5,[])else(0,Ro N l):=by rw[Tq,if_neg (by omega),if_neg (by omega),hI,if_neg (by simp[Ux])];simp
 repeat(refine s_ ?_;simp)
 refine Ea rfl rfl rfl ?_;simp;repeat(refine s_ ?_;simp)
 refine Qw 9 70 1 rfl ?_;simp;refine Jc 1 rfl ?_;simp;have hst:=Rows.start0 N 1 [.mp [],AObj.va 70 1 []] rfl (λj=>if j=0 then(0,1)else(0,0)) rfl;refine lpW (F:=λ(u:Nat×Nat×(Nat->Nat)×(Nat->Nat->Nat)×(Nat->Nat×Nat)×List AObj)=>⟨[(0,.i N),(1,LP l),(9,.sl u.2.1 1 0 (Uy N l (Ax l u.1)).length),(10,.mref 0),(42,.i N),(43,.i u.1)],u.2.2.2.2.2⟩)
  (λu=>u.1<=N/\Rows [] N u.2.1 (prG (Uy N l (Ax l u.1))) u.2.2.1 u.2.2.2.1 u.2.2.2.2.1 u.2.2.2.2.2/\u.2.2.2.2.2[0]?=some (mpT (ksG (Uy N l (Ax l u.1))))/\u.2.2.2.2.1 0=(0,1)) (λu=>N - u.1) ?_ (0,1,λ_=>0,λ_ _=>0,λj=>if j=0 then(0,1)else(0,0),[.mp [],AObj.va 70 1 []]) ⟨by simp,by rw[Gc,Km];exact hst,by rw[Gc,Km,ksG,Rs];rfl,rfl⟩ (by simp[Gc,Km])
 rintro⟨i,o,Q,L,tag,G⟩ ⟨hi,hR,za,zb⟩ ih;simp only at hi hR za zb ih |-;repeat(refine s_ ?_;simp)
 refine Qa rfl (λyg=>?_) (λyh=>?_)
 ·have z1:i<N:=by simpa using yg
  have hw:=wz i (by omega);repeat(refine s_ ?_;simp)
  refine pcL (u2g N l i z1 (by omega) zp hn) ?_;simp;repeat(refine s_ ?_;simp)
  have zg:=w0w zp hn i;have zt:0<(Wm l i).length:=by have h1:=(Yu zp i).2.1;exact List.length_pos_of_mem h1
  refine lpW (F:=λ(u:Nat×Nat×(Nat->Nat)×(Nat->Nat->Nat)×(Nat->Nat×Nat)×List AObj)=>⟨[(0,.i N),(1,LP l),(9,.sl u.2.1 1 0 (Uy N l (P2 l i u.1)).length),(10,.mref 0),(11,.i i),(12,LI (Wm l i)),(13,.i u.1),(42,.i N),(43,.i i)],u.2.2.2.2.2⟩)
   (λu=>u.1<(Wm l i).length/\Rows [] N u.2.1 (prG (Uy N l (P2 l i u.1))) u.2.2.1 u.2.2.2.1 u.2.2.2.2.1 u.2.2.2.2.2/\u.2.2.2.2.2[0]?=some (mpT (ksG (Uy N l (P2 l i u.1))))/\u.2.2.2.2.1 0=(0,1)) (λu=>(Wm l i).length - u.1) ?_ (0,o,Q,L,tag,G) ⟨zt,by rw[F7];exact hR,by rw[F7];exact za,zb⟩ (by simp[F7])
  clear hR za zb;clear o Q L tag G;rintro⟨k,o,Q,L,tag,G⟩ ⟨hk,hR,za,zb⟩ ih2;simp only at hk hR za zb ih2 |-;have y2:=wz k (by omega);repeat(refine s_ ?_;simp[y2])
  refine Qa rfl (λyi=>?_) (λyj=>?_)
  ·have z8:k+1<(Wm l i).length:=by simp at yi;omega
   have zu:k<(Wm l i).length:=hk;have y3:=k0l l i k z8;have y4:=Ms N l (P2 l i k);have y5:=q10 (k:=k) zp hn (by omega:i<16);have yz:=λx=>Ca N l (P2 l i k) x;have zh:=λo' Q' L' yk G'=>ih2 (k+1,o',Q',L',yk,G');simp only[y3,yz]at zh;clear y3 yz;have xa:∀z∈Wm l i,-1099511627776<=z/\z<=1099511627777:=d1h zp i;have xo:=xa _ (zL z8);generalize Uy N l (P2 l i k)=st at *
   repeat(refine s_ ?_;simp[zu])
   refine pcL (Mr N l i (Wm l i)[k] z1 (by omega) zp hn) ?_;simp;repeat(refine s_ ?_;simp)
   have xp:(Oz l i (Wm l i)[k]).length=l.length:=by rw[k1z]
   have x0:IntKind.i64.wrap ((Wm l i)[k+1] - 1)=(Wm l i)[k+1] - 1:=wrap_i64 _ (by omega) (by omega);generalize xq:Oz l i (Wm l i)[k]=sg at *
   have x1:∀m∈ksG st,m.length<=1000000:=λm hm=>by obtain⟨g,hg,rfl⟩:=zO.1 hm;rw[V5,y4.kl g hg];omega
   refine Jy (n:=sgB sg) rfl rfl rfl rfl rfl za x1 (by rw[V5];omega) (λc hc=>?_) (λx2=>?_)
   ·obtain⟨p,hp⟩:∃p,st[c]?=some (sg,p):=by rw[ksG,zU]at hc;obtain⟨g,hg,he⟩:=zQ.1 hc;have:=c0a he;exact⟨g.2,by rw[hg,<-this]⟩
    simp;repeat(refine s_ ?_;simp)
    refine Qk rfl ?_;simp;repeat(refine s_ ?_;simp)
    have xb:=q09 (T:=N) (i:=i) (x:=⟨(Wm l i)[k],(Wm l i)[k+1] - 1⟩) y4.nd hp;rw[xb]at zh;have zg:=Y6 hp;have y5:p.length=N:=y4.len _ (zJ hp);have yl:∀s∈p,s.length<=2097168:=λs hs=>by have:=y4.sz _ (zJ hp) s hs;omega
    have zm:(prG st)[c]?=some p:=by rw[prG,zU,hp];rfl
    have zi:prG (st.set c (sg,Ob p i ⟨(Wm l i)[k],(Wm l i)[k+1] - 1⟩))=(prG st).set c (Ob p i ⟨(Wm l i)[k],(Wm l i)[k+1] - 1⟩):=by rw[prG,tj];rfl
    have zj:ksG (st.set c (sg,Ob p i ⟨(Wm l i)[k],(Wm l i)[k+1] - 1⟩))=ksG st:=by
     rw[ksG,tj];refine xL λj=>?_;by_cases e:c=j
     ·subst e;rw[zK (by simpa using zg)];exact hc.symm
     rw[zE e];rfl
    have zc:(st.set c (sg,Ob p i ⟨(Wm l i)[k],(Wm l i)[k+1] - 1⟩)).length=st.length:=by simp
    generalize st.set c (sg,Ob p i ⟨(Wm l i)[k],(Wm l i)[k+1] - 1⟩)=st' at *;refine kpA [(0,.i N),(1,LP l),(9,.sl o 1 0 st.length),(10,.mref 0),(11,.i i),(12,LI (Wm l i)),(13,.i k),(15,.i c),(42,.i N),(43,.i i)] ?_
    have z6:(prG st).length=st.length:=by simp[prG]
    generalize st.length=n at *;generalize ksG st=ks at *;generalize prG st=pr at *
    have z7:=hR.row c p zm;have zd:=hR.out;rw[z6]at zd;have zv:c<pr.length:=by omega
    have zw:=Qe za;have xc:=Qe z7;have zx:=Qe zd;have zn:=hR.tQ c zv;have zk:=hR.to;have ym:Q c≠o:=λe=>by rw[<-e,zn]at zk;simp at zk
    have y6:Q c≠0:=λe=>by rw[e,zb]at zn;simp at zn
    have yn:o≠0:=λe=>by rw[e,zb]at zk;simp at zk
    have y7:=λhn=>hR.leaf c p i zm z1 hn;have y8:=λhn=>hR.tL c p i zm z1 hn;have zo:=Al (L c) N p;have zf:=Dh (L c) p z1;have zl:=u0n Q N zg;have zy:=Cg Q N n;have y9:i<p.length:=by omega
    have yo:(p.getD i []).length<=2097168:=by rw[Ef y9];exact yl _ (zL y9)
    obtain⟨s,hs⟩:∃s,p.getD i []=s:=⟨_,rfl⟩
    rw[hs]at zf yo y7 y8;obtain⟨row,ya⟩:∃row,d06 (L c) N p=row:=⟨_,rfl⟩
    rw[ya]at z7 zo zf;refine w05 (λE1=>∃z,E1[Q c]?=some (.va 145 1 (row.set i (.sl z 2 0 s.length)))/\E1[z]?=some (.arr 144 2 (s.map encIv))/\(∀j,j<G.length->j≠Q c->E1[j]? =G[j]?)/\G.length<=E1.length/\(tag z=(c+1,i+1)\/G.length<=z)) (λhm=>?_) ?_
    ·by_cases hs0:s=[]
     ·rw[Hf,if_pos hs0]at zf;refine Dp (Q c) i 144 2 z7 zf ?_;refine hm _ ⟨G.length,by rw[hs0];exact Qf (Qb z7 _) _,?_,λj hj zt=>?_,by simp,.inr (zS _)⟩
      ·rw[zE (by omega),hs0];simp
      rw[zE (Ne.symm zt),zH hj]
     rw[Hf,if_neg hs0]at zf;have zz:row.set i (.sl (L c i) 2 0 s.length)=row:=v0x zf;exact hm G ⟨L c i,by rw[zz];exact z7,y7 hs0,λ_ _ _=>rfl,zS _,.inl (y8 hs0)⟩
    rintro E1 ⟨z,f1,f2,f3,f4,f5⟩;have yp:z≠Q c:=λe=>by
     rcases f5 with h|h
     ·rw[e,zn]at h;simp at h
     omega
    have yq:z≠o:=λe=>by
     rcases f5 with h|h
     ·rw[e,zk]at h;simp at h
     omega
    have yr:z≠0:=λe=>by
     rcases f5 with h|h
     ·rw[e,zb]at h;simp at h
     omega
    have g1:=(f3 o zx (Ne.symm ym)).trans zd;have g0:=(f3 0 zw (Ne.symm y6)).trans za;have ze:∀hh,(Nl Q N n)[c]'hh= .agg [.sl (Q c) 1 0 N]:=λhh=>by rw[zI hh]at zl;exact Option.some.inj zl
    have yt:∀hh,(row.set i (.sl z 2 0 s.length))[i]'hh= .sl z 2 0 s.length:=λhh=>by simp
    have d1:∀M,(E1.set z .dead++M)[Q c]?=some (.va 145 1 (row.set i (.sl z 2 0 s.length))):=λM=>Qb (Qc yp f1 _) M;have y0:∀M,M=(E1.set z .dead++[AObj.arr 144 2 [encIv ⟨(Wm l i)[k],(Wm l i)[k+1] - 1⟩],.arr 144 2 (s.map encIv++[encIv ⟨(Wm l i)[k],(Wm l i)[k+1] - 1⟩])]).set (Q c) (.va 145 1 (row.set i (.sl (E1.length+1) 2 0 (s.length+1))))->
      Rows [] N o (prG st') Q (λc' k'=>if c'=c/\k'=i then E1.length+1 else L c' k') (λj=>if j=E1.length+1 then(c+1,i+1)else tag j) M/\M[0]?=some (mpT (ksG st'))/\(if 0=E1.length+1 then(c+1,i+1)else tag 0)=(0,1):=λM hM=>by
     rw[zi,zj];have xd:=Qe g0;have xe:=Qe f1;refine⟨hR.put zm y5 z1 (by omega) ?_ ?_ (λj hj h1 h2=>?_),?_,by rw[if_neg (by omega)];exact zb⟩
     ·rw[hM,ya,hs];exact zK (by simp;omega)
     ·rw[hM,hs,zE (by omega),zF (by simp)];simp
     ·have yu:z≠j:=λe=>by
       rcases f5 with h|h
       ·rw[e]at h;exact h2 h
       omega
      rw[hM,zE (Ne.symm h1),zH (by simp;omega),zE yu];exact f3 j hj h1
     rw[hM,zE y6,zH (by simp;omega),zE yr];exact g0
    have yv:(0:Int)<=(k:Int)+1:=by omega
    have yw:(k:Int)+1<(Wm l i).length:=by omega
    have dI:∀M,(E1++M)[z]?=some (.arr 144 2 (s.map encIv)):=λM=>Qb f2 M;have d2:∀M,(E1++M)[Q c]?=some (.va 145 1 (row.set i (.sl z 2 0 s.length))):=λM=>Qb f1 M;have yb:∀M hh,(E1.set z .dead++M)[Q c]'hh= .va 145 1 (row.set i (.sl z 2 0 s.length)):=λM hh=>by have:=d1 M;rw[zI hh]at this;exact Option.some.inj this
    have d3:∀M,(E1.set z .dead++M)[o]?=some (.va 70 1 (Nl Q N n)):=λM=>Qb (Qc yq g1 _) M;have d4:∀M,(E1++M)[o]?=some (.va 70 1 (Nl Q N n)):=λM=>Qb g1 M;refine drT [26,28] (.pv 0 4 (.pv 5 20 (.two 4 (.one 25 (.one 26 (.val 27 (.one 28 (.done))))) 25 (.two 4 (.one 26 (.val 27 (.one 28 (.done)))) 26 (.val 4 (.val 27 (.one 28 (.done)))))))) ?_;simp[g1,zl,ze,zy,zg,f1,yt,zo,z1,zu,z8,y2,x0,yv,yw,d4];refine⟨?_,?_⟩;all_goals
     refine apS P6 L1 ?_;simp[dI,Qg f2,d1,yb,d2,d3,d4,z1,zo,zl,ze,zy,zg];refine⟨by simp[Wo,dI,Qg f2,d1,yb,d2,d3,d4,z1,zo,zl,ze,zy,zg]<;>omega,?_⟩;repeat(refine s_ ?_;simp[y2])
     refine lkA [(0,.i N),(1,LP l),(9,.sl o 1 0 n),(10,.mref 0),(11,.i i),(12,LI (Wm l i)),(13,.i (k+1:Nat)),(42,.i N),(43,.i i)] ?_;obtain⟨q1,q2,q3⟩:=y0 _ rfl;rw[<-zc];have:=zh o Q _ _ _ ⟨z8,q1,q2,q3⟩ (by omega);simpa[zc]using this
   simp;repeat(refine s_ ?_;simp)
   refine Qk rfl ?_;simp;repeat(refine s_ ?_;simp)
   have xf:(ksG st).length=st.length:=by simp[ksG]
   have z6:(prG st).length=st.length:=by simp[prG]
   refine Zu (n:=sgB sg) rfl rfl rfl rfl rfl (ks:=ksG st) (by rw[xf];rfl) za x1 (by rw[V5];omega) x2 ?_;simp;repeat(refine s_ ?_;simp)
   refine Ez tOk rfl rfl rfl T68 rfl P6 rfl rfl rfl (n:=N) (by simp;omega) (by unfold maxLen;omega) .nils rfl ?_;simp;have x3:(0:Nat)≠o:=λe=>by subst e;rw[hR.out]at za;rw[Rs]at za;simp at za
   have yx:=Qc x3 hR.out (mpT (ksG st++[sgB sg]));have xg:=Qf za (mpT (ksG st++[sgB sg]));have xh:∀j,j≠0->(G.set 0 (mpT (ksG st++[sgB sg])))[j]? =G[j]? :=λj hj=>zE (Ne.symm hj);have xi:(G.set 0 (mpT (ksG st++[sgB sg]))).length=G.length:=by simp
   have yc:=Cg Q N st.length;rw[<-xi];generalize G.set 0 (mpT (ksG st++[sgB sg]))=G1 at *
   have hle:=y4.le;refine Zj tOk rfl rfl T87 rfl T70 rfl (by decide) (by decide) rfl rfl rfl ?_;simp[Ac,V8,Qb yx,yc,z6];refine⟨by simp[Wo,yc,z6]<;>omega,?_⟩;repeat(refine s_ ?_;simp)
   refine Jc (e:=145) (c:=1) (xs:=yF N .nils) G1.length (by rw[zH (by simp),zE (by have:=Qe yx;omega)];simp) ?_;have xj:=Qe yx;have zt:∀g∈st,g.1≠sg:=λg hg e=>x2 (zO.2 ⟨g,hg,by rw[e]⟩);rw[Ar zt]at zh;have x4:Rows [] N o (prG st) Q L tag G1:=hR.other (λj hj ht=>xh j (λe=>by subst e;exact ht zb)) (by omega);refine Q3 λZ hZ=>?_;have y1:=x4.new (H':=Z) (q:=G1.length) (o':=G1.length+2) (zS _) (by omega) (by omega) (by rw[hZ];exact zK (by simp;omega)) (by rw[hZ,z6,zE (by omega),zF (by simp)];simp) (λj hj xk=>by rw[hZ,zE (by omega),zH (by simp;omega),zE (Ne.symm xk),zH hj]);have x5:Z[0]?=some (mpT (ksG st++[sgB sg])):=by rw[hZ,zE (by omega),zH (by simp),zE (Ne.symm x3),zH (by omega)];exact xg
   clear hZ;have x6:(λj=>if j=G1.length then(st.length+1,0)else if j=G1.length+2 then(0,0)else tag j) 0=((0,1):Nat×Nat):=by
    show(if 0=G1.length then(st.length+1,0)else if 0=G1.length+2 then(0,0)else tag 0)=((0,1):Nat×Nat)
    rw[if_neg (by omega),if_neg (by omega)];exact zb
   rw[z6]at y1;clear hR za zb x4;have zg:st.length<st.length+1:=by omega
   have zm:(prG st++[yF N []])[st.length]?=some (yF N ([]:List Iv)):=by rw[<-z6];simp
   have zq:(prG st++[yF N []]).length=st.length+1:=by simp[z6]
   have yd:(yF N ([]:List Iv)).length=N:=by simp
   have yl:∀s∈yF N ([]:List Iv),s.length<=2097168:=λs hs=>by rw[(uF.1 hs).2];simp
   have zi:prG (st++[(sg,Ob (yF N []) i ⟨(Wm l i)[k],(Wm l i)[k+1] - 1⟩)])=(prG st++[yF N []]).set st.length (Ob (yF N []) i ⟨(Wm l i)[k],(Wm l i)[k+1] - 1⟩):=by rw[vX _ _ (by omega),z6,Nat.sub_self,prG,yR];rfl
   have zj:ksG (st++[(sg,Ob (yF N []) i ⟨(Wm l i)[k],(Wm l i)[k+1] - 1⟩)])=ksG st++[sgB sg]:=by simp[ksG]
   have zc:(st++[(sg,Ob (yF N []) i ⟨(Wm l i)[k],(Wm l i)[k+1] - 1⟩)]).length=st.length+1:=by simp
   generalize st++[(sg,Ob (yF N []) i ⟨(Wm l i)[k],(Wm l i)[k+1] - 1⟩)]=st' at *;refine kpA [(0,.i N),(1,LP l),(9,.sl (G1.length+2) 1 0 (st.length+1)),(10,.mref 0),(11,.i i),(12,LI (Wm l i)),(13,.i k),(15,.i st.length),(42,.i N),(43,.i i)] ?_;generalize prG st++[yF N []]=pr at *;generalize yF N ([]:List Iv)=p at *;generalize ksG st++[sgB sg]=ks at *;generalize (λc=>if c=st.length then G1.length else Q c)=Q at *
   generalize (λj=>if j=G1.length then(st.length+1,0)else if j=G1.length+2 then(0,0)else tag j)=tag at *
   generalize st.length+1=n at *;generalize st.length=c at *;generalize G1.length+2=o at *
   have hR:=y1;have za:=x5;have z6:=zq;have y5:=yd;have zb:=x6;clear y1 x5 zq yd x6;generalize xr:Z=G at *
   have z7:=hR.row c p zm;have zd:=hR.out;rw[z6]at zd;have zv:c<pr.length:=by omega
   have zw:=Qe za;have xc:=Qe z7;have zx:=Qe zd;have zn:=hR.tQ c zv;have zk:=hR.to;have ym:Q c≠o:=λe=>by rw[<-e,zn]at zk;simp at zk
   have y6:Q c≠0:=λe=>by rw[e,zb]at zn;simp at zn
   have yn:o≠0:=λe=>by rw[e,zb]at zk;simp at zk
   have y7:=λhn=>hR.leaf c p i zm z1 hn;have y8:=λhn=>hR.tL c p i zm z1 hn;have zo:=Al (L c) N p;have zf:=Dh (L c) p z1;have zl:=u0n Q N zg;have zy:=Cg Q N n;have y9:i<p.length:=by omega
   have yo:(p.getD i []).length<=2097168:=by rw[Ef y9];exact yl _ (zL y9)
   obtain⟨s,hs⟩:∃s,p.getD i []=s:=⟨_,rfl⟩
   rw[hs]at zf yo y7 y8;obtain⟨row,ya⟩:∃row,d06 (L c) N p=row:=⟨_,rfl⟩
   rw[ya]at z7 zo zf;refine w05 (λE1=>∃z,E1[Q c]?=some (.va 145 1 (row.set i (.sl z 2 0 s.length)))/\E1[z]?=some (.arr 144 2 (s.map encIv))/\(∀j,j<G.length->j≠Q c->E1[j]? =G[j]?)/\G.length<=E1.length/\(tag z=(c+1,i+1)\/G.length<=z)) (λhm=>?_) ?_
   ·by_cases hs0:s=[]
    ·rw[Hf,if_pos hs0]at zf;refine Dp (Q c) i 144 2 z7 zf ?_;refine hm _ ⟨G.length,by rw[hs0];exact Qf (Qb z7 _) _,?_,λj hj zt=>?_,by simp,.inr (zS _)⟩
     ·rw[zE (by omega),hs0];simp
     rw[zE (Ne.symm zt),zH hj]
    rw[Hf,if_neg hs0]at zf;have zz:row.set i (.sl (L c i) 2 0 s.length)=row:=v0x zf;exact hm G ⟨L c i,by rw[zz];exact z7,y7 hs0,λ_ _ _=>rfl,zS _,.inl (y8 hs0)⟩
   rintro E1 ⟨z,f1,f2,f3,f4,f5⟩;have yp:z≠Q c:=λe=>by
    rcases f5 with h|h
    ·rw[e,zn]at h;simp at h
    omega
   have yq:z≠o:=λe=>by
    rcases f5 with h|h
    ·rw[e,zk]at h;simp at h
    omega
   have yr:z≠0:=λe=>by
    rcases f5 with h|h
    ·rw[e,zb]at h;simp at h
    omega
   have g1:=(f3 o zx (Ne.symm ym)).trans zd;have g0:=(f3 0 zw (Ne.symm y6)).trans za;have ze:∀hh,(Nl Q N n)[c]'hh= .agg [.sl (Q c) 1 0 N]:=λhh=>by rw[zI hh]at zl;exact Option.some.inj zl
   have yt:∀hh,(row.set i (.sl z 2 0 s.length))[i]'hh= .sl z 2 0 s.length:=λhh=>by simp
   have d1:∀M,(E1.set z .dead++M)[Q c]?=some (.va 145 1 (row.set i (.sl z 2 0 s.length))):=λM=>Qb (Qc yp f1 _) M;have y0:∀M,M=(E1.set z .dead++[AObj.arr 144 2 [encIv ⟨(Wm l i)[k],(Wm l i)[k+1] - 1⟩],.arr 144 2 (s.map encIv++[encIv ⟨(Wm l i)[k],(Wm l i)[k+1] - 1⟩])]).set (Q c) (.va 145 1 (row.set i (.sl (E1.length+1) 2 0 (s.length+1))))->
     Rows [] N o (prG st') Q (λc' k'=>if c'=c/\k'=i then E1.length+1 else L c' k') (λj=>if j=E1.length+1 then(c+1,i+1)else tag j) M/\M[0]?=some (mpT (ksG st'))/\(if 0=E1.length+1 then(c+1,i+1)else tag 0)=(0,1):=λM hM=>by
    rw[zi,zj];have xd:=Qe g0;have xe:=Qe f1;refine⟨hR.put zm y5 z1 (by omega) ?_ ?_ (λj hj h1 h2=>?_),?_,by rw[if_neg (by omega)];exact zb⟩
    ·rw[hM,ya,hs];exact zK (by simp;omega)
    ·rw[hM,hs,zE (by omega),zF (by simp)];simp
    ·have yu:z≠j:=λe=>by
      rcases f5 with h|h
      ·rw[e]at h;exact h2 h
      omega
     rw[hM,zE (Ne.symm h1),zH (by simp;omega),zE yu];exact f3 j hj h1
    rw[hM,zE y6,zH (by simp;omega),zE yr];exact g0
   have yv:(0:Int)<=(k:Int)+1:=by omega
   have yw:(k:Int)+1<(Wm l i).length:=by omega
   have dI:∀M,(E1++M)[z]?=some (.arr 144 2 (s.map encIv)):=λM=>Qb f2 M;have d2:∀M,(E1++M)[Q c]?=some (.va 145 1 (row.set i (.sl z 2 0 s.length))):=λM=>Qb f1 M;have yb:∀M hh,(E1.set z .dead++M)[Q c]'hh= .va 145 1 (row.set i (.sl z 2 0 s.length)):=λM hh=>by have:=d1 M;rw[zI hh]at this;exact Option.some.inj this
   have d3:∀M,(E1.set z .dead++M)[o]?=some (.va 70 1 (Nl Q N n)):=λM=>Qb (Qc yq g1 _) M;have d4:∀M,(E1++M)[o]?=some (.va 70 1 (Nl Q N n)):=λM=>Qb g1 M;refine drT [26,28] (.pv 0 4 (.pv 5 20 (.two 4 (.one 25 (.one 26 (.val 27 (.one 28 (.done))))) 25 (.two 4 (.one 26 (.val 27 (.one 28 (.done)))) 26 (.val 4 (.val 27 (.one 28 (.done)))))))) ?_;simp[g1,zl,ze,zy,zg,f1,yt,zo,z1,zu,z8,y2,x0,yv,yw,d4];refine⟨?_,?_⟩;all_goals
    refine apS P6 L1 ?_;simp[dI,Qg f2,d1,yb,d2,d3,d4,z1,zo,zl,ze,zy,zg];refine⟨by simp[Wo,dI,Qg f2,d1,yb,d2,d3,d4,z1,zo,zl,ze,zy,zg]<;>omega,?_⟩;repeat(refine s_ ?_;simp[y2])
    refine lkA [(0,.i N),(1,LP l),(9,.sl o 1 0 n),(10,.mref 0),(11,.i i),(12,LI (Wm l i)),(13,.i (k+1:Nat)),(42,.i N),(43,.i i)] ?_;obtain⟨q1,q2,q3⟩:=y0 _ rfl;rw[<-zc];have:=zh o Q _ _ _ ⟨z8,q1,q2,q3⟩ (by omega);simpa[zc]using this
  have ye:k=(Ua (Wm l i)).length:=by rw[Ht];simp at yj;omega
  subst ye;rw[y1b]at hR za |-;repeat(refine s_ ?_;simp[hw])
  exact lkB (ih (i+1,o,Q,L,tag,G) ⟨by omega,hR,za,zb⟩ (by omega))
 have zr:i=N:=by simp at yh;omega
 subst zr;have x7:Uy i l (Ax l i)=A7 i l:=x20 i l;rw[x7]at hR |-;have x8:=x1e zp;have yy:=Ms i l (Ax l i);rw[x7]at yy;have y5:=Kb zp hn i;have xl:Ro i l=(prG (A7 i l)).map Rz:=by rw[Ro,prG,vE];rfl
 rw[xl]at hm;have z6:(prG (A7 i l)).length=(A7 i l).length:=by simp[prG]
 repeat(refine s_ ?_;simp)
 have x9:=u2s i o (prG (A7 i l)) Q L tag G hR (by omega) (λp hp=>by
  obtain⟨g,hg,rfl⟩:=zO.1 hp;exact⟨yy.len g hg,λs hs=>⟨(x8.iv hg hs).1,by have:=yy.sz g hg s hs;omega,(x8.iv hg hs).2⟩⟩)
 rw[z6]at x9;refine Qm rfl rfl x9 rfl ?_;rintro r H' (⟨rfl,hb⟩|⟨rfl,hb⟩)
 ·rw[if_pos hb]at hm;rw[hm];simp;repeat(refine s_ ?_;simp)
 rw[if_neg (by simp[hb])]at hm;rw[hm];simp;repeat(refine s_ ?_;simp)
end
section
open Go.Maps
end
end Go.Abs
namespace Go.Proofs
open Go.Shelf
def Tryz.laysM176_ren:Go.Shelf.Ren:=⟨λ|176=>173|249=>224|288=>262|283=>302|284=>303|285=>304|286=>305|129=>245|317=>318|318=>319|319=>320|320=>321|337=>325|338=>326|n=>n,λ|37=>230|2=>2|3=>3|53=>258|4=>4|9=>9|171=>338|0=>0|173=>340|212=>355|51=>255|5=>5|20=>20|213=>356|46=>189|232=>360|233=>361|n=>n,λ|17=>0|18=>1|19=>2|n=>n⟩
def Tryz.laysM176:Go.Proofs.LaysM.n176 prog Tryz.laysM176_ren:={
 mixed:=by kernel_rfl
 f129:=func245.trans (congrArg some (by kernel_rfl))
 f176:=func173.trans (congrArg some (by kernel_rfl))
 f249:=func224.trans (congrArg some (by kernel_rfl))
 f283:=func302.trans (congrArg some (by kernel_rfl))
 f284:=func303.trans (congrArg some (by kernel_rfl))
 f285:=func304.trans (congrArg some (by kernel_rfl))
 f286:=func305.trans (congrArg some (by kernel_rfl))
 f288:=func262.trans (congrArg some (by kernel_rfl))
 f317:=func318.trans (congrArg some (by kernel_rfl))
 f318:=func319.trans (congrArg some (by kernel_rfl))
 f319:=func320.trans (congrArg some (by kernel_rfl))
 f320:=func321.trans (congrArg some (by kernel_rfl))
 f337:=func325.trans (congrArg some (by kernel_rfl))
 f338:=func326.trans (congrArg some (by kernel_rfl))
 t0:=underlying0
 a0:=isAgg0
 z0:=sizeOf0
 v0:=zeroValue0
 t2:=underlying2
 a2:=isAgg2
 z2:=sizeOf2
 v2:=zeroValue2
 t3:=underlying3
 a3:=isAgg3
 z3:=sizeOf3
 v3:=zeroValue3
 t4:=underlying4
 a4:=isAgg4
 z4:=sizeOf4
 v4:=zeroValue4
 t5:=underlying5
 a5:=isAgg5
 z5:=sizeOf5
 v5:=zeroValue5
 t9:=underlying9
 a9:=isAgg9
 z9:=sizeOf9
 v9:=zeroValue9
 t20:=underlying20
 a20:=isAgg20
 z20:=sizeOf20
 v20:=zeroValue20
 t37:=underlying230
 a37:=isAgg230
 z37:=sizeOf230
 v37:=zeroValue230
 t46:=underlying189
 a46:=isAgg189
 z46:=sizeOf189
 v46:=zeroValue189
 t51:=underlying255
 a51:=isAgg255
 z51:=sizeOf255
 v51:=zeroValue255
 t53:=underlying258
 a53:=isAgg258
 z53:=sizeOf258
 v53:=zeroValue258
 t171:=underlying338
 a171:=isAgg338
 z171:=sizeOf338
 v171:=zeroValue338
 t173:=underlying340
 a173:=isAgg340
 z173:=sizeOf340
 v173:=zeroValue340
 t212:=underlying355
 a212:=isAgg355
 z212:=sizeOf355
 v212:=zeroValue355
 t213:=underlying356
 a213:=isAgg356
 z213:=sizeOf356
 t232:=underlying360
 a232:=isAgg360
 z232:=sizeOf360
 v232:=zeroValue360
 t233:=underlying361
 a233:=isAgg361
 z233:=sizeOf361
 v233:=zeroValue361
 g17:=by kernel_rfl
 g18:=by kernel_rfl
 g19:=by kernel_rfl
 i0:=by kernel_rfl
 i2:=by kernel_rfl
 i3:=by kernel_rfl
 i4:=by kernel_rfl
 i5:=by kernel_rfl
 i9:=by kernel_rfl
 i20:=by kernel_rfl
 i37:=by kernel_rfl
 i46:=by kernel_rfl
 i51:=by kernel_rfl
 i53:=by kernel_rfl
 i171:=by kernel_rfl
 i173:=by kernel_rfl
 i212:=by kernel_rfl
 i232:=by kernel_rfl
 i233:=by kernel_rfl
 m17:=by kernel_rfl
 m18:=by kernel_rfl
 m19:=by kernel_rfl }
open Go.RowKit Go.Sort Go.Lib in
def Tryz.strconv_AppendInt_10 (B n:Nat) (i:Int) (h0: -9223372036854775808<=i) (h1:i<=9223372036854775807) (sv:Value) (xs:List Value) (w:World) (z1:w.ownsRow B 5 1 sv n xs) (z8:B<=w.heap.size) (z6:n+21<=140737488355328) (z7:Lib.TabBelow prog B w "internal/strconv.uint64pow10" .u64 Lib.pow10Tab):
  Calls prog 173 #[sv,.int .i64 i,.int .i64 10] w λe w'=>∃v',e= .returned v'/\w'.ownsRow B 5 1 v' (n+(Lib.itoa i).length) (xs++Lib.byteCells (Lib.itoa i))/\Below B w w'/\Lib.OthersKept 5 none w w':=Any.strconv_AppendInt_10 Tryz.laysM176 B n i h0 h1 sv xs w z1 z8 z6 z7
section
open Go.RowKit
def Tk(zs:List Int):List UInt8:=zs.flatMap λz=>32::Lib.itoa z
def u1q(zs:List Int){k:Nat}(h:k<zs.length):Tk (zs.take (k+1))=Tk (zs.take k)++32::Lib.itoa (zs.getD k 0):=by
 have:zs.getD k 0=zs[k]:=by simp[yL,h]
 rw[zR h,this,Tk,wV];simp[Tk]
def u0b{zs:List Int}(hz:∀z∈zs,-9223372036854775808<=z/\z<=9223372036854775807):(Tk zs).length<=zs.length * 22:=by
 induction zs with
 |nil=>simp[Tk]
 |cons z r ih=>
  have h1:=Lib.itoa_length_le z (hz z (by simp)).1 (hz z (by simp)).2;have h2:=ih (λy hy=>hz y (by simp[hy]));have e:Tk (z::r)=32::(Lib.itoa z++Tk r):=by simp[Tk]
  rw[e,yZ,zW,yZ];omega
def q1y:(prog.info? 5).map (λi=>(i.zero,i.size,i.bytes))=some (some (.int .u8 0),1,1):=by kernel_rfl
def q2g (ad:Addr) (cap:Nat) (zs:List Int) (w:World) (hb:ad.block<w.heap.size) (hz:∀z∈zs,-9223372036854775808<=z/\z<=9223372036854775807) (hl:zs.length<=1000) (zl:0<zs.length)
  (hc:∀j,j<zs.length->w.cell? (ad.add j)=some (.int .i64 (zs.getD j 0))) (zf:Lib.TabIs prog w "internal/strconv.uint64pow10" .u64 Lib.pow10Tab):
  Calls prog 109 #[.slice (some ad) zs.length cap] w λe w'=>e= .returned (.string ⟨(Tk zs).toArray⟩)/\Below w.heap.size w w':=by
 obtain⟨i0,hi,zm,zn,zo⟩:=info_parts q1y;have hT:=Lib.tabBelow_of_tabIs zf;have zg:∀k,(Tk (zs.take k)).length<=22000:=λk=>by
  have:=u0b (zs:=zs.take k) (λz zp=>hz z (xY zp));rw[xR]at this;have:min k zs.length<=1000:=by omega
  omega
 go_enter func109,ntmps109
 go_wp2
 go_loopw [3,8] (λv i wr=>∃k:Nat,k<=zs.length/\i= .int .i64 k/\wr.ownsRow w.heap.size 5 1 v (Tk (zs.take k)).length (Lib.byteCells (Tk (zs.take k)))/\Below w.heap.size w wr)
  (λ_ i _=>zs.length - (intOf i).toNat)
 case atStart=>exact⟨0,Nat.zero_le _,rfl,World.ownsRow_nil _ _ _ _,Below.refl _ _⟩
 case round=>
  obtain⟨k,hk,rfl,z1,zb⟩:=hrel;have zq:k<zs.length->wr.cell? (ad.add k)=some (.int .i64 (zs.getD k 0)):=λh=>(zb.cell (by unfold Addr.add;split<;>exact hb)).trans (hc k h)
  go_wp2_with (first
   |(at_builtin;refine wpList_append_own _ rfl _ _ 230 rfl w.heap.size 5 i0 (.int .u8 0) 1 1 underlying230 hi zm zn zo rfl (by decide) _ _ _ rfl (z1.alloc _) ⟨wr.heap.size,0,none⟩ 1 1 [.int .u8 32] rfl rfl ?c1 ?c2 ?c3 ?c4 ?c5 ?_)
   |go_in)
  case c1=>
   intro j u hj
   match j,hj with
   |0,hj=>simp at hj;subst hj;simp[Addr.add]
  case c2=>intro u hu;simp at hu;subst hu;rfl
  case c3=>have:=zg k;unfold maxLen;omega
  case c4=>have:=zg k;omega
  case c5=>have:=zb.size;simp;omega
  ·intro v' w1 z8 za _;have zc:k<zs.length:=by assumption
   have z7:Below w.heap.size w w1:=(zb.alloc (by have:=zb.size;omega) _).grown za (by have:=zb.size;simp;omega) (λk hk=>(z1.lt k hk).1);have zk:=hz _ (zL zc);have zr:zs.getD k 0=zs[k]:=by simp[yL,zc]
   have ze:=u1q zs zc;rw[zr]at ze
   go_wp2_with (go_at_call 173;refine(Tryz.strconv_AppendInt_10 w.heap.size _ zs[k] zk.1 zk.2 v' _ w1 z8 (by have:=z7.size;omega) (by have:=zg k;omega) (hT.on z7)).mono ?_;rintro e w3 ⟨v3,rfl,z6,zh,-⟩;refine Hid.out ?_)
   have zd:w3.ownsRow w.heap.size 5 1 v3 (Tk (zs.take (k+1))).length (Lib.byteCells (Tk (zs.take (k+1)))):=by
    have e1:Lib.byteCells (Tk (zs.take k))++[Value.int .u8 32]++Lib.byteCells (Lib.itoa zs[k])=Lib.byteCells (Tk (zs.take (k+1))):=by rw[ze];simp[Lib.byteCells]
    have e2:(Tk (zs.take k)).length+1+(Lib.itoa zs[k]).length=(Tk (zs.take (k+1))).length:=by rw[ze];simp;omega
    rw[e1,e2]at z6;exact z6
   have zi:=z7.trans zh;clear z6 z8 za z1 zb z7 zq ze;refine Lib.hid ?_
   go_wp2
   go_roundw
   case rel=>exact⟨k+1,by omega,by simp,zd,zi⟩
   case measure=>simp[intOf];omega
  have zw:¬k<zs.length:=by assumption
  have zt:k=zs.length:=by omega
  subst zt;rw[zY]at z1;have zj:0<(Tk zs).length:=by
   obtain⟨z,r,rfl⟩:∃z r,zs=z::r:=by cases zs with
    |nil=>simp at zl
    |cons z r=>exact⟨z,r,rfl⟩
   simp[Tk]
  obtain⟨l,zc⟩:∃l,l=Tk zs:=⟨_,rfl⟩
  rw[<-zc]at z1 zj;have HL:=Lib.hid zc;clear zc;rcases z1.2 with⟨-,h0⟩|⟨g,cap2,cur,rfl,-,-,-,-,-,-⟩
  ·omega
  have zu:=run_convert_bytes_back (P:=prog) wr 230 9 5 ⟨g,0,none⟩ cap2 l underlying230 underlying5 underlying9 (λj hj=>z1.cells (g:=g) rfl j _ (by simp[Lib.byteCells,hj]));rw[zu]
  go_wp2
  go_ret
  have zv:=HL.out;subst zv;exact⟨rfl,zb⟩
end
end Go.Proofs
namespace Go.Abs
open Go Go.Proofs Go.RowKit
def v2w(zs:List Int)(hz:∀z∈zs,-9223372036854775808<=z/\z<=9223372036854775807)(hl:zs.length<=1000)(z7:zs≠[]):PC prog 109 [.list (zs.map .i)] (λr=>r= .str (Tk zs)):=by
 refine⟨Ts func109 rfl rfl,λw I vals hE hI hl' hv=>?_⟩;rcases vals with⟨vals⟩
 match vals,hl' with
 |[v],_=>
  have z8:=hv 0 v _ rfl rfl;obtain⟨a,cap,c,u,rfl,hcap,hmax,hc,ha,hu⟩:=z8.list_inv;have z1:0<zs.length:=uI.2 z7;have za:c=1:=by have:=hc (.i zs[0]) (zO.2 ⟨_,zL z1,rfl⟩);simpa[AV.cells]using this.symm
  subst za;obtain⟨ad,rfl,zb,hcell⟩:=ha (by simpa using z1);have zc:∀j,j<zs.length->w.cell? (ad.add j)=some (.int .i64 (zs.getD j 0)):=λj hj=>by have h1:=hcell j 0 (by simpa using hj) (by omega);have h2:=hu j (.i zs[j]) (by simp[hj]) 0 (.i zs[j]) rfl;have h3:=h2.val (u:= .int .i64 zs[j]) rfl;rw[Nat.mul_one,Nat.add_zero,h3]at h1;rw[h1];simp[yL,hj]
  have:=q2g ad cap zs w (hI _ (zb (by omega))) hz hl z1 zc (v1n hE);rw[yE];refine this.mono ?_;rintro e w' ⟨rfl,hb⟩;exact⟨_,I,_,rfl,rfl,hb,λ_ h=>h,λb z6=>⟨Nat.lt_of_lt_of_le (hI b z6) hb.size,.inl z6⟩,.str _⟩
end Go.Abs
namespace Go.Proofs
open Go.Shelf Go.RowKit
def k27(l:List UInt8):Nat:=l.foldl (λv c=>v * 10+(c.toNat - 48)) 0
def y1c(l:List UInt8)(c:UInt8):k27 (l++[c])=k27 l * 10+(c.toNat - 48):=by simp[k27,wJ]
def J4{k:Nat}(h:k<10):(UInt8.ofNat (48+k)).toNat=48+k:=by rw[UInt8.toNat_ofNat'];omega
def H9(u:Nat):k27 (Lib.decDigits u)=u/\∀c∈Lib.decDigits u,c≠32:=by
 induction u using Nat.strongRecOn with
 |_ u ih=>
  rw[Lib.decDigits];by_cases h:u<10
  ·rw[dif_pos h];refine⟨?_,λc hc e=>?_⟩
   ·have:=J4 h;simp only[k27,xV,sk,this];omega
   rw[zP.1 hc]at e;have:=J4 h;rw[e]at this;simp at this;omega
  rw[dif_neg h];obtain⟨h1,h2⟩:=ih (u / 10) (by omega);have hd:=J4 (Nat.mod_lt u (by decide:0<10));refine⟨?_,λc hc e=>?_⟩
  ·rw[y1c,h1,hd];omega
  rcases zV.1 hc with hc|hc
  ·exact h2 c hc e
  rw[zP.1 hc]at e;rw[e]at hd;simp at hd;omega
def w19{z:Int}(h:0<=z):Lib.itoa z=Lib.decDigits z.toNat:=by unfold Lib.itoa;rw[if_neg (by omega)]
def w2p:∀ {a b r s:List UInt8},(∀c∈a,c≠32)->(∀c∈b,c≠32)->(r=[]\/∃t,r=32::t)->(s=[]\/∃t,s=32::t)->a++r=b++s->a=b/\r=s
 |[],[],r,s,_,_,_,_,h=>⟨rfl,h⟩
 |[],y::b,r,s,_,hb,hr,_,h=>by
  rcases hr with rfl|⟨t,rfl⟩
  ·simp at h
  simp at h;exact absurd h.1.symm (hb y (by simp))
 |x::a,[],r,s,ha,_,_,hs,h=>by
  rcases hs with rfl|⟨t,rfl⟩
  ·simp at h
  simp at h;exact absurd h.1 (ha x (by simp))
 |x::a,y::b,r,s,ha,hb,hr,hs,h=>by simp only[uV,List.cons.injEq]at h;obtain⟨h1,h2⟩:=w2p (λc hc=>ha c (by simp[hc])) (λc hc=>hb c (by simp[hc])) hr hs h.2;exact⟨by rw[h.1,h1],h2⟩
def M5(zs:List Int):Tk zs=[]\/∃t,Tk zs=32::t:=by
 cases zs with
 |nil=>exact .inl rfl
 |cons z r=>exact .inr ⟨Lib.itoa z++Tk r,by simp[Tk]⟩
def B3:∀ {a b:List Int},(∀z∈a,0<=z)->(∀z∈b,0<=z)->Tk a=Tk b->a=b
 |[],[],_,_,_=>rfl
 |[],y::b,_,_,h=>by simp[Tk]at h
 |x::a,[],_,_,h=>by simp[Tk]at h
 |x::a,y::b,ha,hb,h=>by
  have e1:∀(z:Int) (r:List Int),Tk (z::r)=32::(Lib.itoa z++Tk r):=λz r=>by simp[Tk]
  rw[e1,e1,List.cons.injEq]at h;have hx:=ha x (by simp);have hy:=hb y (by simp);rw[w19 hx,w19 hy]at h;obtain⟨h1,h2⟩:=w2p (H9 _).2 (H9 _).2 (M5 a) (M5 b) h.2;have h3:=congrArg k27 h1;rw[(H9 _).1,(H9 _).1]at h3;have h4:=B3 (λz hz=>ha z (by simp[hz])) (λz hz=>hb z (by simp[hz])) h2;rw[h4,show x=y by omega]
end Go.Proofs
namespace Go.Abs
open Go Go.Proofs Go.Maps
section
def y06(a:Aut)(s:Int):PC prog 44 [encA a,.i s] (λr=>r= .fn (.func 104) [] [.iptr (Qj a),.iptr [.i s]]):=by refine pcB func44 results44 ntmps44 ?_;simp only[Qd];simp only[encA];repeat(refine s_ ?_;simp)
def u19(T:Int)(hT:1<=T/\T<=16):E9 T (Wt T.toNat)=0:=
 (Eg T _).2 ⟨hT,by simp[Wt],λs hs=>by
  have:s=Rk []:=(uF.1 hs).2;rw[this,show Rk []=[(⟨-1099511627776,1099511627776⟩:Iv)] from rfl];exact⟨by simp,λx hx=>by simp at hx;subst hx;decide,λj h=>by simp at h⟩⟩
def Ge(T:Int)(hT:1<=T/\T<=16)(x:Sy):(Nj (Wt T.toNat) x).2=Zg T x:=by
 rw[z04 (u19 T hT)];by_cases h:Zg T x=0
 ·rw[if_neg (λk=>k h),h]
 rw[if_pos h]
structure Nx (a:Aut) (R:List Int) (x:Sy) (dn:Int->Prop) (nx:List Int):Prop where
 sub:∀z∈nx,z∈Qv a R x
 all:∀i,dn i->∀m∈a.mv,m.src=i->Ry m.on x=true->m.dst∈nx
def k1n(a:Aut)(l:List Int):Is a l []=l:=rfl
def q1p(a:Aut)(l:List Int)(w:List Sy)(x:Sy):Is a l (w++[x])=Qv a (Is a l w) x:=by unfold Is;rw[wJ];rfl
def x0r(a:Aut)(w:List Sy):Eo a w=true↔∃s∈Is a [0] w,a.fin.getD s.toNat false=true:=by unfold Eo;exact C0
def mem_erase{α:Type}{l:List α}{j:Nat}{p q:α}(h:l[j]?=some p)(hq:q∈l)(hn:q∉l.eraseIdx j):q=p:=by
 obtain⟨i,hi,rfl⟩:=yX hq;by_cases e:i=j
 ·subst e;rw[zI hi]at h;exact Option.some.inj h
 exact absurd (List.mem_eraseIdx_iff_getElem?.2 ⟨i,e,zI hi⟩) hn
def Df{α β:Type}(f:α->β)(l:List α)(j:Nat):(l.map f).eraseIdx j=(l.eraseIdx j).map f:=by
 induction l generalizing j with
 |nil=>simp
 |cons x l ih=>cases j<;>simp[ih]
attribute [local irreducible] Nj Zg Eo Wt Is Qv
def Xz(a:Aut)(w:List Sy):PC prog 14 [encA a,LSy w] (λr=>r= .tup [.bool (d07 a w).1,.i (d07 a w).2]):=by
 refine pcB func14 results14 ntmps14 ?_;simp only[Qd];simp only[encA];repeat(refine s_ ?_;simp)
 refine pcL (Tm a) ?_;simp;repeat(refine s_ ?_;simp)
 refine Qa rfl (λh=>?_) (λh=>?_)
 ·repeat(refine s_ ?_;simp)
  have hE:u1y a w=Wu a:=by rw[u1y,if_pos (by simpa using h)]
  rw[d07,hE,if_pos (by simpa using h)];exact⟨rfl,rfl⟩
 have h0:Wu a=0:=by simpa using h
 have zc:=(I8 a).1 h0;repeat(refine s_ ?_;simp)
 refine Qa rfl (λh=>?_) (λh=>?_)
 ·repeat(refine s_ ?_;simp)
  have hE:u1y a w=5:=by rw[u1y,if_neg (λk=>k h0),if_pos (by simp at h;omega)]
  rw[d07,hE];exact⟨rfl,rfl⟩
 have hl:w.length<=4096:=by simp at h;omega
 have hE:u1y a w=w0t a.types w:=by rw[u1y,if_neg (λk=>k h0),if_neg (by omega)]
 repeat(refine s_ ?_;simp)
 refine pcL (x0e a.types zc.types.1 zc.types.2) ?_;simp;repeat(refine s_ ?_;simp)
 refine Qr w.length (λj=>w0t a.types w=w0t a.types (w.drop j)) (λj=>[(1,LSy w),(2,.vptr 0 0),(7,.vptr 1 0),(34,LSy w),(35,.i w.length),(36,.i j)]) (λ_=>[.vars (Qj a),.vars [.list ((Wt a.types.toNat).map encL)]]) rfl (by simp) (by simp) (by simp) (by simp) (by simp) ?_;intro j hj hI ih;repeat(refine s_ ?_;simp)
 refine Qa rfl (λzv=>?_) (λzw=>?_)
 ·have z1:j<w.length:=by simpa using zv
  have hw:=wz j (by omega);rw[Eh z1,w0t]at hI;repeat(refine s_ ?_;simp[z1])
  refine pcL (Yi (Wt a.types.toNat) w[j]) ?_;simp[Ge a.types zc.types];repeat(refine s_ ?_;simp)
  refine Qa rfl (λh3=>?_) (λh3=>?_)
  ·repeat(refine s_ ?_;simp)
   rw[if_pos (by simpa using h3)]at hI;rw[d07,hE,hI,if_pos (by simpa using h3)];exact⟨rfl,rfl⟩
  rw[if_neg (by simpa using h3)]at hI;repeat(refine s_ ?_;simp[hw])
  refine Qt _ (ih z1 hI) rfl (by simp) ?_ (by simp) (by simp);simp
 have zg:j=w.length:=by simp at zw;omega
 subst zg;rw[xX]at hI;have hW:∀x∈w,Q9 a x:=λx hx=>(Je _ _).1 ((Vh w).1 hI x hx);have hR:d07 a w=(Eo a w,0):=by rw[d07,hE,hI];rfl
 rw[hR];repeat(refine s_ ?_;simp)
 refine Ea rfl rfl rfl ?_;simp;refine g0j rfl rfl rfl rfl rfl rfl rfl (by decide) ?_;simp;repeat(refine s_ ?_;simp)
 refine lpV (F:=λ(u:Nat×Nat×List Int×List AObj)=>⟨[(1,LSy w),(2,.vptr 0 0),(13,.mref u.2.1),(52,LSy w),(53,.i w.length),(54,.i u.1)],u.2.2.2⟩)
  (λu=>u.1<=w.length/\u.2.2.2[0]?=some (.vars (Qj a))/\u.2.2.2[u.2.1]?=some (stM u.2.2.1)/\∀z,z∈u.2.2.1↔z∈Is a [0] (w.take u.1)) (λu=>w.length - u.1) ?_ (0,2,[0],_) ⟨by simp,rfl,rfl,by simp[k1n]⟩
 rintro⟨j,q,l,G⟩ ⟨hj,g0,gq,hl⟩ ih;simp only at hj g0 gq hl ih |-;repeat(refine s_ ?_;simp)
 have y9:∀z∈l,0<=z/\z<a.fin.length:=λz hz=>runIn _ _ (y04 zc.wfA) z ((hl z).1 hz);have yn:=zc.fin;refine Qa rfl (λzv=>?_) (λzw=>?_)
 ·have z1:j<w.length:=by simpa using zv
  have hw:=wz j (by omega);have hx:=hW _ (zL z1);have zd:Is a [0] (w.take (j+1))=Qv a (Is a [0] (w.take j)) w[j]:=by rw[zR z1,q1p]
  have ya:=λq' l' G'=>ih (j+1,q',l',G');simp only[zd]at ya;clear zd;generalize Is a [0] (w.take j)=R at *
  repeat(refine s_ ?_;simp[z1])
  generalize w[j]=x at *;refine Ea rfl rfl rfl ?_
  simp;repeat(refine s_ ?_;simp[g0,gq])
  refine Sg tOk rfl rfl rfl T79 rfl rfl (Qb gq _) ?_;simp;repeat(refine s_ ?_;simp)
  have yo:=Qe gq;have yi:=Qe g0;have zx:q≠0:=λe=>by subst e;rw[g0]at gq;unfold stM at gq;simp at gq
  refine Q3 λE hE=>?_;have e0:E[0]?=some (.vars (Qj a)):=by rw[hE];exact Qb (Qc zx (Qb g0 _) _) _
  have ex:E[G.length]?=some (.vars [.i x.ty,.i x.num]):=by rw[hE];exact Qb (Qc (by omega) (by simp) _) _
  have em:E[G.length+1]?=some (stM []):=by rw[hE];exact Qb (Qc (by omega) (by simp[stM]) _) _
  have ec:E[G.length+2]?=some (.vars [.mref (G.length+1)]):=by rw[hE];exact Qb (Qc (by omega) (by simp) _) _
  have ei:E[G.length+3]?=some (.it (l.map λz=>(.i z,.bool true)) none):=by rw[hE];rw[zF (by simp)];simp
  have zq:E.length=G.length+4:=by rw[hE];simp
  clear hE;refine lpV (F:=λ(u:List Int×Option (AV×AV)×List Int×List AObj)=>⟨[(1,LSy w),(2,.vptr 0 0),(15,.vptr G.length 0),(16,.vptr (G.length+2) 0),(52,LSy w),(53,.i w.length),(54,.i j),(60,.vptr (G.length+3) 0)],u.2.2.2⟩)
   (λu=>u.2.2.2[0]?=some (.vars (Qj a))/\u.2.2.2[G.length]?=some (.vars [.i x.ty,.i x.num])/\u.2.2.2[G.length+1]?=some (stM u.2.2.1)/\u.2.2.2[G.length+2]?=some (.vars [.mref (G.length+1)])/\u.2.2.2[G.length+3]?=some (.it (u.1.map λz=>(.i z,.bool true)) u.2.1)/\G.length+4<=u.2.2.2.length/\
    (∀z∈u.1,z∈l)/\Nx a R x (λi=>i∈l/\i∉u.1) u.2.2.1) (λu=>u.1.length) ?_ (l,none,[],E) ⟨e0,ex,em,ec,ei,by simp[zq],λz hz=>hz,⟨λz hz=>by simp at hz,λi hi=>absurd hi.1 hi.2⟩⟩
  clear e0 ex em ec ei zq;clear E;rintro⟨left,cur,nx,E⟩ ⟨e0,ex,em,ec,ei,zq,z6,zd⟩ ih2;simp only at e0 ex em ec ei zq z6 zd ih2 |-;repeat(refine s_ ?_;simp)
  refine Aj rfl rfl rfl rfl ei (λzy=>?_) (λi p hp=>?_)
  ·simp;have zr:left=[]:=by simpa using zy
   subst zr;repeat(refine s_ ?_;simp)
   refine Qk rfl ?_;simp;repeat(refine s_ ?_;simp[ec,hw])
   refine lkA [(1,LSy w),(2,.vptr 0 0),(13,.mref (G.length+1)),(52,LSy w),(53,.i w.length),(54,.i (j+1:Nat))] ?_;refine ya (G.length+1) nx E ⟨by omega,e0,em,λz=>⟨λhz=>zd.sub z hz,λhz=>?_⟩⟩ (by omega);obtain⟨_,m,hm,h1,h2,h3⟩:=Q5.1 hz;rw[<-h3];exact zd.all m.src ⟨(hl _).2 h1,by simp⟩ m hm rfl h2
  simp;rw[zU]at hp;obtain⟨s,hs,rfl⟩:=zQ.1 hp;rw[Df];have zk:s∈l:=z6 s (zJ hs);have zl:=y9 s zk;have z7:∀z∈left.eraseIdx i,z∈l:=λz hz=>z6 z (ta hz);have zz:(left.eraseIdx i).length<left.length:=by rw[uD,if_pos (Y6 hs)];have:=Y6 hs;omega
  have y0:∀z,z∈l/\z∉left.eraseIdx i->(z∈l/\z∉left)\/z=s:=λz hz=>by
   by_cases zm:z∈left
   ·exact .inr (mem_erase hs zm hz.2)
   exact .inl ⟨hz.1,zm⟩
  generalize left.eraseIdx i=left' at *
  have k0:=Qc (j:=G.length+3) (by omega) e0 (.it (left'.map λz=>(.i z,.bool true)) (some (.i s,.bool true)));have kx:=Qc (j:=G.length+3) (by omega) ex (.it (left'.map λz=>(.i z,.bool true)) (some (.i s,.bool true)));have km:=Qc (j:=G.length+3) (by omega) em (.it (left'.map λz=>(.i z,.bool true)) (some (.i s,.bool true)));have kc:=Qc (j:=G.length+3) (by omega) ec (.it (left'.map λz=>(.i z,.bool true)) (some (.i s,.bool true)));have ki:=Qf ei (.it (left'.map λz=>(.i z,.bool true)) (some (.i s,.bool true)));have kl:(E.set (G.length+3) (.it (left'.map λz=>(.i z,.bool true)) (some (.i s,.bool true)))).length=E.length:=by simp
  generalize E.set (G.length+3) (.it (left'.map λz=>(.i z,.bool true)) (some (.i s,.bool true)))=E1 at *
  repeat(refine s_ ?_;simp)
  refine Qk rfl ?_;simp;repeat(refine s_ ?_;simp)
  refine Oc rfl rfl rfl rfl ki ?_;simp;repeat(refine s_ ?_;simp[k0])
  refine pcL (y06 a s) ?_;simp;repeat(refine s_ ?_;simp)
  have yb:∀z∈Qv a R x,0<=z/\z<a.fin.length:=Ur;refine Eb rfl (Rf:=λ_ H'=>∃zt,E1.length<H'.length/\(∃sl' ps' a' b',H'[E1.length]?=some (.lp true none 96 sl' ps' a' b'))/\H'[0]?=some (.vars (Qj a))/\H'[G.length]?=some (.vars [.i x.ty,.i x.num])/\H'[G.length+1]?=some (stM zt)/\H'[G.length+2]?=some (.vars [.mref (G.length+1)])/\H'[G.length+3]?=some (.it (left'.map λz=>(.i z,.bool true)) (some (.i s,.bool true)))/\
   Nx a R x (λi=>i∈l/\i∉left') zt) ?_ ?_
  ·simp;refine A9 λH1 ze=>?_;have f0:H1[0]?=some (.vars (Qj a)):=by rw[ze];exact Qb k0 _
   have fx:H1[G.length]?=some (.vars [.i x.ty,.i x.num]):=by rw[ze];exact Qb kx _
   have fm:H1[G.length+1]?=some (stM nx):=by rw[ze];exact Qb km _
   have fc:H1[G.length+2]?=some (.vars [.mref (G.length+1)]):=by rw[ze];exact Qb kc _
   have fi:H1[G.length+3]?=some (.it (left'.map λz=>(.i z,.bool true)) (some (.i s,.bool true))):=by rw[ze];exact Qb ki _
   have fq:=congrArg (λh:List AObj=>h[E1.length]?) ze;simp at fq;have zr:H1.length=E1.length+1:=by rw[ze];simp
   clear ze;refine fcB func104 results104 ntmps104 ?_;simp only[Qd];repeat(refine s_ ?_;simp)
   obtain⟨LP0,zh,yc⟩:∃X,X=_/\H1[E1.length]?=some X:=⟨_,rfl,fq⟩
   have yj:=Qe ki;refine lpV (F:=λ(u:Nat×List Int×List AObj)=>⟨[(0,.yld E1.length),(1,.iptr (Qj a)),(2,.iptr [.i s]),(7,.list (a.mv.map encMv)),(8,.i a.mv.length),(9,.i u.1)],u.2.2⟩)
    (λu=>u.1<=a.mv.length/\u.2.2[0]?=some (.vars (Qj a))/\u.2.2[G.length]?=some (.vars [.i x.ty,.i x.num])/\u.2.2[G.length+1]?=some (stM u.2.1)/\u.2.2[G.length+2]?=some (.vars [.mref (G.length+1)])/\u.2.2[G.length+3]?=some (.it (left'.map λz=>(.i z,.bool true)) (some (.i s,.bool true)))/\u.2.2[E1.length]?=some LP0/\
     (∀z∈nx,z∈u.2.1)/\(∀z∈u.2.1,z∈Qv a R x)/\(∀m∈a.mv.take u.1,m.src=s->Ry m.on x=true->m.dst∈u.2.1)) (λu=>a.mv.length - u.1) ?_ (0,nx,H1) ⟨by simp,f0,fx,fm,fc,fi,yc,λz hz=>hz,zd.sub,by simp⟩
   clear f0 fx fm fc fi yc fq;rintro⟨k,ny,J⟩ ⟨hk,f0,fx,fm,fc,fi,fq,zu,zf,zn⟩ ih3;simp only at hk f0 fx fm fc fi fq zu zf zn ih3 |-;repeat(refine s_ ?_;simp)
   refine Qa rfl (λy1=>?_) (λy2=>?_)
   ·have z8:k<a.mv.length:=by simpa using y1
    have yd:IntKind.i64.wrap ((k:Int)+1)=k+1:=wrap_i64 _ (by have:=zc.mvs;omega) (by have:=zc.mvs;omega);have ye:∀m∈a.mv.take (k+1),m∈a.mv.take k\/m=a.mv[k]:=λm hm=>by
     rw[zR z8]at hm;rcases zV.1 hm with h|h
     ·exact .inl h
     exact .inr (zP.1 h)
    have yf:=zL z8;have yg:=zc.mv _ yf;repeat(refine s_ ?_;simp[z8])
    generalize a.mv[k]=m at *
    have yk:Nj m.on x=(Ry m.on x,0):=by rw[z04 ((Eg a.types m.on).2 ⟨zc.types,yg.on⟩),if_neg (λk=>k ((Je _ _).2 hx))]
    have j0:=Qb f0 [AObj.vars [.i m.src,.i m.dst,.list (m.on.map encL)]];have jx:=Qb fx [AObj.vars [.i m.src,.i m.dst,.list (m.on.map encL)]];have jm:=Qb fm [AObj.vars [.i m.src,.i m.dst,.list (m.on.map encL)]];have jc:=Qb fc [AObj.vars [.i m.src,.i m.dst,.list (m.on.map encL)]];have ji:=Qb fi [AObj.vars [.i m.src,.i m.dst,.list (m.on.map encL)]];have jq:=Qb fq [AObj.vars [.i m.src,.i m.dst,.list (m.on.map encL)]];have jl:(J++[AObj.vars [.i m.src,.i m.dst,.list (m.on.map encL)]]).length=J.length+1:=by simp
    have yp:E1.length<J.length:=Qe fq;generalize J++[AObj.vars [.i m.src,.i m.dst,.list (m.on.map encL)]]=J1 at *
    have y3:=yg.dst;by_cases hms:m.src=s
    ·have hb:(m.src==s)=true:=by simpa using hms
     obtain⟨zb,zi,yh,yl,ym⟩:∃zb,zb=(if m.dst∈ny then ny else if Ry m.on x then ny++[m.dst]else ny)/\(∀z∈ny,z∈zb)/\(∀z∈zb,z∈Qv a R x)/\(Ry m.on x=true->m.dst∈zb):=by
      refine⟨_,rfl,λz hz=>?_,λz hz=>?_,λh2=>?_⟩
      ·split
       ·exact hz
       split
       ·exact yY _ hz
       exact hz
      ·split at hz
       ·exact zf z hz
       split at hz
       ·rename_i hh;rcases zV.1 hz with hz|hz
        ·exact zf z hz
        rw[zP.1 hz];exact Q5.2 ⟨y3,m,yf,by rw[hms];exact(hl s).1 zk,hh,rfl⟩
       exact zf z hz
      split
      ·assumption
      simp[h2]
     simp only[hb];refine Tb rfl rfl (q:=E1.length) rfl rfl (by rw[<-zh];exact jq) rfl rfl rfl (λjm K2=>jm=none/\K2[0]?=some (.vars (Qj a))/\K2[G.length]?=some (.vars [.i x.ty,.i x.num])/\K2[G.length+1]?=some (stM zb)/\K2[G.length+2]?=some (.vars [.mref (G.length+1)])/\K2[G.length+3]?=some (.it (left'.map λz=>(.i z,.bool true)) (some (.i s,.bool true)))/\E1.length<K2.length) ?_ ?_
     ·simp[Rh];have r0:=Qc (j:=E1.length) (by omega) j0 .dead;have rx:=Qc (j:=E1.length) (by omega) jx .dead;have rm:=Qc (j:=E1.length) (by omega) jm .dead;have rc:=Qc (j:=E1.length) (by omega) jc .dead;have ri:=Qc (j:=E1.length) (by omega) ji .dead;have rd:=Qf jq .dead;have rl:(J1.set E1.length .dead).length=J.length+1:=by simp[jl]
      generalize J1.set E1.length .dead=Y at *
      have q0:=Qb r0 [AObj.vars [.i m.src,.i m.dst,.list (m.on.map encL)]];have qx:=Qb rx [AObj.vars [.i m.src,.i m.dst,.list (m.on.map encL)]];have qm:=Qb rm [AObj.vars [.i m.src,.i m.dst,.list (m.on.map encL)]];have zo:=Qb rc [AObj.vars [.i m.src,.i m.dst,.list (m.on.map encL)]];have qi:=Qb ri [AObj.vars [.i m.src,.i m.dst,.list (m.on.map encL)]];have zj:=Qb rd [AObj.vars [.i m.src,.i m.dst,.list (m.on.map encL)]];have ql:(Y++[AObj.vars [.i m.src,.i m.dst,.list (m.on.map encL)]]).length=J.length+2:=by simp[rl]
      have q5:(Y++[AObj.vars [.i m.src,.i m.dst,.list (m.on.map encL)]])[Y.length]?=some (.vars [.i m.src,.i m.dst,.list (m.on.map encL)]):=by simp
      repeat(refine s_ ?_;simp[zo])
      generalize Y++[AObj.vars [.i m.src,.i m.dst,.list (m.on.map encL)]]=Z at *;refine z0p (z:=m.dst) rfl rfl rfl rfl rfl qm (λz hz=>by have:=yb z (zf z hz);omega) (by omega) ?_
      by_cases hmem:m.dst∈ny
      ·have za:zb=ny:=by rw[zi,if_pos hmem]
       subst za;simp[hmem,q5,qx];refine Wq rfl rfl ?_;simp;repeat(refine s_ ?_;simp)
       refine Qa rfl (λh=>by cases h) (λ_=>?_);repeat(refine s_ ?_;simp)
       exact⟨zj,rfl,q0,qx,qm,zo,qi,Qe zj⟩
      simp[hmem,q5,qx];refine pcL (q0x m.on x) ?_;simp[yk];repeat(refine s_ ?_;simp)
      refine Qa rfl (λhh=>?_) (λhh=>?_)
      ·have za:zb=ny++[m.dst]:=by rw[zi,if_neg hmem,if_pos (by simpa using hh)]
       repeat(refine s_ ?_;simp[zo,q5])
       refine f0z (z:=m.dst) rfl rfl rfl rfl rfl rfl qm (λz hz=>by have:=yb z (zf z hz);omega) (by omega) hmem ?_;simp;repeat(refine s_ ?_;simp)
       rw[<-za];refine⟨Qc (by omega) zj _,rfl,Qc (by omega) q0 _,Qc (by omega) qx _,Qf qm _,Qc (by omega) zo _,Qc (by omega) qi _,by simpa using Qe zj⟩
      have za:zb=ny:=by rw[zi,if_neg hmem,if_neg (by simpa using hh)]
      subst za;repeat(refine s_ ?_;simp)
      exact⟨zj,rfl,q0,qx,qm,zo,qi,Qe zj⟩
     rintro jm K2 ⟨rfl,v0,vx,vm,vc,vi,vl⟩;simp;repeat(refine s_ ?_;simp)
     refine Qa rfl (λh=>by cases h) (λ_=>?_);repeat(refine s_ ?_;simp[yd])
     have u0:=Qc (j:=E1.length) (by omega) v0 LP0;have ux:=Qc (j:=E1.length) (by omega) vx LP0;have um:=Qc (j:=E1.length) (by omega) vm LP0;have uc:=Qc (j:=E1.length) (by omega) vc LP0;have ui:=Qc (j:=E1.length) (by omega) vi LP0;have uq:(K2.set E1.length LP0)[E1.length]?=some LP0:=zK vl;rw[<-zh];refine lkA [(0,.yld E1.length),(1,.iptr (Qj a)),(2,.iptr [.i s]),(7,.list (a.mv.map encMv)),(8,.i a.mv.length),(9,.i (k+1:Nat))] ?_;refine ih3 (k+1,zb,_) ⟨by omega,u0,ux,um,uc,ui,uq,λz hz=>yh z (zu z hz),yl,λm' y4 h1 h2=>?_⟩ (by omega);rcases ye m' y4 with h3|rfl
     ·exact yh _ (zn m' h3 h1 h2)
     exact ym h2
    have hb:(m.src==s)=false:=by simpa using hms
    simp only[hb];refine Wq rfl rfl ?_;simp;repeat(refine s_ ?_;simp)
    refine Qa rfl (λh=>by cases h) (λ_=>?_);repeat(refine s_ ?_;simp[yd])
    refine lkA [(0,.yld E1.length),(1,.iptr (Qj a)),(2,.iptr [.i s]),(7,.list (a.mv.map encMv)),(8,.i a.mv.length),(9,.i (k+1:Nat))] ?_;refine ih3 (k+1,ny,J1) ⟨by omega,j0,jx,jm,jc,ji,jq,zu,zf,λm' y4 h1 h2=>?_⟩ (by omega);rcases ye m' y4 with h3|rfl
    ·exact zn m' h3 h1 h2
    exact absurd h1 hms
   have zp:k=a.mv.length:=by simp at y2;omega
   subst zp;repeat(refine s_ ?_;simp)
   rw[zY]at zn;refine⟨Qe fq,⟨_,_,_,_,by rw[fq,zh]⟩,f0,fx,ny,fm,fc,fi,⟨zf,λi hi m hm h1 h2=>?_⟩⟩;rcases y0 i hi with h3|rfl
   ·exact zu _ (zd.all i h3 m hm h1 h2)
   exact zn m hm h1 h2
  rintro r H' ⟨zt,hl',⟨sl',ps',a',b',k4⟩,v0,vx,vm,vc,vi,y5⟩;refine⟨_,_,_,_,_,_,_,k4,?_⟩;simp;have w0:=Qc (j:=E1.length) (by have:=Qe k0;have:=Qe ki;omega) v0 .dead;have wx:=Qc (j:=E1.length) (by have:=Qe ki;omega) vx .dead;have wm:=Qc (j:=E1.length) (by have:=Qe ki;omega) vm .dead;have wc:=Qc (j:=E1.length) (by have:=Qe ki;omega) vc .dead;have wi:=Qc (j:=E1.length) (by have:=Qe ki;omega) vi .dead;have wl:(H'.set E1.length .dead).length=H'.length:=by simp
  generalize H'.set E1.length .dead=Y at *
  repeat(refine s_ ?_;simp)
  exact lkB (ih2 (left',some (.i s,.bool true),zt,Y) ⟨w0,wx,wm,wc,wi,by show G.length+4<=Y.length;have:=Qe wi;omega,z7,y5⟩ zz)
 have zg:j=w.length:=by simp at zw;omega
 subst zg;rw[zY]at hl;repeat(refine s_ ?_;simp)
 refine Sg tOk rfl rfl rfl T79 rfl rfl gq ?_;simp;repeat(refine s_ ?_;simp)
 have zx:q≠0:=λe=>by subst e;rw[g0]at gq;unfold stM at gq;simp at gq
 refine Q3 λE hE=>?_;have e0:E[0]?=some (.vars (Qj a)):=by rw[hE];exact Qb (Qc zx g0 _) _
 have ei:E[G.length]?=some (.it (l.map λz=>(.i z,.bool true)) none):=by rw[hE];rw[zF (by simp)];simp
 clear hE;refine lpV (F:=λ(u:List Int×Option (AV×AV)×List AObj)=>⟨[(2,.vptr 0 0),(86,.vptr G.length 0)],u.2.2⟩)
  (λu=>u.2.2[0]?=some (.vars (Qj a))/\u.2.2[G.length]?=some (.it (u.1.map λz=>(.i z,.bool true)) u.2.1)/\(∀z∈u.1,z∈l)/\∀z∈l,z∉u.1->a.fin.getD z.toNat false=false) (λu=>u.1.length) ?_ (l,none,E) ⟨e0,ei,λz hz=>hz,λz hz hn=>absurd hz hn⟩
 clear e0 ei;clear E;rintro⟨left,cur,E⟩ ⟨e0,ei,z6,y6⟩ ih2;simp only at e0 ei z6 y6 ih2 |-;repeat(refine s_ ?_;simp)
 refine Aj rfl rfl rfl rfl ei (λzy=>?_) (λi p hp=>?_)
 ·simp;have zr:left=[]:=by simpa using zy
  subst zr;repeat(refine s_ ?_;simp)
  refine Qk rfl ?_;simp;repeat(refine s_ ?_;simp)
  have:Eo a w=false:=by rw[vV,Ne,x0r];rintro⟨s,hs,hf⟩;rw[y6 s ((hl s).2 hs) (by simp)]at hf;cases hf
  rw[this]
 simp;rw[zU]at hp;obtain⟨s,hs,rfl⟩:=zQ.1 hp;rw[Df];have zk:s∈l:=z6 s (zJ hs);have zl:=y9 s zk;have z7:∀z∈left.eraseIdx i,z∈l:=λz hz=>z6 z (ta hz);have zz:(left.eraseIdx i).length<left.length:=by rw[uD,if_pos (Y6 hs)];have:=Y6 hs;omega
 have y0:∀z,z∈l->z∉left.eraseIdx i->(z∈l/\z∉left)\/z=s:=λz hz y7=>by
  by_cases zm:z∈left
  ·exact .inr (mem_erase hs zm y7)
  exact .inl ⟨hz,zm⟩
 generalize left.eraseIdx i=left' at *
 have yi:=Qe g0;have k0:=Qc (j:=G.length) (by omega) e0 (.it (left'.map λz=>(.i z,.bool true)) (some (.i s,.bool true)));have ki:=Qf ei (.it (left'.map λz=>(.i z,.bool true)) (some (.i s,.bool true)));generalize E.set G.length (.it (left'.map λz=>(.i z,.bool true)) (some (.i s,.bool true)))=E1 at *
 repeat(refine s_ ?_;simp)
 refine Qk rfl ?_;simp;repeat(refine s_ ?_;simp)
 refine Oc rfl rfl rfl rfl ki ?_;simp;have y8:s.toNat<a.fin.length:=by omega
 repeat(refine s_ ?_;simp[k0,zl,y8])
 refine Qa rfl (λhh=>?_) (λhh=>?_)
 ·repeat(refine s_ ?_;simp)
  have:Eo a w=true:=(x0r a w).2 ⟨s,(hl s).1 zk,by simp[yL,y8,hh]⟩;rw[this]
 repeat(refine s_ ?_;simp)
 refine lkA [(2,.vptr 0 0),(86,.vptr G.length 0)] ?_;refine ih2 (left',some (.i s,.bool true),E1) ⟨k0,ki,z7,λz hz y7=>?_⟩ zz;rcases y0 z hz y7 with h3|rfl
 ·exact y6 z h3.1 h3.2
 simp[yL,y8,hh]
end
section
attribute [simp] T91 T84
abbrev LQ (Q:List (List Int)):List AV:=Q.map λl=>LI l
structure TB (r p m:Nat) (a:Aut) (cl:List Prd) (Q:List (List Int)) (H:List AObj):Prop where
 t:H[r]?=some (.vars [.i a.types,.list (a.fin.map .bool),.list (a.mv.map encMv),LP cl,.sl p 1 0 Q.length,.mref m])
 s:H[p]?=some (.arr 47 1 (LQ Q))
 n:H[m]?=some (mpT (Q.map Tk))
def Dz(x:List Int):Prop:=x≠[]/\x.length<=256/\∀z∈x,0<=z/\z<=1000000
def f01(Q:List (List Int))(x:List Int):List (List Int):=if x∈Q then Q else Q++[x]
def TB.keep{r p m:Nat}{a:Aut}{cl:List Prd}{Q:List (List Int)}{H H':List AObj}(h:TB r p m a cl Q H)(hk:∀j,(j=r\/j=p\/j=m)->H'[j]? =H[j]?):TB r p m a cl Q H':=
 ⟨(hk r (.inl rfl)).trans h.t,(hk p (.inr (.inl rfl))).trans h.s,(hk m (.inr (.inr rfl))).trans h.n⟩
def TB.ne{r p m:Nat}{a:Aut}{cl:List Prd}{Q:List (List Int)}{H:List AObj}(h:TB r p m a cl Q H):r≠p/\r≠m/\p≠m:=by
 refine⟨λe=>?_,λe=>?_,λe=>?_⟩
 ·have h1:=h.t;rw[e,h.s]at h1;simp at h1
 ·have h1:=h.t;rw[e,h.n,Rs]at h1;simp at h1
 have h1:=h.s;rw[e,h.n,Rs]at h1;simp at h1
def Dz.rng{x:List Int}(h:Dz x):∀z∈x,-9223372036854775808<=z/\z<=9223372036854775807:=λz hz=>by have:=h.2.2 z hz;omega
def Kr{x:List Int}(h:Dz x):(Tk x).length<=1000000:=by have:=u0b h.rng;have:=h.2.1;omega
def f2e{x:List Int}{Q:List (List Int)}(hQ:∀l∈Q,Dz l)(hx:Dz x):Tk x∈Q.map Tk↔x∈Q:=by refine⟨λh=>?_,λh=>zO.2 ⟨x,h,rfl⟩⟩;obtain⟨l,hl,e⟩:=zO.1 h;rw[<-B3 (λz hz=>((hQ l hl).2.2 z hz).1) (λz hz=>(hx.2.2 z hz).1) e];exact hl
attribute [local irreducible] mpT Tk
def y0l(H:List AObj)(r p m:Nat)(a:Aut)(cl:List Prd)(Q:List (List Int))(x:List Int)(h:TB r p m a cl Q H)(hx:Dz x)(hQ:∀l∈Q,Dz l)(zg:Q.length<=100000):
  FC prog 50 [.vptr r 0,LI x] H (λres H'=>∃(j p':Nat),res= .i j/\(f01 Q x)[j]?=some x/\TB r p' m a cl (f01 Q x) H'/\(p'=p\/H.length<=p')/\H.length<=H'.length/\(x∈Q->H'=H)/\∀i,i<H.length->i≠r->i≠p->i≠m->H'[i]? =H[i]?):=by
 refine fcB func50 results50 ntmps50 ?_;simp only[Qd];repeat(refine s_ ?_;simp)
 refine pcL (v2w x hx.rng (by have:=hx.2.1;omega) hx.1) ?_;simp;have ht:=h.t;have hn:=h.n;have hs:=h.s;obtain⟨n1,n2,n3⟩:=h.ne;repeat(refine s_ ?_;simp[ht])
 have z8:∀k∈Q.map Tk,k.length<=1000000:=λk hk=>by obtain⟨l,hl,rfl⟩:=zO.1 hk;exact Kr (hQ l hl)
 refine Jy (n:=Tk x) rfl rfl rfl rfl rfl hn z8 (Kr hx) (λj hj=>?_) (λza=>?_)
 ·have zb:Q[j]?=some x:=by rw[zU]at hj;obtain⟨l,hl,e⟩:=zQ.1 hj;rw[<-B3 (λz hz=>((hQ l (zJ hl)).2.2 z hz).1) (λz hz=>(hx.2.2 z hz).1) e];exact hl
  have z1:f01 Q x=Q:=by rw[f01,if_pos (zJ zb)]
  rw[z1];simp;repeat(refine s_ ?_;simp)
  refine Qk rfl ?_;simp;repeat(refine s_ ?_;simp)
  exact⟨j,rfl,zb,p,h,.inl rfl⟩
 have zc:x∉Q:=λhm=>za ((f2e hQ hx).2 hm);have z1:f01 Q x=Q++[x]:=by rw[f01,if_neg zc]
 rw[z1];have ze:(Q.map Tk).length=Q.length:=by simp
 simp;repeat(refine s_ ?_;simp)
 refine Qk rfl ?_;simp;repeat(refine s_ ?_;simp[ht])
 refine Zu (n:=Tk x) rfl rfl rfl rfl rfl (ks:=Q.map Tk) (by rw[ze];rfl) hn z8 (Kr hx) za ?_;simp;have z6:=Qc (Ne.symm n2) ht (mpT (Q.map Tk++[Tk x]));have z7:=Qc (Ne.symm n3) hs (mpT (Q.map Tk++[Tk x]));have zd:=Qf hn (mpT (Q.map Tk++[Tk x]));have zf:∀i,i≠m->(H.set m (mpT (Q.map Tk++[Tk x])))[i]? =H[i]? :=λi hi=>zE (Ne.symm hi);have zh:(H.set m (mpT (Q.map Tk++[Tk x]))).length=H.length:=by simp
 generalize H.set m (mpT (Q.map Tk++[Tk x]))=G at *
 repeat(refine s_ ?_;simp[z6])
 have g1:∀L,(G.set p .dead++L)[r]?=some (.vars [.i a.types,.list (a.fin.map .bool),.list (a.mv.map encMv),LP cl,.sl p 1 0 Q.length,.mref m]):=λL=>Qb (Qc (Ne.symm n1) z6 _) L;refine apS T88 T47 ?_;simp[Qb z7,Qg z7,Qb z6,g1];refine⟨by simp[Wo,Qb z7,Qg z7,Qb z6,g1]<;>omega,?_⟩;repeat(refine s_ ?_;simp[g1])
 have zi:=Qe z6;have zj:=Qe z7;have zk:=Qe zd;refine⟨Q.length,rfl,by simp,G.length+1,⟨?_,?_,?_⟩,.inr (by omega),by omega,λh=>absurd h zc,λi hi h1 h2 h3=>?_⟩
 ·rw[zK (by simp;omega)];simp
 ·rw[zE (by omega),zF (by simp)];simp[LQ]
 ·rw[zE n2,zH (by simp;omega),zE n3,zd];simp
 rw[zE (Ne.symm h1),zH (by simp;omega),zE (Ne.symm h2)];exact zf i h3
end
section
def D0(H:List AObj)(r:Nat)(x:List Int):FC prog 49 [.vptr r 0,LI x] H (λres H'=>res= .fn (.func 107) [] [.vptr H.length 0,.vptr (H.length+1) 0]/\H'=H++[.vars [.vptr r 0],.vars [LI x]]):=by refine fcB func49 results49 ntmps49 ?_;simp only[Qd];repeat(refine s_ ?_;simp)
attribute [local irreducible] Qv Qh
def x0w (a:Aut) (ha:OkA a) (cl:List Prd) (set:List Int) (zg:∀c∈cl,A0 [c]=0/\Ws c=false/\Q9 a (Qh c)) (zn:cl.length<=256) (q c1 c2 r:Nat) {z7:Nat} {sl':List (Nat×AV)} {ps:List Tmp} {asg body:Code} (zh:ps.length=2) (zi:(ps.all λp=>decide (p<z7))=true)
  (Inv:Nat->List AObj->Prop)
  (hI:∀k H,Inv k H->H[q]?=some (.lp true none z7 sl' ps asg body)/\H[c1]?=some (.vars [.vptr r 0])/\H[c2]?=some (.vars [LI set])/\∃rest,H[r]?=some (.vars (.i a.types:: .list (a.fin.map .bool):: .list (a.mv.map encMv)::LP cl::rest)))
  (z8:∀k H L,Inv k H->Inv k (H++L))
  (za:∀k c H,cl[k]?=some c->Qv a set (Qh c)=[]->Inv k H->Inv (k+1) H)
  (z1:∀k c H,cl[k]?=some c->Qv a set (Qh c)≠[]->Inv k H->AWP prog z7 H.length asg (Pf (AWP prog z7 H.length body (w0b q (λjm K2=>jm=none/\Inv (k+1) (K2.set q (.lp true none z7 sl' ps asg body))))) (λ_ _=>False)) ⟨Rh sl' ps [encP c,LI (Qv a set (Qh c))],H.set q .dead⟩)
  (H0:List AObj) (h0:Inv 0 H0):FC prog 107 [.yld q,.vptr c1 0,.vptr c2 0] H0 (λ_ H'=>Inv cl.length H'):=by
 refine fcB func107 results107 ntmps107 ?_;simp only[Qd];obtain⟨i1,i2,i3,rest,i4⟩:=hI 0 H0 h0;repeat(refine s_ ?_;simp[i2,i4])
 refine R9 (Qo (sl':=[(0,.yld q),(1,.vptr c1 0),(2,.vptr c2 0),(12,LP cl),(13,.i cl.length),(14,.i (0:Nat))]) ?_ (by simp));clear i1 i2 i3 i4;clear rest;refine R8 (F:=λ(u:Nat×List AObj)=>⟨[(0,.yld q),(1,.vptr c1 0),(2,.vptr c2 0),(12,LP cl),(13,.i cl.length),(14,.i u.1)],u.2⟩)
  (λu=>u.1<=cl.length/\Inv u.1 u.2) (λu=>cl.length - u.1) ?_ (0,H0) ⟨by simp,h0⟩
 rintro⟨k,H⟩ ⟨hk,hv⟩ ih;simp only at hk hv ih |-;repeat(refine s_ ?_;simp)
 refine Qa rfl (λzj=>?_) (λzk=>?_)
 ·have z6:k<cl.length:=by simpa using zj
  have hw:=wz k (by omega);have zc:=zg _ (zL z6);have zb:cl[k]?=some cl[k]:=zI z6;repeat(refine s_ ?_;simp[z6])
  generalize cl[k]=c at *;refine pcL (k0z c zc.1 zc.2.1) ?_
  simp;repeat(refine s_ ?_;simp)
  have zd:=z8 k H [.vars [.list (c.map encL)],.vars [.i (Qh c).ty,.i (Qh c).num]] hv;obtain⟨i1,i2,i3,rest,i4⟩:=hI k _ zd;have h6:(H++[AObj.vars [.list (c.map encL)],.vars [.i (Qh c).ty,.i (Qh c).num]])[H.length+1]?=some (.vars [.i (Qh c).ty,.i (Qh c).num]):=by rw[zF (by omega)];simp
  have h5:(H++[AObj.vars [.list (c.map encL)],.vars [.i (Qh c).ty,.i (Qh c).num]])[H.length]?=some (.vars [.list (c.map encL)]):=by rw[zF (by omega)];simp
  generalize H++[AObj.vars [.list (c.map encL)],.vars [.i (Qh c).ty,.i (Qh c).num]]=G at *;refine drT [] (.pv 0 6 (.one 6 (.val 7 (.done)))) ?_
  simp[i2,i3,i4,h6];refine pcL (w0n a ha set (Qh c) zc.2.2) ?_;simp;have hlen:=B5 ha set (Qh c);have zl:=za k c G zb;have zm:=z1 k c G zb;generalize Qv a set (Qh c)=nx at *
  by_cases hnx:nx=[]
  ·subst hnx;repeat(refine s_ ?_;simp[h5])
   refine Wq rfl rfl ?_;simp;repeat(refine s_ ?_;simp)
   refine Qa rfl (λh=>by cases h) (λ_=>?_);repeat(refine s_ ?_;simp[hw])
   exact lkB (ih (k+1,G) ⟨by omega,zl rfl zd⟩ (by omega))
  have ze:0<nx.length:=uI.2 hnx;repeat(refine s_ ?_;simp[h5,ze])
  refine Tb rfl rfl (q:=q) rfl rfl i1 zh zi rfl (λjm K2=>jm=none/\Inv (k+1) (K2.set q (.lp true none z7 sl' ps asg body))) ?_ ?_
  ·exact zm hnx zd
  rintro jm K2 ⟨rfl,hK⟩;simp;repeat(refine s_ ?_;simp)
  refine Qa rfl (λh=>by cases h) (λ_=>?_);repeat(refine s_ ?_;simp[hw])
  exact lkB (ih (k+1,_) ⟨by omega,hK⟩ (by omega))
 have zf:k=cl.length:=by simp at zk;omega
 subst zf;repeat(refine s_ ?_;simp)
 exact hv
end
section
open Go.RowKit
section
variable {P:Program} [Env P] {T:TT} {nt k:Nat} {S:AS} {ops:Array Oper} {o:Oper} {R:AS->Prop} {Q:Exit->AS->Prop}
def V7 {wr:Bool} {sl:List (Nat×AV)} {H:List AObj} (i j e sz:Nat) {xs:List AV} (hi:H[i]?=some (.vars xs)) (hj:xs[j]?=some .nils)
  (h:Q7 P nt k wr ops o ⟨sl,(H++[AObj.arr e sz []]).set i (.vars (xs.set j (.sl H.length sz 0 0)))⟩ R):Q7 P nt k wr ops o ⟨sl,H⟩ R:=λC a w K Q' hs=>by
 obtain⟨I,m,hw,z1,hk,hf⟩:=hs;obtain⟨g1,g2⟩:=hw.push (Below.refl _ _) none (λb e=>by cases e) (.arr e sz []) (λm' _ _=> .inl ⟨rfl,rfl⟩);have z8:i<H.length:=(zB.1 hi).1;have z6:(H++[AObj.arr e sz []])[i]?=some (.vars xs):=by rw[zH z8];exact hi
 obtain⟨b,t,vs,hb,hh,za,hr⟩:=g1.obj i _ z6;obtain⟨g3,g4⟩:=g1.set (w':=w) (o':= .vars (xs.set j (.sl H.length sz 0 0))) z6 rfl hb (World.grownBy.refl _ _) (λ_ h=>h) (λm' z7=>⟨b,t,vs,rfl,hh,by simp[za],λq v x hv hx=>by
  by_cases hq:j=q
  ·subst hq;rw[zK (zB.1 hj).1]at hx;cases hx;have:=(hr j v _ hv hj).nils_inv;subst this;exact .slnone H.length sz (by simp) (by rw[z7.ids _ (by simp)];exact Q6 ..)
  rw[zE hq]at hx;exact(hr q v x hv hx).mono z7 (zS _)⟩)
 have hlen:((H++[AObj.arr e sz []]).set i (.vars (xs.set j (.sl H.length sz 0 0)))).length=H.length+1:=by simp
 refine h C a w K Q' ⟨I,upd m H.length none,g3,⟨z1.1,z1.2.1,λs x hx=>?_⟩,by simp at hk |-;omega,hf.trans hk g2⟩;obtain⟨v,hv,zb⟩:=z1.2.2 s x hx;refine⟨v,hv,?_⟩;have:=zb.mono (n':=H.length+1) g2 (by simp);rw[hlen];exact this
end
def q0d{a:Aut}(h:OkA a)(hm:(Tq a.types (onA a)).1=0):∃cl,Tq a.types (onA a)=(0,cl)/\Cls a cl/\cl.length<=256/\∀c∈cl,A0 [c]=0/\Ws c=false/\Q9 a (Qh c)/\PWf a.types.toNat c/\∀s∈c,s.length<=256:=by
 have hc:=w2h h;have za:a.mv.map (·.on)=onA a:=rfl;rw[za]at hc;have z7:=v0w h;have zb:=x1r a.types (onA a);rcases z1z h.types z7 with h5|h5
 ·omega
 refine⟨_,h5,hc,?_⟩;have hb:F6 (Q4 a.types.toNat (onA a))=false:=by
  cases hb:F6 (Q4 a.types.toNat (onA a))with
  |false=>rfl
  |true=>
   rw[<-zb,Cq]at hm;rw[if_neg (by have:=h.types;omega)]at hm;have hl:(onA a).length<=256:=by
    by_cases hl:256<(onA a).length
    ·rw[if_pos hl]at hm;simp at hm
    omega
   rw[if_neg (by omega),if_neg (λk=>k ((Pb _).2 λp hp=>(Eg _ p).2 ⟨h.types,z7 p hp⟩)),hb]at hm;simp at hm
 simp only[F6,Bool.or_eq_false_iff,decide_eq_false_iff_not,vw,decide_eq_true_eq]at hb;refine⟨by omega,λc z1=>?_⟩;have hw:=hc.wf c z1;have z8:∀s∈c,s.length<=256:=λs hs=>by have:=hb.2 c z1;simp only[Bool.not_eq_true,vw,decide_eq_true_eq]at this;have:=this s hs;omega
 have z6:E9 a.types c=0:=(Eg _ c).2 ⟨h.types,hw.1.1,λs hs=>Dn (hw.1.2 s hs).1 (q04 (hw.1.2 s hs).1 (hw.1.2 s hs).2) (by have:=z8 s hs;omega)⟩;refine⟨(z2e z6).1,?_,j1z hc z1,hw.1,z8⟩;rw[vV];intro hv;obtain⟨ty,y,hy⟩:=hw.2;exact(Rv hw.1).1 hv ty y hy
def c1a(a:Aut)(k:Nat)(h:k<a.mv.length):(onA a).take (k+1)=(onA a).take k++[a.mv[k].on]:=by rw[zR (by simpa[onA]using h)];simp[onA]
def Vr(a:Aut):(onA a).length=a.mv.length:=by simp[onA]
def w0e:∀(xs:List (List Int)) (Q:List (List Int)),(Es Q xs).length<=Q.length+xs.length
 |[],Q=>by simp[Es]
 |x::xs,Q=>by
  have h:=w0e xs (Z0 Q x);have e:Es Q (x::xs)=Es (Z0 Q x) xs:=rfl;have h2:(Z0 Q x).length<=Q.length+1:=by unfold Z0;split<;>simp
  rw[e,yZ];omega
def u0z{a:Aut}(z1:OkA a){Q:List (List Int)}(hQ:∀l∈Q,Dz l)(z8:Q.length<=256){cl:List Prd}(za:cl.length<=256){l:List Int}(k:Nat):
  (∀y∈Es Q ((T0 a cl l).take k),Dz y)/\(Es Q ((T0 a cl l).take k)).length<=600:=by
 have hlen:=w0e ((T0 a cl l).take k) Q;have z6:(T0 a cl l).length=cl.length:=by simp[T0]
 rw[xR,z6]at hlen;refine⟨λy hy=>?_,by omega⟩;obtain⟨R,hR,z7⟩:=Ip ((T0 a cl l).take k) Q;rw[hR]at hy;rcases zV.1 hy with hy|hy
 ·exact hQ y hy
 obtain⟨h1,h2⟩:=z7 y hy;obtain⟨c,_,rfl⟩:=zO.1 (xY h1);have:=z1.fin;exact⟨h2,B5 z1 _ _,λz hz=>by have:=Ur z hz;omega⟩
def Xt(Q xs:List (List Int))(x:List Int):Es Q (xs++[x])=Z0 (Es Q xs) x:=by unfold Es;rw[wJ];rfl
def c0m{Q:List (List Int)}{x:List Int}(h:x≠[]):Z0 Q x=f01 Q x:=by
 unfold Z0 f01;by_cases hx:x∈Q
 ·rw[if_pos (.inr hx),if_pos hx]
 rw[if_neg (by simp[h,hx]),if_neg hx]
def j1n(Q:List (List Int)):Z0 Q []=Q:=by unfold Z0;simp
attribute [local irreducible] Qv Qh Tq onA mpT Tk
def j0m(H:List AObj)(a:Aut):FC prog 46 [encA a] H (λres H'=>(∀j,j<H.length->H'[j]? =H[j]?)/\(((Ay a).1≠0/\res= .tup [.nilp,.i (Ay a).1])\/
  ((Ay a).1=0/\∃r p m,res= .tup [.vptr r 0,.i 0]/\TB r p m a (Ay a).2.1 (Ay a).2.2 H'/\H.length<=r/\H.length<=p/\H.length<=m))):=by
 refine fcB func46 results46 ntmps46 ?_;simp only[Qd];simp only[encA];repeat(refine s_ ?_;simp)
 have b0:∀L,(H++[AObj.vars (Qj a)]++L)[H.length]?=some (.vars (Qj a)):=λL=>by rw[xO,zF (by omega)];simp
 refine pcL (Tm a) ?_;simp;repeat(refine s_ ?_;simp)
 refine Qa rfl (λh=>?_) (λh=>?_)
 ·have h':Wu a≠0:=by simpa using h
  have hs:Ay a=(Wu a,[],[]):=y0w h';rw[hs];repeat(refine s_ ?_;simp)
  exact⟨λj hj=>zH hj,h'⟩
 have h0:Wu a=0:=by simpa using h
 have z7:=(I8 a).1 h0;have yj:=z7.fin;have yl:=z7.mvs;repeat(refine s_ ?_;simp)
 refine Qw 5 70 1 rfl ?_;simp;obtain⟨G0,zg⟩:∃G0,G0=H++[AObj.vars (Qj a)]:=⟨_,rfl⟩
 have y3:G0[H.length]?=some (.vars (Qj a)):=by rw[zg];simp
 have zh:G0.length=H.length+1:=by rw[zg];simp
 have y4:∀j,j<H.length->G0[j]? =H[j]? :=λj hj=>by rw[zg];exact zH hj
 have hst:=SL.start G0 70 1;refine lpW (F:=λ(u:Nat×Nat×List AObj)=>⟨[(1,.vptr H.length 0),(5,.sl u.2.1 1 0 u.1),(20,.list (a.mv.map encMv)),(21,.i a.mv.length),(22,.i u.1)],u.2.2⟩)
  (λu=>u.1<=a.mv.length/\SL G0 u.2.2 u.2.1 70 1 (((onA a).take u.1).map encP)) (λu=>a.mv.length - u.1) ?_ (0,G0.length,_) ⟨by simp,by simp only[wB,wG];rw[zg]at hst |-;simpa using hst⟩ (by simp[zh])
 rintro⟨j,q,E⟩ ⟨hj,s1⟩ ih;simp only at hj s1 ih |-;repeat(refine s_ ?_;simp)
 refine Qa rfl (λzq=>?_) (λzr=>?_)
 ·have z1:j<a.mv.length:=by simpa using zq
  have hw:=wz j (by omega);have za:=c1a a j z1;have y5:((onA a).take j).length=j:=by rw[xR,Vr];omega
  have y6:=λq' E'=>ih (j+1,q',E');simp only[za]at y6;clear za;generalize (onA a).take j=acc at *
  repeat(refine s_ ?_;simp[z1])
  generalize a.mv[j]=mm at *;refine apS T87 T70 ?_
  simp[Qb s1.arr,Qg s1.arr,y5];refine⟨by simp[Wo,Qb s1.arr,Qg s1.arr,y5]<;>omega,?_⟩;repeat(refine s_ ?_;simp[hw])
  refine lkA [(1,.vptr H.length 0),(5,.sl (E.length+2) 1 0 (j+1)),(20,.list (a.mv.map encMv)),(21,.i a.mv.length),(22,.i (j+1:Nat))] ?_;have:=y6 (E.length+2) _ ⟨by omega,s1.put [AObj.vars [AV.i mm.src,AV.i mm.dst,AV.list (mm.on.map encL)],AObj.arr 70 1 [encP mm.on]] ((acc++[mm.on]).map encP) rfl⟩ (by omega);simpa using this
 have zi:j=a.mv.length:=by simp at zr;omega
 subst zi;rw[zT (by rw[Vr];omega)]at s1;refine W3 q s1.arr ?_;simp[Vr];rw[zT (by simp[Vr])];have ym:=s1.ge;have yn:=s1.le;have zj:(E.set q .dead)[H.length]?=some (.vars (Qj a)):=by rw[zE (by omega),s1.keep _ (by omega)];exact y3
 have zu:∀i,i<H.length->(E.set q .dead)[i]? =H[i]? :=λi hi=>by rw[zE (by omega),s1.keep _ (by omega)];exact y4 i hi
 have y7:H.length<(E.set q .dead).length:=Qe zj;generalize E.set q .dead=E1 at *;clear s1 yn ym ih
 repeat(refine s_ ?_;simp[zj])
 refine pcL (y0x a.types (onA a)) ?_;simp;repeat(refine s_ ?_;simp)
 refine Qa rfl (λh3=>?_) (λh3=>?_)
 ·have zm:(Tq a.types (onA a)).1≠0:=by simpa using h3
  have hs:Ay a=((Tq a.types (onA a)).1,[],[]):=by rw[Ay,if_neg (λk=>k h0),if_pos zm]
  rw[hs];repeat(refine s_ ?_;simp)
  exact⟨zu,zm⟩
 have zm:(Tq a.types (onA a)).1=0:=by simpa using h3
 obtain⟨cl,y8,yo,zc,zv⟩:=q0d z7 zm;rw[y8];repeat(refine s_ ?_;simp[zj])
 refine Ea rfl rfl rfl ?_;simp;repeat(refine s_ ?_;simp)
 refine Qp (E1.length+3) (e:=3) (c:=1) (xs:=[.i 0]) (by rw[zF (by omega)];simp) ?_;simp;refine V7 (E1.length+1) 4 47 1 (xs:=[.i a.types,.list (a.fin.map .bool),.list (a.mv.map encMv),LP cl,.nils,.mref E1.length]) (by rw[zF (by omega)];simp) rfl ?_;refine Jl λZ hZ=>?_;have yp:Z.length=E1.length+5:=by rw[hZ];simp
 have z0:Z[H.length]?=some (.vars (Qj a)):=by rw[hZ,zE (by omega),xO,zH y7];exact zj
 have zk:∀i,i<H.length->Z[i]? =H[i]? :=λi hi=>by rw[hZ,zE (by omega),xO,zH (by omega)];exact zu i hi
 have zt:TB (E1.length+1) (E1.length+4) E1.length a cl [] Z:=by
  refine⟨?_,?_,?_⟩
  ·rw[hZ,zK (by simp)];simp
  ·rw[hZ,zE (by omega),zF (by simp)];simp[LQ]
  rw[hZ,zE (by omega),xO,zF (by omega)];simp[Rs]
 have zb:Z[E1.length+2]?=some (.vars [.vptr (E1.length+1) 0]):=by rw[hZ,zE (by omega),xO,zF (by omega)];simp
 clear hZ;have y9:Dz [0]:=⟨by simp,by simp,λz hz=>by simp at hz;omega⟩
 refine Qm rfl rfl (y0l Z _ _ _ a cl [] [0] zt y9 (λl hl=>by simp at hl) (by simp)) rfl ?_;rintro res Y ⟨j0,p,rfl,ya,ht,yq,yr,-,zn⟩;have zw:f01 [] [0]=[[0]]:=by simp[f01]
 rw[zw]at ht;simp;repeat(refine s_ ?_;simp)
 have y0:=(zn H.length (by omega) (by omega) (by omega) (by omega)).trans z0;have yk:∀i,i<H.length->Y[i]? =H[i]? :=λi hi=>(zn i (by omega) (by omega) (by omega) (by omega)).trans (zk i hi);have yb:=(zn _ (by omega) (by omega) (by omega) (by omega)).trans zb;have ze:H.length<=p:=by omega
 have yt:H.length<=E1.length+1:=by omega
 have xf:H.length<=E1.length+2:=by omega
 have yu:H.length<=E1.length:=by omega
 refine kpA [(10,.vptr (E1.length+2) 0),(11,.i (0:Nat))] ?_;clear zt z0 zk zb zn yp yr ya yq zj zu y7 y3 zh y4 zg;generalize E1.length+1=r at *;generalize E1.length+2=b at *;generalize E1.length=m at *
 have z6:Ay a=match g04 a cl 257 0 [[0]]with
   |none=>(5,[],[])
   |some Q=>(0,cl,Q):=by
  rw[Ay,if_neg (λk=>k h0),y8];rfl
 refine lpV (F:=λ(u:Nat×Nat×List (List Int)×List AObj)=>⟨[(10,.vptr b 0),(11,.i u.1)],u.2.2.2⟩)
  (λu=>u.1<=u.2.2.1.length/\u.2.2.1.length<=256/\TB r u.2.1 m a cl u.2.2.1 u.2.2.2/\H.length<=u.2.1/\u.2.2.2[b]?=some (.vars [.vptr r 0])/\(∀i,i<H.length->u.2.2.2[i]? =H[i]?)/\(∀l∈u.2.2.1,Dz l)/\g04 a cl 257 0 [[0]]=g04 a cl (257 - u.1) u.1 u.2.2.1) (λu=>257 - u.1) ?_ (0,p,[[0]],Y) ⟨by simp,by simp,ht,ze,yb,yk,λl hl=>by rw[zP.1 hl];exact y9,rfl⟩
 clear ht ze yb yk y0;clear Y;rintro⟨i,p,Q,Y⟩ ⟨hi,zx,ht,ze,yb,yk,hQ,z8⟩ ih;simp only at hi zx ht ze yb yk hQ z8 ih |-;have yc:=ht.t;repeat(refine s_ ?_;simp[yb,yc])
 refine Qa rfl (λzq=>?_) (λzr=>?_)
 ·have z1:i<Q.length:=by simpa using zq
  have hw:=wz i (by omega);have yv:=ht.s;have hlo:=hQ _ (zL z1);repeat(refine s_ ?_;simp)
  refine drT [8] (.pv 0 8 (.one 8 (.done))) ?_;simp[yb,yc,yv,z1];refine Qm rfl rfl (D0 Y r Q[i]) rfl ?_;rintro _ _ ⟨rfl,rfl⟩;simp;repeat(refine s_ ?_;simp)
  have zo:g04 a cl (257 - i) i Q=if 256<(Es Q (T0 a cl Q[i])).length then none else g04 a cl (257 - (i+1)) (i+1) (Es Q (T0 a cl Q[i])):=by
   have:257 - i=(257 - (i+1))+1:=by omega
   rw[this,g04,zI z1]
  rw[zo]at z8;clear zo;generalize Q[i]=l at *
  have yw:(T0 a cl l).length=cl.length:=by simp[T0]
  have yd:∀(k:Nat) (c:Prd),cl[k]?=some c->(T0 a cl l).take (k+1)=(T0 a cl l).take k++[Qv a l (Qh c)]:=λk c hc=>by
   have hk:=Y6 hc;have yx:cl[k]=c:=by rw[zI hk]at hc;exact Option.some.inj hc
   rw[zR (by rw[yw];exact hk)];simp[T0,yx]
  have yy:∀k,(∀y∈Es Q ((T0 a cl l).take k),Dz y)/\(Es Q ((T0 a cl l).take k)).length<=600:=λk=>u0z z7 hQ zx zc k;have yz:=Qe yb;refine Eb rfl (Rf:=λ_ H'=>∃p',TB r p' m a cl (Es Q (T0 a cl l)) H'/\H.length<=p'/\H'[b]?=some (.vars [.vptr r 0])/\(∃sl' ps' a' b',H'[Y.length+2]?=some (.lp true none 80 sl' ps' a' b'))/\∀i,i<H.length->H'[i]? =H[i]?) ?_ ?_
  ·simp;refine A9 λH1 zd=>?_;have ft:TB r p m a cl Q H1:=ht.keep λj hj=>by
    have:j<Y.length:=by
     rcases hj with rfl|rfl|rfl
     ·exact Qe ht.t
     ·exact Qe ht.s
     exact Qe ht.n
    rw[zd,zH this]
   have fb:H1[b]?=some (.vars [.vptr r 0]):=by rw[zd,zH yz];exact yb
   have x0:H1[Y.length]?=some (.vars [.vptr r 0]):=by rw[zd,zF (by omega)];simp
   have x1:H1[Y.length+1]?=some (.vars [LI l]):=by rw[zd,zF (by omega)];simp
   have fk:∀i,i<H.length->H1[i]? =H[i]? :=λi hi=>by rw[zd,zH (by have:=Qe ht.t;omega)];exact yk i hi
   have fq:=congrArg (λh:List AObj=>h[Y.length+2]?) zd;simp at fq;clear zd;refine FC.mono (x0w a z7 cl l (λc hc=>⟨(zv c hc).1,(zv c hc).2.1,(zv c hc).2.2.1⟩) zc (Y.length+2) Y.length (Y.length+1) r (by rfl) (by rfl)
    (λk H'=>∃p',TB r p' m a cl (Es Q ((T0 a cl l).take k)) H'/\H.length<=p'/\H'[b]?=some (.vars [.vptr r 0])/\H'[Y.length]?=some (.vars [.vptr r 0])/\H'[Y.length+1]?=some (.vars [LI l])/\H'[Y.length+2]? =H1[Y.length+2]? /\∀i,i<H.length->H'[i]? =H[i]?)
    (λk H' ⟨p',h1,h2,h3,h4,h5,h6,h7⟩=>⟨h6.trans fq,h4,h5,_,h1.t⟩) ?_ ?_ ?_ H1 ⟨p,ft,ze,fb,x0,x1,rfl,fk⟩) ?_
   ·rintro k H' L ⟨p',h1,h2,h3,h4,h5,h6,h7⟩;refine⟨p',h1.keep λj hj=>?_,h2,Qb h3 _,Qb h4 _,Qb h5 _,by rw[<-h6,zH (by rw[fq]at h6;exact Qe h6)],λi hi=>by rw[zH (by have:=Qe h1.t;omega)];exact h7 i hi⟩;have:j<H'.length:=by
     rcases hj with rfl|rfl|rfl
     ·exact Qe h1.t
     ·exact Qe h1.s
     exact Qe h1.n
    exact zH this
   ·rintro k c H' hc za ⟨p',h1,h⟩;refine⟨p',?_,h⟩;rw[yd k c hc,za,Xt,j1n];exact h1
   ·rintro k c H' hc za ⟨p',h1,h2,h3,h4,h5,h6,h7⟩;have zy:Dz (Qv a l (Qh c)):=by have:=z7.fin;exact⟨za,B5 z7 _ _,λz hz=>by have:=Ur z hz;omega⟩
    have zz:=yd k c hc;have zl:=yy k;rw[zz,Xt,c0m za];generalize Qv a l (Qh c)=nx at *;generalize Es Q ((T0 a cl l).take k)=Q2 at *
    simp[Rh];have h8:=h6.trans fq;have ye:Y.length+2≠r:=λe=>by have:=h1.t;rw[<-e,h8]at this;simp at this
    have yf:Y.length+2≠p':=λe=>by have:=h1.s;rw[<-e,h8]at this;simp at this
    have yg:Y.length+2≠m:=λe=>by have:=h1.n;rw[<-e,h8,Rs]at this;simp at this
    have zp:Y.length+2≠b:=λe=>by rw[<-e,h8]at h3;simp at h3
    have x2:b≠r:=λe=>by have:=h1.t;rw[<-e,h3]at this;simp at this
    have x3:b≠p':=λe=>by have:=h1.s;rw[<-e,h3]at this;simp at this
    have x4:b≠m:=λe=>by have:=h1.n;rw[<-e,h3,Rs]at this;simp at this
    have x5:Y.length≠r:=λe=>by have:=h1.t;rw[<-e,h4]at this;simp at this
    have x6:Y.length≠p':=λe=>by have:=h1.s;rw[<-e,h4]at this;simp at this
    have x7:Y.length≠m:=λe=>by have:=h1.n;rw[<-e,h4,Rs]at this;simp at this
    have x8:Y.length+1≠r:=λe=>by have:=h1.t;rw[<-e,h5]at this;simp at this
    have x9:Y.length+1≠p':=λe=>by have:=h1.s;rw[<-e,h5]at this;simp at this
    have xa:Y.length+1≠m:=λe=>by have:=h1.n;rw[<-e,h5,Rs]at this;simp at this
    have d1:TB r p' m a cl Q2 (H'.set (Y.length+2) .dead):=h1.keep λj hj=>by rw[zE (by rcases hj with rfl|rfl|rfl<;>assumption)]
    have d3:=Qc zp h3 .dead;have d4:=Qc (j:=Y.length+2) (by omega) h4 .dead;have d5:=Qc (j:=Y.length+2) (by omega) h5 .dead;have d6:=Qf h8 .dead;have d7:∀i,i<H.length->(H'.set (Y.length+2) .dead)[i]? =H[i]? :=λi hi=>by rw[zE (by have:=Qe yb;omega)];exact h7 i hi
    have dl:(H'.set (Y.length+2) .dead).length=H'.length:=by simp
    generalize H'.set (Y.length+2) .dead=Z at *
    repeat(refine s_ ?_;simp[d3])
    refine Qm rfl rfl (y0l Z r p' m a cl Q2 nx d1 zy zl.1 (by have:=zl.2;omega)) rfl ?_;rintro res Z2 ⟨j0,p2,rfl,ya,yh,xg,xh,-,zf⟩;simp;repeat(refine s_ ?_;simp)
    have hz:∀i,i<Z.length->i≠r->i≠p'->i≠m->Z2[i]? =Z[i]? :=zf;have e3:=(zf b (Qe d3) x2 x3 x4).trans d3;have e4:=(zf _ (Qe d4) x5 x6 x7).trans d4;have e5:=(zf _ (Qe d5) x8 x9 xa).trans d5;have e6:=(zf _ (Qe d6) ye yf yg).trans d6;have xb:Y.length+2≠p2:=λe=>by have:=yh.s;rw[<-e,e6]at this;simp at this
    refine⟨e6,rfl,p2,yh.keep (λj hj=>by rw[zE (by rcases hj with rfl|rfl|rfl<;>assumption)]),by have:=Qe d6;omega,Qc zp e3 _,e4,e5,?_,λi hi=>?_⟩
    ·rw[fq];exact Qf e6 _
    rw[zE (by have:=Qe yb;omega),zf i (by have:=Qe d6;omega) (by omega) (by omega) (by omega)];exact d7 i hi
   rintro _ H' ⟨p',h1,h2,h3,h4,h5,h6,h7⟩;rw[zT (by omega)]at h1;exact⟨p',h1,h2,h3,⟨_,_,_,_,h6.trans fq⟩,h7⟩
  rintro res H' ⟨p',h1,h2,h3,⟨sl',ps',a',b',h6⟩,h7⟩;refine⟨true,none,80,sl',ps',a',b',by simpa using h6,?_⟩;simp;have ye:Y.length+2≠r:=λe=>by have:=h1.t;rw[<-e,h6]at this;simp at this
  have yf:Y.length+2≠p':=λe=>by have:=h1.s;rw[<-e,h6]at this;simp at this
  have yg:Y.length+2≠m:=λe=>by have:=h1.n;rw[<-e,h6,Rs]at this;simp at this
  have zp:Y.length+2≠b:=λe=>by rw[<-e,h6]at h3;simp at h3
  have d1:TB r p' m a cl (Es Q (T0 a cl l)) (H'.set (Y.length+2) .dead):=h1.keep λj hj=>by rw[zE (by rcases hj with rfl|rfl|rfl<;>assumption)]
  have d3:=Qc zp h3 .dead;have d7:∀i,i<H.length->(H'.set (Y.length+2) .dead)[i]? =H[i]? :=λi hi=>by rw[zE (by have:=Qe yb;omega)];exact h7 i hi
  have yi:=u0z z7 hQ zx zc (l:=l) cl.length;rw[zT (by omega)]at yi;have xc:=f0y Q (T0 a cl l);generalize H'.set (Y.length+2) .dead=Z at *;generalize Es Q (T0 a cl l)=Q2 at *
  have d0:=d1.t;repeat(refine s_ ?_;simp[d3,d0])
  refine Qa rfl (λy1=>?_) (λxd=>?_)
  ·have xe:256<Q2.length:=by simp at y1;omega
   rw[if_pos xe]at z8;rw[z8]at z6;rw[z6];repeat(refine s_ ?_;simp)
   exact d7
  have y2:¬256<Q2.length:=by simp at xd;omega
  rw[if_neg y2]at z8;repeat(refine s_ ?_;simp[hw])
  exact lkB (ih (i+1,p',Q2,Z) ⟨by show i+1<=Q2.length;omega,by show Q2.length<=256;omega,d1,h2,d3,d7,yi.1,z8⟩ (by omega))
 have zi:i=Q.length:=by simp at zr;omega
 have zo:g04 a cl (257 - i) i Q=some Q:=by
  have:257 - i=(256 - i)+1:=by omega
  rw[this,g04,List.getElem?_eq_none (by omega)]
 rw[zo]at z8;rw[z8]at z6;rw[z6];repeat(refine s_ ?_;simp[yb])
 exact⟨yk,p,m,ht,yt,ze,yu⟩
end
section
open Go.RowKit
attribute [local irreducible] Ay
end
section
open Go.RowKit
def Fx(fx:List (Nat×AObj))(H:List AObj):Prop:=∀p∈fx,H[p.1]?=some p.2
def Fx.app{fx:List (Nat×AObj)}{H:List AObj}(h:Fx fx H)(L:List AObj):Fx fx (H++L):=λp hp=>Qb (h p hp) L
def Fx.set{fx:List (Nat×AObj)}{H:List AObj}(h:Fx fx H){x:Nat}{o:AObj}(hx:H[x]?=some o)(hn:∀p∈fx,p.2≠o)(y:AObj):Fx fx (H.set x y):=λp hp=>by
 have z1:x≠p.1:=λe=>by have:=h p hp;rw[<-e,hx]at this;exact hn p hp (Option.some.inj this).symm
 rw[zE z1];exact h p hp
def w1f(g:List Mv)(to:Nat):Int:=match g.findIdx? λm:Mv=>decide (m.dst=(to:Int))with
 |some i=>i
 |none=> -1
def y2q(H:List AObj)(id to:Nat)(hid:H[id]?=some (.vars [.i to]))(m:Mv):FC prog 52 [encMv m,.vptr id 0] H (λr H'=>r= .bool (decide (m.dst=(to:Int)))/\H'=H++[.vars [.i m.src,.i m.dst,.list (m.on.map encL)]]):=by
 refine fcB func52 results52 ntmps52 ?_;simp only[Qd];simp only[encMv];repeat(refine s_ ?_;simp[Qb hid])
 rfl
def q2i{g:List Mv}{to j:Nat}(h:j<g.length)(h1:g[j].dst=(to:Int))(h2:∀i,∀hi:i<g.length,i<j->¬g[i].dst=(to:Int)):w1f g to=j:=by
 have:g.findIdx? (λm:Mv=>decide (m.dst=(to:Int)))=some j:=by rw[xM];exact⟨h,by simpa using h1,λi hi=>by simpa using h2 i (by omega) hi⟩
 rw[w1f,this]
def d0n{g:List Mv}{to:Nat}(h2:∀i,∀hi:i<g.length,¬g[i].dst=(to:Int)):w1f g to= -1:=by
 have:g.findIdx? (λm:Mv=>decide (m.dst=(to:Int)))=none:=by rw[List.findIdx?_eq_none_iff];intro m hm;obtain⟨i,hi,rfl⟩:=yX hm;simpa using h2 i hi
 rw[w1f,this]
def u1o(H:List AObj)(v first to id:Nat)(pre g:List Mv)(hid:H[id]?=some (.vars [.i to]))(hv:H[v]?=some (.arr 73 3 ((pre++g).map encMv)))(hl:pre.length+g.length<=1000000000)(hf:first=pre.length):
  FC prog 51 [.sl v 3 first g.length,.fn (.func 52) [] [.vptr id 0]] H (λr H'=>r= .i (w1f g to)/\∃L,H'=H++L):=by
 subst hf;refine fcB func51 results51 ntmps51 ?_;simp only[Qd];repeat(refine s_ ?_;simp)
 refine lpV (F:=λ(u:Nat×List AObj)=>⟨[(0,.sl v 3 pre.length g.length),(1,.fn (.func 52) [] [.vptr id 0]),(7,.i g.length),(8,.i u.1)],u.2⟩)
  (λu=>u.1<=g.length/\(∃L,u.2=H++L)/\∀i,∀hi:i<g.length,i<u.1->¬g[i].dst=(to:Int)) (λu=>g.length - u.1) ?_ (0,H) ⟨by simp,⟨[],by simp⟩,by simp⟩
 rintro⟨j,E⟩ ⟨hj,⟨L,hL⟩,hI⟩ ih;simp only at hj hI hL ih |-;subst hL;repeat(refine s_ ?_;simp)
 refine Qa rfl (λza=>?_) (λzb=>?_)
 ·have z1:j<g.length:=by simpa using za
  have hw:=wz j (by omega);have zc:((pre++g).map encMv)[pre.length+j]?=some (encMv g[j]):=by simp[z1]
  have zd:=Qb hv L;have z6:=Qb hid L;repeat(refine s_ ?_;simp[z1,zd,zc])
  generalize z8:g[j]=m at *;refine Qm rfl rfl (y2q (H++L) id to z6 m) rfl ?_
  rintro _ _ ⟨rfl,rfl⟩;simp;repeat(refine s_ ?_;simp)
  refine Qa rfl (λh=>?_) (λh=>?_)
  ·repeat(refine s_ ?_;simp)
   exact(q2i z1 (by rw[z8];simpa using h) hI).symm
  repeat(refine s_ ?_;simp[hw])
  refine lkA [(0,.sl v 3 pre.length g.length),(1,.fn (.func 52) [] [.vptr id 0]),(7,.i g.length),(8,.i (j+1:Nat))] ?_;refine ih (j+1,_) ⟨by omega,⟨L++[.vars [.i m.src,.i m.dst,.list (m.on.map encL)]],by simp⟩,λi hi ze=>?_⟩ (by omega);by_cases e:i=j
  ·subst e;rw[z8];simpa using h
  exact hI i hi (by omega)
 have z7:j=g.length:=by simp at zb;omega
 subst z7;repeat(refine s_ ?_;simp)
 exact(d0n λi hi=>hI i hi hi).symm
end
section
open Go.RowKit
def w0i{a:Aut}(h:(Ay a).1=0):OkA a/\∃cl Q,Ay a=(0,cl,Q)/\Ks a cl=some Q/\Cls a cl/\Sub a cl Q/\cl.length<=256/\∀c∈cl,A0 [c]=0/\Ws c=false/\Q9 a (Qh c)/\PWf a.types.toNat c/\∀s∈c,s.length<=256:=by
 have h0:Wu a=0:=by
  by_cases h0:Wu a=0
  ·exact h0
  rw[y0w h0]at h;exact absurd h h0
 have z1:=(I8 a).1 h0;have hm:(Tq a.types (onA a)).1=0:=by
  by_cases hm:(Tq a.types (onA a)).1=0
  ·exact hm
  rw[Ay,if_neg (λk=>k h0),if_pos hm]at h;exact absurd h hm
 obtain⟨cl,h1,h2,h3,h4⟩:=q0d z1 hm;refine⟨z1,cl,?_⟩;rcases Ky z1 with h5|⟨Q,h5,h6,h7,h8⟩
 ·rw[h5]at h;simp at h
 have z6:Q4 a.types.toNat (onA a)=cl:=by
  have h9:(Ay a).2.1=cl:=by
   rw[Ay,if_neg (λk=>k h0),if_neg (λk=>k hm),h1];split
   ·rename_i hn;rw[Ay,if_neg (λk=>k h0),if_neg (λk=>k hm),h1]at h;simp only[hn]at h;simp at h
   rfl
  rw[h5]at h9;exact h9
 rw[z6]at h5 h6 h7 h8;exact⟨Q,h5,h6,h2,h7,h3,h4⟩
def x25(H:List AObj)(id:Nat)(a:Aut)(hid:H[id]?=some (.vars (Qj a)))(s:Int)(h0:0<=s)(h1:s<a.fin.length):FC prog 48 [.i s,.vptr id 0] H (λr H'=>r= .bool (a.fin.getD s.toNat false)/\H'=H):=by
 refine fcB func48 results48 ntmps48 ?_;simp only[Qd];have h2:s.toNat<a.fin.length:=by omega
 repeat(refine s_ ?_;simp[hid,h0,h1,h2])
def stepG(a:Aut)(Q:List (List Int))(n:Nat)(l:List Int)(g:List Mv)(c:Prd):List Mv:=match f04 Q (Qv a l (Qh c))with|some t=>Ym n g t c|none=>g
def Rp(a:Aut)(cl:List Prd)(Q:List (List Int))(n:Nat)(l:List Int)(k:Nat):List Mv:=(cl.take k).foldl (stepG a Q n l) []
def Hj(a:Aut)(cl:List Prd)(Q:List (List Int))(n:Nat):List Mv:=(yQ n).flatMap λn=>Mj a cl Q n (Q.getD n [])
def Jp(a:Aut)(cl:List Prd)(Q:List (List Int))(n:Nat)(l:List Int):Rp a cl Q n l cl.length=Mj a cl Q n l:=by rw[Rp,zY];rfl
def z0r(a:Aut)(cl:List Prd)(Q:List (List Int))(n:Nat)(l:List Int){k:Nat}{c:Prd}(h:cl[k]?=some c):Rp a cl Q n l (k+1)=stepG a Q n l (Rp a cl Q n l k) c:=by
 have hk:=Y6 h;have hc:cl[k]=c:=by rw[zI hk]at h;exact Option.some.inj h
 rw[Rp,zR hk,wJ,hc];rfl
def w0q(a:Aut)(cl:List Prd)(Q:List (List Int))(n:Nat):Hj a cl Q (n+1)=Hj a cl Q n++Mj a cl Q n (Q.getD n []):=by simp[Hj,wQ]
def q18(n:Nat)(g:List Mv)(to:Nat)(c:Prd):(Ym n g to c).length<=g.length+1:=by
 unfold Ym;split
 ·simp
 split<;>simp
def q05(a:Aut)(Q:List (List Int))(n:Nat)(l:List Int):∀(cl:List Prd) (g:List Mv),(cl.foldl (stepG a Q n l) g).length<=g.length+cl.length
 |[],g=>by simp
 |c::cl,g=>by
  have h1:=q05 a Q n l cl (stepG a Q n l g c);have h2:(stepG a Q n l g c).length<=g.length+1:=by
   unfold stepG;split
   ·exact q18 _ _ _ _
   omega
  rw[xV,yZ];omega
def Jk(a:Aut)(cl:List Prd)(Q:List (List Int))(n:Nat)(l:List Int)(hc:cl.length<=256)(k:Nat):(Rp a cl Q n l k).length<=256:=by have:=q05 a Q n l (cl.take k) [];rw[xR]at this;rw[Rp];simp at this;omega
def c1y(a:Aut)(cl:List Prd)(Q:List (List Int))(hq:Q.length<=256)(hc:cl.length<=256):∀n,n<Q.length->(Hj a cl Q n).length<=n * 256/\(Hj a cl Q n).length<=65536:=by
 have:∀n,(Hj a cl Q n).length<=n * 256:=λn=>by
  induction n with
  |zero=>simp[Hj]
  |succ n ih=>
   have h:=Jk a cl Q n (Q.getD n []) hc cl.length;rw[Jp]at h;have:Hj a cl Q (n+1)=Hj a cl Q n++Mj a cl Q n (Q.getD n []):=by simp[Hj,wQ]
   rw[this,zW];omega
 exact λn hn=>⟨this n,by have:=this n;omega⟩
def j0t(a:Aut)(cl:List Prd)(Q:List (List Int))(n:Nat)(l:List Int):Rp a cl Q n l 0=[]:=rfl
def j1q{a:Aut}{Q:List (List Int)}(z1:∀l∈Q,l≠[]){n:Nat}{l:List Int}{g:List Mv}{c:Prd}(h:Qv a l (Qh c)=[]):stepG a Q n l g c=g:=by
 unfold stepG;rw[h];cases hq:f04 Q []with
 |none=>rfl
 |some t=>exact absurd rfl (z1 _ (zJ (J6 hq)))
def d0o{a:Aut}{Q:List (List Int)}(hn:Q.Nodup){n t:Nat}{l:List Int}{g:List Mv}{c:Prd}(h:Q[t]?=some (Qv a l (Qh c))):stepG a Q n l g c=Ym n g t c:=by unfold stepG;rw[c07 hn h]
def f1r{T n to:Nat}{g:List Mv}{c:Prd}(hg:∀m∈g,PWf T m.on)(hc:PWf T c):∀m∈Ym n g to c,PWf T m.on:=by
 intro m hm;unfold Ym at hm;split at hm
 ·rcases zV.1 hm with hm|hm
  ·exact hg m hm
  rw[zP.1 hm];exact hc
 split at hm
 ·rename_i m2 z1;rcases vP hm with hm|rfl
  ·exact hg m hm
  exact Lq (hg _ (zJ z1)) hc
 exact hg m hm
def u12{a:Aut}{T:Nat}{Q:List (List Int)}{n:Nat}{l:List Int}{cl:List Prd}(z1:∀c∈cl,PWf T c):∀k,∀m∈Rp a cl Q n l k,PWf T m.on:=by
 have:∀(cl:List Prd) (g:List Mv),(∀c∈cl,PWf T c)->(∀m∈g,PWf T m.on)->∀m∈cl.foldl (stepG a Q n l) g,PWf T m.on:=by
  intro cl;induction cl with
  |nil=>intro g _ hg;exact hg
  |cons c cl ih=>
   intro g hc hg;refine ih _ (λx hx=>hc x (by simp[hx])) λm hm=>?_;unfold stepG at hm;split at hm
   ·exact f1r hg (hc c (by simp)) m hm
   exact hg m hm
 exact λk=>this _ _ (λc hc=>z1 c (xY hc)) (λm hm=>by simp at hm)
def AObj.isLp:AObj->Bool
 | .lp .. =>true
 |_=>false
def y2d{T:Nat}{c:Prd}(hw:PWf T c)(hz:∀s∈c,s.length<=256){i:Nat}(hi:i<T):(Qq [c] i).length<=1000000:=by
 have h:i<c.length:=by rw[hw.1];exact hi
 have:Qq [c] i=c[i]:=by simp[Qq,yL,h]
 rw[this];have:=hz _ (zL h);omega
def v2p{T:Nat}{p c:Prd}(hp:PWf T p)(hw:PWf T c)(h1:∀s∈p,s.length<=65536)(hz:∀s∈c,s.length<=256){i:Nat}(hi:i<T):(Qq [p,c] i).length<=1000000:=by
 have h:i<c.length:=by rw[hw.1];exact hi
 have h2:i<p.length:=by rw[hp.1];exact hi
 have:Qq [p,c] i=p[i]++c[i]:=by simp[Qq,yL,h,h2]
 rw[this,zW];have:=hz _ (zL h);have:=h1 _ (zL h2);omega
def j14(a:Aut)(cl:List Prd)(Q:List (List Int)):Hj a cl Q Q.length=(Ia a cl Q).mv:=rfl
def u0g(a:Aut)(cl:List Prd)(Q:List (List Int)):(Ia a cl Q).fin=Q.map (Pr a):=rfl
def f0w(a:Aut)(cl:List Prd)(Q:List (List Int)):(Ia a cl Q).types=a.types:=rfl
def u0d(d:Aut):Xq d=if Cw d then(5,Yj)else(0,d):=rfl
def y1f(a:Aut)(cl:List Prd)(Q:List (List Int))(hq:Q.length<=256)(hc:cl.length<=256):(Hj a cl Q Q.length).length<=65536:=by
 have:∀n,(Hj a cl Q n).length<=n * 256:=λn=>by
  induction n with
  |zero=>simp[Hj]
  |succ n ih=>have h:=Jk a cl Q n (Q.getD n []) hc cl.length;rw[Jp]at h;rw[w0q,zW];omega
 have:=this Q.length;omega
def z1y{p c:Prd}{A B:Nat}(hp:∀s∈p,s.length<=A)(hc:∀s∈c,s.length<=B):∀s∈Td p c,s.length<=A+B:=by intro s hs;obtain⟨i,hi,rfl⟩:=yX hs;simp only[Td,List.length_zipWith]at hi;simp only[Td,List.getElem_zipWith];refine yP (u02 _) ?_;rw[zW];have h1:=hp _ (zL (by omega:i<p.length));have h2:=hc _ (zL (by omega:i<c.length));omega
def c1e{a:Aut}{Q:List (List Int)}{n:Nat}{l:List Int}{cl:List Prd}(z6:∀c∈cl,∀s∈c,s.length<=256)(z8:cl.length<=256):∀k,∀m∈Rp a cl Q n l k,∀s∈m.on,s.length<=65536:=by
 have key:∀(cl:List Prd) (g:List Mv) (B:Nat),(∀c∈cl,∀s∈c,s.length<=256)->(∀m∈g,∀s∈m.on,s.length<=B)->∀m∈cl.foldl (stepG a Q n l) g,∀s∈m.on,s.length<=B+cl.length * 256:=by
  intro cl;induction cl with
  |nil=>intro g B _ hg m hm s hs;have:=hg m hm s hs;simp;omega
  |cons c cl ih=>
   intro g B hc hg m hm s hs;have h1:∀m∈stepG a Q n l g c,∀s∈m.on,s.length<=B+256:=by
    intro m hm s hs;have z1:=hc c (by simp);unfold stepG Ym at hm;split at hm
    ·split at hm
     ·rcases zV.1 hm with hm|hm
      ·have:=hg m hm s hs;omega
      rw[zP.1 hm]at hs;have:=z1 s hs;omega
     split at hm
     ·rename_i m2 z7;rcases vP hm with hm|rfl
      ·have:=hg m hm s hs;omega
      exact z1y (hg _ (zJ z7)) z1 s hs
     have:=hg m hm s hs;omega
    have:=hg m hm s hs;omega
   have:=ih (stepG a Q n l g c) (B+256) (λx hx=>hc x (by simp[hx])) h1 m hm s hs;rw[yZ];omega
 intro k m hm s hs;have:=key (cl.take k) [] 0 (λc hc=>z6 c (xY hc)) (λm hm=>by simp at hm) m hm s hs;rw[xR]at this;have:min k cl.length<=256:=by omega
 omega
def w0f(a:Aut)(cl:List Prd)(Q:List (List Int)):Hj a cl Q 0=[]:=rfl
attribute [local irreducible] Ay Qv Qh mpT Tk Xq Ia Hj Rp stepG Pr Cw
def T1(a:Aut):PC prog 15 [encA a] (λr=>r= .tup [encA (W7 a).2,.i (W7 a).1]):=by
 refine pcB func15 results15 ntmps15 ?_;simp only[Qd];simp only[encA];repeat(refine s_ ?_;simp)
 have yd:=j0m [.vars (Qj a),.vars [.i 0,.nils,.nils]] a;refine Qm rfl rfl yd rfl ?_;rintro res H' ⟨hk,⟨he,rfl⟩|⟨he,r,p,m,rfl,ht,hr,hp,hm⟩⟩
 ·have hd:W7 a=((Ay a).1,Yj):=by rw[W7,if_pos he]
  rw[hd];have k0:=hk 0 (by simp);have k1:=hk 1 (by simp);simp at k0 k1;simp;repeat(refine s_ ?_;simp[Qb k1])
  refine Qa rfl (λ_=>?_) (λh=>by simp at h;exact absurd h he);have k2:∀L Y,((H'++L).set 1 Y)[1]?=some Y:=λL Y=>Qf (Qb k1 L) Y;repeat(refine s_ ?_;simp[Qb k1,k2])
  exact⟨rfl,rfl,rfl⟩
 obtain⟨zn,cl,Q,x5,vr,xw,z8,zd,zo⟩:=w0i he;have hd:W7 a=Xq (Ia a cl Q):=by rw[W7,x5];simp
 rw[hd];rw[x5]at ht;simp only at ht;have k0:=hk 0 (by simp);have k1:=hk 1 (by simp);simp at k0 k1;have xx:=ht.t;have vt:=ht.s;simp;repeat(refine s_ ?_;simp[Qb k1])
 refine Qa rfl (λh=>by simp[he]at h) (λ_=>?_);have k0a:∀(L:List AObj) hh,(H'++L)[0]'hh= .vars (Qj a):=λL hh=>by have:=Qb k0 L;rw[zI hh]at this;exact Option.some.inj this
 have ye:=λL=>Qb (G:=L) xx;repeat(refine s_ ?_;simp[Qb k0,k0a,ye])
 have xy:=Qe ht.t;have xz:=Qe ht.s;have w8:=Qe ht.n;refine kpA [(1,.vptr 0 0),(2,.vptr 1 0),(3,.i 0),(4,.vptr H'.length 0),(6,.vptr (H'.length+1) 0),(30,.sl p 1 0 Q.length),(31,.i Q.length),(32,.i (0:Nat))] ?_;refine Eu (H'.length+1) 1 4 1 (xs:=[.i a.types,.nils,.nils]) (by rw[zF (by omega)];simp) rfl ?_;refine Q3 λZ1 zp=>?_;have z1l:Z1.length=H'.length+3:=by rw[zp];simp
 have z1c:Z1[H'.length+1]?=some (.vars [.i a.types,.sl (H'.length+2) 1 0 0,.nils]):=by rw[zp,zK (by simp)];simp
 have z1f:Z1[H'.length+2]?=some (.arr 4 1 []):=by rw[zp,zE (by omega),zF (by simp)];simp
 have z1b:Z1[H'.length]?=some (.vars [.vptr r 0]):=by rw[zp,zE (by omega),xO,zF (by omega)];simp
 have z1k:∀i,i<H'.length->Z1[i]? =H'[i]? :=λi hi=>by rw[zp,zE (by omega),xO,zH hi]
 clear zp;refine Eu (H'.length+1) 2 73 3 z1c rfl ?_;refine Q3 λZ2 y6=>?_;have z2c:Z2[H'.length+1]?=some (.vars [.i a.types,.sl (H'.length+2) 1 0 0,.sl (H'.length+3) 3 0 0]):=by rw[y6,zK (by simp;omega)];simp[z1l]
 have z2v:Z2[H'.length+3]?=some (.arr 73 3 []):=by rw[y6,zE (by omega),zF (by omega)];simp[z1l]
 have z2k:∀i,i<Z1.length->i≠H'.length+1->Z2[i]? =Z1[i]? :=λi hi wa=>by rw[y6,zE (Ne.symm wa),zH hi]
 clear y6;have hb:=(z2k _ (by omega) (by omega)).trans z1b;have x6:=(z2k _ (by omega) (by omega)).trans z1f;have hold:∀i,i<H'.length->Z2[i]? =H'[i]? :=λi hi=>(z2k i (by omega) (by omega)).trans (z1k i hi);have x7:=(hold 0 (Qe k0)).trans k0;have x8:=(hold 1 (Qe k1)).trans k1;obtain⟨zh,z7⟩:∃zh:List (Nat×AObj),zh=[(0,.vars (Qj a)),(1,.vars [.i 0,.nils,.nils]),(H'.length,.vars [.vptr r 0]),(r,.vars [.i a.types,.list (a.fin.map .bool),.list (a.mv.map encMv),LP cl,.sl p 1 0 Q.length,.mref m]),(p,.arr 47 1 (LQ Q)),(m,mpT (Q.map Tk))]:=⟨_,rfl⟩
 have x9:Fx zh Z2:=by
  rw[z7];intro x hx;simp only[yB,uf,or_false]at hx;rcases hx with rfl|rfl|rfl|rfl|rfl|rfl
  ·exact x7
  ·exact x8
  ·exact hb
  ·exact(hold r xy).trans ht.t
  ·exact(hold p xz).trans ht.s
  exact(hold m w8).trans ht.n
 have wb:=z8.lim;have xa:∀x∈Q,Dz x:=λx hx=>by have he:=z8.elem x hx;have:=z0g he.1 he.2;have:=zn.fin;exact⟨z8.ne x hx,by omega,λz hz=>by have:=he.2 z hz;omega⟩
 have we:=zn.fin;generalize H'.length+1=c at *;generalize H'.length=b at *;refine lpV (F:=λ(u:Nat×Nat×Nat×List AObj)=>⟨[(1,.vptr 0 0),(2,.vptr 1 0),(3,.i 0),(4,.vptr b 0),(6,.vptr c 0),(30,.sl p 1 0 Q.length),(31,.i Q.length),(32,.i u.1)],u.2.2.2⟩)
  (λu=>u.1<=Q.length/\Fx zh u.2.2.2/\u.2.2.2[c]?=some (.vars [.i a.types,.sl u.2.1 1 0 u.1,.sl u.2.2.1 3 0 (Hj a cl Q u.1).length])/\u.2.2.2[u.2.1]?=some (.arr 4 1 (((Q.take u.1).map (Pr a)).map .bool))/\u.2.2.2[u.2.2.1]?=some (.arr 73 3 ((Hj a cl Q u.1).map encMv))) (λu=>Q.length - u.1) ?_ (0,_,_,Z2) ⟨by simp,x9,by rw[w0f];exact z2c,by simpa using x6,by rw[w0f];exact z2v⟩
 clear x9 z2c x6 z2v hb x7 x8 hold z2k z1k z1b z1f z1c z1l;clear Z2 Z1;rintro⟨n,f,v,G⟩ ⟨hn,hF,gc,gf,gv⟩ ih;simp only at hn hF gc gf gv ih |-;repeat(refine s_ ?_;simp)
 refine Qa rfl (λwg=>?_) (λy8=>?_)
 ·have ze:n<Q.length:=by simpa using wg
  have hw:=wz n (by omega);have gs:G[p]?=some (.arr 47 1 (LQ Q)):=hF (p,_) (by rw[z7];simp);repeat(refine s_ ?_;simp[gs,ze])
  have xb:=zL ze;have hle:=z8.elem _ xb;have wh:Q.getD n []=Q[n]:=by simp[yL,ze]
  have xc:=w0q a cl Q n;have wi:(Q.take (n+1)).map (Pr a)=(Q.take n).map (Pr a)++[Pr a Q[n]]:=by rw[zR ze,yR];rfl
  rw[wh]at xc;have wj:=(c1y a cl Q (z8.lim) zd n ze).2;have zq:=z8.closed _ xb;have vu:=z0g hle.1 hle.2;have wk:=λL=>Qb (G:=L) gc;have g0:∀L,(G++L)[0]?=some (.vars (Qj a)):=λL=>Qb (hF (0,_) (by rw[z7];simp)) L;have wm:((Q.take n).map (Pr a)).length=n:=by simp;omega
  generalize Q[n]=l at *
  have wF:=hF.app [.vars [.i n]];have wc:=Qb gc [.vars [.i n]];have wf:=Qb gf [.vars [.i n]];have wv:=Qb gv [.vars [.i n]];have w7:(G++[AObj.vars [.i n]])[G.length]?=some (.vars [.i n]):=by simp
  have w0:=g0 [.vars [.i n]];refine kpA [(1,.vptr 0 0),(2,.vptr 1 0),(3,.i 0),(4,.vptr b 0),(6,.vptr c 0),(7,.vptr G.length 0),(8,LI l),(30,.sl p 1 0 Q.length),(31,.i Q.length),(32,.i n)] ?_;generalize G.length=n7 at *;generalize G++[AObj.vars [.i n]]=W at *;clear g0 wk gs gc gf gv hF;clear G
  have yf:((Q.take (n+1)).map (Pr a)).map AV.bool=((Q.take n).map (Pr a)).map AV.bool++[.bool (Pr a l)]:=by rw[wi];simp
  have xd:(((Q.take n).map (Pr a)).map AV.bool).length=n:=by rw[yE];exact wm
  generalize ((Q.take n).map (Pr a)).map AV.bool=xs at *
  have zr:c≠f:=λe=>by rw[e,wf]at wc;simp at wc
  have yg:c≠v:=λe=>by rw[e,wv]at wc;simp at wc
  have zt:f≠v:=λe=>by rw[e,wv]at wf;simp at wf
  have xe:c≠n7:=λe=>by rw[e,w7]at wc;simp at wc
  have xf:f≠n7:=λe=>by rw[e,w7]at wf;simp at wf
  have z6:∀p∈zh,p.2≠ .vars [.i a.types,.sl f 1 0 n,.sl v 3 0 (Hj a cl Q n).length]:=by rw[z7];simp[Rs]
  have zu:∀p∈zh,p.2≠ .arr 4 1 xs:=by rw[z7];simp[Rs]
  have wo:=Qe wc;have wq:=Qe wf;have zv:=Qe wv;have xg:=Qe w7;have xh:=wF.set wf zu .dead;have ya:∀L,(W.set f .dead++L)[c]?=some (.vars [.i a.types,.sl f 1 0 n,.sl v 3 0 (Hj a cl Q n).length]):=λL=>Qb (Qc (Ne.symm zr) wc _) L;refine K8 (P:=prog) tOk mixed [4,6,8] (.val 0 (.val 2 (.val 3 (.two 1 (.one 4 (.one 5 (.one 6 (.val 7 (.one 8 (.done)))))) 4 (.val 1 (.one 5 (.one 6 (.val 7 (.one 8 (.done)))))))))) (λS'=>∃f',Fx zh S'.hp/\S'.hp[n7]?=some (.vars [.i n])/\S'.hp[c]?=some (.vars [.i a.types,.sl f' 1 0 (n+1),.sl v 3 0 (Hj a cl Q n).length])/\S'.hp[f']?=some (.arr 4 1 (xs++[.bool (Pr a l)]))/\S'.hp[v]?=some (.arr 73 3 ((Hj a cl Q n).map encMv))/\look S'.sl 1=some (.vptr 0 0)/\look S'.sl 2=some (.vptr 1 0)/\look S'.sl 3=some (.i 0)/\look S'.sl 4=some (.vptr b 0)/\look S'.sl 6=some (.vptr c 0)/\look S'.sl 7=some (.vptr n7 0)/\look S'.sl 8=some (LI l)/\look S'.sl 30=some (.sl p 1 0 Q.length)/\look S'.sl 31=some (.i Q.length)/\look S'.sl 32=some (.i n)) rfl (by kernel_rfl) ?_ ?_
  ·simp[wc];refine⟨?_,?_⟩;all_goals
    refine Qm rfl rfl (Mf W l 48 (.vptr 0 0) (λs=>a.fin.getD s.toNat false) (by omega) (λz hz=>x25 W 0 a w0 z (hle.2 z hz).1 (hle.2 z hz).2)) rfl ?_;rintro _ H2 ⟨rfl,wu⟩;rw[wu];have wx:l.any (λs=>a.fin.getD s.toNat false)=Pr a l:=by unfold Pr;rfl
    rw[wx];simp[wc];refine apS T22 T4 ?_;simp[Qb wf,Qg wf,xd,ya,Qb wc];refine⟨by simp[Wo,Qb wf,Qg wf,xd,ya,Qb wc]<;>omega,?_⟩;refine⟨?_,?_,W.length+1,?_,?_,?_⟩
    ·exact(xh.app _).set (ya _) z6 _
    ·rw[zE xe,zH (by simpa using xg),zE xf];exact w7
    ·rw[zK (by simp;omega)]
    ·rw[zE (by omega),zF (by simp)];simp
    rw[zE yg,zH (by simpa using zv),zE zt];exact wv
  rintro⟨sl,E⟩ ⟨f',eF,e7,ec,ef,ev,s1,s2,s3,s4,s6,s7,s8,s30,s31,s32⟩;simp only at eF e7 ec ef ev s1 s2 s3 s4 s6 s7 s8 s30 s31 s32;refine Ru (sl':=[(1,.vptr 0 0),(2,.vptr 1 0),(3,.i 0),(4,.vptr b 0),(6,.vptr c 0),(7,.vptr n7 0),(8,LI l),(30,.sl p 1 0 Q.length),(31,.i Q.length),(32,.i n)]) ?_ (by simp[s1,s2,s3,s4,s6,s7,s8,s30,s31,s32]);clear s1 s2 s3 s4 s6 s7 s8 s30 s31 s32 xh ya z6 zu wo wq zv xg zr yg zt xe xf w0 w7 wv wf wc wF;have eb:E[b]?=some (.vars [.vptr r 0]):=eF (b,_) (by rw[z7];simp);repeat(refine s_ ?_;simp[ec,Qb eb])
  have yh:∀g c,Qv a l (Qh c)=[]->stepG a Q n l g c=g:=λg c hx=>j1q z8.ne hx;have yi:∀g c t,Q[t]?=some (Qv a l (Qh c))->stepG a Q n l g c=Ym n g t c:=λg c t hx=>d0o z8.nd hx;have xi:=λk c hc=>z0r a cl Q n l (k:=k) (c:=c) hc;have wy:=λk=>Jk a cl Q n l zd k;have xj:Rp a cl Q n l 0=[]:=j0t a cl Q n l;have v7:=Jp a cl Q n l;have v8:∀k,∀m∈Rp a cl Q n l k,PWf a.types.toNat m.on:=u12 (λc hc=>(zo c hc).2.2.2.1);have vb:∀k,∀m∈Rp a cl Q n l k,∀s∈m.on,s.length<=65536:=c1e (λc hc=>(zo c hc).2.2.2.2) zd;have xk:=λf v G=>ih (n+1,f,v,G);simp only[xc,<-v7,yf]at xk;clear ih;generalize Hj a cl Q n=pre at *;refine Qm rfl rfl (D0 _ r l) rfl ?_
  rintro _ _ ⟨rfl,rfl⟩;simp;repeat(refine s_ ?_;simp)
  obtain⟨zg,z6⟩:∃zg:List (Nat×AObj),zg=zh++[(n7,.vars [.i n]),(E.length,.vars [.i pre.length]),(E.length+1,.vars [.vptr r 0]),(E.length+2,.vars [LI l]),(f',.arr 4 1 (xs++[.bool (Pr a l)]))]:=⟨_,rfl⟩
  refine Eb rfl (Rf:=λ_ H'=>∃v,Fx zg H'/\H'[c]?=some (.vars [.i a.types,.sl f' 1 0 (n+1),.sl v 3 0 (pre++Rp a cl Q n l cl.length).length])/\H'[v]?=some (.arr 73 3 ((pre++Rp a cl Q n l cl.length).map encMv))/\∃sl' ps' a' b',H'[E.length+3]?=some (.lp true none 100 sl' ps' a' b')) ?_ ?_
  ·simp;refine A9 λH1 zw=>?_;have vc:Fx zg H1:=by
    rw[z6,zw];intro x hx;rcases zV.1 hx with hx|hx
    ·exact(eF.app _) x hx
    simp only[yB,uf,or_false]at hx;rcases hx with rfl|rfl|rfl|rfl|rfl
    ·exact Qb e7 _
    ·rw[zF (by simp)];simp
    ·rw[zF (by simp)];simp
    ·rw[zF (by simp)];simp
    exact Qb ef _
   have fc:H1[c]?=some (.vars [.i a.types,.sl f' 1 0 (n+1),.sl v 3 0 pre.length]):=by rw[zw];exact Qb ec _
   have fv:H1[v]?=some (.arr 73 3 (pre.map encMv)):=by rw[zw];exact Qb ev _
   have fq:=congrArg (λh:List AObj=>h[E.length+3]?) zw;simp at fq;clear zw;refine FC.mono (x0w a zn cl l (λc hc=>⟨(zo c hc).1,(zo c hc).2.1,(zo c hc).2.2.1⟩) zd (E.length+3) (E.length+1) (E.length+2) r (by rfl) (by rfl)
    (λk H'=>∃v,Fx zg H'/\H'[c]?=some (.vars [.i a.types,.sl f' 1 0 (n+1),.sl v 3 0 (pre++Rp a cl Q n l k).length])/\H'[v]?=some (.arr 73 3 ((pre++Rp a cl Q n l k).map encMv))/\H'[E.length+3]? =H1[E.length+3]?)
    (λk H' ⟨v',h1,h2,h3,h4⟩=>⟨h4.trans fq,h1 (E.length+1,_) (by rw[z6];simp),h1 (E.length+2,_) (by rw[z6];simp),[.sl p 1 0 Q.length,.mref m],h1 (r,_) (by rw[z6,z7];simp)⟩) ?_ ?_ ?_ H1 ⟨v,vc,by rw[xj,yV];exact fc,by rw[xj,yV];exact fv,rfl⟩) ?_
   ·rintro k H' L ⟨v',h1,h2,h3,h4⟩;exact⟨v',h1.app L,Qb h2 L,Qb h3 L,by rw[<-h4,zH (by rw[fq]at h4;exact Qe h4)]⟩
   ·rintro k cc H' hc yj ⟨v',h1,h2,h3,h4⟩;have:=yh (Rp a cl Q n l k) cc yj;rw[<-xi k cc hc]at this;exact⟨v',h1,by rw[this];exact h2,by rw[this];exact h3,h4⟩
   ·rintro k cc H' hc yj ⟨v',h1,h2,h3,h4⟩;rw[xi k cc hc];have zx:=zJ hc;have yk:Qv a l (Qh cc)∈Q:=(zq cc zx).resolve_left yj;have yl:=yi (Rp a cl Q n l k) cc;have vd:=wy k;have zj:=v8 k;have ym:=vb k;have zi:=zo cc zx;generalize Qv a l (Qh cc)=nx at *;generalize stepG a Q n l (Rp a cl Q n l k) cc=g2 at *;generalize Rp a cl Q n l k=g at *
    simp[Rh];have h8:=h4.trans fq;obtain⟨LP0,zk⟩:∃LP0,H1[E.length+3]?=some LP0:=⟨_,fq⟩
    have za:LP0.isLp=true:=by rw[fq]at zk;injection zk with e;rw[<-e];rfl
    have zb:H'[E.length+3]?=some LP0:=h4.trans zk;have yn:∀p∈zg,p.2≠LP0:=λp hp e=>by rw[<-e]at za;rw[z6,z7]at hp;simp only[zV,yB,uf,or_false]at hp;rcases hp with(rfl|rfl|rfl|rfl|rfl|rfl)|(rfl|rfl|rfl|rfl|rfl)<;>simp[AObj.isLp,Rs]at za
    have y1:=h1.set zb yn .dead;have yo:E.length+3≠c:=λe=>by rw[e,h2]at zb;injection zb with e2;rw[<-e2]at za;simp[AObj.isLp]at za
    have yp:E.length+3≠v':=λe=>by rw[e,h3]at zb;injection zb with e2;rw[<-e2]at za;simp[AObj.isLp]at za
    have y2:=Qc yo h2 .dead;have y3:=Qc yp h3 .dead;have y4:=Qf zb .dead;generalize H'.set (E.length+3) .dead=Y at *
    have yb:Y[b]?=some (.vars [.vptr r 0]):=y1 (b,_) (by rw[z6,z7];simp);have y0:Y[0]?=some (.vars (Qj a)):=y1 (0,_) (by rw[z6,z7];simp);have y7:Y[n7]?=some (.vars [.i n]):=y1 (n7,_) (by rw[z6];simp);have y9:Y[E.length]?=some (.vars [.i pre.length]):=y1 (E.length,_) (by rw[z6];simp);have yt:TB r p m a cl Q Y:=⟨y1 (r,_) (by rw[z6,z7];simp),y1 (p,_) (by rw[z6,z7];simp),y1 (m,_) (by rw[z6,z7];simp)⟩
    repeat(refine s_ ?_;simp[Qb yb])
    refine Qm rfl rfl (y0l _ r p m a cl Q nx (yt.keep λj hj=>?_) (xa nx yk) xa (by omega)) rfl ?_
    ·have:j<Y.length:=by
      rcases hj with rfl|rfl|rfl
      ·exact Qe yt.t
      ·exact Qe yt.s
      exact Qe yt.n
     exact zH this
    rintro res Z ⟨t,p2,rfl,xl,-,-,-,hZ,-⟩;rw[hZ yk];have yq:f01 Q nx=Q:=by rw[f01,if_pos yk]
    rw[yq]at xl;rw[yl t xl];clear hZ;simp;repeat(refine s_ ?_;simp[Qb y2,Qb y9])
    have xm:∀M,(Y++M)[v']?=some (.arr 73 3 ((pre++g).map encMv)):=λM=>Qb y3 M;refine Qm rfl rfl (u1o (Y++[AObj.vars [.list (cc.map encL)],.vars [.i t]]) v' pre.length t (Y.length+1) pre g (by rw[zF (by omega)];simp) (xm _) (by omega) rfl) rfl ?_;rintro _ _ ⟨rfl,L,rfl⟩;simp;repeat(refine s_ ?_;simp)
    have w1:=y1.app ([AObj.vars [.list (cc.map encL)],.vars [.i t]]++L);have w2:=Qb y2 ([AObj.vars [.list (cc.map encL)],.vars [.i t]]++L);have w3:=xm ([AObj.vars [.list (cc.map encL)],.vars [.i t]]++L);have w4:=Qb y4 ([AObj.vars [.list (cc.map encL)],.vars [.i t]]++L);have w5:(Y++([AObj.vars [.list (cc.map encL)],.vars [.i t]]++L))[Y.length]?=some (.vars [.list (cc.map encL)]):=by rw[zF (by omega)];simp
    have w6:(Y++([AObj.vars [.list (cc.map encL)],.vars [.i t]]++L))[Y.length+1]?=some (.vars [.i t]):=by rw[zF (by omega)];simp
    have w7:=Qb y7 ([AObj.vars [.list (cc.map encL)],.vars [.i t]]++L);have w0:=Qb y0 ([AObj.vars [.list (cc.map encL)],.vars [.i t]]++L);have w9:=Qb y9 ([AObj.vars [.list (cc.map encL)],.vars [.i t]]++L);have xn:((a.types.toNat:Nat):Int)=a.types:=by have:=zn.types;omega
    simp only[uV,List.nil_append]at w0 w1 w2 w3 w4 w5 w6 w7 w9;generalize Y++AObj.vars [.list (cc.map encL)]::AObj.vars [.i t]::L=W at *;generalize Y.length+1=i12 at *;generalize Y.length=i10 at *
    have xo:∀p∈zg,p.2≠ .dead:=by rw[z6,z7];simp[Rs]
    have yr:∀p∈zg,p.2≠ .vars [.i a.types,.sl f' 1 0 (n+1),.sl v' 3 0 (pre.length+g.length)]:=by rw[z6,z7];simp[Rs]
    have zy:∀p∈zg,p.2≠ .arr 73 3 ((pre++g).map encMv):=by rw[z6,z7];simp[Rs]
    rw[zW]at w2;have xp:v'≠c:=λe=>by rw[e,w2]at w3;simp at w3
    have yu:v'≠E.length+3:=λe=>by rw[e,w4]at w3;simp at w3
    have yv:c≠E.length+3:=λe=>by rw[e,w4]at w2;simp at w2
    have lc:=Qe w2;have lv:=Qe w3;have lq:=Qe w4;refine kpA [(1,.vptr 0 0),(6,.vptr c 0),(7,.vptr n7 0),(9,.vptr E.length 0),(10,.vptr i10 0),(12,.vptr i12 0),(13,.i (w1f g t)),(63,.bool (decide (w1f g t<0)))] ?_;cases hfi:g.findIdx? λm:Mv=>decide (m.dst=(t:Int))with
    |none=>
     have yw:w1f g t= -1:=by rw[w1f,hfi]
     have zl:Ym n g t cc=g++[⟨n,t,cc⟩]:=by rw[Ym,hfi]
     rw[yw,zl];refine Qk rfl ?_;simp;repeat(refine s_ ?_;simp)
     refine drT [11,13] (.pv 0 7 (.one 7 (.one 8 (.val 9 (.one 10 (.one 11 (.val 12 (.one 13 (.done))))))))) ?_;simp[w0,w2,w5,w6,w7];refine Qp W.length (e:=70) (c:=1) (xs:=[encP cc]) (by simp) ?_;simp;have xq:=Vz a.types.toNat [cc] (by have:=zn.types;omega) (λp hp=>by rw[zP.1 hp];exact zi.2.2.2.1) (λj hj=>y2d zi.2.2.2.1 zi.2.2.2.2 hj) (by simp);rw[xn,k2z zi.2.2.2.1]at xq;refine pcL (xq) ?_;simp;have w2b:∀M,(W++M)[c]?=some (.vars [.i a.types,.sl f' 1 0 (n+1),.sl v' 3 0 (pre.length+g.length)]):=λM=>Qb w2 M;have w2c:∀M,(W.set v' .dead++M)[c]?=some (.vars [.i a.types,.sl f' 1 0 (n+1),.sl v' 3 0 (pre.length+g.length)]):=λM=>Qb (Qc xp w2 _) M;have zv:((pre++g).map encMv).length=pre.length+g.length:=by simp
     have ve:=(w1.set w3 zy .dead)
     generalize yx:(pre++g).map encMv=mm at *;refine apS T23 T73 ?_
     simp[Qb w3,Qg w3,w2b,w2c,zv];refine⟨by simp[Wo,Qb w3,Qg w3,w2b,w2c,zv]<;>omega,?_⟩;repeat(refine s_ ?_;simp)
     have zm:((W.set v' AObj.dead++[AObj.dead,AObj.arr 73 3 [.agg [.i n,.i t,.list (cc.map encL)]],AObj.arr 73 3 (mm++[.agg [.i n,.i t,.list (cc.map encL)]])]).set c (AObj.vars [.i a.types,.sl f' 1 0 (n+1),.sl (W.length+2) 3 0 (pre.length+g.length+1)]))[E.length+3]?=some .dead:=by rw[zE yv,zH (by simpa using lq),zE yu];exact w4
     refine⟨zm,rfl,((ve.app _).set (w2c _) yr _).set zm xo _,W.length+2,?_,?_,?_⟩
     ·rw[zE (Ne.symm yv),zK (by simp;omega)];simp[Nat.add_assoc]
     ·rw[zE (by omega),zE (by omega),zF (by simp)];rw[<-yx];simp
     rw[fq,zK (Qe zm)]
    |some i=>
     have yw:w1f g t=i:=by rw[w1f,hfi]
     obtain⟨xr,hid,-⟩:=xM.1 hfi;have xt:g[i]?=some g[i]:=zI xr;have zl:Ym n g t cc=g.set i { g[i]with on:=Td g[i].on cc }:=by rw[Ym,hfi];simp[xt]
     rw[yw,zl];refine Qa rfl (λh=>by simp at h;omega) (λ_=>?_);have vf:IntKind.i64.wrap ((pre.length:Int)+i)=pre.length+i:=wrap_i64 _ (by omega) (by omega);have yy:(pre.length:Int)+i<pre.length+g.length:=by omega
     have vg:(0:Int)<=(pre.length:Int)+i:=by omega
     have vh:((pre.length:Int)+i).toNat=pre.length+i:=by omega
     repeat(refine s_ ?_;simp[w2,w9,vf,yy,vg,vh])
     have y8:((pre++g).map encMv)[pre.length+i]?=some (.agg [.i g[i].src,.i g[i].dst,.list (g[i].on.map encL)]):=by rw[yR,zF (by simp)];simp[xt]
     have yz:((pre++g).map encMv).length=pre.length+g.length:=by simp
     generalize yx:(pre++g).map encMv=mm at *
     have x0:yQ 2=[0,1]:=rfl;refine drT [12] (.pv 0 8 (.one 8 (.one 9 (.val 10 (.val 11 (.one 12 (.done))))))) ?_;simp[w0,w3,w5,y8,yz,x0];refine Qp W.length (e:=70) (c:=1) (xs:=[encP g[i].on,encP cc]) (by simp) ?_;simp;have yc:=zL xr;have xu:=Vz a.types.toNat [g[i].on,cc] (by have:=zn.types;omega) (λp hp=>by
      simp only[yB,uf,or_false]at hp;rcases hp with rfl|rfl
      ·exact zj _ yc
      exact zi.2.2.2.1) (λj hj=>v2p (zj _ yc) zi.2.2.2.1 (ym _ yc) zi.2.2.2.2 hj) (by simp)
     rw[xn,u2t (zj _ yc) zi.2.2.2.1]at xu;have w3b:∀M,(W++M)[v']?=some (.arr 73 3 mm):=λM=>Qb w3 M;refine pcL (xu) ?_;simp[w3b,y8,Qg w3];repeat(refine s_ ?_;simp)
     have zm:(W.set v' (AObj.arr 73 3 (mm.set (pre.length+i) (.agg [.i g[i].src,.i g[i].dst,.list ((Td g[i].on cc).map encL)])))++[AObj.dead])[E.length+3]?=some .dead:=by rw[zH (by simpa using lq),zE yu];exact w4
     refine⟨zm,rfl,(((w1.set w3 zy _).app _).set zm xo _),v',?_,?_,?_⟩
     ·rw[zE (Ne.symm yv),zH (by simpa using lc),zE xp];rw[w2]
     ·rw[zE (Ne.symm yu),zH (by simpa using lv),zK lv];rw[<-yx,yR,vX _ _ (by simp)];simp[tj]
     rw[fq,zK (Qe zm)]
   rintro _ H' ⟨v',h1,h2,h3,h4⟩;exact⟨h1,v',by simpa using h2,by simpa using h3,_,_,_,_,h4.trans fq⟩
  rintro res H' ⟨v',h1,h2,h3,⟨sl',ps',a',b',h6⟩⟩;refine⟨true,none,100,sl',ps',a',b',by simpa using h6,?_⟩;simp;have yo:E.length+3≠c:=λe=>by rw[e,h2]at h6;simp at h6
  have yp:E.length+3≠v':=λe=>by rw[e,h3]at h6;simp at h6
  have y1:=h1.set h6 (by rw[z6,z7];simp[Rs]) .dead;have y2:=Qc yo h2 .dead;have y3:=Qc yp h3 .dead;generalize H'.set (E.length+3) .dead=Y at *
  repeat(refine s_ ?_;simp[hw])
  refine lkA [(1,.vptr 0 0),(2,.vptr 1 0),(3,.i 0),(4,.vptr b 0),(6,.vptr c 0),(30,.sl p 1 0 Q.length),(31,.i Q.length),(32,.i (n+1:Nat))] ?_;refine xk f' v' Y ⟨by omega,λx hx=>y1 x (by rw[z6];exact yY _ hx),y2,y1 (f',_) (by rw[z6];simp),y3⟩ (by omega)
 have x2:n=Q.length:=by simp at y8;omega
 subst x2;have zz:Hj a cl Q Q.length=(Ia a cl Q).mv:=j14 a cl Q;have x3:(Q.take Q.length).map (Pr a)=(Ia a cl Q).fin:=by rw[zY];exact(u0g a cl Q).symm
 have vi:(Ia a cl Q).fin.length=Q.length:=by rw[u0g];simp
 have vj:(Ia a cl Q).mv.length<=65536:=by rw[<-zz];exact y1f a cl Q wb zd
 rw[zz]at gc gv;rw[x3]at gf;rw[<-vi]at gc;have vk:(Ia a cl Q).types=a.types:=f0w a cl Q;have yy:Xq (Ia a cl Q)=if Cw (Ia a cl Q)then(5,Yj)else(0,Ia a cl Q):=u0d _
 rw[yy];generalize Ia a cl Q=d at *
 have g1:G[1]?=some (.vars [.i 0,.nils,.nils]):=hF (1,_) (by rw[z7];simp);have yg:v≠c:=λe=>by rw[e,gc]at gv;simp at gv
 have zt:f≠v:=λe=>by rw[e,gv]at gf;simp at gf
 have yd:f≠c:=λe=>by rw[e,gc]at gf;simp at gf
 have vl:f≠1:=λe=>by rw[e,g1]at gf;simp at gf
 have vm:v≠1:=λe=>by rw[e,g1]at gv;simp at gv
 have vo:c≠1:=λe=>by rw[e,g1]at gc;simp at gc
 refine kpA [(2,.vptr 1 0),(3,.i 0),(6,.vptr c 0)] ?_;refine Q0 v gv c gc ?_;simp[zt];rw[zT (by simp)];have x4:=Qe gc;have vp:=Qe gf;refine Q3 λZ hZ=>?_;have zc:Z[c]?=some (.vars [.i d.types,.sl f 1 0 d.fin.length,.list (d.mv.map encMv)]):=by rw[hZ,vk];exact zK (by simpa using x4)
 have zf:Z[f]?=some (.arr 4 1 (d.fin.map .bool)):=by rw[hZ,zE (Ne.symm yd),zE (Ne.symm zt)];exact gf
 have z1:Z[1]?=some (.vars [.i 0,.nils,.nils]):=by rw[hZ,zE vo,zE vm];exact g1
 clear hZ;repeat(refine s_ ?_;simp[zc])
 refine Qm rfl rfl (Lm Z f d zf (by omega) (by omega)) rfl ?_;rintro res Y ⟨hr,xv⟩;have y5:=(xv 1 (Qe z1)).trans z1;have vq:=(xv f (Qe zf)).trans zf;have x0:∀X,(Y.set 1 X)[1]?=some X:=λX=>Qf y5 X;rcases hr with⟨hb,rfl⟩|⟨hb,rfl⟩
 ·rw[hb];simp[y5];repeat(refine s_ ?_;simp[x0])
  exact⟨rfl,rfl,rfl⟩
 rw[hb];simp[y5];refine kpA [(2,.vptr 1 0),(3,.i 0)] ?_;refine Q0 f (Qc (Ne.symm vl) vq _) 1 (Qf y5 _) ?_;simp;rw[zT (by simp)];refine Q3 λX hX=>?_;have x1:X[1]?=some (.vars [.i d.types,.list (d.fin.map .bool),.list (d.mv.map encMv)]):=by rw[hX];exact zK (by have:=Qe y5;simpa using this)
 repeat(refine s_ ?_;simp[x1])
end
section
open Go.RowKit
def w2l{a:Aut}(h:(W7 a).1=0):OkA (W7 a).2:=by
 have h0:(Ay a).1=0:=by
  by_cases hs:(Ay a).1=0
  ·exact hs
  rw[W7,if_pos hs]at h;exact absurd h hs
 obtain⟨z8,cl,Q,z7,za,z1,z6,_,_⟩:=w0i h0;have hd:W7 a=Xq (Ia a cl Q):=by rw[W7,z7];simp
 rw[hd]at h |-;have hw:=w2s z1 z6;have e:Xq (Ia a cl Q)=(0,(Xq (Ia a cl Q)).2):=Prod.ext h rfl;have h2:=d03 hw e;rw[h2.1];exact h2.1▸h2.2
def U1(l:List Bool)(i:Nat):List Bool:=l.mapIdx λk b=>if k<i then !b else b
def k0p(l:List Bool):U1 l 0=l:=by refine xT (by simp[U1]) λk h1 h2=>by simp[U1]
def c0k(l:List Bool):U1 l l.length=l.map (!·):=by
 refine xT (by simp[U1]) λk h1 h2=>?_;have:k<l.length:=by simpa[U1]using h1
 simp[U1,this]
def v14(l:List Bool)(i:Nat):(U1 l i).length=l.length:=by simp[U1]
def f08{l:List Bool}{i:Nat}(h:i<l.length):((U1 l i).map AV.bool)[i]?=some (.bool l[i]):=by simp[U1,h]
def c02{l:List Bool}{i:Nat}(h:i<l.length):((U1 l i).map AV.bool).set i (.bool (!l[i]))=(U1 l (i+1)).map AV.bool:=by
 refine xT (by simp[U1]) λk h1 h2=>?_;have hk:k<l.length:=by simpa[U1]using h2
 rw[tW];by_cases e:i=k
 ·subst e;simp[U1]
 rw[if_neg e];simp only[U1,ut,List.getElem_mapIdx];by_cases h3:k<i
 ·rw[if_pos h3,if_pos (by omega)]
 rw[if_neg h3,if_neg (by omega)]
attribute [local irreducible] W7 Ad U1
def Bp(a:Aut):PC prog 16 [encA a] (λr=>r= .tup [encA (g0t a).2,.i (g0t a).1]):=by
 refine pcB func16 results16 ntmps16 ?_;simp only[Qd];simp only[encA];repeat(refine s_ ?_;simp)
 refine pcL (T1 a) ?_;simp;repeat(refine s_ ?_;simp)
 refine Qa rfl (λh=>?_) (λh=>?_)
 ·have h':(W7 a).1≠0:=by simpa using h
  have hc:g0t a=((W7 a).1,Yj):=by rw[g0t,if_pos h']
  rw[hc];repeat(refine s_ ?_;simp)
  exact⟨rfl,rfl,rfl⟩
 have h':(W7 a).1=0:=by simpa using h
 have z7:=w2l h';have zh:g0t a=if(Ad (W7 a).2).1≠0 then((Ad (W7 a).2).1,Yj)else(0,P1 (Ad (W7 a).2).2):=by rw[g0t,if_neg (λk=>k h')]
 rw[zh];generalize (W7 a).2=d at *
 repeat(refine s_ ?_;simp)
 refine Qm rfl rfl (Gk _ d z7) rfl ?_;rintro r H' ⟨hr,hk⟩;have z8:=hk 1 (by simp);simp at z8;rcases hr with⟨e,he,ze,rfl⟩|⟨bb,f,he,rfl,hf,zi⟩
 ·rw[he];simp;repeat(refine s_ ?_;simp)
  refine Qa rfl (λ_=>?_) (λh=>by simp at h;exact absurd h ze);have k2:∀L Y,((H'++L).set 1 Y)[1]?=some Y:=λL Y=>Qf (Qb z8 L) Y;repeat(refine s_ ?_;simp[Qb z8,k2])
  rw[if_neg ze];exact⟨⟨rfl,rfl,rfl⟩,rfl⟩
 rw[he];have zo:bb.fin.length<=256:=by have:=(Cu z7 he).1.fin;omega
 simp;repeat(refine s_ ?_;simp)
 refine Qk rfl ?_;simp;repeat(refine s_ ?_;simp)
 have zf:f≠1:=by simp at zi;omega
 have zp:=Qe hf;refine kpA [(2,.vptr 1 0),(3,.i 0),(6,.vptr H'.length 0),(28,.i bb.fin.length),(29,.i (0:Nat))] ?_;have q6:(H'++[AObj.vars [.i bb.types,.sl f 1 0 bb.fin.length,.list (bb.mv.map encMv)]])[H'.length]?=some (.vars [.i bb.types,.sl f 1 0 bb.fin.length,.list (bb.mv.map encMv)]):=by simp
 have qf:=Qb hf [AObj.vars [.i bb.types,.sl f 1 0 bb.fin.length,.list (bb.mv.map encMv)]];have q1:=Qb z8 [AObj.vars [.i bb.types,.sl f 1 0 bb.fin.length,.list (bb.mv.map encMv)]];generalize H'++[AObj.vars [.i bb.types,.sl f 1 0 bb.fin.length,.list (bb.mv.map encMv)]]=G at *
 have zj:f≠H'.length:=by omega
 have zk:H'.length≠1:=by have:=Qe z8;omega
 generalize H'.length=c at *;refine lpV (F:=λ(u:Nat×List AObj)=>⟨[(2,.vptr 1 0),(3,.i 0),(6,.vptr c 0),(28,.i bb.fin.length),(29,.i u.1)],u.2⟩)
  (λu=>u.1<=bb.fin.length/\u.2[c]?=some (.vars [.i bb.types,.sl f 1 0 bb.fin.length,.list (bb.mv.map encMv)])/\u.2[f]?=some (.arr 4 1 ((U1 bb.fin u.1).map .bool))/\u.2[1]?=some (.vars [.i 0,.nils,.nils])) (λu=>bb.fin.length - u.1) ?_ (0,G) ⟨by simp,q6,by rw[k0p];exact qf,q1⟩
 clear q6 qf q1;clear G;rintro⟨i,G⟩ ⟨hi,gc,gf,g1⟩ ih;simp only at hi gc gf g1 ih |-;repeat(refine s_ ?_;simp)
 refine Qa rfl (λzl=>?_) (λzm=>?_)
 ·have z6:i<bb.fin.length:=by simpa using zl
  have hw:=wz i (by omega);have za:=f08 z6;have hst:=c02 z6;have zn:((U1 bb.fin i).map AV.bool).length=bb.fin.length:=by rw[yE,v14]
  have zg:=λG'=>ih (i+1,G');simp only[<-hst]at zg;clear hst;generalize (U1 bb.fin i).map AV.bool=xs at *
  have zb:∀hh,xs[i]'hh= .bool bb.fin[i]:=λhh=>by rw[zI hh]at za;exact Option.some.inj za
  repeat(refine s_ ?_;simp)
  refine drT [10] (.pv 0 10 (.one 10 (.done))) ?_;simp[gc,gf,za,zb,zn,z6];repeat(refine s_ ?_;simp[hw])
  exact lkB (zg _ ⟨by omega,Qc zj gc _,Qf gf _,Qc zf g1 _⟩ (by omega))
 have zd:i=bb.fin.length:=by simp at zm;omega
 subst zd;rw[c0k]at gf;refine Q0 f gf c gc ?_;simp;rw[zT (by simp)];refine Q3 λZ hZ=>?_;have zc:Z[c]?=some (.vars [.i bb.types,.list ((bb.fin.map (!·)).map .bool),.list (bb.mv.map encMv)]):=by rw[hZ,zK (by have:=Qe gc;simpa using this)];simp
 have z1:Z[1]?=some (.vars [.i 0,.nils,.nils]):=by rw[hZ,zE zk,zE zf];exact g1
 clear hZ;have z2:∀X,(Z.set 1 X)[1]?=some X:=λX=>Qf z1 X;repeat(refine s_ ?_;simp[zc,z1,z2])
 refine⟨rfl,?_,rfl⟩;simp[P1]
end
section
open Go.RowKit
attribute [local irreducible] Wu
attribute [local irreducible] Ad z07 v1d Ed z1e Wt
end
section
open Go.RowKit
section
variable {P:Program} [Env P] {T:TT} {nt k:Nat} {S:AS}
def Y0 (hT:TOk P T) (hm:P.follows .mixedOrders=true) {Q:Exit->AS->Prop} {id:Nat} {l:List Oper} (Wr:List Nat) (p:PlanM) (Ph:AS->Prop) (hd:Us nt l=true)
  (hp:(Region.noSelect l.toArray && p.size==l.length && U5 l.toArray (Im l []) Wr p (Array.replicate l.length false))=true)
  (h:I3 P T nt k l.toArray Wr.contains Ph p S) (hn:∀S',Ph S'->Q .normal S'):AWP P nt k (.region id l.toArray true) Q S:=
 (Js (Q:=λe S=>e= .normal/\Ph S) hT hm Wr p hd hp (E3 (λ_ h=>⟨rfl,h⟩) p S h)).mono λe S ⟨he,hr⟩=>by subst he;exact hn S hr
end
attribute [local irreducible] Rg upL
end
end Go.Abs
