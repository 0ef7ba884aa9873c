/- Part Xg of the proof: steps on the way to the last part. No condition. -/
import Derived.Test.YtjmkolhkojgjpaaGreatDoorXf
import Derived.Test.YtjmkolhkojgjpaaGreatDoorXc
import Derived.Test.YtjmkolhkojgjpaaGreatDoorXd
import Derived.Shelf.Small.Bits
import Derived.Shelf.Strconv.Itoa0
import Derived.Shelf.Strconv.Itoa1
import Derived.Shelf.LaysM
import Derived.Shelf.Strconv.Itoa2
import Derived.Shelf.Strconv.AppendUint10
import Derived.Shelf.Strconv.AppendInt10
import Derived.Shelf.Strconv.AppendIntPublic10
import Derived.Test.YtjmkolhkojgjpaaGreatDoorProg
import Derived.Lib.AppendIntMem
import Derived.Lib.ItoaLen
import Derived.Lib.Slices
import Derived.Lib.Hide
import Derived.Laws.IdiomStrings
import Derived.OwnWalk
import Derived.WalkKit
import Derived.BigCall
set_option linter.all false
open List renaming getElem?_eq_some_iff->zB,getElem?_set_ne->zE,getElem?_append_left->zF,getElem?_set_self->zK,getElem?_eq_getElem->zI,getElem?_append_right->zH,mem_map->zQ,mem_range->xJ,length_map->yO,length_filter_le->yX,range->yU,range_succ->wU,take_length->yI,take_succ_eq_append_getElem->zU,map_append->yR,append_nil->xG,take_of_length_le->zV,length_append->zW,getD->yQ,ext_getElem?->xL,length_set->wT,getElem?_eq_none->yY,replicate->yB,length_singleton->vV,map_congr_left->y_,mem_of_mem_take->xX,getElem_of_mem->yZ,length_take->xV,any_eq_true->wM,ext_getElem->xZ,getElem_map->uA,getElem_range->tF,map_map->vT,all_eq_true->zZ,map_cons->xC,map_nil->wD,getElem_mem->zL,take_zero->wd,foldl_nil->th,eq_nil_or_concat->wW,concat_eq_append->wX,mem_append->zT,mem_singleton->zO,getElem?_map->zS,mem_of_getElem?->zJ,mem_mapIdx->tT,getElem?_mapIdx->vK,length_cons->yW,getElem?_cons_succ->td,mem_append_left->yV,mem_replicate->uG,foldl_append->wQ,append_assoc->xQ,flatMap_append->wJ,drop_length->xY,map_set->se,length_pos_iff->uK,mem_of_mem_eraseIdx->ta,length_eraseIdx->uF,any_eq_false->vv
open Nat renaming le_trans->yP,le_refl->zR
open Int renaming le_refl->xK
open Bool renaming or_eq_true->wV,eq_false_iff->uf
open Option renaming map_eq_some_iff->zP
set_option maxHeartbeats 8000000
set_option linter.unusedSimpArgs false
set_option maxRecDepth 100000
open Go.Proofs.Tryz
namespace Go.Abs
open Go Go.Proofs
section
structure CM (H:List AObj) (a:Aut) (G:List AObj) (f p c:Nat) (xs:List AV):Prop where
 b:G[H.length]?=some (.vars (Qk a))
 r:G[H.length+1]?=some (.vars [.i 0,.nils,.nils])
 k:∀i,i<H.length->G[i]? =H[i]?
 ce:G[c]?=some (.vars [.i a.types,.sl f 1 0 a.fin.length,.sl p 3 0 xs.length])
 fe:G[f]?=some (.arr 4 1 (a.fin.map .bool))
 m:G[p]?=some (.arr 73 3 xs)
 hf:H.length+2<=f
 hc:H.length+2<=c
 hp:H.length+2<=p
def CM.keepAll{H:List AObj}{a:Aut}{G G':List AObj}{f p c:Nat}{xs:List AV}(h:CM H a G f p c xs)(hk:∀j,j<G.length->G'[j]? =G[j]?):CM H a G' f p c xs:=by have l1:=(zB.1 h.b).1;have l2:=(zB.1 h.r).1;have l3:=(zB.1 h.ce).1;have l4:=(zB.1 h.fe).1;have l5:=(zB.1 h.m).1;exact⟨(hk _ l1).trans h.b,(hk _ l2).trans h.r,λi hi=>(hk i (by omega)).trans (h.k i hi),(hk _ l3).trans h.ce,(hk _ l4).trans h.fe,(hk _ l5).trans h.m,h.hf,h.hc,h.hp⟩
def CM.ne1{H:List AObj}{a:Aut}{G:List AObj}{f p c:Nat}{xs:List AV}(h:CM H a G f p c xs):p≠c/\p≠f/\c≠f:=by
 refine⟨λe=>?_,λe=>?_,λe=>?_⟩
 ·have h1:=h.ce;have h2:=h.m;subst e;rw[h1]at h2;simp at h2
 ·have h1:=h.fe;have h2:=h.m;subst e;rw[h1]at h2;simp at h2
 have h1:=h.fe;have h2:=h.ce;subst e;rw[h1]at h2;simp at h2
def CM.put{H:List AObj}{a:Aut}{G:List AObj}{f p c:Nat}{xs:List AV}(h:CM H a G f p c xs)(A:AObj)(ys:List AV):
  CM H a ((G.set p .dead++[A,.arr 73 3 ys]).set c (.vars [.i a.types,.sl f 1 0 a.fin.length,.sl (G.length+1) 3 0 ys.length])) f (G.length+1) c ys:=by
 obtain⟨n1,n2,n3⟩:=h.ne1;have l3:=(zB.1 h.ce).1;have l5:=(zB.1 h.m).1;have hp:=h.hp;have hc:=h.hc;have hf:=h.hf;have low:∀i x,i≠p->i≠c->G[i]?=some x->((G.set p .dead++[A,.arr 73 3 ys]).set c (.vars [.i a.types,.sl f 1 0 a.fin.length,.sl (G.length+1) 3 0 ys.length]))[i]?=some x:=λi x e1 e2 hx=>by rw[zE (λe=>e2 e.symm),zF (by have:=(zB.1 hx).1;simpa using this),zE (λe=>e1 e.symm)];exact hx
 refine⟨low _ _ (by omega) (by omega) h.b,low _ _ (by omega) (by omega) h.r,λi hi=>?_,zK (by simp;omega),low _ _ (by omega) (by omega) h.fe,?_,hf,hc,by omega⟩
 ·have hg:=h.k i hi;have z1:i<G.length:=by omega
  rw[zI z1]at hg;rw[low i _ (by omega) (by omega) (zI z1)];exact hg
 rw[zE (by omega),zH (by simp)];simp
def CM.cell{H:List AObj}{a:Aut}{G:List AObj}{f p c:Nat}{xs:List AV}(h:CM H a G f p c xs)(L:List AObj):(G.set p .dead++L)[c]?=some (.vars [.i a.types,.sl f 1 0 a.fin.length,.sl p 3 0 xs.length]):=
 Qa (Qd h.ne1.1 h.ce _) L
def CM.frz{H:List AObj}{a:Aut}{G:List AObj}{f p c:Nat}{xs:List AV}(h:CM H a G f p c xs)(X:AObj):
  ((G.set p .dead).set c X)[H.length]?=some (.vars (Qk a))/\((G.set p .dead).set c X)[H.length+1]?=some (.vars [.i 0,.nils,.nils])/\((G.set p .dead).set c X)[c]?=some X/\((G.set p .dead).set c X)[f]?=some (.arr 4 1 (a.fin.map .bool))/\∀i,i<H.length->((G.set p .dead).set c X)[i]? =H[i]? :=by
 obtain⟨n1,n2,n3⟩:=h.ne1;have hp:=h.hp;have hc:=h.hc;have hf:=h.hf;refine⟨Qd (by omega) (Qd (by omega) h.b _) _,Qd (by omega) (Qd (by omega) h.r _) _,Qg (Qd n1 h.ce _) _,Qd n3 (Qd n2 h.fe _) _,λi hi=>?_⟩;rw[zE (by omega),zE (by omega)];exact h.k i hi
def z0a(l:List Iv):(Ez l).length<=l.length:=by unfold Ez;have:=Rs (Ox l) [];rw[w1w]at this;simpa using this
def q2c{T:Nat}{l:List Prd}{k:Nat}(h:∀i,i<T->(Qv l i).length<=k):∀s∈Ux T l,s.length<=k:=by intro s hs;obtain⟨i,hi,rfl⟩:=zQ.1 hs;exact yP (z0a _) (h i (xJ.1 hi))
def y0x{a:Aut}(h:OkA a)(s:Int)(i:Nat):(Qv (Bo a s) i).length<=1000000:=by
 have h1:(Bo a s).length<=2048:=by unfold Bo;rw[yO];exact yP (yX _ _) h.mvs
 have h2:∀p∈Bo a s,PCk a.types.toNat p:=λp hp=>by obtain⟨m,hm,rfl⟩:=zQ.1 hp;exact(h.mv m (List.mem_filter.1 hm).1).on
 have:=I8 h2 i;omega
def q1s(a:Aut)(k:Nat):List Mv:=(yU k).filterMap λs:Nat=>if Wj (Wz a s)then none else some ⟨s,a.fin.length,Wz a s⟩
def w07(a:Aut):q1s a a.fin.length=Ta a (Wz a):=rfl
def f0n(a:Aut)(k:Nat):q1s a (k+1)=q1s a k++(if Wj (Wz a k)then []else [⟨k,a.fin.length,Wz a k⟩]):=by unfold q1s;rw[wU,List.filterMap_append];cases h:Wj (Wz a k)<;>simp[h]
def z0o(a:Aut)(k:Nat):(q1s a k).length<=k:=by unfold q1s;exact yP (List.length_filterMap_le _ _) (by simp)
def f0k(a:Aut):q1s a 0=[]:=rfl
def y1r(a:Aut)(s:Int)(k:Nat):List Prd:=((a.mv.take k).filter λm=>decide (m.src=s)).map (·.on)
def y0z(a:Aut)(s:Int):y1r a s a.mv.length=Bo a s:=by rw[y1r,yI];rfl
def w1h(a:Aut)(s:Int)(k:Nat)(h:k<a.mv.length):y1r a s (k+1)=y1r a s k++(if a.mv[k].src=s then [a.mv[k].on]else []):=by unfold y1r;rw[zU h,List.filter_append,yR];by_cases hb:a.mv[k].src=s<;>simp[hb]
def y09(a:Aut)(s:Int)(k:Nat):(y1r a s k).length<=a.mv.length:=by unfold y1r;rw[yO];exact yP (yX _ _) (by simp;omega)
attribute [local irreducible] q1s Wz Wj Ux T6 Bo
def Fi(H:List AObj)(a:Aut)(ha:OkA a):FC prog 55 [encA a] H
  (λr H'=>((∃e,Il a=(e,Ty)/\e≠0/\r= .tup [.agg [.i 0,.nils,.nils],.i e])\/
   (∃b f,Il a=(0,b)/\r= .tup [.agg [.i b.types,.sl f 1 0 b.fin.length,.list (b.mv.map encMv)],.i 0]/\H'[f]?=some (.arr 4 1 (b.fin.map .bool))/\H.length<=f))/\∀i,i<H.length->H'[i]? =H[i]?):=by
 have zv:=ha.fin;have zw:=ha.mvs;refine fcB func55 results55 ntmps55 ?_;simp only[Qf];simp only[encA];repeat(refine s_ ?_;simp)
 refine J6 (P:=prog) tOk mixed [10] (.val 0 (.val 1 (.val 2 (.val 3 (.val 5 (.val 6 (.two 4 (.two 7 (.val 8 (.one 9 (.one 10 (.done)))) 9 (.one 7 (.val 8 (.one 10 (.done))))) 9 (.one 4 (.one 7 (.val 8 (.one 10 (.done)))))))))))) (λS'=>∃f p c,CM H a S'.hp f p c (a.mv.map encMv)/\look S'.sl 1=some (.vptr H.length 0)/\look S'.sl 2=some (.vptr (H.length+1) 0)/\look S'.sl 3=some (.i 0)/\look S'.sl 4=some (.vptr c 0)) rfl (by kernel_rfl) ?_ ?_
 ·simp;refine⟨?_,?_⟩
  ·refine A5 rfl rfl (by simp) (Na a.fin (by omega)) rfl ?_;rintro _ rfl;simp;refine⟨?_,?_⟩
   ·refine A5 rfl rfl (by simp) (J3 a.mv (by omega)) rfl ?_;rintro _ rfl;simp;exact⟨H.length+2,H.length+3,by simp,by simp,λi hi=>zF hi,by simp,by simp,by simp,by omega,by omega,by omega⟩
   refine A5 rfl rfl (by simp) (J3 a.mv (by omega)) rfl ?_;rintro _ rfl;simp;exact⟨H.length+2,H.length+4,by simp,by simp,λi hi=>zF hi,by simp,by simp,by simp,by omega,by omega,by omega⟩
  refine A5 rfl rfl (by simp) (Na a.fin (by omega)) rfl ?_;rintro _ rfl;simp;refine A5 rfl rfl (by simp) (J3 a.mv (by omega)) rfl ?_;rintro _ rfl;simp;exact⟨H.length+3,H.length+4,by simp,by simp,λi hi=>zF hi,by simp,by simp,by simp,by omega,by omega,by omega⟩
 rintro⟨sl,G⟩ ⟨f,p,c,g,e1,e2,e3,e4⟩;simp only at g e1 e2 e3 e4;refine Qn (sl':=[(1,.vptr H.length 0),(2,.vptr (H.length+1) 0),(3,.i 0),(4,.vptr c 0)]) ?_ (by simp[e1,e2,e3,e4]);have g1:=g.b;repeat(refine s_ ?_;simp[g1])
 refine Qj (Qc (sl':=[(1,.vptr H.length 0),(2,.vptr (H.length+1) 0),(3,.i 0),(4,.vptr c 0),(5,.i a.fin.length),(27,.i a.fin.length),(28,.i (0:Nat))]) ?_ (by simp));refine Qi (F:=λ(u:Nat×Nat×List AObj)=>⟨[(1,.vptr H.length 0),(2,.vptr (H.length+1) 0),(3,.i 0),(4,.vptr c 0),(5,.i a.fin.length),(27,.i a.fin.length),(28,.i u.1)],u.2.2⟩)
  (λu=>u.1<=a.fin.length/\CM H a u.2.2 f u.2.1 c ((a.mv++q1s a u.1).map encMv)) (λu=>a.fin.length - u.1) ?_ (0,p,G) ⟨by simp,by rw[f0k,xG];exact g⟩
 clear g g1;rintro⟨s,p,G⟩ ⟨hs,g⟩ ih;simp only at hs g ih |-;repeat(refine s_ ?_;simp)
 refine Qb rfl (λzx=>?_) (λzy=>?_)
 ·have zz:s<a.fin.length:=by simpa using zx
  have hw:=wz s (by omega);have g1:∀L,(G++L)[H.length]?=some (.vars (Qk a)):=λL=>Qa g.b L;repeat(refine s_ ?_;simp[g1])
  have hst:=SL.start G 70 1;refine Qj (Qc (sl':=[(1,.vptr H.length 0),(2,.vptr (H.length+1) 0),(3,.i 0),(4,.vptr c 0),(5,.i a.fin.length),(6,.i s),(7,.sl G.length 1 0 0),(27,.i a.fin.length),(28,.i s),(33,.list (a.mv.map encMv)),(34,.i a.mv.length),(35,.i (0:Nat))]) ?_ (by simp));refine Qi (F:=λ(u:Nat×Nat×List AObj)=>⟨[(1,.vptr H.length 0),(2,.vptr (H.length+1) 0),(3,.i 0),(4,.vptr c 0),(5,.i a.fin.length),(6,.i s),(7,.sl u.2.1 1 0 (y1r a s u.1).length),(27,.i a.fin.length),(28,.i s),(33,.list (a.mv.map encMv)),(34,.i a.mv.length),(35,.i u.1)],u.2.2⟩)
   (λu=>u.1<=a.mv.length/\SL G u.2.2 u.2.1 70 1 ((y1r a s u.1).map encP)) (λu=>a.mv.length - u.1) ?_ (0,G.length,_) ⟨by simp,hst⟩
  rintro⟨k,q,E⟩ ⟨hk,s1⟩ ih2;simp only at hk s1 ih2 |-;repeat(refine s_ ?_;simp)
  refine Qb rfl (λzh=>?_) (λzi=>?_)
  ·have z7:k<a.mv.length:=by simpa using zh
   have zp:=wz k (by omega);have zb:=w1h a s k z7;have y9:=y09 a s k;have z6:=λq' E'=>ih2 (k+1,q',E');simp only[zb]at z6;clear zb;generalize y1r a s k=acc at *
   repeat(refine s_ ?_;simp[z7])
   by_cases hb:a.mv[k].src=s
   ·rw[if_pos hb]at z6;refine Qb rfl (λ_=>?_) (λh=>by simp[hb]at h);repeat(refine s_ ?_;simp)
    refine apS T87 T70 ?_;simp[Qa s1.arr,Qh s1.arr];refine⟨by simp[Wg,Qa s1.arr,Qh s1.arr]<;>omega,?_⟩;repeat(refine s_ ?_;simp[zp])
    refine Qc (sl':=[(1,.vptr H.length 0),(2,.vptr (H.length+1) 0),(3,.i 0),(4,.vptr c 0),(5,.i a.fin.length),(6,.i s),(7,.sl (E.length+2) 1 0 (acc.length+1)),(27,.i a.fin.length),(28,.i s),(33,.list (a.mv.map encMv)),(34,.i a.mv.length),(35,.i (k+1:Nat))]) ?_ (by simp);have:=z6 (E.length+2) _ ⟨by omega,s1.put [AObj.vars [AV.i a.mv[k].src,AV.i a.mv[k].dst,AV.list (a.mv[k].on.map encL)],.arr 70 1 [encP a.mv[k].on]] ((acc++[a.mv[k].on]).map encP) rfl⟩ (by omega);simpa using this
   rw[if_neg hb,xG]at z6;refine Qb rfl (λh=>by simp[hb]at h) (λ_=>?_);repeat(refine s_ ?_;simp[zp])
   refine Qc (sl':=[(1,.vptr H.length 0),(2,.vptr (H.length+1) 0),(3,.i 0),(4,.vptr c 0),(5,.i a.fin.length),(6,.i s),(7,.sl q 1 0 acc.length),(27,.i a.fin.length),(28,.i s),(33,.list (a.mv.map encMv)),(34,.i a.mv.length),(35,.i (k+1:Nat))]) ?_ (by simp);have:=z6 q _ ⟨by omega,s1.add [AObj.vars [AV.i a.mv[k].src,AV.i a.mv[k].dst,AV.list (a.mv[k].on.map encL)]]⟩ (by omega);simpa using this
  have zc:k=a.mv.length:=by simp at zi;omega
  subst zc;rw[y0z]at s1 |-;refine Ws q s1.arr ?_;simp;rw[zV (by simp)];have ya:=s1.ge;have yb:=s1.le;have g':=g.keepAll (G':=E.set q .dead) (λj hj=>by rw[zE (by omega)];exact s1.keep j hj);generalize E.set q .dead=G2 at *;clear s1 hst g1
  have g1:=g'.b;repeat(refine s_ ?_;simp[g1])
  have y0:((a.types.toNat:Nat):Int)=a.types:=by have:=ha.types;omega
  have zq:=X4 a.types.toNat (Bo a s) (by have:=ha.types;omega) (Vu ha.wfA s) (λi _=>y0x ha s i) (by have:=y09 a s a.mv.length;rw[y0z]at this;omega);rw[y0]at zq;refine pcL (zq) ?_;simp;refine pcL (v1s a.types.toNat (Ux a.types.toNat (Bo a s)) (Ao (Vu ha.wfA s)) (q2c (λi _=>y0x ha s i)) (by have:=ha.types;omega)) ?_;simp;have y1:T6 (Ux a.types.toNat (Bo a s))=Wz a s:=by unfold Wz;rfl
  rw[y1];repeat(refine s_ ?_;simp)
  refine pcL (u13 (Wz a s)) ?_;simp;repeat(refine s_ ?_;simp)
  have g3:=g'.keepAll (G':=G2++[AObj.vars [AV.list ((Wz a s).map encL)]]) (λj hj=>zF hj);have y3:(G2++[AObj.vars [AV.list ((Wz a s).map encL)]])[G2.length]?=some (AObj.vars [AV.list ((Wz a s).map encL)]):=by simp
  generalize G2++[AObj.vars [AV.list ((Wz a s).map encL)]]=G3 at *
  have zb:=f0n a s;have y4:=z0o a s;have zd:=λp' G'=>ih (s+1,p',G');simp only[zb]at zd;clear zb g';generalize q1s a s=new at *
  have y5:(a.mv++new).length=a.mv.length+new.length:=by simp
  obtain⟨d1,d2,d3⟩:=g3.ne1;have g3c:=g3.ce;have g3m:=g3.m;have g3cc:=g3.cell;rw[yO,y5]at g3c g3cc;cases hv:Wj (Wz a s)with
  |true=>
   rw[hv]at zd;refine Qr rfl ?_;simp[hv];repeat(refine s_ ?_;simp[hw])
   refine Qc (sl':=[(1,.vptr H.length 0),(2,.vptr (H.length+1) 0),(3,.i 0),(4,.vptr c 0),(5,.i a.fin.length),(27,.i a.fin.length),(28,.i (s+1:Nat))]) ?_ (by simp);have:=zd p G3 ⟨by omega,by simpa using g3⟩ (by omega);exact this
  |false=>
   rw[hv]at zd;refine Qr rfl ?_;simp[hv];repeat(refine s_ ?_;simp[g3c,y3])
   refine apS T23 T73 ?_;simp[Qa g3m,Qh g3m,g3cc,Qa g3c];refine⟨by simp[Wg,Qa g3m,Qh g3m,g3cc,Qa g3c]<;>omega,?_⟩;repeat(refine s_ ?_;simp[hw,g3cc])
   refine Qc (sl':=[(1,.vptr H.length 0),(2,.vptr (H.length+1) 0),(3,.i 0),(4,.vptr c 0),(5,.i a.fin.length),(27,.i a.fin.length),(28,.i (s+1:Nat))]) ?_ (by simp);have y6:=g3.put (.arr 73 3 [encMv (⟨s,a.fin.length,Wz a s⟩:Mv)]) ((a.mv++(new++[(⟨s,a.fin.length,Wz a s⟩:Mv)])).map encMv);have:=zd (G3.length+1) _ ⟨by omega,y6⟩ (by omega);simpa[Nat.add_assoc]using this
 have zj:s=a.fin.length:=by simp at zy;omega
 subst zj;rw[w07]at g;have zm:Il a=if(Ta a (Wz a)).isEmpty then(0,a)else La (U4 a):=rfl
 obtain⟨d1,d2,d3⟩:=g.ne1;have yc:=g.hf;have yd:=g.hc;have ye:=g.hp;have y4:(Ta a (Wz a)).length<=a.fin.length:=by rw[<-w07];exact z0o a _
 by_cases hn:Ta a (Wz a)=[]
 ·rw[hn]at zm;rw[hn,xG]at g;have gz:=g.frz (.vars [.i a.types,.sl f 1 0 a.fin.length,.list (a.mv.map encMv)]);refine Q6 p g.m c g.ce ?_;simp[d2.symm];rw[zV (by simp)];generalize (G.set p AObj.dead).set c (.vars [.i a.types,.sl f 1 0 a.fin.length,.list (a.mv.map encMv)])=E at *
  obtain⟨q1,q2,q3,q4,q5⟩:=gz;have q6:∀Y,(E.set (H.length+1) Y)[H.length+1]?=some Y:=λY=>Qg q2 Y;repeat(refine s_ ?_;simp[q1,q2,q3])
  refine Qr rfl ?_;simp;repeat(refine s_ ?_;simp[q1,q2,q3,q6])
  exact⟨⟨a,by simpa using zm,f,⟨rfl,⟨rfl,rfl⟩,rfl⟩,Qd (by omega) q4 _,by omega⟩,λi hi=>by rw[zE (by omega)];exact q5 i hi⟩
 have ze:Il a=La (U4 a):=by rw[zm,if_neg (by simpa using hn)]
 have gm:=g.ce;rw[yO,zW]at gm;have gb:=g.b;repeat(refine s_ ?_;simp[gb,gm])
 have yg:(Ta a (Wz a)).length≠0:=by simpa using hn
 refine Qb rfl (λh=>by simp at h;omega) (λh=>?_);repeat(refine s_ ?_;simp[gb])
 refine pcL (d1d a.types ha.types.1 ha.types.2) ?_;simp;repeat(refine s_ ?_;simp)
 refine Qb rfl (λh=>by simp at h) (λ_=>?_);have g3:=g.keepAll (G':=G++[AObj.vars [AV.list ((Ea a.types.toNat).map encL)]]) (λj hj=>zF hj);have za:(G++[AObj.vars [AV.list ((Ea a.types.toNat).map encL)]])[G.length]?=some (AObj.vars [AV.list ((Ea a.types.toNat).map encL)]):=by simp
 generalize G++[AObj.vars [AV.list ((Ea a.types.toNat).map encL)]]=G1 at *
 have k1:=g3.ce;rw[yO,zW]at k1;have k2:=g3.fe;have k3:∀L,(G1.set f .dead++L)[c]?=some (.vars [.i a.types,.sl f 1 0 a.fin.length,.sl p 3 0 (a.mv.length+(Ta a (Wz a)).length)]):=λL=>Qa (Qd d3.symm k1 _) L;repeat(refine s_ ?_;simp[k1])
 refine apS T22 T4 ?_;simp[Qa k2,Qh k2,Qa k1,k3];refine⟨by simp[Wg,Qa k2,Qh k2,Qa k1,k3]<;>omega,?_⟩;have lf:=(zB.1 k2).1;have lc:=(zB.1 k1).1;have lp:=(zB.1 g3.m).1;have low:∀(X:AObj) i x,i≠f->i≠c->G1[i]?=some x->((G1.set f .dead++[AObj.arr 4 1 [AV.bool false],AObj.arr 4 1 (a.fin.map AV.bool++[AV.bool false])]).set c X)[i]?=some x:=λX i x e1 e2 hx=>by rw[zE (λe=>e2 e.symm),zF (by have:=(zB.1 hx).1;simpa using this),zE (λe=>e1 e.symm)];exact hx
 have yh:=(zB.1 za).1;have r2:=low (.vars [.i a.types,.sl (G1.length+1) 1 0 (a.fin.length+1),.sl p 3 0 (a.mv.length+(Ta a (Wz a)).length)]) _ _ (by omega) (by omega) g3.r;have m2:=low (.vars [.i a.types,.sl (G1.length+1) 1 0 (a.fin.length+1),.sl p 3 0 (a.mv.length+(Ta a (Wz a)).length)]) _ _ d2 d1 g3.m;have w2:=low (.vars [.i a.types,.sl (G1.length+1) 1 0 (a.fin.length+1),.sl p 3 0 (a.mv.length+(Ta a (Wz a)).length)]) _ _ (λe=>by rw[e,k2]at za;simp at za) (λe=>by rw[e,k1]at za;simp at za) za;have c2:((G1.set f .dead++[AObj.arr 4 1 [AV.bool false],AObj.arr 4 1 (a.fin.map AV.bool++[AV.bool false])]).set c (.vars [.i a.types,.sl (G1.length+1) 1 0 (a.fin.length+1),.sl p 3 0 (a.mv.length+(Ta a (Wz a)).length)]))[c]?=some (.vars [.i a.types,.sl (G1.length+1) 1 0 (a.fin.length+1),.sl p 3 0 (a.mv.length+(Ta a (Wz a)).length)]):=Qg (k3 _) _;have f2:((G1.set f .dead++[AObj.arr 4 1 [AV.bool false],AObj.arr 4 1 (a.fin.map AV.bool++[AV.bool false])]).set c (.vars [.i a.types,.sl (G1.length+1) 1 0 (a.fin.length+1),.sl p 3 0 (a.mv.length+(Ta a (Wz a)).length)]))[G1.length+1]?=some (.arr 4 1 ((U4 a).fin.map AV.bool)):=by rw[zE (by omega),zH (by simp)];simp[U4]
 have q2:∀i,i<H.length->((G1.set f .dead++[AObj.arr 4 1 [AV.bool false],AObj.arr 4 1 (a.fin.map AV.bool++[AV.bool false])]).set c (.vars [.i a.types,.sl (G1.length+1) 1 0 (a.fin.length+1),.sl p 3 0 (a.mv.length+(Ta a (Wz a)).length)]))[i]? =H[i]? :=λi hi=>by rw[zE (by omega),zF (by simp;omega),zE (by omega)];exact g3.k i hi
 generalize (G1.set f .dead++[AObj.arr 4 1 [AV.bool false],AObj.arr 4 1 (a.fin.map AV.bool++[AV.bool false])]).set c (.vars [.i a.types,.sl (G1.length+1) 1 0 (a.fin.length+1),.sl p 3 0 (a.mv.length+(Ta a (Wz a)).length)])=E at *
 have k4:∀L,(E.set p .dead++L)[c]?=some (.vars [.i a.types,.sl (G1.length+1) 1 0 (a.fin.length+1),.sl p 3 0 (a.mv.length+(Ta a (Wz a)).length)]):=λL=>Qa (Qd d1 c2 _) L;have zt:(U4 a).mv.length=a.mv.length+(Ta a (Wz a)).length+1:=by simp[U4];omega
 have y7:(U4 a).fin.length=a.fin.length+1:=by simp[U4]
 have yi:(a.mv++Ta a (Wz a)).map encMv++[encMv ⟨a.fin.length,a.fin.length,Ea a.types.toNat⟩]=(U4 a).mv.map encMv:=by simp[U4]
 have yj:=(zB.1 c2).1;have ym:=(zB.1 m2).1;have yn:=(zB.1 f2).1;repeat(refine s_ ?_;simp[c2,w2])
 refine apS T23 T73 ?_;simp[Qa m2,Qh m2,Qa c2,k4];refine⟨by simp[Wg,Qa m2,Qh m2,Qa c2,k4]<;>omega,?_⟩;have hB:a.mv.map encMv++((Ta a (Wz a)).map encMv++[AV.agg [AV.int IntKind.i64 ↑a.fin.length,AV.int IntKind.i64 ↑a.fin.length,AV.list ((Ea a.types.toNat).map encL)]])=(U4 a).mv.map encMv:=by simp[U4]
 rw[hB];refine Q4 λZ hZ=>?_;have z1:Z[E.length+1]?=some (.arr 73 3 ((U4 a).mv.map encMv)):=by rw[hZ,zE (by omega),zH (by simp)];simp
 have z2:Z[c]?=some (.vars [.i a.types,.sl (G1.length+1) 1 0 (a.fin.length+1),.sl (E.length+1) 3 0 (a.mv.length+(Ta a (Wz a)).length+1)]):=by rw[hZ,zK (by simp;omega)]
 have zr:Z[H.length+1]?=some (.vars [.i 0,.nils,.nils]):=by rw[hZ,zE (by omega),zF (by simp;omega),zE (by omega)];exact r2
 have zf:Z[G1.length+1]?=some (.arr 4 1 ((U4 a).fin.map AV.bool)):=by rw[hZ,zE (by omega),zF (by simp;omega),zE (by omega)];exact f2
 have zk:∀i,i<H.length->Z[i]? =H[i]? :=λi hi=>by rw[hZ,zE (by omega),zF (by simp;omega),zE (by omega)];exact q2 i hi
 have zl:E.length+2=Z.length:=by rw[hZ];simp
 clear hZ;refine Qn (sl':=[(2,.vptr (H.length+1) 0),(4,.vptr c 0)]) ?_ (by simp);refine Q6 (E.length+1) z1 c z2 ?_;have zn:G1.length+1≠E.length+1:=by omega
 simp[zn,zt];rw[zV (by simp[zt])];refine Q4 λY hY=>?_;have y2:Y[c]?=some (.vars [.i a.types,.sl (G1.length+1) 1 0 (a.fin.length+1),.list ((U4 a).mv.map encMv)]):=by rw[hY,zK (by simp;omega)]
 have yr:Y[H.length+1]?=some (.vars [.i 0,.nils,.nils]):=by rw[hY,zE (by omega),zE (by omega)];exact zr
 have yf:Y[G1.length+1]?=some (.arr 4 1 ((U4 a).fin.map AV.bool)):=by rw[hY,zE (by omega),zE (by omega)];exact zf
 have yk:∀i,i<H.length->Y[i]? =H[i]? :=λi hi=>by rw[hY,zE (by omega),zE (by omega)];exact zk i hi
 have yl:Y.length=Z.length:=by rw[hY];simp
 clear hY;repeat(refine s_ ?_;simp[y2])
 rw[<-y7];refine Qu rfl rfl (Hc Y (G1.length+1) (U4 a) yf (by omega) (by omega)) rfl ?_;rintro r H' ⟨hr,zg⟩;have zo:=(zg (H.length+1) (by omega)).trans yr;have zu:∀X,(H'.set (H.length+1) X)[H.length+1]?=some X:=λX=>Qg zo X;rcases hr with⟨hb,rfl⟩|⟨hb,rfl⟩
 ·have z8:Il a=(5,Ty):=by rw[ze,La,if_pos hb]
  simp[zo];repeat(refine s_ ?_;simp[zu])
  refine⟨z8,λi hi=>?_⟩;rw[zE (by omega),zg i (by omega)];exact yk i hi
 have z8:Il a=(0,U4 a):=by rw[ze,La,hb,if_neg (by simp)]
 have y8:(U4 a).types=a.types:=rfl;simp[zo];repeat(refine s_ ?_;simp[zu])
 refine⟨⟨U4 a,z8,G1.length+1,⟨by rw[y8],⟨rfl,rfl⟩,rfl⟩,?_,by omega⟩,λi hi=>?_⟩
 ·rw[zE (by omega),zg _ (by omega)];exact yf
 rw[zE (by omega),zg i (by omega)];exact yk i hi
end
section
attribute [local irreducible] Il Wo
def Jn(a:Aut):PC prog 17 [encA a] (λr=>r= .tup [encA (Sx a).2,.i (Sx a).1]):=by
 refine pcB func17 results17 ntmps17 ?_;simp only[Qf];simp only[encA];repeat(refine s_ ?_;simp)
 refine pcL (R6 a) ?_;simp;repeat(refine s_ ?_;simp)
 refine Qb rfl (λh=>?_) (λh=>?_)
 ·have h':Wo a≠0:=by simpa using h
  have hc:Sx a=(Wo a,Ty):=by rw[Sx,if_pos h']
  rw[hc];repeat(refine s_ ?_;simp)
  exact⟨rfl,rfl,rfl⟩
 have h':Wo a=0:=by simpa using h
 have hc:Sx a=Il a:=by rw[Sx,if_neg (by simp[h'])]
 rw[hc];repeat(refine s_ ?_;simp)
 refine Qu rfl rfl (Fi _ a ((Ud a).1 h')) rfl ?_;rintro r H' ⟨hr,hk⟩;have z6:=hk 1 (by simp);simp at z6;have z8:∀X,(H'.set 1 X)[1]?=some X:=λX=>Qg z6 X;rcases hr with⟨e,he,zb,rfl⟩|⟨b,f,he,rfl,hf,za⟩
 ·rw[he];simp[z6];repeat(refine s_ ?_;simp[z8])
  exact⟨rfl,rfl,rfl⟩
 rw[he];simp[z6];have z7:f≠1:=by simp at za;omega
 refine Qn (sl':=[(2,.vptr 1 0),(3,.i 0)]) ?_ (by simp);refine Q6 f (Qd (Ne.symm z7) hf _) 1 (Qg z6 _) ?_;simp;rw[zV (by simp)];have zc:∀X,((H'.set f X).set 1 X)[1]?=some X:=λX=>Qg (Qd z7 z6 _) X;refine Q4 λZ hZ=>?_;have z1:Z[1]?=some (.vars [.i b.types,.list (b.fin.map AV.bool),.list (b.mv.map encMv)]):=by rw[hZ];exact zK (by have:=(zB.1 z6).1;simpa using this)
 repeat(refine s_ ?_;simp[z1])
end
section
def Fy(p:Nat)(xs:List Iv):AV:=if xs=[]then .nils else .sl p 2 0 xs.length
def z1q(L:Nat->Nat)(T:Nat)(p:Prd):List AV:=(yU T).map λk=>Fy (L k) (p.getD k [])
def Vr(Q:Nat->Nat)(T n:Nat):List AV:=(yU n).map λc=> .agg [.sl (Q c) 1 0 T]
def Pb(L:Nat->Nat)(T:Nat)(p:Prd):(z1q L T p).length=T:=by simp[z1q]
def C6(Q:Nat->Nat)(T n:Nat):(Vr Q T n).length=n:=by simp[Vr]
def A0(L:Nat->Nat){T k:Nat}(p:Prd)(h:k<T):(z1q L T p)[k]?=some (Fy (L k) (p.getD k [])):=by simp[z1q,h]
def z0w(Q:Nat->Nat)(T:Nat){n c:Nat}(h:c<n):(Vr Q T n)[c]?=some (.agg [.sl (Q c) 1 0 T]):=by simp[Vr,h]
def X2{p:Prd}{i:Nat}(h:i<p.length)(y:List Iv):(p.set i y).getD i []=y:=by simp[yQ,h]
def getD_set_ne{p:Prd}{i k:Nat}(h:i≠k)(y:List Iv):(p.set i y).getD k []=p.getD k []:=by simp only[yQ];rw[zE h]
structure Rows (K:List AObj) (T o:Nat) (st:List Prd) (Q:Nat->Nat) (L:Nat->Nat->Nat) (tag:Nat->Nat×Nat) (H:List AObj):Prop where
 out:H[o]?=some (.va 70 1 (Vr Q T st.length))
 row:∀c p,st[c]?=some p->H[Q c]?=some (.va 145 1 (z1q (L c) T p))
 leaf:∀c p k,st[c]?=some p->k<T->p.getD k []≠[]->H[L c k]?=some (.arr 144 2 ((p.getD k []).map encIv))
 tQ:∀c,c<st.length->tag (Q c)=(c+1,0)
 tL:∀c p k,st[c]?=some p->k<T->p.getD k []≠[]->tag (L c k)=(c+1,k+1)
 to:tag o=(0,0)
 geo:K.length<=o
 geQ:∀c,c<st.length->K.length<=Q c
 geL:∀c p k,st[c]?=some p->k<T->p.getD k []≠[]->K.length<=L c k
 keep:∀i,i<K.length->H[i]? =K[i]?
 len:K.length<=H.length
 tK:∀i,i<K.length->tag i=(0,0)
section
variable {K:List AObj} {T o:Nat} {st:List Prd} {Q:Nat->Nat} {L:Nat->Nat->Nat} {tag:Nat->Nat×Nat} {H H':List AObj}
def Uz{α:Type}{l:List α}{i:Nat}{x:α}(h:l[i]?=some x):i<l.length:=(zB.1 h).1
def Qe{H:List AObj}{i:Nat}{x:AObj}(h:H[i]?=some x):i<H.length:=(zB.1 h).1
def Rows.other(h:Rows K T o st Q L tag H)(hk:∀j,j<H.length->tag j≠(0,1)->H'[j]? =H[j]?)(hl:H.length<=H'.length)(hK:K=[]:=by rfl):Rows K T o st Q L tag H':=by
 subst hK;exact⟨(hk _ (Qe h.out) (by rw[h.to];simp)).trans h.out,λc p hc=>(hk _ (Qe (h.row c p hc)) (by rw[h.tQ c (Uz hc)];simp)).trans (h.row c p hc),λc p k hc z1 hn=>(hk _ (Qe (h.leaf c p k hc z1 hn)) (by rw[h.tL c p k hc z1 hn];simp)).trans (h.leaf c p k hc z1 hn),
  h.tQ,h.tL,h.to,h.geo,h.geQ,h.geL,λi hi=>by simp at hi,by simp,h.tK⟩
def y0u{l:List AV}{i:Nat}{x:AV}(h:l[i]?=some x):l.set i x=l:=by
 refine xL λj=>?_;by_cases e:i=j
 ·subst e;rw[h,zK (Uz h)]
 rw[zE e]
def Rows.put (h:Rows K T o st Q L tag H) {c:Nat} {p:Prd} (hc:st[c]?=some p) (zi:p.length=T) {i:Nat} (hi:i<T) {x:Iv} {np:Nat} (zj:H.length<=np)
  (zf:H'[Q c]?=some (.va 145 1 ((z1q (L c) T p).set i (.sl np 2 0 ((p.getD i []).length+1)))))
  (z8:H'[np]?=some (.arr 144 2 ((p.getD i []++[x]).map encIv)))
  (hk:∀j,j<H.length->j≠Q c->tag j≠(c+1,i+1)->H'[j]? =H[j]?):
  Rows K T o (st.set c (U6 p i x)) Q (λc' k'=>if c'=c/\k'=i then np else L c' k') (λj=>if j=np then(c+1,i+1)else tag j) H':=by
 have zd:=(zB.1 hc).1;have ze:∀c' p',(st.set c (U6 p i x))[c']?=some p'->(c'=c/\p'=U6 p i x)\/(c'≠c/\st[c']?=some p'):=λc' p' e=>by
  by_cases zg:c'=c
  ·subst zg;rw[zK zd]at e;exact .inl ⟨rfl,(Option.some.inj e).symm⟩
  rw[zE (λe=>zg e.symm)]at e;exact .inr ⟨zg,e⟩
 have za:(U6 p i x).getD i []=p.getD i []++[x]:=X2 (by omega) _;have z6:∀k,k≠i->(U6 p i x).getD k []=p.getD k []:=λk hk=>getD_set_ne (λe=>hk e.symm) _;have zh:o≠Q c:=λe=>by have h1:=h.to;have h2:=h.tQ c zd;rw[e,h2]at h1;simp at h1
 have lo:=Qe h.out;have lQ:∀c',c'<st.length->Q c'<H.length:=λc' zb=>Qe (h.row c' _ (zI zb));have geQ:=h.geQ;refine⟨?_,λc' p' e=>?_,λc' p' k e z1 hn=>?_,λc' zb=>?_,λc' p' k e z1 hn=>?_,?_,h.geo,λc' zb=>?_,λc' p' k e z1 hn=>?_,λj hj=>?_,?_,λj hj=>?_⟩
 ·rw[wT,hk o lo zh (by rw[h.to];simp)];exact h.out
 ·rcases ze c' p' e with⟨rfl,rfl⟩|⟨zc,e'⟩
  ·rw[zf]
   congr 2
   refine xL λk=>?_;by_cases hkT:k<T
   ·rw[A0 _ _ hkT];by_cases hki:k=i
    ·subst hki;rw[zK (by rw[Pb];exact hkT),za];simp[Fy]
    rw[zE (λe=>hki e.symm),A0 _ _ hkT,z6 k hki];simp[hki]
   rw[yY (by rw[wT,Pb];omega),yY (by rw[Pb];omega)]
  have z7:=(zB.1 e').1;rw[hk _ (lQ c' z7) (λe=>by have h1:=h.tQ c zd;have h2:=h.tQ c' z7;rw[e,h1]at h2;simp at h2;omega) (by rw[h.tQ c' z7];simp),h.row c' p' e'];simp[zc]
 ·rcases ze c' p' e with⟨rfl,rfl⟩|⟨zc,e'⟩
  ·by_cases hki:k=i
   ·subst hki;rw[za,if_pos ⟨rfl,rfl⟩];exact z8
   rw[z6 k hki]at hn |-;rw[if_neg (λa=>hki a.2),hk _ (Qe (h.leaf _ _ k hc z1 hn)) (λe=>by have h1:=h.tQ c' zd;have h2:=h.tL c' p k hc z1 hn;rw[e,h1]at h2;simp at h2) (by rw[h.tL c' p k hc z1 hn];simp;omega)];exact h.leaf _ _ k hc z1 hn
  have z7:=(zB.1 e').1;rw[if_neg (λa=>zc a.1),hk _ (Qe (h.leaf _ _ k e' z1 hn)) (λe=>by have h1:=h.tQ c zd;have h2:=h.tL c' p' k e' z1 hn;rw[e,h1]at h2;simp at h2) (by rw[h.tL c' p' k e' z1 hn];simp;omega)];exact h.leaf _ _ k e' z1 hn
 ·rw[wT]at zb;have:=lQ c' zb;rw[if_neg (by omega)];exact h.tQ c' zb
 ·rcases ze c' p' e with⟨rfl,rfl⟩|⟨zc,e'⟩
  ·by_cases hki:k=i
   ·subst hki;simp only[and_self,if_true]
   rw[z6 k hki]at hn;have:=Qe (h.leaf _ _ k hc z1 hn);simp only[hki,and_false,if_false];rw[if_neg (by omega)];exact h.tL _ _ k hc z1 hn
  have:=Qe (h.leaf _ _ k e' z1 hn);simp only[zc,false_and,if_false];rw[if_neg (by omega)];exact h.tL _ _ k e' z1 hn
 ·rw[if_neg (by omega)];exact h.to
 ·rw[wT]at zb;exact h.geQ c' zb
 ·rcases ze c' p' e with⟨rfl,rfl⟩|⟨zc,e'⟩
  ·by_cases hki:k=i
   ·subst hki;have:=h.len;rw[if_pos ⟨rfl,rfl⟩];omega
   rw[z6 k hki]at hn;rw[if_neg (λa=>hki a.2)];exact h.geL _ _ k hc z1 hn
  rw[if_neg (λa=>zc a.1)];exact h.geL _ _ k e' z1 hn
 ·have h1:=h.len;have h2:=geQ c zd;rw[hk j (by omega) (by omega) (by rw[h.tK j hj];simp)];exact h.keep j hj
 ·have:=Qe z8;have:=h.len;omega
 have:=h.len;rw[if_neg (by omega)];exact h.tK j hj
def Rows.new (h:Rows K T o st Q L tag H) {q o':Nat} (hq:H.length<=q) (ho:H.length<=o') (zd:q≠o')
  (zc:H'[q]?=some (.va 145 1 (yB T .nils))) (za:H'[o']?=some (.va 70 1 (Vr Q T st.length++[.agg [.sl q 1 0 T]])))
  (hk:∀j,j<H.length->j≠o->H'[j]? =H[j]?):
  Rows K T o' (st++[yB T []]) (λc=>if c=st.length then q else Q c) L (λj=>if j=q then(st.length+1,0)else if j=o' then(0,0)else tag j) H':=by
 have zb:∀c' p',(st++[yB T []])[c']?=some p'->(c'=st.length/\p'=yB T [])\/(c'<st.length/\st[c']?=some p'):=λc' p' e=>by
  by_cases z1:c'<st.length
  ·rw[zF z1]at e;exact .inr ⟨z1,e⟩
  rw[zH (by omega)]at e;have h0:c' - st.length=0:=by have:=(zB.1 e).1;simpa using this
  rw[h0]at e;exact .inl ⟨by omega,(Option.some.inj e).symm⟩
 have z6:∀k,(yB T ([]:List Iv)).getD k []=[]:=λk=>by by_cases hk:k<T<;>simp[yQ,hk]
 have lQ:∀c',c'<st.length->Q c'<H.length:=λc' z7=>Qe (h.row c' _ (zI z7));have lo:=Qe h.out;have hlen:=h.len;have ze:∀c',c'<st.length->Q c'≠o:=λc' z7 e=>by have h1:=h.to;have h2:=h.tQ c' z7;rw[<-e,h2]at h1;simp at h1
 refine⟨?_,λc' p' e=>?_,λc' p' k e z8 hn=>?_,λc' z7=>?_,λc' p' k e z8 hn=>?_,?_,by omega,λc' z7=>?_,λc' p' k e z8 hn=>?_,λj hj=>?_,by have:=Qe za;omega,λj hj=>?_⟩
 ·rw[za]
  congr 2
  rw[zW,vV,Vr,Vr,wU,yR]
  congr 1
  ·exact y_ λc hc=>by rw[if_neg (by have:=xJ.1 hc;omega)]
  simp
 ·rcases zb c' p' e with⟨rfl,rfl⟩|⟨hc,e'⟩
  ·rw[if_pos rfl,zc]
   congr 2
   refine xL λk=>?_;by_cases hkT:k<T
   ·rw[A0 _ _ hkT,z6];simp[Fy,hkT]
   rw[yY (by simp;omega),yY (by rw[Pb];omega)]
  rw[if_neg (by omega),hk _ (lQ c' hc) (ze c' hc)];exact h.row _ _ e'
 ·rcases zb c' p' e with⟨rfl,rfl⟩|⟨hc,e'⟩
  ·exact absurd (z6 k) hn
  have hl:=h.leaf _ _ k e' z8 hn;rw[hk _ (Qe hl) (λe=>by have h1:=h.to;have h2:=h.tL _ _ k e' z8 hn;rw[e,h1]at h2;simp at h2)];exact hl
 ·rw[zW,vV]at z7;by_cases z1:c'=st.length
  ·rw[if_pos z1,if_pos rfl,z1]
  have:=lQ c' (by omega);rw[if_neg z1,if_neg (by omega),if_neg (by omega)];exact h.tQ c' (by omega)
 ·rcases zb c' p' e with⟨rfl,rfl⟩|⟨hc,e'⟩
  ·exact absurd (z6 k) hn
  have:=Qe (h.leaf _ _ k e' z8 hn);rw[if_neg (by omega),if_neg (by omega)];exact h.tL _ _ k e' z8 hn
 ·rw[if_neg (λe=>zd e.symm),if_pos rfl]
 ·rw[zW,vV]at z7;by_cases z1:c'=st.length
  ·rw[if_pos z1];omega
  rw[if_neg z1];exact h.geQ c' (by omega)
 ·rcases zb c' p' e with⟨rfl,rfl⟩|⟨hc,e'⟩
  ·exact absurd (z6 k) hn
  exact h.geL _ _ k e' z8 hn
 ·have zf:=h.geo;rw[hk j (by omega) (by omega)];exact h.keep j hj
 rw[if_neg (by omega),if_neg (by omega)];exact h.tK j hj
def Rows.start0(T o:Nat)(H:List AObj)(ho:H[o]?=some (.va 70 1 []))(tag:Nat->Nat×Nat)(ht:tag o=(0,0)):Rows [] T o [] (λ_=>0) (λ_ _=>0) tag H:=by refine⟨by simpa[Vr]using ho,λc p hc=>by simp at hc,λc p k hc=>by simp at hc,λc hc=>by simp at hc,λc p k hc=>by simp at hc,ht,by simp,λc hc=>by simp at hc,λc p k hc=>by simp at hc,λi hi=>by simp at hi,by simp,λi hi=>by simp at hi⟩
end
end
section
def ascS(s:List Iv):Prop:=(∀x∈s,x.lo<=x.hi)/\s.Pairwise (λx y=>x.hi<y.lo)
def ascS.take{s:List Iv}(h:ascS s)(k:Nat):ascS (s.take k):=⟨λx hx=>h.1 x (xX hx),h.2.take⟩
def q07{s ini:List Iv}{y x:Iv}{m:Nat}(h:ascS s)(hm:m<s.length)(hx:s[m]=x)(e:Qz [] (s.take m)=ini++[y]):y.hi<x.lo:=by
 have h1:=O0 (h.take m);have hy:y∈Qz [] (s.take m):=by rw[e];simp
 have z7:y.lo<=y.hi:=h1.1.1 y hy;obtain⟨z,hz,z1,z2⟩:=(h1.2 y.hi).1 ⟨y,hy,z7,xK _⟩;obtain⟨i,hi,z6⟩:=yZ hz;rw[xV]at hi;rw[List.getElem_take]at z6;have:=List.pairwise_iff_getElem.1 h.2 i m (by omega) hm (by omega);rw[z6,hx]at this;omega
def y2n{ini:List Iv}{y x:Iv}(h1:y.hi<x.lo)(h2:x.lo<=x.hi):Wt (ini++[y]) x=if y.hi+1=x.lo then ini++[⟨y.lo,x.hi⟩]else ini++[y]++[x]:=by
 rw[W7];by_cases e:y.hi+1=x.lo
 ·rw[if_pos e,if_pos (by omega),if_pos (by omega)]
 rw[if_neg e,if_neg (by omega)]
def u23{L:List Prd}{p:Prd}{s:List Iv}(hp:p∈L)(hs:s∈p)(h:256<s.length):Di L=true:=by simp only[Di,wV,wM];exact .inr ⟨p,hp,s,hs,by simpa using h⟩
def q2s{L:List Prd}(hl:L.length<=256)(h:∀p∈L,∀s∈p,s.length<=256):Di L=false:=by
 rw[uf];intro hb;simp only[Di,wV,wM,decide_eq_true_eq]at hb;rcases hb with hb|⟨p,hp,s,hs,hb⟩
 ·omega
 have:=h p hp s hs;omega
def Mt(L:Nat->Nat)(T:Nat)(p:Prd)(k:Nat):List AV:=(yU T).map λi=>if i<k then encL (Qz [] (p.getD i []))else Fy (L i) (p.getD i [])
def u1m(L:Nat->Nat)(T:Nat)(p:Prd)(k:Nat):(Mt L T p k).length=T:=by simp[Mt]
def q1m(L:Nat->Nat)(T:Nat)(p:Prd):Mt L T p 0=z1q L T p:=y_ λi _=>by simp
def y17(L:Nat->Nat){T k:Nat}(p:Prd)(h:k<T):(Mt L T p k)[k]?=some (Fy (L k) (p.getD k [])):=by simp[Mt,h]
def g1k(L:Nat->Nat){T k:Nat}(p:Prd)(h:k<T):(Mt L T p k).set k (encL (Qz [] (p.getD k [])))=Mt L T p (k+1):=by
 refine xZ (by simp[Mt]) λj h1 h2=>?_;have hj:j<T:=by simpa[Mt]using h2
 rw[List.getElem_set];by_cases e:k=j
 ·subst e;simp[Mt]
 rw[if_neg e];simp only[Mt,uA,tF];by_cases h3:j<k
 ·rw[if_pos h3,if_pos (by omega)]
 rw[if_neg h3,if_neg (by omega)]
def q0f{p:Prd}{T:Nat}(h:p.length=T)(f:List Iv->AV):(yU T).map (λi=>f (p.getD i []))=p.map f:=by
 subst h;refine xZ (by simp) λj h1 h2=>?_;have hj:j<p.length:=by simpa using h1
 simp[hj]
def u15(L:Nat->Nat){T:Nat}{p:Prd}(h:p.length=T):Mt L T p T=(Ri p).map encL:=by
 have:Mt L T p T=(yU T).map (λi=>(λs=>encL (Qz [] s)) (p.getD i [])):=y_ λi hi=>by rw[if_pos (xJ.1 hi)]
 rw[this,q0f h (λs=>encL (Qz [] s)),Ri,vT];rfl
def j08(l:List (List Iv)):(l.map encL).all (λx=>x.cells.all AV.pure)=true:=by rw[zZ];intro x hx;obtain⟨s,_,rfl⟩:=zQ.1 hx;simp[AV.cells,AV.pure]
def Bk(Q:Nat->Nat)(T:Nat)(st:List Prd)(c:Nat):List AV:=(yU st.length).map λj=>if j<c then encP (Ri (st.getD j []))else .agg [.sl (Q j) 1 0 T]
def j16(Q:Nat->Nat)(T:Nat)(st:List Prd)(c:Nat):(Bk Q T st c).length=st.length:=by simp[Bk]
def d0b(Q:Nat->Nat)(T:Nat)(st:List Prd):Bk Q T st 0=Vr Q T st.length:=y_ λi _=>by simp
def x1w(Q:Nat->Nat)(T:Nat){st:List Prd}{c:Nat}(h:c<st.length):(Bk Q T st c)[c]?=some (.agg [.sl (Q c) 1 0 T]):=by simp[Bk,h]
def q2r{Q:Nat->Nat}{T:Nat}{st:List Prd}{c:Nat}(h:c<st.length)(z6:∀j,j<st.length->j≠c->Q j≠Q c)(hT:st[c].length=T):
  (Bk Q T st c).map (AV.fz (Q c) 1 ((Ri st[c]).map encL))=Bk Q T st (c+1):=by
 refine xZ (by simp[Bk]) λj h1 h2=>?_;have hj:j<st.length:=by simpa[Bk]using h2
 have z1:(Ri st[c]).length=T:=by simp[Ri,hT]
 simp only[Bk,uA,tF];by_cases h3:j<c
 ·rw[if_pos h3,if_pos (by omega)];simp[Zj,d0f]
 rw[if_neg h3];by_cases e:j=c
 ·subst e;rw[if_pos (by omega),Zj];have:st.getD j []=st[j]:=by simp[yQ,hj]
  rw[this];simp only[xC,wD,AV.fz,encP];rw[if_pos (by simp[z1]),List.drop_zero,zV (by simp[z1])]
 rw[if_neg (by omega),Zj];simp only[xC,wD,AV.fz];rw[if_neg (λa=>z6 j hj e a.1)]
def k19(Q:Nat->Nat)(T:Nat)(st:List Prd):Bk Q T st st.length=(st.map Ri).map encP:=by
 refine xZ (by simp[Bk]) λj h1 h2=>?_;have hj:j<st.length:=by simpa[Bk]using h1
 simp[Bk,hj]
def z1a(l:List Prd):(l.map encP).all (λx=>x.cells.all AV.pure)=true:=by rw[zZ];intro x hx;obtain⟨s,_,rfl⟩:=zQ.1 hx;simp[AV.cells,AV.pure]
def w26{l:List AV}{i:Nat}{x:AV}(h:l[i]?=some x):i<l.length:=(zB.1 h).1
def w0g{P:Program}[Env P]{nt k:Nat}{cd:Code}{Q:Exit->AS->Prop}{sl:List (Nat×AV)}{H:List AObj}(F:List AObj->Prop)(h1:(∀H1,F H1->AWP P nt k cd Q ⟨sl,H1⟩)->AWP P nt k cd Q ⟨sl,H⟩)(h2:∀H1,F H1->AWP P nt k cd Q ⟨sl,H1⟩):AWP P nt k cd Q ⟨sl,H⟩:=h1 h2
attribute [local irreducible] Wt Qz Ez z1q Mt Vr Bk
def z2e(T o:Nat)(st:List Prd)(Q:Nat->Nat)(L:Nat->Nat->Nat)(tag:Nat->Nat×Nat)(H:List AObj)(h:Rows [] T o st Q L tag H)(hT:T<=16)(hw:∀p∈st,p.length=T/\∀s∈p,ascS s/\s.length<=10000000/\∀x∈s,Sz x):
  FC prog 168 [.sl o 1 0 st.length] H (λr _=>(r= .tup [.nils,.i 5]/\Di (st.map Ri)=true)\/(r= .tup [LP (st.map Ri),.i 0]/\Di (st.map Ri)=false)):=by
 refine fcB func168 results168 ntmps168 ?_;simp only[Qf];repeat(refine s_ ?_;simp)
 refine Qb rfl (λzc=>?_) (λyb=>?_)
 ·have hb:256<st.length:=by simp at zc;omega
  repeat(refine s_ ?_;simp)
  simp[Di];omega
 have hn:st.length<=256:=by simp at yb;omega
 repeat(refine s_ ?_;simp)
 have yp:=Qe h.out;have tagne:∀c c',c<st.length->c'<st.length->c≠c'->Q c≠Q c':=λc c' h1 h2 za e=>by have a:=h.tQ c h1;have b:=h.tQ c' h2;rw[e,b]at a;simp at a;omega
 have y3:∀c,c<st.length->Q c≠o:=λc hc e=>by have h1:=h.to;have h2:=h.tQ c hc;rw[<-e,h2]at h1;simp at h1
 refine Qj (Qc (sl':=[(0,.sl o 1 0 st.length),(15,.sl o 1 0 st.length),(16,.i st.length),(17,.i (0:Nat))]) ?_ (by simp));refine Qi (F:=λ(u:Nat×List AObj)=>⟨[(0,.sl o 1 0 st.length),(15,.sl o 1 0 st.length),(16,.i st.length),(17,.i u.1)],u.2⟩)
  (λu=>u.1<=st.length/\H.length<=u.2.length/\u.2[o]?=some (.va 70 1 (Bk Q T st u.1))/\(∀j,j<H.length->j≠o->(∀c,c<u.1->j≠Q c)->u.2[j]? =H[j]?)/\∀p∈(st.map Ri).take u.1,∀s∈p,s.length<=256) (λu=>st.length - u.1) ?_ (0,H) ⟨by simp,by simp,by rw[d0b];exact h.out,λ_ _ _ _=>rfl,by simp⟩
 rintro⟨c,G⟩ ⟨hc,hG,go,gk,gs⟩ ih;simp only at hc hG go gk gs ih |-;repeat(refine s_ ?_;simp)
 refine Qb rfl (λyc=>?_) (λyd=>?_)
 ·have z1:c<st.length:=by simpa using yc
  have ye:=wz c (by omega);have zn:=x1w Q T z1;have yf:=j16 Q T st c;have hp:=hw _ (zL z1);have yg:=q2r z1 (λj hj za=>tagne j c hj z1 za) hp.1;have yh:=(gk (Q c) (Qe (h.row c _ (zI z1))) (y3 c z1) (λc' zj=>tagne c c' z1 (by omega) (by omega))).trans (h.row c _ (zI z1));have hle:∀k,k<T->st[c].getD k []≠[]->G[L c k]?=some (.arr 144 2 ((st[c].getD k []).map encIv))/\L c k≠Q c/\L c k≠o/\L c k<H.length:=λk hk za=>by
   have hl:=h.leaf c _ k (zI z1) hk za;have ht:=h.tL c _ k (zI z1) hk za;have h1:L c k≠o:=λe=>by have:=h.to;rw[<-e,ht]at this;simp at this
   have h2:∀c',c'<st.length->L c k≠Q c':=λc' zj e=>by have:=h.tQ c' zj;rw[<-e,ht]at this;simp at this
   exact⟨(gk _ (Qe hl) h1 (λc' zj=>h2 c' (by omega))).trans hl,h2 c z1,h1,Qe hl⟩
  have yq:=Qe (h.row c _ (zI z1));have zk:=y3 c z1;have yi:(st.map Ri).take (c+1)=(st.map Ri).take c++[Ri st[c]]:=by rw[zU (by simpa using z1)];simp
  have yj:Ri st[c]∈st.map Ri:=zQ.2 ⟨_,zL z1,rfl⟩;generalize yr:st[c]=p at *;generalize Bk Q T st c=od at *
  have zo:∀hh,od[c]'hh= .agg [.sl (Q c) 1 0 T]:=λhh=>by rw[zI hh]at zn;exact Option.some.inj zn
  repeat(refine s_ ?_;simp[go,zn,zo,yf,z1])
  have yt:0<G.length:=by omega
  refine Qj (Qc (sl':=[(0,.sl o 1 0 st.length),(5,.vptr G.length 0),(15,.sl o 1 0 st.length),(16,.i st.length),(17,.i c),(22,.sl (Q c) 1 0 T),(23,.i T),(24,.i (0:Nat))]) ?_ (by simp));refine Qi (F:=λ(u:Nat×List AObj)=>⟨[(0,.sl o 1 0 st.length),(5,.vptr G.length 0),(15,.sl o 1 0 st.length),(16,.i st.length),(17,.i c),(22,.sl (Q c) 1 0 T),(23,.i T),(24,.i u.1)],u.2⟩)
   (λu=>u.1<=T/\G.length+1<=u.2.length/\u.2[Q c]?=some (.va 145 1 (Mt (L c) T p u.1))/\(∀j,j<G.length->j≠Q c->u.2[j]? =G[j]?)/\u.2[G.length]?=some (.vars [.sl (Q c) 1 0 T])/\∀s∈(Ri p).take u.1,s.length<=256) (λu=>T - u.1) ?_ (0,_) ⟨by simp,by simp,by rw[q1m];exact Qa yh _,λj hj _=>zF hj,by simp,by simp⟩
  rintro⟨k,E⟩ ⟨hk,hE,eq,ek,e5,es⟩ ih2;simp only at hk hE eq ek e5 es ih2 |-;repeat(refine s_ ?_;simp)
  refine Qb rfl (λzp=>?_) (λzq=>?_)
  ·have z6:k<T:=by simpa using zp
   have yk:=wz k (by omega);have zd:=y17 (L c) p z6;have y4:=u1m (L c) T p k;have zr:=g1k (L c) p z6;have zl:k<p.length:=by rw[hp.1];exact z6
   have y5:p.getD k []=p[k]:=W9 zl;have y6:(Ri p).take (k+1)=(Ri p).take k++[Qz [] p[k]]:=by rw[zU (by simpa[Ri]using zl)];simp[Ri]
   have yl:Qz [] p[k]∈Ri p:=zQ.2 ⟨_,zL zl,rfl⟩;have ze:=hp.2 _ (zL zl);have y7:=hle k z6;have zf:=λE'=>ih2 (k+1,E');rw[y5]at zd y7 zr;simp only[<-zr,y6]at zf;clear zr y6 y5;generalize Mt (L c) T p k=rd at *;generalize p[k]=s at *
   have yu:E[Q c]?=some (.va 145 1 rd):=eq;refine w0g (λE1=>∃z,E1[Q c]?=some (.va 145 1 (rd.set k (.sl z 2 0 s.length)))/\E1[z]?=some (.arr 144 2 (s.map encIv))/\(∀j,j<G.length+1->j≠Q c->E1[j]? =E[j]?)/\E.length<=E1.length/\z≠Q c) (λhm=>?_) ?_
   ·by_cases hs0:s=[]
    ·subst hs0;simp only[Fy,if_true]at zd;refine As (Q c) k 144 2 eq zd ?_;have hl:=Qe eq;refine hm _ ⟨E.length,Qg (Qa eq _) _,?_,λj hj za=>?_,by simp,by omega⟩
     ·rw[zE (by omega)];simp
     rw[zE (Ne.symm za),zF (by omega)]
    simp only[Fy,if_neg hs0]at zd;obtain⟨k1,k2,k3,k4⟩:=y7 hs0;have zt:rd.set k (.sl (L c k) 2 0 s.length)=rd:=by
     refine xL λj=>?_;by_cases e:k=j
     ·subst e;rw[zd,zK (w26 zd)]
     rw[zE e]
    refine hm E ⟨L c k,by rw[zt];exact eq,?_,λ_ _ _=>rfl,zR _,k2⟩;rw[ek _ (by omega) k2];exact k1
   rintro E1 ⟨z,f1,f2,f3,f4,f5⟩;have ym:∀hh,(rd.set k (.sl z 2 0 s.length))[k]'hh= .sl z 2 0 s.length:=λhh=>by simp
   have f6:=f3 G.length (by omega) (by omega);rw[e5]at f6;have yv:=ze.2.1;repeat(refine s_ ?_;simp[f1,ym,y4,z6])
   refine Q3 8 144 2 rfl ?_;simp;have hst:=SL.start E1 144 2;refine Qj (Qc (sl':=[(0,.sl o 1 0 st.length),(5,.vptr G.length 0),(6,.i k),(8,.sl E1.length 2 0 (Qz [] (s.take 0)).length),(15,.sl o 1 0 st.length),(16,.i st.length),(17,.i c),(22,.sl (Q c) 1 0 T),(23,.i T),(24,.i k),(29,.sl z 2 0 s.length),(30,.i s.length),(31,.i (0:Nat))]) ?_ (by simp[Qz]));refine Qi (F:=λ(u:Nat×Nat×List AObj)=>⟨[(0,.sl o 1 0 st.length),(5,.vptr G.length 0),(6,.i k),(8,.sl u.2.1 2 0 (Qz [] (s.take u.1)).length),(15,.sl o 1 0 st.length),(16,.i st.length),(17,.i c),(22,.sl (Q c) 1 0 T),(23,.i T),(24,.i k),(29,.sl z 2 0 s.length),(30,.i s.length),(31,.i u.1)],u.2.2⟩)
    (λu=>u.1<=s.length/\SL E1 u.2.2 u.2.1 144 2 ((Qz [] (s.take u.1)).map encIv)) (λu=>s.length - u.1) ?_ (0,E1.length,_) ⟨by simp,by rw[wd,Qz,th];exact hst⟩
   rintro⟨j,p2,W⟩ ⟨hj,g⟩ ih3;simp only at hj g ih3 |-;repeat(refine s_ ?_;simp)
   refine Qb rfl (λzu=>?_) (λzv=>?_)
   ·have z7:j<s.length:=by simpa using zu
    have zw:=wz j (by omega);have y8:Qz [] (s.take (j+1))=Wt (Qz [] (s.take j)) s[j]:=by rw[zU z7,P2]
    have zx:(Qz [] (s.take j)).length<=j:=yP (Rs _ _) (by simp;omega);have zy:∀y∈Qz [] (s.take j),Sz y:=Sv _ _ (by simp) (λy hy=>ze.2.2 y (xX hy));have zb:=λini y=>q07 (ini:=ini) (y:=y) (x:=s[j]) ze.1 z7 rfl;have yn:=ze.1.1 _ (zL z7);have yw:=(Es _).1 (ze.2.2 _ (zL z7)).2;have gz:=(g.keep z (Qe f2)).trans f2;have z8:=λp' G'=>ih3 (j+1,p',G');simp only[y8]at z8;clear y8;generalize Qz [] (s.take j)=acc at *
    repeat(refine s_ ?_;simp[gz,z7])
    generalize s[j]=x at *
    rcases wW acc with rfl|⟨ini,y,rfl⟩
    ·refine Qo tOk mixed [] (.val 0 (.val 1 (.val 2 (.val 3 (.val 4 (.val 5 (.val 6 (.val 7 (.val 8 (.val 9 (.val 10 (.val 11 (.val 12 (.val 13 (.done))))))))))))))) rfl (by kernel_rfl) ?_;simp[(by decide:IntKind.i64.wrap (-1)= -1)];refine Qr rfl ?_;simp;repeat(refine s_ ?_;simp)
     refine apS P3 Kz ?_;simp[Qa g.arr,Qh g.arr];refine⟨by simp[Wg,Qa g.arr,Qh g.arr]<;>omega,?_⟩;repeat(refine s_ ?_;simp[zw])
     refine Qc (sl':=[(0,.sl o 1 0 st.length),(5,.vptr G.length 0),(6,.i k),(8,.sl (W.length+2) 2 0 1),(15,.sl o 1 0 st.length),(16,.i st.length),(17,.i c),(22,.sl (Q c) 1 0 T),(23,.i T),(24,.i k),(29,.sl z 2 0 s.length),(30,.i s.length),(31,.i (j+1:Nat))]) ?_ (by simp);have:=z8 (W.length+2) _ ⟨by omega,by rw[Wt];exact g.put [AObj.vars [AV.i x.lo,AV.i x.hi],AObj.arr 144 2 [encIv x]] _ rfl⟩ (by omega);rw[Wt]at this;simpa using this
    have yx:=(Es _).1 (zy y (by simp)).2;have y9:IntKind.i64.wrap (y.hi+1)=y.hi+1:=wrap_i64 _ (by omega) (by omega);have gA:=g.arr;rw[wX]at g gA z8 zx zb |-;have hlen:(ini++[y]).length=ini.length+1:=by simp
    rw[hlen]at zx |-;have ya:IntKind.i64.wrap (ini.length:Int)=ini.length:=wrap_i64 _ (by omega) (by omega);have hg:((ini++[y]).map encIv)[ini.length]?=some (encIv y):=by simp
    have zg:(ini.length:Int)<ini.length+1:=by omega
    have zm:=y2n (ini:=ini) (zb ini y rfl) yn;refine Qo tOk mixed [] (.val 0 (.val 1 (.val 2 (.val 3 (.val 4 (.val 5 (.val 6 (.val 7 (.val 8 (.val 9 (.val 10 (.val 11 (.val 12 (.val 13 (.done))))))))))))))) rfl (by kernel_rfl) ?_;simp[Qa gA,ya,hg,y9,zg];refine Qb rfl (λh1=>?_) (λh1=>?_)
    ·repeat(refine s_ ?_;simp[Qa gA,ya,hg,y9,zg,Qh gA,zw])
     have zz:y.hi+1=x.lo:=by simpa using h1
     rw[if_pos zz]at zm;rw[zm]at z8;refine Qc (sl':=[(0,.sl o 1 0 st.length),(5,.vptr G.length 0),(6,.i k),(8,.sl p2 2 0 (ini.length+1)),(15,.sl o 1 0 st.length),(16,.i st.length),(17,.i c),(22,.sl (Q c) 1 0 T),(23,.i T),(24,.i k),(29,.sl z 2 0 s.length),(30,.i s.length),(31,.i (j+1:Nat))]) ?_ (by simp);have:=z8 p2 _ ⟨by omega,g.upd [AObj.vars [AV.i x.lo,AV.i x.hi]] _⟩ (by omega);simpa using this
    repeat(refine s_ ?_;simp)
    refine apS P3 Kz ?_;simp[Qa gA,Qh gA];refine⟨by simp[Wg,Qa gA,Qh gA]<;>omega,?_⟩;repeat(refine s_ ?_;simp[zw])
    have zz:¬y.hi+1=x.lo:=by simpa using h1
    rw[if_neg zz]at zm;rw[zm]at z8;refine Qc (sl':=[(0,.sl o 1 0 st.length),(5,.vptr G.length 0),(6,.i k),(8,.sl (W.length+2) 2 0 (ini.length+2)),(15,.sl o 1 0 st.length),(16,.i st.length),(17,.i c),(22,.sl (Q c) 1 0 T),(23,.i T),(24,.i k),(29,.sl z 2 0 s.length),(30,.i s.length),(31,.i (j+1:Nat))]) ?_ (by simp);have:=z8 (W.length+2) _ ⟨by omega,g.put [AObj.vars [AV.i x.lo,AV.i x.hi],AObj.arr 144 2 [encIv x]] _ rfl⟩ (by omega);simpa using this
   have zh:j=s.length:=by simp at zv;omega
   subst zh;rw[yI]at g |-;have zx:(Qz [] s).length<=s.length:=yP (Rs _ _) (by simp);repeat(refine s_ ?_;simp)
   refine Ws p2 g.arr ?_;simp;rw[zV (by simp)];have yy:=(Qe g.arr)
   have yz:=g.ge;have w1:∀j,j<E1.length->(W.set p2 .dead)[j]? =E1[j]? :=λj hj=>by rw[zE (by omega)];exact g.keep j hj
   have w2:(W.set p2 .dead).length=W.length:=by simp
   generalize W.set p2 .dead=V at *;refine Qb rfl (λzc=>?_) (λy0=>?_)
   ·repeat(refine s_ ?_;simp)
    exact u23 yj yl (by simp at zc;omega)
   have v1:=(w1 _ (Qe f1)).trans f1;have v2:=(w1 _ (Qe f6)).trans f6;have v0:∀j,j<G.length+1->j≠Q c->V[j]? =E[j]? :=λj hj za=>(w1 j (by omega)).trans (f3 j hj za);repeat(refine s_ ?_;simp[v1,v2,y4,z6,yk])
   refine Qc (sl':=[(0,.sl o 1 0 st.length),(5,.vptr G.length 0),(15,.sl o 1 0 st.length),(16,.i st.length),(17,.i c),(22,.sl (Q c) 1 0 T),(23,.i T),(24,.i (k+1:Nat))]) ?_ (by simp);refine zf _ ⟨by omega,by simp;omega,Qg v1 _,λj hj za=>?_,?_,λt ht=>?_⟩ (by omega)
   ·rw[zE (Ne.symm za),v0 j (by omega) za];exact ek j hj za
   ·rw[zE (by omega)];exact v2
   rcases zT.1 ht with ht|ht
   ·exact es t ht
   rw[zO.1 ht];simp at y0;omega
  have zi:k=T:=by simp at zq;omega
  subst zi;rw[u15 (L c) hp.1]at eq;have x0:(Ri p).length=k:=by simp[Ri,hp.1]
  have eo:=(ek o (Qe go) (Ne.symm zk)).trans go;refine Ow (Q c) eq (j08 _) ?_;refine Ib (Q c) (Qg eq _) (o0:= .va 70 1 od) o (Qd zk eo _) (Ne.symm zk) rfl ?_;have y1:¬o=Q c:=Ne.symm zk;simp[AObj.fz,yg,y1];repeat(refine s_ ?_;simp[ye])
  refine Qc (sl':=[(0,.sl o 1 0 st.length),(15,.sl o 1 0 st.length),(16,.i st.length),(17,.i (c+1:Nat))]) ?_ (by simp);have yo:=Qe eo;refine ih (c+1,_) ⟨by omega,by simp;omega,zK (by simpa using yo),λj hj h1 h2=>?_,λP hP=>?_⟩ (by omega)
  ·have h3:=h2 c (by omega);rw[zE (Ne.symm h1),zE (Ne.symm h3),ek j (by omega) h3];exact gk j hj h1 (λc' zj=>h2 c' (by omega))
  rw[yi]at hP;rcases zT.1 hP with hP|hP
  ·exact gs P hP
  rw[zO.1 hP];rw[zV (by omega)]at es;exact es
 have y2:c=st.length:=by simp at yd;omega
 subst y2;rw[k19]at go;rw[zV (by simp)]at gs;refine Ow o go (z1a _) ?_;refine Ws o (Qg go _) ?_;simp;rw[zV (by simp)];repeat(refine s_ ?_;simp)
 exact q2s (by simpa using hn) gs
end
section
open Go.Maps
attribute [simp] T79 T89
def stM(l:List Int):AObj:= .mp (l.map λz=>(.i z,.bool true))
def R0:Keyed prog 3:=int_keyed (q:= .i64) (by kernel_rfl)
def d1n{z:Int}(h:0<=z/\z<=1000000):(Lit.int .i64 z).wf=true:=by
 have h1:IntKind.i64.min= -9223372036854775808:=by decide
 have h2:IntKind.i64.max=9223372036854775807:=by decide
 simp only[Lit.wf,h1,h2,Bool.and_eq_true,decide_eq_true_eq];omega
def W2{z:Int}(h:0<=z/\z<=1000000):isKey prog 3 (.i z):=
 ⟨.int .i64 z,.int .i64 z,rfl,keyOf_int_mk (q:= .i64) (by kernel_rfl) (d1n h)⟩
section
variable {nt k:Nat} {S:AS} {ops:Array Oper} {o:Oper} {R:AS->Prop}
def w0a {wr:Bool} (hw:Qs ops S o=some true) (hd:Wm nt o=true) {x ix:Operand} (ho:o.op= .lookup 79 x ix false) {id:Nat} (hx:rho S.sl x=some (.mref id)) {z:Int} (z1:rho S.sl ix=some (.i z))
  {l:List Int} (z6:S.hp[id]?=some (stM l)) (hl:∀m∈l,0<=m/\m<=1000000) (hn:0<=z/\z<=1000000) (hR:R (S.putD o.dst (.bool (decide (z∈l))))):Q9 prog nt k wr ops o S R:=by
 refine I1 tOk hw hd ho T79 rfl T4 R0 hx z1 z6 (W2 hn) (λp hp=>?_) (z:= .bool false) rfl (λj p hp he=>?_) (λz7=>?_)
 ·obtain⟨m,hm,rfl⟩:=zQ.1 hp;exact W2 (hl m hm)
 ·rw[zS]at hp;obtain⟨m,hm,rfl⟩:=zP.1 hp;have z8:m=z:=by simpa using he
  rw[decide_eq_true (by rw[<-z8];exact zJ hm)]at hR;exact hR
 rw[decide_eq_false (λh=>z7 (.i z,.bool true) (zQ.2 ⟨z,h,rfl⟩) rfl)]at hR;exact hR
def x0t (hw:Qs ops S o=some true) (hd:Wm nt o=true) {x ix y:Operand} (ho:o.op= .mapUpdate 79 x ix y) {id:Nat} (hx:rho S.sl x=some (.mref id)) {z:Int} (z1:rho S.sl ix=some (.i z)) (hy:rho S.sl y=some (.bool true))
  {l:List Int} (z6:S.hp[id]?=some (stM l)) (hl:∀m∈l,0<=m/\m<=1000000) (hn:0<=z/\z<=1000000) (z7:z∉l) (hR:R (({ S with hp:=S.hp.set id (stM (l++[z])) }:AS).putD o.dst (.tup []))):Q9 prog nt k true ops o S R:=by
 refine Ei tOk hw hd ho T79 rfl R0 hx z1 hy (by simp[AV.pure]) z6 (W2 hn) (λp hp=>?_) (λj p hp he=>?_) (λza=>?_)
 ·obtain⟨m,hm,rfl⟩:=zQ.1 hp;exact W2 (hl m hm)
 ·rw[zS]at hp;obtain⟨m,hm,rfl⟩:=zP.1 hp;have z8:m=z:=by simpa using he
  exact absurd (by rw[<-z8];exact zJ hm) z7
 have:l.map (λz=>(AV.i z,AV.bool true))++[(.i z,.bool true)]=(l++[z]).map λz=>(.i z,.bool true):=by simp
 rw[this];exact hR
def v0t (hw:Qs ops S o=some true) (hd:Wm nt o=true) {x ix y:Operand} (ho:o.op= .insert 79 x ix y) {id:Nat} (hx:rho S.sl x=some (.mref id)) {z:Int} (z1:rho S.sl ix=some (.i z)) (hy:rho S.sl y=some (.bool true))
  (z6:S.hp[id]?=some (.mp [])) (hn:0<=z/\z<=1000000) (hR:R (({ S with hp:=S.hp.set id (stM [z]) }:AS).putD o.dst (.tup []))):Q9 prog nt k true ops o S R:=by
 refine Y2 tOk hw hd ho T79 rfl R0 hx z1 hy (by simp[AV.pure]) z6 (W2 hn) (λp hp=>by cases hp) (λj p hp he=>by cases hp) (λz7=>?_);exact hR
end
end
section
open Go.Maps
def Vw:Keyed prog 9:=string_keyed (by kernel_rfl)
def Dl(s:List UInt8)(h:s.length<=1000000):isKey prog 9 (.str s):=
 ⟨.string ⟨s.toArray⟩,.string s,rfl,by
  have:=Go.WideMaps.keyOf_string_mk (P:=prog) (k:=9) (s:=⟨s.toArray⟩) (by kernel_rfl) (by show s.toArray.size<=maxLen;unfold maxLen;simp;omega);exact this⟩
def mpT(ks:List (List UInt8)):AObj:= .mp (ks.mapIdx λc k=>(.str k,.i c))
section
variable {nt k:Nat} {S:AS} {ops:Array Oper} {o:Oper} {R:AS->Prop}
def w1o{ks:List (List UInt8)}(hl:∀m∈ks,m.length<=1000000):∀p∈ks.mapIdx (λc k=>(AV.str k,AV.i (c:Nat))),isKey prog 9 p.1:=λp hp=>by obtain⟨i,h,rfl⟩:=tT.1 hp;exact Dl _ (hl _ (zL h))
def Hl {wr:Bool} (hw:Qs ops S o=some true) (hd:Wm nt o=true) {x ix:Operand} (ho:o.op= .lookup 89 x ix true) {id:Nat} (hx:rho S.sl x=some (.mref id)) {n:List UInt8} (z1:rho S.sl ix=some (.str n))
  {ks:List (List UInt8)} (z6:S.hp[id]?=some (mpT ks)) (hl:∀m∈ks,m.length<=1000000) (hn:n.length<=1000000) (z7:∀j:Nat,ks[j]?=some n->R (S.putD o.dst (.tup [.i j,.bool true]))) (z8:n∉ks->R (S.putD o.dst (.tup [.i 0,.bool false]))):Q9 prog nt k wr ops o S R:=by
 refine Tm tOk hw hd ho T89 rfl T3 Vw hx z1 z6 (Dl n hn) (w1o hl) (z:= .i 0) rfl (λj p hp he=>?_) (λza=>?_)
 ·rw[vK]at hp;obtain⟨m,hm,rfl⟩:=zP.1 hp;have zb:m=n:=by simpa using he
  rw[zb]at hm;exact z7 j hm
 refine z8 λh=>?_;obtain⟨i,hi,rfl⟩:=yZ h;exact za _ (tT.2 ⟨i,hi,rfl⟩) rfl
def Lm (hw:Qs ops S o=some true) (hd:Wm nt o=true) {x ix y:Operand} (ho:o.op= .mapUpdate 89 x ix y) {id:Nat} (hx:rho S.sl x=some (.mref id)) {n:List UInt8} (z1:rho S.sl ix=some (.str n))
  {ks:List (List UInt8)} (hy:rho S.sl y=some (.i ks.length)) (z6:S.hp[id]?=some (mpT ks)) (hl:∀m∈ks,m.length<=1000000) (hn:n.length<=1000000) (z7:n∉ks) (hR:R (({ S with hp:=S.hp.set id (mpT (ks++[n])) }:AS).putD o.dst (.tup []))):Q9 prog nt k true ops o S R:=by
 refine Ei tOk hw hd ho T89 rfl Vw hx z1 hy (by simp[AV.pure]) z6 (Dl n hn) (w1o hl) (λj p hp he=>?_) (λza=>?_)
 ·rw[vK]at hp;obtain⟨m,hm,rfl⟩:=zP.1 hp;have z8:m=n:=by simpa using he
  exact absurd (by rw[<-z8];exact zJ hm) z7
 have:ks.mapIdx (λc k=>(AV.str k,AV.i (c:Nat)))++[(.str n,.i ks.length)]=(ks++[n]).mapIdx (λc k=>(AV.str k,AV.i (c:Nat))):=by simp
 rw[this];exact hR
end
def Gj:∀cs:List Int,(Yu cs).length=cs.length - 1
 |[]=>rfl
 |[_]=>rfl
 |a::b::r=>by rw[Yu,yW,Gj (b::r)];simp
def z08:∀(cs:List Int) (k:Nat) (h:k+1<cs.length),(Yu cs)[k]?=some ⟨cs[k],cs[k+1] - 1⟩
 |[],k,h=>by simp at h
 |[_],k,h=>by simp at h
 |a::b::r,0,h=>rfl
 |a::b::r,k+1,h=>by
  have h':k+1<(b::r).length:=by simp at h |-;omega
  rw[Yu,td,z08 (b::r) k h'];rfl
def V9{T i:Nat}{sg:List Bool}{x:Iv}:∀ {st:List (List Bool×Prd)} {j:Nat} {p:Prd},(st.map (·.1)).Nodup->st[j]?=some (sg,p)->Yl T i sg x st=st.set j (sg,U6 p i x)
 |[],j,p,_,h=>by simp at h
 |(s,q)::r,0,p,hn,h=>by simp at h;obtain⟨rfl,rfl⟩:=h;rw[Yl,if_pos rfl];rfl
 |(s,q)::r,j+1,p,hn,h=>by rw[xC,List.nodup_cons]at hn;rw[td]at h;rw[Yl,if_neg (λe=>hn.1 (by subst e;exact zQ.2 ⟨_,zJ h,rfl⟩)),V9 hn.2 h];rfl
structure GB (T N n:Nat) (st:List (List Bool×Prd)):Prop where
 nd:(st.map (·.1)).Nodup
 le:st.length<=n
 len:∀g∈st,g.2.length=T
 sz:∀g∈st,∀s∈g.2,s.length<=n
 kl:∀g∈st,g.1.length=N
def c0n{T n:Nat}{p:Prd}(hp:p.length=T)(h:∀s∈p,s.length<=n)(i:Nat)(x:Iv):(U6 p i x).length=T/\∀s∈U6 p i x,s.length<=n+1:=by
 refine⟨by simp[U6,hp],λs hs=>?_⟩;rcases List.mem_or_eq_of_mem_set hs with hs|rfl
 ·have:=h s hs;omega
 rw[zW];by_cases hi:i<p.length
 ·rw[W9 hi];have:=h _ (zL hi);simp;omega
 simp[yQ,hi]
def GB.put{T N n:Nat}{st:List (List Bool×Prd)}(h:GB T N n st){sg:List Bool}(hs:sg.length=N)(i:Nat)(x:Iv):GB T N (n+1) (Yl T i sg x st):=by
 by_cases hm:∃g∈st,g.1=sg
 ·obtain⟨a,p,b,h1,h2,h3⟩:=S9 (T:=T) (i:=i) (x:=x) hm;rw[h3];subst h1;have hp:=c0n (h.len (sg,p) (by simp)) (h.sz (sg,p) (by simp)) i x;have z1:∀g∈a++(sg,U6 p i x)::b,g=(sg,U6 p i x)\/g∈a++(sg,p)::b:=λg hg=>by
   rcases zT.1 hg with hg|hg
   ·exact .inr (yV _ hg)
   rcases List.mem_cons.1 hg with rfl|hg
   ·exact .inl rfl
   exact .inr (List.mem_append_right _ (List.mem_cons_of_mem _ hg))
  refine⟨by simpa using h.nd,by have:=h.le;simp at this |-;omega,λg hg=>?_,λg hg s z6=>?_,λg hg=>?_⟩
  ·rcases z1 g hg with rfl|hg
   ·exact hp.1
   exact h.len g hg
  ·rcases z1 g hg with rfl|hg
   ·exact hp.2 s z6
   have:=h.sz g hg s z6;omega
  rcases z1 g hg with rfl|hg
  ·exact hs
  exact h.kl g hg
 have z7:∀g∈st,g.1≠sg:=λg hg e=>hm ⟨g,hg,e⟩;rw[O3 z7];have hp:=c0n (T:=T) (p:=yB T []) (n:=n) (by simp) (λs z6=>by rw[(uG.1 z6).2];simp) i x;have z1:∀g∈st++[(sg,U6 (yB T []) i x)],g=(sg,U6 (yB T []) i x)\/g∈st:=λg hg=>by
  rcases zT.1 hg with hg|hg
  ·exact .inr hg
  exact .inl (zO.1 hg)
 refine⟨?_,by have:=h.le;simp;omega,λg hg=>?_,λg hg s z6=>?_,λg hg=>?_⟩
 ·rw[yR,List.nodup_append];refine⟨h.nd,by simp,λa ha b hb e=>?_⟩;obtain⟨g,hg,rfl⟩:=zQ.1 ha;simp at hb;exact z7 g hg (e.trans hb)
 ·rcases z1 g hg with rfl|hg
  ·exact hp.1
  exact h.len g hg
 ·rcases z1 g hg with rfl|hg
  ·exact hp.2 s z6
  have:=h.sz g hg s z6;omega
 rcases z1 g hg with rfl|hg
 ·exact hs
 exact h.kl g hg
end
section
open Go.Maps
def ksG(st:List (List Bool×Prd)):List (List UInt8):=st.map λg=>sgB g.1
def prG(st:List (List Bool×Prd)):List Prd:=st.map (·.2)
def Yc(T:Nat)(l:List Prd)(A:List (Nat×Iv)):List (List Bool×Prd):=A.foldl (λst a=>Yl T a.1 (Is l a.1 a.2.lo) a.2 st) []
def Lq(T:Nat)(l:List Prd)(A:List (Nat×Iv))(a:Nat×Iv):Yc T l (A++[a])=Yl T a.1 (Is l a.1 a.2.lo) a.2 (Yc T l A):=by unfold Yc;rw[wQ];rfl
def Bz(T:Nat)(l:List Prd)(A:List (Nat×Iv)):GB T l.length A.length (Yc T l A):=by
 suffices h:∀n,∀A:List (Nat×Iv),A.length=n->GB T l.length n (Yc T l A) from h _ A rfl
 intro n;induction n with
 |zero=>intro A hA;have:=List.eq_nil_of_length_eq_zero hA;subst this;exact⟨by simp[Yc],by simp[Yc],λg hg=>by simp[Yc]at hg,λg hg=>by simp[Yc]at hg,λg hg=>by simp[Yc]at hg⟩
 |succ n ih=>
  intro A hA;rcases wW A with rfl|⟨B,a,rfl⟩
  ·simp at hA
  rw[wX]at hA |-;rw[Lq];exact(ih B (by simp at hA;omega)).put (by simp[Is]) _ _
def Ip(l:List Prd)(i:Nat):List (Nat×Iv):=(yU i).flatMap λi=>(Yu (Wa l i)).map λx=>(i,x)
def Ih(l:List Prd)(i k:Nat):List (Nat×Iv):=Ip l i++((Yu (Wa l i)).take k).map λx=>(i,x)
def Db(l:List Prd)(i:Nat):Ih l i 0=Ip l i:=by simp[Ih]
def q1q(l:List Prd)(i:Nat):Ih l i (Yu (Wa l i)).length=Ip l (i+1):=by simp[Ih,Ip,wU,yI]
def v0f(l:List Prd)(i k:Nat)(h:k+1<(Wa l i).length):Ih l i (k+1)=Ih l i k++[(i,(⟨(Wa l i)[k],(Wa l i)[k+1] - 1⟩:Iv))]:=by have h1:=z08 (Wa l i) k h;obtain⟨h2,h3⟩:=zB.1 h1;rw[Ih,Ih,zU h2,h3,yR,xQ];rfl
def q04{T:Nat}{l:List Prd}(hl:∀p∈l,PCk T p)(hn:l.length<=256)(i:Nat):(Wa l i).length<=131074:=by rw[<-w00];have h1:=Tg (E4 (Ko (Qv l i)));have h2:=C9 (Qv l i);rw[Ut,h2]at h1;have:=I8 hl i;omega
end
section
open Go.Maps
def GInv.iv{T:Nat}{sig:Nat->Int->List Bool}{st:List (List Bool×Prd)}(h:GInv T sig (λt n=>t<T/\inR n) st){g:List Bool×Prd}(hg:g∈st){s:List Iv}(hs:s∈g.2):ascS s/\∀x∈s,Sz x:=by have ha:=h.asc g hg s hs;refine⟨ha,λx hx=>?_⟩;obtain⟨t,ht,rfl⟩:=yZ hs;have h1:=((h.mem g hg t x.lo).1 ⟨_,zI ht,x,hx,xK _,ha.1 x hx⟩).1.2;have h2:=((h.mem g hg t x.hi).1 ⟨_,zI ht,x,hx,ha.1 x hx,xK _⟩).1.2;unfold inR at h1 h2;exact⟨(Es _).2 h1,(Es _).2 h2⟩
def H8{T:Nat}{l:List Prd}(hl:∀p∈l,PCk T p)(hn:l.length<=256):∀i,(Ip l i).length<=i * 131073
 |0=>by simp[Ip]
 |i+1=>by have:=H8 hl hn i;have h2:=q04 hl hn i;have h3:=Gj (Wa l i);rw[Ip,wU,wJ,zW];have h4:((yU i).flatMap λi=>(Yu (Wa l i)).map λx=>(i,x)).length=(Ip l i).length:=rfl;rw[h4];simp only[List.flatMap_cons,List.flatMap_nil,xG,yO];omega
def j0y{T:Nat}{l:List Prd}(hl:∀p∈l,PCk T p)(hn:l.length<=256){i k:Nat}(hi:i<16):(Ih l i k).length<=2097168:=by have:=H8 hl hn i;have h2:=q04 hl hn i;have h3:=Gj (Wa l i);rw[Ih,zW,yO,xV];omega
def u10(l:List Prd)(i:Nat)(n:Int):(Is l i n).length=l.length:=by simp[Is]
def y2b(T:Nat)(l:List Prd):Yc T l (Ip l T)=Pv T l:=rfl
def S5(l:List Prd):Ip l 0=[]:=rfl
def Gt(T:Nat)(l:List Prd):Yc T l []=[]:=rfl
def E6(ks:List (List UInt8)):mpT ks= .mp (ks.mapIdx λc k=>(.str k,.i c)):=rfl
def g1g{T:Nat}{l:List Prd}(hl:∀p∈l,PCk T p)(i:Nat):∀z∈Wa l i,-1099511627776<=z/\z<=1099511627777:=(Yf hl i).2.2.2.1
attribute [local irreducible] z1q Vr Wa Is Yc Ip Ih mpT
def M3(T:Int)(l:List Prd):PC prog 105 [.i T,LP l] (λr=>r= .tup [LP (R9 T l).2,.i (R9 T l).1]):=by
 refine pcB func105 results105 ntmps105 ?_;simp only[Qf];repeat(refine s_ ?_;simp)
 refine Qb rfl (λhc=>?_) (λhc=>?_)
 ·have yf:T<1\/16<T:=by simpa using hc
  have hm:R9 T l=(2,[]):=by rw[R9,if_pos yf]
  rw[hm];repeat(refine s_ ?_;simp)
 have yf:¬(T<1\/16<T):=by simpa using hc
 have xm:¬T<1:=λh=>yf (.inl h);have xn:¬16<T:=λh=>yf (.inr h);repeat(refine s_ ?_;simp)
 refine Qb rfl (λh=>?_) (λh=>?_)
 ·have hm:R9 T l=(5,[]):=by rw[R9,if_neg (by omega),if_pos (by simp at h;omega)]
  rw[hm];repeat(refine s_ ?_;simp)
 have hn:l.length<=256:=by simp at h;omega
 repeat(refine s_ ?_;simp)
 refine Wf l.length (λj=>Yz T l=Yz T (l.drop j)) (λj=>[(0,.i T),(1,LP l),(28,LP l),(29,.i l.length),(30,.i j)]) (λ_=>[]) rfl (by simp) (by simp) (by simp) (by simp) (by simp) ?_;intro j hj hI ih;repeat(refine s_ ?_;simp)
 refine Qb rfl (λyg=>?_) (λyh=>?_)
 ·have z1:j<l.length:=by simpa using yg
  have hw:=wz j (by omega);rw[Ed z1,Yz]at hI;repeat(refine s_ ?_;simp[z1])
  refine pcL (Au T l[j]) ?_;simp;repeat(refine s_ ?_;simp)
  refine Qb rfl (λh3=>?_) (λh3=>?_)
  ·repeat(refine s_ ?_;simp)
   rw[if_pos (by simpa using h3)]at hI;have hm:R9 T l=(Eu T l[j],[]):=by rw[R9,if_neg (by omega),if_neg (by omega),hI,if_pos (by simpa using h3)]
   rw[hm];exact⟨rfl,rfl⟩
  rw[if_neg (by simpa using h3)]at hI;repeat(refine s_ ?_;simp[hw])
  refine Wd _ (ih z1 hI) rfl (by simp) ?_ (by simp) (by simp);simp
 have zr:j=l.length:=by simp at yh;omega
 subst zr;rw[xY]at hI;obtain⟨N,hN⟩:∃N:Nat,T=N:=⟨T.toNat,by omega⟩
 subst hN;have zp:∀p∈l,PCk N p:=λp hp=>by simpa using((W3 (N:Int) p).1 ((Ol l).1 hI p hp)).2
 have hm:R9 N l=if Di (Re N l)then(5,[])else(0,Re N l):=by rw[R9,if_neg (by omega),if_neg (by omega),hI,if_neg (by simp[Yz])];simp
 repeat(refine s_ ?_;simp)
 refine Wx rfl rfl rfl ?_;simp;repeat(refine s_ ?_;simp)
 refine Q3 9 70 1 rfl ?_;simp;refine Gs 1 rfl ?_;simp;have hst:=Rows.start0 N 1 [.mp [],AObj.va 70 1 []] rfl (λj=>if j=0 then(0,1)else(0,0)) rfl;refine Qj (Qc (sl':=[(0,.i N),(1,LP l),(9,.sl 1 1 0 (Yc N l (Ip l 0)).length),(10,.mref 0),(42,.i N),(43,.i (0:Nat))]) ?_ (by simp[S5,Gt]));refine Qi (F:=λ(u:Nat×Nat×(Nat->Nat)×(Nat->Nat->Nat)×(Nat->Nat×Nat)×List AObj)=>⟨[(0,.i N),(1,LP l),(9,.sl u.2.1 1 0 (Yc N l (Ip l u.1)).length),(10,.mref 0),(42,.i N),(43,.i u.1)],u.2.2.2.2.2⟩)
  (λu=>u.1<=N/\Rows [] N u.2.1 (prG (Yc N l (Ip l u.1))) u.2.2.1 u.2.2.2.1 u.2.2.2.2.1 u.2.2.2.2.2/\u.2.2.2.2.2[0]?=some (mpT (ksG (Yc N l (Ip l u.1))))/\u.2.2.2.2.1 0=(0,1)) (λu=>N - u.1) ?_ (0,1,λ_=>0,λ_ _=>0,λj=>if j=0 then(0,1)else(0,0),[.mp [],AObj.va 70 1 []]) ⟨by simp,by rw[S5,Gt];exact hst,by rw[S5,Gt,ksG,E6];rfl,rfl⟩
 rintro⟨i,o,Q,L,tag,G⟩ ⟨hi,hR,za,zb⟩ ih;simp only at hi hR za zb ih |-;repeat(refine s_ ?_;simp)
 refine Qb rfl (λyg=>?_) (λyh=>?_)
 ·have z1:i<N:=by simpa using yg
  have hw:=wz i (by omega);repeat(refine s_ ?_;simp)
  refine pcL (q2m N l i z1 (by omega) zp hn) ?_;simp;repeat(refine s_ ?_;simp)
  have zg:=q04 zp hn i;have zt:0<(Wa l i).length:=by have h1:=(Yf zp i).2.1;exact List.length_pos_of_mem h1
  refine Qj (Qc (sl':=[(0,.i N),(1,LP l),(9,.sl o 1 0 (Yc N l (Ih l i 0)).length),(10,.mref 0),(11,.i i),(12,LI (Wa l i)),(13,.i (0:Nat)),(42,.i N),(43,.i i)]) ?_ (by simp[Db]));refine Qi (F:=λ(u:Nat×Nat×(Nat->Nat)×(Nat->Nat->Nat)×(Nat->Nat×Nat)×List AObj)=>⟨[(0,.i N),(1,LP l),(9,.sl u.2.1 1 0 (Yc N l (Ih l i u.1)).length),(10,.mref 0),(11,.i i),(12,LI (Wa l i)),(13,.i u.1),(42,.i N),(43,.i i)],u.2.2.2.2.2⟩)
   (λu=>u.1<(Wa l i).length/\Rows [] N u.2.1 (prG (Yc N l (Ih l i u.1))) u.2.2.1 u.2.2.2.1 u.2.2.2.2.1 u.2.2.2.2.2/\u.2.2.2.2.2[0]?=some (mpT (ksG (Yc N l (Ih l i u.1))))/\u.2.2.2.2.1 0=(0,1)) (λu=>(Wa l i).length - u.1) ?_ (0,o,Q,L,tag,G) ⟨zt,by rw[Db];exact hR,by rw[Db];exact za,zb⟩
  clear hR za zb;clear o Q L tag G;rintro⟨k,o,Q,L,tag,G⟩ ⟨hk,hR,za,zb⟩ ih2;simp only at hk hR za zb ih2 |-;have y2:=wz k (by omega);repeat(refine s_ ?_;simp[y2])
  refine Qb rfl (λyi=>?_) (λyj=>?_)
  ·have z8:k+1<(Wa l i).length:=by simp at yi;omega
   have zu:k<(Wa l i).length:=hk;have y3:=v0f l i k z8;have y4:=Bz N l (Ih l i k);have y5:=j0y (k:=k) zp hn (by omega:i<16);have yz:=λx=>Lq N l (Ih l i k) x;have zh:=λo' Q' L' yk G'=>ih2 (k+1,o',Q',L',yk,G');simp only[y3,yz]at zh;clear y3 yz;have xa:∀z∈Wa l i,-1099511627776<=z/\z<=1099511627777:=g1g zp i;have xo:=xa _ (zL z8);generalize Yc N l (Ih l i k)=st at *
   repeat(refine s_ ?_;simp[zu])
   refine pcL (Vs N l i (Wa l i)[k] z1 (by omega) zp hn) ?_;simp;repeat(refine s_ ?_;simp)
   have xp:(Is l i (Wa l i)[k]).length=l.length:=by rw[u10]
   have x0:IntKind.i64.wrap ((Wa l i)[k+1] - 1)=(Wa l i)[k+1] - 1:=wrap_i64 _ (by omega) (by omega);generalize xq:Is l i (Wa l i)[k]=sg at *
   have x1:∀m∈ksG st,m.length<=1000000:=λm hm=>by obtain⟨g,hg,rfl⟩:=zQ.1 hm;rw[Zx,y4.kl g hg];omega
   refine Hl (n:=sgB sg) rfl rfl rfl rfl rfl za x1 (by rw[Zx];omega) (λc hc=>?_) (λx2=>?_)
   ·obtain⟨p,hp⟩:∃p,st[c]?=some (sg,p):=by rw[ksG,zS]at hc;obtain⟨g,hg,he⟩:=zP.1 hc;have:=w1y he;exact⟨g.2,by rw[hg,<-this]⟩
    simp;repeat(refine s_ ?_;simp)
    refine Qr rfl ?_;simp;repeat(refine s_ ?_;simp)
    have xb:=V9 (T:=N) (i:=i) (x:=⟨(Wa l i)[k],(Wa l i)[k+1] - 1⟩) y4.nd hp;rw[xb]at zh;have zg:=Uz hp;have y5:p.length=N:=y4.len _ (zJ hp);have yl:∀s∈p,s.length<=2097168:=λs hs=>by have:=y4.sz _ (zJ hp) s hs;omega
    have zm:(prG st)[c]?=some p:=by rw[prG,zS,hp];rfl
    have zi:prG (st.set c (sg,U6 p i ⟨(Wa l i)[k],(Wa l i)[k+1] - 1⟩))=(prG st).set c (U6 p i ⟨(Wa l i)[k],(Wa l i)[k+1] - 1⟩):=by rw[prG,se];rfl
    have zj:ksG (st.set c (sg,U6 p i ⟨(Wa l i)[k],(Wa l i)[k+1] - 1⟩))=ksG st:=by
     rw[ksG,se];refine xL λj=>?_;by_cases e:c=j
     ·subst e;rw[zK (by simpa using zg)];exact hc.symm
     rw[zE e];rfl
    have zc:(st.set c (sg,U6 p i ⟨(Wa l i)[k],(Wa l i)[k+1] - 1⟩)).length=st.length:=by simp
    generalize st.set c (sg,U6 p i ⟨(Wa l i)[k],(Wa l i)[k+1] - 1⟩)=st' at *;refine Qn (sl':=[(0,.i N),(1,LP l),(9,.sl o 1 0 st.length),(10,.mref 0),(11,.i i),(12,LI (Wa l i)),(13,.i k),(15,.i c),(42,.i N),(43,.i i)]) ?_ (by simp)
    have z6:(prG st).length=st.length:=by simp[prG]
    generalize st.length=n at *;generalize ksG st=ks at *;generalize prG st=pr at *
    have z7:=hR.row c p zm;have zd:=hR.out;rw[z6]at zd;have zv:c<pr.length:=by omega
    have zw:=Qe za;have xc:=Qe z7;have zx:=Qe zd;have zn:=hR.tQ c zv;have zk:=hR.to;have ym:Q c≠o:=λe=>by rw[<-e,zn]at zk;simp at zk
    have y6:Q c≠0:=λe=>by rw[e,zb]at zn;simp at zn
    have yn:o≠0:=λe=>by rw[e,zb]at zk;simp at zk
    have y7:=λhn=>hR.leaf c p i zm z1 hn;have y8:=λhn=>hR.tL c p i zm z1 hn;have zo:=Pb (L c) N p;have zf:=A0 (L c) p z1;have zl:=z0w Q N zg;have zy:=C6 Q N n;have y9:i<p.length:=by omega
    have yo:(p.getD i []).length<=2097168:=by rw[W9 y9];exact yl _ (zL y9)
    obtain⟨s,hs⟩:∃s,p.getD i []=s:=⟨_,rfl⟩
    rw[hs]at zf yo y7 y8;obtain⟨row,ya⟩:∃row,z1q (L c) N p=row:=⟨_,rfl⟩
    rw[ya]at z7 zo zf;refine w0g (λE1=>∃z,E1[Q c]?=some (.va 145 1 (row.set i (.sl z 2 0 s.length)))/\E1[z]?=some (.arr 144 2 (s.map encIv))/\(∀j,j<G.length->j≠Q c->E1[j]? =G[j]?)/\G.length<=E1.length/\(tag z=(c+1,i+1)\/G.length<=z)) (λhm=>?_) ?_
    ·by_cases hs0:s=[]
     ·rw[Fy,if_pos hs0]at zf;refine As (Q c) i 144 2 z7 zf ?_;refine hm _ ⟨G.length,by rw[hs0];exact Qg (Qa z7 _) _,?_,λj hj zt=>?_,by simp,.inr (zR _)⟩
      ·rw[zE (by omega),hs0];simp
      rw[zE (Ne.symm zt),zF hj]
     rw[Fy,if_neg hs0]at zf;have zz:row.set i (.sl (L c i) 2 0 s.length)=row:=y0u zf;exact hm G ⟨L c i,by rw[zz];exact z7,y7 hs0,λ_ _ _=>rfl,zR _,.inl (y8 hs0)⟩
    rintro E1 ⟨z,f1,f2,f3,f4,f5⟩;have yp:z≠Q c:=λe=>by
     rcases f5 with h|h
     ·rw[e,zn]at h;simp at h
     omega
    have yq:z≠o:=λe=>by
     rcases f5 with h|h
     ·rw[e,zk]at h;simp at h
     omega
    have yr:z≠0:=λe=>by
     rcases f5 with h|h
     ·rw[e,zb]at h;simp at h
     omega
    have g1:=(f3 o zx (Ne.symm ym)).trans zd;have g0:=(f3 0 zw (Ne.symm y6)).trans za;have ze:∀hh,(Vr Q N n)[c]'hh= .agg [.sl (Q c) 1 0 N]:=λhh=>by rw[zI hh]at zl;exact Option.some.inj zl
    have yt:∀hh,(row.set i (.sl z 2 0 s.length))[i]'hh= .sl z 2 0 s.length:=λhh=>by simp
    have d1:∀M,(E1.set z .dead++M)[Q c]?=some (.va 145 1 (row.set i (.sl z 2 0 s.length))):=λM=>Qa (Qd yp f1 _) M;have y0:∀M,M=(E1.set z .dead++[AObj.arr 144 2 [encIv ⟨(Wa l i)[k],(Wa l i)[k+1] - 1⟩],.arr 144 2 (s.map encIv++[encIv ⟨(Wa l i)[k],(Wa l i)[k+1] - 1⟩])]).set (Q c) (.va 145 1 (row.set i (.sl (E1.length+1) 2 0 (s.length+1))))->
      Rows [] N o (prG st') Q (λc' k'=>if c'=c/\k'=i then E1.length+1 else L c' k') (λj=>if j=E1.length+1 then(c+1,i+1)else tag j) M/\M[0]?=some (mpT (ksG st'))/\(if 0=E1.length+1 then(c+1,i+1)else tag 0)=(0,1):=λM hM=>by
     rw[zi,zj];have xd:=Qe g0;have xe:=Qe f1;refine⟨hR.put zm y5 z1 (by omega) ?_ ?_ (λj hj h1 h2=>?_),?_,by rw[if_neg (by omega)];exact zb⟩
     ·rw[hM,ya,hs];exact zK (by simp;omega)
     ·rw[hM,hs,zE (by omega),zH (by simp)];simp
     ·have yu:z≠j:=λe=>by
       rcases f5 with h|h
       ·rw[e]at h;exact h2 h
       omega
      rw[hM,zE (Ne.symm h1),zF (by simp;omega),zE yu];exact f3 j hj h1
     rw[hM,zE y6,zF (by simp;omega),zE yr];exact g0
    have yv:(0:Int)<=(k:Int)+1:=by omega
    have yw:(k:Int)+1<(Wa l i).length:=by omega
    have dI:∀M,(E1++M)[z]?=some (.arr 144 2 (s.map encIv)):=λM=>Qa f2 M;have d2:∀M,(E1++M)[Q c]?=some (.va 145 1 (row.set i (.sl z 2 0 s.length))):=λM=>Qa f1 M;have yb:∀M hh,(E1.set z .dead++M)[Q c]'hh= .va 145 1 (row.set i (.sl z 2 0 s.length)):=λM hh=>by have:=d1 M;rw[zI hh]at this;exact Option.some.inj this
    have d3:∀M,(E1.set z .dead++M)[o]?=some (.va 70 1 (Vr Q N n)):=λM=>Qa (Qd yq g1 _) M;have d4:∀M,(E1++M)[o]?=some (.va 70 1 (Vr Q N n)):=λM=>Qa g1 M;refine Qo tOk mixed [26,28] (.val 0 (.val 1 (.val 2 (.val 3 (.val 5 (.val 6 (.val 7 (.val 8 (.val 9 (.val 10 (.val 11 (.val 12 (.val 13 (.val 14 (.val 15 (.val 16 (.val 17 (.val 18 (.val 19 (.val 20 (.val 21 (.val 22 (.val 23 (.val 24 (.two 4 (.one 25 (.one 26 (.val 27 (.one 28 (.done))))) 25 (.two 4 (.one 26 (.val 27 (.one 28 (.done)))) 26 (.val 4 (.val 27 (.one 28 (.done)))))))))))))))))))))))))))))) rfl (by kernel_rfl) ?_;simp[g1,zl,ze,zy,zg,f1,yt,zo,z1,zu,z8,y2,x0,yv,yw,d4];refine⟨?_,?_⟩;all_goals
     refine apS P3 Kz ?_;simp[dI,Qh f2,d1,yb,d2,d3,d4,z1,zo,zl,ze,zy,zg];refine⟨by simp[Wg,dI,Qh f2,d1,yb,d2,d3,d4,z1,zo,zl,ze,zy,zg]<;>omega,?_⟩;repeat(refine s_ ?_;simp[y2])
     refine Qc (sl':=[(0,.i N),(1,LP l),(9,.sl o 1 0 n),(10,.mref 0),(11,.i i),(12,LI (Wa l i)),(13,.i (k+1:Nat)),(42,.i N),(43,.i i)]) ?_ (by simp);obtain⟨q1,q2,q3⟩:=y0 _ rfl;rw[<-zc];have:=zh o Q _ _ _ ⟨z8,q1,q2,q3⟩ (by omega);simpa[zc]using this
   simp;repeat(refine s_ ?_;simp)
   refine Qr rfl ?_;simp;repeat(refine s_ ?_;simp)
   have xf:(ksG st).length=st.length:=by simp[ksG]
   have z6:(prG st).length=st.length:=by simp[prG]
   refine Lm (n:=sgB sg) rfl rfl rfl rfl rfl (ks:=ksG st) (by rw[xf];rfl) za x1 (by rw[Zx];omega) x2 ?_;simp;repeat(refine s_ ?_;simp)
   refine Rb tOk rfl rfl rfl T68 rfl P3 rfl rfl rfl (n:=N) (by simp;omega) (by unfold maxLen;omega) .nils rfl ?_;simp;have x3:(0:Nat)≠o:=λe=>by subst e;rw[hR.out]at za;rw[E6]at za;simp at za
   have yx:=Qd x3 hR.out (mpT (ksG st++[sgB sg]));have xg:=Qg za (mpT (ksG st++[sgB sg]));have xh:∀j,j≠0->(G.set 0 (mpT (ksG st++[sgB sg])))[j]? =G[j]? :=λj hj=>zE (Ne.symm hj);have xi:(G.set 0 (mpT (ksG st++[sgB sg]))).length=G.length:=by simp
   have yc:=C6 Q N st.length;rw[<-xi];generalize G.set 0 (mpT (ksG st++[sgB sg]))=G1 at *
   have hle:=y4.le;refine Kk tOk rfl rfl T87 rfl T70 rfl (by decide) (by decide) rfl rfl rfl ?_;simp[O5,X8,Qa yx,yc,z6];refine⟨by simp[Wg,yc,z6]<;>omega,?_⟩;repeat(refine s_ ?_;simp)
   refine Gs (e:=145) (c:=1) (xs:=yB N .nils) G1.length (by rw[zF (by simp),zE (by have:=Qe yx;omega)];simp) ?_;have xj:=Qe yx;have zt:∀g∈st,g.1≠sg:=λg hg e=>x2 (zQ.2 ⟨g,hg,by rw[e]⟩);rw[O3 zt]at zh;have x4:Rows [] N o (prG st) Q L tag G1:=hR.other (λj hj ht=>xh j (λe=>by subst e;exact ht zb)) (by omega);refine Q4 λZ hZ=>?_;have y1:=x4.new (H':=Z) (q:=G1.length) (o':=G1.length+2) (zR _) (by omega) (by omega) (by rw[hZ];exact zK (by simp;omega)) (by rw[hZ,z6,zE (by omega),zH (by simp)];simp) (λj hj xk=>by rw[hZ,zE (by omega),zF (by simp;omega),zE (Ne.symm xk),zF hj]);have x5:Z[0]?=some (mpT (ksG st++[sgB sg])):=by rw[hZ,zE (by omega),zF (by simp),zE (Ne.symm x3),zF (by omega)];exact xg
   clear hZ;have x6:(λj=>if j=G1.length then(st.length+1,0)else if j=G1.length+2 then(0,0)else tag j) 0=((0,1):Nat×Nat):=by
    show(if 0=G1.length then(st.length+1,0)else if 0=G1.length+2 then(0,0)else tag 0)=((0,1):Nat×Nat)
    rw[if_neg (by omega),if_neg (by omega)];exact zb
   rw[z6]at y1;clear hR za zb x4;have zg:st.length<st.length+1:=by omega
   have zm:(prG st++[yB N []])[st.length]?=some (yB N ([]:List Iv)):=by rw[<-z6];simp
   have zq:(prG st++[yB N []]).length=st.length+1:=by simp[z6]
   have yd:(yB N ([]:List Iv)).length=N:=by simp
   have yl:∀s∈yB N ([]:List Iv),s.length<=2097168:=λs hs=>by rw[(uG.1 hs).2];simp
   have zi:prG (st++[(sg,U6 (yB N []) i ⟨(Wa l i)[k],(Wa l i)[k+1] - 1⟩)])=(prG st++[yB N []]).set st.length (U6 (yB N []) i ⟨(Wa l i)[k],(Wa l i)[k+1] - 1⟩):=by rw[List.set_append_right _ _ (by omega),z6,Nat.sub_self,prG,yR];rfl
   have zj:ksG (st++[(sg,U6 (yB N []) i ⟨(Wa l i)[k],(Wa l i)[k+1] - 1⟩)])=ksG st++[sgB sg]:=by simp[ksG]
   have zc:(st++[(sg,U6 (yB N []) i ⟨(Wa l i)[k],(Wa l i)[k+1] - 1⟩)]).length=st.length+1:=by simp
   generalize st++[(sg,U6 (yB N []) i ⟨(Wa l i)[k],(Wa l i)[k+1] - 1⟩)]=st' at *;refine Qn (sl':=[(0,.i N),(1,LP l),(9,.sl (G1.length+2) 1 0 (st.length+1)),(10,.mref 0),(11,.i i),(12,LI (Wa l i)),(13,.i k),(15,.i st.length),(42,.i N),(43,.i i)]) ?_ (by simp)
   generalize prG st++[yB N []]=pr at *;generalize yB N ([]:List Iv)=p at *;generalize ksG st++[sgB sg]=ks at *;generalize (λc=>if c=st.length then G1.length else Q c)=Q at *
   generalize (λj=>if j=G1.length then(st.length+1,0)else if j=G1.length+2 then(0,0)else tag j)=tag at *
   generalize st.length+1=n at *;generalize st.length=c at *;generalize G1.length+2=o at *
   have hR:=y1;have za:=x5;have z6:=zq;have y5:=yd;have zb:=x6;clear y1 x5 zq yd x6;generalize xr:Z=G at *
   have z7:=hR.row c p zm;have zd:=hR.out;rw[z6]at zd;have zv:c<pr.length:=by omega
   have zw:=Qe za;have xc:=Qe z7;have zx:=Qe zd;have zn:=hR.tQ c zv;have zk:=hR.to;have ym:Q c≠o:=λe=>by rw[<-e,zn]at zk;simp at zk
   have y6:Q c≠0:=λe=>by rw[e,zb]at zn;simp at zn
   have yn:o≠0:=λe=>by rw[e,zb]at zk;simp at zk
   have y7:=λhn=>hR.leaf c p i zm z1 hn;have y8:=λhn=>hR.tL c p i zm z1 hn;have zo:=Pb (L c) N p;have zf:=A0 (L c) p z1;have zl:=z0w Q N zg;have zy:=C6 Q N n;have y9:i<p.length:=by omega
   have yo:(p.getD i []).length<=2097168:=by rw[W9 y9];exact yl _ (zL y9)
   obtain⟨s,hs⟩:∃s,p.getD i []=s:=⟨_,rfl⟩
   rw[hs]at zf yo y7 y8;obtain⟨row,ya⟩:∃row,z1q (L c) N p=row:=⟨_,rfl⟩
   rw[ya]at z7 zo zf;refine w0g (λE1=>∃z,E1[Q c]?=some (.va 145 1 (row.set i (.sl z 2 0 s.length)))/\E1[z]?=some (.arr 144 2 (s.map encIv))/\(∀j,j<G.length->j≠Q c->E1[j]? =G[j]?)/\G.length<=E1.length/\(tag z=(c+1,i+1)\/G.length<=z)) (λhm=>?_) ?_
   ·by_cases hs0:s=[]
    ·rw[Fy,if_pos hs0]at zf;refine As (Q c) i 144 2 z7 zf ?_;refine hm _ ⟨G.length,by rw[hs0];exact Qg (Qa z7 _) _,?_,λj hj zt=>?_,by simp,.inr (zR _)⟩
     ·rw[zE (by omega),hs0];simp
     rw[zE (Ne.symm zt),zF hj]
    rw[Fy,if_neg hs0]at zf;have zz:row.set i (.sl (L c i) 2 0 s.length)=row:=y0u zf;exact hm G ⟨L c i,by rw[zz];exact z7,y7 hs0,λ_ _ _=>rfl,zR _,.inl (y8 hs0)⟩
   rintro E1 ⟨z,f1,f2,f3,f4,f5⟩;have yp:z≠Q c:=λe=>by
    rcases f5 with h|h
    ·rw[e,zn]at h;simp at h
    omega
   have yq:z≠o:=λe=>by
    rcases f5 with h|h
    ·rw[e,zk]at h;simp at h
    omega
   have yr:z≠0:=λe=>by
    rcases f5 with h|h
    ·rw[e,zb]at h;simp at h
    omega
   have g1:=(f3 o zx (Ne.symm ym)).trans zd;have g0:=(f3 0 zw (Ne.symm y6)).trans za;have ze:∀hh,(Vr Q N n)[c]'hh= .agg [.sl (Q c) 1 0 N]:=λhh=>by rw[zI hh]at zl;exact Option.some.inj zl
   have yt:∀hh,(row.set i (.sl z 2 0 s.length))[i]'hh= .sl z 2 0 s.length:=λhh=>by simp
   have d1:∀M,(E1.set z .dead++M)[Q c]?=some (.va 145 1 (row.set i (.sl z 2 0 s.length))):=λM=>Qa (Qd yp f1 _) M;have y0:∀M,M=(E1.set z .dead++[AObj.arr 144 2 [encIv ⟨(Wa l i)[k],(Wa l i)[k+1] - 1⟩],.arr 144 2 (s.map encIv++[encIv ⟨(Wa l i)[k],(Wa l i)[k+1] - 1⟩])]).set (Q c) (.va 145 1 (row.set i (.sl (E1.length+1) 2 0 (s.length+1))))->
     Rows [] N o (prG st') Q (λc' k'=>if c'=c/\k'=i then E1.length+1 else L c' k') (λj=>if j=E1.length+1 then(c+1,i+1)else tag j) M/\M[0]?=some (mpT (ksG st'))/\(if 0=E1.length+1 then(c+1,i+1)else tag 0)=(0,1):=λM hM=>by
    rw[zi,zj];have xd:=Qe g0;have xe:=Qe f1;refine⟨hR.put zm y5 z1 (by omega) ?_ ?_ (λj hj h1 h2=>?_),?_,by rw[if_neg (by omega)];exact zb⟩
    ·rw[hM,ya,hs];exact zK (by simp;omega)
    ·rw[hM,hs,zE (by omega),zH (by simp)];simp
    ·have yu:z≠j:=λe=>by
      rcases f5 with h|h
      ·rw[e]at h;exact h2 h
      omega
     rw[hM,zE (Ne.symm h1),zF (by simp;omega),zE yu];exact f3 j hj h1
    rw[hM,zE y6,zF (by simp;omega),zE yr];exact g0
   have yv:(0:Int)<=(k:Int)+1:=by omega
   have yw:(k:Int)+1<(Wa l i).length:=by omega
   have dI:∀M,(E1++M)[z]?=some (.arr 144 2 (s.map encIv)):=λM=>Qa f2 M;have d2:∀M,(E1++M)[Q c]?=some (.va 145 1 (row.set i (.sl z 2 0 s.length))):=λM=>Qa f1 M;have yb:∀M hh,(E1.set z .dead++M)[Q c]'hh= .va 145 1 (row.set i (.sl z 2 0 s.length)):=λM hh=>by have:=d1 M;rw[zI hh]at this;exact Option.some.inj this
   have d3:∀M,(E1.set z .dead++M)[o]?=some (.va 70 1 (Vr Q N n)):=λM=>Qa (Qd yq g1 _) M;have d4:∀M,(E1++M)[o]?=some (.va 70 1 (Vr Q N n)):=λM=>Qa g1 M;refine Qo tOk mixed [26,28] (.val 0 (.val 1 (.val 2 (.val 3 (.val 5 (.val 6 (.val 7 (.val 8 (.val 9 (.val 10 (.val 11 (.val 12 (.val 13 (.val 14 (.val 15 (.val 16 (.val 17 (.val 18 (.val 19 (.val 20 (.val 21 (.val 22 (.val 23 (.val 24 (.two 4 (.one 25 (.one 26 (.val 27 (.one 28 (.done))))) 25 (.two 4 (.one 26 (.val 27 (.one 28 (.done)))) 26 (.val 4 (.val 27 (.one 28 (.done)))))))))))))))))))))))))))))) rfl (by kernel_rfl) ?_;simp[g1,zl,ze,zy,zg,f1,yt,zo,z1,zu,z8,y2,x0,yv,yw,d4];refine⟨?_,?_⟩;all_goals
    refine apS P3 Kz ?_;simp[dI,Qh f2,d1,yb,d2,d3,d4,z1,zo,zl,ze,zy,zg];refine⟨by simp[Wg,dI,Qh f2,d1,yb,d2,d3,d4,z1,zo,zl,ze,zy,zg]<;>omega,?_⟩;repeat(refine s_ ?_;simp[y2])
    refine Qc (sl':=[(0,.i N),(1,LP l),(9,.sl o 1 0 n),(10,.mref 0),(11,.i i),(12,LI (Wa l i)),(13,.i (k+1:Nat)),(42,.i N),(43,.i i)]) ?_ (by simp);obtain⟨q1,q2,q3⟩:=y0 _ rfl;rw[<-zc];have:=zh o Q _ _ _ ⟨z8,q1,q2,q3⟩ (by omega);simpa[zc]using this
  have ye:k=(Yu (Wa l i)).length:=by rw[Gj];simp at yj;omega
  subst ye;rw[q1q]at hR za |-;repeat(refine s_ ?_;simp[hw])
  refine Qc (sl':=[(0,.i N),(1,LP l),(9,.sl o 1 0 (Yc N l (Ip l (i+1))).length),(10,.mref 0),(42,.i N),(43,.i (i+1:Nat))]) ?_ (by simp);exact ih (i+1,o,Q,L,tag,G) ⟨by omega,hR,za,zb⟩ (by omega)
 have zr:i=N:=by simp at yh;omega
 subst zr;have x7:Yc i l (Ip l i)=Pv i l:=y2b i l;rw[x7]at hR |-;have x8:=d0i zp;have yy:=Bz i l (Ip l i);rw[x7]at yy;have y5:=H8 zp hn i;have xl:Re i l=(prG (Pv i l)).map Ri:=by rw[Re,prG,vT];rfl
 rw[xl]at hm;have z6:(prG (Pv i l)).length=(Pv i l).length:=by simp[prG]
 repeat(refine s_ ?_;simp)
 have x9:=z2e i o (prG (Pv i l)) Q L tag G hR (by omega) (λp hp=>by
  obtain⟨g,hg,rfl⟩:=zQ.1 hp;exact⟨yy.len g hg,λs hs=>⟨(x8.iv hg hs).1,by have:=yy.sz g hg s hs;omega,(x8.iv hg hs).2⟩⟩)
 rw[z6]at x9;refine Qu rfl rfl x9 rfl ?_;rintro r H' (⟨rfl,hb⟩|⟨rfl,hb⟩)
 ·rw[if_pos hb]at hm;rw[hm];simp;repeat(refine s_ ?_;simp)
 rw[if_neg (by simp[hb])]at hm;rw[hm];simp;repeat(refine s_ ?_;simp)
end
section
open Go.Maps
end
end Go.Abs
namespace Go.Proofs
open Go.Shelf
def Tryz.laysM176_ren:Go.Shelf.Ren:=⟨λ|176=>173|249=>224|288=>262|283=>302|284=>303|285=>304|286=>305|129=>245|317=>318|318=>319|319=>320|320=>321|337=>325|338=>326|n=>n,λ|37=>230|2=>2|3=>3|53=>258|4=>4|9=>9|171=>338|0=>0|173=>340|212=>355|51=>255|5=>5|20=>20|213=>356|46=>189|232=>360|233=>361|n=>n,λ|17=>0|18=>1|19=>2|n=>n⟩
def Tryz.laysM176:Go.Proofs.LaysM.n176 prog Tryz.laysM176_ren:={
 mixed:=by kernel_rfl
 f129:=func245.trans (congrArg some (by kernel_rfl))
 f176:=func173.trans (congrArg some (by kernel_rfl))
 f249:=func224.trans (congrArg some (by kernel_rfl))
 f283:=func302.trans (congrArg some (by kernel_rfl))
 f284:=func303.trans (congrArg some (by kernel_rfl))
 f285:=func304.trans (congrArg some (by kernel_rfl))
 f286:=func305.trans (congrArg some (by kernel_rfl))
 f288:=func262.trans (congrArg some (by kernel_rfl))
 f317:=func318.trans (congrArg some (by kernel_rfl))
 f318:=func319.trans (congrArg some (by kernel_rfl))
 f319:=func320.trans (congrArg some (by kernel_rfl))
 f320:=func321.trans (congrArg some (by kernel_rfl))
 f337:=func325.trans (congrArg some (by kernel_rfl))
 f338:=func326.trans (congrArg some (by kernel_rfl))
 t0:=underlying0
 a0:=isAgg0
 z0:=sizeOf0
 v0:=zeroValue0
 t2:=underlying2
 a2:=isAgg2
 z2:=sizeOf2
 v2:=zeroValue2
 t3:=underlying3
 a3:=isAgg3
 z3:=sizeOf3
 v3:=zeroValue3
 t4:=underlying4
 a4:=isAgg4
 z4:=sizeOf4
 v4:=zeroValue4
 t5:=underlying5
 a5:=isAgg5
 z5:=sizeOf5
 v5:=zeroValue5
 t9:=underlying9
 a9:=isAgg9
 z9:=sizeOf9
 v9:=zeroValue9
 t20:=underlying20
 a20:=isAgg20
 z20:=sizeOf20
 v20:=zeroValue20
 t37:=underlying230
 a37:=isAgg230
 z37:=sizeOf230
 v37:=zeroValue230
 t46:=underlying189
 a46:=isAgg189
 z46:=sizeOf189
 v46:=zeroValue189
 t51:=underlying255
 a51:=isAgg255
 z51:=sizeOf255
 v51:=zeroValue255
 t53:=underlying258
 a53:=isAgg258
 z53:=sizeOf258
 v53:=zeroValue258
 t171:=underlying338
 a171:=isAgg338
 z171:=sizeOf338
 v171:=zeroValue338
 t173:=underlying340
 a173:=isAgg340
 z173:=sizeOf340
 v173:=zeroValue340
 t212:=underlying355
 a212:=isAgg355
 z212:=sizeOf355
 v212:=zeroValue355
 t213:=underlying356
 a213:=isAgg356
 z213:=sizeOf356
 t232:=underlying360
 a232:=isAgg360
 z232:=sizeOf360
 v232:=zeroValue360
 t233:=underlying361
 a233:=isAgg361
 z233:=sizeOf361
 v233:=zeroValue361
 g17:=by kernel_rfl
 g18:=by kernel_rfl
 g19:=by kernel_rfl
 i0:=by kernel_rfl
 i2:=by kernel_rfl
 i3:=by kernel_rfl
 i4:=by kernel_rfl
 i5:=by kernel_rfl
 i9:=by kernel_rfl
 i20:=by kernel_rfl
 i37:=by kernel_rfl
 i46:=by kernel_rfl
 i51:=by kernel_rfl
 i53:=by kernel_rfl
 i171:=by kernel_rfl
 i173:=by kernel_rfl
 i212:=by kernel_rfl
 i232:=by kernel_rfl
 i233:=by kernel_rfl
 m17:=by kernel_rfl
 m18:=by kernel_rfl
 m19:=by kernel_rfl }
open Go.RowKit Go.Sort Go.Lib in
def Tryz.strconv_AppendInt_10 (B n:Nat) (i:Int) (h0: -9223372036854775808<=i) (h1:i<=9223372036854775807) (sv:Value) (xs:List Value) (w:World) (z1:w.ownsRow B 5 1 sv n xs) (z8:B<=w.heap.size) (z6:n+21<=140737488355328) (z7:Lib.TabBelow prog B w "internal/strconv.uint64pow10" .u64 Lib.pow10Tab):
  Calls prog 173 #[sv,.int .i64 i,.int .i64 10] w λe w'=>∃v',e= .returned v'/\w'.ownsRow B 5 1 v' (n+(Lib.itoa i).length) (xs++Lib.byteCells (Lib.itoa i))/\Below B w w'/\Lib.OthersKept 5 none w w':=Any.strconv_AppendInt_10 Tryz.laysM176 B n i h0 h1 sv xs w z1 z8 z6 z7
section
open Go.RowKit
def R8(zs:List Int):List UInt8:=zs.flatMap λz=>32::Lib.itoa z
def j0w(zs:List Int){k:Nat}(h:k<zs.length):R8 (zs.take (k+1))=R8 (zs.take k)++32::Lib.itoa (zs.getD k 0):=by
 have:zs.getD k 0=zs[k]:=by simp[yQ,h]
 rw[zU h,this,R8,wJ];simp[R8]
def z0v{zs:List Int}(hz:∀z∈zs,-9223372036854775808<=z/\z<=9223372036854775807):(R8 zs).length<=zs.length * 22:=by
 induction zs with
 |nil=>simp[R8]
 |cons z r ih=>
  have h1:=Lib.itoa_length_le z (hz z (by simp)).1 (hz z (by simp)).2;have h2:=ih (λy hy=>hz y (by simp[hy]));have e:R8 (z::r)=32::(Lib.itoa z++R8 r):=by simp[R8]
  rw[e,yW,zW,yW];omega
def c0v:(prog.info? 5).map (λi=>(i.zero,i.size,i.bytes))=some (some (.int .u8 0),1,1):=by kernel_rfl
def y19 (ad:Addr) (cap:Nat) (zs:List Int) (w:World) (hb:ad.block<w.heap.size) (hz:∀z∈zs,-9223372036854775808<=z/\z<=9223372036854775807) (hl:zs.length<=1000) (zl:0<zs.length)
  (hc:∀j,j<zs.length->w.cell? (ad.add j)=some (.int .i64 (zs.getD j 0))) (zf:Lib.TabIs prog w "internal/strconv.uint64pow10" .u64 Lib.pow10Tab):
  Calls prog 109 #[.slice (some ad) zs.length cap] w λe w'=>e= .returned (.string ⟨(R8 zs).toArray⟩)/\Below w.heap.size w w':=by
 obtain⟨i0,hi,zm,zn,zo⟩:=info_parts c0v;have hT:=Lib.tabBelow_of_tabIs zf;have zg:∀k,(R8 (zs.take k)).length<=22000:=λk=>by
  have:=z0v (zs:=zs.take k) (λz zp=>hz z (xX zp));rw[xV]at this;have:min k zs.length<=1000:=by omega
  omega
 go_enter func109,ntmps109
 go_wp2
 go_loopw [3,8] (λv i wr=>∃k:Nat,k<=zs.length/\i= .int .i64 k/\wr.ownsRow w.heap.size 5 1 v (R8 (zs.take k)).length (Lib.byteCells (R8 (zs.take k)))/\Below w.heap.size w wr)
  (λ_ i _=>zs.length - (intOf i).toNat)
 case atStart=>exact⟨0,Nat.zero_le _,rfl,World.ownsRow_nil _ _ _ _,Below.refl _ _⟩
 case round=>
  obtain⟨k,hk,rfl,z1,zb⟩:=hrel;have zq:k<zs.length->wr.cell? (ad.add k)=some (.int .i64 (zs.getD k 0)):=λh=>(zb.cell (by unfold Addr.add;split<;>exact hb)).trans (hc k h)
  go_wp2_with (first
   |(at_builtin;refine wpList_append_own _ rfl _ _ 230 rfl w.heap.size 5 i0 (.int .u8 0) 1 1 underlying230 hi zm zn zo rfl (by decide) _ _ _ rfl (z1.alloc _) ⟨wr.heap.size,0,none⟩ 1 1 [.int .u8 32] rfl rfl ?c1 ?c2 ?c3 ?c4 ?c5 ?_)
   |go_in)
  case c1=>
   intro j u hj
   match j,hj with
   |0,hj=>simp at hj;subst hj;simp[Addr.add]
  case c2=>intro u hu;simp at hu;subst hu;rfl
  case c3=>have:=zg k;unfold maxLen;omega
  case c4=>have:=zg k;omega
  case c5=>have:=zb.size;simp;omega
  ·intro v' w1 z8 za _;have zc:k<zs.length:=by assumption
   have z7:Below w.heap.size w w1:=(zb.alloc (by have:=zb.size;omega) _).grown za (by have:=zb.size;simp;omega) (λk hk=>(z1.lt k hk).1);have zk:=hz _ (zL zc);have zr:zs.getD k 0=zs[k]:=by simp[yQ,zc]
   have ze:=j0w zs zc;rw[zr]at ze
   go_wp2_with (go_at_call 173;refine(Tryz.strconv_AppendInt_10 w.heap.size _ zs[k] zk.1 zk.2 v' _ w1 z8 (by have:=z7.size;omega) (by have:=zg k;omega) (hT.on z7)).mono ?_;rintro e w3 ⟨v3,rfl,z6,zh,-⟩;refine Hid.out ?_)
   have zd:w3.ownsRow w.heap.size 5 1 v3 (R8 (zs.take (k+1))).length (Lib.byteCells (R8 (zs.take (k+1)))):=by
    have e1:Lib.byteCells (R8 (zs.take k))++[Value.int .u8 32]++Lib.byteCells (Lib.itoa zs[k])=Lib.byteCells (R8 (zs.take (k+1))):=by rw[ze];simp[Lib.byteCells]
    have e2:(R8 (zs.take k)).length+1+(Lib.itoa zs[k]).length=(R8 (zs.take (k+1))).length:=by rw[ze];simp;omega
    rw[e1,e2]at z6;exact z6
   have zi:=z7.trans zh;clear z6 z8 za z1 zb z7 zq ze;refine Lib.hid ?_
   go_wp2
   go_roundw
   case rel=>exact⟨k+1,by omega,by simp,zd,zi⟩
   case measure=>simp[intOf];omega
  have zw:¬k<zs.length:=by assumption
  have zt:k=zs.length:=by omega
  subst zt;rw[yI]at z1;have zj:0<(R8 zs).length:=by
   obtain⟨z,r,rfl⟩:∃z r,zs=z::r:=by cases zs with
    |nil=>simp at zl
    |cons z r=>exact⟨z,r,rfl⟩
   simp[R8]
  obtain⟨l,zc⟩:∃l,l=R8 zs:=⟨_,rfl⟩
  rw[<-zc]at z1 zj;have HL:=Lib.hid zc;clear zc;rcases z1.2 with⟨-,h0⟩|⟨g,cap2,cur,rfl,-,-,-,-,-,-⟩
  ·omega
  have zu:=run_convert_bytes_back (P:=prog) wr 230 9 5 ⟨g,0,none⟩ cap2 l underlying230 underlying5 underlying9 (λj hj=>z1.cells (g:=g) rfl j _ (by simp[Lib.byteCells,hj]));rw[zu]
  go_wp2
  go_ret
  have zv:=HL.out;subst zv;exact⟨rfl,zb⟩
end
end Go.Proofs
namespace Go.Abs
open Go Go.Proofs Go.RowKit
def q2y(zs:List Int)(hz:∀z∈zs,-9223372036854775808<=z/\z<=9223372036854775807)(hl:zs.length<=1000)(z7:zs≠[]):PC prog 109 [.list (zs.map .i)] (λr=>r= .str (R8 zs)):=by
 refine⟨R3 func109 rfl rfl,λw I vals hE hI hl' hv=>?_⟩;rcases vals with⟨vals⟩
 match vals,hl' with
 |[v],_=>
  have z8:=hv 0 v _ rfl rfl;obtain⟨a,cap,c,u,rfl,hcap,hmax,hc,ha,hu⟩:=z8.list_inv;have z1:0<zs.length:=uK.2 z7;have za:c=1:=by have:=hc (.i zs[0]) (zQ.2 ⟨_,zL z1,rfl⟩);simpa[AV.cells]using this.symm
  subst za;obtain⟨ad,rfl,zb,hcell⟩:=ha (by simpa using z1);have zc:∀j,j<zs.length->w.cell? (ad.add j)=some (.int .i64 (zs.getD j 0)):=λj hj=>by have h1:=hcell j 0 (by simpa using hj) (by omega);have h2:=hu j (.i zs[j]) (by simp[hj]) 0 (.i zs[j]) rfl;have h3:=h2.val (u:= .int .i64 zs[j]) rfl;rw[Nat.mul_one,Nat.add_zero,h3]at h1;rw[h1];simp[yQ,hj]
  have:=y19 ad cap zs w (hI _ (zb (by omega))) hz hl z1 zc (q1p hE);rw[yO];refine this.mono ?_;rintro e w' ⟨rfl,hb⟩;exact⟨_,I,_,rfl,rfl,hb,λ_ h=>h,λb z6=>⟨Nat.lt_of_lt_of_le (hI b z6) hb.size,.inl z6⟩,.str _⟩
end Go.Abs
namespace Go.Proofs
open Go.Shelf Go.RowKit
def y27(l:List UInt8):Nat:=l.foldl (λv c=>v * 10+(c.toNat - 48)) 0
def c0f(l:List UInt8)(c:UInt8):y27 (l++[c])=y27 l * 10+(c.toNat - 48):=by simp[y27,wQ]
def Hm{k:Nat}(h:k<10):(UInt8.ofNat (48+k)).toNat=48+k:=by rw[UInt8.toNat_ofNat'];omega
def Gl(u:Nat):y27 (Lib.decDigits u)=u/\∀c∈Lib.decDigits u,c≠32:=by
 induction u using Nat.strongRecOn with
 |_ u ih=>
  rw[Lib.decDigits];by_cases h:u<10
  ·rw[dif_pos h];refine⟨?_,λc hc e=>?_⟩
   ·have:=Hm h;simp only[y27,List.foldl_cons,th,this];omega
   rw[zO.1 hc]at e;have:=Hm h;rw[e]at this;simp at this;omega
  rw[dif_neg h];obtain⟨h1,h2⟩:=ih (u / 10) (by omega);have hd:=Hm (Nat.mod_lt u (by decide:0<10));refine⟨?_,λc hc e=>?_⟩
  ·rw[c0f,h1,hd];omega
  rcases zT.1 hc with hc|hc
  ·exact h2 c hc e
  rw[zO.1 hc]at e;rw[e]at hd;simp at hd;omega
def g00{z:Int}(h:0<=z):Lib.itoa z=Lib.decDigits z.toNat:=by unfold Lib.itoa;rw[if_neg (by omega)]
def d1e:∀ {a b r s:List UInt8},(∀c∈a,c≠32)->(∀c∈b,c≠32)->(r=[]\/∃t,r=32::t)->(s=[]\/∃t,s=32::t)->a++r=b++s->a=b/\r=s
 |[],[],r,s,_,_,_,_,h=>⟨rfl,h⟩
 |[],y::b,r,s,_,hb,hr,_,h=>by
  rcases hr with rfl|⟨t,rfl⟩
  ·simp at h
  simp at h;exact absurd h.1.symm (hb y (by simp))
 |x::a,[],r,s,ha,_,_,hs,h=>by
  rcases hs with rfl|⟨t,rfl⟩
  ·simp at h
  simp at h;exact absurd h.1 (ha x (by simp))
 |x::a,y::b,r,s,ha,hb,hr,hs,h=>by simp only[List.cons_append,List.cons.injEq]at h;obtain⟨h1,h2⟩:=d1e (λc hc=>ha c (by simp[hc])) (λc hc=>hb c (by simp[hc])) hr hs h.2;exact⟨by rw[h.1,h1],h2⟩
def Mp(zs:List Int):R8 zs=[]\/∃t,R8 zs=32::t:=by
 cases zs with
 |nil=>exact .inl rfl
 |cons z r=>exact .inr ⟨Lib.itoa z++R8 r,by simp[R8]⟩
def C3:∀ {a b:List Int},(∀z∈a,0<=z)->(∀z∈b,0<=z)->R8 a=R8 b->a=b
 |[],[],_,_,_=>rfl
 |[],y::b,_,_,h=>by simp[R8]at h
 |x::a,[],_,_,h=>by simp[R8]at h
 |x::a,y::b,ha,hb,h=>by
  have e1:∀(z:Int) (r:List Int),R8 (z::r)=32::(Lib.itoa z++R8 r):=λz r=>by simp[R8]
  rw[e1,e1,List.cons.injEq]at h;have hx:=ha x (by simp);have hy:=hb y (by simp);rw[g00 hx,g00 hy]at h;obtain⟨h1,h2⟩:=d1e (Gl _).2 (Gl _).2 (Mp a) (Mp b) h.2;have h3:=congrArg y27 h1;rw[(Gl _).1,(Gl _).1]at h3;have h4:=C3 (λz hz=>ha z (by simp[hz])) (λz hz=>hb z (by simp[hz])) h2;rw[h4,show x=y by omega]
end Go.Proofs
namespace Go.Abs
open Go Go.Proofs Go.Maps
section
def w0e(a:Aut)(s:Int):PC prog 44 [encA a,.i s] (λr=>r= .fn (.func 104) [] [.iptr (Qk a),.iptr [.i s]]):=by refine pcB func44 results44 ntmps44 ?_;simp only[Qf];simp only[encA];repeat(refine s_ ?_;simp)
def y1z(T:Int)(hT:1<=T/\T<=16):Eu T (Ea T.toNat)=0:=
 (W3 T _).2 ⟨hT,by simp[Ea],λs hs=>by
  have:s=E3 []:=(uG.1 hs).2;rw[this,show E3 []=[(⟨-1099511627776,1099511627776⟩:Iv)] from rfl];exact⟨by simp,λx hx=>by simp at hx;subst hx;decide,λj h=>by simp at h⟩⟩
def k0c(T:Int)(hT:1<=T/\T<=16)(x:Sy):(Vm (Ea T.toNat) x).2=Jd T x:=by
 rw[q0g (y1z T hT)];by_cases h:Jd T x=0
 ·rw[if_neg (λk=>k h),h]
 rw[if_pos h]
structure Nx (a:Aut) (R:List Int) (x:Sy) (dn:Int->Prop) (nx:List Int):Prop where
 sub:∀z∈nx,z∈Qy a R x
 all:∀i,dn i->∀m∈a.mv,m.src=i->Rk m.on x=true->m.dst∈nx
def v1d(a:Aut)(l:List Int):Uv a l []=l:=rfl
def f0i(a:Aut)(l:List Int)(w:List Sy)(x:Sy):Uv a l (w++[x])=Qy a (Uv a l w) x:=by unfold Uv;rw[wQ];rfl
def x0b(a:Aut)(w:List Sy):E5 a w=true↔∃s∈Uv a [0] w,a.fin.getD s.toNat false=true:=by unfold E5;exact Xr
def mem_erase{α:Type}{l:List α}{j:Nat}{p q:α}(h:l[j]?=some p)(hq:q∈l)(hn:q∉l.eraseIdx j):q=p:=by
 obtain⟨i,hi,rfl⟩:=yZ hq;by_cases e:i=j
 ·subst e;rw[zI hi]at h;exact Option.some.inj h
 exact absurd (List.mem_eraseIdx_iff_getElem?.2 ⟨i,e,zI hi⟩) hn
def Jq{α β:Type}(f:α->β)(l:List α)(j:Nat):(l.map f).eraseIdx j=(l.eraseIdx j).map f:=by
 induction l generalizing j with
 |nil=>simp
 |cons x l ih=>cases j<;>simp[ih]
attribute [local irreducible] Vm Jd E5 Ea Uv Qy
def Lu(a:Aut)(w:List Sy):PC prog 14 [encA a,LSy w] (λr=>r= .tup [.bool (w0p a w).1,.i (w0p a w).2]):=by
 refine pcB func14 results14 ntmps14 ?_;simp only[Qf];simp only[encA];repeat(refine s_ ?_;simp)
 refine pcL (R6 a) ?_;simp;repeat(refine s_ ?_;simp)
 refine Qb rfl (λh=>?_) (λh=>?_)
 ·repeat(refine s_ ?_;simp)
  have hE:j0g a w=Wo a:=by rw[j0g,if_pos (by simpa using h)]
  rw[w0p,hE,if_pos (by simpa using h)];exact⟨rfl,rfl⟩
 have h0:Wo a=0:=by simpa using h
 have zc:=(Ud a).1 h0;repeat(refine s_ ?_;simp)
 refine Qb rfl (λh=>?_) (λh=>?_)
 ·repeat(refine s_ ?_;simp)
  have hE:j0g a w=5:=by rw[j0g,if_neg (λk=>k h0),if_pos (by simp at h;omega)]
  rw[w0p,hE];exact⟨rfl,rfl⟩
 have hl:w.length<=4096:=by simp at h;omega
 have hE:j0g a w=Vl a.types w:=by rw[j0g,if_neg (λk=>k h0),if_neg (by omega)]
 repeat(refine s_ ?_;simp)
 refine pcL (d1d a.types zc.types.1 zc.types.2) ?_;simp;repeat(refine s_ ?_;simp)
 refine Wf w.length (λj=>Vl a.types w=Vl a.types (w.drop j)) (λj=>[(1,LSy w),(2,.vptr 0 0),(7,.vptr 1 0),(34,LSy w),(35,.i w.length),(36,.i j)]) (λ_=>[.vars (Qk a),.vars [.list ((Ea a.types.toNat).map encL)]]) rfl (by simp) (by simp) (by simp) (by simp) (by simp) ?_;intro j hj hI ih;repeat(refine s_ ?_;simp)
 refine Qb rfl (λzv=>?_) (λzw=>?_)
 ·have z1:j<w.length:=by simpa using zv
  have hw:=wz j (by omega);rw[Ed z1,Vl]at hI;repeat(refine s_ ?_;simp[z1])
  refine pcL (Od (Ea a.types.toNat) w[j]) ?_;simp[k0c a.types zc.types];repeat(refine s_ ?_;simp)
  refine Qb rfl (λh3=>?_) (λh3=>?_)
  ·repeat(refine s_ ?_;simp)
   rw[if_pos (by simpa using h3)]at hI;rw[w0p,hE,hI,if_pos (by simpa using h3)];exact⟨rfl,rfl⟩
  rw[if_neg (by simpa using h3)]at hI;repeat(refine s_ ?_;simp[hw])
  refine Wd _ (ih z1 hI) rfl (by simp) ?_ (by simp) (by simp);simp
 have zg:j=w.length:=by simp at zw;omega
 subst zg;rw[xY]at hI;have hW:∀x∈w,Wb a x:=λx hx=>(Am _ _).1 ((Gh w).1 hI x hx);have hR:w0p a w=(E5 a w,0):=by rw[w0p,hE,hI];rfl
 rw[hR];repeat(refine s_ ?_;simp)
 refine Wx rfl rfl rfl ?_;simp;refine v0t rfl rfl rfl rfl rfl rfl rfl (by decide) ?_;simp;repeat(refine s_ ?_;simp)
 refine Qj (Qc (sl':=[(1,LSy w),(2,.vptr 0 0),(13,.mref 2),(52,LSy w),(53,.i w.length),(54,.i (0:Nat))]) ?_ (by simp));refine Qi (F:=λ(u:Nat×Nat×List Int×List AObj)=>⟨[(1,LSy w),(2,.vptr 0 0),(13,.mref u.2.1),(52,LSy w),(53,.i w.length),(54,.i u.1)],u.2.2.2⟩)
  (λu=>u.1<=w.length/\u.2.2.2[0]?=some (.vars (Qk a))/\u.2.2.2[u.2.1]?=some (stM u.2.2.1)/\∀z,z∈u.2.2.1↔z∈Uv a [0] (w.take u.1)) (λu=>w.length - u.1) ?_ (0,2,[0],_) ⟨by simp,rfl,rfl,by simp[v1d]⟩
 rintro⟨j,q,l,G⟩ ⟨hj,g0,gq,hl⟩ ih;simp only at hj g0 gq hl ih |-;repeat(refine s_ ?_;simp)
 have y9:∀z∈l,0<=z/\z<a.fin.length:=λz hz=>runIn _ _ (q00 zc.wfA) z ((hl z).1 hz);have yo:=zc.fin;refine Qb rfl (λzv=>?_) (λzw=>?_)
 ·have z1:j<w.length:=by simpa using zv
  have hw:=wz j (by omega);have hx:=hW _ (zL z1);have zd:Uv a [0] (w.take (j+1))=Qy a (Uv a [0] (w.take j)) w[j]:=by rw[zU z1,f0i]
  have ya:=λq' l' G'=>ih (j+1,q',l',G');simp only[zd]at ya;clear zd;generalize Uv a [0] (w.take j)=R at *
  repeat(refine s_ ?_;simp[z1])
  generalize w[j]=x at *;refine Wx rfl rfl rfl ?_
  simp;repeat(refine s_ ?_;simp[g0,gq])
  refine Af tOk rfl rfl rfl T79 rfl rfl (Qa gq _) ?_;simp;repeat(refine s_ ?_;simp)
  have yp:=Qe gq;have yj:=Qe g0;have zx:q≠0:=λe=>by subst e;rw[g0]at gq;unfold stM at gq;simp at gq
  refine Q4 λE hE=>?_;have e0:E[0]?=some (.vars (Qk a)):=by rw[hE];exact Qa (Qd zx (Qa g0 _) _) _
  have ex:E[G.length]?=some (.vars [.i x.ty,.i x.num]):=by rw[hE];exact Qa (Qd (by omega) (by simp) _) _
  have em:E[G.length+1]?=some (stM []):=by rw[hE];exact Qa (Qd (by omega) (by simp[stM]) _) _
  have ec:E[G.length+2]?=some (.vars [.mref (G.length+1)]):=by rw[hE];exact Qa (Qd (by omega) (by simp) _) _
  have ei:E[G.length+3]?=some (.it (l.map λz=>(.i z,.bool true)) none):=by rw[hE];rw[zH (by simp)];simp
  have zq:E.length=G.length+4:=by rw[hE];simp
  clear hE;refine Qj (Qc (sl':=[(1,LSy w),(2,.vptr 0 0),(15,.vptr G.length 0),(16,.vptr (G.length+2) 0),(52,LSy w),(53,.i w.length),(54,.i j),(60,.vptr (G.length+3) 0)]) ?_ (by simp));refine Qi (F:=λ(u:List Int×Option (AV×AV)×List Int×List AObj)=>⟨[(1,LSy w),(2,.vptr 0 0),(15,.vptr G.length 0),(16,.vptr (G.length+2) 0),(52,LSy w),(53,.i w.length),(54,.i j),(60,.vptr (G.length+3) 0)],u.2.2.2⟩)
   (λu=>u.2.2.2[0]?=some (.vars (Qk a))/\u.2.2.2[G.length]?=some (.vars [.i x.ty,.i x.num])/\u.2.2.2[G.length+1]?=some (stM u.2.2.1)/\u.2.2.2[G.length+2]?=some (.vars [.mref (G.length+1)])/\u.2.2.2[G.length+3]?=some (.it (u.1.map λz=>(.i z,.bool true)) u.2.1)/\G.length+4<=u.2.2.2.length/\
    (∀z∈u.1,z∈l)/\Nx a R x (λi=>i∈l/\i∉u.1) u.2.2.1) (λu=>u.1.length) ?_ (l,none,[],E) ⟨e0,ex,em,ec,ei,by simp[zq],λz hz=>hz,⟨λz hz=>by simp at hz,λi hi=>absurd hi.1 hi.2⟩⟩
  clear e0 ex em ec ei zq;clear E;rintro⟨left,cur,nx,E⟩ ⟨e0,ex,em,ec,ei,zq,z6,zd⟩ ih2;simp only at e0 ex em ec ei zq z6 zd ih2 |-;repeat(refine s_ ?_;simp)
  refine De rfl rfl rfl rfl ei (λzy=>?_) (λi p hp=>?_)
  ·simp;have zr:left=[]:=by simpa using zy
   subst zr;repeat(refine s_ ?_;simp)
   refine Qr rfl ?_;simp;repeat(refine s_ ?_;simp[ec,hw])
   refine Qc (sl':=[(1,LSy w),(2,.vptr 0 0),(13,.mref (G.length+1)),(52,LSy w),(53,.i w.length),(54,.i (j+1:Nat))]) ?_ (by simp);refine ya (G.length+1) nx E ⟨by omega,e0,em,λz=>⟨λhz=>zd.sub z hz,λhz=>?_⟩⟩ (by omega);obtain⟨_,m,hm,h1,h2,h3⟩:=We.1 hz;rw[<-h3];exact zd.all m.src ⟨(hl _).2 h1,by simp⟩ m hm rfl h2
  simp;rw[zS]at hp;obtain⟨s,hs,rfl⟩:=zP.1 hp;rw[Jq];have zk:s∈l:=z6 s (zJ hs);have zl:=y9 s zk;have z7:∀z∈left.eraseIdx i,z∈l:=λz hz=>z6 z (ta hz);have zz:(left.eraseIdx i).length<left.length:=by rw[uF,if_pos (Uz hs)];have:=Uz hs;omega
  have y0:∀z,z∈l/\z∉left.eraseIdx i->(z∈l/\z∉left)\/z=s:=λz hz=>by
   by_cases zm:z∈left
   ·exact .inr (mem_erase hs zm hz.2)
   exact .inl ⟨hz.1,zm⟩
  generalize left.eraseIdx i=left' at *
  have k0:=Qd (j:=G.length+3) (by omega) e0 (.it (left'.map λz=>(.i z,.bool true)) (some (.i s,.bool true)));have kx:=Qd (j:=G.length+3) (by omega) ex (.it (left'.map λz=>(.i z,.bool true)) (some (.i s,.bool true)));have km:=Qd (j:=G.length+3) (by omega) em (.it (left'.map λz=>(.i z,.bool true)) (some (.i s,.bool true)));have kc:=Qd (j:=G.length+3) (by omega) ec (.it (left'.map λz=>(.i z,.bool true)) (some (.i s,.bool true)));have ki:=Qg ei (.it (left'.map λz=>(.i z,.bool true)) (some (.i s,.bool true)));have kl:(E.set (G.length+3) (.it (left'.map λz=>(.i z,.bool true)) (some (.i s,.bool true)))).length=E.length:=by simp
  generalize E.set (G.length+3) (.it (left'.map λz=>(.i z,.bool true)) (some (.i s,.bool true)))=E1 at *
  repeat(refine s_ ?_;simp)
  refine Qr rfl ?_;simp;repeat(refine s_ ?_;simp)
  refine Ag rfl rfl rfl rfl ki ?_;simp;repeat(refine s_ ?_;simp[k0])
  refine pcL (w0e a s) ?_;simp;repeat(refine s_ ?_;simp)
  have yb:∀z∈Qy a R x,0<=z/\z<a.fin.length:=O1;refine W5 rfl (Rf:=λ_ H'=>∃zt,E1.length<H'.length/\(∃sl' yc a' b',H'[E1.length]?=some (.lp true none 96 sl' yc a' b'))/\H'[0]?=some (.vars (Qk a))/\H'[G.length]?=some (.vars [.i x.ty,.i x.num])/\H'[G.length+1]?=some (stM zt)/\H'[G.length+2]?=some (.vars [.mref (G.length+1)])/\H'[G.length+3]?=some (.it (left'.map λz=>(.i z,.bool true)) (some (.i s,.bool true)))/\
   Nx a R x (λi=>i∈l/\i∉left') zt) ?_ ?_
  ·simp;refine Sd λH1 ze=>?_;have f0:H1[0]?=some (.vars (Qk a)):=by rw[ze];exact Qa k0 _
   have fx:H1[G.length]?=some (.vars [.i x.ty,.i x.num]):=by rw[ze];exact Qa kx _
   have fm:H1[G.length+1]?=some (stM nx):=by rw[ze];exact Qa km _
   have fc:H1[G.length+2]?=some (.vars [.mref (G.length+1)]):=by rw[ze];exact Qa kc _
   have fi:H1[G.length+3]?=some (.it (left'.map λz=>(.i z,.bool true)) (some (.i s,.bool true))):=by rw[ze];exact Qa ki _
   have fq:=congrArg (λh:List AObj=>h[E1.length]?) ze;simp at fq;have zr:H1.length=E1.length+1:=by rw[ze];simp
   clear ze;refine fcB func104 results104 ntmps104 ?_;simp only[Qf];repeat(refine s_ ?_;simp)
   obtain⟨LP0,zh,yd⟩:∃X,X=_/\H1[E1.length]?=some X:=⟨_,rfl,fq⟩
   have yk:=Qe ki;refine Qj (Qc (sl':=[(0,.yld E1.length),(1,.iptr (Qk a)),(2,.iptr [.i s]),(7,.list (a.mv.map encMv)),(8,.i a.mv.length),(9,.i (0:Nat))]) ?_ (by simp));refine Qi (F:=λ(u:Nat×List Int×List AObj)=>⟨[(0,.yld E1.length),(1,.iptr (Qk a)),(2,.iptr [.i s]),(7,.list (a.mv.map encMv)),(8,.i a.mv.length),(9,.i u.1)],u.2.2⟩)
    (λu=>u.1<=a.mv.length/\u.2.2[0]?=some (.vars (Qk a))/\u.2.2[G.length]?=some (.vars [.i x.ty,.i x.num])/\u.2.2[G.length+1]?=some (stM u.2.1)/\u.2.2[G.length+2]?=some (.vars [.mref (G.length+1)])/\u.2.2[G.length+3]?=some (.it (left'.map λz=>(.i z,.bool true)) (some (.i s,.bool true)))/\u.2.2[E1.length]?=some LP0/\
     (∀z∈nx,z∈u.2.1)/\(∀z∈u.2.1,z∈Qy a R x)/\(∀m∈a.mv.take u.1,m.src=s->Rk m.on x=true->m.dst∈u.2.1)) (λu=>a.mv.length - u.1) ?_ (0,nx,H1) ⟨by simp,f0,fx,fm,fc,fi,yd,λz hz=>hz,zd.sub,by simp⟩
   clear f0 fx fm fc fi yd fq;rintro⟨k,ny,J⟩ ⟨hk,f0,fx,fm,fc,fi,fq,zu,zf,zn⟩ ih3;simp only at hk f0 fx fm fc fi fq zu zf zn ih3 |-;repeat(refine s_ ?_;simp)
   refine Qb rfl (λy1=>?_) (λy2=>?_)
   ·have z8:k<a.mv.length:=by simpa using y1
    have ye:IntKind.i64.wrap ((k:Int)+1)=k+1:=wrap_i64 _ (by have:=zc.mvs;omega) (by have:=zc.mvs;omega);have yf:∀m∈a.mv.take (k+1),m∈a.mv.take k\/m=a.mv[k]:=λm hm=>by
     rw[zU z8]at hm;rcases zT.1 hm with h|h
     ·exact .inl h
     exact .inr (zO.1 h)
    have yg:=zL z8;have yh:=zc.mv _ yg;repeat(refine s_ ?_;simp[z8])
    generalize a.mv[k]=m at *
    have yl:Vm m.on x=(Rk m.on x,0):=by rw[q0g ((W3 a.types m.on).2 ⟨zc.types,yh.on⟩),if_neg (λk=>k ((Am _ _).2 hx))]
    have j0:=Qa f0 [AObj.vars [.i m.src,.i m.dst,.list (m.on.map encL)]];have jx:=Qa fx [AObj.vars [.i m.src,.i m.dst,.list (m.on.map encL)]];have jm:=Qa fm [AObj.vars [.i m.src,.i m.dst,.list (m.on.map encL)]];have jc:=Qa fc [AObj.vars [.i m.src,.i m.dst,.list (m.on.map encL)]];have ji:=Qa fi [AObj.vars [.i m.src,.i m.dst,.list (m.on.map encL)]];have jq:=Qa fq [AObj.vars [.i m.src,.i m.dst,.list (m.on.map encL)]];have jl:(J++[AObj.vars [.i m.src,.i m.dst,.list (m.on.map encL)]]).length=J.length+1:=by simp
    have yq:E1.length<J.length:=Qe fq;generalize J++[AObj.vars [.i m.src,.i m.dst,.list (m.on.map encL)]]=J1 at *
    have y3:=yh.dst;by_cases hms:m.src=s
    ·have hb:(m.src==s)=true:=by simpa using hms
     obtain⟨zb,zi,yi,ym,yn⟩:∃zb,zb=(if m.dst∈ny then ny else if Rk m.on x then ny++[m.dst]else ny)/\(∀z∈ny,z∈zb)/\(∀z∈zb,z∈Qy a R x)/\(Rk m.on x=true->m.dst∈zb):=by
      refine⟨_,rfl,λz hz=>?_,λz hz=>?_,λh2=>?_⟩
      ·split
       ·exact hz
       split
       ·exact yV _ hz
       exact hz
      ·split at hz
       ·exact zf z hz
       split at hz
       ·rename_i hh;rcases zT.1 hz with hz|hz
        ·exact zf z hz
        rw[zO.1 hz];exact We.2 ⟨y3,m,yg,by rw[hms];exact(hl s).1 zk,hh,rfl⟩
       exact zf z hz
      split
      ·assumption
      simp[h2]
     simp only[hb];refine Rn rfl rfl (q:=E1.length) rfl rfl (by rw[<-zh];exact jq) rfl rfl rfl (λjm K2=>jm=none/\K2[0]?=some (.vars (Qk a))/\K2[G.length]?=some (.vars [.i x.ty,.i x.num])/\K2[G.length+1]?=some (stM zb)/\K2[G.length+2]?=some (.vars [.mref (G.length+1)])/\K2[G.length+3]?=some (.it (left'.map λz=>(.i z,.bool true)) (some (.i s,.bool true)))/\E1.length<K2.length) ?_ ?_
     ·simp[E7];have r0:=Qd (j:=E1.length) (by omega) j0 .dead;have rx:=Qd (j:=E1.length) (by omega) jx .dead;have rm:=Qd (j:=E1.length) (by omega) jm .dead;have rc:=Qd (j:=E1.length) (by omega) jc .dead;have ri:=Qd (j:=E1.length) (by omega) ji .dead;have rd:=Qg jq .dead;have rl:(J1.set E1.length .dead).length=J.length+1:=by simp[jl]
      generalize J1.set E1.length .dead=Y at *
      have q0:=Qa r0 [AObj.vars [.i m.src,.i m.dst,.list (m.on.map encL)]];have qx:=Qa rx [AObj.vars [.i m.src,.i m.dst,.list (m.on.map encL)]];have qm:=Qa rm [AObj.vars [.i m.src,.i m.dst,.list (m.on.map encL)]];have zo:=Qa rc [AObj.vars [.i m.src,.i m.dst,.list (m.on.map encL)]];have qi:=Qa ri [AObj.vars [.i m.src,.i m.dst,.list (m.on.map encL)]];have zj:=Qa rd [AObj.vars [.i m.src,.i m.dst,.list (m.on.map encL)]];have ql:(Y++[AObj.vars [.i m.src,.i m.dst,.list (m.on.map encL)]]).length=J.length+2:=by simp[rl]
      have q5:(Y++[AObj.vars [.i m.src,.i m.dst,.list (m.on.map encL)]])[Y.length]?=some (.vars [.i m.src,.i m.dst,.list (m.on.map encL)]):=by simp
      repeat(refine s_ ?_;simp[zo])
      generalize Y++[AObj.vars [.i m.src,.i m.dst,.list (m.on.map encL)]]=Z at *;refine w0a (z:=m.dst) rfl rfl rfl rfl rfl qm (λz hz=>by have:=yb z (zf z hz);omega) (by omega) ?_
      by_cases hmem:m.dst∈ny
      ·have za:zb=ny:=by rw[zi,if_pos hmem]
       subst za;simp[hmem,q5,qx];refine Wi rfl rfl ?_;simp;repeat(refine s_ ?_;simp)
       refine Qb rfl (λh=>by cases h) (λ_=>?_);repeat(refine s_ ?_;simp)
       exact⟨zj,rfl,q0,qx,qm,zo,qi,Qe zj⟩
      simp[hmem,q5,qx];refine pcL (Vv m.on x) ?_;simp[yl];repeat(refine s_ ?_;simp)
      refine Qb rfl (λhh=>?_) (λhh=>?_)
      ·have za:zb=ny++[m.dst]:=by rw[zi,if_neg hmem,if_pos (by simpa using hh)]
       repeat(refine s_ ?_;simp[zo,q5])
       refine x0t (z:=m.dst) rfl rfl rfl rfl rfl rfl qm (λz hz=>by have:=yb z (zf z hz);omega) (by omega) hmem ?_;simp;repeat(refine s_ ?_;simp)
       rw[<-za];refine⟨Qd (by omega) zj _,rfl,Qd (by omega) q0 _,Qd (by omega) qx _,Qg qm _,Qd (by omega) zo _,Qd (by omega) qi _,by simpa using Qe zj⟩
      have za:zb=ny:=by rw[zi,if_neg hmem,if_neg (by simpa using hh)]
      subst za;repeat(refine s_ ?_;simp)
      exact⟨zj,rfl,q0,qx,qm,zo,qi,Qe zj⟩
     rintro jm K2 ⟨rfl,v0,vx,vm,vc,vi,vl⟩;simp;repeat(refine s_ ?_;simp)
     refine Qb rfl (λh=>by cases h) (λ_=>?_);repeat(refine s_ ?_;simp[ye])
     have u0:=Qd (j:=E1.length) (by omega) v0 LP0;have ux:=Qd (j:=E1.length) (by omega) vx LP0;have um:=Qd (j:=E1.length) (by omega) vm LP0;have uc:=Qd (j:=E1.length) (by omega) vc LP0;have ui:=Qd (j:=E1.length) (by omega) vi LP0;have uq:(K2.set E1.length LP0)[E1.length]?=some LP0:=zK vl;rw[<-zh];refine Qc (sl':=[(0,.yld E1.length),(1,.iptr (Qk a)),(2,.iptr [.i s]),(7,.list (a.mv.map encMv)),(8,.i a.mv.length),(9,.i (k+1:Nat))]) ?_ (by simp);refine ih3 (k+1,zb,_) ⟨by omega,u0,ux,um,uc,ui,uq,λz hz=>yi z (zu z hz),ym,λm' y4 h1 h2=>?_⟩ (by omega);rcases yf m' y4 with h3|rfl
     ·exact yi _ (zn m' h3 h1 h2)
     exact yn h2
    have hb:(m.src==s)=false:=by simpa using hms
    simp only[hb];refine Wi rfl rfl ?_;simp;repeat(refine s_ ?_;simp)
    refine Qb rfl (λh=>by cases h) (λ_=>?_);repeat(refine s_ ?_;simp[ye])
    refine Qc (sl':=[(0,.yld E1.length),(1,.iptr (Qk a)),(2,.iptr [.i s]),(7,.list (a.mv.map encMv)),(8,.i a.mv.length),(9,.i (k+1:Nat))]) ?_ (by simp);refine ih3 (k+1,ny,J1) ⟨by omega,j0,jx,jm,jc,ji,jq,zu,zf,λm' y4 h1 h2=>?_⟩ (by omega);rcases yf m' y4 with h3|rfl
    ·exact zn m' h3 h1 h2
    exact absurd h1 hms
   have zp:k=a.mv.length:=by simp at y2;omega
   subst zp;repeat(refine s_ ?_;simp)
   rw[yI]at zn;refine⟨Qe fq,⟨_,_,_,_,by rw[fq,zh]⟩,f0,fx,ny,fm,fc,fi,⟨zf,λi hi m hm h1 h2=>?_⟩⟩;rcases y0 i hi with h3|rfl
   ·exact zu _ (zd.all i h3 m hm h1 h2)
   exact zn m hm h1 h2
  rintro r H' ⟨zt,hl',⟨sl',yc,a',b',k4⟩,v0,vx,vm,vc,vi,y5⟩;refine⟨_,_,_,_,_,_,_,k4,?_⟩;simp;have w0:=Qd (j:=E1.length) (by have:=Qe k0;have:=Qe ki;omega) v0 .dead;have wx:=Qd (j:=E1.length) (by have:=Qe ki;omega) vx .dead;have wm:=Qd (j:=E1.length) (by have:=Qe ki;omega) vm .dead;have wc:=Qd (j:=E1.length) (by have:=Qe ki;omega) vc .dead;have wi:=Qd (j:=E1.length) (by have:=Qe ki;omega) vi .dead;have wl:(H'.set E1.length .dead).length=H'.length:=by simp
  generalize H'.set E1.length .dead=Y at *
  repeat(refine s_ ?_;simp)
  refine Qc (sl':=[(1,LSy w),(2,.vptr 0 0),(15,.vptr G.length 0),(16,.vptr (G.length+2) 0),(52,LSy w),(53,.i w.length),(54,.i j),(60,.vptr (G.length+3) 0)]) ?_ (by simp);exact ih2 (left',some (.i s,.bool true),zt,Y) ⟨w0,wx,wm,wc,wi,by show G.length+4<=Y.length;have:=Qe wi;omega,z7,y5⟩ zz
 have zg:j=w.length:=by simp at zw;omega
 subst zg;rw[yI]at hl;repeat(refine s_ ?_;simp)
 refine Af tOk rfl rfl rfl T79 rfl rfl gq ?_;simp;repeat(refine s_ ?_;simp)
 have zx:q≠0:=λe=>by subst e;rw[g0]at gq;unfold stM at gq;simp at gq
 refine Q4 λE hE=>?_;have e0:E[0]?=some (.vars (Qk a)):=by rw[hE];exact Qa (Qd zx g0 _) _
 have ei:E[G.length]?=some (.it (l.map λz=>(.i z,.bool true)) none):=by rw[hE];rw[zH (by simp)];simp
 clear hE;refine Qj (Qc (sl':=[(2,.vptr 0 0),(86,.vptr G.length 0)]) ?_ (by simp));refine Qi (F:=λ(u:List Int×Option (AV×AV)×List AObj)=>⟨[(2,.vptr 0 0),(86,.vptr G.length 0)],u.2.2⟩)
  (λu=>u.2.2[0]?=some (.vars (Qk a))/\u.2.2[G.length]?=some (.it (u.1.map λz=>(.i z,.bool true)) u.2.1)/\(∀z∈u.1,z∈l)/\∀z∈l,z∉u.1->a.fin.getD z.toNat false=false) (λu=>u.1.length) ?_ (l,none,E) ⟨e0,ei,λz hz=>hz,λz hz hn=>absurd hz hn⟩
 clear e0 ei;clear E;rintro⟨left,cur,E⟩ ⟨e0,ei,z6,y6⟩ ih2;simp only at e0 ei z6 y6 ih2 |-;repeat(refine s_ ?_;simp)
 refine De rfl rfl rfl rfl ei (λzy=>?_) (λi p hp=>?_)
 ·simp;have zr:left=[]:=by simpa using zy
  subst zr;repeat(refine s_ ?_;simp)
  refine Qr rfl ?_;simp;repeat(refine s_ ?_;simp)
  have:E5 a w=false:=by rw[uf,Ne,x0b];rintro⟨s,hs,hf⟩;rw[y6 s ((hl s).2 hs) (by simp)]at hf;cases hf
  rw[this]
 simp;rw[zS]at hp;obtain⟨s,hs,rfl⟩:=zP.1 hp;rw[Jq];have zk:s∈l:=z6 s (zJ hs);have zl:=y9 s zk;have z7:∀z∈left.eraseIdx i,z∈l:=λz hz=>z6 z (ta hz);have zz:(left.eraseIdx i).length<left.length:=by rw[uF,if_pos (Uz hs)];have:=Uz hs;omega
 have y0:∀z,z∈l->z∉left.eraseIdx i->(z∈l/\z∉left)\/z=s:=λz hz y7=>by
  by_cases zm:z∈left
  ·exact .inr (mem_erase hs zm y7)
  exact .inl ⟨hz,zm⟩
 generalize left.eraseIdx i=left' at *
 have yj:=Qe g0;have k0:=Qd (j:=G.length) (by omega) e0 (.it (left'.map λz=>(.i z,.bool true)) (some (.i s,.bool true)));have ki:=Qg ei (.it (left'.map λz=>(.i z,.bool true)) (some (.i s,.bool true)));generalize E.set G.length (.it (left'.map λz=>(.i z,.bool true)) (some (.i s,.bool true)))=E1 at *
 repeat(refine s_ ?_;simp)
 refine Qr rfl ?_;simp;repeat(refine s_ ?_;simp)
 refine Ag rfl rfl rfl rfl ki ?_;simp;have y8:s.toNat<a.fin.length:=by omega
 repeat(refine s_ ?_;simp[k0,zl,y8])
 refine Qb rfl (λhh=>?_) (λhh=>?_)
 ·repeat(refine s_ ?_;simp)
  have:E5 a w=true:=(x0b a w).2 ⟨s,(hl s).1 zk,by simp[yQ,y8,hh]⟩;rw[this]
 repeat(refine s_ ?_;simp)
 refine Qc (sl':=[(2,.vptr 0 0),(86,.vptr G.length 0)]) ?_ (by simp);refine ih2 (left',some (.i s,.bool true),E1) ⟨k0,ki,z7,λz hz y7=>?_⟩ zz;rcases y0 z hz y7 with h3|rfl
 ·exact y6 z h3.1 h3.2
 simp[yQ,y8,hh]
end
section
attribute [simp] T91 T84
abbrev LQ (Q:List (List Int)):List AV:=Q.map λl=>LI l
structure TB (r p m:Nat) (a:Aut) (cl:List Prd) (Q:List (List Int)) (H:List AObj):Prop where
 t:H[r]?=some (.vars [.i a.types,.list (a.fin.map .bool),.list (a.mv.map encMv),LP cl,.sl p 1 0 Q.length,.mref m])
 s:H[p]?=some (.arr 47 1 (LQ Q))
 n:H[m]?=some (mpT (Q.map R8))
def Ap(x:List Int):Prop:=x≠[]/\x.length<=256/\∀z∈x,0<=z/\z<=1000000
def j0f(Q:List (List Int))(x:List Int):List (List Int):=if x∈Q then Q else Q++[x]
def TB.keep{r p m:Nat}{a:Aut}{cl:List Prd}{Q:List (List Int)}{H H':List AObj}(h:TB r p m a cl Q H)(hk:∀j,(j=r\/j=p\/j=m)->H'[j]? =H[j]?):TB r p m a cl Q H':=
 ⟨(hk r (.inl rfl)).trans h.t,(hk p (.inr (.inl rfl))).trans h.s,(hk m (.inr (.inr rfl))).trans h.n⟩
def TB.ne{r p m:Nat}{a:Aut}{cl:List Prd}{Q:List (List Int)}{H:List AObj}(h:TB r p m a cl Q H):r≠p/\r≠m/\p≠m:=by
 refine⟨λe=>?_,λe=>?_,λe=>?_⟩
 ·have h1:=h.t;rw[e,h.s]at h1;simp at h1
 ·have h1:=h.t;rw[e,h.n,E6]at h1;simp at h1
 have h1:=h.s;rw[e,h.n,E6]at h1;simp at h1
def Ap.rng{x:List Int}(h:Ap x):∀z∈x,-9223372036854775808<=z/\z<=9223372036854775807:=λz hz=>by have:=h.2.2 z hz;omega
def Gy{x:List Int}(h:Ap x):(R8 x).length<=1000000:=by have:=z0v h.rng;have:=h.2.1;omega
def x21{x:List Int}{Q:List (List Int)}(hQ:∀l∈Q,Ap l)(hx:Ap x):R8 x∈Q.map R8↔x∈Q:=by refine⟨λh=>?_,λh=>zQ.2 ⟨x,h,rfl⟩⟩;obtain⟨l,hl,e⟩:=zQ.1 h;rw[<-C3 (λz hz=>((hQ l hl).2.2 z hz).1) (λz hz=>(hx.2.2 z hz).1) e];exact hl
attribute [local irreducible] mpT R8
def w0n(H:List AObj)(r p m:Nat)(a:Aut)(cl:List Prd)(Q:List (List Int))(x:List Int)(h:TB r p m a cl Q H)(hx:Ap x)(hQ:∀l∈Q,Ap l)(zg:Q.length<=100000):
  FC prog 50 [.vptr r 0,LI x] H (λres H'=>∃(j p':Nat),res= .i j/\(j0f Q x)[j]?=some x/\TB r p' m a cl (j0f Q x) H'/\(p'=p\/H.length<=p')/\H.length<=H'.length/\(x∈Q->H'=H)/\∀i,i<H.length->i≠r->i≠p->i≠m->H'[i]? =H[i]?):=by
 refine fcB func50 results50 ntmps50 ?_;simp only[Qf];repeat(refine s_ ?_;simp)
 refine pcL (q2y x hx.rng (by have:=hx.2.1;omega) hx.1) ?_;simp;have ht:=h.t;have hn:=h.n;have hs:=h.s;obtain⟨n1,n2,n3⟩:=h.ne;repeat(refine s_ ?_;simp[ht])
 have z8:∀k∈Q.map R8,k.length<=1000000:=λk hk=>by obtain⟨l,hl,rfl⟩:=zQ.1 hk;exact Gy (hQ l hl)
 refine Hl (n:=R8 x) rfl rfl rfl rfl rfl hn z8 (Gy hx) (λj hj=>?_) (λza=>?_)
 ·have zb:Q[j]?=some x:=by rw[zS]at hj;obtain⟨l,hl,e⟩:=zP.1 hj;rw[<-C3 (λz hz=>((hQ l (zJ hl)).2.2 z hz).1) (λz hz=>(hx.2.2 z hz).1) e];exact hl
  have z1:j0f Q x=Q:=by rw[j0f,if_pos (zJ zb)]
  rw[z1];simp;repeat(refine s_ ?_;simp)
  refine Qr rfl ?_;simp;repeat(refine s_ ?_;simp)
  exact⟨j,rfl,zb,p,h,.inl rfl⟩
 have zc:x∉Q:=λhm=>za ((x21 hQ hx).2 hm);have z1:j0f Q x=Q++[x]:=by rw[j0f,if_neg zc]
 rw[z1];have ze:(Q.map R8).length=Q.length:=by simp
 simp;repeat(refine s_ ?_;simp)
 refine Qr rfl ?_;simp;repeat(refine s_ ?_;simp[ht])
 refine Lm (n:=R8 x) rfl rfl rfl rfl rfl (ks:=Q.map R8) (by rw[ze];rfl) hn z8 (Gy hx) za ?_;simp;have z6:=Qd (Ne.symm n2) ht (mpT (Q.map R8++[R8 x]));have z7:=Qd (Ne.symm n3) hs (mpT (Q.map R8++[R8 x]));have zd:=Qg hn (mpT (Q.map R8++[R8 x]));have zf:∀i,i≠m->(H.set m (mpT (Q.map R8++[R8 x])))[i]? =H[i]? :=λi hi=>zE (Ne.symm hi);have zh:(H.set m (mpT (Q.map R8++[R8 x]))).length=H.length:=by simp
 generalize H.set m (mpT (Q.map R8++[R8 x]))=G at *
 repeat(refine s_ ?_;simp[z6])
 have g1:∀L,(G.set p .dead++L)[r]?=some (.vars [.i a.types,.list (a.fin.map .bool),.list (a.mv.map encMv),LP cl,.sl p 1 0 Q.length,.mref m]):=λL=>Qa (Qd (Ne.symm n1) z6 _) L;refine apS T88 T47 ?_;simp[Qa z7,Qh z7,Qa z6,g1];refine⟨by simp[Wg,Qa z7,Qh z7,Qa z6,g1]<;>omega,?_⟩;repeat(refine s_ ?_;simp[g1])
 have zi:=Qe z6;have zj:=Qe z7;have zk:=Qe zd;refine⟨Q.length,rfl,by simp,G.length+1,⟨?_,?_,?_⟩,.inr (by omega),by omega,λh=>absurd h zc,λi hi h1 h2 h3=>?_⟩
 ·rw[zK (by simp;omega)];simp
 ·rw[zE (by omega),zH (by simp)];simp[LQ]
 ·rw[zE n2,zF (by simp;omega),zE n3,zd];simp
 rw[zE (Ne.symm h1),zF (by simp;omega),zE (Ne.symm h2)];exact zf i h3
end
section
def A7(H:List AObj)(r:Nat)(x:List Int):FC prog 49 [.vptr r 0,LI x] H (λres H'=>res= .fn (.func 107) [] [.vptr H.length 0,.vptr (H.length+1) 0]/\H'=H++[.vars [.vptr r 0],.vars [LI x]]):=by refine fcB func49 results49 ntmps49 ?_;simp only[Qf];repeat(refine s_ ?_;simp)
attribute [local irreducible] Qy Ql
def w08 (a:Aut) (ha:OkA a) (cl:List Prd) (set:List Int) (zg:∀c∈cl,Pk [c]=0/\Wj c=false/\Wb a (Ql c)) (zn:cl.length<=256) (q c1 c2 r:Nat) {z7:Nat} {sl':List (Nat×AV)} {ps:List Tmp} {asg body:Code} (zh:ps.length=2) (zi:(ps.all λp=>decide (p<z7))=true)
  (Inv:Nat->List AObj->Prop)
  (hI:∀k H,Inv k H->H[q]?=some (.lp true none z7 sl' ps asg body)/\H[c1]?=some (.vars [.vptr r 0])/\H[c2]?=some (.vars [LI set])/\∃rest,H[r]?=some (.vars (.i a.types:: .list (a.fin.map .bool):: .list (a.mv.map encMv)::LP cl::rest)))
  (z8:∀k H L,Inv k H->Inv k (H++L))
  (za:∀k c H,cl[k]?=some c->Qy a set (Ql c)=[]->Inv k H->Inv (k+1) H)
  (z1:∀k c H,cl[k]?=some c->Qy a set (Ql c)≠[]->Inv k H->AWP prog z7 H.length asg (P0 (AWP prog z7 H.length body (Nk q (λjm K2=>jm=none/\Inv (k+1) (K2.set q (.lp true none z7 sl' ps asg body))))) (λ_ _=>False)) ⟨E7 sl' ps [encP c,LI (Qy a set (Ql c))],H.set q .dead⟩)
  (H0:List AObj) (h0:Inv 0 H0):FC prog 107 [.yld q,.vptr c1 0,.vptr c2 0] H0 (λ_ H'=>Inv cl.length H'):=by
 refine fcB func107 results107 ntmps107 ?_;simp only[Qf];obtain⟨i1,i2,i3,rest,i4⟩:=hI 0 H0 h0;repeat(refine s_ ?_;simp[i2,i4])
 refine Qj (Qc (sl':=[(0,.yld q),(1,.vptr c1 0),(2,.vptr c2 0),(12,LP cl),(13,.i cl.length),(14,.i (0:Nat))]) ?_ (by simp));clear i1 i2 i3 i4;clear rest;refine Qi (F:=λ(u:Nat×List AObj)=>⟨[(0,.yld q),(1,.vptr c1 0),(2,.vptr c2 0),(12,LP cl),(13,.i cl.length),(14,.i u.1)],u.2⟩)
  (λu=>u.1<=cl.length/\Inv u.1 u.2) (λu=>cl.length - u.1) ?_ (0,H0) ⟨by simp,h0⟩
 rintro⟨k,H⟩ ⟨hk,hv⟩ ih;simp only at hk hv ih |-;repeat(refine s_ ?_;simp)
 refine Qb rfl (λzj=>?_) (λzk=>?_)
 ·have z6:k<cl.length:=by simpa using zj
  have hw:=wz k (by omega);have zc:=zg _ (zL z6);have zb:cl[k]?=some cl[k]:=zI z6;repeat(refine s_ ?_;simp[z6])
  generalize cl[k]=c at *;refine pcL (u07 c zc.1 zc.2.1) ?_
  simp;repeat(refine s_ ?_;simp)
  have zd:=z8 k H [.vars [.list (c.map encL)],.vars [.i (Ql c).ty,.i (Ql c).num]] hv;obtain⟨i1,i2,i3,rest,i4⟩:=hI k _ zd;have h6:(H++[AObj.vars [.list (c.map encL)],.vars [.i (Ql c).ty,.i (Ql c).num]])[H.length+1]?=some (.vars [.i (Ql c).ty,.i (Ql c).num]):=by rw[zH (by omega)];simp
  have h5:(H++[AObj.vars [.list (c.map encL)],.vars [.i (Ql c).ty,.i (Ql c).num]])[H.length]?=some (.vars [.list (c.map encL)]):=by rw[zH (by omega)];simp
  generalize H++[AObj.vars [.list (c.map encL)],.vars [.i (Ql c).ty,.i (Ql c).num]]=G at *;refine Qo tOk mixed [] (.val 0 (.val 1 (.val 2 (.val 3 (.val 4 (.val 5 (.one 6 (.val 7 (.done))))))))) rfl (by kernel_rfl) ?_
  simp[i2,i3,i4,h6];refine pcL (Bt a ha set (Ql c) zc.2.2) ?_;simp;have hlen:=Zo ha set (Ql c);have zl:=za k c G zb;have zm:=z1 k c G zb;generalize Qy a set (Ql c)=nx at *
  by_cases hnx:nx=[]
  ·subst hnx;repeat(refine s_ ?_;simp[h5])
   refine Wi rfl rfl ?_;simp;repeat(refine s_ ?_;simp)
   refine Qb rfl (λh=>by cases h) (λ_=>?_);repeat(refine s_ ?_;simp[hw])
   refine Qc (sl':=[(0,.yld q),(1,.vptr c1 0),(2,.vptr c2 0),(12,LP cl),(13,.i cl.length),(14,.i (k+1:Nat))]) ?_ (by simp);exact ih (k+1,G) ⟨by omega,zl rfl zd⟩ (by omega)
  have ze:0<nx.length:=uK.2 hnx;repeat(refine s_ ?_;simp[h5,ze])
  refine Rn rfl rfl (q:=q) rfl rfl i1 zh zi rfl (λjm K2=>jm=none/\Inv (k+1) (K2.set q (.lp true none z7 sl' ps asg body))) ?_ ?_
  ·exact zm hnx zd
  rintro jm K2 ⟨rfl,hK⟩;simp;repeat(refine s_ ?_;simp)
  refine Qb rfl (λh=>by cases h) (λ_=>?_);repeat(refine s_ ?_;simp[hw])
  refine Qc (sl':=[(0,.yld q),(1,.vptr c1 0),(2,.vptr c2 0),(12,LP cl),(13,.i cl.length),(14,.i (k+1:Nat))]) ?_ (by simp);exact ih (k+1,_) ⟨by omega,hK⟩ (by omega)
 have zf:k=cl.length:=by simp at zk;omega
 subst zf;repeat(refine s_ ?_;simp)
 exact hv
end
section
open Go.RowKit
section
variable {P:Program} [Env P] {T:TT} {nt k:Nat} {S:AS} {ops:Array Oper} {o:Oper} {R:AS->Prop} {Q:Exit->AS->Prop}
def Ci {wr:Bool} {sl:List (Nat×AV)} {H:List AObj} (i j e sz:Nat) {xs:List AV} (hi:H[i]?=some (.vars xs)) (hj:xs[j]?=some .nils)
  (h:Q9 P nt k wr ops o ⟨sl,(H++[AObj.arr e sz []]).set i (.vars (xs.set j (.sl H.length sz 0 0)))⟩ R):Q9 P nt k wr ops o ⟨sl,H⟩ R:=λC a w K Q' hs=>by
 obtain⟨I,m,hw,z1,hk,hf⟩:=hs;obtain⟨g1,g2⟩:=hw.push (Below.refl _ _) none (λb e=>by cases e) (.arr e sz []) (λm' _ _=> .inl ⟨rfl,rfl⟩);have z8:i<H.length:=(zB.1 hi).1;have z6:(H++[AObj.arr e sz []])[i]?=some (.vars xs):=by rw[zF z8];exact hi
 obtain⟨b,t,vs,hb,hh,za,hr⟩:=g1.obj i _ z6;obtain⟨g3,g4⟩:=g1.set (w':=w) (o':= .vars (xs.set j (.sl H.length sz 0 0))) z6 rfl hb (World.grownBy.refl _ _) (λ_ h=>h) (λm' z7=>⟨b,t,vs,rfl,hh,by simp[za],λq v x hv hx=>by
  by_cases hq:j=q
  ·subst hq;rw[zK (zB.1 hj).1]at hx;cases hx;have:=(hr j v _ hv hj).nils_inv;subst this;exact .slnone H.length sz (by simp) (by rw[z7.ids _ (by simp)];exact Q7 ..)
  rw[zE hq]at hx;exact(hr q v x hv hx).mono z7 (zR _)⟩)
 have hlen:((H++[AObj.arr e sz []]).set i (.vars (xs.set j (.sl H.length sz 0 0)))).length=H.length+1:=by simp
 refine h C a w K Q' ⟨I,upd m H.length none,g3,⟨z1.1,z1.2.1,λs x hx=>?_⟩,by simp at hk |-;omega,hf.trans hk g2⟩;obtain⟨v,hv,zb⟩:=z1.2.2 s x hx;refine⟨v,hv,?_⟩;have:=zb.mono (n':=H.length+1) g2 (by simp);rw[hlen];exact this
end
def N9{a:Aut}(h:OkA a)(hm:(R9 a.types (onA a)).1=0):∃cl,R9 a.types (onA a)=(0,cl)/\Cls a cl/\cl.length<=256/\∀c∈cl,Pk [c]=0/\Wj c=false/\Wb a (Ql c)/\PWf a.types.toNat c/\∀s∈c,s.length<=256:=by
 have hc:=f1n h;have za:a.mv.map (·.on)=onA a:=rfl;rw[za]at hc;have z7:=y07 h;have zb:=c0b a.types (onA a);rcases w12 h.types z7 with h5|h5
 ·omega
 refine⟨_,h5,hc,?_⟩;have hb:Di (Q5 a.types.toNat (onA a))=false:=by
  cases hb:Di (Q5 a.types.toNat (onA a))with
  |false=>rfl
  |true=>
   rw[<-zb,Cf]at hm;rw[if_neg (by have:=h.types;omega)]at hm;have hl:(onA a).length<=256:=by
    by_cases hl:256<(onA a).length
    ·rw[if_pos hl]at hm;simp at hm
    omega
   rw[if_neg (by omega),if_neg (λk=>k ((Ol _).2 λp hp=>(W3 _ p).2 ⟨h.types,z7 p hp⟩)),hb]at hm;simp at hm
 simp only[Di,Bool.or_eq_false_iff,decide_eq_false_iff_not,vv,decide_eq_true_eq]at hb;refine⟨by omega,λc z1=>?_⟩;have hw:=hc.wf c z1;have z8:∀s∈c,s.length<=256:=λs hs=>by have:=hb.2 c z1;simp only[Bool.not_eq_true,vv,decide_eq_true_eq]at this;have:=this s hs;omega
 have z6:Eu a.types c=0:=(W3 _ c).2 ⟨h.types,hw.1.1,λs hs=>Sr (hw.1.2 s hs).1 (Mg (hw.1.2 s hs).1 (hw.1.2 s hs).2) (by have:=z8 s hs;omega)⟩;refine⟨(f1v z6).1,?_,k1g hc z1,hw.1,z8⟩;rw[uf];intro hv;obtain⟨ty,y,hy⟩:=hw.2;exact(T8 hw.1).1 hv ty y hy
def x13(a:Aut)(k:Nat)(h:k<a.mv.length):(onA a).take (k+1)=(onA a).take k++[a.mv[k].on]:=by rw[zU (by simpa[onA]using h)];simp[onA]
def Va(a:Aut):(onA a).length=a.mv.length:=by simp[onA]
def Me:∀(xs:List (List Int)) (Q:List (List Int)),(Ee Q xs).length<=Q.length+xs.length
 |[],Q=>by simp[Ee]
 |x::xs,Q=>by
  have h:=Me xs (L6 Q x);have e:Ee Q (x::xs)=Ee (L6 Q x) xs:=rfl;have h2:(L6 Q x).length<=Q.length+1:=by unfold L6;split<;>simp
  rw[e,yW];omega
def z04{a:Aut}(z1:OkA a){Q:List (List Int)}(hQ:∀l∈Q,Ap l)(z8:Q.length<=256){cl:List Prd}(za:cl.length<=256){l:List Int}(k:Nat):
  (∀y∈Ee Q ((Tc a cl l).take k),Ap y)/\(Ee Q ((Tc a cl l).take k)).length<=600:=by
 have hlen:=Me ((Tc a cl l).take k) Q;have z6:(Tc a cl l).length=cl.length:=by simp[Tc]
 rw[xV,z6]at hlen;refine⟨λy hy=>?_,by omega⟩;obtain⟨R,hR,z7⟩:=Uu ((Tc a cl l).take k) Q;rw[hR]at hy;rcases zT.1 hy with hy|hy
 ·exact hQ y hy
 obtain⟨h1,h2⟩:=z7 y hy;obtain⟨c,_,rfl⟩:=zQ.1 (xX h1);have:=z1.fin;exact⟨h2,Zo z1 _ _,λz hz=>by have:=O1 z hz;omega⟩
def L9(Q xs:List (List Int))(x:List Int):Ee Q (xs++[x])=L6 (Ee Q xs) x:=by unfold Ee;rw[wQ];rfl
def f0f{Q:List (List Int)}{x:List Int}(h:x≠[]):L6 Q x=j0f Q x:=by
 unfold L6 j0f;by_cases hx:x∈Q
 ·rw[if_pos (.inr hx),if_pos hx]
 rw[if_neg (by simp[h,hx]),if_neg hx]
def u1v(Q:List (List Int)):L6 Q []=Q:=by unfold L6;simp
attribute [local irreducible] Qy Ql R9 onA mpT R8
def u0f(H:List AObj)(a:Aut):FC prog 46 [encA a] H (λres H'=>(∀j,j<H.length->H'[j]? =H[j]?)/\(((Pn a).1≠0/\res= .tup [.nilp,.i (Pn a).1])\/
  ((Pn a).1=0/\∃r p m,res= .tup [.vptr r 0,.i 0]/\TB r p m a (Pn a).2.1 (Pn a).2.2 H'/\H.length<=r/\H.length<=p/\H.length<=m))):=by
 refine fcB func46 results46 ntmps46 ?_;simp only[Qf];simp only[encA];repeat(refine s_ ?_;simp)
 have b0:∀L,(H++[AObj.vars (Qk a)]++L)[H.length]?=some (.vars (Qk a)):=λL=>by rw[xQ,zH (by omega)];simp
 refine pcL (R6 a) ?_;simp;repeat(refine s_ ?_;simp)
 refine Qb rfl (λh=>?_) (λh=>?_)
 ·have h':Wo a≠0:=by simpa using h
  have hs:Pn a=(Wo a,[],[]):=w0q h';rw[hs];repeat(refine s_ ?_;simp)
  exact⟨λj hj=>zF hj,h'⟩
 have h0:Wo a=0:=by simpa using h
 have z7:=(Ud a).1 h0;have yl:=z7.fin;have ym:=z7.mvs;repeat(refine s_ ?_;simp)
 refine Q3 5 70 1 rfl ?_;simp;obtain⟨G0,zg⟩:∃G0,G0=H++[AObj.vars (Qk a)]:=⟨_,rfl⟩
 have y4:G0[H.length]?=some (.vars (Qk a)):=by rw[zg];simp
 have zh:G0.length=H.length+1:=by rw[zg];simp
 have y5:∀j,j<H.length->G0[j]? =H[j]? :=λj hj=>by rw[zg];exact zF hj
 have hst:=SL.start G0 70 1;refine Qj (Qc (sl':=[(1,.vptr H.length 0),(5,.sl G0.length 1 0 (0:Nat)),(20,.list (a.mv.map encMv)),(21,.i a.mv.length),(22,.i (0:Nat))]) ?_ (by simp[zh]));refine Qi (F:=λ(u:Nat×Nat×List AObj)=>⟨[(1,.vptr H.length 0),(5,.sl u.2.1 1 0 u.1),(20,.list (a.mv.map encMv)),(21,.i a.mv.length),(22,.i u.1)],u.2.2⟩)
  (λu=>u.1<=a.mv.length/\SL G0 u.2.2 u.2.1 70 1 (((onA a).take u.1).map encP)) (λu=>a.mv.length - u.1) ?_ (0,G0.length,_) ⟨by simp,by simp only[wd,wD];rw[zg]at hst |-;simpa using hst⟩
 rintro⟨j,q,E⟩ ⟨hj,s1⟩ ih;simp only at hj s1 ih |-;repeat(refine s_ ?_;simp)
 refine Qb rfl (λzq=>?_) (λzr=>?_)
 ·have z1:j<a.mv.length:=by simpa using zq
  have hw:=wz j (by omega);have za:=x13 a j z1;have y6:((onA a).take j).length=j:=by rw[xV,Va];omega
  have y7:=λq' E'=>ih (j+1,q',E');simp only[za]at y7;clear za;generalize (onA a).take j=acc at *
  repeat(refine s_ ?_;simp[z1])
  generalize a.mv[j]=mm at *;refine apS T87 T70 ?_
  simp[Qa s1.arr,Qh s1.arr,y6];refine⟨by simp[Wg,Qa s1.arr,Qh s1.arr,y6]<;>omega,?_⟩;repeat(refine s_ ?_;simp[hw])
  refine Qc (sl':=[(1,.vptr H.length 0),(5,.sl (E.length+2) 1 0 (j+1)),(20,.list (a.mv.map encMv)),(21,.i a.mv.length),(22,.i (j+1:Nat))]) ?_ (by simp);have:=y7 (E.length+2) _ ⟨by omega,s1.put [AObj.vars [AV.i mm.src,AV.i mm.dst,AV.list (mm.on.map encL)],AObj.arr 70 1 [encP mm.on]] ((acc++[mm.on]).map encP) rfl⟩ (by omega);simpa using this
 have zi:j=a.mv.length:=by simp at zr;omega
 subst zi;rw[zV (by rw[Va];omega)]at s1;refine Ws q s1.arr ?_;simp[Va];rw[zV (by simp[Va])];have yn:=s1.ge;have yo:=s1.le;have zj:(E.set q .dead)[H.length]?=some (.vars (Qk a)):=by rw[zE (by omega),s1.keep _ (by omega)];exact y4
 have zu:∀i,i<H.length->(E.set q .dead)[i]? =H[i]? :=λi hi=>by rw[zE (by omega),s1.keep _ (by omega)];exact y5 i hi
 have y8:H.length<(E.set q .dead).length:=Qe zj;generalize E.set q .dead=E1 at *;clear s1 yo yn ih
 repeat(refine s_ ?_;simp[zj])
 refine pcL (M3 a.types (onA a)) ?_;simp;repeat(refine s_ ?_;simp)
 refine Qb rfl (λh3=>?_) (λh3=>?_)
 ·have zm:(R9 a.types (onA a)).1≠0:=by simpa using h3
  have hs:Pn a=((R9 a.types (onA a)).1,[],[]):=by rw[Pn,if_neg (λk=>k h0),if_pos zm]
  rw[hs];repeat(refine s_ ?_;simp)
  exact⟨zu,zm⟩
 have zm:(R9 a.types (onA a)).1=0:=by simpa using h3
 obtain⟨cl,y9,yp,zc,zv⟩:=N9 z7 zm;rw[y9];repeat(refine s_ ?_;simp[zj])
 refine Wx rfl rfl rfl ?_;simp;repeat(refine s_ ?_;simp)
 refine Ww (E1.length+3) (e:=3) (c:=1) (xs:=[.i 0]) (by rw[zH (by omega)];simp) ?_;simp;refine Ci (E1.length+1) 4 47 1 (xs:=[.i a.types,.list (a.fin.map .bool),.list (a.mv.map encMv),LP cl,.nils,.mref E1.length]) (by rw[zH (by omega)];simp) rfl ?_;refine Kh λZ hZ=>?_;have yq:Z.length=E1.length+5:=by rw[hZ];simp
 have z0:Z[H.length]?=some (.vars (Qk a)):=by rw[hZ,zE (by omega),xQ,zF y8];exact zj
 have zk:∀i,i<H.length->Z[i]? =H[i]? :=λi hi=>by rw[hZ,zE (by omega),xQ,zF (by omega)];exact zu i hi
 have zt:TB (E1.length+1) (E1.length+4) E1.length a cl [] Z:=by
  refine⟨?_,?_,?_⟩
  ·rw[hZ,zK (by simp)];simp
  ·rw[hZ,zE (by omega),zH (by simp)];simp[LQ]
  rw[hZ,zE (by omega),xQ,zH (by omega)];simp[E6]
 have zb:Z[E1.length+2]?=some (.vars [.vptr (E1.length+1) 0]):=by rw[hZ,zE (by omega),xQ,zH (by omega)];simp
 clear hZ;have ya:Ap [0]:=⟨by simp,by simp,λz hz=>by simp at hz;omega⟩
 refine Qu rfl rfl (w0n Z _ _ _ a cl [] [0] zt ya (λl hl=>by simp at hl) (by simp)) rfl ?_;rintro res Y ⟨j0,p,rfl,yc,ht,yr,yt,-,zn⟩;have zw:j0f [] [0]=[[0]]:=by simp[j0f]
 rw[zw]at ht;simp;repeat(refine s_ ?_;simp)
 have y0:=(zn H.length (by omega) (by omega) (by omega) (by omega)).trans z0;have yk:∀i,i<H.length->Y[i]? =H[i]? :=λi hi=>(zn i (by omega) (by omega) (by omega) (by omega)).trans (zk i hi);have yb:=(zn _ (by omega) (by omega) (by omega) (by omega)).trans zb;have ze:H.length<=p:=by omega
 have yu:H.length<=E1.length+1:=by omega
 have xg:H.length<=E1.length+2:=by omega
 have yv:H.length<=E1.length:=by omega
 refine Qn (sl':=[(10,.vptr (E1.length+2) 0),(11,.i (0:Nat))]) ?_ (by simp);clear zt z0 zk zb zn yq yt yc yr zj zu y8 y4 zh y5 zg;generalize E1.length+1=r at *;generalize E1.length+2=b at *;generalize E1.length=m at *
 have z6:Pn a=match v0g a cl 257 0 [[0]]with
   |none=>(5,[],[])
   |some Q=>(0,cl,Q):=by
  rw[Pn,if_neg (λk=>k h0),y9];rfl
 refine Qj (Qc (sl':=[(10,.vptr b 0),(11,.i (0:Nat))]) ?_ (by simp));refine Qi (F:=λ(u:Nat×Nat×List (List Int)×List AObj)=>⟨[(10,.vptr b 0),(11,.i u.1)],u.2.2.2⟩)
  (λu=>u.1<=u.2.2.1.length/\u.2.2.1.length<=256/\TB r u.2.1 m a cl u.2.2.1 u.2.2.2/\H.length<=u.2.1/\u.2.2.2[b]?=some (.vars [.vptr r 0])/\(∀i,i<H.length->u.2.2.2[i]? =H[i]?)/\(∀l∈u.2.2.1,Ap l)/\v0g a cl 257 0 [[0]]=v0g a cl (257 - u.1) u.1 u.2.2.1) (λu=>257 - u.1) ?_ (0,p,[[0]],Y) ⟨by simp,by simp,ht,ze,yb,yk,λl hl=>by rw[zO.1 hl];exact ya,rfl⟩
 clear ht ze yb yk y0;clear Y;rintro⟨i,p,Q,Y⟩ ⟨hi,zx,ht,ze,yb,yk,hQ,z8⟩ ih;simp only at hi zx ht ze yb yk hQ z8 ih |-;have yd:=ht.t;repeat(refine s_ ?_;simp[yb,yd])
 refine Qb rfl (λzq=>?_) (λzr=>?_)
 ·have z1:i<Q.length:=by simpa using zq
  have hw:=wz i (by omega);have yw:=ht.s;have hlo:=hQ _ (zL z1);repeat(refine s_ ?_;simp)
  refine Qo tOk mixed [8] (.val 0 (.val 1 (.val 2 (.val 3 (.val 4 (.val 5 (.val 6 (.val 7 (.one 8 (.done)))))))))) rfl (by kernel_rfl) ?_;simp[yb,yd,yw,z1];refine Qu rfl rfl (A7 Y r Q[i]) rfl ?_;rintro _ _ ⟨rfl,rfl⟩;simp;repeat(refine s_ ?_;simp)
  have zo:v0g a cl (257 - i) i Q=if 256<(Ee Q (Tc a cl Q[i])).length then none else v0g a cl (257 - (i+1)) (i+1) (Ee Q (Tc a cl Q[i])):=by
   have:257 - i=(257 - (i+1))+1:=by omega
   rw[this,v0g,zI z1]
  rw[zo]at z8;clear zo;generalize Q[i]=l at *
  have yx:(Tc a cl l).length=cl.length:=by simp[Tc]
  have ye:∀(k:Nat) (c:Prd),cl[k]?=some c->(Tc a cl l).take (k+1)=(Tc a cl l).take k++[Qy a l (Ql c)]:=λk c hc=>by
   have hk:=Uz hc;have yy:cl[k]=c:=by rw[zI hk]at hc;exact Option.some.inj hc
   rw[zU (by rw[yx];exact hk)];simp[Tc,yy]
  have yz:∀k,(∀y∈Ee Q ((Tc a cl l).take k),Ap y)/\(Ee Q ((Tc a cl l).take k)).length<=600:=λk=>z04 z7 hQ zx zc k;have x0:=Qe yb;refine W5 rfl (Rf:=λ_ H'=>∃p',TB r p' m a cl (Ee Q (Tc a cl l)) H'/\H.length<=p'/\H'[b]?=some (.vars [.vptr r 0])/\(∃sl' zy a' b',H'[Y.length+2]?=some (.lp true none 80 sl' zy a' b'))/\∀i,i<H.length->H'[i]? =H[i]?) ?_ ?_
  ·simp;refine Sd λH1 zd=>?_;have ft:TB r p m a cl Q H1:=ht.keep λj hj=>by
    have:j<Y.length:=by
     rcases hj with rfl|rfl|rfl
     ·exact Qe ht.t
     ·exact Qe ht.s
     exact Qe ht.n
    rw[zd,zF this]
   have fb:H1[b]?=some (.vars [.vptr r 0]):=by rw[zd,zF x0];exact yb
   have x1:H1[Y.length]?=some (.vars [.vptr r 0]):=by rw[zd,zH (by omega)];simp
   have x2:H1[Y.length+1]?=some (.vars [LI l]):=by rw[zd,zH (by omega)];simp
   have fk:∀i,i<H.length->H1[i]? =H[i]? :=λi hi=>by rw[zd,zF (by have:=Qe ht.t;omega)];exact yk i hi
   have fq:=congrArg (λh:List AObj=>h[Y.length+2]?) zd;simp at fq;clear zd;refine FC.mono (w08 a z7 cl l (λc hc=>⟨(zv c hc).1,(zv c hc).2.1,(zv c hc).2.2.1⟩) zc (Y.length+2) Y.length (Y.length+1) r (by rfl) (by rfl)
    (λk H'=>∃p',TB r p' m a cl (Ee Q ((Tc a cl l).take k)) H'/\H.length<=p'/\H'[b]?=some (.vars [.vptr r 0])/\H'[Y.length]?=some (.vars [.vptr r 0])/\H'[Y.length+1]?=some (.vars [LI l])/\H'[Y.length+2]? =H1[Y.length+2]? /\∀i,i<H.length->H'[i]? =H[i]?)
    (λk H' ⟨p',h1,h2,h3,h4,h5,h6,h7⟩=>⟨h6.trans fq,h4,h5,_,h1.t⟩) ?_ ?_ ?_ H1 ⟨p,ft,ze,fb,x1,x2,rfl,fk⟩) ?_
   ·rintro k H' L ⟨p',h1,h2,h3,h4,h5,h6,h7⟩;refine⟨p',h1.keep λj hj=>?_,h2,Qa h3 _,Qa h4 _,Qa h5 _,by rw[<-h6,zF (by rw[fq]at h6;exact Qe h6)],λi hi=>by rw[zF (by have:=Qe h1.t;omega)];exact h7 i hi⟩;have:j<H'.length:=by
     rcases hj with rfl|rfl|rfl
     ·exact Qe h1.t
     ·exact Qe h1.s
     exact Qe h1.n
    exact zF this
   ·rintro k c H' hc za ⟨p',h1,h⟩;refine⟨p',?_,h⟩;rw[ye k c hc,za,L9,u1v];exact h1
   ·rintro k c H' hc za ⟨p',h1,h2,h3,h4,h5,h6,h7⟩;have zz:Ap (Qy a l (Ql c)):=by have:=z7.fin;exact⟨za,Zo z7 _ _,λz hz=>by have:=O1 z hz;omega⟩
    have y1:=ye k c hc;have zl:=yz k;rw[y1,L9,f0f za];generalize Qy a l (Ql c)=nx at *;generalize Ee Q ((Tc a cl l).take k)=Q2 at *
    simp[E7];have h8:=h6.trans fq;have yf:Y.length+2≠r:=λe=>by have:=h1.t;rw[<-e,h8]at this;simp at this
    have yg:Y.length+2≠p':=λe=>by have:=h1.s;rw[<-e,h8]at this;simp at this
    have yh:Y.length+2≠m:=λe=>by have:=h1.n;rw[<-e,h8,E6]at this;simp at this
    have zp:Y.length+2≠b:=λe=>by rw[<-e,h8]at h3;simp at h3
    have x3:b≠r:=λe=>by have:=h1.t;rw[<-e,h3]at this;simp at this
    have x4:b≠p':=λe=>by have:=h1.s;rw[<-e,h3]at this;simp at this
    have x5:b≠m:=λe=>by have:=h1.n;rw[<-e,h3,E6]at this;simp at this
    have x6:Y.length≠r:=λe=>by have:=h1.t;rw[<-e,h4]at this;simp at this
    have x7:Y.length≠p':=λe=>by have:=h1.s;rw[<-e,h4]at this;simp at this
    have x8:Y.length≠m:=λe=>by have:=h1.n;rw[<-e,h4,E6]at this;simp at this
    have x9:Y.length+1≠r:=λe=>by have:=h1.t;rw[<-e,h5]at this;simp at this
    have xa:Y.length+1≠p':=λe=>by have:=h1.s;rw[<-e,h5]at this;simp at this
    have xb:Y.length+1≠m:=λe=>by have:=h1.n;rw[<-e,h5,E6]at this;simp at this
    have d1:TB r p' m a cl Q2 (H'.set (Y.length+2) .dead):=h1.keep λj hj=>by rw[zE (by rcases hj with rfl|rfl|rfl<;>assumption)]
    have d3:=Qd zp h3 .dead;have d4:=Qd (j:=Y.length+2) (by omega) h4 .dead;have d5:=Qd (j:=Y.length+2) (by omega) h5 .dead;have d6:=Qg h8 .dead;have d7:∀i,i<H.length->(H'.set (Y.length+2) .dead)[i]? =H[i]? :=λi hi=>by rw[zE (by have:=Qe yb;omega)];exact h7 i hi
    have dl:(H'.set (Y.length+2) .dead).length=H'.length:=by simp
    generalize H'.set (Y.length+2) .dead=Z at *
    repeat(refine s_ ?_;simp[d3])
    refine Qu rfl rfl (w0n Z r p' m a cl Q2 nx d1 zz zl.1 (by have:=zl.2;omega)) rfl ?_;rintro res Z2 ⟨j0,p2,rfl,yc,yi,xh,xi,-,zf⟩;simp;repeat(refine s_ ?_;simp)
    have hz:∀i,i<Z.length->i≠r->i≠p'->i≠m->Z2[i]? =Z[i]? :=zf;have e3:=(zf b (Qe d3) x3 x4 x5).trans d3;have e4:=(zf _ (Qe d4) x6 x7 x8).trans d4;have e5:=(zf _ (Qe d5) x9 xa xb).trans d5;have e6:=(zf _ (Qe d6) yf yg yh).trans d6;have xc:Y.length+2≠p2:=λe=>by have:=yi.s;rw[<-e,e6]at this;simp at this
    refine⟨e6,rfl,p2,yi.keep (λj hj=>by rw[zE (by rcases hj with rfl|rfl|rfl<;>assumption)]),by have:=Qe d6;omega,Qd zp e3 _,e4,e5,?_,λi hi=>?_⟩
    ·rw[fq];exact Qg e6 _
    rw[zE (by have:=Qe yb;omega),zf i (by have:=Qe d6;omega) (by omega) (by omega) (by omega)];exact d7 i hi
   rintro _ H' ⟨p',h1,h2,h3,h4,h5,h6,h7⟩;rw[zV (by omega)]at h1;exact⟨p',h1,h2,h3,⟨_,_,_,_,h6.trans fq⟩,h7⟩
  rintro res H' ⟨p',h1,h2,h3,⟨sl',zy,a',b',h6⟩,h7⟩;refine⟨true,none,80,sl',zy,a',b',by simpa using h6,?_⟩;simp;have yf:Y.length+2≠r:=λe=>by have:=h1.t;rw[<-e,h6]at this;simp at this
  have yg:Y.length+2≠p':=λe=>by have:=h1.s;rw[<-e,h6]at this;simp at this
  have yh:Y.length+2≠m:=λe=>by have:=h1.n;rw[<-e,h6,E6]at this;simp at this
  have zp:Y.length+2≠b:=λe=>by rw[<-e,h6]at h3;simp at h3
  have d1:TB r p' m a cl (Ee Q (Tc a cl l)) (H'.set (Y.length+2) .dead):=h1.keep λj hj=>by rw[zE (by rcases hj with rfl|rfl|rfl<;>assumption)]
  have d3:=Qd zp h3 .dead;have d7:∀i,i<H.length->(H'.set (Y.length+2) .dead)[i]? =H[i]? :=λi hi=>by rw[zE (by have:=Qe yb;omega)];exact h7 i hi
  have yj:=z04 z7 hQ zx zc (l:=l) cl.length;rw[zV (by omega)]at yj;have xd:=v0x Q (Tc a cl l);generalize H'.set (Y.length+2) .dead=Z at *;generalize Ee Q (Tc a cl l)=Q2 at *
  have d0:=d1.t;repeat(refine s_ ?_;simp[d3,d0])
  refine Qb rfl (λy2=>?_) (λxe=>?_)
  ·have xf:256<Q2.length:=by simp at y2;omega
   rw[if_pos xf]at z8;rw[z8]at z6;rw[z6];repeat(refine s_ ?_;simp)
   exact d7
  have y3:¬256<Q2.length:=by simp at xe;omega
  rw[if_neg y3]at z8;repeat(refine s_ ?_;simp[hw])
  refine Qc (sl':=[(10,.vptr b 0),(11,.i (i+1:Nat))]) ?_ (by simp);exact ih (i+1,p',Q2,Z) ⟨by show i+1<=Q2.length;omega,by show Q2.length<=256;omega,d1,h2,d3,d7,yj.1,z8⟩ (by omega)
 have zi:i=Q.length:=by simp at zr;omega
 have zo:v0g a cl (257 - i) i Q=some Q:=by
  have:257 - i=(256 - i)+1:=by omega
  rw[this,v0g,yY (by omega)]
 rw[zo]at z8;rw[z8]at z6;rw[z6];repeat(refine s_ ?_;simp[yb])
 exact⟨yk,p,m,ht,yu,ze,yv⟩
end
section
open Go.RowKit
attribute [local irreducible] Pn
end
section
open Go.RowKit
def Fx(fx:List (Nat×AObj))(H:List AObj):Prop:=∀p∈fx,H[p.1]?=some p.2
def Fx.app{fx:List (Nat×AObj)}{H:List AObj}(h:Fx fx H)(L:List AObj):Fx fx (H++L):=λp hp=>Qa (h p hp) L
def Fx.set{fx:List (Nat×AObj)}{H:List AObj}(h:Fx fx H){x:Nat}{o:AObj}(hx:H[x]?=some o)(hn:∀p∈fx,p.2≠o)(y:AObj):Fx fx (H.set x y):=λp hp=>by
 have z1:x≠p.1:=λe=>by have:=h p hp;rw[<-e,hx]at this;exact hn p hp (Option.some.inj this).symm
 rw[zE z1];exact h p hp
def c0d(g:List Mv)(to:Nat):Int:=match g.findIdx? λm:Mv=>decide (m.dst=(to:Int))with
 |some i=>i
 |none=> -1
def z2x(H:List AObj)(id to:Nat)(hid:H[id]?=some (.vars [.i to]))(m:Mv):FC prog 52 [encMv m,.vptr id 0] H (λr H'=>r= .bool (decide (m.dst=(to:Int)))/\H'=H++[.vars [.i m.src,.i m.dst,.list (m.on.map encL)]]):=by
 refine fcB func52 results52 ntmps52 ?_;simp only[Qf];simp only[encMv];repeat(refine s_ ?_;simp[Qa hid])
 rfl
def j1z{g:List Mv}{to j:Nat}(h:j<g.length)(h1:g[j].dst=(to:Int))(h2:∀i,∀hi:i<g.length,i<j->¬g[i].dst=(to:Int)):c0d g to=j:=by
 have:g.findIdx? (λm:Mv=>decide (m.dst=(to:Int)))=some j:=by rw[List.findIdx?_eq_some_iff_getElem];exact⟨h,by simpa using h1,λi hi=>by simpa using h2 i (by omega) hi⟩
 rw[c0d,this]
def j0q{g:List Mv}{to:Nat}(h2:∀i,∀hi:i<g.length,¬g[i].dst=(to:Int)):c0d g to= -1:=by
 have:g.findIdx? (λm:Mv=>decide (m.dst=(to:Int)))=none:=by rw[List.findIdx?_eq_none_iff];intro m hm;obtain⟨i,hi,rfl⟩:=yZ hm;simpa using h2 i hi
 rw[c0d,this]
def g0g(H:List AObj)(v first to id:Nat)(pre g:List Mv)(hid:H[id]?=some (.vars [.i to]))(hv:H[v]?=some (.arr 73 3 ((pre++g).map encMv)))(hl:pre.length+g.length<=1000000000)(hf:first=pre.length):
  FC prog 51 [.sl v 3 first g.length,.fn (.func 52) [] [.vptr id 0]] H (λr H'=>r= .i (c0d g to)/\∃L,H'=H++L):=by
 subst hf;refine fcB func51 results51 ntmps51 ?_;simp only[Qf];repeat(refine s_ ?_;simp)
 refine Qj (Qc (sl':=[(0,.sl v 3 pre.length g.length),(1,.fn (.func 52) [] [.vptr id 0]),(7,.i g.length),(8,.i (0:Nat))]) ?_ (by simp));refine Qi (F:=λ(u:Nat×List AObj)=>⟨[(0,.sl v 3 pre.length g.length),(1,.fn (.func 52) [] [.vptr id 0]),(7,.i g.length),(8,.i u.1)],u.2⟩)
  (λu=>u.1<=g.length/\(∃L,u.2=H++L)/\∀i,∀hi:i<g.length,i<u.1->¬g[i].dst=(to:Int)) (λu=>g.length - u.1) ?_ (0,H) ⟨by simp,⟨[],by simp⟩,by simp⟩
 rintro⟨j,E⟩ ⟨hj,⟨L,hL⟩,hI⟩ ih;simp only at hj hI hL ih |-;subst hL;repeat(refine s_ ?_;simp)
 refine Qb rfl (λza=>?_) (λzb=>?_)
 ·have z1:j<g.length:=by simpa using za
  have hw:=wz j (by omega);have zc:((pre++g).map encMv)[pre.length+j]?=some (encMv g[j]):=by simp[z1]
  have zd:=Qa hv L;have z6:=Qa hid L;repeat(refine s_ ?_;simp[z1,zd,zc])
  generalize z8:g[j]=m at *;refine Qu rfl rfl (z2x (H++L) id to z6 m) rfl ?_
  rintro _ _ ⟨rfl,rfl⟩;simp;repeat(refine s_ ?_;simp)
  refine Qb rfl (λh=>?_) (λh=>?_)
  ·repeat(refine s_ ?_;simp)
   exact(j1z z1 (by rw[z8];simpa using h) hI).symm
  repeat(refine s_ ?_;simp[hw])
  refine Qc (sl':=[(0,.sl v 3 pre.length g.length),(1,.fn (.func 52) [] [.vptr id 0]),(7,.i g.length),(8,.i (j+1:Nat))]) ?_ (by simp);refine ih (j+1,_) ⟨by omega,⟨L++[.vars [.i m.src,.i m.dst,.list (m.on.map encL)]],by simp⟩,λi hi ze=>?_⟩ (by omega);by_cases e:i=j
  ·subst e;rw[z8];simpa using h
  exact hI i hi (by omega)
 have z7:j=g.length:=by simp at zb;omega
 subst z7;repeat(refine s_ ?_;simp)
 exact(j0q λi hi=>hI i hi hi).symm
end
end Go.Abs
