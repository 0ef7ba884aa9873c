/- Part Ve of the proof: steps on the way to the last part. No condition. -/
import Derived.Test.YtjmkolhkojgjpaaGreatDoorVd
set_option linter.all false
open Nat renaming zero_le->xP,le_refl->zW,le_trans->yW,lt_trichotomy->wZ,strongRecOn->sq,mul_le_mul_right->yK
open List renaming nodup_cons->uQ,length_cons->xI,getElem?_eq_some_iff->zE,pairwise_iff_getElem->yU,mem_map->zU,mem_append->yB,mem_singleton->zV,mem_append_left->xB,getElem?_append_left->zI,mem_of_getElem?->zL,foldl_append->wJ,pairwise_append->yT,map_append->xA,nodup_append->vD,mem_append_right->vP,nil_append->u5,reverse_cons->uR,mem_iff_getElem?->yQ,reverse_reverse->uD,getElem?_eq_none_iff->th,find?_eq_none->vU,mem_of_find?_eq_some->vO,find?_some->uY,find?_cons->t_,pairwise_map->xS,length_flatMap->vQ,map_congr_left->xH,map_const'->ub,sum_replicate_nat->vZ,mem_flatMap->xZ,mem_filter->xT,mem_filterMap->wR,mem_cons->yO,Nodup->sI,pairwise_flatMap->vN,any_eq_true->wW,map_map->vV,length_map->yL,foldl_cons->xX,range->y_,findIdx?_eq_none_iff->vY,findIdx?_eq_some_iff_getElem->xV,getElem?_eq_getElem->zP,getElem?_append_right->zO,getElem_mem->zT,getD->yV,perm_middle->vT,take_append_drop->xW,pairwise_cons->yZ,perm_ext_iff_of_nodup->ul,mem_or_eq_of_mem_set->wU,getElem?_eq_none->xF,append_assoc->xU,mem_range->xD,length_append->yP,length->up,findIdx?_cons->tN,ext_getElem->wG,getElem_map->te,flatMap_def->tf,map_cons->xR,sum_cons->ss,foldl_nil->tt,getElem_of_mem->xE,replicate->yH,pairwise_mergeSort->uz,mergeSort_perm->vE,eq_nil_iff_forall_not_mem->vG,all_eq_true->yE,drop_length->x_
open Int renaming le_refl->xC,toNat_natCast->v_,lt_or_le->sF
open Bool renaming eq_iff_iff->wB,and_eq_true->yJ,or_eq_true->vB
open Option renaming map_some->wP,getD_some->ww,bind_some->wL
open Prod renaming ext->un,ext_iff->tu
set_option maxHeartbeats 2000000
set_option linter.unusedSimpArgs false
set_option maxRecDepth 100000
open Go.Proofs.Tryz
namespace Go.Abs
section
def sLt(x y:Sy):Prop:=x.ty<y.ty\/(x.ty=y.ty/\x.num<y.num)
def sLt.irr{x:Sy}(h:sLt x x):False:=by unfold sLt at h;omega
def sLt.trans{x y z:Sy}(h:sLt x y)(k:sLt y z):sLt x z:=by unfold sLt at *;omega
def sLt.tri(x y:Sy):sLt x y\/x=y\/sLt y x:=by cases x;cases y;unfold sLt;simp only[Sy.mk.injEq];omega
def v0c:List Sy->List Sy->Prop
 |x::v,y::w=>sLt x y\/(x=y/\v0c v w)
 |_,_=>False
def ll(v w:List Sy):Prop:=v.length<w.length\/(v.length=w.length/\v0c v w)
def lle(v w:List Sy):Prop:=v=w\/ll v w
def v0c.irr:∀ {v:List Sy},¬v0c v v
 |[],h=>h
 |x::v,h=>by
  rcases h with h|⟨_,h⟩
  ·exact h.irr
  exact v0c.irr h
def v0c.trans:∀ {u v w:List Sy},v0c u v->v0c v w->v0c u w
 |[],_,_,h,_=>h.elim
 |_::_,[],_,h,_=>h.elim
 |_::_,_::_,[],_,k=>k.elim
 |x::u,y::v,z::w,h,k=>by
  rcases h with h|⟨rfl,h⟩
  ·rcases k with k|⟨rfl,k⟩
   ·exact .inl (h.trans k)
   exact .inl h
  rcases k with k|⟨rfl,k⟩
  ·exact .inl k
  exact .inr ⟨rfl,h.trans k⟩
def ll.irr{v:List Sy}(h:ll v v):False:=by
 rcases h with h|⟨_,h⟩
 ·omega
 exact v0c.irr h
def ll.trans{u v w:List Sy}(h:ll u v)(k:ll v w):ll u w:=by
 rcases h with h|⟨h1,h2⟩
 ·rcases k with k|⟨k1,_⟩
  ·exact .inl (by omega)
  exact .inl (by omega)
 rcases k with k|⟨k1,k2⟩
 ·exact .inl (by omega)
 exact .inr ⟨by omega,h2.trans k2⟩
def lle.refl(v:List Sy):lle v v:= .inl rfl
def lle.trans{u v w:List Sy}(h:lle u v)(k:lle v w):lle u w:=by
 rcases h with rfl|h
 ·exact k
 rcases k with rfl|k
 ·exact .inr h
 exact .inr (h.trans k)
def ll.lle{u v w:List Sy}(h:ll u v)(k:lle v w):ll u w:=by
 rcases k with rfl|k
 ·exact h
 exact h.trans k
def lle.anti{u v:List Sy}(h:lle u v)(k:lle v u):u=v:=by
 rcases h with rfl|h
 ·rfl
 exact((h.lle k).irr).elim
def z08:∀ {u v:List Sy} (a b:List Sy),u.length=v.length->v0c u v->v0c (u++a) (v++b)
 |[],_,_,_,_,h=>h.elim
 |_::_,[],_,_,_,h=>h.elim
 |x::u,y::v,a,b,e,h=>by
  rcases h with h|⟨rfl,h⟩
  ·exact .inl h
  exact .inr ⟨rfl,z08 a b (by simpa using e) h⟩
def y0o:∀(u:List Sy) {a b:List Sy},v0c a b->v0c (u++a) (u++b)
 |[],_,_,h=>h
 |_::u,_,_,h=> .inr ⟨rfl,y0o u h⟩
def w15{u v:List Sy}(h:ll u v)(x y:Sy):ll (u++[x]) (v++[y]):=by
 rcases h with h|⟨h1,h2⟩
 ·exact .inl (by simp;omega)
 exact .inr ⟨by simp;omega,z08 _ _ h1 h2⟩
def x0e(u:List Sy){x y:Sy}(h:sLt x y):ll (u++[x]) (u++[y]):= .inr ⟨by simp,y0o u (.inl h)⟩
def u1q{u v:List Sy}(h:lle u v){x y:Sy}(k:x=y\/sLt x y):lle (u++[x]) (v++[y]):=by
 rcases h with rfl|h
 ·rcases k with rfl|k
  ·exact .inl rfl
  exact .inr (x0e _ k)
 exact .inr (w15 h x y)
def w2t(u:List Sy)(x:Sy):ll u (u++[x]):= .inl (by simp)
def Yw{α:Type}[DecidableEq α]:∀(l U:List α),l.Nodup->(∀x∈l,x∈U)->l.length<=U.length
 |[],_,_,_=>xP _
 |x::l,U,hn,h=>by have hx:=h x (by simp);have hc:=uQ.1 hn;have ih:=Yw l (U.erase x) hc.2 (λy hy=>(List.mem_erase_of_ne (λe=>hc.1 (by rw[<-e];exact hy))).2 (h y (by simp[hy])));rw[List.length_erase_of_mem hx]at ih;have:=List.length_pos_of_mem hx;simp only[xI];omega
section
variable {σ:Type} [DecidableEq σ] (ok:Sy->Prop) (step:σ->Sy->σ) (good:σ->Bool)
def Td(s:σ)(w:List Sy):σ:=w.foldl step s
structure FirstW (s:σ) (w:List Sy):Prop where
 okw:∀x∈w,ok x
 goodw:good (Td step s w)=true
 least:∀v,(∀x∈v,ok x)->good (Td step s v)=true->lle w v
variable {ok step good}
theorem FirstW.unique{s:σ}{v w:List Sy}(h:FirstW ok step good s v)(k:FirstW ok step good s w):v=w:=
 (h.least w k.okw k.goodw).anti (k.least v h.okw h.goodw)
variable (ok step good)
structure SuccOk (s:σ) (l:List (Sy×σ)):Prop where
 asc:l.Pairwise (λa b=>sLt a.1 b.1)
 mem:∀e∈l,ok e.1/\e.2=step s e.1
 cov:∀y,ok y->∃e∈l,e.2=step s y/\(e.1=y\/sLt e.1 y)
variable (succ:σ->List (Sy×σ))
def g07(l:List (σ×List Sy))(t:σ)(w:List Sy):List (σ×List Sy):=if t∈l.map (·.1)then l else l++[(t,w)]
def Ez(l:List (σ×List Sy))(w:List Sy)(es:List (Sy×σ)):List (σ×List Sy):=es.foldl (λl e=>g07 l e.2 (w++[e.1])) l
def Zl:Nat->Nat->List (σ×List Sy)->Option (List Sy)×List (σ×List Sy)
 |0,_,l=>(none,l)
 |f+1,n,l=>match l[n]? with
  |none=>(none,l)
  |some (s,w)=>if good s then(some w,l)else Zl f (n+1) (Ez l w (succ s))
variable (s0:σ) (G:σ->Prop)
structure BInv (n:Nat) (L:List (σ×List Sy)) (done:List (Sy×σ)):Prop where
 first:L[0]?=some (s0,[])
 mem:∀e∈L,(∀x∈e.2,ok x)/\Td step s0 e.2=e.1/\G e.1
 asc:L.Pairwise (λa b=>ll a.2 b.2)
 nd:(L.map (·.1)).Nodup
 bad:∀i s w,i<n->L[i]?=some (s,w)->good s=false
 cls:∀i s w,i<n->L[i]?=some (s,w)->∀e∈succ s,∃v,(e.2,v)∈L/\lle v (w++[e.1])
 cur:∀s w,L[n]?=some (s,w)->∀e∈done,∃v,(e.2,v)∈L/\lle v (w++[e.1])
 org:∀d∈L,d.2=[]\/∃i s w x,L[i]?=some (s,w)/\d.2=w++[x]/\(i<n\/(i=n/\∃e∈done,e.1=x))
variable {ok step good succ s0 G}
theorem BInv.low{n:Nat}{L:List (σ×List Sy)}{done:List (Sy×σ)}(h:BInv ok step good succ s0 G n L done){s:σ}{w:List Sy}(hn:L[n]?=some (s,w))(x:Sy)(hx:∀e∈done,sLt e.1 x):∀e∈L,ll e.2 (w++[x]):=by
 intro d hd;rcases h.org d hd with e|⟨i,s',w',y,hi,e,hc⟩
 ·rw[e];exact .inl (by simp)
 rw[e];rcases hc with hc|⟨rfl,c,hc,rfl⟩
 ·obtain⟨h1,h2⟩:=zE.1 hi;obtain⟨h3,h4⟩:=zE.1 hn;have:=yU.1 h.asc i n h1 h3 hc;rw[h2,h4]at this;exact w15 this _ _
 rw[hn]at hi;cases hi;exact x0e _ (hx c hc)
theorem BInv.add {n:Nat} {L:List (σ×List Sy)} {done:List (Sy×σ)} (h:BInv ok step good succ s0 G n L done) {s:σ} {w:List Sy} (hn:L[n]?=some (s,w)) {e:Sy×σ} (he:ok e.1/\e.2=step s e.1) (hG:G e.2)
  (z8:∀d∈done,sLt d.1 e.1):BInv ok step good succ s0 G n (g07 L e.2 (w++[e.1])) (done++[e])/\(g07 L e.2 (w++[e.1]))[n]?=some (s,w):=by
 have zb:=(zE.1 hn).1;have z7:=h.low hn e.1 z8;unfold g07;by_cases hin:e.2∈L.map (·.1)
 ·rw[if_pos hin];obtain⟨⟨t,v⟩,hv,ht⟩:=zU.1 hin;simp only at ht;subst ht;refine⟨⟨h.first,h.mem,h.asc,h.nd,h.bad,h.cls,λs' w' z6 d hd=>?_,λd hd=>?_⟩,hn⟩
  ·rw[hn]at z6;cases z6;rcases yB.1 hd with hd|hd
   ·exact h.cur s w hn d hd
   obtain rfl:=zV.1 hd;exact⟨v,hv,.inr (z7 _ hv)⟩
  rcases h.org d hd with e'|⟨i,s',w',y,hi,e',hc⟩
  ·exact .inl e'
  exact .inr ⟨i,s',w',y,hi,e',hc.imp id λ⟨k1,c,k2,k3⟩=>⟨k1,c,xB _ k2,k3⟩⟩
 rw[if_neg hin];have z1:∀i,i<=n->(L++[(e.2,w++[e.1])])[i]? =L[i]? :=λi hi=>zI (by omega);have hw:=h.mem _ (zL hn);refine⟨⟨by rw[z1 0 (xP _)];exact h.first,λd hd=>?_,?_,?_,λi s' w' hi z6=>h.bad i s' w' hi (by rw[<-z1 i (by omega)];exact z6),λi s' w' hi z6 d hd=>?_,λs' w' z6 d hd=>?_,λd hd=>?_⟩,by rw[z1 n (zW _)];exact hn⟩
 ·rcases yB.1 hd with hd|hd
  ·exact h.mem d hd
  obtain rfl:=zV.1 hd;refine⟨λx hx=>?_,?_,hG⟩
  ·rcases yB.1 hx with hx|hx
   ·exact hw.1 x hx
   obtain rfl:=zV.1 hx;exact he.1
  show Td step s0 (w++[e.1])=e.2;have h2:Td step s0 w=s:=hw.2.1;rw[Td,wJ];show step (Td step s0 w) e.1=e.2;rw[h2,he.2]
 ·exact yT.2 ⟨h.asc,by simp,λa ha b hb=>by obtain rfl:=zV.1 hb;exact z7 a ha⟩
 ·rw[xA];exact vD.2 ⟨h.nd,by simp,λa ha b hb e'=>by
   simp at hb;subst hb;subst e';exact hin ha⟩
 ·rw[z1 i (by omega)]at z6;obtain⟨v,hv,hl⟩:=h.cls i s' w' hi z6 d hd;exact⟨v,xB _ hv,hl⟩
 ·rw[z1 n (zW _),hn]at z6;cases z6;rcases yB.1 hd with hd|hd
  ·obtain⟨v,hv,hl⟩:=h.cur s w hn d hd;exact⟨v,xB _ hv,hl⟩
  obtain rfl:=zV.1 hd;exact⟨_,vP _ (by simp),.inl rfl⟩
 rcases yB.1 hd with hd|hd
 ·rcases h.org d hd with e'|⟨i,s',w',y,hi,e',hc⟩
  ·exact .inl e'
  have za:i<=n:=by rcases hc with hc|hc<;>omega
  exact .inr ⟨i,s',w',y,by rw[z1 i za];exact hi,e',hc.imp id λ⟨k1,c,k2,k3⟩=>⟨k1,c,xB _ k2,k3⟩⟩
 obtain rfl:=zV.1 hd;exact .inr ⟨n,s,w,e.1,by rw[z1 n (zW _)];exact hn,rfl,.inr ⟨rfl,e,by simp,rfl⟩⟩
theorem BInv.round{n:Nat}:∀(es:List (Sy×σ)) (done:List (Sy×σ)) (L:List (σ×List Sy)) {s:σ} {w:List Sy},BInv ok step good succ s0 G n L done->L[n]?=some (s,w)->(∀e∈es,ok e.1/\e.2=step s e.1)->(∀e∈es,G e.2)->
  (done++es).Pairwise (λa b=>sLt a.1 b.1)->BInv ok step good succ s0 G n (Ez L w es) (done++es)/\(Ez L w es)[n]?=some (s,w)
 |[],done,L,s,w,h,hn,_,_,_=>by simpa[Ez]using⟨h,hn⟩
 |e::es,done,L,s,w,h,hn,hm,hG,hp=>by have z1:∀d∈done,sLt d.1 e.1:=λd hd=>(yT.1 hp).2.2 d hd e (by simp);obtain⟨h1,h2⟩:=h.add hn (hm e (by simp)) (hG e (by simp)) z1;have:=BInv.round es (done++[e]) _ h1 h2 (λd hd=>hm d (by simp[hd])) (λd hd=>hG d (by simp[hd])) (by simpa using hp);simpa[Ez]using this
theorem BInv.next{n:Nat}{L:List (σ×List Sy)}{s:σ}{w:List Sy}(h:BInv ok step good succ s0 G n L [])(hn:L[n]?=some (s,w))(hg:good s=false)(hs:SuccOk ok step s (succ s))(hG:∀e∈succ s,G e.2):
  BInv ok step good succ s0 G (n+1) (Ez L w (succ s)) []:=by
 obtain⟨h1,h2⟩:=h.round (succ s) [] L hn hs.mem hG (by simpa using hs.asc);rw[u5]at h1;refine⟨h1.first,h1.mem,h1.asc,h1.nd,λi s' w' hi z1=>?_,λi s' w' hi z1 d hd=>?_,λ_ _ _ _ hd=>(by cases hd),λd hd=>?_⟩
 ·by_cases hin:i<n
  ·exact h1.bad i s' w' hin z1
  have:i=n:=by omega
  subst this;rw[h2]at z1;cases z1;exact hg
 ·by_cases hin:i<n
  ·exact h1.cls i s' w' hin z1 d hd
  have:i=n:=by omega
  subst this;rw[h2]at z1;cases z1;exact h1.cur s w h2 d hd
 rcases h1.org d hd with e'|⟨i,s',w',y,hi,e',hc⟩
 ·exact .inl e'
 exact .inr ⟨i,s',w',y,hi,e',.inl (by rcases hc with hc|hc<;>omega)⟩
theorem BInv.reach{n:Nat}{L:List (σ×List Sy)}(h:BInv ok step good succ s0 G n L [])(hs:∀s,G s->SuccOk ok step s (succ s)):∀(r:List Sy),(∀x∈r,ok x)->
  (∃v,(Td step s0 r.reverse,v)∈L/\lle v r.reverse)\/∃i s w,n<=i/\L[i]?=some (s,w)/\lle w r.reverse
 |[],_=> .inl ⟨[],zL h.first,lle.refl _⟩
 |x::r,hx=>by
  have z1:ll r.reverse (x::r).reverse:=by rw[uR];exact w2t _ _
  rcases BInv.reach h hs r (λy hy=>hx y (by simp[hy]))with⟨v,hv,hl⟩|⟨i,s,w,h1,h2,h3⟩
  ·obtain⟨i,hi⟩:=yQ.1 hv;by_cases hin:i<n
   ·obtain⟨e,he,e1,e2⟩:=(hs _ (h.mem _ hv).2.2).cov x (hx x (by simp));obtain⟨u,hu,z6⟩:=h.cls i _ _ hin hi e he;refine .inl ⟨u,?_,?_⟩
    ·rw[uR,Td,wJ];show(step (Td step s0 r.reverse) x,u)∈L;rw[<-e1];exact hu
    rw[uR];exact z6.trans (u1q hl e2)
   exact .inr ⟨i,_,v,by omega,hi,hl.trans (.inr z1)⟩
  exact .inr ⟨i,s,w,h1,h2,h3.trans (.inr z1)⟩
theorem BInv.found{n:Nat}{L:List (σ×List Sy)}{s:σ}{w:List Sy}(h:BInv ok step good succ s0 G n L [])(hs:∀s,G s->SuccOk ok step s (succ s))(hn:L[n]?=some (s,w))(hg:good s=true):FirstW ok step good s0 w:=by
 have hm:=h.mem _ (zL hn);refine⟨hm.1,by rw[hm.2.1];exact hg,λv hv z1=>?_⟩;have hle:∀i s' w',n<=i->L[i]?=some (s',w')->lle w w':=λi s' w' hi hl=>by
  obtain⟨h1,h2⟩:=zE.1 hn;obtain⟨h3,h4⟩:=zE.1 hl;rcases Nat.lt_or_eq_of_le hi with hlt|rfl
  ·have:=yU.1 h.asc n i h1 h3 hlt;rw[h2,h4]at this;exact .inr this
  rw[hn]at hl;cases hl;exact .inl rfl
 rcases h.reach hs v.reverse (λx hx=>hv x (by simpa using hx))with⟨u,hu,hl⟩|⟨i,s',w',h1,h2,h3⟩
 ·rw[uD]at hu hl;obtain⟨i,hi⟩:=yQ.1 hu;by_cases hin:i<n
  ·have:=h.bad i _ _ hin hi;rw[this]at z1;cases z1
  exact(hle i _ _ (by omega) hi).trans hl
 rw[uD]at h3;exact(hle i _ _ h1 h2).trans h3
theorem BInv.none{n:Nat}{L:List (σ×List Sy)}(h:BInv ok step good succ s0 G n L [])(hs:∀s,G s->SuccOk ok step s (succ s))(hn:L[n]? =none):
  (∀v,(∀x∈v,ok x)->Td step s0 v∈L.map (·.1)/\good (Td step s0 v)=false):=by
 intro v hv;have hlen:=th.1 hn;rcases h.reach hs v.reverse (λx hx=>hv x (by simpa using hx))with⟨u,hu,_⟩|⟨i,s',w',h1,h2,_⟩
 ·rw[uD]at hu;obtain⟨i,hi⟩:=yQ.1 hu;have:=(zE.1 hi).1;exact⟨zU.2 ⟨_,hu,rfl⟩,h.bad i _ _ (by omega) hi⟩
 have:=(zE.1 h2).1;omega
theorem A8(hs:∀s,G s->SuccOk ok step s (succ s))(hG:∀s,G s->∀e∈succ s,G e.2)(U:List σ)(hU:∀s,G s->s∈U):∀(f n:Nat) (L:List (σ×List Sy)),U.length+1<=n+f->n<=L.length->BInv ok step good succ s0 G n L []->
  (∃w L',Zl good succ f n L=(some w,L')/\FirstW ok step good s0 w)\/
  (∃L',Zl good succ f n L=(Option.none,L')/\(L'.map (·.1)).Nodup/\(∀e∈L',(∀x∈e.2,ok x)/\Td step s0 e.2=e.1/\G e.1)/\∀v,(∀x∈v,ok x)->Td step s0 v∈L'.map (·.1)/\good (Td step s0 v)=false)
 |0,n,L,hf,hn,h=>by
  exfalso;have:=Yw _ U h.nd (λs hs=>by
   obtain⟨e,he,rfl⟩:=zU.1 hs;exact hU _ (h.mem e he).2.2)
  simp at this;omega
 |f+1,n,L,hf,hn,h=>by
  rw[Zl];cases hl:L[n]? with
  |none=>exact .inr ⟨L,rfl,h.nd,h.mem,h.none hs hl⟩
  |some e=>
   obtain⟨s,w⟩:=e;simp only;cases hg:good s with
   |true=>rw[if_pos rfl];exact .inl ⟨w,L,rfl,h.found hs hl hg⟩
   |false=>
    rw[if_neg (by simp)];have z1:=(h.mem _ (zL hl)).2.2;have h':=h.next hl hg (hs s z1) (hG s z1);refine A8 hs hG U hU f (n+1) _ (by omega) ?_ h';have z6:=(zE.1 hl).1;have z7:∀(es:List (Sy×σ)) (L:List (σ×List Sy)),L.length<=(Ez L w es).length:=by
     intro es;induction es with
     |nil=>intro L;exact zW _
     |cons e es ih=>
      intro L;refine yW ?_ (ih (g07 L e.2 (w++[e.1])));unfold g07;split
      ·exact zW _
      simp
    exact yW z6 (z7 _ _)
theorem Pk(z1:G s0):BInv ok step good succ s0 G 0 [(s0,[])] []:=
 ⟨rfl,λe he=>by obtain rfl:=zV.1 he;exact⟨by simp,rfl,z1⟩,by simp,by simp,λi _ _ hi=>by omega,λi _ _ hi=>by omega,λ_ _ _ _ hd=>(by cases hd),λd hd=>by obtain rfl:=zV.1 hd;exact .inl rfl⟩
end
end
structure Dfa (a:Aut):Prop where
 ok:OkA a
 det:Ah a
 full:z0x a
def toL(a:Aut)(s:Int)(x:Sy):Int:=match a.mv.find? (λm=>decide (m.src=s) && Ti m.on x)with|some m=>m.dst|none=> -1
def inS(a:Aut)(s:Int):Prop:=0<=s/\s<a.fin.length
def Dfa.next{a:Aut}(h:Dfa a){s:Int}(hs:inS a s){x:Sy}(hx:Q8 a x):inS a (toL a s x)/\Q1 a [s] x=[toL a s x]:=by
 obtain⟨t,t0,t1,e⟩:=d1m h.ok.wfA h.det h.full hs.1 hs.2 hx;obtain⟨m,hm,h1,h2⟩:=h.full s hs.1 hs.2 x hx;have hf:toL a s x=t:=by
  unfold toL;cases hq:a.mv.find? (λm=>decide (m.src=s) && Ti m.on x)with
  |none=>have:=vU.1 hq m hm;simp[h1,h2]at this
  |some k=>have hk:=vO hq;have hp:=uY hq;simp at hp;have z1:k.dst∈Q1 a [s] x:=Ws.2 ⟨h.ok.wfA.dst k hk,k,hk,by rw[hp.1];simp,hp.2,rfl⟩;rw[e]at z1;exact zV.1 z1
 rw[hf];exact⟨⟨t0,t1⟩,e⟩
def Dfa.to_of{a:Aut}(h:Dfa a){m:Mv}(hm:m∈a.mv){x:Sy}(hx:Q8 a x)(hh:Ti m.on x=true):toL a m.src x=m.dst:=by have hs:inS a m.src:=h.ok.wfA.src m hm;have h1:=(h.next hs hx).2;have z1:m.dst∈Q1 a [m.src] x:=Ws.2 ⟨h.ok.wfA.dst m hm,m,hm,by simp,hh,rfl⟩;rw[h1]at z1;exact(zV.1 z1).symm
def Dfa.move{a:Aut}(h:Dfa a){s:Int}(hs:inS a s){x:Sy}(hx:Q8 a x):∃m∈a.mv,m.src=s/\Ti m.on x=true/\m.dst=toL a s x:=by obtain⟨m,hm,h1,h2⟩:=h.full s hs.1 hs.2 x hx;exact⟨m,hm,h1,h2,by rw[<-h1,h.to_of hm hx h2]⟩
def y03{a:Aut}{x y:Sy}(h:∀m∈a.mv,Ti m.on x=Ti m.on y)(s:Int):toL a s x=toL a s y:=by
 unfold toL;have:a.mv.find? (λm=>decide (m.src=s) && Ti m.on x)=a.mv.find? (λm=>decide (m.src=s) && Ti m.on y):=by
  generalize a.mv=l at h;induction l with
  |nil=>rfl
  |cons m l ih=>rw[t_,t_,h m (by simp),ih (λk hk=>h k (by simp[hk]))]
 rw[this]
def stF(a:Aut)(s:Int)(w:List Sy):Int:=w.foldl (toL a) s
def Zf(a:Aut)(s:Int)(w:List Sy):Bool:=a.fin.getD (stF a s w).toNat false
def Dfa.run{a:Aut}(h:Dfa a):∀(w:List Sy) (s:Int),inS a s->(∀x∈w,Q8 a x)->inS a (stF a s w)/\O0 a [s] w=[stF a s w]
 |[],s,hs,_=>⟨hs,rfl⟩
 |x::w,s,hs,hx=>by obtain⟨h1,h2⟩:=h.next hs (hx x (by simp));have:=h.run w _ h1 (λy hy=>hx y (by simp[hy]));refine⟨this.1,?_⟩;show O0 a (Q1 a [s] x) w=_;rw[h2];exact this.2
def Dfa.zero{a:Aut}(h:Dfa a):inS a 0:=⟨xC _,by have:=h.ok.fin;omega⟩
def Dfa.acc{a:Aut}(h:Dfa a){w:List Sy}(hw:∀x∈w,Q8 a x):Ro a w=Zf a 0 w:=by unfold Ro Zf;rw[(h.run w 0 h.zero hw).2];simp[Pp]
structure Ltr (T:Nat) (l cl:List Prd):Prop where
 prts:Prts T l cl
 asc:cl.Pairwise u0c
 len:∀p∈l,p.length=T
def okT(T:Nat)(x:Sy):Prop:=0<=x.ty/\x.ty.toNat<T/\inR x.num
def k2r{T:Nat}(hT:0<T){l:List Prd}(hl:∀p∈l,PCk T p):Ltr T l (Q9 T l):=by obtain⟨h1,h2⟩:=Im hT hl;exact⟨h1,h2,λp hp=>(hl p hp).1⟩
def w1f{p:Prd}{t:Nat}{n:Int}(h:I3 (Qy p 0).1 (Qy p 0).2 t n):sLt (Qk p) ⟨t,n⟩:=by unfold I3 at h;unfold sLt Qk;simp only;omega
def Ltr.least{T:Nat}{l cl:List Prd}(h:Ltr T l cl){c:Prd}(hc:c∈cl):okT T (Qk c)/\PM c (Qk c).ty.toNat (Qk c).num:=by have h1:=(W9 (h.prts.wf c hc) (h.prts.ne c hc)).1;have h2:=(h.prts.wf c hc).lt h1;exact⟨⟨by simp[Qk],by simpa[Qk]using h2.1,h2.2⟩,by simpa[Qk]using h1⟩
def Ltr.sig{T:Nat}{l cl:List Prd}(h:Ltr T l cl){c:Prd}(hc:c∈cl){x y:Sy}(hx:okT T x)(hy:okT T y)(z1:PM c x.ty.toNat x.num)(z6:PM c y.ty.toNat y.num):∀p∈l,Ti p x=Ti p y:=λp hp=>by have h2:=((h.prts.cls c hc _ _ z1 _ _).1 z6).2.2 p hp;rw[wB,Ep (h.len p hp) x hx.1,Ep (h.len p hp) y hy.1];exact h2
def Ltr.cov{T:Nat}{l cl:List Prd}(h:Ltr T l cl){x:Sy}(hx:okT T x):∃c∈cl,PM c x.ty.toNat x.num/\(Qk c=x\/sLt (Qk c) x)/\∀p∈l,Ti p x=Ti p (Qk c):=by
 obtain⟨c,hc,hm⟩:=h.prts.all x.ty.toNat x.num hx.2.1 hx.2.2;obtain⟨h1,h2⟩:=h.least hc;refine⟨c,hc,hm,?_,h.sig hc hx h1 hm h2⟩;rcases(W9 (h.prts.wf c hc) (h.prts.ne c hc)).2 _ _ hm with⟨e1,e2⟩|hlt
 ·left;unfold Qk;rw[e1,e2,show((x.ty.toNat:Nat):Int)=x.ty by have:=hx.1;omega]
 right;have:=w1f hlt;have e:(⟨(x.ty.toNat:Int),x.num⟩:Sy)=x:=by rw[show((x.ty.toNat:Nat):Int)=x.ty by have:=hx.1;omega]
 rw[e]at this;exact this
def Ltr.ascS{T:Nat}{l cl:List Prd}(h:Ltr T l cl):(cl.map Qk).Pairwise sLt:=by
 refine xS.2 (h.asc.imp_of_mem λ{p q} hp hq hlt=>?_);obtain⟨t,n,hm,z1⟩:=hlt;have h1:=z1 _ _ (W9 (h.prts.wf q hq) (h.prts.ne q hq)).1;have h2:I3 (Qy p 0).1 (Qy p 0).2 (Qy q 0).1 (Qy q 0).2:=by
  rcases(W9 (h.prts.wf p hp) (h.prts.ne p hp)).2 t n hm with⟨e1,e2⟩|h3
  ·rw[e1,e2];exact h1
  exact h3.trans h1
 exact w1f h2
def Pu(a b:Aut):List Sy:=(Q9 a.types.toNat (onA a++onA b)).map Qk
def E8(a b:Aut)(s:Int×Int)(x:Sy):Int×Int:=(toL a s.1 x,toL b s.2 x)
def B6(a b:Aut)(s:Int×Int):List (Sy×(Int×Int)):=(Pu a b).map λx=>(x,E8 a b s x)
def Tr{a:Aut}{x:Sy}:okT a.types.toNat x↔Q8 a x:=by
 unfold okT Q8;constructor
 ·rintro⟨h1,h2,h3⟩;exact⟨⟨h1,by omega⟩,h3⟩
 rintro⟨⟨h1,h2⟩,h3⟩;exact⟨h1,by omega,h3⟩
def c1g{a b:Aut}(ha:OkA a)(hb:OkA b)(ht:b.types=a.types):Ltr a.types.toNat (onA a++onA b) (Q9 a.types.toNat (onA a++onA b)):=
 k2r (by have:=ha.types;omega) λp hp=>by
  rcases yB.1 hp with hp|hp
  ·exact y00 ha p hp
  rw[<-ht];exact y00 hb p hp
def Xe{a:Aut}{m:Mv}(h:m∈a.mv):m.on∈onA a:=zU.2 ⟨m,h,rfl⟩
def Dx{a b:Aut}(ha:OkA a)(hb:OkA b)(ht:b.types=a.types)(s:Int×Int):SuccOk (Q8 a) (E8 a b) s (B6 a b s):=by
 have hl:=c1g ha hb ht;refine⟨?_,λe he=>?_,λy hy=>?_⟩
 ·unfold B6;exact xS.2 (hl.ascS.imp λh=>h)
 ·obtain⟨x,hx,rfl⟩:=zU.1 he;obtain⟨c,hc,rfl⟩:=zU.1 hx;exact⟨Tr.1 (hl.least hc).1,rfl⟩
 obtain⟨c,hc,hm,hle,z1⟩:=hl.cov (Tr.2 hy);refine⟨(Qk c,E8 a b s (Qk c)),zU.2 ⟨Qk c,zU.2 ⟨c,hc,rfl⟩,rfl⟩,?_,hle⟩;unfold E8;rw[y03 (λm hm=>(z1 m.on (xB _ (Xe hm))).symm),y03 (a:=b) (λm hm=>(z1 m.on (vP _ (Xe hm))).symm)]
def Yo(a b:Aut)(s:Int×Int):Bool:=a.fin.getD s.1.toNat false != b.fin.getD s.2.toNat false
def Kz(a b:Aut)(p q:Int):Option (List Sy)×List ((Int×Int)×List Sy):=Zl (Yo a b) (B6 a b) (a.fin.length * b.fin.length+1) 0 [((p,q),[])]
def U4(a b:Aut):∀(w:List Sy) (p q:Int),Td (E8 a b) (p,q) w=(stF a p w,stF b q w)
 |[],_,_=>rfl
 |x::w,p,q=>U4 a b w (toL a p x) (toL b q x)
def Ar(a b:Aut):List (Int×Int):=(Wj a.fin.length).flatMap λi=>(Wj b.fin.length).map λj=>(i,j)
def Pa(a b:Aut):(Ar a b).length=a.fin.length * b.fin.length:=by unfold Ar;rw[vQ,xH (g:=λ_=>b.fin.length) (λi _=>by simp[Wj]),ub,vZ];simp[Wj]
def Df{a b:Aut}{s:Int×Int}(h1:inS a s.1)(h2:inS b s.2):s∈Ar a b:=by unfold Ar;rw[xZ];exact⟨s.1,Wo.2 h1,zU.2 ⟨s.2,Wo.2 h2,rfl⟩⟩
def q2f(a b:Aut)(p q:Int)(w:List Sy):Prop:=FirstW (Q8 a) (E8 a b) (Yo a b) (p,q) w
def C7(a b:Aut)(p q:Int)(w:List Sy):Yo a b (Td (E8 a b) (p,q) w)=true↔Zf a p w≠Zf b q w:=by rw[U4];simp[Yo,Zf]
def q0c{a b:Aut}(ha:Dfa a)(hb:Dfa b)(ht:b.types=a.types){p q:Int}(hp:inS a p)(hq:inS b q):
  (∃w,(Kz a b p q).1=some w/\q2f a b p q w)\/((Kz a b p q).1=none/\∀w,(∀x∈w,Q8 a x)->Zf a p w=Zf b q w):=by
 have z1:∀x,Q8 a x->Q8 b x:=λx hx=>by unfold Q8 at *;rw[ht];exact hx
 rcases A8 (ok:=Q8 a) (step:=E8 a b) (good:=Yo a b) (succ:=B6 a b) (s0:=(p,q)) (G:=λs=>inS a s.1/\inS b s.2) (λs _=>Dx ha.ok hb.ok ht s)
  (λs hs e he=>by
   obtain⟨h1,h2⟩:=(Dx ha.ok hb.ok ht s).mem e he;rw[h2];exact⟨(ha.next hs.1 h1).1,(hb.next hs.2 (z1 _ h1)).1⟩) (Ar a b) (λs hs=>Df hs.1 hs.2) (a.fin.length * b.fin.length+1) 0 [((p,q),[])] (by rw[Pa];omega) (by simp) (Pk ⟨hp,hq⟩)with⟨w,L,h1,h2⟩|⟨L,h1,_,_,h2⟩
 ·exact .inl ⟨w,by rw[Kz,h1],h2⟩
 refine .inr ⟨by rw[Kz,h1],λw hw=>?_⟩;have:=(h2 w hw).2;by_cases hd:Zf a p w=Zf b q w
 ·exact hd
 rw[(C7 a b p q w).2 hd]at this;cases this
def Wa(a:Aut)(s:Int):List Mv:=a.mv.filter λm=>decide (m.src=s) && !Wp m.on
def Ww(a b:Aut)(s:Int×Int):List (Sy×(Int×Int)):=(Wa a s.1).flatMap λm=>(Wa b s.2).filterMap λn=>if Wp (Ee m.on n.on)then none else some (Qk (Ee m.on n.on),(m.dst,n.dst))
def Wz{a:Aut}{s:Int}{m:Mv}:m∈Wa a s↔m∈a.mv/\m.src=s/\Wp m.on=false:=by unfold Wa;rw[xT];simp
def Ib{a b:Aut}{s:Int×Int}{e:Sy×(Int×Int)}:e∈Ww a b s↔∃m∈Wa a s.1,∃n∈Wa b s.2,Wp (Ee m.on n.on)=false/\e=(Qk (Ee m.on n.on),(m.dst,n.dst)):=by
 unfold Ww;rw[xZ];constructor
 ·rintro⟨m,hm,h⟩;obtain⟨n,hn,h⟩:=wR.1 h;cases hv:Wp (Ee m.on n.on)
  ·rw[hv,if_neg (by simp)]at h;cases h;exact⟨m,hm,n,hn,hv,rfl⟩
  rw[hv,if_pos rfl]at h;cases h
 rintro⟨m,hm,n,hn,hv,rfl⟩;exact⟨m,hm,wR.2 ⟨n,hn,by rw[hv,if_neg (by simp)]⟩⟩
def Rs{T:Nat}{p:Prd}(h:PWf T p):Wp p=false↔∃t n,PM p t n:=by
 cases hv:Wp p
 ·simp only[true_iff];apply Classical.byContradiction;intro hn;have:=(Rn h).2 (λt n hm=>hn ⟨t,n,hm⟩);rw[hv]at this;cases this
 simp only[Bool.true_eq_false,false_iff];rintro⟨t,n,hm⟩;exact(Rn h).1 hv t n hm
def Tv{T:Nat}{p:Prd}(h:PWf T p)(hn:∃t n,PM p t n):okT T (Qk p)/\PM p (Qk p).ty.toNat (Qk p).num/\∀x,okT T x->PM p x.ty.toNat x.num->Qk p=x\/sLt (Qk p) x:=by
 have h1:=W9 h hn;have h2:=h.lt h1.1;refine⟨⟨by simp[Qk],by simpa[Qk]using h2.1,h2.2⟩,by simpa[Qk]using h1.1,λx hx hm=>?_⟩;rcases h1.2 _ _ hm with⟨e1,e2⟩|hlt
 ·left;unfold Qk;rw[e1,e2,show((x.ty.toNat:Nat):Int)=x.ty by have:=hx.1;omega]
 right;have:=w1f hlt;have e:(⟨(x.ty.toNat:Int),x.num⟩:Sy)=x:=by rw[show((x.ty.toNat:Nat):Int)=x.ty by have:=hx.1;omega]
 rw[e]at this;exact this
def Db{a b:Aut}(ha:Dfa a)(hb:Dfa b)(ht:b.types=a.types){s:Int×Int}(h1:inS a s.1)(h2:inS b s.2):
  (∀e∈Ww a b s,Q8 a e.1/\e.2=E8 a b s e.1)/\∀y,Q8 a y->∃e∈Ww a b s,e.2=E8 a b s y/\(e.1=y\/sLt e.1 y):=by
 have z1:∀x,Q8 a x->Q8 b x:=λx hx=>by unfold Q8 at *;rw[ht];exact hx
 have z7:∀ {m n:Mv},m∈a.mv->n∈b.mv->PWf a.types.toNat m.on/\PWf a.types.toNat n.on:=λhm hn=>⟨ha.ok.wfA.on _ hm,by rw[<-ht];exact hb.ok.wfA.on _ hn⟩
 constructor
 ·intro e he;obtain⟨m,hm,n,hn,hv,rfl⟩:=Ib.1 he;obtain⟨m1,m2,_⟩:=Wz.1 hm;obtain⟨n1,n2,_⟩:=Wz.1 hn;obtain⟨w1,w2⟩:=z7 m1 n1;have hw:=Ry w1 w2.1;obtain⟨k1,k2,_⟩:=Tv hw ((Rs hw).1 hv);have hk:=Tr.1 k1;obtain⟨p1,p2⟩:=(Ea w1.1 w2.1 _ _).1 k2;refine⟨hk,?_⟩;unfold E8;rw[<-m2,<-n2,ha.to_of m1 hk ((Ep w1.1 _ hk.1.1).2 p1),hb.to_of n1 (z1 _ hk) ((Ep w2.1 _ hk.1.1).2 p2)]
 intro y hy;obtain⟨m,m1,m2,m3,m4⟩:=ha.move h1 hy;obtain⟨n,n1,n2,n3,n4⟩:=hb.move h2 (z1 y hy);obtain⟨w1,w2⟩:=z7 m1 n1;have hw:=Ry w1 w2.1;have p1:=(Ep w1.1 y hy.1.1).1 m3;have p2:=(Ep w2.1 y hy.1.1).1 n3;have z6:=(Ea w1.1 w2.1 _ _).2 ⟨p1,p2⟩;have hv:=(Rs hw).2 ⟨_,_,z6⟩;refine⟨_,Ib.2 ⟨m,Wz.2 ⟨m1,m2,(Rs w1).2 ⟨_,_,p1⟩⟩,n,Wz.2 ⟨n1,n2,(Rs w2).2 ⟨_,_,p2⟩⟩,hv,rfl⟩,?_,(Tv hw ⟨_,_,z6⟩).2.2 y (Tr.2 hy) z6⟩;unfold E8;rw[m4,n4]
def lkN(near:List ((Int×Int)×Nat))(s:Int×Int):Option Nat:=(near.find? λe=>decide (e.1=s)).map (·.2)
def Hb(a:Aut)(near:List ((Int×Int)×Nat))(d:Nat)(s:Int×Int):Bool:=match d with
 |0=>Yo a a s
 |d+1=>(Ww a a s).any λe=>decide (lkN near e.2=some d)
def Ye(a:Aut)(near:List ((Int×Int)×Nat))(d:Nat):List (Int×Int):=(Ar a a).filter λs=>decide (lkN near s=none) && Hb a near d s
def Kq(a:Aut):Nat->Nat->List ((Int×Int)×Nat)->List ((Int×Int)×Nat)
 |0,_,near=>near
 |f+1,d,near=>if Ye a near d=[]then near else Kq a f (d+1) (near++(Ye a near d).map λs=>(s,d))
def Uq(a:Aut):List ((Int×Int)×Nat):=Kq a (a.fin.length * a.fin.length+1) 1 ((Ye a [] 0).map λs=>(s,0))
def inP(a:Aut)(s:Int×Int):Prop:=inS a s.1/\inS a s.2
def M9(a:Aut)(s:Int×Int)(d:Nat):Prop:=∃w:List Sy,w.length=d/\(∀x∈w,Q8 a x)/\Yo a a (Td (E8 a a) s w)=true
def Pz(a:Aut)(s:Int×Int)(d:Nat):Prop:=M9 a s d/\∀k,k<d->¬M9 a s k
def Kg{a:Aut}{s:Int×Int}:M9 a s 0↔Yo a a s=true:=by
 constructor
 ·rintro⟨w,hw,_,h⟩;obtain rfl:=List.length_eq_zero_iff.1 hw;exact h
 intro h;exact⟨[],rfl,by simp,h⟩
def Dc{a:Aut}{s:Int×Int}{d:Nat}:M9 a s (d+1)↔∃y,Q8 a y/\M9 a (E8 a a s y) d:=by
 constructor
 ·rintro⟨w,hw,ho,h⟩;cases w with
  |nil=>cases hw
  |cons y w=>exact⟨y,ho y (by simp),w,by simpa using hw,λx hx=>ho x (by simp[hx]),h⟩
 rintro⟨y,hy,w,hw,ho,h⟩;exact⟨y::w,by simp[hw],λx hx=>(yO.1 hx).elim (λe=>by rw[e];exact hy) (ho x),h⟩
def L5{a:Aut}{s:Int×Int}{d k:Nat}(h:Pz a s d)(h':Pz a s k):d=k:=by
 rcases wZ d k with hlt|e|hlt
 ·exact absurd h.1 (h'.2 d hlt)
 ·exact e
 exact absurd h'.1 (h.2 k hlt)
def x0r{a:Aut}{s:Int×Int}:∀(d:Nat),M9 a s d->∃k,k<=d/\Pz a s k:=by
 intro d;induction d using sq with
 |_ d ih=>
  intro h;by_cases hk:∃k,k<d/\M9 a s k
  ·obtain⟨k,h1,h2⟩:=hk;obtain⟨j,h3,h4⟩:=ih k h1 h2;exact⟨j,by omega,h4⟩
  exact⟨d,zW _,h,λk h1 h2=>hk ⟨k,h1,h2⟩⟩
def Dr{a:Aut}{s:Int×Int}{d:Nat}(h:Pz a s (d+1)):∃y,Q8 a y/\Pz a (E8 a a s y) d:=by obtain⟨y,hy,h1⟩:=Dc.1 h.1;refine⟨y,hy,h1,λk hk h2=>?_⟩;exact h.2 (k+1) (by omega) (Dc.2 ⟨y,hy,h2⟩)
def Dz{a:Aut}(ha:Dfa a){s:Int×Int}(hs:inP a s){y:Sy}(hy:Q8 a y):inP a (E8 a a s y):=⟨(ha.next hs.1 hy).1,(ha.next hs.2 hy).1⟩
structure NInv (a:Aut) (d:Nat) (near:List ((Int×Int)×Nat)):Prop where
 lk:∀s,inP a s->∀k,lkN near s=some k↔(k<d/\Pz a s k)
 keys:(near.map (·.1)).Nodup
 dom:∀e∈near,e.1∈Ar a a
def y2b(A:List ((Int×Int)×Nat))(B:List (Int×Int))(d:Nat)(s:Int×Int):lkN (A++B.map λt=>(t,d)) s=match lkN A s with|some k=>some k|none=>if s∈B then some d else none:=by
 unfold lkN;rw[List.find?_append];cases hA:A.find? λe=>decide (e.1=s)with
 |some e=>rfl
 |none=>
  simp only[Option.none_or,Option.map_none];by_cases hs:s∈B
  ·rw[if_pos hs];obtain⟨e,he⟩:=Option.isSome_iff_exists.1 (List.find?_isSome.2 ⟨(s,d),zU.2 ⟨s,hs,rfl⟩,by simp⟩:(List.find? (λe:(Int×Int)×Nat=>decide (e.1=s)) (B.map λt=>(t,d))).isSome);rw[he];obtain⟨t,_,rfl⟩:=zU.1 (vO he);rfl
  rw[if_neg hs];rw[vU.2 (λe he=>by
   obtain⟨t,ht,rfl⟩:=zU.1 he;simp only[decide_eq_true_eq];rintro rfl;exact hs ht)]
  rfl
def Xk{A:List ((Int×Int)×Nat)}{s:Int×Int}:lkN A s=none↔s∉A.map (·.1):=by
 unfold lkN;rw[Option.map_eq_none_iff,vU];constructor
 ·intro h hs;obtain⟨e,he,rfl⟩:=zU.1 hs;exact h e he (by simp)
 intro h e he;simp only[decide_eq_true_eq];rintro rfl;exact h (zU.2 ⟨e,he,rfl⟩)
def c0e{a:Aut}{s:Int×Int}(h:s∈Ar a a):inP a s:=by obtain⟨i,hi,hs⟩:=xZ.1 h;obtain⟨j,hj,rfl⟩:=zU.1 hs;exact⟨Wo.1 hi,Wo.1 hj⟩
def Za(a:Aut):(Ar a a).Nodup:=by have hr:∀n,(Wj n).Nodup:=λn=>(S6 n).imp (λh e=>by omega);unfold Ar sI;rw[vN];refine⟨λi _=>xS.2 ((hr _).imp λh e=>h (Prod.mk.inj e).2),(hr _).imp λ{i j} hij x hx y hy e=>?_⟩;obtain⟨u,_,rfl⟩:=zU.1 hx;obtain⟨v,_,rfl⟩:=zU.1 hy;exact hij (Prod.mk.inj e).1
def Jk{a:Aut}(ha:Dfa a){d:Nat}{near:List ((Int×Int)×Nat)}(h:NInv a d near){s:Int×Int}:s∈Ye a near d↔inP a s/\Pz a s d:=by
 unfold Ye;rw[xT];simp only[yJ,decide_eq_true_eq];have z1:∀s,inP a s->(lkN near s=none↔∀k,k<d->¬M9 a s k):=λs hs=>by
  constructor
  ·intro hn k hk hd;obtain⟨j,h1,h2⟩:=x0r k hd;have:=(h.lk s hs j).2 ⟨by omega,h2⟩;rw[hn]at this;cases this
  intro hk;cases hl:lkN near s with
  |none=>rfl
  |some k=>obtain⟨h1,h2⟩:=(h.lk s hs k).1 hl;exact absurd h2.1 (hk k h1)
 constructor
 ·rintro⟨h1,h2,h3⟩;have hs:=c0e h1;have hk:=(z1 s hs).1 h2;refine⟨hs,?_,hk⟩;cases d with
  |zero=>exact Kg.2 h3
  |succ d=>simp only[Hb,wW,decide_eq_true_eq]at h3;obtain⟨e,he,hl⟩:=h3;obtain⟨e1,e2⟩:=(Db ha ha rfl hs.1 hs.2).1 e he;rw[e2]at hl;exact Dc.2 ⟨e.1,e1,((h.lk _ (Dz ha hs e1) d).1 hl).2.1⟩
 rintro⟨hs,h2⟩;refine⟨Df hs.1 hs.2,(z1 s hs).2 h2.2,?_⟩;cases d with
 |zero=>exact Kg.1 h2.1
 |succ d=>obtain⟨y,hy,hm⟩:=Dr h2;obtain⟨e,he,e1,_⟩:=(Db ha ha rfl hs.1 hs.2).2 y hy;simp only[Hb,wW,decide_eq_true_eq];exact⟨e,he,by rw[e1];exact(h.lk _ (Dz ha hs hy) d).2 ⟨by omega,hm⟩⟩
def NInv.step{a:Aut}(ha:Dfa a){d:Nat}{near:List ((Int×Int)×Nat)}(h:NInv a d near):NInv a (d+1) (near++(Ye a near d).map λs=>(s,d)):=by
 refine⟨λs hs k=>?_,?_,λe he=>?_⟩
 ·rw[y2b];cases hl:lkN near s with
  |some j=>
   obtain⟨h1,h2⟩:=(h.lk s hs j).1 hl;simp only[Option.some.injEq];constructor
   ·rintro rfl;exact⟨by omega,h2⟩
   rintro⟨_,h3⟩;exact L5 h2 h3
  |none=>
   simp only;have z1:∀k,k<d->¬Pz a s k:=λk hk hm=>by have:=(h.lk s hs k).2 ⟨hk,hm⟩;rw[hl]at this;cases this
   by_cases hf:s∈Ye a near d
   ·rw[if_pos hf];have hm:=((Jk ha h).1 hf).2;simp only[Option.some.injEq];constructor
    ·rintro rfl;exact⟨by omega,hm⟩
    rintro⟨_,h3⟩;exact L5 hm h3
   rw[if_neg hf];constructor
   ·intro hc;cases hc
   rintro⟨h1,h3⟩;by_cases hkd:k<d
   ·exact absurd h3 (z1 k hkd)
   have:k=d:=by omega
   subst this;exact absurd ((Jk ha h).2 ⟨hs,h3⟩) hf
 ·rw[xA,vV,vD];refine⟨h.keys,?_,λx hx y hy e=>?_⟩
  ·have:(Ye a near d).map ((·.1)∘λs=>(s,d))=Ye a near d:=by exact(xH (g:=id) (λ_ _=>rfl)).trans (List.map_id _)
   rw[this];exact(Za a).filter _
  subst e;obtain⟨t,ht,rfl⟩:=zU.1 hy;have:=(xT.1 ht).2;simp only[yJ,decide_eq_true_eq]at this;exact Xk.1 this.1 hx
 rcases yB.1 he with he|he
 ·exact h.dom e he
 obtain⟨t,ht,rfl⟩:=zU.1 he;exact(xT.1 ht).1
def y0l{a:Aut}(ha:Dfa a):∀(k d:Nat) (s:Int×Int),inP a s->Pz a s (d+k)->∃t,inP a t/\Pz a t d
 |0,_,s,hs,h=>⟨s,hs,h⟩
 |k+1,d,s,hs,h=>by obtain⟨y,hy,hm⟩:=Dr (d:=d+k) h;exact y0l ha k d _ (Dz ha hs hy) hm
def x10{a:Aut}(ha:Dfa a):∀(f d:Nat) (near:List ((Int×Int)×Nat)),a.fin.length * a.fin.length+1<=near.length+f->NInv a d near->∀s,inP a s->∀k,lkN (Kq a f d near) s=some k↔Pz a s k
 |0,d,near,hf,h=>by
  exfalso;have:=Yw _ (Ar a a) h.keys (λs hs=>by
   obtain⟨e,he,rfl⟩:=zU.1 hs;exact h.dom e he)
  rw[Pa,yL]at this;omega
 |f+1,d,near,hf,h=>by
  rw[Kq];by_cases he:Ye a near d=[]
  ·rw[if_pos he];intro s hs k;rw[h.lk s hs k];refine⟨λhk=>hk.2,λhm=>⟨?_,hm⟩⟩;by_cases hkd:k<d
   ·exact hkd
   exfalso;obtain⟨t,ht,z1⟩:=y0l ha (k - d) d s hs (by rw[show d+(k - d)=k by omega];exact hm);have:=(Jk ha h).2 ⟨ht,z1⟩;rw[he]at this;cases this
  rw[if_neg he];have hl:=List.length_pos_iff.2 he;exact x10 ha f (d+1) _ (by simp;omega) (h.step ha)
def q1n{a:Aut}(ha:Dfa a):∀s,inP a s->∀k,lkN (Uq a) s=some k↔Pz a s k:=by
 have h0:NInv a 0 []:=⟨λs _ k=>by simp[lkN],by simp,by simp⟩
 have h1:=h0.step ha;rw[u5]at h1;exact x10 ha _ 1 _ (by omega) h1
def K0(x y:Sy):Bool:=decide (x.ty<y.ty) || (decide (x.ty=y.ty) && decide (x.num<y.num))
def u2n(es:List (Sy×(Int×Int))):Option (Sy×(Int×Int)):=es.foldl (λb e=>match b with|none=>some e|some c=>if K0 e.1 c.1 then some e else some c) none
def Fj(x y:Sy):K0 x y=true↔sLt x y:=by simp[K0,sLt]
def Jy:∀(es:List (Sy×(Int×Int))) (c:Sy×(Int×Int)),∃e,es.foldl (λb e=>match b with|none=>some e|some c=>if K0 e.1 c.1 then some e else some c) (some c)=some e/\(e=c\/e∈es)/\(e.1=c.1\/sLt e.1 c.1)/\∀f∈es,e.1=f.1\/sLt e.1 f.1
 |[],c=>⟨c,rfl,.inl rfl,.inl rfl,by simp⟩
 |f::es,c=>by
  rw[xX];simp only;cases hb:K0 f.1 c.1 with
  |true=>
   rw[if_pos rfl];have z6:=(Fj _ _).1 hb;obtain⟨e,h1,h2,h3,h4⟩:=Jy es f;refine⟨e,h1,.inr ?_,.inr ?_,λg hg=>?_⟩
   ·rcases h2 with rfl|h2
    ·simp
    simp[h2]
   ·rcases h3 with h3|h3
    ·rw[h3];exact z6
    exact h3.trans z6
   rcases yO.1 hg with rfl|hg
   ·exact h3
   exact h4 g hg
  |false=>
   rw[if_neg (by simp)];obtain⟨e,h1,h2,h3,h4⟩:=Jy es c;refine⟨e,h1,h2.imp id (λh=>List.mem_cons_of_mem _ h),h3,λg hg=>?_⟩;rcases yO.1 hg with rfl|hg
   ·have hn:¬sLt g.1 c.1:=λh=>by rw[(Fj _ _).2 h]at hb;cases hb
    have z1:c.1=g.1\/sLt c.1 g.1:=by
     rcases sLt.tri g.1 c.1 with h|h|h
     ·exact absurd h hn
     ·exact .inl h.symm
     exact .inr h
    rcases h3 with h3|h3
    ·rw[h3];exact z1
    rcases z1 with z1|z1
    ·rw[<-z1];exact .inr h3
    exact .inr (h3.trans z1)
   exact h4 g hg
def y1v{es:List (Sy×(Int×Int))}(h:es≠[]):∃e,u2n es=some e/\e∈es/\∀f∈es,e.1=f.1\/sLt e.1 f.1:=by
 cases es with
 |nil=>exact absurd rfl h
 |cons c es=>
  obtain⟨e,h1,h2,h3,h4⟩:=Jy es c;refine⟨e,h1,by rcases h2 with rfl|h2<;>simp[*],λf hf=>?_⟩;rcases yO.1 hf with rfl|hf
  ·exact h3
  exact h4 f hf
def Hl(a:Aut)(near:List ((Int×Int)×Nat)):Nat->Int×Int->List Sy
 |0,_=>[]
 |d+1,s=>match u2n ((Ww a a s).filter λe=>decide (lkN near e.2=some d))with
  |some e=>e.1::Hl a near d e.2
  |none=>⟨0,0⟩::Hl a near d (0,0)
def x27{x y:Sy}{v w:List Sy}(h:x=y\/sLt x y)(hl:v.length=w.length)(hv:x=y->lle v w):lle (x::v) (y::w):=by
 rcases h with rfl|h
 ·rcases hv rfl with rfl|hv
  ·exact .inl rfl
  rcases hv with hv|⟨h1,h2⟩
  ·omega
  exact .inr (.inr ⟨by simp[h1],.inr ⟨rfl,h2⟩⟩)
 exact .inr (.inr ⟨by simp[hl],.inl h⟩)
def M5{a:Aut}(ha:Dfa a){near:List ((Int×Int)×Nat)}(hn:∀s,inP a s->∀k,lkN near s=some k↔Pz a s k):∀(d:Nat) (s:Int×Int),inP a s->Pz a s d->(Hl a near d s).length=d/\q2f a a s.1 s.2 (Hl a near d s)
 |0,s,hs,h=>⟨rfl,by simp[Hl],Kg.1 h.1,λv hv hg=>by
   cases v with
   |nil=>exact .inl rfl
   |cons x v=>exact .inr (.inl (by simp[Hl]))⟩
 |d+1,s,hs,h=>by
  obtain⟨y,hy,hm⟩:=Dr h;obtain⟨e0,z8,za,_⟩:=(Db ha ha rfl hs.1 hs.2).2 y hy;have zb:(Ww a a s).filter (λe=>decide (lkN near e.2=some d))≠[]:=List.ne_nil_of_mem (xT.2 ⟨z8,by
   rw[za];simpa using(hn _ (Dz ha hs hy) d).2 hm⟩)
  obtain⟨e,h1,h2,h3⟩:=y1v zb;obtain⟨zc,zd⟩:=xT.1 h2;obtain⟨e1,e2⟩:=(Db ha ha rfl hs.1 hs.2).1 e zc;have z1:inP a e.2:=by rw[e2];exact Dz ha hs e1
  have ze:Pz a e.2 d:=(hn _ z1 d).1 (by simpa using zd);obtain⟨i1,i2⟩:=M5 ha hn d e.2 z1 ze;rw[Hl,h1];simp only;refine⟨by simp[i1],λx hx=>?_,?_,λv hv hg=>?_⟩
  ·rcases yO.1 hx with rfl|hx
   ·exact e1
   exact i2.okw x hx
  ·have:=i2.goodw;show Yo a a (Td (E8 a a) (E8 a a s e.1) (Hl a near d e.2))=true;rw[<-e2];exact this
  by_cases hlen:v.length=d+1
  ·cases v with
   |nil=>cases hlen
   |cons z v=>
    have hz:=hv z (by simp);have z6:v.length=d:=by simpa using hlen
    have z7:Yo a a (Td (E8 a a) (E8 a a s z) v)=true:=hg;have zf:Pz a (E8 a a s z) d:=by refine⟨⟨v,z6,λx hx=>hv x (by simp[hx]),z7⟩,λk hk hd=>?_⟩;exact h.2 (k+1) (by omega) (Dc.2 ⟨z,hz,hd⟩)
    obtain⟨f,hf,f1,f2⟩:=(Db ha ha rfl hs.1 hs.2).2 z hz;have zg:f∈(Ww a a s).filter (λe=>decide (lkN near e.2=some d)):=xT.2 ⟨hf,by
     rw[f1];simpa using(hn _ (Dz ha hs hz) d).2 zf⟩
    have hle:e.1=z\/sLt e.1 z:=by
     rcases h3 f zg with h4|h4
     ·rcases f2 with f2|f2
      ·exact .inl (h4.trans f2)
      rw[h4];exact .inr f2
     rcases f2 with f2|f2
     ·rw[<-f2];exact .inr h4
     exact .inr (h4.trans f2)
    refine x27 hle (by rw[i1,z6]) λzh=>?_;refine i2.least v (λx hx=>hv x (by simp[hx])) ?_;show Yo a a (Td (E8 a a) e.2 v)=true;rw[e2,zh];exact z7
  have zi:d+1<=v.length:=by
   by_cases hlt:v.length<d+1
   ·exact absurd ⟨v,rfl,hv,hg⟩ (h.2 _ hlt)
   omega
  exact .inr (.inl (by simp[i1];omega))
def q2p{a:Aut}(ha:Dfa a){p q:Int}(hp:inS a p)(hq:inS a q):(Kz a a p q).1=(lkN (Uq a) (p,q)).map λd=>Hl a (Uq a) d (p,q):=by
 have hn:=q1n ha;have z1:inP a (p,q):=⟨hp,hq⟩
 rcases q0c ha ha rfl hp hq with⟨w,h1,h2⟩|⟨h1,h2⟩
 ·obtain⟨d,_,hm⟩:=x0r (a:=a) (s:=(p,q)) w.length ⟨w,rfl,h2.okw,h2.goodw⟩;rw[h1,(hn _ z1 d).2 hm,wP,h2.unique (M5 ha hn d _ z1 hm).2]
 rw[h1];cases hl:lkN (Uq a) (p,q)with
 |none=>rfl
 |some d=>exfalso;obtain⟨w,_,hw,hg⟩:=((hn _ z1 d).1 hl).1;exact(C7 a a p q w).1 hg (h2 w hw)
structure EqvB (n:Nat) (E:Nat->Nat->Bool):Prop where
 refl:∀i,i<n->E i i=true
 symm:∀i k,i<n->k<n->E i k=true->E k i=true
 trans:∀i k j,i<n->k<n->j<n->E i k=true->E k j=true->E i j=true
def Vm(E:Nat->Nat->Bool)(st:List Nat×List Nat)(i:Nat):List Nat×List Nat:=
 match st.1.findIdx? (E i)with
 |some t=>(st.1,st.2++[t])
 |none=>(st.1++[i],st.2++[st.1.length])
def S3(E:Nat->Nat->Bool)(n:Nat):List Nat×List Nat:=(y_ n).foldl (Vm E) ([],[])
def N2(E:Nat->Nat->Bool)(n:Nat):S3 E (n+1)=Vm E (S3 E n) n:=by rw[S3,List.range_succ,wJ];rfl
structure ClsS (E:Nat->Nat->Bool) (n:Nat) (fs out:List Nat):Prop where
 len:out.length=n
 asc:fs.Pairwise (·<·)
 lt:∀r∈fs,r<n
 apart:fs.Pairwise (λr s=>E r s=false)
 num:∀i,i<n->∃t r,out[i]?=some t/\fs[t]?=some r/\r<=i/\E i r=true
def W6{α:Type}{l:List α}{i:Nat}{x:α}(h:l[i]?=some x):i<l.length:=(zE.1 h).1
def g0z{α:Type}{l:List α}{f:α->Bool}{t:Nat}{x:α}(ht:l[t]?=some x)(hx:f x=true)(hu:∀(i j:Nat) (a b:α),l[i]?=some a->l[j]?=some b->f a=true->f b=true->i=j):l.findIdx? f=some t:=by
 cases hf:l.findIdx? f with
 |none=>rw[vY]at hf;have:=hf x (zL ht);rw[hx]at this;cases this
 |some u=>obtain⟨z1,z6,_⟩:=xV.1 hf;rw[hu u t l[u] x (zP z1) ht z6 hx]
def ClsS.uniq{E:Nat->Nat->Bool}{N n:Nat}(hE:EqvB N E)(hn:n<=N){fs out:List Nat}(h:ClsS E n fs out){i:Nat}(hi:i<N){u v r s:Nat}(hr:fs[u]?=some r)(hs:fs[v]?=some s)(e1:E i r=true)(e2:E i s=true):u=v:=by
 have z7:=zL hr;have z8:=zL hs;have za:=h.lt r z7;have zb:=h.lt s z8;have z1:E r s=true:=hE.trans r i s (by omega) hi (by omega) (hE.symm i r hi (by omega) e1) e2;have z6:E s r=true:=hE.symm r s (by omega) (by omega) z1;obtain⟨hu,rfl⟩:=zE.1 hr;obtain⟨hv,rfl⟩:=zE.1 hs;rcases wZ u v with k|k|k
 ·have:=(yU.1 h.apart) u v hu hv k;rw[this]at z1;cases z1
 ·exact k
 have:=(yU.1 h.apart) v u hv hu k;rw[this]at z6;cases z6
def z0j{E:Nat->Nat->Bool}{N:Nat}(hE:EqvB N E):∀n,n<=N->ClsS E n (S3 E n).1 (S3 E n).2
 |0,_=>⟨rfl,by simp[S3],by simp[S3],by simp[S3],λi hi=>by omega⟩
 |n+1,hn=>by
  have h:=z0j hE n (by omega);rw[N2];generalize S3 E n=st at *
  obtain⟨fs,out⟩:=st;simp only at h;unfold Vm;simp only;cases hf:fs.findIdx? (E n)with
  |some t=>
   obtain⟨h1,h2,_⟩:=xV.1 hf;simp only;refine⟨by simp[h.len],h.asc,λr hr=>by have:=h.lt r hr;omega,h.apart,λi hi=>?_⟩;by_cases e:i=n
   ·subst e;exact⟨t,fs[t],by rw[zO (by rw[h.len];omega)];simp[h.len],zP h1,by have:=h.lt _ (zT h1);omega,h2⟩
   obtain⟨t',r,a1,a2,a3,a4⟩:=h.num i (by omega);exact⟨t',r,by rw[zI (by rw[h.len];omega)];exact a1,a2,a3,a4⟩
  |none=>
   rw[vY]at hf;simp only;refine⟨by simp[h.len],yT.2 ⟨h.asc,by simp,λr hr s hs=>by rw[zV.1 hs];exact h.lt r hr⟩,λr hr=>?_,yT.2 ⟨h.apart,by simp,λr hr s hs=>?_⟩,λi hi=>?_⟩
   ·rcases yB.1 hr with hr|hr
    ·have:=h.lt r hr;omega
    rw[zV.1 hr];omega
   ·rw[zV.1 hs];have z1:=h.lt r hr;have:=hf r hr;cases hc:E r n
    ·rfl
    rw[hE.symm r n (by omega) (by omega) hc]at this;cases this
   by_cases e:i=n
   ·subst e;exact⟨fs.length,i,by rw[zO (by rw[h.len];omega)];simp[h.len],by rw[zO (by omega)];simp,by omega,hE.refl i (by omega)⟩
   obtain⟨t',r,a1,a2,a3,a4⟩:=h.num i (by omega);exact⟨t',r,by rw[zI (by rw[h.len];omega)];exact a1,by rw[zI (W6 a2)];exact a2,a3,a4⟩
def ClsS.same{E:Nat->Nat->Bool}{n:Nat}(hE:EqvB n E){fs out:List Nat}(h:ClsS E n fs out){i k:Nat}(hi:i<n)(hk:k<n):out.getD i 0=out.getD k 0↔E i k=true:=by
 obtain⟨t,r,a1,a2,a3,a4⟩:=h.num i hi;obtain⟨u,s,b1,b2,b3,b4⟩:=h.num k hk;simp only[yV,a1,b1,ww];constructor
 ·intro e;subst e;rw[a2]at b2;cases b2;exact hE.trans i r k hi (by omega) hk a4 (hE.symm k r hk (by omega) b4)
 intro e;refine h.uniq hE (zW n) hi a2 b2 a4 ?_;exact hE.trans i k s hi hk (by omega) e b4
def ClsS.first{E:Nat->Nat->Bool}{n:Nat}(hE:EqvB n E){fs out:List Nat}(h:ClsS E n fs out){t r:Nat}(ht:fs[t]?=some r):out.findIdx? (λc=>decide (c=t))=some r:=by
 have hr:=h.lt r (zL ht);rw[xV];refine⟨by rw[h.len];exact hr,?_,λj hj=>?_⟩
 ·obtain⟨u,s,a1,a2,a3,a4⟩:=h.num r hr;have hu:u=t:=h.uniq hE (zW n) hr a2 ht a4 (hE.refl r hr);obtain⟨hl,e⟩:=zE.1 a1;rw[e,hu];simp
 obtain⟨u,s,a1,a2,a3,a4⟩:=h.num j (by omega);obtain⟨hl,e⟩:=zE.1 a1;rw[e];have:u≠t:=λe'=>by subst e';rw[ht]at a2;cases a2;omega
 simpa using this
def ClsS.lt_fs{E:Nat->Nat->Bool}{n:Nat}{fs out:List Nat}(h:ClsS E n fs out){i:Nat}(hi:i<n):out.getD i 0<fs.length:=by obtain⟨t,r,a1,a2,_,_⟩:=h.num i hi;simp only[yV,a1,ww];exact W6 a2
def eqW(a b:Aut)(p q:Int):Prop:=∀w,(∀x∈w,Q8 a x)->Zf a p w=Zf b q w
def eqS(a:Aut)(i k:Nat):Bool:=(lkN (Uq a) ((i:Int),(k:Int))).isNone
def Is{a:Aut}{i:Nat}(h:i<a.fin.length):inS a (i:Int):=⟨by omega,by omega⟩
def w1p{a b:Aut}(ha:Dfa a)(hb:Dfa b)(ht:b.types=a.types){p q:Int}(hp:inS a p)(hq:inS b q):(Kz a b p q).1=none↔eqW a b p q:=by
 rcases q0c ha hb ht hp hq with⟨w,h1,h2⟩|⟨h1,h2⟩
 ·rw[h1];exact⟨λh=>(by cases h),λh=>absurd (h w h2.okw) ((C7 a b p q w).1 h2.goodw)⟩
 exact⟨λ_=>h2,λ_=>h1⟩
def An{a:Aut}(ha:Dfa a){i k:Nat}(hi:i<a.fin.length)(hk:k<a.fin.length):eqS a i k=true↔eqW a a i k:=by rw[<-w1p ha ha rfl (Is hi) (Is hk),q2p ha (Is hi) (Is hk),eqS];cases lkN (Uq a) ((i:Int),(k:Int))<;>simp
def j17{a:Aut}(ha:Dfa a):EqvB a.fin.length (eqS a):=
 ⟨λi hi=>(An ha hi hi).2 λ_ _=>rfl,λi k hi hk h=>(An ha hk hi).2 λw hw=>((An ha hi hk).1 h w hw).symm,
  λi k j hi hk hj h h'=>(An ha hi hj).2 λw hw=>((An ha hi hk).1 h w hw).trans ((An ha hk hj).1 h' w hw)⟩
def fsA(a:Aut):List Nat:=(S3 (eqS a) a.fin.length).1
def clA(a:Aut):List Nat:=(S3 (eqS a) a.fin.length).2
def v2q{a:Aut}(ha:Dfa a):ClsS (eqS a) a.fin.length (fsA a) (clA a):=z0j (j17 ha) _ (zW _)
def j15{a:Aut}(ha:Dfa a){i k:Nat}(hi:i<a.fin.length)(hk:k<a.fin.length):(clA a).getD i 0=(clA a).getD k 0↔eqW a a i k:=by rw[(v2q ha).same (j17 ha) hi hk,An ha hi hk]
section
section
variable {α:Type} (key:α->Nat×Int)
def C9(s:List α)(x:α):Nat->Nat
 |0=>0
 |j+1=>match s[j]? with
  |some y=>if Nf (key x) (key y)=true then C9 s x j else j+1
  |none=>j+1
def v1j(s:List α)(x:α):List α:=s.take (C9 key s x s.length)++x::s.drop (C9 key s x s.length)
def k18(L:List α):List α:=L.foldl (v1j key) []
def ltG(p q:α):Prop:=I3 (key p).1 (key p).2 (key q).1 (key q).2
theorem Zh(s:List α)(x:α):∀j,j<=s.length->C9 key s x j<=j/\(∀i,C9 key s x j<=i->i<j->∀h:i<s.length,Nf (key x) (key s[i])=true)/\(∀i,i+1=C9 key s x j->∀h:i<s.length,Nf (key x) (key s[i])=false)
 |0,_=>⟨zW _,λi _ h=>by omega,λi h=>by simp[C9]at h⟩
 |j+1,hj=>by
  have z1:j<s.length:=by omega
  rw[C9,zP z1];simp only;by_cases hb:Nf (key x) (key s[j])=true
  ·rw[if_pos hb];obtain⟨h1,h2,h3⟩:=Zh s x j (by omega);refine⟨by omega,λi hi z6 hl=>?_,h3⟩;by_cases hij:i=j
   ·subst hij;exact hb
   exact h2 i hi (by omega) hl
  rw[if_neg hb];refine⟨zW _,λi hi z6=>by omega,λi hi hl=>?_⟩;have:i=j:=by omega
  subst this;simpa using hb
theorem f09(s:List α)(x:α):(v1j key s x).Perm (x::s):=by unfold v1j;refine vT.trans ?_;rw[xW]
theorem w08{s:List α}{x:α}(hs:s.Pairwise (ltG key))(hd:∀y∈s,key y≠key x):(v1j key s x).Pairwise (ltG key):=by
 obtain⟨h1,h2,h3⟩:=Zh key s x s.length (zW _);unfold v1j;generalize C9 key s x s.length=k at *
 have z1:=hs;rw[<-xW k s]at z1;obtain⟨p1,p2,p3⟩:=yT.1 z1;have z7:∀y∈s.drop k,ltG key x y:=λy hy=>by obtain⟨i,hi⟩:=yQ.1 hy;rw[List.getElem?_drop]at hi;obtain⟨hl,e⟩:=zE.1 hi;have:=h2 (k+i) (by omega) hl hl;rw[e]at this;exact(Th _ _).1 this
 have z8:∀i,i+1=k->∀h:i<s.length,ltG key s[i] x:=λi hi hl=>by
  have h4:=h3 i hi hl;have zc:=hd s[i] (zT hl);unfold ltG;rcases wZ (key s[i]).1 (key x).1 with a|a|a
  ·exact .inl a
  ·rcases Int.lt_trichotomy (key s[i]).2 (key x).2 with b|b|b
   ·exact .inr ⟨a,b⟩
   ·exact absurd (un a b) zc
   have:Nf (key x) (key s[i])=true:=(Th _ _).2 (.inr ⟨a.symm,b⟩);rw[this]at h4;cases h4
  have:Nf (key x) (key s[i])=true:=(Th _ _).2 (.inl a);rw[this]at h4;cases h4
 have z6:∀y∈s.take k,ltG key y x:=λy hy=>by
  obtain⟨i,hi⟩:=yQ.1 hy;rw[List.getElem?_take]at hi;split at hi
  ·rename_i zd;obtain⟨hl,e⟩:=zE.1 hi;obtain⟨k',rfl⟩:∃k',k=k'+1:=⟨k - 1,by omega⟩
   have za:k'<s.length:=by omega
   have zb:=z8 k' rfl za;by_cases hij:i=k'
   ·subst hij;rw[<-e];exact zb
   have:=yU.1 hs i k' hl za (by omega);rw[e]at this;exact I3.trans this zb
  cases hi
 refine yT.2 ⟨p1,yZ.2 ⟨z7,p2⟩,λy hy z hz=>?_⟩;rcases yO.1 hz with rfl|hz
 ·exact z6 y hy
 exact p3 y hy z hz
theorem Lv(L:List α)(hd:L.Pairwise (λp q=>key p≠key q)):(k18 key L).Perm L/\(k18 key L).Pairwise (ltG key):=by
 have go:∀(r s:List α),s.Pairwise (ltG key)->(s++r).Pairwise (λp q=>key p≠key q)->(r.foldl (v1j key) s).Perm (s++r)/\(r.foldl (v1j key) s).Pairwise (ltG key):=by
  intro r;induction r with
  |nil=>intro s h _;simpa using h
  |cons x r ih=>intro s h hd;obtain⟨d1,d2,d3⟩:=yT.1 hd;have hi:=w08 key h (λy hy=>d3 y hy x (by simp));have hp:=f09 key s x;have z1:(v1j key s x++r).Perm (s++x::r):=(hp.append_right r).trans (vT (l₁:=s) (a:=x) (l₂:=r)).symm;have z6:(v1j key s x++r).Pairwise (λp q=>key p≠key q):=(z1.pairwise_iff (λh=>Ne.symm h)).2 hd;obtain⟨i1,i2⟩:=ih (v1j key s x) hi z6;rw[xX];exact⟨i1.trans z1,i2⟩
 have h:=go L [] List.Pairwise.nil (by simpa using hd);unfold k18;simpa using h
theorem q2b{l l':List α}(hs:l.Pairwise (ltG key))(z1:l'.Pairwise (ltG key))(hp:∀x,x∈l↔x∈l'):l=l':=by have z6:∀ {X:List α},X.Pairwise (ltG key)->X.Nodup:=λhx=>hx.imp (λh e=>by subst e;exact I3.irr h);refine List.Perm.eq_of_pairwise (le:=ltG key) (λa b _ _ h k=>(I3.irr (h.trans k)).elim) hs z1 ?_;exact(ul (z6 hs) (z6 z1)).2 hp
end
def clD(cl:List Nat)(m:Mv):Nat:=cl.getD m.dst.toNat 0
def kyM(m:Mv):Nat×Int:=Qy m.on 0
def v2v(a:Aut)(cl:List Nat)(s:Int):List Mv:=(Wa a s).foldl (λg m=>Yi 0 g (clD cl m) m.on) []
def d1j(a:Aut)(cl:List Nat)(s:Int):List Mv:=k18 kyM (v2v a cl s)
def Gb(a:Aut)(cl:List Nat)(s:Int)(t:Nat)(ty:Nat)(y:Int):Prop:=∃m∈Wa a s,clD cl m=t/\PM m.on ty y
structure MrgS (T:Nat) (D:Nat->Nat->Int->Prop) (g:List Mv):Prop where
 wf:∀m∈g,PWf T m.on
 src:∀m∈g,m.src=0
 dst:∀m∈g,∃t:Nat,m.dst=t
 nd:g.Pairwise (λm k=>m.dst≠k.dst)
 mem:∀m∈g,∀t:Nat,m.dst=t->∀ty y,PM m.on ty y↔D t ty y
 all:∀t ty y,D t ty y->∃m∈g,m.dst=(t:Int)
 ne:∀m∈g,∃ty y,PM m.on ty y
def j11{n to:Nat}{g:List Mv}{c:Prd}{T:Nat}(hg:∀m∈g,∃ty y,PM m.on ty y)(hw:∀m∈g,PWf T m.on)(hc:PWf T c)(z1:∃ty y,PM c ty y):∀m∈Yi n g to c,∃ty y,PM m.on ty y:=by
 intro m hm;unfold Yi at hm;split at hm
 ·rcases yB.1 hm with hm|hm
  ·exact hg m hm
  rw[zV.1 hm];exact z1
 split at hm
 ·rename_i m2 z6;rcases wU hm with hm|rfl
  ·exact hg m hm
  obtain⟨ty,y,h⟩:=z1;exact⟨ty,y,(Sg (hw _ (zL z6)) hc ty y).2 (.inr h)⟩
 exact hg m hm
def y2l{a:Aut}(h:WfA a){s:Int}{m:Mv}(hm:m∈Wa a s):PWf a.types.toNat m.on/\∃ty y,PM m.on ty y:=by obtain⟨h1,h2,h3⟩:=Wz.1 hm;exact⟨h.on m h1,(Rs (h.on m h1)).1 h3⟩
def Bd{a:Aut}(ha:Dfa a)(cl:List Nat)(s:Int):MrgS a.types.toNat (Gb a cl s) (v2v a cl s):=by
 obtain⟨N,hN⟩:∃N,∀m∈Wa a s,clD cl m<N:=by
  refine⟨(cl.foldl max 0)+1,λm _=>?_⟩;have key:∀(l:List Nat) (b:Nat),b<=l.foldl max b/\∀x∈l,x<=l.foldl max b:=by
   intro l;induction l with
   |nil=>intro b;simp
   |cons x l ih=>
    intro b;obtain⟨h1,h2⟩:=ih (max b x);rw[xX];refine⟨by omega,λy hy=>?_⟩;rcases yO.1 hy with rfl|hy
    ·omega
    exact h2 y hy
  unfold clD;by_cases hl:m.dst.toNat<cl.length
  ·have:=(key cl 0).2 _ (zT hl);simp only[yV,zP hl,ww];omega
  simp[yV,xF (by omega:cl.length<=m.dst.toNat)]
 have key:∀(r:List Mv) (D:Nat->Nat->Int->Prop) (g:List Mv),MInv a.types.toNat N 0 D g->(∀m∈g,∃ty y,PM m.on ty y)->(∀m∈r,m∈Wa a s)->
   MInv a.types.toNat N 0 (λt ty y=>D t ty y\/∃m∈r,clD cl m=t/\PM m.on ty y) (r.foldl (λg m=>Yi 0 g (clD cl m) m.on) g)/\∀m∈r.foldl (λg m=>Yi 0 g (clD cl m) m.on) g,∃ty y,PM m.on ty y:=by
  intro r;induction r with
  |nil=>intro D g h hn _;exact⟨h.congr (λt ty y=>by simp),hn⟩
  |cons c r ih=>
   intro D g h hn hr;rw[xX];have hc:=y2l ha.ok.wfA (hr c (by simp));obtain⟨i1,i2⟩:=ih _ _ (h.add (hN c (hr c (by simp))) hc.1 hc.2) (j11 hn h.wf hc.1 hc.2) (λd hd=>hr d (by simp[hd]));refine⟨i1.congr (λt ty y=>?_),i2⟩;simp only[yO,exists_eq_or_imp,or_assoc];constructor
   ·rintro(h|⟨e,h⟩|h)
    ·exact .inl h
    ·exact .inr (.inl ⟨e.symm,h⟩)
    exact .inr (.inr h)
   rintro(h|⟨e,h⟩|h)
   ·exact .inl h
   ·exact .inr (.inl ⟨e.symm,h⟩)
   exact .inr (.inr h)
 have h0:MInv a.types.toNat N 0 (λ_ _ _=>False) []:=⟨by simp,by simp,by simp,by simp,by simp,λ_ _ _ h=>h.elim⟩
 obtain⟨h1,h2⟩:=key (Wa a s) _ [] h0 (by simp) (λm hm=>hm);have h3:=h1.congr (D':=Gb a cl s) (λt ty y=>by simp[Gb]);exact⟨h3.wf,h3.src,λm hm=>by obtain⟨t,_,e⟩:=h3.dst m hm;exact⟨t,e⟩,h3.nd,h3.mem,h3.all,h2⟩
def MrgS.perm{T:Nat}{D:Nat->Nat->Int->Prop}{g g':List Mv}(h:MrgS T D g)(hp:g.Perm g'):MrgS T D g':=
 ⟨λm hm=>h.wf m (hp.mem_iff.2 hm),λm hm=>h.src m (hp.mem_iff.2 hm),λm hm=>h.dst m (hp.mem_iff.2 hm),(hp.pairwise_iff (λh=>Ne.symm h)).1 h.nd,λm hm=>h.mem m (hp.mem_iff.2 hm),
  λt ty y hd=>by obtain⟨m,hm,e⟩:=h.all t ty y hd;exact⟨m,hp.mem_iff.1 hm,e⟩,λm hm=>h.ne m (hp.mem_iff.2 hm)⟩
def MrgS.sub{T:Nat}{D:Nat->Nat->Int->Prop}{g g':List Mv}(h:MrgS T D g)(h':MrgS T D g'){m:Mv}(hm:m∈g):m∈g':=by
 obtain⟨t,ht⟩:=h.dst m hm;obtain⟨ty,y,hy⟩:=h.ne m hm;obtain⟨k,hk,z1⟩:=h'.all t ty y ((h.mem m hm t ht ty y).1 hy);have z6:m.on=k.on:=Il (h.wf m hm) (h'.wf k hk) λt' n'=>by rw[h.mem m hm t ht,h'.mem k hk t z1]
 have:m=k:=by cases m;cases k;simp only at ht z1 z6;have e1:=h.src _ hm;have e2:=h'.src _ hk;simp only at e1 e2;subst z6;rw[e1,e2,ht,z1]
 rw[this];exact hk
def MrgS.apart{T:Nat}{D:Nat->Nat->Int->Prop}{g:List Mv}(h:MrgS T D g)(hD:∀t t' ty y,D t ty y->D t' ty y->t=t'):g.Pairwise (λp q=>kyM p≠kyM q):=
 h.nd.imp_of_mem λ{p q} hp hq z1 e=>by obtain⟨t,ht⟩:=h.dst p hp;obtain⟨u,hu⟩:=h.dst q hq;have h1:=(W9 (h.wf p hp) (h.ne p hp)).1;have h2:=(W9 (h.wf q hq) (h.ne q hq)).1;unfold kyM at e;rw[e]at h1;have:=hD t u _ _ ((h.mem p hp t ht _ _).1 h1) ((h.mem q hq u hu _ _).1 h2);rw[ht,hu,this]at z1;exact z1 rfl
def MrgS.uniq{T:Nat}{D:Nat->Nat->Int->Prop}{g g':List Mv}(h:MrgS T D g)(h':MrgS T D g')(s:g.Pairwise (ltG kyM))(s':g'.Pairwise (ltG kyM)):g=g':=
 q2b kyM s s' λ_=>⟨h.sub h',h'.sub h⟩
def Dfa.dom{a:Aut}(ha:Dfa a){cl:List Nat}{s:Int}{t ty:Nat}{y:Int}:Gb a cl s t ty y↔(∃x:Sy,Q8 a x/\x.ty.toNat=ty/\x.num=y/\∃m∈a.mv,m.src=s/\Ti m.on x=true/\cl.getD m.dst.toNat 0=t):=by
 constructor
 ·rintro⟨m,hm,h1,h2⟩;obtain⟨g1,g2,g3⟩:=Wz.1 hm;obtain⟨z6,z1⟩:=(ha.ok.wfA.on m g1).lt h2;have hx:Q8 a ⟨ty,y⟩:=⟨⟨by simp,by have:=ha.ok.types;simp;omega⟩,z1⟩
  exact⟨⟨ty,y⟩,hx,by simp,rfl,m,g1,g2,(Rh ha.ok.wfA g1 hx).2 (by simpa using h2),h1⟩
 rintro⟨x,hx,rfl,rfl,m,hm,h1,h2,h3⟩;have hp:=(Rh ha.ok.wfA hm hx).1 h2;exact⟨m,Wz.2 ⟨hm,h1,(Rs (ha.ok.wfA.on m hm)).2 ⟨_,_,hp⟩⟩,h3,hp⟩
def Ow{a:Aut}(ha:Dfa a){cl:List Nat}{s:Int}(hs:inS a s){t ty:Nat}{y:Int}:Gb a cl s t ty y↔∃x:Sy,Q8 a x/\x.ty.toNat=ty/\x.num=y/\cl.getD (toL a s x).toNat 0=t:=by
 rw[ha.dom];constructor
 ·rintro⟨x,hx,h1,h2,m,hm,rfl,h4,h5⟩;exact⟨x,hx,h1,h2,by rw[ha.to_of hm hx h4];exact h5⟩
 rintro⟨x,hx,h1,h2,h3⟩;obtain⟨m,hm,e1,e2,e3⟩:=ha.move hs hx;exact⟨x,hx,h1,h2,m,hm,e1,e2,by rw[e3];exact h3⟩
def z27{x y:Sy}{a:Aut}(hx:Q8 a x)(hy:Q8 a y)(h:x.ty.toNat=y.ty.toNat)(h2:x.num=y.num):x=y:=by
 have:=hx.1.1;have:=hy.1.1;cases x;cases y;simp only at *
 have:∀ {a b:Int},0<=a->0<=b->a.toNat=b.toNat->a=b:=λh0 h1 h=>by omega
 simp only[Sy.mk.injEq];exact⟨this ‹_› ‹_› h,h2⟩
def X5{a:Aut}(ha:Dfa a){cl:List Nat}{s:Int}(hs:inS a s){t t' ty:Nat}{y:Int}(h:Gb a cl s t ty y)(h':Gb a cl s t' ty y):t=t':=by obtain⟨x,hx,h1,h2,h3⟩:=(Ow ha hs).1 h;obtain⟨x',z1,z6,z7,z8⟩:=(Ow ha hs).1 h';have:x=x':=z27 hx z1 (h1.trans z6.symm) (h2.trans z7.symm);subst this;exact h3.symm.trans z8
def Yb{a:Aut}(ha:Dfa a)(cl:List Nat){s:Int}(hs:inS a s):MrgS a.types.toNat (Gb a cl s) (d1j a cl s)/\(d1j a cl s).Pairwise (ltG kyM):=by have h:=Bd ha cl s;obtain⟨h1,h2⟩:=Lv kyM (v2v a cl s) (h.apart λt t' ty y=>X5 ha hs);exact⟨h.perm h1.symm,h2⟩
def P2(a:Aut)(cl:List Nat)(s:Int)(t:Nat):List Prd:=((Wa a s).filter λm=>decide (clD cl m=t)).map (·.on)
def y15{a:Aut}(ha:Dfa a)(cl:List Nat)(s:Int){ks:List Nat}(z7:ks.Nodup)(hk:∀t,t∈ks↔∃m∈Wa a s,clD cl m=t):
  MrgS a.types.toNat (Gb a cl s) (ks.map λt:Nat=>(⟨0,(t:Int),Uw a.types.toNat (P2 a cl s t)⟩:Mv)):=by
 have z1:∀t,∀p∈P2 a cl s t,PWf a.types.toNat p:=λt p hp=>by obtain⟨m,hm,rfl⟩:=zU.1 hp;exact(y2l ha.ok.wfA (xT.1 hm).1).1
 have z6:∀t ty y,PM (Uw a.types.toNat (P2 a cl s t)) ty y↔Gb a cl s t ty y:=λt ty y=>by
  rw[Fp (z1 t)];constructor
  ·rintro⟨p,hp,h⟩;obtain⟨m,hm,rfl⟩:=zU.1 hp;obtain⟨h1,h2⟩:=xT.1 hm;exact⟨m,h1,by simpa using h2,h⟩
  rintro⟨m,hm,h1,h2⟩;exact⟨m.on,zU.2 ⟨m,xT.2 ⟨hm,by simpa using h1⟩,rfl⟩,h2⟩
 refine⟨λm hm=>?_,λm hm=>?_,λm hm=>?_,?_,λm hm t e ty y=>?_,λt ty y hd=>?_,λm hm=>?_⟩
 ·obtain⟨t,_,rfl⟩:=zU.1 hm;exact P4 (z1 t)
 ·obtain⟨t,_,rfl⟩:=zU.1 hm;rfl
 ·obtain⟨t,_,rfl⟩:=zU.1 hm;exact⟨t,rfl⟩
 ·exact xS.2 (z7.imp λh e=>h (Int.ofNat.inj e))
 ·obtain⟨u,_,rfl⟩:=zU.1 hm;have:u=t:=Int.ofNat.inj e;subst this;exact z6 u ty y
 ·obtain⟨m,hm,h1,h2⟩:=hd;exact⟨_,zU.2 ⟨t,(hk t).2 ⟨m,hm,h1⟩,rfl⟩,rfl⟩
 obtain⟨t,ht,rfl⟩:=zU.1 hm;obtain⟨m,hm,h1⟩:=(hk t).1 ht;obtain⟨ty,y,hp⟩:=(y2l ha.ok.wfA hm).2;exact⟨ty,y,(z6 t ty y).2 ⟨m,hm,h1,hp⟩⟩
end
section
def c1s(cl:List Nat)(t:Nat):Nat:=(cl.findIdx? λc=>decide (c=t)).getD 0
def G9(a:Aut)(t:Nat):Prop:=t<(fsA a).length
def Wt(a:Aut)(s:Int):Nat:=(clA a).getD s.toNat 0
def Tp(a:Aut)(t:Nat):Nat:=c1s (clA a) t
def P7{a:Aut}{s:Int}(h:inS a s):s.toNat<a.fin.length/\((s.toNat:Nat):Int)=s:=by unfold inS at h;omega
def Tz{a:Aut}(ha:Dfa a){t:Nat}(ht:G9 a t):Tp a t<a.fin.length/\Wt a (Tp a t)=t:=by
 have h:=v2q ha;have hf:=h.first (j17 ha) (zP ht);have hr:Tp a t=(fsA a)[t]:=by rw[Tp,c1s,hf];rfl
 rw[xV]at hf;obtain⟨h1,h2,_⟩:=hf;rw[hr];refine⟨by rw[h.len]at h1;exact h1,?_⟩;simp only[Wt,v_,yV,zP h1,ww];simpa using h2
def Yc{a:Aut}(ha:Dfa a){t:Nat}(ht:G9 a t):inS a (Tp a t:Int):=Is (Tz ha ht).1
def Ac{a:Aut}(ha:Dfa a){s:Int}(hs:inS a s):G9 a (Wt a s):=(v2q ha).lt_fs (P7 hs).1
def Jj{a:Aut}(ha:Dfa a){s t:Int}(hs:inS a s)(ht:inS a t):Wt a s=Wt a t↔eqW a a s t:=by have h1:=P7 hs;have h2:=P7 ht;rw[Wt,Wt,j15 ha h1.1 h2.1,h1.2,h2.2]
def Zm{a:Aut}(ha:Dfa a){s:Int}(hs:inS a s):eqW a a (Tp a (Wt a s)) s:=
 (Jj ha (Yc ha (Ac ha hs)) hs).1 (Tz ha (Ac ha hs)).2
def eqW.symm{a:Aut}{s t:Int}(h:eqW a a s t):eqW a a t s:=λw hw=>(h w hw).symm
def eqW.step{a b:Aut}{s t:Int}(h:eqW a b s t){x:Sy}(hx:Q8 a x):eqW a b (toL a s x) (toL b t x):=λw hw=>h (x::w) (λy hy=>by
 rcases yO.1 hy with rfl|hy
 ·exact hx
 exact hw y hy)
def D0(o:List Nat)(c:Nat):List Nat:=if c∈o then o else o++[c]
def Wh(o:List Nat)(l:List Mv):List Nat:=l.foldl (λo m=>D0 o m.dst.toNat) o
def Ym(a:Aut)(t:Nat):List Mv:=d1j a (clA a) (Tp a t:Int)
def Y3(a:Aut):Nat->Nat->List Nat->List Nat
 |0,_,o=>o
 |f+1,n,o=>match o[n]? with
  |none=>o
  |some c=>Y3 a f (n+1) (Wh o (Ym a c))
def Ur(a:Aut):List Nat:=Y3 a (a.fin.length+1) 0 [Wt a 0]
def F6(o:List Nat)(c:Nat):Nat:=(o.findIdx? λd=>decide (d=c)).getD 0
def mvN(a:Aut)(o:List Nat)(n:Nat):List Mv:=(Ym a (o.getD n 0)).map λm=>⟨n,(F6 o m.dst.toNat:Int),m.on⟩
def Ae(a:Aut)(o:List Nat):Aut:=⟨a.types,o.map λc=>a.fin.getD (Tp a c) false,(y_ o.length).flatMap (mvN a o)⟩
def Q4(a:Aut):Aut:=Ae a (Ur a)
def Gs(o:List Nat)(c:Nat):∃r,D0 o c=o++r/\∀x∈r,x=c:=by
 unfold D0;split
 ·exact⟨[],by simp,by simp⟩
 exact⟨[c],rfl,λx hx=>zV.1 hx⟩
def x0h(o:List Nat)(c:Nat):c∈D0 o c:=by
 unfold D0;split
 ·assumption
 simp
def k06{o:List Nat}(h:o.Nodup)(c:Nat):(D0 o c).Nodup:=by
 unfold D0;split
 ·exact h
 rename_i hc;exact vD.2 ⟨h,by simp,λx hx y hy e=>by rw[zV.1 hy]at e;exact hc (e▸hx)⟩
def Yu:∀(l:List Mv) (o:List Nat),o.Nodup->(∃r,Wh o l=o++r/\∀x∈r,∃m∈l,x=m.dst.toNat)/\(Wh o l).Nodup/\∀m∈l,m.dst.toNat∈Wh o l
 |[],o,h=>⟨⟨[],by simp[Wh],by simp⟩,h,by simp⟩
 |m::l,o,h=>by
  obtain⟨⟨r,h1,h2⟩,h3,h4⟩:=Yu l (D0 o m.dst.toNat) (k06 h _);obtain⟨r',h5,h6⟩:=Gs o m.dst.toNat;have he:Wh o (m::l)=Wh (D0 o m.dst.toNat) l:=rfl;rw[he];refine⟨⟨r'++r,by rw[h1,h5,xU],λx hx=>?_⟩,h3,λk hk=>?_⟩
  ·rcases yB.1 hx with hx|hx
   ·exact⟨m,by simp,h6 x hx⟩
   obtain⟨k,hk,e⟩:=h2 x hx;exact⟨k,by simp[hk],e⟩
  rcases yO.1 hk with rfl|hk
  ·rw[h1];exact xB _ (x0h _ _)
  exact h4 k hk
def Um{a:Aut}(ha:Dfa a){t:Nat}(ht:G9 a t){m:Mv}(hm:m∈Ym a t):∃x,Q8 a x/\m.dst=(Wt a (toL a (Tp a t) x):Nat)/\inS a (toL a (Tp a t) x)/\G9 a (Wt a (toL a (Tp a t) x))/\PM m.on x.ty.toNat x.num:=by have hs:=Yc ha ht;have h:=(Yb ha (clA a) hs).1;obtain⟨u,hu⟩:=h.dst m hm;obtain⟨ty,y,hy⟩:=h.ne m hm;obtain⟨x,hx,rfl,rfl,h3⟩:=(Ow ha hs).1 ((h.mem m hm u hu ty y).1 hy);have z1:=(ha.next hs hx).1;exact⟨x,hx,by rw[hu,<-h3];rfl,z1,Ac ha z1,hy⟩
structure OrdS (a:Aut) (o:List Nat):Prop where
 first:o[0]?=some (Wt a 0)
 nd:o.Nodup
 cl:∀c∈o,G9 a c
 closed:∀c∈o,∀m∈Ym a c,m.dst.toNat∈o
def y14{a:Aut}(ha:Dfa a):(fsA a).length<=a.fin.length:=by
 have h:=v2q ha;have z1:(fsA a).Nodup:=h.asc.imp λh e=>by omega
 have:=z1.length_le_of_subset (l₂:=y_ a.fin.length) λr hr=>xD.2 (h.lt r hr);simpa using this
def Cq{a:Aut}(ha:Dfa a){o:List Nat}(hn:o.Nodup)(hc:∀c∈o,G9 a c):o.length<=a.fin.length:=by have:=hn.length_le_of_subset (l₂:=y_ (fsA a).length) λc hx=>xD.2 (hc c hx);have h2:=y14 ha;simp at this;omega
def Ma{a:Aut}(ha:Dfa a):∀(f n:Nat) (o:List Nat),a.fin.length+1<=n+f->n<=o.length->o[0]?=some (Wt a 0)->o.Nodup->(∀c∈o,G9 a c)->(∀i c,i<n->o[i]?=some c->∀m∈Ym a c,m.dst.toNat∈o)->OrdS a (Y3 a f n o)
 |0,n,o,hf,hn,h0,z6,z1,hc=>by have:=Cq ha z6 z1;omega
 |f+1,n,o,hf,hn,h0,z6,z1,hc=>by
  unfold Y3;cases hon:o[n]? with
  |none=>
   simp only;have hl:o.length<=n:=by simpa using hon
   refine⟨h0,z6,z1,λc hx m hm=>?_⟩;obtain⟨i,hi⟩:=yQ.1 hx;exact hc i c (by have:=W6 hi;omega) hi m hm
  |some c=>
   simp only;have z8:=W6 hon;obtain⟨⟨r,h1,h2⟩,h3,h4⟩:=Yu (Ym a c) o z6;have z7:=z1 c (zL hon);refine Ma ha f (n+1) _ (by omega) (by rw[h1,yP];omega) ?_ h3 (λd hd=>?_) λi d hi hd m hm=>?_
   ·rw[h1,zI (by omega)];exact h0
   ·rw[h1]at hd;rcases yB.1 hd with hd|hd
    ·exact z1 d hd
    obtain⟨m,hm,e⟩:=h2 d hd;obtain⟨x,_,e2,_,e4,_⟩:=Um ha z7 hm;rw[e,e2];simpa using e4
   rw[h1,zI (by omega)]at hd;by_cases e:i=n
   ·subst e;rw[hon]at hd;cases hd;exact h4 m hm
   rw[h1];exact xB _ (hc i d (by omega) hd m hm)
def Ru{a:Aut}(ha:Dfa a):OrdS a (Ur a):=
 Ma ha _ 0 _ (by omega) (by simp) rfl (by simp) (λc hc=>by rw[zV.1 hc];exact Ac ha ha.zero) (λi c hi=>by omega)
section
variable {a b:Aut} (ha:Dfa a) (hb:Dfa b) (ht:b.types=a.types)
def z0b(a b:Aut)(c d:Nat):Prop:=G9 a c/\G9 b d/\eqW a b (Tp a c) (Tp b d)
structure LkO (a b:Aut) (o o':List Nat):Prop where
 len:o.length=o'.length
 k:∀(i c d:Nat),o[i]?=some c->o'[i]?=some d->z0b a b c d
theorem Wx{a b:Aut}(ht:b.types=a.types){x:Sy}:Q8 b x↔Q8 a x:=by unfold Q8;rw[ht]
include ha hb ht
theorem Jc{c d d':Nat}(h:z0b a b c d)(h':z0b a b c d'):d=d':=by
 have e:Wt b (Tp b d)=Wt b (Tp b d'):=(Jj hb (Yc hb h.2.1) (Yc hb h'.2.1)).2 λw hw=>by have z1:∀x∈w,Q8 a x:=λx hx=>(Wx ht).1 (hw x hx);exact(h.2.2 w z1).symm.trans (h'.2.2 w z1)
 rw[(Tz hb h.2.1).2,(Tz hb h'.2.1).2]at e;exact e
theorem Fc{c c' d:Nat}(h:z0b a b c d)(h':z0b a b c' d):c=c':=by have e:Wt a (Tp a c)=Wt a (Tp a c'):=(Jj ha (Yc ha h.1) (Yc ha h'.1)).2 λw hw=>(h.2.2 w hw).trans (h'.2.2 w hw).symm;rw[(Tz ha h.1).2,(Tz ha h'.1).2]at e;exact e
theorem z1s{s t:Int}(hs:inS a s)(z1:inS b t)(h:eqW a b s t):z0b a b (Wt a s) (Wt b t):=
 ⟨Ac ha hs,Ac hb z1,λw hw=>((Zm ha hs w hw).trans (h w hw)).trans (Zm hb z1 w λx hx=>(Wx ht).2 (hw x hx)).symm⟩
theorem LkO.mem{o o':List Nat}(h:LkO a b o o'){c d:Nat}(hk:z0b a b c d):c∈o↔d∈o':=by
 constructor
 ·intro hc;obtain⟨i,hi⟩:=yQ.1 hc;have hl:=W6 hi;have hl':i<o'.length:=by have:=h.len;omega
  have hd:=zP hl';rw[Jc ha hb ht hk (h.k i c _ hi hd)];exact zT hl'
 intro hd;obtain⟨i,hi⟩:=yQ.1 hd;have hl:=W6 hi;have hl':i<o.length:=by have:=h.len;omega
 have hc:=zP hl';rw[Fc ha hb ht hk (h.k i _ d hc hi)];exact zT hl'
theorem LkO.step{o o':List Nat}(h:LkO a b o o'){c d:Nat}(hk:z0b a b c d):LkO a b (D0 o c) (D0 o' d):=by
 unfold D0;have hm:=h.mem ha hb ht hk;by_cases hc:c∈o
 ·rw[if_pos hc,if_pos (hm.1 hc)];exact h
 rw[if_neg hc,if_neg (λhd=>hc (hm.2 hd))];refine⟨by simp[h.len],λi x y hx hy=>?_⟩;by_cases hi:i<o.length
 ·rw[zI hi]at hx;rw[zI (by rw[<-h.len];exact hi)]at hy;exact h.k i x y hx hy
 have z1:=W6 hx;simp at z1;have:i=o.length:=by omega
 subst this;rw[zO (by omega)]at hx;rw[zO (by rw[h.len];omega)]at hy;simp[h.len]at hx hy;rw[<-hx,<-hy];exact hk
theorem v0m{c d:Nat}(h:z0b a b c d):(Ym a c).map (·.on)=(Ym b d).map (·.on)/\∀(i:Nat) (m k:Mv),(Ym a c)[i]?=some m->(Ym b d)[i]?=some k->m.on=k.on/\z0b a b m.dst.toNat k.dst.toNat:=by
 have hs:=Yc ha h.1;have z7:=Yc hb h.2.1;obtain⟨g1,s1⟩:=Yb ha (clA a) hs;obtain⟨g2,s2⟩:=Yb hb (clA b) z7;have key:∀x,Q8 a x->z0b a b (Wt a (toL a (Tp a c) x)) (Wt b (toL b (Tp b d) x)):=λx hx=>
  z1s ha hb ht (ha.next hs hx).1 (hb.next z7 ((Wx ht).2 hx)).1 (h.2.2.step hx)
 have z6:∀(m:Mv) (k:Mv) (x:Sy),m∈Ym a c->k∈Ym b d->Q8 a x->PM m.on x.ty.toNat x.num->PM k.on x.ty.toNat x.num->m.on=k.on/\z0b a b m.dst.toNat k.dst.toNat:=by
  intro m k x hm hk hx p1 p2;obtain⟨u,hu⟩:=g1.dst m hm;obtain⟨v,hv⟩:=g2.dst k hk;have zb:∀(z:Sy),Q8 a z->(PM m.on z.ty.toNat z.num↔Wt a (toL a (Tp a c) z)=u):=λz hz=>by
   rw[g1.mem m hm u hu,Ow ha hs];constructor
   ·rintro⟨z',zc,e1,e2,e3⟩;rw[<-z27 zc hz e1 e2];exact e3
   intro e;exact⟨z,hz,rfl,rfl,e⟩
  have zd:∀(z:Sy),Q8 a z->(PM k.on z.ty.toNat z.num↔Wt b (toL b (Tp b d) z)=v):=λz hz=>by
   rw[g2.mem k hk v hv,Ow hb z7];constructor
   ·rintro⟨z',zc,e1,e2,e3⟩;rw[<-z27 zc ((Wx ht).2 hz) e1 e2];exact e3
   intro e;exact⟨z,(Wx ht).2 hz,rfl,rfl,e⟩
  have ze:z0b a b u v:=by have:=key x hx;rw[(zb x hx).1 p1,(zd x hx).1 p2]at this;exact this
  have zf:=g2.wf k hk;rw[ht]at zf;refine⟨Il (g1.wf m hm) zf λt n=>?_,by rw[hu,hv];simpa using ze⟩;have zg:∀ {p:Prd},PWf a.types.toNat p->PM p t n->Q8 a ⟨t,n⟩:=λhp zh=>by obtain⟨zm,zi⟩:=hp.lt zh;exact⟨⟨by simp,by have:=ha.ok.types;simp;omega⟩,zi⟩
  constructor
  ·intro hp;have hz:=zg (g1.wf m hm) hp;have e1:=(zb ⟨t,n⟩ hz).1 (by simpa using hp);have:=key ⟨t,n⟩ hz;rw[e1]at this;have e2:=Jc ha hb ht this ze;simpa using(zd ⟨t,n⟩ hz).2 e2
  intro hp;have hz:=zg zf hp;have e1:=(zd ⟨t,n⟩ hz).1 (by simpa using hp);have:=key ⟨t,n⟩ hz;rw[e1]at this;have e2:=Fc ha hb ht this ze;simpa using(zb ⟨t,n⟩ hz).2 e2
 have zj:∀m∈Ym a c,∃k∈Ym b d,∃x,Q8 a x/\PM m.on x.ty.toNat x.num/\PM k.on x.ty.toNat x.num:=λm hm=>by obtain⟨x,hx,_,_,_,hp⟩:=Um ha h.1 hm;have za:=(Wx ht).2 hx;obtain⟨k,hk,e⟩:=g2.all _ x.ty.toNat x.num ((Ow hb z7).2 ⟨x,za,rfl,rfl,rfl⟩);exact⟨k,hk,x,hx,hp,(g2.mem k hk _ e _ _).2 ((Ow hb z7).2 ⟨x,za,rfl,rfl,rfl⟩)⟩
 have z8:∀k∈Ym b d,∃m∈Ym a c,∃x,Q8 a x/\PM m.on x.ty.toNat x.num/\PM k.on x.ty.toNat x.num:=λk hk=>by obtain⟨x,za,_,_,_,hp⟩:=Um hb h.2.1 hk;have hx:=(Wx ht).1 za;obtain⟨m,hm,e⟩:=g1.all _ x.ty.toNat x.num ((Ow ha hs).2 ⟨x,hx,rfl,rfl,rfl⟩);exact⟨m,hm,x,hx,(g1.mem m hm _ e _ _).2 ((Ow ha hs).2 ⟨x,hx,rfl,rfl,rfl⟩),hp⟩
 have z1:(Ym a c).map (·.on)=(Ym b d).map (·.on):=by
  refine q2b (λp:Prd=>Qy p 0) (xS.2 s1) (xS.2 s2) λp=>?_;constructor
  ·intro hp;obtain⟨m,hm,rfl⟩:=zU.1 hp;obtain⟨k,hk,x,hx,p1,p2⟩:=zj m hm;exact zU.2 ⟨k,hk,(z6 m k x hm hk hx p1 p2).1.symm⟩
  intro hp;obtain⟨k,hk,rfl⟩:=zU.1 hp;obtain⟨m,hm,x,hx,p1,p2⟩:=z8 k hk;exact zU.2 ⟨m,hm,(z6 m k x hm hk hx p1 p2).1⟩
 refine⟨z1,λi m k hi hk=>?_⟩;have zk:m.on=k.on:=by have e:=congrArg (λl=>l[i]?) z1;simp only[List.getElem?_map,hi,hk,wP,Option.some.injEq]at e;exact e
 have hm:=zL hi;have zl:=zL hk;obtain⟨x,hx,_,_,_,hp⟩:=Um ha h.1 hm;exact z6 m k x hm zl hx hp (zk▸hp)
theorem LkO.all:∀(l l':List Mv) (o o':List Nat),l.length=l'.length->(∀(i:Nat) (m k:Mv),l[i]?=some m->l'[i]?=some k->z0b a b m.dst.toNat k.dst.toNat)->LkO a b o o'->LkO a b (Wh o l) (Wh o' l')
 |[],[],_,_,_,_,h=>h
 |[],_::_,_,_,hl,_,_=>by simp at hl
 |_::_,[],_,_,hl,_,_=>by simp at hl
 |m::l,k::l',o,o',hl,hk,h=>LkO.all l l' _ _ (by simpa using hl) (λi x y hx hy=>hk (i+1) x y (by simpa using hx) (by simpa using hy)) (h.step ha hb ht (hk 0 m k rfl rfl))
theorem LkO.bfs:∀(f n:Nat) (o o':List Nat),LkO a b o o'->LkO a b (Y3 a f n o) (Y3 b f n o')
 |0,_,_,_,h=>h
 |f+1,n,o,o',h=>by
  unfold Y3;cases hc:o[n]? with
  |none=>
   have:o'[n]? =none:=by rw[th]at hc |-;rw[<-h.len];exact hc
   rw[this];exact h
  |some c=>
   have hl:=W6 hc;have hl':n<o'.length:=by rw[<-h.len];exact hl
   rw[zP hl'];simp only;have hk:=h.k n c _ hc (zP hl');obtain⟨e1,e2⟩:=v0m ha hb ht hk;have hlen:(Ym a c).length=(Ym b o'[n]).length:=by have:=congrArg up e1;simpa using this
   exact LkO.bfs f (n+1) _ _ (LkO.all ha hb ht _ _ _ _ hlen (λi m k hi hk=>(e2 i m k hi hk).2) h)
end
def Ax{a:Aut}(ha:Dfa a):∀(f n:Nat) (o:List Nat),a.fin.length+1<=n+f->n<=o.length->o.Nodup->(∀c∈o,G9 a c)->∀g,Y3 a (f+g) n o=Y3 a f n o
 |0,n,o,hf,hn,z6,z1,g=>by have:=Cq ha z6 z1;omega
 |f+1,n,o,hf,hn,z6,z1,g=>by
  have e:f+1+g=(f+g)+1:=by omega
  rw[e];unfold Y3;cases hon:o[n]? with
  |none=>rfl
  |some c=>
   simp only;have z8:=W6 hon;obtain⟨⟨r,h1,h2⟩,h3,h4⟩:=Yu (Ym a c) o z6;have z7:=z1 c (zL hon);refine Ax ha f (n+1) _ (by omega) (by rw[h1,yP];omega) h3 (λd hd=>?_) g;rw[h1]at hd;rcases yB.1 hd with hd|hd
   ·exact z1 d hd
   obtain⟨m,hm,e⟩:=h2 d hd;obtain⟨x,_,e2,_,e4,_⟩:=Um ha z7 hm;rw[e,e2];simpa using e4
def f1y{a b:Aut}(ha:Dfa a)(hb:Dfa b)(ht:b.types=a.types){o o':List Nat}(h:LkO a b o o'){c d:Nat}(hk:z0b a b c d):F6 o c=F6 o' d:=by
 have z1:∀(i:Nat) (x y:Nat),o[i]?=some x->o'[i]?=some y->(decide (x=c)=decide (y=d)):=λi x y hx hy=>by
  have:=h.k i x y hx hy;rw[decide_eq_decide];constructor
  ·intro e;subst e;exact Jc ha hb ht this hk
  intro e;subst e;exact Fc ha hb ht this hk
 have key:∀(o o':List Nat),o.length=o'.length->(∀(i:Nat) (x y:Nat),o[i]?=some x->o'[i]?=some y->(decide (x=c)=decide (y=d)))->(o.findIdx? λe=>decide (e=c))=(o'.findIdx? λe=>decide (e=d)):=by
  intro o;induction o with
  |nil=>
   intro o' hl _;cases o' with
   |nil=>rfl
   |cons y o'=>simp at hl
  |cons x o ih=>
   intro o' hl hf;cases o' with
   |nil=>simp at hl
   |cons y o'=>rw[tN,tN,hf 0 x y rfl rfl,ih o' (by simpa using hl) λi u v hu hv=>hf (i+1) u v (by simpa using hu) (by simpa using hv)]
 unfold F6;rw[key o o' h.len z1]
def g0r{a b:Aut}(ha:Dfa a)(hb:Dfa b)(ht:b.types=a.types)(hw:eqW a b 0 0):Q4 a=Q4 b:=by
 have h0:LkO a b [Wt a 0] [Wt b 0]:=⟨rfl,λi c d hc hd=>by
  have hi:=W6 hc;simp at hi;subst hi;simp at hc hd;rw[<-hc,<-hd];exact z1s ha hb ht ha.zero hb.zero hw⟩
 have z1:∀ {x:Aut},Dfa x->∀c∈[Wt x 0],G9 x c:=λhx c hc=>by rw[zV.1 hc];exact Ac hx hx.zero
 have hL:LkO a b (Ur a) (Ur b):=by have h1:=LkO.bfs ha hb ht (a.fin.length+1+b.fin.length) 0 _ _ h0;rw[show a.fin.length+1+b.fin.length=b.fin.length+1+a.fin.length by omega]at h1;have e2:=Ax hb (b.fin.length+1) 0 [Wt b 0] (by omega) (by simp) (by simp) (z1 hb) a.fin.length;rw[e2,show b.fin.length+1+a.fin.length=a.fin.length+1+b.fin.length by omega,Ax ha (a.fin.length+1) 0 [Wt a 0] (by omega) (by simp) (by simp) (z1 ha) b.fin.length]at h1;exact h1
 have z7:∀n,n<(Ur a).length->mvN a (Ur a) n=mvN b (Ur b) n:=λn hn=>by
  have z6:n<(Ur b).length:=by rw[<-hL.len];exact hn
  have hk:=hL.k n _ _ (zP hn) (zP z6);obtain⟨e1,e2⟩:=v0m ha hb ht hk;have g1:(Ur a).getD n 0=(Ur a)[n]:=by simp[yV,hn]
  have g2:(Ur b).getD n 0=(Ur b)[n]:=by simp[yV,z6]
  unfold mvN;rw[g1,g2];have hlen:(Ym a (Ur a)[n]).length=(Ym b (Ur b)[n]).length:=by have:=congrArg up e1;simpa using this
  refine wG (by simpa using hlen) λi h1 h2=>?_;simp only[yL]at h1 h2;obtain⟨e3,e4⟩:=e2 i _ _ (zP h1) (zP h2);simp only[te];rw[e3,f1y ha hb ht hL e4]
 unfold Q4 Ae;rw[ht]
 congr 1
 ·refine wG (by simpa using hL.len) λi h1 h2=>?_;simp only[yL]at h1 h2;have hk:=hL.k i _ _ (zP h1) (zP h2);simp only[te];have:=hk.2.2 [] (by simp);simpa[Zf,stF]using this
 rw[<-hL.len];rw[tf,tf]
 congr 1
 exact xH λn hn=>z7 n (xD.1 hn)
end
section
def u2v{α:Type}{l:List α}(h:l.Nodup){i j:Nat}(hi:i<l.length)(hj:j<l.length)(e:l[i]=l[j]):i=j:=by
 rcases wZ i j with k|k|k
 ·exact absurd e (yU.1 h i j hi hj k)
 ·exact k
 exact absurd e.symm (yU.1 h j i hj hi k)
def Xt{o:List Nat}(hn:o.Nodup){i c:Nat}(h:o[i]?=some c):F6 o c=i:=by
 unfold F6;have:(o.findIdx? λd=>decide (d=c))=some i:=g0z h (by simp) λi j x y hx hy e1 e2=>by
  have e3:x=c:=by simpa using e1
  have e4:y=c:=by simpa using e2
  subst e3 e4;obtain⟨hi,e5⟩:=zE.1 hx;obtain⟨hj,e6⟩:=zE.1 hy;exact u2v hn hi hj (e5.trans e6.symm)
 rw[this];rfl
def Ck{o:List Nat}(hn:o.Nodup){c:Nat}(h:c∈o):o[F6 o c]?=some c:=by obtain⟨i,hi⟩:=yQ.1 h;rw[Xt hn hi];exact hi
def Li{a:Aut}(ha:Dfa a):∀(f n:Nat) (o:List Nat),(∀c∈o,G9 a c)->(∀c∈o,∃w,(∀x∈w,Q8 a x)/\Wt a (stF a 0 w)=c)->o.Nodup->∀c∈Y3 a f n o,∃w,(∀x∈w,Q8 a x)/\Wt a (stF a 0 w)=c
 |0,_,_,_,h,_=>h
 |f+1,n,o,z6,h,hnd=>by
  unfold Y3;cases hon:o[n]? with
  |none=>exact h
  |some c=>
   simp only;obtain⟨⟨r,h1,h2⟩,h3,h4⟩:=Yu (Ym a c) o hnd;have z7:=zL hon;have z8:=z6 c z7;have z1:∀d∈Wh o (Ym a c),d∈o\/∃x,Q8 a x/\d=Wt a (toL a (Tp a c) x)/\G9 a d:=λd hd=>by
    rw[h1]at hd;rcases yB.1 hd with hd|hd
    ·exact .inl hd
    obtain⟨m,hm,e⟩:=h2 d hd;obtain⟨x,hx,e2,_,e4,_⟩:=Um ha z8 hm;rw[e2]at e;simp only[v_]at e;exact .inr ⟨x,hx,e,e▸e4⟩
   refine Li ha f (n+1) _ (λd hd=>?_) (λd hd=>?_) h3
   ·rcases z1 d hd with k|⟨_,_,_,k⟩
    ·exact z6 d k
    exact k
   rcases z1 d hd with k|⟨x,hx,e,_⟩
   ·exact h d k
   obtain⟨w,hw,ew⟩:=h c z7;have za:=(ha.run w 0 ha.zero hw).1;refine⟨w++[x],λy hy=>?_,?_⟩
   ·rcases yB.1 hy with hy|hy
    ·exact hw y hy
    rw[zV.1 hy];exact hx
   have e5:stF a 0 (w++[x])=toL a (stF a 0 w) x:=by simp[stF,wJ]
   rw[e5,e];rw[Jj ha (ha.next za hx).1 (ha.next (Yc ha z8) hx).1];have:=(Zm ha za).symm;rw[ew]at this;exact this.step hx
def f0w{a:Aut}(ha:Dfa a):∀c∈Ur a,∃w,(∀x∈w,Q8 a x)/\Wt a (stF a 0 w)=c:=
 Li ha _ 0 _ (λc hc=>by rw[zV.1 hc];exact Ac ha ha.zero) (λc hc=>⟨[],by simp,by rw[zV.1 hc];rfl⟩) (by simp)
def Og{a:Aut}{o:List Nat}{m:Mv}:m∈(Ae a o).mv↔∃(n c:Nat),o[n]?=some c/\∃k∈Ym a c,m=⟨n,(F6 o k.dst.toNat:Int),k.on⟩:=by
 unfold Ae mvN;simp only[xZ,xD,zU];constructor
 ·rintro⟨n,hn,k,hk,rfl⟩;have e:o.getD n 0=o[n]:=by simp[yV,hn]
  rw[e]at hk;exact⟨n,_,zP hn,k,hk,rfl⟩
 rintro⟨n,c,hn,k,hk,rfl⟩;have e:o.getD n 0=c:=by simp[yV,hn]
 exact⟨n,W6 hn,k,by rw[e];exact hk,rfl⟩
def S7{a:Aut}(o:List Nat):(Ae a o).fin.length=o.length:=by simp[Ae]
def Ju(a:Aut):(Q4 a).types=a.types:=rfl
def Xs{a:Aut}(ha:Dfa a):WfA (Q4 a):=by
 have ho:=Ru ha;have z1:(Q4 a).fin.length=(Ur a).length:=S7 _;have z6:=W6 ho.first;refine⟨ha.ok.types,by omega,λm hm=>?_,λm hm=>?_,λm hm=>?_⟩
 ·obtain⟨n,c,hn,k,hk,rfl⟩:=Og.1 hm;have:=W6 hn;rw[z1];exact⟨by simp,by simpa using this⟩
 ·obtain⟨n,c,hn,k,hk,rfl⟩:=Og.1 hm;have:=W6 (Ck ho.nd (ho.closed c (zL hn) k hk));rw[z1];exact⟨by simp,by simpa using this⟩
 obtain⟨n,c,hn,k,hk,rfl⟩:=Og.1 hm;exact(Yb ha (clA a) (Yc ha (ho.cl c (zL hn)))).1.wf k hk
def u0h{a:Aut}(ha:Dfa a):z0x (Q4 a):=λs h0 h1 x hx=>by
 have ho:=Ru ha;have z6:(Q4 a).fin.length=(Ur a).length:=S7 _;have z1:Q8 a x:=hx;have hn:s.toNat<(Ur a).length:=by omega
 have hc:=ho.cl _ (zT hn);have hs:=Yc ha hc;have h:=(Yb ha (clA a) hs).1;have hd:Gb a (clA a) (Tp a (Ur a)[s.toNat]) (Wt a (toL a (Tp a (Ur a)[s.toNat]) x)) x.ty.toNat x.num:=(Ow ha hs).2 ⟨x,z1,rfl,rfl,rfl⟩;obtain⟨k,hk,e⟩:=h.all _ _ _ hd;have hm:=Og.2 ⟨s.toNat,_,zP hn,k,hk,rfl⟩;refine⟨_,hm,by simp;omega,?_⟩;exact(Rh (Xs ha) hm hx).2 ((h.mem k hk _ e _ _).2 hd)
def q18{a:Aut}(ha:Dfa a):Ah (Q4 a):=by
 have ho:=Ru ha;unfold Ah Q4 Ae;simp only;rw[vN];have hg:∀n,n<(Ur a).length->(Ur a).getD n 0=(Ur a)[n]?.getD 0:=λn hn=>by simp[yV]
 constructor
 ·intro n hn;have z1:=xD.1 hn;have hc:=ho.cl _ (zT z1);have hs:=Yc ha hc;have h:=(Yb ha (clA a) hs).1;have e:(Ur a).getD n 0=(Ur a)[n]:=by simp[yV,z1]
  unfold mvN;rw[e];refine xS.2 (h.nd.imp_of_mem λ{m k} hm hk hne _ x hx=>?_);rintro⟨h1,h2⟩;have z6:Q8 a x:=hx;have p1:=(Ep (h.wf m hm).1 x z6.1.1).1 h1;have p2:=(Ep (h.wf k hk).1 x z6.1.1).1 h2;obtain⟨u,hu⟩:=h.dst m hm;obtain⟨v,hv⟩:=h.dst k hk;have:=X5 ha hs ((h.mem m hm u hu _ _).1 p1) ((h.mem k hk v hv _ _).1 p2);exact hne (by rw[hu,hv,this])
 refine yU.2 λi j hi hj z7 m hm k hk e=>?_;simp only[List.getElem_range]at hm hk;unfold mvN at hm hk;obtain⟨m',_,rfl⟩:=zU.1 hm;obtain⟨k',_,rfl⟩:=zU.1 hk;simp at e;omega
def A9{α β:Type}(rs:List β)(hn:rs.Nodup)(p:β->α->Bool)(hp:∀s t x,p s x=true->p t x=true->s=t):∀l:List α,(rs.map λs=>(l.filter (p s)).length).sum<=l.length
 |[]=>by have:(rs.map λs=>(([]:List α).filter (p s)).length)=rs.map λ_=>0:=xH λs _=>rfl;rw[this,ub];simp
 |x::l=>by
  have ih:=A9 rs hn p hp l;have key:∀(rs:List β),rs.Nodup->(rs.map λs=>((x::l).filter (p s)).length).sum<=(rs.map λs=>(l.filter (p s)).length).sum+(bif rs.any (λs=>p s x)then 1 else 0):=by
   intro rs;induction rs with
   |nil=>intro _;simp
   |cons s rs ih2=>
    intro z1;obtain⟨z6,z7⟩:=uQ.1 z1;have:=ih2 z7;simp only[xR,ss,List.any_cons];by_cases hps:p s x=true
    ·have z8:rs.any (λs=>p s x)=false:=by rw[List.any_eq_false];intro t ht za;exact z6 (hp s t x hps za▸ht)
     rw[z8]at this;rw[List.filter_cons_of_pos hps,hps];simp only[Bool.true_or,cond_true,cond_false,xI]at this |-;omega
    rw[List.filter_cons_of_neg hps,show p s x=false by simpa using hps];simp only[Bool.false_or];omega
  have:=key rs hn;rw[xI];cases hc:rs.any (λs=>p s x)<;>rw[hc]at this<;>simp only[cond_true,cond_false]at this<;>omega
def k1d(a:Aut)(cl:List Nat)(s:Int):(v2v a cl s).length<=(Wa a s).length:=by
 have h1:∀(n:Nat) (g:List Mv) (to:Nat) (c:Prd),(Yi n g to c).length<=g.length+1:=λn g to c=>by
  unfold Yi;split
  ·simp
  split<;>simp
 have h2:∀(r g:List Mv),(r.foldl (λg m=>Yi 0 g (clD cl m) m.on) g).length<=g.length+r.length:=by
  intro r;induction r with
  |nil=>intro g;simp
  |cons m r ih=>intro g;have e:=ih (Yi 0 g (clD cl m) m.on);have e2:=h1 0 g (clD cl m) m.on;rw[xX,xI];omega
 have:=h2 (Wa a s) [];simpa[v2v]using this
def Cc{a:Aut}(ha:Dfa a){t:Nat}(ht:G9 a t):(Ym a t).length<=(Wa a (Tp a t)).length:=by have h:=Bd ha (clA a) (Tp a t);have hp:=(Lv kyM (v2v a (clA a) (Tp a t)) (h.apart λt' t'' ty y=>X5 ha (Yc ha ht))).1.length_eq;have:=k1d a (clA a) (Tp a t);unfold Ym d1j;omega
def Mi{a:Aut}(ha:Dfa a):(Q4 a).mv.length<=a.mv.length:=by
 have ho:=Ru ha;have z1:∀c∈Ur a,∀d∈Ur a,Tp a c=Tp a d->c=d:=λc hc d hd e=>by have e1:=(Tz ha (ho.cl c hc)).2;have e2:=(Tz ha (ho.cl d hd)).2;rw[<-e1,<-e2,e]
 have hlen:(Q4 a).mv.length=((Ur a).map λc=>(Ym a c).length).sum:=by
  unfold Q4 Ae;simp only[vQ]
  congr 1
  refine wG (by simp) λi h1 h2=>?_;have hi:i<(Ur a).length:=by simpa using h1
  simp[mvN,yV,hi]
 have hle:((Ur a).map λc=>(Ym a c).length).sum<=(((Ur a).map λc=>((Tp a c:Nat):Int)).map λs=>(Wa a s).length).sum:=by
  rw[vV];have key:∀l:List Nat,(∀c∈l,G9 a c)->(l.map λc=>(Ym a c).length).sum<=(l.map ((λs=>(Wa a s).length)∘λc=>((Tp a c:Nat):Int))).sum:=by
   intro l;induction l with
   |nil=>intro _;simp
   |cons c l ih=>intro hc;have h1:=ih λd hd=>hc d (by simp[hd]);have h2:=Cc ha (hc c (by simp));simp only[xR,ss,Function.comp_apply];omega
  exact key _ ho.cl
 have z6:((Ur a).map λc=>((Tp a c:Nat):Int)).Nodup:=by refine xS.2 ?_;refine List.Pairwise.imp_of_mem ?_ ho.nd;intro c d hc hd z7 e;exact z7 (z1 c hc d hd (by omega))
 have:=A9 _ z6 (λs (m:Mv)=>decide (m.src=s) && !Wp m.on) (λs t x h1 h2=>by
  simp only[yJ,decide_eq_true_eq]at h1 h2;rw[<-h1.1,<-h2.1]) a.mv
 rw[hlen];unfold Wa at hle;omega
def g0d{a:Aut}(ha:Dfa a):(Q4 a).fin.length<=a.fin.length:=by have ho:=Ru ha;rw[Q4,S7];exact Cq ha ho.nd ho.cl
def Hn(m:Aut):Bool:=m.mv.any λk=>k.on.any λs=>decide (256<s.length)
def k0v{a:Aut}(ha:Dfa a):V3 (Q4 a)=Hn (Q4 a):=by have h1:=g0d ha;have h2:=Mi ha;have h3:=ha.ok.fin;have h4:=ha.ok.mvs;unfold V3 Hn;rw[decide_eq_false (by omega),decide_eq_false (by omega)];simp
def Hr{a:Aut}(ha:Dfa a)(hb:Hn (Q4 a)=false):Dfa (Q4 a):=
 ⟨(Yh _).1 ((c1x (Xs ha)).2 (by rw[k0v ha];exact hb)),q18 ha,u0h ha⟩
section
variable {a:Aut} (ha:Dfa a) (hb:Hn (Q4 a)=false)
include ha hb
theorem x0f{n c:Nat}(hn:(Ur a)[n]?=some c){x:Sy}(hx:Q8 a x):toL (Q4 a) n x=(F6 (Ur a) (Wt a (toL a (Tp a c) x)):Nat)/\Wt a (toL a (Tp a c) x)∈Ur a:=by have ho:=Ru ha;have hd:=Hr ha hb;have hc:=ho.cl _ (zL hn);have hs:=Yc ha hc;have h:=(Yb ha (clA a) hs).1;have z6:Gb a (clA a) (Tp a c) (Wt a (toL a (Tp a c) x)) x.ty.toNat x.num:=(Ow ha hs).2 ⟨x,hx,rfl,rfl,rfl⟩;obtain⟨k,hk,e⟩:=h.all _ _ _ z6;have hm:=Og.2 ⟨n,c,hn,k,hk,rfl⟩;have z1:=ho.closed c (zL hn) k hk;rw[e]at z1;simp only[v_]at z1;refine⟨?_,z1⟩;have:=hd.to_of hm (x:=x) hx ((Rh hd.ok.wfA hm hx).2 ((h.mem k hk _ e _ _).2 z6));simp only[e,v_]at this;exact this
theorem Ly:∀(w:List Sy) {n c:Nat},(Ur a)[n]?=some c->(∀x∈w,Q8 a x)->Zf (Q4 a) n w=Zf a (Tp a c) w
 |[],n,c,hn,_=>by simp only[Zf,stF,tt,v_];simp[Q4,Ae,yV,hn]
 |x::w,n,c,hn,hw=>by have hx:=hw x (by simp);have ho:=Ru ha;obtain⟨h1,h2⟩:=x0f ha hb hn hx;have ih:=Ly w (Ck ho.nd h2) (λy hy=>hw y (by simp[hy]));have hc:=ho.cl _ (zL hn);have z1:=(ha.next (Yc ha hc) hx).1;have e:=Zm ha z1 w (λy hy=>hw y (by simp[hy]));have e1:Zf (Q4 a) n (x::w)=Zf (Q4 a) (toL (Q4 a) n x) w:=rfl;have e2:Zf a (Tp a c) (x::w)=Zf a (toL a (Tp a c) x) w:=rfl;rw[e1,e2,h1,ih,e]
theorem u0g:eqW (Q4 a) a 0 0:=λw hw=>by have ho:=Ru ha;have h1:=Ly ha hb w ho.first hw;have h2:=Zm ha ha.zero w hw;simp only[Int.cast_ofNat_Int]at h1;exact h1.trans h2
theorem q1y{w:List Sy}(hw:∀x∈w,Q8 a x):Ro (Q4 a) w=Ro a w:=by rw[(Hr ha hb).acc (w:=w) hw,ha.acc hw];exact u0g ha hb w hw
theorem v1r:∀(w:List Sy),(∀x∈w,Q8 a x)->Wt a (stF a 0 w)∈Ur a/\stF (Q4 a) 0 w=(F6 (Ur a) (Wt a (stF a 0 w)):Nat):=by
 have ho:=Ru ha;have key:∀(w:List Sy) (n c:Nat) (s:Int),(Ur a)[n]?=some c->inS a s->Wt a s=c->(∀x∈w,Q8 a x)->Wt a (stF a s w)∈Ur a/\stF (Q4 a) n w=(F6 (Ur a) (Wt a (stF a s w)):Nat):=by
  intro w;induction w with
  |nil=>intro n c s hn hs hc _;simp only[stF,tt];rw[hc];exact⟨zL hn,by rw[Xt ho.nd hn]⟩
  |cons x w ih=>
   intro n c s hn hs hc hw;have hx:=hw x (by simp);obtain⟨h1,h2⟩:=x0f ha hb hn hx;have z1:=ho.cl _ (zL hn);have e:Wt a (toL a (Tp a c) x)=Wt a (toL a s x):=by rw[Jj ha (ha.next (Yc ha z1) hx).1 (ha.next hs hx).1];have:=Zm ha hs;rw[hc]at this;exact this.step hx
   rw[e]at h1 h2;have:=ih _ _ (toL a s x) (Ck ho.nd h2) (ha.next hs hx).1 rfl (λy hy=>hw y (by simp[hy]));have e1:stF a s (x::w)=stF a (toL a s x) w:=rfl;have e2:stF (Q4 a) n (x::w)=stF (Q4 a) (toL (Q4 a) n x) w:=rfl;rw[e1,e2,h1];exact this
 intro w hw;have:=key w 0 _ 0 ho.first ha.zero rfl hw;simpa using this
theorem j0l{n:Nat}(hn:n<(Q4 a).fin.length):∃w,(∀x∈w,Q8 a x)/\stF (Q4 a) 0 w=n:=by have ho:=Ru ha;rw[Q4,S7]at hn;obtain⟨w,hw,e⟩:=f0w ha _ (zT hn);have:=(v1r ha hb w hw).2;rw[e,Xt ho.nd (zP hn)]at this;exact⟨w,hw,this⟩
end
def Ab(a:Aut):Int×Aut:=if(Ed a).1≠0 then((Ed a).1,Iq)else if(Du (Ed a).2).1≠0 then((Du (Ed a).2).1,Iq)else
 if Hn (Q4 (Du (Ed a).2).2)then(5,Iq)else(0,Q4 (Du (Ed a).2).2)
def d0b{a d c:Aut}(h:OkA a)(hd:Ed a=(0,d))(hc:Du d=(0,c)):Dfa c/\c.types=a.types/\∀w,(∀x∈w,Q8 a x)->Ro c w=Ro a w:=by obtain⟨Q,_,_,_,_,_,z1,ddet,z6,dacc⟩:=Ul h hd;obtain⟨z7,z8,cfull,cdet,cacc⟩:=u1f z1 hc;exact⟨⟨z7,cdet ddet,cfull⟩,z8.trans z6,λw hw=>(cacc w).trans (dacc w hw)⟩
def G5{a m:Aut}(h:OkA a)(hm:Ab a=(0,m)):∃c,Dfa c/\c.types=a.types/\m=Q4 c/\Hn (Q4 c)=false/\∀w,(∀x∈w,Q8 a x)->Ro c w=Ro a w:=by
 unfold Ab at hm;split at hm
 ·rename_i hd;exact absurd (tu.1 hm).1 hd
 rename_i hd;split at hm
 ·rename_i hc;exact absurd (tu.1 hm).1 hc
 rename_i hc;split at hm
 ·simp at hm
 rename_i hb;obtain⟨h1,h2,h3⟩:=d0b h (d:=(Ed a).2) (c:=(Du (Ed a).2).2) (un (by simpa using hd) rfl) (un (by simpa using hc) rfl);exact⟨_,h1,h2,(tu.1 hm).2.symm,by simpa using hb,h3⟩
def z0k{a:Aut}(h:OkA a):(Ab a).1=0\/(Ab a).1=5:=by
 unfold Ab;split
 ·rename_i hd;rcases q09 h with k|k
  ·exact absurd k hd
  exact .inr k
 split
 ·rename_i hc;rcases x26 (Ed a).2 with k|k
  ·exact absurd k hc
  exact .inr k
 split
 ·exact .inr rfl
 exact .inl rfl
def y0j{a b m:Aut}(ha:OkA a)(hb:OkA b)(ht:b.types=a.types)(hw:∀w,(∀x∈w,Q8 a x)->Ro a w=Ro b w){n:Aut}(hm:Ab a=(0,m))(hn:Ab b=(0,n)):m=n:=by
 obtain⟨c,c1,c2,rfl,c4,c5⟩:=G5 ha hm;obtain⟨d,d1,d2,rfl,d4,d5⟩:=G5 hb hn;have z6:d.types=c.types:=by rw[d2,ht,c2]
 refine g0r c1 d1 z6 λw z1=>?_;have h1:∀x∈w,Q8 a x:=λx hx=>(Wx c2).1 (z1 x hx);have h2:∀x∈w,Q8 b x:=λx hx=>(Wx ht).2 (h1 x hx);have h3:∀x∈w,Q8 d x:=λx hx=>(Wx z6).2 (z1 x hx);rw[<-c1.acc z1,<-d1.acc h3,c5 w h1,d5 w h2];exact hw w h1
def Ki{a m:Aut}(ha:OkA a)(hm:Ab a=(0,m)):OkA m/\Dfa m/\m.types=a.types/\(∀w,(∀x∈w,Q8 a x)->Ro m w=Ro a w)/\((Ab m).1=5\/Ab m=(0,m)):=by
 obtain⟨c,c1,c2,rfl,c4,c5⟩:=G5 ha hm;have hd:=Hr c1 c4;have z1:∀w,(∀x∈w,Q8 a x)->Ro (Q4 c) w=Ro a w:=λw hw=>by rw[q1y c1 c4 (λx hx=>(Wx c2).2 (hw x hx))];exact c5 w hw
 refine⟨hd.ok,hd,c2,z1,?_⟩;rcases z0k hd.ok with h0|h5
 ·obtain⟨n,hn⟩:∃n,Ab (Q4 c)=(0,n):=⟨_,un h0 rfl⟩
  have:=y0j ha hd.ok c2 (λw hw=>(z1 w hw).symm) hm hn;exact .inr (by rw[hn,<-this])
 exact .inl h5
end
def addI(o:List Int)(c:Int):List Int:=if c∈o then o else o++[c]
structure Dta (a:Aut):Prop where
 ok:OkA a
 det:Ah a
def f2z{α:Type}{R:α->α->Prop}{l:List α}(h:l.Pairwise R){x y:α}(hx:x∈l)(hy:y∈l)(h1:¬R x y)(h2:¬R y x):x=y:=by
 obtain⟨i,hi,rfl⟩:=xE hx;obtain⟨j,hj,rfl⟩:=xE hy;rcases wZ i j with k|k|k
 ·exact absurd (yU.1 h i j hi hj k) h1
 ·subst k;rfl
 exact absurd (yU.1 h j i hj hi k) h2
def Dta.one{a:Aut}(h:Dta a){m k:Mv}(hm:m∈a.mv)(hk:k∈a.mv)(hs:m.src=k.src){x:Sy}(hx:Q8 a x)(h1:Ti m.on x=true)(h2:Ti k.on x=true):m=k:=
 f2z h.det hm hk (λhr=>hr hs x hx ⟨h1,h2⟩) (λhr=>hr hs.symm x hx ⟨h2,h1⟩)
def Dta.to_of{a:Aut}(h:Dta a){m:Mv}(hm:m∈a.mv){x:Sy}(hx:Q8 a x)(hh:Ti m.on x=true):toL a m.src x=m.dst:=by
 unfold toL;cases hf:a.mv.find? (λk=>decide (k.src=m.src) && Ti k.on x)with
 |none=>rw[vU]at hf;have:=hf m hm;simp[hh]at this
 |some k=>have h1:=uY hf;simp only[yJ,decide_eq_true_eq]at h1;rw[h.one (vO hf) hm h1.1 hx h1.2 hh]
def Ua{a:Aut}(s:Int)(x:Sy):(toL a s x= -1/\∀m∈a.mv,m.src=s->Ti m.on x=false)\/∃m∈a.mv,m.src=s/\Ti m.on x=true/\toL a s x=m.dst:=by
 unfold toL;cases hf:a.mv.find? (λk=>decide (k.src=s) && Ti k.on x)with
 |none=>rw[vU]at hf;refine .inl ⟨rfl,λm hm e=>?_⟩;have:=hf m hm;simpa[e]using this
 |some k=>have h1:=uY hf;simp only[yJ,decide_eq_true_eq]at h1;exact .inr ⟨k,vO hf,h1.1,h1.2,rfl⟩
def j0j{a:Aut}(h:OkA a)(s:Int)(x:Sy):toL a s x= -1\/inS a (toL a s x):=by
 rcases Ua (a:=a) s x with⟨h1,_⟩|⟨m,hm,_,_,e⟩
 ·exact .inl h1
 rw[e];exact .inr (h.mv m hm).dst
def wkS(a:Aut)(s:Int):List Sy->Option Int
 |[]=>some s
 |x::w=>if toL a s x<0 then none else wkS a (toL a s x) w
def w0g(a:Aut):∀(w:List Sy) (s:Int) (x:Sy),wkS a s (w++[x])=(wkS a s w).bind λt=>if toL a t x<0 then none else some (toL a t x)
 |[],s,x=>by simp[wkS]
 |y::w,s,x=>by
  rw[List.cons_append,wkS,wkS];split
  ·rfl
  exact w0g a w _ x
def fAt(f:List Int)(s:Int):Int:=f.getD s.toNat (-1)
structure IsoT (a b:Aut) (f:List Int):Prop where
 len:f.length=a.fin.length
 zero:fAt f 0=0
 low:∀q∈f,-1<=q
 fin:∀s,inS a s->0<=fAt f s->a.fin.getD s.toNat false=b.fin.getD (fAt f s).toNat false
 step:∀s,inS a s->0<=fAt f s->∀x,Q8 a x->(toL a s x<0↔toL b (fAt f s) x<0)/\(0<=toL a s x->fAt f (toL a s x)=toL b (fAt f s) x)
 inj:∀s t,inS a s->inS a t->0<=fAt f s->fAt f s=fAt f t->s=t
 reach:∀s,inS a s->0<=fAt f s->∃w,(∀x∈w,Q8 a x)/\wkS a 0 w=some s/\wkS b 0 w=some (fAt f s)
def IsoT.walk{a b:Aut}(ha:OkA a){f:List Int}(h:IsoT a b f):∀(w:List Sy) (s t:Int),(∀x∈w,Q8 a x)->inS a s->0<=fAt f s->wkS a s w=some t->inS a t/\0<=fAt f t/\wkS b (fAt f s) w=some (fAt f t)
 |[],s,t,_,hs,h0,e=>by simp only[wkS,Option.some.injEq]at e;subst e;exact⟨hs,h0,rfl⟩
 |x::w,s,t,hw,hs,h0,e=>by
  rw[wkS]at e;split at e
  ·cases e
  rename_i z1;have hx:=hw x (by simp);obtain⟨h1,h2⟩:=h.step s hs h0 x hx;have hb:¬toL b (fAt f s) x<0:=λk=>z1 (h1.2 k);have h3:=h2 (by omega);have z6:inS a (toL a s x):=(j0j ha s x).resolve_left (by omega);have:=h.walk ha w (toL a s x) t (λy hy=>hw y (by simp[hy])) z6 (by omega) e;rw[wkS,if_neg hb,<-h3];exact this
def z2p{f g:List Int}(hl:f.length=g.length)(h:∀i:Nat,i<f.length->fAt f i=fAt g i):f=g:=by refine wG hl λi h1 h2=>?_;have:=h i h1;simpa[fAt,yV,h1,h2]using this
def w1j{f:List Int}(h:∀q∈f,-1<=q)(s:Int): -1<=fAt f s:=by
 unfold fAt;by_cases hl:s.toNat<f.length
 ·simp only[yV,zP hl,ww];exact h _ (zT hl)
 simp[yV,xF (by omega:f.length<=s.toNat)]
def IsoT.uniq{a b:Aut}(ha:OkA a){f g:List Int}(hf:IsoT a b f)(hg:IsoT a b g):f=g:=by
 have key:∀ {f g:List Int},IsoT a b f->IsoT a b g->∀s,inS a s->0<=fAt f s->fAt g s=fAt f s:=λ{f g} hf hg s hs h0=>by
  obtain⟨w,hw,e1,e2⟩:=hf.reach s hs h0;have hz:inS a 0:=⟨xC _,by have:=ha.fin;omega⟩
  have:=(hg.walk ha w 0 s hw hz (by rw[hg.zero];omega) e1).2.2;rw[hg.zero,e2]at this;exact(Option.some.inj this).symm
 refine z2p (by rw[hf.len,hg.len]) λi hi=>?_;have hs:inS a (i:Int):=Is (by rw[<-hf.len];exact hi);by_cases h1:0<=fAt f i
 ·exact(key hf hg i hs h1).symm
 by_cases h2:0<=fAt g i
 ·exact key hg hf i hs h2
 have:=w1j hf.low i;have:=w1j hg.low i;omega
def Ew(st:List Int×List Int)(e:Int×Int):Option (List Int×List Int):=
 if fAt st.1 e.1=e.2 then some st else if 0<=fAt st.1 e.1\/e.2∈st.1 then none else some (st.1.set e.1.toNat e.2,st.2++[e.1])
def W7:List (Int×Int)->List Int×List Int->Option (List Int×List Int)
 |[],st=>some st
 |e::es,st=>(Ew st e).bind (W7 es)
def q0p(chk:Int->Int->Bool)(ps:Int->Int->List (Int×Int)):Nat->Nat->List Int×List Int->Option (List Int)
 |0,_,st=>some st.1
 |f+1,n,st=>match st.2[n]? with
  |none=>some st.1
  |some p=>if chk p (fAt st.1 p)then(W7 (ps p (fAt st.1 p)) st).bind (q0p chk ps f (n+1))else none
def Kn(a:Aut):List Int×List Int:=((yH a.fin.length (-1)).set 0 0,[0])
structure IsoI (a b:Aut) (st:List Int×List Int):Prop where
 len:st.1.length=a.fin.length
 zero:fAt st.1 0=0
 low:∀q∈st.1,-1<=q
 mem:∀s,s∈st.2↔inS a s/\0<=fAt st.1 s
 nd:st.2.Nodup
 inj:∀s t,inS a s->inS a t->0<=fAt st.1 s->fAt st.1 s=fAt st.1 t->s=t
 reach:∀s,inS a s->0<=fAt st.1 s->∃w,(∀x∈w,Q8 a x)/\wkS a 0 w=some s/\wkS b 0 w=some (fAt st.1 s)
 rng:∀s,inS a s->0<=fAt st.1 s->inS b (fAt st.1 s)
def IsoI.agree{a b:Aut}(ha:OkA a){st:List Int×List Int}(h:IsoI a b st){g:List Int}(hg:IsoT a b g){s:Int}(hs:inS a s)(h0:0<=fAt st.1 s):fAt g s=fAt st.1 s:=by
 obtain⟨w,hw,e1,e2⟩:=h.reach s hs h0;have hz:inS a 0:=⟨xC _,by have:=ha.fin;omega⟩
 have:=(hg.walk ha w 0 s hw hz (by rw[hg.zero];omega) e1).2.2;rw[hg.zero,e2]at this;exact(Option.some.inj this).symm
def z0w{f:List Int}{s t q:Int}(hs:0<=s)(ht:0<=t)(hl:s.toNat<f.length):fAt (f.set s.toNat q) t=if t=s then q else fAt f t:=by
 unfold fAt;by_cases e:t=s
 ·subst e;rw[if_pos rfl];simp[yV,List.getElem?_set_self hl]
 rw[if_neg e];simp only[yV];rw[List.getElem?_set_ne (by omega)]
def IsoI.one{a b:Aut}(ha:OkA a)(hb:OkA b){st:List Int×List Int}(h:IsoI a b st){p:Int}(hp:p∈st.2){x:Sy}(hx:Q8 a x){s t:Int}(hs:toL a p x=s)(ht:toL b (fAt st.1 p) x=t)(s0:0<=s)(t0:0<=t):
  (∃st',Ew st (s,t)=some st'/\IsoI a b st'/\(∀u,inS a u->0<=fAt st.1 u->fAt st'.1 u=fAt st.1 u)/\(∃r,st'.2=st.2++r)/\fAt st'.1 s=t)\/(Ew st (s,t)=none/\¬ ∃g,IsoT a b g):=by
 obtain⟨za,zb⟩:=(h.mem p).1 hp;have z7:inS a s:=(j0j ha p x).elim (λk=>by omega) (λk=>by rw[<-hs];exact k);have zg:inS b t:=(j0j hb (fAt st.1 p) x).elim (λk=>by omega) (λk=>by rw[<-ht];exact k);have zh:s.toNat<st.1.length:=by rw[h.len];have:=z7;unfold inS at this;omega
 have hg:∀g,IsoT a b g->fAt g s=t:=λg hg=>by have e:=h.agree ha hg za zb;have:=(hg.step p za (by rw[e];exact zb) x hx).2 (by rw[hs];exact s0);rw[hs,e,ht]at this;exact this
 unfold Ew;simp only;by_cases h1:fAt st.1 s=t
 ·rw[if_pos h1];exact .inl ⟨st,rfl,h,λ_ _ _=>rfl,⟨[],by simp⟩,h1⟩
 rw[if_neg h1];by_cases h2:0<=fAt st.1 s\/t∈st.1
 ·rw[if_pos h2];refine .inr ⟨rfl,?_⟩;rintro⟨g,z8⟩;have e1:=hg g z8;rcases h2 with h2|h2
  ·have:=h.agree ha z8 z7 h2;exact h1 (this.symm.trans e1)
  obtain⟨i,hi,e2⟩:=xE h2;have zd:inS a (i:Int):=Is (by rw[<-h.len];exact hi);have e3:fAt st.1 (i:Int)=t:=by simpa[fAt,yV,hi]using e2
  have e4:=h.agree ha z8 zd (by rw[e3];exact t0);have e5:=z8.inj s i z7 zd (by rw[e1];exact t0) (by rw[e1,e4,e3]);rw[<-e5]at e3;exact h1 e3
 rw[if_neg h2];have ze:∀u,inS a u->fAt st.1 u≠t:=λu hu e=>by
  refine h2 (.inr ?_);have zf:u.toNat<st.1.length:=by rw[h.len];unfold inS at hu;omega
  unfold fAt at e;simp only[yV,zP zf,ww]at e;rw[<-e];exact zT zf
 have zc:fAt st.1 s<0:=by
  rcases sF (fAt st.1 s) 0 with k|k
  ·exact k
  exact absurd (.inl k) h2
 have z1:∀u,0<=u->fAt (st.1.set s.toNat t) u=if u=s then t else fAt st.1 u:=λu hu=>z0w s0 hu zh
 have zi:∀u,inS a u->0<=u:=λu hu=>hu.1;refine .inl ⟨_,rfl,⟨by simpa using h.len,?_,λq hq=>?_,λu=>?_,?_,λu v hu hv z6 e=>?_,λu hu z6=>?_,λu hu z6=>?_⟩,λu hu z6=>?_,⟨[s],rfl⟩,?_⟩
 ·rw[z1 0 (xC _)];split
  ·rename_i e;exfalso;rw[<-e,h.zero]at zc;omega
  exact h.zero
 ·rcases wU hq with hq|rfl
  ·exact h.low q hq
  omega
 ·simp only[yB,zV];rw[h.mem];constructor
  ·rintro(⟨k1,k2⟩|rfl)
   ·refine⟨k1,?_⟩;rw[z1 u k1.1];split
    ·exact t0
    exact k2
   exact⟨z7,by rw[z1 u s0,if_pos rfl];exact t0⟩
  rintro⟨k1,k2⟩;rw[z1 u k1.1]at k2;by_cases e:u=s
  ·exact .inr e
  rw[if_neg e]at k2;exact .inl ⟨k1,k2⟩
 ·exact vD.2 ⟨h.nd,by simp,λu hu v hv e=>by
   rw[zV.1 hv]at e;subst e;have:=((h.mem u).1 hu).2;omega⟩
 ·rw[z1 u hu.1]at z6 e;rw[z1 v hv.1]at e;by_cases e1:u=s
  ·by_cases e2:v=s
   ·rw[e1,e2]
   rw[if_pos e1,if_neg e2]at e;exact absurd e.symm (ze v hv)
  rw[if_neg e1]at e z6;by_cases e2:v=s
  ·rw[if_pos e2]at e;exact absurd e (ze u hu)
  rw[if_neg e2]at e;exact h.inj u v hu hv z6 e
 ·rw[z1 u hu.1]at z6;by_cases e1:u=s
  ·obtain⟨w,hw,f1,f2⟩:=h.reach p za zb;refine⟨w++[x],λy hy=>?_,?_,?_⟩
   ·rcases yB.1 hy with hy|hy
    ·exact hw y hy
    rw[zV.1 hy];exact hx
   ·rw[w0g,f1];simp only[wL];rw[hs,if_neg (by omega),e1]
   rw[w0g,f2];simp only[wL];rw[ht,if_neg (by omega),z1 u hu.1,if_pos e1]
  rw[if_neg e1]at z6;obtain⟨w,hw,f1,f2⟩:=h.reach u hu z6;exact⟨w,hw,f1,by rw[z1 u hu.1,if_neg e1];exact f2⟩
 ·rw[z1 u hu.1]at z6 |-;by_cases e1:u=s
  ·rw[if_pos e1];exact zg
  rw[if_neg e1]at z6 |-;exact h.rng u hu z6
 ·rw[z1 u hu.1,if_neg];intro e;subst e;omega
 rw[z1 s s0,if_pos rfl]
structure PsOk (a b:Aut) (chk:Int->Int->Bool) (ps:Int->Int->List (Int×Int)):Prop where
 chk:∀p q,inS a p->inS b q->(chk p q=true↔a.fin.getD p.toNat false=b.fin.getD q.toNat false/\∀x,Q8 a x->(toL a p x<0↔toL b q x<0))
 from_:∀p q,inS a p->inS b q->∀e∈ps p q,∃x,Q8 a x/\toL a p x=e.1/\toL b q x=e.2/\0<=e.1/\0<=e.2
 all:∀p q,inS a p->inS b q->∀x,Q8 a x->0<=toL a p x->0<=toL b q x->(toL a p x,toL b q x)∈ps p q
def y09{a b:Aut}(ha:OkA a)(hb:OkA b){p:Int}:∀(es:List (Int×Int)) (st:List Int×List Int) (q:Int),IsoI a b st->p∈st.2->fAt st.1 p=q->(∀e∈es,∃x,Q8 a x/\toL a p x=e.1/\toL b q x=e.2/\0<=e.1/\0<=e.2)->
  (∃st',W7 es st=some st'/\IsoI a b st'/\(∀u,inS a u->0<=fAt st.1 u->fAt st'.1 u=fAt st.1 u)/\(∃r,st'.2=st.2++r)/\∀e∈es,fAt st'.1 e.1=e.2)\/(W7 es st=none/\¬ ∃g,IsoT a b g)
 |[],st,q,h,_,_,_=> .inl ⟨st,rfl,h,λ_ _ _=>rfl,⟨[],by simp⟩,by simp⟩
 |e::es,st,q,h,hp,hq,hes=>by
  obtain⟨x,hx,e1,e2,e3,e4⟩:=hes e (by simp);rcases h.one ha hb hp hx e1 (by rw[hq];exact e2) e3 e4 with⟨st1,g1,g2,g3,⟨r,g4⟩,g5⟩|⟨g1,g2⟩
  ·have z1:=(h.mem p).1 hp;have z6:p∈st1.2:=by rw[g4];exact xB _ hp
   have z7:fAt st1.1 p=q:=by rw[g3 p z1.1 z1.2];exact hq
   have z8:inS a e.1:=(j0j ha p x).elim (λk=>by omega) (λk=>by rw[<-e1];exact k);rcases y09 ha hb es st1 q g2 z6 z7 (λd hd=>hes d (by simp[hd]))with⟨st2,k1,k2,k3,⟨r2,k4⟩,k5⟩|⟨k1,k2⟩
   ·refine .inl ⟨st2,by rw[W7];simp[g1,k1],k2,λu hu h0=>?_,⟨r++r2,by rw[k4,g4,xU]⟩,λd hd=>?_⟩
    ·have:=g3 u hu h0;rw[k3 u hu (by rw[this];exact h0),this]
    rcases yO.1 hd with rfl|hd
    ·rw[k3 d.1 z8 (by rw[g5];exact e4),g5]
    exact k5 d hd
   exact .inr ⟨by rw[W7];simp[g1,k1],k2⟩
  exact .inr ⟨by rw[W7];simp[g1],g2⟩
def w1s{a b:Aut}(ha:OkA a)(hb:OkA b){chk:Int->Int->Bool}{ps:Int->Int->List (Int×Int)}(z1:PsOk a b chk ps):∀(f n:Nat) (st:List Int×List Int),a.fin.length+1<=n+f->n<=st.2.length->IsoI a b st->
  (∀(i:Nat) (p:Int),i<n->st.2[i]?=some p->chk p (fAt st.1 p)=true/\∀e∈ps p (fAt st.1 p),fAt st.1 e.1=e.2)->
  (∃g,q0p chk ps f n st=some g/\IsoT a b g)\/(q0p chk ps f n st=none/\¬ ∃g,IsoT a b g)
 |0,n,st,hf,hn,h,hp=>by
  have:st.2.length<=a.fin.length:=by have:=h.nd.length_le_of_subset (l₂:=Wj a.fin.length) λc hc=>Wo.2 ((h.mem c).1 hc).1;simpa[Wj]using this
  omega
 |f+1,n,st,hf,hn,h,hp=>by
  unfold q0p;cases hon:st.2[n]? with
  |none=>
   have hlen:st.2.length<=n:=by simpa using hon
   have z6:∀s,inS a s->0<=fAt st.1 s->chk s (fAt st.1 s)=true/\∀e∈ps s (fAt st.1 s),fAt st.1 e.1=e.2:=λs hs h0=>by obtain⟨i,hi⟩:=yQ.1 ((h.mem s).2 ⟨hs,h0⟩);exact hp i s (by have:=W6 hi;omega) hi
   refine .inl ⟨st.1,rfl,h.len,h.zero,h.low,λs hs h0=>?_,λs hs h0 x hx=>?_,h.inj,h.reach⟩
   ·exact((z1.chk s _ hs (h.rng s hs h0)).1 (z6 s hs h0).1).1
   have h1:=((z1.chk s _ hs (h.rng s hs h0)).1 (z6 s hs h0).1).2 x hx;refine⟨h1,λze=>?_⟩;have zb:0<=toL b (fAt st.1 s) x:=by
    rcases sF (toL b (fAt st.1 s) x) 0 with k|k
    ·have:=h1.2 k;omega
    exact k
   exact(z6 s hs h0).2 _ (z1.all s _ hs (h.rng s hs h0) x hx ze zb)
  |some p=>
   simp only;have zc:=zL hon;obtain⟨z7,za⟩:=(h.mem p).1 zc;have zd:=h.rng p z7 za;cases hc:chk p (fAt st.1 p)with
   |false=>rw[if_neg (by simp)];refine .inr ⟨rfl,?_⟩;rintro⟨g,hg⟩;have e:=h.agree ha hg z7 za;have h1:=hg.fin p z7 (by rw[e];exact za);have h2:=λx hx=>(hg.step p z7 (by rw[e];exact za) x hx).1;rw[e]at h1 h2;rw[(z1.chk p _ z7 zd).2 ⟨h1,h2⟩]at hc;cases hc
   |true=>
    rw[if_pos rfl];rcases y09 ha hb (ps p (fAt st.1 p)) st _ h zc rfl (z1.from_ p _ z7 zd)with⟨st',g1,g2,g3,⟨r,g4⟩,g5⟩|⟨g1,g2⟩
    ·rw[g1];simp only[wL];have zh:=W6 hon;refine w1s ha hb z1 f (n+1) st' (by omega) (by rw[g4,yP];omega) g2 λi u hi hu=>?_;rw[g4,zI (by omega)]at hu;have z8:=(h.mem u).1 (zL hu);rw[g3 u z8.1 z8.2];by_cases e:i=n
     ·subst e;rw[hon]at hu;cases hu;exact⟨hc,g5⟩
     obtain⟨k1,k2⟩:=hp i u (by omega) hu;refine⟨k1,λd hd=>?_⟩;have zf:=h.rng u z8.1 z8.2;obtain⟨x,_,e1,_,e3,e4⟩:=z1.from_ u _ z8.1 zf d hd;have zg:inS a d.1:=(j0j ha u x).elim (λk=>by omega) (λk=>by rw[<-e1];exact k);have:=k2 d hd;rw[g3 d.1 zg (by rw[this];exact e4),this]
    rw[g1];exact .inr ⟨rfl,g2⟩
def Dt{a b:Aut}(ha:OkA a)(hb:OkA b):IsoI a b (Kn a):=by
 have hf:=ha.fin;have hz:inS a 0:=⟨xC _,by omega⟩
 have z1:∀u,0<=u->fAt (Kn a).1 u=if u=0 then 0 else -1:=λu hu=>by
  have:=z0w (f:=yH a.fin.length (-1)) (s:=0) (t:=u) (q:=0) (xC _) hu (by simp;omega);simp only[Kn];rw[show(0:Int).toNat=0 from rfl]at this;rw[this];split
  ·rfl
  unfold fAt;simp only[yV,List.getElem?_replicate];split<;>rfl
 refine⟨by simp[Kn],by rw[z1 0 (xC _),if_pos rfl],λq hq=>?_,λs=>?_,by simp[Kn],λs t hs ht h0 e=>?_,λs hs h0=>?_,λs hs h0=>?_⟩
 ·rcases wU hq with hq|rfl
  ·rw[List.eq_of_mem_replicate hq];omega
  omega
 ·simp only[Kn,zV];constructor
  ·rintro rfl;exact⟨hz,by have:=z1 0 (xC _);simp only[Kn]at this;rw[this];simp⟩
  rintro⟨h1,h2⟩;have:=z1 s h1.1;simp only[Kn]at this;rw[this]at h2;split at h2
  ·assumption
  omega
 ·rw[z1 s hs.1]at h0 e;rw[z1 t ht.1]at e;split at h0
  ·rename_i e1;rw[if_pos e1]at e;split at e
   ·rename_i e2;rw[e1,e2]
   omega
  omega
 ·rw[z1 s hs.1]at h0;split at h0
  ·rename_i e1;exact⟨[],by simp,by rw[e1];rfl,by rw[z1 s hs.1,if_pos e1];rfl⟩
  omega
 rw[z1 s hs.1]at h0 |-;split at h0
 ·rename_i e1;rw[if_pos e1];exact⟨xC _,by have:=hb.fin;omega⟩
 omega
def c1b{a b:Aut}(ha:OkA a)(hb:OkA b){chk:Int->Int->Bool}{ps:Int->Int->List (Int×Int)}(h:PsOk a b chk ps){f:List Int}(hf:IsoT a b f):q0p chk ps (a.fin.length+1) 0 (Kn a)=some f:=by
 rcases w1s ha hb h (a.fin.length+1) 0 (Kn a) (by omega) (by simp) (Dt ha hb) (λi p hi=>by omega)with⟨g,e1,k1⟩|⟨e1,k1⟩
 ·rw[e1,k1.uniq ha hf]
 exact absurd ⟨f,hf⟩ k1
def g2o(a b:Aut)(p q:Int):Bool:=a.fin.getD p.toNat false==b.fin.getD q.toNat false
def j0v(a:Aut)(p:Int):Prd:=Uw a.types.toNat ((Wa a p).map (·.on))
def c1q(a b:Aut)(p q:Int):Bool:=g2o a b p q && decide (j0v a p=j0v b q)
def psP(a b:Aut)(p q:Int):List (Int×Int):=(Ww a b (p,q)).map (·.2)
def q1j{a:Aut}(h:OkA a)(p:Int):PWf a.types.toNat (j0v a p):=P4 λr hr=>by obtain⟨m,hm,rfl⟩:=zU.1 hr;exact h.wfA.on m (Wz.1 hm).1
def D9{a:Aut}(h:OkA a)(p:Int){x:Sy}(hx:Q8 a x):PM (j0v a p) x.ty.toNat x.num↔0<=toL a p x:=by
 unfold j0v;rw[Fp λr hr=>by
  obtain⟨m,hm,rfl⟩:=zU.1 hr;exact h.wfA.on m (Wz.1 hm).1]
 constructor
 ·rintro⟨r,hr,z1⟩;obtain⟨m,hm,rfl⟩:=zU.1 hr;obtain⟨m1,m2,_⟩:=Wz.1 hm;have hh:=(Rh h.wfA m1 hx).2 z1;rcases Ua (a:=a) p x with⟨_,h2⟩|⟨k,k1,_,_,k4⟩
  ·rw[h2 m m1 m2]at hh;cases hh
  rw[k4];exact(h.mv k k1).dst.1
 intro h0;rcases Ua (a:=a) p x with⟨h1,_⟩|⟨k,k1,k2,k3,k4⟩
 ·omega
 have z1:=(Rh h.wfA k1 hx).1 k3;exact⟨k.on,zU.2 ⟨k,Wz.2 ⟨k1,k2,(Rs (h.wfA.on k k1)).2 ⟨_,_,z1⟩⟩,rfl⟩,z1⟩
def d0m{a b:Aut}(ha:Dta a)(hb:Dta b)(ht:b.types=a.types):PsOk a b (c1q a b) (psP a b):=by
 have z1:∀x,Q8 a x->Q8 b x:=λx hx=>(Wx ht).2 hx;have z6:∀ {m n:Mv},m∈a.mv->n∈b.mv->PWf a.types.toNat m.on/\PWf a.types.toNat n.on:=λhm hn=>⟨ha.ok.wfA.on _ hm,by rw[<-ht];exact hb.ok.wfA.on _ hn⟩
 refine⟨λp q hp hq=>?_,λp q hp hq e he=>?_,λp q hp hq x hx h1 h2=>?_⟩
 ·unfold c1q g2o;rw[yJ,beq_iff_eq,decide_eq_true_eq];refine and_congr Iff.rfl ⟨λh x hx=>?_,λh=>?_⟩
  ·have s1:=D9 ha.ok p hx;have s2:=D9 hb.ok q (z1 x hx);rw[h,s2]at s1;omega
  have w1:=q1j ha.ok p;have w2:=q1j hb.ok q;rw[ht]at w2;refine Il w1 w2 λt n=>⟨λk=>?_,λk=>?_⟩
  ·have h2:=w1.lt k;have hx:Q8 a ⟨(t:Int),n⟩:=Tr.1 ⟨by simp,by simpa using h2.1,h2.2⟩;have s1:=(D9 ha.ok p hx).1 (by simpa using k);have s2:=(D9 hb.ok q (z1 _ hx)).2 (by have:=h _ hx;omega);simpa using s2
  have h2:=w2.lt k;have hx:Q8 a ⟨(t:Int),n⟩:=Tr.1 ⟨by simp,by simpa using h2.1,h2.2⟩;have s1:=(D9 hb.ok q (z1 _ hx)).1 (by simpa using k);have s2:=(D9 ha.ok p hx).2 (by have:=h _ hx;omega);simpa using s2
 ·obtain⟨s,hs,rfl⟩:=zU.1 he;obtain⟨m,hm,n,hn,hv,rfl⟩:=Ib.1 hs;obtain⟨m1,m2,_⟩:=Wz.1 hm;obtain⟨n1,n2,_⟩:=Wz.1 hn;obtain⟨w1,w2⟩:=z6 m1 n1;have hw:=Ry w1 w2.1;obtain⟨k1,k2,_⟩:=Tv hw ((Rs hw).1 hv);have hk:=Tr.1 k1;obtain⟨p1,p2⟩:=(Ea w1.1 w2.1 _ _).1 k2;refine⟨Qk (Ee m.on n.on),hk,?_,?_,(ha.ok.mv m m1).dst.1,(hb.ok.mv n n1).dst.1⟩
  ·rw[<-show m.src=p from m2];exact ha.to_of m1 hk ((Ep w1.1 _ hk.1.1).2 p1)
  rw[<-show n.src=q from n2];exact hb.to_of n1 (z1 _ hk) ((Ep w2.1 _ hk.1.1).2 p2)
 rcases Ua (a:=a) p x with⟨h3,_⟩|⟨m,m1,m2,m3,m4⟩
 ·omega
 rcases Ua (a:=b) q x with⟨h3,_⟩|⟨n,n1,n2,n3,n4⟩
 ·omega
 obtain⟨w1,w2⟩:=z6 m1 n1;have hw:=Ry w1 w2.1;have p1:=(Ep w1.1 x hx.1.1).1 m3;have p2:=(Ep w2.1 x hx.1.1).1 n3;have z7:=(Ea w1.1 w2.1 _ _).2 ⟨p1,p2⟩;have hv:=(Rs hw).2 ⟨_,_,z7⟩;refine zU.2 ⟨(Qk (Ee m.on n.on),(m.dst,n.dst)),Ib.2 ⟨m,Wz.2 ⟨m1,m2,(Rs w1).2 ⟨_,_,p1⟩⟩,n,Wz.2 ⟨n1,n2,(Rs w2).2 ⟨_,_,p2⟩⟩,hv,rfl⟩,?_⟩;rw[m4,n4]
def v1k(a b:Aut):(List Int×Bool)×Int:=
 if Wd a≠0 then(([],false),Wd a)else if Wd b≠0 then(([],false),Wd b)else if Hq a=false\/Hq b=false then(([],false),3)
 else if a.types≠b.types then(([],false),15)else match q0p (c1q a b) (psP a b) (a.fin.length+1) 0 (Kn a)with
  |some l=>((l,true),0)
  |none=>(([],false),0)
section
def z2n{a:Aut}(h:OkA a)(x:Sy):toL a (-1) x= -1:=by
 rcases Ua (a:=a) (-1) x with⟨h1,_⟩|⟨m,hm,h2,_,_⟩
 ·exact h1
 have:=(h.mv m hm).src.1;omega
def inD(a:Aut)(s:Int):Prop:=s= -1\/inS a s
def Lq{a:Aut}(h:OkA a)(s:Int)(x:Sy):inD a (toL a s x):=j0j h s x
def w02(a:Aut)(s:Int):Bool:=decide (s≠ -1) && a.fin.getD s.toNat false
def mvS(a:Aut)(s:Int):List Mv:=a.mv.filter λm=>decide (m.src=s)
def Wl(a:Aut)(s:Int):List (Option Mv):=(mvS a s).map some++[none]
def Dl:Option Mv->Int
 |some m=>m.dst
 |none=> -1
def q0o(a:Aut)(s:Int):Option Mv->Prd
 |some m=>m.on
 |none=>Tk (Uw a.types.toNat ((mvS a s).map (·.on)))
def g04(a:Aut)(s:Int)(o:Option Mv)(x:Sy):Prop:=PM (q0o a s o) x.ty.toNat x.num
def R0{a:Aut}{s:Int}{m:Mv}:m∈mvS a s↔m∈a.mv/\m.src=s:=by unfold mvS;rw[xT,decide_eq_true_eq]
def Ij{a:Aut}{s:Int}{o:Option Mv}:o∈Wl a s↔o=none\/∃m∈mvS a s,o=some m:=by
 unfold Wl;rw[yB,zU,zV];constructor
 ·rintro(⟨m,hm,rfl⟩|rfl)
  ·exact .inr ⟨m,hm,rfl⟩
  exact .inl rfl
 rintro(rfl|⟨m,hm,rfl⟩)
 ·exact .inr rfl
 exact .inl ⟨m,hm,rfl⟩
def Hj{a:Aut}(h:OkA a)(s:Int):∀p∈(mvS a s).map (·.on),PWf a.types.toNat p:=λr hr=>by obtain⟨m,hm,rfl⟩:=zU.1 hr;exact h.wfA.on m (R0.1 hm).1
def Ce{a:Aut}(h:OkA a){s:Int}{o:Option Mv}(ho:o∈Wl a s):PWf a.types.toNat (q0o a s o):=by
 rcases Ij.1 ho with rfl|⟨m,hm,rfl⟩
 ·exact Cj (P4 (Hj h s))
 exact h.wfA.on m (R0.1 hm).1
def O7{a:Aut}(h:OkA a)(s:Int){x:Sy}(hx:Q8 a x):g04 a s none x↔∀m∈mvS a s,Ti m.on x=false:=by
 unfold g04 q0o;rw[Gi (P4 (Hj h s)),Fp (Hj h s)];have hk:=Tr.2 hx;constructor
 ·rintro⟨_,hn⟩ m hm;cases hh:Ti m.on x with
  |false=>rfl
  |true=>exact absurd ⟨m.on,zU.2 ⟨m,hm,rfl⟩,(Rh h.wfA (R0.1 hm).1 hx).1 hh⟩ hn
 intro hn;refine⟨hk.2,?_⟩;rintro⟨r,hr,z1⟩;obtain⟨m,hm,rfl⟩:=zU.1 hr;have:=hn m hm;rw[(Rh h.wfA (R0.1 hm).1 hx).2 z1]at this;cases this
def Ob{a:Aut}(h:OkA a){s:Int}{m:Mv}(hm:m∈mvS a s){x:Sy}(hx:Q8 a x):g04 a s (some m) x↔Ti m.on x=true:=(Rh h.wfA (R0.1 hm).1 hx).symm
def x02{a:Aut}(h:Dta a){s:Int}{o:Option Mv}(ho:o∈Wl a s){x:Sy}(hx:Q8 a x)(hh:g04 a s o x):toL a s x=Dl o:=by
 rcases Ij.1 ho with rfl|⟨m,hm,rfl⟩
 ·have hn:=(O7 h.ok s hx).1 hh;rcases Ua (a:=a) s x with⟨h1,_⟩|⟨m,h1,h2,h3,_⟩
  ·exact h1
  rw[hn m (R0.2 ⟨h1,h2⟩)]at h3;cases h3
 obtain⟨h1,h2⟩:=R0.1 hm;rw[<-h2];exact h.to_of h1 hx ((Ob h.ok hm hx).1 hh)
def y1j{a:Aut}(h:OkA a)(s:Int){x:Sy}(hx:Q8 a x):∃o∈Wl a s,g04 a s o x:=by
 by_cases hn:∀m∈mvS a s,Ti m.on x=false
 ·exact⟨none,Ij.2 (.inl rfl),(O7 h s hx).2 hn⟩
 have:∃m∈mvS a s,Ti m.on x=true:=Classical.byContradiction λk=>hn λm hm=>by
  cases hh:Ti m.on x with
  |false=>rfl
  |true=>exact absurd ⟨m,hm,hh⟩ k
 obtain⟨m,hm,hh⟩:=this;exact⟨some m,Ij.2 (.inr ⟨m,hm,rfl⟩),(Ob h hm hx).2 hh⟩
def x0m{a:Aut}(h:Dta a)(s:Int):(Wl a s).Pairwise (λo r=>∀x,Q8 a x->g04 a s o x->¬g04 a s r x):=by
 unfold Wl;rw[yT,xS];refine⟨?_,List.pairwise_singleton ..,λo ho r hr x hx h1 h2=>?_⟩
 ·have hp:(mvS a s).Pairwise (λm k=>m.src=k.src->∀x:Sy,Q8 a x->¬(Ti m.on x=true/\Ti k.on x=true)):=h.det.filter _;refine hp.imp_of_mem λ{m k} hm hk hr x hx h1 h2=>?_;have e:m.src=k.src:=by rw[(R0.1 hm).2,(R0.1 hk).2]
  exact hr e x hx ⟨(Ob h.ok hm hx).1 h1,(Ob h.ok hk hx).1 h2⟩
 rw[zV.1 hr]at h2;obtain⟨m,hm,rfl⟩:=zU.1 ho;have:=(O7 h.ok s hx).1 h2 m hm;rw[(Ob h.ok hm hx).1 h1]at this;cases this
def q0z(a b:Aut)(s:Int×Int)(o r:Option Mv):Prd:=Ee (q0o a s.1 o) (q0o b s.2 r)
def k1c(a b:Aut)(s:Int×Int)(o r:Option Mv):Option (Sy×(Int×Int)):=if Wp (q0z a b s o r)then none else some (Qk (q0z a b s o r),(Dl o,Dl r))
def V1(a b:Aut)(s:Int×Int):List (Sy×(Int×Int)):=(Wl a s.1).flatMap λo=>(Wl b s.2).filterMap (k1c a b s o)
section
variable {a b:Aut} (ha:Dta a) (hb:Dta b) (ht:b.types=a.types) {s:Int×Int}
include ha hb ht
theorem d04{o r:Option Mv}(ho:o∈Wl a s.1)(hr:r∈Wl b s.2):PWf a.types.toNat (q0z a b s o r)/\∀t n,PM (q0z a b s o r) t n↔PM (q0o a s.1 o) t n/\PM (q0o b s.2 r) t n:=by have w1:=Ce ha.ok ho;have w2:=Ce hb.ok hr;rw[ht]at w2;exact⟨Ry w1 w2.1,Ea w1.1 w2.1⟩
theorem Ia{o r:Option Mv}(ho:o∈Wl a s.1)(hr:r∈Wl b s.2){e:Sy×(Int×Int)}(he:k1c a b s o r=some e):Q8 a e.1/\g04 a s.1 o e.1/\g04 b s.2 r e.1/\e.2=(Dl o,Dl r)/\∀y,Q8 a y->g04 a s.1 o y->g04 b s.2 r y->e.1=y\/sLt e.1 y:=by
 obtain⟨hw,z1⟩:=d04 ha hb ht ho hr;unfold k1c at he;split at he
 ·cases he
 rename_i hv;obtain rfl:=Option.some.inj he;obtain⟨k1,k2,k3⟩:=Tv hw ((Rs hw).1 (by simpa using hv));obtain⟨p1,p2⟩:=(z1 _ _).1 k2;exact⟨Tr.1 k1,p1,p2,rfl,λy hy h1 h2=>k3 y (Tr.2 hy) ((z1 _ _).2 ⟨h1,h2⟩)⟩
theorem q1q{e:Sy×(Int×Int)}:e∈V1 a b s↔∃o∈Wl a s.1,∃r∈Wl b s.2,k1c a b s o r=some e:=by unfold V1;rw[xZ];simp only[wR]
theorem j2l{e:Sy×(Int×Int)}(he:e∈V1 a b s):Q8 a e.1/\e.2=E8 a b s e.1:=by obtain⟨o,ho,r,hr,h⟩:=(q1q ha hb ht).1 he;obtain⟨k1,k2,k3,k4,_⟩:=Ia ha hb ht ho hr h;refine⟨k1,?_⟩;rw[k4];unfold E8;rw[x02 ha ho k1 k2,x02 hb hr ((Wx ht).2 k1) k3]
theorem y2z{y:Sy}(hy:Q8 a y):∃e∈V1 a b s,e.2=E8 a b s y/\(e.1=y\/sLt e.1 y):=by
 have z1:=(Wx ht).2 hy;obtain⟨o,ho,h1⟩:=y1j ha.ok s.1 hy;obtain⟨r,hr,h2⟩:=y1j hb.ok s.2 z1;obtain⟨hw,z6⟩:=d04 ha hb ht ho hr;have hv:Wp (q0z a b s o r)=false:=(Rs hw).2 ⟨_,_,(z6 _ _).2 ⟨h1,h2⟩⟩;have he:k1c a b s o r=some (Qk (q0z a b s o r),(Dl o,Dl r)):=by unfold k1c;rw[hv,if_neg (by simp)]
 refine⟨_,(q1q ha hb ht).2 ⟨o,ho,r,hr,he⟩,?_,(Ia ha hb ht ho hr he).2.2.2.2 y hy h1 h2⟩;unfold E8;rw[x02 ha ho hy h1,x02 hb hr z1 h2]
theorem q2a:(V1 a b s).Pairwise (λe e'=>e.1≠e'.1):=by
 unfold V1;rw[vN];refine⟨λo ho=>?_,(x0m ha s.1).imp_of_mem λ{o o'} ho ho' hd x hx y hy e=>?_⟩
 ·rw[List.pairwise_filterMap];refine(x0m hb s.2).imp_of_mem λ{r r'} hr z1 hd x hx y hy e=>?_;obtain⟨k1,_,k3,_⟩:=Ia ha hb ht ho hr hx;obtain⟨_,_,j3,_⟩:=Ia ha hb ht ho z1 hy;rw[<-e]at j3;exact hd x.1 ((Wx ht).2 k1) k3 j3
 obtain⟨r,hr,h1⟩:=wR.1 hx;obtain⟨r',z1,h2⟩:=wR.1 hy;obtain⟨k1,k2,_⟩:=Ia ha hb ht ho hr h1;obtain⟨_,j2,_⟩:=Ia ha hb ht ho' z1 h2;rw[<-e]at j2;exact hd x.1 k1 k2 j2
end
def q0n(e e':Sy×(Int×Int)):Bool:= !K0 e'.1 e.1
def Ic(a b:Aut)(s:Int×Int):List (Sy×(Int×Int)):=(V1 a b s).mergeSort q0n
def j09(x y z:Sy×(Int×Int))(h1:q0n x y=true)(h2:q0n y z=true):q0n x z=true:=by
 unfold q0n at *
 cases hz:K0 z.1 x.1 with
 |false=>rfl
 |true=>
  exfalso;rw[Fj]at hz;have n1:¬sLt y.1 x.1:=λk=>by rw[(Fj _ _).2 k]at h1;simp at h1
  have n2:¬sLt z.1 y.1:=λk=>by rw[(Fj _ _).2 k]at h2;simp at h2
  rcases sLt.tri x.1 y.1 with k|k|k
  ·exact n2 (hz.trans k)
  ·rw[k]at hz;exact n2 hz
  exact n1 k
def u07(x y:Sy×(Int×Int)):(q0n x y || q0n y x)=true:=by
 unfold q0n;cases h1:K0 y.1 x.1 with
 |false=>rfl
 |true=>
  cases h2:K0 x.1 y.1 with
  |false=>rfl
  |true=>exact absurd (((Fj _ _).1 h1).trans ((Fj _ _).1 h2)) (λk=>sLt.irr k)
def K9{L:List (Sy×(Int×Int))}(hp:L.Pairwise λx y=>q0n x y=true)(hn:L.Pairwise λe e'=>e.1≠e'.1):L.Pairwise λx y=>sLt x.1 y.1:=by
 refine(hp.and hn).imp λ{x y} h=>?_;have n1:¬sLt y.1 x.1:=λk=>by have:=h.1;unfold q0n at this;rw[(Fj _ _).2 k]at this;simp at this
 rcases sLt.tri x.1 y.1 with k|k|k
 ·exact k
 ·exact absurd k h.2
 exact absurd k n1
def x0p{a b:Aut}(ha:Dta a)(hb:Dta b)(ht:b.types=a.types)(s:Int×Int):(Ic a b s).Pairwise λx y=>sLt x.1 y.1:=by refine K9 (uz j09 u07 _) ?_;exact(vE (V1 a b s) q0n).symm.pairwise (q2a ha hb ht) (λ{x y} h=>h.symm)
def Si{a b:Aut}(ha:Dta a)(hb:Dta b)(ht:b.types=a.types)(s:Int×Int):SuccOk (Q8 a) (E8 a b) s (Ic a b s):=by have hm:∀e,e∈Ic a b s↔e∈V1 a b s:=λe=>(vE (V1 a b s) q0n).mem_iff;refine⟨x0p ha hb ht s,λe he=>j2l ha hb ht ((hm e).1 he),λy hy=>?_⟩;obtain⟨e,he,h⟩:=y2z ha hb ht (s:=s) hy;exact⟨e,(hm e).2 he,h⟩
def q1d{a b:Aut}(ha:Dta a)(hb:Dta b)(ht:b.types=a.types)(s:Int×Int){L:List (Sy×(Int×Int))}(hp:L.Perm (V1 a b s))(hs:L.Pairwise λx y=>q0n x y=true):L=Ic a b s:=by have h1:=K9 hs (hp.symm.pairwise (q2a ha hb ht) (λ{x y} h=>h.symm));refine List.Perm.eq_of_pairwise (le:=λx y=>sLt x.1 y.1) (λx y _ _ k1 k2=>absurd (k1.trans k2) (λk=>sLt.irr k)) h1 (x0p ha hb ht s) (hp.trans (vE (V1 a b s) q0n).symm)
end
structure FirstP (ok:Sy->Prop) (P:List Sy->Bool) (w:List Sy):Prop where
 okw:∀x∈w,ok x
 hit:P w=true
 least:∀v,(∀x∈v,ok x)->P v=true->lle w v
def FirstP.uniq{ok:Sy->Prop}{P:List Sy->Bool}{v w:List Sy}(h:FirstP ok P v)(k:FirstP ok P w):v=w:=
 (h.least w k.okw k.hit).anti (k.least v h.okw h.hit)
def FirstP.congr{ok:Sy->Prop}{P Q:List Sy->Bool}{w:List Sy}(h:FirstP ok P w)(e:∀v,(∀x∈v,ok x)->P v=Q v):FirstP ok Q w:=
 ⟨h.okw,by rw[<-e w h.okw];exact h.hit,λv hv hq=>h.least v hv (by rw[e v hv];exact hq)⟩
def FirstP.sub{ok ok':Sy->Prop}{P:List Sy->Bool}{w:List Sy}(h:FirstP ok P w)(e:∀x,ok x↔ok' x):FirstP ok' P w:=
 ⟨λx hx=>(e x).1 (h.okw x hx),h.hit,λv hv hq=>h.least v (λx hx=>(e x).2 (hv x hx)) hq⟩
def FirstW.toP{σ:Type}{ok:Sy->Prop}{step:σ->Sy->σ}{good:σ->Bool}{s:σ}{w:List Sy}(h:FirstW ok step good s w):FirstP ok (λv=>good (Td step s v)) w:=⟨h.okw,h.goodw,h.least⟩
def q1p(s:Int):List Int:=if s= -1 then []else [s]
def v1x{a:Aut}(h:Dta a){s:Int}{x:Sy}(hx:Q8 a x):Q1 a [s] x=q1p (toL a s x):=by
 unfold q1p;rcases Ua (a:=a) s x with⟨h1,h2⟩|⟨m,m1,m2,m3,m4⟩
 ·rw[if_pos h1];refine vG.2 λj hj=>?_;obtain⟨_,m,hm,k1,k2,_⟩:=Ws.1 hj;rw[h2 m hm (zV.1 k1)]at k2;cases k2
 have hd:=(h.ok.mv m m1).dst;rw[if_neg (by rw[m4];omega)];refine Yq (Ub ..) (by simp) λz=>?_;rw[Ws,zV];constructor
 ·rintro⟨_,k,hk,k1,k2,rfl⟩;rw[<-h.to_of hk hx k2,zV.1 k1]
 rintro rfl;rw[m4];exact⟨hd,m,m1,by rw[m2];simp,m3,rfl⟩
def Z9(a:Aut)(x:Sy):Q1 a [] x=[]:=vG.2 λj hj=>by obtain⟨_,m,hm,k1,_⟩:=Ws.1 hj;cases k1
def y12{a:Aut}(h:Dta a):∀(w:List Sy) (s:Int),(∀x∈w,Q8 a x)->O0 a (q1p s) w=q1p (stF a s w)
 |[],_,_=>rfl
 |x::w,s,hw=>by
  have hx:=hw x (by simp);have ih:=y12 h w (toL a s x) λy hy=>hw y (by simp[hy]);show O0 a (Q1 a (q1p s) x) w=q1p (stF a (toL a s x) w);rw[<-ih]
  congr 1
  by_cases hs:s= -1
  ·subst hs;rw[z2n h.ok];unfold q1p;rw[if_pos rfl,Z9]
  have:q1p s=[s]:=by unfold q1p;rw[if_neg hs]
  rw[this,v1x h hx]
def y2q(a:Aut)(s:Int):Pp a (q1p s)=w02 a s:=by
 unfold q1p w02 Pp;by_cases hs:s= -1
 ·rw[if_pos hs,hs];rfl
 rw[if_neg hs];simp[hs]
def w0w{a:Aut}(h:Dta a){w:List Sy}(hw:∀x∈w,Q8 a x):Ro a w=w02 a (stF a 0 w):=by unfold Ro;rw[<-y2q,<-y12 h w 0 hw];rfl
def Lz(n:Nat):List Int:= -1::Wj n
def g0l(a b:Aut):List (Int×Int):=(Lz a.fin.length).flatMap λi=>(Lz b.fin.length).map λj=>(i,j)
def Jh(a b:Aut):(g0l a b).length=(a.fin.length+1) * (b.fin.length+1):=by unfold g0l;rw[vQ,xH (g:=λ_=>b.fin.length+1) (λi _=>by simp[Wj,Lz]),ub,vZ];simp[Wj,Lz]
def Ln{a:Aut}{s:Int}:s∈Lz a.fin.length↔inD a s:=by unfold Lz inD;rw[yO,Wo];exact Iff.rfl
def Hg{a b:Aut}{s:Int×Int}(h1:inD a s.1)(h2:inD b s.2):s∈g0l a b:=by unfold g0l;exact xZ.2 ⟨s.1,Ln.2 h1,zU.2 ⟨s.2,Ln.2 h2,rfl⟩⟩
def Nn(wn:Bool->Bool->Bool)(a b:Aut)(s:Int×Int):Bool:=wn (w02 a s.1) (w02 b s.2)
def G7(a b:Aut)(wn:Bool->Bool->Bool):Option (List Sy)×List ((Int×Int)×List Sy):=Zl (Nn wn a b) (Ic a b) ((a.fin.length+1) * (b.fin.length+1)+1) 0 [((0,0),[])]
def wnd(wn:Bool->Bool->Bool)(a b:Aut)(v:List Sy):Bool:=wn (Ro a v) (Ro b v)
def x0q{a b:Aut}(ha:Dta a)(hb:Dta b)(ht:b.types=a.types)(wn:Bool->Bool->Bool){v:List Sy}(hv:∀x∈v,Q8 a x):Nn wn a b (Td (E8 a b) (0,0) v)=wnd wn a b v:=by rw[U4];unfold Nn wnd;rw[w0w ha hv,w0w hb λx hx=>(Wx ht).2 (hv x hx)]
def Yz{a b:Aut}(ha:Dta a)(hb:Dta b)(ht:b.types=a.types)(wn:Bool->Bool->Bool):
  (∃w L,G7 a b wn=(some w,L)/\FirstP (Q8 a) (wnd wn a b) w)\/
  (∃L,G7 a b wn=(none,L)/\(L.map (·.1)).Nodup/\(∀s,s∈L.map (·.1)↔∃v,(∀x∈v,Q8 a x)/\Td (E8 a b) (0,0) v=s)/\(∀s∈L.map (·.1),inD a s.1/\inD b s.2)/\∀v,(∀x∈v,Q8 a x)->wnd wn a b v=false):=by
 have hz:inD a 0/\inD b 0:=⟨.inr ⟨xC _,by have:=ha.ok.fin;omega⟩,.inr ⟨xC _,by have:=hb.ok.fin;omega⟩⟩
 rcases A8 (ok:=Q8 a) (step:=E8 a b) (good:=Nn wn a b) (succ:=Ic a b) (s0:=(0,0)) (G:=λs=>inD a s.1/\inD b s.2) (λs _=>Si ha hb ht s)
  (λs _ e he=>by
   rw[((Si ha hb ht s).mem e he).2];exact⟨Lq ha.ok _ _,Lq hb.ok _ _⟩) (g0l a b) (λs hs=>Hg hs.1 hs.2) ((a.fin.length+1) * (b.fin.length+1)+1) 0 [((0,0),[])] (by rw[Jh];omega) (by simp) (Pk (s0:=((0:Int),(0:Int))) hz)with⟨w,L,h1,h2⟩|⟨L,h1,h2,h3,h4⟩
 ·exact .inl ⟨w,L,h1,h2.toP.congr λv hv=>x0q ha hb ht wn hv⟩
 refine .inr ⟨L,h1,h2,λs=>⟨λhs=>?_,λ⟨v,hv,e⟩=>?_⟩,λs hs=>?_,λv hv=>?_⟩
 ·obtain⟨e,he,rfl⟩:=zU.1 hs;exact⟨e.2,(h3 e he).1,(h3 e he).2.1⟩
 ·rw[<-e];exact(h4 v hv).1
 ·obtain⟨e,he,rfl⟩:=zU.1 hs;exact(h3 e he).2.2
 rw[<-x0q ha hb ht wn hv];exact(h4 v hv).2
def Zv{a:Aut}{x y:Sy}(h:∀m∈a.mv,Ti m.on x=Ti m.on y)(l:List Int):Q1 a l x=Q1 a l y:=by unfold Q1;refine List.filter_congr λj _=>?_;unfold y2k;rw[wB,wW,wW];refine exists_congr λm=>and_congr_right λhm=>?_;rw[h m hm]
abbrev SS:=List Int×List Int
def q03(a b:Aut)(s:SS)(x:Sy):SS:=(Q1 a s.1 x,Q1 b s.2 x)
def Nv(a b:Aut)(s:SS):List (Sy×SS):=(Pu a b).map λx=>(x,q03 a b s x)
def y2a(wn:Bool->Bool->Bool)(a b:Aut)(s:SS):Bool:=wn (Pp a s.1) (Pp b s.2)
def j2p(a b:Aut)(wn:Bool->Bool->Bool):Option (List Sy)×List (SS×List Sy):=Zl (y2a wn a b) (Nv a b) 66050 0 [(([0],[0]),[])]
def c19(a b:Aut):∀(w:List Sy) (l m:List Int),Td (q03 a b) (l,m) w=(O0 a l w,O0 b m w)
 |[],_,_=>rfl
 |x::w,l,m=>c19 a b w (Q1 a l x) (Q1 b m x)
def x00{a b:Aut}(ha:OkA a)(hb:OkA b)(ht:b.types=a.types)(s:SS):SuccOk (Q8 a) (q03 a b) s (Nv a b s):=by
 have hl:=c1g ha hb ht;refine⟨?_,λe he=>?_,λy hy=>?_⟩
 ·unfold Nv;exact xS.2 (hl.ascS.imp λh=>h)
 ·obtain⟨x,hx,rfl⟩:=zU.1 he;obtain⟨c,hc,rfl⟩:=zU.1 hx;exact⟨Tr.1 (hl.least hc).1,rfl⟩
 obtain⟨c,hc,hm,hle,z1⟩:=hl.cov (Tr.2 hy);refine⟨(Qk c,q03 a b s (Qk c)),zU.2 ⟨Qk c,zU.2 ⟨c,hc,rfl⟩,rfl⟩,?_,hle⟩;unfold q03;rw[Zv (λm hm=>(z1 m.on (xB _ (Xe hm))).symm),Zv (a:=b) (λm hm=>(z1 m.on (vP _ (Xe hm))).symm)]
def k0l(P Q:List (List Int)):List SS:=([]::P).flatMap λi=>([]::Q).map λj=>(i,j)
def f0m(P Q:List (List Int)):(k0l P Q).length=(P.length+1) * (Q.length+1):=by unfold k0l;rw[vQ,xH (g:=λ_=>Q.length+1) (λi _=>by simp),ub,vZ];simp
def x1v{P Q:List (List Int)}{s:SS}(h1:s.1=[]\/s.1∈P)(h2:s.2=[]\/s.2∈Q):s∈k0l P Q:=by unfold k0l;exact xZ.2 ⟨s.1,yO.2 h1,zU.2 ⟨s.2,yO.2 h2,rfl⟩⟩
def Mg{a b x y:Aut}(ha:OkA a)(hb:OkA b)(ht:b.types=a.types)(da:Ed a=(0,x))(db:Ed b=(0,y))(wn:Bool->Bool->Bool):
  (∃w L,j2p a b wn=(some w,L)/\FirstP (Q8 a) (wnd wn a b) w)\/(∃L,j2p a b wn=(none,L)/\∀v,(∀z∈v,Q8 a z)->wnd wn a b v=false):=by
 obtain⟨P,_,hP,z1,_⟩:=Ul ha da;obtain⟨Q,_,hQ,z6,_⟩:=Ul hb db;have step:∀(c:Aut) (cl:List Prd) (Q:List (List Int)),Sub c cl Q->Cls c cl->∀(l:List Int) (z:Sy),Q8 c z->(l=[]\/l∈Q)->(Q1 c l z=[]\/Q1 c l z∈Q):=λc cl Q hs hc l z hz hl=>by
  rcases hl with rfl|hl
  ·exact .inl (Z9 _ _)
  exact hs.step hc hl hz
 have hw:∀v,y2a wn a b (Td (q03 a b) ([0],[0]) v)=wnd wn a b v:=λv=>by rw[c19];rfl
 have hlen:(k0l P Q).length+1<=0+66050:=by have h1:=hP.lim;have h2:=hQ.lim;rw[f0m];have:=Nat.mul_le_mul (show P.length+1<=257 by omega) (show Q.length+1<=257 by omega);omega
 rcases A8 (ok:=Q8 a) (step:=q03 a b) (good:=y2a wn a b) (succ:=Nv a b) (s0:=(([0]:List Int),([0]:List Int))) (G:=λs=>(s.1=[]\/s.1∈P)/\(s.2=[]\/s.2∈Q)) (λs _=>x00 ha hb ht s)
  (λs hs e he=>by
   obtain⟨h1,h2⟩:=(x00 ha hb ht s).mem e he;rw[h2];exact⟨step _ _ _ hP z1 _ _ h1 hs.1,step _ _ _ hQ z6 _ _ ((Wx ht).2 h1) hs.2⟩) (k0l P Q) (λs hs=>x1v hs.1 hs.2) 66050 0 [(([0],[0]),[])] hlen (by simp) (Pk (s0:=(([0]:List Int),([0]:List Int))) ⟨.inr (zL hP.first),.inr (zL hQ.first)⟩)with⟨w,L,h1,h2⟩|⟨L,h1,_,_,h4⟩
 ·exact .inl ⟨w,L,h1,h2.toP.congr λv _=>hw v⟩
 exact .inr ⟨L,h1,λv hv=>by rw[<-hw v];exact(h4 v hv).2⟩
def u0n{a b x y:Aut}(ha:OkA a)(hb:OkA b)(ht:b.types=a.types)(da:Ed a=(0,x))(db:Ed b=(0,y))(wn:Bool->Bool->Bool):(j2p a b wn).1=(G7 x y wn).1:=by
 obtain⟨_,_,_,_,_,_,xo,xd,xt,xa⟩:=Ul ha da;obtain⟨_,_,_,_,_,_,yo,yd,yt,ya⟩:=Ul hb db;have z6:y.types=x.types:=by rw[yt,xt,ht]
 have z1:∀z,Q8 x z↔Q8 a z:=λz=>Wx xt;have hw:∀v,(∀z∈v,Q8 a z)->wnd wn x y v=wnd wn a b v:=λv hv=>by unfold wnd;rw[xa v hv,ya v λz hz=>(Wx ht).2 (hv z hz)]
 rcases Mg ha hb ht da db wn with⟨w,L,h1,h2⟩|⟨L,h1,h2⟩
 ·rcases Yz ⟨xo,xd⟩ ⟨yo,yd⟩ z6 wn with⟨v,M,k1,k2⟩|⟨M,k1,_,_,_,k2⟩
  ·rw[h1,k1];have:=(k2.sub z1).congr hw;rw[this.uniq h2]
  exfalso;have:=k2 w λz hz=>(z1 z).2 (h2.okw z hz);rw[hw w h2.okw,h2.hit]at this;cases this
 rcases Yz ⟨xo,xd⟩ ⟨yo,yd⟩ z6 wn with⟨v,M,k1,k2⟩|⟨M,k1,_,_,_,k2⟩
 ·exfalso;have hv:=λz hz=>(z1 z).1 (k2.okw z hz);have:=h2 v hv;rw[<-hw v hv,k2.hit]at this;cases this
 rw[h1,k1]
def neB(x y:Bool):Bool:=x != y
def pLt(p q:Int×Int):Prop:=p.1<q.1\/(p.1=q.1/\p.2<q.2)
def pLt.irr{p:Int×Int}(h:pLt p p):False:=by unfold pLt at h;omega
def pLt.trans{p q r:Int×Int}(h:pLt p q)(k:pLt q r):pLt p r:=by unfold pLt at *;omega
def pLt.tri(p q:Int×Int):pLt p q\/p=q\/pLt q p:=by
 unfold pLt;by_cases h1:p.1=q.1
 ·by_cases h2:p.2=q.2
  ·exact .inr (.inl (un h1 h2))
  omega
 omega
def Zt{L M:List (Int×Int)}(h:L.Pairwise pLt)(k:M.Pairwise pLt)(e:∀s,s∈L↔s∈M):L=M:=by
 have nd:∀ {X:List (Int×Int)},X.Pairwise pLt->X.Nodup:=λhx=>hx.imp λh e=>by subst e;exact h.irr
 exact List.Perm.eq_of_pairwise (le:=pLt) (λp q _ _ h1 h2=>(h1.trans h2).irr.elim) h k ((ul (nd h) (nd k)).2 e)
def pLe(p q:Int×Int):Bool:=decide (p.1<q.1) || (decide (p.1=q.1) && decide (p.2<=q.2))
def c0g(p q r:Int×Int)(h:pLe p q=true)(k:pLe q r=true):pLe p r=true:=by unfold pLe at *;simp only[vB,yJ,decide_eq_true_eq]at *;omega
def d03(p q:Int×Int):(pLe p q || pLe q p)=true:=by unfold pLe;simp only[vB,yJ,decide_eq_true_eq];omega
def c1p{p q:Int×Int}(h:pLe p q=true)(hn:p≠q):pLt p q:=by
 unfold pLe at h;simp only[vB,yJ,decide_eq_true_eq]at h;rcases pLt.tri p q with k|k|k
 ·exact k
 ·exact absurd k hn
 unfold pLt at k;omega
def Y0(L:List (Int×Int)):List (Int×Int):=L.mergeSort pLe
def X1{L:List (Int×Int)}(h:L.Nodup):(Y0 L).Pairwise pLt:=by have h1:=uz c0g d03 L;have h2:(Y0 L).Nodup:=(vE L pLe).symm.nodup h;exact(h1.and h2).imp λh=>c1p h.1 h.2
def Yt{L:List (Int×Int)}{s:Int×Int}:s∈Y0 L↔s∈L:=(vE L pLe).mem_iff
def j05{L M:List (Int×Int)}(h:L.Nodup)(hp:M.Perm L)(hs:M.Pairwise λp q=>pLe p q=true):M=Y0 L:=by have hn:M.Nodup:=hp.symm.nodup h;exact Zt ((hs.and hn).imp λh=>c1p h.1 h.2) (X1 h) λs=>by rw[Yt];exact hp.mem_iff
def c0z(a b:Aut)(s:Int×Int):Prop:=∃v,(∀x∈v,Q8 a x)/\Td (E8 a b) (0,0) v=s
def g0s(a b:Aut):List (Int×Int):=(Zl (λ_=>false) (B6 a b) ((a.fin.length+1) * (b.fin.length+1)+1) 0 [((0,0),[])]).2.map (·.1)
def Yj(a b:Aut):List (Int×Int):=(G7 a b neB).2.map (·.1)
def u0s{a b:Aut}(ha:OkA a)(hb:OkA b)(ht:b.types=a.types):(g0s a b).Nodup/\(∀s,s∈g0s a b↔c0z a b s)/\∀s∈g0s a b,inD a s.1/\inD b s.2:=by
 have hz:inD a 0/\inD b 0:=⟨.inr ⟨xC _,by have:=ha.fin;omega⟩,.inr ⟨xC _,by have:=hb.fin;omega⟩⟩
 rcases A8 (ok:=Q8 a) (step:=E8 a b) (good:=λ_=>false) (succ:=B6 a b) (s0:=((0:Int),(0:Int))) (G:=λs=>inD a s.1/\inD b s.2) (λs _=>Dx ha hb ht s)
  (λs _ e he=>by
   rw[((Dx ha hb ht s).mem e he).2];exact⟨Lq ha _ _,Lq hb _ _⟩) (g0l a b) (λs hs=>Hg hs.1 hs.2) ((a.fin.length+1) * (b.fin.length+1)+1) 0 [((0,0),[])] (by rw[Jh];omega) (by simp) (Pk (s0:=((0:Int),(0:Int))) hz)with⟨w,L,_,h2⟩|⟨L,h1,h2,h3,h4⟩
 ·exact absurd h2.goodw (by simp)
 unfold g0s;rw[h1];refine⟨h2,λs=>⟨λhs=>?_,λ⟨v,hv,e⟩=>by rw[<-e];exact(h4 v hv).1⟩,λs hs=>?_⟩
 ·obtain⟨e,he,rfl⟩:=zU.1 hs;exact⟨e.2,(h3 e he).1,(h3 e he).2.1⟩
 obtain⟨e,he,rfl⟩:=zU.1 hs;exact(h3 e he).2.2
def Hh{a b:Aut}(ha:Dta a)(hb:Dta b)(ht:b.types=a.types)(hn:(G7 a b neB).1=none):(Yj a b).Nodup/\Y0 (Yj a b)=Y0 (g0s a b)/\∀s,s∈Yj a b↔c0z a b s:=by
 obtain⟨r1,r2,_⟩:=u0s ha.ok hb.ok ht;rcases Yz ha hb ht neB with⟨w,L,h1,_⟩|⟨L,h1,h2,h3,_⟩
 ·rw[h1]at hn;cases hn
 have e:Yj a b=L.map (·.1):=by unfold Yj;rw[h1]
 have e2:∀s,s∈Yj a b↔c0z a b s:=λs=>by rw[e];exact h3 s
 have n1:(Yj a b).Nodup:=by rw[e];exact h2
 exact⟨n1,Zt (X1 n1) (X1 r1) (λs=>by rw[Yt,Yt,r2 s,e2 s]),e2⟩
def w09(a b:Aut)(s:Int×Int):Bool:=a.fin.getD s.1.toNat false==b.fin.getD s.2.toNat false
def N8(a b:Aut)(l:List (Int×Int)):Bool:=decide ((0,0)∈l) && l.all λs=>w09 a b s && (B6 a b s).all λe=>decide (e.2∈l)
def F8(a b:Aut)(l:List (Int×Int)):Bool:=(l.all λs=>w09 a b s && (Ic a b s).all λe=>decide (e.2∈l)) && decide ((0,0)∈l)
def Gq{a b:Aut}{s:Int×Int}{L:List (Sy×(Int×Int))}(h:SuccOk (Q8 a) (E8 a b) s L)(l:List (Int×Int)):(L.all λe=>decide (e.2∈l))=true↔∀y,Q8 a y->E8 a b s y∈l:=by
 rw[yE];constructor
 ·intro k y hy;obtain⟨e,he,e1,_⟩:=h.cov y hy;rw[<-e1];simpa using k e he
 intro k e he;obtain⟨h1,h2⟩:=h.mem e he;rw[h2];simpa using k e.1 h1
def v08{a b:Aut}(ha:OkA a)(hb:OkA b)(ht:b.types=a.types)(l:List (Int×Int)):N8 a b l=true↔(0,0)∈l/\∀s∈l,w09 a b s=true/\∀y,Q8 a y->E8 a b s y∈l:=by
 unfold N8;rw[yJ,decide_eq_true_eq,yE];refine and_congr_right λ_=>⟨λh s hs=>?_,λh s hs=>?_⟩
 ·have:=h s hs;rw[yJ]at this;exact⟨this.1,(Gq (Dx ha hb ht s) l).1 this.2⟩
 rw[yJ];exact⟨(h s hs).1,(Gq (Dx ha hb ht s) l).2 (h s hs).2⟩
def q1e{a b:Aut}(ha:Dta a)(hb:Dta b)(ht:b.types=a.types)(l:List (Int×Int)):F8 a b l=N8 a b l:=by
 rw[wB,v08 ha.ok hb.ok ht];unfold F8;rw[yJ,decide_eq_true_eq,yE];rw[and_comm];refine and_congr_right λ_=>⟨λh s hs=>?_,λh s hs=>?_⟩
 ·have:=h s hs;rw[yJ]at this;exact⟨this.1,(Gq (Si ha hb ht s) l).1 this.2⟩
 rw[yJ];exact⟨(h s hs).1,(Gq (Si ha hb ht s) l).2 (h s hs).2⟩
def q1f{a b:Aut}(ha:Dfa a)(hb:Dfa b)(ht:b.types=a.types)(hn:(G7 a b neB).1=none):N8 a b (Y0 (Yj a b))=true:=by
 have da:Dta a:=⟨ha.ok,ha.det⟩
 have db:Dta b:=⟨hb.ok,hb.det⟩
 obtain⟨_,_,hr⟩:=Hh da db ht hn;have z1:∀v,(∀x∈v,Q8 a x)->wnd neB a b v=false:=by
  rcases Yz da db ht neB with⟨w,L,h1,_⟩|⟨L,_,_,_,_,h2⟩
  ·rw[h1]at hn;cases hn
  exact h2
 rw[v08 ha.ok hb.ok ht];refine⟨by rw[Yt,hr];exact⟨[],by simp,rfl⟩,λs hs=>?_⟩;rw[Yt,hr]at hs;obtain⟨v,hv,e⟩:=hs;refine⟨?_,λy hy=>?_⟩
 ·have:=z1 v hv;unfold wnd neB at this;rw[ha.acc hv,hb.acc λx hx=>(Wx ht).2 (hv x hx)]at this;rw[U4]at e;rw[<-e];unfold w09;unfold Zf at this;simpa using this
 rw[Yt,hr];refine⟨v++[y],λx hx=>(yB.1 hx).elim (hv x) (λk=>by rw[zV.1 k];exact hy),?_⟩;rw[<-e];simp[Td,wJ]
section
def j1o(b:Aut)(p:Int):List Sy->Prop
 |[]=>b.fin.getD p.toNat false=true
 |x::w=>∃q,q∈Q1 b [p] x/\j1o b q w
def Le{b:Aut}{l:List Int}{x:Sy}{q:Int}:q∈Q1 b l x↔∃p∈l,q∈Q1 b [p] x:=by
 rw[Ws];constructor
 ·rintro⟨h0,m,hm,h1,h2,h3⟩;exact⟨m.src,h1,Ws.2 ⟨h0,m,hm,by simp,h2,h3⟩⟩
 rintro⟨p,hp,hq⟩;obtain⟨h0,m,hm,h1,h2,h3⟩:=Ws.1 hq;rw[zV]at h1;exact⟨h0,m,hm,by rw[h1];exact hp,h2,h3⟩
def Ny(b:Aut):∀(w:List Sy) (l:List Int),Pp b (O0 b l w)=true↔∃p∈l,j1o b p w
 |[],l=>by show Pp b l=true↔_;unfold Pp;rw[wW];exact Iff.rfl
 |x::w,l=>by
  show Pp b (O0 b (Q1 b l x) w)=true↔_;rw[Ny b w];constructor
  ·rintro⟨q,hq,h⟩;obtain⟨p,hp,z1⟩:=Le.1 hq;exact⟨p,hp,q,z1,h⟩
  rintro⟨p,hp,q,hq,h⟩;exact⟨q,Le.2 ⟨p,hp,hq⟩,h⟩
def dB(a b:Aut)(s:Int×List Int)(d:Nat):Prop:=∃w:List Sy,w.length=d/\(∀x∈w,Q8 a x)/\j1o b s.1 w/\Pp a (O0 a s.2 w)=false
def mB(a b:Aut)(s:Int×List Int)(d:Nat):Prop:=dB a b s d/\∀k,k<d->¬dB a b s k
def y25{a b:Aut}{s:Int×List Int}{d k:Nat}(h:mB a b s d)(h':mB a b s k):d=k:=by
 rcases wZ d k with hlt|e|hlt
 ·exact absurd h.1 (h'.2 d hlt)
 ·exact e
 exact absurd h'.1 (h.2 k hlt)
def u2o{a b:Aut}{s:Int×List Int}:∀(d:Nat),dB a b s d->∃k,k<=d/\mB a b s k:=by
 intro d;induction d using sq with
 |_ d ih=>
  intro h;by_cases hk:∃k,k<d/\dB a b s k
  ·obtain⟨k,h1,h2⟩:=hk;obtain⟨j,h3,h4⟩:=ih k h1 h2;exact⟨j,by omega,h4⟩
  exact⟨d,zW _,h,λk h1 h2=>hk ⟨k,h1,h2⟩⟩
def gB(b:Aut)(Q:List (List Int))(s:Int×List Int):Prop:=inS b s.1/\(s.2=[]\/s.2∈Q)
section
variable {a b:Aut} {Q:List (List Int)} (hst:∀l∈Q,∀x,Q8 a x->Q1 a l x=[]\/Q1 a l x∈Q)
include hst
theorem x2o{s:Int×List Int}(hs:gB b Q s){d:Nat}(h:mB a b s (d+1)):∃s',gB b Q s'/\mB a b s' d:=by
 obtain⟨⟨w,hw,ho,h1,h2⟩,z1⟩:=h;cases w with
 |nil=>cases hw
 |cons x w=>
  obtain⟨q,hq,h3⟩:=h1;have hx:=ho x (by simp);refine⟨(q,Q1 a s.2 x),⟨⟨(Ui q hq).1,(Ui q hq).2⟩,?_⟩,⟨w,by simpa using hw,λy hy=>ho y (by simp[hy]),h3,h2⟩,λk hk hd=>?_⟩
  ·rcases hs.2 with h|h
   ·rw[h];exact .inl (Z9 a x)
   exact hst _ h x hx
  obtain⟨v,hv,z6,v1,v2⟩:=hd;exact z1 (k+1) (by omega) ⟨x::v,by simp[hv],λy hy=>(yO.1 hy).elim (λe=>by rw[e];exact hx) (z6 y),⟨q,hq,v1⟩,v2⟩
theorem c1l:∀(k d:Nat) (s:Int×List Int),gB b Q s->mB a b s (d+k)->∃s',gB b Q s'/\mB a b s' d
 |0,_,s,hs,h=>⟨s,hs,h⟩
 |k+1,d,s,hs,h=>by obtain⟨s',h1,h2⟩:=x2o hst hs (d:=d+k) h;exact c1l k d s' h1 h2
theorem u19{s:Int×List Int}(hs:gB b Q s){d:Nat}(h:mB a b s d):d+1<=b.fin.length * (Q.length+1):=by
 have hex:∀k,∃t:Int×List Int,k<=d->gB b Q t/\mB a b t k:=λk=>by
  by_cases hk:k<=d
  ·obtain⟨t,h1,h2⟩:=c1l hst (d - k) k s hs (by rw[show k+(d - k)=d by omega];exact h);exact⟨t,λ_=>⟨h1,h2⟩⟩
  exact⟨s,λh=>absurd h hk⟩
 obtain⟨f,hf⟩:=Classical.axiomOfChoice hex;have hU:∀t,gB b Q t->t∈(Wj b.fin.length).flatMap λi=>([]::Q).map λj=>(i,j):=λt ht=>
  xZ.2 ⟨t.1,Wo.2 ht.1,zU.2 ⟨t.2,yO.2 ht.2,rfl⟩⟩
 have hlen:((Wj b.fin.length).flatMap λi=>([]::Q).map λj=>(i,j)).length=b.fin.length * (Q.length+1):=by rw[vQ,xH (g:=λ_=>Q.length+1) (λi _=>by simp),ub,vZ];simp[Wj]
 have hn:((y_ (d+1)).map f).Nodup:=by unfold sI;rw[xS];refine(List.nodup_range (n:=d+1)).imp_of_mem λ{i j} hi hj hij e=>?_;have h1:=(hf i (by have:=xD.1 hi;omega)).2;have h2:=(hf j (by have:=xD.1 hj;omega)).2;rw[e]at h1;exact hij (y25 h1 h2)
 have:=hn.length_le_of_subset (l₂:=(Wj b.fin.length).flatMap λi=>([]::Q).map λj=>(i,j)) λt ht=>by obtain⟨i,hi,rfl⟩:=zU.1 ht;exact hU _ (hf i (by have:=xD.1 hi;omega)).1
 rw[yL,List.length_range,hlen]at this;exact this
end
def Bv{a b x:Aut}(ha:OkA a)(hb:OkA b)(ht:b.types=a.types)(da:Ed a=(0,x)){w:List Sy}(hw:∀z∈w,Q8 a z)(h1:Ro b w=true)(h2:Ro a w=false):∃v:List Sy,v.length+1<=b.fin.length * 257/\(∀z∈v,Q8 a z)/\Ro b v=true/\Ro a v=false:=by
 obtain⟨Q,_,hQ,hc,_⟩:=Ul ha da;have hz:inS b 0:=⟨xC _,by have:=hb.fin;omega⟩
 have z1:∀v,Ro b v=true↔j1o b 0 v:=λv=>by unfold Ro;rw[Ny];simp
 obtain⟨k,_,hk⟩:=u2o (a:=a) (b:=b) (s:=(0,[0])) w.length ⟨w,rfl,hw,(z1 w).1 h1,h2⟩;have z6:=u19 (λl hl x hx=>hQ.step hc hl hx) (b:=b) (s:=(0,[0])) ⟨hz,.inr (zL hQ.first)⟩ hk;obtain⟨⟨v,hv,z7,v1,v2⟩,_⟩:=hk;have hl:=hQ.lim;exact⟨v,by rw[hv];exact yW z6 (Nat.mul_le_mul_left _ (by omega)),z7,(z1 v).2 v1,v2⟩
def x1a{v w:List Sy}(h:lle v w):v.length<=w.length:=by
 rcases h with rfl|h|h
 ·exact zW _
 ·omega
 omega
def z2x{a b x y:Aut}(ha:OkA a)(hb:OkA b)(ht:b.types=a.types)(z1:a.fin.length<=8)(z6:b.fin.length<=8)(da:Ed a=(0,x))(db:Ed b=(0,y)){w:List Sy}(h:FirstP (Q8 a) (wnd neB a b) w):w.length<=4096:=by
 have hh:=h.hit;unfold wnd neB at hh;cases h1:Ro a w with
 |true=>
  cases h2:Ro b w with
  |true=>rw[h1,h2]at hh;cases hh
  |false=>obtain⟨v,v1,v2,v3,v4⟩:=Bv hb ha ht.symm db (λz hz=>(Wx ht).2 (h.okw z hz)) h1 h2;have:=x1a (h.least v (λz hz=>(Wx ht).1 (v2 z hz)) (by unfold wnd neB;rw[v3,v4];rfl));have:=yK 257 z1;omega
 |false=>
  cases h2:Ro b w with
  |false=>rw[h1,h2]at hh;cases hh
  |true=>obtain⟨v,v1,v2,v3,v4⟩:=Bv ha hb ht da h.okw h2 h1;have:=x1a (h.least v v2 (by unfold wnd neB;rw[v3,v4];rfl));have:=yK 257 z6;omega
end
def K3:List Iv->List Iv->Option Int
 |x::l,y::m=>if max x.lo y.lo<=min x.hi y.hi then some (max x.lo y.lo)else if x.hi<y.hi then K3 l (y::m)else K3 (x::l) m
 |_,_=>none
termination_by l m=>l.length+m.length
def v0f(m:List Iv):K3 [] m=none:=by simp[K3]
def Mk(x:Iv)(l:List Iv):K3 (x::l) []=none:=by simp[K3]
def d0y(x y:Iv)(l m:List Iv):K3 (x::l) (y::m)=if max x.lo y.lo<=min x.hi y.hi then some (max x.lo y.lo)else if x.hi<y.hi then K3 l (y::m)else K3 (x::l) m:=by rw[K3]
def q15{x:Iv}{l:List Iv}(h:Sep (x::l)):∀n,M l n->x.hi<n:=by rintro n ⟨y,hy,h1,h2⟩;have:=(yZ.1 h.2).1 y hy;omega
def Ek{x:Iv}{l:List Iv}{n:Int}:M (x::l) n↔(x.lo<=n/\n<=x.hi)\/M l n:=by
 constructor
 ·rintro⟨y,hy,h⟩;rcases yO.1 hy with rfl|hy
  ·exact .inl h
  exact .inr ⟨y,hy,h⟩
 rintro(h|⟨y,hy,h⟩)
 ·exact⟨x,by simp,h⟩
 exact⟨y,by simp[hy],h⟩
def Mr{n:Int}:¬M [] n:=by rintro⟨y,hy,_⟩;cases hy
def C8{x:Iv}{l:List Iv}(h:Sep (x::l)):Sep l:=⟨λy hy=>h.1 y (by simp[hy]),(yZ.1 h.2).2⟩
def H6(l m:List Iv)(hl:Sep l)(hm:Sep m):match K3 l m with|some n=>M l n/\M m n/\∀k,M l k->M m k->n<=k|none=>∀k,M l k->¬M m k:=by
 match l,m with
 |[],m=>rw[v0f];exact λk h=>absurd h Mr
 |x::l,[]=>rw[Mk];exact λk _ h=>absurd h Mr
 |x::l,y::m=>
  have hx:=hl.1 x (by simp);have hy:=hm.1 y (by simp);have sx:=q15 hl;have sy:=q15 hm;rw[K3];by_cases h1:max x.lo y.lo<=min x.hi y.hi
  ·rw[if_pos h1];refine⟨Ek.2 (.inl (by omega)),Ek.2 (.inl (by omega)),λk k1 k2=>?_⟩;have:x.lo<=k:=by
    rcases Ek.1 k1 with h|h
    ·exact h.1
    have:=sx k h;omega
   have:y.lo<=k:=by
    rcases Ek.1 k2 with h|h
    ·exact h.1
    have:=sy k h;omega
   omega
  rw[if_neg h1];by_cases h2:x.hi<y.hi
  ·rw[if_pos h2];have ih:=H6 l (y::m) (C8 hl) hm;have z1:∀k,(x.lo<=k/\k<=x.hi)->¬M (y::m) k:=λk h hk=>by
    rcases Ek.1 hk with h'|h'
    ·omega
    have:=sy k h';omega
   cases hc:K3 l (y::m)with
   |some n=>
    rw[hc]at ih;obtain⟨i1,i2,i3⟩:=ih;refine⟨Ek.2 (.inr i1),i2,λk k1 k2=>?_⟩;rcases Ek.1 k1 with h|h
    ·exact absurd k2 (z1 k h)
    exact i3 k h k2
   |none=>
    rw[hc]at ih;intro k k1 k2;rcases Ek.1 k1 with h|h
    ·exact z1 k h k2
    exact ih k h k2
  rw[if_neg h2];have ih:=H6 (x::l) m hl (C8 hm);have z1:∀k,(y.lo<=k/\k<=y.hi)->¬M (x::l) k:=λk h hk=>by
   rcases Ek.1 hk with h'|h'
   ·omega
   have:=sx k h';omega
  cases hc:K3 (x::l) m with
  |some n=>
   rw[hc]at ih;obtain⟨i1,i2,i3⟩:=ih;refine⟨i1,Ek.2 (.inr i2),λk k1 k2=>?_⟩;rcases Ek.1 k2 with h|h
   ·exact absurd k1 (z1 k h)
   exact i3 k k1 h
  |none=>
   rw[hc]at ih;intro k k1 k2;rcases Ek.1 k2 with h|h
   ·exact z1 k h k1
   exact ih k k1 h
termination_by l.length+m.length
def lqB(p q:Prd):Nat->Nat->Option Sy
 |0,_=>none
 |f+1,t=>match K3 (p.getD t []) (q.getD t [])with
  |some n=>some ⟨t,n⟩
  |none=>lqB p q f (t+1)
def E4(p q:Prd):Option Sy:=if Wp (Ee p q)then none else some (Qk (Ee p q))
def y0a{T:Nat}{p:Prd}(h:PWf T p)(t:Nat):Sep (p.getD t []):=by
 by_cases ht:t<p.length
 ·rw[W4 ht];exact(h.2 _ (zT ht)).1
 rw[show p.getD t []=[] by simp[yV,xF (by omega:p.length<=t)]];exact⟨by simp,by simp⟩
def Ut{p:Prd}{t:Nat}{n:Int}:PM p t n↔M (p.getD t []) n:=by
 constructor
 ·rintro⟨s,hs,h⟩;simpa[yV,hs]using h
 intro h;by_cases ht:t<p.length
 ·rw[W4 ht]at h;exact⟨_,zP ht,h⟩
 rw[show p.getD t []=[] by simp[yV,xF (by omega:p.length<=t)]]at h;exact absurd h Mr
def f2k{T:Nat}{p q:Prd}(hp:PWf T p)(hq:PWf T q):lqB p q T 0=E4 p q:=by
 have hw:=Ry hp hq.1;have key:∀(f t:Nat),t+f=T->(∀t' n,t'<t->¬PM (Ee p q) t' n)->lqB p q f t=E4 p q:=by
  intro f;induction f with
  |zero=>intro t ht z1;have:Wp (Ee p q)=true:=(Rn hw).2 λt' n hm=>z1 t' n (by have:=(hw.lt hm).1;omega) hm;rw[lqB,E4,if_pos this]
  |succ f ih=>
   intro t ht z1;have hs:=H6 _ _ (y0a hp t) (y0a hq t);rw[lqB];cases hc:K3 (p.getD t []) (q.getD t [])with
   |some n=>
    rw[hc]at hs;obtain⟨h1,h2,h3⟩:=hs;have hm:PM (Ee p q) t n:=(Ea hp.1 hq.1 t n).2 ⟨Ut.2 h1,Ut.2 h2⟩;have hv:Wp (Ee p q)=false:=(Rs hw).2 ⟨t,n,hm⟩;rw[E4,if_neg (by rw[hv];simp)];obtain⟨g1,g2,g3⟩:=Tv hw ⟨t,n,hm⟩;have z6:=hw.lt hm;show some (⟨(t:Int),n⟩:Sy)=some (Qk (Ee p q))
    congr 1
    rcases g3 ⟨t,n⟩ ⟨by simp,by simpa using z6.1,z6.2⟩ (by simpa using hm)with e|e
    ·exact e.symm
    exfalso;unfold sLt at e;simp only at e;have z8:=g1.1;by_cases hle:(Qk (Ee p q)).ty.toNat<t
    ·exact z1 _ _ hle g2
    have z7:(Qk (Ee p q)).ty=t:=by omega
    rw[z7]at g2;have:=(Ea hp.1 hq.1 t (Qk (Ee p q)).num).1 (by simpa using g2);have:=h3 _ (Ut.1 this.1) (Ut.1 this.2);omega
   |none=>
    rw[hc]at hs;refine ih (t+1) (by omega) λt' n za hm=>?_;by_cases e:t'=t
    ·subst e;have:=(Ea hp.1 hq.1 t' n).1 hm;exact hs n (Ut.1 this.1) (Ut.1 this.2)
    exact z1 t' n (by omega) hm
 exact key T 0 (by omega) (λt' n h=>by omega)
def c0h{T:Nat}{p:Prd}(hp:PWf T p):Ee p p=p:=Il (Ry hp hp.1) hp λt n=>by rw[Ea hp.1 hp.1];simp
def z0f{T:Nat}{p:Prd}(hp:PWf T p):E4 p p=if Wp p then none else some (Qk p):=by rw[E4,c0h hp]
def j1c(a b:Aut)(s:Int×Int):Ww a b s=(Wa a s.1).flatMap λm=>(Wa b s.2).filterMap λn=>(E4 m.on n.on).map λx=>(x,(m.dst,n.dst)):=by
 unfold Ww E4
 congr 1
 funext m
 congr 1
 funext n;split<;>simp
def Dq(a:Aut):Int:=if Wd a≠0 then Wd a else if Hq a=false\/w06 a=false then 3 else 0
def De(a:Aut):Dq a=0↔Dfa a:=by
 unfold Dq;by_cases h:Wd a=0
 ·have z1:=(Yh a).1 h;rw[if_neg (λk=>k h)];have h1:=Ao z1.wfA;have h2:w06 a=true↔z0x a:=by rw[<-x0b z1.wfA,q0h];unfold w06;rw[yE];simp only[xD];exact forall_congr' λs=>forall_congr' λ_=>by rw[v2n z1.wfA]
  constructor
  ·intro k;split at k
   ·cases k
   rename_i hn;refine⟨z1,h1.1 ?_,h2.1 ?_⟩
   ·cases hs:Hq a
    ·exact absurd (.inl hs) hn
    rfl
   cases hs:w06 a
   ·exact absurd (.inr hs) hn
   rfl
  intro k;rw[if_neg];rintro(hs|hs)
  ·rw[h1.2 k.det]at hs;cases hs
  rw[h2.2 k.full]at hs;cases hs
 rw[if_pos h];exact⟨λk=>absurd k h,λk=>absurd ((Yh a).2 k.ok) h⟩
section
open Go Go.Proofs
attribute [simp] T68 T70 T87 T73 T23 T22 T25 T52 T26 T88
@[simp] def encP (p:Prd):AV:= .agg [.list (p.map encL)]
abbrev LP (l:List Prd):AV:= .list (l.map encP)
@[simp] def encSy (x:Sy):AV:= .agg [.i x.ty,.i x.num]
@[simp] def encMv (m:Mv):AV:= .agg [.i m.src,.i m.dst,.list (m.on.map encL)]
@[simp] def encA (a:Aut):AV:= .agg [.i a.types,.list (a.fin.map .bool),.list (a.mv.map encMv)]
attribute [local irreducible] ckR
def Di(T:Int)(p:Prd):PC prog 58 [.i T,encP p] (λr=>r= .i (Ra T p)):=by
 refine pcB func58 results58 ntmps58 ?_;simp only[Qe];simp only[encP];refine Wf 1 0 rfl rfl (λhlen=>?_);rw[yL]at hlen;repeat(refine s_ ?_;simp)
 refine Qa rfl (λh=>?_) (λh=>?_)
 ·repeat(refine s_ ?_;simp)
  rw[Ra,if_pos (by simpa using h)]
 have h':¬(T<1\/16<T):=by simpa using h
 repeat(refine s_ ?_;simp)
 refine Qa rfl (λh2=>?_) (λh2=>?_)
 ·repeat(refine s_ ?_;simp)
  rw[Ra,if_neg h',if_pos (by simpa using h2)]
 have z7:(p.length:Int)=T:=by simpa using h2
 have hE:Ra T p=u0q p:=by rw[Ra,if_neg h',if_neg (by simpa using z7)]
 rw[hE];repeat(refine s_ ?_;simp)
 refine Qu p.length (λj=>u0q p=u0q (p.drop j)) (λj=>[(22,.list (p.map encL)),(23,.i p.length),(24,.i j)]) (λ_=>[]) rfl (by simp) (by simp) (by simp) (by simp) (by simp) ?_;intro j hj hI ih;repeat(refine s_ ?_;simp)
 refine Qa rfl (λz8=>?_) (λza=>?_)
 ·have z1:j<p.length:=by simpa using z8
  have hw:=wz j (by omega);rw[Ec z1,u0q]at hI;repeat(refine s_ ?_;simp[z1])
  refine pcL (v0h p[j]) ?_;simp;repeat(refine s_ ?_;simp)
  refine Qa rfl (λh3=>?_) (λh3=>?_)
  ·repeat(refine s_ ?_;simp)
   rw[hI,if_pos (by simpa using h3)]
  rw[if_neg (by simpa using h3)]at hI;repeat(refine s_ ?_;simp[hw])
  refine Qs _ (ih z1 hI) rfl (by simp) ?_ (by simp) (by simp);simp
 have z6:j=p.length:=by simp at za;omega
 subst z6;repeat(refine s_ ?_;simp)
 rw[hI,x_];rfl
def j0f(T:Int)(p:Prd):PC prog 158 [.i T,encP p] (λr=>r= .i (Ra T p)):=by
 refine pcB func158 results158 ntmps158 ?_;simp only[Qe];simp only[encP];refine Wf 1 0 rfl rfl (λhlen=>?_);rw[yL]at hlen;repeat(refine s_ ?_;simp)
 refine Qa rfl (λh=>?_) (λh=>?_)
 ·repeat(refine s_ ?_;simp)
  rw[Ra,if_pos (by simpa using h)]
 have h':¬(T<1\/16<T):=by simpa using h
 repeat(refine s_ ?_;simp)
 refine Qa rfl (λh2=>?_) (λh2=>?_)
 ·repeat(refine s_ ?_;simp)
  rw[Ra,if_neg h',if_pos (by simpa using h2)]
 have z7:(p.length:Int)=T:=by simpa using h2
 have hE:Ra T p=u0q p:=by rw[Ra,if_neg h',if_neg (by simpa using z7)]
 rw[hE];repeat(refine s_ ?_;simp)
 refine Qu p.length (λj=>u0q p=u0q (p.drop j)) (λj=>[(0,.i T),(3,.vptr 0 0),(5,.i j)]) (λ_=>[.vars [.list (p.map encL)]]) rfl (by simp) (by simp) (by simp) (by simp) (by simp) ?_;intro j hj hI ih;repeat(refine s_ ?_;simp)
 refine Qa rfl (λz8=>?_) (λza=>?_)
 ·have z1:j<p.length:=by have k:(j:Int)<T:=(by simpa using z8);omega
  have hw:=wz j (by omega);rw[Ec z1,u0q]at hI;repeat(refine s_ ?_;simp[z1])
  refine pcL (d0i p[j]) ?_;simp;repeat(refine s_ ?_;simp)
  refine Qa rfl (λh3=>?_) (λh3=>?_)
  ·repeat(refine s_ ?_;simp)
   rw[hI,if_pos (by simpa using h3)]
  rw[if_neg (by simpa using h3)]at hI;repeat(refine s_ ?_;simp[hw])
  refine Qs _ (ih z1 hI) rfl (by simp) ?_ (by simp) (by simp);simp
 have z6:j=p.length:=by have k:¬(j:Int)<T:=(by simpa using za);omega
 subst z6;repeat(refine s_ ?_;simp)
 rw[hI,x_];rfl
end
section
open Go Go.Proofs
def Kp:List Prd->Int
 |[]=>0
 |p::r=>if Ra p.length p≠0 then Ra p.length p else Kp r
attribute [local irreducible] Ra
def Ll(l:List Prd):PC prog 102 [LP l] (λr=>r= .i (Kp l)):=by
 refine pcB func102 results102 ntmps102 ?_;simp only[Qe];refine Tw 0 rfl (λhlen=>?_);rw[yL]at hlen;repeat(refine s_ ?_;simp)
 refine Qu l.length (λj=>Kp l=Kp (l.drop j)) (λj=>[(6,LP l),(7,.i l.length),(8,.i j)]) (λ_=>[]) rfl (by simp) (by simp) (by simp) (by simp) (by simp) ?_;intro j hj hI ih;repeat(refine s_ ?_;simp)
 refine Qa rfl (λz7=>?_) (λz8=>?_)
 ·have z1:j<l.length:=by simpa using z7
  have hw:=wz j (by omega);rw[Ec z1,Kp]at hI;repeat(refine s_ ?_;simp[z1])
  refine pcL (Di l[j].length l[j]) ?_;simp;repeat(refine s_ ?_;simp)
  refine Qa rfl (λh3=>?_) (λh3=>?_)
  ·repeat(refine s_ ?_;simp)
   rw[hI,if_pos (by simpa using h3)]
  rw[if_neg (by simpa using h3)]at hI;repeat(refine s_ ?_;simp[hw])
  refine Qs _ (ih z1 hI) rfl (by simp) ?_ (by simp) (by simp);simp
 have z6:j=l.length:=by simp at z8;omega
 subst z6;repeat(refine s_ ?_;simp)
 rw[hI,x_];rfl
def q1w(p:Prd)(x:Sy):Int:=if Kp [p]≠0 then Kp [p]else Ky p.length x
def V8(p:Prd)(x:Sy):Bool×Int:=if q1w p x≠0 then(false,q1w p x)else(Ti p x,0)
attribute [local irreducible] Kp f1h
def c1y{T:Int}{p:Prd}(h:Ra T p=0):Kp [p]=0/\(p.length:Int)=T:=by
 obtain⟨h1,h2⟩:=(Ef T p).1 h;have hl:(p.length:Int)=T:=by have:=h2.1;omega
 exact⟨by unfold Kp;rw[hl,if_neg (λk=>k h)];unfold Kp;rfl,hl⟩
def f0k{p:Prd}(h:Kp [p]=0):∀s∈p,CanonL s:=by
 unfold Kp at h;by_cases hc:Ra p.length p=0
 ·exact((Ef _ p).1 hc).2.2
 rw[if_pos hc]at h;exact absurd h hc
def Ya(p:Prd)(x:Sy):PC prog 43 [encP p,encSy x] (λr=>r= .tup [.bool (V8 p x).1,.i (V8 p x).2]):=by
 refine pcB func43 results43 ntmps43 ?_;simp only[Qe];simp only[encP,encSy];refine Wf 0 0 rfl rfl (λhlen=>?_);rw[yL]at hlen;repeat(refine s_ ?_;simp)
 refine Fl 2 rfl ?_;simp;refine pcL (Ll [p]) ?_;simp;repeat(refine s_ ?_;simp)
 refine Qa rfl (λh=>?_) (λh=>?_)
 ·repeat(refine s_ ?_;simp)
  have h':Kp [p]≠0:=by simpa using h
  have hE:q1w p x=Kp [p]:=by rw[q1w,if_pos h']
  rw[V8,hE,if_pos h'];exact⟨rfl,rfl⟩
 have h':Kp [p]=0:=by simpa using h
 have hE:q1w p x=Ky p.length x:=by rw[q1w,if_neg (λk=>k h')]
 repeat(refine s_ ?_;simp)
 refine Qa rfl (λh1=>?_) (λh1=>?_)
 ·repeat(refine s_ ?_;simp)
  have z6:x.ty<0\/(p.length:Int)<=x.ty:=by simpa using h1
  have z1:q1w p x=6:=by rw[hE,Ky,if_pos z6]
  rw[V8,z1];exact⟨rfl,rfl⟩
 have z6:¬(x.ty<0\/(p.length:Int)<=x.ty):=by simpa using h1
 repeat(refine s_ ?_;simp)
 refine Qa rfl (λh2=>?_) (λh2=>?_)
 ·repeat(refine s_ ?_;simp)
  have z7:x.num< -1099511627776\/1099511627776<x.num:=by simpa using h2
  have z1:q1w p x=2:=by rw[hE,Ky,if_neg z6,if_pos z7]
  rw[V8,z1];exact⟨rfl,rfl⟩
 have z7:¬(x.num< -1099511627776\/1099511627776<x.num):=by simpa using h2
 have z1:q1w p x=0:=by rw[hE,Ky,if_neg z6,if_neg z7]
 repeat(refine s_ ?_;simp)
 have zb:0<=x.ty:=by omega
 have zc:x.ty<(p.length:Int):=by omega
 have z8:x.ty.toNat<p.length:=by omega
 refine Qn tOk mixed [] (.val 0 (.val 1 (.val 2 (.val 3 (.val 4 (.val 5 (.val 6 (.val 7 (.one 8 (.val 9 (.val 10 (.val 11 (.val 12 (.done)))))))))))))) rfl (by kernel_rfl) ?_;simp[zb,zc,z8];refine pcL (Jd p[x.ty.toNat] x.num) ?_;simp;repeat(refine s_ ?_;simp)
 have hc:=f0k h' _ (zT z8);have za:f1h p[x.ty.toNat] x.num=(Kj p[x.ty.toNat] x.num,0):=by rw[f1h,if_pos ((Bk _).2 hc)]
 rw[V8,z1,if_neg (λk=>k rfl),za];refine⟨?_,rfl⟩;simp[Ti,zb,zc,yV,z8]
def w05{T:Int}{p:Prd}(h:Ra T p=0)(x:Sy):V8 p x=if Ky T x≠0 then(false,Ky T x)else(Ti p x,0):=by
 obtain⟨h1,h2⟩:=c1y h;have hE:q1w p x=Ky T x:=by rw[q1w,if_neg (λk=>k h1),h2]
 rw[V8,hE]
end
section
open Go Go.Proofs
abbrev Ql (a:Aut):List AV:=[.i a.types,.list (a.fin.map .bool),.list (a.mv.map encMv)]
def w2a(p:Prd)(x:Sy):PC prog 170 [encP p,encSy x] (λr=>r= .bool ((V8 p x).2==0 && (V8 p x).1)):=by
 refine pcB func170 results170 ntmps170 ?_;simp only[Qe];simp only[encP,encSy];repeat(refine s_ ?_;simp)
 refine pcL (Ya p x) ?_;simp;repeat(refine s_ ?_;simp)
def Md(p:Prd)(x:Sy):PC prog 45 [encP p,encSy x] (λr=>r= .bool ((V8 p x).1 && (V8 p x).2==0)):=by
 refine pcB func45 results45 ntmps45 ?_;simp only[Qe];simp only[encP,encSy];repeat(refine s_ ?_;simp)
 refine pcL (Ya p x) ?_;simp;repeat(refine s_ ?_;simp)
def stB(a:Aut)(n:Int):Bool:=decide (0<=n) && decide (n<a.fin.length)
def Xo(a:Aut)(n:Int):stB a n=true↔0<=n/\n<a.fin.length:=by simp[stB]
def C1(H:List AObj)(id:Nat)(a:Aut)(hid:H[id]?=some (.vars (Ql a)))(n:Int):FC prog 98 [.i n,.vptr id 0] H (λr H'=>r= .bool (stB a n)/\H'=H):=by refine fcB func98 results98 ntmps98 ?_;simp only[Qe];repeat(refine s_ ?_;simp[hid,stB])
attribute [local irreducible] Ra stB
def Tg(a:Aut):PC prog 41 [encA a] (λr=>r= .i (Wd a)):=by
 refine pcB func41 results41 ntmps41 ?_;simp only[Qe];simp only[encA];refine Wf 0 1 rfl rfl (λz7=>?_);refine Wf 0 2 rfl rfl (λz8=>?_);rw[yL]at z7 z8;repeat(refine s_ ?_;simp)
 refine Qa rfl (λh=>?_) (λh=>?_)
 ·repeat(refine s_ ?_;simp)
  rw[Wd,if_pos (by simpa using h)]
 have h1:¬(a.types<1\/16<a.types):=by simpa using h
 repeat(refine s_ ?_;simp)
 refine Qa rfl (λh=>?_) (λh=>?_)
 ·repeat(refine s_ ?_;simp)
  rw[Wd,if_neg h1,if_pos];simp at h;omega
 have h2:¬(a.fin.length<1\/256<a.fin.length\/2048<a.mv.length):=by simp at h;omega
 have hE:Wd a=k0s a.types a.fin.length a.mv:=by rw[Wd,if_neg h1,if_neg h2]
 rw[hE];repeat(refine s_ ?_;simp)
 refine Qu a.mv.length (λj=>k0s a.types a.fin.length a.mv=k0s a.types a.fin.length (a.mv.drop j)) (λj=>[(1,.vptr 0 0),(3,.fn (.func 98) [] [.vptr 0 0]),(33,.list (a.mv.map encMv)),(34,.i a.mv.length),(35,.i j)]) (λ_=>[.vars (Ql a)]) rfl (by simp) (by simp) (by simp) (by simp) (by simp) ?_;intro j hj hI ih;repeat(refine s_ ?_;simp)
 refine Qa rfl (λza=>?_) (λzb=>?_)
 ·have z1:j<a.mv.length:=by simpa using za
  have hw:=wz j (by omega);rw[Ec z1,k0s]at hI;repeat(refine s_ ?_;simp[z1])
  cases hb:stB a a.mv[j].src with
  |false=>
   refine Q0 rfl rfl (C1 _ 0 a rfl a.mv[j].src) rfl ?_;rintro r H' ⟨rfl,rfl⟩;simp[hb];repeat(refine s_ ?_;simp)
   refine Wg rfl rfl ?_;simp;refine Qv rfl ?_;repeat(refine s_ ?_;simp)
   rw[hI,if_pos (λk=>by rw[(Xo _ _).2 k.1]at hb;cases hb)]
  |true=>
   refine Q0 rfl rfl (C1 _ 0 a rfl a.mv[j].src) rfl ?_;rintro r H' ⟨rfl,rfl⟩;simp[hb];repeat(refine s_ ?_;simp)
   refine Q0 rfl rfl (C1 _ 0 a rfl a.mv[j].dst) rfl ?_;rintro r H' ⟨rfl,rfl⟩;simp;repeat(refine s_ ?_;simp)
   refine Qa rfl (λh3=>?_) (λh3=>?_)
   ·repeat(refine s_ ?_;simp)
    rw[hI,if_pos (λk=>by rw[(Xo _ _).2 k.2]at h3;cases h3)]
   have hd:stB a a.mv[j].dst=true:=by simpa using h3
   rw[if_neg (λk=>k ⟨(Xo _ _).1 hb,(Xo _ _).1 hd⟩)]at hI;repeat(refine s_ ?_;simp)
   refine pcL (Di a.types a.mv[j].on) ?_;simp;repeat(refine s_ ?_;simp)
   refine Qa rfl (λh4=>?_) (λh4=>?_)
   ·repeat(refine s_ ?_;simp)
    rw[hI,if_pos (by simpa using h4)]
   rw[if_neg (by simpa using h4)]at hI;repeat(refine s_ ?_;simp[hw])
   refine Qs _ (ih z1 hI) rfl (by simp) ?_ (by simp) (by simp);simp
 have z6:j=a.mv.length:=by simp at zb;omega
 subst z6;repeat(refine s_ ?_;simp)
 rw[hI,x_];rfl
def Lo(a:Aut):PC prog 90 [encA a] (λr=>r= .i (Wd a)):=by
 refine pcB func90 results90 ntmps90 ?_;simp only[Qe];simp only[encA];refine Wf 0 1 rfl rfl (λz7=>?_);refine Wf 0 2 rfl rfl (λz8=>?_);rw[yL]at z7 z8;repeat(refine s_ ?_;simp)
 refine Qa rfl (λh=>?_) (λh=>?_)
 ·repeat(refine s_ ?_;simp)
  rw[Wd,if_pos (by simpa using h)]
 have h1:¬(a.types<1\/16<a.types):=by simpa using h
 repeat(refine s_ ?_;simp)
 refine Qa rfl (λh=>?_) (λh=>?_)
 ·repeat(refine s_ ?_;simp)
  rw[Wd,if_neg h1,if_pos];simp at h;omega
 have h2:¬(a.fin.length<1\/256<a.fin.length\/2048<a.mv.length):=by simp at h;omega
 have hE:Wd a=k0s a.types a.fin.length a.mv:=by rw[Wd,if_neg h1,if_neg h2]
 rw[hE];repeat(refine s_ ?_;simp)
 refine Qu a.mv.length (λj=>k0s a.types a.fin.length a.mv=k0s a.types a.fin.length (a.mv.drop j)) (λj=>[(1,.vptr 0 0),(3,.i a.fin.length),(4,.i j)]) (λ_=>[.vars (Ql a)]) rfl (by simp) (by simp) (by simp) (by simp) (by simp) ?_;intro j hj hI ih;repeat(refine s_ ?_;simp)
 refine Qa rfl (λza=>?_) (λzb=>?_)
 ·have z1:j<a.mv.length:=by simpa using za
  have hw:=wz j (by omega);rw[Ec z1,k0s]at hI;repeat(refine s_ ?_;simp[z1])
  refine Qa rfl (λh3=>?_) (λh3=>?_)
  ·repeat(refine s_ ?_;simp)
   rw[hI,if_pos];simp at h3;omega
  rw[if_neg (by simp at h3 |-;omega)]at hI;repeat(refine s_ ?_;simp)
  refine pcL (j0f a.types a.mv[j].on) ?_;simp;repeat(refine s_ ?_;simp)
  refine Qa rfl (λh4=>?_) (λh4=>?_)
  ·repeat(refine s_ ?_;simp)
   rw[hI,if_pos (by simpa using h4)]
  rw[if_neg (by simpa using h4)]at hI;repeat(refine s_ ?_;simp[hw])
  refine Qs _ (ih z1 hI) rfl (by simp) ?_ (by simp) (by simp);simp
 have z6:j=a.mv.length:=by simp at zb;omega
 subst z6;repeat(refine s_ ?_;simp)
 rw[hI,x_];rfl
end
section
open Go Go.Proofs
attribute [local irreducible] ckR Kj
attribute [local irreducible] q0e E5
def Vp(x:Iv)(r:List Iv)(n:Int):R3 (x::r) n=(if n<x.lo then [⟨n,x.lo - 1⟩]else [])++R3 r (x.hi+1):=rfl
def Mj(n:Int):R3 [] n=if n<=1099511627776 then [⟨n,1099511627776⟩]else []:=rfl
def f1c(l:List Iv):R3 l (-1099511627776)=E9 l:=rfl
attribute [local irreducible] E9 R3
end
end Go.Abs
