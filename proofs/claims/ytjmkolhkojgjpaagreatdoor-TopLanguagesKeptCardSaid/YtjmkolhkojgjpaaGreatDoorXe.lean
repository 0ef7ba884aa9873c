/- Part Xe of the proof: steps on the way to the last part. No condition. -/
import Derived.Test.YtjmkolhkojgjpaaGreatDoorXd
set_option linter.all false
open Nat renaming zero_le->xI,le_refl->zR,le_trans->yP,lt_trichotomy->w_
open List renaming nodup_cons->uH,length_cons->yW,getElem?_eq_some_iff->zB,pairwise_iff_getElem->yL,mem_map->zQ,mem_append->zT,mem_singleton->zO,mem_append_left->yV,getElem?_append_left->zF,mem_of_getElem?->zJ,foldl_append->wQ,pairwise_append->yE,map_append->yR,nodup_append->vw,mem_append_right->vI,nil_append->vU,reverse_cons->uJ,mem_iff_getElem?->yH,reverse_reverse->uv,getElem?_eq_none_iff->u_,find?_eq_none->vN,mem_of_find?_eq_some->vG,find?_some->uR,find?_cons->tS,pairwise_map->xM,length_flatMap->vX,map_congr_left->y_,map_const'->uj,sum_replicate_nat->ug,mem_flatMap->xS,mem_filter->xH,mem_filterMap->wI,mem_cons->zX,pairwise_flatMap->vF,any_eq_true->wM,map_map->vT,length_map->yO,foldl_cons->xU,range->yU,findIdx?_eq_none_iff->vR,findIdx?_eq_some_iff_getElem->xP,getElem?_eq_getElem->zI,getElem?_append_right->zH,getElem_mem->zL,getD->yQ,perm_middle->vM,take_append_drop->xO,pairwise_cons->yK,perm_ext_iff_of_nodup->u7,getElem?_eq_none->yY,mem_range->xJ,length_append->zW,length->ud,findIdx?_cons->tE,ext_getElem->xZ,getElem_map->uA,flatMap_def->uY,map_cons->xC,sum_cons->sc,foldl_nil->th,getElem_of_mem->yZ,pairwise_mergeSort->ul,mergeSort_perm->vJ,eq_nil_iff_forall_not_mem->wZ,drop_length->xY
open Int renaming le_refl->xK,toNat_natCast->vS
open Bool renaming eq_iff_iff->wK,and_eq_true->yF,or_eq_true->wV
open Option renaming map_some->wG,getD_some->wA
open Prod renaming ext->vY,ext_iff->tj
set_option maxHeartbeats 2000000
set_option linter.unusedSimpArgs false
set_option maxRecDepth 100000
open Go.Proofs.Tryz
namespace Go.Abs
section
def sLt(x y:Sy):Prop:=x.ty<y.ty\/(x.ty=y.ty/\x.num<y.num)
def sLt.irr{x:Sy}(h:sLt x x):False:=by unfold sLt at h;omega
def sLt.trans{x y z:Sy}(h:sLt x y)(k:sLt y z):sLt x z:=by unfold sLt at *;omega
def sLt.tri(x y:Sy):sLt x y\/x=y\/sLt y x:=by cases x;cases y;unfold sLt;simp only[Sy.mk.injEq];omega
def y0h:List Sy->List Sy->Prop
 |x::v,y::w=>sLt x y\/(x=y/\y0h v w)
 |_,_=>False
def ll(v w:List Sy):Prop:=v.length<w.length\/(v.length=w.length/\y0h v w)
def lle(v w:List Sy):Prop:=v=w\/ll v w
def y0h.irr:∀ {v:List Sy},¬y0h v v
 |[],h=>h
 |x::v,h=>by
  rcases h with h|⟨_,h⟩
  ·exact h.irr
  exact y0h.irr h
def y0h.trans:∀ {u v w:List Sy},y0h u v->y0h v w->y0h u w
 |[],_,_,h,_=>h.elim
 |_::_,[],_,h,_=>h.elim
 |_::_,_::_,[],_,k=>k.elim
 |x::u,y::v,z::w,h,k=>by
  rcases h with h|⟨rfl,h⟩
  ·rcases k with k|⟨rfl,k⟩
   ·exact .inl (h.trans k)
   exact .inl h
  rcases k with k|⟨rfl,k⟩
  ·exact .inl k
  exact .inr ⟨rfl,h.trans k⟩
def ll.irr{v:List Sy}(h:ll v v):False:=by
 rcases h with h|⟨_,h⟩
 ·omega
 exact y0h.irr h
def ll.trans{u v w:List Sy}(h:ll u v)(k:ll v w):ll u w:=by
 rcases h with h|⟨h1,h2⟩
 ·rcases k with k|⟨k1,_⟩
  ·exact .inl (by omega)
  exact .inl (by omega)
 rcases k with k|⟨k1,k2⟩
 ·exact .inl (by omega)
 exact .inr ⟨by omega,h2.trans k2⟩
def lle.refl(v:List Sy):lle v v:= .inl rfl
def lle.trans{u v w:List Sy}(h:lle u v)(k:lle v w):lle u w:=by
 rcases h with rfl|h
 ·exact k
 rcases k with rfl|k
 ·exact .inr h
 exact .inr (h.trans k)
def ll.lle{u v w:List Sy}(h:ll u v)(k:lle v w):ll u w:=by
 rcases k with rfl|k
 ·exact h
 exact h.trans k
def lle.anti{u v:List Sy}(h:lle u v)(k:lle v u):u=v:=by
 rcases h with rfl|h
 ·rfl
 exact((h.lle k).irr).elim
def z01:∀ {u v:List Sy} (a b:List Sy),u.length=v.length->y0h u v->y0h (u++a) (v++b)
 |[],_,_,_,_,h=>h.elim
 |_::_,[],_,_,_,h=>h.elim
 |x::u,y::v,a,b,e,h=>by
  rcases h with h|⟨rfl,h⟩
  ·exact .inl h
  exact .inr ⟨rfl,z01 a b (by simpa using e) h⟩
def z06:∀(u:List Sy) {a b:List Sy},y0h a b->y0h (u++a) (u++b)
 |[],_,_,h=>h
 |_::u,_,_,h=> .inr ⟨rfl,z06 u h⟩
def z1r{u v:List Sy}(h:ll u v)(x y:Sy):ll (u++[x]) (v++[y]):=by
 rcases h with h|⟨h1,h2⟩
 ·exact .inl (by simp;omega)
 exact .inr ⟨by simp;omega,z01 _ _ h1 h2⟩
def z0i(u:List Sy){x y:Sy}(h:sLt x y):ll (u++[x]) (u++[y]):= .inr ⟨by simp,z06 u (.inl h)⟩
def x1x{u v:List Sy}(h:lle u v){x y:Sy}(k:x=y\/sLt x y):lle (u++[x]) (v++[y]):=by
 rcases h with rfl|h
 ·rcases k with rfl|k
  ·exact .inl rfl
  exact .inr (z0i _ k)
 exact .inr (z1r h x y)
def z2u(u:List Sy)(x:Sy):ll u (u++[x]):= .inl (by simp)
def Ts{α:Type}[DecidableEq α]:∀(l U:List α),l.Nodup->(∀x∈l,x∈U)->l.length<=U.length
 |[],_,_,_=>xI _
 |x::l,U,hn,h=>by have hx:=h x (by simp);have hc:=uH.1 hn;have ih:=Ts l (U.erase x) hc.2 (λy hy=>(List.mem_erase_of_ne (λe=>hc.1 (by rw[<-e];exact hy))).2 (h y (by simp[hy])));rw[List.length_erase_of_mem hx]at ih;have:=List.length_pos_of_mem hx;simp only[yW];omega
section
variable {σ:Type} [DecidableEq σ] (ok:Sy->Prop) (step:σ->Sy->σ) (good:σ->Bool)
def Tt(s:σ)(w:List Sy):σ:=w.foldl step s
structure FirstW (s:σ) (w:List Sy):Prop where
 okw:∀x∈w,ok x
 goodw:good (Tt step s w)=true
 least:∀v,(∀x∈v,ok x)->good (Tt step s v)=true->lle w v
variable {ok step good}
theorem FirstW.unique{s:σ}{v w:List Sy}(h:FirstW ok step good s v)(k:FirstW ok step good s w):v=w:=
 (h.least w k.okw k.goodw).anti (k.least v h.okw h.goodw)
variable (ok step good)
structure SuccOk (s:σ) (l:List (Sy×σ)):Prop where
 asc:l.Pairwise (λa b=>sLt a.1 b.1)
 mem:∀e∈l,ok e.1/\e.2=step s e.1
 cov:∀y,ok y->∃e∈l,e.2=step s y/\(e.1=y\/sLt e.1 y)
variable (succ:σ->List (Sy×σ))
def j0i(l:List (σ×List Sy))(t:σ)(w:List Sy):List (σ×List Sy):=if t∈l.map (·.1)then l else l++[(t,w)]
def Ev(l:List (σ×List Sy))(w:List Sy)(es:List (Sy×σ)):List (σ×List Sy):=es.foldl (λl e=>j0i l e.2 (w++[e.1])) l
def Vc:Nat->Nat->List (σ×List Sy)->Option (List Sy)×List (σ×List Sy)
 |0,_,l=>(none,l)
 |f+1,n,l=>match l[n]? with
  |none=>(none,l)
  |some (s,w)=>if good s then(some w,l)else Vc f (n+1) (Ev l w (succ s))
variable (s0:σ) (G:σ->Prop)
structure BInv (n:Nat) (L:List (σ×List Sy)) (done:List (Sy×σ)):Prop where
 first:L[0]?=some (s0,[])
 mem:∀e∈L,(∀x∈e.2,ok x)/\Tt step s0 e.2=e.1/\G e.1
 asc:L.Pairwise (λa b=>ll a.2 b.2)
 nd:(L.map (·.1)).Nodup
 bad:∀i s w,i<n->L[i]?=some (s,w)->good s=false
 cls:∀i s w,i<n->L[i]?=some (s,w)->∀e∈succ s,∃v,(e.2,v)∈L/\lle v (w++[e.1])
 cur:∀s w,L[n]?=some (s,w)->∀e∈done,∃v,(e.2,v)∈L/\lle v (w++[e.1])
 org:∀d∈L,d.2=[]\/∃i s w x,L[i]?=some (s,w)/\d.2=w++[x]/\(i<n\/(i=n/\∃e∈done,e.1=x))
variable {ok step good succ s0 G}
theorem BInv.low{n:Nat}{L:List (σ×List Sy)}{done:List (Sy×σ)}(h:BInv ok step good succ s0 G n L done){s:σ}{w:List Sy}(hn:L[n]?=some (s,w))(x:Sy)(hx:∀e∈done,sLt e.1 x):∀e∈L,ll e.2 (w++[x]):=by
 intro d hd;rcases h.org d hd with e|⟨i,s',w',y,hi,e,hc⟩
 ·rw[e];exact .inl (by simp)
 rw[e];rcases hc with hc|⟨rfl,c,hc,rfl⟩
 ·obtain⟨h1,h2⟩:=zB.1 hi;obtain⟨h3,h4⟩:=zB.1 hn;have:=yL.1 h.asc i n h1 h3 hc;rw[h2,h4]at this;exact z1r this _ _
 rw[hn]at hi;cases hi;exact z0i _ (hx c hc)
theorem BInv.add {n:Nat} {L:List (σ×List Sy)} {done:List (Sy×σ)} (h:BInv ok step good succ s0 G n L done) {s:σ} {w:List Sy} (hn:L[n]?=some (s,w)) {e:Sy×σ} (he:ok e.1/\e.2=step s e.1) (hG:G e.2)
  (z8:∀d∈done,sLt d.1 e.1):BInv ok step good succ s0 G n (j0i L e.2 (w++[e.1])) (done++[e])/\(j0i L e.2 (w++[e.1]))[n]?=some (s,w):=by
 have zb:=(zB.1 hn).1;have z7:=h.low hn e.1 z8;unfold j0i;by_cases hin:e.2∈L.map (·.1)
 ·rw[if_pos hin];obtain⟨⟨t,v⟩,hv,ht⟩:=zQ.1 hin;simp only at ht;subst ht;refine⟨⟨h.first,h.mem,h.asc,h.nd,h.bad,h.cls,λs' w' z6 d hd=>?_,λd hd=>?_⟩,hn⟩
  ·rw[hn]at z6;cases z6;rcases zT.1 hd with hd|hd
   ·exact h.cur s w hn d hd
   obtain rfl:=zO.1 hd;exact⟨v,hv,.inr (z7 _ hv)⟩
  rcases h.org d hd with e'|⟨i,s',w',y,hi,e',hc⟩
  ·exact .inl e'
  exact .inr ⟨i,s',w',y,hi,e',hc.imp id λ⟨k1,c,k2,k3⟩=>⟨k1,c,yV _ k2,k3⟩⟩
 rw[if_neg hin];have z1:∀i,i<=n->(L++[(e.2,w++[e.1])])[i]? =L[i]? :=λi hi=>zF (by omega);have hw:=h.mem _ (zJ hn);refine⟨⟨by rw[z1 0 (xI _)];exact h.first,λd hd=>?_,?_,?_,λi s' w' hi z6=>h.bad i s' w' hi (by rw[<-z1 i (by omega)];exact z6),λi s' w' hi z6 d hd=>?_,λs' w' z6 d hd=>?_,λd hd=>?_⟩,by rw[z1 n (zR _)];exact hn⟩
 ·rcases zT.1 hd with hd|hd
  ·exact h.mem d hd
  obtain rfl:=zO.1 hd;refine⟨λx hx=>?_,?_,hG⟩
  ·rcases zT.1 hx with hx|hx
   ·exact hw.1 x hx
   obtain rfl:=zO.1 hx;exact he.1
  show Tt step s0 (w++[e.1])=e.2;have h2:Tt step s0 w=s:=hw.2.1;rw[Tt,wQ];show step (Tt step s0 w) e.1=e.2;rw[h2,he.2]
 ·exact yE.2 ⟨h.asc,by simp,λa ha b hb=>by obtain rfl:=zO.1 hb;exact z7 a ha⟩
 ·rw[yR];exact vw.2 ⟨h.nd,by simp,λa ha b hb e'=>by
   simp at hb;subst hb;subst e';exact hin ha⟩
 ·rw[z1 i (by omega)]at z6;obtain⟨v,hv,hl⟩:=h.cls i s' w' hi z6 d hd;exact⟨v,yV _ hv,hl⟩
 ·rw[z1 n (zR _),hn]at z6;cases z6;rcases zT.1 hd with hd|hd
  ·obtain⟨v,hv,hl⟩:=h.cur s w hn d hd;exact⟨v,yV _ hv,hl⟩
  obtain rfl:=zO.1 hd;exact⟨_,vI _ (by simp),.inl rfl⟩
 rcases zT.1 hd with hd|hd
 ·rcases h.org d hd with e'|⟨i,s',w',y,hi,e',hc⟩
  ·exact .inl e'
  have za:i<=n:=by rcases hc with hc|hc<;>omega
  exact .inr ⟨i,s',w',y,by rw[z1 i za];exact hi,e',hc.imp id λ⟨k1,c,k2,k3⟩=>⟨k1,c,yV _ k2,k3⟩⟩
 obtain rfl:=zO.1 hd;exact .inr ⟨n,s,w,e.1,by rw[z1 n (zR _)];exact hn,rfl,.inr ⟨rfl,e,by simp,rfl⟩⟩
theorem BInv.round{n:Nat}:∀(es:List (Sy×σ)) (done:List (Sy×σ)) (L:List (σ×List Sy)) {s:σ} {w:List Sy},BInv ok step good succ s0 G n L done->L[n]?=some (s,w)->(∀e∈es,ok e.1/\e.2=step s e.1)->(∀e∈es,G e.2)->
  (done++es).Pairwise (λa b=>sLt a.1 b.1)->BInv ok step good succ s0 G n (Ev L w es) (done++es)/\(Ev L w es)[n]?=some (s,w)
 |[],done,L,s,w,h,hn,_,_,_=>by simpa[Ev]using⟨h,hn⟩
 |e::es,done,L,s,w,h,hn,hm,hG,hp=>by have z1:∀d∈done,sLt d.1 e.1:=λd hd=>(yE.1 hp).2.2 d hd e (by simp);obtain⟨h1,h2⟩:=h.add hn (hm e (by simp)) (hG e (by simp)) z1;have:=BInv.round es (done++[e]) _ h1 h2 (λd hd=>hm d (by simp[hd])) (λd hd=>hG d (by simp[hd])) (by simpa using hp);simpa[Ev]using this
theorem BInv.next{n:Nat}{L:List (σ×List Sy)}{s:σ}{w:List Sy}(h:BInv ok step good succ s0 G n L [])(hn:L[n]?=some (s,w))(hg:good s=false)(hs:SuccOk ok step s (succ s))(hG:∀e∈succ s,G e.2):
  BInv ok step good succ s0 G (n+1) (Ev L w (succ s)) []:=by
 obtain⟨h1,h2⟩:=h.round (succ s) [] L hn hs.mem hG (by simpa using hs.asc);rw[vU]at h1;refine⟨h1.first,h1.mem,h1.asc,h1.nd,λi s' w' hi z1=>?_,λi s' w' hi z1 d hd=>?_,λ_ _ _ _ hd=>(by cases hd),λd hd=>?_⟩
 ·by_cases hin:i<n
  ·exact h1.bad i s' w' hin z1
  have:i=n:=by omega
  subst this;rw[h2]at z1;cases z1;exact hg
 ·by_cases hin:i<n
  ·exact h1.cls i s' w' hin z1 d hd
  have:i=n:=by omega
  subst this;rw[h2]at z1;cases z1;exact h1.cur s w h2 d hd
 rcases h1.org d hd with e'|⟨i,s',w',y,hi,e',hc⟩
 ·exact .inl e'
 exact .inr ⟨i,s',w',y,hi,e',.inl (by rcases hc with hc|hc<;>omega)⟩
theorem BInv.reach{n:Nat}{L:List (σ×List Sy)}(h:BInv ok step good succ s0 G n L [])(hs:∀s,G s->SuccOk ok step s (succ s)):∀(r:List Sy),(∀x∈r,ok x)->
  (∃v,(Tt step s0 r.reverse,v)∈L/\lle v r.reverse)\/∃i s w,n<=i/\L[i]?=some (s,w)/\lle w r.reverse
 |[],_=> .inl ⟨[],zJ h.first,lle.refl _⟩
 |x::r,hx=>by
  have z1:ll r.reverse (x::r).reverse:=by rw[uJ];exact z2u _ _
  rcases BInv.reach h hs r (λy hy=>hx y (by simp[hy]))with⟨v,hv,hl⟩|⟨i,s,w,h1,h2,h3⟩
  ·obtain⟨i,hi⟩:=yH.1 hv;by_cases hin:i<n
   ·obtain⟨e,he,e1,e2⟩:=(hs _ (h.mem _ hv).2.2).cov x (hx x (by simp));obtain⟨u,hu,z6⟩:=h.cls i _ _ hin hi e he;refine .inl ⟨u,?_,?_⟩
    ·rw[uJ,Tt,wQ];show(step (Tt step s0 r.reverse) x,u)∈L;rw[<-e1];exact hu
    rw[uJ];exact z6.trans (x1x hl e2)
   exact .inr ⟨i,_,v,by omega,hi,hl.trans (.inr z1)⟩
  exact .inr ⟨i,s,w,h1,h2,h3.trans (.inr z1)⟩
theorem BInv.found{n:Nat}{L:List (σ×List Sy)}{s:σ}{w:List Sy}(h:BInv ok step good succ s0 G n L [])(hs:∀s,G s->SuccOk ok step s (succ s))(hn:L[n]?=some (s,w))(hg:good s=true):FirstW ok step good s0 w:=by
 have hm:=h.mem _ (zJ hn);refine⟨hm.1,by rw[hm.2.1];exact hg,λv hv z1=>?_⟩;have hle:∀i s' w',n<=i->L[i]?=some (s',w')->lle w w':=λi s' w' hi hl=>by
  obtain⟨h1,h2⟩:=zB.1 hn;obtain⟨h3,h4⟩:=zB.1 hl;rcases Nat.lt_or_eq_of_le hi with hlt|rfl
  ·have:=yL.1 h.asc n i h1 h3 hlt;rw[h2,h4]at this;exact .inr this
  rw[hn]at hl;cases hl;exact .inl rfl
 rcases h.reach hs v.reverse (λx hx=>hv x (by simpa using hx))with⟨u,hu,hl⟩|⟨i,s',w',h1,h2,h3⟩
 ·rw[uv]at hu hl;obtain⟨i,hi⟩:=yH.1 hu;by_cases hin:i<n
  ·have:=h.bad i _ _ hin hi;rw[this]at z1;cases z1
  exact(hle i _ _ (by omega) hi).trans hl
 rw[uv]at h3;exact(hle i _ _ h1 h2).trans h3
theorem BInv.none{n:Nat}{L:List (σ×List Sy)}(h:BInv ok step good succ s0 G n L [])(hs:∀s,G s->SuccOk ok step s (succ s))(hn:L[n]? =none):
  (∀v,(∀x∈v,ok x)->Tt step s0 v∈L.map (·.1)/\good (Tt step s0 v)=false):=by
 intro v hv;have hlen:=u_.1 hn;rcases h.reach hs v.reverse (λx hx=>hv x (by simpa using hx))with⟨u,hu,_⟩|⟨i,s',w',h1,h2,_⟩
 ·rw[uv]at hu;obtain⟨i,hi⟩:=yH.1 hu;have:=(zB.1 hi).1;exact⟨zQ.2 ⟨_,hu,rfl⟩,h.bad i _ _ (by omega) hi⟩
 have:=(zB.1 h2).1;omega
theorem Gd(hs:∀s,G s->SuccOk ok step s (succ s))(hG:∀s,G s->∀e∈succ s,G e.2)(U:List σ)(hU:∀s,G s->s∈U):∀(f n:Nat) (L:List (σ×List Sy)),U.length+1<=n+f->n<=L.length->BInv ok step good succ s0 G n L []->
  (∃w L',Vc good succ f n L=(some w,L')/\FirstW ok step good s0 w)\/
  (∃L',Vc good succ f n L=(Option.none,L')/\(L'.map (·.1)).Nodup/\(∀e∈L',(∀x∈e.2,ok x)/\Tt step s0 e.2=e.1/\G e.1)/\∀v,(∀x∈v,ok x)->Tt step s0 v∈L'.map (·.1)/\good (Tt step s0 v)=false)
 |0,n,L,hf,hn,h=>by
  exfalso;have:=Ts _ U h.nd (λs hs=>by
   obtain⟨e,he,rfl⟩:=zQ.1 hs;exact hU _ (h.mem e he).2.2)
  simp at this;omega
 |f+1,n,L,hf,hn,h=>by
  rw[Vc];cases hl:L[n]? with
  |none=>exact .inr ⟨L,rfl,h.nd,h.mem,h.none hs hl⟩
  |some e=>
   obtain⟨s,w⟩:=e;simp only;cases hg:good s with
   |true=>rw[if_pos rfl];exact .inl ⟨w,L,rfl,h.found hs hl hg⟩
   |false=>
    rw[if_neg (by simp)];have z1:=(h.mem _ (zJ hl)).2.2;have h':=h.next hl hg (hs s z1) (hG s z1);refine Gd hs hG U hU f (n+1) _ (by omega) ?_ h';have z6:=(zB.1 hl).1;have z7:∀(es:List (Sy×σ)) (L:List (σ×List Sy)),L.length<=(Ev L w es).length:=by
     intro es;induction es with
     |nil=>intro L;exact zR _
     |cons e es ih=>
      intro L;refine yP ?_ (ih (j0i L e.2 (w++[e.1])));unfold j0i;split
      ·exact zR _
      simp
    exact yP z6 (z7 _ _)
theorem S8(z1:G s0):BInv ok step good succ s0 G 0 [(s0,[])] []:=
 ⟨rfl,λe he=>by obtain rfl:=zO.1 he;exact⟨by simp,rfl,z1⟩,by simp,by simp,λi _ _ hi=>by omega,λi _ _ hi=>by omega,λ_ _ _ _ hd=>(by cases hd),λd hd=>by obtain rfl:=zO.1 hd;exact .inl rfl⟩
end
end
structure Dfa (a:Aut):Prop where
 ok:OkA a
 det:Im a
 full:G5 a
def toL(a:Aut)(s:Int)(x:Sy):Int:=match a.mv.find? (λm=>decide (m.src=s) && Rk m.on x)with|some m=>m.dst|none=> -1
def inS(a:Aut)(s:Int):Prop:=0<=s/\s<a.fin.length
def Dfa.next{a:Aut}(h:Dfa a){s:Int}(hs:inS a s){x:Sy}(hx:Wb a x):inS a (toL a s x)/\Qy a [s] x=[toL a s x]:=by
 obtain⟨t,t0,t1,e⟩:=y06 h.ok.wfA h.det h.full hs.1 hs.2 hx;obtain⟨m,hm,h1,h2⟩:=h.full s hs.1 hs.2 x hx;have hf:toL a s x=t:=by
  unfold toL;cases hq:a.mv.find? (λm=>decide (m.src=s) && Rk m.on x)with
  |none=>have:=vN.1 hq m hm;simp[h1,h2]at this
  |some k=>have hk:=vG hq;have hp:=uR hq;simp at hp;have z1:k.dst∈Qy a [s] x:=We.2 ⟨h.ok.wfA.dst k hk,k,hk,by rw[hp.1];simp,hp.2,rfl⟩;rw[e]at z1;exact zO.1 z1
 rw[hf];exact⟨⟨t0,t1⟩,e⟩
def Dfa.to_of{a:Aut}(h:Dfa a){m:Mv}(hm:m∈a.mv){x:Sy}(hx:Wb a x)(hh:Rk m.on x=true):toL a m.src x=m.dst:=by have hs:inS a m.src:=h.ok.wfA.src m hm;have h1:=(h.next hs hx).2;have z1:m.dst∈Qy a [m.src] x:=We.2 ⟨h.ok.wfA.dst m hm,m,hm,by simp,hh,rfl⟩;rw[h1]at z1;exact(zO.1 z1).symm
def Dfa.move{a:Aut}(h:Dfa a){s:Int}(hs:inS a s){x:Sy}(hx:Wb a x):∃m∈a.mv,m.src=s/\Rk m.on x=true/\m.dst=toL a s x:=by obtain⟨m,hm,h1,h2⟩:=h.full s hs.1 hs.2 x hx;exact⟨m,hm,h1,h2,by rw[<-h1,h.to_of hm hx h2]⟩
def y0m{a:Aut}{x y:Sy}(h:∀m∈a.mv,Rk m.on x=Rk m.on y)(s:Int):toL a s x=toL a s y:=by
 unfold toL;have:a.mv.find? (λm=>decide (m.src=s) && Rk m.on x)=a.mv.find? (λm=>decide (m.src=s) && Rk m.on y):=by
  generalize a.mv=l at h;induction l with
  |nil=>rfl
  |cons m l ih=>rw[tS,tS,h m (by simp),ih (λk hk=>h k (by simp[hk]))]
 rw[this]
def stF(a:Aut)(s:Int)(w:List Sy):Int:=w.foldl (toL a) s
def Fa(a:Aut)(s:Int)(w:List Sy):Bool:=a.fin.getD (stF a s w).toNat false
def Dfa.run{a:Aut}(h:Dfa a):∀(w:List Sy) (s:Int),inS a s->(∀x∈w,Wb a x)->inS a (stF a s w)/\Uv a [s] w=[stF a s w]
 |[],s,hs,_=>⟨hs,rfl⟩
 |x::w,s,hs,hx=>by obtain⟨h1,h2⟩:=h.next hs (hx x (by simp));have:=h.run w _ h1 (λy hy=>hx y (by simp[hy]));refine⟨this.1,?_⟩;show Uv a (Qy a [s] x) w=_;rw[h2];exact this.2
def Dfa.zero{a:Aut}(h:Dfa a):inS a 0:=⟨xK _,by have:=h.ok.fin;omega⟩
def Dfa.acc{a:Aut}(h:Dfa a){w:List Sy}(hw:∀x∈w,Wb a x):E5 a w=Fa a 0 w:=by unfold E5 Fa;rw[(h.run w 0 h.zero hw).2];simp[O9]
structure Ltr (T:Nat) (l cl:List Prd):Prop where
 prts:Prts T l cl
 asc:cl.Pairwise u0o
 len:∀p∈l,p.length=T
def okT(T:Nat)(x:Sy):Prop:=0<=x.ty/\x.ty.toNat<T/\inR x.num
def u2z{T:Nat}(hT:0<T){l:List Prd}(hl:∀p∈l,PCk T p):Ltr T l (Q5 T l):=by obtain⟨h1,h2⟩:=U9 hT hl;exact⟨h1,h2,λp hp=>(hl p hp).1⟩
def d01{p:Prd}{t:Nat}{n:Int}(h:Ik (Qx p 0).1 (Qx p 0).2 t n):sLt (Ql p) ⟨t,n⟩:=by unfold Ik at h;unfold sLt Ql;simp only;omega
def Ltr.least{T:Nat}{l cl:List Prd}(h:Ltr T l cl){c:Prd}(hc:c∈cl):okT T (Ql c)/\PM c (Ql c).ty.toNat (Ql c).num:=by have h1:=(W8 (h.prts.wf c hc) (h.prts.ne c hc)).1;have h2:=(h.prts.wf c hc).lt h1;exact⟨⟨by simp[Ql],by simpa[Ql]using h2.1,h2.2⟩,by simpa[Ql]using h1⟩
def Ltr.sig{T:Nat}{l cl:List Prd}(h:Ltr T l cl){c:Prd}(hc:c∈cl){x y:Sy}(hx:okT T x)(hy:okT T y)(z1:PM c x.ty.toNat x.num)(z6:PM c y.ty.toNat y.num):∀p∈l,Rk p x=Rk p y:=λp hp=>by have h2:=((h.prts.cls c hc _ _ z1 _ _).1 z6).2.2 p hp;rw[wK,Ej (h.len p hp) x hx.1,Ej (h.len p hp) y hy.1];exact h2
def Ltr.cov{T:Nat}{l cl:List Prd}(h:Ltr T l cl){x:Sy}(hx:okT T x):∃c∈cl,PM c x.ty.toNat x.num/\(Ql c=x\/sLt (Ql c) x)/\∀p∈l,Rk p x=Rk p (Ql c):=by
 obtain⟨c,hc,hm⟩:=h.prts.all x.ty.toNat x.num hx.2.1 hx.2.2;obtain⟨h1,h2⟩:=h.least hc;refine⟨c,hc,hm,?_,h.sig hc hx h1 hm h2⟩;rcases(W8 (h.prts.wf c hc) (h.prts.ne c hc)).2 _ _ hm with⟨e1,e2⟩|hlt
 ·left;unfold Ql;rw[e1,e2,show((x.ty.toNat:Nat):Int)=x.ty by have:=hx.1;omega]
 right;have:=d01 hlt;have e:(⟨(x.ty.toNat:Int),x.num⟩:Sy)=x:=by rw[show((x.ty.toNat:Nat):Int)=x.ty by have:=hx.1;omega]
 rw[e]at this;exact this
def Ltr.ascS{T:Nat}{l cl:List Prd}(h:Ltr T l cl):(cl.map Ql).Pairwise sLt:=by
 refine xM.2 (h.asc.imp_of_mem λ{p q} hp hq hlt=>?_);obtain⟨t,n,hm,z1⟩:=hlt;have h1:=z1 _ _ (W8 (h.prts.wf q hq) (h.prts.ne q hq)).1;have h2:Ik (Qx p 0).1 (Qx p 0).2 (Qx q 0).1 (Qx q 0).2:=by
  rcases(W8 (h.prts.wf p hp) (h.prts.ne p hp)).2 t n hm with⟨e1,e2⟩|h3
  ·rw[e1,e2];exact h1
  exact h3.trans h1
 exact d01 h2
def Pj(a b:Aut):List Sy:=(Q5 a.types.toNat (onA a++onA b)).map Ql
def Rw(a b:Aut)(s:Int×Int)(x:Sy):Int×Int:=(toL a s.1 x,toL b s.2 x)
def g0h(a b:Aut)(s:Int×Int):List (Sy×(Int×Int)):=(Pj a b).map λx=>(x,Rw a b s x)
def Uf{a:Aut}{x:Sy}:okT a.types.toNat x↔Wb a x:=by
 unfold okT Wb;constructor
 ·rintro⟨h1,h2,h3⟩;exact⟨⟨h1,by omega⟩,h3⟩
 rintro⟨⟨h1,h2⟩,h3⟩;exact⟨h1,by omega,h3⟩
def f1c{a b:Aut}(ha:OkA a)(hb:OkA b)(ht:b.types=a.types):Ltr a.types.toNat (onA a++onA b) (Q5 a.types.toNat (onA a++onA b)):=
 u2z (by have:=ha.types;omega) λp hp=>by
  rcases zT.1 hp with hp|hp
  ·exact y07 ha p hp
  rw[<-ht];exact y07 hb p hp
def Ca{a:Aut}{m:Mv}(h:m∈a.mv):m.on∈onA a:=zQ.2 ⟨m,h,rfl⟩
def c0p{a b:Aut}(ha:OkA a)(hb:OkA b)(ht:b.types=a.types)(s:Int×Int):SuccOk (Wb a) (Rw a b) s (g0h a b s):=by
 have hl:=f1c ha hb ht;refine⟨?_,λe he=>?_,λy hy=>?_⟩
 ·unfold g0h;exact xM.2 (hl.ascS.imp λh=>h)
 ·obtain⟨x,hx,rfl⟩:=zQ.1 he;obtain⟨c,hc,rfl⟩:=zQ.1 hx;exact⟨Uf.1 (hl.least hc).1,rfl⟩
 obtain⟨c,hc,hm,hle,z1⟩:=hl.cov (Uf.2 hy);refine⟨(Ql c,Rw a b s (Ql c)),zQ.2 ⟨Ql c,zQ.2 ⟨c,hc,rfl⟩,rfl⟩,?_,hle⟩;unfold Rw;rw[y0m (λm hm=>(z1 m.on (yV _ (Ca hm))).symm),y0m (a:=b) (λm hm=>(z1 m.on (vI _ (Ca hm))).symm)]
def Yb(a b:Aut)(s:Int×Int):Bool:=a.fin.getD s.1.toNat false != b.fin.getD s.2.toNat false
def Kp(a b:Aut)(p q:Int):Option (List Sy)×List ((Int×Int)×List Sy):=Vc (Yb a b) (g0h a b) (a.fin.length * b.fin.length+1) 0 [((p,q),[])]
def Hr(a b:Aut):∀(w:List Sy) (p q:Int),Tt (Rw a b) (p,q) w=(stF a p w,stF b q w)
 |[],_,_=>rfl
 |x::w,p,q=>Hr a b w (toL a p x) (toL b q x)
def P9(a b:Aut):List (Int×Int):=(El a.fin.length).flatMap λi=>(El b.fin.length).map λj=>(i,j)
def Sm(a b:Aut):(P9 a b).length=a.fin.length * b.fin.length:=by unfold P9;rw[vX,y_ (g:=λ_=>b.fin.length) (λi _=>by simp[El]),uj,ug];simp[El]
def H5{a b:Aut}{s:Int×Int}(h1:inS a s.1)(h2:inS b s.2):s∈P9 a b:=by unfold P9;rw[xS];exact⟨s.1,Ek.2 h1,zQ.2 ⟨s.2,Ek.2 h2,rfl⟩⟩
def f1f(a b:Aut)(p q:Int)(w:List Sy):Prop:=FirstW (Wb a) (Rw a b) (Yb a b) (p,q) w
def Zr(a b:Aut)(p q:Int)(w:List Sy):Yb a b (Tt (Rw a b) (p,q) w)=true↔Fa a p w≠Fa b q w:=by rw[Hr];simp[Yb,Fa]
def V0{a b:Aut}(ha:Dfa a)(hb:Dfa b)(ht:b.types=a.types){p q:Int}(hp:inS a p)(hq:inS b q):
  (∃w,(Kp a b p q).1=some w/\f1f a b p q w)\/((Kp a b p q).1=none/\∀w,(∀x∈w,Wb a x)->Fa a p w=Fa b q w):=by
 have z1:∀x,Wb a x->Wb b x:=λx hx=>by unfold Wb at *;rw[ht];exact hx
 rcases Gd (ok:=Wb a) (step:=Rw a b) (good:=Yb a b) (succ:=g0h a b) (s0:=(p,q)) (G:=λs=>inS a s.1/\inS b s.2) (λs _=>c0p ha.ok hb.ok ht s)
  (λs hs e he=>by
   obtain⟨h1,h2⟩:=(c0p ha.ok hb.ok ht s).mem e he;rw[h2];exact⟨(ha.next hs.1 h1).1,(hb.next hs.2 (z1 _ h1)).1⟩) (P9 a b) (λs hs=>H5 hs.1 hs.2) (a.fin.length * b.fin.length+1) 0 [((p,q),[])] (by rw[Sm];omega) (by simp) (S8 ⟨hp,hq⟩)with⟨w,L,h1,h2⟩|⟨L,h1,_,_,h2⟩
 ·exact .inl ⟨w,by rw[Kp,h1],h2⟩
 refine .inr ⟨by rw[Kp,h1],λw hw=>?_⟩;have:=(h2 w hw).2;by_cases hd:Fa a p w=Fa b q w
 ·exact hd
 rw[(Zr a b p q w).2 hd]at this;cases this
def Wc(a:Aut)(s:Int):List Mv:=a.mv.filter λm=>decide (m.src=s) && !Wj m.on
def W1(a b:Aut)(s:Int×Int):List (Sy×(Int×Int)):=(Wc a s.1).flatMap λm=>(Wc b s.2).filterMap λn=>if Wj (Wn m.on n.on)then none else some (Ql (Wn m.on n.on),(m.dst,n.dst))
def Rl{a:Aut}{s:Int}{m:Mv}:m∈Wc a s↔m∈a.mv/\m.src=s/\Wj m.on=false:=by unfold Wc;rw[xH];simp
def Dd{a b:Aut}{s:Int×Int}{e:Sy×(Int×Int)}:e∈W1 a b s↔∃m∈Wc a s.1,∃n∈Wc b s.2,Wj (Wn m.on n.on)=false/\e=(Ql (Wn m.on n.on),(m.dst,n.dst)):=by
 unfold W1;rw[xS];constructor
 ·rintro⟨m,hm,h⟩;obtain⟨n,hn,h⟩:=wI.1 h;cases hv:Wj (Wn m.on n.on)
  ·rw[hv,if_neg (by simp)]at h;cases h;exact⟨m,hm,n,hn,hv,rfl⟩
  rw[hv,if_pos rfl]at h;cases h
 rintro⟨m,hm,n,hn,hv,rfl⟩;exact⟨m,hm,wI.2 ⟨n,hn,by rw[hv,if_neg (by simp)]⟩⟩
def Tw{T:Nat}{p:Prd}(h:PWf T p):Wj p=false↔∃t n,PM p t n:=by
 cases hv:Wj p
 ·simp only[true_iff];apply Classical.byContradiction;intro hn;have:=(T8 h).2 (λt n hm=>hn ⟨t,n,hm⟩);rw[hv]at this;cases this
 simp only[Bool.true_eq_false,false_iff];rintro⟨t,n,hm⟩;exact(T8 h).1 hv t n hm
def Te{T:Nat}{p:Prd}(h:PWf T p)(hn:∃t n,PM p t n):okT T (Ql p)/\PM p (Ql p).ty.toNat (Ql p).num/\∀x,okT T x->PM p x.ty.toNat x.num->Ql p=x\/sLt (Ql p) x:=by
 have h1:=W8 h hn;have h2:=h.lt h1.1;refine⟨⟨by simp[Ql],by simpa[Ql]using h2.1,h2.2⟩,by simpa[Ql]using h1.1,λx hx hm=>?_⟩;rcases h1.2 _ _ hm with⟨e1,e2⟩|hlt
 ·left;unfold Ql;rw[e1,e2,show((x.ty.toNat:Nat):Int)=x.ty by have:=hx.1;omega]
 right;have:=d01 hlt;have e:(⟨(x.ty.toNat:Int),x.num⟩:Sy)=x:=by rw[show((x.ty.toNat:Nat):Int)=x.ty by have:=hx.1;omega]
 rw[e]at this;exact this
def Al{a b:Aut}(ha:Dfa a)(hb:Dfa b)(ht:b.types=a.types){s:Int×Int}(h1:inS a s.1)(h2:inS b s.2):
  (∀e∈W1 a b s,Wb a e.1/\e.2=Rw a b s e.1)/\∀y,Wb a y->∃e∈W1 a b s,e.2=Rw a b s y/\(e.1=y\/sLt e.1 y):=by
 have z1:∀x,Wb a x->Wb b x:=λx hx=>by unfold Wb at *;rw[ht];exact hx
 have z7:∀ {m n:Mv},m∈a.mv->n∈b.mv->PWf a.types.toNat m.on/\PWf a.types.toNat n.on:=λhm hn=>⟨ha.ok.wfA.on _ hm,by rw[<-ht];exact hb.ok.wfA.on _ hn⟩
 constructor
 ·intro e he;obtain⟨m,hm,n,hn,hv,rfl⟩:=Dd.1 he;obtain⟨m1,m2,_⟩:=Rl.1 hm;obtain⟨n1,n2,_⟩:=Rl.1 hn;obtain⟨w1,w2⟩:=z7 m1 n1;have hw:=Tu w1 w2.1;obtain⟨k1,k2,_⟩:=Te hw ((Tw hw).1 hv);have hk:=Uf.1 k1;obtain⟨p1,p2⟩:=(Eo w1.1 w2.1 _ _).1 k2;refine⟨hk,?_⟩;unfold Rw;rw[<-m2,<-n2,ha.to_of m1 hk ((Ej w1.1 _ hk.1.1).2 p1),hb.to_of n1 (z1 _ hk) ((Ej w2.1 _ hk.1.1).2 p2)]
 intro y hy;obtain⟨m,m1,m2,m3,m4⟩:=ha.move h1 hy;obtain⟨n,n1,n2,n3,n4⟩:=hb.move h2 (z1 y hy);obtain⟨w1,w2⟩:=z7 m1 n1;have hw:=Tu w1 w2.1;have p1:=(Ej w1.1 y hy.1.1).1 m3;have p2:=(Ej w2.1 y hy.1.1).1 n3;have z6:=(Eo w1.1 w2.1 _ _).2 ⟨p1,p2⟩;have hv:=(Tw hw).2 ⟨_,_,z6⟩;refine⟨_,Dd.2 ⟨m,Rl.2 ⟨m1,m2,(Tw w1).2 ⟨_,_,p1⟩⟩,n,Rl.2 ⟨n1,n2,(Tw w2).2 ⟨_,_,p2⟩⟩,hv,rfl⟩,?_,(Te hw ⟨_,_,z6⟩).2.2 y (Uf.2 hy) z6⟩;unfold Rw;rw[m4,n4]
def lkN(near:List ((Int×Int)×Nat))(s:Int×Int):Option Nat:=(near.find? λe=>decide (e.1=s)).map (·.2)
def Jf(a:Aut)(near:List ((Int×Int)×Nat))(d:Nat)(s:Int×Int):Bool:=match d with
 |0=>Yb a a s
 |d+1=>(W1 a a s).any λe=>decide (lkN near e.2=some d)
def Tq(a:Aut)(near:List ((Int×Int)×Nat))(d:Nat):List (Int×Int):=(P9 a a).filter λs=>decide (lkN near s=none) && Jf a near d s
def Kn(a:Aut):Nat->Nat->List ((Int×Int)×Nat)->List ((Int×Int)×Nat)
 |0,_,near=>near
 |f+1,d,near=>if Tq a near d=[]then near else Kn a f (d+1) (near++(Tq a near d).map λs=>(s,d))
def Uc(a:Aut):List ((Int×Int)×Nat):=Kn a (a.fin.length * a.fin.length+1) 1 ((Tq a [] 0).map λs=>(s,0))
def inP(a:Aut)(s:Int×Int):Prop:=inS a s.1/\inS a s.2
def B5(a:Aut)(s:Int×Int)(d:Nat):Prop:=∃w:List Sy,w.length=d/\(∀x∈w,Wb a x)/\Yb a a (Tt (Rw a a) s w)=true
def Pm(a:Aut)(s:Int×Int)(d:Nat):Prop:=B5 a s d/\∀k,k<d->¬B5 a s k
def Kf{a:Aut}{s:Int×Int}:B5 a s 0↔Yb a a s=true:=by
 constructor
 ·rintro⟨w,hw,_,h⟩;obtain rfl:=List.length_eq_zero_iff.1 hw;exact h
 intro h;exact⟨[],rfl,by simp,h⟩
def Sk{a:Aut}{s:Int×Int}{d:Nat}:B5 a s (d+1)↔∃y,Wb a y/\B5 a (Rw a a s y) d:=by
 constructor
 ·rintro⟨w,hw,ho,h⟩;cases w with
  |nil=>cases hw
  |cons y w=>exact⟨y,ho y (by simp),w,by simpa using hw,λx hx=>ho x (by simp[hx]),h⟩
 rintro⟨y,hy,w,hw,ho,h⟩;exact⟨y::w,by simp[hw],λx hx=>(zX.1 hx).elim (λe=>by rw[e];exact hy) (ho x),h⟩
def Zc{a:Aut}{s:Int×Int}{d k:Nat}(h:Pm a s d)(h':Pm a s k):d=k:=by
 rcases w_ d k with hlt|e|hlt
 ·exact absurd h.1 (h'.2 d hlt)
 ·exact e
 exact absurd h'.1 (h.2 k hlt)
def w06{a:Aut}{s:Int×Int}:∀(d:Nat),B5 a s d->∃k,k<=d/\Pm a s k:=by
 intro d;induction d using Nat.strongRecOn with
 |_ d ih=>
  intro h;by_cases hk:∃k,k<d/\B5 a s k
  ·obtain⟨k,h1,h2⟩:=hk;obtain⟨j,h3,h4⟩:=ih k h1 h2;exact⟨j,by omega,h4⟩
  exact⟨d,zR _,h,λk h1 h2=>hk ⟨k,h1,h2⟩⟩
def Dv{a:Aut}{s:Int×Int}{d:Nat}(h:Pm a s (d+1)):∃y,Wb a y/\Pm a (Rw a a s y) d:=by obtain⟨y,hy,h1⟩:=Sk.1 h.1;refine⟨y,hy,h1,λk hk h2=>?_⟩;exact h.2 (k+1) (by omega) (Sk.2 ⟨y,hy,h2⟩)
def S3{a:Aut}(ha:Dfa a){s:Int×Int}(hs:inP a s){y:Sy}(hy:Wb a y):inP a (Rw a a s y):=⟨(ha.next hs.1 hy).1,(ha.next hs.2 hy).1⟩
structure NInv (a:Aut) (d:Nat) (near:List ((Int×Int)×Nat)):Prop where
 lk:∀s,inP a s->∀k,lkN near s=some k↔(k<d/\Pm a s k)
 keys:(near.map (·.1)).Nodup
 dom:∀e∈near,e.1∈P9 a a
def w29(A:List ((Int×Int)×Nat))(B:List (Int×Int))(d:Nat)(s:Int×Int):lkN (A++B.map λt=>(t,d)) s=match lkN A s with|some k=>some k|none=>if s∈B then some d else none:=by
 unfold lkN;rw[List.find?_append];cases hA:A.find? λe=>decide (e.1=s)with
 |some e=>rfl
 |none=>
  simp only[Option.none_or,Option.map_none];by_cases hs:s∈B
  ·rw[if_pos hs];obtain⟨e,he⟩:=Option.isSome_iff_exists.1 (List.find?_isSome.2 ⟨(s,d),zQ.2 ⟨s,hs,rfl⟩,by simp⟩:(List.find? (λe:(Int×Int)×Nat=>decide (e.1=s)) (B.map λt=>(t,d))).isSome);rw[he];obtain⟨t,_,rfl⟩:=zQ.1 (vG he);rfl
  rw[if_neg hs];rw[vN.2 (λe he=>by
   obtain⟨t,ht,rfl⟩:=zQ.1 he;simp only[decide_eq_true_eq];rintro rfl;exact hs ht)]
  rfl
def F5{A:List ((Int×Int)×Nat)}{s:Int×Int}:lkN A s=none↔s∉A.map (·.1):=by
 unfold lkN;rw[Option.map_eq_none_iff,vN];constructor
 ·intro h hs;obtain⟨e,he,rfl⟩:=zQ.1 hs;exact h e he (by simp)
 intro h e he;simp only[decide_eq_true_eq];rintro rfl;exact h (zQ.2 ⟨e,he,rfl⟩)
def f0a{a:Aut}{s:Int×Int}(h:s∈P9 a a):inP a s:=by obtain⟨i,hi,hs⟩:=xS.1 h;obtain⟨j,hj,rfl⟩:=zQ.1 hs;exact⟨Ek.1 hi,Ek.1 hj⟩
def K8(a:Aut):(P9 a a).Nodup:=by have hr:∀n,(El n).Nodup:=λn=>(Ka n).imp (λh e=>by omega);unfold P9 List.Nodup;rw[vF];refine⟨λi _=>xM.2 ((hr _).imp λh e=>h (Prod.mk.inj e).2),(hr _).imp λ{i j} hij x hx y hy e=>?_⟩;obtain⟨u,_,rfl⟩:=zQ.1 hx;obtain⟨v,_,rfl⟩:=zQ.1 hy;exact hij (Prod.mk.inj e).1
def J2{a:Aut}(ha:Dfa a){d:Nat}{near:List ((Int×Int)×Nat)}(h:NInv a d near){s:Int×Int}:s∈Tq a near d↔inP a s/\Pm a s d:=by
 unfold Tq;rw[xH];simp only[yF,decide_eq_true_eq];have z1:∀s,inP a s->(lkN near s=none↔∀k,k<d->¬B5 a s k):=λs hs=>by
  constructor
  ·intro hn k hk hd;obtain⟨j,h1,h2⟩:=w06 k hd;have:=(h.lk s hs j).2 ⟨by omega,h2⟩;rw[hn]at this;cases this
  intro hk;cases hl:lkN near s with
  |none=>rfl
  |some k=>obtain⟨h1,h2⟩:=(h.lk s hs k).1 hl;exact absurd h2.1 (hk k h1)
 constructor
 ·rintro⟨h1,h2,h3⟩;have hs:=f0a h1;have hk:=(z1 s hs).1 h2;refine⟨hs,?_,hk⟩;cases d with
  |zero=>exact Kf.2 h3
  |succ d=>simp only[Jf,wM,decide_eq_true_eq]at h3;obtain⟨e,he,hl⟩:=h3;obtain⟨e1,e2⟩:=(Al ha ha rfl hs.1 hs.2).1 e he;rw[e2]at hl;exact Sk.2 ⟨e.1,e1,((h.lk _ (S3 ha hs e1) d).1 hl).2.1⟩
 rintro⟨hs,h2⟩;refine⟨H5 hs.1 hs.2,(z1 s hs).2 h2.2,?_⟩;cases d with
 |zero=>exact Kf.1 h2.1
 |succ d=>obtain⟨y,hy,hm⟩:=Dv h2;obtain⟨e,he,e1,_⟩:=(Al ha ha rfl hs.1 hs.2).2 y hy;simp only[Jf,wM,decide_eq_true_eq];exact⟨e,he,by rw[e1];exact(h.lk _ (S3 ha hs hy) d).2 ⟨by omega,hm⟩⟩
def NInv.step{a:Aut}(ha:Dfa a){d:Nat}{near:List ((Int×Int)×Nat)}(h:NInv a d near):NInv a (d+1) (near++(Tq a near d).map λs=>(s,d)):=by
 refine⟨λs hs k=>?_,?_,λe he=>?_⟩
 ·rw[w29];cases hl:lkN near s with
  |some j=>
   obtain⟨h1,h2⟩:=(h.lk s hs j).1 hl;simp only[Option.some.injEq];constructor
   ·rintro rfl;exact⟨by omega,h2⟩
   rintro⟨_,h3⟩;exact Zc h2 h3
  |none=>
   simp only;have z1:∀k,k<d->¬Pm a s k:=λk hk hm=>by have:=(h.lk s hs k).2 ⟨hk,hm⟩;rw[hl]at this;cases this
   by_cases hf:s∈Tq a near d
   ·rw[if_pos hf];have hm:=((J2 ha h).1 hf).2;simp only[Option.some.injEq];constructor
    ·rintro rfl;exact⟨by omega,hm⟩
    rintro⟨_,h3⟩;exact Zc hm h3
   rw[if_neg hf];constructor
   ·intro hc;cases hc
   rintro⟨h1,h3⟩;by_cases hkd:k<d
   ·exact absurd h3 (z1 k hkd)
   have:k=d:=by omega
   subst this;exact absurd ((J2 ha h).2 ⟨hs,h3⟩) hf
 ·rw[yR,vT,vw];refine⟨h.keys,?_,λx hx y hy e=>?_⟩
  ·have:(Tq a near d).map ((·.1)∘λs=>(s,d))=Tq a near d:=by exact(y_ (g:=id) (λ_ _=>rfl)).trans (List.map_id _)
   rw[this];exact(K8 a).filter _
  subst e;obtain⟨t,ht,rfl⟩:=zQ.1 hy;have:=(xH.1 ht).2;simp only[yF,decide_eq_true_eq]at this;exact F5.1 this.1 hx
 rcases zT.1 he with he|he
 ·exact h.dom e he
 obtain⟨t,ht,rfl⟩:=zQ.1 he;exact(xH.1 ht).1
def z0k{a:Aut}(ha:Dfa a):∀(k d:Nat) (s:Int×Int),inP a s->Pm a s (d+k)->∃t,inP a t/\Pm a t d
 |0,_,s,hs,h=>⟨s,hs,h⟩
 |k+1,d,s,hs,h=>by obtain⟨y,hy,hm⟩:=Dv (d:=d+k) h;exact z0k ha k d _ (S3 ha hs hy) hm
def y1f{a:Aut}(ha:Dfa a):∀(f d:Nat) (near:List ((Int×Int)×Nat)),a.fin.length * a.fin.length+1<=near.length+f->NInv a d near->∀s,inP a s->∀k,lkN (Kn a f d near) s=some k↔Pm a s k
 |0,d,near,hf,h=>by
  exfalso;have:=Ts _ (P9 a a) h.keys (λs hs=>by
   obtain⟨e,he,rfl⟩:=zQ.1 hs;exact h.dom e he)
  rw[Sm,yO]at this;omega
 |f+1,d,near,hf,h=>by
  rw[Kn];by_cases he:Tq a near d=[]
  ·rw[if_pos he];intro s hs k;rw[h.lk s hs k];refine⟨λhk=>hk.2,λhm=>⟨?_,hm⟩⟩;by_cases hkd:k<d
   ·exact hkd
   exfalso;obtain⟨t,ht,z1⟩:=z0k ha (k - d) d s hs (by rw[show d+(k - d)=k by omega];exact hm);have:=(J2 ha h).2 ⟨ht,z1⟩;rw[he]at this;cases this
  rw[if_neg he];have hl:=List.length_pos_iff.2 he;exact y1f ha f (d+1) _ (by simp;omega) (h.step ha)
def d0w{a:Aut}(ha:Dfa a):∀s,inP a s->∀k,lkN (Uc a) s=some k↔Pm a s k:=by
 have h0:NInv a 0 []:=⟨λs _ k=>by simp[lkN],by simp,by simp⟩
 have h1:=h0.step ha;rw[vU]at h1;exact y1f ha _ 1 _ (by omega) h1
def Kx(x y:Sy):Bool:=decide (x.ty<y.ty) || (decide (x.ty=y.ty) && decide (x.num<y.num))
def u2h(es:List (Sy×(Int×Int))):Option (Sy×(Int×Int)):=es.foldl (λb e=>match b with|none=>some e|some c=>if Kx e.1 c.1 then some e else some c) none
def D3(x y:Sy):Kx x y=true↔sLt x y:=by simp[Kx,sLt]
def Jy:∀(es:List (Sy×(Int×Int))) (c:Sy×(Int×Int)),∃e,es.foldl (λb e=>match b with|none=>some e|some c=>if Kx e.1 c.1 then some e else some c) (some c)=some e/\(e=c\/e∈es)/\(e.1=c.1\/sLt e.1 c.1)/\∀f∈es,e.1=f.1\/sLt e.1 f.1
 |[],c=>⟨c,rfl,.inl rfl,.inl rfl,by simp⟩
 |f::es,c=>by
  rw[xU];simp only;cases hb:Kx f.1 c.1 with
  |true=>
   rw[if_pos rfl];have z6:=(D3 _ _).1 hb;obtain⟨e,h1,h2,h3,h4⟩:=Jy es f;refine⟨e,h1,.inr ?_,.inr ?_,λg hg=>?_⟩
   ·rcases h2 with rfl|h2
    ·simp
    simp[h2]
   ·rcases h3 with h3|h3
    ·rw[h3];exact z6
    exact h3.trans z6
   rcases zX.1 hg with rfl|hg
   ·exact h3
   exact h4 g hg
  |false=>
   rw[if_neg (by simp)];obtain⟨e,h1,h2,h3,h4⟩:=Jy es c;refine⟨e,h1,h2.imp id (λh=>List.mem_cons_of_mem _ h),h3,λg hg=>?_⟩;rcases zX.1 hg with rfl|hg
   ·have hn:¬sLt g.1 c.1:=λh=>by rw[(D3 _ _).2 h]at hb;cases hb
    have z1:c.1=g.1\/sLt c.1 g.1:=by
     rcases sLt.tri g.1 c.1 with h|h|h
     ·exact absurd h hn
     ·exact .inl h.symm
     exact .inr h
    rcases h3 with h3|h3
    ·rw[h3];exact z1
    rcases z1 with z1|z1
    ·rw[<-z1];exact .inr h3
    exact .inr (h3.trans z1)
   exact h4 g hg
def d0v{es:List (Sy×(Int×Int))}(h:es≠[]):∃e,u2h es=some e/\e∈es/\∀f∈es,e.1=f.1\/sLt e.1 f.1:=by
 cases es with
 |nil=>exact absurd rfl h
 |cons c es=>
  obtain⟨e,h1,h2,h3,h4⟩:=Jy es c;refine⟨e,h1,by rcases h2 with rfl|h2<;>simp[*],λf hf=>?_⟩;rcases zX.1 hf with rfl|hf
  ·exact h3
  exact h4 f hf
def Gu(a:Aut)(near:List ((Int×Int)×Nat)):Nat->Int×Int->List Sy
 |0,_=>[]
 |d+1,s=>match u2h ((W1 a a s).filter λe=>decide (lkN near e.2=some d))with
  |some e=>e.1::Gu a near d e.2
  |none=>⟨0,0⟩::Gu a near d (0,0)
def c1b{x y:Sy}{v w:List Sy}(h:x=y\/sLt x y)(hl:v.length=w.length)(hv:x=y->lle v w):lle (x::v) (y::w):=by
 rcases h with rfl|h
 ·rcases hv rfl with rfl|hv
  ·exact .inl rfl
  rcases hv with hv|⟨h1,h2⟩
  ·omega
  exact .inr (.inr ⟨by simp[h1],.inr ⟨rfl,h2⟩⟩)
 exact .inr (.inr ⟨by simp[hl],.inl h⟩)
def Mj{a:Aut}(ha:Dfa a){near:List ((Int×Int)×Nat)}(hn:∀s,inP a s->∀k,lkN near s=some k↔Pm a s k):∀(d:Nat) (s:Int×Int),inP a s->Pm a s d->(Gu a near d s).length=d/\f1f a a s.1 s.2 (Gu a near d s)
 |0,s,hs,h=>⟨rfl,by simp[Gu],Kf.1 h.1,λv hv hg=>by
   cases v with
   |nil=>exact .inl rfl
   |cons x v=>exact .inr (.inl (by simp[Gu]))⟩
 |d+1,s,hs,h=>by
  obtain⟨y,hy,hm⟩:=Dv h;obtain⟨e0,z8,za,_⟩:=(Al ha ha rfl hs.1 hs.2).2 y hy;have zb:(W1 a a s).filter (λe=>decide (lkN near e.2=some d))≠[]:=List.ne_nil_of_mem (xH.2 ⟨z8,by
   rw[za];simpa using(hn _ (S3 ha hs hy) d).2 hm⟩)
  obtain⟨e,h1,h2,h3⟩:=d0v zb;obtain⟨zc,zd⟩:=xH.1 h2;obtain⟨e1,e2⟩:=(Al ha ha rfl hs.1 hs.2).1 e zc;have z1:inP a e.2:=by rw[e2];exact S3 ha hs e1
  have ze:Pm a e.2 d:=(hn _ z1 d).1 (by simpa using zd);obtain⟨i1,i2⟩:=Mj ha hn d e.2 z1 ze;rw[Gu,h1];simp only;refine⟨by simp[i1],λx hx=>?_,?_,λv hv hg=>?_⟩
  ·rcases zX.1 hx with rfl|hx
   ·exact e1
   exact i2.okw x hx
  ·have:=i2.goodw;show Yb a a (Tt (Rw a a) (Rw a a s e.1) (Gu a near d e.2))=true;rw[<-e2];exact this
  by_cases hlen:v.length=d+1
  ·cases v with
   |nil=>cases hlen
   |cons z v=>
    have hz:=hv z (by simp);have z6:v.length=d:=by simpa using hlen
    have z7:Yb a a (Tt (Rw a a) (Rw a a s z) v)=true:=hg;have zf:Pm a (Rw a a s z) d:=by refine⟨⟨v,z6,λx hx=>hv x (by simp[hx]),z7⟩,λk hk hd=>?_⟩;exact h.2 (k+1) (by omega) (Sk.2 ⟨z,hz,hd⟩)
    obtain⟨f,hf,f1,f2⟩:=(Al ha ha rfl hs.1 hs.2).2 z hz;have zg:f∈(W1 a a s).filter (λe=>decide (lkN near e.2=some d)):=xH.2 ⟨hf,by
     rw[f1];simpa using(hn _ (S3 ha hs hz) d).2 zf⟩
    have hle:e.1=z\/sLt e.1 z:=by
     rcases h3 f zg with h4|h4
     ·rcases f2 with f2|f2
      ·exact .inl (h4.trans f2)
      rw[h4];exact .inr f2
     rcases f2 with f2|f2
     ·rw[<-f2];exact .inr h4
     exact .inr (h4.trans f2)
    refine c1b hle (by rw[i1,z6]) λzh=>?_;refine i2.least v (λx hx=>hv x (by simp[hx])) ?_;show Yb a a (Tt (Rw a a) e.2 v)=true;rw[e2,zh];exact z7
  have zi:d+1<=v.length:=by
   by_cases hlt:v.length<d+1
   ·exact absurd ⟨v,rfl,hv,hg⟩ (h.2 _ hlt)
   omega
  exact .inr (.inl (by simp[i1];omega))
def w25{a:Aut}(ha:Dfa a){p q:Int}(hp:inS a p)(hq:inS a q):(Kp a a p q).1=(lkN (Uc a) (p,q)).map λd=>Gu a (Uc a) d (p,q):=by
 have hn:=d0w ha;have z1:inP a (p,q):=⟨hp,hq⟩
 rcases V0 ha ha rfl hp hq with⟨w,h1,h2⟩|⟨h1,h2⟩
 ·obtain⟨d,_,hm⟩:=w06 (a:=a) (s:=(p,q)) w.length ⟨w,rfl,h2.okw,h2.goodw⟩;rw[h1,(hn _ z1 d).2 hm,wG,h2.unique (Mj ha hn d _ z1 hm).2]
 rw[h1];cases hl:lkN (Uc a) (p,q)with
 |none=>rfl
 |some d=>exfalso;obtain⟨w,_,hw,hg⟩:=((hn _ z1 d).1 hl).1;exact(Zr a a p q w).1 hg (h2 w hw)
structure EqvB (n:Nat) (E:Nat->Nat->Bool):Prop where
 refl:∀i,i<n->E i i=true
 symm:∀i k,i<n->k<n->E i k=true->E k i=true
 trans:∀i k j,i<n->k<n->j<n->E i k=true->E k j=true->E i j=true
def X7(E:Nat->Nat->Bool)(st:List Nat×List Nat)(i:Nat):List Nat×List Nat:=
 match st.1.findIdx? (E i)with
 |some t=>(st.1,st.2++[t])
 |none=>(st.1++[i],st.2++[st.1.length])
def Su(E:Nat->Nat->Bool)(n:Nat):List Nat×List Nat:=(yU n).foldl (X7 E) ([],[])
def B4(E:Nat->Nat->Bool)(n:Nat):Su E (n+1)=X7 E (Su E n) n:=by rw[Su,List.range_succ,wQ];rfl
structure ClsS (E:Nat->Nat->Bool) (n:Nat) (fs out:List Nat):Prop where
 len:out.length=n
 asc:fs.Pairwise (·<·)
 lt:∀r∈fs,r<n
 apart:fs.Pairwise (λr s=>E r s=false)
 num:∀i,i<n->∃t r,out[i]?=some t/\fs[t]?=some r/\r<=i/\E i r=true
def Eb{α:Type}{l:List α}{i:Nat}{x:α}(h:l[i]?=some x):i<l.length:=(zB.1 h).1
def v0b{α:Type}{l:List α}{f:α->Bool}{t:Nat}{x:α}(ht:l[t]?=some x)(hx:f x=true)(hu:∀(i j:Nat) (a b:α),l[i]?=some a->l[j]?=some b->f a=true->f b=true->i=j):l.findIdx? f=some t:=by
 cases hf:l.findIdx? f with
 |none=>rw[vR]at hf;have:=hf x (zJ ht);rw[hx]at this;cases this
 |some u=>obtain⟨z1,z6,_⟩:=xP.1 hf;rw[hu u t l[u] x (zI z1) ht z6 hx]
def ClsS.uniq{E:Nat->Nat->Bool}{N n:Nat}(hE:EqvB N E)(hn:n<=N){fs out:List Nat}(h:ClsS E n fs out){i:Nat}(hi:i<N){u v r s:Nat}(hr:fs[u]?=some r)(hs:fs[v]?=some s)(e1:E i r=true)(e2:E i s=true):u=v:=by
 have z7:=zJ hr;have z8:=zJ hs;have za:=h.lt r z7;have zb:=h.lt s z8;have z1:E r s=true:=hE.trans r i s (by omega) hi (by omega) (hE.symm i r hi (by omega) e1) e2;have z6:E s r=true:=hE.symm r s (by omega) (by omega) z1;obtain⟨hu,rfl⟩:=zB.1 hr;obtain⟨hv,rfl⟩:=zB.1 hs;rcases w_ u v with k|k|k
 ·have:=(yL.1 h.apart) u v hu hv k;rw[this]at z1;cases z1
 ·exact k
 have:=(yL.1 h.apart) v u hv hu k;rw[this]at z6;cases z6
def q0y{E:Nat->Nat->Bool}{N:Nat}(hE:EqvB N E):∀n,n<=N->ClsS E n (Su E n).1 (Su E n).2
 |0,_=>⟨rfl,by simp[Su],by simp[Su],by simp[Su],λi hi=>by omega⟩
 |n+1,hn=>by
  have h:=q0y hE n (by omega);rw[B4];generalize Su E n=st at *
  obtain⟨fs,out⟩:=st;simp only at h;unfold X7;simp only;cases hf:fs.findIdx? (E n)with
  |some t=>
   obtain⟨h1,h2,_⟩:=xP.1 hf;simp only;refine⟨by simp[h.len],h.asc,λr hr=>by have:=h.lt r hr;omega,h.apart,λi hi=>?_⟩;by_cases e:i=n
   ·subst e;exact⟨t,fs[t],by rw[zH (by rw[h.len];omega)];simp[h.len],zI h1,by have:=h.lt _ (zL h1);omega,h2⟩
   obtain⟨t',r,a1,a2,a3,a4⟩:=h.num i (by omega);exact⟨t',r,by rw[zF (by rw[h.len];omega)];exact a1,a2,a3,a4⟩
  |none=>
   rw[vR]at hf;simp only;refine⟨by simp[h.len],yE.2 ⟨h.asc,by simp,λr hr s hs=>by rw[zO.1 hs];exact h.lt r hr⟩,λr hr=>?_,yE.2 ⟨h.apart,by simp,λr hr s hs=>?_⟩,λi hi=>?_⟩
   ·rcases zT.1 hr with hr|hr
    ·have:=h.lt r hr;omega
    rw[zO.1 hr];omega
   ·rw[zO.1 hs];have z1:=h.lt r hr;have:=hf r hr;cases hc:E r n
    ·rfl
    rw[hE.symm r n (by omega) (by omega) hc]at this;cases this
   by_cases e:i=n
   ·subst e;exact⟨fs.length,i,by rw[zH (by rw[h.len];omega)];simp[h.len],by rw[zH (by omega)];simp,by omega,hE.refl i (by omega)⟩
   obtain⟨t',r,a1,a2,a3,a4⟩:=h.num i (by omega);exact⟨t',r,by rw[zF (by rw[h.len];omega)];exact a1,by rw[zF (Eb a2)];exact a2,a3,a4⟩
def ClsS.same{E:Nat->Nat->Bool}{n:Nat}(hE:EqvB n E){fs out:List Nat}(h:ClsS E n fs out){i k:Nat}(hi:i<n)(hk:k<n):out.getD i 0=out.getD k 0↔E i k=true:=by
 obtain⟨t,r,a1,a2,a3,a4⟩:=h.num i hi;obtain⟨u,s,b1,b2,b3,b4⟩:=h.num k hk;simp only[yQ,a1,b1,wA];constructor
 ·intro e;subst e;rw[a2]at b2;cases b2;exact hE.trans i r k hi (by omega) hk a4 (hE.symm k r hk (by omega) b4)
 intro e;refine h.uniq hE (zR n) hi a2 b2 a4 ?_;exact hE.trans i k s hi hk (by omega) e b4
def ClsS.first{E:Nat->Nat->Bool}{n:Nat}(hE:EqvB n E){fs out:List Nat}(h:ClsS E n fs out){t r:Nat}(ht:fs[t]?=some r):out.findIdx? (λc=>decide (c=t))=some r:=by
 have hr:=h.lt r (zJ ht);rw[xP];refine⟨by rw[h.len];exact hr,?_,λj hj=>?_⟩
 ·obtain⟨u,s,a1,a2,a3,a4⟩:=h.num r hr;have hu:u=t:=h.uniq hE (zR n) hr a2 ht a4 (hE.refl r hr);obtain⟨hl,e⟩:=zB.1 a1;rw[e,hu];simp
 obtain⟨u,s,a1,a2,a3,a4⟩:=h.num j (by omega);obtain⟨hl,e⟩:=zB.1 a1;rw[e];have:u≠t:=λe'=>by subst e';rw[ht]at a2;cases a2;omega
 simpa using this
def ClsS.lt_fs{E:Nat->Nat->Bool}{n:Nat}{fs out:List Nat}(h:ClsS E n fs out){i:Nat}(hi:i<n):out.getD i 0<fs.length:=by obtain⟨t,r,a1,a2,_,_⟩:=h.num i hi;simp only[yQ,a1,wA];exact Eb a2
def eqW(a b:Aut)(p q:Int):Prop:=∀w,(∀x∈w,Wb a x)->Fa a p w=Fa b q w
def eqS(a:Aut)(i k:Nat):Bool:=(lkN (Uc a) ((i:Int),(k:Int))).isNone
def P8{a:Aut}{i:Nat}(h:i<a.fin.length):inS a (i:Int):=⟨by omega,by omega⟩
def d08{a b:Aut}(ha:Dfa a)(hb:Dfa b)(ht:b.types=a.types){p q:Int}(hp:inS a p)(hq:inS b q):(Kp a b p q).1=none↔eqW a b p q:=by
 rcases V0 ha hb ht hp hq with⟨w,h1,h2⟩|⟨h1,h2⟩
 ·rw[h1];exact⟨λh=>(by cases h),λh=>absurd (h w h2.okw) ((Zr a b p q w).1 h2.goodw)⟩
 exact⟨λ_=>h2,λ_=>h1⟩
def Aj{a:Aut}(ha:Dfa a){i k:Nat}(hi:i<a.fin.length)(hk:k<a.fin.length):eqS a i k=true↔eqW a a i k:=by rw[<-d08 ha ha rfl (P8 hi) (P8 hk),w25 ha (P8 hi) (P8 hk),eqS];cases lkN (Uc a) ((i:Int),(k:Int))<;>simp
def g1j{a:Aut}(ha:Dfa a):EqvB a.fin.length (eqS a):=
 ⟨λi hi=>(Aj ha hi hi).2 λ_ _=>rfl,λi k hi hk h=>(Aj ha hk hi).2 λw hw=>((Aj ha hi hk).1 h w hw).symm,
  λi k j hi hk hj h h'=>(Aj ha hi hj).2 λw hw=>((Aj ha hi hk).1 h w hw).trans ((Aj ha hk hj).1 h' w hw)⟩
def fsA(a:Aut):List Nat:=(Su (eqS a) a.fin.length).1
def clA(a:Aut):List Nat:=(Su (eqS a) a.fin.length).2
def y28{a:Aut}(ha:Dfa a):ClsS (eqS a) a.fin.length (fsA a) (clA a):=q0y (g1j ha) _ (zR _)
def x1b{a:Aut}(ha:Dfa a){i k:Nat}(hi:i<a.fin.length)(hk:k<a.fin.length):(clA a).getD i 0=(clA a).getD k 0↔eqW a a i k:=by rw[(y28 ha).same (g1j ha) hi hk,Aj ha hi hk]
section
section
variable {α:Type} (key:α->Nat×Int)
def Ck(s:List α)(x:α):Nat->Nat
 |0=>0
 |j+1=>match s[j]? with
  |some y=>if Bs (key x) (key y)=true then Ck s x j else j+1
  |none=>j+1
def y1q(s:List α)(x:α):List α:=s.take (Ck key s x s.length)++x::s.drop (Ck key s x s.length)
def g1s(L:List α):List α:=L.foldl (y1q key) []
def ltG(p q:α):Prop:=Ik (key p).1 (key p).2 (key q).1 (key q).2
theorem Zb(s:List α)(x:α):∀j,j<=s.length->Ck key s x j<=j/\(∀i,Ck key s x j<=i->i<j->∀h:i<s.length,Bs (key x) (key s[i])=true)/\(∀i,i+1=Ck key s x j->∀h:i<s.length,Bs (key x) (key s[i])=false)
 |0,_=>⟨zR _,λi _ h=>by omega,λi h=>by simp[Ck]at h⟩
 |j+1,hj=>by
  have z1:j<s.length:=by omega
  rw[Ck,zI z1];simp only;by_cases hb:Bs (key x) (key s[j])=true
  ·rw[if_pos hb];obtain⟨h1,h2,h3⟩:=Zb s x j (by omega);refine⟨by omega,λi hi z6 hl=>?_,h3⟩;by_cases hij:i=j
   ·subst hij;exact hb
   exact h2 i hi (by omega) hl
  rw[if_neg hb];refine⟨zR _,λi hi z6=>by omega,λi hi hl=>?_⟩;have:i=j:=by omega
  subst this;simpa using hb
theorem c0l(s:List α)(x:α):(y1q key s x).Perm (x::s):=by unfold y1q;refine vM.trans ?_;rw[xO]
theorem My{s:List α}{x:α}(hs:s.Pairwise (ltG key))(hd:∀y∈s,key y≠key x):(y1q key s x).Pairwise (ltG key):=by
 obtain⟨h1,h2,h3⟩:=Zb key s x s.length (zR _);unfold y1q;generalize Ck key s x s.length=k at *
 have z1:=hs;rw[<-xO k s]at z1;obtain⟨p1,p2,p3⟩:=yE.1 z1;have z7:∀y∈s.drop k,ltG key x y:=λy hy=>by obtain⟨i,hi⟩:=yH.1 hy;rw[List.getElem?_drop]at hi;obtain⟨hl,e⟩:=zB.1 hi;have:=h2 (k+i) (by omega) hl hl;rw[e]at this;exact(R7 _ _).1 this
 have z8:∀i,i+1=k->∀h:i<s.length,ltG key s[i] x:=λi hi hl=>by
  have h4:=h3 i hi hl;have zc:=hd s[i] (zL hl);unfold ltG;rcases w_ (key s[i]).1 (key x).1 with a|a|a
  ·exact .inl a
  ·rcases Int.lt_trichotomy (key s[i]).2 (key x).2 with b|b|b
   ·exact .inr ⟨a,b⟩
   ·exact absurd (vY a b) zc
   have:Bs (key x) (key s[i])=true:=(R7 _ _).2 (.inr ⟨a.symm,b⟩);rw[this]at h4;cases h4
  have:Bs (key x) (key s[i])=true:=(R7 _ _).2 (.inl a);rw[this]at h4;cases h4
 have z6:∀y∈s.take k,ltG key y x:=λy hy=>by
  obtain⟨i,hi⟩:=yH.1 hy;rw[List.getElem?_take]at hi;split at hi
  ·rename_i zd;obtain⟨hl,e⟩:=zB.1 hi;obtain⟨k',rfl⟩:∃k',k=k'+1:=⟨k - 1,by omega⟩
   have za:k'<s.length:=by omega
   have zb:=z8 k' rfl za;by_cases hij:i=k'
   ·subst hij;rw[<-e];exact zb
   have:=yL.1 hs i k' hl za (by omega);rw[e]at this;exact Ik.trans this zb
  cases hi
 refine yE.2 ⟨p1,yK.2 ⟨z7,p2⟩,λy hy z hz=>?_⟩;rcases zX.1 hz with rfl|hz
 ·exact z6 y hy
 exact p3 y hy z hz
theorem L1(L:List α)(hd:L.Pairwise (λp q=>key p≠key q)):(g1s key L).Perm L/\(g1s key L).Pairwise (ltG key):=by
 have go:∀(r s:List α),s.Pairwise (ltG key)->(s++r).Pairwise (λp q=>key p≠key q)->(r.foldl (y1q key) s).Perm (s++r)/\(r.foldl (y1q key) s).Pairwise (ltG key):=by
  intro r;induction r with
  |nil=>intro s h _;simpa using h
  |cons x r ih=>intro s h hd;obtain⟨d1,d2,d3⟩:=yE.1 hd;have hi:=My key h (λy hy=>d3 y hy x (by simp));have hp:=c0l key s x;have z1:(y1q key s x++r).Perm (s++x::r):=(hp.append_right r).trans (vM (l₁:=s) (a:=x) (l₂:=r)).symm;have z6:(y1q key s x++r).Pairwise (λp q=>key p≠key q):=(z1.pairwise_iff (λh=>Ne.symm h)).2 hd;obtain⟨i1,i2⟩:=ih (y1q key s x) hi z6;rw[xU];exact⟨i1.trans z1,i2⟩
 have h:=go L [] List.Pairwise.nil (by simpa using hd);unfold g1s;simpa using h
theorem f1m{l l':List α}(hs:l.Pairwise (ltG key))(z1:l'.Pairwise (ltG key))(hp:∀x,x∈l↔x∈l'):l=l':=by have z6:∀ {X:List α},X.Pairwise (ltG key)->X.Nodup:=λhx=>hx.imp (λh e=>by subst e;exact Ik.irr h);refine List.Perm.eq_of_pairwise (le:=ltG key) (λa b _ _ h k=>(Ik.irr (h.trans k)).elim) hs z1 ?_;exact(u7 (z6 hs) (z6 z1)).2 hp
end
def clD(cl:List Nat)(m:Mv):Nat:=cl.getD m.dst.toNat 0
def kyM(m:Mv):Nat×Int:=Qx m.on 0
def y25(a:Aut)(cl:List Nat)(s:Int):List Mv:=(Wc a s).foldl (λg m=>Tx 0 g (clD cl m) m.on) []
def k16(a:Aut)(cl:List Nat)(s:Int):List Mv:=g1s kyM (y25 a cl s)
def Fj(a:Aut)(cl:List Nat)(s:Int)(t:Nat)(ty:Nat)(y:Int):Prop:=∃m∈Wc a s,clD cl m=t/\PM m.on ty y
structure MrgS (T:Nat) (D:Nat->Nat->Int->Prop) (g:List Mv):Prop where
 wf:∀m∈g,PWf T m.on
 src:∀m∈g,m.src=0
 dst:∀m∈g,∃t:Nat,m.dst=t
 nd:g.Pairwise (λm k=>m.dst≠k.dst)
 mem:∀m∈g,∀t:Nat,m.dst=t->∀ty y,PM m.on ty y↔D t ty y
 all:∀t ty y,D t ty y->∃m∈g,m.dst=(t:Int)
 ne:∀m∈g,∃ty y,PM m.on ty y
def k1n{n to:Nat}{g:List Mv}{c:Prd}{T:Nat}(hg:∀m∈g,∃ty y,PM m.on ty y)(hw:∀m∈g,PWf T m.on)(hc:PWf T c)(z1:∃ty y,PM c ty y):∀m∈Tx n g to c,∃ty y,PM m.on ty y:=by
 intro m hm;unfold Tx at hm;split at hm
 ·rcases zT.1 hm with hm|hm
  ·exact hg m hm
  rw[zO.1 hm];exact z1
 split at hm
 ·rename_i m2 z6;rcases List.mem_or_eq_of_mem_set hm with hm|rfl
  ·exact hg m hm
  obtain⟨ty,y,h⟩:=z1;exact⟨ty,y,(Sc (hw _ (zJ z6)) hc ty y).2 (.inr h)⟩
 exact hg m hm
def c1a{a:Aut}(h:WfA a){s:Int}{m:Mv}(hm:m∈Wc a s):PWf a.types.toNat m.on/\∃ty y,PM m.on ty y:=by obtain⟨h1,h2,h3⟩:=Rl.1 hm;exact⟨h.on m h1,(Tw (h.on m h1)).1 h3⟩
def Nj{a:Aut}(ha:Dfa a)(cl:List Nat)(s:Int):MrgS a.types.toNat (Fj a cl s) (y25 a cl s):=by
 obtain⟨N,hN⟩:∃N,∀m∈Wc a s,clD cl m<N:=by
  refine⟨(cl.foldl max 0)+1,λm _=>?_⟩;have key:∀(l:List Nat) (b:Nat),b<=l.foldl max b/\∀x∈l,x<=l.foldl max b:=by
   intro l;induction l with
   |nil=>intro b;simp
   |cons x l ih=>
    intro b;obtain⟨h1,h2⟩:=ih (max b x);rw[xU];refine⟨by omega,λy hy=>?_⟩;rcases zX.1 hy with rfl|hy
    ·omega
    exact h2 y hy
  unfold clD;by_cases hl:m.dst.toNat<cl.length
  ·have:=(key cl 0).2 _ (zL hl);simp only[yQ,zI hl,wA];omega
  simp[yQ,yY (by omega:cl.length<=m.dst.toNat)]
 have key:∀(r:List Mv) (D:Nat->Nat->Int->Prop) (g:List Mv),MInv a.types.toNat N 0 D g->(∀m∈g,∃ty y,PM m.on ty y)->(∀m∈r,m∈Wc a s)->
   MInv a.types.toNat N 0 (λt ty y=>D t ty y\/∃m∈r,clD cl m=t/\PM m.on ty y) (r.foldl (λg m=>Tx 0 g (clD cl m) m.on) g)/\∀m∈r.foldl (λg m=>Tx 0 g (clD cl m) m.on) g,∃ty y,PM m.on ty y:=by
  intro r;induction r with
  |nil=>intro D g h hn _;exact⟨h.congr (λt ty y=>by simp),hn⟩
  |cons c r ih=>
   intro D g h hn hr;rw[xU];have hc:=c1a ha.ok.wfA (hr c (by simp));obtain⟨i1,i2⟩:=ih _ _ (h.add (hN c (hr c (by simp))) hc.1 hc.2) (k1n hn h.wf hc.1 hc.2) (λd hd=>hr d (by simp[hd]));refine⟨i1.congr (λt ty y=>?_),i2⟩;simp only[zX,exists_eq_or_imp,or_assoc];constructor
   ·rintro(h|⟨e,h⟩|h)
    ·exact .inl h
    ·exact .inr (.inl ⟨e.symm,h⟩)
    exact .inr (.inr h)
   rintro(h|⟨e,h⟩|h)
   ·exact .inl h
   ·exact .inr (.inl ⟨e.symm,h⟩)
   exact .inr (.inr h)
 have h0:MInv a.types.toNat N 0 (λ_ _ _=>False) []:=⟨by simp,by simp,by simp,by simp,by simp,λ_ _ _ h=>h.elim⟩
 obtain⟨h1,h2⟩:=key (Wc a s) _ [] h0 (by simp) (λm hm=>hm);have h3:=h1.congr (D':=Fj a cl s) (λt ty y=>by simp[Fj]);exact⟨h3.wf,h3.src,λm hm=>by obtain⟨t,_,e⟩:=h3.dst m hm;exact⟨t,e⟩,h3.nd,h3.mem,h3.all,h2⟩
def MrgS.perm{T:Nat}{D:Nat->Nat->Int->Prop}{g g':List Mv}(h:MrgS T D g)(hp:g.Perm g'):MrgS T D g':=
 ⟨λm hm=>h.wf m (hp.mem_iff.2 hm),λm hm=>h.src m (hp.mem_iff.2 hm),λm hm=>h.dst m (hp.mem_iff.2 hm),(hp.pairwise_iff (λh=>Ne.symm h)).1 h.nd,λm hm=>h.mem m (hp.mem_iff.2 hm),
  λt ty y hd=>by obtain⟨m,hm,e⟩:=h.all t ty y hd;exact⟨m,hp.mem_iff.1 hm,e⟩,λm hm=>h.ne m (hp.mem_iff.2 hm)⟩
def MrgS.sub{T:Nat}{D:Nat->Nat->Int->Prop}{g g':List Mv}(h:MrgS T D g)(h':MrgS T D g'){m:Mv}(hm:m∈g):m∈g':=by
 obtain⟨t,ht⟩:=h.dst m hm;obtain⟨ty,y,hy⟩:=h.ne m hm;obtain⟨k,hk,z1⟩:=h'.all t ty y ((h.mem m hm t ht ty y).1 hy);have z6:m.on=k.on:=P4 (h.wf m hm) (h'.wf k hk) λt' n'=>by rw[h.mem m hm t ht,h'.mem k hk t z1]
 have:m=k:=by cases m;cases k;simp only at ht z1 z6;have e1:=h.src _ hm;have e2:=h'.src _ hk;simp only at e1 e2;subst z6;rw[e1,e2,ht,z1]
 rw[this];exact hk
def MrgS.apart{T:Nat}{D:Nat->Nat->Int->Prop}{g:List Mv}(h:MrgS T D g)(hD:∀t t' ty y,D t ty y->D t' ty y->t=t'):g.Pairwise (λp q=>kyM p≠kyM q):=
 h.nd.imp_of_mem λ{p q} hp hq z1 e=>by obtain⟨t,ht⟩:=h.dst p hp;obtain⟨u,hu⟩:=h.dst q hq;have h1:=(W8 (h.wf p hp) (h.ne p hp)).1;have h2:=(W8 (h.wf q hq) (h.ne q hq)).1;unfold kyM at e;rw[e]at h1;have:=hD t u _ _ ((h.mem p hp t ht _ _).1 h1) ((h.mem q hq u hu _ _).1 h2);rw[ht,hu,this]at z1;exact z1 rfl
def MrgS.uniq{T:Nat}{D:Nat->Nat->Int->Prop}{g g':List Mv}(h:MrgS T D g)(h':MrgS T D g')(s:g.Pairwise (ltG kyM))(s':g'.Pairwise (ltG kyM)):g=g':=
 f1m kyM s s' λ_=>⟨h.sub h',h'.sub h⟩
def Dfa.dom{a:Aut}(ha:Dfa a){cl:List Nat}{s:Int}{t ty:Nat}{y:Int}:Fj a cl s t ty y↔(∃x:Sy,Wb a x/\x.ty.toNat=ty/\x.num=y/\∃m∈a.mv,m.src=s/\Rk m.on x=true/\cl.getD m.dst.toNat 0=t):=by
 constructor
 ·rintro⟨m,hm,h1,h2⟩;obtain⟨g1,g2,g3⟩:=Rl.1 hm;obtain⟨z6,z1⟩:=(ha.ok.wfA.on m g1).lt h2;have hx:Wb a ⟨ty,y⟩:=⟨⟨by simp,by have:=ha.ok.types;simp;omega⟩,z1⟩
  exact⟨⟨ty,y⟩,hx,by simp,rfl,m,g1,g2,(Yr ha.ok.wfA g1 hx).2 (by simpa using h2),h1⟩
 rintro⟨x,hx,rfl,rfl,m,hm,h1,h2,h3⟩;have hp:=(Yr ha.ok.wfA hm hx).1 h2;exact⟨m,Rl.2 ⟨hm,h1,(Tw (ha.ok.wfA.on m hm)).2 ⟨_,_,hp⟩⟩,h3,hp⟩
def Oy{a:Aut}(ha:Dfa a){cl:List Nat}{s:Int}(hs:inS a s){t ty:Nat}{y:Int}:Fj a cl s t ty y↔∃x:Sy,Wb a x/\x.ty.toNat=ty/\x.num=y/\cl.getD (toL a s x).toNat 0=t:=by
 rw[ha.dom];constructor
 ·rintro⟨x,hx,h1,h2,m,hm,rfl,h4,h5⟩;exact⟨x,hx,h1,h2,by rw[ha.to_of hm hx h4];exact h5⟩
 rintro⟨x,hx,h1,h2,h3⟩;obtain⟨m,hm,e1,e2,e3⟩:=ha.move hs hx;exact⟨x,hx,h1,h2,m,hm,e1,e2,by rw[e3];exact h3⟩
def c1j{x y:Sy}{a:Aut}(hx:Wb a x)(hy:Wb a y)(h:x.ty.toNat=y.ty.toNat)(h2:x.num=y.num):x=y:=by
 have:=hx.1.1;have:=hy.1.1;cases x;cases y;simp only at *
 have:∀ {a b:Int},0<=a->0<=b->a.toNat=b.toNat->a=b:=λh0 h1 h=>by omega
 simp only[Sy.mk.injEq];exact⟨this ‹_› ‹_› h,h2⟩
def C2{a:Aut}(ha:Dfa a){cl:List Nat}{s:Int}(hs:inS a s){t t' ty:Nat}{y:Int}(h:Fj a cl s t ty y)(h':Fj a cl s t' ty y):t=t':=by obtain⟨x,hx,h1,h2,h3⟩:=(Oy ha hs).1 h;obtain⟨x',z1,z6,z7,z8⟩:=(Oy ha hs).1 h';have:x=x':=c1j hx z1 (h1.trans z6.symm) (h2.trans z7.symm);subst this;exact h3.symm.trans z8
def Tr{a:Aut}(ha:Dfa a)(cl:List Nat){s:Int}(hs:inS a s):MrgS a.types.toNat (Fj a cl s) (k16 a cl s)/\(k16 a cl s).Pairwise (ltG kyM):=by have h:=Nj ha cl s;obtain⟨h1,h2⟩:=L1 kyM (y25 a cl s) (h.apart λt t' ty y=>C2 ha hs);exact⟨h.perm h1.symm,h2⟩
def Pl(a:Aut)(cl:List Nat)(s:Int)(t:Nat):List Prd:=((Wc a s).filter λm=>decide (clD cl m=t)).map (·.on)
def g01{a:Aut}(ha:Dfa a)(cl:List Nat)(s:Int){ks:List Nat}(z7:ks.Nodup)(hk:∀t,t∈ks↔∃m∈Wc a s,clD cl m=t):
  MrgS a.types.toNat (Fj a cl s) (ks.map λt:Nat=>(⟨0,(t:Int),Ux a.types.toNat (Pl a cl s t)⟩:Mv)):=by
 have z1:∀t,∀p∈Pl a cl s t,PWf a.types.toNat p:=λt p hp=>by obtain⟨m,hm,rfl⟩:=zQ.1 hp;exact(c1a ha.ok.wfA (xH.1 hm).1).1
 have z6:∀t ty y,PM (Ux a.types.toNat (Pl a cl s t)) ty y↔Fj a cl s t ty y:=λt ty y=>by
  rw[Jv (z1 t)];constructor
  ·rintro⟨p,hp,h⟩;obtain⟨m,hm,rfl⟩:=zQ.1 hp;obtain⟨h1,h2⟩:=xH.1 hm;exact⟨m,h1,by simpa using h2,h⟩
  rintro⟨m,hm,h1,h2⟩;exact⟨m.on,zQ.2 ⟨m,xH.2 ⟨hm,by simpa using h1⟩,rfl⟩,h2⟩
 refine⟨λm hm=>?_,λm hm=>?_,λm hm=>?_,?_,λm hm t e ty y=>?_,λt ty y hd=>?_,λm hm=>?_⟩
 ·obtain⟨t,_,rfl⟩:=zQ.1 hm;exact Ao (z1 t)
 ·obtain⟨t,_,rfl⟩:=zQ.1 hm;rfl
 ·obtain⟨t,_,rfl⟩:=zQ.1 hm;exact⟨t,rfl⟩
 ·exact xM.2 (z7.imp λh e=>h (Int.ofNat.inj e))
 ·obtain⟨u,_,rfl⟩:=zQ.1 hm;have:u=t:=Int.ofNat.inj e;subst this;exact z6 u ty y
 ·obtain⟨m,hm,h1,h2⟩:=hd;exact⟨_,zQ.2 ⟨t,(hk t).2 ⟨m,hm,h1⟩,rfl⟩,rfl⟩
 obtain⟨t,ht,rfl⟩:=zQ.1 hm;obtain⟨m,hm,h1⟩:=(hk t).1 ht;obtain⟨ty,y,hp⟩:=(c1a ha.ok.wfA hm).2;exact⟨ty,y,(z6 t ty y).2 ⟨m,hm,h1,hp⟩⟩
end
section
def f1g(cl:List Nat)(t:Nat):Nat:=(cl.findIdx? λc=>decide (c=t)).getD 0
def Hy(a:Aut)(t:Nat):Prop:=t<(fsA a).length
def Wp(a:Aut)(s:Int):Nat:=(clA a).getD s.toNat 0
def Tb(a:Aut)(t:Nat):Nat:=f1g (clA a) t
def Pu{a:Aut}{s:Int}(h:inS a s):s.toNat<a.fin.length/\((s.toNat:Nat):Int)=s:=by unfold inS at h;omega
def Rm{a:Aut}(ha:Dfa a){t:Nat}(ht:Hy a t):Tb a t<a.fin.length/\Wp a (Tb a t)=t:=by
 have h:=y28 ha;have hf:=h.first (g1j ha) (zI ht);have hr:Tb a t=(fsA a)[t]:=by rw[Tb,f1g,hf];rfl
 rw[xP]at hf;obtain⟨h1,h2,_⟩:=hf;rw[hr];refine⟨by rw[h.len]at h1;exact h1,?_⟩;simp only[Wp,vS,yQ,zI h1,wA];simpa using h2
def R4{a:Aut}(ha:Dfa a){t:Nat}(ht:Hy a t):inS a (Tb a t:Int):=P8 (Rm ha ht).1
def Po{a:Aut}(ha:Dfa a){s:Int}(hs:inS a s):Hy a (Wp a s):=(y28 ha).lt_fs (Pu hs).1
def Dn{a:Aut}(ha:Dfa a){s t:Int}(hs:inS a s)(ht:inS a t):Wp a s=Wp a t↔eqW a a s t:=by have h1:=Pu hs;have h2:=Pu ht;rw[Wp,Wp,x1b ha h1.1 h2.1,h1.2,h2.2]
def Lr{a:Aut}(ha:Dfa a){s:Int}(hs:inS a s):eqW a a (Tb a (Wp a s)) s:=
 (Dn ha (R4 ha (Po ha hs)) hs).1 (Rm ha (Po ha hs)).2
def eqW.symm{a:Aut}{s t:Int}(h:eqW a a s t):eqW a a t s:=λw hw=>(h w hw).symm
def eqW.step{a b:Aut}{s t:Int}(h:eqW a b s t){x:Sy}(hx:Wb a x):eqW a b (toL a s x) (toL b t x):=λw hw=>h (x::w) (λy hy=>by
 rcases zX.1 hy with rfl|hy
 ·exact hx
 exact hw y hy)
def Dg(o:List Nat)(c:Nat):List Nat:=if c∈o then o else o++[c]
def Wh(o:List Nat)(l:List Mv):List Nat:=l.foldl (λo m=>Dg o m.dst.toNat) o
def Tz(a:Aut)(t:Nat):List Mv:=k16 a (clA a) (Tb a t:Int)
def Yo(a:Aut):Nat->Nat->List Nat->List Nat
 |0,_,o=>o
 |f+1,n,o=>match o[n]? with
  |none=>o
  |some c=>Yo a f (n+1) (Wh o (Tz a c))
def Yw(a:Aut):List Nat:=Yo a (a.fin.length+1) 0 [Wp a 0]
def Fw(o:List Nat)(c:Nat):Nat:=(o.findIdx? λd=>decide (d=c)).getD 0
def mvN(a:Aut)(o:List Nat)(n:Nat):List Mv:=(Tz a (o.getD n 0)).map λm=>⟨n,(Fw o m.dst.toNat:Int),m.on⟩
def Px(a:Aut)(o:List Nat):Aut:=⟨a.types,o.map λc=>a.fin.getD (Tb a c) false,(yU o.length).flatMap (mvN a o)⟩
def Q1(a:Aut):Aut:=Px a (Yw a)
def F3(o:List Nat)(c:Nat):∃r,Dg o c=o++r/\∀x∈r,x=c:=by
 unfold Dg;split
 ·exact⟨[],by simp,by simp⟩
 exact⟨[c],rfl,λx hx=>zO.1 hx⟩
def y0f(o:List Nat)(c:Nat):c∈Dg o c:=by
 unfold Dg;split
 ·assumption
 simp
def v0y{o:List Nat}(h:o.Nodup)(c:Nat):(Dg o c).Nodup:=by
 unfold Dg;split
 ·exact h
 rename_i hc;exact vw.2 ⟨h,by simp,λx hx y hy e=>by rw[zO.1 hy]at e;exact hc (e▸hx)⟩
def Yq:∀(l:List Mv) (o:List Nat),o.Nodup->(∃r,Wh o l=o++r/\∀x∈r,∃m∈l,x=m.dst.toNat)/\(Wh o l).Nodup/\∀m∈l,m.dst.toNat∈Wh o l
 |[],o,h=>⟨⟨[],by simp[Wh],by simp⟩,h,by simp⟩
 |m::l,o,h=>by
  obtain⟨⟨r,h1,h2⟩,h3,h4⟩:=Yq l (Dg o m.dst.toNat) (v0y h _);obtain⟨r',h5,h6⟩:=F3 o m.dst.toNat;have he:Wh o (m::l)=Wh (Dg o m.dst.toNat) l:=rfl;rw[he];refine⟨⟨r'++r,by rw[h1,h5,List.append_assoc],λx hx=>?_⟩,h3,λk hk=>?_⟩
  ·rcases zT.1 hx with hx|hx
   ·exact⟨m,by simp,h6 x hx⟩
   obtain⟨k,hk,e⟩:=h2 x hx;exact⟨k,by simp[hk],e⟩
  rcases zX.1 hk with rfl|hk
  ·rw[h1];exact yV _ (y0f _ _)
  exact h4 k hk
def Yy{a:Aut}(ha:Dfa a){t:Nat}(ht:Hy a t){m:Mv}(hm:m∈Tz a t):∃x,Wb a x/\m.dst=(Wp a (toL a (Tb a t) x):Nat)/\inS a (toL a (Tb a t) x)/\Hy a (Wp a (toL a (Tb a t) x))/\PM m.on x.ty.toNat x.num:=by have hs:=R4 ha ht;have h:=(Tr ha (clA a) hs).1;obtain⟨u,hu⟩:=h.dst m hm;obtain⟨ty,y,hy⟩:=h.ne m hm;obtain⟨x,hx,rfl,rfl,h3⟩:=(Oy ha hs).1 ((h.mem m hm u hu ty y).1 hy);have z1:=(ha.next hs hx).1;exact⟨x,hx,by rw[hu,<-h3];rfl,z1,Po ha z1,hy⟩
structure OrdS (a:Aut) (o:List Nat):Prop where
 first:o[0]?=some (Wp a 0)
 nd:o.Nodup
 cl:∀c∈o,Hy a c
 closed:∀c∈o,∀m∈Tz a c,m.dst.toNat∈o
def z16{a:Aut}(ha:Dfa a):(fsA a).length<=a.fin.length:=by
 have h:=y28 ha;have z1:(fsA a).Nodup:=h.asc.imp λh e=>by omega
 have:=z1.length_le_of_subset (l₂:=yU a.fin.length) λr hr=>xJ.2 (h.lt r hr);simpa using this
def Cb{a:Aut}(ha:Dfa a){o:List Nat}(hn:o.Nodup)(hc:∀c∈o,Hy a c):o.length<=a.fin.length:=by have:=hn.length_le_of_subset (l₂:=yU (fsA a).length) λc hx=>xJ.2 (hc c hx);have h2:=z16 ha;simp at this;omega
def V3{a:Aut}(ha:Dfa a):∀(f n:Nat) (o:List Nat),a.fin.length+1<=n+f->n<=o.length->o[0]?=some (Wp a 0)->o.Nodup->(∀c∈o,Hy a c)->(∀i c,i<n->o[i]?=some c->∀m∈Tz a c,m.dst.toNat∈o)->OrdS a (Yo a f n o)
 |0,n,o,hf,hn,h0,z6,z1,hc=>by have:=Cb ha z6 z1;omega
 |f+1,n,o,hf,hn,h0,z6,z1,hc=>by
  unfold Yo;cases hon:o[n]? with
  |none=>
   simp only;have hl:o.length<=n:=by simpa using hon
   refine⟨h0,z6,z1,λc hx m hm=>?_⟩;obtain⟨i,hi⟩:=yH.1 hx;exact hc i c (by have:=Eb hi;omega) hi m hm
  |some c=>
   simp only;have z8:=Eb hon;obtain⟨⟨r,h1,h2⟩,h3,h4⟩:=Yq (Tz a c) o z6;have z7:=z1 c (zJ hon);refine V3 ha f (n+1) _ (by omega) (by rw[h1,zW];omega) ?_ h3 (λd hd=>?_) λi d hi hd m hm=>?_
   ·rw[h1,zF (by omega)];exact h0
   ·rw[h1]at hd;rcases zT.1 hd with hd|hd
    ·exact z1 d hd
    obtain⟨m,hm,e⟩:=h2 d hd;obtain⟨x,_,e2,_,e4,_⟩:=Yy ha z7 hm;rw[e,e2];simpa using e4
   rw[h1,zF (by omega)]at hd;by_cases e:i=n
   ·subst e;rw[hon]at hd;cases hd;exact h4 m hm
   rw[h1];exact yV _ (hc i d (by omega) hd m hm)
def Rc{a:Aut}(ha:Dfa a):OrdS a (Yw a):=
 V3 ha _ 0 _ (by omega) (by simp) rfl (by simp) (λc hc=>by rw[zO.1 hc];exact Po ha ha.zero) (λi c hi=>by omega)
section
variable {a b:Aut} (ha:Dfa a) (hb:Dfa b) (ht:b.types=a.types)
def q0z(a b:Aut)(c d:Nat):Prop:=Hy a c/\Hy b d/\eqW a b (Tb a c) (Tb b d)
structure LkO (a b:Aut) (o o':List Nat):Prop where
 len:o.length=o'.length
 k:∀(i c d:Nat),o[i]?=some c->o'[i]?=some d->q0z a b c d
theorem W6{a b:Aut}(ht:b.types=a.types){x:Sy}:Wb b x↔Wb a x:=by unfold Wb;rw[ht]
include ha hb ht
theorem Ho{c d d':Nat}(h:q0z a b c d)(h':q0z a b c d'):d=d':=by
 have e:Wp b (Tb b d)=Wp b (Tb b d'):=(Dn hb (R4 hb h.2.1) (R4 hb h'.2.1)).2 λw hw=>by have z1:∀x∈w,Wb a x:=λx hx=>(W6 ht).1 (hw x hx);exact(h.2.2 w z1).symm.trans (h'.2.2 w z1)
 rw[(Rm hb h.2.1).2,(Rm hb h'.2.1).2]at e;exact e
theorem S6{c c' d:Nat}(h:q0z a b c d)(h':q0z a b c' d):c=c':=by have e:Wp a (Tb a c)=Wp a (Tb a c'):=(Dn ha (R4 ha h.1) (R4 ha h'.1)).2 λw hw=>(h.2.2 w hw).trans (h'.2.2 w hw).symm;rw[(Rm ha h.1).2,(Rm ha h'.1).2]at e;exact e
theorem c0x{s t:Int}(hs:inS a s)(z1:inS b t)(h:eqW a b s t):q0z a b (Wp a s) (Wp b t):=
 ⟨Po ha hs,Po hb z1,λw hw=>((Lr ha hs w hw).trans (h w hw)).trans (Lr hb z1 w λx hx=>(W6 ht).2 (hw x hx)).symm⟩
theorem LkO.mem{o o':List Nat}(h:LkO a b o o'){c d:Nat}(hk:q0z a b c d):c∈o↔d∈o':=by
 constructor
 ·intro hc;obtain⟨i,hi⟩:=yH.1 hc;have hl:=Eb hi;have hl':i<o'.length:=by have:=h.len;omega
  have hd:=zI hl';rw[Ho ha hb ht hk (h.k i c _ hi hd)];exact zL hl'
 intro hd;obtain⟨i,hi⟩:=yH.1 hd;have hl:=Eb hi;have hl':i<o.length:=by have:=h.len;omega
 have hc:=zI hl';rw[S6 ha hb ht hk (h.k i _ d hc hi)];exact zL hl'
theorem LkO.step{o o':List Nat}(h:LkO a b o o'){c d:Nat}(hk:q0z a b c d):LkO a b (Dg o c) (Dg o' d):=by
 unfold Dg;have hm:=h.mem ha hb ht hk;by_cases hc:c∈o
 ·rw[if_pos hc,if_pos (hm.1 hc)];exact h
 rw[if_neg hc,if_neg (λhd=>hc (hm.2 hd))];refine⟨by simp[h.len],λi x y hx hy=>?_⟩;by_cases hi:i<o.length
 ·rw[zF hi]at hx;rw[zF (by rw[<-h.len];exact hi)]at hy;exact h.k i x y hx hy
 have z1:=Eb hx;simp at z1;have:i=o.length:=by omega
 subst this;rw[zH (by omega)]at hx;rw[zH (by rw[h.len];omega)]at hy;simp[h.len]at hx hy;rw[<-hx,<-hy];exact hk
theorem y0p{c d:Nat}(h:q0z a b c d):(Tz a c).map (·.on)=(Tz b d).map (·.on)/\∀(i:Nat) (m k:Mv),(Tz a c)[i]?=some m->(Tz b d)[i]?=some k->m.on=k.on/\q0z a b m.dst.toNat k.dst.toNat:=by
 have hs:=R4 ha h.1;have z7:=R4 hb h.2.1;obtain⟨g1,s1⟩:=Tr ha (clA a) hs;obtain⟨g2,s2⟩:=Tr hb (clA b) z7;have key:∀x,Wb a x->q0z a b (Wp a (toL a (Tb a c) x)) (Wp b (toL b (Tb b d) x)):=λx hx=>
  c0x ha hb ht (ha.next hs hx).1 (hb.next z7 ((W6 ht).2 hx)).1 (h.2.2.step hx)
 have z6:∀(m:Mv) (k:Mv) (x:Sy),m∈Tz a c->k∈Tz b d->Wb a x->PM m.on x.ty.toNat x.num->PM k.on x.ty.toNat x.num->m.on=k.on/\q0z a b m.dst.toNat k.dst.toNat:=by
  intro m k x hm hk hx p1 p2;obtain⟨u,hu⟩:=g1.dst m hm;obtain⟨v,hv⟩:=g2.dst k hk;have zb:∀(z:Sy),Wb a z->(PM m.on z.ty.toNat z.num↔Wp a (toL a (Tb a c) z)=u):=λz hz=>by
   rw[g1.mem m hm u hu,Oy ha hs];constructor
   ·rintro⟨z',zc,e1,e2,e3⟩;rw[<-c1j zc hz e1 e2];exact e3
   intro e;exact⟨z,hz,rfl,rfl,e⟩
  have zd:∀(z:Sy),Wb a z->(PM k.on z.ty.toNat z.num↔Wp b (toL b (Tb b d) z)=v):=λz hz=>by
   rw[g2.mem k hk v hv,Oy hb z7];constructor
   ·rintro⟨z',zc,e1,e2,e3⟩;rw[<-c1j zc ((W6 ht).2 hz) e1 e2];exact e3
   intro e;exact⟨z,(W6 ht).2 hz,rfl,rfl,e⟩
  have ze:q0z a b u v:=by have:=key x hx;rw[(zb x hx).1 p1,(zd x hx).1 p2]at this;exact this
  have zf:=g2.wf k hk;rw[ht]at zf;refine⟨P4 (g1.wf m hm) zf λt n=>?_,by rw[hu,hv];simpa using ze⟩;have zg:∀ {p:Prd},PWf a.types.toNat p->PM p t n->Wb a ⟨t,n⟩:=λhp zh=>by obtain⟨zm,zi⟩:=hp.lt zh;exact⟨⟨by simp,by have:=ha.ok.types;simp;omega⟩,zi⟩
  constructor
  ·intro hp;have hz:=zg (g1.wf m hm) hp;have e1:=(zb ⟨t,n⟩ hz).1 (by simpa using hp);have:=key ⟨t,n⟩ hz;rw[e1]at this;have e2:=Ho ha hb ht this ze;simpa using(zd ⟨t,n⟩ hz).2 e2
  intro hp;have hz:=zg zf hp;have e1:=(zd ⟨t,n⟩ hz).1 (by simpa using hp);have:=key ⟨t,n⟩ hz;rw[e1]at this;have e2:=S6 ha hb ht this ze;simpa using(zb ⟨t,n⟩ hz).2 e2
 have zj:∀m∈Tz a c,∃k∈Tz b d,∃x,Wb a x/\PM m.on x.ty.toNat x.num/\PM k.on x.ty.toNat x.num:=λm hm=>by obtain⟨x,hx,_,_,_,hp⟩:=Yy ha h.1 hm;have za:=(W6 ht).2 hx;obtain⟨k,hk,e⟩:=g2.all _ x.ty.toNat x.num ((Oy hb z7).2 ⟨x,za,rfl,rfl,rfl⟩);exact⟨k,hk,x,hx,hp,(g2.mem k hk _ e _ _).2 ((Oy hb z7).2 ⟨x,za,rfl,rfl,rfl⟩)⟩
 have z8:∀k∈Tz b d,∃m∈Tz a c,∃x,Wb a x/\PM m.on x.ty.toNat x.num/\PM k.on x.ty.toNat x.num:=λk hk=>by obtain⟨x,za,_,_,_,hp⟩:=Yy hb h.2.1 hk;have hx:=(W6 ht).1 za;obtain⟨m,hm,e⟩:=g1.all _ x.ty.toNat x.num ((Oy ha hs).2 ⟨x,hx,rfl,rfl,rfl⟩);exact⟨m,hm,x,hx,(g1.mem m hm _ e _ _).2 ((Oy ha hs).2 ⟨x,hx,rfl,rfl,rfl⟩),hp⟩
 have z1:(Tz a c).map (·.on)=(Tz b d).map (·.on):=by
  refine f1m (λp:Prd=>Qx p 0) (xM.2 s1) (xM.2 s2) λp=>?_;constructor
  ·intro hp;obtain⟨m,hm,rfl⟩:=zQ.1 hp;obtain⟨k,hk,x,hx,p1,p2⟩:=zj m hm;exact zQ.2 ⟨k,hk,(z6 m k x hm hk hx p1 p2).1.symm⟩
  intro hp;obtain⟨k,hk,rfl⟩:=zQ.1 hp;obtain⟨m,hm,x,hx,p1,p2⟩:=z8 k hk;exact zQ.2 ⟨m,hm,(z6 m k x hm hk hx p1 p2).1⟩
 refine⟨z1,λi m k hi hk=>?_⟩;have zk:m.on=k.on:=by have e:=congrArg (λl=>l[i]?) z1;simp only[List.getElem?_map,hi,hk,wG,Option.some.injEq]at e;exact e
 have hm:=zJ hi;have zl:=zJ hk;obtain⟨x,hx,_,_,_,hp⟩:=Yy ha h.1 hm;exact z6 m k x hm zl hx hp (zk▸hp)
theorem LkO.all:∀(l l':List Mv) (o o':List Nat),l.length=l'.length->(∀(i:Nat) (m k:Mv),l[i]?=some m->l'[i]?=some k->q0z a b m.dst.toNat k.dst.toNat)->LkO a b o o'->LkO a b (Wh o l) (Wh o' l')
 |[],[],_,_,_,_,h=>h
 |[],_::_,_,_,hl,_,_=>by simp at hl
 |_::_,[],_,_,hl,_,_=>by simp at hl
 |m::l,k::l',o,o',hl,hk,h=>LkO.all l l' _ _ (by simpa using hl) (λi x y hx hy=>hk (i+1) x y (by simpa using hx) (by simpa using hy)) (h.step ha hb ht (hk 0 m k rfl rfl))
theorem LkO.bfs:∀(f n:Nat) (o o':List Nat),LkO a b o o'->LkO a b (Yo a f n o) (Yo b f n o')
 |0,_,_,_,h=>h
 |f+1,n,o,o',h=>by
  unfold Yo;cases hc:o[n]? with
  |none=>
   have:o'[n]? =none:=by rw[u_]at hc |-;rw[<-h.len];exact hc
   rw[this];exact h
  |some c=>
   have hl:=Eb hc;have hl':n<o'.length:=by rw[<-h.len];exact hl
   rw[zI hl'];simp only;have hk:=h.k n c _ hc (zI hl');obtain⟨e1,e2⟩:=y0p ha hb ht hk;have hlen:(Tz a c).length=(Tz b o'[n]).length:=by have:=congrArg ud e1;simpa using this
   exact LkO.bfs f (n+1) _ _ (LkO.all ha hb ht _ _ _ _ hlen (λi m k hi hk=>(e2 i m k hi hk).2) h)
end
def Ac{a:Aut}(ha:Dfa a):∀(f n:Nat) (o:List Nat),a.fin.length+1<=n+f->n<=o.length->o.Nodup->(∀c∈o,Hy a c)->∀g,Yo a (f+g) n o=Yo a f n o
 |0,n,o,hf,hn,z6,z1,g=>by have:=Cb ha z6 z1;omega
 |f+1,n,o,hf,hn,z6,z1,g=>by
  have e:f+1+g=(f+g)+1:=by omega
  rw[e];unfold Yo;cases hon:o[n]? with
  |none=>rfl
  |some c=>
   simp only;have z8:=Eb hon;obtain⟨⟨r,h1,h2⟩,h3,h4⟩:=Yq (Tz a c) o z6;have z7:=z1 c (zJ hon);refine Ac ha f (n+1) _ (by omega) (by rw[h1,zW];omega) h3 (λd hd=>?_) g;rw[h1]at hd;rcases zT.1 hd with hd|hd
   ·exact z1 d hd
   obtain⟨m,hm,e⟩:=h2 d hd;obtain⟨x,_,e2,_,e4,_⟩:=Yy ha z7 hm;rw[e,e2];simpa using e4
def k1p{a b:Aut}(ha:Dfa a)(hb:Dfa b)(ht:b.types=a.types){o o':List Nat}(h:LkO a b o o'){c d:Nat}(hk:q0z a b c d):Fw o c=Fw o' d:=by
 have z1:∀(i:Nat) (x y:Nat),o[i]?=some x->o'[i]?=some y->(decide (x=c)=decide (y=d)):=λi x y hx hy=>by
  have:=h.k i x y hx hy;rw[decide_eq_decide];constructor
  ·intro e;subst e;exact Ho ha hb ht this hk
  intro e;subst e;exact S6 ha hb ht this hk
 have key:∀(o o':List Nat),o.length=o'.length->(∀(i:Nat) (x y:Nat),o[i]?=some x->o'[i]?=some y->(decide (x=c)=decide (y=d)))->(o.findIdx? λe=>decide (e=c))=(o'.findIdx? λe=>decide (e=d)):=by
  intro o;induction o with
  |nil=>
   intro o' hl _;cases o' with
   |nil=>rfl
   |cons y o'=>simp at hl
  |cons x o ih=>
   intro o' hl hf;cases o' with
   |nil=>simp at hl
   |cons y o'=>rw[tE,tE,hf 0 x y rfl rfl,ih o' (by simpa using hl) λi u v hu hv=>hf (i+1) u v (by simpa using hu) (by simpa using hv)]
 unfold Fw;rw[key o o' h.len z1]
def j0a{a b:Aut}(ha:Dfa a)(hb:Dfa b)(ht:b.types=a.types)(hw:eqW a b 0 0):Q1 a=Q1 b:=by
 have h0:LkO a b [Wp a 0] [Wp b 0]:=⟨rfl,λi c d hc hd=>by
  have hi:=Eb hc;simp at hi;subst hi;simp at hc hd;rw[<-hc,<-hd];exact c0x ha hb ht ha.zero hb.zero hw⟩
 have z1:∀ {x:Aut},Dfa x->∀c∈[Wp x 0],Hy x c:=λhx c hc=>by rw[zO.1 hc];exact Po hx hx.zero
 have hL:LkO a b (Yw a) (Yw b):=by have h1:=LkO.bfs ha hb ht (a.fin.length+1+b.fin.length) 0 _ _ h0;rw[show a.fin.length+1+b.fin.length=b.fin.length+1+a.fin.length by omega]at h1;have e2:=Ac hb (b.fin.length+1) 0 [Wp b 0] (by omega) (by simp) (by simp) (z1 hb) a.fin.length;rw[e2,show b.fin.length+1+a.fin.length=a.fin.length+1+b.fin.length by omega,Ac ha (a.fin.length+1) 0 [Wp a 0] (by omega) (by simp) (by simp) (z1 ha) b.fin.length]at h1;exact h1
 have z7:∀n,n<(Yw a).length->mvN a (Yw a) n=mvN b (Yw b) n:=λn hn=>by
  have z6:n<(Yw b).length:=by rw[<-hL.len];exact hn
  have hk:=hL.k n _ _ (zI hn) (zI z6);obtain⟨e1,e2⟩:=y0p ha hb ht hk;have g1:(Yw a).getD n 0=(Yw a)[n]:=by simp[yQ,hn]
  have g2:(Yw b).getD n 0=(Yw b)[n]:=by simp[yQ,z6]
  unfold mvN;rw[g1,g2];have hlen:(Tz a (Yw a)[n]).length=(Tz b (Yw b)[n]).length:=by have:=congrArg ud e1;simpa using this
  refine xZ (by simpa using hlen) λi h1 h2=>?_;simp only[yO]at h1 h2;obtain⟨e3,e4⟩:=e2 i _ _ (zI h1) (zI h2);simp only[uA];rw[e3,k1p ha hb ht hL e4]
 unfold Q1 Px;rw[ht]
 congr 1
 ·refine xZ (by simpa using hL.len) λi h1 h2=>?_;simp only[yO]at h1 h2;have hk:=hL.k i _ _ (zI h1) (zI h2);simp only[uA];have:=hk.2.2 [] (by simp);simpa[Fa,stF]using this
 rw[<-hL.len];rw[uY,uY]
 congr 1
 exact y_ λn hn=>z7 n (xJ.1 hn)
end
section
def d1q{α:Type}{l:List α}(h:l.Nodup){i j:Nat}(hi:i<l.length)(hj:j<l.length)(e:l[i]=l[j]):i=j:=by
 rcases w_ i j with k|k|k
 ·exact absurd e (yL.1 h i j hi hj k)
 ·exact k
 exact absurd e.symm (yL.1 h j i hj hi k)
def Z6{o:List Nat}(hn:o.Nodup){i c:Nat}(h:o[i]?=some c):Fw o c=i:=by
 unfold Fw;have:(o.findIdx? λd=>decide (d=c))=some i:=v0b h (by simp) λi j x y hx hy e1 e2=>by
  have e3:x=c:=by simpa using e1
  have e4:y=c:=by simpa using e2
  subst e3 e4;obtain⟨hi,e5⟩:=zB.1 hx;obtain⟨hj,e6⟩:=zB.1 hy;exact d1q hn hi hj (e5.trans e6.symm)
 rw[this];rfl
def Ce{o:List Nat}(hn:o.Nodup){c:Nat}(h:c∈o):o[Fw o c]?=some c:=by obtain⟨i,hi⟩:=yH.1 h;rw[Z6 hn hi];exact hi
def L0{a:Aut}(ha:Dfa a):∀(f n:Nat) (o:List Nat),(∀c∈o,Hy a c)->(∀c∈o,∃w,(∀x∈w,Wb a x)/\Wp a (stF a 0 w)=c)->o.Nodup->∀c∈Yo a f n o,∃w,(∀x∈w,Wb a x)/\Wp a (stF a 0 w)=c
 |0,_,_,_,h,_=>h
 |f+1,n,o,z6,h,hnd=>by
  unfold Yo;cases hon:o[n]? with
  |none=>exact h
  |some c=>
   simp only;obtain⟨⟨r,h1,h2⟩,h3,h4⟩:=Yq (Tz a c) o hnd;have z7:=zJ hon;have z8:=z6 c z7;have z1:∀d∈Wh o (Tz a c),d∈o\/∃x,Wb a x/\d=Wp a (toL a (Tb a c) x)/\Hy a d:=λd hd=>by
    rw[h1]at hd;rcases zT.1 hd with hd|hd
    ·exact .inl hd
    obtain⟨m,hm,e⟩:=h2 d hd;obtain⟨x,hx,e2,_,e4,_⟩:=Yy ha z8 hm;rw[e2]at e;simp only[vS]at e;exact .inr ⟨x,hx,e,e▸e4⟩
   refine L0 ha f (n+1) _ (λd hd=>?_) (λd hd=>?_) h3
   ·rcases z1 d hd with k|⟨_,_,_,k⟩
    ·exact z6 d k
    exact k
   rcases z1 d hd with k|⟨x,hx,e,_⟩
   ·exact h d k
   obtain⟨w,hw,ew⟩:=h c z7;have za:=(ha.run w 0 ha.zero hw).1;refine⟨w++[x],λy hy=>?_,?_⟩
   ·rcases zT.1 hy with hy|hy
    ·exact hw y hy
    rw[zO.1 hy];exact hx
   have e5:stF a 0 (w++[x])=toL a (stF a 0 w) x:=by simp[stF,wQ]
   rw[e5,e];rw[Dn ha (ha.next za hx).1 (ha.next (R4 ha z8) hx).1];have:=(Lr ha za).symm;rw[ew]at this;exact this.step hx
def c09{a:Aut}(ha:Dfa a):∀c∈Yw a,∃w,(∀x∈w,Wb a x)/\Wp a (stF a 0 w)=c:=
 L0 ha _ 0 _ (λc hc=>by rw[zO.1 hc];exact Po ha ha.zero) (λc hc=>⟨[],by simp,by rw[zO.1 hc];rfl⟩) (by simp)
def Oh{a:Aut}{o:List Nat}{m:Mv}:m∈(Px a o).mv↔∃(n c:Nat),o[n]?=some c/\∃k∈Tz a c,m=⟨n,(Fw o k.dst.toNat:Int),k.on⟩:=by
 unfold Px mvN;simp only[xS,xJ,zQ];constructor
 ·rintro⟨n,hn,k,hk,rfl⟩;have e:o.getD n 0=o[n]:=by simp[yQ,hn]
  rw[e]at hk;exact⟨n,_,zI hn,k,hk,rfl⟩
 rintro⟨n,c,hn,k,hk,rfl⟩;have e:o.getD n 0=c:=by simp[yQ,hn]
 exact⟨n,Eb hn,k,by rw[e];exact hk,rfl⟩
def Ix{a:Aut}(o:List Nat):(Px a o).fin.length=o.length:=by simp[Px]
def Je(a:Aut):(Q1 a).types=a.types:=rfl
def Zy{a:Aut}(ha:Dfa a):WfA (Q1 a):=by
 have ho:=Rc ha;have z1:(Q1 a).fin.length=(Yw a).length:=Ix _;have z6:=Eb ho.first;refine⟨ha.ok.types,by omega,λm hm=>?_,λm hm=>?_,λm hm=>?_⟩
 ·obtain⟨n,c,hn,k,hk,rfl⟩:=Oh.1 hm;have:=Eb hn;rw[z1];exact⟨by simp,by simpa using this⟩
 ·obtain⟨n,c,hn,k,hk,rfl⟩:=Oh.1 hm;have:=Eb (Ce ho.nd (ho.closed c (zJ hn) k hk));rw[z1];exact⟨by simp,by simpa using this⟩
 obtain⟨n,c,hn,k,hk,rfl⟩:=Oh.1 hm;exact(Tr ha (clA a) (R4 ha (ho.cl c (zJ hn)))).1.wf k hk
def v03{a:Aut}(ha:Dfa a):G5 (Q1 a):=λs h0 h1 x hx=>by
 have ho:=Rc ha;have z6:(Q1 a).fin.length=(Yw a).length:=Ix _;have z1:Wb a x:=hx;have hn:s.toNat<(Yw a).length:=by omega
 have hc:=ho.cl _ (zL hn);have hs:=R4 ha hc;have h:=(Tr ha (clA a) hs).1;have hd:Fj a (clA a) (Tb a (Yw a)[s.toNat]) (Wp a (toL a (Tb a (Yw a)[s.toNat]) x)) x.ty.toNat x.num:=(Oy ha hs).2 ⟨x,z1,rfl,rfl,rfl⟩;obtain⟨k,hk,e⟩:=h.all _ _ _ hd;have hm:=Oh.2 ⟨s.toNat,_,zI hn,k,hk,rfl⟩;refine⟨_,hm,by simp;omega,?_⟩;exact(Yr (Zy ha) hm hx).2 ((h.mem k hk _ e _ _).2 hd)
def g0s{a:Aut}(ha:Dfa a):Im (Q1 a):=by
 have ho:=Rc ha;unfold Im Q1 Px;simp only;rw[vF];have hg:∀n,n<(Yw a).length->(Yw a).getD n 0=(Yw a)[n]?.getD 0:=λn hn=>by simp[yQ]
 constructor
 ·intro n hn;have z1:=xJ.1 hn;have hc:=ho.cl _ (zL z1);have hs:=R4 ha hc;have h:=(Tr ha (clA a) hs).1;have e:(Yw a).getD n 0=(Yw a)[n]:=by simp[yQ,z1]
  unfold mvN;rw[e];refine xM.2 (h.nd.imp_of_mem λ{m k} hm hk hne _ x hx=>?_);rintro⟨h1,h2⟩;have z6:Wb a x:=hx;have p1:=(Ej (h.wf m hm).1 x z6.1.1).1 h1;have p2:=(Ej (h.wf k hk).1 x z6.1.1).1 h2;obtain⟨u,hu⟩:=h.dst m hm;obtain⟨v,hv⟩:=h.dst k hk;have:=C2 ha hs ((h.mem m hm u hu _ _).1 p1) ((h.mem k hk v hv _ _).1 p2);exact hne (by rw[hu,hv,this])
 refine yL.2 λi j hi hj z7 m hm k hk e=>?_;simp only[List.getElem_range]at hm hk;unfold mvN at hm hk;obtain⟨m',_,rfl⟩:=zQ.1 hm;obtain⟨k',_,rfl⟩:=zQ.1 hk;simp at e;omega
def Az{α β:Type}(rs:List β)(hn:rs.Nodup)(p:β->α->Bool)(hp:∀s t x,p s x=true->p t x=true->s=t):∀l:List α,(rs.map λs=>(l.filter (p s)).length).sum<=l.length
 |[]=>by have:(rs.map λs=>(([]:List α).filter (p s)).length)=rs.map λ_=>0:=y_ λs _=>rfl;rw[this,uj];simp
 |x::l=>by
  have ih:=Az rs hn p hp l;have key:∀(rs:List β),rs.Nodup->(rs.map λs=>((x::l).filter (p s)).length).sum<=(rs.map λs=>(l.filter (p s)).length).sum+(bif rs.any (λs=>p s x)then 1 else 0):=by
   intro rs;induction rs with
   |nil=>intro _;simp
   |cons s rs ih2=>
    intro z1;obtain⟨z6,z7⟩:=uH.1 z1;have:=ih2 z7;simp only[xC,sc,List.any_cons];by_cases hps:p s x=true
    ·have z8:rs.any (λs=>p s x)=false:=by rw[List.any_eq_false];intro t ht za;exact z6 (hp s t x hps za▸ht)
     rw[z8]at this;rw[List.filter_cons_of_pos hps,hps];simp only[Bool.true_or,cond_true,cond_false,yW]at this |-;omega
    rw[List.filter_cons_of_neg hps,show p s x=false by simpa using hps];simp only[Bool.false_or];omega
  have:=key rs hn;rw[yW];cases hc:rs.any (λs=>p s x)<;>rw[hc]at this<;>simp only[cond_true,cond_false]at this<;>omega
def k1e(a:Aut)(cl:List Nat)(s:Int):(y25 a cl s).length<=(Wc a s).length:=by
 have h1:∀(n:Nat) (g:List Mv) (to:Nat) (c:Prd),(Tx n g to c).length<=g.length+1:=λn g to c=>by
  unfold Tx;split
  ·simp
  split<;>simp
 have h2:∀(r g:List Mv),(r.foldl (λg m=>Tx 0 g (clD cl m) m.on) g).length<=g.length+r.length:=by
  intro r;induction r with
  |nil=>intro g;simp
  |cons m r ih=>intro g;have e:=ih (Tx 0 g (clD cl m) m.on);have e2:=h1 0 g (clD cl m) m.on;rw[xU,yW];omega
 have:=h2 (Wc a s) [];simpa[y25]using this
def X6{a:Aut}(ha:Dfa a){t:Nat}(ht:Hy a t):(Tz a t).length<=(Wc a (Tb a t)).length:=by have h:=Nj ha (clA a) (Tb a t);have hp:=(L1 kyM (y25 a (clA a) (Tb a t)) (h.apart λt' t'' ty y=>C2 ha (R4 ha ht))).1.length_eq;have:=k1e a (clA a) (Tb a t);unfold Tz k16;omega
def Np{a:Aut}(ha:Dfa a):(Q1 a).mv.length<=a.mv.length:=by
 have ho:=Rc ha;have z1:∀c∈Yw a,∀d∈Yw a,Tb a c=Tb a d->c=d:=λc hc d hd e=>by have e1:=(Rm ha (ho.cl c hc)).2;have e2:=(Rm ha (ho.cl d hd)).2;rw[<-e1,<-e2,e]
 have hlen:(Q1 a).mv.length=((Yw a).map λc=>(Tz a c).length).sum:=by
  unfold Q1 Px;simp only[vX]
  congr 1
  refine xZ (by simp) λi h1 h2=>?_;have hi:i<(Yw a).length:=by simpa using h1
  simp[mvN,yQ,hi]
 have hle:((Yw a).map λc=>(Tz a c).length).sum<=(((Yw a).map λc=>((Tb a c:Nat):Int)).map λs=>(Wc a s).length).sum:=by
  rw[vT];have key:∀l:List Nat,(∀c∈l,Hy a c)->(l.map λc=>(Tz a c).length).sum<=(l.map ((λs=>(Wc a s).length)∘λc=>((Tb a c:Nat):Int))).sum:=by
   intro l;induction l with
   |nil=>intro _;simp
   |cons c l ih=>intro hc;have h1:=ih λd hd=>hc d (by simp[hd]);have h2:=X6 ha (hc c (by simp));simp only[xC,sc,Function.comp_apply];omega
  exact key _ ho.cl
 have z6:((Yw a).map λc=>((Tb a c:Nat):Int)).Nodup:=by refine xM.2 ?_;refine List.Pairwise.imp_of_mem ?_ ho.nd;intro c d hc hd z7 e;exact z7 (z1 c hc d hd (by omega))
 have:=Az _ z6 (λs (m:Mv)=>decide (m.src=s) && !Wj m.on) (λs t x h1 h2=>by
  simp only[yF,decide_eq_true_eq]at h1 h2;rw[<-h1.1,<-h2.1]) a.mv
 rw[hlen];unfold Wc at hle;omega
def u0y{a:Aut}(ha:Dfa a):(Q1 a).fin.length<=a.fin.length:=by have ho:=Rc ha;rw[Q1,Ix];exact Cb ha ho.nd ho.cl
def Jt(m:Aut):Bool:=m.mv.any λk=>k.on.any λs=>decide (256<s.length)
def k0m{a:Aut}(ha:Dfa a):Vn (Q1 a)=Jt (Q1 a):=by have h1:=u0y ha;have h2:=Np ha;have h3:=ha.ok.fin;have h4:=ha.ok.mvs;unfold Vn Jt;rw[decide_eq_false (by omega),decide_eq_false (by omega)];simp
def G7{a:Aut}(ha:Dfa a)(hb:Jt (Q1 a)=false):Dfa (Q1 a):=
 ⟨(Ud _).1 ((f1y (Zy ha)).2 (by rw[k0m ha];exact hb)),g0s ha,v03 ha⟩
section
variable {a:Aut} (ha:Dfa a) (hb:Jt (Q1 a)=false)
include ha hb
theorem y0a{n c:Nat}(hn:(Yw a)[n]?=some c){x:Sy}(hx:Wb a x):toL (Q1 a) n x=(Fw (Yw a) (Wp a (toL a (Tb a c) x)):Nat)/\Wp a (toL a (Tb a c) x)∈Yw a:=by have ho:=Rc ha;have hd:=G7 ha hb;have hc:=ho.cl _ (zJ hn);have hs:=R4 ha hc;have h:=(Tr ha (clA a) hs).1;have z6:Fj a (clA a) (Tb a c) (Wp a (toL a (Tb a c) x)) x.ty.toNat x.num:=(Oy ha hs).2 ⟨x,hx,rfl,rfl,rfl⟩;obtain⟨k,hk,e⟩:=h.all _ _ _ z6;have hm:=Oh.2 ⟨n,c,hn,k,hk,rfl⟩;have z1:=ho.closed c (zJ hn) k hk;rw[e]at z1;simp only[vS]at z1;refine⟨?_,z1⟩;have:=hd.to_of hm (x:=x) hx ((Yr hd.ok.wfA hm hx).2 ((h.mem k hk _ e _ _).2 z6));simp only[e,vS]at this;exact this
theorem O6:∀(w:List Sy) {n c:Nat},(Yw a)[n]?=some c->(∀x∈w,Wb a x)->Fa (Q1 a) n w=Fa a (Tb a c) w
 |[],n,c,hn,_=>by simp only[Fa,stF,th,vS];simp[Q1,Px,yQ,hn]
 |x::w,n,c,hn,hw=>by have hx:=hw x (by simp);have ho:=Rc ha;obtain⟨h1,h2⟩:=y0a ha hb hn hx;have ih:=O6 w (Ce ho.nd h2) (λy hy=>hw y (by simp[hy]));have hc:=ho.cl _ (zJ hn);have z1:=(ha.next (R4 ha hc) hx).1;have e:=Lr ha z1 w (λy hy=>hw y (by simp[hy]));have e1:Fa (Q1 a) n (x::w)=Fa (Q1 a) (toL (Q1 a) n x) w:=rfl;have e2:Fa a (Tb a c) (x::w)=Fa a (toL a (Tb a c) x) w:=rfl;rw[e1,e2,h1,ih,e]
theorem k08:eqW (Q1 a) a 0 0:=λw hw=>by have ho:=Rc ha;have h1:=O6 ha hb w ho.first hw;have h2:=Lr ha ha.zero w hw;simp only[Int.cast_ofNat_Int]at h1;exact h1.trans h2
theorem z13{w:List Sy}(hw:∀x∈w,Wb a x):E5 (Q1 a) w=E5 a w:=by rw[(G7 ha hb).acc (w:=w) hw,ha.acc hw];exact k08 ha hb w hw
theorem q08{i j:Nat}(hi:i<(Q1 a).fin.length)(hj:j<(Q1 a).fin.length)(h:eqW (Q1 a) (Q1 a) i j):i=j:=by
 have ho:=Rc ha;rw[Q1,Ix]at hi hj;have z1:=ho.cl _ (zL hi);have z6:=ho.cl _ (zL hj);have:eqW a a (Tb a (Yw a)[i]) (Tb a (Yw a)[j]):=λw hw=>by rw[<-O6 ha hb w (zI hi) hw,<-O6 ha hb w (zI hj) hw];exact h w hw
 have e:=(Dn ha (R4 ha z1) (R4 ha z6)).2 this;rw[(Rm ha z1).2,(Rm ha z6).2]at e;exact d1q ho.nd hi hj e
theorem v1a:∀(w:List Sy),(∀x∈w,Wb a x)->Wp a (stF a 0 w)∈Yw a/\stF (Q1 a) 0 w=(Fw (Yw a) (Wp a (stF a 0 w)):Nat):=by
 have ho:=Rc ha;have key:∀(w:List Sy) (n c:Nat) (s:Int),(Yw a)[n]?=some c->inS a s->Wp a s=c->(∀x∈w,Wb a x)->Wp a (stF a s w)∈Yw a/\stF (Q1 a) n w=(Fw (Yw a) (Wp a (stF a s w)):Nat):=by
  intro w;induction w with
  |nil=>intro n c s hn hs hc _;simp only[stF,th];rw[hc];exact⟨zJ hn,by rw[Z6 ho.nd hn]⟩
  |cons x w ih=>
   intro n c s hn hs hc hw;have hx:=hw x (by simp);obtain⟨h1,h2⟩:=y0a ha hb hn hx;have z1:=ho.cl _ (zJ hn);have e:Wp a (toL a (Tb a c) x)=Wp a (toL a s x):=by rw[Dn ha (ha.next (R4 ha z1) hx).1 (ha.next hs hx).1];have:=Lr ha hs;rw[hc]at this;exact this.step hx
   rw[e]at h1 h2;have:=ih _ _ (toL a s x) (Ce ho.nd h2) (ha.next hs hx).1 rfl (λy hy=>hw y (by simp[hy]));have e1:stF a s (x::w)=stF a (toL a s x) w:=rfl;have e2:stF (Q1 a) n (x::w)=stF (Q1 a) (toL (Q1 a) n x) w:=rfl;rw[e1,e2,h1];exact this
 intro w hw;have:=key w 0 _ 0 ho.first ha.zero rfl hw;simpa using this
theorem u01{n:Nat}(hn:n<(Q1 a).fin.length):∃w,(∀x∈w,Wb a x)/\stF (Q1 a) 0 w=n:=by have ho:=Rc ha;rw[Q1,Ix]at hn;obtain⟨w,hw,e⟩:=c09 ha _ (zL hn);have:=(v1a ha hb w hw).2;rw[e,Z6 ho.nd (zI hn)]at this;exact⟨w,hw,this⟩
end
def Pr(a:Aut):Int×Aut:=if(Wv a).1≠0 then((Wv a).1,Ty)else if(Il (Wv a).2).1≠0 then((Il (Wv a).2).1,Ty)else
 if Jt (Q1 (Il (Wv a).2).2)then(5,Ty)else(0,Q1 (Il (Wv a).2).2)
def g0j{a d c:Aut}(h:OkA a)(hd:Wv a=(0,d))(hc:Il d=(0,c)):Dfa c/\c.types=a.types/\∀w,(∀x∈w,Wb a x)->E5 c w=E5 a w:=by obtain⟨Q,_,_,_,_,_,z1,ddet,z6,dacc⟩:=Tk h hd;obtain⟨z7,z8,cfull,cdet,cacc⟩:=Gf z1 hc;exact⟨⟨z7,cdet ddet,cfull⟩,z8.trans z6,λw hw=>(cacc w).trans (dacc w hw)⟩
def Sj{a m:Aut}(h:OkA a)(hm:Pr a=(0,m)):∃c,Dfa c/\c.types=a.types/\m=Q1 c/\Jt (Q1 c)=false/\∀w,(∀x∈w,Wb a x)->E5 c w=E5 a w:=by
 unfold Pr at hm;split at hm
 ·rename_i hd;exact absurd (tj.1 hm).1 hd
 rename_i hd;split at hm
 ·rename_i hc;exact absurd (tj.1 hm).1 hc
 rename_i hc;split at hm
 ·simp at hm
 rename_i hb;obtain⟨h1,h2,h3⟩:=g0j h (d:=(Wv a).2) (c:=(Il (Wv a).2).2) (vY (by simpa using hd) rfl) (vY (by simpa using hc) rfl);exact⟨_,h1,h2,(tj.1 hm).2.symm,by simpa using hb,h3⟩
def w19{a:Aut}(h:OkA a):(Pr a).1=0\/(Pr a).1=5:=by
 unfold Pr;split
 ·rename_i hd;rcases q0n h with k|k
  ·exact absurd k hd
  exact .inr k
 split
 ·rename_i hc;rcases q03 (Wv a).2 with k|k
  ·exact absurd k hc
  exact .inr k
 split
 ·exact .inr rfl
 exact .inl rfl
def v1f{a b m:Aut}(ha:OkA a)(hb:OkA b)(ht:b.types=a.types)(hw:∀w,(∀x∈w,Wb a x)->E5 a w=E5 b w){n:Aut}(hm:Pr a=(0,m))(hn:Pr b=(0,n)):m=n:=by
 obtain⟨c,c1,c2,rfl,c4,c5⟩:=Sj ha hm;obtain⟨d,d1,d2,rfl,d4,d5⟩:=Sj hb hn;have z6:d.types=c.types:=by rw[d2,ht,c2]
 refine j0a c1 d1 z6 λw z1=>?_;have h1:∀x∈w,Wb a x:=λx hx=>(W6 c2).1 (z1 x hx);have h2:∀x∈w,Wb b x:=λx hx=>(W6 ht).2 (h1 x hx);have h3:∀x∈w,Wb d x:=λx hx=>(W6 z6).2 (z1 x hx);rw[<-c1.acc z1,<-d1.acc h3,c5 w h1,d5 w h2];exact hw w h1
def Hk{a m:Aut}(ha:OkA a)(hm:Pr a=(0,m)):OkA m/\Dfa m/\m.types=a.types/\(∀w,(∀x∈w,Wb a x)->E5 m w=E5 a w)/\((Pr m).1=5\/Pr m=(0,m)):=by
 obtain⟨c,c1,c2,rfl,c4,c5⟩:=Sj ha hm;have hd:=G7 c1 c4;have z1:∀w,(∀x∈w,Wb a x)->E5 (Q1 c) w=E5 a w:=λw hw=>by rw[z13 c1 c4 (λx hx=>(W6 c2).2 (hw x hx))];exact c5 w hw
 refine⟨hd.ok,hd,c2,z1,?_⟩;rcases w19 hd.ok with h0|h5
 ·obtain⟨n,hn⟩:∃n,Pr (Q1 c)=(0,n):=⟨_,vY h0 rfl⟩
  have:=v1f ha hd.ok c2 (λw hw=>(z1 w hw).symm) hm hn;exact .inr (by rw[hn,<-this])
 exact .inl h5
end
def addI(o:List Int)(c:Int):List Int:=if c∈o then o else o++[c]
structure Dta (a:Aut):Prop where
 ok:OkA a
 det:Im a
def j24{α:Type}{R:α->α->Prop}{l:List α}(h:l.Pairwise R){x y:α}(hx:x∈l)(hy:y∈l)(h1:¬R x y)(h2:¬R y x):x=y:=by
 obtain⟨i,hi,rfl⟩:=yZ hx;obtain⟨j,hj,rfl⟩:=yZ hy;rcases w_ i j with k|k|k
 ·exact absurd (yL.1 h i j hi hj k) h1
 ·subst k;rfl
 exact absurd (yL.1 h j i hj hi k) h2
def Dta.one{a:Aut}(h:Dta a){m k:Mv}(hm:m∈a.mv)(hk:k∈a.mv)(hs:m.src=k.src){x:Sy}(hx:Wb a x)(h1:Rk m.on x=true)(h2:Rk k.on x=true):m=k:=
 j24 h.det hm hk (λhr=>hr hs x hx ⟨h1,h2⟩) (λhr=>hr hs.symm x hx ⟨h2,h1⟩)
def Dta.to_of{a:Aut}(h:Dta a){m:Mv}(hm:m∈a.mv){x:Sy}(hx:Wb a x)(hh:Rk m.on x=true):toL a m.src x=m.dst:=by
 unfold toL;cases hf:a.mv.find? (λk=>decide (k.src=m.src) && Rk k.on x)with
 |none=>rw[vN]at hf;have:=hf m hm;simp[hh]at this
 |some k=>have h1:=uR hf;simp only[yF,decide_eq_true_eq]at h1;rw[h.one (vG hf) hm h1.1 hx h1.2 hh]
def Gm{a:Aut}(s:Int)(x:Sy):(toL a s x= -1/\∀m∈a.mv,m.src=s->Rk m.on x=false)\/∃m∈a.mv,m.src=s/\Rk m.on x=true/\toL a s x=m.dst:=by
 unfold toL;cases hf:a.mv.find? (λk=>decide (k.src=s) && Rk k.on x)with
 |none=>rw[vN]at hf;refine .inl ⟨rfl,λm hm e=>?_⟩;have:=hf m hm;simpa[e]using this
 |some k=>have h1:=uR hf;simp only[yF,decide_eq_true_eq]at h1;exact .inr ⟨k,vG hf,h1.1,h1.2,rfl⟩
def j2m{a:Aut}(h:OkA a)(s:Int)(x:Sy):toL a s x= -1\/inS a (toL a s x):=by
 rcases Gm (a:=a) s x with⟨h1,_⟩|⟨m,hm,_,_,e⟩
 ·exact .inl h1
 rw[e];exact .inr (h.mv m hm).dst
section
def y20{a:Aut}(h:OkA a)(x:Sy):toL a (-1) x= -1:=by
 rcases Gm (a:=a) (-1) x with⟨h1,_⟩|⟨m,hm,h2,_,_⟩
 ·exact h1
 have:=(h.mv m hm).src.1;omega
def inD(a:Aut)(s:Int):Prop:=s= -1\/inS a s
def y0e{a:Aut}(h:OkA a)(s:Int)(x:Sy):inD a (toL a s x):=j2m h s x
def y0w(a:Aut)(s:Int):Bool:=decide (s≠ -1) && a.fin.getD s.toNat false
def mvS(a:Aut)(s:Int):List Mv:=a.mv.filter λm=>decide (m.src=s)
def Wk(a:Aut)(s:Int):List (Option Mv):=(mvS a s).map some++[none]
def S1:Option Mv->Int
 |some m=>m.dst
 |none=> -1
def y1v(a:Aut)(s:Int):Option Mv->Prd
 |some m=>m.on
 |none=>T6 (Ux a.types.toNat ((mvS a s).map (·.on)))
def c0r(a:Aut)(s:Int)(o:Option Mv)(x:Sy):Prop:=PM (y1v a s o) x.ty.toNat x.num
def Yk{a:Aut}{s:Int}{m:Mv}:m∈mvS a s↔m∈a.mv/\m.src=s:=by unfold mvS;rw[xH,decide_eq_true_eq]
def An{a:Aut}{s:Int}{o:Option Mv}:o∈Wk a s↔o=none\/∃m∈mvS a s,o=some m:=by
 unfold Wk;rw[zT,zQ,zO];constructor
 ·rintro(⟨m,hm,rfl⟩|rfl)
  ·exact .inr ⟨m,hm,rfl⟩
  exact .inl rfl
 rintro(rfl|⟨m,hm,rfl⟩)
 ·exact .inr rfl
 exact .inl ⟨m,hm,rfl⟩
def Jz{a:Aut}(h:OkA a)(s:Int):∀p∈(mvS a s).map (·.on),PWf a.types.toNat p:=λr hr=>by obtain⟨m,hm,rfl⟩:=zQ.1 hr;exact h.wfA.on m (Yk.1 hm).1
def q0i{a:Aut}(h:OkA a){s:Int}{o:Option Mv}(ho:o∈Wk a s):PWf a.types.toNat (y1v a s o):=by
 rcases An.1 ho with rfl|⟨m,hm,rfl⟩
 ·exact j04 (Ao (Jz h s))
 exact h.wfA.on m (Yk.1 hm).1
def Jw{a:Aut}(h:OkA a)(s:Int){x:Sy}(hx:Wb a x):c0r a s none x↔∀m∈mvS a s,Rk m.on x=false:=by
 unfold c0r y1v;rw[Cc (Ao (Jz h s)),Jv (Jz h s)];have hk:=Uf.2 hx;constructor
 ·rintro⟨_,hn⟩ m hm;cases hh:Rk m.on x with
  |false=>rfl
  |true=>exact absurd ⟨m.on,zQ.2 ⟨m,hm,rfl⟩,(Yr h.wfA (Yk.1 hm).1 hx).1 hh⟩ hn
 intro hn;refine⟨hk.2,?_⟩;rintro⟨r,hr,z1⟩;obtain⟨m,hm,rfl⟩:=zQ.1 hr;have:=hn m hm;rw[(Yr h.wfA (Yk.1 hm).1 hx).2 z1]at this;cases this
def I3{a:Aut}(h:OkA a){s:Int}{m:Mv}(hm:m∈mvS a s){x:Sy}(hx:Wb a x):c0r a s (some m) x↔Rk m.on x=true:=(Yr h.wfA (Yk.1 hm).1 hx).symm
def y04{a:Aut}(h:Dta a){s:Int}{o:Option Mv}(ho:o∈Wk a s){x:Sy}(hx:Wb a x)(hh:c0r a s o x):toL a s x=S1 o:=by
 rcases An.1 ho with rfl|⟨m,hm,rfl⟩
 ·have hn:=(Jw h.ok s hx).1 hh;rcases Gm (a:=a) s x with⟨h1,_⟩|⟨m,h1,h2,h3,_⟩
  ·exact h1
  rw[hn m (Yk.2 ⟨h1,h2⟩)]at h3;cases h3
 obtain⟨h1,h2⟩:=Yk.1 hm;rw[<-h2];exact h.to_of h1 hx ((I3 h.ok hm hx).1 hh)
def z1j{a:Aut}(h:OkA a)(s:Int){x:Sy}(hx:Wb a x):∃o∈Wk a s,c0r a s o x:=by
 by_cases hn:∀m∈mvS a s,Rk m.on x=false
 ·exact⟨none,An.2 (.inl rfl),(Jw h s hx).2 hn⟩
 have:∃m∈mvS a s,Rk m.on x=true:=Classical.byContradiction λk=>hn λm hm=>by
  cases hh:Rk m.on x with
  |false=>rfl
  |true=>exact absurd ⟨m,hm,hh⟩ k
 obtain⟨m,hm,hh⟩:=this;exact⟨some m,An.2 (.inr ⟨m,hm,rfl⟩),(I3 h hm hx).2 hh⟩
def y0b{a:Aut}(h:Dta a)(s:Int):(Wk a s).Pairwise (λo r=>∀x,Wb a x->c0r a s o x->¬c0r a s r x):=by
 unfold Wk;rw[yE,xM];refine⟨?_,List.pairwise_singleton ..,λo ho r hr x hx h1 h2=>?_⟩
 ·have hp:(mvS a s).Pairwise (λm k=>m.src=k.src->∀x:Sy,Wb a x->¬(Rk m.on x=true/\Rk k.on x=true)):=h.det.filter _;refine hp.imp_of_mem λ{m k} hm hk hr x hx h1 h2=>?_;have e:m.src=k.src:=by rw[(Yk.1 hm).2,(Yk.1 hk).2]
  exact hr e x hx ⟨(I3 h.ok hm hx).1 h1,(I3 h.ok hk hx).1 h2⟩
 rw[zO.1 hr]at h2;obtain⟨m,hm,rfl⟩:=zQ.1 ho;have:=(Jw h.ok s hx).1 h2 m hm;rw[(I3 h.ok hm hx).1 h1]at this;cases this
def w0m(a b:Aut)(s:Int×Int)(o r:Option Mv):Prd:=Wn (y1v a s.1 o) (y1v b s.2 r)
def j11(a b:Aut)(s:Int×Int)(o r:Option Mv):Option (Sy×(Int×Int)):=if Wj (w0m a b s o r)then none else some (Ql (w0m a b s o r),(S1 o,S1 r))
def Vq(a b:Aut)(s:Int×Int):List (Sy×(Int×Int)):=(Wk a s.1).flatMap λo=>(Wk b s.2).filterMap (j11 a b s o)
section
variable {a b:Aut} (ha:Dta a) (hb:Dta b) (ht:b.types=a.types) {s:Int×Int}
include ha hb ht
theorem q1z{o r:Option Mv}(ho:o∈Wk a s.1)(hr:r∈Wk b s.2):PWf a.types.toNat (w0m a b s o r)/\∀t n,PM (w0m a b s o r) t n↔PM (y1v a s.1 o) t n/\PM (y1v b s.2 r) t n:=by have w1:=q0i ha.ok ho;have w2:=q0i hb.ok hr;rw[ht]at w2;exact⟨Tu w1 w2.1,Eo w1.1 w2.1⟩
theorem Un{o r:Option Mv}(ho:o∈Wk a s.1)(hr:r∈Wk b s.2){e:Sy×(Int×Int)}(he:j11 a b s o r=some e):Wb a e.1/\c0r a s.1 o e.1/\c0r b s.2 r e.1/\e.2=(S1 o,S1 r)/\∀y,Wb a y->c0r a s.1 o y->c0r b s.2 r y->e.1=y\/sLt e.1 y:=by
 obtain⟨hw,z1⟩:=q1z ha hb ht ho hr;unfold j11 at he;split at he
 ·cases he
 rename_i hv;obtain rfl:=Option.some.inj he;obtain⟨k1,k2,k3⟩:=Te hw ((Tw hw).1 (by simpa using hv));obtain⟨p1,p2⟩:=(z1 _ _).1 k2;exact⟨Uf.1 k1,p1,p2,rfl,λy hy h1 h2=>k3 y (Uf.2 hy) ((z1 _ _).2 ⟨h1,h2⟩)⟩
theorem f04{e:Sy×(Int×Int)}:e∈Vq a b s↔∃o∈Wk a s.1,∃r∈Wk b s.2,j11 a b s o r=some e:=by unfold Vq;rw[xS];simp only[wI]
theorem u2a{e:Sy×(Int×Int)}(he:e∈Vq a b s):Wb a e.1/\e.2=Rw a b s e.1:=by obtain⟨o,ho,r,hr,h⟩:=(f04 ha hb ht).1 he;obtain⟨k1,k2,k3,k4,_⟩:=Un ha hb ht ho hr h;refine⟨k1,?_⟩;rw[k4];unfold Rw;rw[y04 ha ho k1 k2,y04 hb hr ((W6 ht).2 k1) k3]
theorem q2a{y:Sy}(hy:Wb a y):∃e∈Vq a b s,e.2=Rw a b s y/\(e.1=y\/sLt e.1 y):=by
 have z1:=(W6 ht).2 hy;obtain⟨o,ho,h1⟩:=z1j ha.ok s.1 hy;obtain⟨r,hr,h2⟩:=z1j hb.ok s.2 z1;obtain⟨hw,z6⟩:=q1z ha hb ht ho hr;have hv:Wj (w0m a b s o r)=false:=(Tw hw).2 ⟨_,_,(z6 _ _).2 ⟨h1,h2⟩⟩;have he:j11 a b s o r=some (Ql (w0m a b s o r),(S1 o,S1 r)):=by unfold j11;rw[hv,if_neg (by simp)]
 refine⟨_,(f04 ha hb ht).2 ⟨o,ho,r,hr,he⟩,?_,(Un ha hb ht ho hr he).2.2.2.2 y hy h1 h2⟩;unfold Rw;rw[y04 ha ho hy h1,y04 hb hr z1 h2]
theorem g1z:(Vq a b s).Pairwise (λe e'=>e.1≠e'.1):=by
 unfold Vq;rw[vF];refine⟨λo ho=>?_,(y0b ha s.1).imp_of_mem λ{o o'} ho ho' hd x hx y hy e=>?_⟩
 ·rw[List.pairwise_filterMap];refine(y0b hb s.2).imp_of_mem λ{r r'} hr z1 hd x hx y hy e=>?_;obtain⟨k1,_,k3,_⟩:=Un ha hb ht ho hr hx;obtain⟨_,_,j3,_⟩:=Un ha hb ht ho z1 hy;rw[<-e]at j3;exact hd x.1 ((W6 ht).2 k1) k3 j3
 obtain⟨r,hr,h1⟩:=wI.1 hx;obtain⟨r',z1,h2⟩:=wI.1 hy;obtain⟨k1,k2,_⟩:=Un ha hb ht ho hr h1;obtain⟨_,j2,_⟩:=Un ha hb ht ho' z1 h2;rw[<-e]at j2;exact hd x.1 k1 k2 j2
end
def Ms(e e':Sy×(Int×Int)):Bool:= !Kx e'.1 e.1
def Dh(a b:Aut)(s:Int×Int):List (Sy×(Int×Int)):=(Vq a b s).mergeSort Ms
def v0s(x y z:Sy×(Int×Int))(h1:Ms x y=true)(h2:Ms y z=true):Ms x z=true:=by
 unfold Ms at *
 cases hz:Kx z.1 x.1 with
 |false=>rfl
 |true=>
  exfalso;rw[D3]at hz;have n1:¬sLt y.1 x.1:=λk=>by rw[(D3 _ _).2 k]at h1;simp at h1
  have n2:¬sLt z.1 y.1:=λk=>by rw[(D3 _ _).2 k]at h2;simp at h2
  rcases sLt.tri x.1 y.1 with k|k|k
  ·exact n2 (hz.trans k)
  ·rw[k]at hz;exact n2 hz
  exact n1 k
def v0a(x y:Sy×(Int×Int)):(Ms x y || Ms y x)=true:=by
 unfold Ms;cases h1:Kx y.1 x.1 with
 |false=>rfl
 |true=>
  cases h2:Kx x.1 y.1 with
  |false=>rfl
  |true=>exact absurd (((D3 _ _).1 h1).trans ((D3 _ _).1 h2)) (λk=>sLt.irr k)
def L4{L:List (Sy×(Int×Int))}(hp:L.Pairwise λx y=>Ms x y=true)(hn:L.Pairwise λe e'=>e.1≠e'.1):L.Pairwise λx y=>sLt x.1 y.1:=by
 refine(hp.and hn).imp λ{x y} h=>?_;have n1:¬sLt y.1 x.1:=λk=>by have:=h.1;unfold Ms at this;rw[(D3 _ _).2 k]at this;simp at this
 rcases sLt.tri x.1 y.1 with k|k|k
 ·exact k
 ·exact absurd k h.2
 exact absurd k n1
def y0g{a b:Aut}(ha:Dta a)(hb:Dta b)(ht:b.types=a.types)(s:Int×Int):(Dh a b s).Pairwise λx y=>sLt x.1 y.1:=by refine L4 (ul v0s v0a _) ?_;exact(vJ (Vq a b s) Ms).symm.pairwise (g1z ha hb ht) (λ{x y} h=>h.symm)
def Z9{a b:Aut}(ha:Dta a)(hb:Dta b)(ht:b.types=a.types)(s:Int×Int):SuccOk (Wb a) (Rw a b) s (Dh a b s):=by have hm:∀e,e∈Dh a b s↔e∈Vq a b s:=λe=>(vJ (Vq a b s) Ms).mem_iff;refine⟨y0g ha hb ht s,λe he=>u2a ha hb ht ((hm e).1 he),λy hy=>?_⟩;obtain⟨e,he,h⟩:=q2a ha hb ht (s:=s) hy;exact⟨e,(hm e).2 he,h⟩
def q14{a b:Aut}(ha:Dta a)(hb:Dta b)(ht:b.types=a.types)(s:Int×Int){L:List (Sy×(Int×Int))}(hp:L.Perm (Vq a b s))(hs:L.Pairwise λx y=>Ms x y=true):L=Dh a b s:=by have h1:=L4 hs (hp.symm.pairwise (g1z ha hb ht) (λ{x y} h=>h.symm));refine List.Perm.eq_of_pairwise (le:=λx y=>sLt x.1 y.1) (λx y _ _ k1 k2=>absurd (k1.trans k2) (λk=>sLt.irr k)) h1 (y0g ha hb ht s) (hp.trans (vJ (Vq a b s) Ms).symm)
end
structure FirstP (ok:Sy->Prop) (P:List Sy->Bool) (w:List Sy):Prop where
 okw:∀x∈w,ok x
 hit:P w=true
 least:∀v,(∀x∈v,ok x)->P v=true->lle w v
def FirstP.uniq{ok:Sy->Prop}{P:List Sy->Bool}{v w:List Sy}(h:FirstP ok P v)(k:FirstP ok P w):v=w:=
 (h.least w k.okw k.hit).anti (k.least v h.okw h.hit)
def FirstP.congr{ok:Sy->Prop}{P Q:List Sy->Bool}{w:List Sy}(h:FirstP ok P w)(e:∀v,(∀x∈v,ok x)->P v=Q v):FirstP ok Q w:=
 ⟨h.okw,by rw[<-e w h.okw];exact h.hit,λv hv hq=>h.least v hv (by rw[e v hv];exact hq)⟩
def FirstP.sub{ok ok':Sy->Prop}{P:List Sy->Bool}{w:List Sy}(h:FirstP ok P w)(e:∀x,ok x↔ok' x):FirstP ok' P w:=
 ⟨λx hx=>(e x).1 (h.okw x hx),h.hit,λv hv hq=>h.least v (λx hx=>(e x).2 (hv x hx)) hq⟩
def FirstW.toP{σ:Type}{ok:Sy->Prop}{step:σ->Sy->σ}{good:σ->Bool}{s:σ}{w:List Sy}(h:FirstW ok step good s w):FirstP ok (λv=>good (Tt step s v)) w:=⟨h.okw,h.goodw,h.least⟩
def c0t(s:Int):List Int:=if s= -1 then []else [s]
def u1s{a:Aut}(h:Dta a){s:Int}{x:Sy}(hx:Wb a x):Qy a [s] x=c0t (toL a s x):=by
 unfold c0t;rcases Gm (a:=a) s x with⟨h1,h2⟩|⟨m,m1,m2,m3,m4⟩
 ·rw[if_pos h1];refine wZ.2 λj hj=>?_;obtain⟨_,m,hm,k1,k2,_⟩:=We.1 hj;rw[h2 m hm (zO.1 k1)]at k2;cases k2
 have hd:=(h.ok.mv m m1).dst;rw[if_neg (by rw[m4];omega)];refine Ye (Yx ..) (by simp) λz=>?_;rw[We,zO];constructor
 ·rintro⟨_,k,hk,k1,k2,rfl⟩;rw[<-h.to_of hk hx k2,zO.1 k1]
 rintro rfl;rw[m4];exact⟨hd,m,m1,by rw[m2];simp,m3,rfl⟩
def z0p(a:Aut)(x:Sy):Qy a [] x=[]:=wZ.2 λj hj=>by obtain⟨_,m,hm,k1,_⟩:=We.1 hj;cases k1
def z1p{a:Aut}(h:Dta a):∀(w:List Sy) (s:Int),(∀x∈w,Wb a x)->Uv a (c0t s) w=c0t (stF a s w)
 |[],_,_=>rfl
 |x::w,s,hw=>by
  have hx:=hw x (by simp);have ih:=z1p h w (toL a s x) λy hy=>hw y (by simp[hy]);show Uv a (Qy a (c0t s) x) w=c0t (stF a (toL a s x) w);rw[<-ih]
  congr 1
  by_cases hs:s= -1
  ·subst hs;rw[y20 h.ok];unfold c0t;rw[if_pos rfl,z0p]
  have:c0t s=[s]:=by unfold c0t;rw[if_neg hs]
  rw[this,u1s h hx]
def z2d(a:Aut)(s:Int):O9 a (c0t s)=y0w a s:=by
 unfold c0t y0w O9;by_cases hs:s= -1
 ·rw[if_pos hs,hs];rfl
 rw[if_neg hs];simp[hs]
def z1s{a:Aut}(h:Dta a){w:List Sy}(hw:∀x∈w,Wb a x):E5 a w=y0w a (stF a 0 w):=by unfold E5;rw[<-z2d,<-z1p h w 0 hw];rfl
def Ld(n:Nat):List Int:= -1::El n
def q1v(a b:Aut):List (Int×Int):=(Ld a.fin.length).flatMap λi=>(Ld b.fin.length).map λj=>(i,j)
def V6(a b:Aut):(q1v a b).length=(a.fin.length+1) * (b.fin.length+1):=by unfold q1v;rw[vX,y_ (g:=λ_=>b.fin.length+1) (λi _=>by simp[El,Ld]),uj,ug];simp[El,Ld]
def Ln{a:Aut}{s:Int}:s∈Ld a.fin.length↔inD a s:=by unfold Ld inD;rw[zX,Ek];exact Iff.rfl
def Mm{a b:Aut}{s:Int×Int}(h1:inD a s.1)(h2:inD b s.2):s∈q1v a b:=by unfold q1v;exact xS.2 ⟨s.1,Ln.2 h1,zQ.2 ⟨s.2,Ln.2 h2,rfl⟩⟩
def V1(wn:Bool->Bool->Bool)(a b:Aut)(s:Int×Int):Bool:=wn (y0w a s.1) (y0w b s.2)
def y1p(a b:Aut)(wn:Bool->Bool->Bool):Option (List Sy)×List ((Int×Int)×List Sy):=Vc (V1 wn a b) (Dh a b) ((a.fin.length+1) * (b.fin.length+1)+1) 0 [((0,0),[])]
def wnd(wn:Bool->Bool->Bool)(a b:Aut)(v:List Sy):Bool:=wn (E5 a v) (E5 b v)
def x0n{a b:Aut}(ha:Dta a)(hb:Dta b)(ht:b.types=a.types)(wn:Bool->Bool->Bool){v:List Sy}(hv:∀x∈v,Wb a x):V1 wn a b (Tt (Rw a b) (0,0) v)=wnd wn a b v:=by rw[Hr];unfold V1 wnd;rw[z1s ha hv,z1s hb λx hx=>(W6 ht).2 (hv x hx)]
def Nu{a b:Aut}(ha:Dta a)(hb:Dta b)(ht:b.types=a.types)(wn:Bool->Bool->Bool):
  (∃w L,y1p a b wn=(some w,L)/\FirstP (Wb a) (wnd wn a b) w)\/
  (∃L,y1p a b wn=(none,L)/\(L.map (·.1)).Nodup/\(∀s,s∈L.map (·.1)↔∃v,(∀x∈v,Wb a x)/\Tt (Rw a b) (0,0) v=s)/\(∀s∈L.map (·.1),inD a s.1/\inD b s.2)/\∀v,(∀x∈v,Wb a x)->wnd wn a b v=false):=by
 have hz:inD a 0/\inD b 0:=⟨.inr ⟨xK _,by have:=ha.ok.fin;omega⟩,.inr ⟨xK _,by have:=hb.ok.fin;omega⟩⟩
 rcases Gd (ok:=Wb a) (step:=Rw a b) (good:=V1 wn a b) (succ:=Dh a b) (s0:=(0,0)) (G:=λs=>inD a s.1/\inD b s.2) (λs _=>Z9 ha hb ht s)
  (λs _ e he=>by
   rw[((Z9 ha hb ht s).mem e he).2];exact⟨y0e ha.ok _ _,y0e hb.ok _ _⟩) (q1v a b) (λs hs=>Mm hs.1 hs.2) ((a.fin.length+1) * (b.fin.length+1)+1) 0 [((0,0),[])] (by rw[V6];omega) (by simp) (S8 (s0:=((0:Int),(0:Int))) hz)with⟨w,L,h1,h2⟩|⟨L,h1,h2,h3,h4⟩
 ·exact .inl ⟨w,L,h1,h2.toP.congr λv hv=>x0n ha hb ht wn hv⟩
 refine .inr ⟨L,h1,h2,λs=>⟨λhs=>?_,λ⟨v,hv,e⟩=>?_⟩,λs hs=>?_,λv hv=>?_⟩
 ·obtain⟨e,he,rfl⟩:=zQ.1 hs;exact⟨e.2,(h3 e he).1,(h3 e he).2.1⟩
 ·rw[<-e];exact(h4 v hv).1
 ·obtain⟨e,he,rfl⟩:=zQ.1 hs;exact(h3 e he).2.2
 rw[<-x0n ha hb ht wn hv];exact(h4 v hv).2
def Lt{a:Aut}{x y:Sy}(h:∀m∈a.mv,Rk m.on x=Rk m.on y)(l:List Int):Qy a l x=Qy a l y:=by unfold Qy;refine List.filter_congr λj _=>?_;unfold z29;rw[wK,wM,wM];refine exists_congr λm=>and_congr_right λhm=>?_;rw[h m hm]
abbrev SS:=List Int×List Int
def M0(a b:Aut)(s:SS)(x:Sy):SS:=(Qy a s.1 x,Qy b s.2 x)
def V7(a b:Aut)(s:SS):List (Sy×SS):=(Pj a b).map λx=>(x,M0 a b s x)
def c1d(wn:Bool->Bool->Bool)(a b:Aut)(s:SS):Bool:=wn (O9 a s.1) (O9 b s.2)
def x25(a b:Aut)(wn:Bool->Bool->Bool):Option (List Sy)×List (SS×List Sy):=Vc (c1d wn a b) (V7 a b) 66050 0 [(([0],[0]),[])]
def f1b(a b:Aut):∀(w:List Sy) (l m:List Int),Tt (M0 a b) (l,m) w=(Uv a l w,Uv b m w)
 |[],_,_=>rfl
 |x::w,l,m=>f1b a b w (Qy a l x) (Qy b m x)
def y0c{a b:Aut}(ha:OkA a)(hb:OkA b)(ht:b.types=a.types)(s:SS):SuccOk (Wb a) (M0 a b) s (V7 a b s):=by
 have hl:=f1c ha hb ht;refine⟨?_,λe he=>?_,λy hy=>?_⟩
 ·unfold V7;exact xM.2 (hl.ascS.imp λh=>h)
 ·obtain⟨x,hx,rfl⟩:=zQ.1 he;obtain⟨c,hc,rfl⟩:=zQ.1 hx;exact⟨Uf.1 (hl.least hc).1,rfl⟩
 obtain⟨c,hc,hm,hle,z1⟩:=hl.cov (Uf.2 hy);refine⟨(Ql c,M0 a b s (Ql c)),zQ.2 ⟨Ql c,zQ.2 ⟨c,hc,rfl⟩,rfl⟩,?_,hle⟩;unfold M0;rw[Lt (λm hm=>(z1 m.on (yV _ (Ca hm))).symm),Lt (a:=b) (λm hm=>(z1 m.on (vI _ (Ca hm))).symm)]
def v0j(P Q:List (List Int)):List SS:=([]::P).flatMap λi=>([]::Q).map λj=>(i,j)
def z1x(P Q:List (List Int)):(v0j P Q).length=(P.length+1) * (Q.length+1):=by unfold v0j;rw[vX,y_ (g:=λ_=>Q.length+1) (λi _=>by simp),uj,ug];simp
def w1z{P Q:List (List Int)}{s:SS}(h1:s.1=[]\/s.1∈P)(h2:s.2=[]\/s.2∈Q):s∈v0j P Q:=by unfold v0j;exact xS.2 ⟨s.1,zX.2 h1,zQ.2 ⟨s.2,zX.2 h2,rfl⟩⟩
def Bl{a b x y:Aut}(ha:OkA a)(hb:OkA b)(ht:b.types=a.types)(da:Wv a=(0,x))(db:Wv b=(0,y))(wn:Bool->Bool->Bool):
  (∃w L,x25 a b wn=(some w,L)/\FirstP (Wb a) (wnd wn a b) w)\/(∃L,x25 a b wn=(none,L)/\∀v,(∀z∈v,Wb a z)->wnd wn a b v=false):=by
 obtain⟨P,_,hP,z1,_⟩:=Tk ha da;obtain⟨Q,_,hQ,z6,_⟩:=Tk hb db;have step:∀(c:Aut) (cl:List Prd) (Q:List (List Int)),Sub c cl Q->Cls c cl->∀(l:List Int) (z:Sy),Wb c z->(l=[]\/l∈Q)->(Qy c l z=[]\/Qy c l z∈Q):=λc cl Q hs hc l z hz hl=>by
  rcases hl with rfl|hl
  ·exact .inl (z0p _ _)
  exact hs.step hc hl hz
 have hw:∀v,c1d wn a b (Tt (M0 a b) ([0],[0]) v)=wnd wn a b v:=λv=>by rw[f1b];rfl
 have hlen:(v0j P Q).length+1<=0+66050:=by have h1:=hP.lim;have h2:=hQ.lim;rw[z1x];have:=Nat.mul_le_mul (show P.length+1<=257 by omega) (show Q.length+1<=257 by omega);omega
 rcases Gd (ok:=Wb a) (step:=M0 a b) (good:=c1d wn a b) (succ:=V7 a b) (s0:=(([0]:List Int),([0]:List Int))) (G:=λs=>(s.1=[]\/s.1∈P)/\(s.2=[]\/s.2∈Q)) (λs _=>y0c ha hb ht s)
  (λs hs e he=>by
   obtain⟨h1,h2⟩:=(y0c ha hb ht s).mem e he;rw[h2];exact⟨step _ _ _ hP z1 _ _ h1 hs.1,step _ _ _ hQ z6 _ _ ((W6 ht).2 h1) hs.2⟩) (v0j P Q) (λs hs=>w1z hs.1 hs.2) 66050 0 [(([0],[0]),[])] hlen (by simp) (S8 (s0:=(([0]:List Int),([0]:List Int))) ⟨.inr (zJ hP.first),.inr (zJ hQ.first)⟩)with⟨w,L,h1,h2⟩|⟨L,h1,_,_,h4⟩
 ·exact .inl ⟨w,L,h1,h2.toP.congr λv _=>hw v⟩
 exact .inr ⟨L,h1,λv hv=>by rw[<-hw v];exact(h4 v hv).2⟩
def u0w{a b x y:Aut}(ha:OkA a)(hb:OkA b)(ht:b.types=a.types)(da:Wv a=(0,x))(db:Wv b=(0,y))(wn:Bool->Bool->Bool):(x25 a b wn).1=(y1p x y wn).1:=by
 obtain⟨_,_,_,_,_,_,xo,xd,xt,xa⟩:=Tk ha da;obtain⟨_,_,_,_,_,_,yo,yd,yt,ya⟩:=Tk hb db;have z6:y.types=x.types:=by rw[yt,xt,ht]
 have z1:∀z,Wb x z↔Wb a z:=λz=>W6 xt;have hw:∀v,(∀z∈v,Wb a z)->wnd wn x y v=wnd wn a b v:=λv hv=>by unfold wnd;rw[xa v hv,ya v λz hz=>(W6 ht).2 (hv z hz)]
 rcases Bl ha hb ht da db wn with⟨w,L,h1,h2⟩|⟨L,h1,h2⟩
 ·rcases Nu ⟨xo,xd⟩ ⟨yo,yd⟩ z6 wn with⟨v,M,k1,k2⟩|⟨M,k1,_,_,_,k2⟩
  ·rw[h1,k1];have:=(k2.sub z1).congr hw;rw[this.uniq h2]
  exfalso;have:=k2 w λz hz=>(z1 z).2 (h2.okw z hz);rw[hw w h2.okw,h2.hit]at this;cases this
 rcases Nu ⟨xo,xd⟩ ⟨yo,yd⟩ z6 wn with⟨v,M,k1,k2⟩|⟨M,k1,_,_,_,k2⟩
 ·exfalso;have hv:=λz hz=>(z1 z).1 (k2.okw z hz);have:=h2 v hv;rw[<-hw v hv,k2.hit]at this;cases this
 rw[h1,k1]
def neB(x y:Bool):Bool:=x != y
def pLt(p q:Int×Int):Prop:=p.1<q.1\/(p.1=q.1/\p.2<q.2)
def pLt.irr{p:Int×Int}(h:pLt p p):False:=by unfold pLt at h;omega
def pLt.trans{p q r:Int×Int}(h:pLt p q)(k:pLt q r):pLt p r:=by unfold pLt at *;omega
def pLt.tri(p q:Int×Int):pLt p q\/p=q\/pLt q p:=by
 unfold pLt;by_cases h1:p.1=q.1
 ·by_cases h2:p.2=q.2
  ·exact .inr (.inl (vY h1 h2))
  omega
 omega
def x05{L M:List (Int×Int)}(h:L.Pairwise pLt)(k:M.Pairwise pLt)(e:∀s,s∈L↔s∈M):L=M:=by
 have nd:∀ {X:List (Int×Int)},X.Pairwise pLt->X.Nodup:=λhx=>hx.imp λh e=>by subst e;exact h.irr
 exact List.Perm.eq_of_pairwise (le:=pLt) (λp q _ _ h1 h2=>(h1.trans h2).irr.elim) h k ((u7 (nd h) (nd k)).2 e)
def pLe(p q:Int×Int):Bool:=decide (p.1<q.1) || (decide (p.1=q.1) && decide (p.2<=q.2))
def z1h(p q r:Int×Int)(h:pLe p q=true)(k:pLe q r=true):pLe p r=true:=by unfold pLe at *;simp only[wV,yF,decide_eq_true_eq]at *;omega
def j01(p q:Int×Int):(pLe p q || pLe q p)=true:=by unfold pLe;simp only[wV,yF,decide_eq_true_eq];omega
def d1c{p q:Int×Int}(h:pLe p q=true)(hn:p≠q):pLt p q:=by
 unfold pLe at h;simp only[wV,yF,decide_eq_true_eq]at h;rcases pLt.tri p q with k|k|k
 ·exact k
 ·exact absurd k hn
 unfold pLt at k;omega
def Jj(L:List (Int×Int)):List (Int×Int):=L.mergeSort pLe
def j1e{L:List (Int×Int)}(h:L.Nodup):(Jj L).Pairwise pLt:=by have h1:=ul z1h j01 L;have h2:(Jj L).Nodup:=(vJ L pLe).symm.nodup h;exact(h1.and h2).imp λh=>d1c h.1 h.2
def j0t{L:List (Int×Int)}{s:Int×Int}:s∈Jj L↔s∈L:=(vJ L pLe).mem_iff
def x09{L M:List (Int×Int)}(h:L.Nodup)(hp:M.Perm L)(hs:M.Pairwise λp q=>pLe p q=true):M=Jj L:=by have hn:M.Nodup:=hp.symm.nodup h;exact x05 ((hs.and hn).imp λh=>d1c h.1 h.2) (j1e h) λs=>by rw[j0t];exact hp.mem_iff
section
def Bu(b:Aut)(p:Int):List Sy->Prop
 |[]=>b.fin.getD p.toNat false=true
 |x::w=>∃q,q∈Qy b [p] x/\Bu b q w
def Lg{b:Aut}{l:List Int}{x:Sy}{q:Int}:q∈Qy b l x↔∃p∈l,q∈Qy b [p] x:=by
 rw[We];constructor
 ·rintro⟨h0,m,hm,h1,h2,h3⟩;exact⟨m.src,h1,We.2 ⟨h0,m,hm,by simp,h2,h3⟩⟩
 rintro⟨p,hp,hq⟩;obtain⟨h0,m,hm,h1,h2,h3⟩:=We.1 hq;rw[zO]at h1;exact⟨h0,m,hm,by rw[h1];exact hp,h2,h3⟩
def Nl(b:Aut):∀(w:List Sy) (l:List Int),O9 b (Uv b l w)=true↔∃p∈l,Bu b p w
 |[],l=>by show O9 b l=true↔_;unfold O9;rw[wM];exact Iff.rfl
 |x::w,l=>by
  show O9 b (Uv b (Qy b l x) w)=true↔_;rw[Nl b w];constructor
  ·rintro⟨q,hq,h⟩;obtain⟨p,hp,z1⟩:=Lg.1 hq;exact⟨p,hp,q,z1,h⟩
  rintro⟨p,hp,q,hq,h⟩;exact⟨q,Lg.2 ⟨p,hp,hq⟩,h⟩
section
variable {a b:Aut} {Q:List (List Int)} (hst:∀l∈Q,∀x,Wb a x->Qy a l x=[]\/Qy a l x∈Q)
include hst
end
end
def Kl:List Iv->List Iv->Option Int
 |x::l,y::m=>if max x.lo y.lo<=min x.hi y.hi then some (max x.lo y.lo)else if x.hi<y.hi then Kl l (y::m)else Kl (x::l) m
 |_,_=>none
termination_by l m=>l.length+m.length
def y0q(m:List Iv):Kl [] m=none:=by simp[Kl]
def By(x:Iv)(l:List Iv):Kl (x::l) []=none:=by simp[Kl]
def d0y(x y:Iv)(l m:List Iv):Kl (x::l) (y::m)=if max x.lo y.lo<=min x.hi y.hi then some (max x.lo y.lo)else if x.hi<y.hi then Kl l (y::m)else Kl (x::l) m:=by rw[Kl]
def f0b{x:Iv}{l:List Iv}(h:Sep (x::l)):∀n,M l n->x.hi<n:=by rintro n ⟨y,hy,h1,h2⟩;have:=(yK.1 h.2).1 y hy;omega
def Eg{x:Iv}{l:List Iv}{n:Int}:M (x::l) n↔(x.lo<=n/\n<=x.hi)\/M l n:=by
 constructor
 ·rintro⟨y,hy,h⟩;rcases zX.1 hy with rfl|hy
  ·exact .inl h
  exact .inr ⟨y,hy,h⟩
 rintro(h|⟨y,hy,h⟩)
 ·exact⟨x,by simp,h⟩
 exact⟨y,by simp[hy],h⟩
def Vz{n:Int}:¬M [] n:=by rintro⟨y,hy,_⟩;cases hy
def Co{x:Iv}{l:List Iv}(h:Sep (x::l)):Sep l:=⟨λy hy=>h.1 y (by simp[hy]),(yK.1 h.2).2⟩
def Hf(l m:List Iv)(hl:Sep l)(hm:Sep m):match Kl l m with|some n=>M l n/\M m n/\∀k,M l k->M m k->n<=k|none=>∀k,M l k->¬M m k:=by
 match l,m with
 |[],m=>rw[y0q];exact λk h=>absurd h Vz
 |x::l,[]=>rw[By];exact λk _ h=>absurd h Vz
 |x::l,y::m=>
  have hx:=hl.1 x (by simp);have hy:=hm.1 y (by simp);have sx:=f0b hl;have sy:=f0b hm;rw[Kl];by_cases h1:max x.lo y.lo<=min x.hi y.hi
  ·rw[if_pos h1];refine⟨Eg.2 (.inl (by omega)),Eg.2 (.inl (by omega)),λk k1 k2=>?_⟩;have:x.lo<=k:=by
    rcases Eg.1 k1 with h|h
    ·exact h.1
    have:=sx k h;omega
   have:y.lo<=k:=by
    rcases Eg.1 k2 with h|h
    ·exact h.1
    have:=sy k h;omega
   omega
  rw[if_neg h1];by_cases h2:x.hi<y.hi
  ·rw[if_pos h2];have ih:=Hf l (y::m) (Co hl) hm;have z1:∀k,(x.lo<=k/\k<=x.hi)->¬M (y::m) k:=λk h hk=>by
    rcases Eg.1 hk with h'|h'
    ·omega
    have:=sy k h';omega
   cases hc:Kl l (y::m)with
   |some n=>
    rw[hc]at ih;obtain⟨i1,i2,i3⟩:=ih;refine⟨Eg.2 (.inr i1),i2,λk k1 k2=>?_⟩;rcases Eg.1 k1 with h|h
    ·exact absurd k2 (z1 k h)
    exact i3 k h k2
   |none=>
    rw[hc]at ih;intro k k1 k2;rcases Eg.1 k1 with h|h
    ·exact z1 k h k2
    exact ih k h k2
  rw[if_neg h2];have ih:=Hf (x::l) m hl (Co hm);have z1:∀k,(y.lo<=k/\k<=y.hi)->¬M (x::l) k:=λk h hk=>by
   rcases Eg.1 hk with h'|h'
   ·omega
   have:=sx k h';omega
  cases hc:Kl (x::l) m with
  |some n=>
   rw[hc]at ih;obtain⟨i1,i2,i3⟩:=ih;refine⟨i1,Eg.2 (.inr i2),λk k1 k2=>?_⟩;rcases Eg.1 k2 with h|h
   ·exact absurd k1 (z1 k h)
   exact i3 k k1 h
  |none=>
   rw[hc]at ih;intro k k1 k2;rcases Eg.1 k2 with h|h
   ·exact z1 k h k1
   exact ih k k1 h
termination_by l.length+m.length
def lqB(p q:Prd):Nat->Nat->Option Sy
 |0,_=>none
 |f+1,t=>match Kl (p.getD t []) (q.getD t [])with
  |some n=>some ⟨t,n⟩
  |none=>lqB p q f (t+1)
def Ew(p q:Prd):Option Sy:=if Wj (Wn p q)then none else some (Ql (Wn p q))
def y0i{T:Nat}{p:Prd}(h:PWf T p)(t:Nat):Sep (p.getD t []):=by
 by_cases ht:t<p.length
 ·rw[W9 ht];exact(h.2 _ (zL ht)).1
 rw[show p.getD t []=[] by simp[yQ,yY (by omega:p.length<=t)]];exact⟨by simp,by simp⟩
def Ua{p:Prd}{t:Nat}{n:Int}:PM p t n↔M (p.getD t []) n:=by
 constructor
 ·rintro⟨s,hs,h⟩;simpa[yQ,hs]using h
 intro h;by_cases ht:t<p.length
 ·rw[W9 ht]at h;exact⟨_,zI ht,h⟩
 rw[show p.getD t []=[] by simp[yQ,yY (by omega:p.length<=t)]]at h;exact absurd h Vz
def j25{T:Nat}{p q:Prd}(hp:PWf T p)(hq:PWf T q):lqB p q T 0=Ew p q:=by
 have hw:=Tu hp hq.1;have key:∀(f t:Nat),t+f=T->(∀t' n,t'<t->¬PM (Wn p q) t' n)->lqB p q f t=Ew p q:=by
  intro f;induction f with
  |zero=>intro t ht z1;have:Wj (Wn p q)=true:=(T8 hw).2 λt' n hm=>z1 t' n (by have:=(hw.lt hm).1;omega) hm;rw[lqB,Ew,if_pos this]
  |succ f ih=>
   intro t ht z1;have hs:=Hf _ _ (y0i hp t) (y0i hq t);rw[lqB];cases hc:Kl (p.getD t []) (q.getD t [])with
   |some n=>
    rw[hc]at hs;obtain⟨h1,h2,h3⟩:=hs;have hm:PM (Wn p q) t n:=(Eo hp.1 hq.1 t n).2 ⟨Ua.2 h1,Ua.2 h2⟩;have hv:Wj (Wn p q)=false:=(Tw hw).2 ⟨t,n,hm⟩;rw[Ew,if_neg (by rw[hv];simp)];obtain⟨g1,g2,g3⟩:=Te hw ⟨t,n,hm⟩;have z6:=hw.lt hm;show some (⟨(t:Int),n⟩:Sy)=some (Ql (Wn p q))
    congr 1
    rcases g3 ⟨t,n⟩ ⟨by simp,by simpa using z6.1,z6.2⟩ (by simpa using hm)with e|e
    ·exact e.symm
    exfalso;unfold sLt at e;simp only at e;have z8:=g1.1;by_cases hle:(Ql (Wn p q)).ty.toNat<t
    ·exact z1 _ _ hle g2
    have z7:(Ql (Wn p q)).ty=t:=by omega
    rw[z7]at g2;have:=(Eo hp.1 hq.1 t (Ql (Wn p q)).num).1 (by simpa using g2);have:=h3 _ (Ua.1 this.1) (Ua.1 this.2);omega
   |none=>
    rw[hc]at hs;refine ih (t+1) (by omega) λt' n za hm=>?_;by_cases e:t'=t
    ·subst e;have:=(Eo hp.1 hq.1 t' n).1 hm;exact hs n (Ua.1 this.1) (Ua.1 this.2)
    exact z1 t' n (by omega) hm
 exact key T 0 (by omega) (λt' n h=>by omega)
def c08{T:Nat}{p:Prd}(hp:PWf T p):Wn p p=p:=P4 (Tu hp hp.1) hp λt n=>by rw[Eo hp.1 hp.1];simp
def w0o{T:Nat}{p:Prd}(hp:PWf T p):Ew p p=if Wj p then none else some (Ql p):=by rw[Ew,c08 hp]
def x1c(a b:Aut)(s:Int×Int):W1 a b s=(Wc a s.1).flatMap λm=>(Wc b s.2).filterMap λn=>(Ew m.on n.on).map λx=>(x,(m.dst,n.dst)):=by
 unfold W1 Ew
 congr 1
 funext m
 congr 1
 funext n;split<;>simp
section
open Go Go.Proofs
attribute [simp] T68 T70 T87 T73 T23 T22 T25 T52 T26 T88
@[simp] def encP (p:Prd):AV:= .agg [.list (p.map encL)]
abbrev LP (l:List Prd):AV:= .list (l.map encP)
@[simp] def encSy (x:Sy):AV:= .agg [.i x.ty,.i x.num]
@[simp] def encMv (m:Mv):AV:= .agg [.i m.src,.i m.dst,.list (m.on.map encL)]
@[simp] def encA (a:Aut):AV:= .agg [.i a.types,.list (a.fin.map .bool),.list (a.mv.map encMv)]
attribute [local irreducible] ckR
def Au(T:Int)(p:Prd):PC prog 58 [.i T,encP p] (λr=>r= .i (Eu T p)):=by
 refine pcB func58 results58 ntmps58 ?_;simp only[Qf];simp only[encP];refine Ec 1 0 rfl rfl (λhlen=>?_);rw[yO]at hlen;repeat(refine s_ ?_;simp)
 refine Qb rfl (λh=>?_) (λh=>?_)
 ·repeat(refine s_ ?_;simp)
  rw[Eu,if_pos (by simpa using h)]
 have h':¬(T<1\/16<T):=by simpa using h
 repeat(refine s_ ?_;simp)
 refine Qb rfl (λh2=>?_) (λh2=>?_)
 ·repeat(refine s_ ?_;simp)
  rw[Eu,if_neg h',if_pos (by simpa using h2)]
 have z7:(p.length:Int)=T:=by simpa using h2
 have hE:Eu T p=u0h p:=by rw[Eu,if_neg h',if_neg (by simpa using z7)]
 rw[hE];repeat(refine s_ ?_;simp)
 refine Wf p.length (λj=>u0h p=u0h (p.drop j)) (λj=>[(22,.list (p.map encL)),(23,.i p.length),(24,.i j)]) (λ_=>[]) rfl (by simp) (by simp) (by simp) (by simp) (by simp) ?_;intro j hj hI ih;repeat(refine s_ ?_;simp)
 refine Qb rfl (λz8=>?_) (λza=>?_)
 ·have z1:j<p.length:=by simpa using z8
  have hw:=wz j (by omega);rw[Ed z1,u0h]at hI;repeat(refine s_ ?_;simp[z1])
  refine pcL (Fz p[j]) ?_;simp;repeat(refine s_ ?_;simp)
  refine Qb rfl (λh3=>?_) (λh3=>?_)
  ·repeat(refine s_ ?_;simp)
   rw[hI,if_pos (by simpa using h3)]
  rw[if_neg (by simpa using h3)]at hI;repeat(refine s_ ?_;simp[hw])
  refine Wd _ (ih z1 hI) rfl (by simp) ?_ (by simp) (by simp);simp
 have z6:j=p.length:=by simp at za;omega
 subst z6;repeat(refine s_ ?_;simp)
 rw[hI,xY];rfl
def v0z(T:Int)(p:Prd):PC prog 158 [.i T,encP p] (λr=>r= .i (Eu T p)):=by
 refine pcB func158 results158 ntmps158 ?_;simp only[Qf];simp only[encP];refine Ec 1 0 rfl rfl (λhlen=>?_);rw[yO]at hlen;repeat(refine s_ ?_;simp)
 refine Qb rfl (λh=>?_) (λh=>?_)
 ·repeat(refine s_ ?_;simp)
  rw[Eu,if_pos (by simpa using h)]
 have h':¬(T<1\/16<T):=by simpa using h
 repeat(refine s_ ?_;simp)
 refine Qb rfl (λh2=>?_) (λh2=>?_)
 ·repeat(refine s_ ?_;simp)
  rw[Eu,if_neg h',if_pos (by simpa using h2)]
 have z7:(p.length:Int)=T:=by simpa using h2
 have hE:Eu T p=u0h p:=by rw[Eu,if_neg h',if_neg (by simpa using z7)]
 rw[hE];repeat(refine s_ ?_;simp)
 refine Wf p.length (λj=>u0h p=u0h (p.drop j)) (λj=>[(0,.i T),(3,.vptr 0 0),(5,.i j)]) (λ_=>[.vars [.list (p.map encL)]]) rfl (by simp) (by simp) (by simp) (by simp) (by simp) ?_;intro j hj hI ih;repeat(refine s_ ?_;simp)
 refine Qb rfl (λz8=>?_) (λza=>?_)
 ·have z1:j<p.length:=by have k:(j:Int)<T:=(by simpa using z8);omega
  have hw:=wz j (by omega);rw[Ed z1,u0h]at hI;repeat(refine s_ ?_;simp[z1])
  refine pcL (z1g p[j]) ?_;simp;repeat(refine s_ ?_;simp)
  refine Qb rfl (λh3=>?_) (λh3=>?_)
  ·repeat(refine s_ ?_;simp)
   rw[hI,if_pos (by simpa using h3)]
  rw[if_neg (by simpa using h3)]at hI;repeat(refine s_ ?_;simp[hw])
  refine Wd _ (ih z1 hI) rfl (by simp) ?_ (by simp) (by simp);simp
 have z6:j=p.length:=by have k:¬(j:Int)<T:=(by simpa using za);omega
 subst z6;repeat(refine s_ ?_;simp)
 rw[hI,xY];rfl
end
section
open Go Go.Proofs
def Pk:List Prd->Int
 |[]=>0
 |p::r=>if Eu p.length p≠0 then Eu p.length p else Pk r
attribute [local irreducible] Eu
def Pa(l:List Prd):PC prog 102 [LP l] (λr=>r= .i (Pk l)):=by
 refine pcB func102 results102 ntmps102 ?_;simp only[Qf];refine U5 0 rfl (λhlen=>?_);rw[yO]at hlen;repeat(refine s_ ?_;simp)
 refine Wf l.length (λj=>Pk l=Pk (l.drop j)) (λj=>[(6,LP l),(7,.i l.length),(8,.i j)]) (λ_=>[]) rfl (by simp) (by simp) (by simp) (by simp) (by simp) ?_;intro j hj hI ih;repeat(refine s_ ?_;simp)
 refine Qb rfl (λz7=>?_) (λz8=>?_)
 ·have z1:j<l.length:=by simpa using z7
  have hw:=wz j (by omega);rw[Ed z1,Pk]at hI;repeat(refine s_ ?_;simp[z1])
  refine pcL (Au l[j].length l[j]) ?_;simp;repeat(refine s_ ?_;simp)
  refine Qb rfl (λh3=>?_) (λh3=>?_)
  ·repeat(refine s_ ?_;simp)
   rw[hI,if_pos (by simpa using h3)]
  rw[if_neg (by simpa using h3)]at hI;repeat(refine s_ ?_;simp[hw])
  refine Wd _ (ih z1 hI) rfl (by simp) ?_ (by simp) (by simp);simp
 have z6:j=l.length:=by simp at z8;omega
 subst z6;repeat(refine s_ ?_;simp)
 rw[hI,xY];rfl
def y1b(p:Prd)(x:Sy):Int:=if Pk [p]≠0 then Pk [p]else Jd p.length x
def Vm(p:Prd)(x:Sy):Bool×Int:=if y1b p x≠0 then(false,y1b p x)else(Rk p x,0)
attribute [local irreducible] Pk u1c
def f1v{T:Int}{p:Prd}(h:Eu T p=0):Pk [p]=0/\(p.length:Int)=T:=by
 obtain⟨h1,h2⟩:=(W3 T p).1 h;have hl:(p.length:Int)=T:=by have:=h2.1;omega
 exact⟨by unfold Pk;rw[hl,if_neg (λk=>k h)];unfold Pk;rfl,hl⟩
def w1n{p:Prd}(h:Pk [p]=0):∀s∈p,CanonL s:=by
 unfold Pk at h;by_cases hc:Eu p.length p=0
 ·exact((W3 _ p).1 hc).2.2
 rw[if_pos hc]at h;exact absurd h hc
def Od(p:Prd)(x:Sy):PC prog 43 [encP p,encSy x] (λr=>r= .tup [.bool (Vm p x).1,.i (Vm p x).2]):=by
 refine pcB func43 results43 ntmps43 ?_;simp only[Qf];simp only[encP,encSy];refine Ec 0 0 rfl rfl (λhlen=>?_);rw[yO]at hlen;repeat(refine s_ ?_;simp)
 refine Y1 2 rfl ?_;simp;refine pcL (Pa [p]) ?_;simp;repeat(refine s_ ?_;simp)
 refine Qb rfl (λh=>?_) (λh=>?_)
 ·repeat(refine s_ ?_;simp)
  have h':Pk [p]≠0:=by simpa using h
  have hE:y1b p x=Pk [p]:=by rw[y1b,if_pos h']
  rw[Vm,hE,if_pos h'];exact⟨rfl,rfl⟩
 have h':Pk [p]=0:=by simpa using h
 have hE:y1b p x=Jd p.length x:=by rw[y1b,if_neg (λk=>k h')]
 repeat(refine s_ ?_;simp)
 refine Qb rfl (λh1=>?_) (λh1=>?_)
 ·repeat(refine s_ ?_;simp)
  have z6:x.ty<0\/(p.length:Int)<=x.ty:=by simpa using h1
  have z1:y1b p x=6:=by rw[hE,Jd,if_pos z6]
  rw[Vm,z1];exact⟨rfl,rfl⟩
 have z6:¬(x.ty<0\/(p.length:Int)<=x.ty):=by simpa using h1
 repeat(refine s_ ?_;simp)
 refine Qb rfl (λh2=>?_) (λh2=>?_)
 ·repeat(refine s_ ?_;simp)
  have z7:x.num< -1099511627776\/1099511627776<x.num:=by simpa using h2
  have z1:y1b p x=2:=by rw[hE,Jd,if_neg z6,if_pos z7]
  rw[Vm,z1];exact⟨rfl,rfl⟩
 have z7:¬(x.num< -1099511627776\/1099511627776<x.num):=by simpa using h2
 have z1:y1b p x=0:=by rw[hE,Jd,if_neg z6,if_neg z7]
 repeat(refine s_ ?_;simp)
 have zb:0<=x.ty:=by omega
 have zc:x.ty<(p.length:Int):=by omega
 have z8:x.ty.toNat<p.length:=by omega
 refine Qo tOk mixed [] (.val 0 (.val 1 (.val 2 (.val 3 (.val 4 (.val 5 (.val 6 (.val 7 (.one 8 (.val 9 (.val 10 (.val 11 (.val 12 (.done)))))))))))))) rfl (by kernel_rfl) ?_;simp[zb,zc,z8];refine pcL (Ke p[x.ty.toNat] x.num) ?_;simp;repeat(refine s_ ?_;simp)
 have hc:=w1n h' _ (zL z8);have za:u1c p[x.ty.toNat] x.num=(Y5 p[x.ty.toNat] x.num,0):=by rw[u1c,if_pos ((Dy _).2 hc)]
 rw[Vm,z1,if_neg (λk=>k rfl),za];refine⟨?_,rfl⟩;simp[Rk,zb,zc,yQ,z8]
def q0g{T:Int}{p:Prd}(h:Eu T p=0)(x:Sy):Vm p x=if Jd T x≠0 then(false,Jd T x)else(Rk p x,0):=by
 obtain⟨h1,h2⟩:=f1v h;have hE:y1b p x=Jd T x:=by rw[y1b,if_neg (λk=>k h1),h2]
 rw[Vm,hE]
end
section
open Go Go.Proofs
abbrev Qk (a:Aut):List AV:=[.i a.types,.list (a.fin.map .bool),.list (a.mv.map encMv)]
def w2k(p:Prd)(x:Sy):PC prog 170 [encP p,encSy x] (λr=>r= .bool ((Vm p x).2==0 && (Vm p x).1)):=by
 refine pcB func170 results170 ntmps170 ?_;simp only[Qf];simp only[encP,encSy];repeat(refine s_ ?_;simp)
 refine pcL (Od p x) ?_;simp;repeat(refine s_ ?_;simp)
def Vv(p:Prd)(x:Sy):PC prog 45 [encP p,encSy x] (λr=>r= .bool ((Vm p x).1 && (Vm p x).2==0)):=by
 refine pcB func45 results45 ntmps45 ?_;simp only[Qf];simp only[encP,encSy];repeat(refine s_ ?_;simp)
 refine pcL (Od p x) ?_;simp;repeat(refine s_ ?_;simp)
def stB(a:Aut)(n:Int):Bool:=decide (0<=n) && decide (n<a.fin.length)
def Xv(a:Aut)(n:Int):stB a n=true↔0<=n/\n<a.fin.length:=by simp[stB]
def Xo(H:List AObj)(id:Nat)(a:Aut)(hid:H[id]?=some (.vars (Qk a)))(n:Int):FC prog 98 [.i n,.vptr id 0] H (λr H'=>r= .bool (stB a n)/\H'=H):=by refine fcB func98 results98 ntmps98 ?_;simp only[Qf];repeat(refine s_ ?_;simp[hid,stB])
attribute [local irreducible] Eu stB
def R6(a:Aut):PC prog 41 [encA a] (λr=>r= .i (Wo a)):=by
 refine pcB func41 results41 ntmps41 ?_;simp only[Qf];simp only[encA];refine Ec 0 1 rfl rfl (λz7=>?_);refine Ec 0 2 rfl rfl (λz8=>?_);rw[yO]at z7 z8;repeat(refine s_ ?_;simp)
 refine Qb rfl (λh=>?_) (λh=>?_)
 ·repeat(refine s_ ?_;simp)
  rw[Wo,if_pos (by simpa using h)]
 have h1:¬(a.types<1\/16<a.types):=by simpa using h
 repeat(refine s_ ?_;simp)
 refine Qb rfl (λh=>?_) (λh=>?_)
 ·repeat(refine s_ ?_;simp)
  rw[Wo,if_neg h1,if_pos];simp at h;omega
 have h2:¬(a.fin.length<1\/256<a.fin.length\/2048<a.mv.length):=by simp at h;omega
 have hE:Wo a=v09 a.types a.fin.length a.mv:=by rw[Wo,if_neg h1,if_neg h2]
 rw[hE];repeat(refine s_ ?_;simp)
 refine Wf a.mv.length (λj=>v09 a.types a.fin.length a.mv=v09 a.types a.fin.length (a.mv.drop j)) (λj=>[(1,.vptr 0 0),(3,.fn (.func 98) [] [.vptr 0 0]),(33,.list (a.mv.map encMv)),(34,.i a.mv.length),(35,.i j)]) (λ_=>[.vars (Qk a)]) rfl (by simp) (by simp) (by simp) (by simp) (by simp) ?_;intro j hj hI ih;repeat(refine s_ ?_;simp)
 refine Qb rfl (λza=>?_) (λzb=>?_)
 ·have z1:j<a.mv.length:=by simpa using za
  have hw:=wz j (by omega);rw[Ed z1,v09]at hI;repeat(refine s_ ?_;simp[z1])
  cases hb:stB a a.mv[j].src with
  |false=>
   refine Qu rfl rfl (Xo _ 0 a rfl a.mv[j].src) rfl ?_;rintro r H' ⟨rfl,rfl⟩;simp[hb];repeat(refine s_ ?_;simp)
   refine Wi rfl rfl ?_;simp;refine Qr rfl ?_;repeat(refine s_ ?_;simp)
   rw[hI,if_pos (λk=>by rw[(Xv _ _).2 k.1]at hb;cases hb)]
  |true=>
   refine Qu rfl rfl (Xo _ 0 a rfl a.mv[j].src) rfl ?_;rintro r H' ⟨rfl,rfl⟩;simp[hb];repeat(refine s_ ?_;simp)
   refine Qu rfl rfl (Xo _ 0 a rfl a.mv[j].dst) rfl ?_;rintro r H' ⟨rfl,rfl⟩;simp;repeat(refine s_ ?_;simp)
   refine Qb rfl (λh3=>?_) (λh3=>?_)
   ·repeat(refine s_ ?_;simp)
    rw[hI,if_pos (λk=>by rw[(Xv _ _).2 k.2]at h3;cases h3)]
   have hd:stB a a.mv[j].dst=true:=by simpa using h3
   rw[if_neg (λk=>k ⟨(Xv _ _).1 hb,(Xv _ _).1 hd⟩)]at hI;repeat(refine s_ ?_;simp)
   refine pcL (Au a.types a.mv[j].on) ?_;simp;repeat(refine s_ ?_;simp)
   refine Qb rfl (λh4=>?_) (λh4=>?_)
   ·repeat(refine s_ ?_;simp)
    rw[hI,if_pos (by simpa using h4)]
   rw[if_neg (by simpa using h4)]at hI;repeat(refine s_ ?_;simp[hw])
   refine Wd _ (ih z1 hI) rfl (by simp) ?_ (by simp) (by simp);simp
 have z6:j=a.mv.length:=by simp at zb;omega
 subst z6;repeat(refine s_ ?_;simp)
 rw[hI,xY];rfl
def K1(a:Aut):PC prog 90 [encA a] (λr=>r= .i (Wo a)):=by
 refine pcB func90 results90 ntmps90 ?_;simp only[Qf];simp only[encA];refine Ec 0 1 rfl rfl (λz7=>?_);refine Ec 0 2 rfl rfl (λz8=>?_);rw[yO]at z7 z8;repeat(refine s_ ?_;simp)
 refine Qb rfl (λh=>?_) (λh=>?_)
 ·repeat(refine s_ ?_;simp)
  rw[Wo,if_pos (by simpa using h)]
 have h1:¬(a.types<1\/16<a.types):=by simpa using h
 repeat(refine s_ ?_;simp)
 refine Qb rfl (λh=>?_) (λh=>?_)
 ·repeat(refine s_ ?_;simp)
  rw[Wo,if_neg h1,if_pos];simp at h;omega
 have h2:¬(a.fin.length<1\/256<a.fin.length\/2048<a.mv.length):=by simp at h;omega
 have hE:Wo a=v09 a.types a.fin.length a.mv:=by rw[Wo,if_neg h1,if_neg h2]
 rw[hE];repeat(refine s_ ?_;simp)
 refine Wf a.mv.length (λj=>v09 a.types a.fin.length a.mv=v09 a.types a.fin.length (a.mv.drop j)) (λj=>[(1,.vptr 0 0),(3,.i a.fin.length),(4,.i j)]) (λ_=>[.vars (Qk a)]) rfl (by simp) (by simp) (by simp) (by simp) (by simp) ?_;intro j hj hI ih;repeat(refine s_ ?_;simp)
 refine Qb rfl (λza=>?_) (λzb=>?_)
 ·have z1:j<a.mv.length:=by simpa using za
  have hw:=wz j (by omega);rw[Ed z1,v09]at hI;repeat(refine s_ ?_;simp[z1])
  refine Qb rfl (λh3=>?_) (λh3=>?_)
  ·repeat(refine s_ ?_;simp)
   rw[hI,if_pos];simp at h3;omega
  rw[if_neg (by simp at h3 |-;omega)]at hI;repeat(refine s_ ?_;simp)
  refine pcL (v0z a.types a.mv[j].on) ?_;simp;repeat(refine s_ ?_;simp)
  refine Qb rfl (λh4=>?_) (λh4=>?_)
  ·repeat(refine s_ ?_;simp)
   rw[hI,if_pos (by simpa using h4)]
  rw[if_neg (by simpa using h4)]at hI;repeat(refine s_ ?_;simp[hw])
  refine Wd _ (ih z1 hI) rfl (by simp) ?_ (by simp) (by simp);simp
 have z6:j=a.mv.length:=by simp at zb;omega
 subst z6;repeat(refine s_ ?_;simp)
 rw[hI,xY];rfl
end
section
open Go Go.Proofs
attribute [local irreducible] ckR Y5
attribute [local irreducible] Nd Ez
def Cd(x:Iv)(r:List Iv)(n:Int):Rp (x::r) n=(if n<x.lo then [⟨n,x.lo - 1⟩]else [])++Rp r (x.hi+1):=rfl
def Mr(n:Int):Rp [] n=if n<=1099511627776 then [⟨n,1099511627776⟩]else []:=rfl
def g1t(l:List Iv):Rp l (-1099511627776)=E3 l:=rfl
attribute [local irreducible] E3 Rp
end
end Go.Abs
