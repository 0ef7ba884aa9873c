/- Part Re of the proof: an abstract machine over the model, and what the functions of the program hand back in its terms. No condition. -/
import Derived.Test.YtjmkolhkojgjpaaGreatDoorRd
set_option linter.all false
open Nat renaming zero_le→xA,le_refl→zK,le_trans→yP,lt_trichotomy→vY
open List renaming getElem?_eq_some_iff→zA,pairwise_iff_getElem→yD,mem_map→zM,mem_append→zO,mem_singleton→zJ,mem_append_left→xC,mem_of_getElem?→zF,foldl_append→x_,pairwise_append→zY,mem_append_right→vA,nil_append→xP,reverse_cons→u9,mem_iff_getElem?→yF,reverse_reverse→vX,find?_eq_none→u6,mem_of_find?_eq_some→vH,find?_some→ug,find?_cons→tp,pairwise_map→xR,length_flatMap→vC,map_congr_left→xU,map_const'→vG,sum_replicate_nat→wY,mem_flatMap→xL,range→yA,getElem_of_mem→yC,mem_filterMap→wM,pairwise_mergeSort→vS,mergeSort_perm→wJ,eq_nil_iff_forall_not_mem→wK,mem_cons→zU,any_eq_true→xN,all_eq_true→zP,mem_range→yM,length_map→zV,pairwise_cons→z_,getD→yQ,drop_length→yU,getElem_mem→zG,length→vN,length_append→zW,getElem?_append_right→zC,append_nil→xV,take_of_length_le→zI
open Int renaming le_refl→yJ
open Bool renaming eq_iff_iff→yX,and_eq_true→zR,or_eq_true→ww,eq_false_iff→wS,false_or→uN
set_option maxHeartbeats 2000000
set_option linter.unusedSimpArgs false
set_option maxRecDepth 100000
namespace Go.Abs
def sLt(x y:Sy):Prop:=x.ty<y.ty∨(x.ty=y.ty∧x.num<y.num)
theorem sLt.irr{x:Sy}(h:sLt x x):False:=by unfold sLt at h;omega
theorem sLt.trans{x y z:Sy}(h:sLt x y)(k:sLt y z):sLt x z:=by unfold sLt at *;omega
theorem sLt.tri(x y:Sy):sLt x y∨x=y∨sLt y x:=by cases x;cases y;unfold sLt;simp only[Sy.mk.injEq];omega
def q0i:List Sy→List Sy→Prop
 |x::v,y::w=>sLt x y∨(x=y∧q0i v w)
 |_,_=>False
def ll(v w:List Sy):Prop:=v.length<w.length∨(v.length=w.length∧q0i v w)
def lle(v w:List Sy):Prop:=v=w∨ll v w
theorem q0i.irr:∀ {v:List Sy},¬q0i v v
 |[],h=>h
 |x::v,h=>by
  rcases h with h|⟨_,h⟩
  ·exact h.irr
  ·exact q0i.irr h
theorem q0i.trans:∀ {u v w:List Sy},q0i u v→q0i v w→q0i u w
 |[],_,_,h,_=>h.elim
 |_::_,[],_,h,_=>h.elim
 |_::_,_::_,[],_,k=>k.elim
 |x::u,y::v,z::w,h,k=>by
  rcases h with h|⟨rfl,h⟩
  ·rcases k with k|⟨rfl,k⟩
   ·exact .inl (h.trans k)
   ·exact .inl h
  ·rcases k with k|⟨rfl,k⟩
   ·exact .inl k
   ·exact .inr ⟨rfl,h.trans k⟩
theorem ll.irr{v:List Sy}(h:ll v v):False:=by
 rcases h with h|⟨_,h⟩
 ·omega
 ·exact q0i.irr h
theorem ll.trans{u v w:List Sy}(h:ll u v)(k:ll v w):ll u w:=by
 rcases h with h|⟨h1,h2⟩
 ·rcases k with k|⟨k1,_⟩
  ·exact .inl (by omega)
  ·exact .inl (by omega)
 ·rcases k with k|⟨k1,k2⟩
  ·exact .inl (by omega)
  ·exact .inr ⟨by omega,h2.trans k2⟩
theorem lle.refl(v:List Sy):lle v v:= .inl rfl
theorem lle.trans{u v w:List Sy}(h:lle u v)(k:lle v w):lle u w:=by
 rcases h with rfl|h
 ·exact k
 ·rcases k with rfl|k
  ·exact .inr h
  ·exact .inr (h.trans k)
theorem ll.lle{u v w:List Sy}(h:ll u v)(k:lle v w):ll u w:=by
 rcases k with rfl|k
 ·exact h
 ·exact h.trans k
theorem lle.anti{u v:List Sy}(h:lle u v)(k:lle v u):u=v:=by
 rcases h with rfl|h
 ·rfl
 ·exact((h.lle k).irr).elim
theorem q0l:∀ {u v:List Sy} (a b:List Sy),u.length=v.length→q0i u v→q0i (u++a) (v++b)
 |[],_,_,_,_,h=>h.elim
 |_::_,[],_,_,_,h=>h.elim
 |x::u,y::v,a,b,e,h=>by
  rcases h with h|⟨rfl,h⟩
  ·exact .inl h
  ·exact .inr ⟨rfl,q0l a b (by simpa using e) h⟩
theorem q0p:∀(u:List Sy) {a b:List Sy},q0i a b→q0i (u++a) (u++b)
 |[],_,_,h=>h
 |_::u,_,_,h=> .inr ⟨rfl,q0p u h⟩
theorem j0e{u v:List Sy}(h:ll u v)(x y:Sy):ll (u++[x]) (v++[y]):=by
 rcases h with h|⟨h1,h2⟩
 ·exact .inl (by simp;omega)
 ·exact .inr ⟨by simp;omega,q0l _ _ h1 h2⟩
theorem Mj(u:List Sy){x y:Sy}(h:sLt x y):ll (u++[x]) (u++[y]):= .inr ⟨by simp,q0p u (.inl h)⟩
theorem d05{u v:List Sy}(h:lle u v){x y:Sy}(k:x=y∨sLt x y):lle (u++[x]) (v++[y]):=by
 rcases h with rfl|h
 ·rcases k with rfl|k
  ·exact .inl rfl
  ·exact .inr (Mj _ k)
 ·exact .inr (j0e h x y)
theorem k1u(u:List Sy)(x:Sy):ll u (u++[x]):= .inl (by simp)
theorem Ix{α:Type}[DecidableEq α]:∀(l U:List α),l.Nodup→(∀x∈l,x∈U)→l.length≤U.length
 |[],_,_,_=>xA _
 |x::l,U,hn,h=>by have hx:=h x (by simp);have hc:=List.nodup_cons.1 hn;have ih:=Ix l (U.erase x) hc.2 (fun y hy=>(List.mem_erase_of_ne (fun e=>hc.1 (by rw[←e];exact hy))).2 (h y (by simp[hy])));rw[List.length_erase_of_mem hx]at ih;have:=List.length_pos_of_mem hx;simp only[List.length_cons];omega
section
variable {σ:Type} [DecidableEq σ] (ok:Sy→Prop) (step:σ→Sy→σ) (good:σ→Bool)
def Tq(s:σ)(w:List Sy):σ:=w.foldl step s
structure FirstW (s:σ) (w:List Sy):Prop where
 okw:∀x∈w,ok x
 goodw:good (Tq step s w)=true
 least:∀v,(∀x∈v,ok x)→good (Tq step s v)=true→lle w v
variable {ok step good}
variable (ok step good)
structure SuccOk (s:σ) (l:List (Sy×σ)):Prop where
 asc:l.Pairwise (fun a b=>sLt a.1 b.1)
 mem:∀e∈l,ok e.1∧e.2=step s e.1
 cov:∀y,ok y→∃e∈l,e.2=step s y∧(e.1=y∨sLt e.1 y)
variable (succ:σ→List (Sy×σ))
def Mp(l:List (σ×List Sy))(t:σ)(w:List Sy):List (σ×List Sy):=if t∈l.map (·.1)then l else l++[(t,w)]
def W6(l:List (σ×List Sy))(w:List Sy)(es:List (Sy×σ)):List (σ×List Sy):=es.foldl (fun l e=>Mp l e.2 (w++[e.1])) l
def Pq:Nat→Nat→List (σ×List Sy)→Option (List Sy)×List (σ×List Sy)
 |0,_,l=>(none,l)
 |f+1,n,l=>match l[n]? with
  |none=>(none,l)
  |some (s,w)=>if good s then(some w,l)else Pq f (n+1) (W6 l w (succ s))
variable (s0:σ) (G:σ→Prop)
structure BInv (n:Nat) (L:List (σ×List Sy)) (done:List (Sy×σ)):Prop where
 first:L[0]? =some (s0,[])
 mem:∀e∈L,(∀x∈e.2,ok x)∧Tq step s0 e.2=e.1∧G e.1
 asc:L.Pairwise (fun a b=>ll a.2 b.2)
 nd:(L.map (·.1)).Nodup
 bad:∀i s w,i<n→L[i]? =some (s,w)→good s=false
 cls:∀i s w,i<n→L[i]? =some (s,w)→∀e∈succ s,∃v,(e.2,v)∈L∧lle v (w++[e.1])
 cur:∀s w,L[n]? =some (s,w)→∀e∈done,∃v,(e.2,v)∈L∧lle v (w++[e.1])
 org:∀d∈L,d.2=[]∨∃i s w x,L[i]? =some (s,w)∧d.2=w++[x]∧(i<n∨(i=n∧∃e∈done,e.1=x))
variable {ok step good succ s0 G}
theorem BInv.low{n:Nat}{L:List (σ×List Sy)}{done:List (Sy×σ)}(h:BInv ok step good succ s0 G n L done){s:σ}{w:List Sy}(hn:L[n]? =some (s,w))(x:Sy)(hx:∀e∈done,sLt e.1 x):∀e∈L,ll e.2 (w++[x]):=by
 intro d hd;rcases h.org d hd with e|⟨i,s',w',y,hi,e,hc⟩
 ·rw[e];exact .inl (by simp)
 ·rw[e];rcases hc with hc|⟨rfl,c,hc,rfl⟩
  ·obtain⟨h1,h2⟩:=zA.1 hi;obtain⟨h3,h4⟩:=zA.1 hn;have:=yD.1 h.asc i n h1 h3 hc;rw[h2,h4]at this;exact j0e this _ _
  ·rw[hn]at hi;cases hi;exact Mj _ (hx c hc)
theorem BInv.add {n:Nat} {L:List (σ×List Sy)} {done:List (Sy×σ)} (h:BInv ok step good succ s0 G n L done) {s:σ} {w:List Sy} (hn:L[n]? =some (s,w)) {e:Sy×σ} (he:ok e.1∧e.2=step s e.1) (hG:G e.2)
  (z8:∀d∈done,sLt d.1 e.1):BInv ok step good succ s0 G n (Mp L e.2 (w++[e.1])) (done++[e])∧(Mp L e.2 (w++[e.1]))[n]? =some (s,w):=by
 have zb:=(zA.1 hn).1;have z7:=h.low hn e.1 z8;unfold Mp;by_cases hin:e.2∈L.map (·.1)
 ·rw[if_pos hin];obtain⟨⟨t,v⟩,hv,ht⟩:=zM.1 hin;simp only at ht;subst ht;refine⟨⟨h.first,h.mem,h.asc,h.nd,h.bad,h.cls,fun s' w' z6 d hd=> ?_,fun d hd=> ?_⟩,hn⟩
  ·rw[hn]at z6;cases z6;rcases zO.1 hd with hd|hd
   ·exact h.cur s w hn d hd
   ·obtain rfl:=zJ.1 hd;exact⟨v,hv,.inr (z7 _ hv)⟩
  ·rcases h.org d hd with e'|⟨i,s',w',y,hi,e',hc⟩
   ·exact .inl e'
   ·exact .inr ⟨i,s',w',y,hi,e',hc.imp id fun⟨k1,c,k2,k3⟩=>⟨k1,c,xC _ k2,k3⟩⟩
 ·rw[if_neg hin];have z1:∀i,i≤n→(L++[(e.2,w++[e.1])])[i]? =L[i]? :=fun i hi=>List.getElem?_append_left (by omega);have hw:=h.mem _ (zF hn);refine⟨⟨by rw[z1 0 (xA _)];exact h.first,fun d hd=> ?_,?_,?_,fun i s' w' hi z6=>h.bad i s' w' hi (by rw[←z1 i (by omega)];exact z6),fun i s' w' hi z6 d hd=> ?_,fun s' w' z6 d hd=> ?_,fun d hd=> ?_⟩,by rw[z1 n (zK _)];exact hn⟩
  ·rcases zO.1 hd with hd|hd
   ·exact h.mem d hd
   ·obtain rfl:=zJ.1 hd;refine⟨fun x hx=> ?_,?_,hG⟩
    ·rcases zO.1 hx with hx|hx
     ·exact hw.1 x hx
     ·obtain rfl:=zJ.1 hx;exact he.1
    ·show Tq step s0 (w++[e.1])=e.2;have h2:Tq step s0 w=s:=hw.2.1;rw[Tq,x_];show step (Tq step s0 w) e.1=e.2;rw[h2,he.2]
  ·exact zY.2 ⟨h.asc,by simp,fun a ha b hb=>by obtain rfl:=zJ.1 hb;exact z7 a ha⟩
  ·rw[List.map_append];exact List.nodup_append.2 ⟨h.nd,by simp,fun a ha b hb e'=>by
    simp at hb;subst hb;subst e';exact hin ha⟩
  ·rw[z1 i (by omega)]at z6;obtain⟨v,hv,hl⟩:=h.cls i s' w' hi z6 d hd;exact⟨v,xC _ hv,hl⟩
  ·rw[z1 n (zK _),hn]at z6;cases z6;rcases zO.1 hd with hd|hd
   ·obtain⟨v,hv,hl⟩:=h.cur s w hn d hd;exact⟨v,xC _ hv,hl⟩
   ·obtain rfl:=zJ.1 hd;exact⟨_,vA _ (by simp),.inl rfl⟩
  ·rcases zO.1 hd with hd|hd
   ·rcases h.org d hd with e'|⟨i,s',w',y,hi,e',hc⟩
    ·exact .inl e'
    ·have za:i≤n:=by rcases hc with hc|hc<;>omega
     exact .inr ⟨i,s',w',y,by rw[z1 i za];exact hi,e',hc.imp id fun⟨k1,c,k2,k3⟩=>⟨k1,c,xC _ k2,k3⟩⟩
   ·obtain rfl:=zJ.1 hd;exact .inr ⟨n,s,w,e.1,by rw[z1 n (zK _)];exact hn,rfl,.inr ⟨rfl,e,by simp,rfl⟩⟩
theorem BInv.round{n:Nat}:∀(es:List (Sy×σ)) (done:List (Sy×σ)) (L:List (σ×List Sy)) {s:σ} {w:List Sy},BInv ok step good succ s0 G n L done→L[n]? =some (s,w)→(∀e∈es,ok e.1∧e.2=step s e.1)→(∀e∈es,G e.2)→
  (done++es).Pairwise (fun a b=>sLt a.1 b.1)→BInv ok step good succ s0 G n (W6 L w es) (done++es)∧(W6 L w es)[n]? =some (s,w)
 |[],done,L,s,w,h,hn,_,_,_=>by simpa[W6]using⟨h,hn⟩
 |e::es,done,L,s,w,h,hn,hm,hG,hp=>by have z1:∀d∈done,sLt d.1 e.1:=fun d hd=>(zY.1 hp).2.2 d hd e (by simp);obtain⟨h1,h2⟩:=h.add hn (hm e (by simp)) (hG e (by simp)) z1;have:=BInv.round es (done++[e]) _ h1 h2 (fun d hd=>hm d (by simp[hd])) (fun d hd=>hG d (by simp[hd])) (by simpa using hp);simpa[W6]using this
theorem BInv.next{n:Nat}{L:List (σ×List Sy)}{s:σ}{w:List Sy}(h:BInv ok step good succ s0 G n L [])(hn:L[n]? =some (s,w))(hg:good s=false)(hs:SuccOk ok step s (succ s))(hG:∀e∈succ s,G e.2):
  BInv ok step good succ s0 G (n+1) (W6 L w (succ s)) []:=by
 obtain⟨h1,h2⟩:=h.round (succ s) [] L hn hs.mem hG (by simpa using hs.asc);rw[xP]at h1;refine⟨h1.first,h1.mem,h1.asc,h1.nd,fun i s' w' hi z1=> ?_,fun i s' w' hi z1 d hd=> ?_,fun _ _ _ _ hd=>(by cases hd),fun d hd=> ?_⟩
 ·by_cases hin:i<n
  ·exact h1.bad i s' w' hin z1
  ·have:i=n:=by omega
   subst this;rw[h2]at z1;cases z1;exact hg
 ·by_cases hin:i<n
  ·exact h1.cls i s' w' hin z1 d hd
  ·have:i=n:=by omega
   subst this;rw[h2]at z1;cases z1;exact h1.cur s w h2 d hd
 ·rcases h1.org d hd with e'|⟨i,s',w',y,hi,e',hc⟩
  ·exact .inl e'
  ·exact .inr ⟨i,s',w',y,hi,e',.inl (by rcases hc with hc|hc<;>omega)⟩
theorem BInv.reach{n:Nat}{L:List (σ×List Sy)}(h:BInv ok step good succ s0 G n L [])(hs:∀s,G s→SuccOk ok step s (succ s)):∀(r:List Sy),(∀x∈r,ok x)→
  (∃v,(Tq step s0 r.reverse,v)∈L∧lle v r.reverse)∨∃i s w,n≤i∧L[i]? =some (s,w)∧lle w r.reverse
 |[],_=> .inl ⟨[],zF h.first,lle.refl _⟩
 |x::r,hx=>by
  have z1:ll r.reverse (x::r).reverse:=by rw[u9];exact k1u _ _
  rcases BInv.reach h hs r (fun y hy=>hx y (by simp[hy]))with⟨v,hv,hl⟩|⟨i,s,w,h1,h2,h3⟩
  ·obtain⟨i,hi⟩:=yF.1 hv;by_cases hin:i<n
   ·obtain⟨e,he,e1,e2⟩:=(hs _ (h.mem _ hv).2.2).cov x (hx x (by simp));obtain⟨u,hu,z6⟩:=h.cls i _ _ hin hi e he;refine .inl ⟨u,?_,?_⟩
    ·rw[u9,Tq,x_];show(step (Tq step s0 r.reverse) x,u)∈L;rw[←e1];exact hu
    ·rw[u9];exact z6.trans (d05 hl e2)
   ·exact .inr ⟨i,_,v,by omega,hi,hl.trans (.inr z1)⟩
  ·exact .inr ⟨i,s,w,h1,h2,h3.trans (.inr z1)⟩
theorem BInv.found{n:Nat}{L:List (σ×List Sy)}{s:σ}{w:List Sy}(h:BInv ok step good succ s0 G n L [])(hs:∀s,G s→SuccOk ok step s (succ s))(hn:L[n]? =some (s,w))(hg:good s=true):FirstW ok step good s0 w:=by
 have hm:=h.mem _ (zF hn);refine⟨hm.1,by rw[hm.2.1];exact hg,fun v hv z1=> ?_⟩;have hle:∀i s' w',n≤i→L[i]? =some (s',w')→lle w w':=fun i s' w' hi hl=>by
  obtain⟨h1,h2⟩:=zA.1 hn;obtain⟨h3,h4⟩:=zA.1 hl;rcases Nat.lt_or_eq_of_le hi with hlt|rfl
  ·have:=yD.1 h.asc n i h1 h3 hlt;rw[h2,h4]at this;exact .inr this
  ·rw[hn]at hl;cases hl;exact .inl rfl
 rcases h.reach hs v.reverse (fun x hx=>hv x (by simpa using hx))with⟨u,hu,hl⟩|⟨i,s',w',h1,h2,h3⟩
 ·rw[vX]at hu hl;obtain⟨i,hi⟩:=yF.1 hu;by_cases hin:i<n
  ·have:=h.bad i _ _ hin hi;rw[this]at z1;cases z1
  ·exact(hle i _ _ (by omega) hi).trans hl
 ·rw[vX]at h3;exact(hle i _ _ h1 h2).trans h3
theorem BInv.none{n:Nat}{L:List (σ×List Sy)}(h:BInv ok step good succ s0 G n L [])(hs:∀s,G s→SuccOk ok step s (succ s))(hn:L[n]? =none):
  (∀v,(∀x∈v,ok x)→Tq step s0 v∈L.map (·.1)∧good (Tq step s0 v)=false):=by
 intro v hv;have hlen:=List.getElem?_eq_none_iff.1 hn;rcases h.reach hs v.reverse (fun x hx=>hv x (by simpa using hx))with⟨u,hu,_⟩|⟨i,s',w',h1,h2,_⟩
 ·rw[vX]at hu;obtain⟨i,hi⟩:=yF.1 hu;have:=(zA.1 hi).1;exact⟨zM.2 ⟨_,hu,rfl⟩,h.bad i _ _ (by omega) hi⟩
 ·have:=(zA.1 h2).1;omega
theorem Py(hs:∀s,G s→SuccOk ok step s (succ s))(hG:∀s,G s→∀e∈succ s,G e.2)(U:List σ)(hU:∀s,G s→s∈U):∀(f n:Nat) (L:List (σ×List Sy)),U.length+1≤n+f→n≤L.length→BInv ok step good succ s0 G n L []→
  (∃w L',Pq good succ f n L=(some w,L')∧FirstW ok step good s0 w)∨
  (∃L',Pq good succ f n L=(Option.none,L')∧(L'.map (·.1)).Nodup∧(∀e∈L',(∀x∈e.2,ok x)∧Tq step s0 e.2=e.1∧G e.1)∧∀v,(∀x∈v,ok x)→Tq step s0 v∈L'.map (·.1)∧good (Tq step s0 v)=false)
 |0,n,L,hf,hn,h=>by
  exfalso;have:=Ix _ U h.nd (fun s hs=>by
   obtain⟨e,he,rfl⟩:=zM.1 hs;exact hU _ (h.mem e he).2.2)
  simp at this;omega
 |f+1,n,L,hf,hn,h=>by
  rw[Pq];cases hl:L[n]? with
  |none=>exact .inr ⟨L,rfl,h.nd,h.mem,h.none hs hl⟩
  |some e=>
   obtain⟨s,w⟩:=e;simp only;cases hg:good s with
   |true=>rw[if_pos rfl];exact .inl ⟨w,L,rfl,h.found hs hl hg⟩
   |false=>
    rw[if_neg (by simp)];have z1:=(h.mem _ (zF hl)).2.2;have h':=h.next hl hg (hs s z1) (hG s z1);refine Py hs hG U hU f (n+1) _ (by omega) ?_ h';have z6:=(zA.1 hl).1;have z7:∀(es:List (Sy×σ)) (L:List (σ×List Sy)),L.length≤(W6 L w es).length:=by
     intro es;induction es with
     |nil=>intro L;exact zK _
     |cons e es ih=>
      intro L;refine yP ?_ (ih (Mp L e.2 (w++[e.1])));unfold Mp;split
      ·exact zK _
      ·simp
    exact yP z6 (z7 _ _)
theorem Oj(z1:G s0):BInv ok step good succ s0 G 0 [(s0,[])] []:=
 ⟨rfl,fun e he=>by obtain rfl:=zJ.1 he;exact⟨by simp,rfl,z1⟩,by simp,by simp,fun i _ _ hi=>by omega,fun i _ _ hi=>by omega,fun _ _ _ _ hd=>(by cases hd),fun d hd=>by obtain rfl:=zJ.1 hd;exact .inl rfl⟩
end
end Go.Abs
namespace Go.Abs
structure Dfa (a:Aut):Prop where
 ok:OkA a
 det:Xg a
 full:q1i a
def toL(a:Aut)(s:Int)(x:Sy):Int:=match a.mv.find? (fun m=>decide (m.src=s) && Rp m.on x)with|some m=>m.dst|none=> -1
def inS(a:Aut)(s:Int):Prop:=0≤s∧s<a.fin.length
theorem Dfa.next{a:Aut}(h:Dfa a){s:Int}(hs:inS a s){x:Sy}(hx:W2 a x):inS a (toL a s x)∧Qu a [s] x=[toL a s x]:=by
 obtain⟨t,t0,t1,e⟩:=z19 h.ok.wfA h.det h.full hs.1 hs.2 hx;obtain⟨m,hm,h1,h2⟩:=h.full s hs.1 hs.2 x hx;have hf:toL a s x=t:=by
  unfold toL;cases hq:a.mv.find? (fun m=>decide (m.src=s) && Rp m.on x)with
  |none=>have:=u6.1 hq m hm;simp[h1,h2]at this
  |some k=>have hk:=vH hq;have hp:=ug hq;simp at hp;have z1:k.dst∈Qu a [s] x:=Wz.2 ⟨h.ok.wfA.dst k hk,k,hk,by rw[hp.1];simp,hp.2,rfl⟩;rw[e]at z1;exact zJ.1 z1
 rw[hf];exact⟨⟨t0,t1⟩,e⟩
theorem q0o{a:Aut}{x y:Sy}(h:∀m∈a.mv,Rp m.on x=Rp m.on y)(s:Int):toL a s x=toL a s y:=by
 unfold toL;have:a.mv.find? (fun m=>decide (m.src=s) && Rp m.on x)=a.mv.find? (fun m=>decide (m.src=s) && Rp m.on y):=by
  generalize a.mv=l at h;induction l with
  |nil=>rfl
  |cons m l ih=>rw[tp,tp,h m (by simp),ih (fun k hk=>h k (by simp[hk]))]
 rw[this]
def stF(a:Aut)(s:Int)(w:List Sy):Int:=w.foldl (toL a) s
def q08(a:Aut)(s:Int)(w:List Sy):Bool:=a.fin.getD (stF a s w).toNat false
theorem Dfa.run{a:Aut}(h:Dfa a):∀(w:List Sy) (s:Int),inS a s→(∀x∈w,W2 a x)→inS a (stF a s w)∧Oi a [s] w=[stF a s w]
 |[],s,hs,_=>⟨hs,rfl⟩
 |x::w,s,hs,hx=>by obtain⟨h1,h2⟩:=h.next hs (hx x (by simp));have:=h.run w _ h1 (fun y hy=>hx y (by simp[hy]));refine⟨this.1,?_⟩;show Oi a (Qu a [s] x) w=_;rw[h2];exact this.2
theorem Dfa.zero{a:Aut}(h:Dfa a):inS a 0:=⟨yJ _,by have:=h.ok.fin;omega⟩
theorem Dfa.acc{a:Aut}(h:Dfa a){w:List Sy}(hw:∀x∈w,W2 a x):Yl a w=q08 a 0 w:=by unfold Yl q08;rw[(h.run w 0 h.zero hw).2];simp[Th]
structure Ltr (T:Nat) (l cl:List Prd):Prop where
 prts:Prts T l cl
 asc:cl.Pairwise x0d
 len:∀p∈l,p.length=T
def okT(T:Nat)(x:Sy):Prop:=0≤x.ty∧x.ty.toNat<T∧inR x.num
theorem q2o{T:Nat}(hT:0<T){l:List Prd}(hl:∀p∈l,PCk T p):Ltr T l (Qy T l):=by obtain⟨h1,h2⟩:=Uh hT hl;exact⟨h1,h2,fun p hp=>(hl p hp).1⟩
theorem u08{p:Prd}{t:Nat}{n:Int}(h:A3 (Qw p 0).1 (Qw p 0).2 t n):sLt (Qk p) ⟨t,n⟩:=by unfold A3 at h;unfold sLt Qk;simp only;omega
theorem Ltr.least{T:Nat}{l cl:List Prd}(h:Ltr T l cl){c:Prd}(hc:c∈cl):okT T (Qk c)∧PM c (Qk c).ty.toNat (Qk c).num:=by have h1:=(W3 (h.prts.wf c hc) (h.prts.ne c hc)).1;have h2:=(h.prts.wf c hc).lt h1;exact⟨⟨by simp[Qk],by simpa[Qk]using h2.1,h2.2⟩,by simpa[Qk]using h1⟩
theorem Ltr.sig{T:Nat}{l cl:List Prd}(h:Ltr T l cl){c:Prd}(hc:c∈cl){x y:Sy}(hx:okT T x)(hy:okT T y)(z1:PM c x.ty.toNat x.num)(z6:PM c y.ty.toNat y.num):∀p∈l,Rp p x=Rp p y:=fun p hp=>by have h2:=((h.prts.cls c hc _ _ z1 _ _).1 z6).2.2 p hp;rw[yX,Pk (h.len p hp) x hx.1,Pk (h.len p hp) y hy.1];exact h2
theorem Ltr.cov{T:Nat}{l cl:List Prd}(h:Ltr T l cl){x:Sy}(hx:okT T x):∃c∈cl,PM c x.ty.toNat x.num∧(Qk c=x∨sLt (Qk c) x)∧∀p∈l,Rp p x=Rp p (Qk c):=by
 obtain⟨c,hc,hm⟩:=h.prts.all x.ty.toNat x.num hx.2.1 hx.2.2;obtain⟨h1,h2⟩:=h.least hc;refine⟨c,hc,hm,?_,h.sig hc hx h1 hm h2⟩;rcases(W3 (h.prts.wf c hc) (h.prts.ne c hc)).2 _ _ hm with⟨e1,e2⟩|hlt
 ·left;unfold Qk;rw[e1,e2,show((x.ty.toNat:Nat):Int)=x.ty by have:=hx.1;omega]
 ·right;have:=u08 hlt;have e:(⟨(x.ty.toNat:Int),x.num⟩:Sy)=x:=by rw[show((x.ty.toNat:Nat):Int)=x.ty by have:=hx.1;omega]
  rw[e]at this;exact this
theorem Ltr.ascS{T:Nat}{l cl:List Prd}(h:Ltr T l cl):(cl.map Qk).Pairwise sLt:=by
 refine xR.2 (h.asc.imp_of_mem fun {p q} hp hq hlt=> ?_);obtain⟨t,n,hm,z1⟩:=hlt;have h1:=z1 _ _ (W3 (h.prts.wf q hq) (h.prts.ne q hq)).1;have h2:A3 (Qw p 0).1 (Qw p 0).2 (Qw q 0).1 (Qw q 0).2:=by
  rcases(W3 (h.prts.wf p hp) (h.prts.ne p hp)).2 t n hm with⟨e1,e2⟩|h3
  ·rw[e1,e2];exact h1
  ·exact h3.trans h1
 exact u08 h2
def Wt(a b:Aut):List Sy:=(Qy a.types.toNat (onA a++onA b)).map Qk
def Tt(a b:Aut)(s:Int×Int)(x:Sy):Int×Int:=(toL a s.1 x,toL b s.2 x)
def Va(a b:Aut)(s:Int×Int):List (Sy×(Int×Int)):=(Wt a b).map fun x=>(x,Tt a b s x)
theorem Il{a:Aut}{x:Sy}:okT a.types.toNat x↔W2 a x:=by
 unfold okT W2;constructor
 ·rintro⟨h1,h2,h3⟩;exact⟨⟨h1,by omega⟩,h3⟩
 ·rintro⟨⟨h1,h2⟩,h3⟩;exact⟨h1,by omega,h3⟩
theorem x1i{a b:Aut}(ha:OkA a)(hb:OkA b)(ht:b.types=a.types):Ltr a.types.toNat (onA a++onA b) (Qy a.types.toNat (onA a++onA b)):=
 q2o (by have:=ha.types;omega) fun p hp=>by
  rcases zO.1 hp with hp|hp
  ·exact Db ha p hp
  ·rw[←ht];exact Db hb p hp
theorem Z0{a:Aut}{m:Mv}(h:m∈a.mv):m.on∈onA a:=zM.2 ⟨m,h,rfl⟩
theorem Pd{a b:Aut}(ha:OkA a)(hb:OkA b)(ht:b.types=a.types)(s:Int×Int):SuccOk (W2 a) (Tt a b) s (Va a b s):=by
 have hl:=x1i ha hb ht;refine⟨?_,fun e he=> ?_,fun y hy=> ?_⟩
 ·unfold Va;exact xR.2 (hl.ascS.imp fun h=>h)
 ·obtain⟨x,hx,rfl⟩:=zM.1 he;obtain⟨c,hc,rfl⟩:=zM.1 hx;exact⟨Il.1 (hl.least hc).1,rfl⟩
 ·obtain⟨c,hc,hm,hle,z1⟩:=hl.cov (Il.2 hy);refine⟨(Qk c,Tt a b s (Qk c)),zM.2 ⟨Qk c,zM.2 ⟨c,hc,rfl⟩,rfl⟩,?_,hle⟩;unfold Tt;rw[q0o (fun m hm=>(z1 m.on (xC _ (Z0 hm))).symm),q0o (a:=b) (fun m hm=>(z1 m.on (vA _ (Z0 hm))).symm)]
def Zk(a b:Aut)(s:Int×Int):Bool:=a.fin.getD s.1.toNat false != b.fin.getD s.2.toNat false
def D3(a b:Aut)(p q:Int):Option (List Sy)×List ((Int×Int)×List Sy):=Pq (Zk a b) (Va a b) (a.fin.length * b.fin.length+1) 0 [((p,q),[])]
theorem Uf(a b:Aut):∀(w:List Sy) (p q:Int),Tq (Tt a b) (p,q) w=(stF a p w,stF b q w)
 |[],_,_=>rfl
 |x::w,p,q=>Uf a b w (toL a p x) (toL b q x)
def Xl(a b:Aut):List (Int×Int):=(We a.fin.length).flatMap fun i=>(We b.fin.length).map fun j=>(i,j)
theorem X7(a b:Aut):(Xl a b).length=a.fin.length * b.fin.length:=by unfold Xl;rw[vC,xU (g:=fun _=>b.fin.length) (fun i _=>by simp[We]),vG,wY];simp[We]
theorem Xo{a b:Aut}{s:Int×Int}(h1:inS a s.1)(h2:inS b s.2):s∈Xl a b:=by unfold Xl;rw[xL];exact⟨s.1,Wo.2 h1,zM.2 ⟨s.2,Wo.2 h2,rfl⟩⟩
def g1n(a b:Aut)(p q:Int)(w:List Sy):Prop:=FirstW (W2 a) (Tt a b) (Zk a b) (p,q) w
theorem Zb(a b:Aut)(p q:Int)(w:List Sy):Zk a b (Tq (Tt a b) (p,q) w)=true↔q08 a p w≠q08 b q w:=by rw[Uf];simp[Zk,q08]
theorem k0i{a b:Aut}(ha:Dfa a)(hb:Dfa b)(ht:b.types=a.types){p q:Int}(hp:inS a p)(hq:inS b q):
  (∃w,(D3 a b p q).1=some w∧g1n a b p q w)∨((D3 a b p q).1=none∧∀w,(∀x∈w,W2 a x)→q08 a p w=q08 b q w):=by
 have z1:∀x,W2 a x→W2 b x:=fun x hx=>by unfold W2 at *;rw[ht];exact hx
 rcases Py (ok:=W2 a) (step:=Tt a b) (good:=Zk a b) (succ:=Va a b) (s0:=(p,q)) (G:=fun s=>inS a s.1∧inS b s.2) (fun s _=>Pd ha.ok hb.ok ht s)
  (fun s hs e he=>by
   obtain⟨h1,h2⟩:=(Pd ha.ok hb.ok ht s).mem e he;rw[h2];exact⟨(ha.next hs.1 h1).1,(hb.next hs.2 (z1 _ h1)).1⟩) (Xl a b) (fun s hs=>Xo hs.1 hs.2) (a.fin.length * b.fin.length+1) 0 [((p,q),[])] (by rw[X7];omega) (by simp) (Oj ⟨hp,hq⟩)with⟨w,L,h1,h2⟩|⟨L,h1,_,_,h2⟩
 ·exact .inl ⟨w,by rw[D3,h1],h2⟩
 ·refine .inr ⟨by rw[D3,h1],fun w hw=> ?_⟩;have:=(h2 w hw).2;by_cases hd:q08 a p w=q08 b q w
  ·exact hd
  ·rw[(Zb a b p q w).2 hd]at this;cases this
end Go.Abs
namespace Go.Abs
def w0s(a:Aut)(s:Int):List Mv:=a.mv.filter fun m=>decide (m.src=s) && !Wp m.on
def Cu(a b:Aut)(s:Int×Int):List (Sy×(Int×Int)):=(w0s a s.1).flatMap fun m=>(w0s b s.2).filterMap fun n=>if Wp (Wj m.on n.on)then none else some (Qk (Wj m.on n.on),(m.dst,n.dst))
theorem N2{T:Nat}{p:Prd}(h:PWf T p):Wp p=false↔∃t n,PM p t n:=by
 cases hv:Wp p
 ·simp only[true_iff];apply Classical.byContradiction;intro hn;have:=(E6 h).2 (fun t n hm=>hn ⟨t,n,hm⟩);rw[hv]at this;cases this
 ·simp only[Bool.true_eq_false,false_iff];rintro⟨t,n,hm⟩;exact(E6 h).1 hv t n hm
theorem F9{T:Nat}{p:Prd}(h:PWf T p)(hn:∃t n,PM p t n):okT T (Qk p)∧PM p (Qk p).ty.toNat (Qk p).num∧∀x,okT T x→PM p x.ty.toNat x.num→Qk p=x∨sLt (Qk p) x:=by
 have h1:=W3 h hn;have h2:=h.lt h1.1;refine⟨⟨by simp[Qk],by simpa[Qk]using h2.1,h2.2⟩,by simpa[Qk]using h1.1,fun x hx hm=> ?_⟩;rcases h1.2 _ _ hm with⟨e1,e2⟩|hlt
 ·left;unfold Qk;rw[e1,e2,show((x.ty.toNat:Nat):Int)=x.ty by have:=hx.1;omega]
 ·right;have:=u08 hlt;have e:(⟨(x.ty.toNat:Int),x.num⟩:Sy)=x:=by rw[show((x.ty.toNat:Nat):Int)=x.ty by have:=hx.1;omega]
  rw[e]at this;exact this
def lkN(near:List ((Int×Int)×Nat))(s:Int×Int):Option Nat:=(near.find? fun e=>decide (e.1=s)).map (·.2)
def j1t(a:Aut)(near:List ((Int×Int)×Nat))(d:Nat)(s:Int×Int):Bool:=match d with
 |0=>Zk a a s
 |d+1=>(Cu a a s).any fun e=>decide (lkN near e.2=some d)
def u0x(a:Aut)(near:List ((Int×Int)×Nat))(d:Nat):List (Int×Int):=(Xl a a).filter fun s=>decide (lkN near s=none) && j1t a near d s
def g1s(a:Aut):Nat→Nat→List ((Int×Int)×Nat)→List ((Int×Int)×Nat)
 |0,_,near=>near
 |f+1,d,near=>if u0x a near d=[]then near else g1s a f (d+1) (near++(u0x a near d).map fun s=>(s,d))
def w2e(a:Aut):List ((Int×Int)×Nat):=g1s a (a.fin.length * a.fin.length+1) 1 ((u0x a [] 0).map fun s=>(s,0))
def inP(a:Aut)(s:Int×Int):Prop:=inS a s.1∧inS a s.2
def d1t(a:Aut)(s:Int×Int)(d:Nat):Prop:=∃w:List Sy,w.length=d∧(∀x∈w,W2 a x)∧Zk a a (Tq (Tt a a) s w)=true
def z2a(a:Aut)(s:Int×Int)(d:Nat):Prop:=d1t a s d∧∀k,k<d→¬d1t a s k
structure NInv (a:Aut) (d:Nat) (near:List ((Int×Int)×Nat)):Prop where
 lk:∀s,inP a s→∀k,lkN near s=some k↔(k<d∧z2a a s k)
 keys:(near.map (·.1)).Nodup
 dom:∀e∈near,e.1∈Xl a a
def Nc(x y:Sy):Bool:=decide (x.ty<y.ty) || (decide (x.ty=y.ty) && decide (x.num<y.num))
def w2s(es:List (Sy×(Int×Int))):Option (Sy×(Int×Int)):=es.foldl (fun b e=>match b with|none=>some e|some c=>if Nc e.1 c.1 then some e else some c) none
theorem Kc(x y:Sy):Nc x y=true↔sLt x y:=by simp[Nc,sLt]
def d1j(a:Aut)(near:List ((Int×Int)×Nat)):Nat→Int×Int→List Sy
 |0,_=>[]
 |d+1,s=>match w2s ((Cu a a s).filter fun e=>decide (lkN near e.2=some d))with
  |some e=>e.1::d1j a near d e.2
  |none=>⟨0,0⟩::d1j a near d (0,0)
end Go.Abs
namespace Go.Abs
structure EqvB (n:Nat) (E:Nat→Nat→Bool):Prop where
 refl:∀i,i<n→E i i=true
 symm:∀i k,i<n→k<n→E i k=true→E k i=true
 trans:∀i k j,i<n→k<n→j<n→E i k=true→E k j=true→E i j=true
def k1p(E:Nat→Nat→Bool)(st:List Nat×List Nat)(i:Nat):List Nat×List Nat:=
 match st.1.findIdx? (E i)with
 |some t=>(st.1,st.2++[t])
 |none=>(st.1++[i],st.2++[st.1.length])
def y2o(E:Nat→Nat→Bool)(n:Nat):List Nat×List Nat:=(yA n).foldl (k1p E) ([],[])
def u13(E:Nat→Nat→Bool)(st:Nat×List Nat)(i:Nat):Nat×List Nat:=
 match (yA i).find? (E i)with
 |some k=>(st.1,st.2++[st.2.getD k 0])
 |none=>(st.1+1,st.2++[st.1])
def v2e(E:Nat→Nat→Bool)(n:Nat):Nat×List Nat:=(yA n).foldl (u13 E) (0,[])
structure ClsS (E:Nat→Nat→Bool) (n:Nat) (fs out:List Nat):Prop where
 len:out.length=n
 asc:fs.Pairwise (·<·)
 lt:∀r∈fs,r<n
 apart:fs.Pairwise (fun r s=>E r s=false)
 num:∀i,i<n→∃t r,out[i]? =some t∧fs[t]? =some r∧r≤i∧E i r=true
def eqW(a b:Aut)(p q:Int):Prop:=∀w,(∀x∈w,W2 a x)→q08 a p w=q08 b q w
def eqS(a:Aut)(i k:Nat):Bool:=(lkN (w2e a) ((i:Int),(k:Int))).isNone
def fsA(a:Aut):List Nat:=(y2o (eqS a) a.fin.length).1
def clA(a:Aut):List Nat:=(y2o (eqS a) a.fin.length).2
end Go.Abs
namespace Go.Abs
section
variable {α:Type} (key:α→Nat×Int)
def v18(s:List α)(x:α):Nat→Nat
 |0=>0
 |j+1=>match s[j]? with
  |some y=>if x0z (key x) (key y)=true then v18 s x j else j+1
  |none=>j+1
def x21(s:List α)(x:α):List α:=s.take (v18 key s x s.length)++x::s.drop (v18 key s x s.length)
def w25(L:List α):List α:=L.foldl (x21 key) []
def ltG(p q:α):Prop:=A3 (key p).1 (key p).2 (key q).1 (key q).2
end
def clD(cl:List Nat)(m:Mv):Nat:=cl.getD m.dst.toNat 0
def kyM(m:Mv):Nat×Int:=Qw m.on 0
def x23(a:Aut)(cl:List Nat)(s:Int):List Mv:=(w0s a s).foldl (fun g m=>Ym 0 g (clD cl m) m.on) []
def x22(a:Aut)(cl:List Nat)(s:Int):List Mv:=w25 kyM (x23 a cl s)
def x2f(a:Aut)(cl:List Nat)(s:Int)(t:Nat)(ty:Nat)(y:Int):Prop:=∃m∈w0s a s,clD cl m=t∧PM m.on ty y
structure MrgS (T:Nat) (D:Nat→Nat→Int→Prop) (g:List Mv):Prop where
 wf:∀m∈g,PWf T m.on
 src:∀m∈g,m.src=0
 dst:∀m∈g,∃t:Nat,m.dst=t
 nd:g.Pairwise (fun m k=>m.dst≠k.dst)
 mem:∀m∈g,∀t:Nat,m.dst=t→∀ty y,PM m.on ty y↔D t ty y
 all:∀t ty y,D t ty y→∃m∈g,m.dst=(t:Int)
 ne:∀m∈g,∃ty y,PM m.on ty y
def v2s(a:Aut)(cl:List Nat)(s:Int)(t:Nat):List Prd:=((w0s a s).filter fun m=>decide (clD cl m=t)).map (·.on)
end Go.Abs
namespace Go.Abs
def f1l(cl:List Nat)(t:Nat):Nat:=(cl.findIdx? fun c=>decide (c=t)).getD 0
def w23(a:Aut)(t:Nat):Prop:=t<(fsA a).length
def q2g(a:Aut)(s:Int):Nat:=(clA a).getD s.toNat 0
def q21(a:Aut)(t:Nat):Nat:=f1l (clA a) t
theorem d1s{a:Aut}{s:Int}(h:inS a s):s.toNat<a.fin.length∧((s.toNat:Nat):Int)=s:=by unfold inS at h;omega
def x2k(o:List Nat)(c:Nat):List Nat:=if c∈o then o else o++[c]
def g1w(o:List Nat)(l:List Mv):List Nat:=l.foldl (fun o m=>x2k o m.dst.toNat) o
def z2i(a:Aut)(t:Nat):List Mv:=x22 a (clA a) (q21 a t:Int)
def x1a(a:Aut):Nat→Nat→List Nat→List Nat
 |0,_,o=>o
 |f+1,n,o=>match o[n]? with
  |none=>o
  |some c=>x1a a f (n+1) (g1w o (z2i a c))
def x2y(a:Aut):List Nat:=x1a a (a.fin.length+1) 0 [q2g a 0]
def x2q(o:List Nat)(c:Nat):Nat:=(o.findIdx? fun d=>decide (d=c)).getD 0
def mvN(a:Aut)(o:List Nat)(n:Nat):List Mv:=(z2i a (o.getD n 0)).map fun m=>⟨n,(x2q o m.dst.toNat:Int),m.on⟩
def g1m(a:Aut)(o:List Nat):Aut:=⟨a.types,o.map fun c=>a.fin.getD (q21 a c) false,(yA o.length).flatMap (mvN a o)⟩
def v0p(a:Aut):Aut:=g1m a (x2y a)
structure OrdS (a:Aut) (o:List Nat):Prop where
 first:o[0]? =some (q2g a 0)
 nd:o.Nodup
 cl:∀c∈o,w23 a c
 closed:∀c∈o,∀m∈z2i a c,m.dst.toNat∈o
section
variable {a b:Aut} (ha:Dfa a) (hb:Dfa b) (ht:b.types=a.types)
def x2o(a b:Aut)(c d:Nat):Prop:=w23 a c∧w23 b d∧eqW a b (q21 a c) (q21 b d)
structure LkO (a b:Aut) (o o':List Nat):Prop where
 len:o.length=o'.length
 k:∀(i c d:Nat),o[i]? =some c→o'[i]? =some d→x2o a b c d
theorem Tb{a b:Aut}(ht:b.types=a.types){x:Sy}:W2 b x↔W2 a x:=by unfold W2;rw[ht]
include ha hb ht
end
end Go.Abs
namespace Go.Abs
def f1v(m:Aut):Bool:=m.mv.any fun k=>k.on.any fun s=>decide (256<s.length)
section
variable {a:Aut} (ha:Dfa a) (hb:f1v (v0p a)=false)
include ha hb
end
def v2l(a:Aut):Int×Aut:=if(Rl a).1≠0 then((Rl a).1,Ov)else if(v0a (Rl a).2).1≠0 then((v0a (Rl a).2).1,Ov)else
 if f1v (v0p (v0a (Rl a).2).2)then(5,Ov)else(0,v0p (v0a (Rl a).2).2)
end Go.Abs
namespace Go.Abs
def addI(o:List Int)(c:Int):List Int:=if c∈o then o else o++[c]
def k1g(o:List Int)(l:List Int):List Int:=l.foldl addI o
def x18(sc:Int→List Int):Nat→Nat→List Int→List Int
 |0,_,o=>o
 |f+1,n,o=>match o[n]? with
  |none=>o
  |some c=>x18 sc f (n+1) (k1g o (sc c))
structure SrchS (sc:Int→List Int) (o:List Int):Prop where
 nd:o.Nodup
 zero:(0:Int)∈o
 closed:∀c∈o,∀d∈sc c,d∈o
 least:∀S:Int→Prop,S 0→(∀c d,S c→d∈sc c→S d)→∀c∈o,S c
def v2d(a:Aut)(c:Int):List Int:=(w0s a c).map (·.dst)
def x26(a:Aut)(c:Int):List Int:=(Wt a a).map (toL a c)
def v2b(a:Aut):Bool:=(x18 (v2d a) (a.fin.length+1) 0 [0]).length==a.fin.length
def x20(a:Aut):Bool:=(x18 (x26 a) (a.fin.length+1) 0 [0]).length==a.fin.length
end Go.Abs
namespace Go.Abs
structure Dta (a:Aut):Prop where
 ok:OkA a
 det:Xg a
theorem w24{α:Type}{R:α→α→Prop}{l:List α}(h:l.Pairwise R){x y:α}(hx:x∈l)(hy:y∈l)(h1:¬R x y)(h2:¬R y x):x=y:=by
 obtain⟨i,hi,rfl⟩:=yC hx;obtain⟨j,hj,rfl⟩:=yC hy;rcases vY i j with k|k|k
 ·exact absurd (yD.1 h i j hi hj k) h1
 ·subst k;rfl
 ·exact absurd (yD.1 h j i hj hi k) h2
theorem Dta.one{a:Aut}(h:Dta a){m k:Mv}(hm:m∈a.mv)(hk:k∈a.mv)(hs:m.src=k.src){x:Sy}(hx:W2 a x)(h1:Rp m.on x=true)(h2:Rp k.on x=true):m=k:=
 w24 h.det hm hk (fun hr=>hr hs x hx ⟨h1,h2⟩) (fun hr=>hr hs.symm x hx ⟨h2,h1⟩)
theorem Dta.to_of{a:Aut}(h:Dta a){m:Mv}(hm:m∈a.mv){x:Sy}(hx:W2 a x)(hh:Rp m.on x=true):toL a m.src x=m.dst:=by
 unfold toL;cases hf:a.mv.find? (fun k=>decide (k.src=m.src) && Rp k.on x)with
 |none=>rw[u6]at hf;have:=hf m hm;simp[hh]at this
 |some k=>have h1:=ug hf;simp only[zR,decide_eq_true_eq]at h1;rw[h.one (vH hf) hm h1.1 hx h1.2 hh]
theorem Ff{a:Aut}(s:Int)(x:Sy):(toL a s x= -1∧∀m∈a.mv,m.src=s→Rp m.on x=false)∨∃m∈a.mv,m.src=s∧Rp m.on x=true∧toL a s x=m.dst:=by
 unfold toL;cases hf:a.mv.find? (fun k=>decide (k.src=s) && Rp k.on x)with
 |none=>rw[u6]at hf;refine .inl ⟨rfl,fun m hm e=> ?_⟩;have:=hf m hm;simpa[e]using this
 |some k=>have h1:=ug hf;simp only[zR,decide_eq_true_eq]at h1;exact .inr ⟨k,vH hf,h1.1,h1.2,rfl⟩
theorem z2d{a:Aut}(h:OkA a)(s:Int)(x:Sy):toL a s x= -1∨inS a (toL a s x):=by
 rcases Ff (a:=a) s x with⟨h1,_⟩|⟨m,hm,_,_,e⟩
 ·exact .inl h1
 ·rw[e];exact .inr (h.mv m hm).dst
def wkS(a:Aut)(s:Int):List Sy→Option Int
 |[]=>some s
 |x::w=>if toL a s x<0 then none else wkS a (toL a s x) w
def fAt(f:List Int)(s:Int):Int:=f.getD s.toNat (-1)
structure IsoT (a b:Aut) (f:List Int):Prop where
 len:f.length=a.fin.length
 zero:fAt f 0=0
 low:∀q∈f,-1≤q
 fin:∀s,inS a s→0≤fAt f s→a.fin.getD s.toNat false=b.fin.getD (fAt f s).toNat false
 step:∀s,inS a s→0≤fAt f s→∀x,W2 a x→(toL a s x<0↔toL b (fAt f s) x<0)∧(0≤toL a s x→fAt f (toL a s x)=toL b (fAt f s) x)
 inj:∀s t,inS a s→inS a t→0≤fAt f s→fAt f s=fAt f t→s=t
 reach:∀s,inS a s→0≤fAt f s→∃w,(∀x∈w,W2 a x)∧wkS a 0 w=some s∧wkS b 0 w=some (fAt f s)
def u1z(st:List Int×List Int)(e:Int×Int):Option (List Int×List Int):=
 if fAt st.1 e.1=e.2 then some st else if 0≤fAt st.1 e.1∨e.2∈st.1 then none else some (st.1.set e.1.toNat e.2,st.2++[e.1])
def g06:List (Int×Int)→List Int×List Int→Option (List Int×List Int)
 |[],st=>some st
 |e::es,st=>(u1z st e).bind (g06 es)
def y2p(chk:Int→Int→Bool)(ps:Int→Int→List (Int×Int)):Nat→Nat→List Int×List Int→Option (List Int)
 |0,_,st=>some st.1
 |f+1,n,st=>match st.2[n]? with
  |none=>some st.1
  |some p=>if chk p (fAt st.1 p)then(g06 (ps p (fAt st.1 p)) st).bind (y2p chk ps f (n+1))else none
def x2s(a:Aut):List Int×List Int:=((List.replicate a.fin.length (-1)).set 0 0,[0])
structure IsoI (a b:Aut) (st:List Int×List Int):Prop where
 len:st.1.length=a.fin.length
 zero:fAt st.1 0=0
 low:∀q∈st.1,-1≤q
 mem:∀s,s∈st.2↔inS a s∧0≤fAt st.1 s
 nd:st.2.Nodup
 inj:∀s t,inS a s→inS a t→0≤fAt st.1 s→fAt st.1 s=fAt st.1 t→s=t
 reach:∀s,inS a s→0≤fAt st.1 s→∃w,(∀x∈w,W2 a x)∧wkS a 0 w=some s∧wkS b 0 w=some (fAt st.1 s)
 rng:∀s,inS a s→0≤fAt st.1 s→inS b (fAt st.1 s)
structure PsOk (a b:Aut) (chk:Int→Int→Bool) (ps:Int→Int→List (Int×Int)):Prop where
 chk:∀p q,inS a p→inS b q→(chk p q=true↔a.fin.getD p.toNat false=b.fin.getD q.toNat false∧∀x,W2 a x→(toL a p x<0↔toL b q x<0))
 from_:∀p q,inS a p→inS b q→∀e∈ps p q,∃x,W2 a x∧toL a p x=e.1∧toL b q x=e.2∧0≤e.1∧0≤e.2
 all:∀p q,inS a p→inS b q→∀x,W2 a x→0≤toL a p x→0≤toL b q x→(toL a p x,toL b q x)∈ps p q
end Go.Abs
namespace Go.Abs
def y2w(a b:Aut)(p q:Int):Bool:=a.fin.getD p.toNat false==b.fin.getD q.toNat false
def y26(a:Aut)(p:Int):Prd:=Xc a.types.toNat ((w0s a p).map (·.on))
def v2g(a b:Aut)(p q:Int):Bool:=y2w a b p q && decide (y26 a p=y26 b q)
def psP(a b:Aut)(p q:Int):List (Int×Int):=(Cu a b (p,q)).map (·.2)
def x2c(a b:Aut)(p q:Int)(x:Sy):Bool:=decide (toL a p x<0)==decide (toL b q x<0)
def v2o(a b:Aut)(p q:Int):Bool:=y2w a b p q && (Wt a b).all (x2c a b p q)
def ltP(a b:Aut)(p q:Int)(x:Sy):Int×Int:=(toL a p x,toL b q x)
def psR(a b:Aut)(p q:Int):List (Int×Int):=((Wt a b).filter fun x=>decide (0≤toL a p x∧0≤toL b q x)).map (ltP a b p q)
def v2x(a b:Aut):(List Int×Bool)×Int:=
 if Wl a≠0 then(([],false),Wl a)else if Wl b≠0 then(([],false),Wl b)else if Vy a=false∨Vy b=false then(([],false),3)
 else if a.types≠b.types then(([],false),15)else match y2p (v2g a b) (psP a b) (a.fin.length+1) 0 (x2s a)with
  |some l=>((l,true),0)
  |none=>(([],false),0)
end Go.Abs
namespace Go.Abs
theorem j1b{a:Aut}(h:OkA a)(x:Sy):toL a (-1) x= -1:=by
 rcases Ff (a:=a) (-1) x with⟨h1,_⟩|⟨m,hm,h2,_,_⟩
 ·exact h1
 ·have:=(h.mv m hm).src.1;omega
def inD(a:Aut)(s:Int):Prop:=s= -1∨inS a s
theorem J3{a:Aut}(h:OkA a)(s:Int)(x:Sy):inD a (toL a s x):=z2d h s x
def w0m(a:Aut)(s:Int):Bool:=decide (s≠ -1) && a.fin.getD s.toNat false
def mvS(a:Aut)(s:Int):List Mv:=a.mv.filter fun m=>decide (m.src=s)
def Wg(a:Aut)(s:Int):List (Option Mv):=(mvS a s).map some++[none]
def A4:Option Mv→Int
 |some m=>m.dst
 |none=> -1
def V7(a:Aut)(s:Int):Option Mv→Prd
 |some m=>m.on
 |none=>W8 (Xc a.types.toNat ((mvS a s).map (·.on)))
def x06(a:Aut)(s:Int)(o:Option Mv)(x:Sy):Prop:=PM (V7 a s o) x.ty.toNat x.num
theorem Rv{a:Aut}{s:Int}{m:Mv}:m∈mvS a s↔m∈a.mv∧m.src=s:=by unfold mvS;rw[List.mem_filter,decide_eq_true_eq]
theorem Un{a:Aut}{s:Int}{o:Option Mv}:o∈Wg a s↔o=none∨∃m∈mvS a s,o=some m:=by
 unfold Wg;rw[zO,zM,zJ];constructor
 ·rintro(⟨m,hm,rfl⟩|rfl)
  ·exact .inr ⟨m,hm,rfl⟩
  ·exact .inl rfl
 ·rintro(rfl|⟨m,hm,rfl⟩)
  ·exact .inr rfl
  ·exact .inl ⟨m,hm,rfl⟩
theorem Hg{a:Aut}(h:OkA a)(s:Int):∀p∈(mvS a s).map (·.on),PWf a.types.toNat p:=fun r hr=>by obtain⟨m,hm,rfl⟩:=zM.1 hr;exact h.wfA.on m (Rv.1 hm).1

theorem L0{a:Aut}(h:OkA a){s:Int}{o:Option Mv}(ho:o∈Wg a s):PWf a.types.toNat (V7 a s o):=by
 rcases Un.1 ho with rfl|⟨m,hm,rfl⟩
 ·exact Fy (Hd (Hg h s))
 ·exact h.wfA.on m (Rv.1 hm).1
theorem I5{a:Aut}(h:OkA a)(s:Int){x:Sy}(hx:W2 a x):x06 a s none x↔∀m∈mvS a s,Rp m.on x=false:=by
 unfold x06 V7;rw[D9 (Hd (Hg h s)),Jy (Hg h s)];have hk:=Il.2 hx;constructor
 ·rintro⟨_,hn⟩ m hm;cases hh:Rp m.on x with
  |false=>rfl
  |true=>exact absurd ⟨m.on,zM.2 ⟨m,hm,rfl⟩,(Uo h.wfA (Rv.1 hm).1 hx).1 hh⟩ hn
 ·intro hn;refine⟨hk.2,?_⟩;rintro⟨r,hr,z1⟩;obtain⟨m,hm,rfl⟩:=zM.1 hr;have:=hn m hm;rw[(Uo h.wfA (Rv.1 hm).1 hx).2 z1]at this;cases this
theorem Ik{a:Aut}(h:OkA a){s:Int}{m:Mv}(hm:m∈mvS a s){x:Sy}(hx:W2 a x):x06 a s (some m) x↔Rp m.on x=true:=(Uo h.wfA (Rv.1 hm).1 hx).symm
theorem Mk{a:Aut}(h:Dta a){s:Int}{o:Option Mv}(ho:o∈Wg a s){x:Sy}(hx:W2 a x)(hh:x06 a s o x):toL a s x=A4 o:=by
 rcases Un.1 ho with rfl|⟨m,hm,rfl⟩
 ·have hn:=(I5 h.ok s hx).1 hh;rcases Ff (a:=a) s x with⟨h1,_⟩|⟨m,h1,h2,h3,_⟩
  ·exact h1
  ·rw[hn m (Rv.2 ⟨h1,h2⟩)]at h3;cases h3
 ·obtain⟨h1,h2⟩:=Rv.1 hm;rw[←h2];exact h.to_of h1 hx ((Ik h.ok hm hx).1 hh)
theorem f09{a:Aut}(h:OkA a)(s:Int){x:Sy}(hx:W2 a x):∃o∈Wg a s,x06 a s o x:=by
 by_cases hn:∀m∈mvS a s,Rp m.on x=false
 ·exact⟨none,Un.2 (.inl rfl),(I5 h s hx).2 hn⟩
 ·have:∃m∈mvS a s,Rp m.on x=true:=Classical.byContradiction fun k=>hn fun m hm=>by
   cases hh:Rp m.on x with
   |false=>rfl
   |true=>exact absurd ⟨m,hm,hh⟩ k
  obtain⟨m,hm,hh⟩:=this;exact⟨some m,Un.2 (.inr ⟨m,hm,rfl⟩),(Ik h hm hx).2 hh⟩
theorem w0i{a:Aut}(h:Dta a)(s:Int):(Wg a s).Pairwise (fun o r=>∀x,W2 a x→x06 a s o x→¬x06 a s r x):=by
 unfold Wg;rw[zY,xR];refine⟨?_,List.pairwise_singleton ..,fun o ho r hr x hx h1 h2=> ?_⟩
 ·have hp:(mvS a s).Pairwise (fun m k=>m.src=k.src→∀x:Sy,W2 a x→¬(Rp m.on x=true∧Rp k.on x=true)):=h.det.filter _;refine hp.imp_of_mem fun {m k} hm hk hr x hx h1 h2=> ?_;have e:m.src=k.src:=by rw[(Rv.1 hm).2,(Rv.1 hk).2]
  exact hr e x hx ⟨(Ik h.ok hm hx).1 h1,(Ik h.ok hk hx).1 h2⟩
 ·rw[zJ.1 hr]at h2;obtain⟨m,hm,rfl⟩:=zM.1 ho;have:=(I5 h.ok s hx).1 h2 m hm;rw[(Ik h.ok hm hx).1 h1]at this;cases this
def Ny(a b:Aut)(s:Int×Int)(o r:Option Mv):Prd:=Wj (V7 a s.1 o) (V7 b s.2 r)
def y1z(a b:Aut)(s:Int×Int)(o r:Option Mv):Option (Sy×(Int×Int)):=if Wp (Ny a b s o r)then none else some (Qk (Ny a b s o r),(A4 o,A4 r))
def Z6(a b:Aut)(s:Int×Int):List (Sy×(Int×Int)):=(Wg a s.1).flatMap fun o=>(Wg b s.2).filterMap (y1z a b s o)
section
variable {a b:Aut} (ha:Dta a) (hb:Dta b) (ht:b.types=a.types) {s:Int×Int}
include ha hb ht
theorem j05{o r:Option Mv}(ho:o∈Wg a s.1)(hr:r∈Wg b s.2):PWf a.types.toNat (Ny a b s o r)∧∀t n,PM (Ny a b s o r) t n↔PM (V7 a s.1 o) t n∧PM (V7 b s.2 r) t n:=by have w1:=L0 ha.ok ho;have w2:=L0 hb.ok hr;rw[ht]at w2;exact⟨Um w1 w2.1,Ry w1.1 w2.1⟩
theorem Y6{o r:Option Mv}(ho:o∈Wg a s.1)(hr:r∈Wg b s.2){e:Sy×(Int×Int)}(he:y1z a b s o r=some e):W2 a e.1∧x06 a s.1 o e.1∧x06 b s.2 r e.1∧e.2=(A4 o,A4 r)∧∀y,W2 a y→x06 a s.1 o y→x06 b s.2 r y→e.1=y∨sLt e.1 y:=by
 obtain⟨hw,z1⟩:=j05 ha hb ht ho hr;unfold y1z at he;split at he
 ·cases he
 ·rename_i hv;obtain rfl:=Option.some.inj he;obtain⟨k1,k2,k3⟩:=F9 hw ((N2 hw).1 (by simpa using hv));obtain⟨p1,p2⟩:=(z1 _ _).1 k2;exact⟨Il.1 k1,p1,p2,rfl,fun y hy h1 h2=>k3 y (Il.2 hy) ((z1 _ _).2 ⟨h1,h2⟩)⟩
theorem g04{e:Sy×(Int×Int)}:e∈Z6 a b s↔∃o∈Wg a s.1,∃r∈Wg b s.2,y1z a b s o r=some e:=by unfold Z6;rw[xL];simp only[wM]
theorem c1u{e:Sy×(Int×Int)}(he:e∈Z6 a b s):W2 a e.1∧e.2=Tt a b s e.1:=by obtain⟨o,ho,r,hr,h⟩:=(g04 ha hb ht).1 he;obtain⟨k1,k2,k3,k4,_⟩:=Y6 ha hb ht ho hr h;refine⟨k1,?_⟩;rw[k4];unfold Tt;rw[Mk ha ho k1 k2,Mk hb hr ((Tb ht).2 k1) k3]
theorem k1y{y:Sy}(hy:W2 a y):∃e∈Z6 a b s,e.2=Tt a b s y∧(e.1=y∨sLt e.1 y):=by
 have z1:=(Tb ht).2 hy;obtain⟨o,ho,h1⟩:=f09 ha.ok s.1 hy;obtain⟨r,hr,h2⟩:=f09 hb.ok s.2 z1;obtain⟨hw,z6⟩:=j05 ha hb ht ho hr;have hv:Wp (Ny a b s o r)=false:=(N2 hw).2 ⟨_,_,(z6 _ _).2 ⟨h1,h2⟩⟩;have he:y1z a b s o r=some (Qk (Ny a b s o r),(A4 o,A4 r)):=by unfold y1z;rw[hv,if_neg (by simp)]
 refine⟨_,(g04 ha hb ht).2 ⟨o,ho,r,hr,he⟩,?_,(Y6 ha hb ht ho hr he).2.2.2.2 y hy h1 h2⟩;unfold Tt;rw[Mk ha ho hy h1,Mk hb hr z1 h2]
theorem x1r:(Z6 a b s).Pairwise (fun e e'=>e.1≠e'.1):=by
 unfold Z6;rw[List.pairwise_flatMap];refine⟨fun o ho=> ?_,(w0i ha s.1).imp_of_mem fun {o o'} ho ho' hd x hx y hy e=> ?_⟩
 ·rw[List.pairwise_filterMap];refine(w0i hb s.2).imp_of_mem fun {r r'} hr z1 hd x hx y hy e=> ?_;obtain⟨k1,_,k3,_⟩:=Y6 ha hb ht ho hr hx;obtain⟨_,_,j3,_⟩:=Y6 ha hb ht ho z1 hy;rw[←e]at j3;exact hd x.1 ((Tb ht).2 k1) k3 j3
 ·obtain⟨r,hr,h1⟩:=wM.1 hx;obtain⟨r',z1,h2⟩:=wM.1 hy;obtain⟨k1,k2,_⟩:=Y6 ha hb ht ho hr h1;obtain⟨_,j2,_⟩:=Y6 ha hb ht ho' z1 h2;rw[←e]at j2;exact hd x.1 k1 k2 j2
end
def V4(e e':Sy×(Int×Int)):Bool:= !Nc e'.1 e.1
def Ug(a b:Aut)(s:Int×Int):List (Sy×(Int×Int)):=(Z6 a b s).mergeSort V4
theorem x0o(x y z:Sy×(Int×Int))(h1:V4 x y=true)(h2:V4 y z=true):V4 x z=true:=by
 unfold V4 at *
 cases hz:Nc z.1 x.1 with
 |false=>rfl
 |true=>
  exfalso;rw[Kc]at hz;have n1:¬sLt y.1 x.1:=fun k=>by rw[(Kc _ _).2 k]at h1;simp at h1
  have n2:¬sLt z.1 y.1:=fun k=>by rw[(Kc _ _).2 k]at h2;simp at h2
  rcases sLt.tri x.1 y.1 with k|k|k
  ·exact n2 (hz.trans k)
  ·rw[k]at hz;exact n2 hz
  ·exact n1 k
theorem x0h(x y:Sy×(Int×Int)):(V4 x y || V4 y x)=true:=by
 unfold V4;cases h1:Nc y.1 x.1 with
 |false=>rfl
 |true=>
  cases h2:Nc x.1 y.1 with
  |false=>rfl
  |true=>exact absurd (((Kc _ _).1 h1).trans ((Kc _ _).1 h2)) (fun k=>sLt.irr k)
theorem K6{L:List (Sy×(Int×Int))}(hp:L.Pairwise fun x y=>V4 x y=true)(hn:L.Pairwise fun e e'=>e.1≠e'.1):L.Pairwise fun x y=>sLt x.1 y.1:=by
 refine(hp.and hn).imp fun {x y} h=> ?_;have n1:¬sLt y.1 x.1:=fun k=>by have:=h.1;unfold V4 at this;rw[(Kc _ _).2 k]at this;simp at this
 rcases sLt.tri x.1 y.1 with k|k|k
 ·exact k
 ·exact absurd k h.2
 ·exact absurd k n1
theorem M5{a b:Aut}(ha:Dta a)(hb:Dta b)(ht:b.types=a.types)(s:Int×Int):(Ug a b s).Pairwise fun x y=>sLt x.1 y.1:=by refine K6 (vS x0o x0h _) ?_;exact(wJ (Z6 a b s) V4).symm.pairwise (x1r ha hb ht) (fun {x y} h=>h.symm)
theorem Aa{a b:Aut}(ha:Dta a)(hb:Dta b)(ht:b.types=a.types)(s:Int×Int):SuccOk (W2 a) (Tt a b) s (Ug a b s):=by have hm:∀e,e∈Ug a b s↔e∈Z6 a b s:=fun e=>(wJ (Z6 a b s) V4).mem_iff;refine⟨M5 ha hb ht s,fun e he=>c1u ha hb ht ((hm e).1 he),fun y hy=> ?_⟩;obtain⟨e,he,h⟩:=k1y ha hb ht (s:=s) hy;exact⟨e,(hm e).2 he,h⟩
theorem k0t{a b:Aut}(ha:Dta a)(hb:Dta b)(ht:b.types=a.types)(s:Int×Int){L:List (Sy×(Int×Int))}(hp:L.Perm (Z6 a b s))(hs:L.Pairwise fun x y=>V4 x y=true):L=Ug a b s:=by have h1:=K6 hs (hp.symm.pairwise (x1r ha hb ht) (fun {x y} h=>h.symm));refine List.Perm.eq_of_pairwise (le:=fun x y=>sLt x.1 y.1) (fun x y _ _ k1 k2=>absurd (k1.trans k2) (fun k=>sLt.irr k)) h1 (M5 ha hb ht s) (hp.trans (wJ (Z6 a b s) V4).symm)
end Go.Abs
namespace Go.Abs
structure FirstP (ok:Sy→Prop) (P:List Sy→Bool) (w:List Sy):Prop where
 okw:∀x∈w,ok x
 hit:P w=true
 least:∀v,(∀x∈v,ok x)→P v=true→lle w v
theorem FirstP.uniq{ok:Sy→Prop}{P:List Sy→Bool}{v w:List Sy}(h:FirstP ok P v)(k:FirstP ok P w):v=w:=
 (h.least w k.okw k.hit).anti (k.least v h.okw h.hit)
theorem FirstP.congr{ok:Sy→Prop}{P Q:List Sy→Bool}{w:List Sy}(h:FirstP ok P w)(e:∀v,(∀x∈v,ok x)→P v=Q v):FirstP ok Q w:=
 ⟨h.okw,by rw[←e w h.okw];exact h.hit,fun v hv hq=>h.least v hv (by rw[e v hv];exact hq)⟩
theorem FirstP.sub{ok ok':Sy→Prop}{P:List Sy→Bool}{w:List Sy}(h:FirstP ok P w)(e:∀x,ok x↔ok' x):FirstP ok' P w:=
 ⟨fun x hx=>(e x).1 (h.okw x hx),h.hit,fun v hv hq=>h.least v (fun x hx=>(e x).2 (hv x hx)) hq⟩
theorem FirstW.toP{σ:Type}{ok:Sy→Prop}{step:σ→Sy→σ}{good:σ→Bool}{s:σ}{w:List Sy}(h:FirstW ok step good s w):FirstP ok (fun v=>good (Tq step s v)) w:=⟨h.okw,h.goodw,h.least⟩
def g09(s:Int):List Int:=if s= -1 then []else [s]
theorem c08{a:Aut}(h:Dta a){s:Int}{x:Sy}(hx:W2 a x):Qu a [s] x=g09 (toL a s x):=by
 unfold g09;rcases Ff (a:=a) s x with⟨h1,h2⟩|⟨m,m1,m2,m3,m4⟩
 ·rw[if_pos h1];refine wK.2 fun j hj=> ?_;obtain⟨_,m,hm,k1,k2,_⟩:=Wz.1 hj;rw[h2 m hm (zJ.1 k1)]at k2;cases k2
 ·have hd:=(h.ok.mv m m1).dst;rw[if_neg (by rw[m4];omega)];refine T6 (Yy ..) (by simp) fun z=> ?_;rw[Wz,zJ];constructor
  ·rintro⟨_,k,hk,k1,k2,rfl⟩;rw[←h.to_of hk hx k2,zJ.1 k1]
  ·rintro rfl;rw[m4];exact⟨hd,m,m1,by rw[m2];simp,m3,rfl⟩
theorem D4(a:Aut)(x:Sy):Qu a [] x=[]:=wK.2 fun j hj=>by obtain⟨_,m,hm,k1,_⟩:=Wz.1 hj;cases k1
theorem d0h{a:Aut}(h:Dta a):∀(w:List Sy) (s:Int),(∀x∈w,W2 a x)→Oi a (g09 s) w=g09 (stF a s w)
 |[],_,_=>rfl
 |x::w,s,hw=>by
  have hx:=hw x (by simp);have ih:=d0h h w (toL a s x) fun y hy=>hw y (by simp[hy]);show Oi a (Qu a (g09 s) x) w=g09 (stF a (toL a s x) w);rw[←ih]
  congr 1
  by_cases hs:s= -1
  ·subst hs;rw[j1b h.ok];unfold g09;rw[if_pos rfl,D4]
  ·have:g09 s=[s]:=by unfold g09;rw[if_neg hs]
   rw[this,c08 h hx]
theorem v1q(a:Aut)(s:Int):Th a (g09 s)=w0m a s:=by
 unfold g09 w0m Th;by_cases hs:s= -1
 ·rw[if_pos hs,hs];rfl
 ·rw[if_neg hs];simp[hs]
theorem k01{a:Aut}(h:Dta a){w:List Sy}(hw:∀x∈w,W2 a x):Yl a w=w0m a (stF a 0 w):=by unfold Yl;rw[←v1q,←d0h h w 0 hw];rfl
def K1(n:Nat):List Int:= -1::We n
def z08(a b:Aut):List (Int×Int):=(K1 a.fin.length).flatMap fun i=>(K1 b.fin.length).map fun j=>(i,j)
theorem Gw(a b:Aut):(z08 a b).length=(a.fin.length+1) * (b.fin.length+1):=by unfold z08;rw[vC,xU (g:=fun _=>b.fin.length+1) (fun i _=>by simp[We,K1]),vG,wY];simp[We,K1]
theorem Jv{a:Aut}{s:Int}:s∈K1 a.fin.length↔inD a s:=by unfold K1 inD;rw[zU,Wo];exact Iff.rfl
theorem Ft{a b:Aut}{s:Int×Int}(h1:inD a s.1)(h2:inD b s.2):s∈z08 a b:=by unfold z08;exact xL.2 ⟨s.1,Jv.2 h1,zM.2 ⟨s.2,Jv.2 h2,rfl⟩⟩
def C9(wn:Bool→Bool→Bool)(a b:Aut)(s:Int×Int):Bool:=wn (w0m a s.1) (w0m b s.2)
def H5(a b:Aut)(wn:Bool→Bool→Bool):Option (List Sy)×List ((Int×Int)×List Sy):=Pq (C9 wn a b) (Ug a b) ((a.fin.length+1) * (b.fin.length+1)+1) 0 [((0,0),[])]
def wnd(wn:Bool→Bool→Bool)(a b:Aut)(v:List Sy):Bool:=wn (Yl a v) (Yl b v)
theorem M9{a b:Aut}(ha:Dta a)(hb:Dta b)(ht:b.types=a.types)(wn:Bool→Bool→Bool){v:List Sy}(hv:∀x∈v,W2 a x):C9 wn a b (Tq (Tt a b) (0,0) v)=wnd wn a b v:=by rw[Uf];unfold C9 wnd;rw[k01 ha hv,k01 hb fun x hx=>(Tb ht).2 (hv x hx)]
theorem Yb{a b:Aut}(ha:Dta a)(hb:Dta b)(ht:b.types=a.types)(wn:Bool→Bool→Bool):
  (∃w L,H5 a b wn=(some w,L)∧FirstP (W2 a) (wnd wn a b) w)∨
  (∃L,H5 a b wn=(none,L)∧(L.map (·.1)).Nodup∧(∀s,s∈L.map (·.1)↔∃v,(∀x∈v,W2 a x)∧Tq (Tt a b) (0,0) v=s)∧(∀s∈L.map (·.1),inD a s.1∧inD b s.2)∧∀v,(∀x∈v,W2 a x)→wnd wn a b v=false):=by
 have hz:inD a 0∧inD b 0:=⟨.inr ⟨yJ _,by have:=ha.ok.fin;omega⟩,.inr ⟨yJ _,by have:=hb.ok.fin;omega⟩⟩
 rcases Py (ok:=W2 a) (step:=Tt a b) (good:=C9 wn a b) (succ:=Ug a b) (s0:=(0,0)) (G:=fun s=>inD a s.1∧inD b s.2) (fun s _=>Aa ha hb ht s)
  (fun s _ e he=>by
   rw[((Aa ha hb ht s).mem e he).2];exact⟨J3 ha.ok _ _,J3 hb.ok _ _⟩) (z08 a b) (fun s hs=>Ft hs.1 hs.2) ((a.fin.length+1) * (b.fin.length+1)+1) 0 [((0,0),[])] (by rw[Gw];omega) (by simp) (Oj (s0:=((0:Int),(0:Int))) hz)with⟨w,L,h1,h2⟩|⟨L,h1,h2,h3,h4⟩
 ·exact .inl ⟨w,L,h1,h2.toP.congr fun v hv=>M9 ha hb ht wn hv⟩
 ·refine .inr ⟨L,h1,h2,fun s=>⟨fun hs=> ?_,fun⟨v,hv,e⟩=> ?_⟩,fun s hs=> ?_,fun v hv=> ?_⟩
  ·obtain⟨e,he,rfl⟩:=zM.1 hs;exact⟨e.2,(h3 e he).1,(h3 e he).2.1⟩
  ·rw[←e];exact(h4 v hv).1
  ·obtain⟨e,he,rfl⟩:=zM.1 hs;exact(h3 e he).2.2
  ·rw[←M9 ha hb ht wn hv];exact(h4 v hv).2
end Go.Abs
namespace Go.Abs
theorem Kt{a:Aut}{x y:Sy}(h:∀m∈a.mv,Rp m.on x=Rp m.on y)(l:List Int):Qu a l x=Qu a l y:=by unfold Qu;refine List.filter_congr fun j _=> ?_;unfold g0f;rw[yX,xN,xN];refine exists_congr fun m=>and_congr_right fun hm=> ?_;rw[h m hm]
abbrev SS:=List Int×List Int
def Je(a b:Aut)(s:SS)(x:Sy):SS:=(Qu a s.1 x,Qu b s.2 x)
def Rz(a b:Aut)(s:SS):List (Sy×SS):=(Wt a b).map fun x=>(x,Je a b s x)
def Vq(wn:Bool→Bool→Bool)(a b:Aut)(s:SS):Bool:=wn (Th a s.1) (Th b s.2)
def k0j(a b:Aut)(wn:Bool→Bool→Bool):Option (List Sy)×List (SS×List Sy):=Pq (Vq wn a b) (Rz a b) 66050 0 [(([0],[0]),[])]
theorem x14(a b:Aut):∀(w:List Sy) (l m:List Int),Tq (Je a b) (l,m) w=(Oi a l w,Oi b m w)
 |[],_,_=>rfl
 |x::w,l,m=>x14 a b w (Qu a l x) (Qu b m x)
theorem q0e{a b:Aut}(ha:OkA a)(hb:OkA b)(ht:b.types=a.types)(s:SS):SuccOk (W2 a) (Je a b) s (Rz a b s):=by
 have hl:=x1i ha hb ht;refine⟨?_,fun e he=> ?_,fun y hy=> ?_⟩
 ·unfold Rz;exact xR.2 (hl.ascS.imp fun h=>h)
 ·obtain⟨x,hx,rfl⟩:=zM.1 he;obtain⟨c,hc,rfl⟩:=zM.1 hx;exact⟨Il.1 (hl.least hc).1,rfl⟩
 ·obtain⟨c,hc,hm,hle,z1⟩:=hl.cov (Il.2 hy);refine⟨(Qk c,Je a b s (Qk c)),zM.2 ⟨Qk c,zM.2 ⟨c,hc,rfl⟩,rfl⟩,?_,hle⟩;unfold Je;rw[Kt (fun m hm=>(z1 m.on (xC _ (Z0 hm))).symm),Kt (a:=b) (fun m hm=>(z1 m.on (vA _ (Z0 hm))).symm)]
def Sx(P Q:List (List Int)):List SS:=([]::P).flatMap fun i=>([]::Q).map fun j=>(i,j)
theorem Cv(P Q:List (List Int)):(Sx P Q).length=(P.length+1) * (Q.length+1):=by unfold Sx;rw[vC,xU (g:=fun _=>Q.length+1) (fun i _=>by simp),vG,wY];simp
theorem G3{P Q:List (List Int)}{s:SS}(h1:s.1=[]∨s.1∈P)(h2:s.2=[]∨s.2∈Q):s∈Sx P Q:=by unfold Sx;exact xL.2 ⟨s.1,zU.2 h1,zM.2 ⟨s.2,zU.2 h2,rfl⟩⟩
theorem j07{a b x y:Aut}(ha:OkA a)(hb:OkA b)(ht:b.types=a.types)(da:Rl a=(0,x))(db:Rl b=(0,y))(wn:Bool→Bool→Bool):
  (∃w L,k0j a b wn=(some w,L)∧FirstP (W2 a) (wnd wn a b) w)∨(∃L,k0j a b wn=(none,L)∧∀v,(∀z∈v,W2 a z)→wnd wn a b v=false):=by
 obtain⟨P,_,hP,z1,_⟩:=Yu ha da;obtain⟨Q,_,hQ,z6,_⟩:=Yu hb db;have step:∀(c:Aut) (cl:List Prd) (Q:List (List Int)),Sub c cl Q→Cls c cl→∀(l:List Int) (z:Sy),W2 c z→(l=[]∨l∈Q)→(Qu c l z=[]∨Qu c l z∈Q):=fun c cl Q hs hc l z hz hl=>by
  rcases hl with rfl|hl
  ·exact .inl (D4 _ _)
  ·exact hs.step hc hl hz
 have hw:∀v,Vq wn a b (Tq (Je a b) ([0],[0]) v)=wnd wn a b v:=fun v=>by rw[x14];rfl
 have hlen:(Sx P Q).length+1≤0+66050:=by have h1:=hP.lim;have h2:=hQ.lim;rw[Cv];have:=Nat.mul_le_mul (show P.length+1≤257 by omega) (show Q.length+1≤257 by omega);omega
 rcases Py (ok:=W2 a) (step:=Je a b) (good:=Vq wn a b) (succ:=Rz a b) (s0:=(([0]:List Int),([0]:List Int))) (G:=fun s=>(s.1=[]∨s.1∈P)∧(s.2=[]∨s.2∈Q)) (fun s _=>q0e ha hb ht s)
  (fun s hs e he=>by
   obtain⟨h1,h2⟩:=(q0e ha hb ht s).mem e he;rw[h2];exact⟨step _ _ _ hP z1 _ _ h1 hs.1,step _ _ _ hQ z6 _ _ ((Tb ht).2 h1) hs.2⟩) (Sx P Q) (fun s hs=>G3 hs.1 hs.2) 66050 0 [(([0],[0]),[])] hlen (by simp) (Oj (s0:=(([0]:List Int),([0]:List Int))) ⟨.inr (zF hP.first),.inr (zF hQ.first)⟩)with⟨w,L,h1,h2⟩|⟨L,h1,_,_,h4⟩
 ·exact .inl ⟨w,L,h1,h2.toP.congr fun v _=>hw v⟩
 ·exact .inr ⟨L,h1,fun v hv=>by rw[←hw v];exact(h4 v hv).2⟩
theorem K3{a b x y:Aut}(ha:OkA a)(hb:OkA b)(ht:b.types=a.types)(da:Rl a=(0,x))(db:Rl b=(0,y))(wn:Bool→Bool→Bool):(k0j a b wn).1=(H5 x y wn).1:=by
 obtain⟨_,_,_,_,_,_,xo,xd,xt,xa⟩:=Yu ha da;obtain⟨_,_,_,_,_,_,yo,yd,yt,ya⟩:=Yu hb db;have z6:y.types=x.types:=by rw[yt,xt,ht]
 have z1:∀z,W2 x z↔W2 a z:=fun z=>Tb xt;have hw:∀v,(∀z∈v,W2 a z)→wnd wn x y v=wnd wn a b v:=fun v hv=>by unfold wnd;rw[xa v hv,ya v fun z hz=>(Tb ht).2 (hv z hz)]
 rcases j07 ha hb ht da db wn with⟨w,L,h1,h2⟩|⟨L,h1,h2⟩
 ·rcases Yb ⟨xo,xd⟩ ⟨yo,yd⟩ z6 wn with⟨v,M,k1,k2⟩|⟨M,k1,_,_,_,k2⟩
  ·rw[h1,k1];have:=(k2.sub z1).congr hw;rw[this.uniq h2]
  ·exfalso;have:=k2 w fun z hz=>(z1 z).2 (h2.okw z hz);rw[hw w h2.okw,h2.hit]at this;cases this
 ·rcases Yb ⟨xo,xd⟩ ⟨yo,yd⟩ z6 wn with⟨v,M,k1,k2⟩|⟨M,k1,_,_,_,k2⟩
  ·exfalso;have hv:=fun z hz=>(z1 z).1 (k2.okw z hz);have:=h2 v hv;rw[←hw v hv,k2.hit]at this;cases this
  ·rw[h1,k1]
def neB(x y:Bool):Bool:=x != y
theorem Su{a b:Aut}(ha:Dfa a)(hb:Dfa b)(ht:b.types=a.types):(D3 a b 0 0).1=(H5 a b neB).1:=by
 have da:Dta a:=⟨ha.ok,ha.det⟩
 have db:Dta b:=⟨hb.ok,hb.det⟩
 have hz:=ha.zero;have z1:=hb.zero;have hd:∀v,(∀z∈v,W2 a z)→(q08 a 0 v≠q08 b 0 v↔wnd neB a b v=true):=fun v hv=>by unfold wnd neB;rw[ha.acc hv,hb.acc fun z hz=>(Tb ht).2 (hv z hz)];simp
 rcases k0i ha hb ht hz z1 with⟨w,h1,h2⟩|⟨h1,h2⟩
 ·have hf:FirstP (W2 a) (wnd neB a b) w:=by refine⟨h2.okw,(hd w h2.okw).1 ((Zb a b 0 0 w).1 h2.goodw),fun v hv hp=>h2.least v hv ((Zb a b 0 0 v).2 ((hd v hv).2 hp))⟩
  rcases Yb da db ht neB with⟨v,M,k1,k2⟩|⟨M,k1,_,_,_,k2⟩
  ·rw[h1,k1,hf.uniq k2]
  ·have:=k2 w hf.okw;rw[hf.hit]at this;cases this
 ·rcases Yb da db ht neB with⟨v,M,k1,k2⟩|⟨M,k1,_,_,_,k2⟩
  ·exact absurd (h2 v k2.okw) ((hd v k2.okw).2 k2.hit)
  ·rw[h1,k1]
def pLt(p q:Int×Int):Prop:=p.1<q.1∨(p.1=q.1∧p.2<q.2)
theorem pLt.irr{p:Int×Int}(h:pLt p p):False:=by unfold pLt at h;omega
theorem pLt.trans{p q r:Int×Int}(h:pLt p q)(k:pLt q r):pLt p r:=by unfold pLt at *;omega
theorem pLt.tri(p q:Int×Int):pLt p q∨p=q∨pLt q p:=by
 unfold pLt;by_cases h1:p.1=q.1
 ·by_cases h2:p.2=q.2
  ·exact .inr (.inl (Prod.ext h1 h2))
  ·omega
 ·omega
theorem Sw{L M:List (Int×Int)}(h:L.Pairwise pLt)(k:M.Pairwise pLt)(e:∀s,s∈L↔s∈M):L=M:=by
 have nd:∀ {X:List (Int×Int)},X.Pairwise pLt→X.Nodup:=fun hx=>hx.imp fun h e=>by subst e;exact h.irr
 exact List.Perm.eq_of_pairwise (le:=pLt) (fun p q _ _ h1 h2=>(h1.trans h2).irr.elim) h k ((List.perm_ext_iff_of_nodup (nd h) (nd k)).2 e)
end Go.Abs
namespace Go.Abs
def pLe(p q:Int×Int):Bool:=decide (p.1<q.1) || (decide (p.1=q.1) && decide (p.2≤q.2))
theorem j0v(p q r:Int×Int)(h:pLe p q=true)(k:pLe q r=true):pLe p r=true:=by unfold pLe at *;simp only[ww,zR,decide_eq_true_eq]at *;omega
theorem g0q(p q:Int×Int):(pLe p q || pLe q p)=true:=by unfold pLe;simp only[ww,zR,decide_eq_true_eq];omega
theorem x11{p q:Int×Int}(h:pLe p q=true)(hn:p≠q):pLt p q:=by
 unfold pLe at h;simp only[ww,zR,decide_eq_true_eq]at h;rcases pLt.tri p q with k|k|k
 ·exact k
 ·exact absurd k hn
 ·unfold pLt at k;omega
def Tw(L:List (Int×Int)):List (Int×Int):=L.mergeSort pLe
theorem Fk{L:List (Int×Int)}(h:L.Nodup):(Tw L).Pairwise pLt:=by have h1:=vS j0v g0q L;have h2:(Tw L).Nodup:=(wJ L pLe).symm.nodup h;exact(h1.and h2).imp fun h=>x11 h.1 h.2
theorem Tr{L:List (Int×Int)}{s:Int×Int}:s∈Tw L↔s∈L:=(wJ L pLe).mem_iff
theorem z0b{L M:List (Int×Int)}(h:L.Nodup)(hp:M.Perm L)(hs:M.Pairwise fun p q=>pLe p q=true):M=Tw L:=by have hn:M.Nodup:=hp.symm.nodup h;exact Sw ((hs.and hn).imp fun h=>x11 h.1 h.2) (Fk h) fun s=>by rw[Tr];exact hp.mem_iff
def k0w(a b:Aut)(s:Int×Int):Prop:=∃v,(∀x∈v,W2 a x)∧Tq (Tt a b) (0,0) v=s
def Xp(a b:Aut):List (Int×Int):=(Pq (fun _=>false) (Va a b) ((a.fin.length+1) * (b.fin.length+1)+1) 0 [((0,0),[])]).2.map (·.1)
def Yj(a b:Aut):List (Int×Int):=(H5 a b neB).2.map (·.1)
theorem y0v{a b:Aut}(ha:OkA a)(hb:OkA b)(ht:b.types=a.types):(Xp a b).Nodup∧(∀s,s∈Xp a b↔k0w a b s)∧∀s∈Xp a b,inD a s.1∧inD b s.2:=by
 have hz:inD a 0∧inD b 0:=⟨.inr ⟨yJ _,by have:=ha.fin;omega⟩,.inr ⟨yJ _,by have:=hb.fin;omega⟩⟩
 rcases Py (ok:=W2 a) (step:=Tt a b) (good:=fun _=>false) (succ:=Va a b) (s0:=((0:Int),(0:Int))) (G:=fun s=>inD a s.1∧inD b s.2) (fun s _=>Pd ha hb ht s)
  (fun s _ e he=>by
   rw[((Pd ha hb ht s).mem e he).2];exact⟨J3 ha _ _,J3 hb _ _⟩) (z08 a b) (fun s hs=>Ft hs.1 hs.2) ((a.fin.length+1) * (b.fin.length+1)+1) 0 [((0,0),[])] (by rw[Gw];omega) (by simp) (Oj (s0:=((0:Int),(0:Int))) hz)with⟨w,L,_,h2⟩|⟨L,h1,h2,h3,h4⟩
 ·exact absurd h2.goodw (by simp)
 ·unfold Xp;rw[h1];refine⟨h2,fun s=>⟨fun hs=> ?_,fun⟨v,hv,e⟩=>by rw[←e];exact(h4 v hv).1⟩,fun s hs=> ?_⟩
  ·obtain⟨e,he,rfl⟩:=zM.1 hs;exact⟨e.2,(h3 e he).1,(h3 e he).2.1⟩
  ·obtain⟨e,he,rfl⟩:=zM.1 hs;exact(h3 e he).2.2
theorem Hb{a b:Aut}(ha:Dta a)(hb:Dta b)(ht:b.types=a.types)(hn:(H5 a b neB).1=none):(Yj a b).Nodup∧Tw (Yj a b)=Tw (Xp a b)∧∀s,s∈Yj a b↔k0w a b s:=by
 obtain⟨r1,r2,_⟩:=y0v ha.ok hb.ok ht;rcases Yb ha hb ht neB with⟨w,L,h1,_⟩|⟨L,h1,h2,h3,_⟩
 ·rw[h1]at hn;cases hn
 ·have e:Yj a b=L.map (·.1):=by unfold Yj;rw[h1]
  have e2:∀s,s∈Yj a b↔k0w a b s:=fun s=>by rw[e];exact h3 s
  have n1:(Yj a b).Nodup:=by rw[e];exact h2
  exact⟨n1,Sw (Fk n1) (Fk r1) (fun s=>by rw[Tr,Tr,r2 s,e2 s]),e2⟩
def Vn(a b:Aut)(s:Int×Int):Bool:=a.fin.getD s.1.toNat false==b.fin.getD s.2.toNat false
def H9(a b:Aut)(l:List (Int×Int)):Bool:=decide ((0,0)∈l) && l.all fun s=>Vn a b s && (Va a b s).all fun e=>decide (e.2∈l)
def Dw(a b:Aut)(l:List (Int×Int)):Bool:=(l.all fun s=>Vn a b s && (Ug a b s).all fun e=>decide (e.2∈l)) && decide ((0,0)∈l)
theorem D6{a b:Aut}{s:Int×Int}{L:List (Sy×(Int×Int))}(h:SuccOk (W2 a) (Tt a b) s L)(l:List (Int×Int)):(L.all fun e=>decide (e.2∈l))=true↔∀y,W2 a y→Tt a b s y∈l:=by
 rw[zP];constructor
 ·intro k y hy;obtain⟨e,he,e1,_⟩:=h.cov y hy;rw[←e1];simpa using k e he
 ·intro k e he;obtain⟨h1,h2⟩:=h.mem e he;rw[h2];simpa using k e.1 h1
theorem Zy{a b:Aut}(ha:OkA a)(hb:OkA b)(ht:b.types=a.types)(l:List (Int×Int)):H9 a b l=true↔(0,0)∈l∧∀s∈l,Vn a b s=true∧∀y,W2 a y→Tt a b s y∈l:=by
 unfold H9;rw[zR,decide_eq_true_eq,zP];refine and_congr_right fun _=>⟨fun h s hs=> ?_,fun h s hs=> ?_⟩
 ·have:=h s hs;rw[zR]at this;exact⟨this.1,(D6 (Pd ha hb ht s) l).1 this.2⟩
 ·rw[zR];exact⟨(h s hs).1,(D6 (Pd ha hb ht s) l).2 (h s hs).2⟩
theorem g0z{a b:Aut}(ha:Dta a)(hb:Dta b)(ht:b.types=a.types)(l:List (Int×Int)):Dw a b l=H9 a b l:=by
 rw[yX,Zy ha.ok hb.ok ht];unfold Dw;rw[zR,decide_eq_true_eq,zP];rw[and_comm];refine and_congr_right fun _=>⟨fun h s hs=> ?_,fun h s hs=> ?_⟩
 ·have:=h s hs;rw[zR]at this;exact⟨this.1,(D6 (Aa ha hb ht s) l).1 this.2⟩
 ·rw[zR];exact⟨(h s hs).1,(D6 (Aa ha hb ht s) l).2 (h s hs).2⟩
theorem z0w{a b:Aut}(ha:Dfa a)(hb:Dfa b)(ht:b.types=a.types){l:List (Int×Int)}(h:H9 a b l=true):∀w,(∀x∈w,W2 a x)→Yl a w=Yl b w:=by
 obtain⟨h0,hc⟩:=(Zy ha.ok hb.ok ht l).1 h;have key:∀(w:List Sy) (s:Int×Int),s∈l→(∀x∈w,W2 a x)→Tq (Tt a b) s w∈l:=by
  intro w;induction w with
  |nil=>intro s hs _;exact hs
  |cons x w ih=>intro s hs hw;exact ih _ ((hc s hs).2 x (hw x (by simp))) fun y hy=>hw y (by simp[hy])
 intro w hw;have hm:=(hc _ (key w (0,0) h0 hw)).1;rw[Uf]at hm;rw[ha.acc hw,hb.acc fun x hx=>(Tb ht).2 (hw x hx)];unfold Vn at hm;exact beq_iff_eq.1 hm
theorem C8{a b:Aut}(ha:Dfa a)(hb:Dfa b)(ht:b.types=a.types)(hn:(H5 a b neB).1=none):H9 a b (Tw (Yj a b))=true:=by
 have da:Dta a:=⟨ha.ok,ha.det⟩
 have db:Dta b:=⟨hb.ok,hb.det⟩
 obtain⟨_,_,hr⟩:=Hb da db ht hn;have z1:∀v,(∀x∈v,W2 a x)→wnd neB a b v=false:=by
  rcases Yb da db ht neB with⟨w,L,h1,_⟩|⟨L,_,_,_,_,h2⟩
  ·rw[h1]at hn;cases hn
  ·exact h2
 rw[Zy ha.ok hb.ok ht];refine⟨by rw[Tr,hr];exact⟨[],by simp,rfl⟩,fun s hs=> ?_⟩;rw[Tr,hr]at hs;obtain⟨v,hv,e⟩:=hs;refine⟨?_,fun y hy=> ?_⟩
 ·have:=z1 v hv;unfold wnd neB at this;rw[ha.acc hv,hb.acc fun x hx=>(Tb ht).2 (hv x hx)]at this;rw[Uf]at e;rw[←e];unfold Vn;unfold q08 at this;simpa using this
 ·rw[Tr,hr];refine⟨v++[y],fun x hx=>(zO.1 hx).elim (hv x) (fun k=>by rw[zJ.1 k];exact hy),?_⟩;rw[←e];simp[Tq,x_]
end Go.Abs
namespace Go.Abs
def c0m(b:Aut)(p:Int):List Sy→Prop
 |[]=>b.fin.getD p.toNat false=true
 |x::w=>∃q,q∈Qu b [p] x∧c0m b q w
theorem Jn{b:Aut}{l:List Int}{x:Sy}{q:Int}:q∈Qu b l x↔∃p∈l,q∈Qu b [p] x:=by
 rw[Wz];constructor
 ·rintro⟨h0,m,hm,h1,h2,h3⟩;exact⟨m.src,h1,Wz.2 ⟨h0,m,hm,by simp,h2,h3⟩⟩
 ·rintro⟨p,hp,hq⟩;obtain⟨h0,m,hm,h1,h2,h3⟩:=Wz.1 hq;rw[zJ]at h1;exact⟨h0,m,hm,by rw[h1];exact hp,h2,h3⟩
theorem Ci(b:Aut):∀(w:List Sy) (l:List Int),Th b (Oi b l w)=true↔∃p∈l,c0m b p w
 |[],l=>by show Th b l=true↔_;unfold Th;rw[xN];exact Iff.rfl
 |x::w,l=>by
  show Th b (Oi b (Qu b l x) w)=true↔_;rw[Ci b w];constructor
  ·rintro⟨q,hq,h⟩;obtain⟨p,hp,z1⟩:=Jn.1 hq;exact⟨p,hp,q,z1,h⟩
  ·rintro⟨p,hp,q,hq,h⟩;exact⟨q,Jn.2 ⟨p,hp,hq⟩,h⟩
def dB(a b:Aut)(s:Int×List Int)(d:Nat):Prop:=∃w:List Sy,w.length=d∧(∀x∈w,W2 a x)∧c0m b s.1 w∧Th a (Oi a s.2 w)=false
def mB(a b:Aut)(s:Int×List Int)(d:Nat):Prop:=dB a b s d∧∀k,k<d→¬dB a b s k
theorem u1o{a b:Aut}{s:Int×List Int}{d k:Nat}(h:mB a b s d)(h':mB a b s k):d=k:=by
 rcases vY d k with hlt|e|hlt
 ·exact absurd h.1 (h'.2 d hlt)
 ·exact e
 ·exact absurd h'.1 (h.2 k hlt)
theorem d1v{a b:Aut}{s:Int×List Int}:∀(d:Nat),dB a b s d→∃k,k≤d∧mB a b s k:=by
 intro d;induction d using Nat.strongRecOn with
 |_ d ih=>
  intro h;by_cases hk:∃k,k<d∧dB a b s k
  ·obtain⟨k,h1,h2⟩:=hk;obtain⟨j,h3,h4⟩:=ih k h1 h2;exact⟨j,by omega,h4⟩
  ·exact⟨d,zK _,h,fun k h1 h2=>hk ⟨k,h1,h2⟩⟩
def gB(b:Aut)(Q:List (List Int))(s:Int×List Int):Prop:=inS b s.1∧(s.2=[]∨s.2∈Q)
section
variable {a b:Aut} {Q:List (List Int)} (hst:∀l∈Q,∀x,W2 a x→Qu a l x=[]∨Qu a l x∈Q)
include hst
theorem u1l{s:Int×List Int}(hs:gB b Q s){d:Nat}(h:mB a b s (d+1)):∃s',gB b Q s'∧mB a b s' d:=by
 obtain⟨⟨w,hw,ho,h1,h2⟩,z1⟩:=h;cases w with
 |nil=>cases hw
 |cons x w=>
  obtain⟨q,hq,h3⟩:=h1;have hx:=ho x (by simp);refine⟨(q,Qu a s.2 x),⟨⟨(Tz q hq).1,(Tz q hq).2⟩,?_⟩,⟨w,by simpa using hw,fun y hy=>ho y (by simp[hy]),h3,h2⟩,fun k hk hd=> ?_⟩
  ·rcases hs.2 with h|h
   ·rw[h];exact .inl (D4 a x)
   ·exact hst _ h x hx
  ·obtain⟨v,hv,z6,v1,v2⟩:=hd;exact z1 (k+1) (by omega) ⟨x::v,by simp[hv],fun y hy=>(zU.1 hy).elim (fun e=>by rw[e];exact hx) (z6 y),⟨q,hq,v1⟩,v2⟩
theorem x13:∀(k d:Nat) (s:Int×List Int),gB b Q s→mB a b s (d+k)→∃s',gB b Q s'∧mB a b s' d
 |0,_,s,hs,h=>⟨s,hs,h⟩
 |k+1,d,s,hs,h=>by obtain⟨s',h1,h2⟩:=u1l hst hs (d:=d+k) h;exact x13 k d s' h1 h2
theorem y1g{s:Int×List Int}(hs:gB b Q s){d:Nat}(h:mB a b s d):d+1≤b.fin.length * (Q.length+1):=by
 have hex:∀k,∃t:Int×List Int,k≤d→gB b Q t∧mB a b t k:=fun k=>by
  by_cases hk:k≤d
  ·obtain⟨t,h1,h2⟩:=x13 hst (d - k) k s hs (by rw[show k+(d - k)=d by omega];exact h);exact⟨t,fun _=>⟨h1,h2⟩⟩
  ·exact⟨s,fun h=>absurd h hk⟩
 obtain⟨f,hf⟩:=Classical.axiomOfChoice hex;have hU:∀t,gB b Q t→t∈(We b.fin.length).flatMap fun i=>([]::Q).map fun j=>(i,j):=fun t ht=>
  xL.2 ⟨t.1,Wo.2 ht.1,zM.2 ⟨t.2,zU.2 ht.2,rfl⟩⟩
 have hlen:((We b.fin.length).flatMap fun i=>([]::Q).map fun j=>(i,j)).length=b.fin.length * (Q.length+1):=by rw[vC,xU (g:=fun _=>Q.length+1) (fun i _=>by simp),vG,wY];simp[We]
 have hn:((yA (d+1)).map f).Nodup:=by unfold List.Nodup;rw[xR];refine(List.nodup_range (n:=d+1)).imp_of_mem fun {i j} hi hj hij e=> ?_;have h1:=(hf i (by have:=yM.1 hi;omega)).2;have h2:=(hf j (by have:=yM.1 hj;omega)).2;rw[e]at h1;exact hij (u1o h1 h2)
 have:=hn.length_le_of_subset (l₂:=(We b.fin.length).flatMap fun i=>([]::Q).map fun j=>(i,j)) fun t ht=>by obtain⟨i,hi,rfl⟩:=zM.1 ht;exact hU _ (hf i (by have:=yM.1 hi;omega)).1
 rw[zV,List.length_range,hlen]at this;exact this
end
theorem j0h{v w:List Sy}(h:lle v w):v.length≤w.length:=by
 rcases h with rfl|h|h
 ·exact zK _
 ·omega
 ·omega
def d0y(x y:Bool):Bool:=y && !x
end Go.Abs
namespace Go.Abs
def z2r:List Iv→List Iv→Option Int
 |x::l,y::m=>if max x.lo y.lo≤min x.hi y.hi then some (max x.lo y.lo)else if x.hi<y.hi then z2r l (y::m)else z2r (x::l) m
 |_,_=>none
termination_by l m=>l.length+m.length
theorem c17{x:Iv}{l:List Iv}(h:Sep (x::l)):∀n,M l n→x.hi<n:=by rintro n ⟨y,hy,h1,h2⟩;have:=(z_.1 h.2).1 y hy;omega
theorem Uu{x:Iv}{l:List Iv}{n:Int}:M (x::l) n↔(x.lo≤n∧n≤x.hi)∨M l n:=by
 constructor
 ·rintro⟨y,hy,h⟩;rcases zU.1 hy with rfl|hy
  ·exact .inl h
  ·exact .inr ⟨y,hy,h⟩
 ·rintro(h|⟨y,hy,h⟩)
  ·exact⟨x,by simp,h⟩
  ·exact⟨y,by simp[hy],h⟩
theorem f0o{n:Int}:¬M [] n:=by rintro⟨y,hy,_⟩;cases hy
theorem y1a{x:Iv}{l:List Iv}(h:Sep (x::l)):Sep l:=⟨fun y hy=>h.1 y (by simp[hy]),(z_.1 h.2).2⟩
def lqB(p q:Prd):Nat→Nat→Option Sy
 |0,_=>none
 |f+1,t=>match z2r (p.getD t []) (q.getD t [])with
  |some n=>some ⟨t,n⟩
  |none=>lqB p q f (t+1)
def Ce(p q:Prd):Option Sy:=if Wp (Wj p q)then none else some (Qk (Wj p q))
theorem Ln{p:Prd}{t:Nat}{n:Int}:PM p t n↔M (p.getD t []) n:=by
 constructor
 ·rintro⟨s,hs,h⟩;simpa[yQ,hs]using h
 ·intro h;by_cases ht:t<p.length
  ·rw[Wv ht]at h;exact⟨_,List.getElem?_eq_getElem ht,h⟩
  ·rw[show p.getD t []=[] by simp[yQ,List.getElem?_eq_none (by omega:p.length≤t)]]at h;exact absurd h f0o
end Go.Abs
namespace Go.Abs
def Is(a:Aut):Int:=if Wl a≠0 then Wl a else if Vy a=false∨V1 a=false then 3 else 0
theorem Ui(a:Aut):Is a=0↔Dfa a:=by
 unfold Is;by_cases h:Wl a=0
 ·have z1:=(Ic a).1 h;rw[if_neg (fun k=>k h)];have h1:=Nl z1.wfA;have h2:V1 a=true↔q1i a:=by rw[←y1d z1.wfA,Ca];unfold V1;rw[zP];simp only[yM];exact forall_congr' fun s=>forall_congr' fun _=>by rw[u17 z1.wfA]
  constructor
  ·intro k;split at k
   ·cases k
   ·rename_i hn;refine⟨z1,h1.1 ?_,h2.1 ?_⟩
    ·cases hs:Vy a
     ·exact absurd (.inl hs) hn
     ·rfl
    ·cases hs:V1 a
     ·exact absurd (.inr hs) hn
     ·rfl
  ·intro k;rw[if_neg];rintro(hs|hs)
   ·rw[h1.2 k.det]at hs;cases hs
   ·rw[h2.2 k.full]at hs;cases hs
 ·rw[if_pos h];exact⟨fun k=>absurd k h,fun k=>absurd ((Ic a).2 k.ok) h⟩
end Go.Abs
namespace Go.Abs
open Go Go.Proofs
attribute [simp] T68 T70 T87 T73 T23 T22 T25 T52 T26 T88
@[simp] def encP (p:Prd):AV:= .agg [.list (p.map encL)]
abbrev LP (l:List Prd):AV:= .list (l.map encP)
@[simp] def encSy (x:Sy):AV:= .agg [.i x.ty,.i x.num]
@[simp] def encMv (m:Mv):AV:= .agg [.i m.src,.i m.dst,.list (m.on.map encL)]
@[simp] def encA (a:Aut):AV:= .agg [.i a.types,.list (a.fin.map .bool),.list (a.mv.map encMv)]
attribute [local irreducible] ckR
theorem Hq(T:Int)(p:Prd):PC Tryz.prog 58 [.i T,encP p] (fun r=>r= .i (Em T p)):=by
 refine Qh tOk Tryz.func58 rfl Tryz.results58 rfl (by simp[Tryz.ntmps58]) ?_;rw[Tryz.ntmps58];simp only[Qe];simp only[encP];refine Wk 1 0 rfl rfl (fun hlen=> ?_);rw[zV]at hlen;repeat first|(refine r_ ?_;simp)|refine q_ ?_
 refine Qa rfl (fun h=> ?_) (fun h=> ?_)
 ·repeat first|(refine r_ ?_;simp)|refine q_ ?_
  rw[Em,if_pos (by simpa using h)]
 have h':¬(T<1∨16<T):=by simpa using h
 repeat first|(refine r_ ?_;simp)|refine q_ ?_
 refine Qa rfl (fun h2=> ?_) (fun h2=> ?_)
 ·repeat first|(refine r_ ?_;simp)|refine q_ ?_
  rw[Em,if_neg h',if_pos (by simpa using h2)]
 have z7:(p.length:Int)=T:=by simpa using h2
 have hE:Em T p=y0w p:=by rw[Em,if_neg h',if_neg (by simpa using z7)]
 rw[hE];repeat first|(refine r_ ?_;simp)|refine q_ ?_
 refine Qs p.length (fun j=>y0w p=y0w (p.drop j)) (fun j=>[(22,.list (p.map encL)),(23,.i p.length),(24,.i j)]) (fun _=>[]) rfl (by simp) (by simp) (by simp) (by simp) (by simp) ?_;intro j hj hI ih;repeat first|(refine r_ ?_;simp)|refine q_ ?_
 refine Qa rfl (fun z8=> ?_) (fun za=> ?_)
 ·have z1:j<p.length:=by simpa using z8
  have hw:IntKind.i64.wrap ((j:Int)+1)=j+1:=wrap_i64 _ (by omega) (by omega);rw[Wu z1,y0w]at hI;repeat first|(refine r_ ?_;simp[z1])|refine q_ ?_
  refine Qd rfl rfl (by simp) (w0j p[j]) rfl ?_;rintro _ rfl;simp;repeat first|(refine r_ ?_;simp)|refine q_ ?_
  refine Qa rfl (fun h3=> ?_) (fun h3=> ?_)
  ·repeat first|(refine r_ ?_;simp)|refine q_ ?_
   rw[hI,if_pos (by simpa using h3)]
  rw[if_neg (by simpa using h3)]at hI;repeat first|(refine r_ ?_;simp[hw])|refine q_ ?_
  refine Qr _ (ih z1 hI) rfl (by simp) ?_ (by simp) (by simp);simp
 ·have z6:j=p.length:=by simp at za;omega
  subst z6;repeat first|(refine r_ ?_;simp)|refine q_ ?_
  rw[hI,yU];rfl
theorem J2(T:Int)(p:Prd):PC Tryz.prog 158 [.i T,encP p] (fun r=>r= .i (Em T p)):=by
 refine Qh tOk Tryz.func158 rfl Tryz.results158 rfl (by simp[Tryz.ntmps158]) ?_;rw[Tryz.ntmps158];simp only[Qe];simp only[encP];refine Wk 1 0 rfl rfl (fun hlen=> ?_);rw[zV]at hlen;repeat first|(refine r_ ?_;simp)|refine q_ ?_
 refine Qa rfl (fun h=> ?_) (fun h=> ?_)
 ·repeat first|(refine r_ ?_;simp)|refine q_ ?_
  rw[Em,if_pos (by simpa using h)]
 have h':¬(T<1∨16<T):=by simpa using h
 repeat first|(refine r_ ?_;simp)|refine q_ ?_
 refine Qa rfl (fun h2=> ?_) (fun h2=> ?_)
 ·repeat first|(refine r_ ?_;simp)|refine q_ ?_
  rw[Em,if_neg h',if_pos (by simpa using h2)]
 have z7:(p.length:Int)=T:=by simpa using h2
 have hE:Em T p=y0w p:=by rw[Em,if_neg h',if_neg (by simpa using z7)]
 rw[hE];repeat first|(refine r_ ?_;simp)|refine q_ ?_
 refine Qs p.length (fun j=>y0w p=y0w (p.drop j)) (fun j=>[(0,.i T),(3,.vptr 0 0),(5,.i j)]) (fun _=>[.vars [.list (p.map encL)]]) rfl (by simp) (by simp) (by simp) (by simp) (by simp) ?_;intro j hj hI ih;repeat first|(refine r_ ?_;simp)|refine q_ ?_
 refine Qa rfl (fun z8=> ?_) (fun za=> ?_)
 ·have z1:j<p.length:=by have k:(j:Int)<T:=(by simpa using z8);omega
  have hw:IntKind.i64.wrap ((j:Int)+1)=j+1:=wrap_i64 _ (by omega) (by omega);rw[Wu z1,y0w]at hI;repeat first|(refine r_ ?_;simp[z1])|refine q_ ?_
  refine Qd rfl rfl (by simp) (u0f p[j]) rfl ?_;rintro _ rfl;simp;repeat first|(refine r_ ?_;simp)|refine q_ ?_
  refine Qa rfl (fun h3=> ?_) (fun h3=> ?_)
  ·repeat first|(refine r_ ?_;simp)|refine q_ ?_
   rw[hI,if_pos (by simpa using h3)]
  rw[if_neg (by simpa using h3)]at hI;repeat first|(refine r_ ?_;simp[hw])|refine q_ ?_
  refine Qr _ (ih z1 hI) rfl (by simp) ?_ (by simp) (by simp);simp
 ·have z6:j=p.length:=by have k:¬(j:Int)<T:=(by simpa using za);omega
  subst z6;repeat first|(refine r_ ?_;simp)|refine q_ ?_
  rw[hI,yU];rfl
end Go.Abs
namespace Go.Abs
open Go Go.Proofs
def H4:List Prd→Int
 |[]=>0
 |p::r=>if Em p.length p≠0 then Em p.length p else H4 r
attribute [local irreducible] Em
theorem J0(l:List Prd):PC Tryz.prog 102 [LP l] (fun r=>r= .i (H4 l)):=by
 refine Qh tOk Tryz.func102 rfl Tryz.results102 rfl (by simp[Tryz.ntmps102]) ?_;rw[Tryz.ntmps102];simp only[Qe];refine R9 0 rfl (fun hlen=> ?_);rw[zV]at hlen;repeat first|(refine r_ ?_;simp)|refine q_ ?_
 refine Qs l.length (fun j=>H4 l=H4 (l.drop j)) (fun j=>[(6,LP l),(7,.i l.length),(8,.i j)]) (fun _=>[]) rfl (by simp) (by simp) (by simp) (by simp) (by simp) ?_;intro j hj hI ih;repeat first|(refine r_ ?_;simp)|refine q_ ?_
 refine Qa rfl (fun z7=> ?_) (fun z8=> ?_)
 ·have z1:j<l.length:=by simpa using z7
  have hw:IntKind.i64.wrap ((j:Int)+1)=j+1:=wrap_i64 _ (by omega) (by omega);rw[Wu z1,H4]at hI;repeat first|(refine r_ ?_;simp[z1])|refine q_ ?_
  refine Qd rfl rfl (by simp) (Hq l[j].length l[j]) rfl ?_;rintro _ rfl;simp;repeat first|(refine r_ ?_;simp)|refine q_ ?_
  refine Qa rfl (fun h3=> ?_) (fun h3=> ?_)
  ·repeat first|(refine r_ ?_;simp)|refine q_ ?_
   rw[hI,if_pos (by simpa using h3)]
  rw[if_neg (by simpa using h3)]at hI;repeat first|(refine r_ ?_;simp[hw])|refine q_ ?_
  refine Qr _ (ih z1 hI) rfl (by simp) ?_ (by simp) (by simp);simp
 ·have z6:j=l.length:=by simp at z8;omega
  subst z6;repeat first|(refine r_ ?_;simp)|refine q_ ?_
  rw[hI,yU];rfl
def d0j(p:Prd)(x:Sy):Int:=if H4 [p]≠0 then H4 [p]else F0 p.length x
def Z8(p:Prd)(x:Sy):Bool×Int:=if d0j p x≠0 then(false,d0j p x)else(Rp p x,0)
attribute [local irreducible] H4 w18
theorem x1k{T:Int}{p:Prd}(h:Em T p=0):H4 [p]=0∧(p.length:Int)=T:=by
 obtain⟨h1,h2⟩:=(W9 T p).1 h;have hl:(p.length:Int)=T:=by have:=h2.1;omega
 exact⟨by unfold H4;rw[hl,if_neg (fun k=>k h)];unfold H4;rfl,hl⟩
theorem j0o{p:Prd}(h:H4 [p]=0):∀s∈p,CanonL s:=by
 unfold H4 at h;by_cases hc:Em p.length p=0
 ·exact((W9 _ p).1 hc).2.2
 ·rw[if_pos hc]at h;exact absurd h hc
theorem Tm(p:Prd)(x:Sy):PC Tryz.prog 43 [encP p,encSy x] (fun r=>r= .tup [.bool (Z8 p x).1,.i (Z8 p x).2]):=by
 refine Qh tOk Tryz.func43 rfl Tryz.results43 rfl (by simp[Tryz.ntmps43]) ?_;rw[Tryz.ntmps43];simp only[Qe];simp only[encP,encSy];refine Wk 0 0 rfl rfl (fun hlen=> ?_);rw[zV]at hlen;repeat first|(refine r_ ?_;simp)|refine q_ ?_
 refine Iy 2 rfl ?_;simp;refine Qd rfl rfl (by simp) (J0 [p]) rfl ?_;rintro _ rfl;simp;repeat first|(refine r_ ?_;simp)|refine q_ ?_
 refine Qa rfl (fun h=> ?_) (fun h=> ?_)
 ·repeat first|(refine r_ ?_;simp)|refine q_ ?_
  have h':H4 [p]≠0:=by simpa using h
  have hE:d0j p x=H4 [p]:=by rw[d0j,if_pos h']
  rw[Z8,hE,if_pos h'];exact⟨rfl,rfl⟩
 have h':H4 [p]=0:=by simpa using h
 have hE:d0j p x=F0 p.length x:=by rw[d0j,if_neg (fun k=>k h')]
 repeat first|(refine r_ ?_;simp)|refine q_ ?_
 refine Qa rfl (fun h1=> ?_) (fun h1=> ?_)
 ·repeat first|(refine r_ ?_;simp)|refine q_ ?_
  have z6:x.ty<0∨(p.length:Int)≤x.ty:=by simpa using h1
  have z1:d0j p x=6:=by rw[hE,F0,if_pos z6]
  rw[Z8,z1];exact⟨rfl,rfl⟩
 have z6:¬(x.ty<0∨(p.length:Int)≤x.ty):=by simpa using h1
 repeat first|(refine r_ ?_;simp)|refine q_ ?_
 refine Qa rfl (fun h2=> ?_) (fun h2=> ?_)
 ·repeat first|(refine r_ ?_;simp)|refine q_ ?_
  have z7:x.num< -1099511627776∨1099511627776<x.num:=by simpa using h2
  have z1:d0j p x=2:=by rw[hE,F0,if_neg z6,if_pos z7]
  rw[Z8,z1];exact⟨rfl,rfl⟩
 have z7:¬(x.num< -1099511627776∨1099511627776<x.num):=by simpa using h2
 have z1:d0j p x=0:=by rw[hE,F0,if_neg z6,if_neg z7]
 repeat first|(refine r_ ?_;simp)|refine q_ ?_
 have zb:0≤x.ty:=by omega
 have zc:x.ty<(p.length:Int):=by omega
 have z8:x.ty.toNat<p.length:=by omega
 refine Qn tOk mixed [] (.val 0 (.val 1 (.val 2 (.val 3 (.val 4 (.val 5 (.val 6 (.val 7 (.one 8 (.val 9 (.val 10 (.val 11 (.val 12 (.done)))))))))))))) rfl (by kernel_rfl) ?_;simp[zb,zc,z8];refine Qd rfl rfl (by simp) (Gn p[x.ty.toNat] x.num) rfl ?_;rintro _ rfl;simp;repeat first|(refine r_ ?_;simp)|refine q_ ?_
 have hc:=j0o h' _ (zG z8);have za:w18 p[x.ty.toNat] x.num=(O5 p[x.ty.toNat] x.num,0):=by rw[w18,if_pos ((Co _).2 hc)]
 rw[Z8,z1,if_neg (fun k=>k rfl),za];refine⟨?_,rfl⟩;simp[Rp,zb,zc,yQ,z8]
theorem Nu{T:Int}{p:Prd}(h:Em T p=0)(x:Sy):Z8 p x=if F0 T x≠0 then(false,F0 T x)else(Rp p x,0):=by
 obtain⟨h1,h2⟩:=x1k h;have hE:d0j p x=F0 T x:=by rw[d0j,if_neg (fun k=>k h1),h2]
 rw[Z8,hE]
end Go.Abs
namespace Go.Abs
open Go Go.Proofs
abbrev Qp (a:Aut):List AV:=[.i a.types,.list (a.fin.map .bool),.list (a.mv.map encMv)]
theorem u1q(p:Prd)(x:Sy):PC Tryz.prog 170 [encP p,encSy x] (fun r=>r= .bool ((Z8 p x).2==0 && (Z8 p x).1)):=by
 refine Qh tOk Tryz.func170 rfl Tryz.results170 rfl (by simp[Tryz.ntmps170]) ?_;rw[Tryz.ntmps170];simp only[Qe];simp only[encP,encSy];repeat first|(refine r_ ?_;simp)|refine q_ ?_
 refine Qd rfl rfl (by simp) (Tm p x) rfl ?_;rintro _ rfl;simp;repeat first|(refine r_ ?_;simp)|refine q_ ?_
theorem Vp(p:Prd)(x:Sy):PC Tryz.prog 45 [encP p,encSy x] (fun r=>r= .bool ((Z8 p x).1 && (Z8 p x).2==0)):=by
 refine Qh tOk Tryz.func45 rfl Tryz.results45 rfl (by simp[Tryz.ntmps45]) ?_;rw[Tryz.ntmps45];simp only[Qe];simp only[encP,encSy];repeat first|(refine r_ ?_;simp)|refine q_ ?_
 refine Qd rfl rfl (by simp) (Tm p x) rfl ?_;rintro _ rfl;simp;repeat first|(refine r_ ?_;simp)|refine q_ ?_
def stB(a:Aut)(n:Int):Bool:=decide (0≤n) && decide (n<a.fin.length)
theorem L7(a:Aut)(n:Int):stB a n=true↔0≤n∧n<a.fin.length:=by simp[stB]
theorem Zc(H:List AObj)(id:Nat)(a:Aut)(hid:H[id]? =some (.vars (Qp a)))(n:Int):FC Tryz.prog 98 [.i n,.vptr id 0] H (fun r H'=>r= .bool (stB a n)∧H'=H):=by refine El tOk Tryz.func98 rfl Tryz.results98 rfl (by simp[Tryz.ntmps98]) ?_;rw[Tryz.ntmps98];simp only[Qe];repeat first|(refine r_ ?_;simp[hid,stB])|refine q_ ?_
attribute [local irreducible] Em stB
theorem I7(a:Aut):PC Tryz.prog 41 [encA a] (fun r=>r= .i (Wl a)):=by
 refine Qh tOk Tryz.func41 rfl Tryz.results41 rfl (by simp[Tryz.ntmps41]) ?_;rw[Tryz.ntmps41];simp only[Qe];simp only[encA];refine Wk 0 1 rfl rfl (fun z7=> ?_);refine Wk 0 2 rfl rfl (fun z8=> ?_);rw[zV]at z7 z8;repeat first|(refine r_ ?_;simp)|refine q_ ?_
 refine Qa rfl (fun h=> ?_) (fun h=> ?_)
 ·repeat first|(refine r_ ?_;simp)|refine q_ ?_
  rw[Wl,if_pos (by simpa using h)]
 have h1:¬(a.types<1∨16<a.types):=by simpa using h
 repeat first|(refine r_ ?_;simp)|refine q_ ?_
 refine Qa rfl (fun h=> ?_) (fun h=> ?_)
 ·repeat first|(refine r_ ?_;simp)|refine q_ ?_
  rw[Wl,if_neg h1,if_pos];simp at h;omega
 have h2:¬(a.fin.length<1∨256<a.fin.length∨2048<a.mv.length):=by simp at h;omega
 have hE:Wl a=z0f a.types a.fin.length a.mv:=by rw[Wl,if_neg h1,if_neg h2]
 rw[hE];repeat first|(refine r_ ?_;simp)|refine q_ ?_
 refine Qs a.mv.length (fun j=>z0f a.types a.fin.length a.mv=z0f a.types a.fin.length (a.mv.drop j)) (fun j=>[(1,.vptr 0 0),(3,.fn (.func 98) [] [.vptr 0 0]),(33,.list (a.mv.map encMv)),(34,.i a.mv.length),(35,.i j)]) (fun _=>[.vars (Qp a)]) rfl (by simp) (by simp) (by simp) (by simp) (by simp) ?_;intro j hj hI ih;repeat first|(refine r_ ?_;simp)|refine q_ ?_
 refine Qa rfl (fun za=> ?_) (fun zb=> ?_)
 ·have z1:j<a.mv.length:=by simpa using za
  have hw:IntKind.i64.wrap ((j:Int)+1)=j+1:=wrap_i64 _ (by omega) (by omega);rw[Wu z1,z0f]at hI;repeat first|(refine r_ ?_;simp[z1])|refine q_ ?_
  cases hb:stB a a.mv[j].src with
  |false=>
   refine Wd rfl rfl (Zc _ 0 a rfl a.mv[j].src) rfl ?_;rintro r H' ⟨rfl,rfl⟩;simp[hb];repeat first|(refine r_ ?_;simp)|refine q_ ?_
   refine Wb rfl rfl ?_;simp;refine Qq rfl ?_;repeat first|(refine r_ ?_;simp)|refine q_ ?_
   rw[hI,if_pos (fun k=>by rw[(L7 _ _).2 k.1]at hb;cases hb)]
  |true=>
   refine Wd rfl rfl (Zc _ 0 a rfl a.mv[j].src) rfl ?_;rintro r H' ⟨rfl,rfl⟩;simp[hb];repeat first|(refine r_ ?_;simp)|refine q_ ?_
   refine Wd rfl rfl (Zc _ 0 a rfl a.mv[j].dst) rfl ?_;rintro r H' ⟨rfl,rfl⟩;simp;repeat first|(refine r_ ?_;simp)|refine q_ ?_
   refine Qa rfl (fun h3=> ?_) (fun h3=> ?_)
   ·repeat first|(refine r_ ?_;simp)|refine q_ ?_
    rw[hI,if_pos (fun k=>by rw[(L7 _ _).2 k.2]at h3;cases h3)]
   have hd:stB a a.mv[j].dst=true:=by simpa using h3
   rw[if_neg (fun k=>k ⟨(L7 _ _).1 hb,(L7 _ _).1 hd⟩)]at hI;repeat first|(refine r_ ?_;simp)|refine q_ ?_
   refine Qd rfl rfl (by simp) (Hq a.types a.mv[j].on) rfl ?_;rintro _ rfl;simp;repeat first|(refine r_ ?_;simp)|refine q_ ?_
   refine Qa rfl (fun h4=> ?_) (fun h4=> ?_)
   ·repeat first|(refine r_ ?_;simp)|refine q_ ?_
    rw[hI,if_pos (by simpa using h4)]
   rw[if_neg (by simpa using h4)]at hI;repeat first|(refine r_ ?_;simp[hw])|refine q_ ?_
   refine Qr _ (ih z1 hI) rfl (by simp) ?_ (by simp) (by simp);simp
 ·have z6:j=a.mv.length:=by simp at zb;omega
  subst z6;repeat first|(refine r_ ?_;simp)|refine q_ ?_
  rw[hI,yU];rfl
theorem I9(a:Aut):PC Tryz.prog 90 [encA a] (fun r=>r= .i (Wl a)):=by
 refine Qh tOk Tryz.func90 rfl Tryz.results90 rfl (by simp[Tryz.ntmps90]) ?_;rw[Tryz.ntmps90];simp only[Qe];simp only[encA];refine Wk 0 1 rfl rfl (fun z7=> ?_);refine Wk 0 2 rfl rfl (fun z8=> ?_);rw[zV]at z7 z8;repeat first|(refine r_ ?_;simp)|refine q_ ?_
 refine Qa rfl (fun h=> ?_) (fun h=> ?_)
 ·repeat first|(refine r_ ?_;simp)|refine q_ ?_
  rw[Wl,if_pos (by simpa using h)]
 have h1:¬(a.types<1∨16<a.types):=by simpa using h
 repeat first|(refine r_ ?_;simp)|refine q_ ?_
 refine Qa rfl (fun h=> ?_) (fun h=> ?_)
 ·repeat first|(refine r_ ?_;simp)|refine q_ ?_
  rw[Wl,if_neg h1,if_pos];simp at h;omega
 have h2:¬(a.fin.length<1∨256<a.fin.length∨2048<a.mv.length):=by simp at h;omega
 have hE:Wl a=z0f a.types a.fin.length a.mv:=by rw[Wl,if_neg h1,if_neg h2]
 rw[hE];repeat first|(refine r_ ?_;simp)|refine q_ ?_
 refine Qs a.mv.length (fun j=>z0f a.types a.fin.length a.mv=z0f a.types a.fin.length (a.mv.drop j)) (fun j=>[(1,.vptr 0 0),(3,.i a.fin.length),(4,.i j)]) (fun _=>[.vars (Qp a)]) rfl (by simp) (by simp) (by simp) (by simp) (by simp) ?_;intro j hj hI ih;repeat first|(refine r_ ?_;simp)|refine q_ ?_
 refine Qa rfl (fun za=> ?_) (fun zb=> ?_)
 ·have z1:j<a.mv.length:=by simpa using za
  have hw:IntKind.i64.wrap ((j:Int)+1)=j+1:=wrap_i64 _ (by omega) (by omega);rw[Wu z1,z0f]at hI;repeat first|(refine r_ ?_;simp[z1])|refine q_ ?_
  refine Qa rfl (fun h3=> ?_) (fun h3=> ?_)
  ·repeat first|(refine r_ ?_;simp)|refine q_ ?_
   rw[hI,if_pos];simp at h3;omega
  rw[if_neg (by simp at h3 ⊢;omega)]at hI;repeat first|(refine r_ ?_;simp)|refine q_ ?_
  refine Qd rfl rfl (by simp) (J2 a.types a.mv[j].on) rfl ?_;rintro _ rfl;simp;repeat first|(refine r_ ?_;simp)|refine q_ ?_
  refine Qa rfl (fun h4=> ?_) (fun h4=> ?_)
  ·repeat first|(refine r_ ?_;simp)|refine q_ ?_
   rw[hI,if_pos (by simpa using h4)]
  rw[if_neg (by simpa using h4)]at hI;repeat first|(refine r_ ?_;simp[hw])|refine q_ ?_
  refine Qr _ (ih z1 hI) rfl (by simp) ?_ (by simp) (by simp);simp
 ·have z6:j=a.mv.length:=by simp at zb;omega
  subst z6;repeat first|(refine r_ ?_;simp)|refine q_ ?_
  rw[hI,yU];rfl
end Go.Abs
namespace Go.Abs
open Go Go.Proofs
attribute [local irreducible] ckR O5
theorem k1v(l:List Iv)(n:Int)(hl:l.length≤1000000000):PC Tryz.prog 247 [LIv l,.i n] (fun r=>r= .bool (O5 l n)):=by
 refine Qh tOk Tryz.func247 rfl Tryz.results247 rfl (by simp[Tryz.ntmps247]) ?_;rw[Tryz.ntmps247];simp only[Qe];obtain⟨R,hR⟩:∃R,O5 l n=R:=⟨_,rfl⟩
 rw[hR];repeat first|(refine r_ ?_;simp)|refine q_ ?_
 refine Qs l.length (fun j=>O5 (l.drop j) n=R) (fun j=>[(0,LIv l),(1,.i n),(5,.i j)]) (fun _=>[]) rfl (by simp) (by simp) (by simp) (by simp) (by simpa using hR) ?_;intro j hj hI ih;repeat first|(refine r_ ?_;simp)|refine q_ ?_
 refine Qa rfl (fun z7=> ?_) (fun z8=> ?_)
 ·have z1:j<l.length:=by simpa using z7
  have hw:IntKind.i64.wrap ((j:Int)+1)=j+1:=wrap_i64 _ (by omega) (by omega);rw[Wu z1,y1f]at hI;by_cases h1:l[j].lo≤n
  ·by_cases h2:n≤l[j].hi
   ·rw[(Na ..).2 ⟨h1,h2⟩,Bool.true_or]at hI;repeat first|(refine r_ ?_;simp[z1,h1,h2])|refine q_ ?_
    refine Qq rfl ?_;repeat first|(refine r_ ?_;simp)|refine q_ ?_
    exact hI.symm
   ·have h3:inI l[j].lo l[j].hi n=false:=by rw[wS,Ne,Na];omega
    rw[h3,uN]at hI;repeat first|(refine r_ ?_;simp[z1,h1,h2])|refine q_ ?_
    refine Qq rfl ?_;repeat first|(refine r_ ?_;simp[hw])|refine q_ ?_
    exact Qr _ (ih z1 hI) rfl (by simp) (by simp) (by simp) (by simp)
  ·have h3:inI l[j].lo l[j].hi n=false:=by rw[wS,Ne,Na];omega
   rw[h3,uN]at hI;repeat first|(refine r_ ?_;simp[z1,h1])|refine q_ ?_
   refine Qq rfl ?_;repeat first|(refine r_ ?_;simp[hw])|refine q_ ?_
   exact Qr _ (ih z1 hI) rfl (by simp) (by simp) (by simp) (by simp)
 ·have z6:j=l.length:=by simp at z8;omega
  subst z6;rw[yU]at hI;repeat first|(refine r_ ?_;simp)|refine q_ ?_
  rw[←hI];unfold O5;rfl
theorem k1o(x y:Iv)(b:List Iv):(y::b).filterMap (Ox x)=(Ox x y).toList++b.filterMap (Ox x):=by cases h:Ox x y<;>simp[h]
def g1d(x:Iv)(b:List Iv):List Iv:=b.filterMap (Ox x)
theorem Bp(x:Iv)(a b:List Iv):E9 (x::a) b=g1d x b++E9 a b:=rfl
theorem y1s(x y:Iv)(b:List Iv):g1d x (y::b)=(Ox x y).toList++g1d x b:=k1o x y b
theorem j16(x:Iv):g1d x []=[]:=rfl
theorem u03(b:List Iv):E9 [] b=[]:=rfl
attribute [local irreducible] E9 g1d Ec
theorem w13(a b:List Iv)(ha:a.length≤1000000000)(hb:b.length≤1000000000)(hP:(E9 a b).length≤1000000000)(ze:∀y∈E9 a b,O6 y):PC Tryz.prog 218 [LIv a,LIv b] (fun r=>r=LIv (Ec (E9 a b))):=by
 refine Qh tOk Tryz.func218 rfl Tryz.results218 rfl (by simp[Tryz.ntmps218]) ?_;rw[Tryz.ntmps218];simp only[Qe];repeat first|(refine r_ ?_;simp)|refine q_ ?_
 refine Q5 5 144 2 rfl ?_;simp;repeat first|(refine r_ ?_;simp)|refine q_ ?_
 refine Ql (Qb (sl':=[(0,LIv a),(1,LIv b),(5,.sl 0 2 0 0),(6,.i 0)]) ?_ (by simp));refine Qm (F:=fun(u:Nat×Nat×List Iv×List AObj)=>⟨[(0,LIv a),(1,LIv b),(5,.sl u.2.1 2 0 u.2.2.1.length),(6,.i u.1)],u.2.2.2⟩)
  (fun u=>u.1≤a.length∧u.2.2.2[u.2.1]? =some (.arr 144 2 (u.2.2.1.map encIv))∧u.2.2.1++E9 (a.drop u.1) b=E9 a b) (fun u=>a.length - u.1) ?_ (0,0,[],[.arr 144 2 []]) ⟨by simp,rfl,by simp⟩
 rintro⟨j,q,acc,H2⟩ ⟨hj,g1,g2⟩ ih;simp only at hj g1 g2 ih ⊢;repeat first|(refine r_ ?_;simp)|refine q_ ?_
 refine Qa rfl (fun zf=> ?_) (fun zg=> ?_)
 ·have z6:j<a.length:=by simpa using zf
  have hw:IntKind.i64.wrap ((j:Int)+1)=j+1:=wrap_i64 _ (by omega) (by omega);rw[Wu z6,Bp]at g2;repeat first|(refine r_ ?_;simp)|refine q_ ?_
  refine Ql (Qb (sl':=[(0,LIv a),(1,LIv b),(5,.sl q 2 0 acc.length),(6,.i j),(7,.i 0)]) ?_ (by simp));refine Qm (F:=fun(u:Nat×Nat×List Iv×List AObj)=>⟨[(0,LIv a),(1,LIv b),(5,.sl u.2.1 2 0 u.2.2.1.length),(6,.i j),(7,.i u.1)],u.2.2.2⟩)
   (fun u=>u.1≤b.length∧u.2.2.2[u.2.1]? =some (.arr 144 2 (u.2.2.1.map encIv))∧u.2.2.1++(g1d a[j] (b.drop u.1)++E9 (a.drop (j+1)) b)=E9 a b) (fun u=>b.length - u.1) ?_ (0,q,acc,H2) ⟨by simp,g1,by simpa using g2⟩
  rintro⟨k,q1,acc1,H3⟩ ⟨hk,e1,e2⟩ ih1;simp only at hk e1 e2 ih1 ⊢;repeat first|(refine r_ ?_;simp)|refine q_ ?_
  refine Qa rfl (fun z8=> ?_) (fun za=> ?_)
  ·have z1:k<b.length:=by simpa using z8
   have zc:IntKind.i64.wrap ((k:Int)+1)=k+1:=wrap_i64 _ (by omega) (by omega);rw[Wu z1,y1s]at e2;have zh:acc1.length≤1000000000:=by have:=congrArg vN e2;simp only[zW]at this;omega
   obtain⟨lo,hlo⟩:∃z,(if a[j].lo<b[k].lo then b[k].lo else a[j].lo)=z:=⟨_,rfl⟩
   obtain⟨hi,zd⟩:∃z,(if b[k].hi<a[j].hi then b[k].hi else a[j].hi)=z:=⟨_,rfl⟩
   have hm:Ox a[j] b[k]=if lo≤hi then some ⟨lo,hi⟩else none:=by simp only[Ox,hlo,zd]
   rw[hm]at e2;repeat first|(refine r_ ?_;simp[z6,z1])|refine q_ ?_
   refine Qn tOk mixed [] (.val 0 (.val 1 (.val 2 (.val 3 (.val 4 (.val 5 (.val 6 (.val 7 (.val 8 (.val 9 (.val 10 (.val 11 (.val 12 (.val 13 (.val 14 (.val 15 (.val 16 (.val 17 (.val 18 (.val 19 (.val 20 (.val 21 (.val 22 (.val 23 (.done))))))))))))))))))))))))) rfl (by kernel_rfl) ?_;simp[z6,z1,hlo,zd];repeat first|(refine r_ ?_;simp)|refine q_ ?_
   refine Qa rfl (fun h3=> ?_) (fun h3=> ?_)
   ·rw[if_pos (by simpa using h3)]at e2;repeat first|(refine r_ ?_;simp)|refine q_ ?_
    refine Qf tOk rfl rfl Pp rfl G6 rfl (by decide) (by decide) rfl rfl rfl ?_;simp[Qc e1,Qj e1];refine⟨by simp[Ws,Qc e1,Qj e1]<;>omega,?_⟩;repeat first|(refine r_ ?_;simp[zc])|refine q_ ?_
    exact Qb (sl':=[(0,LIv a),(1,LIv b),(5,.sl (H3.length+1) 2 0 (acc1.length+1)),(6,.i j),(7,.i (k+1:Nat))]) (by
     have:=ih1 (k+1,H3.length+1,acc1++[(⟨lo,hi⟩:Iv)],H3.set q1 .dead++[.arr 144 2 [encIv (⟨lo,hi⟩:Iv)],.arr 144 2 ((acc1++[(⟨lo,hi⟩:Iv)]).map encIv)]) ⟨by simp;omega,by simp only;rw[zC (by simp)];simp,by simpa using e2⟩ (by simp;omega);simpa using this) (by simp)
   ·rw[if_neg (by simpa using h3)]at e2;repeat first|(refine r_ ?_;simp[zc])|refine q_ ?_
    exact Qb (sl':=[(0,LIv a),(1,LIv b),(5,.sl q1 2 0 acc1.length),(6,.i j),(7,.i (k+1:Nat))]) (by
     have:=ih1 (k+1,q1,acc1,H3) ⟨by simp;omega,e1,by simpa using e2⟩ (by simp;omega);simpa using this) (by simp)
  ·have z7:k=b.length:=by simp at za;omega
   subst z7;rw[yU,j16,xP]at e2;repeat first|(refine r_ ?_;simp[hw])|refine q_ ?_
   exact Qb (sl':=[(0,LIv a),(1,LIv b),(5,.sl q1 2 0 acc1.length),(6,.i (j+1:Nat))]) (by
    have:=ih (j+1,q1,acc1,H3) ⟨by simp;omega,e1,e2⟩ (by simp;omega);simpa using this) (by simp)
 ·have zb:j=a.length:=by simp at zg;omega
  subst zb;rw[yU,u03,xV]at g2;subst g2;repeat first|(refine r_ ?_;simp)|refine q_ ?_
  refine Iy q g1 ?_;simp;rw[zI (by simp)];refine Qd rfl rfl (by simp) (Vt (E9 a b) hP ze) rfl ?_;rintro _ rfl;simp;repeat first|(refine r_ ?_;simp)|refine q_ ?_
theorem Zh(x:Iv)(r:List Iv)(n:Int):Rw (x::r) n=(if n<x.lo then [⟨n,x.lo - 1⟩]else [])++Rw r (x.hi+1):=rfl
theorem Cz(n:Int):Rw [] n=if n≤1099511627776 then [⟨n,1099511627776⟩]else []:=rfl
theorem c0a(l:List Iv):Rw l (-1099511627776)=Ed l:=rfl
attribute [local irreducible] Ed Rw
theorem Ve(l:List Iv)(hs:Sep l)(hb:∀n,M l n→inR n)(hlen:l.length≤1000000000):PC Tryz.prog 252 [LIv l] (fun r=>r=LIv (Ed l)):=by
 refine Qh tOk Tryz.func252 rfl Tryz.results252 rfl (by simp[Tryz.ntmps252]) ?_;rw[Tryz.ntmps252];simp only[Qe];have ze:=(Sq hs hb).2.2;repeat first|(refine r_ ?_;simp)|refine q_ ?_
 refine Q5 3 144 2 rfl ?_;simp;repeat first|(refine r_ ?_;simp)|refine q_ ?_
 refine Ql (Qb (sl':=[(0,LIv l),(3,.sl 0 2 0 0),(4,.i (-1099511627776)),(5,.i 0)]) ?_ (by simp));refine Qm (F:=fun(u:Nat×Nat×List Iv×Int×List AObj)=>⟨[(0,LIv l),(3,.sl u.2.1 2 0 u.2.2.1.length),(4,.i u.2.2.2.1),(5,.i u.1)],u.2.2.2.2⟩)
  (fun u=>u.1≤l.length∧u.2.2.2.2[u.2.1]? =some (.arr 144 2 (u.2.2.1.map encIv))∧u.2.2.1++Rw (l.drop u.1) u.2.2.2.1=Ed l) (fun u=>l.length - u.1) ?_ (0,0,[],-1099511627776,[.arr 144 2 []]) ⟨by simp,rfl,by simp[c0a]⟩
 rintro⟨j,q,acc,n,H2⟩ ⟨hj,g1,g2⟩ ih;simp only at hj g1 g2 ih ⊢;have zf:acc.length≤1000000001:=by have:=congrArg vN g2;simp only[zW]at this;omega
 repeat first|(refine r_ ?_;simp)|refine q_ ?_
 refine Qa rfl (fun z8=> ?_) (fun za=> ?_)
 ·have z1:j<l.length:=by simpa using z8
  have zb:=hb _ ⟨l[j],zG z1,yJ _,hs.1 _ (zG z1)⟩;have zc:=hb _ ⟨l[j],zG z1,hs.1 _ (zG z1),yJ _⟩;unfold inR at zb zc;have hw:IntKind.i64.wrap ((j:Int)+1)=j+1:=wrap_i64 _ (by omega) (by omega);have zd:IntKind.i64.wrap (l[j].lo - 1)=l[j].lo - 1:=wrap_i64 _ (by omega) (by omega);have z7:IntKind.i64.wrap (l[j].hi+1)=l[j].hi+1:=wrap_i64 _ (by omega) (by omega);rw[Wu z1,Zh]at g2;repeat first|(refine r_ ?_;simp[z1])|refine q_ ?_
  refine Qa rfl (fun h3=> ?_) (fun h3=> ?_)
  ·rw[if_pos (by simpa using h3)]at g2;repeat first|(refine r_ ?_;simp[z1,zd])|refine q_ ?_
   refine Qf tOk rfl rfl Pp rfl G6 rfl (by decide) (by decide) rfl rfl rfl ?_;simp[Qc g1,Qj g1];refine⟨by simp[Ws,Qc g1,Qj g1]<;>omega,?_⟩;repeat first|(refine r_ ?_;simp[z1,hw,z7])|refine q_ ?_
   exact Qb (sl':=[(0,LIv l),(3,.sl (H2.length+1) 2 0 (acc.length+1)),(4,.i (l[j].hi+1)),(5,.i (j+1:Nat))]) (by
    have:=ih (j+1,H2.length+1,acc++[(⟨n,l[j].lo - 1⟩:Iv)],l[j].hi+1,H2.set q .dead++[.arr 144 2 [encIv (⟨n,l[j].lo - 1⟩:Iv)],.arr 144 2 ((acc++[(⟨n,l[j].lo - 1⟩:Iv)]).map encIv)]) ⟨by simp;omega,by simp only;rw[zC (by simp)];simp,by simpa using g2⟩ (by simp;omega);simpa using this) (by simp)
  ·rw[if_neg (by simpa using h3)]at g2;repeat first|(refine r_ ?_;simp[z1,hw,z7])|refine q_ ?_
   exact Qb (sl':=[(0,LIv l),(3,.sl q 2 0 acc.length),(4,.i (l[j].hi+1)),(5,.i (j+1:Nat))]) (by
    have:=ih (j+1,q,acc,l[j].hi+1,H2) ⟨by simp;omega,g1,by simpa using g2⟩ (by simp;omega);simpa using this) (by simp)
 ·have z6:j=l.length:=by simp at za;omega
  subst z6;rw[yU,Cz]at g2;repeat first|(refine r_ ?_;simp)|refine q_ ?_
  refine Qa rfl (fun h3=> ?_) (fun h3=> ?_)
  ·rw[if_pos (by simpa using h3)]at g2;rw[←g2];repeat first|(refine r_ ?_;simp)|refine q_ ?_
   refine Qf tOk rfl rfl Pp rfl G6 rfl (by decide) (by decide) rfl rfl rfl ?_;simp[Qc g1,Qj g1];refine⟨by simp[Ws,Qc g1,Qj g1]<;>omega,?_⟩;repeat first|(refine r_ ?_;simp)|refine q_ ?_
   rw[zI (by simp)]
  ·rw[if_neg (by simpa using h3),xV]at g2;subst g2;repeat first|(refine r_ ?_;simp[g1])|refine q_ ?_
   rw[zI (by simp)]
theorem f0p(a b:List Iv)(ha:Sep a)(hb:Sep b)(z1:a.length+b.length≤1000000000)(hi:∀x∈a,O6 x):PC Tryz.prog 218 [LIv a,LIv b] (fun r=>r=LIv (Tc a b)):=
 (w13 a b (by omega) (by omega) (by have:=d0d a b ha hb;omega) (c09 (.inl hi))).mono fun r h=>by rw[h,Tc]
end Go.Abs
