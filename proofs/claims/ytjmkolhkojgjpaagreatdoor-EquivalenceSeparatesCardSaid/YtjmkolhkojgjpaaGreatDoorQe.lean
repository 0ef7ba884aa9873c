/- Part Qe of the proof: an abstract machine over the model, and what the functions of the program hand back in its terms. No condition. -/
import Derived.Test.YtjmkolhkojgjpaaGreatDoorQd
set_option linter.all false
open Nat renaming zero_le→xA,le_refl→zK,le_trans→yP,lt_trichotomy→vY
open List renaming getElem?_eq_some_iff→zA,pairwise_iff_getElem→yD,mem_map→zM,mem_append→zO,mem_singleton→zJ,mem_append_left→xC,mem_of_getElem?→zF,foldl_append→x_,pairwise_append→zY,mem_append_right→vA,nil_append→xP,reverse_cons→u9,mem_iff_getElem?→yF,reverse_reverse→vX,find?_eq_none→u6,mem_of_find?_eq_some→vH,find?_some→ug,find?_cons→tp,pairwise_map→xR,length_flatMap→vC,map_congr_left→xU,map_const'→vG,sum_replicate_nat→wY,mem_flatMap→xL,range→yA,getElem_of_mem→yC,mem_filterMap→wM,pairwise_mergeSort→vS,mergeSort_perm→wJ,eq_nil_iff_forall_not_mem→wK,mem_cons→zU,any_eq_true→xN,all_eq_true→zP,mem_range→yM,length_map→zV,pairwise_cons→z_,getD→yQ,drop_length→yU,getElem_mem→zG,length→vN,length_append→zW,getElem?_append_right→zC,append_nil→xV,take_of_length_le→zI
open Int renaming le_refl→yJ
open Bool renaming eq_iff_iff→yX,and_eq_true→zR,or_eq_true→ww,eq_false_iff→wS,false_or→uN
set_option maxHeartbeats 2000000
set_option linter.unusedSimpArgs false
set_option maxRecDepth 100000
namespace Go.Abs
def sLt(x y:Sy):Prop:=x.ty<y.ty∨(x.ty=y.ty∧x.num<y.num)
theorem sLt.irr{x:Sy}(h:sLt x x):False:=by unfold sLt at h;omega
theorem sLt.trans{x y z:Sy}(h:sLt x y)(k:sLt y z):sLt x z:=by unfold sLt at *;omega
theorem sLt.tri(x y:Sy):sLt x y∨x=y∨sLt y x:=by cases x;cases y;unfold sLt;simp only[Sy.mk.injEq];omega
def q0c:List Sy→List Sy→Prop
 |x::v,y::w=>sLt x y∨(x=y∧q0c v w)
 |_,_=>False
def ll(v w:List Sy):Prop:=v.length<w.length∨(v.length=w.length∧q0c v w)
def lle(v w:List Sy):Prop:=v=w∨ll v w
theorem q0c.irr:∀ {v:List Sy},¬q0c v v
 |[],h=>h
 |x::v,h=>by
  rcases h with h|⟨_,h⟩
  ·exact h.irr
  ·exact q0c.irr h
theorem q0c.trans:∀ {u v w:List Sy},q0c u v→q0c v w→q0c u w
 |[],_,_,h,_=>h.elim
 |_::_,[],_,h,_=>h.elim
 |_::_,_::_,[],_,k=>k.elim
 |x::u,y::v,z::w,h,k=>by
  rcases h with h|⟨rfl,h⟩
  ·rcases k with k|⟨rfl,k⟩
   ·exact .inl (h.trans k)
   ·exact .inl h
  ·rcases k with k|⟨rfl,k⟩
   ·exact .inl k
   ·exact .inr ⟨rfl,h.trans k⟩
theorem ll.irr{v:List Sy}(h:ll v v):False:=by
 rcases h with h|⟨_,h⟩
 ·omega
 ·exact q0c.irr h
theorem ll.trans{u v w:List Sy}(h:ll u v)(k:ll v w):ll u w:=by
 rcases h with h|⟨h1,h2⟩
 ·rcases k with k|⟨k1,_⟩
  ·exact .inl (by omega)
  ·exact .inl (by omega)
 ·rcases k with k|⟨k1,k2⟩
  ·exact .inl (by omega)
  ·exact .inr ⟨by omega,h2.trans k2⟩
theorem lle.refl(v:List Sy):lle v v:= .inl rfl
theorem lle.trans{u v w:List Sy}(h:lle u v)(k:lle v w):lle u w:=by
 rcases h with rfl|h
 ·exact k
 ·rcases k with rfl|k
  ·exact .inr h
  ·exact .inr (h.trans k)
theorem ll.lle{u v w:List Sy}(h:ll u v)(k:lle v w):ll u w:=by
 rcases k with rfl|k
 ·exact h
 ·exact h.trans k
theorem lle.anti{u v:List Sy}(h:lle u v)(k:lle v u):u=v:=by
 rcases h with rfl|h
 ·rfl
 ·exact((h.lle k).irr).elim
theorem q0l:∀ {u v:List Sy} (a b:List Sy),u.length=v.length→q0c u v→q0c (u++a) (v++b)
 |[],_,_,_,_,h=>h.elim
 |_::_,[],_,_,_,h=>h.elim
 |x::u,y::v,a,b,e,h=>by
  rcases h with h|⟨rfl,h⟩
  ·exact .inl h
  ·exact .inr ⟨rfl,q0l a b (by simpa using e) h⟩
theorem q0m:∀(u:List Sy) {a b:List Sy},q0c a b→q0c (u++a) (u++b)
 |[],_,_,h=>h
 |_::u,_,_,h=> .inr ⟨rfl,q0m u h⟩
theorem f0l{u v:List Sy}(h:ll u v)(x y:Sy):ll (u++[x]) (v++[y]):=by
 rcases h with h|⟨h1,h2⟩
 ·exact .inl (by simp;omega)
 ·exact .inr ⟨by simp;omega,q0l _ _ h1 h2⟩
theorem M5(u:List Sy){x y:Sy}(h:sLt x y):ll (u++[x]) (u++[y]):= .inr ⟨by simp,q0m u (.inl h)⟩
theorem c0p{u v:List Sy}(h:lle u v){x y:Sy}(k:x=y∨sLt x y):lle (u++[x]) (v++[y]):=by
 rcases h with rfl|h
 ·rcases k with rfl|k
  ·exact .inl rfl
  ·exact .inr (M5 _ k)
 ·exact .inr (f0l h x y)
theorem k1b(u:List Sy)(x:Sy):ll u (u++[x]):= .inl (by simp)
theorem I9{α:Type}[DecidableEq α]:∀(l U:List α),l.Nodup→(∀x∈l,x∈U)→l.length≤U.length
 |[],_,_,_=>xA _
 |x::l,U,hn,h=>by have hx:=h x (by simp);have hc:=List.nodup_cons.1 hn;have ih:=I9 l (U.erase x) hc.2 (fun y hy=>(List.mem_erase_of_ne (fun e=>hc.1 (by rw[←e];exact hy))).2 (h y (by simp[hy])));rw[List.length_erase_of_mem hx]at ih;have:=List.length_pos_of_mem hx;simp only[List.length_cons];omega
section
variable {σ:Type} [DecidableEq σ] (ok:Sy→Prop) (step:σ→Sy→σ) (good:σ→Bool)
def Tt(s:σ)(w:List Sy):σ:=w.foldl step s
structure FirstW (s:σ) (w:List Sy):Prop where
 okw:∀x∈w,ok x
 goodw:good (Tt step s w)=true
 least:∀v,(∀x∈v,ok x)→good (Tt step s v)=true→lle w v
variable {ok step good}
variable (ok step good)
structure SuccOk (s:σ) (l:List (Sy×σ)):Prop where
 asc:l.Pairwise (fun a b=>sLt a.1 b.1)
 mem:∀e∈l,ok e.1∧e.2=step s e.1
 cov:∀y,ok y→∃e∈l,e.2=step s y∧(e.1=y∨sLt e.1 y)
variable (succ:σ→List (Sy×σ))
def q0h(l:List (σ×List Sy))(t:σ)(w:List Sy):List (σ×List Sy):=if t∈l.map (·.1)then l else l++[(t,w)]
def Eh(l:List (σ×List Sy))(w:List Sy)(es:List (Sy×σ)):List (σ×List Sy):=es.foldl (fun l e=>q0h l e.2 (w++[e.1])) l
def Pr:Nat→Nat→List (σ×List Sy)→Option (List Sy)×List (σ×List Sy)
 |0,_,l=>(none,l)
 |f+1,n,l=>match l[n]? with
  |none=>(none,l)
  |some (s,w)=>if good s then(some w,l)else Pr f (n+1) (Eh l w (succ s))
variable (s0:σ) (G:σ→Prop)
structure BInv (n:Nat) (L:List (σ×List Sy)) (done:List (Sy×σ)):Prop where
 first:L[0]? =some (s0,[])
 mem:∀e∈L,(∀x∈e.2,ok x)∧Tt step s0 e.2=e.1∧G e.1
 asc:L.Pairwise (fun a b=>ll a.2 b.2)
 nd:(L.map (·.1)).Nodup
 bad:∀i s w,i<n→L[i]? =some (s,w)→good s=false
 cls:∀i s w,i<n→L[i]? =some (s,w)→∀e∈succ s,∃v,(e.2,v)∈L∧lle v (w++[e.1])
 cur:∀s w,L[n]? =some (s,w)→∀e∈done,∃v,(e.2,v)∈L∧lle v (w++[e.1])
 org:∀d∈L,d.2=[]∨∃i s w x,L[i]? =some (s,w)∧d.2=w++[x]∧(i<n∨(i=n∧∃e∈done,e.1=x))
variable {ok step good succ s0 G}
theorem BInv.low{n:Nat}{L:List (σ×List Sy)}{done:List (Sy×σ)}(h:BInv ok step good succ s0 G n L done){s:σ}{w:List Sy}(hn:L[n]? =some (s,w))(x:Sy)(hx:∀e∈done,sLt e.1 x):∀e∈L,ll e.2 (w++[x]):=by
 intro d hd;rcases h.org d hd with e|⟨i,s',w',y,hi,e,hc⟩
 ·rw[e];exact .inl (by simp)
 ·rw[e];rcases hc with hc|⟨rfl,c,hc,rfl⟩
  ·obtain⟨h1,h2⟩:=zA.1 hi;obtain⟨h3,h4⟩:=zA.1 hn;have:=yD.1 h.asc i n h1 h3 hc;rw[h2,h4]at this;exact f0l this _ _
  ·rw[hn]at hi;cases hi;exact M5 _ (hx c hc)
theorem BInv.add {n:Nat} {L:List (σ×List Sy)} {done:List (Sy×σ)} (h:BInv ok step good succ s0 G n L done) {s:σ} {w:List Sy} (hn:L[n]? =some (s,w)) {e:Sy×σ} (he:ok e.1∧e.2=step s e.1) (hG:G e.2)
  (z8:∀d∈done,sLt d.1 e.1):BInv ok step good succ s0 G n (q0h L e.2 (w++[e.1])) (done++[e])∧(q0h L e.2 (w++[e.1]))[n]? =some (s,w):=by
 have zb:=(zA.1 hn).1;have z7:=h.low hn e.1 z8;unfold q0h;by_cases hin:e.2∈L.map (·.1)
 ·rw[if_pos hin];obtain⟨⟨t,v⟩,hv,ht⟩:=zM.1 hin;simp only at ht;subst ht;refine⟨⟨h.first,h.mem,h.asc,h.nd,h.bad,h.cls,fun s' w' z6 d hd=> ?_,fun d hd=> ?_⟩,hn⟩
  ·rw[hn]at z6;cases z6;rcases zO.1 hd with hd|hd
   ·exact h.cur s w hn d hd
   ·obtain rfl:=zJ.1 hd;exact⟨v,hv,.inr (z7 _ hv)⟩
  ·rcases h.org d hd with e'|⟨i,s',w',y,hi,e',hc⟩
   ·exact .inl e'
   ·exact .inr ⟨i,s',w',y,hi,e',hc.imp id fun⟨k1,c,k2,k3⟩=>⟨k1,c,xC _ k2,k3⟩⟩
 ·rw[if_neg hin];have z1:∀i,i≤n→(L++[(e.2,w++[e.1])])[i]? =L[i]? :=fun i hi=>List.getElem?_append_left (by omega);have hw:=h.mem _ (zF hn);refine⟨⟨by rw[z1 0 (xA _)];exact h.first,fun d hd=> ?_,?_,?_,fun i s' w' hi z6=>h.bad i s' w' hi (by rw[←z1 i (by omega)];exact z6),fun i s' w' hi z6 d hd=> ?_,fun s' w' z6 d hd=> ?_,fun d hd=> ?_⟩,by rw[z1 n (zK _)];exact hn⟩
  ·rcases zO.1 hd with hd|hd
   ·exact h.mem d hd
   ·obtain rfl:=zJ.1 hd;refine⟨fun x hx=> ?_,?_,hG⟩
    ·rcases zO.1 hx with hx|hx
     ·exact hw.1 x hx
     ·obtain rfl:=zJ.1 hx;exact he.1
    ·show Tt step s0 (w++[e.1])=e.2;have h2:Tt step s0 w=s:=hw.2.1;rw[Tt,x_];show step (Tt step s0 w) e.1=e.2;rw[h2,he.2]
  ·exact zY.2 ⟨h.asc,by simp,fun a ha b hb=>by obtain rfl:=zJ.1 hb;exact z7 a ha⟩
  ·rw[List.map_append];exact List.nodup_append.2 ⟨h.nd,by simp,fun a ha b hb e'=>by
    simp at hb;subst hb;subst e';exact hin ha⟩
  ·rw[z1 i (by omega)]at z6;obtain⟨v,hv,hl⟩:=h.cls i s' w' hi z6 d hd;exact⟨v,xC _ hv,hl⟩
  ·rw[z1 n (zK _),hn]at z6;cases z6;rcases zO.1 hd with hd|hd
   ·obtain⟨v,hv,hl⟩:=h.cur s w hn d hd;exact⟨v,xC _ hv,hl⟩
   ·obtain rfl:=zJ.1 hd;exact⟨_,vA _ (by simp),.inl rfl⟩
  ·rcases zO.1 hd with hd|hd
   ·rcases h.org d hd with e'|⟨i,s',w',y,hi,e',hc⟩
    ·exact .inl e'
    ·have za:i≤n:=by rcases hc with hc|hc<;>omega
     exact .inr ⟨i,s',w',y,by rw[z1 i za];exact hi,e',hc.imp id fun⟨k1,c,k2,k3⟩=>⟨k1,c,xC _ k2,k3⟩⟩
   ·obtain rfl:=zJ.1 hd;exact .inr ⟨n,s,w,e.1,by rw[z1 n (zK _)];exact hn,rfl,.inr ⟨rfl,e,by simp,rfl⟩⟩
theorem BInv.round{n:Nat}:∀(es:List (Sy×σ)) (done:List (Sy×σ)) (L:List (σ×List Sy)) {s:σ} {w:List Sy},BInv ok step good succ s0 G n L done→L[n]? =some (s,w)→(∀e∈es,ok e.1∧e.2=step s e.1)→(∀e∈es,G e.2)→
  (done++es).Pairwise (fun a b=>sLt a.1 b.1)→BInv ok step good succ s0 G n (Eh L w es) (done++es)∧(Eh L w es)[n]? =some (s,w)
 |[],done,L,s,w,h,hn,_,_,_=>by simpa[Eh]using⟨h,hn⟩
 |e::es,done,L,s,w,h,hn,hm,hG,hp=>by have z1:∀d∈done,sLt d.1 e.1:=fun d hd=>(zY.1 hp).2.2 d hd e (by simp);obtain⟨h1,h2⟩:=h.add hn (hm e (by simp)) (hG e (by simp)) z1;have:=BInv.round es (done++[e]) _ h1 h2 (fun d hd=>hm d (by simp[hd])) (fun d hd=>hG d (by simp[hd])) (by simpa using hp);simpa[Eh]using this
theorem BInv.next{n:Nat}{L:List (σ×List Sy)}{s:σ}{w:List Sy}(h:BInv ok step good succ s0 G n L [])(hn:L[n]? =some (s,w))(hg:good s=false)(hs:SuccOk ok step s (succ s))(hG:∀e∈succ s,G e.2):
  BInv ok step good succ s0 G (n+1) (Eh L w (succ s)) []:=by
 obtain⟨h1,h2⟩:=h.round (succ s) [] L hn hs.mem hG (by simpa using hs.asc);rw[xP]at h1;refine⟨h1.first,h1.mem,h1.asc,h1.nd,fun i s' w' hi z1=> ?_,fun i s' w' hi z1 d hd=> ?_,fun _ _ _ _ hd=>(by cases hd),fun d hd=> ?_⟩
 ·by_cases hin:i<n
  ·exact h1.bad i s' w' hin z1
  ·have:i=n:=by omega
   subst this;rw[h2]at z1;cases z1;exact hg
 ·by_cases hin:i<n
  ·exact h1.cls i s' w' hin z1 d hd
  ·have:i=n:=by omega
   subst this;rw[h2]at z1;cases z1;exact h1.cur s w h2 d hd
 ·rcases h1.org d hd with e'|⟨i,s',w',y,hi,e',hc⟩
  ·exact .inl e'
  ·exact .inr ⟨i,s',w',y,hi,e',.inl (by rcases hc with hc|hc<;>omega)⟩
theorem BInv.reach{n:Nat}{L:List (σ×List Sy)}(h:BInv ok step good succ s0 G n L [])(hs:∀s,G s→SuccOk ok step s (succ s)):∀(r:List Sy),(∀x∈r,ok x)→
  (∃v,(Tt step s0 r.reverse,v)∈L∧lle v r.reverse)∨∃i s w,n≤i∧L[i]? =some (s,w)∧lle w r.reverse
 |[],_=> .inl ⟨[],zF h.first,lle.refl _⟩
 |x::r,hx=>by
  have z1:ll r.reverse (x::r).reverse:=by rw[u9];exact k1b _ _
  rcases BInv.reach h hs r (fun y hy=>hx y (by simp[hy]))with⟨v,hv,hl⟩|⟨i,s,w,h1,h2,h3⟩
  ·obtain⟨i,hi⟩:=yF.1 hv;by_cases hin:i<n
   ·obtain⟨e,he,e1,e2⟩:=(hs _ (h.mem _ hv).2.2).cov x (hx x (by simp));obtain⟨u,hu,z6⟩:=h.cls i _ _ hin hi e he;refine .inl ⟨u,?_,?_⟩
    ·rw[u9,Tt,x_];show(step (Tt step s0 r.reverse) x,u)∈L;rw[←e1];exact hu
    ·rw[u9];exact z6.trans (c0p hl e2)
   ·exact .inr ⟨i,_,v,by omega,hi,hl.trans (.inr z1)⟩
  ·exact .inr ⟨i,s,w,h1,h2,h3.trans (.inr z1)⟩
theorem BInv.found{n:Nat}{L:List (σ×List Sy)}{s:σ}{w:List Sy}(h:BInv ok step good succ s0 G n L [])(hs:∀s,G s→SuccOk ok step s (succ s))(hn:L[n]? =some (s,w))(hg:good s=true):FirstW ok step good s0 w:=by
 have hm:=h.mem _ (zF hn);refine⟨hm.1,by rw[hm.2.1];exact hg,fun v hv z1=> ?_⟩;have hle:∀i s' w',n≤i→L[i]? =some (s',w')→lle w w':=fun i s' w' hi hl=>by
  obtain⟨h1,h2⟩:=zA.1 hn;obtain⟨h3,h4⟩:=zA.1 hl;rcases Nat.lt_or_eq_of_le hi with hlt|rfl
  ·have:=yD.1 h.asc n i h1 h3 hlt;rw[h2,h4]at this;exact .inr this
  ·rw[hn]at hl;cases hl;exact .inl rfl
 rcases h.reach hs v.reverse (fun x hx=>hv x (by simpa using hx))with⟨u,hu,hl⟩|⟨i,s',w',h1,h2,h3⟩
 ·rw[vX]at hu hl;obtain⟨i,hi⟩:=yF.1 hu;by_cases hin:i<n
  ·have:=h.bad i _ _ hin hi;rw[this]at z1;cases z1
  ·exact(hle i _ _ (by omega) hi).trans hl
 ·rw[vX]at h3;exact(hle i _ _ h1 h2).trans h3
theorem BInv.none{n:Nat}{L:List (σ×List Sy)}(h:BInv ok step good succ s0 G n L [])(hs:∀s,G s→SuccOk ok step s (succ s))(hn:L[n]? =none):
  (∀v,(∀x∈v,ok x)→Tt step s0 v∈L.map (·.1)∧good (Tt step s0 v)=false):=by
 intro v hv;have hlen:=List.getElem?_eq_none_iff.1 hn;rcases h.reach hs v.reverse (fun x hx=>hv x (by simpa using hx))with⟨u,hu,_⟩|⟨i,s',w',h1,h2,_⟩
 ·rw[vX]at hu;obtain⟨i,hi⟩:=yF.1 hu;have:=(zA.1 hi).1;exact⟨zM.2 ⟨_,hu,rfl⟩,h.bad i _ _ (by omega) hi⟩
 ·have:=(zA.1 h2).1;omega
theorem Pt(hs:∀s,G s→SuccOk ok step s (succ s))(hG:∀s,G s→∀e∈succ s,G e.2)(U:List σ)(hU:∀s,G s→s∈U):∀(f n:Nat) (L:List (σ×List Sy)),U.length+1≤n+f→n≤L.length→BInv ok step good succ s0 G n L []→
  (∃w L',Pr good succ f n L=(some w,L')∧FirstW ok step good s0 w)∨
  (∃L',Pr good succ f n L=(Option.none,L')∧(L'.map (·.1)).Nodup∧(∀e∈L',(∀x∈e.2,ok x)∧Tt step s0 e.2=e.1∧G e.1)∧∀v,(∀x∈v,ok x)→Tt step s0 v∈L'.map (·.1)∧good (Tt step s0 v)=false)
 |0,n,L,hf,hn,h=>by
  exfalso;have:=I9 _ U h.nd (fun s hs=>by
   obtain⟨e,he,rfl⟩:=zM.1 hs;exact hU _ (h.mem e he).2.2)
  simp at this;omega
 |f+1,n,L,hf,hn,h=>by
  rw[Pr];cases hl:L[n]? with
  |none=>exact .inr ⟨L,rfl,h.nd,h.mem,h.none hs hl⟩
  |some e=>
   obtain⟨s,w⟩:=e;simp only;cases hg:good s with
   |true=>rw[if_pos rfl];exact .inl ⟨w,L,rfl,h.found hs hl hg⟩
   |false=>
    rw[if_neg (by simp)];have z1:=(h.mem _ (zF hl)).2.2;have h':=h.next hl hg (hs s z1) (hG s z1);refine Pt hs hG U hU f (n+1) _ (by omega) ?_ h';have z6:=(zA.1 hl).1;have z7:∀(es:List (Sy×σ)) (L:List (σ×List Sy)),L.length≤(Eh L w es).length:=by
     intro es;induction es with
     |nil=>intro L;exact zK _
     |cons e es ih=>
      intro L;refine yP ?_ (ih (q0h L e.2 (w++[e.1])));unfold q0h;split
      ·exact zK _
      ·simp
    exact yP z6 (z7 _ _)
theorem Ov(z1:G s0):BInv ok step good succ s0 G 0 [(s0,[])] []:=
 ⟨rfl,fun e he=>by obtain rfl:=zJ.1 he;exact⟨by simp,rfl,z1⟩,by simp,by simp,fun i _ _ hi=>by omega,fun i _ _ hi=>by omega,fun _ _ _ _ hd=>(by cases hd),fun d hd=>by obtain rfl:=zJ.1 hd;exact .inl rfl⟩
end
end Go.Abs
namespace Go.Abs
structure Dfa (a:Aut):Prop where
 ok:OkA a
 det:Xu a
 full:w1b a
def toL(a:Aut)(s:Int)(x:Sy):Int:=match a.mv.find? (fun m=>decide (m.src=s) && Rp m.on x)with|some m=>m.dst|none=> -1
def inS(a:Aut)(s:Int):Prop:=0≤s∧s<a.fin.length
theorem Dfa.next{a:Aut}(h:Dfa a){s:Int}(hs:inS a s){x:Sy}(hx:Ed a x):inS a (toL a s x)∧Q6 a [s] x=[toL a s x]:=by
 obtain⟨t,t0,t1,e⟩:=z1j h.ok.wfA h.det h.full hs.1 hs.2 hx;obtain⟨m,hm,h1,h2⟩:=h.full s hs.1 hs.2 x hx;have hf:toL a s x=t:=by
  unfold toL;cases hq:a.mv.find? (fun m=>decide (m.src=s) && Rp m.on x)with
  |none=>have:=u6.1 hq m hm;simp[h1,h2]at this
  |some k=>have hk:=vH hq;have hp:=ug hq;simp at hp;have z1:k.dst∈Q6 a [s] x:=Eb.2 ⟨h.ok.wfA.dst k hk,k,hk,by rw[hp.1];simp,hp.2,rfl⟩;rw[e]at z1;exact zJ.1 z1
 rw[hf];exact⟨⟨t0,t1⟩,e⟩
theorem w0u{a:Aut}{x y:Sy}(h:∀m∈a.mv,Rp m.on x=Rp m.on y)(s:Int):toL a s x=toL a s y:=by
 unfold toL;have:a.mv.find? (fun m=>decide (m.src=s) && Rp m.on x)=a.mv.find? (fun m=>decide (m.src=s) && Rp m.on y):=by
  generalize a.mv=l at h;induction l with
  |nil=>rfl
  |cons m l ih=>rw[tp,tp,h m (by simp),ih (fun k hk=>h k (by simp[hk]))]
 rw[this]
def stF(a:Aut)(s:Int)(w:List Sy):Int:=w.foldl (toL a) s
def w0t(a:Aut)(s:Int)(w:List Sy):Bool:=a.fin.getD (stF a s w).toNat false
theorem Dfa.run{a:Aut}(h:Dfa a):∀(w:List Sy) (s:Int),inS a s→(∀x∈w,Ed a x)→inS a (stF a s w)∧Oj a [s] w=[stF a s w]
 |[],s,hs,_=>⟨hs,rfl⟩
 |x::w,s,hs,hx=>by obtain⟨h1,h2⟩:=h.next hs (hx x (by simp));have:=h.run w _ h1 (fun y hy=>hx y (by simp[hy]));refine⟨this.1,?_⟩;show Oj a (Q6 a [s] x) w=_;rw[h2];exact this.2
theorem Dfa.zero{a:Aut}(h:Dfa a):inS a 0:=⟨yJ _,by have:=h.ok.fin;omega⟩
theorem Dfa.acc{a:Aut}(h:Dfa a){w:List Sy}(hw:∀x∈w,Ed a x):Yj a w=w0t a 0 w:=by unfold Yj w0t;rw[(h.run w 0 h.zero hw).2];simp[Tk]
structure Ltr (T:Nat) (l cl:List Prd):Prop where
 prts:Prts T l cl
 asc:cl.Pairwise z04
 len:∀p∈l,p.length=T
def okT(T:Nat)(x:Sy):Prop:=0≤x.ty∧x.ty.toNat<T∧inR x.num
theorem c1n{T:Nat}(hT:0<T){l:List Prd}(hl:∀p∈l,PCk T p):Ltr T l (Wa T l):=by obtain⟨h1,h2⟩:=Un hT hl;exact⟨h1,h2,fun p hp=>(hl p hp).1⟩
theorem j0i{p:Prd}{t:Nat}{n:Int}(h:A5 (Q8 p 0).1 (Q8 p 0).2 t n):sLt (Qv p) ⟨t,n⟩:=by unfold A5 at h;unfold sLt Qv;simp only;omega
theorem Ltr.least{T:Nat}{l cl:List Prd}(h:Ltr T l cl){c:Prd}(hc:c∈cl):okT T (Qv c)∧PM c (Qv c).ty.toNat (Qv c).num:=by have h1:=(Ee (h.prts.wf c hc) (h.prts.ne c hc)).1;have h2:=(h.prts.wf c hc).lt h1;exact⟨⟨by simp[Qv],by simpa[Qv]using h2.1,h2.2⟩,by simpa[Qv]using h1⟩
theorem Ltr.sig{T:Nat}{l cl:List Prd}(h:Ltr T l cl){c:Prd}(hc:c∈cl){x y:Sy}(hx:okT T x)(hy:okT T y)(z1:PM c x.ty.toNat x.num)(z6:PM c y.ty.toNat y.num):∀p∈l,Rp p x=Rp p y:=fun p hp=>by have h2:=((h.prts.cls c hc _ _ z1 _ _).1 z6).2.2 p hp;rw[yX,Pq (h.len p hp) x hx.1,Pq (h.len p hp) y hy.1];exact h2
theorem Ltr.cov{T:Nat}{l cl:List Prd}(h:Ltr T l cl){x:Sy}(hx:okT T x):∃c∈cl,PM c x.ty.toNat x.num∧(Qv c=x∨sLt (Qv c) x)∧∀p∈l,Rp p x=Rp p (Qv c):=by
 obtain⟨c,hc,hm⟩:=h.prts.all x.ty.toNat x.num hx.2.1 hx.2.2;obtain⟨h1,h2⟩:=h.least hc;refine⟨c,hc,hm,?_,h.sig hc hx h1 hm h2⟩;rcases(Ee (h.prts.wf c hc) (h.prts.ne c hc)).2 _ _ hm with⟨e1,e2⟩|hlt
 ·left;unfold Qv;rw[e1,e2,show((x.ty.toNat:Nat):Int)=x.ty by have:=hx.1;omega]
 ·right;have:=j0i hlt;have e:(⟨(x.ty.toNat:Int),x.num⟩:Sy)=x:=by rw[show((x.ty.toNat:Nat):Int)=x.ty by have:=hx.1;omega]
  rw[e]at this;exact this
theorem Ltr.ascS{T:Nat}{l cl:List Prd}(h:Ltr T l cl):(cl.map Qv).Pairwise sLt:=by
 refine xR.2 (h.asc.imp_of_mem fun {p q} hp hq hlt=> ?_);obtain⟨t,n,hm,z1⟩:=hlt;have h1:=z1 _ _ (Ee (h.prts.wf q hq) (h.prts.ne q hq)).1;have h2:A5 (Q8 p 0).1 (Q8 p 0).2 (Q8 q 0).1 (Q8 q 0).2:=by
  rcases(Ee (h.prts.wf p hp) (h.prts.ne p hp)).2 t n hm with⟨e1,e2⟩|h3
  ·rw[e1,e2];exact h1
  ·exact h3.trans h1
 exact j0i h2
def W5(a b:Aut):List Sy:=(Wa a.types.toNat (onA a++onA b)).map Qv
def Tv(a b:Aut)(s:Int×Int)(x:Sy):Int×Int:=(toL a s.1 x,toL b s.2 x)
def Vj(a b:Aut)(s:Int×Int):List (Sy×(Int×Int)):=(W5 a b).map fun x=>(x,Tv a b s x)
theorem Ip{a:Aut}{x:Sy}:okT a.types.toNat x↔Ed a x:=by
 unfold okT Ed;constructor
 ·rintro⟨h1,h2,h3⟩;exact⟨⟨h1,by omega⟩,h3⟩
 ·rintro⟨⟨h1,h2⟩,h3⟩;exact⟨h1,by omega,h3⟩
theorem x16{a b:Aut}(ha:OkA a)(hb:OkA b)(ht:b.types=a.types):Ltr a.types.toNat (onA a++onA b) (Wa a.types.toNat (onA a++onA b)):=
 c1n (by have:=ha.types;omega) fun p hp=>by
  rcases zO.1 hp with hp|hp
  ·exact Du ha p hp
  ·rw[←ht];exact Du hb p hp
theorem Zm{a:Aut}{m:Mv}(h:m∈a.mv):m.on∈onA a:=zM.2 ⟨m,h,rfl⟩
theorem Pe{a b:Aut}(ha:OkA a)(hb:OkA b)(ht:b.types=a.types)(s:Int×Int):SuccOk (Ed a) (Tv a b) s (Vj a b s):=by
 have hl:=x16 ha hb ht;refine⟨?_,fun e he=> ?_,fun y hy=> ?_⟩
 ·unfold Vj;exact xR.2 (hl.ascS.imp fun h=>h)
 ·obtain⟨x,hx,rfl⟩:=zM.1 he;obtain⟨c,hc,rfl⟩:=zM.1 hx;exact⟨Ip.1 (hl.least hc).1,rfl⟩
 ·obtain⟨c,hc,hm,hle,z1⟩:=hl.cov (Ip.2 hy);refine⟨(Qv c,Tv a b s (Qv c)),zM.2 ⟨Qv c,zM.2 ⟨c,hc,rfl⟩,rfl⟩,?_,hle⟩;unfold Tv;rw[w0u (fun m hm=>(z1 m.on (xC _ (Zm hm))).symm),w0u (a:=b) (fun m hm=>(z1 m.on (vA _ (Zm hm))).symm)]
def Lt(a b:Aut)(s:Int×Int):Bool:=a.fin.getD s.1.toNat false != b.fin.getD s.2.toNat false
def Dx(a b:Aut)(p q:Int):Option (List Sy)×List ((Int×Int)×List Sy):=Pr (Lt a b) (Vj a b) (a.fin.length * b.fin.length+1) 0 [((p,q),[])]
theorem Y8(a b:Aut):∀(w:List Sy) (p q:Int),Tt (Tv a b) (p,q) w=(stF a p w,stF b q w)
 |[],_,_=>rfl
 |x::w,p,q=>Y8 a b w (toL a p x) (toL b q x)
def Xs(a b:Aut):List (Int×Int):=(Wp a.fin.length).flatMap fun i=>(Wp b.fin.length).map fun j=>(i,j)
theorem Vn(a b:Aut):(Xs a b).length=a.fin.length * b.fin.length:=by unfold Xs;rw[vC,xU (g:=fun _=>b.fin.length) (fun i _=>by simp[Wp]),vG,wY];simp[Wp]
theorem Ca{a b:Aut}{s:Int×Int}(h1:inS a s.1)(h2:inS b s.2):s∈Xs a b:=by unfold Xs;rw[xL];exact⟨s.1,W1.2 h1,zM.2 ⟨s.2,W1.2 h2,rfl⟩⟩
def f1f(a b:Aut)(p q:Int)(w:List Sy):Prop:=FirstW (Ed a) (Tv a b) (Lt a b) (p,q) w
theorem Zx(a b:Aut)(p q:Int)(w:List Sy):Lt a b (Tt (Tv a b) (p,q) w)=true↔w0t a p w≠w0t b q w:=by rw[Y8];simp[Lt,w0t]
theorem d0e{a b:Aut}(ha:Dfa a)(hb:Dfa b)(ht:b.types=a.types){p q:Int}(hp:inS a p)(hq:inS b q):
  (∃w,(Dx a b p q).1=some w∧f1f a b p q w)∨((Dx a b p q).1=none∧∀w,(∀x∈w,Ed a x)→w0t a p w=w0t b q w):=by
 have z1:∀x,Ed a x→Ed b x:=fun x hx=>by unfold Ed at *;rw[ht];exact hx
 rcases Pt (ok:=Ed a) (step:=Tv a b) (good:=Lt a b) (succ:=Vj a b) (s0:=(p,q)) (G:=fun s=>inS a s.1∧inS b s.2) (fun s _=>Pe ha.ok hb.ok ht s)
  (fun s hs e he=>by
   obtain⟨h1,h2⟩:=(Pe ha.ok hb.ok ht s).mem e he;rw[h2];exact⟨(ha.next hs.1 h1).1,(hb.next hs.2 (z1 _ h1)).1⟩) (Xs a b) (fun s hs=>Ca hs.1 hs.2) (a.fin.length * b.fin.length+1) 0 [((p,q),[])] (by rw[Vn];omega) (by simp) (Ov ⟨hp,hq⟩)with⟨w,L,h1,h2⟩|⟨L,h1,_,_,h2⟩
 ·exact .inl ⟨w,by rw[Dx,h1],h2⟩
 ·refine .inr ⟨by rw[Dx,h1],fun w hw=> ?_⟩;have:=(h2 w hw).2;by_cases hd:w0t a p w=w0t b q w
  ·exact hd
  ·rw[(Zx a b p q w).2 hd]at this;cases this
end Go.Abs
namespace Go.Abs
def M9(a:Aut)(s:Int):List Mv:=a.mv.filter fun m=>decide (m.src=s) && !W2 m.on
def Vi(a b:Aut)(s:Int×Int):List (Sy×(Int×Int)):=(M9 a s.1).flatMap fun m=>(M9 b s.2).filterMap fun n=>if W2 (Wv m.on n.on)then none else some (Qv (Wv m.on n.on),(m.dst,n.dst))
theorem Nl{T:Nat}{p:Prd}(h:PWf T p):W2 p=false↔∃t n,PM p t n:=by
 cases hv:W2 p
 ·simp only[true_iff];apply Classical.byContradiction;intro hn;have:=(Rh h).2 (fun t n hm=>hn ⟨t,n,hm⟩);rw[hv]at this;cases this
 ·simp only[Bool.true_eq_false,false_iff];rintro⟨t,n,hm⟩;exact(Rh h).1 hv t n hm
theorem Ha{T:Nat}{p:Prd}(h:PWf T p)(hn:∃t n,PM p t n):okT T (Qv p)∧PM p (Qv p).ty.toNat (Qv p).num∧∀x,okT T x→PM p x.ty.toNat x.num→Qv p=x∨sLt (Qv p) x:=by
 have h1:=Ee h hn;have h2:=h.lt h1.1;refine⟨⟨by simp[Qv],by simpa[Qv]using h2.1,h2.2⟩,by simpa[Qv]using h1.1,fun x hx hm=> ?_⟩;rcases h1.2 _ _ hm with⟨e1,e2⟩|hlt
 ·left;unfold Qv;rw[e1,e2,show((x.ty.toNat:Nat):Int)=x.ty by have:=hx.1;omega]
 ·right;have:=j0i hlt;have e:(⟨(x.ty.toNat:Int),x.num⟩:Sy)=x:=by rw[show((x.ty.toNat:Nat):Int)=x.ty by have:=hx.1;omega]
  rw[e]at this;exact this
def lkN(near:List ((Int×Int)×Nat))(s:Int×Int):Option Nat:=(near.find? fun e=>decide (e.1=s)).map (·.2)
def j19(a:Aut)(near:List ((Int×Int)×Nat))(d:Nat)(s:Int×Int):Bool:=match d with
 |0=>Lt a a s
 |d+1=>(Vi a a s).any fun e=>decide (lkN near e.2=some d)
def g0d(a:Aut)(near:List ((Int×Int)×Nat))(d:Nat):List (Int×Int):=(Xs a a).filter fun s=>decide (lkN near s=none) && j19 a near d s
def c12(a:Aut):Nat→Nat→List ((Int×Int)×Nat)→List ((Int×Int)×Nat)
 |0,_,near=>near
 |f+1,d,near=>if g0d a near d=[]then near else c12 a f (d+1) (near++(g0d a near d).map fun s=>(s,d))
def w2a(a:Aut):List ((Int×Int)×Nat):=c12 a (a.fin.length * a.fin.length+1) 1 ((g0d a [] 0).map fun s=>(s,0))
def inP(a:Aut)(s:Int×Int):Prop:=inS a s.1∧inS a s.2
def f1v(a:Aut)(s:Int×Int)(d:Nat):Prop:=∃w:List Sy,w.length=d∧(∀x∈w,Ed a x)∧Lt a a (Tt (Tv a a) s w)=true
def z2s(a:Aut)(s:Int×Int)(d:Nat):Prop:=f1v a s d∧∀k,k<d→¬f1v a s k
structure NInv (a:Aut) (d:Nat) (near:List ((Int×Int)×Nat)):Prop where
 lk:∀s,inP a s→∀k,lkN near s=some k↔(k<d∧z2s a s k)
 keys:(near.map (·.1)).Nodup
 dom:∀e∈near,e.1∈Xs a a
def Md(x y:Sy):Bool:=decide (x.ty<y.ty) || (decide (x.ty=y.ty) && decide (x.num<y.num))
def w2m(es:List (Sy×(Int×Int))):Option (Sy×(Int×Int)):=es.foldl (fun b e=>match b with|none=>some e|some c=>if Md e.1 c.1 then some e else some c) none
theorem Kk(x y:Sy):Md x y=true↔sLt x y:=by simp[Md,sLt]
def d1b(a:Aut)(near:List ((Int×Int)×Nat)):Nat→Int×Int→List Sy
 |0,_=>[]
 |d+1,s=>match w2m ((Vi a a s).filter fun e=>decide (lkN near e.2=some d))with
  |some e=>e.1::d1b a near d e.2
  |none=>⟨0,0⟩::d1b a near d (0,0)
end Go.Abs
namespace Go.Abs
structure EqvB (n:Nat) (E:Nat→Nat→Bool):Prop where
 refl:∀i,i<n→E i i=true
 symm:∀i k,i<n→k<n→E i k=true→E k i=true
 trans:∀i k j,i<n→k<n→j<n→E i k=true→E k j=true→E i j=true
def u13(E:Nat→Nat→Bool)(st:List Nat×List Nat)(i:Nat):List Nat×List Nat:=
 match st.1.findIdx? (E i)with
 |some t=>(st.1,st.2++[t])
 |none=>(st.1++[i],st.2++[st.1.length])
def x2a(E:Nat→Nat→Bool)(n:Nat):List Nat×List Nat:=(yA n).foldl (u13 E) ([],[])
def u1u(E:Nat→Nat→Bool)(st:Nat×List Nat)(i:Nat):Nat×List Nat:=
 match (yA i).find? (E i)with
 |some k=>(st.1,st.2++[st.2.getD k 0])
 |none=>(st.1+1,st.2++[st.1])
def x2x(E:Nat→Nat→Bool)(n:Nat):Nat×List Nat:=(yA n).foldl (u1u E) (0,[])
structure ClsS (E:Nat→Nat→Bool) (n:Nat) (fs out:List Nat):Prop where
 len:out.length=n
 asc:fs.Pairwise (·<·)
 lt:∀r∈fs,r<n
 apart:fs.Pairwise (fun r s=>E r s=false)
 num:∀i,i<n→∃t r,out[i]? =some t∧fs[t]? =some r∧r≤i∧E i r=true
def eqW(a b:Aut)(p q:Int):Prop:=∀w,(∀x∈w,Ed a x)→w0t a p w=w0t b q w
def eqS(a:Aut)(i k:Nat):Bool:=(lkN (w2a a) ((i:Int),(k:Int))).isNone
def fsA(a:Aut):List Nat:=(x2a (eqS a) a.fin.length).1
def clA(a:Aut):List Nat:=(x2a (eqS a) a.fin.length).2
end Go.Abs
namespace Go.Abs
section
variable {α:Type} (key:α→Nat×Int)
def u1s(s:List α)(x:α):Nat→Nat
 |0=>0
 |j+1=>match s[j]? with
  |some y=>if y0q (key x) (key y)=true then u1s s x j else j+1
  |none=>j+1
def x29(s:List α)(x:α):List α:=s.take (u1s key s x s.length)++x::s.drop (u1s key s x s.length)
def w29(L:List α):List α:=L.foldl (x29 key) []
def ltG(p q:α):Prop:=A5 (key p).1 (key p).2 (key q).1 (key q).2
end
def clD(cl:List Nat)(m:Mv):Nat:=cl.getD m.dst.toNat 0
def kyM(m:Mv):Nat×Int:=Q8 m.on 0
def x27(a:Aut)(cl:List Nat)(s:Int):List Mv:=(M9 a s).foldl (fun g m=>Yo 0 g (clD cl m) m.on) []
def x22(a:Aut)(cl:List Nat)(s:Int):List Mv:=w29 kyM (x27 a cl s)
def v2d(a:Aut)(cl:List Nat)(s:Int)(t:Nat)(ty:Nat)(y:Int):Prop:=∃m∈M9 a s,clD cl m=t∧PM m.on ty y
structure MrgS (T:Nat) (D:Nat→Nat→Int→Prop) (g:List Mv):Prop where
 wf:∀m∈g,PWf T m.on
 src:∀m∈g,m.src=0
 dst:∀m∈g,∃t:Nat,m.dst=t
 nd:g.Pairwise (fun m k=>m.dst≠k.dst)
 mem:∀m∈g,∀t:Nat,m.dst=t→∀ty y,PM m.on ty y↔D t ty y
 all:∀t ty y,D t ty y→∃m∈g,m.dst=(t:Int)
 ne:∀m∈g,∃ty y,PM m.on ty y
def u2a(a:Aut)(cl:List Nat)(s:Int)(t:Nat):List Prd:=((M9 a s).filter fun m=>decide (clD cl m=t)).map (·.on)
end Go.Abs
namespace Go.Abs
def d1o(cl:List Nat)(t:Nat):Nat:=(cl.findIdx? fun c=>decide (c=t)).getD 0
def w21(a:Aut)(t:Nat):Prop:=t<(fsA a).length
def q2t(a:Aut)(s:Int):Nat:=(clA a).getD s.toNat 0
def q23(a:Aut)(t:Nat):Nat:=d1o (clA a) t
theorem q2u{a:Aut}{s:Int}(h:inS a s):s.toNat<a.fin.length∧((s.toNat:Nat):Int)=s:=by unfold inS at h;omega
def x2z(o:List Nat)(c:Nat):List Nat:=if c∈o then o else o++[c]
def g1r(o:List Nat)(l:List Mv):List Nat:=l.foldl (fun o m=>x2z o m.dst.toNat) o
def z2b(a:Aut)(t:Nat):List Mv:=x22 a (clA a) (q23 a t:Int)
def x1h(a:Aut):Nat→Nat→List Nat→List Nat
 |0,_,o=>o
 |f+1,n,o=>match o[n]? with
  |none=>o
  |some c=>x1h a f (n+1) (g1r o (z2b a c))
def v2e(a:Aut):List Nat:=x1h a (a.fin.length+1) 0 [q2t a 0]
def x21(o:List Nat)(c:Nat):Nat:=(o.findIdx? fun d=>decide (d=c)).getD 0
def mvN(a:Aut)(o:List Nat)(n:Nat):List Mv:=(z2b a (o.getD n 0)).map fun m=>⟨n,(x21 o m.dst.toNat:Int),m.on⟩
def c1m(a:Aut)(o:List Nat):Aut:=⟨a.types,o.map fun c=>a.fin.getD (q23 a c) false,(yA o.length).flatMap (mvN a o)⟩
def j0a(a:Aut):Aut:=c1m a (v2e a)
structure OrdS (a:Aut) (o:List Nat):Prop where
 first:o[0]? =some (q2t a 0)
 nd:o.Nodup
 cl:∀c∈o,w21 a c
 closed:∀c∈o,∀m∈z2b a c,m.dst.toNat∈o
section
variable {a b:Aut} (ha:Dfa a) (hb:Dfa b) (ht:b.types=a.types)
def x2s(a b:Aut)(c d:Nat):Prop:=w21 a c∧w21 b d∧eqW a b (q23 a c) (q23 b d)
structure LkO (a b:Aut) (o o':List Nat):Prop where
 len:o.length=o'.length
 k:∀(i c d:Nat),o[i]? =some c→o'[i]? =some d→x2s a b c d
theorem R8{a b:Aut}(ht:b.types=a.types){x:Sy}:Ed b x↔Ed a x:=by unfold Ed;rw[ht]
include ha hb ht
end
end Go.Abs
namespace Go.Abs
def q2s(m:Aut):Bool:=m.mv.any fun k=>k.on.any fun s=>decide (256<s.length)
section
variable {a:Aut} (ha:Dfa a) (hb:q2s (j0a a)=false)
include ha hb
end
def v27(a:Aut):Int×Aut:=if(Ro a).1≠0 then((Ro a).1,Oz)else if(v0b (Ro a).2).1≠0 then((v0b (Ro a).2).1,Oz)else
 if q2s (j0a (v0b (Ro a).2).2)then(5,Oz)else(0,j0a (v0b (Ro a).2).2)
end Go.Abs
namespace Go.Abs
def addI(o:List Int)(c:Int):List Int:=if c∈o then o else o++[c]
def j1t(o:List Int)(l:List Int):List Int:=l.foldl addI o
def k10(sc:Int→List Int):Nat→Nat→List Int→List Int
 |0,_,o=>o
 |f+1,n,o=>match o[n]? with
  |none=>o
  |some c=>k10 sc f (n+1) (j1t o (sc c))
structure SrchS (sc:Int→List Int) (o:List Int):Prop where
 nd:o.Nodup
 zero:(0:Int)∈o
 closed:∀c∈o,∀d∈sc c,d∈o
 least:∀S:Int→Prop,S 0→(∀c d,S c→d∈sc c→S d)→∀c∈o,S c
def x2w(a:Aut)(c:Int):List Int:=(M9 a c).map (·.dst)
def x2m(a:Aut)(c:Int):List Int:=(W5 a a).map (toL a c)
def v2g(a:Aut):Bool:=(k10 (x2w a) (a.fin.length+1) 0 [0]).length==a.fin.length
def x2g(a:Aut):Bool:=(k10 (x2m a) (a.fin.length+1) 0 [0]).length==a.fin.length
end Go.Abs
namespace Go.Abs
structure Dta (a:Aut):Prop where
 ok:OkA a
 det:Xu a
theorem w27{α:Type}{R:α→α→Prop}{l:List α}(h:l.Pairwise R){x y:α}(hx:x∈l)(hy:y∈l)(h1:¬R x y)(h2:¬R y x):x=y:=by
 obtain⟨i,hi,rfl⟩:=yC hx;obtain⟨j,hj,rfl⟩:=yC hy;rcases vY i j with k|k|k
 ·exact absurd (yD.1 h i j hi hj k) h1
 ·subst k;rfl
 ·exact absurd (yD.1 h j i hj hi k) h2
theorem Dta.one{a:Aut}(h:Dta a){m k:Mv}(hm:m∈a.mv)(hk:k∈a.mv)(hs:m.src=k.src){x:Sy}(hx:Ed a x)(h1:Rp m.on x=true)(h2:Rp k.on x=true):m=k:=
 w27 h.det hm hk (fun hr=>hr hs x hx ⟨h1,h2⟩) (fun hr=>hr hs.symm x hx ⟨h2,h1⟩)
theorem Dta.to_of{a:Aut}(h:Dta a){m:Mv}(hm:m∈a.mv){x:Sy}(hx:Ed a x)(hh:Rp m.on x=true):toL a m.src x=m.dst:=by
 unfold toL;cases hf:a.mv.find? (fun k=>decide (k.src=m.src) && Rp k.on x)with
 |none=>rw[u6]at hf;have:=hf m hm;simp[hh]at this
 |some k=>have h1:=ug hf;simp only[zR,decide_eq_true_eq]at h1;rw[h.one (vH hf) hm h1.1 hx h1.2 hh]
theorem D6{a:Aut}(s:Int)(x:Sy):(toL a s x= -1∧∀m∈a.mv,m.src=s→Rp m.on x=false)∨∃m∈a.mv,m.src=s∧Rp m.on x=true∧toL a s x=m.dst:=by
 unfold toL;cases hf:a.mv.find? (fun k=>decide (k.src=s) && Rp k.on x)with
 |none=>rw[u6]at hf;refine .inl ⟨rfl,fun m hm e=> ?_⟩;have:=hf m hm;simpa[e]using this
 |some k=>have h1:=ug hf;simp only[zR,decide_eq_true_eq]at h1;exact .inr ⟨k,vH hf,h1.1,h1.2,rfl⟩
theorem z2y{a:Aut}(h:OkA a)(s:Int)(x:Sy):toL a s x= -1∨inS a (toL a s x):=by
 rcases D6 (a:=a) s x with⟨h1,_⟩|⟨m,hm,_,_,e⟩
 ·exact .inl h1
 ·rw[e];exact .inr (h.mv m hm).dst
def wkS(a:Aut)(s:Int):List Sy→Option Int
 |[]=>some s
 |x::w=>if toL a s x<0 then none else wkS a (toL a s x) w
def fAt(f:List Int)(s:Int):Int:=f.getD s.toNat (-1)
structure IsoT (a b:Aut) (f:List Int):Prop where
 len:f.length=a.fin.length
 zero:fAt f 0=0
 low:∀q∈f,-1≤q
 fin:∀s,inS a s→0≤fAt f s→a.fin.getD s.toNat false=b.fin.getD (fAt f s).toNat false
 step:∀s,inS a s→0≤fAt f s→∀x,Ed a x→(toL a s x<0↔toL b (fAt f s) x<0)∧(0≤toL a s x→fAt f (toL a s x)=toL b (fAt f s) x)
 inj:∀s t,inS a s→inS a t→0≤fAt f s→fAt f s=fAt f t→s=t
 reach:∀s,inS a s→0≤fAt f s→∃w,(∀x∈w,Ed a x)∧wkS a 0 w=some s∧wkS b 0 w=some (fAt f s)
def v19(st:List Int×List Int)(e:Int×Int):Option (List Int×List Int):=
 if fAt st.1 e.1=e.2 then some st else if 0≤fAt st.1 e.1∨e.2∈st.1 then none else some (st.1.set e.1.toNat e.2,st.2++[e.1])
def f0w:List (Int×Int)→List Int×List Int→Option (List Int×List Int)
 |[],st=>some st
 |e::es,st=>(v19 st e).bind (f0w es)
def y2w(chk:Int→Int→Bool)(ps:Int→Int→List (Int×Int)):Nat→Nat→List Int×List Int→Option (List Int)
 |0,_,st=>some st.1
 |f+1,n,st=>match st.2[n]? with
  |none=>some st.1
  |some p=>if chk p (fAt st.1 p)then(f0w (ps p (fAt st.1 p)) st).bind (y2w chk ps f (n+1))else none
def v2a(a:Aut):List Int×List Int:=((List.replicate a.fin.length (-1)).set 0 0,[0])
structure IsoI (a b:Aut) (st:List Int×List Int):Prop where
 len:st.1.length=a.fin.length
 zero:fAt st.1 0=0
 low:∀q∈st.1,-1≤q
 mem:∀s,s∈st.2↔inS a s∧0≤fAt st.1 s
 nd:st.2.Nodup
 inj:∀s t,inS a s→inS a t→0≤fAt st.1 s→fAt st.1 s=fAt st.1 t→s=t
 reach:∀s,inS a s→0≤fAt st.1 s→∃w,(∀x∈w,Ed a x)∧wkS a 0 w=some s∧wkS b 0 w=some (fAt st.1 s)
 rng:∀s,inS a s→0≤fAt st.1 s→inS b (fAt st.1 s)
structure PsOk (a b:Aut) (chk:Int→Int→Bool) (ps:Int→Int→List (Int×Int)):Prop where
 chk:∀p q,inS a p→inS b q→(chk p q=true↔a.fin.getD p.toNat false=b.fin.getD q.toNat false∧∀x,Ed a x→(toL a p x<0↔toL b q x<0))
 from_:∀p q,inS a p→inS b q→∀e∈ps p q,∃x,Ed a x∧toL a p x=e.1∧toL b q x=e.2∧0≤e.1∧0≤e.2
 all:∀p q,inS a p→inS b q→∀x,Ed a x→0≤toL a p x→0≤toL b q x→(toL a p x,toL b q x)∈ps p q
end Go.Abs
namespace Go.Abs
def y27(a b:Aut)(p q:Int):Bool:=a.fin.getD p.toNat false==b.fin.getD q.toNat false
def y28(a:Aut)(p:Int):Prd:=Z7 a.types.toNat ((M9 a p).map (·.on))
def x2o(a b:Aut)(p q:Int):Bool:=y27 a b p q && decide (y28 a p=y28 b q)
def psP(a b:Aut)(p q:Int):List (Int×Int):=(Vi a b (p,q)).map (·.2)
def x2l(a b:Aut)(p q:Int)(x:Sy):Bool:=decide (toL a p x<0)==decide (toL b q x<0)
def v2n(a b:Aut)(p q:Int):Bool:=y27 a b p q && (W5 a b).all (x2l a b p q)
def ltP(a b:Aut)(p q:Int)(x:Sy):Int×Int:=(toL a p x,toL b q x)
def psR(a b:Aut)(p q:Int):List (Int×Int):=((W5 a b).filter fun x=>decide (0≤toL a p x∧0≤toL b q x)).map (ltP a b p q)
def v29(a b:Aut):(List Int×Bool)×Int:=
 if Wx a≠0 then(([],false),Wx a)else if Wx b≠0 then(([],false),Wx b)else if V2 a=false∨V2 b=false then(([],false),3)
 else if a.types≠b.types then(([],false),15)else match y2w (x2o a b) (psP a b) (a.fin.length+1) 0 (v2a a)with
  |some l=>((l,true),0)
  |none=>(([],false),0)
end Go.Abs
namespace Go.Abs
theorem x19{a:Aut}(h:OkA a)(x:Sy):toL a (-1) x= -1:=by
 rcases D6 (a:=a) (-1) x with⟨h1,_⟩|⟨m,hm,h2,_,_⟩
 ·exact h1
 ·have:=(h.mv m hm).src.1;omega
def inD(a:Aut)(s:Int):Prop:=s= -1∨inS a s
theorem Kx{a:Aut}(h:OkA a)(s:Int)(x:Sy):inD a (toL a s x):=z2y h s x
def q04(a:Aut)(s:Int):Bool:=decide (s≠ -1) && a.fin.getD s.toNat false
def mvS(a:Aut)(s:Int):List Mv:=a.mv.filter fun m=>decide (m.src=s)
def Ws(a:Aut)(s:Int):List (Option Mv):=(mvS a s).map some++[none]
def A4:Option Mv→Int
 |some m=>m.dst
 |none=> -1
def V9(a:Aut)(s:Int):Option Mv→Prd
 |some m=>m.on
 |none=>Ei (Z7 a.types.toNat ((mvS a s).map (·.on)))
def v0a(a:Aut)(s:Int)(o:Option Mv)(x:Sy):Prop:=PM (V9 a s o) x.ty.toNat x.num
theorem Rz{a:Aut}{s:Int}{m:Mv}:m∈mvS a s↔m∈a.mv∧m.src=s:=by unfold mvS;rw[List.mem_filter,decide_eq_true_eq]
theorem Uv{a:Aut}{s:Int}{o:Option Mv}:o∈Ws a s↔o=none∨∃m∈mvS a s,o=some m:=by
 unfold Ws;rw[zO,zM,zJ];constructor
 ·rintro(⟨m,hm,rfl⟩|rfl)
  ·exact .inr ⟨m,hm,rfl⟩
  ·exact .inl rfl
 ·rintro(rfl|⟨m,hm,rfl⟩)
  ·exact .inr rfl
  ·exact .inl ⟨m,hm,rfl⟩
theorem F3{a:Aut}(h:OkA a)(s:Int):∀p∈(mvS a s).map (·.on),PWf a.types.toNat p:=fun r hr=>by obtain⟨m,hm,rfl⟩:=zM.1 hr;exact h.wfA.on m (Rz.1 hm).1

theorem Zj{a:Aut}(h:OkA a){s:Int}{o:Option Mv}(ho:o∈Ws a s):PWf a.types.toNat (V9 a s o):=by
 rcases Uv.1 ho with rfl|⟨m,hm,rfl⟩
 ·exact Hw (Hu (F3 h s))
 ·exact h.wfA.on m (Rz.1 hm).1
theorem Iy{a:Aut}(h:OkA a)(s:Int){x:Sy}(hx:Ed a x):v0a a s none x↔∀m∈mvS a s,Rp m.on x=false:=by
 unfold v0a V9;rw[Fc (Hu (F3 h s)),Jx (F3 h s)];have hk:=Ip.2 hx;constructor
 ·rintro⟨_,hn⟩ m hm;cases hh:Rp m.on x with
  |false=>rfl
  |true=>exact absurd ⟨m.on,zM.2 ⟨m,hm,rfl⟩,(Up h.wfA (Rz.1 hm).1 hx).1 hh⟩ hn
 ·intro hn;refine⟨hk.2,?_⟩;rintro⟨r,hr,z1⟩;obtain⟨m,hm,rfl⟩:=zM.1 hr;have:=hn m hm;rw[(Up h.wfA (Rz.1 hm).1 hx).2 z1]at this;cases this
theorem Ih{a:Aut}(h:OkA a){s:Int}{m:Mv}(hm:m∈mvS a s){x:Sy}(hx:Ed a x):v0a a s (some m) x↔Rp m.on x=true:=(Up h.wfA (Rz.1 hm).1 hx).symm
theorem w0n{a:Aut}(h:Dta a){s:Int}{o:Option Mv}(ho:o∈Ws a s){x:Sy}(hx:Ed a x)(hh:v0a a s o x):toL a s x=A4 o:=by
 rcases Uv.1 ho with rfl|⟨m,hm,rfl⟩
 ·have hn:=(Iy h.ok s hx).1 hh;rcases D6 (a:=a) s x with⟨h1,_⟩|⟨m,h1,h2,h3,_⟩
  ·exact h1
  ·rw[hn m (Rz.2 ⟨h1,h2⟩)]at h3;cases h3
 ·obtain⟨h1,h2⟩:=Rz.1 hm;rw[←h2];exact h.to_of h1 hx ((Ih h.ok hm hx).1 hh)
theorem v01{a:Aut}(h:OkA a)(s:Int){x:Sy}(hx:Ed a x):∃o∈Ws a s,v0a a s o x:=by
 by_cases hn:∀m∈mvS a s,Rp m.on x=false
 ·exact⟨none,Uv.2 (.inl rfl),(Iy h s hx).2 hn⟩
 ·have:∃m∈mvS a s,Rp m.on x=true:=Classical.byContradiction fun k=>hn fun m hm=>by
   cases hh:Rp m.on x with
   |false=>rfl
   |true=>exact absurd ⟨m,hm,hh⟩ k
  obtain⟨m,hm,hh⟩:=this;exact⟨some m,Uv.2 (.inr ⟨m,hm,rfl⟩),(Ih h hm hx).2 hh⟩
theorem Mh{a:Aut}(h:Dta a)(s:Int):(Ws a s).Pairwise (fun o r=>∀x,Ed a x→v0a a s o x→¬v0a a s r x):=by
 unfold Ws;rw[zY,xR];refine⟨?_,List.pairwise_singleton ..,fun o ho r hr x hx h1 h2=> ?_⟩
 ·have hp:(mvS a s).Pairwise (fun m k=>m.src=k.src→∀x:Sy,Ed a x→¬(Rp m.on x=true∧Rp k.on x=true)):=h.det.filter _;refine hp.imp_of_mem fun {m k} hm hk hr x hx h1 h2=> ?_;have e:m.src=k.src:=by rw[(Rz.1 hm).2,(Rz.1 hk).2]
  exact hr e x hx ⟨(Ih h.ok hm hx).1 h1,(Ih h.ok hk hx).1 h2⟩
 ·rw[zJ.1 hr]at h2;obtain⟨m,hm,rfl⟩:=zM.1 ho;have:=(Iy h.ok s hx).1 h2 m hm;rw[(Ih h.ok hm hx).1 h1]at this;cases this
def Nj(a b:Aut)(s:Int×Int)(o r:Option Mv):Prd:=Wv (V9 a s.1 o) (V9 b s.2 r)
def w1g(a b:Aut)(s:Int×Int)(o r:Option Mv):Option (Sy×(Int×Int)):=if W2 (Nj a b s o r)then none else some (Qv (Nj a b s o r),(A4 o,A4 r))
def Z8(a b:Aut)(s:Int×Int):List (Sy×(Int×Int)):=(Ws a s.1).flatMap fun o=>(Ws b s.2).filterMap (w1g a b s o)
section
variable {a b:Aut} (ha:Dta a) (hb:Dta b) (ht:b.types=a.types) {s:Int×Int}
include ha hb ht
theorem v0m{o r:Option Mv}(ho:o∈Ws a s.1)(hr:r∈Ws b s.2):PWf a.types.toNat (Nj a b s o r)∧∀t n,PM (Nj a b s o r) t n↔PM (V9 a s.1 o) t n∧PM (V9 b s.2 r) t n:=by have w1:=Zj ha.ok ho;have w2:=Zj hb.ok hr;rw[ht]at w2;exact⟨Uq w1 w2.1,Ry w1.1 w2.1⟩
theorem Ug{o r:Option Mv}(ho:o∈Ws a s.1)(hr:r∈Ws b s.2){e:Sy×(Int×Int)}(he:w1g a b s o r=some e):Ed a e.1∧v0a a s.1 o e.1∧v0a b s.2 r e.1∧e.2=(A4 o,A4 r)∧∀y,Ed a y→v0a a s.1 o y→v0a b s.2 r y→e.1=y∨sLt e.1 y:=by
 obtain⟨hw,z1⟩:=v0m ha hb ht ho hr;unfold w1g at he;split at he
 ·cases he
 ·rename_i hv;obtain rfl:=Option.some.inj he;obtain⟨k1,k2,k3⟩:=Ha hw ((Nl hw).1 (by simpa using hv));obtain⟨p1,p2⟩:=(z1 _ _).1 k2;exact⟨Ip.1 k1,p1,p2,rfl,fun y hy h1 h2=>k3 y (Ip.2 hy) ((z1 _ _).2 ⟨h1,h2⟩)⟩
theorem u01{e:Sy×(Int×Int)}:e∈Z8 a b s↔∃o∈Ws a s.1,∃r∈Ws b s.2,w1g a b s o r=some e:=by unfold Z8;rw[xL];simp only[wM]
theorem c1v{e:Sy×(Int×Int)}(he:e∈Z8 a b s):Ed a e.1∧e.2=Tv a b s e.1:=by obtain⟨o,ho,r,hr,h⟩:=(u01 ha hb ht).1 he;obtain⟨k1,k2,k3,k4,_⟩:=Ug ha hb ht ho hr h;refine⟨k1,?_⟩;rw[k4];unfold Tv;rw[w0n ha ho k1 k2,w0n hb hr ((R8 ht).2 k1) k3]
theorem j1m{y:Sy}(hy:Ed a y):∃e∈Z8 a b s,e.2=Tv a b s y∧(e.1=y∨sLt e.1 y):=by
 have z1:=(R8 ht).2 hy;obtain⟨o,ho,h1⟩:=v01 ha.ok s.1 hy;obtain⟨r,hr,h2⟩:=v01 hb.ok s.2 z1;obtain⟨hw,z6⟩:=v0m ha hb ht ho hr;have hv:W2 (Nj a b s o r)=false:=(Nl hw).2 ⟨_,_,(z6 _ _).2 ⟨h1,h2⟩⟩;have he:w1g a b s o r=some (Qv (Nj a b s o r),(A4 o,A4 r)):=by unfold w1g;rw[hv,if_neg (by simp)]
 refine⟨_,(u01 ha hb ht).2 ⟨o,ho,r,hr,he⟩,?_,(Ug ha hb ht ho hr he).2.2.2.2 y hy h1 h2⟩;unfold Tv;rw[w0n ha ho hy h1,w0n hb hr z1 h2]
theorem x1q:(Z8 a b s).Pairwise (fun e e'=>e.1≠e'.1):=by
 unfold Z8;rw[List.pairwise_flatMap];refine⟨fun o ho=> ?_,(Mh ha s.1).imp_of_mem fun {o o'} ho ho' hd x hx y hy e=> ?_⟩
 ·rw[List.pairwise_filterMap];refine(Mh hb s.2).imp_of_mem fun {r r'} hr z1 hd x hx y hy e=> ?_;obtain⟨k1,_,k3,_⟩:=Ug ha hb ht ho hr hx;obtain⟨_,_,j3,_⟩:=Ug ha hb ht ho z1 hy;rw[←e]at j3;exact hd x.1 ((R8 ht).2 k1) k3 j3
 ·obtain⟨r,hr,h1⟩:=wM.1 hx;obtain⟨r',z1,h2⟩:=wM.1 hy;obtain⟨k1,k2,_⟩:=Ug ha hb ht ho hr h1;obtain⟨_,j2,_⟩:=Ug ha hb ht ho' z1 h2;rw[←e]at j2;exact hd x.1 k1 k2 j2
end
def V8(e e':Sy×(Int×Int)):Bool:= !Md e'.1 e.1
def Ui(a b:Aut)(s:Int×Int):List (Sy×(Int×Int)):=(Z8 a b s).mergeSort V8
theorem x0o(x y z:Sy×(Int×Int))(h1:V8 x y=true)(h2:V8 y z=true):V8 x z=true:=by
 unfold V8 at *
 cases hz:Md z.1 x.1 with
 |false=>rfl
 |true=>
  exfalso;rw[Kk]at hz;have n1:¬sLt y.1 x.1:=fun k=>by rw[(Kk _ _).2 k]at h1;simp at h1
  have n2:¬sLt z.1 y.1:=fun k=>by rw[(Kk _ _).2 k]at h2;simp at h2
  rcases sLt.tri x.1 y.1 with k|k|k
  ·exact n2 (hz.trans k)
  ·rw[k]at hz;exact n2 hz
  ·exact n1 k
theorem x0t(x y:Sy×(Int×Int)):(V8 x y || V8 y x)=true:=by
 unfold V8;cases h1:Md y.1 x.1 with
 |false=>rfl
 |true=>
  cases h2:Md x.1 y.1 with
  |false=>rfl
  |true=>exact absurd (((Kk _ _).1 h1).trans ((Kk _ _).1 h2)) (fun k=>sLt.irr k)
theorem J2{L:List (Sy×(Int×Int))}(hp:L.Pairwise fun x y=>V8 x y=true)(hn:L.Pairwise fun e e'=>e.1≠e'.1):L.Pairwise fun x y=>sLt x.1 y.1:=by
 refine(hp.and hn).imp fun {x y} h=> ?_;have n1:¬sLt y.1 x.1:=fun k=>by have:=h.1;unfold V8 at this;rw[(Kk _ _).2 k]at this;simp at this
 rcases sLt.tri x.1 y.1 with k|k|k
 ·exact k
 ·exact absurd k h.2
 ·exact absurd k n1
theorem q0w{a b:Aut}(ha:Dta a)(hb:Dta b)(ht:b.types=a.types)(s:Int×Int):(Ui a b s).Pairwise fun x y=>sLt x.1 y.1:=by refine J2 (vS x0o x0t _) ?_;exact(wJ (Z8 a b s) V8).symm.pairwise (x1q ha hb ht) (fun {x y} h=>h.symm)
theorem Al{a b:Aut}(ha:Dta a)(hb:Dta b)(ht:b.types=a.types)(s:Int×Int):SuccOk (Ed a) (Tv a b) s (Ui a b s):=by have hm:∀e,e∈Ui a b s↔e∈Z8 a b s:=fun e=>(wJ (Z8 a b s) V8).mem_iff;refine⟨q0w ha hb ht s,fun e he=>c1v ha hb ht ((hm e).1 he),fun y hy=> ?_⟩;obtain⟨e,he,h⟩:=j1m ha hb ht (s:=s) hy;exact⟨e,(hm e).2 he,h⟩
theorem v06{a b:Aut}(ha:Dta a)(hb:Dta b)(ht:b.types=a.types)(s:Int×Int){L:List (Sy×(Int×Int))}(hp:L.Perm (Z8 a b s))(hs:L.Pairwise fun x y=>V8 x y=true):L=Ui a b s:=by have h1:=J2 hs (hp.symm.pairwise (x1q ha hb ht) (fun {x y} h=>h.symm));refine List.Perm.eq_of_pairwise (le:=fun x y=>sLt x.1 y.1) (fun x y _ _ k1 k2=>absurd (k1.trans k2) (fun k=>sLt.irr k)) h1 (q0w ha hb ht s) (hp.trans (wJ (Z8 a b s) V8).symm)
end Go.Abs
namespace Go.Abs
structure FirstP (ok:Sy→Prop) (P:List Sy→Bool) (w:List Sy):Prop where
 okw:∀x∈w,ok x
 hit:P w=true
 least:∀v,(∀x∈v,ok x)→P v=true→lle w v
theorem FirstP.uniq{ok:Sy→Prop}{P:List Sy→Bool}{v w:List Sy}(h:FirstP ok P v)(k:FirstP ok P w):v=w:=
 (h.least w k.okw k.hit).anti (k.least v h.okw h.hit)
theorem FirstP.congr{ok:Sy→Prop}{P Q:List Sy→Bool}{w:List Sy}(h:FirstP ok P w)(e:∀v,(∀x∈v,ok x)→P v=Q v):FirstP ok Q w:=
 ⟨h.okw,by rw[←e w h.okw];exact h.hit,fun v hv hq=>h.least v hv (by rw[e v hv];exact hq)⟩
theorem FirstP.sub{ok ok':Sy→Prop}{P:List Sy→Bool}{w:List Sy}(h:FirstP ok P w)(e:∀x,ok x↔ok' x):FirstP ok' P w:=
 ⟨fun x hx=>(e x).1 (h.okw x hx),h.hit,fun v hv hq=>h.least v (fun x hx=>(e x).2 (hv x hx)) hq⟩
theorem FirstW.toP{σ:Type}{ok:Sy→Prop}{step:σ→Sy→σ}{good:σ→Bool}{s:σ}{w:List Sy}(h:FirstW ok step good s w):FirstP ok (fun v=>good (Tt step s v)) w:=⟨h.okw,h.goodw,h.least⟩
def f0i(s:Int):List Int:=if s= -1 then []else [s]
theorem q15{a:Aut}(h:Dta a){s:Int}{x:Sy}(hx:Ed a x):Q6 a [s] x=f0i (toL a s x):=by
 unfold f0i;rcases D6 (a:=a) s x with⟨h1,h2⟩|⟨m,m1,m2,m3,m4⟩
 ·rw[if_pos h1];refine wK.2 fun j hj=> ?_;obtain⟨_,m,hm,k1,k2,_⟩:=Eb.1 hj;rw[h2 m hm (zJ.1 k1)]at k2;cases k2
 ·have hd:=(h.ok.mv m m1).dst;rw[if_neg (by rw[m4];omega)];refine T8 (Yr ..) (by simp) fun z=> ?_;rw[Eb,zJ];constructor
  ·rintro⟨_,k,hk,k1,k2,rfl⟩;rw[←h.to_of hk hx k2,zJ.1 k1]
  ·rintro rfl;rw[m4];exact⟨hd,m,m1,by rw[m2];simp,m3,rfl⟩
theorem Ff(a:Aut)(x:Sy):Q6 a [] x=[]:=wK.2 fun j hj=>by obtain⟨_,m,hm,k1,_⟩:=Eb.1 hj;cases k1
theorem u0l{a:Aut}(h:Dta a):∀(w:List Sy) (s:Int),(∀x∈w,Ed a x)→Oj a (f0i s) w=f0i (stF a s w)
 |[],_,_=>rfl
 |x::w,s,hw=>by
  have hx:=hw x (by simp);have ih:=u0l h w (toL a s x) fun y hy=>hw y (by simp[hy]);show Oj a (Q6 a (f0i s) x) w=f0i (stF a (toL a s x) w);rw[←ih]
  congr 1
  by_cases hs:s= -1
  ·subst hs;rw[x19 h.ok];unfold f0i;rw[if_pos rfl,Ff]
  ·have:f0i s=[s]:=by unfold f0i;rw[if_neg hs]
   rw[this,q15 h hx]
theorem j18(a:Aut)(s:Int):Tk a (f0i s)=q04 a s:=by
 unfold f0i q04 Tk;by_cases hs:s= -1
 ·rw[if_pos hs,hs];rfl
 ·rw[if_neg hs];simp[hs]
theorem u0o{a:Aut}(h:Dta a){w:List Sy}(hw:∀x∈w,Ed a x):Yj a w=q04 a (stF a 0 w):=by unfold Yj;rw[←j18,←u0l h w 0 hw];rfl
def J3(n:Nat):List Int:= -1::Wp n
def z01(a b:Aut):List (Int×Int):=(J3 a.fin.length).flatMap fun i=>(J3 b.fin.length).map fun j=>(i,j)
theorem Hg(a b:Aut):(z01 a b).length=(a.fin.length+1) * (b.fin.length+1):=by unfold z01;rw[vC,xU (g:=fun _=>b.fin.length+1) (fun i _=>by simp[Wp,J3]),vG,wY];simp[Wp,J3]
theorem K5{a:Aut}{s:Int}:s∈J3 a.fin.length↔inD a s:=by unfold J3 inD;rw[zU,W1];exact Iff.rfl
theorem Fz{a b:Aut}{s:Int×Int}(h1:inD a s.1)(h2:inD b s.2):s∈z01 a b:=by unfold z01;exact xL.2 ⟨s.1,K5.2 h1,zM.2 ⟨s.2,K5.2 h2,rfl⟩⟩
def Ce(wn:Bool→Bool→Bool)(a b:Aut)(s:Int×Int):Bool:=wn (q04 a s.1) (q04 b s.2)
def H6(a b:Aut)(wn:Bool→Bool→Bool):Option (List Sy)×List ((Int×Int)×List Sy):=Pr (Ce wn a b) (Ui a b) ((a.fin.length+1) * (b.fin.length+1)+1) 0 [((0,0),[])]
def wnd(wn:Bool→Bool→Bool)(a b:Aut)(v:List Sy):Bool:=wn (Yj a v) (Yj b v)
theorem w0c{a b:Aut}(ha:Dta a)(hb:Dta b)(ht:b.types=a.types)(wn:Bool→Bool→Bool){v:List Sy}(hv:∀x∈v,Ed a x):Ce wn a b (Tt (Tv a b) (0,0) v)=wnd wn a b v:=by rw[Y8];unfold Ce wnd;rw[u0o ha hv,u0o hb fun x hx=>(R8 ht).2 (hv x hx)]
theorem Yc{a b:Aut}(ha:Dta a)(hb:Dta b)(ht:b.types=a.types)(wn:Bool→Bool→Bool):
  (∃w L,H6 a b wn=(some w,L)∧FirstP (Ed a) (wnd wn a b) w)∨
  (∃L,H6 a b wn=(none,L)∧(L.map (·.1)).Nodup∧(∀s,s∈L.map (·.1)↔∃v,(∀x∈v,Ed a x)∧Tt (Tv a b) (0,0) v=s)∧(∀s∈L.map (·.1),inD a s.1∧inD b s.2)∧∀v,(∀x∈v,Ed a x)→wnd wn a b v=false):=by
 have hz:inD a 0∧inD b 0:=⟨.inr ⟨yJ _,by have:=ha.ok.fin;omega⟩,.inr ⟨yJ _,by have:=hb.ok.fin;omega⟩⟩
 rcases Pt (ok:=Ed a) (step:=Tv a b) (good:=Ce wn a b) (succ:=Ui a b) (s0:=(0,0)) (G:=fun s=>inD a s.1∧inD b s.2) (fun s _=>Al ha hb ht s)
  (fun s _ e he=>by
   rw[((Al ha hb ht s).mem e he).2];exact⟨Kx ha.ok _ _,Kx hb.ok _ _⟩) (z01 a b) (fun s hs=>Fz hs.1 hs.2) ((a.fin.length+1) * (b.fin.length+1)+1) 0 [((0,0),[])] (by rw[Hg];omega) (by simp) (Ov (s0:=((0:Int),(0:Int))) hz)with⟨w,L,h1,h2⟩|⟨L,h1,h2,h3,h4⟩
 ·exact .inl ⟨w,L,h1,h2.toP.congr fun v hv=>w0c ha hb ht wn hv⟩
 ·refine .inr ⟨L,h1,h2,fun s=>⟨fun hs=> ?_,fun⟨v,hv,e⟩=> ?_⟩,fun s hs=> ?_,fun v hv=> ?_⟩
  ·obtain⟨e,he,rfl⟩:=zM.1 hs;exact⟨e.2,(h3 e he).1,(h3 e he).2.1⟩
  ·rw[←e];exact(h4 v hv).1
  ·obtain⟨e,he,rfl⟩:=zM.1 hs;exact(h3 e he).2.2
  ·rw[←w0c ha hb ht wn hv];exact(h4 v hv).2
end Go.Abs
namespace Go.Abs
theorem K6{a:Aut}{x y:Sy}(h:∀m∈a.mv,Rp m.on x=Rp m.on y)(l:List Int):Q6 a l x=Q6 a l y:=by unfold Q6;refine List.filter_congr fun j _=> ?_;unfold k0f;rw[yX,xN,xN];refine exists_congr fun m=>and_congr_right fun hm=> ?_;rw[h m hm]
abbrev SS:=List Int×List Int
def Jm(a b:Aut)(s:SS)(x:Sy):SS:=(Q6 a s.1 x,Q6 b s.2 x)
def R5(a b:Aut)(s:SS):List (Sy×SS):=(W5 a b).map fun x=>(x,Jm a b s x)
def Cc(wn:Bool→Bool→Bool)(a b:Aut)(s:SS):Bool:=wn (Tk a s.1) (Tk b s.2)
def k01(a b:Aut)(wn:Bool→Bool→Bool):Option (List Sy)×List (SS×List Sy):=Pr (Cc wn a b) (R5 a b) 66050 0 [(([0],[0]),[])]
theorem x1e(a b:Aut):∀(w:List Sy) (l m:List Int),Tt (Jm a b) (l,m) w=(Oj a l w,Oj b m w)
 |[],_,_=>rfl
 |x::w,l,m=>x1e a b w (Q6 a l x) (Q6 b m x)
theorem q0d{a b:Aut}(ha:OkA a)(hb:OkA b)(ht:b.types=a.types)(s:SS):SuccOk (Ed a) (Jm a b) s (R5 a b s):=by
 have hl:=x16 ha hb ht;refine⟨?_,fun e he=> ?_,fun y hy=> ?_⟩
 ·unfold R5;exact xR.2 (hl.ascS.imp fun h=>h)
 ·obtain⟨x,hx,rfl⟩:=zM.1 he;obtain⟨c,hc,rfl⟩:=zM.1 hx;exact⟨Ip.1 (hl.least hc).1,rfl⟩
 ·obtain⟨c,hc,hm,hle,z1⟩:=hl.cov (Ip.2 hy);refine⟨(Qv c,Jm a b s (Qv c)),zM.2 ⟨Qv c,zM.2 ⟨c,hc,rfl⟩,rfl⟩,?_,hle⟩;unfold Jm;rw[K6 (fun m hm=>(z1 m.on (xC _ (Zm hm))).symm),K6 (a:=b) (fun m hm=>(z1 m.on (vA _ (Zm hm))).symm)]
def Se(P Q:List (List Int)):List SS:=([]::P).flatMap fun i=>([]::Q).map fun j=>(i,j)
theorem Ct(P Q:List (List Int)):(Se P Q).length=(P.length+1) * (Q.length+1):=by unfold Se;rw[vC,xU (g:=fun _=>Q.length+1) (fun i _=>by simp),vG,wY];simp
theorem Gi{P Q:List (List Int)}{s:SS}(h1:s.1=[]∨s.1∈P)(h2:s.2=[]∨s.2∈Q):s∈Se P Q:=by unfold Se;exact xL.2 ⟨s.1,zU.2 h1,zM.2 ⟨s.2,zU.2 h2,rfl⟩⟩
theorem j0j{a b x y:Aut}(ha:OkA a)(hb:OkA b)(ht:b.types=a.types)(da:Ro a=(0,x))(db:Ro b=(0,y))(wn:Bool→Bool→Bool):
  (∃w L,k01 a b wn=(some w,L)∧FirstP (Ed a) (wnd wn a b) w)∨(∃L,k01 a b wn=(none,L)∧∀v,(∀z∈v,Ed a z)→wnd wn a b v=false):=by
 obtain⟨P,_,hP,z1,_⟩:=Yp ha da;obtain⟨Q,_,hQ,z6,_⟩:=Yp hb db;have step:∀(c:Aut) (cl:List Prd) (Q:List (List Int)),Sub c cl Q→Cls c cl→∀(l:List Int) (z:Sy),Ed c z→(l=[]∨l∈Q)→(Q6 c l z=[]∨Q6 c l z∈Q):=fun c cl Q hs hc l z hz hl=>by
  rcases hl with rfl|hl
  ·exact .inl (Ff _ _)
  ·exact hs.step hc hl hz
 have hw:∀v,Cc wn a b (Tt (Jm a b) ([0],[0]) v)=wnd wn a b v:=fun v=>by rw[x1e];rfl
 have hlen:(Se P Q).length+1≤0+66050:=by have h1:=hP.lim;have h2:=hQ.lim;rw[Ct];have:=Nat.mul_le_mul (show P.length+1≤257 by omega) (show Q.length+1≤257 by omega);omega
 rcases Pt (ok:=Ed a) (step:=Jm a b) (good:=Cc wn a b) (succ:=R5 a b) (s0:=(([0]:List Int),([0]:List Int))) (G:=fun s=>(s.1=[]∨s.1∈P)∧(s.2=[]∨s.2∈Q)) (fun s _=>q0d ha hb ht s)
  (fun s hs e he=>by
   obtain⟨h1,h2⟩:=(q0d ha hb ht s).mem e he;rw[h2];exact⟨step _ _ _ hP z1 _ _ h1 hs.1,step _ _ _ hQ z6 _ _ ((R8 ht).2 h1) hs.2⟩) (Se P Q) (fun s hs=>Gi hs.1 hs.2) 66050 0 [(([0],[0]),[])] hlen (by simp) (Ov (s0:=(([0]:List Int),([0]:List Int))) ⟨.inr (zF hP.first),.inr (zF hQ.first)⟩)with⟨w,L,h1,h2⟩|⟨L,h1,_,_,h4⟩
 ·exact .inl ⟨w,L,h1,h2.toP.congr fun v _=>hw v⟩
 ·exact .inr ⟨L,h1,fun v hv=>by rw[←hw v];exact(h4 v hv).2⟩
theorem Kd{a b x y:Aut}(ha:OkA a)(hb:OkA b)(ht:b.types=a.types)(da:Ro a=(0,x))(db:Ro b=(0,y))(wn:Bool→Bool→Bool):(k01 a b wn).1=(H6 x y wn).1:=by
 obtain⟨_,_,_,_,_,_,xo,xd,xt,xa⟩:=Yp ha da;obtain⟨_,_,_,_,_,_,yo,yd,yt,ya⟩:=Yp hb db;have z6:y.types=x.types:=by rw[yt,xt,ht]
 have z1:∀z,Ed x z↔Ed a z:=fun z=>R8 xt;have hw:∀v,(∀z∈v,Ed a z)→wnd wn x y v=wnd wn a b v:=fun v hv=>by unfold wnd;rw[xa v hv,ya v fun z hz=>(R8 ht).2 (hv z hz)]
 rcases j0j ha hb ht da db wn with⟨w,L,h1,h2⟩|⟨L,h1,h2⟩
 ·rcases Yc ⟨xo,xd⟩ ⟨yo,yd⟩ z6 wn with⟨v,M,k1,k2⟩|⟨M,k1,_,_,_,k2⟩
  ·rw[h1,k1];have:=(k2.sub z1).congr hw;rw[this.uniq h2]
  ·exfalso;have:=k2 w fun z hz=>(z1 z).2 (h2.okw z hz);rw[hw w h2.okw,h2.hit]at this;cases this
 ·rcases Yc ⟨xo,xd⟩ ⟨yo,yd⟩ z6 wn with⟨v,M,k1,k2⟩|⟨M,k1,_,_,_,k2⟩
  ·exfalso;have hv:=fun z hz=>(z1 z).1 (k2.okw z hz);have:=h2 v hv;rw[←hw v hv,k2.hit]at this;cases this
  ·rw[h1,k1]
def neB(x y:Bool):Bool:=x != y
theorem Sg{a b:Aut}(ha:Dfa a)(hb:Dfa b)(ht:b.types=a.types):(Dx a b 0 0).1=(H6 a b neB).1:=by
 have da:Dta a:=⟨ha.ok,ha.det⟩
 have db:Dta b:=⟨hb.ok,hb.det⟩
 have hz:=ha.zero;have z1:=hb.zero;have hd:∀v,(∀z∈v,Ed a z)→(w0t a 0 v≠w0t b 0 v↔wnd neB a b v=true):=fun v hv=>by unfold wnd neB;rw[ha.acc hv,hb.acc fun z hz=>(R8 ht).2 (hv z hz)];simp
 rcases d0e ha hb ht hz z1 with⟨w,h1,h2⟩|⟨h1,h2⟩
 ·have hf:FirstP (Ed a) (wnd neB a b) w:=by refine⟨h2.okw,(hd w h2.okw).1 ((Zx a b 0 0 w).1 h2.goodw),fun v hv hp=>h2.least v hv ((Zx a b 0 0 v).2 ((hd v hv).2 hp))⟩
  rcases Yc da db ht neB with⟨v,M,k1,k2⟩|⟨M,k1,_,_,_,k2⟩
  ·rw[h1,k1,hf.uniq k2]
  ·have:=k2 w hf.okw;rw[hf.hit]at this;cases this
 ·rcases Yc da db ht neB with⟨v,M,k1,k2⟩|⟨M,k1,_,_,_,k2⟩
  ·exact absurd (h2 v k2.okw) ((hd v k2.okw).2 k2.hit)
  ·rw[h1,k1]
def pLt(p q:Int×Int):Prop:=p.1<q.1∨(p.1=q.1∧p.2<q.2)
theorem pLt.irr{p:Int×Int}(h:pLt p p):False:=by unfold pLt at h;omega
theorem pLt.trans{p q r:Int×Int}(h:pLt p q)(k:pLt q r):pLt p r:=by unfold pLt at *;omega
theorem pLt.tri(p q:Int×Int):pLt p q∨p=q∨pLt q p:=by
 unfold pLt;by_cases h1:p.1=q.1
 ·by_cases h2:p.2=q.2
  ·exact .inr (.inl (Prod.ext h1 h2))
  ·omega
 ·omega
theorem S9{L M:List (Int×Int)}(h:L.Pairwise pLt)(k:M.Pairwise pLt)(e:∀s,s∈L↔s∈M):L=M:=by
 have nd:∀ {X:List (Int×Int)},X.Pairwise pLt→X.Nodup:=fun hx=>hx.imp fun h e=>by subst e;exact h.irr
 exact List.Perm.eq_of_pairwise (le:=pLt) (fun p q _ _ h1 h2=>(h1.trans h2).irr.elim) h k ((List.perm_ext_iff_of_nodup (nd h) (nd k)).2 e)
end Go.Abs
namespace Go.Abs
def pLe(p q:Int×Int):Bool:=decide (p.1<q.1) || (decide (p.1=q.1) && decide (p.2≤q.2))
theorem k00(p q r:Int×Int)(h:pLe p q=true)(k:pLe q r=true):pLe p r=true:=by unfold pLe at *;simp only[ww,zR,decide_eq_true_eq]at *;omega
theorem u0s(p q:Int×Int):(pLe p q || pLe q p)=true:=by unfold pLe;simp only[ww,zR,decide_eq_true_eq];omega
theorem x1t{p q:Int×Int}(h:pLe p q=true)(hn:p≠q):pLt p q:=by
 unfold pLe at h;simp only[ww,zR,decide_eq_true_eq]at h;rcases pLt.tri p q with k|k|k
 ·exact k
 ·exact absurd k hn
 ·unfold pLt at k;omega
def Tz(L:List (Int×Int)):List (Int×Int):=L.mergeSort pLe
theorem Fi{L:List (Int×Int)}(h:L.Nodup):(Tz L).Pairwise pLt:=by have h1:=vS k00 u0s L;have h2:(Tz L).Nodup:=(wJ L pLe).symm.nodup h;exact(h1.and h2).imp fun h=>x1t h.1 h.2
theorem Tr{L:List (Int×Int)}{s:Int×Int}:s∈Tz L↔s∈L:=(wJ L pLe).mem_iff
theorem y0d{L M:List (Int×Int)}(h:L.Nodup)(hp:M.Perm L)(hs:M.Pairwise fun p q=>pLe p q=true):M=Tz L:=by have hn:M.Nodup:=hp.symm.nodup h;exact S9 ((hs.and hn).imp fun h=>x1t h.1 h.2) (Fi h) fun s=>by rw[Tr];exact hp.mem_iff
def v0p(a b:Aut)(s:Int×Int):Prop:=∃v,(∀x∈v,Ed a x)∧Tt (Tv a b) (0,0) v=s
def X5(a b:Aut):List (Int×Int):=(Pr (fun _=>false) (Vj a b) ((a.fin.length+1) * (b.fin.length+1)+1) 0 [((0,0),[])]).2.map (·.1)
def Yd(a b:Aut):List (Int×Int):=(H6 a b neB).2.map (·.1)
theorem x00{a b:Aut}(ha:OkA a)(hb:OkA b)(ht:b.types=a.types):(X5 a b).Nodup∧(∀s,s∈X5 a b↔v0p a b s)∧∀s∈X5 a b,inD a s.1∧inD b s.2:=by
 have hz:inD a 0∧inD b 0:=⟨.inr ⟨yJ _,by have:=ha.fin;omega⟩,.inr ⟨yJ _,by have:=hb.fin;omega⟩⟩
 rcases Pt (ok:=Ed a) (step:=Tv a b) (good:=fun _=>false) (succ:=Vj a b) (s0:=((0:Int),(0:Int))) (G:=fun s=>inD a s.1∧inD b s.2) (fun s _=>Pe ha hb ht s)
  (fun s _ e he=>by
   rw[((Pe ha hb ht s).mem e he).2];exact⟨Kx ha _ _,Kx hb _ _⟩) (z01 a b) (fun s hs=>Fz hs.1 hs.2) ((a.fin.length+1) * (b.fin.length+1)+1) 0 [((0,0),[])] (by rw[Hg];omega) (by simp) (Ov (s0:=((0:Int),(0:Int))) hz)with⟨w,L,_,h2⟩|⟨L,h1,h2,h3,h4⟩
 ·exact absurd h2.goodw (by simp)
 ·unfold X5;rw[h1];refine⟨h2,fun s=>⟨fun hs=> ?_,fun⟨v,hv,e⟩=>by rw[←e];exact(h4 v hv).1⟩,fun s hs=> ?_⟩
  ·obtain⟨e,he,rfl⟩:=zM.1 hs;exact⟨e.2,(h3 e he).1,(h3 e he).2.1⟩
  ·obtain⟨e,he,rfl⟩:=zM.1 hs;exact(h3 e he).2.2
theorem F5{a b:Aut}(ha:Dta a)(hb:Dta b)(ht:b.types=a.types)(hn:(H6 a b neB).1=none):(Yd a b).Nodup∧Tz (Yd a b)=Tz (X5 a b)∧∀s,s∈Yd a b↔v0p a b s:=by
 obtain⟨r1,r2,_⟩:=x00 ha.ok hb.ok ht;rcases Yc ha hb ht neB with⟨w,L,h1,_⟩|⟨L,h1,h2,h3,_⟩
 ·rw[h1]at hn;cases hn
 ·have e:Yd a b=L.map (·.1):=by unfold Yd;rw[h1]
  have e2:∀s,s∈Yd a b↔v0p a b s:=fun s=>by rw[e];exact h3 s
  have n1:(Yd a b).Nodup:=by rw[e];exact h2
  exact⟨n1,S9 (Fi n1) (Fi r1) (fun s=>by rw[Tr,Tr,r2 s,e2 s]),e2⟩
def V0(a b:Aut)(s:Int×Int):Bool:=a.fin.getD s.1.toNat false==b.fin.getD s.2.toNat false
def Jl(a b:Aut)(l:List (Int×Int)):Bool:=decide ((0,0)∈l) && l.all fun s=>V0 a b s && (Vj a b s).all fun e=>decide (e.2∈l)
def D2(a b:Aut)(l:List (Int×Int)):Bool:=(l.all fun s=>V0 a b s && (Ui a b s).all fun e=>decide (e.2∈l)) && decide ((0,0)∈l)
theorem Fm{a b:Aut}{s:Int×Int}{L:List (Sy×(Int×Int))}(h:SuccOk (Ed a) (Tv a b) s L)(l:List (Int×Int)):(L.all fun e=>decide (e.2∈l))=true↔∀y,Ed a y→Tv a b s y∈l:=by
 rw[zP];constructor
 ·intro k y hy;obtain⟨e,he,e1,_⟩:=h.cov y hy;rw[←e1];simpa using k e he
 ·intro k e he;obtain⟨h1,h2⟩:=h.mem e he;rw[h2];simpa using k e.1 h1
theorem Lb{a b:Aut}(ha:OkA a)(hb:OkA b)(ht:b.types=a.types)(l:List (Int×Int)):Jl a b l=true↔(0,0)∈l∧∀s∈l,V0 a b s=true∧∀y,Ed a y→Tv a b s y∈l:=by
 unfold Jl;rw[zR,decide_eq_true_eq,zP];refine and_congr_right fun _=>⟨fun h s hs=> ?_,fun h s hs=> ?_⟩
 ·have:=h s hs;rw[zR]at this;exact⟨this.1,(Fm (Pe ha hb ht s) l).1 this.2⟩
 ·rw[zR];exact⟨(h s hs).1,(Fm (Pe ha hb ht s) l).2 (h s hs).2⟩
theorem g0j{a b:Aut}(ha:Dta a)(hb:Dta b)(ht:b.types=a.types)(l:List (Int×Int)):D2 a b l=Jl a b l:=by
 rw[yX,Lb ha.ok hb.ok ht];unfold D2;rw[zR,decide_eq_true_eq,zP];rw[and_comm];refine and_congr_right fun _=>⟨fun h s hs=> ?_,fun h s hs=> ?_⟩
 ·have:=h s hs;rw[zR]at this;exact⟨this.1,(Fm (Al ha hb ht s) l).1 this.2⟩
 ·rw[zR];exact⟨(h s hs).1,(Fm (Al ha hb ht s) l).2 (h s hs).2⟩
theorem y0h{a b:Aut}(ha:Dfa a)(hb:Dfa b)(ht:b.types=a.types){l:List (Int×Int)}(h:Jl a b l=true):∀w,(∀x∈w,Ed a x)→Yj a w=Yj b w:=by
 obtain⟨h0,hc⟩:=(Lb ha.ok hb.ok ht l).1 h;have key:∀(w:List Sy) (s:Int×Int),s∈l→(∀x∈w,Ed a x)→Tt (Tv a b) s w∈l:=by
  intro w;induction w with
  |nil=>intro s hs _;exact hs
  |cons x w ih=>intro s hs hw;exact ih _ ((hc s hs).2 x (hw x (by simp))) fun y hy=>hw y (by simp[hy])
 intro w hw;have hm:=(hc _ (key w (0,0) h0 hw)).1;rw[Y8]at hm;rw[ha.acc hw,hb.acc fun x hx=>(R8 ht).2 (hw x hx)];unfold V0 at hm;exact beq_iff_eq.1 hm
theorem Cv{a b:Aut}(ha:Dfa a)(hb:Dfa b)(ht:b.types=a.types)(hn:(H6 a b neB).1=none):Jl a b (Tz (Yd a b))=true:=by
 have da:Dta a:=⟨ha.ok,ha.det⟩
 have db:Dta b:=⟨hb.ok,hb.det⟩
 obtain⟨_,_,hr⟩:=F5 da db ht hn;have z1:∀v,(∀x∈v,Ed a x)→wnd neB a b v=false:=by
  rcases Yc da db ht neB with⟨w,L,h1,_⟩|⟨L,_,_,_,_,h2⟩
  ·rw[h1]at hn;cases hn
  ·exact h2
 rw[Lb ha.ok hb.ok ht];refine⟨by rw[Tr,hr];exact⟨[],by simp,rfl⟩,fun s hs=> ?_⟩;rw[Tr,hr]at hs;obtain⟨v,hv,e⟩:=hs;refine⟨?_,fun y hy=> ?_⟩
 ·have:=z1 v hv;unfold wnd neB at this;rw[ha.acc hv,hb.acc fun x hx=>(R8 ht).2 (hv x hx)]at this;rw[Y8]at e;rw[←e];unfold V0;unfold w0t at this;simpa using this
 ·rw[Tr,hr];refine⟨v++[y],fun x hx=>(zO.1 hx).elim (hv x) (fun k=>by rw[zJ.1 k];exact hy),?_⟩;rw[←e];simp[Tt,x_]
end Go.Abs
namespace Go.Abs
def c0w(b:Aut)(p:Int):List Sy→Prop
 |[]=>b.fin.getD p.toNat false=true
 |x::w=>∃q,q∈Q6 b [p] x∧c0w b q w
theorem K9{b:Aut}{l:List Int}{x:Sy}{q:Int}:q∈Q6 b l x↔∃p∈l,q∈Q6 b [p] x:=by
 rw[Eb];constructor
 ·rintro⟨h0,m,hm,h1,h2,h3⟩;exact⟨m.src,h1,Eb.2 ⟨h0,m,hm,by simp,h2,h3⟩⟩
 ·rintro⟨p,hp,hq⟩;obtain⟨h0,m,hm,h1,h2,h3⟩:=Eb.1 hq;rw[zJ]at h1;exact⟨h0,m,hm,by rw[h1];exact hp,h2,h3⟩
theorem Xp(b:Aut):∀(w:List Sy) (l:List Int),Tk b (Oj b l w)=true↔∃p∈l,c0w b p w
 |[],l=>by show Tk b l=true↔_;unfold Tk;rw[xN];exact Iff.rfl
 |x::w,l=>by
  show Tk b (Oj b (Q6 b l x) w)=true↔_;rw[Xp b w];constructor
  ·rintro⟨q,hq,h⟩;obtain⟨p,hp,z1⟩:=K9.1 hq;exact⟨p,hp,q,z1,h⟩
  ·rintro⟨p,hp,q,hq,h⟩;exact⟨q,K9.2 ⟨p,hp,hq⟩,h⟩
def dB(a b:Aut)(s:Int×List Int)(d:Nat):Prop:=∃w:List Sy,w.length=d∧(∀x∈w,Ed a x)∧c0w b s.1 w∧Tk a (Oj a s.2 w)=false
def mB(a b:Aut)(s:Int×List Int)(d:Nat):Prop:=dB a b s d∧∀k,k<d→¬dB a b s k
theorem u1e{a b:Aut}{s:Int×List Int}{d k:Nat}(h:mB a b s d)(h':mB a b s k):d=k:=by
 rcases vY d k with hlt|e|hlt
 ·exact absurd h.1 (h'.2 d hlt)
 ·exact e
 ·exact absurd h'.1 (h.2 k hlt)
theorem g1o{a b:Aut}{s:Int×List Int}:∀(d:Nat),dB a b s d→∃k,k≤d∧mB a b s k:=by
 intro d;induction d using Nat.strongRecOn with
 |_ d ih=>
  intro h;by_cases hk:∃k,k<d∧dB a b s k
  ·obtain⟨k,h1,h2⟩:=hk;obtain⟨j,h3,h4⟩:=ih k h1 h2;exact⟨j,by omega,h4⟩
  ·exact⟨d,zK _,h,fun k h1 h2=>hk ⟨k,h1,h2⟩⟩
def gB(b:Aut)(Q:List (List Int))(s:Int×List Int):Prop:=inS b s.1∧(s.2=[]∨s.2∈Q)
section
variable {a b:Aut} {Q:List (List Int)} (hst:∀l∈Q,∀x,Ed a x→Q6 a l x=[]∨Q6 a l x∈Q)
include hst
theorem j16{s:Int×List Int}(hs:gB b Q s){d:Nat}(h:mB a b s (d+1)):∃s',gB b Q s'∧mB a b s' d:=by
 obtain⟨⟨w,hw,ho,h1,h2⟩,z1⟩:=h;cases w with
 |nil=>cases hw
 |cons x w=>
  obtain⟨q,hq,h3⟩:=h1;have hx:=ho x (by simp);refine⟨(q,Q6 a s.2 x),⟨⟨(T7 q hq).1,(T7 q hq).2⟩,?_⟩,⟨w,by simpa using hw,fun y hy=>ho y (by simp[hy]),h3,h2⟩,fun k hk hd=> ?_⟩
  ·rcases hs.2 with h|h
   ·rw[h];exact .inl (Ff a x)
   ·exact hst _ h x hx
  ·obtain⟨v,hv,z6,v1,v2⟩:=hd;exact z1 (k+1) (by omega) ⟨x::v,by simp[hv],fun y hy=>(zU.1 hy).elim (fun e=>by rw[e];exact hx) (z6 y),⟨q,hq,v1⟩,v2⟩
theorem x1c:∀(k d:Nat) (s:Int×List Int),gB b Q s→mB a b s (d+k)→∃s',gB b Q s'∧mB a b s' d
 |0,_,s,hs,h=>⟨s,hs,h⟩
 |k+1,d,s,hs,h=>by obtain⟨s',h1,h2⟩:=j16 hst hs (d:=d+k) h;exact x1c k d s' h1 h2
theorem w1v{s:Int×List Int}(hs:gB b Q s){d:Nat}(h:mB a b s d):d+1≤b.fin.length * (Q.length+1):=by
 have hex:∀k,∃t:Int×List Int,k≤d→gB b Q t∧mB a b t k:=fun k=>by
  by_cases hk:k≤d
  ·obtain⟨t,h1,h2⟩:=x1c hst (d - k) k s hs (by rw[show k+(d - k)=d by omega];exact h);exact⟨t,fun _=>⟨h1,h2⟩⟩
  ·exact⟨s,fun h=>absurd h hk⟩
 obtain⟨f,hf⟩:=Classical.axiomOfChoice hex;have hU:∀t,gB b Q t→t∈(Wp b.fin.length).flatMap fun i=>([]::Q).map fun j=>(i,j):=fun t ht=>
  xL.2 ⟨t.1,W1.2 ht.1,zM.2 ⟨t.2,zU.2 ht.2,rfl⟩⟩
 have hlen:((Wp b.fin.length).flatMap fun i=>([]::Q).map fun j=>(i,j)).length=b.fin.length * (Q.length+1):=by rw[vC,xU (g:=fun _=>Q.length+1) (fun i _=>by simp),vG,wY];simp[Wp]
 have hn:((yA (d+1)).map f).Nodup:=by unfold List.Nodup;rw[xR];refine(List.nodup_range (n:=d+1)).imp_of_mem fun {i j} hi hj hij e=> ?_;have h1:=(hf i (by have:=yM.1 hi;omega)).2;have h2:=(hf j (by have:=yM.1 hj;omega)).2;rw[e]at h1;exact hij (u1e h1 h2)
 have:=hn.length_le_of_subset (l₂:=(Wp b.fin.length).flatMap fun i=>([]::Q).map fun j=>(i,j)) fun t ht=>by obtain⟨i,hi,rfl⟩:=zM.1 ht;exact hU _ (hf i (by have:=yM.1 hi;omega)).1
 rw[zV,List.length_range,hlen]at this;exact this
end
theorem g0p{v w:List Sy}(h:lle v w):v.length≤w.length:=by
 rcases h with rfl|h|h
 ·exact zK _
 ·omega
 ·omega
def x1z(x y:Bool):Bool:=y && !x
end Go.Abs
namespace Go.Abs
def y2o:List Iv→List Iv→Option Int
 |x::l,y::m=>if max x.lo y.lo≤min x.hi y.hi then some (max x.lo y.lo)else if x.hi<y.hi then y2o l (y::m)else y2o (x::l) m
 |_,_=>none
termination_by l m=>l.length+m.length
theorem f1w{x:Iv}{l:List Iv}(h:Sep (x::l)):∀n,M l n→x.hi<n:=by rintro n ⟨y,hy,h1,h2⟩;have:=(z_.1 h.2).1 y hy;omega
theorem Us{x:Iv}{l:List Iv}{n:Int}:M (x::l) n↔(x.lo≤n∧n≤x.hi)∨M l n:=by
 constructor
 ·rintro⟨y,hy,h⟩;rcases zU.1 hy with rfl|hy
  ·exact .inl h
  ·exact .inr ⟨y,hy,h⟩
 ·rintro(h|⟨y,hy,h⟩)
  ·exact⟨x,by simp,h⟩
  ·exact⟨y,by simp[hy],h⟩
theorem u0g{n:Int}:¬M [] n:=by rintro⟨y,hy,_⟩;cases hy
theorem z1u{x:Iv}{l:List Iv}(h:Sep (x::l)):Sep l:=⟨fun y hy=>h.1 y (by simp[hy]),(z_.1 h.2).2⟩
def lqB(p q:Prd):Nat→Nat→Option Sy
 |0,_=>none
 |f+1,t=>match y2o (p.getD t []) (q.getD t [])with
  |some n=>some ⟨t,n⟩
  |none=>lqB p q f (t+1)
def Co(p q:Prd):Option Sy:=if W2 (Wv p q)then none else some (Qv (Wv p q))
theorem Ly{p:Prd}{t:Nat}{n:Int}:PM p t n↔M (p.getD t []) n:=by
 constructor
 ·rintro⟨s,hs,h⟩;simpa[yQ,hs]using h
 ·intro h;by_cases ht:t<p.length
  ·rw[W7 ht]at h;exact⟨_,List.getElem?_eq_getElem ht,h⟩
  ·rw[show p.getD t []=[] by simp[yQ,List.getElem?_eq_none (by omega:p.length≤t)]]at h;exact absurd h u0g
end Go.Abs
namespace Go.Abs
def Ix(a:Aut):Int:=if Wx a≠0 then Wx a else if V2 a=false∨Vu a=false then 3 else 0
theorem Uo(a:Aut):Ix a=0↔Dfa a:=by
 unfold Ix;by_cases h:Wx a=0
 ·have z1:=(U7 a).1 h;rw[if_neg (fun k=>k h)];have h1:=Me z1.wfA;have h2:Vu a=true↔w1b a:=by rw[←q1s z1.wfA,X8];unfold Vu;rw[zP];simp only[yM];exact forall_congr' fun s=>forall_congr' fun _=>by rw[k1l z1.wfA]
  constructor
  ·intro k;split at k
   ·cases k
   ·rename_i hn;refine⟨z1,h1.1 ?_,h2.1 ?_⟩
    ·cases hs:V2 a
     ·exact absurd (.inl hs) hn
     ·rfl
    ·cases hs:Vu a
     ·exact absurd (.inr hs) hn
     ·rfl
  ·intro k;rw[if_neg];rintro(hs|hs)
   ·rw[h1.2 k.det]at hs;cases hs
   ·rw[h2.2 k.full]at hs;cases hs
 ·rw[if_pos h];exact⟨fun k=>absurd k h,fun k=>absurd ((U7 a).2 k.ok) h⟩
end Go.Abs
namespace Go.Abs
open Go Go.Proofs
attribute [simp] T68 T70 T87 T73 T23 T22 T25 T52 T26 T88
@[simp] def encP (p:Prd):AV:= .agg [.list (p.map encL)]
abbrev LP (l:List Prd):AV:= .list (l.map encP)
@[simp] def encSy (x:Sy):AV:= .agg [.i x.ty,.i x.num]
@[simp] def encMv (m:Mv):AV:= .agg [.i m.src,.i m.dst,.list (m.on.map encL)]
@[simp] def encA (a:Aut):AV:= .agg [.i a.types,.list (a.fin.map .bool),.list (a.mv.map encMv)]
attribute [local irreducible] ckR
theorem Hd(T:Int)(p:Prd):PC Tryz.prog 58 [.i T,encP p] (fun r=>r= .i (Ew T p)):=by
 refine Qs tOk Tryz.func58 rfl Tryz.results58 rfl (by simp[Tryz.ntmps58]) ?_;rw[Tryz.ntmps58];simp only[Qp];simp only[encP];refine Ww 1 0 rfl rfl (fun hlen=> ?_);rw[zV]at hlen;repeat first|(refine r_ ?_;simp)|refine q_ ?_
 refine Ql rfl (fun h=> ?_) (fun h=> ?_)
 ·repeat first|(refine r_ ?_;simp)|refine q_ ?_
  rw[Ew,if_pos (by simpa using h)]
 have h':¬(T<1∨16<T):=by simpa using h
 repeat first|(refine r_ ?_;simp)|refine q_ ?_
 refine Ql rfl (fun h2=> ?_) (fun h2=> ?_)
 ·repeat first|(refine r_ ?_;simp)|refine q_ ?_
  rw[Ew,if_neg h',if_pos (by simpa using h2)]
 have z7:(p.length:Int)=T:=by simpa using h2
 have hE:Ew T p=z0y p:=by rw[Ew,if_neg h',if_neg (by simpa using z7)]
 rw[hE];repeat first|(refine r_ ?_;simp)|refine q_ ?_
 refine Q4 p.length (fun j=>z0y p=z0y (p.drop j)) (fun j=>[(22,.list (p.map encL)),(23,.i p.length),(24,.i j)]) (fun _=>[]) rfl (by simp) (by simp) (by simp) (by simp) (by simp) ?_;intro j hj hI ih;repeat first|(refine r_ ?_;simp)|refine q_ ?_
 refine Ql rfl (fun z8=> ?_) (fun za=> ?_)
 ·have z1:j<p.length:=by simpa using z8
  have hw:IntKind.i64.wrap ((j:Int)+1)=j+1:=wrap_i64 _ (by omega) (by omega);rw[W6 z1,z0y]at hI;repeat first|(refine r_ ?_;simp[z1])|refine q_ ?_
  refine Qo rfl rfl (by simp) (q0r p[j]) rfl ?_;rintro _ rfl;simp;repeat first|(refine r_ ?_;simp)|refine q_ ?_
  refine Ql rfl (fun h3=> ?_) (fun h3=> ?_)
  ·repeat first|(refine r_ ?_;simp)|refine q_ ?_
   rw[hI,if_pos (by simpa using h3)]
  rw[if_neg (by simpa using h3)]at hI;repeat first|(refine r_ ?_;simp[hw])|refine q_ ?_
  refine Q3 _ (ih z1 hI) rfl (by simp) ?_ (by simp) (by simp);simp
 ·have z6:j=p.length:=by simp at za;omega
  subst z6;repeat first|(refine r_ ?_;simp)|refine q_ ?_
  rw[hI,yU];rfl
theorem K4(T:Int)(p:Prd):PC Tryz.prog 158 [.i T,encP p] (fun r=>r= .i (Ew T p)):=by
 refine Qs tOk Tryz.func158 rfl Tryz.results158 rfl (by simp[Tryz.ntmps158]) ?_;rw[Tryz.ntmps158];simp only[Qp];simp only[encP];refine Ww 1 0 rfl rfl (fun hlen=> ?_);rw[zV]at hlen;repeat first|(refine r_ ?_;simp)|refine q_ ?_
 refine Ql rfl (fun h=> ?_) (fun h=> ?_)
 ·repeat first|(refine r_ ?_;simp)|refine q_ ?_
  rw[Ew,if_pos (by simpa using h)]
 have h':¬(T<1∨16<T):=by simpa using h
 repeat first|(refine r_ ?_;simp)|refine q_ ?_
 refine Ql rfl (fun h2=> ?_) (fun h2=> ?_)
 ·repeat first|(refine r_ ?_;simp)|refine q_ ?_
  rw[Ew,if_neg h',if_pos (by simpa using h2)]
 have z7:(p.length:Int)=T:=by simpa using h2
 have hE:Ew T p=z0y p:=by rw[Ew,if_neg h',if_neg (by simpa using z7)]
 rw[hE];repeat first|(refine r_ ?_;simp)|refine q_ ?_
 refine Q4 p.length (fun j=>z0y p=z0y (p.drop j)) (fun j=>[(0,.i T),(3,.vptr 0 0),(5,.i j)]) (fun _=>[.vars [.list (p.map encL)]]) rfl (by simp) (by simp) (by simp) (by simp) (by simp) ?_;intro j hj hI ih;repeat first|(refine r_ ?_;simp)|refine q_ ?_
 refine Ql rfl (fun z8=> ?_) (fun za=> ?_)
 ·have z1:j<p.length:=by have k:(j:Int)<T:=(by simpa using z8);omega
  have hw:IntKind.i64.wrap ((j:Int)+1)=j+1:=wrap_i64 _ (by omega) (by omega);rw[W6 z1,z0y]at hI;repeat first|(refine r_ ?_;simp[z1])|refine q_ ?_
  refine Qo rfl rfl (by simp) (v0u p[j]) rfl ?_;rintro _ rfl;simp;repeat first|(refine r_ ?_;simp)|refine q_ ?_
  refine Ql rfl (fun h3=> ?_) (fun h3=> ?_)
  ·repeat first|(refine r_ ?_;simp)|refine q_ ?_
   rw[hI,if_pos (by simpa using h3)]
  rw[if_neg (by simpa using h3)]at hI;repeat first|(refine r_ ?_;simp[hw])|refine q_ ?_
  refine Q3 _ (ih z1 hI) rfl (by simp) ?_ (by simp) (by simp);simp
 ·have z6:j=p.length:=by have k:¬(j:Int)<T:=(by simpa using za);omega
  subst z6;repeat first|(refine r_ ?_;simp)|refine q_ ?_
  rw[hI,yU];rfl
end Go.Abs
namespace Go.Abs
open Go Go.Proofs
def H7:List Prd→Int
 |[]=>0
 |p::r=>if Ew p.length p≠0 then Ew p.length p else H7 r
attribute [local irreducible] Ew
theorem K1(l:List Prd):PC Tryz.prog 102 [LP l] (fun r=>r= .i (H7 l)):=by
 refine Qs tOk Tryz.func102 rfl Tryz.results102 rfl (by simp[Tryz.ntmps102]) ?_;rw[Tryz.ntmps102];simp only[Qp];refine R6 0 rfl (fun hlen=> ?_);rw[zV]at hlen;repeat first|(refine r_ ?_;simp)|refine q_ ?_
 refine Q4 l.length (fun j=>H7 l=H7 (l.drop j)) (fun j=>[(6,LP l),(7,.i l.length),(8,.i j)]) (fun _=>[]) rfl (by simp) (by simp) (by simp) (by simp) (by simp) ?_;intro j hj hI ih;repeat first|(refine r_ ?_;simp)|refine q_ ?_
 refine Ql rfl (fun z7=> ?_) (fun z8=> ?_)
 ·have z1:j<l.length:=by simpa using z7
  have hw:IntKind.i64.wrap ((j:Int)+1)=j+1:=wrap_i64 _ (by omega) (by omega);rw[W6 z1,H7]at hI;repeat first|(refine r_ ?_;simp[z1])|refine q_ ?_
  refine Qo rfl rfl (by simp) (Hd l[j].length l[j]) rfl ?_;rintro _ rfl;simp;repeat first|(refine r_ ?_;simp)|refine q_ ?_
  refine Ql rfl (fun h3=> ?_) (fun h3=> ?_)
  ·repeat first|(refine r_ ?_;simp)|refine q_ ?_
   rw[hI,if_pos (by simpa using h3)]
  rw[if_neg (by simpa using h3)]at hI;repeat first|(refine r_ ?_;simp[hw])|refine q_ ?_
  refine Q3 _ (ih z1 hI) rfl (by simp) ?_ (by simp) (by simp);simp
 ·have z6:j=l.length:=by simp at z8;omega
  subst z6;repeat first|(refine r_ ?_;simp)|refine q_ ?_
  rw[hI,yU];rfl
def d0n(p:Prd)(x:Sy):Int:=if H7 [p]≠0 then H7 [p]else G3 p.length x
def Xe(p:Prd)(x:Sy):Bool×Int:=if d0n p x≠0 then(false,d0n p x)else(Rp p x,0)
attribute [local irreducible] H7 y1a
theorem x1r{T:Int}{p:Prd}(h:Ew T p=0):H7 [p]=0∧(p.length:Int)=T:=by
 obtain⟨h1,h2⟩:=(El T p).1 h;have hl:(p.length:Int)=T:=by have:=h2.1;omega
 exact⟨by unfold H7;rw[hl,if_neg (fun k=>k h)];unfold H7;rfl,hl⟩
theorem d0w{p:Prd}(h:H7 [p]=0):∀s∈p,CanonL s:=by
 unfold H7 at h;by_cases hc:Ew p.length p=0
 ·exact((El _ p).1 hc).2.2
 ·rw[if_pos hc]at h;exact absurd h hc
theorem Tq(p:Prd)(x:Sy):PC Tryz.prog 43 [encP p,encSy x] (fun r=>r= .tup [.bool (Xe p x).1,.i (Xe p x).2]):=by
 refine Qs tOk Tryz.func43 rfl Tryz.results43 rfl (by simp[Tryz.ntmps43]) ?_;rw[Tryz.ntmps43];simp only[Qp];simp only[encP,encSy];refine Ww 0 0 rfl rfl (fun hlen=> ?_);rw[zV]at hlen;repeat first|(refine r_ ?_;simp)|refine q_ ?_
 refine Ic 2 rfl ?_;simp;refine Qo rfl rfl (by simp) (K1 [p]) rfl ?_;rintro _ rfl;simp;repeat first|(refine r_ ?_;simp)|refine q_ ?_
 refine Ql rfl (fun h=> ?_) (fun h=> ?_)
 ·repeat first|(refine r_ ?_;simp)|refine q_ ?_
  have h':H7 [p]≠0:=by simpa using h
  have hE:d0n p x=H7 [p]:=by rw[d0n,if_pos h']
  rw[Xe,hE,if_pos h'];exact⟨rfl,rfl⟩
 have h':H7 [p]=0:=by simpa using h
 have hE:d0n p x=G3 p.length x:=by rw[d0n,if_neg (fun k=>k h')]
 repeat first|(refine r_ ?_;simp)|refine q_ ?_
 refine Ql rfl (fun h1=> ?_) (fun h1=> ?_)
 ·repeat first|(refine r_ ?_;simp)|refine q_ ?_
  have z6:x.ty<0∨(p.length:Int)≤x.ty:=by simpa using h1
  have z1:d0n p x=6:=by rw[hE,G3,if_pos z6]
  rw[Xe,z1];exact⟨rfl,rfl⟩
 have z6:¬(x.ty<0∨(p.length:Int)≤x.ty):=by simpa using h1
 repeat first|(refine r_ ?_;simp)|refine q_ ?_
 refine Ql rfl (fun h2=> ?_) (fun h2=> ?_)
 ·repeat first|(refine r_ ?_;simp)|refine q_ ?_
  have z7:x.num< -1099511627776∨1099511627776<x.num:=by simpa using h2
  have z1:d0n p x=2:=by rw[hE,G3,if_neg z6,if_pos z7]
  rw[Xe,z1];exact⟨rfl,rfl⟩
 have z7:¬(x.num< -1099511627776∨1099511627776<x.num):=by simpa using h2
 have z1:d0n p x=0:=by rw[hE,G3,if_neg z6,if_neg z7]
 repeat first|(refine r_ ?_;simp)|refine q_ ?_
 have zb:0≤x.ty:=by omega
 have zc:x.ty<(p.length:Int):=by omega
 have z8:x.ty.toNat<p.length:=by omega
 refine Qy tOk mixed [] (.val 0 (.val 1 (.val 2 (.val 3 (.val 4 (.val 5 (.val 6 (.val 7 (.one 8 (.val 9 (.val 10 (.val 11 (.val 12 (.done)))))))))))))) rfl (by kernel_rfl) ?_;simp[zb,zc,z8];refine Qo rfl rfl (by simp) (G8 p[x.ty.toNat] x.num) rfl ?_;rintro _ rfl;simp;repeat first|(refine r_ ?_;simp)|refine q_ ?_
 have hc:=d0w h' _ (zG z8);have za:y1a p[x.ty.toNat] x.num=(O1 p[x.ty.toNat] x.num,0):=by rw[y1a,if_pos ((C7 _).2 hc)]
 rw[Xe,z1,if_neg (fun k=>k rfl),za];refine⟨?_,rfl⟩;simp[Rp,zb,zc,yQ,z8]
theorem Bk{T:Int}{p:Prd}(h:Ew T p=0)(x:Sy):Xe p x=if G3 T x≠0 then(false,G3 T x)else(Rp p x,0):=by
 obtain⟨h1,h2⟩:=x1r h;have hE:d0n p x=G3 T x:=by rw[d0n,if_neg (fun k=>k h1),h2]
 rw[Xe,hE]
end Go.Abs
namespace Go.Abs
open Go Go.Proofs
abbrev Q0 (a:Aut):List AV:=[.i a.types,.list (a.fin.map .bool),.list (a.mv.map encMv)]
theorem v1h(p:Prd)(x:Sy):PC Tryz.prog 170 [encP p,encSy x] (fun r=>r= .bool ((Xe p x).2==0 && (Xe p x).1)):=by
 refine Qs tOk Tryz.func170 rfl Tryz.results170 rfl (by simp[Tryz.ntmps170]) ?_;rw[Tryz.ntmps170];simp only[Qp];simp only[encP,encSy];repeat first|(refine r_ ?_;simp)|refine q_ ?_
 refine Qo rfl rfl (by simp) (Tq p x) rfl ?_;rintro _ rfl;simp;repeat first|(refine r_ ?_;simp)|refine q_ ?_
theorem Xl(p:Prd)(x:Sy):PC Tryz.prog 45 [encP p,encSy x] (fun r=>r= .bool ((Xe p x).1 && (Xe p x).2==0)):=by
 refine Qs tOk Tryz.func45 rfl Tryz.results45 rfl (by simp[Tryz.ntmps45]) ?_;rw[Tryz.ntmps45];simp only[Qp];simp only[encP,encSy];repeat first|(refine r_ ?_;simp)|refine q_ ?_
 refine Qo rfl rfl (by simp) (Tq p x) rfl ?_;rintro _ rfl;simp;repeat first|(refine r_ ?_;simp)|refine q_ ?_
def stB(a:Aut)(n:Int):Bool:=decide (0≤n) && decide (n<a.fin.length)
theorem Z3(a:Aut)(n:Int):stB a n=true↔0≤n∧n<a.fin.length:=by simp[stB]
theorem Zf(H:List AObj)(id:Nat)(a:Aut)(hid:H[id]? =some (.vars (Q0 a)))(n:Int):FC Tryz.prog 98 [.i n,.vptr id 0] H (fun r H'=>r= .bool (stB a n)∧H'=H):=by refine Ey tOk Tryz.func98 rfl Tryz.results98 rfl (by simp[Tryz.ntmps98]) ?_;rw[Tryz.ntmps98];simp only[Qp];repeat first|(refine r_ ?_;simp[hid,stB])|refine q_ ?_
attribute [local irreducible] Ew stB
theorem Ii(a:Aut):PC Tryz.prog 41 [encA a] (fun r=>r= .i (Wx a)):=by
 refine Qs tOk Tryz.func41 rfl Tryz.results41 rfl (by simp[Tryz.ntmps41]) ?_;rw[Tryz.ntmps41];simp only[Qp];simp only[encA];refine Ww 0 1 rfl rfl (fun z7=> ?_);refine Ww 0 2 rfl rfl (fun z8=> ?_);rw[zV]at z7 z8;repeat first|(refine r_ ?_;simp)|refine q_ ?_
 refine Ql rfl (fun h=> ?_) (fun h=> ?_)
 ·repeat first|(refine r_ ?_;simp)|refine q_ ?_
  rw[Wx,if_pos (by simpa using h)]
 have h1:¬(a.types<1∨16<a.types):=by simpa using h
 repeat first|(refine r_ ?_;simp)|refine q_ ?_
 refine Ql rfl (fun h=> ?_) (fun h=> ?_)
 ·repeat first|(refine r_ ?_;simp)|refine q_ ?_
  rw[Wx,if_neg h1,if_pos];simp at h;omega
 have h2:¬(a.fin.length<1∨256<a.fin.length∨2048<a.mv.length):=by simp at h;omega
 have hE:Wx a=w06 a.types a.fin.length a.mv:=by rw[Wx,if_neg h1,if_neg h2]
 rw[hE];repeat first|(refine r_ ?_;simp)|refine q_ ?_
 refine Q4 a.mv.length (fun j=>w06 a.types a.fin.length a.mv=w06 a.types a.fin.length (a.mv.drop j)) (fun j=>[(1,.vptr 0 0),(3,.fn (.func 98) [] [.vptr 0 0]),(33,.list (a.mv.map encMv)),(34,.i a.mv.length),(35,.i j)]) (fun _=>[.vars (Q0 a)]) rfl (by simp) (by simp) (by simp) (by simp) (by simp) ?_;intro j hj hI ih;repeat first|(refine r_ ?_;simp)|refine q_ ?_
 refine Ql rfl (fun za=> ?_) (fun zb=> ?_)
 ·have z1:j<a.mv.length:=by simpa using za
  have hw:IntKind.i64.wrap ((j:Int)+1)=j+1:=wrap_i64 _ (by omega) (by omega);rw[W6 z1,w06]at hI;repeat first|(refine r_ ?_;simp[z1])|refine q_ ?_
  cases hb:stB a a.mv[j].src with
  |false=>
   refine Wo rfl rfl (Zf _ 0 a rfl a.mv[j].src) rfl ?_;rintro r H' ⟨rfl,rfl⟩;simp[hb];repeat first|(refine r_ ?_;simp)|refine q_ ?_
   refine Wm rfl rfl ?_;simp;refine Q1 rfl ?_;repeat first|(refine r_ ?_;simp)|refine q_ ?_
   rw[hI,if_pos (fun k=>by rw[(Z3 _ _).2 k.1]at hb;cases hb)]
  |true=>
   refine Wo rfl rfl (Zf _ 0 a rfl a.mv[j].src) rfl ?_;rintro r H' ⟨rfl,rfl⟩;simp[hb];repeat first|(refine r_ ?_;simp)|refine q_ ?_
   refine Wo rfl rfl (Zf _ 0 a rfl a.mv[j].dst) rfl ?_;rintro r H' ⟨rfl,rfl⟩;simp;repeat first|(refine r_ ?_;simp)|refine q_ ?_
   refine Ql rfl (fun h3=> ?_) (fun h3=> ?_)
   ·repeat first|(refine r_ ?_;simp)|refine q_ ?_
    rw[hI,if_pos (fun k=>by rw[(Z3 _ _).2 k.2]at h3;cases h3)]
   have hd:stB a a.mv[j].dst=true:=by simpa using h3
   rw[if_neg (fun k=>k ⟨(Z3 _ _).1 hb,(Z3 _ _).1 hd⟩)]at hI;repeat first|(refine r_ ?_;simp)|refine q_ ?_
   refine Qo rfl rfl (by simp) (Hd a.types a.mv[j].on) rfl ?_;rintro _ rfl;simp;repeat first|(refine r_ ?_;simp)|refine q_ ?_
   refine Ql rfl (fun h4=> ?_) (fun h4=> ?_)
   ·repeat first|(refine r_ ?_;simp)|refine q_ ?_
    rw[hI,if_pos (by simpa using h4)]
   rw[if_neg (by simpa using h4)]at hI;repeat first|(refine r_ ?_;simp[hw])|refine q_ ?_
   refine Q3 _ (ih z1 hI) rfl (by simp) ?_ (by simp) (by simp);simp
 ·have z6:j=a.mv.length:=by simp at zb;omega
  subst z6;repeat first|(refine r_ ?_;simp)|refine q_ ?_
  rw[hI,yU];rfl
theorem Ot(a:Aut):PC Tryz.prog 90 [encA a] (fun r=>r= .i (Wx a)):=by
 refine Qs tOk Tryz.func90 rfl Tryz.results90 rfl (by simp[Tryz.ntmps90]) ?_;rw[Tryz.ntmps90];simp only[Qp];simp only[encA];refine Ww 0 1 rfl rfl (fun z7=> ?_);refine Ww 0 2 rfl rfl (fun z8=> ?_);rw[zV]at z7 z8;repeat first|(refine r_ ?_;simp)|refine q_ ?_
 refine Ql rfl (fun h=> ?_) (fun h=> ?_)
 ·repeat first|(refine r_ ?_;simp)|refine q_ ?_
  rw[Wx,if_pos (by simpa using h)]
 have h1:¬(a.types<1∨16<a.types):=by simpa using h
 repeat first|(refine r_ ?_;simp)|refine q_ ?_
 refine Ql rfl (fun h=> ?_) (fun h=> ?_)
 ·repeat first|(refine r_ ?_;simp)|refine q_ ?_
  rw[Wx,if_neg h1,if_pos];simp at h;omega
 have h2:¬(a.fin.length<1∨256<a.fin.length∨2048<a.mv.length):=by simp at h;omega
 have hE:Wx a=w06 a.types a.fin.length a.mv:=by rw[Wx,if_neg h1,if_neg h2]
 rw[hE];repeat first|(refine r_ ?_;simp)|refine q_ ?_
 refine Q4 a.mv.length (fun j=>w06 a.types a.fin.length a.mv=w06 a.types a.fin.length (a.mv.drop j)) (fun j=>[(1,.vptr 0 0),(3,.i a.fin.length),(4,.i j)]) (fun _=>[.vars (Q0 a)]) rfl (by simp) (by simp) (by simp) (by simp) (by simp) ?_;intro j hj hI ih;repeat first|(refine r_ ?_;simp)|refine q_ ?_
 refine Ql rfl (fun za=> ?_) (fun zb=> ?_)
 ·have z1:j<a.mv.length:=by simpa using za
  have hw:IntKind.i64.wrap ((j:Int)+1)=j+1:=wrap_i64 _ (by omega) (by omega);rw[W6 z1,w06]at hI;repeat first|(refine r_ ?_;simp[z1])|refine q_ ?_
  refine Ql rfl (fun h3=> ?_) (fun h3=> ?_)
  ·repeat first|(refine r_ ?_;simp)|refine q_ ?_
   rw[hI,if_pos];simp at h3;omega
  rw[if_neg (by simp at h3 ⊢;omega)]at hI;repeat first|(refine r_ ?_;simp)|refine q_ ?_
  refine Qo rfl rfl (by simp) (K4 a.types a.mv[j].on) rfl ?_;rintro _ rfl;simp;repeat first|(refine r_ ?_;simp)|refine q_ ?_
  refine Ql rfl (fun h4=> ?_) (fun h4=> ?_)
  ·repeat first|(refine r_ ?_;simp)|refine q_ ?_
   rw[hI,if_pos (by simpa using h4)]
  rw[if_neg (by simpa using h4)]at hI;repeat first|(refine r_ ?_;simp[hw])|refine q_ ?_
  refine Q3 _ (ih z1 hI) rfl (by simp) ?_ (by simp) (by simp);simp
 ·have z6:j=a.mv.length:=by simp at zb;omega
  subst z6;repeat first|(refine r_ ?_;simp)|refine q_ ?_
  rw[hI,yU];rfl
end Go.Abs
namespace Go.Abs
open Go Go.Proofs
attribute [local irreducible] ckR O1
theorem v1a(l:List Iv)(n:Int)(hl:l.length≤1000000000):PC Tryz.prog 247 [LIv l,.i n] (fun r=>r= .bool (O1 l n)):=by
 refine Qs tOk Tryz.func247 rfl Tryz.results247 rfl (by simp[Tryz.ntmps247]) ?_;rw[Tryz.ntmps247];simp only[Qp];obtain⟨R,hR⟩:∃R,O1 l n=R:=⟨_,rfl⟩
 rw[hR];repeat first|(refine r_ ?_;simp)|refine q_ ?_
 refine Q4 l.length (fun j=>O1 (l.drop j) n=R) (fun j=>[(0,LIv l),(1,.i n),(5,.i j)]) (fun _=>[]) rfl (by simp) (by simp) (by simp) (by simp) (by simpa using hR) ?_;intro j hj hI ih;repeat first|(refine r_ ?_;simp)|refine q_ ?_
 refine Ql rfl (fun z7=> ?_) (fun z8=> ?_)
 ·have z1:j<l.length:=by simpa using z7
  have hw:IntKind.i64.wrap ((j:Int)+1)=j+1:=wrap_i64 _ (by omega) (by omega);rw[W6 z1,q18]at hI;by_cases h1:l[j].lo≤n
  ·by_cases h2:n≤l[j].hi
   ·rw[(B7 ..).2 ⟨h1,h2⟩,Bool.true_or]at hI;repeat first|(refine r_ ?_;simp[z1,h1,h2])|refine q_ ?_
    refine Q1 rfl ?_;repeat first|(refine r_ ?_;simp)|refine q_ ?_
    exact hI.symm
   ·have h3:inI l[j].lo l[j].hi n=false:=by rw[wS,Ne,B7];omega
    rw[h3,uN]at hI;repeat first|(refine r_ ?_;simp[z1,h1,h2])|refine q_ ?_
    refine Q1 rfl ?_;repeat first|(refine r_ ?_;simp[hw])|refine q_ ?_
    exact Q3 _ (ih z1 hI) rfl (by simp) (by simp) (by simp) (by simp)
  ·have h3:inI l[j].lo l[j].hi n=false:=by rw[wS,Ne,B7];omega
   rw[h3,uN]at hI;repeat first|(refine r_ ?_;simp[z1,h1])|refine q_ ?_
   refine Q1 rfl ?_;repeat first|(refine r_ ?_;simp[hw])|refine q_ ?_
   exact Q3 _ (ih z1 hI) rfl (by simp) (by simp) (by simp) (by simp)
 ·have z6:j=l.length:=by simp at z8;omega
  subst z6;rw[yU]at hI;repeat first|(refine r_ ?_;simp)|refine q_ ?_
  rw[←hI];unfold O1;rfl
theorem u1q(x y:Iv)(b:List Iv):(y::b).filterMap (Ox x)=(Ox x y).toList++b.filterMap (Ox x):=by cases h:Ox x y<;>simp[h]
def g1b(x:Iv)(b:List Iv):List Iv:=b.filterMap (Ox x)
theorem Bd(x:Iv)(a b:List Iv):Rm (x::a) b=g1b x b++Rm a b:=rfl
theorem c09(x y:Iv)(b:List Iv):g1b x (y::b)=(Ox x y).toList++g1b x b:=u1q x y b
theorem v1x(x:Iv):g1b x []=[]:=rfl
theorem v02(b:List Iv):Rm [] b=[]:=rfl
attribute [local irreducible] Rm g1b Eo
theorem y1s(a b:List Iv)(ha:a.length≤1000000000)(hb:b.length≤1000000000)(hP:(Rm a b).length≤1000000000)(ze:∀y∈Rm a b,O0 y):PC Tryz.prog 218 [LIv a,LIv b] (fun r=>r=LIv (Eo (Rm a b))):=by
 refine Qs tOk Tryz.func218 rfl Tryz.results218 rfl (by simp[Tryz.ntmps218]) ?_;rw[Tryz.ntmps218];simp only[Qp];repeat first|(refine r_ ?_;simp)|refine q_ ?_
 refine Wg 5 144 2 rfl ?_;simp;repeat first|(refine r_ ?_;simp)|refine q_ ?_
 refine Qx (Qm (sl':=[(0,LIv a),(1,LIv b),(5,.sl 0 2 0 0),(6,.i 0)]) ?_ (by simp));refine Qw (F:=fun(u:Nat×Nat×List Iv×List AObj)=>⟨[(0,LIv a),(1,LIv b),(5,.sl u.2.1 2 0 u.2.2.1.length),(6,.i u.1)],u.2.2.2⟩)
  (fun u=>u.1≤a.length∧u.2.2.2[u.2.1]? =some (.arr 144 2 (u.2.2.1.map encIv))∧u.2.2.1++Rm (a.drop u.1) b=Rm a b) (fun u=>a.length - u.1) ?_ (0,0,[],[.arr 144 2 []]) ⟨by simp,rfl,by simp⟩
 rintro⟨j,q,acc,H2⟩ ⟨hj,g1,g2⟩ ih;simp only at hj g1 g2 ih ⊢;repeat first|(refine r_ ?_;simp)|refine q_ ?_
 refine Ql rfl (fun zf=> ?_) (fun zg=> ?_)
 ·have z6:j<a.length:=by simpa using zf
  have hw:IntKind.i64.wrap ((j:Int)+1)=j+1:=wrap_i64 _ (by omega) (by omega);rw[W6 z6,Bd]at g2;repeat first|(refine r_ ?_;simp)|refine q_ ?_
  refine Qx (Qm (sl':=[(0,LIv a),(1,LIv b),(5,.sl q 2 0 acc.length),(6,.i j),(7,.i 0)]) ?_ (by simp));refine Qw (F:=fun(u:Nat×Nat×List Iv×List AObj)=>⟨[(0,LIv a),(1,LIv b),(5,.sl u.2.1 2 0 u.2.2.1.length),(6,.i j),(7,.i u.1)],u.2.2.2⟩)
   (fun u=>u.1≤b.length∧u.2.2.2[u.2.1]? =some (.arr 144 2 (u.2.2.1.map encIv))∧u.2.2.1++(g1b a[j] (b.drop u.1)++Rm (a.drop (j+1)) b)=Rm a b) (fun u=>b.length - u.1) ?_ (0,q,acc,H2) ⟨by simp,g1,by simpa using g2⟩
  rintro⟨k,q1,acc1,H3⟩ ⟨hk,e1,e2⟩ ih1;simp only at hk e1 e2 ih1 ⊢;repeat first|(refine r_ ?_;simp)|refine q_ ?_
  refine Ql rfl (fun z8=> ?_) (fun za=> ?_)
  ·have z1:k<b.length:=by simpa using z8
   have zc:IntKind.i64.wrap ((k:Int)+1)=k+1:=wrap_i64 _ (by omega) (by omega);rw[W6 z1,c09]at e2;have zh:acc1.length≤1000000000:=by have:=congrArg vN e2;simp only[zW]at this;omega
   obtain⟨lo,hlo⟩:∃z,(if a[j].lo<b[k].lo then b[k].lo else a[j].lo)=z:=⟨_,rfl⟩
   obtain⟨hi,zd⟩:∃z,(if b[k].hi<a[j].hi then b[k].hi else a[j].hi)=z:=⟨_,rfl⟩
   have hm:Ox a[j] b[k]=if lo≤hi then some ⟨lo,hi⟩else none:=by simp only[Ox,hlo,zd]
   rw[hm]at e2;repeat first|(refine r_ ?_;simp[z6,z1])|refine q_ ?_
   refine Qy tOk mixed [] (.val 0 (.val 1 (.val 2 (.val 3 (.val 4 (.val 5 (.val 6 (.val 7 (.val 8 (.val 9 (.val 10 (.val 11 (.val 12 (.val 13 (.val 14 (.val 15 (.val 16 (.val 17 (.val 18 (.val 19 (.val 20 (.val 21 (.val 22 (.val 23 (.done))))))))))))))))))))))))) rfl (by kernel_rfl) ?_;simp[z6,z1,hlo,zd];repeat first|(refine r_ ?_;simp)|refine q_ ?_
   refine Ql rfl (fun h3=> ?_) (fun h3=> ?_)
   ·rw[if_pos (by simpa using h3)]at e2;repeat first|(refine r_ ?_;simp)|refine q_ ?_
    refine Qq tOk rfl rfl Ps rfl Hi rfl (by decide) (by decide) rfl rfl rfl ?_;simp[Qn e1,Qu e1];refine⟨by simp[W4,Qn e1,Qu e1]<;>omega,?_⟩;repeat first|(refine r_ ?_;simp[zc])|refine q_ ?_
    exact Qm (sl':=[(0,LIv a),(1,LIv b),(5,.sl (H3.length+1) 2 0 (acc1.length+1)),(6,.i j),(7,.i (k+1:Nat))]) (by
     have:=ih1 (k+1,H3.length+1,acc1++[(⟨lo,hi⟩:Iv)],H3.set q1 .dead++[.arr 144 2 [encIv (⟨lo,hi⟩:Iv)],.arr 144 2 ((acc1++[(⟨lo,hi⟩:Iv)]).map encIv)]) ⟨by simp;omega,by simp only;rw[zC (by simp)];simp,by simpa using e2⟩ (by simp;omega);simpa using this) (by simp)
   ·rw[if_neg (by simpa using h3)]at e2;repeat first|(refine r_ ?_;simp[zc])|refine q_ ?_
    exact Qm (sl':=[(0,LIv a),(1,LIv b),(5,.sl q1 2 0 acc1.length),(6,.i j),(7,.i (k+1:Nat))]) (by
     have:=ih1 (k+1,q1,acc1,H3) ⟨by simp;omega,e1,by simpa using e2⟩ (by simp;omega);simpa using this) (by simp)
  ·have z7:k=b.length:=by simp at za;omega
   subst z7;rw[yU,v1x,xP]at e2;repeat first|(refine r_ ?_;simp[hw])|refine q_ ?_
   exact Qm (sl':=[(0,LIv a),(1,LIv b),(5,.sl q1 2 0 acc1.length),(6,.i (j+1:Nat))]) (by
    have:=ih (j+1,q1,acc1,H3) ⟨by simp;omega,e1,e2⟩ (by simp;omega);simpa using this) (by simp)
 ·have zb:j=a.length:=by simp at zg;omega
  subst zb;rw[yU,v02,xV]at g2;subst g2;repeat first|(refine r_ ?_;simp)|refine q_ ?_
  refine Ic q g1 ?_;simp;rw[zI (by simp)];refine Qo rfl rfl (by simp) (Vt (Rm a b) hP ze) rfl ?_;rintro _ rfl;simp;repeat first|(refine r_ ?_;simp)|refine q_ ?_
theorem Lm(x:Iv)(r:List Iv)(n:Int):R0 (x::r) n=(if n<x.lo then [⟨n,x.lo - 1⟩]else [])++R0 r (x.hi+1):=rfl
theorem Vm(n:Int):R0 [] n=if n≤1099511627776 then [⟨n,1099511627776⟩]else []:=rfl
theorem q1o(l:List Iv):R0 l (-1099511627776)=En l:=rfl
attribute [local irreducible] En R0
theorem Cy(l:List Iv)(hs:Sep l)(hb:∀n,M l n→inR n)(hlen:l.length≤1000000000):PC Tryz.prog 252 [LIv l] (fun r=>r=LIv (En l)):=by
 refine Qs tOk Tryz.func252 rfl Tryz.results252 rfl (by simp[Tryz.ntmps252]) ?_;rw[Tryz.ntmps252];simp only[Qp];have ze:=(Sp hs hb).2.2;repeat first|(refine r_ ?_;simp)|refine q_ ?_
 refine Wg 3 144 2 rfl ?_;simp;repeat first|(refine r_ ?_;simp)|refine q_ ?_
 refine Qx (Qm (sl':=[(0,LIv l),(3,.sl 0 2 0 0),(4,.i (-1099511627776)),(5,.i 0)]) ?_ (by simp));refine Qw (F:=fun(u:Nat×Nat×List Iv×Int×List AObj)=>⟨[(0,LIv l),(3,.sl u.2.1 2 0 u.2.2.1.length),(4,.i u.2.2.2.1),(5,.i u.1)],u.2.2.2.2⟩)
  (fun u=>u.1≤l.length∧u.2.2.2.2[u.2.1]? =some (.arr 144 2 (u.2.2.1.map encIv))∧u.2.2.1++R0 (l.drop u.1) u.2.2.2.1=En l) (fun u=>l.length - u.1) ?_ (0,0,[],-1099511627776,[.arr 144 2 []]) ⟨by simp,rfl,by simp[q1o]⟩
 rintro⟨j,q,acc,n,H2⟩ ⟨hj,g1,g2⟩ ih;simp only at hj g1 g2 ih ⊢;have zf:acc.length≤1000000001:=by have:=congrArg vN g2;simp only[zW]at this;omega
 repeat first|(refine r_ ?_;simp)|refine q_ ?_
 refine Ql rfl (fun z8=> ?_) (fun za=> ?_)
 ·have z1:j<l.length:=by simpa using z8
  have zb:=hb _ ⟨l[j],zG z1,yJ _,hs.1 _ (zG z1)⟩;have zc:=hb _ ⟨l[j],zG z1,hs.1 _ (zG z1),yJ _⟩;unfold inR at zb zc;have hw:IntKind.i64.wrap ((j:Int)+1)=j+1:=wrap_i64 _ (by omega) (by omega);have zd:IntKind.i64.wrap (l[j].lo - 1)=l[j].lo - 1:=wrap_i64 _ (by omega) (by omega);have z7:IntKind.i64.wrap (l[j].hi+1)=l[j].hi+1:=wrap_i64 _ (by omega) (by omega);rw[W6 z1,Lm]at g2;repeat first|(refine r_ ?_;simp[z1])|refine q_ ?_
  refine Ql rfl (fun h3=> ?_) (fun h3=> ?_)
  ·rw[if_pos (by simpa using h3)]at g2;repeat first|(refine r_ ?_;simp[z1,zd])|refine q_ ?_
   refine Qq tOk rfl rfl Ps rfl Hi rfl (by decide) (by decide) rfl rfl rfl ?_;simp[Qn g1,Qu g1];refine⟨by simp[W4,Qn g1,Qu g1]<;>omega,?_⟩;repeat first|(refine r_ ?_;simp[z1,hw,z7])|refine q_ ?_
   exact Qm (sl':=[(0,LIv l),(3,.sl (H2.length+1) 2 0 (acc.length+1)),(4,.i (l[j].hi+1)),(5,.i (j+1:Nat))]) (by
    have:=ih (j+1,H2.length+1,acc++[(⟨n,l[j].lo - 1⟩:Iv)],l[j].hi+1,H2.set q .dead++[.arr 144 2 [encIv (⟨n,l[j].lo - 1⟩:Iv)],.arr 144 2 ((acc++[(⟨n,l[j].lo - 1⟩:Iv)]).map encIv)]) ⟨by simp;omega,by simp only;rw[zC (by simp)];simp,by simpa using g2⟩ (by simp;omega);simpa using this) (by simp)
  ·rw[if_neg (by simpa using h3)]at g2;repeat first|(refine r_ ?_;simp[z1,hw,z7])|refine q_ ?_
   exact Qm (sl':=[(0,LIv l),(3,.sl q 2 0 acc.length),(4,.i (l[j].hi+1)),(5,.i (j+1:Nat))]) (by
    have:=ih (j+1,q,acc,l[j].hi+1,H2) ⟨by simp;omega,g1,by simpa using g2⟩ (by simp;omega);simpa using this) (by simp)
 ·have z6:j=l.length:=by simp at za;omega
  subst z6;rw[yU,Vm]at g2;repeat first|(refine r_ ?_;simp)|refine q_ ?_
  refine Ql rfl (fun h3=> ?_) (fun h3=> ?_)
  ·rw[if_pos (by simpa using h3)]at g2;rw[←g2];repeat first|(refine r_ ?_;simp)|refine q_ ?_
   refine Qq tOk rfl rfl Ps rfl Hi rfl (by decide) (by decide) rfl rfl rfl ?_;simp[Qn g1,Qu g1];refine⟨by simp[W4,Qn g1,Qu g1]<;>omega,?_⟩;repeat first|(refine r_ ?_;simp)|refine q_ ?_
   rw[zI (by simp)]
  ·rw[if_neg (by simpa using h3),xV]at g2;subst g2;repeat first|(refine r_ ?_;simp[g1])|refine q_ ?_
   rw[zI (by simp)]
theorem d0t(a b:List Iv)(ha:Sep a)(hb:Sep b)(z1:a.length+b.length≤1000000000)(hi:∀x∈a,O0 x):PC Tryz.prog 218 [LIv a,LIv b] (fun r=>r=LIv (Tb a b)):=
 (y1s a b (by omega) (by omega) (by have:=f0a a b ha hb;omega) (y1l (.inl hi))).mono fun r h=>by rw[h,Tb]
end Go.Abs
