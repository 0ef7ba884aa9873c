/- Part Te of the proof: an abstract machine over the model, and what the functions of the program hand back in its terms. No condition. -/
import Derived.Test.YtjmkolhkojgjpaaGreatDoorTd
set_option linter.all false
open Nat renaming zero_le→xG,le_refl→zI,le_trans→yL,lt_trichotomy→vP,mul_le_mul_right→zR
open List renaming getElem?_eq_some_iff→zA,pairwise_iff_getElem→yA,mem_map→zL,mem_append→zN,mem_singleton→zK,mem_append_left→yT,mem_of_getElem?→zC,foldl_append→wI,pairwise_append→zW,mem_append_right→wV,reverse_cons→vY,mem_iff_getElem?→yB,reverse_reverse→vO,find?_eq_none→vW,mem_of_find?_eq_some→vu,find?_some→u9,find?_cons→uV,pairwise_map→xF,length_flatMap→wW,map_congr_left→xI,map_const'→vG,sum_replicate_nat→wP,mem_flatMap→xD,range→yD,getElem_of_mem→yE,mem_filterMap→ww,pairwise_mergeSort→vI,mergeSort_perm→xZ,eq_nil_iff_forall_not_mem→x_,mem_cons→zU,any_eq_true→wH,all_eq_true→zM,mem_range→yJ,length_map→zY,pairwise_cons→zZ,getD→yP,drop_length→xA
open Int renaming le_refl→yI
open Bool renaming eq_iff_iff→xE,and_eq_true→zQ,or_eq_true→xU
set_option maxHeartbeats 2000000
set_option linter.unusedSimpArgs false
set_option maxRecDepth 100000
namespace Go.Abs
def sLt(x y:Sy):Prop:=x.ty<y.ty∨(x.ty=y.ty∧x.num<y.num)
theorem sLt.irr{x:Sy}(h:sLt x x):False:=by unfold sLt at h;omega
theorem sLt.trans{x y z:Sy}(h:sLt x y)(k:sLt y z):sLt x z:=by unfold sLt at *;omega
theorem sLt.tri(x y:Sy):sLt x y∨x=y∨sLt y x:=by cases x;cases y;unfold sLt;simp only[Sy.mk.injEq];omega
def Bo:List Sy→List Sy→Prop
 |x::v,y::w=>sLt x y∨(x=y∧Bo v w)
 |_,_=>False
def ll(v w:List Sy):Prop:=v.length<w.length∨(v.length=w.length∧Bo v w)
def lle(v w:List Sy):Prop:=v=w∨ll v w
theorem Bo.irr:∀ {v:List Sy},¬Bo v v
 |[],h=>h
 |x::v,h=>by
  rcases h with h|⟨_,h⟩
  ·exact h.irr
  ·exact Bo.irr h
theorem Bo.trans:∀ {u v w:List Sy},Bo u v→Bo v w→Bo u w
 |[],_,_,h,_=>h.elim
 |_::_,[],_,h,_=>h.elim
 |_::_,_::_,[],_,k=>k.elim
 |x::u,y::v,z::w,h,k=>by
  rcases h with h|⟨rfl,h⟩
  ·rcases k with k|⟨rfl,k⟩
   ·exact .inl (h.trans k)
   ·exact .inl h
  ·rcases k with k|⟨rfl,k⟩
   ·exact .inl k
   ·exact .inr ⟨rfl,h.trans k⟩
theorem ll.irr{v:List Sy}(h:ll v v):False:=by
 rcases h with h|⟨_,h⟩
 ·omega
 ·exact Bo.irr h
theorem ll.trans{u v w:List Sy}(h:ll u v)(k:ll v w):ll u w:=by
 rcases h with h|⟨h1,h2⟩
 ·rcases k with k|⟨k1,_⟩
  ·exact .inl (by omega)
  ·exact .inl (by omega)
 ·rcases k with k|⟨k1,k2⟩
  ·exact .inl (by omega)
  ·exact .inr ⟨by omega,h2.trans k2⟩
theorem lle.refl(v:List Sy):lle v v:= .inl rfl
theorem lle.trans{u v w:List Sy}(h:lle u v)(k:lle v w):lle u w:=by
 rcases h with rfl|h
 ·exact k
 ·rcases k with rfl|k
  ·exact .inr h
  ·exact .inr (h.trans k)
theorem ll.lle{u v w:List Sy}(h:ll u v)(k:lle v w):ll u w:=by
 rcases k with rfl|k
 ·exact h
 ·exact h.trans k
theorem lle.anti{u v:List Sy}(h:lle u v)(k:lle v u):u=v:=by
 rcases h with rfl|h
 ·rfl
 ·exact((h.lle k).irr).elim
theorem N9:∀ {u v:List Sy} (a b:List Sy),u.length=v.length→Bo u v→Bo (u++a) (v++b)
 |[],_,_,_,_,h=>h.elim
 |_::_,[],_,_,_,h=>h.elim
 |x::u,y::v,a,b,e,h=>by
  rcases h with h|⟨rfl,h⟩
  ·exact .inl h
  ·exact .inr ⟨rfl,N9 a b (by simpa using e) h⟩
theorem Bc:∀(u:List Sy) {a b:List Sy},Bo a b→Bo (u++a) (u++b)
 |[],_,_,h=>h
 |_::u,_,_,h=> .inr ⟨rfl,Bc u h⟩
theorem v0m{u v:List Sy}(h:ll u v)(x y:Sy):ll (u++[x]) (v++[y]):=by
 rcases h with h|⟨h1,h2⟩
 ·exact .inl (by simp;omega)
 ·exact .inr ⟨by simp;omega,N9 _ _ h1 h2⟩
theorem Bx(u:List Sy){x y:Sy}(h:sLt x y):ll (u++[x]) (u++[y]):= .inr ⟨by simp,Bc u (.inl h)⟩
theorem d02{u v:List Sy}(h:lle u v){x y:Sy}(k:x=y∨sLt x y):lle (u++[x]) (v++[y]):=by
 rcases h with rfl|h
 ·rcases k with rfl|k
  ·exact .inl rfl
  ·exact .inr (Bx _ k)
 ·exact .inr (v0m h x y)
theorem w1u(u:List Sy)(x:Sy):ll u (u++[x]):= .inl (by simp)
theorem Pj{α:Type}[DecidableEq α]:∀(l U:List α),l.Nodup→(∀x∈l,x∈U)→l.length≤U.length
 |[],_,_,_=>xG _
 |x::l,U,hn,h=>by have hx:=h x (by simp);have hc:=List.nodup_cons.1 hn;have ih:=Pj l (U.erase x) hc.2 (fun y hy=>(List.mem_erase_of_ne (fun e=>hc.1 (by rw[←e];exact hy))).2 (h y (by simp[hy])));rw[List.length_erase_of_mem hx]at ih;have:=List.length_pos_of_mem hx;simp only[List.length_cons];omega
section
variable {σ:Type} [DecidableEq σ] (ok:Sy→Prop) (step:σ→Sy→σ) (good:σ→Bool)
def Rv(s:σ)(w:List Sy):σ:=w.foldl step s
structure FirstW (s:σ) (w:List Sy):Prop where
 okw:∀x∈w,ok x
 goodw:good (Rv step s w)=true
 least:∀v,(∀x∈v,ok x)→good (Rv step s v)=true→lle w v
variable {ok step good}
variable (ok step good)
structure SuccOk (s:σ) (l:List (Sy×σ)):Prop where
 asc:l.Pairwise (fun a b=>sLt a.1 b.1)
 mem:∀e∈l,ok e.1∧e.2=step s e.1
 cov:∀y,ok y→∃e∈l,e.2=step s y∧(e.1=y∨sLt e.1 y)
variable (succ:σ→List (Sy×σ))
def z0n(l:List (σ×List Sy))(t:σ)(w:List Sy):List (σ×List Sy):=if t∈l.map (·.1)then l else l++[(t,w)]
def Ed(l:List (σ×List Sy))(w:List Sy)(es:List (Sy×σ)):List (σ×List Sy):=es.foldl (fun l e=>z0n l e.2 (w++[e.1])) l
def Gu:Nat→Nat→List (σ×List Sy)→Option (List Sy)×List (σ×List Sy)
 |0,_,l=>(none,l)
 |f+1,n,l=>match l[n]? with
  |none=>(none,l)
  |some (s,w)=>if good s then(some w,l)else Gu f (n+1) (Ed l w (succ s))
variable (s0:σ) (G:σ→Prop)
structure BInv (n:Nat) (L:List (σ×List Sy)) (done:List (Sy×σ)):Prop where
 first:L[0]? =some (s0,[])
 mem:∀e∈L,(∀x∈e.2,ok x)∧Rv step s0 e.2=e.1∧G e.1
 asc:L.Pairwise (fun a b=>ll a.2 b.2)
 nd:(L.map (·.1)).Nodup
 bad:∀i s w,i<n→L[i]? =some (s,w)→good s=false
 cls:∀i s w,i<n→L[i]? =some (s,w)→∀e∈succ s,∃v,(e.2,v)∈L∧lle v (w++[e.1])
 cur:∀s w,L[n]? =some (s,w)→∀e∈done,∃v,(e.2,v)∈L∧lle v (w++[e.1])
 org:∀d∈L,d.2=[]∨∃i s w x,L[i]? =some (s,w)∧d.2=w++[x]∧(i<n∨(i=n∧∃e∈done,e.1=x))
variable {ok step good succ s0 G}
theorem BInv.low{n:Nat}{L:List (σ×List Sy)}{done:List (Sy×σ)}(h:BInv ok step good succ s0 G n L done){s:σ}{w:List Sy}(hn:L[n]? =some (s,w))(x:Sy)(hx:∀e∈done,sLt e.1 x):∀e∈L,ll e.2 (w++[x]):=by
 intro d hd;rcases h.org d hd with e|⟨i,s',w',y,hi,e,hc⟩
 ·rw[e];exact .inl (by simp)
 ·rw[e];rcases hc with hc|⟨rfl,c,hc,rfl⟩
  ·obtain⟨h1,h2⟩:=zA.1 hi;obtain⟨h3,h4⟩:=zA.1 hn;have:=yA.1 h.asc i n h1 h3 hc;rw[h2,h4]at this;exact v0m this _ _
  ·rw[hn]at hi;cases hi;exact Bx _ (hx c hc)
theorem BInv.add {n:Nat} {L:List (σ×List Sy)} {done:List (Sy×σ)} (h:BInv ok step good succ s0 G n L done) {s:σ} {w:List Sy} (hn:L[n]? =some (s,w)) {e:Sy×σ} (he:ok e.1∧e.2=step s e.1) (hG:G e.2)
  (z8:∀d∈done,sLt d.1 e.1):BInv ok step good succ s0 G n (z0n L e.2 (w++[e.1])) (done++[e])∧(z0n L e.2 (w++[e.1]))[n]? =some (s,w):=by
 have zb:=(zA.1 hn).1;have z7:=h.low hn e.1 z8;unfold z0n;by_cases hin:e.2∈L.map (·.1)
 ·rw[if_pos hin];obtain⟨⟨t,v⟩,hv,ht⟩:=zL.1 hin;simp only at ht;subst ht;refine⟨⟨h.first,h.mem,h.asc,h.nd,h.bad,h.cls,fun s' w' z6 d hd=> ?_,fun d hd=> ?_⟩,hn⟩
  ·rw[hn]at z6;cases z6;rcases zN.1 hd with hd|hd
   ·exact h.cur s w hn d hd
   ·obtain rfl:=zK.1 hd;exact⟨v,hv,.inr (z7 _ hv)⟩
  ·rcases h.org d hd with e'|⟨i,s',w',y,hi,e',hc⟩
   ·exact .inl e'
   ·exact .inr ⟨i,s',w',y,hi,e',hc.imp id fun⟨k1,c,k2,k3⟩=>⟨k1,c,yT _ k2,k3⟩⟩
 ·rw[if_neg hin];have z1:∀i,i≤n→(L++[(e.2,w++[e.1])])[i]? =L[i]? :=fun i hi=>List.getElem?_append_left (by omega);have hw:=h.mem _ (zC hn);refine⟨⟨by rw[z1 0 (xG _)];exact h.first,fun d hd=> ?_,?_,?_,fun i s' w' hi z6=>h.bad i s' w' hi (by rw[←z1 i (by omega)];exact z6),fun i s' w' hi z6 d hd=> ?_,fun s' w' z6 d hd=> ?_,fun d hd=> ?_⟩,by rw[z1 n (zI _)];exact hn⟩
  ·rcases zN.1 hd with hd|hd
   ·exact h.mem d hd
   ·obtain rfl:=zK.1 hd;refine⟨fun x hx=> ?_,?_,hG⟩
    ·rcases zN.1 hx with hx|hx
     ·exact hw.1 x hx
     ·obtain rfl:=zK.1 hx;exact he.1
    ·show Rv step s0 (w++[e.1])=e.2;have h2:Rv step s0 w=s:=hw.2.1;rw[Rv,wI];show step (Rv step s0 w) e.1=e.2;rw[h2,he.2]
  ·exact zW.2 ⟨h.asc,by simp,fun a ha b hb=>by obtain rfl:=zK.1 hb;exact z7 a ha⟩
  ·rw[List.map_append];exact List.nodup_append.2 ⟨h.nd,by simp,fun a ha b hb e'=>by
    simp at hb;subst hb;subst e';exact hin ha⟩
  ·rw[z1 i (by omega)]at z6;obtain⟨v,hv,hl⟩:=h.cls i s' w' hi z6 d hd;exact⟨v,yT _ hv,hl⟩
  ·rw[z1 n (zI _),hn]at z6;cases z6;rcases zN.1 hd with hd|hd
   ·obtain⟨v,hv,hl⟩:=h.cur s w hn d hd;exact⟨v,yT _ hv,hl⟩
   ·obtain rfl:=zK.1 hd;exact⟨_,wV _ (by simp),.inl rfl⟩
  ·rcases zN.1 hd with hd|hd
   ·rcases h.org d hd with e'|⟨i,s',w',y,hi,e',hc⟩
    ·exact .inl e'
    ·have za:i≤n:=by rcases hc with hc|hc<;>omega
     exact .inr ⟨i,s',w',y,by rw[z1 i za];exact hi,e',hc.imp id fun⟨k1,c,k2,k3⟩=>⟨k1,c,yT _ k2,k3⟩⟩
   ·obtain rfl:=zK.1 hd;exact .inr ⟨n,s,w,e.1,by rw[z1 n (zI _)];exact hn,rfl,.inr ⟨rfl,e,by simp,rfl⟩⟩
theorem BInv.round{n:Nat}:∀(es:List (Sy×σ)) (done:List (Sy×σ)) (L:List (σ×List Sy)) {s:σ} {w:List Sy},BInv ok step good succ s0 G n L done→L[n]? =some (s,w)→(∀e∈es,ok e.1∧e.2=step s e.1)→(∀e∈es,G e.2)→
  (done++es).Pairwise (fun a b=>sLt a.1 b.1)→BInv ok step good succ s0 G n (Ed L w es) (done++es)∧(Ed L w es)[n]? =some (s,w)
 |[],done,L,s,w,h,hn,_,_,_=>by simpa[Ed]using⟨h,hn⟩
 |e::es,done,L,s,w,h,hn,hm,hG,hp=>by have z1:∀d∈done,sLt d.1 e.1:=fun d hd=>(zW.1 hp).2.2 d hd e (by simp);obtain⟨h1,h2⟩:=h.add hn (hm e (by simp)) (hG e (by simp)) z1;have:=BInv.round es (done++[e]) _ h1 h2 (fun d hd=>hm d (by simp[hd])) (fun d hd=>hG d (by simp[hd])) (by simpa using hp);simpa[Ed]using this
theorem BInv.next{n:Nat}{L:List (σ×List Sy)}{s:σ}{w:List Sy}(h:BInv ok step good succ s0 G n L [])(hn:L[n]? =some (s,w))(hg:good s=false)(hs:SuccOk ok step s (succ s))(hG:∀e∈succ s,G e.2):
  BInv ok step good succ s0 G (n+1) (Ed L w (succ s)) []:=by
 obtain⟨h1,h2⟩:=h.round (succ s) [] L hn hs.mem hG (by simpa using hs.asc);rw[List.nil_append]at h1;refine⟨h1.first,h1.mem,h1.asc,h1.nd,fun i s' w' hi z1=> ?_,fun i s' w' hi z1 d hd=> ?_,fun _ _ _ _ hd=>(by cases hd),fun d hd=> ?_⟩
 ·by_cases hin:i<n
  ·exact h1.bad i s' w' hin z1
  ·have:i=n:=by omega
   subst this;rw[h2]at z1;cases z1;exact hg
 ·by_cases hin:i<n
  ·exact h1.cls i s' w' hin z1 d hd
  ·have:i=n:=by omega
   subst this;rw[h2]at z1;cases z1;exact h1.cur s w h2 d hd
 ·rcases h1.org d hd with e'|⟨i,s',w',y,hi,e',hc⟩
  ·exact .inl e'
  ·exact .inr ⟨i,s',w',y,hi,e',.inl (by rcases hc with hc|hc<;>omega)⟩
theorem BInv.reach{n:Nat}{L:List (σ×List Sy)}(h:BInv ok step good succ s0 G n L [])(hs:∀s,G s→SuccOk ok step s (succ s)):∀(r:List Sy),(∀x∈r,ok x)→
  (∃v,(Rv step s0 r.reverse,v)∈L∧lle v r.reverse)∨∃i s w,n≤i∧L[i]? =some (s,w)∧lle w r.reverse
 |[],_=> .inl ⟨[],zC h.first,lle.refl _⟩
 |x::r,hx=>by
  have z1:ll r.reverse (x::r).reverse:=by rw[vY];exact w1u _ _
  rcases BInv.reach h hs r (fun y hy=>hx y (by simp[hy]))with⟨v,hv,hl⟩|⟨i,s,w,h1,h2,h3⟩
  ·obtain⟨i,hi⟩:=yB.1 hv;by_cases hin:i<n
   ·obtain⟨e,he,e1,e2⟩:=(hs _ (h.mem _ hv).2.2).cov x (hx x (by simp));obtain⟨u,hu,z6⟩:=h.cls i _ _ hin hi e he;refine .inl ⟨u,?_,?_⟩
    ·rw[vY,Rv,wI];show(step (Rv step s0 r.reverse) x,u)∈L;rw[←e1];exact hu
    ·rw[vY];exact z6.trans (d02 hl e2)
   ·exact .inr ⟨i,_,v,by omega,hi,hl.trans (.inr z1)⟩
  ·exact .inr ⟨i,s,w,h1,h2,h3.trans (.inr z1)⟩
theorem BInv.found{n:Nat}{L:List (σ×List Sy)}{s:σ}{w:List Sy}(h:BInv ok step good succ s0 G n L [])(hs:∀s,G s→SuccOk ok step s (succ s))(hn:L[n]? =some (s,w))(hg:good s=true):FirstW ok step good s0 w:=by
 have hm:=h.mem _ (zC hn);refine⟨hm.1,by rw[hm.2.1];exact hg,fun v hv z1=> ?_⟩;have hle:∀i s' w',n≤i→L[i]? =some (s',w')→lle w w':=fun i s' w' hi hl=>by
  obtain⟨h1,h2⟩:=zA.1 hn;obtain⟨h3,h4⟩:=zA.1 hl;rcases Nat.lt_or_eq_of_le hi with hlt|rfl
  ·have:=yA.1 h.asc n i h1 h3 hlt;rw[h2,h4]at this;exact .inr this
  ·rw[hn]at hl;cases hl;exact .inl rfl
 rcases h.reach hs v.reverse (fun x hx=>hv x (by simpa using hx))with⟨u,hu,hl⟩|⟨i,s',w',h1,h2,h3⟩
 ·rw[vO]at hu hl;obtain⟨i,hi⟩:=yB.1 hu;by_cases hin:i<n
  ·have:=h.bad i _ _ hin hi;rw[this]at z1;cases z1
  ·exact(hle i _ _ (by omega) hi).trans hl
 ·rw[vO]at h3;exact(hle i _ _ h1 h2).trans h3
theorem BInv.none{n:Nat}{L:List (σ×List Sy)}(h:BInv ok step good succ s0 G n L [])(hs:∀s,G s→SuccOk ok step s (succ s))(hn:L[n]? =none):
  (∀v,(∀x∈v,ok x)→Rv step s0 v∈L.map (·.1)∧good (Rv step s0 v)=false):=by
 intro v hv;have hlen:=List.getElem?_eq_none_iff.1 hn;rcases h.reach hs v.reverse (fun x hx=>hv x (by simpa using hx))with⟨u,hu,_⟩|⟨i,s',w',h1,h2,_⟩
 ·rw[vO]at hu;obtain⟨i,hi⟩:=yB.1 hu;have:=(zA.1 hi).1;exact⟨zL.2 ⟨_,hu,rfl⟩,h.bad i _ _ (by omega) hi⟩
 ·have:=(zA.1 h2).1;omega
theorem Oz(hs:∀s,G s→SuccOk ok step s (succ s))(hG:∀s,G s→∀e∈succ s,G e.2)(U:List σ)(hU:∀s,G s→s∈U):∀(f n:Nat) (L:List (σ×List Sy)),U.length+1≤n+f→n≤L.length→BInv ok step good succ s0 G n L []→
  (∃w L',Gu good succ f n L=(some w,L')∧FirstW ok step good s0 w)∨
  (∃L',Gu good succ f n L=(Option.none,L')∧(L'.map (·.1)).Nodup∧(∀e∈L',(∀x∈e.2,ok x)∧Rv step s0 e.2=e.1∧G e.1)∧∀v,(∀x∈v,ok x)→Rv step s0 v∈L'.map (·.1)∧good (Rv step s0 v)=false)
 |0,n,L,hf,hn,h=>by
  exfalso;have:=Pj _ U h.nd (fun s hs=>by
   obtain⟨e,he,rfl⟩:=zL.1 hs;exact hU _ (h.mem e he).2.2)
  simp at this;omega
 |f+1,n,L,hf,hn,h=>by
  rw[Gu];cases hl:L[n]? with
  |none=>exact .inr ⟨L,rfl,h.nd,h.mem,h.none hs hl⟩
  |some e=>
   obtain⟨s,w⟩:=e;simp only;cases hg:good s with
   |true=>rw[if_pos rfl];exact .inl ⟨w,L,rfl,h.found hs hl hg⟩
   |false=>
    rw[if_neg (by simp)];have z1:=(h.mem _ (zC hl)).2.2;have h':=h.next hl hg (hs s z1) (hG s z1);refine Oz hs hG U hU f (n+1) _ (by omega) ?_ h';have z6:=(zA.1 hl).1;have z7:∀(es:List (Sy×σ)) (L:List (σ×List Sy)),L.length≤(Ed L w es).length:=by
     intro es;induction es with
     |nil=>intro L;exact zI _
     |cons e es ih=>
      intro L;refine yL ?_ (ih (z0n L e.2 (w++[e.1])));unfold z0n;split
      ·exact zI _
      ·simp
    exact yL z6 (z7 _ _)
theorem Ip(z1:G s0):BInv ok step good succ s0 G 0 [(s0,[])] []:=
 ⟨rfl,fun e he=>by obtain rfl:=zK.1 he;exact⟨by simp,rfl,z1⟩,by simp,by simp,fun i _ _ hi=>by omega,fun i _ _ hi=>by omega,fun _ _ _ _ hd=>(by cases hd),fun d hd=>by obtain rfl:=zK.1 hd;exact .inl rfl⟩
end
end Go.Abs
namespace Go.Abs
structure Dfa (a:Aut):Prop where
 ok:OkA a
 det:Z0 a
 full:c0y a
def toL(a:Aut)(s:Int)(x:Sy):Int:=match a.mv.find? (fun m=>decide (m.src=s) && Rj m.on x)with|some m=>m.dst|none=> -1
def inS(a:Aut)(s:Int):Prop:=0≤s∧s<a.fin.length
theorem Dfa.next{a:Aut}(h:Dfa a){s:Int}(hs:inS a s){x:Sy}(hx:Wj a x):inS a (toL a s x)∧Qu a [s] x=[toL a s x]:=by
 obtain⟨t,t0,t1,e⟩:=d0v h.ok.wfA h.det h.full hs.1 hs.2 hx;obtain⟨m,hm,h1,h2⟩:=h.full s hs.1 hs.2 x hx;have hf:toL a s x=t:=by
  unfold toL;cases hq:a.mv.find? (fun m=>decide (m.src=s) && Rj m.on x)with
  |none=>have:=vW.1 hq m hm;simp[h1,h2]at this
  |some k=>have hk:=vu hq;have hp:=u9 hq;simp at hp;have z1:k.dst∈Qu a [s] x:=Wn.2 ⟨h.ok.wfA.dst k hk,k,hk,by rw[hp.1];simp,hp.2,rfl⟩;rw[e]at z1;exact zK.1 z1
 rw[hf];exact⟨⟨t0,t1⟩,e⟩
theorem Bq{a:Aut}{x y:Sy}(h:∀m∈a.mv,Rj m.on x=Rj m.on y)(s:Int):toL a s x=toL a s y:=by
 unfold toL;have:a.mv.find? (fun m=>decide (m.src=s) && Rj m.on x)=a.mv.find? (fun m=>decide (m.src=s) && Rj m.on y):=by
  generalize a.mv=l at h;induction l with
  |nil=>rfl
  |cons m l ih=>rw[uV,uV,h m (by simp),ih (fun k hk=>h k (by simp[hk]))]
 rw[this]
def stF(a:Aut)(s:Int)(w:List Sy):Int:=w.foldl (toL a) s
def B3(a:Aut)(s:Int)(w:List Sy):Bool:=a.fin.getD (stF a s w).toNat false
theorem Dfa.run{a:Aut}(h:Dfa a):∀(w:List Sy) (s:Int),inS a s→(∀x∈w,Wj a x)→inS a (stF a s w)∧Is a [s] w=[stF a s w]
 |[],s,hs,_=>⟨hs,rfl⟩
 |x::w,s,hs,hx=>by obtain⟨h1,h2⟩:=h.next hs (hx x (by simp));have:=h.run w _ h1 (fun y hy=>hx y (by simp[hy]));refine⟨this.1,?_⟩;show Is a (Qu a [s] x) w=_;rw[h2];exact this.2
theorem Dfa.zero{a:Aut}(h:Dfa a):inS a 0:=⟨yI _,by have:=h.ok.fin;omega⟩
theorem Dfa.acc{a:Aut}(h:Dfa a){w:List Sy}(hw:∀x∈w,Wj a x):En a w=B3 a 0 w:=by unfold En B3;rw[(h.run w 0 h.zero hw).2];simp[Iy]
structure Ltr (T:Nat) (l cl:List Prd):Prop where
 prts:Prts T l cl
 asc:cl.Pairwise q09
 len:∀p∈l,p.length=T
def okT(T:Nat)(x:Sy):Prop:=0≤x.ty∧x.ty.toNat<T∧inR x.num
theorem j1n{T:Nat}(hT:0<T){l:List Prd}(hl:∀p∈l,PCk T p):Ltr T l (Q4 T l):=by obtain⟨h1,h2⟩:=Uf hT hl;exact⟨h1,h2,fun p hp=>(hl p hp).1⟩
theorem x07{p:Prd}{t:Nat}{n:Int}(h:Pz (Qz p 0).1 (Qz p 0).2 t n):sLt (Qi p) ⟨t,n⟩:=by unfold Pz at h;unfold sLt Qi;simp only;omega
theorem Ltr.least{T:Nat}{l cl:List Prd}(h:Ltr T l cl){c:Prd}(hc:c∈cl):okT T (Qi c)∧PM c (Qi c).ty.toNat (Qi c).num:=by have h1:=(W5 (h.prts.wf c hc) (h.prts.ne c hc)).1;have h2:=(h.prts.wf c hc).lt h1;exact⟨⟨by simp[Qi],by simpa[Qi]using h2.1,h2.2⟩,by simpa[Qi]using h1⟩
theorem Ltr.sig{T:Nat}{l cl:List Prd}(h:Ltr T l cl){c:Prd}(hc:c∈cl){x y:Sy}(hx:okT T x)(hy:okT T y)(z1:PM c x.ty.toNat x.num)(z6:PM c y.ty.toNat y.num):∀p∈l,Rj p x=Rj p y:=fun p hp=>by have h2:=((h.prts.cls c hc _ _ z1 _ _).1 z6).2.2 p hp;rw[xE,Oh (h.len p hp) x hx.1,Oh (h.len p hp) y hy.1];exact h2
theorem Ltr.cov{T:Nat}{l cl:List Prd}(h:Ltr T l cl){x:Sy}(hx:okT T x):∃c∈cl,PM c x.ty.toNat x.num∧(Qi c=x∨sLt (Qi c) x)∧∀p∈l,Rj p x=Rj p (Qi c):=by
 obtain⟨c,hc,hm⟩:=h.prts.all x.ty.toNat x.num hx.2.1 hx.2.2;obtain⟨h1,h2⟩:=h.least hc;refine⟨c,hc,hm,?_,h.sig hc hx h1 hm h2⟩;rcases(W5 (h.prts.wf c hc) (h.prts.ne c hc)).2 _ _ hm with⟨e1,e2⟩|hlt
 ·left;unfold Qi;rw[e1,e2,show((x.ty.toNat:Nat):Int)=x.ty by have:=hx.1;omega]
 ·right;have:=x07 hlt;have e:(⟨(x.ty.toNat:Int),x.num⟩:Sy)=x:=by rw[show((x.ty.toNat:Nat):Int)=x.ty by have:=hx.1;omega]
  rw[e]at this;exact this
theorem Ltr.ascS{T:Nat}{l cl:List Prd}(h:Ltr T l cl):(cl.map Qi).Pairwise sLt:=by
 refine xF.2 (h.asc.imp_of_mem fun {p q} hp hq hlt=> ?_);obtain⟨t,n,hm,z1⟩:=hlt;have h1:=z1 _ _ (W5 (h.prts.wf q hq) (h.prts.ne q hq)).1;have h2:Pz (Qz p 0).1 (Qz p 0).2 (Qz q 0).1 (Qz q 0).2:=by
  rcases(W5 (h.prts.wf p hp) (h.prts.ne p hp)).2 t n hm with⟨e1,e2⟩|h3
  ·rw[e1,e2];exact h1
  ·exact h3.trans h1
 exact x07 h2
def Rt(a b:Aut):List Sy:=(Q4 a.types.toNat (onA a++onA b)).map Qi
def R8(a b:Aut)(s:Int×Int)(x:Sy):Int×Int:=(toL a s.1 x,toL b s.2 x)
def Xh(a b:Aut)(s:Int×Int):List (Sy×(Int×Int)):=(Rt a b).map fun x=>(x,R8 a b s x)
theorem Ur{a:Aut}{x:Sy}:okT a.types.toNat x↔Wj a x:=by
 unfold okT Wj;constructor
 ·rintro⟨h1,h2,h3⟩;exact⟨⟨h1,by omega⟩,h3⟩
 ·rintro⟨⟨h1,h2⟩,h3⟩;exact⟨h1,by omega,h3⟩
theorem q1f{a b:Aut}(ha:OkA a)(hb:OkA b)(ht:b.types=a.types):Ltr a.types.toNat (onA a++onA b) (Q4 a.types.toNat (onA a++onA b)):=
 j1n (by have:=ha.types;omega) fun p hp=>by
  rcases zN.1 hp with hp|hp
  ·exact B6 ha p hp
  ·rw[←ht];exact B6 hb p hp
theorem Jj{a:Aut}{m:Mv}(h:m∈a.mv):m.on∈onA a:=zL.2 ⟨m,h,rfl⟩
theorem Ag{a b:Aut}(ha:OkA a)(hb:OkA b)(ht:b.types=a.types)(s:Int×Int):SuccOk (Wj a) (R8 a b) s (Xh a b s):=by
 have hl:=q1f ha hb ht;refine⟨?_,fun e he=> ?_,fun y hy=> ?_⟩
 ·unfold Xh;exact xF.2 (hl.ascS.imp fun h=>h)
 ·obtain⟨x,hx,rfl⟩:=zL.1 he;obtain⟨c,hc,rfl⟩:=zL.1 hx;exact⟨Ur.1 (hl.least hc).1,rfl⟩
 ·obtain⟨c,hc,hm,hle,z1⟩:=hl.cov (Ur.2 hy);refine⟨(Qi c,R8 a b s (Qi c)),zL.2 ⟨Qi c,zL.2 ⟨c,hc,rfl⟩,rfl⟩,?_,hle⟩;unfold R8;rw[Bq (fun m hm=>(z1 m.on (yT _ (Jj hm))).symm),Bq (a:=b) (fun m hm=>(z1 m.on (wV _ (Jj hm))).symm)]
def K8(a b:Aut)(s:Int×Int):Bool:=a.fin.getD s.1.toNat false != b.fin.getD s.2.toNat false
def Sa(a b:Aut)(p q:Int):Option (List Sy)×List ((Int×Int)×List Sy):=Gu (K8 a b) (Xh a b) (a.fin.length * b.fin.length+1) 0 [((p,q),[])]
theorem Yx(a b:Aut):∀(w:List Sy) (p q:Int),Rv (R8 a b) (p,q) w=(stF a p w,stF b q w)
 |[],_,_=>rfl
 |x::w,p,q=>Yx a b w (toL a p x) (toL b q x)
def Zm(a b:Aut):List (Int×Int):=(Wo a.fin.length).flatMap fun i=>(Wo b.fin.length).map fun j=>(i,j)
theorem Lr(a b:Aut):(Zm a b).length=a.fin.length * b.fin.length:=by unfold Zm;rw[wW,xI (g:=fun _=>b.fin.length) (fun i _=>by simp[Wo]),vG,wP];simp[Wo]
theorem Zb{a b:Aut}{s:Int×Int}(h1:inS a s.1)(h2:inS b s.2):s∈Zm a b:=by unfold Zm;rw[xD];exact⟨s.1,Wq.2 h1,zL.2 ⟨s.2,Wq.2 h2,rfl⟩⟩
def v1f(a b:Aut)(p q:Int)(w:List Sy):Prop:=FirstW (Wj a) (R8 a b) (K8 a b) (p,q) w
theorem Js(a b:Aut)(p q:Int)(w:List Sy):K8 a b (Rv (R8 a b) (p,q) w)=true↔B3 a p w≠B3 b q w:=by rw[Yx];simp[K8,B3]
theorem y0f{a b:Aut}(ha:Dfa a)(hb:Dfa b)(ht:b.types=a.types){p q:Int}(hp:inS a p)(hq:inS b q):
  (∃w,(Sa a b p q).1=some w∧v1f a b p q w)∨((Sa a b p q).1=none∧∀w,(∀x∈w,Wj a x)→B3 a p w=B3 b q w):=by
 have z1:∀x,Wj a x→Wj b x:=fun x hx=>by unfold Wj at *;rw[ht];exact hx
 rcases Oz (ok:=Wj a) (step:=R8 a b) (good:=K8 a b) (succ:=Xh a b) (s0:=(p,q)) (G:=fun s=>inS a s.1∧inS b s.2) (fun s _=>Ag ha.ok hb.ok ht s)
  (fun s hs e he=>by
   obtain⟨h1,h2⟩:=(Ag ha.ok hb.ok ht s).mem e he;rw[h2];exact⟨(ha.next hs.1 h1).1,(hb.next hs.2 (z1 _ h1)).1⟩) (Zm a b) (fun s hs=>Zb hs.1 hs.2) (a.fin.length * b.fin.length+1) 0 [((p,q),[])] (by rw[Lr];omega) (by simp) (Ip ⟨hp,hq⟩)with⟨w,L,h1,h2⟩|⟨L,h1,_,_,h2⟩
 ·exact .inl ⟨w,by rw[Sa,h1],h2⟩
 ·refine .inr ⟨by rw[Sa,h1],fun w hw=> ?_⟩;have:=(h2 w hw).2;by_cases hd:B3 a p w=B3 b q w
  ·exact hd
  ·rw[(Js a b p q w).2 hd]at this;cases this
end Go.Abs
namespace Go.Abs
def Bz(a:Aut)(s:Int):List Mv:=a.mv.filter fun m=>decide (m.src=s) && !W2 m.on
def Xu(a b:Aut)(s:Int×Int):List (Sy×(Int×Int)):=(Bz a s.1).flatMap fun m=>(Bz b s.2).filterMap fun n=>if W2 (Ez m.on n.on)then none else some (Qi (Ez m.on n.on),(m.dst,n.dst))
theorem Cn{T:Nat}{p:Prd}(h:PWf T p):W2 p=false↔∃t n,PM p t n:=by
 cases hv:W2 p
 ·simp only[true_iff];apply Classical.byContradiction;intro hn;have:=(Rb h).2 (fun t n hm=>hn ⟨t,n,hm⟩);rw[hv]at this;cases this
 ·simp only[Bool.true_eq_false,false_iff];rintro⟨t,n,hm⟩;exact(Rb h).1 hv t n hm
theorem Dk{T:Nat}{p:Prd}(h:PWf T p)(hn:∃t n,PM p t n):okT T (Qi p)∧PM p (Qi p).ty.toNat (Qi p).num∧∀x,okT T x→PM p x.ty.toNat x.num→Qi p=x∨sLt (Qi p) x:=by
 have h1:=W5 h hn;have h2:=h.lt h1.1;refine⟨⟨by simp[Qi],by simpa[Qi]using h2.1,h2.2⟩,by simpa[Qi]using h1.1,fun x hx hm=> ?_⟩;rcases h1.2 _ _ hm with⟨e1,e2⟩|hlt
 ·left;unfold Qi;rw[e1,e2,show((x.ty.toNat:Nat):Int)=x.ty by have:=hx.1;omega]
 ·right;have:=x07 hlt;have e:(⟨(x.ty.toNat:Int),x.num⟩:Sy)=x:=by rw[show((x.ty.toNat:Nat):Int)=x.ty by have:=hx.1;omega]
  rw[e]at this;exact this
def lkN(near:List ((Int×Int)×Nat))(s:Int×Int):Option Nat:=(near.find? fun e=>decide (e.1=s)).map (·.2)
def w13(a:Aut)(near:List ((Int×Int)×Nat))(d:Nat)(s:Int×Int):Bool:=match d with
 |0=>K8 a a s
 |d+1=>(Xu a a s).any fun e=>decide (lkN near e.2=some d)
def x04(a:Aut)(near:List ((Int×Int)×Nat))(d:Nat):List (Int×Int):=(Zm a a).filter fun s=>decide (lkN near s=none) && w13 a near d s
def j1w(a:Aut):Nat→Nat→List ((Int×Int)×Nat)→List ((Int×Int)×Nat)
 |0,_,near=>near
 |f+1,d,near=>if x04 a near d=[]then near else j1w a f (d+1) (near++(x04 a near d).map fun s=>(s,d))
def d1j(a:Aut):List ((Int×Int)×Nat):=j1w a (a.fin.length * a.fin.length+1) 1 ((x04 a [] 0).map fun s=>(s,0))
def inP(a:Aut)(s:Int×Int):Prop:=inS a s.1∧inS a s.2
def v1z(a:Aut)(s:Int×Int)(d:Nat):Prop:=∃w:List Sy,w.length=d∧(∀x∈w,Wj a x)∧K8 a a (Rv (R8 a a) s w)=true
def g1y(a:Aut)(s:Int×Int)(d:Nat):Prop:=v1z a s d∧∀k,k<d→¬v1z a s k
structure NInv (a:Aut) (d:Nat) (near:List ((Int×Int)×Nat)):Prop where
 lk:∀s,inP a s→∀k,lkN near s=some k↔(k<d∧g1y a s k)
 keys:(near.map (·.1)).Nodup
 dom:∀e∈near,e.1∈Zm a a
def z0r(x y:Sy):Bool:=decide (x.ty<y.ty) || (decide (x.ty=y.ty) && decide (x.num<y.num))
def g1i(es:List (Sy×(Int×Int))):Option (Sy×(Int×Int)):=es.foldl (fun b e=>match b with|none=>some e|some c=>if z0r e.1 c.1 then some e else some c) none
theorem Jb(x y:Sy):z0r x y=true↔sLt x y:=by simp[z0r,sLt]
def v19(a:Aut)(near:List ((Int×Int)×Nat)):Nat→Int×Int→List Sy
 |0,_=>[]
 |d+1,s=>match g1i ((Xu a a s).filter fun e=>decide (lkN near e.2=some d))with
  |some e=>e.1::v19 a near d e.2
  |none=>⟨0,0⟩::v19 a near d (0,0)
end Go.Abs
namespace Go.Abs
structure EqvB (n:Nat) (E:Nat→Nat→Bool):Prop where
 refl:∀i,i<n→E i i=true
 symm:∀i k,i<n→k<n→E i k=true→E k i=true
 trans:∀i k j,i<n→k<n→j<n→E i k=true→E k j=true→E i j=true
def w1y(E:Nat→Nat→Bool)(st:List Nat×List Nat)(i:Nat):List Nat×List Nat:=
 match st.1.findIdx? (E i)with
 |some t=>(st.1,st.2++[t])
 |none=>(st.1++[i],st.2++[st.1.length])
def c1p(E:Nat→Nat→Bool)(n:Nat):List Nat×List Nat:=(yD n).foldl (w1y E) ([],[])
def y1m(E:Nat→Nat→Bool)(st:Nat×List Nat)(i:Nat):Nat×List Nat:=
 match (yD i).find? (E i)with
 |some k=>(st.1,st.2++[st.2.getD k 0])
 |none=>(st.1+1,st.2++[st.1])
def q2t(E:Nat→Nat→Bool)(n:Nat):Nat×List Nat:=(yD n).foldl (y1m E) (0,[])
structure ClsS (E:Nat→Nat→Bool) (n:Nat) (fs out:List Nat):Prop where
 len:out.length=n
 asc:fs.Pairwise (·<·)
 lt:∀r∈fs,r<n
 apart:fs.Pairwise (fun r s=>E r s=false)
 num:∀i,i<n→∃t r,out[i]? =some t∧fs[t]? =some r∧r≤i∧E i r=true
def eqW(a b:Aut)(p q:Int):Prop:=∀w,(∀x∈w,Wj a x)→B3 a p w=B3 b q w
def eqS(a:Aut)(i k:Nat):Bool:=(lkN (d1j a) ((i:Int),(k:Int))).isNone
def fsA(a:Aut):List Nat:=(c1p (eqS a) a.fin.length).1
def clA(a:Aut):List Nat:=(c1p (eqS a) a.fin.length).2
end Go.Abs
namespace Go.Abs
section
variable {α:Type} (key:α→Nat×Int)
def z1h(s:List α)(x:α):Nat→Nat
 |0=>0
 |j+1=>match s[j]? with
  |some y=>if d03 (key x) (key y)=true then z1h s x j else j+1
  |none=>j+1
def q2f(s:List α)(x:α):List α:=s.take (z1h key s x s.length)++x::s.drop (z1h key s x s.length)
def f1w(L:List α):List α:=L.foldl (q2f key) []
def ltG(p q:α):Prop:=Pz (key p).1 (key p).2 (key q).1 (key q).2
end
def clD(cl:List Nat)(m:Mv):Nat:=cl.getD m.dst.toNat 0
def kyM(m:Mv):Nat×Int:=Qz m.on 0
def c15(a:Aut)(cl:List Nat)(s:Int):List Mv:=(Bz a s).foldl (fun g m=>U9 0 g (clD cl m) m.on) []
def q2j(a:Aut)(cl:List Nat)(s:Int):List Mv:=f1w kyM (c15 a cl s)
def q2k(a:Aut)(cl:List Nat)(s:Int)(t:Nat)(ty:Nat)(y:Int):Prop:=∃m∈Bz a s,clD cl m=t∧PM m.on ty y
structure MrgS (T:Nat) (D:Nat→Nat→Int→Prop) (g:List Mv):Prop where
 wf:∀m∈g,PWf T m.on
 src:∀m∈g,m.src=0
 dst:∀m∈g,∃t:Nat,m.dst=t
 nd:g.Pairwise (fun m k=>m.dst≠k.dst)
 mem:∀m∈g,∀t:Nat,m.dst=t→∀ty y,PM m.on ty y↔D t ty y
 all:∀t ty y,D t ty y→∃m∈g,m.dst=(t:Int)
 ne:∀m∈g,∃ty y,PM m.on ty y
def w2o(a:Aut)(cl:List Nat)(s:Int)(t:Nat):List Prd:=((Bz a s).filter fun m=>decide (clD cl m=t)).map (·.on)
end Go.Abs
namespace Go.Abs
def k1d(cl:List Nat)(t:Nat):Nat:=(cl.findIdx? fun c=>decide (c=t)).getD 0
def c1c(a:Aut)(t:Nat):Prop:=t<(fsA a).length
def u1k(a:Aut)(s:Int):Nat:=(clA a).getD s.toNat 0
def g1b(a:Aut)(t:Nat):Nat:=k1d (clA a) t
theorem u1h{a:Aut}{s:Int}(h:inS a s):s.toNat<a.fin.length∧((s.toNat:Nat):Int)=s:=by unfold inS at h;omega
def q2v(o:List Nat)(c:Nat):List Nat:=if c∈o then o else o++[c]
def u1o(o:List Nat)(l:List Mv):List Nat:=l.foldl (fun o m=>q2v o m.dst.toNat) o
def d1g(a:Aut)(t:Nat):List Mv:=q2j a (clA a) (g1b a t:Int)
def q1i(a:Aut):Nat→Nat→List Nat→List Nat
 |0,_,o=>o
 |f+1,n,o=>match o[n]? with
  |none=>o
  |some c=>q1i a f (n+1) (u1o o (d1g a c))
def q2z(a:Aut):List Nat:=q1i a (a.fin.length+1) 0 [u1k a 0]
def q2w(o:List Nat)(c:Nat):Nat:=(o.findIdx? fun d=>decide (d=c)).getD 0
def mvN(a:Aut)(o:List Nat)(n:Nat):List Mv:=(d1g a (o.getD n 0)).map fun m=>⟨n,(q2w o m.dst.toNat:Int),m.on⟩
def u1w(a:Aut)(o:List Nat):Aut:=⟨a.types,o.map fun c=>a.fin.getD (g1b a c) false,(yD o.length).flatMap (mvN a o)⟩
def x0x(a:Aut):Aut:=u1w a (q2z a)
structure OrdS (a:Aut) (o:List Nat):Prop where
 first:o[0]? =some (u1k a 0)
 nd:o.Nodup
 cl:∀c∈o,c1c a c
 closed:∀c∈o,∀m∈d1g a c,m.dst.toNat∈o
section
variable {a b:Aut} (ha:Dfa a) (hb:Dfa b) (ht:b.types=a.types)
def w2f(a b:Aut)(c d:Nat):Prop:=c1c a c∧c1c b d∧eqW a b (g1b a c) (g1b b d)
structure LkO (a b:Aut) (o o':List Nat):Prop where
 len:o.length=o'.length
 k:∀(i c d:Nat),o[i]? =some c→o'[i]? =some d→w2f a b c d
theorem Wx{a b:Aut}(ht:b.types=a.types){x:Sy}:Wj b x↔Wj a x:=by unfold Wj;rw[ht]
include ha hb ht
end
end Go.Abs
namespace Go.Abs
def v1s(m:Aut):Bool:=m.mv.any fun k=>k.on.any fun s=>decide (256<s.length)
section
variable {a:Aut} (ha:Dfa a) (hb:v1s (x0x a)=false)
include ha hb
end
def w24(a:Aut):Int×Aut:=if(Ef a).1≠0 then((Ef a).1,Ou)else if(z0o (Ef a).2).1≠0 then((z0o (Ef a).2).1,Ou)else
 if v1s (x0x (z0o (Ef a).2).2)then(5,Ou)else(0,x0x (z0o (Ef a).2).2)
end Go.Abs
namespace Go.Abs
def addI(o:List Int)(c:Int):List Int:=if c∈o then o else o++[c]
def y1y(o:List Int)(l:List Int):List Int:=l.foldl addI o
def y1s(sc:Int→List Int):Nat→Nat→List Int→List Int
 |0,_,o=>o
 |f+1,n,o=>match o[n]? with
  |none=>o
  |some c=>y1s sc f (n+1) (y1y o (sc c))
structure SrchS (sc:Int→List Int) (o:List Int):Prop where
 nd:o.Nodup
 zero:(0:Int)∈o
 closed:∀c∈o,∀d∈sc c,d∈o
 least:∀S:Int→Prop,S 0→(∀c d,S c→d∈sc c→S d)→∀c∈o,S c
def w2m(a:Aut)(c:Int):List Int:=(Bz a c).map (·.dst)
def w2g(a:Aut)(c:Int):List Int:=(Rt a a).map (toL a c)
def q2y(a:Aut):Bool:=(y1s (w2m a) (a.fin.length+1) 0 [0]).length==a.fin.length
def q24(a:Aut):Bool:=(y1s (w2g a) (a.fin.length+1) 0 [0]).length==a.fin.length
end Go.Abs
namespace Go.Abs
structure Dta (a:Aut):Prop where
 ok:OkA a
 det:Z0 a
theorem f1a{α:Type}{R:α→α→Prop}{l:List α}(h:l.Pairwise R){x y:α}(hx:x∈l)(hy:y∈l)(h1:¬R x y)(h2:¬R y x):x=y:=by
 obtain⟨i,hi,rfl⟩:=yE hx;obtain⟨j,hj,rfl⟩:=yE hy;rcases vP i j with k|k|k
 ·exact absurd (yA.1 h i j hi hj k) h1
 ·subst k;rfl
 ·exact absurd (yA.1 h j i hj hi k) h2
theorem Dta.one{a:Aut}(h:Dta a){m k:Mv}(hm:m∈a.mv)(hk:k∈a.mv)(hs:m.src=k.src){x:Sy}(hx:Wj a x)(h1:Rj m.on x=true)(h2:Rj k.on x=true):m=k:=
 f1a h.det hm hk (fun hr=>hr hs x hx ⟨h1,h2⟩) (fun hr=>hr hs.symm x hx ⟨h2,h1⟩)
theorem Dta.to_of{a:Aut}(h:Dta a){m:Mv}(hm:m∈a.mv){x:Sy}(hx:Wj a x)(hh:Rj m.on x=true):toL a m.src x=m.dst:=by
 unfold toL;cases hf:a.mv.find? (fun k=>decide (k.src=m.src) && Rj k.on x)with
 |none=>rw[vW]at hf;have:=hf m hm;simp[hh]at this
 |some k=>have h1:=u9 hf;simp only[zQ,decide_eq_true_eq]at h1;rw[h.one (vu hf) hm h1.1 hx h1.2 hh]
theorem S6{a:Aut}(s:Int)(x:Sy):(toL a s x= -1∧∀m∈a.mv,m.src=s→Rj m.on x=false)∨∃m∈a.mv,m.src=s∧Rj m.on x=true∧toL a s x=m.dst:=by
 unfold toL;cases hf:a.mv.find? (fun k=>decide (k.src=s) && Rj k.on x)with
 |none=>rw[vW]at hf;refine .inl ⟨rfl,fun m hm e=> ?_⟩;have:=hf m hm;simpa[e]using this
 |some k=>have h1:=u9 hf;simp only[zQ,decide_eq_true_eq]at h1;exact .inr ⟨k,vu hf,h1.1,h1.2,rfl⟩
theorem f1v{a:Aut}(h:OkA a)(s:Int)(x:Sy):toL a s x= -1∨inS a (toL a s x):=by
 rcases S6 (a:=a) s x with⟨h1,_⟩|⟨m,hm,_,_,e⟩
 ·exact .inl h1
 ·rw[e];exact .inr (h.mv m hm).dst
def wkS(a:Aut)(s:Int):List Sy→Option Int
 |[]=>some s
 |x::w=>if toL a s x<0 then none else wkS a (toL a s x) w
def fAt(f:List Int)(s:Int):Int:=f.getD s.toNat (-1)
structure IsoT (a b:Aut) (f:List Int):Prop where
 len:f.length=a.fin.length
 zero:fAt f 0=0
 low:∀q∈f,-1≤q
 fin:∀s,inS a s→0≤fAt f s→a.fin.getD s.toNat false=b.fin.getD (fAt f s).toNat false
 step:∀s,inS a s→0≤fAt f s→∀x,Wj a x→(toL a s x<0↔toL b (fAt f s) x<0)∧(0≤toL a s x→fAt f (toL a s x)=toL b (fAt f s) x)
 inj:∀s t,inS a s→inS a t→0≤fAt f s→fAt f s=fAt f t→s=t
 reach:∀s,inS a s→0≤fAt f s→∃w,(∀x∈w,Wj a x)∧wkS a 0 w=some s∧wkS b 0 w=some (fAt f s)
def w14(st:List Int×List Int)(e:Int×Int):Option (List Int×List Int):=
 if fAt st.1 e.1=e.2 then some st else if 0≤fAt st.1 e.1∨e.2∈st.1 then none else some (st.1.set e.1.toNat e.2,st.2++[e.1])
def u0t:List (Int×Int)→List Int×List Int→Option (List Int×List Int)
 |[],st=>some st
 |e::es,st=>(w14 st e).bind (u0t es)
def c1m(chk:Int→Int→Bool)(ps:Int→Int→List (Int×Int)):Nat→Nat→List Int×List Int→Option (List Int)
 |0,_,st=>some st.1
 |f+1,n,st=>match st.2[n]? with
  |none=>some st.1
  |some p=>if chk p (fAt st.1 p)then(u0t (ps p (fAt st.1 p)) st).bind (c1m chk ps f (n+1))else none
def w2i(a:Aut):List Int×List Int:=((List.replicate a.fin.length (-1)).set 0 0,[0])
structure IsoI (a b:Aut) (st:List Int×List Int):Prop where
 len:st.1.length=a.fin.length
 zero:fAt st.1 0=0
 low:∀q∈st.1,-1≤q
 mem:∀s,s∈st.2↔inS a s∧0≤fAt st.1 s
 nd:st.2.Nodup
 inj:∀s t,inS a s→inS a t→0≤fAt st.1 s→fAt st.1 s=fAt st.1 t→s=t
 reach:∀s,inS a s→0≤fAt st.1 s→∃w,(∀x∈w,Wj a x)∧wkS a 0 w=some s∧wkS b 0 w=some (fAt st.1 s)
 rng:∀s,inS a s→0≤fAt st.1 s→inS b (fAt st.1 s)
structure PsOk (a b:Aut) (chk:Int→Int→Bool) (ps:Int→Int→List (Int×Int)):Prop where
 chk:∀p q,inS a p→inS b q→(chk p q=true↔a.fin.getD p.toNat false=b.fin.getD q.toNat false∧∀x,Wj a x→(toL a p x<0↔toL b q x<0))
 from_:∀p q,inS a p→inS b q→∀e∈ps p q,∃x,Wj a x∧toL a p x=e.1∧toL b q x=e.2∧0≤e.1∧0≤e.2
 all:∀p q,inS a p→inS b q→∀x,Wj a x→0≤toL a p x→0≤toL b q x→(toL a p x,toL b q x)∈ps p q
end Go.Abs
namespace Go.Abs
def c1k(a b:Aut)(p q:Int):Bool:=a.fin.getD p.toNat false==b.fin.getD q.toNat false
def c1w(a:Aut)(p:Int):Prd:=Lk a.types.toNat ((Bz a p).map (·.on))
def q2q(a b:Aut)(p q:Int):Bool:=c1k a b p q && decide (c1w a p=c1w b q)
def psP(a b:Aut)(p q:Int):List (Int×Int):=(Xu a b (p,q)).map (·.2)
def c13(a b:Aut)(p q:Int)(x:Sy):Bool:=decide (toL a p x<0)==decide (toL b q x<0)
def w2n(a b:Aut)(p q:Int):Bool:=c1k a b p q && (Rt a b).all (c13 a b p q)
def ltP(a b:Aut)(p q:Int)(x:Sy):Int×Int:=(toL a p x,toL b q x)
def psR(a b:Aut)(p q:Int):List (Int×Int):=((Rt a b).filter fun x=>decide (0≤toL a p x∧0≤toL b q x)).map (ltP a b p q)
def w2p(a b:Aut):(List Int×Bool)×Int:=
 if We a≠0 then(([],false),We a)else if We b≠0 then(([],false),We b)else if Lp a=false∨Lp b=false then(([],false),3)
 else if a.types≠b.types then(([],false),15)else match c1m (q2q a b) (psP a b) (a.fin.length+1) 0 (w2i a)with
  |some l=>((l,true),0)
  |none=>(([],false),0)
end Go.Abs
namespace Go.Abs
theorem y1f{a:Aut}(h:OkA a)(x:Sy):toL a (-1) x= -1:=by
 rcases S6 (a:=a) (-1) x with⟨h1,_⟩|⟨m,hm,h2,_,_⟩
 ·exact h1
 ·have:=(h.mv m hm).src.1;omega
def inD(a:Aut)(s:Int):Prop:=s= -1∨inS a s
theorem H5{a:Aut}(h:OkA a)(s:Int)(x:Sy):inD a (toL a s x):=f1v h s x
def Bs(a:Aut)(s:Int):Bool:=decide (s≠ -1) && a.fin.getD s.toNat false
def mvS(a:Aut)(s:Int):List Mv:=a.mv.filter fun m=>decide (m.src=s)
def Wd(a:Aut)(s:Int):List (Option Mv):=(mvS a s).map some++[none]
def Py:Option Mv→Int
 |some m=>m.dst
 |none=> -1
def Cd(a:Aut)(s:Int):Option Mv→Prd
 |some m=>m.on
 |none=>Ry (Lk a.types.toNat ((mvS a s).map (·.on)))
def z0g(a:Aut)(s:Int)(o:Option Mv)(x:Sy):Prop:=PM (Cd a s o) x.ty.toNat x.num
theorem E5{a:Aut}{s:Int}{m:Mv}:m∈mvS a s↔m∈a.mv∧m.src=s:=by unfold mvS;rw[List.mem_filter,decide_eq_true_eq]
theorem Y8{a:Aut}{s:Int}{o:Option Mv}:o∈Wd a s↔o=none∨∃m∈mvS a s,o=some m:=by
 unfold Wd;rw[zN,zL,zK];constructor
 ·rintro(⟨m,hm,rfl⟩|rfl)
  ·exact .inr ⟨m,hm,rfl⟩
  ·exact .inl rfl
 ·rintro(rfl|⟨m,hm,rfl⟩)
  ·exact .inr rfl
  ·exact .inl ⟨m,hm,rfl⟩
theorem F8{a:Aut}(h:OkA a)(s:Int):∀p∈(mvS a s).map (·.on),PWf a.types.toNat p:=fun r hr=>by obtain⟨m,hm,rfl⟩:=zL.1 hr;exact h.wfA.on m (E5.1 hm).1

theorem Lc{a:Aut}(h:OkA a){s:Int}{o:Option Mv}(ho:o∈Wd a s):PWf a.types.toNat (Cd a s o):=by
 rcases Y8.1 ho with rfl|⟨m,hm,rfl⟩
 ·exact Jn (Fa (F8 h s))
 ·exact h.wfA.on m (E5.1 hm).1
theorem Ut{a:Aut}(h:OkA a)(s:Int){x:Sy}(hx:Wj a x):z0g a s none x↔∀m∈mvS a s,Rj m.on x=false:=by
 unfold z0g Cd;rw[Sw (Fa (F8 h s)),Hy (F8 h s)];have hk:=Ur.2 hx;constructor
 ·rintro⟨_,hn⟩ m hm;cases hh:Rj m.on x with
  |false=>rfl
  |true=>exact absurd ⟨m.on,zL.2 ⟨m,hm,rfl⟩,(Y0 h.wfA (E5.1 hm).1 hx).1 hh⟩ hn
 ·intro hn;refine⟨hk.2,?_⟩;rintro⟨r,hr,z1⟩;obtain⟨m,hm,rfl⟩:=zL.1 hr;have:=hn m hm;rw[(Y0 h.wfA (E5.1 hm).1 hx).2 z1]at this;cases this
theorem Uu{a:Aut}(h:OkA a){s:Int}{m:Mv}(hm:m∈mvS a s){x:Sy}(hx:Wj a x):z0g a s (some m) x↔Rj m.on x=true:=(Y0 h.wfA (E5.1 hm).1 hx).symm
theorem Be{a:Aut}(h:Dta a){s:Int}{o:Option Mv}(ho:o∈Wd a s){x:Sy}(hx:Wj a x)(hh:z0g a s o x):toL a s x=Py o:=by
 rcases Y8.1 ho with rfl|⟨m,hm,rfl⟩
 ·have hn:=(Ut h.ok s hx).1 hh;rcases S6 (a:=a) s x with⟨h1,_⟩|⟨m,h1,h2,h3,_⟩
  ·exact h1
  ·rw[hn m (E5.2 ⟨h1,h2⟩)]at h3;cases h3
 ·obtain⟨h1,h2⟩:=E5.1 hm;rw[←h2];exact h.to_of h1 hx ((Uu h.ok hm hx).1 hh)
theorem k02{a:Aut}(h:OkA a)(s:Int){x:Sy}(hx:Wj a x):∃o∈Wd a s,z0g a s o x:=by
 by_cases hn:∀m∈mvS a s,Rj m.on x=false
 ·exact⟨none,Y8.2 (.inl rfl),(Ut h s hx).2 hn⟩
 ·have:∃m∈mvS a s,Rj m.on x=true:=Classical.byContradiction fun k=>hn fun m hm=>by
   cases hh:Rj m.on x with
   |false=>rfl
   |true=>exact absurd ⟨m,hm,hh⟩ k
  obtain⟨m,hm,hh⟩:=this;exact⟨some m,Y8.2 (.inr ⟨m,hm,rfl⟩),(Uu h hm hx).2 hh⟩
theorem B9{a:Aut}(h:Dta a)(s:Int):(Wd a s).Pairwise (fun o r=>∀x,Wj a x→z0g a s o x→¬z0g a s r x):=by
 unfold Wd;rw[zW,xF];refine⟨?_,List.pairwise_singleton ..,fun o ho r hr x hx h1 h2=> ?_⟩
 ·have hp:(mvS a s).Pairwise (fun m k=>m.src=k.src→∀x:Sy,Wj a x→¬(Rj m.on x=true∧Rj k.on x=true)):=h.det.filter _;refine hp.imp_of_mem fun {m k} hm hk hr x hx h1 h2=> ?_;have e:m.src=k.src:=by rw[(E5.1 hm).2,(E5.1 hk).2]
  exact hr e x hx ⟨(Uu h.ok hm hx).1 h1,(Uu h.ok hk hx).1 h2⟩
 ·rw[zK.1 hr]at h2;obtain⟨m,hm,rfl⟩:=zL.1 ho;have:=(Ut h.ok s hx).1 h2 m hm;rw[(Uu h.ok hm hx).1 h1]at this;cases this
def Ve(a b:Aut)(s:Int×Int)(o r:Option Mv):Prd:=Ez (Cd a s.1 o) (Cd b s.2 r)
def d0e(a b:Aut)(s:Int×Int)(o r:Option Mv):Option (Sy×(Int×Int)):=if W2 (Ve a b s o r)then none else some (Qi (Ve a b s o r),(Py o,Py r))
def Lm(a b:Aut)(s:Int×Int):List (Sy×(Int×Int)):=(Wd a s.1).flatMap fun o=>(Wd b s.2).filterMap (d0e a b s o)
section
variable {a b:Aut} (ha:Dta a) (hb:Dta b) (ht:b.types=a.types) {s:Int×Int}
include ha hb ht
theorem u0g{o r:Option Mv}(ho:o∈Wd a s.1)(hr:r∈Wd b s.2):PWf a.types.toNat (Ve a b s o r)∧∀t n,PM (Ve a b s o r) t n↔PM (Cd a s.1 o) t n∧PM (Cd b s.2 r) t n:=by have w1:=Lc ha.ok ho;have w2:=Lc hb.ok hr;rw[ht]at w2;exact⟨Y7 w1 w2.1,E8 w1.1 w2.1⟩
theorem Ys{o r:Option Mv}(ho:o∈Wd a s.1)(hr:r∈Wd b s.2){e:Sy×(Int×Int)}(he:d0e a b s o r=some e):Wj a e.1∧z0g a s.1 o e.1∧z0g b s.2 r e.1∧e.2=(Py o,Py r)∧∀y,Wj a y→z0g a s.1 o y→z0g b s.2 r y→e.1=y∨sLt e.1 y:=by
 obtain⟨hw,z1⟩:=u0g ha hb ht ho hr;unfold d0e at he;split at he
 ·cases he
 ·rename_i hv;obtain rfl:=Option.some.inj he;obtain⟨k1,k2,k3⟩:=Dk hw ((Cn hw).1 (by simpa using hv));obtain⟨p1,p2⟩:=(z1 _ _).1 k2;exact⟨Ur.1 k1,p1,p2,rfl,fun y hy h1 h2=>k3 y (Ur.2 hy) ((z1 _ _).2 ⟨h1,h2⟩)⟩
theorem z06{e:Sy×(Int×Int)}:e∈Lm a b s↔∃o∈Wd a s.1,∃r∈Wd b s.2,d0e a b s o r=some e:=by unfold Lm;rw[xD];simp only[ww]
theorem u1c{e:Sy×(Int×Int)}(he:e∈Lm a b s):Wj a e.1∧e.2=R8 a b s e.1:=by obtain⟨o,ho,r,hr,h⟩:=(z06 ha hb ht).1 he;obtain⟨k1,k2,k3,k4,_⟩:=Ys ha hb ht ho hr h;refine⟨k1,?_⟩;rw[k4];unfold R8;rw[Be ha ho k1 k2,Be hb hr ((Wx ht).2 k1) k3]
theorem z1n{y:Sy}(hy:Wj a y):∃e∈Lm a b s,e.2=R8 a b s y∧(e.1=y∨sLt e.1 y):=by
 have z1:=(Wx ht).2 hy;obtain⟨o,ho,h1⟩:=k02 ha.ok s.1 hy;obtain⟨r,hr,h2⟩:=k02 hb.ok s.2 z1;obtain⟨hw,z6⟩:=u0g ha hb ht ho hr;have hv:W2 (Ve a b s o r)=false:=(Cn hw).2 ⟨_,_,(z6 _ _).2 ⟨h1,h2⟩⟩;have he:d0e a b s o r=some (Qi (Ve a b s o r),(Py o,Py r)):=by unfold d0e;rw[hv,if_neg (by simp)]
 refine⟨_,(z06 ha hb ht).2 ⟨o,ho,r,hr,he⟩,?_,(Ys ha hb ht ho hr he).2.2.2.2 y hy h1 h2⟩;unfold R8;rw[Be ha ho hy h1,Be hb hr z1 h2]
theorem q17:(Lm a b s).Pairwise (fun e e'=>e.1≠e'.1):=by
 unfold Lm;rw[List.pairwise_flatMap];refine⟨fun o ho=> ?_,(B9 ha s.1).imp_of_mem fun {o o'} ho ho' hd x hx y hy e=> ?_⟩
 ·rw[List.pairwise_filterMap];refine(B9 hb s.2).imp_of_mem fun {r r'} hr z1 hd x hx y hy e=> ?_;obtain⟨k1,_,k3,_⟩:=Ys ha hb ht ho hr hx;obtain⟨_,_,j3,_⟩:=Ys ha hb ht ho z1 hy;rw[←e]at j3;exact hd x.1 ((Wx ht).2 k1) k3 j3
 ·obtain⟨r,hr,h1⟩:=ww.1 hx;obtain⟨r',z1,h2⟩:=ww.1 hy;obtain⟨k1,k2,_⟩:=Ys ha hb ht ho hr h1;obtain⟨_,j2,_⟩:=Ys ha hb ht ho' z1 h2;rw[←e]at j2;exact hd x.1 k1 k2 j2
end
def Ce(e e':Sy×(Int×Int)):Bool:= !z0r e'.1 e.1
def Yz(a b:Aut)(s:Int×Int):List (Sy×(Int×Int)):=(Lm a b s).mergeSort Ce
theorem Mx(x y z:Sy×(Int×Int))(h1:Ce x y=true)(h2:Ce y z=true):Ce x z=true:=by
 unfold Ce at *
 cases hz:z0r z.1 x.1 with
 |false=>rfl
 |true=>
  exfalso;rw[Jb]at hz;have n1:¬sLt y.1 x.1:=fun k=>by rw[(Jb _ _).2 k]at h1;simp at h1
  have n2:¬sLt z.1 y.1:=fun k=>by rw[(Jb _ _).2 k]at h2;simp at h2
  rcases sLt.tri x.1 y.1 with k|k|k
  ·exact n2 (hz.trans k)
  ·rw[k]at hz;exact n2 hz
  ·exact n1 k
theorem q06(x y:Sy×(Int×Int)):(Ce x y || Ce y x)=true:=by
 unfold Ce;cases h1:z0r y.1 x.1 with
 |false=>rfl
 |true=>
  cases h2:z0r x.1 y.1 with
  |false=>rfl
  |true=>exact absurd (((Jb _ _).1 h1).trans ((Jb _ _).1 h2)) (fun k=>sLt.irr k)
theorem Hf{L:List (Sy×(Int×Int))}(hp:L.Pairwise fun x y=>Ce x y=true)(hn:L.Pairwise fun e e'=>e.1≠e'.1):L.Pairwise fun x y=>sLt x.1 y.1:=by
 refine(hp.and hn).imp fun {x y} h=> ?_;have n1:¬sLt y.1 x.1:=fun k=>by have:=h.1;unfold Ce at this;rw[(Jb _ _).2 k]at this;simp at this
 rcases sLt.tri x.1 y.1 with k|k|k
 ·exact k
 ·exact absurd k h.2
 ·exact absurd k n1
theorem N3{a b:Aut}(ha:Dta a)(hb:Dta b)(ht:b.types=a.types)(s:Int×Int):(Yz a b s).Pairwise fun x y=>sLt x.1 y.1:=by refine Hf (vI Mx q06 _) ?_;exact(xZ (Lm a b s) Ce).symm.pairwise (q17 ha hb ht) (fun {x y} h=>h.symm)
theorem Pw{a b:Aut}(ha:Dta a)(hb:Dta b)(ht:b.types=a.types)(s:Int×Int):SuccOk (Wj a) (R8 a b) s (Yz a b s):=by have hm:∀e,e∈Yz a b s↔e∈Lm a b s:=fun e=>(xZ (Lm a b s) Ce).mem_iff;refine⟨N3 ha hb ht s,fun e he=>u1c ha hb ht ((hm e).1 he),fun y hy=> ?_⟩;obtain⟨e,he,h⟩:=z1n ha hb ht (s:=s) hy;exact⟨e,(hm e).2 he,h⟩
theorem j0b{a b:Aut}(ha:Dta a)(hb:Dta b)(ht:b.types=a.types)(s:Int×Int){L:List (Sy×(Int×Int))}(hp:L.Perm (Lm a b s))(hs:L.Pairwise fun x y=>Ce x y=true):L=Yz a b s:=by have h1:=Hf hs (hp.symm.pairwise (q17 ha hb ht) (fun {x y} h=>h.symm));refine List.Perm.eq_of_pairwise (le:=fun x y=>sLt x.1 y.1) (fun x y _ _ k1 k2=>absurd (k1.trans k2) (fun k=>sLt.irr k)) h1 (N3 ha hb ht s) (hp.trans (xZ (Lm a b s) Ce).symm)
end Go.Abs
namespace Go.Abs
structure FirstP (ok:Sy→Prop) (P:List Sy→Bool) (w:List Sy):Prop where
 okw:∀x∈w,ok x
 hit:P w=true
 least:∀v,(∀x∈v,ok x)→P v=true→lle w v
theorem FirstP.uniq{ok:Sy→Prop}{P:List Sy→Bool}{v w:List Sy}(h:FirstP ok P v)(k:FirstP ok P w):v=w:=
 (h.least w k.okw k.hit).anti (k.least v h.okw h.hit)
theorem FirstP.congr{ok:Sy→Prop}{P Q:List Sy→Bool}{w:List Sy}(h:FirstP ok P w)(e:∀v,(∀x∈v,ok x)→P v=Q v):FirstP ok Q w:=
 ⟨h.okw,by rw[←e w h.okw];exact h.hit,fun v hv hq=>h.least v hv (by rw[e v hv];exact hq)⟩
theorem FirstP.sub{ok ok':Sy→Prop}{P:List Sy→Bool}{w:List Sy}(h:FirstP ok P w)(e:∀x,ok x↔ok' x):FirstP ok' P w:=
 ⟨fun x hx=>(e x).1 (h.okw x hx),h.hit,fun v hv hq=>h.least v (fun x hx=>(e x).2 (hv x hx)) hq⟩
theorem FirstW.toP{σ:Type}{ok:Sy→Prop}{step:σ→Sy→σ}{good:σ→Bool}{s:σ}{w:List Sy}(h:FirstW ok step good s w):FirstP ok (fun v=>good (Rv step s v)) w:=⟨h.okw,h.goodw,h.least⟩
def v0n(s:Int):List Int:=if s= -1 then []else [s]
theorem j05{a:Aut}(h:Dta a){s:Int}{x:Sy}(hx:Wj a x):Qu a [s] x=v0n (toL a s x):=by
 unfold v0n;rcases S6 (a:=a) s x with⟨h1,h2⟩|⟨m,m1,m2,m3,m4⟩
 ·rw[if_pos h1];refine x_.2 fun j hj=> ?_;obtain⟨_,m,hm,k1,k2,_⟩:=Wn.1 hj;rw[h2 m hm (zK.1 k1)]at k2;cases k2
 ·have hd:=(h.ok.mv m m1).dst;rw[if_neg (by rw[m4];omega)];refine Tl (Yf ..) (by simp) fun z=> ?_;rw[Wn,zK];constructor
  ·rintro⟨_,k,hk,k1,k2,rfl⟩;rw[←h.to_of hk hx k2,zK.1 k1]
  ·rintro rfl;rw[m4];exact⟨hd,m,m1,by rw[m2];simp,m3,rfl⟩
theorem Jl(a:Aut)(x:Sy):Qu a [] x=[]:=x_.2 fun j hj=>by obtain⟨_,m,hm,k1,_⟩:=Wn.1 hj;cases k1
theorem y06{a:Aut}(h:Dta a):∀(w:List Sy) (s:Int),(∀x∈w,Wj a x)→Is a (v0n s) w=v0n (stF a s w)
 |[],_,_=>rfl
 |x::w,s,hw=>by
  have hx:=hw x (by simp);have ih:=y06 h w (toL a s x) fun y hy=>hw y (by simp[hy]);show Is a (Qu a (v0n s) x) w=v0n (stF a (toL a s x) w);rw[←ih]
  congr 1
  by_cases hs:s= -1
  ·subst hs;rw[y1f h.ok];unfold v0n;rw[if_pos rfl,Jl]
  ·have:v0n s=[s]:=by unfold v0n;rw[if_neg hs]
   rw[this,j05 h hx]
theorem y1i(a:Aut)(s:Int):Iy a (v0n s)=Bs a s:=by
 unfold v0n Bs Iy;by_cases hs:s= -1
 ·rw[if_pos hs,hs];rfl
 ·rw[if_neg hs];simp[hs]
theorem u0l{a:Aut}(h:Dta a){w:List Sy}(hw:∀x∈w,Wj a x):En a w=Bs a (stF a 0 w):=by unfold En;rw[←y1i,←y06 h w 0 hw];rfl
def Hn(n:Nat):List Int:= -1::Wo n
def Mz(a b:Aut):List (Int×Int):=(Hn a.fin.length).flatMap fun i=>(Hn b.fin.length).map fun j=>(i,j)
theorem Fl(a b:Aut):(Mz a b).length=(a.fin.length+1) * (b.fin.length+1):=by unfold Mz;rw[wW,xI (g:=fun _=>b.fin.length+1) (fun i _=>by simp[Wo,Hn]),vG,wP];simp[Wo,Hn]
theorem G5{a:Aut}{s:Int}:s∈Hn a.fin.length↔inD a s:=by unfold Hn inD;rw[zU,Wq];exact Iff.rfl
theorem F5{a b:Aut}{s:Int×Int}(h1:inD a s.1)(h2:inD b s.2):s∈Mz a b:=by unfold Mz;exact xD.2 ⟨s.1,G5.2 h1,zL.2 ⟨s.2,G5.2 h2,rfl⟩⟩
def Lw(wn:Bool→Bool→Bool)(a b:Aut)(s:Int×Int):Bool:=wn (Bs a s.1) (Bs b s.2)
def Dy(a b:Aut)(wn:Bool→Bool→Bool):Option (List Sy)×List ((Int×Int)×List Sy):=Gu (Lw wn a b) (Yz a b) ((a.fin.length+1) * (b.fin.length+1)+1) 0 [((0,0),[])]
def wnd(wn:Bool→Bool→Bool)(a b:Aut)(v:List Sy):Bool:=wn (En a v) (En b v)
theorem Bd{a b:Aut}(ha:Dta a)(hb:Dta b)(ht:b.types=a.types)(wn:Bool→Bool→Bool){v:List Sy}(hv:∀x∈v,Wj a x):Lw wn a b (Rv (R8 a b) (0,0) v)=wnd wn a b v:=by rw[Yx];unfold Lw wnd;rw[u0l ha hv,u0l hb fun x hx=>(Wx ht).2 (hv x hx)]
theorem Tr{a b:Aut}(ha:Dta a)(hb:Dta b)(ht:b.types=a.types)(wn:Bool→Bool→Bool):
  (∃w L,Dy a b wn=(some w,L)∧FirstP (Wj a) (wnd wn a b) w)∨
  (∃L,Dy a b wn=(none,L)∧(L.map (·.1)).Nodup∧(∀s,s∈L.map (·.1)↔∃v,(∀x∈v,Wj a x)∧Rv (R8 a b) (0,0) v=s)∧(∀s∈L.map (·.1),inD a s.1∧inD b s.2)∧∀v,(∀x∈v,Wj a x)→wnd wn a b v=false):=by
 have hz:inD a 0∧inD b 0:=⟨.inr ⟨yI _,by have:=ha.ok.fin;omega⟩,.inr ⟨yI _,by have:=hb.ok.fin;omega⟩⟩
 rcases Oz (ok:=Wj a) (step:=R8 a b) (good:=Lw wn a b) (succ:=Yz a b) (s0:=(0,0)) (G:=fun s=>inD a s.1∧inD b s.2) (fun s _=>Pw ha hb ht s)
  (fun s _ e he=>by
   rw[((Pw ha hb ht s).mem e he).2];exact⟨H5 ha.ok _ _,H5 hb.ok _ _⟩) (Mz a b) (fun s hs=>F5 hs.1 hs.2) ((a.fin.length+1) * (b.fin.length+1)+1) 0 [((0,0),[])] (by rw[Fl];omega) (by simp) (Ip (s0:=((0:Int),(0:Int))) hz)with⟨w,L,h1,h2⟩|⟨L,h1,h2,h3,h4⟩
 ·exact .inl ⟨w,L,h1,h2.toP.congr fun v hv=>Bd ha hb ht wn hv⟩
 ·refine .inr ⟨L,h1,h2,fun s=>⟨fun hs=> ?_,fun⟨v,hv,e⟩=> ?_⟩,fun s hs=> ?_,fun v hv=> ?_⟩
  ·obtain⟨e,he,rfl⟩:=zL.1 hs;exact⟨e.2,(h3 e he).1,(h3 e he).2.1⟩
  ·rw[←e];exact(h4 v hv).1
  ·obtain⟨e,he,rfl⟩:=zL.1 hs;exact(h3 e he).2.2
  ·rw[←Bd ha hb ht wn hv];exact(h4 v hv).2
end Go.Abs
namespace Go.Abs
theorem G4{a:Aut}{x y:Sy}(h:∀m∈a.mv,Rj m.on x=Rj m.on y)(l:List Int):Qu a l x=Qu a l y:=by unfold Qu;refine List.filter_congr fun j _=> ?_;unfold z1u;rw[xE,wH,wH];refine exists_congr fun m=>and_congr_right fun hm=> ?_;rw[h m hm]
abbrev SS:=List Int×List Int
def Zd(a b:Aut)(s:SS)(x:Sy):SS:=(Qu a s.1 x,Qu b s.2 x)
def Zq(a b:Aut)(s:SS):List (Sy×SS):=(Rt a b).map fun x=>(x,Zd a b s x)
def x1d(wn:Bool→Bool→Bool)(a b:Aut)(s:SS):Bool:=wn (Iy a s.1) (Iy b s.2)
def q1k(a b:Aut)(wn:Bool→Bool→Bool):Option (List Sy)×List (SS×List Sy):=Gu (x1d wn a b) (Zq a b) 66050 0 [(([0],[0]),[])]
theorem w1c(a b:Aut):∀(w:List Sy) (l m:List Int),Rv (Zd a b) (l,m) w=(Is a l w,Is b m w)
 |[],_,_=>rfl
 |x::w,l,m=>w1c a b w (Qu a l x) (Qu b m x)
theorem Ni{a b:Aut}(ha:OkA a)(hb:OkA b)(ht:b.types=a.types)(s:SS):SuccOk (Wj a) (Zd a b) s (Zq a b s):=by
 have hl:=q1f ha hb ht;refine⟨?_,fun e he=> ?_,fun y hy=> ?_⟩
 ·unfold Zq;exact xF.2 (hl.ascS.imp fun h=>h)
 ·obtain⟨x,hx,rfl⟩:=zL.1 he;obtain⟨c,hc,rfl⟩:=zL.1 hx;exact⟨Ur.1 (hl.least hc).1,rfl⟩
 ·obtain⟨c,hc,hm,hle,z1⟩:=hl.cov (Ur.2 hy);refine⟨(Qi c,Zd a b s (Qi c)),zL.2 ⟨Qi c,zL.2 ⟨c,hc,rfl⟩,rfl⟩,?_,hle⟩;unfold Zd;rw[G4 (fun m hm=>(z1 m.on (yT _ (Jj hm))).symm),G4 (a:=b) (fun m hm=>(z1 m.on (wV _ (Jj hm))).symm)]
def Gt(P Q:List (List Int)):List SS:=([]::P).flatMap fun i=>([]::Q).map fun j=>(i,j)
theorem x0i(P Q:List (List Int)):(Gt P Q).length=(P.length+1) * (Q.length+1):=by unfold Gt;rw[wW,xI (g:=fun _=>Q.length+1) (fun i _=>by simp),vG,wP];simp
theorem k01{P Q:List (List Int)}{s:SS}(h1:s.1=[]∨s.1∈P)(h2:s.2=[]∨s.2∈Q):s∈Gt P Q:=by unfold Gt;exact xD.2 ⟨s.1,zU.2 h1,zL.2 ⟨s.2,zU.2 h2,rfl⟩⟩
theorem Zp{a b x y:Aut}(ha:OkA a)(hb:OkA b)(ht:b.types=a.types)(da:Ef a=(0,x))(db:Ef b=(0,y))(wn:Bool→Bool→Bool):
  (∃w L,q1k a b wn=(some w,L)∧FirstP (Wj a) (wnd wn a b) w)∨(∃L,q1k a b wn=(none,L)∧∀v,(∀z∈v,Wj a z)→wnd wn a b v=false):=by
 obtain⟨P,_,hP,z1,_⟩:=Ug ha da;obtain⟨Q,_,hQ,z6,_⟩:=Ug hb db;have step:∀(c:Aut) (cl:List Prd) (Q:List (List Int)),Sub c cl Q→Cls c cl→∀(l:List Int) (z:Sy),Wj c z→(l=[]∨l∈Q)→(Qu c l z=[]∨Qu c l z∈Q):=fun c cl Q hs hc l z hz hl=>by
  rcases hl with rfl|hl
  ·exact .inl (Jl _ _)
  ·exact hs.step hc hl hz
 have hw:∀v,x1d wn a b (Rv (Zd a b) ([0],[0]) v)=wnd wn a b v:=fun v=>by rw[w1c];rfl
 have hlen:(Gt P Q).length+1≤0+66050:=by have h1:=hP.lim;have h2:=hQ.lim;rw[x0i];have:=Nat.mul_le_mul (show P.length+1≤257 by omega) (show Q.length+1≤257 by omega);omega
 rcases Oz (ok:=Wj a) (step:=Zd a b) (good:=x1d wn a b) (succ:=Zq a b) (s0:=(([0]:List Int),([0]:List Int))) (G:=fun s=>(s.1=[]∨s.1∈P)∧(s.2=[]∨s.2∈Q)) (fun s _=>Ni ha hb ht s)
  (fun s hs e he=>by
   obtain⟨h1,h2⟩:=(Ni ha hb ht s).mem e he;rw[h2];exact⟨step _ _ _ hP z1 _ _ h1 hs.1,step _ _ _ hQ z6 _ _ ((Wx ht).2 h1) hs.2⟩) (Gt P Q) (fun s hs=>k01 hs.1 hs.2) 66050 0 [(([0],[0]),[])] hlen (by simp) (Ip (s0:=(([0]:List Int),([0]:List Int))) ⟨.inr (zC hP.first),.inr (zC hQ.first)⟩)with⟨w,L,h1,h2⟩|⟨L,h1,_,_,h4⟩
 ·exact .inl ⟨w,L,h1,h2.toP.congr fun v _=>hw v⟩
 ·exact .inr ⟨L,h1,fun v hv=>by rw[←hw v];exact(h4 v hv).2⟩
theorem G6{a b x y:Aut}(ha:OkA a)(hb:OkA b)(ht:b.types=a.types)(da:Ef a=(0,x))(db:Ef b=(0,y))(wn:Bool→Bool→Bool):(q1k a b wn).1=(Dy x y wn).1:=by
 obtain⟨_,_,_,_,_,_,xo,xd,xt,xa⟩:=Ug ha da;obtain⟨_,_,_,_,_,_,yo,yd,yt,ya⟩:=Ug hb db;have z6:y.types=x.types:=by rw[yt,xt,ht]
 have z1:∀z,Wj x z↔Wj a z:=fun z=>Wx xt;have hw:∀v,(∀z∈v,Wj a z)→wnd wn x y v=wnd wn a b v:=fun v hv=>by unfold wnd;rw[xa v hv,ya v fun z hz=>(Wx ht).2 (hv z hz)]
 rcases Zp ha hb ht da db wn with⟨w,L,h1,h2⟩|⟨L,h1,h2⟩
 ·rcases Tr ⟨xo,xd⟩ ⟨yo,yd⟩ z6 wn with⟨v,M,k1,k2⟩|⟨M,k1,_,_,_,k2⟩
  ·rw[h1,k1];have:=(k2.sub z1).congr hw;rw[this.uniq h2]
  ·exfalso;have:=k2 w fun z hz=>(z1 z).2 (h2.okw z hz);rw[hw w h2.okw,h2.hit]at this;cases this
 ·rcases Tr ⟨xo,xd⟩ ⟨yo,yd⟩ z6 wn with⟨v,M,k1,k2⟩|⟨M,k1,_,_,_,k2⟩
  ·exfalso;have hv:=fun z hz=>(z1 z).1 (k2.okw z hz);have:=h2 v hv;rw[←hw v hv,k2.hit]at this;cases this
  ·rw[h1,k1]
def neB(x y:Bool):Bool:=x != y
theorem P3{a b:Aut}(ha:Dfa a)(hb:Dfa b)(ht:b.types=a.types):(Sa a b 0 0).1=(Dy a b neB).1:=by
 have da:Dta a:=⟨ha.ok,ha.det⟩
 have db:Dta b:=⟨hb.ok,hb.det⟩
 have hz:=ha.zero;have z1:=hb.zero;have hd:∀v,(∀z∈v,Wj a z)→(B3 a 0 v≠B3 b 0 v↔wnd neB a b v=true):=fun v hv=>by unfold wnd neB;rw[ha.acc hv,hb.acc fun z hz=>(Wx ht).2 (hv z hz)];simp
 rcases y0f ha hb ht hz z1 with⟨w,h1,h2⟩|⟨h1,h2⟩
 ·have hf:FirstP (Wj a) (wnd neB a b) w:=by refine⟨h2.okw,(hd w h2.okw).1 ((Js a b 0 0 w).1 h2.goodw),fun v hv hp=>h2.least v hv ((Js a b 0 0 v).2 ((hd v hv).2 hp))⟩
  rcases Tr da db ht neB with⟨v,M,k1,k2⟩|⟨M,k1,_,_,_,k2⟩
  ·rw[h1,k1,hf.uniq k2]
  ·have:=k2 w hf.okw;rw[hf.hit]at this;cases this
 ·rcases Tr da db ht neB with⟨v,M,k1,k2⟩|⟨M,k1,_,_,_,k2⟩
  ·exact absurd (h2 v k2.okw) ((hd v k2.okw).2 k2.hit)
  ·rw[h1,k1]
def pLt(p q:Int×Int):Prop:=p.1<q.1∨(p.1=q.1∧p.2<q.2)
theorem pLt.irr{p:Int×Int}(h:pLt p p):False:=by unfold pLt at h;omega
theorem pLt.trans{p q r:Int×Int}(h:pLt p q)(k:pLt q r):pLt p r:=by unfold pLt at *;omega
theorem pLt.tri(p q:Int×Int):pLt p q∨p=q∨pLt q p:=by
 unfold pLt;by_cases h1:p.1=q.1
 ·by_cases h2:p.2=q.2
  ·exact .inr (.inl (Prod.ext h1 h2))
  ·omega
 ·omega
theorem Aq{L M:List (Int×Int)}(h:L.Pairwise pLt)(k:M.Pairwise pLt)(e:∀s,s∈L↔s∈M):L=M:=by
 have nd:∀ {X:List (Int×Int)},X.Pairwise pLt→X.Nodup:=fun hx=>hx.imp fun h e=>by subst e;exact h.irr
 exact List.Perm.eq_of_pairwise (le:=pLt) (fun p q _ _ h1 h2=>(h1.trans h2).irr.elim) h k ((List.perm_ext_iff_of_nodup (nd h) (nd k)).2 e)
end Go.Abs
namespace Go.Abs
def pLe(p q:Int×Int):Bool:=decide (p.1<q.1) || (decide (p.1=q.1) && decide (p.2≤q.2))
theorem y0w(p q r:Int×Int)(h:pLe p q=true)(k:pLe q r=true):pLe p r=true:=by unfold pLe at *;simp only[xU,zQ,decide_eq_true_eq]at *;omega
theorem v0r(p q:Int×Int):(pLe p q || pLe q p)=true:=by unfold pLe;simp only[xU,zQ,decide_eq_true_eq];omega
theorem q1s{p q:Int×Int}(h:pLe p q=true)(hn:p≠q):pLt p q:=by
 unfold pLe at h;simp only[xU,zQ,decide_eq_true_eq]at h;rcases pLt.tri p q with k|k|k
 ·exact k
 ·exact absurd k hn
 ·unfold pLt at k;omega
def R6(L:List (Int×Int)):List (Int×Int):=L.mergeSort pLe
theorem Sq{L:List (Int×Int)}(h:L.Nodup):(R6 L).Pairwise pLt:=by have h1:=vI y0w v0r L;have h2:(R6 L).Nodup:=(xZ L pLe).symm.nodup h;exact(h1.and h2).imp fun h=>q1s h.1 h.2
theorem R3{L:List (Int×Int)}{s:Int×Int}:s∈R6 L↔s∈L:=(xZ L pLe).mem_iff
theorem w0e{L M:List (Int×Int)}(h:L.Nodup)(hp:M.Perm L)(hs:M.Pairwise fun p q=>pLe p q=true):M=R6 L:=by have hn:M.Nodup:=hp.symm.nodup h;exact Aq ((hs.and hn).imp fun h=>q1s h.1 h.2) (Sq h) fun s=>by rw[R3];exact hp.mem_iff
def x08(a b:Aut)(s:Int×Int):Prop:=∃v,(∀x∈v,Wj a x)∧Rv (R8 a b) (0,0) v=s
def X2(a b:Aut):List (Int×Int):=(Gu (fun _=>false) (Xh a b) ((a.fin.length+1) * (b.fin.length+1)+1) 0 [((0,0),[])]).2.map (·.1)
def Tq(a b:Aut):List (Int×Int):=(Dy a b neB).2.map (·.1)
theorem q0o{a b:Aut}(ha:OkA a)(hb:OkA b)(ht:b.types=a.types):(X2 a b).Nodup∧(∀s,s∈X2 a b↔x08 a b s)∧∀s∈X2 a b,inD a s.1∧inD b s.2:=by
 have hz:inD a 0∧inD b 0:=⟨.inr ⟨yI _,by have:=ha.fin;omega⟩,.inr ⟨yI _,by have:=hb.fin;omega⟩⟩
 rcases Oz (ok:=Wj a) (step:=R8 a b) (good:=fun _=>false) (succ:=Xh a b) (s0:=((0:Int),(0:Int))) (G:=fun s=>inD a s.1∧inD b s.2) (fun s _=>Ag ha hb ht s)
  (fun s _ e he=>by
   rw[((Ag ha hb ht s).mem e he).2];exact⟨H5 ha _ _,H5 hb _ _⟩) (Mz a b) (fun s hs=>F5 hs.1 hs.2) ((a.fin.length+1) * (b.fin.length+1)+1) 0 [((0,0),[])] (by rw[Fl];omega) (by simp) (Ip (s0:=((0:Int),(0:Int))) hz)with⟨w,L,_,h2⟩|⟨L,h1,h2,h3,h4⟩
 ·exact absurd h2.goodw (by simp)
 ·unfold X2;rw[h1];refine⟨h2,fun s=>⟨fun hs=> ?_,fun⟨v,hv,e⟩=>by rw[←e];exact(h4 v hv).1⟩,fun s hs=> ?_⟩
  ·obtain⟨e,he,rfl⟩:=zL.1 hs;exact⟨e.2,(h3 e he).1,(h3 e he).2.1⟩
  ·obtain⟨e,he,rfl⟩:=zL.1 hs;exact(h3 e he).2.2
theorem S7{a b:Aut}(ha:Dta a)(hb:Dta b)(ht:b.types=a.types)(hn:(Dy a b neB).1=none):(Tq a b).Nodup∧R6 (Tq a b)=R6 (X2 a b)∧∀s,s∈Tq a b↔x08 a b s:=by
 obtain⟨r1,r2,_⟩:=q0o ha.ok hb.ok ht;rcases Tr ha hb ht neB with⟨w,L,h1,_⟩|⟨L,h1,h2,h3,_⟩
 ·rw[h1]at hn;cases hn
 ·have e:Tq a b=L.map (·.1):=by unfold Tq;rw[h1]
  have e2:∀s,s∈Tq a b↔x08 a b s:=fun s=>by rw[e];exact h3 s
  have n1:(Tq a b).Nodup:=by rw[e];exact h2
  exact⟨n1,Aq (Sq n1) (Sq r1) (fun s=>by rw[R3,R3,r2 s,e2 s]),e2⟩
def Xx(a b:Aut)(s:Int×Int):Bool:=a.fin.getD s.1.toNat false==b.fin.getD s.2.toNat false
def Gm(a b:Aut)(l:List (Int×Int)):Bool:=decide ((0,0)∈l) && l.all fun s=>Xx a b s && (Xh a b s).all fun e=>decide (e.2∈l)
def Sc(a b:Aut)(l:List (Int×Int)):Bool:=(l.all fun s=>Xx a b s && (Yz a b s).all fun e=>decide (e.2∈l)) && decide ((0,0)∈l)
theorem S5{a b:Aut}{s:Int×Int}{L:List (Sy×(Int×Int))}(h:SuccOk (Wj a) (R8 a b) s L)(l:List (Int×Int)):(L.all fun e=>decide (e.2∈l))=true↔∀y,Wj a y→R8 a b s y∈l:=by
 rw[zM];constructor
 ·intro k y hy;obtain⟨e,he,e1,_⟩:=h.cov y hy;rw[←e1];simpa using k e he
 ·intro k e he;obtain⟨h1,h2⟩:=h.mem e he;rw[h2];simpa using k e.1 h1
theorem J6{a b:Aut}(ha:OkA a)(hb:OkA b)(ht:b.types=a.types)(l:List (Int×Int)):Gm a b l=true↔(0,0)∈l∧∀s∈l,Xx a b s=true∧∀y,Wj a y→R8 a b s y∈l:=by
 unfold Gm;rw[zQ,decide_eq_true_eq,zM];refine and_congr_right fun _=>⟨fun h s hs=> ?_,fun h s hs=> ?_⟩
 ·have:=h s hs;rw[zQ]at this;exact⟨this.1,(S5 (Ag ha hb ht s) l).1 this.2⟩
 ·rw[zQ];exact⟨(h s hs).1,(S5 (Ag ha hb ht s) l).2 (h s hs).2⟩
theorem z01{a b:Aut}(ha:Dta a)(hb:Dta b)(ht:b.types=a.types)(l:List (Int×Int)):Sc a b l=Gm a b l:=by
 rw[xE,J6 ha.ok hb.ok ht];unfold Sc;rw[zQ,decide_eq_true_eq,zM];rw[and_comm];refine and_congr_right fun _=>⟨fun h s hs=> ?_,fun h s hs=> ?_⟩
 ·have:=h s hs;rw[zQ]at this;exact⟨this.1,(S5 (Pw ha hb ht s) l).1 this.2⟩
 ·rw[zQ];exact⟨(h s hs).1,(S5 (Pw ha hb ht s) l).2 (h s hs).2⟩
theorem q0g{a b:Aut}(ha:Dfa a)(hb:Dfa b)(ht:b.types=a.types){l:List (Int×Int)}(h:Gm a b l=true):∀w,(∀x∈w,Wj a x)→En a w=En b w:=by
 obtain⟨h0,hc⟩:=(J6 ha.ok hb.ok ht l).1 h;have key:∀(w:List Sy) (s:Int×Int),s∈l→(∀x∈w,Wj a x)→Rv (R8 a b) s w∈l:=by
  intro w;induction w with
  |nil=>intro s hs _;exact hs
  |cons x w ih=>intro s hs hw;exact ih _ ((hc s hs).2 x (hw x (by simp))) fun y hy=>hw y (by simp[hy])
 intro w hw;have hm:=(hc _ (key w (0,0) h0 hw)).1;rw[Yx]at hm;rw[ha.acc hw,hb.acc fun x hx=>(Wx ht).2 (hw x hx)];unfold Xx at hm;exact beq_iff_eq.1 hm
theorem Xy{a b:Aut}(ha:Dfa a)(hb:Dfa b)(ht:b.types=a.types)(hn:(Dy a b neB).1=none):Gm a b (R6 (Tq a b))=true:=by
 have da:Dta a:=⟨ha.ok,ha.det⟩
 have db:Dta b:=⟨hb.ok,hb.det⟩
 obtain⟨_,_,hr⟩:=S7 da db ht hn;have z1:∀v,(∀x∈v,Wj a x)→wnd neB a b v=false:=by
  rcases Tr da db ht neB with⟨w,L,h1,_⟩|⟨L,_,_,_,_,h2⟩
  ·rw[h1]at hn;cases hn
  ·exact h2
 rw[J6 ha.ok hb.ok ht];refine⟨by rw[R3,hr];exact⟨[],by simp,rfl⟩,fun s hs=> ?_⟩;rw[R3,hr]at hs;obtain⟨v,hv,e⟩:=hs;refine⟨?_,fun y hy=> ?_⟩
 ·have:=z1 v hv;unfold wnd neB at this;rw[ha.acc hv,hb.acc fun x hx=>(Wx ht).2 (hv x hx)]at this;rw[Yx]at e;rw[←e];unfold Xx;unfold B3 at this;simpa using this
 ·rw[R3,hr];refine⟨v++[y],fun x hx=>(zN.1 hx).elim (hv x) (fun k=>by rw[zK.1 k];exact hy),?_⟩;rw[←e];simp[Rv,wI]
end Go.Abs
namespace Go.Abs
def u05(b:Aut)(p:Int):List Sy→Prop
 |[]=>b.fin.getD p.toNat false=true
 |x::w=>∃q,q∈Qu b [p] x∧u05 b q w
theorem Hp{b:Aut}{l:List Int}{x:Sy}{q:Int}:q∈Qu b l x↔∃p∈l,q∈Qu b [p] x:=by
 rw[Wn];constructor
 ·rintro⟨h0,m,hm,h1,h2,h3⟩;exact⟨m.src,h1,Wn.2 ⟨h0,m,hm,by simp,h2,h3⟩⟩
 ·rintro⟨p,hp,hq⟩;obtain⟨h0,m,hm,h1,h2,h3⟩:=Wn.1 hq;rw[zK]at h1;exact⟨h0,m,hm,by rw[h1];exact hp,h2,h3⟩
theorem Fw(b:Aut):∀(w:List Sy) (l:List Int),Iy b (Is b l w)=true↔∃p∈l,u05 b p w
 |[],l=>by show Iy b l=true↔_;unfold Iy;rw[wH];exact Iff.rfl
 |x::w,l=>by
  show Iy b (Is b (Qu b l x) w)=true↔_;rw[Fw b w];constructor
  ·rintro⟨q,hq,h⟩;obtain⟨p,hp,z1⟩:=Hp.1 hq;exact⟨p,hp,q,z1,h⟩
  ·rintro⟨p,hp,q,hq,h⟩;exact⟨q,Hp.2 ⟨p,hp,hq⟩,h⟩
def dB(a b:Aut)(s:Int×List Int)(d:Nat):Prop:=∃w:List Sy,w.length=d∧(∀x∈w,Wj a x)∧u05 b s.1 w∧Iy a (Is a s.2 w)=false
def mB(a b:Aut)(s:Int×List Int)(d:Nat):Prop:=dB a b s d∧∀k,k<d→¬dB a b s k
theorem w1d{a b:Aut}{s:Int×List Int}{d k:Nat}(h:mB a b s d)(h':mB a b s k):d=k:=by
 rcases vP d k with hlt|e|hlt
 ·exact absurd h.1 (h'.2 d hlt)
 ·exact e
 ·exact absurd h'.1 (h.2 k hlt)
theorem q1z{a b:Aut}{s:Int×List Int}:∀(d:Nat),dB a b s d→∃k,k≤d∧mB a b s k:=by
 intro d;induction d using Nat.strongRecOn with
 |_ d ih=>
  intro h;by_cases hk:∃k,k<d∧dB a b s k
  ·obtain⟨k,h1,h2⟩:=hk;obtain⟨j,h3,h4⟩:=ih k h1 h2;exact⟨j,by omega,h4⟩
  ·exact⟨d,zI _,h,fun k h1 h2=>hk ⟨k,h1,h2⟩⟩
def gB(b:Aut)(Q:List (List Int))(s:Int×List Int):Prop:=inS b s.1∧(s.2=[]∨s.2∈Q)
section
variable {a b:Aut} {Q:List (List Int)} (hst:∀l∈Q,∀x,Wj a x→Qu a l x=[]∨Qu a l x∈Q)
include hst
theorem x1n{s:Int×List Int}(hs:gB b Q s){d:Nat}(h:mB a b s (d+1)):∃s',gB b Q s'∧mB a b s' d:=by
 obtain⟨⟨w,hw,ho,h1,h2⟩,z1⟩:=h;cases w with
 |nil=>cases hw
 |cons x w=>
  obtain⟨q,hq,h3⟩:=h1;have hx:=ho x (by simp);refine⟨(q,Qu a s.2 x),⟨⟨(Yg q hq).1,(Yg q hq).2⟩,?_⟩,⟨w,by simpa using hw,fun y hy=>ho y (by simp[hy]),h3,h2⟩,fun k hk hd=> ?_⟩
  ·rcases hs.2 with h|h
   ·rw[h];exact .inl (Jl a x)
   ·exact hst _ h x hx
  ·obtain⟨v,hv,z6,v1,v2⟩:=hd;exact z1 (k+1) (by omega) ⟨x::v,by simp[hv],fun y hy=>(zU.1 hy).elim (fun e=>by rw[e];exact hx) (z6 y),⟨q,hq,v1⟩,v2⟩
theorem q13:∀(k d:Nat) (s:Int×List Int),gB b Q s→mB a b s (d+k)→∃s',gB b Q s'∧mB a b s' d
 |0,_,s,hs,h=>⟨s,hs,h⟩
 |k+1,d,s,hs,h=>by obtain⟨s',h1,h2⟩:=x1n hst hs (d:=d+k) h;exact q13 k d s' h1 h2
theorem Me{s:Int×List Int}(hs:gB b Q s){d:Nat}(h:mB a b s d):d+1≤b.fin.length * (Q.length+1):=by
 have hex:∀k,∃t:Int×List Int,k≤d→gB b Q t∧mB a b t k:=fun k=>by
  by_cases hk:k≤d
  ·obtain⟨t,h1,h2⟩:=q13 hst (d - k) k s hs (by rw[show k+(d - k)=d by omega];exact h);exact⟨t,fun _=>⟨h1,h2⟩⟩
  ·exact⟨s,fun h=>absurd h hk⟩
 obtain⟨f,hf⟩:=Classical.axiomOfChoice hex;have hU:∀t,gB b Q t→t∈(Wo b.fin.length).flatMap fun i=>([]::Q).map fun j=>(i,j):=fun t ht=>
  xD.2 ⟨t.1,Wq.2 ht.1,zL.2 ⟨t.2,zU.2 ht.2,rfl⟩⟩
 have hlen:((Wo b.fin.length).flatMap fun i=>([]::Q).map fun j=>(i,j)).length=b.fin.length * (Q.length+1):=by rw[wW,xI (g:=fun _=>Q.length+1) (fun i _=>by simp),vG,wP];simp[Wo]
 have hn:((yD (d+1)).map f).Nodup:=by unfold List.Nodup;rw[xF];refine(List.nodup_range (n:=d+1)).imp_of_mem fun {i j} hi hj hij e=> ?_;have h1:=(hf i (by have:=yJ.1 hi;omega)).2;have h2:=(hf j (by have:=yJ.1 hj;omega)).2;rw[e]at h1;exact hij (w1d h1 h2)
 have:=hn.length_le_of_subset (l₂:=(Wo b.fin.length).flatMap fun i=>([]::Q).map fun j=>(i,j)) fun t ht=>by obtain⟨i,hi,rfl⟩:=zL.1 ht;exact hU _ (hf i (by have:=yJ.1 hi;omega)).1
 rw[zY,List.length_range,hlen]at this;exact this
end
theorem D0{a b x:Aut}(ha:OkA a)(hb:OkA b)(ht:b.types=a.types)(da:Ef a=(0,x)){w:List Sy}(hw:∀z∈w,Wj a z)(h1:En b w=true)(h2:En a w=false):∃v:List Sy,v.length+1≤b.fin.length * 257∧(∀z∈v,Wj a z)∧En b v=true∧En a v=false:=by
 obtain⟨Q,_,hQ,hc,_⟩:=Ug ha da;have hz:inS b 0:=⟨yI _,by have:=hb.fin;omega⟩
 have z1:∀v,En b v=true↔u05 b 0 v:=fun v=>by unfold En;rw[Fw];simp
 obtain⟨k,_,hk⟩:=q1z (a:=a) (b:=b) (s:=(0,[0])) w.length ⟨w,rfl,hw,(z1 w).1 h1,h2⟩;have z6:=Me (fun l hl x hx=>hQ.step hc hl hx) (b:=b) (s:=(0,[0])) ⟨hz,.inr (zC hQ.first)⟩ hk;obtain⟨⟨v,hv,z7,v1,v2⟩,_⟩:=hk;have hl:=hQ.lim;exact⟨v,by rw[hv];exact yL z6 (Nat.mul_le_mul_left _ (by omega)),z7,(z1 v).2 v1,v2⟩
theorem Y1{v w:List Sy}(h:lle v w):v.length≤w.length:=by
 rcases h with rfl|h|h
 ·exact zI _
 ·omega
 ·omega
def Cg(x y:Bool):Bool:=y && !x
theorem Lb{a b x:Aut}(ha:OkA a)(hb:OkA b)(ht:b.types=a.types)(z1:b.fin.length≤8)(da:Ef a=(0,x)){w:List Sy}(h:FirstP (Wj a) (wnd Cg a b) w):w.length≤4096:=by have hh:=h.hit;unfold wnd Cg at hh;rw[zQ]at hh;obtain⟨v,v1,v2,v3,v4⟩:=D0 ha hb ht da h.okw hh.1 (by simpa using hh.2);have:=Y1 (h.least v v2 (by unfold wnd Cg;rw[v3,v4];rfl));have:=zR 257 z1;omega
theorem C3{a b x y:Aut}(ha:OkA a)(hb:OkA b)(ht:b.types=a.types)(z1:a.fin.length≤8)(z6:b.fin.length≤8)(da:Ef a=(0,x))(db:Ef b=(0,y)){w:List Sy}(h:FirstP (Wj a) (wnd neB a b) w):w.length≤4096:=by
 have hh:=h.hit;unfold wnd neB at hh;cases h1:En a w with
 |true=>
  cases h2:En b w with
  |true=>rw[h1,h2]at hh;cases hh
  |false=>obtain⟨v,v1,v2,v3,v4⟩:=D0 hb ha ht.symm db (fun z hz=>(Wx ht).2 (h.okw z hz)) h1 h2;have:=Y1 (h.least v (fun z hz=>(Wx ht).1 (v2 z hz)) (by unfold wnd neB;rw[v3,v4];rfl));have:=zR 257 z1;omega
 |false=>
  cases h2:En b w with
  |false=>rw[h1,h2]at hh;cases hh
  |true=>obtain⟨v,v1,v2,v3,v4⟩:=D0 ha hb ht da h.okw h2 h1;have:=Y1 (h.least v v2 (by unfold wnd neB;rw[v3,v4];rfl));have:=zR 257 z6;omega
end Go.Abs
namespace Go.Abs
def d1p:List Iv→List Iv→Option Int
 |x::l,y::m=>if max x.lo y.lo≤min x.hi y.hi then some (max x.lo y.lo)else if x.hi<y.hi then d1p l (y::m)else d1p (x::l) m
 |_,_=>none
termination_by l m=>l.length+m.length
theorem u1m{x:Iv}{l:List Iv}(h:Sep (x::l)):∀n,M l n→x.hi<n:=by rintro n ⟨y,hy,h1,h2⟩;have:=(zZ.1 h.2).1 y hy;omega
theorem Y5{x:Iv}{l:List Iv}{n:Int}:M (x::l) n↔(x.lo≤n∧n≤x.hi)∨M l n:=by
 constructor
 ·rintro⟨y,hy,h⟩;rcases zU.1 hy with rfl|hy
  ·exact .inl h
  ·exact .inr ⟨y,hy,h⟩
 ·rintro(h|⟨y,hy,h⟩)
  ·exact⟨x,by simp,h⟩
  ·exact⟨y,by simp[hy],h⟩
theorem k0v{n:Int}:¬M [] n:=by rintro⟨y,hy,_⟩;cases hy
theorem f0a{x:Iv}{l:List Iv}(h:Sep (x::l)):Sep l:=⟨fun y hy=>h.1 y (by simp[hy]),(zZ.1 h.2).2⟩
def lqB(p q:Prd):Nat→Nat→Option Sy
 |0,_=>none
 |f+1,t=>match d1p (p.getD t []) (q.getD t [])with
  |some n=>some ⟨t,n⟩
  |none=>lqB p q f (t+1)
def Xe(p q:Prd):Option Sy:=if W2 (Ez p q)then none else some (Qi (Ez p q))
theorem J7{p:Prd}{t:Nat}{n:Int}:PM p t n↔M (p.getD t []) n:=by
 constructor
 ·rintro⟨s,hs,h⟩;simpa[yP,hs]using h
 ·intro h;by_cases ht:t<p.length
  ·rw[W1 ht]at h;exact⟨_,List.getElem?_eq_getElem ht,h⟩
  ·rw[show p.getD t []=[] by simp[yP,List.getElem?_eq_none (by omega:p.length≤t)]]at h;exact absurd h k0v
end Go.Abs
namespace Go.Abs
def Ux(a:Aut):Int:=if We a≠0 then We a else if Lp a=false∨Z9 a=false then 3 else 0
theorem Uc(a:Aut):Ux a=0↔Dfa a:=by
 unfold Ux;by_cases h:We a=0
 ·have z1:=(I3 a).1 h;rw[if_neg (fun k=>k h)];have h1:=Vq z1.wfA;have h2:Z9 a=true↔c0y a:=by rw[←g0e z1.wfA,L5];unfold Z9;rw[zM];simp only[yJ];exact forall_congr' fun s=>forall_congr' fun _=>by rw[y17 z1.wfA]
  constructor
  ·intro k;split at k
   ·cases k
   ·rename_i hn;refine⟨z1,h1.1 ?_,h2.1 ?_⟩
    ·cases hs:Lp a
     ·exact absurd (.inl hs) hn
     ·rfl
    ·cases hs:Z9 a
     ·exact absurd (.inr hs) hn
     ·rfl
  ·intro k;rw[if_neg];rintro(hs|hs)
   ·rw[h1.2 k.det]at hs;cases hs
   ·rw[h2.2 k.full]at hs;cases hs
 ·rw[if_pos h];exact⟨fun k=>absurd k h,fun k=>absurd ((I3 a).2 k.ok) h⟩
end Go.Abs
namespace Go.Abs
open Go Go.Proofs
attribute [simp] T68 T70 T87 T73 T23 T22 T25 T52 T26 T88
@[simp] def encP (p:Prd):AV:= .agg [.list (p.map encL)]
abbrev LP (l:List Prd):AV:= .list (l.map encP)
@[simp] def encSy (x:Sy):AV:= .agg [.i x.ty,.i x.num]
@[simp] def encMv (m:Mv):AV:= .agg [.i m.src,.i m.dst,.list (m.on.map encL)]
@[simp] def encA (a:Aut):AV:= .agg [.i a.types,.list (a.fin.map .bool),.list (a.mv.map encMv)]
attribute [local irreducible] ckR
theorem Fg(T:Int)(p:Prd):PC Tryz.prog 58 [.i T,encP p] (fun r=>r= .i (Ew T p)):=by
 refine Qh tOk Tryz.func58 rfl Tryz.results58 rfl (by simp[Tryz.ntmps58]) ?_;rw[Tryz.ntmps58];simp only[Qe];simp only[encP];refine Wl 1 0 rfl rfl (fun hlen=> ?_);rw[zY]at hlen;repeat first|(refine r_ ?_;simp)|refine q_ ?_
 refine Qa rfl (fun h=> ?_) (fun h=> ?_)
 ·repeat first|(refine r_ ?_;simp)|refine q_ ?_
  rw[Ew,if_pos (by simpa using h)]
 have h':¬(T<1∨16<T):=by simpa using h
 repeat first|(refine r_ ?_;simp)|refine q_ ?_
 refine Qa rfl (fun h2=> ?_) (fun h2=> ?_)
 ·repeat first|(refine r_ ?_;simp)|refine q_ ?_
  rw[Ew,if_neg h',if_pos (by simpa using h2)]
 have z7:(p.length:Int)=T:=by simpa using h2
 have hE:Ew T p=w0d p:=by rw[Ew,if_neg h',if_neg (by simpa using z7)]
 rw[hE];repeat first|(refine r_ ?_;simp)|refine q_ ?_
 refine Qv p.length (fun j=>w0d p=w0d (p.drop j)) (fun j=>[(22,.list (p.map encL)),(23,.i p.length),(24,.i j)]) (fun _=>[]) rfl (by simp) (by simp) (by simp) (by simp) (by simp) ?_;intro j hj hI ih;repeat first|(refine r_ ?_;simp)|refine q_ ?_
 refine Qa rfl (fun z8=> ?_) (fun za=> ?_)
 ·have z1:j<p.length:=by simpa using z8
  have hw:IntKind.i64.wrap ((j:Int)+1)=j+1:=wrap_i64 _ (by omega) (by omega);rw[W8 z1,w0d]at hI;repeat first|(refine r_ ?_;simp[z1])|refine q_ ?_
  refine Qc rfl rfl (by simp) (B7 p[j]) rfl ?_;rintro _ rfl;simp;repeat first|(refine r_ ?_;simp)|refine q_ ?_
  refine Qa rfl (fun h3=> ?_) (fun h3=> ?_)
  ·repeat first|(refine r_ ?_;simp)|refine q_ ?_
   rw[hI,if_pos (by simpa using h3)]
  rw[if_neg (by simpa using h3)]at hI;repeat first|(refine r_ ?_;simp[hw])|refine q_ ?_
  refine Qs _ (ih z1 hI) rfl (by simp) ?_ (by simp) (by simp);simp
 ·have z6:j=p.length:=by simp at za;omega
  subst z6;repeat first|(refine r_ ?_;simp)|refine q_ ?_
  rw[hI,xA];rfl
theorem Ml(T:Int)(p:Prd):PC Tryz.prog 158 [.i T,encP p] (fun r=>r= .i (Ew T p)):=by
 refine Qh tOk Tryz.func158 rfl Tryz.results158 rfl (by simp[Tryz.ntmps158]) ?_;rw[Tryz.ntmps158];simp only[Qe];simp only[encP];refine Wl 1 0 rfl rfl (fun hlen=> ?_);rw[zY]at hlen;repeat first|(refine r_ ?_;simp)|refine q_ ?_
 refine Qa rfl (fun h=> ?_) (fun h=> ?_)
 ·repeat first|(refine r_ ?_;simp)|refine q_ ?_
  rw[Ew,if_pos (by simpa using h)]
 have h':¬(T<1∨16<T):=by simpa using h
 repeat first|(refine r_ ?_;simp)|refine q_ ?_
 refine Qa rfl (fun h2=> ?_) (fun h2=> ?_)
 ·repeat first|(refine r_ ?_;simp)|refine q_ ?_
  rw[Ew,if_neg h',if_pos (by simpa using h2)]
 have z7:(p.length:Int)=T:=by simpa using h2
 have hE:Ew T p=w0d p:=by rw[Ew,if_neg h',if_neg (by simpa using z7)]
 rw[hE];repeat first|(refine r_ ?_;simp)|refine q_ ?_
 refine Qv p.length (fun j=>w0d p=w0d (p.drop j)) (fun j=>[(0,.i T),(3,.vptr 0 0),(5,.i j)]) (fun _=>[.vars [.list (p.map encL)]]) rfl (by simp) (by simp) (by simp) (by simp) (by simp) ?_;intro j hj hI ih;repeat first|(refine r_ ?_;simp)|refine q_ ?_
 refine Qa rfl (fun z8=> ?_) (fun za=> ?_)
 ·have z1:j<p.length:=by have k:(j:Int)<T:=(by simpa using z8);omega
  have hw:IntKind.i64.wrap ((j:Int)+1)=j+1:=wrap_i64 _ (by omega) (by omega);rw[W8 z1,w0d]at hI;repeat first|(refine r_ ?_;simp[z1])|refine q_ ?_
  refine Qc rfl rfl (by simp) (z0z p[j]) rfl ?_;rintro _ rfl;simp;repeat first|(refine r_ ?_;simp)|refine q_ ?_
  refine Qa rfl (fun h3=> ?_) (fun h3=> ?_)
  ·repeat first|(refine r_ ?_;simp)|refine q_ ?_
   rw[hI,if_pos (by simpa using h3)]
  rw[if_neg (by simpa using h3)]at hI;repeat first|(refine r_ ?_;simp[hw])|refine q_ ?_
  refine Qs _ (ih z1 hI) rfl (by simp) ?_ (by simp) (by simp);simp
 ·have z6:j=p.length:=by have k:¬(j:Int)<T:=(by simpa using za);omega
  subst z6;repeat first|(refine r_ ?_;simp)|refine q_ ?_
  rw[hI,xA];rfl
end Go.Abs
namespace Go.Abs
open Go Go.Proofs
def Gc:List Prd→Int
 |[]=>0
 |p::r=>if Ew p.length p≠0 then Ew p.length p else Gc r
attribute [local irreducible] Ew
theorem Gv(l:List Prd):PC Tryz.prog 102 [LP l] (fun r=>r= .i (Gc l)):=by
 refine Qh tOk Tryz.func102 rfl Tryz.results102 rfl (by simp[Tryz.ntmps102]) ?_;rw[Tryz.ntmps102];simp only[Qe];refine Tt 0 rfl (fun hlen=> ?_);rw[zY]at hlen;repeat first|(refine r_ ?_;simp)|refine q_ ?_
 refine Qv l.length (fun j=>Gc l=Gc (l.drop j)) (fun j=>[(6,LP l),(7,.i l.length),(8,.i j)]) (fun _=>[]) rfl (by simp) (by simp) (by simp) (by simp) (by simp) ?_;intro j hj hI ih;repeat first|(refine r_ ?_;simp)|refine q_ ?_
 refine Qa rfl (fun z7=> ?_) (fun z8=> ?_)
 ·have z1:j<l.length:=by simpa using z7
  have hw:IntKind.i64.wrap ((j:Int)+1)=j+1:=wrap_i64 _ (by omega) (by omega);rw[W8 z1,Gc]at hI;repeat first|(refine r_ ?_;simp[z1])|refine q_ ?_
  refine Qc rfl rfl (by simp) (Fg l[j].length l[j]) rfl ?_;rintro _ rfl;simp;repeat first|(refine r_ ?_;simp)|refine q_ ?_
  refine Qa rfl (fun h3=> ?_) (fun h3=> ?_)
  ·repeat first|(refine r_ ?_;simp)|refine q_ ?_
   rw[hI,if_pos (by simpa using h3)]
  rw[if_neg (by simpa using h3)]at hI;repeat first|(refine r_ ?_;simp[hw])|refine q_ ?_
  refine Qs _ (ih z1 hI) rfl (by simp) ?_ (by simp) (by simp);simp
 ·have z6:j=l.length:=by simp at z8;omega
  subst z6;repeat first|(refine r_ ?_;simp)|refine q_ ?_
  rw[hI,xA];rfl
def k0c(p:Prd)(x:Sy):Int:=if Gc [p]≠0 then Gc [p]else Fc p.length x
def Lj(p:Prd)(x:Sy):Bool×Int:=if k0c p x≠0 then(false,k0c p x)else(Rj p x,0)
attribute [local irreducible] Gc c0b
theorem q1c{T:Int}{p:Prd}(h:Ew T p=0):Gc [p]=0∧(p.length:Int)=T:=by
 obtain⟨h1,h2⟩:=(W7 T p).1 h;have hl:(p.length:Int)=T:=by have:=h2.1;omega
 exact⟨by unfold Gc;rw[hl,if_neg (fun k=>k h)];unfold Gc;rfl,hl⟩
theorem y0c{p:Prd}(h:Gc [p]=0):∀s∈p,CanonL s:=by
 unfold Gc at h;by_cases hc:Ew p.length p=0
 ·exact((W7 _ p).1 hc).2.2
 ·rw[if_pos hc]at h;exact absurd h hc
theorem Rz(p:Prd)(x:Sy):PC Tryz.prog 43 [encP p,encSy x] (fun r=>r= .tup [.bool (Lj p x).1,.i (Lj p x).2]):=by
 refine Qh tOk Tryz.func43 rfl Tryz.results43 rfl (by simp[Tryz.ntmps43]) ?_;rw[Tryz.ntmps43];simp only[Qe];simp only[encP,encSy];refine Wl 0 0 rfl rfl (fun hlen=> ?_);rw[zY]at hlen;repeat first|(refine r_ ?_;simp)|refine q_ ?_
 refine A6 2 rfl ?_;simp;refine Qc rfl rfl (by simp) (Gv [p]) rfl ?_;rintro _ rfl;simp;repeat first|(refine r_ ?_;simp)|refine q_ ?_
 refine Qa rfl (fun h=> ?_) (fun h=> ?_)
 ·repeat first|(refine r_ ?_;simp)|refine q_ ?_
  have h':Gc [p]≠0:=by simpa using h
  have hE:k0c p x=Gc [p]:=by rw[k0c,if_pos h']
  rw[Lj,hE,if_pos h'];exact⟨rfl,rfl⟩
 have h':Gc [p]=0:=by simpa using h
 have hE:k0c p x=Fc p.length x:=by rw[k0c,if_neg (fun k=>k h')]
 repeat first|(refine r_ ?_;simp)|refine q_ ?_
 refine Qa rfl (fun h1=> ?_) (fun h1=> ?_)
 ·repeat first|(refine r_ ?_;simp)|refine q_ ?_
  have z6:x.ty<0∨(p.length:Int)≤x.ty:=by simpa using h1
  have z1:k0c p x=6:=by rw[hE,Fc,if_pos z6]
  rw[Lj,z1];exact⟨rfl,rfl⟩
 have z6:¬(x.ty<0∨(p.length:Int)≤x.ty):=by simpa using h1
 repeat first|(refine r_ ?_;simp)|refine q_ ?_
 refine Qa rfl (fun h2=> ?_) (fun h2=> ?_)
 ·repeat first|(refine r_ ?_;simp)|refine q_ ?_
  have z7:x.num< -1099511627776∨1099511627776<x.num:=by simpa using h2
  have z1:k0c p x=2:=by rw[hE,Fc,if_neg z6,if_pos z7]
  rw[Lj,z1];exact⟨rfl,rfl⟩
 have z7:¬(x.num< -1099511627776∨1099511627776<x.num):=by simpa using h2
 have z1:k0c p x=0:=by rw[hE,Fc,if_neg z6,if_neg z7]
 repeat first|(refine r_ ?_;simp)|refine q_ ?_
 have zb:0≤x.ty:=by omega
 have zc:x.ty<(p.length:Int):=by omega
 have z8:x.ty.toNat<p.length:=by omega
 refine Qw tOk mixed [] (.val 0 (.val 1 (.val 2 (.val 3 (.val 4 (.val 5 (.val 6 (.val 7 (.one 8 (.val 9 (.val 10 (.val 11 (.val 12 (.done)))))))))))))) rfl (by kernel_rfl) ?_;simp[zb,zc,z8];refine Qc rfl rfl (by simp) (D4 p[x.ty.toNat] x.num) rfl ?_;rintro _ rfl;simp;repeat first|(refine r_ ?_;simp)|refine q_ ?_
 have hc:=y0c h' _ (List.getElem_mem z8);have za:c0b p[x.ty.toNat] x.num=(Se p[x.ty.toNat] x.num,0):=by rw[c0b,if_pos ((L4 _).2 hc)]
 rw[Lj,z1,if_neg (fun k=>k rfl),za];refine⟨?_,rfl⟩;simp[Rj,zb,zc,yP,z8]
theorem C1{T:Int}{p:Prd}(h:Ew T p=0)(x:Sy):Lj p x=if Fc T x≠0 then(false,Fc T x)else(Rj p x,0):=by
 obtain⟨h1,h2⟩:=q1c h;have hE:k0c p x=Fc T x:=by rw[k0c,if_neg (fun k=>k h1),h2]
 rw[Lj,hE]
end Go.Abs
namespace Go.Abs
open Go Go.Proofs
abbrev Qo (a:Aut):List AV:=[.i a.types,.list (a.fin.map .bool),.list (a.mv.map encMv)]
theorem w17(p:Prd)(x:Sy):PC Tryz.prog 170 [encP p,encSy x] (fun r=>r= .bool ((Lj p x).2==0 && (Lj p x).1)):=by
 refine Qh tOk Tryz.func170 rfl Tryz.results170 rfl (by simp[Tryz.ntmps170]) ?_;rw[Tryz.ntmps170];simp only[Qe];simp only[encP,encSy];repeat first|(refine r_ ?_;simp)|refine q_ ?_
 refine Qc rfl rfl (by simp) (Rz p x) rfl ?_;rintro _ rfl;simp;repeat first|(refine r_ ?_;simp)|refine q_ ?_
theorem X5(p:Prd)(x:Sy):PC Tryz.prog 45 [encP p,encSy x] (fun r=>r= .bool ((Lj p x).1 && (Lj p x).2==0)):=by
 refine Qh tOk Tryz.func45 rfl Tryz.results45 rfl (by simp[Tryz.ntmps45]) ?_;rw[Tryz.ntmps45];simp only[Qe];simp only[encP,encSy];repeat first|(refine r_ ?_;simp)|refine q_ ?_
 refine Qc rfl rfl (by simp) (Rz p x) rfl ?_;rintro _ rfl;simp;repeat first|(refine r_ ?_;simp)|refine q_ ?_
def stB(a:Aut)(n:Int):Bool:=decide (0≤n) && decide (n<a.fin.length)
theorem Kc(a:Aut)(n:Int):stB a n=true↔0≤n∧n<a.fin.length:=by simp[stB]
theorem Lg(H:List AObj)(id:Nat)(a:Aut)(hid:H[id]? =some (.vars (Qo a)))(n:Int):FC Tryz.prog 98 [.i n,.vptr id 0] H (fun r H'=>r= .bool (stB a n)∧H'=H):=by refine W9 tOk Tryz.func98 rfl Tryz.results98 rfl (by simp[Tryz.ntmps98]) ?_;rw[Tryz.ntmps98];simp only[Qe];repeat first|(refine r_ ?_;simp[hid,stB])|refine q_ ?_
attribute [local irreducible] Ew stB
theorem Ie(a:Aut):PC Tryz.prog 41 [encA a] (fun r=>r= .i (We a)):=by
 refine Qh tOk Tryz.func41 rfl Tryz.results41 rfl (by simp[Tryz.ntmps41]) ?_;rw[Tryz.ntmps41];simp only[Qe];simp only[encA];refine Wl 0 1 rfl rfl (fun z7=> ?_);refine Wl 0 2 rfl rfl (fun z8=> ?_);rw[zY]at z7 z8;repeat first|(refine r_ ?_;simp)|refine q_ ?_
 refine Qa rfl (fun h=> ?_) (fun h=> ?_)
 ·repeat first|(refine r_ ?_;simp)|refine q_ ?_
  rw[We,if_pos (by simpa using h)]
 have h1:¬(a.types<1∨16<a.types):=by simpa using h
 repeat first|(refine r_ ?_;simp)|refine q_ ?_
 refine Qa rfl (fun h=> ?_) (fun h=> ?_)
 ·repeat first|(refine r_ ?_;simp)|refine q_ ?_
  rw[We,if_neg h1,if_pos];simp at h;omega
 have h2:¬(a.fin.length<1∨256<a.fin.length∨2048<a.mv.length):=by simp at h;omega
 have hE:We a=M6 a.types a.fin.length a.mv:=by rw[We,if_neg h1,if_neg h2]
 rw[hE];repeat first|(refine r_ ?_;simp)|refine q_ ?_
 refine Qv a.mv.length (fun j=>M6 a.types a.fin.length a.mv=M6 a.types a.fin.length (a.mv.drop j)) (fun j=>[(1,.vptr 0 0),(3,.fn (.func 98) [] [.vptr 0 0]),(33,.list (a.mv.map encMv)),(34,.i a.mv.length),(35,.i j)]) (fun _=>[.vars (Qo a)]) rfl (by simp) (by simp) (by simp) (by simp) (by simp) ?_;intro j hj hI ih;repeat first|(refine r_ ?_;simp)|refine q_ ?_
 refine Qa rfl (fun za=> ?_) (fun zb=> ?_)
 ·have z1:j<a.mv.length:=by simpa using za
  have hw:IntKind.i64.wrap ((j:Int)+1)=j+1:=wrap_i64 _ (by omega) (by omega);rw[W8 z1,M6]at hI;repeat first|(refine r_ ?_;simp[z1])|refine q_ ?_
  cases hb:stB a a.mv[j].src with
  |false=>
   refine Q9 rfl rfl (Lg _ 0 a rfl a.mv[j].src) rfl ?_;rintro r H' ⟨rfl,rfl⟩;simp[hb];repeat first|(refine r_ ?_;simp)|refine q_ ?_
   refine Wk rfl rfl ?_;simp;refine Q7 rfl ?_;repeat first|(refine r_ ?_;simp)|refine q_ ?_
   rw[hI,if_pos (fun k=>by rw[(Kc _ _).2 k.1]at hb;cases hb)]
  |true=>
   refine Q9 rfl rfl (Lg _ 0 a rfl a.mv[j].src) rfl ?_;rintro r H' ⟨rfl,rfl⟩;simp[hb];repeat first|(refine r_ ?_;simp)|refine q_ ?_
   refine Q9 rfl rfl (Lg _ 0 a rfl a.mv[j].dst) rfl ?_;rintro r H' ⟨rfl,rfl⟩;simp;repeat first|(refine r_ ?_;simp)|refine q_ ?_
   refine Qa rfl (fun h3=> ?_) (fun h3=> ?_)
   ·repeat first|(refine r_ ?_;simp)|refine q_ ?_
    rw[hI,if_pos (fun k=>by rw[(Kc _ _).2 k.2]at h3;cases h3)]
   have hd:stB a a.mv[j].dst=true:=by simpa using h3
   rw[if_neg (fun k=>k ⟨(Kc _ _).1 hb,(Kc _ _).1 hd⟩)]at hI;repeat first|(refine r_ ?_;simp)|refine q_ ?_
   refine Qc rfl rfl (by simp) (Fg a.types a.mv[j].on) rfl ?_;rintro _ rfl;simp;repeat first|(refine r_ ?_;simp)|refine q_ ?_
   refine Qa rfl (fun h4=> ?_) (fun h4=> ?_)
   ·repeat first|(refine r_ ?_;simp)|refine q_ ?_
    rw[hI,if_pos (by simpa using h4)]
   rw[if_neg (by simpa using h4)]at hI;repeat first|(refine r_ ?_;simp[hw])|refine q_ ?_
   refine Qs _ (ih z1 hI) rfl (by simp) ?_ (by simp) (by simp);simp
 ·have z6:j=a.mv.length:=by simp at zb;omega
  subst z6;repeat first|(refine r_ ?_;simp)|refine q_ ?_
  rw[hI,xA];rfl
theorem Jd(a:Aut):PC Tryz.prog 90 [encA a] (fun r=>r= .i (We a)):=by
 refine Qh tOk Tryz.func90 rfl Tryz.results90 rfl (by simp[Tryz.ntmps90]) ?_;rw[Tryz.ntmps90];simp only[Qe];simp only[encA];refine Wl 0 1 rfl rfl (fun z7=> ?_);refine Wl 0 2 rfl rfl (fun z8=> ?_);rw[zY]at z7 z8;repeat first|(refine r_ ?_;simp)|refine q_ ?_
 refine Qa rfl (fun h=> ?_) (fun h=> ?_)
 ·repeat first|(refine r_ ?_;simp)|refine q_ ?_
  rw[We,if_pos (by simpa using h)]
 have h1:¬(a.types<1∨16<a.types):=by simpa using h
 repeat first|(refine r_ ?_;simp)|refine q_ ?_
 refine Qa rfl (fun h=> ?_) (fun h=> ?_)
 ·repeat first|(refine r_ ?_;simp)|refine q_ ?_
  rw[We,if_neg h1,if_pos];simp at h;omega
 have h2:¬(a.fin.length<1∨256<a.fin.length∨2048<a.mv.length):=by simp at h;omega
 have hE:We a=M6 a.types a.fin.length a.mv:=by rw[We,if_neg h1,if_neg h2]
 rw[hE];repeat first|(refine r_ ?_;simp)|refine q_ ?_
 refine Qv a.mv.length (fun j=>M6 a.types a.fin.length a.mv=M6 a.types a.fin.length (a.mv.drop j)) (fun j=>[(1,.vptr 0 0),(3,.i a.fin.length),(4,.i j)]) (fun _=>[.vars (Qo a)]) rfl (by simp) (by simp) (by simp) (by simp) (by simp) ?_;intro j hj hI ih;repeat first|(refine r_ ?_;simp)|refine q_ ?_
 refine Qa rfl (fun za=> ?_) (fun zb=> ?_)
 ·have z1:j<a.mv.length:=by simpa using za
  have hw:IntKind.i64.wrap ((j:Int)+1)=j+1:=wrap_i64 _ (by omega) (by omega);rw[W8 z1,M6]at hI;repeat first|(refine r_ ?_;simp[z1])|refine q_ ?_
  refine Qa rfl (fun h3=> ?_) (fun h3=> ?_)
  ·repeat first|(refine r_ ?_;simp)|refine q_ ?_
   rw[hI,if_pos];simp at h3;omega
  rw[if_neg (by simp at h3 ⊢;omega)]at hI;repeat first|(refine r_ ?_;simp)|refine q_ ?_
  refine Qc rfl rfl (by simp) (Ml a.types a.mv[j].on) rfl ?_;rintro _ rfl;simp;repeat first|(refine r_ ?_;simp)|refine q_ ?_
  refine Qa rfl (fun h4=> ?_) (fun h4=> ?_)
  ·repeat first|(refine r_ ?_;simp)|refine q_ ?_
   rw[hI,if_pos (by simpa using h4)]
  rw[if_neg (by simpa using h4)]at hI;repeat first|(refine r_ ?_;simp[hw])|refine q_ ?_
  refine Qs _ (ih z1 hI) rfl (by simp) ?_ (by simp) (by simp);simp
 ·have z6:j=a.mv.length:=by simp at zb;omega
  subst z6;repeat first|(refine r_ ?_;simp)|refine q_ ?_
  rw[hI,xA];rfl
end Go.Abs
namespace Go.Abs
open Go Go.Proofs
attribute [local irreducible] ckR Se
def w2j(x:Iv)(b:List Iv):List Iv:=b.filterMap (w0a x)
attribute [local irreducible] Ls w2j Rm
attribute [local irreducible] Yv Yh
end Go.Abs
