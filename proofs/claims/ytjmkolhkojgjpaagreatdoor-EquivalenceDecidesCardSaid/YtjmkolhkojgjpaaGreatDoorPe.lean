/- Part Pe of the proof: an abstract machine over the model, and what the functions of the program hand back in its terms. No condition. -/
import Derived.Test.YtjmkolhkojgjpaaGreatDoorPd
set_option linter.all false
open Nat renaming zero_le→xA,le_refl→zL,le_trans→yO,lt_trichotomy→vZ
open List renaming getElem?_eq_some_iff→zA,pairwise_iff_getElem→yC,mem_map→zK,mem_append→zO,mem_singleton→zI,mem_append_left→xB,mem_of_getElem?→zF,foldl_append→xP,pairwise_append→zX,mem_append_right→vA,nil_append→xW,reverse_cons→ub,mem_iff_getElem?→yE,reverse_reverse→vY,find?_eq_none→u7,mem_of_find?_eq_some→vI,find?_some→uj,find?_cons→tj,pairwise_map→xM,length_flatMap→vC,map_congr_left→xN,map_const'→vH,sum_replicate_nat→wX,mem_flatMap→xL,range→yD,getElem_of_mem→yG,mem_filterMap→wL,pairwise_mergeSort→vT,mergeSort_perm→wG,eq_nil_iff_forall_not_mem→wH,mem_cons→zT,any_eq_true→wQ,all_eq_true→zP,mem_range→yL,length_map→zV,pairwise_cons→z_,getD→yT,drop_length→yY,getElem_mem→zG,length→vN,length_append→zW,getElem?_append_right→zC,append_nil→xO,take_of_length_le→zM
open Int renaming le_refl→yI
open Bool renaming eq_iff_iff→xR,and_eq_true→zR,or_eq_true→wp,eq_false_iff→wU,false_or→tB
set_option maxHeartbeats 2000000
set_option linter.unusedSimpArgs false
set_option maxRecDepth 100000
namespace Go.Abs
def sLt(x y:Sy):Prop:=x.ty<y.ty∨(x.ty=y.ty∧x.num<y.num)
theorem sLt.irr{x:Sy}(h:sLt x x):False:=by unfold sLt at h;omega
theorem sLt.trans{x y z:Sy}(h:sLt x y)(k:sLt y z):sLt x z:=by unfold sLt at *;omega
theorem sLt.tri(x y:Sy):sLt x y∨x=y∨sLt y x:=by cases x;cases y;unfold sLt;simp only[Sy.mk.injEq];omega
def M3:List Sy→List Sy→Prop
 |x::v,y::w=>sLt x y∨(x=y∧M3 v w)
 |_,_=>False
def ll(v w:List Sy):Prop:=v.length<w.length∨(v.length=w.length∧M3 v w)
def lle(v w:List Sy):Prop:=v=w∨ll v w
theorem M3.irr:∀ {v:List Sy},¬M3 v v
 |[],h=>h
 |x::v,h=>by
  rcases h with h|⟨_,h⟩
  ·exact h.irr
  ·exact M3.irr h
theorem M3.trans:∀ {u v w:List Sy},M3 u v→M3 v w→M3 u w
 |[],_,_,h,_=>h.elim
 |_::_,[],_,h,_=>h.elim
 |_::_,_::_,[],_,k=>k.elim
 |x::u,y::v,z::w,h,k=>by
  rcases h with h|⟨rfl,h⟩
  ·rcases k with k|⟨rfl,k⟩
   ·exact .inl (h.trans k)
   ·exact .inl h
  ·rcases k with k|⟨rfl,k⟩
   ·exact .inl k
   ·exact .inr ⟨rfl,h.trans k⟩
theorem ll.irr{v:List Sy}(h:ll v v):False:=by
 rcases h with h|⟨_,h⟩
 ·omega
 ·exact M3.irr h
theorem ll.trans{u v w:List Sy}(h:ll u v)(k:ll v w):ll u w:=by
 rcases h with h|⟨h1,h2⟩
 ·rcases k with k|⟨k1,_⟩
  ·exact .inl (by omega)
  ·exact .inl (by omega)
 ·rcases k with k|⟨k1,k2⟩
  ·exact .inl (by omega)
  ·exact .inr ⟨by omega,h2.trans k2⟩
theorem lle.refl(v:List Sy):lle v v:= .inl rfl
theorem lle.trans{u v w:List Sy}(h:lle u v)(k:lle v w):lle u w:=by
 rcases h with rfl|h
 ·exact k
 ·rcases k with rfl|k
  ·exact .inr h
  ·exact .inr (h.trans k)
theorem ll.lle{u v w:List Sy}(h:ll u v)(k:lle v w):ll u w:=by
 rcases k with rfl|k
 ·exact h
 ·exact h.trans k
theorem lle.anti{u v:List Sy}(h:lle u v)(k:lle v u):u=v:=by
 rcases h with rfl|h
 ·rfl
 ·exact((h.lle k).irr).elim
theorem q0s:∀ {u v:List Sy} (a b:List Sy),u.length=v.length→M3 u v→M3 (u++a) (v++b)
 |[],_,_,_,_,h=>h.elim
 |_::_,[],_,_,_,h=>h.elim
 |x::u,y::v,a,b,e,h=>by
  rcases h with h|⟨rfl,h⟩
  ·exact .inl h
  ·exact .inr ⟨rfl,q0s a b (by simpa using e) h⟩
theorem My:∀(u:List Sy) {a b:List Sy},M3 a b→M3 (u++a) (u++b)
 |[],_,_,h=>h
 |_::u,_,_,h=> .inr ⟨rfl,My u h⟩
theorem u0u{u v:List Sy}(h:ll u v)(x y:Sy):ll (u++[x]) (v++[y]):=by
 rcases h with h|⟨h1,h2⟩
 ·exact .inl (by simp;omega)
 ·exact .inr ⟨by simp;omega,q0s _ _ h1 h2⟩
theorem M5(u:List Sy){x y:Sy}(h:sLt x y):ll (u++[x]) (u++[y]):= .inr ⟨by simp,My u (.inl h)⟩
theorem w1q{u v:List Sy}(h:lle u v){x y:Sy}(k:x=y∨sLt x y):lle (u++[x]) (v++[y]):=by
 rcases h with rfl|h
 ·rcases k with rfl|k
  ·exact .inl rfl
  ·exact .inr (M5 _ k)
 ·exact .inr (u0u h x y)
theorem x14(u:List Sy)(x:Sy):ll u (u++[x]):= .inl (by simp)
theorem Ys{α:Type}[DecidableEq α]:∀(l U:List α),l.Nodup→(∀x∈l,x∈U)→l.length≤U.length
 |[],_,_,_=>xA _
 |x::l,U,hn,h=>by have hx:=h x (by simp);have hc:=List.nodup_cons.1 hn;have ih:=Ys l (U.erase x) hc.2 (fun y hy=>(List.mem_erase_of_ne (fun e=>hc.1 (by rw[←e];exact hy))).2 (h y (by simp[hy])));rw[List.length_erase_of_mem hx]at ih;have:=List.length_pos_of_mem hx;simp only[List.length_cons];omega
section
variable {σ:Type} [DecidableEq σ] (ok:Sy→Prop) (step:σ→Sy→σ) (good:σ→Bool)
def Tb(s:σ)(w:List Sy):σ:=w.foldl step s
structure FirstW (s:σ) (w:List Sy):Prop where
 okw:∀x∈w,ok x
 goodw:good (Tb step s w)=true
 least:∀v,(∀x∈v,ok x)→good (Tb step s v)=true→lle w v
variable {ok step good}
variable (ok step good)
structure SuccOk (s:σ) (l:List (Sy×σ)):Prop where
 asc:l.Pairwise (fun a b=>sLt a.1 b.1)
 mem:∀e∈l,ok e.1∧e.2=step s e.1
 cov:∀y,ok y→∃e∈l,e.2=step s y∧(e.1=y∨sLt e.1 y)
variable (succ:σ→List (Sy×σ))
def Zv(l:List (σ×List Sy))(t:σ)(w:List Sy):List (σ×List Sy):=if t∈l.map (·.1)then l else l++[(t,w)]
def W3(l:List (σ×List Sy))(w:List Sy)(es:List (Sy×σ)):List (σ×List Sy):=es.foldl (fun l e=>Zv l e.2 (w++[e.1])) l
def S9:Nat→Nat→List (σ×List Sy)→Option (List Sy)×List (σ×List Sy)
 |0,_,l=>(none,l)
 |f+1,n,l=>match l[n]? with
  |none=>(none,l)
  |some (s,w)=>if good s then(some w,l)else S9 f (n+1) (W3 l w (succ s))
variable (s0:σ) (G:σ→Prop)
structure BInv (n:Nat) (L:List (σ×List Sy)) (done:List (Sy×σ)):Prop where
 first:L[0]? =some (s0,[])
 mem:∀e∈L,(∀x∈e.2,ok x)∧Tb step s0 e.2=e.1∧G e.1
 asc:L.Pairwise (fun a b=>ll a.2 b.2)
 nd:(L.map (·.1)).Nodup
 bad:∀i s w,i<n→L[i]? =some (s,w)→good s=false
 cls:∀i s w,i<n→L[i]? =some (s,w)→∀e∈succ s,∃v,(e.2,v)∈L∧lle v (w++[e.1])
 cur:∀s w,L[n]? =some (s,w)→∀e∈done,∃v,(e.2,v)∈L∧lle v (w++[e.1])
 org:∀d∈L,d.2=[]∨∃i s w x,L[i]? =some (s,w)∧d.2=w++[x]∧(i<n∨(i=n∧∃e∈done,e.1=x))
variable {ok step good succ s0 G}
theorem BInv.low{n:Nat}{L:List (σ×List Sy)}{done:List (Sy×σ)}(h:BInv ok step good succ s0 G n L done){s:σ}{w:List Sy}(hn:L[n]? =some (s,w))(x:Sy)(hx:∀e∈done,sLt e.1 x):∀e∈L,ll e.2 (w++[x]):=by
 intro d hd;rcases h.org d hd with e|⟨i,s',w',y,hi,e,hc⟩
 ·rw[e];exact .inl (by simp)
 ·rw[e];rcases hc with hc|⟨rfl,c,hc,rfl⟩
  ·obtain⟨h1,h2⟩:=zA.1 hi;obtain⟨h3,h4⟩:=zA.1 hn;have:=yC.1 h.asc i n h1 h3 hc;rw[h2,h4]at this;exact u0u this _ _
  ·rw[hn]at hi;cases hi;exact M5 _ (hx c hc)
theorem BInv.add {n:Nat} {L:List (σ×List Sy)} {done:List (Sy×σ)} (h:BInv ok step good succ s0 G n L done) {s:σ} {w:List Sy} (hn:L[n]? =some (s,w)) {e:Sy×σ} (he:ok e.1∧e.2=step s e.1) (hG:G e.2)
  (z8:∀d∈done,sLt d.1 e.1):BInv ok step good succ s0 G n (Zv L e.2 (w++[e.1])) (done++[e])∧(Zv L e.2 (w++[e.1]))[n]? =some (s,w):=by
 have zb:=(zA.1 hn).1;have z7:=h.low hn e.1 z8;unfold Zv;by_cases hin:e.2∈L.map (·.1)
 ·rw[if_pos hin];obtain⟨⟨t,v⟩,hv,ht⟩:=zK.1 hin;simp only at ht;subst ht;refine⟨⟨h.first,h.mem,h.asc,h.nd,h.bad,h.cls,fun s' w' z6 d hd=> ?_,fun d hd=> ?_⟩,hn⟩
  ·rw[hn]at z6;cases z6;rcases zO.1 hd with hd|hd
   ·exact h.cur s w hn d hd
   ·obtain rfl:=zI.1 hd;exact⟨v,hv,.inr (z7 _ hv)⟩
  ·rcases h.org d hd with e'|⟨i,s',w',y,hi,e',hc⟩
   ·exact .inl e'
   ·exact .inr ⟨i,s',w',y,hi,e',hc.imp id fun⟨k1,c,k2,k3⟩=>⟨k1,c,xB _ k2,k3⟩⟩
 ·rw[if_neg hin];have z1:∀i,i≤n→(L++[(e.2,w++[e.1])])[i]? =L[i]? :=fun i hi=>List.getElem?_append_left (by omega);have hw:=h.mem _ (zF hn);refine⟨⟨by rw[z1 0 (xA _)];exact h.first,fun d hd=> ?_,?_,?_,fun i s' w' hi z6=>h.bad i s' w' hi (by rw[←z1 i (by omega)];exact z6),fun i s' w' hi z6 d hd=> ?_,fun s' w' z6 d hd=> ?_,fun d hd=> ?_⟩,by rw[z1 n (zL _)];exact hn⟩
  ·rcases zO.1 hd with hd|hd
   ·exact h.mem d hd
   ·obtain rfl:=zI.1 hd;refine⟨fun x hx=> ?_,?_,hG⟩
    ·rcases zO.1 hx with hx|hx
     ·exact hw.1 x hx
     ·obtain rfl:=zI.1 hx;exact he.1
    ·show Tb step s0 (w++[e.1])=e.2;have h2:Tb step s0 w=s:=hw.2.1;rw[Tb,xP];show step (Tb step s0 w) e.1=e.2;rw[h2,he.2]
  ·exact zX.2 ⟨h.asc,by simp,fun a ha b hb=>by obtain rfl:=zI.1 hb;exact z7 a ha⟩
  ·rw[List.map_append];exact List.nodup_append.2 ⟨h.nd,by simp,fun a ha b hb e'=>by
    simp at hb;subst hb;subst e';exact hin ha⟩
  ·rw[z1 i (by omega)]at z6;obtain⟨v,hv,hl⟩:=h.cls i s' w' hi z6 d hd;exact⟨v,xB _ hv,hl⟩
  ·rw[z1 n (zL _),hn]at z6;cases z6;rcases zO.1 hd with hd|hd
   ·obtain⟨v,hv,hl⟩:=h.cur s w hn d hd;exact⟨v,xB _ hv,hl⟩
   ·obtain rfl:=zI.1 hd;exact⟨_,vA _ (by simp),.inl rfl⟩
  ·rcases zO.1 hd with hd|hd
   ·rcases h.org d hd with e'|⟨i,s',w',y,hi,e',hc⟩
    ·exact .inl e'
    ·have za:i≤n:=by rcases hc with hc|hc<;>omega
     exact .inr ⟨i,s',w',y,by rw[z1 i za];exact hi,e',hc.imp id fun⟨k1,c,k2,k3⟩=>⟨k1,c,xB _ k2,k3⟩⟩
   ·obtain rfl:=zI.1 hd;exact .inr ⟨n,s,w,e.1,by rw[z1 n (zL _)];exact hn,rfl,.inr ⟨rfl,e,by simp,rfl⟩⟩
theorem BInv.round{n:Nat}:∀(es:List (Sy×σ)) (done:List (Sy×σ)) (L:List (σ×List Sy)) {s:σ} {w:List Sy},BInv ok step good succ s0 G n L done→L[n]? =some (s,w)→(∀e∈es,ok e.1∧e.2=step s e.1)→(∀e∈es,G e.2)→
  (done++es).Pairwise (fun a b=>sLt a.1 b.1)→BInv ok step good succ s0 G n (W3 L w es) (done++es)∧(W3 L w es)[n]? =some (s,w)
 |[],done,L,s,w,h,hn,_,_,_=>by simpa[W3]using⟨h,hn⟩
 |e::es,done,L,s,w,h,hn,hm,hG,hp=>by have z1:∀d∈done,sLt d.1 e.1:=fun d hd=>(zX.1 hp).2.2 d hd e (by simp);obtain⟨h1,h2⟩:=h.add hn (hm e (by simp)) (hG e (by simp)) z1;have:=BInv.round es (done++[e]) _ h1 h2 (fun d hd=>hm d (by simp[hd])) (fun d hd=>hG d (by simp[hd])) (by simpa using hp);simpa[W3]using this
theorem BInv.next{n:Nat}{L:List (σ×List Sy)}{s:σ}{w:List Sy}(h:BInv ok step good succ s0 G n L [])(hn:L[n]? =some (s,w))(hg:good s=false)(hs:SuccOk ok step s (succ s))(hG:∀e∈succ s,G e.2):
  BInv ok step good succ s0 G (n+1) (W3 L w (succ s)) []:=by
 obtain⟨h1,h2⟩:=h.round (succ s) [] L hn hs.mem hG (by simpa using hs.asc);rw[xW]at h1;refine⟨h1.first,h1.mem,h1.asc,h1.nd,fun i s' w' hi z1=> ?_,fun i s' w' hi z1 d hd=> ?_,fun _ _ _ _ hd=>(by cases hd),fun d hd=> ?_⟩
 ·by_cases hin:i<n
  ·exact h1.bad i s' w' hin z1
  ·have:i=n:=by omega
   subst this;rw[h2]at z1;cases z1;exact hg
 ·by_cases hin:i<n
  ·exact h1.cls i s' w' hin z1 d hd
  ·have:i=n:=by omega
   subst this;rw[h2]at z1;cases z1;exact h1.cur s w h2 d hd
 ·rcases h1.org d hd with e'|⟨i,s',w',y,hi,e',hc⟩
  ·exact .inl e'
  ·exact .inr ⟨i,s',w',y,hi,e',.inl (by rcases hc with hc|hc<;>omega)⟩
theorem BInv.reach{n:Nat}{L:List (σ×List Sy)}(h:BInv ok step good succ s0 G n L [])(hs:∀s,G s→SuccOk ok step s (succ s)):∀(r:List Sy),(∀x∈r,ok x)→
  (∃v,(Tb step s0 r.reverse,v)∈L∧lle v r.reverse)∨∃i s w,n≤i∧L[i]? =some (s,w)∧lle w r.reverse
 |[],_=> .inl ⟨[],zF h.first,lle.refl _⟩
 |x::r,hx=>by
  have z1:ll r.reverse (x::r).reverse:=by rw[ub];exact x14 _ _
  rcases BInv.reach h hs r (fun y hy=>hx y (by simp[hy]))with⟨v,hv,hl⟩|⟨i,s,w,h1,h2,h3⟩
  ·obtain⟨i,hi⟩:=yE.1 hv;by_cases hin:i<n
   ·obtain⟨e,he,e1,e2⟩:=(hs _ (h.mem _ hv).2.2).cov x (hx x (by simp));obtain⟨u,hu,z6⟩:=h.cls i _ _ hin hi e he;refine .inl ⟨u,?_,?_⟩
    ·rw[ub,Tb,xP];show(step (Tb step s0 r.reverse) x,u)∈L;rw[←e1];exact hu
    ·rw[ub];exact z6.trans (w1q hl e2)
   ·exact .inr ⟨i,_,v,by omega,hi,hl.trans (.inr z1)⟩
  ·exact .inr ⟨i,s,w,h1,h2,h3.trans (.inr z1)⟩
theorem BInv.found{n:Nat}{L:List (σ×List Sy)}{s:σ}{w:List Sy}(h:BInv ok step good succ s0 G n L [])(hs:∀s,G s→SuccOk ok step s (succ s))(hn:L[n]? =some (s,w))(hg:good s=true):FirstW ok step good s0 w:=by
 have hm:=h.mem _ (zF hn);refine⟨hm.1,by rw[hm.2.1];exact hg,fun v hv z1=> ?_⟩;have hle:∀i s' w',n≤i→L[i]? =some (s',w')→lle w w':=fun i s' w' hi hl=>by
  obtain⟨h1,h2⟩:=zA.1 hn;obtain⟨h3,h4⟩:=zA.1 hl;rcases Nat.lt_or_eq_of_le hi with hlt|rfl
  ·have:=yC.1 h.asc n i h1 h3 hlt;rw[h2,h4]at this;exact .inr this
  ·rw[hn]at hl;cases hl;exact .inl rfl
 rcases h.reach hs v.reverse (fun x hx=>hv x (by simpa using hx))with⟨u,hu,hl⟩|⟨i,s',w',h1,h2,h3⟩
 ·rw[vY]at hu hl;obtain⟨i,hi⟩:=yE.1 hu;by_cases hin:i<n
  ·have:=h.bad i _ _ hin hi;rw[this]at z1;cases z1
  ·exact(hle i _ _ (by omega) hi).trans hl
 ·rw[vY]at h3;exact(hle i _ _ h1 h2).trans h3
theorem BInv.none{n:Nat}{L:List (σ×List Sy)}(h:BInv ok step good succ s0 G n L [])(hs:∀s,G s→SuccOk ok step s (succ s))(hn:L[n]? =none):
  (∀v,(∀x∈v,ok x)→Tb step s0 v∈L.map (·.1)∧good (Tb step s0 v)=false):=by
 intro v hv;have hlen:=List.getElem?_eq_none_iff.1 hn;rcases h.reach hs v.reverse (fun x hx=>hv x (by simpa using hx))with⟨u,hu,_⟩|⟨i,s',w',h1,h2,_⟩
 ·rw[vY]at hu;obtain⟨i,hi⟩:=yE.1 hu;have:=(zA.1 hi).1;exact⟨zK.2 ⟨_,hu,rfl⟩,h.bad i _ _ (by omega) hi⟩
 ·have:=(zA.1 h2).1;omega
theorem Ah(hs:∀s,G s→SuccOk ok step s (succ s))(hG:∀s,G s→∀e∈succ s,G e.2)(U:List σ)(hU:∀s,G s→s∈U):∀(f n:Nat) (L:List (σ×List Sy)),U.length+1≤n+f→n≤L.length→BInv ok step good succ s0 G n L []→
  (∃w L',S9 good succ f n L=(some w,L')∧FirstW ok step good s0 w)∨
  (∃L',S9 good succ f n L=(Option.none,L')∧(L'.map (·.1)).Nodup∧(∀e∈L',(∀x∈e.2,ok x)∧Tb step s0 e.2=e.1∧G e.1)∧∀v,(∀x∈v,ok x)→Tb step s0 v∈L'.map (·.1)∧good (Tb step s0 v)=false)
 |0,n,L,hf,hn,h=>by
  exfalso;have:=Ys _ U h.nd (fun s hs=>by
   obtain⟨e,he,rfl⟩:=zK.1 hs;exact hU _ (h.mem e he).2.2)
  simp at this;omega
 |f+1,n,L,hf,hn,h=>by
  rw[S9];cases hl:L[n]? with
  |none=>exact .inr ⟨L,rfl,h.nd,h.mem,h.none hs hl⟩
  |some e=>
   obtain⟨s,w⟩:=e;simp only;cases hg:good s with
   |true=>rw[if_pos rfl];exact .inl ⟨w,L,rfl,h.found hs hl hg⟩
   |false=>
    rw[if_neg (by simp)];have z1:=(h.mem _ (zF hl)).2.2;have h':=h.next hl hg (hs s z1) (hG s z1);refine Ah hs hG U hU f (n+1) _ (by omega) ?_ h';have z6:=(zA.1 hl).1;have z7:∀(es:List (Sy×σ)) (L:List (σ×List Sy)),L.length≤(W3 L w es).length:=by
     intro es;induction es with
     |nil=>intro L;exact zL _
     |cons e es ih=>
      intro L;refine yO ?_ (ih (Zv L e.2 (w++[e.1])));unfold Zv;split
      ·exact zL _
      ·simp
    exact yO z6 (z7 _ _)
theorem Ik(z1:G s0):BInv ok step good succ s0 G 0 [(s0,[])] []:=
 ⟨rfl,fun e he=>by obtain rfl:=zI.1 he;exact⟨by simp,rfl,z1⟩,by simp,by simp,fun i _ _ hi=>by omega,fun i _ _ hi=>by omega,fun _ _ _ _ hd=>(by cases hd),fun d hd=>by obtain rfl:=zI.1 hd;exact .inl rfl⟩
end
end Go.Abs
namespace Go.Abs
structure Dfa (a:Aut):Prop where
 ok:OkA a
 det:Xd a
 full:w1v a
def toL(a:Aut)(s:Int)(x:Sy):Int:=match a.mv.find? (fun m=>decide (m.src=s) && Rc m.on x)with|some m=>m.dst|none=> -1
def inS(a:Aut)(s:Int):Prop:=0≤s∧s<a.fin.length
theorem Dfa.next{a:Aut}(h:Dfa a){s:Int}(hs:inS a s){x:Sy}(hx:Ww a x):inS a (toL a s x)∧Q0 a [s] x=[toL a s x]:=by
 obtain⟨t,t0,t1,e⟩:=q1h h.ok.wfA h.det h.full hs.1 hs.2 hx;obtain⟨m,hm,h1,h2⟩:=h.full s hs.1 hs.2 x hx;have hf:toL a s x=t:=by
  unfold toL;cases hq:a.mv.find? (fun m=>decide (m.src=s) && Rc m.on x)with
  |none=>have:=u7.1 hq m hm;simp[h1,h2]at this
  |some k=>have hk:=vI hq;have hp:=uj hq;simp at hp;have z1:k.dst∈Q0 a [s] x:=Wu.2 ⟨h.ok.wfA.dst k hk,k,hk,by rw[hp.1];simp,hp.2,rfl⟩;rw[e]at z1;exact zI.1 z1
 rw[hf];exact⟨⟨t0,t1⟩,e⟩
theorem Mz{a:Aut}{x y:Sy}(h:∀m∈a.mv,Rc m.on x=Rc m.on y)(s:Int):toL a s x=toL a s y:=by
 unfold toL;have:a.mv.find? (fun m=>decide (m.src=s) && Rc m.on x)=a.mv.find? (fun m=>decide (m.src=s) && Rc m.on y):=by
  generalize a.mv=l at h;induction l with
  |nil=>rfl
  |cons m l ih=>rw[tj,tj,h m (by simp),ih (fun k hk=>h k (by simp[hk]))]
 rw[this]
def stF(a:Aut)(s:Int)(w:List Sy):Int:=w.foldl (toL a) s
def q0d(a:Aut)(s:Int)(w:List Sy):Bool:=a.fin.getD (stF a s w).toNat false
theorem Dfa.run{a:Aut}(h:Dfa a):∀(w:List Sy) (s:Int),inS a s→(∀x∈w,Ww a x)→inS a (stF a s w)∧I1 a [s] w=[stF a s w]
 |[],s,hs,_=>⟨hs,rfl⟩
 |x::w,s,hs,hx=>by obtain⟨h1,h2⟩:=h.next hs (hx x (by simp));have:=h.run w _ h1 (fun y hy=>hx y (by simp[hy]));refine⟨this.1,?_⟩;show I1 a (Q0 a [s] x) w=_;rw[h2];exact this.2
theorem Dfa.zero{a:Aut}(h:Dfa a):inS a 0:=⟨yI _,by have:=h.ok.fin;omega⟩
theorem Dfa.acc{a:Aut}(h:Dfa a){w:List Sy}(hw:∀x∈w,Ww a x):Tx a w=q0d a 0 w:=by unfold Tx q0d;rw[(h.run w 0 h.zero hw).2];simp[Iu]
structure Ltr (T:Nat) (l cl:List Prd):Prop where
 prts:Prts T l cl
 asc:cl.Pairwise z01
 len:∀p∈l,p.length=T
def okT(T:Nat)(x:Sy):Prop:=0≤x.ty∧x.ty.toNat<T∧inR x.num
theorem f1a{T:Nat}(hT:0<T){l:List Prd}(hl:∀p∈l,PCk T p):Ltr T l (Qx T l):=by obtain⟨h1,h2⟩:=Y9 hT hl;exact⟨h1,h2,fun p hp=>(hl p hp).1⟩
theorem g0x{p:Prd}{t:Nat}{n:Int}(h:As (Qv p 0).1 (Qv p 0).2 t n):sLt (Qn p) ⟨t,n⟩:=by unfold As at h;unfold sLt Qn;simp only;omega
theorem Ltr.least{T:Nat}{l cl:List Prd}(h:Ltr T l cl){c:Prd}(hc:c∈cl):okT T (Qn c)∧PM c (Qn c).ty.toNat (Qn c).num:=by have h1:=(Wy (h.prts.wf c hc) (h.prts.ne c hc)).1;have h2:=(h.prts.wf c hc).lt h1;exact⟨⟨by simp[Qn],by simpa[Qn]using h2.1,h2.2⟩,by simpa[Qn]using h1⟩
theorem Ltr.sig{T:Nat}{l cl:List Prd}(h:Ltr T l cl){c:Prd}(hc:c∈cl){x y:Sy}(hx:okT T x)(hy:okT T y)(z1:PM c x.ty.toNat x.num)(z6:PM c y.ty.toNat y.num):∀p∈l,Rc p x=Rc p y:=fun p hp=>by have h2:=((h.prts.cls c hc _ _ z1 _ _).1 z6).2.2 p hp;rw[xR,O6 (h.len p hp) x hx.1,O6 (h.len p hp) y hy.1];exact h2
theorem Ltr.cov{T:Nat}{l cl:List Prd}(h:Ltr T l cl){x:Sy}(hx:okT T x):∃c∈cl,PM c x.ty.toNat x.num∧(Qn c=x∨sLt (Qn c) x)∧∀p∈l,Rc p x=Rc p (Qn c):=by
 obtain⟨c,hc,hm⟩:=h.prts.all x.ty.toNat x.num hx.2.1 hx.2.2;obtain⟨h1,h2⟩:=h.least hc;refine⟨c,hc,hm,?_,h.sig hc hx h1 hm h2⟩;rcases(Wy (h.prts.wf c hc) (h.prts.ne c hc)).2 _ _ hm with⟨e1,e2⟩|hlt
 ·left;unfold Qn;rw[e1,e2,show((x.ty.toNat:Nat):Int)=x.ty by have:=hx.1;omega]
 ·right;have:=g0x hlt;have e:(⟨(x.ty.toNat:Int),x.num⟩:Sy)=x:=by rw[show((x.ty.toNat:Nat):Int)=x.ty by have:=hx.1;omega]
  rw[e]at this;exact this
theorem Ltr.ascS{T:Nat}{l cl:List Prd}(h:Ltr T l cl):(cl.map Qn).Pairwise sLt:=by
 refine xM.2 (h.asc.imp_of_mem fun {p q} hp hq hlt=> ?_);obtain⟨t,n,hm,z1⟩:=hlt;have h1:=z1 _ _ (Wy (h.prts.wf q hq) (h.prts.ne q hq)).1;have h2:As (Qv p 0).1 (Qv p 0).2 (Qv q 0).1 (Qv q 0).2:=by
  rcases(Wy (h.prts.wf p hp) (h.prts.ne p hp)).2 t n hm with⟨e1,e2⟩|h3
  ·rw[e1,e2];exact h1
  ·exact h3.trans h1
 exact g0x h2
def Wg(a b:Aut):List Sy:=(Qx a.types.toNat (onA a++onA b)).map Qn
def R3(a b:Aut)(s:Int×Int)(x:Sy):Int×Int:=(toL a s.1 x,toL b s.2 x)
def R4(a b:Aut)(s:Int×Int):List (Sy×(Int×Int)):=(Wg a b).map fun x=>(x,R3 a b s x)
theorem Ih{a:Aut}{x:Sy}:okT a.types.toNat x↔Ww a x:=by
 unfold okT Ww;constructor
 ·rintro⟨h1,h2,h3⟩;exact⟨⟨h1,by omega⟩,h3⟩
 ·rintro⟨⟨h1,h2⟩,h3⟩;exact⟨h1,by omega,h3⟩
theorem y18{a b:Aut}(ha:OkA a)(hb:OkA b)(ht:b.types=a.types):Ltr a.types.toNat (onA a++onA b) (Qx a.types.toNat (onA a++onA b)):=
 f1a (by have:=ha.types;omega) fun p hp=>by
  rcases zO.1 hp with hp|hp
  ·exact Ja ha p hp
  ·rw[←ht];exact Ja hb p hp
theorem Ks{a:Aut}{m:Mv}(h:m∈a.mv):m.on∈onA a:=zK.2 ⟨m,h,rfl⟩
theorem Ow{a b:Aut}(ha:OkA a)(hb:OkA b)(ht:b.types=a.types)(s:Int×Int):SuccOk (Ww a) (R3 a b) s (R4 a b s):=by
 have hl:=y18 ha hb ht;refine⟨?_,fun e he=> ?_,fun y hy=> ?_⟩
 ·unfold R4;exact xM.2 (hl.ascS.imp fun h=>h)
 ·obtain⟨x,hx,rfl⟩:=zK.1 he;obtain⟨c,hc,rfl⟩:=zK.1 hx;exact⟨Ih.1 (hl.least hc).1,rfl⟩
 ·obtain⟨c,hc,hm,hle,z1⟩:=hl.cov (Ih.2 hy);refine⟨(Qn c,R3 a b s (Qn c)),zK.2 ⟨Qn c,zK.2 ⟨c,hc,rfl⟩,rfl⟩,?_,hle⟩;unfold R3;rw[Mz (fun m hm=>(z1 m.on (xB _ (Ks hm))).symm),Mz (a:=b) (fun m hm=>(z1 m.on (vA _ (Ks hm))).symm)]
def Oy(a b:Aut)(s:Int×Int):Bool:=a.fin.getD s.1.toNat false != b.fin.getD s.2.toNat false
def Om(a b:Aut)(p q:Int):Option (List Sy)×List ((Int×Int)×List Sy):=S9 (Oy a b) (R4 a b) (a.fin.length * b.fin.length+1) 0 [((p,q),[])]
theorem Yr(a b:Aut):∀(w:List Sy) (p q:Int),Tb (R3 a b) (p,q) w=(stF a p w,stF b q w)
 |[],_,_=>rfl
 |x::w,p,q=>Yr a b w (toL a p x) (toL b q x)
def Ch(a b:Aut):List (Int×Int):=(Wt a.fin.length).flatMap fun i=>(Wt b.fin.length).map fun j=>(i,j)
theorem F4(a b:Aut):(Ch a b).length=a.fin.length * b.fin.length:=by unfold Ch;rw[vC,xN (g:=fun _=>b.fin.length) (fun i _=>by simp[Wt]),vH,wX];simp[Wt]
theorem G7{a b:Aut}{s:Int×Int}(h1:inS a s.1)(h2:inS b s.2):s∈Ch a b:=by unfold Ch;rw[xL];exact⟨s.1,Wz.2 h1,zK.2 ⟨s.2,Wz.2 h2,rfl⟩⟩
def g1z(a b:Aut)(p q:Int)(w:List Sy):Prop:=FirstW (Ww a) (R3 a b) (Oy a b) (p,q) w
theorem Km(a b:Aut)(p q:Int)(w:List Sy):Oy a b (Tb (R3 a b) (p,q) w)=true↔q0d a p w≠q0d b q w:=by rw[Yr];simp[Oy,q0d]
theorem j01{a b:Aut}(ha:Dfa a)(hb:Dfa b)(ht:b.types=a.types){p q:Int}(hp:inS a p)(hq:inS b q):
  (∃w,(Om a b p q).1=some w∧g1z a b p q w)∨((Om a b p q).1=none∧∀w,(∀x∈w,Ww a x)→q0d a p w=q0d b q w):=by
 have z1:∀x,Ww a x→Ww b x:=fun x hx=>by unfold Ww at *;rw[ht];exact hx
 rcases Ah (ok:=Ww a) (step:=R3 a b) (good:=Oy a b) (succ:=R4 a b) (s0:=(p,q)) (G:=fun s=>inS a s.1∧inS b s.2) (fun s _=>Ow ha.ok hb.ok ht s)
  (fun s hs e he=>by
   obtain⟨h1,h2⟩:=(Ow ha.ok hb.ok ht s).mem e he;rw[h2];exact⟨(ha.next hs.1 h1).1,(hb.next hs.2 (z1 _ h1)).1⟩) (Ch a b) (fun s hs=>G7 hs.1 hs.2) (a.fin.length * b.fin.length+1) 0 [((p,q),[])] (by rw[F4];omega) (by simp) (Ik ⟨hp,hq⟩)with⟨w,L,h1,h2⟩|⟨L,h1,_,_,h2⟩
 ·exact .inl ⟨w,by rw[Om,h1],h2⟩
 ·refine .inr ⟨by rw[Om,h1],fun w hw=> ?_⟩;have:=(h2 w hw).2;by_cases hd:q0d a p w=q0d b q w
  ·exact hd
  ·rw[(Km a b p q w).2 hd]at this;cases this
end Go.Abs
namespace Go.Abs
def Nu(a:Aut)(s:Int):List Mv:=a.mv.filter fun m=>decide (m.src=s) && !Wk m.on
def Xw(a b:Aut)(s:Int×Int):List (Sy×(Int×Int)):=(Nu a s.1).flatMap fun m=>(Nu b s.2).filterMap fun n=>if Wk (We m.on n.on)then none else some (Qn (We m.on n.on),(m.dst,n.dst))
theorem Nk{T:Nat}{p:Prd}(h:PWf T p):Wk p=false↔∃t n,PM p t n:=by
 cases hv:Wk p
 ·simp only[true_iff];apply Classical.byContradiction;intro hn;have:=(E3 h).2 (fun t n hm=>hn ⟨t,n,hm⟩);rw[hv]at this;cases this
 ·simp only[Bool.true_eq_false,false_iff];rintro⟨t,n,hm⟩;exact(E3 h).1 hv t n hm
theorem Gn{T:Nat}{p:Prd}(h:PWf T p)(hn:∃t n,PM p t n):okT T (Qn p)∧PM p (Qn p).ty.toNat (Qn p).num∧∀x,okT T x→PM p x.ty.toNat x.num→Qn p=x∨sLt (Qn p) x:=by
 have h1:=Wy h hn;have h2:=h.lt h1.1;refine⟨⟨by simp[Qn],by simpa[Qn]using h2.1,h2.2⟩,by simpa[Qn]using h1.1,fun x hx hm=> ?_⟩;rcases h1.2 _ _ hm with⟨e1,e2⟩|hlt
 ·left;unfold Qn;rw[e1,e2,show((x.ty.toNat:Nat):Int)=x.ty by have:=hx.1;omega]
 ·right;have:=g0x hlt;have e:(⟨(x.ty.toNat:Int),x.num⟩:Sy)=x:=by rw[show((x.ty.toNat:Nat):Int)=x.ty by have:=hx.1;omega]
  rw[e]at this;exact this
def lkN(near:List ((Int×Int)×Nat))(s:Int×Int):Option Nat:=(near.find? fun e=>decide (e.1=s)).map (·.2)
def v1p(a:Aut)(near:List ((Int×Int)×Nat))(d:Nat)(s:Int×Int):Bool:=match d with
 |0=>Oy a a s
 |d+1=>(Xw a a s).any fun e=>decide (lkN near e.2=some d)
def x00(a:Aut)(near:List ((Int×Int)×Nat))(d:Nat):List (Int×Int):=(Ch a a).filter fun s=>decide (lkN near s=none) && v1p a near d s
def d1u(a:Aut):Nat→Nat→List ((Int×Int)×Nat)→List ((Int×Int)×Nat)
 |0,_,near=>near
 |f+1,d,near=>if x00 a near d=[]then near else d1u a f (d+1) (near++(x00 a near d).map fun s=>(s,d))
def z2a(a:Aut):List ((Int×Int)×Nat):=d1u a (a.fin.length * a.fin.length+1) 1 ((x00 a [] 0).map fun s=>(s,0))
def inP(a:Aut)(s:Int×Int):Prop:=inS a s.1∧inS a s.2
def c1j(a:Aut)(s:Int×Int)(d:Nat):Prop:=∃w:List Sy,w.length=d∧(∀x∈w,Ww a x)∧Oy a a (Tb (R3 a a) s w)=true
def w22(a:Aut)(s:Int×Int)(d:Nat):Prop:=c1j a s d∧∀k,k<d→¬c1j a s k
structure NInv (a:Aut) (d:Nat) (near:List ((Int×Int)×Nat)):Prop where
 lk:∀s,inP a s→∀k,lkN near s=some k↔(k<d∧w22 a s k)
 keys:(near.map (·.1)).Nodup
 dom:∀e∈near,e.1∈Ch a a
def Bh(x y:Sy):Bool:=decide (x.ty<y.ty) || (decide (x.ty=y.ty) && decide (x.num<y.num))
def w2e(es:List (Sy×(Int×Int))):Option (Sy×(Int×Int)):=es.foldl (fun b e=>match b with|none=>some e|some c=>if Bh e.1 c.1 then some e else some c) none
theorem Jn(x y:Sy):Bh x y=true↔sLt x y:=by simp[Bh,sLt]
def f1z(a:Aut)(near:List ((Int×Int)×Nat)):Nat→Int×Int→List Sy
 |0,_=>[]
 |d+1,s=>match w2e ((Xw a a s).filter fun e=>decide (lkN near e.2=some d))with
  |some e=>e.1::f1z a near d e.2
  |none=>⟨0,0⟩::f1z a near d (0,0)
end Go.Abs
namespace Go.Abs
structure EqvB (n:Nat) (E:Nat→Nat→Bool):Prop where
 refl:∀i,i<n→E i i=true
 symm:∀i k,i<n→k<n→E i k=true→E k i=true
 trans:∀i k j,i<n→k<n→j<n→E i k=true→E k j=true→E i j=true
def k1p(E:Nat→Nat→Bool)(st:List Nat×List Nat)(i:Nat):List Nat×List Nat:=
 match st.1.findIdx? (E i)with
 |some t=>(st.1,st.2++[t])
 |none=>(st.1++[i],st.2++[st.1.length])
def y2m(E:Nat→Nat→Bool)(n:Nat):List Nat×List Nat:=(yD n).foldl (k1p E) ([],[])
def u1n(E:Nat→Nat→Bool)(st:Nat×List Nat)(i:Nat):Nat×List Nat:=
 match (yD i).find? (E i)with
 |some k=>(st.1,st.2++[st.2.getD k 0])
 |none=>(st.1+1,st.2++[st.1])
def x20(E:Nat→Nat→Bool)(n:Nat):Nat×List Nat:=(yD n).foldl (u1n E) (0,[])
structure ClsS (E:Nat→Nat→Bool) (n:Nat) (fs out:List Nat):Prop where
 len:out.length=n
 asc:fs.Pairwise (·<·)
 lt:∀r∈fs,r<n
 apart:fs.Pairwise (fun r s=>E r s=false)
 num:∀i,i<n→∃t r,out[i]? =some t∧fs[t]? =some r∧r≤i∧E i r=true
def eqW(a b:Aut)(p q:Int):Prop:=∀w,(∀x∈w,Ww a x)→q0d a p w=q0d b q w
def eqS(a:Aut)(i k:Nat):Bool:=(lkN (z2a a) ((i:Int),(k:Int))).isNone
def fsA(a:Aut):List Nat:=(y2m (eqS a) a.fin.length).1
def clA(a:Aut):List Nat:=(y2m (eqS a) a.fin.length).2
end Go.Abs
namespace Go.Abs
section
variable {α:Type} (key:α→Nat×Int)
def v1r(s:List α)(x:α):Nat→Nat
 |0=>0
 |j+1=>match s[j]? with
  |some y=>if y0w (key x) (key y)=true then v1r s x j else j+1
  |none=>j+1
def y2y(s:List α)(x:α):List α:=s.take (v1r key s x s.length)++x::s.drop (v1r key s x s.length)
def w2j(L:List α):List α:=L.foldl (y2y key) []
def ltG(p q:α):Prop:=As (key p).1 (key p).2 (key q).1 (key q).2
end
def clD(cl:List Nat)(m:Mv):Nat:=cl.getD m.dst.toNat 0
def kyM(m:Mv):Nat×Int:=Qv m.on 0
def x2f(a:Aut)(cl:List Nat)(s:Int):List Mv:=(Nu a s).foldl (fun g m=>U2 0 g (clD cl m) m.on) []
def y24(a:Aut)(cl:List Nat)(s:Int):List Mv:=w2j kyM (x2f a cl s)
def y2u(a:Aut)(cl:List Nat)(s:Int)(t:Nat)(ty:Nat)(y:Int):Prop:=∃m∈Nu a s,clD cl m=t∧PM m.on ty y
structure MrgS (T:Nat) (D:Nat→Nat→Int→Prop) (g:List Mv):Prop where
 wf:∀m∈g,PWf T m.on
 src:∀m∈g,m.src=0
 dst:∀m∈g,∃t:Nat,m.dst=t
 nd:g.Pairwise (fun m k=>m.dst≠k.dst)
 mem:∀m∈g,∀t:Nat,m.dst=t→∀ty y,PM m.on ty y↔D t ty y
 all:∀t ty y,D t ty y→∃m∈g,m.dst=(t:Int)
 ne:∀m∈g,∃ty y,PM m.on ty y
def x27(a:Aut)(cl:List Nat)(s:Int)(t:Nat):List Prd:=((Nu a s).filter fun m=>decide (clD cl m=t)).map (·.on)
end Go.Abs
namespace Go.Abs
def f1f(cl:List Nat)(t:Nat):Nat:=(cl.findIdx? fun c=>decide (c=t)).getD 0
def z2g(a:Aut)(t:Nat):Prop:=t<(fsA a).length
def g1k(a:Aut)(s:Int):Nat:=(clA a).getD s.toNat 0
def q2g(a:Aut)(t:Nat):Nat:=f1f (clA a) t
theorem j0l{a:Aut}{s:Int}(h:inS a s):s.toNat<a.fin.length∧((s.toNat:Nat):Int)=s:=by unfold inS at h;omega
def x2s(o:List Nat)(c:Nat):List Nat:=if c∈o then o else o++[c]
def c1u(o:List Nat)(l:List Mv):List Nat:=l.foldl (fun o m=>x2s o m.dst.toNat) o
def z2h(a:Aut)(t:Nat):List Mv:=y24 a (clA a) (q2g a t:Int)
def y1u(a:Aut):Nat→Nat→List Nat→List Nat
 |0,_,o=>o
 |f+1,n,o=>match o[n]? with
  |none=>o
  |some c=>y1u a f (n+1) (c1u o (z2h a c))
def y26(a:Aut):List Nat:=y1u a (a.fin.length+1) 0 [g1k a 0]
def x2x(o:List Nat)(c:Nat):Nat:=(o.findIdx? fun d=>decide (d=c)).getD 0
def mvN(a:Aut)(o:List Nat)(n:Nat):List Mv:=(z2h a (o.getD n 0)).map fun m=>⟨n,(x2x o m.dst.toNat:Int),m.on⟩
def f1d(a:Aut)(o:List Nat):Aut:=⟨a.types,o.map fun c=>a.fin.getD (q2g a c) false,(yD o.length).flatMap (mvN a o)⟩
def k0t(a:Aut):Aut:=f1d a (y26 a)
structure OrdS (a:Aut) (o:List Nat):Prop where
 first:o[0]? =some (g1k a 0)
 nd:o.Nodup
 cl:∀c∈o,z2g a c
 closed:∀c∈o,∀m∈z2h a c,m.dst.toNat∈o
section
variable {a b:Aut} (ha:Dfa a) (hb:Dfa b) (ht:b.types=a.types)
def x2j(a b:Aut)(c d:Nat):Prop:=z2g a c∧z2g b d∧eqW a b (q2g a c) (q2g b d)
structure LkO (a b:Aut) (o o':List Nat):Prop where
 len:o.length=o'.length
 k:∀(i c d:Nat),o[i]? =some c→o'[i]? =some d→x2j a b c d
theorem R7{a b:Aut}(ht:b.types=a.types){x:Sy}:Ww b x↔Ww a x:=by unfold Ww;rw[ht]
include ha hb ht
end
end Go.Abs
namespace Go.Abs
def d1s(m:Aut):Bool:=m.mv.any fun k=>k.on.any fun s=>decide (256<s.length)
section
variable {a:Aut} (ha:Dfa a) (hb:d1s (k0t a)=false)
include ha hb
end
def v2a(a:Aut):Int×Aut:=if(Rz a).1≠0 then((Rz a).1,Ou)else if(x0o (Rz a).2).1≠0 then((x0o (Rz a).2).1,Ou)else
 if d1s (k0t (x0o (Rz a).2).2)then(5,Ou)else(0,k0t (x0o (Rz a).2).2)
end Go.Abs
namespace Go.Abs
def addI(o:List Int)(c:Int):List Int:=if c∈o then o else o++[c]
def x1t(o:List Int)(l:List Int):List Int:=l.foldl addI o
def k1k(sc:Int→List Int):Nat→Nat→List Int→List Int
 |0,_,o=>o
 |f+1,n,o=>match o[n]? with
  |none=>o
  |some c=>k1k sc f (n+1) (x1t o (sc c))
structure SrchS (sc:Int→List Int) (o:List Int):Prop where
 nd:o.Nodup
 zero:(0:Int)∈o
 closed:∀c∈o,∀d∈sc c,d∈o
 least:∀S:Int→Prop,S 0→(∀c d,S c→d∈sc c→S d)→∀c∈o,S c
def y25(a:Aut)(c:Int):List Int:=(Nu a c).map (·.dst)
def y2p(a:Aut)(c:Int):List Int:=(Wg a a).map (toL a c)
def y2z(a:Aut):Bool:=(k1k (y25 a) (a.fin.length+1) 0 [0]).length==a.fin.length
def y28(a:Aut):Bool:=(k1k (y2p a) (a.fin.length+1) 0 [0]).length==a.fin.length
end Go.Abs
namespace Go.Abs
structure Dta (a:Aut):Prop where
 ok:OkA a
 det:Xd a
theorem w2r{α:Type}{R:α→α→Prop}{l:List α}(h:l.Pairwise R){x y:α}(hx:x∈l)(hy:y∈l)(h1:¬R x y)(h2:¬R y x):x=y:=by
 obtain⟨i,hi,rfl⟩:=yG hx;obtain⟨j,hj,rfl⟩:=yG hy;rcases vZ i j with k|k|k
 ·exact absurd (yC.1 h i j hi hj k) h1
 ·subst k;rfl
 ·exact absurd (yC.1 h j i hj hi k) h2
theorem Dta.one{a:Aut}(h:Dta a){m k:Mv}(hm:m∈a.mv)(hk:k∈a.mv)(hs:m.src=k.src){x:Sy}(hx:Ww a x)(h1:Rc m.on x=true)(h2:Rc k.on x=true):m=k:=
 w2r h.det hm hk (fun hr=>hr hs x hx ⟨h1,h2⟩) (fun hr=>hr hs.symm x hx ⟨h2,h1⟩)
theorem Dta.to_of{a:Aut}(h:Dta a){m:Mv}(hm:m∈a.mv){x:Sy}(hx:Ww a x)(hh:Rc m.on x=true):toL a m.src x=m.dst:=by
 unfold toL;cases hf:a.mv.find? (fun k=>decide (k.src=m.src) && Rc k.on x)with
 |none=>rw[u7]at hf;have:=hf m hm;simp[hh]at this
 |some k=>have h1:=uj hf;simp only[zR,decide_eq_true_eq]at h1;rw[h.one (vI hf) hm h1.1 hx h1.2 hh]
theorem Dt{a:Aut}(s:Int)(x:Sy):(toL a s x= -1∧∀m∈a.mv,m.src=s→Rc m.on x=false)∨∃m∈a.mv,m.src=s∧Rc m.on x=true∧toL a s x=m.dst:=by
 unfold toL;cases hf:a.mv.find? (fun k=>decide (k.src=s) && Rc k.on x)with
 |none=>rw[u7]at hf;refine .inl ⟨rfl,fun m hm e=> ?_⟩;have:=hf m hm;simpa[e]using this
 |some k=>have h1:=uj hf;simp only[zR,decide_eq_true_eq]at h1;exact .inr ⟨k,vI hf,h1.1,h1.2,rfl⟩
theorem q21{a:Aut}(h:OkA a)(s:Int)(x:Sy):toL a s x= -1∨inS a (toL a s x):=by
 rcases Dt (a:=a) s x with⟨h1,_⟩|⟨m,hm,_,_,e⟩
 ·exact .inl h1
 ·rw[e];exact .inr (h.mv m hm).dst
def wkS(a:Aut)(s:Int):List Sy→Option Int
 |[]=>some s
 |x::w=>if toL a s x<0 then none else wkS a (toL a s x) w
def fAt(f:List Int)(s:Int):Int:=f.getD s.toNat (-1)
structure IsoT (a b:Aut) (f:List Int):Prop where
 len:f.length=a.fin.length
 zero:fAt f 0=0
 low:∀q∈f,-1≤q
 fin:∀s,inS a s→0≤fAt f s→a.fin.getD s.toNat false=b.fin.getD (fAt f s).toNat false
 step:∀s,inS a s→0≤fAt f s→∀x,Ww a x→(toL a s x<0↔toL b (fAt f s) x<0)∧(0≤toL a s x→fAt f (toL a s x)=toL b (fAt f s) x)
 inj:∀s t,inS a s→inS a t→0≤fAt f s→fAt f s=fAt f t→s=t
 reach:∀s,inS a s→0≤fAt f s→∃w,(∀x∈w,Ww a x)∧wkS a 0 w=some s∧wkS b 0 w=some (fAt f s)
def j1m(st:List Int×List Int)(e:Int×Int):Option (List Int×List Int):=
 if fAt st.1 e.1=e.2 then some st else if 0≤fAt st.1 e.1∨e.2∈st.1 then none else some (st.1.set e.1.toNat e.2,st.2++[e.1])
def v0f:List (Int×Int)→List Int×List Int→Option (List Int×List Int)
 |[],st=>some st
 |e::es,st=>(j1m st e).bind (v0f es)
def z2z(chk:Int→Int→Bool)(ps:Int→Int→List (Int×Int)):Nat→Nat→List Int×List Int→Option (List Int)
 |0,_,st=>some st.1
 |f+1,n,st=>match st.2[n]? with
  |none=>some st.1
  |some p=>if chk p (fAt st.1 p)then(v0f (ps p (fAt st.1 p)) st).bind (z2z chk ps f (n+1))else none
def x2c(a:Aut):List Int×List Int:=((List.replicate a.fin.length (-1)).set 0 0,[0])
structure IsoI (a b:Aut) (st:List Int×List Int):Prop where
 len:st.1.length=a.fin.length
 zero:fAt st.1 0=0
 low:∀q∈st.1,-1≤q
 mem:∀s,s∈st.2↔inS a s∧0≤fAt st.1 s
 nd:st.2.Nodup
 inj:∀s t,inS a s→inS a t→0≤fAt st.1 s→fAt st.1 s=fAt st.1 t→s=t
 reach:∀s,inS a s→0≤fAt st.1 s→∃w,(∀x∈w,Ww a x)∧wkS a 0 w=some s∧wkS b 0 w=some (fAt st.1 s)
 rng:∀s,inS a s→0≤fAt st.1 s→inS b (fAt st.1 s)
structure PsOk (a b:Aut) (chk:Int→Int→Bool) (ps:Int→Int→List (Int×Int)):Prop where
 chk:∀p q,inS a p→inS b q→(chk p q=true↔a.fin.getD p.toNat false=b.fin.getD q.toNat false∧∀x,Ww a x→(toL a p x<0↔toL b q x<0))
 from_:∀p q,inS a p→inS b q→∀e∈ps p q,∃x,Ww a x∧toL a p x=e.1∧toL b q x=e.2∧0≤e.1∧0≤e.2
 all:∀p q,inS a p→inS b q→∀x,Ww a x→0≤toL a p x→0≤toL b q x→(toL a p x,toL b q x)∈ps p q
end Go.Abs
namespace Go.Abs
def y2b(a b:Aut)(p q:Int):Bool:=a.fin.getD p.toNat false==b.fin.getD q.toNat false
def y2n(a:Aut)(p:Int):Prd:=Zu a.types.toNat ((Nu a p).map (·.on))
def x2t(a b:Aut)(p q:Int):Bool:=y2b a b p q && decide (y2n a p=y2n b q)
def psP(a b:Aut)(p q:Int):List (Int×Int):=(Xw a b (p,q)).map (·.2)
def x2k(a b:Aut)(p q:Int)(x:Sy):Bool:=decide (toL a p x<0)==decide (toL b q x<0)
def x25(a b:Aut)(p q:Int):Bool:=y2b a b p q && (Wg a b).all (x2k a b p q)
def ltP(a b:Aut)(p q:Int)(x:Sy):Int×Int:=(toL a p x,toL b q x)
def psR(a b:Aut)(p q:Int):List (Int×Int):=((Wg a b).filter fun x=>decide (0≤toL a p x∧0≤toL b q x)).map (ltP a b p q)
def x28(a b:Aut):(List Int×Bool)×Int:=
 if Wj a≠0 then(([],false),Wj a)else if Wj b≠0 then(([],false),Wj b)else if K8 a=false∨K8 b=false then(([],false),3)
 else if a.types≠b.types then(([],false),15)else match z2z (x2t a b) (psP a b) (a.fin.length+1) 0 (x2c a)with
  |some l=>((l,true),0)
  |none=>(([],false),0)
end Go.Abs
namespace Go.Abs
theorem u1q{a:Aut}(h:OkA a)(x:Sy):toL a (-1) x= -1:=by
 rcases Dt (a:=a) (-1) x with⟨h1,_⟩|⟨m,hm,h2,_,_⟩
 ·exact h1
 ·have:=(h.mv m hm).src.1;omega
def inD(a:Aut)(s:Int):Prop:=s= -1∨inS a s
theorem Sw{a:Aut}(h:OkA a)(s:Int)(x:Sy):inD a (toL a s x):=q21 h s x
def Mb(a:Aut)(s:Int):Bool:=decide (s≠ -1) && a.fin.getD s.toNat false
def mvS(a:Aut)(s:Int):List Mv:=a.mv.filter fun m=>decide (m.src=s)
def Wi(a:Aut)(s:Int):List (Option Mv):=(mvS a s).map some++[none]
def Aq:Option Mv→Int
 |some m=>m.dst
 |none=> -1
def Vs(a:Aut)(s:Int):Option Mv→Prd
 |some m=>m.on
 |none=>W2 (Zu a.types.toNat ((mvS a s).map (·.on)))
def x0m(a:Aut)(s:Int)(o:Option Mv)(x:Sy):Prop:=PM (Vs a s o) x.ty.toNat x.num
theorem Ri{a:Aut}{s:Int}{m:Mv}:m∈mvS a s↔m∈a.mv∧m.src=s:=by unfold mvS;rw[List.mem_filter,decide_eq_true_eq]
theorem Ue{a:Aut}{s:Int}{o:Option Mv}:o∈Wi a s↔o=none∨∃m∈mvS a s,o=some m:=by
 unfold Wi;rw[zO,zK,zI];constructor
 ·rintro(⟨m,hm,rfl⟩|rfl)
  ·exact .inr ⟨m,hm,rfl⟩
  ·exact .inl rfl
 ·rintro(rfl|⟨m,hm,rfl⟩)
  ·exact .inr rfl
  ·exact .inl ⟨m,hm,rfl⟩
theorem Fj{a:Aut}(h:OkA a)(s:Int):∀p∈(mvS a s).map (·.on),PWf a.types.toNat p:=fun r hr=>by obtain⟨m,hm,rfl⟩:=zK.1 hr;exact h.wfA.on m (Ri.1 hm).1

theorem Lo{a:Aut}(h:OkA a){s:Int}{o:Option Mv}(ho:o∈Wi a s):PWf a.types.toNat (Vs a s o):=by
 rcases Ue.1 ho with rfl|⟨m,hm,rfl⟩
 ·exact Ic (G4 (Fj h s))
 ·exact h.wfA.on m (Ri.1 hm).1
theorem U9{a:Aut}(h:OkA a)(s:Int){x:Sy}(hx:Ww a x):x0m a s none x↔∀m∈mvS a s,Rc m.on x=false:=by
 unfold x0m Vs;rw[D1 (G4 (Fj h s)),H9 (Fj h s)];have hk:=Ih.2 hx;constructor
 ·rintro⟨_,hn⟩ m hm;cases hh:Rc m.on x with
  |false=>rfl
  |true=>exact absurd ⟨m.on,zK.2 ⟨m,hm,rfl⟩,(Ua h.wfA (Ri.1 hm).1 hx).1 hh⟩ hn
 ·intro hn;refine⟨hk.2,?_⟩;rintro⟨r,hr,z1⟩;obtain⟨m,hm,rfl⟩:=zK.1 hr;have:=hn m hm;rw[(Ua h.wfA (Ri.1 hm).1 hx).2 z1]at this;cases this
theorem Ii{a:Aut}(h:OkA a){s:Int}{m:Mv}(hm:m∈mvS a s){x:Sy}(hx:Ww a x):x0m a s (some m) x↔Rc m.on x=true:=(Ua h.wfA (Ri.1 hm).1 hx).symm
theorem q0r{a:Aut}(h:Dta a){s:Int}{o:Option Mv}(ho:o∈Wi a s){x:Sy}(hx:Ww a x)(hh:x0m a s o x):toL a s x=Aq o:=by
 rcases Ue.1 ho with rfl|⟨m,hm,rfl⟩
 ·have hn:=(U9 h.ok s hx).1 hh;rcases Dt (a:=a) s x with⟨h1,_⟩|⟨m,h1,h2,h3,_⟩
  ·exact h1
  ·rw[hn m (Ri.2 ⟨h1,h2⟩)]at h3;cases h3
 ·obtain⟨h1,h2⟩:=Ri.1 hm;rw[←h2];exact h.to_of h1 hx ((Ii h.ok hm hx).1 hh)
theorem v00{a:Aut}(h:OkA a)(s:Int){x:Sy}(hx:Ww a x):∃o∈Wi a s,x0m a s o x:=by
 by_cases hn:∀m∈mvS a s,Rc m.on x=false
 ·exact⟨none,Ue.2 (.inl rfl),(U9 h s hx).2 hn⟩
 ·have:∃m∈mvS a s,Rc m.on x=true:=Classical.byContradiction fun k=>hn fun m hm=>by
   cases hh:Rc m.on x with
   |false=>rfl
   |true=>exact absurd ⟨m,hm,hh⟩ k
  obtain⟨m,hm,hh⟩:=this;exact⟨some m,Ue.2 (.inr ⟨m,hm,rfl⟩),(Ii h hm hx).2 hh⟩
theorem N8{a:Aut}(h:Dta a)(s:Int):(Wi a s).Pairwise (fun o r=>∀x,Ww a x→x0m a s o x→¬x0m a s r x):=by
 unfold Wi;rw[zX,xM];refine⟨?_,List.pairwise_singleton ..,fun o ho r hr x hx h1 h2=> ?_⟩
 ·have hp:(mvS a s).Pairwise (fun m k=>m.src=k.src→∀x:Sy,Ww a x→¬(Rc m.on x=true∧Rc k.on x=true)):=h.det.filter _;refine hp.imp_of_mem fun {m k} hm hk hr x hx h1 h2=> ?_;have e:m.src=k.src:=by rw[(Ri.1 hm).2,(Ri.1 hk).2]
  exact hr e x hx ⟨(Ii h.ok hm hx).1 h1,(Ii h.ok hk hx).1 h2⟩
 ·rw[zI.1 hr]at h2;obtain⟨m,hm,rfl⟩:=zK.1 ho;have:=(U9 h.ok s hx).1 h2 m hm;rw[(Ii h.ok hm hx).1 h1]at this;cases this
def Na(a b:Aut)(s:Int×Int)(o r:Option Mv):Prd:=We (Vs a s.1 o) (Vs b s.2 r)
def c0v(a b:Aut)(s:Int×Int)(o r:Option Mv):Option (Sy×(Int×Int)):=if Wk (Na a b s o r)then none else some (Qn (Na a b s o r),(Aq o,Aq r))
def Zr(a b:Aut)(s:Int×Int):List (Sy×(Int×Int)):=(Wi a s.1).flatMap fun o=>(Wi b s.2).filterMap (c0v a b s o)
section
variable {a b:Aut} (ha:Dta a) (hb:Dta b) (ht:b.types=a.types) {s:Int×Int}
include ha hb ht
theorem j05{o r:Option Mv}(ho:o∈Wi a s.1)(hr:r∈Wi b s.2):PWf a.types.toNat (Na a b s o r)∧∀t n,PM (Na a b s o r) t n↔PM (Vs a s.1 o) t n∧PM (Vs b s.2 r) t n:=by have w1:=Lo ha.ok ho;have w2:=Lo hb.ok hr;rw[ht]at w2;exact⟨Yk w1 w2.1,Re w1.1 w2.1⟩
theorem Yw{o r:Option Mv}(ho:o∈Wi a s.1)(hr:r∈Wi b s.2){e:Sy×(Int×Int)}(he:c0v a b s o r=some e):Ww a e.1∧x0m a s.1 o e.1∧x0m b s.2 r e.1∧e.2=(Aq o,Aq r)∧∀y,Ww a y→x0m a s.1 o y→x0m b s.2 r y→e.1=y∨sLt e.1 y:=by
 obtain⟨hw,z1⟩:=j05 ha hb ht ho hr;unfold c0v at he;split at he
 ·cases he
 ·rename_i hv;obtain rfl:=Option.some.inj he;obtain⟨k1,k2,k3⟩:=Gn hw ((Nk hw).1 (by simpa using hv));obtain⟨p1,p2⟩:=(z1 _ _).1 k2;exact⟨Ih.1 k1,p1,p2,rfl,fun y hy h1 h2=>k3 y (Ih.2 hy) ((z1 _ _).2 ⟨h1,h2⟩)⟩
theorem v0s{e:Sy×(Int×Int)}:e∈Zr a b s↔∃o∈Wi a s.1,∃r∈Wi b s.2,c0v a b s o r=some e:=by unfold Zr;rw[xL];simp only[wL]
theorem d1p{e:Sy×(Int×Int)}(he:e∈Zr a b s):Ww a e.1∧e.2=R3 a b s e.1:=by obtain⟨o,ho,r,hr,h⟩:=(v0s ha hb ht).1 he;obtain⟨k1,k2,k3,k4,_⟩:=Yw ha hb ht ho hr h;refine⟨k1,?_⟩;rw[k4];unfold R3;rw[q0r ha ho k1 k2,q0r hb hr ((R7 ht).2 k1) k3]
theorem k13{y:Sy}(hy:Ww a y):∃e∈Zr a b s,e.2=R3 a b s y∧(e.1=y∨sLt e.1 y):=by
 have z1:=(R7 ht).2 hy;obtain⟨o,ho,h1⟩:=v00 ha.ok s.1 hy;obtain⟨r,hr,h2⟩:=v00 hb.ok s.2 z1;obtain⟨hw,z6⟩:=j05 ha hb ht ho hr;have hv:Wk (Na a b s o r)=false:=(Nk hw).2 ⟨_,_,(z6 _ _).2 ⟨h1,h2⟩⟩;have he:c0v a b s o r=some (Qn (Na a b s o r),(Aq o,Aq r)):=by unfold c0v;rw[hv,if_neg (by simp)]
 refine⟨_,(v0s ha hb ht).2 ⟨o,ho,r,hr,he⟩,?_,(Yw ha hb ht ho hr he).2.2.2.2 y hy h1 h2⟩;unfold R3;rw[q0r ha ho hy h1,q0r hb hr z1 h2]
theorem x1j:(Zr a b s).Pairwise (fun e e'=>e.1≠e'.1):=by
 unfold Zr;rw[List.pairwise_flatMap];refine⟨fun o ho=> ?_,(N8 ha s.1).imp_of_mem fun {o o'} ho ho' hd x hx y hy e=> ?_⟩
 ·rw[List.pairwise_filterMap];refine(N8 hb s.2).imp_of_mem fun {r r'} hr z1 hd x hx y hy e=> ?_;obtain⟨k1,_,k3,_⟩:=Yw ha hb ht ho hr hx;obtain⟨_,_,j3,_⟩:=Yw ha hb ht ho z1 hy;rw[←e]at j3;exact hd x.1 ((R7 ht).2 k1) k3 j3
 ·obtain⟨r,hr,h1⟩:=wL.1 hx;obtain⟨r',z1,h2⟩:=wL.1 hy;obtain⟨k1,k2,_⟩:=Yw ha hb ht ho hr h1;obtain⟨_,j2,_⟩:=Yw ha hb ht ho' z1 h2;rw[←e]at j2;exact hd x.1 k1 k2 j2
end
def Vt(e e':Sy×(Int×Int)):Bool:= !Bh e'.1 e.1
def Y1(a b:Aut)(s:Int×Int):List (Sy×(Int×Int)):=(Zr a b s).mergeSort Vt
theorem y05(x y z:Sy×(Int×Int))(h1:Vt x y=true)(h2:Vt y z=true):Vt x z=true:=by
 unfold Vt at *
 cases hz:Bh z.1 x.1 with
 |false=>rfl
 |true=>
  exfalso;rw[Jn]at hz;have n1:¬sLt y.1 x.1:=fun k=>by rw[(Jn _ _).2 k]at h1;simp at h1
  have n2:¬sLt z.1 y.1:=fun k=>by rw[(Jn _ _).2 k]at h2;simp at h2
  rcases sLt.tri x.1 y.1 with k|k|k
  ·exact n2 (hz.trans k)
  ·rw[k]at hz;exact n2 hz
  ·exact n1 k
theorem z0t(x y:Sy×(Int×Int)):(Vt x y || Vt y x)=true:=by
 unfold Vt;cases h1:Bh y.1 x.1 with
 |false=>rfl
 |true=>
  cases h2:Bh x.1 y.1 with
  |false=>rfl
  |true=>exact absurd (((Jn _ _).1 h1).trans ((Jn _ _).1 h2)) (fun k=>sLt.irr k)
theorem Jh{L:List (Sy×(Int×Int))}(hp:L.Pairwise fun x y=>Vt x y=true)(hn:L.Pairwise fun e e'=>e.1≠e'.1):L.Pairwise fun x y=>sLt x.1 y.1:=by
 refine(hp.and hn).imp fun {x y} h=> ?_;have n1:¬sLt y.1 x.1:=fun k=>by have:=h.1;unfold Vt at this;rw[(Jn _ _).2 k]at this;simp at this
 rcases sLt.tri x.1 y.1 with k|k|k
 ·exact k
 ·exact absurd k h.2
 ·exact absurd k n1
theorem Mu{a b:Aut}(ha:Dta a)(hb:Dta b)(ht:b.types=a.types)(s:Int×Int):(Y1 a b s).Pairwise fun x y=>sLt x.1 y.1:=by refine Jh (vT y05 z0t _) ?_;exact(wG (Zr a b s) Vt).symm.pairwise (x1j ha hb ht) (fun {x y} h=>h.symm)
theorem Ab{a b:Aut}(ha:Dta a)(hb:Dta b)(ht:b.types=a.types)(s:Int×Int):SuccOk (Ww a) (R3 a b) s (Y1 a b s):=by have hm:∀e,e∈Y1 a b s↔e∈Zr a b s:=fun e=>(wG (Zr a b s) Vt).mem_iff;refine⟨Mu ha hb ht s,fun e he=>d1p ha hb ht ((hm e).1 he),fun y hy=> ?_⟩;obtain⟨e,he,h⟩:=k13 ha hb ht (s:=s) hy;exact⟨e,(hm e).2 he,h⟩
theorem x05{a b:Aut}(ha:Dta a)(hb:Dta b)(ht:b.types=a.types)(s:Int×Int){L:List (Sy×(Int×Int))}(hp:L.Perm (Zr a b s))(hs:L.Pairwise fun x y=>Vt x y=true):L=Y1 a b s:=by have h1:=Jh hs (hp.symm.pairwise (x1j ha hb ht) (fun {x y} h=>h.symm));refine List.Perm.eq_of_pairwise (le:=fun x y=>sLt x.1 y.1) (fun x y _ _ k1 k2=>absurd (k1.trans k2) (fun k=>sLt.irr k)) h1 (Mu ha hb ht s) (hp.trans (wG (Zr a b s) Vt).symm)
end Go.Abs
namespace Go.Abs
structure FirstP (ok:Sy→Prop) (P:List Sy→Bool) (w:List Sy):Prop where
 okw:∀x∈w,ok x
 hit:P w=true
 least:∀v,(∀x∈v,ok x)→P v=true→lle w v
theorem FirstP.uniq{ok:Sy→Prop}{P:List Sy→Bool}{v w:List Sy}(h:FirstP ok P v)(k:FirstP ok P w):v=w:=
 (h.least w k.okw k.hit).anti (k.least v h.okw h.hit)
theorem FirstP.congr{ok:Sy→Prop}{P Q:List Sy→Bool}{w:List Sy}(h:FirstP ok P w)(e:∀v,(∀x∈v,ok x)→P v=Q v):FirstP ok Q w:=
 ⟨h.okw,by rw[←e w h.okw];exact h.hit,fun v hv hq=>h.least v hv (by rw[e v hv];exact hq)⟩
theorem FirstP.sub{ok ok':Sy→Prop}{P:List Sy→Bool}{w:List Sy}(h:FirstP ok P w)(e:∀x,ok x↔ok' x):FirstP ok' P w:=
 ⟨fun x hx=>(e x).1 (h.okw x hx),h.hit,fun v hv hq=>h.least v (fun x hx=>(e x).2 (hv x hx)) hq⟩
theorem FirstW.toP{σ:Type}{ok:Sy→Prop}{step:σ→Sy→σ}{good:σ→Bool}{s:σ}{w:List Sy}(h:FirstW ok step good s w):FirstP ok (fun v=>good (Tb step s v)) w:=⟨h.okw,h.goodw,h.least⟩
def v0p(s:Int):List Int:=if s= -1 then []else [s]
theorem c0z{a:Aut}(h:Dta a){s:Int}{x:Sy}(hx:Ww a x):Q0 a [s] x=v0p (toL a s x):=by
 unfold v0p;rcases Dt (a:=a) s x with⟨h1,h2⟩|⟨m,m1,m2,m3,m4⟩
 ·rw[if_pos h1];refine wH.2 fun j hj=> ?_;obtain⟨_,m,hm,k1,k2,_⟩:=Wu.1 hj;rw[h2 m hm (zI.1 k1)]at k2;cases k2
 ·have hd:=(h.ok.mv m m1).dst;rw[if_neg (by rw[m4];omega)];refine Tp (Yf ..) (by simp) fun z=> ?_;rw[Wu,zI];constructor
  ·rintro⟨_,k,hk,k1,k2,rfl⟩;rw[←h.to_of hk hx k2,zI.1 k1]
  ·rintro rfl;rw[m4];exact⟨hd,m,m1,by rw[m2];simp,m3,rfl⟩
theorem Kp(a:Aut)(x:Sy):Q0 a [] x=[]:=wH.2 fun j hj=>by obtain⟨_,m,hm,k1,_⟩:=Wu.1 hj;cases k1
theorem k01{a:Aut}(h:Dta a):∀(w:List Sy) (s:Int),(∀x∈w,Ww a x)→I1 a (v0p s) w=v0p (stF a s w)
 |[],_,_=>rfl
 |x::w,s,hw=>by
  have hx:=hw x (by simp);have ih:=k01 h w (toL a s x) fun y hy=>hw y (by simp[hy]);show I1 a (Q0 a (v0p s) x) w=v0p (stF a (toL a s x) w);rw[←ih]
  congr 1
  by_cases hs:s= -1
  ·subst hs;rw[u1q h.ok];unfold v0p;rw[if_pos rfl,Kp]
  ·have:v0p s=[s]:=by unfold v0p;rw[if_neg hs]
   rw[this,c0z h hx]
theorem x17(a:Aut)(s:Int):Iu a (v0p s)=Mb a s:=by
 unfold v0p Mb Iu;by_cases hs:s= -1
 ·rw[if_pos hs,hs];rfl
 ·rw[if_neg hs];simp[hs]
theorem j03{a:Aut}(h:Dta a){w:List Sy}(hw:∀x∈w,Ww a x):Tx a w=Mb a (stF a 0 w):=by unfold Tx;rw[←x17,←k01 h w 0 hw];rfl
def Jg(n:Nat):List Int:= -1::Wt n
def y0d(a b:Aut):List (Int×Int):=(Jg a.fin.length).flatMap fun i=>(Jg b.fin.length).map fun j=>(i,j)
theorem Pm(a b:Aut):(y0d a b).length=(a.fin.length+1) * (b.fin.length+1):=by unfold y0d;rw[vC,xN (g:=fun _=>b.fin.length+1) (fun i _=>by simp[Wt,Jg]),vH,wX];simp[Wt,Jg]
theorem J8{a:Aut}{s:Int}:s∈Jg a.fin.length↔inD a s:=by unfold Jg inD;rw[zT,Wz];exact Iff.rfl
theorem Ps{a b:Aut}{s:Int×Int}(h1:inD a s.1)(h2:inD b s.2):s∈y0d a b:=by unfold y0d;exact xL.2 ⟨s.1,J8.2 h1,zK.2 ⟨s.2,J8.2 h2,rfl⟩⟩
def Cc(wn:Bool→Bool→Bool)(a b:Aut)(s:Int×Int):Bool:=wn (Mb a s.1) (Mb b s.2)
def Hg(a b:Aut)(wn:Bool→Bool→Bool):Option (List Sy)×List ((Int×Int)×List Sy):=S9 (Cc wn a b) (Y1 a b) ((a.fin.length+1) * (b.fin.length+1)+1) 0 [((0,0),[])]
def wnd(wn:Bool→Bool→Bool)(a b:Aut)(v:List Sy):Bool:=wn (Tx a v) (Tx b v)
theorem Mi{a b:Aut}(ha:Dta a)(hb:Dta b)(ht:b.types=a.types)(wn:Bool→Bool→Bool){v:List Sy}(hv:∀x∈v,Ww a x):Cc wn a b (Tb (R3 a b) (0,0) v)=wnd wn a b v:=by rw[Yr];unfold Cc wnd;rw[j03 ha hv,j03 hb fun x hx=>(R7 ht).2 (hv x hx)]
theorem Tw{a b:Aut}(ha:Dta a)(hb:Dta b)(ht:b.types=a.types)(wn:Bool→Bool→Bool):
  (∃w L,Hg a b wn=(some w,L)∧FirstP (Ww a) (wnd wn a b) w)∨
  (∃L,Hg a b wn=(none,L)∧(L.map (·.1)).Nodup∧(∀s,s∈L.map (·.1)↔∃v,(∀x∈v,Ww a x)∧Tb (R3 a b) (0,0) v=s)∧(∀s∈L.map (·.1),inD a s.1∧inD b s.2)∧∀v,(∀x∈v,Ww a x)→wnd wn a b v=false):=by
 have hz:inD a 0∧inD b 0:=⟨.inr ⟨yI _,by have:=ha.ok.fin;omega⟩,.inr ⟨yI _,by have:=hb.ok.fin;omega⟩⟩
 rcases Ah (ok:=Ww a) (step:=R3 a b) (good:=Cc wn a b) (succ:=Y1 a b) (s0:=(0,0)) (G:=fun s=>inD a s.1∧inD b s.2) (fun s _=>Ab ha hb ht s)
  (fun s _ e he=>by
   rw[((Ab ha hb ht s).mem e he).2];exact⟨Sw ha.ok _ _,Sw hb.ok _ _⟩) (y0d a b) (fun s hs=>Ps hs.1 hs.2) ((a.fin.length+1) * (b.fin.length+1)+1) 0 [((0,0),[])] (by rw[Pm];omega) (by simp) (Ik (s0:=((0:Int),(0:Int))) hz)with⟨w,L,h1,h2⟩|⟨L,h1,h2,h3,h4⟩
 ·exact .inl ⟨w,L,h1,h2.toP.congr fun v hv=>Mi ha hb ht wn hv⟩
 ·refine .inr ⟨L,h1,h2,fun s=>⟨fun hs=> ?_,fun⟨v,hv,e⟩=> ?_⟩,fun s hs=> ?_,fun v hv=> ?_⟩
  ·obtain⟨e,he,rfl⟩:=zK.1 hs;exact⟨e.2,(h3 e he).1,(h3 e he).2.1⟩
  ·rw[←e];exact(h4 v hv).1
  ·obtain⟨e,he,rfl⟩:=zK.1 hs;exact(h3 e he).2.2
  ·rw[←Mi ha hb ht wn hv];exact(h4 v hv).2
end Go.Abs
namespace Go.Abs
theorem Jv{a:Aut}{x y:Sy}(h:∀m∈a.mv,Rc m.on x=Rc m.on y)(l:List Int):Q0 a l x=Q0 a l y:=by unfold Q0;refine List.filter_congr fun j _=> ?_;unfold x1r;rw[xR,wQ,wQ];refine exists_congr fun m=>and_congr_right fun hm=> ?_;rw[h m hm]
abbrev SS:=List Int×List Int
def Cl(a b:Aut)(s:SS)(x:Sy):SS:=(Q0 a s.1 x,Q0 b s.2 x)
def Vk(a b:Aut)(s:SS):List (Sy×SS):=(Wg a b).map fun x=>(x,Cl a b s x)
def k1h(wn:Bool→Bool→Bool)(a b:Aut)(s:SS):Bool:=wn (Iu a s.1) (Iu b s.2)
def y1v(a b:Aut)(wn:Bool→Bool→Bool):Option (List Sy)×List (SS×List Sy):=S9 (k1h wn a b) (Vk a b) 66050 0 [(([0],[0]),[])]
theorem y1m(a b:Aut):∀(w:List Sy) (l m:List Int),Tb (Cl a b) (l,m) w=(I1 a l w,I1 b m w)
 |[],_,_=>rfl
 |x::w,l,m=>y1m a b w (Q0 a l x) (Q0 b m x)
theorem q0j{a b:Aut}(ha:OkA a)(hb:OkA b)(ht:b.types=a.types)(s:SS):SuccOk (Ww a) (Cl a b) s (Vk a b s):=by
 have hl:=y18 ha hb ht;refine⟨?_,fun e he=> ?_,fun y hy=> ?_⟩
 ·unfold Vk;exact xM.2 (hl.ascS.imp fun h=>h)
 ·obtain⟨x,hx,rfl⟩:=zK.1 he;obtain⟨c,hc,rfl⟩:=zK.1 hx;exact⟨Ih.1 (hl.least hc).1,rfl⟩
 ·obtain⟨c,hc,hm,hle,z1⟩:=hl.cov (Ih.2 hy);refine⟨(Qn c,Cl a b s (Qn c)),zK.2 ⟨Qn c,zK.2 ⟨c,hc,rfl⟩,rfl⟩,?_,hle⟩;unfold Cl;rw[Jv (fun m hm=>(z1 m.on (xB _ (Ks hm))).symm),Jv (a:=b) (fun m hm=>(z1 m.on (vA _ (Ks hm))).symm)]
def Hu(P Q:List (List Int)):List SS:=([]::P).flatMap fun i=>([]::Q).map fun j=>(i,j)
theorem j0a(P Q:List (List Int)):(Hu P Q).length=(P.length+1) * (Q.length+1):=by unfold Hu;rw[vC,xN (g:=fun _=>Q.length+1) (fun i _=>by simp),vH,wX];simp
theorem x0y{P Q:List (List Int)}{s:SS}(h1:s.1=[]∨s.1∈P)(h2:s.2=[]∨s.2∈Q):s∈Hu P Q:=by unfold Hu;exact xL.2 ⟨s.1,zT.2 h1,zK.2 ⟨s.2,zT.2 h2,rfl⟩⟩
theorem v0j{a b x y:Aut}(ha:OkA a)(hb:OkA b)(ht:b.types=a.types)(da:Rz a=(0,x))(db:Rz b=(0,y))(wn:Bool→Bool→Bool):
  (∃w L,y1v a b wn=(some w,L)∧FirstP (Ww a) (wnd wn a b) w)∨(∃L,y1v a b wn=(none,L)∧∀v,(∀z∈v,Ww a z)→wnd wn a b v=false):=by
 obtain⟨P,_,hP,z1,_⟩:=I5 ha da;obtain⟨Q,_,hQ,z6,_⟩:=I5 hb db;have step:∀(c:Aut) (cl:List Prd) (Q:List (List Int)),Sub c cl Q→Cls c cl→∀(l:List Int) (z:Sy),Ww c z→(l=[]∨l∈Q)→(Q0 c l z=[]∨Q0 c l z∈Q):=fun c cl Q hs hc l z hz hl=>by
  rcases hl with rfl|hl
  ·exact .inl (Kp _ _)
  ·exact hs.step hc hl hz
 have hw:∀v,k1h wn a b (Tb (Cl a b) ([0],[0]) v)=wnd wn a b v:=fun v=>by rw[y1m];rfl
 have hlen:(Hu P Q).length+1≤0+66050:=by have h1:=hP.lim;have h2:=hQ.lim;rw[j0a];have:=Nat.mul_le_mul (show P.length+1≤257 by omega) (show Q.length+1≤257 by omega);omega
 rcases Ah (ok:=Ww a) (step:=Cl a b) (good:=k1h wn a b) (succ:=Vk a b) (s0:=(([0]:List Int),([0]:List Int))) (G:=fun s=>(s.1=[]∨s.1∈P)∧(s.2=[]∨s.2∈Q)) (fun s _=>q0j ha hb ht s)
  (fun s hs e he=>by
   obtain⟨h1,h2⟩:=(q0j ha hb ht s).mem e he;rw[h2];exact⟨step _ _ _ hP z1 _ _ h1 hs.1,step _ _ _ hQ z6 _ _ ((R7 ht).2 h1) hs.2⟩) (Hu P Q) (fun s hs=>x0y hs.1 hs.2) 66050 0 [(([0],[0]),[])] hlen (by simp) (Ik (s0:=(([0]:List Int),([0]:List Int))) ⟨.inr (zF hP.first),.inr (zF hQ.first)⟩)with⟨w,L,h1,h2⟩|⟨L,h1,_,_,h4⟩
 ·exact .inl ⟨w,L,h1,h2.toP.congr fun v _=>hw v⟩
 ·exact .inr ⟨L,h1,fun v hv=>by rw[←hw v];exact(h4 v hv).2⟩
theorem w0g{a b x y:Aut}(ha:OkA a)(hb:OkA b)(ht:b.types=a.types)(da:Rz a=(0,x))(db:Rz b=(0,y))(wn:Bool→Bool→Bool):(y1v a b wn).1=(Hg x y wn).1:=by
 obtain⟨_,_,_,_,_,_,xo,xd,xt,xa⟩:=I5 ha da;obtain⟨_,_,_,_,_,_,yo,yd,yt,ya⟩:=I5 hb db;have z6:y.types=x.types:=by rw[yt,xt,ht]
 have z1:∀z,Ww x z↔Ww a z:=fun z=>R7 xt;have hw:∀v,(∀z∈v,Ww a z)→wnd wn x y v=wnd wn a b v:=fun v hv=>by unfold wnd;rw[xa v hv,ya v fun z hz=>(R7 ht).2 (hv z hz)]
 rcases v0j ha hb ht da db wn with⟨w,L,h1,h2⟩|⟨L,h1,h2⟩
 ·rcases Tw ⟨xo,xd⟩ ⟨yo,yd⟩ z6 wn with⟨v,M,k1,k2⟩|⟨M,k1,_,_,_,k2⟩
  ·rw[h1,k1];have:=(k2.sub z1).congr hw;rw[this.uniq h2]
  ·exfalso;have:=k2 w fun z hz=>(z1 z).2 (h2.okw z hz);rw[hw w h2.okw,h2.hit]at this;cases this
 ·rcases Tw ⟨xo,xd⟩ ⟨yo,yd⟩ z6 wn with⟨v,M,k1,k2⟩|⟨M,k1,_,_,_,k2⟩
  ·exfalso;have hv:=fun z hz=>(z1 z).1 (k2.okw z hz);have:=h2 v hv;rw[←hw v hv,k2.hit]at this;cases this
  ·rw[h1,k1]
def neB(x y:Bool):Bool:=x != y
theorem Ij{a b:Aut}(ha:Dfa a)(hb:Dfa b)(ht:b.types=a.types):(Om a b 0 0).1=(Hg a b neB).1:=by
 have da:Dta a:=⟨ha.ok,ha.det⟩
 have db:Dta b:=⟨hb.ok,hb.det⟩
 have hz:=ha.zero;have z1:=hb.zero;have hd:∀v,(∀z∈v,Ww a z)→(q0d a 0 v≠q0d b 0 v↔wnd neB a b v=true):=fun v hv=>by unfold wnd neB;rw[ha.acc hv,hb.acc fun z hz=>(R7 ht).2 (hv z hz)];simp
 rcases j01 ha hb ht hz z1 with⟨w,h1,h2⟩|⟨h1,h2⟩
 ·have hf:FirstP (Ww a) (wnd neB a b) w:=by refine⟨h2.okw,(hd w h2.okw).1 ((Km a b 0 0 w).1 h2.goodw),fun v hv hp=>h2.least v hv ((Km a b 0 0 v).2 ((hd v hv).2 hp))⟩
  rcases Tw da db ht neB with⟨v,M,k1,k2⟩|⟨M,k1,_,_,_,k2⟩
  ·rw[h1,k1,hf.uniq k2]
  ·have:=k2 w hf.okw;rw[hf.hit]at this;cases this
 ·rcases Tw da db ht neB with⟨v,M,k1,k2⟩|⟨M,k1,_,_,_,k2⟩
  ·exact absurd (h2 v k2.okw) ((hd v k2.okw).2 k2.hit)
  ·rw[h1,k1]
def pLt(p q:Int×Int):Prop:=p.1<q.1∨(p.1=q.1∧p.2<q.2)
theorem pLt.irr{p:Int×Int}(h:pLt p p):False:=by unfold pLt at h;omega
theorem pLt.trans{p q r:Int×Int}(h:pLt p q)(k:pLt q r):pLt p r:=by unfold pLt at *;omega
theorem pLt.tri(p q:Int×Int):pLt p q∨p=q∨pLt q p:=by
 unfold pLt;by_cases h1:p.1=q.1
 ·by_cases h2:p.2=q.2
  ·exact .inr (.inl (Prod.ext h1 h2))
  ·omega
 ·omega
theorem Yu{L M:List (Int×Int)}(h:L.Pairwise pLt)(k:M.Pairwise pLt)(e:∀s,s∈L↔s∈M):L=M:=by
 have nd:∀ {X:List (Int×Int)},X.Pairwise pLt→X.Nodup:=fun hx=>hx.imp fun h e=>by subst e;exact h.irr
 exact List.Perm.eq_of_pairwise (le:=pLt) (fun p q _ _ h1 h2=>(h1.trans h2).irr.elim) h k ((List.perm_ext_iff_of_nodup (nd h) (nd k)).2 e)
end Go.Abs
namespace Go.Abs
def pLe(p q:Int×Int):Bool:=decide (p.1<q.1) || (decide (p.1=q.1) && decide (p.2≤q.2))
theorem k08(p q r:Int×Int)(h:pLe p q=true)(k:pLe q r=true):pLe p r=true:=by unfold pLe at *;simp only[wp,zR,decide_eq_true_eq]at *;omega
theorem k0y(p q:Int×Int):(pLe p q || pLe q p)=true:=by unfold pLe;simp only[wp,zR,decide_eq_true_eq];omega
theorem y12{p q:Int×Int}(h:pLe p q=true)(hn:p≠q):pLt p q:=by
 unfold pLe at h;simp only[wp,zR,decide_eq_true_eq]at h;rcases pLt.tri p q with k|k|k
 ·exact k
 ·exact absurd k hn
 ·unfold pLt at k;omega
def En(L:List (Int×Int)):List (Int×Int):=L.mergeSort pLe
theorem Tj{L:List (Int×Int)}(h:L.Nodup):(En L).Pairwise pLt:=by have h1:=vT k08 k0y L;have h2:(En L).Nodup:=(wG L pLe).symm.nodup h;exact(h1.and h2).imp fun h=>y12 h.1 h.2
theorem W5{L:List (Int×Int)}{s:Int×Int}:s∈En L↔s∈L:=(wG L pLe).mem_iff
theorem w0n{L M:List (Int×Int)}(h:L.Nodup)(hp:M.Perm L)(hs:M.Pairwise fun p q=>pLe p q=true):M=En L:=by have hn:M.Nodup:=hp.symm.nodup h;exact Yu ((hs.and hn).imp fun h=>y12 h.1 h.2) (Tj h) fun s=>by rw[W5];exact hp.mem_iff
def u0q(a b:Aut)(s:Int×Int):Prop:=∃v,(∀x∈v,Ww a x)∧Tb (R3 a b) (0,0) v=s
def G6(a b:Aut):List (Int×Int):=(S9 (fun _=>false) (R4 a b) ((a.fin.length+1) * (b.fin.length+1)+1) 0 [((0,0),[])]).2.map (·.1)
def T6(a b:Aut):List (Int×Int):=(Hg a b neB).2.map (·.1)
theorem z0u{a b:Aut}(ha:OkA a)(hb:OkA b)(ht:b.types=a.types):(G6 a b).Nodup∧(∀s,s∈G6 a b↔u0q a b s)∧∀s∈G6 a b,inD a s.1∧inD b s.2:=by
 have hz:inD a 0∧inD b 0:=⟨.inr ⟨yI _,by have:=ha.fin;omega⟩,.inr ⟨yI _,by have:=hb.fin;omega⟩⟩
 rcases Ah (ok:=Ww a) (step:=R3 a b) (good:=fun _=>false) (succ:=R4 a b) (s0:=((0:Int),(0:Int))) (G:=fun s=>inD a s.1∧inD b s.2) (fun s _=>Ow ha hb ht s)
  (fun s _ e he=>by
   rw[((Ow ha hb ht s).mem e he).2];exact⟨Sw ha _ _,Sw hb _ _⟩) (y0d a b) (fun s hs=>Ps hs.1 hs.2) ((a.fin.length+1) * (b.fin.length+1)+1) 0 [((0,0),[])] (by rw[Pm];omega) (by simp) (Ik (s0:=((0:Int),(0:Int))) hz)with⟨w,L,_,h2⟩|⟨L,h1,h2,h3,h4⟩
 ·exact absurd h2.goodw (by simp)
 ·unfold G6;rw[h1];refine⟨h2,fun s=>⟨fun hs=> ?_,fun⟨v,hv,e⟩=>by rw[←e];exact(h4 v hv).1⟩,fun s hs=> ?_⟩
  ·obtain⟨e,he,rfl⟩:=zK.1 hs;exact⟨e.2,(h3 e he).1,(h3 e he).2.1⟩
  ·obtain⟨e,he,rfl⟩:=zK.1 hs;exact(h3 e he).2.2
theorem P3{a b:Aut}(ha:Dta a)(hb:Dta b)(ht:b.types=a.types)(hn:(Hg a b neB).1=none):(T6 a b).Nodup∧En (T6 a b)=En (G6 a b)∧∀s,s∈T6 a b↔u0q a b s:=by
 obtain⟨r1,r2,_⟩:=z0u ha.ok hb.ok ht;rcases Tw ha hb ht neB with⟨w,L,h1,_⟩|⟨L,h1,h2,h3,_⟩
 ·rw[h1]at hn;cases hn
 ·have e:T6 a b=L.map (·.1):=by unfold T6;rw[h1]
  have e2:∀s,s∈T6 a b↔u0q a b s:=fun s=>by rw[e];exact h3 s
  have n1:(T6 a b).Nodup:=by rw[e];exact h2
  exact⟨n1,Yu (Tj n1) (Tj r1) (fun s=>by rw[W5,W5,r2 s,e2 s]),e2⟩
def X7(a b:Aut)(s:Int×Int):Bool:=a.fin.getD s.1.toNat false==b.fin.getD s.2.toNat false
def Hk(a b:Aut)(l:List (Int×Int)):Bool:=decide ((0,0)∈l) && l.all fun s=>X7 a b s && (R4 a b s).all fun e=>decide (e.2∈l)
def Dr(a b:Aut)(l:List (Int×Int)):Bool:=(l.all fun s=>X7 a b s && (Y1 a b s).all fun e=>decide (e.2∈l)) && decide ((0,0)∈l)
theorem Dv{a b:Aut}{s:Int×Int}{L:List (Sy×(Int×Int))}(h:SuccOk (Ww a) (R3 a b) s L)(l:List (Int×Int)):(L.all fun e=>decide (e.2∈l))=true↔∀y,Ww a y→R3 a b s y∈l:=by
 rw[zP];constructor
 ·intro k y hy;obtain⟨e,he,e1,_⟩:=h.cov y hy;rw[←e1];simpa using k e he
 ·intro k e he;obtain⟨h1,h2⟩:=h.mem e he;rw[h2];simpa using k e.1 h1
theorem Lh{a b:Aut}(ha:OkA a)(hb:OkA b)(ht:b.types=a.types)(l:List (Int×Int)):Hk a b l=true↔(0,0)∈l∧∀s∈l,X7 a b s=true∧∀y,Ww a y→R3 a b s y∈l:=by
 unfold Hk;rw[zR,decide_eq_true_eq,zP];refine and_congr_right fun _=>⟨fun h s hs=> ?_,fun h s hs=> ?_⟩
 ·have:=h s hs;rw[zR]at this;exact⟨this.1,(Dv (Ow ha hb ht s) l).1 this.2⟩
 ·rw[zR];exact⟨(h s hs).1,(Dv (Ow ha hb ht s) l).2 (h s hs).2⟩
theorem u00{a b:Aut}(ha:Dta a)(hb:Dta b)(ht:b.types=a.types)(l:List (Int×Int)):Dr a b l=Hk a b l:=by
 rw[xR,Lh ha.ok hb.ok ht];unfold Dr;rw[zR,decide_eq_true_eq,zP];rw[and_comm];refine and_congr_right fun _=>⟨fun h s hs=> ?_,fun h s hs=> ?_⟩
 ·have:=h s hs;rw[zR]at this;exact⟨this.1,(Dv (Ab ha hb ht s) l).1 this.2⟩
 ·rw[zR];exact⟨(h s hs).1,(Dv (Ab ha hb ht s) l).2 (h s hs).2⟩
theorem w0t{a b:Aut}(ha:Dfa a)(hb:Dfa b)(ht:b.types=a.types){l:List (Int×Int)}(h:Hk a b l=true):∀w,(∀x∈w,Ww a x)→Tx a w=Tx b w:=by
 obtain⟨h0,hc⟩:=(Lh ha.ok hb.ok ht l).1 h;have key:∀(w:List Sy) (s:Int×Int),s∈l→(∀x∈w,Ww a x)→Tb (R3 a b) s w∈l:=by
  intro w;induction w with
  |nil=>intro s hs _;exact hs
  |cons x w ih=>intro s hs hw;exact ih _ ((hc s hs).2 x (hw x (by simp))) fun y hy=>hw y (by simp[hy])
 intro w hw;have hm:=(hc _ (key w (0,0) h0 hw)).1;rw[Yr]at hm;rw[ha.acc hw,hb.acc fun x hx=>(R7 ht).2 (hw x hx)];unfold X7 at hm;exact beq_iff_eq.1 hm
theorem Vj{a b:Aut}(ha:Dfa a)(hb:Dfa b)(ht:b.types=a.types)(hn:(Hg a b neB).1=none):Hk a b (En (T6 a b))=true:=by
 have da:Dta a:=⟨ha.ok,ha.det⟩
 have db:Dta b:=⟨hb.ok,hb.det⟩
 obtain⟨_,_,hr⟩:=P3 da db ht hn;have z1:∀v,(∀x∈v,Ww a x)→wnd neB a b v=false:=by
  rcases Tw da db ht neB with⟨w,L,h1,_⟩|⟨L,_,_,_,_,h2⟩
  ·rw[h1]at hn;cases hn
  ·exact h2
 rw[Lh ha.ok hb.ok ht];refine⟨by rw[W5,hr];exact⟨[],by simp,rfl⟩,fun s hs=> ?_⟩;rw[W5,hr]at hs;obtain⟨v,hv,e⟩:=hs;refine⟨?_,fun y hy=> ?_⟩
 ·have:=z1 v hv;unfold wnd neB at this;rw[ha.acc hv,hb.acc fun x hx=>(R7 ht).2 (hv x hx)]at this;rw[Yr]at e;rw[←e];unfold X7;unfold q0d at this;simpa using this
 ·rw[W5,hr];refine⟨v++[y],fun x hx=>(zO.1 hx).elim (hv x) (fun k=>by rw[zI.1 k];exact hy),?_⟩;rw[←e];simp[Tb,xP]
end Go.Abs
namespace Go.Abs
def q18(b:Aut)(p:Int):List Sy→Prop
 |[]=>b.fin.getD p.toNat false=true
 |x::w=>∃q,q∈Q0 b [p] x∧q18 b q w
theorem H4{b:Aut}{l:List Int}{x:Sy}{q:Int}:q∈Q0 b l x↔∃p∈l,q∈Q0 b [p] x:=by
 rw[Wu];constructor
 ·rintro⟨h0,m,hm,h1,h2,h3⟩;exact⟨m.src,h1,Wu.2 ⟨h0,m,hm,by simp,h2,h3⟩⟩
 ·rintro⟨p,hp,hq⟩;obtain⟨h0,m,hm,h1,h2,h3⟩:=Wu.1 hq;rw[zI]at h1;exact⟨h0,m,hm,by rw[h1];exact hp,h2,h3⟩
theorem Cg(b:Aut):∀(w:List Sy) (l:List Int),Iu b (I1 b l w)=true↔∃p∈l,q18 b p w
 |[],l=>by show Iu b l=true↔_;unfold Iu;rw[wQ];exact Iff.rfl
 |x::w,l=>by
  show Iu b (I1 b (Q0 b l x) w)=true↔_;rw[Cg b w];constructor
  ·rintro⟨q,hq,h⟩;obtain⟨p,hp,z1⟩:=H4.1 hq;exact⟨p,hp,q,z1,h⟩
  ·rintro⟨p,hp,q,hq,h⟩;exact⟨q,H4.2 ⟨p,hp,hq⟩,h⟩
def dB(a b:Aut)(s:Int×List Int)(d:Nat):Prop:=∃w:List Sy,w.length=d∧(∀x∈w,Ww a x)∧q18 b s.1 w∧Iu a (I1 a s.2 w)=false
def mB(a b:Aut)(s:Int×List Int)(d:Nat):Prop:=dB a b s d∧∀k,k<d→¬dB a b s k
theorem v1o{a b:Aut}{s:Int×List Int}{d k:Nat}(h:mB a b s d)(h':mB a b s k):d=k:=by
 rcases vZ d k with hlt|e|hlt
 ·exact absurd h.1 (h'.2 d hlt)
 ·exact e
 ·exact absurd h'.1 (h.2 k hlt)
theorem d1h{a b:Aut}{s:Int×List Int}:∀(d:Nat),dB a b s d→∃k,k≤d∧mB a b s k:=by
 intro d;induction d using Nat.strongRecOn with
 |_ d ih=>
  intro h;by_cases hk:∃k,k<d∧dB a b s k
  ·obtain⟨k,h1,h2⟩:=hk;obtain⟨j,h3,h4⟩:=ih k h1 h2;exact⟨j,by omega,h4⟩
  ·exact⟨d,zL _,h,fun k h1 h2=>hk ⟨k,h1,h2⟩⟩
def gB(b:Aut)(Q:List (List Int))(s:Int×List Int):Prop:=inS b s.1∧(s.2=[]∨s.2∈Q)
section
variable {a b:Aut} {Q:List (List Int)} (hst:∀l∈Q,∀x,Ww a x→Q0 a l x=[]∨Q0 a l x∈Q)
include hst
theorem u1j{s:Int×List Int}(hs:gB b Q s){d:Nat}(h:mB a b s (d+1)):∃s',gB b Q s'∧mB a b s' d:=by
 obtain⟨⟨w,hw,ho,h1,h2⟩,z1⟩:=h;cases w with
 |nil=>cases hw
 |cons x w=>
  obtain⟨q,hq,h3⟩:=h1;have hx:=ho x (by simp);refine⟨(q,Q0 a s.2 x),⟨⟨(Yg q hq).1,(Yg q hq).2⟩,?_⟩,⟨w,by simpa using hw,fun y hy=>ho y (by simp[hy]),h3,h2⟩,fun k hk hd=> ?_⟩
  ·rcases hs.2 with h|h
   ·rw[h];exact .inl (Kp a x)
   ·exact hst _ h x hx
  ·obtain⟨v,hv,z6,v1,v2⟩:=hd;exact z1 (k+1) (by omega) ⟨x::v,by simp[hv],fun y hy=>(zT.1 hy).elim (fun e=>by rw[e];exact hx) (z6 y),⟨q,hq,v1⟩,v2⟩
theorem y17:∀(k d:Nat) (s:Int×List Int),gB b Q s→mB a b s (d+k)→∃s',gB b Q s'∧mB a b s' d
 |0,_,s,hs,h=>⟨s,hs,h⟩
 |k+1,d,s,hs,h=>by obtain⟨s',h1,h2⟩:=u1j hst hs (d:=d+k) h;exact y17 k d s' h1 h2
theorem w1u{s:Int×List Int}(hs:gB b Q s){d:Nat}(h:mB a b s d):d+1≤b.fin.length * (Q.length+1):=by
 have hex:∀k,∃t:Int×List Int,k≤d→gB b Q t∧mB a b t k:=fun k=>by
  by_cases hk:k≤d
  ·obtain⟨t,h1,h2⟩:=y17 hst (d - k) k s hs (by rw[show k+(d - k)=d by omega];exact h);exact⟨t,fun _=>⟨h1,h2⟩⟩
  ·exact⟨s,fun h=>absurd h hk⟩
 obtain⟨f,hf⟩:=Classical.axiomOfChoice hex;have hU:∀t,gB b Q t→t∈(Wt b.fin.length).flatMap fun i=>([]::Q).map fun j=>(i,j):=fun t ht=>
  xL.2 ⟨t.1,Wz.2 ht.1,zK.2 ⟨t.2,zT.2 ht.2,rfl⟩⟩
 have hlen:((Wt b.fin.length).flatMap fun i=>([]::Q).map fun j=>(i,j)).length=b.fin.length * (Q.length+1):=by rw[vC,xN (g:=fun _=>Q.length+1) (fun i _=>by simp),vH,wX];simp[Wt]
 have hn:((yD (d+1)).map f).Nodup:=by unfold List.Nodup;rw[xM];refine(List.nodup_range (n:=d+1)).imp_of_mem fun {i j} hi hj hij e=> ?_;have h1:=(hf i (by have:=yL.1 hi;omega)).2;have h2:=(hf j (by have:=yL.1 hj;omega)).2;rw[e]at h1;exact hij (v1o h1 h2)
 have:=hn.length_le_of_subset (l₂:=(Wt b.fin.length).flatMap fun i=>([]::Q).map fun j=>(i,j)) fun t ht=>by obtain⟨i,hi,rfl⟩:=zK.1 ht;exact hU _ (hf i (by have:=yL.1 hi;omega)).1
 rw[zV,List.length_range,hlen]at this;exact this
end
theorem g0t{v w:List Sy}(h:lle v w):v.length≤w.length:=by
 rcases h with rfl|h|h
 ·exact zL _
 ·omega
 ·omega
def x1l(x y:Bool):Bool:=y && !x
end Go.Abs
namespace Go.Abs
def w21:List Iv→List Iv→Option Int
 |x::l,y::m=>if max x.lo y.lo≤min x.hi y.hi then some (max x.lo y.lo)else if x.hi<y.hi then w21 l (y::m)else w21 (x::l) m
 |_,_=>none
termination_by l m=>l.length+m.length
theorem c1k{x:Iv}{l:List Iv}(h:Sep (x::l)):∀n,M l n→x.hi<n:=by rintro n ⟨y,hy,h1,h2⟩;have:=(z_.1 h.2).1 y hy;omega
theorem Y8{x:Iv}{l:List Iv}{n:Int}:M (x::l) n↔(x.lo≤n∧n≤x.hi)∨M l n:=by
 constructor
 ·rintro⟨y,hy,h⟩;rcases zT.1 hy with rfl|hy
  ·exact .inl h
  ·exact .inr ⟨y,hy,h⟩
 ·rintro(h|⟨y,hy,h⟩)
  ·exact⟨x,by simp,h⟩
  ·exact⟨y,by simp[hy],h⟩
theorem u01{n:Int}:¬M [] n:=by rintro⟨y,hy,_⟩;cases hy
theorem d01{x:Iv}{l:List Iv}(h:Sep (x::l)):Sep l:=⟨fun y hy=>h.1 y (by simp[hy]),(z_.1 h.2).2⟩
def lqB(p q:Prd):Nat→Nat→Option Sy
 |0,_=>none
 |f+1,t=>match w21 (p.getD t []) (q.getD t [])with
  |some n=>some ⟨t,n⟩
  |none=>lqB p q f (t+1)
def C7(p q:Prd):Option Sy:=if Wk (We p q)then none else some (Qn (We p q))
theorem Kk{p:Prd}{t:Nat}{n:Int}:PM p t n↔M (p.getD t []) n:=by
 constructor
 ·rintro⟨s,hs,h⟩;simpa[yT,hs]using h
 ·intro h;by_cases ht:t<p.length
  ·rw[Wx ht]at h;exact⟨_,List.getElem?_eq_getElem ht,h⟩
  ·rw[show p.getD t []=[] by simp[yT,List.getElem?_eq_none (by omega:p.length≤t)]]at h;exact absurd h u01
end Go.Abs
namespace Go.Abs
def Tl(a:Aut):Int:=if Wj a≠0 then Wj a else if K8 a=false∨Px a=false then 3 else 0
theorem Ug(a:Aut):Tl a=0↔Dfa a:=by
 unfold Tl;by_cases h:Wj a=0
 ·have z1:=(Ob a).1 h;rw[if_neg (fun k=>k h)];have h1:=Nh z1.wfA;have h2:Px a=true↔w1v a:=by rw[←q1i z1.wfA,C4];unfold Px;rw[zP];simp only[yL];exact forall_congr' fun s=>forall_congr' fun _=>by rw[x1q z1.wfA]
  constructor
  ·intro k;split at k
   ·cases k
   ·rename_i hn;refine⟨z1,h1.1 ?_,h2.1 ?_⟩
    ·cases hs:K8 a
     ·exact absurd (.inl hs) hn
     ·rfl
    ·cases hs:Px a
     ·exact absurd (.inr hs) hn
     ·rfl
  ·intro k;rw[if_neg];rintro(hs|hs)
   ·rw[h1.2 k.det]at hs;cases hs
   ·rw[h2.2 k.full]at hs;cases hs
 ·rw[if_pos h];exact⟨fun k=>absurd k h,fun k=>absurd ((Ob a).2 k.ok) h⟩
end Go.Abs
namespace Go.Abs
open Go Go.Proofs
attribute [simp] T68 T70 T87 T73 T23 T22 T25 T52 T26 T88
@[simp] def encP (p:Prd):AV:= .agg [.list (p.map encL)]
abbrev LP (l:List Prd):AV:= .list (l.map encP)
@[simp] def encSy (x:Sy):AV:= .agg [.i x.ty,.i x.num]
@[simp] def encMv (m:Mv):AV:= .agg [.i m.src,.i m.dst,.list (m.on.map encL)]
@[simp] def encA (a:Aut):AV:= .agg [.i a.types,.list (a.fin.map .bool),.list (a.mv.map encMv)]
attribute [local irreducible] ckR
theorem Fb(T:Int)(p:Prd):PC Tryz.prog 58 [.i T,encP p] (fun r=>r= .i (E8 T p)):=by
 refine Qh tOk Tryz.func58 rfl Tryz.results58 rfl (by simp[Tryz.ntmps58]) ?_;rw[Tryz.ntmps58];simp only[Qe];simp only[encP];refine Wn 1 0 rfl rfl (fun hlen=> ?_);rw[zV]at hlen;repeat first|(refine r_ ?_;simp)|refine q_ ?_
 refine Qa rfl (fun h=> ?_) (fun h=> ?_)
 ·repeat first|(refine r_ ?_;simp)|refine q_ ?_
  rw[E8,if_pos (by simpa using h)]
 have h':¬(T<1∨16<T):=by simpa using h
 repeat first|(refine r_ ?_;simp)|refine q_ ?_
 refine Qa rfl (fun h2=> ?_) (fun h2=> ?_)
 ·repeat first|(refine r_ ?_;simp)|refine q_ ?_
  rw[E8,if_neg h',if_pos (by simpa using h2)]
 have z7:(p.length:Int)=T:=by simpa using h2
 have hE:E8 T p=z0p p:=by rw[E8,if_neg h',if_neg (by simpa using z7)]
 rw[hE];repeat first|(refine r_ ?_;simp)|refine q_ ?_
 refine Qt p.length (fun j=>z0p p=z0p (p.drop j)) (fun j=>[(22,.list (p.map encL)),(23,.i p.length),(24,.i j)]) (fun _=>[]) rfl (by simp) (by simp) (by simp) (by simp) (by simp) ?_;intro j hj hI ih;repeat first|(refine r_ ?_;simp)|refine q_ ?_
 refine Qa rfl (fun z8=> ?_) (fun za=> ?_)
 ·have z1:j<p.length:=by simpa using z8
  have hw:IntKind.i64.wrap ((j:Int)+1)=j+1:=wrap_i64 _ (by omega) (by omega);rw[Wq z1,z0p]at hI;repeat first|(refine r_ ?_;simp[z1])|refine q_ ?_
  refine Qd rfl rfl (by simp) (q0o p[j]) rfl ?_;rintro _ rfl;simp;repeat first|(refine r_ ?_;simp)|refine q_ ?_
  refine Qa rfl (fun h3=> ?_) (fun h3=> ?_)
  ·repeat first|(refine r_ ?_;simp)|refine q_ ?_
   rw[hI,if_pos (by simpa using h3)]
  rw[if_neg (by simpa using h3)]at hI;repeat first|(refine r_ ?_;simp[hw])|refine q_ ?_
  refine Qq _ (ih z1 hI) rfl (by simp) ?_ (by simp) (by simp);simp
 ·have z6:j=p.length:=by simp at za;omega
  subst z6;repeat first|(refine r_ ?_;simp)|refine q_ ?_
  rw[hI,yY];rfl
theorem w0d(T:Int)(p:Prd):PC Tryz.prog 158 [.i T,encP p] (fun r=>r= .i (E8 T p)):=by
 refine Qh tOk Tryz.func158 rfl Tryz.results158 rfl (by simp[Tryz.ntmps158]) ?_;rw[Tryz.ntmps158];simp only[Qe];simp only[encP];refine Wn 1 0 rfl rfl (fun hlen=> ?_);rw[zV]at hlen;repeat first|(refine r_ ?_;simp)|refine q_ ?_
 refine Qa rfl (fun h=> ?_) (fun h=> ?_)
 ·repeat first|(refine r_ ?_;simp)|refine q_ ?_
  rw[E8,if_pos (by simpa using h)]
 have h':¬(T<1∨16<T):=by simpa using h
 repeat first|(refine r_ ?_;simp)|refine q_ ?_
 refine Qa rfl (fun h2=> ?_) (fun h2=> ?_)
 ·repeat first|(refine r_ ?_;simp)|refine q_ ?_
  rw[E8,if_neg h',if_pos (by simpa using h2)]
 have z7:(p.length:Int)=T:=by simpa using h2
 have hE:E8 T p=z0p p:=by rw[E8,if_neg h',if_neg (by simpa using z7)]
 rw[hE];repeat first|(refine r_ ?_;simp)|refine q_ ?_
 refine Qt p.length (fun j=>z0p p=z0p (p.drop j)) (fun j=>[(0,.i T),(3,.vptr 0 0),(5,.i j)]) (fun _=>[.vars [.list (p.map encL)]]) rfl (by simp) (by simp) (by simp) (by simp) (by simp) ?_;intro j hj hI ih;repeat first|(refine r_ ?_;simp)|refine q_ ?_
 refine Qa rfl (fun z8=> ?_) (fun za=> ?_)
 ·have z1:j<p.length:=by have k:(j:Int)<T:=(by simpa using z8);omega
  have hw:IntKind.i64.wrap ((j:Int)+1)=j+1:=wrap_i64 _ (by omega) (by omega);rw[Wq z1,z0p]at hI;repeat first|(refine r_ ?_;simp[z1])|refine q_ ?_
  refine Qd rfl rfl (by simp) (u0w p[j]) rfl ?_;rintro _ rfl;simp;repeat first|(refine r_ ?_;simp)|refine q_ ?_
  refine Qa rfl (fun h3=> ?_) (fun h3=> ?_)
  ·repeat first|(refine r_ ?_;simp)|refine q_ ?_
   rw[hI,if_pos (by simpa using h3)]
  rw[if_neg (by simpa using h3)]at hI;repeat first|(refine r_ ?_;simp[hw])|refine q_ ?_
  refine Qq _ (ih z1 hI) rfl (by simp) ?_ (by simp) (by simp);simp
 ·have z6:j=p.length:=by have k:¬(j:Int)<T:=(by simpa using za);omega
  subst z6;repeat first|(refine r_ ?_;simp)|refine q_ ?_
  rw[hI,yY];rfl
end Go.Abs
namespace Go.Abs
open Go Go.Proofs
def Hi:List Prd→Int
 |[]=>0
 |p::r=>if E8 p.length p≠0 then E8 p.length p else Hi r
attribute [local irreducible] E8
theorem H8(l:List Prd):PC Tryz.prog 102 [LP l] (fun r=>r= .i (Hi l)):=by
 refine Qh tOk Tryz.func102 rfl Tryz.results102 rfl (by simp[Tryz.ntmps102]) ?_;rw[Tryz.ntmps102];simp only[Qe];refine Rp 0 rfl (fun hlen=> ?_);rw[zV]at hlen;repeat first|(refine r_ ?_;simp)|refine q_ ?_
 refine Qt l.length (fun j=>Hi l=Hi (l.drop j)) (fun j=>[(6,LP l),(7,.i l.length),(8,.i j)]) (fun _=>[]) rfl (by simp) (by simp) (by simp) (by simp) (by simp) ?_;intro j hj hI ih;repeat first|(refine r_ ?_;simp)|refine q_ ?_
 refine Qa rfl (fun z7=> ?_) (fun z8=> ?_)
 ·have z1:j<l.length:=by simpa using z7
  have hw:IntKind.i64.wrap ((j:Int)+1)=j+1:=wrap_i64 _ (by omega) (by omega);rw[Wq z1,Hi]at hI;repeat first|(refine r_ ?_;simp[z1])|refine q_ ?_
  refine Qd rfl rfl (by simp) (Fb l[j].length l[j]) rfl ?_;rintro _ rfl;simp;repeat first|(refine r_ ?_;simp)|refine q_ ?_
  refine Qa rfl (fun h3=> ?_) (fun h3=> ?_)
  ·repeat first|(refine r_ ?_;simp)|refine q_ ?_
   rw[hI,if_pos (by simpa using h3)]
  rw[if_neg (by simpa using h3)]at hI;repeat first|(refine r_ ?_;simp[hw])|refine q_ ?_
  refine Qq _ (ih z1 hI) rfl (by simp) ?_ (by simp) (by simp);simp
 ·have z6:j=l.length:=by simp at z8;omega
  subst z6;repeat first|(refine r_ ?_;simp)|refine q_ ?_
  rw[hI,yY];rfl
def f0e(p:Prd)(x:Sy):Int:=if Hi [p]≠0 then Hi [p]else Ga p.length x
def Zq(p:Prd)(x:Sy):Bool×Int:=if f0e p x≠0 then(false,f0e p x)else(Rc p x,0)
attribute [local irreducible] Hi z1w
theorem x1f{T:Int}{p:Prd}(h:E8 T p=0):Hi [p]=0∧(p.length:Int)=T:=by
 obtain⟨h1,h2⟩:=(Ed T p).1 h;have hl:(p.length:Int)=T:=by have:=h2.1;omega
 exact⟨by unfold Hi;rw[hl,if_neg (fun k=>k h)];unfold Hi;rfl,hl⟩
theorem u0d{p:Prd}(h:Hi [p]=0):∀s∈p,CanonL s:=by
 unfold Hi at h;by_cases hc:E8 p.length p=0
 ·exact((Ed _ p).1 hc).2.2
 ·rw[if_pos hc]at h;exact absurd h hc
theorem Td(p:Prd)(x:Sy):PC Tryz.prog 43 [encP p,encSy x] (fun r=>r= .tup [.bool (Zq p x).1,.i (Zq p x).2]):=by
 refine Qh tOk Tryz.func43 rfl Tryz.results43 rfl (by simp[Tryz.ntmps43]) ?_;rw[Tryz.ntmps43];simp only[Qe];simp only[encP,encSy];refine Wn 0 0 rfl rfl (fun hlen=> ?_);rw[zV]at hlen;repeat first|(refine r_ ?_;simp)|refine q_ ?_
 refine Ib 2 rfl ?_;simp;refine Qd rfl rfl (by simp) (H8 [p]) rfl ?_;rintro _ rfl;simp;repeat first|(refine r_ ?_;simp)|refine q_ ?_
 refine Qa rfl (fun h=> ?_) (fun h=> ?_)
 ·repeat first|(refine r_ ?_;simp)|refine q_ ?_
  have h':Hi [p]≠0:=by simpa using h
  have hE:f0e p x=Hi [p]:=by rw[f0e,if_pos h']
  rw[Zq,hE,if_pos h'];exact⟨rfl,rfl⟩
 have h':Hi [p]=0:=by simpa using h
 have hE:f0e p x=Ga p.length x:=by rw[f0e,if_neg (fun k=>k h')]
 repeat first|(refine r_ ?_;simp)|refine q_ ?_
 refine Qa rfl (fun h1=> ?_) (fun h1=> ?_)
 ·repeat first|(refine r_ ?_;simp)|refine q_ ?_
  have z6:x.ty<0∨(p.length:Int)≤x.ty:=by simpa using h1
  have z1:f0e p x=6:=by rw[hE,Ga,if_pos z6]
  rw[Zq,z1];exact⟨rfl,rfl⟩
 have z6:¬(x.ty<0∨(p.length:Int)≤x.ty):=by simpa using h1
 repeat first|(refine r_ ?_;simp)|refine q_ ?_
 refine Qa rfl (fun h2=> ?_) (fun h2=> ?_)
 ·repeat first|(refine r_ ?_;simp)|refine q_ ?_
  have z7:x.num< -1099511627776∨1099511627776<x.num:=by simpa using h2
  have z1:f0e p x=2:=by rw[hE,Ga,if_neg z6,if_pos z7]
  rw[Zq,z1];exact⟨rfl,rfl⟩
 have z7:¬(x.num< -1099511627776∨1099511627776<x.num):=by simpa using h2
 have z1:f0e p x=0:=by rw[hE,Ga,if_neg z6,if_neg z7]
 repeat first|(refine r_ ?_;simp)|refine q_ ?_
 have zb:0≤x.ty:=by omega
 have zc:x.ty<(p.length:Int):=by omega
 have z8:x.ty.toNat<p.length:=by omega
 refine Qk tOk mixed [] (.val 0 (.val 1 (.val 2 (.val 3 (.val 4 (.val 5 (.val 6 (.val 7 (.one 8 (.val 9 (.val 10 (.val 11 (.val 12 (.done)))))))))))))) rfl (by kernel_rfl) ?_;simp[zb,zc,z8];refine Qd rfl rfl (by simp) (Fw p[x.ty.toNat] x.num) rfl ?_;rintro _ rfl;simp;repeat first|(refine r_ ?_;simp)|refine q_ ?_
 have hc:=u0d h' _ (zG z8);have za:z1w p[x.ty.toNat] x.num=(Og p[x.ty.toNat] x.num,0):=by rw[z1w,if_pos ((Ce _).2 hc)]
 rw[Zq,z1,if_neg (fun k=>k rfl),za];refine⟨?_,rfl⟩;simp[Rc,zb,zc,yT,z8]
theorem Bt{T:Int}{p:Prd}(h:E8 T p=0)(x:Sy):Zq p x=if Ga T x≠0 then(false,Ga T x)else(Rc p x,0):=by
 obtain⟨h1,h2⟩:=x1f h;have hE:f0e p x=Ga T x:=by rw[f0e,if_neg (fun k=>k h1),h2]
 rw[Zq,hE]
end Go.Abs
namespace Go.Abs
open Go Go.Proofs
abbrev Qo (a:Aut):List AV:=[.i a.types,.list (a.fin.map .bool),.list (a.mv.map encMv)]
theorem x1p(p:Prd)(x:Sy):PC Tryz.prog 170 [encP p,encSy x] (fun r=>r= .bool ((Zq p x).2==0 && (Zq p x).1)):=by
 refine Qh tOk Tryz.func170 rfl Tryz.results170 rfl (by simp[Tryz.ntmps170]) ?_;rw[Tryz.ntmps170];simp only[Qe];simp only[encP,encSy];repeat first|(refine r_ ?_;simp)|refine q_ ?_
 refine Qd rfl rfl (by simp) (Td p x) rfl ?_;rintro _ rfl;simp;repeat first|(refine r_ ?_;simp)|refine q_ ?_
theorem Cp(p:Prd)(x:Sy):PC Tryz.prog 45 [encP p,encSy x] (fun r=>r= .bool ((Zq p x).1 && (Zq p x).2==0)):=by
 refine Qh tOk Tryz.func45 rfl Tryz.results45 rfl (by simp[Tryz.ntmps45]) ?_;rw[Tryz.ntmps45];simp only[Qe];simp only[encP,encSy];repeat first|(refine r_ ?_;simp)|refine q_ ?_
 refine Qd rfl rfl (by simp) (Td p x) rfl ?_;rintro _ rfl;simp;repeat first|(refine r_ ?_;simp)|refine q_ ?_
def stB(a:Aut)(n:Int):Bool:=decide (0≤n) && decide (n<a.fin.length)
theorem Zc(a:Aut)(n:Int):stB a n=true↔0≤n∧n<a.fin.length:=by simp[stB]
theorem Zi(H:List AObj)(id:Nat)(a:Aut)(hid:H[id]? =some (.vars (Qo a)))(n:Int):FC Tryz.prog 98 [.i n,.vptr id 0] H (fun r H'=>r= .bool (stB a n)∧H'=H):=by refine Eg tOk Tryz.func98 rfl Tryz.results98 rfl (by simp[Tryz.ntmps98]) ?_;rw[Tryz.ntmps98];simp only[Qe];repeat first|(refine r_ ?_;simp[hid,stB])|refine q_ ?_
attribute [local irreducible] E8 stB
theorem U1(a:Aut):PC Tryz.prog 41 [encA a] (fun r=>r= .i (Wj a)):=by
 refine Qh tOk Tryz.func41 rfl Tryz.results41 rfl (by simp[Tryz.ntmps41]) ?_;rw[Tryz.ntmps41];simp only[Qe];simp only[encA];refine Wn 0 1 rfl rfl (fun z7=> ?_);refine Wn 0 2 rfl rfl (fun z8=> ?_);rw[zV]at z7 z8;repeat first|(refine r_ ?_;simp)|refine q_ ?_
 refine Qa rfl (fun h=> ?_) (fun h=> ?_)
 ·repeat first|(refine r_ ?_;simp)|refine q_ ?_
  rw[Wj,if_pos (by simpa using h)]
 have h1:¬(a.types<1∨16<a.types):=by simpa using h
 repeat first|(refine r_ ?_;simp)|refine q_ ?_
 refine Qa rfl (fun h=> ?_) (fun h=> ?_)
 ·repeat first|(refine r_ ?_;simp)|refine q_ ?_
  rw[Wj,if_neg h1,if_pos];simp at h;omega
 have h2:¬(a.fin.length<1∨256<a.fin.length∨2048<a.mv.length):=by simp at h;omega
 have hE:Wj a=z0j a.types a.fin.length a.mv:=by rw[Wj,if_neg h1,if_neg h2]
 rw[hE];repeat first|(refine r_ ?_;simp)|refine q_ ?_
 refine Qt a.mv.length (fun j=>z0j a.types a.fin.length a.mv=z0j a.types a.fin.length (a.mv.drop j)) (fun j=>[(1,.vptr 0 0),(3,.fn (.func 98) [] [.vptr 0 0]),(33,.list (a.mv.map encMv)),(34,.i a.mv.length),(35,.i j)]) (fun _=>[.vars (Qo a)]) rfl (by simp) (by simp) (by simp) (by simp) (by simp) ?_;intro j hj hI ih;repeat first|(refine r_ ?_;simp)|refine q_ ?_
 refine Qa rfl (fun za=> ?_) (fun zb=> ?_)
 ·have z1:j<a.mv.length:=by simpa using za
  have hw:IntKind.i64.wrap ((j:Int)+1)=j+1:=wrap_i64 _ (by omega) (by omega);rw[Wq z1,z0j]at hI;repeat first|(refine r_ ?_;simp[z1])|refine q_ ?_
  cases hb:stB a a.mv[j].src with
  |false=>
   refine Wd rfl rfl (Zi _ 0 a rfl a.mv[j].src) rfl ?_;rintro r H' ⟨rfl,rfl⟩;simp[hb];repeat first|(refine r_ ?_;simp)|refine q_ ?_
   refine Q5 rfl rfl ?_;simp;refine Qs rfl ?_;repeat first|(refine r_ ?_;simp)|refine q_ ?_
   rw[hI,if_pos (fun k=>by rw[(Zc _ _).2 k.1]at hb;cases hb)]
  |true=>
   refine Wd rfl rfl (Zi _ 0 a rfl a.mv[j].src) rfl ?_;rintro r H' ⟨rfl,rfl⟩;simp[hb];repeat first|(refine r_ ?_;simp)|refine q_ ?_
   refine Wd rfl rfl (Zi _ 0 a rfl a.mv[j].dst) rfl ?_;rintro r H' ⟨rfl,rfl⟩;simp;repeat first|(refine r_ ?_;simp)|refine q_ ?_
   refine Qa rfl (fun h3=> ?_) (fun h3=> ?_)
   ·repeat first|(refine r_ ?_;simp)|refine q_ ?_
    rw[hI,if_pos (fun k=>by rw[(Zc _ _).2 k.2]at h3;cases h3)]
   have hd:stB a a.mv[j].dst=true:=by simpa using h3
   rw[if_neg (fun k=>k ⟨(Zc _ _).1 hb,(Zc _ _).1 hd⟩)]at hI;repeat first|(refine r_ ?_;simp)|refine q_ ?_
   refine Qd rfl rfl (by simp) (Fb a.types a.mv[j].on) rfl ?_;rintro _ rfl;simp;repeat first|(refine r_ ?_;simp)|refine q_ ?_
   refine Qa rfl (fun h4=> ?_) (fun h4=> ?_)
   ·repeat first|(refine r_ ?_;simp)|refine q_ ?_
    rw[hI,if_pos (by simpa using h4)]
   rw[if_neg (by simpa using h4)]at hI;repeat first|(refine r_ ?_;simp[hw])|refine q_ ?_
   refine Qq _ (ih z1 hI) rfl (by simp) ?_ (by simp) (by simp);simp
 ·have z6:j=a.mv.length:=by simp at zb;omega
  subst z6;repeat first|(refine r_ ?_;simp)|refine q_ ?_
  rw[hI,yY];rfl
theorem Sl(a:Aut):PC Tryz.prog 90 [encA a] (fun r=>r= .i (Wj a)):=by
 refine Qh tOk Tryz.func90 rfl Tryz.results90 rfl (by simp[Tryz.ntmps90]) ?_;rw[Tryz.ntmps90];simp only[Qe];simp only[encA];refine Wn 0 1 rfl rfl (fun z7=> ?_);refine Wn 0 2 rfl rfl (fun z8=> ?_);rw[zV]at z7 z8;repeat first|(refine r_ ?_;simp)|refine q_ ?_
 refine Qa rfl (fun h=> ?_) (fun h=> ?_)
 ·repeat first|(refine r_ ?_;simp)|refine q_ ?_
  rw[Wj,if_pos (by simpa using h)]
 have h1:¬(a.types<1∨16<a.types):=by simpa using h
 repeat first|(refine r_ ?_;simp)|refine q_ ?_
 refine Qa rfl (fun h=> ?_) (fun h=> ?_)
 ·repeat first|(refine r_ ?_;simp)|refine q_ ?_
  rw[Wj,if_neg h1,if_pos];simp at h;omega
 have h2:¬(a.fin.length<1∨256<a.fin.length∨2048<a.mv.length):=by simp at h;omega
 have hE:Wj a=z0j a.types a.fin.length a.mv:=by rw[Wj,if_neg h1,if_neg h2]
 rw[hE];repeat first|(refine r_ ?_;simp)|refine q_ ?_
 refine Qt a.mv.length (fun j=>z0j a.types a.fin.length a.mv=z0j a.types a.fin.length (a.mv.drop j)) (fun j=>[(1,.vptr 0 0),(3,.i a.fin.length),(4,.i j)]) (fun _=>[.vars (Qo a)]) rfl (by simp) (by simp) (by simp) (by simp) (by simp) ?_;intro j hj hI ih;repeat first|(refine r_ ?_;simp)|refine q_ ?_
 refine Qa rfl (fun za=> ?_) (fun zb=> ?_)
 ·have z1:j<a.mv.length:=by simpa using za
  have hw:IntKind.i64.wrap ((j:Int)+1)=j+1:=wrap_i64 _ (by omega) (by omega);rw[Wq z1,z0j]at hI;repeat first|(refine r_ ?_;simp[z1])|refine q_ ?_
  refine Qa rfl (fun h3=> ?_) (fun h3=> ?_)
  ·repeat first|(refine r_ ?_;simp)|refine q_ ?_
   rw[hI,if_pos];simp at h3;omega
  rw[if_neg (by simp at h3 ⊢;omega)]at hI;repeat first|(refine r_ ?_;simp)|refine q_ ?_
  refine Qd rfl rfl (by simp) (w0d a.types a.mv[j].on) rfl ?_;rintro _ rfl;simp;repeat first|(refine r_ ?_;simp)|refine q_ ?_
  refine Qa rfl (fun h4=> ?_) (fun h4=> ?_)
  ·repeat first|(refine r_ ?_;simp)|refine q_ ?_
   rw[hI,if_pos (by simpa using h4)]
  rw[if_neg (by simpa using h4)]at hI;repeat first|(refine r_ ?_;simp[hw])|refine q_ ?_
  refine Qq _ (ih z1 hI) rfl (by simp) ?_ (by simp) (by simp);simp
 ·have z6:j=a.mv.length:=by simp at zb;omega
  subst z6;repeat first|(refine r_ ?_;simp)|refine q_ ?_
  rw[hI,yY];rfl
end Go.Abs
namespace Go.Abs
open Go Go.Proofs
attribute [local irreducible] ckR Og
theorem j1q(l:List Iv)(n:Int)(hl:l.length≤1000000000):PC Tryz.prog 247 [LIv l,.i n] (fun r=>r= .bool (Og l n)):=by
 refine Qh tOk Tryz.func247 rfl Tryz.results247 rfl (by simp[Tryz.ntmps247]) ?_;rw[Tryz.ntmps247];simp only[Qe];obtain⟨R,hR⟩:∃R,Og l n=R:=⟨_,rfl⟩
 rw[hR];repeat first|(refine r_ ?_;simp)|refine q_ ?_
 refine Qt l.length (fun j=>Og (l.drop j) n=R) (fun j=>[(0,LIv l),(1,.i n),(5,.i j)]) (fun _=>[]) rfl (by simp) (by simp) (by simp) (by simp) (by simpa using hR) ?_;intro j hj hI ih;repeat first|(refine r_ ?_;simp)|refine q_ ?_
 refine Qa rfl (fun z7=> ?_) (fun z8=> ?_)
 ·have z1:j<l.length:=by simpa using z7
  have hw:IntKind.i64.wrap ((j:Int)+1)=j+1:=wrap_i64 _ (by omega) (by omega);rw[Wq z1,c0u]at hI;by_cases h1:l[j].lo≤n
  ·by_cases h2:n≤l[j].hi
   ·rw[(V0 ..).2 ⟨h1,h2⟩,Bool.true_or]at hI;repeat first|(refine r_ ?_;simp[z1,h1,h2])|refine q_ ?_
    refine Qs rfl ?_;repeat first|(refine r_ ?_;simp)|refine q_ ?_
    exact hI.symm
   ·have h3:inI l[j].lo l[j].hi n=false:=by rw[wU,Ne,V0];omega
    rw[h3,tB]at hI;repeat first|(refine r_ ?_;simp[z1,h1,h2])|refine q_ ?_
    refine Qs rfl ?_;repeat first|(refine r_ ?_;simp[hw])|refine q_ ?_
    exact Qq _ (ih z1 hI) rfl (by simp) (by simp) (by simp) (by simp)
  ·have h3:inI l[j].lo l[j].hi n=false:=by rw[wU,Ne,V0];omega
   rw[h3,tB]at hI;repeat first|(refine r_ ?_;simp[z1,h1])|refine q_ ?_
   refine Qs rfl ?_;repeat first|(refine r_ ?_;simp[hw])|refine q_ ?_
   exact Qq _ (ih z1 hI) rfl (by simp) (by simp) (by simp) (by simp)
 ·have z6:j=l.length:=by simp at z8;omega
  subst z6;rw[yY]at hI;repeat first|(refine r_ ?_;simp)|refine q_ ?_
  rw[←hI];unfold Og;rfl
theorem u14(x y:Iv)(b:List Iv):(y::b).filterMap (Oc x)=(Oc x y).toList++b.filterMap (Oc x):=by cases h:Oc x y<;>simp[h]
def j1v(x:Iv)(b:List Iv):List Iv:=b.filterMap (Oc x)
theorem By(x:Iv)(a b:List Iv):Ep (x::a) b=j1v x b++Ep a b:=rfl
theorem q1f(x y:Iv)(b:List Iv):j1v x (y::b)=(Oc x y).toList++j1v x b:=u14 x y b
theorem k10(x:Iv):j1v x []=[]:=rfl
theorem u0g(b:List Iv):Ep [] b=[]:=rfl
attribute [local irreducible] Ep j1v E6
theorem w1w(a b:List Iv)(ha:a.length≤1000000000)(hb:b.length≤1000000000)(hP:(Ep a b).length≤1000000000)(ze:∀y∈Ep a b,O3 y):PC Tryz.prog 218 [LIv a,LIv b] (fun r=>r=LIv (E6 (Ep a b))):=by
 refine Qh tOk Tryz.func218 rfl Tryz.results218 rfl (by simp[Tryz.ntmps218]) ?_;rw[Tryz.ntmps218];simp only[Qe];repeat first|(refine r_ ?_;simp)|refine q_ ?_
 refine Q6 5 144 2 rfl ?_;simp;repeat first|(refine r_ ?_;simp)|refine q_ ?_
 refine Qm (Qb (sl':=[(0,LIv a),(1,LIv b),(5,.sl 0 2 0 0),(6,.i 0)]) ?_ (by simp));refine Ql (F:=fun(u:Nat×Nat×List Iv×List AObj)=>⟨[(0,LIv a),(1,LIv b),(5,.sl u.2.1 2 0 u.2.2.1.length),(6,.i u.1)],u.2.2.2⟩)
  (fun u=>u.1≤a.length∧u.2.2.2[u.2.1]? =some (.arr 144 2 (u.2.2.1.map encIv))∧u.2.2.1++Ep (a.drop u.1) b=Ep a b) (fun u=>a.length - u.1) ?_ (0,0,[],[.arr 144 2 []]) ⟨by simp,rfl,by simp⟩
 rintro⟨j,q,acc,H2⟩ ⟨hj,g1,g2⟩ ih;simp only at hj g1 g2 ih ⊢;repeat first|(refine r_ ?_;simp)|refine q_ ?_
 refine Qa rfl (fun zf=> ?_) (fun zg=> ?_)
 ·have z6:j<a.length:=by simpa using zf
  have hw:IntKind.i64.wrap ((j:Int)+1)=j+1:=wrap_i64 _ (by omega) (by omega);rw[Wq z6,By]at g2;repeat first|(refine r_ ?_;simp)|refine q_ ?_
  refine Qm (Qb (sl':=[(0,LIv a),(1,LIv b),(5,.sl q 2 0 acc.length),(6,.i j),(7,.i 0)]) ?_ (by simp));refine Ql (F:=fun(u:Nat×Nat×List Iv×List AObj)=>⟨[(0,LIv a),(1,LIv b),(5,.sl u.2.1 2 0 u.2.2.1.length),(6,.i j),(7,.i u.1)],u.2.2.2⟩)
   (fun u=>u.1≤b.length∧u.2.2.2[u.2.1]? =some (.arr 144 2 (u.2.2.1.map encIv))∧u.2.2.1++(j1v a[j] (b.drop u.1)++Ep (a.drop (j+1)) b)=Ep a b) (fun u=>b.length - u.1) ?_ (0,q,acc,H2) ⟨by simp,g1,by simpa using g2⟩
  rintro⟨k,q1,acc1,H3⟩ ⟨hk,e1,e2⟩ ih1;simp only at hk e1 e2 ih1 ⊢;repeat first|(refine r_ ?_;simp)|refine q_ ?_
  refine Qa rfl (fun z8=> ?_) (fun za=> ?_)
  ·have z1:k<b.length:=by simpa using z8
   have zc:IntKind.i64.wrap ((k:Int)+1)=k+1:=wrap_i64 _ (by omega) (by omega);rw[Wq z1,q1f]at e2;have zh:acc1.length≤1000000000:=by have:=congrArg vN e2;simp only[zW]at this;omega
   obtain⟨lo,hlo⟩:∃z,(if a[j].lo<b[k].lo then b[k].lo else a[j].lo)=z:=⟨_,rfl⟩
   obtain⟨hi,zd⟩:∃z,(if b[k].hi<a[j].hi then b[k].hi else a[j].hi)=z:=⟨_,rfl⟩
   have hm:Oc a[j] b[k]=if lo≤hi then some ⟨lo,hi⟩else none:=by simp only[Oc,hlo,zd]
   rw[hm]at e2;repeat first|(refine r_ ?_;simp[z6,z1])|refine q_ ?_
   refine Qk tOk mixed [] (.val 0 (.val 1 (.val 2 (.val 3 (.val 4 (.val 5 (.val 6 (.val 7 (.val 8 (.val 9 (.val 10 (.val 11 (.val 12 (.val 13 (.val 14 (.val 15 (.val 16 (.val 17 (.val 18 (.val 19 (.val 20 (.val 21 (.val 22 (.val 23 (.done))))))))))))))))))))))))) rfl (by kernel_rfl) ?_;simp[z6,z1,hlo,zd];repeat first|(refine r_ ?_;simp)|refine q_ ?_
   refine Qa rfl (fun h3=> ?_) (fun h3=> ?_)
   ·rw[if_pos (by simpa using h3)]at e2;repeat first|(refine r_ ?_;simp)|refine q_ ?_
    refine Qf tOk rfl rfl Au rfl He rfl (by decide) (by decide) rfl rfl rfl ?_;simp[Qc e1,Qj e1];refine⟨by simp[Wp,Qc e1,Qj e1]<;>omega,?_⟩;repeat first|(refine r_ ?_;simp[zc])|refine q_ ?_
    exact Qb (sl':=[(0,LIv a),(1,LIv b),(5,.sl (H3.length+1) 2 0 (acc1.length+1)),(6,.i j),(7,.i (k+1:Nat))]) (by
     have:=ih1 (k+1,H3.length+1,acc1++[(⟨lo,hi⟩:Iv)],H3.set q1 .dead++[.arr 144 2 [encIv (⟨lo,hi⟩:Iv)],.arr 144 2 ((acc1++[(⟨lo,hi⟩:Iv)]).map encIv)]) ⟨by simp;omega,by simp only;rw[zC (by simp)];simp,by simpa using e2⟩ (by simp;omega);simpa using this) (by simp)
   ·rw[if_neg (by simpa using h3)]at e2;repeat first|(refine r_ ?_;simp[zc])|refine q_ ?_
    exact Qb (sl':=[(0,LIv a),(1,LIv b),(5,.sl q1 2 0 acc1.length),(6,.i j),(7,.i (k+1:Nat))]) (by
     have:=ih1 (k+1,q1,acc1,H3) ⟨by simp;omega,e1,by simpa using e2⟩ (by simp;omega);simpa using this) (by simp)
  ·have z7:k=b.length:=by simp at za;omega
   subst z7;rw[yY,k10,xW]at e2;repeat first|(refine r_ ?_;simp[hw])|refine q_ ?_
   exact Qb (sl':=[(0,LIv a),(1,LIv b),(5,.sl q1 2 0 acc1.length),(6,.i (j+1:Nat))]) (by
    have:=ih (j+1,q1,acc1,H3) ⟨by simp;omega,e1,e2⟩ (by simp;omega);simpa using this) (by simp)
 ·have zb:j=a.length:=by simp at zg;omega
  subst zb;rw[yY,u0g,xO]at g2;subst g2;repeat first|(refine r_ ?_;simp)|refine q_ ?_
  refine Ib q g1 ?_;simp;rw[zM (by simp)];refine Qd rfl rfl (by simp) (u0s (Ep a b) hP ze) rfl ?_;rintro _ rfl;simp;repeat first|(refine r_ ?_;simp)|refine q_ ?_
theorem L3(x:Iv)(r:List Iv)(n:Int):Rg (x::r) n=(if n<x.lo then [⟨n,x.lo - 1⟩]else [])++Rg r (x.hi+1):=rfl
theorem Ck(n:Int):Rg [] n=if n≤1099511627776 then [⟨n,1099511627776⟩]else []:=rfl
theorem z1y(l:List Iv):Rg l (-1099511627776)=W9 l:=rfl
attribute [local irreducible] W9 Rg
theorem C9(l:List Iv)(hs:Sep l)(hb:∀n,M l n→inR n)(hlen:l.length≤1000000000):PC Tryz.prog 252 [LIv l] (fun r=>r=LIv (W9 l)):=by
 refine Qh tOk Tryz.func252 rfl Tryz.results252 rfl (by simp[Tryz.ntmps252]) ?_;rw[Tryz.ntmps252];simp only[Qe];have ze:=(Se hs hb).2.2;repeat first|(refine r_ ?_;simp)|refine q_ ?_
 refine Q6 3 144 2 rfl ?_;simp;repeat first|(refine r_ ?_;simp)|refine q_ ?_
 refine Qm (Qb (sl':=[(0,LIv l),(3,.sl 0 2 0 0),(4,.i (-1099511627776)),(5,.i 0)]) ?_ (by simp));refine Ql (F:=fun(u:Nat×Nat×List Iv×Int×List AObj)=>⟨[(0,LIv l),(3,.sl u.2.1 2 0 u.2.2.1.length),(4,.i u.2.2.2.1),(5,.i u.1)],u.2.2.2.2⟩)
  (fun u=>u.1≤l.length∧u.2.2.2.2[u.2.1]? =some (.arr 144 2 (u.2.2.1.map encIv))∧u.2.2.1++Rg (l.drop u.1) u.2.2.2.1=W9 l) (fun u=>l.length - u.1) ?_ (0,0,[],-1099511627776,[.arr 144 2 []]) ⟨by simp,rfl,by simp[z1y]⟩
 rintro⟨j,q,acc,n,H2⟩ ⟨hj,g1,g2⟩ ih;simp only at hj g1 g2 ih ⊢;have zf:acc.length≤1000000001:=by have:=congrArg vN g2;simp only[zW]at this;omega
 repeat first|(refine r_ ?_;simp)|refine q_ ?_
 refine Qa rfl (fun z8=> ?_) (fun za=> ?_)
 ·have z1:j<l.length:=by simpa using z8
  have zb:=hb _ ⟨l[j],zG z1,yI _,hs.1 _ (zG z1)⟩;have zc:=hb _ ⟨l[j],zG z1,hs.1 _ (zG z1),yI _⟩;unfold inR at zb zc;have hw:IntKind.i64.wrap ((j:Int)+1)=j+1:=wrap_i64 _ (by omega) (by omega);have zd:IntKind.i64.wrap (l[j].lo - 1)=l[j].lo - 1:=wrap_i64 _ (by omega) (by omega);have z7:IntKind.i64.wrap (l[j].hi+1)=l[j].hi+1:=wrap_i64 _ (by omega) (by omega);rw[Wq z1,L3]at g2;repeat first|(refine r_ ?_;simp[z1])|refine q_ ?_
  refine Qa rfl (fun h3=> ?_) (fun h3=> ?_)
  ·rw[if_pos (by simpa using h3)]at g2;repeat first|(refine r_ ?_;simp[z1,zd])|refine q_ ?_
   refine Qf tOk rfl rfl Au rfl He rfl (by decide) (by decide) rfl rfl rfl ?_;simp[Qc g1,Qj g1];refine⟨by simp[Wp,Qc g1,Qj g1]<;>omega,?_⟩;repeat first|(refine r_ ?_;simp[z1,hw,z7])|refine q_ ?_
   exact Qb (sl':=[(0,LIv l),(3,.sl (H2.length+1) 2 0 (acc.length+1)),(4,.i (l[j].hi+1)),(5,.i (j+1:Nat))]) (by
    have:=ih (j+1,H2.length+1,acc++[(⟨n,l[j].lo - 1⟩:Iv)],l[j].hi+1,H2.set q .dead++[.arr 144 2 [encIv (⟨n,l[j].lo - 1⟩:Iv)],.arr 144 2 ((acc++[(⟨n,l[j].lo - 1⟩:Iv)]).map encIv)]) ⟨by simp;omega,by simp only;rw[zC (by simp)];simp,by simpa using g2⟩ (by simp;omega);simpa using this) (by simp)
  ·rw[if_neg (by simpa using h3)]at g2;repeat first|(refine r_ ?_;simp[z1,hw,z7])|refine q_ ?_
   exact Qb (sl':=[(0,LIv l),(3,.sl q 2 0 acc.length),(4,.i (l[j].hi+1)),(5,.i (j+1:Nat))]) (by
    have:=ih (j+1,q,acc,l[j].hi+1,H2) ⟨by simp;omega,g1,by simpa using g2⟩ (by simp;omega);simpa using this) (by simp)
 ·have z6:j=l.length:=by simp at za;omega
  subst z6;rw[yY,Ck]at g2;repeat first|(refine r_ ?_;simp)|refine q_ ?_
  refine Qa rfl (fun h3=> ?_) (fun h3=> ?_)
  ·rw[if_pos (by simpa using h3)]at g2;rw[←g2];repeat first|(refine r_ ?_;simp)|refine q_ ?_
   refine Qf tOk rfl rfl Au rfl He rfl (by decide) (by decide) rfl rfl rfl ?_;simp[Qc g1,Qj g1];refine⟨by simp[Wp,Qc g1,Qj g1]<;>omega,?_⟩;repeat first|(refine r_ ?_;simp)|refine q_ ?_
   rw[zM (by simp)]
  ·rw[if_neg (by simpa using h3),xO]at g2;subst g2;repeat first|(refine r_ ?_;simp[g1])|refine q_ ?_
   rw[zM (by simp)]
theorem k0d(a b:List Iv)(ha:Sep a)(hb:Sep b)(z1:a.length+b.length≤1000000000)(hi:∀x∈a,O3 x):PC Tryz.prog 218 [LIv a,LIv b] (fun r=>r=LIv (Rm a b)):=
 (w1w a b (by omega) (by omega) (by have:=Vo a b ha hb;omega) (y1i (.inl hi))).mono fun r h=>by rw[h,Rm]
end Go.Abs
