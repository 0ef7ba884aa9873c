/- Part Le of the proof: an abstract machine over the model, and what the functions of the program hand back in its terms. No condition. -/
import Derived.Test.YteghceocnldccaaGreatDoorLd
import Derived.Test.YteghceocnldccaaGreatDoorLc
set_option linter.all false
open Bool renaming eq_false_iff→wT,false_or→tR,eq_iff_iff→xU,and_eq_true→yR,true_and→vX,false_and→tN
open List renaming drop_length→xS,getElem?_eq_some_iff→zB,getElem?_set_self→zO,getElem?_set_ne→zE,getElem?_append_left→zF,getElem?_append_right→zK,range→yL,ext_getElem→wD,getD→yS,pairwise_iff_getElem→yQ,mem_map→zT,mem_append→zU,mem_singleton→zP,mem_append_left→yY,mem_of_getElem?→zH,foldl_append→wp,pairwise_append→yH,map_append→yZ,nodup_append→vG,mem_append_right→ug,nil_append→vJ,reverse_cons→uv,mem_iff_getElem?→yE,reverse_reverse→ud,find?_eq_none→vW,mem_of_find?_eq_some→uL,find?_cons→uM,pairwise_map→xZ,map_congr_left→xL,map_const'→tC,mem_flatMap→wI,mem_filter→xM,mem_filterMap→vv,mem_cons→yB,any_eq_true→wS,length_map→yK,getElem_mem→zL,all_eq_false→tq,mem_range→yV,all_eq_true→zX,getElem?_eq_getElem→zJ,getElem_of_mem→xB,take→u7,findIdx?_eq_some_iff_getElem→xF,findIdx?_eq_none_iff→wV,take_succ_eq_append_getElem→zV,take_zero→wd,take_length→y_,replicate→yF,ext_getElem?→xT,getElem?_eq_none→xA,take_of_length_le→zY
open Nat renaming le_refl→zR,zero_le→xY,le_trans→yO
open Int renaming le_refl→xO
set_option maxHeartbeats 4000000
set_option linter.unusedSimpArgs false
set_option maxRecDepth 100000
namespace Go.Abs
open Go Go.Proofs
attribute [local irreducible] ckR O7
theorem j1d(l:List Iv)(n:Int)(hl:l.length≤1000000000):PC Tryz.prog 183 [LIv l,.i n] (fun r=>r= .bool (O7 l n)):=by
 refine Qk tOk Tryz.func183 rfl Tryz.results183 rfl (by simp[Tryz.ntmps183]) ?_;rw[Tryz.ntmps183];simp only[Qg];obtain⟨R,hR⟩:∃R,O7 l n=R:=⟨_,rfl⟩
 rw[hR];repeat first|(refine r_ ?_;simp)|refine q_ ?_
 refine Qy l.length (fun j=>O7 (l.drop j) n=R) (fun j=>[(0,LIv l),(1,.i n),(5,.i j)]) (fun _=>[]) rfl (by simp) (by simp) (by simp) (by simp) (by simpa using hR) ?_;intro j hj hI ih;repeat first|(refine r_ ?_;simp)|refine q_ ?_
 refine Qb rfl (fun z7=> ?_) (fun z8=> ?_)
 ·have z1:j<l.length:=by simpa using z7
  have hw:IntKind.i64.wrap ((j:Int)+1)=j+1:=wrap_i64 _ (by omega) (by omega);rw[W7 z1,q1n]at hI;by_cases h1:l[j].lo≤n
  ·by_cases h2:n≤l[j].hi
   ·rw[(B6 ..).2 ⟨h1,h2⟩,Bool.true_or]at hI;repeat first|(refine r_ ?_;simp[z1,h1,h2])|refine q_ ?_
    refine Qj rfl ?_;repeat first|(refine r_ ?_;simp)|refine q_ ?_
    exact hI.symm
   ·have h3:inI l[j].lo l[j].hi n=false:=by rw[wT,Ne,B6];omega
    rw[h3,tR]at hI;repeat first|(refine r_ ?_;simp[z1,h1,h2])|refine q_ ?_
    refine Qj rfl ?_;repeat first|(refine r_ ?_;simp[hw])|refine q_ ?_
    exact Qz _ (ih z1 hI) rfl (by simp) (by simp) (by simp) (by simp)
  ·have h3:inI l[j].lo l[j].hi n=false:=by rw[wT,Ne,B6];omega
   rw[h3,tR]at hI;repeat first|(refine r_ ?_;simp[z1,h1])|refine q_ ?_
   refine Qj rfl ?_;repeat first|(refine r_ ?_;simp[hw])|refine q_ ?_
   exact Qz _ (ih z1 hI) rfl (by simp) (by simp) (by simp) (by simp)
 ·have z6:j=l.length:=by simp at z8;omega
  subst z6;rw[xS]at hI;repeat first|(refine r_ ?_;simp)|refine q_ ?_
  rw[←hI];unfold O7;rfl
def z2y(x:Iv)(b:List Iv):List Iv:=b.filterMap (y0n x)
attribute [local irreducible] Vh z2y Es
theorem Xb(x:Iv)(r:List Iv)(n:Int):Rh (x::r) n=(if n<x.lo then [⟨n,x.lo - 1⟩]else [])++Rh r (x.hi+1):=rfl
theorem V2(n:Int):Rh [] n=if n≤1099511627776 then [⟨n,1099511627776⟩]else []:=rfl
theorem y1o(l:List Iv):Rh l (-1099511627776)=Ez l:=rfl
attribute [local irreducible] Ez Rh
end Go.Abs
namespace Go.Abs
open Go Go.Proofs
structure GL (K G:List AObj) (S p:Nat) (pre post:List AV) (e sz:Nat) (xs:List AV):Prop where
 cell:G[S]? =some (.vars (pre++ .sl p sz 0 xs.length::post))
 arr:G[p]? =some (.arr e sz xs)
 ge:K.length≤p
 lt:S<K.length
 len:K.length≤G.length
 keep:∀j,j<K.length→j≠S→G[j]? =K[j]?
theorem GL.kp{K G:List AObj}{S p:Nat}{pre post:List AV}{e sz:Nat}{xs:List AV}(h:GL K G S p pre post e sz xs){j:Nat}{x:AObj}(hj:j≠S)(hx:K[j]? =some x):G[j]? =some x:=by rw[h.keep j (zB.1 hx).1 hj];exact hx
theorem GL.start{K:List AObj}{S:Nat}(pre post:List AV)(e sz:Nat)(h:S<K.length):GL K ((K++[AObj.arr e sz []]).set S (.vars (pre++ .sl K.length sz 0 0::post))) S K.length pre post e sz []:=
 ⟨zO (by simp;omega),by rw[zE (by omega)];simp,zR _,h,by simp,fun j hj z1=>by
  rw[zE (fun e=>z1 e.symm),zF hj]⟩
theorem GL.put{K G:List AObj}{S p:Nat}{pre post:List AV}{e sz:Nat}{xs:List AV}(h:GL K G S p pre post e sz xs)(A:AObj)(y:AV){n:Nat}(hn:n=xs.length):
  GL K ((G.set p .dead++[A,AObj.arr e sz (xs++[y])]).set S (.vars (pre++ .sl (G.length+1) sz 0 (n+1)::post))) S (G.length+1) pre post e sz (xs++[y]):=by
 have hl:=h.len;have z6:=h.lt;have z7:=h.ge;subst hn;refine⟨by rw[zO (by simp;omega)];simp,by rw[zE (by omega),zK (by simp)];simp,by omega,z6,by simp;omega,fun j hj z1=> ?_⟩;rw[zE (fun e=>z1 e.symm),zF (by simp;omega),zE (by omega)];exact h.keep j hj z1
theorem GL.at{K G:List AObj}{S p:Nat}{pre post:List AV}{e sz:Nat}{xs:List AV}(h:GL K G S p pre post e sz xs)(L:List AObj):(G.set p .dead++L)[S]? =some (.vars (pre++ .sl p sz 0 xs.length::post)):=by have hl:=h.len;have z1:=h.lt;have z6:=h.ge;rw[zF (by simp;omega),zE (by omega)];exact h.cell
def upL(F:Nat→List Iv)(j:Nat):List AV:=(yL j).map fun i=>encL (F i)
theorem q0x(F:Nat→List Iv)(j:Nat):upL F (j+1)=upL F j++[encL (F j)]:=by simp[upL,List.range_succ]
theorem Ij(F:Nat→List Iv)(j:Nat):(upL F j).length=j:=by simp[upL]
theorem d0x(F:Nat→List Iv)(n:Nat):upL F n=((yL n).map F).map encL:=by simp[upL]
theorem z07{α β:Type}(d:α)(f:α→β)(p:List α):(yL p.length).map (fun i=>f (p.getD i d))=p.map f:=by
 refine wD (by simp) fun i h1 h2=> ?_;have h:i<p.length:=by simpa using h1
 simp[yS,h]
theorem w0l(F:Nat→List Iv):upL F 0=[]:=rfl
attribute [local irreducible] upL
end Go.Abs
namespace Go.Abs
def sLt(x y:Sy):Prop:=x.ty<y.ty∨(x.ty=y.ty∧x.num<y.num)
theorem sLt.irr{x:Sy}(h:sLt x x):False:=by unfold sLt at h;omega
theorem sLt.trans{x y z:Sy}(h:sLt x y)(k:sLt y z):sLt x z:=by unfold sLt at *;omega
theorem sLt.tri(x y:Sy):sLt x y∨x=y∨sLt y x:=by cases x;cases y;unfold sLt;simp only[Sy.mk.injEq];omega
def Mq:List Sy→List Sy→Prop
 |x::v,y::w=>sLt x y∨(x=y∧Mq v w)
 |_,_=>False
def ll(v w:List Sy):Prop:=v.length<w.length∨(v.length=w.length∧Mq v w)
def lle(v w:List Sy):Prop:=v=w∨ll v w
theorem Mq.irr:∀ {v:List Sy},¬Mq v v
 |[],h=>h
 |x::v,h=>by
  rcases h with h|⟨_,h⟩
  ·exact h.irr
  ·exact Mq.irr h
theorem Mq.trans:∀ {u v w:List Sy},Mq u v→Mq v w→Mq u w
 |[],_,_,h,_=>h.elim
 |_::_,[],_,h,_=>h.elim
 |_::_,_::_,[],_,k=>k.elim
 |x::u,y::v,z::w,h,k=>by
  rcases h with h|⟨rfl,h⟩
  ·rcases k with k|⟨rfl,k⟩
   ·exact .inl (h.trans k)
   ·exact .inl h
  ·rcases k with k|⟨rfl,k⟩
   ·exact .inl k
   ·exact .inr ⟨rfl,h.trans k⟩
theorem ll.irr{v:List Sy}(h:ll v v):False:=by
 rcases h with h|⟨_,h⟩
 ·omega
 ·exact Mq.irr h
theorem ll.trans{u v w:List Sy}(h:ll u v)(k:ll v w):ll u w:=by
 rcases h with h|⟨h1,h2⟩
 ·rcases k with k|⟨k1,_⟩
  ·exact .inl (by omega)
  ·exact .inl (by omega)
 ·rcases k with k|⟨k1,k2⟩
  ·exact .inl (by omega)
  ·exact .inr ⟨by omega,h2.trans k2⟩
theorem lle.refl(v:List Sy):lle v v:= .inl rfl
theorem lle.trans{u v w:List Sy}(h:lle u v)(k:lle v w):lle u w:=by
 rcases h with rfl|h
 ·exact k
 ·rcases k with rfl|k
  ·exact .inr h
  ·exact .inr (h.trans k)
theorem ll.lle{u v w:List Sy}(h:ll u v)(k:lle v w):ll u w:=by
 rcases k with rfl|k
 ·exact h
 ·exact h.trans k
theorem lle.anti{u v:List Sy}(h:lle u v)(k:lle v u):u=v:=by
 rcases h with rfl|h
 ·rfl
 ·exact((h.lle k).irr).elim
theorem q0k:∀ {u v:List Sy} (a b:List Sy),u.length=v.length→Mq u v→Mq (u++a) (v++b)
 |[],_,_,_,_,h=>h.elim
 |_::_,[],_,_,_,h=>h.elim
 |x::u,y::v,a,b,e,h=>by
  rcases h with h|⟨rfl,h⟩
  ·exact .inl h
  ·exact .inr ⟨rfl,q0k a b (by simpa using e) h⟩
theorem Mz:∀(u:List Sy) {a b:List Sy},Mq a b→Mq (u++a) (u++b)
 |[],_,_,h=>h
 |_::u,_,_,h=> .inr ⟨rfl,Mz u h⟩
theorem k0k{u v:List Sy}(h:ll u v)(x y:Sy):ll (u++[x]) (v++[y]):=by
 rcases h with h|⟨h1,h2⟩
 ·exact .inl (by simp;omega)
 ·exact .inr ⟨by simp;omega,q0k _ _ h1 h2⟩
theorem w0f(u:List Sy){x y:Sy}(h:sLt x y):ll (u++[x]) (u++[y]):= .inr ⟨by simp,Mz u (.inl h)⟩
theorem q1t{u v:List Sy}(h:lle u v){x y:Sy}(k:x=y∨sLt x y):lle (u++[x]) (v++[y]):=by
 rcases h with rfl|h
 ·rcases k with rfl|k
  ·exact .inl rfl
  ·exact .inr (w0f _ k)
 ·exact .inr (k0k h x y)
theorem v1q(u:List Sy)(x:Sy):ll u (u++[x]):= .inl (by simp)
theorem Ib{α:Type}[DecidableEq α]:∀(l U:List α),l.Nodup→(∀x∈l,x∈U)→l.length≤U.length
 |[],_,_,_=>xY _
 |x::l,U,hn,h=>by have hx:=h x (by simp);have hc:=List.nodup_cons.1 hn;have ih:=Ib l (U.erase x) hc.2 (fun y hy=>(List.mem_erase_of_ne (fun e=>hc.1 (by rw[←e];exact hy))).2 (h y (by simp[hy])));rw[List.length_erase_of_mem hx]at ih;have:=List.length_pos_of_mem hx;simp only[List.length_cons];omega
section
variable {σ:Type} [DecidableEq σ] (ok:Sy→Prop) (step:σ→Sy→σ) (good:σ→Bool)
def Yy(s:σ)(w:List Sy):σ:=w.foldl step s
structure FirstW (s:σ) (w:List Sy):Prop where
 okw:∀x∈w,ok x
 goodw:good (Yy step s w)=true
 least:∀v,(∀x∈v,ok x)→good (Yy step s v)=true→lle w v
variable {ok step good}
theorem FirstW.unique{s:σ}{v w:List Sy}(h:FirstW ok step good s v)(k:FirstW ok step good s w):v=w:=
 (h.least w k.okw k.goodw).anti (k.least v h.okw h.goodw)
variable (ok step good)
structure SuccOk (s:σ) (l:List (Sy×σ)):Prop where
 asc:l.Pairwise (fun a b=>sLt a.1 b.1)
 mem:∀e∈l,ok e.1∧e.2=step s e.1
 cov:∀y,ok y→∃e∈l,e.2=step s y∧(e.1=y∨sLt e.1 y)
variable (succ:σ→List (Sy×σ))
def g1a(l:List (σ×List Sy))(t:σ)(w:List Sy):List (σ×List Sy):=if t∈l.map (·.1)then l else l++[(t,w)]
def Dr(l:List (σ×List Sy))(w:List Sy)(es:List (Sy×σ)):List (σ×List Sy):=es.foldl (fun l e=>g1a l e.2 (w++[e.1])) l
def j14:Nat→Nat→List (σ×List Sy)→Option (List Sy)×List (σ×List Sy)
 |0,_,l=>(none,l)
 |f+1,n,l=>match l[n]? with
  |none=>(none,l)
  |some (s,w)=>if good s then(some w,l)else j14 f (n+1) (Dr l w (succ s))
variable (s0:σ) (G:σ→Prop)
structure BInv (n:Nat) (L:List (σ×List Sy)) (done:List (Sy×σ)):Prop where
 first:L[0]? =some (s0,[])
 mem:∀e∈L,(∀x∈e.2,ok x)∧Yy step s0 e.2=e.1∧G e.1
 asc:L.Pairwise (fun a b=>ll a.2 b.2)
 nd:(L.map (·.1)).Nodup
 bad:∀i s w,i<n→L[i]? =some (s,w)→good s=false
 cls:∀i s w,i<n→L[i]? =some (s,w)→∀e∈succ s,∃v,(e.2,v)∈L∧lle v (w++[e.1])
 cur:∀s w,L[n]? =some (s,w)→∀e∈done,∃v,(e.2,v)∈L∧lle v (w++[e.1])
 org:∀d∈L,d.2=[]∨∃i s w x,L[i]? =some (s,w)∧d.2=w++[x]∧(i<n∨(i=n∧∃e∈done,e.1=x))
variable {ok step good succ s0 G}
theorem BInv.low{n:Nat}{L:List (σ×List Sy)}{done:List (Sy×σ)}(h:BInv ok step good succ s0 G n L done){s:σ}{w:List Sy}(hn:L[n]? =some (s,w))(x:Sy)(hx:∀e∈done,sLt e.1 x):∀e∈L,ll e.2 (w++[x]):=by
 intro d hd;rcases h.org d hd with e|⟨i,s',w',y,hi,e,hc⟩
 ·rw[e];exact .inl (by simp)
 ·rw[e];rcases hc with hc|⟨rfl,c,hc,rfl⟩
  ·obtain⟨h1,h2⟩:=zB.1 hi;obtain⟨h3,h4⟩:=zB.1 hn;have:=yQ.1 h.asc i n h1 h3 hc;rw[h2,h4]at this;exact k0k this _ _
  ·rw[hn]at hi;cases hi;exact w0f _ (hx c hc)
theorem BInv.add {n:Nat} {L:List (σ×List Sy)} {done:List (Sy×σ)} (h:BInv ok step good succ s0 G n L done) {s:σ} {w:List Sy} (hn:L[n]? =some (s,w)) {e:Sy×σ} (he:ok e.1∧e.2=step s e.1) (hG:G e.2)
  (z8:∀d∈done,sLt d.1 e.1):BInv ok step good succ s0 G n (g1a L e.2 (w++[e.1])) (done++[e])∧(g1a L e.2 (w++[e.1]))[n]? =some (s,w):=by
 have zb:=(zB.1 hn).1;have z7:=h.low hn e.1 z8;unfold g1a;by_cases hin:e.2∈L.map (·.1)
 ·rw[if_pos hin];obtain⟨⟨t,v⟩,hv,ht⟩:=zT.1 hin;simp only at ht;subst ht;refine⟨⟨h.first,h.mem,h.asc,h.nd,h.bad,h.cls,fun s' w' z6 d hd=> ?_,fun d hd=> ?_⟩,hn⟩
  ·rw[hn]at z6;cases z6;rcases zU.1 hd with hd|hd
   ·exact h.cur s w hn d hd
   ·obtain rfl:=zP.1 hd;exact⟨v,hv,.inr (z7 _ hv)⟩
  ·rcases h.org d hd with e'|⟨i,s',w',y,hi,e',hc⟩
   ·exact .inl e'
   ·exact .inr ⟨i,s',w',y,hi,e',hc.imp id fun⟨k1,c,k2,k3⟩=>⟨k1,c,yY _ k2,k3⟩⟩
 ·rw[if_neg hin];have z1:∀i,i≤n→(L++[(e.2,w++[e.1])])[i]? =L[i]? :=fun i hi=>zF (by omega);have hw:=h.mem _ (zH hn);refine⟨⟨by rw[z1 0 (xY _)];exact h.first,fun d hd=> ?_,?_,?_,fun i s' w' hi z6=>h.bad i s' w' hi (by rw[←z1 i (by omega)];exact z6),fun i s' w' hi z6 d hd=> ?_,fun s' w' z6 d hd=> ?_,fun d hd=> ?_⟩,by rw[z1 n (zR _)];exact hn⟩
  ·rcases zU.1 hd with hd|hd
   ·exact h.mem d hd
   ·obtain rfl:=zP.1 hd;refine⟨fun x hx=> ?_,?_,hG⟩
    ·rcases zU.1 hx with hx|hx
     ·exact hw.1 x hx
     ·obtain rfl:=zP.1 hx;exact he.1
    ·show Yy step s0 (w++[e.1])=e.2;have h2:Yy step s0 w=s:=hw.2.1;rw[Yy,wp];show step (Yy step s0 w) e.1=e.2;rw[h2,he.2]
  ·exact yH.2 ⟨h.asc,by simp,fun a ha b hb=>by obtain rfl:=zP.1 hb;exact z7 a ha⟩
  ·rw[yZ];exact vG.2 ⟨h.nd,by simp,fun a ha b hb e'=>by
    simp at hb;subst hb;subst e';exact hin ha⟩
  ·rw[z1 i (by omega)]at z6;obtain⟨v,hv,hl⟩:=h.cls i s' w' hi z6 d hd;exact⟨v,yY _ hv,hl⟩
  ·rw[z1 n (zR _),hn]at z6;cases z6;rcases zU.1 hd with hd|hd
   ·obtain⟨v,hv,hl⟩:=h.cur s w hn d hd;exact⟨v,yY _ hv,hl⟩
   ·obtain rfl:=zP.1 hd;exact⟨_,ug _ (by simp),.inl rfl⟩
  ·rcases zU.1 hd with hd|hd
   ·rcases h.org d hd with e'|⟨i,s',w',y,hi,e',hc⟩
    ·exact .inl e'
    ·have za:i≤n:=by rcases hc with hc|hc<;>omega
     exact .inr ⟨i,s',w',y,by rw[z1 i za];exact hi,e',hc.imp id fun⟨k1,c,k2,k3⟩=>⟨k1,c,yY _ k2,k3⟩⟩
   ·obtain rfl:=zP.1 hd;exact .inr ⟨n,s,w,e.1,by rw[z1 n (zR _)];exact hn,rfl,.inr ⟨rfl,e,by simp,rfl⟩⟩
theorem BInv.round{n:Nat}:∀(es:List (Sy×σ)) (done:List (Sy×σ)) (L:List (σ×List Sy)) {s:σ} {w:List Sy},BInv ok step good succ s0 G n L done→L[n]? =some (s,w)→(∀e∈es,ok e.1∧e.2=step s e.1)→(∀e∈es,G e.2)→
  (done++es).Pairwise (fun a b=>sLt a.1 b.1)→BInv ok step good succ s0 G n (Dr L w es) (done++es)∧(Dr L w es)[n]? =some (s,w)
 |[],done,L,s,w,h,hn,_,_,_=>by simpa[Dr]using⟨h,hn⟩
 |e::es,done,L,s,w,h,hn,hm,hG,hp=>by have z1:∀d∈done,sLt d.1 e.1:=fun d hd=>(yH.1 hp).2.2 d hd e (by simp);obtain⟨h1,h2⟩:=h.add hn (hm e (by simp)) (hG e (by simp)) z1;have:=BInv.round es (done++[e]) _ h1 h2 (fun d hd=>hm d (by simp[hd])) (fun d hd=>hG d (by simp[hd])) (by simpa using hp);simpa[Dr]using this
theorem BInv.next{n:Nat}{L:List (σ×List Sy)}{s:σ}{w:List Sy}(h:BInv ok step good succ s0 G n L [])(hn:L[n]? =some (s,w))(hg:good s=false)(hs:SuccOk ok step s (succ s))(hG:∀e∈succ s,G e.2):
  BInv ok step good succ s0 G (n+1) (Dr L w (succ s)) []:=by
 obtain⟨h1,h2⟩:=h.round (succ s) [] L hn hs.mem hG (by simpa using hs.asc);rw[vJ]at h1;refine⟨h1.first,h1.mem,h1.asc,h1.nd,fun i s' w' hi z1=> ?_,fun i s' w' hi z1 d hd=> ?_,fun _ _ _ _ hd=>(by cases hd),fun d hd=> ?_⟩
 ·by_cases hin:i<n
  ·exact h1.bad i s' w' hin z1
  ·have:i=n:=by omega
   subst this;rw[h2]at z1;cases z1;exact hg
 ·by_cases hin:i<n
  ·exact h1.cls i s' w' hin z1 d hd
  ·have:i=n:=by omega
   subst this;rw[h2]at z1;cases z1;exact h1.cur s w h2 d hd
 ·rcases h1.org d hd with e'|⟨i,s',w',y,hi,e',hc⟩
  ·exact .inl e'
  ·exact .inr ⟨i,s',w',y,hi,e',.inl (by rcases hc with hc|hc<;>omega)⟩
theorem BInv.reach{n:Nat}{L:List (σ×List Sy)}(h:BInv ok step good succ s0 G n L [])(hs:∀s,G s→SuccOk ok step s (succ s)):∀(r:List Sy),(∀x∈r,ok x)→
  (∃v,(Yy step s0 r.reverse,v)∈L∧lle v r.reverse)∨∃i s w,n≤i∧L[i]? =some (s,w)∧lle w r.reverse
 |[],_=> .inl ⟨[],zH h.first,lle.refl _⟩
 |x::r,hx=>by
  have z1:ll r.reverse (x::r).reverse:=by rw[uv];exact v1q _ _
  rcases BInv.reach h hs r (fun y hy=>hx y (by simp[hy]))with⟨v,hv,hl⟩|⟨i,s,w,h1,h2,h3⟩
  ·obtain⟨i,hi⟩:=yE.1 hv;by_cases hin:i<n
   ·obtain⟨e,he,e1,e2⟩:=(hs _ (h.mem _ hv).2.2).cov x (hx x (by simp));obtain⟨u,hu,z6⟩:=h.cls i _ _ hin hi e he;refine .inl ⟨u,?_,?_⟩
    ·rw[uv,Yy,wp];show(step (Yy step s0 r.reverse) x,u)∈L;rw[←e1];exact hu
    ·rw[uv];exact z6.trans (q1t hl e2)
   ·exact .inr ⟨i,_,v,by omega,hi,hl.trans (.inr z1)⟩
  ·exact .inr ⟨i,s,w,h1,h2,h3.trans (.inr z1)⟩
theorem BInv.found{n:Nat}{L:List (σ×List Sy)}{s:σ}{w:List Sy}(h:BInv ok step good succ s0 G n L [])(hs:∀s,G s→SuccOk ok step s (succ s))(hn:L[n]? =some (s,w))(hg:good s=true):FirstW ok step good s0 w:=by
 have hm:=h.mem _ (zH hn);refine⟨hm.1,by rw[hm.2.1];exact hg,fun v hv z1=> ?_⟩;have hle:∀i s' w',n≤i→L[i]? =some (s',w')→lle w w':=fun i s' w' hi hl=>by
  obtain⟨h1,h2⟩:=zB.1 hn;obtain⟨h3,h4⟩:=zB.1 hl;rcases Nat.lt_or_eq_of_le hi with hlt|rfl
  ·have:=yQ.1 h.asc n i h1 h3 hlt;rw[h2,h4]at this;exact .inr this
  ·rw[hn]at hl;cases hl;exact .inl rfl
 rcases h.reach hs v.reverse (fun x hx=>hv x (by simpa using hx))with⟨u,hu,hl⟩|⟨i,s',w',h1,h2,h3⟩
 ·rw[ud]at hu hl;obtain⟨i,hi⟩:=yE.1 hu;by_cases hin:i<n
  ·have:=h.bad i _ _ hin hi;rw[this]at z1;cases z1
  ·exact(hle i _ _ (by omega) hi).trans hl
 ·rw[ud]at h3;exact(hle i _ _ h1 h2).trans h3
theorem BInv.none{n:Nat}{L:List (σ×List Sy)}(h:BInv ok step good succ s0 G n L [])(hs:∀s,G s→SuccOk ok step s (succ s))(hn:L[n]? =none):
  (∀v,(∀x∈v,ok x)→Yy step s0 v∈L.map (·.1)∧good (Yy step s0 v)=false):=by
 intro v hv;have hlen:=List.getElem?_eq_none_iff.1 hn;rcases h.reach hs v.reverse (fun x hx=>hv x (by simpa using hx))with⟨u,hu,_⟩|⟨i,s',w',h1,h2,_⟩
 ·rw[ud]at hu;obtain⟨i,hi⟩:=yE.1 hu;have:=(zB.1 hi).1;exact⟨zT.2 ⟨_,hu,rfl⟩,h.bad i _ _ (by omega) hi⟩
 ·have:=(zB.1 h2).1;omega
theorem M5(hs:∀s,G s→SuccOk ok step s (succ s))(hG:∀s,G s→∀e∈succ s,G e.2)(U:List σ)(hU:∀s,G s→s∈U):∀(f n:Nat) (L:List (σ×List Sy)),U.length+1≤n+f→n≤L.length→BInv ok step good succ s0 G n L []→
  (∃w L',j14 good succ f n L=(some w,L')∧FirstW ok step good s0 w)∨
  (∃L',j14 good succ f n L=(Option.none,L')∧(L'.map (·.1)).Nodup∧(∀e∈L',(∀x∈e.2,ok x)∧Yy step s0 e.2=e.1∧G e.1)∧∀v,(∀x∈v,ok x)→Yy step s0 v∈L'.map (·.1)∧good (Yy step s0 v)=false)
 |0,n,L,hf,hn,h=>by
  exfalso;have:=Ib _ U h.nd (fun s hs=>by
   obtain⟨e,he,rfl⟩:=zT.1 hs;exact hU _ (h.mem e he).2.2)
  simp at this;omega
 |f+1,n,L,hf,hn,h=>by
  rw[j14];cases hl:L[n]? with
  |none=>exact .inr ⟨L,rfl,h.nd,h.mem,h.none hs hl⟩
  |some e=>
   obtain⟨s,w⟩:=e;simp only;cases hg:good s with
   |true=>rw[if_pos rfl];exact .inl ⟨w,L,rfl,h.found hs hl hg⟩
   |false=>
    rw[if_neg (by simp)];have z1:=(h.mem _ (zH hl)).2.2;have h':=h.next hl hg (hs s z1) (hG s z1);refine M5 hs hG U hU f (n+1) _ (by omega) ?_ h';have z6:=(zB.1 hl).1;have z7:∀(es:List (Sy×σ)) (L:List (σ×List Sy)),L.length≤(Dr L w es).length:=by
     intro es;induction es with
     |nil=>intro L;exact zR _
     |cons e es ih=>
      intro L;refine yO ?_ (ih (g1a L e.2 (w++[e.1])));unfold g1a;split
      ·exact zR _
      ·simp
    exact yO z6 (z7 _ _)
theorem x0c(z1:G s0):BInv ok step good succ s0 G 0 [(s0,[])] []:=
 ⟨rfl,fun e he=>by obtain rfl:=zP.1 he;exact⟨by simp,rfl,z1⟩,by simp,by simp,fun i _ _ hi=>by omega,fun i _ _ hi=>by omega,fun _ _ _ _ hd=>(by cases hd),fun d hd=>by obtain rfl:=zP.1 hd;exact .inl rfl⟩
end
end Go.Abs
namespace Go.Abs
structure Dfa (a:Aut):Prop where
 ok:OkA a
 det:Pl a
 full:Md a
def toL(a:Aut)(s:Int)(x:Sy):Int:=match a.mv.find? (fun m=>decide (m.src=s) && E8 m.on x)with|some m=>m.dst|none=> -1
def inS(a:Aut)(s:Int):Prop:=0≤s∧s<a.fin.length
theorem Dfa.next{a:Aut}(h:Dfa a){s:Int}(hs:inS a s){x:Sy}(hx:Wv a x):inS a (toL a s x)∧Wa a [s] x=[toL a s x]:=by
 obtain⟨t,t0,t1,e⟩:=w1j h.ok.wfA h.det h.full hs.1 hs.2 hx;obtain⟨m,hm,h1,h2⟩:=h.full s hs.1 hs.2 x hx;have hf:toL a s x=t:=by
  unfold toL;cases hq:a.mv.find? (fun m=>decide (m.src=s) && E8 m.on x)with
  |none=>have:=vW.1 hq m hm;simp[h1,h2]at this
  |some k=>have hk:=uL hq;have hp:=List.find?_some hq;simp at hp;have z1:k.dst∈Wa a [s] x:=Ek.2 ⟨h.ok.wfA.dst k hk,k,hk,by rw[hp.1];simp,hp.2,rfl⟩;rw[e]at z1;exact zP.1 z1
 rw[hf];exact⟨⟨t0,t1⟩,e⟩
theorem Dfa.to_of{a:Aut}(h:Dfa a){m:Mv}(hm:m∈a.mv){x:Sy}(hx:Wv a x)(hh:E8 m.on x=true):toL a m.src x=m.dst:=by have hs:inS a m.src:=h.ok.wfA.src m hm;have h1:=(h.next hs hx).2;have z1:m.dst∈Wa a [m.src] x:=Ek.2 ⟨h.ok.wfA.dst m hm,m,hm,by simp,hh,rfl⟩;rw[h1]at z1;exact(zP.1 z1).symm
theorem Dfa.move{a:Aut}(h:Dfa a){s:Int}(hs:inS a s){x:Sy}(hx:Wv a x):∃m∈a.mv,m.src=s∧E8 m.on x=true∧m.dst=toL a s x:=by obtain⟨m,hm,h1,h2⟩:=h.full s hs.1 hs.2 x hx;exact⟨m,hm,h1,h2,by rw[←h1,h.to_of hm hx h2]⟩
theorem q0s{a:Aut}{x y:Sy}(h:∀m∈a.mv,E8 m.on x=E8 m.on y)(s:Int):toL a s x=toL a s y:=by
 unfold toL;have:a.mv.find? (fun m=>decide (m.src=s) && E8 m.on x)=a.mv.find? (fun m=>decide (m.src=s) && E8 m.on y):=by
  generalize a.mv=l at h;induction l with
  |nil=>rfl
  |cons m l ih=>rw[uM,uM,h m (by simp),ih (fun k hk=>h k (by simp[hk]))]
 rw[this]
def stF(a:Aut)(s:Int)(w:List Sy):Int:=w.foldl (toL a) s
def Jd(a:Aut)(s:Int)(w:List Sy):Bool:=a.fin.getD (stF a s w).toNat false
theorem Dfa.run{a:Aut}(h:Dfa a):∀(w:List Sy) (s:Int),inS a s→(∀x∈w,Wv a x)→inS a (stF a s w)∧O2 a [s] w=[stF a s w]
 |[],s,hs,_=>⟨hs,rfl⟩
 |x::w,s,hs,hx=>by obtain⟨h1,h2⟩:=h.next hs (hx x (by simp));have:=h.run w _ h1 (fun y hy=>hx y (by simp[hy]));refine⟨this.1,?_⟩;show O2 a (Wa a [s] x) w=_;rw[h2];exact this.2
theorem Dfa.zero{a:Aut}(h:Dfa a):inS a 0:=⟨xO _,by have:=h.ok.fin;omega⟩
theorem Dfa.acc{a:Aut}(h:Dfa a){w:List Sy}(hw:∀x∈w,Wv a x):Uk a w=Jd a 0 w:=by unfold Uk Jd;rw[(h.run w 0 h.zero hw).2];simp[Fj]
structure Ltr (T:Nat) (l cl:List Prd):Prop where
 prts:Prts T l cl
 asc:cl.Pairwise z0l
 len:∀p∈l,p.length=T
def okT(T:Nat)(x:Sy):Prop:=0≤x.ty∧x.ty.toNat<T∧inR x.num
theorem f1m{T:Nat}(hT:0<T){l:List Prd}(hl:∀p∈l,PCk T p):Ltr T l (Q9 T l):=by obtain⟨h1,h2⟩:=Uu hT hl;exact⟨h1,h2,fun p hp=>(hl p hp).1⟩
theorem g0k{p:Prd}{t:Nat}{n:Int}(h:U2 (Qx p 0).1 (Qx p 0).2 t n):sLt (Qm p) ⟨t,n⟩:=by unfold U2 at h;unfold sLt Qm;simp only;omega
theorem Ltr.least{T:Nat}{l cl:List Prd}(h:Ltr T l cl){c:Prd}(hc:c∈cl):okT T (Qm c)∧PM c (Qm c).ty.toNat (Qm c).num:=by have h1:=(W3 (h.prts.wf c hc) (h.prts.ne c hc)).1;have h2:=(h.prts.wf c hc).lt h1;exact⟨⟨by simp[Qm],by simpa[Qm]using h2.1,h2.2⟩,by simpa[Qm]using h1⟩
theorem Ltr.sig{T:Nat}{l cl:List Prd}(h:Ltr T l cl){c:Prd}(hc:c∈cl){x y:Sy}(hx:okT T x)(hy:okT T y)(z1:PM c x.ty.toNat x.num)(z6:PM c y.ty.toNat y.num):∀p∈l,E8 p x=E8 p y:=fun p hp=>by have h2:=((h.prts.cls c hc _ _ z1 _ _).1 z6).2.2 p hp;rw[xU,E9 (h.len p hp) x hx.1,E9 (h.len p hp) y hy.1];exact h2
theorem Ltr.cov{T:Nat}{l cl:List Prd}(h:Ltr T l cl){x:Sy}(hx:okT T x):∃c∈cl,PM c x.ty.toNat x.num∧(Qm c=x∨sLt (Qm c) x)∧∀p∈l,E8 p x=E8 p (Qm c):=by
 obtain⟨c,hc,hm⟩:=h.prts.all x.ty.toNat x.num hx.2.1 hx.2.2;obtain⟨h1,h2⟩:=h.least hc;refine⟨c,hc,hm,?_,h.sig hc hx h1 hm h2⟩;rcases(W3 (h.prts.wf c hc) (h.prts.ne c hc)).2 _ _ hm with⟨e1,e2⟩|hlt
 ·left;unfold Qm;rw[e1,e2,show((x.ty.toNat:Nat):Int)=x.ty by have:=hx.1;omega]
 ·right;have:=g0k hlt;have e:(⟨(x.ty.toNat:Int),x.num⟩:Sy)=x:=by rw[show((x.ty.toNat:Nat):Int)=x.ty by have:=hx.1;omega]
  rw[e]at this;exact this
theorem Ltr.ascS{T:Nat}{l cl:List Prd}(h:Ltr T l cl):(cl.map Qm).Pairwise sLt:=by
 refine xZ.2 (h.asc.imp_of_mem fun {p q} hp hq hlt=> ?_);obtain⟨t,n,hm,z1⟩:=hlt;have h1:=z1 _ _ (W3 (h.prts.wf q hq) (h.prts.ne q hq)).1;have h2:U2 (Qx p 0).1 (Qx p 0).2 (Qx q 0).1 (Qx q 0).2:=by
  rcases(W3 (h.prts.wf p hp) (h.prts.ne p hp)).2 t n hm with⟨e1,e2⟩|h3
  ·rw[e1,e2];exact h1
  ·exact h3.trans h1
 exact g0k h2
def Xa(a b:Aut):List Sy:=(Q9 a.types.toNat (onA a++onA b)).map Qm
def Yk(a b:Aut)(s:Int×Int)(x:Sy):Int×Int:=(toL a s.1 x,toL b s.2 x)
def g0h(a b:Aut)(s:Int×Int):List (Sy×(Int×Int)):=(Xa a b).map fun x=>(x,Yk a b s x)
theorem K8{a:Aut}{x:Sy}:okT a.types.toNat x↔Wv a x:=by
 unfold okT Wv;constructor
 ·rintro⟨h1,h2,h3⟩;exact⟨⟨h1,by omega⟩,h3⟩
 ·rintro⟨⟨h1,h2⟩,h3⟩;exact⟨h1,by omega,h3⟩
theorem d1e{a b:Aut}(ha:OkA a)(hb:OkA b)(ht:b.types=a.types):Ltr a.types.toNat (onA a++onA b) (Q9 a.types.toNat (onA a++onA b)):=
 f1m (by have:=ha.types;omega) fun p hp=>by
  rcases zU.1 hp with hp|hp
  ·exact q01 ha p hp
  ·rw[←ht];exact q01 hb p hp
theorem u0y{a:Aut}{m:Mv}(h:m∈a.mv):m.on∈onA a:=zT.2 ⟨m,h,rfl⟩
theorem u0u{a b:Aut}(ha:OkA a)(hb:OkA b)(ht:b.types=a.types)(s:Int×Int):SuccOk (Wv a) (Yk a b) s (g0h a b s):=by
 have hl:=d1e ha hb ht;refine⟨?_,fun e he=> ?_,fun y hy=> ?_⟩
 ·unfold g0h;exact xZ.2 (hl.ascS.imp fun h=>h)
 ·obtain⟨x,hx,rfl⟩:=zT.1 he;obtain⟨c,hc,rfl⟩:=zT.1 hx;exact⟨K8.1 (hl.least hc).1,rfl⟩
 ·obtain⟨c,hc,hm,hle,z1⟩:=hl.cov (K8.2 hy);refine⟨(Qm c,Yk a b s (Qm c)),zT.2 ⟨Qm c,zT.2 ⟨c,hc,rfl⟩,rfl⟩,?_,hle⟩;unfold Yk;rw[q0s (fun m hm=>(z1 m.on (yY _ (u0y hm))).symm),q0s (a:=b) (fun m hm=>(z1 m.on (ug _ (u0y hm))).symm)]
def Tu(a b:Aut)(s:Int×Int):Bool:=a.fin.getD s.1.toNat false != b.fin.getD s.2.toNat false
def P7(a b:Aut)(p q:Int):Option (List Sy)×List ((Int×Int)×List Sy):=j14 (Tu a b) (g0h a b) (a.fin.length * b.fin.length+1) 0 [((p,q),[])]
theorem Vk(a b:Aut):∀(w:List Sy) (p q:Int),Yy (Yk a b) (p,q) w=(stF a p w,stF b q w)
 |[],_,_=>rfl
 |x::w,p,q=>Vk a b w (toL a p x) (toL b q x)
def Pk(a b:Aut):List (Int×Int):=(W6 a.fin.length).flatMap fun i=>(W6 b.fin.length).map fun j=>(i,j)
theorem P3(a b:Aut):(Pk a b).length=a.fin.length * b.fin.length:=by unfold Pk;rw[List.length_flatMap,xL (g:=fun _=>b.fin.length) (fun i _=>by simp[W6]),tC,List.sum_replicate_nat];simp[W6]
theorem Hw{a b:Aut}{s:Int×Int}(h1:inS a s.1)(h2:inS b s.2):s∈Pk a b:=by unfold Pk;rw[wI];exact⟨s.1,W1.2 h1,zT.2 ⟨s.2,W1.2 h2,rfl⟩⟩
def x1d(a b:Aut)(p q:Int)(w:List Sy):Prop:=FirstW (Wv a) (Yk a b) (Tu a b) (p,q) w
theorem Ae(a b:Aut)(p q:Int)(w:List Sy):Tu a b (Yy (Yk a b) (p,q) w)=true↔Jd a p w≠Jd b q w:=by rw[Vk];simp[Tu,Jd]
theorem He{a b:Aut}(ha:Dfa a)(hb:Dfa b)(ht:b.types=a.types){p q:Int}(hp:inS a p)(hq:inS b q):
  (∃w,(P7 a b p q).1=some w∧x1d a b p q w)∨((P7 a b p q).1=none∧∀w,(∀x∈w,Wv a x)→Jd a p w=Jd b q w):=by
 have z1:∀x,Wv a x→Wv b x:=fun x hx=>by unfold Wv at *;rw[ht];exact hx
 rcases M5 (ok:=Wv a) (step:=Yk a b) (good:=Tu a b) (succ:=g0h a b) (s0:=(p,q)) (G:=fun s=>inS a s.1∧inS b s.2) (fun s _=>u0u ha.ok hb.ok ht s)
  (fun s hs e he=>by
   obtain⟨h1,h2⟩:=(u0u ha.ok hb.ok ht s).mem e he;rw[h2];exact⟨(ha.next hs.1 h1).1,(hb.next hs.2 (z1 _ h1)).1⟩) (Pk a b) (fun s hs=>Hw hs.1 hs.2) (a.fin.length * b.fin.length+1) 0 [((p,q),[])] (by rw[P3];omega) (by simp) (x0c ⟨hp,hq⟩)with⟨w,L,h1,h2⟩|⟨L,h1,_,_,h2⟩
 ·exact .inl ⟨w,by rw[P7,h1],h2⟩
 ·refine .inr ⟨by rw[P7,h1],fun w hw=> ?_⟩;have:=(h2 w hw).2;by_cases hd:Jd a p w=Jd b q w
  ·exact hd
  ·rw[(Ae a b p q w).2 hd]at this;cases this
end Go.Abs
namespace Go.Abs
def Qw(a:Aut)(s:Int):List Mv:=a.mv.filter fun m=>decide (m.src=s) && !Wp m.on
def Wi(a b:Aut)(s:Int×Int):List (Sy×(Int×Int)):=(Qw a s.1).flatMap fun m=>(Qw b s.2).filterMap fun n=>if Wp (Eg m.on n.on)then none else some (Qm (Eg m.on n.on),(m.dst,n.dst))
theorem Eo{a:Aut}{s:Int}{m:Mv}:m∈Qw a s↔m∈a.mv∧m.src=s∧Wp m.on=false:=by unfold Qw;rw[xM];simp
theorem Si{a b:Aut}{s:Int×Int}{e:Sy×(Int×Int)}:e∈Wi a b s↔∃m∈Qw a s.1,∃n∈Qw b s.2,Wp (Eg m.on n.on)=false∧e=(Qm (Eg m.on n.on),(m.dst,n.dst)):=by
 unfold Wi;rw[wI];constructor
 ·rintro⟨m,hm,h⟩;obtain⟨n,hn,h⟩:=vv.1 h;cases hv:Wp (Eg m.on n.on)
  ·rw[hv,if_neg (by simp)]at h;cases h;exact⟨m,hm,n,hn,hv,rfl⟩
  ·rw[hv,if_pos rfl]at h;cases h
 ·rintro⟨m,hm,n,hn,hv,rfl⟩;exact⟨m,hm,vv.2 ⟨n,hn,by rw[hv,if_neg (by simp)]⟩⟩
theorem Yh{T:Nat}{p:Prd}(h:PWf T p):Wp p=false↔∃t n,PM p t n:=by
 cases hv:Wp p
 ·simp only[true_iff];apply Classical.byContradiction;intro hn;have:=(Tg h).2 (fun t n hm=>hn ⟨t,n,hm⟩);rw[hv]at this;cases this
 ·simp only[Bool.true_eq_false,false_iff];rintro⟨t,n,hm⟩;exact(Tg h).1 hv t n hm
theorem Pe{T:Nat}{p:Prd}(h:PWf T p)(hn:∃t n,PM p t n):okT T (Qm p)∧PM p (Qm p).ty.toNat (Qm p).num∧∀x,okT T x→PM p x.ty.toNat x.num→Qm p=x∨sLt (Qm p) x:=by
 have h1:=W3 h hn;have h2:=h.lt h1.1;refine⟨⟨by simp[Qm],by simpa[Qm]using h2.1,h2.2⟩,by simpa[Qm]using h1.1,fun x hx hm=> ?_⟩;rcases h1.2 _ _ hm with⟨e1,e2⟩|hlt
 ·left;unfold Qm;rw[e1,e2,show((x.ty.toNat:Nat):Int)=x.ty by have:=hx.1;omega]
 ·right;have:=g0k hlt;have e:(⟨(x.ty.toNat:Int),x.num⟩:Sy)=x:=by rw[show((x.ty.toNat:Nat):Int)=x.ty by have:=hx.1;omega]
  rw[e]at this;exact this
theorem A7{a b:Aut}(ha:Dfa a)(hb:Dfa b)(ht:b.types=a.types){s:Int×Int}(h1:inS a s.1)(h2:inS b s.2):
  (∀e∈Wi a b s,Wv a e.1∧e.2=Yk a b s e.1)∧∀y,Wv a y→∃e∈Wi a b s,e.2=Yk a b s y∧(e.1=y∨sLt e.1 y):=by
 have z1:∀x,Wv a x→Wv b x:=fun x hx=>by unfold Wv at *;rw[ht];exact hx
 have z7:∀ {m n:Mv},m∈a.mv→n∈b.mv→PWf a.types.toNat m.on∧PWf a.types.toNat n.on:=fun hm hn=>⟨ha.ok.wfA.on _ hm,by rw[←ht];exact hb.ok.wfA.on _ hn⟩
 constructor
 ·intro e he;obtain⟨m,hm,n,hn,hv,rfl⟩:=Si.1 he;obtain⟨m1,m2,_⟩:=Eo.1 hm;obtain⟨n1,n2,_⟩:=Eo.1 hn;obtain⟨w1,w2⟩:=z7 m1 n1;have hw:=Yc w1 w2.1;obtain⟨k1,k2,_⟩:=Pe hw ((Yh hw).1 hv);have hk:=K8.1 k1;obtain⟨p1,p2⟩:=(Ep w1.1 w2.1 _ _).1 k2;refine⟨hk,?_⟩;unfold Yk;rw[←m2,←n2,ha.to_of m1 hk ((E9 w1.1 _ hk.1.1).2 p1),hb.to_of n1 (z1 _ hk) ((E9 w2.1 _ hk.1.1).2 p2)]
 ·intro y hy;obtain⟨m,m1,m2,m3,m4⟩:=ha.move h1 hy;obtain⟨n,n1,n2,n3,n4⟩:=hb.move h2 (z1 y hy);obtain⟨w1,w2⟩:=z7 m1 n1;have hw:=Yc w1 w2.1;have p1:=(E9 w1.1 y hy.1.1).1 m3;have p2:=(E9 w2.1 y hy.1.1).1 n3;have z6:=(Ep w1.1 w2.1 _ _).2 ⟨p1,p2⟩;have hv:=(Yh hw).2 ⟨_,_,z6⟩;refine⟨_,Si.2 ⟨m,Eo.2 ⟨m1,m2,(Yh w1).2 ⟨_,_,p1⟩⟩,n,Eo.2 ⟨n1,n2,(Yh w2).2 ⟨_,_,p2⟩⟩,hv,rfl⟩,?_,(Pe hw ⟨_,_,z6⟩).2.2 y (K8.2 hy) z6⟩;unfold Yk;rw[m4,n4]
def lkN(near:List ((Int×Int)×Nat))(s:Int×Int):Option Nat:=(near.find? fun e=>decide (e.1=s)).map (·.2)
def Hu(a:Aut)(near:List ((Int×Int)×Nat))(d:Nat)(s:Int×Int):Bool:=match d with
 |0=>Tu a a s
 |d+1=>(Wi a a s).any fun e=>decide (lkN near e.2=some d)
def Tl(a:Aut)(near:List ((Int×Int)×Nat))(d:Nat):List (Int×Int):=(Pk a a).filter fun s=>decide (lkN near s=none) && Hu a near d s
def Jg(a:Aut):Nat→Nat→List ((Int×Int)×Nat)→List ((Int×Int)×Nat)
 |0,_,near=>near
 |f+1,d,near=>if Tl a near d=[]then near else Jg a f (d+1) (near++(Tl a near d).map fun s=>(s,d))
def En(a:Aut):List ((Int×Int)×Nat):=Jg a (a.fin.length * a.fin.length+1) 1 ((Tl a [] 0).map fun s=>(s,0))
def inP(a:Aut)(s:Int×Int):Prop:=inS a s.1∧inS a s.2
def D3(a:Aut)(s:Int×Int)(d:Nat):Prop:=∃w:List Sy,w.length=d∧(∀x∈w,Wv a x)∧Tu a a (Yy (Yk a a) s w)=true
def Un(a:Aut)(s:Int×Int)(d:Nat):Prop:=D3 a s d∧∀k,k<d→¬D3 a s k
theorem Ha{a:Aut}{s:Int×Int}:D3 a s 0↔Tu a a s=true:=by
 constructor
 ·rintro⟨w,hw,_,h⟩;obtain rfl:=List.length_eq_zero_iff.1 hw;exact h
 ·intro h;exact⟨[],rfl,by simp,h⟩
theorem Aq{a:Aut}{s:Int×Int}{d:Nat}:D3 a s (d+1)↔∃y,Wv a y∧D3 a (Yk a a s y) d:=by
 constructor
 ·rintro⟨w,hw,ho,h⟩;cases w with
  |nil=>cases hw
  |cons y w=>exact⟨y,ho y (by simp),w,by simpa using hw,fun x hx=>ho x (by simp[hx]),h⟩
 ·rintro⟨y,hy,w,hw,ho,h⟩;exact⟨y::w,by simp[hw],fun x hx=>(yB.1 hx).elim (fun e=>by rw[e];exact hy) (ho x),h⟩
theorem Jp{a:Aut}{s:Int×Int}{d k:Nat}(h:Un a s d)(h':Un a s k):d=k:=by
 rcases Nat.lt_trichotomy d k with hlt|e|hlt
 ·exact absurd h.1 (h'.2 d hlt)
 ·exact e
 ·exact absurd h'.1 (h.2 k hlt)
theorem q07{a:Aut}{s:Int×Int}:∀(d:Nat),D3 a s d→∃k,k≤d∧Un a s k:=by
 intro d;induction d using Nat.strongRecOn with
 |_ d ih=>
  intro h;by_cases hk:∃k,k<d∧D3 a s k
  ·obtain⟨k,h1,h2⟩:=hk;obtain⟨j,h3,h4⟩:=ih k h1 h2;exact⟨j,by omega,h4⟩
  ·exact⟨d,zR _,h,fun k h1 h2=>hk ⟨k,h1,h2⟩⟩
theorem Sz{a:Aut}{s:Int×Int}{d:Nat}(h:Un a s (d+1)):∃y,Wv a y∧Un a (Yk a a s y) d:=by obtain⟨y,hy,h1⟩:=Aq.1 h.1;refine⟨y,hy,h1,fun k hk h2=> ?_⟩;exact h.2 (k+1) (by omega) (Aq.2 ⟨y,hy,h2⟩)
theorem Sx{a:Aut}(ha:Dfa a){s:Int×Int}(hs:inP a s){y:Sy}(hy:Wv a y):inP a (Yk a a s y):=⟨(ha.next hs.1 hy).1,(ha.next hs.2 hy).1⟩
structure NInv (a:Aut) (d:Nat) (near:List ((Int×Int)×Nat)):Prop where
 lk:∀s,inP a s→∀k,lkN near s=some k↔(k<d∧Un a s k)
 keys:(near.map (·.1)).Nodup
 dom:∀e∈near,e.1∈Pk a a
theorem u1t(A:List ((Int×Int)×Nat))(B:List (Int×Int))(d:Nat)(s:Int×Int):lkN (A++B.map fun t=>(t,d)) s=match lkN A s with|some k=>some k|none=>if s∈B then some d else none:=by
 unfold lkN;rw[List.find?_append];cases hA:A.find? fun e=>decide (e.1=s)with
 |some e=>rfl
 |none=>
  simp only[Option.none_or,Option.map_none];by_cases hs:s∈B
  ·rw[if_pos hs];obtain⟨e,he⟩:=Option.isSome_iff_exists.1 (List.find?_isSome.2 ⟨(s,d),zT.2 ⟨s,hs,rfl⟩,by simp⟩:(List.find? (fun e:(Int×Int)×Nat=>decide (e.1=s)) (B.map fun t=>(t,d))).isSome);rw[he];obtain⟨t,_,rfl⟩:=zT.1 (uL he);rfl
  ·rw[if_neg hs];rw[vW.2 (fun e he=>by
    obtain⟨t,ht,rfl⟩:=zT.1 he;simp only[decide_eq_true_eq];rintro rfl;exact hs ht)]
   rfl
theorem D8{A:List ((Int×Int)×Nat)}{s:Int×Int}:lkN A s=none↔s∉A.map (·.1):=by
 unfold lkN;rw[Option.map_eq_none_iff,vW];constructor
 ·intro h hs;obtain⟨e,he,rfl⟩:=zT.1 hs;exact h e he (by simp)
 ·intro h e he;simp only[decide_eq_true_eq];rintro rfl;exact h (zT.2 ⟨e,he,rfl⟩)
theorem f0w{a:Aut}{s:Int×Int}(h:s∈Pk a a):inP a s:=by obtain⟨i,hi,hs⟩:=wI.1 h;obtain⟨j,hj,rfl⟩:=zT.1 hs;exact⟨W1.1 hi,W1.1 hj⟩
theorem Kq(a:Aut):(Pk a a).Nodup:=by have hr:∀n,(W6 n).Nodup:=fun n=>(Am n).imp (fun h e=>by omega);unfold Pk List.Nodup;rw[List.pairwise_flatMap];refine⟨fun i _=>xZ.2 ((hr _).imp fun h e=>h (Prod.mk.inj e).2),(hr _).imp fun {i j} hij x hx y hy e=> ?_⟩;obtain⟨u,_,rfl⟩:=zT.1 hx;obtain⟨v,_,rfl⟩:=zT.1 hy;exact hij (Prod.mk.inj e).1
theorem Hm{a:Aut}(ha:Dfa a){d:Nat}{near:List ((Int×Int)×Nat)}(h:NInv a d near){s:Int×Int}:s∈Tl a near d↔inP a s∧Un a s d:=by
 unfold Tl;rw[xM];simp only[yR,decide_eq_true_eq];have z1:∀s,inP a s→(lkN near s=none↔∀k,k<d→¬D3 a s k):=fun s hs=>by
  constructor
  ·intro hn k hk hd;obtain⟨j,h1,h2⟩:=q07 k hd;have:=(h.lk s hs j).2 ⟨by omega,h2⟩;rw[hn]at this;cases this
  ·intro hk;cases hl:lkN near s with
   |none=>rfl
   |some k=>obtain⟨h1,h2⟩:=(h.lk s hs k).1 hl;exact absurd h2.1 (hk k h1)
 constructor
 ·rintro⟨h1,h2,h3⟩;have hs:=f0w h1;have hk:=(z1 s hs).1 h2;refine⟨hs,?_,hk⟩;cases d with
  |zero=>exact Ha.2 h3
  |succ d=>simp only[Hu,wS,decide_eq_true_eq]at h3;obtain⟨e,he,hl⟩:=h3;obtain⟨e1,e2⟩:=(A7 ha ha rfl hs.1 hs.2).1 e he;rw[e2]at hl;exact Aq.2 ⟨e.1,e1,((h.lk _ (Sx ha hs e1) d).1 hl).2.1⟩
 ·rintro⟨hs,h2⟩;refine⟨Hw hs.1 hs.2,(z1 s hs).2 h2.2,?_⟩;cases d with
  |zero=>exact Ha.1 h2.1
  |succ d=>obtain⟨y,hy,hm⟩:=Sz h2;obtain⟨e,he,e1,_⟩:=(A7 ha ha rfl hs.1 hs.2).2 y hy;simp only[Hu,wS,decide_eq_true_eq];exact⟨e,he,by rw[e1];exact(h.lk _ (Sx ha hs hy) d).2 ⟨by omega,hm⟩⟩
theorem NInv.step{a:Aut}(ha:Dfa a){d:Nat}{near:List ((Int×Int)×Nat)}(h:NInv a d near):NInv a (d+1) (near++(Tl a near d).map fun s=>(s,d)):=by
 refine⟨fun s hs k=> ?_,?_,fun e he=> ?_⟩
 ·rw[u1t];cases hl:lkN near s with
  |some j=>
   obtain⟨h1,h2⟩:=(h.lk s hs j).1 hl;simp only[Option.some.injEq];constructor
   ·rintro rfl;exact⟨by omega,h2⟩
   ·rintro⟨_,h3⟩;exact Jp h2 h3
  |none=>
   simp only;have z1:∀k,k<d→¬Un a s k:=fun k hk hm=>by have:=(h.lk s hs k).2 ⟨hk,hm⟩;rw[hl]at this;cases this
   by_cases hf:s∈Tl a near d
   ·rw[if_pos hf];have hm:=((Hm ha h).1 hf).2;simp only[Option.some.injEq];constructor
    ·rintro rfl;exact⟨by omega,hm⟩
    ·rintro⟨_,h3⟩;exact Jp hm h3
   ·rw[if_neg hf];constructor
    ·intro hc;cases hc
    ·rintro⟨h1,h3⟩;by_cases hkd:k<d
     ·exact absurd h3 (z1 k hkd)
     ·have:k=d:=by omega
      subst this;exact absurd ((Hm ha h).2 ⟨hs,h3⟩) hf
 ·rw[yZ,List.map_map,vG];refine⟨h.keys,?_,fun x hx y hy e=> ?_⟩
  ·have:(Tl a near d).map ((·.1)∘fun s=>(s,d))=Tl a near d:=by exact(xL (g:=id) (fun _ _=>rfl)).trans (List.map_id _)
   rw[this];exact(Kq a).filter _
  ·subst e;obtain⟨t,ht,rfl⟩:=zT.1 hy;have:=(xM.1 ht).2;simp only[yR,decide_eq_true_eq]at this;exact D8.1 this.1 hx
 ·rcases zU.1 he with he|he
  ·exact h.dom e he
  ·obtain⟨t,ht,rfl⟩:=zT.1 he;exact(xM.1 ht).1
theorem K9{a:Aut}(ha:Dfa a):∀(k d:Nat) (s:Int×Int),inP a s→Un a s (d+k)→∃t,inP a t∧Un a t d
 |0,_,s,hs,h=>⟨s,hs,h⟩
 |k+1,d,s,hs,h=>by obtain⟨y,hy,hm⟩:=Sz (d:=d+k) h;exact K9 ha k d _ (Sx ha hs hy) hm
theorem k0u{a:Aut}(ha:Dfa a):∀(f d:Nat) (near:List ((Int×Int)×Nat)),a.fin.length * a.fin.length+1≤near.length+f→NInv a d near→∀s,inP a s→∀k,lkN (Jg a f d near) s=some k↔Un a s k
 |0,d,near,hf,h=>by
  exfalso;have:=Ib _ (Pk a a) h.keys (fun s hs=>by
   obtain⟨e,he,rfl⟩:=zT.1 hs;exact h.dom e he)
  rw[P3,yK]at this;omega
 |f+1,d,near,hf,h=>by
  rw[Jg];by_cases he:Tl a near d=[]
  ·rw[if_pos he];intro s hs k;rw[h.lk s hs k];refine⟨fun hk=>hk.2,fun hm=>⟨?_,hm⟩⟩;by_cases hkd:k<d
   ·exact hkd
   ·exfalso;obtain⟨t,ht,z1⟩:=K9 ha (k - d) d s hs (by rw[show d+(k - d)=k by omega];exact hm);have:=(Hm ha h).2 ⟨ht,z1⟩;rw[he]at this;cases this
  ·rw[if_neg he];have hl:=List.length_pos_iff.2 he;exact k0u ha f (d+1) _ (by simp;omega) (h.step ha)
theorem Ao{a:Aut}(ha:Dfa a):∀s,inP a s→∀k,lkN (En a) s=some k↔Un a s k:=by
 have h0:NInv a 0 []:=⟨fun s _ k=>by simp[lkN],by simp,by simp⟩
 have h1:=h0.step ha;rw[vJ]at h1;exact k0u ha _ 1 _ (by omega) h1
def Cm(x y:Sy):Bool:=decide (x.ty<y.ty) || (decide (x.ty=y.ty) && decide (x.num<y.num))
def u0z(es:List (Sy×(Int×Int))):Option (Sy×(Int×Int)):=es.foldl (fun b e=>match b with|none=>some e|some c=>if Cm e.1 c.1 then some e else some c) none
theorem x13(x y:Sy):Cm x y=true↔sLt x y:=by simp[Cm,sLt]
theorem Gr:∀(es:List (Sy×(Int×Int))) (c:Sy×(Int×Int)),∃e,es.foldl (fun b e=>match b with|none=>some e|some c=>if Cm e.1 c.1 then some e else some c) (some c)=some e∧(e=c∨e∈es)∧(e.1=c.1∨sLt e.1 c.1)∧∀f∈es,e.1=f.1∨sLt e.1 f.1
 |[],c=>⟨c,rfl,.inl rfl,.inl rfl,by simp⟩
 |f::es,c=>by
  rw[List.foldl_cons];simp only;cases hb:Cm f.1 c.1 with
  |true=>
   rw[if_pos rfl];have z6:=(x13 _ _).1 hb;obtain⟨e,h1,h2,h3,h4⟩:=Gr es f;refine⟨e,h1,.inr ?_,.inr ?_,fun g hg=> ?_⟩
   ·rcases h2 with rfl|h2
    ·simp
    ·simp[h2]
   ·rcases h3 with h3|h3
    ·rw[h3];exact z6
    ·exact h3.trans z6
   ·rcases yB.1 hg with rfl|hg
    ·exact h3
    ·exact h4 g hg
  |false=>
   rw[if_neg (by simp)];obtain⟨e,h1,h2,h3,h4⟩:=Gr es c;refine⟨e,h1,h2.imp id (fun h=>List.mem_cons_of_mem _ h),h3,fun g hg=> ?_⟩;rcases yB.1 hg with rfl|hg
   ·have hn:¬sLt g.1 c.1:=fun h=>by rw[(x13 _ _).2 h]at hb;cases hb
    have z1:c.1=g.1∨sLt c.1 g.1:=by
     rcases sLt.tri g.1 c.1 with h|h|h
     ·exact absurd h hn
     ·exact .inl h.symm
     ·exact .inr h
    rcases h3 with h3|h3
    ·rw[h3];exact z1
    ·rcases z1 with z1|z1
     ·rw[←z1];exact .inr h3
     ·exact .inr (h3.trans z1)
   ·exact h4 g hg
theorem V6{es:List (Sy×(Int×Int))}(h:es≠[]):∃e,u0z es=some e∧e∈es∧∀f∈es,e.1=f.1∨sLt e.1 f.1:=by
 cases es with
 |nil=>exact absurd rfl h
 |cons c es=>
  obtain⟨e,h1,h2,h3,h4⟩:=Gr es c;refine⟨e,h1,by rcases h2 with rfl|h2<;>simp[*],fun f hf=> ?_⟩;rcases yB.1 hf with rfl|hf
  ·exact h3
  ·exact h4 f hf
def T0(a:Aut)(near:List ((Int×Int)×Nat)):Nat→Int×Int→List Sy
 |0,_=>[]
 |d+1,s=>match u0z ((Wi a a s).filter fun e=>decide (lkN near e.2=some d))with
  |some e=>e.1::T0 a near d e.2
  |none=>⟨0,0⟩::T0 a near d (0,0)
theorem j1p{x y:Sy}{v w:List Sy}(h:x=y∨sLt x y)(hl:v.length=w.length)(hv:x=y→lle v w):lle (x::v) (y::w):=by
 rcases h with rfl|h
 ·rcases hv rfl with rfl|hv
  ·exact .inl rfl
  ·rcases hv with hv|⟨h1,h2⟩
   ·omega
   ·exact .inr (.inr ⟨by simp[h1],.inr ⟨rfl,h2⟩⟩)
 ·exact .inr (.inr ⟨by simp[hl],.inl h⟩)
theorem F9{a:Aut}(ha:Dfa a){near:List ((Int×Int)×Nat)}(hn:∀s,inP a s→∀k,lkN near s=some k↔Un a s k):∀(d:Nat) (s:Int×Int),inP a s→Un a s d→(T0 a near d s).length=d∧x1d a a s.1 s.2 (T0 a near d s)
 |0,s,hs,h=>⟨rfl,by simp[T0],Ha.1 h.1,fun v hv hg=>by
   cases v with
   |nil=>exact .inl rfl
   |cons x v=>exact .inr (.inl (by simp[T0]))⟩
 |d+1,s,hs,h=>by
  obtain⟨y,hy,hm⟩:=Sz h;obtain⟨e0,z8,za,_⟩:=(A7 ha ha rfl hs.1 hs.2).2 y hy;have zb:(Wi a a s).filter (fun e=>decide (lkN near e.2=some d))≠[]:=List.ne_nil_of_mem (xM.2 ⟨z8,by
   rw[za];simpa using(hn _ (Sx ha hs hy) d).2 hm⟩)
  obtain⟨e,h1,h2,h3⟩:=V6 zb;obtain⟨zc,zd⟩:=xM.1 h2;obtain⟨e1,e2⟩:=(A7 ha ha rfl hs.1 hs.2).1 e zc;have z1:inP a e.2:=by rw[e2];exact Sx ha hs e1
  have ze:Un a e.2 d:=(hn _ z1 d).1 (by simpa using zd);obtain⟨i1,i2⟩:=F9 ha hn d e.2 z1 ze;rw[T0,h1];simp only;refine⟨by simp[i1],fun x hx=> ?_,?_,fun v hv hg=> ?_⟩
  ·rcases yB.1 hx with rfl|hx
   ·exact e1
   ·exact i2.okw x hx
  ·have:=i2.goodw;show Tu a a (Yy (Yk a a) (Yk a a s e.1) (T0 a near d e.2))=true;rw[←e2];exact this
  ·by_cases hlen:v.length=d+1
   ·cases v with
    |nil=>cases hlen
    |cons z v=>
     have hz:=hv z (by simp);have z6:v.length=d:=by simpa using hlen
     have z7:Tu a a (Yy (Yk a a) (Yk a a s z) v)=true:=hg;have zf:Un a (Yk a a s z) d:=by refine⟨⟨v,z6,fun x hx=>hv x (by simp[hx]),z7⟩,fun k hk hd=> ?_⟩;exact h.2 (k+1) (by omega) (Aq.2 ⟨z,hz,hd⟩)
     obtain⟨f,hf,f1,f2⟩:=(A7 ha ha rfl hs.1 hs.2).2 z hz;have zg:f∈(Wi a a s).filter (fun e=>decide (lkN near e.2=some d)):=xM.2 ⟨hf,by
      rw[f1];simpa using(hn _ (Sx ha hs hz) d).2 zf⟩
     have hle:e.1=z∨sLt e.1 z:=by
      rcases h3 f zg with h4|h4
      ·rcases f2 with f2|f2
       ·exact .inl (h4.trans f2)
       ·rw[h4];exact .inr f2
      ·rcases f2 with f2|f2
       ·rw[←f2];exact .inr h4
       ·exact .inr (h4.trans f2)
     refine j1p hle (by rw[i1,z6]) fun zh=> ?_;refine i2.least v (fun x hx=>hv x (by simp[hx])) ?_;show Tu a a (Yy (Yk a a) e.2 v)=true;rw[e2,zh];exact z7
   ·have zi:d+1≤v.length:=by
     by_cases hlt:v.length<d+1
     ·exact absurd ⟨v,rfl,hv,hg⟩ (h.2 _ hlt)
     ·omega
    exact .inr (.inl (by simp[i1];omega))
theorem N3{a:Aut}(ha:Dfa a){p q:Int}(hp:inS a p)(hq:inS a q):(P7 a a p q).1=(lkN (En a) (p,q)).map fun d=>T0 a (En a) d (p,q):=by
 have hn:=Ao ha;have z1:inP a (p,q):=⟨hp,hq⟩
 rcases He ha ha rfl hp hq with⟨w,h1,h2⟩|⟨h1,h2⟩
 ·obtain⟨d,_,hm⟩:=q07 (a:=a) (s:=(p,q)) w.length ⟨w,rfl,h2.okw,h2.goodw⟩;rw[h1,(hn _ z1 d).2 hm,Option.map_some,h2.unique (F9 ha hn d _ z1 hm).2]
 ·rw[h1];cases hl:lkN (En a) (p,q)with
  |none=>rfl
  |some d=>exfalso;obtain⟨w,_,hw,hg⟩:=((hn _ z1 d).1 hl).1;exact(Ae a a p q w).1 hg (h2 w hw)
end Go.Abs
namespace Go.Abs
open Go Go.Proofs
theorem w2x{T:Nat}{p:Prd}(h:PWf T p){s:List Iv}(hs:s∈p):∀x∈s,Sb x:=w0i (h.2 s hs).1 (h.2 s hs).2
attribute [local irreducible] Gl Es
theorem Gg:∀(p:Prd) (i:Nat),(∃s∈p,s≠[])→∃t x r,p[t]? =some (x::r)∧Qx p i=(i+t,x.lo)∧∀j,j<t→p[j]? =some []
 |[],i,h=>by obtain⟨s,hs,_⟩:=h;cases hs
 |[]::p,i,h=>by
  obtain⟨t,x,r,h1,h2,h3⟩:=Gg p (i+1) (by obtain⟨s,hs,hn⟩:=h;rcases yB.1 hs with rfl|hs;exact absurd rfl hn;exact⟨s,hs,hn⟩);refine⟨t+1,x,r,by simpa using h1,by rw[Qx,h2];congr 1;omega,fun j hj=> ?_⟩;cases j with
  |zero=>rfl
  |succ j=>simpa using h3 j (by omega)
 |(x::r)::p,i,_=>⟨0,x,r,rfl,by simp[Qx],fun j hj=>by omega⟩
theorem w11(T:Int)(x:Sy):PC Tryz.prog 150 [.i T,encSy x] (fun r=>r= .i (Sq T x)):=by
 refine Qk tOk Tryz.func150 rfl Tryz.results150 rfl (by simp[Tryz.ntmps150]) ?_;rw[Tryz.ntmps150];simp only[Qg];simp only[encSy];repeat first|(refine r_ ?_;simp)|refine q_ ?_
 refine Qb rfl (fun h=> ?_) (fun h=> ?_)
 ·repeat first|(refine r_ ?_;simp)|refine q_ ?_
  rw[Sq,if_pos (by simpa using h)]
 have h1:¬(x.ty<0∨T≤x.ty):=by simpa using h
 repeat first|(refine r_ ?_;simp)|refine q_ ?_
 refine Qb rfl (fun h=> ?_) (fun h=> ?_)
 ·repeat first|(refine r_ ?_;simp)|refine q_ ?_
  rw[Sq,if_neg h1,if_pos (by simpa using h)]
 have h2:¬(x.num< -1099511627776∨1099511627776<x.num):=by simpa using h
 repeat first|(refine r_ ?_;simp)|refine q_ ?_
 rw[Sq,if_neg h1,if_neg h2]
end Go.Abs
namespace Go.Abs
open Go Go.Proofs
attribute [local irreducible] Gl Es upL Ez
end Go.Abs
namespace Go.Abs
open Go Go.Proofs
attribute [local irreducible] O7
theorem y1x(p:Prd)(x:Sy)(hl:∀s∈p,s.length≤1000000000):PC Tryz.prog 127 [encP p,encSy x] (fun r=>r= .bool (E8 p x)):=by
 refine Qk tOk Tryz.func127 rfl Tryz.results127 rfl (by simp[Tryz.ntmps127]) ?_;rw[Tryz.ntmps127];simp only[Qg];simp only[encP,encSy];repeat first|(refine r_ ?_;simp)|refine q_ ?_
 by_cases h0:0≤x.ty
 ·by_cases h1:x.ty<p.length
  ·have h2:x.ty.toNat<p.length:=by omega
   refine Qs tOk mixed [] (.val 0 (.val 1 (.val 2 (.val 3 (.val 4 (.val 5 (.val 6 (.val 7 (.val 8 (.val 9 (.val 10 (.val 11 (.val 12 (.val 13 (.val 14 (.val 15 (.val 16 (.val 17 (.val 18 (.val 19 (.one 20 (.val 21 (.val 22 (.done)))))))))))))))))))))))) rfl (by kernel_rfl) ?_;simp[h0,h1,h2];refine Qe rfl rfl (by simp) (j1d p[x.ty.toNat] x.num (hl _ (zL h2))) rfl ?_;rintro _ rfl;simp;repeat first|(refine r_ ?_;simp[h0,h1,h2])|refine q_ ?_
   simp[E8,h0,h1,yS,h2]
  ·refine Qs tOk mixed [] (.val 0 (.val 1 (.val 2 (.val 3 (.val 4 (.val 5 (.val 6 (.val 7 (.val 8 (.val 9 (.val 10 (.val 11 (.val 12 (.val 13 (.val 14 (.val 15 (.val 16 (.val 17 (.val 18 (.val 19 (.one 20 (.val 21 (.val 22 (.done)))))))))))))))))))))))) rfl (by kernel_rfl) ?_;simp[h0,h1];refine We rfl rfl ?_;simp[h0,h1];repeat first|(refine r_ ?_;simp[h0,h1])|refine q_ ?_
   simp[E8,h0,h1]
 ·refine Qs tOk mixed [] (.val 0 (.val 1 (.val 2 (.val 3 (.val 4 (.val 5 (.val 6 (.val 7 (.val 8 (.val 9 (.val 10 (.val 11 (.val 12 (.val 13 (.val 14 (.val 15 (.val 16 (.val 17 (.val 18 (.val 19 (.one 20 (.val 21 (.val 22 (.done)))))))))))))))))))))))) rfl (by kernel_rfl) ?_;simp[h0];refine We rfl rfl ?_;simp[h0];repeat first|(refine r_ ?_;simp[h0])|refine q_ ?_
  simp[E8,h0]
def v0q(a:Aut)(i k:Nat):Bool:=decide ((a.mv.getD i default).src=(a.mv.getD k default).src) && v0n (a.mv.getD i default).on (a.mv.getD k default).on
theorem u0d{a:Aut}{i k:Nat}(hi:i<a.mv.length)(hk:k<i)(h:v0q a i k=true):z0m a=false:=by unfold z0m;rw[tq];refine⟨i,yV.2 hi,?_⟩;rw[Bool.not_eq_true,tq];exact⟨k,yV.2 hk,by unfold v0q at h;rw[h];simp⟩
theorem q16{a:Aut}(h:∀i,i<a.mv.length→∀k,k<i→v0q a i k=false):z0m a=true:=by unfold z0m;rw[zX];intro i hi;rw[zX];intro k hk;have:=h i (yV.1 hi) k (yV.1 hk);unfold v0q at this;rw[this];rfl
theorem q1h{a:Aut}{i k:Nat}(hi:i<a.mv.length)(hk:k<a.mv.length):v0q a i k=(decide (a.mv[i].src=a.mv[k].src) && v0n a.mv[i].on a.mv[k].on):=by simp[v0q,yS,hi,hk]
theorem Cf{a:Aut}(h:OkA a){m:Mv}(hm:m∈a.mv):∀s∈m.on,s.length≤256:=fun s hs=>((h.mv m hm).on.2 s hs).len
attribute [local irreducible] v0q v0n Eg Wp
def y1z(a:Aut):Bool×Int:=if Wk a=0 then(z0m a,0)else(false,Wk a)
end Go.Abs
namespace Go.Abs
open Go Go.Proofs
def ovl(x y:Iv):Bool:=decide (x.lo≤y.hi) && decide (y.lo≤x.hi)
def noC(p q:Prd)(i:Nat):Prop:=∀x∈p.getD i [],∀y∈q.getD i [],ovl x y=false
theorem u0s{T:Nat}{p q:Prd}(hp:PWf T p)(hq:PWf T q)(h:∀i,i<p.length→noC p q i):v0n p q=false:=by rw[wT,Ne,Lw hp hq];rintro⟨t,n,⟨s,hs,x,hx,h1,h2⟩,⟨s',z1,y,hy,h3,h4⟩⟩;have ht:=(zB.1 hs).1;have:=h t ht x (by rw[yS,hs];exact hx) y (by rw[yS,z1];exact hy);simp only[ovl,Bool.and_eq_false_iff,decide_eq_false_iff_not]at this;omega
theorem w15{T:Nat}{p q:Prd}(hp:PWf T p)(hq:PWf T q){i:Nat}(hi:i<p.length)(z1:i<q.length){x y:Iv}(hx:x∈p[i])(hy:y∈q[i])(h:ovl x y=true):v0n p q=true:=by
 rw[Lw hp hq];simp only[ovl,yR,decide_eq_true_eq]at h;have h1:=(hp.2 _ (zL hi)).1.1 x hx;have h2:=(hq.2 _ (zL z1)).1.1 y hy;by_cases hl:x.lo≤y.lo
 ·exact⟨i,y.lo,⟨p[i],zJ hi,x,hx,hl,h.2⟩,⟨q[i],zJ z1,y,hy,xO _,h2⟩⟩
 ·exact⟨i,x.lo,⟨p[i],zJ hi,x,hx,xO _,h1⟩,⟨q[i],zJ z1,y,hy,by omega,h.1⟩⟩
attribute [local irreducible] v0n
theorem g02(T:Nat)(p q:Prd)(hp:PWf T p)(hq:PWf T q)(zj:∀s∈p,s.length≤1000000000)(zk:∀s∈q,s.length≤1000000000)(hT:T≤1000):PC Tryz.prog 114 [encP p,encP q] (fun r=>r= .bool (v0n p q)):=by
 refine Qk tOk Tryz.func114 rfl Tryz.results114 rfl (by simp[Tryz.ntmps114]) ?_;rw[Tryz.ntmps114];simp only[Qg];simp only[encP];have hlen:=hp.1;have zg:=hq.1;repeat first|(refine r_ ?_;simp)|refine q_ ?_
 refine Qy p.length (fun i=>∀i',i'<i→noC p q i') (fun i=>[(3,.vptr 1 0),(12,.list (p.map encL)),(13,.i p.length),(14,.i i)]) (fun _=>[.vars [.list (p.map encL)],.vars [.list (q.map encL)]]) rfl (by simp) (by simp) (by simp) (by simp) (by simp) ?_;intro i hi hI ih;repeat first|(refine r_ ?_;simp)|refine q_ ?_
 refine Qb rfl (fun zl=> ?_) (fun zm=> ?_)
 ·have z1:i<p.length:=by simpa using zl
  have z6:i<q.length:=by omega
  have hw:IntKind.i64.wrap ((i:Int)+1)=i+1:=wrap_i64 _ (by omega) (by omega);have zx:=zj _ (zL z1);have zy:=zk _ (zL z6);repeat first|(refine r_ ?_;simp[z1])|refine q_ ?_
  refine Qy p[i].length (fun u=>∀u',u'<u→∀h:u'<p[i].length,∀y∈q[i],ovl p[i][u'] y=false) (fun u=>[(3,.vptr 1 0),(5,.i i),(12,.list (p.map encL)),(13,.i p.length),(14,.i i),(19,LIv p[i]),(20,.i p[i].length),(21,.i u)]) (fun _=>[.vars [.list (p.map encL)],.vars [.list (q.map encL)]]) rfl (by simp) (by simp) (by simp) (by simp) (by simp) ?_;intro u hu zh zn;repeat first|(refine r_ ?_;simp)|refine q_ ?_
  refine Qb rfl (fun z7=> ?_) (fun z8=> ?_)
  ·have za:u<p[i].length:=by simpa using z7
   have zo:IntKind.i64.wrap ((u:Int)+1)=u+1:=wrap_i64 _ (by omega) (by omega);repeat first|(refine r_ ?_;simp[za,z6])|refine q_ ?_
   refine Qy q[i].length (fun v=>∀v',v'<v→∀h:v'<q[i].length,ovl p[i][u] q[i][v']=false) (fun v=>[(3,.vptr 1 0),(5,.i i),(8,.vptr 2 0),(12,.list (p.map encL)),(13,.i p.length),(14,.i i),(19,LIv p[i]),(20,.i p[i].length),(21,.i u),(29,LIv q[i]),(30,.i q[i].length),(31,.i v)]) (fun _=>[.vars [.list (p.map encL)],.vars [.list (q.map encL)],.vars [.i p[i][u].lo,.i p[i][u].hi]]) rfl (by simp) (by simp) (by simp) (by simp) (by simp) ?_;intro v hv zi zp;repeat first|(refine r_ ?_;simp)|refine q_ ?_
   refine Qb rfl (fun zb=> ?_) (fun zc=> ?_)
   ·have zd:v<q[i].length:=by simpa using zb
    have zq:IntKind.i64.wrap ((v:Int)+1)=v+1:=wrap_i64 _ (by omega) (by omega);repeat first|(refine r_ ?_;simp[zd])|refine q_ ?_
    refine Qb rfl (fun h=> ?_) (fun h=> ?_)
    ·repeat first|(refine r_ ?_;simp)|refine q_ ?_
     rw[w15 hp hq z1 z6 (zL za) (zL zd) (by simpa[ovl]using h)]
    ·repeat first|(refine r_ ?_;simp[zq])|refine q_ ?_
     refine Qz _ (zp zd (fun v' ze zr=> ?_)) rfl (by simp) ?_ (by simp) (by simp)
     ·by_cases e:v'=v
      ·subst e;simpa[ovl]using h
      ·exact zi v' (by omega) zr
     ·simp
   ·have zt:v=q[i].length:=by simp at zc;omega
    subst zt;repeat first|(refine r_ ?_;simp[zo])|refine q_ ?_
    refine Qz _ (zn za (fun u' zf zu y hy=> ?_)) rfl (by simp) ?_ (by simp) (by simp)
    ·by_cases e:u'=u
     ·subst e;obtain⟨v',ze,rfl⟩:=xB hy;exact zi v' ze ze
     ·exact zh u' (by omega) zu y hy
    ·simp
  ·have zv:u=p[i].length:=by simp at z8;omega
   subst zv;repeat first|(refine r_ ?_;simp[hw])|refine q_ ?_
   refine Qz _ (ih z1 (fun i' zz=> ?_)) rfl (by simp) ?_ (by simp) (by simp)
   ·by_cases e:i'=i
    ·subst e;intro x hx y hy;rw[Wx z1]at hx;rw[Wx z6]at hy;obtain⟨u',zf,rfl⟩:=xB hx;exact zh u' zf zf y hy
    ·exact hI i' (by omega)
   ·simp
 ·have zw:i=p.length:=by simp at zm;omega
  subst zw;repeat first|(refine r_ ?_;simp)|refine q_ ?_
  rw[u0s hp hq hI]
attribute [local irreducible] v0q
theorem g1q(a:Aut):PC Tryz.prog 49 [encA a] (fun r=>r= .tup [.bool (y1z a).1,.i (y1z a).2]):=by
 refine Qk tOk Tryz.func49 rfl Tryz.results49 rfl (by simp[Tryz.ntmps49]) ?_;rw[Tryz.ntmps49];simp only[Qg];simp only[encA];repeat first|(refine r_ ?_;simp)|refine q_ ?_
 refine Qe rfl rfl (by simp) (Y4 a) rfl ?_;rintro _ rfl;simp;repeat first|(refine r_ ?_;simp)|refine q_ ?_
 refine Qb rfl (fun h=> ?_) (fun h=> ?_)
 ·repeat first|(refine r_ ?_;simp)|refine q_ ?_
  rw[y1z,if_neg (by simpa using h)];exact⟨rfl,rfl⟩
 have h0:Wk a=0:=by simpa using h
 have z8:=(U4 a).1 h0;have zt:=z8.mvs;rw[y1z,if_pos h0];repeat first|(refine r_ ?_;simp)|refine q_ ?_
 refine Qy a.mv.length (fun j=>∀i,i<j→∀k,k<i→v0q a i k=false) (fun j=>[(1,.vptr 0 0),(15,.list (a.mv.map encMv)),(16,.i a.mv.length),(17,.i j)]) (fun _=>[.vars (Q7 a)]) rfl (by simp) (by simp) (by simp) (by simp) (by simp) ?_;intro j hj hI ih;repeat first|(refine r_ ?_;simp)|refine q_ ?_
 refine Qb rfl (fun zq=> ?_) (fun zr=> ?_)
 ·have z1:j<a.mv.length:=by simpa using zq
  have hw:IntKind.i64.wrap ((j:Int)+1)=j+1:=wrap_i64 _ (by omega) (by omega);have ze:j≤a.mv.length:=hj;have z7:min j a.mv.length=j:=by omega
  repeat first|(refine r_ ?_;simp[z1,ze,z7])|refine q_ ?_
  refine Qy j (fun k=>∀k',k'<k→v0q a j k'=false) (fun k=>[(1,.vptr 0 0),(6,.vptr 1 0),(15,.list (a.mv.map encMv)),(16,.i a.mv.length),(17,.i j),(25,.list (u7 j (a.mv.map encMv))),(26,.i j),(27,.i k)]) (fun _=>[.vars (Q7 a),.vars [.i a.mv[j].src,.i a.mv[j].dst,.list (a.mv[j].on.map encL)]]) rfl (by simp) (by simp) (by simp) (by simp) (by simp) ?_;intro k hk zj zk;repeat first|(refine r_ ?_;simp)|refine q_ ?_
  refine Qb rfl (fun zf=> ?_) (fun zg=> ?_)
  ·have za:k<j:=by simpa using zf
   have zb:k<a.mv.length:=by omega
   have zl:IntKind.i64.wrap ((k:Int)+1)=k+1:=wrap_i64 _ (by omega) (by omega);have z6:=q1h (a:=a) z1 zb;have zm:v0q a j k=false→∀k',k'<k+1→v0q a j k'=false:=fun hb k' zh=>by
    by_cases e:k'=k
    ·rw[e];exact hb
    ·exact zj k' (by omega)
   have zn:(u7 j (a.mv.map encMv))[k]? =some (encMv a.mv[k]):=by rw[List.getElem?_take_of_lt za];simp[zb]
   by_cases he:a.mv[j].src=a.mv[k].src
   ·rw[decide_eq_true he,vX]at z6;have zc:(a.mv[j].src==a.mv[k].src)=true:=by simpa using he
    repeat first|(refine r_ ?_;simp[zn,za,zb,z7,zc])|refine q_ ?_
    have zo:=zL z1;have zp:=zL zb;refine Qe rfl rfl (by simp) (g02 a.types.toNat a.mv[j].on a.mv[k].on (z8.mv _ zo).on.wf (z8.mv _ zp).on.wf (fun s hs=>by have:=Cf z8 zo s hs;omega) (fun s hs=>by have:=Cf z8 zp s hs;omega) (by have:=z8.types;omega)) rfl ?_;rintro _ rfl;simp;repeat first|(refine r_ ?_;simp)|refine q_ ?_
    refine Qb rfl (fun h3=> ?_) (fun h3=> ?_)
    ·repeat first|(refine r_ ?_;simp)|refine q_ ?_
     rw[u0d z1 za (by rw[z6];simpa using h3)]
    ·repeat first|(refine r_ ?_;simp[zl])|refine q_ ?_
     refine Qz _ (zk za (zm (by rw[z6];simpa using h3))) rfl (by simp) ?_ (by simp) (by simp);simp
   ·rw[decide_eq_false he,tN]at z6;have zc:(a.mv[j].src==a.mv[k].src)=false:=beq_eq_false_iff_ne.2 he;repeat first|(refine r_ ?_;simp[zn,za,zb,z7,zc])|refine q_ ?_
    refine We rfl rfl ?_;simp[zc];repeat first|(refine r_ ?_;simp[zc])|refine q_ ?_
    refine Qj rfl ?_;repeat first|(refine r_ ?_;simp[zl])|refine q_ ?_
    refine Qz _ (zk za (zm z6)) rfl (by simp) ?_ (by simp) (by simp);simp
  ·have zd:k=j:=by simp at zg;omega
   subst zd;repeat first|(refine r_ ?_;simp[hw])|refine q_ ?_
   refine Qz _ (ih z1 (fun i hi k' zh=> ?_)) rfl (by simp) ?_ (by simp) (by simp)
   ·by_cases e:i=k
    ·subst e;exact zj k' zh
    ·exact hI i (by omega) k' zh
   ·simp
 ·have zi:j=a.mv.length:=by simp at zr;omega
  subst zi;repeat first|(refine r_ ?_;simp)|refine q_ ?_
  rw[q16 hI]
end Go.Abs
namespace Go.Abs
open Go Go.Proofs
abbrev LI (l:List Int):AV:= .list (l.map (AV.int .i64))
def Zq{α:Type}(f:α→Bool)(l:List α):Int:=match l.findIdx? f with|some i=>i|none=> -1
theorem Zb{α:Type}{f:α→Bool}{l:List α}{j:Nat}(hj:j<l.length)(h:f l[j]=true)(hb:∀i,∀hi:i<l.length,i<j→f l[i]=false):Zq f l=j:=by unfold Zq;rw[xF.2 ⟨hj,h,fun i hi=>by rw[hb i (by omega) hi];simp⟩]
theorem D6{α:Type}{f:α→Bool}{l:List α}(hb:∀i,∀hi:i<l.length,i<l.length→f l[i]=false):Zq f l= -1:=by unfold Zq;rw[wV.2 (fun x hx=>by obtain⟨i,hi,rfl⟩:=xB hx;exact hb i hi hi)]
theorem v0x{α:Type}(f:α→Bool)(l:List α):decide (0≤Zq f l)=l.any f:=by
 unfold Zq;cases h:l.findIdx? f with
 |none=>
  rw[wV]at h;have:l.any f=false:=by rw[List.any_eq_false];intro x hx;rw[h x hx];simp
  rw[this];rfl
 |some i=>obtain⟨h1,h2,_⟩:=xF.1 h;have:l.any f=true:=wS.2 ⟨_,zL h1,h2⟩;rw[this];simp
theorem Mj(l:List Int)(v:Int):PC Tryz.prog 137 [LI l,.i v] (fun r=>r= .i (Zq (fun y=>v==y) l)):=by
 refine Qk tOk Tryz.func137 rfl Tryz.results137 rfl (by simp[Tryz.ntmps137]) ?_;rw[Tryz.ntmps137];simp only[Qg];refine Io 0 rfl (fun hlen=> ?_);rw[yK]at hlen;repeat first|(refine r_ ?_;simp)|refine q_ ?_
 refine Qy l.length (fun j=>∀i,∀hi:i<l.length,i<j→(v==l[i])=false) (fun j=>[(0,LI l),(1,.i v),(7,.i l.length),(8,.i j)]) (fun _=>[]) rfl (by simp) (by simp) (by simp) (by simp) (by simp) ?_;intro j hj hI ih;repeat first|(refine r_ ?_;simp)|refine q_ ?_
 refine Qb rfl (fun z7=> ?_) (fun z8=> ?_)
 ·have z1:j<l.length:=by simpa using z7
  have hw:IntKind.i64.wrap ((j:Int)+1)=j+1:=wrap_i64 _ (by omega) (by omega);repeat first|(refine r_ ?_;simp[z1])|refine q_ ?_
  refine Qb rfl (fun h=> ?_) (fun h=> ?_)
  ·repeat first|(refine r_ ?_;simp)|refine q_ ?_
   rw[Zb (f:=fun y=>v==y) z1 h hI]
  ·repeat first|(refine r_ ?_;simp[hw])|refine q_ ?_
   refine Qz _ (ih z1 (fun i hi za=> ?_)) rfl (by simp) ?_ (by simp) (by simp)
   ·by_cases e:i=j
    ·subst e;exact h
    ·exact hI i hi (by omega)
   ·simp
 ·have z6:j=l.length:=by simp at z8;omega
  subst z6;repeat first|(refine r_ ?_;simp)|refine q_ ?_
  rw[D6 (f:=fun y=>v==y) hI]
theorem Dq(l:List Int)(v:Int):PC Tryz.prog 174 [LI l,.i v] (fun r=>r= .bool (l.contains v)):=by
 refine Qk tOk Tryz.func174 rfl Tryz.results174 rfl (by simp[Tryz.ntmps174]) ?_;rw[Tryz.ntmps174];simp only[Qg];repeat first|(refine r_ ?_;simp)|refine q_ ?_
 refine Qe rfl rfl (by simp) (Mj l v) rfl ?_;rintro _ rfl;simp;repeat first|(refine r_ ?_;simp)|refine q_ ?_
 have:=v0x (fun y=>v==y) l;rw[xU]at this;simpa using this
structure SL (K G:List AObj) (p e sz:Nat) (xs:List AV):Prop where
 arr:G[p]? =some (.arr e sz xs)
 ge:K.length≤p
 keep:∀j,j<K.length→G[j]? =K[j]?
theorem SL.kp{K G:List AObj}{p e sz:Nat}{xs:List AV}(h:SL K G p e sz xs){j:Nat}{x:AObj}(hx:K[j]? =some x):G[j]? =some x:=by rw[h.keep j (zB.1 hx).1];exact hx
theorem SL.start(K:List AObj)(e sz:Nat):SL K (K++[AObj.arr e sz []]) K.length e sz []:=
 ⟨by simp,zR _,fun j hj=>zF hj⟩
theorem SL.add{K G:List AObj}{p e sz:Nat}{xs:List AV}(h:SL K G p e sz xs)(L:List AObj):SL K (G++L) p e sz xs:=
 ⟨by rw[zF (zB.1 h.arr).1];exact h.arr,h.ge,fun j hj=>by
  rw[zF (by have:=(zB.1 h.arr).1;have:=h.ge;omega)];exact h.keep j hj⟩
theorem SL.put{K G:List AObj}{p e sz:Nat}{xs:List AV}(h:SL K G p e sz xs)(L:List AObj)(ys:List AV){n:Nat}(hn:n=G.length+L.length):SL K (G.set p .dead++(L++[AObj.arr e sz ys])) n e sz ys:=by have hp:=(zB.1 h.arr).1;have z1:=h.ge;subst hn;refine⟨by rw[zK (by simp),zK (by simp)];simp,by omega,fun j hj=> ?_⟩;rw[zF (by simp;omega),zE (by omega)];exact h.keep j hj
theorem SL.at'{K G:List AObj}{p e sz:Nat}{xs:List AV}(h:SL K G p e sz xs){j:Nat}{x:AObj}(hx:K[j]? =some x)(L:List AObj):(G++L)[j]? =some x:=(h.add L).kp hx
def c09(l:List Int)(x:Sy)(m:Mv):Bool:=l.contains m.src && E8 m.on x
def Xo(l:List Int)(x:Sy)(ms:List Mv):List Int:=(ms.filter (c09 l x)).map (·.dst)
theorem f09(l:List Int)(x:Sy)(ms:List Mv)(j:Nat)(h:j<ms.length):Xo l x (ms.take (j+1))=Xo l x (ms.take j)++(if c09 l x ms[j]then [ms[j].dst]else []):=by unfold Xo;rw[zV h,List.filter_append,yZ];cases h:c09 l x ms[j]<;>simp[h]
theorem q0c(l:List Int)(x:Sy)(ms:List Mv):(Xo l x ms).length≤ms.length:=by unfold Xo;rw[yK];exact List.length_filter_le _ _
theorem c04(a:Aut)(l:List Int)(x:Sy):Lib.compact (R9 (Xo l x a.mv))=u1w a l x:=rfl
theorem w1t(l:List Int)(x:Sy):Xo l x []=[]:=rfl
attribute [local irreducible] Xo Kj R9 Lib.compact
theorem Cg(a:Aut)(ha:OkA a)(l:List Int)(x:Sy)(hx:Wv a x):PC Tryz.prog 122 [encA a,LI l,encSy x] (fun r=>r=LI (Wa a l x)):=by
 refine Qk tOk Tryz.func122 rfl Tryz.results122 rfl (by simp[Tryz.ntmps122]) ?_;rw[Tryz.ntmps122];simp only[Qg];simp only[encA,encSy];have zi:=ha.mvs;have hF:∀m∈a.mv,Kj m.on x=(E8 m.on x,0):=fun m hm=>by rw[Zs ((W5 a.types m.on).2 ⟨ha.types,(ha.mv m hm).on⟩),if_neg (fun k=>k ((Yo _ _).2 hx))]
 repeat first|(refine r_ ?_;simp)|refine q_ ?_
 refine Wt 7 3 1 rfl ?_;simp;refine Qo (Qc (sl':=[(1,LI l),(3,.vptr 0 0),(5,.vptr 1 0),(7,.sl 2 1 0 (Xo l x (a.mv.take 0)).length),(11,.list (a.mv.map encMv)),(12,.i a.mv.length),(13,.i 0)]) ?_ (by simp[Xo]));obtain⟨K,hK⟩:∃K,K=[AObj.vars (Q7 a),AObj.vars [AV.i x.ty,AV.i x.num]]:=⟨_,rfl⟩
 have z8:K[1]? =some (AObj.vars [AV.i x.ty,AV.i x.num]):=by rw[hK];rfl
 have za:=SL.start K 3 1;refine Qn (F:=fun(u:Nat×Nat×List AObj)=>⟨[(1,LI l),(3,.vptr 0 0),(5,.vptr 1 0),(7,.sl u.2.1 1 0 (Xo l x (a.mv.take u.1)).length),(11,.list (a.mv.map encMv)),(12,.i a.mv.length),(13,.i u.1)],u.2.2⟩)
  (fun u=>u.1≤a.mv.length∧SL K u.2.2 u.2.1 3 1 ((Xo l x (a.mv.take u.1)).map (AV.int .i64))) (fun u=>a.mv.length - u.1) ?_ (0,2,_) ⟨by simp,by rw[wd,w1t];rw[hK]at za ⊢;exact za⟩
 rintro⟨j,q,H2⟩ ⟨hj,g⟩ ih;simp only at hj g ih ⊢;have g1:=g.kp z8;repeat first|(refine r_ ?_;simp)|refine q_ ?_
 refine Qb rfl (fun zc=> ?_) (fun zd=> ?_)
 ·have z1:j<a.mv.length:=by simpa using zc
  have hw:IntKind.i64.wrap ((j:Int)+1)=j+1:=wrap_i64 _ (by omega) (by omega);have ze:=f09 l x a.mv j z1;have zb:=q0c l x (a.mv.take j);rw[List.length_take]at zb;have zf:=hF _ (zL z1);have z6:=fun q' H'=>ih (j+1,q',H');simp only[ze]at z6;generalize Xo l x (a.mv.take j)=acc at *
  have gL:=fun L=>g.at' z8 L;repeat first|(refine r_ ?_;simp[z1])|refine q_ ?_
  by_cases hb:a.mv[j].src∈l
  ·have zg:l.contains a.mv[j].src=true:=by simpa using hb
   refine Qe rfl rfl (by simp) (Dq l a.mv[j].src) rfl ?_;rintro _ rfl;simp[hb,gL];repeat first|(refine r_ ?_;simp[gL])|refine q_ ?_
   refine Qe rfl rfl (by simp) (u1l a.mv[j].on x) rfl ?_;rintro _ rfl;simp[zf];repeat first|(refine r_ ?_;simp)|refine q_ ?_
   cases hb2:E8 a.mv[j].on x with
   |false=>
    have hh:c09 l x a.mv[j]=false:=by rw[c09,hb2];simp
    refine Qj rfl ?_;simp[hb2];repeat first|(refine r_ ?_;simp[hw])|refine q_ ?_
    refine Qc (sl':=[(1,LI l),(3,.vptr 0 0),(5,.vptr 1 0),(7,.sl q 1 0 acc.length),(11,.list (a.mv.map encMv)),(12,.i a.mv.length),(13,.i (j+1:Nat))]) ?_ (by simp);have:=z6 q _ ⟨by omega,by rw[hh];simpa using g.add [AObj.vars [AV.i a.mv[j].src,AV.i a.mv[j].dst,AV.list (a.mv[j].on.map encL)]]⟩ (by omega);rw[hh]at this;simpa using this
   |true=>
    have hh:c09 l x a.mv[j]=true:=by rw[c09,zg,hb2];rfl
    refine Qj rfl ?_;simp[hb2];repeat first|(refine r_ ?_;simp)|refine q_ ?_
    refine Qi tOk rfl rfl T40 rfl T3 rfl (by decide) (by decide) rfl rfl rfl ?_;simp[Qa g.arr,Ql g.arr];refine⟨by simp[W8,Qa g.arr,Ql g.arr]<;>omega,?_⟩;repeat first|(refine r_ ?_;simp[hw])|refine q_ ?_
    refine Qc (sl':=[(1,LI l),(3,.vptr 0 0),(5,.vptr 1 0),(7,.sl (H2.length+2) 1 0 (acc.length+1)),(11,.list (a.mv.map encMv)),(12,.i a.mv.length),(13,.i (j+1:Nat))]) ?_ (by simp);have:=z6 (H2.length+2) _ ⟨by omega,by rw[hh];exact g.put [AObj.vars [AV.i a.mv[j].src,AV.i a.mv[j].dst,AV.list (a.mv[j].on.map encL)],AObj.arr 3 1 [AV.i a.mv[j].dst]] _ rfl⟩ (by omega);rw[hh]at this;simpa using this
  ·have hh:c09 l x a.mv[j]=false:=by simp[c09,hb]
   refine Qe rfl rfl (by simp) (Dq l a.mv[j].src) rfl ?_;rintro _ rfl;simp[hb,gL];refine We rfl rfl ?_;simp[hb];refine Qj rfl ?_;repeat first|(refine r_ ?_;simp[hw])|refine q_ ?_
   refine Qc (sl':=[(1,LI l),(3,.vptr 0 0),(5,.vptr 1 0),(7,.sl q 1 0 acc.length),(11,.list (a.mv.map encMv)),(12,.i a.mv.length),(13,.i (j+1:Nat))]) ?_ (by simp);have:=z6 q _ ⟨by omega,by rw[hh];simpa using g.add [AObj.vars [AV.i a.mv[j].src,AV.i a.mv[j].dst,AV.list (a.mv[j].on.map encL)]]⟩ (by omega);rw[hh]at this;simpa using this
 ·have z7:j=a.mv.length:=by simp at zd;omega
  subst z7;rw[y_]at g ⊢;have zb:=q0c l x a.mv;repeat first|(refine r_ ?_;simp)|refine q_ ?_
  refine Q4 rfl rfl (Kp H2 q (Xo l x a.mv) g.arr (by omega)) rfl ?_;rintro r H' ⟨rfl,rfl⟩;simp;repeat first|(refine r_ ?_;simp)|refine q_ ?_
  have g2:=Qh g.arr (.arr 3 1 ((R9 (Xo l x a.mv)).map (AV.int .i64)));have zh:=Ag (Xo l x a.mv);rw[←zh];refine Q4 rfl rfl (A5 _ q (R9 (Xo l x a.mv)) g2 (by omega) (Pn _)) rfl ?_;rintro r H' ⟨rfl,G,rfl⟩;simp;have g3:=Qh g.arr (.arr 3 1 ((Lib.compact (R9 (Xo l x a.mv))++G).map (AV.int .i64)));rw[c04,j1e (fun m hm=>(ha.mv m hm).dst)]at *
  repeat first|(refine r_ ?_;simp)|refine q_ ?_
  rw[yZ]at g3;simp[g3]
end Go.Abs
namespace Go.Abs
open Go Go.Proofs
theorem g0c(H:List AObj)(l:List Int)(g:Nat)(cap:AV)(f:Int→Bool)(hl:l.length≤1000000000)(hg:∀z∈l,FC Tryz.prog g [.i z,cap] H (fun r H'=>r= .bool (f z)∧H'=H)):
  FC Tryz.prog 119 [LI l,.fn (.func g) [] [cap]] H (fun r H'=>r= .i (Zq f l)∧H'=H):=by
 refine Wy tOk Tryz.func119 rfl Tryz.results119 rfl (by simp[Tryz.ntmps119]) ?_;rw[Tryz.ntmps119];simp only[Qg];repeat first|(refine r_ ?_;simp)|refine q_ ?_
 refine Qo (Qc (sl':=[(0,LI l),(1,.fn (.func g) [] [cap]),(7,.i l.length),(8,.i 0)]) ?_ (by simp));refine Qn (F:=fun(j:Nat)=>⟨[(0,LI l),(1,.fn (.func g) [] [cap]),(7,.i l.length),(8,.i j)],H⟩)
  (fun j=>j≤l.length∧∀i,∀hi:i<l.length,i<j→f l[i]=false) (fun j=>l.length - j) ?_ 0 ⟨by simp,by simp⟩
 rintro j ⟨hj,hI⟩ ih;repeat first|(refine r_ ?_;simp)|refine q_ ?_
 refine Qb rfl (fun z7=> ?_) (fun z8=> ?_)
 ·have z1:j<l.length:=by simpa using z7
  have hw:IntKind.i64.wrap ((j:Int)+1)=j+1:=wrap_i64 _ (by omega) (by omega);repeat first|(refine r_ ?_;simp[z1])|refine q_ ?_
  refine Q4 rfl rfl (hg _ (zL z1)) rfl ?_;rintro r H' ⟨rfl,rfl⟩;simp;repeat first|(refine r_ ?_;simp)|refine q_ ?_
  refine Qb rfl (fun h=> ?_) (fun h=> ?_)
  ·repeat first|(refine r_ ?_;simp)|refine q_ ?_
   rw[Zb z1 h hI]
  ·repeat first|(refine r_ ?_;simp[hw])|refine q_ ?_
   refine Qc (sl':=[(0,LI l),(1,.fn (.func g) [] [cap]),(7,.i l.length),(8,.i (j+1:Nat))]) (ih (j+1) ⟨by omega,fun i hi za=> ?_⟩ (by omega)) (by simp);by_cases e:i=j
   ·subst e;exact h
   ·exact hI i hi (by omega)
 ·have z6:j=l.length:=by simp at z8;omega
  subst z6;repeat first|(refine r_ ?_;simp)|refine q_ ?_
  rw[D6 hI]
theorem Vs(H:List AObj)(l:List Int)(g:Nat)(cap:AV)(f:Int→Bool)(hl:l.length≤1000000000)(hg:∀z∈l,FC Tryz.prog g [.i z,cap] H (fun r H'=>r= .bool (f z)∧H'=H)):
  FC Tryz.prog 54 [LI l,.fn (.func g) [] [cap]] H (fun r H'=>r= .bool (l.any f)∧H'=H):=by
 refine Wy tOk Tryz.func54 rfl Tryz.results54 rfl (by simp[Tryz.ntmps54]) ?_;rw[Tryz.ntmps54];simp only[Qg];repeat first|(refine r_ ?_;simp)|refine q_ ?_
 refine Q4 rfl rfl (g0c H l g cap f hl hg) rfl ?_;rintro r H' ⟨rfl,rfl⟩;simp;repeat first|(refine r_ ?_;simp)|refine q_ ?_
 rw[←v0x]
def z2z(a:Aut)(s:Int):Bool:=decide (s<0) || decide ((a.fin.length:Int)≤s)
attribute [local irreducible] z2z
end Go.Abs
namespace Go.Abs
open Go Go.Proofs
attribute [simp] T4
def Y1(n:Nat)(f:Int→Bool):List AV:=(W6 n).map fun z=>AV.bool (f z)
theorem Td(n:Nat)(f:Int→Bool):(Y1 n f).length=n:=by simp[Y1,W6]
theorem Xd(n:Nat)(f:Int→Bool){i:Nat}(h:i<n):(Y1 n f)[i]? =some (AV.bool (f i)):=by simp[Y1,W6,h]
theorem Fs(n:Nat)(f:Int→Bool){i:Nat}(h:i<(Y1 n f).length):(Y1 n f)[i]=AV.bool (f i):=by have h2:=Xd n f (i:=i) (by rw[Td]at h;exact h);rw[zJ h]at h2;exact Option.some.inj h2
theorem Mk(n:Nat):yF n (AV.bool false)=Y1 n (fun _=>false):=by
 refine xT fun i=> ?_;by_cases h:i<n
 ·rw[Xd n _ h];simp[h]
 ·rw[xA (by simp;omega),xA (by rw[Td];omega)]
theorem f01(n:Nat)(f:Int→Bool)(s:Int)(h0:0≤s)(h1:s<n):(Y1 n f).set s.toNat (AV.bool true)=Y1 n (fun z=>f z || z==s):=by
 refine xT fun i=> ?_;by_cases h:i<n
 ·rw[Xd n _ h];by_cases e:s.toNat=i
  ·rw[e,zO (by rw[Td];exact h)];have:((i:Int)==s)=true:=by simp;omega
   rw[this,Bool.or_true]
  ·rw[zE e,Xd n _ h];have:((i:Int)==s)=false:=beq_eq_false_iff_ne.2 (by omega);rw[this,Bool.or_false]
 ·rw[xA (by simp[Td];omega),xA (by rw[Td];omega)]
theorem P6(n:Nat){f g:Int→Bool}(h:∀z,f z=g z):Y1 n f=Y1 n g:=by rw[show f=g from funext h]
attribute [local irreducible] Y1
def y1g(n:Nat)(f:Int→Bool):List Int:=(W6 n).filter f
attribute [local irreducible] y1g
end Go.Abs
namespace Go.Abs
open Go Go.Proofs
def nxB(ms:List Mv)(f:Int→Bool)(x:Sy)(z:Int):Bool:=ms.any fun m=>f m.src && E8 m.on x && m.dst==z
theorem q03(ms:List Mv)(f:Int→Bool)(x:Sy)(j:Nat)(h:j<ms.length)(z:Int):nxB (ms.take (j+1)) f x z=(nxB (ms.take j) f x z || (f ms[j].src && E8 ms[j].on x && ms[j].dst==z)):=by unfold nxB;rw[zV h,List.any_append];simp
theorem q13(a:Aut)(l:List Int)(x:Sy):nxB a.mv (fun z=>decide (z∈l)) x=q1p a l x:=by
 funext z;unfold nxB q1p
 congr 1
 funext m;rw[xU];simp
attribute [local irreducible] E8 nxB
theorem x0a(a:Aut)(ha:OkA a)(f:Int→Bool)(x:Sy):PC Tryz.prog 65 [encA a,.list (Y1 a.fin.length f),encSy x] (fun r=>r= .list (Y1 a.fin.length (nxB a.mv f x))):=by
 refine Qk tOk Tryz.func65 rfl Tryz.results65 rfl (by simp[Tryz.ntmps65]) ?_;rw[Tryz.ntmps65];simp only[Qg];simp only[encA,encSy];have hf:=ha.fin;have hm:=ha.mvs;have zb:=Td a.fin.length f;repeat first|(refine r_ ?_;simp[zb])|refine q_ ?_
 refine W4 tOk rfl rfl rfl T22 rfl T4 rfl rfl rfl (n:=a.fin.length) (by simp;omega) (by unfold maxLen;omega) (.bool false) rfl ?_;simp;rw[Mk];repeat first|(refine r_ ?_;simp)|refine q_ ?_
 have h0:Y1 a.fin.length (fun _=>false)=Y1 a.fin.length (nxB (a.mv.take 0) f x):=P6 _ fun z=>by rw[wd];unfold nxB;rfl
 rw[h0];refine Qo (Qc (sl':=[(1,.list (Y1 a.fin.length f)),(3,.vptr 0 0),(5,.vptr 1 0),(7,.sl 2 1 0 a.fin.length),(8,.i 0)]) ?_ (by simp));refine Qn (F:=fun(u:Nat×List AObj)=>⟨[(1,.list (Y1 a.fin.length f)),(3,.vptr 0 0),(5,.vptr 1 0),(7,.sl 2 1 0 a.fin.length),(8,.i u.1)],u.2⟩)
  (fun u=>u.1≤a.mv.length∧u.2[0]? =some (.vars (Q7 a))∧u.2[1]? =some (.vars [.i x.ty,.i x.num])∧u.2[2]? =some (.arr 4 1 (Y1 a.fin.length (nxB (a.mv.take u.1) f x)))) (fun u=>a.mv.length - u.1) ?_ (0,_) ⟨by simp,rfl,rfl,rfl⟩
 rintro⟨j,H2⟩ ⟨hj,g0,g1,g2⟩ ih;simp only at hj g0 g1 g2 ih ⊢;repeat first|(refine r_ ?_;simp[g0])|refine q_ ?_
 refine Qb rfl (fun zg=> ?_) (fun zh=> ?_)
 ·have z1:j<a.mv.length:=by simpa using zg
  have hw:IntKind.i64.wrap ((j:Int)+1)=j+1:=wrap_i64 _ (by omega) (by omega);have zf:=ha.mv _ (zL z1);obtain⟨s0,s1⟩:=zf.src;obtain⟨d0,d1⟩:=zf.dst;have s2:a.mv[j].src.toNat<a.fin.length:=by omega
  have d2:a.mv[j].dst.toNat<a.fin.length:=by omega
  have zc:=f01 a.fin.length (nxB (a.mv.take j) f x) a.mv[j].dst d0 d1;have zd:((a.mv[j].src.toNat:Nat):Int)=a.mv[j].src:=by omega
  have z8:=fun(hh:a.mv[j].src.toNat<(Y1 a.fin.length f).length)=>(Fs a.fin.length f (i:=a.mv[j].src.toNat) hh).trans (by rw[zd]);have zi:=fun(hh:a.mv[j].dst.toNat<(Y1 a.fin.length (nxB (a.mv.take j) f x)).length)=>Fs a.fin.length (nxB (a.mv.take j) f x) (i:=a.mv[j].dst.toNat) hh;have zj:Y1 a.fin.length (nxB (a.mv.take (j+1)) f x)=if f a.mv[j].src && E8 a.mv[j].on x then(Y1 a.fin.length (nxB (a.mv.take j) f x)).set a.mv[j].dst.toNat (AV.bool true)else Y1 a.fin.length (nxB (a.mv.take j) f x):=by
   split
   ·rename_i hc;rw[zc];exact P6 _ fun z=>by rw[q03 _ _ _ _ z1,hc,vX];rw[show(a.mv[j].dst==z)=(z==a.mv[j].dst) from xU.2 (by simp only[beq_iff_eq];exact eq_comm)]
   ·rename_i hc;exact P6 _ fun z=>by rw[q03 _ _ _ _ z1,show(f a.mv[j].src && E8 a.mv[j].on x)=false by simpa using hc];simp
  have z6:=fun G'=>ih (j+1,G');simp only[zj]at z6;have z7:=Td a.fin.length (nxB (a.mv.take j) f x);generalize Y1 a.fin.length (nxB (a.mv.take j) f x)=bs at *
  have gL1:=fun L=>Qa g1 L;have gL2:=fun L=>Qa g2 L;have gL0:=fun L=>Qa g0 L;cases hb:f a.mv[j].src with
  |false=>
   rw[hb]at z8;repeat first|(refine r_ ?_;simp[g0,z1,s0,s1,s2,zb,z8,gL1])|refine q_ ?_
   refine We rfl rfl ?_;simp;refine Qj rfl ?_;repeat first|(refine r_ ?_;simp[hw])|refine q_ ?_
   rw[hb,tN,if_neg (by simp)]at z6;exact Qc (sl':=[(1,.list (Y1 a.fin.length f)),(3,.vptr 0 0),(5,.vptr 1 0),(7,.sl 2 1 0 a.fin.length),(8,.i (j+1:Nat))]) (z6 _ ⟨by omega,gL0 _,gL1 _,gL2 _⟩ (by omega)) (by simp)
  |true=>
   rw[hb]at z8;repeat first|(refine r_ ?_;simp[g0,z1,s0,s1,s2,zb,z8,gL1])|refine q_ ?_
   refine Qe rfl rfl (by simp) (y1x a.mv[j].on x (fun s hs=>by have:=Cf ha (zL z1) s hs;omega)) rfl ?_;rintro _ rfl;simp;cases za:E8 a.mv[j].on x with
   |false=>
    rw[hb,za,vX,if_neg (by simp)]at z6;repeat first|(refine r_ ?_;simp[za])|refine q_ ?_
    refine Qj rfl ?_;repeat first|(refine r_ ?_;simp[hw])|refine q_ ?_
    exact Qc (sl':=[(1,.list (Y1 a.fin.length f)),(3,.vptr 0 0),(5,.vptr 1 0),(7,.sl 2 1 0 a.fin.length),(8,.i (j+1:Nat))]) (z6 _ ⟨by omega,gL0 _,gL1 _,gL2 _⟩ (by omega)) (by simp)
   |true=>
    rw[hb,za,vX,if_pos rfl]at z6;repeat first|(refine r_ ?_;simp[za])|refine q_ ?_
    refine Qj rfl ?_;repeat first|(refine r_ ?_;simp[gL1,gL2,d0,d1,d2,z7,zi,hw])|refine q_ ?_
    exact Qc (sl':=[(1,.list (Y1 a.fin.length f)),(3,.vptr 0 0),(5,.vptr 1 0),(7,.sl 2 1 0 a.fin.length),(8,.i (j+1:Nat))]) (z6 _ ⟨by omega,Qd (by decide) (gL0 _) _,Qd (by decide) (gL1 _) _,Qh (gL2 _) _⟩ (by omega)) (by simp)
 ·have ze:j=a.mv.length:=by simp at zh;omega
  subst ze;rw[y_]at g2;have z7:=Td a.fin.length (nxB a.mv f x);repeat first|(refine r_ ?_;simp[g2,z7])|refine q_ ?_
  rw[zY (by omega)]
end Go.Abs
namespace Go.Abs
open Go Go.Proofs
attribute [local irreducible] nxB y1g Sq
attribute [local irreducible] Ey
end Go.Abs
namespace Go.Abs
open Go Go.Proofs
theorem c0d{α:Type}{a b:List α}(h:a.length=b.length)(hi:∀i,∀h1:i<a.length,∀h2:i<b.length,a[i]=b[i]):a=b:=wD h hi
abbrev LLI (l:List (List Int)):AV:= .list (l.map fun x=>LI x)
end Go.Abs
namespace Go.Abs
open Go Go.Proofs
end Go.Abs
namespace Go.Abs
open Go Go.Proofs
def q23(a:Aut)(s:Int)(j:Nat):Prd:=(K7 { a with mv:=a.mv.take j } s).foldl (fun r p=>Eg r (R8 p)) (Wu a.types.toNat)
attribute [local irreducible] q23 Eg R8 Wu Wp
end Go.Abs
namespace Go.Abs
open Go Go.Proofs
attribute [local irreducible] x0o Wp
end Go.Abs
namespace Go.Abs
open Go Go.Proofs
theorem v0d{p:Prd}{i:Nat}(h:i<p.length)(hv:¬(p[i].length≤12)):x15 p=false:=by rw[wT,Ne,w0d];exact fun k=>hv (k.2 _ (zL h))
theorem w12(p:Prd):PC Tryz.prog 46 [encP p] (fun r=>r= .bool (x15 p)):=by
 refine Qk tOk Tryz.func46 rfl Tryz.results46 rfl (by simp[Tryz.ntmps46]) ?_;rw[Tryz.ntmps46];simp only[Qg];simp only[encP];refine W9 0 0 rfl rfl (fun hlen=> ?_);rw[yK]at hlen;repeat first|(refine r_ ?_;simp)|refine q_ ?_
 refine Qy p.length (fun j=>j≤5∧∀i,∀hi:i<p.length,i<j→p[i].length≤12) (fun j=>[(1,.vptr 0 0),(3,.i j)]) (fun _=>[.vars [.list (p.map encL)]]) rfl (by simp) (by simp) (by simp) (by simp) (by simp) ?_;rintro j hj ⟨za,hI⟩ ih;repeat first|(refine r_ ?_;simp)|refine q_ ?_
 refine Qb rfl (fun z6=> ?_) (fun z7=> ?_)
 ·have z1:j<p.length:=by simp at z6;omega
  have zb:j<5:=by simp at z6;omega
  have hw:IntKind.i64.wrap ((j:Int)+1)=j+1:=wrap_i64 _ (by omega) (by omega);repeat first|(refine r_ ?_;simp[z1])|refine q_ ?_
  refine Qe rfl rfl (by simp) (c19 p[j]) rfl ?_;rintro _ rfl;simp;repeat first|(refine r_ ?_;simp)|refine q_ ?_
  refine Qb rfl (fun he=> ?_) (fun he=> ?_)
  ·repeat first|(refine r_ ?_;simp)|refine q_ ?_
   rw[v0d z1 (by simp at he;omega)]
  ·repeat first|(refine r_ ?_;simp[hw])|refine q_ ?_
   refine Qz [] (ih z1 ⟨by omega,fun i hi zc=> ?_⟩) rfl (by simp) ?_ (by simp) (by simp)
   ·by_cases e:i=j
    ·subst e;simp at he;omega
    ·exact hI i hi (by omega)
   ·simp
 ·have z8:p.length≤j∨5≤j:=by simp at z7;omega
  repeat first|(refine r_ ?_;simp)|refine q_ ?_
  rw[xU,w0d,decide_eq_true_eq];constructor
  ·intro h4;refine⟨by omega,fun s hs=> ?_⟩;obtain⟨i,hi,rfl⟩:=xB hs;exact hI i hi (by omega)
  ·intro h4;omega
end Go.Abs
namespace Go.Abs
open Go Go.Proofs
theorem Cb{a:Aut}:w1w a=true↔a.fin.length≤8∧a.mv.length≤16∧∀m∈a.mv,x15 m.on=true:=by simp only[w1w,yR,decide_eq_true_eq,zX,and_assoc]
attribute [local irreducible] x15
theorem u1o(a:Aut):PC Tryz.prog 13 [encA a] (fun r=>r= .bool (w1w a)):=by
 refine Qk tOk Tryz.func13 rfl Tryz.results13 rfl (by simp[Tryz.ntmps13]) ?_;rw[Tryz.ntmps13];simp only[Qg];simp only[encA];refine W9 0 2 rfl rfl (fun hlen=> ?_);rw[yK]at hlen;repeat first|(refine r_ ?_;simp)|refine q_ ?_
 refine Qy a.mv.length (fun j=>j≤20∧∀i,∀hi:i<a.mv.length,i<j→x15 a.mv[i].on=true) (fun j=>[(1,.vptr 0 0),(3,.i j)]) (fun _=>[.vars (Q7 a)]) rfl (by simp) (by simp) (by simp) (by simp) (by simp) ?_;rintro j hj ⟨za,hI⟩ ih;repeat first|(refine r_ ?_;simp)|refine q_ ?_
 refine Qb rfl (fun z6=> ?_) (fun z7=> ?_)
 ·have z1:j<a.mv.length:=by simp at z6;omega
  have zb:j<20:=by simp at z6;omega
  have hw:IntKind.i64.wrap ((j:Int)+1)=j+1:=wrap_i64 _ (by omega) (by omega);repeat first|(refine r_ ?_;simp[z1])|refine q_ ?_
  refine Qe rfl rfl (by simp) (w12 a.mv[j].on) rfl ?_;rintro _ rfl;simp;repeat first|(refine r_ ?_;simp)|refine q_ ?_
  refine Qb rfl (fun he=> ?_) (fun he=> ?_)
  ·repeat first|(refine r_ ?_;simp)|refine q_ ?_
   have:w1w a=false:=by rw[wT,Ne,Cb];intro k;have:=k.2.2 _ (zL z1);rw[this]at he;cases he
   rw[this]
  ·repeat first|(refine r_ ?_;simp[hw])|refine q_ ?_
   refine Qz [] (ih z1 ⟨by omega,fun i hi zc=> ?_⟩) rfl (by simp) ?_ (by simp) (by simp)
   ·by_cases e:i=j
    ·subst e;simpa using he
    ·exact hI i hi (by omega)
   ·simp
 ·have z8:a.mv.length≤j∨20≤j:=by simp at z7;omega
  repeat first|(refine r_ ?_;simp)|refine q_ ?_
  rw[xU,Cb];simp;constructor
  ·rintro⟨h4,h5⟩;refine⟨by omega,by omega,fun m hm=> ?_⟩;obtain⟨i,hi,rfl⟩:=xB hm;exact hI i hi (by omega)
  ·rintro⟨h4,h5,_⟩;omega
end Go.Abs
namespace Go.Abs
open Go Go.Proofs
theorem j05(a b:Prd):PC Tryz.prog 72 [encP a,encP b] (fun r=>r= .bool (decide (a=b))):=by
 refine Qk tOk Tryz.func72 rfl Tryz.results72 rfl (by simp[Tryz.ntmps72]) ?_;rw[Tryz.ntmps72];simp only[Qg];simp only[encP];refine W9 0 0 rfl rfl (fun hlen=> ?_);rw[yK]at hlen;repeat first|(refine r_ ?_;simp)|refine q_ ?_
 refine Qb rfl (fun h=> ?_) (fun h=> ?_)
 ·repeat first|(refine r_ ?_;simp)|refine q_ ?_
  intro e;subst e;simp at h
 have hl:a.length=b.length:=by simp at h;omega
 repeat first|(refine r_ ?_;simp)|refine q_ ?_
 refine Qy a.length (fun j=>∀i,i<j→∀h1:i<a.length,∀h2:i<b.length,a[i]=b[i]) (fun j=>[(2,.vptr 0 0),(3,.vptr 1 0),(5,.i j)]) (fun _=>[.vars [.list (a.map encL)],.vars [.list (b.map encL)]]) rfl (by simp) (by simp) (by simp) (by simp) (by simp) ?_;intro j hj hI ih;repeat first|(refine r_ ?_;simp)|refine q_ ?_
 refine Qb rfl (fun z7=> ?_) (fun z8=> ?_)
 ·have z1:j<a.length:=by simpa using z7
  have za:j<b.length:=by omega
  have hw:IntKind.i64.wrap ((j:Int)+1)=j+1:=wrap_i64 _ (by omega) (by omega);repeat first|(refine r_ ?_;simp)|refine q_ ?_
  refine Qs tOk mixed [] (.val 0 (.val 1 (.val 2 (.val 3 (.val 4 (.val 5 (.val 6 (.val 7 (.val 8 (.val 9 (.one 10 (.val 11 (.done))))))))))))) rfl (by kernel_rfl) ?_;simp[z1,za];refine Qe rfl rfl (by simp) (j1f a[j] b[j]) rfl ?_;rintro _ rfl;simp;repeat first|(refine r_ ?_;simp)|refine q_ ?_
  refine Qb rfl (fun h3=> ?_) (fun h3=> ?_)
  ·repeat first|(refine r_ ?_;simp)|refine q_ ?_
   intro e;subst e;simp at h3
  ·repeat first|(refine r_ ?_;simp[hw])|refine q_ ?_
   refine Qz [] (ih z1 (fun i hi h1 h2=> ?_)) rfl (by simp) ?_ (by simp) (by simp)
   ·by_cases e:i=j
    ·subst e;simpa using h3
    ·exact hI i (by omega) h1 h2
   ·simp
 ·have z6:j=a.length:=by simp at z8;omega
  subst z6;repeat first|(refine r_ ?_;simp)|refine q_ ?_
  exact c0d hl (fun i h1 h2=>hI i h1 h1 h2)
end Go.Abs
namespace Go.Abs
open Go Go.Proofs
theorem g0f(p:Prd)(g:Nat)(f:List Iv→Bool)(hg:∀s,PC Tryz.prog g [LIv s] (fun r=>r= .bool (f s))):
  PC Tryz.prog 182 [.list (p.map encL),.fn (.func g) [] []] (fun r=>r= .i (Zq f p)):=by
 refine Qk tOk Tryz.func182 rfl Tryz.results182 rfl (by simp[Tryz.ntmps182]) ?_;rw[Tryz.ntmps182];simp only[Qg];refine Io 0 rfl (fun hlen=> ?_);rw[yK]at hlen;repeat first|(refine r_ ?_;simp)|refine q_ ?_
 refine Qy p.length (fun j=>∀i,∀hi:i<p.length,i<j→f p[i]=false) (fun j=>[(0,.list (p.map encL)),(1,.fn (.func g) [] []),(7,.i p.length),(8,.i j)]) (fun _=>[]) rfl (by simp) (by simp) (by simp) (by simp) (by simp) ?_;intro j hj hI ih;repeat first|(refine r_ ?_;simp)|refine q_ ?_
 refine Qb rfl (fun z7=> ?_) (fun z8=> ?_)
 ·have z1:j<p.length:=by simpa using z7
  have hw:IntKind.i64.wrap ((j:Int)+1)=j+1:=wrap_i64 _ (by omega) (by omega);repeat first|(refine r_ ?_;simp[z1])|refine q_ ?_
  refine Qe rfl rfl (by simp) (hg p[j]) rfl ?_;rintro _ rfl;simp;repeat first|(refine r_ ?_;simp)|refine q_ ?_
  refine Qb rfl (fun h=> ?_) (fun h=> ?_)
  ·repeat first|(refine r_ ?_;simp)|refine q_ ?_
   rw[Zb z1 h hI]
  ·repeat first|(refine r_ ?_;simp[hw])|refine q_ ?_
   refine Qz [] (ih z1 (fun i hi za=> ?_)) rfl (by simp) ?_ (by simp) (by simp)
   ·by_cases e:i=j
    ·subst e;exact h
    ·exact hI i hi (by omega)
   ·simp
 ·have z6:j=p.length:=by simp at z8;omega
  subst z6;repeat first|(refine r_ ?_;simp)|refine q_ ?_
  rw[D6 hI]
theorem Ds(p:Prd)(g:Nat)(f:List Iv→Bool)(hg:∀s,PC Tryz.prog g [LIv s] (fun r=>r= .bool (f s))):
  PC Tryz.prog 125 [.list (p.map encL),.fn (.func g) [] []] (fun r=>r= .bool (p.any f)):=by
 refine Qk tOk Tryz.func125 rfl Tryz.results125 rfl (by simp[Tryz.ntmps125]) ?_;rw[Tryz.ntmps125];simp only[Qg];repeat first|(refine r_ ?_;simp)|refine q_ ?_
 refine Qe rfl rfl (by simp) (g0f p g f hg) rfl ?_;rintro _ rfl;simp;repeat first|(refine r_ ?_;simp)|refine q_ ?_
 rw[←v0x]
theorem y1q(s:List Iv):PC Tryz.prog 185 [LIv s] (fun r=>r= .bool (decide (0<s.length))):=by refine Qk tOk Tryz.func185 rfl Tryz.results185 rfl (by simp[Tryz.ntmps185]) ?_;rw[Tryz.ntmps185];simp only[Qg];repeat first|(refine r_ ?_;simp)|refine q_ ?_
theorem v1v(s:List Iv):PC Tryz.prog 126 [LIv s] (fun r=>r= .bool (decide (256<s.length))):=by
 refine Qk tOk Tryz.func126 rfl Tryz.results126 rfl (by simp[Tryz.ntmps126]) ?_;rw[Tryz.ntmps126];simp only[Qg];repeat first|(refine r_ ?_;simp)|refine q_ ?_
 omega
theorem w1p(p:Prd):(!p.any fun s=>decide (0<s.length))=Wp p:=by
 unfold Wp;rw[List.not_any_eq_all_not]
 congr 1
 funext s;cases s<;>simp
theorem y19(p:Prd):PC Tryz.prog 132 [encP p] (fun r=>r= .bool (Wp p)):=by
 refine Qk tOk Tryz.func132 rfl Tryz.results132 rfl (by simp[Tryz.ntmps132]) ?_;rw[Tryz.ntmps132];simp only[Qg];simp only[encP];repeat first|(refine r_ ?_;simp)|refine q_ ?_
 refine Qe rfl rfl (by simp) (Ds p 185 (fun s=>decide (0<s.length)) y1q) rfl ?_;rintro _ rfl;simp;repeat first|(refine r_ ?_;simp)|refine q_ ?_
 rw[←w1p p,Bool.not_not]
def x1n(m:Mv):Bool:=m.on.any fun s=>decide (256<s.length)
theorem Np(a:Aut):Vw a=(decide (256<a.fin.length) || decide (2048<a.mv.length) || a.mv.any x1n):=rfl
attribute [local irreducible] x1n
end Go.Abs
namespace Go.Abs
open Go Go.Proofs
abbrev LSy (w:List Sy):AV:= .list (w.map encSy)
def K6(a:Aut)(w:List Sy)(z:Int):Bool:=decide (z∈O2 a [0] w)
theorem w1e(a:Aut)(z:Int):K6 a [] z=(false || z==0):=by rw[xU];simp[K6,O2]
theorem g01(a:Aut)(w:List Sy)(x:Sy):K6 a (w++[x])=fun z=>decide (z∈Wa a (O2 a [0] w) x):=by funext z;unfold K6 O2;rw[wp];rfl
theorem w2w(a:Aut)(l:List Int)(x:Sy):Y1 a.fin.length (nxB a.mv (fun z=>decide (z∈l)) x)=Y1 a.fin.length (fun z=>decide (z∈Wa a l x)):=by
 rw[q13];unfold Y1;refine xL fun z hz=> ?_;have z1:=W1.1 hz
 congr 1
 rw[xU,decide_eq_true_eq];unfold Wa;rw[xM];exact⟨fun h=>⟨hz,h⟩,fun h=>h.2⟩
attribute [local irreducible] Y1 nxB
theorem j0j(a:Aut)(ha:OkA a)(w:List Sy)(zp:w.length≤1000000):PC Tryz.prog 151 [encA a,LSy w] (fun r=>r= .bool (Uk a w)):=by
 refine Qk tOk Tryz.func151 rfl Tryz.results151 rfl (by simp[Tryz.ntmps151]) ?_;rw[Tryz.ntmps151];simp only[Qg];simp only[encA];have hf:=ha.fin;repeat first|(refine r_ ?_;simp)|refine q_ ?_
 refine W4 tOk rfl rfl rfl T22 rfl T4 rfl rfl rfl (n:=a.fin.length) (by simp;omega) (by unfold maxLen;omega) (.bool false) rfl ?_;simp;rw[Mk];have z1:=f01 a.fin.length (fun _=>false) 0 (xO _) (by omega);have zj:Y1 a.fin.length (fun z=>false || z==0)=Y1 a.fin.length (K6 a (w.take 0)):=P6 _ fun z=>by rw[wd,w1e]
 rw[zj]at z1;have zk:=Td a.fin.length (fun _=>false);have zl:=fun(hh:0<(Y1 a.fin.length (fun _=>false)).length)=>Fs a.fin.length (fun _=>false) (i:=0) hh;have zm:0<a.fin.length:=by omega
 generalize Y1 a.fin.length (fun _=>false)=bs at *
 repeat first|(refine r_ ?_;simp[zk,zl,zm])|refine q_ ?_
 have zn:Int.toNat 0=0:=rfl;rw[zn]at z1;rw[z1];have zc:=Td a.fin.length (K6 a (w.take 0));refine z0g 1 rfl ?_;simp[zc];rw[zY (by simp[Td])];refine Qy w.length (fun _=>True) (fun j=>[(1,LSy w),(2,.vptr 0 0),(5,.list (Y1 a.fin.length (K6 a (w.take j)))),(6,.i j)]) (fun _=>[.vars (Q7 a)]) rfl (by simp) (by simp[Td]) (by simp) (by simp) trivial ?_;intro j hj _ ih;repeat first|(refine r_ ?_;simp)|refine q_ ?_
 refine Qb rfl (fun zd=> ?_) (fun ze=> ?_)
 ·have z6:j<w.length:=by simpa using zd
  have hw:IntKind.i64.wrap ((j:Int)+1)=j+1:=wrap_i64 _ (by omega) (by omega);have za:Y1 a.fin.length (K6 a (w.take (j+1)))=Y1 a.fin.length (nxB a.mv (fun z=>decide (z∈O2 a [0] (w.take j))) w[j]):=by rw[w2w,zV z6,g01]
  have zh:=ih z6 trivial;rw[za]at zh;repeat first|(refine r_ ?_;simp)|refine q_ ?_
  refine Qs tOk mixed [] (.val 0 (.val 1 (.val 2 (.val 3 (.val 4 (.val 5 (.one 6 (.val 7 (.done))))))))) rfl (by kernel_rfl) ?_;simp[z6];refine Qe rfl rfl (by simp) (x0a a ha (K6 a (w.take j)) w[j]) rfl ?_;rintro _ rfl;simp;repeat first|(refine r_ ?_;simp[hw])|refine q_ ?_
  refine Qz _ zh rfl (by simp) ?_ (by simp) (by simp);simp;rfl
 ·have z7:j=w.length:=by simp at ze;omega
  subst z7;rw[y_];have zf:=Td a.fin.length (K6 a w);repeat first|(refine r_ ?_;simp)|refine q_ ?_
  refine Qy a.fin.length (fun k=>∀i:Nat,i<k→∀h:i<a.fin.length,(K6 a w i && a.fin[i])=false) (fun k=>[(2,.vptr 0 0),(5,.list (Y1 a.fin.length (K6 a w))),(7,.i k)]) (fun _=>[.vars (Q7 a)]) rfl (by simp) (by simp) (by simp) (by simp) (by simp) ?_;intro k hk hI zi;repeat first|(refine r_ ?_;simp[zf])|refine q_ ?_
  refine Qb rfl (fun zd=> ?_) (fun ze=> ?_)
  ·have z8:k<a.fin.length:=by simpa using zd
   have hw:IntKind.i64.wrap ((k:Int)+1)=k+1:=wrap_i64 _ (by omega) (by omega);have zb:=fun(hh:k<(Y1 a.fin.length (K6 a w)).length)=>Fs a.fin.length (K6 a w) (i:=k) hh;have za:(K6 a w k && a.fin[k])=false→∀i:Nat,i<k+1→∀h:i<a.fin.length,(K6 a w i && a.fin[i])=false:=fun hb i hi h=>by
    by_cases e:i=k
    ·subst e;exact hb
    ·exact hI i (by omega) h
   cases hr:K6 a w k with
   |false=>
    rw[hr]at zb;repeat first|(refine r_ ?_;simp[zf,z8,zb])|refine q_ ?_
    refine Qj rfl ?_;repeat first|(refine r_ ?_;simp[hw])|refine q_ ?_
    refine Qz _ (zi z8 (za (by rw[hr];rfl))) rfl (by simp) ?_ (by simp) (by simp);simp
   |true=>
    rw[hr]at zb;repeat first|(refine r_ ?_;simp[zf,z8,zb])|refine q_ ?_
    refine Qb rfl (fun h=> ?_) (fun h=> ?_)
    ·repeat first|(refine r_ ?_;simp)|refine q_ ?_
     have:Uk a w=true:=by rw[Uk,Ad];exact⟨k,by simpa[K6]using hr,by simp[yS,z8,h]⟩
     rw[this]
    ·repeat first|(refine r_ ?_;simp[hw])|refine q_ ?_
     refine Qz _ (zi z8 (za (by rw[hr];simpa using h))) rfl (by simp) ?_ (by simp) (by simp);simp
  ·have z7:k=a.fin.length:=by simp at ze;omega
   subst z7;repeat first|(refine r_ ?_;simp)|refine q_ ?_
   have:Uk a w=false:=by
    rw[wT,Ne,Uk,Ad];rintro⟨s,hs,zo⟩;have zq:=runIn w _ (Zh ha.wfA) s hs;have zg:s.toNat<a.fin.length:=by omega
    have:=hI s.toNat zg zg;have e:((s.toNat:Nat):Int)=s:=by omega
    rw[e]at this;have hr:K6 a w s=true:=by simpa[K6]using hs
    rw[hr,vX]at this;simp[yS,zg,this]at zo
   rw[this]
end Go.Abs
namespace Go.Abs
open Go Go.Proofs
def Hz(T:Int):List Sy→Int
 |[]=>0
 |x::r=>if Sq T x≠0 then Sq T x else Hz T r
def Xp(a:Aut)(w:List Sy):Int:=if Wk a≠0 then Wk a else if 4096<w.length then 5 else Hz a.types w
def Ke(a:Aut)(w:List Sy):Bool×Int:=if Xp a w≠0 then(false,Xp a w)else(Uk a w,0)
theorem Ax{T:Int}:∀(w:List Sy),Hz T w=0↔∀x∈w,Sq T x=0
 |[]=>by simp[Hz]
 |x::r=>by
  rw[Hz];by_cases h:Sq T x=0
  ·rw[if_neg (fun k=>k h),Ax r];simp[h]
  ·rw[if_pos h];exact⟨fun k=>absurd k h,fun k=>absurd (k x (by simp)) h⟩
theorem q0v{a:Aut}{w:List Sy}:Xp a w=0↔OkA a∧w.length≤4096∧∀x∈w,Wv a x:=by
 unfold Xp;by_cases h:Wk a=0
 ·rw[if_neg (fun k=>k h)];by_cases hl:4096<w.length
  ·rw[if_pos hl];exact⟨fun k=>(by cases k),fun k=>(by omega)⟩
  ·rw[if_neg hl,Ax];exact⟨fun k=>⟨(U4 a).1 h,by omega,fun x hx=>(Yo _ _).1 (k x hx)⟩,fun k x hx=>(Yo _ _).2 (k.2.2 x hx)⟩
 ·rw[if_pos h];exact⟨fun k=>absurd k h,fun k=>absurd ((U4 a).2 k.1) h⟩
attribute [local irreducible] Sq Uk
theorem B2(a:Aut)(w:List Sy):PC Tryz.prog 92 [encA a,LSy w] (fun r=>r= .tup [.bool (Ke a w).1,.i (Ke a w).2]):=by
 refine Qk tOk Tryz.func92 rfl Tryz.results92 rfl (by simp[Tryz.ntmps92]) ?_;rw[Tryz.ntmps92];simp only[Qg];simp only[encA];repeat first|(refine r_ ?_;simp)|refine q_ ?_
 refine Qe rfl rfl (by simp) (v0g a) rfl ?_;rintro _ rfl;simp;repeat first|(refine r_ ?_;simp)|refine q_ ?_
 refine Qb rfl (fun h=> ?_) (fun h=> ?_)
 ·repeat first|(refine r_ ?_;simp)|refine q_ ?_
  have hE:Xp a w=Wk a:=by rw[Xp,if_pos (by simpa using h)]
  rw[Ke,hE,if_pos (by simpa using h)];exact⟨rfl,rfl⟩
 have h0:Wk a=0:=by simpa using h
 have z7:=(U4 a).1 h0;repeat first|(refine r_ ?_;simp)|refine q_ ?_
 refine Qb rfl (fun h=> ?_) (fun h=> ?_)
 ·repeat first|(refine r_ ?_;simp)|refine q_ ?_
  have hE:Xp a w=5:=by rw[Xp,if_neg (fun k=>k h0),if_pos (by simp at h;omega)]
  rw[Ke,hE];exact⟨rfl,rfl⟩
 have hl:w.length≤4096:=by simp at h;omega
 have hE:Xp a w=Hz a.types w:=by rw[Xp,if_neg (fun k=>k h0),if_neg (by omega)]
 repeat first|(refine r_ ?_;simp)|refine q_ ?_
 refine Qy w.length (fun j=>Hz a.types w=Hz a.types (w.drop j)) (fun j=>[(1,LSy w),(2,.vptr 0 0),(7,.i j)]) (fun _=>[.vars (Q7 a)]) rfl (by simp) (by simp) (by simp) (by simp) (by simp) ?_;intro j hj hI ih;repeat first|(refine r_ ?_;simp)|refine q_ ?_
 refine Qb rfl (fun z8=> ?_) (fun za=> ?_)
 ·have z1:j<w.length:=by simpa using z8
  have hw:IntKind.i64.wrap ((j:Int)+1)=j+1:=wrap_i64 _ (by omega) (by omega);rw[W7 z1,Hz]at hI;repeat first|(refine r_ ?_;simp)|refine q_ ?_
  refine Qs tOk mixed [] (.val 0 (.val 1 (.val 2 (.val 3 (.val 4 (.val 5 (.one 6 (.val 7 (.done))))))))) rfl (by kernel_rfl) ?_;simp[z1];refine Qe rfl rfl (by simp) (w11 a.types w[j]) rfl ?_;rintro _ rfl;simp;repeat first|(refine r_ ?_;simp)|refine q_ ?_
  refine Qb rfl (fun h3=> ?_) (fun h3=> ?_)
  ·repeat first|(refine r_ ?_;simp)|refine q_ ?_
   rw[if_pos (by simpa using h3)]at hI;rw[Ke,hE,hI,if_pos (by simpa using h3)];exact⟨rfl,rfl⟩
  ·rw[if_neg (by simpa using h3)]at hI;repeat first|(refine r_ ?_;simp[hw])|refine q_ ?_
   refine Qz _ (ih z1 hI) rfl (by simp) ?_ (by simp) (by simp);simp
 ·have z6:j=w.length:=by simp at za;omega
  subst z6;rw[xS]at hI;repeat first|(refine r_ ?_;simp)|refine q_ ?_
  refine Qe rfl rfl (by simp) (j0j a z7 w (by omega)) rfl ?_;rintro _ rfl;simp;repeat first|(refine r_ ?_;simp)|refine q_ ?_
  rw[Ke,hE,hI];exact⟨rfl,rfl⟩
end Go.Abs
namespace Go.Abs
open Go Go.Proofs
def U5:List Iv:=[⟨-1099511627776,1099511627776⟩]
theorem z0w:Ez []=U5:=by simp[Ez,Rh,U5]
theorem q18:PC Tryz.prog 156 [] (fun r=>r=LIv U5):=by
 refine Qk tOk Tryz.func156 rfl Tryz.results156 rfl (by simp[Tryz.ntmps156]) ?_;rw[Tryz.ntmps156];simp only[Qg];repeat first|(refine r_ ?_;simp)|refine q_ ?_
 simp[U5]
theorem v1o(n:Int):PC Tryz.prog 155 [.i n] (fun r=>r= .tup [LIv U5,.i 0]):=by
 refine Qk tOk Tryz.func155 rfl Tryz.results155 rfl (by simp[Tryz.ntmps155]) ?_;rw[Tryz.ntmps155];simp only[Qg];repeat first|(refine r_ ?_;simp)|refine q_ ?_
 refine Qe rfl rfl (by simp) (q18) rfl ?_;rintro _ rfl;simp;repeat first|(refine r_ ?_;simp)|refine q_ ?_
end Go.Abs
namespace Go.Abs
open Go Go.Proofs
attribute [local irreducible] upL U5
theorem x0n(T:Nat)(hT:T≤1000):PC Tryz.prog 154 [.i T,.fn (.func 155) [] []] (fun r=>r= .tup [encP (yF T U5),.i 0]):=by
 refine Qk tOk Tryz.func154 rfl Tryz.results154 rfl (by simp[Tryz.ntmps154]) ?_;rw[Tryz.ntmps154];simp only[Qg];simp only[encP];repeat first|(refine r_ ?_;simp)|refine q_ ?_
 refine Rj 1 0 171 1 rfl rfl ?_;simp;obtain⟨K,hK⟩:∃K,K=[AObj.vars [AV.nils],AObj.vars [AV.nils]]:=⟨_,rfl⟩
 have zd:=GL.start (K:=K) (S:=1) [] [] 171 1 (by rw[hK];simp);refine Qo (Qc (sl':=[(1,.fn (.func 155) [] []),(4,.vptr 0 0),(6,.vptr 1 0),(10,.i T),(11,.i 0)]) ?_ (by simp));refine Qn (F:=fun(u:Nat×Nat×List AObj)=>⟨[(1,.fn (.func 155) [] []),(4,.vptr 0 0),(6,.vptr 1 0),(10,.i T),(11,.i u.1)],u.2.2⟩)
  (fun u=>u.1≤T∧GL K u.2.2 1 u.2.1 [] [] 171 1 (upL (fun _=>U5) u.1)) (fun u=>T - u.1) ?_ (0,K.length,_) ⟨by simp,by rw[w0l,hK]at *;exact zd⟩
 rintro⟨j,q,H2⟩ ⟨hj,g⟩ ih;simp only at hj g ih ⊢;have gR:H2[0]? =some (AObj.vars [AV.nils]):=g.kp (by decide) (by rw[hK];rfl);have g2:=g.cell;have g3:=g.arr;rw[Ij]at g2;simp only[vJ]at g2;repeat first|(refine r_ ?_;simp)|refine q_ ?_
 refine Qb rfl (fun ze=> ?_) (fun zf=> ?_)
 ·have zg:j<T:=by simpa using ze
  have hw:IntKind.i64.wrap ((j:Int)+1)=j+1:=wrap_i64 _ (by omega) (by omega);repeat first|(refine r_ ?_;simp)|refine q_ ?_
  refine Qe rfl rfl (by simp) (v1o j) rfl ?_;rintro _ rfl;simp;repeat first|(refine r_ ?_;simp)|refine q_ ?_
  refine Qj rfl ?_;have z6:∀L:List AObj,(H2.set q .dead++L)[1]? =some (AObj.vars [AV.sl q 1 0 j]):=fun L=>by have:=g.at L;rw[Ij]at this;exact this
  have z8:∀(L:List AObj) (h:1<(H2.set q .dead++L).length),(H2.set q .dead++L)[1]'h=AObj.vars [AV.sl q 1 0 j]:=fun L h=>by have:=z6 L;rw[zJ h]at this;exact Option.some.inj this
  have za:=fun A y=>g.put A y (Ij _ _).symm;have zh:upL (fun _=>U5) j++[encL U5]=upL (fun _=>U5) (j+1):=(q0x _ _).symm;have z1:=fun H=>ih (j+1,H2.length+1,H);have z7:=Ij (fun _=>U5) j;simp only[←zh]at z1;repeat first|(refine r_ ?_;simp[g2])|refine q_ ?_
  generalize upL (fun _=>U5) j=xs at *
  refine Qi tOk rfl rfl T74 rfl H4 rfl (by decide) (by decide) rfl rfl rfl ?_;simp[Qa g3,Ql g3,z7,z6,z8];refine⟨by simp[W8,Qa g3,Ql g3,z7,z6,z8]<;>omega,?_⟩;repeat first|(refine r_ ?_;simp[g2,hw,z6,z8])|refine q_ ?_
  refine Qc (sl':=[(1,.fn (.func 155) [] []),(4,.vptr 0 0),(6,.vptr 1 0),(10,.i T),(11,.i (j+1:Nat))]) (z1 _ ⟨by omega,za _ _⟩ (by omega)) ?_;simp
 ·have zb:j=T:=by simp at zf;omega
  subst zb;have hS:=(zB.1 g2).1;have zi:q≠0∧q≠1:=by have:=g.ge;rw[hK]at this;simp at this;omega
  have z7:=Ij (fun _=>U5) j;have zc: .list (upL (fun _=>U5) j)=AV.list ((yF j U5).map encL):=by rw[d0x];simp[Function.comp_def,tC]
  generalize upL (fun _=>U5) j=xs at *
  refine Wj q g3 1 g2 ?_;have k1:∀X,((H2.set q .dead).set 1 X)[0]? =some (AObj.vars [AV.nils]):=fun X=>Qd (by decide) (Qd zi.1 gR _) _;have k2:∀X,((H2.set q .dead).set 1 X)[1]? =some X:=fun X=>zO (by simpa using hS);have k3:∀X Y,(((H2.set q .dead).set 1 X).set 0 Y)[0]? =some Y:=fun X Y=>Qh (k1 X) _;simp[z7];rw[zY (by omega)];repeat first|(refine r_ ?_;simp[k1,k2,k3])|refine q_ ?_
  have h2:=AV.list.inj zc;rw[List.map_replicate]at h2;exact h2
theorem j0e(T:Int)(h1:1≤T)(h2:T≤16):PC Tryz.prog 98 [.i T] (fun r=>r= .tup [encP (Wu T.toNat),.i 0]):=by
 refine Qk tOk Tryz.func98 rfl Tryz.results98 rfl (by simp[Tryz.ntmps98]) ?_;rw[Tryz.ntmps98];simp only[Qg];simp only[encP];have hw:Wu T.toNat=yF T.toNat U5:=by rw[Wu,z0w]
 have hT:((T.toNat:Nat):Int)=T:=by omega
 have hc:=x0n T.toNat (by omega);rw[hT]at hc;have n1:¬T<1:=by omega
 have n2:¬16<T:=by omega
 rw[hw];repeat first|(refine r_ ?_;simp[n1,n2])|refine q_ ?_
 refine Qb rfl (fun h=> ?_) (fun h=> ?_)
 ·simp at h
 repeat first|(refine r_ ?_;simp)|refine q_ ?_
 refine Qe rfl rfl (by simp) (hc) rfl ?_;rintro _ rfl;simp;repeat first|(refine r_ ?_;simp)|refine q_ ?_
end Go.Abs
