/- Part Pe of the proof: an abstract machine over the model, and what the functions of the program hand back in its terms. No condition. -/
import Derived.Test.YteghceocnldccaaGreatDoorPd
import Derived.Test.YteghceocnldccaaGreatDoorPc
set_option linter.all false
set_option linter.unusedSimpArgs false
set_option maxRecDepth 100000
namespace Go.Abs
open Go Go.Proofs
attribute [local irreducible] ckR I6
set_option maxHeartbeats 1000000 in
theorem v1p (l:List Iv) (n:Int) (hl:l.length≤1000000000):PC Tryz.prog 183 [LIv l,.i n] (fun r=>r= .bool (I6 l n)):=by
 refine Qm tOk Tryz.func183 rfl Tryz.results183 rfl (by simp [Tryz.ntmps183]) ?_
 rw [Tryz.ntmps183];simp only [Qf]
 obtain ⟨R,hR⟩:∃R,I6 l n=R:=⟨_,rfl⟩
 rw [hR]
 repeat first|((first|refine ra ?_|refine rb ?_|refine rh ?_);simp)|refine qf ?_|refine qg ?_
 refine Qy l.length (fun j=>I6 (l.drop j) n=R) (fun j=>[(0,LIv l),(1,.i n),(5,.i j)]) (fun _=>[]) rfl (by simp) (by simp) (by simp) (by simp) (by simpa using hR) ?_
 intro j hj hI ih
 repeat first|((first|refine ra ?_|refine rb ?_|refine rh ?_);simp)|refine qf ?_|refine qg ?_
 refine Qb rfl (fun z7=> ?_) (fun z8=> ?_)
 ·have z1:j<l.length:=by simpa using z7
  have hw:IntKind.i64.wrap ((j:Int)+1)=j+1:=wrap_i64 _ (by omega) (by omega)
  rw [Ed z1,q1y] at hI
  by_cases h1:l[j].lo≤n
  ·by_cases h2:n≤l[j].hi
   ·rw [(Cv ..).2 ⟨h1,h2⟩,Bool.true_or] at hI
    repeat first|((first|refine ra ?_|refine rb ?_|refine rh ?_);simp [z1,h1,h2])|refine qf ?_|refine qg ?_
    refine Qj rfl ?_
    repeat first|((first|refine ra ?_|refine rb ?_|refine rh ?_);simp)|refine qf ?_|refine qg ?_
    exact hI.symm
   ·have h3:inI l[j].lo l[j].hi n=false:=by rw [Bool.eq_false_iff,Ne,Cv];omega
    rw [h3,Bool.false_or] at hI
    repeat first|((first|refine ra ?_|refine rb ?_|refine rh ?_);simp [z1,h1,h2])|refine qf ?_|refine qg ?_
    refine Qj rfl ?_
    repeat first|((first|refine ra ?_|refine rb ?_|refine rh ?_);simp [hw])|refine qf ?_|refine qg ?_
    exact Qx _ (ih z1 hI) rfl (by simp) (by simp) (by simp) (by simp)
  ·have h3:inI l[j].lo l[j].hi n=false:=by rw [Bool.eq_false_iff,Ne,Cv];omega
   rw [h3,Bool.false_or] at hI
   repeat first|((first|refine ra ?_|refine rb ?_|refine rh ?_);simp [z1,h1])|refine qf ?_|refine qg ?_
   refine Qj rfl ?_
   repeat first|((first|refine ra ?_|refine rb ?_|refine rh ?_);simp [hw])|refine qf ?_|refine qg ?_
   exact Qx _ (ih z1 hI) rfl (by simp) (by simp) (by simp) (by simp)
 ·have z6:j=l.length:=by simp at z8;omega
  subst z6;rw [List.drop_length] at hI
  repeat first|((first|refine ra ?_|refine rb ?_|refine rh ?_);simp)|refine qf ?_|refine qg ?_
  rw [←hI];unfold I6;rfl
def w2i (x:Iv) (b:List Iv):List Iv:=b.filterMap (z0w x)
attribute [local irreducible] L9 w2i Eb
theorem Ln (x:Iv) (r:List Iv) (n:Int):E3 (x::r) n=(if n<x.lo then [⟨n,x.lo - 1⟩] else [])++E3 r (x.hi+1):=rfl
theorem Ck (n:Int):E3 [] n=if n≤1099511627776 then [⟨n,1099511627776⟩] else []:=rfl
theorem c0i (l:List Iv):E3 l (-1099511627776)=Ep l:=rfl
attribute [local irreducible] Ep E3
end Go.Abs
namespace Go.Abs
open Go Go.Proofs
structure GL (K G:List AObj) (S p:Nat) (pre post:List AV) (e sz:Nat) (xs:List AV):Prop where
 cell:G[S]? =some (.vars (pre++ .sl p sz 0 xs.length::post))
 arr:G[p]? =some (.arr e sz xs)
 ge:K.length≤p
 lt:S<K.length
 len:K.length≤G.length
 keep:∀j,j<K.length→j≠S→G[j]? =K[j]?
theorem GL.kp {K G:List AObj} {S p:Nat} {pre post:List AV} {e sz:Nat} {xs:List AV} (h:GL K G S p pre post e sz xs) {j:Nat} {x:AObj} (hj:j≠S) (hx:K[j]? =some x):G[j]? =some x:=by
 rw [h.keep j (List.getElem?_eq_some_iff.1 hx).1 hj];exact hx
theorem GL.start {K:List AObj} {S:Nat} (pre post:List AV) (e sz:Nat) (h:S<K.length):GL K ((K++[AObj.arr e sz []]).set S (.vars (pre++ .sl K.length sz 0 0::post))) S K.length pre post e sz []:=
 ⟨List.getElem?_set_self (by simp;omega),by rw [List.getElem?_set_ne (by omega)];simp,Nat.le_refl _,h,by simp,fun j hj z1=>by
  rw [List.getElem?_set_ne (fun e=>z1 e.symm),List.getElem?_append_left hj]⟩
theorem GL.put {K G:List AObj} {S p:Nat} {pre post:List AV} {e sz:Nat} {xs:List AV} (h:GL K G S p pre post e sz xs) (A:AObj) (y:AV) {n:Nat} (hn:n=xs.length):
  GL K ((G.set p .dead++[A,AObj.arr e sz (xs++[y])]).set S (.vars (pre++ .sl (G.length+1) sz 0 (n+1)::post))) S (G.length+1) pre post e sz (xs++[y]):=by
 have hl:=h.len
 have z6:=h.lt
 have z7:=h.ge
 subst hn;refine ⟨by rw [List.getElem?_set_self (by simp;omega)];simp,by rw [List.getElem?_set_ne (by omega),List.getElem?_append_right (by simp)];simp,by omega,z6,by simp;omega,fun j hj z1=> ?_⟩
 rw [List.getElem?_set_ne (fun e=>z1 e.symm),List.getElem?_append_left (by simp;omega),List.getElem?_set_ne (by omega)]
 exact h.keep j hj z1
theorem GL.at {K G:List AObj} {S p:Nat} {pre post:List AV} {e sz:Nat} {xs:List AV} (h:GL K G S p pre post e sz xs) (L:List AObj):(G.set p .dead++L)[S]? =some (.vars (pre++ .sl p sz 0 xs.length::post)):=by
 have hl:=h.len
 have z1:=h.lt
 have z6:=h.ge
 rw [List.getElem?_append_left (by simp;omega),List.getElem?_set_ne (by omega)]
 exact h.cell
def upL (F:Nat→List Iv) (j:Nat):List AV:=(List.range j).map fun i=>encL (F i)
theorem Ng (F:Nat→List Iv) (j:Nat):upL F (j+1)=upL F j++[encL (F j)]:=by simp [upL,List.range_succ]
theorem Ic (F:Nat→List Iv) (j:Nat):(upL F j).length=j:=by simp [upL]
theorem g0c (F:Nat→List Iv) (n:Nat):upL F n=((List.range n).map F).map encL:=by simp [upL]
theorem q0v {α β:Type} (d:α) (f:α→β) (p:List α):(List.range p.length).map (fun i=>f (p.getD i d))=p.map f:=by
 refine List.ext_getElem (by simp) fun i h1 h2=> ?_
 have h:i<p.length:=by simpa using h1
 simp [List.getD,h]
theorem Bp (F:Nat→List Iv):upL F 0=[]:=rfl
attribute [local irreducible] upL
end Go.Abs
namespace Go.Abs
def sLt (x y:Sy):Prop:=x.ty<y.ty∨(x.ty=y.ty∧x.num<y.num)
theorem sLt.irr {x:Sy} (h:sLt x x):False:=by unfold sLt at h;omega
theorem sLt.trans {x y z:Sy} (h:sLt x y) (k:sLt y z):sLt x z:=by unfold sLt at *;omega
theorem sLt.tri (x y:Sy):sLt x y∨x=y∨sLt y x:=by
 cases x;cases y
 unfold sLt;simp only [Sy.mk.injEq];omega
def Bo:List Sy→List Sy→Prop
 |x::v,y::w=>sLt x y∨(x=y∧Bo v w)
 |_,_=>False
def ll (v w:List Sy):Prop:=v.length<w.length∨(v.length=w.length∧Bo v w)
def lle (v w:List Sy):Prop:=v=w∨ll v w
theorem Bo.irr:∀ {v:List Sy},¬Bo v v
 |[],h=>h
 |x::v,h=>by
  rcases h with h|⟨_,h⟩
  ·exact h.irr
  ·exact Bo.irr h
theorem Bo.trans:∀ {u v w:List Sy},Bo u v→Bo v w→Bo u w
 |[],_,_,h,_=>h.elim
 |_::_,[],_,h,_=>h.elim
 |_::_,_::_,[],_,k=>k.elim
 |x::u,y::v,z::w,h,k=>by
  rcases h with h|⟨rfl,h⟩
  ·rcases k with k|⟨rfl,k⟩
   ·exact .inl (h.trans k)
   ·exact .inl h
  ·rcases k with k|⟨rfl,k⟩
   ·exact .inl k
   ·exact .inr ⟨rfl,h.trans k⟩
theorem ll.irr {v:List Sy} (h:ll v v):False:=by
 rcases h with h|⟨_,h⟩
 ·omega
 ·exact Bo.irr h
theorem ll.trans {u v w:List Sy} (h:ll u v) (k:ll v w):ll u w:=by
 rcases h with h|⟨h1,h2⟩
 ·rcases k with k|⟨k1,_⟩
  ·exact .inl (by omega)
  ·exact .inl (by omega)
 ·rcases k with k|⟨k1,k2⟩
  ·exact .inl (by omega)
  ·exact .inr ⟨by omega,h2.trans k2⟩
theorem lle.refl (v:List Sy):lle v v:= .inl rfl
theorem lle.trans {u v w:List Sy} (h:lle u v) (k:lle v w):lle u w:=by
 rcases h with rfl|h
 ·exact k
 ·rcases k with rfl|k
  ·exact .inr h
  ·exact .inr (h.trans k)
theorem ll.lle {u v w:List Sy} (h:ll u v) (k:lle v w):ll u w:=by
 rcases k with rfl|k
 ·exact h
 ·exact h.trans k
theorem lle.anti {u v:List Sy} (h:lle u v) (k:lle v u):u=v:=by
 rcases h with rfl|h
 ·rfl
 ·exact ((h.lle k).irr).elim
theorem Bn:∀ {u v:List Sy} (a b:List Sy),u.length=v.length→Bo u v→Bo (u++a) (v++b)
 |[],_,_,_,_,h=>h.elim
 |_::_,[],_,_,_,h=>h.elim
 |x::u,y::v,a,b,e,h=>by
  rcases h with h|⟨rfl,h⟩
  ·exact .inl h
  ·exact .inr ⟨rfl,Bn a b (by simpa using e) h⟩
theorem Mw:∀(u:List Sy) {a b:List Sy},Bo a b→Bo (u++a) (u++b)
 |[],_,_,h=>h
 |_::u,_,_,h=> .inr ⟨rfl,Mw u h⟩
theorem g0q {u v:List Sy} (h:ll u v) (x y:Sy):ll (u++[x]) (v++[y]):=by
 rcases h with h|⟨h1,h2⟩
 ·exact .inl (by simp;omega)
 ·exact .inr ⟨by simp;omega,Bn _ _ h1 h2⟩
theorem B4 (u:List Sy) {x y:Sy} (h:sLt x y):ll (u++[x]) (u++[y]):= .inr ⟨by simp,Mw u (.inl h)⟩
theorem w1w {u v:List Sy} (h:lle u v) {x y:Sy} (k:x=y∨sLt x y):lle (u++[x]) (v++[y]):=by
 rcases h with rfl|h
 ·rcases k with rfl|k
  ·exact .inl rfl
  ·exact .inr (B4 _ k)
 ·exact .inr (g0q h x y)
theorem y15 (u:List Sy) (x:Sy):ll u (u++[x]):= .inl (by simp)
theorem Yv {α:Type} [DecidableEq α]:∀(l U:List α),l.Nodup→(∀x∈l,x∈U)→l.length≤U.length
 |[],_,_,_=>Nat.zero_le _
 |x::l,U,hn,h=>by
  have hx:=h x (by simp)
  have hc:=List.nodup_cons.1 hn
  have ih:=Yv l (U.erase x) hc.2 (fun y hy=>(List.mem_erase_of_ne (fun e=>hc.1 (by rw [←e];exact hy))).2 (h y (by simp [hy])))
  rw [List.length_erase_of_mem hx] at ih
  have:=List.length_pos_of_mem hx
  simp only [List.length_cons];omega
section
variable {σ:Type} [DecidableEq σ] (ok:Sy→Prop) (step:σ→Sy→σ) (good:σ→Bool)
def Yh (s:σ) (w:List Sy):σ:=w.foldl step s
structure FirstW (s:σ) (w:List Sy):Prop where
 okw:∀x∈w,ok x
 goodw:good (Yh step s w)=true
 least:∀v,(∀x∈v,ok x)→good (Yh step s v)=true→lle w v
variable {ok step good}
theorem FirstW.unique {s:σ} {v w:List Sy} (h:FirstW ok step good s v) (k:FirstW ok step good s w):v=w:=
 (h.least w k.okw k.goodw).anti (k.least v h.okw h.goodw)
variable (ok step good)
structure SuccOk (s:σ) (l:List (Sy×σ)):Prop where
 asc:l.Pairwise (fun a b=>sLt a.1 b.1)
 mem:∀e∈l,ok e.1∧e.2=step s e.1
 cov:∀y,ok y→∃e∈l,e.2=step s y∧(e.1=y∨sLt e.1 y)
variable (succ:σ→List (Sy×σ))
def k1i (l:List (σ×List Sy)) (t:σ) (w:List Sy):List (σ×List Sy):=if t∈l.map (·.1) then l else l++[(t,w)]
def Sn (l:List (σ×List Sy)) (w:List Sy) (es:List (Sy×σ)):List (σ×List Sy):=es.foldl (fun l e=>k1i l e.2 (w++[e.1])) l
def k1b:Nat→Nat→List (σ×List Sy)→Option (List Sy)×List (σ×List Sy)
 |0,_,l=>(none,l)
 |f+1,n,l=>match l[n]? with
  |none=>(none,l)
  |some (s,w)=>if good s then (some w,l) else k1b f (n+1) (Sn l w (succ s))
variable (s0:σ) (G:σ→Prop)
structure BInv (n:Nat) (L:List (σ×List Sy)) (done:List (Sy×σ)):Prop where
 first:L[0]? =some (s0,[])
 mem:∀e∈L,(∀x∈e.2,ok x)∧Yh step s0 e.2=e.1∧G e.1
 asc:L.Pairwise (fun a b=>ll a.2 b.2)
 nd:(L.map (·.1)).Nodup
 bad:∀i s w,i<n→L[i]? =some (s,w)→good s=false
 cls:∀i s w,i<n→L[i]? =some (s,w)→∀e∈succ s,∃v,(e.2,v)∈L∧lle v (w++[e.1])
 cur:∀s w,L[n]? =some (s,w)→∀e∈done,∃v,(e.2,v)∈L∧lle v (w++[e.1])
 org:∀d∈L,d.2=[]∨∃i s w x,L[i]? =some (s,w)∧d.2=w++[x]∧(i<n∨(i=n∧∃e∈done,e.1=x))
variable {ok step good succ s0 G}
theorem BInv.low {n:Nat} {L:List (σ×List Sy)} {done:List (Sy×σ)} (h:BInv ok step good succ s0 G n L done) {s:σ} {w:List Sy} (hn:L[n]? =some (s,w)) (x:Sy) (hx:∀e∈done,sLt e.1 x):∀e∈L,ll e.2 (w++[x]):=by
 intro d hd
 rcases h.org d hd with e|⟨i,s',w',y,hi,e,hc⟩
 ·rw [e];exact .inl (by simp)
 ·rw [e]
  rcases hc with hc|⟨rfl,c,hc,rfl⟩
  ·obtain ⟨h1,h2⟩:=List.getElem?_eq_some_iff.1 hi
   obtain ⟨h3,h4⟩:=List.getElem?_eq_some_iff.1 hn
   have:=List.pairwise_iff_getElem.1 h.asc i n h1 h3 hc
   rw [h2,h4] at this;exact g0q this _ _
  ·rw [hn] at hi;cases hi
   exact B4 _ (hx c hc)
theorem BInv.add {n:Nat} {L:List (σ×List Sy)} {done:List (Sy×σ)} (h:BInv ok step good succ s0 G n L done) {s:σ} {w:List Sy} (hn:L[n]? =some (s,w)) {e:Sy×σ} (he:ok e.1∧e.2=step s e.1) (hG:G e.2)
  (z8:∀d∈done,sLt d.1 e.1):BInv ok step good succ s0 G n (k1i L e.2 (w++[e.1])) (done++[e])∧(k1i L e.2 (w++[e.1]))[n]? =some (s,w):=by
 have zb:=(List.getElem?_eq_some_iff.1 hn).1
 have z7:=h.low hn e.1 z8
 unfold k1i
 by_cases hin:e.2∈L.map (·.1)
 ·rw [if_pos hin]
  obtain ⟨⟨t,v⟩,hv,ht⟩:=List.mem_map.1 hin
  simp only at ht;subst ht;refine ⟨⟨h.first,h.mem,h.asc,h.nd,h.bad,h.cls,fun s' w' z6 d hd=> ?_,fun d hd=> ?_⟩,hn⟩
  ·rw [hn] at z6;cases z6
   rcases List.mem_append.1 hd with hd|hd
   ·exact h.cur s w hn d hd
   ·obtain rfl:=List.mem_singleton.1 hd
    exact ⟨v,hv,.inr (z7 _ hv)⟩
  ·rcases h.org d hd with e'|⟨i,s',w',y,hi,e',hc⟩
   ·exact .inl e'
   ·exact .inr ⟨i,s',w',y,hi,e',hc.imp id fun ⟨k1,c,k2,k3⟩=>⟨k1,c,List.mem_append_left _ k2,k3⟩⟩
 ·rw [if_neg hin]
  have z1:∀i,i≤n→(L++[(e.2,w++[e.1])])[i]? =L[i]? :=fun i hi=>List.getElem?_append_left (by omega)
  have hw:=h.mem _ (List.mem_of_getElem? hn)
  refine ⟨⟨by rw [z1 0 (Nat.zero_le _)];exact h.first,fun d hd=> ?_,?_,?_,fun i s' w' hi z6=>h.bad i s' w' hi (by rw [←z1 i (by omega)];exact z6),fun i s' w' hi z6 d hd=> ?_,fun s' w' z6 d hd=> ?_,fun d hd=> ?_⟩,by rw [z1 n (Nat.le_refl _)];exact hn⟩
  ·rcases List.mem_append.1 hd with hd|hd
   ·exact h.mem d hd
   ·obtain rfl:=List.mem_singleton.1 hd
    refine ⟨fun x hx=> ?_,?_,hG⟩
    ·rcases List.mem_append.1 hx with hx|hx
     ·exact hw.1 x hx
     ·obtain rfl:=List.mem_singleton.1 hx;exact he.1
    ·show Yh step s0 (w++[e.1])=e.2
     have h2:Yh step s0 w=s:=hw.2.1
     rw [Yh,List.foldl_append]
     show step (Yh step s0 w) e.1=e.2
     rw [h2,he.2]
  ·exact List.pairwise_append.2 ⟨h.asc,by simp,fun a ha b hb=>by obtain rfl:=List.mem_singleton.1 hb;exact z7 a ha⟩
  ·rw [List.map_append];exact List.nodup_append.2 ⟨h.nd,by simp,fun a ha b hb e'=>by
    simp at hb;subst hb;subst e';exact hin ha⟩
  ·rw [z1 i (by omega)] at z6
   obtain ⟨v,hv,hl⟩:=h.cls i s' w' hi z6 d hd
   exact ⟨v,List.mem_append_left _ hv,hl⟩
  ·rw [z1 n (Nat.le_refl _),hn] at z6;cases z6
   rcases List.mem_append.1 hd with hd|hd
   ·obtain ⟨v,hv,hl⟩:=h.cur s w hn d hd
    exact ⟨v,List.mem_append_left _ hv,hl⟩
   ·obtain rfl:=List.mem_singleton.1 hd
    exact ⟨_,List.mem_append_right _ (by simp),.inl rfl⟩
  ·rcases List.mem_append.1 hd with hd|hd
   ·rcases h.org d hd with e'|⟨i,s',w',y,hi,e',hc⟩
    ·exact .inl e'
    ·have za:i≤n:=by rcases hc with hc|hc<;>omega
     exact .inr ⟨i,s',w',y,by rw [z1 i za];exact hi,e',hc.imp id fun ⟨k1,c,k2,k3⟩=>⟨k1,c,List.mem_append_left _ k2,k3⟩⟩
   ·obtain rfl:=List.mem_singleton.1 hd
    exact .inr ⟨n,s,w,e.1,by rw [z1 n (Nat.le_refl _)];exact hn,rfl,.inr ⟨rfl,e,by simp,rfl⟩⟩
theorem BInv.round {n:Nat}:∀(es:List (Sy×σ)) (done:List (Sy×σ)) (L:List (σ×List Sy)) {s:σ} {w:List Sy},BInv ok step good succ s0 G n L done→L[n]? =some (s,w)→(∀e∈es,ok e.1∧e.2=step s e.1)→(∀e∈es,G e.2)→
  (done++es).Pairwise (fun a b=>sLt a.1 b.1)→BInv ok step good succ s0 G n (Sn L w es) (done++es)∧(Sn L w es)[n]? =some (s,w)
 |[],done,L,s,w,h,hn,_,_,_=>by simpa [Sn] using ⟨h,hn⟩
 |e::es,done,L,s,w,h,hn,hm,hG,hp=>by
  have z1:∀d∈done,sLt d.1 e.1:=fun d hd=>(List.pairwise_append.1 hp).2.2 d hd e (by simp)
  obtain ⟨h1,h2⟩:=h.add hn (hm e (by simp)) (hG e (by simp)) z1
  have:=BInv.round es (done++[e]) _ h1 h2 (fun d hd=>hm d (by simp [hd])) (fun d hd=>hG d (by simp [hd])) (by simpa using hp)
  simpa [Sn] using this
theorem BInv.next {n:Nat} {L:List (σ×List Sy)} {s:σ} {w:List Sy} (h:BInv ok step good succ s0 G n L []) (hn:L[n]? =some (s,w)) (hg:good s=false) (hs:SuccOk ok step s (succ s)) (hG:∀e∈succ s,G e.2):
  BInv ok step good succ s0 G (n+1) (Sn L w (succ s)) []:=by
 obtain ⟨h1,h2⟩:=h.round (succ s) [] L hn hs.mem hG (by simpa using hs.asc)
 rw [List.nil_append] at h1;refine ⟨h1.first,h1.mem,h1.asc,h1.nd,fun i s' w' hi z1=> ?_,fun i s' w' hi z1 d hd=> ?_,fun _ _ _ _ hd=>(by cases hd),fun d hd=> ?_⟩
 ·by_cases hin:i<n
  ·exact h1.bad i s' w' hin z1
  ·have:i=n:=by omega
   subst this;rw [h2] at z1;cases z1;exact hg
 ·by_cases hin:i<n
  ·exact h1.cls i s' w' hin z1 d hd
  ·have:i=n:=by omega
   subst this;rw [h2] at z1;cases z1
   exact h1.cur s w h2 d hd
 ·rcases h1.org d hd with e'|⟨i,s',w',y,hi,e',hc⟩
  ·exact .inl e'
  ·exact .inr ⟨i,s',w',y,hi,e',.inl (by rcases hc with hc|hc<;>omega)⟩
theorem BInv.reach {n:Nat} {L:List (σ×List Sy)} (h:BInv ok step good succ s0 G n L []) (hs:∀s,G s→SuccOk ok step s (succ s)):∀(r:List Sy),(∀x∈r,ok x)→
  (∃v,(Yh step s0 r.reverse,v)∈L∧lle v r.reverse)∨∃i s w,n≤i∧L[i]? =some (s,w)∧lle w r.reverse
 |[],_=> .inl ⟨[],List.mem_of_getElem? h.first,lle.refl _⟩
 |x::r,hx=>by
  have z1:ll r.reverse (x::r).reverse:=by rw [List.reverse_cons];exact y15 _ _
  rcases BInv.reach h hs r (fun y hy=>hx y (by simp [hy])) with ⟨v,hv,hl⟩|⟨i,s,w,h1,h2,h3⟩
  ·obtain ⟨i,hi⟩:=List.mem_iff_getElem?.1 hv
   by_cases hin:i<n
   ·obtain ⟨e,he,e1,e2⟩:=(hs _ (h.mem _ hv).2.2).cov x (hx x (by simp))
    obtain ⟨u,hu,z6⟩:=h.cls i _ _ hin hi e he
    refine .inl ⟨u,?_,?_⟩
    ·rw [List.reverse_cons,Yh,List.foldl_append]
     show (step (Yh step s0 r.reverse) x,u)∈L
     rw [←e1];exact hu
    ·rw [List.reverse_cons];exact z6.trans (w1w hl e2)
   ·exact .inr ⟨i,_,v,by omega,hi,hl.trans (.inr z1)⟩
  ·exact .inr ⟨i,s,w,h1,h2,h3.trans (.inr z1)⟩
theorem BInv.found {n:Nat} {L:List (σ×List Sy)} {s:σ} {w:List Sy} (h:BInv ok step good succ s0 G n L []) (hs:∀s,G s→SuccOk ok step s (succ s)) (hn:L[n]? =some (s,w)) (hg:good s=true):FirstW ok step good s0 w:=by
 have hm:=h.mem _ (List.mem_of_getElem? hn)
 refine ⟨hm.1,by rw [hm.2.1];exact hg,fun v hv z1=> ?_⟩
 have hle:∀i s' w',n≤i→L[i]? =some (s',w')→lle w w':=fun i s' w' hi hl=>by
  obtain ⟨h1,h2⟩:=List.getElem?_eq_some_iff.1 hn
  obtain ⟨h3,h4⟩:=List.getElem?_eq_some_iff.1 hl
  rcases Nat.lt_or_eq_of_le hi with hlt|rfl
  ·have:=List.pairwise_iff_getElem.1 h.asc n i h1 h3 hlt
   rw [h2,h4] at this;exact .inr this
  ·rw [hn] at hl;cases hl;exact .inl rfl
 rcases h.reach hs v.reverse (fun x hx=>hv x (by simpa using hx)) with ⟨u,hu,hl⟩|⟨i,s',w',h1,h2,h3⟩
 ·rw [List.reverse_reverse] at hu hl
  obtain ⟨i,hi⟩:=List.mem_iff_getElem?.1 hu
  by_cases hin:i<n
  ·have:=h.bad i _ _ hin hi
   rw [this] at z1;cases z1
  ·exact (hle i _ _ (by omega) hi).trans hl
 ·rw [List.reverse_reverse] at h3;exact (hle i _ _ h1 h2).trans h3
theorem BInv.none {n:Nat} {L:List (σ×List Sy)} (h:BInv ok step good succ s0 G n L []) (hs:∀s,G s→SuccOk ok step s (succ s)) (hn:L[n]? =none):
  (∀v,(∀x∈v,ok x)→Yh step s0 v∈L.map (·.1)∧good (Yh step s0 v)=false):=by
 intro v hv
 have hlen:=List.getElem?_eq_none_iff.1 hn
 rcases h.reach hs v.reverse (fun x hx=>hv x (by simpa using hx)) with ⟨u,hu,_⟩|⟨i,s',w',h1,h2,_⟩
 ·rw [List.reverse_reverse] at hu
  obtain ⟨i,hi⟩:=List.mem_iff_getElem?.1 hu
  have:=(List.getElem?_eq_some_iff.1 hi).1
  exact ⟨List.mem_map.2 ⟨_,hu,rfl⟩,h.bad i _ _ (by omega) hi⟩
 ·have:=(List.getElem?_eq_some_iff.1 h2).1
  omega
theorem M7 (hs:∀s,G s→SuccOk ok step s (succ s)) (hG:∀s,G s→∀e∈succ s,G e.2) (U:List σ) (hU:∀s,G s→s∈U):∀(f n:Nat) (L:List (σ×List Sy)),U.length+1≤n+f→n≤L.length→BInv ok step good succ s0 G n L []→
  (∃w L',k1b good succ f n L=(some w,L')∧FirstW ok step good s0 w)∨
  (∃L',k1b good succ f n L=(Option.none,L')∧(L'.map (·.1)).Nodup∧(∀e∈L',(∀x∈e.2,ok x)∧Yh step s0 e.2=e.1∧G e.1)∧∀v,(∀x∈v,ok x)→Yh step s0 v∈L'.map (·.1)∧good (Yh step s0 v)=false)
 |0,n,L,hf,hn,h=>by
  exfalso
  have:=Yv _ U h.nd (fun s hs=>by
   obtain ⟨e,he,rfl⟩:=List.mem_map.1 hs
   exact hU _ (h.mem e he).2.2)
  simp at this;omega
 |f+1,n,L,hf,hn,h=>by
  rw [k1b]
  cases hl:L[n]? with
  |none=>exact .inr ⟨L,rfl,h.nd,h.mem,h.none hs hl⟩
  |some e=>
   obtain ⟨s,w⟩:=e
   simp only
   cases hg:good s with
   |true=>rw [if_pos rfl];exact .inl ⟨w,L,rfl,h.found hs hl hg⟩
   |false=>
    rw [if_neg (by simp)]
    have z1:=(h.mem _ (List.mem_of_getElem? hl)).2.2
    have h':=h.next hl hg (hs s z1) (hG s z1)
    refine M7 hs hG U hU f (n+1) _ (by omega) ?_ h'
    have z6:=(List.getElem?_eq_some_iff.1 hl).1
    have z7:∀(es:List (Sy×σ)) (L:List (σ×List Sy)),L.length≤(Sn L w es).length:=by
     intro es
     induction es with
     |nil=>intro L;exact Nat.le_refl _
     |cons e es ih=>
      intro L;refine Nat.le_trans ?_ (ih (k1i L e.2 (w++[e.1])));unfold k1i;split
      ·exact Nat.le_refl _
      ·simp
    exact Nat.le_trans z6 (z7 _ _)
theorem q0u (z1:G s0):BInv ok step good succ s0 G 0 [(s0,[])] []:=
 ⟨rfl,fun e he=>by obtain rfl:=List.mem_singleton.1 he;exact ⟨by simp,rfl,z1⟩,by simp,by simp,fun i _ _ hi=>by omega,fun i _ _ hi=>by omega,fun _ _ _ _ hd=>(by cases hd),fun d hd=>by obtain rfl:=List.mem_singleton.1 hd;exact .inl rfl⟩
end
end Go.Abs
namespace Go.Abs
structure Dfa (a:Aut):Prop where
 ok:OkA a
 det:Uh a
 full:D2 a
def toL (a:Aut) (s:Int) (x:Sy):Int:=match a.mv.find? (fun m=>decide (m.src=s) && Tz m.on x) with|some m=>m.dst|none=> -1
def inS (a:Aut) (s:Int):Prop:=0≤s∧s<a.fin.length
theorem Dfa.next {a:Aut} (h:Dfa a) {s:Int} (hs:inS a s) {x:Sy} (hx:Eg a x):inS a (toL a s x)∧Q5 a [s] x=[toL a s x]:=by
 obtain ⟨t,t0,t1,e⟩:=Nd h.ok.wfA h.det h.full hs.1 hs.2 hx
 obtain ⟨m,hm,h1,h2⟩:=h.full s hs.1 hs.2 x hx
 have hf:toL a s x=t:=by
  unfold toL
  cases hq:a.mv.find? (fun m=>decide (m.src=s) && Tz m.on x) with
  |none=>
   have:=List.find?_eq_none.1 hq m hm
   simp [h1,h2] at this
  |some k=>
   have hk:=List.mem_of_find?_eq_some hq
   have hp:=List.find?_some hq
   simp at hp
   have z1:k.dst∈Q5 a [s] x:=Ek.2 ⟨h.ok.wfA.dst k hk,k,hk,by rw [hp.1];simp,hp.2,rfl⟩
   rw [e] at z1;exact List.mem_singleton.1 z1
 rw [hf];exact ⟨⟨t0,t1⟩,e⟩
theorem Dfa.to_of {a:Aut} (h:Dfa a) {m:Mv} (hm:m∈a.mv) {x:Sy} (hx:Eg a x) (hh:Tz m.on x=true):toL a m.src x=m.dst:=by
 have hs:inS a m.src:=h.ok.wfA.src m hm
 have h1:=(h.next hs hx).2
 have z1:m.dst∈Q5 a [m.src] x:=Ek.2 ⟨h.ok.wfA.dst m hm,m,hm,by simp,hh,rfl⟩
 rw [h1] at z1;exact (List.mem_singleton.1 z1).symm
theorem Dfa.move {a:Aut} (h:Dfa a) {s:Int} (hs:inS a s) {x:Sy} (hx:Eg a x):∃m∈a.mv,m.src=s∧Tz m.on x=true∧m.dst=toL a s x:=by
 obtain ⟨m,hm,h1,h2⟩:=h.full s hs.1 hs.2 x hx
 exact ⟨m,hm,h1,h2,by rw [←h1,h.to_of hm hx h2]⟩
theorem Nz {a:Aut} {x y:Sy} (h:∀m∈a.mv,Tz m.on x=Tz m.on y) (s:Int):toL a s x=toL a s y:=by
 unfold toL
 have:a.mv.find? (fun m=>decide (m.src=s) && Tz m.on x)=a.mv.find? (fun m=>decide (m.src=s) && Tz m.on y):=by
  generalize a.mv=l at h
  induction l with
  |nil=>rfl
  |cons m l ih=>
   rw [List.find?_cons,List.find?_cons,h m (by simp),ih (fun k hk=>h k (by simp [hk]))]
 rw [this]
def stF (a:Aut) (s:Int) (w:List Sy):Int:=w.foldl (toL a) s
def H8 (a:Aut) (s:Int) (w:List Sy):Bool:=a.fin.getD (stF a s w).toNat false
theorem Dfa.run {a:Aut} (h:Dfa a):∀(w:List Sy) (s:Int),inS a s→(∀x∈w,Eg a x)→inS a (stF a s w)∧O2 a [s] w=[stF a s w]
 |[],s,hs,_=>⟨hs,rfl⟩
 |x::w,s,hs,hx=>by
  obtain ⟨h1,h2⟩:=h.next hs (hx x (by simp))
  have:=h.run w _ h1 (fun y hy=>hx y (by simp [hy]))
  refine ⟨this.1,?_⟩
  show O2 a (Q5 a [s] x) w=_
  rw [h2];exact this.2
theorem Dfa.zero {a:Aut} (h:Dfa a):inS a 0:=⟨Int.le_refl _,by have:=h.ok.fin;omega⟩
structure Ltr (T:Nat) (l cl:List Prd):Prop where
 prts:Prts T l cl
 asc:cl.Pairwise z0x
 len:∀p∈l,p.length=T
def okT (T:Nat) (x:Sy):Prop:=0≤x.ty∧x.ty.toNat<T∧inR x.num
theorem d1c {T:Nat} (hT:0<T) {l:List Prd} (hl:∀p∈l,PCk T p):Ltr T l (Q8 T l):=by
 obtain ⟨h1,h2⟩:=Y0 hT hl
 exact ⟨h1,h2,fun p hp=>(hl p hp).1⟩
theorem g0m {p:Prd} {t:Nat} {n:Int} (h:Ue (Qu p 0).1 (Qu p 0).2 t n):sLt (Ql p) ⟨t,n⟩:=by
 unfold Ue at h;unfold sLt Ql;simp only;omega
theorem Ltr.least {T:Nat} {l cl:List Prd} (h:Ltr T l cl) {c:Prd} (hc:c∈cl):okT T (Ql c)∧PM c (Ql c).ty.toNat (Ql c).num:=by
 have h1:=(Wu (h.prts.wf c hc) (h.prts.ne c hc)).1
 have h2:=(h.prts.wf c hc).lt h1
 exact ⟨⟨by simp [Ql],by simpa [Ql] using h2.1,h2.2⟩,by simpa [Ql] using h1⟩
theorem Ltr.sig {T:Nat} {l cl:List Prd} (h:Ltr T l cl) {c:Prd} (hc:c∈cl) {x y:Sy} (hx:okT T x) (hy:okT T y) (z1:PM c x.ty.toNat x.num) (z6:PM c y.ty.toNat y.num):∀p∈l,Tz p x=Tz p y:=fun p hp=>by
 have h2:=((h.prts.cls c hc _ _ z1 _ _).1 z6).2.2 p hp
 rw [Bool.eq_iff_iff,E8 (h.len p hp) x hx.1,E8 (h.len p hp) y hy.1];exact h2
theorem Ltr.cov {T:Nat} {l cl:List Prd} (h:Ltr T l cl) {x:Sy} (hx:okT T x):∃c∈cl,PM c x.ty.toNat x.num∧(Ql c=x∨sLt (Ql c) x)∧∀p∈l,Tz p x=Tz p (Ql c):=by
 obtain ⟨c,hc,hm⟩:=h.prts.all x.ty.toNat x.num hx.2.1 hx.2.2
 obtain ⟨h1,h2⟩:=h.least hc
 refine ⟨c,hc,hm,?_,h.sig hc hx h1 hm h2⟩
 rcases (Wu (h.prts.wf c hc) (h.prts.ne c hc)).2 _ _ hm with ⟨e1,e2⟩|hlt
 ·left;unfold Ql;rw [e1,e2,show ((x.ty.toNat:Nat):Int)=x.ty by have:=hx.1;omega]
 ·right
  have:=g0m hlt
  have e:(⟨(x.ty.toNat:Int),x.num⟩:Sy)=x:=by rw [show ((x.ty.toNat:Nat):Int)=x.ty by have:=hx.1;omega]
  rw [e] at this;exact this
theorem Ltr.ascS {T:Nat} {l cl:List Prd} (h:Ltr T l cl):(cl.map Ql).Pairwise sLt:=by
 refine List.pairwise_map.2 (h.asc.imp_of_mem fun {p q} hp hq hlt=> ?_)
 obtain ⟨t,n,hm,z1⟩:=hlt
 have h1:=z1 _ _ (Wu (h.prts.wf q hq) (h.prts.ne q hq)).1
 have h2:Ue (Qu p 0).1 (Qu p 0).2 (Qu q 0).1 (Qu q 0).2:=by
  rcases (Wu (h.prts.wf p hp) (h.prts.ne p hp)).2 t n hm with ⟨e1,e2⟩|h3
  ·rw [e1,e2];exact h1
  ·exact h3.trans h1
 exact g0m h2
def Ld (a b:Aut):List Sy:=(Q8 a.types.toNat (onA a++onA b)).map Ql
def T1 (a b:Aut) (s:Int×Int) (x:Sy):Int×Int:=(toL a s.1 x,toL b s.2 x)
def j0g (a b:Aut) (s:Int×Int):List (Sy×(Int×Int)):=(Ld a b).map fun x=>(x,T1 a b s x)
theorem J4 {a:Aut} {x:Sy}:okT a.types.toNat x↔Eg a x:=by
 unfold okT Eg;constructor
 ·rintro ⟨h1,h2,h3⟩;exact ⟨⟨h1,by omega⟩,h3⟩
 ·rintro ⟨⟨h1,h2⟩,h3⟩;exact ⟨h1,by omega,h3⟩
theorem g1j {a b:Aut} (ha:OkA a) (hb:OkA b) (ht:b.types=a.types):Ltr a.types.toNat (onA a++onA b) (Q8 a.types.toNat (onA a++onA b)):=
 d1c (by have:=ha.types;omega) fun p hp=>by
  rcases List.mem_append.1 hp with hp|hp
  ·exact N5 ha p hp
  ·rw [←ht];exact N5 hb p hp
theorem j0s {a:Aut} {m:Mv} (h:m∈a.mv):m.on∈onA a:=List.mem_map.2 ⟨m,h,rfl⟩
theorem v0g {a b:Aut} (ha:OkA a) (hb:OkA b) (ht:b.types=a.types) (s:Int×Int):SuccOk (Eg a) (T1 a b) s (j0g a b s):=by
 have hl:=g1j ha hb ht
 refine ⟨?_,fun e he=> ?_,fun y hy=> ?_⟩
 ·unfold j0g;exact List.pairwise_map.2 (hl.ascS.imp fun h=>h)
 ·obtain ⟨x,hx,rfl⟩:=List.mem_map.1 he
  obtain ⟨c,hc,rfl⟩:=List.mem_map.1 hx
  exact ⟨J4.1 (hl.least hc).1,rfl⟩
 ·obtain ⟨c,hc,hm,hle,z1⟩:=hl.cov (J4.2 hy)
  refine ⟨(Ql c,T1 a b s (Ql c)),List.mem_map.2 ⟨Ql c,List.mem_map.2 ⟨c,hc,rfl⟩,rfl⟩,?_,hle⟩;unfold T1;rw [Nz (fun m hm=>(z1 m.on (List.mem_append_left _ (j0s hm))).symm),Nz (a:=b) (fun m hm=>(z1 m.on (List.mem_append_right _ (j0s hm))).symm)]
def R7 (a b:Aut) (s:Int×Int):Bool:=a.fin.getD s.1.toNat false != b.fin.getD s.2.toNat false
def T0 (a b:Aut) (p q:Int):Option (List Sy)×List ((Int×Int)×List Sy):=k1b (R7 a b) (j0g a b) (a.fin.length * b.fin.length+1) 0 [((p,q),[])]
theorem X8 (a b:Aut):∀(w:List Sy) (p q:Int),Yh (T1 a b) (p,q) w=(stF a p w,stF b q w)
 |[],_,_=>rfl
 |x::w,p,q=>X8 a b w (toL a p x) (toL b q x)
def Oi (a b:Aut):List (Int×Int):=(Ri a.fin.length).flatMap fun i=>(Ri b.fin.length).map fun j=>(i,j)
theorem U9 (a b:Aut):(Oi a b).length=a.fin.length * b.fin.length:=by
 unfold Oi;rw [List.length_flatMap,List.map_congr_left (g:=fun _=>b.fin.length) (fun i _=>by simp [Ri]),List.map_const',List.sum_replicate_nat]
 simp [Ri]
theorem Pl {a b:Aut} {s:Int×Int} (h1:inS a s.1) (h2:inS b s.2):s∈Oi a b:=by
 unfold Oi;rw [List.mem_flatMap];exact ⟨s.1,Rp.2 h1,List.mem_map.2 ⟨s.2,Rp.2 h2,rfl⟩⟩
def z1x (a b:Aut) (p q:Int) (w:List Sy):Prop:=FirstW (Eg a) (T1 a b) (R7 a b) (p,q) w
theorem Io (a b:Aut) (p q:Int) (w:List Sy):R7 a b (Yh (T1 a b) (p,q) w)=true↔H8 a p w≠H8 b q w:=by
 rw [X8]
 simp [R7,H8]
theorem P8 {a b:Aut} (ha:Dfa a) (hb:Dfa b) (ht:b.types=a.types) {p q:Int} (hp:inS a p) (hq:inS b q):
  (∃w,(T0 a b p q).1=some w∧z1x a b p q w)∨((T0 a b p q).1=none∧∀w,(∀x∈w,Eg a x)→H8 a p w=H8 b q w):=by
 have z1:∀x,Eg a x→Eg b x:=fun x hx=>by unfold Eg at *;rw [ht];exact hx
 rcases M7 (ok:=Eg a) (step:=T1 a b) (good:=R7 a b) (succ:=j0g a b) (s0:=(p,q)) (G:=fun s=>inS a s.1∧inS b s.2) (fun s _=>v0g ha.ok hb.ok ht s)
  (fun s hs e he=>by
   obtain ⟨h1,h2⟩:=(v0g ha.ok hb.ok ht s).mem e he
   rw [h2];exact ⟨(ha.next hs.1 h1).1,(hb.next hs.2 (z1 _ h1)).1⟩) (Oi a b) (fun s hs=>Pl hs.1 hs.2) (a.fin.length * b.fin.length+1) 0 [((p,q),[])] (by rw [U9];omega) (by simp) (q0u ⟨hp,hq⟩) with ⟨w,L,h1,h2⟩|⟨L,h1,_,_,h2⟩
 ·exact .inl ⟨w,by rw [T0,h1],h2⟩
 ·refine .inr ⟨by rw [T0,h1],fun w hw=> ?_⟩
  have:=(h2 w hw).2
  by_cases hd:H8 a p w=H8 b q w
  ·exact hd
  ·rw [(Io a b p q w).2 hd] at this;cases this
end Go.Abs
namespace Go.Abs
def Wb (a:Aut) (s:Int):List Mv:=a.mv.filter fun m=>decide (m.src=s) && !Wp m.on
def Wi (a b:Aut) (s:Int×Int):List (Sy×(Int×Int)):=(Wb a s.1).flatMap fun m=>(Wb b s.2).filterMap fun n=>if Wp (W3 m.on n.on) then none else some (Ql (W3 m.on n.on),(m.dst,n.dst))
theorem Ey {a:Aut} {s:Int} {m:Mv}:m∈Wb a s↔m∈a.mv∧m.src=s∧Wp m.on=false:=by
 unfold Wb;rw [List.mem_filter]
 simp
theorem Sb {a b:Aut} {s:Int×Int} {e:Sy×(Int×Int)}:e∈Wi a b s↔∃m∈Wb a s.1,∃n∈Wb b s.2,Wp (W3 m.on n.on)=false∧e=(Ql (W3 m.on n.on),(m.dst,n.dst)):=by
 unfold Wi;rw [List.mem_flatMap];constructor
 ·rintro ⟨m,hm,h⟩
  obtain ⟨n,hn,h⟩:=List.mem_filterMap.1 h
  cases hv:Wp (W3 m.on n.on)
  ·rw [hv,if_neg (by simp)] at h
   cases h
   exact ⟨m,hm,n,hn,hv,rfl⟩
  ·rw [hv,if_pos rfl] at h;cases h
 ·rintro ⟨m,hm,n,hn,hv,rfl⟩
  exact ⟨m,hm,List.mem_filterMap.2 ⟨n,hn,by rw [hv,if_neg (by simp)]⟩⟩
theorem U7 {T:Nat} {p:Prd} (h:PWf T p):Wp p=false↔∃t n,PM p t n:=by
 cases hv:Wp p
 ·simp only [true_iff]
  apply Classical.byContradiction
  intro hn
  have:=(Rs h).2 (fun t n hm=>hn ⟨t,n,hm⟩)
  rw [hv] at this;cases this
 ·simp only [Bool.true_eq_false,false_iff]
  rintro ⟨t,n,hm⟩
  exact (Rs h).1 hv t n hm
theorem Oy {T:Nat} {p:Prd} (h:PWf T p) (hn:∃t n,PM p t n):okT T (Ql p)∧PM p (Ql p).ty.toNat (Ql p).num∧∀x,okT T x→PM p x.ty.toNat x.num→Ql p=x∨sLt (Ql p) x:=by
 have h1:=Wu h hn
 have h2:=h.lt h1.1
 refine ⟨⟨by simp [Ql],by simpa [Ql] using h2.1,h2.2⟩,by simpa [Ql] using h1.1,fun x hx hm=> ?_⟩
 rcases h1.2 _ _ hm with ⟨e1,e2⟩|hlt
 ·left;unfold Ql;rw [e1,e2,show ((x.ty.toNat:Nat):Int)=x.ty by have:=hx.1;omega]
 ·right
  have:=g0m hlt
  have e:(⟨(x.ty.toNat:Int),x.num⟩:Sy)=x:=by rw [show ((x.ty.toNat:Nat):Int)=x.ty by have:=hx.1;omega]
  rw [e] at this;exact this
theorem Pu {a b:Aut} (ha:Dfa a) (hb:Dfa b) (ht:b.types=a.types) {s:Int×Int} (h1:inS a s.1) (h2:inS b s.2):
  (∀e∈Wi a b s,Eg a e.1∧e.2=T1 a b s e.1)∧∀y,Eg a y→∃e∈Wi a b s,e.2=T1 a b s y∧(e.1=y∨sLt e.1 y):=by
 have z1:∀x,Eg a x→Eg b x:=fun x hx=>by unfold Eg at *;rw [ht];exact hx
 have z7:∀ {m n:Mv},m∈a.mv→n∈b.mv→PWf a.types.toNat m.on∧PWf a.types.toNat n.on:=fun hm hn=>⟨ha.ok.wfA.on _ hm,by rw [←ht];exact hb.ok.wfA.on _ hn⟩
 constructor
 ·intro e he
  obtain ⟨m,hm,n,hn,hv,rfl⟩:=Sb.1 he
  obtain ⟨m1,m2,_⟩:=Ey.1 hm
  obtain ⟨n1,n2,_⟩:=Ey.1 hn
  obtain ⟨w1,w2⟩:=z7 m1 n1
  have hw:=Tt w1 w2.1
  obtain ⟨k1,k2,_⟩:=Oy hw ((U7 hw).1 hv)
  have hk:=J4.1 k1
  obtain ⟨p1,p2⟩:=(W6 w1.1 w2.1 _ _).1 k2
  refine ⟨hk,?_⟩;unfold T1;rw [←m2,←n2,ha.to_of m1 hk ((E8 w1.1 _ hk.1.1).2 p1),hb.to_of n1 (z1 _ hk) ((E8 w2.1 _ hk.1.1).2 p2)]
 ·intro y hy
  obtain ⟨m,m1,m2,m3,m4⟩:=ha.move h1 hy
  obtain ⟨n,n1,n2,n3,n4⟩:=hb.move h2 (z1 y hy)
  obtain ⟨w1,w2⟩:=z7 m1 n1
  have hw:=Tt w1 w2.1
  have p1:=(E8 w1.1 y hy.1.1).1 m3
  have p2:=(E8 w2.1 y hy.1.1).1 n3
  have z6:=(W6 w1.1 w2.1 _ _).2 ⟨p1,p2⟩
  have hv:=(U7 hw).2 ⟨_,_,z6⟩
  refine ⟨_,Sb.2 ⟨m,Ey.2 ⟨m1,m2,(U7 w1).2 ⟨_,_,p1⟩⟩,n,Ey.2 ⟨n1,n2,(U7 w2).2 ⟨_,_,p2⟩⟩,hv,rfl⟩,?_,(Oy hw ⟨_,_,z6⟩).2.2 y (J4.2 hy) z6⟩;unfold T1;rw [m4,n4]
def lkN (near:List ((Int×Int)×Nat)) (s:Int×Int):Option Nat:=(near.find? fun e=>decide (e.1=s)).map (·.2)
def Gr (a:Aut) (near:List ((Int×Int)×Nat)) (d:Nat) (s:Int×Int):Bool:=match d with
 |0=>R7 a a s
 |d+1=>(Wi a a s).any fun e=>decide (lkN near e.2=some d)
def Ry (a:Aut) (near:List ((Int×Int)×Nat)) (d:Nat):List (Int×Int):=(Oi a a).filter fun s=>decide (lkN near s=none) && Gr a near d s
def Hf (a:Aut):Nat→Nat→List ((Int×Int)×Nat)→List ((Int×Int)×Nat)
 |0,_,near=>near
 |f+1,d,near=>if Ry a near d=[] then near else Hf a f (d+1) (near++(Ry a near d).map fun s=>(s,d))
def R9 (a:Aut):List ((Int×Int)×Nat):=Hf a (a.fin.length * a.fin.length+1) 1 ((Ry a [] 0).map fun s=>(s,0))
def inP (a:Aut) (s:Int×Int):Prop:=inS a s.1∧inS a s.2
def Cm (a:Aut) (s:Int×Int) (d:Nat):Prop:=∃w:List Sy,w.length=d∧(∀x∈w,Eg a x)∧R7 a a (Yh (T1 a a) s w)=true
def I3 (a:Aut) (s:Int×Int) (d:Nat):Prop:=Cm a s d∧∀k,k<d→¬Cm a s k
theorem Ff {a:Aut} {s:Int×Int}:Cm a s 0↔R7 a a s=true:=by
 constructor
 ·rintro ⟨w,hw,_,h⟩
  obtain rfl:=List.length_eq_zero_iff.1 hw
  exact h
 ·intro h;exact ⟨[],rfl,by simp,h⟩
theorem P0 {a:Aut} {s:Int×Int} {d:Nat}:Cm a s (d+1)↔∃y,Eg a y∧Cm a (T1 a a s y) d:=by
 constructor
 ·rintro ⟨w,hw,ho,h⟩
  cases w with
  |nil=>cases hw
  |cons y w=>exact ⟨y,ho y (by simp),w,by simpa using hw,fun x hx=>ho x (by simp [hx]),h⟩
 ·rintro ⟨y,hy,w,hw,ho,h⟩
  exact ⟨y::w,by simp [hw],fun x hx=>(List.mem_cons.1 hx).elim (fun e=>by rw [e];exact hy) (ho x),h⟩
theorem Hw {a:Aut} {s:Int×Int} {d k:Nat} (h:I3 a s d) (h':I3 a s k):d=k:=by
 rcases Nat.lt_trichotomy d k with hlt|e|hlt
 ·exact absurd h.1 (h'.2 d hlt)
 ·exact e
 ·exact absurd h'.1 (h.2 k hlt)
theorem Bx {a:Aut} {s:Int×Int}:∀(d:Nat),Cm a s d→∃k,k≤d∧I3 a s k:=by
 intro d
 induction d using Nat.strongRecOn with
 |_ d ih=>
  intro h
  by_cases hk:∃k,k<d∧Cm a s k
  ·obtain ⟨k,h1,h2⟩:=hk
   obtain ⟨j,h3,h4⟩:=ih k h1 h2
   exact ⟨j,by omega,h4⟩
  ·exact ⟨d,Nat.le_refl _,h,fun k h1 h2=>hk ⟨k,h1,h2⟩⟩
theorem Ax {a:Aut} {s:Int×Int} {d:Nat} (h:I3 a s (d+1)):∃y,Eg a y∧I3 a (T1 a a s y) d:=by
 obtain ⟨y,hy,h1⟩:=P0.1 h.1
 refine ⟨y,hy,h1,fun k hk h2=> ?_⟩
 exact h.2 (k+1) (by omega) (P0.2 ⟨y,hy,h2⟩)
theorem Av {a:Aut} (ha:Dfa a) {s:Int×Int} (hs:inP a s) {y:Sy} (hy:Eg a y):inP a (T1 a a s y):=⟨(ha.next hs.1 hy).1,(ha.next hs.2 hy).1⟩
structure NInv (a:Aut) (d:Nat) (near:List ((Int×Int)×Nat)):Prop where
 lk:∀s,inP a s→∀k,lkN near s=some k↔(k<d∧I3 a s k)
 keys:(near.map (·.1)).Nodup
 dom:∀e∈near,e.1∈Oi a a
theorem x1p (A:List ((Int×Int)×Nat)) (B:List (Int×Int)) (d:Nat) (s:Int×Int):lkN (A++B.map fun t=>(t,d)) s=match lkN A s with|some k=>some k|none=>if s∈B then some d else none:=by
 unfold lkN;rw [List.find?_append]
 cases hA:A.find? fun e=>decide (e.1=s) with
 |some e=>rfl
 |none=>
  simp only [Option.none_or,Option.map_none]
  by_cases hs:s∈B
  ·rw [if_pos hs]
   obtain ⟨e,he⟩:=Option.isSome_iff_exists.1 (List.find?_isSome.2 ⟨(s,d),List.mem_map.2 ⟨s,hs,rfl⟩,by simp⟩:(List.find? (fun e:(Int×Int)×Nat=>decide (e.1=s)) (B.map fun t=>(t,d))).isSome)
   rw [he]
   obtain ⟨t,_,rfl⟩:=List.mem_map.1 (List.mem_of_find?_eq_some he)
   rfl
  ·rw [if_neg hs];rw [List.find?_eq_none.2 (fun e he=>by
    obtain ⟨t,ht,rfl⟩:=List.mem_map.1 he
    simp only [decide_eq_true_eq]
    rintro rfl
    exact hs ht)]
   rfl
theorem Dj {A:List ((Int×Int)×Nat)} {s:Int×Int}:lkN A s=none↔s∉A.map (·.1):=by
 unfold lkN;rw [Option.map_eq_none_iff,List.find?_eq_none];constructor
 ·intro h hs
  obtain ⟨e,he,rfl⟩:=List.mem_map.1 hs
  exact h e he (by simp)
 ·intro h e he;simp only [decide_eq_true_eq]
  rintro rfl
  exact h (List.mem_map.2 ⟨e,he,rfl⟩)
theorem j01 {a:Aut} {s:Int×Int} (h:s∈Oi a a):inP a s:=by
 obtain ⟨i,hi,hs⟩:=List.mem_flatMap.1 h
 obtain ⟨j,hj,rfl⟩:=List.mem_map.1 hs
 exact ⟨Rp.1 hi,Rp.1 hj⟩
theorem Jn (a:Aut):(Oi a a).Nodup:=by
 have hr:∀n,(Ri n).Nodup:=fun n=>(Fc n).imp (fun h e=>by omega)
 unfold Oi List.Nodup;rw [List.pairwise_flatMap];refine ⟨fun i _=>List.pairwise_map.2 ((hr _).imp fun h e=>h (Prod.mk.inj e).2),(hr _).imp fun {i j} hij x hx y hy e=> ?_⟩
 obtain ⟨u,_,rfl⟩:=List.mem_map.1 hx
 obtain ⟨v,_,rfl⟩:=List.mem_map.1 hy
 exact hij (Prod.mk.inj e).1
theorem F4 {a:Aut} (ha:Dfa a) {d:Nat} {near:List ((Int×Int)×Nat)} (h:NInv a d near) {s:Int×Int}:s∈Ry a near d↔inP a s∧I3 a s d:=by
 unfold Ry;rw [List.mem_filter];simp only [Bool.and_eq_true,decide_eq_true_eq]
 have z1:∀s,inP a s→(lkN near s=none↔∀k,k<d→¬Cm a s k):=fun s hs=>by
  constructor
  ·intro hn k hk hd
   obtain ⟨j,h1,h2⟩:=Bx k hd
   have:=(h.lk s hs j).2 ⟨by omega,h2⟩
   rw [hn] at this;cases this
  ·intro hk
   cases hl:lkN near s with
   |none=>rfl
   |some k=>
    obtain ⟨h1,h2⟩:=(h.lk s hs k).1 hl
    exact absurd h2.1 (hk k h1)
 constructor
 ·rintro ⟨h1,h2,h3⟩
  have hs:=j01 h1
  have hk:=(z1 s hs).1 h2
  refine ⟨hs,?_,hk⟩
  cases d with
  |zero=>exact Ff.2 h3
  |succ d=>
   simp only [Gr,List.any_eq_true,decide_eq_true_eq] at h3
   obtain ⟨e,he,hl⟩:=h3
   obtain ⟨e1,e2⟩:=(Pu ha ha rfl hs.1 hs.2).1 e he
   rw [e2] at hl;exact P0.2 ⟨e.1,e1,((h.lk _ (Av ha hs e1) d).1 hl).2.1⟩
 ·rintro ⟨hs,h2⟩
  refine ⟨Pl hs.1 hs.2,(z1 s hs).2 h2.2,?_⟩
  cases d with
  |zero=>exact Ff.1 h2.1
  |succ d=>
   obtain ⟨y,hy,hm⟩:=Ax h2
   obtain ⟨e,he,e1,_⟩:=(Pu ha ha rfl hs.1 hs.2).2 y hy
   simp only [Gr,List.any_eq_true,decide_eq_true_eq];exact ⟨e,he,by rw [e1];exact (h.lk _ (Av ha hs hy) d).2 ⟨by omega,hm⟩⟩
theorem NInv.step {a:Aut} (ha:Dfa a) {d:Nat} {near:List ((Int×Int)×Nat)} (h:NInv a d near):NInv a (d+1) (near++(Ry a near d).map fun s=>(s,d)):=by
 refine ⟨fun s hs k=> ?_,?_,fun e he=> ?_⟩
 ·rw [x1p]
  cases hl:lkN near s with
  |some j=>
   obtain ⟨h1,h2⟩:=(h.lk s hs j).1 hl
   simp only [Option.some.injEq];constructor
   ·rintro rfl;exact ⟨by omega,h2⟩
   ·rintro ⟨_,h3⟩;exact Hw h2 h3
  |none=>
   simp only
   have z1:∀k,k<d→¬I3 a s k:=fun k hk hm=>by
    have:=(h.lk s hs k).2 ⟨hk,hm⟩
    rw [hl] at this;cases this
   by_cases hf:s∈Ry a near d
   ·rw [if_pos hf]
    have hm:=((F4 ha h).1 hf).2
    simp only [Option.some.injEq];constructor
    ·rintro rfl;exact ⟨by omega,hm⟩
    ·rintro ⟨_,h3⟩;exact Hw hm h3
   ·rw [if_neg hf];constructor
    ·intro hc;cases hc
    ·rintro ⟨h1,h3⟩
     by_cases hkd:k<d
     ·exact absurd h3 (z1 k hkd)
     ·have:k=d:=by omega
      subst this;exact absurd ((F4 ha h).2 ⟨hs,h3⟩) hf
 ·rw [List.map_append,List.map_map,List.nodup_append];refine ⟨h.keys,?_,fun x hx y hy e=> ?_⟩
  ·have:(Ry a near d).map ((·.1)∘fun s=>(s,d))=Ry a near d:=by
    exact (List.map_congr_left (g:=id) (fun _ _=>rfl)).trans (List.map_id _)
   rw [this];exact (Jn a).filter _
  ·subst e
   obtain ⟨t,ht,rfl⟩:=List.mem_map.1 hy
   have:=(List.mem_filter.1 ht).2
   simp only [Bool.and_eq_true,decide_eq_true_eq] at this;exact Dj.1 this.1 hx
 ·rcases List.mem_append.1 he with he|he
  ·exact h.dom e he
  ·obtain ⟨t,ht,rfl⟩:=List.mem_map.1 he
   exact (List.mem_filter.1 ht).1
theorem Mu {a:Aut} (ha:Dfa a):∀(k d:Nat) (s:Int×Int),inP a s→I3 a s (d+k)→∃t,inP a t∧I3 a t d
 |0,_,s,hs,h=>⟨s,hs,h⟩
 |k+1,d,s,hs,h=>by
  obtain ⟨y,hy,hm⟩:=Ax (d:=d+k) h
  exact Mu ha k d _ (Av ha hs hy) hm
theorem v0v {a:Aut} (ha:Dfa a):∀(f d:Nat) (near:List ((Int×Int)×Nat)),a.fin.length * a.fin.length+1≤near.length+f→NInv a d near→∀s,inP a s→∀k,lkN (Hf a f d near) s=some k↔I3 a s k
 |0,d,near,hf,h=>by
  exfalso
  have:=Yv _ (Oi a a) h.keys (fun s hs=>by
   obtain ⟨e,he,rfl⟩:=List.mem_map.1 hs
   exact h.dom e he)
  rw [U9,List.length_map] at this;omega
 |f+1,d,near,hf,h=>by
  rw [Hf]
  by_cases he:Ry a near d=[]
  ·rw [if_pos he];intro s hs k;rw [h.lk s hs k];refine ⟨fun hk=>hk.2,fun hm=>⟨?_,hm⟩⟩
   by_cases hkd:k<d
   ·exact hkd
   ·exfalso
    obtain ⟨t,ht,z1⟩:=Mu ha (k - d) d s hs (by rw [show d+(k - d)=k by omega];exact hm)
    have:=(F4 ha h).2 ⟨ht,z1⟩
    rw [he] at this;cases this
  ·rw [if_neg he]
   have hl:=List.length_pos_iff.2 he
   exact v0v ha f (d+1) _ (by simp;omega) (h.step ha)
theorem y03 {a:Aut} (ha:Dfa a):∀s,inP a s→∀k,lkN (R9 a) s=some k↔I3 a s k:=by
 have h0:NInv a 0 []:=⟨fun s _ k=>by simp [lkN],by simp,by simp⟩
 have h1:=h0.step ha
 rw [List.nil_append] at h1;exact v0v ha _ 1 _ (by omega) h1
def Zg (x y:Sy):Bool:=decide (x.ty<y.ty) || (decide (x.ty=y.ty) && decide (x.num<y.num))
def u08 (es:List (Sy×(Int×Int))):Option (Sy×(Int×Int)):=es.foldl (fun b e=>match b with|none=>some e|some c=>if Zg e.1 c.1 then some e else some c) none
theorem z13 (x y:Sy):Zg x y=true↔sLt x y:=by simp [Zg,sLt]
theorem Fg:∀(es:List (Sy×(Int×Int))) (c:Sy×(Int×Int)),∃e,es.foldl (fun b e=>match b with|none=>some e|some c=>if Zg e.1 c.1 then some e else some c) (some c)=some e∧(e=c∨e∈es)∧(e.1=c.1∨sLt e.1 c.1)∧∀f∈es,e.1=f.1∨sLt e.1 f.1
 |[],c=>⟨c,rfl,.inl rfl,.inl rfl,by simp⟩
 |f::es,c=>by
  rw [List.foldl_cons];simp only
  cases hb:Zg f.1 c.1 with
  |true=>
   rw [if_pos rfl]
   have z6:=(z13 _ _).1 hb
   obtain ⟨e,h1,h2,h3,h4⟩:=Fg es f
   refine ⟨e,h1,.inr ?_,.inr ?_,fun g hg=> ?_⟩
   ·rcases h2 with rfl|h2
    ·simp
    ·simp [h2]
   ·rcases h3 with h3|h3
    ·rw [h3];exact z6
    ·exact h3.trans z6
   ·rcases List.mem_cons.1 hg with rfl|hg
    ·exact h3
    ·exact h4 g hg
  |false=>
   rw [if_neg (by simp)]
   obtain ⟨e,h1,h2,h3,h4⟩:=Fg es c
   refine ⟨e,h1,h2.imp id (fun h=>List.mem_cons_of_mem _ h),h3,fun g hg=> ?_⟩
   rcases List.mem_cons.1 hg with rfl|hg
   ·have hn:¬sLt g.1 c.1:=fun h=>by rw [(z13 _ _).2 h] at hb;cases hb
    have z1:c.1=g.1∨sLt c.1 g.1:=by
     rcases sLt.tri g.1 c.1 with h|h|h
     ·exact absurd h hn
     ·exact .inl h.symm
     ·exact .inr h
    rcases h3 with h3|h3
    ·rw [h3];exact z1
    ·rcases z1 with z1|z1
     ·rw [←z1];exact .inr h3
     ·exact .inr (h3.trans z1)
   ·exact h4 g hg
theorem Cl {es:List (Sy×(Int×Int))} (h:es≠[]):∃e,u08 es=some e∧e∈es∧∀f∈es,e.1=f.1∨sLt e.1 f.1:=by
 cases es with
 |nil=>exact absurd rfl h
 |cons c es=>
  obtain ⟨e,h1,h2,h3,h4⟩:=Fg es c
  refine ⟨e,h1,by rcases h2 with rfl|h2<;>simp [*],fun f hf=> ?_⟩
  rcases List.mem_cons.1 hf with rfl|hf
  ·exact h3
  ·exact h4 f hf
def Yy (a:Aut) (near:List ((Int×Int)×Nat)):Nat→Int×Int→List Sy
 |0,_=>[]
 |d+1,s=>match u08 ((Wi a a s).filter fun e=>decide (lkN near e.2=some d)) with
  |some e=>e.1::Yy a near d e.2
  |none=>⟨0,0⟩::Yy a near d (0,0)
theorem u1d {x y:Sy} {v w:List Sy} (h:x=y∨sLt x y) (hl:v.length=w.length) (hv:x=y→lle v w):lle (x::v) (y::w):=by
 rcases h with rfl|h
 ·rcases hv rfl with rfl|hv
  ·exact .inl rfl
  ·rcases hv with hv|⟨h1,h2⟩
   ·omega
   ·exact .inr (.inr ⟨by simp [h1],.inr ⟨rfl,h2⟩⟩)
 ·exact .inr (.inr ⟨by simp [hl],.inl h⟩)
theorem Xc {a:Aut} (ha:Dfa a) {near:List ((Int×Int)×Nat)} (hn:∀s,inP a s→∀k,lkN near s=some k↔I3 a s k):∀(d:Nat) (s:Int×Int),inP a s→I3 a s d→(Yy a near d s).length=d∧z1x a a s.1 s.2 (Yy a near d s)
 |0,s,hs,h=>⟨rfl,by simp [Yy],Ff.1 h.1,fun v hv hg=>by
   cases v with
   |nil=>exact .inl rfl
   |cons x v=>exact .inr (.inl (by simp [Yy]))⟩
 |d+1,s,hs,h=>by
  obtain ⟨y,hy,hm⟩:=Ax h
  obtain ⟨e0,z8,za,_⟩:=(Pu ha ha rfl hs.1 hs.2).2 y hy
  have zb:(Wi a a s).filter (fun e=>decide (lkN near e.2=some d))≠[]:=List.ne_nil_of_mem (List.mem_filter.2 ⟨z8,by
   rw [za];simpa using (hn _ (Av ha hs hy) d).2 hm⟩)
  obtain ⟨e,h1,h2,h3⟩:=Cl zb
  obtain ⟨zc,zd⟩:=List.mem_filter.1 h2
  obtain ⟨e1,e2⟩:=(Pu ha ha rfl hs.1 hs.2).1 e zc
  have z1:inP a e.2:=by rw [e2];exact Av ha hs e1
  have ze:I3 a e.2 d:=(hn _ z1 d).1 (by simpa using zd)
  obtain ⟨i1,i2⟩:=Xc ha hn d e.2 z1 ze
  rw [Yy,h1];simp only;refine ⟨by simp [i1],fun x hx=> ?_,?_,fun v hv hg=> ?_⟩
  ·rcases List.mem_cons.1 hx with rfl|hx
   ·exact e1
   ·exact i2.okw x hx
  ·have:=i2.goodw
   show R7 a a (Yh (T1 a a) (T1 a a s e.1) (Yy a near d e.2))=true
   rw [←e2];exact this
  ·by_cases hlen:v.length=d+1
   ·cases v with
    |nil=>cases hlen
    |cons z v=>
     have hz:=hv z (by simp)
     have z6:v.length=d:=by simpa using hlen
     have z7:R7 a a (Yh (T1 a a) (T1 a a s z) v)=true:=hg
     have zf:I3 a (T1 a a s z) d:=by
      refine ⟨⟨v,z6,fun x hx=>hv x (by simp [hx]),z7⟩,fun k hk hd=> ?_⟩
      exact h.2 (k+1) (by omega) (P0.2 ⟨z,hz,hd⟩)
     obtain ⟨f,hf,f1,f2⟩:=(Pu ha ha rfl hs.1 hs.2).2 z hz
     have zg:f∈(Wi a a s).filter (fun e=>decide (lkN near e.2=some d)):=List.mem_filter.2 ⟨hf,by
      rw [f1];simpa using (hn _ (Av ha hs hz) d).2 zf⟩
     have hle:e.1=z∨sLt e.1 z:=by
      rcases h3 f zg with h4|h4
      ·rcases f2 with f2|f2
       ·exact .inl (h4.trans f2)
       ·rw [h4];exact .inr f2
      ·rcases f2 with f2|f2
       ·rw [←f2];exact .inr h4
       ·exact .inr (h4.trans f2)
     refine u1d hle (by rw [i1,z6]) fun zh=> ?_
     refine i2.least v (fun x hx=>hv x (by simp [hx])) ?_
     show R7 a a (Yh (T1 a a) e.2 v)=true
     rw [e2,zh];exact z7
   ·have zi:d+1≤v.length:=by
     by_cases hlt:v.length<d+1
     ·exact absurd ⟨v,rfl,hv,hg⟩ (h.2 _ hlt)
     ·omega
    exact .inr (.inl (by simp [i1];omega))
theorem y09 {a:Aut} (ha:Dfa a) {p q:Int} (hp:inS a p) (hq:inS a q):(T0 a a p q).1=(lkN (R9 a) (p,q)).map fun d=>Yy a (R9 a) d (p,q):=by
 have hn:=y03 ha
 have z1:inP a (p,q):=⟨hp,hq⟩
 rcases P8 ha ha rfl hp hq with ⟨w,h1,h2⟩|⟨h1,h2⟩
 ·obtain ⟨d,_,hm⟩:=Bx (a:=a) (s:=(p,q)) w.length ⟨w,rfl,h2.okw,h2.goodw⟩
  rw [h1,(hn _ z1 d).2 hm,Option.map_some,h2.unique (Xc ha hn d _ z1 hm).2]
 ·rw [h1]
  cases hl:lkN (R9 a) (p,q) with
  |none=>rfl
  |some d=>
   exfalso
   obtain ⟨w,_,hw,hg⟩:=((hn _ z1 d).1 hl).1
   exact (Io a a p q w).1 hg (h2 w hw)
end Go.Abs
namespace Go.Abs
open Go Go.Proofs
theorem c1s {T:Nat} {p:Prd} (h:PWf T p) {s:List Iv} (hs:s∈p):∀x∈s,An x:=N9 (h.2 s hs).1 (h.2 s hs).2
attribute [local irreducible] F8 Eb
theorem Fv:∀(p:Prd) (i:Nat),(∃s∈p,s≠[])→∃t x r,p[t]? =some (x::r)∧Qu p i=(i+t,x.lo)∧∀j,j<t→p[j]? =some []
 |[],i,h=>by obtain ⟨s,hs,_⟩:=h;cases hs
 |[]::p,i,h=>by
  obtain ⟨t,x,r,h1,h2,h3⟩:=Fv p (i+1) (by obtain ⟨s,hs,hn⟩:=h;rcases List.mem_cons.1 hs with rfl|hs;exact absurd rfl hn;exact ⟨s,hs,hn⟩)
  refine ⟨t+1,x,r,by simpa using h1,by rw [Qu,h2];congr 1;omega,fun j hj=> ?_⟩
  cases j with
  |zero=>rfl
  |succ j=>simpa using h3 j (by omega)
 |(x::r)::p,i,_=>⟨0,x,r,rfl,by simp [Qu],fun j hj=>by omega⟩
theorem d05 (T:Int) (x:Sy):PC Tryz.prog 150 [.i T,encSy x] (fun r=>r= .i (Pn T x)):=by
 refine Qm tOk Tryz.func150 rfl Tryz.results150 rfl (by simp [Tryz.ntmps150]) ?_
 rw [Tryz.ntmps150];simp only [Qf];simp only [encSy]
 repeat first|((first|refine ra ?_|refine rb ?_|refine rh ?_);simp)|refine qf ?_|refine qg ?_
 refine Qb rfl (fun h=> ?_) (fun h=> ?_)
 ·repeat first|((first|refine ra ?_|refine rb ?_|refine rh ?_);simp)|refine qf ?_|refine qg ?_
  rw [Pn,if_pos (by simpa using h)]
 have h1:¬(x.ty<0∨T≤x.ty):=by simpa using h
 repeat first|((first|refine ra ?_|refine rb ?_|refine rh ?_);simp)|refine qf ?_|refine qg ?_
 refine Qb rfl (fun h=> ?_) (fun h=> ?_)
 ·repeat first|((first|refine ra ?_|refine rb ?_|refine rh ?_);simp)|refine qf ?_|refine qg ?_
  rw [Pn,if_neg h1,if_pos (by simpa using h)]
 have h2:¬(x.num< -1099511627776∨1099511627776<x.num):=by simpa using h
 repeat first|((first|refine ra ?_|refine rb ?_|refine rh ?_);simp)|refine qf ?_|refine qg ?_
 rw [Pn,if_neg h1,if_neg h2]
end Go.Abs
namespace Go.Abs
open Go Go.Proofs
attribute [local irreducible] F8 Eb upL Ep
end Go.Abs
namespace Go.Abs
open Go Go.Proofs
attribute [local irreducible] I6
set_option maxHeartbeats 1000000 in
theorem q1n (p:Prd) (x:Sy) (hl:∀s∈p,s.length≤1000000000):PC Tryz.prog 127 [encP p,encSy x] (fun r=>r= .bool (Tz p x)):=by
 refine Qm tOk Tryz.func127 rfl Tryz.results127 rfl (by simp [Tryz.ntmps127]) ?_
 rw [Tryz.ntmps127];simp only [Qf];simp only [encP,encSy]
 repeat first|((first|refine ra ?_|refine rb ?_|refine rh ?_);simp)|refine qf ?_|refine qg ?_
 by_cases h0:0≤x.ty
 ·by_cases h1:x.ty<p.length
  ·have h2:x.ty.toNat<p.length:=by omega
   refine Qo tOk mixed [] (.val 0 (.val 1 (.val 2 (.val 3 (.val 4 (.val 5 (.val 6 (.val 7 (.val 8 (.val 9 (.val 10 (.val 11 (.val 12 (.val 13 (.val 14 (.val 15 (.val 16 (.val 17 (.val 18 (.val 19 (.one 20 (.val 21 (.val 22 (.done)))))))))))))))))))))))) rfl (by kernel_rfl) ?_
   simp [h0,h1,h2]
   refine Qe rfl rfl (by simp) (v1p p[x.ty.toNat] x.num (hl _ (List.getElem_mem h2))) rfl ?_
   rintro _ rfl
   simp
   repeat first|((first|refine ra ?_|refine rb ?_|refine rh ?_);simp [h0,h1,h2])|refine qf ?_|refine qg ?_
   simp [Tz,h0,h1,List.getD,h2]
  ·refine Qo tOk mixed [] (.val 0 (.val 1 (.val 2 (.val 3 (.val 4 (.val 5 (.val 6 (.val 7 (.val 8 (.val 9 (.val 10 (.val 11 (.val 12 (.val 13 (.val 14 (.val 15 (.val 16 (.val 17 (.val 18 (.val 19 (.one 20 (.val 21 (.val 22 (.done)))))))))))))))))))))))) rfl (by kernel_rfl) ?_
   simp [h0,h1]
   refine Wd rfl rfl ?_
   simp [h0,h1]
   repeat first|((first|refine ra ?_|refine rb ?_|refine rh ?_);simp [h0,h1])|refine qf ?_|refine qg ?_
   simp [Tz,h0,h1]
 ·refine Qo tOk mixed [] (.val 0 (.val 1 (.val 2 (.val 3 (.val 4 (.val 5 (.val 6 (.val 7 (.val 8 (.val 9 (.val 10 (.val 11 (.val 12 (.val 13 (.val 14 (.val 15 (.val 16 (.val 17 (.val 18 (.val 19 (.one 20 (.val 21 (.val 22 (.done)))))))))))))))))))))))) rfl (by kernel_rfl) ?_
  simp [h0]
  refine Wd rfl rfl ?_
  simp [h0]
  repeat first|((first|refine ra ?_|refine rb ?_|refine rh ?_);simp [h0])|refine qf ?_|refine qg ?_
  simp [Tz,h0]
def y0q (a:Aut) (i k:Nat):Bool:=decide ((a.mv.getD i default).src=(a.mv.getD k default).src) && y0p (a.mv.getD i default).on (a.mv.getD k default).on
theorem j0a {a:Aut} {i k:Nat} (hi:i<a.mv.length) (hk:k<i) (h:y0q a i k=true):q09 a=false:=by
 unfold q09;rw [List.all_eq_false];refine ⟨i,List.mem_range.2 hi,?_⟩;rw [Bool.not_eq_true,List.all_eq_false];exact ⟨k,List.mem_range.2 hk,by unfold y0q at h;rw [h];simp⟩
theorem w1k {a:Aut} (h:∀i,i<a.mv.length→∀k,k<i→y0q a i k=false):q09 a=true:=by
 unfold q09;rw [List.all_eq_true];intro i hi;rw [List.all_eq_true];intro k hk
 have:=h i (List.mem_range.1 hi) k (List.mem_range.1 hk)
 unfold y0q at this;rw [this];rfl
theorem q14 {a:Aut} {i k:Nat} (hi:i<a.mv.length) (hk:k<a.mv.length):y0q a i k=(decide (a.mv[i].src=a.mv[k].src) && y0p a.mv[i].on a.mv[k].on):=by simp [y0q,List.getD,hi,hk]
theorem Xx {a:Aut} (h:OkA a) {m:Mv} (hm:m∈a.mv):∀s∈m.on,s.length≤256:=fun s hs=>((h.mv m hm).on.2 s hs).len
attribute [local irreducible] y0q y0p W3 Wp
def q16 (a:Aut):Bool×Int:=if Wk a=0 then (q09 a,0) else (false,Wk a)
end Go.Abs
namespace Go.Abs
open Go Go.Proofs
def ovl (x y:Iv):Bool:=decide (x.lo≤y.hi) && decide (y.lo≤x.hi)
def noC (p q:Prd) (i:Nat):Prop:=∀x∈p.getD i [],∀y∈q.getD i [],ovl x y=false
theorem u01 {T:Nat} {p q:Prd} (hp:PWf T p) (hq:PWf T q) (h:∀i,i<p.length→noC p q i):y0p p q=false:=by
 rw [Bool.eq_false_iff,Ne,Kr hp hq]
 rintro ⟨t,n,⟨s,hs,x,hx,h1,h2⟩,⟨s',z1,y,hy,h3,h4⟩⟩
 have ht:=(List.getElem?_eq_some_iff.1 hs).1
 have:=h t ht x (by rw [List.getD,hs];exact hx) y (by rw [List.getD,z1];exact hy)
 simp only [ovl,Bool.and_eq_false_iff,decide_eq_false_iff_not] at this;omega
theorem q1u {T:Nat} {p q:Prd} (hp:PWf T p) (hq:PWf T q) {i:Nat} (hi:i<p.length) (z1:i<q.length) {x y:Iv} (hx:x∈p[i]) (hy:y∈q[i]) (h:ovl x y=true):y0p p q=true:=by
 rw [Kr hp hq];simp only [ovl,Bool.and_eq_true,decide_eq_true_eq] at h
 have h1:=(hp.2 _ (List.getElem_mem hi)).1.1 x hx
 have h2:=(hq.2 _ (List.getElem_mem z1)).1.1 y hy
 by_cases hl:x.lo≤y.lo
 ·exact ⟨i,y.lo,⟨p[i],List.getElem?_eq_getElem hi,x,hx,hl,h.2⟩,⟨q[i],List.getElem?_eq_getElem z1,y,hy,Int.le_refl _,h2⟩⟩
 ·exact ⟨i,x.lo,⟨p[i],List.getElem?_eq_getElem hi,x,hx,Int.le_refl _,h1⟩,⟨q[i],List.getElem?_eq_getElem z1,y,hy,by omega,h.1⟩⟩
attribute [local irreducible] y0p
set_option maxHeartbeats 4000000 in
theorem j02 (T:Nat) (p q:Prd) (hp:PWf T p) (hq:PWf T q) (zj:∀s∈p,s.length≤1000000000) (zk:∀s∈q,s.length≤1000000000) (hT:T≤1000):PC Tryz.prog 114 [encP p,encP q] (fun r=>r= .bool (y0p p q)):=by
 refine Qm tOk Tryz.func114 rfl Tryz.results114 rfl (by simp [Tryz.ntmps114]) ?_
 rw [Tryz.ntmps114];simp only [Qf];simp only [encP]
 have hlen:=hp.1
 have zg:=hq.1
 repeat first|((first|refine ra ?_|refine rb ?_|refine rh ?_);simp)|refine qf ?_|refine qg ?_
 refine Qy p.length (fun i=>∀i',i'<i→noC p q i') (fun i=>[(3,.vptr 1 0),(12,.list (p.map encL)),(13,.i p.length),(14,.i i)]) (fun _=>[.vars [.list (p.map encL)],.vars [.list (q.map encL)]]) rfl (by simp) (by simp) (by simp) (by simp) (by simp) ?_
 intro i hi hI ih
 repeat first|((first|refine ra ?_|refine rb ?_|refine rh ?_);simp)|refine qf ?_|refine qg ?_
 refine Qb rfl (fun zl=> ?_) (fun zm=> ?_)
 ·have z1:i<p.length:=by simpa using zl
  have z6:i<q.length:=by omega
  have hw:IntKind.i64.wrap ((i:Int)+1)=i+1:=wrap_i64 _ (by omega) (by omega)
  have zx:=zj _ (List.getElem_mem z1)
  have zy:=zk _ (List.getElem_mem z6)
  repeat first|((first|refine ra ?_|refine rb ?_|refine rh ?_);simp [z1])|refine qf ?_|refine qg ?_
  refine Qy p[i].length (fun u=>∀u',u'<u→∀h:u'<p[i].length,∀y∈q[i],ovl p[i][u'] y=false) (fun u=>[(3,.vptr 1 0),(5,.i i),(12,.list (p.map encL)),(13,.i p.length),(14,.i i),(19,LIv p[i]),(20,.i p[i].length),(21,.i u)]) (fun _=>[.vars [.list (p.map encL)],.vars [.list (q.map encL)]]) rfl (by simp) (by simp) (by simp) (by simp) (by simp) ?_
  intro u hu zh zn
  repeat first|((first|refine ra ?_|refine rb ?_|refine rh ?_);simp)|refine qf ?_|refine qg ?_
  refine Qb rfl (fun z7=> ?_) (fun z8=> ?_)
  ·have za:u<p[i].length:=by simpa using z7
   have zo:IntKind.i64.wrap ((u:Int)+1)=u+1:=wrap_i64 _ (by omega) (by omega)
   repeat first|((first|refine ra ?_|refine rb ?_|refine rh ?_);simp [za,z6])|refine qf ?_|refine qg ?_
   refine Qy q[i].length (fun v=>∀v',v'<v→∀h:v'<q[i].length,ovl p[i][u] q[i][v']=false) (fun v=>[(3,.vptr 1 0),(5,.i i),(8,.vptr 2 0),(12,.list (p.map encL)),(13,.i p.length),(14,.i i),(19,LIv p[i]),(20,.i p[i].length),(21,.i u),(29,LIv q[i]),(30,.i q[i].length),(31,.i v)]) (fun _=>[.vars [.list (p.map encL)],.vars [.list (q.map encL)],.vars [.i p[i][u].lo,.i p[i][u].hi]]) rfl (by simp) (by simp) (by simp) (by simp) (by simp) ?_
   intro v hv zi zp
   repeat first|((first|refine ra ?_|refine rb ?_|refine rh ?_);simp)|refine qf ?_|refine qg ?_
   refine Qb rfl (fun zb=> ?_) (fun zc=> ?_)
   ·have zd:v<q[i].length:=by simpa using zb
    have zq:IntKind.i64.wrap ((v:Int)+1)=v+1:=wrap_i64 _ (by omega) (by omega)
    repeat first|((first|refine ra ?_|refine rb ?_|refine rh ?_);simp [zd])|refine qf ?_|refine qg ?_
    refine Qb rfl (fun h=> ?_) (fun h=> ?_)
    ·repeat first|((first|refine ra ?_|refine rb ?_|refine rh ?_);simp)|refine qf ?_|refine qg ?_
     rw [q1u hp hq z1 z6 (List.getElem_mem za) (List.getElem_mem zd) (by simpa [ovl] using h)]
    ·repeat first|((first|refine ra ?_|refine rb ?_|refine rh ?_);simp [zq])|refine qf ?_|refine qg ?_
     refine Qx _ (zp zd (fun v' ze zr=> ?_)) rfl (by simp) ?_ (by simp) (by simp)
     ·by_cases e:v'=v
      ·subst e;simpa [ovl] using h
      ·exact zi v' (by omega) zr
     ·simp
   ·have zt:v=q[i].length:=by simp at zc;omega
    subst zt
    repeat first|((first|refine ra ?_|refine rb ?_|refine rh ?_);simp [zo])|refine qf ?_|refine qg ?_
    refine Qx _ (zn za (fun u' zf zu y hy=> ?_)) rfl (by simp) ?_ (by simp) (by simp)
    ·by_cases e:u'=u
     ·subst e
      obtain ⟨v',ze,rfl⟩:=List.getElem_of_mem hy
      exact zi v' ze ze
     ·exact zh u' (by omega) zu y hy
    ·simp
  ·have zv:u=p[i].length:=by simp at z8;omega
   subst zv
   repeat first|((first|refine ra ?_|refine rb ?_|refine rh ?_);simp [hw])|refine qf ?_|refine qg ?_
   refine Qx _ (ih z1 (fun i' zz=> ?_)) rfl (by simp) ?_ (by simp) (by simp)
   ·by_cases e:i'=i
    ·subst e;intro x hx y hy;rw [Ws z1] at hx;rw [Ws z6] at hy
     obtain ⟨u',zf,rfl⟩:=List.getElem_of_mem hx
     exact zh u' zf zf y hy
    ·exact hI i' (by omega)
   ·simp
 ·have zw:i=p.length:=by simp at zm;omega
  subst zw
  repeat first|((first|refine ra ?_|refine rb ?_|refine rh ?_);simp)|refine qf ?_|refine qg ?_
  rw [u01 hp hq hI]
attribute [local irreducible] y0q
set_option maxHeartbeats 4000000 in
theorem f1y (a:Aut):PC Tryz.prog 49 [encA a] (fun r=>r= .tup [.bool (q16 a).1,.i (q16 a).2]):=by
 refine Qm tOk Tryz.func49 rfl Tryz.results49 rfl (by simp [Tryz.ntmps49]) ?_
 rw [Tryz.ntmps49];simp only [Qf];simp only [encA]
 repeat first|((first|refine ra ?_|refine rb ?_|refine rh ?_);simp)|refine qf ?_|refine qg ?_
 refine Qe rfl rfl (by simp) (Yw a) rfl ?_
 rintro _ rfl
 simp
 repeat first|((first|refine ra ?_|refine rb ?_|refine rh ?_);simp)|refine qf ?_|refine qg ?_
 refine Qb rfl (fun h=> ?_) (fun h=> ?_)
 ·repeat first|((first|refine ra ?_|refine rb ?_|refine rh ?_);simp)|refine qf ?_|refine qg ?_
  rw [q16,if_neg (by simpa using h)];exact ⟨rfl,rfl⟩
 have h0:Wk a=0:=by simpa using h
 have z8:=(Ui a).1 h0
 have zt:=z8.mvs
 rw [q16,if_pos h0]
 repeat first|((first|refine ra ?_|refine rb ?_|refine rh ?_);simp)|refine qf ?_|refine qg ?_
 refine Qy a.mv.length (fun j=>∀i,i<j→∀k,k<i→y0q a i k=false) (fun j=>[(1,.vptr 0 0),(15,.list (a.mv.map encMv)),(16,.i a.mv.length),(17,.i j)]) (fun _=>[.vars (Q4 a)]) rfl (by simp) (by simp) (by simp) (by simp) (by simp) ?_
 intro j hj hI ih
 repeat first|((first|refine ra ?_|refine rb ?_|refine rh ?_);simp)|refine qf ?_|refine qg ?_
 refine Qb rfl (fun zq=> ?_) (fun zr=> ?_)
 ·have z1:j<a.mv.length:=by simpa using zq
  have hw:IntKind.i64.wrap ((j:Int)+1)=j+1:=wrap_i64 _ (by omega) (by omega)
  have ze:j≤a.mv.length:=hj
  have z7:min j a.mv.length=j:=by omega
  repeat first|((first|refine ra ?_|refine rb ?_|refine rh ?_);simp [z1,ze,z7])|refine qf ?_|refine qg ?_
  refine Qy j (fun k=>∀k',k'<k→y0q a j k'=false) (fun k=>[(1,.vptr 0 0),(6,.vptr 1 0),(15,.list (a.mv.map encMv)),(16,.i a.mv.length),(17,.i j),(25,.list (List.take j (a.mv.map encMv))),(26,.i j),(27,.i k)]) (fun _=>[.vars (Q4 a),.vars [.i a.mv[j].src,.i a.mv[j].dst,.list (a.mv[j].on.map encL)]]) rfl (by simp) (by simp) (by simp) (by simp) (by simp) ?_
  intro k hk zj zk
  repeat first|((first|refine ra ?_|refine rb ?_|refine rh ?_);simp)|refine qf ?_|refine qg ?_
  refine Qb rfl (fun zf=> ?_) (fun zg=> ?_)
  ·have za:k<j:=by simpa using zf
   have zb:k<a.mv.length:=by omega
   have zl:IntKind.i64.wrap ((k:Int)+1)=k+1:=wrap_i64 _ (by omega) (by omega)
   have z6:=q14 (a:=a) z1 zb
   have zm:y0q a j k=false→∀k',k'<k+1→y0q a j k'=false:=fun hb k' zh=>by
    by_cases e:k'=k
    ·rw [e];exact hb
    ·exact zj k' (by omega)
   have zn:(List.take j (a.mv.map encMv))[k]? =some (encMv a.mv[k]):=by rw [List.getElem?_take_of_lt za];simp [zb]
   by_cases he:a.mv[j].src=a.mv[k].src
   ·rw [decide_eq_true he,Bool.true_and] at z6
    have zc:(a.mv[j].src==a.mv[k].src)=true:=by simpa using he
    repeat first|((first|refine ra ?_|refine rb ?_|refine rh ?_);simp [zn,za,zb,z7,zc])|refine qf ?_|refine qg ?_
    have zo:=List.getElem_mem z1
    have zp:=List.getElem_mem zb
    refine Qe rfl rfl (by simp) (j02 a.types.toNat a.mv[j].on a.mv[k].on (z8.mv _ zo).on.wf (z8.mv _ zp).on.wf (fun s hs=>by have:=Xx z8 zo s hs;omega) (fun s hs=>by have:=Xx z8 zp s hs;omega) (by have:=z8.types;omega)) rfl ?_
    rintro _ rfl
    simp
    repeat first|((first|refine ra ?_|refine rb ?_|refine rh ?_);simp)|refine qf ?_|refine qg ?_
    refine Qb rfl (fun h3=> ?_) (fun h3=> ?_)
    ·repeat first|((first|refine ra ?_|refine rb ?_|refine rh ?_);simp)|refine qf ?_|refine qg ?_
     rw [j0a z1 za (by rw [z6];simpa using h3)]
    ·repeat first|((first|refine ra ?_|refine rb ?_|refine rh ?_);simp [zl])|refine qf ?_|refine qg ?_
     refine Qx _ (zk za (zm (by rw [z6];simpa using h3))) rfl (by simp) ?_ (by simp) (by simp)
     simp
   ·rw [decide_eq_false he,Bool.false_and] at z6
    have zc:(a.mv[j].src==a.mv[k].src)=false:=beq_eq_false_iff_ne.2 he
    repeat first|((first|refine ra ?_|refine rb ?_|refine rh ?_);simp [zn,za,zb,z7,zc])|refine qf ?_|refine qg ?_
    refine Wd rfl rfl ?_
    simp [zc]
    repeat first|((first|refine ra ?_|refine rb ?_|refine rh ?_);simp [zc])|refine qf ?_|refine qg ?_
    refine Qj rfl ?_
    repeat first|((first|refine ra ?_|refine rb ?_|refine rh ?_);simp [zl])|refine qf ?_|refine qg ?_
    refine Qx _ (zk za (zm z6)) rfl (by simp) ?_ (by simp) (by simp)
    simp
  ·have zd:k=j:=by simp at zg;omega
   subst zd
   repeat first|((first|refine ra ?_|refine rb ?_|refine rh ?_);simp [hw])|refine qf ?_|refine qg ?_
   refine Qx _ (ih z1 (fun i hi k' zh=> ?_)) rfl (by simp) ?_ (by simp) (by simp)
   ·by_cases e:i=k
    ·subst e;exact zj k' zh
    ·exact hI i (by omega) k' zh
   ·simp
 ·have zi:j=a.mv.length:=by simp at zr;omega
  subst zi
  repeat first|((first|refine ra ?_|refine rb ?_|refine rh ?_);simp)|refine qf ?_|refine qg ?_
  rw [w1k hI]
end Go.Abs
namespace Go.Abs
open Go Go.Proofs
abbrev LI (l:List Int):AV:= .list (l.map (AV.int .i64))
def K0 {α:Type} (f:α→Bool) (l:List α):Int:=match l.findIdx? f with|some i=>i|none=> -1
theorem J2 {α:Type} {f:α→Bool} {l:List α} {j:Nat} (hj:j<l.length) (h:f l[j]=true) (hb:∀i,∀hi:i<l.length,i<j→f l[i]=false):K0 f l=j:=by
 unfold K0;rw [List.findIdx?_eq_some_iff_getElem.2 ⟨hj,h,fun i hi=>by rw [hb i (by omega) hi];simp⟩]
theorem Dt {α:Type} {f:α→Bool} {l:List α} (hb:∀i,∀hi:i<l.length,i<l.length→f l[i]=false):K0 f l= -1:=by
 unfold K0;rw [List.findIdx?_eq_none_iff.2 (fun x hx=>by obtain ⟨i,hi,rfl⟩:=List.getElem_of_mem hx;exact hb i hi hi)]
theorem u04 {α:Type} (f:α→Bool) (l:List α):decide (0≤K0 f l)=l.any f:=by
 unfold K0
 cases h:l.findIdx? f with
 |none=>
  rw [List.findIdx?_eq_none_iff] at h
  have:l.any f=false:=by rw [List.any_eq_false];intro x hx;rw [h x hx];simp
  rw [this];rfl
 |some i=>
  obtain ⟨h1,h2,_⟩:=List.findIdx?_eq_some_iff_getElem.1 h
  have:l.any f=true:=List.any_eq_true.2 ⟨_,List.getElem_mem h1,h2⟩
  rw [this];simp
set_option maxHeartbeats 1000000 in
theorem Nh (l:List Int) (v:Int):PC Tryz.prog 137 [LI l,.i v] (fun r=>r= .i (K0 (fun y=>v==y) l)):=by
 refine Qm tOk Tryz.func137 rfl Tryz.results137 rfl (by simp [Tryz.ntmps137]) ?_
 rw [Tryz.ntmps137];simp only [Qf];refine Y7 0 rfl (fun hlen=> ?_)
 rw [List.length_map] at hlen
 repeat first|((first|refine ra ?_|refine rb ?_|refine rh ?_);simp)|refine qf ?_|refine qg ?_
 refine Qy l.length (fun j=>∀i,∀hi:i<l.length,i<j→(v==l[i])=false) (fun j=>[(0,LI l),(1,.i v),(7,.i l.length),(8,.i j)]) (fun _=>[]) rfl (by simp) (by simp) (by simp) (by simp) (by simp) ?_
 intro j hj hI ih
 repeat first|((first|refine ra ?_|refine rb ?_|refine rh ?_);simp)|refine qf ?_|refine qg ?_
 refine Qb rfl (fun z7=> ?_) (fun z8=> ?_)
 ·have z1:j<l.length:=by simpa using z7
  have hw:IntKind.i64.wrap ((j:Int)+1)=j+1:=wrap_i64 _ (by omega) (by omega)
  repeat first|((first|refine ra ?_|refine rb ?_|refine rh ?_);simp [z1])|refine qf ?_|refine qg ?_
  refine Qb rfl (fun h=> ?_) (fun h=> ?_)
  ·repeat first|((first|refine ra ?_|refine rb ?_|refine rh ?_);simp)|refine qf ?_|refine qg ?_
   rw [J2 (f:=fun y=>v==y) z1 h hI]
  ·repeat first|((first|refine ra ?_|refine rb ?_|refine rh ?_);simp [hw])|refine qf ?_|refine qg ?_
   refine Qx _ (ih z1 (fun i hi za=> ?_)) rfl (by simp) ?_ (by simp) (by simp)
   ·by_cases e:i=j
    ·subst e;exact h
    ·exact hI i hi (by omega)
   ·simp
 ·have z6:j=l.length:=by simp at z8;omega
  subst z6
  repeat first|((first|refine ra ?_|refine rb ?_|refine rh ?_);simp)|refine qf ?_|refine qg ?_
  rw [Dt (f:=fun y=>v==y) hI]
theorem Sw (l:List Int) (v:Int):PC Tryz.prog 174 [LI l,.i v] (fun r=>r= .bool (l.contains v)):=by
 refine Qm tOk Tryz.func174 rfl Tryz.results174 rfl (by simp [Tryz.ntmps174]) ?_
 rw [Tryz.ntmps174];simp only [Qf]
 repeat first|((first|refine ra ?_|refine rb ?_|refine rh ?_);simp)|refine qf ?_|refine qg ?_
 refine Qe rfl rfl (by simp) (Nh l v) rfl ?_
 rintro _ rfl
 simp
 repeat first|((first|refine ra ?_|refine rb ?_|refine rh ?_);simp)|refine qf ?_|refine qg ?_
 have:=u04 (fun y=>v==y) l
 rw [Bool.eq_iff_iff] at this
 simpa using this
structure SL (K G:List AObj) (p e sz:Nat) (xs:List AV):Prop where
 arr:G[p]? =some (.arr e sz xs)
 ge:K.length≤p
 keep:∀j,j<K.length→G[j]? =K[j]?
theorem SL.kp {K G:List AObj} {p e sz:Nat} {xs:List AV} (h:SL K G p e sz xs) {j:Nat} {x:AObj} (hx:K[j]? =some x):G[j]? =some x:=by
 rw [h.keep j (List.getElem?_eq_some_iff.1 hx).1];exact hx
theorem SL.start (K:List AObj) (e sz:Nat):SL K (K++[AObj.arr e sz []]) K.length e sz []:=
 ⟨by simp,Nat.le_refl _,fun j hj=>List.getElem?_append_left hj⟩
theorem SL.add {K G:List AObj} {p e sz:Nat} {xs:List AV} (h:SL K G p e sz xs) (L:List AObj):SL K (G++L) p e sz xs:=
 ⟨by rw [List.getElem?_append_left (List.getElem?_eq_some_iff.1 h.arr).1];exact h.arr,h.ge,fun j hj=>by
  rw [List.getElem?_append_left (by have:=(List.getElem?_eq_some_iff.1 h.arr).1;have:=h.ge;omega)];exact h.keep j hj⟩
theorem SL.put {K G:List AObj} {p e sz:Nat} {xs:List AV} (h:SL K G p e sz xs) (L:List AObj) (ys:List AV) {n:Nat} (hn:n=G.length+L.length):SL K (G.set p .dead++(L++[AObj.arr e sz ys])) n e sz ys:=by
 have hp:=(List.getElem?_eq_some_iff.1 h.arr).1
 have z1:=h.ge
 subst hn;refine ⟨by rw [List.getElem?_append_right (by simp),List.getElem?_append_right (by simp)];simp,by omega,fun j hj=> ?_⟩
 rw [List.getElem?_append_left (by simp;omega),List.getElem?_set_ne (by omega)]
 exact h.keep j hj
theorem SL.at {K G:List AObj} {p e sz:Nat} {xs:List AV} (h:SL K G p e sz xs) {j:Nat} {x:AObj} (hx:K[j]? =some x) (L:List AObj):(G.set p .dead++L)[j]? =some x:=by
 have hj:=(List.getElem?_eq_some_iff.1 hx).1
 have hp:=(List.getElem?_eq_some_iff.1 h.arr).1
 have z1:=h.ge
 rw [List.getElem?_append_left (by simp;omega),List.getElem?_set_ne (by omega),h.keep j hj];exact hx
theorem SL.at' {K G:List AObj} {p e sz:Nat} {xs:List AV} (h:SL K G p e sz xs) {j:Nat} {x:AObj} (hx:K[j]? =some x) (L:List AObj):(G++L)[j]? =some x:=(h.add L).kp hx
def d0r (l:List Int) (x:Sy) (m:Mv):Bool:=l.contains m.src && Tz m.on x
def Lz (l:List Int) (x:Sy) (ms:List Mv):List Int:=(ms.filter (d0r l x)).map (·.dst)
theorem f0o (l:List Int) (x:Sy) (ms:List Mv) (j:Nat) (h:j<ms.length):Lz l x (ms.take (j+1))=Lz l x (ms.take j)++(if d0r l x ms[j] then [ms[j].dst] else []):=by
 unfold Lz;rw [List.take_succ_eq_append_getElem h,List.filter_append,List.map_append]
 cases h:d0r l x ms[j]<;>simp [h]
theorem Ns (l:List Int) (x:Sy) (ms:List Mv):(Lz l x ms).length≤ms.length:=by
 unfold Lz;rw [List.length_map];exact List.length_filter_le _ _
theorem w1u (a:Aut) (l:List Int) (x:Sy):Lib.compact (Rh (Lz l x a.mv))=y17 a l x:=rfl
theorem c03 (l:List Int) (x:Sy):Lz l x []=[]:=rfl
attribute [local irreducible] Lz z0j Rh Lib.compact
set_option maxHeartbeats 2000000 in
theorem Sj (a:Aut) (ha:OkA a) (l:List Int) (x:Sy) (hx:Eg a x):PC Tryz.prog 122 [encA a,LI l,encSy x] (fun r=>r=LI (Q5 a l x)):=by
 refine Qm tOk Tryz.func122 rfl Tryz.results122 rfl (by simp [Tryz.ntmps122]) ?_
 rw [Tryz.ntmps122];simp only [Qf];simp only [encA,encSy]
 have zi:=ha.mvs
 have hF:∀m∈a.mv,z0j m.on x=(Tz m.on x,0):=fun m hm=>by
  rw [v1i ((Ec a.types m.on).2 ⟨ha.types,(ha.mv m hm).on⟩),if_neg (fun k=>k ((P7 _ _).2 hx))]
 repeat first|((first|refine ra ?_|refine rb ?_|refine rh ?_);simp)|refine qf ?_|refine qg ?_
 refine Wm 7 3 1 rfl ?_
 simp
 refine Qq (Qc (sl':=[(1,LI l),(3,.vptr 0 0),(5,.vptr 1 0),(7,.sl 2 1 0 (Lz l x (a.mv.take 0)).length),(11,.list (a.mv.map encMv)),(12,.i a.mv.length),(13,.i 0)]) ?_ (by simp [Lz]))
 obtain ⟨K,hK⟩:∃K,K=[AObj.vars (Q4 a),AObj.vars [AV.i x.ty,AV.i x.num]]:=⟨_,rfl⟩
 have z8:K[1]? =some (AObj.vars [AV.i x.ty,AV.i x.num]):=by rw [hK];rfl
 have za:=SL.start K 3 1
 refine Qp (F:=fun (u:Nat×Nat×List AObj)=>⟨[(1,LI l),(3,.vptr 0 0),(5,.vptr 1 0),(7,.sl u.2.1 1 0 (Lz l x (a.mv.take u.1)).length),(11,.list (a.mv.map encMv)),(12,.i a.mv.length),(13,.i u.1)],u.2.2⟩)
  (fun u=>u.1≤a.mv.length∧SL K u.2.2 u.2.1 3 1 ((Lz l x (a.mv.take u.1)).map (AV.int .i64))) (fun u=>a.mv.length - u.1) ?_ (0,2,_) ⟨by simp,by rw [List.take_zero,c03];rw [hK] at za ⊢;exact za⟩
 rintro ⟨j,q,H2⟩ ⟨hj,g⟩ ih
 simp only at hj g ih ⊢
 have g1:=g.kp z8
 repeat first|((first|refine ra ?_|refine rb ?_|refine rh ?_);simp)|refine qf ?_|refine qg ?_
 refine Qb rfl (fun zc=> ?_) (fun zd=> ?_)
 ·have z1:j<a.mv.length:=by simpa using zc
  have hw:IntKind.i64.wrap ((j:Int)+1)=j+1:=wrap_i64 _ (by omega) (by omega)
  have ze:=f0o l x a.mv j z1
  have zb:=Ns l x (a.mv.take j)
  rw [List.length_take] at zb
  have zf:=hF _ (List.getElem_mem z1)
  have z6:=fun q' H'=>ih (j+1,q',H')
  simp only [ze] at z6;generalize Lz l x (a.mv.take j)=acc at *
  have gL:=fun L=>g.at' z8 L
  repeat first|((first|refine ra ?_|refine rb ?_|refine rh ?_);simp [z1])|refine qf ?_|refine qg ?_
  by_cases hb:a.mv[j].src∈l
  ·have zg:l.contains a.mv[j].src=true:=by simpa using hb
   refine Qe rfl rfl (by simp) (Sw l a.mv[j].src) rfl ?_
   rintro _ rfl
   simp [hb,gL]
   repeat first|((first|refine ra ?_|refine rb ?_|refine rh ?_);simp [gL])|refine qf ?_|refine qg ?_
   refine Qe rfl rfl (by simp) (x1f a.mv[j].on x) rfl ?_
   rintro _ rfl
   simp [zf]
   repeat first|((first|refine ra ?_|refine rb ?_|refine rh ?_);simp)|refine qf ?_|refine qg ?_
   cases hb2:Tz a.mv[j].on x with
   |false=>
    have hh:d0r l x a.mv[j]=false:=by rw [d0r,hb2];simp
    refine Qj rfl ?_
    simp [hb2]
    repeat first|((first|refine ra ?_|refine rb ?_|refine rh ?_);simp [hw])|refine qf ?_|refine qg ?_
    refine Qc (sl':=[(1,LI l),(3,.vptr 0 0),(5,.vptr 1 0),(7,.sl q 1 0 acc.length),(11,.list (a.mv.map encMv)),(12,.i a.mv.length),(13,.i (j+1:Nat))]) ?_ (by simp)
    have:=z6 q _ ⟨by omega,by rw [hh];simpa using g.add [AObj.vars [AV.i a.mv[j].src,AV.i a.mv[j].dst,AV.list (a.mv[j].on.map encL)]]⟩ (by omega)
    rw [hh] at this
    simpa using this
   |true=>
    have hh:d0r l x a.mv[j]=true:=by rw [d0r,zg,hb2];rfl
    refine Qj rfl ?_
    simp [hb2]
    repeat first|((first|refine ra ?_|refine rb ?_|refine rh ?_);simp)|refine qf ?_|refine qg ?_
    refine Qh tOk rfl rfl T40 rfl T3 rfl (by decide) (by decide) rfl rfl rfl ?_
    simp [Qa g.arr,Qk g.arr]
    refine ⟨by simp [W2,Qa g.arr,Qk g.arr]<;>omega,?_⟩
    repeat first|((first|refine ra ?_|refine rb ?_|refine rh ?_);simp [hw])|refine qf ?_|refine qg ?_
    refine Qc (sl':=[(1,LI l),(3,.vptr 0 0),(5,.vptr 1 0),(7,.sl (H2.length+2) 1 0 (acc.length+1)),(11,.list (a.mv.map encMv)),(12,.i a.mv.length),(13,.i (j+1:Nat))]) ?_ (by simp)
    have:=z6 (H2.length+2) _ ⟨by omega,by rw [hh];exact g.put [AObj.vars [AV.i a.mv[j].src,AV.i a.mv[j].dst,AV.list (a.mv[j].on.map encL)],AObj.arr 3 1 [AV.i a.mv[j].dst]] _ rfl⟩ (by omega)
    rw [hh] at this
    simpa using this
  ·have hh:d0r l x a.mv[j]=false:=by simp [d0r,hb]
   refine Qe rfl rfl (by simp) (Sw l a.mv[j].src) rfl ?_
   rintro _ rfl
   simp [hb,gL]
   refine Wd rfl rfl ?_
   simp [hb]
   refine Qj rfl ?_
   repeat first|((first|refine ra ?_|refine rb ?_|refine rh ?_);simp [hw])|refine qf ?_|refine qg ?_
   refine Qc (sl':=[(1,LI l),(3,.vptr 0 0),(5,.vptr 1 0),(7,.sl q 1 0 acc.length),(11,.list (a.mv.map encMv)),(12,.i a.mv.length),(13,.i (j+1:Nat))]) ?_ (by simp)
   have:=z6 q _ ⟨by omega,by rw [hh];simpa using g.add [AObj.vars [AV.i a.mv[j].src,AV.i a.mv[j].dst,AV.list (a.mv[j].on.map encL)]]⟩ (by omega)
   rw [hh] at this
   simpa using this
 ·have z7:j=a.mv.length:=by simp at zd;omega
  subst z7;rw [List.take_length] at g ⊢
  have zb:=Ns l x a.mv
  repeat first|((first|refine ra ?_|refine rb ?_|refine rh ?_);simp)|refine qf ?_|refine qg ?_
  refine Qz rfl rfl (H4 H2 q (Lz l x a.mv) g.arr (by omega)) rfl ?_
  rintro r H' ⟨rfl,rfl⟩
  simp
  repeat first|((first|refine ra ?_|refine rb ?_|refine rh ?_);simp)|refine qf ?_|refine qg ?_
  have g2:=Qi g.arr (.arr 3 1 ((Rh (Lz l x a.mv)).map (AV.int .i64)))
  have zh:=Ab (Lz l x a.mv)
  rw [←zh];refine Qz rfl rfl (O8 _ q (Rh (Lz l x a.mv)) g2 (by omega) (Oq _)) rfl ?_
  rintro r H' ⟨rfl,G,rfl⟩
  simp
  have g3:=Qi g.arr (.arr 3 1 ((Lib.compact (Rh (Lz l x a.mv))++G).map (AV.int .i64)))
  rw [w1u,x1d (fun m hm=>(ha.mv m hm).dst)] at *
  repeat first|((first|refine ra ?_|refine rb ?_|refine rh ?_);simp)|refine qf ?_|refine qg ?_
  rw [List.map_append] at g3
  simp [g3]
end Go.Abs
namespace Go.Abs
open Go Go.Proofs
set_option maxHeartbeats 1000000 in
theorem v0u (H:List AObj) (l:List Int) (g:Nat) (cap:AV) (f:Int→Bool) (hl:l.length≤1000000000) (hg:∀z∈l,FC Tryz.prog g [.i z,cap] H (fun r H'=>r= .bool (f z)∧H'=H)):
  FC Tryz.prog 119 [LI l,.fn (.func g) [] [cap]] H (fun r H'=>r= .i (K0 f l)∧H'=H):=by
 refine Wt tOk Tryz.func119 rfl Tryz.results119 rfl (by simp [Tryz.ntmps119]) ?_
 rw [Tryz.ntmps119];simp only [Qf]
 repeat first|((first|refine ra ?_|refine rb ?_|refine rh ?_);simp)|refine qf ?_|refine qg ?_
 refine Qq (Qc (sl':=[(0,LI l),(1,.fn (.func g) [] [cap]),(7,.i l.length),(8,.i 0)]) ?_ (by simp))
 refine Qp (F:=fun (j:Nat)=>⟨[(0,LI l),(1,.fn (.func g) [] [cap]),(7,.i l.length),(8,.i j)],H⟩)
  (fun j=>j≤l.length∧∀i,∀hi:i<l.length,i<j→f l[i]=false) (fun j=>l.length - j) ?_ 0 ⟨by simp,by simp⟩
 rintro j ⟨hj,hI⟩ ih
 repeat first|((first|refine ra ?_|refine rb ?_|refine rh ?_);simp)|refine qf ?_|refine qg ?_
 refine Qb rfl (fun z7=> ?_) (fun z8=> ?_)
 ·have z1:j<l.length:=by simpa using z7
  have hw:IntKind.i64.wrap ((j:Int)+1)=j+1:=wrap_i64 _ (by omega) (by omega)
  repeat first|((first|refine ra ?_|refine rb ?_|refine rh ?_);simp [z1])|refine qf ?_|refine qg ?_
  refine Qz rfl rfl (hg _ (List.getElem_mem z1)) rfl ?_
  rintro r H' ⟨rfl,rfl⟩
  simp
  repeat first|((first|refine ra ?_|refine rb ?_|refine rh ?_);simp)|refine qf ?_|refine qg ?_
  refine Qb rfl (fun h=> ?_) (fun h=> ?_)
  ·repeat first|((first|refine ra ?_|refine rb ?_|refine rh ?_);simp)|refine qf ?_|refine qg ?_
   rw [J2 z1 h hI]
  ·repeat first|((first|refine ra ?_|refine rb ?_|refine rh ?_);simp [hw])|refine qf ?_|refine qg ?_
   refine Qc (sl':=[(0,LI l),(1,.fn (.func g) [] [cap]),(7,.i l.length),(8,.i (j+1:Nat))]) (ih (j+1) ⟨by omega,fun i hi za=> ?_⟩ (by omega)) (by simp)
   by_cases e:i=j
   ·subst e;exact h
   ·exact hI i hi (by omega)
 ·have z6:j=l.length:=by simp at z8;omega
  subst z6
  repeat first|((first|refine ra ?_|refine rb ?_|refine rh ?_);simp)|refine qf ?_|refine qg ?_
  rw [Dt hI]
theorem Sl (H:List AObj) (l:List Int) (g:Nat) (cap:AV) (f:Int→Bool) (hl:l.length≤1000000000) (hg:∀z∈l,FC Tryz.prog g [.i z,cap] H (fun r H'=>r= .bool (f z)∧H'=H)):
  FC Tryz.prog 54 [LI l,.fn (.func g) [] [cap]] H (fun r H'=>r= .bool (l.any f)∧H'=H):=by
 refine Wt tOk Tryz.func54 rfl Tryz.results54 rfl (by simp [Tryz.ntmps54]) ?_
 rw [Tryz.ntmps54];simp only [Qf]
 repeat first|((first|refine ra ?_|refine rb ?_|refine rh ?_);simp)|refine qf ?_|refine qg ?_
 refine Qz rfl rfl (v0u H l g cap f hl hg) rfl ?_
 rintro r H' ⟨rfl,rfl⟩
 simp
 repeat first|((first|refine ra ?_|refine rb ?_|refine rh ?_);simp)|refine qf ?_|refine qg ?_
 rw [←u04]
def k1j (a:Aut) (s:Int):Bool:=decide (s<0) || decide ((a.fin.length:Int)≤s)
theorem y19 (H:List AObj) (id:Nat) (a:Aut) (hid:H[id]? =some (.vars (Q4 a))) (n:Int):FC Tryz.prog 152 [.i n,.vptr id 0] H (fun r H'=>r= .bool (k1j a n)∧H'=H):=by
 refine Wt tOk Tryz.func152 rfl Tryz.results152 rfl (by simp [Tryz.ntmps152]) ?_
 rw [Tryz.ntmps152];simp only [Qf]
 repeat first|((first|refine ra ?_|refine rb ?_|refine rh ?_);simp [hid,k1j])|refine qf ?_|refine qg ?_
attribute [local irreducible] k1j
set_option maxHeartbeats 2000000 in
theorem x0o (a:Aut) (l:List Int) (x:Sy):PC Tryz.prog 93 [encA a,LI l,encSy x] (fun r=>r= .tup [LI (Ak a l x).2,.i (Ak a l x).1]):=by
 refine Qm tOk Tryz.func93 rfl Tryz.results93 rfl (by simp [Tryz.ntmps93]) ?_
 rw [Tryz.ntmps93];simp only [Qf];simp only [encA,encSy]
 repeat first|((first|refine ra ?_|refine rb ?_|refine rh ?_);simp)|refine qf ?_|refine qg ?_
 refine Qe rfl rfl (by simp) (Yw a) rfl ?_
 rintro _ rfl
 simp
 repeat first|((first|refine ra ?_|refine rb ?_|refine rh ?_);simp)|refine qf ?_|refine qg ?_
 refine Qb rfl (fun h=> ?_) (fun h=> ?_)
 ·repeat first|((first|refine ra ?_|refine rb ?_|refine rh ?_);simp)|refine qf ?_|refine qg ?_
  rw [Ak,if_pos (by simpa using h)];exact ⟨rfl,rfl⟩
 have h0:¬Wk a≠0:=by simpa using h
 have z1:=(Ui a).1 (by simpa using h)
 repeat first|((first|refine ra ?_|refine rb ?_|refine rh ?_);simp)|refine qf ?_|refine qg ?_
 refine Qb rfl (fun h=> ?_) (fun h=> ?_)
 ·repeat first|((first|refine ra ?_|refine rb ?_|refine rh ?_);simp)|refine qf ?_|refine qg ?_
  rw [Ak,if_neg h0,if_pos (by simp at h;omega)];exact ⟨rfl,rfl⟩
 have h1:¬256<l.length:=by simp at h;omega
 repeat first|((first|refine ra ?_|refine rb ?_|refine rh ?_);simp)|refine qf ?_|refine qg ?_
 refine Qz rfl rfl (Sl _ l 152 (.vptr 0 0) (k1j a) (by omega) (fun z _=>y19 _ 0 a rfl z)) rfl ?_
 rintro r H' ⟨rfl,rfl⟩
 simp
 repeat first|((first|refine ra ?_|refine rb ?_|refine rh ?_);simp)|refine qf ?_|refine qg ?_
 refine Qb rfl (fun h=> ?_) (fun h=> ?_)
 ·repeat first|((first|refine ra ?_|refine rb ?_|refine rh ?_);simp)|refine qf ?_|refine qg ?_
  rw [Ak,if_neg h0,if_neg h1,if_pos (by unfold k1j at h;exact h)];exact ⟨rfl,rfl⟩
 have h2:¬(l.any (fun s=>decide (s<0) || decide ((a.fin.length:Int)≤s))=true):=by unfold k1j at h;rw [h];simp
 repeat first|((first|refine ra ?_|refine rb ?_|refine rh ?_);simp)|refine qf ?_|refine qg ?_
 refine Qb rfl (fun h=> ?_) (fun h=> ?_)
 ·repeat first|((first|refine ra ?_|refine rb ?_|refine rh ?_);simp)|refine qf ?_|refine qg ?_
  have hE:Pn a.types x=6:=by rw [Pn,if_pos (by simpa using h)]
  rw [Ak,if_neg h0,if_neg h1,if_neg h2,hE];exact ⟨rfl,rfl⟩
 have h3:¬(x.ty<0∨a.types≤x.ty):=by simpa using h
 repeat first|((first|refine ra ?_|refine rb ?_|refine rh ?_);simp)|refine qf ?_|refine qg ?_
 refine Qb rfl (fun h=> ?_) (fun h=> ?_)
 ·repeat first|((first|refine ra ?_|refine rb ?_|refine rh ?_);simp)|refine qf ?_|refine qg ?_
  have hE:Pn a.types x=2:=by rw [Pn,if_neg h3,if_pos (by simpa using h)]
  rw [Ak,if_neg h0,if_neg h1,if_neg h2,hE];exact ⟨rfl,rfl⟩
 have h4:¬(x.num< -1099511627776∨1099511627776<x.num):=by simpa using h
 have hE:Pn a.types x=0:=by rw [Pn,if_neg h3,if_neg h4]
 repeat first|((first|refine ra ?_|refine rb ?_|refine rh ?_);simp)|refine qf ?_|refine qg ?_
 refine Qe rfl rfl (by simp) (Sj a z1 l x ((P7 _ _).1 hE)) rfl ?_
 rintro _ rfl
 simp
 repeat first|((first|refine ra ?_|refine rb ?_|refine rh ?_);simp)|refine qf ?_|refine qg ?_
 rw [Ak,if_neg h0,if_neg h1,if_neg h2,if_neg (fun k=>k hE)];exact ⟨rfl,rfl⟩
end Go.Abs
namespace Go.Abs
open Go Go.Proofs
attribute [simp] T4
def Yg (n:Nat) (f:Int→Bool):List AV:=(Ri n).map fun z=>AV.bool (f z)
theorem Rj (n:Nat) (f:Int→Bool):(Yg n f).length=n:=by simp [Yg,Ri]
theorem Kc (n:Nat) (f:Int→Bool) {i:Nat} (h:i<n):(Yg n f)[i]? =some (AV.bool (f i)):=by simp [Yg,Ri,h]
theorem Dg (n:Nat) (f:Int→Bool) {i:Nat} (h:i<(Yg n f).length):(Yg n f)[i]=AV.bool (f i):=by
 have h2:=Kc n f (i:=i) (by rw [Rj] at h;exact h)
 rw [List.getElem?_eq_getElem h] at h2;exact Option.some.inj h2
theorem Bi (n:Nat):List.replicate n (AV.bool false)=Yg n (fun _=>false):=by
 refine List.ext_getElem? fun i=> ?_
 by_cases h:i<n
 ·rw [Kc n _ h];simp [h]
 ·rw [List.getElem?_eq_none (by simp;omega),List.getElem?_eq_none (by rw [Rj];omega)]
theorem x0e (n:Nat) (f:Int→Bool) (s:Int) (h0:0≤s) (h1:s<n):(Yg n f).set s.toNat (AV.bool true)=Yg n (fun z=>f z || z==s):=by
 refine List.ext_getElem? fun i=> ?_
 by_cases h:i<n
 ·rw [Kc n _ h]
  by_cases e:s.toNat=i
  ·rw [e,List.getElem?_set_self (by rw [Rj];exact h)]
   have:((i:Int)==s)=true:=by simp;omega
   rw [this,Bool.or_true]
  ·rw [List.getElem?_set_ne e,Kc n _ h]
   have:((i:Int)==s)=false:=beq_eq_false_iff_ne.2 (by omega)
   rw [this,Bool.or_false]
 ·rw [List.getElem?_eq_none (by simp [Rj];omega),List.getElem?_eq_none (by rw [Rj];omega)]
theorem Ps (n:Nat) {f g:Int→Bool} (h:∀z,f z=g z):Yg n f=Yg n g:=by rw [show f=g from funext h]
attribute [local irreducible] Yg
def d0n (n:Nat) (f:Int→Bool):List Int:=(Ri n).filter f
attribute [local irreducible] d0n
end Go.Abs
namespace Go.Abs
open Go Go.Proofs
def nxB (ms:List Mv) (f:Int→Bool) (x:Sy) (z:Int):Bool:=ms.any fun m=>f m.src && Tz m.on x && m.dst==z
theorem Nt (ms:List Mv) (f:Int→Bool) (x:Sy) (j:Nat) (h:j<ms.length) (z:Int):nxB (ms.take (j+1)) f x z=(nxB (ms.take j) f x z || (f ms[j].src && Tz ms[j].on x && ms[j].dst==z)):=by
 unfold nxB;rw [List.take_succ_eq_append_getElem h,List.any_append];simp
theorem w1e (a:Aut) (l:List Int) (x:Sy):nxB a.mv (fun z=>decide (z∈l)) x=d03 a l x:=by
 funext z
 unfold nxB d03
 congr 1
 funext m
 rw [Bool.eq_iff_iff];simp
attribute [local irreducible] Tz nxB
set_option maxHeartbeats 2000000 in
theorem q0c (a:Aut) (ha:OkA a) (f:Int→Bool) (x:Sy):PC Tryz.prog 65 [encA a,.list (Yg a.fin.length f),encSy x] (fun r=>r= .list (Yg a.fin.length (nxB a.mv f x))):=by
 refine Qm tOk Tryz.func65 rfl Tryz.results65 rfl (by simp [Tryz.ntmps65]) ?_
 rw [Tryz.ntmps65];simp only [Qf];simp only [encA,encSy]
 have hf:=ha.fin
 have hm:=ha.mvs
 have zb:=Rj a.fin.length f
 repeat first|((first|refine ra ?_|refine rb ?_|refine rh ?_);simp [zb])|refine qf ?_|refine qg ?_
 refine Wx tOk rfl rfl rfl T22 rfl T4 rfl rfl rfl (n:=a.fin.length) (by simp;omega) (by unfold maxLen;omega) (.bool false) rfl ?_
 simp
 rw [Bi]
 repeat first|((first|refine ra ?_|refine rb ?_|refine rh ?_);simp)|refine qf ?_|refine qg ?_
 have h0:Yg a.fin.length (fun _=>false)=Yg a.fin.length (nxB (a.mv.take 0) f x):=Ps _ fun z=>by rw [List.take_zero];unfold nxB;rfl
 rw [h0];refine Qq (Qc (sl':=[(1,.list (Yg a.fin.length f)),(3,.vptr 0 0),(5,.vptr 1 0),(7,.sl 2 1 0 a.fin.length),(8,.i 0)]) ?_ (by simp))
 refine Qp (F:=fun (u:Nat×List AObj)=>⟨[(1,.list (Yg a.fin.length f)),(3,.vptr 0 0),(5,.vptr 1 0),(7,.sl 2 1 0 a.fin.length),(8,.i u.1)],u.2⟩)
  (fun u=>u.1≤a.mv.length∧u.2[0]? =some (.vars (Q4 a))∧u.2[1]? =some (.vars [.i x.ty,.i x.num])∧u.2[2]? =some (.arr 4 1 (Yg a.fin.length (nxB (a.mv.take u.1) f x)))) (fun u=>a.mv.length - u.1) ?_ (0,_) ⟨by simp,rfl,rfl,rfl⟩
 rintro ⟨j,H2⟩ ⟨hj,g0,g1,g2⟩ ih
 simp only at hj g0 g1 g2 ih ⊢
 repeat first|((first|refine ra ?_|refine rb ?_|refine rh ?_);simp [g0])|refine qf ?_|refine qg ?_
 refine Qb rfl (fun zg=> ?_) (fun zh=> ?_)
 ·have z1:j<a.mv.length:=by simpa using zg
  have hw:IntKind.i64.wrap ((j:Int)+1)=j+1:=wrap_i64 _ (by omega) (by omega)
  have zf:=ha.mv _ (List.getElem_mem z1)
  obtain ⟨s0,s1⟩:=zf.src
  obtain ⟨d0,d1⟩:=zf.dst
  have s2:a.mv[j].src.toNat<a.fin.length:=by omega
  have d2:a.mv[j].dst.toNat<a.fin.length:=by omega
  have zc:=x0e a.fin.length (nxB (a.mv.take j) f x) a.mv[j].dst d0 d1
  have zd:((a.mv[j].src.toNat:Nat):Int)=a.mv[j].src:=by omega
  have z8:=fun (hh:a.mv[j].src.toNat<(Yg a.fin.length f).length)=>(Dg a.fin.length f (i:=a.mv[j].src.toNat) hh).trans (by rw [zd])
  have zi:=fun (hh:a.mv[j].dst.toNat<(Yg a.fin.length (nxB (a.mv.take j) f x)).length)=>Dg a.fin.length (nxB (a.mv.take j) f x) (i:=a.mv[j].dst.toNat) hh
  have zj:Yg a.fin.length (nxB (a.mv.take (j+1)) f x)=if f a.mv[j].src && Tz a.mv[j].on x then (Yg a.fin.length (nxB (a.mv.take j) f x)).set a.mv[j].dst.toNat (AV.bool true) else Yg a.fin.length (nxB (a.mv.take j) f x):=by
   split
   ·rename_i hc
    rw [zc];exact Ps _ fun z=>by
     rw [Nt _ _ _ _ z1,hc,Bool.true_and];rw [show (a.mv[j].dst==z)=(z==a.mv[j].dst) from Bool.eq_iff_iff.2 (by simp only [beq_iff_eq];exact eq_comm)]
   ·rename_i hc
    exact Ps _ fun z=>by
     rw [Nt _ _ _ _ z1,show (f a.mv[j].src && Tz a.mv[j].on x)=false by simpa using hc];simp
  have z6:=fun G'=>ih (j+1,G')
  simp only [zj] at z6
  have z7:=Rj a.fin.length (nxB (a.mv.take j) f x)
  generalize Yg a.fin.length (nxB (a.mv.take j) f x)=bs at *
  have gL1:=fun L=>Qa g1 L
  have gL2:=fun L=>Qa g2 L
  have gL0:=fun L=>Qa g0 L
  cases hb:f a.mv[j].src with
  |false=>
   rw [hb] at z8
   repeat first|((first|refine ra ?_|refine rb ?_|refine rh ?_);simp [g0,z1,s0,s1,s2,zb,z8,gL1])|refine qf ?_|refine qg ?_
   refine Wd rfl rfl ?_
   simp
   refine Qj rfl ?_
   repeat first|((first|refine ra ?_|refine rb ?_|refine rh ?_);simp [hw])|refine qf ?_|refine qg ?_
   rw [hb,Bool.false_and,if_neg (by simp)] at z6
   exact Qc (sl':=[(1,.list (Yg a.fin.length f)),(3,.vptr 0 0),(5,.vptr 1 0),(7,.sl 2 1 0 a.fin.length),(8,.i (j+1:Nat))]) (z6 _ ⟨by omega,gL0 _,gL1 _,gL2 _⟩ (by omega)) (by simp)
  |true=>
   rw [hb] at z8
   repeat first|((first|refine ra ?_|refine rb ?_|refine rh ?_);simp [g0,z1,s0,s1,s2,zb,z8,gL1])|refine qf ?_|refine qg ?_
   refine Qe rfl rfl (by simp) (q1n a.mv[j].on x (fun s hs=>by have:=Xx ha (List.getElem_mem z1) s hs;omega)) rfl ?_
   rintro _ rfl
   simp
   cases za:Tz a.mv[j].on x with
   |false=>
    rw [hb,za,Bool.true_and,if_neg (by simp)] at z6
    repeat first|((first|refine ra ?_|refine rb ?_|refine rh ?_);simp [za])|refine qf ?_|refine qg ?_
    refine Qj rfl ?_
    repeat first|((first|refine ra ?_|refine rb ?_|refine rh ?_);simp [hw])|refine qf ?_|refine qg ?_
    exact Qc (sl':=[(1,.list (Yg a.fin.length f)),(3,.vptr 0 0),(5,.vptr 1 0),(7,.sl 2 1 0 a.fin.length),(8,.i (j+1:Nat))]) (z6 _ ⟨by omega,gL0 _,gL1 _,gL2 _⟩ (by omega)) (by simp)
   |true=>
    rw [hb,za,Bool.true_and,if_pos rfl] at z6
    repeat first|((first|refine ra ?_|refine rb ?_|refine rh ?_);simp [za])|refine qf ?_|refine qg ?_
    refine Qj rfl ?_
    repeat first|((first|refine ra ?_|refine rb ?_|refine rh ?_);simp [gL1,gL2,d0,d1,d2,z7,zi,hw])|refine qf ?_|refine qg ?_
    exact Qc (sl':=[(1,.list (Yg a.fin.length f)),(3,.vptr 0 0),(5,.vptr 1 0),(7,.sl 2 1 0 a.fin.length),(8,.i (j+1:Nat))]) (z6 _ ⟨by omega,Qd (by decide) (gL0 _) _,Qd (by decide) (gL1 _) _,Qi (gL2 _) _⟩ (by omega)) (by simp)
 ·have ze:j=a.mv.length:=by simp at zh;omega
  subst ze;rw [List.take_length] at g2
  have z7:=Rj a.fin.length (nxB a.mv f x)
  repeat first|((first|refine ra ?_|refine rb ?_|refine rh ?_);simp [g2,z7])|refine qf ?_|refine qg ?_
  rw [List.take_of_length_le (by omega)]
end Go.Abs
namespace Go.Abs
open Go Go.Proofs
attribute [local irreducible] nxB d0n Pn
attribute [local irreducible] El
end Go.Abs
namespace Go.Abs
open Go Go.Proofs
theorem u0t {α:Type} {a b:List α} (h:a.length=b.length) (hi:∀i,∀h1:i<a.length,∀h2:i<b.length,a[i]=b[i]):a=b:=List.ext_getElem h hi
abbrev LLI (l:List (List Int)):AV:= .list (l.map fun x=>LI x)
end Go.Abs
namespace Go.Abs
open Go Go.Proofs
end Go.Abs
namespace Go.Abs
open Go Go.Proofs
def q2j (a:Aut) (s:Int) (j:Nat):Prd:=(Hl { a with mv:=a.mv.take j } s).foldl (fun r p=>W3 r (Rg p)) (W4 a.types.toNat)
attribute [local irreducible] q2j W3 Rg W4 Wp
end Go.Abs
namespace Go.Abs
open Go Go.Proofs
attribute [local irreducible] q0b Wp
end Go.Abs
namespace Go.Abs
open Go Go.Proofs
theorem z0d {p:Prd} {i:Nat} (h:i<p.length) (hv:¬(p[i].length≤12)):z1u p=false:=by
 rw [Bool.eq_false_iff,Ne,Bm];exact fun k=>hv (k.2 _ (List.getElem_mem h))
set_option maxHeartbeats 2000000 in
theorem q1c (p:Prd):PC Tryz.prog 46 [encP p] (fun r=>r= .bool (z1u p)):=by
 refine Qm tOk Tryz.func46 rfl Tryz.results46 rfl (by simp [Tryz.ntmps46]) ?_
 rw [Tryz.ntmps46];simp only [Qf];simp only [encP];refine Wy 0 0 rfl rfl (fun hlen=> ?_)
 rw [List.length_map] at hlen
 repeat first|((first|refine ra ?_|refine rb ?_|refine rh ?_);simp)|refine qf ?_|refine qg ?_
 refine Qy p.length (fun j=>j≤5∧∀i,∀hi:i<p.length,i<j→p[i].length≤12) (fun j=>[(1,.vptr 0 0),(3,.i j)]) (fun _=>[.vars [.list (p.map encL)]]) rfl (by simp) (by simp) (by simp) (by simp) (by simp) ?_
 rintro j hj ⟨za,hI⟩ ih
 repeat first|((first|refine ra ?_|refine rb ?_|refine rh ?_);simp)|refine qf ?_|refine qg ?_
 refine Qb rfl (fun z6=> ?_) (fun z7=> ?_)
 ·have z1:j<p.length:=by simp at z6;omega
  have zb:j<5:=by simp at z6;omega
  have hw:IntKind.i64.wrap ((j:Int)+1)=j+1:=wrap_i64 _ (by omega) (by omega)
  repeat first|((first|refine ra ?_|refine rb ?_|refine rh ?_);simp [z1])|refine qf ?_|refine qg ?_
  refine Qe rfl rfl (by simp) (f1o p[j]) rfl ?_
  rintro _ rfl
  simp
  repeat first|((first|refine ra ?_|refine rb ?_|refine rh ?_);simp)|refine qf ?_|refine qg ?_
  refine Qb rfl (fun he=> ?_) (fun he=> ?_)
  ·repeat first|((first|refine ra ?_|refine rb ?_|refine rh ?_);simp)|refine qf ?_|refine qg ?_
   rw [z0d z1 (by simp at he;omega)]
  ·repeat first|((first|refine ra ?_|refine rb ?_|refine rh ?_);simp [hw])|refine qf ?_|refine qg ?_
   refine Qx [] (ih z1 ⟨by omega,fun i hi zc=> ?_⟩) rfl (by simp) ?_ (by simp) (by simp)
   ·by_cases e:i=j
    ·subst e;simp at he;omega
    ·exact hI i hi (by omega)
   ·simp
 ·have z8:p.length≤j∨5≤j:=by simp at z7;omega
  repeat first|((first|refine ra ?_|refine rb ?_|refine rh ?_);simp)|refine qf ?_|refine qg ?_
  rw [Bool.eq_iff_iff,Bm,decide_eq_true_eq];constructor
  ·intro h4;refine ⟨by omega,fun s hs=> ?_⟩
   obtain ⟨i,hi,rfl⟩:=List.getElem_of_mem hs
   exact hI i hi (by omega)
  ·intro h4;omega
end Go.Abs
namespace Go.Abs
open Go Go.Proofs
theorem X5 {a:Aut}:z1i a=true↔a.fin.length≤8∧a.mv.length≤16∧∀m∈a.mv,z1u m.on=true:=by
 simp only [z1i,Bool.and_eq_true,decide_eq_true_eq,List.all_eq_true,and_assoc]
attribute [local irreducible] z1u
set_option maxHeartbeats 2000000 in
theorem x16 (a:Aut):PC Tryz.prog 13 [encA a] (fun r=>r= .bool (z1i a)):=by
 refine Qm tOk Tryz.func13 rfl Tryz.results13 rfl (by simp [Tryz.ntmps13]) ?_
 rw [Tryz.ntmps13];simp only [Qf];simp only [encA];refine Wy 0 2 rfl rfl (fun hlen=> ?_)
 rw [List.length_map] at hlen
 repeat first|((first|refine ra ?_|refine rb ?_|refine rh ?_);simp)|refine qf ?_|refine qg ?_
 refine Qy a.mv.length (fun j=>j≤20∧∀i,∀hi:i<a.mv.length,i<j→z1u a.mv[i].on=true) (fun j=>[(1,.vptr 0 0),(3,.i j)]) (fun _=>[.vars (Q4 a)]) rfl (by simp) (by simp) (by simp) (by simp) (by simp) ?_
 rintro j hj ⟨za,hI⟩ ih
 repeat first|((first|refine ra ?_|refine rb ?_|refine rh ?_);simp)|refine qf ?_|refine qg ?_
 refine Qb rfl (fun z6=> ?_) (fun z7=> ?_)
 ·have z1:j<a.mv.length:=by simp at z6;omega
  have zb:j<20:=by simp at z6;omega
  have hw:IntKind.i64.wrap ((j:Int)+1)=j+1:=wrap_i64 _ (by omega) (by omega)
  repeat first|((first|refine ra ?_|refine rb ?_|refine rh ?_);simp [z1])|refine qf ?_|refine qg ?_
  refine Qe rfl rfl (by simp) (q1c a.mv[j].on) rfl ?_
  rintro _ rfl
  simp
  repeat first|((first|refine ra ?_|refine rb ?_|refine rh ?_);simp)|refine qf ?_|refine qg ?_
  refine Qb rfl (fun he=> ?_) (fun he=> ?_)
  ·repeat first|((first|refine ra ?_|refine rb ?_|refine rh ?_);simp)|refine qf ?_|refine qg ?_
   have:z1i a=false:=by
    rw [Bool.eq_false_iff,Ne,X5];intro k
    have:=k.2.2 _ (List.getElem_mem z1)
    rw [this] at he;cases he
   rw [this]
  ·repeat first|((first|refine ra ?_|refine rb ?_|refine rh ?_);simp [hw])|refine qf ?_|refine qg ?_
   refine Qx [] (ih z1 ⟨by omega,fun i hi zc=> ?_⟩) rfl (by simp) ?_ (by simp) (by simp)
   ·by_cases e:i=j
    ·subst e;simpa using he
    ·exact hI i hi (by omega)
   ·simp
 ·have z8:a.mv.length≤j∨20≤j:=by simp at z7;omega
  repeat first|((first|refine ra ?_|refine rb ?_|refine rh ?_);simp)|refine qf ?_|refine qg ?_
  rw [Bool.eq_iff_iff,X5]
  simp
  constructor
  ·rintro ⟨h4,h5⟩
   refine ⟨by omega,by omega,fun m hm=> ?_⟩
   obtain ⟨i,hi,rfl⟩:=List.getElem_of_mem hm
   exact hI i hi (by omega)
  ·rintro ⟨h4,h5,_⟩;omega
end Go.Abs
namespace Go.Abs
open Go Go.Proofs
set_option maxHeartbeats 2000000 in
theorem x09 (a b:Prd):PC Tryz.prog 72 [encP a,encP b] (fun r=>r= .bool (decide (a=b))):=by
 refine Qm tOk Tryz.func72 rfl Tryz.results72 rfl (by simp [Tryz.ntmps72]) ?_
 rw [Tryz.ntmps72];simp only [Qf];simp only [encP];refine Wy 0 0 rfl rfl (fun hlen=> ?_)
 rw [List.length_map] at hlen
 repeat first|((first|refine ra ?_|refine rb ?_|refine rh ?_);simp)|refine qf ?_|refine qg ?_
 refine Qb rfl (fun h=> ?_) (fun h=> ?_)
 ·repeat first|((first|refine ra ?_|refine rb ?_|refine rh ?_);simp)|refine qf ?_|refine qg ?_
  intro e;subst e;simp at h
 have hl:a.length=b.length:=by simp at h;omega
 repeat first|((first|refine ra ?_|refine rb ?_|refine rh ?_);simp)|refine qf ?_|refine qg ?_
 refine Qy a.length (fun j=>∀i,i<j→∀h1:i<a.length,∀h2:i<b.length,a[i]=b[i]) (fun j=>[(2,.vptr 0 0),(3,.vptr 1 0),(5,.i j)]) (fun _=>[.vars [.list (a.map encL)],.vars [.list (b.map encL)]]) rfl (by simp) (by simp) (by simp) (by simp) (by simp) ?_
 intro j hj hI ih
 repeat first|((first|refine ra ?_|refine rb ?_|refine rh ?_);simp)|refine qf ?_|refine qg ?_
 refine Qb rfl (fun z7=> ?_) (fun z8=> ?_)
 ·have z1:j<a.length:=by simpa using z7
  have za:j<b.length:=by omega
  have hw:IntKind.i64.wrap ((j:Int)+1)=j+1:=wrap_i64 _ (by omega) (by omega)
  repeat first|((first|refine ra ?_|refine rb ?_|refine rh ?_);simp)|refine qf ?_|refine qg ?_
  refine Qo tOk mixed [] (.val 0 (.val 1 (.val 2 (.val 3 (.val 4 (.val 5 (.val 6 (.val 7 (.val 8 (.val 9 (.one 10 (.val 11 (.done))))))))))))) rfl (by kernel_rfl) ?_
  simp [z1,za]
  refine Qe rfl rfl (by simp) (x17 a[j] b[j]) rfl ?_
  rintro _ rfl
  simp
  repeat first|((first|refine ra ?_|refine rb ?_|refine rh ?_);simp)|refine qf ?_|refine qg ?_
  refine Qb rfl (fun h3=> ?_) (fun h3=> ?_)
  ·repeat first|((first|refine ra ?_|refine rb ?_|refine rh ?_);simp)|refine qf ?_|refine qg ?_
   intro e;subst e;simp at h3
  ·repeat first|((first|refine ra ?_|refine rb ?_|refine rh ?_);simp [hw])|refine qf ?_|refine qg ?_
   refine Qx [] (ih z1 (fun i hi h1 h2=> ?_)) rfl (by simp) ?_ (by simp) (by simp)
   ·by_cases e:i=j
    ·subst e;simpa using h3
    ·exact hI i (by omega) h1 h2
   ·simp
 ·have z6:j=a.length:=by simp at z8;omega
  subst z6
  repeat first|((first|refine ra ?_|refine rb ?_|refine rh ?_);simp)|refine qf ?_|refine qg ?_
  exact u0t hl (fun i h1 h2=>hI i h1 h1 h2)
end Go.Abs
namespace Go.Abs
open Go Go.Proofs
set_option maxHeartbeats 1000000 in
theorem k0t (p:Prd) (g:Nat) (f:List Iv→Bool) (hg:∀s,PC Tryz.prog g [LIv s] (fun r=>r= .bool (f s))):
  PC Tryz.prog 182 [.list (p.map encL),.fn (.func g) [] []] (fun r=>r= .i (K0 f p)):=by
 refine Qm tOk Tryz.func182 rfl Tryz.results182 rfl (by simp [Tryz.ntmps182]) ?_
 rw [Tryz.ntmps182];simp only [Qf];refine Y7 0 rfl (fun hlen=> ?_)
 rw [List.length_map] at hlen
 repeat first|((first|refine ra ?_|refine rb ?_|refine rh ?_);simp)|refine qf ?_|refine qg ?_
 refine Qy p.length (fun j=>∀i,∀hi:i<p.length,i<j→f p[i]=false) (fun j=>[(0,.list (p.map encL)),(1,.fn (.func g) [] []),(7,.i p.length),(8,.i j)]) (fun _=>[]) rfl (by simp) (by simp) (by simp) (by simp) (by simp) ?_
 intro j hj hI ih
 repeat first|((first|refine ra ?_|refine rb ?_|refine rh ?_);simp)|refine qf ?_|refine qg ?_
 refine Qb rfl (fun z7=> ?_) (fun z8=> ?_)
 ·have z1:j<p.length:=by simpa using z7
  have hw:IntKind.i64.wrap ((j:Int)+1)=j+1:=wrap_i64 _ (by omega) (by omega)
  repeat first|((first|refine ra ?_|refine rb ?_|refine rh ?_);simp [z1])|refine qf ?_|refine qg ?_
  refine Qe rfl rfl (by simp) (hg p[j]) rfl ?_
  rintro _ rfl
  simp
  repeat first|((first|refine ra ?_|refine rb ?_|refine rh ?_);simp)|refine qf ?_|refine qg ?_
  refine Qb rfl (fun h=> ?_) (fun h=> ?_)
  ·repeat first|((first|refine ra ?_|refine rb ?_|refine rh ?_);simp)|refine qf ?_|refine qg ?_
   rw [J2 z1 h hI]
  ·repeat first|((first|refine ra ?_|refine rb ?_|refine rh ?_);simp [hw])|refine qf ?_|refine qg ?_
   refine Qx [] (ih z1 (fun i hi za=> ?_)) rfl (by simp) ?_ (by simp) (by simp)
   ·by_cases e:i=j
    ·subst e;exact h
    ·exact hI i hi (by omega)
   ·simp
 ·have z6:j=p.length:=by simp at z8;omega
  subst z6
  repeat first|((first|refine ra ?_|refine rb ?_|refine rh ?_);simp)|refine qf ?_|refine qg ?_
  rw [Dt hI]
theorem Sv (p:Prd) (g:Nat) (f:List Iv→Bool) (hg:∀s,PC Tryz.prog g [LIv s] (fun r=>r= .bool (f s))):
  PC Tryz.prog 125 [.list (p.map encL),.fn (.func g) [] []] (fun r=>r= .bool (p.any f)):=by
 refine Qm tOk Tryz.func125 rfl Tryz.results125 rfl (by simp [Tryz.ntmps125]) ?_
 rw [Tryz.ntmps125];simp only [Qf]
 repeat first|((first|refine ra ?_|refine rb ?_|refine rh ?_);simp)|refine qf ?_|refine qg ?_
 refine Qe rfl rfl (by simp) (k0t p g f hg) rfl ?_
 rintro _ rfl
 simp
 repeat first|((first|refine ra ?_|refine rb ?_|refine rh ?_);simp)|refine qf ?_|refine qg ?_
 rw [←u04]
theorem d02 (s:List Iv):PC Tryz.prog 185 [LIv s] (fun r=>r= .bool (decide (0<s.length))):=by
 refine Qm tOk Tryz.func185 rfl Tryz.results185 rfl (by simp [Tryz.ntmps185]) ?_
 rw [Tryz.ntmps185];simp only [Qf]
 repeat first|((first|refine ra ?_|refine rb ?_|refine rh ?_);simp)|refine qf ?_|refine qg ?_
theorem y1e (s:List Iv):PC Tryz.prog 126 [LIv s] (fun r=>r= .bool (decide (256<s.length))):=by
 refine Qm tOk Tryz.func126 rfl Tryz.results126 rfl (by simp [Tryz.ntmps126]) ?_
 rw [Tryz.ntmps126];simp only [Qf]
 repeat first|((first|refine ra ?_|refine rb ?_|refine rh ?_);simp)|refine qf ?_|refine qg ?_
 omega
theorem c08 (p:Prd):(!p.any fun s=>decide (0<s.length))=Wp p:=by
 unfold Wp;rw [List.not_any_eq_all_not]
 congr 1
 funext s
 cases s<;>simp
theorem f02 (p:Prd):PC Tryz.prog 132 [encP p] (fun r=>r= .bool (Wp p)):=by
 refine Qm tOk Tryz.func132 rfl Tryz.results132 rfl (by simp [Tryz.ntmps132]) ?_
 rw [Tryz.ntmps132];simp only [Qf];simp only [encP]
 repeat first|((first|refine ra ?_|refine rb ?_|refine rh ?_);simp)|refine qf ?_|refine qg ?_
 refine Qe rfl rfl (by simp) (Sv p 185 (fun s=>decide (0<s.length)) d02) rfl ?_
 rintro _ rfl
 simp
 repeat first|((first|refine ra ?_|refine rb ?_|refine rh ?_);simp)|refine qf ?_|refine qg ?_
 rw [←c08 p,Bool.not_not]
def y1b (m:Mv):Bool:=m.on.any fun s=>decide (256<s.length)
theorem V7 (a:Aut):Bc a=(decide (256<a.fin.length) || decide (2048<a.mv.length) || a.mv.any y1b):=rfl
attribute [local irreducible] y1b
end Go.Abs
namespace Go.Abs
open Go Go.Proofs
abbrev LSy (w:List Sy):AV:= .list (w.map encSy)
def Js (a:Aut) (w:List Sy) (z:Int):Bool:=decide (z∈O2 a [0] w)
theorem c05 (a:Aut) (z:Int):Js a [] z=(false || z==0):=by
 rw [Bool.eq_iff_iff];simp [Js,O2]
theorem x0n (a:Aut) (w:List Sy) (x:Sy):Js a (w++[x])=fun z=>decide (z∈Q5 a (O2 a [0] w) x):=by
 funext z
 unfold Js O2;rw [List.foldl_append];rfl
theorem c1b (a:Aut) (l:List Int) (x:Sy):Yg a.fin.length (nxB a.mv (fun z=>decide (z∈l)) x)=Yg a.fin.length (fun z=>decide (z∈Q5 a l x)):=by
 rw [w1e];unfold Yg;refine List.map_congr_left fun z hz=> ?_
 have z1:=Rp.1 hz
 congr 1
 rw [Bool.eq_iff_iff,decide_eq_true_eq];unfold Q5;rw [List.mem_filter];exact ⟨fun h=>⟨hz,h⟩,fun h=>h.2⟩
attribute [local irreducible] Yg nxB
set_option maxHeartbeats 2000000 in
theorem j0c (a:Aut) (ha:OkA a) (w:List Sy) (zp:w.length≤1000000):PC Tryz.prog 151 [encA a,LSy w] (fun r=>r= .bool (S3 a w)):=by
 refine Qm tOk Tryz.func151 rfl Tryz.results151 rfl (by simp [Tryz.ntmps151]) ?_
 rw [Tryz.ntmps151];simp only [Qf];simp only [encA]
 have hf:=ha.fin
 repeat first|((first|refine ra ?_|refine rb ?_|refine rh ?_);simp)|refine qf ?_|refine qg ?_
 refine Wx tOk rfl rfl rfl T22 rfl T4 rfl rfl rfl (n:=a.fin.length) (by simp;omega) (by unfold maxLen;omega) (.bool false) rfl ?_
 simp
 rw [Bi]
 have z1:=x0e a.fin.length (fun _=>false) 0 (Int.le_refl _) (by omega)
 have zj:Yg a.fin.length (fun z=>false || z==0)=Yg a.fin.length (Js a (w.take 0)):=Ps _ fun z=>by rw [List.take_zero,c05]
 rw [zj] at z1
 have zk:=Rj a.fin.length (fun _=>false)
 have zl:=fun (hh:0<(Yg a.fin.length (fun _=>false)).length)=>Dg a.fin.length (fun _=>false) (i:=0) hh
 have zm:0<a.fin.length:=by omega
 generalize Yg a.fin.length (fun _=>false)=bs at *
 repeat first|((first|refine ra ?_|refine rb ?_|refine rh ?_);simp [zk,zl,zm])|refine qf ?_|refine qg ?_
 have zn:Int.toNat 0=0:=rfl
 rw [zn] at z1;rw [z1]
 have zc:=Rj a.fin.length (Js a (w.take 0))
 refine q03 1 rfl ?_
 simp [zc]
 rw [List.take_of_length_le (by simp [Rj])]
 refine Qy w.length (fun _=>True) (fun j=>[(1,LSy w),(2,.vptr 0 0),(5,.list (Yg a.fin.length (Js a (w.take j)))),(6,.i j)]) (fun _=>[.vars (Q4 a)]) rfl (by simp) (by simp [Rj]) (by simp) (by simp) trivial ?_
 intro j hj _ ih
 repeat first|((first|refine ra ?_|refine rb ?_|refine rh ?_);simp)|refine qf ?_|refine qg ?_
 refine Qb rfl (fun zd=> ?_) (fun ze=> ?_)
 ·have z6:j<w.length:=by simpa using zd
  have hw:IntKind.i64.wrap ((j:Int)+1)=j+1:=wrap_i64 _ (by omega) (by omega)
  have za:Yg a.fin.length (Js a (w.take (j+1)))=Yg a.fin.length (nxB a.mv (fun z=>decide (z∈O2 a [0] (w.take j))) w[j]):=by
   rw [c1b,List.take_succ_eq_append_getElem z6,x0n]
  have zh:=ih z6 trivial
  rw [za] at zh
  repeat first|((first|refine ra ?_|refine rb ?_|refine rh ?_);simp)|refine qf ?_|refine qg ?_
  refine Qo tOk mixed [] (.val 0 (.val 1 (.val 2 (.val 3 (.val 4 (.val 5 (.one 6 (.val 7 (.done))))))))) rfl (by kernel_rfl) ?_
  simp [z6]
  refine Qe rfl rfl (by simp) (q0c a ha (Js a (w.take j)) w[j]) rfl ?_
  rintro _ rfl
  simp
  repeat first|((first|refine ra ?_|refine rb ?_|refine rh ?_);simp [hw])|refine qf ?_|refine qg ?_
  refine Qx _ zh rfl (by simp) ?_ (by simp) (by simp)
  simp
  rfl
 ·have z7:j=w.length:=by simp at ze;omega
  subst z7;rw [List.take_length]
  have zf:=Rj a.fin.length (Js a w)
  repeat first|((first|refine ra ?_|refine rb ?_|refine rh ?_);simp)|refine qf ?_|refine qg ?_
  refine Qy a.fin.length (fun k=>∀i:Nat,i<k→∀h:i<a.fin.length,(Js a w i && a.fin[i])=false) (fun k=>[(2,.vptr 0 0),(5,.list (Yg a.fin.length (Js a w))),(7,.i k)]) (fun _=>[.vars (Q4 a)]) rfl (by simp) (by simp) (by simp) (by simp) (by simp) ?_
  intro k hk hI zi
  repeat first|((first|refine ra ?_|refine rb ?_|refine rh ?_);simp [zf])|refine qf ?_|refine qg ?_
  refine Qb rfl (fun zd=> ?_) (fun ze=> ?_)
  ·have z8:k<a.fin.length:=by simpa using zd
   have hw:IntKind.i64.wrap ((k:Int)+1)=k+1:=wrap_i64 _ (by omega) (by omega)
   have zb:=fun (hh:k<(Yg a.fin.length (Js a w)).length)=>Dg a.fin.length (Js a w) (i:=k) hh
   have za:(Js a w k && a.fin[k])=false→∀i:Nat,i<k+1→∀h:i<a.fin.length,(Js a w i && a.fin[i])=false:=fun hb i hi h=>by
    by_cases e:i=k
    ·subst e;exact hb
    ·exact hI i (by omega) h
   cases hr:Js a w k with
   |false=>
    rw [hr] at zb
    repeat first|((first|refine ra ?_|refine rb ?_|refine rh ?_);simp [zf,z8,zb])|refine qf ?_|refine qg ?_
    refine Qj rfl ?_
    repeat first|((first|refine ra ?_|refine rb ?_|refine rh ?_);simp [hw])|refine qf ?_|refine qg ?_
    refine Qx _ (zi z8 (za (by rw [hr];rfl))) rfl (by simp) ?_ (by simp) (by simp)
    simp
   |true=>
    rw [hr] at zb
    repeat first|((first|refine ra ?_|refine rb ?_|refine rh ?_);simp [zf,z8,zb])|refine qf ?_|refine qg ?_
    refine Qb rfl (fun h=> ?_) (fun h=> ?_)
    ·repeat first|((first|refine ra ?_|refine rb ?_|refine rh ?_);simp)|refine qf ?_|refine qg ?_
     have:S3 a w=true:=by
      rw [S3,Dz];exact ⟨k,by simpa [Js] using hr,by simp [List.getD,z8,h]⟩
     rw [this]
    ·repeat first|((first|refine ra ?_|refine rb ?_|refine rh ?_);simp [hw])|refine qf ?_|refine qg ?_
     refine Qx _ (zi z8 (za (by rw [hr];simpa using h))) rfl (by simp) ?_ (by simp) (by simp)
     simp
  ·have z7:k=a.fin.length:=by simp at ze;omega
   subst z7
   repeat first|((first|refine ra ?_|refine rb ?_|refine rh ?_);simp)|refine qf ?_|refine qg ?_
   have:S3 a w=false:=by
    rw [Bool.eq_false_iff,Ne,S3,Dz]
    rintro ⟨s,hs,zo⟩
    have zq:=runIn w _ (Va ha.wfA) s hs
    have zg:s.toNat<a.fin.length:=by omega
    have:=hI s.toNat zg zg
    have e:((s.toNat:Nat):Int)=s:=by omega
    rw [e] at this
    have hr:Js a w s=true:=by simpa [Js] using hs
    rw [hr,Bool.true_and] at this
    simp [List.getD,zg,this] at zo
   rw [this]
end Go.Abs
namespace Go.Abs
open Go Go.Proofs
def w1a (T:Int):List Sy→Int
 |[]=>0
 |x::r=>if Pn T x≠0 then Pn T x else w1a T r
def y0n (a:Aut) (w:List Sy):Int:=if Wk a≠0 then Wk a else if 4096<w.length then 5 else w1a a.types w
def f0q (a:Aut) (w:List Sy):Bool×Int:=if y0n a w≠0 then (false,y0n a w) else (S3 a w,0)
theorem Ms {T:Int}:∀(w:List Sy),w1a T w=0↔∀x∈w,Pn T x=0
 |[]=>by simp [w1a]
 |x::r=>by
  rw [w1a]
  by_cases h:Pn T x=0
  ·rw [if_neg (fun k=>k h),Ms r];simp [h]
  ·rw [if_pos h];exact ⟨fun k=>absurd k h,fun k=>absurd (k x (by simp)) h⟩
theorem c0r {a:Aut} {w:List Sy}:y0n a w=0↔OkA a∧w.length≤4096∧∀x∈w,Eg a x:=by
 unfold y0n
 by_cases h:Wk a=0
 ·rw [if_neg (fun k=>k h)]
  by_cases hl:4096<w.length
  ·rw [if_pos hl];exact ⟨fun k=>(by cases k),fun k=>(by omega)⟩
  ·rw [if_neg hl,Ms];exact ⟨fun k=>⟨(Ui a).1 h,by omega,fun x hx=>(P7 _ _).1 (k x hx)⟩,fun k x hx=>(P7 _ _).2 (k.2.2 x hx)⟩
 ·rw [if_pos h];exact ⟨fun k=>absurd k h,fun k=>absurd ((Ui a).2 k.1) h⟩
attribute [local irreducible] Pn S3
set_option maxHeartbeats 2000000 in
theorem Vy (a:Aut) (w:List Sy):PC Tryz.prog 92 [encA a,LSy w] (fun r=>r= .tup [.bool (f0q a w).1,.i (f0q a w).2]):=by
 refine Qm tOk Tryz.func92 rfl Tryz.results92 rfl (by simp [Tryz.ntmps92]) ?_
 rw [Tryz.ntmps92];simp only [Qf];simp only [encA]
 repeat first|((first|refine ra ?_|refine rb ?_|refine rh ?_);simp)|refine qf ?_|refine qg ?_
 refine Qe rfl rfl (by simp) (z0y a) rfl ?_
 rintro _ rfl
 simp
 repeat first|((first|refine ra ?_|refine rb ?_|refine rh ?_);simp)|refine qf ?_|refine qg ?_
 refine Qb rfl (fun h=> ?_) (fun h=> ?_)
 ·repeat first|((first|refine ra ?_|refine rb ?_|refine rh ?_);simp)|refine qf ?_|refine qg ?_
  have hE:y0n a w=Wk a:=by rw [y0n,if_pos (by simpa using h)]
  rw [f0q,hE,if_pos (by simpa using h)];exact ⟨rfl,rfl⟩
 have h0:Wk a=0:=by simpa using h
 have z7:=(Ui a).1 h0
 repeat first|((first|refine ra ?_|refine rb ?_|refine rh ?_);simp)|refine qf ?_|refine qg ?_
 refine Qb rfl (fun h=> ?_) (fun h=> ?_)
 ·repeat first|((first|refine ra ?_|refine rb ?_|refine rh ?_);simp)|refine qf ?_|refine qg ?_
  have hE:y0n a w=5:=by rw [y0n,if_neg (fun k=>k h0),if_pos (by simp at h;omega)]
  rw [f0q,hE];exact ⟨rfl,rfl⟩
 have hl:w.length≤4096:=by simp at h;omega
 have hE:y0n a w=w1a a.types w:=by rw [y0n,if_neg (fun k=>k h0),if_neg (by omega)]
 repeat first|((first|refine ra ?_|refine rb ?_|refine rh ?_);simp)|refine qf ?_|refine qg ?_
 refine Qy w.length (fun j=>w1a a.types w=w1a a.types (w.drop j)) (fun j=>[(1,LSy w),(2,.vptr 0 0),(7,.i j)]) (fun _=>[.vars (Q4 a)]) rfl (by simp) (by simp) (by simp) (by simp) (by simp) ?_
 intro j hj hI ih
 repeat first|((first|refine ra ?_|refine rb ?_|refine rh ?_);simp)|refine qf ?_|refine qg ?_
 refine Qb rfl (fun z8=> ?_) (fun za=> ?_)
 ·have z1:j<w.length:=by simpa using z8
  have hw:IntKind.i64.wrap ((j:Int)+1)=j+1:=wrap_i64 _ (by omega) (by omega)
  rw [Ed z1,w1a] at hI
  repeat first|((first|refine ra ?_|refine rb ?_|refine rh ?_);simp)|refine qf ?_|refine qg ?_
  refine Qo tOk mixed [] (.val 0 (.val 1 (.val 2 (.val 3 (.val 4 (.val 5 (.one 6 (.val 7 (.done))))))))) rfl (by kernel_rfl) ?_
  simp [z1]
  refine Qe rfl rfl (by simp) (d05 a.types w[j]) rfl ?_
  rintro _ rfl
  simp
  repeat first|((first|refine ra ?_|refine rb ?_|refine rh ?_);simp)|refine qf ?_|refine qg ?_
  refine Qb rfl (fun h3=> ?_) (fun h3=> ?_)
  ·repeat first|((first|refine ra ?_|refine rb ?_|refine rh ?_);simp)|refine qf ?_|refine qg ?_
   rw [if_pos (by simpa using h3)] at hI
   rw [f0q,hE,hI,if_pos (by simpa using h3)];exact ⟨rfl,rfl⟩
  ·rw [if_neg (by simpa using h3)] at hI
   repeat first|((first|refine ra ?_|refine rb ?_|refine rh ?_);simp [hw])|refine qf ?_|refine qg ?_
   refine Qx _ (ih z1 hI) rfl (by simp) ?_ (by simp) (by simp)
   simp
 ·have z6:j=w.length:=by simp at za;omega
  subst z6;rw [List.drop_length] at hI
  repeat first|((first|refine ra ?_|refine rb ?_|refine rh ?_);simp)|refine qf ?_|refine qg ?_
  refine Qe rfl rfl (by simp) (j0c a z7 w (by omega)) rfl ?_
  rintro _ rfl
  simp
  repeat first|((first|refine ra ?_|refine rb ?_|refine rh ?_);simp)|refine qf ?_|refine qg ?_
  rw [f0q,hE,hI];exact ⟨rfl,rfl⟩
end Go.Abs
namespace Go.Abs
open Go Go.Proofs
def Uj:List Iv:=[⟨-1099511627776,1099511627776⟩]
theorem y0h:Ep []=Uj:=by simp [Ep,E3,Uj]
theorem q17:PC Tryz.prog 156 [] (fun r=>r=LIv Uj):=by
 refine Qm tOk Tryz.func156 rfl Tryz.results156 rfl (by simp [Tryz.ntmps156]) ?_
 rw [Tryz.ntmps156];simp only [Qf]
 repeat first|((first|refine ra ?_|refine rb ?_|refine rh ?_);simp)|refine qf ?_|refine qg ?_
 simp [Uj]
theorem y1v (n:Int):PC Tryz.prog 155 [.i n] (fun r=>r= .tup [LIv Uj,.i 0]):=by
 refine Qm tOk Tryz.func155 rfl Tryz.results155 rfl (by simp [Tryz.ntmps155]) ?_
 rw [Tryz.ntmps155];simp only [Qf]
 repeat first|((first|refine ra ?_|refine rb ?_|refine rh ?_);simp)|refine qf ?_|refine qg ?_
 refine Qe rfl rfl (by simp) (q17) rfl ?_
 rintro _ rfl
 simp
 repeat first|((first|refine ra ?_|refine rb ?_|refine rh ?_);simp)|refine qf ?_|refine qg ?_
end Go.Abs
namespace Go.Abs
open Go Go.Proofs
attribute [local irreducible] upL Uj
set_option maxHeartbeats 2000000 in
theorem z0e (T:Nat) (hT:T≤1000):PC Tryz.prog 154 [.i T,.fn (.func 155) [] []] (fun r=>r= .tup [encP (List.replicate T Uj),.i 0]):=by
 refine Qm tOk Tryz.func154 rfl Tryz.results154 rfl (by simp [Tryz.ntmps154]) ?_
 rw [Tryz.ntmps154];simp only [Qf];simp only [encP]
 repeat first|((first|refine ra ?_|refine rb ?_|refine rh ?_);simp)|refine qf ?_|refine qg ?_
 refine Rl 1 0 171 1 rfl rfl ?_
 simp
 obtain ⟨K,hK⟩:∃K,K=[AObj.vars [AV.nils],AObj.vars [AV.nils]]:=⟨_,rfl⟩
 have zd:=GL.start (K:=K) (S:=1) [] [] 171 1 (by rw [hK];simp)
 refine Qq (Qc (sl':=[(1,.fn (.func 155) [] []),(4,.vptr 0 0),(6,.vptr 1 0),(10,.i T),(11,.i 0)]) ?_ (by simp))
 refine Qp (F:=fun (u:Nat×Nat×List AObj)=>⟨[(1,.fn (.func 155) [] []),(4,.vptr 0 0),(6,.vptr 1 0),(10,.i T),(11,.i u.1)],u.2.2⟩)
  (fun u=>u.1≤T∧GL K u.2.2 1 u.2.1 [] [] 171 1 (upL (fun _=>Uj) u.1)) (fun u=>T - u.1) ?_ (0,K.length,_) ⟨by simp,by rw [Bp,hK] at *;exact zd⟩
 rintro ⟨j,q,H2⟩ ⟨hj,g⟩ ih
 simp only at hj g ih ⊢
 have gR:H2[0]? =some (AObj.vars [AV.nils]):=g.kp (by decide) (by rw [hK];rfl)
 have g2:=g.cell
 have g3:=g.arr
 rw [Ic] at g2;simp only [List.nil_append] at g2
 repeat first|((first|refine ra ?_|refine rb ?_|refine rh ?_);simp)|refine qf ?_|refine qg ?_
 refine Qb rfl (fun ze=> ?_) (fun zf=> ?_)
 ·have zg:j<T:=by simpa using ze
  have hw:IntKind.i64.wrap ((j:Int)+1)=j+1:=wrap_i64 _ (by omega) (by omega)
  repeat first|((first|refine ra ?_|refine rb ?_|refine rh ?_);simp)|refine qf ?_|refine qg ?_
  refine Qe rfl rfl (by simp) (y1v j) rfl ?_
  rintro _ rfl
  simp
  repeat first|((first|refine ra ?_|refine rb ?_|refine rh ?_);simp)|refine qf ?_|refine qg ?_
  refine Qj rfl ?_
  have z6:∀L:List AObj,(H2.set q .dead++L)[1]? =some (AObj.vars [AV.sl q 1 0 j]):=fun L=>by have:=g.at L;rw [Ic] at this;exact this
  have z8:∀(L:List AObj) (h:1<(H2.set q .dead++L).length),(H2.set q .dead++L)[1]'h=AObj.vars [AV.sl q 1 0 j]:=fun L h=>by have:=z6 L;rw [List.getElem?_eq_getElem h] at this;exact Option.some.inj this
  have za:=fun A y=>g.put A y (Ic _ _).symm
  have zh:upL (fun _=>Uj) j++[encL Uj]=upL (fun _=>Uj) (j+1):=(Ng _ _).symm
  have z1:=fun H=>ih (j+1,H2.length+1,H)
  have z7:=Ic (fun _=>Uj) j
  simp only [←zh] at z1
  repeat first|((first|refine ra ?_|refine rb ?_|refine rh ?_);simp [g2])|refine qf ?_|refine qg ?_
  generalize upL (fun _=>Uj) j=xs at *
  refine Qh tOk rfl rfl T74 rfl G4 rfl (by decide) (by decide) rfl rfl rfl ?_
  simp [Qa g3,Qk g3,z7,z6,z8]
  refine ⟨by simp [W2,Qa g3,Qk g3,z7,z6,z8]<;>omega,?_⟩
  repeat first|((first|refine ra ?_|refine rb ?_|refine rh ?_);simp [g2,hw,z6,z8])|refine qf ?_|refine qg ?_
  refine Qc (sl':=[(1,.fn (.func 155) [] []),(4,.vptr 0 0),(6,.vptr 1 0),(10,.i T),(11,.i (j+1:Nat))]) (z1 _ ⟨by omega,za _ _⟩ (by omega)) ?_
  simp
 ·have zb:j=T:=by simp at zf;omega
  subst zb
  have hS:=(List.getElem?_eq_some_iff.1 g2).1
  have zi:q≠0∧q≠1:=by have:=g.ge;rw [hK] at this;simp at this;omega
  have z7:=Ic (fun _=>Uj) j
  have zc: .list (upL (fun _=>Uj) j)=AV.list ((List.replicate j Uj).map encL):=by
   rw [g0c];simp [Function.comp_def,List.map_const']
  generalize upL (fun _=>Uj) j=xs at *
  refine Wc q g3 1 g2 ?_
  have k1:∀X,((H2.set q .dead).set 1 X)[0]? =some (AObj.vars [AV.nils]):=fun X=>Qd (by decide) (Qd zi.1 gR _) _
  have k2:∀X,((H2.set q .dead).set 1 X)[1]? =some X:=fun X=>List.getElem?_set_self (by simpa using hS)
  have k3:∀X Y,(((H2.set q .dead).set 1 X).set 0 Y)[0]? =some Y:=fun X Y=>Qi (k1 X) _
  simp [z7]
  rw [List.take_of_length_le (by omega)]
  repeat first|((first|refine ra ?_|refine rb ?_|refine rh ?_);simp [k1,k2,k3])|refine qf ?_|refine qg ?_
  have h2:=AV.list.inj zc
  rw [List.map_replicate] at h2;exact h2
theorem g1p (T:Int) (h1:1≤T) (h2:T≤16):PC Tryz.prog 98 [.i T] (fun r=>r= .tup [encP (W4 T.toNat),.i 0]):=by
 refine Qm tOk Tryz.func98 rfl Tryz.results98 rfl (by simp [Tryz.ntmps98]) ?_
 rw [Tryz.ntmps98];simp only [Qf];simp only [encP]
 have hw:W4 T.toNat=List.replicate T.toNat Uj:=by rw [W4,y0h]
 have hT:((T.toNat:Nat):Int)=T:=by omega
 have hc:=z0e T.toNat (by omega)
 rw [hT] at hc
 have n1:¬T<1:=by omega
 have n2:¬16<T:=by omega
 rw [hw]
 repeat first|((first|refine ra ?_|refine rb ?_|refine rh ?_);simp [n1,n2])|refine qf ?_|refine qg ?_
 refine Qb rfl (fun h=> ?_) (fun h=> ?_)
 ·simp at h
 repeat first|((first|refine ra ?_|refine rb ?_|refine rh ?_);simp)|refine qf ?_|refine qg ?_
 refine Qe rfl rfl (by simp) (hc) rfl ?_
 rintro _ rfl
 simp
 repeat first|((first|refine ra ?_|refine rb ?_|refine rh ?_);simp)|refine qf ?_|refine qg ?_
end Go.Abs
