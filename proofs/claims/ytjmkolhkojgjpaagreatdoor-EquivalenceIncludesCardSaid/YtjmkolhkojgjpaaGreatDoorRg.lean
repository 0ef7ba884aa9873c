/- Part Rg of the proof: an abstract machine over the model, and what the functions of the program hand back in its terms. No condition. -/
import Derived.Test.YtjmkolhkojgjpaaGreatDoorRf
import Derived.Test.YtjmkolhkojgjpaaGreatDoorRc
import Derived.Test.YtjmkolhkojgjpaaGreatDoorRd
import Derived.Shelf.Small.Bits
import Derived.Shelf.Strconv.Itoa0
import Derived.Shelf.Strconv.Itoa1
import Derived.Shelf.LaysM
import Derived.Shelf.Strconv.Itoa2
import Derived.Shelf.Strconv.AppendUint10
import Derived.Shelf.Strconv.AppendInt10
import Derived.Shelf.Strconv.AppendIntPublic10
import Derived.Test.YtjmkolhkojgjpaaGreatDoorProg
import Derived.Lib.AppendIntMem
import Derived.Lib.ItoaLen
import Derived.Lib.Slices
import Derived.Lib.Hide
import Derived.Laws.IdiomStrings
import Derived.OwnWalk
import Derived.WalkKit
import Derived.BigCall
set_option linter.all false
open List renaming range→yA,getD→yQ,getElem?_set_ne→zB,getElem?_eq_some_iff→zA,ext_getElem?→xD,getElem?_set_self→zH,getElem?_eq_getElem→zD,length_set→wG,getElem?_eq_none→xE,replicate→zT,getElem?_append_left→zE,getElem?_append_right→zC,length_append→zW,length_singleton→vz,range_succ→wT,map_append→yG,map_congr_left→xU,mem_range→yM,mem_of_mem_take→yW,getElem_of_mem→yC,length_take→xB,any_eq_true→xN,ext_getElem→xQ,getElem_map→th,getElem_range→uY,map_map→uZ,all_eq_true→zP,mem_map→zM,map_cons→yO,map_nil→xO,take_of_length_le→zI,getElem_mem→zG,take_succ_eq_append_getElem→zL,take_zero→wA,foldl_nil→tA,eq_nil_or_concat→wp,concat_eq_append→ws,take_length→zZ,mem_append→zO,mem_singleton→zJ,getElem?_map→zQ,mem_of_getElem?→zF,mem_mapIdx→tq,getElem?_mapIdx→uO,length_cons→yE,getElem?_cons_succ→uz,mem_append_left→xC,mem_replicate→u7,foldl_append→x_,append_assoc→xT,flatMap_append→wZ,flatMap_cons→t7,flatMap_nil→tj,append_nil→xV,length_map→zV,drop_length→yU,map_set→u_,foldl_cons→xG,length_pos_iff→ua,mem_of_mem_eraseIdx→uw,length_eraseIdx→u5,any_eq_false→wd
open Int renaming le_refl→yJ
open Bool renaming or_eq_true→ww,eq_false_iff→wS
open Nat renaming le_refl→zK,le_trans→yP
open Option renaming map_eq_some_iff→zN
set_option maxHeartbeats 8000000
set_option linter.unusedSimpArgs false
set_option maxRecDepth 100000
namespace Go.Abs
open Go Go.Proofs
structure CM (H:List AObj) (a:Aut) (G:List AObj) (f p c:Nat) (xs:List AV):Prop where
 b:G[H.length]? =some (.vars (Qp a))
 r:G[H.length+1]? =some (.vars [.i 0,.nils,.nils])
 k:∀i,i<H.length→G[i]? =H[i]?
 ce:G[c]? =some (.vars [.i a.types,.sl f 1 0 a.fin.length,.sl p 3 0 xs.length])
 fe:G[f]? =some (.arr 4 1 (a.fin.map .bool))
 m:G[p]? =some (.arr 73 3 xs)
 hf:H.length+2≤f
 hc:H.length+2≤c
 hp:H.length+2≤p
theorem z1i(l:List Iv):(Ec l).length≤l.length:=by unfold Ec;have:=Ti (E3 l) [];rw[Hn]at this;simpa using this
def y24(a:Aut)(k:Nat):List Mv:=(yA k).filterMap fun s:Nat=>if Wp (Dz a s)then none else some ⟨s,a.fin.length,Dz a s⟩
def v2n(a:Aut)(s:Int)(k:Nat):List Prd:=((a.mv.take k).filter fun m=>decide (m.src=s)).map (·.on)
attribute [local irreducible] y24 Dz Wp Xc W8 d0t
end Go.Abs
namespace Go.Abs
open Go Go.Proofs
attribute [local irreducible] v0a Wl
end Go.Abs
namespace Go.Abs
open Go Go.Proofs
def D0(p:Nat)(xs:List Iv):AV:=if xs=[]then .nils else .sl p 2 0 xs.length
def u0h(L:Nat→Nat)(T:Nat)(p:Prd):List AV:=(yA T).map fun k=>D0 (L k) (p.getD k [])
def Z7(Q:Nat→Nat)(T n:Nat):List AV:=(yA n).map fun c=> .agg [.sl (Q c) 1 0 T]
theorem Ot(L:Nat→Nat)(T:Nat)(p:Prd):(u0h L T p).length=T:=by simp[u0h]
theorem Lg(Q:Nat→Nat)(T n:Nat):(Z7 Q T n).length=n:=by simp[Z7]
theorem Pz(L:Nat→Nat){T k:Nat}(p:Prd)(h:k<T):(u0h L T p)[k]? =some (D0 (L k) (p.getD k [])):=by simp[u0h,h]
theorem w0b(Q:Nat→Nat)(T:Nat){n c:Nat}(h:c<n):(Z7 Q T n)[c]? =some (.agg [.sl (Q c) 1 0 T]):=by simp[Z7,h]
theorem L1{p:Prd}{i:Nat}(h:i<p.length)(y:List Iv):(p.set i y).getD i []=y:=by simp[yQ,h]
theorem getD_set_ne{p:Prd}{i k:Nat}(h:i≠k)(y:List Iv):(p.set i y).getD k []=p.getD k []:=by simp only[yQ];rw[zB h]
structure Rows (K:List AObj) (T o:Nat) (st:List Prd) (Q:Nat→Nat) (L:Nat→Nat→Nat) (tag:Nat→Nat×Nat) (H:List AObj):Prop where
 out:H[o]? =some (.va 70 1 (Z7 Q T st.length))
 row:∀c p,st[c]? =some p→H[Q c]? =some (.va 145 1 (u0h (L c) T p))
 leaf:∀c p k,st[c]? =some p→k<T→p.getD k []≠[]→H[L c k]? =some (.arr 144 2 ((p.getD k []).map encIv))
 tQ:∀c,c<st.length→tag (Q c)=(c+1,0)
 tL:∀c p k,st[c]? =some p→k<T→p.getD k []≠[]→tag (L c k)=(c+1,k+1)
 to:tag o=(0,0)
 geo:K.length≤o
 geQ:∀c,c<st.length→K.length≤Q c
 geL:∀c p k,st[c]? =some p→k<T→p.getD k []≠[]→K.length≤L c k
 keep:∀i,i<K.length→H[i]? =K[i]?
 len:K.length≤H.length
 tK:∀i,i<K.length→tag i=(0,0)
section
variable {K:List AObj} {T o:Nat} {st:List Prd} {Q:Nat→Nat} {L:Nat→Nat→Nat} {tag:Nat→Nat×Nat} {H H':List AObj}
theorem Yi{α:Type}{l:List α}{i:Nat}{x:α}(h:l[i]? =some x):i<l.length:=(zA.1 h).1
theorem Qi{H:List AObj}{i:Nat}{x:AObj}(h:H[i]? =some x):i<H.length:=(zA.1 h).1
theorem Rows.other(h:Rows K T o st Q L tag H)(hk:∀j,j<H.length→tag j≠(0,1)→H'[j]? =H[j]?)(hl:H.length≤H'.length)(hK:K=[]:=by rfl):Rows K T o st Q L tag H':=by
 subst hK;exact⟨(hk _ (Qi h.out) (by rw[h.to];simp)).trans h.out,fun c p hc=>(hk _ (Qi (h.row c p hc)) (by rw[h.tQ c (Yi hc)];simp)).trans (h.row c p hc),fun c p k hc z1 hn=>(hk _ (Qi (h.leaf c p k hc z1 hn)) (by rw[h.tL c p k hc z1 hn];simp)).trans (h.leaf c p k hc z1 hn),
  h.tQ,h.tL,h.to,h.geo,h.geQ,h.geL,fun i hi=>by simp at hi,by simp,h.tK⟩
theorem q06{l:List AV}{i:Nat}{x:AV}(h:l[i]? =some x):l.set i x=l:=by
 refine xD fun j=> ?_;by_cases e:i=j
 ·subst e;rw[h,zH (Yi h)]
 ·rw[zB e]
theorem Rows.put (h:Rows K T o st Q L tag H) {c:Nat} {p:Prd} (hc:st[c]? =some p) (zi:p.length=T) {i:Nat} (hi:i<T) {x:Iv} {np:Nat} (zj:H.length≤np)
  (zf:H'[Q c]? =some (.va 145 1 ((u0h (L c) T p).set i (.sl np 2 0 ((p.getD i []).length+1)))))
  (z8:H'[np]? =some (.arr 144 2 ((p.getD i []++[x]).map encIv)))
  (hk:∀j,j<H.length→j≠Q c→tag j≠(c+1,i+1)→H'[j]? =H[j]?):
  Rows K T o (st.set c (Us p i x)) Q (fun c' k'=>if c'=c∧k'=i then np else L c' k') (fun j=>if j=np then(c+1,i+1)else tag j) H':=by
 have zd:=(zA.1 hc).1;have ze:∀c' p',(st.set c (Us p i x))[c']? =some p'→(c'=c∧p'=Us p i x)∨(c'≠c∧st[c']? =some p'):=fun c' p' e=>by
  by_cases zg:c'=c
  ·subst zg;rw[zH zd]at e;exact .inl ⟨rfl,(Option.some.inj e).symm⟩
  ·rw[zB (fun e=>zg e.symm)]at e;exact .inr ⟨zg,e⟩
 have za:(Us p i x).getD i []=p.getD i []++[x]:=L1 (by omega) _;have z6:∀k,k≠i→(Us p i x).getD k []=p.getD k []:=fun k hk=>getD_set_ne (fun e=>hk e.symm) _;have zh:o≠Q c:=fun e=>by have h1:=h.to;have h2:=h.tQ c zd;rw[e,h2]at h1;simp at h1
 have lo:=Qi h.out;have lQ:∀c',c'<st.length→Q c'<H.length:=fun c' zb=>Qi (h.row c' _ (zD zb));have geQ:=h.geQ;refine⟨?_,fun c' p' e=> ?_,fun c' p' k e z1 hn=> ?_,fun c' zb=> ?_,fun c' p' k e z1 hn=> ?_,?_,h.geo,fun c' zb=> ?_,fun c' p' k e z1 hn=> ?_,fun j hj=> ?_,?_,fun j hj=> ?_⟩
 ·rw[wG,hk o lo zh (by rw[h.to];simp)];exact h.out
 ·rcases ze c' p' e with⟨rfl,rfl⟩|⟨zc,e'⟩
  ·rw[zf]
   congr 2
   refine xD fun k=> ?_;by_cases hkT:k<T
   ·rw[Pz _ _ hkT];by_cases hki:k=i
    ·subst hki;rw[zH (by rw[Ot];exact hkT),za];simp[D0]
    ·rw[zB (fun e=>hki e.symm),Pz _ _ hkT,z6 k hki];simp[hki]
   ·rw[xE (by rw[wG,Ot];omega),xE (by rw[Ot];omega)]
  ·have z7:=(zA.1 e').1;rw[hk _ (lQ c' z7) (fun e=>by have h1:=h.tQ c zd;have h2:=h.tQ c' z7;rw[e,h1]at h2;simp at h2;omega) (by rw[h.tQ c' z7];simp),h.row c' p' e'];simp[zc]
 ·rcases ze c' p' e with⟨rfl,rfl⟩|⟨zc,e'⟩
  ·by_cases hki:k=i
   ·subst hki;rw[za,if_pos ⟨rfl,rfl⟩];exact z8
   ·rw[z6 k hki]at hn ⊢;rw[if_neg (fun a=>hki a.2),hk _ (Qi (h.leaf _ _ k hc z1 hn)) (fun e=>by have h1:=h.tQ c' zd;have h2:=h.tL c' p k hc z1 hn;rw[e,h1]at h2;simp at h2) (by rw[h.tL c' p k hc z1 hn];simp;omega)];exact h.leaf _ _ k hc z1 hn
  ·have z7:=(zA.1 e').1;rw[if_neg (fun a=>zc a.1),hk _ (Qi (h.leaf _ _ k e' z1 hn)) (fun e=>by have h1:=h.tQ c zd;have h2:=h.tL c' p' k e' z1 hn;rw[e,h1]at h2;simp at h2) (by rw[h.tL c' p' k e' z1 hn];simp;omega)];exact h.leaf _ _ k e' z1 hn
 ·rw[wG]at zb;have:=lQ c' zb;rw[if_neg (by omega)];exact h.tQ c' zb
 ·rcases ze c' p' e with⟨rfl,rfl⟩|⟨zc,e'⟩
  ·by_cases hki:k=i
   ·subst hki;simp only[and_self,if_true]
   ·rw[z6 k hki]at hn;have:=Qi (h.leaf _ _ k hc z1 hn);simp only[hki,and_false,if_false];rw[if_neg (by omega)];exact h.tL _ _ k hc z1 hn
  ·have:=Qi (h.leaf _ _ k e' z1 hn);simp only[zc,false_and,if_false];rw[if_neg (by omega)];exact h.tL _ _ k e' z1 hn
 ·rw[if_neg (by omega)];exact h.to
 ·rw[wG]at zb;exact h.geQ c' zb
 ·rcases ze c' p' e with⟨rfl,rfl⟩|⟨zc,e'⟩
  ·by_cases hki:k=i
   ·subst hki;have:=h.len;rw[if_pos ⟨rfl,rfl⟩];omega
   ·rw[z6 k hki]at hn;rw[if_neg (fun a=>hki a.2)];exact h.geL _ _ k hc z1 hn
  ·rw[if_neg (fun a=>zc a.1)];exact h.geL _ _ k e' z1 hn
 ·have h1:=h.len;have h2:=geQ c zd;rw[hk j (by omega) (by omega) (by rw[h.tK j hj];simp)];exact h.keep j hj
 ·have:=Qi z8;have:=h.len;omega
 ·have:=h.len;rw[if_neg (by omega)];exact h.tK j hj
theorem Rows.new (h:Rows K T o st Q L tag H) {q o':Nat} (hq:H.length≤q) (ho:H.length≤o') (zd:q≠o')
  (zc:H'[q]? =some (.va 145 1 (zT T .nils))) (za:H'[o']? =some (.va 70 1 (Z7 Q T st.length++[.agg [.sl q 1 0 T]])))
  (hk:∀j,j<H.length→j≠o→H'[j]? =H[j]?):
  Rows K T o' (st++[zT T []]) (fun c=>if c=st.length then q else Q c) L (fun j=>if j=q then(st.length+1,0)else if j=o' then(0,0)else tag j) H':=by
 have zb:∀c' p',(st++[zT T []])[c']? =some p'→(c'=st.length∧p'=zT T [])∨(c'<st.length∧st[c']? =some p'):=fun c' p' e=>by
  by_cases z1:c'<st.length
  ·rw[zE z1]at e;exact .inr ⟨z1,e⟩
  ·rw[zC (by omega)]at e;have h0:c' - st.length=0:=by have:=(zA.1 e).1;simpa using this
   rw[h0]at e;exact .inl ⟨by omega,(Option.some.inj e).symm⟩
 have z6:∀k,(zT T ([]:List Iv)).getD k []=[]:=fun k=>by by_cases hk:k<T<;>simp[yQ,hk]
 have lQ:∀c',c'<st.length→Q c'<H.length:=fun c' z7=>Qi (h.row c' _ (zD z7));have lo:=Qi h.out;have hlen:=h.len;have ze:∀c',c'<st.length→Q c'≠o:=fun c' z7 e=>by have h1:=h.to;have h2:=h.tQ c' z7;rw[←e,h2]at h1;simp at h1
 refine⟨?_,fun c' p' e=> ?_,fun c' p' k e z8 hn=> ?_,fun c' z7=> ?_,fun c' p' k e z8 hn=> ?_,?_,by omega,fun c' z7=> ?_,fun c' p' k e z8 hn=> ?_,fun j hj=> ?_,by have:=Qi za;omega,fun j hj=> ?_⟩
 ·rw[za]
  congr 2
  rw[zW,vz,Z7,Z7,wT,yG]
  congr 1
  ·exact xU fun c hc=>by rw[if_neg (by have:=yM.1 hc;omega)]
  ·simp
 ·rcases zb c' p' e with⟨rfl,rfl⟩|⟨hc,e'⟩
  ·rw[if_pos rfl,zc]
   congr 2
   refine xD fun k=> ?_;by_cases hkT:k<T
   ·rw[Pz _ _ hkT,z6];simp[D0,hkT]
   ·rw[xE (by simp;omega),xE (by rw[Ot];omega)]
  ·rw[if_neg (by omega),hk _ (lQ c' hc) (ze c' hc)];exact h.row _ _ e'
 ·rcases zb c' p' e with⟨rfl,rfl⟩|⟨hc,e'⟩
  ·exact absurd (z6 k) hn
  ·have hl:=h.leaf _ _ k e' z8 hn;rw[hk _ (Qi hl) (fun e=>by have h1:=h.to;have h2:=h.tL _ _ k e' z8 hn;rw[e,h1]at h2;simp at h2)];exact hl
 ·rw[zW,vz]at z7;by_cases z1:c'=st.length
  ·rw[if_pos z1,if_pos rfl,z1]
  ·have:=lQ c' (by omega);rw[if_neg z1,if_neg (by omega),if_neg (by omega)];exact h.tQ c' (by omega)
 ·rcases zb c' p' e with⟨rfl,rfl⟩|⟨hc,e'⟩
  ·exact absurd (z6 k) hn
  ·have:=Qi (h.leaf _ _ k e' z8 hn);rw[if_neg (by omega),if_neg (by omega)];exact h.tL _ _ k e' z8 hn
 ·rw[if_neg (fun e=>zd e.symm),if_pos rfl]
 ·rw[zW,vz]at z7;by_cases z1:c'=st.length
  ·rw[if_pos z1];omega
  ·rw[if_neg z1];exact h.geQ c' (by omega)
 ·rcases zb c' p' e with⟨rfl,rfl⟩|⟨hc,e'⟩
  ·exact absurd (z6 k) hn
  ·exact h.geL _ _ k e' z8 hn
 ·have zf:=h.geo;rw[hk j (by omega) (by omega)];exact h.keep j hj
 ·rw[if_neg (by omega),if_neg (by omega)];exact h.tK j hj
theorem Rows.start0(T o:Nat)(H:List AObj)(ho:H[o]? =some (.va 70 1 []))(tag:Nat→Nat×Nat)(ht:tag o=(0,0)):Rows [] T o [] (fun _=>0) (fun _ _=>0) tag H:=by refine⟨by simpa[Z7]using ho,fun c p hc=>by simp at hc,fun c p k hc=>by simp at hc,fun c hc=>by simp at hc,fun c p k hc=>by simp at hc,ht,by simp,fun c hc=>by simp at hc,fun c p k hc=>by simp at hc,fun i hi=>by simp at hi,by simp,fun i hi=>by simp at hi⟩
end
end Go.Abs
namespace Go.Abs
open Go Go.Proofs
def ascS(s:List Iv):Prop:=(∀x∈s,x.lo≤x.hi)∧s.Pairwise (fun x y=>x.hi<y.lo)
theorem ascS.take{s:List Iv}(h:ascS s)(k:Nat):ascS (s.take k):=⟨fun x hx=>h.1 x (yW hx),h.2.take⟩
theorem Nd{s ini:List Iv}{y x:Iv}{m:Nat}(h:ascS s)(hm:m<s.length)(hx:s[m]=x)(e:Q0 [] (s.take m)=ini++[y]):y.hi<x.lo:=by
 have h1:=Ob (h.take m);have hy:y∈Q0 [] (s.take m):=by rw[e];simp
 have z7:y.lo≤y.hi:=h1.1.1 y hy;obtain⟨z,hz,z1,z2⟩:=(h1.2 y.hi).1 ⟨y,hy,z7,yJ _⟩;obtain⟨i,hi,z6⟩:=yC hz;rw[xB]at hi;rw[List.getElem_take]at z6;have:=List.pairwise_iff_getElem.1 h.2 i m (by omega) hm (by omega);rw[z6,hx]at this;omega
theorem k1m{ini:List Iv}{y x:Iv}(h1:y.hi<x.lo)(h2:x.lo≤x.hi):W7 (ini++[y]) x=if y.hi+1=x.lo then ini++[⟨y.lo,x.hi⟩]else ini++[y]++[x]:=by
 rw[Ei];by_cases e:y.hi+1=x.lo
 ·rw[if_pos e,if_pos (by omega),if_pos (by omega)]
 ·rw[if_neg e,if_neg (by omega)]
theorem d1o{L:List Prd}{p:Prd}{s:List Iv}(hp:p∈L)(hs:s∈p)(h:256<s.length):P6 L=true:=by simp only[P6,ww,xN];exact .inr ⟨p,hp,s,hs,by simpa using h⟩
theorem k1e{L:List Prd}(hl:L.length≤256)(h:∀p∈L,∀s∈p,s.length≤256):P6 L=false:=by
 rw[wS];intro hb;simp only[P6,ww,xN,decide_eq_true_eq]at hb;rcases hb with hb|⟨p,hp,s,hs,hb⟩
 ·omega
 ·have:=h p hp s hs;omega
def V3(L:Nat→Nat)(T:Nat)(p:Prd)(k:Nat):List AV:=(yA T).map fun i=>if i<k then encL (Q0 [] (p.getD i []))else D0 (L i) (p.getD i [])
theorem c0s(L:Nat→Nat)(T:Nat)(p:Prd)(k:Nat):(V3 L T p k).length=T:=by simp[V3]
theorem u0o(L:Nat→Nat)(T:Nat)(p:Prd):V3 L T p 0=u0h L T p:=xU fun i _=>by simp
theorem z16(L:Nat→Nat){T k:Nat}(p:Prd)(h:k<T):(V3 L T p k)[k]? =some (D0 (L k) (p.getD k [])):=by simp[V3,h]
theorem q1j(L:Nat→Nat){T k:Nat}(p:Prd)(h:k<T):(V3 L T p k).set k (encL (Q0 [] (p.getD k [])))=V3 L T p (k+1):=by
 refine xQ (by simp[V3]) fun j h1 h2=> ?_;have hj:j<T:=by simpa[V3]using h2
 rw[List.getElem_set];by_cases e:k=j
 ·subst e;simp[V3]
 ·rw[if_neg e];simp only[V3,th,uY];by_cases h3:j<k
  ·rw[if_pos h3,if_pos (by omega)]
  ·rw[if_neg h3,if_neg (by omega)]
theorem Me{p:Prd}{T:Nat}(h:p.length=T)(f:List Iv→AV):(yA T).map (fun i=>f (p.getD i []))=p.map f:=by
 subst h;refine xQ (by simp) fun j h1 h2=> ?_;have hj:j<p.length:=by simpa using h1
 simp[hj]
theorem q1g(L:Nat→Nat){T:Nat}{p:Prd}(h:p.length=T):V3 L T p T=(Ro p).map encL:=by
 have:V3 L T p T=(yA T).map (fun i=>(fun s=>encL (Q0 [] s)) (p.getD i [])):=xU fun i hi=>by rw[if_pos (yM.1 hi)]
 rw[this,Me h (fun s=>encL (Q0 [] s)),Ro,uZ];rfl
theorem v0k(l:List (List Iv)):(l.map encL).all (fun x=>x.cells.all AV.pure)=true:=by rw[zP];intro x hx;obtain⟨s,_,rfl⟩:=zM.1 hx;simp[AV.cells,AV.pure]
def Xz(Q:Nat→Nat)(T:Nat)(st:List Prd)(c:Nat):List AV:=(yA st.length).map fun j=>if j<c then encP (Ro (st.getD j []))else .agg [.sl (Q j) 1 0 T]
theorem c0t(Q:Nat→Nat)(T:Nat)(st:List Prd)(c:Nat):(Xz Q T st c).length=st.length:=by simp[Xz]
theorem f0z(Q:Nat→Nat)(T:Nat)(st:List Prd):Xz Q T st 0=Z7 Q T st.length:=xU fun i _=>by simp
theorem c06(Q:Nat→Nat)(T:Nat){st:List Prd}{c:Nat}(h:c<st.length):(Xz Q T st c)[c]? =some (.agg [.sl (Q c) 1 0 T]):=by simp[Xz,h]
theorem v1v{Q:Nat→Nat}{T:Nat}{st:List Prd}{c:Nat}(h:c<st.length)(z6:∀j,j<st.length→j≠c→Q j≠Q c)(hT:st[c].length=T):
  (Xz Q T st c).map (AV.fz (Q c) 1 ((Ro st[c]).map encL))=Xz Q T st (c+1):=by
 refine xQ (by simp[Xz]) fun j h1 h2=> ?_;have hj:j<st.length:=by simpa[Xz]using h2
 have z1:(Ro st[c]).length=T:=by simp[Ro,hT]
 simp only[Xz,th,uY];by_cases h3:j<c
 ·rw[if_pos h3,if_pos (by omega)];simp[Kj,u04]
 ·rw[if_neg h3];by_cases e:j=c
  ·subst e;rw[if_pos (by omega),Kj];have:st.getD j []=st[j]:=by simp[yQ,hj]
   rw[this];simp only[yO,xO,AV.fz,encP];rw[if_pos (by simp[z1]),List.drop_zero,zI (by simp[z1])]
  ·rw[if_neg (by omega),Kj];simp only[yO,xO,AV.fz];rw[if_neg (fun a=>z6 j hj e a.1)]
theorem w11(Q:Nat→Nat)(T:Nat)(st:List Prd):Xz Q T st st.length=(st.map Ro).map encP:=by
 refine xQ (by simp[Xz]) fun j h1 h2=> ?_;have hj:j<st.length:=by simpa[Xz]using h1
 simp[Xz,hj]
theorem g0l(l:List Prd):(l.map encP).all (fun x=>x.cells.all AV.pure)=true:=by rw[zP];intro x hx;obtain⟨s,_,rfl⟩:=zM.1 hx;simp[AV.cells,AV.pure]
theorem v1s{l:List AV}{i:Nat}{x:AV}(h:l[i]? =some x):i<l.length:=(zA.1 h).1
theorem Bl{P:Program}[Env P]{nt k:Nat}{cd:Code}{Q:Exit→AS→Prop}{sl:List (Nat×AV)}{H:List AObj}(F:List AObj→Prop)(h1:(∀H1,F H1→AWP P nt k cd Q ⟨sl,H1⟩)→AWP P nt k cd Q ⟨sl,H⟩)(h2:∀H1,F H1→AWP P nt k cd Q ⟨sl,H1⟩):AWP P nt k cd Q ⟨sl,H⟩:=h1 h2
attribute [local irreducible] W7 Q0 Ec u0h V3 Z7 Xz
theorem k1t(T o:Nat)(st:List Prd)(Q:Nat→Nat)(L:Nat→Nat→Nat)(tag:Nat→Nat×Nat)(H:List AObj)(h:Rows [] T o st Q L tag H)(hT:T≤16)(hw:∀p∈st,p.length=T∧∀s∈p,ascS s∧s.length≤10000000∧∀x∈s,O6 x):
  FC Tryz.prog 168 [.sl o 1 0 st.length] H (fun r _=>(r= .tup [.nils,.i 5]∧P6 (st.map Ro)=true)∨(r= .tup [LP (st.map Ro),.i 0]∧P6 (st.map Ro)=false)):=by
 refine El tOk Tryz.func168 rfl Tryz.results168 rfl (by simp[Tryz.ntmps168]) ?_;rw[Tryz.ntmps168];simp only[Qe];repeat first|(refine r_ ?_;simp)|refine q_ ?_
 refine Qa rfl (fun zc=> ?_) (fun yb=> ?_)
 ·have hb:256<st.length:=by simp at zc;omega
  repeat first|(refine r_ ?_;simp)|refine q_ ?_
  simp[P6];omega
 have hn:st.length≤256:=by simp at yb;omega
 repeat first|(refine r_ ?_;simp)|refine q_ ?_
 have yp:=Qi h.out;have tagne:∀c c',c<st.length→c'<st.length→c≠c'→Q c≠Q c':=fun c c' h1 h2 za e=>by have a:=h.tQ c h1;have b:=h.tQ c' h2;rw[e,b]at a;simp at a;omega
 have y3:∀c,c<st.length→Q c≠o:=fun c hc e=>by have h1:=h.to;have h2:=h.tQ c hc;rw[←e,h2]at h1;simp at h1
 refine Ql (Qb (sl':=[(0,.sl o 1 0 st.length),(15,.sl o 1 0 st.length),(16,.i st.length),(17,.i (0:Nat))]) ?_ (by simp));refine Qm (F:=fun(u:Nat×List AObj)=>⟨[(0,.sl o 1 0 st.length),(15,.sl o 1 0 st.length),(16,.i st.length),(17,.i u.1)],u.2⟩)
  (fun u=>u.1≤st.length∧H.length≤u.2.length∧u.2[o]? =some (.va 70 1 (Xz Q T st u.1))∧(∀j,j<H.length→j≠o→(∀c,c<u.1→j≠Q c)→u.2[j]? =H[j]?)∧∀p∈(st.map Ro).take u.1,∀s∈p,s.length≤256) (fun u=>st.length - u.1) ?_ (0,H) ⟨by simp,by simp,by rw[f0z];exact h.out,fun _ _ _ _=>rfl,by simp⟩
 rintro⟨c,G⟩ ⟨hc,hG,go,gk,gs⟩ ih;simp only at hc hG go gk gs ih ⊢;repeat first|(refine r_ ?_;simp)|refine q_ ?_
 refine Qa rfl (fun yc=> ?_) (fun yd=> ?_)
 ·have z1:c<st.length:=by simpa using yc
  have ye:IntKind.i64.wrap ((c:Int)+1)=c+1:=wrap_i64 _ (by omega) (by omega);have zn:=c06 Q T z1;have yf:=c0t Q T st c;have hp:=hw _ (zG z1);have yg:=v1v z1 (fun j hj za=>tagne j c hj z1 za) hp.1;have yh:=(gk (Q c) (Qi (h.row c _ (zD z1))) (y3 c z1) (fun c' zj=>tagne c c' z1 (by omega) (by omega))).trans (h.row c _ (zD z1));have hle:∀k,k<T→st[c].getD k []≠[]→G[L c k]? =some (.arr 144 2 ((st[c].getD k []).map encIv))∧L c k≠Q c∧L c k≠o∧L c k<H.length:=fun k hk za=>by
   have hl:=h.leaf c _ k (zD z1) hk za;have ht:=h.tL c _ k (zD z1) hk za;have h1:L c k≠o:=fun e=>by have:=h.to;rw[←e,ht]at this;simp at this
   have h2:∀c',c'<st.length→L c k≠Q c':=fun c' zj e=>by have:=h.tQ c' zj;rw[←e,ht]at this;simp at this
   exact⟨(gk _ (Qi hl) h1 (fun c' zj=>h2 c' (by omega))).trans hl,h2 c z1,h1,Qi hl⟩
  have yq:=Qi (h.row c _ (zD z1));have zk:=y3 c z1;have yi:(st.map Ro).take (c+1)=(st.map Ro).take c++[Ro st[c]]:=by rw[zL (by simpa using z1)];simp
  have yj:Ro st[c]∈st.map Ro:=zM.2 ⟨_,zG z1,rfl⟩;generalize yr:st[c]=p at *;generalize Xz Q T st c=od at *
  have zo:∀hh,od[c]'hh= .agg [.sl (Q c) 1 0 T]:=fun hh=>by rw[zD hh]at zn;exact Option.some.inj zn
  repeat first|(refine r_ ?_;simp[go,zn,zo,yf,z1])|refine q_ ?_
  have yt:0<G.length:=by omega
  refine Ql (Qb (sl':=[(0,.sl o 1 0 st.length),(5,.vptr G.length 0),(15,.sl o 1 0 st.length),(16,.i st.length),(17,.i c),(22,.sl (Q c) 1 0 T),(23,.i T),(24,.i (0:Nat))]) ?_ (by simp));refine Qm (F:=fun(u:Nat×List AObj)=>⟨[(0,.sl o 1 0 st.length),(5,.vptr G.length 0),(15,.sl o 1 0 st.length),(16,.i st.length),(17,.i c),(22,.sl (Q c) 1 0 T),(23,.i T),(24,.i u.1)],u.2⟩)
   (fun u=>u.1≤T∧G.length+1≤u.2.length∧u.2[Q c]? =some (.va 145 1 (V3 (L c) T p u.1))∧(∀j,j<G.length→j≠Q c→u.2[j]? =G[j]?)∧u.2[G.length]? =some (.vars [.sl (Q c) 1 0 T])∧∀s∈(Ro p).take u.1,s.length≤256) (fun u=>T - u.1) ?_ (0,_) ⟨by simp,by simp,by rw[u0o];exact Qc yh _,fun j hj _=>zE hj,by simp,by simp⟩
  rintro⟨k,E⟩ ⟨hk,hE,eq,ek,e5,es⟩ ih2;simp only at hk hE eq ek e5 es ih2 ⊢;repeat first|(refine r_ ?_;simp)|refine q_ ?_
  refine Qa rfl (fun zp=> ?_) (fun zq=> ?_)
  ·have z6:k<T:=by simpa using zp
   have yk:IntKind.i64.wrap ((k:Int)+1)=k+1:=wrap_i64 _ (by omega) (by omega);have zd:=z16 (L c) p z6;have y4:=c0s (L c) T p k;have zr:=q1j (L c) p z6;have zl:k<p.length:=by rw[hp.1];exact z6
   have y5:p.getD k []=p[k]:=Wv zl;have y6:(Ro p).take (k+1)=(Ro p).take k++[Q0 [] p[k]]:=by rw[zL (by simpa[Ro]using zl)];simp[Ro]
   have yl:Q0 [] p[k]∈Ro p:=zM.2 ⟨_,zG zl,rfl⟩;have ze:=hp.2 _ (zG zl);have y7:=hle k z6;have zf:=fun E'=>ih2 (k+1,E');rw[y5]at zd y7 zr;simp only[←zr,y6]at zf;clear zr y6 y5;generalize V3 (L c) T p k=rd at *;generalize p[k]=s at *
   have yu:E[Q c]? =some (.va 145 1 rd):=eq;refine Bl (fun E1=>∃z,E1[Q c]? =some (.va 145 1 (rd.set k (.sl z 2 0 s.length)))∧E1[z]? =some (.arr 144 2 (s.map encIv))∧(∀j,j<G.length+1→j≠Q c→E1[j]? =E[j]?)∧E.length≤E1.length∧z≠Q c) (fun hm=> ?_) ?_
   ·by_cases hs0:s=[]
    ·subst hs0;simp only[D0,if_true]at zd;refine P9 (Q c) k 144 2 eq zd ?_;have hl:=Qi eq;refine hm _ ⟨E.length,Qo (Qc eq _) _,?_,fun j hj za=> ?_,by simp,by omega⟩
     ·rw[zB (by omega)];simp
     ·rw[zB (Ne.symm za),zE (by omega)]
    ·simp only[D0,if_neg hs0]at zd;obtain⟨k1,k2,k3,k4⟩:=y7 hs0;have zt:rd.set k (.sl (L c k) 2 0 s.length)=rd:=by
      refine xD fun j=> ?_;by_cases e:k=j
      ·subst e;rw[zd,zH (v1s zd)]
      ·rw[zB e]
     refine hm E ⟨L c k,by rw[zt];exact eq,?_,fun _ _ _=>rfl,zK _,k2⟩;rw[ek _ (by omega) k2];exact k1
   ·rintro E1 ⟨z,f1,f2,f3,f4,f5⟩;have ym:∀hh,(rd.set k (.sl z 2 0 s.length))[k]'hh= .sl z 2 0 s.length:=fun hh=>by simp
    have f6:=f3 G.length (by omega) (by omega);rw[e5]at f6;have yv:=ze.2.1;repeat first|(refine r_ ?_;simp[f1,ym,y4,z6])|refine q_ ?_
    refine Q5 8 144 2 rfl ?_;simp;have hst:=SL.start E1 144 2;refine Ql (Qb (sl':=[(0,.sl o 1 0 st.length),(5,.vptr G.length 0),(6,.i k),(8,.sl E1.length 2 0 (Q0 [] (s.take 0)).length),(15,.sl o 1 0 st.length),(16,.i st.length),(17,.i c),(22,.sl (Q c) 1 0 T),(23,.i T),(24,.i k),(29,.sl z 2 0 s.length),(30,.i s.length),(31,.i (0:Nat))]) ?_ (by simp[Q0]));refine Qm (F:=fun(u:Nat×Nat×List AObj)=>⟨[(0,.sl o 1 0 st.length),(5,.vptr G.length 0),(6,.i k),(8,.sl u.2.1 2 0 (Q0 [] (s.take u.1)).length),(15,.sl o 1 0 st.length),(16,.i st.length),(17,.i c),(22,.sl (Q c) 1 0 T),(23,.i T),(24,.i k),(29,.sl z 2 0 s.length),(30,.i s.length),(31,.i u.1)],u.2.2⟩)
     (fun u=>u.1≤s.length∧SL E1 u.2.2 u.2.1 144 2 ((Q0 [] (s.take u.1)).map encIv)) (fun u=>s.length - u.1) ?_ (0,E1.length,_) ⟨by simp,by rw[wA,Q0,tA];exact hst⟩
    rintro⟨j,p2,W⟩ ⟨hj,g⟩ ih3;simp only at hj g ih3 ⊢;repeat first|(refine r_ ?_;simp)|refine q_ ?_
    refine Qa rfl (fun zu=> ?_) (fun zv=> ?_)
    ·have z7:j<s.length:=by simpa using zu
     have zw:IntKind.i64.wrap ((j:Int)+1)=j+1:=wrap_i64 _ (by omega) (by omega);have y8:Q0 [] (s.take (j+1))=W7 (Q0 [] (s.take j)) s[j]:=by rw[zL z7,Pm]
     have zx:(Q0 [] (s.take j)).length≤j:=yP (Ti _ _) (by simp;omega);have zy:∀y∈Q0 [] (s.take j),O6 y:=Ad _ _ (by simp) (fun y hy=>ze.2.2 y (yW hy));have zb:=fun ini y=>Nd (ini:=ini) (y:=y) (x:=s[j]) ze.1 z7 rfl;have yn:=ze.1.1 _ (zG z7);have yw:=(Eh _).1 (ze.2.2 _ (zG z7)).2;have gz:=(g.keep z (Qi f2)).trans f2;have z8:=fun p' G'=>ih3 (j+1,p',G');simp only[y8]at z8;clear y8;generalize Q0 [] (s.take j)=acc at *
     repeat first|(refine r_ ?_;simp[gz,z7])|refine q_ ?_
     generalize s[j]=x at *
     rcases wp acc with rfl|⟨ini,y,rfl⟩
     ·refine Qn tOk mixed [] (.val 0 (.val 1 (.val 2 (.val 3 (.val 4 (.val 5 (.val 6 (.val 7 (.val 8 (.val 9 (.val 10 (.val 11 (.val 12 (.val 13 (.done))))))))))))))) rfl (by kernel_rfl) ?_;simp[(by decide:IntKind.i64.wrap (-1)= -1)];refine Qq rfl ?_;simp;repeat first|(refine r_ ?_;simp)|refine q_ ?_
      refine Qf tOk rfl rfl Pp rfl G6 rfl (by decide) (by decide) rfl rfl rfl ?_;simp[Qc g.arr,Qj g.arr];refine⟨by simp[Ws,Qc g.arr,Qj g.arr]<;>omega,?_⟩;repeat first|(refine r_ ?_;simp[zw])|refine q_ ?_
      refine Qb (sl':=[(0,.sl o 1 0 st.length),(5,.vptr G.length 0),(6,.i k),(8,.sl (W.length+2) 2 0 1),(15,.sl o 1 0 st.length),(16,.i st.length),(17,.i c),(22,.sl (Q c) 1 0 T),(23,.i T),(24,.i k),(29,.sl z 2 0 s.length),(30,.i s.length),(31,.i (j+1:Nat))]) ?_ (by simp);have:=z8 (W.length+2) _ ⟨by omega,by rw[W7];exact g.put [AObj.vars [AV.i x.lo,AV.i x.hi],AObj.arr 144 2 [encIv x]] _ rfl⟩ (by omega);rw[W7]at this;simpa using this
     ·have yx:=(Eh _).1 (zy y (by simp)).2;have y9:IntKind.i64.wrap (y.hi+1)=y.hi+1:=wrap_i64 _ (by omega) (by omega);have gA:=g.arr;rw[ws]at g gA z8 zx zb ⊢;have hlen:(ini++[y]).length=ini.length+1:=by simp
      rw[hlen]at zx ⊢;have ya:IntKind.i64.wrap (ini.length:Int)=ini.length:=wrap_i64 _ (by omega) (by omega);have hg:((ini++[y]).map encIv)[ini.length]? =some (encIv y):=by simp
      have zg:(ini.length:Int)<ini.length+1:=by omega
      have zm:=k1m (ini:=ini) (zb ini y rfl) yn;refine Qn tOk mixed [] (.val 0 (.val 1 (.val 2 (.val 3 (.val 4 (.val 5 (.val 6 (.val 7 (.val 8 (.val 9 (.val 10 (.val 11 (.val 12 (.val 13 (.done))))))))))))))) rfl (by kernel_rfl) ?_;simp[Qc gA,ya,hg,y9,zg];refine Qa rfl (fun h1=> ?_) (fun h1=> ?_)
      ·repeat first|(refine r_ ?_;simp[Qc gA,ya,hg,y9,zg,Qj gA,zw])|refine q_ ?_
       have zz:y.hi+1=x.lo:=by simpa using h1
       rw[if_pos zz]at zm;rw[zm]at z8;refine Qb (sl':=[(0,.sl o 1 0 st.length),(5,.vptr G.length 0),(6,.i k),(8,.sl p2 2 0 (ini.length+1)),(15,.sl o 1 0 st.length),(16,.i st.length),(17,.i c),(22,.sl (Q c) 1 0 T),(23,.i T),(24,.i k),(29,.sl z 2 0 s.length),(30,.i s.length),(31,.i (j+1:Nat))]) ?_ (by simp);have:=z8 p2 _ ⟨by omega,g.upd [AObj.vars [AV.i x.lo,AV.i x.hi]] _⟩ (by omega);simpa using this
      ·repeat first|(refine r_ ?_;simp)|refine q_ ?_
       refine Qf tOk rfl rfl Pp rfl G6 rfl (by decide) (by decide) rfl rfl rfl ?_;simp[Qc gA,Qj gA];refine⟨by simp[Ws,Qc gA,Qj gA]<;>omega,?_⟩;repeat first|(refine r_ ?_;simp[zw])|refine q_ ?_
       have zz:¬y.hi+1=x.lo:=by simpa using h1
       rw[if_neg zz]at zm;rw[zm]at z8;refine Qb (sl':=[(0,.sl o 1 0 st.length),(5,.vptr G.length 0),(6,.i k),(8,.sl (W.length+2) 2 0 (ini.length+2)),(15,.sl o 1 0 st.length),(16,.i st.length),(17,.i c),(22,.sl (Q c) 1 0 T),(23,.i T),(24,.i k),(29,.sl z 2 0 s.length),(30,.i s.length),(31,.i (j+1:Nat))]) ?_ (by simp);have:=z8 (W.length+2) _ ⟨by omega,g.put [AObj.vars [AV.i x.lo,AV.i x.hi],AObj.arr 144 2 [encIv x]] _ rfl⟩ (by omega);simpa using this
    ·have zh:j=s.length:=by simp at zv;omega
     subst zh;rw[zZ]at g ⊢;have zx:(Q0 [] s).length≤s.length:=yP (Ti _ _) (by simp);repeat first|(refine r_ ?_;simp)|refine q_ ?_
     refine Ek p2 g.arr ?_;simp;rw[zI (by simp)];have yy:=(Qi g.arr)
     have yz:=g.ge;have w1:∀j,j<E1.length→(W.set p2 .dead)[j]? =E1[j]? :=fun j hj=>by rw[zB (by omega)];exact g.keep j hj
     have w2:(W.set p2 .dead).length=W.length:=by simp
     generalize W.set p2 .dead=V at *;refine Qa rfl (fun zc=> ?_) (fun y0=> ?_)
     ·repeat first|(refine r_ ?_;simp)|refine q_ ?_
      exact d1o yj yl (by simp at zc;omega)
     ·have v1:=(w1 _ (Qi f1)).trans f1;have v2:=(w1 _ (Qi f6)).trans f6;have v0:∀j,j<G.length+1→j≠Q c→V[j]? =E[j]? :=fun j hj za=>(w1 j (by omega)).trans (f3 j hj za);repeat first|(refine r_ ?_;simp[v1,v2,y4,z6,yk])|refine q_ ?_
      refine Qb (sl':=[(0,.sl o 1 0 st.length),(5,.vptr G.length 0),(15,.sl o 1 0 st.length),(16,.i st.length),(17,.i c),(22,.sl (Q c) 1 0 T),(23,.i T),(24,.i (k+1:Nat))]) ?_ (by simp);refine zf _ ⟨by omega,by simp;omega,Qo v1 _,fun j hj za=> ?_,?_,fun t ht=> ?_⟩ (by omega)
      ·rw[zB (Ne.symm za),v0 j (by omega) za];exact ek j hj za
      ·rw[zB (by omega)];exact v2
      ·rcases zO.1 ht with ht|ht
       ·exact es t ht
       ·rw[zJ.1 ht];simp at y0;omega
  ·have zi:k=T:=by simp at zq;omega
   subst zi;rw[q1g (L c) hp.1]at eq;have x0:(Ro p).length=k:=by simp[Ro,hp.1]
   have eo:=(ek o (Qi go) (Ne.symm zk)).trans go;refine U8 (Q c) eq (v0k _) ?_;refine Pa (Q c) (Qo eq _) (o0:= .va 70 1 od) o (Qg zk eo _) (Ne.symm zk) rfl ?_;have y1:¬o=Q c:=Ne.symm zk;simp[AObj.fz,yg,y1];repeat first|(refine r_ ?_;simp[ye])|refine q_ ?_
   refine Qb (sl':=[(0,.sl o 1 0 st.length),(15,.sl o 1 0 st.length),(16,.i st.length),(17,.i (c+1:Nat))]) ?_ (by simp);have yo:=Qi eo;refine ih (c+1,_) ⟨by omega,by simp;omega,zH (by simpa using yo),fun j hj h1 h2=> ?_,fun P hP=> ?_⟩ (by omega)
   ·have h3:=h2 c (by omega);rw[zB (Ne.symm h1),zB (Ne.symm h3),ek j (by omega) h3];exact gk j hj h1 (fun c' zj=>h2 c' (by omega))
   ·rw[yi]at hP;rcases zO.1 hP with hP|hP
    ·exact gs P hP
    ·rw[zJ.1 hP];rw[zI (by omega)]at es;exact es
 ·have y2:c=st.length:=by simp at yd;omega
  subst y2;rw[w11]at go;rw[zI (by simp)]at gs;refine U8 o go (g0l _) ?_;refine Ek o (Qo go _) ?_;simp;rw[zI (by simp)];repeat first|(refine r_ ?_;simp)|refine q_ ?_
  exact k1e (by simpa using hn) gs
end Go.Abs
namespace Go.Abs
open Go Go.Proofs Go.Maps
attribute [simp] T79 T89
def stM(l:List Int):AObj:= .mp (l.map fun z=>(.i z,.bool true))
theorem Zp:Keyed Tryz.prog 3:=int_keyed (q:= .i64) (by kernel_rfl)
theorem f1h{z:Int}(h:0≤z∧z≤1000000):(Lit.int .i64 z).wf=true:=by
 have h1:IntKind.i64.min= -9223372036854775808:=by decide
 have h2:IntKind.i64.max=9223372036854775807:=by decide
 simp only[Lit.wf,h1,h2,Bool.and_eq_true,decide_eq_true_eq];omega
theorem I3{z:Int}(h:0≤z∧z≤1000000):isKey Tryz.prog 3 (.i z):=
 ⟨.int .i64 z,.int .i64 z,rfl,keyOf_int_mk (q:= .i64) (by kernel_rfl) (f1h h)⟩
section
variable {nt k:Nat} {S:AS} {ops:Array Oper} {o:Oper} {R:AS→Prop}
theorem Bi {wr:Bool} (hw:Q4 ops S o=some true) (hd:W4 nt o=true) {x ix:Operand} (ho:o.op= .lookup 79 x ix false) {id:Nat} (hx:rho S.sl x=some (.mref id)) {z:Int} (z1:rho S.sl ix=some (.i z))
  {l:List Int} (z6:S.hp[id]? =some (stM l)) (hl:∀m∈l,0≤m∧m≤1000000) (hn:0≤z∧z≤1000000) (hR:R (S.putD o.dst (.bool (decide (z∈l))))):Wm Tryz.prog nt k wr ops o S R:=by
 refine Dc tOk hw hd ho T79 rfl T4 Zp hx z1 z6 (I3 hn) (fun p hp=> ?_) (z:= .bool false) rfl (fun j p hp he=> ?_) (fun z7=> ?_)
 ·obtain⟨m,hm,rfl⟩:=zM.1 hp;exact I3 (hl m hm)
 ·rw[zQ]at hp;obtain⟨m,hm,rfl⟩:=zN.1 hp;have z8:m=z:=by simpa using he
  rw[decide_eq_true (by rw[←z8];exact zF hm)]at hR;exact hR
 ·rw[decide_eq_false (fun h=>z7 (.i z,.bool true) (zM.2 ⟨z,h,rfl⟩) rfl)]at hR;exact hR
theorem z0p (hw:Q4 ops S o=some true) (hd:W4 nt o=true) {x ix y:Operand} (ho:o.op= .mapUpdate 79 x ix y) {id:Nat} (hx:rho S.sl x=some (.mref id)) {z:Int} (z1:rho S.sl ix=some (.i z)) (hy:rho S.sl y=some (.bool true))
  {l:List Int} (z6:S.hp[id]? =some (stM l)) (hl:∀m∈l,0≤m∧m≤1000000) (hn:0≤z∧z≤1000000) (z7:z∉l) (hR:R (({ S with hp:=S.hp.set id (stM (l++[z])) }:AS).putD o.dst (.tup []))):Wm Tryz.prog nt k true ops o S R:=by
 refine R4 tOk hw hd ho T79 rfl Zp hx z1 hy (by simp[AV.pure]) z6 (I3 hn) (fun p hp=> ?_) (fun j p hp he=> ?_) (fun za=> ?_)
 ·obtain⟨m,hm,rfl⟩:=zM.1 hp;exact I3 (hl m hm)
 ·rw[zQ]at hp;obtain⟨m,hm,rfl⟩:=zN.1 hp;have z8:m=z:=by simpa using he
  exact absurd (by rw[←z8];exact zF hm) z7
 ·have:l.map (fun z=>(AV.i z,AV.bool true))++[(.i z,.bool true)]=(l++[z]).map fun z=>(.i z,.bool true):=by simp
  rw[this];exact hR
theorem y04 (hw:Q4 ops S o=some true) (hd:W4 nt o=true) {x ix y:Operand} (ho:o.op= .insert 79 x ix y) {id:Nat} (hx:rho S.sl x=some (.mref id)) {z:Int} (z1:rho S.sl ix=some (.i z)) (hy:rho S.sl y=some (.bool true))
  (z6:S.hp[id]? =some (.mp [])) (hn:0≤z∧z≤1000000) (hR:R (({ S with hp:=S.hp.set id (stM [z]) }:AS).putD o.dst (.tup []))):Wm Tryz.prog nt k true ops o S R:=by
 refine Dd tOk hw hd ho T79 rfl Zp hx z1 hy (by simp[AV.pure]) z6 (I3 hn) (fun p hp=>by cases hp) (fun j p hp he=>by cases hp) (fun z7=> ?_);exact hR
end
end Go.Abs
namespace Go.Abs
open Go Go.Proofs Go.Maps
theorem X6:Keyed Tryz.prog 9:=string_keyed (by kernel_rfl)
theorem Sl(s:List UInt8)(h:s.length≤1000000):isKey Tryz.prog 9 (.str s):=
 ⟨.string ⟨s.toArray⟩,.string s,rfl,by
  have:=Go.WideMaps.keyOf_string_mk (P:=Tryz.prog) (k:=9) (s:=⟨s.toArray⟩) (by kernel_rfl) (by show s.toArray.size≤maxLen;unfold maxLen;simp;omega);exact this⟩
def mpT(ks:List (List UInt8)):AObj:= .mp (ks.mapIdx fun c k=>(.str k,.i c))
section
variable {nt k:Nat} {S:AS} {ops:Array Oper} {o:Oper} {R:AS→Prop}
theorem d0p{ks:List (List UInt8)}(hl:∀m∈ks,m.length≤1000000):∀p∈ks.mapIdx (fun c k=>(AV.str k,AV.i (c:Nat))),isKey Tryz.prog 9 p.1:=fun p hp=>by obtain⟨i,h,rfl⟩:=tq.1 hp;exact Sl _ (hl _ (zG h))
theorem He {wr:Bool} (hw:Q4 ops S o=some true) (hd:W4 nt o=true) {x ix:Operand} (ho:o.op= .lookup 89 x ix true) {id:Nat} (hx:rho S.sl x=some (.mref id)) {n:List UInt8} (z1:rho S.sl ix=some (.str n))
  {ks:List (List UInt8)} (z6:S.hp[id]? =some (mpT ks)) (hl:∀m∈ks,m.length≤1000000) (hn:n.length≤1000000) (z7:∀j:Nat,ks[j]? =some n→R (S.putD o.dst (.tup [.i j,.bool true]))) (z8:n∉ks→R (S.putD o.dst (.tup [.i 0,.bool false]))):Wm Tryz.prog nt k wr ops o S R:=by
 refine Ji tOk hw hd ho T89 rfl T3 X6 hx z1 z6 (Sl n hn) (d0p hl) (z:= .i 0) rfl (fun j p hp he=> ?_) (fun za=> ?_)
 ·rw[uO]at hp;obtain⟨m,hm,rfl⟩:=zN.1 hp;have zb:m=n:=by simpa using he
  rw[zb]at hm;exact z7 j hm
 ·refine z8 fun h=> ?_;obtain⟨i,hi,rfl⟩:=yC h;exact za _ (tq.2 ⟨i,hi,rfl⟩) rfl
theorem Jw (hw:Q4 ops S o=some true) (hd:W4 nt o=true) {x ix y:Operand} (ho:o.op= .mapUpdate 89 x ix y) {id:Nat} (hx:rho S.sl x=some (.mref id)) {n:List UInt8} (z1:rho S.sl ix=some (.str n))
  {ks:List (List UInt8)} (hy:rho S.sl y=some (.i ks.length)) (z6:S.hp[id]? =some (mpT ks)) (hl:∀m∈ks,m.length≤1000000) (hn:n.length≤1000000) (z7:n∉ks) (hR:R (({ S with hp:=S.hp.set id (mpT (ks++[n])) }:AS).putD o.dst (.tup []))):Wm Tryz.prog nt k true ops o S R:=by
 refine R4 tOk hw hd ho T89 rfl X6 hx z1 hy (by simp[AV.pure]) z6 (Sl n hn) (d0p hl) (fun j p hp he=> ?_) (fun za=> ?_)
 ·rw[uO]at hp;obtain⟨m,hm,rfl⟩:=zN.1 hp;have z8:m=n:=by simpa using he
  exact absurd (by rw[←z8];exact zF hm) z7
 ·have:ks.mapIdx (fun c k=>(AV.str k,AV.i (c:Nat)))++[(.str n,.i ks.length)]=(ks++[n]).mapIdx (fun c k=>(AV.str k,AV.i (c:Nat))):=by simp
  rw[this];exact hR
end
theorem Pu:∀cs:List Int,(T1 cs).length=cs.length - 1
 |[]=>rfl
 |[_]=>rfl
 |a::b::r=>by rw[T1,yE,Pu (b::r)];simp
theorem q03:∀(cs:List Int) (k:Nat) (h:k+1<cs.length),(T1 cs)[k]? =some ⟨cs[k],cs[k+1] - 1⟩
 |[],k,h=>by simp at h
 |[_],k,h=>by simp at h
 |a::b::r,0,h=>rfl
 |a::b::r,k+1,h=>by
  have h':k+1<(b::r).length:=by simp at h ⊢;omega
  rw[T1,uz,q03 (b::r) k h'];rfl
theorem Cy{T i:Nat}{sg:List Bool}{x:Iv}:∀ {st:List (List Bool×Prd)} {j:Nat} {p:Prd},(st.map (·.1)).Nodup→st[j]? =some (sg,p)→Yc T i sg x st=st.set j (sg,Us p i x)
 |[],j,p,_,h=>by simp at h
 |(s,q)::r,0,p,hn,h=>by simp at h;obtain⟨rfl,rfl⟩:=h;rw[Yc,if_pos rfl];rfl
 |(s,q)::r,j+1,p,hn,h=>by rw[yO,List.nodup_cons]at hn;rw[uz]at h;rw[Yc,if_neg (fun e=>hn.1 (by subst e;exact zM.2 ⟨_,zF h,rfl⟩)),Cy hn.2 h];rfl
structure GB (T N n:Nat) (st:List (List Bool×Prd)):Prop where
 nd:(st.map (·.1)).Nodup
 le:st.length≤n
 len:∀g∈st,g.2.length=T
 sz:∀g∈st,∀s∈g.2,s.length≤n
 kl:∀g∈st,g.1.length=N
theorem v0r{T n:Nat}{p:Prd}(hp:p.length=T)(h:∀s∈p,s.length≤n)(i:Nat)(x:Iv):(Us p i x).length=T∧∀s∈Us p i x,s.length≤n+1:=by
 refine⟨by simp[Us,hp],fun s hs=> ?_⟩;rcases List.mem_or_eq_of_mem_set hs with hs|rfl
 ·have:=h s hs;omega
 ·rw[zW];by_cases hi:i<p.length
  ·rw[Wv hi];have:=h _ (zG hi);simp;omega
  ·simp[yQ,hi]
theorem GB.put{T N n:Nat}{st:List (List Bool×Prd)}(h:GB T N n st){sg:List Bool}(hs:sg.length=N)(i:Nat)(x:Iv):GB T N (n+1) (Yc T i sg x st):=by
 by_cases hm:∃g∈st,g.1=sg
 ·obtain⟨a,p,b,h1,h2,h3⟩:=Sp (T:=T) (i:=i) (x:=x) hm;rw[h3];subst h1;have hp:=v0r (h.len (sg,p) (by simp)) (h.sz (sg,p) (by simp)) i x;have z1:∀g∈a++(sg,Us p i x)::b,g=(sg,Us p i x)∨g∈a++(sg,p)::b:=fun g hg=>by
   rcases zO.1 hg with hg|hg
   ·exact .inr (xC _ hg)
   ·rcases List.mem_cons.1 hg with rfl|hg
    ·exact .inl rfl
    ·exact .inr (List.mem_append_right _ (List.mem_cons_of_mem _ hg))
  refine⟨by simpa using h.nd,by have:=h.le;simp at this ⊢;omega,fun g hg=> ?_,fun g hg s z6=> ?_,fun g hg=> ?_⟩
  ·rcases z1 g hg with rfl|hg
   ·exact hp.1
   ·exact h.len g hg
  ·rcases z1 g hg with rfl|hg
   ·exact hp.2 s z6
   ·have:=h.sz g hg s z6;omega
  ·rcases z1 g hg with rfl|hg
   ·exact hs
   ·exact h.kl g hg
 ·have z7:∀g∈st,g.1≠sg:=fun g hg e=>hm ⟨g,hg,e⟩;rw[Ou z7];have hp:=v0r (T:=T) (p:=zT T []) (n:=n) (by simp) (fun s z6=>by rw[(u7.1 z6).2];simp) i x;have z1:∀g∈st++[(sg,Us (zT T []) i x)],g=(sg,Us (zT T []) i x)∨g∈st:=fun g hg=>by
   rcases zO.1 hg with hg|hg
   ·exact .inr hg
   ·exact .inl (zJ.1 hg)
  refine⟨?_,by have:=h.le;simp;omega,fun g hg=> ?_,fun g hg s z6=> ?_,fun g hg=> ?_⟩
  ·rw[yG,List.nodup_append];refine⟨h.nd,by simp,fun a ha b hb e=> ?_⟩;obtain⟨g,hg,rfl⟩:=zM.1 ha;simp at hb;exact z7 g hg (e.trans hb)
  ·rcases z1 g hg with rfl|hg
   ·exact hp.1
   ·exact h.len g hg
  ·rcases z1 g hg with rfl|hg
   ·exact hp.2 s z6
   ·have:=h.sz g hg s z6;omega
  ·rcases z1 g hg with rfl|hg
   ·exact hs
   ·exact h.kl g hg
end Go.Abs
namespace Go.Abs
open Go Go.Proofs Go.Maps
def ksG(st:List (List Bool×Prd)):List (List UInt8):=st.map fun g=>sgB g.1
def prG(st:List (List Bool×Prd)):List Prd:=st.map (·.2)
def T0(T:Nat)(l:List Prd)(A:List (Nat×Iv)):List (List Bool×Prd):=A.foldl (fun st a=>Yc T a.1 (U3 l a.1 a.2.lo) a.2 st) []
theorem J6(T:Nat)(l:List Prd)(A:List (Nat×Iv))(a:Nat×Iv):T0 T l (A++[a])=Yc T a.1 (U3 l a.1 a.2.lo) a.2 (T0 T l A):=by unfold T0;rw[x_];rfl
theorem G5(T:Nat)(l:List Prd)(A:List (Nat×Iv)):GB T l.length A.length (T0 T l A):=by
 suffices h:∀n,∀A:List (Nat×Iv),A.length=n→GB T l.length n (T0 T l A) from h _ A rfl
 intro n;induction n with
 |zero=>intro A hA;have:=List.eq_nil_of_length_eq_zero hA;subst this;exact⟨by simp[T0],by simp[T0],fun g hg=>by simp[T0]at hg,fun g hg=>by simp[T0]at hg,fun g hg=>by simp[T0]at hg⟩
 |succ n ih=>
  intro A hA;rcases wp A with rfl|⟨B,a,rfl⟩
  ·simp at hA
  ·rw[ws]at hA ⊢;rw[J6];exact(ih B (by simp at hA;omega)).put (by simp[U3]) _ _
def Tx(l:List Prd)(i:Nat):List (Nat×Iv):=(yA i).flatMap fun i=>(T1 (Q9 l i)).map fun x=>(i,x)
def U0(l:List Prd)(i k:Nat):List (Nat×Iv):=Tx l i++((T1 (Q9 l i)).take k).map fun x=>(i,x)
theorem Sn(l:List Prd)(i:Nat):U0 l i 0=Tx l i:=by simp[U0]
theorem g0u(l:List Prd)(i:Nat):U0 l i (T1 (Q9 l i)).length=Tx l (i+1):=by simp[U0,Tx,wT,zZ]
theorem z0y(l:List Prd)(i k:Nat)(h:k+1<(Q9 l i).length):U0 l i (k+1)=U0 l i k++[(i,(⟨(Q9 l i)[k],(Q9 l i)[k+1] - 1⟩:Iv))]:=by have h1:=q03 (Q9 l i) k h;obtain⟨h2,h3⟩:=zA.1 h1;rw[U0,U0,zL h2,h3,yG,xT];rfl
theorem N5{T:Nat}{l:List Prd}(hl:∀p∈l,PCk T p)(hn:l.length≤256)(i:Nat):(Q9 l i).length≤131074:=by rw[←L6];have h1:=Ut (R7 (H7 (Q6 l i)));have h2:=Fh (Q6 l i);rw[Ig,h2]at h1;have:=P0 hl i;omega
end Go.Abs
namespace Go.Abs
open Go Go.Proofs Go.Maps
theorem GInv.iv{T:Nat}{sig:Nat→Int→List Bool}{st:List (List Bool×Prd)}(h:GInv T sig (fun t n=>t<T∧inR n) st){g:List Bool×Prd}(hg:g∈st){s:List Iv}(hs:s∈g.2):ascS s∧∀x∈s,O6 x:=by have ha:=h.asc g hg s hs;refine⟨ha,fun x hx=> ?_⟩;obtain⟨t,ht,rfl⟩:=yC hs;have h1:=((h.mem g hg t x.lo).1 ⟨_,zD ht,x,hx,yJ _,ha.1 x hx⟩).1.2;have h2:=((h.mem g hg t x.hi).1 ⟨_,zD ht,x,hx,ha.1 x hx,yJ _⟩).1.2;unfold inR at h1 h2;exact⟨(Eh _).2 h1,(Eh _).2 h2⟩
theorem Gi{T:Nat}{l:List Prd}(hl:∀p∈l,PCk T p)(hn:l.length≤256):∀i,(Tx l i).length≤i * 131073
 |0=>by simp[Tx]
 |i+1=>by have:=Gi hl hn i;have h2:=N5 hl hn i;have h3:=Pu (Q9 l i);rw[Tx,wT,wZ,zW];have h4:((yA i).flatMap fun i=>(T1 (Q9 l i)).map fun x=>(i,x)).length=(Tx l i).length:=rfl;rw[h4];simp only[t7,tj,xV,zV];omega
theorem j09{T:Nat}{l:List Prd}(hl:∀p∈l,PCk T p)(hn:l.length≤256){i k:Nat}(hi:i<16):(U0 l i k).length≤2097168:=by have:=Gi hl hn i;have h2:=N5 hl hn i;have h3:=Pu (Q9 l i);rw[U0,zW,zV,xB];omega
theorem z1v(l:List Prd)(i:Nat)(n:Int):(U3 l i n).length=l.length:=by simp[U3]
theorem f0q(T:Nat)(l:List Prd):T0 T l (Tx l T)=Ii T l:=rfl
theorem S7(l:List Prd):Tx l 0=[]:=rfl
theorem Gm(T:Nat)(l:List Prd):T0 T l []=[]:=rfl
theorem Ez(ks:List (List UInt8)):mpT ks= .mp (ks.mapIdx fun c k=>(.str k,.i c)):=rfl
theorem z1q{T:Nat}{l:List Prd}(hl:∀p∈l,PCk T p)(i:Nat):∀z∈Q9 l i,-1099511627776≤z∧z≤1099511627777:=(T7 hl i).2.2.2.1
attribute [local irreducible] u0h Z7 Q9 U3 T0 Tx U0 mpT
theorem B0(T:Int)(l:List Prd):PC Tryz.prog 105 [.i T,LP l] (fun r=>r= .tup [LP (Rs T l).2,.i (Rs T l).1]):=by
 refine Qh tOk Tryz.func105 rfl Tryz.results105 rfl (by simp[Tryz.ntmps105]) ?_;rw[Tryz.ntmps105];simp only[Qe];repeat first|(refine r_ ?_;simp)|refine q_ ?_
 refine Qa rfl (fun hc=> ?_) (fun hc=> ?_)
 ·have yf:T<1∨16<T:=by simpa using hc
  have hm:Rs T l=(2,[]):=by rw[Rs,if_pos yf]
  rw[hm];repeat first|(refine r_ ?_;simp)|refine q_ ?_
 have yf:¬(T<1∨16<T):=by simpa using hc
 have xm:¬T<1:=fun h=>yf (.inl h);have xn:¬16<T:=fun h=>yf (.inr h);repeat first|(refine r_ ?_;simp)|refine q_ ?_
 refine Qa rfl (fun h=> ?_) (fun h=> ?_)
 ·have hm:Rs T l=(5,[]):=by rw[Rs,if_neg (by omega),if_pos (by simp at h;omega)]
  rw[hm];repeat first|(refine r_ ?_;simp)|refine q_ ?_
 have hn:l.length≤256:=by simp at h;omega
 repeat first|(refine r_ ?_;simp)|refine q_ ?_
 refine Qs l.length (fun j=>Tf T l=Tf T (l.drop j)) (fun j=>[(0,.i T),(1,LP l),(28,LP l),(29,.i l.length),(30,.i j)]) (fun _=>[]) rfl (by simp) (by simp) (by simp) (by simp) (by simp) ?_;intro j hj hI ih;repeat first|(refine r_ ?_;simp)|refine q_ ?_
 refine Qa rfl (fun yg=> ?_) (fun yh=> ?_)
 ·have z1:j<l.length:=by simpa using yg
  have hw:IntKind.i64.wrap ((j:Int)+1)=j+1:=wrap_i64 _ (by omega) (by omega);rw[Wu z1,Tf]at hI;repeat first|(refine r_ ?_;simp[z1])|refine q_ ?_
  refine Qd rfl rfl (by simp) (Hq T l[j]) rfl ?_;rintro _ rfl;simp;repeat first|(refine r_ ?_;simp)|refine q_ ?_
  refine Qa rfl (fun h3=> ?_) (fun h3=> ?_)
  ·repeat first|(refine r_ ?_;simp)|refine q_ ?_
   rw[if_pos (by simpa using h3)]at hI;have hm:Rs T l=(Em T l[j],[]):=by rw[Rs,if_neg (by omega),if_neg (by omega),hI,if_pos (by simpa using h3)]
   rw[hm];exact⟨rfl,rfl⟩
  ·rw[if_neg (by simpa using h3)]at hI;repeat first|(refine r_ ?_;simp[hw])|refine q_ ?_
   refine Qr _ (ih z1 hI) rfl (by simp) ?_ (by simp) (by simp);simp
 ·have zr:j=l.length:=by simp at yh;omega
  subst zr;rw[yU]at hI;obtain⟨N,hN⟩:∃N:Nat,T=N:=⟨T.toNat,by omega⟩
  subst hN;have zp:∀p∈l,PCk N p:=fun p hp=>by simpa using((W9 (N:Int) p).1 ((Ya l).1 hI p hp)).2
  have hm:Rs N l=if P6 (Ea N l)then(5,[])else(0,Ea N l):=by rw[Rs,if_neg (by omega),if_neg (by omega),hI,if_neg (by simp[Tf])];simp
  repeat first|(refine r_ ?_;simp)|refine q_ ?_
  refine E8 rfl rfl rfl ?_;simp;repeat first|(refine r_ ?_;simp)|refine q_ ?_
  refine Q5 9 70 1 rfl ?_;simp;refine Ze 1 rfl ?_;simp;have hst:=Rows.start0 N 1 [.mp [],AObj.va 70 1 []] rfl (fun j=>if j=0 then(0,1)else(0,0)) rfl;refine Ql (Qb (sl':=[(0,.i N),(1,LP l),(9,.sl 1 1 0 (T0 N l (Tx l 0)).length),(10,.mref 0),(42,.i N),(43,.i (0:Nat))]) ?_ (by simp[S7,Gm]));refine Qm (F:=fun(u:Nat×Nat×(Nat→Nat)×(Nat→Nat→Nat)×(Nat→Nat×Nat)×List AObj)=>⟨[(0,.i N),(1,LP l),(9,.sl u.2.1 1 0 (T0 N l (Tx l u.1)).length),(10,.mref 0),(42,.i N),(43,.i u.1)],u.2.2.2.2.2⟩)
   (fun u=>u.1≤N∧Rows [] N u.2.1 (prG (T0 N l (Tx l u.1))) u.2.2.1 u.2.2.2.1 u.2.2.2.2.1 u.2.2.2.2.2∧u.2.2.2.2.2[0]? =some (mpT (ksG (T0 N l (Tx l u.1))))∧u.2.2.2.2.1 0=(0,1)) (fun u=>N - u.1) ?_ (0,1,fun _=>0,fun _ _=>0,fun j=>if j=0 then(0,1)else(0,0),[.mp [],AObj.va 70 1 []]) ⟨by simp,by rw[S7,Gm];exact hst,by rw[S7,Gm,ksG,Ez];rfl,rfl⟩
  rintro⟨i,o,Q,L,tag,G⟩ ⟨hi,hR,za,zb⟩ ih;simp only at hi hR za zb ih ⊢;repeat first|(refine r_ ?_;simp)|refine q_ ?_
  refine Qa rfl (fun yg=> ?_) (fun yh=> ?_)
  ·have z1:i<N:=by simpa using yg
   have hw:IntKind.i64.wrap ((i:Int)+1)=i+1:=wrap_i64 _ (by omega) (by omega);repeat first|(refine r_ ?_;simp)|refine q_ ?_
   refine Qd rfl rfl (by simp) (u1g N l i z1 (by omega) zp hn) rfl ?_;rintro _ rfl;simp;repeat first|(refine r_ ?_;simp)|refine q_ ?_
   have zg:=N5 zp hn i;have zt:0<(Q9 l i).length:=by have h1:=(T7 zp i).2.1;exact List.length_pos_of_mem h1
   refine Ql (Qb (sl':=[(0,.i N),(1,LP l),(9,.sl o 1 0 (T0 N l (U0 l i 0)).length),(10,.mref 0),(11,.i i),(12,LI (Q9 l i)),(13,.i (0:Nat)),(42,.i N),(43,.i i)]) ?_ (by simp[Sn]));refine Qm (F:=fun(u:Nat×Nat×(Nat→Nat)×(Nat→Nat→Nat)×(Nat→Nat×Nat)×List AObj)=>⟨[(0,.i N),(1,LP l),(9,.sl u.2.1 1 0 (T0 N l (U0 l i u.1)).length),(10,.mref 0),(11,.i i),(12,LI (Q9 l i)),(13,.i u.1),(42,.i N),(43,.i i)],u.2.2.2.2.2⟩)
    (fun u=>u.1<(Q9 l i).length∧Rows [] N u.2.1 (prG (T0 N l (U0 l i u.1))) u.2.2.1 u.2.2.2.1 u.2.2.2.2.1 u.2.2.2.2.2∧u.2.2.2.2.2[0]? =some (mpT (ksG (T0 N l (U0 l i u.1))))∧u.2.2.2.2.1 0=(0,1)) (fun u=>(Q9 l i).length - u.1) ?_ (0,o,Q,L,tag,G) ⟨zt,by rw[Sn];exact hR,by rw[Sn];exact za,zb⟩
   clear hR za zb;clear o Q L tag G;rintro⟨k,o,Q,L,tag,G⟩ ⟨hk,hR,za,zb⟩ ih2;simp only at hk hR za zb ih2 ⊢;have y2:IntKind.i64.wrap ((k:Int)+1)=k+1:=wrap_i64 _ (by omega) (by omega);repeat first|(refine r_ ?_;simp[y2])|refine q_ ?_
   refine Qa rfl (fun yi=> ?_) (fun yj=> ?_)
   ·have z8:k+1<(Q9 l i).length:=by simp at yi;omega
    have zu:k<(Q9 l i).length:=hk;have y3:=z0y l i k z8;have y4:=G5 N l (U0 l i k);have y5:=j09 (k:=k) zp hn (by omega:i<16);have yz:=fun x=>J6 N l (U0 l i k) x;have zh:=fun o' Q' L' yk G'=>ih2 (k+1,o',Q',L',yk,G');simp only[y3,yz]at zh;clear y3 yz;have xa:∀z∈Q9 l i,-1099511627776≤z∧z≤1099511627777:=z1q zp i;have xo:=xa _ (zG z8);generalize T0 N l (U0 l i k)=st at *
    repeat first|(refine r_ ?_;simp[zu])|refine q_ ?_
    refine Qd rfl rfl (by simp) (Xw N l i (Q9 l i)[k] z1 (by omega) zp hn) rfl ?_;rintro _ rfl;simp;repeat first|(refine r_ ?_;simp)|refine q_ ?_
    have xp:(U3 l i (Q9 l i)[k]).length=l.length:=by rw[z1v]
    have x0:IntKind.i64.wrap ((Q9 l i)[k+1] - 1)=(Q9 l i)[k+1] - 1:=wrap_i64 _ (by omega) (by omega);generalize xq:U3 l i (Q9 l i)[k]=sg at *
    have x1:∀m∈ksG st,m.length≤1000000:=fun m hm=>by obtain⟨g,hg,rfl⟩:=zM.1 hm;rw[Lr,y4.kl g hg];omega
    refine He (n:=sgB sg) rfl rfl rfl rfl rfl za x1 (by rw[Lr];omega) (fun c hc=> ?_) (fun x2=> ?_)
    ·obtain⟨p,hp⟩:∃p,st[c]? =some (sg,p):=by rw[ksG,zQ]at hc;obtain⟨g,hg,he⟩:=zN.1 hc;have:=v06 he;exact⟨g.2,by rw[hg,←this]⟩
     simp;repeat first|(refine r_ ?_;simp)|refine q_ ?_
     refine Qq rfl ?_;simp;repeat first|(refine r_ ?_;simp)|refine q_ ?_
     have xb:=Cy (T:=N) (i:=i) (x:=⟨(Q9 l i)[k],(Q9 l i)[k+1] - 1⟩) y4.nd hp;rw[xb]at zh;have zg:=Yi hp;have y5:p.length=N:=y4.len _ (zF hp);have yl:∀s∈p,s.length≤2097168:=fun s hs=>by have:=y4.sz _ (zF hp) s hs;omega
     have zm:(prG st)[c]? =some p:=by rw[prG,zQ,hp];rfl
     have zi:prG (st.set c (sg,Us p i ⟨(Q9 l i)[k],(Q9 l i)[k+1] - 1⟩))=(prG st).set c (Us p i ⟨(Q9 l i)[k],(Q9 l i)[k+1] - 1⟩):=by rw[prG,u_];rfl
     have zj:ksG (st.set c (sg,Us p i ⟨(Q9 l i)[k],(Q9 l i)[k+1] - 1⟩))=ksG st:=by
      rw[ksG,u_];refine xD fun j=> ?_;by_cases e:c=j
      ·subst e;rw[zH (by simpa using zg)];exact hc.symm
      ·rw[zB e];rfl
     have zc:(st.set c (sg,Us p i ⟨(Q9 l i)[k],(Q9 l i)[k+1] - 1⟩)).length=st.length:=by simp
     generalize st.set c (sg,Us p i ⟨(Q9 l i)[k],(Q9 l i)[k+1] - 1⟩)=st' at *;refine Q1 (sl':=[(0,.i N),(1,LP l),(9,.sl o 1 0 st.length),(10,.mref 0),(11,.i i),(12,LI (Q9 l i)),(13,.i k),(15,.i c),(42,.i N),(43,.i i)]) ?_ (by simp)
     have z6:(prG st).length=st.length:=by simp[prG]
     generalize st.length=n at *;generalize ksG st=ks at *;generalize prG st=pr at *
     have z7:=hR.row c p zm;have zd:=hR.out;rw[z6]at zd;have zv:c<pr.length:=by omega
     have zw:=Qi za;have xc:=Qi z7;have zx:=Qi zd;have zn:=hR.tQ c zv;have zk:=hR.to;have ym:Q c≠o:=fun e=>by rw[←e,zn]at zk;simp at zk
     have y6:Q c≠0:=fun e=>by rw[e,zb]at zn;simp at zn
     have yn:o≠0:=fun e=>by rw[e,zb]at zk;simp at zk
     have y7:=fun hn=>hR.leaf c p i zm z1 hn;have y8:=fun hn=>hR.tL c p i zm z1 hn;have zo:=Ot (L c) N p;have zf:=Pz (L c) p z1;have zl:=w0b Q N zg;have zy:=Lg Q N n;have y9:i<p.length:=by omega
     have yo:(p.getD i []).length≤2097168:=by rw[Wv y9];exact yl _ (zG y9)
     obtain⟨s,hs⟩:∃s,p.getD i []=s:=⟨_,rfl⟩
     rw[hs]at zf yo y7 y8;obtain⟨row,ya⟩:∃row,u0h (L c) N p=row:=⟨_,rfl⟩
     rw[ya]at z7 zo zf;refine Bl (fun E1=>∃z,E1[Q c]? =some (.va 145 1 (row.set i (.sl z 2 0 s.length)))∧E1[z]? =some (.arr 144 2 (s.map encIv))∧(∀j,j<G.length→j≠Q c→E1[j]? =G[j]?)∧G.length≤E1.length∧(tag z=(c+1,i+1)∨G.length≤z)) (fun hm=> ?_) ?_
     ·by_cases hs0:s=[]
      ·rw[D0,if_pos hs0]at zf;refine P9 (Q c) i 144 2 z7 zf ?_;refine hm _ ⟨G.length,by rw[hs0];exact Qo (Qc z7 _) _,?_,fun j hj zt=> ?_,by simp,.inr (zK _)⟩
       ·rw[zB (by omega),hs0];simp
       ·rw[zB (Ne.symm zt),zE hj]
      ·rw[D0,if_neg hs0]at zf;have zz:row.set i (.sl (L c i) 2 0 s.length)=row:=q06 zf;exact hm G ⟨L c i,by rw[zz];exact z7,y7 hs0,fun _ _ _=>rfl,zK _,.inl (y8 hs0)⟩
     ·rintro E1 ⟨z,f1,f2,f3,f4,f5⟩;have yp:z≠Q c:=fun e=>by
       rcases f5 with h|h
       ·rw[e,zn]at h;simp at h
       ·omega
      have yq:z≠o:=fun e=>by
       rcases f5 with h|h
       ·rw[e,zk]at h;simp at h
       ·omega
      have yr:z≠0:=fun e=>by
       rcases f5 with h|h
       ·rw[e,zb]at h;simp at h
       ·omega
      have g1:=(f3 o zx (Ne.symm ym)).trans zd;have g0:=(f3 0 zw (Ne.symm y6)).trans za;have ze:∀hh,(Z7 Q N n)[c]'hh= .agg [.sl (Q c) 1 0 N]:=fun hh=>by rw[zD hh]at zl;exact Option.some.inj zl
      have yt:∀hh,(row.set i (.sl z 2 0 s.length))[i]'hh= .sl z 2 0 s.length:=fun hh=>by simp
      have d1:∀M,(E1.set z .dead++M)[Q c]? =some (.va 145 1 (row.set i (.sl z 2 0 s.length))):=fun M=>Qc (Qg yp f1 _) M;have y0:∀M,M=(E1.set z .dead++[AObj.arr 144 2 [encIv ⟨(Q9 l i)[k],(Q9 l i)[k+1] - 1⟩],.arr 144 2 (s.map encIv++[encIv ⟨(Q9 l i)[k],(Q9 l i)[k+1] - 1⟩])]).set (Q c) (.va 145 1 (row.set i (.sl (E1.length+1) 2 0 (s.length+1))))→
        Rows [] N o (prG st') Q (fun c' k'=>if c'=c∧k'=i then E1.length+1 else L c' k') (fun j=>if j=E1.length+1 then(c+1,i+1)else tag j) M∧M[0]? =some (mpT (ksG st'))∧(if 0=E1.length+1 then(c+1,i+1)else tag 0)=(0,1):=fun M hM=>by
       rw[zi,zj];have xd:=Qi g0;have xe:=Qi f1;refine⟨hR.put zm y5 z1 (by omega) ?_ ?_ (fun j hj h1 h2=> ?_),?_,by rw[if_neg (by omega)];exact zb⟩
       ·rw[hM,ya,hs];exact zH (by simp;omega)
       ·rw[hM,hs,zB (by omega),zC (by simp)];simp
       ·have yu:z≠j:=fun e=>by
         rcases f5 with h|h
         ·rw[e]at h;exact h2 h
         ·omega
        rw[hM,zB (Ne.symm h1),zE (by simp;omega),zB yu];exact f3 j hj h1
       ·rw[hM,zB y6,zE (by simp;omega),zB yr];exact g0
      have yv:(0:Int)≤(k:Int)+1:=by omega
      have yw:(k:Int)+1<(Q9 l i).length:=by omega
      have dI:∀M,(E1++M)[z]? =some (.arr 144 2 (s.map encIv)):=fun M=>Qc f2 M;have d2:∀M,(E1++M)[Q c]? =some (.va 145 1 (row.set i (.sl z 2 0 s.length))):=fun M=>Qc f1 M;have yb:∀M hh,(E1.set z .dead++M)[Q c]'hh= .va 145 1 (row.set i (.sl z 2 0 s.length)):=fun M hh=>by have:=d1 M;rw[zD hh]at this;exact Option.some.inj this
      have d3:∀M,(E1.set z .dead++M)[o]? =some (.va 70 1 (Z7 Q N n)):=fun M=>Qc (Qg yq g1 _) M;have d4:∀M,(E1++M)[o]? =some (.va 70 1 (Z7 Q N n)):=fun M=>Qc g1 M;refine Qn tOk mixed [26,28] (.val 0 (.val 1 (.val 2 (.val 3 (.val 5 (.val 6 (.val 7 (.val 8 (.val 9 (.val 10 (.val 11 (.val 12 (.val 13 (.val 14 (.val 15 (.val 16 (.val 17 (.val 18 (.val 19 (.val 20 (.val 21 (.val 22 (.val 23 (.val 24 (.two 4 (.one 25 (.one 26 (.val 27 (.one 28 (.done))))) 25 (.two 4 (.one 26 (.val 27 (.one 28 (.done)))) 26 (.val 4 (.val 27 (.one 28 (.done)))))))))))))))))))))))))))))) rfl (by kernel_rfl) ?_;simp[g1,zl,ze,zy,zg,f1,yt,zo,z1,zu,z8,y2,x0,yv,yw,d4];refine⟨?_,?_⟩;all_goals
       refine Qf tOk rfl rfl Pp rfl G6 rfl (by decide) (by decide) rfl rfl rfl ?_;simp[dI,Qj f2,d1,yb,d2,d3,d4,z1,zo,zl,ze,zy,zg];refine⟨by simp[Ws,dI,Qj f2,d1,yb,d2,d3,d4,z1,zo,zl,ze,zy,zg]<;>omega,?_⟩;repeat first|(refine r_ ?_;simp[y2])|refine q_ ?_
       refine Qb (sl':=[(0,.i N),(1,LP l),(9,.sl o 1 0 n),(10,.mref 0),(11,.i i),(12,LI (Q9 l i)),(13,.i (k+1:Nat)),(42,.i N),(43,.i i)]) ?_ (by simp);obtain⟨q1,q2,q3⟩:=y0 _ rfl;rw[←zc];have:=zh o Q _ _ _ ⟨z8,q1,q2,q3⟩ (by omega);simpa[zc]using this
    ·simp;repeat first|(refine r_ ?_;simp)|refine q_ ?_
     refine Qq rfl ?_;simp;repeat first|(refine r_ ?_;simp)|refine q_ ?_
     have xf:(ksG st).length=st.length:=by simp[ksG]
     have z6:(prG st).length=st.length:=by simp[prG]
     refine Jw (n:=sgB sg) rfl rfl rfl rfl rfl (ks:=ksG st) (by rw[xf];rfl) za x1 (by rw[Lr];omega) x2 ?_;simp;repeat first|(refine r_ ?_;simp)|refine q_ ?_
     refine Ef tOk rfl rfl rfl T68 rfl Pp rfl rfl rfl (n:=N) (by simp;omega) (by unfold maxLen;omega) .nils rfl ?_;simp;have x3:(0:Nat)≠o:=fun e=>by subst e;rw[hR.out]at za;rw[Ez]at za;simp at za
     have yx:=Qg x3 hR.out (mpT (ksG st++[sgB sg]));have xg:=Qo za (mpT (ksG st++[sgB sg]));have xh:∀j,j≠0→(G.set 0 (mpT (ksG st++[sgB sg])))[j]? =G[j]? :=fun j hj=>zB (Ne.symm hj);have xi:(G.set 0 (mpT (ksG st++[sgB sg]))).length=G.length:=by simp
     have yc:=Lg Q N st.length;rw[←xi];generalize G.set 0 (mpT (ksG st++[sgB sg]))=G1 at *
     have hle:=y4.le;refine Jg tOk rfl rfl T87 rfl T70 rfl (by decide) (by decide) rfl rfl rfl ?_;simp[Ol,Zu,Qc yx,yc,z6];refine⟨by simp[Ws,yc,z6]<;>omega,?_⟩;repeat first|(refine r_ ?_;simp)|refine q_ ?_
     refine Ze (e:=145) (c:=1) (xs:=zT N .nils) G1.length (by rw[zE (by simp),zB (by have:=Qi yx;omega)];simp) ?_;have xj:=Qi yx;have zt:∀g∈st,g.1≠sg:=fun g hg e=>x2 (zM.2 ⟨g,hg,by rw[e]⟩);rw[Ou zt]at zh;have x4:Rows [] N o (prG st) Q L tag G1:=hR.other (fun j hj ht=>xh j (fun e=>by subst e;exact ht zb)) (by omega);refine Eo fun Z hZ=> ?_;have y1:=x4.new (H':=Z) (q:=G1.length) (o':=G1.length+2) (zK _) (by omega) (by omega) (by rw[hZ];exact zH (by simp;omega)) (by rw[hZ,z6,zB (by omega),zC (by simp)];simp) (fun j hj xk=>by rw[hZ,zB (by omega),zE (by simp;omega),zB (Ne.symm xk),zE hj]);have x5:Z[0]? =some (mpT (ksG st++[sgB sg])):=by rw[hZ,zB (by omega),zE (by simp),zB (Ne.symm x3),zE (by omega)];exact xg
     clear hZ;have x6:(fun j=>if j=G1.length then(st.length+1,0)else if j=G1.length+2 then(0,0)else tag j) 0=((0,1):Nat×Nat):=by
      show(if 0=G1.length then(st.length+1,0)else if 0=G1.length+2 then(0,0)else tag 0)=((0,1):Nat×Nat)
      rw[if_neg (by omega),if_neg (by omega)];exact zb
     rw[z6]at y1;clear hR za zb x4;have zg:st.length<st.length+1:=by omega
     have zm:(prG st++[zT N []])[st.length]? =some (zT N ([]:List Iv)):=by rw[←z6];simp
     have zq:(prG st++[zT N []]).length=st.length+1:=by simp[z6]
     have yd:(zT N ([]:List Iv)).length=N:=by simp
     have yl:∀s∈zT N ([]:List Iv),s.length≤2097168:=fun s hs=>by rw[(u7.1 hs).2];simp
     have zi:prG (st++[(sg,Us (zT N []) i ⟨(Q9 l i)[k],(Q9 l i)[k+1] - 1⟩)])=(prG st++[zT N []]).set st.length (Us (zT N []) i ⟨(Q9 l i)[k],(Q9 l i)[k+1] - 1⟩):=by rw[List.set_append_right _ _ (by omega),z6,Nat.sub_self,prG,yG];rfl
     have zj:ksG (st++[(sg,Us (zT N []) i ⟨(Q9 l i)[k],(Q9 l i)[k+1] - 1⟩)])=ksG st++[sgB sg]:=by simp[ksG]
     have zc:(st++[(sg,Us (zT N []) i ⟨(Q9 l i)[k],(Q9 l i)[k+1] - 1⟩)]).length=st.length+1:=by simp
     generalize st++[(sg,Us (zT N []) i ⟨(Q9 l i)[k],(Q9 l i)[k+1] - 1⟩)]=st' at *;refine Q1 (sl':=[(0,.i N),(1,LP l),(9,.sl (G1.length+2) 1 0 (st.length+1)),(10,.mref 0),(11,.i i),(12,LI (Q9 l i)),(13,.i k),(15,.i st.length),(42,.i N),(43,.i i)]) ?_ (by simp)
     generalize prG st++[zT N []]=pr at *;generalize zT N ([]:List Iv)=p at *;generalize ksG st++[sgB sg]=ks at *;generalize (fun c=>if c=st.length then G1.length else Q c)=Q at *
     generalize (fun j=>if j=G1.length then(st.length+1,0)else if j=G1.length+2 then(0,0)else tag j)=tag at *
     generalize st.length+1=n at *;generalize st.length=c at *;generalize G1.length+2=o at *
     have hR:=y1;have za:=x5;have z6:=zq;have y5:=yd;have zb:=x6;clear y1 x5 zq yd x6;generalize xr:Z=G at *
     have z7:=hR.row c p zm;have zd:=hR.out;rw[z6]at zd;have zv:c<pr.length:=by omega
     have zw:=Qi za;have xc:=Qi z7;have zx:=Qi zd;have zn:=hR.tQ c zv;have zk:=hR.to;have ym:Q c≠o:=fun e=>by rw[←e,zn]at zk;simp at zk
     have y6:Q c≠0:=fun e=>by rw[e,zb]at zn;simp at zn
     have yn:o≠0:=fun e=>by rw[e,zb]at zk;simp at zk
     have y7:=fun hn=>hR.leaf c p i zm z1 hn;have y8:=fun hn=>hR.tL c p i zm z1 hn;have zo:=Ot (L c) N p;have zf:=Pz (L c) p z1;have zl:=w0b Q N zg;have zy:=Lg Q N n;have y9:i<p.length:=by omega
     have yo:(p.getD i []).length≤2097168:=by rw[Wv y9];exact yl _ (zG y9)
     obtain⟨s,hs⟩:∃s,p.getD i []=s:=⟨_,rfl⟩
     rw[hs]at zf yo y7 y8;obtain⟨row,ya⟩:∃row,u0h (L c) N p=row:=⟨_,rfl⟩
     rw[ya]at z7 zo zf;refine Bl (fun E1=>∃z,E1[Q c]? =some (.va 145 1 (row.set i (.sl z 2 0 s.length)))∧E1[z]? =some (.arr 144 2 (s.map encIv))∧(∀j,j<G.length→j≠Q c→E1[j]? =G[j]?)∧G.length≤E1.length∧(tag z=(c+1,i+1)∨G.length≤z)) (fun hm=> ?_) ?_
     ·by_cases hs0:s=[]
      ·rw[D0,if_pos hs0]at zf;refine P9 (Q c) i 144 2 z7 zf ?_;refine hm _ ⟨G.length,by rw[hs0];exact Qo (Qc z7 _) _,?_,fun j hj zt=> ?_,by simp,.inr (zK _)⟩
       ·rw[zB (by omega),hs0];simp
       ·rw[zB (Ne.symm zt),zE hj]
      ·rw[D0,if_neg hs0]at zf;have zz:row.set i (.sl (L c i) 2 0 s.length)=row:=q06 zf;exact hm G ⟨L c i,by rw[zz];exact z7,y7 hs0,fun _ _ _=>rfl,zK _,.inl (y8 hs0)⟩
     ·rintro E1 ⟨z,f1,f2,f3,f4,f5⟩;have yp:z≠Q c:=fun e=>by
       rcases f5 with h|h
       ·rw[e,zn]at h;simp at h
       ·omega
      have yq:z≠o:=fun e=>by
       rcases f5 with h|h
       ·rw[e,zk]at h;simp at h
       ·omega
      have yr:z≠0:=fun e=>by
       rcases f5 with h|h
       ·rw[e,zb]at h;simp at h
       ·omega
      have g1:=(f3 o zx (Ne.symm ym)).trans zd;have g0:=(f3 0 zw (Ne.symm y6)).trans za;have ze:∀hh,(Z7 Q N n)[c]'hh= .agg [.sl (Q c) 1 0 N]:=fun hh=>by rw[zD hh]at zl;exact Option.some.inj zl
      have yt:∀hh,(row.set i (.sl z 2 0 s.length))[i]'hh= .sl z 2 0 s.length:=fun hh=>by simp
      have d1:∀M,(E1.set z .dead++M)[Q c]? =some (.va 145 1 (row.set i (.sl z 2 0 s.length))):=fun M=>Qc (Qg yp f1 _) M;have y0:∀M,M=(E1.set z .dead++[AObj.arr 144 2 [encIv ⟨(Q9 l i)[k],(Q9 l i)[k+1] - 1⟩],.arr 144 2 (s.map encIv++[encIv ⟨(Q9 l i)[k],(Q9 l i)[k+1] - 1⟩])]).set (Q c) (.va 145 1 (row.set i (.sl (E1.length+1) 2 0 (s.length+1))))→
        Rows [] N o (prG st') Q (fun c' k'=>if c'=c∧k'=i then E1.length+1 else L c' k') (fun j=>if j=E1.length+1 then(c+1,i+1)else tag j) M∧M[0]? =some (mpT (ksG st'))∧(if 0=E1.length+1 then(c+1,i+1)else tag 0)=(0,1):=fun M hM=>by
       rw[zi,zj];have xd:=Qi g0;have xe:=Qi f1;refine⟨hR.put zm y5 z1 (by omega) ?_ ?_ (fun j hj h1 h2=> ?_),?_,by rw[if_neg (by omega)];exact zb⟩
       ·rw[hM,ya,hs];exact zH (by simp;omega)
       ·rw[hM,hs,zB (by omega),zC (by simp)];simp
       ·have yu:z≠j:=fun e=>by
         rcases f5 with h|h
         ·rw[e]at h;exact h2 h
         ·omega
        rw[hM,zB (Ne.symm h1),zE (by simp;omega),zB yu];exact f3 j hj h1
       ·rw[hM,zB y6,zE (by simp;omega),zB yr];exact g0
      have yv:(0:Int)≤(k:Int)+1:=by omega
      have yw:(k:Int)+1<(Q9 l i).length:=by omega
      have dI:∀M,(E1++M)[z]? =some (.arr 144 2 (s.map encIv)):=fun M=>Qc f2 M;have d2:∀M,(E1++M)[Q c]? =some (.va 145 1 (row.set i (.sl z 2 0 s.length))):=fun M=>Qc f1 M;have yb:∀M hh,(E1.set z .dead++M)[Q c]'hh= .va 145 1 (row.set i (.sl z 2 0 s.length)):=fun M hh=>by have:=d1 M;rw[zD hh]at this;exact Option.some.inj this
      have d3:∀M,(E1.set z .dead++M)[o]? =some (.va 70 1 (Z7 Q N n)):=fun M=>Qc (Qg yq g1 _) M;have d4:∀M,(E1++M)[o]? =some (.va 70 1 (Z7 Q N n)):=fun M=>Qc g1 M;refine Qn tOk mixed [26,28] (.val 0 (.val 1 (.val 2 (.val 3 (.val 5 (.val 6 (.val 7 (.val 8 (.val 9 (.val 10 (.val 11 (.val 12 (.val 13 (.val 14 (.val 15 (.val 16 (.val 17 (.val 18 (.val 19 (.val 20 (.val 21 (.val 22 (.val 23 (.val 24 (.two 4 (.one 25 (.one 26 (.val 27 (.one 28 (.done))))) 25 (.two 4 (.one 26 (.val 27 (.one 28 (.done)))) 26 (.val 4 (.val 27 (.one 28 (.done)))))))))))))))))))))))))))))) rfl (by kernel_rfl) ?_;simp[g1,zl,ze,zy,zg,f1,yt,zo,z1,zu,z8,y2,x0,yv,yw,d4];refine⟨?_,?_⟩;all_goals
       refine Qf tOk rfl rfl Pp rfl G6 rfl (by decide) (by decide) rfl rfl rfl ?_;simp[dI,Qj f2,d1,yb,d2,d3,d4,z1,zo,zl,ze,zy,zg];refine⟨by simp[Ws,dI,Qj f2,d1,yb,d2,d3,d4,z1,zo,zl,ze,zy,zg]<;>omega,?_⟩;repeat first|(refine r_ ?_;simp[y2])|refine q_ ?_
       refine Qb (sl':=[(0,.i N),(1,LP l),(9,.sl o 1 0 n),(10,.mref 0),(11,.i i),(12,LI (Q9 l i)),(13,.i (k+1:Nat)),(42,.i N),(43,.i i)]) ?_ (by simp);obtain⟨q1,q2,q3⟩:=y0 _ rfl;rw[←zc];have:=zh o Q _ _ _ ⟨z8,q1,q2,q3⟩ (by omega);simpa[zc]using this
   ·have ye:k=(T1 (Q9 l i)).length:=by rw[Pu];simp at yj;omega
    subst ye;rw[g0u]at hR za ⊢;repeat first|(refine r_ ?_;simp[hw])|refine q_ ?_
    refine Qb (sl':=[(0,.i N),(1,LP l),(9,.sl o 1 0 (T0 N l (Tx l (i+1))).length),(10,.mref 0),(42,.i N),(43,.i (i+1:Nat))]) ?_ (by simp);exact ih (i+1,o,Q,L,tag,G) ⟨by omega,hR,za,zb⟩ (by omega)
  ·have zr:i=N:=by simp at yh;omega
   subst zr;have x7:T0 i l (Tx l i)=Ii i l:=f0q i l;rw[x7]at hR ⊢;have x8:=j0i zp;have yy:=G5 i l (Tx l i);rw[x7]at yy;have y5:=Gi zp hn i;have xl:Ea i l=(prG (Ii i l)).map Ro:=by rw[Ea,prG,uZ];rfl
   rw[xl]at hm;have z6:(prG (Ii i l)).length=(Ii i l).length:=by simp[prG]
   repeat first|(refine r_ ?_;simp)|refine q_ ?_
   have x9:=k1t i o (prG (Ii i l)) Q L tag G hR (by omega) (fun p hp=>by
    obtain⟨g,hg,rfl⟩:=zM.1 hp;exact⟨yy.len g hg,fun s hs=>⟨(x8.iv hg hs).1,by have:=yy.sz g hg s hs;omega,(x8.iv hg hs).2⟩⟩)
   rw[z6]at x9;refine Wd rfl rfl x9 rfl ?_;rintro r H' (⟨rfl,hb⟩|⟨rfl,hb⟩)
   ·rw[if_pos hb]at hm;rw[hm];simp;repeat first|(refine r_ ?_;simp)|refine q_ ?_
   ·rw[if_neg (by simp[hb])]at hm;rw[hm];simp;repeat first|(refine r_ ?_;simp)|refine q_ ?_
end Go.Abs
namespace Go.Abs
open Go Go.Proofs Go.Maps
theorem w1f{T:Nat}{l:List Prd}(hl:∀p∈l,PCk T p)(i:Nat):(Q9 l i).length≤l.length * 512+2:=by rw[←L6];have h1:=Ut (R7 (H7 (Q6 l i)));have h2:=Fh (Q6 l i);rw[Ig,h2]at h1;have:=P0 hl i;omega
theorem k0o{T:Nat}{l:List Prd}(hl:∀p∈l,PCk T p)(hn:l.length≤4096):∀i,(Tx l i).length≤i * 2097153
 |0=>by simp[Tx]
 |i+1=>by have:=k0o hl hn i;have h2:=w1f hl i;have h3:=Pu (Q9 l i);rw[Tx,wT,wZ,zW];have h4:((yA i).flatMap fun i=>(T1 (Q9 l i)).map fun x=>(i,x)).length=(Tx l i).length:=rfl;rw[h4];simp only[t7,tj,xV,zV];omega
theorem w0z{T:Nat}(hT:T≤16){l:List Prd}(hl:∀p∈l,PCk T p)(hn:l.length≤4096):GB T l.length 40000000 (Ii T l):=by
 have h:=G5 T l (Tx l T);rw[f0q]at h;have h2:=k0o hl hn T;have h3:(Tx l T).length≤40000000:=by have:T * 2097153≤16 * 2097153:=Nat.mul_le_mul_right _ hT;omega
 exact⟨h.nd,yP h.le h3,h.len,fun g hg s hs=>yP (h.sz g hg s hs) h3,h.kl⟩
theorem k1x{T:Nat}(hT:T≤16){l:List Prd}(hl:∀p∈l,PCk T p)(hn:l.length≤4096):(Ea T l).length≤40000000∧∀c∈Ea T l,∀s∈c,s.length≤40000000:=by have h:=w0z hT hl hn;refine⟨by simpa[Ea]using h.le,fun c hc s hs=> ?_⟩;obtain⟨g,hg,rfl⟩:=zM.1 hc;obtain⟨s',z1,rfl⟩:=zM.1 hs;exact yP (Ti _ _) (by simpa using h.sz g hg s' z1)
theorem q1a{T:Nat}{p:Prd}(h:PWf T p):Wp p=false↔∃t n,PM p t n:=by
 cases hv:Wp p
 ·simp only[true_iff];by_cases hx:∃t n,PM p t n
  ·exact hx
  ·rw[(E6 h).2 fun t n hp=>hx ⟨t,n,hp⟩]at hv;cases hv
 ·simp only[Bool.true_eq_false,false_iff];rintro⟨t,n,hp⟩;exact(E6 h).1 hv t n hp
theorem Lz(L:List Prd):(Lt L).length=L.length:=by
 have key:∀(r s:List Prd),(r.foldl Zt s).length=s.length+r.length:=by
  intro r;induction r with
  |nil=>intro s;simp
  |cons x r ih=>intro s;rw[xG,ih,(P4 s x).length_eq,yE,yE];omega
 have:=key L [];simpa[Lt]using this
theorem O9{T:Nat}(h0:0<T)(hT:T≤16){l:List Prd}(hl:∀p∈l,PCk T p)(hn:l.length≤4096):
  (En T l).length≤40000000∧∀c∈En T l,PWf T c∧Wp c=false∧∀s∈c,s.length≤40000000:=by
 obtain⟨h1,h2⟩:=k1x hT hl hn;have h3:=R3 h0 hl;have h4:=(Ao hl).1;refine⟨?_,fun c hc=>⟨h3.wf c hc,(q1a (h3.wf c hc)).2 (h3.ne c hc),h2 c (h3.same h4 hc)⟩⟩;have:=Sv h0 hl;rw[this,Qy,Lz]at h1;exact h1
theorem Yx{T:Nat}(h0:0<T)(hT:T≤16){l:List Prd}(hl:∀p∈l,PCk T p)(hn:l.length≤4096):
  (Qy T l).length≤40000000∧∀c∈Qy T l,PWf T c∧Wp c=false∧∀s∈c,s.length≤40000000:=by
 have h:=O9 h0 hT hl hn;have hd:(En T l).Pairwise (fun p q=>Qw p 0≠Qw q 0):=(Da h0 hl).imp_of_mem (fun {a b} ha hb hab e=>by
  have h1:=(R3 h0 hl).wf a ha;have h2:=(R3 h0 hl).wf b hb;have h3:=(W3 h1 ((R3 h0 hl).ne a ha)).1;have h4:=(W3 h2 ((R3 h0 hl).ne b hb)).1;rw[e]at h3;exact hab _ _ h3 h4)
 have hp:=(Kg _ hd).1;exact⟨by rw[Qy,Lz];exact h.1,fun c hc=>h.2 c (hp.mem_iff.1 hc)⟩
end Go.Abs
/-
 DERIVED:THE SHELF's CONTRACTS AT THIS DUMP,IN PLAIN WORDS (tools/lay-plain.mjs out of 'TryzShelf.lean',which tools/lay-shelf.mjs wrote):THE SAME DECLARATIONS UNDER THE SAME NAMES:'import','namespace','open','def','theorem' AND NOTHING ELSE:no command of the shelf's:FOR A HAND-IN. Each laying:the table of numbers ('.._ren') and one theorem,a field a fact of the dump's own or the kernel's comparison;each contract:ONE APPLICATION.
-/
namespace Go.Proofs
open Go.Shelf
def Tryz.laysM176_ren:Go.Shelf.Ren:=⟨fun|176=>173|249=>224|288=>262|283=>302|284=>303|285=>304|286=>305|129=>245|317=>318|318=>319|319=>320|320=>321|337=>325|338=>326|n=>n,fun|37=>230|2=>2|3=>3|53=>258|4=>4|9=>9|171=>338|0=>0|173=>340|212=>355|51=>255|5=>5|20=>20|213=>356|46=>189|232=>360|233=>361|n=>n,fun|17=>0|18=>1|19=>2|n=>n⟩
theorem Tryz.laysM176:Go.Proofs.LaysM.n176 Tryz.prog Tryz.laysM176_ren:={
 mixed:=by kernel_rfl
 f129:=Tryz.func245.trans (congrArg some (by kernel_rfl))
 f176:=Tryz.func173.trans (congrArg some (by kernel_rfl))
 f249:=Tryz.func224.trans (congrArg some (by kernel_rfl))
 f283:=Tryz.func302.trans (congrArg some (by kernel_rfl))
 f284:=Tryz.func303.trans (congrArg some (by kernel_rfl))
 f285:=Tryz.func304.trans (congrArg some (by kernel_rfl))
 f286:=Tryz.func305.trans (congrArg some (by kernel_rfl))
 f288:=Tryz.func262.trans (congrArg some (by kernel_rfl))
 f317:=Tryz.func318.trans (congrArg some (by kernel_rfl))
 f318:=Tryz.func319.trans (congrArg some (by kernel_rfl))
 f319:=Tryz.func320.trans (congrArg some (by kernel_rfl))
 f320:=Tryz.func321.trans (congrArg some (by kernel_rfl))
 f337:=Tryz.func325.trans (congrArg some (by kernel_rfl))
 f338:=Tryz.func326.trans (congrArg some (by kernel_rfl))
 t0:=Tryz.underlying0
 a0:=Tryz.isAgg0
 z0:=Tryz.sizeOf0
 v0:=Tryz.zeroValue0
 t2:=Tryz.underlying2
 a2:=Tryz.isAgg2
 z2:=Tryz.sizeOf2
 v2:=Tryz.zeroValue2
 t3:=Tryz.underlying3
 a3:=Tryz.isAgg3
 z3:=Tryz.sizeOf3
 v3:=Tryz.zeroValue3
 t4:=Tryz.underlying4
 a4:=Tryz.isAgg4
 z4:=Tryz.sizeOf4
 v4:=Tryz.zeroValue4
 t5:=Tryz.underlying5
 a5:=Tryz.isAgg5
 z5:=Tryz.sizeOf5
 v5:=Tryz.zeroValue5
 t9:=Tryz.underlying9
 a9:=Tryz.isAgg9
 z9:=Tryz.sizeOf9
 v9:=Tryz.zeroValue9
 t20:=Tryz.underlying20
 a20:=Tryz.isAgg20
 z20:=Tryz.sizeOf20
 v20:=Tryz.zeroValue20
 t37:=Tryz.underlying230
 a37:=Tryz.isAgg230
 z37:=Tryz.sizeOf230
 v37:=Tryz.zeroValue230
 t46:=Tryz.underlying189
 a46:=Tryz.isAgg189
 z46:=Tryz.sizeOf189
 v46:=Tryz.zeroValue189
 t51:=Tryz.underlying255
 a51:=Tryz.isAgg255
 z51:=Tryz.sizeOf255
 v51:=Tryz.zeroValue255
 t53:=Tryz.underlying258
 a53:=Tryz.isAgg258
 z53:=Tryz.sizeOf258
 v53:=Tryz.zeroValue258
 t171:=Tryz.underlying338
 a171:=Tryz.isAgg338
 z171:=Tryz.sizeOf338
 v171:=Tryz.zeroValue338
 t173:=Tryz.underlying340
 a173:=Tryz.isAgg340
 z173:=Tryz.sizeOf340
 v173:=Tryz.zeroValue340
 t212:=Tryz.underlying355
 a212:=Tryz.isAgg355
 z212:=Tryz.sizeOf355
 v212:=Tryz.zeroValue355
 t213:=Tryz.underlying356
 a213:=Tryz.isAgg356
 z213:=Tryz.sizeOf356
 t232:=Tryz.underlying360
 a232:=Tryz.isAgg360
 z232:=Tryz.sizeOf360
 v232:=Tryz.zeroValue360
 t233:=Tryz.underlying361
 a233:=Tryz.isAgg361
 z233:=Tryz.sizeOf361
 v233:=Tryz.zeroValue361
 g17:=by kernel_rfl
 g18:=by kernel_rfl
 g19:=by kernel_rfl
 i0:=by kernel_rfl
 i2:=by kernel_rfl
 i3:=by kernel_rfl
 i4:=by kernel_rfl
 i5:=by kernel_rfl
 i9:=by kernel_rfl
 i20:=by kernel_rfl
 i37:=by kernel_rfl
 i46:=by kernel_rfl
 i51:=by kernel_rfl
 i53:=by kernel_rfl
 i171:=by kernel_rfl
 i173:=by kernel_rfl
 i212:=by kernel_rfl
 i232:=by kernel_rfl
 i233:=by kernel_rfl
 m17:=by kernel_rfl
 m18:=by kernel_rfl
 m19:=by kernel_rfl }
open Go.RowKit Go.Sort Go.Lib in
theorem Tryz.strconv_AppendInt_10 (B n:Nat) (i:Int) (h0: -9223372036854775808≤i) (h1:i≤9223372036854775807) (sv:Value) (xs:List Value) (w:World) (z1:w.ownsRow B 5 1 sv n xs) (z8:B≤w.heap.size) (z6:n+21≤140737488355328) (z7:Lib.TabBelow Tryz.prog B w "internal/strconv.uint64pow10" .u64 Lib.pow10Tab):
  Calls Tryz.prog 173 #[sv,.int .i64 i,.int .i64 10] w fun e w'=>∃v',e= .returned v'∧w'.ownsRow B 5 1 v' (n+(Lib.itoa i).length) (xs++Lib.byteCells (Lib.itoa i))∧Below B w w'∧Lib.OthersKept 5 none w w':=Any.strconv_AppendInt_10 Tryz.laysM176 B n i h0 h1 sv xs w z1 z8 z6 z7
end Go.Proofs
namespace Go.Proofs
open Go.Shelf Go.RowKit
def R6(zs:List Int):List UInt8:=zs.flatMap fun z=>32::Lib.itoa z
theorem u0p(zs:List Int){k:Nat}(h:k<zs.length):R6 (zs.take (k+1))=R6 (zs.take k)++32::Lib.itoa (zs.getD k 0):=by
 have:zs.getD k 0=zs[k]:=by simp[yQ,h]
 rw[zL h,this,R6,wZ];simp[R6]
theorem Mg{zs:List Int}(hz:∀z∈zs,-9223372036854775808≤z∧z≤9223372036854775807):(R6 zs).length≤zs.length * 22:=by
 induction zs with
 |nil=>simp[R6]
 |cons z r ih=>
  have h1:=Lib.itoa_length_le z (hz z (by simp)).1 (hz z (by simp)).2;have h2:=ih (fun y hy=>hz y (by simp[hy]));have e:R6 (z::r)=32::(Lib.itoa z++R6 r):=by simp[R6]
  rw[e,yE,zW,yE];omega
theorem g0i:(Tryz.prog.info? 5).map (fun i=>(i.zero,i.size,i.bytes))=some (some (.int .u8 0),1,1):=by kernel_rfl
theorem c0r (ad:Addr) (cap:Nat) (zs:List Int) (w:World) (hb:ad.block<w.heap.size) (hz:∀z∈zs,-9223372036854775808≤z∧z≤9223372036854775807) (hl:zs.length≤1000) (zl:0<zs.length)
  (hc:∀j,j<zs.length→w.cell? (ad.add j)=some (.int .i64 (zs.getD j 0))) (zf:Lib.TabIs Tryz.prog w "internal/strconv.uint64pow10" .u64 Lib.pow10Tab):
  Calls Tryz.prog 109 #[.slice (some ad) zs.length cap] w fun e w'=>e= .returned (.string ⟨(R6 zs).toArray⟩)∧Below w.heap.size w w':=by
 obtain⟨i0,hi,zm,zn,zo⟩:=info_parts g0i;have hT:=Lib.tabBelow_of_tabIs zf;have zg:∀k,(R6 (zs.take k)).length≤22000:=fun k=>by
  have:=Mg (zs:=zs.take k) (fun z zp=>hz z (yW zp));rw[xB]at this;have:min k zs.length≤1000:=by omega
  omega
 go_enter Tryz.func109,Tryz.ntmps109
 go_wp2
 go_loopw [3,8] (fun v i wr=>∃k:Nat,k≤zs.length∧i= .int .i64 k∧wr.ownsRow w.heap.size 5 1 v (R6 (zs.take k)).length (Lib.byteCells (R6 (zs.take k)))∧Below w.heap.size w wr)
  (fun _ i _=>zs.length - (intOf i).toNat)
 case atStart=>exact⟨0,Nat.zero_le _,rfl,World.ownsRow_nil _ _ _ _,Below.refl _ _⟩
 case round=>
  obtain⟨k,hk,rfl,z1,zb⟩:=hrel;have zq:k<zs.length→wr.cell? (ad.add k)=some (.int .i64 (zs.getD k 0)):=fun h=>(zb.cell (by unfold Addr.add;split<;>exact hb)).trans (hc k h)
  go_wp2_with (first
   |(at_builtin;refine wpList_append_own _ rfl _ _ 230 rfl w.heap.size 5 i0 (.int .u8 0) 1 1 Tryz.underlying230 hi zm zn zo rfl (by decide) _ _ _ rfl (z1.alloc _) ⟨wr.heap.size,0,none⟩ 1 1 [.int .u8 32] rfl rfl ?c1 ?c2 ?c3 ?c4 ?c5 ?_)
   |go_in)
  case c1=>
   intro j u hj
   match j,hj with
   |0,hj=>simp at hj;subst hj;simp[Addr.add]
  case c2=>intro u hu;simp at hu;subst hu;rfl
  case c3=>have:=zg k;unfold maxLen;omega
  case c4=>have:=zg k;omega
  case c5=>have:=zb.size;simp;omega
  ·intro v' w1 z8 za _;have zc:k<zs.length:=by assumption
   have z7:Below w.heap.size w w1:=(zb.alloc (by have:=zb.size;omega) _).grown za (by have:=zb.size;simp;omega) (fun k hk=>(z1.lt k hk).1);have zk:=hz _ (zG zc);have zr:zs.getD k 0=zs[k]:=by simp[yQ,zc]
   have ze:=u0p zs zc;rw[zr]at ze
   go_wp2_with (go_at_call 173;refine(Tryz.strconv_AppendInt_10 w.heap.size _ zs[k] zk.1 zk.2 v' _ w1 z8 (by have:=z7.size;omega) (by have:=zg k;omega) (hT.on z7)).mono ?_;rintro e w3 ⟨v3,rfl,z6,zh,-⟩;refine Hid.out ?_)
   have zd:w3.ownsRow w.heap.size 5 1 v3 (R6 (zs.take (k+1))).length (Lib.byteCells (R6 (zs.take (k+1)))):=by
    have e1:Lib.byteCells (R6 (zs.take k))++[Value.int .u8 32]++Lib.byteCells (Lib.itoa zs[k])=Lib.byteCells (R6 (zs.take (k+1))):=by rw[ze];simp[Lib.byteCells]
    have e2:(R6 (zs.take k)).length+1+(Lib.itoa zs[k]).length=(R6 (zs.take (k+1))).length:=by rw[ze];simp;omega
    rw[e1,e2]at z6;exact z6
   have zi:=z7.trans zh;clear z6 z8 za z1 zb z7 zq ze;refine Lib.hid ?_
   go_wp2
   go_roundw
   case rel=>exact⟨k+1,by omega,by simp,zd,zi⟩
   case measure=>simp[intOf];omega
  ·have zw:¬k<zs.length:=by assumption
   have zt:k=zs.length:=by omega
   subst zt;rw[zZ]at z1;have zj:0<(R6 zs).length:=by
    obtain⟨z,r,rfl⟩:∃z r,zs=z::r:=by cases zs with
     |nil=>simp at zl
     |cons z r=>exact⟨z,r,rfl⟩
    simp[R6]
   obtain⟨l,zc⟩:∃l,l=R6 zs:=⟨_,rfl⟩
   rw[←zc]at z1 zj;have HL:=Lib.hid zc;clear zc;rcases z1.2 with⟨-,h0⟩|⟨g,cap2,cur,rfl,-,-,-,-,-,-⟩
   ·omega
   ·have zu:=run_convert_bytes_back (P:=Tryz.prog) wr 230 9 5 ⟨g,0,none⟩ cap2 l Tryz.underlying230 Tryz.underlying5 Tryz.underlying9 (fun j hj=>z1.cells (g:=g) rfl j _ (by simp[Lib.byteCells,hj]));rw[zu]
    go_wp2
    go_ret
    have zv:=HL.out;subst zv;exact⟨rfl,zb⟩
end Go.Proofs
namespace Go.Abs
open Go Go.Proofs Go.RowKit
theorem j1x(zs:List Int)(hz:∀z∈zs,-9223372036854775808≤z∧z≤9223372036854775807)(hl:zs.length≤1000)(z7:zs≠[]):PC Tryz.prog 109 [.list (zs.map .i)] (fun r=>r= .str (R6 zs)):=by
 refine⟨Ys Tryz.func109 rfl rfl,fun w I vals hE hI hl' hv=> ?_⟩;rcases vals with⟨vals⟩
 match vals,hl' with
 |[v],_=>
  have z8:=hv 0 v _ rfl rfl;obtain⟨a,cap,c,u,rfl,hcap,hmax,hc,ha,hu⟩:=z8.list_inv;have z1:0<zs.length:=ua.2 z7;have za:c=1:=by have:=hc (.i zs[0]) (zM.2 ⟨_,zG z1,rfl⟩);simpa[AV.cells]using this.symm
  subst za;obtain⟨ad,rfl,zb,hcell⟩:=ha (by simpa using z1);have zc:∀j,j<zs.length→w.cell? (ad.add j)=some (.int .i64 (zs.getD j 0)):=fun j hj=>by have h1:=hcell j 0 (by simpa using hj) (by omega);have h2:=hu j (.i zs[j]) (by simp[hj]) 0 (.i zs[j]) rfl;have h3:=h2.val (u:= .int .i64 zs[j]) rfl;rw[Nat.mul_one,Nat.add_zero,h3]at h1;rw[h1];simp[yQ,hj]
  have:=c0r ad cap zs w (hI _ (zb (by omega))) hz hl z1 zc (g0b hE);rw[zV];refine this.mono ?_;rintro e w' ⟨rfl,hb⟩;exact⟨_,I,_,rfl,rfl,hb,fun _ h=>h,fun b z6=>⟨Nat.lt_of_lt_of_le (hI b z6) hb.size,.inl z6⟩,.str _⟩
end Go.Abs
namespace Go.Proofs
open Go.Shelf Go.RowKit
def g1e(l:List UInt8):Nat:=l.foldl (fun v c=>v * 10+(c.toNat - 48)) 0
theorem k0p(l:List UInt8)(c:UInt8):g1e (l++[c])=g1e l * 10+(c.toNat - 48):=by simp[g1e,x_]
theorem F1{k:Nat}(h:k<10):(UInt8.ofNat (48+k)).toNat=48+k:=by rw[UInt8.toNat_ofNat'];omega
theorem Fa(u:Nat):g1e (Lib.decDigits u)=u∧∀c∈Lib.decDigits u,c≠32:=by
 induction u using Nat.strongRecOn with
 |_ u ih=>
  rw[Lib.decDigits];by_cases h:u<10
  ·rw[dif_pos h];refine⟨?_,fun c hc e=> ?_⟩
   ·have:=F1 h;simp only[g1e,xG,tA,this];omega
   ·rw[zJ.1 hc]at e;have:=F1 h;rw[e]at this;simp at this;omega
  ·rw[dif_neg h];obtain⟨h1,h2⟩:=ih (u / 10) (by omega);have hd:=F1 (Nat.mod_lt u (by decide:0<10));refine⟨?_,fun c hc e=> ?_⟩
   ·rw[k0p,h1,hd];omega
   ·rcases zO.1 hc with hc|hc
    ·exact h2 c hc e
    ·rw[zJ.1 hc]at e;rw[e]at hd;simp at hd;omega
theorem g0m{z:Int}(h:0≤z):Lib.itoa z=Lib.decDigits z.toNat:=by unfold Lib.itoa;rw[if_neg (by omega)]
theorem x1o:∀ {a b r s:List UInt8},(∀c∈a,c≠32)→(∀c∈b,c≠32)→(r=[]∨∃t,r=32::t)→(s=[]∨∃t,s=32::t)→a++r=b++s→a=b∧r=s
 |[],[],r,s,_,_,_,_,h=>⟨rfl,h⟩
 |[],y::b,r,s,_,hb,hr,_,h=>by
  rcases hr with rfl|⟨t,rfl⟩
  ·simp at h
  ·simp at h;exact absurd h.1.symm (hb y (by simp))
 |x::a,[],r,s,ha,_,_,hs,h=>by
  rcases hs with rfl|⟨t,rfl⟩
  ·simp at h
  ·simp at h;exact absurd h.1 (ha x (by simp))
 |x::a,y::b,r,s,ha,hb,hr,hs,h=>by simp only[List.cons_append,List.cons.injEq]at h;obtain⟨h1,h2⟩:=x1o (fun c hc=>ha c (by simp[hc])) (fun c hc=>hb c (by simp[hc])) hr hs h.2;exact⟨by rw[h.1,h1],h2⟩
theorem Vm(zs:List Int):R6 zs=[]∨∃t,R6 zs=32::t:=by
 cases zs with
 |nil=>exact .inl rfl
 |cons z r=>exact .inr ⟨Lib.itoa z++R6 r,by simp[R6]⟩
theorem L3:∀ {a b:List Int},(∀z∈a,0≤z)→(∀z∈b,0≤z)→R6 a=R6 b→a=b
 |[],[],_,_,_=>rfl
 |[],y::b,_,_,h=>by simp[R6]at h
 |x::a,[],_,_,h=>by simp[R6]at h
 |x::a,y::b,ha,hb,h=>by
  have e1:∀(z:Int) (r:List Int),R6 (z::r)=32::(Lib.itoa z++R6 r):=fun z r=>by simp[R6]
  rw[e1,e1,List.cons.injEq]at h;have hx:=ha x (by simp);have hy:=hb y (by simp);rw[g0m hx,g0m hy]at h;obtain⟨h1,h2⟩:=x1o (Fa _).2 (Fa _).2 (Vm a) (Vm b) h.2;have h3:=congrArg g1e h1;rw[(Fa _).1,(Fa _).1]at h3;have h4:=L3 (fun z hz=>ha z (by simp[hz])) (fun z hz=>hb z (by simp[hz])) h2;rw[h4,show x=y by omega]
end Go.Proofs
namespace Go.Abs
open Go Go.Proofs Go.Maps
theorem j1i(a:Aut)(s:Int):PC Tryz.prog 44 [encA a,.i s] (fun r=>r= .fn (.func 104) [] [.iptr (Qp a),.iptr [.i s]]):=by refine Qh tOk Tryz.func44 rfl Tryz.results44 rfl (by simp[Tryz.ntmps44]) ?_;rw[Tryz.ntmps44];simp only[Qe];simp only[encA];repeat first|(refine r_ ?_;simp)|refine q_ ?_
theorem c07(T:Int)(hT:1≤T∧T≤16):Em T (Wh T.toNat)=0:=
 (W9 T _).2 ⟨hT,by simp[Wh],fun s hs=>by
  have:s=Ed []:=(u7.1 hs).2;rw[this,show Ed []=[(⟨-1099511627776,1099511627776⟩:Iv)] from rfl];exact⟨by simp,fun x hx=>by simp at hx;subst hx;decide,fun j h=>by simp at h⟩⟩
theorem Sg(T:Int)(hT:1≤T∧T≤16)(x:Sy):(Z8 (Wh T.toNat) x).2=F0 T x:=by
 rw[Nu (c07 T hT)];by_cases h:F0 T x=0
 ·rw[if_neg (fun k=>k h),h]
 ·rw[if_pos h]
structure Nx (a:Aut) (R:List Int) (x:Sy) (dn:Int→Prop) (nx:List Int):Prop where
 sub:∀z∈nx,z∈Qu a R x
 all:∀i,dn i→∀m∈a.mv,m.src=i→Rp m.on x=true→m.dst∈nx
theorem y1w(a:Aut)(l:List Int):Oi a l []=l:=rfl
theorem k0x(a:Aut)(l:List Int)(w:List Sy)(x:Sy):Oi a l (w++[x])=Qu a (Oi a l w) x:=by unfold Oi;rw[x_];rfl
theorem Mw(a:Aut)(w:List Sy):Yl a w=true↔∃s∈Oi a [0] w,a.fin.getD s.toNat false=true:=by unfold Yl;exact q1e
theorem mem_erase{α:Type}{l:List α}{j:Nat}{p q:α}(h:l[j]? =some p)(hq:q∈l)(hn:q∉l.eraseIdx j):q=p:=by
 obtain⟨i,hi,rfl⟩:=yC hq;by_cases e:i=j
 ·subst e;rw[zD hi]at h;exact Option.some.inj h
 ·exact absurd (List.mem_eraseIdx_iff_getElem?.2 ⟨i,e,zD hi⟩) hn
theorem Fu{α β:Type}(f:α→β)(l:List α)(j:Nat):(l.map f).eraseIdx j=(l.eraseIdx j).map f:=by
 induction l generalizing j with
 |nil=>simp
 |cons x l ih=>cases j<;>simp[ih]
attribute [local irreducible] Z8 F0 Yl Wh Oi Qu
theorem Kx(a:Aut)(w:List Sy):PC Tryz.prog 14 [encA a,LSy w] (fun r=>r= .tup [.bool (d01 a w).1,.i (d01 a w).2]):=by
 refine Qh tOk Tryz.func14 rfl Tryz.results14 rfl (by simp[Tryz.ntmps14]) ?_;rw[Tryz.ntmps14];simp only[Qe];simp only[encA];repeat first|(refine r_ ?_;simp)|refine q_ ?_
 refine Qd rfl rfl (by simp) (I7 a) rfl ?_;rintro _ rfl;simp;repeat first|(refine r_ ?_;simp)|refine q_ ?_
 refine Qa rfl (fun h=> ?_) (fun h=> ?_)
 ·repeat first|(refine r_ ?_;simp)|refine q_ ?_
  have hE:d02 a w=Wl a:=by rw[d02,if_pos (by simpa using h)]
  rw[d01,hE,if_pos (by simpa using h)];exact⟨rfl,rfl⟩
 have h0:Wl a=0:=by simpa using h
 have zc:=(Ic a).1 h0;repeat first|(refine r_ ?_;simp)|refine q_ ?_
 refine Qa rfl (fun h=> ?_) (fun h=> ?_)
 ·repeat first|(refine r_ ?_;simp)|refine q_ ?_
  have hE:d02 a w=5:=by rw[d02,if_neg (fun k=>k h0),if_pos (by simp at h;omega)]
  rw[d01,hE];exact⟨rfl,rfl⟩
 have hl:w.length≤4096:=by simp at h;omega
 have hE:d02 a w=V5 a.types w:=by rw[d02,if_neg (fun k=>k h0),if_neg (by omega)]
 repeat first|(refine r_ ?_;simp)|refine q_ ?_
 refine Qd rfl rfl (by simp) (j06 a.types zc.types.1 zc.types.2) rfl ?_;rintro _ rfl;simp;repeat first|(refine r_ ?_;simp)|refine q_ ?_
 refine Qs w.length (fun j=>V5 a.types w=V5 a.types (w.drop j)) (fun j=>[(1,LSy w),(2,.vptr 0 0),(7,.vptr 1 0),(34,LSy w),(35,.i w.length),(36,.i j)]) (fun _=>[.vars (Qp a),.vars [.list ((Wh a.types.toNat).map encL)]]) rfl (by simp) (by simp) (by simp) (by simp) (by simp) ?_;intro j hj hI ih;repeat first|(refine r_ ?_;simp)|refine q_ ?_
 refine Qa rfl (fun zv=> ?_) (fun zw=> ?_)
 ·have z1:j<w.length:=by simpa using zv
  have hw:IntKind.i64.wrap ((j:Int)+1)=j+1:=wrap_i64 _ (by omega) (by omega);rw[Wu z1,V5]at hI;repeat first|(refine r_ ?_;simp[z1])|refine q_ ?_
  refine Qd rfl rfl (by simp) (Tm (Wh a.types.toNat) w[j]) rfl ?_;rintro _ rfl;simp[Sg a.types zc.types];repeat first|(refine r_ ?_;simp)|refine q_ ?_
  refine Qa rfl (fun h3=> ?_) (fun h3=> ?_)
  ·repeat first|(refine r_ ?_;simp)|refine q_ ?_
   rw[if_pos (by simpa using h3)]at hI;rw[d01,hE,hI,if_pos (by simpa using h3)];exact⟨rfl,rfl⟩
  ·rw[if_neg (by simpa using h3)]at hI;repeat first|(refine r_ ?_;simp[hw])|refine q_ ?_
   refine Qr _ (ih z1 hI) rfl (by simp) ?_ (by simp) (by simp);simp
 ·have zg:j=w.length:=by simp at zw;omega
  subst zg;rw[yU]at hI;have hW:∀x∈w,W2 a x:=fun x hx=>(D7 _ _).1 ((Lp w).1 hI x hx);have hR:d01 a w=(Yl a w,0):=by rw[d01,hE,hI];rfl
  rw[hR];repeat first|(refine r_ ?_;simp)|refine q_ ?_
  refine E8 rfl rfl rfl ?_;simp;refine y04 rfl rfl rfl rfl rfl rfl rfl (by decide) ?_;simp;repeat first|(refine r_ ?_;simp)|refine q_ ?_
  refine Ql (Qb (sl':=[(1,LSy w),(2,.vptr 0 0),(13,.mref 2),(52,LSy w),(53,.i w.length),(54,.i (0:Nat))]) ?_ (by simp));refine Qm (F:=fun(u:Nat×Nat×List Int×List AObj)=>⟨[(1,LSy w),(2,.vptr 0 0),(13,.mref u.2.1),(52,LSy w),(53,.i w.length),(54,.i u.1)],u.2.2.2⟩)
   (fun u=>u.1≤w.length∧u.2.2.2[0]? =some (.vars (Qp a))∧u.2.2.2[u.2.1]? =some (stM u.2.2.1)∧∀z,z∈u.2.2.1↔z∈Oi a [0] (w.take u.1)) (fun u=>w.length - u.1) ?_ (0,2,[0],_) ⟨by simp,rfl,rfl,by simp[y1w]⟩
  rintro⟨j,q,l,G⟩ ⟨hj,g0,gq,hl⟩ ih;simp only at hj g0 gq hl ih ⊢;repeat first|(refine r_ ?_;simp)|refine q_ ?_
  have y9:∀z∈l,0≤z∧z<a.fin.length:=fun z hz=>runIn _ _ (j1f zc.wfA) z ((hl z).1 hz);have yn:=zc.fin;refine Qa rfl (fun zv=> ?_) (fun zw=> ?_)
  ·have z1:j<w.length:=by simpa using zv
   have hw:IntKind.i64.wrap ((j:Int)+1)=j+1:=wrap_i64 _ (by omega) (by omega);have hx:=hW _ (zG z1);have zd:Oi a [0] (w.take (j+1))=Qu a (Oi a [0] (w.take j)) w[j]:=by rw[zL z1,k0x]
   have ya:=fun q' l' G'=>ih (j+1,q',l',G');simp only[zd]at ya;clear zd;generalize Oi a [0] (w.take j)=R at *
   repeat first|(refine r_ ?_;simp[z1])|refine q_ ?_
   generalize w[j]=x at *;refine E8 rfl rfl rfl ?_
   simp;repeat first|(refine r_ ?_;simp[g0,gq])|refine q_ ?_
   refine Gh tOk rfl rfl rfl T79 rfl rfl (Qc gq _) ?_;simp;repeat first|(refine r_ ?_;simp)|refine q_ ?_
   have yo:=Qi gq;have yi:=Qi g0;have zx:q≠0:=fun e=>by subst e;rw[g0]at gq;unfold stM at gq;simp at gq
   refine Eo fun E hE=> ?_;have e0:E[0]? =some (.vars (Qp a)):=by rw[hE];exact Qc (Qg zx (Qc g0 _) _) _
   have ex:E[G.length]? =some (.vars [.i x.ty,.i x.num]):=by rw[hE];exact Qc (Qg (by omega) (by simp) _) _
   have em:E[G.length+1]? =some (stM []):=by rw[hE];exact Qc (Qg (by omega) (by simp[stM]) _) _
   have ec:E[G.length+2]? =some (.vars [.mref (G.length+1)]):=by rw[hE];exact Qc (Qg (by omega) (by simp) _) _
   have ei:E[G.length+3]? =some (.it (l.map fun z=>(.i z,.bool true)) none):=by rw[hE];rw[zC (by simp)];simp
   have zq:E.length=G.length+4:=by rw[hE];simp
   clear hE;refine Ql (Qb (sl':=[(1,LSy w),(2,.vptr 0 0),(15,.vptr G.length 0),(16,.vptr (G.length+2) 0),(52,LSy w),(53,.i w.length),(54,.i j),(60,.vptr (G.length+3) 0)]) ?_ (by simp));refine Qm (F:=fun(u:List Int×Option (AV×AV)×List Int×List AObj)=>⟨[(1,LSy w),(2,.vptr 0 0),(15,.vptr G.length 0),(16,.vptr (G.length+2) 0),(52,LSy w),(53,.i w.length),(54,.i j),(60,.vptr (G.length+3) 0)],u.2.2.2⟩)
    (fun u=>u.2.2.2[0]? =some (.vars (Qp a))∧u.2.2.2[G.length]? =some (.vars [.i x.ty,.i x.num])∧u.2.2.2[G.length+1]? =some (stM u.2.2.1)∧u.2.2.2[G.length+2]? =some (.vars [.mref (G.length+1)])∧u.2.2.2[G.length+3]? =some (.it (u.1.map fun z=>(.i z,.bool true)) u.2.1)∧G.length+4≤u.2.2.2.length∧
     (∀z∈u.1,z∈l)∧Nx a R x (fun i=>i∈l∧i∉u.1) u.2.2.1) (fun u=>u.1.length) ?_ (l,none,[],E) ⟨e0,ex,em,ec,ei,by simp[zq],fun z hz=>hz,⟨fun z hz=>by simp at hz,fun i hi=>absurd hi.1 hi.2⟩⟩
   clear e0 ex em ec ei zq;clear E;rintro⟨left,cur,nx,E⟩ ⟨e0,ex,em,ec,ei,zq,z6,zd⟩ ih2;simp only at e0 ex em ec ei zq z6 zd ih2 ⊢;repeat first|(refine r_ ?_;simp)|refine q_ ?_
   refine Sj rfl rfl rfl rfl ei (fun zy=> ?_) (fun i p hp=> ?_)
   ·simp;have zr:left=[]:=by simpa using zy
    subst zr;repeat first|(refine r_ ?_;simp)|refine q_ ?_
    refine Qq rfl ?_;simp;repeat first|(refine r_ ?_;simp[ec,hw])|refine q_ ?_
    refine Qb (sl':=[(1,LSy w),(2,.vptr 0 0),(13,.mref (G.length+1)),(52,LSy w),(53,.i w.length),(54,.i (j+1:Nat))]) ?_ (by simp);refine ya (G.length+1) nx E ⟨by omega,e0,em,fun z=>⟨fun hz=>zd.sub z hz,fun hz=> ?_⟩⟩ (by omega);obtain⟨_,m,hm,h1,h2,h3⟩:=Wz.1 hz;rw[←h3];exact zd.all m.src ⟨(hl _).2 h1,by simp⟩ m hm rfl h2
   ·simp;rw[zQ]at hp;obtain⟨s,hs,rfl⟩:=zN.1 hp;rw[Fu];have zk:s∈l:=z6 s (zF hs);have zl:=y9 s zk;have z7:∀z∈left.eraseIdx i,z∈l:=fun z hz=>z6 z (uw hz);have zz:(left.eraseIdx i).length<left.length:=by rw[u5,if_pos (Yi hs)];have:=Yi hs;omega
    have y0:∀z,z∈l∧z∉left.eraseIdx i→(z∈l∧z∉left)∨z=s:=fun z hz=>by
     by_cases zm:z∈left
     ·exact .inr (mem_erase hs zm hz.2)
     ·exact .inl ⟨hz.1,zm⟩
    generalize left.eraseIdx i=left' at *
    have k0:=Qg (j:=G.length+3) (by omega) e0 (.it (left'.map fun z=>(.i z,.bool true)) (some (.i s,.bool true)));have kx:=Qg (j:=G.length+3) (by omega) ex (.it (left'.map fun z=>(.i z,.bool true)) (some (.i s,.bool true)));have km:=Qg (j:=G.length+3) (by omega) em (.it (left'.map fun z=>(.i z,.bool true)) (some (.i s,.bool true)));have kc:=Qg (j:=G.length+3) (by omega) ec (.it (left'.map fun z=>(.i z,.bool true)) (some (.i s,.bool true)));have ki:=Qo ei (.it (left'.map fun z=>(.i z,.bool true)) (some (.i s,.bool true)));have kl:(E.set (G.length+3) (.it (left'.map fun z=>(.i z,.bool true)) (some (.i s,.bool true)))).length=E.length:=by simp
    generalize E.set (G.length+3) (.it (left'.map fun z=>(.i z,.bool true)) (some (.i s,.bool true)))=E1 at *
    repeat first|(refine r_ ?_;simp)|refine q_ ?_
    refine Qq rfl ?_;simp;repeat first|(refine r_ ?_;simp)|refine q_ ?_
    refine Pj rfl rfl rfl rfl ki ?_;simp;repeat first|(refine r_ ?_;simp[k0])|refine q_ ?_
    refine Qd rfl rfl (by simp) (j1i a s) rfl ?_;rintro _ rfl;simp;repeat first|(refine r_ ?_;simp)|refine q_ ?_
    have yb:∀z∈Qu a R x,0≤z∧z<a.fin.length:=Tz;refine E4 rfl (Rf:=fun _ H'=>∃zt,E1.length<H'.length∧(∃sl' ps' a' b',H'[E1.length]? =some (.lp true none 96 sl' ps' a' b'))∧H'[0]? =some (.vars (Qp a))∧H'[G.length]? =some (.vars [.i x.ty,.i x.num])∧H'[G.length+1]? =some (stM zt)∧H'[G.length+2]? =some (.vars [.mref (G.length+1)])∧H'[G.length+3]? =some (.it (left'.map fun z=>(.i z,.bool true)) (some (.i s,.bool true)))∧
     Nx a R x (fun i=>i∈l∧i∉left') zt) ?_ ?_
    ·simp;refine Kl fun H1 ze=> ?_;have f0:H1[0]? =some (.vars (Qp a)):=by rw[ze];exact Qc k0 _
     have fx:H1[G.length]? =some (.vars [.i x.ty,.i x.num]):=by rw[ze];exact Qc kx _
     have fm:H1[G.length+1]? =some (stM nx):=by rw[ze];exact Qc km _
     have fc:H1[G.length+2]? =some (.vars [.mref (G.length+1)]):=by rw[ze];exact Qc kc _
     have fi:H1[G.length+3]? =some (.it (left'.map fun z=>(.i z,.bool true)) (some (.i s,.bool true))):=by rw[ze];exact Qc ki _
     have fq:=congrArg (fun h:List AObj=>h[E1.length]?) ze;simp at fq;have zr:H1.length=E1.length+1:=by rw[ze];simp
     clear ze;refine El tOk Tryz.func104 rfl Tryz.results104 rfl (by simp[Tryz.ntmps104]) ?_;rw[Tryz.ntmps104];simp only[Qe];repeat first|(refine r_ ?_;simp)|refine q_ ?_
     obtain⟨LP0,zh,yc⟩:∃X,X=_∧H1[E1.length]? =some X:=⟨_,rfl,fq⟩
     have yj:=Qi ki;refine Ql (Qb (sl':=[(0,.yld E1.length),(1,.iptr (Qp a)),(2,.iptr [.i s]),(7,.list (a.mv.map encMv)),(8,.i a.mv.length),(9,.i (0:Nat))]) ?_ (by simp));refine Qm (F:=fun(u:Nat×List Int×List AObj)=>⟨[(0,.yld E1.length),(1,.iptr (Qp a)),(2,.iptr [.i s]),(7,.list (a.mv.map encMv)),(8,.i a.mv.length),(9,.i u.1)],u.2.2⟩)
      (fun u=>u.1≤a.mv.length∧u.2.2[0]? =some (.vars (Qp a))∧u.2.2[G.length]? =some (.vars [.i x.ty,.i x.num])∧u.2.2[G.length+1]? =some (stM u.2.1)∧u.2.2[G.length+2]? =some (.vars [.mref (G.length+1)])∧u.2.2[G.length+3]? =some (.it (left'.map fun z=>(.i z,.bool true)) (some (.i s,.bool true)))∧u.2.2[E1.length]? =some LP0∧
       (∀z∈nx,z∈u.2.1)∧(∀z∈u.2.1,z∈Qu a R x)∧(∀m∈a.mv.take u.1,m.src=s→Rp m.on x=true→m.dst∈u.2.1)) (fun u=>a.mv.length - u.1) ?_ (0,nx,H1) ⟨by simp,f0,fx,fm,fc,fi,yc,fun z hz=>hz,zd.sub,by simp⟩
     clear f0 fx fm fc fi yc fq;rintro⟨k,ny,J⟩ ⟨hk,f0,fx,fm,fc,fi,fq,zu,zf,zn⟩ ih3;simp only at hk f0 fx fm fc fi fq zu zf zn ih3 ⊢;repeat first|(refine r_ ?_;simp)|refine q_ ?_
     refine Qa rfl (fun y1=> ?_) (fun y2=> ?_)
     ·have z8:k<a.mv.length:=by simpa using y1
      have yd:IntKind.i64.wrap ((k:Int)+1)=k+1:=wrap_i64 _ (by have:=zc.mvs;omega) (by have:=zc.mvs;omega);have ye:∀m∈a.mv.take (k+1),m∈a.mv.take k∨m=a.mv[k]:=fun m hm=>by
       rw[zL z8]at hm;rcases zO.1 hm with h|h
       ·exact .inl h
       ·exact .inr (zJ.1 h)
      have yf:=zG z8;have yg:=zc.mv _ yf;repeat first|(refine r_ ?_;simp[z8])|refine q_ ?_
      generalize a.mv[k]=m at *
      have yk:Z8 m.on x=(Rp m.on x,0):=by rw[Nu ((W9 a.types m.on).2 ⟨zc.types,yg.on⟩),if_neg (fun k=>k ((D7 _ _).2 hx))]
      have j0:=Qc f0 [AObj.vars [.i m.src,.i m.dst,.list (m.on.map encL)]];have jx:=Qc fx [AObj.vars [.i m.src,.i m.dst,.list (m.on.map encL)]];have jm:=Qc fm [AObj.vars [.i m.src,.i m.dst,.list (m.on.map encL)]];have jc:=Qc fc [AObj.vars [.i m.src,.i m.dst,.list (m.on.map encL)]];have ji:=Qc fi [AObj.vars [.i m.src,.i m.dst,.list (m.on.map encL)]];have jq:=Qc fq [AObj.vars [.i m.src,.i m.dst,.list (m.on.map encL)]];have jl:(J++[AObj.vars [.i m.src,.i m.dst,.list (m.on.map encL)]]).length=J.length+1:=by simp
      have yp:E1.length<J.length:=Qi fq;generalize J++[AObj.vars [.i m.src,.i m.dst,.list (m.on.map encL)]]=J1 at *
      have y3:=yg.dst;by_cases hms:m.src=s
      ·have hb:(m.src==s)=true:=by simpa using hms
       obtain⟨zb,zi,yh,yl,ym⟩:∃zb,zb=(if m.dst∈ny then ny else if Rp m.on x then ny++[m.dst]else ny)∧(∀z∈ny,z∈zb)∧(∀z∈zb,z∈Qu a R x)∧(Rp m.on x=true→m.dst∈zb):=by
        refine⟨_,rfl,fun z hz=> ?_,fun z hz=> ?_,fun h2=> ?_⟩
        ·split
         ·exact hz
         ·split
          ·exact xC _ hz
          ·exact hz
        ·split at hz
         ·exact zf z hz
         ·split at hz
          ·rename_i hh;rcases zO.1 hz with hz|hz
           ·exact zf z hz
           ·rw[zJ.1 hz];exact Wz.2 ⟨y3,m,yf,by rw[hms];exact(hl s).1 zk,hh,rfl⟩
          ·exact zf z hz
        ·split
         ·assumption
         ·simp[h2]
       simp only[hb];refine Uk rfl rfl (q:=E1.length) rfl rfl (by rw[←zh];exact jq) rfl rfl rfl (fun jm K2=>jm=none∧K2[0]? =some (.vars (Qp a))∧K2[G.length]? =some (.vars [.i x.ty,.i x.num])∧K2[G.length+1]? =some (stM zb)∧K2[G.length+2]? =some (.vars [.mref (G.length+1)])∧K2[G.length+3]? =some (.it (left'.map fun z=>(.i z,.bool true)) (some (.i s,.bool true)))∧E1.length<K2.length) ?_ ?_
       ·simp[Ts];have r0:=Qg (j:=E1.length) (by omega) j0 .dead;have rx:=Qg (j:=E1.length) (by omega) jx .dead;have rm:=Qg (j:=E1.length) (by omega) jm .dead;have rc:=Qg (j:=E1.length) (by omega) jc .dead;have ri:=Qg (j:=E1.length) (by omega) ji .dead;have rd:=Qo jq .dead;have rl:(J1.set E1.length .dead).length=J.length+1:=by simp[jl]
        generalize J1.set E1.length .dead=Y at *
        have q0:=Qc r0 [AObj.vars [.i m.src,.i m.dst,.list (m.on.map encL)]];have qx:=Qc rx [AObj.vars [.i m.src,.i m.dst,.list (m.on.map encL)]];have qm:=Qc rm [AObj.vars [.i m.src,.i m.dst,.list (m.on.map encL)]];have zo:=Qc rc [AObj.vars [.i m.src,.i m.dst,.list (m.on.map encL)]];have qi:=Qc ri [AObj.vars [.i m.src,.i m.dst,.list (m.on.map encL)]];have zj:=Qc rd [AObj.vars [.i m.src,.i m.dst,.list (m.on.map encL)]];have ql:(Y++[AObj.vars [.i m.src,.i m.dst,.list (m.on.map encL)]]).length=J.length+2:=by simp[rl]
        have q5:(Y++[AObj.vars [.i m.src,.i m.dst,.list (m.on.map encL)]])[Y.length]? =some (.vars [.i m.src,.i m.dst,.list (m.on.map encL)]):=by simp
        repeat first|(refine r_ ?_;simp[zo])|refine q_ ?_
        generalize Y++[AObj.vars [.i m.src,.i m.dst,.list (m.on.map encL)]]=Z at *;refine Bi (z:=m.dst) rfl rfl rfl rfl rfl qm (fun z hz=>by have:=yb z (zf z hz);omega) (by omega) ?_
        by_cases hmem:m.dst∈ny
        ·have za:zb=ny:=by rw[zi,if_pos hmem]
         subst za;simp[hmem,q5,qx];refine Wb rfl rfl ?_;simp;repeat first|(refine r_ ?_;simp)|refine q_ ?_
         refine Qa rfl (fun h=>by cases h) (fun _=> ?_);repeat first|(refine r_ ?_;simp)|refine q_ ?_
         exact⟨zj,rfl,q0,qx,qm,zo,qi,Qi zj⟩
        ·simp[hmem,q5,qx];refine Qd rfl rfl (by simp) (Vp m.on x) rfl ?_;rintro _ rfl;simp[yk];repeat first|(refine r_ ?_;simp)|refine q_ ?_
         refine Qa rfl (fun hh=> ?_) (fun hh=> ?_)
         ·have za:zb=ny++[m.dst]:=by rw[zi,if_neg hmem,if_pos (by simpa using hh)]
          repeat first|(refine r_ ?_;simp[zo,q5])|refine q_ ?_
          refine z0p (z:=m.dst) rfl rfl rfl rfl rfl rfl qm (fun z hz=>by have:=yb z (zf z hz);omega) (by omega) hmem ?_;simp;repeat first|(refine r_ ?_;simp)|refine q_ ?_
          rw[←za];refine⟨Qg (by omega) zj _,rfl,Qg (by omega) q0 _,Qg (by omega) qx _,Qo qm _,Qg (by omega) zo _,Qg (by omega) qi _,by simpa using Qi zj⟩
         ·have za:zb=ny:=by rw[zi,if_neg hmem,if_neg (by simpa using hh)]
          subst za;repeat first|(refine r_ ?_;simp)|refine q_ ?_
          exact⟨zj,rfl,q0,qx,qm,zo,qi,Qi zj⟩
       ·rintro jm K2 ⟨rfl,v0,vx,vm,vc,vi,vl⟩;simp;repeat first|(refine r_ ?_;simp)|refine q_ ?_
        refine Qa rfl (fun h=>by cases h) (fun _=> ?_);repeat first|(refine r_ ?_;simp[yd])|refine q_ ?_
        have u0:=Qg (j:=E1.length) (by omega) v0 LP0;have ux:=Qg (j:=E1.length) (by omega) vx LP0;have um:=Qg (j:=E1.length) (by omega) vm LP0;have uc:=Qg (j:=E1.length) (by omega) vc LP0;have ui:=Qg (j:=E1.length) (by omega) vi LP0;have uq:(K2.set E1.length LP0)[E1.length]? =some LP0:=zH vl;rw[←zh];refine Qb (sl':=[(0,.yld E1.length),(1,.iptr (Qp a)),(2,.iptr [.i s]),(7,.list (a.mv.map encMv)),(8,.i a.mv.length),(9,.i (k+1:Nat))]) ?_ (by simp);refine ih3 (k+1,zb,_) ⟨by omega,u0,ux,um,uc,ui,uq,fun z hz=>yh z (zu z hz),yl,fun m' y4 h1 h2=> ?_⟩ (by omega);rcases ye m' y4 with h3|rfl
        ·exact yh _ (zn m' h3 h1 h2)
        ·exact ym h2
      ·have hb:(m.src==s)=false:=by simpa using hms
       simp only[hb];refine Wb rfl rfl ?_;simp;repeat first|(refine r_ ?_;simp)|refine q_ ?_
       refine Qa rfl (fun h=>by cases h) (fun _=> ?_);repeat first|(refine r_ ?_;simp[yd])|refine q_ ?_
       refine Qb (sl':=[(0,.yld E1.length),(1,.iptr (Qp a)),(2,.iptr [.i s]),(7,.list (a.mv.map encMv)),(8,.i a.mv.length),(9,.i (k+1:Nat))]) ?_ (by simp);refine ih3 (k+1,ny,J1) ⟨by omega,j0,jx,jm,jc,ji,jq,zu,zf,fun m' y4 h1 h2=> ?_⟩ (by omega);rcases ye m' y4 with h3|rfl
       ·exact zn m' h3 h1 h2
       ·exact absurd h1 hms
     ·have zp:k=a.mv.length:=by simp at y2;omega
      subst zp;repeat first|(refine r_ ?_;simp)|refine q_ ?_
      rw[zZ]at zn;refine⟨Qi fq,⟨_,_,_,_,by rw[fq,zh]⟩,f0,fx,ny,fm,fc,fi,⟨zf,fun i hi m hm h1 h2=> ?_⟩⟩;rcases y0 i hi with h3|rfl
      ·exact zu _ (zd.all i h3 m hm h1 h2)
      ·exact zn m hm h1 h2
    ·rintro r H' ⟨zt,hl',⟨sl',ps',a',b',k4⟩,v0,vx,vm,vc,vi,y5⟩;refine⟨_,_,_,_,_,_,_,k4,?_⟩;simp;have w0:=Qg (j:=E1.length) (by have:=Qi k0;have:=Qi ki;omega) v0 .dead;have wx:=Qg (j:=E1.length) (by have:=Qi ki;omega) vx .dead;have wm:=Qg (j:=E1.length) (by have:=Qi ki;omega) vm .dead;have wc:=Qg (j:=E1.length) (by have:=Qi ki;omega) vc .dead;have wi:=Qg (j:=E1.length) (by have:=Qi ki;omega) vi .dead;have wl:(H'.set E1.length .dead).length=H'.length:=by simp
     generalize H'.set E1.length .dead=Y at *
     repeat first|(refine r_ ?_;simp)|refine q_ ?_
     refine Qb (sl':=[(1,LSy w),(2,.vptr 0 0),(15,.vptr G.length 0),(16,.vptr (G.length+2) 0),(52,LSy w),(53,.i w.length),(54,.i j),(60,.vptr (G.length+3) 0)]) ?_ (by simp);exact ih2 (left',some (.i s,.bool true),zt,Y) ⟨w0,wx,wm,wc,wi,by show G.length+4≤Y.length;have:=Qi wi;omega,z7,y5⟩ zz
  ·have zg:j=w.length:=by simp at zw;omega
   subst zg;rw[zZ]at hl;repeat first|(refine r_ ?_;simp)|refine q_ ?_
   refine Gh tOk rfl rfl rfl T79 rfl rfl gq ?_;simp;repeat first|(refine r_ ?_;simp)|refine q_ ?_
   have zx:q≠0:=fun e=>by subst e;rw[g0]at gq;unfold stM at gq;simp at gq
   refine Eo fun E hE=> ?_;have e0:E[0]? =some (.vars (Qp a)):=by rw[hE];exact Qc (Qg zx g0 _) _
   have ei:E[G.length]? =some (.it (l.map fun z=>(.i z,.bool true)) none):=by rw[hE];rw[zC (by simp)];simp
   clear hE;refine Ql (Qb (sl':=[(2,.vptr 0 0),(86,.vptr G.length 0)]) ?_ (by simp));refine Qm (F:=fun(u:List Int×Option (AV×AV)×List AObj)=>⟨[(2,.vptr 0 0),(86,.vptr G.length 0)],u.2.2⟩)
    (fun u=>u.2.2[0]? =some (.vars (Qp a))∧u.2.2[G.length]? =some (.it (u.1.map fun z=>(.i z,.bool true)) u.2.1)∧(∀z∈u.1,z∈l)∧∀z∈l,z∉u.1→a.fin.getD z.toNat false=false) (fun u=>u.1.length) ?_ (l,none,E) ⟨e0,ei,fun z hz=>hz,fun z hz hn=>absurd hz hn⟩
   clear e0 ei;clear E;rintro⟨left,cur,E⟩ ⟨e0,ei,z6,y6⟩ ih2;simp only at e0 ei z6 y6 ih2 ⊢;repeat first|(refine r_ ?_;simp)|refine q_ ?_
   refine Sj rfl rfl rfl rfl ei (fun zy=> ?_) (fun i p hp=> ?_)
   ·simp;have zr:left=[]:=by simpa using zy
    subst zr;repeat first|(refine r_ ?_;simp)|refine q_ ?_
    refine Qq rfl ?_;simp;repeat first|(refine r_ ?_;simp)|refine q_ ?_
    have:Yl a w=false:=by rw[wS,Ne,Mw];rintro⟨s,hs,hf⟩;rw[y6 s ((hl s).2 hs) (by simp)]at hf;cases hf
    rw[this]
   ·simp;rw[zQ]at hp;obtain⟨s,hs,rfl⟩:=zN.1 hp;rw[Fu];have zk:s∈l:=z6 s (zF hs);have zl:=y9 s zk;have z7:∀z∈left.eraseIdx i,z∈l:=fun z hz=>z6 z (uw hz);have zz:(left.eraseIdx i).length<left.length:=by rw[u5,if_pos (Yi hs)];have:=Yi hs;omega
    have y0:∀z,z∈l→z∉left.eraseIdx i→(z∈l∧z∉left)∨z=s:=fun z hz y7=>by
     by_cases zm:z∈left
     ·exact .inr (mem_erase hs zm y7)
     ·exact .inl ⟨hz,zm⟩
    generalize left.eraseIdx i=left' at *
    have yi:=Qi g0;have k0:=Qg (j:=G.length) (by omega) e0 (.it (left'.map fun z=>(.i z,.bool true)) (some (.i s,.bool true)));have ki:=Qo ei (.it (left'.map fun z=>(.i z,.bool true)) (some (.i s,.bool true)));generalize E.set G.length (.it (left'.map fun z=>(.i z,.bool true)) (some (.i s,.bool true)))=E1 at *
    repeat first|(refine r_ ?_;simp)|refine q_ ?_
    refine Qq rfl ?_;simp;repeat first|(refine r_ ?_;simp)|refine q_ ?_
    refine Pj rfl rfl rfl rfl ki ?_;simp;have y8:s.toNat<a.fin.length:=by omega
    repeat first|(refine r_ ?_;simp[k0,zl,y8])|refine q_ ?_
    refine Qa rfl (fun hh=> ?_) (fun hh=> ?_)
    ·repeat first|(refine r_ ?_;simp)|refine q_ ?_
     have:Yl a w=true:=(Mw a w).2 ⟨s,(hl s).1 zk,by simp[yQ,y8,hh]⟩;rw[this]
    ·repeat first|(refine r_ ?_;simp)|refine q_ ?_
     refine Qb (sl':=[(2,.vptr 0 0),(86,.vptr G.length 0)]) ?_ (by simp);refine ih2 (left',some (.i s,.bool true),E1) ⟨k0,ki,z7,fun z hz y7=> ?_⟩ zz;rcases y0 z hz y7 with h3|rfl
     ·exact y6 z h3.1 h3.2
     ·simp[yQ,y8,hh]
end Go.Abs
namespace Go.Abs
open Go Go.Proofs Go.Maps
attribute [simp] T91 T84
abbrev LQ (Q:List (List Int)):List AV:=Q.map fun l=>LI l
structure TB (r p m:Nat) (a:Aut) (cl:List Prd) (Q:List (List Int)) (H:List AObj):Prop where
 t:H[r]? =some (.vars [.i a.types,.list (a.fin.map .bool),.list (a.mv.map encMv),LP cl,.sl p 1 0 Q.length,.mref m])
 s:H[p]? =some (.arr 47 1 (LQ Q))
 n:H[m]? =some (mpT (Q.map R6))
def An(x:List Int):Prop:=x≠[]∧x.length≤256∧∀z∈x,0≤z∧z≤1000000
def v0c(Q:List (List Int))(x:List Int):List (List Int):=if x∈Q then Q else Q++[x]
theorem TB.keep{r p m:Nat}{a:Aut}{cl:List Prd}{Q:List (List Int)}{H H':List AObj}(h:TB r p m a cl Q H)(hk:∀j,(j=r∨j=p∨j=m)→H'[j]? =H[j]?):TB r p m a cl Q H':=
 ⟨(hk r (.inl rfl)).trans h.t,(hk p (.inr (.inl rfl))).trans h.s,(hk m (.inr (.inr rfl))).trans h.n⟩
theorem TB.ne{r p m:Nat}{a:Aut}{cl:List Prd}{Q:List (List Int)}{H:List AObj}(h:TB r p m a cl Q H):r≠p∧r≠m∧p≠m:=by
 refine⟨fun e=> ?_,fun e=> ?_,fun e=> ?_⟩
 ·have h1:=h.t;rw[e,h.s]at h1;simp at h1
 ·have h1:=h.t;rw[e,h.n,Ez]at h1;simp at h1
 ·have h1:=h.s;rw[e,h.n,Ez]at h1;simp at h1
theorem An.rng{x:List Int}(h:An x):∀z∈x,-9223372036854775808≤z∧z≤9223372036854775807:=fun z hz=>by have:=h.2.2 z hz;omega
theorem Hj{x:List Int}(h:An x):(R6 x).length≤1000000:=by have:=Mg h.rng;have:=h.2.1;omega
theorem c1q{x:List Int}{Q:List (List Int)}(hQ:∀l∈Q,An l)(hx:An x):R6 x∈Q.map R6↔x∈Q:=by refine⟨fun h=> ?_,fun h=>zM.2 ⟨x,h,rfl⟩⟩;obtain⟨l,hl,e⟩:=zM.1 h;rw[←L3 (fun z hz=>((hQ l hl).2.2 z hz).1) (fun z hz=>(hx.2.2 z hz).1) e];exact hl
attribute [local irreducible] mpT R6
theorem N9(H:List AObj)(r p m:Nat)(a:Aut)(cl:List Prd)(Q:List (List Int))(x:List Int)(h:TB r p m a cl Q H)(hx:An x)(hQ:∀l∈Q,An l)(zg:Q.length≤100000):
  FC Tryz.prog 50 [.vptr r 0,LI x] H (fun res H'=>∃(j p':Nat),res= .i j∧(v0c Q x)[j]? =some x∧TB r p' m a cl (v0c Q x) H'∧(p'=p∨H.length≤p')∧H.length≤H'.length∧(x∈Q→H'=H)∧∀i,i<H.length→i≠r→i≠p→i≠m→H'[i]? =H[i]?):=by
 refine El tOk Tryz.func50 rfl Tryz.results50 rfl (by simp[Tryz.ntmps50]) ?_;rw[Tryz.ntmps50];simp only[Qe];repeat first|(refine r_ ?_;simp)|refine q_ ?_
 refine Qd rfl rfl (by simp) (j1x x hx.rng (by have:=hx.2.1;omega) hx.1) rfl ?_;rintro _ rfl;simp;have ht:=h.t;have hn:=h.n;have hs:=h.s;obtain⟨n1,n2,n3⟩:=h.ne;repeat first|(refine r_ ?_;simp[ht])|refine q_ ?_
 have z8:∀k∈Q.map R6,k.length≤1000000:=fun k hk=>by obtain⟨l,hl,rfl⟩:=zM.1 hk;exact Hj (hQ l hl)
 refine He (n:=R6 x) rfl rfl rfl rfl rfl hn z8 (Hj hx) (fun j hj=> ?_) (fun za=> ?_)
 ·have zb:Q[j]? =some x:=by rw[zQ]at hj;obtain⟨l,hl,e⟩:=zN.1 hj;rw[←L3 (fun z hz=>((hQ l (zF hl)).2.2 z hz).1) (fun z hz=>(hx.2.2 z hz).1) e];exact hl
  have z1:v0c Q x=Q:=by rw[v0c,if_pos (zF zb)]
  rw[z1];simp;repeat first|(refine r_ ?_;simp)|refine q_ ?_
  refine Qq rfl ?_;simp;repeat first|(refine r_ ?_;simp)|refine q_ ?_
  exact⟨j,rfl,zb,p,h,.inl rfl⟩
 ·have zc:x∉Q:=fun hm=>za ((c1q hQ hx).2 hm);have z1:v0c Q x=Q++[x]:=by rw[v0c,if_neg zc]
  rw[z1];have ze:(Q.map R6).length=Q.length:=by simp
  simp;repeat first|(refine r_ ?_;simp)|refine q_ ?_
  refine Qq rfl ?_;simp;repeat first|(refine r_ ?_;simp[ht])|refine q_ ?_
  refine Jw (n:=R6 x) rfl rfl rfl rfl rfl (ks:=Q.map R6) (by rw[ze];rfl) hn z8 (Hj hx) za ?_;simp;have z6:=Qg (Ne.symm n2) ht (mpT (Q.map R6++[R6 x]));have z7:=Qg (Ne.symm n3) hs (mpT (Q.map R6++[R6 x]));have zd:=Qo hn (mpT (Q.map R6++[R6 x]));have zf:∀i,i≠m→(H.set m (mpT (Q.map R6++[R6 x])))[i]? =H[i]? :=fun i hi=>zB (Ne.symm hi);have zh:(H.set m (mpT (Q.map R6++[R6 x]))).length=H.length:=by simp
  generalize H.set m (mpT (Q.map R6++[R6 x]))=G at *
  repeat first|(refine r_ ?_;simp[z6])|refine q_ ?_
  have g1:∀L,(G.set p .dead++L)[r]? =some (.vars [.i a.types,.list (a.fin.map .bool),.list (a.mv.map encMv),LP cl,.sl p 1 0 Q.length,.mref m]):=fun L=>Qc (Qg (Ne.symm n1) z6 _) L;refine Qf tOk rfl rfl T88 rfl T47 rfl (by decide) (by decide) rfl rfl rfl ?_;simp[Qc z7,Qj z7,Qc z6,g1];refine⟨by simp[Ws,Qc z7,Qj z7,Qc z6,g1]<;>omega,?_⟩;repeat first|(refine r_ ?_;simp[g1])|refine q_ ?_
  have zi:=Qi z6;have zj:=Qi z7;have zk:=Qi zd;refine⟨Q.length,rfl,by simp,G.length+1,⟨?_,?_,?_⟩,.inr (by omega),by omega,fun h=>absurd h zc,fun i hi h1 h2 h3=> ?_⟩
  ·rw[zH (by simp;omega)];simp
  ·rw[zB (by omega),zC (by simp)];simp[LQ]
  ·rw[zB n2,zE (by simp;omega),zB n3,zd];simp
  ·rw[zB (Ne.symm h1),zE (by simp;omega),zB (Ne.symm h2)];exact zf i h3
end Go.Abs
namespace Go.Abs
open Go Go.Proofs Go.Maps
theorem Af(H:List AObj)(r:Nat)(x:List Int):FC Tryz.prog 49 [.vptr r 0,LI x] H (fun res H'=>res= .fn (.func 107) [] [.vptr H.length 0,.vptr (H.length+1) 0]∧H'=H++[.vars [.vptr r 0],.vars [LI x]]):=by refine El tOk Tryz.func49 rfl Tryz.results49 rfl (by simp[Tryz.ntmps49]) ?_;rw[Tryz.ntmps49];simp only[Qe];repeat first|(refine r_ ?_;simp)|refine q_ ?_
attribute [local irreducible] Qu Qk
theorem w0d (a:Aut) (ha:OkA a) (cl:List Prd) (set:List Int) (zg:∀c∈cl,H4 [c]=0∧Wp c=false∧W2 a (Qk c)) (zn:cl.length≤256) (q c1 c2 r:Nat) {z7:Nat} {sl':List (Nat×AV)} {ps:List Tmp} {asg body:Code} (zh:ps.length=2) (zi:(ps.all fun p=>decide (p<z7))=true)
  (Inv:Nat→List AObj→Prop)
  (hI:∀k H,Inv k H→H[q]? =some (.lp true none z7 sl' ps asg body)∧H[c1]? =some (.vars [.vptr r 0])∧H[c2]? =some (.vars [LI set])∧∃rest,H[r]? =some (.vars (.i a.types:: .list (a.fin.map .bool):: .list (a.mv.map encMv)::LP cl::rest)))
  (z8:∀k H L,Inv k H→Inv k (H++L))
  (za:∀k c H,cl[k]? =some c→Qu a set (Qk c)=[]→Inv k H→Inv (k+1) H)
  (z1:∀k c H,cl[k]? =some c→Qu a set (Qk c)≠[]→Inv k H→AWP Tryz.prog z7 H.length asg (S8 (AWP Tryz.prog z7 H.length body (d0q q (fun jm K2=>jm=none∧Inv (k+1) (K2.set q (.lp true none z7 sl' ps asg body))))) (fun _ _=>False)) ⟨Ts sl' ps [encP c,LI (Qu a set (Qk c))],H.set q .dead⟩)
  (H0:List AObj) (h0:Inv 0 H0):FC Tryz.prog 107 [.yld q,.vptr c1 0,.vptr c2 0] H0 (fun _ H'=>Inv cl.length H'):=by
 refine El tOk Tryz.func107 rfl Tryz.results107 rfl (by simp[Tryz.ntmps107]) ?_;rw[Tryz.ntmps107];simp only[Qe];obtain⟨i1,i2,i3,rest,i4⟩:=hI 0 H0 h0;repeat first|(refine r_ ?_;simp[i2,i4])|refine q_ ?_
 refine Ql (Qb (sl':=[(0,.yld q),(1,.vptr c1 0),(2,.vptr c2 0),(12,LP cl),(13,.i cl.length),(14,.i (0:Nat))]) ?_ (by simp));clear i1 i2 i3 i4;clear rest;refine Qm (F:=fun(u:Nat×List AObj)=>⟨[(0,.yld q),(1,.vptr c1 0),(2,.vptr c2 0),(12,LP cl),(13,.i cl.length),(14,.i u.1)],u.2⟩)
  (fun u=>u.1≤cl.length∧Inv u.1 u.2) (fun u=>cl.length - u.1) ?_ (0,H0) ⟨by simp,h0⟩
 rintro⟨k,H⟩ ⟨hk,hv⟩ ih;simp only at hk hv ih ⊢;repeat first|(refine r_ ?_;simp)|refine q_ ?_
 refine Qa rfl (fun zj=> ?_) (fun zk=> ?_)
 ·have z6:k<cl.length:=by simpa using zj
  have hw:IntKind.i64.wrap ((k:Int)+1)=k+1:=wrap_i64 _ (by omega) (by omega);have zc:=zg _ (zG z6);have zb:cl[k]? =some cl[k]:=zD z6;repeat first|(refine r_ ?_;simp[z6])|refine q_ ?_
  generalize cl[k]=c at *;refine Qd rfl rfl (by simp) (z0a c zc.1 zc.2.1) rfl ?_
  rintro _ rfl;simp;repeat first|(refine r_ ?_;simp)|refine q_ ?_
  have zd:=z8 k H [.vars [.list (c.map encL)],.vars [.i (Qk c).ty,.i (Qk c).num]] hv;obtain⟨i1,i2,i3,rest,i4⟩:=hI k _ zd;have h6:(H++[AObj.vars [.list (c.map encL)],.vars [.i (Qk c).ty,.i (Qk c).num]])[H.length+1]? =some (.vars [.i (Qk c).ty,.i (Qk c).num]):=by rw[zC (by omega)];simp
  have h5:(H++[AObj.vars [.list (c.map encL)],.vars [.i (Qk c).ty,.i (Qk c).num]])[H.length]? =some (.vars [.list (c.map encL)]):=by rw[zC (by omega)];simp
  generalize H++[AObj.vars [.list (c.map encL)],.vars [.i (Qk c).ty,.i (Qk c).num]]=G at *;refine Qn tOk mixed [] (.val 0 (.val 1 (.val 2 (.val 3 (.val 4 (.val 5 (.one 6 (.val 7 (.done))))))))) rfl (by kernel_rfl) ?_
  simp[i2,i3,i4,h6];refine Qd rfl rfl (by simp) (Vj a ha set (Qk c) zc.2.2) rfl ?_;rintro _ rfl;simp;have hlen:=Fb ha set (Qk c);have zl:=za k c G zb;have zm:=z1 k c G zb;generalize Qu a set (Qk c)=nx at *
  by_cases hnx:nx=[]
  ·subst hnx;repeat first|(refine r_ ?_;simp[h5])|refine q_ ?_
   refine Wb rfl rfl ?_;simp;repeat first|(refine r_ ?_;simp)|refine q_ ?_
   refine Qa rfl (fun h=>by cases h) (fun _=> ?_);repeat first|(refine r_ ?_;simp[hw])|refine q_ ?_
   refine Qb (sl':=[(0,.yld q),(1,.vptr c1 0),(2,.vptr c2 0),(12,LP cl),(13,.i cl.length),(14,.i (k+1:Nat))]) ?_ (by simp);exact ih (k+1,G) ⟨by omega,zl rfl zd⟩ (by omega)
  ·have ze:0<nx.length:=ua.2 hnx;repeat first|(refine r_ ?_;simp[h5,ze])|refine q_ ?_
   refine Uk rfl rfl (q:=q) rfl rfl i1 zh zi rfl (fun jm K2=>jm=none∧Inv (k+1) (K2.set q (.lp true none z7 sl' ps asg body))) ?_ ?_
   ·exact zm hnx zd
   ·rintro jm K2 ⟨rfl,hK⟩;simp;repeat first|(refine r_ ?_;simp)|refine q_ ?_
    refine Qa rfl (fun h=>by cases h) (fun _=> ?_);repeat first|(refine r_ ?_;simp[hw])|refine q_ ?_
    refine Qb (sl':=[(0,.yld q),(1,.vptr c1 0),(2,.vptr c2 0),(12,LP cl),(13,.i cl.length),(14,.i (k+1:Nat))]) ?_ (by simp);exact ih (k+1,_) ⟨by omega,hK⟩ (by omega)
 ·have zf:k=cl.length:=by simp at zk;omega
  subst zf;repeat first|(refine r_ ?_;simp)|refine q_ ?_
  exact hv
end Go.Abs
namespace Go.Abs
open Go Go.Proofs Go.Maps Go.RowKit
section
variable {P:Program} [Env P] {T:TT} {nt k:Nat} {S:AS} {ops:Array Oper} {o:Oper} {R:AS→Prop} {Q:Exit→AS→Prop}
theorem Zm {wr:Bool} {sl:List (Nat×AV)} {H:List AObj} (i j e sz:Nat) {xs:List AV} (hi:H[i]? =some (.vars xs)) (hj:xs[j]? =some .nils)
  (h:Wm P nt k wr ops o ⟨sl,(H++[AObj.arr e sz []]).set i (.vars (xs.set j (.sl H.length sz 0 0)))⟩ R):Wm P nt k wr ops o ⟨sl,H⟩ R:=fun C a w K Q' hs=>by
 obtain⟨I,m,hw,z1,hk,hf⟩:=hs;obtain⟨g1,g2⟩:=hw.push (Below.refl _ _) none (fun b e=>by cases e) (.arr e sz []) (fun m' _ _=> .inl ⟨rfl,rfl⟩);have z8:i<H.length:=(zA.1 hi).1;have z6:(H++[AObj.arr e sz []])[i]? =some (.vars xs):=by rw[zE z8];exact hi
 obtain⟨b,t,vs,hb,hh,za,hr⟩:=g1.obj i _ z6;obtain⟨g3,g4⟩:=g1.set (w':=w) (o':= .vars (xs.set j (.sl H.length sz 0 0))) z6 rfl hb (World.grownBy.refl _ _) (fun _ h=>h) (fun m' z7=>⟨b,t,vs,rfl,hh,by simp[za],fun q v x hv hx=>by
  by_cases hq:j=q
  ·subst hq;rw[zH (zA.1 hj).1]at hx;cases hx;have:=(hr j v _ hv hj).nils_inv;subst this;exact .slnone H.length sz (by simp) (by rw[z7.ids _ (by simp)];exact Wc ..)
  ·rw[zB hq]at hx;exact(hr q v x hv hx).mono z7 (zK _)⟩)
 have hlen:((H++[AObj.arr e sz []]).set i (.vars (xs.set j (.sl H.length sz 0 0)))).length=H.length+1:=by simp
 refine h C a w K Q' ⟨I,upd m H.length none,g3,⟨z1.1,z1.2.1,fun s x hx=> ?_⟩,by simp at hk ⊢;omega,hf.trans hk g2⟩;obtain⟨v,hv,zb⟩:=z1.2.2 s x hx;refine⟨v,hv,?_⟩;have:=zb.mono (n':=H.length+1) g2 (by simp);rw[hlen];exact this
end
theorem Cn{a:Aut}(h:OkA a)(hm:(Rs a.types (onA a)).1=0):∃cl,Rs a.types (onA a)=(0,cl)∧Cls a cl∧cl.length≤256∧∀c∈cl,H4 [c]=0∧Wp c=false∧W2 a (Qk c)∧PWf a.types.toNat c∧∀s∈c,s.length≤256:=by
 have hc:=x15 h;have za:a.mv.map (·.on)=onA a:=rfl;rw[za]at hc;have z7:=Db h;have zb:=Nn a.types (onA a);rcases V9 h.types z7 with h5|h5
 ·omega
 ·refine⟨_,h5,hc,?_⟩;have hb:P6 (Qy a.types.toNat (onA a))=false:=by
   cases hb:P6 (Qy a.types.toNat (onA a))with
   |false=>rfl
   |true=>
    rw[←zb,Gq]at hm;rw[if_neg (by have:=h.types;omega)]at hm;have hl:(onA a).length≤256:=by
     by_cases hl:256<(onA a).length
     ·rw[if_pos hl]at hm;simp at hm
     ·omega
    rw[if_neg (by omega),if_neg (fun k=>k ((Ya _).2 fun p hp=>(W9 _ p).2 ⟨h.types,z7 p hp⟩)),hb]at hm;simp at hm
  simp only[P6,Bool.or_eq_false_iff,decide_eq_false_iff_not,wd,decide_eq_true_eq]at hb;refine⟨by omega,fun c z1=> ?_⟩;have hw:=hc.wf c z1;have z8:∀s∈c,s.length≤256:=fun s hs=>by have:=hb.2 c z1;simp only[Bool.not_eq_true,wd,decide_eq_true_eq]at this;have:=this s hs;omega
  have z6:Em a.types c=0:=(W9 _ c).2 ⟨h.types,hw.1.1,fun s hs=>Xf (hw.1.2 s hs).1 (k0z (hw.1.2 s hs).1 (hw.1.2 s hs).2) (by have:=z8 s hs;omega)⟩;refine⟨(x1k z6).1,?_,w1g hc z1,hw.1,z8⟩;rw[wS];intro hv;obtain⟨ty,y,hy⟩:=hw.2;exact(E6 hw.1).1 hv ty y hy
theorem q1s(a:Aut)(k:Nat)(h:k<a.mv.length):(onA a).take (k+1)=(onA a).take k++[a.mv[k].on]:=by rw[zL (by simpa[onA]using h)];simp[onA]
theorem Zi(a:Aut):(onA a).length=a.mv.length:=by simp[onA]
theorem Cg:∀(xs:List (List Int)) (Q:List (List Int)),(Ww Q xs).length≤Q.length+xs.length
 |[],Q=>by simp[Ww]
 |x::xs,Q=>by
  have h:=Cg xs (Az Q x);have e:Ww Q (x::xs)=Ww (Az Q x) xs:=rfl;have h2:(Az Q x).length≤Q.length+1:=by unfold Az;split<;>simp
  rw[e,yE];omega
theorem Mu{a:Aut}(z1:OkA a){Q:List (List Int)}(hQ:∀l∈Q,An l)(z8:Q.length≤256){cl:List Prd}(za:cl.length≤256){l:List Int}(k:Nat):
  (∀y∈Ww Q ((Eu a cl l).take k),An y)∧(Ww Q ((Eu a cl l).take k)).length≤600:=by
 have hlen:=Cg ((Eu a cl l).take k) Q;have z6:(Eu a cl l).length=cl.length:=by simp[Eu]
 rw[xB,z6]at hlen;refine⟨fun y hy=> ?_,by omega⟩;obtain⟨R,hR,z7⟩:=Y9 ((Eu a cl l).take k) Q;rw[hR]at hy;rcases zO.1 hy with hy|hy
 ·exact hQ y hy
 ·obtain⟨h1,h2⟩:=z7 y hy;obtain⟨c,_,rfl⟩:=zM.1 (yW h1);have:=z1.fin;exact⟨h2,Fb z1 _ _,fun z hz=>by have:=Tz z hz;omega⟩
theorem Kh(Q xs:List (List Int))(x:List Int):Ww Q (xs++[x])=Az (Ww Q xs) x:=by unfold Ww;rw[x_];rfl
theorem k00{Q:List (List Int)}{x:List Int}(h:x≠[]):Az Q x=v0c Q x:=by
 unfold Az v0c;by_cases hx:x∈Q
 ·rw[if_pos (.inr hx),if_pos hx]
 ·rw[if_neg (by simp[h,hx]),if_neg hx]
theorem y1k(Q:List (List Int)):Az Q []=Q:=by unfold Az;simp
attribute [local irreducible] Qu Qk Rs onA mpT R6
theorem x0s(H:List AObj)(a:Aut):FC Tryz.prog 46 [encA a] H (fun res H'=>(∀j,j<H.length→H'[j]? =H[j]?)∧(((Ux a).1≠0∧res= .tup [.nilp,.i (Ux a).1])∨
  ((Ux a).1=0∧∃r p m,res= .tup [.vptr r 0,.i 0]∧TB r p m a (Ux a).2.1 (Ux a).2.2 H'∧H.length≤r∧H.length≤p∧H.length≤m))):=by
 refine El tOk Tryz.func46 rfl Tryz.results46 rfl (by simp[Tryz.ntmps46]) ?_;rw[Tryz.ntmps46];simp only[Qe];simp only[encA];repeat first|(refine r_ ?_;simp)|refine q_ ?_
 have b0:∀L,(H++[AObj.vars (Qp a)]++L)[H.length]? =some (.vars (Qp a)):=fun L=>by rw[xT,zC (by omega)];simp
 refine Qd rfl rfl (by simp) (I7 a) rfl ?_;rintro _ rfl;simp;repeat first|(refine r_ ?_;simp)|refine q_ ?_
 refine Qa rfl (fun h=> ?_) (fun h=> ?_)
 ·have h':Wl a≠0:=by simpa using h
  have hs:Ux a=(Wl a,[],[]):=Bw h';rw[hs];repeat first|(refine r_ ?_;simp)|refine q_ ?_
  exact⟨fun j hj=>zE hj,h'⟩
 have h0:Wl a=0:=by simpa using h
 have z7:=(Ic a).1 h0;have yj:=z7.fin;have yl:=z7.mvs;repeat first|(refine r_ ?_;simp)|refine q_ ?_
 refine Q5 5 70 1 rfl ?_;simp;obtain⟨G0,zg⟩:∃G0,G0=H++[AObj.vars (Qp a)]:=⟨_,rfl⟩
 have y3:G0[H.length]? =some (.vars (Qp a)):=by rw[zg];simp
 have zh:G0.length=H.length+1:=by rw[zg];simp
 have y4:∀j,j<H.length→G0[j]? =H[j]? :=fun j hj=>by rw[zg];exact zE hj
 have hst:=SL.start G0 70 1;refine Ql (Qb (sl':=[(1,.vptr H.length 0),(5,.sl G0.length 1 0 (0:Nat)),(20,.list (a.mv.map encMv)),(21,.i a.mv.length),(22,.i (0:Nat))]) ?_ (by simp[zh]));refine Qm (F:=fun(u:Nat×Nat×List AObj)=>⟨[(1,.vptr H.length 0),(5,.sl u.2.1 1 0 u.1),(20,.list (a.mv.map encMv)),(21,.i a.mv.length),(22,.i u.1)],u.2.2⟩)
  (fun u=>u.1≤a.mv.length∧SL G0 u.2.2 u.2.1 70 1 (((onA a).take u.1).map encP)) (fun u=>a.mv.length - u.1) ?_ (0,G0.length,_) ⟨by simp,by simp only[wA,xO];rw[zg]at hst ⊢;simpa using hst⟩
 rintro⟨j,q,E⟩ ⟨hj,s1⟩ ih;simp only at hj s1 ih ⊢;repeat first|(refine r_ ?_;simp)|refine q_ ?_
 refine Qa rfl (fun zq=> ?_) (fun zr=> ?_)
 ·have z1:j<a.mv.length:=by simpa using zq
  have hw:IntKind.i64.wrap ((j:Int)+1)=j+1:=wrap_i64 _ (by omega) (by omega);have za:=q1s a j z1;have y5:((onA a).take j).length=j:=by rw[xB,Zi];omega
  have y6:=fun q' E'=>ih (j+1,q',E');simp only[za]at y6;clear za;generalize (onA a).take j=acc at *
  repeat first|(refine r_ ?_;simp[z1])|refine q_ ?_
  generalize a.mv[j]=mm at *;refine Qf tOk rfl rfl T87 rfl T70 rfl (by decide) (by decide) rfl rfl rfl ?_
  simp[Qc s1.arr,Qj s1.arr,y5];refine⟨by simp[Ws,Qc s1.arr,Qj s1.arr,y5]<;>omega,?_⟩;repeat first|(refine r_ ?_;simp[hw])|refine q_ ?_
  refine Qb (sl':=[(1,.vptr H.length 0),(5,.sl (E.length+2) 1 0 (j+1)),(20,.list (a.mv.map encMv)),(21,.i a.mv.length),(22,.i (j+1:Nat))]) ?_ (by simp);have:=y6 (E.length+2) _ ⟨by omega,s1.put [AObj.vars [AV.i mm.src,AV.i mm.dst,AV.list (mm.on.map encL)],AObj.arr 70 1 [encP mm.on]] ((acc++[mm.on]).map encP) rfl⟩ (by omega);simpa using this
 ·have zi:j=a.mv.length:=by simp at zr;omega
  subst zi;rw[zI (by rw[Zi];omega)]at s1;refine Ek q s1.arr ?_;simp[Zi];rw[zI (by simp[Zi])];have ym:=s1.ge;have yn:=s1.le;have zj:(E.set q .dead)[H.length]? =some (.vars (Qp a)):=by rw[zB (by omega),s1.keep _ (by omega)];exact y3
  have zu:∀i,i<H.length→(E.set q .dead)[i]? =H[i]? :=fun i hi=>by rw[zB (by omega),s1.keep _ (by omega)];exact y4 i hi
  have y7:H.length<(E.set q .dead).length:=Qi zj;generalize E.set q .dead=E1 at *;clear s1 yn ym ih
  repeat first|(refine r_ ?_;simp[zj])|refine q_ ?_
  refine Qd rfl rfl (by simp) (B0 a.types (onA a)) rfl ?_;rintro _ rfl;simp;repeat first|(refine r_ ?_;simp)|refine q_ ?_
  refine Qa rfl (fun h3=> ?_) (fun h3=> ?_)
  ·have zm:(Rs a.types (onA a)).1≠0:=by simpa using h3
   have hs:Ux a=((Rs a.types (onA a)).1,[],[]):=by rw[Ux,if_neg (fun k=>k h0),if_pos zm]
   rw[hs];repeat first|(refine r_ ?_;simp)|refine q_ ?_
   exact⟨zu,zm⟩
  have zm:(Rs a.types (onA a)).1=0:=by simpa using h3
  obtain⟨cl,y8,yo,zc,zv⟩:=Cn z7 zm;rw[y8];repeat first|(refine r_ ?_;simp[zj])|refine q_ ?_
  refine E8 rfl rfl rfl ?_;simp;repeat first|(refine r_ ?_;simp)|refine q_ ?_
  refine Q8 (E1.length+3) (e:=3) (c:=1) (xs:=[.i 0]) (by rw[zC (by omega)];simp) ?_;simp;refine Zm (E1.length+1) 4 47 1 (xs:=[.i a.types,.list (a.fin.map .bool),.list (a.mv.map encMv),LP cl,.nils,.mref E1.length]) (by rw[zC (by omega)];simp) rfl ?_;refine Y7 fun Z hZ=> ?_;have yp:Z.length=E1.length+5:=by rw[hZ];simp
  have z0:Z[H.length]? =some (.vars (Qp a)):=by rw[hZ,zB (by omega),xT,zE y7];exact zj
  have zk:∀i,i<H.length→Z[i]? =H[i]? :=fun i hi=>by rw[hZ,zB (by omega),xT,zE (by omega)];exact zu i hi
  have zt:TB (E1.length+1) (E1.length+4) E1.length a cl [] Z:=by
   refine⟨?_,?_,?_⟩
   ·rw[hZ,zH (by simp)];simp
   ·rw[hZ,zB (by omega),zC (by simp)];simp[LQ]
   ·rw[hZ,zB (by omega),xT,zC (by omega)];simp[Ez]
  have zb:Z[E1.length+2]? =some (.vars [.vptr (E1.length+1) 0]):=by rw[hZ,zB (by omega),xT,zC (by omega)];simp
  clear hZ;have y9:An [0]:=⟨by simp,by simp,fun z hz=>by simp at hz;omega⟩
  refine Wd rfl rfl (N9 Z _ _ _ a cl [] [0] zt y9 (fun l hl=>by simp at hl) (by simp)) rfl ?_;rintro res Y ⟨j0,p,rfl,ya,ht,yq,yr,-,zn⟩;have zw:v0c [] [0]=[[0]]:=by simp[v0c]
  rw[zw]at ht;simp;repeat first|(refine r_ ?_;simp)|refine q_ ?_
  have y0:=(zn H.length (by omega) (by omega) (by omega) (by omega)).trans z0;have yk:∀i,i<H.length→Y[i]? =H[i]? :=fun i hi=>(zn i (by omega) (by omega) (by omega) (by omega)).trans (zk i hi);have yb:=(zn _ (by omega) (by omega) (by omega) (by omega)).trans zb;have ze:H.length≤p:=by omega
  have yt:H.length≤E1.length+1:=by omega
  have xf:H.length≤E1.length+2:=by omega
  have yu:H.length≤E1.length:=by omega
  refine Q1 (sl':=[(10,.vptr (E1.length+2) 0),(11,.i (0:Nat))]) ?_ (by simp);clear zt z0 zk zb zn yp yr ya yq zj zu y7 y3 zh y4 zg;generalize E1.length+1=r at *;generalize E1.length+2=b at *;generalize E1.length=m at *
  have z6:Ux a=match Z3 a cl 257 0 [[0]]with
    |none=>(5,[],[])
    |some Q=>(0,cl,Q):=by
   rw[Ux,if_neg (fun k=>k h0),y8];rfl
  refine Ql (Qb (sl':=[(10,.vptr b 0),(11,.i (0:Nat))]) ?_ (by simp));refine Qm (F:=fun(u:Nat×Nat×List (List Int)×List AObj)=>⟨[(10,.vptr b 0),(11,.i u.1)],u.2.2.2⟩)
   (fun u=>u.1≤u.2.2.1.length∧u.2.2.1.length≤256∧TB r u.2.1 m a cl u.2.2.1 u.2.2.2∧H.length≤u.2.1∧u.2.2.2[b]? =some (.vars [.vptr r 0])∧(∀i,i<H.length→u.2.2.2[i]? =H[i]?)∧(∀l∈u.2.2.1,An l)∧Z3 a cl 257 0 [[0]]=Z3 a cl (257 - u.1) u.1 u.2.2.1) (fun u=>257 - u.1) ?_ (0,p,[[0]],Y) ⟨by simp,by simp,ht,ze,yb,yk,fun l hl=>by rw[zJ.1 hl];exact y9,rfl⟩
  clear ht ze yb yk y0;clear Y;rintro⟨i,p,Q,Y⟩ ⟨hi,zx,ht,ze,yb,yk,hQ,z8⟩ ih;simp only at hi zx ht ze yb yk hQ z8 ih ⊢;have yc:=ht.t;repeat first|(refine r_ ?_;simp[yb,yc])|refine q_ ?_
  refine Qa rfl (fun zq=> ?_) (fun zr=> ?_)
  ·have z1:i<Q.length:=by simpa using zq
   have hw:IntKind.i64.wrap ((i:Int)+1)=i+1:=wrap_i64 _ (by omega) (by omega);have yv:=ht.s;have hlo:=hQ _ (zG z1);repeat first|(refine r_ ?_;simp)|refine q_ ?_
   refine Qn tOk mixed [8] (.val 0 (.val 1 (.val 2 (.val 3 (.val 4 (.val 5 (.val 6 (.val 7 (.one 8 (.done)))))))))) rfl (by kernel_rfl) ?_;simp[yb,yc,yv,z1];refine Wd rfl rfl (Af Y r Q[i]) rfl ?_;rintro _ _ ⟨rfl,rfl⟩;simp;repeat first|(refine r_ ?_;simp)|refine q_ ?_
   have zo:Z3 a cl (257 - i) i Q=if 256<(Ww Q (Eu a cl Q[i])).length then none else Z3 a cl (257 - (i+1)) (i+1) (Ww Q (Eu a cl Q[i])):=by
    have:257 - i=(257 - (i+1))+1:=by omega
    rw[this,Z3,zD z1]
   rw[zo]at z8;clear zo;generalize Q[i]=l at *
   have yw:(Eu a cl l).length=cl.length:=by simp[Eu]
   have yd:∀(k:Nat) (c:Prd),cl[k]? =some c→(Eu a cl l).take (k+1)=(Eu a cl l).take k++[Qu a l (Qk c)]:=fun k c hc=>by
    have hk:=Yi hc;have yx:cl[k]=c:=by rw[zD hk]at hc;exact Option.some.inj hc
    rw[zL (by rw[yw];exact hk)];simp[Eu,yx]
   have yy:∀k,(∀y∈Ww Q ((Eu a cl l).take k),An y)∧(Ww Q ((Eu a cl l).take k)).length≤600:=fun k=>Mu z7 hQ zx zc k;have yz:=Qi yb;refine E4 rfl (Rf:=fun _ H'=>∃p',TB r p' m a cl (Ww Q (Eu a cl l)) H'∧H.length≤p'∧H'[b]? =some (.vars [.vptr r 0])∧(∃sl' ps' a' b',H'[Y.length+2]? =some (.lp true none 80 sl' ps' a' b'))∧∀i,i<H.length→H'[i]? =H[i]?) ?_ ?_
   ·simp;refine Kl fun H1 zd=> ?_;have ft:TB r p m a cl Q H1:=ht.keep fun j hj=>by
     have:j<Y.length:=by
      rcases hj with rfl|rfl|rfl
      ·exact Qi ht.t
      ·exact Qi ht.s
      ·exact Qi ht.n
     rw[zd,zE this]
    have fb:H1[b]? =some (.vars [.vptr r 0]):=by rw[zd,zE yz];exact yb
    have x0:H1[Y.length]? =some (.vars [.vptr r 0]):=by rw[zd,zC (by omega)];simp
    have x1:H1[Y.length+1]? =some (.vars [LI l]):=by rw[zd,zC (by omega)];simp
    have fk:∀i,i<H.length→H1[i]? =H[i]? :=fun i hi=>by rw[zd,zE (by have:=Qi ht.t;omega)];exact yk i hi
    have fq:=congrArg (fun h:List AObj=>h[Y.length+2]?) zd;simp at fq;clear zd;refine FC.mono (w0d a z7 cl l (fun c hc=>⟨(zv c hc).1,(zv c hc).2.1,(zv c hc).2.2.1⟩) zc (Y.length+2) Y.length (Y.length+1) r (by rfl) (by rfl)
     (fun k H'=>∃p',TB r p' m a cl (Ww Q ((Eu a cl l).take k)) H'∧H.length≤p'∧H'[b]? =some (.vars [.vptr r 0])∧H'[Y.length]? =some (.vars [.vptr r 0])∧H'[Y.length+1]? =some (.vars [LI l])∧H'[Y.length+2]? =H1[Y.length+2]? ∧∀i,i<H.length→H'[i]? =H[i]?)
     (fun k H' ⟨p',h1,h2,h3,h4,h5,h6,h7⟩=>⟨h6.trans fq,h4,h5,_,h1.t⟩) ?_ ?_ ?_ H1 ⟨p,ft,ze,fb,x0,x1,rfl,fk⟩) ?_
    ·rintro k H' L ⟨p',h1,h2,h3,h4,h5,h6,h7⟩;refine⟨p',h1.keep fun j hj=> ?_,h2,Qc h3 _,Qc h4 _,Qc h5 _,by rw[←h6,zE (by rw[fq]at h6;exact Qi h6)],fun i hi=>by rw[zE (by have:=Qi h1.t;omega)];exact h7 i hi⟩;have:j<H'.length:=by
      rcases hj with rfl|rfl|rfl
      ·exact Qi h1.t
      ·exact Qi h1.s
      ·exact Qi h1.n
     exact zE this
    ·rintro k c H' hc za ⟨p',h1,h⟩;refine⟨p',?_,h⟩;rw[yd k c hc,za,Kh,y1k];exact h1
    ·rintro k c H' hc za ⟨p',h1,h2,h3,h4,h5,h6,h7⟩;have zy:An (Qu a l (Qk c)):=by have:=z7.fin;exact⟨za,Fb z7 _ _,fun z hz=>by have:=Tz z hz;omega⟩
     have zz:=yd k c hc;have zl:=yy k;rw[zz,Kh,k00 za];generalize Qu a l (Qk c)=nx at *;generalize Ww Q ((Eu a cl l).take k)=Q2 at *
     simp[Ts];have h8:=h6.trans fq;have ye:Y.length+2≠r:=fun e=>by have:=h1.t;rw[←e,h8]at this;simp at this
     have yf:Y.length+2≠p':=fun e=>by have:=h1.s;rw[←e,h8]at this;simp at this
     have yg:Y.length+2≠m:=fun e=>by have:=h1.n;rw[←e,h8,Ez]at this;simp at this
     have zp:Y.length+2≠b:=fun e=>by rw[←e,h8]at h3;simp at h3
     have x2:b≠r:=fun e=>by have:=h1.t;rw[←e,h3]at this;simp at this
     have x3:b≠p':=fun e=>by have:=h1.s;rw[←e,h3]at this;simp at this
     have x4:b≠m:=fun e=>by have:=h1.n;rw[←e,h3,Ez]at this;simp at this
     have x5:Y.length≠r:=fun e=>by have:=h1.t;rw[←e,h4]at this;simp at this
     have x6:Y.length≠p':=fun e=>by have:=h1.s;rw[←e,h4]at this;simp at this
     have x7:Y.length≠m:=fun e=>by have:=h1.n;rw[←e,h4,Ez]at this;simp at this
     have x8:Y.length+1≠r:=fun e=>by have:=h1.t;rw[←e,h5]at this;simp at this
     have x9:Y.length+1≠p':=fun e=>by have:=h1.s;rw[←e,h5]at this;simp at this
     have xa:Y.length+1≠m:=fun e=>by have:=h1.n;rw[←e,h5,Ez]at this;simp at this
     have d1:TB r p' m a cl Q2 (H'.set (Y.length+2) .dead):=h1.keep fun j hj=>by rw[zB (by rcases hj with rfl|rfl|rfl<;>assumption)]
     have d3:=Qg zp h3 .dead;have d4:=Qg (j:=Y.length+2) (by omega) h4 .dead;have d5:=Qg (j:=Y.length+2) (by omega) h5 .dead;have d6:=Qo h8 .dead;have d7:∀i,i<H.length→(H'.set (Y.length+2) .dead)[i]? =H[i]? :=fun i hi=>by rw[zB (by have:=Qi yb;omega)];exact h7 i hi
     have dl:(H'.set (Y.length+2) .dead).length=H'.length:=by simp
     generalize H'.set (Y.length+2) .dead=Z at *
     repeat first|(refine r_ ?_;simp[d3])|refine q_ ?_
     refine Wd rfl rfl (N9 Z r p' m a cl Q2 nx d1 zy zl.1 (by have:=zl.2;omega)) rfl ?_;rintro res Z2 ⟨j0,p2,rfl,ya,yh,xg,xh,-,zf⟩;simp;repeat first|(refine r_ ?_;simp)|refine q_ ?_
     have hz:∀i,i<Z.length→i≠r→i≠p'→i≠m→Z2[i]? =Z[i]? :=zf;have e3:=(zf b (Qi d3) x2 x3 x4).trans d3;have e4:=(zf _ (Qi d4) x5 x6 x7).trans d4;have e5:=(zf _ (Qi d5) x8 x9 xa).trans d5;have e6:=(zf _ (Qi d6) ye yf yg).trans d6;have xb:Y.length+2≠p2:=fun e=>by have:=yh.s;rw[←e,e6]at this;simp at this
     refine⟨e6,rfl,p2,yh.keep (fun j hj=>by rw[zB (by rcases hj with rfl|rfl|rfl<;>assumption)]),by have:=Qi d6;omega,Qg zp e3 _,e4,e5,?_,fun i hi=> ?_⟩
     ·rw[fq];exact Qo e6 _
     ·rw[zB (by have:=Qi yb;omega),zf i (by have:=Qi d6;omega) (by omega) (by omega) (by omega)];exact d7 i hi
    ·rintro _ H' ⟨p',h1,h2,h3,h4,h5,h6,h7⟩;rw[zI (by omega)]at h1;exact⟨p',h1,h2,h3,⟨_,_,_,_,h6.trans fq⟩,h7⟩
   ·rintro res H' ⟨p',h1,h2,h3,⟨sl',ps',a',b',h6⟩,h7⟩;refine⟨true,none,80,sl',ps',a',b',by simpa using h6,?_⟩;simp;have ye:Y.length+2≠r:=fun e=>by have:=h1.t;rw[←e,h6]at this;simp at this
    have yf:Y.length+2≠p':=fun e=>by have:=h1.s;rw[←e,h6]at this;simp at this
    have yg:Y.length+2≠m:=fun e=>by have:=h1.n;rw[←e,h6,Ez]at this;simp at this
    have zp:Y.length+2≠b:=fun e=>by rw[←e,h6]at h3;simp at h3
    have d1:TB r p' m a cl (Ww Q (Eu a cl l)) (H'.set (Y.length+2) .dead):=h1.keep fun j hj=>by rw[zB (by rcases hj with rfl|rfl|rfl<;>assumption)]
    have d3:=Qg zp h3 .dead;have d7:∀i,i<H.length→(H'.set (Y.length+2) .dead)[i]? =H[i]? :=fun i hi=>by rw[zB (by have:=Qi yb;omega)];exact h7 i hi
    have yi:=Mu z7 hQ zx zc (l:=l) cl.length;rw[zI (by omega)]at yi;have xc:=Jx Q (Eu a cl l);generalize H'.set (Y.length+2) .dead=Z at *;generalize Ww Q (Eu a cl l)=Q2 at *
    have d0:=d1.t;repeat first|(refine r_ ?_;simp[d3,d0])|refine q_ ?_
    refine Qa rfl (fun y1=> ?_) (fun xd=> ?_)
    ·have xe:256<Q2.length:=by simp at y1;omega
     rw[if_pos xe]at z8;rw[z8]at z6;rw[z6];repeat first|(refine r_ ?_;simp)|refine q_ ?_
     exact d7
    ·have y2:¬256<Q2.length:=by simp at xd;omega
     rw[if_neg y2]at z8;repeat first|(refine r_ ?_;simp[hw])|refine q_ ?_
     refine Qb (sl':=[(10,.vptr b 0),(11,.i (i+1:Nat))]) ?_ (by simp);exact ih (i+1,p',Q2,Z) ⟨by show i+1≤Q2.length;omega,by show Q2.length≤256;omega,d1,h2,d3,d7,yi.1,z8⟩ (by omega)
  ·have zi:i=Q.length:=by simp at zr;omega
   have zo:Z3 a cl (257 - i) i Q=some Q:=by
    have:257 - i=(256 - i)+1:=by omega
    rw[this,Z3,xE (by omega)]
   rw[zo]at z8;rw[z8]at z6;rw[z6];repeat first|(refine r_ ?_;simp[yb])|refine q_ ?_
   exact⟨yk,p,m,ht,yt,ze,yu⟩
end Go.Abs
namespace Go.Abs
open Go Go.Proofs Go.Maps Go.RowKit
attribute [local irreducible] Ux
end Go.Abs
namespace Go.Abs
open Go Go.Proofs Go.Maps Go.RowKit
def Fx(fx:List (Nat×AObj))(H:List AObj):Prop:=∀p∈fx,H[p.1]? =some p.2
theorem Fx.app{fx:List (Nat×AObj)}{H:List AObj}(h:Fx fx H)(L:List AObj):Fx fx (H++L):=fun p hp=>Qc (h p hp) L
theorem Fx.set{fx:List (Nat×AObj)}{H:List AObj}(h:Fx fx H){x:Nat}{o:AObj}(hx:H[x]? =some o)(hn:∀p∈fx,p.2≠o)(y:AObj):Fx fx (H.set x y):=fun p hp=>by
 have z1:x≠p.1:=fun e=>by have:=h p hp;rw[←e,hx]at this;exact hn p hp (Option.some.inj this).symm
 rw[zB z1];exact h p hp
def f0w(g:List Mv)(to:Nat):Int:=match g.findIdx? fun m:Mv=>decide (m.dst=(to:Int))with
 |some i=>i
 |none=> -1
theorem u1j(H:List AObj)(id to:Nat)(hid:H[id]? =some (.vars [.i to]))(m:Mv):FC Tryz.prog 52 [encMv m,.vptr id 0] H (fun r H'=>r= .bool (decide (m.dst=(to:Int)))∧H'=H++[.vars [.i m.src,.i m.dst,.list (m.on.map encL)]]):=by
 refine El tOk Tryz.func52 rfl Tryz.results52 rfl (by simp[Tryz.ntmps52]) ?_;rw[Tryz.ntmps52];simp only[Qe];simp only[encMv];repeat first|(refine r_ ?_;simp[Qc hid])|refine q_ ?_
 rfl
theorem w1z{g:List Mv}{to j:Nat}(h:j<g.length)(h1:g[j].dst=(to:Int))(h2:∀i,∀hi:i<g.length,i<j→¬g[i].dst=(to:Int)):f0w g to=j:=by
 have:g.findIdx? (fun m:Mv=>decide (m.dst=(to:Int)))=some j:=by rw[List.findIdx?_eq_some_iff_getElem];exact⟨h,by simpa using h1,fun i hi=>by simpa using h2 i (by omega) hi⟩
 rw[f0w,this]
theorem g0k{g:List Mv}{to:Nat}(h2:∀i,∀hi:i<g.length,¬g[i].dst=(to:Int)):f0w g to= -1:=by
 have:g.findIdx? (fun m:Mv=>decide (m.dst=(to:Int)))=none:=by rw[List.findIdx?_eq_none_iff];intro m hm;obtain⟨i,hi,rfl⟩:=yC hm;simpa using h2 i hi
 rw[f0w,this]
theorem v0j(H:List AObj)(v first to id:Nat)(pre g:List Mv)(hid:H[id]? =some (.vars [.i to]))(hv:H[v]? =some (.arr 73 3 ((pre++g).map encMv)))(hl:pre.length+g.length≤1000000000)(hf:first=pre.length):
  FC Tryz.prog 51 [.sl v 3 first g.length,.fn (.func 52) [] [.vptr id 0]] H (fun r H'=>r= .i (f0w g to)∧∃L,H'=H++L):=by
 subst hf;refine El tOk Tryz.func51 rfl Tryz.results51 rfl (by simp[Tryz.ntmps51]) ?_;rw[Tryz.ntmps51];simp only[Qe];repeat first|(refine r_ ?_;simp)|refine q_ ?_
 refine Ql (Qb (sl':=[(0,.sl v 3 pre.length g.length),(1,.fn (.func 52) [] [.vptr id 0]),(7,.i g.length),(8,.i (0:Nat))]) ?_ (by simp));refine Qm (F:=fun(u:Nat×List AObj)=>⟨[(0,.sl v 3 pre.length g.length),(1,.fn (.func 52) [] [.vptr id 0]),(7,.i g.length),(8,.i u.1)],u.2⟩)
  (fun u=>u.1≤g.length∧(∃L,u.2=H++L)∧∀i,∀hi:i<g.length,i<u.1→¬g[i].dst=(to:Int)) (fun u=>g.length - u.1) ?_ (0,H) ⟨by simp,⟨[],by simp⟩,by simp⟩
 rintro⟨j,E⟩ ⟨hj,⟨L,hL⟩,hI⟩ ih;simp only at hj hI hL ih ⊢;subst hL;repeat first|(refine r_ ?_;simp)|refine q_ ?_
 refine Qa rfl (fun za=> ?_) (fun zb=> ?_)
 ·have z1:j<g.length:=by simpa using za
  have hw:IntKind.i64.wrap ((j:Int)+1)=j+1:=wrap_i64 _ (by omega) (by omega);have zc:((pre++g).map encMv)[pre.length+j]? =some (encMv g[j]):=by simp[z1]
  have zd:=Qc hv L;have z6:=Qc hid L;repeat first|(refine r_ ?_;simp[z1,zd,zc])|refine q_ ?_
  generalize z8:g[j]=m at *;refine Wd rfl rfl (u1j (H++L) id to z6 m) rfl ?_
  rintro _ _ ⟨rfl,rfl⟩;simp;repeat first|(refine r_ ?_;simp)|refine q_ ?_
  refine Qa rfl (fun h=> ?_) (fun h=> ?_)
  ·repeat first|(refine r_ ?_;simp)|refine q_ ?_
   exact(w1z z1 (by rw[z8];simpa using h) hI).symm
  ·repeat first|(refine r_ ?_;simp[hw])|refine q_ ?_
   refine Qb (sl':=[(0,.sl v 3 pre.length g.length),(1,.fn (.func 52) [] [.vptr id 0]),(7,.i g.length),(8,.i (j+1:Nat))]) ?_ (by simp);refine ih (j+1,_) ⟨by omega,⟨L++[.vars [.i m.src,.i m.dst,.list (m.on.map encL)]],by simp⟩,fun i hi ze=> ?_⟩ (by omega);by_cases e:i=j
   ·subst e;rw[z8];simpa using h
   ·exact hI i hi (by omega)
 ·have z7:j=g.length:=by simp at zb;omega
  subst z7;repeat first|(refine r_ ?_;simp)|refine q_ ?_
  exact(g0k fun i hi=>hI i hi hi).symm
end Go.Abs
