/- Part Te of the proof: an abstract machine over the model, and what the functions of the program hand back in its terms. No condition. -/
import Derived.Test.YteghceocnldccaaGreatDoorTd
import Derived.Test.YteghceocnldccaaGreatDoorTc
set_option linter.all false
open Bool renaming eq_false_iff→vK,false_or→sa,eq_iff_iff→x_,and_eq_true→yT,false_and→uq,true_and→vR
open List renaming drop_length→wn,getElem?_append_right→zO,nil_append→wZ,take_of_length_le→zZ,getElem?_eq_some_iff→zE,getElem?_set_self→zU,getElem?_set_ne→zH,getElem?_append_left→zI,range→yW,ext_getElem→wN,getD→yV,pairwise_iff_getElem→yU,mem_map→zX,mem_append→yE,mem_singleton→zW,mem_append_left→xL,mem_of_getElem?→zL,foldl_append→vz,pairwise_append→yR,map_append→xF,nodup_append→vT,mem_append_right→uw,reverse_cons→uC,mem_iff_getElem?→yQ,reverse_reverse→up,find?_eq_none→ue,mem_of_find?_eq_some→ug,find?_cons→tR,pairwise_map→wS,map_congr_left→xP,map_const'→tS,mem_flatMap→w_,mem_filter→xV,mem_filterMap→vX,mem_cons→yL,any_eq_true→wO,length_map→yP,getElem?_eq_getElem→zP,getElem_mem→zT,all_eq_false→tC,mem_range→xH,all_eq_true→yH,getElem_of_mem→xG,take→uS,findIdx?_eq_some_iff_getElem→xO,findIdx?_eq_none_iff→vE,take_succ_eq_append_getElem→z_,take_zero→wA,take_length→xD,replicate→yB,ext_getElem?→xX,getElem?_eq_none→xA
open Nat renaming le_refl→zV,zero_le→wK,le_trans→yY
open Int renaming le_refl→xB
set_option maxHeartbeats 4000000
set_option linter.unusedSimpArgs false
set_option maxRecDepth 100000
namespace Go.Abs
open Go Go.Proofs
attribute [local irreducible] ckR Pd
theorem v1i(l:List Iv)(n:Int)(hl:l.length≤1000000000):PC Tryz.prog 183 [LIv l,.i n] (fun r=>r= .bool (Pd l n)):=by
 refine Ql tOk Tryz.func183 rfl Tryz.results183 rfl (by simp[Tryz.ntmps183]) ?_;rw[Tryz.ntmps183];simp only[Qf];obtain⟨R,hR⟩:∃R,Pd l n=R:=⟨_,rfl⟩
 rw[hR];repeat first|(refine r_ ?_;simp)|refine q_ ?_
 refine Qu l.length (fun j=>Pd (l.drop j) n=R) (fun j=>[(0,LIv l),(1,.i n),(5,.i j)]) (fun _=>[]) rfl (by simp) (by simp) (by simp) (by simp) (by simpa using hR) ?_;intro j hj hI ih;repeat first|(refine r_ ?_;simp)|refine q_ ?_
 refine Qa rfl (fun z7=> ?_) (fun z8=> ?_)
 ·have z1:j<l.length:=by simpa using z7
  have hw:IntKind.i64.wrap ((j:Int)+1)=j+1:=wrap_i64 _ (by omega) (by omega);rw[W7 z1,q11]at hI;by_cases h1:l[j].lo≤n
  ·by_cases h2:n≤l[j].hi
   ·rw[(Bg ..).2 ⟨h1,h2⟩,Bool.true_or]at hI;repeat first|(refine r_ ?_;simp[z1,h1,h2])|refine q_ ?_
    refine Qm rfl ?_;repeat first|(refine r_ ?_;simp)|refine q_ ?_
    exact hI.symm
   ·have h3:inI l[j].lo l[j].hi n=false:=by rw[vK,Ne,Bg];omega
    rw[h3,sa]at hI;repeat first|(refine r_ ?_;simp[z1,h1,h2])|refine q_ ?_
    refine Qm rfl ?_;repeat first|(refine r_ ?_;simp[hw])|refine q_ ?_
    exact Qs _ (ih z1 hI) rfl (by simp) (by simp) (by simp) (by simp)
  ·have h3:inI l[j].lo l[j].hi n=false:=by rw[vK,Ne,Bg];omega
   rw[h3,sa]at hI;repeat first|(refine r_ ?_;simp[z1,h1])|refine q_ ?_
   refine Qm rfl ?_;repeat first|(refine r_ ?_;simp[hw])|refine q_ ?_
   exact Qs _ (ih z1 hI) rfl (by simp) (by simp) (by simp) (by simp)
 ·have z6:j=l.length:=by simp at z8;omega
  subst z6;rw[wn]at hI;repeat first|(refine r_ ?_;simp)|refine q_ ?_
  rw[←hI];unfold Pd;rfl
theorem v1x(x y:Iv)(b:List Iv):(y::b).filterMap (O6 x)=(O6 x y).toList++b.filterMap (O6 x):=by cases h:O6 x y<;>simp[h]
def j1v(x:Iv)(b:List Iv):List Iv:=b.filterMap (O6 x)
theorem Nt(x:Iv)(a b:List Iv):Ra (x::a) b=j1v x b++Ra a b:=rfl
theorem y1l(x y:Iv)(b:List Iv):j1v x (y::b)=(O6 x y).toList++j1v x b:=v1x x y b
theorem x1y(x:Iv):j1v x []=[]:=rfl
theorem k0m(b:List Iv):Ra [] b=[]:=rfl
attribute [local irreducible] Ra j1v Ef
theorem w11(a b:List Iv)(ha:a.length≤1000000000)(hb:b.length≤1000000000)(hP:(Ra a b).length≤1000000000)(ze:∀y∈Ra a b,Ie y):PC Tryz.prog 166 [LIv a,LIv b] (fun r=>r=LIv (Ef (Ra a b))):=by
 refine Ql tOk Tryz.func166 rfl Tryz.results166 rfl (by simp[Tryz.ntmps166]) ?_;rw[Tryz.ntmps166];simp only[Qf];repeat first|(refine r_ ?_;simp)|refine q_ ?_
 refine Wg 5 187 2 rfl ?_;simp;repeat first|(refine r_ ?_;simp)|refine q_ ?_
 refine Qr (Qd (sl':=[(0,LIv a),(1,LIv b),(5,.sl 0 2 0 0),(6,.i 0)]) ?_ (by simp));refine Qq (F:=fun(u:Nat×Nat×List Iv×List AObj)=>⟨[(0,LIv a),(1,LIv b),(5,.sl u.2.1 2 0 u.2.2.1.length),(6,.i u.1)],u.2.2.2⟩)
  (fun u=>u.1≤a.length∧u.2.2.2[u.2.1]? =some (.arr 187 2 (u.2.2.1.map encIv))∧u.2.2.1++Ra (a.drop u.1) b=Ra a b) (fun u=>a.length - u.1) ?_ (0,0,[],[.arr 187 2 []]) ⟨by simp,rfl,by simp⟩
 rintro⟨j,q,acc,H2⟩ ⟨hj,g1,g2⟩ ih;simp only at hj g1 g2 ih ⊢;repeat first|(refine r_ ?_;simp)|refine q_ ?_
 refine Qa rfl (fun zf=> ?_) (fun zg=> ?_)
 ·have z6:j<a.length:=by simpa using zf
  have hw:IntKind.i64.wrap ((j:Int)+1)=j+1:=wrap_i64 _ (by omega) (by omega);rw[W7 z6,Nt]at g2;repeat first|(refine r_ ?_;simp)|refine q_ ?_
  refine Qr (Qd (sl':=[(0,LIv a),(1,LIv b),(5,.sl q 2 0 acc.length),(6,.i j),(7,.i 0)]) ?_ (by simp));refine Qq (F:=fun(u:Nat×Nat×List Iv×List AObj)=>⟨[(0,LIv a),(1,LIv b),(5,.sl u.2.1 2 0 u.2.2.1.length),(6,.i j),(7,.i u.1)],u.2.2.2⟩)
   (fun u=>u.1≤b.length∧u.2.2.2[u.2.1]? =some (.arr 187 2 (u.2.2.1.map encIv))∧u.2.2.1++(j1v a[j] (b.drop u.1)++Ra (a.drop (j+1)) b)=Ra a b) (fun u=>b.length - u.1) ?_ (0,q,acc,H2) ⟨by simp,g1,by simpa using g2⟩
  rintro⟨k,q1,acc1,H3⟩ ⟨hk,e1,e2⟩ ih1;simp only at hk e1 e2 ih1 ⊢;repeat first|(refine r_ ?_;simp)|refine q_ ?_
  refine Qa rfl (fun z8=> ?_) (fun za=> ?_)
  ·have z1:k<b.length:=by simpa using z8
   have zc:IntKind.i64.wrap ((k:Int)+1)=k+1:=wrap_i64 _ (by omega) (by omega);rw[W7 z1,y1l]at e2;have zh:acc1.length≤1000000000:=by have:=congrArg List.length e2;simp only[List.length_append]at this;omega
   obtain⟨lo,hlo⟩:∃z,(if a[j].lo<b[k].lo then b[k].lo else a[j].lo)=z:=⟨_,rfl⟩
   obtain⟨hi,zd⟩:∃z,(if b[k].hi<a[j].hi then b[k].hi else a[j].hi)=z:=⟨_,rfl⟩
   have hm:O6 a[j] b[k]=if lo≤hi then some ⟨lo,hi⟩else none:=by simp only[O6,hlo,zd]
   rw[hm]at e2;repeat first|(refine r_ ?_;simp[z6,z1])|refine q_ ?_
   refine Qk tOk mixed [] (.val 0 (.val 1 (.val 2 (.val 3 (.val 4 (.val 5 (.val 6 (.val 7 (.val 8 (.val 9 (.val 10 (.val 11 (.val 12 (.val 13 (.val 14 (.val 15 (.val 16 (.val 17 (.val 18 (.val 19 (.val 20 (.val 21 (.val 22 (.val 23 (.done))))))))))))))))))))))))) rfl (by kernel_rfl) ?_;simp[z6,z1,hlo,zd];repeat first|(refine r_ ?_;simp)|refine q_ ?_
   refine Qa rfl (fun h3=> ?_) (fun h3=> ?_)
   ·rw[if_pos (by simpa using h3)]at e2;repeat first|(refine r_ ?_;simp)|refine q_ ?_
    refine Qh tOk rfl rfl Pe rfl Dn rfl (by decide) (by decide) rfl rfl rfl ?_;simp[Qb e1,Qj e1];refine⟨by simp[Wp,Qb e1,Qj e1]<;>omega,?_⟩;repeat first|(refine r_ ?_;simp[zc])|refine q_ ?_
    exact Qd (sl':=[(0,LIv a),(1,LIv b),(5,.sl (H3.length+1) 2 0 (acc1.length+1)),(6,.i j),(7,.i (k+1:Nat))]) (by
     have:=ih1 (k+1,H3.length+1,acc1++[(⟨lo,hi⟩:Iv)],H3.set q1 .dead++[.arr 187 2 [encIv (⟨lo,hi⟩:Iv)],.arr 187 2 ((acc1++[(⟨lo,hi⟩:Iv)]).map encIv)]) ⟨by simp;omega,by simp only;rw[zO (by simp)];simp,by simpa using e2⟩ (by simp;omega);simpa using this) (by simp)
   ·rw[if_neg (by simpa using h3)]at e2;repeat first|(refine r_ ?_;simp[zc])|refine q_ ?_
    exact Qd (sl':=[(0,LIv a),(1,LIv b),(5,.sl q1 2 0 acc1.length),(6,.i j),(7,.i (k+1:Nat))]) (by
     have:=ih1 (k+1,q1,acc1,H3) ⟨by simp;omega,e1,by simpa using e2⟩ (by simp;omega);simpa using this) (by simp)
  ·have z7:k=b.length:=by simp at za;omega
   subst z7;rw[wn,x1y,wZ]at e2;repeat first|(refine r_ ?_;simp[hw])|refine q_ ?_
   exact Qd (sl':=[(0,LIv a),(1,LIv b),(5,.sl q1 2 0 acc1.length),(6,.i (j+1:Nat))]) (by
    have:=ih (j+1,q1,acc1,H3) ⟨by simp;omega,e1,e2⟩ (by simp;omega);simpa using this) (by simp)
 ·have zb:j=a.length:=by simp at zg;omega
  subst zb;rw[wn,k0m,List.append_nil]at g2;subst g2;repeat first|(refine r_ ?_;simp)|refine q_ ?_
  refine Og q g1 ?_;simp;rw[zZ (by simp)];refine Qe rfl rfl (by simp) (d0l (Ra a b) hP ze) rfl ?_;rintro _ rfl;simp;repeat first|(refine r_ ?_;simp)|refine q_ ?_
theorem Lm(x:Iv)(r:List Iv)(n:Int):Rh (x::r) n=(if n<x.lo then [⟨n,x.lo - 1⟩]else [])++Rh r (x.hi+1):=rfl
theorem Cn(n:Int):Rh [] n=if n≤1099511627776 then [⟨n,1099511627776⟩]else []:=rfl
theorem c0q(l:List Iv):Rh l (-1099511627776)=E9 l:=rfl
attribute [local irreducible] E9 Rh
theorem u08(a b:List Iv)(ha:Sep a)(hb:Sep b)(z1:a.length+b.length≤1000000000)(hi:∀x∈a,Ie x):PC Tryz.prog 166 [LIv a,LIv b] (fun r=>r=LIv (Rn a b)):=
 (w11 a b (by omega) (by omega) (by have:=g07 a b ha hb;omega) (q15 (.inl hi))).mono fun r h=>by rw[h,Rn]
end Go.Abs
namespace Go.Abs
open Go Go.Proofs
structure GL (K G:List AObj) (S p:Nat) (pre post:List AV) (e sz:Nat) (xs:List AV):Prop where
 cell:G[S]? =some (.vars (pre++ .sl p sz 0 xs.length::post))
 arr:G[p]? =some (.arr e sz xs)
 ge:K.length≤p
 lt:S<K.length
 len:K.length≤G.length
 keep:∀j,j<K.length→j≠S→G[j]? =K[j]?
theorem GL.kp{K G:List AObj}{S p:Nat}{pre post:List AV}{e sz:Nat}{xs:List AV}(h:GL K G S p pre post e sz xs){j:Nat}{x:AObj}(hj:j≠S)(hx:K[j]? =some x):G[j]? =some x:=by rw[h.keep j (zE.1 hx).1 hj];exact hx
theorem GL.start{K:List AObj}{S:Nat}(pre post:List AV)(e sz:Nat)(h:S<K.length):GL K ((K++[AObj.arr e sz []]).set S (.vars (pre++ .sl K.length sz 0 0::post))) S K.length pre post e sz []:=
 ⟨zU (by simp;omega),by rw[zH (by omega)];simp,zV _,h,by simp,fun j hj z1=>by
  rw[zH (fun e=>z1 e.symm),zI hj]⟩
theorem GL.put{K G:List AObj}{S p:Nat}{pre post:List AV}{e sz:Nat}{xs:List AV}(h:GL K G S p pre post e sz xs)(A:AObj)(y:AV){n:Nat}(hn:n=xs.length):
  GL K ((G.set p .dead++[A,AObj.arr e sz (xs++[y])]).set S (.vars (pre++ .sl (G.length+1) sz 0 (n+1)::post))) S (G.length+1) pre post e sz (xs++[y]):=by
 have hl:=h.len;have z6:=h.lt;have z7:=h.ge;subst hn;refine⟨by rw[zU (by simp;omega)];simp,by rw[zH (by omega),zO (by simp)];simp,by omega,z6,by simp;omega,fun j hj z1=> ?_⟩;rw[zH (fun e=>z1 e.symm),zI (by simp;omega),zH (by omega)];exact h.keep j hj z1
theorem GL.at{K G:List AObj}{S p:Nat}{pre post:List AV}{e sz:Nat}{xs:List AV}(h:GL K G S p pre post e sz xs)(L:List AObj):(G.set p .dead++L)[S]? =some (.vars (pre++ .sl p sz 0 xs.length::post)):=by have hl:=h.len;have z1:=h.lt;have z6:=h.ge;rw[zI (by simp;omega),zH (by omega)];exact h.cell
def upL(F:Nat→List Iv)(j:Nat):List AV:=(yW j).map fun i=>encL (F i)
theorem L3(F:Nat→List Iv)(j:Nat):upL F (j+1)=upL F j++[encL (F j)]:=by simp[upL,List.range_succ]
theorem R9(F:Nat→List Iv)(j:Nat):(upL F j).length=j:=by simp[upL]
theorem By(F:Nat→List Iv)(n:Nat):upL F n=((yW n).map F).map encL:=by simp[upL]
theorem w07{α β:Type}(d:α)(f:α→β)(p:List α):(yW p.length).map (fun i=>f (p.getD i d))=p.map f:=by
 refine wN (by simp) fun i h1 h2=> ?_;have h:i<p.length:=by simpa using h1
 simp[yV,h]
theorem Ks(F:Nat→List Iv):upL F 0=[]:=rfl
attribute [local irreducible] upL
end Go.Abs
namespace Go.Abs
def sLt(x y:Sy):Prop:=x.ty<y.ty∨(x.ty=y.ty∧x.num<y.num)
theorem sLt.irr{x:Sy}(h:sLt x x):False:=by unfold sLt at h;omega
theorem sLt.trans{x y z:Sy}(h:sLt x y)(k:sLt y z):sLt x z:=by unfold sLt at *;omega
theorem sLt.tri(x y:Sy):sLt x y∨x=y∨sLt y x:=by cases x;cases y;unfold sLt;simp only[Sy.mk.injEq];omega
def M0:List Sy→List Sy→Prop
 |x::v,y::w=>sLt x y∨(x=y∧M0 v w)
 |_,_=>False
def ll(v w:List Sy):Prop:=v.length<w.length∨(v.length=w.length∧M0 v w)
def lle(v w:List Sy):Prop:=v=w∨ll v w
theorem M0.irr:∀ {v:List Sy},¬M0 v v
 |[],h=>h
 |x::v,h=>by
  rcases h with h|⟨_,h⟩
  ·exact h.irr
  ·exact M0.irr h
theorem M0.trans:∀ {u v w:List Sy},M0 u v→M0 v w→M0 u w
 |[],_,_,h,_=>h.elim
 |_::_,[],_,h,_=>h.elim
 |_::_,_::_,[],_,k=>k.elim
 |x::u,y::v,z::w,h,k=>by
  rcases h with h|⟨rfl,h⟩
  ·rcases k with k|⟨rfl,k⟩
   ·exact .inl (h.trans k)
   ·exact .inl h
  ·rcases k with k|⟨rfl,k⟩
   ·exact .inl k
   ·exact .inr ⟨rfl,h.trans k⟩
theorem ll.irr{v:List Sy}(h:ll v v):False:=by
 rcases h with h|⟨_,h⟩
 ·omega
 ·exact M0.irr h
theorem ll.trans{u v w:List Sy}(h:ll u v)(k:ll v w):ll u w:=by
 rcases h with h|⟨h1,h2⟩
 ·rcases k with k|⟨k1,_⟩
  ·exact .inl (by omega)
  ·exact .inl (by omega)
 ·rcases k with k|⟨k1,k2⟩
  ·exact .inl (by omega)
  ·exact .inr ⟨by omega,h2.trans k2⟩
theorem lle.refl(v:List Sy):lle v v:= .inl rfl
theorem lle.trans{u v w:List Sy}(h:lle u v)(k:lle v w):lle u w:=by
 rcases h with rfl|h
 ·exact k
 ·rcases k with rfl|k
  ·exact .inr h
  ·exact .inr (h.trans k)
theorem ll.lle{u v w:List Sy}(h:ll u v)(k:lle v w):ll u w:=by
 rcases k with rfl|k
 ·exact h
 ·exact h.trans k
theorem lle.anti{u v:List Sy}(h:lle u v)(k:lle v u):u=v:=by
 rcases h with rfl|h
 ·rfl
 ·exact((h.lle k).irr).elim
theorem q0v:∀ {u v:List Sy} (a b:List Sy),u.length=v.length→M0 u v→M0 (u++a) (v++b)
 |[],_,_,_,_,h=>h.elim
 |_::_,[],_,_,_,h=>h.elim
 |x::u,y::v,a,b,e,h=>by
  rcases h with h|⟨rfl,h⟩
  ·exact .inl h
  ·exact .inr ⟨rfl,q0v a b (by simpa using e) h⟩
theorem Mr:∀(u:List Sy) {a b:List Sy},M0 a b→M0 (u++a) (u++b)
 |[],_,_,h=>h
 |_::u,_,_,h=> .inr ⟨rfl,Mr u h⟩
theorem k0l{u v:List Sy}(h:ll u v)(x y:Sy):ll (u++[x]) (v++[y]):=by
 rcases h with h|⟨h1,h2⟩
 ·exact .inl (by simp;omega)
 ·exact .inr ⟨by simp;omega,q0v _ _ h1 h2⟩
theorem M3(u:List Sy){x y:Sy}(h:sLt x y):ll (u++[x]) (u++[y]):= .inr ⟨by simp,Mr u (.inl h)⟩
theorem c0d{u v:List Sy}(h:lle u v){x y:Sy}(k:x=y∨sLt x y):lle (u++[x]) (v++[y]):=by
 rcases h with rfl|h
 ·rcases k with rfl|k
  ·exact .inl rfl
  ·exact .inr (M3 _ k)
 ·exact .inr (k0l h x y)
theorem j1r(u:List Sy)(x:Sy):ll u (u++[x]):= .inl (by simp)
theorem Iy{α:Type}[DecidableEq α]:∀(l U:List α),l.Nodup→(∀x∈l,x∈U)→l.length≤U.length
 |[],_,_,_=>wK _
 |x::l,U,hn,h=>by have hx:=h x (by simp);have hc:=List.nodup_cons.1 hn;have ih:=Iy l (U.erase x) hc.2 (fun y hy=>(List.mem_erase_of_ne (fun e=>hc.1 (by rw[←e];exact hy))).2 (h y (by simp[hy])));rw[List.length_erase_of_mem hx]at ih;have:=List.length_pos_of_mem hx;simp only[List.length_cons];omega
section
variable {σ:Type} [DecidableEq σ] (ok:Sy→Prop) (step:σ→Sy→σ) (good:σ→Bool)
def Y8(s:σ)(w:List Sy):σ:=w.foldl step s
structure FirstW (s:σ) (w:List Sy):Prop where
 okw:∀x∈w,ok x
 goodw:good (Y8 step s w)=true
 least:∀v,(∀x∈v,ok x)→good (Y8 step s v)=true→lle w v
variable {ok step good}
theorem FirstW.unique{s:σ}{v w:List Sy}(h:FirstW ok step good s v)(k:FirstW ok step good s w):v=w:=
 (h.least w k.okw k.goodw).anti (k.least v h.okw h.goodw)
variable (ok step good)
structure SuccOk (s:σ) (l:List (Sy×σ)):Prop where
 asc:l.Pairwise (fun a b=>sLt a.1 b.1)
 mem:∀e∈l,ok e.1∧e.2=step s e.1
 cov:∀y,ok y→∃e∈l,e.2=step s y∧(e.1=y∨sLt e.1 y)
variable (succ:σ→List (Sy×σ))
def j1y(l:List (σ×List Sy))(t:σ)(w:List Sy):List (σ×List Sy):=if t∈l.map (·.1)then l else l++[(t,w)]
def Sz(l:List (σ×List Sy))(w:List Sy)(es:List (Sy×σ)):List (σ×List Sy):=es.foldl (fun l e=>j1y l e.2 (w++[e.1])) l
def j12:Nat→Nat→List (σ×List Sy)→Option (List Sy)×List (σ×List Sy)
 |0,_,l=>(none,l)
 |f+1,n,l=>match l[n]? with
  |none=>(none,l)
  |some (s,w)=>if good s then(some w,l)else j12 f (n+1) (Sz l w (succ s))
variable (s0:σ) (G:σ→Prop)
structure BInv (n:Nat) (L:List (σ×List Sy)) (done:List (Sy×σ)):Prop where
 first:L[0]? =some (s0,[])
 mem:∀e∈L,(∀x∈e.2,ok x)∧Y8 step s0 e.2=e.1∧G e.1
 asc:L.Pairwise (fun a b=>ll a.2 b.2)
 nd:(L.map (·.1)).Nodup
 bad:∀i s w,i<n→L[i]? =some (s,w)→good s=false
 cls:∀i s w,i<n→L[i]? =some (s,w)→∀e∈succ s,∃v,(e.2,v)∈L∧lle v (w++[e.1])
 cur:∀s w,L[n]? =some (s,w)→∀e∈done,∃v,(e.2,v)∈L∧lle v (w++[e.1])
 org:∀d∈L,d.2=[]∨∃i s w x,L[i]? =some (s,w)∧d.2=w++[x]∧(i<n∨(i=n∧∃e∈done,e.1=x))
variable {ok step good succ s0 G}
theorem BInv.low{n:Nat}{L:List (σ×List Sy)}{done:List (Sy×σ)}(h:BInv ok step good succ s0 G n L done){s:σ}{w:List Sy}(hn:L[n]? =some (s,w))(x:Sy)(hx:∀e∈done,sLt e.1 x):∀e∈L,ll e.2 (w++[x]):=by
 intro d hd;rcases h.org d hd with e|⟨i,s',w',y,hi,e,hc⟩
 ·rw[e];exact .inl (by simp)
 ·rw[e];rcases hc with hc|⟨rfl,c,hc,rfl⟩
  ·obtain⟨h1,h2⟩:=zE.1 hi;obtain⟨h3,h4⟩:=zE.1 hn;have:=yU.1 h.asc i n h1 h3 hc;rw[h2,h4]at this;exact k0l this _ _
  ·rw[hn]at hi;cases hi;exact M3 _ (hx c hc)
theorem BInv.add {n:Nat} {L:List (σ×List Sy)} {done:List (Sy×σ)} (h:BInv ok step good succ s0 G n L done) {s:σ} {w:List Sy} (hn:L[n]? =some (s,w)) {e:Sy×σ} (he:ok e.1∧e.2=step s e.1) (hG:G e.2)
  (z8:∀d∈done,sLt d.1 e.1):BInv ok step good succ s0 G n (j1y L e.2 (w++[e.1])) (done++[e])∧(j1y L e.2 (w++[e.1]))[n]? =some (s,w):=by
 have zb:=(zE.1 hn).1;have z7:=h.low hn e.1 z8;unfold j1y;by_cases hin:e.2∈L.map (·.1)
 ·rw[if_pos hin];obtain⟨⟨t,v⟩,hv,ht⟩:=zX.1 hin;simp only at ht;subst ht;refine⟨⟨h.first,h.mem,h.asc,h.nd,h.bad,h.cls,fun s' w' z6 d hd=> ?_,fun d hd=> ?_⟩,hn⟩
  ·rw[hn]at z6;cases z6;rcases yE.1 hd with hd|hd
   ·exact h.cur s w hn d hd
   ·obtain rfl:=zW.1 hd;exact⟨v,hv,.inr (z7 _ hv)⟩
  ·rcases h.org d hd with e'|⟨i,s',w',y,hi,e',hc⟩
   ·exact .inl e'
   ·exact .inr ⟨i,s',w',y,hi,e',hc.imp id fun⟨k1,c,k2,k3⟩=>⟨k1,c,xL _ k2,k3⟩⟩
 ·rw[if_neg hin];have z1:∀i,i≤n→(L++[(e.2,w++[e.1])])[i]? =L[i]? :=fun i hi=>zI (by omega);have hw:=h.mem _ (zL hn);refine⟨⟨by rw[z1 0 (wK _)];exact h.first,fun d hd=> ?_,?_,?_,fun i s' w' hi z6=>h.bad i s' w' hi (by rw[←z1 i (by omega)];exact z6),fun i s' w' hi z6 d hd=> ?_,fun s' w' z6 d hd=> ?_,fun d hd=> ?_⟩,by rw[z1 n (zV _)];exact hn⟩
  ·rcases yE.1 hd with hd|hd
   ·exact h.mem d hd
   ·obtain rfl:=zW.1 hd;refine⟨fun x hx=> ?_,?_,hG⟩
    ·rcases yE.1 hx with hx|hx
     ·exact hw.1 x hx
     ·obtain rfl:=zW.1 hx;exact he.1
    ·show Y8 step s0 (w++[e.1])=e.2;have h2:Y8 step s0 w=s:=hw.2.1;rw[Y8,vz];show step (Y8 step s0 w) e.1=e.2;rw[h2,he.2]
  ·exact yR.2 ⟨h.asc,by simp,fun a ha b hb=>by obtain rfl:=zW.1 hb;exact z7 a ha⟩
  ·rw[xF];exact vT.2 ⟨h.nd,by simp,fun a ha b hb e'=>by
    simp at hb;subst hb;subst e';exact hin ha⟩
  ·rw[z1 i (by omega)]at z6;obtain⟨v,hv,hl⟩:=h.cls i s' w' hi z6 d hd;exact⟨v,xL _ hv,hl⟩
  ·rw[z1 n (zV _),hn]at z6;cases z6;rcases yE.1 hd with hd|hd
   ·obtain⟨v,hv,hl⟩:=h.cur s w hn d hd;exact⟨v,xL _ hv,hl⟩
   ·obtain rfl:=zW.1 hd;exact⟨_,uw _ (by simp),.inl rfl⟩
  ·rcases yE.1 hd with hd|hd
   ·rcases h.org d hd with e'|⟨i,s',w',y,hi,e',hc⟩
    ·exact .inl e'
    ·have za:i≤n:=by rcases hc with hc|hc<;>omega
     exact .inr ⟨i,s',w',y,by rw[z1 i za];exact hi,e',hc.imp id fun⟨k1,c,k2,k3⟩=>⟨k1,c,xL _ k2,k3⟩⟩
   ·obtain rfl:=zW.1 hd;exact .inr ⟨n,s,w,e.1,by rw[z1 n (zV _)];exact hn,rfl,.inr ⟨rfl,e,by simp,rfl⟩⟩
theorem BInv.round{n:Nat}:∀(es:List (Sy×σ)) (done:List (Sy×σ)) (L:List (σ×List Sy)) {s:σ} {w:List Sy},BInv ok step good succ s0 G n L done→L[n]? =some (s,w)→(∀e∈es,ok e.1∧e.2=step s e.1)→(∀e∈es,G e.2)→
  (done++es).Pairwise (fun a b=>sLt a.1 b.1)→BInv ok step good succ s0 G n (Sz L w es) (done++es)∧(Sz L w es)[n]? =some (s,w)
 |[],done,L,s,w,h,hn,_,_,_=>by simpa[Sz]using⟨h,hn⟩
 |e::es,done,L,s,w,h,hn,hm,hG,hp=>by have z1:∀d∈done,sLt d.1 e.1:=fun d hd=>(yR.1 hp).2.2 d hd e (by simp);obtain⟨h1,h2⟩:=h.add hn (hm e (by simp)) (hG e (by simp)) z1;have:=BInv.round es (done++[e]) _ h1 h2 (fun d hd=>hm d (by simp[hd])) (fun d hd=>hG d (by simp[hd])) (by simpa using hp);simpa[Sz]using this
theorem BInv.next{n:Nat}{L:List (σ×List Sy)}{s:σ}{w:List Sy}(h:BInv ok step good succ s0 G n L [])(hn:L[n]? =some (s,w))(hg:good s=false)(hs:SuccOk ok step s (succ s))(hG:∀e∈succ s,G e.2):
  BInv ok step good succ s0 G (n+1) (Sz L w (succ s)) []:=by
 obtain⟨h1,h2⟩:=h.round (succ s) [] L hn hs.mem hG (by simpa using hs.asc);rw[wZ]at h1;refine⟨h1.first,h1.mem,h1.asc,h1.nd,fun i s' w' hi z1=> ?_,fun i s' w' hi z1 d hd=> ?_,fun _ _ _ _ hd=>(by cases hd),fun d hd=> ?_⟩
 ·by_cases hin:i<n
  ·exact h1.bad i s' w' hin z1
  ·have:i=n:=by omega
   subst this;rw[h2]at z1;cases z1;exact hg
 ·by_cases hin:i<n
  ·exact h1.cls i s' w' hin z1 d hd
  ·have:i=n:=by omega
   subst this;rw[h2]at z1;cases z1;exact h1.cur s w h2 d hd
 ·rcases h1.org d hd with e'|⟨i,s',w',y,hi,e',hc⟩
  ·exact .inl e'
  ·exact .inr ⟨i,s',w',y,hi,e',.inl (by rcases hc with hc|hc<;>omega)⟩
theorem BInv.reach{n:Nat}{L:List (σ×List Sy)}(h:BInv ok step good succ s0 G n L [])(hs:∀s,G s→SuccOk ok step s (succ s)):∀(r:List Sy),(∀x∈r,ok x)→
  (∃v,(Y8 step s0 r.reverse,v)∈L∧lle v r.reverse)∨∃i s w,n≤i∧L[i]? =some (s,w)∧lle w r.reverse
 |[],_=> .inl ⟨[],zL h.first,lle.refl _⟩
 |x::r,hx=>by
  have z1:ll r.reverse (x::r).reverse:=by rw[uC];exact j1r _ _
  rcases BInv.reach h hs r (fun y hy=>hx y (by simp[hy]))with⟨v,hv,hl⟩|⟨i,s,w,h1,h2,h3⟩
  ·obtain⟨i,hi⟩:=yQ.1 hv;by_cases hin:i<n
   ·obtain⟨e,he,e1,e2⟩:=(hs _ (h.mem _ hv).2.2).cov x (hx x (by simp));obtain⟨u,hu,z6⟩:=h.cls i _ _ hin hi e he;refine .inl ⟨u,?_,?_⟩
    ·rw[uC,Y8,vz];show(step (Y8 step s0 r.reverse) x,u)∈L;rw[←e1];exact hu
    ·rw[uC];exact z6.trans (c0d hl e2)
   ·exact .inr ⟨i,_,v,by omega,hi,hl.trans (.inr z1)⟩
  ·exact .inr ⟨i,s,w,h1,h2,h3.trans (.inr z1)⟩
theorem BInv.found{n:Nat}{L:List (σ×List Sy)}{s:σ}{w:List Sy}(h:BInv ok step good succ s0 G n L [])(hs:∀s,G s→SuccOk ok step s (succ s))(hn:L[n]? =some (s,w))(hg:good s=true):FirstW ok step good s0 w:=by
 have hm:=h.mem _ (zL hn);refine⟨hm.1,by rw[hm.2.1];exact hg,fun v hv z1=> ?_⟩;have hle:∀i s' w',n≤i→L[i]? =some (s',w')→lle w w':=fun i s' w' hi hl=>by
  obtain⟨h1,h2⟩:=zE.1 hn;obtain⟨h3,h4⟩:=zE.1 hl;rcases Nat.lt_or_eq_of_le hi with hlt|rfl
  ·have:=yU.1 h.asc n i h1 h3 hlt;rw[h2,h4]at this;exact .inr this
  ·rw[hn]at hl;cases hl;exact .inl rfl
 rcases h.reach hs v.reverse (fun x hx=>hv x (by simpa using hx))with⟨u,hu,hl⟩|⟨i,s',w',h1,h2,h3⟩
 ·rw[up]at hu hl;obtain⟨i,hi⟩:=yQ.1 hu;by_cases hin:i<n
  ·have:=h.bad i _ _ hin hi;rw[this]at z1;cases z1
  ·exact(hle i _ _ (by omega) hi).trans hl
 ·rw[up]at h3;exact(hle i _ _ h1 h2).trans h3
theorem BInv.none{n:Nat}{L:List (σ×List Sy)}(h:BInv ok step good succ s0 G n L [])(hs:∀s,G s→SuccOk ok step s (succ s))(hn:L[n]? =none):
  (∀v,(∀x∈v,ok x)→Y8 step s0 v∈L.map (·.1)∧good (Y8 step s0 v)=false):=by
 intro v hv;have hlen:=List.getElem?_eq_none_iff.1 hn;rcases h.reach hs v.reverse (fun x hx=>hv x (by simpa using hx))with⟨u,hu,_⟩|⟨i,s',w',h1,h2,_⟩
 ·rw[up]at hu;obtain⟨i,hi⟩:=yQ.1 hu;have:=(zE.1 hi).1;exact⟨zX.2 ⟨_,hu,rfl⟩,h.bad i _ _ (by omega) hi⟩
 ·have:=(zE.1 h2).1;omega
theorem Md(hs:∀s,G s→SuccOk ok step s (succ s))(hG:∀s,G s→∀e∈succ s,G e.2)(U:List σ)(hU:∀s,G s→s∈U):∀(f n:Nat) (L:List (σ×List Sy)),U.length+1≤n+f→n≤L.length→BInv ok step good succ s0 G n L []→
  (∃w L',j12 good succ f n L=(some w,L')∧FirstW ok step good s0 w)∨
  (∃L',j12 good succ f n L=(Option.none,L')∧(L'.map (·.1)).Nodup∧(∀e∈L',(∀x∈e.2,ok x)∧Y8 step s0 e.2=e.1∧G e.1)∧∀v,(∀x∈v,ok x)→Y8 step s0 v∈L'.map (·.1)∧good (Y8 step s0 v)=false)
 |0,n,L,hf,hn,h=>by
  exfalso;have:=Iy _ U h.nd (fun s hs=>by
   obtain⟨e,he,rfl⟩:=zX.1 hs;exact hU _ (h.mem e he).2.2)
  simp at this;omega
 |f+1,n,L,hf,hn,h=>by
  rw[j12];cases hl:L[n]? with
  |none=>exact .inr ⟨L,rfl,h.nd,h.mem,h.none hs hl⟩
  |some e=>
   obtain⟨s,w⟩:=e;simp only;cases hg:good s with
   |true=>rw[if_pos rfl];exact .inl ⟨w,L,rfl,h.found hs hl hg⟩
   |false=>
    rw[if_neg (by simp)];have z1:=(h.mem _ (zL hl)).2.2;have h':=h.next hl hg (hs s z1) (hG s z1);refine Md hs hG U hU f (n+1) _ (by omega) ?_ h';have z6:=(zE.1 hl).1;have z7:∀(es:List (Sy×σ)) (L:List (σ×List Sy)),L.length≤(Sz L w es).length:=by
     intro es;induction es with
     |nil=>intro L;exact zV _
     |cons e es ih=>
      intro L;refine yY ?_ (ih (j1y L e.2 (w++[e.1])));unfold j1y;split
      ·exact zV _
      ·simp
    exact yY z6 (z7 _ _)
theorem z03(z1:G s0):BInv ok step good succ s0 G 0 [(s0,[])] []:=
 ⟨rfl,fun e he=>by obtain rfl:=zW.1 he;exact⟨by simp,rfl,z1⟩,by simp,by simp,fun i _ _ hi=>by omega,fun i _ _ hi=>by omega,fun _ _ _ _ hd=>(by cases hd),fun d hd=>by obtain rfl:=zW.1 hd;exact .inl rfl⟩
end
end Go.Abs
namespace Go.Abs
structure Dfa (a:Aut):Prop where
 ok:OkA a
 det:U2 a
 full:w04 a
def toL(a:Aut)(s:Int)(x:Sy):Int:=match a.mv.find? (fun m=>decide (m.src=s) && Tv m.on x)with|some m=>m.dst|none=> -1
def inS(a:Aut)(s:Int):Prop:=0≤s∧s<a.fin.length
theorem Dfa.next{a:Aut}(h:Dfa a){s:Int}(hs:inS a s){x:Sy}(hx:Eo a x):inS a (toL a s x)∧Wa a [s] x=[toL a s x]:=by
 obtain⟨t,t0,t1,e⟩:=z1w h.ok.wfA h.det h.full hs.1 hs.2 hx;obtain⟨m,hm,h1,h2⟩:=h.full s hs.1 hs.2 x hx;have hf:toL a s x=t:=by
  unfold toL;cases hq:a.mv.find? (fun m=>decide (m.src=s) && Tv m.on x)with
  |none=>have:=ue.1 hq m hm;simp[h1,h2]at this
  |some k=>have hk:=ug hq;have hp:=List.find?_some hq;simp at hp;have z1:k.dst∈Wa a [s] x:=W9.2 ⟨h.ok.wfA.dst k hk,k,hk,by rw[hp.1];simp,hp.2,rfl⟩;rw[e]at z1;exact zW.1 z1
 rw[hf];exact⟨⟨t0,t1⟩,e⟩
theorem Dfa.to_of{a:Aut}(h:Dfa a){m:Mv}(hm:m∈a.mv){x:Sy}(hx:Eo a x)(hh:Tv m.on x=true):toL a m.src x=m.dst:=by have hs:inS a m.src:=h.ok.wfA.src m hm;have h1:=(h.next hs hx).2;have z1:m.dst∈Wa a [m.src] x:=W9.2 ⟨h.ok.wfA.dst m hm,m,hm,by simp,hh,rfl⟩;rw[h1]at z1;exact(zW.1 z1).symm
theorem Dfa.move{a:Aut}(h:Dfa a){s:Int}(hs:inS a s){x:Sy}(hx:Eo a x):∃m∈a.mv,m.src=s∧Tv m.on x=true∧m.dst=toL a s x:=by obtain⟨m,hm,h1,h2⟩:=h.full s hs.1 hs.2 x hx;exact⟨m,hm,h1,h2,by rw[←h1,h.to_of hm hx h2]⟩
theorem M9{a:Aut}{x y:Sy}(h:∀m∈a.mv,Tv m.on x=Tv m.on y)(s:Int):toL a s x=toL a s y:=by
 unfold toL;have:a.mv.find? (fun m=>decide (m.src=s) && Tv m.on x)=a.mv.find? (fun m=>decide (m.src=s) && Tv m.on y):=by
  generalize a.mv=l at h;induction l with
  |nil=>rfl
  |cons m l ih=>rw[tR,tR,h m (by simp),ih (fun k hk=>h k (by simp[hk]))]
 rw[this]
def stF(a:Aut)(s:Int)(w:List Sy):Int:=w.foldl (toL a) s
def q1o(a:Aut)(s:Int)(w:List Sy):Bool:=a.fin.getD (stF a s w).toNat false
theorem Dfa.zero{a:Aut}(h:Dfa a):inS a 0:=⟨xB _,by have:=h.ok.fin;omega⟩
structure Ltr (T:Nat) (l cl:List Prd):Prop where
 prts:Prts T l cl
 asc:cl.Pairwise z0h
 len:∀p∈l,p.length=T
def okT(T:Nat)(x:Sy):Prop:=0≤x.ty∧x.ty.toNat<T∧inR x.num
theorem c14{T:Nat}(hT:0<T){l:List Prd}(hl:∀p∈l,PCk T p):Ltr T l (Q5 T l):=by obtain⟨h1,h2⟩:=Rt hT hl;exact⟨h1,h2,fun p hp=>(hl p hp).1⟩
theorem v07{p:Prd}{t:Nat}{n:Int}(h:Ii (Q1 p 0).1 (Q1 p 0).2 t n):sLt (Qo p) ⟨t,n⟩:=by unfold Ii at h;unfold sLt Qo;simp only;omega
theorem Ltr.least{T:Nat}{l cl:List Prd}(h:Ltr T l cl){c:Prd}(hc:c∈cl):okT T (Qo c)∧PM c (Qo c).ty.toNat (Qo c).num:=by have h1:=(W2 (h.prts.wf c hc) (h.prts.ne c hc)).1;have h2:=(h.prts.wf c hc).lt h1;exact⟨⟨by simp[Qo],by simpa[Qo]using h2.1,h2.2⟩,by simpa[Qo]using h1⟩
theorem Ltr.sig{T:Nat}{l cl:List Prd}(h:Ltr T l cl){c:Prd}(hc:c∈cl){x y:Sy}(hx:okT T x)(hy:okT T y)(z1:PM c x.ty.toNat x.num)(z6:PM c y.ty.toNat y.num):∀p∈l,Tv p x=Tv p y:=fun p hp=>by have h2:=((h.prts.cls c hc _ _ z1 _ _).1 z6).2.2 p hp;rw[x_,Er (h.len p hp) x hx.1,Er (h.len p hp) y hy.1];exact h2
theorem Ltr.cov{T:Nat}{l cl:List Prd}(h:Ltr T l cl){x:Sy}(hx:okT T x):∃c∈cl,PM c x.ty.toNat x.num∧(Qo c=x∨sLt (Qo c) x)∧∀p∈l,Tv p x=Tv p (Qo c):=by
 obtain⟨c,hc,hm⟩:=h.prts.all x.ty.toNat x.num hx.2.1 hx.2.2;obtain⟨h1,h2⟩:=h.least hc;refine⟨c,hc,hm,?_,h.sig hc hx h1 hm h2⟩;rcases(W2 (h.prts.wf c hc) (h.prts.ne c hc)).2 _ _ hm with⟨e1,e2⟩|hlt
 ·left;unfold Qo;rw[e1,e2,show((x.ty.toNat:Nat):Int)=x.ty by have:=hx.1;omega]
 ·right;have:=v07 hlt;have e:(⟨(x.ty.toNat:Int),x.num⟩:Sy)=x:=by rw[show((x.ty.toNat:Nat):Int)=x.ty by have:=hx.1;omega]
  rw[e]at this;exact this
theorem Ltr.ascS{T:Nat}{l cl:List Prd}(h:Ltr T l cl):(cl.map Qo).Pairwise sLt:=by
 refine wS.2 (h.asc.imp_of_mem fun {p q} hp hq hlt=> ?_);obtain⟨t,n,hm,z1⟩:=hlt;have h1:=z1 _ _ (W2 (h.prts.wf q hq) (h.prts.ne q hq)).1;have h2:Ii (Q1 p 0).1 (Q1 p 0).2 (Q1 q 0).1 (Q1 q 0).2:=by
  rcases(W2 (h.prts.wf p hp) (h.prts.ne p hp)).2 t n hm with⟨e1,e2⟩|h3
  ·rw[e1,e2];exact h1
  ·exact h3.trans h1
 exact v07 h2
def Ab(a b:Aut):List Sy:=(Q5 a.types.toNat (onA a++onA b)).map Qo
def Y1(a b:Aut)(s:Int×Int)(x:Sy):Int×Int:=(toL a s.1 x,toL b s.2 x)
def d0p(a b:Aut)(s:Int×Int):List (Sy×(Int×Int)):=(Ab a b).map fun x=>(x,Y1 a b s x)
theorem Pj{a:Aut}{x:Sy}:okT a.types.toNat x↔Eo a x:=by
 unfold okT Eo;constructor
 ·rintro⟨h1,h2,h3⟩;exact⟨⟨h1,by omega⟩,h3⟩
 ·rintro⟨⟨h1,h2⟩,h3⟩;exact⟨h1,by omega,h3⟩
theorem g1i{a b:Aut}(ha:OkA a)(hb:OkA b)(ht:b.types=a.types):Ltr a.types.toNat (onA a++onA b) (Q5 a.types.toNat (onA a++onA b)):=
 c14 (by have:=ha.types;omega) fun p hp=>by
  rcases yE.1 hp with hp|hp
  ·exact Jt ha p hp
  ·rw[←ht];exact Jt hb p hp
theorem j0u{a:Aut}{m:Mv}(h:m∈a.mv):m.on∈onA a:=zX.2 ⟨m,h,rfl⟩
theorem k0u{a b:Aut}(ha:OkA a)(hb:OkA b)(ht:b.types=a.types)(s:Int×Int):SuccOk (Eo a) (Y1 a b) s (d0p a b s):=by
 have hl:=g1i ha hb ht;refine⟨?_,fun e he=> ?_,fun y hy=> ?_⟩
 ·unfold d0p;exact wS.2 (hl.ascS.imp fun h=>h)
 ·obtain⟨x,hx,rfl⟩:=zX.1 he;obtain⟨c,hc,rfl⟩:=zX.1 hx;exact⟨Pj.1 (hl.least hc).1,rfl⟩
 ·obtain⟨c,hc,hm,hle,z1⟩:=hl.cov (Pj.2 hy);refine⟨(Qo c,Y1 a b s (Qo c)),zX.2 ⟨Qo c,zX.2 ⟨c,hc,rfl⟩,rfl⟩,?_,hle⟩;unfold Y1;rw[M9 (fun m hm=>(z1 m.on (xL _ (j0u hm))).symm),M9 (a:=b) (fun m hm=>(z1 m.on (uw _ (j0u hm))).symm)]
def Yf(a b:Aut)(s:Int×Int):Bool:=a.fin.getD s.1.toNat false != b.fin.getD s.2.toNat false
def Dk(a b:Aut)(p q:Int):Option (List Sy)×List ((Int×Int)×List Sy):=j12 (Yf a b) (d0p a b) (a.fin.length * b.fin.length+1) 0 [((p,q),[])]
theorem Vk(a b:Aut):∀(w:List Sy) (p q:Int),Y8 (Y1 a b) (p,q) w=(stF a p w,stF b q w)
 |[],_,_=>rfl
 |x::w,p,q=>Vk a b w (toL a p x) (toL b q x)
def Pq(a b:Aut):List (Int×Int):=(E3 a.fin.length).flatMap fun i=>(E3 b.fin.length).map fun j=>(i,j)
theorem Am(a b:Aut):(Pq a b).length=a.fin.length * b.fin.length:=by unfold Pq;rw[List.length_flatMap,xP (g:=fun _=>b.fin.length) (fun i _=>by simp[E3]),tS,List.sum_replicate_nat];simp[E3]
theorem Gy{a b:Aut}{s:Int×Int}(h1:inS a s.1)(h2:inS b s.2):s∈Pq a b:=by unfold Pq;rw[w_];exact⟨s.1,Ep.2 h1,zX.2 ⟨s.2,Ep.2 h2,rfl⟩⟩
def y14(a b:Aut)(p q:Int)(w:List Sy):Prop:=FirstW (Eo a) (Y1 a b) (Yf a b) (p,q) w
theorem Ze(a b:Aut)(p q:Int)(w:List Sy):Yf a b (Y8 (Y1 a b) (p,q) w)=true↔q1o a p w≠q1o b q w:=by rw[Vk];simp[Yf,q1o]
theorem C8{a b:Aut}(ha:Dfa a)(hb:Dfa b)(ht:b.types=a.types){p q:Int}(hp:inS a p)(hq:inS b q):
  (∃w,(Dk a b p q).1=some w∧y14 a b p q w)∨((Dk a b p q).1=none∧∀w,(∀x∈w,Eo a x)→q1o a p w=q1o b q w):=by
 have z1:∀x,Eo a x→Eo b x:=fun x hx=>by unfold Eo at *;rw[ht];exact hx
 rcases Md (ok:=Eo a) (step:=Y1 a b) (good:=Yf a b) (succ:=d0p a b) (s0:=(p,q)) (G:=fun s=>inS a s.1∧inS b s.2) (fun s _=>k0u ha.ok hb.ok ht s)
  (fun s hs e he=>by
   obtain⟨h1,h2⟩:=(k0u ha.ok hb.ok ht s).mem e he;rw[h2];exact⟨(ha.next hs.1 h1).1,(hb.next hs.2 (z1 _ h1)).1⟩) (Pq a b) (fun s hs=>Gy hs.1 hs.2) (a.fin.length * b.fin.length+1) 0 [((p,q),[])] (by rw[Am];omega) (by simp) (z03 ⟨hp,hq⟩)with⟨w,L,h1,h2⟩|⟨L,h1,_,_,h2⟩
 ·exact .inl ⟨w,by rw[Dk,h1],h2⟩
 ·refine .inr ⟨by rw[Dk,h1],fun w hw=> ?_⟩;have:=(h2 w hw).2;by_cases hd:q1o a p w=q1o b q w
  ·exact hd
  ·rw[(Ze a b p q w).2 hd]at this;cases this
end Go.Abs
namespace Go.Abs
def Q8(a:Aut)(s:Int):List Mv:=a.mv.filter fun m=>decide (m.src=s) && !Wo m.on
def Wh(a b:Aut)(s:Int×Int):List (Sy×(Int×Int)):=(Q8 a s.1).flatMap fun m=>(Q8 b s.2).filterMap fun n=>if Wo (Wz m.on n.on)then none else some (Qo (Wz m.on n.on),(m.dst,n.dst))
theorem Wu{a:Aut}{s:Int}{m:Mv}:m∈Q8 a s↔m∈a.mv∧m.src=s∧Wo m.on=false:=by unfold Q8;rw[xV];simp
theorem Uo{a b:Aut}{s:Int×Int}{e:Sy×(Int×Int)}:e∈Wh a b s↔∃m∈Q8 a s.1,∃n∈Q8 b s.2,Wo (Wz m.on n.on)=false∧e=(Qo (Wz m.on n.on),(m.dst,n.dst)):=by
 unfold Wh;rw[w_];constructor
 ·rintro⟨m,hm,h⟩;obtain⟨n,hn,h⟩:=vX.1 h;cases hv:Wo (Wz m.on n.on)
  ·rw[hv,if_neg (by simp)]at h;cases h;exact⟨m,hm,n,hn,hv,rfl⟩
  ·rw[hv,if_pos rfl]at h;cases h
 ·rintro⟨m,hm,n,hn,hv,rfl⟩;exact⟨m,hm,vX.2 ⟨n,hn,by rw[hv,if_neg (by simp)]⟩⟩
theorem R8{T:Nat}{p:Prd}(h:PWf T p):Wo p=false↔∃t n,PM p t n:=by
 cases hv:Wo p
 ·simp only[true_iff];apply Classical.byContradiction;intro hn;have:=(Tr h).2 (fun t n hm=>hn ⟨t,n,hm⟩);rw[hv]at this;cases this
 ·simp only[Bool.true_eq_false,false_iff];rintro⟨t,n,hm⟩;exact(Tr h).1 hv t n hm
theorem Uz{T:Nat}{p:Prd}(h:PWf T p)(hn:∃t n,PM p t n):okT T (Qo p)∧PM p (Qo p).ty.toNat (Qo p).num∧∀x,okT T x→PM p x.ty.toNat x.num→Qo p=x∨sLt (Qo p) x:=by
 have h1:=W2 h hn;have h2:=h.lt h1.1;refine⟨⟨by simp[Qo],by simpa[Qo]using h2.1,h2.2⟩,by simpa[Qo]using h1.1,fun x hx hm=> ?_⟩;rcases h1.2 _ _ hm with⟨e1,e2⟩|hlt
 ·left;unfold Qo;rw[e1,e2,show((x.ty.toNat:Nat):Int)=x.ty by have:=hx.1;omega]
 ·right;have:=v07 hlt;have e:(⟨(x.ty.toNat:Int),x.num⟩:Sy)=x:=by rw[show((x.ty.toNat:Nat):Int)=x.ty by have:=hx.1;omega]
  rw[e]at this;exact this
theorem Ax{a b:Aut}(ha:Dfa a)(hb:Dfa b)(ht:b.types=a.types){s:Int×Int}(h1:inS a s.1)(h2:inS b s.2):
  (∀e∈Wh a b s,Eo a e.1∧e.2=Y1 a b s e.1)∧∀y,Eo a y→∃e∈Wh a b s,e.2=Y1 a b s y∧(e.1=y∨sLt e.1 y):=by
 have z1:∀x,Eo a x→Eo b x:=fun x hx=>by unfold Eo at *;rw[ht];exact hx
 have z7:∀ {m n:Mv},m∈a.mv→n∈b.mv→PWf a.types.toNat m.on∧PWf a.types.toNat n.on:=fun hm hn=>⟨ha.ok.wfA.on _ hm,by rw[←ht];exact hb.ok.wfA.on _ hn⟩
 constructor
 ·intro e he;obtain⟨m,hm,n,hn,hv,rfl⟩:=Uo.1 he;obtain⟨m1,m2,_⟩:=Wu.1 hm;obtain⟨n1,n2,_⟩:=Wu.1 hn;obtain⟨w1,w2⟩:=z7 m1 n1;have hw:=R6 w1 w2.1;obtain⟨k1,k2,_⟩:=Uz hw ((R8 hw).1 hv);have hk:=Pj.1 k1;obtain⟨p1,p2⟩:=(Ec w1.1 w2.1 _ _).1 k2;refine⟨hk,?_⟩;unfold Y1;rw[←m2,←n2,ha.to_of m1 hk ((Er w1.1 _ hk.1.1).2 p1),hb.to_of n1 (z1 _ hk) ((Er w2.1 _ hk.1.1).2 p2)]
 ·intro y hy;obtain⟨m,m1,m2,m3,m4⟩:=ha.move h1 hy;obtain⟨n,n1,n2,n3,n4⟩:=hb.move h2 (z1 y hy);obtain⟨w1,w2⟩:=z7 m1 n1;have hw:=R6 w1 w2.1;have p1:=(Er w1.1 y hy.1.1).1 m3;have p2:=(Er w2.1 y hy.1.1).1 n3;have z6:=(Ec w1.1 w2.1 _ _).2 ⟨p1,p2⟩;have hv:=(R8 hw).2 ⟨_,_,z6⟩;refine⟨_,Uo.2 ⟨m,Wu.2 ⟨m1,m2,(R8 w1).2 ⟨_,_,p1⟩⟩,n,Wu.2 ⟨n1,n2,(R8 w2).2 ⟨_,_,p2⟩⟩,hv,rfl⟩,?_,(Uz hw ⟨_,_,z6⟩).2.2 y (Pj.2 hy) z6⟩;unfold Y1;rw[m4,n4]
def lkN(near:List ((Int×Int)×Nat))(s:Int×Int):Option Nat:=(near.find? fun e=>decide (e.1=s)).map (·.2)
def F3(a:Aut)(near:List ((Int×Int)×Nat))(d:Nat)(s:Int×Int):Bool:=match d with
 |0=>Yf a a s
 |d+1=>(Wh a a s).any fun e=>decide (lkN near e.2=some d)
def Ts(a:Aut)(near:List ((Int×Int)×Nat))(d:Nat):List (Int×Int):=(Pq a a).filter fun s=>decide (lkN near s=none) && F3 a near d s
def Hz(a:Aut):Nat→Nat→List ((Int×Int)×Nat)→List ((Int×Int)×Nat)
 |0,_,near=>near
 |f+1,d,near=>if Ts a near d=[]then near else Hz a f (d+1) (near++(Ts a near d).map fun s=>(s,d))
def Yd(a:Aut):List ((Int×Int)×Nat):=Hz a (a.fin.length * a.fin.length+1) 1 ((Ts a [] 0).map fun s=>(s,0))
def inP(a:Aut)(s:Int×Int):Prop:=inS a s.1∧inS a s.2
def Xm(a:Aut)(s:Int×Int)(d:Nat):Prop:=∃w:List Sy,w.length=d∧(∀x∈w,Eo a x)∧Yf a a (Y8 (Y1 a a) s w)=true
def O3(a:Aut)(s:Int×Int)(d:Nat):Prop:=Xm a s d∧∀k,k<d→¬Xm a s k
theorem Fp{a:Aut}{s:Int×Int}:Xm a s 0↔Yf a a s=true:=by
 constructor
 ·rintro⟨w,hw,_,h⟩;obtain rfl:=List.length_eq_zero_iff.1 hw;exact h
 ·intro h;exact⟨[],rfl,by simp,h⟩
theorem P2{a:Aut}{s:Int×Int}{d:Nat}:Xm a s (d+1)↔∃y,Eo a y∧Xm a (Y1 a a s y) d:=by
 constructor
 ·rintro⟨w,hw,ho,h⟩;cases w with
  |nil=>cases hw
  |cons y w=>exact⟨y,ho y (by simp),w,by simpa using hw,fun x hx=>ho x (by simp[hx]),h⟩
 ·rintro⟨y,hy,w,hw,ho,h⟩;exact⟨y::w,by simp[hw],fun x hx=>(yL.1 hx).elim (fun e=>by rw[e];exact hy) (ho x),h⟩
theorem Ke{a:Aut}{s:Int×Int}{d k:Nat}(h:O3 a s d)(h':O3 a s k):d=k:=by
 rcases Nat.lt_trichotomy d k with hlt|e|hlt
 ·exact absurd h.1 (h'.2 d hlt)
 ·exact e
 ·exact absurd h'.1 (h.2 k hlt)
theorem Ny{a:Aut}{s:Int×Int}:∀(d:Nat),Xm a s d→∃k,k≤d∧O3 a s k:=by
 intro d;induction d using Nat.strongRecOn with
 |_ d ih=>
  intro h;by_cases hk:∃k,k<d∧Xm a s k
  ·obtain⟨k,h1,h2⟩:=hk;obtain⟨j,h3,h4⟩:=ih k h1 h2;exact⟨j,by omega,h4⟩
  ·exact⟨d,zV _,h,fun k h1 h2=>hk ⟨k,h1,h2⟩⟩
theorem A3{a:Aut}{s:Int×Int}{d:Nat}(h:O3 a s (d+1)):∃y,Eo a y∧O3 a (Y1 a a s y) d:=by obtain⟨y,hy,h1⟩:=P2.1 h.1;refine⟨y,hy,h1,fun k hk h2=> ?_⟩;exact h.2 (k+1) (by omega) (P2.2 ⟨y,hy,h2⟩)
theorem Sk{a:Aut}(ha:Dfa a){s:Int×Int}(hs:inP a s){y:Sy}(hy:Eo a y):inP a (Y1 a a s y):=⟨(ha.next hs.1 hy).1,(ha.next hs.2 hy).1⟩
structure NInv (a:Aut) (d:Nat) (near:List ((Int×Int)×Nat)):Prop where
 lk:∀s,inP a s→∀k,lkN near s=some k↔(k<d∧O3 a s k)
 keys:(near.map (·.1)).Nodup
 dom:∀e∈near,e.1∈Pq a a
theorem u1u(A:List ((Int×Int)×Nat))(B:List (Int×Int))(d:Nat)(s:Int×Int):lkN (A++B.map fun t=>(t,d)) s=match lkN A s with|some k=>some k|none=>if s∈B then some d else none:=by
 unfold lkN;rw[List.find?_append];cases hA:A.find? fun e=>decide (e.1=s)with
 |some e=>rfl
 |none=>
  simp only[Option.none_or,Option.map_none];by_cases hs:s∈B
  ·rw[if_pos hs];obtain⟨e,he⟩:=Option.isSome_iff_exists.1 (List.find?_isSome.2 ⟨(s,d),zX.2 ⟨s,hs,rfl⟩,by simp⟩:(List.find? (fun e:(Int×Int)×Nat=>decide (e.1=s)) (B.map fun t=>(t,d))).isSome);rw[he];obtain⟨t,_,rfl⟩:=zX.1 (ug he);rfl
  ·rw[if_neg hs];rw[ue.2 (fun e he=>by
    obtain⟨t,ht,rfl⟩:=zX.1 he;simp only[decide_eq_true_eq];rintro rfl;exact hs ht)]
   rfl
theorem Dr{A:List ((Int×Int)×Nat)}{s:Int×Int}:lkN A s=none↔s∉A.map (·.1):=by
 unfold lkN;rw[Option.map_eq_none_iff,ue];constructor
 ·intro h hs;obtain⟨e,he,rfl⟩:=zX.1 hs;exact h e he (by simp)
 ·intro h e he;simp only[decide_eq_true_eq];rintro rfl;exact h (zX.2 ⟨e,he,rfl⟩)
theorem g0i{a:Aut}{s:Int×Int}(h:s∈Pq a a):inP a s:=by obtain⟨i,hi,hs⟩:=w_.1 h;obtain⟨j,hj,rfl⟩:=zX.1 hs;exact⟨Ep.1 hi,Ep.1 hj⟩
theorem J6(a:Aut):(Pq a a).Nodup:=by have hr:∀n,(E3 n).Nodup:=fun n=>(Il n).imp (fun h e=>by omega);unfold Pq List.Nodup;rw[List.pairwise_flatMap];refine⟨fun i _=>wS.2 ((hr _).imp fun h e=>h (Prod.mk.inj e).2),(hr _).imp fun {i j} hij x hx y hy e=> ?_⟩;obtain⟨u,_,rfl⟩:=zX.1 hx;obtain⟨v,_,rfl⟩:=zX.1 hy;exact hij (Prod.mk.inj e).1
theorem F1{a:Aut}(ha:Dfa a){d:Nat}{near:List ((Int×Int)×Nat)}(h:NInv a d near){s:Int×Int}:s∈Ts a near d↔inP a s∧O3 a s d:=by
 unfold Ts;rw[xV];simp only[yT,decide_eq_true_eq];have z1:∀s,inP a s→(lkN near s=none↔∀k,k<d→¬Xm a s k):=fun s hs=>by
  constructor
  ·intro hn k hk hd;obtain⟨j,h1,h2⟩:=Ny k hd;have:=(h.lk s hs j).2 ⟨by omega,h2⟩;rw[hn]at this;cases this
  ·intro hk;cases hl:lkN near s with
   |none=>rfl
   |some k=>obtain⟨h1,h2⟩:=(h.lk s hs k).1 hl;exact absurd h2.1 (hk k h1)
 constructor
 ·rintro⟨h1,h2,h3⟩;have hs:=g0i h1;have hk:=(z1 s hs).1 h2;refine⟨hs,?_,hk⟩;cases d with
  |zero=>exact Fp.2 h3
  |succ d=>simp only[F3,wO,decide_eq_true_eq]at h3;obtain⟨e,he,hl⟩:=h3;obtain⟨e1,e2⟩:=(Ax ha ha rfl hs.1 hs.2).1 e he;rw[e2]at hl;exact P2.2 ⟨e.1,e1,((h.lk _ (Sk ha hs e1) d).1 hl).2.1⟩
 ·rintro⟨hs,h2⟩;refine⟨Gy hs.1 hs.2,(z1 s hs).2 h2.2,?_⟩;cases d with
  |zero=>exact Fp.1 h2.1
  |succ d=>obtain⟨y,hy,hm⟩:=A3 h2;obtain⟨e,he,e1,_⟩:=(Ax ha ha rfl hs.1 hs.2).2 y hy;simp only[F3,wO,decide_eq_true_eq];exact⟨e,he,by rw[e1];exact(h.lk _ (Sk ha hs hy) d).2 ⟨by omega,hm⟩⟩
theorem NInv.step{a:Aut}(ha:Dfa a){d:Nat}{near:List ((Int×Int)×Nat)}(h:NInv a d near):NInv a (d+1) (near++(Ts a near d).map fun s=>(s,d)):=by
 refine⟨fun s hs k=> ?_,?_,fun e he=> ?_⟩
 ·rw[u1u];cases hl:lkN near s with
  |some j=>
   obtain⟨h1,h2⟩:=(h.lk s hs j).1 hl;simp only[Option.some.injEq];constructor
   ·rintro rfl;exact⟨by omega,h2⟩
   ·rintro⟨_,h3⟩;exact Ke h2 h3
  |none=>
   simp only;have z1:∀k,k<d→¬O3 a s k:=fun k hk hm=>by have:=(h.lk s hs k).2 ⟨hk,hm⟩;rw[hl]at this;cases this
   by_cases hf:s∈Ts a near d
   ·rw[if_pos hf];have hm:=((F1 ha h).1 hf).2;simp only[Option.some.injEq];constructor
    ·rintro rfl;exact⟨by omega,hm⟩
    ·rintro⟨_,h3⟩;exact Ke hm h3
   ·rw[if_neg hf];constructor
    ·intro hc;cases hc
    ·rintro⟨h1,h3⟩;by_cases hkd:k<d
     ·exact absurd h3 (z1 k hkd)
     ·have:k=d:=by omega
      subst this;exact absurd ((F1 ha h).2 ⟨hs,h3⟩) hf
 ·rw[xF,List.map_map,vT];refine⟨h.keys,?_,fun x hx y hy e=> ?_⟩
  ·have:(Ts a near d).map ((·.1)∘fun s=>(s,d))=Ts a near d:=by exact(xP (g:=id) (fun _ _=>rfl)).trans (List.map_id _)
   rw[this];exact(J6 a).filter _
  ·subst e;obtain⟨t,ht,rfl⟩:=zX.1 hy;have:=(xV.1 ht).2;simp only[yT,decide_eq_true_eq]at this;exact Dr.1 this.1 hx
 ·rcases yE.1 he with he|he
  ·exact h.dom e he
  ·obtain⟨t,ht,rfl⟩:=zX.1 he;exact(xV.1 ht).1
theorem q0j{a:Aut}(ha:Dfa a):∀(k d:Nat) (s:Int×Int),inP a s→O3 a s (d+k)→∃t,inP a t∧O3 a t d
 |0,_,s,hs,h=>⟨s,hs,h⟩
 |k+1,d,s,hs,h=>by obtain⟨y,hy,hm⟩:=A3 (d:=d+k) h;exact q0j ha k d _ (Sk ha hs hy) hm
theorem f0i{a:Aut}(ha:Dfa a):∀(f d:Nat) (near:List ((Int×Int)×Nat)),a.fin.length * a.fin.length+1≤near.length+f→NInv a d near→∀s,inP a s→∀k,lkN (Hz a f d near) s=some k↔O3 a s k
 |0,d,near,hf,h=>by
  exfalso;have:=Iy _ (Pq a a) h.keys (fun s hs=>by
   obtain⟨e,he,rfl⟩:=zX.1 hs;exact h.dom e he)
  rw[Am,yP]at this;omega
 |f+1,d,near,hf,h=>by
  rw[Hz];by_cases he:Ts a near d=[]
  ·rw[if_pos he];intro s hs k;rw[h.lk s hs k];refine⟨fun hk=>hk.2,fun hm=>⟨?_,hm⟩⟩;by_cases hkd:k<d
   ·exact hkd
   ·exfalso;obtain⟨t,ht,z1⟩:=q0j ha (k - d) d s hs (by rw[show d+(k - d)=k by omega];exact hm);have:=(F1 ha h).2 ⟨ht,z1⟩;rw[he]at this;cases this
  ·rw[if_neg he];have hl:=List.length_pos_iff.2 he;exact f0i ha f (d+1) _ (by simp;omega) (h.step ha)
theorem x04{a:Aut}(ha:Dfa a):∀s,inP a s→∀k,lkN (Yd a) s=some k↔O3 a s k:=by
 have h0:NInv a 0 []:=⟨fun s _ k=>by simp[lkN],by simp,by simp⟩
 have h1:=h0.step ha;rw[wZ]at h1;exact f0i ha _ 1 _ (by omega) h1
def X6(x y:Sy):Bool:=decide (x.ty<y.ty) || (decide (x.ty=y.ty) && decide (x.num<y.num))
def f0a(es:List (Sy×(Int×Int))):Option (Sy×(Int×Int)):=es.foldl (fun b e=>match b with|none=>some e|some c=>if X6 e.1 c.1 then some e else some c) none
theorem x1i(x y:Sy):X6 x y=true↔sLt x y:=by simp[X6,sLt]
theorem Fm:∀(es:List (Sy×(Int×Int))) (c:Sy×(Int×Int)),∃e,es.foldl (fun b e=>match b with|none=>some e|some c=>if X6 e.1 c.1 then some e else some c) (some c)=some e∧(e=c∨e∈es)∧(e.1=c.1∨sLt e.1 c.1)∧∀f∈es,e.1=f.1∨sLt e.1 f.1
 |[],c=>⟨c,rfl,.inl rfl,.inl rfl,by simp⟩
 |f::es,c=>by
  rw[List.foldl_cons];simp only;cases hb:X6 f.1 c.1 with
  |true=>
   rw[if_pos rfl];have z6:=(x1i _ _).1 hb;obtain⟨e,h1,h2,h3,h4⟩:=Fm es f;refine⟨e,h1,.inr ?_,.inr ?_,fun g hg=> ?_⟩
   ·rcases h2 with rfl|h2
    ·simp
    ·simp[h2]
   ·rcases h3 with h3|h3
    ·rw[h3];exact z6
    ·exact h3.trans z6
   ·rcases yL.1 hg with rfl|hg
    ·exact h3
    ·exact h4 g hg
  |false=>
   rw[if_neg (by simp)];obtain⟨e,h1,h2,h3,h4⟩:=Fm es c;refine⟨e,h1,h2.imp id (fun h=>List.mem_cons_of_mem _ h),h3,fun g hg=> ?_⟩;rcases yL.1 hg with rfl|hg
   ·have hn:¬sLt g.1 c.1:=fun h=>by rw[(x1i _ _).2 h]at hb;cases hb
    have z1:c.1=g.1∨sLt c.1 g.1:=by
     rcases sLt.tri g.1 c.1 with h|h|h
     ·exact absurd h hn
     ·exact .inl h.symm
     ·exact .inr h
    rcases h3 with h3|h3
    ·rw[h3];exact z1
    ·rcases z1 with z1|z1
     ·rw[←z1];exact .inr h3
     ·exact .inr (h3.trans z1)
   ·exact h4 g hg
theorem Cp{es:List (Sy×(Int×Int))}(h:es≠[]):∃e,f0a es=some e∧e∈es∧∀f∈es,e.1=f.1∨sLt e.1 f.1:=by
 cases es with
 |nil=>exact absurd rfl h
 |cons c es=>
  obtain⟨e,h1,h2,h3,h4⟩:=Fm es c;refine⟨e,h1,by rcases h2 with rfl|h2<;>simp[*],fun f hf=> ?_⟩;rcases yL.1 hf with rfl|hf
  ·exact h3
  ·exact h4 f hf
def Ue(a:Aut)(near:List ((Int×Int)×Nat)):Nat→Int×Int→List Sy
 |0,_=>[]
 |d+1,s=>match f0a ((Wh a a s).filter fun e=>decide (lkN near e.2=some d))with
  |some e=>e.1::Ue a near d e.2
  |none=>⟨0,0⟩::Ue a near d (0,0)
theorem j1l{x y:Sy}{v w:List Sy}(h:x=y∨sLt x y)(hl:v.length=w.length)(hv:x=y→lle v w):lle (x::v) (y::w):=by
 rcases h with rfl|h
 ·rcases hv rfl with rfl|hv
  ·exact .inl rfl
  ·rcases hv with hv|⟨h1,h2⟩
   ·omega
   ·exact .inr (.inr ⟨by simp[h1],.inr ⟨rfl,h2⟩⟩)
 ·exact .inr (.inr ⟨by simp[hl],.inl h⟩)
theorem Xx{a:Aut}(ha:Dfa a){near:List ((Int×Int)×Nat)}(hn:∀s,inP a s→∀k,lkN near s=some k↔O3 a s k):∀(d:Nat) (s:Int×Int),inP a s→O3 a s d→(Ue a near d s).length=d∧y14 a a s.1 s.2 (Ue a near d s)
 |0,s,hs,h=>⟨rfl,by simp[Ue],Fp.1 h.1,fun v hv hg=>by
   cases v with
   |nil=>exact .inl rfl
   |cons x v=>exact .inr (.inl (by simp[Ue]))⟩
 |d+1,s,hs,h=>by
  obtain⟨y,hy,hm⟩:=A3 h;obtain⟨e0,z8,za,_⟩:=(Ax ha ha rfl hs.1 hs.2).2 y hy;have zb:(Wh a a s).filter (fun e=>decide (lkN near e.2=some d))≠[]:=List.ne_nil_of_mem (xV.2 ⟨z8,by
   rw[za];simpa using(hn _ (Sk ha hs hy) d).2 hm⟩)
  obtain⟨e,h1,h2,h3⟩:=Cp zb;obtain⟨zc,zd⟩:=xV.1 h2;obtain⟨e1,e2⟩:=(Ax ha ha rfl hs.1 hs.2).1 e zc;have z1:inP a e.2:=by rw[e2];exact Sk ha hs e1
  have ze:O3 a e.2 d:=(hn _ z1 d).1 (by simpa using zd);obtain⟨i1,i2⟩:=Xx ha hn d e.2 z1 ze;rw[Ue,h1];simp only;refine⟨by simp[i1],fun x hx=> ?_,?_,fun v hv hg=> ?_⟩
  ·rcases yL.1 hx with rfl|hx
   ·exact e1
   ·exact i2.okw x hx
  ·have:=i2.goodw;show Yf a a (Y8 (Y1 a a) (Y1 a a s e.1) (Ue a near d e.2))=true;rw[←e2];exact this
  ·by_cases hlen:v.length=d+1
   ·cases v with
    |nil=>cases hlen
    |cons z v=>
     have hz:=hv z (by simp);have z6:v.length=d:=by simpa using hlen
     have z7:Yf a a (Y8 (Y1 a a) (Y1 a a s z) v)=true:=hg;have zf:O3 a (Y1 a a s z) d:=by refine⟨⟨v,z6,fun x hx=>hv x (by simp[hx]),z7⟩,fun k hk hd=> ?_⟩;exact h.2 (k+1) (by omega) (P2.2 ⟨z,hz,hd⟩)
     obtain⟨f,hf,f1,f2⟩:=(Ax ha ha rfl hs.1 hs.2).2 z hz;have zg:f∈(Wh a a s).filter (fun e=>decide (lkN near e.2=some d)):=xV.2 ⟨hf,by
      rw[f1];simpa using(hn _ (Sk ha hs hz) d).2 zf⟩
     have hle:e.1=z∨sLt e.1 z:=by
      rcases h3 f zg with h4|h4
      ·rcases f2 with f2|f2
       ·exact .inl (h4.trans f2)
       ·rw[h4];exact .inr f2
      ·rcases f2 with f2|f2
       ·rw[←f2];exact .inr h4
       ·exact .inr (h4.trans f2)
     refine j1l hle (by rw[i1,z6]) fun zh=> ?_;refine i2.least v (fun x hx=>hv x (by simp[hx])) ?_;show Yf a a (Y8 (Y1 a a) e.2 v)=true;rw[e2,zh];exact z7
   ·have zi:d+1≤v.length:=by
     by_cases hlt:v.length<d+1
     ·exact absurd ⟨v,rfl,hv,hg⟩ (h.2 _ hlt)
     ·omega
    exact .inr (.inl (by simp[i1];omega))
theorem v0u{a:Aut}(ha:Dfa a){p q:Int}(hp:inS a p)(hq:inS a q):(Dk a a p q).1=(lkN (Yd a) (p,q)).map fun d=>Ue a (Yd a) d (p,q):=by
 have hn:=x04 ha;have z1:inP a (p,q):=⟨hp,hq⟩
 rcases C8 ha ha rfl hp hq with⟨w,h1,h2⟩|⟨h1,h2⟩
 ·obtain⟨d,_,hm⟩:=Ny (a:=a) (s:=(p,q)) w.length ⟨w,rfl,h2.okw,h2.goodw⟩;rw[h1,(hn _ z1 d).2 hm,Option.map_some,h2.unique (Xx ha hn d _ z1 hm).2]
 ·rw[h1];cases hl:lkN (Yd a) (p,q)with
  |none=>rfl
  |some d=>exfalso;obtain⟨w,_,hw,hg⟩:=((hn _ z1 d).1 hl).1;exact(Ze a a p q w).1 hg (h2 w hw)
end Go.Abs
namespace Go.Abs
open Go Go.Proofs
theorem c1z{T:Nat}{p:Prd}(h:PWf T p){s:List Iv}(hs:s∈p):∀x∈s,Ie x:=q0t (h.2 s hs).1 (h.2 s hs).2
attribute [local irreducible] Rn Ef
theorem u0h(p:Prd):PC Tryz.prog 76 [encP p] (fun r=>r= .bool (Wo p)):=by
 refine Ql tOk Tryz.func76 rfl Tryz.results76 rfl (by simp[Tryz.ntmps76]) ?_;rw[Tryz.ntmps76];simp only[Qf];simp only[encP];refine W3 0 0 rfl rfl (fun hlen=> ?_);rw[yP]at hlen;obtain⟨R,hR⟩:∃R,Wo p=R:=⟨_,rfl⟩
 rw[hR];repeat first|(refine r_ ?_;simp)|refine q_ ?_
 refine Qu p.length (fun j=>Wo (p.drop j)=R) (fun j=>[(1,.vptr 0 0),(3,.i j)]) (fun _=>[.vars [.list (p.map encL)]]) rfl (by simp) (by simp) (by simp) (by simp) (by simpa using hR) ?_;intro j hj hI ih;repeat first|(refine r_ ?_;simp)|refine q_ ?_
 refine Qa rfl (fun z7=> ?_) (fun z8=> ?_)
 ·have z1:j<p.length:=by simpa using z7
  have hw:IntKind.i64.wrap ((j:Int)+1)=j+1:=wrap_i64 _ (by omega) (by omega);rw[W7 z1,Wo,List.all_cons]at hI;repeat first|(refine r_ ?_;simp[z1])|refine q_ ?_
  refine Qa rfl (fun h3=> ?_) (fun h3=> ?_)
  ·repeat first|(refine r_ ?_;simp)|refine q_ ?_
   have:p[j].isEmpty=false:=by simp at h3;cases hp:p[j]with|nil=>rw[hp]at h3;simp at h3|cons _ _=>rfl
   rw[this,uq]at hI;exact hI.symm
  ·have:p[j].isEmpty=true:=by simp at h3;simp[h3]
   rw[this,vR]at hI;repeat first|(refine r_ ?_;simp[hw])|refine q_ ?_
   refine Qs _ (ih z1 hI) rfl (by simp) ?_ (by simp) (by simp);simp
 ·have z6:j=p.length:=by simp at z8;omega
  subst z6;repeat first|(refine r_ ?_;simp)|refine q_ ?_
  rw[←hI,wn];rfl
theorem Ge:∀(p:Prd) (i:Nat),(∃s∈p,s≠[])→∃t x r,p[t]? =some (x::r)∧Q1 p i=(i+t,x.lo)∧∀j,j<t→p[j]? =some []
 |[],i,h=>by obtain⟨s,hs,_⟩:=h;cases hs
 |[]::p,i,h=>by
  obtain⟨t,x,r,h1,h2,h3⟩:=Ge p (i+1) (by obtain⟨s,hs,hn⟩:=h;rcases yL.1 hs with rfl|hs;exact absurd rfl hn;exact⟨s,hs,hn⟩);refine⟨t+1,x,r,by simpa using h1,by rw[Q1,h2];congr 1;omega,fun j hj=> ?_⟩;cases j with
  |zero=>rfl
  |succ j=>simpa using h3 j (by omega)
 |(x::r)::p,i,_=>⟨0,x,r,rfl,by simp[Q1],fun j hj=>by omega⟩
theorem w1c(T:Int)(x:Sy):PC Tryz.prog 150 [.i T,encSy x] (fun r=>r= .i (Gi T x)):=by
 refine Ql tOk Tryz.func150 rfl Tryz.results150 rfl (by simp[Tryz.ntmps150]) ?_;rw[Tryz.ntmps150];simp only[Qf];simp only[encSy];repeat first|(refine r_ ?_;simp)|refine q_ ?_
 refine Qa rfl (fun h=> ?_) (fun h=> ?_)
 ·repeat first|(refine r_ ?_;simp)|refine q_ ?_
  rw[Gi,if_pos (by simpa using h)]
 have h1:¬(x.ty<0∨T≤x.ty):=by simpa using h
 repeat first|(refine r_ ?_;simp)|refine q_ ?_
 refine Qa rfl (fun h=> ?_) (fun h=> ?_)
 ·repeat first|(refine r_ ?_;simp)|refine q_ ?_
  rw[Gi,if_neg h1,if_pos (by simpa using h)]
 have h2:¬(x.num< -1099511627776∨1099511627776<x.num):=by simpa using h
 repeat first|(refine r_ ?_;simp)|refine q_ ?_
 rw[Gi,if_neg h1,if_neg h2]
end Go.Abs
namespace Go.Abs
open Go Go.Proofs
attribute [local irreducible] Rn Ef upL E9
theorem c0u{c p:Prd}(h:c.length=p.length):(yW c.length).map (fun i=>Rn (c.getD i []) (p.getD i []))=Wz c p:=by
 refine wN (by simp[Wz,h]) fun i h1 h2=> ?_;have hc:i<c.length:=by simpa using h1
 have hp:i<p.length:=by omega
 simp[Wz,yV,hc,hp]
theorem f0h(T:Nat)(c p:Prd)(hc:PWf T c)(hp:PWf T p)(zf:∀s∈c,∀t∈p,s.length+t.length≤1000000000)(hT:T≤1000):PC Tryz.prog 109 [encP c,encP p] (fun r=>r=encP (Wz c p)):=by
 refine Ql tOk Tryz.func109 rfl Tryz.results109 rfl (by simp[Tryz.ntmps109]) ?_;rw[Tryz.ntmps109];simp only[Qf];simp only[encP];have hlen:c.length=p.length:=by rw[hc.1,hp.1]
 have zm:=hc.1;repeat first|(refine r_ ?_;simp)|refine q_ ?_
 refine Ex 3 0 171 1 rfl rfl ?_;simp;obtain⟨K,hK⟩:∃K,K=[AObj.vars [.list (c.map encL)],AObj.vars [.list (p.map encL)],AObj.vars [AV.nils],AObj.vars [AV.nils]]:=⟨_,rfl⟩
 have zg:=GL.start (K:=K) (S:=3) [] [] 171 1 (by rw[hK];simp);refine Qr (Qd (sl':=[(2,.vptr 0 0),(3,.vptr 1 0),(4,.vptr 2 0),(5,.vptr 3 0),(6,.i 0)]) ?_ (by simp));refine Qq (F:=fun(u:Nat×Nat×List AObj)=>⟨[(2,.vptr 0 0),(3,.vptr 1 0),(4,.vptr 2 0),(5,.vptr 3 0),(6,.i u.1)],u.2.2⟩)
  (fun u=>u.1≤c.length∧GL K u.2.2 3 u.2.1 [] [] 171 1 (upL (fun i=>Rn (c.getD i []) (p.getD i [])) u.1)) (fun u=>c.length - u.1) ?_ (0,K.length,_) ⟨by simp,by rw[Ks,hK]at *;exact zg⟩
 rintro⟨j,q,H2⟩ ⟨hj,g⟩ ih;simp only[List.cons_append,wZ]at hj g ih ⊢;have g0:H2[0]? =some (AObj.vars [.list (c.map encL)]):=g.kp (by decide) (by rw[hK];rfl);have g1:H2[1]? =some (AObj.vars [.list (p.map encL)]):=g.kp (by decide) (by rw[hK];rfl);have gR:H2[2]? =some (AObj.vars [AV.nils]):=g.kp (by decide) (by rw[hK];rfl);have g2:=g.cell;have g3:=g.arr;rw[R9]at g2;simp only[wZ]at g2;repeat first|(refine r_ ?_;simp[g0])|refine q_ ?_
 refine Qa rfl (fun zh=> ?_) (fun zi=> ?_)
 ·have z1:j<c.length:=by simpa using zh
  have hw:IntKind.i64.wrap ((j:Int)+1)=j+1:=wrap_i64 _ (by omega) (by omega);have z7:∀L:List AObj,(H2.set q .dead++L)[3]? =some (AObj.vars [AV.sl q 1 0 j]):=fun L=>by have:=g.at L;rw[R9]at this;exact this
  have zb:∀(L:List AObj) (h:3<(H2.set q .dead++L).length),(H2.set q .dead++L)[3]'h=AObj.vars [AV.sl q 1 0 j]:=fun L h=>by have:=z7 L;rw[zP h]at this;exact Option.some.inj this
  have zc:=fun A y=>g.put A y (R9 _ _).symm;have zj:upL (fun i=>Rn (c.getD i []) (p.getD i [])) j++[encL ((fun i=>Rn (c.getD i []) (p.getD i [])) j)]=upL (fun i=>Rn (c.getD i []) (p.getD i [])) (j+1):=(L3 _ _).symm;have z6:=fun H=>ih (j+1,H2.length+1,H);have z8:=R9 (fun i=>Rn (c.getD i []) (p.getD i [])) j;simp only[←zj]at z6;have za:j<p.length:=by omega
  have hs:=hc.2 _ (zT z1);have zk:=hp.2 _ (zT za);simp only[Wt z1,Wt za]at *
  repeat first|(refine r_ ?_;simp[g0,g1,g2])|refine q_ ?_
  refine Qk tOk mixed [14,16] (.val 0 (.val 1 (.val 2 (.val 3 (.val 4 (.val 5 (.val 6 (.val 7 (.val 8 (.val 9 (.val 10 (.val 11 (.one 12 (.one 13 (.one 14 (.val 15 (.one 16 (.done)))))))))))))))))) rfl (by kernel_rfl) ?_;simp[z1,za,g0,g1,g2];refine Qe rfl rfl (by simp) (u08 c[j] p[j] hs.1 zk.1 (zf _ (zT z1) _ (zT za)) (c1z hc (zT z1))) rfl ?_;rintro _ rfl;simp;repeat first|(refine r_ ?_;simp[g0,g1,g2])|refine q_ ?_
  generalize upL (fun i=>Rn (c.getD i []) (p.getD i [])) j=xs at *
  refine Qh tOk rfl rfl T74 rfl Pe rfl (by decide) (by decide) rfl rfl rfl ?_;simp[Qb g3,Qj g3,z8,z7,zb];refine⟨by simp[Wp,Qb g3,Qj g3,z8,z7,zb]<;>omega,?_⟩;repeat first|(refine r_ ?_;simp[g0,g2,hw,z7,zb])|refine q_ ?_
  refine Qd (sl':=[(2,.vptr 0 0),(3,.vptr 1 0),(4,.vptr 2 0),(5,.vptr 3 0),(6,.i (j+1:Nat))]) (z6 _ ⟨by omega,zc _ _⟩ (by omega)) ?_;simp
 ·have zd:j=c.length:=by(simp at zi;omega)
  subst zd;have hS:=(zE.1 g2).1;have zl:q≠2∧q≠3:=by have:=g.ge;rw[hK]at this;simp at this;omega
  have z8:=R9 (fun i=>Rn (c.getD i []) (p.getD i [])) (c.length);have ze: .list (upL (fun i=>Rn (c.getD i []) (p.getD i [])) (c.length))=AV.list ((Wz c p).map encL):=by rw[By];rw[c0u hlen]
  generalize upL (fun i=>Rn (c.getD i []) (p.getD i [])) (c.length)=xs at *
  refine We q g3 3 g2 ?_;have k1:∀X,((H2.set q .dead).set 3 X)[2]? =some (AObj.vars [AV.nils]):=fun X=>Qc (by decide) (Qc zl.1 gR _) _;have k2:∀X,((H2.set q .dead).set 3 X)[3]? =some X:=fun X=>zU (by simpa using hS);have k3:∀X Y,(((H2.set q .dead).set 3 X).set 2 Y)[2]? =some Y:=fun X Y=>Qg (k1 X) _;simp[z8];rw[zZ (by omega)];repeat first|(refine r_ ?_;simp[k1,k2,k3])|refine q_ ?_
  exact AV.list.inj ze
end Go.Abs
namespace Go.Abs
open Go Go.Proofs
attribute [local irreducible] Pd
theorem z1q(p:Prd)(x:Sy)(hl:∀s∈p,s.length≤1000000000):PC Tryz.prog 127 [encP p,encSy x] (fun r=>r= .bool (Tv p x)):=by
 refine Ql tOk Tryz.func127 rfl Tryz.results127 rfl (by simp[Tryz.ntmps127]) ?_;rw[Tryz.ntmps127];simp only[Qf];simp only[encP,encSy];repeat first|(refine r_ ?_;simp)|refine q_ ?_
 by_cases h0:0≤x.ty
 ·by_cases h1:x.ty<p.length
  ·have h2:x.ty.toNat<p.length:=by omega
   refine Qk tOk mixed [] (.val 0 (.val 1 (.val 2 (.val 3 (.val 4 (.val 5 (.val 6 (.val 7 (.val 8 (.val 9 (.val 10 (.val 11 (.val 12 (.val 13 (.val 14 (.val 15 (.val 16 (.val 17 (.val 18 (.val 19 (.one 20 (.val 21 (.val 22 (.done)))))))))))))))))))))))) rfl (by kernel_rfl) ?_;simp[h0,h1,h2];refine Qe rfl rfl (by simp) (v1i p[x.ty.toNat] x.num (hl _ (zT h2))) rfl ?_;rintro _ rfl;simp;repeat first|(refine r_ ?_;simp[h0,h1,h2])|refine q_ ?_
   simp[Tv,h0,h1,yV,h2]
  ·refine Qk tOk mixed [] (.val 0 (.val 1 (.val 2 (.val 3 (.val 4 (.val 5 (.val 6 (.val 7 (.val 8 (.val 9 (.val 10 (.val 11 (.val 12 (.val 13 (.val 14 (.val 15 (.val 16 (.val 17 (.val 18 (.val 19 (.one 20 (.val 21 (.val 22 (.done)))))))))))))))))))))))) rfl (by kernel_rfl) ?_;simp[h0,h1];refine Q6 rfl rfl ?_;simp[h0,h1];repeat first|(refine r_ ?_;simp[h0,h1])|refine q_ ?_
   simp[Tv,h0,h1]
 ·refine Qk tOk mixed [] (.val 0 (.val 1 (.val 2 (.val 3 (.val 4 (.val 5 (.val 6 (.val 7 (.val 8 (.val 9 (.val 10 (.val 11 (.val 12 (.val 13 (.val 14 (.val 15 (.val 16 (.val 17 (.val 18 (.val 19 (.one 20 (.val 21 (.val 22 (.done)))))))))))))))))))))))) rfl (by kernel_rfl) ?_;simp[h0];refine Q6 rfl rfl ?_;simp[h0];repeat first|(refine r_ ?_;simp[h0])|refine q_ ?_
  simp[Tv,h0]
def Vq(a:Aut)(i k:Nat):Bool:=decide ((a.mv.getD i default).src=(a.mv.getD k default).src) && M4 (a.mv.getD i default).on (a.mv.getD k default).on
theorem Xy{a:Aut}{i k:Nat}(hi:i<a.mv.length)(hk:k<i)(h:Vq a i k=true):Fb a=false:=by unfold Fb;rw[tC];refine⟨i,xH.2 hi,?_⟩;rw[Bool.not_eq_true,tC];exact⟨k,xH.2 hk,by unfold Vq at h;rw[h];simp⟩
theorem M8{a:Aut}(h:∀i,i<a.mv.length→∀k,k<i→Vq a i k=false):Fb a=true:=by unfold Fb;rw[yH];intro i hi;rw[yH];intro k hk;have:=h i (xH.1 hi) k (xH.1 hk);unfold Vq at this;rw[this];rfl
theorem q0k{a:Aut}{i k:Nat}(hi:i<a.mv.length)(hk:k<a.mv.length):Vq a i k=(decide (a.mv[i].src=a.mv[k].src) && M4 a.mv[i].on a.mv[k].on):=by simp[Vq,yV,hi,hk]
theorem Gw{a:Aut}(h:OkA a){m:Mv}(hm:m∈a.mv):∀s∈m.on,s.length≤256:=fun s hs=>((h.mv m hm).on.2 s hs).len
attribute [local irreducible] Vq M4 Wz Wo
theorem w0z(a:Aut)(h:OkA a):PC Tryz.prog 43 [encA a] (fun r=>r= .bool (Fb a)):=by
 refine Ql tOk Tryz.func43 rfl Tryz.results43 rfl (by simp[Tryz.ntmps43]) ?_;rw[Tryz.ntmps43];simp only[Qf];simp only[encA];have zo:=h.mvs;repeat first|(refine r_ ?_;simp)|refine q_ ?_
 refine Qu a.mv.length (fun j=>∀i,i<j→∀k,k<i→Vq a i k=false) (fun j=>[(1,.vptr 0 0),(3,.i j)]) (fun _=>[.vars (Wb a)]) rfl (by simp) (by simp) (by simp) (by simp) (by simp) ?_;intro j hj hI ih;repeat first|(refine r_ ?_;simp)|refine q_ ?_
 refine Qa rfl (fun zm=> ?_) (fun zn=> ?_)
 ·have z1:j<a.mv.length:=by simpa using zm
  have hw:IntKind.i64.wrap ((j:Int)+1)=j+1:=wrap_i64 _ (by omega) (by omega);repeat first|(refine r_ ?_;simp)|refine q_ ?_
  refine Qu j (fun k=>∀k',k'<k→Vq a j k'=false) (fun k=>[(1,.vptr 0 0),(3,.i j),(4,.i k)]) (fun _=>[.vars (Wb a)]) rfl (by simp) (by simp) (by simp) (by simp) (by simp) ?_;intro k hk zg zh;repeat first|(refine r_ ?_;simp)|refine q_ ?_
  refine Qa rfl (fun zb=> ?_) (fun zc=> ?_)
  ·have zd:k<j:=by simpa using zb
   have za:k<a.mv.length:=by omega
   have zi:IntKind.i64.wrap ((k:Int)+1)=k+1:=wrap_i64 _ (by omega) (by omega);have z6:=q0k (a:=a) z1 za;have zj:Vq a j k=false→∀k',k'<k+1→Vq a j k'=false:=fun hb k' ze=>by
    by_cases e:k'=k
    ·rw[e];exact hb
    ·exact zg k' (by omega)
   by_cases he:a.mv[j].src=a.mv[k].src
   ·rw[decide_eq_true he,vR]at z6;repeat first|(refine r_ ?_;simp)|refine q_ ?_
    refine Qk tOk mixed [] (.val 0 (.val 1 (.val 2 (.val 3 (.val 4 (.val 5 (.val 6 (.val 7 (.val 8 (.val 9 (.val 10 (.val 11 (.val 12 (.val 13 (.val 14 (.val 15 (.val 16 (.val 17 (.val 18 (.val 19 (.val 20 (.val 21 (.val 22 (.val 23 (.val 24 (.val 25 (.one 26 (.one 27 (.val 28 (.val 29 (.done))))))))))))))))))))))))))))))) rfl (by kernel_rfl) ?_;simp[z1,za,he];have zk:=zT z1;have zl:=zT za;refine Qe rfl rfl (by simp) (f0h a.types.toNat a.mv[j].on a.mv[k].on (h.mv _ zk).on.wf (h.mv _ zl).on.wf (fun s hs t ht=>by have:=Gw h zk s hs;have:=Gw h zl t ht;omega) (by have:=h.types;omega)) rfl ?_;rintro _ rfl;simp;repeat first|(refine r_ ?_;simp)|refine q_ ?_
    refine Qe rfl rfl (by simp) (u0h (Wz a.mv[j].on a.mv[k].on)) rfl ?_;rintro _ rfl;simp;repeat first|(refine r_ ?_;simp)|refine q_ ?_
    refine Qa rfl (fun h3=> ?_) (fun h3=> ?_)
    ·repeat first|(refine r_ ?_;simp)|refine q_ ?_
     rw[Xy z1 zd (by rw[z6,M4];simpa using h3)]
    ·repeat first|(refine r_ ?_;simp[zi])|refine q_ ?_
     refine Qs _ (zh zd (zj (by rw[z6,M4];simpa using h3))) rfl (by simp) ?_ (by simp) (by simp);simp
   ·rw[decide_eq_false he,uq]at z6;have z7:(a.mv[j].src==a.mv[k].src)=false:=beq_eq_false_iff_ne.2 he;repeat first|(refine r_ ?_;simp)|refine q_ ?_
    refine Qk tOk mixed [] (.val 0 (.val 1 (.val 2 (.val 3 (.val 4 (.val 5 (.val 6 (.val 7 (.val 8 (.val 9 (.val 10 (.val 11 (.val 12 (.val 13 (.val 14 (.val 15 (.val 16 (.val 17 (.val 18 (.val 19 (.val 20 (.val 21 (.val 22 (.val 23 (.val 24 (.val 25 (.one 26 (.one 27 (.val 28 (.val 29 (.done))))))))))))))))))))))))))))))) rfl (by kernel_rfl) ?_;simp[z1,za,z7];refine Q6 rfl rfl ?_;simp[z7];repeat first|(refine r_ ?_;simp[z7])|refine q_ ?_
    refine Q6 rfl rfl ?_;simp[z7];repeat first|(refine r_ ?_;simp[z7])|refine q_ ?_
    refine Qm rfl ?_;repeat first|(refine r_ ?_;simp[zi])|refine q_ ?_
    refine Qs _ (zh zd (zj z6)) rfl (by simp) ?_ (by simp) (by simp);simp
  ·have z8:k=j:=by simp at zc;omega
   subst z8;repeat first|(refine r_ ?_;simp[hw])|refine q_ ?_
   refine Qs _ (ih z1 (fun i hi k' ze=> ?_)) rfl (by simp) ?_ (by simp) (by simp)
   ·by_cases e:i=k
    ·subst e;exact zg k' ze
    ·exact hI i (by omega) k' ze
   ·simp
 ·have zf:j=a.mv.length:=by simp at zn;omega
  subst zf;repeat first|(refine r_ ?_;simp)|refine q_ ?_
  rw[M8 hI]
def d02(a:Aut):Bool×Int:=if Wf a=0 then(Fb a,0)else(false,Wf a)
end Go.Abs
namespace Go.Abs
open Go Go.Proofs
def ovl(x y:Iv):Bool:=decide (x.lo≤y.hi) && decide (y.lo≤x.hi)
def noC(p q:Prd)(i:Nat):Prop:=∀x∈p.getD i [],∀y∈q.getD i [],ovl x y=false
theorem k0x{T:Nat}{p q:Prd}(hp:PWf T p)(hq:PWf T q)(h:∀i,i<p.length→noC p q i):M4 p q=false:=by rw[vK,Ne,Zl hp hq];rintro⟨t,n,⟨s,hs,x,hx,h1,h2⟩,⟨s',z1,y,hy,h3,h4⟩⟩;have ht:=(zE.1 hs).1;have:=h t ht x (by rw[yV,hs];exact hx) y (by rw[yV,z1];exact hy);simp only[ovl,Bool.and_eq_false_iff,decide_eq_false_iff_not]at this;omega
theorem y1t{T:Nat}{p q:Prd}(hp:PWf T p)(hq:PWf T q){i:Nat}(hi:i<p.length)(z1:i<q.length){x y:Iv}(hx:x∈p[i])(hy:y∈q[i])(h:ovl x y=true):M4 p q=true:=by
 rw[Zl hp hq];simp only[ovl,yT,decide_eq_true_eq]at h;have h1:=(hp.2 _ (zT hi)).1.1 x hx;have h2:=(hq.2 _ (zT z1)).1.1 y hy;by_cases hl:x.lo≤y.lo
 ·exact⟨i,y.lo,⟨p[i],zP hi,x,hx,hl,h.2⟩,⟨q[i],zP z1,y,hy,xB _,h2⟩⟩
 ·exact⟨i,x.lo,⟨p[i],zP hi,x,hx,xB _,h1⟩,⟨q[i],zP z1,y,hy,by omega,h.1⟩⟩
attribute [local irreducible] M4
theorem d0k(T:Nat)(p q:Prd)(hp:PWf T p)(hq:PWf T q)(zj:∀s∈p,s.length≤1000000000)(zk:∀s∈q,s.length≤1000000000)(hT:T≤1000):PC Tryz.prog 114 [encP p,encP q] (fun r=>r= .bool (M4 p q)):=by
 refine Ql tOk Tryz.func114 rfl Tryz.results114 rfl (by simp[Tryz.ntmps114]) ?_;rw[Tryz.ntmps114];simp only[Qf];simp only[encP];have hlen:=hp.1;have zg:=hq.1;repeat first|(refine r_ ?_;simp)|refine q_ ?_
 refine Qu p.length (fun i=>∀i',i'<i→noC p q i') (fun i=>[(3,.vptr 1 0),(12,.list (p.map encL)),(13,.i p.length),(14,.i i)]) (fun _=>[.vars [.list (p.map encL)],.vars [.list (q.map encL)]]) rfl (by simp) (by simp) (by simp) (by simp) (by simp) ?_;intro i hi hI ih;repeat first|(refine r_ ?_;simp)|refine q_ ?_
 refine Qa rfl (fun zl=> ?_) (fun zm=> ?_)
 ·have z1:i<p.length:=by simpa using zl
  have z6:i<q.length:=by omega
  have hw:IntKind.i64.wrap ((i:Int)+1)=i+1:=wrap_i64 _ (by omega) (by omega);have zx:=zj _ (zT z1);have zy:=zk _ (zT z6);repeat first|(refine r_ ?_;simp[z1])|refine q_ ?_
  refine Qu p[i].length (fun u=>∀u',u'<u→∀h:u'<p[i].length,∀y∈q[i],ovl p[i][u'] y=false) (fun u=>[(3,.vptr 1 0),(5,.i i),(12,.list (p.map encL)),(13,.i p.length),(14,.i i),(19,LIv p[i]),(20,.i p[i].length),(21,.i u)]) (fun _=>[.vars [.list (p.map encL)],.vars [.list (q.map encL)]]) rfl (by simp) (by simp) (by simp) (by simp) (by simp) ?_;intro u hu zh zn;repeat first|(refine r_ ?_;simp)|refine q_ ?_
  refine Qa rfl (fun z7=> ?_) (fun z8=> ?_)
  ·have za:u<p[i].length:=by simpa using z7
   have zo:IntKind.i64.wrap ((u:Int)+1)=u+1:=wrap_i64 _ (by omega) (by omega);repeat first|(refine r_ ?_;simp[za,z6])|refine q_ ?_
   refine Qu q[i].length (fun v=>∀v',v'<v→∀h:v'<q[i].length,ovl p[i][u] q[i][v']=false) (fun v=>[(3,.vptr 1 0),(5,.i i),(8,.vptr 2 0),(12,.list (p.map encL)),(13,.i p.length),(14,.i i),(19,LIv p[i]),(20,.i p[i].length),(21,.i u),(29,LIv q[i]),(30,.i q[i].length),(31,.i v)]) (fun _=>[.vars [.list (p.map encL)],.vars [.list (q.map encL)],.vars [.i p[i][u].lo,.i p[i][u].hi]]) rfl (by simp) (by simp) (by simp) (by simp) (by simp) ?_;intro v hv zi zp;repeat first|(refine r_ ?_;simp)|refine q_ ?_
   refine Qa rfl (fun zb=> ?_) (fun zc=> ?_)
   ·have zd:v<q[i].length:=by simpa using zb
    have zq:IntKind.i64.wrap ((v:Int)+1)=v+1:=wrap_i64 _ (by omega) (by omega);repeat first|(refine r_ ?_;simp[zd])|refine q_ ?_
    refine Qa rfl (fun h=> ?_) (fun h=> ?_)
    ·repeat first|(refine r_ ?_;simp)|refine q_ ?_
     rw[y1t hp hq z1 z6 (zT za) (zT zd) (by simpa[ovl]using h)]
    ·repeat first|(refine r_ ?_;simp[zq])|refine q_ ?_
     refine Qs _ (zp zd (fun v' ze zr=> ?_)) rfl (by simp) ?_ (by simp) (by simp)
     ·by_cases e:v'=v
      ·subst e;simpa[ovl]using h
      ·exact zi v' (by omega) zr
     ·simp
   ·have zt:v=q[i].length:=by simp at zc;omega
    subst zt;repeat first|(refine r_ ?_;simp[zo])|refine q_ ?_
    refine Qs _ (zn za (fun u' zf zu y hy=> ?_)) rfl (by simp) ?_ (by simp) (by simp)
    ·by_cases e:u'=u
     ·subst e;obtain⟨v',ze,rfl⟩:=xG hy;exact zi v' ze ze
     ·exact zh u' (by omega) zu y hy
    ·simp
  ·have zv:u=p[i].length:=by simp at z8;omega
   subst zv;repeat first|(refine r_ ?_;simp[hw])|refine q_ ?_
   refine Qs _ (ih z1 (fun i' zz=> ?_)) rfl (by simp) ?_ (by simp) (by simp)
   ·by_cases e:i'=i
    ·subst e;intro x hx y hy;rw[Wt z1]at hx;rw[Wt z6]at hy;obtain⟨u',zf,rfl⟩:=xG hx;exact zh u' zf zf y hy
    ·exact hI i' (by omega)
   ·simp
 ·have zw:i=p.length:=by simp at zm;omega
  subst zw;repeat first|(refine r_ ?_;simp)|refine q_ ?_
  rw[k0x hp hq hI]
attribute [local irreducible] Vq
theorem x09(a:Aut):PC Tryz.prog 49 [encA a] (fun r=>r= .tup [.bool (d02 a).1,.i (d02 a).2]):=by
 refine Ql tOk Tryz.func49 rfl Tryz.results49 rfl (by simp[Tryz.ntmps49]) ?_;rw[Tryz.ntmps49];simp only[Qf];simp only[encA];repeat first|(refine r_ ?_;simp)|refine q_ ?_
 refine Qe rfl rfl (by simp) (Yt a) rfl ?_;rintro _ rfl;simp;repeat first|(refine r_ ?_;simp)|refine q_ ?_
 refine Qa rfl (fun h=> ?_) (fun h=> ?_)
 ·repeat first|(refine r_ ?_;simp)|refine q_ ?_
  rw[d02,if_neg (by simpa using h)];exact⟨rfl,rfl⟩
 have h0:Wf a=0:=by simpa using h
 have z8:=(Yy a).1 h0;have zt:=z8.mvs;rw[d02,if_pos h0];repeat first|(refine r_ ?_;simp)|refine q_ ?_
 refine Qu a.mv.length (fun j=>∀i,i<j→∀k,k<i→Vq a i k=false) (fun j=>[(1,.vptr 0 0),(15,.list (a.mv.map encMv)),(16,.i a.mv.length),(17,.i j)]) (fun _=>[.vars (Wb a)]) rfl (by simp) (by simp) (by simp) (by simp) (by simp) ?_;intro j hj hI ih;repeat first|(refine r_ ?_;simp)|refine q_ ?_
 refine Qa rfl (fun zq=> ?_) (fun zr=> ?_)
 ·have z1:j<a.mv.length:=by simpa using zq
  have hw:IntKind.i64.wrap ((j:Int)+1)=j+1:=wrap_i64 _ (by omega) (by omega);have ze:j≤a.mv.length:=hj;have z7:min j a.mv.length=j:=by omega
  repeat first|(refine r_ ?_;simp[z1,ze,z7])|refine q_ ?_
  refine Qu j (fun k=>∀k',k'<k→Vq a j k'=false) (fun k=>[(1,.vptr 0 0),(6,.vptr 1 0),(15,.list (a.mv.map encMv)),(16,.i a.mv.length),(17,.i j),(25,.list (uS j (a.mv.map encMv))),(26,.i j),(27,.i k)]) (fun _=>[.vars (Wb a),.vars [.i a.mv[j].src,.i a.mv[j].dst,.list (a.mv[j].on.map encL)]]) rfl (by simp) (by simp) (by simp) (by simp) (by simp) ?_;intro k hk zj zk;repeat first|(refine r_ ?_;simp)|refine q_ ?_
  refine Qa rfl (fun zf=> ?_) (fun zg=> ?_)
  ·have za:k<j:=by simpa using zf
   have zb:k<a.mv.length:=by omega
   have zl:IntKind.i64.wrap ((k:Int)+1)=k+1:=wrap_i64 _ (by omega) (by omega);have z6:=q0k (a:=a) z1 zb;have zm:Vq a j k=false→∀k',k'<k+1→Vq a j k'=false:=fun hb k' zh=>by
    by_cases e:k'=k
    ·rw[e];exact hb
    ·exact zj k' (by omega)
   have zn:(uS j (a.mv.map encMv))[k]? =some (encMv a.mv[k]):=by rw[List.getElem?_take_of_lt za];simp[zb]
   by_cases he:a.mv[j].src=a.mv[k].src
   ·rw[decide_eq_true he,vR]at z6;have zc:(a.mv[j].src==a.mv[k].src)=true:=by simpa using he
    repeat first|(refine r_ ?_;simp[zn,za,zb,z7,zc])|refine q_ ?_
    have zo:=zT z1;have zp:=zT zb;refine Qe rfl rfl (by simp) (d0k a.types.toNat a.mv[j].on a.mv[k].on (z8.mv _ zo).on.wf (z8.mv _ zp).on.wf (fun s hs=>by have:=Gw z8 zo s hs;omega) (fun s hs=>by have:=Gw z8 zp s hs;omega) (by have:=z8.types;omega)) rfl ?_;rintro _ rfl;simp;repeat first|(refine r_ ?_;simp)|refine q_ ?_
    refine Qa rfl (fun h3=> ?_) (fun h3=> ?_)
    ·repeat first|(refine r_ ?_;simp)|refine q_ ?_
     rw[Xy z1 za (by rw[z6];simpa using h3)]
    ·repeat first|(refine r_ ?_;simp[zl])|refine q_ ?_
     refine Qs _ (zk za (zm (by rw[z6];simpa using h3))) rfl (by simp) ?_ (by simp) (by simp);simp
   ·rw[decide_eq_false he,uq]at z6;have zc:(a.mv[j].src==a.mv[k].src)=false:=beq_eq_false_iff_ne.2 he;repeat first|(refine r_ ?_;simp[zn,za,zb,z7,zc])|refine q_ ?_
    refine Q6 rfl rfl ?_;simp[zc];repeat first|(refine r_ ?_;simp[zc])|refine q_ ?_
    refine Qm rfl ?_;repeat first|(refine r_ ?_;simp[zl])|refine q_ ?_
    refine Qs _ (zk za (zm z6)) rfl (by simp) ?_ (by simp) (by simp);simp
  ·have zd:k=j:=by simp at zg;omega
   subst zd;repeat first|(refine r_ ?_;simp[hw])|refine q_ ?_
   refine Qs _ (ih z1 (fun i hi k' zh=> ?_)) rfl (by simp) ?_ (by simp) (by simp)
   ·by_cases e:i=k
    ·subst e;exact zj k' zh
    ·exact hI i (by omega) k' zh
   ·simp
 ·have zi:j=a.mv.length:=by simp at zr;omega
  subst zi;repeat first|(refine r_ ?_;simp)|refine q_ ?_
  rw[M8 hI]
end Go.Abs
namespace Go.Abs
open Go Go.Proofs
abbrev LI (l:List Int):AV:= .list (l.map (AV.int .i64))
def Zb{α:Type}(f:α→Bool)(l:List α):Int:=match l.findIdx? f with|some i=>i|none=> -1
theorem Ll{α:Type}{f:α→Bool}{l:List α}{j:Nat}(hj:j<l.length)(h:f l[j]=true)(hb:∀i,∀hi:i<l.length,i<j→f l[i]=false):Zb f l=j:=by unfold Zb;rw[xO.2 ⟨hj,h,fun i hi=>by rw[hb i (by omega) hi];simp⟩]
theorem D2{α:Type}{f:α→Bool}{l:List α}(hb:∀i,∀hi:i<l.length,i<l.length→f l[i]=false):Zb f l= -1:=by unfold Zb;rw[vE.2 (fun x hx=>by obtain⟨i,hi,rfl⟩:=xG hx;exact hb i hi hi)]
theorem f07{α:Type}(f:α→Bool)(l:List α):decide (0≤Zb f l)=l.any f:=by
 unfold Zb;cases h:l.findIdx? f with
 |none=>
  rw[vE]at h;have:l.any f=false:=by rw[List.any_eq_false];intro x hx;rw[h x hx];simp
  rw[this];rfl
 |some i=>obtain⟨h1,h2,_⟩:=xO.1 h;have:l.any f=true:=wO.2 ⟨_,zT h1,h2⟩;rw[this];simp
theorem w0c(l:List Int)(v:Int):PC Tryz.prog 137 [LI l,.i v] (fun r=>r= .i (Zb (fun y=>v==y) l)):=by
 refine Ql tOk Tryz.func137 rfl Tryz.results137 rfl (by simp[Tryz.ntmps137]) ?_;rw[Tryz.ntmps137];simp only[Qf];refine Ub 0 rfl (fun hlen=> ?_);rw[yP]at hlen;repeat first|(refine r_ ?_;simp)|refine q_ ?_
 refine Qu l.length (fun j=>∀i,∀hi:i<l.length,i<j→(v==l[i])=false) (fun j=>[(0,LI l),(1,.i v),(7,.i l.length),(8,.i j)]) (fun _=>[]) rfl (by simp) (by simp) (by simp) (by simp) (by simp) ?_;intro j hj hI ih;repeat first|(refine r_ ?_;simp)|refine q_ ?_
 refine Qa rfl (fun z7=> ?_) (fun z8=> ?_)
 ·have z1:j<l.length:=by simpa using z7
  have hw:IntKind.i64.wrap ((j:Int)+1)=j+1:=wrap_i64 _ (by omega) (by omega);repeat first|(refine r_ ?_;simp[z1])|refine q_ ?_
  refine Qa rfl (fun h=> ?_) (fun h=> ?_)
  ·repeat first|(refine r_ ?_;simp)|refine q_ ?_
   rw[Ll (f:=fun y=>v==y) z1 h hI]
  ·repeat first|(refine r_ ?_;simp[hw])|refine q_ ?_
   refine Qs _ (ih z1 (fun i hi za=> ?_)) rfl (by simp) ?_ (by simp) (by simp)
   ·by_cases e:i=j
    ·subst e;exact h
    ·exact hI i hi (by omega)
   ·simp
 ·have z6:j=l.length:=by simp at z8;omega
  subst z6;repeat first|(refine r_ ?_;simp)|refine q_ ?_
  rw[D2 (f:=fun y=>v==y) hI]
theorem Su(l:List Int)(v:Int):PC Tryz.prog 174 [LI l,.i v] (fun r=>r= .bool (l.contains v)):=by
 refine Ql tOk Tryz.func174 rfl Tryz.results174 rfl (by simp[Tryz.ntmps174]) ?_;rw[Tryz.ntmps174];simp only[Qf];repeat first|(refine r_ ?_;simp)|refine q_ ?_
 refine Qe rfl rfl (by simp) (w0c l v) rfl ?_;rintro _ rfl;simp;repeat first|(refine r_ ?_;simp)|refine q_ ?_
 have:=f07 (fun y=>v==y) l;rw[x_]at this;simpa using this
structure SL (K G:List AObj) (p e sz:Nat) (xs:List AV):Prop where
 arr:G[p]? =some (.arr e sz xs)
 ge:K.length≤p
 keep:∀j,j<K.length→G[j]? =K[j]?
theorem SL.kp{K G:List AObj}{p e sz:Nat}{xs:List AV}(h:SL K G p e sz xs){j:Nat}{x:AObj}(hx:K[j]? =some x):G[j]? =some x:=by rw[h.keep j (zE.1 hx).1];exact hx
theorem SL.start(K:List AObj)(e sz:Nat):SL K (K++[AObj.arr e sz []]) K.length e sz []:=
 ⟨by simp,zV _,fun j hj=>zI hj⟩
theorem SL.add{K G:List AObj}{p e sz:Nat}{xs:List AV}(h:SL K G p e sz xs)(L:List AObj):SL K (G++L) p e sz xs:=
 ⟨by rw[zI (zE.1 h.arr).1];exact h.arr,h.ge,fun j hj=>by
  rw[zI (by have:=(zE.1 h.arr).1;have:=h.ge;omega)];exact h.keep j hj⟩
theorem SL.put{K G:List AObj}{p e sz:Nat}{xs:List AV}(h:SL K G p e sz xs)(L:List AObj)(ys:List AV){n:Nat}(hn:n=G.length+L.length):SL K (G.set p .dead++(L++[AObj.arr e sz ys])) n e sz ys:=by have hp:=(zE.1 h.arr).1;have z1:=h.ge;subst hn;refine⟨by rw[zO (by simp),zO (by simp)];simp,by omega,fun j hj=> ?_⟩;rw[zI (by simp;omega),zH (by omega)];exact h.keep j hj
theorem SL.at'{K G:List AObj}{p e sz:Nat}{xs:List AV}(h:SL K G p e sz xs){j:Nat}{x:AObj}(hx:K[j]? =some x)(L:List AObj):(G++L)[j]? =some x:=(h.add L).kp hx
def c09(l:List Int)(x:Sy)(m:Mv):Bool:=l.contains m.src && Tv m.on x
def Zt(l:List Int)(x:Sy)(ms:List Mv):List Int:=(ms.filter (c09 l x)).map (·.dst)
theorem v0f(l:List Int)(x:Sy)(ms:List Mv)(j:Nat)(h:j<ms.length):Zt l x (ms.take (j+1))=Zt l x (ms.take j)++(if c09 l x ms[j]then [ms[j].dst]else []):=by unfold Zt;rw[z_ h,List.filter_append,xF];cases h:c09 l x ms[j]<;>simp[h]
theorem Mz(l:List Int)(x:Sy)(ms:List Mv):(Zt l x ms).length≤ms.length:=by unfold Zt;rw[yP];exact List.length_filter_le _ _
theorem c0h(a:Aut)(l:List Int)(x:Sy):Lib.compact (R0 (Zt l x a.mv))=j1j a l x:=rfl
theorem q1j(l:List Int)(x:Sy):Zt l x []=[]:=rfl
attribute [local irreducible] Zt x0d R0 Lib.compact
theorem Cu(a:Aut)(ha:OkA a)(l:List Int)(x:Sy)(hx:Eo a x):PC Tryz.prog 122 [encA a,LI l,encSy x] (fun r=>r=LI (Wa a l x)):=by
 refine Ql tOk Tryz.func122 rfl Tryz.results122 rfl (by simp[Tryz.ntmps122]) ?_;rw[Tryz.ntmps122];simp only[Qf];simp only[encA,encSy];have zi:=ha.mvs;have hF:∀m∈a.mv,x0d m.on x=(Tv m.on x,0):=fun m hm=>by rw[k1j ((W6 a.types m.on).2 ⟨ha.types,(ha.mv m hm).on⟩),if_neg (fun k=>k ((K5 _ _).2 hx))]
 repeat first|(refine r_ ?_;simp)|refine q_ ?_
 refine Wg 7 3 1 rfl ?_;simp;refine Qr (Qd (sl':=[(1,LI l),(3,.vptr 0 0),(5,.vptr 1 0),(7,.sl 2 1 0 (Zt l x (a.mv.take 0)).length),(11,.list (a.mv.map encMv)),(12,.i a.mv.length),(13,.i 0)]) ?_ (by simp[Zt]));obtain⟨K,hK⟩:∃K,K=[AObj.vars (Wb a),AObj.vars [AV.i x.ty,AV.i x.num]]:=⟨_,rfl⟩
 have z8:K[1]? =some (AObj.vars [AV.i x.ty,AV.i x.num]):=by rw[hK];rfl
 have za:=SL.start K 3 1;refine Qq (F:=fun(u:Nat×Nat×List AObj)=>⟨[(1,LI l),(3,.vptr 0 0),(5,.vptr 1 0),(7,.sl u.2.1 1 0 (Zt l x (a.mv.take u.1)).length),(11,.list (a.mv.map encMv)),(12,.i a.mv.length),(13,.i u.1)],u.2.2⟩)
  (fun u=>u.1≤a.mv.length∧SL K u.2.2 u.2.1 3 1 ((Zt l x (a.mv.take u.1)).map (AV.int .i64))) (fun u=>a.mv.length - u.1) ?_ (0,2,_) ⟨by simp,by rw[wA,q1j];rw[hK]at za ⊢;exact za⟩
 rintro⟨j,q,H2⟩ ⟨hj,g⟩ ih;simp only at hj g ih ⊢;have g1:=g.kp z8;repeat first|(refine r_ ?_;simp)|refine q_ ?_
 refine Qa rfl (fun zc=> ?_) (fun zd=> ?_)
 ·have z1:j<a.mv.length:=by simpa using zc
  have hw:IntKind.i64.wrap ((j:Int)+1)=j+1:=wrap_i64 _ (by omega) (by omega);have ze:=v0f l x a.mv j z1;have zb:=Mz l x (a.mv.take j);rw[List.length_take]at zb;have zf:=hF _ (zT z1);have z6:=fun q' H'=>ih (j+1,q',H');simp only[ze]at z6;generalize Zt l x (a.mv.take j)=acc at *
  have gL:=fun L=>g.at' z8 L;repeat first|(refine r_ ?_;simp[z1])|refine q_ ?_
  by_cases hb:a.mv[j].src∈l
  ·have zg:l.contains a.mv[j].src=true:=by simpa using hb
   refine Qe rfl rfl (by simp) (Su l a.mv[j].src) rfl ?_;rintro _ rfl;simp[hb,gL];repeat first|(refine r_ ?_;simp[gL])|refine q_ ?_
   refine Qe rfl rfl (by simp) (v1w a.mv[j].on x) rfl ?_;rintro _ rfl;simp[zf];repeat first|(refine r_ ?_;simp)|refine q_ ?_
   cases hb2:Tv a.mv[j].on x with
   |false=>
    have hh:c09 l x a.mv[j]=false:=by rw[c09,hb2];simp
    refine Qm rfl ?_;simp[hb2];repeat first|(refine r_ ?_;simp[hw])|refine q_ ?_
    refine Qd (sl':=[(1,LI l),(3,.vptr 0 0),(5,.vptr 1 0),(7,.sl q 1 0 acc.length),(11,.list (a.mv.map encMv)),(12,.i a.mv.length),(13,.i (j+1:Nat))]) ?_ (by simp);have:=z6 q _ ⟨by omega,by rw[hh];simpa using g.add [AObj.vars [AV.i a.mv[j].src,AV.i a.mv[j].dst,AV.list (a.mv[j].on.map encL)]]⟩ (by omega);rw[hh]at this;simpa using this
   |true=>
    have hh:c09 l x a.mv[j]=true:=by rw[c09,zg,hb2];rfl
    refine Qm rfl ?_;simp[hb2];repeat first|(refine r_ ?_;simp)|refine q_ ?_
    refine Qh tOk rfl rfl T40 rfl T3 rfl (by decide) (by decide) rfl rfl rfl ?_;simp[Qb g.arr,Qj g.arr];refine⟨by simp[Wp,Qb g.arr,Qj g.arr]<;>omega,?_⟩;repeat first|(refine r_ ?_;simp[hw])|refine q_ ?_
    refine Qd (sl':=[(1,LI l),(3,.vptr 0 0),(5,.vptr 1 0),(7,.sl (H2.length+2) 1 0 (acc.length+1)),(11,.list (a.mv.map encMv)),(12,.i a.mv.length),(13,.i (j+1:Nat))]) ?_ (by simp);have:=z6 (H2.length+2) _ ⟨by omega,by rw[hh];exact g.put [AObj.vars [AV.i a.mv[j].src,AV.i a.mv[j].dst,AV.list (a.mv[j].on.map encL)],AObj.arr 3 1 [AV.i a.mv[j].dst]] _ rfl⟩ (by omega);rw[hh]at this;simpa using this
  ·have hh:c09 l x a.mv[j]=false:=by simp[c09,hb]
   refine Qe rfl rfl (by simp) (Su l a.mv[j].src) rfl ?_;rintro _ rfl;simp[hb,gL];refine Q6 rfl rfl ?_;simp[hb];refine Qm rfl ?_;repeat first|(refine r_ ?_;simp[hw])|refine q_ ?_
   refine Qd (sl':=[(1,LI l),(3,.vptr 0 0),(5,.vptr 1 0),(7,.sl q 1 0 acc.length),(11,.list (a.mv.map encMv)),(12,.i a.mv.length),(13,.i (j+1:Nat))]) ?_ (by simp);have:=z6 q _ ⟨by omega,by rw[hh];simpa using g.add [AObj.vars [AV.i a.mv[j].src,AV.i a.mv[j].dst,AV.list (a.mv[j].on.map encL)]]⟩ (by omega);rw[hh]at this;simpa using this
 ·have z7:j=a.mv.length:=by simp at zd;omega
  subst z7;rw[xD]at g ⊢;have zb:=Mz l x a.mv;repeat first|(refine r_ ?_;simp)|refine q_ ?_
  refine Q4 rfl rfl (Jl H2 q (Zt l x a.mv) g.arr (by omega)) rfl ?_;rintro r H' ⟨rfl,rfl⟩;simp;repeat first|(refine r_ ?_;simp)|refine q_ ?_
  have g2:=Qg g.arr (.arr 3 1 ((R0 (Zt l x a.mv)).map (AV.int .i64)));have zh:=Ac (Zt l x a.mv);rw[←zh];refine Q4 rfl rfl (Al _ q (R0 (Zt l x a.mv)) g2 (by omega) (Pr _)) rfl ?_;rintro r H' ⟨rfl,G,rfl⟩;simp;have g3:=Qg g.arr (.arr 3 1 ((Lib.compact (R0 (Zt l x a.mv))++G).map (AV.int .i64)));rw[c0h,u13 (fun m hm=>(ha.mv m hm).dst)]at *
  repeat first|(refine r_ ?_;simp)|refine q_ ?_
  rw[xF]at g3;simp[g3]
end Go.Abs
namespace Go.Abs
open Go Go.Proofs
theorem g0w(H:List AObj)(l:List Int)(g:Nat)(cap:AV)(f:Int→Bool)(hl:l.length≤1000000000)(hg:∀z∈l,FC Tryz.prog g [.i z,cap] H (fun r H'=>r= .bool (f z)∧H'=H)):
  FC Tryz.prog 119 [LI l,.fn (.func g) [] [cap]] H (fun r H'=>r= .i (Zb f l)∧H'=H):=by
 refine W5 tOk Tryz.func119 rfl Tryz.results119 rfl (by simp[Tryz.ntmps119]) ?_;rw[Tryz.ntmps119];simp only[Qf];repeat first|(refine r_ ?_;simp)|refine q_ ?_
 refine Qr (Qd (sl':=[(0,LI l),(1,.fn (.func g) [] [cap]),(7,.i l.length),(8,.i 0)]) ?_ (by simp));refine Qq (F:=fun(j:Nat)=>⟨[(0,LI l),(1,.fn (.func g) [] [cap]),(7,.i l.length),(8,.i j)],H⟩)
  (fun j=>j≤l.length∧∀i,∀hi:i<l.length,i<j→f l[i]=false) (fun j=>l.length - j) ?_ 0 ⟨by simp,by simp⟩
 rintro j ⟨hj,hI⟩ ih;repeat first|(refine r_ ?_;simp)|refine q_ ?_
 refine Qa rfl (fun z7=> ?_) (fun z8=> ?_)
 ·have z1:j<l.length:=by simpa using z7
  have hw:IntKind.i64.wrap ((j:Int)+1)=j+1:=wrap_i64 _ (by omega) (by omega);repeat first|(refine r_ ?_;simp[z1])|refine q_ ?_
  refine Q4 rfl rfl (hg _ (zT z1)) rfl ?_;rintro r H' ⟨rfl,rfl⟩;simp;repeat first|(refine r_ ?_;simp)|refine q_ ?_
  refine Qa rfl (fun h=> ?_) (fun h=> ?_)
  ·repeat first|(refine r_ ?_;simp)|refine q_ ?_
   rw[Ll z1 h hI]
  ·repeat first|(refine r_ ?_;simp[hw])|refine q_ ?_
   refine Qd (sl':=[(0,LI l),(1,.fn (.func g) [] [cap]),(7,.i l.length),(8,.i (j+1:Nat))]) (ih (j+1) ⟨by omega,fun i hi za=> ?_⟩ (by omega)) (by simp);by_cases e:i=j
   ·subst e;exact h
   ·exact hI i hi (by omega)
 ·have z6:j=l.length:=by simp at z8;omega
  subst z6;repeat first|(refine r_ ?_;simp)|refine q_ ?_
  rw[D2 hI]
theorem Vg(H:List AObj)(l:List Int)(g:Nat)(cap:AV)(f:Int→Bool)(hl:l.length≤1000000000)(hg:∀z∈l,FC Tryz.prog g [.i z,cap] H (fun r H'=>r= .bool (f z)∧H'=H)):
  FC Tryz.prog 54 [LI l,.fn (.func g) [] [cap]] H (fun r H'=>r= .bool (l.any f)∧H'=H):=by
 refine W5 tOk Tryz.func54 rfl Tryz.results54 rfl (by simp[Tryz.ntmps54]) ?_;rw[Tryz.ntmps54];simp only[Qf];repeat first|(refine r_ ?_;simp)|refine q_ ?_
 refine Q4 rfl rfl (g0w H l g cap f hl hg) rfl ?_;rintro r H' ⟨rfl,rfl⟩;simp;repeat first|(refine r_ ?_;simp)|refine q_ ?_
 rw[←f07]
def y2d(a:Aut)(s:Int):Bool:=decide (s<0) || decide ((a.fin.length:Int)≤s)
attribute [local irreducible] y2d
end Go.Abs
namespace Go.Abs
open Go Go.Proofs
attribute [simp] T4
def Ua(n:Nat)(f:Int→Bool):List AV:=(E3 n).map fun z=>AV.bool (f z)
theorem R5(n:Nat)(f:Int→Bool):(Ua n f).length=n:=by simp[Ua,E3]
theorem Lw(n:Nat)(f:Int→Bool){i:Nat}(h:i<n):(Ua n f)[i]? =some (AV.bool (f i)):=by simp[Ua,E3,h]
theorem Dz(n:Nat)(f:Int→Bool){i:Nat}(h:i<(Ua n f).length):(Ua n f)[i]=AV.bool (f i):=by have h2:=Lw n f (i:=i) (by rw[R5]at h;exact h);rw[zP h]at h2;exact Option.some.inj h2
theorem q0s(n:Nat):yB n (AV.bool false)=Ua n (fun _=>false):=by
 refine xX fun i=> ?_;by_cases h:i<n
 ·rw[Lw n _ h];simp[h]
 ·rw[xA (by simp;omega),xA (by rw[R5];omega)]
theorem v0g(n:Nat)(f:Int→Bool)(s:Int)(h0:0≤s)(h1:s<n):(Ua n f).set s.toNat (AV.bool true)=Ua n (fun z=>f z || z==s):=by
 refine xX fun i=> ?_;by_cases h:i<n
 ·rw[Lw n _ h];by_cases e:s.toNat=i
  ·rw[e,zU (by rw[R5];exact h)];have:((i:Int)==s)=true:=by simp;omega
   rw[this,Bool.or_true]
  ·rw[zH e,Lw n _ h];have:((i:Int)==s)=false:=beq_eq_false_iff_ne.2 (by omega);rw[this,Bool.or_false]
 ·rw[xA (by simp[R5];omega),xA (by rw[R5];omega)]
theorem P6(n:Nat){f g:Int→Bool}(h:∀z,f z=g z):Ua n f=Ua n g:=by rw[show f=g from funext h]
attribute [local irreducible] Ua
def z1y(n:Nat)(f:Int→Bool):List Int:=(E3 n).filter f
attribute [local irreducible] z1y
end Go.Abs
namespace Go.Abs
open Go Go.Proofs
def nxB(ms:List Mv)(f:Int→Bool)(x:Sy)(z:Int):Bool:=ms.any fun m=>f m.src && Tv m.on x && m.dst==z
theorem w0h(ms:List Mv)(f:Int→Bool)(x:Sy)(j:Nat)(h:j<ms.length)(z:Int):nxB (ms.take (j+1)) f x z=(nxB (ms.take j) f x z || (f ms[j].src && Tv ms[j].on x && ms[j].dst==z)):=by unfold nxB;rw[z_ h,List.any_append];simp
theorem y1w(a:Aut)(l:List Int)(x:Sy):nxB a.mv (fun z=>decide (z∈l)) x=y1g a l x:=by
 funext z;unfold nxB y1g
 congr 1
 funext m;rw[x_];simp
attribute [local irreducible] Tv nxB
theorem z0p(a:Aut)(ha:OkA a)(f:Int→Bool)(x:Sy):PC Tryz.prog 65 [encA a,.list (Ua a.fin.length f),encSy x] (fun r=>r= .list (Ua a.fin.length (nxB a.mv f x))):=by
 refine Ql tOk Tryz.func65 rfl Tryz.results65 rfl (by simp[Tryz.ntmps65]) ?_;rw[Tryz.ntmps65];simp only[Qf];simp only[encA,encSy];have hf:=ha.fin;have hm:=ha.mvs;have zb:=R5 a.fin.length f;repeat first|(refine r_ ?_;simp[zb])|refine q_ ?_
 refine Wn tOk rfl rfl rfl T22 rfl T4 rfl rfl rfl (n:=a.fin.length) (by simp;omega) (by unfold maxLen;omega) (.bool false) rfl ?_;simp;rw[q0s];repeat first|(refine r_ ?_;simp)|refine q_ ?_
 have h0:Ua a.fin.length (fun _=>false)=Ua a.fin.length (nxB (a.mv.take 0) f x):=P6 _ fun z=>by rw[wA];unfold nxB;rfl
 rw[h0];refine Qr (Qd (sl':=[(1,.list (Ua a.fin.length f)),(3,.vptr 0 0),(5,.vptr 1 0),(7,.sl 2 1 0 a.fin.length),(8,.i 0)]) ?_ (by simp));refine Qq (F:=fun(u:Nat×List AObj)=>⟨[(1,.list (Ua a.fin.length f)),(3,.vptr 0 0),(5,.vptr 1 0),(7,.sl 2 1 0 a.fin.length),(8,.i u.1)],u.2⟩)
  (fun u=>u.1≤a.mv.length∧u.2[0]? =some (.vars (Wb a))∧u.2[1]? =some (.vars [.i x.ty,.i x.num])∧u.2[2]? =some (.arr 4 1 (Ua a.fin.length (nxB (a.mv.take u.1) f x)))) (fun u=>a.mv.length - u.1) ?_ (0,_) ⟨by simp,rfl,rfl,rfl⟩
 rintro⟨j,H2⟩ ⟨hj,g0,g1,g2⟩ ih;simp only at hj g0 g1 g2 ih ⊢;repeat first|(refine r_ ?_;simp[g0])|refine q_ ?_
 refine Qa rfl (fun zg=> ?_) (fun zh=> ?_)
 ·have z1:j<a.mv.length:=by simpa using zg
  have hw:IntKind.i64.wrap ((j:Int)+1)=j+1:=wrap_i64 _ (by omega) (by omega);have zf:=ha.mv _ (zT z1);obtain⟨s0,s1⟩:=zf.src;obtain⟨d0,d1⟩:=zf.dst;have s2:a.mv[j].src.toNat<a.fin.length:=by omega
  have d2:a.mv[j].dst.toNat<a.fin.length:=by omega
  have zc:=v0g a.fin.length (nxB (a.mv.take j) f x) a.mv[j].dst d0 d1;have zd:((a.mv[j].src.toNat:Nat):Int)=a.mv[j].src:=by omega
  have z8:=fun(hh:a.mv[j].src.toNat<(Ua a.fin.length f).length)=>(Dz a.fin.length f (i:=a.mv[j].src.toNat) hh).trans (by rw[zd]);have zi:=fun(hh:a.mv[j].dst.toNat<(Ua a.fin.length (nxB (a.mv.take j) f x)).length)=>Dz a.fin.length (nxB (a.mv.take j) f x) (i:=a.mv[j].dst.toNat) hh;have zj:Ua a.fin.length (nxB (a.mv.take (j+1)) f x)=if f a.mv[j].src && Tv a.mv[j].on x then(Ua a.fin.length (nxB (a.mv.take j) f x)).set a.mv[j].dst.toNat (AV.bool true)else Ua a.fin.length (nxB (a.mv.take j) f x):=by
   split
   ·rename_i hc;rw[zc];exact P6 _ fun z=>by rw[w0h _ _ _ _ z1,hc,vR];rw[show(a.mv[j].dst==z)=(z==a.mv[j].dst) from x_.2 (by simp only[beq_iff_eq];exact eq_comm)]
   ·rename_i hc;exact P6 _ fun z=>by rw[w0h _ _ _ _ z1,show(f a.mv[j].src && Tv a.mv[j].on x)=false by simpa using hc];simp
  have z6:=fun G'=>ih (j+1,G');simp only[zj]at z6;have z7:=R5 a.fin.length (nxB (a.mv.take j) f x);generalize Ua a.fin.length (nxB (a.mv.take j) f x)=bs at *
  have gL1:=fun L=>Qb g1 L;have gL2:=fun L=>Qb g2 L;have gL0:=fun L=>Qb g0 L;cases hb:f a.mv[j].src with
  |false=>
   rw[hb]at z8;repeat first|(refine r_ ?_;simp[g0,z1,s0,s1,s2,zb,z8,gL1])|refine q_ ?_
   refine Q6 rfl rfl ?_;simp;refine Qm rfl ?_;repeat first|(refine r_ ?_;simp[hw])|refine q_ ?_
   rw[hb,uq,if_neg (by simp)]at z6;exact Qd (sl':=[(1,.list (Ua a.fin.length f)),(3,.vptr 0 0),(5,.vptr 1 0),(7,.sl 2 1 0 a.fin.length),(8,.i (j+1:Nat))]) (z6 _ ⟨by omega,gL0 _,gL1 _,gL2 _⟩ (by omega)) (by simp)
  |true=>
   rw[hb]at z8;repeat first|(refine r_ ?_;simp[g0,z1,s0,s1,s2,zb,z8,gL1])|refine q_ ?_
   refine Qe rfl rfl (by simp) (z1q a.mv[j].on x (fun s hs=>by have:=Gw ha (zT z1) s hs;omega)) rfl ?_;rintro _ rfl;simp;cases za:Tv a.mv[j].on x with
   |false=>
    rw[hb,za,vR,if_neg (by simp)]at z6;repeat first|(refine r_ ?_;simp[za])|refine q_ ?_
    refine Qm rfl ?_;repeat first|(refine r_ ?_;simp[hw])|refine q_ ?_
    exact Qd (sl':=[(1,.list (Ua a.fin.length f)),(3,.vptr 0 0),(5,.vptr 1 0),(7,.sl 2 1 0 a.fin.length),(8,.i (j+1:Nat))]) (z6 _ ⟨by omega,gL0 _,gL1 _,gL2 _⟩ (by omega)) (by simp)
   |true=>
    rw[hb,za,vR,if_pos rfl]at z6;repeat first|(refine r_ ?_;simp[za])|refine q_ ?_
    refine Qm rfl ?_;repeat first|(refine r_ ?_;simp[gL1,gL2,d0,d1,d2,z7,zi,hw])|refine q_ ?_
    exact Qd (sl':=[(1,.list (Ua a.fin.length f)),(3,.vptr 0 0),(5,.vptr 1 0),(7,.sl 2 1 0 a.fin.length),(8,.i (j+1:Nat))]) (z6 _ ⟨by omega,Qc (by decide) (gL0 _) _,Qc (by decide) (gL1 _) _,Qg (gL2 _) _⟩ (by omega)) (by simp)
 ·have ze:j=a.mv.length:=by simp at zh;omega
  subst ze;rw[xD]at g2;have z7:=R5 a.fin.length (nxB a.mv f x);repeat first|(refine r_ ?_;simp[g2,z7])|refine q_ ?_
  rw[zZ (by omega)]
end Go.Abs
namespace Go.Abs
open Go Go.Proofs
attribute [local irreducible] nxB z1y Gi
attribute [local irreducible] E2
end Go.Abs
namespace Go.Abs
open Go Go.Proofs
theorem v0y{α:Type}{a b:List α}(h:a.length=b.length)(hi:∀i,∀h1:i<a.length,∀h2:i<b.length,a[i]=b[i]):a=b:=wN h hi
abbrev LLI (l:List (List Int)):AV:= .list (l.map fun x=>LI x)
end Go.Abs
namespace Go.Abs
open Go Go.Proofs
end Go.Abs
namespace Go.Abs
open Go Go.Proofs
def w2u(a:Aut)(s:Int)(j:Nat):Prd:=(Km { a with mv:=a.mv.take j } s).foldl (fun r p=>Wz r (R3 p)) (Ed a.types.toNat)
attribute [local irreducible] w2u Wz R3 Ed Wo
end Go.Abs
namespace Go.Abs
open Go Go.Proofs
attribute [local irreducible] y0v Wo
end Go.Abs
namespace Go.Abs
open Go Go.Proofs
theorem z0l{p:Prd}{i:Nat}(h:i<p.length)(hv:¬(p[i].length≤12)):x1b p=false:=by rw[vK,Ne,q0r];exact fun k=>hv (k.2 _ (zT h))
theorem w13(p:Prd):PC Tryz.prog 46 [encP p] (fun r=>r= .bool (x1b p)):=by
 refine Ql tOk Tryz.func46 rfl Tryz.results46 rfl (by simp[Tryz.ntmps46]) ?_;rw[Tryz.ntmps46];simp only[Qf];simp only[encP];refine W3 0 0 rfl rfl (fun hlen=> ?_);rw[yP]at hlen;repeat first|(refine r_ ?_;simp)|refine q_ ?_
 refine Qu p.length (fun j=>j≤5∧∀i,∀hi:i<p.length,i<j→p[i].length≤12) (fun j=>[(1,.vptr 0 0),(3,.i j)]) (fun _=>[.vars [.list (p.map encL)]]) rfl (by simp) (by simp) (by simp) (by simp) (by simp) ?_;rintro j hj ⟨za,hI⟩ ih;repeat first|(refine r_ ?_;simp)|refine q_ ?_
 refine Qa rfl (fun z6=> ?_) (fun z7=> ?_)
 ·have z1:j<p.length:=by simp at z6;omega
  have zb:j<5:=by simp at z6;omega
  have hw:IntKind.i64.wrap ((j:Int)+1)=j+1:=wrap_i64 _ (by omega) (by omega);repeat first|(refine r_ ?_;simp[z1])|refine q_ ?_
  refine Qe rfl rfl (by simp) (f1q p[j]) rfl ?_;rintro _ rfl;simp;repeat first|(refine r_ ?_;simp)|refine q_ ?_
  refine Qa rfl (fun he=> ?_) (fun he=> ?_)
  ·repeat first|(refine r_ ?_;simp)|refine q_ ?_
   rw[z0l z1 (by simp at he;omega)]
  ·repeat first|(refine r_ ?_;simp[hw])|refine q_ ?_
   refine Qs [] (ih z1 ⟨by omega,fun i hi zc=> ?_⟩) rfl (by simp) ?_ (by simp) (by simp)
   ·by_cases e:i=j
    ·subst e;simp at he;omega
    ·exact hI i hi (by omega)
   ·simp
 ·have z8:p.length≤j∨5≤j:=by simp at z7;omega
  repeat first|(refine r_ ?_;simp)|refine q_ ?_
  rw[x_,q0r,decide_eq_true_eq];constructor
  ·intro h4;refine⟨by omega,fun s hs=> ?_⟩;obtain⟨i,hi,rfl⟩:=xG hs;exact hI i hi (by omega)
  ·intro h4;omega
end Go.Abs
namespace Go.Abs
open Go Go.Proofs
theorem X9{a:Aut}:y1z a=true↔a.fin.length≤8∧a.mv.length≤16∧∀m∈a.mv,x1b m.on=true:=by simp only[y1z,yT,decide_eq_true_eq,yH,and_assoc]
attribute [local irreducible] x1b
theorem k1q(a:Aut):PC Tryz.prog 13 [encA a] (fun r=>r= .bool (y1z a)):=by
 refine Ql tOk Tryz.func13 rfl Tryz.results13 rfl (by simp[Tryz.ntmps13]) ?_;rw[Tryz.ntmps13];simp only[Qf];simp only[encA];refine W3 0 2 rfl rfl (fun hlen=> ?_);rw[yP]at hlen;repeat first|(refine r_ ?_;simp)|refine q_ ?_
 refine Qu a.mv.length (fun j=>j≤20∧∀i,∀hi:i<a.mv.length,i<j→x1b a.mv[i].on=true) (fun j=>[(1,.vptr 0 0),(3,.i j)]) (fun _=>[.vars (Wb a)]) rfl (by simp) (by simp) (by simp) (by simp) (by simp) ?_;rintro j hj ⟨za,hI⟩ ih;repeat first|(refine r_ ?_;simp)|refine q_ ?_
 refine Qa rfl (fun z6=> ?_) (fun z7=> ?_)
 ·have z1:j<a.mv.length:=by simp at z6;omega
  have zb:j<20:=by simp at z6;omega
  have hw:IntKind.i64.wrap ((j:Int)+1)=j+1:=wrap_i64 _ (by omega) (by omega);repeat first|(refine r_ ?_;simp[z1])|refine q_ ?_
  refine Qe rfl rfl (by simp) (w13 a.mv[j].on) rfl ?_;rintro _ rfl;simp;repeat first|(refine r_ ?_;simp)|refine q_ ?_
  refine Qa rfl (fun he=> ?_) (fun he=> ?_)
  ·repeat first|(refine r_ ?_;simp)|refine q_ ?_
   have:y1z a=false:=by rw[vK,Ne,X9];intro k;have:=k.2.2 _ (zT z1);rw[this]at he;cases he
   rw[this]
  ·repeat first|(refine r_ ?_;simp[hw])|refine q_ ?_
   refine Qs [] (ih z1 ⟨by omega,fun i hi zc=> ?_⟩) rfl (by simp) ?_ (by simp) (by simp)
   ·by_cases e:i=j
    ·subst e;simpa using he
    ·exact hI i hi (by omega)
   ·simp
 ·have z8:a.mv.length≤j∨20≤j:=by simp at z7;omega
  repeat first|(refine r_ ?_;simp)|refine q_ ?_
  rw[x_,X9];simp;constructor
  ·rintro⟨h4,h5⟩;refine⟨by omega,by omega,fun m hm=> ?_⟩;obtain⟨i,hi,rfl⟩:=xG hm;exact hI i hi (by omega)
  ·rintro⟨h4,h5,_⟩;omega
end Go.Abs
namespace Go.Abs
open Go Go.Proofs
theorem g0j(a b:Prd):PC Tryz.prog 72 [encP a,encP b] (fun r=>r= .bool (decide (a=b))):=by
 refine Ql tOk Tryz.func72 rfl Tryz.results72 rfl (by simp[Tryz.ntmps72]) ?_;rw[Tryz.ntmps72];simp only[Qf];simp only[encP];refine W3 0 0 rfl rfl (fun hlen=> ?_);rw[yP]at hlen;repeat first|(refine r_ ?_;simp)|refine q_ ?_
 refine Qa rfl (fun h=> ?_) (fun h=> ?_)
 ·repeat first|(refine r_ ?_;simp)|refine q_ ?_
  intro e;subst e;simp at h
 have hl:a.length=b.length:=by simp at h;omega
 repeat first|(refine r_ ?_;simp)|refine q_ ?_
 refine Qu a.length (fun j=>∀i,i<j→∀h1:i<a.length,∀h2:i<b.length,a[i]=b[i]) (fun j=>[(2,.vptr 0 0),(3,.vptr 1 0),(5,.i j)]) (fun _=>[.vars [.list (a.map encL)],.vars [.list (b.map encL)]]) rfl (by simp) (by simp) (by simp) (by simp) (by simp) ?_;intro j hj hI ih;repeat first|(refine r_ ?_;simp)|refine q_ ?_
 refine Qa rfl (fun z7=> ?_) (fun z8=> ?_)
 ·have z1:j<a.length:=by simpa using z7
  have za:j<b.length:=by omega
  have hw:IntKind.i64.wrap ((j:Int)+1)=j+1:=wrap_i64 _ (by omega) (by omega);repeat first|(refine r_ ?_;simp)|refine q_ ?_
  refine Qk tOk mixed [] (.val 0 (.val 1 (.val 2 (.val 3 (.val 4 (.val 5 (.val 6 (.val 7 (.val 8 (.val 9 (.one 10 (.val 11 (.done))))))))))))) rfl (by kernel_rfl) ?_;simp[z1,za];refine Qe rfl rfl (by simp) (k1h a[j] b[j]) rfl ?_;rintro _ rfl;simp;repeat first|(refine r_ ?_;simp)|refine q_ ?_
  refine Qa rfl (fun h3=> ?_) (fun h3=> ?_)
  ·repeat first|(refine r_ ?_;simp)|refine q_ ?_
   intro e;subst e;simp at h3
  ·repeat first|(refine r_ ?_;simp[hw])|refine q_ ?_
   refine Qs [] (ih z1 (fun i hi h1 h2=> ?_)) rfl (by simp) ?_ (by simp) (by simp)
   ·by_cases e:i=j
    ·subst e;simpa using h3
    ·exact hI i (by omega) h1 h2
   ·simp
 ·have z6:j=a.length:=by simp at z8;omega
  subst z6;repeat first|(refine r_ ?_;simp)|refine q_ ?_
  exact v0y hl (fun i h1 h2=>hI i h1 h1 h2)
end Go.Abs
namespace Go.Abs
open Go Go.Proofs
theorem j0f(p:Prd)(g:Nat)(f:List Iv→Bool)(hg:∀s,PC Tryz.prog g [LIv s] (fun r=>r= .bool (f s))):
  PC Tryz.prog 182 [.list (p.map encL),.fn (.func g) [] []] (fun r=>r= .i (Zb f p)):=by
 refine Ql tOk Tryz.func182 rfl Tryz.results182 rfl (by simp[Tryz.ntmps182]) ?_;rw[Tryz.ntmps182];simp only[Qf];refine Ub 0 rfl (fun hlen=> ?_);rw[yP]at hlen;repeat first|(refine r_ ?_;simp)|refine q_ ?_
 refine Qu p.length (fun j=>∀i,∀hi:i<p.length,i<j→f p[i]=false) (fun j=>[(0,.list (p.map encL)),(1,.fn (.func g) [] []),(7,.i p.length),(8,.i j)]) (fun _=>[]) rfl (by simp) (by simp) (by simp) (by simp) (by simp) ?_;intro j hj hI ih;repeat first|(refine r_ ?_;simp)|refine q_ ?_
 refine Qa rfl (fun z7=> ?_) (fun z8=> ?_)
 ·have z1:j<p.length:=by simpa using z7
  have hw:IntKind.i64.wrap ((j:Int)+1)=j+1:=wrap_i64 _ (by omega) (by omega);repeat first|(refine r_ ?_;simp[z1])|refine q_ ?_
  refine Qe rfl rfl (by simp) (hg p[j]) rfl ?_;rintro _ rfl;simp;repeat first|(refine r_ ?_;simp)|refine q_ ?_
  refine Qa rfl (fun h=> ?_) (fun h=> ?_)
  ·repeat first|(refine r_ ?_;simp)|refine q_ ?_
   rw[Ll z1 h hI]
  ·repeat first|(refine r_ ?_;simp[hw])|refine q_ ?_
   refine Qs [] (ih z1 (fun i hi za=> ?_)) rfl (by simp) ?_ (by simp) (by simp)
   ·by_cases e:i=j
    ·subst e;exact h
    ·exact hI i hi (by omega)
   ·simp
 ·have z6:j=p.length:=by simp at z8;omega
  subst z6;repeat first|(refine r_ ?_;simp)|refine q_ ?_
  rw[D2 hI]
theorem S0(p:Prd)(g:Nat)(f:List Iv→Bool)(hg:∀s,PC Tryz.prog g [LIv s] (fun r=>r= .bool (f s))):
  PC Tryz.prog 125 [.list (p.map encL),.fn (.func g) [] []] (fun r=>r= .bool (p.any f)):=by
 refine Ql tOk Tryz.func125 rfl Tryz.results125 rfl (by simp[Tryz.ntmps125]) ?_;rw[Tryz.ntmps125];simp only[Qf];repeat first|(refine r_ ?_;simp)|refine q_ ?_
 refine Qe rfl rfl (by simp) (j0f p g f hg) rfl ?_;rintro _ rfl;simp;repeat first|(refine r_ ?_;simp)|refine q_ ?_
 rw[←f07]
theorem q1p(s:List Iv):PC Tryz.prog 185 [LIv s] (fun r=>r= .bool (decide (0<s.length))):=by refine Ql tOk Tryz.func185 rfl Tryz.results185 rfl (by simp[Tryz.ntmps185]) ?_;rw[Tryz.ntmps185];simp only[Qf];repeat first|(refine r_ ?_;simp)|refine q_ ?_
theorem u1h(s:List Iv):PC Tryz.prog 126 [LIv s] (fun r=>r= .bool (decide (256<s.length))):=by
 refine Ql tOk Tryz.func126 rfl Tryz.results126 rfl (by simp[Tryz.ntmps126]) ?_;rw[Tryz.ntmps126];simp only[Qf];repeat first|(refine r_ ?_;simp)|refine q_ ?_
 omega
theorem q1f(p:Prd):(!p.any fun s=>decide (0<s.length))=Wo p:=by
 unfold Wo;rw[List.not_any_eq_all_not]
 congr 1
 funext s;cases s<;>simp
theorem y1a(p:Prd):PC Tryz.prog 132 [encP p] (fun r=>r= .bool (Wo p)):=by
 refine Ql tOk Tryz.func132 rfl Tryz.results132 rfl (by simp[Tryz.ntmps132]) ?_;rw[Tryz.ntmps132];simp only[Qf];simp only[encP];repeat first|(refine r_ ?_;simp)|refine q_ ?_
 refine Qe rfl rfl (by simp) (S0 p 185 (fun s=>decide (0<s.length)) q1p) rfl ?_;rintro _ rfl;simp;repeat first|(refine r_ ?_;simp)|refine q_ ?_
 rw[←q1f p,Bool.not_not]
def x1v(m:Mv):Bool:=m.on.any fun s=>decide (256<s.length)
theorem B9(a:Aut):Bn a=(decide (256<a.fin.length) || decide (2048<a.mv.length) || a.mv.any x1v):=rfl
attribute [local irreducible] x1v
end Go.Abs
namespace Go.Abs
open Go Go.Proofs
abbrev LSy (w:List Sy):AV:= .list (w.map encSy)
def Ji(a:Aut)(w:List Sy)(z:Int):Bool:=decide (z∈Hp a [0] w)
theorem q1k(a:Aut)(z:Int):Ji a [] z=(false || z==0):=by rw[x_];simp[Ji,Hp]
theorem f01(a:Aut)(w:List Sy)(x:Sy):Ji a (w++[x])=fun z=>decide (z∈Wa a (Hp a [0] w) x):=by funext z;unfold Ji Hp;rw[vz];rfl
theorem w26(a:Aut)(l:List Int)(x:Sy):Ua a.fin.length (nxB a.mv (fun z=>decide (z∈l)) x)=Ua a.fin.length (fun z=>decide (z∈Wa a l x)):=by
 rw[y1w];unfold Ua;refine xP fun z hz=> ?_;have z1:=Ep.1 hz
 congr 1
 rw[x_,decide_eq_true_eq];unfold Wa;rw[xV];exact⟨fun h=>⟨hz,h⟩,fun h=>h.2⟩
attribute [local irreducible] Ua nxB
theorem j00(a:Aut)(ha:OkA a)(w:List Sy)(zp:w.length≤1000000):PC Tryz.prog 151 [encA a,LSy w] (fun r=>r= .bool (J0 a w)):=by
 refine Ql tOk Tryz.func151 rfl Tryz.results151 rfl (by simp[Tryz.ntmps151]) ?_;rw[Tryz.ntmps151];simp only[Qf];simp only[encA];have hf:=ha.fin;repeat first|(refine r_ ?_;simp)|refine q_ ?_
 refine Wn tOk rfl rfl rfl T22 rfl T4 rfl rfl rfl (n:=a.fin.length) (by simp;omega) (by unfold maxLen;omega) (.bool false) rfl ?_;simp;rw[q0s];have z1:=v0g a.fin.length (fun _=>false) 0 (xB _) (by omega);have zj:Ua a.fin.length (fun z=>false || z==0)=Ua a.fin.length (Ji a (w.take 0)):=P6 _ fun z=>by rw[wA,q1k]
 rw[zj]at z1;have zk:=R5 a.fin.length (fun _=>false);have zl:=fun(hh:0<(Ua a.fin.length (fun _=>false)).length)=>Dz a.fin.length (fun _=>false) (i:=0) hh;have zm:0<a.fin.length:=by omega
 generalize Ua a.fin.length (fun _=>false)=bs at *
 repeat first|(refine r_ ?_;simp[zk,zl,zm])|refine q_ ?_
 have zn:Int.toNat 0=0:=rfl;rw[zn]at z1;rw[z1];have zc:=R5 a.fin.length (Ji a (w.take 0));refine z0x 1 rfl ?_;simp[zc];rw[zZ (by simp[R5])];refine Qu w.length (fun _=>True) (fun j=>[(1,LSy w),(2,.vptr 0 0),(5,.list (Ua a.fin.length (Ji a (w.take j)))),(6,.i j)]) (fun _=>[.vars (Wb a)]) rfl (by simp) (by simp[R5]) (by simp) (by simp) trivial ?_;intro j hj _ ih;repeat first|(refine r_ ?_;simp)|refine q_ ?_
 refine Qa rfl (fun zd=> ?_) (fun ze=> ?_)
 ·have z6:j<w.length:=by simpa using zd
  have hw:IntKind.i64.wrap ((j:Int)+1)=j+1:=wrap_i64 _ (by omega) (by omega);have za:Ua a.fin.length (Ji a (w.take (j+1)))=Ua a.fin.length (nxB a.mv (fun z=>decide (z∈Hp a [0] (w.take j))) w[j]):=by rw[w26,z_ z6,f01]
  have zh:=ih z6 trivial;rw[za]at zh;repeat first|(refine r_ ?_;simp)|refine q_ ?_
  refine Qk tOk mixed [] (.val 0 (.val 1 (.val 2 (.val 3 (.val 4 (.val 5 (.one 6 (.val 7 (.done))))))))) rfl (by kernel_rfl) ?_;simp[z6];refine Qe rfl rfl (by simp) (z0p a ha (Ji a (w.take j)) w[j]) rfl ?_;rintro _ rfl;simp;repeat first|(refine r_ ?_;simp[hw])|refine q_ ?_
  refine Qs _ zh rfl (by simp) ?_ (by simp) (by simp);simp;rfl
 ·have z7:j=w.length:=by simp at ze;omega
  subst z7;rw[xD];have zf:=R5 a.fin.length (Ji a w);repeat first|(refine r_ ?_;simp)|refine q_ ?_
  refine Qu a.fin.length (fun k=>∀i:Nat,i<k→∀h:i<a.fin.length,(Ji a w i && a.fin[i])=false) (fun k=>[(2,.vptr 0 0),(5,.list (Ua a.fin.length (Ji a w))),(7,.i k)]) (fun _=>[.vars (Wb a)]) rfl (by simp) (by simp) (by simp) (by simp) (by simp) ?_;intro k hk hI zi;repeat first|(refine r_ ?_;simp[zf])|refine q_ ?_
  refine Qa rfl (fun zd=> ?_) (fun ze=> ?_)
  ·have z8:k<a.fin.length:=by simpa using zd
   have hw:IntKind.i64.wrap ((k:Int)+1)=k+1:=wrap_i64 _ (by omega) (by omega);have zb:=fun(hh:k<(Ua a.fin.length (Ji a w)).length)=>Dz a.fin.length (Ji a w) (i:=k) hh;have za:(Ji a w k && a.fin[k])=false→∀i:Nat,i<k+1→∀h:i<a.fin.length,(Ji a w i && a.fin[i])=false:=fun hb i hi h=>by
    by_cases e:i=k
    ·subst e;exact hb
    ·exact hI i (by omega) h
   cases hr:Ji a w k with
   |false=>
    rw[hr]at zb;repeat first|(refine r_ ?_;simp[zf,z8,zb])|refine q_ ?_
    refine Qm rfl ?_;repeat first|(refine r_ ?_;simp[hw])|refine q_ ?_
    refine Qs _ (zi z8 (za (by rw[hr];rfl))) rfl (by simp) ?_ (by simp) (by simp);simp
   |true=>
    rw[hr]at zb;repeat first|(refine r_ ?_;simp[zf,z8,zb])|refine q_ ?_
    refine Qa rfl (fun h=> ?_) (fun h=> ?_)
    ·repeat first|(refine r_ ?_;simp)|refine q_ ?_
     have:J0 a w=true:=by rw[J0,D8];exact⟨k,by simpa[Ji]using hr,by simp[yV,z8,h]⟩
     rw[this]
    ·repeat first|(refine r_ ?_;simp[hw])|refine q_ ?_
     refine Qs _ (zi z8 (za (by rw[hr];simpa using h))) rfl (by simp) ?_ (by simp) (by simp);simp
  ·have z7:k=a.fin.length:=by simp at ze;omega
   subst z7;repeat first|(refine r_ ?_;simp)|refine q_ ?_
   have:J0 a w=false:=by
    rw[vK,Ne,J0,D8];rintro⟨s,hs,zo⟩;have zq:=runIn w _ (B2 ha.wfA) s hs;have zg:s.toNat<a.fin.length:=by omega
    have:=hI s.toNat zg zg;have e:((s.toNat:Nat):Int)=s:=by omega
    rw[e]at this;have hr:Ji a w s=true:=by simpa[Ji]using hs
    rw[hr,vR]at this;simp[yV,zg,this]at zo
   rw[this]
end Go.Abs
namespace Go.Abs
open Go Go.Proofs
def c0p(T:Int):List Sy→Int
 |[]=>0
 |x::r=>if Gi T x≠0 then Gi T x else c0p T r
def x02(a:Aut)(w:List Sy):Int:=if Wf a≠0 then Wf a else if 4096<w.length then 5 else c0p a.types w
def d00(a:Aut)(w:List Sy):Bool×Int:=if x02 a w≠0 then(false,x02 a w)else(J0 a w,0)
theorem q08{T:Int}:∀(w:List Sy),c0p T w=0↔∀x∈w,Gi T x=0
 |[]=>by simp[c0p]
 |x::r=>by
  rw[c0p];by_cases h:Gi T x=0
  ·rw[if_neg (fun k=>k h),q08 r];simp[h]
  ·rw[if_pos h];exact⟨fun k=>absurd k h,fun k=>absurd (k x (by simp)) h⟩
theorem q1l{a:Aut}{w:List Sy}:x02 a w=0↔OkA a∧w.length≤4096∧∀x∈w,Eo a x:=by
 unfold x02;by_cases h:Wf a=0
 ·rw[if_neg (fun k=>k h)];by_cases hl:4096<w.length
  ·rw[if_pos hl];exact⟨fun k=>(by cases k),fun k=>(by omega)⟩
  ·rw[if_neg hl,q08];exact⟨fun k=>⟨(Yy a).1 h,by omega,fun x hx=>(K5 _ _).1 (k x hx)⟩,fun k x hx=>(K5 _ _).2 (k.2.2 x hx)⟩
 ·rw[if_pos h];exact⟨fun k=>absurd k h,fun k=>absurd ((Yy a).2 k.1) h⟩
attribute [local irreducible] Gi J0
theorem Nd(a:Aut)(w:List Sy):PC Tryz.prog 92 [encA a,LSy w] (fun r=>r= .tup [.bool (d00 a w).1,.i (d00 a w).2]):=by
 refine Ql tOk Tryz.func92 rfl Tryz.results92 rfl (by simp[Tryz.ntmps92]) ?_;rw[Tryz.ntmps92];simp only[Qf];simp only[encA];repeat first|(refine r_ ?_;simp)|refine q_ ?_
 refine Qe rfl rfl (by simp) (x0e a) rfl ?_;rintro _ rfl;simp;repeat first|(refine r_ ?_;simp)|refine q_ ?_
 refine Qa rfl (fun h=> ?_) (fun h=> ?_)
 ·repeat first|(refine r_ ?_;simp)|refine q_ ?_
  have hE:x02 a w=Wf a:=by rw[x02,if_pos (by simpa using h)]
  rw[d00,hE,if_pos (by simpa using h)];exact⟨rfl,rfl⟩
 have h0:Wf a=0:=by simpa using h
 have z7:=(Yy a).1 h0;repeat first|(refine r_ ?_;simp)|refine q_ ?_
 refine Qa rfl (fun h=> ?_) (fun h=> ?_)
 ·repeat first|(refine r_ ?_;simp)|refine q_ ?_
  have hE:x02 a w=5:=by rw[x02,if_neg (fun k=>k h0),if_pos (by simp at h;omega)]
  rw[d00,hE];exact⟨rfl,rfl⟩
 have hl:w.length≤4096:=by simp at h;omega
 have hE:x02 a w=c0p a.types w:=by rw[x02,if_neg (fun k=>k h0),if_neg (by omega)]
 repeat first|(refine r_ ?_;simp)|refine q_ ?_
 refine Qu w.length (fun j=>c0p a.types w=c0p a.types (w.drop j)) (fun j=>[(1,LSy w),(2,.vptr 0 0),(7,.i j)]) (fun _=>[.vars (Wb a)]) rfl (by simp) (by simp) (by simp) (by simp) (by simp) ?_;intro j hj hI ih;repeat first|(refine r_ ?_;simp)|refine q_ ?_
 refine Qa rfl (fun z8=> ?_) (fun za=> ?_)
 ·have z1:j<w.length:=by simpa using z8
  have hw:IntKind.i64.wrap ((j:Int)+1)=j+1:=wrap_i64 _ (by omega) (by omega);rw[W7 z1,c0p]at hI;repeat first|(refine r_ ?_;simp)|refine q_ ?_
  refine Qk tOk mixed [] (.val 0 (.val 1 (.val 2 (.val 3 (.val 4 (.val 5 (.one 6 (.val 7 (.done))))))))) rfl (by kernel_rfl) ?_;simp[z1];refine Qe rfl rfl (by simp) (w1c a.types w[j]) rfl ?_;rintro _ rfl;simp;repeat first|(refine r_ ?_;simp)|refine q_ ?_
  refine Qa rfl (fun h3=> ?_) (fun h3=> ?_)
  ·repeat first|(refine r_ ?_;simp)|refine q_ ?_
   rw[if_pos (by simpa using h3)]at hI;rw[d00,hE,hI,if_pos (by simpa using h3)];exact⟨rfl,rfl⟩
  ·rw[if_neg (by simpa using h3)]at hI;repeat first|(refine r_ ?_;simp[hw])|refine q_ ?_
   refine Qs _ (ih z1 hI) rfl (by simp) ?_ (by simp) (by simp);simp
 ·have z6:j=w.length:=by simp at za;omega
  subst z6;rw[wn]at hI;repeat first|(refine r_ ?_;simp)|refine q_ ?_
  refine Qe rfl rfl (by simp) (j00 a z7 w (by omega)) rfl ?_;rintro _ rfl;simp;repeat first|(refine r_ ?_;simp)|refine q_ ?_
  rw[d00,hE,hI];exact⟨rfl,rfl⟩
end Go.Abs
namespace Go.Abs
open Go Go.Proofs
def Ig:List Iv:=[⟨-1099511627776,1099511627776⟩]
theorem x0m:E9 []=Ig:=by simp[E9,Rh,Ig]
theorem w1m:PC Tryz.prog 156 [] (fun r=>r=LIv Ig):=by
 refine Ql tOk Tryz.func156 rfl Tryz.results156 rfl (by simp[Tryz.ntmps156]) ?_;rw[Tryz.ntmps156];simp only[Qf];repeat first|(refine r_ ?_;simp)|refine q_ ?_
 simp[Ig]
theorem v14(n:Int):PC Tryz.prog 155 [.i n] (fun r=>r= .tup [LIv Ig,.i 0]):=by
 refine Ql tOk Tryz.func155 rfl Tryz.results155 rfl (by simp[Tryz.ntmps155]) ?_;rw[Tryz.ntmps155];simp only[Qf];repeat first|(refine r_ ?_;simp)|refine q_ ?_
 refine Qe rfl rfl (by simp) (w1m) rfl ?_;rintro _ rfl;simp;repeat first|(refine r_ ?_;simp)|refine q_ ?_
end Go.Abs
namespace Go.Abs
open Go Go.Proofs
attribute [local irreducible] upL Ig
theorem x0l(T:Nat)(hT:T≤1000):PC Tryz.prog 154 [.i T,.fn (.func 155) [] []] (fun r=>r= .tup [encP (yB T Ig),.i 0]):=by
 refine Ql tOk Tryz.func154 rfl Tryz.results154 rfl (by simp[Tryz.ntmps154]) ?_;rw[Tryz.ntmps154];simp only[Qf];simp only[encP];repeat first|(refine r_ ?_;simp)|refine q_ ?_
 refine Ex 1 0 171 1 rfl rfl ?_;simp;obtain⟨K,hK⟩:∃K,K=[AObj.vars [AV.nils],AObj.vars [AV.nils]]:=⟨_,rfl⟩
 have zd:=GL.start (K:=K) (S:=1) [] [] 171 1 (by rw[hK];simp);refine Qr (Qd (sl':=[(1,.fn (.func 155) [] []),(4,.vptr 0 0),(6,.vptr 1 0),(10,.i T),(11,.i 0)]) ?_ (by simp));refine Qq (F:=fun(u:Nat×Nat×List AObj)=>⟨[(1,.fn (.func 155) [] []),(4,.vptr 0 0),(6,.vptr 1 0),(10,.i T),(11,.i u.1)],u.2.2⟩)
  (fun u=>u.1≤T∧GL K u.2.2 1 u.2.1 [] [] 171 1 (upL (fun _=>Ig) u.1)) (fun u=>T - u.1) ?_ (0,K.length,_) ⟨by simp,by rw[Ks,hK]at *;exact zd⟩
 rintro⟨j,q,H2⟩ ⟨hj,g⟩ ih;simp only at hj g ih ⊢;have gR:H2[0]? =some (AObj.vars [AV.nils]):=g.kp (by decide) (by rw[hK];rfl);have g2:=g.cell;have g3:=g.arr;rw[R9]at g2;simp only[wZ]at g2;repeat first|(refine r_ ?_;simp)|refine q_ ?_
 refine Qa rfl (fun ze=> ?_) (fun zf=> ?_)
 ·have zg:j<T:=by simpa using ze
  have hw:IntKind.i64.wrap ((j:Int)+1)=j+1:=wrap_i64 _ (by omega) (by omega);repeat first|(refine r_ ?_;simp)|refine q_ ?_
  refine Qe rfl rfl (by simp) (v14 j) rfl ?_;rintro _ rfl;simp;repeat first|(refine r_ ?_;simp)|refine q_ ?_
  refine Qm rfl ?_;have z6:∀L:List AObj,(H2.set q .dead++L)[1]? =some (AObj.vars [AV.sl q 1 0 j]):=fun L=>by have:=g.at L;rw[R9]at this;exact this
  have z8:∀(L:List AObj) (h:1<(H2.set q .dead++L).length),(H2.set q .dead++L)[1]'h=AObj.vars [AV.sl q 1 0 j]:=fun L h=>by have:=z6 L;rw[zP h]at this;exact Option.some.inj this
  have za:=fun A y=>g.put A y (R9 _ _).symm;have zh:upL (fun _=>Ig) j++[encL Ig]=upL (fun _=>Ig) (j+1):=(L3 _ _).symm;have z1:=fun H=>ih (j+1,H2.length+1,H);have z7:=R9 (fun _=>Ig) j;simp only[←zh]at z1;repeat first|(refine r_ ?_;simp[g2])|refine q_ ?_
  generalize upL (fun _=>Ig) j=xs at *
  refine Qh tOk rfl rfl T74 rfl Pe rfl (by decide) (by decide) rfl rfl rfl ?_;simp[Qb g3,Qj g3,z7,z6,z8];refine⟨by simp[Wp,Qb g3,Qj g3,z7,z6,z8]<;>omega,?_⟩;repeat first|(refine r_ ?_;simp[g2,hw,z6,z8])|refine q_ ?_
  refine Qd (sl':=[(1,.fn (.func 155) [] []),(4,.vptr 0 0),(6,.vptr 1 0),(10,.i T),(11,.i (j+1:Nat))]) (z1 _ ⟨by omega,za _ _⟩ (by omega)) ?_;simp
 ·have zb:j=T:=by simp at zf;omega
  subst zb;have hS:=(zE.1 g2).1;have zi:q≠0∧q≠1:=by have:=g.ge;rw[hK]at this;simp at this;omega
  have z7:=R9 (fun _=>Ig) j;have zc: .list (upL (fun _=>Ig) j)=AV.list ((yB j Ig).map encL):=by rw[By];simp[Function.comp_def,tS]
  generalize upL (fun _=>Ig) j=xs at *
  refine We q g3 1 g2 ?_;have k1:∀X,((H2.set q .dead).set 1 X)[0]? =some (AObj.vars [AV.nils]):=fun X=>Qc (by decide) (Qc zi.1 gR _) _;have k2:∀X,((H2.set q .dead).set 1 X)[1]? =some X:=fun X=>zU (by simpa using hS);have k3:∀X Y,(((H2.set q .dead).set 1 X).set 0 Y)[0]? =some Y:=fun X Y=>Qg (k1 X) _;simp[z7];rw[zZ (by omega)];repeat first|(refine r_ ?_;simp[k1,k2,k3])|refine q_ ?_
  have h2:=AV.list.inj zc;rw[List.map_replicate]at h2;exact h2
theorem d1r(T:Int)(h1:1≤T)(h2:T≤16):PC Tryz.prog 98 [.i T] (fun r=>r= .tup [encP (Ed T.toNat),.i 0]):=by
 refine Ql tOk Tryz.func98 rfl Tryz.results98 rfl (by simp[Tryz.ntmps98]) ?_;rw[Tryz.ntmps98];simp only[Qf];simp only[encP];have hw:Ed T.toNat=yB T.toNat Ig:=by rw[Ed,x0m]
 have hT:((T.toNat:Nat):Int)=T:=by omega
 have hc:=x0l T.toNat (by omega);rw[hT]at hc;have n1:¬T<1:=by omega
 have n2:¬16<T:=by omega
 rw[hw];repeat first|(refine r_ ?_;simp[n1,n2])|refine q_ ?_
 refine Qa rfl (fun h=> ?_) (fun h=> ?_)
 ·simp at h
 repeat first|(refine r_ ?_;simp)|refine q_ ?_
 refine Qe rfl rfl (by simp) (hc) rfl ?_;rintro _ rfl;simp;repeat first|(refine r_ ?_;simp)|refine q_ ?_
end Go.Abs
