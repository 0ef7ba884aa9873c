/- Part Sf of the proof: an abstract machine over the model, and what the functions of the program hand back in its terms. No condition. -/
import Derived.Test.YtjmkolhkojgjpaaGreatDoorSe
import Derived.Test.YtjmkolhkojgjpaaGreatDoorSc
import Derived.Test.YtjmkolhkojgjpaaGreatDoorSd
set_option linter.all false
open List renaming getElem?_eq_some_iff→zA,getElem?_set_self→zH,getElem?_set_ne→zB,getElem?_append_left→zE,getElem?_append_right→zC,range→yD,ext_getElem→xZ,getD→yR,cons_append→vB,nil_append→xY,getElem?_eq_getElem→zF,getElem_mem→zG,take_of_length_le→zM,map_const'→vH,length_map→zV,all_eq_false→wS,mem_range→yJ,all_eq_true→zP,getElem_of_mem→yH,take→tI,findIdx?_eq_some_iff_getElem→wp,findIdx?_eq_none_iff→ur,any_eq_false→wU,any_eq_true→wR,take_succ_eq_append_getElem→zJ,filter_append→uU,map_append→yM,take_zero→xU,length_take→yY,take_length→zX,replicate→zT,ext_getElem?→xA,getElem?_eq_none→xC,foldl_append→xR,mem_of_getElem?→zD,mem_map→zN,flatMap_append→wZ,length_append→zW,mem_of_mem_take→yU,replicate_succ→u3,take_append_drop→xM
open Nat renaming le_refl→zI,le_trans→yO
open Bool renaming false_and→vY,true_and→wV,eq_false_iff→wH,and_eq_true→zR,eq_iff_iff→yV,or_eq_true→ws
open Int renaming le_refl→yG
set_option maxHeartbeats 4000000
set_option linter.unusedSimpArgs false
set_option maxRecDepth 100000
namespace Go.Abs
open Go Go.Proofs
structure GL (K G:List AObj) (S p:Nat) (pre post:List AV) (e sz:Nat) (xs:List AV):Prop where
 cell:G[S]? =some (.vars (pre++ .sl p sz 0 xs.length::post))
 arr:G[p]? =some (.arr e sz xs)
 ge:K.length≤p
 lt:S<K.length
 len:K.length≤G.length
 keep:∀j,j<K.length→j≠S→G[j]? =K[j]?
theorem GL.kp{K G:List AObj}{S p:Nat}{pre post:List AV}{e sz:Nat}{xs:List AV}(h:GL K G S p pre post e sz xs){j:Nat}{x:AObj}(hj:j≠S)(hx:K[j]? =some x):G[j]? =some x:=by rw[h.keep j (zA.1 hx).1 hj];exact hx
theorem GL.start{K:List AObj}{S:Nat}(pre post:List AV)(e sz:Nat)(h:S<K.length):GL K ((K++[AObj.arr e sz []]).set S (.vars (pre++ .sl K.length sz 0 0::post))) S K.length pre post e sz []:=
 ⟨zH (by simp;omega),by rw[zB (by omega)];simp,zI _,h,by simp,fun j hj z1=>by
  rw[zB (fun e=>z1 e.symm),zE hj]⟩
theorem GL.put{K G:List AObj}{S p:Nat}{pre post:List AV}{e sz:Nat}{xs:List AV}(h:GL K G S p pre post e sz xs)(A:AObj)(y:AV){n:Nat}(hn:n=xs.length):
  GL K ((G.set p .dead++[A,AObj.arr e sz (xs++[y])]).set S (.vars (pre++ .sl (G.length+1) sz 0 (n+1)::post))) S (G.length+1) pre post e sz (xs++[y]):=by
 have hl:=h.len;have z6:=h.lt;have z7:=h.ge;subst hn;refine⟨by rw[zH (by simp;omega)];simp,by rw[zB (by omega),zC (by simp)];simp,by omega,z6,by simp;omega,fun j hj z1=> ?_⟩;rw[zB (fun e=>z1 e.symm),zE (by simp;omega),zB (by omega)];exact h.keep j hj z1
theorem GL.at{K G:List AObj}{S p:Nat}{pre post:List AV}{e sz:Nat}{xs:List AV}(h:GL K G S p pre post e sz xs)(L:List AObj):(G.set p .dead++L)[S]? =some (.vars (pre++ .sl p sz 0 xs.length::post)):=by have hl:=h.len;have z1:=h.lt;have z6:=h.ge;rw[zE (by simp;omega),zB (by omega)];exact h.cell
def upL(F:Nat→List Iv)(j:Nat):List AV:=(yD j).map fun i=>encL (F i)
theorem D6(F:Nat→List Iv)(j:Nat):upL F (j+1)=upL F j++[encL (F j)]:=by simp[upL,List.range_succ]
theorem W9(F:Nat→List Iv)(j:Nat):(upL F j).length=j:=by simp[upL]
theorem K1(F:Nat→List Iv)(n:Nat):upL F n=((yD n).map F).map encL:=by simp[upL]
theorem y03{α β:Type}(d:α)(f:α→β)(p:List α):(yD p.length).map (fun i=>f (p.getD i d))=p.map f:=by
 refine xZ (by simp) fun i h1 h2=> ?_;have h:i<p.length:=by simpa using h1
 simp[yR,h]
theorem Dx(F:Nat→List Iv):upL F 0=[]:=rfl
attribute [local irreducible] upL
theorem C7(T:Nat)(p:Prd)(hp:PWf T p)(hl:∀s∈p,s.length≤1000000000)(hT:T≤1000):PC Tryz.prog 220 [encP p] (fun r=>r=encP (W2 p)):=by
 refine Qh tOk Tryz.func220 rfl Tryz.results220 rfl (by simp[Tryz.ntmps220]) ?_;rw[Tryz.ntmps220];simp only[Qe];simp only[encP];have hlen:=hp.1;repeat first|(refine r_ ?_;simp)|refine q_ ?_
 refine R3 2 0 145 1 rfl rfl ?_;simp;obtain⟨K,hK⟩:∃K,K=[AObj.vars [.list (p.map encL)],AObj.vars [AV.nils],AObj.vars [AV.nils]]:=⟨_,rfl⟩
 have hst:=GL.start (K:=K) (S:=2) [] [] 145 1 (by rw[hK];simp);refine Ql (Qb (sl':=[(1,.vptr 0 0),(2,.vptr 1 0),(3,.vptr 2 0),(4,.i 0)]) ?_ (by simp));refine Qm (F:=fun(u:Nat×Nat×List AObj)=>⟨[(1,.vptr 0 0),(2,.vptr 1 0),(3,.vptr 2 0),(4,.i u.1)],u.2.2⟩)
  (fun u=>u.1≤p.length∧GL K u.2.2 2 u.2.1 [] [] 145 1 (upL (fun i=>W7 (p.getD i [])) u.1)) (fun u=>p.length - u.1) ?_ (0,K.length,_) ⟨by simp,by rw[Dx,hK]at *;exact hst⟩
 rintro⟨j,q,H2⟩ ⟨hj,g⟩ ih;simp only[vB,xY]at hj g ih ⊢;have g0:H2[0]? =some (AObj.vars [.list (p.map encL)]):=g.kp (by decide) (by rw[hK];rfl);have gR:H2[1]? =some (AObj.vars [AV.nils]):=g.kp (by decide) (by rw[hK];rfl);have g2:=g.cell;have g3:=g.arr;rw[W9]at g2;simp only[xY]at g2;repeat first|(refine r_ ?_;simp[g0])|refine q_ ?_
 refine Qa rfl (fun ze=> ?_) (fun zf=> ?_)
 ·have z1:j<p.length:=by simpa using ze
  have hw:IntKind.i64.wrap ((j:Int)+1)=j+1:=wrap_i64 _ (by omega) (by omega);have z7:∀L:List AObj,(H2.set q .dead++L)[2]? =some (AObj.vars [AV.sl q 1 0 j]):=fun L=>by have:=g.at L;rw[W9]at this;exact this
  have za:∀(L:List AObj) (h:2<(H2.set q .dead++L).length),(H2.set q .dead++L)[2]'h=AObj.vars [AV.sl q 1 0 j]:=fun L h=>by have:=z7 L;rw[zF h]at this;exact Option.some.inj this
  have zb:=fun A y=>g.put A y (W9 _ _).symm;have zg:upL (fun i=>W7 (p.getD i [])) j++[encL ((fun i=>W7 (p.getD i [])) j)]=upL (fun i=>W7 (p.getD i [])) (j+1):=(D6 _ _).symm;have z6:=fun H=>ih (j+1,H2.length+1,H);have z8:=W9 (fun i=>W7 (p.getD i [])) j;simp only[←zg]at z6;have hs:=hp.2 _ (zG z1);simp only[Ww z1]at *
  repeat first|(refine r_ ?_;simp[g0,g2])|refine q_ ?_
  refine Qj tOk mixed [9,11] (.val 0 (.val 1 (.val 2 (.val 3 (.val 4 (.val 5 (.val 6 (.one 7 (.one 8 (.one 9 (.val 10 (.one 11 (.done))))))))))))) rfl (by kernel_rfl) ?_;simp[z1,g0,g2];refine Qc rfl rfl (by simp) (Xc p[j] hs.1 hs.2 (hl _ (zG z1))) rfl ?_;rintro _ rfl;simp;repeat first|(refine r_ ?_;simp[g0,g2])|refine q_ ?_
  generalize upL (fun i=>W7 (p.getD i [])) j=xs at *
  refine Qf tOk rfl rfl T68 rfl Ai rfl (by decide) (by decide) rfl rfl rfl ?_;simp[Qd g3,Qk g3,z8,z7,za];refine⟨by simp[Wu,Qd g3,Qk g3,z8,z7,za]<;>omega,?_⟩;repeat first|(refine r_ ?_;simp[g0,g2,hw,z7,za])|refine q_ ?_
  refine Qb (sl':=[(1,.vptr 0 0),(2,.vptr 1 0),(3,.vptr 2 0),(4,.i (j+1:Nat))]) (z6 _ ⟨by omega,zb _ _⟩ (by omega)) ?_;simp
 ·have zc:j=p.length:=by(simp at zf;omega)
  subst zc;have hS:=(zA.1 g2).1;have zh:q≠1∧q≠2:=by have:=g.ge;rw[hK]at this;simp at this;omega
  have z8:=W9 (fun i=>W7 (p.getD i [])) (p.length);have zd: .list (upL (fun i=>W7 (p.getD i [])) (p.length))=AV.list ((W2 p).map encL):=by rw[K1];rw[y03];rfl
  generalize upL (fun i=>W7 (p.getD i [])) (p.length)=xs at *
  refine Ws q g3 2 g2 ?_;have k1:∀X,((H2.set q .dead).set 2 X)[1]? =some (AObj.vars [AV.nils]):=fun X=>Qg (by decide) (Qg zh.1 gR _) _;have k2:∀X,((H2.set q .dead).set 2 X)[2]? =some X:=fun X=>zH (by simpa using hS);have k3:∀X Y,(((H2.set q .dead).set 2 X).set 1 Y)[1]? =some Y:=fun X Y=>Qq (k1 X) _;simp[z8];rw[zM (by omega)];repeat first|(refine r_ ?_;simp[k1,k2,k3])|refine q_ ?_
  exact AV.list.inj zd
theorem J2(T:Int)(h0:0≤T)(hT:T≤1000):PC Tryz.prog 219 [.i T] (fun r=>r=encP (Wg T.toNat)):=by
 refine Qh tOk Tryz.func219 rfl Tryz.results219 rfl (by simp[Tryz.ntmps219]) ?_;rw[Tryz.ntmps219];simp only[Qe];simp only[encP];repeat first|(refine r_ ?_;simp)|refine q_ ?_
 refine R3 1 0 145 1 rfl rfl ?_;simp;obtain⟨K,hK⟩:∃K,K=[AObj.vars [AV.nils],AObj.vars [AV.nils]]:=⟨_,rfl⟩
 have hst:=GL.start (K:=K) (S:=1) [] [] 145 1 (by rw[hK];simp);refine Ql (Qb (sl':=[(0,.i T),(2,.vptr 0 0),(3,.vptr 1 0),(4,.i 0)]) ?_ (by simp));refine Qm (F:=fun(u:Nat×Nat×List AObj)=>⟨[(0,.i T),(2,.vptr 0 0),(3,.vptr 1 0),(4,.i u.1)],u.2.2⟩)
  (fun u=>u.1≤T.toNat∧GL K u.2.2 1 u.2.1 [] [] 145 1 (upL (fun _=>W7 []) u.1)) (fun u=>T.toNat - u.1) ?_ (0,K.length,_) ⟨by simp,by rw[Dx,hK]at *;exact hst⟩
 rintro⟨j,q,H2⟩ ⟨hj,g⟩ ih;simp only[vB,xY]at hj g ih ⊢;have g0:True:=trivial;have gR:H2[0]? =some (AObj.vars [AV.nils]):=g.kp (by decide) (by rw[hK];rfl);have g2:=g.cell;have g3:=g.arr;rw[W9]at g2;simp only[xY]at g2;repeat first|(refine r_ ?_;simp[g0])|refine q_ ?_
 refine Qa rfl (fun zd=> ?_) (fun ze=> ?_)
 ·have zf:j<T.toNat:=by(have:(j:Int)<T:=(by simpa using zd);omega)
  have hw:IntKind.i64.wrap ((j:Int)+1)=j+1:=wrap_i64 _ (by omega) (by omega);have z6:∀L:List AObj,(H2.set q .dead++L)[1]? =some (AObj.vars [AV.sl q 1 0 j]):=fun L=>by have:=g.at L;rw[W9]at this;exact this
  have z8:∀(L:List AObj) (h:1<(H2.set q .dead++L).length),(H2.set q .dead++L)[1]'h=AObj.vars [AV.sl q 1 0 j]:=fun L h=>by have:=z6 L;rw[zF h]at this;exact Option.some.inj this
  have za:=fun A y=>g.put A y (W9 _ _).symm;have zg:upL (fun _=>W7 []) j++[encL ((fun _=>W7 []) j)]=upL (fun _=>W7 []) (j+1):=(D6 _ _).symm;have z1:=fun H=>ih (j+1,H2.length+1,H);have z7:=W9 (fun _=>W7 []) j;simp only[←zg]at z1;repeat first|(refine r_ ?_;simp[g2])|refine q_ ?_
  refine Qj tOk mixed [4,6] (.val 0 (.val 1 (.one 2 (.one 3 (.one 4 (.val 5 (.one 6 (.done)))))))) rfl (by kernel_rfl) ?_;simp[g2];refine Qc rfl rfl (by simp) (Xc [] Zp (by simp[M]) (by simp)) rfl ?_;rintro _ rfl;simp;repeat first|(refine r_ ?_;simp[g2])|refine q_ ?_
  generalize upL (fun _=>W7 []) j=xs at *
  refine Qf tOk rfl rfl T68 rfl Ai rfl (by decide) (by decide) rfl rfl rfl ?_;simp[Qd g3,Qk g3,z7,z6,z8];refine⟨by simp[Wu,Qd g3,Qk g3,z7,z6,z8]<;>omega,?_⟩;repeat first|(refine r_ ?_;simp[g0,g2,hw,z6,z8])|refine q_ ?_
  refine Qb (sl':=[(0,.i T),(2,.vptr 0 0),(3,.vptr 1 0),(4,.i (j+1:Nat))]) (z1 _ ⟨by omega,za _ _⟩ (by omega)) ?_;simp
 ·have zb:j=T.toNat:=by(have:¬(j:Int)<T:=(by simpa using ze);omega)
  subst zb;have hS:=(zA.1 g2).1;have zh:q≠0∧q≠1:=by have:=g.ge;rw[hK]at this;simp at this;omega
  have z7:=W9 (fun _=>W7 []) (T.toNat);have zc: .list (upL (fun _=>W7 []) (T.toNat))=AV.list ((Wg T.toNat).map encL):=by rw[K1];simp[Wg,Function.comp_def,vH]
  generalize upL (fun _=>W7 []) (T.toNat)=xs at *
  refine Ws q g3 1 g2 ?_;have k1:∀X,((H2.set q .dead).set 1 X)[0]? =some (AObj.vars [AV.nils]):=fun X=>Qg (by decide) (Qg zh.1 gR _) _;have k2:∀X,((H2.set q .dead).set 1 X)[1]? =some X:=fun X=>zH (by simpa using hS);have k3:∀X Y,(((H2.set q .dead).set 1 X).set 0 Y)[0]? =some Y:=fun X Y=>Qq (k1 X) _;simp[z7];rw[zM (by omega)];repeat first|(refine r_ ?_;simp[k1,k2,k3])|refine q_ ?_
  exact AV.list.inj zc
end Go.Abs
namespace Go.Abs
open Go Go.Proofs
theorem d1w{T:Nat}{p:Prd}(h:PWf T p){s:List Iv}(hs:s∈p):∀x∈s,O4 x:=v0h (h.2 s hs).1 (h.2 s hs).2
attribute [local irreducible] Rk E6
theorem U0(p:Prd):PC Tryz.prog 159 [encP p] (fun r=>r= .bool (Wk p)):=by
 refine Qh tOk Tryz.func159 rfl Tryz.results159 rfl (by simp[Tryz.ntmps159]) ?_;rw[Tryz.ntmps159];simp only[Qe];simp only[encP];refine Wd 0 0 rfl rfl (fun hlen=> ?_);rw[zV]at hlen;obtain⟨R,hR⟩:∃R,Wk p=R:=⟨_,rfl⟩
 rw[hR];repeat first|(refine r_ ?_;simp)|refine q_ ?_
 refine Qr p.length (fun j=>Wk (p.drop j)=R) (fun j=>[(1,.vptr 0 0),(3,.i j)]) (fun _=>[.vars [.list (p.map encL)]]) rfl (by simp) (by simp) (by simp) (by simp) (by simpa using hR) ?_;intro j hj hI ih;repeat first|(refine r_ ?_;simp)|refine q_ ?_
 refine Qa rfl (fun z7=> ?_) (fun z8=> ?_)
 ·have z1:j<p.length:=by simpa using z7
  have hw:IntKind.i64.wrap ((j:Int)+1)=j+1:=wrap_i64 _ (by omega) (by omega);rw[Wo z1,Wk,List.all_cons]at hI;repeat first|(refine r_ ?_;simp[z1])|refine q_ ?_
  refine Qa rfl (fun h3=> ?_) (fun h3=> ?_)
  ·repeat first|(refine r_ ?_;simp)|refine q_ ?_
   have:p[j].isEmpty=false:=by simp at h3;cases hp:p[j]with|nil=>rw[hp]at h3;simp at h3|cons _ _=>rfl
   rw[this,vY]at hI;exact hI.symm
  ·have:p[j].isEmpty=true:=by simp at h3;simp[h3]
   rw[this,wV]at hI;repeat first|(refine r_ ?_;simp[hw])|refine q_ ?_
   refine Qo _ (ih z1 hI) rfl (by simp) ?_ (by simp) (by simp);simp
 ·have z6:j=p.length:=by simp at z8;omega
  subst z6;repeat first|(refine r_ ?_;simp)|refine q_ ?_
  rw[←hI,List.drop_length];rfl
theorem Oz:∀(p:Prd) (i:Nat),(∃s∈p,s≠[])→∃t x r,p[t]? =some (x::r)∧Qv p i=(i+t,x.lo)∧∀j,j<t→p[j]? =some []
 |[],i,h=>by obtain⟨s,hs,_⟩:=h;cases hs
 |[]::p,i,h=>by
  obtain⟨t,x,r,h1,h2,h3⟩:=Oz p (i+1) (by obtain⟨s,hs,hn⟩:=h;rcases List.mem_cons.1 hs with rfl|hs;exact absurd rfl hn;exact⟨s,hs,hn⟩);refine⟨t+1,x,r,by simpa using h1,by rw[Qv,h2];congr 1;omega,fun j hj=> ?_⟩;cases j with
  |zero=>rfl
  |succ j=>simpa using h3 j (by omega)
 |(x::r)::p,i,_=>⟨0,x,r,rfl,by simp[Qv],fun j hj=>by omega⟩
theorem Sn(p:Prd)(hn:Wk p=false):PC Tryz.prog 206 [encP p] (fun r=>r=encSy (Qn p)):=by
 refine Qh tOk Tryz.func206 rfl Tryz.results206 rfl (by simp[Tryz.ntmps206]) ?_;rw[Tryz.ntmps206];simp only[Qe];simp only[encP];refine Wd 0 0 rfl rfl (fun hlen=> ?_);rw[zV]at hlen;obtain⟨t,x,r,h1,h2,h3⟩:=Oz p 0 (by
  unfold Wk at hn;rw[wS]at hn;obtain⟨s,hs,he⟩:=hn;exact⟨s,hs,fun e=>by rw[e]at he;simp at he⟩)
 have hL:Qn p=⟨(t:Int),x.lo⟩:=by rw[Qn,h2];simp
 rw[hL];have ht:=(zA.1 h1).1;have z6:p[t]=x::r:=(zA.1 h1).2;repeat first|(refine r_ ?_;simp)|refine q_ ?_
 refine Qr t (fun _=>True) (fun j=>[(1,.vptr 0 0),(2,.vptr 1 0),(3,.i j)]) (fun _=>[.vars [.list (p.map encL)],.vars [.i 0,.i 0]]) rfl (by simp) (by simp) (by simp) (by simp) trivial ?_;intro j hj _ ih;have z1:j<p.length:=by omega
 have hw:IntKind.i64.wrap ((j:Int)+1)=j+1:=wrap_i64 _ (by omega) (by omega);repeat first|(refine r_ ?_;simp[z1])|refine q_ ?_
 refine Qs rfl ?_;simp[z1];repeat first|(refine r_ ?_;simp[z1])|refine q_ ?_
 by_cases hjt:j=t
 ·subst hjt;have z8:¬(p[j].length=0):=by rw[z6];simp
  have zb:0<p[j].length:=by omega
  repeat first|(refine r_ ?_;simp[z1,z6])|refine q_ ?_
  refine Qa rfl (fun h=> ?_) (fun h=> ?_)
  ·repeat first|(refine r_ ?_;simp[z1,z6])|refine q_ ?_
  ·exfalso;rw[z6]at h;simp at h
 ·have za:=h3 j (by omega);have z7:p[j]=[]:=(zA.1 za).2;repeat first|(refine r_ ?_;simp[z1,z7])|refine q_ ?_
  refine Qa rfl (fun h=> ?_) (fun h=> ?_)
  ·exfalso;rw[z7]at h;simp at h
  ·repeat first|(refine r_ ?_;simp[hw])|refine q_ ?_
   refine Qo _ (ih (by omega) trivial) rfl (by simp) ?_ (by simp) (by simp);simp
theorem By(x y:Sy):PC Tryz.prog 246 [encSy x,encSy y] (fun r=>r= .bool (Be x y)):=by
 refine Qh tOk Tryz.func246 rfl Tryz.results246 rfl (by simp[Tryz.ntmps246]) ?_;rw[Tryz.ntmps246];simp only[Qe];simp only[encSy];repeat first|(refine r_ ?_;simp)|refine q_ ?_
 by_cases h:x.ty=y.ty<;>simp[Be,h]
theorem w1w(T:Int)(x:Sy):PC Tryz.prog 152 [.i T,encSy x] (fun r=>r= .i (Az T x)):=by
 refine Qh tOk Tryz.func152 rfl Tryz.results152 rfl (by simp[Tryz.ntmps152]) ?_;rw[Tryz.ntmps152];simp only[Qe];simp only[encSy];repeat first|(refine r_ ?_;simp)|refine q_ ?_
 refine Qa rfl (fun h=> ?_) (fun h=> ?_)
 ·repeat first|(refine r_ ?_;simp)|refine q_ ?_
  rw[Az,if_pos (by simpa using h)]
 have h1:¬(x.ty<0∨T≤x.ty):=by simpa using h
 repeat first|(refine r_ ?_;simp)|refine q_ ?_
 refine Qa rfl (fun h=> ?_) (fun h=> ?_)
 ·repeat first|(refine r_ ?_;simp)|refine q_ ?_
  rw[Az,if_neg h1,if_pos (by simpa using h)]
 have h2:¬(x.num< -1099511627776∨1099511627776<x.num):=by simpa using h
 repeat first|(refine r_ ?_;simp)|refine q_ ?_
 rw[Az,if_neg h1,if_neg h2]
end Go.Abs
namespace Go.Abs
open Go Go.Proofs
attribute [local irreducible] Rk E6 upL W7
theorem d0c{c p:Prd}(h:c.length=p.length):(yD c.length).map (fun i=>Rk (c.getD i []) (p.getD i []))=Wf c p:=by
 refine xZ (by simp[Wf,h]) fun i h1 h2=> ?_;have hc:i<c.length:=by simpa using h1
 have hp:i<p.length:=by omega
 simp[Wf,yR,hc,hp]
theorem P2(T:Nat)(c p:Prd)(hc:PWf T c)(hp:PWf T p)(zf:∀s∈c,∀t∈p,s.length+t.length≤1000000000)(hT:T≤1000):PC Tryz.prog 160 [encP c,encP p] (fun r=>r=encP (Wf c p)):=by
 refine Qh tOk Tryz.func160 rfl Tryz.results160 rfl (by simp[Tryz.ntmps160]) ?_;rw[Tryz.ntmps160];simp only[Qe];simp only[encP];have hlen:c.length=p.length:=by rw[hc.1,hp.1]
 have zl:=hc.1;repeat first|(refine r_ ?_;simp)|refine q_ ?_
 refine R3 3 0 145 1 rfl rfl ?_;simp;obtain⟨K,hK⟩:∃K,K=[AObj.vars [.list (c.map encL)],AObj.vars [.list (p.map encL)],AObj.vars [AV.nils],AObj.vars [AV.nils]]:=⟨_,rfl⟩
 have hst:=GL.start (K:=K) (S:=3) [] [] 145 1 (by rw[hK];simp);refine Ql (Qb (sl':=[(2,.vptr 0 0),(3,.vptr 1 0),(4,.vptr 2 0),(5,.vptr 3 0),(6,.i 0)]) ?_ (by simp));refine Qm (F:=fun(u:Nat×Nat×List AObj)=>⟨[(2,.vptr 0 0),(3,.vptr 1 0),(4,.vptr 2 0),(5,.vptr 3 0),(6,.i u.1)],u.2.2⟩)
  (fun u=>u.1≤c.length∧GL K u.2.2 3 u.2.1 [] [] 145 1 (upL (fun i=>Rk (c.getD i []) (p.getD i [])) u.1)) (fun u=>c.length - u.1) ?_ (0,K.length,_) ⟨by simp,by rw[Dx,hK]at *;exact hst⟩
 rintro⟨j,q,H2⟩ ⟨hj,g⟩ ih;simp only[vB,xY]at hj g ih ⊢;have g0:H2[0]? =some (AObj.vars [.list (c.map encL)]):=g.kp (by decide) (by rw[hK];rfl);have g1:H2[1]? =some (AObj.vars [.list (p.map encL)]):=g.kp (by decide) (by rw[hK];rfl);have gR:H2[2]? =some (AObj.vars [AV.nils]):=g.kp (by decide) (by rw[hK];rfl);have g2:=g.cell;have g3:=g.arr;rw[W9]at g2;simp only[xY]at g2;repeat first|(refine r_ ?_;simp[g0])|refine q_ ?_
 refine Qa rfl (fun zg=> ?_) (fun zh=> ?_)
 ·have z1:j<c.length:=by simpa using zg
  have hw:IntKind.i64.wrap ((j:Int)+1)=j+1:=wrap_i64 _ (by omega) (by omega);have z7:∀L:List AObj,(H2.set q .dead++L)[3]? =some (AObj.vars [AV.sl q 1 0 j]):=fun L=>by have:=g.at L;rw[W9]at this;exact this
  have zb:∀(L:List AObj) (h:3<(H2.set q .dead++L).length),(H2.set q .dead++L)[3]'h=AObj.vars [AV.sl q 1 0 j]:=fun L h=>by have:=z7 L;rw[zF h]at this;exact Option.some.inj this
  have zc:=fun A y=>g.put A y (W9 _ _).symm;have zi:upL (fun i=>Rk (c.getD i []) (p.getD i [])) j++[encL ((fun i=>Rk (c.getD i []) (p.getD i [])) j)]=upL (fun i=>Rk (c.getD i []) (p.getD i [])) (j+1):=(D6 _ _).symm;have z6:=fun H=>ih (j+1,H2.length+1,H);have z8:=W9 (fun i=>Rk (c.getD i []) (p.getD i [])) j;simp only[←zi]at z6;have za:j<p.length:=by omega
  have hs:=hc.2 _ (zG z1);have zj:=hp.2 _ (zG za);simp only[Ww z1,Ww za]at *
  repeat first|(refine r_ ?_;simp[g0,g1,g2])|refine q_ ?_
  refine Qj tOk mixed [14,16] (.val 0 (.val 1 (.val 2 (.val 3 (.val 4 (.val 5 (.val 6 (.val 7 (.val 8 (.val 9 (.val 10 (.val 11 (.one 12 (.one 13 (.one 14 (.val 15 (.one 16 (.done)))))))))))))))))) rfl (by kernel_rfl) ?_;simp[z1,za,g0,g1,g2];refine Qc rfl rfl (by simp) (j07 c[j] p[j] hs.1 zj.1 (zf _ (zG z1) _ (zG za)) (d1w hc (zG z1))) rfl ?_;rintro _ rfl;simp;repeat first|(refine r_ ?_;simp[g0,g1,g2])|refine q_ ?_
  generalize upL (fun i=>Rk (c.getD i []) (p.getD i [])) j=xs at *
  refine Qf tOk rfl rfl T68 rfl Ai rfl (by decide) (by decide) rfl rfl rfl ?_;simp[Qd g3,Qk g3,z8,z7,zb];refine⟨by simp[Wu,Qd g3,Qk g3,z8,z7,zb]<;>omega,?_⟩;repeat first|(refine r_ ?_;simp[g0,g2,hw,z7,zb])|refine q_ ?_
  refine Qb (sl':=[(2,.vptr 0 0),(3,.vptr 1 0),(4,.vptr 2 0),(5,.vptr 3 0),(6,.i (j+1:Nat))]) (z6 _ ⟨by omega,zc _ _⟩ (by omega)) ?_;simp
 ·have zd:j=c.length:=by(simp at zh;omega)
  subst zd;have hS:=(zA.1 g2).1;have zk:q≠2∧q≠3:=by have:=g.ge;rw[hK]at this;simp at this;omega
  have z8:=W9 (fun i=>Rk (c.getD i []) (p.getD i [])) (c.length);have ze: .list (upL (fun i=>Rk (c.getD i []) (p.getD i [])) (c.length))=AV.list ((Wf c p).map encL):=by rw[K1];rw[d0c hlen]
  generalize upL (fun i=>Rk (c.getD i []) (p.getD i [])) (c.length)=xs at *
  refine Ws q g3 3 g2 ?_;have k1:∀X,((H2.set q .dead).set 3 X)[2]? =some (AObj.vars [AV.nils]):=fun X=>Qg (by decide) (Qg zk.1 gR _) _;have k2:∀X,((H2.set q .dead).set 3 X)[3]? =some X:=fun X=>zH (by simpa using hS);have k3:∀X Y,(((H2.set q .dead).set 3 X).set 2 Y)[2]? =some Y:=fun X Y=>Qq (k1 X) _;simp[z8];rw[zM (by omega)];repeat first|(refine r_ ?_;simp[k1,k2,k3])|refine q_ ?_
  exact AV.list.inj ze
end Go.Abs
namespace Go.Abs
open Go Go.Proofs
attribute [local irreducible] Ol
theorem M4(p:Prd)(x:Sy)(hl:∀s∈p,s.length≤1000000000):PC Tryz.prog 207 [encP p,encSy x] (fun r=>r= .bool (E5 p x)):=by
 refine Qh tOk Tryz.func207 rfl Tryz.results207 rfl (by simp[Tryz.ntmps207]) ?_;rw[Tryz.ntmps207];simp only[Qe];simp only[encP,encSy];repeat first|(refine r_ ?_;simp)|refine q_ ?_
 by_cases h0:0≤x.ty
 ·by_cases h1:x.ty<p.length
  ·have h2:x.ty.toNat<p.length:=by omega
   refine Qj tOk mixed [] (.val 0 (.val 1 (.val 2 (.val 3 (.val 4 (.val 5 (.val 6 (.val 7 (.val 8 (.val 9 (.val 10 (.val 11 (.val 12 (.val 13 (.val 14 (.val 15 (.val 16 (.val 17 (.val 18 (.val 19 (.one 20 (.val 21 (.val 22 (.done)))))))))))))))))))))))) rfl (by kernel_rfl) ?_;simp[h0,h1,h2];refine Qc rfl rfl (by simp) (k1c p[x.ty.toNat] x.num (hl _ (zG h2))) rfl ?_;rintro _ rfl;simp;repeat first|(refine r_ ?_;simp[h0,h1,h2])|refine q_ ?_
   simp[E5,h0,h1,yR,h2]
  ·refine Qj tOk mixed [] (.val 0 (.val 1 (.val 2 (.val 3 (.val 4 (.val 5 (.val 6 (.val 7 (.val 8 (.val 9 (.val 10 (.val 11 (.val 12 (.val 13 (.val 14 (.val 15 (.val 16 (.val 17 (.val 18 (.val 19 (.one 20 (.val 21 (.val 22 (.done)))))))))))))))))))))))) rfl (by kernel_rfl) ?_;simp[h0,h1];refine Qx rfl rfl ?_;simp[h0,h1];repeat first|(refine r_ ?_;simp[h0,h1])|refine q_ ?_
   simp[E5,h0,h1]
 ·refine Qj tOk mixed [] (.val 0 (.val 1 (.val 2 (.val 3 (.val 4 (.val 5 (.val 6 (.val 7 (.val 8 (.val 9 (.val 10 (.val 11 (.val 12 (.val 13 (.val 14 (.val 15 (.val 16 (.val 17 (.val 18 (.val 19 (.one 20 (.val 21 (.val 22 (.done)))))))))))))))))))))))) rfl (by kernel_rfl) ?_;simp[h0];refine Qx rfl rfl ?_;simp[h0];repeat first|(refine r_ ?_;simp[h0])|refine q_ ?_
  simp[E5,h0]
def V0(a:Aut)(i k:Nat):Bool:=decide ((a.mv.getD i default).src=(a.mv.getD k default).src) && q0b (a.mv.getD i default).on (a.mv.getD k default).on
theorem Xb{a:Aut}{i k:Nat}(hi:i<a.mv.length)(hk:k<i)(h:V0 a i k=true):Lc a=false:=by unfold Lc;rw[wS];refine⟨i,yJ.2 hi,?_⟩;rw[Bool.not_eq_true,wS];exact⟨k,yJ.2 hk,by unfold V0 at h;rw[h];simp⟩
theorem Mr{a:Aut}(h:∀i,i<a.mv.length→∀k,k<i→V0 a i k=false):Lc a=true:=by unfold Lc;rw[zP];intro i hi;rw[zP];intro k hk;have:=h i (yJ.1 hi) k (yJ.1 hk);unfold V0 at this;rw[this];rfl
theorem M6{a:Aut}{i k:Nat}(hi:i<a.mv.length)(hk:k<a.mv.length):V0 a i k=(decide (a.mv[i].src=a.mv[k].src) && q0b a.mv[i].on a.mv[k].on):=by simp[V0,yR,hi,hk]
theorem Py{a:Aut}(h:OkA a){m:Mv}(hm:m∈a.mv):∀s∈m.on,s.length≤256:=fun s hs=>((h.mv m hm).on.2 s hs).len
attribute [local irreducible] V0 q0b Wf Wk
theorem y0l(a:Aut)(h:OkA a):PC Tryz.prog 91 [encA a] (fun r=>r= .bool (Lc a)):=by
 refine Qh tOk Tryz.func91 rfl Tryz.results91 rfl (by simp[Tryz.ntmps91]) ?_;rw[Tryz.ntmps91];simp only[Qe];simp only[encA];have zo:=h.mvs;repeat first|(refine r_ ?_;simp)|refine q_ ?_
 refine Qr a.mv.length (fun j=>∀i,i<j→∀k,k<i→V0 a i k=false) (fun j=>[(1,.vptr 0 0),(3,.i j)]) (fun _=>[.vars (Qp a)]) rfl (by simp) (by simp) (by simp) (by simp) (by simp) ?_;intro j hj hI ih;repeat first|(refine r_ ?_;simp)|refine q_ ?_
 refine Qa rfl (fun zm=> ?_) (fun zn=> ?_)
 ·have z1:j<a.mv.length:=by simpa using zm
  have hw:IntKind.i64.wrap ((j:Int)+1)=j+1:=wrap_i64 _ (by omega) (by omega);repeat first|(refine r_ ?_;simp)|refine q_ ?_
  refine Qr j (fun k=>∀k',k'<k→V0 a j k'=false) (fun k=>[(1,.vptr 0 0),(3,.i j),(4,.i k)]) (fun _=>[.vars (Qp a)]) rfl (by simp) (by simp) (by simp) (by simp) (by simp) ?_;intro k hk zg zh;repeat first|(refine r_ ?_;simp)|refine q_ ?_
  refine Qa rfl (fun zb=> ?_) (fun zc=> ?_)
  ·have zd:k<j:=by simpa using zb
   have za:k<a.mv.length:=by omega
   have zi:IntKind.i64.wrap ((k:Int)+1)=k+1:=wrap_i64 _ (by omega) (by omega);have z6:=M6 (a:=a) z1 za;have zj:V0 a j k=false→∀k',k'<k+1→V0 a j k'=false:=fun hb k' ze=>by
    by_cases e:k'=k
    ·rw[e];exact hb
    ·exact zg k' (by omega)
   by_cases he:a.mv[j].src=a.mv[k].src
   ·rw[decide_eq_true he,wV]at z6;repeat first|(refine r_ ?_;simp)|refine q_ ?_
    refine Qj tOk mixed [] (.val 0 (.val 1 (.val 2 (.val 3 (.val 4 (.val 5 (.val 6 (.val 7 (.val 8 (.val 9 (.val 10 (.val 11 (.val 12 (.val 13 (.val 14 (.val 15 (.val 16 (.val 17 (.val 18 (.val 19 (.val 20 (.val 21 (.val 22 (.val 23 (.val 24 (.val 25 (.one 26 (.one 27 (.val 28 (.val 29 (.done))))))))))))))))))))))))))))))) rfl (by kernel_rfl) ?_;simp[z1,za,he];have zk:=zG z1;have zl:=zG za;refine Qc rfl rfl (by simp) (P2 a.types.toNat a.mv[j].on a.mv[k].on (h.mv _ zk).on.wf (h.mv _ zl).on.wf (fun s hs t ht=>by have:=Py h zk s hs;have:=Py h zl t ht;omega) (by have:=h.types;omega)) rfl ?_;rintro _ rfl;simp;repeat first|(refine r_ ?_;simp)|refine q_ ?_
    refine Qc rfl rfl (by simp) (U0 (Wf a.mv[j].on a.mv[k].on)) rfl ?_;rintro _ rfl;simp;repeat first|(refine r_ ?_;simp)|refine q_ ?_
    refine Qa rfl (fun h3=> ?_) (fun h3=> ?_)
    ·repeat first|(refine r_ ?_;simp)|refine q_ ?_
     rw[Xb z1 zd (by rw[z6,q0b];simpa using h3)]
    ·repeat first|(refine r_ ?_;simp[zi])|refine q_ ?_
     refine Qo _ (zh zd (zj (by rw[z6,q0b];simpa using h3))) rfl (by simp) ?_ (by simp) (by simp);simp
   ·rw[decide_eq_false he,vY]at z6;have z7:(a.mv[j].src==a.mv[k].src)=false:=beq_eq_false_iff_ne.2 he;repeat first|(refine r_ ?_;simp)|refine q_ ?_
    refine Qj tOk mixed [] (.val 0 (.val 1 (.val 2 (.val 3 (.val 4 (.val 5 (.val 6 (.val 7 (.val 8 (.val 9 (.val 10 (.val 11 (.val 12 (.val 13 (.val 14 (.val 15 (.val 16 (.val 17 (.val 18 (.val 19 (.val 20 (.val 21 (.val 22 (.val 23 (.val 24 (.val 25 (.one 26 (.one 27 (.val 28 (.val 29 (.done))))))))))))))))))))))))))))))) rfl (by kernel_rfl) ?_;simp[z1,za,z7];refine Qx rfl rfl ?_;simp[z7];repeat first|(refine r_ ?_;simp[z7])|refine q_ ?_
    refine Qx rfl rfl ?_;simp[z7];repeat first|(refine r_ ?_;simp[z7])|refine q_ ?_
    refine Qs rfl ?_;repeat first|(refine r_ ?_;simp[zi])|refine q_ ?_
    refine Qo _ (zh zd (zj z6)) rfl (by simp) ?_ (by simp) (by simp);simp
  ·have z8:k=j:=by simp at zc;omega
   subst z8;repeat first|(refine r_ ?_;simp[hw])|refine q_ ?_
   refine Qo _ (ih z1 (fun i hi k' ze=> ?_)) rfl (by simp) ?_ (by simp) (by simp)
   ·by_cases e:i=k
    ·subst e;exact zg k' ze
    ·exact hI i (by omega) k' ze
   ·simp
 ·have zf:j=a.mv.length:=by simp at zn;omega
  subst zf;repeat first|(refine r_ ?_;simp)|refine q_ ?_
  rw[Mr hI]
def x1a(a:Aut):Bool×Int:=if Wj a=0 then(Lc a,0)else(false,Wj a)
end Go.Abs
namespace Go.Abs
open Go Go.Proofs
def ovl(x y:Iv):Bool:=decide (x.lo≤y.hi) && decide (y.lo≤x.hi)
def noC(p q:Prd)(i:Nat):Prop:=∀x∈p.getD i [],∀y∈q.getD i [],ovl x y=false
theorem g0t{T:Nat}{p q:Prd}(hp:PWf T p)(hq:PWf T q)(h:∀i,i<p.length→noC p q i):q0b p q=false:=by rw[wH,Ne,Ks hp hq];rintro⟨t,n,⟨s,hs,x,hx,h1,h2⟩,⟨s',z1,y,hy,h3,h4⟩⟩;have ht:=(zA.1 hs).1;have:=h t ht x (by rw[yR,hs];exact hx) y (by rw[yR,z1];exact hy);simp only[ovl,Bool.and_eq_false_iff,decide_eq_false_iff_not]at this;omega
theorem w1k{T:Nat}{p q:Prd}(hp:PWf T p)(hq:PWf T q){i:Nat}(hi:i<p.length)(z1:i<q.length){x y:Iv}(hx:x∈p[i])(hy:y∈q[i])(h:ovl x y=true):q0b p q=true:=by
 rw[Ks hp hq];simp only[ovl,zR,decide_eq_true_eq]at h;have h1:=(hp.2 _ (zG hi)).1.1 x hx;have h2:=(hq.2 _ (zG z1)).1.1 y hy;by_cases hl:x.lo≤y.lo
 ·exact⟨i,y.lo,⟨p[i],zF hi,x,hx,hl,h.2⟩,⟨q[i],zF z1,y,hy,yG _,h2⟩⟩
 ·exact⟨i,x.lo,⟨p[i],zF hi,x,hx,yG _,h1⟩,⟨q[i],zF z1,y,hy,by omega,h.1⟩⟩
attribute [local irreducible] q0b
theorem g0w(T:Nat)(p q:Prd)(hp:PWf T p)(hq:PWf T q)(zj:∀s∈p,s.length≤1000000000)(zk:∀s∈q,s.length≤1000000000)(hT:T≤1000):PC Tryz.prog 136 [encP p,encP q] (fun r=>r= .bool (q0b p q)):=by
 refine Qh tOk Tryz.func136 rfl Tryz.results136 rfl (by simp[Tryz.ntmps136]) ?_;rw[Tryz.ntmps136];simp only[Qe];simp only[encP];have hlen:=hp.1;have zg:=hq.1;repeat first|(refine r_ ?_;simp)|refine q_ ?_
 refine Qr p.length (fun i=>∀i',i'<i→noC p q i') (fun i=>[(3,.vptr 1 0),(12,.list (p.map encL)),(13,.i p.length),(14,.i i)]) (fun _=>[.vars [.list (p.map encL)],.vars [.list (q.map encL)]]) rfl (by simp) (by simp) (by simp) (by simp) (by simp) ?_;intro i hi hI ih;repeat first|(refine r_ ?_;simp)|refine q_ ?_
 refine Qa rfl (fun zl=> ?_) (fun zm=> ?_)
 ·have z1:i<p.length:=by simpa using zl
  have z6:i<q.length:=by omega
  have hw:IntKind.i64.wrap ((i:Int)+1)=i+1:=wrap_i64 _ (by omega) (by omega);have zx:=zj _ (zG z1);have zy:=zk _ (zG z6);repeat first|(refine r_ ?_;simp[z1])|refine q_ ?_
  refine Qr p[i].length (fun u=>∀u',u'<u→∀h:u'<p[i].length,∀y∈q[i],ovl p[i][u'] y=false) (fun u=>[(3,.vptr 1 0),(5,.i i),(12,.list (p.map encL)),(13,.i p.length),(14,.i i),(19,LIv p[i]),(20,.i p[i].length),(21,.i u)]) (fun _=>[.vars [.list (p.map encL)],.vars [.list (q.map encL)]]) rfl (by simp) (by simp) (by simp) (by simp) (by simp) ?_;intro u hu zh zn;repeat first|(refine r_ ?_;simp)|refine q_ ?_
  refine Qa rfl (fun z7=> ?_) (fun z8=> ?_)
  ·have za:u<p[i].length:=by simpa using z7
   have zo:IntKind.i64.wrap ((u:Int)+1)=u+1:=wrap_i64 _ (by omega) (by omega);repeat first|(refine r_ ?_;simp[za,z6])|refine q_ ?_
   refine Qr q[i].length (fun v=>∀v',v'<v→∀h:v'<q[i].length,ovl p[i][u] q[i][v']=false) (fun v=>[(3,.vptr 1 0),(5,.i i),(8,.vptr 2 0),(12,.list (p.map encL)),(13,.i p.length),(14,.i i),(19,LIv p[i]),(20,.i p[i].length),(21,.i u),(29,LIv q[i]),(30,.i q[i].length),(31,.i v)]) (fun _=>[.vars [.list (p.map encL)],.vars [.list (q.map encL)],.vars [.i p[i][u].lo,.i p[i][u].hi]]) rfl (by simp) (by simp) (by simp) (by simp) (by simp) ?_;intro v hv zi zp;repeat first|(refine r_ ?_;simp)|refine q_ ?_
   refine Qa rfl (fun zb=> ?_) (fun zc=> ?_)
   ·have zd:v<q[i].length:=by simpa using zb
    have zq:IntKind.i64.wrap ((v:Int)+1)=v+1:=wrap_i64 _ (by omega) (by omega);repeat first|(refine r_ ?_;simp[zd])|refine q_ ?_
    refine Qa rfl (fun h=> ?_) (fun h=> ?_)
    ·repeat first|(refine r_ ?_;simp)|refine q_ ?_
     rw[w1k hp hq z1 z6 (zG za) (zG zd) (by simpa[ovl]using h)]
    ·repeat first|(refine r_ ?_;simp[zq])|refine q_ ?_
     refine Qo _ (zp zd (fun v' ze zr=> ?_)) rfl (by simp) ?_ (by simp) (by simp)
     ·by_cases e:v'=v
      ·subst e;simpa[ovl]using h
      ·exact zi v' (by omega) zr
     ·simp
   ·have zt:v=q[i].length:=by simp at zc;omega
    subst zt;repeat first|(refine r_ ?_;simp[zo])|refine q_ ?_
    refine Qo _ (zn za (fun u' zf zu y hy=> ?_)) rfl (by simp) ?_ (by simp) (by simp)
    ·by_cases e:u'=u
     ·subst e;obtain⟨v',ze,rfl⟩:=yH hy;exact zi v' ze ze
     ·exact zh u' (by omega) zu y hy
    ·simp
  ·have zv:u=p[i].length:=by simp at z8;omega
   subst zv;repeat first|(refine r_ ?_;simp[hw])|refine q_ ?_
   refine Qo _ (ih z1 (fun i' zz=> ?_)) rfl (by simp) ?_ (by simp) (by simp)
   ·by_cases e:i'=i
    ·subst e;intro x hx y hy;rw[Ww z1]at hx;rw[Ww z6]at hy;obtain⟨u',zf,rfl⟩:=yH hx;exact zh u' zf zf y hy
    ·exact hI i' (by omega)
   ·simp
 ·have zw:i=p.length:=by simp at zm;omega
  subst zw;repeat first|(refine r_ ?_;simp)|refine q_ ?_
  rw[g0t hp hq hI]
attribute [local irreducible] V0
theorem f1b(a:Aut):PC Tryz.prog 73 [encA a] (fun r=>r= .tup [.bool (x1a a).1,.i (x1a a).2]):=by
 refine Qh tOk Tryz.func73 rfl Tryz.results73 rfl (by simp[Tryz.ntmps73]) ?_;rw[Tryz.ntmps73];simp only[Qe];simp only[encA];repeat first|(refine r_ ?_;simp)|refine q_ ?_
 refine Qc rfl rfl (by simp) (U5 a) rfl ?_;rintro _ rfl;simp;repeat first|(refine r_ ?_;simp)|refine q_ ?_
 refine Qa rfl (fun h=> ?_) (fun h=> ?_)
 ·repeat first|(refine r_ ?_;simp)|refine q_ ?_
  rw[x1a,if_neg (by simpa using h)];exact⟨rfl,rfl⟩
 have h0:Wj a=0:=by simpa using h
 have z8:=(Oc a).1 h0;have zt:=z8.mvs;rw[x1a,if_pos h0];repeat first|(refine r_ ?_;simp)|refine q_ ?_
 refine Qr a.mv.length (fun j=>∀i,i<j→∀k,k<i→V0 a i k=false) (fun j=>[(1,.vptr 0 0),(15,.list (a.mv.map encMv)),(16,.i a.mv.length),(17,.i j)]) (fun _=>[.vars (Qp a)]) rfl (by simp) (by simp) (by simp) (by simp) (by simp) ?_;intro j hj hI ih;repeat first|(refine r_ ?_;simp)|refine q_ ?_
 refine Qa rfl (fun zq=> ?_) (fun zr=> ?_)
 ·have z1:j<a.mv.length:=by simpa using zq
  have hw:IntKind.i64.wrap ((j:Int)+1)=j+1:=wrap_i64 _ (by omega) (by omega);have ze:j≤a.mv.length:=hj;have z7:min j a.mv.length=j:=by omega
  repeat first|(refine r_ ?_;simp[z1,ze,z7])|refine q_ ?_
  refine Qr j (fun k=>∀k',k'<k→V0 a j k'=false) (fun k=>[(1,.vptr 0 0),(6,.vptr 1 0),(15,.list (a.mv.map encMv)),(16,.i a.mv.length),(17,.i j),(25,.list (tI j (a.mv.map encMv))),(26,.i j),(27,.i k)]) (fun _=>[.vars (Qp a),.vars [.i a.mv[j].src,.i a.mv[j].dst,.list (a.mv[j].on.map encL)]]) rfl (by simp) (by simp) (by simp) (by simp) (by simp) ?_;intro k hk zj zk;repeat first|(refine r_ ?_;simp)|refine q_ ?_
  refine Qa rfl (fun zf=> ?_) (fun zg=> ?_)
  ·have za:k<j:=by simpa using zf
   have zb:k<a.mv.length:=by omega
   have zl:IntKind.i64.wrap ((k:Int)+1)=k+1:=wrap_i64 _ (by omega) (by omega);have z6:=M6 (a:=a) z1 zb;have zm:V0 a j k=false→∀k',k'<k+1→V0 a j k'=false:=fun hb k' zh=>by
    by_cases e:k'=k
    ·rw[e];exact hb
    ·exact zj k' (by omega)
   have zn:(tI j (a.mv.map encMv))[k]? =some (encMv a.mv[k]):=by rw[List.getElem?_take_of_lt za];simp[zb]
   by_cases he:a.mv[j].src=a.mv[k].src
   ·rw[decide_eq_true he,wV]at z6;have zc:(a.mv[j].src==a.mv[k].src)=true:=by simpa using he
    repeat first|(refine r_ ?_;simp[zn,za,zb,z7,zc])|refine q_ ?_
    have zo:=zG z1;have zp:=zG zb;refine Qc rfl rfl (by simp) (g0w a.types.toNat a.mv[j].on a.mv[k].on (z8.mv _ zo).on.wf (z8.mv _ zp).on.wf (fun s hs=>by have:=Py z8 zo s hs;omega) (fun s hs=>by have:=Py z8 zp s hs;omega) (by have:=z8.types;omega)) rfl ?_;rintro _ rfl;simp;repeat first|(refine r_ ?_;simp)|refine q_ ?_
    refine Qa rfl (fun h3=> ?_) (fun h3=> ?_)
    ·repeat first|(refine r_ ?_;simp)|refine q_ ?_
     rw[Xb z1 za (by rw[z6];simpa using h3)]
    ·repeat first|(refine r_ ?_;simp[zl])|refine q_ ?_
     refine Qo _ (zk za (zm (by rw[z6];simpa using h3))) rfl (by simp) ?_ (by simp) (by simp);simp
   ·rw[decide_eq_false he,vY]at z6;have zc:(a.mv[j].src==a.mv[k].src)=false:=beq_eq_false_iff_ne.2 he;repeat first|(refine r_ ?_;simp[zn,za,zb,z7,zc])|refine q_ ?_
    refine Qx rfl rfl ?_;simp[zc];repeat first|(refine r_ ?_;simp[zc])|refine q_ ?_
    refine Qs rfl ?_;repeat first|(refine r_ ?_;simp[zl])|refine q_ ?_
    refine Qo _ (zk za (zm z6)) rfl (by simp) ?_ (by simp) (by simp);simp
  ·have zd:k=j:=by simp at zg;omega
   subst zd;repeat first|(refine r_ ?_;simp[hw])|refine q_ ?_
   refine Qo _ (ih z1 (fun i hi k' zh=> ?_)) rfl (by simp) ?_ (by simp) (by simp)
   ·by_cases e:i=k
    ·subst e;exact zj k' zh
    ·exact hI i (by omega) k' zh
   ·simp
 ·have zi:j=a.mv.length:=by simp at zr;omega
  subst zi;repeat first|(refine r_ ?_;simp)|refine q_ ?_
  rw[Mr hI]
end Go.Abs
namespace Go.Abs
open Go Go.Proofs
abbrev LI (l:List Int):AV:= .list (l.map (AV.int .i64))
def j0q{α:Type}(f:α→Bool)(l:List α):Int:=match l.findIdx? f with|some i=>i|none=> -1
theorem V1{α:Type}{f:α→Bool}{l:List α}{j:Nat}(hj:j<l.length)(h:f l[j]=true)(hb:∀i,∀hi:i<l.length,i<j→f l[i]=false):j0q f l=j:=by unfold j0q;rw[wp.2 ⟨hj,h,fun i hi=>by rw[hb i (by omega) hi];simp⟩]
theorem Zw{α:Type}{f:α→Bool}{l:List α}(hb:∀i,∀hi:i<l.length,i<l.length→f l[i]=false):j0q f l= -1:=by unfold j0q;rw[ur.2 (fun x hx=>by obtain⟨i,hi,rfl⟩:=yH hx;exact hb i hi hi)]
theorem k0j{α:Type}(f:α→Bool)(l:List α):decide (0≤j0q f l)=l.any f:=by
 unfold j0q;cases h:l.findIdx? f with
 |none=>
  rw[ur]at h;have:l.any f=false:=by rw[wU];intro x hx;rw[h x hx];simp
  rw[this];rfl
 |some i=>obtain⟨h1,h2,_⟩:=wp.1 h;have:l.any f=true:=wR.2 ⟨_,zG h1,h2⟩;rw[this];simp
theorem c0u(l:List Int)(v:Int):PC Tryz.prog 118 [LI l,.i v] (fun r=>r= .i (j0q (fun y=>v==y) l)):=by
 refine Qh tOk Tryz.func118 rfl Tryz.results118 rfl (by simp[Tryz.ntmps118]) ?_;rw[Tryz.ntmps118];simp only[Qe];refine Rq 0 rfl (fun hlen=> ?_);rw[zV]at hlen;repeat first|(refine r_ ?_;simp)|refine q_ ?_
 refine Qr l.length (fun j=>∀i,∀hi:i<l.length,i<j→(v==l[i])=false) (fun j=>[(0,LI l),(1,.i v),(7,.i l.length),(8,.i j)]) (fun _=>[]) rfl (by simp) (by simp) (by simp) (by simp) (by simp) ?_;intro j hj hI ih;repeat first|(refine r_ ?_;simp)|refine q_ ?_
 refine Qa rfl (fun z7=> ?_) (fun z8=> ?_)
 ·have z1:j<l.length:=by simpa using z7
  have hw:IntKind.i64.wrap ((j:Int)+1)=j+1:=wrap_i64 _ (by omega) (by omega);repeat first|(refine r_ ?_;simp[z1])|refine q_ ?_
  refine Qa rfl (fun h=> ?_) (fun h=> ?_)
  ·repeat first|(refine r_ ?_;simp)|refine q_ ?_
   rw[V1 (f:=fun y=>v==y) z1 h hI]
  ·repeat first|(refine r_ ?_;simp[hw])|refine q_ ?_
   refine Qo _ (ih z1 (fun i hi za=> ?_)) rfl (by simp) ?_ (by simp) (by simp)
   ·by_cases e:i=j
    ·subst e;exact h
    ·exact hI i hi (by omega)
   ·simp
 ·have z6:j=l.length:=by simp at z8;omega
  subst z6;repeat first|(refine r_ ?_;simp)|refine q_ ?_
  rw[Zw (f:=fun y=>v==y) hI]
theorem De(l:List Int)(v:Int):PC Tryz.prog 169 [LI l,.i v] (fun r=>r= .bool (l.contains v)):=by
 refine Qh tOk Tryz.func169 rfl Tryz.results169 rfl (by simp[Tryz.ntmps169]) ?_;rw[Tryz.ntmps169];simp only[Qe];repeat first|(refine r_ ?_;simp)|refine q_ ?_
 refine Qc rfl rfl (by simp) (c0u l v) rfl ?_;rintro _ rfl;simp;repeat first|(refine r_ ?_;simp)|refine q_ ?_
 have:=k0j (fun y=>v==y) l;rw[yV]at this;simpa using this
structure SL (K G:List AObj) (p e sz:Nat) (xs:List AV):Prop where
 arr:G[p]? =some (.arr e sz xs)
 ge:K.length≤p
 keep:∀j,j<K.length→G[j]? =K[j]?
theorem SL.kp{K G:List AObj}{p e sz:Nat}{xs:List AV}(h:SL K G p e sz xs){j:Nat}{x:AObj}(hx:K[j]? =some x):G[j]? =some x:=by rw[h.keep j (zA.1 hx).1];exact hx
theorem SL.start(K:List AObj)(e sz:Nat):SL K (K++[AObj.arr e sz []]) K.length e sz []:=
 ⟨by simp,zI _,fun j hj=>zE hj⟩
theorem SL.add{K G:List AObj}{p e sz:Nat}{xs:List AV}(h:SL K G p e sz xs)(L:List AObj):SL K (G++L) p e sz xs:=
 ⟨by rw[zE (zA.1 h.arr).1];exact h.arr,h.ge,fun j hj=>by
  rw[zE (by have:=(zA.1 h.arr).1;have:=h.ge;omega)];exact h.keep j hj⟩
theorem SL.put{K G:List AObj}{p e sz:Nat}{xs:List AV}(h:SL K G p e sz xs)(L:List AObj)(ys:List AV){n:Nat}(hn:n=G.length+L.length):SL K (G.set p .dead++(L++[AObj.arr e sz ys])) n e sz ys:=by have hp:=(zA.1 h.arr).1;have z1:=h.ge;subst hn;refine⟨by rw[zC (by simp),zC (by simp)];simp,by omega,fun j hj=> ?_⟩;rw[zE (by simp;omega),zB (by omega)];exact h.keep j hj
theorem SL.at{K G:List AObj}{p e sz:Nat}{xs:List AV}(h:SL K G p e sz xs){j:Nat}{x:AObj}(hx:K[j]? =some x)(L:List AObj):(G.set p .dead++L)[j]? =some x:=by have hj:=(zA.1 hx).1;have hp:=(zA.1 h.arr).1;have z1:=h.ge;rw[zE (by simp;omega),zB (by omega),h.keep j hj];exact hx
theorem SL.at'{K G:List AObj}{p e sz:Nat}{xs:List AV}(h:SL K G p e sz xs){j:Nat}{x:AObj}(hx:K[j]? =some x)(L:List AObj):(G++L)[j]? =some x:=(h.add L).kp hx
def d03(l:List Int)(x:Sy)(m:Mv):Bool:=l.contains m.src && E5 m.on x
def Z0(l:List Int)(x:Sy)(ms:List Mv):List Int:=(ms.filter (d03 l x)).map (·.dst)
theorem f03(l:List Int)(x:Sy)(ms:List Mv)(j:Nat)(h:j<ms.length):Z0 l x (ms.take (j+1))=Z0 l x (ms.take j)++(if d03 l x ms[j]then [ms[j].dst]else []):=by unfold Z0;rw[zJ h,uU,yM];cases h:d03 l x ms[j]<;>simp[h]
theorem q0o(l:List Int)(x:Sy)(ms:List Mv):(Z0 l x ms).length≤ms.length:=by unfold Z0;rw[zV];exact List.length_filter_le _ _
theorem c0w(a:Aut)(l:List Int)(x:Sy):Lib.compact (Rp (Z0 l x a.mv))=u19 a l x:=rfl
theorem z16(l:List Int)(x:Sy):Z0 l x []=[]:=rfl
attribute [local irreducible] Z0 Zx Rp Lib.compact
theorem Vf(a:Aut)(ha:OkA a)(l:List Int)(x:Sy)(hx:Wy a x):PC Tryz.prog 108 [encA a,LI l,encSy x] (fun r=>r=LI (Q0 a l x)):=by
 refine Qh tOk Tryz.func108 rfl Tryz.results108 rfl (by simp[Tryz.ntmps108]) ?_;rw[Tryz.ntmps108];simp only[Qe];simp only[encA,encSy];have zh:=ha.mvs;have hF:∀m∈a.mv,Zx m.on x=(E5 m.on x,0):=fun m hm=>by rw[Nj ((Ea a.types m.on).2 ⟨ha.types,(ha.mv m hm).on⟩),if_neg (fun k=>k ((Dy _ _).2 hx))]
 repeat first|(refine r_ ?_;simp)|refine q_ ?_
 refine Q6 7 3 1 rfl ?_;simp;refine Ql (Qb (sl':=[(1,LI l),(3,.vptr 0 0),(5,.vptr 1 0),(7,.sl 2 1 0 (Z0 l x (a.mv.take 0)).length),(11,.list (a.mv.map encMv)),(12,.i a.mv.length),(13,.i 0)]) ?_ (by simp[Z0]));obtain⟨K,hK⟩:∃K,K=[AObj.vars (Qp a),AObj.vars [AV.i x.ty,AV.i x.num]]:=⟨_,rfl⟩
 have z8:K[1]? =some (AObj.vars [AV.i x.ty,AV.i x.num]):=by rw[hK];rfl
 have hst:=SL.start K 3 1;refine Qm (F:=fun(u:Nat×Nat×List AObj)=>⟨[(1,LI l),(3,.vptr 0 0),(5,.vptr 1 0),(7,.sl u.2.1 1 0 (Z0 l x (a.mv.take u.1)).length),(11,.list (a.mv.map encMv)),(12,.i a.mv.length),(13,.i u.1)],u.2.2⟩)
  (fun u=>u.1≤a.mv.length∧SL K u.2.2 u.2.1 3 1 ((Z0 l x (a.mv.take u.1)).map (AV.int .i64))) (fun u=>a.mv.length - u.1) ?_ (0,2,_) ⟨by simp,by rw[xU,z16];rw[hK]at hst ⊢;exact hst⟩
 rintro⟨j,q,H2⟩ ⟨hj,g⟩ ih;simp only at hj g ih ⊢;have g1:=g.kp z8;repeat first|(refine r_ ?_;simp)|refine q_ ?_
 refine Qa rfl (fun zb=> ?_) (fun zc=> ?_)
 ·have z1:j<a.mv.length:=by simpa using zb
  have hw:IntKind.i64.wrap ((j:Int)+1)=j+1:=wrap_i64 _ (by omega) (by omega);have zd:=f03 l x a.mv j z1;have za:=q0o l x (a.mv.take j);rw[yY]at za;have ze:=hF _ (zG z1);have z6:=fun q' H'=>ih (j+1,q',H');simp only[zd]at z6;generalize Z0 l x (a.mv.take j)=acc at *
  have gL:=fun L=>g.at' z8 L;repeat first|(refine r_ ?_;simp[z1])|refine q_ ?_
  by_cases hb:a.mv[j].src∈l
  ·have zf:l.contains a.mv[j].src=true:=by simpa using hb
   refine Qc rfl rfl (by simp) (De l a.mv[j].src) rfl ?_;rintro _ rfl;simp[hb,gL];repeat first|(refine r_ ?_;simp[gL])|refine q_ ?_
   refine Qc rfl rfl (by simp) (x12 a.mv[j].on x) rfl ?_;rintro _ rfl;simp[ze];repeat first|(refine r_ ?_;simp)|refine q_ ?_
   cases hb2:E5 a.mv[j].on x with
   |false=>
    have hh:d03 l x a.mv[j]=false:=by rw[d03,hb2];simp
    refine Qs rfl ?_;simp[hb2];repeat first|(refine r_ ?_;simp[hw])|refine q_ ?_
    refine Qb (sl':=[(1,LI l),(3,.vptr 0 0),(5,.vptr 1 0),(7,.sl q 1 0 acc.length),(11,.list (a.mv.map encMv)),(12,.i a.mv.length),(13,.i (j+1:Nat))]) ?_ (by simp);have:=z6 q _ ⟨by omega,by rw[hh];simpa using g.add [AObj.vars [AV.i a.mv[j].src,AV.i a.mv[j].dst,AV.list (a.mv[j].on.map encL)]]⟩ (by omega);rw[hh]at this;simpa using this
   |true=>
    have hh:d03 l x a.mv[j]=true:=by rw[d03,zf,hb2];rfl
    refine Qs rfl ?_;simp[hb2];repeat first|(refine r_ ?_;simp)|refine q_ ?_
    refine Qf tOk rfl rfl T47 rfl T3 rfl (by decide) (by decide) rfl rfl rfl ?_;simp[Qd g.arr,Qk g.arr];refine⟨by simp[Wu,Qd g.arr,Qk g.arr]<;>omega,?_⟩;repeat first|(refine r_ ?_;simp[hw])|refine q_ ?_
    refine Qb (sl':=[(1,LI l),(3,.vptr 0 0),(5,.vptr 1 0),(7,.sl (H2.length+2) 1 0 (acc.length+1)),(11,.list (a.mv.map encMv)),(12,.i a.mv.length),(13,.i (j+1:Nat))]) ?_ (by simp);have:=z6 (H2.length+2) _ ⟨by omega,by rw[hh];exact g.put [AObj.vars [AV.i a.mv[j].src,AV.i a.mv[j].dst,AV.list (a.mv[j].on.map encL)],AObj.arr 3 1 [AV.i a.mv[j].dst]] _ rfl⟩ (by omega);rw[hh]at this;simpa using this
  ·have hh:d03 l x a.mv[j]=false:=by simp[d03,hb]
   refine Qc rfl rfl (by simp) (De l a.mv[j].src) rfl ?_;rintro _ rfl;simp[hb,gL];refine Qx rfl rfl ?_;simp[hb];refine Qs rfl ?_;repeat first|(refine r_ ?_;simp[hw])|refine q_ ?_
   refine Qb (sl':=[(1,LI l),(3,.vptr 0 0),(5,.vptr 1 0),(7,.sl q 1 0 acc.length),(11,.list (a.mv.map encMv)),(12,.i a.mv.length),(13,.i (j+1:Nat))]) ?_ (by simp);have:=z6 q _ ⟨by omega,by rw[hh];simpa using g.add [AObj.vars [AV.i a.mv[j].src,AV.i a.mv[j].dst,AV.list (a.mv[j].on.map encL)]]⟩ (by omega);rw[hh]at this;simpa using this
 ·have z7:j=a.mv.length:=by simp at zc;omega
  subst z7;rw[zX]at g ⊢;have za:=q0o l x a.mv;repeat first|(refine r_ ?_;simp)|refine q_ ?_
  refine We rfl rfl (H6 H2 q (Z0 l x a.mv) g.arr (by omega)) rfl ?_;rintro r H' ⟨rfl,rfl⟩;simp;repeat first|(refine r_ ?_;simp)|refine q_ ?_
  have g2:=Qq g.arr (.arr 3 1 ((Rp (Z0 l x a.mv)).map (AV.int .i64)));have zg:=U3 (Z0 l x a.mv);rw[←zg];refine We rfl rfl (Af _ q (Rp (Z0 l x a.mv)) g2 (by omega) (Uj _)) rfl ?_;rintro r H' ⟨rfl,G,rfl⟩;simp;have g3:=Qq g.arr (.arr 3 1 ((Lib.compact (Rp (Z0 l x a.mv))++G).map (AV.int .i64)));rw[c0w,u1r (fun m hm=>(ha.mv m hm).dst)]at *
  repeat first|(refine r_ ?_;simp)|refine q_ ?_
  rw[yM]at g3;simp[g3]
end Go.Abs
namespace Go.Abs
open Go Go.Proofs
theorem u09(H:List AObj)(l:List Int)(g:Nat)(cap:AV)(f:Int→Bool)(hl:l.length≤1000000000)(hg:∀z∈l,FC Tryz.prog g [.i z,cap] H (fun r H'=>r= .bool (f z)∧H'=H)):
  FC Tryz.prog 106 [LI l,.fn (.func g) [] [cap]] H (fun r H'=>r= .i (j0q f l)∧H'=H):=by
 refine Ef tOk Tryz.func106 rfl Tryz.results106 rfl (by simp[Tryz.ntmps106]) ?_;rw[Tryz.ntmps106];simp only[Qe];repeat first|(refine r_ ?_;simp)|refine q_ ?_
 refine Ql (Qb (sl':=[(0,LI l),(1,.fn (.func g) [] [cap]),(7,.i l.length),(8,.i 0)]) ?_ (by simp));refine Qm (F:=fun(j:Nat)=>⟨[(0,LI l),(1,.fn (.func g) [] [cap]),(7,.i l.length),(8,.i j)],H⟩)
  (fun j=>j≤l.length∧∀i,∀hi:i<l.length,i<j→f l[i]=false) (fun j=>l.length - j) ?_ 0 ⟨by simp,by simp⟩
 rintro j ⟨hj,hI⟩ ih;repeat first|(refine r_ ?_;simp)|refine q_ ?_
 refine Qa rfl (fun z7=> ?_) (fun z8=> ?_)
 ·have z1:j<l.length:=by simpa using z7
  have hw:IntKind.i64.wrap ((j:Int)+1)=j+1:=wrap_i64 _ (by omega) (by omega);repeat first|(refine r_ ?_;simp[z1])|refine q_ ?_
  refine We rfl rfl (hg _ (zG z1)) rfl ?_;rintro r H' ⟨rfl,rfl⟩;simp;repeat first|(refine r_ ?_;simp)|refine q_ ?_
  refine Qa rfl (fun h=> ?_) (fun h=> ?_)
  ·repeat first|(refine r_ ?_;simp)|refine q_ ?_
   rw[V1 z1 h hI]
  ·repeat first|(refine r_ ?_;simp[hw])|refine q_ ?_
   refine Qb (sl':=[(0,LI l),(1,.fn (.func g) [] [cap]),(7,.i l.length),(8,.i (j+1:Nat))]) (ih (j+1) ⟨by omega,fun i hi za=> ?_⟩ (by omega)) (by simp);by_cases e:i=j
   ·subst e;exact h
   ·exact hI i hi (by omega)
 ·have z6:j=l.length:=by simp at z8;omega
  subst z6;repeat first|(refine r_ ?_;simp)|refine q_ ?_
  rw[Zw hI]
theorem Xi(H:List AObj)(l:List Int)(g:Nat)(cap:AV)(f:Int→Bool)(hl:l.length≤1000000000)(hg:∀z∈l,FC Tryz.prog g [.i z,cap] H (fun r H'=>r= .bool (f z)∧H'=H)):
  FC Tryz.prog 47 [LI l,.fn (.func g) [] [cap]] H (fun r H'=>r= .bool (l.any f)∧H'=H):=by
 refine Ef tOk Tryz.func47 rfl Tryz.results47 rfl (by simp[Tryz.ntmps47]) ?_;rw[Tryz.ntmps47];simp only[Qe];repeat first|(refine r_ ?_;simp)|refine q_ ?_
 refine We rfl rfl (u09 H l g cap f hl hg) rfl ?_;rintro r H' ⟨rfl,rfl⟩;simp;repeat first|(refine r_ ?_;simp)|refine q_ ?_
 rw[←k0j]
def x2c(a:Aut)(s:Int):Bool:=decide (s<0) || decide ((a.fin.length:Int)≤s)
attribute [local irreducible] x2c
end Go.Abs
namespace Go.Abs
open Go Go.Proofs
attribute [simp] T4
def T8(n:Nat)(f:Int→Bool):List AV:=(Wp n).map fun z=>AV.bool (f z)
theorem R6(n:Nat)(f:Int→Bool):(T8 n f).length=n:=by simp[T8,Wp]
theorem Zl(n:Nat)(f:Int→Bool){i:Nat}(h:i<n):(T8 n f)[i]? =some (AV.bool (f i)):=by simp[T8,Wp,h]
theorem D9(n:Nat)(f:Int→Bool){i:Nat}(h:i<(T8 n f).length):(T8 n f)[i]=AV.bool (f i):=by have h2:=Zl n f (i:=i) (by rw[R6]at h;exact h);rw[zF h]at h2;exact Option.some.inj h2
theorem q0p(n:Nat):zT n (AV.bool false)=T8 n (fun _=>false):=by
 refine xA fun i=> ?_;by_cases h:i<n
 ·rw[Zl n _ h];simp[h]
 ·rw[xC (by simp;omega),xC (by rw[R6];omega)]
theorem x0v(n:Nat)(f:Int→Bool)(s:Int)(h0:0≤s)(h1:s<n):(T8 n f).set s.toNat (AV.bool true)=T8 n (fun z=>f z || z==s):=by
 refine xA fun i=> ?_;by_cases h:i<n
 ·rw[Zl n _ h];by_cases e:s.toNat=i
  ·rw[e,zH (by rw[R6];exact h)];have:((i:Int)==s)=true:=by simp;omega
   rw[this,Bool.or_true]
  ·rw[zB e,Zl n _ h];have:((i:Int)==s)=false:=beq_eq_false_iff_ne.2 (by omega);rw[this,Bool.or_false]
 ·rw[xC (by simp[R6];omega),xC (by rw[R6];omega)]
theorem Pm(n:Nat){f g:Int→Bool}(h:∀z,f z=g z):T8 n f=T8 n g:=by rw[show f=g from funext h]
attribute [local irreducible] T8
def w1l(n:Nat)(f:Int→Bool):List Int:=(Wp n).filter f
attribute [local irreducible] w1l
end Go.Abs
namespace Go.Abs
open Go Go.Proofs
def nxB(ms:List Mv)(f:Int→Bool)(x:Sy)(z:Int):Bool:=ms.any fun m=>f m.src && E5 m.on x && m.dst==z
theorem q03(ms:List Mv)(f:Int→Bool)(x:Sy)(j:Nat)(h:j<ms.length)(z:Int):nxB (ms.take (j+1)) f x z=(nxB (ms.take j) f x z || (f ms[j].src && E5 ms[j].on x && ms[j].dst==z)):=by unfold nxB;rw[zJ h,List.any_append];simp
theorem d0b(a:Aut)(l:List Int)(x:Sy):nxB a.mv (fun z=>decide (z∈l)) x=g0e a l x:=by
 funext z;unfold nxB g0e
 congr 1
 funext m;rw[yV];simp
attribute [local irreducible] E5 nxB
theorem q08(a:Aut)(ha:OkA a)(f:Int→Bool)(x:Sy):PC Tryz.prog 153 [encA a,.list (T8 a.fin.length f),encSy x] (fun r=>r= .list (T8 a.fin.length (nxB a.mv f x))):=by
 refine Qh tOk Tryz.func153 rfl Tryz.results153 rfl (by simp[Tryz.ntmps153]) ?_;rw[Tryz.ntmps153];simp only[Qe];simp only[encA,encSy];have hf:=ha.fin;have hm:=ha.mvs;have zb:=R6 a.fin.length f;repeat first|(refine r_ ?_;simp[zb])|refine q_ ?_
 refine Ep tOk rfl rfl rfl T22 rfl T4 rfl rfl rfl (n:=a.fin.length) (by simp;omega) (by unfold maxLen;omega) (.bool false) rfl ?_;simp;rw[q0p];repeat first|(refine r_ ?_;simp)|refine q_ ?_
 have h0:T8 a.fin.length (fun _=>false)=T8 a.fin.length (nxB (a.mv.take 0) f x):=Pm _ fun z=>by rw[xU];unfold nxB;rfl
 rw[h0];refine Ql (Qb (sl':=[(1,.list (T8 a.fin.length f)),(3,.vptr 0 0),(5,.vptr 1 0),(7,.sl 2 1 0 a.fin.length),(8,.i 0)]) ?_ (by simp));refine Qm (F:=fun(u:Nat×List AObj)=>⟨[(1,.list (T8 a.fin.length f)),(3,.vptr 0 0),(5,.vptr 1 0),(7,.sl 2 1 0 a.fin.length),(8,.i u.1)],u.2⟩)
  (fun u=>u.1≤a.mv.length∧u.2[0]? =some (.vars (Qp a))∧u.2[1]? =some (.vars [.i x.ty,.i x.num])∧u.2[2]? =some (.arr 4 1 (T8 a.fin.length (nxB (a.mv.take u.1) f x)))) (fun u=>a.mv.length - u.1) ?_ (0,_) ⟨by simp,rfl,rfl,rfl⟩
 rintro⟨j,H2⟩ ⟨hj,g0,g1,g2⟩ ih;simp only at hj g0 g1 g2 ih ⊢;repeat first|(refine r_ ?_;simp[g0])|refine q_ ?_
 refine Qa rfl (fun zg=> ?_) (fun zh=> ?_)
 ·have z1:j<a.mv.length:=by simpa using zg
  have hw:IntKind.i64.wrap ((j:Int)+1)=j+1:=wrap_i64 _ (by omega) (by omega);have zf:=ha.mv _ (zG z1);obtain⟨s0,s1⟩:=zf.src;obtain⟨d0,d1⟩:=zf.dst;have s2:a.mv[j].src.toNat<a.fin.length:=by omega
  have d2:a.mv[j].dst.toNat<a.fin.length:=by omega
  have zc:=x0v a.fin.length (nxB (a.mv.take j) f x) a.mv[j].dst d0 d1;have zd:((a.mv[j].src.toNat:Nat):Int)=a.mv[j].src:=by omega
  have z8:=fun(hh:a.mv[j].src.toNat<(T8 a.fin.length f).length)=>(D9 a.fin.length f (i:=a.mv[j].src.toNat) hh).trans (by rw[zd]);have zi:=fun(hh:a.mv[j].dst.toNat<(T8 a.fin.length (nxB (a.mv.take j) f x)).length)=>D9 a.fin.length (nxB (a.mv.take j) f x) (i:=a.mv[j].dst.toNat) hh;have zj:T8 a.fin.length (nxB (a.mv.take (j+1)) f x)=if f a.mv[j].src && E5 a.mv[j].on x then(T8 a.fin.length (nxB (a.mv.take j) f x)).set a.mv[j].dst.toNat (AV.bool true)else T8 a.fin.length (nxB (a.mv.take j) f x):=by
   split
   ·rename_i hc;rw[zc];exact Pm _ fun z=>by rw[q03 _ _ _ _ z1,hc,wV];rw[show(a.mv[j].dst==z)=(z==a.mv[j].dst) from yV.2 (by simp only[beq_iff_eq];exact eq_comm)]
   ·rename_i hc;exact Pm _ fun z=>by rw[q03 _ _ _ _ z1,show(f a.mv[j].src && E5 a.mv[j].on x)=false by simpa using hc];simp
  have z6:=fun G'=>ih (j+1,G');simp only[zj]at z6;have z7:=R6 a.fin.length (nxB (a.mv.take j) f x);generalize T8 a.fin.length (nxB (a.mv.take j) f x)=bs at *
  have gL1:=fun L=>Qd g1 L;have gL2:=fun L=>Qd g2 L;have gL0:=fun L=>Qd g0 L;cases hb:f a.mv[j].src with
  |false=>
   rw[hb]at z8;repeat first|(refine r_ ?_;simp[g0,z1,s0,s1,s2,zb,z8,gL1])|refine q_ ?_
   refine Qx rfl rfl ?_;simp;refine Qs rfl ?_;repeat first|(refine r_ ?_;simp[hw])|refine q_ ?_
   rw[hb,vY,if_neg (by simp)]at z6;exact Qb (sl':=[(1,.list (T8 a.fin.length f)),(3,.vptr 0 0),(5,.vptr 1 0),(7,.sl 2 1 0 a.fin.length),(8,.i (j+1:Nat))]) (z6 _ ⟨by omega,gL0 _,gL1 _,gL2 _⟩ (by omega)) (by simp)
  |true=>
   rw[hb]at z8;repeat first|(refine r_ ?_;simp[g0,z1,s0,s1,s2,zb,z8,gL1])|refine q_ ?_
   refine Qc rfl rfl (by simp) (M4 a.mv[j].on x (fun s hs=>by have:=Py ha (zG z1) s hs;omega)) rfl ?_;rintro _ rfl;simp;cases za:E5 a.mv[j].on x with
   |false=>
    rw[hb,za,wV,if_neg (by simp)]at z6;repeat first|(refine r_ ?_;simp[za])|refine q_ ?_
    refine Qs rfl ?_;repeat first|(refine r_ ?_;simp[hw])|refine q_ ?_
    exact Qb (sl':=[(1,.list (T8 a.fin.length f)),(3,.vptr 0 0),(5,.vptr 1 0),(7,.sl 2 1 0 a.fin.length),(8,.i (j+1:Nat))]) (z6 _ ⟨by omega,gL0 _,gL1 _,gL2 _⟩ (by omega)) (by simp)
   |true=>
    rw[hb,za,wV,if_pos rfl]at z6;repeat first|(refine r_ ?_;simp[za])|refine q_ ?_
    refine Qs rfl ?_;repeat first|(refine r_ ?_;simp[gL1,gL2,d0,d1,d2,z7,zi,hw])|refine q_ ?_
    exact Qb (sl':=[(1,.list (T8 a.fin.length f)),(3,.vptr 0 0),(5,.vptr 1 0),(7,.sl 2 1 0 a.fin.length),(8,.i (j+1:Nat))]) (z6 _ ⟨by omega,Qg (by decide) (gL0 _) _,Qg (by decide) (gL1 _) _,Qq (gL2 _) _⟩ (by omega)) (by simp)
 ·have ze:j=a.mv.length:=by simp at zh;omega
  subst ze;rw[zX]at g2;have z7:=R6 a.fin.length (nxB a.mv f x);repeat first|(refine r_ ?_;simp[g2,z7])|refine q_ ?_
  rw[zM (by omega)]
end Go.Abs
namespace Go.Abs
open Go Go.Proofs
attribute [local irreducible] nxB w1l Az
attribute [local irreducible] E7
theorem Ci(a:Aut)(hl:a.mv.length≤1000000):PC Tryz.prog 204 [encA a] (fun r=>r=LP (onA a)):=by
 refine Qh tOk Tryz.func204 rfl Tryz.results204 rfl (by simp[Tryz.ntmps204]) ?_;rw[Tryz.ntmps204];simp only[Qe];simp only[encA];repeat first|(refine r_ ?_;simp)|refine q_ ?_
 refine Q6 3 70 1 rfl ?_;simp;refine Ql (Qb (sl':=[(1,.vptr 0 0),(3,.sl 1 1 0 0),(4,.i 0)]) ?_ (by simp));obtain⟨K,hK⟩:∃K,K=[AObj.vars (Qp a)]:=⟨_,rfl⟩
 have za:K[0]? =some (AObj.vars (Qp a)):=by rw[hK];rfl
 have hst:=SL.start K 70 1;refine Qm (F:=fun(u:Nat×Nat×List AObj)=>⟨[(1,.vptr 0 0),(3,.sl u.2.1 1 0 u.1),(4,.i u.1)],u.2.2⟩)
  (fun u=>u.1≤a.mv.length∧SL K u.2.2 u.2.1 70 1 ((onA { a with mv:=a.mv.take u.1 }).map encP)) (fun u=>a.mv.length - u.1) ?_ (0,1,_) ⟨by simp,by rw[hK]at hst ⊢;exact hst⟩
 rintro⟨j,q,H2⟩ ⟨hj,g⟩ ih;simp only at hj g ih ⊢;have g0:=g.kp za;repeat first|(refine r_ ?_;simp[g0])|refine q_ ?_
 refine Qa rfl (fun zc=> ?_) (fun zd=> ?_)
 ·have z1:j<a.mv.length:=by simpa using zc
  have hw:IntKind.i64.wrap ((j:Int)+1)=j+1:=wrap_i64 _ (by omega) (by omega);have ze:(onA { a with mv:=a.mv.take (j+1) }).map encP=(onA { a with mv:=a.mv.take j }).map encP++[encP a.mv[j].on]:=by
   have e:onA { a with mv:=a.mv.take (j+1) }=onA { a with mv:=a.mv.take j }++[a.mv[j].on]:=by
    show(a.mv.take (j+1)).map (·.on)=(a.mv.take j).map (·.on)++[a.mv[j].on]
    rw[zJ z1,yM];rfl
   rw[e,yM];rfl
  have z6:((onA { a with mv:=a.mv.take j }).map encP).length=j:=by unfold onA;simp;omega
  have zb:=fun q' H'=>ih (j+1,q',H');simp only[ze]at zb;generalize (onA { a with mv:=a.mv.take j }).map encP=acc at *
  have gL:=fun L=>g.at za L;repeat first|(refine r_ ?_;simp[g0,z1])|refine q_ ?_
  refine Qf tOk rfl rfl T87 rfl T70 rfl (by decide) (by decide) rfl rfl rfl ?_;simp[Qd g.arr,Qk g.arr,z6];refine⟨by simp[Wu,Qd g.arr,Qk g.arr,z6]<;>omega,?_⟩;repeat first|(refine r_ ?_;simp[gL,hw])|refine q_ ?_
  exact Qb (sl':=[(1,.vptr 0 0),(3,.sl (H2.length+1) 1 0 (j+1)),(4,.i (j+1:Nat))]) (zb (H2.length+1) _ ⟨by omega,g.put [AObj.arr 70 1 [encP a.mv[j].on]] _ rfl⟩ (by omega)) (by simp)
 ·have z8:j=a.mv.length:=by simp at zd;omega
  subst z8;have e:({ a with mv:=a.mv.take a.mv.length }:Aut)=a:=by rw[zX]
  rw[e]at g;have z6:((onA a).map encP).length=a.mv.length:=by simp[onA]
  have ga:=g.arr;obtain⟨acc,z7⟩:∃acc,acc=(onA a).map encP:=⟨_,rfl⟩
  rw[←z7]at ga z6;repeat first|(refine r_ ?_;simp[ga,z6])|refine q_ ?_
  rw[zM (by omega),z7]
end Go.Abs
namespace Go.Abs
open Go Go.Proofs
abbrev LLI (l:List (List Int)):AV:= .list (l.map fun x=>LI x)
end Go.Abs
namespace Go.Abs
open Go Go.Proofs
end Go.Abs
namespace Go.Abs
open Go Go.Proofs
def Dn(a:Aut)(s:Int)(j:Nat):Prd:=(q05 { a with mv:=a.mv.take j } s).foldl (fun r p=>Wf r (W2 p)) (Wg a.types.toNat)
theorem z1z(a:Aut)(s:Int)(j:Nat)(h:j<a.mv.length):q05 { a with mv:=a.mv.take (j+1) } s=q05 { a with mv:=a.mv.take j } s++(if a.mv[j].src=s then [a.mv[j].on]else []):=by unfold q05;simp only;rw[zJ h,uU,yM];by_cases e:a.mv[j].src=s<;>simp[e]
theorem Jq(a:Aut)(s:Int)(j:Nat)(h:j<a.mv.length):Dn a s (j+1)=if a.mv[j].src=s then Wf (Dn a s j) (W2 a.mv[j].on)else Dn a s j:=by unfold Dn;rw[z1z a s j h,xR];by_cases e:a.mv[j].src=s<;>simp[e]
theorem J9(a:Aut)(s:Int):Dn a s 0=Wg a.types.toNat:=rfl
theorem u05(a:Aut)(s:Int):Dn a s a.mv.length=Al a s:=by unfold Dn Al;rw[zX]
theorem c0e{T:Nat}{c p:Prd}(hc:PWf T c)(hp:PWf T p){n m:Nat}(h1:∀s∈c,s.length≤n)(h2:∀t∈p,t.length≤m):∀x∈Wf c p,x.length≤n+m:=fun x hx=>by
 obtain⟨i,hi⟩:=List.mem_iff_getElem?.1 hx;unfold Wf at hi;rw[List.getElem?_zipWith]at hi;cases h3:c[i]? with
 |none=>rw[h3]at hi;simp at hi
 |some a=>
  cases h4:p[i]? with
  |none=>rw[h3,h4]at hi;simp at hi
  |some b=>rw[h3,h4]at hi;simp at hi;subst hi;have ha:=zD h3;have hb:=zD h4;have k1:=w1v (Es a b);have k2:=Xf a b (hc.2 a ha).1 (hp.2 b hb).1;have:=h1 a ha;have:=h2 b hb;rw[Rk];omega
theorem Ls{T:Nat}{p:Prd}(hp:PWf T p){m:Nat}(h2:∀t∈p,t.length≤m):∀x∈W2 p,x.length≤m+1:=fun x hx=>by obtain⟨y,hy,rfl⟩:=zN.1 hx;have:=d05 (hp.2 y hy).1 (hp.2 y hy).2;have:=h2 y hy;omega
theorem Ny{a:Aut}(h:OkA a)(s:Int):∀j,j≤a.mv.length→PWf a.types.toNat (Dn a s j)∧∀x∈Dn a s j,x.length≤1+257 * j
 |0,_=>by rw[J9];exact⟨L5 _,fun x hx=>by rw[u0p _ x hx];omega⟩
 |j+1,hj=>by
  obtain⟨h1,h2⟩:=Ny h s j (by omega);have z1:j<a.mv.length:=by omega
  have hm:=zG z1;rw[Jq a s j z1];split
  ·have hw:=(h.mv _ hm).on.wf;refine⟨Yo h1 (U4 hw).1,fun x hx=> ?_⟩;have:=c0e h1 (U4 hw) h2 (Ls hw (Py h hm)) x hx;omega
  ·exact⟨h1,fun x hx=>by have:=h2 x hx;omega⟩
attribute [local irreducible] Dn Wf W2 Wg Wk
theorem V6(a:Aut)(h:OkA a)(s:Int):PC Tryz.prog 161 [encA a,.i s] (fun r=>r=encP (Al a s)):=by
 refine Qh tOk Tryz.func161 rfl Tryz.results161 rfl (by simp[Tryz.ntmps161]) ?_;rw[Tryz.ntmps161];simp only[Qe];simp only[encA];have zd:=h.mvs;have ze:=h.types;repeat first|(refine r_ ?_;simp)|refine q_ ?_
 refine Qc rfl rfl (by simp) (J2 a.types (by omega) (by omega)) rfl ?_;rintro _ rfl;simp;repeat first|(refine r_ ?_;simp)|refine q_ ?_
 refine Qr a.mv.length (fun _=>True) (fun j=>[(1,.i s),(2,.vptr 0 0),(4,.vptr 1 0),(5,.vptr 2 0),(6,.i j)]) (fun j=>[.vars (Qp a),.vars [.nils],.vars [.list ((Dn a s j).map encL)]]) (by rw[J9];rfl) (by simp) (by simp) (by simp) (by simp) trivial ?_;intro j hj _ ih;repeat first|(refine r_ ?_;simp)|refine q_ ?_
 refine Qa rfl (fun zb=> ?_) (fun zc=> ?_)
 ·have z1:j<a.mv.length:=by simpa using zb
  have hw:IntKind.i64.wrap ((j:Int)+1)=j+1:=wrap_i64 _ (by omega) (by omega);obtain⟨k1,k2⟩:=Ny h s j hj;have z6:=Jq a s j z1;have hm:=zG z1;have z7:=(h.mv _ hm).on.wf;repeat first|(refine r_ ?_;simp[z1])|refine q_ ?_
  refine Qa rfl (fun he=> ?_) (fun he=> ?_)
  ·have z8:a.mv[j].src=s:=by simpa using he
   rw[if_pos z8]at z6;repeat first|(refine r_ ?_;simp)|refine q_ ?_
   refine Qj tOk mixed [9] (.val 0 (.val 1 (.val 2 (.val 3 (.val 4 (.val 5 (.val 6 (.one 7 (.one 8 (.one 9 (.done))))))))))) rfl (by kernel_rfl) ?_;simp[z1];refine Qc rfl rfl (by simp) (C7 a.types.toNat a.mv[j].on z7 (fun t ht=>by have:=Py h hm t ht;omega) (by omega)) rfl ?_;rintro _ rfl;simp;refine Qc rfl rfl (by simp) (P2 a.types.toNat (Dn a s j) (W2 a.mv[j].on) k1 (U4 z7) (fun x hx y hy=>by have:=k2 x hx;have:=Ls z7 (Py h hm) y hy;omega) (by omega)) rfl ?_;rintro _ rfl;simp;repeat first|(refine r_ ?_;simp[hw])|refine q_ ?_
   refine Qo [] (ih z1 trivial) ?_ (by simp) ?_ (by simp) (by simp)
   ·rw[z6];rfl
   ·simp
  ·have z8:¬a.mv[j].src=s:=by simpa using he
   rw[if_neg z8]at z6;repeat first|(refine r_ ?_;simp[hw])|refine q_ ?_
   refine Qo [] (ih z1 trivial) ?_ (by simp) ?_ (by simp) (by simp)
   ·rw[z6];rfl
   ·simp
 ·have za:j=a.mv.length:=by simp at zc;omega
  subst za;repeat first|(refine r_ ?_;simp)|refine q_ ?_
  rw[u05]
end Go.Abs
namespace Go.Abs
open Go Go.Proofs
theorem w0y{a:Aut}{i:Nat}(h:i<a.fin.length)(hv:Wk (Al a i)=false):P9 a=false:=by unfold P9;rw[wS];exact⟨i,yJ.2 h,by rw[hv];simp⟩
theorem u0q{a:Aut}(h:∀i:Nat,i<a.fin.length→Wk (Al a i)=true):P9 a=true:=by unfold P9;rw[zP];exact fun i hi=>h i (yJ.1 hi)
attribute [local irreducible] Al Wk
theorem d0i(a:Aut)(h:OkA a):PC Tryz.prog 92 [encA a] (fun r=>r= .bool (P9 a)):=by
 refine Qh tOk Tryz.func92 rfl Tryz.results92 rfl (by simp[Tryz.ntmps92]) ?_;rw[Tryz.ntmps92];simp only[Qe];simp only[encA];have hf:=h.fin;repeat first|(refine r_ ?_;simp)|refine q_ ?_
 refine Qr a.fin.length (fun j=>∀i:Nat,i<j→Wk (Al a i)=true) (fun j=>[(1,.vptr 0 0),(3,.i j)]) (fun _=>[.vars (Qp a)]) rfl (by simp) (by simp) (by simp) (by simp) (by simp) ?_;intro j hj hI ih;repeat first|(refine r_ ?_;simp)|refine q_ ?_
 refine Qa rfl (fun z7=> ?_) (fun z8=> ?_)
 ·have z1:j<a.fin.length:=by simpa using z7
  have hw:IntKind.i64.wrap ((j:Int)+1)=j+1:=wrap_i64 _ (by omega) (by omega);repeat first|(refine r_ ?_;simp)|refine q_ ?_
  refine Qc rfl rfl (by simp) (V6 a h j) rfl ?_;rintro _ rfl;simp;repeat first|(refine r_ ?_;simp)|refine q_ ?_
  refine Qc rfl rfl (by simp) (U0 (Al a j)) rfl ?_;rintro _ rfl;simp;repeat first|(refine r_ ?_;simp)|refine q_ ?_
  refine Qa rfl (fun he=> ?_) (fun he=> ?_)
  ·repeat first|(refine r_ ?_;simp)|refine q_ ?_
   rw[w0y z1 (by simpa using he)]
  ·repeat first|(refine r_ ?_;simp[hw])|refine q_ ?_
   refine Qo [] (ih z1 (fun i hi=> ?_)) rfl (by simp) ?_ (by simp) (by simp)
   ·by_cases e:i=j
    ·subst e;simpa using he
    ·exact hI i (by omega)
   ·simp
 ·have z6:j=a.fin.length:=by simp at z8;omega
  subst z6;repeat first|(refine r_ ?_;simp)|refine q_ ?_
  rw[u0q hI]
end Go.Abs
namespace Go.Abs
open Go Go.Proofs
theorem y0a{p:Prd}{i:Nat}(h:i<p.length)(hv:¬(p[i].length≤12)):y1l p=false:=by rw[wH,Ne,M0];exact fun k=>hv (k.2 _ (zG h))
theorem d0f(p:Prd):PC Tryz.prog 78 [encP p] (fun r=>r= .bool (y1l p)):=by
 refine Qh tOk Tryz.func78 rfl Tryz.results78 rfl (by simp[Tryz.ntmps78]) ?_;rw[Tryz.ntmps78];simp only[Qe];simp only[encP];refine Wd 0 0 rfl rfl (fun hlen=> ?_);rw[zV]at hlen;repeat first|(refine r_ ?_;simp)|refine q_ ?_
 refine Qr p.length (fun j=>j≤5∧∀i,∀hi:i<p.length,i<j→p[i].length≤12) (fun j=>[(1,.vptr 0 0),(3,.i j)]) (fun _=>[.vars [.list (p.map encL)]]) rfl (by simp) (by simp) (by simp) (by simp) (by simp) ?_;rintro j hj ⟨za,hI⟩ ih;repeat first|(refine r_ ?_;simp)|refine q_ ?_
 refine Qa rfl (fun z6=> ?_) (fun z7=> ?_)
 ·have z1:j<p.length:=by simp at z6;omega
  have zb:j<5:=by simp at z6;omega
  have hw:IntKind.i64.wrap ((j:Int)+1)=j+1:=wrap_i64 _ (by omega) (by omega);repeat first|(refine r_ ?_;simp[z1])|refine q_ ?_
  refine Qc rfl rfl (by simp) (g1f p[j]) rfl ?_;rintro _ rfl;simp;repeat first|(refine r_ ?_;simp)|refine q_ ?_
  refine Qa rfl (fun he=> ?_) (fun he=> ?_)
  ·repeat first|(refine r_ ?_;simp)|refine q_ ?_
   rw[y0a z1 (by simp at he;omega)]
  ·repeat first|(refine r_ ?_;simp[hw])|refine q_ ?_
   refine Qo [] (ih z1 ⟨by omega,fun i hi zc=> ?_⟩) rfl (by simp) ?_ (by simp) (by simp)
   ·by_cases e:i=j
    ·subst e;simp at he;omega
    ·exact hI i hi (by omega)
   ·simp
 ·have z8:p.length≤j∨5≤j:=by simp at z7;omega
  repeat first|(refine r_ ?_;simp)|refine q_ ?_
  rw[yV,M0,decide_eq_true_eq];constructor
  ·intro h4;refine⟨by omega,fun s hs=> ?_⟩;obtain⟨i,hi,rfl⟩:=yH hs;exact hI i hi (by omega)
  ·intro h4;omega
end Go.Abs
namespace Go.Abs
open Go Go.Proofs
theorem Cm{a:Aut}:w1y a=true↔a.fin.length≤8∧a.mv.length≤16∧∀m∈a.mv,y1l m.on=true:=by simp only[w1y,zR,decide_eq_true_eq,zP,and_assoc]
attribute [local irreducible] y1l
theorem v00(a:Aut):PC Tryz.prog 27 [encA a] (fun r=>r= .bool (w1y a)):=by
 refine Qh tOk Tryz.func27 rfl Tryz.results27 rfl (by simp[Tryz.ntmps27]) ?_;rw[Tryz.ntmps27];simp only[Qe];simp only[encA];refine Wd 0 2 rfl rfl (fun hlen=> ?_);rw[zV]at hlen;repeat first|(refine r_ ?_;simp)|refine q_ ?_
 refine Qr a.mv.length (fun j=>j≤20∧∀i,∀hi:i<a.mv.length,i<j→y1l a.mv[i].on=true) (fun j=>[(1,.vptr 0 0),(3,.i j)]) (fun _=>[.vars (Qp a)]) rfl (by simp) (by simp) (by simp) (by simp) (by simp) ?_;rintro j hj ⟨za,hI⟩ ih;repeat first|(refine r_ ?_;simp)|refine q_ ?_
 refine Qa rfl (fun z6=> ?_) (fun z7=> ?_)
 ·have z1:j<a.mv.length:=by simp at z6;omega
  have zb:j<20:=by simp at z6;omega
  have hw:IntKind.i64.wrap ((j:Int)+1)=j+1:=wrap_i64 _ (by omega) (by omega);repeat first|(refine r_ ?_;simp[z1])|refine q_ ?_
  refine Qc rfl rfl (by simp) (d0f a.mv[j].on) rfl ?_;rintro _ rfl;simp;repeat first|(refine r_ ?_;simp)|refine q_ ?_
  refine Qa rfl (fun he=> ?_) (fun he=> ?_)
  ·repeat first|(refine r_ ?_;simp)|refine q_ ?_
   have:w1y a=false:=by rw[wH,Ne,Cm];intro k;have:=k.2.2 _ (zG z1);rw[this]at he;cases he
   rw[this]
  ·repeat first|(refine r_ ?_;simp[hw])|refine q_ ?_
   refine Qo [] (ih z1 ⟨by omega,fun i hi zc=> ?_⟩) rfl (by simp) ?_ (by simp) (by simp)
   ·by_cases e:i=j
    ·subst e;simpa using he
    ·exact hI i hi (by omega)
   ·simp
 ·have z8:a.mv.length≤j∨20≤j:=by simp at z7;omega
  repeat first|(refine r_ ?_;simp)|refine q_ ?_
  rw[yV,Cm];simp;constructor
  ·rintro⟨h4,h5⟩;refine⟨by omega,by omega,fun m hm=> ?_⟩;obtain⟨i,hi,rfl⟩:=yH hm;exact hI i hi (by omega)
  ·rintro⟨h4,h5,_⟩;omega
end Go.Abs
namespace Go.Abs
open Go Go.Proofs
end Go.Abs
namespace Go.Abs
open Go Go.Proofs
theorem x0m(p:Prd)(g:Nat)(f:List Iv→Bool)(hg:∀s,PC Tryz.prog g [LIv s] (fun r=>r= .bool (f s))):
  PC Tryz.prog 176 [.list (p.map encL),.fn (.func g) [] []] (fun r=>r= .i (j0q f p)):=by
 refine Qh tOk Tryz.func176 rfl Tryz.results176 rfl (by simp[Tryz.ntmps176]) ?_;rw[Tryz.ntmps176];simp only[Qe];refine Rq 0 rfl (fun hlen=> ?_);rw[zV]at hlen;repeat first|(refine r_ ?_;simp)|refine q_ ?_
 refine Qr p.length (fun j=>∀i,∀hi:i<p.length,i<j→f p[i]=false) (fun j=>[(0,.list (p.map encL)),(1,.fn (.func g) [] []),(7,.i p.length),(8,.i j)]) (fun _=>[]) rfl (by simp) (by simp) (by simp) (by simp) (by simp) ?_;intro j hj hI ih;repeat first|(refine r_ ?_;simp)|refine q_ ?_
 refine Qa rfl (fun z7=> ?_) (fun z8=> ?_)
 ·have z1:j<p.length:=by simpa using z7
  have hw:IntKind.i64.wrap ((j:Int)+1)=j+1:=wrap_i64 _ (by omega) (by omega);repeat first|(refine r_ ?_;simp[z1])|refine q_ ?_
  refine Qc rfl rfl (by simp) (hg p[j]) rfl ?_;rintro _ rfl;simp;repeat first|(refine r_ ?_;simp)|refine q_ ?_
  refine Qa rfl (fun h=> ?_) (fun h=> ?_)
  ·repeat first|(refine r_ ?_;simp)|refine q_ ?_
   rw[V1 z1 h hI]
  ·repeat first|(refine r_ ?_;simp[hw])|refine q_ ?_
   refine Qo [] (ih z1 (fun i hi za=> ?_)) rfl (by simp) ?_ (by simp) (by simp)
   ·by_cases e:i=j
    ·subst e;exact h
    ·exact hI i hi (by omega)
   ·simp
 ·have z6:j=p.length:=by simp at z8;omega
  subst z6;repeat first|(refine r_ ?_;simp)|refine q_ ?_
  rw[Zw hI]
theorem Cd(p:Prd)(g:Nat)(f:List Iv→Bool)(hg:∀s,PC Tryz.prog g [LIv s] (fun r=>r= .bool (f s))):
  PC Tryz.prog 111 [.list (p.map encL),.fn (.func g) [] []] (fun r=>r= .bool (p.any f)):=by
 refine Qh tOk Tryz.func111 rfl Tryz.results111 rfl (by simp[Tryz.ntmps111]) ?_;rw[Tryz.ntmps111];simp only[Qe];repeat first|(refine r_ ?_;simp)|refine q_ ?_
 refine Qc rfl rfl (by simp) (x0m p g f hg) rfl ?_;rintro _ rfl;simp;repeat first|(refine r_ ?_;simp)|refine q_ ?_
 rw[←k0j]
theorem v1i(s:List Iv):PC Tryz.prog 112 [LIv s] (fun r=>r= .bool (decide (256<s.length))):=by
 refine Qh tOk Tryz.func112 rfl Tryz.results112 rfl (by simp[Tryz.ntmps112]) ?_;rw[Tryz.ntmps112];simp only[Qe];repeat first|(refine r_ ?_;simp)|refine q_ ?_
 omega
def y1o(m:Mv):Bool:=m.on.any fun s=>decide (256<s.length)
theorem Ng(a:Aut):Xp a=(decide (256<a.fin.length) || decide (2048<a.mv.length) || a.mv.any y1o):=rfl
attribute [local irreducible] y1o
end Go.Abs
namespace Go.Abs
open Go Go.Proofs
abbrev LSy (w:List Sy):AV:= .list (w.map encSy)
def Ka(a:Aut)(w:List Sy)(z:Int):Bool:=decide (z∈Uk a [0] w)
theorem q16(a:Aut)(z:Int):Ka a [] z=(false || z==0):=by rw[yV];simp[Ka,Uk]
theorem x00(a:Aut)(w:List Sy)(x:Sy):Ka a (w++[x])=fun z=>decide (z∈Q0 a (Uk a [0] w) x):=by funext z;unfold Ka Uk;rw[xR];rfl
theorem q2l(a:Aut)(l:List Int)(x:Sy):T8 a.fin.length (nxB a.mv (fun z=>decide (z∈l)) x)=T8 a.fin.length (fun z=>decide (z∈Q0 a l x)):=by
 rw[d0b];unfold T8;refine List.map_congr_left fun z hz=> ?_;have z1:=Wq.1 hz
 congr 1
 rw[yV,decide_eq_true_eq];unfold Q0;rw[List.mem_filter];exact⟨fun h=>⟨hz,h⟩,fun h=>h.2⟩
attribute [local irreducible] T8 nxB
theorem Xs(a:Aut)(ha:OkA a)(w:List Sy)(zp:w.length≤1000000):PC Tryz.prog 86 [encA a,LSy w] (fun r=>r= .bool (Rz a w)):=by
 refine Qh tOk Tryz.func86 rfl Tryz.results86 rfl (by simp[Tryz.ntmps86]) ?_;rw[Tryz.ntmps86];simp only[Qe];simp only[encA];have hf:=ha.fin;repeat first|(refine r_ ?_;simp)|refine q_ ?_
 refine Ep tOk rfl rfl rfl T22 rfl T4 rfl rfl rfl (n:=a.fin.length) (by simp;omega) (by unfold maxLen;omega) (.bool false) rfl ?_;simp;rw[q0p];have z1:=x0v a.fin.length (fun _=>false) 0 (yG _) (by omega);have zj:T8 a.fin.length (fun z=>false || z==0)=T8 a.fin.length (Ka a (w.take 0)):=Pm _ fun z=>by rw[xU,q16]
 rw[zj]at z1;have zk:=R6 a.fin.length (fun _=>false);have zl:=fun(hh:0<(T8 a.fin.length (fun _=>false)).length)=>D9 a.fin.length (fun _=>false) (i:=0) hh;have zm:0<a.fin.length:=by omega
 generalize T8 a.fin.length (fun _=>false)=bs at *
 repeat first|(refine r_ ?_;simp[zk,zl,zm])|refine q_ ?_
 have zn:Int.toNat 0=0:=rfl;rw[zn]at z1;rw[z1];have zc:=R6 a.fin.length (Ka a (w.take 0));refine w0k 1 rfl ?_;simp[zc];rw[zM (by simp[R6])];refine Qr w.length (fun _=>True) (fun j=>[(1,LSy w),(2,.vptr 0 0),(5,.list (T8 a.fin.length (Ka a (w.take j)))),(6,.i j)]) (fun _=>[.vars (Qp a)]) rfl (by simp) (by simp[R6]) (by simp) (by simp) trivial ?_;intro j hj _ ih;repeat first|(refine r_ ?_;simp)|refine q_ ?_
 refine Qa rfl (fun zd=> ?_) (fun ze=> ?_)
 ·have z6:j<w.length:=by simpa using zd
  have hw:IntKind.i64.wrap ((j:Int)+1)=j+1:=wrap_i64 _ (by omega) (by omega);have za:T8 a.fin.length (Ka a (w.take (j+1)))=T8 a.fin.length (nxB a.mv (fun z=>decide (z∈Uk a [0] (w.take j))) w[j]):=by rw[q2l,zJ z6,x00]
  have zh:=ih z6 trivial;rw[za]at zh;repeat first|(refine r_ ?_;simp)|refine q_ ?_
  refine Qj tOk mixed [] (.val 0 (.val 1 (.val 2 (.val 3 (.val 4 (.val 5 (.one 6 (.val 7 (.done))))))))) rfl (by kernel_rfl) ?_;simp[z6];refine Qc rfl rfl (by simp) (q08 a ha (Ka a (w.take j)) w[j]) rfl ?_;rintro _ rfl;simp;repeat first|(refine r_ ?_;simp[hw])|refine q_ ?_
  refine Qo _ zh rfl (by simp) ?_ (by simp) (by simp);simp;rfl
 ·have z7:j=w.length:=by simp at ze;omega
  subst z7;rw[zX];have zf:=R6 a.fin.length (Ka a w);repeat first|(refine r_ ?_;simp)|refine q_ ?_
  refine Qr a.fin.length (fun k=>∀i:Nat,i<k→∀h:i<a.fin.length,(Ka a w i && a.fin[i])=false) (fun k=>[(2,.vptr 0 0),(5,.list (T8 a.fin.length (Ka a w))),(7,.i k)]) (fun _=>[.vars (Qp a)]) rfl (by simp) (by simp) (by simp) (by simp) (by simp) ?_;intro k hk hI zi;repeat first|(refine r_ ?_;simp[zf])|refine q_ ?_
  refine Qa rfl (fun zd=> ?_) (fun ze=> ?_)
  ·have z8:k<a.fin.length:=by simpa using zd
   have hw:IntKind.i64.wrap ((k:Int)+1)=k+1:=wrap_i64 _ (by omega) (by omega);have zb:=fun(hh:k<(T8 a.fin.length (Ka a w)).length)=>D9 a.fin.length (Ka a w) (i:=k) hh;have za:(Ka a w k && a.fin[k])=false→∀i:Nat,i<k+1→∀h:i<a.fin.length,(Ka a w i && a.fin[i])=false:=fun hb i hi h=>by
    by_cases e:i=k
    ·subst e;exact hb
    ·exact hI i (by omega) h
   cases hr:Ka a w k with
   |false=>
    rw[hr]at zb;repeat first|(refine r_ ?_;simp[zf,z8,zb])|refine q_ ?_
    refine Qs rfl ?_;repeat first|(refine r_ ?_;simp[hw])|refine q_ ?_
    refine Qo _ (zi z8 (za (by rw[hr];rfl))) rfl (by simp) ?_ (by simp) (by simp);simp
   |true=>
    rw[hr]at zb;repeat first|(refine r_ ?_;simp[zf,z8,zb])|refine q_ ?_
    refine Qa rfl (fun h=> ?_) (fun h=> ?_)
    ·repeat first|(refine r_ ?_;simp)|refine q_ ?_
     have:Rz a w=true:=by rw[Rz,Lm];exact⟨k,by simpa[Ka]using hr,by simp[yR,z8,h]⟩
     rw[this]
    ·repeat first|(refine r_ ?_;simp[hw])|refine q_ ?_
     refine Qo _ (zi z8 (za (by rw[hr];simpa using h))) rfl (by simp) ?_ (by simp) (by simp);simp
  ·have z7:k=a.fin.length:=by simp at ze;omega
   subst z7;repeat first|(refine r_ ?_;simp)|refine q_ ?_
   have:Rz a w=false:=by
    rw[wH,Ne,Rz,Lm];rintro⟨s,hs,zo⟩;have zq:=runIn w _ (v04 ha.wfA) s hs;have zg:s.toNat<a.fin.length:=by omega
    have:=hI s.toNat zg zg;have e:((s.toNat:Nat):Int)=s:=by omega
    rw[e]at this;have hr:Ka a w s=true:=by simpa[Ka]using hs
    rw[hr,wV]at this;simp[yR,zg,this]at zo
   rw[this]
end Go.Abs
namespace Go.Abs
open Go Go.Proofs
def Z7(T:Int):List Sy→Int
 |[]=>0
 |x::r=>if Az T x≠0 then Az T x else Z7 T r
def f09(a:Aut)(w:List Sy):Int:=if Wj a≠0 then Wj a else if 4096<w.length then 5 else Z7 a.types w
def f06(a:Aut)(w:List Sy):Bool×Int:=if f09 a w≠0 then(false,f09 a w)else(Rz a w,0)
theorem Kr{T:Int}:∀(w:List Sy),Z7 T w=0↔∀x∈w,Az T x=0
 |[]=>by simp[Z7]
 |x::r=>by
  rw[Z7];by_cases h:Az T x=0
  ·rw[if_neg (fun k=>k h),Kr r];simp[h]
  ·rw[if_pos h];exact⟨fun k=>absurd k h,fun k=>absurd (k x (by simp)) h⟩
attribute [local irreducible] Az Rz
end Go.Abs
namespace Go.Abs
open Go Go.Proofs
def Un:List Iv:=[⟨-1099511627776,1099511627776⟩]
theorem z0u:W7 []=Un:=by simp[W7,Re,Un]
theorem w1e:PC Tryz.prog 101 [] (fun r=>r=LIv Un):=by
 refine Qh tOk Tryz.func101 rfl Tryz.results101 rfl (by simp[Tryz.ntmps101]) ?_;rw[Tryz.ntmps101];simp only[Qe];repeat first|(refine r_ ?_;simp)|refine q_ ?_
 simp[Un]
theorem u1y(n:Int):PC Tryz.prog 100 [.i n] (fun r=>r= .tup [LIv Un,.i 0]):=by
 refine Qh tOk Tryz.func100 rfl Tryz.results100 rfl (by simp[Tryz.ntmps100]) ?_;rw[Tryz.ntmps100];simp only[Qe];repeat first|(refine r_ ?_;simp)|refine q_ ?_
 refine Qc rfl rfl (by simp) (w1e) rfl ?_;rintro _ rfl;simp;repeat first|(refine r_ ?_;simp)|refine q_ ?_
end Go.Abs
namespace Go.Abs
open Go Go.Proofs
attribute [local irreducible] upL Un
theorem w0a(T:Nat)(hT:T≤1000):PC Tryz.prog 99 [.i T,.fn (.func 100) [] []] (fun r=>r= .tup [encP (zT T Un),.i 0]):=by
 refine Qh tOk Tryz.func99 rfl Tryz.results99 rfl (by simp[Tryz.ntmps99]) ?_;rw[Tryz.ntmps99];simp only[Qe];simp only[encP];repeat first|(refine r_ ?_;simp)|refine q_ ?_
 refine R3 1 0 145 1 rfl rfl ?_;simp;obtain⟨K,hK⟩:∃K,K=[AObj.vars [AV.nils],AObj.vars [AV.nils]]:=⟨_,rfl⟩
 have hst:=GL.start (K:=K) (S:=1) [] [] 145 1 (by rw[hK];simp);refine Ql (Qb (sl':=[(1,.fn (.func 100) [] []),(4,.vptr 0 0),(6,.vptr 1 0),(10,.i T),(11,.i 0)]) ?_ (by simp));refine Qm (F:=fun(u:Nat×Nat×List AObj)=>⟨[(1,.fn (.func 100) [] []),(4,.vptr 0 0),(6,.vptr 1 0),(10,.i T),(11,.i u.1)],u.2.2⟩)
  (fun u=>u.1≤T∧GL K u.2.2 1 u.2.1 [] [] 145 1 (upL (fun _=>Un) u.1)) (fun u=>T - u.1) ?_ (0,K.length,_) ⟨by simp,by rw[Dx,hK]at *;exact hst⟩
 rintro⟨j,q,H2⟩ ⟨hj,g⟩ ih;simp only at hj g ih ⊢;have gR:H2[0]? =some (AObj.vars [AV.nils]):=g.kp (by decide) (by rw[hK];rfl);have g2:=g.cell;have g3:=g.arr;rw[W9]at g2;simp only[xY]at g2;repeat first|(refine r_ ?_;simp)|refine q_ ?_
 refine Qa rfl (fun zd=> ?_) (fun ze=> ?_)
 ·have zf:j<T:=by simpa using zd
  have hw:IntKind.i64.wrap ((j:Int)+1)=j+1:=wrap_i64 _ (by omega) (by omega);repeat first|(refine r_ ?_;simp)|refine q_ ?_
  refine Qc rfl rfl (by simp) (u1y j) rfl ?_;rintro _ rfl;simp;repeat first|(refine r_ ?_;simp)|refine q_ ?_
  refine Qs rfl ?_;have z6:∀L:List AObj,(H2.set q .dead++L)[1]? =some (AObj.vars [AV.sl q 1 0 j]):=fun L=>by have:=g.at L;rw[W9]at this;exact this
  have z8:∀(L:List AObj) (h:1<(H2.set q .dead++L).length),(H2.set q .dead++L)[1]'h=AObj.vars [AV.sl q 1 0 j]:=fun L h=>by have:=z6 L;rw[zF h]at this;exact Option.some.inj this
  have za:=fun A y=>g.put A y (W9 _ _).symm;have zg:upL (fun _=>Un) j++[encL Un]=upL (fun _=>Un) (j+1):=(D6 _ _).symm;have z1:=fun H=>ih (j+1,H2.length+1,H);have z7:=W9 (fun _=>Un) j;simp only[←zg]at z1;repeat first|(refine r_ ?_;simp[g2])|refine q_ ?_
  generalize upL (fun _=>Un) j=xs at *
  refine Qf tOk rfl rfl T68 rfl Ai rfl (by decide) (by decide) rfl rfl rfl ?_;simp[Qd g3,Qk g3,z7,z6,z8];refine⟨by simp[Wu,Qd g3,Qk g3,z7,z6,z8]<;>omega,?_⟩;repeat first|(refine r_ ?_;simp[g2,hw,z6,z8])|refine q_ ?_
  refine Qb (sl':=[(1,.fn (.func 100) [] []),(4,.vptr 0 0),(6,.vptr 1 0),(10,.i T),(11,.i (j+1:Nat))]) (z1 _ ⟨by omega,za _ _⟩ (by omega)) ?_;simp
 ·have zb:j=T:=by simp at ze;omega
  subst zb;have hS:=(zA.1 g2).1;have zh:q≠0∧q≠1:=by have:=g.ge;rw[hK]at this;simp at this;omega
  have z7:=W9 (fun _=>Un) j;have zc: .list (upL (fun _=>Un) j)=AV.list ((zT j Un).map encL):=by rw[K1];simp[Function.comp_def,vH]
  generalize upL (fun _=>Un) j=xs at *
  refine Ws q g3 1 g2 ?_;have k1:∀X,((H2.set q .dead).set 1 X)[0]? =some (AObj.vars [AV.nils]):=fun X=>Qg (by decide) (Qg zh.1 gR _) _;have k2:∀X,((H2.set q .dead).set 1 X)[1]? =some X:=fun X=>zH (by simpa using hS);have k3:∀X Y,(((H2.set q .dead).set 1 X).set 0 Y)[0]? =some Y:=fun X Y=>Qq (k1 X) _;simp[z7];rw[zM (by omega)];repeat first|(refine r_ ?_;simp[k1,k2,k3])|refine q_ ?_
  have h2:=AV.list.inj zc;rw[List.map_replicate]at h2;exact h2
theorem k09(T:Int)(h1:1≤T)(h2:T≤16):PC Tryz.prog 42 [.i T] (fun r=>r= .tup [encP (Wg T.toNat),.i 0]):=by
 refine Qh tOk Tryz.func42 rfl Tryz.results42 rfl (by simp[Tryz.ntmps42]) ?_;rw[Tryz.ntmps42];simp only[Qe];simp only[encP];have hw:Wg T.toNat=zT T.toNat Un:=by rw[Wg,z0u]
 have hT:((T.toNat:Nat):Int)=T:=by omega
 have hc:=w0a T.toNat (by omega);rw[hT]at hc;have n1:¬T<1:=by omega
 have n2:¬16<T:=by omega
 rw[hw];repeat first|(refine r_ ?_;simp[n1,n2])|refine q_ ?_
 refine Qa rfl (fun h=> ?_) (fun h=> ?_)
 ·simp at h
 repeat first|(refine r_ ?_;simp)|refine q_ ?_
 refine Qc rfl rfl (by simp) (hc) rfl ?_;rintro _ rfl;simp;repeat first|(refine r_ ?_;simp)|refine q_ ?_
end Go.Abs
namespace Go.Abs
open Go Go.Proofs
attribute [local irreducible] Hd
theorem x05(p:Prd):PC Tryz.prog 125 [encP p] (fun r=>r= .fn (.func 188) [] [.iptr [.list (p.map encL)]]):=by refine Qh tOk Tryz.func125 rfl Tryz.results125 rfl (by simp[Tryz.ntmps125]) ?_;rw[Tryz.ntmps125];simp only[Qe];simp only[encP];repeat first|(refine r_ ?_;simp)|refine q_ ?_
theorem w01(p:Prd)(h0:Hd [p]=0)(hv:Wk p=false):PC Tryz.prog 64 [encP p] (fun r=>r= .tup [encSy (Qn p),.i 0]):=by
 have hlen:p.length≤16:=by
  unfold Hd at h0;by_cases hc:E7 p.length p=0
  ·have:=((Ea _ p).1 hc).1;omega
  ·rw[if_pos hc]at h0;exact absurd h0 hc
 obtain⟨t,x,rr,h1,h2,h3⟩:∃t x r,p[t]? =some (x::r)∧Qv p 0=(0+t,x.lo)∧∀j,j<t→p[j]? =some []:=by refine Oz p 0 ?_;rw[Wk,wS]at hv;obtain⟨s,hs,hn⟩:=hv;exact⟨s,hs,fun e=>hn (by rw[e];rfl)⟩
 rw[Nat.zero_add]at h2;have z8:Qn p=⟨t,x.lo⟩:=by rw[Qn,h2]
 rw[z8];obtain⟨zd,za⟩:=zA.1 h1;refine Qh tOk Tryz.func64 rfl Tryz.results64 rfl (by simp[Tryz.ntmps64]) ?_;rw[Tryz.ntmps64];simp only[Qe];simp only[encP,encSy];repeat first|(refine r_ ?_;simp)|refine q_ ?_
 refine U7 3 rfl ?_;simp;refine Qc rfl rfl (by simp) (Kd [p]) rfl ?_;rintro _ rfl;simp;repeat first|(refine r_ ?_;simp)|refine q_ ?_
 refine Qa rfl (fun h=>by rw[h0]at h;simp at h) (fun h=> ?_);repeat first|(refine r_ ?_;simp)|refine q_ ?_
 refine Qc rfl rfl (by simp) (x05 p) rfl ?_;rintro _ rfl;simp;repeat first|(refine r_ ?_;simp)|refine q_ ?_
 refine Ey rfl (Rf:=fun _ H'=>4<H'.length∧(∃sl' ps' a' b',H'[4]? =some (.lp false (some Code.ret) 25 sl' ps' a' b'))∧H'[1]? =some (.vars [.i t,.i x.lo])∧H'[2]? =some (.vars [.i 0])) ?_ ?_
 ·simp;refine Ke fun H1 z6=> ?_;have f1:H1[1]? =some (.vars [.i 0,.i 0]):=by rw[z6];rfl
  have f2:H1[2]? =some (.vars [.i 0]):=by rw[z6];rfl
  have f4:=congrArg (fun h:List AObj=>h[4]?) z6;simp at f4;have zb:H1.length=5:=by rw[z6];simp
  clear z6;refine Ef tOk Tryz.func188 rfl Tryz.results188 rfl (by simp[Tryz.ntmps188]) ?_;rw[Tryz.ntmps188];simp only[Qe];repeat first|(refine r_ ?_;simp)|refine q_ ?_
  refine Ql (Qb (sl':=[(0,.yld 4),(6,.list (p.map encL)),(7,.i p.length),(8,.i (0:Nat))]) ?_ (by simp));refine Qm (F:=fun(u:Nat)=>⟨[(0,.yld 4),(6,.list (p.map encL)),(7,.i p.length),(8,.i u)],H1⟩) (fun u=>u≤t) (fun u=>t - u) ?_ 0 (by simp);rintro j hj ih;have z1:j<p.length:=by omega
  have hw:IntKind.i64.wrap ((j:Int)+1)=j+1:=wrap_i64 _ (by omega) (by omega);repeat first|(refine r_ ?_;simp)|refine q_ ?_
  refine Qa rfl (fun _=> ?_) (fun zc=>by simp at zc;omega);by_cases hjt:j=t
  ·subst hjt;repeat first|(refine r_ ?_;simp[z1,za])|refine q_ ?_
   refine Ub rfl rfl (q:=4) rfl rfl f4 rfl rfl rfl (fun jm K2=>jm=some Code.ret∧5≤K2.length∧K2[1]? =some (.vars [.i j,.i x.lo])∧K2[2]? =some (.vars [.i 0])) ?_ ?_
   ·simp[Th];have e1:=Qg (j:=4) (by decide) f1 .dead;have e2:=Qg (j:=4) (by decide) f2 .dead;have e4:=Qq f4 .dead;have e6:(H1.set 4 .dead).length=5:=by simp[zb]
    generalize H1.set 4 .dead=E at *
    have e3:∀y,(E.set 1 y)[2]? =some (.vars [.i 0]):=fun y=>Qg (by decide) e2 y;repeat first|(refine r_ ?_;simp[e1,e2,e3])|refine q_ ?_
    exact⟨Qg (by decide) (Qg (by decide) e4 _) _,rfl,by simp[e6],Qg (by decide) (Qq e1 _) _,Qq (e3 _) _⟩
   ·rintro jm K2 ⟨rfl,v1,v2,v3⟩;simp;repeat first|(refine r_ ?_;simp)|refine q_ ?_
    have v6:4<K2.length:=by omega
    refine Qa rfl (fun _=> ?_) (fun h=>by cases h);repeat first|(refine r_ ?_;simp)|refine q_ ?_
    exact⟨by omega,⟨_,_,_,_,zH v6⟩,v2,v3⟩
  ·have z7:p[j]=[]:=by have:=h3 j (by omega);rw[zF z1]at this;exact Option.some.inj this
   repeat first|(refine r_ ?_;simp[z1,z7])|refine q_ ?_
   refine Qx rfl rfl ?_;simp;refine Qs rfl ?_;simp;repeat first|(refine r_ ?_;simp[hw])|refine q_ ?_
   exact Qb (sl':=[(0,.yld 4),(6,.list (p.map encL)),(7,.i p.length),(8,.i (j+1:Nat))]) (ih (j+1) (by omega) (by omega)) (by simp)
 ·rintro r H' ⟨hl,⟨sl',ps',a',b',k4⟩,k1,k2⟩;refine⟨_,_,_,_,_,_,_,k4,?_⟩;simp;have u1:=Qg (j:=4) (by decide) k1 .dead;have u2:=Qg (j:=4) (by decide) k2 .dead;generalize H'.set 4 .dead=E at *
  repeat first|(refine r_ ?_;simp[u1,u2])|refine q_ ?_
end Go.Abs
namespace Go.Abs
open Go Go.Proofs
abbrev y2b:Iv:=⟨-1099511627776,1099511627776⟩
theorem A3(i:Nat):Q7 [] i=[]:=rfl
theorem Gx{l:List Prd}{j i:Nat}(hj:j<l.length)(hi:i<l[j].length):Q7 (l.take (j+1)) i=Q7 (l.take j) i++l[j][i]:=by unfold Q7;rw[zJ hj,wZ];simp[yR,hi]
theorem Ae{T:Nat}{l:List Prd}(hl:∀p∈l,PCk T p)(i:Nat):(Q7 l i).length≤256 * l.length:=by
 induction l with
 |nil=>simp[Q7]
 |cons p r ih=>
  have h1:=ih (fun q hq=>hl q (by simp[hq]));have h2:(p.getD i []).length≤256:=by
   by_cases hi:i<p.length
   ·rw[Ww hi];exact((hl p (by simp)).2 _ (zG hi)).len
   ·simp[yR,hi]
  unfold Q7 at *;rw[List.flatMap_cons,zW,List.length_cons];omega
def He(xs:List Iv):List Int:=Bc (y2b::xs)
theorem g0k(xs:List Iv)(x:Iv):He (xs++[x])=He xs++[x.lo,x.hi+1]:=by unfold He;rw[←vB,N7]
theorem Dw(xs:List Iv):(He xs).length=2 * xs.length+2:=by rw[He,j0k];simp;omega
theorem Zh(l:List Prd)(i:Nat):Lib.compact (Rp (He (Q7 l i)))=Q9 l i:=rfl
attribute [local irreducible] He Rp Lib.compact Q7
theorem x1m(T:Nat)(l:List Prd)(i:Nat)(hi:i<T)(hT:T≤16)(hl:∀p∈l,PCk T p)(hn:l.length≤256):PC Tryz.prog 166 [LP l,.i i] (fun r=>r=LI (Q9 l i)):=by
 refine Qh tOk Tryz.func166 rfl Tryz.results166 rfl (by simp[Tryz.ntmps166]) ?_;rw[Tryz.ntmps166];simp only[Qe];repeat first|(refine r_ ?_;simp)|refine q_ ?_
 have h2:He (Q7 (l.take 0) i)=[-1099511627776,1099511627777]:=by rw[xU,A3,He];rfl
 have zi:=Ae hl i;refine Ql (Qb (sl':=[(0,LP l),(1,.i i),(5,.sl 0 1 0 (He (Q7 (l.take 0) i)).length),(11,LP l),(12,.i l.length),(13,.i (0:Nat))]) ?_ (by rw[h2];simp));refine Qm (F:=fun(u:Nat×Nat×List AObj)=>⟨[(0,LP l),(1,.i i),(5,.sl u.2.1 1 0 (He (Q7 (l.take u.1) i)).length),(11,LP l),(12,.i l.length),(13,.i u.1)],u.2.2⟩)
  (fun u=>u.1≤l.length∧SL [] u.2.2 u.2.1 3 1 ((He (Q7 (l.take u.1) i)).map (AV.int .i64))) (fun u=>l.length - u.1) ?_ (0,0,_) ⟨by simp,by rw[h2];exact⟨rfl,by simp,fun j hj=>by simp at hj⟩⟩
 rintro⟨j,q,H2⟩ ⟨hj,g⟩ ih;simp only at hj g ih ⊢;repeat first|(refine r_ ?_;simp)|refine q_ ?_
 refine Qa rfl (fun zj=> ?_) (fun zk=> ?_)
 ·have z6:j<l.length:=by simpa using zj
  have hw:IntKind.i64.wrap ((j:Int)+1)=j+1:=wrap_i64 _ (by omega) (by omega);have hp:=hl _ (zG z6);have z8:i<l[j].length:=by rw[hp.1];exact hi
  have hs:=hp.2 _ (zG z8);have hst:=Gx z6 z8;have za:=Ae (l:=l.take j) (fun p hp=>hl p (yU hp)) i;rw[yY]at za;have zf:=hs.len;have zb:=fun k hk=>hs.iv (j:=k) hk;repeat first|(refine r_ ?_;simp[z6,z8])|refine q_ ?_
  generalize l[j][i]=s at *;generalize hA:Q7 (l.take j) i=A at *;refine Ql (Qb (sl':=[(0,LP l),(1,.i i),(5,.sl q 1 0 (He (A++s.take 0)).length),(11,LP l),(12,.i l.length),(13,.i j),(21,LIv s),(22,.i s.length),(23,.i (0:Nat))]) ?_ (by simp))
  refine Qm (F:=fun(u:Nat×Nat×List AObj)=>⟨[(0,LP l),(1,.i i),(5,.sl u.2.1 1 0 (He (A++s.take u.1)).length),(11,LP l),(12,.i l.length),(13,.i j),(21,LIv s),(22,.i s.length),(23,.i u.1)],u.2.2⟩)
   (fun u=>u.1≤s.length∧SL [] u.2.2 u.2.1 3 1 ((He (A++s.take u.1)).map (AV.int .i64))) (fun u=>s.length - u.1) ?_ (0,q,_) ⟨by simp,by rw[xU,List.append_nil];exact g.add _⟩
  rintro⟨m,q',H3⟩ ⟨hm,g'⟩ ih';simp only at hm g' ih' ⊢;repeat first|(refine r_ ?_;simp)|refine q_ ?_
  refine Qa rfl (fun zc=> ?_) (fun zd=> ?_)
  ·have z1:m<s.length:=by simpa using zc
   have zl:IntKind.i64.wrap ((m:Int)+1)=m+1:=wrap_i64 _ (by omega) (by omega);obtain⟨b1,b2,b3⟩:=zb m z1;have zm:IntKind.i64.wrap (s[m].hi+1)=s[m].hi+1:=wrap_i64 _ (by omega) (by omega);have zn:He (A++s.take (m+1))=He (A++s.take m)++[s[m].lo,s[m].hi+1]:=by rw[zJ z1,←List.append_assoc,g0k]
   have zg:=Dw (A++s.take m);rw[zW,yY]at zg;have zh:=fun q' H'=>ih' (m+1,q',H');simp only[zn]at zh;generalize He (A++s.take m)=acc at *
   repeat first|(refine r_ ?_;simp[z1,zm])|refine q_ ?_
   refine Qf tOk rfl rfl T47 rfl T3 rfl (by decide) (by decide) rfl rfl rfl ?_;simp[Qd g'.arr,Qk g'.arr];refine⟨by simp[Wu,Qd g'.arr,Qk g'.arr]<;>omega,?_⟩;repeat first|(refine r_ ?_;simp[zl])|refine q_ ?_
   refine Qb (sl':=[(0,LP l),(1,.i i),(5,.sl (H3.length+2) 1 0 (acc.length+2)),(11,LP l),(12,.i l.length),(13,.i j),(21,LIv s),(22,.i s.length),(23,.i (m+1:Nat))]) ?_ (by simp);have:=zh (H3.length+2) _ ⟨by omega,g'.put [AObj.vars [AV.i s[m].lo,AV.i s[m].hi],AObj.arr 3 1 [AV.i s[m].lo,AV.i (s[m].hi+1)]] _ rfl⟩ (by omega);simpa using this
  ·have z7:m=s.length:=by simp at zd;omega
   subst z7;rw[zX]at g' ⊢;repeat first|(refine r_ ?_;simp[hw])|refine q_ ?_
   refine Qb (sl':=[(0,LP l),(1,.i i),(5,.sl q' 1 0 (He (A++s)).length),(11,LP l),(12,.i l.length),(13,.i (j+1:Nat))]) ?_ (by simp);have:=ih (j+1,q',H3) ⟨by omega,by rw[hst];exact g'⟩ (by show l.length - (j+1)<l.length - j;omega);rw[hst]at this;exact this
 ·have ze:j=l.length:=by simp at zk;omega
  subst ze;rw[zX]at g ⊢;have zg:=Dw (Q7 l i);rw[←Zh];generalize He (Q7 l i)=acc at *
  repeat first|(refine r_ ?_;simp)|refine q_ ?_
  refine We rfl rfl (H6 H2 q acc g.arr (by omega)) rfl ?_;rintro r H' ⟨rfl,rfl⟩;simp;repeat first|(refine r_ ?_;simp)|refine q_ ?_
  have g2:=Qq g.arr (.arr 3 1 ((Rp acc).map (AV.int .i64)));have zf:=U3 acc;rw[←zf];refine We rfl rfl (Af _ q (Rp acc) g2 (by omega) (Uj _)) rfl ?_;rintro r H' ⟨rfl,G,rfl⟩;simp;have g3:=Qq g.arr (.arr 3 1 ((Lib.compact (Rp acc)++G).map (AV.int .i64)));repeat first|(refine r_ ?_;simp)|refine q_ ?_
  rw[yM]at g3;simp[g3]
end Go.Abs
namespace Go.Abs
open Go Go.Proofs
attribute [simp] c11 T5 T9
def sb(b:Bool):UInt8:=if b then 1 else 0
def sgB(bs:List Bool):List UInt8:=bs.map sb
theorem g04:∀ {a b:List Bool},sgB a=sgB b→a=b
 |[],[],_=>rfl
 |[],_::_,h=>by simp[sgB]at h
 |_::_,[],h=>by simp[sgB]at h
 |x::a,y::b,h=>by simp only[sgB,List.map_cons,List.cons.injEq]at h;obtain⟨h1,h2⟩:=h;rw[g04 (a:=a) (b:=b) h2];cases x<;>cases y<;>simp[sb]at h1 ⊢
theorem Lb(bs:List Bool):(sgB bs).length=bs.length:=by simp[sgB]
def sgJ(bs:List Bool)(j:Nat):List AV:=(sgB (bs.take j)++zT (bs.length - j) 0).map byteAV
theorem v1y{bs:List Bool}{j:Nat}(h:j≤bs.length):(sgJ bs j).length=bs.length:=by simp[sgJ,sgB];omega
theorem d0x(bs:List Bool):zT bs.length (AV.int .u8 0)=sgJ bs 0:=by simp[sgJ,sgB]
theorem v1x(bs:List Bool):sgJ bs bs.length=(sgB bs).map byteAV:=by simp[sgJ]
theorem q2d{bs:List Bool}{j:Nat}(h:j<bs.length)(hb:bs[j]=true):(sgJ bs j).set j (AV.int .u8 1)=sgJ bs (j+1):=by
 have h1:(sgB (bs.take j)).length=j:=by simp[sgB];omega
 have e:bs.length - j=(bs.length - (j+1))+1:=by omega
 unfold sgJ;rw[yM,List.set_append_right (h:=by simp[h1]),zJ h,e,u3];have hm:j - min j bs.length=0:=by omega
 simp[h1,sgB,hb,sb,byteAV,hm]
theorem v1j{bs:List Bool}{j:Nat}(h:j<bs.length):(sgJ bs j)[j]? =some (AV.int .u8 0):=by
 have h1:(sgB (bs.take j)).length=j:=by simp[sgB];omega
 unfold sgJ;have e:bs.length - j=(bs.length - (j+1))+1:=by omega
 rw[yM,zC (by simp[h1]),e,u3];simp[h1]
theorem w2y{bs:List Bool}{j:Nat}(h:j<bs.length)(hb:bs[j]=false):sgJ bs j=sgJ bs (j+1):=by
 have e:bs.length - j=(bs.length - (j+1))+1:=by omega
 unfold sgJ;rw[zJ h,e,u3];simp[sgB,hb,sb]
theorem x1t{l:List Prd}{i j:Nat}(n:Int)(hj:j<l.length)(hi:i<l[j].length)(h:j<(Up l i n).length):(Up l i n)[j]=Ol l[j][i] n:=by simp[Up,yR,hi]
attribute [local irreducible] sgJ sgB Ol Up
theorem Xq(T:Nat)(l:List Prd)(i:Nat)(n:Int)(hi:i<T)(hT:T≤16)(hl:∀p∈l,PCk T p)(hn:l.length≤256):PC Tryz.prog 167 [LP l,.i i,.i n] (fun r=>r= .str (sgB (Up l i n))):=by
 refine Qh tOk Tryz.func167 rfl Tryz.results167 rfl (by simp[Tryz.ntmps167]) ?_;rw[Tryz.ntmps167];simp only[Qe];have z6:(Up l i n).length=l.length:=by simp[Up]
 repeat first|(refine r_ ?_;simp)|refine q_ ?_
 refine Ep tOk rfl rfl rfl c11 rfl T5 rfl rfl rfl (n:=l.length) (by simp;omega) (by unfold maxLen;omega) (.int .u8 0) rfl ?_;simp;rw[←z6,d0x];repeat first|(refine r_ ?_;simp)|refine q_ ?_
 refine Ql (Qb (sl':=[(1,.i i),(2,.i n),(7,.sl 0 1 0 l.length),(15,LP l),(16,.i l.length),(17,.i (0:Nat))]) ?_ (by simp[z6]));refine Qm (F:=fun(u:Nat×List AObj)=>⟨[(1,.i i),(2,.i n),(7,.sl 0 1 0 l.length),(15,LP l),(16,.i l.length),(17,.i u.1)],u.2⟩)
  (fun u=>u.1≤l.length∧u.2[0]? =some (.arr 5 1 (sgJ (Up l i n) u.1))) (fun u=>l.length - u.1) ?_ (0,_) ⟨by simp,rfl⟩
 rintro⟨j,H2⟩ ⟨hj,g⟩ ih;simp only at hj g ih ⊢;have ze:=v1y (bs:=Up l i n) (j:=j) (by omega);repeat first|(refine r_ ?_;simp)|refine q_ ?_
 refine Qa rfl (fun zg=> ?_) (fun zh=> ?_)
 ·have z1:j<l.length:=by simpa using zg
  have hw:IntKind.i64.wrap ((j:Int)+1)=j+1:=wrap_i64 _ (by omega) (by omega);have hp:=hl _ (zG z1);have za:i<l[j].length:=by rw[hp.1];exact hi
  have hs:=hp.2 _ (zG za);have zi:=x1t n z1 za (by omega);have hT:=q2d (bs:=Up l i n) (j:=j) (by omega);have hF:=w2y (bs:=Up l i n) (j:=j) (by omega);rw[zi]at hT hF;have zb:z1i l[j][i] n=(Ol l[j][i] n,0):=by rw[z1i,if_pos ((Xu _).2 hs)]
  have z7:=fun H'=>ih (j+1,H');simp only at z7;repeat first|(refine r_ ?_;simp[z1,za])|refine q_ ?_
  refine Qc rfl rfl (by simp) (F2 l[j][i] n) rfl ?_;rintro _ rfl;simp;rw[zb];generalize Ol l[j][i] n=b at *
  repeat first|(refine r_ ?_;simp)|refine q_ ?_
  have gL:∀L,(H2++L)[0]? =some (.arr 5 1 (sgJ (Up l i n) j)):=fun L=>Qd g L;cases b with
  |true=>
   rw[←hT rfl]at z7;clear hT hF;refine Qa rfl (fun _=> ?_) (fun h=>by cases h);have zc:=v1j (bs:=Up l i n) (j:=j) (by omega);have zj:∀hh,(sgJ (Up l i n) j)[j]'hh=AV.int .u8 0:=fun hh=>by rw[zF hh]at zc;exact Option.some.inj zc
   have gL1:∀L hh,(H2++L)[0]'hh= .arr 5 1 (sgJ (Up l i n) j):=fun L hh=>by have:=gL L;rw[zF hh]at this;exact Option.some.inj this
   repeat first|(refine r_ ?_;simp[gL,gL1,ze,z1,z6,zc,zj,hw])|refine q_ ?_
   refine Qb (sl':=[(1,.i i),(2,.i n),(7,.sl 0 1 0 l.length),(15,LP l),(16,.i l.length),(17,.i (j+1:Nat))]) ?_ (by simp);exact z7 _ ⟨by omega,Qq (gL _) _⟩ (by omega)
  |false=>
   rw[←hF rfl]at z7;refine Qa rfl (fun h=>by cases h) (fun _=> ?_);repeat first|(refine r_ ?_;simp[hw])|refine q_ ?_
   refine Qb (sl':=[(1,.i i),(2,.i n),(7,.sl 0 1 0 l.length),(15,LP l),(16,.i l.length),(17,.i (j+1:Nat))]) ?_ (by simp);exact z7 _ ⟨by omega,gL _⟩ (by omega)
 ·have zd:j=l.length:=by simp at zh;omega
  subst zd;have z8:=v1x (Up l i n);rw[z6]at z8;rw[z8]at g ze;have zf:=Lb (Up l i n);generalize sgB (Up l i n)=s at *
  repeat first|(refine r_ ?_;simp)|refine q_ ?_
  refine Bn tOk rfl rfl c11 rfl T5 rfl T9 rfl rfl (s:=s) (by simp[g,zf,z6];rw[zM (by simp[zf,z6])]) rfl ?_;simp;repeat first|(refine r_ ?_;simp)|refine q_ ?_
end Go.Abs
namespace Go.Abs
open Go Go.Proofs Go.RowKit Go.Shelf Go.Lib Go.Sort
theorem V8(x y:Iv)(W:World):Calls Tryz.prog 175 #[.agg #[.int .i64 x.lo,.int .i64 x.hi],.agg #[.int .i64 y.lo,.int .i64 y.hi]] W fun e w'=>e= .returned (.int .i64 (Lib.compareInt x.lo y.lo))∧∃q os',w'=grow (W.drewN q) os':=by
 have z1:=fun W'=>Tryz.cmp_Compare_int x.lo y.lo W';generalize Lib.compareInt x.lo y.lo=r at z1 ⊢
 go_enter Tryz.func175,Tryz.ntmps175
 go_wp2_with (go_at_call 133;refine(z1 _).mono ?_;rintro e w' ⟨rfl,rfl⟩)
 go_ret
 exact⟨rfl,0,_,by rw[alloc_eq_grow,alloc_eq_grow,grow_grow];rfl⟩
theorem w1s(H:List AObj)(p:Nat)(l:List Iv)(hp:H[p]? =some (.arr 144 2 (l.map encIv)))(hl:l.length≤1000000):
  FC Tryz.prog 174 [.sl p 2 0 l.length,.fn (.func 175) [] []] H
   (fun r H'=>r= .tup []∧∃l':List Iv,l'.Perm l∧B4 l'∧H'=H.set p (.arr 144 2 (l'.map encIv))):=by
 refine(z19 (xs:=l.map encIv) (Yd Tryz.func174 rfl rfl) (by simp) hp (f1s l) [.func (.func 175) #[] #[]] (fun w I m vs a b=>V7 _ w I m _ vs a b) (fun z1=>∃l':List Iv,l'.Perm l∧B4 l'∧z1=l'.map encIv) ?_ ?_).mono ?_
 ·intro b cap w hH hb hc;have eg:∀args w,(callFunc 175 args).run Tryz.prog w= .ok (.enter 175 args) w:=enters_of Tryz.func175 (by kernel_rfl) rfl;have:=AnyQ.slices_SortFunc Tryz.sortIv 2 Tryz.isAgg144 Tryz.sizeOf144 Me (fun _=>rfl) (fun x v hv=>by simp[Me]at hv;rcases hv with rfl|rfl<;>rfl) (fun x y=>Lib.compareInt x.lo y.lo) w2u 175 #[] b 0 cap l.toArray w eg (fun _ _ _ _ x y=>V8 x y _) hH hb (by simp;omega);change Calls Tryz.prog 174 _ _ _ at this;rw[show(l.toArray).size=l.length by simp]at this;refine Calls.mono (this) ?_;rintro e w' ⟨rfl,d',n,os,h1,h2,rfl⟩;obtain⟨s1,_,s3⟩:=h1;have hs:d'.toList.length=l.length:=by simpa using s1
  refine⟨rfl,d'.toList.map encIv,flatK Me 2 d',n,os,⟨d'.toList,?_,?_,rfl⟩,by simp[hs],by simpa using f1s d'.toList,rfl⟩
  ·rw[show d'.extract 0 l.length=d' by simp[←hs],show l.toArray.extract 0 l.length=l.toArray by simp]at s3;simpa using s3
  ·refine List.pairwise_iff_getElem.2 fun i j hi hj z6=> ?_;have:=h2 i j (Nat.zero_le _) z6 (by omega);rw[c1y,getElem!_pos d' i (by simpa using hi),getElem!_pos d' j (by simpa using hj)]at this;simpa using this
 ·rintro h;have z7:l=[]:=by simpa using h
  subst z7;exact⟨⟨[],.refl _,.nil,rfl⟩,fun w=>AnyF.slices_SortFunc_none Tryz.sortIv none 0 _ w⟩
 ·rintro r H' ⟨rfl,z1,⟨l',h1,h2,rfl⟩,rfl⟩;exact⟨rfl,l',h1,h2,rfl⟩
end Go.Abs
namespace Go.Abs
open Go Go.Proofs
theorem X2(l l':List Iv)(z1:∀y∈l,y.lo≤y.hi)(hp:l'.Perm l)(hl:B4 l'):Q1 [] l'=E6 l:=
 G3 l' (Em l) [] (hp.trans (Iz l).1.symm) hl (Iz l).2 (fun y hy=>z1 y (hp.mem_iff.1 hy))
theorem SL.upd{K G:List AObj}{p e sz:Nat}{xs:List AV}(h:SL K G p e sz xs)(L:List AObj)(ys:List AV):SL K (G.set p (.arr e sz ys)++L) p e sz ys:=by have hp:=(zA.1 h.arr).1;have z1:=h.ge;refine⟨by rw[zE (by simpa using hp)];exact zH hp,z1,fun j hj=> ?_⟩;rw[zE (by simp;omega),zB (by omega)];exact h.keep j hj
attribute [local irreducible] W3 Q1 E6
theorem Vj(H:List AObj)(q:Nat)(l:List Iv)(hq:H[q]? =some (.arr 144 2 (l.map encIv)))(hl:l.length≤1000000)(zf:∀y∈l,O4 y∧y.lo≤y.hi):
  FC Tryz.prog 110 [.sl q 2 0 l.length] H (fun r H'=>r=LIv (E6 l)∧H.length≤H'.length∧∀i,i<H.length→i≠q→H'[i]? =H[i]?):=by
 refine Ef tOk Tryz.func110 rfl Tryz.results110 rfl (by simp[Tryz.ntmps110]) ?_;rw[Tryz.ntmps110];simp only[Qe];repeat first|(refine r_ ?_;simp)|refine q_ ?_
 refine We rfl rfl (w1s H q l hq hl) rfl ?_;rintro r H' ⟨rfl,l',h1,h2,rfl⟩;simp;have hl':l'.length≤1000000:=by rw[h1.length_eq];exact hl
 have zl:=h1.length_eq;have zc:∀y∈l',O4 y:=fun y hy=>(zf y (h1.mem_iff.1 hy)).1;rw[←X2 l l' (fun y hy=>(zf y hy).2) h1 h2,←zl];have g0:=Qq hq (.arr 144 2 (l'.map encIv));have z7:∀i,i≠q→(H.set q (.arr 144 2 (l'.map encIv)))[i]? =H[i]? :=fun i hi=>zB (fun e=>hi e.symm);have hlen:(H.set q (.arr 144 2 (l'.map encIv))).length=H.length:=by simp
 generalize H.set q (.arr 144 2 (l'.map encIv))=H1 at *
 repeat first|(refine r_ ?_;simp)|refine q_ ?_
 refine Q3 (sl':=[(2,.nils),(3,.nils),(9,.sl q 2 0 l'.length),(10,.i l'.length),(11,.i (0:Nat))]) ?_ (by simp);refine Et q g0 ?_;simp;rw[zM (by simp)];have z1:∀i,i<H.length→i≠q→(H1.set q .dead)[i]? =H[i]? :=fun i h1 h2=>by rw[zB (fun e=>h2 e.symm)];exact z7 i h2
 have z8:(H1.set q .dead).length=H.length:=by simp[hlen]
 generalize H1.set q .dead=K at *;refine Q6 3 144 2 rfl ?_
 simp;have hst:=SL.start K 144 2;refine Ql (Qb (sl':=[(3,.sl K.length 2 0 (Q1 [] (l'.take 0)).length),(9,LIv l'),(10,.i l'.length),(11,.i (0:Nat))]) ?_ (by simp[z8,Q1]));refine Qm (F:=fun(u:Nat×Nat×List AObj)=>⟨[(3,.sl u.2.1 2 0 (Q1 [] (l'.take u.1)).length),(9,LIv l'),(10,.i l'.length),(11,.i u.1)],u.2.2⟩)
  (fun u=>u.1≤l'.length∧SL K u.2.2 u.2.1 144 2 ((Q1 [] (l'.take u.1)).map encIv)) (fun u=>l'.length - u.1) ?_ (0,K.length,_) ⟨by simp,by rw[xU,Q1,List.foldl_nil];exact hst⟩
 rintro⟨j,p,G⟩ ⟨hj,g⟩ ih;simp only at hj g ih ⊢;repeat first|(refine r_ ?_;simp)|refine q_ ?_
 refine Qa rfl (fun zm=> ?_) (fun zg=> ?_)
 ·have za:j<l'.length:=by simpa using zm
  have hw:IntKind.i64.wrap ((j:Int)+1)=j+1:=wrap_i64 _ (by omega) (by omega);have zh:Q1 [] (l'.take (j+1))=W3 (Q1 [] (l'.take j)) l'[j]:=by rw[zJ za,Ov]
  have zi:(Q1 [] (l'.take j)).length≤j:=yO (Rl _ _) (by simp;omega);have zd:∀y∈Q1 [] (l'.take j),O4 y:=O8 _ _ (by simp) (fun y hy=>zc y (yU hy));have z6:=fun p' G'=>ih (j+1,p',G');simp only[zh]at z6;clear zh;generalize Q1 [] (l'.take j)=acc at *;generalize hx:l'[j]=x at *
  repeat first|(refine r_ ?_;simp[za,hx])|refine q_ ?_
  rcases List.eq_nil_or_concat acc with rfl|⟨ini,y,rfl⟩
  ·refine Qj tOk mixed [] (.val 0 (.val 1 (.val 2 (.val 3 (.val 4 (.val 5 (.val 6 (.val 7 (.val 8 (.val 9 (.val 10 (.val 11 (.val 12 (.val 13 (.done))))))))))))))) rfl (by kernel_rfl) ?_;simp;refine Qs rfl ?_;simp;repeat first|(refine r_ ?_;simp)|refine q_ ?_
   refine Qf tOk rfl rfl Ai rfl Hc rfl (by decide) (by decide) rfl rfl rfl ?_;simp[Qd g.arr,Qk g.arr];refine⟨by simp[Wu,Qd g.arr,Qk g.arr]<;>omega,?_⟩;repeat first|(refine r_ ?_;simp[hw])|refine q_ ?_
   refine Qb (sl':=[(3,.sl (G.length+2) 2 0 1),(9,LIv l'),(10,.i l'.length),(11,.i (j+1:Nat))]) ?_ (by simp);have:=z6 (G.length+2) _ ⟨by omega,by rw[W3];exact g.put [AObj.vars [AV.i x.lo,AV.i x.hi],AObj.arr 144 2 [encIv x]] _ rfl⟩ (by omega);rw[W3]at this;simpa using this
  ·have zn:=(Ec _).1 (zd y (by simp)).2;have zj:IntKind.i64.wrap (y.hi+1)=y.hi+1:=wrap_i64 _ (by omega) (by omega);have gA:=g.arr;rw[List.concat_eq_append]at g gA z6 zi ⊢;have hlen:(ini++[y]).length=ini.length+1:=by simp
   rw[hlen]at zi ⊢;have zk:IntKind.i64.wrap (ini.length:Int)=ini.length:=wrap_i64 _ (by omega) (by omega);have hg:((ini++[y]).map encIv)[ini.length]? =some (encIv y):=by simp
   have zb:(ini.length:Int)<ini.length+1:=by omega
   refine Qj tOk mixed [] (.val 0 (.val 1 (.val 2 (.val 3 (.val 4 (.val 5 (.val 6 (.val 7 (.val 8 (.val 9 (.val 10 (.val 11 (.val 12 (.val 13 (.done))))))))))))))) rfl (by kernel_rfl) ?_;simp[Qd gA,zk,hg,zj,zb];refine Qa rfl (fun h1=> ?_) (fun h1=> ?_)
   ·repeat first|(refine r_ ?_;simp)|refine q_ ?_
    refine Qj tOk mixed [14] (.val 0 (.val 1 (.val 2 (.val 3 (.val 4 (.val 5 (.val 6 (.val 7 (.val 8 (.val 9 (.val 10 (.val 11 (.val 12 (.val 13 (.one 14 (.done)))))))))))))))) rfl (by kernel_rfl) ?_;simp[Qd gA,zk,hg,zj,zb,Qk gA];repeat first|(refine r_ ?_;simp[hw])|refine q_ ?_
    have hR:W3 (ini++[y]) x=ini++[⟨y.lo,if y.hi<x.hi then x.hi else y.hi⟩]:=by rw[Ee,if_pos (by simpa using h1)]
    rw[hR]at z6;refine Qb (sl':=[(3,.sl p 2 0 (ini.length+1)),(9,LIv l'),(10,.i l'.length),(11,.i (j+1:Nat))]) ?_ (by simp);have:=z6 p _ ⟨by omega,g.upd [AObj.vars [AV.i x.lo,AV.i x.hi]] _⟩ (by omega);simpa using this
   ·repeat first|(refine r_ ?_;simp)|refine q_ ?_
    refine Qf tOk rfl rfl Ai rfl Hc rfl (by decide) (by decide) rfl rfl rfl ?_;simp[Qd gA,Qk gA];refine⟨by simp[Wu,Qd gA,Qk gA]<;>omega,?_⟩;repeat first|(refine r_ ?_;simp[hw])|refine q_ ?_
    have hR:W3 (ini++[y]) x=ini++[y]++[x]:=by rw[Ee,if_neg (by simpa using h1)]
    rw[hR]at z6;refine Qb (sl':=[(3,.sl (G.length+2) 2 0 (ini.length+2)),(9,LIv l'),(10,.i l'.length),(11,.i (j+1:Nat))]) ?_ (by simp);have:=z6 (G.length+2) _ ⟨by omega,g.put [AObj.vars [AV.i x.lo,AV.i x.hi],AObj.arr 144 2 [encIv x]] _ rfl⟩ (by omega);simpa using this
 ·have ze:j=l'.length:=by simp at zg;omega
  subst ze;rw[zX]at g ⊢;refine Et p g.arr ?_;simp;rw[zM (by simp)];repeat first|(refine r_ ?_;simp)|refine q_ ?_
  have zo:=(zA.1 g.arr).1;have zg:=g.ge;refine⟨by omega,fun i h1 h2=> ?_⟩;rw[zB (by omega),g.keep i (by omega)];exact z1 i h1 h2
end Go.Abs
namespace Go.Abs
open Go Go.Proofs
def Ho(F:Nat→List Iv)(T i:Nat):List AV:=(yD T).map fun k=>if k<i then encL (F k)else .nils
theorem w1x(F:Nat→List Iv)(T i:Nat):(Ho F T i).length=T:=by simp[Ho]
theorem f0y(F:Nat→List Iv)(T:Nat):zT T AV.nils=Ho F T 0:=by refine xZ (by simp[Ho]) fun k h1 h2=>by simp[Ho]
theorem z1u(F:Nat→List Iv){T i:Nat}(h:i<T):(Ho F T i)[i]? =some .nils:=by simp[Ho,h]
theorem d06(F:Nat→List Iv){T i:Nat}(h:i<T):(Ho F T i).set i (encL (F i))=Ho F T (i+1):=by
 refine xZ (by simp[Ho]) fun k h1 h2=> ?_;have hk:k<T:=by simpa[Ho]using h2
 rw[List.getElem_set];by_cases e:i=k
 ·subst e;simp[Ho]
 ·rw[if_neg e];simp only[Ho,List.getElem_map,List.getElem_range];by_cases h3:k<i
  ·rw[if_pos h3,if_pos (by omega)]
  ·rw[if_neg h3,if_neg (by omega)]
theorem N2(F:Nat→List Iv)(T:Nat):Ho F T T=((yD T).map F).map encL:=by
 refine xZ (by simp[Ho]) fun k h1 h2=> ?_;have hk:k<T:=by simpa[Ho]using h1
 simp[Ho,hk]
theorem k0v(F:Nat→List Iv)(T:Nat):(Ho F T T).all (fun x=>x.cells.all AV.pure)=true:=by rw[N2,zP];intro x hx;obtain⟨s,_,rfl⟩:=zN.1 hx;simp[AV.cells,AV.pure]
theorem v0c{T:Nat}{l:List Prd}(hl:∀p∈l,PWf T p){i:Nat}{y:Iv}(hy:y∈Q7 l i):O4 y∧y.lo≤y.hi:=by
 obtain⟨p,hp,hx⟩:=R5.1 hy;by_cases hi:i<p.length
 ·rw[Ww hi]at hx;exact⟨d1w (hl p hp) (zG hi) y hx,((hl p hp).2 _ (zG hi)).1.1 y hx⟩
 ·simp[yR,hi]at hx
theorem z10(T:Nat)(l:List Prd):(Z4 T l).length=T:=by simp[Z4]
attribute [local irreducible] E6 Q7 Z4 Ho
theorem q04(T:Nat)(l:List Prd)(hT:T≤16)(hl:∀p∈l,PWf T p)(hn:∀i,i<T→(Q7 l i).length≤1000000)(y1:l.length≤1000000):PC Tryz.prog 53 [.i T,LP l] (fun r=>r=encP (Z4 T l)):=by
 refine Qh tOk Tryz.func53 rfl Tryz.results53 rfl (by simp[Tryz.ntmps53]) ?_;rw[Tryz.ntmps53];simp only[Qe];simp only[encP];repeat first|(refine r_ ?_;simp)|refine q_ ?_
 refine Ep tOk rfl rfl rfl T68 rfl Ai rfl rfl rfl (n:=T) (by simp;omega) (by unfold maxLen;omega) .nils rfl ?_;simp;repeat first|(refine r_ ?_;simp)|refine q_ ?_
 rw[f0y (fun k=>E6 (Q7 l k))];refine L3 1 rfl ?_;simp;refine Ql (Qb (sl':=[(0,.i T),(1,LP l),(4,.vptr 0 0),(5,.vptr 2 0),(12,.i T),(13,.i (0:Nat))]) ?_ (by simp));refine Qm (F:=fun(u:Nat×List AObj)=>⟨[(0,.i T),(1,LP l),(4,.vptr 0 0),(5,.vptr 2 0),(12,.i T),(13,.i u.1)],u.2⟩)
  (fun u=>u.1≤T∧3≤u.2.length∧u.2[0]? =some (.vars [.nils])∧u.2[1]? =some (.va 145 1 (Ho (fun k=>E6 (Q7 l k)) T u.1))∧u.2[2]? =some (.vars [.sl 1 1 0 T])) (fun u=>T - u.1) ?_ (0,_) ⟨by simp,by simp,rfl,rfl,rfl⟩
 rintro⟨i,H2⟩ ⟨hi,hH,g0,g1,g2⟩ ih;simp only at hi hH g0 g1 g2 ih ⊢;repeat first|(refine r_ ?_;simp)|refine q_ ?_
 refine Qa rfl (fun zp=> ?_) (fun zq=> ?_)
 ·have z1:i<T:=by simpa using zp
  have hw:IntKind.i64.wrap ((i:Int)+1)=i+1:=wrap_i64 _ (by omega) (by omega);have zl:=d06 (fun k=>E6 (Q7 l k)) z1;have zr:=z1u (fun k=>E6 (Q7 l k)) z1;have z7:=w1x (fun k=>E6 (Q7 l k)) T i;have zd:=hn i z1;have ze:=fun H'=>ih (i+1,H');simp only[←zl]at ze;clear zl;generalize Ho (fun k=>E6 (Q7 l k)) T i=row at *
  repeat first|(refine r_ ?_;simp)|refine q_ ?_
  refine Pn 1 i 144 2 g1 zr ?_;refine Ql (Qb (sl':=[(0,.i T),(1,LP l),(4,.vptr 0 0),(5,.vptr 2 0),(6,.i i),(12,.i T),(13,.i i),(16,LP l),(17,.i l.length),(18,.i (0:Nat))]) ?_ (by simp));refine Qm (F:=fun(u:Nat×Nat×List AObj)=>⟨[(0,.i T),(1,LP l),(4,.vptr 0 0),(5,.vptr 2 0),(6,.i i),(12,.i T),(13,.i i),(16,LP l),(17,.i l.length),(18,.i u.1)],u.2.2⟩)
   (fun u=>u.1≤l.length∧3≤u.2.1∧u.2.2[0]? =some (.vars [.nils])∧u.2.2[1]? =some (.va 145 1 (row.set i (.sl u.2.1 2 0 (Q7 (l.take u.1) i).length)))∧u.2.2[2]? =some (.vars [.sl 1 1 0 T])∧u.2.2[u.2.1]? =some (.arr 144 2 ((Q7 (l.take u.1) i).map encIv))) (fun u=>l.length - u.1) ?_
   (0,H2.length,_) ⟨by simp,hH,Qg (by decide) (Qd g0 _) _,by rw[xU,A3];exact Qq (Qd g1 _) _,Qg (by decide) (Qd g2 _) _,by rw[xU,A3];simp only;rw[zB (i:=1) (j:=H2.length) (by omega)];simp⟩
  rintro⟨j,q,G⟩ ⟨hj,zt,k0,k1,k2,k3⟩ ih2;simp only at hj zt k0 k1 k2 k3 ih2 ⊢;repeat first|(refine r_ ?_;simp)|refine q_ ?_
  refine Qa rfl (fun zf=> ?_) (fun zg=> ?_)
  ·have z6:j<l.length:=by simpa using zf
   have zm:IntKind.i64.wrap ((j:Int)+1)=j+1:=wrap_i64 _ (by omega) (by omega);have hp:=hl _ (zG z6);have zh:i<l[j].length:=by rw[hp.1];exact z1
   have hst:=Gx z6 zh;have zi:(Q7 (l.take (j+1)) i).length≤1000000:=by refine yO ?_ zd;unfold Q7;rw[←xM (j+1) l,wZ,zW,xM];omega
   rw[hst,zW]at zi;have z8:=fun q' G'=>ih2 (j+1,q',G');simp only[hst]at z8;clear hst;repeat first|(refine r_ ?_;simp[z6,zh])|refine q_ ?_
   generalize hs:l[j][i]=s at *;generalize Q7 (l.take j) i=acc at *;refine Qj tOk mixed [13,15] (.val 0 (.val 2 (.val 3 (.val 4 (.val 5 (.val 6 (.val 7 (.val 8 (.val 9 (.val 10 (.val 11 (.val 12 (.two 1 (.one 13 (.val 14 (.one 15 (.done)))) 13 (.val 1 (.val 14 (.one 15 (.done))))))))))))))))) rfl (by kernel_rfl) ?_
   simp[Qd k1,Qd k2,z1,zh,z6,hs,z7];have zu:q≠0:=by omega
   have zv:q≠1:=by omega
   have zw:q≠2:=by omega
   have y2:=(zA.1 k3).1;have m0:∀L,(G.set q .dead++L)[0]? =some (AObj.vars [AV.nils]):=fun L=>Qd (Qg zu k0 _) L;have m1:∀L,(G.set q .dead++L)[1]? =some (.va 145 1 (row.set i (.sl q 2 0 acc.length))):=fun L=>Qd (Qg zv k1 _) L;have zc:∀L hh,(G.set q .dead++L)[1]'hh= .va 145 1 (row.set i (.sl q 2 0 acc.length)):=fun L hh=>by have:=m1 L;rw[zF hh]at this;exact Option.some.inj this
   have m2:∀L,(G.set q .dead++L)[2]? =some (AObj.vars [AV.sl 1 1 0 T]):=fun L=>Qd (Qg zw k2 _) L;have n2:∀L,(G++L)[2]? =some (AObj.vars [AV.sl 1 1 0 T]):=fun L=>Qd k2 L;refine⟨?_,?_⟩
   ·refine Qf tOk rfl rfl Ai rfl Hc rfl (by decide) (by decide) rfl rfl rfl ?_;simp[Qd k3,Qk k3,m0,m1,zc,m2,n2,z1,z7];refine⟨by simp[Wu,Qd k3,Qk k3,m0,m1,zc,m2,n2,z1,z7]<;>omega,?_⟩;repeat first|(refine r_ ?_;simp[zm])|refine q_ ?_
    refine Qb (sl':=[(0,.i T),(1,LP l),(4,.vptr 0 0),(5,.vptr 2 0),(6,.i i),(12,.i T),(13,.i i),(16,LP l),(17,.i l.length),(18,.i (j+1:Nat))]) ?_ (by simp);refine z8 (G.length+1) _ ⟨by omega,by omega,Qg (by decide) (m0 _) _,?_,Qg (by decide) (m2 _) _,?_⟩ (by omega)
    ·rw[Qq (m1 _) _];simp
    ·rw[zB (by omega),zC (by simp)];simp
   ·refine Qf tOk rfl rfl Ai rfl Hc rfl (by decide) (by decide) rfl rfl rfl ?_;simp[Qd k3,Qk k3,m0,m1,zc,m2,n2,z1,z7];refine⟨by simp[Wu,Qd k3,Qk k3,m0,m1,zc,m2,n2,z1,z7]<;>omega,?_⟩;repeat first|(refine r_ ?_;simp[zm])|refine q_ ?_
    refine Qb (sl':=[(0,.i T),(1,LP l),(4,.vptr 0 0),(5,.vptr 2 0),(6,.i i),(12,.i T),(13,.i i),(16,LP l),(17,.i l.length),(18,.i (j+1:Nat))]) ?_ (by simp);refine z8 (G.length+1) _ ⟨by omega,by omega,Qg (by decide) (m0 _) _,?_,Qg (by decide) (m2 _) _,?_⟩ (by omega)
    ·rw[Qq (m1 _) _];simp
    ·rw[zB (by omega),zC (by simp)];simp
  ·have zb:j=l.length:=by simp at zg;omega
   subst zb;rw[zX]at k1 k3;have zn:∀y∈Q7 l i,O4 y∧y.lo≤y.hi:=fun y hy=>v0c hl hy;have y3:∀L,(G++L)[2]? =some (AObj.vars [AV.sl 1 1 0 T]):=fun L=>Qd k2 L;have zx:∀hh,G[1]'hh= .va 145 1 (row.set i (.sl q 2 0 (Q7 l i).length)):=fun hh=>by rw[zF hh]at k1;exact Option.some.inj k1
   repeat first|(refine r_ ?_;simp)|refine q_ ?_
   refine Qj tOk mixed [8,10] (.val 0 (.val 2 (.val 3 (.val 4 (.val 5 (.val 6 (.val 7 (.two 1 (.one 8 (.val 9 (.one 10 (.done)))) 8 (.val 1 (.val 9 (.one 10 (.done)))))))))))) rfl (by kernel_rfl) ?_;simp[k1,zx,k2,z1,z7];refine⟨?_,?_⟩
   ·refine We rfl rfl (Vj G q (Q7 l i) k3 zd zn) rfl ?_;rintro r H' ⟨rfl,hl',za⟩;have zy:=(zA.1 k2).1;have u0:=(za 0 (by omega) (by omega)).trans k0;have u1:=(za 1 (by omega) (by omega)).trans k1;have u2:=(za 2 (by omega) (by omega)).trans k2;have zj:∀hh,H'[1]'hh= .va 145 1 (row.set i (.sl q 2 0 (Q7 l i).length)):=fun hh=>by rw[zF hh]at u1;exact Option.some.inj u1
    simp[u1,zj,u2,z1,z7];repeat first|(refine r_ ?_;simp[hw])|refine q_ ?_
    refine Qb (sl':=[(0,.i T),(1,LP l),(4,.vptr 0 0),(5,.vptr 2 0),(12,.i T),(13,.i (i+1:Nat))]) ?_ (by simp);exact ze _ ⟨by omega,by simp;omega,Qg (by decide) u0 _,Qq u1 _,Qg (by decide) u2 _⟩ (by omega)
   ·refine We rfl rfl (Vj G q (Q7 l i) k3 zd zn) rfl ?_;rintro r H' ⟨rfl,hl',za⟩;have zy:=(zA.1 k2).1;have u0:=(za 0 (by omega) (by omega)).trans k0;have u1:=(za 1 (by omega) (by omega)).trans k1;have u2:=(za 2 (by omega) (by omega)).trans k2;have zj:∀hh,H'[1]'hh= .va 145 1 (row.set i (.sl q 2 0 (Q7 l i).length)):=fun hh=>by rw[zF hh]at u1;exact Option.some.inj u1
    simp[u1,zj,u2,z1,z7];repeat first|(refine r_ ?_;simp[hw])|refine q_ ?_
    refine Qb (sl':=[(0,.i T),(1,LP l),(4,.vptr 0 0),(5,.vptr 2 0),(12,.i T),(13,.i (i+1:Nat))]) ?_ (by simp);exact ze _ ⟨by omega,by simp;omega,Qg (by decide) u0 _,Qq u1 _,Qg (by decide) u2 _⟩ (by omega)
 ·have zk:i=T:=by simp at zq;omega
  subst zk;refine P1 1 g1 (k0v _ _) ?_;rw[N2]at *
  have zz:(yD i).map (fun k=>E6 (Q7 l k))=Z4 i l:=by unfold Z4;rfl
  rw[zz]at *;refine Ws 1 (Qq g1 _) 2 (Qg (by decide) g2 _) ?_
  have zo:=z10 i l;have e0:∀Y,((H2.set 1 AObj.dead).set 2 Y)[0]? =some (AObj.vars [AV.nils]):=fun Y=>Qg (by decide) (Qg (by decide) g0 _) _;have y0:∀Y hh,((H2.set 1 AObj.dead).set 2 Y)[0]'hh=AObj.vars [AV.nils]:=fun Y hh=>by have:=e0 Y;rw[zF hh]at this;exact Option.some.inj this
  have e2:∀Y,((H2.set 1 AObj.dead).set 2 Y)[2]? =some Y:=fun Y=>Qq (Qg (by decide) g2 _) _;have e3:∀Y Z,(((H2.set 1 AObj.dead).set 2 Y).set 0 Z)[0]? =some Z:=fun Y Z=>Qq (e0 Y) _;simp[zo];rw[zM (by simp[zo])];repeat first|(refine r_ ?_;simp[e0,y0,e2,e3])|refine q_ ?_
end Go.Abs
namespace Go.Abs
open Go Go.Proofs
theorem SL.le{K G:List AObj}{p e sz:Nat}{xs:List AV}(h:SL K G p e sz xs):K.length≤G.length:=by have:=(zA.1 h.arr).1;have:=h.ge;omega
attribute [local irreducible] upL W7 Re
end Go.Abs
namespace Go.Abs
open Go Go.Proofs
attribute [local irreducible] y1o
theorem Bt(H:List AObj)(f:Nat)(a:Aut)(hf:H[f]? =some (.arr 4 1 (a.fin.map .bool)))(zd:a.fin.length≤1000000)(ze:a.mv.length≤1000000):
  FC Tryz.prog 54 [.agg [.i a.types,.sl f 1 0 a.fin.length,.list (a.mv.map encMv)]] H
   (fun r H'=>((Xp a=true∧r= .tup [.agg [.i 0,.nils,.nils],.i 5])∨(Xp a=false∧r= .tup [.agg [.i a.types,.sl f 1 0 a.fin.length,.list (a.mv.map encMv)],.i 0]))∧∀i,i<H.length→H'[i]? =H[i]?):=by
 refine Ef tOk Tryz.func54 rfl Tryz.results54 rfl (by simp[Tryz.ntmps54]) ?_;rw[Tryz.ntmps54];simp only[Qe];repeat first|(refine r_ ?_;simp)|refine q_ ?_
 refine Qa rfl (fun h=> ?_) (fun h=> ?_)
 ·repeat first|(refine r_ ?_;simp)|refine q_ ?_
  have hb:Xp a=true:=by rw[Ng,ws];left;simp at h ⊢;omega
  exact⟨hb,fun i hi=>zE hi⟩
 have hb:(decide (256<a.fin.length) || decide (2048<a.mv.length))=false:=by simp at h ⊢;omega
 repeat first|(refine r_ ?_;simp)|refine q_ ?_
 refine Ql (Qb (sl':=[(1,.vptr H.length 0),(2,.vptr (H.length+1) 0),(18,.list (a.mv.map encMv)),(19,.i a.mv.length),(20,.i (0:Nat))]) ?_ (by simp));refine Qm (F:=fun(u:Nat×List AObj)=>⟨[(1,.vptr H.length 0),(2,.vptr (H.length+1) 0),(18,.list (a.mv.map encMv)),(19,.i a.mv.length),(20,.i u.1)],u.2⟩)
  (fun u=>u.1≤a.mv.length∧H.length+2≤u.2.length∧(∀i,i<H.length→u.2[i]? =H[i]?)∧u.2[H.length]? =some (.vars [.i a.types,.sl f 1 0 a.fin.length,.list (a.mv.map encMv)])∧u.2[H.length+1]? =some (.vars [.i 0,.nils,.nils])∧∀i,∀hi:i<a.mv.length,i<u.1→y1o a.mv[i]=false) (fun u=>a.mv.length - u.1) ?_ (0,_)
  ⟨by simp,by simp,fun i hi=>zE hi,by simp,by simp,fun i hi h=>by omega⟩
 rintro⟨j,G⟩ ⟨hj,hG,k0,k1,k2,hI⟩ ih;simp only at hj hG k0 k1 k2 hI ih ⊢;repeat first|(refine r_ ?_;simp)|refine q_ ?_
 refine Qa rfl (fun za=> ?_) (fun zb=> ?_)
 ·have z1:j<a.mv.length:=by simpa using za
  have hw:IntKind.i64.wrap ((j:Int)+1)=j+1:=wrap_i64 _ (by omega) (by omega);repeat first|(refine r_ ?_;simp[z1])|refine q_ ?_
  refine Qc rfl rfl (by simp) (Cd a.mv[j].on 112 (fun s=>decide (256<s.length)) v1i) rfl ?_;rintro _ rfl;simp;repeat first|(refine r_ ?_;simp)|refine q_ ?_
  have z8:∀L,(G++L)[H.length+1]? =some (.vars [.i 0,.nils,.nils]):=fun L=>Qd k2 L;refine Qa rfl (fun h=> ?_) (fun h=> ?_)
  ·have k3:∀L Y,((G++L).set (H.length+1) Y)[H.length+1]? =some Y:=fun L Y=>Qq (z8 L) Y;repeat first|(refine r_ ?_;simp[z8,k3])|refine q_ ?_
   have hm:y1o a.mv[j]=true:=by unfold y1o;exact h
   have z6:Xp a=true:=by rw[Ng,ws];right;exact wR.2 ⟨_,zG z1,hm⟩
   exact⟨z6,fun i hi=>by rw[zB (by omega),zE (by omega)];exact k0 i hi⟩
  ·have hm:y1o a.mv[j]=false:=by unfold y1o;exact h
   repeat first|(refine r_ ?_;simp[hw])|refine q_ ?_
   refine Qb (sl':=[(1,.vptr H.length 0),(2,.vptr (H.length+1) 0),(18,.list (a.mv.map encMv)),(19,.i a.mv.length),(20,.i (j+1:Nat))]) ?_ (by simp);refine ih (j+1,_) ⟨by simp only;omega,by simp;omega,fun i hi=>(zE (by omega)).trans (k0 i hi),Qd k1 _,Qd k2 _,fun i hi zc=> ?_⟩ (by simp only;omega);by_cases e:i=j
   ·subst e;exact hm
   ·exact hI i hi (by simp only at zc;omega)
 ·have z7:j=a.mv.length:=by simp at zb;omega
  subst z7;have z6:Xp a=false:=by rw[Ng,hb,Bool.false_or,wU];intro m hm;obtain⟨i,hi,rfl⟩:=yH hm;rw[hI i hi hi];simp
  have k3:∀Y,(G.set (H.length+1) Y)[H.length+1]? =some Y:=fun Y=>Qq k2 Y;repeat first|(refine r_ ?_;simp[k1,k2,k3])|refine q_ ?_
  exact⟨z6,fun i hi=>by rw[zB (by omega)];exact k0 i hi⟩
end Go.Abs
