/- Part Pf of the proof: an abstract machine over the model, and what the functions of the program hand back in its terms. No condition. -/
import Derived.Test.YtjmkolhkojgjpaaGreatDoorPe
import Derived.Test.YtjmkolhkojgjpaaGreatDoorPc
import Derived.Test.YtjmkolhkojgjpaaGreatDoorPd
set_option linter.all false
open List renaming getElem?_eq_some_iff→zA,getElem?_set_self→zH,getElem?_set_ne→zB,getElem?_append_left→zE,getElem?_append_right→zC,range→yD,ext_getElem→xX,getD→yT,cons_append→vB,nil_append→xW,getElem?_eq_getElem→zD,getElem_mem→zG,take_of_length_le→zM,map_const'→vH,length_map→zV,all_eq_false→wR,mem_range→yL,all_eq_true→zP,getElem_of_mem→yG,take→tM,findIdx?_eq_some_iff_getElem→wd,findIdx?_eq_none_iff→uu,any_eq_false→wT,any_eq_true→wQ,take_succ_eq_append_getElem→zJ,filter_append→uX,map_append→yF,take_zero→wK,length_take→yP,take_length→zZ,mem_of_getElem?→zF,mem_map→zK,replicate→zU,flatMap_append→wY,length_append→zW,mem_of_mem_take→yW,replicate_succ→u3,take_append_drop→xE
open Nat renaming le_refl→zL,le_trans→yO
open Bool renaming false_and→ut,true_and→uy,eq_false_iff→wU,and_eq_true→zR,eq_iff_iff→xR,or_eq_true→wp
open Int renaming le_refl→yI
set_option maxHeartbeats 4000000
set_option linter.unusedSimpArgs false
set_option maxRecDepth 100000
namespace Go.Abs
open Go Go.Proofs
structure GL (K G:List AObj) (S p:Nat) (pre post:List AV) (e sz:Nat) (xs:List AV):Prop where
 cell:G[S]? =some (.vars (pre++ .sl p sz 0 xs.length::post))
 arr:G[p]? =some (.arr e sz xs)
 ge:K.length≤p
 lt:S<K.length
 len:K.length≤G.length
 keep:∀j,j<K.length→j≠S→G[j]? =K[j]?
theorem GL.kp{K G:List AObj}{S p:Nat}{pre post:List AV}{e sz:Nat}{xs:List AV}(h:GL K G S p pre post e sz xs){j:Nat}{x:AObj}(hj:j≠S)(hx:K[j]? =some x):G[j]? =some x:=by rw[h.keep j (zA.1 hx).1 hj];exact hx
theorem GL.start{K:List AObj}{S:Nat}(pre post:List AV)(e sz:Nat)(h:S<K.length):GL K ((K++[AObj.arr e sz []]).set S (.vars (pre++ .sl K.length sz 0 0::post))) S K.length pre post e sz []:=
 ⟨zH (by simp;omega),by rw[zB (by omega)];simp,zL _,h,by simp,fun j hj z1=>by
  rw[zB (fun e=>z1 e.symm),zE hj]⟩
theorem GL.put{K G:List AObj}{S p:Nat}{pre post:List AV}{e sz:Nat}{xs:List AV}(h:GL K G S p pre post e sz xs)(A:AObj)(y:AV){n:Nat}(hn:n=xs.length):
  GL K ((G.set p .dead++[A,AObj.arr e sz (xs++[y])]).set S (.vars (pre++ .sl (G.length+1) sz 0 (n+1)::post))) S (G.length+1) pre post e sz (xs++[y]):=by
 have hl:=h.len;have z6:=h.lt;have z7:=h.ge;subst hn;refine⟨by rw[zH (by simp;omega)];simp,by rw[zB (by omega),zC (by simp)];simp,by omega,z6,by simp;omega,fun j hj z1=> ?_⟩;rw[zB (fun e=>z1 e.symm),zE (by simp;omega),zB (by omega)];exact h.keep j hj z1
theorem GL.at{K G:List AObj}{S p:Nat}{pre post:List AV}{e sz:Nat}{xs:List AV}(h:GL K G S p pre post e sz xs)(L:List AObj):(G.set p .dead++L)[S]? =some (.vars (pre++ .sl p sz 0 xs.length::post)):=by have hl:=h.len;have z1:=h.lt;have z6:=h.ge;rw[zE (by simp;omega),zB (by omega)];exact h.cell
def upL(F:Nat→List Iv)(j:Nat):List AV:=(yD j).map fun i=>encL (F i)
theorem D3(F:Nat→List Iv)(j:Nat):upL F (j+1)=upL F j++[encL (F j)]:=by simp[upL,List.range_succ]
theorem Ea(F:Nat→List Iv)(j:Nat):(upL F j).length=j:=by simp[upL]
theorem Lk(F:Nat→List Iv)(n:Nat):upL F n=((yD n).map F).map encL:=by simp[upL]
theorem q05{α β:Type}(d:α)(f:α→β)(p:List α):(yD p.length).map (fun i=>f (p.getD i d))=p.map f:=by
 refine xX (by simp) fun i h1 h2=> ?_;have h:i<p.length:=by simpa using h1
 simp[yT,h]
theorem Dy(F:Nat→List Iv):upL F 0=[]:=rfl
attribute [local irreducible] upL
theorem Z6(T:Nat)(p:Prd)(hp:PWf T p)(hl:∀s∈p,s.length≤1000000000)(hT:T≤1000):PC Tryz.prog 220 [encP p] (fun r=>r=encP (W2 p)):=by
 refine Qh tOk Tryz.func220 rfl Tryz.results220 rfl (by simp[Tryz.ntmps220]) ?_;rw[Tryz.ntmps220];simp only[Qe];simp only[encP];have hlen:=hp.1;repeat first|(refine r_ ?_;simp)|refine q_ ?_
 refine R8 2 0 145 1 rfl rfl ?_;simp;obtain⟨K,hK⟩:∃K,K=[AObj.vars [.list (p.map encL)],AObj.vars [AV.nils],AObj.vars [AV.nils]]:=⟨_,rfl⟩
 have hst:=GL.start (K:=K) (S:=2) [] [] 145 1 (by rw[hK];simp);refine Qm (Qb (sl':=[(1,.vptr 0 0),(2,.vptr 1 0),(3,.vptr 2 0),(4,.i 0)]) ?_ (by simp));refine Ql (F:=fun(u:Nat×Nat×List AObj)=>⟨[(1,.vptr 0 0),(2,.vptr 1 0),(3,.vptr 2 0),(4,.i u.1)],u.2.2⟩)
  (fun u=>u.1≤p.length∧GL K u.2.2 2 u.2.1 [] [] 145 1 (upL (fun i=>W9 (p.getD i [])) u.1)) (fun u=>p.length - u.1) ?_ (0,K.length,_) ⟨by simp,by rw[Dy,hK]at *;exact hst⟩
 rintro⟨j,q,H2⟩ ⟨hj,g⟩ ih;simp only[vB,xW]at hj g ih ⊢;have g0:H2[0]? =some (AObj.vars [.list (p.map encL)]):=g.kp (by decide) (by rw[hK];rfl);have gR:H2[1]? =some (AObj.vars [AV.nils]):=g.kp (by decide) (by rw[hK];rfl);have g2:=g.cell;have g3:=g.arr;rw[Ea]at g2;simp only[xW]at g2;repeat first|(refine r_ ?_;simp[g0])|refine q_ ?_
 refine Qa rfl (fun ze=> ?_) (fun zf=> ?_)
 ·have z1:j<p.length:=by simpa using ze
  have hw:IntKind.i64.wrap ((j:Int)+1)=j+1:=wrap_i64 _ (by omega) (by omega);have z7:∀L:List AObj,(H2.set q .dead++L)[2]? =some (AObj.vars [AV.sl q 1 0 j]):=fun L=>by have:=g.at L;rw[Ea]at this;exact this
  have za:∀(L:List AObj) (h:2<(H2.set q .dead++L).length),(H2.set q .dead++L)[2]'h=AObj.vars [AV.sl q 1 0 j]:=fun L h=>by have:=z7 L;rw[zD h]at this;exact Option.some.inj this
  have zb:=fun A y=>g.put A y (Ea _ _).symm;have zg:upL (fun i=>W9 (p.getD i [])) j++[encL ((fun i=>W9 (p.getD i [])) j)]=upL (fun i=>W9 (p.getD i [])) (j+1):=(D3 _ _).symm;have z6:=fun H=>ih (j+1,H2.length+1,H);have z8:=Ea (fun i=>W9 (p.getD i [])) j;simp only[←zg]at z6;have hs:=hp.2 _ (zG z1);simp only[Wx z1]at *
  repeat first|(refine r_ ?_;simp[g0,g2])|refine q_ ?_
  refine Qk tOk mixed [9,11] (.val 0 (.val 1 (.val 2 (.val 3 (.val 4 (.val 5 (.val 6 (.one 7 (.one 8 (.one 9 (.val 10 (.one 11 (.done))))))))))))) rfl (by kernel_rfl) ?_;simp[z1,g0,g2];refine Qd rfl rfl (by simp) (C9 p[j] hs.1 hs.2 (hl _ (zG z1))) rfl ?_;rintro _ rfl;simp;repeat first|(refine r_ ?_;simp[g0,g2])|refine q_ ?_
  generalize upL (fun i=>W9 (p.getD i [])) j=xs at *
  refine Qf tOk rfl rfl T68 rfl Au rfl (by decide) (by decide) rfl rfl rfl ?_;simp[Qc g3,Qj g3,z8,z7,za];refine⟨by simp[Wp,Qc g3,Qj g3,z8,z7,za]<;>omega,?_⟩;repeat first|(refine r_ ?_;simp[g0,g2,hw,z7,za])|refine q_ ?_
  refine Qb (sl':=[(1,.vptr 0 0),(2,.vptr 1 0),(3,.vptr 2 0),(4,.i (j+1:Nat))]) (z6 _ ⟨by omega,zb _ _⟩ (by omega)) ?_;simp
 ·have zc:j=p.length:=by(simp at zf;omega)
  subst zc;have hS:=(zA.1 g2).1;have zh:q≠1∧q≠2:=by have:=g.ge;rw[hK]at this;simp at this;omega
  have z8:=Ea (fun i=>W9 (p.getD i [])) (p.length);have zd: .list (upL (fun i=>W9 (p.getD i [])) (p.length))=AV.list ((W2 p).map encL):=by rw[Lk];rw[q05];rfl
  generalize upL (fun i=>W9 (p.getD i [])) (p.length)=xs at *
  refine Ws q g3 2 g2 ?_;have k1:∀X,((H2.set q .dead).set 2 X)[1]? =some (AObj.vars [AV.nils]):=fun X=>Qg (by decide) (Qg zh.1 gR _) _;have k2:∀X,((H2.set q .dead).set 2 X)[2]? =some X:=fun X=>zH (by simpa using hS);have k3:∀X Y,(((H2.set q .dead).set 2 X).set 1 Y)[1]? =some Y:=fun X Y=>Qp (k1 X) _;simp[z8];rw[zM (by omega)];repeat first|(refine r_ ?_;simp[k1,k2,k3])|refine q_ ?_
  exact AV.list.inj zd
theorem H6(T:Int)(h0:0≤T)(hT:T≤1000):PC Tryz.prog 219 [.i T] (fun r=>r=encP (Wf T.toNat)):=by
 refine Qh tOk Tryz.func219 rfl Tryz.results219 rfl (by simp[Tryz.ntmps219]) ?_;rw[Tryz.ntmps219];simp only[Qe];simp only[encP];repeat first|(refine r_ ?_;simp)|refine q_ ?_
 refine R8 1 0 145 1 rfl rfl ?_;simp;obtain⟨K,hK⟩:∃K,K=[AObj.vars [AV.nils],AObj.vars [AV.nils]]:=⟨_,rfl⟩
 have hst:=GL.start (K:=K) (S:=1) [] [] 145 1 (by rw[hK];simp);refine Qm (Qb (sl':=[(0,.i T),(2,.vptr 0 0),(3,.vptr 1 0),(4,.i 0)]) ?_ (by simp));refine Ql (F:=fun(u:Nat×Nat×List AObj)=>⟨[(0,.i T),(2,.vptr 0 0),(3,.vptr 1 0),(4,.i u.1)],u.2.2⟩)
  (fun u=>u.1≤T.toNat∧GL K u.2.2 1 u.2.1 [] [] 145 1 (upL (fun _=>W9 []) u.1)) (fun u=>T.toNat - u.1) ?_ (0,K.length,_) ⟨by simp,by rw[Dy,hK]at *;exact hst⟩
 rintro⟨j,q,H2⟩ ⟨hj,g⟩ ih;simp only[vB,xW]at hj g ih ⊢;have g0:True:=trivial;have gR:H2[0]? =some (AObj.vars [AV.nils]):=g.kp (by decide) (by rw[hK];rfl);have g2:=g.cell;have g3:=g.arr;rw[Ea]at g2;simp only[xW]at g2;repeat first|(refine r_ ?_;simp[g0])|refine q_ ?_
 refine Qa rfl (fun zd=> ?_) (fun ze=> ?_)
 ·have zf:j<T.toNat:=by(have:(j:Int)<T:=(by simpa using zd);omega)
  have hw:IntKind.i64.wrap ((j:Int)+1)=j+1:=wrap_i64 _ (by omega) (by omega);have z6:∀L:List AObj,(H2.set q .dead++L)[1]? =some (AObj.vars [AV.sl q 1 0 j]):=fun L=>by have:=g.at L;rw[Ea]at this;exact this
  have z8:∀(L:List AObj) (h:1<(H2.set q .dead++L).length),(H2.set q .dead++L)[1]'h=AObj.vars [AV.sl q 1 0 j]:=fun L h=>by have:=z6 L;rw[zD h]at this;exact Option.some.inj this
  have za:=fun A y=>g.put A y (Ea _ _).symm;have zg:upL (fun _=>W9 []) j++[encL ((fun _=>W9 []) j)]=upL (fun _=>W9 []) (j+1):=(D3 _ _).symm;have z1:=fun H=>ih (j+1,H2.length+1,H);have z7:=Ea (fun _=>W9 []) j;simp only[←zg]at z1;repeat first|(refine r_ ?_;simp[g2])|refine q_ ?_
  refine Qk tOk mixed [4,6] (.val 0 (.val 1 (.one 2 (.one 3 (.one 4 (.val 5 (.one 6 (.done)))))))) rfl (by kernel_rfl) ?_;simp[g2];refine Qd rfl rfl (by simp) (C9 [] K0 (by simp[M]) (by simp)) rfl ?_;rintro _ rfl;simp;repeat first|(refine r_ ?_;simp[g2])|refine q_ ?_
  generalize upL (fun _=>W9 []) j=xs at *
  refine Qf tOk rfl rfl T68 rfl Au rfl (by decide) (by decide) rfl rfl rfl ?_;simp[Qc g3,Qj g3,z7,z6,z8];refine⟨by simp[Wp,Qc g3,Qj g3,z7,z6,z8]<;>omega,?_⟩;repeat first|(refine r_ ?_;simp[g0,g2,hw,z6,z8])|refine q_ ?_
  refine Qb (sl':=[(0,.i T),(2,.vptr 0 0),(3,.vptr 1 0),(4,.i (j+1:Nat))]) (z1 _ ⟨by omega,za _ _⟩ (by omega)) ?_;simp
 ·have zb:j=T.toNat:=by(have:¬(j:Int)<T:=(by simpa using ze);omega)
  subst zb;have hS:=(zA.1 g2).1;have zh:q≠0∧q≠1:=by have:=g.ge;rw[hK]at this;simp at this;omega
  have z7:=Ea (fun _=>W9 []) (T.toNat);have zc: .list (upL (fun _=>W9 []) (T.toNat))=AV.list ((Wf T.toNat).map encL):=by rw[Lk];simp[Wf,Function.comp_def,vH]
  generalize upL (fun _=>W9 []) (T.toNat)=xs at *
  refine Ws q g3 1 g2 ?_;have k1:∀X,((H2.set q .dead).set 1 X)[0]? =some (AObj.vars [AV.nils]):=fun X=>Qg (by decide) (Qg zh.1 gR _) _;have k2:∀X,((H2.set q .dead).set 1 X)[1]? =some X:=fun X=>zH (by simpa using hS);have k3:∀X Y,(((H2.set q .dead).set 1 X).set 0 Y)[0]? =some Y:=fun X Y=>Qp (k1 X) _;simp[z7];rw[zM (by omega)];repeat first|(refine r_ ?_;simp[k1,k2,k3])|refine q_ ?_
  exact AV.list.inj zc
end Go.Abs
namespace Go.Abs
open Go Go.Proofs
theorem g1v{T:Nat}{p:Prd}(h:PWf T p){s:List Iv}(hs:s∈p):∀x∈s,O3 x:=g0c (h.2 s hs).1 (h.2 s hs).2
attribute [local irreducible] Rm E6
theorem Uy(p:Prd):PC Tryz.prog 159 [encP p] (fun r=>r= .bool (Wk p)):=by
 refine Qh tOk Tryz.func159 rfl Tryz.results159 rfl (by simp[Tryz.ntmps159]) ?_;rw[Tryz.ntmps159];simp only[Qe];simp only[encP];refine Wn 0 0 rfl rfl (fun hlen=> ?_);rw[zV]at hlen;obtain⟨R,hR⟩:∃R,Wk p=R:=⟨_,rfl⟩
 rw[hR];repeat first|(refine r_ ?_;simp)|refine q_ ?_
 refine Qt p.length (fun j=>Wk (p.drop j)=R) (fun j=>[(1,.vptr 0 0),(3,.i j)]) (fun _=>[.vars [.list (p.map encL)]]) rfl (by simp) (by simp) (by simp) (by simp) (by simpa using hR) ?_;intro j hj hI ih;repeat first|(refine r_ ?_;simp)|refine q_ ?_
 refine Qa rfl (fun z7=> ?_) (fun z8=> ?_)
 ·have z1:j<p.length:=by simpa using z7
  have hw:IntKind.i64.wrap ((j:Int)+1)=j+1:=wrap_i64 _ (by omega) (by omega);rw[Wq z1,Wk,List.all_cons]at hI;repeat first|(refine r_ ?_;simp[z1])|refine q_ ?_
  refine Qa rfl (fun h3=> ?_) (fun h3=> ?_)
  ·repeat first|(refine r_ ?_;simp)|refine q_ ?_
   have:p[j].isEmpty=false:=by simp at h3;cases hp:p[j]with|nil=>rw[hp]at h3;simp at h3|cons _ _=>rfl
   rw[this,ut]at hI;exact hI.symm
  ·have:p[j].isEmpty=true:=by simp at h3;simp[h3]
   rw[this,uy]at hI;repeat first|(refine r_ ?_;simp[hw])|refine q_ ?_
   refine Qq _ (ih z1 hI) rfl (by simp) ?_ (by simp) (by simp);simp
 ·have z6:j=p.length:=by simp at z8;omega
  subst z6;repeat first|(refine r_ ?_;simp)|refine q_ ?_
  rw[←hI,List.drop_length];rfl
theorem Oj:∀(p:Prd) (i:Nat),(∃s∈p,s≠[])→∃t x r,p[t]? =some (x::r)∧Qv p i=(i+t,x.lo)∧∀j,j<t→p[j]? =some []
 |[],i,h=>by obtain⟨s,hs,_⟩:=h;cases hs
 |[]::p,i,h=>by
  obtain⟨t,x,r,h1,h2,h3⟩:=Oj p (i+1) (by obtain⟨s,hs,hn⟩:=h;rcases List.mem_cons.1 hs with rfl|hs;exact absurd rfl hn;exact⟨s,hs,hn⟩);refine⟨t+1,x,r,by simpa using h1,by rw[Qv,h2];congr 1;omega,fun j hj=> ?_⟩;cases j with
  |zero=>rfl
  |succ j=>simpa using h3 j (by omega)
 |(x::r)::p,i,_=>⟨0,x,r,rfl,by simp[Qv],fun j hj=>by omega⟩
theorem A2(p:Prd)(hn:Wk p=false):PC Tryz.prog 206 [encP p] (fun r=>r=encSy (Qn p)):=by
 refine Qh tOk Tryz.func206 rfl Tryz.results206 rfl (by simp[Tryz.ntmps206]) ?_;rw[Tryz.ntmps206];simp only[Qe];simp only[encP];refine Wn 0 0 rfl rfl (fun hlen=> ?_);rw[zV]at hlen;obtain⟨t,x,r,h1,h2,h3⟩:=Oj p 0 (by
  unfold Wk at hn;rw[wR]at hn;obtain⟨s,hs,he⟩:=hn;exact⟨s,hs,fun e=>by rw[e]at he;simp at he⟩)
 have hL:Qn p=⟨(t:Int),x.lo⟩:=by rw[Qn,h2];simp
 rw[hL];have ht:=(zA.1 h1).1;have z6:p[t]=x::r:=(zA.1 h1).2;repeat first|(refine r_ ?_;simp)|refine q_ ?_
 refine Qt t (fun _=>True) (fun j=>[(1,.vptr 0 0),(2,.vptr 1 0),(3,.i j)]) (fun _=>[.vars [.list (p.map encL)],.vars [.i 0,.i 0]]) rfl (by simp) (by simp) (by simp) (by simp) trivial ?_;intro j hj _ ih;have z1:j<p.length:=by omega
 have hw:IntKind.i64.wrap ((j:Int)+1)=j+1:=wrap_i64 _ (by omega) (by omega);repeat first|(refine r_ ?_;simp[z1])|refine q_ ?_
 refine Qs rfl ?_;simp[z1];repeat first|(refine r_ ?_;simp[z1])|refine q_ ?_
 by_cases hjt:j=t
 ·subst hjt;have z8:¬(p[j].length=0):=by rw[z6];simp
  have zb:0<p[j].length:=by omega
  repeat first|(refine r_ ?_;simp[z1,z6])|refine q_ ?_
  refine Qa rfl (fun h=> ?_) (fun h=> ?_)
  ·repeat first|(refine r_ ?_;simp[z1,z6])|refine q_ ?_
  ·exfalso;rw[z6]at h;simp at h
 ·have za:=h3 j (by omega);have z7:p[j]=[]:=(zA.1 za).2;repeat first|(refine r_ ?_;simp[z1,z7])|refine q_ ?_
  refine Qa rfl (fun h=> ?_) (fun h=> ?_)
  ·exfalso;rw[z7]at h;simp at h
  ·repeat first|(refine r_ ?_;simp[hw])|refine q_ ?_
   refine Qq _ (ih (by omega) trivial) rfl (by simp) ?_ (by simp) (by simp);simp
theorem Bz(x y:Sy):PC Tryz.prog 246 [encSy x,encSy y] (fun r=>r= .bool (Bh x y)):=by
 refine Qh tOk Tryz.func246 rfl Tryz.results246 rfl (by simp[Tryz.ntmps246]) ?_;rw[Tryz.ntmps246];simp only[Qe];simp only[encSy];repeat first|(refine r_ ?_;simp)|refine q_ ?_
 by_cases h:x.ty=y.ty<;>simp[Bh,h]
end Go.Abs
namespace Go.Abs
open Go Go.Proofs
attribute [local irreducible] Rm E6 upL W9
theorem z1o{c p:Prd}(h:c.length=p.length):(yD c.length).map (fun i=>Rm (c.getD i []) (p.getD i []))=We c p:=by
 refine xX (by simp[We,h]) fun i h1 h2=> ?_;have hc:i<c.length:=by simpa using h1
 have hp:i<p.length:=by omega
 simp[We,yT,hc,hp]
theorem An(T:Nat)(c p:Prd)(hc:PWf T c)(hp:PWf T p)(zf:∀s∈c,∀t∈p,s.length+t.length≤1000000000)(hT:T≤1000):PC Tryz.prog 160 [encP c,encP p] (fun r=>r=encP (We c p)):=by
 refine Qh tOk Tryz.func160 rfl Tryz.results160 rfl (by simp[Tryz.ntmps160]) ?_;rw[Tryz.ntmps160];simp only[Qe];simp only[encP];have hlen:c.length=p.length:=by rw[hc.1,hp.1]
 have zl:=hc.1;repeat first|(refine r_ ?_;simp)|refine q_ ?_
 refine R8 3 0 145 1 rfl rfl ?_;simp;obtain⟨K,hK⟩:∃K,K=[AObj.vars [.list (c.map encL)],AObj.vars [.list (p.map encL)],AObj.vars [AV.nils],AObj.vars [AV.nils]]:=⟨_,rfl⟩
 have hst:=GL.start (K:=K) (S:=3) [] [] 145 1 (by rw[hK];simp);refine Qm (Qb (sl':=[(2,.vptr 0 0),(3,.vptr 1 0),(4,.vptr 2 0),(5,.vptr 3 0),(6,.i 0)]) ?_ (by simp));refine Ql (F:=fun(u:Nat×Nat×List AObj)=>⟨[(2,.vptr 0 0),(3,.vptr 1 0),(4,.vptr 2 0),(5,.vptr 3 0),(6,.i u.1)],u.2.2⟩)
  (fun u=>u.1≤c.length∧GL K u.2.2 3 u.2.1 [] [] 145 1 (upL (fun i=>Rm (c.getD i []) (p.getD i [])) u.1)) (fun u=>c.length - u.1) ?_ (0,K.length,_) ⟨by simp,by rw[Dy,hK]at *;exact hst⟩
 rintro⟨j,q,H2⟩ ⟨hj,g⟩ ih;simp only[vB,xW]at hj g ih ⊢;have g0:H2[0]? =some (AObj.vars [.list (c.map encL)]):=g.kp (by decide) (by rw[hK];rfl);have g1:H2[1]? =some (AObj.vars [.list (p.map encL)]):=g.kp (by decide) (by rw[hK];rfl);have gR:H2[2]? =some (AObj.vars [AV.nils]):=g.kp (by decide) (by rw[hK];rfl);have g2:=g.cell;have g3:=g.arr;rw[Ea]at g2;simp only[xW]at g2;repeat first|(refine r_ ?_;simp[g0])|refine q_ ?_
 refine Qa rfl (fun zg=> ?_) (fun zh=> ?_)
 ·have z1:j<c.length:=by simpa using zg
  have hw:IntKind.i64.wrap ((j:Int)+1)=j+1:=wrap_i64 _ (by omega) (by omega);have z7:∀L:List AObj,(H2.set q .dead++L)[3]? =some (AObj.vars [AV.sl q 1 0 j]):=fun L=>by have:=g.at L;rw[Ea]at this;exact this
  have zb:∀(L:List AObj) (h:3<(H2.set q .dead++L).length),(H2.set q .dead++L)[3]'h=AObj.vars [AV.sl q 1 0 j]:=fun L h=>by have:=z7 L;rw[zD h]at this;exact Option.some.inj this
  have zc:=fun A y=>g.put A y (Ea _ _).symm;have zi:upL (fun i=>Rm (c.getD i []) (p.getD i [])) j++[encL ((fun i=>Rm (c.getD i []) (p.getD i [])) j)]=upL (fun i=>Rm (c.getD i []) (p.getD i [])) (j+1):=(D3 _ _).symm;have z6:=fun H=>ih (j+1,H2.length+1,H);have z8:=Ea (fun i=>Rm (c.getD i []) (p.getD i [])) j;simp only[←zi]at z6;have za:j<p.length:=by omega
  have hs:=hc.2 _ (zG z1);have zj:=hp.2 _ (zG za);simp only[Wx z1,Wx za]at *
  repeat first|(refine r_ ?_;simp[g0,g1,g2])|refine q_ ?_
  refine Qk tOk mixed [14,16] (.val 0 (.val 1 (.val 2 (.val 3 (.val 4 (.val 5 (.val 6 (.val 7 (.val 8 (.val 9 (.val 10 (.val 11 (.one 12 (.one 13 (.one 14 (.val 15 (.one 16 (.done)))))))))))))))))) rfl (by kernel_rfl) ?_;simp[z1,za,g0,g1,g2];refine Qd rfl rfl (by simp) (k0d c[j] p[j] hs.1 zj.1 (zf _ (zG z1) _ (zG za)) (g1v hc (zG z1))) rfl ?_;rintro _ rfl;simp;repeat first|(refine r_ ?_;simp[g0,g1,g2])|refine q_ ?_
  generalize upL (fun i=>Rm (c.getD i []) (p.getD i [])) j=xs at *
  refine Qf tOk rfl rfl T68 rfl Au rfl (by decide) (by decide) rfl rfl rfl ?_;simp[Qc g3,Qj g3,z8,z7,zb];refine⟨by simp[Wp,Qc g3,Qj g3,z8,z7,zb]<;>omega,?_⟩;repeat first|(refine r_ ?_;simp[g0,g2,hw,z7,zb])|refine q_ ?_
  refine Qb (sl':=[(2,.vptr 0 0),(3,.vptr 1 0),(4,.vptr 2 0),(5,.vptr 3 0),(6,.i (j+1:Nat))]) (z6 _ ⟨by omega,zc _ _⟩ (by omega)) ?_;simp
 ·have zd:j=c.length:=by(simp at zh;omega)
  subst zd;have hS:=(zA.1 g2).1;have zk:q≠2∧q≠3:=by have:=g.ge;rw[hK]at this;simp at this;omega
  have z8:=Ea (fun i=>Rm (c.getD i []) (p.getD i [])) (c.length);have ze: .list (upL (fun i=>Rm (c.getD i []) (p.getD i [])) (c.length))=AV.list ((We c p).map encL):=by rw[Lk];rw[z1o hlen]
  generalize upL (fun i=>Rm (c.getD i []) (p.getD i [])) (c.length)=xs at *
  refine Ws q g3 3 g2 ?_;have k1:∀X,((H2.set q .dead).set 3 X)[2]? =some (AObj.vars [AV.nils]):=fun X=>Qg (by decide) (Qg zk.1 gR _) _;have k2:∀X,((H2.set q .dead).set 3 X)[3]? =some X:=fun X=>zH (by simpa using hS);have k3:∀X Y,(((H2.set q .dead).set 3 X).set 2 Y)[2]? =some Y:=fun X Y=>Qp (k1 X) _;simp[z8];rw[zM (by omega)];repeat first|(refine r_ ?_;simp[k1,k2,k3])|refine q_ ?_
  exact AV.list.inj ze
end Go.Abs
namespace Go.Abs
open Go Go.Proofs
attribute [local irreducible] Og
theorem c09(p:Prd)(x:Sy)(hl:∀s∈p,s.length≤1000000000):PC Tryz.prog 207 [encP p,encSy x] (fun r=>r= .bool (Rc p x)):=by
 refine Qh tOk Tryz.func207 rfl Tryz.results207 rfl (by simp[Tryz.ntmps207]) ?_;rw[Tryz.ntmps207];simp only[Qe];simp only[encP,encSy];repeat first|(refine r_ ?_;simp)|refine q_ ?_
 by_cases h0:0≤x.ty
 ·by_cases h1:x.ty<p.length
  ·have h2:x.ty.toNat<p.length:=by omega
   refine Qk tOk mixed [] (.val 0 (.val 1 (.val 2 (.val 3 (.val 4 (.val 5 (.val 6 (.val 7 (.val 8 (.val 9 (.val 10 (.val 11 (.val 12 (.val 13 (.val 14 (.val 15 (.val 16 (.val 17 (.val 18 (.val 19 (.one 20 (.val 21 (.val 22 (.done)))))))))))))))))))))))) rfl (by kernel_rfl) ?_;simp[h0,h1,h2];refine Qd rfl rfl (by simp) (j1q p[x.ty.toNat] x.num (hl _ (zG h2))) rfl ?_;rintro _ rfl;simp;repeat first|(refine r_ ?_;simp[h0,h1,h2])|refine q_ ?_
   simp[Rc,h0,h1,yT,h2]
  ·refine Qk tOk mixed [] (.val 0 (.val 1 (.val 2 (.val 3 (.val 4 (.val 5 (.val 6 (.val 7 (.val 8 (.val 9 (.val 10 (.val 11 (.val 12 (.val 13 (.val 14 (.val 15 (.val 16 (.val 17 (.val 18 (.val 19 (.one 20 (.val 21 (.val 22 (.done)))))))))))))))))))))))) rfl (by kernel_rfl) ?_;simp[h0,h1];refine Q5 rfl rfl ?_;simp[h0,h1];repeat first|(refine r_ ?_;simp[h0,h1])|refine q_ ?_
   simp[Rc,h0,h1]
 ·refine Qk tOk mixed [] (.val 0 (.val 1 (.val 2 (.val 3 (.val 4 (.val 5 (.val 6 (.val 7 (.val 8 (.val 9 (.val 10 (.val 11 (.val 12 (.val 13 (.val 14 (.val 15 (.val 16 (.val 17 (.val 18 (.val 19 (.one 20 (.val 21 (.val 22 (.done)))))))))))))))))))))))) rfl (by kernel_rfl) ?_;simp[h0];refine Q5 rfl rfl ?_;simp[h0];repeat first|(refine r_ ?_;simp[h0])|refine q_ ?_
  simp[Rc,h0]
def Vu(a:Aut)(i k:Nat):Bool:=decide ((a.mv.getD i default).src=(a.mv.getD k default).src) && Mn (a.mv.getD i default).on (a.mv.getD k default).on
theorem Cz{a:Aut}{i k:Nat}(hi:i<a.mv.length)(hk:k<i)(h:Vu a i k=true):K8 a=false:=by unfold K8;rw[wR];refine⟨i,yL.2 hi,?_⟩;rw[Bool.not_eq_true,wR];exact⟨k,yL.2 hk,by unfold Vu at h;rw[h];simp⟩
theorem M1{a:Aut}(h:∀i,i<a.mv.length→∀k,k<i→Vu a i k=false):K8 a=true:=by unfold K8;rw[zP];intro i hi;rw[zP];intro k hk;have:=h i (yL.1 hi) k (yL.1 hk);unfold Vu at this;rw[this];rfl
theorem Mt{a:Aut}{i k:Nat}(hi:i<a.mv.length)(hk:k<a.mv.length):Vu a i k=(decide (a.mv[i].src=a.mv[k].src) && Mn a.mv[i].on a.mv[k].on):=by simp[Vu,yT,hi,hk]
theorem Su{a:Aut}(h:OkA a){m:Mv}(hm:m∈a.mv):∀s∈m.on,s.length≤256:=fun s hs=>((h.mv m hm).on.2 s hs).len
attribute [local irreducible] Vu Mn We Wk
theorem q06(a:Aut)(h:OkA a):PC Tryz.prog 91 [encA a] (fun r=>r= .bool (K8 a)):=by
 refine Qh tOk Tryz.func91 rfl Tryz.results91 rfl (by simp[Tryz.ntmps91]) ?_;rw[Tryz.ntmps91];simp only[Qe];simp only[encA];have zo:=h.mvs;repeat first|(refine r_ ?_;simp)|refine q_ ?_
 refine Qt a.mv.length (fun j=>∀i,i<j→∀k,k<i→Vu a i k=false) (fun j=>[(1,.vptr 0 0),(3,.i j)]) (fun _=>[.vars (Qo a)]) rfl (by simp) (by simp) (by simp) (by simp) (by simp) ?_;intro j hj hI ih;repeat first|(refine r_ ?_;simp)|refine q_ ?_
 refine Qa rfl (fun zm=> ?_) (fun zn=> ?_)
 ·have z1:j<a.mv.length:=by simpa using zm
  have hw:IntKind.i64.wrap ((j:Int)+1)=j+1:=wrap_i64 _ (by omega) (by omega);repeat first|(refine r_ ?_;simp)|refine q_ ?_
  refine Qt j (fun k=>∀k',k'<k→Vu a j k'=false) (fun k=>[(1,.vptr 0 0),(3,.i j),(4,.i k)]) (fun _=>[.vars (Qo a)]) rfl (by simp) (by simp) (by simp) (by simp) (by simp) ?_;intro k hk zg zh;repeat first|(refine r_ ?_;simp)|refine q_ ?_
  refine Qa rfl (fun zb=> ?_) (fun zc=> ?_)
  ·have zd:k<j:=by simpa using zb
   have za:k<a.mv.length:=by omega
   have zi:IntKind.i64.wrap ((k:Int)+1)=k+1:=wrap_i64 _ (by omega) (by omega);have z6:=Mt (a:=a) z1 za;have zj:Vu a j k=false→∀k',k'<k+1→Vu a j k'=false:=fun hb k' ze=>by
    by_cases e:k'=k
    ·rw[e];exact hb
    ·exact zg k' (by omega)
   by_cases he:a.mv[j].src=a.mv[k].src
   ·rw[decide_eq_true he,uy]at z6;repeat first|(refine r_ ?_;simp)|refine q_ ?_
    refine Qk tOk mixed [] (.val 0 (.val 1 (.val 2 (.val 3 (.val 4 (.val 5 (.val 6 (.val 7 (.val 8 (.val 9 (.val 10 (.val 11 (.val 12 (.val 13 (.val 14 (.val 15 (.val 16 (.val 17 (.val 18 (.val 19 (.val 20 (.val 21 (.val 22 (.val 23 (.val 24 (.val 25 (.one 26 (.one 27 (.val 28 (.val 29 (.done))))))))))))))))))))))))))))))) rfl (by kernel_rfl) ?_;simp[z1,za,he];have zk:=zG z1;have zl:=zG za;refine Qd rfl rfl (by simp) (An a.types.toNat a.mv[j].on a.mv[k].on (h.mv _ zk).on.wf (h.mv _ zl).on.wf (fun s hs t ht=>by have:=Su h zk s hs;have:=Su h zl t ht;omega) (by have:=h.types;omega)) rfl ?_;rintro _ rfl;simp;repeat first|(refine r_ ?_;simp)|refine q_ ?_
    refine Qd rfl rfl (by simp) (Uy (We a.mv[j].on a.mv[k].on)) rfl ?_;rintro _ rfl;simp;repeat first|(refine r_ ?_;simp)|refine q_ ?_
    refine Qa rfl (fun h3=> ?_) (fun h3=> ?_)
    ·repeat first|(refine r_ ?_;simp)|refine q_ ?_
     rw[Cz z1 zd (by rw[z6,Mn];simpa using h3)]
    ·repeat first|(refine r_ ?_;simp[zi])|refine q_ ?_
     refine Qq _ (zh zd (zj (by rw[z6,Mn];simpa using h3))) rfl (by simp) ?_ (by simp) (by simp);simp
   ·rw[decide_eq_false he,ut]at z6;have z7:(a.mv[j].src==a.mv[k].src)=false:=beq_eq_false_iff_ne.2 he;repeat first|(refine r_ ?_;simp)|refine q_ ?_
    refine Qk tOk mixed [] (.val 0 (.val 1 (.val 2 (.val 3 (.val 4 (.val 5 (.val 6 (.val 7 (.val 8 (.val 9 (.val 10 (.val 11 (.val 12 (.val 13 (.val 14 (.val 15 (.val 16 (.val 17 (.val 18 (.val 19 (.val 20 (.val 21 (.val 22 (.val 23 (.val 24 (.val 25 (.one 26 (.one 27 (.val 28 (.val 29 (.done))))))))))))))))))))))))))))))) rfl (by kernel_rfl) ?_;simp[z1,za,z7];refine Q5 rfl rfl ?_;simp[z7];repeat first|(refine r_ ?_;simp[z7])|refine q_ ?_
    refine Q5 rfl rfl ?_;simp[z7];repeat first|(refine r_ ?_;simp[z7])|refine q_ ?_
    refine Qs rfl ?_;repeat first|(refine r_ ?_;simp[zi])|refine q_ ?_
    refine Qq _ (zh zd (zj z6)) rfl (by simp) ?_ (by simp) (by simp);simp
  ·have z8:k=j:=by simp at zc;omega
   subst z8;repeat first|(refine r_ ?_;simp[hw])|refine q_ ?_
   refine Qq _ (ih z1 (fun i hi k' ze=> ?_)) rfl (by simp) ?_ (by simp) (by simp)
   ·by_cases e:i=k
    ·subst e;exact zg k' ze
    ·exact hI i (by omega) k' ze
   ·simp
 ·have zf:j=a.mv.length:=by simp at zn;omega
  subst zf;repeat first|(refine r_ ?_;simp)|refine q_ ?_
  rw[M1 hI]
def x1g(a:Aut):Bool×Int:=if Wj a=0 then(K8 a,0)else(false,Wj a)
end Go.Abs
namespace Go.Abs
open Go Go.Proofs
def ovl(x y:Iv):Bool:=decide (x.lo≤y.hi) && decide (y.lo≤x.hi)
def noC(p q:Prd)(i:Nat):Prop:=∀x∈p.getD i [],∀y∈q.getD i [],ovl x y=false
theorem k03{T:Nat}{p q:Prd}(hp:PWf T p)(hq:PWf T q)(h:∀i,i<p.length→noC p q i):Mn p q=false:=by rw[wU,Ne,Lj hp hq];rintro⟨t,n,⟨s,hs,x,hx,h1,h2⟩,⟨s',z1,y,hy,h3,h4⟩⟩;have ht:=(zA.1 hs).1;have:=h t ht x (by rw[yT,hs];exact hx) y (by rw[yT,z1];exact hy);simp only[ovl,Bool.and_eq_false_iff,decide_eq_false_iff_not]at this;omega
theorem q16{T:Nat}{p q:Prd}(hp:PWf T p)(hq:PWf T q){i:Nat}(hi:i<p.length)(z1:i<q.length){x y:Iv}(hx:x∈p[i])(hy:y∈q[i])(h:ovl x y=true):Mn p q=true:=by
 rw[Lj hp hq];simp only[ovl,zR,decide_eq_true_eq]at h;have h1:=(hp.2 _ (zG hi)).1.1 x hx;have h2:=(hq.2 _ (zG z1)).1.1 y hy;by_cases hl:x.lo≤y.lo
 ·exact⟨i,y.lo,⟨p[i],zD hi,x,hx,hl,h.2⟩,⟨q[i],zD z1,y,hy,yI _,h2⟩⟩
 ·exact⟨i,x.lo,⟨p[i],zD hi,x,hx,yI _,h1⟩,⟨q[i],zD z1,y,hy,by omega,h.1⟩⟩
attribute [local irreducible] Mn
theorem j0u(T:Nat)(p q:Prd)(hp:PWf T p)(hq:PWf T q)(zj:∀s∈p,s.length≤1000000000)(zk:∀s∈q,s.length≤1000000000)(hT:T≤1000):PC Tryz.prog 136 [encP p,encP q] (fun r=>r= .bool (Mn p q)):=by
 refine Qh tOk Tryz.func136 rfl Tryz.results136 rfl (by simp[Tryz.ntmps136]) ?_;rw[Tryz.ntmps136];simp only[Qe];simp only[encP];have hlen:=hp.1;have zg:=hq.1;repeat first|(refine r_ ?_;simp)|refine q_ ?_
 refine Qt p.length (fun i=>∀i',i'<i→noC p q i') (fun i=>[(3,.vptr 1 0),(12,.list (p.map encL)),(13,.i p.length),(14,.i i)]) (fun _=>[.vars [.list (p.map encL)],.vars [.list (q.map encL)]]) rfl (by simp) (by simp) (by simp) (by simp) (by simp) ?_;intro i hi hI ih;repeat first|(refine r_ ?_;simp)|refine q_ ?_
 refine Qa rfl (fun zl=> ?_) (fun zm=> ?_)
 ·have z1:i<p.length:=by simpa using zl
  have z6:i<q.length:=by omega
  have hw:IntKind.i64.wrap ((i:Int)+1)=i+1:=wrap_i64 _ (by omega) (by omega);have zx:=zj _ (zG z1);have zy:=zk _ (zG z6);repeat first|(refine r_ ?_;simp[z1])|refine q_ ?_
  refine Qt p[i].length (fun u=>∀u',u'<u→∀h:u'<p[i].length,∀y∈q[i],ovl p[i][u'] y=false) (fun u=>[(3,.vptr 1 0),(5,.i i),(12,.list (p.map encL)),(13,.i p.length),(14,.i i),(19,LIv p[i]),(20,.i p[i].length),(21,.i u)]) (fun _=>[.vars [.list (p.map encL)],.vars [.list (q.map encL)]]) rfl (by simp) (by simp) (by simp) (by simp) (by simp) ?_;intro u hu zh zn;repeat first|(refine r_ ?_;simp)|refine q_ ?_
  refine Qa rfl (fun z7=> ?_) (fun z8=> ?_)
  ·have za:u<p[i].length:=by simpa using z7
   have zo:IntKind.i64.wrap ((u:Int)+1)=u+1:=wrap_i64 _ (by omega) (by omega);repeat first|(refine r_ ?_;simp[za,z6])|refine q_ ?_
   refine Qt q[i].length (fun v=>∀v',v'<v→∀h:v'<q[i].length,ovl p[i][u] q[i][v']=false) (fun v=>[(3,.vptr 1 0),(5,.i i),(8,.vptr 2 0),(12,.list (p.map encL)),(13,.i p.length),(14,.i i),(19,LIv p[i]),(20,.i p[i].length),(21,.i u),(29,LIv q[i]),(30,.i q[i].length),(31,.i v)]) (fun _=>[.vars [.list (p.map encL)],.vars [.list (q.map encL)],.vars [.i p[i][u].lo,.i p[i][u].hi]]) rfl (by simp) (by simp) (by simp) (by simp) (by simp) ?_;intro v hv zi zp;repeat first|(refine r_ ?_;simp)|refine q_ ?_
   refine Qa rfl (fun zb=> ?_) (fun zc=> ?_)
   ·have zd:v<q[i].length:=by simpa using zb
    have zq:IntKind.i64.wrap ((v:Int)+1)=v+1:=wrap_i64 _ (by omega) (by omega);repeat first|(refine r_ ?_;simp[zd])|refine q_ ?_
    refine Qa rfl (fun h=> ?_) (fun h=> ?_)
    ·repeat first|(refine r_ ?_;simp)|refine q_ ?_
     rw[q16 hp hq z1 z6 (zG za) (zG zd) (by simpa[ovl]using h)]
    ·repeat first|(refine r_ ?_;simp[zq])|refine q_ ?_
     refine Qq _ (zp zd (fun v' ze zr=> ?_)) rfl (by simp) ?_ (by simp) (by simp)
     ·by_cases e:v'=v
      ·subst e;simpa[ovl]using h
      ·exact zi v' (by omega) zr
     ·simp
   ·have zt:v=q[i].length:=by simp at zc;omega
    subst zt;repeat first|(refine r_ ?_;simp[zo])|refine q_ ?_
    refine Qq _ (zn za (fun u' zf zu y hy=> ?_)) rfl (by simp) ?_ (by simp) (by simp)
    ·by_cases e:u'=u
     ·subst e;obtain⟨v',ze,rfl⟩:=yG hy;exact zi v' ze ze
     ·exact zh u' (by omega) zu y hy
    ·simp
  ·have zv:u=p[i].length:=by simp at z8;omega
   subst zv;repeat first|(refine r_ ?_;simp[hw])|refine q_ ?_
   refine Qq _ (ih z1 (fun i' zz=> ?_)) rfl (by simp) ?_ (by simp) (by simp)
   ·by_cases e:i'=i
    ·subst e;intro x hx y hy;rw[Wx z1]at hx;rw[Wx z6]at hy;obtain⟨u',zf,rfl⟩:=yG hx;exact zh u' zf zf y hy
    ·exact hI i' (by omega)
   ·simp
 ·have zw:i=p.length:=by simp at zm;omega
  subst zw;repeat first|(refine r_ ?_;simp)|refine q_ ?_
  rw[k03 hp hq hI]
attribute [local irreducible] Vu
theorem f1p(a:Aut):PC Tryz.prog 73 [encA a] (fun r=>r= .tup [.bool (x1g a).1,.i (x1g a).2]):=by
 refine Qh tOk Tryz.func73 rfl Tryz.results73 rfl (by simp[Tryz.ntmps73]) ?_;rw[Tryz.ntmps73];simp only[Qe];simp only[encA];repeat first|(refine r_ ?_;simp)|refine q_ ?_
 refine Qd rfl rfl (by simp) (U1 a) rfl ?_;rintro _ rfl;simp;repeat first|(refine r_ ?_;simp)|refine q_ ?_
 refine Qa rfl (fun h=> ?_) (fun h=> ?_)
 ·repeat first|(refine r_ ?_;simp)|refine q_ ?_
  rw[x1g,if_neg (by simpa using h)];exact⟨rfl,rfl⟩
 have h0:Wj a=0:=by simpa using h
 have z8:=(Ob a).1 h0;have zt:=z8.mvs;rw[x1g,if_pos h0];repeat first|(refine r_ ?_;simp)|refine q_ ?_
 refine Qt a.mv.length (fun j=>∀i,i<j→∀k,k<i→Vu a i k=false) (fun j=>[(1,.vptr 0 0),(15,.list (a.mv.map encMv)),(16,.i a.mv.length),(17,.i j)]) (fun _=>[.vars (Qo a)]) rfl (by simp) (by simp) (by simp) (by simp) (by simp) ?_;intro j hj hI ih;repeat first|(refine r_ ?_;simp)|refine q_ ?_
 refine Qa rfl (fun zq=> ?_) (fun zr=> ?_)
 ·have z1:j<a.mv.length:=by simpa using zq
  have hw:IntKind.i64.wrap ((j:Int)+1)=j+1:=wrap_i64 _ (by omega) (by omega);have ze:j≤a.mv.length:=hj;have z7:min j a.mv.length=j:=by omega
  repeat first|(refine r_ ?_;simp[z1,ze,z7])|refine q_ ?_
  refine Qt j (fun k=>∀k',k'<k→Vu a j k'=false) (fun k=>[(1,.vptr 0 0),(6,.vptr 1 0),(15,.list (a.mv.map encMv)),(16,.i a.mv.length),(17,.i j),(25,.list (tM j (a.mv.map encMv))),(26,.i j),(27,.i k)]) (fun _=>[.vars (Qo a),.vars [.i a.mv[j].src,.i a.mv[j].dst,.list (a.mv[j].on.map encL)]]) rfl (by simp) (by simp) (by simp) (by simp) (by simp) ?_;intro k hk zj zk;repeat first|(refine r_ ?_;simp)|refine q_ ?_
  refine Qa rfl (fun zf=> ?_) (fun zg=> ?_)
  ·have za:k<j:=by simpa using zf
   have zb:k<a.mv.length:=by omega
   have zl:IntKind.i64.wrap ((k:Int)+1)=k+1:=wrap_i64 _ (by omega) (by omega);have z6:=Mt (a:=a) z1 zb;have zm:Vu a j k=false→∀k',k'<k+1→Vu a j k'=false:=fun hb k' zh=>by
    by_cases e:k'=k
    ·rw[e];exact hb
    ·exact zj k' (by omega)
   have zn:(tM j (a.mv.map encMv))[k]? =some (encMv a.mv[k]):=by rw[List.getElem?_take_of_lt za];simp[zb]
   by_cases he:a.mv[j].src=a.mv[k].src
   ·rw[decide_eq_true he,uy]at z6;have zc:(a.mv[j].src==a.mv[k].src)=true:=by simpa using he
    repeat first|(refine r_ ?_;simp[zn,za,zb,z7,zc])|refine q_ ?_
    have zo:=zG z1;have zp:=zG zb;refine Qd rfl rfl (by simp) (j0u a.types.toNat a.mv[j].on a.mv[k].on (z8.mv _ zo).on.wf (z8.mv _ zp).on.wf (fun s hs=>by have:=Su z8 zo s hs;omega) (fun s hs=>by have:=Su z8 zp s hs;omega) (by have:=z8.types;omega)) rfl ?_;rintro _ rfl;simp;repeat first|(refine r_ ?_;simp)|refine q_ ?_
    refine Qa rfl (fun h3=> ?_) (fun h3=> ?_)
    ·repeat first|(refine r_ ?_;simp)|refine q_ ?_
     rw[Cz z1 za (by rw[z6];simpa using h3)]
    ·repeat first|(refine r_ ?_;simp[zl])|refine q_ ?_
     refine Qq _ (zk za (zm (by rw[z6];simpa using h3))) rfl (by simp) ?_ (by simp) (by simp);simp
   ·rw[decide_eq_false he,ut]at z6;have zc:(a.mv[j].src==a.mv[k].src)=false:=beq_eq_false_iff_ne.2 he;repeat first|(refine r_ ?_;simp[zn,za,zb,z7,zc])|refine q_ ?_
    refine Q5 rfl rfl ?_;simp[zc];repeat first|(refine r_ ?_;simp[zc])|refine q_ ?_
    refine Qs rfl ?_;repeat first|(refine r_ ?_;simp[zl])|refine q_ ?_
    refine Qq _ (zk za (zm z6)) rfl (by simp) ?_ (by simp) (by simp);simp
  ·have zd:k=j:=by simp at zg;omega
   subst zd;repeat first|(refine r_ ?_;simp[hw])|refine q_ ?_
   refine Qq _ (ih z1 (fun i hi k' zh=> ?_)) rfl (by simp) ?_ (by simp) (by simp)
   ·by_cases e:i=k
    ·subst e;exact zj k' zh
    ·exact hI i (by omega) k' zh
   ·simp
 ·have zi:j=a.mv.length:=by simp at zr;omega
  subst zi;repeat first|(refine r_ ?_;simp)|refine q_ ?_
  rw[M1 hI]
end Go.Abs
namespace Go.Abs
open Go Go.Proofs
abbrev LI (l:List Int):AV:= .list (l.map (AV.int .i64))
def g0o{α:Type}(f:α→Bool)(l:List α):Int:=match l.findIdx? f with|some i=>i|none=> -1
theorem Br{α:Type}{f:α→Bool}{l:List α}{j:Nat}(hj:j<l.length)(h:f l[j]=true)(hb:∀i,∀hi:i<l.length,i<j→f l[i]=false):g0o f l=j:=by unfold g0o;rw[wd.2 ⟨hj,h,fun i hi=>by rw[hb i (by omega) hi];simp⟩]
theorem K9{α:Type}{f:α→Bool}{l:List α}(hb:∀i,∀hi:i<l.length,i<l.length→f l[i]=false):g0o f l= -1:=by unfold g0o;rw[uu.2 (fun x hx=>by obtain⟨i,hi,rfl⟩:=yG hx;exact hb i hi hi)]
theorem f0q{α:Type}(f:α→Bool)(l:List α):decide (0≤g0o f l)=l.any f:=by
 unfold g0o;cases h:l.findIdx? f with
 |none=>
  rw[uu]at h;have:l.any f=false:=by rw[wT];intro x hx;rw[h x hx];simp
  rw[this];rfl
 |some i=>obtain⟨h1,h2,_⟩:=wd.1 h;have:l.any f=true:=wQ.2 ⟨_,zG h1,h2⟩;rw[this];simp
theorem w19(l:List Int)(v:Int):PC Tryz.prog 118 [LI l,.i v] (fun r=>r= .i (g0o (fun y=>v==y) l)):=by
 refine Qh tOk Tryz.func118 rfl Tryz.results118 rfl (by simp[Tryz.ntmps118]) ?_;rw[Tryz.ntmps118];simp only[Qe];refine Rp 0 rfl (fun hlen=> ?_);rw[zV]at hlen;repeat first|(refine r_ ?_;simp)|refine q_ ?_
 refine Qt l.length (fun j=>∀i,∀hi:i<l.length,i<j→(v==l[i])=false) (fun j=>[(0,LI l),(1,.i v),(7,.i l.length),(8,.i j)]) (fun _=>[]) rfl (by simp) (by simp) (by simp) (by simp) (by simp) ?_;intro j hj hI ih;repeat first|(refine r_ ?_;simp)|refine q_ ?_
 refine Qa rfl (fun z7=> ?_) (fun z8=> ?_)
 ·have z1:j<l.length:=by simpa using z7
  have hw:IntKind.i64.wrap ((j:Int)+1)=j+1:=wrap_i64 _ (by omega) (by omega);repeat first|(refine r_ ?_;simp[z1])|refine q_ ?_
  refine Qa rfl (fun h=> ?_) (fun h=> ?_)
  ·repeat first|(refine r_ ?_;simp)|refine q_ ?_
   rw[Br (f:=fun y=>v==y) z1 h hI]
  ·repeat first|(refine r_ ?_;simp[hw])|refine q_ ?_
   refine Qq _ (ih z1 (fun i hi za=> ?_)) rfl (by simp) ?_ (by simp) (by simp)
   ·by_cases e:i=j
    ·subst e;exact h
    ·exact hI i hi (by omega)
   ·simp
 ·have z6:j=l.length:=by simp at z8;omega
  subst z6;repeat first|(refine r_ ?_;simp)|refine q_ ?_
  rw[K9 (f:=fun y=>v==y) hI]
theorem Dd(l:List Int)(v:Int):PC Tryz.prog 169 [LI l,.i v] (fun r=>r= .bool (l.contains v)):=by
 refine Qh tOk Tryz.func169 rfl Tryz.results169 rfl (by simp[Tryz.ntmps169]) ?_;rw[Tryz.ntmps169];simp only[Qe];repeat first|(refine r_ ?_;simp)|refine q_ ?_
 refine Qd rfl rfl (by simp) (w19 l v) rfl ?_;rintro _ rfl;simp;repeat first|(refine r_ ?_;simp)|refine q_ ?_
 have:=f0q (fun y=>v==y) l;rw[xR]at this;simpa using this
structure SL (K G:List AObj) (p e sz:Nat) (xs:List AV):Prop where
 arr:G[p]? =some (.arr e sz xs)
 ge:K.length≤p
 keep:∀j,j<K.length→G[j]? =K[j]?
theorem SL.kp{K G:List AObj}{p e sz:Nat}{xs:List AV}(h:SL K G p e sz xs){j:Nat}{x:AObj}(hx:K[j]? =some x):G[j]? =some x:=by rw[h.keep j (zA.1 hx).1];exact hx
theorem SL.start(K:List AObj)(e sz:Nat):SL K (K++[AObj.arr e sz []]) K.length e sz []:=
 ⟨by simp,zL _,fun j hj=>zE hj⟩
theorem SL.add{K G:List AObj}{p e sz:Nat}{xs:List AV}(h:SL K G p e sz xs)(L:List AObj):SL K (G++L) p e sz xs:=
 ⟨by rw[zE (zA.1 h.arr).1];exact h.arr,h.ge,fun j hj=>by
  rw[zE (by have:=(zA.1 h.arr).1;have:=h.ge;omega)];exact h.keep j hj⟩
theorem SL.put{K G:List AObj}{p e sz:Nat}{xs:List AV}(h:SL K G p e sz xs)(L:List AObj)(ys:List AV){n:Nat}(hn:n=G.length+L.length):SL K (G.set p .dead++(L++[AObj.arr e sz ys])) n e sz ys:=by have hp:=(zA.1 h.arr).1;have z1:=h.ge;subst hn;refine⟨by rw[zC (by simp),zC (by simp)];simp,by omega,fun j hj=> ?_⟩;rw[zE (by simp;omega),zB (by omega)];exact h.keep j hj
theorem SL.at{K G:List AObj}{p e sz:Nat}{xs:List AV}(h:SL K G p e sz xs){j:Nat}{x:AObj}(hx:K[j]? =some x)(L:List AObj):(G.set p .dead++L)[j]? =some x:=by have hj:=(zA.1 hx).1;have hp:=(zA.1 h.arr).1;have z1:=h.ge;rw[zE (by simp;omega),zB (by omega),h.keep j hj];exact hx
theorem SL.at'{K G:List AObj}{p e sz:Nat}{xs:List AV}(h:SL K G p e sz xs){j:Nat}{x:AObj}(hx:K[j]? =some x)(L:List AObj):(G++L)[j]? =some x:=(h.add L).kp hx
def z1t(l:List Int)(x:Sy)(m:Mv):Bool:=l.contains m.src && Rc m.on x
def Zp(l:List Int)(x:Sy)(ms:List Mv):List Int:=(ms.filter (z1t l x)).map (·.dst)
theorem g0a(l:List Int)(x:Sy)(ms:List Mv)(j:Nat)(h:j<ms.length):Zp l x (ms.take (j+1))=Zp l x (ms.take j)++(if z1t l x ms[j]then [ms[j].dst]else []):=by unfold Zp;rw[zJ h,uX,yF];cases h:z1t l x ms[j]<;>simp[h]
theorem q01(l:List Int)(x:Sy)(ms:List Mv):(Zp l x ms).length≤ms.length:=by unfold Zp;rw[zV];exact List.length_filter_le _ _
theorem q14(a:Aut)(l:List Int)(x:Sy):Lib.compact (Ro (Zp l x a.mv))=k19 a l x:=rfl
theorem w1b(l:List Int)(x:Sy):Zp l x []=[]:=rfl
attribute [local irreducible] Zp Zq Ro Lib.compact
theorem Z7(a:Aut)(ha:OkA a)(l:List Int)(x:Sy)(hx:Ww a x):PC Tryz.prog 108 [encA a,LI l,encSy x] (fun r=>r=LI (Q0 a l x)):=by
 refine Qh tOk Tryz.func108 rfl Tryz.results108 rfl (by simp[Tryz.ntmps108]) ?_;rw[Tryz.ntmps108];simp only[Qe];simp only[encA,encSy];have zh:=ha.mvs;have hF:∀m∈a.mv,Zq m.on x=(Rc m.on x,0):=fun m hm=>by rw[Bt ((Ed a.types m.on).2 ⟨ha.types,(ha.mv m hm).on⟩),if_neg (fun k=>k ((D4 _ _).2 hx))]
 repeat first|(refine r_ ?_;simp)|refine q_ ?_
 refine Q6 7 3 1 rfl ?_;simp;refine Qm (Qb (sl':=[(1,LI l),(3,.vptr 0 0),(5,.vptr 1 0),(7,.sl 2 1 0 (Zp l x (a.mv.take 0)).length),(11,.list (a.mv.map encMv)),(12,.i a.mv.length),(13,.i 0)]) ?_ (by simp[Zp]));obtain⟨K,hK⟩:∃K,K=[AObj.vars (Qo a),AObj.vars [AV.i x.ty,AV.i x.num]]:=⟨_,rfl⟩
 have z8:K[1]? =some (AObj.vars [AV.i x.ty,AV.i x.num]):=by rw[hK];rfl
 have hst:=SL.start K 3 1;refine Ql (F:=fun(u:Nat×Nat×List AObj)=>⟨[(1,LI l),(3,.vptr 0 0),(5,.vptr 1 0),(7,.sl u.2.1 1 0 (Zp l x (a.mv.take u.1)).length),(11,.list (a.mv.map encMv)),(12,.i a.mv.length),(13,.i u.1)],u.2.2⟩)
  (fun u=>u.1≤a.mv.length∧SL K u.2.2 u.2.1 3 1 ((Zp l x (a.mv.take u.1)).map (AV.int .i64))) (fun u=>a.mv.length - u.1) ?_ (0,2,_) ⟨by simp,by rw[wK,w1b];rw[hK]at hst ⊢;exact hst⟩
 rintro⟨j,q,H2⟩ ⟨hj,g⟩ ih;simp only at hj g ih ⊢;have g1:=g.kp z8;repeat first|(refine r_ ?_;simp)|refine q_ ?_
 refine Qa rfl (fun zb=> ?_) (fun zc=> ?_)
 ·have z1:j<a.mv.length:=by simpa using zb
  have hw:IntKind.i64.wrap ((j:Int)+1)=j+1:=wrap_i64 _ (by omega) (by omega);have zd:=g0a l x a.mv j z1;have za:=q01 l x (a.mv.take j);rw[yP]at za;have ze:=hF _ (zG z1);have z6:=fun q' H'=>ih (j+1,q',H');simp only[zd]at z6;generalize Zp l x (a.mv.take j)=acc at *
  have gL:=fun L=>g.at' z8 L;repeat first|(refine r_ ?_;simp[z1])|refine q_ ?_
  by_cases hb:a.mv[j].src∈l
  ·have zf:l.contains a.mv[j].src=true:=by simpa using hb
   refine Qd rfl rfl (by simp) (Dd l a.mv[j].src) rfl ?_;rintro _ rfl;simp[hb,gL];repeat first|(refine r_ ?_;simp[gL])|refine q_ ?_
   refine Qd rfl rfl (by simp) (x1p a.mv[j].on x) rfl ?_;rintro _ rfl;simp[ze];repeat first|(refine r_ ?_;simp)|refine q_ ?_
   cases hb2:Rc a.mv[j].on x with
   |false=>
    have hh:z1t l x a.mv[j]=false:=by rw[z1t,hb2];simp
    refine Qs rfl ?_;simp[hb2];repeat first|(refine r_ ?_;simp[hw])|refine q_ ?_
    refine Qb (sl':=[(1,LI l),(3,.vptr 0 0),(5,.vptr 1 0),(7,.sl q 1 0 acc.length),(11,.list (a.mv.map encMv)),(12,.i a.mv.length),(13,.i (j+1:Nat))]) ?_ (by simp);have:=z6 q _ ⟨by omega,by rw[hh];simpa using g.add [AObj.vars [AV.i a.mv[j].src,AV.i a.mv[j].dst,AV.list (a.mv[j].on.map encL)]]⟩ (by omega);rw[hh]at this;simpa using this
   |true=>
    have hh:z1t l x a.mv[j]=true:=by rw[z1t,zf,hb2];rfl
    refine Qs rfl ?_;simp[hb2];repeat first|(refine r_ ?_;simp)|refine q_ ?_
    refine Qf tOk rfl rfl T47 rfl T3 rfl (by decide) (by decide) rfl rfl rfl ?_;simp[Qc g.arr,Qj g.arr];refine⟨by simp[Wp,Qc g.arr,Qj g.arr]<;>omega,?_⟩;repeat first|(refine r_ ?_;simp[hw])|refine q_ ?_
    refine Qb (sl':=[(1,LI l),(3,.vptr 0 0),(5,.vptr 1 0),(7,.sl (H2.length+2) 1 0 (acc.length+1)),(11,.list (a.mv.map encMv)),(12,.i a.mv.length),(13,.i (j+1:Nat))]) ?_ (by simp);have:=z6 (H2.length+2) _ ⟨by omega,by rw[hh];exact g.put [AObj.vars [AV.i a.mv[j].src,AV.i a.mv[j].dst,AV.list (a.mv[j].on.map encL)],AObj.arr 3 1 [AV.i a.mv[j].dst]] _ rfl⟩ (by omega);rw[hh]at this;simpa using this
  ·have hh:z1t l x a.mv[j]=false:=by simp[z1t,hb]
   refine Qd rfl rfl (by simp) (Dd l a.mv[j].src) rfl ?_;rintro _ rfl;simp[hb,gL];refine Q5 rfl rfl ?_;simp[hb];refine Qs rfl ?_;repeat first|(refine r_ ?_;simp[hw])|refine q_ ?_
   refine Qb (sl':=[(1,LI l),(3,.vptr 0 0),(5,.vptr 1 0),(7,.sl q 1 0 acc.length),(11,.list (a.mv.map encMv)),(12,.i a.mv.length),(13,.i (j+1:Nat))]) ?_ (by simp);have:=z6 q _ ⟨by omega,by rw[hh];simpa using g.add [AObj.vars [AV.i a.mv[j].src,AV.i a.mv[j].dst,AV.list (a.mv[j].on.map encL)]]⟩ (by omega);rw[hh]at this;simpa using this
 ·have z7:j=a.mv.length:=by simp at zc;omega
  subst z7;rw[zZ]at g ⊢;have za:=q01 l x a.mv;repeat first|(refine r_ ?_;simp)|refine q_ ?_
  refine Wd rfl rfl (J2 H2 q (Zp l x a.mv) g.arr (by omega)) rfl ?_;rintro r H' ⟨rfl,rfl⟩;simp;repeat first|(refine r_ ?_;simp)|refine q_ ?_
  have g2:=Qp g.arr (.arr 3 1 ((Ro (Zp l x a.mv)).map (AV.int .i64)));have zg:=U0 (Zp l x a.mv);rw[←zg];refine Wd rfl rfl (P8 _ q (Ro (Zp l x a.mv)) g2 (by omega) (Y6 _)) rfl ?_;rintro r H' ⟨rfl,G,rfl⟩;simp;have g3:=Qp g.arr (.arr 3 1 ((Lib.compact (Ro (Zp l x a.mv))++G).map (AV.int .i64)));rw[q14,x12 (fun m hm=>(ha.mv m hm).dst)]at *
  repeat first|(refine r_ ?_;simp)|refine q_ ?_
  rw[yF]at g3;simp[g3]
end Go.Abs
namespace Go.Abs
open Go Go.Proofs
theorem u0f(H:List AObj)(l:List Int)(g:Nat)(cap:AV)(f:Int→Bool)(hl:l.length≤1000000000)(hg:∀z∈l,FC Tryz.prog g [.i z,cap] H (fun r H'=>r= .bool (f z)∧H'=H)):
  FC Tryz.prog 106 [LI l,.fn (.func g) [] [cap]] H (fun r H'=>r= .i (g0o f l)∧H'=H):=by
 refine Eg tOk Tryz.func106 rfl Tryz.results106 rfl (by simp[Tryz.ntmps106]) ?_;rw[Tryz.ntmps106];simp only[Qe];repeat first|(refine r_ ?_;simp)|refine q_ ?_
 refine Qm (Qb (sl':=[(0,LI l),(1,.fn (.func g) [] [cap]),(7,.i l.length),(8,.i 0)]) ?_ (by simp));refine Ql (F:=fun(j:Nat)=>⟨[(0,LI l),(1,.fn (.func g) [] [cap]),(7,.i l.length),(8,.i j)],H⟩)
  (fun j=>j≤l.length∧∀i,∀hi:i<l.length,i<j→f l[i]=false) (fun j=>l.length - j) ?_ 0 ⟨by simp,by simp⟩
 rintro j ⟨hj,hI⟩ ih;repeat first|(refine r_ ?_;simp)|refine q_ ?_
 refine Qa rfl (fun z7=> ?_) (fun z8=> ?_)
 ·have z1:j<l.length:=by simpa using z7
  have hw:IntKind.i64.wrap ((j:Int)+1)=j+1:=wrap_i64 _ (by omega) (by omega);repeat first|(refine r_ ?_;simp[z1])|refine q_ ?_
  refine Wd rfl rfl (hg _ (zG z1)) rfl ?_;rintro r H' ⟨rfl,rfl⟩;simp;repeat first|(refine r_ ?_;simp)|refine q_ ?_
  refine Qa rfl (fun h=> ?_) (fun h=> ?_)
  ·repeat first|(refine r_ ?_;simp)|refine q_ ?_
   rw[Br z1 h hI]
  ·repeat first|(refine r_ ?_;simp[hw])|refine q_ ?_
   refine Qb (sl':=[(0,LI l),(1,.fn (.func g) [] [cap]),(7,.i l.length),(8,.i (j+1:Nat))]) (ih (j+1) ⟨by omega,fun i hi za=> ?_⟩ (by omega)) (by simp);by_cases e:i=j
   ·subst e;exact h
   ·exact hI i hi (by omega)
 ·have z6:j=l.length:=by simp at z8;omega
  subst z6;repeat first|(refine r_ ?_;simp)|refine q_ ?_
  rw[K9 hI]
theorem Z3(H:List AObj)(l:List Int)(g:Nat)(cap:AV)(f:Int→Bool)(hl:l.length≤1000000000)(hg:∀z∈l,FC Tryz.prog g [.i z,cap] H (fun r H'=>r= .bool (f z)∧H'=H)):
  FC Tryz.prog 47 [LI l,.fn (.func g) [] [cap]] H (fun r H'=>r= .bool (l.any f)∧H'=H):=by
 refine Eg tOk Tryz.func47 rfl Tryz.results47 rfl (by simp[Tryz.ntmps47]) ?_;rw[Tryz.ntmps47];simp only[Qe];repeat first|(refine r_ ?_;simp)|refine q_ ?_
 refine Wd rfl rfl (u0f H l g cap f hl hg) rfl ?_;rintro r H' ⟨rfl,rfl⟩;simp;repeat first|(refine r_ ?_;simp)|refine q_ ?_
 rw[←f0q]
def y2x(a:Aut)(s:Int):Bool:=decide (s<0) || decide ((a.fin.length:Int)≤s)
attribute [local irreducible] y2x
end Go.Abs
namespace Go.Abs
open Go Go.Proofs
attribute [simp] T4
def c1b(n:Nat)(f:Int→Bool):List AV:=(Wt n).map fun z=>AV.bool (f z)
attribute [local irreducible] c1b
def w1s(n:Nat)(f:Int→Bool):List Int:=(Wt n).filter f
attribute [local irreducible] w1s
end Go.Abs
namespace Go.Abs
open Go Go.Proofs
def nxB(ms:List Mv)(f:Int→Bool)(x:Sy)(z:Int):Bool:=ms.any fun m=>f m.src && Rc m.on x && m.dst==z
attribute [local irreducible] Rc nxB
end Go.Abs
namespace Go.Abs
open Go Go.Proofs
attribute [local irreducible] nxB w1s Ga
attribute [local irreducible] E8
theorem Xu(a:Aut)(hl:a.mv.length≤1000000):PC Tryz.prog 204 [encA a] (fun r=>r=LP (onA a)):=by
 refine Qh tOk Tryz.func204 rfl Tryz.results204 rfl (by simp[Tryz.ntmps204]) ?_;rw[Tryz.ntmps204];simp only[Qe];simp only[encA];repeat first|(refine r_ ?_;simp)|refine q_ ?_
 refine Q6 3 70 1 rfl ?_;simp;refine Qm (Qb (sl':=[(1,.vptr 0 0),(3,.sl 1 1 0 0),(4,.i 0)]) ?_ (by simp));obtain⟨K,hK⟩:∃K,K=[AObj.vars (Qo a)]:=⟨_,rfl⟩
 have za:K[0]? =some (AObj.vars (Qo a)):=by rw[hK];rfl
 have hst:=SL.start K 70 1;refine Ql (F:=fun(u:Nat×Nat×List AObj)=>⟨[(1,.vptr 0 0),(3,.sl u.2.1 1 0 u.1),(4,.i u.1)],u.2.2⟩)
  (fun u=>u.1≤a.mv.length∧SL K u.2.2 u.2.1 70 1 ((onA { a with mv:=a.mv.take u.1 }).map encP)) (fun u=>a.mv.length - u.1) ?_ (0,1,_) ⟨by simp,by rw[hK]at hst ⊢;exact hst⟩
 rintro⟨j,q,H2⟩ ⟨hj,g⟩ ih;simp only at hj g ih ⊢;have g0:=g.kp za;repeat first|(refine r_ ?_;simp[g0])|refine q_ ?_
 refine Qa rfl (fun zc=> ?_) (fun zd=> ?_)
 ·have z1:j<a.mv.length:=by simpa using zc
  have hw:IntKind.i64.wrap ((j:Int)+1)=j+1:=wrap_i64 _ (by omega) (by omega);have ze:(onA { a with mv:=a.mv.take (j+1) }).map encP=(onA { a with mv:=a.mv.take j }).map encP++[encP a.mv[j].on]:=by
   have e:onA { a with mv:=a.mv.take (j+1) }=onA { a with mv:=a.mv.take j }++[a.mv[j].on]:=by
    show(a.mv.take (j+1)).map (·.on)=(a.mv.take j).map (·.on)++[a.mv[j].on]
    rw[zJ z1,yF];rfl
   rw[e,yF];rfl
  have z6:((onA { a with mv:=a.mv.take j }).map encP).length=j:=by unfold onA;simp;omega
  have zb:=fun q' H'=>ih (j+1,q',H');simp only[ze]at zb;generalize (onA { a with mv:=a.mv.take j }).map encP=acc at *
  have gL:=fun L=>g.at za L;repeat first|(refine r_ ?_;simp[g0,z1])|refine q_ ?_
  refine Qf tOk rfl rfl T87 rfl T70 rfl (by decide) (by decide) rfl rfl rfl ?_;simp[Qc g.arr,Qj g.arr,z6];refine⟨by simp[Wp,Qc g.arr,Qj g.arr,z6]<;>omega,?_⟩;repeat first|(refine r_ ?_;simp[gL,hw])|refine q_ ?_
  exact Qb (sl':=[(1,.vptr 0 0),(3,.sl (H2.length+1) 1 0 (j+1)),(4,.i (j+1:Nat))]) (zb (H2.length+1) _ ⟨by omega,g.put [AObj.arr 70 1 [encP a.mv[j].on]] _ rfl⟩ (by omega)) (by simp)
 ·have z8:j=a.mv.length:=by simp at zd;omega
  subst z8;have e:({ a with mv:=a.mv.take a.mv.length }:Aut)=a:=by rw[zZ]
  rw[e]at g;have z6:((onA a).map encP).length=a.mv.length:=by simp[onA]
  have ga:=g.arr;obtain⟨acc,z7⟩:∃acc,acc=(onA a).map encP:=⟨_,rfl⟩
  rw[←z7]at ga z6;repeat first|(refine r_ ?_;simp[ga,z6])|refine q_ ?_
  rw[zM (by omega),z7]
end Go.Abs
namespace Go.Abs
open Go Go.Proofs
abbrev LLI (l:List (List Int)):AV:= .list (l.map fun x=>LI x)
end Go.Abs
namespace Go.Abs
open Go Go.Proofs
end Go.Abs
namespace Go.Abs
open Go Go.Proofs
def Dj(a:Aut)(s:Int)(j:Nat):Prd:=(Mj { a with mv:=a.mv.take j } s).foldl (fun r p=>We r (W2 p)) (Wf a.types.toNat)
theorem q1c(a:Aut)(s:Int)(j:Nat)(h:j<a.mv.length):Mj { a with mv:=a.mv.take (j+1) } s=Mj { a with mv:=a.mv.take j } s++(if a.mv[j].src=s then [a.mv[j].on]else []):=by unfold Mj;simp only;rw[zJ h,uX,yF];by_cases e:a.mv[j].src=s<;>simp[e]
theorem H7(a:Aut)(s:Int)(j:Nat)(h:j<a.mv.length):Dj a s (j+1)=if a.mv[j].src=s then We (Dj a s j) (W2 a.mv[j].on)else Dj a s j:=by unfold Dj;rw[q1c a s j h,List.foldl_append];by_cases e:a.mv[j].src=s<;>simp[e]
theorem Hy(a:Aut)(s:Int):Dj a s 0=Wf a.types.toNat:=rfl
theorem f0p(a:Aut)(s:Int):Dj a s a.mv.length=Sk a s:=by unfold Dj Sk;rw[zZ]
theorem y1c{T:Nat}{c p:Prd}(hc:PWf T c)(hp:PWf T p){n m:Nat}(h1:∀s∈c,s.length≤n)(h2:∀t∈p,t.length≤m):∀x∈We c p,x.length≤n+m:=fun x hx=>by
 obtain⟨i,hi⟩:=List.mem_iff_getElem?.1 hx;unfold We at hi;rw[List.getElem?_zipWith]at hi;cases h3:c[i]? with
 |none=>rw[h3]at hi;simp at hi
 |some a=>
  cases h4:p[i]? with
  |none=>rw[h3,h4]at hi;simp at hi
  |some b=>rw[h3,h4]at hi;simp at hi;subst hi;have ha:=zF h3;have hb:=zF h4;have k1:=w14 (Ep a b);have k2:=Vo a b (hc.2 a ha).1 (hp.2 b hb).1;have:=h1 a ha;have:=h2 b hb;rw[Rm];omega
theorem Ly{T:Nat}{p:Prd}(hp:PWf T p){m:Nat}(h2:∀t∈p,t.length≤m):∀x∈W2 p,x.length≤m+1:=fun x hx=>by obtain⟨y,hy,rfl⟩:=zK.1 hx;have:=d0h (hp.2 y hy).1 (hp.2 y hy).2;have:=h2 y hy;omega
theorem Mw{a:Aut}(h:OkA a)(s:Int):∀j,j≤a.mv.length→PWf a.types.toNat (Dj a s j)∧∀x∈Dj a s j,x.length≤1+257 * j
 |0,_=>by rw[Hy];exact⟨Ko _,fun x hx=>by rw[x04 _ x hx];omega⟩
 |j+1,hj=>by
  obtain⟨h1,h2⟩:=Mw h s j (by omega);have z1:j<a.mv.length:=by omega
  have hm:=zG z1;rw[H7 a s j z1];split
  ·have hw:=(h.mv _ hm).on.wf;refine⟨Yk h1 (Ic hw).1,fun x hx=> ?_⟩;have:=y1c h1 (Ic hw) h2 (Ly hw (Su h hm)) x hx;omega
  ·exact⟨h1,fun x hx=>by have:=h2 x hx;omega⟩
attribute [local irreducible] Dj We W2 Wf Wk
theorem Nt(a:Aut)(h:OkA a)(s:Int):PC Tryz.prog 161 [encA a,.i s] (fun r=>r=encP (Sk a s)):=by
 refine Qh tOk Tryz.func161 rfl Tryz.results161 rfl (by simp[Tryz.ntmps161]) ?_;rw[Tryz.ntmps161];simp only[Qe];simp only[encA];have zd:=h.mvs;have ze:=h.types;repeat first|(refine r_ ?_;simp)|refine q_ ?_
 refine Qd rfl rfl (by simp) (H6 a.types (by omega) (by omega)) rfl ?_;rintro _ rfl;simp;repeat first|(refine r_ ?_;simp)|refine q_ ?_
 refine Qt a.mv.length (fun _=>True) (fun j=>[(1,.i s),(2,.vptr 0 0),(4,.vptr 1 0),(5,.vptr 2 0),(6,.i j)]) (fun j=>[.vars (Qo a),.vars [.nils],.vars [.list ((Dj a s j).map encL)]]) (by rw[Hy];rfl) (by simp) (by simp) (by simp) (by simp) trivial ?_;intro j hj _ ih;repeat first|(refine r_ ?_;simp)|refine q_ ?_
 refine Qa rfl (fun zb=> ?_) (fun zc=> ?_)
 ·have z1:j<a.mv.length:=by simpa using zb
  have hw:IntKind.i64.wrap ((j:Int)+1)=j+1:=wrap_i64 _ (by omega) (by omega);obtain⟨k1,k2⟩:=Mw h s j hj;have z6:=H7 a s j z1;have hm:=zG z1;have z7:=(h.mv _ hm).on.wf;repeat first|(refine r_ ?_;simp[z1])|refine q_ ?_
  refine Qa rfl (fun he=> ?_) (fun he=> ?_)
  ·have z8:a.mv[j].src=s:=by simpa using he
   rw[if_pos z8]at z6;repeat first|(refine r_ ?_;simp)|refine q_ ?_
   refine Qk tOk mixed [9] (.val 0 (.val 1 (.val 2 (.val 3 (.val 4 (.val 5 (.val 6 (.one 7 (.one 8 (.one 9 (.done))))))))))) rfl (by kernel_rfl) ?_;simp[z1];refine Qd rfl rfl (by simp) (Z6 a.types.toNat a.mv[j].on z7 (fun t ht=>by have:=Su h hm t ht;omega) (by omega)) rfl ?_;rintro _ rfl;simp;refine Qd rfl rfl (by simp) (An a.types.toNat (Dj a s j) (W2 a.mv[j].on) k1 (Ic z7) (fun x hx y hy=>by have:=k2 x hx;have:=Ly z7 (Su h hm) y hy;omega) (by omega)) rfl ?_;rintro _ rfl;simp;repeat first|(refine r_ ?_;simp[hw])|refine q_ ?_
   refine Qq [] (ih z1 trivial) ?_ (by simp) ?_ (by simp) (by simp)
   ·rw[z6];rfl
   ·simp
  ·have z8:¬a.mv[j].src=s:=by simpa using he
   rw[if_neg z8]at z6;repeat first|(refine r_ ?_;simp[hw])|refine q_ ?_
   refine Qq [] (ih z1 trivial) ?_ (by simp) ?_ (by simp) (by simp)
   ·rw[z6];rfl
   ·simp
 ·have za:j=a.mv.length:=by simp at zc;omega
  subst za;repeat first|(refine r_ ?_;simp)|refine q_ ?_
  rw[f0p]
end Go.Abs
namespace Go.Abs
open Go Go.Proofs
theorem z0e{a:Aut}{i:Nat}(h:i<a.fin.length)(hv:Wk (Sk a i)=false):Px a=false:=by unfold Px;rw[wR];exact⟨i,yL.2 h,by rw[hv];simp⟩
theorem k0g{a:Aut}(h:∀i:Nat,i<a.fin.length→Wk (Sk a i)=true):Px a=true:=by unfold Px;rw[zP];exact fun i hi=>h i (yL.1 hi)
attribute [local irreducible] Sk Wk
theorem c05(a:Aut)(h:OkA a):PC Tryz.prog 92 [encA a] (fun r=>r= .bool (Px a)):=by
 refine Qh tOk Tryz.func92 rfl Tryz.results92 rfl (by simp[Tryz.ntmps92]) ?_;rw[Tryz.ntmps92];simp only[Qe];simp only[encA];have hf:=h.fin;repeat first|(refine r_ ?_;simp)|refine q_ ?_
 refine Qt a.fin.length (fun j=>∀i:Nat,i<j→Wk (Sk a i)=true) (fun j=>[(1,.vptr 0 0),(3,.i j)]) (fun _=>[.vars (Qo a)]) rfl (by simp) (by simp) (by simp) (by simp) (by simp) ?_;intro j hj hI ih;repeat first|(refine r_ ?_;simp)|refine q_ ?_
 refine Qa rfl (fun z7=> ?_) (fun z8=> ?_)
 ·have z1:j<a.fin.length:=by simpa using z7
  have hw:IntKind.i64.wrap ((j:Int)+1)=j+1:=wrap_i64 _ (by omega) (by omega);repeat first|(refine r_ ?_;simp)|refine q_ ?_
  refine Qd rfl rfl (by simp) (Nt a h j) rfl ?_;rintro _ rfl;simp;repeat first|(refine r_ ?_;simp)|refine q_ ?_
  refine Qd rfl rfl (by simp) (Uy (Sk a j)) rfl ?_;rintro _ rfl;simp;repeat first|(refine r_ ?_;simp)|refine q_ ?_
  refine Qa rfl (fun he=> ?_) (fun he=> ?_)
  ·repeat first|(refine r_ ?_;simp)|refine q_ ?_
   rw[z0e z1 (by simpa using he)]
  ·repeat first|(refine r_ ?_;simp[hw])|refine q_ ?_
   refine Qq [] (ih z1 (fun i hi=> ?_)) rfl (by simp) ?_ (by simp) (by simp)
   ·by_cases e:i=j
    ·subst e;simpa using he
    ·exact hI i (by omega)
   ·simp
 ·have z6:j=a.fin.length:=by simp at z8;omega
  subst z6;repeat first|(refine r_ ?_;simp)|refine q_ ?_
  rw[k0g hI]
end Go.Abs
namespace Go.Abs
open Go Go.Proofs
theorem q07{p:Prd}{i:Nat}(h:i<p.length)(hv:¬(p[i].length≤12)):y11 p=false:=by rw[wU,Ne,Kr];exact fun k=>hv (k.2 _ (zG h))
theorem c0h(p:Prd):PC Tryz.prog 78 [encP p] (fun r=>r= .bool (y11 p)):=by
 refine Qh tOk Tryz.func78 rfl Tryz.results78 rfl (by simp[Tryz.ntmps78]) ?_;rw[Tryz.ntmps78];simp only[Qe];simp only[encP];refine Wn 0 0 rfl rfl (fun hlen=> ?_);rw[zV]at hlen;repeat first|(refine r_ ?_;simp)|refine q_ ?_
 refine Qt p.length (fun j=>j≤5∧∀i,∀hi:i<p.length,i<j→p[i].length≤12) (fun j=>[(1,.vptr 0 0),(3,.i j)]) (fun _=>[.vars [.list (p.map encL)]]) rfl (by simp) (by simp) (by simp) (by simp) (by simp) ?_;rintro j hj ⟨za,hI⟩ ih;repeat first|(refine r_ ?_;simp)|refine q_ ?_
 refine Qa rfl (fun z6=> ?_) (fun z7=> ?_)
 ·have z1:j<p.length:=by simp at z6;omega
  have zb:j<5:=by simp at z6;omega
  have hw:IntKind.i64.wrap ((j:Int)+1)=j+1:=wrap_i64 _ (by omega) (by omega);repeat first|(refine r_ ?_;simp[z1])|refine q_ ?_
  refine Qd rfl rfl (by simp) (g1a p[j]) rfl ?_;rintro _ rfl;simp;repeat first|(refine r_ ?_;simp)|refine q_ ?_
  refine Qa rfl (fun he=> ?_) (fun he=> ?_)
  ·repeat first|(refine r_ ?_;simp)|refine q_ ?_
   rw[q07 z1 (by simp at he;omega)]
  ·repeat first|(refine r_ ?_;simp[hw])|refine q_ ?_
   refine Qq [] (ih z1 ⟨by omega,fun i hi zc=> ?_⟩) rfl (by simp) ?_ (by simp) (by simp)
   ·by_cases e:i=j
    ·subst e;simp at he;omega
    ·exact hI i hi (by omega)
   ·simp
 ·have z8:p.length≤j∨5≤j:=by simp at z7;omega
  repeat first|(refine r_ ?_;simp)|refine q_ ?_
  rw[xR,Kr,decide_eq_true_eq];constructor
  ·intro h4;refine⟨by omega,fun s hs=> ?_⟩;obtain⟨i,hi,rfl⟩:=yG hs;exact hI i hi (by omega)
  ·intro h4;omega
end Go.Abs
namespace Go.Abs
open Go Go.Proofs
theorem Xf{a:Aut}:x0n a=true↔a.fin.length≤8∧a.mv.length≤16∧∀m∈a.mv,y11 m.on=true:=by simp only[x0n,zR,decide_eq_true_eq,zP,and_assoc]
attribute [local irreducible] y11
theorem v0y(a:Aut):PC Tryz.prog 27 [encA a] (fun r=>r= .bool (x0n a)):=by
 refine Qh tOk Tryz.func27 rfl Tryz.results27 rfl (by simp[Tryz.ntmps27]) ?_;rw[Tryz.ntmps27];simp only[Qe];simp only[encA];refine Wn 0 2 rfl rfl (fun hlen=> ?_);rw[zV]at hlen;repeat first|(refine r_ ?_;simp)|refine q_ ?_
 refine Qt a.mv.length (fun j=>j≤20∧∀i,∀hi:i<a.mv.length,i<j→y11 a.mv[i].on=true) (fun j=>[(1,.vptr 0 0),(3,.i j)]) (fun _=>[.vars (Qo a)]) rfl (by simp) (by simp) (by simp) (by simp) (by simp) ?_;rintro j hj ⟨za,hI⟩ ih;repeat first|(refine r_ ?_;simp)|refine q_ ?_
 refine Qa rfl (fun z6=> ?_) (fun z7=> ?_)
 ·have z1:j<a.mv.length:=by simp at z6;omega
  have zb:j<20:=by simp at z6;omega
  have hw:IntKind.i64.wrap ((j:Int)+1)=j+1:=wrap_i64 _ (by omega) (by omega);repeat first|(refine r_ ?_;simp[z1])|refine q_ ?_
  refine Qd rfl rfl (by simp) (c0h a.mv[j].on) rfl ?_;rintro _ rfl;simp;repeat first|(refine r_ ?_;simp)|refine q_ ?_
  refine Qa rfl (fun he=> ?_) (fun he=> ?_)
  ·repeat first|(refine r_ ?_;simp)|refine q_ ?_
   have:x0n a=false:=by rw[wU,Ne,Xf];intro k;have:=k.2.2 _ (zG z1);rw[this]at he;cases he
   rw[this]
  ·repeat first|(refine r_ ?_;simp[hw])|refine q_ ?_
   refine Qq [] (ih z1 ⟨by omega,fun i hi zc=> ?_⟩) rfl (by simp) ?_ (by simp) (by simp)
   ·by_cases e:i=j
    ·subst e;simpa using he
    ·exact hI i hi (by omega)
   ·simp
 ·have z8:a.mv.length≤j∨20≤j:=by simp at z7;omega
  repeat first|(refine r_ ?_;simp)|refine q_ ?_
  rw[xR,Xf];simp;constructor
  ·rintro⟨h4,h5⟩;refine⟨by omega,by omega,fun m hm=> ?_⟩;obtain⟨i,hi,rfl⟩:=yG hm;exact hI i hi (by omega)
  ·rintro⟨h4,h5,_⟩;omega
end Go.Abs
namespace Go.Abs
open Go Go.Proofs
end Go.Abs
namespace Go.Abs
open Go Go.Proofs
theorem v0n(p:Prd)(g:Nat)(f:List Iv→Bool)(hg:∀s,PC Tryz.prog g [LIv s] (fun r=>r= .bool (f s))):
  PC Tryz.prog 176 [.list (p.map encL),.fn (.func g) [] []] (fun r=>r= .i (g0o f p)):=by
 refine Qh tOk Tryz.func176 rfl Tryz.results176 rfl (by simp[Tryz.ntmps176]) ?_;rw[Tryz.ntmps176];simp only[Qe];refine Rp 0 rfl (fun hlen=> ?_);rw[zV]at hlen;repeat first|(refine r_ ?_;simp)|refine q_ ?_
 refine Qt p.length (fun j=>∀i,∀hi:i<p.length,i<j→f p[i]=false) (fun j=>[(0,.list (p.map encL)),(1,.fn (.func g) [] []),(7,.i p.length),(8,.i j)]) (fun _=>[]) rfl (by simp) (by simp) (by simp) (by simp) (by simp) ?_;intro j hj hI ih;repeat first|(refine r_ ?_;simp)|refine q_ ?_
 refine Qa rfl (fun z7=> ?_) (fun z8=> ?_)
 ·have z1:j<p.length:=by simpa using z7
  have hw:IntKind.i64.wrap ((j:Int)+1)=j+1:=wrap_i64 _ (by omega) (by omega);repeat first|(refine r_ ?_;simp[z1])|refine q_ ?_
  refine Qd rfl rfl (by simp) (hg p[j]) rfl ?_;rintro _ rfl;simp;repeat first|(refine r_ ?_;simp)|refine q_ ?_
  refine Qa rfl (fun h=> ?_) (fun h=> ?_)
  ·repeat first|(refine r_ ?_;simp)|refine q_ ?_
   rw[Br z1 h hI]
  ·repeat first|(refine r_ ?_;simp[hw])|refine q_ ?_
   refine Qq [] (ih z1 (fun i hi za=> ?_)) rfl (by simp) ?_ (by simp) (by simp)
   ·by_cases e:i=j
    ·subst e;exact h
    ·exact hI i hi (by omega)
   ·simp
 ·have z6:j=p.length:=by simp at z8;omega
  subst z6;repeat first|(refine r_ ?_;simp)|refine q_ ?_
  rw[K9 hI]
theorem Vb(p:Prd)(g:Nat)(f:List Iv→Bool)(hg:∀s,PC Tryz.prog g [LIv s] (fun r=>r= .bool (f s))):
  PC Tryz.prog 111 [.list (p.map encL),.fn (.func g) [] []] (fun r=>r= .bool (p.any f)):=by
 refine Qh tOk Tryz.func111 rfl Tryz.results111 rfl (by simp[Tryz.ntmps111]) ?_;rw[Tryz.ntmps111];simp only[Qe];repeat first|(refine r_ ?_;simp)|refine q_ ?_
 refine Qd rfl rfl (by simp) (v0n p g f hg) rfl ?_;rintro _ rfl;simp;repeat first|(refine r_ ?_;simp)|refine q_ ?_
 rw[←f0q]
theorem v1z(s:List Iv):PC Tryz.prog 112 [LIv s] (fun r=>r= .bool (decide (256<s.length))):=by
 refine Qh tOk Tryz.func112 rfl Tryz.results112 rfl (by simp[Tryz.ntmps112]) ?_;rw[Tryz.ntmps112];simp only[Qe];repeat first|(refine r_ ?_;simp)|refine q_ ?_
 omega
def x1c(m:Mv):Bool:=m.on.any fun s=>decide (256<s.length)
theorem B7(a:Aut):Xx a=(decide (256<a.fin.length) || decide (2048<a.mv.length) || a.mv.any x1c):=rfl
attribute [local irreducible] x1c
end Go.Abs
namespace Go.Abs
open Go Go.Proofs
abbrev LSy (w:List Sy):AV:= .list (w.map encSy)
def x24(a:Aut)(w:List Sy)(z:Int):Bool:=decide (z∈I1 a [0] w)
attribute [local irreducible] c1b nxB
end Go.Abs
namespace Go.Abs
open Go Go.Proofs
def Vv(T:Int):List Sy→Int
 |[]=>0
 |x::r=>if Ga T x≠0 then Ga T x else Vv T r
def d0c(a:Aut)(w:List Sy):Int:=if Wj a≠0 then Wj a else if 4096<w.length then 5 else Vv a.types w
def d0e(a:Aut)(w:List Sy):Bool×Int:=if d0c a w≠0 then(false,d0c a w)else(Tx a w,0)
theorem Kl{T:Int}:∀(w:List Sy),Vv T w=0↔∀x∈w,Ga T x=0
 |[]=>by simp[Vv]
 |x::r=>by
  rw[Vv];by_cases h:Ga T x=0
  ·rw[if_neg (fun k=>k h),Kl r];simp[h]
  ·rw[if_pos h];exact⟨fun k=>absurd k h,fun k=>absurd (k x (by simp)) h⟩
attribute [local irreducible] Ga Tx
end Go.Abs
namespace Go.Abs
open Go Go.Proofs
def Uj:List Iv:=[⟨-1099511627776,1099511627776⟩]
theorem z0y:W9 []=Uj:=by simp[W9,Rg,Uj]
theorem w1d:PC Tryz.prog 101 [] (fun r=>r=LIv Uj):=by
 refine Qh tOk Tryz.func101 rfl Tryz.results101 rfl (by simp[Tryz.ntmps101]) ?_;rw[Tryz.ntmps101];simp only[Qe];repeat first|(refine r_ ?_;simp)|refine q_ ?_
 simp[Uj]
theorem u1l(n:Int):PC Tryz.prog 100 [.i n] (fun r=>r= .tup [LIv Uj,.i 0]):=by
 refine Qh tOk Tryz.func100 rfl Tryz.results100 rfl (by simp[Tryz.ntmps100]) ?_;rw[Tryz.ntmps100];simp only[Qe];repeat first|(refine r_ ?_;simp)|refine q_ ?_
 refine Qd rfl rfl (by simp) (w1d) rfl ?_;rintro _ rfl;simp;repeat first|(refine r_ ?_;simp)|refine q_ ?_
end Go.Abs
namespace Go.Abs
open Go Go.Proofs
attribute [local irreducible] upL Uj
theorem z0o(T:Nat)(hT:T≤1000):PC Tryz.prog 99 [.i T,.fn (.func 100) [] []] (fun r=>r= .tup [encP (zU T Uj),.i 0]):=by
 refine Qh tOk Tryz.func99 rfl Tryz.results99 rfl (by simp[Tryz.ntmps99]) ?_;rw[Tryz.ntmps99];simp only[Qe];simp only[encP];repeat first|(refine r_ ?_;simp)|refine q_ ?_
 refine R8 1 0 145 1 rfl rfl ?_;simp;obtain⟨K,hK⟩:∃K,K=[AObj.vars [AV.nils],AObj.vars [AV.nils]]:=⟨_,rfl⟩
 have hst:=GL.start (K:=K) (S:=1) [] [] 145 1 (by rw[hK];simp);refine Qm (Qb (sl':=[(1,.fn (.func 100) [] []),(4,.vptr 0 0),(6,.vptr 1 0),(10,.i T),(11,.i 0)]) ?_ (by simp));refine Ql (F:=fun(u:Nat×Nat×List AObj)=>⟨[(1,.fn (.func 100) [] []),(4,.vptr 0 0),(6,.vptr 1 0),(10,.i T),(11,.i u.1)],u.2.2⟩)
  (fun u=>u.1≤T∧GL K u.2.2 1 u.2.1 [] [] 145 1 (upL (fun _=>Uj) u.1)) (fun u=>T - u.1) ?_ (0,K.length,_) ⟨by simp,by rw[Dy,hK]at *;exact hst⟩
 rintro⟨j,q,H2⟩ ⟨hj,g⟩ ih;simp only at hj g ih ⊢;have gR:H2[0]? =some (AObj.vars [AV.nils]):=g.kp (by decide) (by rw[hK];rfl);have g2:=g.cell;have g3:=g.arr;rw[Ea]at g2;simp only[xW]at g2;repeat first|(refine r_ ?_;simp)|refine q_ ?_
 refine Qa rfl (fun zd=> ?_) (fun ze=> ?_)
 ·have zf:j<T:=by simpa using zd
  have hw:IntKind.i64.wrap ((j:Int)+1)=j+1:=wrap_i64 _ (by omega) (by omega);repeat first|(refine r_ ?_;simp)|refine q_ ?_
  refine Qd rfl rfl (by simp) (u1l j) rfl ?_;rintro _ rfl;simp;repeat first|(refine r_ ?_;simp)|refine q_ ?_
  refine Qs rfl ?_;have z6:∀L:List AObj,(H2.set q .dead++L)[1]? =some (AObj.vars [AV.sl q 1 0 j]):=fun L=>by have:=g.at L;rw[Ea]at this;exact this
  have z8:∀(L:List AObj) (h:1<(H2.set q .dead++L).length),(H2.set q .dead++L)[1]'h=AObj.vars [AV.sl q 1 0 j]:=fun L h=>by have:=z6 L;rw[zD h]at this;exact Option.some.inj this
  have za:=fun A y=>g.put A y (Ea _ _).symm;have zg:upL (fun _=>Uj) j++[encL Uj]=upL (fun _=>Uj) (j+1):=(D3 _ _).symm;have z1:=fun H=>ih (j+1,H2.length+1,H);have z7:=Ea (fun _=>Uj) j;simp only[←zg]at z1;repeat first|(refine r_ ?_;simp[g2])|refine q_ ?_
  generalize upL (fun _=>Uj) j=xs at *
  refine Qf tOk rfl rfl T68 rfl Au rfl (by decide) (by decide) rfl rfl rfl ?_;simp[Qc g3,Qj g3,z7,z6,z8];refine⟨by simp[Wp,Qc g3,Qj g3,z7,z6,z8]<;>omega,?_⟩;repeat first|(refine r_ ?_;simp[g2,hw,z6,z8])|refine q_ ?_
  refine Qb (sl':=[(1,.fn (.func 100) [] []),(4,.vptr 0 0),(6,.vptr 1 0),(10,.i T),(11,.i (j+1:Nat))]) (z1 _ ⟨by omega,za _ _⟩ (by omega)) ?_;simp
 ·have zb:j=T:=by simp at ze;omega
  subst zb;have hS:=(zA.1 g2).1;have zh:q≠0∧q≠1:=by have:=g.ge;rw[hK]at this;simp at this;omega
  have z7:=Ea (fun _=>Uj) j;have zc: .list (upL (fun _=>Uj) j)=AV.list ((zU j Uj).map encL):=by rw[Lk];simp[Function.comp_def,vH]
  generalize upL (fun _=>Uj) j=xs at *
  refine Ws q g3 1 g2 ?_;have k1:∀X,((H2.set q .dead).set 1 X)[0]? =some (AObj.vars [AV.nils]):=fun X=>Qg (by decide) (Qg zh.1 gR _) _;have k2:∀X,((H2.set q .dead).set 1 X)[1]? =some X:=fun X=>zH (by simpa using hS);have k3:∀X Y,(((H2.set q .dead).set 1 X).set 0 Y)[0]? =some Y:=fun X Y=>Qp (k1 X) _;simp[z7];rw[zM (by omega)];repeat first|(refine r_ ?_;simp[k1,k2,k3])|refine q_ ?_
  have h2:=AV.list.inj zc;rw[List.map_replicate]at h2;exact h2
theorem v01(T:Int)(h1:1≤T)(h2:T≤16):PC Tryz.prog 42 [.i T] (fun r=>r= .tup [encP (Wf T.toNat),.i 0]):=by
 refine Qh tOk Tryz.func42 rfl Tryz.results42 rfl (by simp[Tryz.ntmps42]) ?_;rw[Tryz.ntmps42];simp only[Qe];simp only[encP];have hw:Wf T.toNat=zU T.toNat Uj:=by rw[Wf,z0y]
 have hT:((T.toNat:Nat):Int)=T:=by omega
 have hc:=z0o T.toNat (by omega);rw[hT]at hc;have n1:¬T<1:=by omega
 have n2:¬16<T:=by omega
 rw[hw];repeat first|(refine r_ ?_;simp[n1,n2])|refine q_ ?_
 refine Qa rfl (fun h=> ?_) (fun h=> ?_)
 ·simp at h
 repeat first|(refine r_ ?_;simp)|refine q_ ?_
 refine Qd rfl rfl (by simp) (hc) rfl ?_;rintro _ rfl;simp;repeat first|(refine r_ ?_;simp)|refine q_ ?_
end Go.Abs
namespace Go.Abs
open Go Go.Proofs
attribute [local irreducible] Hi
theorem f09(p:Prd):PC Tryz.prog 125 [encP p] (fun r=>r= .fn (.func 188) [] [.iptr [.list (p.map encL)]]):=by refine Qh tOk Tryz.func125 rfl Tryz.results125 rfl (by simp[Tryz.ntmps125]) ?_;rw[Tryz.ntmps125];simp only[Qe];simp only[encP];repeat first|(refine r_ ?_;simp)|refine q_ ?_
theorem y06(p:Prd)(h0:Hi [p]=0)(hv:Wk p=false):PC Tryz.prog 64 [encP p] (fun r=>r= .tup [encSy (Qn p),.i 0]):=by
 have hlen:p.length≤16:=by
  unfold Hi at h0;by_cases hc:E8 p.length p=0
  ·have:=((Ed _ p).1 hc).1;omega
  ·rw[if_pos hc]at h0;exact absurd h0 hc
 obtain⟨t,x,rr,h1,h2,h3⟩:∃t x r,p[t]? =some (x::r)∧Qv p 0=(0+t,x.lo)∧∀j,j<t→p[j]? =some []:=by refine Oj p 0 ?_;rw[Wk,wR]at hv;obtain⟨s,hs,hn⟩:=hv;exact⟨s,hs,fun e=>hn (by rw[e];rfl)⟩
 rw[Nat.zero_add]at h2;have z8:Qn p=⟨t,x.lo⟩:=by rw[Qn,h2]
 rw[z8];obtain⟨zd,za⟩:=zA.1 h1;refine Qh tOk Tryz.func64 rfl Tryz.results64 rfl (by simp[Tryz.ntmps64]) ?_;rw[Tryz.ntmps64];simp only[Qe];simp only[encP,encSy];repeat first|(refine r_ ?_;simp)|refine q_ ?_
 refine Ib 3 rfl ?_;simp;refine Qd rfl rfl (by simp) (H8 [p]) rfl ?_;rintro _ rfl;simp;repeat first|(refine r_ ?_;simp)|refine q_ ?_
 refine Qa rfl (fun h=>by rw[h0]at h;simp at h) (fun h=> ?_);repeat first|(refine r_ ?_;simp)|refine q_ ?_
 refine Qd rfl rfl (by simp) (f09 p) rfl ?_;rintro _ rfl;simp;repeat first|(refine r_ ?_;simp)|refine q_ ?_
 refine Ex rfl (Rf:=fun _ H'=>4<H'.length∧(∃sl' ps' a' b',H'[4]? =some (.lp false (some Code.ret) 25 sl' ps' a' b'))∧H'[1]? =some (.vars [.i t,.i x.lo])∧H'[2]? =some (.vars [.i 0])) ?_ ?_
 ·simp;refine J9 fun H1 z6=> ?_;have f1:H1[1]? =some (.vars [.i 0,.i 0]):=by rw[z6];rfl
  have f2:H1[2]? =some (.vars [.i 0]):=by rw[z6];rfl
  have f4:=congrArg (fun h:List AObj=>h[4]?) z6;simp at f4;have zb:H1.length=5:=by rw[z6];simp
  clear z6;refine Eg tOk Tryz.func188 rfl Tryz.results188 rfl (by simp[Tryz.ntmps188]) ?_;rw[Tryz.ntmps188];simp only[Qe];repeat first|(refine r_ ?_;simp)|refine q_ ?_
  refine Qm (Qb (sl':=[(0,.yld 4),(6,.list (p.map encL)),(7,.i p.length),(8,.i (0:Nat))]) ?_ (by simp));refine Ql (F:=fun(u:Nat)=>⟨[(0,.yld 4),(6,.list (p.map encL)),(7,.i p.length),(8,.i u)],H1⟩) (fun u=>u≤t) (fun u=>t - u) ?_ 0 (by simp);rintro j hj ih;have z1:j<p.length:=by omega
  have hw:IntKind.i64.wrap ((j:Int)+1)=j+1:=wrap_i64 _ (by omega) (by omega);repeat first|(refine r_ ?_;simp)|refine q_ ?_
  refine Qa rfl (fun _=> ?_) (fun zc=>by simp at zc;omega);by_cases hjt:j=t
  ·subst hjt;repeat first|(refine r_ ?_;simp[z1,za])|refine q_ ?_
   refine Uc rfl rfl (q:=4) rfl rfl f4 rfl rfl rfl (fun jm K2=>jm=some Code.ret∧5≤K2.length∧K2[1]? =some (.vars [.i j,.i x.lo])∧K2[2]? =some (.vars [.i 0])) ?_ ?_
   ·simp[Tg];have e1:=Qg (j:=4) (by decide) f1 .dead;have e2:=Qg (j:=4) (by decide) f2 .dead;have e4:=Qp f4 .dead;have e6:(H1.set 4 .dead).length=5:=by simp[zb]
    generalize H1.set 4 .dead=E at *
    have e3:∀y,(E.set 1 y)[2]? =some (.vars [.i 0]):=fun y=>Qg (by decide) e2 y;repeat first|(refine r_ ?_;simp[e1,e2,e3])|refine q_ ?_
    exact⟨Qg (by decide) (Qg (by decide) e4 _) _,rfl,by simp[e6],Qg (by decide) (Qp e1 _) _,Qp (e3 _) _⟩
   ·rintro jm K2 ⟨rfl,v1,v2,v3⟩;simp;repeat first|(refine r_ ?_;simp)|refine q_ ?_
    have v6:4<K2.length:=by omega
    refine Qa rfl (fun _=> ?_) (fun h=>by cases h);repeat first|(refine r_ ?_;simp)|refine q_ ?_
    exact⟨by omega,⟨_,_,_,_,zH v6⟩,v2,v3⟩
  ·have z7:p[j]=[]:=by have:=h3 j (by omega);rw[zD z1]at this;exact Option.some.inj this
   repeat first|(refine r_ ?_;simp[z1,z7])|refine q_ ?_
   refine Q5 rfl rfl ?_;simp;refine Qs rfl ?_;simp;repeat first|(refine r_ ?_;simp[hw])|refine q_ ?_
   exact Qb (sl':=[(0,.yld 4),(6,.list (p.map encL)),(7,.i p.length),(8,.i (j+1:Nat))]) (ih (j+1) (by omega) (by omega)) (by simp)
 ·rintro r H' ⟨hl,⟨sl',ps',a',b',k4⟩,k1,k2⟩;refine⟨_,_,_,_,_,_,_,k4,?_⟩;simp;have u1:=Qg (j:=4) (by decide) k1 .dead;have u2:=Qg (j:=4) (by decide) k2 .dead;generalize H'.set 4 .dead=E at *
  repeat first|(refine r_ ?_;simp[u1,u2])|refine q_ ?_
end Go.Abs
namespace Go.Abs
open Go Go.Proofs
abbrev y2s:Iv:=⟨-1099511627776,1099511627776⟩
theorem A1(i:Nat):Q8 [] i=[]:=rfl
theorem Gx{l:List Prd}{j i:Nat}(hj:j<l.length)(hi:i<l[j].length):Q8 (l.take (j+1)) i=Q8 (l.take j) i++l[j][i]:=by unfold Q8;rw[zJ hj,wY];simp[yT,hi]
theorem Pr{T:Nat}{l:List Prd}(hl:∀p∈l,PCk T p)(i:Nat):(Q8 l i).length≤256 * l.length:=by
 induction l with
 |nil=>simp[Q8]
 |cons p r ih=>
  have h1:=ih (fun q hq=>hl q (by simp[hq]));have h2:(p.getD i []).length≤256:=by
   by_cases hi:i<p.length
   ·rw[Wx hi];exact((hl p (by simp)).2 _ (zG hi)).len
   ·simp[yT,hi]
  unfold Q8 at *;rw[List.flatMap_cons,zW,List.length_cons];omega
def Hh(xs:List Iv):List Int:=Vz (y2s::xs)
theorem k0q(xs:List Iv)(x:Iv):Hh (xs++[x])=Hh xs++[x.lo,x.hi+1]:=by unfold Hh;rw[←vB,q0t]
theorem D7(xs:List Iv):(Hh xs).length=2 * xs.length+2:=by rw[Hh,g07];simp;omega
theorem Lq(l:List Prd)(i:Nat):Lib.compact (Ro (Hh (Q8 l i)))=Q9 l i:=rfl
attribute [local irreducible] Hh Ro Lib.compact Q8
theorem u1h(T:Nat)(l:List Prd)(i:Nat)(hi:i<T)(hT:T≤16)(hl:∀p∈l,PCk T p)(hn:l.length≤256):PC Tryz.prog 166 [LP l,.i i] (fun r=>r=LI (Q9 l i)):=by
 refine Qh tOk Tryz.func166 rfl Tryz.results166 rfl (by simp[Tryz.ntmps166]) ?_;rw[Tryz.ntmps166];simp only[Qe];repeat first|(refine r_ ?_;simp)|refine q_ ?_
 have h2:Hh (Q8 (l.take 0) i)=[-1099511627776,1099511627777]:=by rw[wK,A1,Hh];rfl
 have zi:=Pr hl i;refine Qm (Qb (sl':=[(0,LP l),(1,.i i),(5,.sl 0 1 0 (Hh (Q8 (l.take 0) i)).length),(11,LP l),(12,.i l.length),(13,.i (0:Nat))]) ?_ (by rw[h2];simp));refine Ql (F:=fun(u:Nat×Nat×List AObj)=>⟨[(0,LP l),(1,.i i),(5,.sl u.2.1 1 0 (Hh (Q8 (l.take u.1) i)).length),(11,LP l),(12,.i l.length),(13,.i u.1)],u.2.2⟩)
  (fun u=>u.1≤l.length∧SL [] u.2.2 u.2.1 3 1 ((Hh (Q8 (l.take u.1) i)).map (AV.int .i64))) (fun u=>l.length - u.1) ?_ (0,0,_) ⟨by simp,by rw[h2];exact⟨rfl,by simp,fun j hj=>by simp at hj⟩⟩
 rintro⟨j,q,H2⟩ ⟨hj,g⟩ ih;simp only at hj g ih ⊢;repeat first|(refine r_ ?_;simp)|refine q_ ?_
 refine Qa rfl (fun zj=> ?_) (fun zk=> ?_)
 ·have z6:j<l.length:=by simpa using zj
  have hw:IntKind.i64.wrap ((j:Int)+1)=j+1:=wrap_i64 _ (by omega) (by omega);have hp:=hl _ (zG z6);have z8:i<l[j].length:=by rw[hp.1];exact hi
  have hs:=hp.2 _ (zG z8);have hst:=Gx z6 z8;have za:=Pr (l:=l.take j) (fun p hp=>hl p (yW hp)) i;rw[yP]at za;have zf:=hs.len;have zb:=fun k hk=>hs.iv (j:=k) hk;repeat first|(refine r_ ?_;simp[z6,z8])|refine q_ ?_
  generalize l[j][i]=s at *;generalize hA:Q8 (l.take j) i=A at *;refine Qm (Qb (sl':=[(0,LP l),(1,.i i),(5,.sl q 1 0 (Hh (A++s.take 0)).length),(11,LP l),(12,.i l.length),(13,.i j),(21,LIv s),(22,.i s.length),(23,.i (0:Nat))]) ?_ (by simp))
  refine Ql (F:=fun(u:Nat×Nat×List AObj)=>⟨[(0,LP l),(1,.i i),(5,.sl u.2.1 1 0 (Hh (A++s.take u.1)).length),(11,LP l),(12,.i l.length),(13,.i j),(21,LIv s),(22,.i s.length),(23,.i u.1)],u.2.2⟩)
   (fun u=>u.1≤s.length∧SL [] u.2.2 u.2.1 3 1 ((Hh (A++s.take u.1)).map (AV.int .i64))) (fun u=>s.length - u.1) ?_ (0,q,_) ⟨by simp,by rw[wK,List.append_nil];exact g.add _⟩
  rintro⟨m,q',H3⟩ ⟨hm,g'⟩ ih';simp only at hm g' ih' ⊢;repeat first|(refine r_ ?_;simp)|refine q_ ?_
  refine Qa rfl (fun zc=> ?_) (fun zd=> ?_)
  ·have z1:m<s.length:=by simpa using zc
   have zl:IntKind.i64.wrap ((m:Int)+1)=m+1:=wrap_i64 _ (by omega) (by omega);obtain⟨b1,b2,b3⟩:=zb m z1;have zm:IntKind.i64.wrap (s[m].hi+1)=s[m].hi+1:=wrap_i64 _ (by omega) (by omega);have zn:Hh (A++s.take (m+1))=Hh (A++s.take m)++[s[m].lo,s[m].hi+1]:=by rw[zJ z1,←List.append_assoc,k0q]
   have zg:=D7 (A++s.take m);rw[zW,yP]at zg;have zh:=fun q' H'=>ih' (m+1,q',H');simp only[zn]at zh;generalize Hh (A++s.take m)=acc at *
   repeat first|(refine r_ ?_;simp[z1,zm])|refine q_ ?_
   refine Qf tOk rfl rfl T47 rfl T3 rfl (by decide) (by decide) rfl rfl rfl ?_;simp[Qc g'.arr,Qj g'.arr];refine⟨by simp[Wp,Qc g'.arr,Qj g'.arr]<;>omega,?_⟩;repeat first|(refine r_ ?_;simp[zl])|refine q_ ?_
   refine Qb (sl':=[(0,LP l),(1,.i i),(5,.sl (H3.length+2) 1 0 (acc.length+2)),(11,LP l),(12,.i l.length),(13,.i j),(21,LIv s),(22,.i s.length),(23,.i (m+1:Nat))]) ?_ (by simp);have:=zh (H3.length+2) _ ⟨by omega,g'.put [AObj.vars [AV.i s[m].lo,AV.i s[m].hi],AObj.arr 3 1 [AV.i s[m].lo,AV.i (s[m].hi+1)]] _ rfl⟩ (by omega);simpa using this
  ·have z7:m=s.length:=by simp at zd;omega
   subst z7;rw[zZ]at g' ⊢;repeat first|(refine r_ ?_;simp[hw])|refine q_ ?_
   refine Qb (sl':=[(0,LP l),(1,.i i),(5,.sl q' 1 0 (Hh (A++s)).length),(11,LP l),(12,.i l.length),(13,.i (j+1:Nat))]) ?_ (by simp);have:=ih (j+1,q',H3) ⟨by omega,by rw[hst];exact g'⟩ (by show l.length - (j+1)<l.length - j;omega);rw[hst]at this;exact this
 ·have ze:j=l.length:=by simp at zk;omega
  subst ze;rw[zZ]at g ⊢;have zg:=D7 (Q8 l i);rw[←Lq];generalize Hh (Q8 l i)=acc at *
  repeat first|(refine r_ ?_;simp)|refine q_ ?_
  refine Wd rfl rfl (J2 H2 q acc g.arr (by omega)) rfl ?_;rintro r H' ⟨rfl,rfl⟩;simp;repeat first|(refine r_ ?_;simp)|refine q_ ?_
  have g2:=Qp g.arr (.arr 3 1 ((Ro acc).map (AV.int .i64)));have zf:=U0 acc;rw[←zf];refine Wd rfl rfl (P8 _ q (Ro acc) g2 (by omega) (Y6 _)) rfl ?_;rintro r H' ⟨rfl,G,rfl⟩;simp;have g3:=Qp g.arr (.arr 3 1 ((Lib.compact (Ro acc)++G).map (AV.int .i64)));repeat first|(refine r_ ?_;simp)|refine q_ ?_
  rw[yF]at g3;simp[g3]
end Go.Abs
namespace Go.Abs
open Go Go.Proofs
attribute [simp] q2k T5 T9
def sb(b:Bool):UInt8:=if b then 1 else 0
def sgB(bs:List Bool):List UInt8:=bs.map sb
theorem j0e:∀ {a b:List Bool},sgB a=sgB b→a=b
 |[],[],_=>rfl
 |[],_::_,h=>by simp[sgB]at h
 |_::_,[],h=>by simp[sgB]at h
 |x::a,y::b,h=>by simp only[sgB,List.map_cons,List.cons.injEq]at h;obtain⟨h1,h2⟩:=h;rw[j0e (a:=a) (b:=b) h2];cases x<;>cases y<;>simp[sb]at h1 ⊢
theorem Kw(bs:List Bool):(sgB bs).length=bs.length:=by simp[sgB]
def sgJ(bs:List Bool)(j:Nat):List AV:=(sgB (bs.take j)++zU (bs.length - j) 0).map byteAV
theorem k1x{bs:List Bool}{j:Nat}(h:j≤bs.length):(sgJ bs j).length=bs.length:=by simp[sgJ,sgB];omega
theorem d0o(bs:List Bool):zU bs.length (AV.int .u8 0)=sgJ bs 0:=by simp[sgJ,sgB]
theorem v1n(bs:List Bool):sgJ bs bs.length=(sgB bs).map byteAV:=by simp[sgJ]
theorem z2e{bs:List Bool}{j:Nat}(h:j<bs.length)(hb:bs[j]=true):(sgJ bs j).set j (AV.int .u8 1)=sgJ bs (j+1):=by
 have h1:(sgB (bs.take j)).length=j:=by simp[sgB];omega
 have e:bs.length - j=(bs.length - (j+1))+1:=by omega
 unfold sgJ;rw[yF,List.set_append_right (h:=by simp[h1]),zJ h,e,u3];have hm:j - min j bs.length=0:=by omega
 simp[h1,sgB,hb,sb,byteAV,hm]
theorem x1w{bs:List Bool}{j:Nat}(h:j<bs.length):(sgJ bs j)[j]? =some (AV.int .u8 0):=by
 have h1:(sgB (bs.take j)).length=j:=by simp[sgB];omega
 unfold sgJ;have e:bs.length - j=(bs.length - (j+1))+1:=by omega
 rw[yF,zC (by simp[h1]),e,u3];simp[h1]
theorem q2r{bs:List Bool}{j:Nat}(h:j<bs.length)(hb:bs[j]=false):sgJ bs j=sgJ bs (j+1):=by
 have e:bs.length - j=(bs.length - (j+1))+1:=by omega
 unfold sgJ;rw[zJ h,e,u3];simp[sgB,hb,sb]
theorem v1b{l:List Prd}{i j:Nat}(n:Int)(hj:j<l.length)(hi:i<l[j].length)(h:j<(Un l i n).length):(Un l i n)[j]=Og l[j][i] n:=by simp[Un,yT,hi]
attribute [local irreducible] sgJ sgB Og Un
theorem C1(T:Nat)(l:List Prd)(i:Nat)(n:Int)(hi:i<T)(hT:T≤16)(hl:∀p∈l,PCk T p)(hn:l.length≤256):PC Tryz.prog 167 [LP l,.i i,.i n] (fun r=>r= .str (sgB (Un l i n))):=by
 refine Qh tOk Tryz.func167 rfl Tryz.results167 rfl (by simp[Tryz.ntmps167]) ?_;rw[Tryz.ntmps167];simp only[Qe];have z6:(Un l i n).length=l.length:=by simp[Un]
 repeat first|(refine r_ ?_;simp)|refine q_ ?_
 refine Ts tOk rfl rfl rfl q2k rfl T5 rfl rfl rfl (n:=l.length) (by simp;omega) (by unfold maxLen;omega) (.int .u8 0) rfl ?_;simp;rw[←z6,d0o];repeat first|(refine r_ ?_;simp)|refine q_ ?_
 refine Qm (Qb (sl':=[(1,.i i),(2,.i n),(7,.sl 0 1 0 l.length),(15,LP l),(16,.i l.length),(17,.i (0:Nat))]) ?_ (by simp[z6]));refine Ql (F:=fun(u:Nat×List AObj)=>⟨[(1,.i i),(2,.i n),(7,.sl 0 1 0 l.length),(15,LP l),(16,.i l.length),(17,.i u.1)],u.2⟩)
  (fun u=>u.1≤l.length∧u.2[0]? =some (.arr 5 1 (sgJ (Un l i n) u.1))) (fun u=>l.length - u.1) ?_ (0,_) ⟨by simp,rfl⟩
 rintro⟨j,H2⟩ ⟨hj,g⟩ ih;simp only at hj g ih ⊢;have ze:=k1x (bs:=Un l i n) (j:=j) (by omega);repeat first|(refine r_ ?_;simp)|refine q_ ?_
 refine Qa rfl (fun zg=> ?_) (fun zh=> ?_)
 ·have z1:j<l.length:=by simpa using zg
  have hw:IntKind.i64.wrap ((j:Int)+1)=j+1:=wrap_i64 _ (by omega) (by omega);have hp:=hl _ (zG z1);have za:i<l[j].length:=by rw[hp.1];exact hi
  have hs:=hp.2 _ (zG za);have zi:=v1b n z1 za (by omega);have hT:=z2e (bs:=Un l i n) (j:=j) (by omega);have hF:=q2r (bs:=Un l i n) (j:=j) (by omega);rw[zi]at hT hF;have zb:z1w l[j][i] n=(Og l[j][i] n,0):=by rw[z1w,if_pos ((Ce _).2 hs)]
  have z7:=fun H'=>ih (j+1,H');simp only at z7;repeat first|(refine r_ ?_;simp[z1,za])|refine q_ ?_
  refine Qd rfl rfl (by simp) (Fw l[j][i] n) rfl ?_;rintro _ rfl;simp;rw[zb];generalize Og l[j][i] n=b at *
  repeat first|(refine r_ ?_;simp)|refine q_ ?_
  have gL:∀L,(H2++L)[0]? =some (.arr 5 1 (sgJ (Un l i n) j)):=fun L=>Qc g L;cases b with
  |true=>
   rw[←hT rfl]at z7;clear hT hF;refine Qa rfl (fun _=> ?_) (fun h=>by cases h);have zc:=x1w (bs:=Un l i n) (j:=j) (by omega);have zj:∀hh,(sgJ (Un l i n) j)[j]'hh=AV.int .u8 0:=fun hh=>by rw[zD hh]at zc;exact Option.some.inj zc
   have gL1:∀L hh,(H2++L)[0]'hh= .arr 5 1 (sgJ (Un l i n) j):=fun L hh=>by have:=gL L;rw[zD hh]at this;exact Option.some.inj this
   repeat first|(refine r_ ?_;simp[gL,gL1,ze,z1,z6,zc,zj,hw])|refine q_ ?_
   refine Qb (sl':=[(1,.i i),(2,.i n),(7,.sl 0 1 0 l.length),(15,LP l),(16,.i l.length),(17,.i (j+1:Nat))]) ?_ (by simp);exact z7 _ ⟨by omega,Qp (gL _) _⟩ (by omega)
  |false=>
   rw[←hF rfl]at z7;refine Qa rfl (fun h=>by cases h) (fun _=> ?_);repeat first|(refine r_ ?_;simp[hw])|refine q_ ?_
   refine Qb (sl':=[(1,.i i),(2,.i n),(7,.sl 0 1 0 l.length),(15,LP l),(16,.i l.length),(17,.i (j+1:Nat))]) ?_ (by simp);exact z7 _ ⟨by omega,gL _⟩ (by omega)
 ·have zd:j=l.length:=by simp at zh;omega
  subst zd;have z8:=v1n (Un l i n);rw[z6]at z8;rw[z8]at g ze;have zf:=Kw (Un l i n);generalize sgB (Un l i n)=s at *
  repeat first|(refine r_ ?_;simp)|refine q_ ?_
  refine B8 tOk rfl rfl q2k rfl T5 rfl T9 rfl rfl (s:=s) (by simp[g,zf,z6];rw[zM (by simp[zf,z6])]) rfl ?_;simp;repeat first|(refine r_ ?_;simp)|refine q_ ?_
end Go.Abs
namespace Go.Abs
open Go Go.Proofs Go.RowKit Go.Shelf Go.Lib Go.Sort
theorem Bu(x y:Iv)(W:World):Calls Tryz.prog 175 #[.agg #[.int .i64 x.lo,.int .i64 x.hi],.agg #[.int .i64 y.lo,.int .i64 y.hi]] W fun e w'=>e= .returned (.int .i64 (Lib.compareInt x.lo y.lo))∧∃q os',w'=grow (W.drewN q) os':=by
 have z1:=fun W'=>Tryz.cmp_Compare_int x.lo y.lo W';generalize Lib.compareInt x.lo y.lo=r at z1 ⊢
 go_enter Tryz.func175,Tryz.ntmps175
 go_wp2_with (go_at_call 133;refine(z1 _).mono ?_;rintro e w' ⟨rfl,rfl⟩)
 go_ret
 exact⟨rfl,0,_,by rw[alloc_eq_grow,alloc_eq_grow,grow_grow];rfl⟩
theorem w1c(H:List AObj)(p:Nat)(l:List Iv)(hp:H[p]? =some (.arr 144 2 (l.map encIv)))(hl:l.length≤1000000):
  FC Tryz.prog 174 [.sl p 2 0 l.length,.fn (.func 175) [] []] H
   (fun r H'=>r= .tup []∧∃l':List Iv,l'.Perm l∧Ng l'∧H'=H.set p (.arr 144 2 (l'.map encIv))):=by
 refine(y1k (xs:=l.map encIv) (Yh Tryz.func174 rfl rfl) (by simp) hp (d1l l) [.func (.func 175) #[] #[]] (fun w I m vs a b=>B6 _ w I m _ vs a b) (fun z1=>∃l':List Iv,l'.Perm l∧Ng l'∧z1=l'.map encIv) ?_ ?_).mono ?_
 ·intro b cap w hH hb hc;have eg:∀args w,(callFunc 175 args).run Tryz.prog w= .ok (.enter 175 args) w:=enters_of Tryz.func175 (by kernel_rfl) rfl;have:=AnyQ.slices_SortFunc Tryz.sortIv 2 Tryz.isAgg144 Tryz.sizeOf144 Nz (fun _=>rfl) (fun x v hv=>by simp[Nz]at hv;rcases hv with rfl|rfl<;>rfl) (fun x y=>Lib.compareInt x.lo y.lo) z2l 175 #[] b 0 cap l.toArray w eg (fun _ _ _ _ x y=>Bu x y _) hH hb (by simp;omega);change Calls Tryz.prog 174 _ _ _ at this;rw[show(l.toArray).size=l.length by simp]at this;refine Calls.mono (this) ?_;rintro e w' ⟨rfl,d',n,os,h1,h2,rfl⟩;obtain⟨s1,_,s3⟩:=h1;have hs:d'.toList.length=l.length:=by simpa using s1
  refine⟨rfl,d'.toList.map encIv,flatK Nz 2 d',n,os,⟨d'.toList,?_,?_,rfl⟩,by simp[hs],by simpa using d1l d'.toList,rfl⟩
  ·rw[show d'.extract 0 l.length=d' by simp[←hs],show l.toArray.extract 0 l.length=l.toArray by simp]at s3;simpa using s3
  ·refine List.pairwise_iff_getElem.2 fun i j hi hj z6=> ?_;have:=h2 i j (Nat.zero_le _) z6 (by omega);rw[q2h,getElem!_pos d' i (by simpa using hi),getElem!_pos d' j (by simpa using hj)]at this;simpa using this
 ·rintro h;have z7:l=[]:=by simpa using h
  subst z7;exact⟨⟨[],.refl _,.nil,rfl⟩,fun w=>AnyF.slices_SortFunc_none Tryz.sortIv none 0 _ w⟩
 ·rintro r H' ⟨rfl,z1,⟨l',h1,h2,rfl⟩,rfl⟩;exact⟨rfl,l',h1,h2,rfl⟩
end Go.Abs
namespace Go.Abs
open Go Go.Proofs
theorem Vn(l l':List Iv)(z1:∀y∈l,y.lo≤y.hi)(hp:l'.Perm l)(hl:Ng l'):Qz [] l'=E6 l:=
 Fs l' (Eo l) [] (hp.trans (Ip l).1.symm) hl (Ip l).2 (fun y hy=>z1 y (hp.mem_iff.1 hy))
theorem SL.upd{K G:List AObj}{p e sz:Nat}{xs:List AV}(h:SL K G p e sz xs)(L:List AObj)(ys:List AV):SL K (G.set p (.arr e sz ys)++L) p e sz ys:=by have hp:=(zA.1 h.arr).1;have z1:=h.ge;refine⟨by rw[zE (by simpa using hp)];exact zH hp,z1,fun j hj=> ?_⟩;rw[zE (by simp;omega),zB (by omega)];exact h.keep j hj
attribute [local irreducible] W4 Qz E6
theorem Vf(H:List AObj)(q:Nat)(l:List Iv)(hq:H[q]? =some (.arr 144 2 (l.map encIv)))(hl:l.length≤1000000)(zf:∀y∈l,O3 y∧y.lo≤y.hi):
  FC Tryz.prog 110 [.sl q 2 0 l.length] H (fun r H'=>r=LIv (E6 l)∧H.length≤H'.length∧∀i,i<H.length→i≠q→H'[i]? =H[i]?):=by
 refine Eg tOk Tryz.func110 rfl Tryz.results110 rfl (by simp[Tryz.ntmps110]) ?_;rw[Tryz.ntmps110];simp only[Qe];repeat first|(refine r_ ?_;simp)|refine q_ ?_
 refine Wd rfl rfl (w1c H q l hq hl) rfl ?_;rintro r H' ⟨rfl,l',h1,h2,rfl⟩;simp;have hl':l'.length≤1000000:=by rw[h1.length_eq];exact hl
 have zl:=h1.length_eq;have zc:∀y∈l',O3 y:=fun y hy=>(zf y (h1.mem_iff.1 hy)).1;rw[←Vn l l' (fun y hy=>(zf y hy).2) h1 h2,←zl];have g0:=Qp hq (.arr 144 2 (l'.map encIv));have z7:∀i,i≠q→(H.set q (.arr 144 2 (l'.map encIv)))[i]? =H[i]? :=fun i hi=>zB (fun e=>hi e.symm);have hlen:(H.set q (.arr 144 2 (l'.map encIv))).length=H.length:=by simp
 generalize H.set q (.arr 144 2 (l'.map encIv))=H1 at *
 repeat first|(refine r_ ?_;simp)|refine q_ ?_
 refine Q1 (sl':=[(2,.nils),(3,.nils),(9,.sl q 2 0 l'.length),(10,.i l'.length),(11,.i (0:Nat))]) ?_ (by simp);refine Ei q g0 ?_;simp;rw[zM (by simp)];have z1:∀i,i<H.length→i≠q→(H1.set q .dead)[i]? =H[i]? :=fun i h1 h2=>by rw[zB (fun e=>h2 e.symm)];exact z7 i h2
 have z8:(H1.set q .dead).length=H.length:=by simp[hlen]
 generalize H1.set q .dead=K at *;refine Q6 3 144 2 rfl ?_
 simp;have hst:=SL.start K 144 2;refine Qm (Qb (sl':=[(3,.sl K.length 2 0 (Qz [] (l'.take 0)).length),(9,LIv l'),(10,.i l'.length),(11,.i (0:Nat))]) ?_ (by simp[z8,Qz]));refine Ql (F:=fun(u:Nat×Nat×List AObj)=>⟨[(3,.sl u.2.1 2 0 (Qz [] (l'.take u.1)).length),(9,LIv l'),(10,.i l'.length),(11,.i u.1)],u.2.2⟩)
  (fun u=>u.1≤l'.length∧SL K u.2.2 u.2.1 144 2 ((Qz [] (l'.take u.1)).map encIv)) (fun u=>l'.length - u.1) ?_ (0,K.length,_) ⟨by simp,by rw[wK,Qz,List.foldl_nil];exact hst⟩
 rintro⟨j,p,G⟩ ⟨hj,g⟩ ih;simp only at hj g ih ⊢;repeat first|(refine r_ ?_;simp)|refine q_ ?_
 refine Qa rfl (fun zm=> ?_) (fun zg=> ?_)
 ·have za:j<l'.length:=by simpa using zm
  have hw:IntKind.i64.wrap ((j:Int)+1)=j+1:=wrap_i64 _ (by omega) (by omega);have zh:Qz [] (l'.take (j+1))=W4 (Qz [] (l'.take j)) l'[j]:=by rw[zJ za,Oz]
  have zi:(Qz [] (l'.take j)).length≤j:=yO (Rk _ _) (by simp;omega);have zd:∀y∈Qz [] (l'.take j),O3 y:=Pv _ _ (by simp) (fun y hy=>zc y (yW hy));have z6:=fun p' G'=>ih (j+1,p',G');simp only[zh]at z6;clear zh;generalize Qz [] (l'.take j)=acc at *;generalize hx:l'[j]=x at *
  repeat first|(refine r_ ?_;simp[za,hx])|refine q_ ?_
  rcases List.eq_nil_or_concat acc with rfl|⟨ini,y,rfl⟩
  ·refine Qk tOk mixed [] (.val 0 (.val 1 (.val 2 (.val 3 (.val 4 (.val 5 (.val 6 (.val 7 (.val 8 (.val 9 (.val 10 (.val 11 (.val 12 (.val 13 (.done))))))))))))))) rfl (by kernel_rfl) ?_;simp;refine Qs rfl ?_;simp;repeat first|(refine r_ ?_;simp)|refine q_ ?_
   refine Qf tOk rfl rfl Au rfl He rfl (by decide) (by decide) rfl rfl rfl ?_;simp[Qc g.arr,Qj g.arr];refine⟨by simp[Wp,Qc g.arr,Qj g.arr]<;>omega,?_⟩;repeat first|(refine r_ ?_;simp[hw])|refine q_ ?_
   refine Qb (sl':=[(3,.sl (G.length+2) 2 0 1),(9,LIv l'),(10,.i l'.length),(11,.i (j+1:Nat))]) ?_ (by simp);have:=z6 (G.length+2) _ ⟨by omega,by rw[W4];exact g.put [AObj.vars [AV.i x.lo,AV.i x.hi],AObj.arr 144 2 [encIv x]] _ rfl⟩ (by omega);rw[W4]at this;simpa using this
  ·have zn:=(Eb _).1 (zd y (by simp)).2;have zj:IntKind.i64.wrap (y.hi+1)=y.hi+1:=wrap_i64 _ (by omega) (by omega);have gA:=g.arr;rw[List.concat_eq_append]at g gA z6 zi ⊢;have hlen:(ini++[y]).length=ini.length+1:=by simp
   rw[hlen]at zi ⊢;have zk:IntKind.i64.wrap (ini.length:Int)=ini.length:=wrap_i64 _ (by omega) (by omega);have hg:((ini++[y]).map encIv)[ini.length]? =some (encIv y):=by simp
   have zb:(ini.length:Int)<ini.length+1:=by omega
   refine Qk tOk mixed [] (.val 0 (.val 1 (.val 2 (.val 3 (.val 4 (.val 5 (.val 6 (.val 7 (.val 8 (.val 9 (.val 10 (.val 11 (.val 12 (.val 13 (.done))))))))))))))) rfl (by kernel_rfl) ?_;simp[Qc gA,zk,hg,zj,zb];refine Qa rfl (fun h1=> ?_) (fun h1=> ?_)
   ·repeat first|(refine r_ ?_;simp)|refine q_ ?_
    refine Qk tOk mixed [14] (.val 0 (.val 1 (.val 2 (.val 3 (.val 4 (.val 5 (.val 6 (.val 7 (.val 8 (.val 9 (.val 10 (.val 11 (.val 12 (.val 13 (.one 14 (.done)))))))))))))))) rfl (by kernel_rfl) ?_;simp[Qc gA,zk,hg,zj,zb,Qj gA];repeat first|(refine r_ ?_;simp[hw])|refine q_ ?_
    have hR:W4 (ini++[y]) x=ini++[⟨y.lo,if y.hi<x.hi then x.hi else y.hi⟩]:=by rw[Ef,if_pos (by simpa using h1)]
    rw[hR]at z6;refine Qb (sl':=[(3,.sl p 2 0 (ini.length+1)),(9,LIv l'),(10,.i l'.length),(11,.i (j+1:Nat))]) ?_ (by simp);have:=z6 p _ ⟨by omega,g.upd [AObj.vars [AV.i x.lo,AV.i x.hi]] _⟩ (by omega);simpa using this
   ·repeat first|(refine r_ ?_;simp)|refine q_ ?_
    refine Qf tOk rfl rfl Au rfl He rfl (by decide) (by decide) rfl rfl rfl ?_;simp[Qc gA,Qj gA];refine⟨by simp[Wp,Qc gA,Qj gA]<;>omega,?_⟩;repeat first|(refine r_ ?_;simp[hw])|refine q_ ?_
    have hR:W4 (ini++[y]) x=ini++[y]++[x]:=by rw[Ef,if_neg (by simpa using h1)]
    rw[hR]at z6;refine Qb (sl':=[(3,.sl (G.length+2) 2 0 (ini.length+2)),(9,LIv l'),(10,.i l'.length),(11,.i (j+1:Nat))]) ?_ (by simp);have:=z6 (G.length+2) _ ⟨by omega,g.put [AObj.vars [AV.i x.lo,AV.i x.hi],AObj.arr 144 2 [encIv x]] _ rfl⟩ (by omega);simpa using this
 ·have ze:j=l'.length:=by simp at zg;omega
  subst ze;rw[zZ]at g ⊢;refine Ei p g.arr ?_;simp;rw[zM (by simp)];repeat first|(refine r_ ?_;simp)|refine q_ ?_
  have zo:=(zA.1 g.arr).1;have zg:=g.ge;refine⟨by omega,fun i h1 h2=> ?_⟩;rw[zB (by omega),g.keep i (by omega)];exact z1 i h1 h2
end Go.Abs
namespace Go.Abs
open Go Go.Proofs
def Ho(F:Nat→List Iv)(T i:Nat):List AV:=(yD T).map fun k=>if k<i then encL (F k)else .nils
theorem c06(F:Nat→List Iv)(T i:Nat):(Ho F T i).length=T:=by simp[Ho]
theorem g02(F:Nat→List Iv)(T:Nat):zU T AV.nils=Ho F T 0:=by refine xX (by simp[Ho]) fun k h1 h2=>by simp[Ho]
theorem c0l(F:Nat→List Iv){T i:Nat}(h:i<T):(Ho F T i)[i]? =some .nils:=by simp[Ho,h]
theorem z10(F:Nat→List Iv){T i:Nat}(h:i<T):(Ho F T i).set i (encL (F i))=Ho F T (i+1):=by
 refine xX (by simp[Ho]) fun k h1 h2=> ?_;have hk:k<T:=by simpa[Ho]using h2
 rw[List.getElem_set];by_cases e:i=k
 ·subst e;simp[Ho]
 ·rw[if_neg e];simp only[Ho,List.getElem_map,List.getElem_range];by_cases h3:k<i
  ·rw[if_pos h3,if_pos (by omega)]
  ·rw[if_neg h3,if_neg (by omega)]
theorem Mp(F:Nat→List Iv)(T:Nat):Ho F T T=((yD T).map F).map encL:=by
 refine xX (by simp[Ho]) fun k h1 h2=> ?_;have hk:k<T:=by simpa[Ho]using h1
 simp[Ho,hk]
theorem k0h(F:Nat→List Iv)(T:Nat):(Ho F T T).all (fun x=>x.cells.all AV.pure)=true:=by rw[Mp,zP];intro x hx;obtain⟨s,_,rfl⟩:=zK.1 hx;simp[AV.cells,AV.pure]
theorem g06{T:Nat}{l:List Prd}(hl:∀p∈l,PWf T p){i:Nat}{y:Iv}(hy:y∈Q8 l i):O3 y∧y.lo≤y.hi:=by
 obtain⟨p,hp,hx⟩:=R5.1 hy;by_cases hi:i<p.length
 ·rw[Wx hi]at hx;exact⟨g1v (hl p hp) (zG hi) y hx,((hl p hp).2 _ (zG hi)).1.1 y hx⟩
 ·simp[yT,hi]at hx
theorem c0o(T:Nat)(l:List Prd):(Zu T l).length=T:=by simp[Zu]
attribute [local irreducible] E6 Q8 Zu Ho
theorem N2(T:Nat)(l:List Prd)(hT:T≤16)(hl:∀p∈l,PWf T p)(hn:∀i,i<T→(Q8 l i).length≤1000000)(y1:l.length≤1000000):PC Tryz.prog 53 [.i T,LP l] (fun r=>r=encP (Zu T l)):=by
 refine Qh tOk Tryz.func53 rfl Tryz.results53 rfl (by simp[Tryz.ntmps53]) ?_;rw[Tryz.ntmps53];simp only[Qe];simp only[encP];repeat first|(refine r_ ?_;simp)|refine q_ ?_
 refine Ts tOk rfl rfl rfl T68 rfl Au rfl rfl rfl (n:=T) (by simp;omega) (by unfold maxLen;omega) .nils rfl ?_;simp;repeat first|(refine r_ ?_;simp)|refine q_ ?_
 rw[g02 (fun k=>E6 (Q8 l k))];refine Le 1 rfl ?_;simp;refine Qm (Qb (sl':=[(0,.i T),(1,LP l),(4,.vptr 0 0),(5,.vptr 2 0),(12,.i T),(13,.i (0:Nat))]) ?_ (by simp));refine Ql (F:=fun(u:Nat×List AObj)=>⟨[(0,.i T),(1,LP l),(4,.vptr 0 0),(5,.vptr 2 0),(12,.i T),(13,.i u.1)],u.2⟩)
  (fun u=>u.1≤T∧3≤u.2.length∧u.2[0]? =some (.vars [.nils])∧u.2[1]? =some (.va 145 1 (Ho (fun k=>E6 (Q8 l k)) T u.1))∧u.2[2]? =some (.vars [.sl 1 1 0 T])) (fun u=>T - u.1) ?_ (0,_) ⟨by simp,by simp,rfl,rfl,rfl⟩
 rintro⟨i,H2⟩ ⟨hi,hH,g0,g1,g2⟩ ih;simp only at hi hH g0 g1 g2 ih ⊢;repeat first|(refine r_ ?_;simp)|refine q_ ?_
 refine Qa rfl (fun zp=> ?_) (fun zq=> ?_)
 ·have z1:i<T:=by simpa using zp
  have hw:IntKind.i64.wrap ((i:Int)+1)=i+1:=wrap_i64 _ (by omega) (by omega);have zl:=z10 (fun k=>E6 (Q8 l k)) z1;have zr:=c0l (fun k=>E6 (Q8 l k)) z1;have z7:=c06 (fun k=>E6 (Q8 l k)) T i;have zd:=hn i z1;have ze:=fun H'=>ih (i+1,H');simp only[←zl]at ze;clear zl;generalize Ho (fun k=>E6 (Q8 l k)) T i=row at *
  repeat first|(refine r_ ?_;simp)|refine q_ ?_
  refine Pq 1 i 144 2 g1 zr ?_;refine Qm (Qb (sl':=[(0,.i T),(1,LP l),(4,.vptr 0 0),(5,.vptr 2 0),(6,.i i),(12,.i T),(13,.i i),(16,LP l),(17,.i l.length),(18,.i (0:Nat))]) ?_ (by simp));refine Ql (F:=fun(u:Nat×Nat×List AObj)=>⟨[(0,.i T),(1,LP l),(4,.vptr 0 0),(5,.vptr 2 0),(6,.i i),(12,.i T),(13,.i i),(16,LP l),(17,.i l.length),(18,.i u.1)],u.2.2⟩)
   (fun u=>u.1≤l.length∧3≤u.2.1∧u.2.2[0]? =some (.vars [.nils])∧u.2.2[1]? =some (.va 145 1 (row.set i (.sl u.2.1 2 0 (Q8 (l.take u.1) i).length)))∧u.2.2[2]? =some (.vars [.sl 1 1 0 T])∧u.2.2[u.2.1]? =some (.arr 144 2 ((Q8 (l.take u.1) i).map encIv))) (fun u=>l.length - u.1) ?_
   (0,H2.length,_) ⟨by simp,hH,Qg (by decide) (Qc g0 _) _,by rw[wK,A1];exact Qp (Qc g1 _) _,Qg (by decide) (Qc g2 _) _,by rw[wK,A1];simp only;rw[zB (i:=1) (j:=H2.length) (by omega)];simp⟩
  rintro⟨j,q,G⟩ ⟨hj,zt,k0,k1,k2,k3⟩ ih2;simp only at hj zt k0 k1 k2 k3 ih2 ⊢;repeat first|(refine r_ ?_;simp)|refine q_ ?_
  refine Qa rfl (fun zf=> ?_) (fun zg=> ?_)
  ·have z6:j<l.length:=by simpa using zf
   have zm:IntKind.i64.wrap ((j:Int)+1)=j+1:=wrap_i64 _ (by omega) (by omega);have hp:=hl _ (zG z6);have zh:i<l[j].length:=by rw[hp.1];exact z1
   have hst:=Gx z6 zh;have zi:(Q8 (l.take (j+1)) i).length≤1000000:=by refine yO ?_ zd;unfold Q8;rw[←xE (j+1) l,wY,zW,xE];omega
   rw[hst,zW]at zi;have z8:=fun q' G'=>ih2 (j+1,q',G');simp only[hst]at z8;clear hst;repeat first|(refine r_ ?_;simp[z6,zh])|refine q_ ?_
   generalize hs:l[j][i]=s at *;generalize Q8 (l.take j) i=acc at *;refine Qk tOk mixed [13,15] (.val 0 (.val 2 (.val 3 (.val 4 (.val 5 (.val 6 (.val 7 (.val 8 (.val 9 (.val 10 (.val 11 (.val 12 (.two 1 (.one 13 (.val 14 (.one 15 (.done)))) 13 (.val 1 (.val 14 (.one 15 (.done))))))))))))))))) rfl (by kernel_rfl) ?_
   simp[Qc k1,Qc k2,z1,zh,z6,hs,z7];have zu:q≠0:=by omega
   have zv:q≠1:=by omega
   have zw:q≠2:=by omega
   have y2:=(zA.1 k3).1;have m0:∀L,(G.set q .dead++L)[0]? =some (AObj.vars [AV.nils]):=fun L=>Qc (Qg zu k0 _) L;have m1:∀L,(G.set q .dead++L)[1]? =some (.va 145 1 (row.set i (.sl q 2 0 acc.length))):=fun L=>Qc (Qg zv k1 _) L;have zc:∀L hh,(G.set q .dead++L)[1]'hh= .va 145 1 (row.set i (.sl q 2 0 acc.length)):=fun L hh=>by have:=m1 L;rw[zD hh]at this;exact Option.some.inj this
   have m2:∀L,(G.set q .dead++L)[2]? =some (AObj.vars [AV.sl 1 1 0 T]):=fun L=>Qc (Qg zw k2 _) L;have n2:∀L,(G++L)[2]? =some (AObj.vars [AV.sl 1 1 0 T]):=fun L=>Qc k2 L;refine⟨?_,?_⟩
   ·refine Qf tOk rfl rfl Au rfl He rfl (by decide) (by decide) rfl rfl rfl ?_;simp[Qc k3,Qj k3,m0,m1,zc,m2,n2,z1,z7];refine⟨by simp[Wp,Qc k3,Qj k3,m0,m1,zc,m2,n2,z1,z7]<;>omega,?_⟩;repeat first|(refine r_ ?_;simp[zm])|refine q_ ?_
    refine Qb (sl':=[(0,.i T),(1,LP l),(4,.vptr 0 0),(5,.vptr 2 0),(6,.i i),(12,.i T),(13,.i i),(16,LP l),(17,.i l.length),(18,.i (j+1:Nat))]) ?_ (by simp);refine z8 (G.length+1) _ ⟨by omega,by omega,Qg (by decide) (m0 _) _,?_,Qg (by decide) (m2 _) _,?_⟩ (by omega)
    ·rw[Qp (m1 _) _];simp
    ·rw[zB (by omega),zC (by simp)];simp
   ·refine Qf tOk rfl rfl Au rfl He rfl (by decide) (by decide) rfl rfl rfl ?_;simp[Qc k3,Qj k3,m0,m1,zc,m2,n2,z1,z7];refine⟨by simp[Wp,Qc k3,Qj k3,m0,m1,zc,m2,n2,z1,z7]<;>omega,?_⟩;repeat first|(refine r_ ?_;simp[zm])|refine q_ ?_
    refine Qb (sl':=[(0,.i T),(1,LP l),(4,.vptr 0 0),(5,.vptr 2 0),(6,.i i),(12,.i T),(13,.i i),(16,LP l),(17,.i l.length),(18,.i (j+1:Nat))]) ?_ (by simp);refine z8 (G.length+1) _ ⟨by omega,by omega,Qg (by decide) (m0 _) _,?_,Qg (by decide) (m2 _) _,?_⟩ (by omega)
    ·rw[Qp (m1 _) _];simp
    ·rw[zB (by omega),zC (by simp)];simp
  ·have zb:j=l.length:=by simp at zg;omega
   subst zb;rw[zZ]at k1 k3;have zn:∀y∈Q8 l i,O3 y∧y.lo≤y.hi:=fun y hy=>g06 hl hy;have y3:∀L,(G++L)[2]? =some (AObj.vars [AV.sl 1 1 0 T]):=fun L=>Qc k2 L;have zx:∀hh,G[1]'hh= .va 145 1 (row.set i (.sl q 2 0 (Q8 l i).length)):=fun hh=>by rw[zD hh]at k1;exact Option.some.inj k1
   repeat first|(refine r_ ?_;simp)|refine q_ ?_
   refine Qk tOk mixed [8,10] (.val 0 (.val 2 (.val 3 (.val 4 (.val 5 (.val 6 (.val 7 (.two 1 (.one 8 (.val 9 (.one 10 (.done)))) 8 (.val 1 (.val 9 (.one 10 (.done)))))))))))) rfl (by kernel_rfl) ?_;simp[k1,zx,k2,z1,z7];refine⟨?_,?_⟩
   ·refine Wd rfl rfl (Vf G q (Q8 l i) k3 zd zn) rfl ?_;rintro r H' ⟨rfl,hl',za⟩;have zy:=(zA.1 k2).1;have u0:=(za 0 (by omega) (by omega)).trans k0;have u1:=(za 1 (by omega) (by omega)).trans k1;have u2:=(za 2 (by omega) (by omega)).trans k2;have zj:∀hh,H'[1]'hh= .va 145 1 (row.set i (.sl q 2 0 (Q8 l i).length)):=fun hh=>by rw[zD hh]at u1;exact Option.some.inj u1
    simp[u1,zj,u2,z1,z7];repeat first|(refine r_ ?_;simp[hw])|refine q_ ?_
    refine Qb (sl':=[(0,.i T),(1,LP l),(4,.vptr 0 0),(5,.vptr 2 0),(12,.i T),(13,.i (i+1:Nat))]) ?_ (by simp);exact ze _ ⟨by omega,by simp;omega,Qg (by decide) u0 _,Qp u1 _,Qg (by decide) u2 _⟩ (by omega)
   ·refine Wd rfl rfl (Vf G q (Q8 l i) k3 zd zn) rfl ?_;rintro r H' ⟨rfl,hl',za⟩;have zy:=(zA.1 k2).1;have u0:=(za 0 (by omega) (by omega)).trans k0;have u1:=(za 1 (by omega) (by omega)).trans k1;have u2:=(za 2 (by omega) (by omega)).trans k2;have zj:∀hh,H'[1]'hh= .va 145 1 (row.set i (.sl q 2 0 (Q8 l i).length)):=fun hh=>by rw[zD hh]at u1;exact Option.some.inj u1
    simp[u1,zj,u2,z1,z7];repeat first|(refine r_ ?_;simp[hw])|refine q_ ?_
    refine Qb (sl':=[(0,.i T),(1,LP l),(4,.vptr 0 0),(5,.vptr 2 0),(12,.i T),(13,.i (i+1:Nat))]) ?_ (by simp);exact ze _ ⟨by omega,by simp;omega,Qg (by decide) u0 _,Qp u1 _,Qg (by decide) u2 _⟩ (by omega)
 ·have zk:i=T:=by simp at zq;omega
  subst zk;refine Pt 1 g1 (k0h _ _) ?_;rw[Mp]at *
  have zz:(yD i).map (fun k=>E6 (Q8 l k))=Zu i l:=by unfold Zu;rfl
  rw[zz]at *;refine Ws 1 (Qp g1 _) 2 (Qg (by decide) g2 _) ?_
  have zo:=c0o i l;have e0:∀Y,((H2.set 1 AObj.dead).set 2 Y)[0]? =some (AObj.vars [AV.nils]):=fun Y=>Qg (by decide) (Qg (by decide) g0 _) _;have y0:∀Y hh,((H2.set 1 AObj.dead).set 2 Y)[0]'hh=AObj.vars [AV.nils]:=fun Y hh=>by have:=e0 Y;rw[zD hh]at this;exact Option.some.inj this
  have e2:∀Y,((H2.set 1 AObj.dead).set 2 Y)[2]? =some Y:=fun Y=>Qp (Qg (by decide) g2 _) _;have e3:∀Y Z,(((H2.set 1 AObj.dead).set 2 Y).set 0 Z)[0]? =some Z:=fun Y Z=>Qp (e0 Y) _;simp[zo];rw[zM (by simp[zo])];repeat first|(refine r_ ?_;simp[e0,y0,e2,e3])|refine q_ ?_
end Go.Abs
namespace Go.Abs
open Go Go.Proofs
theorem SL.le{K G:List AObj}{p e sz:Nat}{xs:List AV}(h:SL K G p e sz xs):K.length≤G.length:=by have:=(zA.1 h.arr).1;have:=h.ge;omega
attribute [local irreducible] upL W9 Rg
end Go.Abs
namespace Go.Abs
open Go Go.Proofs
attribute [local irreducible] x1c
theorem Bq(H:List AObj)(f:Nat)(a:Aut)(hf:H[f]? =some (.arr 4 1 (a.fin.map .bool)))(zd:a.fin.length≤1000000)(ze:a.mv.length≤1000000):
  FC Tryz.prog 54 [.agg [.i a.types,.sl f 1 0 a.fin.length,.list (a.mv.map encMv)]] H
   (fun r H'=>((Xx a=true∧r= .tup [.agg [.i 0,.nils,.nils],.i 5])∨(Xx a=false∧r= .tup [.agg [.i a.types,.sl f 1 0 a.fin.length,.list (a.mv.map encMv)],.i 0]))∧∀i,i<H.length→H'[i]? =H[i]?):=by
 refine Eg tOk Tryz.func54 rfl Tryz.results54 rfl (by simp[Tryz.ntmps54]) ?_;rw[Tryz.ntmps54];simp only[Qe];repeat first|(refine r_ ?_;simp)|refine q_ ?_
 refine Qa rfl (fun h=> ?_) (fun h=> ?_)
 ·repeat first|(refine r_ ?_;simp)|refine q_ ?_
  have hb:Xx a=true:=by rw[B7,wp];left;simp at h ⊢;omega
  exact⟨hb,fun i hi=>zE hi⟩
 have hb:(decide (256<a.fin.length) || decide (2048<a.mv.length))=false:=by simp at h ⊢;omega
 repeat first|(refine r_ ?_;simp)|refine q_ ?_
 refine Qm (Qb (sl':=[(1,.vptr H.length 0),(2,.vptr (H.length+1) 0),(18,.list (a.mv.map encMv)),(19,.i a.mv.length),(20,.i (0:Nat))]) ?_ (by simp));refine Ql (F:=fun(u:Nat×List AObj)=>⟨[(1,.vptr H.length 0),(2,.vptr (H.length+1) 0),(18,.list (a.mv.map encMv)),(19,.i a.mv.length),(20,.i u.1)],u.2⟩)
  (fun u=>u.1≤a.mv.length∧H.length+2≤u.2.length∧(∀i,i<H.length→u.2[i]? =H[i]?)∧u.2[H.length]? =some (.vars [.i a.types,.sl f 1 0 a.fin.length,.list (a.mv.map encMv)])∧u.2[H.length+1]? =some (.vars [.i 0,.nils,.nils])∧∀i,∀hi:i<a.mv.length,i<u.1→x1c a.mv[i]=false) (fun u=>a.mv.length - u.1) ?_ (0,_)
  ⟨by simp,by simp,fun i hi=>zE hi,by simp,by simp,fun i hi h=>by omega⟩
 rintro⟨j,G⟩ ⟨hj,hG,k0,k1,k2,hI⟩ ih;simp only at hj hG k0 k1 k2 hI ih ⊢;repeat first|(refine r_ ?_;simp)|refine q_ ?_
 refine Qa rfl (fun za=> ?_) (fun zb=> ?_)
 ·have z1:j<a.mv.length:=by simpa using za
  have hw:IntKind.i64.wrap ((j:Int)+1)=j+1:=wrap_i64 _ (by omega) (by omega);repeat first|(refine r_ ?_;simp[z1])|refine q_ ?_
  refine Qd rfl rfl (by simp) (Vb a.mv[j].on 112 (fun s=>decide (256<s.length)) v1z) rfl ?_;rintro _ rfl;simp;repeat first|(refine r_ ?_;simp)|refine q_ ?_
  have z8:∀L,(G++L)[H.length+1]? =some (.vars [.i 0,.nils,.nils]):=fun L=>Qc k2 L;refine Qa rfl (fun h=> ?_) (fun h=> ?_)
  ·have k3:∀L Y,((G++L).set (H.length+1) Y)[H.length+1]? =some Y:=fun L Y=>Qp (z8 L) Y;repeat first|(refine r_ ?_;simp[z8,k3])|refine q_ ?_
   have hm:x1c a.mv[j]=true:=by unfold x1c;exact h
   have z6:Xx a=true:=by rw[B7,wp];right;exact wQ.2 ⟨_,zG z1,hm⟩
   exact⟨z6,fun i hi=>by rw[zB (by omega),zE (by omega)];exact k0 i hi⟩
  ·have hm:x1c a.mv[j]=false:=by unfold x1c;exact h
   repeat first|(refine r_ ?_;simp[hw])|refine q_ ?_
   refine Qb (sl':=[(1,.vptr H.length 0),(2,.vptr (H.length+1) 0),(18,.list (a.mv.map encMv)),(19,.i a.mv.length),(20,.i (j+1:Nat))]) ?_ (by simp);refine ih (j+1,_) ⟨by simp only;omega,by simp;omega,fun i hi=>(zE (by omega)).trans (k0 i hi),Qc k1 _,Qc k2 _,fun i hi zc=> ?_⟩ (by simp only;omega);by_cases e:i=j
   ·subst e;exact hm
   ·exact hI i hi (by simp only at zc;omega)
 ·have z7:j=a.mv.length:=by simp at zb;omega
  subst z7;have z6:Xx a=false:=by rw[B7,hb,Bool.false_or,wT];intro m hm;obtain⟨i,hi,rfl⟩:=yG hm;rw[hI i hi hi];simp
  have k3:∀Y,(G.set (H.length+1) Y)[H.length+1]? =some Y:=fun Y=>Qp k2 Y;repeat first|(refine r_ ?_;simp[k1,k2,k3])|refine q_ ?_
  exact⟨z6,fun i hi=>by rw[zB (by omega)];exact k0 i hi⟩
end Go.Abs
