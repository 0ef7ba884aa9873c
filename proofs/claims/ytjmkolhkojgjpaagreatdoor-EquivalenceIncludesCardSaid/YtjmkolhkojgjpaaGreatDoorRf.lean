/- Part Rf of the proof: an abstract machine over the model, and what the functions of the program hand back in its terms. No condition. -/
import Derived.Test.YtjmkolhkojgjpaaGreatDoorRe
import Derived.Test.YtjmkolhkojgjpaaGreatDoorRc
import Derived.Test.YtjmkolhkojgjpaaGreatDoorRd
set_option linter.all false
open List renaming getElem?_eq_some_iff→zA,getElem?_set_self→zH,getElem?_set_ne→zB,getElem?_append_left→zE,getElem?_append_right→zC,range→yA,range_succ→wT,ext_getElem→xQ,getD→yQ,cons_append→vB,nil_append→xP,getElem?_eq_getElem→zD,getElem_mem→zG,take_of_length_le→zI,map_const'→vG,length_map→zV,drop_length→yU,all_eq_false→vv,mem_range→yM,all_eq_true→zP,getElem_of_mem→yC,take→ur,findIdx?_eq_some_iff_getElem→xS,findIdx?_eq_none_iff→ut,any_eq_false→wd,any_eq_true→xN,take_succ_eq_append_getElem→zL,filter_append→uX,map_append→yG,length_filter_le→wU,take_zero→wA,length_take→xB,take_length→zZ,replicate→zT,ext_getElem?→xD,getElem?_eq_none→xE,mem_map→zM,flatMap_append→wZ,length_append→zW,mem_of_mem_take→yW,replicate_succ→v_,take_append_drop→xM
open Nat renaming le_refl→zK,le_trans→yP
open Bool renaming false_and→up,true_and→vJ,eq_false_iff→wS,and_eq_true→zR,eq_iff_iff→yX,false_or→uN,or_eq_true→ww
open Int renaming le_refl→yJ
set_option maxHeartbeats 4000000
set_option linter.unusedSimpArgs false
set_option maxRecDepth 100000
namespace Go.Abs
open Go Go.Proofs
structure GL (K G:List AObj) (S p:Nat) (pre post:List AV) (e sz:Nat) (xs:List AV):Prop where
 cell:G[S]? =some (.vars (pre++ .sl p sz 0 xs.length::post))
 arr:G[p]? =some (.arr e sz xs)
 ge:K.length≤p
 lt:S<K.length
 len:K.length≤G.length
 keep:∀j,j<K.length→j≠S→G[j]? =K[j]?
theorem GL.kp{K G:List AObj}{S p:Nat}{pre post:List AV}{e sz:Nat}{xs:List AV}(h:GL K G S p pre post e sz xs){j:Nat}{x:AObj}(hj:j≠S)(hx:K[j]? =some x):G[j]? =some x:=by rw[h.keep j (zA.1 hx).1 hj];exact hx
theorem GL.start{K:List AObj}{S:Nat}(pre post:List AV)(e sz:Nat)(h:S<K.length):GL K ((K++[AObj.arr e sz []]).set S (.vars (pre++ .sl K.length sz 0 0::post))) S K.length pre post e sz []:=
 ⟨zH (by simp;omega),by rw[zB (by omega)];simp,zK _,h,by simp,fun j hj z1=>by
  rw[zB (fun e=>z1 e.symm),zE hj]⟩
theorem GL.put{K G:List AObj}{S p:Nat}{pre post:List AV}{e sz:Nat}{xs:List AV}(h:GL K G S p pre post e sz xs)(A:AObj)(y:AV){n:Nat}(hn:n=xs.length):
  GL K ((G.set p .dead++[A,AObj.arr e sz (xs++[y])]).set S (.vars (pre++ .sl (G.length+1) sz 0 (n+1)::post))) S (G.length+1) pre post e sz (xs++[y]):=by
 have hl:=h.len;have z6:=h.lt;have z7:=h.ge;subst hn;refine⟨by rw[zH (by simp;omega)];simp,by rw[zB (by omega),zC (by simp)];simp,by omega,z6,by simp;omega,fun j hj z1=> ?_⟩;rw[zB (fun e=>z1 e.symm),zE (by simp;omega),zB (by omega)];exact h.keep j hj z1
theorem GL.at{K G:List AObj}{S p:Nat}{pre post:List AV}{e sz:Nat}{xs:List AV}(h:GL K G S p pre post e sz xs)(L:List AObj):(G.set p .dead++L)[S]? =some (.vars (pre++ .sl p sz 0 xs.length::post)):=by have hl:=h.len;have z1:=h.lt;have z6:=h.ge;rw[zE (by simp;omega),zB (by omega)];exact h.cell
def upL(F:Nat→List Iv)(j:Nat):List AV:=(yA j).map fun i=>encL (F i)
theorem Al(F:Nat→List Iv)(j:Nat):upL F (j+1)=upL F j++[encL (F j)]:=by simp[upL,wT]
theorem Wx(F:Nat→List Iv)(j:Nat):(upL F j).length=j:=by simp[upL]
theorem Hx(F:Nat→List Iv)(n:Nat):upL F n=((yA n).map F).map encL:=by simp[upL]
theorem z0r{α β:Type}(d:α)(f:α→β)(p:List α):(yA p.length).map (fun i=>f (p.getD i d))=p.map f:=by
 refine xQ (by simp) fun i h1 h2=> ?_;have h:i<p.length:=by simpa using h1
 simp[yQ,h]
theorem Ak(F:Nat→List Iv):upL F 0=[]:=rfl
attribute [local irreducible] upL
theorem v09(T:Nat)(p:Prd)(hp:PWf T p)(hl:∀s∈p,s.length≤1000000000)(hT:T≤1000):PC Tryz.prog 220 [encP p] (fun r=>r=encP (W8 p)):=by
 refine Qh tOk Tryz.func220 rfl Tryz.results220 rfl (by simp[Tryz.ntmps220]) ?_;rw[Tryz.ntmps220];simp only[Qe];simp only[encP];have hlen:=hp.1;repeat first|(refine r_ ?_;simp)|refine q_ ?_
 refine Ej 2 0 145 1 rfl rfl ?_;simp;obtain⟨K,hK⟩:∃K,K=[AObj.vars [.list (p.map encL)],AObj.vars [AV.nils],AObj.vars [AV.nils]]:=⟨_,rfl⟩
 have hst:=GL.start (K:=K) (S:=2) [] [] 145 1 (by rw[hK];simp);refine Ql (Qb (sl':=[(1,.vptr 0 0),(2,.vptr 1 0),(3,.vptr 2 0),(4,.i 0)]) ?_ (by simp));refine Qm (F:=fun(u:Nat×Nat×List AObj)=>⟨[(1,.vptr 0 0),(2,.vptr 1 0),(3,.vptr 2 0),(4,.i u.1)],u.2.2⟩)
  (fun u=>u.1≤p.length∧GL K u.2.2 2 u.2.1 [] [] 145 1 (upL (fun i=>Ed (p.getD i [])) u.1)) (fun u=>p.length - u.1) ?_ (0,K.length,_) ⟨by simp,by rw[Ak,hK]at *;exact hst⟩
 rintro⟨j,q,H2⟩ ⟨hj,g⟩ ih;simp only[vB,xP]at hj g ih ⊢;have g0:H2[0]? =some (AObj.vars [.list (p.map encL)]):=g.kp (by decide) (by rw[hK];rfl);have gR:H2[1]? =some (AObj.vars [AV.nils]):=g.kp (by decide) (by rw[hK];rfl);have g2:=g.cell;have g3:=g.arr;rw[Wx]at g2;simp only[xP]at g2;repeat first|(refine r_ ?_;simp[g0])|refine q_ ?_
 refine Qa rfl (fun ze=> ?_) (fun zf=> ?_)
 ·have z1:j<p.length:=by simpa using ze
  have hw:IntKind.i64.wrap ((j:Int)+1)=j+1:=wrap_i64 _ (by omega) (by omega);have z7:∀L:List AObj,(H2.set q .dead++L)[2]? =some (AObj.vars [AV.sl q 1 0 j]):=fun L=>by have:=g.at L;rw[Wx]at this;exact this
  have za:∀(L:List AObj) (h:2<(H2.set q .dead++L).length),(H2.set q .dead++L)[2]'h=AObj.vars [AV.sl q 1 0 j]:=fun L h=>by have:=z7 L;rw[zD h]at this;exact Option.some.inj this
  have zb:=fun A y=>g.put A y (Wx _ _).symm;have zg:upL (fun i=>Ed (p.getD i [])) j++[encL ((fun i=>Ed (p.getD i [])) j)]=upL (fun i=>Ed (p.getD i [])) (j+1):=(Al _ _).symm;have z6:=fun H=>ih (j+1,H2.length+1,H);have z8:=Wx (fun i=>Ed (p.getD i [])) j;simp only[←zg]at z6;have hs:=hp.2 _ (zG z1);simp only[Wv z1]at *
  repeat first|(refine r_ ?_;simp[g0,g2])|refine q_ ?_
  refine Qn tOk mixed [9,11] (.val 0 (.val 1 (.val 2 (.val 3 (.val 4 (.val 5 (.val 6 (.one 7 (.one 8 (.one 9 (.val 10 (.one 11 (.done))))))))))))) rfl (by kernel_rfl) ?_;simp[z1,g0,g2];refine Qd rfl rfl (by simp) (Ve p[j] hs.1 hs.2 (hl _ (zG z1))) rfl ?_;rintro _ rfl;simp;repeat first|(refine r_ ?_;simp[g0,g2])|refine q_ ?_
  generalize upL (fun i=>Ed (p.getD i [])) j=xs at *
  refine Qf tOk rfl rfl T68 rfl Pp rfl (by decide) (by decide) rfl rfl rfl ?_;simp[Qc g3,Qj g3,z8,z7,za];refine⟨by simp[Ws,Qc g3,Qj g3,z8,z7,za]<;>omega,?_⟩;repeat first|(refine r_ ?_;simp[g0,g2,hw,z7,za])|refine q_ ?_
  refine Qb (sl':=[(1,.vptr 0 0),(2,.vptr 1 0),(3,.vptr 2 0),(4,.i (j+1:Nat))]) (z6 _ ⟨by omega,zb _ _⟩ (by omega)) ?_;simp
 ·have zc:j=p.length:=by(simp at zf;omega)
  subst zc;have hS:=(zA.1 g2).1;have zh:q≠1∧q≠2:=by have:=g.ge;rw[hK]at this;simp at this;omega
  have z8:=Wx (fun i=>Ed (p.getD i [])) (p.length);have zd: .list (upL (fun i=>Ed (p.getD i [])) (p.length))=AV.list ((W8 p).map encL):=by rw[Hx];rw[z0r];rfl
  generalize upL (fun i=>Ed (p.getD i [])) (p.length)=xs at *
  refine Wi q g3 2 g2 ?_;have k1:∀X,((H2.set q .dead).set 2 X)[1]? =some (AObj.vars [AV.nils]):=fun X=>Qg (by decide) (Qg zh.1 gR _) _;have k2:∀X,((H2.set q .dead).set 2 X)[2]? =some X:=fun X=>zH (by simpa using hS);have k3:∀X Y,(((H2.set q .dead).set 2 X).set 1 Y)[1]? =some Y:=fun X Y=>Qo (k1 X) _;simp[z8];rw[zI (by omega)];repeat first|(refine r_ ?_;simp[k1,k2,k3])|refine q_ ?_
  exact AV.list.inj zd
theorem x0g(T:Int)(h0:0≤T)(hT:T≤1000):PC Tryz.prog 219 [.i T] (fun r=>r=encP (Wh T.toNat)):=by
 refine Qh tOk Tryz.func219 rfl Tryz.results219 rfl (by simp[Tryz.ntmps219]) ?_;rw[Tryz.ntmps219];simp only[Qe];simp only[encP];repeat first|(refine r_ ?_;simp)|refine q_ ?_
 refine Ej 1 0 145 1 rfl rfl ?_;simp;obtain⟨K,hK⟩:∃K,K=[AObj.vars [AV.nils],AObj.vars [AV.nils]]:=⟨_,rfl⟩
 have hst:=GL.start (K:=K) (S:=1) [] [] 145 1 (by rw[hK];simp);refine Ql (Qb (sl':=[(0,.i T),(2,.vptr 0 0),(3,.vptr 1 0),(4,.i 0)]) ?_ (by simp));refine Qm (F:=fun(u:Nat×Nat×List AObj)=>⟨[(0,.i T),(2,.vptr 0 0),(3,.vptr 1 0),(4,.i u.1)],u.2.2⟩)
  (fun u=>u.1≤T.toNat∧GL K u.2.2 1 u.2.1 [] [] 145 1 (upL (fun _=>Ed []) u.1)) (fun u=>T.toNat - u.1) ?_ (0,K.length,_) ⟨by simp,by rw[Ak,hK]at *;exact hst⟩
 rintro⟨j,q,H2⟩ ⟨hj,g⟩ ih;simp only[vB,xP]at hj g ih ⊢;have g0:True:=trivial;have gR:H2[0]? =some (AObj.vars [AV.nils]):=g.kp (by decide) (by rw[hK];rfl);have g2:=g.cell;have g3:=g.arr;rw[Wx]at g2;simp only[xP]at g2;repeat first|(refine r_ ?_;simp[g0])|refine q_ ?_
 refine Qa rfl (fun zd=> ?_) (fun ze=> ?_)
 ·have zf:j<T.toNat:=by(have:(j:Int)<T:=(by simpa using zd);omega)
  have hw:IntKind.i64.wrap ((j:Int)+1)=j+1:=wrap_i64 _ (by omega) (by omega);have z6:∀L:List AObj,(H2.set q .dead++L)[1]? =some (AObj.vars [AV.sl q 1 0 j]):=fun L=>by have:=g.at L;rw[Wx]at this;exact this
  have z8:∀(L:List AObj) (h:1<(H2.set q .dead++L).length),(H2.set q .dead++L)[1]'h=AObj.vars [AV.sl q 1 0 j]:=fun L h=>by have:=z6 L;rw[zD h]at this;exact Option.some.inj this
  have za:=fun A y=>g.put A y (Wx _ _).symm;have zg:upL (fun _=>Ed []) j++[encL ((fun _=>Ed []) j)]=upL (fun _=>Ed []) (j+1):=(Al _ _).symm;have z1:=fun H=>ih (j+1,H2.length+1,H);have z7:=Wx (fun _=>Ed []) j;simp only[←zg]at z1;repeat first|(refine r_ ?_;simp[g2])|refine q_ ?_
  refine Qn tOk mixed [4,6] (.val 0 (.val 1 (.one 2 (.one 3 (.one 4 (.val 5 (.one 6 (.done)))))))) rfl (by kernel_rfl) ?_;simp[g2];refine Qd rfl rfl (by simp) (Ve [] Lb (by simp[M]) (by simp)) rfl ?_;rintro _ rfl;simp;repeat first|(refine r_ ?_;simp[g2])|refine q_ ?_
  generalize upL (fun _=>Ed []) j=xs at *
  refine Qf tOk rfl rfl T68 rfl Pp rfl (by decide) (by decide) rfl rfl rfl ?_;simp[Qc g3,Qj g3,z7,z6,z8];refine⟨by simp[Ws,Qc g3,Qj g3,z7,z6,z8]<;>omega,?_⟩;repeat first|(refine r_ ?_;simp[g0,g2,hw,z6,z8])|refine q_ ?_
  refine Qb (sl':=[(0,.i T),(2,.vptr 0 0),(3,.vptr 1 0),(4,.i (j+1:Nat))]) (z1 _ ⟨by omega,za _ _⟩ (by omega)) ?_;simp
 ·have zb:j=T.toNat:=by(have:¬(j:Int)<T:=(by simpa using ze);omega)
  subst zb;have hS:=(zA.1 g2).1;have zh:q≠0∧q≠1:=by have:=g.ge;rw[hK]at this;simp at this;omega
  have z7:=Wx (fun _=>Ed []) (T.toNat);have zc: .list (upL (fun _=>Ed []) (T.toNat))=AV.list ((Wh T.toNat).map encL):=by rw[Hx];simp[Wh,Function.comp_def,vG]
  generalize upL (fun _=>Ed []) (T.toNat)=xs at *
  refine Wi q g3 1 g2 ?_;have k1:∀X,((H2.set q .dead).set 1 X)[0]? =some (AObj.vars [AV.nils]):=fun X=>Qg (by decide) (Qg zh.1 gR _) _;have k2:∀X,((H2.set q .dead).set 1 X)[1]? =some X:=fun X=>zH (by simpa using hS);have k3:∀X Y,(((H2.set q .dead).set 1 X).set 0 Y)[0]? =some Y:=fun X Y=>Qo (k1 X) _;simp[z7];rw[zI (by omega)];repeat first|(refine r_ ?_;simp[k1,k2,k3])|refine q_ ?_
  exact AV.list.inj zc
end Go.Abs
namespace Go.Abs
open Go Go.Proofs
theorem c0c{T:Nat}{p:Prd}(h:PWf T p){s:List Iv}(hs:s∈p):∀x∈s,O6 x:=k0z (h.2 s hs).1 (h.2 s hs).2
attribute [local irreducible] Tc Ec
theorem Gd(p:Prd):PC Tryz.prog 159 [encP p] (fun r=>r= .bool (Wp p)):=by
 refine Qh tOk Tryz.func159 rfl Tryz.results159 rfl (by simp[Tryz.ntmps159]) ?_;rw[Tryz.ntmps159];simp only[Qe];simp only[encP];refine Wk 0 0 rfl rfl (fun hlen=> ?_);rw[zV]at hlen;obtain⟨R,hR⟩:∃R,Wp p=R:=⟨_,rfl⟩
 rw[hR];repeat first|(refine r_ ?_;simp)|refine q_ ?_
 refine Qs p.length (fun j=>Wp (p.drop j)=R) (fun j=>[(1,.vptr 0 0),(3,.i j)]) (fun _=>[.vars [.list (p.map encL)]]) rfl (by simp) (by simp) (by simp) (by simp) (by simpa using hR) ?_;intro j hj hI ih;repeat first|(refine r_ ?_;simp)|refine q_ ?_
 refine Qa rfl (fun z7=> ?_) (fun z8=> ?_)
 ·have z1:j<p.length:=by simpa using z7
  have hw:IntKind.i64.wrap ((j:Int)+1)=j+1:=wrap_i64 _ (by omega) (by omega);rw[Wu z1,Wp,List.all_cons]at hI;repeat first|(refine r_ ?_;simp[z1])|refine q_ ?_
  refine Qa rfl (fun h3=> ?_) (fun h3=> ?_)
  ·repeat first|(refine r_ ?_;simp)|refine q_ ?_
   have:p[j].isEmpty=false:=by simp at h3;cases hp:p[j]with|nil=>rw[hp]at h3;simp at h3|cons _ _=>rfl
   rw[this,up]at hI;exact hI.symm
  ·have:p[j].isEmpty=true:=by simp at h3;simp[h3]
   rw[this,vJ]at hI;repeat first|(refine r_ ?_;simp[hw])|refine q_ ?_
   refine Qr _ (ih z1 hI) rfl (by simp) ?_ (by simp) (by simp);simp
 ·have z6:j=p.length:=by simp at z8;omega
  subst z6;repeat first|(refine r_ ?_;simp)|refine q_ ?_
  rw[←hI,yU];rfl
theorem Po:∀(p:Prd) (i:Nat),(∃s∈p,s≠[])→∃t x r,p[t]? =some (x::r)∧Qw p i=(i+t,x.lo)∧∀j,j<t→p[j]? =some []
 |[],i,h=>by obtain⟨s,hs,_⟩:=h;cases hs
 |[]::p,i,h=>by
  obtain⟨t,x,r,h1,h2,h3⟩:=Po p (i+1) (by obtain⟨s,hs,hn⟩:=h;rcases List.mem_cons.1 hs with rfl|hs;exact absurd rfl hn;exact⟨s,hs,hn⟩);refine⟨t+1,x,r,by simpa using h1,by rw[Qw,h2];congr 1;omega,fun j hj=> ?_⟩;cases j with
  |zero=>rfl
  |succ j=>simpa using h3 j (by omega)
 |(x::r)::p,i,_=>⟨0,x,r,rfl,by simp[Qw],fun j hj=>by omega⟩
theorem Ub(p:Prd)(hn:Wp p=false):PC Tryz.prog 206 [encP p] (fun r=>r=encSy (Qk p)):=by
 refine Qh tOk Tryz.func206 rfl Tryz.results206 rfl (by simp[Tryz.ntmps206]) ?_;rw[Tryz.ntmps206];simp only[Qe];simp only[encP];refine Wk 0 0 rfl rfl (fun hlen=> ?_);rw[zV]at hlen;obtain⟨t,x,r,h1,h2,h3⟩:=Po p 0 (by
  unfold Wp at hn;rw[vv]at hn;obtain⟨s,hs,he⟩:=hn;exact⟨s,hs,fun e=>by rw[e]at he;simp at he⟩)
 have hL:Qk p=⟨(t:Int),x.lo⟩:=by rw[Qk,h2];simp
 rw[hL];have ht:=(zA.1 h1).1;have z6:p[t]=x::r:=(zA.1 h1).2;repeat first|(refine r_ ?_;simp)|refine q_ ?_
 refine Qs t (fun _=>True) (fun j=>[(1,.vptr 0 0),(2,.vptr 1 0),(3,.i j)]) (fun _=>[.vars [.list (p.map encL)],.vars [.i 0,.i 0]]) rfl (by simp) (by simp) (by simp) (by simp) trivial ?_;intro j hj _ ih;have z1:j<p.length:=by omega
 have hw:IntKind.i64.wrap ((j:Int)+1)=j+1:=wrap_i64 _ (by omega) (by omega);repeat first|(refine r_ ?_;simp[z1])|refine q_ ?_
 refine Qq rfl ?_;simp[z1];repeat first|(refine r_ ?_;simp[z1])|refine q_ ?_
 by_cases hjt:j=t
 ·subst hjt;have z8:¬(p[j].length=0):=by rw[z6];simp
  have zb:0<p[j].length:=by omega
  repeat first|(refine r_ ?_;simp[z1,z6])|refine q_ ?_
  refine Qa rfl (fun h=> ?_) (fun h=> ?_)
  ·repeat first|(refine r_ ?_;simp[z1,z6])|refine q_ ?_
  ·exfalso;rw[z6]at h;simp at h
 ·have za:=h3 j (by omega);have z7:p[j]=[]:=(zA.1 za).2;repeat first|(refine r_ ?_;simp[z1,z7])|refine q_ ?_
  refine Qa rfl (fun h=> ?_) (fun h=> ?_)
  ·exfalso;rw[z7]at h;simp at h
  ·repeat first|(refine r_ ?_;simp[hw])|refine q_ ?_
   refine Qr _ (ih (by omega) trivial) rfl (by simp) ?_ (by simp) (by simp);simp
theorem B3(x y:Sy):PC Tryz.prog 246 [encSy x,encSy y] (fun r=>r= .bool (Nc x y)):=by
 refine Qh tOk Tryz.func246 rfl Tryz.results246 rfl (by simp[Tryz.ntmps246]) ?_;rw[Tryz.ntmps246];simp only[Qe];simp only[encSy];repeat first|(refine r_ ?_;simp)|refine q_ ?_
 by_cases h:x.ty=y.ty<;>simp[Nc,h]
end Go.Abs
namespace Go.Abs
open Go Go.Proofs
attribute [local irreducible] Tc Ec upL Ed
theorem d07{c p:Prd}(h:c.length=p.length):(yA c.length).map (fun i=>Tc (c.getD i []) (p.getD i []))=Wj c p:=by
 refine xQ (by simp[Wj,h]) fun i h1 h2=> ?_;have hc:i<c.length:=by simpa using h1
 have hp:i<p.length:=by omega
 simp[Wj,yQ,hc,hp]
theorem Xk(T:Nat)(c p:Prd)(hc:PWf T c)(hp:PWf T p)(zf:∀s∈c,∀t∈p,s.length+t.length≤1000000000)(hT:T≤1000):PC Tryz.prog 160 [encP c,encP p] (fun r=>r=encP (Wj c p)):=by
 refine Qh tOk Tryz.func160 rfl Tryz.results160 rfl (by simp[Tryz.ntmps160]) ?_;rw[Tryz.ntmps160];simp only[Qe];simp only[encP];have hlen:c.length=p.length:=by rw[hc.1,hp.1]
 have zl:=hc.1;repeat first|(refine r_ ?_;simp)|refine q_ ?_
 refine Ej 3 0 145 1 rfl rfl ?_;simp;obtain⟨K,hK⟩:∃K,K=[AObj.vars [.list (c.map encL)],AObj.vars [.list (p.map encL)],AObj.vars [AV.nils],AObj.vars [AV.nils]]:=⟨_,rfl⟩
 have hst:=GL.start (K:=K) (S:=3) [] [] 145 1 (by rw[hK];simp);refine Ql (Qb (sl':=[(2,.vptr 0 0),(3,.vptr 1 0),(4,.vptr 2 0),(5,.vptr 3 0),(6,.i 0)]) ?_ (by simp));refine Qm (F:=fun(u:Nat×Nat×List AObj)=>⟨[(2,.vptr 0 0),(3,.vptr 1 0),(4,.vptr 2 0),(5,.vptr 3 0),(6,.i u.1)],u.2.2⟩)
  (fun u=>u.1≤c.length∧GL K u.2.2 3 u.2.1 [] [] 145 1 (upL (fun i=>Tc (c.getD i []) (p.getD i [])) u.1)) (fun u=>c.length - u.1) ?_ (0,K.length,_) ⟨by simp,by rw[Ak,hK]at *;exact hst⟩
 rintro⟨j,q,H2⟩ ⟨hj,g⟩ ih;simp only[vB,xP]at hj g ih ⊢;have g0:H2[0]? =some (AObj.vars [.list (c.map encL)]):=g.kp (by decide) (by rw[hK];rfl);have g1:H2[1]? =some (AObj.vars [.list (p.map encL)]):=g.kp (by decide) (by rw[hK];rfl);have gR:H2[2]? =some (AObj.vars [AV.nils]):=g.kp (by decide) (by rw[hK];rfl);have g2:=g.cell;have g3:=g.arr;rw[Wx]at g2;simp only[xP]at g2;repeat first|(refine r_ ?_;simp[g0])|refine q_ ?_
 refine Qa rfl (fun zg=> ?_) (fun zh=> ?_)
 ·have z1:j<c.length:=by simpa using zg
  have hw:IntKind.i64.wrap ((j:Int)+1)=j+1:=wrap_i64 _ (by omega) (by omega);have z7:∀L:List AObj,(H2.set q .dead++L)[3]? =some (AObj.vars [AV.sl q 1 0 j]):=fun L=>by have:=g.at L;rw[Wx]at this;exact this
  have zb:∀(L:List AObj) (h:3<(H2.set q .dead++L).length),(H2.set q .dead++L)[3]'h=AObj.vars [AV.sl q 1 0 j]:=fun L h=>by have:=z7 L;rw[zD h]at this;exact Option.some.inj this
  have zc:=fun A y=>g.put A y (Wx _ _).symm;have zi:upL (fun i=>Tc (c.getD i []) (p.getD i [])) j++[encL ((fun i=>Tc (c.getD i []) (p.getD i [])) j)]=upL (fun i=>Tc (c.getD i []) (p.getD i [])) (j+1):=(Al _ _).symm;have z6:=fun H=>ih (j+1,H2.length+1,H);have z8:=Wx (fun i=>Tc (c.getD i []) (p.getD i [])) j;simp only[←zi]at z6;have za:j<p.length:=by omega
  have hs:=hc.2 _ (zG z1);have zj:=hp.2 _ (zG za);simp only[Wv z1,Wv za]at *
  repeat first|(refine r_ ?_;simp[g0,g1,g2])|refine q_ ?_
  refine Qn tOk mixed [14,16] (.val 0 (.val 1 (.val 2 (.val 3 (.val 4 (.val 5 (.val 6 (.val 7 (.val 8 (.val 9 (.val 10 (.val 11 (.one 12 (.one 13 (.one 14 (.val 15 (.one 16 (.done)))))))))))))))))) rfl (by kernel_rfl) ?_;simp[z1,za,g0,g1,g2];refine Qd rfl rfl (by simp) (f0p c[j] p[j] hs.1 zj.1 (zf _ (zG z1) _ (zG za)) (c0c hc (zG z1))) rfl ?_;rintro _ rfl;simp;repeat first|(refine r_ ?_;simp[g0,g1,g2])|refine q_ ?_
  generalize upL (fun i=>Tc (c.getD i []) (p.getD i [])) j=xs at *
  refine Qf tOk rfl rfl T68 rfl Pp rfl (by decide) (by decide) rfl rfl rfl ?_;simp[Qc g3,Qj g3,z8,z7,zb];refine⟨by simp[Ws,Qc g3,Qj g3,z8,z7,zb]<;>omega,?_⟩;repeat first|(refine r_ ?_;simp[g0,g2,hw,z7,zb])|refine q_ ?_
  refine Qb (sl':=[(2,.vptr 0 0),(3,.vptr 1 0),(4,.vptr 2 0),(5,.vptr 3 0),(6,.i (j+1:Nat))]) (z6 _ ⟨by omega,zc _ _⟩ (by omega)) ?_;simp
 ·have zd:j=c.length:=by(simp at zh;omega)
  subst zd;have hS:=(zA.1 g2).1;have zk:q≠2∧q≠3:=by have:=g.ge;rw[hK]at this;simp at this;omega
  have z8:=Wx (fun i=>Tc (c.getD i []) (p.getD i [])) (c.length);have ze: .list (upL (fun i=>Tc (c.getD i []) (p.getD i [])) (c.length))=AV.list ((Wj c p).map encL):=by rw[Hx];rw[d07 hlen]
  generalize upL (fun i=>Tc (c.getD i []) (p.getD i [])) (c.length)=xs at *
  refine Wi q g3 3 g2 ?_;have k1:∀X,((H2.set q .dead).set 3 X)[2]? =some (AObj.vars [AV.nils]):=fun X=>Qg (by decide) (Qg zk.1 gR _) _;have k2:∀X,((H2.set q .dead).set 3 X)[3]? =some X:=fun X=>zH (by simpa using hS);have k3:∀X Y,(((H2.set q .dead).set 3 X).set 2 Y)[2]? =some Y:=fun X Y=>Qo (k1 X) _;simp[z8];rw[zI (by omega)];repeat first|(refine r_ ?_;simp[k1,k2,k3])|refine q_ ?_
  exact AV.list.inj ze
end Go.Abs
namespace Go.Abs
open Go Go.Proofs
attribute [local irreducible] O5
theorem q1p(p:Prd)(x:Sy)(hl:∀s∈p,s.length≤1000000000):PC Tryz.prog 207 [encP p,encSy x] (fun r=>r= .bool (Rp p x)):=by
 refine Qh tOk Tryz.func207 rfl Tryz.results207 rfl (by simp[Tryz.ntmps207]) ?_;rw[Tryz.ntmps207];simp only[Qe];simp only[encP,encSy];repeat first|(refine r_ ?_;simp)|refine q_ ?_
 by_cases h0:0≤x.ty
 ·by_cases h1:x.ty<p.length
  ·have h2:x.ty.toNat<p.length:=by omega
   refine Qn tOk mixed [] (.val 0 (.val 1 (.val 2 (.val 3 (.val 4 (.val 5 (.val 6 (.val 7 (.val 8 (.val 9 (.val 10 (.val 11 (.val 12 (.val 13 (.val 14 (.val 15 (.val 16 (.val 17 (.val 18 (.val 19 (.one 20 (.val 21 (.val 22 (.done)))))))))))))))))))))))) rfl (by kernel_rfl) ?_;simp[h0,h1,h2];refine Qd rfl rfl (by simp) (k1v p[x.ty.toNat] x.num (hl _ (zG h2))) rfl ?_;rintro _ rfl;simp;repeat first|(refine r_ ?_;simp[h0,h1,h2])|refine q_ ?_
   simp[Rp,h0,h1,yQ,h2]
  ·refine Qn tOk mixed [] (.val 0 (.val 1 (.val 2 (.val 3 (.val 4 (.val 5 (.val 6 (.val 7 (.val 8 (.val 9 (.val 10 (.val 11 (.val 12 (.val 13 (.val 14 (.val 15 (.val 16 (.val 17 (.val 18 (.val 19 (.one 20 (.val 21 (.val 22 (.done)))))))))))))))))))))))) rfl (by kernel_rfl) ?_;simp[h0,h1];refine Wb rfl rfl ?_;simp[h0,h1];repeat first|(refine r_ ?_;simp[h0,h1])|refine q_ ?_
   simp[Rp,h0,h1]
 ·refine Qn tOk mixed [] (.val 0 (.val 1 (.val 2 (.val 3 (.val 4 (.val 5 (.val 6 (.val 7 (.val 8 (.val 9 (.val 10 (.val 11 (.val 12 (.val 13 (.val 14 (.val 15 (.val 16 (.val 17 (.val 18 (.val 19 (.one 20 (.val 21 (.val 22 (.done)))))))))))))))))))))))) rfl (by kernel_rfl) ?_;simp[h0];refine Wb rfl rfl ?_;simp[h0];repeat first|(refine r_ ?_;simp[h0])|refine q_ ?_
  simp[Rp,h0]
def x05(a:Aut)(i k:Nat):Bool:=decide ((a.mv.getD i default).src=(a.mv.getD k default).src) && x07 (a.mv.getD i default).on (a.mv.getD k default).on
theorem v0h{a:Aut}{i k:Nat}(hi:i<a.mv.length)(hk:k<i)(h:x05 a i k=true):Vy a=false:=by unfold Vy;rw[vv];refine⟨i,yM.2 hi,?_⟩;rw[Bool.not_eq_true,vv];exact⟨k,yM.2 hk,by unfold x05 at h;rw[h];simp⟩
theorem z1n{a:Aut}(h:∀i,i<a.mv.length→∀k,k<i→x05 a i k=false):Vy a=true:=by unfold Vy;rw[zP];intro i hi;rw[zP];intro k hk;have:=h i (yM.1 hi) k (yM.1 hk);unfold x05 at this;rw[this];rfl
theorem q13{a:Aut}{i k:Nat}(hi:i<a.mv.length)(hk:k<a.mv.length):x05 a i k=(decide (a.mv[i].src=a.mv[k].src) && x07 a.mv[i].on a.mv[k].on):=by simp[x05,yQ,hi,hk]
theorem v01{a:Aut}(h:OkA a){m:Mv}(hm:m∈a.mv):∀s∈m.on,s.length≤256:=fun s hs=>((h.mv m hm).on.2 s hs).len
attribute [local irreducible] x05 x07 Wj Wp
def x16(a:Aut):Bool×Int:=if Wl a=0 then(Vy a,0)else(false,Wl a)
end Go.Abs
namespace Go.Abs
open Go Go.Proofs
def ovl(x y:Iv):Bool:=decide (x.lo≤y.hi) && decide (y.lo≤x.hi)
def noC(p q:Prd)(i:Nat):Prop:=∀x∈p.getD i [],∀y∈q.getD i [],ovl x y=false
theorem j0q{T:Nat}{p q:Prd}(hp:PWf T p)(hq:PWf T q)(h:∀i,i<p.length→noC p q i):x07 p q=false:=by rw[wS,Ne,Zx hp hq];rintro⟨t,n,⟨s,hs,x,hx,h1,h2⟩,⟨s',z1,y,hy,h3,h4⟩⟩;have ht:=(zA.1 hs).1;have:=h t ht x (by rw[yQ,hs];exact hx) y (by rw[yQ,z1];exact hy);simp only[ovl,Bool.and_eq_false_iff,decide_eq_false_iff_not]at this;omega
theorem y1u{T:Nat}{p q:Prd}(hp:PWf T p)(hq:PWf T q){i:Nat}(hi:i<p.length)(z1:i<q.length){x y:Iv}(hx:x∈p[i])(hy:y∈q[i])(h:ovl x y=true):x07 p q=true:=by
 rw[Zx hp hq];simp only[ovl,zR,decide_eq_true_eq]at h;have h1:=(hp.2 _ (zG hi)).1.1 x hx;have h2:=(hq.2 _ (zG z1)).1.1 y hy;by_cases hl:x.lo≤y.lo
 ·exact⟨i,y.lo,⟨p[i],zD hi,x,hx,hl,h.2⟩,⟨q[i],zD z1,y,hy,yJ _,h2⟩⟩
 ·exact⟨i,x.lo,⟨p[i],zD hi,x,hx,yJ _,h1⟩,⟨q[i],zD z1,y,hy,by omega,h.1⟩⟩
attribute [local irreducible] x07
theorem f0b(T:Nat)(p q:Prd)(hp:PWf T p)(hq:PWf T q)(zj:∀s∈p,s.length≤1000000000)(zk:∀s∈q,s.length≤1000000000)(hT:T≤1000):PC Tryz.prog 136 [encP p,encP q] (fun r=>r= .bool (x07 p q)):=by
 refine Qh tOk Tryz.func136 rfl Tryz.results136 rfl (by simp[Tryz.ntmps136]) ?_;rw[Tryz.ntmps136];simp only[Qe];simp only[encP];have hlen:=hp.1;have zg:=hq.1;repeat first|(refine r_ ?_;simp)|refine q_ ?_
 refine Qs p.length (fun i=>∀i',i'<i→noC p q i') (fun i=>[(3,.vptr 1 0),(12,.list (p.map encL)),(13,.i p.length),(14,.i i)]) (fun _=>[.vars [.list (p.map encL)],.vars [.list (q.map encL)]]) rfl (by simp) (by simp) (by simp) (by simp) (by simp) ?_;intro i hi hI ih;repeat first|(refine r_ ?_;simp)|refine q_ ?_
 refine Qa rfl (fun zl=> ?_) (fun zm=> ?_)
 ·have z1:i<p.length:=by simpa using zl
  have z6:i<q.length:=by omega
  have hw:IntKind.i64.wrap ((i:Int)+1)=i+1:=wrap_i64 _ (by omega) (by omega);have zx:=zj _ (zG z1);have zy:=zk _ (zG z6);repeat first|(refine r_ ?_;simp[z1])|refine q_ ?_
  refine Qs p[i].length (fun u=>∀u',u'<u→∀h:u'<p[i].length,∀y∈q[i],ovl p[i][u'] y=false) (fun u=>[(3,.vptr 1 0),(5,.i i),(12,.list (p.map encL)),(13,.i p.length),(14,.i i),(19,LIv p[i]),(20,.i p[i].length),(21,.i u)]) (fun _=>[.vars [.list (p.map encL)],.vars [.list (q.map encL)]]) rfl (by simp) (by simp) (by simp) (by simp) (by simp) ?_;intro u hu zh zn;repeat first|(refine r_ ?_;simp)|refine q_ ?_
  refine Qa rfl (fun z7=> ?_) (fun z8=> ?_)
  ·have za:u<p[i].length:=by simpa using z7
   have zo:IntKind.i64.wrap ((u:Int)+1)=u+1:=wrap_i64 _ (by omega) (by omega);repeat first|(refine r_ ?_;simp[za,z6])|refine q_ ?_
   refine Qs q[i].length (fun v=>∀v',v'<v→∀h:v'<q[i].length,ovl p[i][u] q[i][v']=false) (fun v=>[(3,.vptr 1 0),(5,.i i),(8,.vptr 2 0),(12,.list (p.map encL)),(13,.i p.length),(14,.i i),(19,LIv p[i]),(20,.i p[i].length),(21,.i u),(29,LIv q[i]),(30,.i q[i].length),(31,.i v)]) (fun _=>[.vars [.list (p.map encL)],.vars [.list (q.map encL)],.vars [.i p[i][u].lo,.i p[i][u].hi]]) rfl (by simp) (by simp) (by simp) (by simp) (by simp) ?_;intro v hv zi zp;repeat first|(refine r_ ?_;simp)|refine q_ ?_
   refine Qa rfl (fun zb=> ?_) (fun zc=> ?_)
   ·have zd:v<q[i].length:=by simpa using zb
    have zq:IntKind.i64.wrap ((v:Int)+1)=v+1:=wrap_i64 _ (by omega) (by omega);repeat first|(refine r_ ?_;simp[zd])|refine q_ ?_
    refine Qa rfl (fun h=> ?_) (fun h=> ?_)
    ·repeat first|(refine r_ ?_;simp)|refine q_ ?_
     rw[y1u hp hq z1 z6 (zG za) (zG zd) (by simpa[ovl]using h)]
    ·repeat first|(refine r_ ?_;simp[zq])|refine q_ ?_
     refine Qr _ (zp zd (fun v' ze zr=> ?_)) rfl (by simp) ?_ (by simp) (by simp)
     ·by_cases e:v'=v
      ·subst e;simpa[ovl]using h
      ·exact zi v' (by omega) zr
     ·simp
   ·have zt:v=q[i].length:=by simp at zc;omega
    subst zt;repeat first|(refine r_ ?_;simp[zo])|refine q_ ?_
    refine Qr _ (zn za (fun u' zf zu y hy=> ?_)) rfl (by simp) ?_ (by simp) (by simp)
    ·by_cases e:u'=u
     ·subst e;obtain⟨v',ze,rfl⟩:=yC hy;exact zi v' ze ze
     ·exact zh u' (by omega) zu y hy
    ·simp
  ·have zv:u=p[i].length:=by simp at z8;omega
   subst zv;repeat first|(refine r_ ?_;simp[hw])|refine q_ ?_
   refine Qr _ (ih z1 (fun i' zz=> ?_)) rfl (by simp) ?_ (by simp) (by simp)
   ·by_cases e:i'=i
    ·subst e;intro x hx y hy;rw[Wv z1]at hx;rw[Wv z6]at hy;obtain⟨u',zf,rfl⟩:=yC hx;exact zh u' zf zf y hy
    ·exact hI i' (by omega)
   ·simp
 ·have zw:i=p.length:=by simp at zm;omega
  subst zw;repeat first|(refine r_ ?_;simp)|refine q_ ?_
  rw[j0q hp hq hI]
attribute [local irreducible] x05
theorem q2k(a:Aut):PC Tryz.prog 73 [encA a] (fun r=>r= .tup [.bool (x16 a).1,.i (x16 a).2]):=by
 refine Qh tOk Tryz.func73 rfl Tryz.results73 rfl (by simp[Tryz.ntmps73]) ?_;rw[Tryz.ntmps73];simp only[Qe];simp only[encA];repeat first|(refine r_ ?_;simp)|refine q_ ?_
 refine Qd rfl rfl (by simp) (I7 a) rfl ?_;rintro _ rfl;simp;repeat first|(refine r_ ?_;simp)|refine q_ ?_
 refine Qa rfl (fun h=> ?_) (fun h=> ?_)
 ·repeat first|(refine r_ ?_;simp)|refine q_ ?_
  rw[x16,if_neg (by simpa using h)];exact⟨rfl,rfl⟩
 have h0:Wl a=0:=by simpa using h
 have z8:=(Ic a).1 h0;have zt:=z8.mvs;rw[x16,if_pos h0];repeat first|(refine r_ ?_;simp)|refine q_ ?_
 refine Qs a.mv.length (fun j=>∀i,i<j→∀k,k<i→x05 a i k=false) (fun j=>[(1,.vptr 0 0),(15,.list (a.mv.map encMv)),(16,.i a.mv.length),(17,.i j)]) (fun _=>[.vars (Qp a)]) rfl (by simp) (by simp) (by simp) (by simp) (by simp) ?_;intro j hj hI ih;repeat first|(refine r_ ?_;simp)|refine q_ ?_
 refine Qa rfl (fun zq=> ?_) (fun zr=> ?_)
 ·have z1:j<a.mv.length:=by simpa using zq
  have hw:IntKind.i64.wrap ((j:Int)+1)=j+1:=wrap_i64 _ (by omega) (by omega);have ze:j≤a.mv.length:=hj;have z7:min j a.mv.length=j:=by omega
  repeat first|(refine r_ ?_;simp[z1,ze,z7])|refine q_ ?_
  refine Qs j (fun k=>∀k',k'<k→x05 a j k'=false) (fun k=>[(1,.vptr 0 0),(6,.vptr 1 0),(15,.list (a.mv.map encMv)),(16,.i a.mv.length),(17,.i j),(25,.list (ur j (a.mv.map encMv))),(26,.i j),(27,.i k)]) (fun _=>[.vars (Qp a),.vars [.i a.mv[j].src,.i a.mv[j].dst,.list (a.mv[j].on.map encL)]]) rfl (by simp) (by simp) (by simp) (by simp) (by simp) ?_;intro k hk zj zk;repeat first|(refine r_ ?_;simp)|refine q_ ?_
  refine Qa rfl (fun zf=> ?_) (fun zg=> ?_)
  ·have za:k<j:=by simpa using zf
   have zb:k<a.mv.length:=by omega
   have zl:IntKind.i64.wrap ((k:Int)+1)=k+1:=wrap_i64 _ (by omega) (by omega);have z6:=q13 (a:=a) z1 zb;have zm:x05 a j k=false→∀k',k'<k+1→x05 a j k'=false:=fun hb k' zh=>by
    by_cases e:k'=k
    ·rw[e];exact hb
    ·exact zj k' (by omega)
   have zn:(ur j (a.mv.map encMv))[k]? =some (encMv a.mv[k]):=by rw[List.getElem?_take_of_lt za];simp[zb]
   by_cases he:a.mv[j].src=a.mv[k].src
   ·rw[decide_eq_true he,vJ]at z6;have zc:(a.mv[j].src==a.mv[k].src)=true:=by simpa using he
    repeat first|(refine r_ ?_;simp[zn,za,zb,z7,zc])|refine q_ ?_
    have zo:=zG z1;have zp:=zG zb;refine Qd rfl rfl (by simp) (f0b a.types.toNat a.mv[j].on a.mv[k].on (z8.mv _ zo).on.wf (z8.mv _ zp).on.wf (fun s hs=>by have:=v01 z8 zo s hs;omega) (fun s hs=>by have:=v01 z8 zp s hs;omega) (by have:=z8.types;omega)) rfl ?_;rintro _ rfl;simp;repeat first|(refine r_ ?_;simp)|refine q_ ?_
    refine Qa rfl (fun h3=> ?_) (fun h3=> ?_)
    ·repeat first|(refine r_ ?_;simp)|refine q_ ?_
     rw[v0h z1 za (by rw[z6];simpa using h3)]
    ·repeat first|(refine r_ ?_;simp[zl])|refine q_ ?_
     refine Qr _ (zk za (zm (by rw[z6];simpa using h3))) rfl (by simp) ?_ (by simp) (by simp);simp
   ·rw[decide_eq_false he,up]at z6;have zc:(a.mv[j].src==a.mv[k].src)=false:=beq_eq_false_iff_ne.2 he;repeat first|(refine r_ ?_;simp[zn,za,zb,z7,zc])|refine q_ ?_
    refine Wb rfl rfl ?_;simp[zc];repeat first|(refine r_ ?_;simp[zc])|refine q_ ?_
    refine Qq rfl ?_;repeat first|(refine r_ ?_;simp[zl])|refine q_ ?_
    refine Qr _ (zk za (zm z6)) rfl (by simp) ?_ (by simp) (by simp);simp
  ·have zd:k=j:=by simp at zg;omega
   subst zd;repeat first|(refine r_ ?_;simp[hw])|refine q_ ?_
   refine Qr _ (ih z1 (fun i hi k' zh=> ?_)) rfl (by simp) ?_ (by simp) (by simp)
   ·by_cases e:i=k
    ·subst e;exact zj k' zh
    ·exact hI i (by omega) k' zh
   ·simp
 ·have zi:j=a.mv.length:=by simp at zr;omega
  subst zi;repeat first|(refine r_ ?_;simp)|refine q_ ?_
  rw[z1n hI]
end Go.Abs
namespace Go.Abs
open Go Go.Proofs
abbrev LI (l:List Int):AV:= .list (l.map (AV.int .i64))
def V6{α:Type}(f:α→Bool)(l:List α):Int:=match l.findIdx? f with|some i=>i|none=> -1
theorem Hh{α:Type}{f:α→Bool}{l:List α}{j:Nat}(hj:j<l.length)(h:f l[j]=true)(hb:∀i,∀hi:i<l.length,i<j→f l[i]=false):V6 f l=j:=by unfold V6;rw[xS.2 ⟨hj,h,fun i hi=>by rw[hb i (by omega) hi];simp⟩]
theorem P2{α:Type}{f:α→Bool}{l:List α}(hb:∀i,∀hi:i<l.length,i<l.length→f l[i]=false):V6 f l= -1:=by unfold V6;rw[ut.2 (fun x hx=>by obtain⟨i,hi,rfl⟩:=yC hx;exact hb i hi hi)]
theorem q0t{α:Type}(f:α→Bool)(l:List α):decide (0≤V6 f l)=l.any f:=by
 unfold V6;cases h:l.findIdx? f with
 |none=>
  rw[ut]at h;have:l.any f=false:=by rw[wd];intro x hx;rw[h x hx];simp
  rw[this];rfl
 |some i=>obtain⟨h1,h2,_⟩:=xS.1 h;have:l.any f=true:=xN.2 ⟨_,zG h1,h2⟩;rw[this];simp
theorem z1r(l:List Int)(v:Int):PC Tryz.prog 118 [LI l,.i v] (fun r=>r= .i (V6 (fun y=>v==y) l)):=by
 refine Qh tOk Tryz.func118 rfl Tryz.results118 rfl (by simp[Tryz.ntmps118]) ?_;rw[Tryz.ntmps118];simp only[Qe];refine R9 0 rfl (fun hlen=> ?_);rw[zV]at hlen;repeat first|(refine r_ ?_;simp)|refine q_ ?_
 refine Qs l.length (fun j=>∀i,∀hi:i<l.length,i<j→(v==l[i])=false) (fun j=>[(0,LI l),(1,.i v),(7,.i l.length),(8,.i j)]) (fun _=>[]) rfl (by simp) (by simp) (by simp) (by simp) (by simp) ?_;intro j hj hI ih;repeat first|(refine r_ ?_;simp)|refine q_ ?_
 refine Qa rfl (fun z7=> ?_) (fun z8=> ?_)
 ·have z1:j<l.length:=by simpa using z7
  have hw:IntKind.i64.wrap ((j:Int)+1)=j+1:=wrap_i64 _ (by omega) (by omega);repeat first|(refine r_ ?_;simp[z1])|refine q_ ?_
  refine Qa rfl (fun h=> ?_) (fun h=> ?_)
  ·repeat first|(refine r_ ?_;simp)|refine q_ ?_
   rw[Hh (f:=fun y=>v==y) z1 h hI]
  ·repeat first|(refine r_ ?_;simp[hw])|refine q_ ?_
   refine Qr _ (ih z1 (fun i hi za=> ?_)) rfl (by simp) ?_ (by simp) (by simp)
   ·by_cases e:i=j
    ·subst e;exact h
    ·exact hI i hi (by omega)
   ·simp
 ·have z6:j=l.length:=by simp at z8;omega
  subst z6;repeat first|(refine r_ ?_;simp)|refine q_ ?_
  rw[P2 (f:=fun y=>v==y) hI]
theorem Dm(l:List Int)(v:Int):PC Tryz.prog 169 [LI l,.i v] (fun r=>r= .bool (l.contains v)):=by
 refine Qh tOk Tryz.func169 rfl Tryz.results169 rfl (by simp[Tryz.ntmps169]) ?_;rw[Tryz.ntmps169];simp only[Qe];repeat first|(refine r_ ?_;simp)|refine q_ ?_
 refine Qd rfl rfl (by simp) (z1r l v) rfl ?_;rintro _ rfl;simp;repeat first|(refine r_ ?_;simp)|refine q_ ?_
 have:=q0t (fun y=>v==y) l;rw[yX]at this;simpa using this
structure SL (K G:List AObj) (p e sz:Nat) (xs:List AV):Prop where
 arr:G[p]? =some (.arr e sz xs)
 ge:K.length≤p
 keep:∀j,j<K.length→G[j]? =K[j]?
theorem SL.kp{K G:List AObj}{p e sz:Nat}{xs:List AV}(h:SL K G p e sz xs){j:Nat}{x:AObj}(hx:K[j]? =some x):G[j]? =some x:=by rw[h.keep j (zA.1 hx).1];exact hx
theorem SL.start(K:List AObj)(e sz:Nat):SL K (K++[AObj.arr e sz []]) K.length e sz []:=
 ⟨by simp,zK _,fun j hj=>zE hj⟩
theorem SL.add{K G:List AObj}{p e sz:Nat}{xs:List AV}(h:SL K G p e sz xs)(L:List AObj):SL K (G++L) p e sz xs:=
 ⟨by rw[zE (zA.1 h.arr).1];exact h.arr,h.ge,fun j hj=>by
  rw[zE (by have:=(zA.1 h.arr).1;have:=h.ge;omega)];exact h.keep j hj⟩
theorem SL.put{K G:List AObj}{p e sz:Nat}{xs:List AV}(h:SL K G p e sz xs)(L:List AObj)(ys:List AV){n:Nat}(hn:n=G.length+L.length):SL K (G.set p .dead++(L++[AObj.arr e sz ys])) n e sz ys:=by have hp:=(zA.1 h.arr).1;have z1:=h.ge;subst hn;refine⟨by rw[zC (by simp),zC (by simp)];simp,by omega,fun j hj=> ?_⟩;rw[zE (by simp;omega),zB (by omega)];exact h.keep j hj
theorem SL.at{K G:List AObj}{p e sz:Nat}{xs:List AV}(h:SL K G p e sz xs){j:Nat}{x:AObj}(hx:K[j]? =some x)(L:List AObj):(G.set p .dead++L)[j]? =some x:=by have hj:=(zA.1 hx).1;have hp:=(zA.1 h.arr).1;have z1:=h.ge;rw[zE (by simp;omega),zB (by omega),h.keep j hj];exact hx
theorem SL.at'{K G:List AObj}{p e sz:Nat}{xs:List AV}(h:SL K G p e sz xs){j:Nat}{x:AObj}(hx:K[j]? =some x)(L:List AObj):(G++L)[j]? =some x:=(h.add L).kp hx
def w1m(l:List Int)(x:Sy)(m:Mv):Bool:=l.contains m.src && Rp m.on x
def Xd(l:List Int)(x:Sy)(ms:List Mv):List Int:=(ms.filter (w1m l x)).map (·.dst)
theorem k0s(l:List Int)(x:Sy)(ms:List Mv)(j:Nat)(h:j<ms.length):Xd l x (ms.take (j+1))=Xd l x (ms.take j)++(if w1m l x ms[j]then [ms[j].dst]else []):=by unfold Xd;rw[zL h,uX,yG];cases h:w1m l x ms[j]<;>simp[h]
theorem w0u(l:List Int)(x:Sy)(ms:List Mv):(Xd l x ms).length≤ms.length:=by unfold Xd;rw[zV];exact wU _ _
theorem w1c(a:Aut)(l:List Int)(x:Sy):Lib.compact (R7 (Xd l x a.mv))=j1e a l x:=rfl
theorem c05(l:List Int)(x:Sy):Xd l x []=[]:=rfl
attribute [local irreducible] Xd Z8 R7 Lib.compact
theorem Vj(a:Aut)(ha:OkA a)(l:List Int)(x:Sy)(hx:W2 a x):PC Tryz.prog 108 [encA a,LI l,encSy x] (fun r=>r=LI (Qu a l x)):=by
 refine Qh tOk Tryz.func108 rfl Tryz.results108 rfl (by simp[Tryz.ntmps108]) ?_;rw[Tryz.ntmps108];simp only[Qe];simp only[encA,encSy];have zh:=ha.mvs;have hF:∀m∈a.mv,Z8 m.on x=(Rp m.on x,0):=fun m hm=>by rw[Nu ((W9 a.types m.on).2 ⟨ha.types,(ha.mv m hm).on⟩),if_neg (fun k=>k ((D7 _ _).2 hx))]
 repeat first|(refine r_ ?_;simp)|refine q_ ?_
 refine Q5 7 3 1 rfl ?_;simp;refine Ql (Qb (sl':=[(1,LI l),(3,.vptr 0 0),(5,.vptr 1 0),(7,.sl 2 1 0 (Xd l x (a.mv.take 0)).length),(11,.list (a.mv.map encMv)),(12,.i a.mv.length),(13,.i 0)]) ?_ (by simp[Xd]));obtain⟨K,hK⟩:∃K,K=[AObj.vars (Qp a),AObj.vars [AV.i x.ty,AV.i x.num]]:=⟨_,rfl⟩
 have z8:K[1]? =some (AObj.vars [AV.i x.ty,AV.i x.num]):=by rw[hK];rfl
 have hst:=SL.start K 3 1;refine Qm (F:=fun(u:Nat×Nat×List AObj)=>⟨[(1,LI l),(3,.vptr 0 0),(5,.vptr 1 0),(7,.sl u.2.1 1 0 (Xd l x (a.mv.take u.1)).length),(11,.list (a.mv.map encMv)),(12,.i a.mv.length),(13,.i u.1)],u.2.2⟩)
  (fun u=>u.1≤a.mv.length∧SL K u.2.2 u.2.1 3 1 ((Xd l x (a.mv.take u.1)).map (AV.int .i64))) (fun u=>a.mv.length - u.1) ?_ (0,2,_) ⟨by simp,by rw[wA,c05];rw[hK]at hst ⊢;exact hst⟩
 rintro⟨j,q,H2⟩ ⟨hj,g⟩ ih;simp only at hj g ih ⊢;have g1:=g.kp z8;repeat first|(refine r_ ?_;simp)|refine q_ ?_
 refine Qa rfl (fun zb=> ?_) (fun zc=> ?_)
 ·have z1:j<a.mv.length:=by simpa using zb
  have hw:IntKind.i64.wrap ((j:Int)+1)=j+1:=wrap_i64 _ (by omega) (by omega);have zd:=k0s l x a.mv j z1;have za:=w0u l x (a.mv.take j);rw[xB]at za;have ze:=hF _ (zG z1);have z6:=fun q' H'=>ih (j+1,q',H');simp only[zd]at z6;generalize Xd l x (a.mv.take j)=acc at *
  have gL:=fun L=>g.at' z8 L;repeat first|(refine r_ ?_;simp[z1])|refine q_ ?_
  by_cases hb:a.mv[j].src∈l
  ·have zf:l.contains a.mv[j].src=true:=by simpa using hb
   refine Qd rfl rfl (by simp) (Dm l a.mv[j].src) rfl ?_;rintro _ rfl;simp[hb,gL];repeat first|(refine r_ ?_;simp[gL])|refine q_ ?_
   refine Qd rfl rfl (by simp) (u1q a.mv[j].on x) rfl ?_;rintro _ rfl;simp[ze];repeat first|(refine r_ ?_;simp)|refine q_ ?_
   cases hb2:Rp a.mv[j].on x with
   |false=>
    have hh:w1m l x a.mv[j]=false:=by rw[w1m,hb2];simp
    refine Qq rfl ?_;simp[hb2];repeat first|(refine r_ ?_;simp[hw])|refine q_ ?_
    refine Qb (sl':=[(1,LI l),(3,.vptr 0 0),(5,.vptr 1 0),(7,.sl q 1 0 acc.length),(11,.list (a.mv.map encMv)),(12,.i a.mv.length),(13,.i (j+1:Nat))]) ?_ (by simp);have:=z6 q _ ⟨by omega,by rw[hh];simpa using g.add [AObj.vars [AV.i a.mv[j].src,AV.i a.mv[j].dst,AV.list (a.mv[j].on.map encL)]]⟩ (by omega);rw[hh]at this;simpa using this
   |true=>
    have hh:w1m l x a.mv[j]=true:=by rw[w1m,zf,hb2];rfl
    refine Qq rfl ?_;simp[hb2];repeat first|(refine r_ ?_;simp)|refine q_ ?_
    refine Qf tOk rfl rfl T47 rfl T3 rfl (by decide) (by decide) rfl rfl rfl ?_;simp[Qc g.arr,Qj g.arr];refine⟨by simp[Ws,Qc g.arr,Qj g.arr]<;>omega,?_⟩;repeat first|(refine r_ ?_;simp[hw])|refine q_ ?_
    refine Qb (sl':=[(1,LI l),(3,.vptr 0 0),(5,.vptr 1 0),(7,.sl (H2.length+2) 1 0 (acc.length+1)),(11,.list (a.mv.map encMv)),(12,.i a.mv.length),(13,.i (j+1:Nat))]) ?_ (by simp);have:=z6 (H2.length+2) _ ⟨by omega,by rw[hh];exact g.put [AObj.vars [AV.i a.mv[j].src,AV.i a.mv[j].dst,AV.list (a.mv[j].on.map encL)],AObj.arr 3 1 [AV.i a.mv[j].dst]] _ rfl⟩ (by omega);rw[hh]at this;simpa using this
  ·have hh:w1m l x a.mv[j]=false:=by simp[w1m,hb]
   refine Qd rfl rfl (by simp) (Dm l a.mv[j].src) rfl ?_;rintro _ rfl;simp[hb,gL];refine Wb rfl rfl ?_;simp[hb];refine Qq rfl ?_;repeat first|(refine r_ ?_;simp[hw])|refine q_ ?_
   refine Qb (sl':=[(1,LI l),(3,.vptr 0 0),(5,.vptr 1 0),(7,.sl q 1 0 acc.length),(11,.list (a.mv.map encMv)),(12,.i a.mv.length),(13,.i (j+1:Nat))]) ?_ (by simp);have:=z6 q _ ⟨by omega,by rw[hh];simpa using g.add [AObj.vars [AV.i a.mv[j].src,AV.i a.mv[j].dst,AV.list (a.mv[j].on.map encL)]]⟩ (by omega);rw[hh]at this;simpa using this
 ·have z7:j=a.mv.length:=by simp at zc;omega
  subst z7;rw[zZ]at g ⊢;have za:=w0u l x a.mv;repeat first|(refine r_ ?_;simp)|refine q_ ?_
  refine Wd rfl rfl (Kn H2 q (Xd l x a.mv) g.arr (by omega)) rfl ?_;rintro r H' ⟨rfl,rfl⟩;simp;repeat first|(refine r_ ?_;simp)|refine q_ ?_
  have g2:=Qo g.arr (.arr 3 1 ((R7 (Xd l x a.mv)).map (AV.int .i64)));have zg:=Ig (Xd l x a.mv);rw[←zg];refine Wd rfl rfl (Ae _ q (R7 (Xd l x a.mv)) g2 (by omega) (Ut _)) rfl ?_;rintro r H' ⟨rfl,G,rfl⟩;simp;have g3:=Qo g.arr (.arr 3 1 ((Lib.compact (R7 (Xd l x a.mv))++G).map (AV.int .i64)));rw[w1c,j17 (fun m hm=>(ha.mv m hm).dst)]at *
  repeat first|(refine r_ ?_;simp)|refine q_ ?_
  rw[yG]at g3;simp[g3]
end Go.Abs
namespace Go.Abs
open Go Go.Proofs
theorem g0p(H:List AObj)(l:List Int)(g:Nat)(cap:AV)(f:Int→Bool)(hl:l.length≤1000000000)(hg:∀z∈l,FC Tryz.prog g [.i z,cap] H (fun r H'=>r= .bool (f z)∧H'=H)):
  FC Tryz.prog 106 [LI l,.fn (.func g) [] [cap]] H (fun r H'=>r= .i (V6 f l)∧H'=H):=by
 refine El tOk Tryz.func106 rfl Tryz.results106 rfl (by simp[Tryz.ntmps106]) ?_;rw[Tryz.ntmps106];simp only[Qe];repeat first|(refine r_ ?_;simp)|refine q_ ?_
 refine Ql (Qb (sl':=[(0,LI l),(1,.fn (.func g) [] [cap]),(7,.i l.length),(8,.i 0)]) ?_ (by simp));refine Qm (F:=fun(j:Nat)=>⟨[(0,LI l),(1,.fn (.func g) [] [cap]),(7,.i l.length),(8,.i j)],H⟩)
  (fun j=>j≤l.length∧∀i,∀hi:i<l.length,i<j→f l[i]=false) (fun j=>l.length - j) ?_ 0 ⟨by simp,by simp⟩
 rintro j ⟨hj,hI⟩ ih;repeat first|(refine r_ ?_;simp)|refine q_ ?_
 refine Qa rfl (fun z7=> ?_) (fun z8=> ?_)
 ·have z1:j<l.length:=by simpa using z7
  have hw:IntKind.i64.wrap ((j:Int)+1)=j+1:=wrap_i64 _ (by omega) (by omega);repeat first|(refine r_ ?_;simp[z1])|refine q_ ?_
  refine Wd rfl rfl (hg _ (zG z1)) rfl ?_;rintro r H' ⟨rfl,rfl⟩;simp;repeat first|(refine r_ ?_;simp)|refine q_ ?_
  refine Qa rfl (fun h=> ?_) (fun h=> ?_)
  ·repeat first|(refine r_ ?_;simp)|refine q_ ?_
   rw[Hh z1 h hI]
  ·repeat first|(refine r_ ?_;simp[hw])|refine q_ ?_
   refine Qb (sl':=[(0,LI l),(1,.fn (.func g) [] [cap]),(7,.i l.length),(8,.i (j+1:Nat))]) (ih (j+1) ⟨by omega,fun i hi za=> ?_⟩ (by omega)) (by simp);by_cases e:i=j
   ·subst e;exact h
   ·exact hI i hi (by omega)
 ·have z6:j=l.length:=by simp at z8;omega
  subst z6;repeat first|(refine r_ ?_;simp)|refine q_ ?_
  rw[P2 hI]
theorem Ct(H:List AObj)(l:List Int)(g:Nat)(cap:AV)(f:Int→Bool)(hl:l.length≤1000000000)(hg:∀z∈l,FC Tryz.prog g [.i z,cap] H (fun r H'=>r= .bool (f z)∧H'=H)):
  FC Tryz.prog 47 [LI l,.fn (.func g) [] [cap]] H (fun r H'=>r= .bool (l.any f)∧H'=H):=by
 refine El tOk Tryz.func47 rfl Tryz.results47 rfl (by simp[Tryz.ntmps47]) ?_;rw[Tryz.ntmps47];simp only[Qe];repeat first|(refine r_ ?_;simp)|refine q_ ?_
 refine Wd rfl rfl (g0p H l g cap f hl hg) rfl ?_;rintro r H' ⟨rfl,rfl⟩;simp;repeat first|(refine r_ ?_;simp)|refine q_ ?_
 rw[←q0t]
def x2a(a:Aut)(s:Int):Bool:=decide (s<0) || decide ((a.fin.length:Int)≤s)
attribute [local irreducible] x2a
end Go.Abs
namespace Go.Abs
open Go Go.Proofs
attribute [simp] T4
def Yg(n:Nat)(f:Int→Bool):List AV:=(We n).map fun z=>AV.bool (f z)
theorem Tu(n:Nat)(f:Int→Bool):(Yg n f).length=n:=by simp[Yg,We]
theorem A9(n:Nat)(f:Int→Bool){i:Nat}(h:i<n):(Yg n f)[i]? =some (AV.bool (f i)):=by simp[Yg,We,h]
theorem Fi(n:Nat)(f:Int→Bool){i:Nat}(h:i<(Yg n f).length):(Yg n f)[i]=AV.bool (f i):=by have h2:=A9 n f (i:=i) (by rw[Tu]at h;exact h);rw[zD h]at h2;exact Option.some.inj h2
theorem Zr(n:Nat):zT n (AV.bool false)=Yg n (fun _=>false):=by
 refine xD fun i=> ?_;by_cases h:i<n
 ·rw[A9 n _ h];simp[h]
 ·rw[xE (by simp;omega),xE (by rw[Tu];omega)]
theorem N6(n:Nat)(f:Int→Bool)(s:Int)(h0:0≤s)(h1:s<n):(Yg n f).set s.toNat (AV.bool true)=Yg n (fun z=>f z || z==s):=by
 refine xD fun i=> ?_;by_cases h:i<n
 ·rw[A9 n _ h];by_cases e:s.toNat=i
  ·rw[e,zH (by rw[Tu];exact h)];have:((i:Int)==s)=true:=by simp;omega
   rw[this,Bool.or_true]
  ·rw[zB e,A9 n _ h];have:((i:Int)==s)=false:=beq_eq_false_iff_ne.2 (by omega);rw[this,Bool.or_false]
 ·rw[xE (by simp[Tu];omega),xE (by rw[Tu];omega)]
theorem It(n:Nat){f g:Int→Bool}(h:∀z,f z=g z):Yg n f=Yg n g:=by rw[show f=g from funext h]
attribute [local irreducible] Yg
theorem f04(a:Aut)(ha:OkA a)(l:List Int)(hl:∀s∈l,0≤s∧s<a.fin.length)(zf:l.length≤1000000):PC Tryz.prog 212 [encA a,LI l] (fun r=>r= .list (Yg a.fin.length fun z=>decide (z∈l))):=by
 refine Qh tOk Tryz.func212 rfl Tryz.results212 rfl (by simp[Tryz.ntmps212]) ?_;rw[Tryz.ntmps212];simp only[Qe];simp only[encA];have hf:=ha.fin;repeat first|(refine r_ ?_;simp)|refine q_ ?_
 refine Ef tOk rfl rfl rfl T22 rfl T4 rfl rfl rfl (n:=a.fin.length) (by simp;omega) (by unfold maxLen;omega) (.bool false) rfl ?_;simp;rw[Zr];repeat first|(refine r_ ?_;simp)|refine q_ ?_
 refine Ql (Qb (sl':=[(1,LI l),(5,.sl 1 1 0 a.fin.length),(6,.i 0)]) ?_ (by simp));refine Qm (F:=fun(j:Nat)=>⟨[(1,LI l),(5,.sl 1 1 0 a.fin.length),(6,.i j)],[.vars (Qp a),.arr 4 1 (Yg a.fin.length fun z=>decide (z∈l.take j))]⟩)
  (fun j=>j≤l.length) (fun j=>l.length - j) ?_ 0 (by simp)
 rintro j hj ih;repeat first|(refine r_ ?_;simp)|refine q_ ?_
 refine Qa rfl (fun zb=> ?_) (fun zc=> ?_)
 ·have z1:j<l.length:=by simpa using zb
  have hw:IntKind.i64.wrap ((j:Int)+1)=j+1:=wrap_i64 _ (by omega) (by omega);obtain⟨s0,s1⟩:=hl _ (zG z1);have za:=ih (j+1) (by omega) (by omega);have z6:=N6 a.fin.length (fun z=>decide (z∈l.take j)) l[j] s0 s1;have zd:Yg a.fin.length (fun z=>decide (z∈l.take (j+1)))=(Yg a.fin.length fun z=>decide (z∈l.take j)).set l[j].toNat (AV.bool true):=by rw[z6];exact It _ fun z=>by rw[zL z1,yX];simp[-List.take_append_getElem]
  rw[zd]at za;have z7:=Tu a.fin.length (fun z=>decide (z∈l.take j));have s2:l[j].toNat<a.fin.length:=by omega
  have ze:=fun(hh:l[j].toNat<(Yg a.fin.length (fun z=>decide (z∈l.take j))).length)=>Fi a.fin.length (fun z=>decide (z∈l.take j)) (i:=l[j].toNat) hh;generalize Yg a.fin.length (fun z=>decide (z∈l.take j))=bs at *
  repeat first|(refine r_ ?_;simp[z1,s0,s1,s2,z7,hw,ze])|refine q_ ?_
  exact Qb (sl':=[(1,LI l),(5,.sl 1 1 0 a.fin.length),(6,.i (j+1:Nat))]) za (by simp)
 ·have z8:j=l.length:=by simp at zc;omega
  subst z8;rw[zZ];have z7:=Tu a.fin.length (fun z=>decide (z∈l));generalize Yg a.fin.length (fun z=>decide (z∈l))=bs at *
  repeat first|(refine r_ ?_;simp[z7])|refine q_ ?_
  rw[zI (by omega)]
theorem N7(n:Nat)(f:Int→Bool):(We (n+1)).filter f=(We n).filter f++(if f n then [(n:Int)]else []):=by
 have:We (n+1)=We n++[(n:Int)]:=by simp[We,wT]
 rw[this,uX];cases h:f n<;>simp[h]
theorem x0n(n:Nat)(f:Int→Bool):((We n).filter f).length≤n:=by have:=wU f (We n);simpa[We]using this
def Uz(n:Nat)(f:Int→Bool):List Int:=(We n).filter f
attribute [local irreducible] Uz
theorem q05(n:Nat)(f:Int→Bool)(hn:n≤1000000):PC Tryz.prog 211 [.list (Yg n f)] (fun r=>r=LI (Uz n f)):=by
 refine Qh tOk Tryz.func211 rfl Tryz.results211 rfl (by simp[Tryz.ntmps211]) ?_;rw[Tryz.ntmps211];simp only[Qe];have z7:=Tu n f;repeat first|(refine r_ ?_;simp)|refine q_ ?_
 refine Q5 3 3 1 rfl ?_;simp;have h0:Uz 0 f=[]:=by unfold Uz;rfl
 refine Ql (Qb (sl':=[(0,.list (Yg n f)),(3,.sl 0 1 0 (Uz 0 f).length),(4,.i 0)]) ?_ (by simp[h0]));refine Qm (F:=fun(u:Nat×Nat×List AObj)=>⟨[(0,.list (Yg n f)),(3,.sl u.2.1 1 0 (Uz u.1 f).length),(4,.i u.1)],u.2.2⟩)
  (fun u=>u.1≤n∧u.2.2[u.2.1]? =some (.arr 3 1 ((Uz u.1 f).map (AV.int .i64)))) (fun u=>n - u.1) ?_ (0,0,[.arr 3 1 []]) ⟨by simp,by simp[h0]⟩
 rintro⟨j,q,H2⟩ ⟨hj,g⟩ ih;simp only at hj g ih ⊢;repeat first|(refine r_ ?_;simp[z7])|refine q_ ?_
 refine Qa rfl (fun za=> ?_) (fun zb=> ?_)
 ·have z1:j<n:=by simpa[z7]using za
  have hw:IntKind.i64.wrap ((j:Int)+1)=j+1:=wrap_i64 _ (by omega) (by omega);have hg:=A9 n f z1;have zc:Uz (j+1) f=Uz j f++(if f j then [(j:Int)]else []):=by unfold Uz;exact N7 j f
  have ze:(Uz j f).length≤j:=by unfold Uz;exact x0n j f
  have z6:=fun q' H'=>ih (j+1,q',H');simp only[zc]at z6;generalize Uz j f=acc at *
  have zd:=fun h=>Fi n f (i:=j) h;repeat first|(refine r_ ?_;simp[z7,z1,hg,zd])|refine q_ ?_
  cases hb:f j with
  |false=>
   rw[hb]at z6;refine Qq rfl ?_;simp[hb];repeat first|(refine r_ ?_;simp[hw])|refine q_ ?_
   exact Qb (sl':=[(0,.list (Yg n f)),(3,.sl q 1 0 acc.length),(4,.i (j+1:Nat))]) (by
    have:=z6 q H2 ⟨by omega,by simpa using g⟩ (by omega);simpa using this) (by simp)
  |true=>
   rw[hb]at z6;refine Qq rfl ?_;simp[hb];repeat first|(refine r_ ?_;simp)|refine q_ ?_
   refine Qf tOk rfl rfl T47 rfl T3 rfl (by decide) (by decide) rfl rfl rfl ?_;simp[Qc g,Qj g];refine⟨by simp[Ws,Qc g,Qj g]<;>omega,?_⟩;repeat first|(refine r_ ?_;simp[hw])|refine q_ ?_
   exact Qb (sl':=[(0,.list (Yg n f)),(3,.sl (H2.length+1) 1 0 (acc.length+1)),(4,.i (j+1:Nat))]) (by
    have:=z6 (H2.length+1) (H2.set q .dead++[.arr 3 1 [.i j],.arr 3 1 ((acc++[(j:Int)]).map (AV.int .i64))]) ⟨by omega,by simp only;rw[zC (by simp)];simp⟩ (by omega);simpa using this) (by simp)
 ·have z8:j=n:=by simp[z7]at zb;omega
  subst z8;repeat first|(refine r_ ?_;simp[g])|refine q_ ?_
  rw[zI (by simp)]
end Go.Abs
namespace Go.Abs
open Go Go.Proofs
def nxB(ms:List Mv)(f:Int→Bool)(x:Sy)(z:Int):Bool:=ms.any fun m=>f m.src && Rp m.on x && m.dst==z
theorem q0r(ms:List Mv)(f:Int→Bool)(x:Sy)(j:Nat)(h:j<ms.length)(z:Int):nxB (ms.take (j+1)) f x z=(nxB (ms.take j) f x z || (f ms[j].src && Rp ms[j].on x && ms[j].dst==z)):=by unfold nxB;rw[zL h,List.any_append];simp
theorem q0z(a:Aut)(l:List Int)(x:Sy):nxB a.mv (fun z=>decide (z∈l)) x=g0f a l x:=by
 funext z;unfold nxB g0f
 congr 1
 funext m;rw[yX];simp
attribute [local irreducible] Rp nxB
theorem A5(a:Aut)(ha:OkA a)(f:Int→Bool)(x:Sy):PC Tryz.prog 153 [encA a,.list (Yg a.fin.length f),encSy x] (fun r=>r= .list (Yg a.fin.length (nxB a.mv f x))):=by
 refine Qh tOk Tryz.func153 rfl Tryz.results153 rfl (by simp[Tryz.ntmps153]) ?_;rw[Tryz.ntmps153];simp only[Qe];simp only[encA,encSy];have hf:=ha.fin;have hm:=ha.mvs;have zb:=Tu a.fin.length f;repeat first|(refine r_ ?_;simp[zb])|refine q_ ?_
 refine Ef tOk rfl rfl rfl T22 rfl T4 rfl rfl rfl (n:=a.fin.length) (by simp;omega) (by unfold maxLen;omega) (.bool false) rfl ?_;simp;rw[Zr];repeat first|(refine r_ ?_;simp)|refine q_ ?_
 have h0:Yg a.fin.length (fun _=>false)=Yg a.fin.length (nxB (a.mv.take 0) f x):=It _ fun z=>by rw[wA];unfold nxB;rfl
 rw[h0];refine Ql (Qb (sl':=[(1,.list (Yg a.fin.length f)),(3,.vptr 0 0),(5,.vptr 1 0),(7,.sl 2 1 0 a.fin.length),(8,.i 0)]) ?_ (by simp));refine Qm (F:=fun(u:Nat×List AObj)=>⟨[(1,.list (Yg a.fin.length f)),(3,.vptr 0 0),(5,.vptr 1 0),(7,.sl 2 1 0 a.fin.length),(8,.i u.1)],u.2⟩)
  (fun u=>u.1≤a.mv.length∧u.2[0]? =some (.vars (Qp a))∧u.2[1]? =some (.vars [.i x.ty,.i x.num])∧u.2[2]? =some (.arr 4 1 (Yg a.fin.length (nxB (a.mv.take u.1) f x)))) (fun u=>a.mv.length - u.1) ?_ (0,_) ⟨by simp,rfl,rfl,rfl⟩
 rintro⟨j,H2⟩ ⟨hj,g0,g1,g2⟩ ih;simp only at hj g0 g1 g2 ih ⊢;repeat first|(refine r_ ?_;simp[g0])|refine q_ ?_
 refine Qa rfl (fun zg=> ?_) (fun zh=> ?_)
 ·have z1:j<a.mv.length:=by simpa using zg
  have hw:IntKind.i64.wrap ((j:Int)+1)=j+1:=wrap_i64 _ (by omega) (by omega);have zf:=ha.mv _ (zG z1);obtain⟨s0,s1⟩:=zf.src;obtain⟨d0,d1⟩:=zf.dst;have s2:a.mv[j].src.toNat<a.fin.length:=by omega
  have d2:a.mv[j].dst.toNat<a.fin.length:=by omega
  have zc:=N6 a.fin.length (nxB (a.mv.take j) f x) a.mv[j].dst d0 d1;have zd:((a.mv[j].src.toNat:Nat):Int)=a.mv[j].src:=by omega
  have z8:=fun(hh:a.mv[j].src.toNat<(Yg a.fin.length f).length)=>(Fi a.fin.length f (i:=a.mv[j].src.toNat) hh).trans (by rw[zd]);have zi:=fun(hh:a.mv[j].dst.toNat<(Yg a.fin.length (nxB (a.mv.take j) f x)).length)=>Fi a.fin.length (nxB (a.mv.take j) f x) (i:=a.mv[j].dst.toNat) hh;have zj:Yg a.fin.length (nxB (a.mv.take (j+1)) f x)=if f a.mv[j].src && Rp a.mv[j].on x then(Yg a.fin.length (nxB (a.mv.take j) f x)).set a.mv[j].dst.toNat (AV.bool true)else Yg a.fin.length (nxB (a.mv.take j) f x):=by
   split
   ·rename_i hc;rw[zc];exact It _ fun z=>by rw[q0r _ _ _ _ z1,hc,vJ];rw[show(a.mv[j].dst==z)=(z==a.mv[j].dst) from yX.2 (by simp only[beq_iff_eq];exact eq_comm)]
   ·rename_i hc;exact It _ fun z=>by rw[q0r _ _ _ _ z1,show(f a.mv[j].src && Rp a.mv[j].on x)=false by simpa using hc];simp
  have z6:=fun G'=>ih (j+1,G');simp only[zj]at z6;have z7:=Tu a.fin.length (nxB (a.mv.take j) f x);generalize Yg a.fin.length (nxB (a.mv.take j) f x)=bs at *
  have gL1:=fun L=>Qc g1 L;have gL2:=fun L=>Qc g2 L;have gL0:=fun L=>Qc g0 L;cases hb:f a.mv[j].src with
  |false=>
   rw[hb]at z8;repeat first|(refine r_ ?_;simp[g0,z1,s0,s1,s2,zb,z8,gL1])|refine q_ ?_
   refine Wb rfl rfl ?_;simp;refine Qq rfl ?_;repeat first|(refine r_ ?_;simp[hw])|refine q_ ?_
   rw[hb,up,if_neg (by simp)]at z6;exact Qb (sl':=[(1,.list (Yg a.fin.length f)),(3,.vptr 0 0),(5,.vptr 1 0),(7,.sl 2 1 0 a.fin.length),(8,.i (j+1:Nat))]) (z6 _ ⟨by omega,gL0 _,gL1 _,gL2 _⟩ (by omega)) (by simp)
  |true=>
   rw[hb]at z8;repeat first|(refine r_ ?_;simp[g0,z1,s0,s1,s2,zb,z8,gL1])|refine q_ ?_
   refine Qd rfl rfl (by simp) (q1p a.mv[j].on x (fun s hs=>by have:=v01 ha (zG z1) s hs;omega)) rfl ?_;rintro _ rfl;simp;cases za:Rp a.mv[j].on x with
   |false=>
    rw[hb,za,vJ,if_neg (by simp)]at z6;repeat first|(refine r_ ?_;simp[za])|refine q_ ?_
    refine Qq rfl ?_;repeat first|(refine r_ ?_;simp[hw])|refine q_ ?_
    exact Qb (sl':=[(1,.list (Yg a.fin.length f)),(3,.vptr 0 0),(5,.vptr 1 0),(7,.sl 2 1 0 a.fin.length),(8,.i (j+1:Nat))]) (z6 _ ⟨by omega,gL0 _,gL1 _,gL2 _⟩ (by omega)) (by simp)
   |true=>
    rw[hb,za,vJ,if_pos rfl]at z6;repeat first|(refine r_ ?_;simp[za])|refine q_ ?_
    refine Qq rfl ?_;repeat first|(refine r_ ?_;simp[gL1,gL2,d0,d1,d2,z7,zi,hw])|refine q_ ?_
    exact Qb (sl':=[(1,.list (Yg a.fin.length f)),(3,.vptr 0 0),(5,.vptr 1 0),(7,.sl 2 1 0 a.fin.length),(8,.i (j+1:Nat))]) (z6 _ ⟨by omega,Qg (by decide) (gL0 _) _,Qg (by decide) (gL1 _) _,Qo (gL2 _) _⟩ (by omega)) (by simp)
 ·have ze:j=a.mv.length:=by simp at zh;omega
  subst ze;rw[zZ]at g2;have z7:=Tu a.fin.length (nxB a.mv f x);repeat first|(refine r_ ?_;simp[g2,z7])|refine q_ ?_
  rw[zI (by omega)]
end Go.Abs
namespace Go.Abs
open Go Go.Proofs
theorem Ck(a:Aut)(l:List Int)(x:Sy):Uz a.fin.length (nxB a.mv (fun z=>decide (z∈l)) x)=Qu a l x:=by rw[q0z];unfold Uz Qu;rfl
attribute [local irreducible] nxB Uz F0
attribute [local irreducible] Em
theorem Hs(a:Aut)(hl:a.mv.length≤1000000):PC Tryz.prog 204 [encA a] (fun r=>r=LP (onA a)):=by
 refine Qh tOk Tryz.func204 rfl Tryz.results204 rfl (by simp[Tryz.ntmps204]) ?_;rw[Tryz.ntmps204];simp only[Qe];simp only[encA];repeat first|(refine r_ ?_;simp)|refine q_ ?_
 refine Q5 3 70 1 rfl ?_;simp;refine Ql (Qb (sl':=[(1,.vptr 0 0),(3,.sl 1 1 0 0),(4,.i 0)]) ?_ (by simp));obtain⟨K,hK⟩:∃K,K=[AObj.vars (Qp a)]:=⟨_,rfl⟩
 have za:K[0]? =some (AObj.vars (Qp a)):=by rw[hK];rfl
 have hst:=SL.start K 70 1;refine Qm (F:=fun(u:Nat×Nat×List AObj)=>⟨[(1,.vptr 0 0),(3,.sl u.2.1 1 0 u.1),(4,.i u.1)],u.2.2⟩)
  (fun u=>u.1≤a.mv.length∧SL K u.2.2 u.2.1 70 1 ((onA { a with mv:=a.mv.take u.1 }).map encP)) (fun u=>a.mv.length - u.1) ?_ (0,1,_) ⟨by simp,by rw[hK]at hst ⊢;exact hst⟩
 rintro⟨j,q,H2⟩ ⟨hj,g⟩ ih;simp only at hj g ih ⊢;have g0:=g.kp za;repeat first|(refine r_ ?_;simp[g0])|refine q_ ?_
 refine Qa rfl (fun zc=> ?_) (fun zd=> ?_)
 ·have z1:j<a.mv.length:=by simpa using zc
  have hw:IntKind.i64.wrap ((j:Int)+1)=j+1:=wrap_i64 _ (by omega) (by omega);have ze:(onA { a with mv:=a.mv.take (j+1) }).map encP=(onA { a with mv:=a.mv.take j }).map encP++[encP a.mv[j].on]:=by
   have e:onA { a with mv:=a.mv.take (j+1) }=onA { a with mv:=a.mv.take j }++[a.mv[j].on]:=by
    show(a.mv.take (j+1)).map (·.on)=(a.mv.take j).map (·.on)++[a.mv[j].on]
    rw[zL z1,yG];rfl
   rw[e,yG];rfl
  have z6:((onA { a with mv:=a.mv.take j }).map encP).length=j:=by unfold onA;simp;omega
  have zb:=fun q' H'=>ih (j+1,q',H');simp only[ze]at zb;generalize (onA { a with mv:=a.mv.take j }).map encP=acc at *
  have gL:=fun L=>g.at za L;repeat first|(refine r_ ?_;simp[g0,z1])|refine q_ ?_
  refine Qf tOk rfl rfl T87 rfl T70 rfl (by decide) (by decide) rfl rfl rfl ?_;simp[Qc g.arr,Qj g.arr,z6];refine⟨by simp[Ws,Qc g.arr,Qj g.arr,z6]<;>omega,?_⟩;repeat first|(refine r_ ?_;simp[gL,hw])|refine q_ ?_
  exact Qb (sl':=[(1,.vptr 0 0),(3,.sl (H2.length+1) 1 0 (j+1)),(4,.i (j+1:Nat))]) (zb (H2.length+1) _ ⟨by omega,g.put [AObj.arr 70 1 [encP a.mv[j].on]] _ rfl⟩ (by omega)) (by simp)
 ·have z8:j=a.mv.length:=by simp at zd;omega
  subst z8;have e:({ a with mv:=a.mv.take a.mv.length }:Aut)=a:=by rw[zZ]
  rw[e]at g;have z6:((onA a).map encP).length=a.mv.length:=by simp[onA]
  have ga:=g.arr;obtain⟨acc,z7⟩:∃acc,acc=(onA a).map encP:=⟨_,rfl⟩
  rw[←z7]at ga z6;repeat first|(refine r_ ?_;simp[ga,z6])|refine q_ ?_
  rw[zI (by omega),z7]
end Go.Abs
namespace Go.Abs
open Go Go.Proofs
theorem d0a{α:Type}{a b:List α}(h:a.length=b.length)(hi:∀i,∀h1:i<a.length,∀h2:i<b.length,a[i]=b[i]):a=b:=xQ h hi
theorem q18(a b:List Int):PC Tryz.prog 249 [LI a,LI b] (fun r=>r= .bool (decide (a=b))):=by
 refine Qh tOk Tryz.func249 rfl Tryz.results249 rfl (by simp[Tryz.ntmps249]) ?_;rw[Tryz.ntmps249];simp only[Qe];refine R9 0 rfl (fun hlen=> ?_);rw[zV]at hlen;repeat first|(refine r_ ?_;simp)|refine q_ ?_
 refine Qa rfl (fun h=> ?_) (fun h=> ?_)
 ·repeat first|(refine r_ ?_;simp)|refine q_ ?_
  intro e;subst e;simp at h
 have hl:a.length=b.length:=by simp at h;omega
 repeat first|(refine r_ ?_;simp)|refine q_ ?_
 refine Qs a.length (fun j=>∀i,i<j→∀h1:i<a.length,∀h2:i<b.length,a[i]=b[i]) (fun j=>[(0,LI a),(1,LI b),(5,.i j)]) (fun _=>[]) rfl (by simp) (by simp) (by simp) (by simp) (by simp) ?_;intro j hj hI ih;repeat first|(refine r_ ?_;simp)|refine q_ ?_
 refine Qa rfl (fun z7=> ?_) (fun z8=> ?_)
 ·have z1:j<a.length:=by simpa using z7
  have za:j<b.length:=by omega
  have hw:IntKind.i64.wrap ((j:Int)+1)=j+1:=wrap_i64 _ (by omega) (by omega);repeat first|(refine r_ ?_;simp)|refine q_ ?_
  refine Qn tOk mixed [] (.val 0 (.val 1 (.val 2 (.val 3 (.val 4 (.val 5 (.val 6 (.val 7 (.val 8 (.done)))))))))) rfl (by kernel_rfl) ?_;simp[z1,za];refine Qa rfl (fun h3=> ?_) (fun h3=> ?_)
  ·repeat first|(refine r_ ?_;simp)|refine q_ ?_
   intro e;subst e;simp at h3
  ·repeat first|(refine r_ ?_;simp[hw])|refine q_ ?_
   refine Qr _ (ih z1 (fun i hi h1 h2=> ?_)) rfl (by simp) ?_ (by simp) (by simp)
   ·by_cases e:i=j
    ·subst e;simpa using h3
    ·exact hI i (by omega) h1 h2
   ·simp
 ·have z6:j=a.length:=by simp at z8;omega
  subst z6;repeat first|(refine r_ ?_;simp)|refine q_ ?_
  exact d0a hl (fun i h1 h2=>hI i h1 h1 h2)
abbrev LLI (l:List (List Int)):AV:= .list (l.map fun x=>LI x)
theorem M8(l:List (List Int))(x:List Int):PC Tryz.prog 210 [LLI l,LI x] (fun r=>r= .i (V6 (fun y=>decide (y=x)) l)):=by
 refine Qh tOk Tryz.func210 rfl Tryz.results210 rfl (by simp[Tryz.ntmps210]) ?_;rw[Tryz.ntmps210];simp only[Qe];refine R9 0 rfl (fun hlen=> ?_);rw[zV]at hlen;repeat first|(refine r_ ?_;simp)|refine q_ ?_
 refine Qs l.length (fun j=>∀i,∀hi:i<l.length,i<j→decide (l[i]=x)=false) (fun j=>[(0,LLI l),(1,LI x),(5,.i j)]) (fun _=>[]) rfl (by simp) (by simp) (by simp) (by simp) (by simp) ?_;intro j hj hI ih;repeat first|(refine r_ ?_;simp)|refine q_ ?_
 refine Qa rfl (fun z7=> ?_) (fun z8=> ?_)
 ·have z1:j<l.length:=by simpa using z7
  have hw:IntKind.i64.wrap ((j:Int)+1)=j+1:=wrap_i64 _ (by omega) (by omega);repeat first|(refine r_ ?_;simp[z1])|refine q_ ?_
  refine Qd rfl rfl (by simp) (q18 l[j] x) rfl ?_;rintro _ rfl;simp;repeat first|(refine r_ ?_;simp)|refine q_ ?_
  refine Qa rfl (fun h=> ?_) (fun h=> ?_)
  ·repeat first|(refine r_ ?_;simp)|refine q_ ?_
   rw[Hh (f:=fun y=>decide (y=x)) z1 h hI]
  ·repeat first|(refine r_ ?_;simp[hw])|refine q_ ?_
   refine Qr _ (ih z1 (fun i hi za=> ?_)) rfl (by simp) ?_ (by simp) (by simp)
   ·by_cases e:i=j
    ·subst e;exact h
    ·exact hI i hi (by omega)
   ·simp
 ·have z6:j=l.length:=by simp at z8;omega
  subst z6;repeat first|(refine r_ ?_;simp)|refine q_ ?_
  rw[P2 (f:=fun y=>decide (y=x)) hI]
end Go.Abs
namespace Go.Abs
open Go Go.Proofs
theorem Nw(l:List Mv)(to:Int):PC Tryz.prog 213 [.list (l.map encMv),.i to] (fun r=>r= .i (V6 (fun m:Mv=>m.dst==to) l)):=by
 refine Qh tOk Tryz.func213 rfl Tryz.results213 rfl (by simp[Tryz.ntmps213]) ?_;rw[Tryz.ntmps213];simp only[Qe];refine R9 0 rfl (fun hlen=> ?_);rw[zV]at hlen;repeat first|(refine r_ ?_;simp)|refine q_ ?_
 refine Qs l.length (fun j=>∀i,∀hi:i<l.length,i<j→(l[i].dst==to)=false) (fun j=>[(0,.list (l.map encMv)),(1,.i to),(5,.i j)]) (fun _=>[]) rfl (by simp) (by simp) (by simp) (by simp) (by simp) ?_;intro j hj hI ih;repeat first|(refine r_ ?_;simp)|refine q_ ?_
 refine Qa rfl (fun z7=> ?_) (fun z8=> ?_)
 ·have z1:j<l.length:=by simpa using z7
  have hw:IntKind.i64.wrap ((j:Int)+1)=j+1:=wrap_i64 _ (by omega) (by omega);repeat first|(refine r_ ?_;simp[z1])|refine q_ ?_
  refine Qa rfl (fun h=> ?_) (fun h=> ?_)
  ·repeat first|(refine r_ ?_;simp)|refine q_ ?_
   rw[Hh (f:=fun m:Mv=>m.dst==to) z1 h hI]
  ·repeat first|(refine r_ ?_;simp[hw])|refine q_ ?_
   refine Qr _ (ih z1 (fun i hi za=> ?_)) rfl (by simp) ?_ (by simp) (by simp)
   ·by_cases e:i=j
    ·subst e;exact h
    ·exact hI i hi (by omega)
   ·simp
 ·have z6:j=l.length:=by simp at z8;omega
  subst z6;repeat first|(refine r_ ?_;simp)|refine q_ ?_
  rw[P2 (f:=fun m:Mv=>m.dst==to) hI]
theorem B5(a:Aut):PC Tryz.prog 215 [encA a] (fun r=>r= .tup [encA (q1f a).2,.i (q1f a).1]):=by
 refine Qh tOk Tryz.func215 rfl Tryz.results215 rfl (by simp[Tryz.ntmps215]) ?_;rw[Tryz.ntmps215];simp only[Qe];simp only[encA];repeat first|(refine r_ ?_;simp)|refine q_ ?_
 refine Qd rfl rfl (by simp) (I9 a) rfl ?_;rintro _ rfl;simp;repeat first|(refine r_ ?_;simp)|refine q_ ?_
 refine Qa rfl (fun h=> ?_) (fun h=> ?_)
 ·repeat first|(refine r_ ?_;simp)|refine q_ ?_
  rw[q1f,if_pos (by simpa using h)];simp[Ov]
 ·repeat first|(refine r_ ?_;simp)|refine q_ ?_
  rw[q1f,if_neg (by simpa using h)];simp
theorem f0k(a:Aut)(l:List Int)(hl:∀s∈l,0≤s∧s<a.fin.length)(zb:l.length≤1000000):PC Tryz.prog 209 [encA a,LI l] (fun r=>r= .bool (Th a l)):=by
 refine Qh tOk Tryz.func209 rfl Tryz.results209 rfl (by simp[Tryz.ntmps209]) ?_;rw[Tryz.ntmps209];simp only[Qe];simp only[encA];obtain⟨R,hR⟩:∃R,Th a l=R:=⟨_,rfl⟩
 rw[hR];repeat first|(refine r_ ?_;simp)|refine q_ ?_
 refine Qs l.length (fun j=>Th a (l.drop j)=R) (fun j=>[(1,LI l),(2,.vptr 0 0),(5,.i j)]) (fun _=>[.vars (Qp a)]) rfl (by simp) (by simp) (by simp) (by simp) (by simpa using hR) ?_;intro j hj hI ih;repeat first|(refine r_ ?_;simp)|refine q_ ?_
 refine Qa rfl (fun z8=> ?_) (fun za=> ?_)
 ·have z1:j<l.length:=by simpa using z8
  have hw:IntKind.i64.wrap ((j:Int)+1)=j+1:=wrap_i64 _ (by omega) (by omega);obtain⟨s0,s1⟩:=hl _ (zG z1);have s2:l[j].toNat<a.fin.length:=by omega
  rw[Wu z1]at hI;have z6:(a.fin[l[j].toNat] || Th a (l.drop (j+1)))=R:=by
   have h1:Th a (l[j]::l.drop (j+1))=(a.fin.getD l[j].toNat false || Th a (l.drop (j+1))):=rfl;have h2:a.fin.getD l[j].toNat false=a.fin[l[j].toNat]:=by simp[yQ,s2]
   rw[←h2,←h1];exact hI
  repeat first|(refine r_ ?_;simp)|refine q_ ?_
  refine Qn tOk mixed [] (.val 0 (.val 1 (.val 2 (.val 3 (.val 4 (.val 5 (.val 6 (.val 7 (.done))))))))) rfl (by kernel_rfl) ?_;simp[z1,s0,s1,s2];refine Qa rfl (fun h=> ?_) (fun h=> ?_)
  ·repeat first|(refine r_ ?_;simp)|refine q_ ?_
   rw[h,Bool.true_or]at z6;exact z6.symm
  ·rw[h,uN]at z6;repeat first|(refine r_ ?_;simp[hw])|refine q_ ?_
   refine Qr _ (ih z1 z6) rfl (by simp) ?_ (by simp) (by simp);simp
 ·have z7:j=l.length:=by simp at za;omega
  subst z7;repeat first|(refine r_ ?_;simp)|refine q_ ?_
  rw[←hI,yU];rfl
end Go.Abs
namespace Go.Abs
open Go Go.Proofs
def z2m(a:Aut)(s:Int)(j:Nat):Prd:=(d0t { a with mv:=a.mv.take j } s).foldl (fun r p=>Wj r (W8 p)) (Wh a.types.toNat)
theorem c0x{T:Nat}{p:Prd}(hp:PWf T p){m:Nat}(h2:∀t∈p,t.length≤m):∀x∈W8 p,x.length≤m+1:=fun x hx=>by obtain⟨y,hy,rfl⟩:=zM.1 hx;have:=d04 (hp.2 y hy).1 (hp.2 y hy).2;have:=h2 y hy;omega
attribute [local irreducible] z2m Wj W8 Wh Wp
end Go.Abs
namespace Go.Abs
open Go Go.Proofs
attribute [local irreducible] z07 Wp
end Go.Abs
namespace Go.Abs
open Go Go.Proofs
theorem y02{p:Prd}{i:Nat}(h:i<p.length)(hv:¬(p[i].length≤12)):y17 p=false:=by rw[wS,Ne,q02];exact fun k=>hv (k.2 _ (zG h))
theorem z1u(p:Prd):PC Tryz.prog 78 [encP p] (fun r=>r= .bool (y17 p)):=by
 refine Qh tOk Tryz.func78 rfl Tryz.results78 rfl (by simp[Tryz.ntmps78]) ?_;rw[Tryz.ntmps78];simp only[Qe];simp only[encP];refine Wk 0 0 rfl rfl (fun hlen=> ?_);rw[zV]at hlen;repeat first|(refine r_ ?_;simp)|refine q_ ?_
 refine Qs p.length (fun j=>j≤5∧∀i,∀hi:i<p.length,i<j→p[i].length≤12) (fun j=>[(1,.vptr 0 0),(3,.i j)]) (fun _=>[.vars [.list (p.map encL)]]) rfl (by simp) (by simp) (by simp) (by simp) (by simp) ?_;rintro j hj ⟨za,hI⟩ ih;repeat first|(refine r_ ?_;simp)|refine q_ ?_
 refine Qa rfl (fun z6=> ?_) (fun z7=> ?_)
 ·have z1:j<p.length:=by simp at z6;omega
  have zb:j<5:=by simp at z6;omega
  have hw:IntKind.i64.wrap ((j:Int)+1)=j+1:=wrap_i64 _ (by omega) (by omega);repeat first|(refine r_ ?_;simp[z1])|refine q_ ?_
  refine Qd rfl rfl (by simp) (g1y p[j]) rfl ?_;rintro _ rfl;simp;repeat first|(refine r_ ?_;simp)|refine q_ ?_
  refine Qa rfl (fun he=> ?_) (fun he=> ?_)
  ·repeat first|(refine r_ ?_;simp)|refine q_ ?_
   rw[y02 z1 (by simp at he;omega)]
  ·repeat first|(refine r_ ?_;simp[hw])|refine q_ ?_
   refine Qr [] (ih z1 ⟨by omega,fun i hi zc=> ?_⟩) rfl (by simp) ?_ (by simp) (by simp)
   ·by_cases e:i=j
    ·subst e;simp at he;omega
    ·exact hI i hi (by omega)
   ·simp
 ·have z8:p.length≤j∨5≤j:=by simp at z7;omega
  repeat first|(refine r_ ?_;simp)|refine q_ ?_
  rw[yX,q02,decide_eq_true_eq];constructor
  ·intro h4;refine⟨by omega,fun s hs=> ?_⟩;obtain⟨i,hi,rfl⟩:=yC hs;exact hI i hi (by omega)
  ·intro h4;omega
end Go.Abs
namespace Go.Abs
open Go Go.Proofs
theorem C4{a:Aut}:x1e a=true↔a.fin.length≤8∧a.mv.length≤16∧∀m∈a.mv,y17 m.on=true:=by simp only[x1e,zR,decide_eq_true_eq,zP,and_assoc]
attribute [local irreducible] y17
theorem d0m(a:Aut):PC Tryz.prog 27 [encA a] (fun r=>r= .bool (x1e a)):=by
 refine Qh tOk Tryz.func27 rfl Tryz.results27 rfl (by simp[Tryz.ntmps27]) ?_;rw[Tryz.ntmps27];simp only[Qe];simp only[encA];refine Wk 0 2 rfl rfl (fun hlen=> ?_);rw[zV]at hlen;repeat first|(refine r_ ?_;simp)|refine q_ ?_
 refine Qs a.mv.length (fun j=>j≤20∧∀i,∀hi:i<a.mv.length,i<j→y17 a.mv[i].on=true) (fun j=>[(1,.vptr 0 0),(3,.i j)]) (fun _=>[.vars (Qp a)]) rfl (by simp) (by simp) (by simp) (by simp) (by simp) ?_;rintro j hj ⟨za,hI⟩ ih;repeat first|(refine r_ ?_;simp)|refine q_ ?_
 refine Qa rfl (fun z6=> ?_) (fun z7=> ?_)
 ·have z1:j<a.mv.length:=by simp at z6;omega
  have zb:j<20:=by simp at z6;omega
  have hw:IntKind.i64.wrap ((j:Int)+1)=j+1:=wrap_i64 _ (by omega) (by omega);repeat first|(refine r_ ?_;simp[z1])|refine q_ ?_
  refine Qd rfl rfl (by simp) (z1u a.mv[j].on) rfl ?_;rintro _ rfl;simp;repeat first|(refine r_ ?_;simp)|refine q_ ?_
  refine Qa rfl (fun he=> ?_) (fun he=> ?_)
  ·repeat first|(refine r_ ?_;simp)|refine q_ ?_
   have:x1e a=false:=by rw[wS,Ne,C4];intro k;have:=k.2.2 _ (zG z1);rw[this]at he;cases he
   rw[this]
  ·repeat first|(refine r_ ?_;simp[hw])|refine q_ ?_
   refine Qr [] (ih z1 ⟨by omega,fun i hi zc=> ?_⟩) rfl (by simp) ?_ (by simp) (by simp)
   ·by_cases e:i=j
    ·subst e;simpa using he
    ·exact hI i hi (by omega)
   ·simp
 ·have z8:a.mv.length≤j∨20≤j:=by simp at z7;omega
  repeat first|(refine r_ ?_;simp)|refine q_ ?_
  rw[yX,C4];simp;constructor
  ·rintro⟨h4,h5⟩;refine⟨by omega,by omega,fun m hm=> ?_⟩;obtain⟨i,hi,rfl⟩:=yC hm;exact hI i hi (by omega)
  ·rintro⟨h4,h5,_⟩;omega
end Go.Abs
namespace Go.Abs
open Go Go.Proofs
end Go.Abs
namespace Go.Abs
open Go Go.Proofs
theorem d0x(p:Prd)(g:Nat)(f:List Iv→Bool)(hg:∀s,PC Tryz.prog g [LIv s] (fun r=>r= .bool (f s))):
  PC Tryz.prog 176 [.list (p.map encL),.fn (.func g) [] []] (fun r=>r= .i (V6 f p)):=by
 refine Qh tOk Tryz.func176 rfl Tryz.results176 rfl (by simp[Tryz.ntmps176]) ?_;rw[Tryz.ntmps176];simp only[Qe];refine R9 0 rfl (fun hlen=> ?_);rw[zV]at hlen;repeat first|(refine r_ ?_;simp)|refine q_ ?_
 refine Qs p.length (fun j=>∀i,∀hi:i<p.length,i<j→f p[i]=false) (fun j=>[(0,.list (p.map encL)),(1,.fn (.func g) [] []),(7,.i p.length),(8,.i j)]) (fun _=>[]) rfl (by simp) (by simp) (by simp) (by simp) (by simp) ?_;intro j hj hI ih;repeat first|(refine r_ ?_;simp)|refine q_ ?_
 refine Qa rfl (fun z7=> ?_) (fun z8=> ?_)
 ·have z1:j<p.length:=by simpa using z7
  have hw:IntKind.i64.wrap ((j:Int)+1)=j+1:=wrap_i64 _ (by omega) (by omega);repeat first|(refine r_ ?_;simp[z1])|refine q_ ?_
  refine Qd rfl rfl (by simp) (hg p[j]) rfl ?_;rintro _ rfl;simp;repeat first|(refine r_ ?_;simp)|refine q_ ?_
  refine Qa rfl (fun h=> ?_) (fun h=> ?_)
  ·repeat first|(refine r_ ?_;simp)|refine q_ ?_
   rw[Hh z1 h hI]
  ·repeat first|(refine r_ ?_;simp[hw])|refine q_ ?_
   refine Qr [] (ih z1 (fun i hi za=> ?_)) rfl (by simp) ?_ (by simp) (by simp)
   ·by_cases e:i=j
    ·subst e;exact h
    ·exact hI i hi (by omega)
   ·simp
 ·have z6:j=p.length:=by simp at z8;omega
  subst z6;repeat first|(refine r_ ?_;simp)|refine q_ ?_
  rw[P2 hI]
theorem Xm(p:Prd)(g:Nat)(f:List Iv→Bool)(hg:∀s,PC Tryz.prog g [LIv s] (fun r=>r= .bool (f s))):
  PC Tryz.prog 111 [.list (p.map encL),.fn (.func g) [] []] (fun r=>r= .bool (p.any f)):=by
 refine Qh tOk Tryz.func111 rfl Tryz.results111 rfl (by simp[Tryz.ntmps111]) ?_;rw[Tryz.ntmps111];simp only[Qe];repeat first|(refine r_ ?_;simp)|refine q_ ?_
 refine Qd rfl rfl (by simp) (d0x p g f hg) rfl ?_;rintro _ rfl;simp;repeat first|(refine r_ ?_;simp)|refine q_ ?_
 rw[←q0t]
theorem k18(s:List Iv):PC Tryz.prog 112 [LIv s] (fun r=>r= .bool (decide (256<s.length))):=by
 refine Qh tOk Tryz.func112 rfl Tryz.results112 rfl (by simp[Tryz.ntmps112]) ?_;rw[Tryz.ntmps112];simp only[Qe];repeat first|(refine r_ ?_;simp)|refine q_ ?_
 omega
def y15(m:Mv):Bool:=m.on.any fun s=>decide (256<s.length)
theorem Nz(a:Aut):Z5 a=(decide (256<a.fin.length) || decide (2048<a.mv.length) || a.mv.any y15):=rfl
attribute [local irreducible] y15
end Go.Abs
namespace Go.Abs
open Go Go.Proofs
abbrev LSy (w:List Sy):AV:= .list (w.map encSy)
def v2r(a:Aut)(w:List Sy)(z:Int):Bool:=decide (z∈Oi a [0] w)
theorem w27(a:Aut)(l:List Int)(x:Sy):Yg a.fin.length (nxB a.mv (fun z=>decide (z∈l)) x)=Yg a.fin.length (fun z=>decide (z∈Qu a l x)):=by
 rw[q0z];unfold Yg;refine List.map_congr_left fun z hz=> ?_;have z1:=Wo.1 hz
 congr 1
 rw[yX,decide_eq_true_eq];unfold Qu;rw[List.mem_filter];exact⟨fun h=>⟨hz,h⟩,fun h=>h.2⟩
attribute [local irreducible] Yg nxB
end Go.Abs
namespace Go.Abs
open Go Go.Proofs
def V5(T:Int):List Sy→Int
 |[]=>0
 |x::r=>if F0 T x≠0 then F0 T x else V5 T r
def d02(a:Aut)(w:List Sy):Int:=if Wl a≠0 then Wl a else if 4096<w.length then 5 else V5 a.types w
def d01(a:Aut)(w:List Sy):Bool×Int:=if d02 a w≠0 then(false,d02 a w)else(Yl a w,0)
theorem Lp{T:Int}:∀(w:List Sy),V5 T w=0↔∀x∈w,F0 T x=0
 |[]=>by simp[V5]
 |x::r=>by
  rw[V5];by_cases h:F0 T x=0
  ·rw[if_neg (fun k=>k h),Lp r];simp[h]
  ·rw[if_pos h];exact⟨fun k=>absurd k h,fun k=>absurd (k x (by simp)) h⟩
attribute [local irreducible] F0 Yl
end Go.Abs
namespace Go.Abs
open Go Go.Proofs
def Uy:List Iv:=[⟨-1099511627776,1099511627776⟩]
theorem x03:Ed []=Uy:=by simp[Ed,Rw,Uy]
theorem w1j:PC Tryz.prog 101 [] (fun r=>r=LIv Uy):=by
 refine Qh tOk Tryz.func101 rfl Tryz.results101 rfl (by simp[Tryz.ntmps101]) ?_;rw[Tryz.ntmps101];simp only[Qe];repeat first|(refine r_ ?_;simp)|refine q_ ?_
 simp[Uy]
theorem u1h(n:Int):PC Tryz.prog 100 [.i n] (fun r=>r= .tup [LIv Uy,.i 0]):=by
 refine Qh tOk Tryz.func100 rfl Tryz.results100 rfl (by simp[Tryz.ntmps100]) ?_;rw[Tryz.ntmps100];simp only[Qe];repeat first|(refine r_ ?_;simp)|refine q_ ?_
 refine Qd rfl rfl (by simp) (w1j) rfl ?_;rintro _ rfl;simp;repeat first|(refine r_ ?_;simp)|refine q_ ?_
end Go.Abs
namespace Go.Abs
open Go Go.Proofs
attribute [local irreducible] upL Uy
theorem x04(T:Nat)(hT:T≤1000):PC Tryz.prog 99 [.i T,.fn (.func 100) [] []] (fun r=>r= .tup [encP (zT T Uy),.i 0]):=by
 refine Qh tOk Tryz.func99 rfl Tryz.results99 rfl (by simp[Tryz.ntmps99]) ?_;rw[Tryz.ntmps99];simp only[Qe];simp only[encP];repeat first|(refine r_ ?_;simp)|refine q_ ?_
 refine Ej 1 0 145 1 rfl rfl ?_;simp;obtain⟨K,hK⟩:∃K,K=[AObj.vars [AV.nils],AObj.vars [AV.nils]]:=⟨_,rfl⟩
 have hst:=GL.start (K:=K) (S:=1) [] [] 145 1 (by rw[hK];simp);refine Ql (Qb (sl':=[(1,.fn (.func 100) [] []),(4,.vptr 0 0),(6,.vptr 1 0),(10,.i T),(11,.i 0)]) ?_ (by simp));refine Qm (F:=fun(u:Nat×Nat×List AObj)=>⟨[(1,.fn (.func 100) [] []),(4,.vptr 0 0),(6,.vptr 1 0),(10,.i T),(11,.i u.1)],u.2.2⟩)
  (fun u=>u.1≤T∧GL K u.2.2 1 u.2.1 [] [] 145 1 (upL (fun _=>Uy) u.1)) (fun u=>T - u.1) ?_ (0,K.length,_) ⟨by simp,by rw[Ak,hK]at *;exact hst⟩
 rintro⟨j,q,H2⟩ ⟨hj,g⟩ ih;simp only at hj g ih ⊢;have gR:H2[0]? =some (AObj.vars [AV.nils]):=g.kp (by decide) (by rw[hK];rfl);have g2:=g.cell;have g3:=g.arr;rw[Wx]at g2;simp only[xP]at g2;repeat first|(refine r_ ?_;simp)|refine q_ ?_
 refine Qa rfl (fun zd=> ?_) (fun ze=> ?_)
 ·have zf:j<T:=by simpa using zd
  have hw:IntKind.i64.wrap ((j:Int)+1)=j+1:=wrap_i64 _ (by omega) (by omega);repeat first|(refine r_ ?_;simp)|refine q_ ?_
  refine Qd rfl rfl (by simp) (u1h j) rfl ?_;rintro _ rfl;simp;repeat first|(refine r_ ?_;simp)|refine q_ ?_
  refine Qq rfl ?_;have z6:∀L:List AObj,(H2.set q .dead++L)[1]? =some (AObj.vars [AV.sl q 1 0 j]):=fun L=>by have:=g.at L;rw[Wx]at this;exact this
  have z8:∀(L:List AObj) (h:1<(H2.set q .dead++L).length),(H2.set q .dead++L)[1]'h=AObj.vars [AV.sl q 1 0 j]:=fun L h=>by have:=z6 L;rw[zD h]at this;exact Option.some.inj this
  have za:=fun A y=>g.put A y (Wx _ _).symm;have zg:upL (fun _=>Uy) j++[encL Uy]=upL (fun _=>Uy) (j+1):=(Al _ _).symm;have z1:=fun H=>ih (j+1,H2.length+1,H);have z7:=Wx (fun _=>Uy) j;simp only[←zg]at z1;repeat first|(refine r_ ?_;simp[g2])|refine q_ ?_
  generalize upL (fun _=>Uy) j=xs at *
  refine Qf tOk rfl rfl T68 rfl Pp rfl (by decide) (by decide) rfl rfl rfl ?_;simp[Qc g3,Qj g3,z7,z6,z8];refine⟨by simp[Ws,Qc g3,Qj g3,z7,z6,z8]<;>omega,?_⟩;repeat first|(refine r_ ?_;simp[g2,hw,z6,z8])|refine q_ ?_
  refine Qb (sl':=[(1,.fn (.func 100) [] []),(4,.vptr 0 0),(6,.vptr 1 0),(10,.i T),(11,.i (j+1:Nat))]) (z1 _ ⟨by omega,za _ _⟩ (by omega)) ?_;simp
 ·have zb:j=T:=by simp at ze;omega
  subst zb;have hS:=(zA.1 g2).1;have zh:q≠0∧q≠1:=by have:=g.ge;rw[hK]at this;simp at this;omega
  have z7:=Wx (fun _=>Uy) j;have zc: .list (upL (fun _=>Uy) j)=AV.list ((zT j Uy).map encL):=by rw[Hx];simp[Function.comp_def,vG]
  generalize upL (fun _=>Uy) j=xs at *
  refine Wi q g3 1 g2 ?_;have k1:∀X,((H2.set q .dead).set 1 X)[0]? =some (AObj.vars [AV.nils]):=fun X=>Qg (by decide) (Qg zh.1 gR _) _;have k2:∀X,((H2.set q .dead).set 1 X)[1]? =some X:=fun X=>zH (by simpa using hS);have k3:∀X Y,(((H2.set q .dead).set 1 X).set 0 Y)[0]? =some Y:=fun X Y=>Qo (k1 X) _;simp[z7];rw[zI (by omega)];repeat first|(refine r_ ?_;simp[k1,k2,k3])|refine q_ ?_
  have h2:=AV.list.inj zc;rw[List.map_replicate]at h2;exact h2
theorem j06(T:Int)(h1:1≤T)(h2:T≤16):PC Tryz.prog 42 [.i T] (fun r=>r= .tup [encP (Wh T.toNat),.i 0]):=by
 refine Qh tOk Tryz.func42 rfl Tryz.results42 rfl (by simp[Tryz.ntmps42]) ?_;rw[Tryz.ntmps42];simp only[Qe];simp only[encP];have hw:Wh T.toNat=zT T.toNat Uy:=by rw[Wh,x03]
 have hT:((T.toNat:Nat):Int)=T:=by omega
 have hc:=x04 T.toNat (by omega);rw[hT]at hc;have n1:¬T<1:=by omega
 have n2:¬16<T:=by omega
 rw[hw];repeat first|(refine r_ ?_;simp[n1,n2])|refine q_ ?_
 refine Qa rfl (fun h=> ?_) (fun h=> ?_)
 ·simp at h
 repeat first|(refine r_ ?_;simp)|refine q_ ?_
 refine Qd rfl rfl (by simp) (hc) rfl ?_;rintro _ rfl;simp;repeat first|(refine r_ ?_;simp)|refine q_ ?_
end Go.Abs
namespace Go.Abs
open Go Go.Proofs
attribute [local irreducible] H4
theorem u02(p:Prd):PC Tryz.prog 125 [encP p] (fun r=>r= .fn (.func 188) [] [.iptr [.list (p.map encL)]]):=by refine Qh tOk Tryz.func125 rfl Tryz.results125 rfl (by simp[Tryz.ntmps125]) ?_;rw[Tryz.ntmps125];simp only[Qe];simp only[encP];repeat first|(refine r_ ?_;simp)|refine q_ ?_
theorem z0a(p:Prd)(h0:H4 [p]=0)(hv:Wp p=false):PC Tryz.prog 64 [encP p] (fun r=>r= .tup [encSy (Qk p),.i 0]):=by
 have hlen:p.length≤16:=by
  unfold H4 at h0;by_cases hc:Em p.length p=0
  ·have:=((W9 _ p).1 hc).1;omega
  ·rw[if_pos hc]at h0;exact absurd h0 hc
 obtain⟨t,x,rr,h1,h2,h3⟩:∃t x r,p[t]? =some (x::r)∧Qw p 0=(0+t,x.lo)∧∀j,j<t→p[j]? =some []:=by refine Po p 0 ?_;rw[Wp,vv]at hv;obtain⟨s,hs,hn⟩:=hv;exact⟨s,hs,fun e=>hn (by rw[e];rfl)⟩
 rw[Nat.zero_add]at h2;have z8:Qk p=⟨t,x.lo⟩:=by rw[Qk,h2]
 rw[z8];obtain⟨zd,za⟩:=zA.1 h1;refine Qh tOk Tryz.func64 rfl Tryz.results64 rfl (by simp[Tryz.ntmps64]) ?_;rw[Tryz.ntmps64];simp only[Qe];simp only[encP,encSy];repeat first|(refine r_ ?_;simp)|refine q_ ?_
 refine Iy 3 rfl ?_;simp;refine Qd rfl rfl (by simp) (J0 [p]) rfl ?_;rintro _ rfl;simp;repeat first|(refine r_ ?_;simp)|refine q_ ?_
 refine Qa rfl (fun h=>by rw[h0]at h;simp at h) (fun h=> ?_);repeat first|(refine r_ ?_;simp)|refine q_ ?_
 refine Qd rfl rfl (by simp) (u02 p) rfl ?_;rintro _ rfl;simp;repeat first|(refine r_ ?_;simp)|refine q_ ?_
 refine E4 rfl (Rf:=fun _ H'=>4<H'.length∧(∃sl' ps' a' b',H'[4]? =some (.lp false (some Code.ret) 25 sl' ps' a' b'))∧H'[1]? =some (.vars [.i t,.i x.lo])∧H'[2]? =some (.vars [.i 0])) ?_ ?_
 ·simp;refine Kl fun H1 z6=> ?_;have f1:H1[1]? =some (.vars [.i 0,.i 0]):=by rw[z6];rfl
  have f2:H1[2]? =some (.vars [.i 0]):=by rw[z6];rfl
  have f4:=congrArg (fun h:List AObj=>h[4]?) z6;simp at f4;have zb:H1.length=5:=by rw[z6];simp
  clear z6;refine El tOk Tryz.func188 rfl Tryz.results188 rfl (by simp[Tryz.ntmps188]) ?_;rw[Tryz.ntmps188];simp only[Qe];repeat first|(refine r_ ?_;simp)|refine q_ ?_
  refine Ql (Qb (sl':=[(0,.yld 4),(6,.list (p.map encL)),(7,.i p.length),(8,.i (0:Nat))]) ?_ (by simp));refine Qm (F:=fun(u:Nat)=>⟨[(0,.yld 4),(6,.list (p.map encL)),(7,.i p.length),(8,.i u)],H1⟩) (fun u=>u≤t) (fun u=>t - u) ?_ 0 (by simp);rintro j hj ih;have z1:j<p.length:=by omega
  have hw:IntKind.i64.wrap ((j:Int)+1)=j+1:=wrap_i64 _ (by omega) (by omega);repeat first|(refine r_ ?_;simp)|refine q_ ?_
  refine Qa rfl (fun _=> ?_) (fun zc=>by simp at zc;omega);by_cases hjt:j=t
  ·subst hjt;repeat first|(refine r_ ?_;simp[z1,za])|refine q_ ?_
   refine Uk rfl rfl (q:=4) rfl rfl f4 rfl rfl rfl (fun jm K2=>jm=some Code.ret∧5≤K2.length∧K2[1]? =some (.vars [.i j,.i x.lo])∧K2[2]? =some (.vars [.i 0])) ?_ ?_
   ·simp[Ts];have e1:=Qg (j:=4) (by decide) f1 .dead;have e2:=Qg (j:=4) (by decide) f2 .dead;have e4:=Qo f4 .dead;have e6:(H1.set 4 .dead).length=5:=by simp[zb]
    generalize H1.set 4 .dead=E at *
    have e3:∀y,(E.set 1 y)[2]? =some (.vars [.i 0]):=fun y=>Qg (by decide) e2 y;repeat first|(refine r_ ?_;simp[e1,e2,e3])|refine q_ ?_
    exact⟨Qg (by decide) (Qg (by decide) e4 _) _,rfl,by simp[e6],Qg (by decide) (Qo e1 _) _,Qo (e3 _) _⟩
   ·rintro jm K2 ⟨rfl,v1,v2,v3⟩;simp;repeat first|(refine r_ ?_;simp)|refine q_ ?_
    have v6:4<K2.length:=by omega
    refine Qa rfl (fun _=> ?_) (fun h=>by cases h);repeat first|(refine r_ ?_;simp)|refine q_ ?_
    exact⟨by omega,⟨_,_,_,_,zH v6⟩,v2,v3⟩
  ·have z7:p[j]=[]:=by have:=h3 j (by omega);rw[zD z1]at this;exact Option.some.inj this
   repeat first|(refine r_ ?_;simp[z1,z7])|refine q_ ?_
   refine Wb rfl rfl ?_;simp;refine Qq rfl ?_;simp;repeat first|(refine r_ ?_;simp[hw])|refine q_ ?_
   exact Qb (sl':=[(0,.yld 4),(6,.list (p.map encL)),(7,.i p.length),(8,.i (j+1:Nat))]) (ih (j+1) (by omega) (by omega)) (by simp)
 ·rintro r H' ⟨hl,⟨sl',ps',a',b',k4⟩,k1,k2⟩;refine⟨_,_,_,_,_,_,_,k4,?_⟩;simp;have u1:=Qg (j:=4) (by decide) k1 .dead;have u2:=Qg (j:=4) (by decide) k2 .dead;generalize H'.set 4 .dead=E at *
  repeat first|(refine r_ ?_;simp[u1,u2])|refine q_ ?_
end Go.Abs
namespace Go.Abs
open Go Go.Proofs
abbrev x2r:Iv:=⟨-1099511627776,1099511627776⟩
theorem Si(i:Nat):Q6 [] i=[]:=rfl
theorem Fv{l:List Prd}{j i:Nat}(hj:j<l.length)(hi:i<l[j].length):Q6 (l.take (j+1)) i=Q6 (l.take j) i++l[j][i]:=by unfold Q6;rw[zL hj,wZ];simp[yQ,hi]
theorem P0{T:Nat}{l:List Prd}(hl:∀p∈l,PCk T p)(i:Nat):(Q6 l i).length≤256 * l.length:=by
 induction l with
 |nil=>simp[Q6]
 |cons p r ih=>
  have h1:=ih (fun q hq=>hl q (by simp[hq]));have h2:(p.getD i []).length≤256:=by
   by_cases hi:i<p.length
   ·rw[Wv hi];exact((hl p (by simp)).2 _ (zG hi)).len
   ·simp[yQ,hi]
  unfold Q6 at *;rw[List.flatMap_cons,zW,List.length_cons];omega
def H7(xs:List Iv):List Int:=Nq (x2r::xs)
theorem g01(xs:List Iv)(x:Iv):H7 (xs++[x])=H7 xs++[x.lo,x.hi+1]:=by unfold H7;rw[←vB,q0j]
theorem Fh(xs:List Iv):(H7 xs).length=2 * xs.length+2:=by rw[H7,g02];simp;omega
theorem L6(l:List Prd)(i:Nat):Lib.compact (R7 (H7 (Q6 l i)))=Q9 l i:=rfl
attribute [local irreducible] H7 R7 Lib.compact Q6
theorem u1g(T:Nat)(l:List Prd)(i:Nat)(hi:i<T)(hT:T≤16)(hl:∀p∈l,PCk T p)(hn:l.length≤256):PC Tryz.prog 166 [LP l,.i i] (fun r=>r=LI (Q9 l i)):=by
 refine Qh tOk Tryz.func166 rfl Tryz.results166 rfl (by simp[Tryz.ntmps166]) ?_;rw[Tryz.ntmps166];simp only[Qe];repeat first|(refine r_ ?_;simp)|refine q_ ?_
 have h2:H7 (Q6 (l.take 0) i)=[-1099511627776,1099511627777]:=by rw[wA,Si,H7];rfl
 have zi:=P0 hl i;refine Ql (Qb (sl':=[(0,LP l),(1,.i i),(5,.sl 0 1 0 (H7 (Q6 (l.take 0) i)).length),(11,LP l),(12,.i l.length),(13,.i (0:Nat))]) ?_ (by rw[h2];simp));refine Qm (F:=fun(u:Nat×Nat×List AObj)=>⟨[(0,LP l),(1,.i i),(5,.sl u.2.1 1 0 (H7 (Q6 (l.take u.1) i)).length),(11,LP l),(12,.i l.length),(13,.i u.1)],u.2.2⟩)
  (fun u=>u.1≤l.length∧SL [] u.2.2 u.2.1 3 1 ((H7 (Q6 (l.take u.1) i)).map (AV.int .i64))) (fun u=>l.length - u.1) ?_ (0,0,_) ⟨by simp,by rw[h2];exact⟨rfl,by simp,fun j hj=>by simp at hj⟩⟩
 rintro⟨j,q,H2⟩ ⟨hj,g⟩ ih;simp only at hj g ih ⊢;repeat first|(refine r_ ?_;simp)|refine q_ ?_
 refine Qa rfl (fun zj=> ?_) (fun zk=> ?_)
 ·have z6:j<l.length:=by simpa using zj
  have hw:IntKind.i64.wrap ((j:Int)+1)=j+1:=wrap_i64 _ (by omega) (by omega);have hp:=hl _ (zG z6);have z8:i<l[j].length:=by rw[hp.1];exact hi
  have hs:=hp.2 _ (zG z8);have hst:=Fv z6 z8;have za:=P0 (l:=l.take j) (fun p hp=>hl p (yW hp)) i;rw[xB]at za;have zf:=hs.len;have zb:=fun k hk=>hs.iv (j:=k) hk;repeat first|(refine r_ ?_;simp[z6,z8])|refine q_ ?_
  generalize l[j][i]=s at *;generalize hA:Q6 (l.take j) i=A at *;refine Ql (Qb (sl':=[(0,LP l),(1,.i i),(5,.sl q 1 0 (H7 (A++s.take 0)).length),(11,LP l),(12,.i l.length),(13,.i j),(21,LIv s),(22,.i s.length),(23,.i (0:Nat))]) ?_ (by simp))
  refine Qm (F:=fun(u:Nat×Nat×List AObj)=>⟨[(0,LP l),(1,.i i),(5,.sl u.2.1 1 0 (H7 (A++s.take u.1)).length),(11,LP l),(12,.i l.length),(13,.i j),(21,LIv s),(22,.i s.length),(23,.i u.1)],u.2.2⟩)
   (fun u=>u.1≤s.length∧SL [] u.2.2 u.2.1 3 1 ((H7 (A++s.take u.1)).map (AV.int .i64))) (fun u=>s.length - u.1) ?_ (0,q,_) ⟨by simp,by rw[wA,List.append_nil];exact g.add _⟩
  rintro⟨m,q',H3⟩ ⟨hm,g'⟩ ih';simp only at hm g' ih' ⊢;repeat first|(refine r_ ?_;simp)|refine q_ ?_
  refine Qa rfl (fun zc=> ?_) (fun zd=> ?_)
  ·have z1:m<s.length:=by simpa using zc
   have zl:IntKind.i64.wrap ((m:Int)+1)=m+1:=wrap_i64 _ (by omega) (by omega);obtain⟨b1,b2,b3⟩:=zb m z1;have zm:IntKind.i64.wrap (s[m].hi+1)=s[m].hi+1:=wrap_i64 _ (by omega) (by omega);have zn:H7 (A++s.take (m+1))=H7 (A++s.take m)++[s[m].lo,s[m].hi+1]:=by rw[zL z1,←List.append_assoc,g01]
   have zg:=Fh (A++s.take m);rw[zW,xB]at zg;have zh:=fun q' H'=>ih' (m+1,q',H');simp only[zn]at zh;generalize H7 (A++s.take m)=acc at *
   repeat first|(refine r_ ?_;simp[z1,zm])|refine q_ ?_
   refine Qf tOk rfl rfl T47 rfl T3 rfl (by decide) (by decide) rfl rfl rfl ?_;simp[Qc g'.arr,Qj g'.arr];refine⟨by simp[Ws,Qc g'.arr,Qj g'.arr]<;>omega,?_⟩;repeat first|(refine r_ ?_;simp[zl])|refine q_ ?_
   refine Qb (sl':=[(0,LP l),(1,.i i),(5,.sl (H3.length+2) 1 0 (acc.length+2)),(11,LP l),(12,.i l.length),(13,.i j),(21,LIv s),(22,.i s.length),(23,.i (m+1:Nat))]) ?_ (by simp);have:=zh (H3.length+2) _ ⟨by omega,g'.put [AObj.vars [AV.i s[m].lo,AV.i s[m].hi],AObj.arr 3 1 [AV.i s[m].lo,AV.i (s[m].hi+1)]] _ rfl⟩ (by omega);simpa using this
  ·have z7:m=s.length:=by simp at zd;omega
   subst z7;rw[zZ]at g' ⊢;repeat first|(refine r_ ?_;simp[hw])|refine q_ ?_
   refine Qb (sl':=[(0,LP l),(1,.i i),(5,.sl q' 1 0 (H7 (A++s)).length),(11,LP l),(12,.i l.length),(13,.i (j+1:Nat))]) ?_ (by simp);have:=ih (j+1,q',H3) ⟨by omega,by rw[hst];exact g'⟩ (by show l.length - (j+1)<l.length - j;omega);rw[hst]at this;exact this
 ·have ze:j=l.length:=by simp at zk;omega
  subst ze;rw[zZ]at g ⊢;have zg:=Fh (Q6 l i);rw[←L6];generalize H7 (Q6 l i)=acc at *
  repeat first|(refine r_ ?_;simp)|refine q_ ?_
  refine Wd rfl rfl (Kn H2 q acc g.arr (by omega)) rfl ?_;rintro r H' ⟨rfl,rfl⟩;simp;repeat first|(refine r_ ?_;simp)|refine q_ ?_
  have g2:=Qo g.arr (.arr 3 1 ((R7 acc).map (AV.int .i64)));have zf:=Ig acc;rw[←zf];refine Wd rfl rfl (Ae _ q (R7 acc) g2 (by omega) (Ut _)) rfl ?_;rintro r H' ⟨rfl,G,rfl⟩;simp;have g3:=Qo g.arr (.arr 3 1 ((Lib.compact (R7 acc)++G).map (AV.int .i64)));repeat first|(refine r_ ?_;simp)|refine q_ ?_
  rw[yG]at g3;simp[g3]
end Go.Abs
namespace Go.Abs
open Go Go.Proofs
attribute [simp] q25 T5 T9
def sb(b:Bool):UInt8:=if b then 1 else 0
def sgB(bs:List Bool):List UInt8:=bs.map sb
theorem v06:∀ {a b:List Bool},sgB a=sgB b→a=b
 |[],[],_=>rfl
 |[],_::_,h=>by simp[sgB]at h
 |_::_,[],h=>by simp[sgB]at h
 |x::a,y::b,h=>by simp only[sgB,List.map_cons,List.cons.injEq]at h;obtain⟨h1,h2⟩:=h;rw[v06 (a:=a) (b:=b) h2];cases x<;>cases y<;>simp[sb]at h1 ⊢
theorem Lr(bs:List Bool):(sgB bs).length=bs.length:=by simp[sgB]
def sgJ(bs:List Bool)(j:Nat):List AV:=(sgB (bs.take j)++zT (bs.length - j) 0).map byteAV
theorem k1l{bs:List Bool}{j:Nat}(h:j≤bs.length):(sgJ bs j).length=bs.length:=by simp[sgJ,sgB];omega
theorem w16(bs:List Bool):zT bs.length (AV.int .u8 0)=sgJ bs 0:=by simp[sgJ,sgB]
theorem j1p(bs:List Bool):sgJ bs bs.length=(sgB bs).map byteAV:=by simp[sgJ]
theorem z2g{bs:List Bool}{j:Nat}(h:j<bs.length)(hb:bs[j]=true):(sgJ bs j).set j (AV.int .u8 1)=sgJ bs (j+1):=by
 have h1:(sgB (bs.take j)).length=j:=by simp[sgB];omega
 have e:bs.length - j=(bs.length - (j+1))+1:=by omega
 unfold sgJ;rw[yG,List.set_append_right (h:=by simp[h1]),zL h,e,v_];have hm:j - min j bs.length=0:=by omega
 simp[h1,sgB,hb,sb,byteAV,hm]
theorem v15{bs:List Bool}{j:Nat}(h:j<bs.length):(sgJ bs j)[j]? =some (AV.int .u8 0):=by
 have h1:(sgB (bs.take j)).length=j:=by simp[sgB];omega
 unfold sgJ;have e:bs.length - j=(bs.length - (j+1))+1:=by omega
 rw[yG,zC (by simp[h1]),e,v_];simp[h1]
theorem w2x{bs:List Bool}{j:Nat}(h:j<bs.length)(hb:bs[j]=false):sgJ bs j=sgJ bs (j+1):=by
 have e:bs.length - j=(bs.length - (j+1))+1:=by omega
 unfold sgJ;rw[zL h,e,v_];simp[sgB,hb,sb]
theorem k13{l:List Prd}{i j:Nat}(n:Int)(hj:j<l.length)(hi:i<l[j].length)(h:j<(U3 l i n).length):(U3 l i n)[j]=O5 l[j][i] n:=by simp[U3,yQ,hi]
attribute [local irreducible] sgJ sgB O5 U3
theorem Xw(T:Nat)(l:List Prd)(i:Nat)(n:Int)(hi:i<T)(hT:T≤16)(hl:∀p∈l,PCk T p)(hn:l.length≤256):PC Tryz.prog 167 [LP l,.i i,.i n] (fun r=>r= .str (sgB (U3 l i n))):=by
 refine Qh tOk Tryz.func167 rfl Tryz.results167 rfl (by simp[Tryz.ntmps167]) ?_;rw[Tryz.ntmps167];simp only[Qe];have z6:(U3 l i n).length=l.length:=by simp[U3]
 repeat first|(refine r_ ?_;simp)|refine q_ ?_
 refine Ef tOk rfl rfl rfl q25 rfl T5 rfl rfl rfl (n:=l.length) (by simp;omega) (by unfold maxLen;omega) (.int .u8 0) rfl ?_;simp;rw[←z6,w16];repeat first|(refine r_ ?_;simp)|refine q_ ?_
 refine Ql (Qb (sl':=[(1,.i i),(2,.i n),(7,.sl 0 1 0 l.length),(15,LP l),(16,.i l.length),(17,.i (0:Nat))]) ?_ (by simp[z6]));refine Qm (F:=fun(u:Nat×List AObj)=>⟨[(1,.i i),(2,.i n),(7,.sl 0 1 0 l.length),(15,LP l),(16,.i l.length),(17,.i u.1)],u.2⟩)
  (fun u=>u.1≤l.length∧u.2[0]? =some (.arr 5 1 (sgJ (U3 l i n) u.1))) (fun u=>l.length - u.1) ?_ (0,_) ⟨by simp,rfl⟩
 rintro⟨j,H2⟩ ⟨hj,g⟩ ih;simp only at hj g ih ⊢;have ze:=k1l (bs:=U3 l i n) (j:=j) (by omega);repeat first|(refine r_ ?_;simp)|refine q_ ?_
 refine Qa rfl (fun zg=> ?_) (fun zh=> ?_)
 ·have z1:j<l.length:=by simpa using zg
  have hw:IntKind.i64.wrap ((j:Int)+1)=j+1:=wrap_i64 _ (by omega) (by omega);have hp:=hl _ (zG z1);have za:i<l[j].length:=by rw[hp.1];exact hi
  have hs:=hp.2 _ (zG za);have zi:=k13 n z1 za (by omega);have hT:=z2g (bs:=U3 l i n) (j:=j) (by omega);have hF:=w2x (bs:=U3 l i n) (j:=j) (by omega);rw[zi]at hT hF;have zb:w18 l[j][i] n=(O5 l[j][i] n,0):=by rw[w18,if_pos ((Co _).2 hs)]
  have z7:=fun H'=>ih (j+1,H');simp only at z7;repeat first|(refine r_ ?_;simp[z1,za])|refine q_ ?_
  refine Qd rfl rfl (by simp) (Gn l[j][i] n) rfl ?_;rintro _ rfl;simp;rw[zb];generalize O5 l[j][i] n=b at *
  repeat first|(refine r_ ?_;simp)|refine q_ ?_
  have gL:∀L,(H2++L)[0]? =some (.arr 5 1 (sgJ (U3 l i n) j)):=fun L=>Qc g L;cases b with
  |true=>
   rw[←hT rfl]at z7;clear hT hF;refine Qa rfl (fun _=> ?_) (fun h=>by cases h);have zc:=v15 (bs:=U3 l i n) (j:=j) (by omega);have zj:∀hh,(sgJ (U3 l i n) j)[j]'hh=AV.int .u8 0:=fun hh=>by rw[zD hh]at zc;exact Option.some.inj zc
   have gL1:∀L hh,(H2++L)[0]'hh= .arr 5 1 (sgJ (U3 l i n) j):=fun L hh=>by have:=gL L;rw[zD hh]at this;exact Option.some.inj this
   repeat first|(refine r_ ?_;simp[gL,gL1,ze,z1,z6,zc,zj,hw])|refine q_ ?_
   refine Qb (sl':=[(1,.i i),(2,.i n),(7,.sl 0 1 0 l.length),(15,LP l),(16,.i l.length),(17,.i (j+1:Nat))]) ?_ (by simp);exact z7 _ ⟨by omega,Qo (gL _) _⟩ (by omega)
  |false=>
   rw[←hF rfl]at z7;refine Qa rfl (fun h=>by cases h) (fun _=> ?_);repeat first|(refine r_ ?_;simp[hw])|refine q_ ?_
   refine Qb (sl':=[(1,.i i),(2,.i n),(7,.sl 0 1 0 l.length),(15,LP l),(16,.i l.length),(17,.i (j+1:Nat))]) ?_ (by simp);exact z7 _ ⟨by omega,gL _⟩ (by omega)
 ·have zd:j=l.length:=by simp at zh;omega
  subst zd;have z8:=j1p (U3 l i n);rw[z6]at z8;rw[z8]at g ze;have zf:=Lr (U3 l i n);generalize sgB (U3 l i n)=s at *
  repeat first|(refine r_ ?_;simp)|refine q_ ?_
  refine Nr tOk rfl rfl q25 rfl T5 rfl T9 rfl rfl (s:=s) (by simp[g,zf,z6];rw[zI (by simp[zf,z6])]) rfl ?_;simp;repeat first|(refine r_ ?_;simp)|refine q_ ?_
end Go.Abs
namespace Go.Abs
open Go Go.Proofs Go.RowKit Go.Shelf Go.Lib Go.Sort
theorem By(x y:Iv)(W:World):Calls Tryz.prog 175 #[.agg #[.int .i64 x.lo,.int .i64 x.hi],.agg #[.int .i64 y.lo,.int .i64 y.hi]] W fun e w'=>e= .returned (.int .i64 (Lib.compareInt x.lo y.lo))∧∃q os',w'=grow (W.drewN q) os':=by
 have z1:=fun W'=>Tryz.cmp_Compare_int x.lo y.lo W';generalize Lib.compareInt x.lo y.lo=r at z1 ⊢
 go_enter Tryz.func175,Tryz.ntmps175
 go_wp2_with (go_at_call 133;refine(z1 _).mono ?_;rintro e w' ⟨rfl,rfl⟩)
 go_ret
 exact⟨rfl,0,_,by rw[alloc_eq_grow,alloc_eq_grow,grow_grow];rfl⟩
theorem w1l(H:List AObj)(p:Nat)(l:List Iv)(hp:H[p]? =some (.arr 144 2 (l.map encIv)))(hl:l.length≤1000000):
  FC Tryz.prog 174 [.sl p 2 0 l.length,.fn (.func 175) [] []] H
   (fun r H'=>r= .tup []∧∃l':List Iv,l'.Perm l∧Bh l'∧H'=H.set p (.arr 144 2 (l'.map encIv))):=by
 refine(x1h (xs:=l.map encIv) (Ys Tryz.func174 rfl rfl) (by simp) hp (d1k l) [.func (.func 175) #[] #[]] (fun w I m vs a b=>Bk _ w I m _ vs a b) (fun z1=>∃l':List Iv,l'.Perm l∧Bh l'∧z1=l'.map encIv) ?_ ?_).mono ?_
 ·intro b cap w hH hb hc;have eg:∀args w,(callFunc 175 args).run Tryz.prog w= .ok (.enter 175 args) w:=enters_of Tryz.func175 (by kernel_rfl) rfl;have:=AnyQ.slices_SortFunc Tryz.sortIv 2 Tryz.isAgg144 Tryz.sizeOf144 q00 (fun _=>rfl) (fun x v hv=>by simp[q00]at hv;rcases hv with rfl|rfl<;>rfl) (fun x y=>Lib.compareInt x.lo y.lo) z2o 175 #[] b 0 cap l.toArray w eg (fun _ _ _ _ x y=>By x y _) hH hb (by simp;omega);change Calls Tryz.prog 174 _ _ _ at this;rw[show(l.toArray).size=l.length by simp]at this;refine Calls.mono (this) ?_;rintro e w' ⟨rfl,d',n,os,h1,h2,rfl⟩;obtain⟨s1,_,s3⟩:=h1;have hs:d'.toList.length=l.length:=by simpa using s1
  refine⟨rfl,d'.toList.map encIv,flatK q00 2 d',n,os,⟨d'.toList,?_,?_,rfl⟩,by simp[hs],by simpa using d1k d'.toList,rfl⟩
  ·rw[show d'.extract 0 l.length=d' by simp[←hs],show l.toArray.extract 0 l.length=l.toArray by simp]at s3;simpa using s3
  ·refine List.pairwise_iff_getElem.2 fun i j hi hj z6=> ?_;have:=h2 i j (Nat.zero_le _) z6 (by omega);rw[q2y,getElem!_pos d' i (by simpa using hi),getElem!_pos d' j (by simpa using hj)]at this;simpa using this
 ·rintro h;have z7:l=[]:=by simpa using h
  subst z7;exact⟨⟨[],.refl _,.nil,rfl⟩,fun w=>AnyF.slices_SortFunc_none Tryz.sortIv none 0 _ w⟩
 ·rintro r H' ⟨rfl,z1,⟨l',h1,h2,rfl⟩,rfl⟩;exact⟨rfl,l',h1,h2,rfl⟩
end Go.Abs
namespace Go.Abs
open Go Go.Proofs
theorem C0(l l':List Iv)(z1:∀y∈l,y.lo≤y.hi)(hp:l'.Perm l)(hl:Bh l'):Q0 [] l'=Ec l:=
 Gp l' (E3 l) [] (hp.trans (Sm l).1.symm) hl (Sm l).2 (fun y hy=>z1 y (hp.mem_iff.1 hy))
theorem SL.upd{K G:List AObj}{p e sz:Nat}{xs:List AV}(h:SL K G p e sz xs)(L:List AObj)(ys:List AV):SL K (G.set p (.arr e sz ys)++L) p e sz ys:=by have hp:=(zA.1 h.arr).1;have z1:=h.ge;refine⟨by rw[zE (by simpa using hp)];exact zH hp,z1,fun j hj=> ?_⟩;rw[zE (by simp;omega),zB (by omega)];exact h.keep j hj
attribute [local irreducible] W7 Q0 Ec
theorem Vu(H:List AObj)(q:Nat)(l:List Iv)(hq:H[q]? =some (.arr 144 2 (l.map encIv)))(hl:l.length≤1000000)(zf:∀y∈l,O6 y∧y.lo≤y.hi):
  FC Tryz.prog 110 [.sl q 2 0 l.length] H (fun r H'=>r=LIv (Ec l)∧H.length≤H'.length∧∀i,i<H.length→i≠q→H'[i]? =H[i]?):=by
 refine El tOk Tryz.func110 rfl Tryz.results110 rfl (by simp[Tryz.ntmps110]) ?_;rw[Tryz.ntmps110];simp only[Qe];repeat first|(refine r_ ?_;simp)|refine q_ ?_
 refine Wd rfl rfl (w1l H q l hq hl) rfl ?_;rintro r H' ⟨rfl,l',h1,h2,rfl⟩;simp;have hl':l'.length≤1000000:=by rw[h1.length_eq];exact hl
 have zl:=h1.length_eq;have zc:∀y∈l',O6 y:=fun y hy=>(zf y (h1.mem_iff.1 hy)).1;rw[←C0 l l' (fun y hy=>(zf y hy).2) h1 h2,←zl];have g0:=Qo hq (.arr 144 2 (l'.map encIv));have z7:∀i,i≠q→(H.set q (.arr 144 2 (l'.map encIv)))[i]? =H[i]? :=fun i hi=>zB (fun e=>hi e.symm);have hlen:(H.set q (.arr 144 2 (l'.map encIv))).length=H.length:=by simp
 generalize H.set q (.arr 144 2 (l'.map encIv))=H1 at *
 repeat first|(refine r_ ?_;simp)|refine q_ ?_
 refine Q1 (sl':=[(2,.nils),(3,.nils),(9,.sl q 2 0 l'.length),(10,.i l'.length),(11,.i (0:Nat))]) ?_ (by simp);refine Ek q g0 ?_;simp;rw[zI (by simp)];have z1:∀i,i<H.length→i≠q→(H1.set q .dead)[i]? =H[i]? :=fun i h1 h2=>by rw[zB (fun e=>h2 e.symm)];exact z7 i h2
 have z8:(H1.set q .dead).length=H.length:=by simp[hlen]
 generalize H1.set q .dead=K at *;refine Q5 3 144 2 rfl ?_
 simp;have hst:=SL.start K 144 2;refine Ql (Qb (sl':=[(3,.sl K.length 2 0 (Q0 [] (l'.take 0)).length),(9,LIv l'),(10,.i l'.length),(11,.i (0:Nat))]) ?_ (by simp[z8,Q0]));refine Qm (F:=fun(u:Nat×Nat×List AObj)=>⟨[(3,.sl u.2.1 2 0 (Q0 [] (l'.take u.1)).length),(9,LIv l'),(10,.i l'.length),(11,.i u.1)],u.2.2⟩)
  (fun u=>u.1≤l'.length∧SL K u.2.2 u.2.1 144 2 ((Q0 [] (l'.take u.1)).map encIv)) (fun u=>l'.length - u.1) ?_ (0,K.length,_) ⟨by simp,by rw[wA,Q0,List.foldl_nil];exact hst⟩
 rintro⟨j,p,G⟩ ⟨hj,g⟩ ih;simp only at hj g ih ⊢;repeat first|(refine r_ ?_;simp)|refine q_ ?_
 refine Qa rfl (fun zm=> ?_) (fun zg=> ?_)
 ·have za:j<l'.length:=by simpa using zm
  have hw:IntKind.i64.wrap ((j:Int)+1)=j+1:=wrap_i64 _ (by omega) (by omega);have zh:Q0 [] (l'.take (j+1))=W7 (Q0 [] (l'.take j)) l'[j]:=by rw[zL za,Pm]
  have zi:(Q0 [] (l'.take j)).length≤j:=yP (Ti _ _) (by simp;omega);have zd:∀y∈Q0 [] (l'.take j),O6 y:=Ad _ _ (by simp) (fun y hy=>zc y (yW hy));have z6:=fun p' G'=>ih (j+1,p',G');simp only[zh]at z6;clear zh;generalize Q0 [] (l'.take j)=acc at *;generalize hx:l'[j]=x at *
  repeat first|(refine r_ ?_;simp[za,hx])|refine q_ ?_
  rcases List.eq_nil_or_concat acc with rfl|⟨ini,y,rfl⟩
  ·refine Qn tOk mixed [] (.val 0 (.val 1 (.val 2 (.val 3 (.val 4 (.val 5 (.val 6 (.val 7 (.val 8 (.val 9 (.val 10 (.val 11 (.val 12 (.val 13 (.done))))))))))))))) rfl (by kernel_rfl) ?_;simp;refine Qq rfl ?_;simp;repeat first|(refine r_ ?_;simp)|refine q_ ?_
   refine Qf tOk rfl rfl Pp rfl G6 rfl (by decide) (by decide) rfl rfl rfl ?_;simp[Qc g.arr,Qj g.arr];refine⟨by simp[Ws,Qc g.arr,Qj g.arr]<;>omega,?_⟩;repeat first|(refine r_ ?_;simp[hw])|refine q_ ?_
   refine Qb (sl':=[(3,.sl (G.length+2) 2 0 1),(9,LIv l'),(10,.i l'.length),(11,.i (j+1:Nat))]) ?_ (by simp);have:=z6 (G.length+2) _ ⟨by omega,by rw[W7];exact g.put [AObj.vars [AV.i x.lo,AV.i x.hi],AObj.arr 144 2 [encIv x]] _ rfl⟩ (by omega);rw[W7]at this;simpa using this
  ·have zn:=(Eh _).1 (zd y (by simp)).2;have zj:IntKind.i64.wrap (y.hi+1)=y.hi+1:=wrap_i64 _ (by omega) (by omega);have gA:=g.arr;rw[List.concat_eq_append]at g gA z6 zi ⊢;have hlen:(ini++[y]).length=ini.length+1:=by simp
   rw[hlen]at zi ⊢;have zk:IntKind.i64.wrap (ini.length:Int)=ini.length:=wrap_i64 _ (by omega) (by omega);have hg:((ini++[y]).map encIv)[ini.length]? =some (encIv y):=by simp
   have zb:(ini.length:Int)<ini.length+1:=by omega
   refine Qn tOk mixed [] (.val 0 (.val 1 (.val 2 (.val 3 (.val 4 (.val 5 (.val 6 (.val 7 (.val 8 (.val 9 (.val 10 (.val 11 (.val 12 (.val 13 (.done))))))))))))))) rfl (by kernel_rfl) ?_;simp[Qc gA,zk,hg,zj,zb];refine Qa rfl (fun h1=> ?_) (fun h1=> ?_)
   ·repeat first|(refine r_ ?_;simp)|refine q_ ?_
    refine Qn tOk mixed [14] (.val 0 (.val 1 (.val 2 (.val 3 (.val 4 (.val 5 (.val 6 (.val 7 (.val 8 (.val 9 (.val 10 (.val 11 (.val 12 (.val 13 (.one 14 (.done)))))))))))))))) rfl (by kernel_rfl) ?_;simp[Qc gA,zk,hg,zj,zb,Qj gA];repeat first|(refine r_ ?_;simp[hw])|refine q_ ?_
    have hR:W7 (ini++[y]) x=ini++[⟨y.lo,if y.hi<x.hi then x.hi else y.hi⟩]:=by rw[Ei,if_pos (by simpa using h1)]
    rw[hR]at z6;refine Qb (sl':=[(3,.sl p 2 0 (ini.length+1)),(9,LIv l'),(10,.i l'.length),(11,.i (j+1:Nat))]) ?_ (by simp);have:=z6 p _ ⟨by omega,g.upd [AObj.vars [AV.i x.lo,AV.i x.hi]] _⟩ (by omega);simpa using this
   ·repeat first|(refine r_ ?_;simp)|refine q_ ?_
    refine Qf tOk rfl rfl Pp rfl G6 rfl (by decide) (by decide) rfl rfl rfl ?_;simp[Qc gA,Qj gA];refine⟨by simp[Ws,Qc gA,Qj gA]<;>omega,?_⟩;repeat first|(refine r_ ?_;simp[hw])|refine q_ ?_
    have hR:W7 (ini++[y]) x=ini++[y]++[x]:=by rw[Ei,if_neg (by simpa using h1)]
    rw[hR]at z6;refine Qb (sl':=[(3,.sl (G.length+2) 2 0 (ini.length+2)),(9,LIv l'),(10,.i l'.length),(11,.i (j+1:Nat))]) ?_ (by simp);have:=z6 (G.length+2) _ ⟨by omega,g.put [AObj.vars [AV.i x.lo,AV.i x.hi],AObj.arr 144 2 [encIv x]] _ rfl⟩ (by omega);simpa using this
 ·have ze:j=l'.length:=by simp at zg;omega
  subst ze;rw[zZ]at g ⊢;refine Ek p g.arr ?_;simp;rw[zI (by simp)];repeat first|(refine r_ ?_;simp)|refine q_ ?_
  have zo:=(zA.1 g.arr).1;have zg:=g.ge;refine⟨by omega,fun i h1 h2=> ?_⟩;rw[zB (by omega),g.keep i (by omega)];exact z1 i h1 h2
end Go.Abs
namespace Go.Abs
open Go Go.Proofs
def Jh(F:Nat→List Iv)(T i:Nat):List AV:=(yA T).map fun k=>if k<i then encL (F k)else .nils
theorem w1k(F:Nat→List Iv)(T i:Nat):(Jh F T i).length=T:=by simp[Jh]
theorem j03(F:Nat→List Iv)(T:Nat):zT T AV.nils=Jh F T 0:=by refine xQ (by simp[Jh]) fun k h1 h2=>by simp[Jh]
theorem c03(F:Nat→List Iv){T i:Nat}(h:i<T):(Jh F T i)[i]? =some .nils:=by simp[Jh,h]
theorem w1n(F:Nat→List Iv){T i:Nat}(h:i<T):(Jh F T i).set i (encL (F i))=Jh F T (i+1):=by
 refine xQ (by simp[Jh]) fun k h1 h2=> ?_;have hk:k<T:=by simpa[Jh]using h2
 rw[List.getElem_set];by_cases e:i=k
 ·subst e;simp[Jh]
 ·rw[if_neg e];simp only[Jh,List.getElem_map,List.getElem_range];by_cases h3:k<i
  ·rw[if_pos h3,if_pos (by omega)]
  ·rw[if_neg h3,if_neg (by omega)]
theorem Ml(F:Nat→List Iv)(T:Nat):Jh F T T=((yA T).map F).map encL:=by
 refine xQ (by simp[Jh]) fun k h1 h2=> ?_;have hk:k<T:=by simpa[Jh]using h1
 simp[Jh,hk]
theorem f0c(F:Nat→List Iv)(T:Nat):(Jh F T T).all (fun x=>x.cells.all AV.pure)=true:=by rw[Ml,zP];intro x hx;obtain⟨s,_,rfl⟩:=zM.1 hx;simp[AV.cells,AV.pure]
theorem j08{T:Nat}{l:List Prd}(hl:∀p∈l,PWf T p){i:Nat}{y:Iv}(hy:y∈Q6 l i):O6 y∧y.lo≤y.hi:=by
 obtain⟨p,hp,hx⟩:=Tg.1 hy;by_cases hi:i<p.length
 ·rw[Wv hi]at hx;exact⟨c0c (hl p hp) (zG hi) y hx,((hl p hp).2 _ (zG hi)).1.1 y hx⟩
 ·simp[yQ,hi]at hx
theorem d09(T:Nat)(l:List Prd):(Xc T l).length=T:=by simp[Xc]
attribute [local irreducible] Ec Q6 Xc Jh
theorem Mf(T:Nat)(l:List Prd)(hT:T≤16)(hl:∀p∈l,PWf T p)(hn:∀i,i<T→(Q6 l i).length≤1000000)(y1:l.length≤1000000):PC Tryz.prog 53 [.i T,LP l] (fun r=>r=encP (Xc T l)):=by
 refine Qh tOk Tryz.func53 rfl Tryz.results53 rfl (by simp[Tryz.ntmps53]) ?_;rw[Tryz.ntmps53];simp only[Qe];simp only[encP];repeat first|(refine r_ ?_;simp)|refine q_ ?_
 refine Ef tOk rfl rfl rfl T68 rfl Pp rfl rfl rfl (n:=T) (by simp;omega) (by unfold maxLen;omega) .nils rfl ?_;simp;repeat first|(refine r_ ?_;simp)|refine q_ ?_
 rw[j03 (fun k=>Ec (Q6 l k))];refine Ze 1 rfl ?_;simp;refine Ql (Qb (sl':=[(0,.i T),(1,LP l),(4,.vptr 0 0),(5,.vptr 2 0),(12,.i T),(13,.i (0:Nat))]) ?_ (by simp));refine Qm (F:=fun(u:Nat×List AObj)=>⟨[(0,.i T),(1,LP l),(4,.vptr 0 0),(5,.vptr 2 0),(12,.i T),(13,.i u.1)],u.2⟩)
  (fun u=>u.1≤T∧3≤u.2.length∧u.2[0]? =some (.vars [.nils])∧u.2[1]? =some (.va 145 1 (Jh (fun k=>Ec (Q6 l k)) T u.1))∧u.2[2]? =some (.vars [.sl 1 1 0 T])) (fun u=>T - u.1) ?_ (0,_) ⟨by simp,by simp,rfl,rfl,rfl⟩
 rintro⟨i,H2⟩ ⟨hi,hH,g0,g1,g2⟩ ih;simp only at hi hH g0 g1 g2 ih ⊢;repeat first|(refine r_ ?_;simp)|refine q_ ?_
 refine Qa rfl (fun zp=> ?_) (fun zq=> ?_)
 ·have z1:i<T:=by simpa using zp
  have hw:IntKind.i64.wrap ((i:Int)+1)=i+1:=wrap_i64 _ (by omega) (by omega);have zl:=w1n (fun k=>Ec (Q6 l k)) z1;have zr:=c03 (fun k=>Ec (Q6 l k)) z1;have z7:=w1k (fun k=>Ec (Q6 l k)) T i;have zd:=hn i z1;have ze:=fun H'=>ih (i+1,H');simp only[←zl]at ze;clear zl;generalize Jh (fun k=>Ec (Q6 l k)) T i=row at *
  repeat first|(refine r_ ?_;simp)|refine q_ ?_
  refine P9 1 i 144 2 g1 zr ?_;refine Ql (Qb (sl':=[(0,.i T),(1,LP l),(4,.vptr 0 0),(5,.vptr 2 0),(6,.i i),(12,.i T),(13,.i i),(16,LP l),(17,.i l.length),(18,.i (0:Nat))]) ?_ (by simp));refine Qm (F:=fun(u:Nat×Nat×List AObj)=>⟨[(0,.i T),(1,LP l),(4,.vptr 0 0),(5,.vptr 2 0),(6,.i i),(12,.i T),(13,.i i),(16,LP l),(17,.i l.length),(18,.i u.1)],u.2.2⟩)
   (fun u=>u.1≤l.length∧3≤u.2.1∧u.2.2[0]? =some (.vars [.nils])∧u.2.2[1]? =some (.va 145 1 (row.set i (.sl u.2.1 2 0 (Q6 (l.take u.1) i).length)))∧u.2.2[2]? =some (.vars [.sl 1 1 0 T])∧u.2.2[u.2.1]? =some (.arr 144 2 ((Q6 (l.take u.1) i).map encIv))) (fun u=>l.length - u.1) ?_
   (0,H2.length,_) ⟨by simp,hH,Qg (by decide) (Qc g0 _) _,by rw[wA,Si];exact Qo (Qc g1 _) _,Qg (by decide) (Qc g2 _) _,by rw[wA,Si];simp only;rw[zB (i:=1) (j:=H2.length) (by omega)];simp⟩
  rintro⟨j,q,G⟩ ⟨hj,zt,k0,k1,k2,k3⟩ ih2;simp only at hj zt k0 k1 k2 k3 ih2 ⊢;repeat first|(refine r_ ?_;simp)|refine q_ ?_
  refine Qa rfl (fun zf=> ?_) (fun zg=> ?_)
  ·have z6:j<l.length:=by simpa using zf
   have zm:IntKind.i64.wrap ((j:Int)+1)=j+1:=wrap_i64 _ (by omega) (by omega);have hp:=hl _ (zG z6);have zh:i<l[j].length:=by rw[hp.1];exact z1
   have hst:=Fv z6 zh;have zi:(Q6 (l.take (j+1)) i).length≤1000000:=by refine yP ?_ zd;unfold Q6;rw[←xM (j+1) l,wZ,zW,xM];omega
   rw[hst,zW]at zi;have z8:=fun q' G'=>ih2 (j+1,q',G');simp only[hst]at z8;clear hst;repeat first|(refine r_ ?_;simp[z6,zh])|refine q_ ?_
   generalize hs:l[j][i]=s at *;generalize Q6 (l.take j) i=acc at *;refine Qn tOk mixed [13,15] (.val 0 (.val 2 (.val 3 (.val 4 (.val 5 (.val 6 (.val 7 (.val 8 (.val 9 (.val 10 (.val 11 (.val 12 (.two 1 (.one 13 (.val 14 (.one 15 (.done)))) 13 (.val 1 (.val 14 (.one 15 (.done))))))))))))))))) rfl (by kernel_rfl) ?_
   simp[Qc k1,Qc k2,z1,zh,z6,hs,z7];have zu:q≠0:=by omega
   have zv:q≠1:=by omega
   have zw:q≠2:=by omega
   have y2:=(zA.1 k3).1;have m0:∀L,(G.set q .dead++L)[0]? =some (AObj.vars [AV.nils]):=fun L=>Qc (Qg zu k0 _) L;have m1:∀L,(G.set q .dead++L)[1]? =some (.va 145 1 (row.set i (.sl q 2 0 acc.length))):=fun L=>Qc (Qg zv k1 _) L;have zc:∀L hh,(G.set q .dead++L)[1]'hh= .va 145 1 (row.set i (.sl q 2 0 acc.length)):=fun L hh=>by have:=m1 L;rw[zD hh]at this;exact Option.some.inj this
   have m2:∀L,(G.set q .dead++L)[2]? =some (AObj.vars [AV.sl 1 1 0 T]):=fun L=>Qc (Qg zw k2 _) L;have n2:∀L,(G++L)[2]? =some (AObj.vars [AV.sl 1 1 0 T]):=fun L=>Qc k2 L;refine⟨?_,?_⟩
   ·refine Qf tOk rfl rfl Pp rfl G6 rfl (by decide) (by decide) rfl rfl rfl ?_;simp[Qc k3,Qj k3,m0,m1,zc,m2,n2,z1,z7];refine⟨by simp[Ws,Qc k3,Qj k3,m0,m1,zc,m2,n2,z1,z7]<;>omega,?_⟩;repeat first|(refine r_ ?_;simp[zm])|refine q_ ?_
    refine Qb (sl':=[(0,.i T),(1,LP l),(4,.vptr 0 0),(5,.vptr 2 0),(6,.i i),(12,.i T),(13,.i i),(16,LP l),(17,.i l.length),(18,.i (j+1:Nat))]) ?_ (by simp);refine z8 (G.length+1) _ ⟨by omega,by omega,Qg (by decide) (m0 _) _,?_,Qg (by decide) (m2 _) _,?_⟩ (by omega)
    ·rw[Qo (m1 _) _];simp
    ·rw[zB (by omega),zC (by simp)];simp
   ·refine Qf tOk rfl rfl Pp rfl G6 rfl (by decide) (by decide) rfl rfl rfl ?_;simp[Qc k3,Qj k3,m0,m1,zc,m2,n2,z1,z7];refine⟨by simp[Ws,Qc k3,Qj k3,m0,m1,zc,m2,n2,z1,z7]<;>omega,?_⟩;repeat first|(refine r_ ?_;simp[zm])|refine q_ ?_
    refine Qb (sl':=[(0,.i T),(1,LP l),(4,.vptr 0 0),(5,.vptr 2 0),(6,.i i),(12,.i T),(13,.i i),(16,LP l),(17,.i l.length),(18,.i (j+1:Nat))]) ?_ (by simp);refine z8 (G.length+1) _ ⟨by omega,by omega,Qg (by decide) (m0 _) _,?_,Qg (by decide) (m2 _) _,?_⟩ (by omega)
    ·rw[Qo (m1 _) _];simp
    ·rw[zB (by omega),zC (by simp)];simp
  ·have zb:j=l.length:=by simp at zg;omega
   subst zb;rw[zZ]at k1 k3;have zn:∀y∈Q6 l i,O6 y∧y.lo≤y.hi:=fun y hy=>j08 hl hy;have y3:∀L,(G++L)[2]? =some (AObj.vars [AV.sl 1 1 0 T]):=fun L=>Qc k2 L;have zx:∀hh,G[1]'hh= .va 145 1 (row.set i (.sl q 2 0 (Q6 l i).length)):=fun hh=>by rw[zD hh]at k1;exact Option.some.inj k1
   repeat first|(refine r_ ?_;simp)|refine q_ ?_
   refine Qn tOk mixed [8,10] (.val 0 (.val 2 (.val 3 (.val 4 (.val 5 (.val 6 (.val 7 (.two 1 (.one 8 (.val 9 (.one 10 (.done)))) 8 (.val 1 (.val 9 (.one 10 (.done)))))))))))) rfl (by kernel_rfl) ?_;simp[k1,zx,k2,z1,z7];refine⟨?_,?_⟩
   ·refine Wd rfl rfl (Vu G q (Q6 l i) k3 zd zn) rfl ?_;rintro r H' ⟨rfl,hl',za⟩;have zy:=(zA.1 k2).1;have u0:=(za 0 (by omega) (by omega)).trans k0;have u1:=(za 1 (by omega) (by omega)).trans k1;have u2:=(za 2 (by omega) (by omega)).trans k2;have zj:∀hh,H'[1]'hh= .va 145 1 (row.set i (.sl q 2 0 (Q6 l i).length)):=fun hh=>by rw[zD hh]at u1;exact Option.some.inj u1
    simp[u1,zj,u2,z1,z7];repeat first|(refine r_ ?_;simp[hw])|refine q_ ?_
    refine Qb (sl':=[(0,.i T),(1,LP l),(4,.vptr 0 0),(5,.vptr 2 0),(12,.i T),(13,.i (i+1:Nat))]) ?_ (by simp);exact ze _ ⟨by omega,by simp;omega,Qg (by decide) u0 _,Qo u1 _,Qg (by decide) u2 _⟩ (by omega)
   ·refine Wd rfl rfl (Vu G q (Q6 l i) k3 zd zn) rfl ?_;rintro r H' ⟨rfl,hl',za⟩;have zy:=(zA.1 k2).1;have u0:=(za 0 (by omega) (by omega)).trans k0;have u1:=(za 1 (by omega) (by omega)).trans k1;have u2:=(za 2 (by omega) (by omega)).trans k2;have zj:∀hh,H'[1]'hh= .va 145 1 (row.set i (.sl q 2 0 (Q6 l i).length)):=fun hh=>by rw[zD hh]at u1;exact Option.some.inj u1
    simp[u1,zj,u2,z1,z7];repeat first|(refine r_ ?_;simp[hw])|refine q_ ?_
    refine Qb (sl':=[(0,.i T),(1,LP l),(4,.vptr 0 0),(5,.vptr 2 0),(12,.i T),(13,.i (i+1:Nat))]) ?_ (by simp);exact ze _ ⟨by omega,by simp;omega,Qg (by decide) u0 _,Qo u1 _,Qg (by decide) u2 _⟩ (by omega)
 ·have zk:i=T:=by simp at zq;omega
  subst zk;refine U8 1 g1 (f0c _ _) ?_;rw[Ml]at *
  have zz:(yA i).map (fun k=>Ec (Q6 l k))=Xc i l:=by unfold Xc;rfl
  rw[zz]at *;refine Wi 1 (Qo g1 _) 2 (Qg (by decide) g2 _) ?_
  have zo:=d09 i l;have e0:∀Y,((H2.set 1 AObj.dead).set 2 Y)[0]? =some (AObj.vars [AV.nils]):=fun Y=>Qg (by decide) (Qg (by decide) g0 _) _;have y0:∀Y hh,((H2.set 1 AObj.dead).set 2 Y)[0]'hh=AObj.vars [AV.nils]:=fun Y hh=>by have:=e0 Y;rw[zD hh]at this;exact Option.some.inj this
  have e2:∀Y,((H2.set 1 AObj.dead).set 2 Y)[2]? =some Y:=fun Y=>Qo (Qg (by decide) g2 _) _;have e3:∀Y Z,(((H2.set 1 AObj.dead).set 2 Y).set 0 Z)[0]? =some Z:=fun Y Z=>Qo (e0 Y) _;simp[zo];rw[zI (by simp[zo])];repeat first|(refine r_ ?_;simp[e0,y0,e2,e3])|refine q_ ?_
end Go.Abs
namespace Go.Abs
open Go Go.Proofs
theorem SL.le{K G:List AObj}{p e sz:Nat}{xs:List AV}(h:SL K G p e sz xs):K.length≤G.length:=by have:=(zA.1 h.arr).1;have:=h.ge;omega
attribute [local irreducible] upL Ed Rw
end Go.Abs
namespace Go.Abs
open Go Go.Proofs
attribute [local irreducible] y15
theorem Mb(H:List AObj)(f:Nat)(a:Aut)(hf:H[f]? =some (.arr 4 1 (a.fin.map .bool)))(zd:a.fin.length≤1000000)(ze:a.mv.length≤1000000):
  FC Tryz.prog 54 [.agg [.i a.types,.sl f 1 0 a.fin.length,.list (a.mv.map encMv)]] H
   (fun r H'=>((Z5 a=true∧r= .tup [.agg [.i 0,.nils,.nils],.i 5])∨(Z5 a=false∧r= .tup [.agg [.i a.types,.sl f 1 0 a.fin.length,.list (a.mv.map encMv)],.i 0]))∧∀i,i<H.length→H'[i]? =H[i]?):=by
 refine El tOk Tryz.func54 rfl Tryz.results54 rfl (by simp[Tryz.ntmps54]) ?_;rw[Tryz.ntmps54];simp only[Qe];repeat first|(refine r_ ?_;simp)|refine q_ ?_
 refine Qa rfl (fun h=> ?_) (fun h=> ?_)
 ·repeat first|(refine r_ ?_;simp)|refine q_ ?_
  have hb:Z5 a=true:=by rw[Nz,ww];left;simp at h ⊢;omega
  exact⟨hb,fun i hi=>zE hi⟩
 have hb:(decide (256<a.fin.length) || decide (2048<a.mv.length))=false:=by simp at h ⊢;omega
 repeat first|(refine r_ ?_;simp)|refine q_ ?_
 refine Ql (Qb (sl':=[(1,.vptr H.length 0),(2,.vptr (H.length+1) 0),(18,.list (a.mv.map encMv)),(19,.i a.mv.length),(20,.i (0:Nat))]) ?_ (by simp));refine Qm (F:=fun(u:Nat×List AObj)=>⟨[(1,.vptr H.length 0),(2,.vptr (H.length+1) 0),(18,.list (a.mv.map encMv)),(19,.i a.mv.length),(20,.i u.1)],u.2⟩)
  (fun u=>u.1≤a.mv.length∧H.length+2≤u.2.length∧(∀i,i<H.length→u.2[i]? =H[i]?)∧u.2[H.length]? =some (.vars [.i a.types,.sl f 1 0 a.fin.length,.list (a.mv.map encMv)])∧u.2[H.length+1]? =some (.vars [.i 0,.nils,.nils])∧∀i,∀hi:i<a.mv.length,i<u.1→y15 a.mv[i]=false) (fun u=>a.mv.length - u.1) ?_ (0,_)
  ⟨by simp,by simp,fun i hi=>zE hi,by simp,by simp,fun i hi h=>by omega⟩
 rintro⟨j,G⟩ ⟨hj,hG,k0,k1,k2,hI⟩ ih;simp only at hj hG k0 k1 k2 hI ih ⊢;repeat first|(refine r_ ?_;simp)|refine q_ ?_
 refine Qa rfl (fun za=> ?_) (fun zb=> ?_)
 ·have z1:j<a.mv.length:=by simpa using za
  have hw:IntKind.i64.wrap ((j:Int)+1)=j+1:=wrap_i64 _ (by omega) (by omega);repeat first|(refine r_ ?_;simp[z1])|refine q_ ?_
  refine Qd rfl rfl (by simp) (Xm a.mv[j].on 112 (fun s=>decide (256<s.length)) k18) rfl ?_;rintro _ rfl;simp;repeat first|(refine r_ ?_;simp)|refine q_ ?_
  have z8:∀L,(G++L)[H.length+1]? =some (.vars [.i 0,.nils,.nils]):=fun L=>Qc k2 L;refine Qa rfl (fun h=> ?_) (fun h=> ?_)
  ·have k3:∀L Y,((G++L).set (H.length+1) Y)[H.length+1]? =some Y:=fun L Y=>Qo (z8 L) Y;repeat first|(refine r_ ?_;simp[z8,k3])|refine q_ ?_
   have hm:y15 a.mv[j]=true:=by unfold y15;exact h
   have z6:Z5 a=true:=by rw[Nz,ww];right;exact xN.2 ⟨_,zG z1,hm⟩
   exact⟨z6,fun i hi=>by rw[zB (by omega),zE (by omega)];exact k0 i hi⟩
  ·have hm:y15 a.mv[j]=false:=by unfold y15;exact h
   repeat first|(refine r_ ?_;simp[hw])|refine q_ ?_
   refine Qb (sl':=[(1,.vptr H.length 0),(2,.vptr (H.length+1) 0),(18,.list (a.mv.map encMv)),(19,.i a.mv.length),(20,.i (j+1:Nat))]) ?_ (by simp);refine ih (j+1,_) ⟨by simp only;omega,by simp;omega,fun i hi=>(zE (by omega)).trans (k0 i hi),Qc k1 _,Qc k2 _,fun i hi zc=> ?_⟩ (by simp only;omega);by_cases e:i=j
   ·subst e;exact hm
   ·exact hI i hi (by simp only at zc;omega)
 ·have z7:j=a.mv.length:=by simp at zb;omega
  subst z7;have z6:Z5 a=false:=by rw[Nz,hb,uN,wd];intro m hm;obtain⟨i,hi,rfl⟩:=yC hm;rw[hI i hi hi];simp
  have k3:∀Y,(G.set (H.length+1) Y)[H.length+1]? =some Y:=fun Y=>Qo k2 Y;repeat first|(refine r_ ?_;simp[k1,k2,k3])|refine q_ ?_
  exact⟨z6,fun i hi=>by rw[zB (by omega)];exact k0 i hi⟩
end Go.Abs
