/- Part Ne of the proof: an abstract machine over the model, and what the functions of the program hand back in its terms. No condition. -/
import Derived.Test.YteghceocnldccaaGreatDoorNd
import Derived.Test.YteghceocnldccaaGreatDoorNc
set_option linter.all false
open Bool renaming eq_false_iff→vY,false_or→t_,eq_iff_iff→wO,and_eq_true→yT,false_and→uB,true_and→un
open List renaming drop_length→ws,length→ul,length_append→yL,getElem?_append_right→zL,nil_append→wC,append_nil→xO,take_of_length_le→zV,getElem_mem→zT,getElem?_eq_some_iff→zE,getElem?_set_self→zU,getElem?_set_ne→zH,getElem?_append_left→zI,range→yV,ext_getElem→wP,getD→y_,cons_append→vZ,getElem?_eq_getElem→zP,map_const'→uN,pairwise_iff_getElem→yU,mem_map→zX,mem_append→yH,mem_singleton→z_,mem_append_left→xL,mem_of_getElem?→zO,foldl_append→vA,pairwise_append→yS,map_append→yX,nodup_append→vT,mem_append_right→uy,reverse_cons→uD,mem_iff_getElem?→yR,reverse_reverse→ut,find?_eq_none→uh,mem_of_find?_eq_some→uj,find?_cons→tP,pairwise_map→wU,map_congr_left→xZ,mem_flatMap→wZ,mem_filter→xU,mem_filterMap→vX,mem_cons→yP,any_eq_true→vK,length_map→yO,all_eq_false→uE,mem_range→xJ,all_eq_true→yE,getElem_of_mem→xE,take→uU,findIdx?_eq_some_iff_getElem→xP,findIdx?_eq_none_iff→vD,take_succ_eq_append_getElem→zY,take_length→xB,replicate→yB
open Int renaming le_refl→xF
open Nat renaming le_refl→zW,zero_le→wD,le_trans→yW
set_option maxHeartbeats 4000000
set_option linter.unusedSimpArgs false
set_option maxRecDepth 100000
namespace Go.Abs
open Go Go.Proofs
attribute [local irreducible] ckR O0
theorem g1f(l:List Iv)(n:Int)(hl:l.length≤1000000000):PC Tryz.prog 183 [LIv l,.i n] (fun r=>r= .bool (O0 l n)):=by
 refine Ql tOk Tryz.func183 rfl Tryz.results183 rfl (by simp[Tryz.ntmps183]) ?_;rw[Tryz.ntmps183];simp only[Qg];obtain⟨R,hR⟩:∃R,O0 l n=R:=⟨_,rfl⟩
 rw[hR];repeat first|(refine r_ ?_;simp)|refine q_ ?_
 refine Qu l.length (fun j=>O0 (l.drop j) n=R) (fun j=>[(0,LIv l),(1,.i n),(5,.i j)]) (fun _=>[]) rfl (by simp) (by simp) (by simp) (by simp) (by simpa using hR) ?_;intro j hj hI ih;repeat first|(refine r_ ?_;simp)|refine q_ ?_
 refine Qa rfl (fun z7=> ?_) (fun z8=> ?_)
 ·have z1:j<l.length:=by simpa using z7
  have hw:IntKind.i64.wrap ((j:Int)+1)=j+1:=wrap_i64 _ (by omega) (by omega);rw[Ea z1,x1f]at hI;by_cases h1:l[j].lo≤n
  ·by_cases h2:n≤l[j].hi
   ·rw[(Bn ..).2 ⟨h1,h2⟩,Bool.true_or]at hI;repeat first|(refine r_ ?_;simp[z1,h1,h2])|refine q_ ?_
    refine Qm rfl ?_;repeat first|(refine r_ ?_;simp)|refine q_ ?_
    exact hI.symm
   ·have h3:inI l[j].lo l[j].hi n=false:=by rw[vY,Ne,Bn];omega
    rw[h3,t_]at hI;repeat first|(refine r_ ?_;simp[z1,h1,h2])|refine q_ ?_
    refine Qm rfl ?_;repeat first|(refine r_ ?_;simp[hw])|refine q_ ?_
    exact Qs _ (ih z1 hI) rfl (by simp) (by simp) (by simp) (by simp)
  ·have h3:inI l[j].lo l[j].hi n=false:=by rw[vY,Ne,Bn];omega
   rw[h3,t_]at hI;repeat first|(refine r_ ?_;simp[z1,h1])|refine q_ ?_
   refine Qm rfl ?_;repeat first|(refine r_ ?_;simp[hw])|refine q_ ?_
   exact Qs _ (ih z1 hI) rfl (by simp) (by simp) (by simp) (by simp)
 ·have z6:j=l.length:=by simp at z8;omega
  subst z6;rw[ws]at hI;repeat first|(refine r_ ?_;simp)|refine q_ ?_
  rw[←hI];unfold O0;rfl
theorem j1j(x y:Iv)(b:List Iv):(y::b).filterMap (Ov x)=(Ov x y).toList++b.filterMap (Ov x):=by cases h:Ov x y<;>simp[h]
def g1m(x:Iv)(b:List Iv):List Iv:=b.filterMap (Ov x)
theorem Bt(x:Iv)(a b:List Iv):Ri (x::a) b=g1m x b++Ri a b:=rfl
theorem w1r(x y:Iv)(b:List Iv):g1m x (y::b)=(Ov x y).toList++g1m x b:=j1j x y b
theorem k1n(x:Iv):g1m x []=[]:=rfl
theorem f07(b:List Iv):Ri [] b=[]:=rfl
attribute [local irreducible] Ri g1m Ej
theorem w15(a b:List Iv)(ha:a.length≤1000000000)(hb:b.length≤1000000000)(hP:(Ri a b).length≤1000000000)(ze:∀y∈Ri a b,U5 y):PC Tryz.prog 166 [LIv a,LIv b] (fun r=>r=LIv (Ej (Ri a b))):=by
 refine Ql tOk Tryz.func166 rfl Tryz.results166 rfl (by simp[Tryz.ntmps166]) ?_;rw[Tryz.ntmps166];simp only[Qg];repeat first|(refine r_ ?_;simp)|refine q_ ?_
 refine Q6 5 187 2 rfl ?_;simp;repeat first|(refine r_ ?_;simp)|refine q_ ?_
 refine Qo (Qc (sl':=[(0,LIv a),(1,LIv b),(5,.sl 0 2 0 0),(6,.i 0)]) ?_ (by simp));refine Qp (F:=fun(u:Nat×Nat×List Iv×List AObj)=>⟨[(0,LIv a),(1,LIv b),(5,.sl u.2.1 2 0 u.2.2.1.length),(6,.i u.1)],u.2.2.2⟩)
  (fun u=>u.1≤a.length∧u.2.2.2[u.2.1]? =some (.arr 187 2 (u.2.2.1.map encIv))∧u.2.2.1++Ri (a.drop u.1) b=Ri a b) (fun u=>a.length - u.1) ?_ (0,0,[],[.arr 187 2 []]) ⟨by simp,rfl,by simp⟩
 rintro⟨j,q,acc,H2⟩ ⟨hj,g1,g2⟩ ih;simp only at hj g1 g2 ih ⊢;repeat first|(refine r_ ?_;simp)|refine q_ ?_
 refine Qa rfl (fun zf=> ?_) (fun zg=> ?_)
 ·have z6:j<a.length:=by simpa using zf
  have hw:IntKind.i64.wrap ((j:Int)+1)=j+1:=wrap_i64 _ (by omega) (by omega);rw[Ea z6,Bt]at g2;repeat first|(refine r_ ?_;simp)|refine q_ ?_
  refine Qo (Qc (sl':=[(0,LIv a),(1,LIv b),(5,.sl q 2 0 acc.length),(6,.i j),(7,.i 0)]) ?_ (by simp));refine Qp (F:=fun(u:Nat×Nat×List Iv×List AObj)=>⟨[(0,LIv a),(1,LIv b),(5,.sl u.2.1 2 0 u.2.2.1.length),(6,.i j),(7,.i u.1)],u.2.2.2⟩)
   (fun u=>u.1≤b.length∧u.2.2.2[u.2.1]? =some (.arr 187 2 (u.2.2.1.map encIv))∧u.2.2.1++(g1m a[j] (b.drop u.1)++Ri (a.drop (j+1)) b)=Ri a b) (fun u=>b.length - u.1) ?_ (0,q,acc,H2) ⟨by simp,g1,by simpa using g2⟩
  rintro⟨k,q1,acc1,H3⟩ ⟨hk,e1,e2⟩ ih1;simp only at hk e1 e2 ih1 ⊢;repeat first|(refine r_ ?_;simp)|refine q_ ?_
  refine Qa rfl (fun z8=> ?_) (fun za=> ?_)
  ·have z1:k<b.length:=by simpa using z8
   have zc:IntKind.i64.wrap ((k:Int)+1)=k+1:=wrap_i64 _ (by omega) (by omega);rw[Ea z1,w1r]at e2;have zh:acc1.length≤1000000000:=by have:=congrArg ul e2;simp only[yL]at this;omega
   obtain⟨lo,hlo⟩:∃z,(if a[j].lo<b[k].lo then b[k].lo else a[j].lo)=z:=⟨_,rfl⟩
   obtain⟨hi,zd⟩:∃z,(if b[k].hi<a[j].hi then b[k].hi else a[j].hi)=z:=⟨_,rfl⟩
   have hm:Ov a[j] b[k]=if lo≤hi then some ⟨lo,hi⟩else none:=by simp only[Ov,hlo,zd]
   rw[hm]at e2;repeat first|(refine r_ ?_;simp[z6,z1])|refine q_ ?_
   refine Qk tOk mixed [] (.val 0 (.val 1 (.val 2 (.val 3 (.val 4 (.val 5 (.val 6 (.val 7 (.val 8 (.val 9 (.val 10 (.val 11 (.val 12 (.val 13 (.val 14 (.val 15 (.val 16 (.val 17 (.val 18 (.val 19 (.val 20 (.val 21 (.val 22 (.val 23 (.done))))))))))))))))))))))))) rfl (by kernel_rfl) ?_;simp[z6,z1,hlo,zd];repeat first|(refine r_ ?_;simp)|refine q_ ?_
   refine Qa rfl (fun h3=> ?_) (fun h3=> ?_)
   ·rw[if_pos (by simpa using h3)]at e2;repeat first|(refine r_ ?_;simp)|refine q_ ?_
    refine Qf tOk rfl rfl U6 rfl A7 rfl (by decide) (by decide) rfl rfl rfl ?_;simp[Qb e1,Qj e1];refine⟨by simp[Wk,Qb e1,Qj e1]<;>omega,?_⟩;repeat first|(refine r_ ?_;simp[zc])|refine q_ ?_
    exact Qc (sl':=[(0,LIv a),(1,LIv b),(5,.sl (H3.length+1) 2 0 (acc1.length+1)),(6,.i j),(7,.i (k+1:Nat))]) (by
     have:=ih1 (k+1,H3.length+1,acc1++[(⟨lo,hi⟩:Iv)],H3.set q1 .dead++[.arr 187 2 [encIv (⟨lo,hi⟩:Iv)],.arr 187 2 ((acc1++[(⟨lo,hi⟩:Iv)]).map encIv)]) ⟨by simp;omega,by simp only;rw[zL (by simp)];simp,by simpa using e2⟩ (by simp;omega);simpa using this) (by simp)
   ·rw[if_neg (by simpa using h3)]at e2;repeat first|(refine r_ ?_;simp[zc])|refine q_ ?_
    exact Qc (sl':=[(0,LIv a),(1,LIv b),(5,.sl q1 2 0 acc1.length),(6,.i j),(7,.i (k+1:Nat))]) (by
     have:=ih1 (k+1,q1,acc1,H3) ⟨by simp;omega,e1,by simpa using e2⟩ (by simp;omega);simpa using this) (by simp)
  ·have z7:k=b.length:=by simp at za;omega
   subst z7;rw[ws,k1n,wC]at e2;repeat first|(refine r_ ?_;simp[hw])|refine q_ ?_
   exact Qc (sl':=[(0,LIv a),(1,LIv b),(5,.sl q1 2 0 acc1.length),(6,.i (j+1:Nat))]) (by
    have:=ih (j+1,q1,acc1,H3) ⟨by simp;omega,e1,e2⟩ (by simp;omega);simpa using this) (by simp)
 ·have zb:j=a.length:=by simp at zg;omega
  subst zb;rw[ws,f07,xO]at g2;subst g2;repeat first|(refine r_ ?_;simp)|refine q_ ?_
  refine I5 q g1 ?_;simp;rw[zV (by simp)];refine Qe rfl rfl (by simp) (u0e (Ri a b) hP ze) rfl ?_;rintro _ rfl;simp;repeat first|(refine r_ ?_;simp)|refine q_ ?_
theorem P9(x:Iv)(r:List Iv)(n:Int):Rj (x::r) n=(if n<x.lo then [⟨n,x.lo - 1⟩]else [])++Rj r (x.hi+1):=rfl
theorem Db(n:Int):Rj [] n=if n≤1099511627776 then [⟨n,1099511627776⟩]else []:=rfl
theorem w0y(l:List Iv):Rj l (-1099511627776)=Wv l:=rfl
attribute [local irreducible] Wv Rj
theorem Vp(l:List Iv)(hs:Sep l)(hb:∀n,M l n→inR n)(hlen:l.length≤1000000000):PC Tryz.prog 136 [LIv l] (fun r=>r=LIv (Wv l)):=by
 refine Ql tOk Tryz.func136 rfl Tryz.results136 rfl (by simp[Tryz.ntmps136]) ?_;rw[Tryz.ntmps136];simp only[Qg];have ze:=(Pb hs hb).2.2;repeat first|(refine r_ ?_;simp)|refine q_ ?_
 refine Q6 3 187 2 rfl ?_;simp;repeat first|(refine r_ ?_;simp)|refine q_ ?_
 refine Qo (Qc (sl':=[(0,LIv l),(3,.sl 0 2 0 0),(4,.i (-1099511627776)),(5,.i 0)]) ?_ (by simp));refine Qp (F:=fun(u:Nat×Nat×List Iv×Int×List AObj)=>⟨[(0,LIv l),(3,.sl u.2.1 2 0 u.2.2.1.length),(4,.i u.2.2.2.1),(5,.i u.1)],u.2.2.2.2⟩)
  (fun u=>u.1≤l.length∧u.2.2.2.2[u.2.1]? =some (.arr 187 2 (u.2.2.1.map encIv))∧u.2.2.1++Rj (l.drop u.1) u.2.2.2.1=Wv l) (fun u=>l.length - u.1) ?_ (0,0,[],-1099511627776,[.arr 187 2 []]) ⟨by simp,rfl,by simp[w0y]⟩
 rintro⟨j,q,acc,n,H2⟩ ⟨hj,g1,g2⟩ ih;simp only at hj g1 g2 ih ⊢;have zf:acc.length≤1000000001:=by have:=congrArg ul g2;simp only[yL]at this;omega
 repeat first|(refine r_ ?_;simp)|refine q_ ?_
 refine Qa rfl (fun z8=> ?_) (fun za=> ?_)
 ·have z1:j<l.length:=by simpa using z8
  have zb:=hb _ ⟨l[j],zT z1,xF _,hs.1 _ (zT z1)⟩;have zc:=hb _ ⟨l[j],zT z1,hs.1 _ (zT z1),xF _⟩;unfold inR at zb zc;have hw:IntKind.i64.wrap ((j:Int)+1)=j+1:=wrap_i64 _ (by omega) (by omega);have zd:IntKind.i64.wrap (l[j].lo - 1)=l[j].lo - 1:=wrap_i64 _ (by omega) (by omega);have z7:IntKind.i64.wrap (l[j].hi+1)=l[j].hi+1:=wrap_i64 _ (by omega) (by omega);rw[Ea z1,P9]at g2;repeat first|(refine r_ ?_;simp[z1])|refine q_ ?_
  refine Qa rfl (fun h3=> ?_) (fun h3=> ?_)
  ·rw[if_pos (by simpa using h3)]at g2;repeat first|(refine r_ ?_;simp[z1,zd])|refine q_ ?_
   refine Qf tOk rfl rfl U6 rfl A7 rfl (by decide) (by decide) rfl rfl rfl ?_;simp[Qb g1,Qj g1];refine⟨by simp[Wk,Qb g1,Qj g1]<;>omega,?_⟩;repeat first|(refine r_ ?_;simp[z1,hw,z7])|refine q_ ?_
   exact Qc (sl':=[(0,LIv l),(3,.sl (H2.length+1) 2 0 (acc.length+1)),(4,.i (l[j].hi+1)),(5,.i (j+1:Nat))]) (by
    have:=ih (j+1,H2.length+1,acc++[(⟨n,l[j].lo - 1⟩:Iv)],l[j].hi+1,H2.set q .dead++[.arr 187 2 [encIv (⟨n,l[j].lo - 1⟩:Iv)],.arr 187 2 ((acc++[(⟨n,l[j].lo - 1⟩:Iv)]).map encIv)]) ⟨by simp;omega,by simp only;rw[zL (by simp)];simp,by simpa using g2⟩ (by simp;omega);simpa using this) (by simp)
  ·rw[if_neg (by simpa using h3)]at g2;repeat first|(refine r_ ?_;simp[z1,hw,z7])|refine q_ ?_
   exact Qc (sl':=[(0,LIv l),(3,.sl q 2 0 acc.length),(4,.i (l[j].hi+1)),(5,.i (j+1:Nat))]) (by
    have:=ih (j+1,q,acc,l[j].hi+1,H2) ⟨by simp;omega,g1,by simpa using g2⟩ (by simp;omega);simpa using this) (by simp)
 ·have z6:j=l.length:=by simp at za;omega
  subst z6;rw[ws,Db]at g2;repeat first|(refine r_ ?_;simp)|refine q_ ?_
  refine Qa rfl (fun h3=> ?_) (fun h3=> ?_)
  ·rw[if_pos (by simpa using h3)]at g2;rw[←g2];repeat first|(refine r_ ?_;simp)|refine q_ ?_
   refine Qf tOk rfl rfl U6 rfl A7 rfl (by decide) (by decide) rfl rfl rfl ?_;simp[Qb g1,Qj g1];refine⟨by simp[Wk,Qb g1,Qj g1]<;>omega,?_⟩;repeat first|(refine r_ ?_;simp)|refine q_ ?_
   rw[zV (by simp)]
  ·rw[if_neg (by simpa using h3),xO]at g2;subst g2;repeat first|(refine r_ ?_;simp[g1])|refine q_ ?_
   rw[zV (by simp)]
theorem d05(a b:List Iv)(ha:Sep a)(hb:Sep b)(z1:a.length+b.length≤1000000000)(hi:∀x∈a,U5 x):PC Tryz.prog 166 [LIv a,LIv b] (fun r=>r=LIv (R4 a b)):=
 (w15 a b (by omega) (by omega) (by have:=g0e a b ha hb;omega) (c06 (.inl hi))).mono fun r h=>by rw[h,R4]
end Go.Abs
namespace Go.Abs
open Go Go.Proofs
structure GL (K G:List AObj) (S p:Nat) (pre post:List AV) (e sz:Nat) (xs:List AV):Prop where
 cell:G[S]? =some (.vars (pre++ .sl p sz 0 xs.length::post))
 arr:G[p]? =some (.arr e sz xs)
 ge:K.length≤p
 lt:S<K.length
 len:K.length≤G.length
 keep:∀j,j<K.length→j≠S→G[j]? =K[j]?
theorem GL.kp{K G:List AObj}{S p:Nat}{pre post:List AV}{e sz:Nat}{xs:List AV}(h:GL K G S p pre post e sz xs){j:Nat}{x:AObj}(hj:j≠S)(hx:K[j]? =some x):G[j]? =some x:=by rw[h.keep j (zE.1 hx).1 hj];exact hx
theorem GL.start{K:List AObj}{S:Nat}(pre post:List AV)(e sz:Nat)(h:S<K.length):GL K ((K++[AObj.arr e sz []]).set S (.vars (pre++ .sl K.length sz 0 0::post))) S K.length pre post e sz []:=
 ⟨zU (by simp;omega),by rw[zH (by omega)];simp,zW _,h,by simp,fun j hj z1=>by
  rw[zH (fun e=>z1 e.symm),zI hj]⟩
theorem GL.put{K G:List AObj}{S p:Nat}{pre post:List AV}{e sz:Nat}{xs:List AV}(h:GL K G S p pre post e sz xs)(A:AObj)(y:AV){n:Nat}(hn:n=xs.length):
  GL K ((G.set p .dead++[A,AObj.arr e sz (xs++[y])]).set S (.vars (pre++ .sl (G.length+1) sz 0 (n+1)::post))) S (G.length+1) pre post e sz (xs++[y]):=by
 have hl:=h.len;have z6:=h.lt;have z7:=h.ge;subst hn;refine⟨by rw[zU (by simp;omega)];simp,by rw[zH (by omega),zL (by simp)];simp,by omega,z6,by simp;omega,fun j hj z1=> ?_⟩;rw[zH (fun e=>z1 e.symm),zI (by simp;omega),zH (by omega)];exact h.keep j hj z1
theorem GL.at{K G:List AObj}{S p:Nat}{pre post:List AV}{e sz:Nat}{xs:List AV}(h:GL K G S p pre post e sz xs)(L:List AObj):(G.set p .dead++L)[S]? =some (.vars (pre++ .sl p sz 0 xs.length::post)):=by have hl:=h.len;have z1:=h.lt;have z6:=h.ge;rw[zI (by simp;omega),zH (by omega)];exact h.cell
def upL(F:Nat→List Iv)(j:Nat):List AV:=(yV j).map fun i=>encL (F i)
theorem P3(F:Nat→List Iv)(j:Nat):upL F (j+1)=upL F j++[encL (F j)]:=by simp[upL,List.range_succ]
theorem W8(F:Nat→List Iv)(j:Nat):(upL F j).length=j:=by simp[upL]
theorem Hd(F:Nat→List Iv)(n:Nat):upL F n=((yV n).map F).map encL:=by simp[upL]
theorem J4{α β:Type}(d:α)(f:α→β)(p:List α):(yV p.length).map (fun i=>f (p.getD i d))=p.map f:=by
 refine wP (by simp) fun i h1 h2=> ?_;have h:i<p.length:=by simpa using h1
 simp[y_,h]
theorem Pp(F:Nat→List Iv):upL F 0=[]:=rfl
attribute [local irreducible] upL
theorem v0r(T:Nat)(p:Prd)(hp:PWf T p)(hl:∀s∈p,s.length≤1000000000)(hT:T≤1000):PC Tryz.prog 135 [encP p] (fun r=>r=encP (W6 p)):=by
 refine Ql tOk Tryz.func135 rfl Tryz.results135 rfl (by simp[Tryz.ntmps135]) ?_;rw[Tryz.ntmps135];simp only[Qg];simp only[encP];have hlen:=hp.1;repeat first|(refine r_ ?_;simp)|refine q_ ?_
 refine Eo 2 0 171 1 rfl rfl ?_;simp;obtain⟨K,hK⟩:∃K,K=[AObj.vars [.list (p.map encL)],AObj.vars [AV.nils],AObj.vars [AV.nils]]:=⟨_,rfl⟩
 have ze:=GL.start (K:=K) (S:=2) [] [] 171 1 (by rw[hK];simp);refine Qo (Qc (sl':=[(1,.vptr 0 0),(2,.vptr 1 0),(3,.vptr 2 0),(4,.i 0)]) ?_ (by simp));refine Qp (F:=fun(u:Nat×Nat×List AObj)=>⟨[(1,.vptr 0 0),(2,.vptr 1 0),(3,.vptr 2 0),(4,.i u.1)],u.2.2⟩)
  (fun u=>u.1≤p.length∧GL K u.2.2 2 u.2.1 [] [] 171 1 (upL (fun i=>Wv (p.getD i [])) u.1)) (fun u=>p.length - u.1) ?_ (0,K.length,_) ⟨by simp,by rw[Pp,hK]at *;exact ze⟩
 rintro⟨j,q,H2⟩ ⟨hj,g⟩ ih;simp only[vZ,wC]at hj g ih ⊢;have g0:H2[0]? =some (AObj.vars [.list (p.map encL)]):=g.kp (by decide) (by rw[hK];rfl);have gR:H2[1]? =some (AObj.vars [AV.nils]):=g.kp (by decide) (by rw[hK];rfl);have g2:=g.cell;have g3:=g.arr;rw[W8]at g2;simp only[wC]at g2;repeat first|(refine r_ ?_;simp[g0])|refine q_ ?_
 refine Qa rfl (fun zf=> ?_) (fun zg=> ?_)
 ·have z1:j<p.length:=by simpa using zf
  have hw:IntKind.i64.wrap ((j:Int)+1)=j+1:=wrap_i64 _ (by omega) (by omega);have z7:∀L:List AObj,(H2.set q .dead++L)[2]? =some (AObj.vars [AV.sl q 1 0 j]):=fun L=>by have:=g.at L;rw[W8]at this;exact this
  have za:∀(L:List AObj) (h:2<(H2.set q .dead++L).length),(H2.set q .dead++L)[2]'h=AObj.vars [AV.sl q 1 0 j]:=fun L h=>by have:=z7 L;rw[zP h]at this;exact Option.some.inj this
  have zb:=fun A y=>g.put A y (W8 _ _).symm;have zh:upL (fun i=>Wv (p.getD i [])) j++[encL ((fun i=>Wv (p.getD i [])) j)]=upL (fun i=>Wv (p.getD i [])) (j+1):=(P3 _ _).symm;have z6:=fun H=>ih (j+1,H2.length+1,H);have z8:=W8 (fun i=>Wv (p.getD i [])) j;simp only[←zh]at z6;have hs:=hp.2 _ (zT z1);simp only[Wq z1]at *
  repeat first|(refine r_ ?_;simp[g0,g2])|refine q_ ?_
  refine Qk tOk mixed [9,11] (.val 0 (.val 1 (.val 2 (.val 3 (.val 4 (.val 5 (.val 6 (.one 7 (.one 8 (.one 9 (.val 10 (.one 11 (.done))))))))))))) rfl (by kernel_rfl) ?_;simp[z1,g0,g2];refine Qe rfl rfl (by simp) (Vp p[j] hs.1 hs.2 (hl _ (zT z1))) rfl ?_;rintro _ rfl;simp;repeat first|(refine r_ ?_;simp[g0,g2])|refine q_ ?_
  generalize upL (fun i=>Wv (p.getD i [])) j=xs at *
  refine Qf tOk rfl rfl T74 rfl U6 rfl (by decide) (by decide) rfl rfl rfl ?_;simp[Qb g3,Qj g3,z8,z7,za];refine⟨by simp[Wk,Qb g3,Qj g3,z8,z7,za]<;>omega,?_⟩;repeat first|(refine r_ ?_;simp[g0,g2,hw,z7,za])|refine q_ ?_
  refine Qc (sl':=[(1,.vptr 0 0),(2,.vptr 1 0),(3,.vptr 2 0),(4,.i (j+1:Nat))]) (z6 _ ⟨by omega,zb _ _⟩ (by omega)) ?_;simp
 ·have zc:j=p.length:=by(simp at zg;omega)
  subst zc;have hS:=(zE.1 g2).1;have zi:q≠1∧q≠2:=by have:=g.ge;rw[hK]at this;simp at this;omega
  have z8:=W8 (fun i=>Wv (p.getD i [])) (p.length);have zd: .list (upL (fun i=>Wv (p.getD i [])) (p.length))=AV.list ((W6 p).map encL):=by rw[Hd];rw[J4];rfl
  generalize upL (fun i=>Wv (p.getD i [])) (p.length)=xs at *
  refine We q g3 2 g2 ?_;have k1:∀X,((H2.set q .dead).set 2 X)[1]? =some (AObj.vars [AV.nils]):=fun X=>Qd (by decide) (Qd zi.1 gR _) _;have k2:∀X,((H2.set q .dead).set 2 X)[2]? =some X:=fun X=>zU (by simpa using hS);have k3:∀X Y,(((H2.set q .dead).set 2 X).set 1 Y)[1]? =some Y:=fun X Y=>Qh (k1 X) _;simp[z8];rw[zV (by omega)];repeat first|(refine r_ ?_;simp[k1,k2,k3])|refine q_ ?_
  exact AV.list.inj zd
theorem y0g(T:Int)(h0:0≤T)(hT:T≤1000):PC Tryz.prog 77 [.i T] (fun r=>r=encP (Wz T.toNat)):=by
 refine Ql tOk Tryz.func77 rfl Tryz.results77 rfl (by simp[Tryz.ntmps77]) ?_;rw[Tryz.ntmps77];simp only[Qg];simp only[encP];repeat first|(refine r_ ?_;simp)|refine q_ ?_
 refine Eo 1 0 171 1 rfl rfl ?_;simp;obtain⟨K,hK⟩:∃K,K=[AObj.vars [AV.nils],AObj.vars [AV.nils]]:=⟨_,rfl⟩
 have zd:=GL.start (K:=K) (S:=1) [] [] 171 1 (by rw[hK];simp);refine Qo (Qc (sl':=[(0,.i T),(2,.vptr 0 0),(3,.vptr 1 0),(4,.i 0)]) ?_ (by simp));refine Qp (F:=fun(u:Nat×Nat×List AObj)=>⟨[(0,.i T),(2,.vptr 0 0),(3,.vptr 1 0),(4,.i u.1)],u.2.2⟩)
  (fun u=>u.1≤T.toNat∧GL K u.2.2 1 u.2.1 [] [] 171 1 (upL (fun _=>Wv []) u.1)) (fun u=>T.toNat - u.1) ?_ (0,K.length,_) ⟨by simp,by rw[Pp,hK]at *;exact zd⟩
 rintro⟨j,q,H2⟩ ⟨hj,g⟩ ih;simp only[vZ,wC]at hj g ih ⊢;have g0:True:=trivial;have gR:H2[0]? =some (AObj.vars [AV.nils]):=g.kp (by decide) (by rw[hK];rfl);have g2:=g.cell;have g3:=g.arr;rw[W8]at g2;simp only[wC]at g2;repeat first|(refine r_ ?_;simp[g0])|refine q_ ?_
 refine Qa rfl (fun ze=> ?_) (fun zf=> ?_)
 ·have zg:j<T.toNat:=by(have:(j:Int)<T:=(by simpa using ze);omega)
  have hw:IntKind.i64.wrap ((j:Int)+1)=j+1:=wrap_i64 _ (by omega) (by omega);have z6:∀L:List AObj,(H2.set q .dead++L)[1]? =some (AObj.vars [AV.sl q 1 0 j]):=fun L=>by have:=g.at L;rw[W8]at this;exact this
  have z8:∀(L:List AObj) (h:1<(H2.set q .dead++L).length),(H2.set q .dead++L)[1]'h=AObj.vars [AV.sl q 1 0 j]:=fun L h=>by have:=z6 L;rw[zP h]at this;exact Option.some.inj this
  have za:=fun A y=>g.put A y (W8 _ _).symm;have zh:upL (fun _=>Wv []) j++[encL ((fun _=>Wv []) j)]=upL (fun _=>Wv []) (j+1):=(P3 _ _).symm;have z1:=fun H=>ih (j+1,H2.length+1,H);have z7:=W8 (fun _=>Wv []) j;simp only[←zh]at z1;repeat first|(refine r_ ?_;simp[g2])|refine q_ ?_
  refine Qk tOk mixed [4,6] (.val 0 (.val 1 (.one 2 (.one 3 (.one 4 (.val 5 (.one 6 (.done)))))))) rfl (by kernel_rfl) ?_;simp[g2];refine Qe rfl rfl (by simp) (Vp [] Lc (by simp[M]) (by simp)) rfl ?_;rintro _ rfl;simp;repeat first|(refine r_ ?_;simp[g2])|refine q_ ?_
  generalize upL (fun _=>Wv []) j=xs at *
  refine Qf tOk rfl rfl T74 rfl U6 rfl (by decide) (by decide) rfl rfl rfl ?_;simp[Qb g3,Qj g3,z7,z6,z8];refine⟨by simp[Wk,Qb g3,Qj g3,z7,z6,z8]<;>omega,?_⟩;repeat first|(refine r_ ?_;simp[g0,g2,hw,z6,z8])|refine q_ ?_
  refine Qc (sl':=[(0,.i T),(2,.vptr 0 0),(3,.vptr 1 0),(4,.i (j+1:Nat))]) (z1 _ ⟨by omega,za _ _⟩ (by omega)) ?_;simp
 ·have zb:j=T.toNat:=by(have:¬(j:Int)<T:=(by simpa using zf);omega)
  subst zb;have hS:=(zE.1 g2).1;have zi:q≠0∧q≠1:=by have:=g.ge;rw[hK]at this;simp at this;omega
  have z7:=W8 (fun _=>Wv []) (T.toNat);have zc: .list (upL (fun _=>Wv []) (T.toNat))=AV.list ((Wz T.toNat).map encL):=by rw[Hd];simp[Wz,Function.comp_def,uN]
  generalize upL (fun _=>Wv []) (T.toNat)=xs at *
  refine We q g3 1 g2 ?_;have k1:∀X,((H2.set q .dead).set 1 X)[0]? =some (AObj.vars [AV.nils]):=fun X=>Qd (by decide) (Qd zi.1 gR _) _;have k2:∀X,((H2.set q .dead).set 1 X)[1]? =some X:=fun X=>zU (by simpa using hS);have k3:∀X Y,(((H2.set q .dead).set 1 X).set 0 Y)[0]? =some Y:=fun X Y=>Qh (k1 X) _;simp[z7];rw[zV (by omega)];repeat first|(refine r_ ?_;simp[k1,k2,k3])|refine q_ ?_
  exact AV.list.inj zc
end Go.Abs
namespace Go.Abs
def sLt(x y:Sy):Prop:=x.ty<y.ty∨(x.ty=y.ty∧x.num<y.num)
theorem sLt.irr{x:Sy}(h:sLt x x):False:=by unfold sLt at h;omega
theorem sLt.trans{x y z:Sy}(h:sLt x y)(k:sLt y z):sLt x z:=by unfold sLt at *;omega
theorem sLt.tri(x y:Sy):sLt x y∨x=y∨sLt y x:=by cases x;cases y;unfold sLt;simp only[Sy.mk.injEq];omega
def M6:List Sy→List Sy→Prop
 |x::v,y::w=>sLt x y∨(x=y∧M6 v w)
 |_,_=>False
def ll(v w:List Sy):Prop:=v.length<w.length∨(v.length=w.length∧M6 v w)
def lle(v w:List Sy):Prop:=v=w∨ll v w
theorem M6.irr:∀ {v:List Sy},¬M6 v v
 |[],h=>h
 |x::v,h=>by
  rcases h with h|⟨_,h⟩
  ·exact h.irr
  ·exact M6.irr h
theorem M6.trans:∀ {u v w:List Sy},M6 u v→M6 v w→M6 u w
 |[],_,_,h,_=>h.elim
 |_::_,[],_,h,_=>h.elim
 |_::_,_::_,[],_,k=>k.elim
 |x::u,y::v,z::w,h,k=>by
  rcases h with h|⟨rfl,h⟩
  ·rcases k with k|⟨rfl,k⟩
   ·exact .inl (h.trans k)
   ·exact .inl h
  ·rcases k with k|⟨rfl,k⟩
   ·exact .inl k
   ·exact .inr ⟨rfl,h.trans k⟩
theorem ll.irr{v:List Sy}(h:ll v v):False:=by
 rcases h with h|⟨_,h⟩
 ·omega
 ·exact M6.irr h
theorem ll.trans{u v w:List Sy}(h:ll u v)(k:ll v w):ll u w:=by
 rcases h with h|⟨h1,h2⟩
 ·rcases k with k|⟨k1,_⟩
  ·exact .inl (by omega)
  ·exact .inl (by omega)
 ·rcases k with k|⟨k1,k2⟩
  ·exact .inl (by omega)
  ·exact .inr ⟨by omega,h2.trans k2⟩
theorem lle.refl(v:List Sy):lle v v:= .inl rfl
theorem lle.trans{u v w:List Sy}(h:lle u v)(k:lle v w):lle u w:=by
 rcases h with rfl|h
 ·exact k
 ·rcases k with rfl|k
  ·exact .inr h
  ·exact .inr (h.trans k)
theorem ll.lle{u v w:List Sy}(h:ll u v)(k:lle v w):ll u w:=by
 rcases k with rfl|k
 ·exact h
 ·exact h.trans k
theorem lle.anti{u v:List Sy}(h:lle u v)(k:lle v u):u=v:=by
 rcases h with rfl|h
 ·rfl
 ·exact((h.lle k).irr).elim
theorem q0q:∀ {u v:List Sy} (a b:List Sy),u.length=v.length→M6 u v→M6 (u++a) (v++b)
 |[],_,_,_,_,h=>h.elim
 |_::_,[],_,_,_,h=>h.elim
 |x::u,y::v,a,b,e,h=>by
  rcases h with h|⟨rfl,h⟩
  ·exact .inl h
  ·exact .inr ⟨rfl,q0q a b (by simpa using e) h⟩
theorem Mx:∀(u:List Sy) {a b:List Sy},M6 a b→M6 (u++a) (u++b)
 |[],_,_,h=>h
 |_::u,_,_,h=> .inr ⟨rfl,Mx u h⟩
theorem v05{u v:List Sy}(h:ll u v)(x y:Sy):ll (u++[x]) (v++[y]):=by
 rcases h with h|⟨h1,h2⟩
 ·exact .inl (by simp;omega)
 ·exact .inr ⟨by simp;omega,q0q _ _ h1 h2⟩
theorem q0z(u:List Sy){x y:Sy}(h:sLt x y):ll (u++[x]) (u++[y]):= .inr ⟨by simp,Mx u (.inl h)⟩
theorem x1b{u v:List Sy}(h:lle u v){x y:Sy}(k:x=y∨sLt x y):lle (u++[x]) (v++[y]):=by
 rcases h with rfl|h
 ·rcases k with rfl|k
  ·exact .inl rfl
  ·exact .inr (q0z _ k)
 ·exact .inr (v05 h x y)
theorem j12(u:List Sy)(x:Sy):ll u (u++[x]):= .inl (by simp)
theorem Ix{α:Type}[DecidableEq α]:∀(l U:List α),l.Nodup→(∀x∈l,x∈U)→l.length≤U.length
 |[],_,_,_=>wD _
 |x::l,U,hn,h=>by have hx:=h x (by simp);have hc:=List.nodup_cons.1 hn;have ih:=Ix l (U.erase x) hc.2 (fun y hy=>(List.mem_erase_of_ne (fun e=>hc.1 (by rw[←e];exact hy))).2 (h y (by simp[hy])));rw[List.length_erase_of_mem hx]at ih;have:=List.length_pos_of_mem hx;simp only[List.length_cons];omega
section
variable {σ:Type} [DecidableEq σ] (ok:Sy→Prop) (step:σ→Sy→σ) (good:σ→Bool)
def Yz(s:σ)(w:List Sy):σ:=w.foldl step s
structure FirstW (s:σ) (w:List Sy):Prop where
 okw:∀x∈w,ok x
 goodw:good (Yz step s w)=true
 least:∀v,(∀x∈v,ok x)→good (Yz step s v)=true→lle w v
variable {ok step good}
theorem FirstW.unique{s:σ}{v w:List Sy}(h:FirstW ok step good s v)(k:FirstW ok step good s w):v=w:=
 (h.least w k.okw k.goodw).anti (k.least v h.okw h.goodw)
variable (ok step good)
structure SuccOk (s:σ) (l:List (Sy×σ)):Prop where
 asc:l.Pairwise (fun a b=>sLt a.1 b.1)
 mem:∀e∈l,ok e.1∧e.2=step s e.1
 cov:∀y,ok y→∃e∈l,e.2=step s y∧(e.1=y∨sLt e.1 y)
variable (succ:σ→List (Sy×σ))
def g1t(l:List (σ×List Sy))(t:σ)(w:List Sy):List (σ×List Sy):=if t∈l.map (·.1)then l else l++[(t,w)]
def Df(l:List (σ×List Sy))(w:List Sy)(es:List (Sy×σ)):List (σ×List Sy):=es.foldl (fun l e=>g1t l e.2 (w++[e.1])) l
def g1v:Nat→Nat→List (σ×List Sy)→Option (List Sy)×List (σ×List Sy)
 |0,_,l=>(none,l)
 |f+1,n,l=>match l[n]? with
  |none=>(none,l)
  |some (s,w)=>if good s then(some w,l)else g1v f (n+1) (Df l w (succ s))
variable (s0:σ) (G:σ→Prop)
structure BInv (n:Nat) (L:List (σ×List Sy)) (done:List (Sy×σ)):Prop where
 first:L[0]? =some (s0,[])
 mem:∀e∈L,(∀x∈e.2,ok x)∧Yz step s0 e.2=e.1∧G e.1
 asc:L.Pairwise (fun a b=>ll a.2 b.2)
 nd:(L.map (·.1)).Nodup
 bad:∀i s w,i<n→L[i]? =some (s,w)→good s=false
 cls:∀i s w,i<n→L[i]? =some (s,w)→∀e∈succ s,∃v,(e.2,v)∈L∧lle v (w++[e.1])
 cur:∀s w,L[n]? =some (s,w)→∀e∈done,∃v,(e.2,v)∈L∧lle v (w++[e.1])
 org:∀d∈L,d.2=[]∨∃i s w x,L[i]? =some (s,w)∧d.2=w++[x]∧(i<n∨(i=n∧∃e∈done,e.1=x))
variable {ok step good succ s0 G}
theorem BInv.low{n:Nat}{L:List (σ×List Sy)}{done:List (Sy×σ)}(h:BInv ok step good succ s0 G n L done){s:σ}{w:List Sy}(hn:L[n]? =some (s,w))(x:Sy)(hx:∀e∈done,sLt e.1 x):∀e∈L,ll e.2 (w++[x]):=by
 intro d hd;rcases h.org d hd with e|⟨i,s',w',y,hi,e,hc⟩
 ·rw[e];exact .inl (by simp)
 ·rw[e];rcases hc with hc|⟨rfl,c,hc,rfl⟩
  ·obtain⟨h1,h2⟩:=zE.1 hi;obtain⟨h3,h4⟩:=zE.1 hn;have:=yU.1 h.asc i n h1 h3 hc;rw[h2,h4]at this;exact v05 this _ _
  ·rw[hn]at hi;cases hi;exact q0z _ (hx c hc)
theorem BInv.add {n:Nat} {L:List (σ×List Sy)} {done:List (Sy×σ)} (h:BInv ok step good succ s0 G n L done) {s:σ} {w:List Sy} (hn:L[n]? =some (s,w)) {e:Sy×σ} (he:ok e.1∧e.2=step s e.1) (hG:G e.2)
  (z8:∀d∈done,sLt d.1 e.1):BInv ok step good succ s0 G n (g1t L e.2 (w++[e.1])) (done++[e])∧(g1t L e.2 (w++[e.1]))[n]? =some (s,w):=by
 have zb:=(zE.1 hn).1;have z7:=h.low hn e.1 z8;unfold g1t;by_cases hin:e.2∈L.map (·.1)
 ·rw[if_pos hin];obtain⟨⟨t,v⟩,hv,ht⟩:=zX.1 hin;simp only at ht;subst ht;refine⟨⟨h.first,h.mem,h.asc,h.nd,h.bad,h.cls,fun s' w' z6 d hd=> ?_,fun d hd=> ?_⟩,hn⟩
  ·rw[hn]at z6;cases z6;rcases yH.1 hd with hd|hd
   ·exact h.cur s w hn d hd
   ·obtain rfl:=z_.1 hd;exact⟨v,hv,.inr (z7 _ hv)⟩
  ·rcases h.org d hd with e'|⟨i,s',w',y,hi,e',hc⟩
   ·exact .inl e'
   ·exact .inr ⟨i,s',w',y,hi,e',hc.imp id fun⟨k1,c,k2,k3⟩=>⟨k1,c,xL _ k2,k3⟩⟩
 ·rw[if_neg hin];have z1:∀i,i≤n→(L++[(e.2,w++[e.1])])[i]? =L[i]? :=fun i hi=>zI (by omega);have hw:=h.mem _ (zO hn);refine⟨⟨by rw[z1 0 (wD _)];exact h.first,fun d hd=> ?_,?_,?_,fun i s' w' hi z6=>h.bad i s' w' hi (by rw[←z1 i (by omega)];exact z6),fun i s' w' hi z6 d hd=> ?_,fun s' w' z6 d hd=> ?_,fun d hd=> ?_⟩,by rw[z1 n (zW _)];exact hn⟩
  ·rcases yH.1 hd with hd|hd
   ·exact h.mem d hd
   ·obtain rfl:=z_.1 hd;refine⟨fun x hx=> ?_,?_,hG⟩
    ·rcases yH.1 hx with hx|hx
     ·exact hw.1 x hx
     ·obtain rfl:=z_.1 hx;exact he.1
    ·show Yz step s0 (w++[e.1])=e.2;have h2:Yz step s0 w=s:=hw.2.1;rw[Yz,vA];show step (Yz step s0 w) e.1=e.2;rw[h2,he.2]
  ·exact yS.2 ⟨h.asc,by simp,fun a ha b hb=>by obtain rfl:=z_.1 hb;exact z7 a ha⟩
  ·rw[yX];exact vT.2 ⟨h.nd,by simp,fun a ha b hb e'=>by
    simp at hb;subst hb;subst e';exact hin ha⟩
  ·rw[z1 i (by omega)]at z6;obtain⟨v,hv,hl⟩:=h.cls i s' w' hi z6 d hd;exact⟨v,xL _ hv,hl⟩
  ·rw[z1 n (zW _),hn]at z6;cases z6;rcases yH.1 hd with hd|hd
   ·obtain⟨v,hv,hl⟩:=h.cur s w hn d hd;exact⟨v,xL _ hv,hl⟩
   ·obtain rfl:=z_.1 hd;exact⟨_,uy _ (by simp),.inl rfl⟩
  ·rcases yH.1 hd with hd|hd
   ·rcases h.org d hd with e'|⟨i,s',w',y,hi,e',hc⟩
    ·exact .inl e'
    ·have za:i≤n:=by rcases hc with hc|hc<;>omega
     exact .inr ⟨i,s',w',y,by rw[z1 i za];exact hi,e',hc.imp id fun⟨k1,c,k2,k3⟩=>⟨k1,c,xL _ k2,k3⟩⟩
   ·obtain rfl:=z_.1 hd;exact .inr ⟨n,s,w,e.1,by rw[z1 n (zW _)];exact hn,rfl,.inr ⟨rfl,e,by simp,rfl⟩⟩
theorem BInv.round{n:Nat}:∀(es:List (Sy×σ)) (done:List (Sy×σ)) (L:List (σ×List Sy)) {s:σ} {w:List Sy},BInv ok step good succ s0 G n L done→L[n]? =some (s,w)→(∀e∈es,ok e.1∧e.2=step s e.1)→(∀e∈es,G e.2)→
  (done++es).Pairwise (fun a b=>sLt a.1 b.1)→BInv ok step good succ s0 G n (Df L w es) (done++es)∧(Df L w es)[n]? =some (s,w)
 |[],done,L,s,w,h,hn,_,_,_=>by simpa[Df]using⟨h,hn⟩
 |e::es,done,L,s,w,h,hn,hm,hG,hp=>by have z1:∀d∈done,sLt d.1 e.1:=fun d hd=>(yS.1 hp).2.2 d hd e (by simp);obtain⟨h1,h2⟩:=h.add hn (hm e (by simp)) (hG e (by simp)) z1;have:=BInv.round es (done++[e]) _ h1 h2 (fun d hd=>hm d (by simp[hd])) (fun d hd=>hG d (by simp[hd])) (by simpa using hp);simpa[Df]using this
theorem BInv.next{n:Nat}{L:List (σ×List Sy)}{s:σ}{w:List Sy}(h:BInv ok step good succ s0 G n L [])(hn:L[n]? =some (s,w))(hg:good s=false)(hs:SuccOk ok step s (succ s))(hG:∀e∈succ s,G e.2):
  BInv ok step good succ s0 G (n+1) (Df L w (succ s)) []:=by
 obtain⟨h1,h2⟩:=h.round (succ s) [] L hn hs.mem hG (by simpa using hs.asc);rw[wC]at h1;refine⟨h1.first,h1.mem,h1.asc,h1.nd,fun i s' w' hi z1=> ?_,fun i s' w' hi z1 d hd=> ?_,fun _ _ _ _ hd=>(by cases hd),fun d hd=> ?_⟩
 ·by_cases hin:i<n
  ·exact h1.bad i s' w' hin z1
  ·have:i=n:=by omega
   subst this;rw[h2]at z1;cases z1;exact hg
 ·by_cases hin:i<n
  ·exact h1.cls i s' w' hin z1 d hd
  ·have:i=n:=by omega
   subst this;rw[h2]at z1;cases z1;exact h1.cur s w h2 d hd
 ·rcases h1.org d hd with e'|⟨i,s',w',y,hi,e',hc⟩
  ·exact .inl e'
  ·exact .inr ⟨i,s',w',y,hi,e',.inl (by rcases hc with hc|hc<;>omega)⟩
theorem BInv.reach{n:Nat}{L:List (σ×List Sy)}(h:BInv ok step good succ s0 G n L [])(hs:∀s,G s→SuccOk ok step s (succ s)):∀(r:List Sy),(∀x∈r,ok x)→
  (∃v,(Yz step s0 r.reverse,v)∈L∧lle v r.reverse)∨∃i s w,n≤i∧L[i]? =some (s,w)∧lle w r.reverse
 |[],_=> .inl ⟨[],zO h.first,lle.refl _⟩
 |x::r,hx=>by
  have z1:ll r.reverse (x::r).reverse:=by rw[uD];exact j12 _ _
  rcases BInv.reach h hs r (fun y hy=>hx y (by simp[hy]))with⟨v,hv,hl⟩|⟨i,s,w,h1,h2,h3⟩
  ·obtain⟨i,hi⟩:=yR.1 hv;by_cases hin:i<n
   ·obtain⟨e,he,e1,e2⟩:=(hs _ (h.mem _ hv).2.2).cov x (hx x (by simp));obtain⟨u,hu,z6⟩:=h.cls i _ _ hin hi e he;refine .inl ⟨u,?_,?_⟩
    ·rw[uD,Yz,vA];show(step (Yz step s0 r.reverse) x,u)∈L;rw[←e1];exact hu
    ·rw[uD];exact z6.trans (x1b hl e2)
   ·exact .inr ⟨i,_,v,by omega,hi,hl.trans (.inr z1)⟩
  ·exact .inr ⟨i,s,w,h1,h2,h3.trans (.inr z1)⟩
theorem BInv.found{n:Nat}{L:List (σ×List Sy)}{s:σ}{w:List Sy}(h:BInv ok step good succ s0 G n L [])(hs:∀s,G s→SuccOk ok step s (succ s))(hn:L[n]? =some (s,w))(hg:good s=true):FirstW ok step good s0 w:=by
 have hm:=h.mem _ (zO hn);refine⟨hm.1,by rw[hm.2.1];exact hg,fun v hv z1=> ?_⟩;have hle:∀i s' w',n≤i→L[i]? =some (s',w')→lle w w':=fun i s' w' hi hl=>by
  obtain⟨h1,h2⟩:=zE.1 hn;obtain⟨h3,h4⟩:=zE.1 hl;rcases Nat.lt_or_eq_of_le hi with hlt|rfl
  ·have:=yU.1 h.asc n i h1 h3 hlt;rw[h2,h4]at this;exact .inr this
  ·rw[hn]at hl;cases hl;exact .inl rfl
 rcases h.reach hs v.reverse (fun x hx=>hv x (by simpa using hx))with⟨u,hu,hl⟩|⟨i,s',w',h1,h2,h3⟩
 ·rw[ut]at hu hl;obtain⟨i,hi⟩:=yR.1 hu;by_cases hin:i<n
  ·have:=h.bad i _ _ hin hi;rw[this]at z1;cases z1
  ·exact(hle i _ _ (by omega) hi).trans hl
 ·rw[ut]at h3;exact(hle i _ _ h1 h2).trans h3
theorem BInv.none{n:Nat}{L:List (σ×List Sy)}(h:BInv ok step good succ s0 G n L [])(hs:∀s,G s→SuccOk ok step s (succ s))(hn:L[n]? =none):
  (∀v,(∀x∈v,ok x)→Yz step s0 v∈L.map (·.1)∧good (Yz step s0 v)=false):=by
 intro v hv;have hlen:=List.getElem?_eq_none_iff.1 hn;rcases h.reach hs v.reverse (fun x hx=>hv x (by simpa using hx))with⟨u,hu,_⟩|⟨i,s',w',h1,h2,_⟩
 ·rw[ut]at hu;obtain⟨i,hi⟩:=yR.1 hu;have:=(zE.1 hi).1;exact⟨zX.2 ⟨_,hu,rfl⟩,h.bad i _ _ (by omega) hi⟩
 ·have:=(zE.1 h2).1;omega
theorem M7(hs:∀s,G s→SuccOk ok step s (succ s))(hG:∀s,G s→∀e∈succ s,G e.2)(U:List σ)(hU:∀s,G s→s∈U):∀(f n:Nat) (L:List (σ×List Sy)),U.length+1≤n+f→n≤L.length→BInv ok step good succ s0 G n L []→
  (∃w L',g1v good succ f n L=(some w,L')∧FirstW ok step good s0 w)∨
  (∃L',g1v good succ f n L=(Option.none,L')∧(L'.map (·.1)).Nodup∧(∀e∈L',(∀x∈e.2,ok x)∧Yz step s0 e.2=e.1∧G e.1)∧∀v,(∀x∈v,ok x)→Yz step s0 v∈L'.map (·.1)∧good (Yz step s0 v)=false)
 |0,n,L,hf,hn,h=>by
  exfalso;have:=Ix _ U h.nd (fun s hs=>by
   obtain⟨e,he,rfl⟩:=zX.1 hs;exact hU _ (h.mem e he).2.2)
  simp at this;omega
 |f+1,n,L,hf,hn,h=>by
  rw[g1v];cases hl:L[n]? with
  |none=>exact .inr ⟨L,rfl,h.nd,h.mem,h.none hs hl⟩
  |some e=>
   obtain⟨s,w⟩:=e;simp only;cases hg:good s with
   |true=>rw[if_pos rfl];exact .inl ⟨w,L,rfl,h.found hs hl hg⟩
   |false=>
    rw[if_neg (by simp)];have z1:=(h.mem _ (zO hl)).2.2;have h':=h.next hl hg (hs s z1) (hG s z1);refine M7 hs hG U hU f (n+1) _ (by omega) ?_ h';have z6:=(zE.1 hl).1;have z7:∀(es:List (Sy×σ)) (L:List (σ×List Sy)),L.length≤(Df L w es).length:=by
     intro es;induction es with
     |nil=>intro L;exact zW _
     |cons e es ih=>
      intro L;refine yW ?_ (ih (g1t L e.2 (w++[e.1])));unfold g1t;split
      ·exact zW _
      ·simp
    exact yW z6 (z7 _ _)
theorem y0a(z1:G s0):BInv ok step good succ s0 G 0 [(s0,[])] []:=
 ⟨rfl,fun e he=>by obtain rfl:=z_.1 he;exact⟨by simp,rfl,z1⟩,by simp,by simp,fun i _ _ hi=>by omega,fun i _ _ hi=>by omega,fun _ _ _ _ hd=>(by cases hd),fun d hd=>by obtain rfl:=z_.1 hd;exact .inl rfl⟩
end
end Go.Abs
namespace Go.Abs
structure Dfa (a:Aut):Prop where
 ok:OkA a
 det:Su a
 full:v0g a
def toL(a:Aut)(s:Int)(x:Sy):Int:=match a.mv.find? (fun m=>decide (m.src=s) && Tn m.on x)with|some m=>m.dst|none=> -1
def inS(a:Aut)(s:Int):Prop:=0≤s∧s<a.fin.length
theorem Dfa.next{a:Aut}(h:Dfa a){s:Int}(hs:inS a s){x:Sy}(hx:Ew a x):inS a (toL a s x)∧Wh a [s] x=[toL a s x]:=by
 obtain⟨t,t0,t1,e⟩:=z1u h.ok.wfA h.det h.full hs.1 hs.2 hx;obtain⟨m,hm,h1,h2⟩:=h.full s hs.1 hs.2 x hx;have hf:toL a s x=t:=by
  unfold toL;cases hq:a.mv.find? (fun m=>decide (m.src=s) && Tn m.on x)with
  |none=>have:=uh.1 hq m hm;simp[h1,h2]at this
  |some k=>have hk:=uj hq;have hp:=List.find?_some hq;simp at hp;have z1:k.dst∈Wh a [s] x:=Ra.2 ⟨h.ok.wfA.dst k hk,k,hk,by rw[hp.1];simp,hp.2,rfl⟩;rw[e]at z1;exact z_.1 z1
 rw[hf];exact⟨⟨t0,t1⟩,e⟩
theorem Dfa.to_of{a:Aut}(h:Dfa a){m:Mv}(hm:m∈a.mv){x:Sy}(hx:Ew a x)(hh:Tn m.on x=true):toL a m.src x=m.dst:=by have hs:inS a m.src:=h.ok.wfA.src m hm;have h1:=(h.next hs hx).2;have z1:m.dst∈Wh a [m.src] x:=Ra.2 ⟨h.ok.wfA.dst m hm,m,hm,by simp,hh,rfl⟩;rw[h1]at z1;exact(z_.1 z1).symm
theorem Dfa.move{a:Aut}(h:Dfa a){s:Int}(hs:inS a s){x:Sy}(hx:Ew a x):∃m∈a.mv,m.src=s∧Tn m.on x=true∧m.dst=toL a s x:=by obtain⟨m,hm,h1,h2⟩:=h.full s hs.1 hs.2 x hx;exact⟨m,hm,h1,h2,by rw[←h1,h.to_of hm hx h2]⟩
theorem M1{a:Aut}{x y:Sy}(h:∀m∈a.mv,Tn m.on x=Tn m.on y)(s:Int):toL a s x=toL a s y:=by
 unfold toL;have:a.mv.find? (fun m=>decide (m.src=s) && Tn m.on x)=a.mv.find? (fun m=>decide (m.src=s) && Tn m.on y):=by
  generalize a.mv=l at h;induction l with
  |nil=>rfl
  |cons m l ih=>rw[tP,tP,h m (by simp),ih (fun k hk=>h k (by simp[hk]))]
 rw[this]
def stF(a:Aut)(s:Int)(w:List Sy):Int:=w.foldl (toL a) s
def w1o(a:Aut)(s:Int)(w:List Sy):Bool:=a.fin.getD (stF a s w).toNat false
theorem Dfa.zero{a:Aut}(h:Dfa a):inS a 0:=⟨xF _,by have:=h.ok.fin;omega⟩
structure Ltr (T:Nat) (l cl:List Prd):Prop where
 prts:Prts T l cl
 asc:cl.Pairwise v0h
 len:∀p∈l,p.length=T
def okT(T:Nat)(x:Sy):Prop:=0≤x.ty∧x.ty.toNat<T∧inR x.num
theorem q2x{T:Nat}(hT:0<T){l:List Prd}(hl:∀p∈l,PCk T p):Ltr T l (Q3 T l):=by obtain⟨h1,h2⟩:=Us hT hl;exact⟨h1,h2,fun p hp=>(hl p hp).1⟩
theorem c0f{p:Prd}{t:Nat}{n:Int}(h:U4 (Qz p 0).1 (Qz p 0).2 t n):sLt (Qn p) ⟨t,n⟩:=by unfold U4 at h;unfold sLt Qn;simp only;omega
theorem Ltr.least{T:Nat}{l cl:List Prd}(h:Ltr T l cl){c:Prd}(hc:c∈cl):okT T (Qn c)∧PM c (Qn c).ty.toNat (Qn c).num:=by have h1:=(Ww (h.prts.wf c hc) (h.prts.ne c hc)).1;have h2:=(h.prts.wf c hc).lt h1;exact⟨⟨by simp[Qn],by simpa[Qn]using h2.1,h2.2⟩,by simpa[Qn]using h1⟩
theorem Ltr.sig{T:Nat}{l cl:List Prd}(h:Ltr T l cl){c:Prd}(hc:c∈cl){x y:Sy}(hx:okT T x)(hy:okT T y)(z1:PM c x.ty.toNat x.num)(z6:PM c y.ty.toNat y.num):∀p∈l,Tn p x=Tn p y:=fun p hp=>by have h2:=((h.prts.cls c hc _ _ z1 _ _).1 z6).2.2 p hp;rw[wO,Ex (h.len p hp) x hx.1,Ex (h.len p hp) y hy.1];exact h2
theorem Ltr.cov{T:Nat}{l cl:List Prd}(h:Ltr T l cl){x:Sy}(hx:okT T x):∃c∈cl,PM c x.ty.toNat x.num∧(Qn c=x∨sLt (Qn c) x)∧∀p∈l,Tn p x=Tn p (Qn c):=by
 obtain⟨c,hc,hm⟩:=h.prts.all x.ty.toNat x.num hx.2.1 hx.2.2;obtain⟨h1,h2⟩:=h.least hc;refine⟨c,hc,hm,?_,h.sig hc hx h1 hm h2⟩;rcases(Ww (h.prts.wf c hc) (h.prts.ne c hc)).2 _ _ hm with⟨e1,e2⟩|hlt
 ·left;unfold Qn;rw[e1,e2,show((x.ty.toNat:Nat):Int)=x.ty by have:=hx.1;omega]
 ·right;have:=c0f hlt;have e:(⟨(x.ty.toNat:Int),x.num⟩:Sy)=x:=by rw[show((x.ty.toNat:Nat):Int)=x.ty by have:=hx.1;omega]
  rw[e]at this;exact this
theorem Ltr.ascS{T:Nat}{l cl:List Prd}(h:Ltr T l cl):(cl.map Qn).Pairwise sLt:=by
 refine wU.2 (h.asc.imp_of_mem fun {p q} hp hq hlt=> ?_);obtain⟨t,n,hm,z1⟩:=hlt;have h1:=z1 _ _ (Ww (h.prts.wf q hq) (h.prts.ne q hq)).1;have h2:U4 (Qz p 0).1 (Qz p 0).2 (Qz q 0).1 (Qz q 0).2:=by
  rcases(Ww (h.prts.wf p hp) (h.prts.ne p hp)).2 t n hm with⟨e1,e2⟩|h3
  ·rw[e1,e2];exact h1
  ·exact h3.trans h1
 exact c0f h2
def Ep(a b:Aut):List Sy:=(Q3 a.types.toNat (onA a++onA b)).map Qn
def T6(a b:Aut)(s:Int×Int)(x:Sy):Int×Int:=(toL a s.1 x,toL b s.2 x)
def u0i(a b:Aut)(s:Int×Int):List (Sy×(Int×Int)):=(Ep a b).map fun x=>(x,T6 a b s x)
theorem Pg{a:Aut}{x:Sy}:okT a.types.toNat x↔Ew a x:=by
 unfold okT Ew;constructor
 ·rintro⟨h1,h2,h3⟩;exact⟨⟨h1,by omega⟩,h3⟩
 ·rintro⟨⟨h1,h2⟩,h3⟩;exact⟨h1,by omega,h3⟩
theorem c1l{a b:Aut}(ha:OkA a)(hb:OkA b)(ht:b.types=a.types):Ltr a.types.toNat (onA a++onA b) (Q3 a.types.toNat (onA a++onA b)):=
 q2x (by have:=ha.types;omega) fun p hp=>by
  rcases yH.1 hp with hp|hp
  ·exact Jz ha p hp
  ·rw[←ht];exact Jz hb p hp
theorem v0s{a:Aut}{m:Mv}(h:m∈a.mv):m.on∈onA a:=zX.2 ⟨m,h,rfl⟩
theorem Zf{a b:Aut}(ha:OkA a)(hb:OkA b)(ht:b.types=a.types)(s:Int×Int):SuccOk (Ew a) (T6 a b) s (u0i a b s):=by
 have hl:=c1l ha hb ht;refine⟨?_,fun e he=> ?_,fun y hy=> ?_⟩
 ·unfold u0i;exact wU.2 (hl.ascS.imp fun h=>h)
 ·obtain⟨x,hx,rfl⟩:=zX.1 he;obtain⟨c,hc,rfl⟩:=zX.1 hx;exact⟨Pg.1 (hl.least hc).1,rfl⟩
 ·obtain⟨c,hc,hm,hle,z1⟩:=hl.cov (Pg.2 hy);refine⟨(Qn c,T6 a b s (Qn c)),zX.2 ⟨Qn c,zX.2 ⟨c,hc,rfl⟩,rfl⟩,?_,hle⟩;unfold T6;rw[M1 (fun m hm=>(z1 m.on (xL _ (v0s hm))).symm),M1 (a:=b) (fun m hm=>(z1 m.on (uy _ (v0s hm))).symm)]
def Tt(a b:Aut)(s:Int×Int):Bool:=a.fin.getD s.1.toNat false != b.fin.getD s.2.toNat false
def Ao(a b:Aut)(p q:Int):Option (List Sy)×List ((Int×Int)×List Sy):=g1v (Tt a b) (u0i a b) (a.fin.length * b.fin.length+1) 0 [((p,q),[])]
theorem C9(a b:Aut):∀(w:List Sy) (p q:Int),Yz (T6 a b) (p,q) w=(stF a p w,stF b q w)
 |[],_,_=>rfl
 |x::w,p,q=>C9 a b w (toL a p x) (toL b q x)
def O5(a b:Aut):List (Int×Int):=(Rt a.fin.length).flatMap fun i=>(Rt b.fin.length).map fun j=>(i,j)
theorem Pw(a b:Aut):(O5 a b).length=a.fin.length * b.fin.length:=by unfold O5;rw[List.length_flatMap,xZ (g:=fun _=>b.fin.length) (fun i _=>by simp[Rt]),uN,List.sum_replicate_nat];simp[Rt]
theorem Fs{a b:Aut}{s:Int×Int}(h1:inS a s.1)(h2:inS b s.2):s∈O5 a b:=by unfold O5;rw[wZ];exact⟨s.1,Ru.2 h1,zX.2 ⟨s.2,Ru.2 h2,rfl⟩⟩
def v1l(a b:Aut)(p q:Int)(w:List Sy):Prop:=FirstW (Ew a) (T6 a b) (Tt a b) (p,q) w
theorem Ld(a b:Aut)(p q:Int)(w:List Sy):Tt a b (Yz (T6 a b) (p,q) w)=true↔w1o a p w≠w1o b q w:=by rw[C9];simp[Tt,w1o]
theorem Ch{a b:Aut}(ha:Dfa a)(hb:Dfa b)(ht:b.types=a.types){p q:Int}(hp:inS a p)(hq:inS b q):
  (∃w,(Ao a b p q).1=some w∧v1l a b p q w)∨((Ao a b p q).1=none∧∀w,(∀x∈w,Ew a x)→w1o a p w=w1o b q w):=by
 have z1:∀x,Ew a x→Ew b x:=fun x hx=>by unfold Ew at *;rw[ht];exact hx
 rcases M7 (ok:=Ew a) (step:=T6 a b) (good:=Tt a b) (succ:=u0i a b) (s0:=(p,q)) (G:=fun s=>inS a s.1∧inS b s.2) (fun s _=>Zf ha.ok hb.ok ht s)
  (fun s hs e he=>by
   obtain⟨h1,h2⟩:=(Zf ha.ok hb.ok ht s).mem e he;rw[h2];exact⟨(ha.next hs.1 h1).1,(hb.next hs.2 (z1 _ h1)).1⟩) (O5 a b) (fun s hs=>Fs hs.1 hs.2) (a.fin.length * b.fin.length+1) 0 [((p,q),[])] (by rw[Pw];omega) (by simp) (y0a ⟨hp,hq⟩)with⟨w,L,h1,h2⟩|⟨L,h1,_,_,h2⟩
 ·exact .inl ⟨w,by rw[Ao,h1],h2⟩
 ·refine .inr ⟨by rw[Ao,h1],fun w hw=> ?_⟩;have:=(h2 w hw).2;by_cases hd:w1o a p w=w1o b q w
  ·exact hd
  ·rw[(Ld a b p q w).2 hd]at this;cases this
end Go.Abs
namespace Go.Abs
def Wa(a:Aut)(s:Int):List Mv:=a.mv.filter fun m=>decide (m.src=s) && !Wi m.on
def Wj(a b:Aut)(s:Int×Int):List (Sy×(Int×Int)):=(Wa a s.1).flatMap fun m=>(Wa b s.2).filterMap fun n=>if Wi (Wc m.on n.on)then none else some (Qn (Wc m.on n.on),(m.dst,n.dst))
theorem Wu{a:Aut}{s:Int}{m:Mv}:m∈Wa a s↔m∈a.mv∧m.src=s∧Wi m.on=false:=by unfold Wa;rw[xU];simp
theorem Ue{a b:Aut}{s:Int×Int}{e:Sy×(Int×Int)}:e∈Wj a b s↔∃m∈Wa a s.1,∃n∈Wa b s.2,Wi (Wc m.on n.on)=false∧e=(Qn (Wc m.on n.on),(m.dst,n.dst)):=by
 unfold Wj;rw[wZ];constructor
 ·rintro⟨m,hm,h⟩;obtain⟨n,hn,h⟩:=vX.1 h;cases hv:Wi (Wc m.on n.on)
  ·rw[hv,if_neg (by simp)]at h;cases h;exact⟨m,hm,n,hn,hv,rfl⟩
  ·rw[hv,if_pos rfl]at h;cases h
 ·rintro⟨m,hm,n,hn,hv,rfl⟩;exact⟨m,hm,vX.2 ⟨n,hn,by rw[hv,if_neg (by simp)]⟩⟩
theorem Tc{T:Nat}{p:Prd}(h:PWf T p):Wi p=false↔∃t n,PM p t n:=by
 cases hv:Wi p
 ·simp only[true_iff];apply Classical.byContradiction;intro hn;have:=(Ro h).2 (fun t n hm=>hn ⟨t,n,hm⟩);rw[hv]at this;cases this
 ·simp only[Bool.true_eq_false,false_iff];rintro⟨t,n,hm⟩;exact(Ro h).1 hv t n hm
theorem Un{T:Nat}{p:Prd}(h:PWf T p)(hn:∃t n,PM p t n):okT T (Qn p)∧PM p (Qn p).ty.toNat (Qn p).num∧∀x,okT T x→PM p x.ty.toNat x.num→Qn p=x∨sLt (Qn p) x:=by
 have h1:=Ww h hn;have h2:=h.lt h1.1;refine⟨⟨by simp[Qn],by simpa[Qn]using h2.1,h2.2⟩,by simpa[Qn]using h1.1,fun x hx hm=> ?_⟩;rcases h1.2 _ _ hm with⟨e1,e2⟩|hlt
 ·left;unfold Qn;rw[e1,e2,show((x.ty.toNat:Nat):Int)=x.ty by have:=hx.1;omega]
 ·right;have:=c0f hlt;have e:(⟨(x.ty.toNat:Int),x.num⟩:Sy)=x:=by rw[show((x.ty.toNat:Nat):Int)=x.ty by have:=hx.1;omega]
  rw[e]at this;exact this
theorem P0{a b:Aut}(ha:Dfa a)(hb:Dfa b)(ht:b.types=a.types){s:Int×Int}(h1:inS a s.1)(h2:inS b s.2):
  (∀e∈Wj a b s,Ew a e.1∧e.2=T6 a b s e.1)∧∀y,Ew a y→∃e∈Wj a b s,e.2=T6 a b s y∧(e.1=y∨sLt e.1 y):=by
 have z1:∀x,Ew a x→Ew b x:=fun x hx=>by unfold Ew at *;rw[ht];exact hx
 have z7:∀ {m n:Mv},m∈a.mv→n∈b.mv→PWf a.types.toNat m.on∧PWf a.types.toNat n.on:=fun hm hn=>⟨ha.ok.wfA.on _ hm,by rw[←ht];exact hb.ok.wfA.on _ hn⟩
 constructor
 ·intro e he;obtain⟨m,hm,n,hn,hv,rfl⟩:=Ue.1 he;obtain⟨m1,m2,_⟩:=Wu.1 hm;obtain⟨n1,n2,_⟩:=Wu.1 hn;obtain⟨w1,w2⟩:=z7 m1 n1;have hw:=Tb w1 w2.1;obtain⟨k1,k2,_⟩:=Un hw ((Tc hw).1 hv);have hk:=Pg.1 k1;obtain⟨p1,p2⟩:=(Ef w1.1 w2.1 _ _).1 k2;refine⟨hk,?_⟩;unfold T6;rw[←m2,←n2,ha.to_of m1 hk ((Ex w1.1 _ hk.1.1).2 p1),hb.to_of n1 (z1 _ hk) ((Ex w2.1 _ hk.1.1).2 p2)]
 ·intro y hy;obtain⟨m,m1,m2,m3,m4⟩:=ha.move h1 hy;obtain⟨n,n1,n2,n3,n4⟩:=hb.move h2 (z1 y hy);obtain⟨w1,w2⟩:=z7 m1 n1;have hw:=Tb w1 w2.1;have p1:=(Ex w1.1 y hy.1.1).1 m3;have p2:=(Ex w2.1 y hy.1.1).1 n3;have z6:=(Ef w1.1 w2.1 _ _).2 ⟨p1,p2⟩;have hv:=(Tc hw).2 ⟨_,_,z6⟩;refine⟨_,Ue.2 ⟨m,Wu.2 ⟨m1,m2,(Tc w1).2 ⟨_,_,p1⟩⟩,n,Wu.2 ⟨n1,n2,(Tc w2).2 ⟨_,_,p2⟩⟩,hv,rfl⟩,?_,(Un hw ⟨_,_,z6⟩).2.2 y (Pg.2 hy) z6⟩;unfold T6;rw[m4,n4]
def lkN(near:List ((Int×Int)×Nat))(s:Int×Int):Option Nat:=(near.find? fun e=>decide (e.1=s)).map (·.2)
def Ft(a:Aut)(near:List ((Int×Int)×Nat))(d:Nat)(s:Int×Int):Bool:=match d with
 |0=>Tt a a s
 |d+1=>(Wj a a s).any fun e=>decide (lkN near e.2=some d)
def Tl(a:Aut)(near:List ((Int×Int)×Nat))(d:Nat):List (Int×Int):=(O5 a a).filter fun s=>decide (lkN near s=none) && Ft a near d s
def Jb(a:Aut):Nat→Nat→List ((Int×Int)×Nat)→List ((Int×Int)×Nat)
 |0,_,near=>near
 |f+1,d,near=>if Tl a near d=[]then near else Jb a f (d+1) (near++(Tl a near d).map fun s=>(s,d))
def Rn(a:Aut):List ((Int×Int)×Nat):=Jb a (a.fin.length * a.fin.length+1) 1 ((Tl a [] 0).map fun s=>(s,0))
def inP(a:Aut)(s:Int×Int):Prop:=inS a s.1∧inS a s.2
def V0(a:Aut)(s:Int×Int)(d:Nat):Prop:=∃w:List Sy,w.length=d∧(∀x∈w,Ew a x)∧Tt a a (Yz (T6 a a) s w)=true
def Ou(a:Aut)(s:Int×Int)(d:Nat):Prop:=V0 a s d∧∀k,k<d→¬V0 a s k
theorem Ha{a:Aut}{s:Int×Int}:V0 a s 0↔Tt a a s=true:=by
 constructor
 ·rintro⟨w,hw,_,h⟩;obtain rfl:=List.length_eq_zero_iff.1 hw;exact h
 ·intro h;exact⟨[],rfl,by simp,h⟩
theorem Pq{a:Aut}{s:Int×Int}{d:Nat}:V0 a s (d+1)↔∃y,Ew a y∧V0 a (T6 a a s y) d:=by
 constructor
 ·rintro⟨w,hw,ho,h⟩;cases w with
  |nil=>cases hw
  |cons y w=>exact⟨y,ho y (by simp),w,by simpa using hw,fun x hx=>ho x (by simp[hx]),h⟩
 ·rintro⟨y,hy,w,hw,ho,h⟩;exact⟨y::w,by simp[hw],fun x hx=>(yP.1 hx).elim (fun e=>by rw[e];exact hy) (ho x),h⟩
theorem J7{a:Aut}{s:Int×Int}{d k:Nat}(h:Ou a s d)(h':Ou a s k):d=k:=by
 rcases Nat.lt_trichotomy d k with hlt|e|hlt
 ·exact absurd h.1 (h'.2 d hlt)
 ·exact e
 ·exact absurd h'.1 (h.2 k hlt)
theorem w0e{a:Aut}{s:Int×Int}:∀(d:Nat),V0 a s d→∃k,k≤d∧Ou a s k:=by
 intro d;induction d using Nat.strongRecOn with
 |_ d ih=>
  intro h;by_cases hk:∃k,k<d∧V0 a s k
  ·obtain⟨k,h1,h2⟩:=hk;obtain⟨j,h3,h4⟩:=ih k h1 h2;exact⟨j,by omega,h4⟩
  ·exact⟨d,zW _,h,fun k h1 h2=>hk ⟨k,h1,h2⟩⟩
theorem Sx{a:Aut}{s:Int×Int}{d:Nat}(h:Ou a s (d+1)):∃y,Ew a y∧Ou a (T6 a a s y) d:=by obtain⟨y,hy,h1⟩:=Pq.1 h.1;refine⟨y,hy,h1,fun k hk h2=> ?_⟩;exact h.2 (k+1) (by omega) (Pq.2 ⟨y,hy,h2⟩)
theorem Sk{a:Aut}(ha:Dfa a){s:Int×Int}(hs:inP a s){y:Sy}(hy:Ew a y):inP a (T6 a a s y):=⟨(ha.next hs.1 hy).1,(ha.next hs.2 hy).1⟩
structure NInv (a:Aut) (d:Nat) (near:List ((Int×Int)×Nat)):Prop where
 lk:∀s,inP a s→∀k,lkN near s=some k↔(k<d∧Ou a s k)
 keys:(near.map (·.1)).Nodup
 dom:∀e∈near,e.1∈O5 a a
theorem v1r(A:List ((Int×Int)×Nat))(B:List (Int×Int))(d:Nat)(s:Int×Int):lkN (A++B.map fun t=>(t,d)) s=match lkN A s with|some k=>some k|none=>if s∈B then some d else none:=by
 unfold lkN;rw[List.find?_append];cases hA:A.find? fun e=>decide (e.1=s)with
 |some e=>rfl
 |none=>
  simp only[Option.none_or,Option.map_none];by_cases hs:s∈B
  ·rw[if_pos hs];obtain⟨e,he⟩:=Option.isSome_iff_exists.1 (List.find?_isSome.2 ⟨(s,d),zX.2 ⟨s,hs,rfl⟩,by simp⟩:(List.find? (fun e:(Int×Int)×Nat=>decide (e.1=s)) (B.map fun t=>(t,d))).isSome);rw[he];obtain⟨t,_,rfl⟩:=zX.1 (uj he);rfl
  ·rw[if_neg hs];rw[uh.2 (fun e he=>by
    obtain⟨t,ht,rfl⟩:=zX.1 he;simp only[decide_eq_true_eq];rintro rfl;exact hs ht)]
   rfl
theorem D9{A:List ((Int×Int)×Nat)}{s:Int×Int}:lkN A s=none↔s∉A.map (·.1):=by
 unfold lkN;rw[Option.map_eq_none_iff,uh];constructor
 ·intro h hs;obtain⟨e,he,rfl⟩:=zX.1 hs;exact h e he (by simp)
 ·intro h e he;simp only[decide_eq_true_eq];rintro rfl;exact h (zX.2 ⟨e,he,rfl⟩)
theorem d01{a:Aut}{s:Int×Int}(h:s∈O5 a a):inP a s:=by obtain⟨i,hi,hs⟩:=wZ.1 h;obtain⟨j,hj,rfl⟩:=zX.1 hs;exact⟨Ru.1 hi,Ru.1 hj⟩
theorem Ji(a:Aut):(O5 a a).Nodup:=by have hr:∀n,(Rt n).Nodup:=fun n=>(Gj n).imp (fun h e=>by omega);unfold O5 List.Nodup;rw[List.pairwise_flatMap];refine⟨fun i _=>wU.2 ((hr _).imp fun h e=>h (Prod.mk.inj e).2),(hr _).imp fun {i j} hij x hx y hy e=> ?_⟩;obtain⟨u,_,rfl⟩:=zX.1 hx;obtain⟨v,_,rfl⟩:=zX.1 hy;exact hij (Prod.mk.inj e).1
theorem G5{a:Aut}(ha:Dfa a){d:Nat}{near:List ((Int×Int)×Nat)}(h:NInv a d near){s:Int×Int}:s∈Tl a near d↔inP a s∧Ou a s d:=by
 unfold Tl;rw[xU];simp only[yT,decide_eq_true_eq];have z1:∀s,inP a s→(lkN near s=none↔∀k,k<d→¬V0 a s k):=fun s hs=>by
  constructor
  ·intro hn k hk hd;obtain⟨j,h1,h2⟩:=w0e k hd;have:=(h.lk s hs j).2 ⟨by omega,h2⟩;rw[hn]at this;cases this
  ·intro hk;cases hl:lkN near s with
   |none=>rfl
   |some k=>obtain⟨h1,h2⟩:=(h.lk s hs k).1 hl;exact absurd h2.1 (hk k h1)
 constructor
 ·rintro⟨h1,h2,h3⟩;have hs:=d01 h1;have hk:=(z1 s hs).1 h2;refine⟨hs,?_,hk⟩;cases d with
  |zero=>exact Ha.2 h3
  |succ d=>simp only[Ft,vK,decide_eq_true_eq]at h3;obtain⟨e,he,hl⟩:=h3;obtain⟨e1,e2⟩:=(P0 ha ha rfl hs.1 hs.2).1 e he;rw[e2]at hl;exact Pq.2 ⟨e.1,e1,((h.lk _ (Sk ha hs e1) d).1 hl).2.1⟩
 ·rintro⟨hs,h2⟩;refine⟨Fs hs.1 hs.2,(z1 s hs).2 h2.2,?_⟩;cases d with
  |zero=>exact Ha.1 h2.1
  |succ d=>obtain⟨y,hy,hm⟩:=Sx h2;obtain⟨e,he,e1,_⟩:=(P0 ha ha rfl hs.1 hs.2).2 y hy;simp only[Ft,vK,decide_eq_true_eq];exact⟨e,he,by rw[e1];exact(h.lk _ (Sk ha hs hy) d).2 ⟨by omega,hm⟩⟩
theorem NInv.step{a:Aut}(ha:Dfa a){d:Nat}{near:List ((Int×Int)×Nat)}(h:NInv a d near):NInv a (d+1) (near++(Tl a near d).map fun s=>(s,d)):=by
 refine⟨fun s hs k=> ?_,?_,fun e he=> ?_⟩
 ·rw[v1r];cases hl:lkN near s with
  |some j=>
   obtain⟨h1,h2⟩:=(h.lk s hs j).1 hl;simp only[Option.some.injEq];constructor
   ·rintro rfl;exact⟨by omega,h2⟩
   ·rintro⟨_,h3⟩;exact J7 h2 h3
  |none=>
   simp only;have z1:∀k,k<d→¬Ou a s k:=fun k hk hm=>by have:=(h.lk s hs k).2 ⟨hk,hm⟩;rw[hl]at this;cases this
   by_cases hf:s∈Tl a near d
   ·rw[if_pos hf];have hm:=((G5 ha h).1 hf).2;simp only[Option.some.injEq];constructor
    ·rintro rfl;exact⟨by omega,hm⟩
    ·rintro⟨_,h3⟩;exact J7 hm h3
   ·rw[if_neg hf];constructor
    ·intro hc;cases hc
    ·rintro⟨h1,h3⟩;by_cases hkd:k<d
     ·exact absurd h3 (z1 k hkd)
     ·have:k=d:=by omega
      subst this;exact absurd ((G5 ha h).2 ⟨hs,h3⟩) hf
 ·rw[yX,List.map_map,vT];refine⟨h.keys,?_,fun x hx y hy e=> ?_⟩
  ·have:(Tl a near d).map ((·.1)∘fun s=>(s,d))=Tl a near d:=by exact(xZ (g:=id) (fun _ _=>rfl)).trans (List.map_id _)
   rw[this];exact(Ji a).filter _
  ·subst e;obtain⟨t,ht,rfl⟩:=zX.1 hy;have:=(xU.1 ht).2;simp only[yT,decide_eq_true_eq]at this;exact D9.1 this.1 hx
 ·rcases yH.1 he with he|he
  ·exact h.dom e he
  ·obtain⟨t,ht,rfl⟩:=zX.1 he;exact(xU.1 ht).1
theorem w0a{a:Aut}(ha:Dfa a):∀(k d:Nat) (s:Int×Int),inP a s→Ou a s (d+k)→∃t,inP a t∧Ou a t d
 |0,_,s,hs,h=>⟨s,hs,h⟩
 |k+1,d,s,hs,h=>by obtain⟨y,hy,hm⟩:=Sx (d:=d+k) h;exact w0a ha k d _ (Sk ha hs hy) hm
theorem u0q{a:Aut}(ha:Dfa a):∀(f d:Nat) (near:List ((Int×Int)×Nat)),a.fin.length * a.fin.length+1≤near.length+f→NInv a d near→∀s,inP a s→∀k,lkN (Jb a f d near) s=some k↔Ou a s k
 |0,d,near,hf,h=>by
  exfalso;have:=Ix _ (O5 a a) h.keys (fun s hs=>by
   obtain⟨e,he,rfl⟩:=zX.1 hs;exact h.dom e he)
  rw[Pw,yO]at this;omega
 |f+1,d,near,hf,h=>by
  rw[Jb];by_cases he:Tl a near d=[]
  ·rw[if_pos he];intro s hs k;rw[h.lk s hs k];refine⟨fun hk=>hk.2,fun hm=>⟨?_,hm⟩⟩;by_cases hkd:k<d
   ·exact hkd
   ·exfalso;obtain⟨t,ht,z1⟩:=w0a ha (k - d) d s hs (by rw[show d+(k - d)=k by omega];exact hm);have:=(G5 ha h).2 ⟨ht,z1⟩;rw[he]at this;cases this
  ·rw[if_neg he];have hl:=List.length_pos_iff.2 he;exact u0q ha f (d+1) _ (by simp;omega) (h.step ha)
theorem f0x{a:Aut}(ha:Dfa a):∀s,inP a s→∀k,lkN (Rn a) s=some k↔Ou a s k:=by
 have h0:NInv a 0 []:=⟨fun s _ k=>by simp[lkN],by simp,by simp⟩
 have h1:=h0.step ha;rw[wC]at h1;exact u0q ha _ 1 _ (by omega) h1
def Zl(x y:Sy):Bool:=decide (x.ty<y.ty) || (decide (x.ty=y.ty) && decide (x.num<y.num))
def d0n(es:List (Sy×(Int×Int))):Option (Sy×(Int×Int)):=es.foldl (fun b e=>match b with|none=>some e|some c=>if Zl e.1 c.1 then some e else some c) none
theorem v1d(x y:Sy):Zl x y=true↔sLt x y:=by simp[Zl,sLt]
theorem Fp:∀(es:List (Sy×(Int×Int))) (c:Sy×(Int×Int)),∃e,es.foldl (fun b e=>match b with|none=>some e|some c=>if Zl e.1 c.1 then some e else some c) (some c)=some e∧(e=c∨e∈es)∧(e.1=c.1∨sLt e.1 c.1)∧∀f∈es,e.1=f.1∨sLt e.1 f.1
 |[],c=>⟨c,rfl,.inl rfl,.inl rfl,by simp⟩
 |f::es,c=>by
  rw[List.foldl_cons];simp only;cases hb:Zl f.1 c.1 with
  |true=>
   rw[if_pos rfl];have z6:=(v1d _ _).1 hb;obtain⟨e,h1,h2,h3,h4⟩:=Fp es f;refine⟨e,h1,.inr ?_,.inr ?_,fun g hg=> ?_⟩
   ·rcases h2 with rfl|h2
    ·simp
    ·simp[h2]
   ·rcases h3 with h3|h3
    ·rw[h3];exact z6
    ·exact h3.trans z6
   ·rcases yP.1 hg with rfl|hg
    ·exact h3
    ·exact h4 g hg
  |false=>
   rw[if_neg (by simp)];obtain⟨e,h1,h2,h3,h4⟩:=Fp es c;refine⟨e,h1,h2.imp id (fun h=>List.mem_cons_of_mem _ h),h3,fun g hg=> ?_⟩;rcases yP.1 hg with rfl|hg
   ·have hn:¬sLt g.1 c.1:=fun h=>by rw[(v1d _ _).2 h]at hb;cases hb
    have z1:c.1=g.1∨sLt c.1 g.1:=by
     rcases sLt.tri g.1 c.1 with h|h|h
     ·exact absurd h hn
     ·exact .inl h.symm
     ·exact .inr h
    rcases h3 with h3|h3
    ·rw[h3];exact z1
    ·rcases z1 with z1|z1
     ·rw[←z1];exact .inr h3
     ·exact .inr (h3.trans z1)
   ·exact h4 g hg
theorem X4{es:List (Sy×(Int×Int))}(h:es≠[]):∃e,d0n es=some e∧e∈es∧∀f∈es,e.1=f.1∨sLt e.1 f.1:=by
 cases es with
 |nil=>exact absurd rfl h
 |cons c es=>
  obtain⟨e,h1,h2,h3,h4⟩:=Fp es c;refine⟨e,h1,by rcases h2 with rfl|h2<;>simp[*],fun f hf=> ?_⟩;rcases yP.1 hf with rfl|hf
  ·exact h3
  ·exact h4 f hf
def Yr(a:Aut)(near:List ((Int×Int)×Nat)):Nat→Int×Int→List Sy
 |0,_=>[]
 |d+1,s=>match d0n ((Wj a a s).filter fun e=>decide (lkN near e.2=some d))with
  |some e=>e.1::Yr a near d e.2
  |none=>⟨0,0⟩::Yr a near d (0,0)
theorem k1q{x y:Sy}{v w:List Sy}(h:x=y∨sLt x y)(hl:v.length=w.length)(hv:x=y→lle v w):lle (x::v) (y::w):=by
 rcases h with rfl|h
 ·rcases hv rfl with rfl|hv
  ·exact .inl rfl
  ·rcases hv with hv|⟨h1,h2⟩
   ·omega
   ·exact .inr (.inr ⟨by simp[h1],.inr ⟨rfl,h2⟩⟩)
 ·exact .inr (.inr ⟨by simp[hl],.inl h⟩)
theorem Xn{a:Aut}(ha:Dfa a){near:List ((Int×Int)×Nat)}(hn:∀s,inP a s→∀k,lkN near s=some k↔Ou a s k):∀(d:Nat) (s:Int×Int),inP a s→Ou a s d→(Yr a near d s).length=d∧v1l a a s.1 s.2 (Yr a near d s)
 |0,s,hs,h=>⟨rfl,by simp[Yr],Ha.1 h.1,fun v hv hg=>by
   cases v with
   |nil=>exact .inl rfl
   |cons x v=>exact .inr (.inl (by simp[Yr]))⟩
 |d+1,s,hs,h=>by
  obtain⟨y,hy,hm⟩:=Sx h;obtain⟨e0,z8,za,_⟩:=(P0 ha ha rfl hs.1 hs.2).2 y hy;have zb:(Wj a a s).filter (fun e=>decide (lkN near e.2=some d))≠[]:=List.ne_nil_of_mem (xU.2 ⟨z8,by
   rw[za];simpa using(hn _ (Sk ha hs hy) d).2 hm⟩)
  obtain⟨e,h1,h2,h3⟩:=X4 zb;obtain⟨zc,zd⟩:=xU.1 h2;obtain⟨e1,e2⟩:=(P0 ha ha rfl hs.1 hs.2).1 e zc;have z1:inP a e.2:=by rw[e2];exact Sk ha hs e1
  have ze:Ou a e.2 d:=(hn _ z1 d).1 (by simpa using zd);obtain⟨i1,i2⟩:=Xn ha hn d e.2 z1 ze;rw[Yr,h1];simp only;refine⟨by simp[i1],fun x hx=> ?_,?_,fun v hv hg=> ?_⟩
  ·rcases yP.1 hx with rfl|hx
   ·exact e1
   ·exact i2.okw x hx
  ·have:=i2.goodw;show Tt a a (Yz (T6 a a) (T6 a a s e.1) (Yr a near d e.2))=true;rw[←e2];exact this
  ·by_cases hlen:v.length=d+1
   ·cases v with
    |nil=>cases hlen
    |cons z v=>
     have hz:=hv z (by simp);have z6:v.length=d:=by simpa using hlen
     have z7:Tt a a (Yz (T6 a a) (T6 a a s z) v)=true:=hg;have zf:Ou a (T6 a a s z) d:=by refine⟨⟨v,z6,fun x hx=>hv x (by simp[hx]),z7⟩,fun k hk hd=> ?_⟩;exact h.2 (k+1) (by omega) (Pq.2 ⟨z,hz,hd⟩)
     obtain⟨f,hf,f1,f2⟩:=(P0 ha ha rfl hs.1 hs.2).2 z hz;have zg:f∈(Wj a a s).filter (fun e=>decide (lkN near e.2=some d)):=xU.2 ⟨hf,by
      rw[f1];simpa using(hn _ (Sk ha hs hz) d).2 zf⟩
     have hle:e.1=z∨sLt e.1 z:=by
      rcases h3 f zg with h4|h4
      ·rcases f2 with f2|f2
       ·exact .inl (h4.trans f2)
       ·rw[h4];exact .inr f2
      ·rcases f2 with f2|f2
       ·rw[←f2];exact .inr h4
       ·exact .inr (h4.trans f2)
     refine k1q hle (by rw[i1,z6]) fun zh=> ?_;refine i2.least v (fun x hx=>hv x (by simp[hx])) ?_;show Tt a a (Yz (T6 a a) e.2 v)=true;rw[e2,zh];exact z7
   ·have zi:d+1≤v.length:=by
     by_cases hlt:v.length<d+1
     ·exact absurd ⟨v,rfl,hv,hg⟩ (h.2 _ hlt)
     ·omega
    exact .inr (.inl (by simp[i1];omega))
theorem j00{a:Aut}(ha:Dfa a){p q:Int}(hp:inS a p)(hq:inS a q):(Ao a a p q).1=(lkN (Rn a) (p,q)).map fun d=>Yr a (Rn a) d (p,q):=by
 have hn:=f0x ha;have z1:inP a (p,q):=⟨hp,hq⟩
 rcases Ch ha ha rfl hp hq with⟨w,h1,h2⟩|⟨h1,h2⟩
 ·obtain⟨d,_,hm⟩:=w0e (a:=a) (s:=(p,q)) w.length ⟨w,rfl,h2.okw,h2.goodw⟩;rw[h1,(hn _ z1 d).2 hm,Option.map_some,h2.unique (Xn ha hn d _ z1 hm).2]
 ·rw[h1];cases hl:lkN (Rn a) (p,q)with
  |none=>rfl
  |some d=>exfalso;obtain⟨w,_,hw,hg⟩:=((hn _ z1 d).1 hl).1;exact(Ld a a p q w).1 hg (h2 w hw)
end Go.Abs
namespace Go.Abs
open Go Go.Proofs
theorem d1r{T:Nat}{p:Prd}(h:PWf T p){s:List Iv}(hs:s∈p):∀x∈s,U5 x:=w02 (h.2 s hs).1 (h.2 s hs).2
attribute [local irreducible] R4 Ej
theorem Au(p:Prd):PC Tryz.prog 76 [encP p] (fun r=>r= .bool (Wi p)):=by
 refine Ql tOk Tryz.func76 rfl Tryz.results76 rfl (by simp[Tryz.ntmps76]) ?_;rw[Tryz.ntmps76];simp only[Qg];simp only[encP];refine W1 0 0 rfl rfl (fun hlen=> ?_);rw[yO]at hlen;obtain⟨R,hR⟩:∃R,Wi p=R:=⟨_,rfl⟩
 rw[hR];repeat first|(refine r_ ?_;simp)|refine q_ ?_
 refine Qu p.length (fun j=>Wi (p.drop j)=R) (fun j=>[(1,.vptr 0 0),(3,.i j)]) (fun _=>[.vars [.list (p.map encL)]]) rfl (by simp) (by simp) (by simp) (by simp) (by simpa using hR) ?_;intro j hj hI ih;repeat first|(refine r_ ?_;simp)|refine q_ ?_
 refine Qa rfl (fun z7=> ?_) (fun z8=> ?_)
 ·have z1:j<p.length:=by simpa using z7
  have hw:IntKind.i64.wrap ((j:Int)+1)=j+1:=wrap_i64 _ (by omega) (by omega);rw[Ea z1,Wi,List.all_cons]at hI;repeat first|(refine r_ ?_;simp[z1])|refine q_ ?_
  refine Qa rfl (fun h3=> ?_) (fun h3=> ?_)
  ·repeat first|(refine r_ ?_;simp)|refine q_ ?_
   have:p[j].isEmpty=false:=by simp at h3;cases hp:p[j]with|nil=>rw[hp]at h3;simp at h3|cons _ _=>rfl
   rw[this,uB]at hI;exact hI.symm
  ·have:p[j].isEmpty=true:=by simp at h3;simp[h3]
   rw[this,un]at hI;repeat first|(refine r_ ?_;simp[hw])|refine q_ ?_
   refine Qs _ (ih z1 hI) rfl (by simp) ?_ (by simp) (by simp);simp
 ·have z6:j=p.length:=by simp at z8;omega
  subst z6;repeat first|(refine r_ ?_;simp)|refine q_ ?_
  rw[←hI,ws];rfl
theorem Pa:∀(p:Prd) (i:Nat),(∃s∈p,s≠[])→∃t x r,p[t]? =some (x::r)∧Qz p i=(i+t,x.lo)∧∀j,j<t→p[j]? =some []
 |[],i,h=>by obtain⟨s,hs,_⟩:=h;cases hs
 |[]::p,i,h=>by
  obtain⟨t,x,r,h1,h2,h3⟩:=Pa p (i+1) (by obtain⟨s,hs,hn⟩:=h;rcases yP.1 hs with rfl|hs;exact absurd rfl hn;exact⟨s,hs,hn⟩);refine⟨t+1,x,r,by simpa using h1,by rw[Qz,h2];congr 1;omega,fun j hj=> ?_⟩;cases j with
  |zero=>rfl
  |succ j=>simpa using h3 j (by omega)
 |(x::r)::p,i,_=>⟨0,x,r,rfl,by simp[Qz],fun j hj=>by omega⟩
theorem S0(p:Prd)(hn:Wi p=false):PC Tryz.prog 67 [encP p] (fun r=>r=encSy (Qn p)):=by
 refine Ql tOk Tryz.func67 rfl Tryz.results67 rfl (by simp[Tryz.ntmps67]) ?_;rw[Tryz.ntmps67];simp only[Qg];simp only[encP];refine W1 0 0 rfl rfl (fun hlen=> ?_);rw[yO]at hlen;obtain⟨t,x,r,h1,h2,h3⟩:=Pa p 0 (by
  unfold Wi at hn;rw[uE]at hn;obtain⟨s,hs,he⟩:=hn;exact⟨s,hs,fun e=>by rw[e]at he;simp at he⟩)
 have hL:Qn p=⟨(t:Int),x.lo⟩:=by rw[Qn,h2];simp
 rw[hL];have ht:=(zE.1 h1).1;have z6:p[t]=x::r:=(zE.1 h1).2;repeat first|(refine r_ ?_;simp)|refine q_ ?_
 refine Qu t (fun _=>True) (fun j=>[(1,.vptr 0 0),(2,.vptr 1 0),(3,.i j)]) (fun _=>[.vars [.list (p.map encL)],.vars [.i 0,.i 0]]) rfl (by simp) (by simp) (by simp) (by simp) trivial ?_;intro j hj _ ih;have z1:j<p.length:=by omega
 have hw:IntKind.i64.wrap ((j:Int)+1)=j+1:=wrap_i64 _ (by omega) (by omega);repeat first|(refine r_ ?_;simp[z1])|refine q_ ?_
 refine Qm rfl ?_;simp[z1];repeat first|(refine r_ ?_;simp[z1])|refine q_ ?_
 by_cases hjt:j=t
 ·subst hjt;have z8:¬(p[j].length=0):=by rw[z6];simp
  have zb:0<p[j].length:=by omega
  repeat first|(refine r_ ?_;simp[z1,z6])|refine q_ ?_
  refine Qa rfl (fun h=> ?_) (fun h=> ?_)
  ·repeat first|(refine r_ ?_;simp[z1,z6])|refine q_ ?_
  ·exfalso;rw[z6]at h;simp at h
 ·have za:=h3 j (by omega);have z7:p[j]=[]:=(zE.1 za).2;repeat first|(refine r_ ?_;simp[z1,z7])|refine q_ ?_
  refine Qa rfl (fun h=> ?_) (fun h=> ?_)
  ·exfalso;rw[z7]at h;simp at h
  ·repeat first|(refine r_ ?_;simp[hw])|refine q_ ?_
   refine Qs _ (ih (by omega) trivial) rfl (by simp) ?_ (by simp) (by simp);simp
theorem V7(x y:Sy):PC Tryz.prog 191 [encSy x,encSy y] (fun r=>r= .bool (Zl x y)):=by
 refine Ql tOk Tryz.func191 rfl Tryz.results191 rfl (by simp[Tryz.ntmps191]) ?_;rw[Tryz.ntmps191];simp only[Qg];simp only[encSy];repeat first|(refine r_ ?_;simp)|refine q_ ?_
 by_cases h:x.ty=y.ty<;>simp[Zl,h]
end Go.Abs
namespace Go.Abs
open Go Go.Proofs
attribute [local irreducible] R4 Ej upL Wv
theorem z1j{c p:Prd}(h:c.length=p.length):(yV c.length).map (fun i=>R4 (c.getD i []) (p.getD i []))=Wc c p:=by
 refine wP (by simp[Wc,h]) fun i h1 h2=> ?_;have hc:i<c.length:=by simpa using h1
 have hp:i<p.length:=by omega
 simp[Wc,y_,hc,hp]
theorem He(T:Nat)(c p:Prd)(hc:PWf T c)(hp:PWf T p)(zf:∀s∈c,∀t∈p,s.length+t.length≤1000000000)(hT:T≤1000):PC Tryz.prog 109 [encP c,encP p] (fun r=>r=encP (Wc c p)):=by
 refine Ql tOk Tryz.func109 rfl Tryz.results109 rfl (by simp[Tryz.ntmps109]) ?_;rw[Tryz.ntmps109];simp only[Qg];simp only[encP];have hlen:c.length=p.length:=by rw[hc.1,hp.1]
 have zm:=hc.1;repeat first|(refine r_ ?_;simp)|refine q_ ?_
 refine Eo 3 0 171 1 rfl rfl ?_;simp;obtain⟨K,hK⟩:∃K,K=[AObj.vars [.list (c.map encL)],AObj.vars [.list (p.map encL)],AObj.vars [AV.nils],AObj.vars [AV.nils]]:=⟨_,rfl⟩
 have zg:=GL.start (K:=K) (S:=3) [] [] 171 1 (by rw[hK];simp);refine Qo (Qc (sl':=[(2,.vptr 0 0),(3,.vptr 1 0),(4,.vptr 2 0),(5,.vptr 3 0),(6,.i 0)]) ?_ (by simp));refine Qp (F:=fun(u:Nat×Nat×List AObj)=>⟨[(2,.vptr 0 0),(3,.vptr 1 0),(4,.vptr 2 0),(5,.vptr 3 0),(6,.i u.1)],u.2.2⟩)
  (fun u=>u.1≤c.length∧GL K u.2.2 3 u.2.1 [] [] 171 1 (upL (fun i=>R4 (c.getD i []) (p.getD i [])) u.1)) (fun u=>c.length - u.1) ?_ (0,K.length,_) ⟨by simp,by rw[Pp,hK]at *;exact zg⟩
 rintro⟨j,q,H2⟩ ⟨hj,g⟩ ih;simp only[vZ,wC]at hj g ih ⊢;have g0:H2[0]? =some (AObj.vars [.list (c.map encL)]):=g.kp (by decide) (by rw[hK];rfl);have g1:H2[1]? =some (AObj.vars [.list (p.map encL)]):=g.kp (by decide) (by rw[hK];rfl);have gR:H2[2]? =some (AObj.vars [AV.nils]):=g.kp (by decide) (by rw[hK];rfl);have g2:=g.cell;have g3:=g.arr;rw[W8]at g2;simp only[wC]at g2;repeat first|(refine r_ ?_;simp[g0])|refine q_ ?_
 refine Qa rfl (fun zh=> ?_) (fun zi=> ?_)
 ·have z1:j<c.length:=by simpa using zh
  have hw:IntKind.i64.wrap ((j:Int)+1)=j+1:=wrap_i64 _ (by omega) (by omega);have z7:∀L:List AObj,(H2.set q .dead++L)[3]? =some (AObj.vars [AV.sl q 1 0 j]):=fun L=>by have:=g.at L;rw[W8]at this;exact this
  have zb:∀(L:List AObj) (h:3<(H2.set q .dead++L).length),(H2.set q .dead++L)[3]'h=AObj.vars [AV.sl q 1 0 j]:=fun L h=>by have:=z7 L;rw[zP h]at this;exact Option.some.inj this
  have zc:=fun A y=>g.put A y (W8 _ _).symm;have zj:upL (fun i=>R4 (c.getD i []) (p.getD i [])) j++[encL ((fun i=>R4 (c.getD i []) (p.getD i [])) j)]=upL (fun i=>R4 (c.getD i []) (p.getD i [])) (j+1):=(P3 _ _).symm;have z6:=fun H=>ih (j+1,H2.length+1,H);have z8:=W8 (fun i=>R4 (c.getD i []) (p.getD i [])) j;simp only[←zj]at z6;have za:j<p.length:=by omega
  have hs:=hc.2 _ (zT z1);have zk:=hp.2 _ (zT za);simp only[Wq z1,Wq za]at *
  repeat first|(refine r_ ?_;simp[g0,g1,g2])|refine q_ ?_
  refine Qk tOk mixed [14,16] (.val 0 (.val 1 (.val 2 (.val 3 (.val 4 (.val 5 (.val 6 (.val 7 (.val 8 (.val 9 (.val 10 (.val 11 (.one 12 (.one 13 (.one 14 (.val 15 (.one 16 (.done)))))))))))))))))) rfl (by kernel_rfl) ?_;simp[z1,za,g0,g1,g2];refine Qe rfl rfl (by simp) (d05 c[j] p[j] hs.1 zk.1 (zf _ (zT z1) _ (zT za)) (d1r hc (zT z1))) rfl ?_;rintro _ rfl;simp;repeat first|(refine r_ ?_;simp[g0,g1,g2])|refine q_ ?_
  generalize upL (fun i=>R4 (c.getD i []) (p.getD i [])) j=xs at *
  refine Qf tOk rfl rfl T74 rfl U6 rfl (by decide) (by decide) rfl rfl rfl ?_;simp[Qb g3,Qj g3,z8,z7,zb];refine⟨by simp[Wk,Qb g3,Qj g3,z8,z7,zb]<;>omega,?_⟩;repeat first|(refine r_ ?_;simp[g0,g2,hw,z7,zb])|refine q_ ?_
  refine Qc (sl':=[(2,.vptr 0 0),(3,.vptr 1 0),(4,.vptr 2 0),(5,.vptr 3 0),(6,.i (j+1:Nat))]) (z6 _ ⟨by omega,zc _ _⟩ (by omega)) ?_;simp
 ·have zd:j=c.length:=by(simp at zi;omega)
  subst zd;have hS:=(zE.1 g2).1;have zl:q≠2∧q≠3:=by have:=g.ge;rw[hK]at this;simp at this;omega
  have z8:=W8 (fun i=>R4 (c.getD i []) (p.getD i [])) (c.length);have ze: .list (upL (fun i=>R4 (c.getD i []) (p.getD i [])) (c.length))=AV.list ((Wc c p).map encL):=by rw[Hd];rw[z1j hlen]
  generalize upL (fun i=>R4 (c.getD i []) (p.getD i [])) (c.length)=xs at *
  refine We q g3 3 g2 ?_;have k1:∀X,((H2.set q .dead).set 3 X)[2]? =some (AObj.vars [AV.nils]):=fun X=>Qd (by decide) (Qd zl.1 gR _) _;have k2:∀X,((H2.set q .dead).set 3 X)[3]? =some X:=fun X=>zU (by simpa using hS);have k3:∀X Y,(((H2.set q .dead).set 3 X).set 2 Y)[2]? =some Y:=fun X Y=>Qh (k1 X) _;simp[z8];rw[zV (by omega)];repeat first|(refine r_ ?_;simp[k1,k2,k3])|refine q_ ?_
  exact AV.list.inj ze
end Go.Abs
namespace Go.Abs
open Go Go.Proofs
attribute [local irreducible] O0
theorem w14(p:Prd)(x:Sy)(hl:∀s∈p,s.length≤1000000000):PC Tryz.prog 127 [encP p,encSy x] (fun r=>r= .bool (Tn p x)):=by
 refine Ql tOk Tryz.func127 rfl Tryz.results127 rfl (by simp[Tryz.ntmps127]) ?_;rw[Tryz.ntmps127];simp only[Qg];simp only[encP,encSy];repeat first|(refine r_ ?_;simp)|refine q_ ?_
 by_cases h0:0≤x.ty
 ·by_cases h1:x.ty<p.length
  ·have h2:x.ty.toNat<p.length:=by omega
   refine Qk tOk mixed [] (.val 0 (.val 1 (.val 2 (.val 3 (.val 4 (.val 5 (.val 6 (.val 7 (.val 8 (.val 9 (.val 10 (.val 11 (.val 12 (.val 13 (.val 14 (.val 15 (.val 16 (.val 17 (.val 18 (.val 19 (.one 20 (.val 21 (.val 22 (.done)))))))))))))))))))))))) rfl (by kernel_rfl) ?_;simp[h0,h1,h2];refine Qe rfl rfl (by simp) (g1f p[x.ty.toNat] x.num (hl _ (zT h2))) rfl ?_;rintro _ rfl;simp;repeat first|(refine r_ ?_;simp[h0,h1,h2])|refine q_ ?_
   simp[Tn,h0,h1,y_,h2]
  ·refine Qk tOk mixed [] (.val 0 (.val 1 (.val 2 (.val 3 (.val 4 (.val 5 (.val 6 (.val 7 (.val 8 (.val 9 (.val 10 (.val 11 (.val 12 (.val 13 (.val 14 (.val 15 (.val 16 (.val 17 (.val 18 (.val 19 (.one 20 (.val 21 (.val 22 (.done)))))))))))))))))))))))) rfl (by kernel_rfl) ?_;simp[h0,h1];refine Q4 rfl rfl ?_;simp[h0,h1];repeat first|(refine r_ ?_;simp[h0,h1])|refine q_ ?_
   simp[Tn,h0,h1]
 ·refine Qk tOk mixed [] (.val 0 (.val 1 (.val 2 (.val 3 (.val 4 (.val 5 (.val 6 (.val 7 (.val 8 (.val 9 (.val 10 (.val 11 (.val 12 (.val 13 (.val 14 (.val 15 (.val 16 (.val 17 (.val 18 (.val 19 (.one 20 (.val 21 (.val 22 (.done)))))))))))))))))))))))) rfl (by kernel_rfl) ?_;simp[h0];refine Q4 rfl rfl ?_;simp[h0];repeat first|(refine r_ ?_;simp[h0])|refine q_ ?_
  simp[Tn,h0]
def V4(a:Aut)(i k:Nat):Bool:=decide ((a.mv.getD i default).src=(a.mv.getD k default).src) && w0h (a.mv.getD i default).on (a.mv.getD k default).on
theorem Ce{a:Aut}{i k:Nat}(hi:i<a.mv.length)(hk:k<i)(h:V4 a i k=true):O3 a=false:=by unfold O3;rw[uE];refine⟨i,xJ.2 hi,?_⟩;rw[Bool.not_eq_true,uE];exact⟨k,xJ.2 hk,by unfold V4 at h;rw[h];simp⟩
theorem q09{a:Aut}(h:∀i,i<a.mv.length→∀k,k<i→V4 a i k=false):O3 a=true:=by unfold O3;rw[yE];intro i hi;rw[yE];intro k hk;have:=h i (xJ.1 hi) k (xJ.1 hk);unfold V4 at this;rw[this];rfl
theorem w0n{a:Aut}{i k:Nat}(hi:i<a.mv.length)(hk:k<a.mv.length):V4 a i k=(decide (a.mv[i].src=a.mv[k].src) && w0h a.mv[i].on a.mv[k].on):=by simp[V4,y_,hi,hk]
theorem Hp{a:Aut}(h:OkA a){m:Mv}(hm:m∈a.mv):∀s∈m.on,s.length≤256:=fun s hs=>((h.mv m hm).on.2 s hs).len
attribute [local irreducible] V4 w0h Wc Wi
theorem Kr(a:Aut)(h:OkA a):PC Tryz.prog 43 [encA a] (fun r=>r= .bool (O3 a)):=by
 refine Ql tOk Tryz.func43 rfl Tryz.results43 rfl (by simp[Tryz.ntmps43]) ?_;rw[Tryz.ntmps43];simp only[Qg];simp only[encA];have zo:=h.mvs;repeat first|(refine r_ ?_;simp)|refine q_ ?_
 refine Qu a.mv.length (fun j=>∀i,i<j→∀k,k<i→V4 a i k=false) (fun j=>[(1,.vptr 0 0),(3,.i j)]) (fun _=>[.vars (Q7 a)]) rfl (by simp) (by simp) (by simp) (by simp) (by simp) ?_;intro j hj hI ih;repeat first|(refine r_ ?_;simp)|refine q_ ?_
 refine Qa rfl (fun zm=> ?_) (fun zn=> ?_)
 ·have z1:j<a.mv.length:=by simpa using zm
  have hw:IntKind.i64.wrap ((j:Int)+1)=j+1:=wrap_i64 _ (by omega) (by omega);repeat first|(refine r_ ?_;simp)|refine q_ ?_
  refine Qu j (fun k=>∀k',k'<k→V4 a j k'=false) (fun k=>[(1,.vptr 0 0),(3,.i j),(4,.i k)]) (fun _=>[.vars (Q7 a)]) rfl (by simp) (by simp) (by simp) (by simp) (by simp) ?_;intro k hk zg zh;repeat first|(refine r_ ?_;simp)|refine q_ ?_
  refine Qa rfl (fun zb=> ?_) (fun zc=> ?_)
  ·have zd:k<j:=by simpa using zb
   have za:k<a.mv.length:=by omega
   have zi:IntKind.i64.wrap ((k:Int)+1)=k+1:=wrap_i64 _ (by omega) (by omega);have z6:=w0n (a:=a) z1 za;have zj:V4 a j k=false→∀k',k'<k+1→V4 a j k'=false:=fun hb k' ze=>by
    by_cases e:k'=k
    ·rw[e];exact hb
    ·exact zg k' (by omega)
   by_cases he:a.mv[j].src=a.mv[k].src
   ·rw[decide_eq_true he,un]at z6;repeat first|(refine r_ ?_;simp)|refine q_ ?_
    refine Qk tOk mixed [] (.val 0 (.val 1 (.val 2 (.val 3 (.val 4 (.val 5 (.val 6 (.val 7 (.val 8 (.val 9 (.val 10 (.val 11 (.val 12 (.val 13 (.val 14 (.val 15 (.val 16 (.val 17 (.val 18 (.val 19 (.val 20 (.val 21 (.val 22 (.val 23 (.val 24 (.val 25 (.one 26 (.one 27 (.val 28 (.val 29 (.done))))))))))))))))))))))))))))))) rfl (by kernel_rfl) ?_;simp[z1,za,he];have zk:=zT z1;have zl:=zT za;refine Qe rfl rfl (by simp) (He a.types.toNat a.mv[j].on a.mv[k].on (h.mv _ zk).on.wf (h.mv _ zl).on.wf (fun s hs t ht=>by have:=Hp h zk s hs;have:=Hp h zl t ht;omega) (by have:=h.types;omega)) rfl ?_;rintro _ rfl;simp;repeat first|(refine r_ ?_;simp)|refine q_ ?_
    refine Qe rfl rfl (by simp) (Au (Wc a.mv[j].on a.mv[k].on)) rfl ?_;rintro _ rfl;simp;repeat first|(refine r_ ?_;simp)|refine q_ ?_
    refine Qa rfl (fun h3=> ?_) (fun h3=> ?_)
    ·repeat first|(refine r_ ?_;simp)|refine q_ ?_
     rw[Ce z1 zd (by rw[z6,w0h];simpa using h3)]
    ·repeat first|(refine r_ ?_;simp[zi])|refine q_ ?_
     refine Qs _ (zh zd (zj (by rw[z6,w0h];simpa using h3))) rfl (by simp) ?_ (by simp) (by simp);simp
   ·rw[decide_eq_false he,uB]at z6;have z7:(a.mv[j].src==a.mv[k].src)=false:=beq_eq_false_iff_ne.2 he;repeat first|(refine r_ ?_;simp)|refine q_ ?_
    refine Qk tOk mixed [] (.val 0 (.val 1 (.val 2 (.val 3 (.val 4 (.val 5 (.val 6 (.val 7 (.val 8 (.val 9 (.val 10 (.val 11 (.val 12 (.val 13 (.val 14 (.val 15 (.val 16 (.val 17 (.val 18 (.val 19 (.val 20 (.val 21 (.val 22 (.val 23 (.val 24 (.val 25 (.one 26 (.one 27 (.val 28 (.val 29 (.done))))))))))))))))))))))))))))))) rfl (by kernel_rfl) ?_;simp[z1,za,z7];refine Q4 rfl rfl ?_;simp[z7];repeat first|(refine r_ ?_;simp[z7])|refine q_ ?_
    refine Q4 rfl rfl ?_;simp[z7];repeat first|(refine r_ ?_;simp[z7])|refine q_ ?_
    refine Qm rfl ?_;repeat first|(refine r_ ?_;simp[zi])|refine q_ ?_
    refine Qs _ (zh zd (zj z6)) rfl (by simp) ?_ (by simp) (by simp);simp
  ·have z8:k=j:=by simp at zc;omega
   subst z8;repeat first|(refine r_ ?_;simp[hw])|refine q_ ?_
   refine Qs _ (ih z1 (fun i hi k' ze=> ?_)) rfl (by simp) ?_ (by simp) (by simp)
   ·by_cases e:i=k
    ·subst e;exact zg k' ze
    ·exact hI i (by omega) k' ze
   ·simp
 ·have zf:j=a.mv.length:=by simp at zn;omega
  subst zf;repeat first|(refine r_ ?_;simp)|refine q_ ?_
  rw[q09 hI]
def c0p(a:Aut):Bool×Int:=if Wg a=0 then(O3 a,0)else(false,Wg a)
end Go.Abs
namespace Go.Abs
open Go Go.Proofs
def ovl(x y:Iv):Bool:=decide (x.lo≤y.hi) && decide (y.lo≤x.hi)
def noC(p q:Prd)(i:Nat):Prop:=∀x∈p.getD i [],∀y∈q.getD i [],ovl x y=false
theorem k0w{T:Nat}{p q:Prd}(hp:PWf T p)(hq:PWf T q)(h:∀i,i<p.length→noC p q i):w0h p q=false:=by rw[vY,Ne,Lm hp hq];rintro⟨t,n,⟨s,hs,x,hx,h1,h2⟩,⟨s',z1,y,hy,h3,h4⟩⟩;have ht:=(zE.1 hs).1;have:=h t ht x (by rw[y_,hs];exact hx) y (by rw[y_,z1];exact hy);simp only[ovl,Bool.and_eq_false_iff,decide_eq_false_iff_not]at this;omega
theorem w1a{T:Nat}{p q:Prd}(hp:PWf T p)(hq:PWf T q){i:Nat}(hi:i<p.length)(z1:i<q.length){x y:Iv}(hx:x∈p[i])(hy:y∈q[i])(h:ovl x y=true):w0h p q=true:=by
 rw[Lm hp hq];simp only[ovl,yT,decide_eq_true_eq]at h;have h1:=(hp.2 _ (zT hi)).1.1 x hx;have h2:=(hq.2 _ (zT z1)).1.1 y hy;by_cases hl:x.lo≤y.lo
 ·exact⟨i,y.lo,⟨p[i],zP hi,x,hx,hl,h.2⟩,⟨q[i],zP z1,y,hy,xF _,h2⟩⟩
 ·exact⟨i,x.lo,⟨p[i],zP hi,x,hx,xF _,h1⟩,⟨q[i],zP z1,y,hy,by omega,h.1⟩⟩
attribute [local irreducible] w0h
theorem g0f(T:Nat)(p q:Prd)(hp:PWf T p)(hq:PWf T q)(zj:∀s∈p,s.length≤1000000000)(zk:∀s∈q,s.length≤1000000000)(hT:T≤1000):PC Tryz.prog 114 [encP p,encP q] (fun r=>r= .bool (w0h p q)):=by
 refine Ql tOk Tryz.func114 rfl Tryz.results114 rfl (by simp[Tryz.ntmps114]) ?_;rw[Tryz.ntmps114];simp only[Qg];simp only[encP];have hlen:=hp.1;have zg:=hq.1;repeat first|(refine r_ ?_;simp)|refine q_ ?_
 refine Qu p.length (fun i=>∀i',i'<i→noC p q i') (fun i=>[(3,.vptr 1 0),(12,.list (p.map encL)),(13,.i p.length),(14,.i i)]) (fun _=>[.vars [.list (p.map encL)],.vars [.list (q.map encL)]]) rfl (by simp) (by simp) (by simp) (by simp) (by simp) ?_;intro i hi hI ih;repeat first|(refine r_ ?_;simp)|refine q_ ?_
 refine Qa rfl (fun zl=> ?_) (fun zm=> ?_)
 ·have z1:i<p.length:=by simpa using zl
  have z6:i<q.length:=by omega
  have hw:IntKind.i64.wrap ((i:Int)+1)=i+1:=wrap_i64 _ (by omega) (by omega);have zx:=zj _ (zT z1);have zy:=zk _ (zT z6);repeat first|(refine r_ ?_;simp[z1])|refine q_ ?_
  refine Qu p[i].length (fun u=>∀u',u'<u→∀h:u'<p[i].length,∀y∈q[i],ovl p[i][u'] y=false) (fun u=>[(3,.vptr 1 0),(5,.i i),(12,.list (p.map encL)),(13,.i p.length),(14,.i i),(19,LIv p[i]),(20,.i p[i].length),(21,.i u)]) (fun _=>[.vars [.list (p.map encL)],.vars [.list (q.map encL)]]) rfl (by simp) (by simp) (by simp) (by simp) (by simp) ?_;intro u hu zh zn;repeat first|(refine r_ ?_;simp)|refine q_ ?_
  refine Qa rfl (fun z7=> ?_) (fun z8=> ?_)
  ·have za:u<p[i].length:=by simpa using z7
   have zo:IntKind.i64.wrap ((u:Int)+1)=u+1:=wrap_i64 _ (by omega) (by omega);repeat first|(refine r_ ?_;simp[za,z6])|refine q_ ?_
   refine Qu q[i].length (fun v=>∀v',v'<v→∀h:v'<q[i].length,ovl p[i][u] q[i][v']=false) (fun v=>[(3,.vptr 1 0),(5,.i i),(8,.vptr 2 0),(12,.list (p.map encL)),(13,.i p.length),(14,.i i),(19,LIv p[i]),(20,.i p[i].length),(21,.i u),(29,LIv q[i]),(30,.i q[i].length),(31,.i v)]) (fun _=>[.vars [.list (p.map encL)],.vars [.list (q.map encL)],.vars [.i p[i][u].lo,.i p[i][u].hi]]) rfl (by simp) (by simp) (by simp) (by simp) (by simp) ?_;intro v hv zi zp;repeat first|(refine r_ ?_;simp)|refine q_ ?_
   refine Qa rfl (fun zb=> ?_) (fun zc=> ?_)
   ·have zd:v<q[i].length:=by simpa using zb
    have zq:IntKind.i64.wrap ((v:Int)+1)=v+1:=wrap_i64 _ (by omega) (by omega);repeat first|(refine r_ ?_;simp[zd])|refine q_ ?_
    refine Qa rfl (fun h=> ?_) (fun h=> ?_)
    ·repeat first|(refine r_ ?_;simp)|refine q_ ?_
     rw[w1a hp hq z1 z6 (zT za) (zT zd) (by simpa[ovl]using h)]
    ·repeat first|(refine r_ ?_;simp[zq])|refine q_ ?_
     refine Qs _ (zp zd (fun v' ze zr=> ?_)) rfl (by simp) ?_ (by simp) (by simp)
     ·by_cases e:v'=v
      ·subst e;simpa[ovl]using h
      ·exact zi v' (by omega) zr
     ·simp
   ·have zt:v=q[i].length:=by simp at zc;omega
    subst zt;repeat first|(refine r_ ?_;simp[zo])|refine q_ ?_
    refine Qs _ (zn za (fun u' zf zu y hy=> ?_)) rfl (by simp) ?_ (by simp) (by simp)
    ·by_cases e:u'=u
     ·subst e;obtain⟨v',ze,rfl⟩:=xE hy;exact zi v' ze ze
     ·exact zh u' (by omega) zu y hy
    ·simp
  ·have zv:u=p[i].length:=by simp at z8;omega
   subst zv;repeat first|(refine r_ ?_;simp[hw])|refine q_ ?_
   refine Qs _ (ih z1 (fun i' zz=> ?_)) rfl (by simp) ?_ (by simp) (by simp)
   ·by_cases e:i'=i
    ·subst e;intro x hx y hy;rw[Wq z1]at hx;rw[Wq z6]at hy;obtain⟨u',zf,rfl⟩:=xE hx;exact zh u' zf zf y hy
    ·exact hI i' (by omega)
   ·simp
 ·have zw:i=p.length:=by simp at zm;omega
  subst zw;repeat first|(refine r_ ?_;simp)|refine q_ ?_
  rw[k0w hp hq hI]
attribute [local irreducible] V4
theorem j0y(a:Aut):PC Tryz.prog 49 [encA a] (fun r=>r= .tup [.bool (c0p a).1,.i (c0p a).2]):=by
 refine Ql tOk Tryz.func49 rfl Tryz.results49 rfl (by simp[Tryz.ntmps49]) ?_;rw[Tryz.ntmps49];simp only[Qg];simp only[encA];repeat first|(refine r_ ?_;simp)|refine q_ ?_
 refine Qe rfl rfl (by simp) (Yh a) rfl ?_;rintro _ rfl;simp;repeat first|(refine r_ ?_;simp)|refine q_ ?_
 refine Qa rfl (fun h=> ?_) (fun h=> ?_)
 ·repeat first|(refine r_ ?_;simp)|refine q_ ?_
  rw[c0p,if_neg (by simpa using h)];exact⟨rfl,rfl⟩
 have h0:Wg a=0:=by simpa using h
 have z8:=(Ut a).1 h0;have zt:=z8.mvs;rw[c0p,if_pos h0];repeat first|(refine r_ ?_;simp)|refine q_ ?_
 refine Qu a.mv.length (fun j=>∀i,i<j→∀k,k<i→V4 a i k=false) (fun j=>[(1,.vptr 0 0),(15,.list (a.mv.map encMv)),(16,.i a.mv.length),(17,.i j)]) (fun _=>[.vars (Q7 a)]) rfl (by simp) (by simp) (by simp) (by simp) (by simp) ?_;intro j hj hI ih;repeat first|(refine r_ ?_;simp)|refine q_ ?_
 refine Qa rfl (fun zq=> ?_) (fun zr=> ?_)
 ·have z1:j<a.mv.length:=by simpa using zq
  have hw:IntKind.i64.wrap ((j:Int)+1)=j+1:=wrap_i64 _ (by omega) (by omega);have ze:j≤a.mv.length:=hj;have z7:min j a.mv.length=j:=by omega
  repeat first|(refine r_ ?_;simp[z1,ze,z7])|refine q_ ?_
  refine Qu j (fun k=>∀k',k'<k→V4 a j k'=false) (fun k=>[(1,.vptr 0 0),(6,.vptr 1 0),(15,.list (a.mv.map encMv)),(16,.i a.mv.length),(17,.i j),(25,.list (uU j (a.mv.map encMv))),(26,.i j),(27,.i k)]) (fun _=>[.vars (Q7 a),.vars [.i a.mv[j].src,.i a.mv[j].dst,.list (a.mv[j].on.map encL)]]) rfl (by simp) (by simp) (by simp) (by simp) (by simp) ?_;intro k hk zj zk;repeat first|(refine r_ ?_;simp)|refine q_ ?_
  refine Qa rfl (fun zf=> ?_) (fun zg=> ?_)
  ·have za:k<j:=by simpa using zf
   have zb:k<a.mv.length:=by omega
   have zl:IntKind.i64.wrap ((k:Int)+1)=k+1:=wrap_i64 _ (by omega) (by omega);have z6:=w0n (a:=a) z1 zb;have zm:V4 a j k=false→∀k',k'<k+1→V4 a j k'=false:=fun hb k' zh=>by
    by_cases e:k'=k
    ·rw[e];exact hb
    ·exact zj k' (by omega)
   have zn:(uU j (a.mv.map encMv))[k]? =some (encMv a.mv[k]):=by rw[List.getElem?_take_of_lt za];simp[zb]
   by_cases he:a.mv[j].src=a.mv[k].src
   ·rw[decide_eq_true he,un]at z6;have zc:(a.mv[j].src==a.mv[k].src)=true:=by simpa using he
    repeat first|(refine r_ ?_;simp[zn,za,zb,z7,zc])|refine q_ ?_
    have zo:=zT z1;have zp:=zT zb;refine Qe rfl rfl (by simp) (g0f a.types.toNat a.mv[j].on a.mv[k].on (z8.mv _ zo).on.wf (z8.mv _ zp).on.wf (fun s hs=>by have:=Hp z8 zo s hs;omega) (fun s hs=>by have:=Hp z8 zp s hs;omega) (by have:=z8.types;omega)) rfl ?_;rintro _ rfl;simp;repeat first|(refine r_ ?_;simp)|refine q_ ?_
    refine Qa rfl (fun h3=> ?_) (fun h3=> ?_)
    ·repeat first|(refine r_ ?_;simp)|refine q_ ?_
     rw[Ce z1 za (by rw[z6];simpa using h3)]
    ·repeat first|(refine r_ ?_;simp[zl])|refine q_ ?_
     refine Qs _ (zk za (zm (by rw[z6];simpa using h3))) rfl (by simp) ?_ (by simp) (by simp);simp
   ·rw[decide_eq_false he,uB]at z6;have zc:(a.mv[j].src==a.mv[k].src)=false:=beq_eq_false_iff_ne.2 he;repeat first|(refine r_ ?_;simp[zn,za,zb,z7,zc])|refine q_ ?_
    refine Q4 rfl rfl ?_;simp[zc];repeat first|(refine r_ ?_;simp[zc])|refine q_ ?_
    refine Qm rfl ?_;repeat first|(refine r_ ?_;simp[zl])|refine q_ ?_
    refine Qs _ (zk za (zm z6)) rfl (by simp) ?_ (by simp) (by simp);simp
  ·have zd:k=j:=by simp at zg;omega
   subst zd;repeat first|(refine r_ ?_;simp[hw])|refine q_ ?_
   refine Qs _ (ih z1 (fun i hi k' zh=> ?_)) rfl (by simp) ?_ (by simp) (by simp)
   ·by_cases e:i=k
    ·subst e;exact zj k' zh
    ·exact hI i (by omega) k' zh
   ·simp
 ·have zi:j=a.mv.length:=by simp at zr;omega
  subst zi;repeat first|(refine r_ ?_;simp)|refine q_ ?_
  rw[q09 hI]
end Go.Abs
namespace Go.Abs
open Go Go.Proofs
abbrev LI (l:List Int):AV:= .list (l.map (AV.int .i64))
def Kl{α:Type}(f:α→Bool)(l:List α):Int:=match l.findIdx? f with|some i=>i|none=> -1
theorem Ga{α:Type}{f:α→Bool}{l:List α}{j:Nat}(hj:j<l.length)(h:f l[j]=true)(hb:∀i,∀hi:i<l.length,i<j→f l[i]=false):Kl f l=j:=by unfold Kl;rw[xP.2 ⟨hj,h,fun i hi=>by rw[hb i (by omega) hi];simp⟩]
theorem Az{α:Type}{f:α→Bool}{l:List α}(hb:∀i,∀hi:i<l.length,i<l.length→f l[i]=false):Kl f l= -1:=by unfold Kl;rw[vD.2 (fun x hx=>by obtain⟨i,hi,rfl⟩:=xE hx;exact hb i hi hi)]
theorem q0a{α:Type}(f:α→Bool)(l:List α):decide (0≤Kl f l)=l.any f:=by
 unfold Kl;cases h:l.findIdx? f with
 |none=>
  rw[vD]at h;have:l.any f=false:=by rw[List.any_eq_false];intro x hx;rw[h x hx];simp
  rw[this];rfl
 |some i=>obtain⟨h1,h2,_⟩:=xP.1 h;have:l.any f=true:=vK.2 ⟨_,zT h1,h2⟩;rw[this];simp
theorem w0g(l:List Int)(v:Int):PC Tryz.prog 137 [LI l,.i v] (fun r=>r= .i (Kl (fun y=>v==y) l)):=by
 refine Ql tOk Tryz.func137 rfl Tryz.results137 rfl (by simp[Tryz.ntmps137]) ?_;rw[Tryz.ntmps137];simp only[Qg];refine Yo 0 rfl (fun hlen=> ?_);rw[yO]at hlen;repeat first|(refine r_ ?_;simp)|refine q_ ?_
 refine Qu l.length (fun j=>∀i,∀hi:i<l.length,i<j→(v==l[i])=false) (fun j=>[(0,LI l),(1,.i v),(7,.i l.length),(8,.i j)]) (fun _=>[]) rfl (by simp) (by simp) (by simp) (by simp) (by simp) ?_;intro j hj hI ih;repeat first|(refine r_ ?_;simp)|refine q_ ?_
 refine Qa rfl (fun z7=> ?_) (fun z8=> ?_)
 ·have z1:j<l.length:=by simpa using z7
  have hw:IntKind.i64.wrap ((j:Int)+1)=j+1:=wrap_i64 _ (by omega) (by omega);repeat first|(refine r_ ?_;simp[z1])|refine q_ ?_
  refine Qa rfl (fun h=> ?_) (fun h=> ?_)
  ·repeat first|(refine r_ ?_;simp)|refine q_ ?_
   rw[Ga (f:=fun y=>v==y) z1 h hI]
  ·repeat first|(refine r_ ?_;simp[hw])|refine q_ ?_
   refine Qs _ (ih z1 (fun i hi za=> ?_)) rfl (by simp) ?_ (by simp) (by simp)
   ·by_cases e:i=j
    ·subst e;exact h
    ·exact hI i hi (by omega)
   ·simp
 ·have z6:j=l.length:=by simp at z8;omega
  subst z6;repeat first|(refine r_ ?_;simp)|refine q_ ?_
  rw[Az (f:=fun y=>v==y) hI]
theorem Dn(l:List Int)(v:Int):PC Tryz.prog 174 [LI l,.i v] (fun r=>r= .bool (l.contains v)):=by
 refine Ql tOk Tryz.func174 rfl Tryz.results174 rfl (by simp[Tryz.ntmps174]) ?_;rw[Tryz.ntmps174];simp only[Qg];repeat first|(refine r_ ?_;simp)|refine q_ ?_
 refine Qe rfl rfl (by simp) (w0g l v) rfl ?_;rintro _ rfl;simp;repeat first|(refine r_ ?_;simp)|refine q_ ?_
 have:=q0a (fun y=>v==y) l;rw[wO]at this;simpa using this
structure SL (K G:List AObj) (p e sz:Nat) (xs:List AV):Prop where
 arr:G[p]? =some (.arr e sz xs)
 ge:K.length≤p
 keep:∀j,j<K.length→G[j]? =K[j]?
theorem SL.kp{K G:List AObj}{p e sz:Nat}{xs:List AV}(h:SL K G p e sz xs){j:Nat}{x:AObj}(hx:K[j]? =some x):G[j]? =some x:=by rw[h.keep j (zE.1 hx).1];exact hx
theorem SL.start(K:List AObj)(e sz:Nat):SL K (K++[AObj.arr e sz []]) K.length e sz []:=
 ⟨by simp,zW _,fun j hj=>zI hj⟩
theorem SL.add{K G:List AObj}{p e sz:Nat}{xs:List AV}(h:SL K G p e sz xs)(L:List AObj):SL K (G++L) p e sz xs:=
 ⟨by rw[zI (zE.1 h.arr).1];exact h.arr,h.ge,fun j hj=>by
  rw[zI (by have:=(zE.1 h.arr).1;have:=h.ge;omega)];exact h.keep j hj⟩
theorem SL.put{K G:List AObj}{p e sz:Nat}{xs:List AV}(h:SL K G p e sz xs)(L:List AObj)(ys:List AV){n:Nat}(hn:n=G.length+L.length):SL K (G.set p .dead++(L++[AObj.arr e sz ys])) n e sz ys:=by have hp:=(zE.1 h.arr).1;have z1:=h.ge;subst hn;refine⟨by rw[zL (by simp),zL (by simp)];simp,by omega,fun j hj=> ?_⟩;rw[zI (by simp;omega),zH (by omega)];exact h.keep j hj
theorem SL.at{K G:List AObj}{p e sz:Nat}{xs:List AV}(h:SL K G p e sz xs){j:Nat}{x:AObj}(hx:K[j]? =some x)(L:List AObj):(G.set p .dead++L)[j]? =some x:=by have hj:=(zE.1 hx).1;have hp:=(zE.1 h.arr).1;have z1:=h.ge;rw[zI (by simp;omega),zH (by omega),h.keep j hj];exact hx
theorem SL.at'{K G:List AObj}{p e sz:Nat}{xs:List AV}(h:SL K G p e sz xs){j:Nat}{x:AObj}(hx:K[j]? =some x)(L:List AObj):(G++L)[j]? =some x:=(h.add L).kp hx
def z13(l:List Int)(x:Sy)(m:Mv):Bool:=l.contains m.src && Tn m.on x
def Z9(l:List Int)(x:Sy)(ms:List Mv):List Int:=(ms.filter (z13 l x)).map (·.dst)
theorem f0v(l:List Int)(x:Sy)(ms:List Mv)(j:Nat)(h:j<ms.length):Z9 l x (ms.take (j+1))=Z9 l x (ms.take j)++(if z13 l x ms[j]then [ms[j].dst]else []):=by unfold Z9;rw[zY h,List.filter_append,yX];cases h:z13 l x ms[j]<;>simp[h]
theorem q00(l:List Int)(x:Sy)(ms:List Mv):(Z9 l x ms).length≤ms.length:=by unfold Z9;rw[yO];exact List.length_filter_le _ _
theorem w1x(a:Aut)(l:List Int)(x:Sy):Lib.compact (R8 (Z9 l x a.mv))=k1w a l x:=rfl
theorem w1v(l:List Int)(x:Sy):Z9 l x []=[]:=rfl
attribute [local irreducible] Z9 Bj R8 Lib.compact
theorem Xb(a:Aut)(ha:OkA a)(l:List Int)(x:Sy)(hx:Ew a x):PC Tryz.prog 122 [encA a,LI l,encSy x] (fun r=>r=LI (Wh a l x)):=by
 refine Ql tOk Tryz.func122 rfl Tryz.results122 rfl (by simp[Tryz.ntmps122]) ?_;rw[Tryz.ntmps122];simp only[Qg];simp only[encA,encSy];have zi:=ha.mvs;have hF:∀m∈a.mv,Bj m.on x=(Tn m.on x,0):=fun m hm=>by rw[j1i ((Es a.types m.on).2 ⟨ha.types,(ha.mv m hm).on⟩),if_neg (fun k=>k ((w1d _ _).2 hx))]
 repeat first|(refine r_ ?_;simp)|refine q_ ?_
 refine Q6 7 3 1 rfl ?_;simp;refine Qo (Qc (sl':=[(1,LI l),(3,.vptr 0 0),(5,.vptr 1 0),(7,.sl 2 1 0 (Z9 l x (a.mv.take 0)).length),(11,.list (a.mv.map encMv)),(12,.i a.mv.length),(13,.i 0)]) ?_ (by simp[Z9]));obtain⟨K,hK⟩:∃K,K=[AObj.vars (Q7 a),AObj.vars [AV.i x.ty,AV.i x.num]]:=⟨_,rfl⟩
 have z8:K[1]? =some (AObj.vars [AV.i x.ty,AV.i x.num]):=by rw[hK];rfl
 have za:=SL.start K 3 1;refine Qp (F:=fun(u:Nat×Nat×List AObj)=>⟨[(1,LI l),(3,.vptr 0 0),(5,.vptr 1 0),(7,.sl u.2.1 1 0 (Z9 l x (a.mv.take u.1)).length),(11,.list (a.mv.map encMv)),(12,.i a.mv.length),(13,.i u.1)],u.2.2⟩)
  (fun u=>u.1≤a.mv.length∧SL K u.2.2 u.2.1 3 1 ((Z9 l x (a.mv.take u.1)).map (AV.int .i64))) (fun u=>a.mv.length - u.1) ?_ (0,2,_) ⟨by simp,by rw[List.take_zero,w1v];rw[hK]at za ⊢;exact za⟩
 rintro⟨j,q,H2⟩ ⟨hj,g⟩ ih;simp only at hj g ih ⊢;have g1:=g.kp z8;repeat first|(refine r_ ?_;simp)|refine q_ ?_
 refine Qa rfl (fun zc=> ?_) (fun zd=> ?_)
 ·have z1:j<a.mv.length:=by simpa using zc
  have hw:IntKind.i64.wrap ((j:Int)+1)=j+1:=wrap_i64 _ (by omega) (by omega);have ze:=f0v l x a.mv j z1;have zb:=q00 l x (a.mv.take j);rw[List.length_take]at zb;have zf:=hF _ (zT z1);have z6:=fun q' H'=>ih (j+1,q',H');simp only[ze]at z6;generalize Z9 l x (a.mv.take j)=acc at *
  have gL:=fun L=>g.at' z8 L;repeat first|(refine r_ ?_;simp[z1])|refine q_ ?_
  by_cases hb:a.mv[j].src∈l
  ·have zg:l.contains a.mv[j].src=true:=by simpa using hb
   refine Qe rfl rfl (by simp) (Dn l a.mv[j].src) rfl ?_;rintro _ rfl;simp[hb,gL];repeat first|(refine r_ ?_;simp[gL])|refine q_ ?_
   refine Qe rfl rfl (by simp) (k1x a.mv[j].on x) rfl ?_;rintro _ rfl;simp[zf];repeat first|(refine r_ ?_;simp)|refine q_ ?_
   cases hb2:Tn a.mv[j].on x with
   |false=>
    have hh:z13 l x a.mv[j]=false:=by rw[z13,hb2];simp
    refine Qm rfl ?_;simp[hb2];repeat first|(refine r_ ?_;simp[hw])|refine q_ ?_
    refine Qc (sl':=[(1,LI l),(3,.vptr 0 0),(5,.vptr 1 0),(7,.sl q 1 0 acc.length),(11,.list (a.mv.map encMv)),(12,.i a.mv.length),(13,.i (j+1:Nat))]) ?_ (by simp);have:=z6 q _ ⟨by omega,by rw[hh];simpa using g.add [AObj.vars [AV.i a.mv[j].src,AV.i a.mv[j].dst,AV.list (a.mv[j].on.map encL)]]⟩ (by omega);rw[hh]at this;simpa using this
   |true=>
    have hh:z13 l x a.mv[j]=true:=by rw[z13,zg,hb2];rfl
    refine Qm rfl ?_;simp[hb2];repeat first|(refine r_ ?_;simp)|refine q_ ?_
    refine Qf tOk rfl rfl T40 rfl T3 rfl (by decide) (by decide) rfl rfl rfl ?_;simp[Qb g.arr,Qj g.arr];refine⟨by simp[Wk,Qb g.arr,Qj g.arr]<;>omega,?_⟩;repeat first|(refine r_ ?_;simp[hw])|refine q_ ?_
    refine Qc (sl':=[(1,LI l),(3,.vptr 0 0),(5,.vptr 1 0),(7,.sl (H2.length+2) 1 0 (acc.length+1)),(11,.list (a.mv.map encMv)),(12,.i a.mv.length),(13,.i (j+1:Nat))]) ?_ (by simp);have:=z6 (H2.length+2) _ ⟨by omega,by rw[hh];exact g.put [AObj.vars [AV.i a.mv[j].src,AV.i a.mv[j].dst,AV.list (a.mv[j].on.map encL)],AObj.arr 3 1 [AV.i a.mv[j].dst]] _ rfl⟩ (by omega);rw[hh]at this;simpa using this
  ·have hh:z13 l x a.mv[j]=false:=by simp[z13,hb]
   refine Qe rfl rfl (by simp) (Dn l a.mv[j].src) rfl ?_;rintro _ rfl;simp[hb,gL];refine Q4 rfl rfl ?_;simp[hb];refine Qm rfl ?_;repeat first|(refine r_ ?_;simp[hw])|refine q_ ?_
   refine Qc (sl':=[(1,LI l),(3,.vptr 0 0),(5,.vptr 1 0),(7,.sl q 1 0 acc.length),(11,.list (a.mv.map encMv)),(12,.i a.mv.length),(13,.i (j+1:Nat))]) ?_ (by simp);have:=z6 q _ ⟨by omega,by rw[hh];simpa using g.add [AObj.vars [AV.i a.mv[j].src,AV.i a.mv[j].dst,AV.list (a.mv[j].on.map encL)]]⟩ (by omega);rw[hh]at this;simpa using this
 ·have z7:j=a.mv.length:=by simp at zd;omega
  subst z7;rw[xB]at g ⊢;have zb:=q00 l x a.mv;repeat first|(refine r_ ?_;simp)|refine q_ ?_
  refine Q8 rfl rfl (Km H2 q (Z9 l x a.mv) g.arr (by omega)) rfl ?_;rintro r H' ⟨rfl,rfl⟩;simp;repeat first|(refine r_ ?_;simp)|refine q_ ?_
  have g2:=Qh g.arr (.arr 3 1 ((R8 (Z9 l x a.mv)).map (AV.int .i64)));have zh:=Iz (Z9 l x a.mv);rw[←zh];refine Q8 rfl rfl (Ag _ q (R8 (Z9 l x a.mv)) g2 (by omega) (U0 _)) rfl ?_;rintro r H' ⟨rfl,G,rfl⟩;simp;have g3:=Qh g.arr (.arr 3 1 ((Lib.compact (R8 (Z9 l x a.mv))++G).map (AV.int .i64)));rw[w1x,j19 (fun m hm=>(ha.mv m hm).dst)]at *
  repeat first|(refine r_ ?_;simp)|refine q_ ?_
  rw[yX]at g3;simp[g3]
end Go.Abs
namespace Go.Abs
open Go Go.Proofs
theorem k0i(H:List AObj)(l:List Int)(g:Nat)(cap:AV)(f:Int→Bool)(hl:l.length≤1000000000)(hg:∀z∈l,FC Tryz.prog g [.i z,cap] H (fun r H'=>r= .bool (f z)∧H'=H)):
  FC Tryz.prog 119 [LI l,.fn (.func g) [] [cap]] H (fun r H'=>r= .i (Kl f l)∧H'=H):=by
 refine W9 tOk Tryz.func119 rfl Tryz.results119 rfl (by simp[Tryz.ntmps119]) ?_;rw[Tryz.ntmps119];simp only[Qg];repeat first|(refine r_ ?_;simp)|refine q_ ?_
 refine Qo (Qc (sl':=[(0,LI l),(1,.fn (.func g) [] [cap]),(7,.i l.length),(8,.i 0)]) ?_ (by simp));refine Qp (F:=fun(j:Nat)=>⟨[(0,LI l),(1,.fn (.func g) [] [cap]),(7,.i l.length),(8,.i j)],H⟩)
  (fun j=>j≤l.length∧∀i,∀hi:i<l.length,i<j→f l[i]=false) (fun j=>l.length - j) ?_ 0 ⟨by simp,by simp⟩
 rintro j ⟨hj,hI⟩ ih;repeat first|(refine r_ ?_;simp)|refine q_ ?_
 refine Qa rfl (fun z7=> ?_) (fun z8=> ?_)
 ·have z1:j<l.length:=by simpa using z7
  have hw:IntKind.i64.wrap ((j:Int)+1)=j+1:=wrap_i64 _ (by omega) (by omega);repeat first|(refine r_ ?_;simp[z1])|refine q_ ?_
  refine Q8 rfl rfl (hg _ (zT z1)) rfl ?_;rintro r H' ⟨rfl,rfl⟩;simp;repeat first|(refine r_ ?_;simp)|refine q_ ?_
  refine Qa rfl (fun h=> ?_) (fun h=> ?_)
  ·repeat first|(refine r_ ?_;simp)|refine q_ ?_
   rw[Ga z1 h hI]
  ·repeat first|(refine r_ ?_;simp[hw])|refine q_ ?_
   refine Qc (sl':=[(0,LI l),(1,.fn (.func g) [] [cap]),(7,.i l.length),(8,.i (j+1:Nat))]) (ih (j+1) ⟨by omega,fun i hi za=> ?_⟩ (by omega)) (by simp);by_cases e:i=j
   ·subst e;exact h
   ·exact hI i hi (by omega)
 ·have z6:j=l.length:=by simp at z8;omega
  subst z6;repeat first|(refine r_ ?_;simp)|refine q_ ?_
  rw[Az hI]
theorem X7(H:List AObj)(l:List Int)(g:Nat)(cap:AV)(f:Int→Bool)(hl:l.length≤1000000000)(hg:∀z∈l,FC Tryz.prog g [.i z,cap] H (fun r H'=>r= .bool (f z)∧H'=H)):
  FC Tryz.prog 54 [LI l,.fn (.func g) [] [cap]] H (fun r H'=>r= .bool (l.any f)∧H'=H):=by
 refine W9 tOk Tryz.func54 rfl Tryz.results54 rfl (by simp[Tryz.ntmps54]) ?_;rw[Tryz.ntmps54];simp only[Qg];repeat first|(refine r_ ?_;simp)|refine q_ ?_
 refine Q8 rfl rfl (k0i H l g cap f hl hg) rfl ?_;rintro r H' ⟨rfl,rfl⟩;simp;repeat first|(refine r_ ?_;simp)|refine q_ ?_
 rw[←q0a]
def x2l(a:Aut)(s:Int):Bool:=decide (s<0) || decide ((a.fin.length:Int)≤s)
attribute [local irreducible] x2l
end Go.Abs
namespace Go.Abs
open Go Go.Proofs
attribute [simp] T4
def q25(n:Nat)(f:Int→Bool):List AV:=(Rt n).map fun z=>AV.bool (f z)
attribute [local irreducible] q25
def q11(n:Nat)(f:Int→Bool):List Int:=(Rt n).filter f
attribute [local irreducible] q11
end Go.Abs
namespace Go.Abs
open Go Go.Proofs
def nxB(ms:List Mv)(f:Int→Bool)(x:Sy)(z:Int):Bool:=ms.any fun m=>f m.src && Tn m.on x && m.dst==z
attribute [local irreducible] Tn nxB
end Go.Abs
namespace Go.Abs
open Go Go.Proofs
attribute [local irreducible] nxB q11 Z6
attribute [local irreducible] E8
theorem Vx(a:Aut)(hl:a.mv.length≤1000000):PC Tryz.prog 118 [encA a] (fun r=>r=LP (onA a)):=by
 refine Ql tOk Tryz.func118 rfl Tryz.results118 rfl (by simp[Tryz.ntmps118]) ?_;rw[Tryz.ntmps118];simp only[Qg];simp only[encA];repeat first|(refine r_ ?_;simp)|refine q_ ?_
 refine Q6 3 76 1 rfl ?_;simp;refine Qo (Qc (sl':=[(1,.vptr 0 0),(3,.sl 1 1 0 0),(4,.i 0)]) ?_ (by simp));obtain⟨K,hK⟩:∃K,K=[AObj.vars (Q7 a)]:=⟨_,rfl⟩
 have za:K[0]? =some (AObj.vars (Q7 a)):=by rw[hK];rfl
 have zb:=SL.start K 76 1;refine Qp (F:=fun(u:Nat×Nat×List AObj)=>⟨[(1,.vptr 0 0),(3,.sl u.2.1 1 0 u.1),(4,.i u.1)],u.2.2⟩)
  (fun u=>u.1≤a.mv.length∧SL K u.2.2 u.2.1 76 1 ((onA { a with mv:=a.mv.take u.1 }).map encP)) (fun u=>a.mv.length - u.1) ?_ (0,1,_) ⟨by simp,by rw[hK]at zb ⊢;exact zb⟩
 rintro⟨j,q,H2⟩ ⟨hj,g⟩ ih;simp only at hj g ih ⊢;have g0:=g.kp za;repeat first|(refine r_ ?_;simp[g0])|refine q_ ?_
 refine Qa rfl (fun zd=> ?_) (fun ze=> ?_)
 ·have z1:j<a.mv.length:=by simpa using zd
  have hw:IntKind.i64.wrap ((j:Int)+1)=j+1:=wrap_i64 _ (by omega) (by omega);have zf:(onA { a with mv:=a.mv.take (j+1) }).map encP=(onA { a with mv:=a.mv.take j }).map encP++[encP a.mv[j].on]:=by
   have e:onA { a with mv:=a.mv.take (j+1) }=onA { a with mv:=a.mv.take j }++[a.mv[j].on]:=by
    show(a.mv.take (j+1)).map (·.on)=(a.mv.take j).map (·.on)++[a.mv[j].on]
    rw[zY z1,yX];rfl
   rw[e,yX];rfl
  have z6:((onA { a with mv:=a.mv.take j }).map encP).length=j:=by unfold onA;simp;omega
  have zc:=fun q' H'=>ih (j+1,q',H');simp only[zf]at zc;generalize (onA { a with mv:=a.mv.take j }).map encP=acc at *
  have gL:=fun L=>g.at za L;repeat first|(refine r_ ?_;simp[g0,z1])|refine q_ ?_
  refine Qf tOk rfl rfl T91 rfl T76 rfl (by decide) (by decide) rfl rfl rfl ?_;simp[Qb g.arr,Qj g.arr,z6];refine⟨by simp[Wk,Qb g.arr,Qj g.arr,z6]<;>omega,?_⟩;repeat first|(refine r_ ?_;simp[gL,hw])|refine q_ ?_
  exact Qc (sl':=[(1,.vptr 0 0),(3,.sl (H2.length+1) 1 0 (j+1)),(4,.i (j+1:Nat))]) (zc (H2.length+1) _ ⟨by omega,g.put [AObj.arr 76 1 [encP a.mv[j].on]] _ rfl⟩ (by omega)) (by simp)
 ·have z8:j=a.mv.length:=by simp at ze;omega
  subst z8;have e:({ a with mv:=a.mv.take a.mv.length }:Aut)=a:=by rw[xB]
  rw[e]at g;have z6:((onA a).map encP).length=a.mv.length:=by simp[onA]
  have ga:=g.arr;obtain⟨acc,z7⟩:∃acc,acc=(onA a).map encP:=⟨_,rfl⟩
  rw[←z7]at ga z6;repeat first|(refine r_ ?_;simp[ga,z6])|refine q_ ?_
  rw[zV (by omega),z7]
end Go.Abs
namespace Go.Abs
open Go Go.Proofs
theorem j0x{α:Type}{a b:List α}(h:a.length=b.length)(hi:∀i,∀h1:i<a.length,∀h2:i<b.length,a[i]=b[i]):a=b:=wP h hi
abbrev LLI (l:List (List Int)):AV:= .list (l.map fun x=>LI x)
end Go.Abs
namespace Go.Abs
open Go Go.Proofs
end Go.Abs
namespace Go.Abs
open Go Go.Proofs
def z2r(a:Aut)(s:Int)(j:Nat):Prd:=(Kp { a with mv:=a.mv.take j } s).foldl (fun r p=>Wc r (W6 p)) (Wz a.types.toNat)
theorem y1a{T:Nat}{p:Prd}(hp:PWf T p){m:Nat}(h2:∀t∈p,t.length≤m):∀x∈W6 p,x.length≤m+1:=fun x hx=>by obtain⟨y,hy,rfl⟩:=zX.1 hx;have:=q1q (hp.2 y hy).1 (hp.2 y hy).2;have:=h2 y hy;omega
attribute [local irreducible] z2r Wc W6 Wz Wi
end Go.Abs
namespace Go.Abs
open Go Go.Proofs
attribute [local irreducible] x0x Wi
end Go.Abs
namespace Go.Abs
open Go Go.Proofs
theorem z0s{p:Prd}{i:Nat}(h:i<p.length)(hv:¬(p[i].length≤12)):x1t p=false:=by rw[vY,Ne,M8];exact fun k=>hv (k.2 _ (zT h))
theorem y1w(p:Prd):PC Tryz.prog 46 [encP p] (fun r=>r= .bool (x1t p)):=by
 refine Ql tOk Tryz.func46 rfl Tryz.results46 rfl (by simp[Tryz.ntmps46]) ?_;rw[Tryz.ntmps46];simp only[Qg];simp only[encP];refine W1 0 0 rfl rfl (fun hlen=> ?_);rw[yO]at hlen;repeat first|(refine r_ ?_;simp)|refine q_ ?_
 refine Qu p.length (fun j=>j≤5∧∀i,∀hi:i<p.length,i<j→p[i].length≤12) (fun j=>[(1,.vptr 0 0),(3,.i j)]) (fun _=>[.vars [.list (p.map encL)]]) rfl (by simp) (by simp) (by simp) (by simp) (by simp) ?_;rintro j hj ⟨za,hI⟩ ih;repeat first|(refine r_ ?_;simp)|refine q_ ?_
 refine Qa rfl (fun z6=> ?_) (fun z7=> ?_)
 ·have z1:j<p.length:=by simp at z6;omega
  have zb:j<5:=by simp at z6;omega
  have hw:IntKind.i64.wrap ((j:Int)+1)=j+1:=wrap_i64 _ (by omega) (by omega);repeat first|(refine r_ ?_;simp[z1])|refine q_ ?_
  refine Qe rfl rfl (by simp) (f1j p[j]) rfl ?_;rintro _ rfl;simp;repeat first|(refine r_ ?_;simp)|refine q_ ?_
  refine Qa rfl (fun he=> ?_) (fun he=> ?_)
  ·repeat first|(refine r_ ?_;simp)|refine q_ ?_
   rw[z0s z1 (by simp at he;omega)]
  ·repeat first|(refine r_ ?_;simp[hw])|refine q_ ?_
   refine Qs [] (ih z1 ⟨by omega,fun i hi zc=> ?_⟩) rfl (by simp) ?_ (by simp) (by simp)
   ·by_cases e:i=j
    ·subst e;simp at he;omega
    ·exact hI i hi (by omega)
   ·simp
 ·have z8:p.length≤j∨5≤j:=by simp at z7;omega
  repeat first|(refine r_ ?_;simp)|refine q_ ?_
  rw[wO,M8,decide_eq_true_eq];constructor
  ·intro h4;refine⟨by omega,fun s hs=> ?_⟩;obtain⟨i,hi,rfl⟩:=xE hs;exact hI i hi (by omega)
  ·intro h4;omega
end Go.Abs
namespace Go.Abs
open Go Go.Proofs
theorem X0{a:Aut}:x17 a=true↔a.fin.length≤8∧a.mv.length≤16∧∀m∈a.mv,x1t m.on=true:=by simp only[x17,yT,decide_eq_true_eq,yE,and_assoc]
attribute [local irreducible] x1t
theorem k0f(a:Aut):PC Tryz.prog 13 [encA a] (fun r=>r= .bool (x17 a)):=by
 refine Ql tOk Tryz.func13 rfl Tryz.results13 rfl (by simp[Tryz.ntmps13]) ?_;rw[Tryz.ntmps13];simp only[Qg];simp only[encA];refine W1 0 2 rfl rfl (fun hlen=> ?_);rw[yO]at hlen;repeat first|(refine r_ ?_;simp)|refine q_ ?_
 refine Qu a.mv.length (fun j=>j≤20∧∀i,∀hi:i<a.mv.length,i<j→x1t a.mv[i].on=true) (fun j=>[(1,.vptr 0 0),(3,.i j)]) (fun _=>[.vars (Q7 a)]) rfl (by simp) (by simp) (by simp) (by simp) (by simp) ?_;rintro j hj ⟨za,hI⟩ ih;repeat first|(refine r_ ?_;simp)|refine q_ ?_
 refine Qa rfl (fun z6=> ?_) (fun z7=> ?_)
 ·have z1:j<a.mv.length:=by simp at z6;omega
  have zb:j<20:=by simp at z6;omega
  have hw:IntKind.i64.wrap ((j:Int)+1)=j+1:=wrap_i64 _ (by omega) (by omega);repeat first|(refine r_ ?_;simp[z1])|refine q_ ?_
  refine Qe rfl rfl (by simp) (y1w a.mv[j].on) rfl ?_;rintro _ rfl;simp;repeat first|(refine r_ ?_;simp)|refine q_ ?_
  refine Qa rfl (fun he=> ?_) (fun he=> ?_)
  ·repeat first|(refine r_ ?_;simp)|refine q_ ?_
   have:x17 a=false:=by rw[vY,Ne,X0];intro k;have:=k.2.2 _ (zT z1);rw[this]at he;cases he
   rw[this]
  ·repeat first|(refine r_ ?_;simp[hw])|refine q_ ?_
   refine Qs [] (ih z1 ⟨by omega,fun i hi zc=> ?_⟩) rfl (by simp) ?_ (by simp) (by simp)
   ·by_cases e:i=j
    ·subst e;simpa using he
    ·exact hI i hi (by omega)
   ·simp
 ·have z8:a.mv.length≤j∨20≤j:=by simp at z7;omega
  repeat first|(refine r_ ?_;simp)|refine q_ ?_
  rw[wO,X0];simp;constructor
  ·rintro⟨h4,h5⟩;refine⟨by omega,by omega,fun m hm=> ?_⟩;obtain⟨i,hi,rfl⟩:=xE hm;exact hI i hi (by omega)
  ·rintro⟨h4,h5,_⟩;omega
end Go.Abs
namespace Go.Abs
open Go Go.Proofs
theorem j0v(a b:Prd):PC Tryz.prog 72 [encP a,encP b] (fun r=>r= .bool (decide (a=b))):=by
 refine Ql tOk Tryz.func72 rfl Tryz.results72 rfl (by simp[Tryz.ntmps72]) ?_;rw[Tryz.ntmps72];simp only[Qg];simp only[encP];refine W1 0 0 rfl rfl (fun hlen=> ?_);rw[yO]at hlen;repeat first|(refine r_ ?_;simp)|refine q_ ?_
 refine Qa rfl (fun h=> ?_) (fun h=> ?_)
 ·repeat first|(refine r_ ?_;simp)|refine q_ ?_
  intro e;subst e;simp at h
 have hl:a.length=b.length:=by simp at h;omega
 repeat first|(refine r_ ?_;simp)|refine q_ ?_
 refine Qu a.length (fun j=>∀i,i<j→∀h1:i<a.length,∀h2:i<b.length,a[i]=b[i]) (fun j=>[(2,.vptr 0 0),(3,.vptr 1 0),(5,.i j)]) (fun _=>[.vars [.list (a.map encL)],.vars [.list (b.map encL)]]) rfl (by simp) (by simp) (by simp) (by simp) (by simp) ?_;intro j hj hI ih;repeat first|(refine r_ ?_;simp)|refine q_ ?_
 refine Qa rfl (fun z7=> ?_) (fun z8=> ?_)
 ·have z1:j<a.length:=by simpa using z7
  have za:j<b.length:=by omega
  have hw:IntKind.i64.wrap ((j:Int)+1)=j+1:=wrap_i64 _ (by omega) (by omega);repeat first|(refine r_ ?_;simp)|refine q_ ?_
  refine Qk tOk mixed [] (.val 0 (.val 1 (.val 2 (.val 3 (.val 4 (.val 5 (.val 6 (.val 7 (.val 8 (.val 9 (.one 10 (.val 11 (.done))))))))))))) rfl (by kernel_rfl) ?_;simp[z1,za];refine Qe rfl rfl (by simp) (k15 a[j] b[j]) rfl ?_;rintro _ rfl;simp;repeat first|(refine r_ ?_;simp)|refine q_ ?_
  refine Qa rfl (fun h3=> ?_) (fun h3=> ?_)
  ·repeat first|(refine r_ ?_;simp)|refine q_ ?_
   intro e;subst e;simp at h3
  ·repeat first|(refine r_ ?_;simp[hw])|refine q_ ?_
   refine Qs [] (ih z1 (fun i hi h1 h2=> ?_)) rfl (by simp) ?_ (by simp) (by simp)
   ·by_cases e:i=j
    ·subst e;simpa using h3
    ·exact hI i (by omega) h1 h2
   ·simp
 ·have z6:j=a.length:=by simp at z8;omega
  subst z6;repeat first|(refine r_ ?_;simp)|refine q_ ?_
  exact j0x hl (fun i h1 h2=>hI i h1 h1 h2)
end Go.Abs
namespace Go.Abs
open Go Go.Proofs
theorem k0c(p:Prd)(g:Nat)(f:List Iv→Bool)(hg:∀s,PC Tryz.prog g [LIv s] (fun r=>r= .bool (f s))):
  PC Tryz.prog 182 [.list (p.map encL),.fn (.func g) [] []] (fun r=>r= .i (Kl f p)):=by
 refine Ql tOk Tryz.func182 rfl Tryz.results182 rfl (by simp[Tryz.ntmps182]) ?_;rw[Tryz.ntmps182];simp only[Qg];refine Yo 0 rfl (fun hlen=> ?_);rw[yO]at hlen;repeat first|(refine r_ ?_;simp)|refine q_ ?_
 refine Qu p.length (fun j=>∀i,∀hi:i<p.length,i<j→f p[i]=false) (fun j=>[(0,.list (p.map encL)),(1,.fn (.func g) [] []),(7,.i p.length),(8,.i j)]) (fun _=>[]) rfl (by simp) (by simp) (by simp) (by simp) (by simp) ?_;intro j hj hI ih;repeat first|(refine r_ ?_;simp)|refine q_ ?_
 refine Qa rfl (fun z7=> ?_) (fun z8=> ?_)
 ·have z1:j<p.length:=by simpa using z7
  have hw:IntKind.i64.wrap ((j:Int)+1)=j+1:=wrap_i64 _ (by omega) (by omega);repeat first|(refine r_ ?_;simp[z1])|refine q_ ?_
  refine Qe rfl rfl (by simp) (hg p[j]) rfl ?_;rintro _ rfl;simp;repeat first|(refine r_ ?_;simp)|refine q_ ?_
  refine Qa rfl (fun h=> ?_) (fun h=> ?_)
  ·repeat first|(refine r_ ?_;simp)|refine q_ ?_
   rw[Ga z1 h hI]
  ·repeat first|(refine r_ ?_;simp[hw])|refine q_ ?_
   refine Qs [] (ih z1 (fun i hi za=> ?_)) rfl (by simp) ?_ (by simp) (by simp)
   ·by_cases e:i=j
    ·subst e;exact h
    ·exact hI i hi (by omega)
   ·simp
 ·have z6:j=p.length:=by simp at z8;omega
  subst z6;repeat first|(refine r_ ?_;simp)|refine q_ ?_
  rw[Az hI]
theorem S3(p:Prd)(g:Nat)(f:List Iv→Bool)(hg:∀s,PC Tryz.prog g [LIv s] (fun r=>r= .bool (f s))):
  PC Tryz.prog 125 [.list (p.map encL),.fn (.func g) [] []] (fun r=>r= .bool (p.any f)):=by
 refine Ql tOk Tryz.func125 rfl Tryz.results125 rfl (by simp[Tryz.ntmps125]) ?_;rw[Tryz.ntmps125];simp only[Qg];repeat first|(refine r_ ?_;simp)|refine q_ ?_
 refine Qe rfl rfl (by simp) (k0c p g f hg) rfl ?_;rintro _ rfl;simp;repeat first|(refine r_ ?_;simp)|refine q_ ?_
 rw[←q0a]
theorem w1z(s:List Iv):PC Tryz.prog 185 [LIv s] (fun r=>r= .bool (decide (0<s.length))):=by refine Ql tOk Tryz.func185 rfl Tryz.results185 rfl (by simp[Tryz.ntmps185]) ?_;rw[Tryz.ntmps185];simp only[Qg];repeat first|(refine r_ ?_;simp)|refine q_ ?_
theorem j10(s:List Iv):PC Tryz.prog 126 [LIv s] (fun r=>r= .bool (decide (256<s.length))):=by
 refine Ql tOk Tryz.func126 rfl Tryz.results126 rfl (by simp[Tryz.ntmps126]) ?_;rw[Tryz.ntmps126];simp only[Qg];repeat first|(refine r_ ?_;simp)|refine q_ ?_
 omega
theorem q1r(p:Prd):(!p.any fun s=>decide (0<s.length))=Wi p:=by
 unfold Wi;rw[List.not_any_eq_all_not]
 congr 1
 funext s;cases s<;>simp
theorem y1t(p:Prd):PC Tryz.prog 132 [encP p] (fun r=>r= .bool (Wi p)):=by
 refine Ql tOk Tryz.func132 rfl Tryz.results132 rfl (by simp[Tryz.ntmps132]) ?_;rw[Tryz.ntmps132];simp only[Qg];simp only[encP];repeat first|(refine r_ ?_;simp)|refine q_ ?_
 refine Qe rfl rfl (by simp) (S3 p 185 (fun s=>decide (0<s.length)) w1z) rfl ?_;rintro _ rfl;simp;repeat first|(refine r_ ?_;simp)|refine q_ ?_
 rw[←q1r p,Bool.not_not]
def v1o(m:Mv):Bool:=m.on.any fun s=>decide (256<s.length)
theorem N6(a:Aut):Mf a=(decide (256<a.fin.length) || decide (2048<a.mv.length) || a.mv.any v1o):=rfl
attribute [local irreducible] v1o
end Go.Abs
namespace Go.Abs
open Go Go.Proofs
abbrev LSy (w:List Sy):AV:= .list (w.map encSy)
def x25(a:Aut)(w:List Sy)(z:Int):Bool:=decide (z∈Zy a [0] w)
attribute [local irreducible] q25 nxB
end Go.Abs
namespace Go.Abs
open Go Go.Proofs
def f1d(T:Int):List Sy→Int
 |[]=>0
 |x::r=>if Z6 T x≠0 then Z6 T x else f1d T r
def y2o(a:Aut)(w:List Sy):Int:=if Wg a≠0 then Wg a else if 4096<w.length then 5 else f1d a.types w
def y22(a:Aut)(w:List Sy):Bool×Int:=if y2o a w≠0 then(false,y2o a w)else(Bp a w,0)
attribute [local irreducible] Z6 Bp
end Go.Abs
namespace Go.Abs
open Go Go.Proofs
def U3:List Iv:=[⟨-1099511627776,1099511627776⟩]
theorem y0m:Wv []=U3:=by simp[Wv,Rj,U3]
theorem z1e:PC Tryz.prog 156 [] (fun r=>r=LIv U3):=by
 refine Ql tOk Tryz.func156 rfl Tryz.results156 rfl (by simp[Tryz.ntmps156]) ?_;rw[Tryz.ntmps156];simp only[Qg];repeat first|(refine r_ ?_;simp)|refine q_ ?_
 simp[U3]
theorem u17(n:Int):PC Tryz.prog 155 [.i n] (fun r=>r= .tup [LIv U3,.i 0]):=by
 refine Ql tOk Tryz.func155 rfl Tryz.results155 rfl (by simp[Tryz.ntmps155]) ?_;rw[Tryz.ntmps155];simp only[Qg];repeat first|(refine r_ ?_;simp)|refine q_ ?_
 refine Qe rfl rfl (by simp) (z1e) rfl ?_;rintro _ rfl;simp;repeat first|(refine r_ ?_;simp)|refine q_ ?_
end Go.Abs
namespace Go.Abs
open Go Go.Proofs
attribute [local irreducible] upL U3
theorem y0f(T:Nat)(hT:T≤1000):PC Tryz.prog 154 [.i T,.fn (.func 155) [] []] (fun r=>r= .tup [encP (yB T U3),.i 0]):=by
 refine Ql tOk Tryz.func154 rfl Tryz.results154 rfl (by simp[Tryz.ntmps154]) ?_;rw[Tryz.ntmps154];simp only[Qg];simp only[encP];repeat first|(refine r_ ?_;simp)|refine q_ ?_
 refine Eo 1 0 171 1 rfl rfl ?_;simp;obtain⟨K,hK⟩:∃K,K=[AObj.vars [AV.nils],AObj.vars [AV.nils]]:=⟨_,rfl⟩
 have zd:=GL.start (K:=K) (S:=1) [] [] 171 1 (by rw[hK];simp);refine Qo (Qc (sl':=[(1,.fn (.func 155) [] []),(4,.vptr 0 0),(6,.vptr 1 0),(10,.i T),(11,.i 0)]) ?_ (by simp));refine Qp (F:=fun(u:Nat×Nat×List AObj)=>⟨[(1,.fn (.func 155) [] []),(4,.vptr 0 0),(6,.vptr 1 0),(10,.i T),(11,.i u.1)],u.2.2⟩)
  (fun u=>u.1≤T∧GL K u.2.2 1 u.2.1 [] [] 171 1 (upL (fun _=>U3) u.1)) (fun u=>T - u.1) ?_ (0,K.length,_) ⟨by simp,by rw[Pp,hK]at *;exact zd⟩
 rintro⟨j,q,H2⟩ ⟨hj,g⟩ ih;simp only at hj g ih ⊢;have gR:H2[0]? =some (AObj.vars [AV.nils]):=g.kp (by decide) (by rw[hK];rfl);have g2:=g.cell;have g3:=g.arr;rw[W8]at g2;simp only[wC]at g2;repeat first|(refine r_ ?_;simp)|refine q_ ?_
 refine Qa rfl (fun ze=> ?_) (fun zf=> ?_)
 ·have zg:j<T:=by simpa using ze
  have hw:IntKind.i64.wrap ((j:Int)+1)=j+1:=wrap_i64 _ (by omega) (by omega);repeat first|(refine r_ ?_;simp)|refine q_ ?_
  refine Qe rfl rfl (by simp) (u17 j) rfl ?_;rintro _ rfl;simp;repeat first|(refine r_ ?_;simp)|refine q_ ?_
  refine Qm rfl ?_;have z6:∀L:List AObj,(H2.set q .dead++L)[1]? =some (AObj.vars [AV.sl q 1 0 j]):=fun L=>by have:=g.at L;rw[W8]at this;exact this
  have z8:∀(L:List AObj) (h:1<(H2.set q .dead++L).length),(H2.set q .dead++L)[1]'h=AObj.vars [AV.sl q 1 0 j]:=fun L h=>by have:=z6 L;rw[zP h]at this;exact Option.some.inj this
  have za:=fun A y=>g.put A y (W8 _ _).symm;have zh:upL (fun _=>U3) j++[encL U3]=upL (fun _=>U3) (j+1):=(P3 _ _).symm;have z1:=fun H=>ih (j+1,H2.length+1,H);have z7:=W8 (fun _=>U3) j;simp only[←zh]at z1;repeat first|(refine r_ ?_;simp[g2])|refine q_ ?_
  generalize upL (fun _=>U3) j=xs at *
  refine Qf tOk rfl rfl T74 rfl U6 rfl (by decide) (by decide) rfl rfl rfl ?_;simp[Qb g3,Qj g3,z7,z6,z8];refine⟨by simp[Wk,Qb g3,Qj g3,z7,z6,z8]<;>omega,?_⟩;repeat first|(refine r_ ?_;simp[g2,hw,z6,z8])|refine q_ ?_
  refine Qc (sl':=[(1,.fn (.func 155) [] []),(4,.vptr 0 0),(6,.vptr 1 0),(10,.i T),(11,.i (j+1:Nat))]) (z1 _ ⟨by omega,za _ _⟩ (by omega)) ?_;simp
 ·have zb:j=T:=by simp at zf;omega
  subst zb;have hS:=(zE.1 g2).1;have zi:q≠0∧q≠1:=by have:=g.ge;rw[hK]at this;simp at this;omega
  have z7:=W8 (fun _=>U3) j;have zc: .list (upL (fun _=>U3) j)=AV.list ((yB j U3).map encL):=by rw[Hd];simp[Function.comp_def,uN]
  generalize upL (fun _=>U3) j=xs at *
  refine We q g3 1 g2 ?_;have k1:∀X,((H2.set q .dead).set 1 X)[0]? =some (AObj.vars [AV.nils]):=fun X=>Qd (by decide) (Qd zi.1 gR _) _;have k2:∀X,((H2.set q .dead).set 1 X)[1]? =some X:=fun X=>zU (by simpa using hS);have k3:∀X Y,(((H2.set q .dead).set 1 X).set 0 Y)[0]? =some Y:=fun X Y=>Qh (k1 X) _;simp[z7];rw[zV (by omega)];repeat first|(refine r_ ?_;simp[k1,k2,k3])|refine q_ ?_
  have h2:=AV.list.inj zc;rw[List.map_replicate]at h2;exact h2
theorem d1y(T:Int)(h1:1≤T)(h2:T≤16):PC Tryz.prog 98 [.i T] (fun r=>r= .tup [encP (Wz T.toNat),.i 0]):=by
 refine Ql tOk Tryz.func98 rfl Tryz.results98 rfl (by simp[Tryz.ntmps98]) ?_;rw[Tryz.ntmps98];simp only[Qg];simp only[encP];have hw:Wz T.toNat=yB T.toNat U3:=by rw[Wz,y0m]
 have hT:((T.toNat:Nat):Int)=T:=by omega
 have hc:=y0f T.toNat (by omega);rw[hT]at hc;have n1:¬T<1:=by omega
 have n2:¬16<T:=by omega
 rw[hw];repeat first|(refine r_ ?_;simp[n1,n2])|refine q_ ?_
 refine Qa rfl (fun h=> ?_) (fun h=> ?_)
 ·simp at h
 repeat first|(refine r_ ?_;simp)|refine q_ ?_
 refine Qe rfl rfl (by simp) (hc) rfl ?_;rintro _ rfl;simp;repeat first|(refine r_ ?_;simp)|refine q_ ?_
end Go.Abs
