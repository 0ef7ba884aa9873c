/- Part Ke of the proof: an abstract machine over the model, and what the functions of the program hand back in its terms. No condition. -/
import Derived.Test.YteghceocnldccaaGreatDoorKd
import Derived.Test.YteghceocnldccaaGreatDoorKc
set_option linter.all false
open Bool renaming true_or→tD,eq_false_iff→vJ,false_or→um,eq_iff_iff→xU,and_eq_true→yL,false_and→uD,true_and→vW
open List renaming drop_length→xX,length→vY,length_append→yB,getElem?_append_right→zH,nil_append→xY,append_nil→xD,take_of_length_le→zO,getElem_mem→zK,getElem?_eq_some_iff→zE,getElem?_set_self→zL,getElem?_set_ne→zB,getElem?_append_left→zF,range→yJ,range_succ→wp,ext_getElem→wK,getD→yV,cons_append→vT,getElem?_eq_getElem→zI,map_const'→ut,pairwise_iff_getElem→yR,mem_map→zR,mem_append→zV,mem_singleton→zT,mem_append_left→xE,mem_of_getElem?→zJ,foldl_append→wG,pairwise_append→yI,map_append→yF,nodup_append→vB,mem_append_right→ud,reverse_cons→uj,mem_iff_getElem?→yK,reverse_reverse→ua,find?_eq_none→uh,mem_of_find?_eq_some→uF,find?_cons→tq,pairwise_map→wJ,map_congr_left→xT,mem_flatMap→wS,mem_filter→xL,mem_filterMap→vI,mem_cons→yE,any_eq_true→wN,length_map→zZ,all_eq_false→vU,mem_range→yW,all_eq_true→zW,getElem_of_mem→y_,take→v_,findIdx?_eq_some_iff_getElem→xA,findIdx?_eq_none_iff→wL,take_succ_eq_append_getElem→zP,filter_append→wY,length_filter_le→xM,take_zero→ww,take_length→yP,replicate→yH,ext_getElem?→xO,getElem?_eq_none→yZ
open Int renaming le_refl→xH
open Nat renaming le_refl→zQ,zero_le→wn,le_trans→yO
set_option maxHeartbeats 4000000
set_option linter.unusedSimpArgs false
set_option maxRecDepth 100000
namespace Go.Abs
open Go Go.Proofs
attribute [local irreducible] ckR Pj
theorem f1d(l:List Iv)(n:Int)(hl:l.length≤1000000000):PC Tryz.prog 183 [LIv l,.i n] (fun r=>r= .bool (Pj l n)):=by
 refine Ql tOk Tryz.func183 rfl Tryz.results183 rfl (by simp[Tryz.ntmps183]) ?_;rw[Tryz.ntmps183];simp only[Qg];obtain⟨R,hR⟩:∃R,Pj l n=R:=⟨_,rfl⟩
 rw[hR];repeat first|(refine r_ ?_;simp)|refine q_ ?_
 refine Qr l.length (fun j=>Pj (l.drop j) n=R) (fun j=>[(0,LIv l),(1,.i n),(5,.i j)]) (fun _=>[]) rfl (by simp) (by simp) (by simp) (by simp) (by simpa using hR) ?_;intro j hj hI ih;repeat first|(refine r_ ?_;simp)|refine q_ ?_
 refine Qb rfl (fun z7=> ?_) (fun z8=> ?_)
 ·have z1:j<l.length:=by simpa using z7
  have hw:IntKind.i64.wrap ((j:Int)+1)=j+1:=wrap_i64 _ (by omega) (by omega);rw[Ee z1,y1w]at hI;by_cases h1:l[j].lo≤n
  ·by_cases h2:n≤l[j].hi
   ·rw[(Mf ..).2 ⟨h1,h2⟩,tD]at hI;repeat first|(refine r_ ?_;simp[z1,h1,h2])|refine q_ ?_
    refine Qk rfl ?_;repeat first|(refine r_ ?_;simp)|refine q_ ?_
    exact hI.symm
   ·have h3:inI l[j].lo l[j].hi n=false:=by rw[vJ,Ne,Mf];omega
    rw[h3,um]at hI;repeat first|(refine r_ ?_;simp[z1,h1,h2])|refine q_ ?_
    refine Qk rfl ?_;repeat first|(refine r_ ?_;simp[hw])|refine q_ ?_
    exact Qq _ (ih z1 hI) rfl (by simp) (by simp) (by simp) (by simp)
  ·have h3:inI l[j].lo l[j].hi n=false:=by rw[vJ,Ne,Mf];omega
   rw[h3,um]at hI;repeat first|(refine r_ ?_;simp[z1,h1])|refine q_ ?_
   refine Qk rfl ?_;repeat first|(refine r_ ?_;simp[hw])|refine q_ ?_
   exact Qq _ (ih z1 hI) rfl (by simp) (by simp) (by simp) (by simp)
 ·have z6:j=l.length:=by simp at z8;omega
  subst z6;rw[xX]at hI;repeat first|(refine r_ ?_;simp)|refine q_ ?_
  rw[←hI];unfold Pj;rfl
theorem k1p(x y:Iv)(b:List Iv):(y::b).filterMap (O7 x)=(O7 x y).toList++b.filterMap (O7 x):=by cases h:O7 x y<;>simp[h]
def d1n(x:Iv)(b:List Iv):List Iv:=b.filterMap (O7 x)
theorem N1(x:Iv)(a b:List Iv):E8 (x::a) b=d1n x b++E8 a b:=rfl
theorem y1x(x y:Iv)(b:List Iv):d1n x (y::b)=(O7 x y).toList++d1n x b:=k1p x y b
theorem g1d(x:Iv):d1n x []=[]:=rfl
theorem q1l(b:List Iv):E8 [] b=[]:=rfl
attribute [local irreducible] E8 d1n W4
theorem x19(a b:List Iv)(ha:a.length≤1000000000)(hb:b.length≤1000000000)(hP:(E8 a b).length≤1000000000)(ze:∀y∈E8 a b,U7 y):PC Tryz.prog 166 [LIv a,LIv b] (fun r=>r=LIv (W4 (E8 a b))):=by
 refine Ql tOk Tryz.func166 rfl Tryz.results166 rfl (by simp[Tryz.ntmps166]) ?_;rw[Tryz.ntmps166];simp only[Qg];repeat first|(refine r_ ?_;simp)|refine q_ ?_
 refine Q3 5 187 2 rfl ?_;simp;repeat first|(refine r_ ?_;simp)|refine q_ ?_
 refine Qp (Qc (sl':=[(0,LIv a),(1,LIv b),(5,.sl 0 2 0 0),(6,.i 0)]) ?_ (by simp));refine Qo (F:=fun(u:Nat×Nat×List Iv×List AObj)=>⟨[(0,LIv a),(1,LIv b),(5,.sl u.2.1 2 0 u.2.2.1.length),(6,.i u.1)],u.2.2.2⟩)
  (fun u=>u.1≤a.length∧u.2.2.2[u.2.1]? =some (.arr 187 2 (u.2.2.1.map encIv))∧u.2.2.1++E8 (a.drop u.1) b=E8 a b) (fun u=>a.length - u.1) ?_ (0,0,[],[.arr 187 2 []]) ⟨by simp,rfl,by simp⟩
 rintro⟨j,q,acc,H2⟩ ⟨hj,g1,g2⟩ ih;simp only at hj g1 g2 ih ⊢;repeat first|(refine r_ ?_;simp)|refine q_ ?_
 refine Qb rfl (fun zf=> ?_) (fun zg=> ?_)
 ·have z6:j<a.length:=by simpa using zf
  have hw:IntKind.i64.wrap ((j:Int)+1)=j+1:=wrap_i64 _ (by omega) (by omega);rw[Ee z6,N1]at g2;repeat first|(refine r_ ?_;simp)|refine q_ ?_
  refine Qp (Qc (sl':=[(0,LIv a),(1,LIv b),(5,.sl q 2 0 acc.length),(6,.i j),(7,.i 0)]) ?_ (by simp));refine Qo (F:=fun(u:Nat×Nat×List Iv×List AObj)=>⟨[(0,LIv a),(1,LIv b),(5,.sl u.2.1 2 0 u.2.2.1.length),(6,.i j),(7,.i u.1)],u.2.2.2⟩)
   (fun u=>u.1≤b.length∧u.2.2.2[u.2.1]? =some (.arr 187 2 (u.2.2.1.map encIv))∧u.2.2.1++(d1n a[j] (b.drop u.1)++E8 (a.drop (j+1)) b)=E8 a b) (fun u=>b.length - u.1) ?_ (0,q,acc,H2) ⟨by simp,g1,by simpa using g2⟩
  rintro⟨k,q1,acc1,H3⟩ ⟨hk,e1,e2⟩ ih1;simp only at hk e1 e2 ih1 ⊢;repeat first|(refine r_ ?_;simp)|refine q_ ?_
  refine Qb rfl (fun z8=> ?_) (fun za=> ?_)
  ·have z1:k<b.length:=by simpa using z8
   have zc:IntKind.i64.wrap ((k:Int)+1)=k+1:=wrap_i64 _ (by omega) (by omega);rw[Ee z1,y1x]at e2;have zh:acc1.length≤1000000000:=by have:=congrArg vY e2;simp only[yB]at this;omega
   obtain⟨lo,hlo⟩:∃z,(if a[j].lo<b[k].lo then b[k].lo else a[j].lo)=z:=⟨_,rfl⟩
   obtain⟨hi,zd⟩:∃z,(if b[k].hi<a[j].hi then b[k].hi else a[j].hi)=z:=⟨_,rfl⟩
   have hm:O7 a[j] b[k]=if lo≤hi then some ⟨lo,hi⟩else none:=by simp only[O7,hlo,zd]
   rw[hm]at e2;repeat first|(refine r_ ?_;simp[z6,z1])|refine q_ ?_
   refine Qn tOk mixed [] (.val 0 (.val 1 (.val 2 (.val 3 (.val 4 (.val 5 (.val 6 (.val 7 (.val 8 (.val 9 (.val 10 (.val 11 (.val 12 (.val 13 (.val 14 (.val 15 (.val 16 (.val 17 (.val 18 (.val 19 (.val 20 (.val 21 (.val 22 (.val 23 (.done))))))))))))))))))))))))) rfl (by kernel_rfl) ?_;simp[z6,z1,hlo,zd];repeat first|(refine r_ ?_;simp)|refine q_ ?_
   refine Qb rfl (fun h3=> ?_) (fun h3=> ?_)
   ·rw[if_pos (by simpa using h3)]at e2;repeat first|(refine r_ ?_;simp)|refine q_ ?_
    refine Qe tOk rfl rfl U6 rfl Sl rfl (by decide) (by decide) rfl rfl rfl ?_;simp[Qa e1,Qi e1];refine⟨by simp[Wa,Qa e1,Qi e1]<;>omega,?_⟩;repeat first|(refine r_ ?_;simp[zc])|refine q_ ?_
    exact Qc (sl':=[(0,LIv a),(1,LIv b),(5,.sl (H3.length+1) 2 0 (acc1.length+1)),(6,.i j),(7,.i (k+1:Nat))]) (by
     have:=ih1 (k+1,H3.length+1,acc1++[(⟨lo,hi⟩:Iv)],H3.set q1 .dead++[.arr 187 2 [encIv (⟨lo,hi⟩:Iv)],.arr 187 2 ((acc1++[(⟨lo,hi⟩:Iv)]).map encIv)]) ⟨by simp;omega,by simp only;rw[zH (by simp)];simp,by simpa using e2⟩ (by simp;omega);simpa using this) (by simp)
   ·rw[if_neg (by simpa using h3)]at e2;repeat first|(refine r_ ?_;simp[zc])|refine q_ ?_
    exact Qc (sl':=[(0,LIv a),(1,LIv b),(5,.sl q1 2 0 acc1.length),(6,.i j),(7,.i (k+1:Nat))]) (by
     have:=ih1 (k+1,q1,acc1,H3) ⟨by simp;omega,e1,by simpa using e2⟩ (by simp;omega);simpa using this) (by simp)
  ·have z7:k=b.length:=by simp at za;omega
   subst z7;rw[xX,g1d,xY]at e2;repeat first|(refine r_ ?_;simp[hw])|refine q_ ?_
   exact Qc (sl':=[(0,LIv a),(1,LIv b),(5,.sl q1 2 0 acc1.length),(6,.i (j+1:Nat))]) (by
    have:=ih (j+1,q1,acc1,H3) ⟨by simp;omega,e1,e2⟩ (by simp;omega);simpa using this) (by simp)
 ·have zb:j=a.length:=by simp at zg;omega
  subst zb;rw[xX,q1l,xD]at g2;subst g2;repeat first|(refine r_ ?_;simp)|refine q_ ?_
  refine I7 q g1 ?_;simp;rw[zO (by simp)];refine Qf rfl rfl (by simp) (Nd (E8 a b) hP ze) rfl ?_;rintro _ rfl;simp;repeat first|(refine r_ ?_;simp)|refine q_ ?_
theorem Aw(x:Iv)(r:List Iv)(n:Int):Re (x::r) n=(if n<x.lo then [⟨n,x.lo - 1⟩]else [])++Re r (x.hi+1):=rfl
theorem Dy(n:Int):Re [] n=if n≤1099511627776 then [⟨n,1099511627776⟩]else []:=rfl
theorem z0s(l:List Iv):Re l (-1099511627776)=W2 l:=rfl
attribute [local irreducible] W2 Re
theorem Vl(l:List Iv)(hs:Sep l)(hb:∀n,M l n→inR n)(hlen:l.length≤1000000000):PC Tryz.prog 136 [LIv l] (fun r=>r=LIv (W2 l)):=by
 refine Ql tOk Tryz.func136 rfl Tryz.results136 rfl (by simp[Tryz.ntmps136]) ?_;rw[Tryz.ntmps136];simp only[Qg];have ze:=(Pm hs hb).2.2;repeat first|(refine r_ ?_;simp)|refine q_ ?_
 refine Q3 3 187 2 rfl ?_;simp;repeat first|(refine r_ ?_;simp)|refine q_ ?_
 refine Qp (Qc (sl':=[(0,LIv l),(3,.sl 0 2 0 0),(4,.i (-1099511627776)),(5,.i 0)]) ?_ (by simp));refine Qo (F:=fun(u:Nat×Nat×List Iv×Int×List AObj)=>⟨[(0,LIv l),(3,.sl u.2.1 2 0 u.2.2.1.length),(4,.i u.2.2.2.1),(5,.i u.1)],u.2.2.2.2⟩)
  (fun u=>u.1≤l.length∧u.2.2.2.2[u.2.1]? =some (.arr 187 2 (u.2.2.1.map encIv))∧u.2.2.1++Re (l.drop u.1) u.2.2.2.1=W2 l) (fun u=>l.length - u.1) ?_ (0,0,[],-1099511627776,[.arr 187 2 []]) ⟨by simp,rfl,by simp[z0s]⟩
 rintro⟨j,q,acc,n,H2⟩ ⟨hj,g1,g2⟩ ih;simp only at hj g1 g2 ih ⊢;have zf:acc.length≤1000000001:=by have:=congrArg vY g2;simp only[yB]at this;omega
 repeat first|(refine r_ ?_;simp)|refine q_ ?_
 refine Qb rfl (fun z8=> ?_) (fun za=> ?_)
 ·have z1:j<l.length:=by simpa using z8
  have zb:=hb _ ⟨l[j],zK z1,xH _,hs.1 _ (zK z1)⟩;have zc:=hb _ ⟨l[j],zK z1,hs.1 _ (zK z1),xH _⟩;unfold inR at zb zc;have hw:IntKind.i64.wrap ((j:Int)+1)=j+1:=wrap_i64 _ (by omega) (by omega);have zd:IntKind.i64.wrap (l[j].lo - 1)=l[j].lo - 1:=wrap_i64 _ (by omega) (by omega);have z7:IntKind.i64.wrap (l[j].hi+1)=l[j].hi+1:=wrap_i64 _ (by omega) (by omega);rw[Ee z1,Aw]at g2;repeat first|(refine r_ ?_;simp[z1])|refine q_ ?_
  refine Qb rfl (fun h3=> ?_) (fun h3=> ?_)
  ·rw[if_pos (by simpa using h3)]at g2;repeat first|(refine r_ ?_;simp[z1,zd])|refine q_ ?_
   refine Qe tOk rfl rfl U6 rfl Sl rfl (by decide) (by decide) rfl rfl rfl ?_;simp[Qa g1,Qi g1];refine⟨by simp[Wa,Qa g1,Qi g1]<;>omega,?_⟩;repeat first|(refine r_ ?_;simp[z1,hw,z7])|refine q_ ?_
   exact Qc (sl':=[(0,LIv l),(3,.sl (H2.length+1) 2 0 (acc.length+1)),(4,.i (l[j].hi+1)),(5,.i (j+1:Nat))]) (by
    have:=ih (j+1,H2.length+1,acc++[(⟨n,l[j].lo - 1⟩:Iv)],l[j].hi+1,H2.set q .dead++[.arr 187 2 [encIv (⟨n,l[j].lo - 1⟩:Iv)],.arr 187 2 ((acc++[(⟨n,l[j].lo - 1⟩:Iv)]).map encIv)]) ⟨by simp;omega,by simp only;rw[zH (by simp)];simp,by simpa using g2⟩ (by simp;omega);simpa using this) (by simp)
  ·rw[if_neg (by simpa using h3)]at g2;repeat first|(refine r_ ?_;simp[z1,hw,z7])|refine q_ ?_
   exact Qc (sl':=[(0,LIv l),(3,.sl q 2 0 acc.length),(4,.i (l[j].hi+1)),(5,.i (j+1:Nat))]) (by
    have:=ih (j+1,q,acc,l[j].hi+1,H2) ⟨by simp;omega,g1,by simpa using g2⟩ (by simp;omega);simpa using this) (by simp)
 ·have z6:j=l.length:=by simp at za;omega
  subst z6;rw[xX,Dy]at g2;repeat first|(refine r_ ?_;simp)|refine q_ ?_
  refine Qb rfl (fun h3=> ?_) (fun h3=> ?_)
  ·rw[if_pos (by simpa using h3)]at g2;rw[←g2];repeat first|(refine r_ ?_;simp)|refine q_ ?_
   refine Qe tOk rfl rfl U6 rfl Sl rfl (by decide) (by decide) rfl rfl rfl ?_;simp[Qa g1,Qi g1];refine⟨by simp[Wa,Qa g1,Qi g1]<;>omega,?_⟩;repeat first|(refine r_ ?_;simp)|refine q_ ?_
   rw[zO (by simp)]
  ·rw[if_neg (by simpa using h3),xD]at g2;subst g2;repeat first|(refine r_ ?_;simp[g1])|refine q_ ?_
   rw[zO (by simp)]
theorem c01(a b:List Iv)(ha:Sep a)(hb:Sep b)(z1:a.length+b.length≤1000000000)(hi:∀x∈a,U7 x):PC Tryz.prog 166 [LIv a,LIv b] (fun r=>r=LIv (Rp a b)):=
 (x19 a b (by omega) (by omega) (by have:=C6 a b ha hb;omega) (y1d (.inl hi))).mono fun r h=>by rw[h,Rp]
end Go.Abs
namespace Go.Abs
open Go Go.Proofs
structure GL (K G:List AObj) (S p:Nat) (pre post:List AV) (e sz:Nat) (xs:List AV):Prop where
 cell:G[S]? =some (.vars (pre++ .sl p sz 0 xs.length::post))
 arr:G[p]? =some (.arr e sz xs)
 ge:K.length≤p
 lt:S<K.length
 len:K.length≤G.length
 keep:∀j,j<K.length→j≠S→G[j]? =K[j]?
theorem GL.kp{K G:List AObj}{S p:Nat}{pre post:List AV}{e sz:Nat}{xs:List AV}(h:GL K G S p pre post e sz xs){j:Nat}{x:AObj}(hj:j≠S)(hx:K[j]? =some x):G[j]? =some x:=by rw[h.keep j (zE.1 hx).1 hj];exact hx
theorem GL.start{K:List AObj}{S:Nat}(pre post:List AV)(e sz:Nat)(h:S<K.length):GL K ((K++[AObj.arr e sz []]).set S (.vars (pre++ .sl K.length sz 0 0::post))) S K.length pre post e sz []:=
 ⟨zL (by simp;omega),by rw[zB (by omega)];simp,zQ _,h,by simp,fun j hj z1=>by
  rw[zB (fun e=>z1 e.symm),zF hj]⟩
theorem GL.put{K G:List AObj}{S p:Nat}{pre post:List AV}{e sz:Nat}{xs:List AV}(h:GL K G S p pre post e sz xs)(A:AObj)(y:AV){n:Nat}(hn:n=xs.length):
  GL K ((G.set p .dead++[A,AObj.arr e sz (xs++[y])]).set S (.vars (pre++ .sl (G.length+1) sz 0 (n+1)::post))) S (G.length+1) pre post e sz (xs++[y]):=by
 have hl:=h.len;have z6:=h.lt;have z7:=h.ge;subst hn;refine⟨by rw[zL (by simp;omega)];simp,by rw[zB (by omega),zH (by simp)];simp,by omega,z6,by simp;omega,fun j hj z1=> ?_⟩;rw[zB (fun e=>z1 e.symm),zF (by simp;omega),zB (by omega)];exact h.keep j hj z1
theorem GL.at{K G:List AObj}{S p:Nat}{pre post:List AV}{e sz:Nat}{xs:List AV}(h:GL K G S p pre post e sz xs)(L:List AObj):(G.set p .dead++L)[S]? =some (.vars (pre++ .sl p sz 0 xs.length::post)):=by have hl:=h.len;have z1:=h.lt;have z6:=h.ge;rw[zF (by simp;omega),zB (by omega)];exact h.cell
def upL(F:Nat→List Iv)(j:Nat):List AV:=(yJ j).map fun i=>encL (F i)
theorem Og(F:Nat→List Iv)(j:Nat):upL F (j+1)=upL F j++[encL (F j)]:=by simp[upL,wp]
theorem Wy(F:Nat→List Iv)(j:Nat):(upL F j).length=j:=by simp[upL]
theorem Dd(F:Nat→List Iv)(n:Nat):upL F n=((yJ n).map F).map encL:=by simp[upL]
theorem K3{α β:Type}(d:α)(f:α→β)(p:List α):(yJ p.length).map (fun i=>f (p.getD i d))=p.map f:=by
 refine wK (by simp) fun i h1 h2=> ?_;have h:i<p.length:=by simpa using h1
 simp[yV,h]
theorem Oi(F:Nat→List Iv):upL F 0=[]:=rfl
attribute [local irreducible] upL
theorem Vt(T:Nat)(p:Prd)(hp:PWf T p)(hl:∀s∈p,s.length≤1000000000)(hT:T≤1000):PC Tryz.prog 135 [encP p] (fun r=>r=encP (W8 p)):=by
 refine Ql tOk Tryz.func135 rfl Tryz.results135 rfl (by simp[Tryz.ntmps135]) ?_;rw[Tryz.ntmps135];simp only[Qg];simp only[encP];have hlen:=hp.1;repeat first|(refine r_ ?_;simp)|refine q_ ?_
 refine Wt 2 0 171 1 rfl rfl ?_;simp;obtain⟨K,hK⟩:∃K,K=[AObj.vars [.list (p.map encL)],AObj.vars [AV.nils],AObj.vars [AV.nils]]:=⟨_,rfl⟩
 have ze:=GL.start (K:=K) (S:=2) [] [] 171 1 (by rw[hK];simp);refine Qp (Qc (sl':=[(1,.vptr 0 0),(2,.vptr 1 0),(3,.vptr 2 0),(4,.i 0)]) ?_ (by simp));refine Qo (F:=fun(u:Nat×Nat×List AObj)=>⟨[(1,.vptr 0 0),(2,.vptr 1 0),(3,.vptr 2 0),(4,.i u.1)],u.2.2⟩)
  (fun u=>u.1≤p.length∧GL K u.2.2 2 u.2.1 [] [] 171 1 (upL (fun i=>W2 (p.getD i [])) u.1)) (fun u=>p.length - u.1) ?_ (0,K.length,_) ⟨by simp,by rw[Oi,hK]at *;exact ze⟩
 rintro⟨j,q,H2⟩ ⟨hj,g⟩ ih;simp only[vT,xY]at hj g ih ⊢;have g0:H2[0]? =some (AObj.vars [.list (p.map encL)]):=g.kp (by decide) (by rw[hK];rfl);have gR:H2[1]? =some (AObj.vars [AV.nils]):=g.kp (by decide) (by rw[hK];rfl);have g2:=g.cell;have g3:=g.arr;rw[Wy]at g2;simp only[xY]at g2;repeat first|(refine r_ ?_;simp[g0])|refine q_ ?_
 refine Qb rfl (fun zf=> ?_) (fun zg=> ?_)
 ·have z1:j<p.length:=by simpa using zf
  have hw:IntKind.i64.wrap ((j:Int)+1)=j+1:=wrap_i64 _ (by omega) (by omega);have z7:∀L:List AObj,(H2.set q .dead++L)[2]? =some (AObj.vars [AV.sl q 1 0 j]):=fun L=>by have:=g.at L;rw[Wy]at this;exact this
  have za:∀(L:List AObj) (h:2<(H2.set q .dead++L).length),(H2.set q .dead++L)[2]'h=AObj.vars [AV.sl q 1 0 j]:=fun L h=>by have:=z7 L;rw[zI h]at this;exact Option.some.inj this
  have zb:=fun A y=>g.put A y (Wy _ _).symm;have zh:upL (fun i=>W2 (p.getD i [])) j++[encL ((fun i=>W2 (p.getD i [])) j)]=upL (fun i=>W2 (p.getD i [])) (j+1):=(Og _ _).symm;have z6:=fun H=>ih (j+1,H2.length+1,H);have z8:=Wy (fun i=>W2 (p.getD i [])) j;simp only[←zh]at z6;have hs:=hp.2 _ (zK z1);simp only[Wo z1]at *
  repeat first|(refine r_ ?_;simp[g0,g2])|refine q_ ?_
  refine Qn tOk mixed [9,11] (.val 0 (.val 1 (.val 2 (.val 3 (.val 4 (.val 5 (.val 6 (.one 7 (.one 8 (.one 9 (.val 10 (.one 11 (.done))))))))))))) rfl (by kernel_rfl) ?_;simp[z1,g0,g2];refine Qf rfl rfl (by simp) (Vl p[j] hs.1 hs.2 (hl _ (zK z1))) rfl ?_;rintro _ rfl;simp;repeat first|(refine r_ ?_;simp[g0,g2])|refine q_ ?_
  generalize upL (fun i=>W2 (p.getD i [])) j=xs at *
  refine Qe tOk rfl rfl T74 rfl U6 rfl (by decide) (by decide) rfl rfl rfl ?_;simp[Qa g3,Qi g3,z8,z7,za];refine⟨by simp[Wa,Qa g3,Qi g3,z8,z7,za]<;>omega,?_⟩;repeat first|(refine r_ ?_;simp[g0,g2,hw,z7,za])|refine q_ ?_
  refine Qc (sl':=[(1,.vptr 0 0),(2,.vptr 1 0),(3,.vptr 2 0),(4,.i (j+1:Nat))]) (z6 _ ⟨by omega,zb _ _⟩ (by omega)) ?_;simp
 ·have zc:j=p.length:=by(simp at zg;omega)
  subst zc;have hS:=(zE.1 g2).1;have zi:q≠1∧q≠2:=by have:=g.ge;rw[hK]at this;simp at this;omega
  have z8:=Wy (fun i=>W2 (p.getD i [])) (p.length);have zd: .list (upL (fun i=>W2 (p.getD i [])) (p.length))=AV.list ((W8 p).map encL):=by rw[Dd];rw[K3];rfl
  generalize upL (fun i=>W2 (p.getD i [])) (p.length)=xs at *
  refine Q1 q g3 2 g2 ?_;have k1:∀X,((H2.set q .dead).set 2 X)[1]? =some (AObj.vars [AV.nils]):=fun X=>Qd (by decide) (Qd zi.1 gR _) _;have k2:∀X,((H2.set q .dead).set 2 X)[2]? =some X:=fun X=>zL (by simpa using hS);have k3:∀X Y,(((H2.set q .dead).set 2 X).set 1 Y)[1]? =some Y:=fun X Y=>Qj (k1 X) _;simp[z8];rw[zO (by omega)];repeat first|(refine r_ ?_;simp[k1,k2,k3])|refine q_ ?_
  exact AV.list.inj zd
theorem S5(T:Int)(h0:0≤T)(hT:T≤1000):PC Tryz.prog 77 [.i T] (fun r=>r=encP (W3 T.toNat)):=by
 refine Ql tOk Tryz.func77 rfl Tryz.results77 rfl (by simp[Tryz.ntmps77]) ?_;rw[Tryz.ntmps77];simp only[Qg];simp only[encP];repeat first|(refine r_ ?_;simp)|refine q_ ?_
 refine Wt 1 0 171 1 rfl rfl ?_;simp;obtain⟨K,hK⟩:∃K,K=[AObj.vars [AV.nils],AObj.vars [AV.nils]]:=⟨_,rfl⟩
 have zd:=GL.start (K:=K) (S:=1) [] [] 171 1 (by rw[hK];simp);refine Qp (Qc (sl':=[(0,.i T),(2,.vptr 0 0),(3,.vptr 1 0),(4,.i 0)]) ?_ (by simp));refine Qo (F:=fun(u:Nat×Nat×List AObj)=>⟨[(0,.i T),(2,.vptr 0 0),(3,.vptr 1 0),(4,.i u.1)],u.2.2⟩)
  (fun u=>u.1≤T.toNat∧GL K u.2.2 1 u.2.1 [] [] 171 1 (upL (fun _=>W2 []) u.1)) (fun u=>T.toNat - u.1) ?_ (0,K.length,_) ⟨by simp,by rw[Oi,hK]at *;exact zd⟩
 rintro⟨j,q,H2⟩ ⟨hj,g⟩ ih;simp only[vT,xY]at hj g ih ⊢;have g0:True:=trivial;have gR:H2[0]? =some (AObj.vars [AV.nils]):=g.kp (by decide) (by rw[hK];rfl);have g2:=g.cell;have g3:=g.arr;rw[Wy]at g2;simp only[xY]at g2;repeat first|(refine r_ ?_;simp[g0])|refine q_ ?_
 refine Qb rfl (fun ze=> ?_) (fun zf=> ?_)
 ·have zg:j<T.toNat:=by(have:(j:Int)<T:=(by simpa using ze);omega)
  have hw:IntKind.i64.wrap ((j:Int)+1)=j+1:=wrap_i64 _ (by omega) (by omega);have z6:∀L:List AObj,(H2.set q .dead++L)[1]? =some (AObj.vars [AV.sl q 1 0 j]):=fun L=>by have:=g.at L;rw[Wy]at this;exact this
  have z8:∀(L:List AObj) (h:1<(H2.set q .dead++L).length),(H2.set q .dead++L)[1]'h=AObj.vars [AV.sl q 1 0 j]:=fun L h=>by have:=z6 L;rw[zI h]at this;exact Option.some.inj this
  have za:=fun A y=>g.put A y (Wy _ _).symm;have zh:upL (fun _=>W2 []) j++[encL ((fun _=>W2 []) j)]=upL (fun _=>W2 []) (j+1):=(Og _ _).symm;have z1:=fun H=>ih (j+1,H2.length+1,H);have z7:=Wy (fun _=>W2 []) j;simp only[←zh]at z1;repeat first|(refine r_ ?_;simp[g2])|refine q_ ?_
  refine Qn tOk mixed [4,6] (.val 0 (.val 1 (.one 2 (.one 3 (.one 4 (.val 5 (.one 6 (.done)))))))) rfl (by kernel_rfl) ?_;simp[g2];refine Qf rfl rfl (by simp) (Vl [] Xo (by simp[M]) (by simp)) rfl ?_;rintro _ rfl;simp;repeat first|(refine r_ ?_;simp[g2])|refine q_ ?_
  generalize upL (fun _=>W2 []) j=xs at *
  refine Qe tOk rfl rfl T74 rfl U6 rfl (by decide) (by decide) rfl rfl rfl ?_;simp[Qa g3,Qi g3,z7,z6,z8];refine⟨by simp[Wa,Qa g3,Qi g3,z7,z6,z8]<;>omega,?_⟩;repeat first|(refine r_ ?_;simp[g0,g2,hw,z6,z8])|refine q_ ?_
  refine Qc (sl':=[(0,.i T),(2,.vptr 0 0),(3,.vptr 1 0),(4,.i (j+1:Nat))]) (z1 _ ⟨by omega,za _ _⟩ (by omega)) ?_;simp
 ·have zb:j=T.toNat:=by(have:¬(j:Int)<T:=(by simpa using zf);omega)
  subst zb;have hS:=(zE.1 g2).1;have zi:q≠0∧q≠1:=by have:=g.ge;rw[hK]at this;simp at this;omega
  have z7:=Wy (fun _=>W2 []) (T.toNat);have zc: .list (upL (fun _=>W2 []) (T.toNat))=AV.list ((W3 T.toNat).map encL):=by rw[Dd];simp[W3,Function.comp_def,ut]
  generalize upL (fun _=>W2 []) (T.toNat)=xs at *
  refine Q1 q g3 1 g2 ?_;have k1:∀X,((H2.set q .dead).set 1 X)[0]? =some (AObj.vars [AV.nils]):=fun X=>Qd (by decide) (Qd zi.1 gR _) _;have k2:∀X,((H2.set q .dead).set 1 X)[1]? =some X:=fun X=>zL (by simpa using hS);have k3:∀X Y,(((H2.set q .dead).set 1 X).set 0 Y)[0]? =some Y:=fun X Y=>Qj (k1 X) _;simp[z7];rw[zO (by omega)];repeat first|(refine r_ ?_;simp[k1,k2,k3])|refine q_ ?_
  exact AV.list.inj zc
end Go.Abs
namespace Go.Abs
def sLt(x y:Sy):Prop:=x.ty<y.ty∨(x.ty=y.ty∧x.num<y.num)
theorem sLt.irr{x:Sy}(h:sLt x x):False:=by unfold sLt at h;omega
theorem sLt.trans{x y z:Sy}(h:sLt x y)(k:sLt y z):sLt x z:=by unfold sLt at *;omega
theorem sLt.tri(x y:Sy):sLt x y∨x=y∨sLt y x:=by cases x;cases y;unfold sLt;simp only[Sy.mk.injEq];omega
def z0d:List Sy→List Sy→Prop
 |x::v,y::w=>sLt x y∨(x=y∧z0d v w)
 |_,_=>False
def ll(v w:List Sy):Prop:=v.length<w.length∨(v.length=w.length∧z0d v w)
def lle(v w:List Sy):Prop:=v=w∨ll v w
theorem z0d.irr:∀ {v:List Sy},¬z0d v v
 |[],h=>h
 |x::v,h=>by
  rcases h with h|⟨_,h⟩
  ·exact h.irr
  ·exact z0d.irr h
theorem z0d.trans:∀ {u v w:List Sy},z0d u v→z0d v w→z0d u w
 |[],_,_,h,_=>h.elim
 |_::_,[],_,h,_=>h.elim
 |_::_,_::_,[],_,k=>k.elim
 |x::u,y::v,z::w,h,k=>by
  rcases h with h|⟨rfl,h⟩
  ·rcases k with k|⟨rfl,k⟩
   ·exact .inl (h.trans k)
   ·exact .inl h
  ·rcases k with k|⟨rfl,k⟩
   ·exact .inl k
   ·exact .inr ⟨rfl,h.trans k⟩
theorem ll.irr{v:List Sy}(h:ll v v):False:=by
 rcases h with h|⟨_,h⟩
 ·omega
 ·exact z0d.irr h
theorem ll.trans{u v w:List Sy}(h:ll u v)(k:ll v w):ll u w:=by
 rcases h with h|⟨h1,h2⟩
 ·rcases k with k|⟨k1,_⟩
  ·exact .inl (by omega)
  ·exact .inl (by omega)
 ·rcases k with k|⟨k1,k2⟩
  ·exact .inl (by omega)
  ·exact .inr ⟨by omega,h2.trans k2⟩
theorem lle.refl(v:List Sy):lle v v:= .inl rfl
theorem lle.trans{u v w:List Sy}(h:lle u v)(k:lle v w):lle u w:=by
 rcases h with rfl|h
 ·exact k
 ·rcases k with rfl|k
  ·exact .inr h
  ·exact .inr (h.trans k)
theorem ll.lle{u v w:List Sy}(h:ll u v)(k:lle v w):ll u w:=by
 rcases k with rfl|k
 ·exact h
 ·exact h.trans k
theorem lle.anti{u v:List Sy}(h:lle u v)(k:lle v u):u=v:=by
 rcases h with rfl|h
 ·rfl
 ·exact((h.lle k).irr).elim
theorem z0w:∀ {u v:List Sy} (a b:List Sy),u.length=v.length→z0d u v→z0d (u++a) (v++b)
 |[],_,_,_,_,h=>h.elim
 |_::_,[],_,_,_,h=>h.elim
 |x::u,y::v,a,b,e,h=>by
  rcases h with h|⟨rfl,h⟩
  ·exact .inl h
  ·exact .inr ⟨rfl,z0w a b (by simpa using e) h⟩
theorem y0n:∀(u:List Sy) {a b:List Sy},z0d a b→z0d (u++a) (u++b)
 |[],_,_,h=>h
 |_::u,_,_,h=> .inr ⟨rfl,y0n u h⟩
theorem f02{u v:List Sy}(h:ll u v)(x y:Sy):ll (u++[x]) (v++[y]):=by
 rcases h with h|⟨h1,h2⟩
 ·exact .inl (by simp;omega)
 ·exact .inr ⟨by simp;omega,z0w _ _ h1 h2⟩
theorem z0a(u:List Sy){x y:Sy}(h:sLt x y):ll (u++[x]) (u++[y]):= .inr ⟨by simp,y0n u (.inl h)⟩
theorem z1t{u v:List Sy}(h:lle u v){x y:Sy}(k:x=y∨sLt x y):lle (u++[x]) (v++[y]):=by
 rcases h with rfl|h
 ·rcases k with rfl|k
  ·exact .inl rfl
  ·exact .inr (z0a _ k)
 ·exact .inr (f02 h x y)
theorem j1w(u:List Sy)(x:Sy):ll u (u++[x]):= .inl (by simp)
theorem Yh{α:Type}[DecidableEq α]:∀(l U:List α),l.Nodup→(∀x∈l,x∈U)→l.length≤U.length
 |[],_,_,_=>wn _
 |x::l,U,hn,h=>by have hx:=h x (by simp);have hc:=List.nodup_cons.1 hn;have ih:=Yh l (U.erase x) hc.2 (fun y hy=>(List.mem_erase_of_ne (fun e=>hc.1 (by rw[←e];exact hy))).2 (h y (by simp[hy])));rw[List.length_erase_of_mem hx]at ih;have:=List.length_pos_of_mem hx;simp only[List.length_cons];omega
section
variable {σ:Type} [DecidableEq σ] (ok:Sy→Prop) (step:σ→Sy→σ) (good:σ→Bool)
def Y6(s:σ)(w:List Sy):σ:=w.foldl step s
structure FirstW (s:σ) (w:List Sy):Prop where
 okw:∀x∈w,ok x
 goodw:good (Y6 step s w)=true
 least:∀v,(∀x∈v,ok x)→good (Y6 step s v)=true→lle w v
variable {ok step good}
theorem FirstW.unique{s:σ}{v w:List Sy}(h:FirstW ok step good s v)(k:FirstW ok step good s w):v=w:=
 (h.least w k.okw k.goodw).anti (k.least v h.okw h.goodw)
variable (ok step good)
structure SuccOk (s:σ) (l:List (Sy×σ)):Prop where
 asc:l.Pairwise (fun a b=>sLt a.1 b.1)
 mem:∀e∈l,ok e.1∧e.2=step s e.1
 cov:∀y,ok y→∃e∈l,e.2=step s y∧(e.1=y∨sLt e.1 y)
variable (succ:σ→List (Sy×σ))
def w1v(l:List (σ×List Sy))(t:σ)(w:List Sy):List (σ×List Sy):=if t∈l.map (·.1)then l else l++[(t,w)]
def Up(l:List (σ×List Sy))(w:List Sy)(es:List (Sy×σ)):List (σ×List Sy):=es.foldl (fun l e=>w1v l e.2 (w++[e.1])) l
def Ns:Nat→Nat→List (σ×List Sy)→Option (List Sy)×List (σ×List Sy)
 |0,_,l=>(none,l)
 |f+1,n,l=>match l[n]? with
  |none=>(none,l)
  |some (s,w)=>if good s then(some w,l)else Ns f (n+1) (Up l w (succ s))
variable (s0:σ) (G:σ→Prop)
structure BInv (n:Nat) (L:List (σ×List Sy)) (done:List (Sy×σ)):Prop where
 first:L[0]? =some (s0,[])
 mem:∀e∈L,(∀x∈e.2,ok x)∧Y6 step s0 e.2=e.1∧G e.1
 asc:L.Pairwise (fun a b=>ll a.2 b.2)
 nd:(L.map (·.1)).Nodup
 bad:∀i s w,i<n→L[i]? =some (s,w)→good s=false
 cls:∀i s w,i<n→L[i]? =some (s,w)→∀e∈succ s,∃v,(e.2,v)∈L∧lle v (w++[e.1])
 cur:∀s w,L[n]? =some (s,w)→∀e∈done,∃v,(e.2,v)∈L∧lle v (w++[e.1])
 org:∀d∈L,d.2=[]∨∃i s w x,L[i]? =some (s,w)∧d.2=w++[x]∧(i<n∨(i=n∧∃e∈done,e.1=x))
variable {ok step good succ s0 G}
theorem BInv.low{n:Nat}{L:List (σ×List Sy)}{done:List (Sy×σ)}(h:BInv ok step good succ s0 G n L done){s:σ}{w:List Sy}(hn:L[n]? =some (s,w))(x:Sy)(hx:∀e∈done,sLt e.1 x):∀e∈L,ll e.2 (w++[x]):=by
 intro d hd;rcases h.org d hd with e|⟨i,s',w',y,hi,e,hc⟩
 ·rw[e];exact .inl (by simp)
 ·rw[e];rcases hc with hc|⟨rfl,c,hc,rfl⟩
  ·obtain⟨h1,h2⟩:=zE.1 hi;obtain⟨h3,h4⟩:=zE.1 hn;have:=yR.1 h.asc i n h1 h3 hc;rw[h2,h4]at this;exact f02 this _ _
  ·rw[hn]at hi;cases hi;exact z0a _ (hx c hc)
theorem BInv.add {n:Nat} {L:List (σ×List Sy)} {done:List (Sy×σ)} (h:BInv ok step good succ s0 G n L done) {s:σ} {w:List Sy} (hn:L[n]? =some (s,w)) {e:Sy×σ} (he:ok e.1∧e.2=step s e.1) (hG:G e.2)
  (z8:∀d∈done,sLt d.1 e.1):BInv ok step good succ s0 G n (w1v L e.2 (w++[e.1])) (done++[e])∧(w1v L e.2 (w++[e.1]))[n]? =some (s,w):=by
 have zb:=(zE.1 hn).1;have z7:=h.low hn e.1 z8;unfold w1v;by_cases hin:e.2∈L.map (·.1)
 ·rw[if_pos hin];obtain⟨⟨t,v⟩,hv,ht⟩:=zR.1 hin;simp only at ht;subst ht;refine⟨⟨h.first,h.mem,h.asc,h.nd,h.bad,h.cls,fun s' w' z6 d hd=> ?_,fun d hd=> ?_⟩,hn⟩
  ·rw[hn]at z6;cases z6;rcases zV.1 hd with hd|hd
   ·exact h.cur s w hn d hd
   ·obtain rfl:=zT.1 hd;exact⟨v,hv,.inr (z7 _ hv)⟩
  ·rcases h.org d hd with e'|⟨i,s',w',y,hi,e',hc⟩
   ·exact .inl e'
   ·exact .inr ⟨i,s',w',y,hi,e',hc.imp id fun⟨k1,c,k2,k3⟩=>⟨k1,c,xE _ k2,k3⟩⟩
 ·rw[if_neg hin];have z1:∀i,i≤n→(L++[(e.2,w++[e.1])])[i]? =L[i]? :=fun i hi=>zF (by omega);have hw:=h.mem _ (zJ hn);refine⟨⟨by rw[z1 0 (wn _)];exact h.first,fun d hd=> ?_,?_,?_,fun i s' w' hi z6=>h.bad i s' w' hi (by rw[←z1 i (by omega)];exact z6),fun i s' w' hi z6 d hd=> ?_,fun s' w' z6 d hd=> ?_,fun d hd=> ?_⟩,by rw[z1 n (zQ _)];exact hn⟩
  ·rcases zV.1 hd with hd|hd
   ·exact h.mem d hd
   ·obtain rfl:=zT.1 hd;refine⟨fun x hx=> ?_,?_,hG⟩
    ·rcases zV.1 hx with hx|hx
     ·exact hw.1 x hx
     ·obtain rfl:=zT.1 hx;exact he.1
    ·show Y6 step s0 (w++[e.1])=e.2;have h2:Y6 step s0 w=s:=hw.2.1;rw[Y6,wG];show step (Y6 step s0 w) e.1=e.2;rw[h2,he.2]
  ·exact yI.2 ⟨h.asc,by simp,fun a ha b hb=>by obtain rfl:=zT.1 hb;exact z7 a ha⟩
  ·rw[yF];exact vB.2 ⟨h.nd,by simp,fun a ha b hb e'=>by
    simp at hb;subst hb;subst e';exact hin ha⟩
  ·rw[z1 i (by omega)]at z6;obtain⟨v,hv,hl⟩:=h.cls i s' w' hi z6 d hd;exact⟨v,xE _ hv,hl⟩
  ·rw[z1 n (zQ _),hn]at z6;cases z6;rcases zV.1 hd with hd|hd
   ·obtain⟨v,hv,hl⟩:=h.cur s w hn d hd;exact⟨v,xE _ hv,hl⟩
   ·obtain rfl:=zT.1 hd;exact⟨_,ud _ (by simp),.inl rfl⟩
  ·rcases zV.1 hd with hd|hd
   ·rcases h.org d hd with e'|⟨i,s',w',y,hi,e',hc⟩
    ·exact .inl e'
    ·have za:i≤n:=by rcases hc with hc|hc<;>omega
     exact .inr ⟨i,s',w',y,by rw[z1 i za];exact hi,e',hc.imp id fun⟨k1,c,k2,k3⟩=>⟨k1,c,xE _ k2,k3⟩⟩
   ·obtain rfl:=zT.1 hd;exact .inr ⟨n,s,w,e.1,by rw[z1 n (zQ _)];exact hn,rfl,.inr ⟨rfl,e,by simp,rfl⟩⟩
theorem BInv.round{n:Nat}:∀(es:List (Sy×σ)) (done:List (Sy×σ)) (L:List (σ×List Sy)) {s:σ} {w:List Sy},BInv ok step good succ s0 G n L done→L[n]? =some (s,w)→(∀e∈es,ok e.1∧e.2=step s e.1)→(∀e∈es,G e.2)→
  (done++es).Pairwise (fun a b=>sLt a.1 b.1)→BInv ok step good succ s0 G n (Up L w es) (done++es)∧(Up L w es)[n]? =some (s,w)
 |[],done,L,s,w,h,hn,_,_,_=>by simpa[Up]using⟨h,hn⟩
 |e::es,done,L,s,w,h,hn,hm,hG,hp=>by have z1:∀d∈done,sLt d.1 e.1:=fun d hd=>(yI.1 hp).2.2 d hd e (by simp);obtain⟨h1,h2⟩:=h.add hn (hm e (by simp)) (hG e (by simp)) z1;have:=BInv.round es (done++[e]) _ h1 h2 (fun d hd=>hm d (by simp[hd])) (fun d hd=>hG d (by simp[hd])) (by simpa using hp);simpa[Up]using this
theorem BInv.next{n:Nat}{L:List (σ×List Sy)}{s:σ}{w:List Sy}(h:BInv ok step good succ s0 G n L [])(hn:L[n]? =some (s,w))(hg:good s=false)(hs:SuccOk ok step s (succ s))(hG:∀e∈succ s,G e.2):
  BInv ok step good succ s0 G (n+1) (Up L w (succ s)) []:=by
 obtain⟨h1,h2⟩:=h.round (succ s) [] L hn hs.mem hG (by simpa using hs.asc);rw[xY]at h1;refine⟨h1.first,h1.mem,h1.asc,h1.nd,fun i s' w' hi z1=> ?_,fun i s' w' hi z1 d hd=> ?_,fun _ _ _ _ hd=>(by cases hd),fun d hd=> ?_⟩
 ·by_cases hin:i<n
  ·exact h1.bad i s' w' hin z1
  ·have:i=n:=by omega
   subst this;rw[h2]at z1;cases z1;exact hg
 ·by_cases hin:i<n
  ·exact h1.cls i s' w' hin z1 d hd
  ·have:i=n:=by omega
   subst this;rw[h2]at z1;cases z1;exact h1.cur s w h2 d hd
 ·rcases h1.org d hd with e'|⟨i,s',w',y,hi,e',hc⟩
  ·exact .inl e'
  ·exact .inr ⟨i,s',w',y,hi,e',.inl (by rcases hc with hc|hc<;>omega)⟩
theorem BInv.reach{n:Nat}{L:List (σ×List Sy)}(h:BInv ok step good succ s0 G n L [])(hs:∀s,G s→SuccOk ok step s (succ s)):∀(r:List Sy),(∀x∈r,ok x)→
  (∃v,(Y6 step s0 r.reverse,v)∈L∧lle v r.reverse)∨∃i s w,n≤i∧L[i]? =some (s,w)∧lle w r.reverse
 |[],_=> .inl ⟨[],zJ h.first,lle.refl _⟩
 |x::r,hx=>by
  have z1:ll r.reverse (x::r).reverse:=by rw[uj];exact j1w _ _
  rcases BInv.reach h hs r (fun y hy=>hx y (by simp[hy]))with⟨v,hv,hl⟩|⟨i,s,w,h1,h2,h3⟩
  ·obtain⟨i,hi⟩:=yK.1 hv;by_cases hin:i<n
   ·obtain⟨e,he,e1,e2⟩:=(hs _ (h.mem _ hv).2.2).cov x (hx x (by simp));obtain⟨u,hu,z6⟩:=h.cls i _ _ hin hi e he;refine .inl ⟨u,?_,?_⟩
    ·rw[uj,Y6,wG];show(step (Y6 step s0 r.reverse) x,u)∈L;rw[←e1];exact hu
    ·rw[uj];exact z6.trans (z1t hl e2)
   ·exact .inr ⟨i,_,v,by omega,hi,hl.trans (.inr z1)⟩
  ·exact .inr ⟨i,s,w,h1,h2,h3.trans (.inr z1)⟩
theorem BInv.found{n:Nat}{L:List (σ×List Sy)}{s:σ}{w:List Sy}(h:BInv ok step good succ s0 G n L [])(hs:∀s,G s→SuccOk ok step s (succ s))(hn:L[n]? =some (s,w))(hg:good s=true):FirstW ok step good s0 w:=by
 have hm:=h.mem _ (zJ hn);refine⟨hm.1,by rw[hm.2.1];exact hg,fun v hv z1=> ?_⟩;have hle:∀i s' w',n≤i→L[i]? =some (s',w')→lle w w':=fun i s' w' hi hl=>by
  obtain⟨h1,h2⟩:=zE.1 hn;obtain⟨h3,h4⟩:=zE.1 hl;rcases Nat.lt_or_eq_of_le hi with hlt|rfl
  ·have:=yR.1 h.asc n i h1 h3 hlt;rw[h2,h4]at this;exact .inr this
  ·rw[hn]at hl;cases hl;exact .inl rfl
 rcases h.reach hs v.reverse (fun x hx=>hv x (by simpa using hx))with⟨u,hu,hl⟩|⟨i,s',w',h1,h2,h3⟩
 ·rw[ua]at hu hl;obtain⟨i,hi⟩:=yK.1 hu;by_cases hin:i<n
  ·have:=h.bad i _ _ hin hi;rw[this]at z1;cases z1
  ·exact(hle i _ _ (by omega) hi).trans hl
 ·rw[ua]at h3;exact(hle i _ _ h1 h2).trans h3
theorem BInv.none{n:Nat}{L:List (σ×List Sy)}(h:BInv ok step good succ s0 G n L [])(hs:∀s,G s→SuccOk ok step s (succ s))(hn:L[n]? =none):
  (∀v,(∀x∈v,ok x)→Y6 step s0 v∈L.map (·.1)∧good (Y6 step s0 v)=false):=by
 intro v hv;have hlen:=List.getElem?_eq_none_iff.1 hn;rcases h.reach hs v.reverse (fun x hx=>hv x (by simpa using hx))with⟨u,hu,_⟩|⟨i,s',w',h1,h2,_⟩
 ·rw[ua]at hu;obtain⟨i,hi⟩:=yK.1 hu;have:=(zE.1 hi).1;exact⟨zR.2 ⟨_,hu,rfl⟩,h.bad i _ _ (by omega) hi⟩
 ·have:=(zE.1 h2).1;omega
theorem w01(hs:∀s,G s→SuccOk ok step s (succ s))(hG:∀s,G s→∀e∈succ s,G e.2)(U:List σ)(hU:∀s,G s→s∈U):∀(f n:Nat) (L:List (σ×List Sy)),U.length+1≤n+f→n≤L.length→BInv ok step good succ s0 G n L []→
  (∃w L',Ns good succ f n L=(some w,L')∧FirstW ok step good s0 w)∨
  (∃L',Ns good succ f n L=(Option.none,L')∧(L'.map (·.1)).Nodup∧(∀e∈L',(∀x∈e.2,ok x)∧Y6 step s0 e.2=e.1∧G e.1)∧∀v,(∀x∈v,ok x)→Y6 step s0 v∈L'.map (·.1)∧good (Y6 step s0 v)=false)
 |0,n,L,hf,hn,h=>by
  exfalso;have:=Yh _ U h.nd (fun s hs=>by
   obtain⟨e,he,rfl⟩:=zR.1 hs;exact hU _ (h.mem e he).2.2)
  simp at this;omega
 |f+1,n,L,hf,hn,h=>by
  rw[Ns];cases hl:L[n]? with
  |none=>exact .inr ⟨L,rfl,h.nd,h.mem,h.none hs hl⟩
  |some e=>
   obtain⟨s,w⟩:=e;simp only;cases hg:good s with
   |true=>rw[if_pos rfl];exact .inl ⟨w,L,rfl,h.found hs hl hg⟩
   |false=>
    rw[if_neg (by simp)];have z1:=(h.mem _ (zJ hl)).2.2;have h':=h.next hl hg (hs s z1) (hG s z1);refine w01 hs hG U hU f (n+1) _ (by omega) ?_ h';have z6:=(zE.1 hl).1;have z7:∀(es:List (Sy×σ)) (L:List (σ×List Sy)),L.length≤(Up L w es).length:=by
     intro es;induction es with
     |nil=>intro L;exact zQ _
     |cons e es ih=>
      intro L;refine yO ?_ (ih (w1v L e.2 (w++[e.1])));unfold w1v;split
      ·exact zQ _
      ·simp
    exact yO z6 (z7 _ _)
theorem y02(z1:G s0):BInv ok step good succ s0 G 0 [(s0,[])] []:=
 ⟨rfl,fun e he=>by obtain rfl:=zT.1 he;exact⟨by simp,rfl,z1⟩,by simp,by simp,fun i _ _ hi=>by omega,fun i _ _ hi=>by omega,fun _ _ _ _ hd=>(by cases hd),fun d hd=>by obtain rfl:=zT.1 hd;exact .inl rfl⟩
end
end Go.Abs
namespace Go.Abs
structure Dfa (a:Aut):Prop where
 ok:OkA a
 det:Dk a
 full:u06 a
def toL(a:Aut)(s:Int)(x:Sy):Int:=match a.mv.find? (fun m=>decide (m.src=s) && T0 m.on x)with|some m=>m.dst|none=> -1
def inS(a:Aut)(s:Int):Prop:=0≤s∧s<a.fin.length
theorem Dfa.next{a:Aut}(h:Dfa a){s:Int}(hs:inS a s){x:Sy}(hx:Ru a x):inS a (toL a s x)∧Wb a [s] x=[toL a s x]:=by
 obtain⟨t,t0,t1,e⟩:=x1x h.ok.wfA h.det h.full hs.1 hs.2 hx;obtain⟨m,hm,h1,h2⟩:=h.full s hs.1 hs.2 x hx;have hf:toL a s x=t:=by
  unfold toL;cases hq:a.mv.find? (fun m=>decide (m.src=s) && T0 m.on x)with
  |none=>have:=uh.1 hq m hm;simp[h1,h2]at this
  |some k=>have hk:=uF hq;have hp:=List.find?_some hq;simp at hp;have z1:k.dst∈Wb a [s] x:=E5.2 ⟨h.ok.wfA.dst k hk,k,hk,by rw[hp.1];simp,hp.2,rfl⟩;rw[e]at z1;exact zT.1 z1
 rw[hf];exact⟨⟨t0,t1⟩,e⟩
theorem Dfa.to_of{a:Aut}(h:Dfa a){m:Mv}(hm:m∈a.mv){x:Sy}(hx:Ru a x)(hh:T0 m.on x=true):toL a m.src x=m.dst:=by have hs:inS a m.src:=h.ok.wfA.src m hm;have h1:=(h.next hs hx).2;have z1:m.dst∈Wb a [m.src] x:=E5.2 ⟨h.ok.wfA.dst m hm,m,hm,by simp,hh,rfl⟩;rw[h1]at z1;exact(zT.1 z1).symm
theorem Dfa.move{a:Aut}(h:Dfa a){s:Int}(hs:inS a s){x:Sy}(hx:Ru a x):∃m∈a.mv,m.src=s∧T0 m.on x=true∧m.dst=toL a s x:=by obtain⟨m,hm,h1,h2⟩:=h.full s hs.1 hs.2 x hx;exact⟨m,hm,h1,h2,by rw[←h1,h.to_of hm hx h2]⟩
theorem z04{a:Aut}{x y:Sy}(h:∀m∈a.mv,T0 m.on x=T0 m.on y)(s:Int):toL a s x=toL a s y:=by
 unfold toL;have:a.mv.find? (fun m=>decide (m.src=s) && T0 m.on x)=a.mv.find? (fun m=>decide (m.src=s) && T0 m.on y):=by
  generalize a.mv=l at h;induction l with
  |nil=>rfl
  |cons m l ih=>rw[tq,tq,h m (by simp),ih (fun k hk=>h k (by simp[hk]))]
 rw[this]
def stF(a:Aut)(s:Int)(w:List Sy):Int:=w.foldl (toL a) s
def y1k(a:Aut)(s:Int)(w:List Sy):Bool:=a.fin.getD (stF a s w).toNat false
theorem Dfa.zero{a:Aut}(h:Dfa a):inS a 0:=⟨xH _,by have:=h.ok.fin;omega⟩
structure Ltr (T:Nat) (l cl:List Prd):Prop where
 prts:Prts T l cl
 asc:cl.Pairwise v03
 len:∀p∈l,p.length=T
def okT(T:Nat)(x:Sy):Prop:=0≤x.ty∧x.ty.toNat<T∧inR x.num
theorem w2o{T:Nat}(hT:0<T){l:List Prd}(hl:∀p∈l,PCk T p):Ltr T l (Q0 T l):=by obtain⟨h1,h2⟩:=U1 hT hl;exact⟨h1,h2,fun p hp=>(hl p hp).1⟩
theorem g0d{p:Prd}{t:Nat}{n:Int}(h:Ii (Qw p 0).1 (Qw p 0).2 t n):sLt (Qm p) ⟨t,n⟩:=by unfold Ii at h;unfold sLt Qm;simp only;omega
theorem Ltr.least{T:Nat}{l cl:List Prd}(h:Ltr T l cl){c:Prd}(hc:c∈cl):okT T (Qm c)∧PM c (Qm c).ty.toNat (Qm c).num:=by have h1:=(Wz (h.prts.wf c hc) (h.prts.ne c hc)).1;have h2:=(h.prts.wf c hc).lt h1;exact⟨⟨by simp[Qm],by simpa[Qm]using h2.1,h2.2⟩,by simpa[Qm]using h1⟩
theorem Ltr.sig{T:Nat}{l cl:List Prd}(h:Ltr T l cl){c:Prd}(hc:c∈cl){x y:Sy}(hx:okT T x)(hy:okT T y)(z1:PM c x.ty.toNat x.num)(z6:PM c y.ty.toNat y.num):∀p∈l,T0 p x=T0 p y:=fun p hp=>by have h2:=((h.prts.cls c hc _ _ z1 _ _).1 z6).2.2 p hp;rw[xU,R5 (h.len p hp) x hx.1,R5 (h.len p hp) y hy.1];exact h2
theorem Ltr.cov{T:Nat}{l cl:List Prd}(h:Ltr T l cl){x:Sy}(hx:okT T x):∃c∈cl,PM c x.ty.toNat x.num∧(Qm c=x∨sLt (Qm c) x)∧∀p∈l,T0 p x=T0 p (Qm c):=by
 obtain⟨c,hc,hm⟩:=h.prts.all x.ty.toNat x.num hx.2.1 hx.2.2;obtain⟨h1,h2⟩:=h.least hc;refine⟨c,hc,hm,?_,h.sig hc hx h1 hm h2⟩;rcases(Wz (h.prts.wf c hc) (h.prts.ne c hc)).2 _ _ hm with⟨e1,e2⟩|hlt
 ·left;unfold Qm;rw[e1,e2,show((x.ty.toNat:Nat):Int)=x.ty by have:=hx.1;omega]
 ·right;have:=g0d hlt;have e:(⟨(x.ty.toNat:Int),x.num⟩:Sy)=x:=by rw[show((x.ty.toNat:Nat):Int)=x.ty by have:=hx.1;omega]
  rw[e]at this;exact this
theorem Ltr.ascS{T:Nat}{l cl:List Prd}(h:Ltr T l cl):(cl.map Qm).Pairwise sLt:=by
 refine wJ.2 (h.asc.imp_of_mem fun {p q} hp hq hlt=> ?_);obtain⟨t,n,hm,z1⟩:=hlt;have h1:=z1 _ _ (Wz (h.prts.wf q hq) (h.prts.ne q hq)).1;have h2:Ii (Qw p 0).1 (Qw p 0).2 (Qw q 0).1 (Qw q 0).2:=by
  rcases(Wz (h.prts.wf p hp) (h.prts.ne p hp)).2 t n hm with⟨e1,e2⟩|h3
  ·rw[e1,e2];exact h1
  ·exact h3.trans h1
 exact g0d h2
def E2(a b:Aut):List Sy:=(Q0 a.types.toNat (onA a++onA b)).map Qm
def Tn(a b:Aut)(s:Int×Int)(x:Sy):Int×Int:=(toL a s.1 x,toL b s.2 x)
def U3(a b:Aut)(s:Int×Int):List (Sy×(Int×Int)):=(E2 a b).map fun x=>(x,Tn a b s x)
theorem Z6{a:Aut}{x:Sy}:okT a.types.toNat x↔Ru a x:=by
 unfold okT Ru;constructor
 ·rintro⟨h1,h2,h3⟩;exact⟨⟨h1,by omega⟩,h3⟩
 ·rintro⟨⟨h1,h2⟩,h3⟩;exact⟨h1,by omega,h3⟩
theorem c14{a b:Aut}(ha:OkA a)(hb:OkA b)(ht:b.types=a.types):Ltr a.types.toNat (onA a++onA b) (Q0 a.types.toNat (onA a++onA b)):=
 w2o (by have:=ha.types;omega) fun p hp=>by
  rcases zV.1 hp with hp|hp
  ·exact Dq ha p hp
  ·rw[←ht];exact Dq hb p hp
theorem g0h{a:Aut}{m:Mv}(h:m∈a.mv):m.on∈onA a:=zR.2 ⟨m,h,rfl⟩
theorem Me{a b:Aut}(ha:OkA a)(hb:OkA b)(ht:b.types=a.types)(s:Int×Int):SuccOk (Ru a) (Tn a b) s (U3 a b s):=by
 have hl:=c14 ha hb ht;refine⟨?_,fun e he=> ?_,fun y hy=> ?_⟩
 ·unfold U3;exact wJ.2 (hl.ascS.imp fun h=>h)
 ·obtain⟨x,hx,rfl⟩:=zR.1 he;obtain⟨c,hc,rfl⟩:=zR.1 hx;exact⟨Z6.1 (hl.least hc).1,rfl⟩
 ·obtain⟨c,hc,hm,hle,z1⟩:=hl.cov (Z6.2 hy);refine⟨(Qm c,Tn a b s (Qm c)),zR.2 ⟨Qm c,zR.2 ⟨c,hc,rfl⟩,rfl⟩,?_,hle⟩;unfold Tn;rw[z04 (fun m hm=>(z1 m.on (xE _ (g0h hm))).symm),z04 (a:=b) (fun m hm=>(z1 m.on (ud _ (g0h hm))).symm)]
def Rs(a b:Aut)(s:Int×Int):Bool:=a.fin.getD s.1.toNat false != b.fin.getD s.2.toNat false
def Pb(a b:Aut)(p q:Int):Option (List Sy)×List ((Int×Int)×List Sy):=Ns (Rs a b) (U3 a b) (a.fin.length * b.fin.length+1) 0 [((p,q),[])]
theorem Vy(a b:Aut):∀(w:List Sy) (p q:Int),Y6 (Tn a b) (p,q) w=(stF a p w,stF b q w)
 |[],_,_=>rfl
 |x::w,p,q=>Vy a b w (toL a p x) (toL b q x)
def Pr(a b:Aut):List (Int×Int):=(En a.fin.length).flatMap fun i=>(En b.fin.length).map fun j=>(i,j)
theorem Ob(a b:Aut):(Pr a b).length=a.fin.length * b.fin.length:=by unfold Pr;rw[List.length_flatMap,xT (g:=fun _=>b.fin.length) (fun i _=>by simp[En]),ut,List.sum_replicate_nat];simp[En]
theorem A7{a b:Aut}{s:Int×Int}(h1:inS a s.1)(h2:inS b s.2):s∈Pr a b:=by unfold Pr;rw[wS];exact⟨s.1,Ty.2 h1,zR.2 ⟨s.2,Ty.2 h2,rfl⟩⟩
def u10(a b:Aut)(p q:Int)(w:List Sy):Prop:=FirstW (Ru a) (Tn a b) (Rs a b) (p,q) w
theorem Xw(a b:Aut)(p q:Int)(w:List Sy):Rs a b (Y6 (Tn a b) (p,q) w)=true↔y1k a p w≠y1k b q w:=by rw[Vy];simp[Rs,y1k]
theorem B2{a b:Aut}(ha:Dfa a)(hb:Dfa b)(ht:b.types=a.types){p q:Int}(hp:inS a p)(hq:inS b q):
  (∃w,(Pb a b p q).1=some w∧u10 a b p q w)∨((Pb a b p q).1=none∧∀w,(∀x∈w,Ru a x)→y1k a p w=y1k b q w):=by
 have z1:∀x,Ru a x→Ru b x:=fun x hx=>by unfold Ru at *;rw[ht];exact hx
 rcases w01 (ok:=Ru a) (step:=Tn a b) (good:=Rs a b) (succ:=U3 a b) (s0:=(p,q)) (G:=fun s=>inS a s.1∧inS b s.2) (fun s _=>Me ha.ok hb.ok ht s)
  (fun s hs e he=>by
   obtain⟨h1,h2⟩:=(Me ha.ok hb.ok ht s).mem e he;rw[h2];exact⟨(ha.next hs.1 h1).1,(hb.next hs.2 (z1 _ h1)).1⟩) (Pr a b) (fun s hs=>A7 hs.1 hs.2) (a.fin.length * b.fin.length+1) 0 [((p,q),[])] (by rw[Ob];omega) (by simp) (y02 ⟨hp,hq⟩)with⟨w,L,h1,h2⟩|⟨L,h1,_,_,h2⟩
 ·exact .inl ⟨w,by rw[Pb,h1],h2⟩
 ·refine .inr ⟨by rw[Pb,h1],fun w hw=> ?_⟩;have:=(h2 w hw).2;by_cases hd:y1k a p w=y1k b q w
  ·exact hd
  ·rw[(Xw a b p q w).2 hd]at this;cases this
end Go.Abs
namespace Go.Abs
def Wk(a:Aut)(s:Int):List Mv:=a.mv.filter fun m=>decide (m.src=s) && !Wd m.on
def Ws(a b:Aut)(s:Int×Int):List (Sy×(Int×Int)):=(Wk a s.1).flatMap fun m=>(Wk b s.2).filterMap fun n=>if Wd (Wg m.on n.on)then none else some (Qm (Wg m.on n.on),(m.dst,n.dst))
theorem Rm{a:Aut}{s:Int}{m:Mv}:m∈Wk a s↔m∈a.mv∧m.src=s∧Wd m.on=false:=by unfold Wk;rw[xL];simp
theorem S7{a b:Aut}{s:Int×Int}{e:Sy×(Int×Int)}:e∈Ws a b s↔∃m∈Wk a s.1,∃n∈Wk b s.2,Wd (Wg m.on n.on)=false∧e=(Qm (Wg m.on n.on),(m.dst,n.dst)):=by
 unfold Ws;rw[wS];constructor
 ·rintro⟨m,hm,h⟩;obtain⟨n,hn,h⟩:=vI.1 h;cases hv:Wd (Wg m.on n.on)
  ·rw[hv,if_neg (by simp)]at h;cases h;exact⟨m,hm,n,hn,hv,rfl⟩
  ·rw[hv,if_pos rfl]at h;cases h
 ·rintro⟨m,hm,n,hn,hv,rfl⟩;exact⟨m,hm,vI.2 ⟨n,hn,by rw[hv,if_neg (by simp)]⟩⟩
theorem Ut{T:Nat}{p:Prd}(h:PWf T p):Wd p=false↔∃t n,PM p t n:=by
 cases hv:Wd p
 ·simp only[true_iff];apply Classical.byContradiction;intro hn;have:=(Rn h).2 (fun t n hm=>hn ⟨t,n,hm⟩);rw[hv]at this;cases this
 ·simp only[Bool.true_eq_false,false_iff];rintro⟨t,n,hm⟩;exact(Rn h).1 hv t n hm
theorem Px{T:Nat}{p:Prd}(h:PWf T p)(hn:∃t n,PM p t n):okT T (Qm p)∧PM p (Qm p).ty.toNat (Qm p).num∧∀x,okT T x→PM p x.ty.toNat x.num→Qm p=x∨sLt (Qm p) x:=by
 have h1:=Wz h hn;have h2:=h.lt h1.1;refine⟨⟨by simp[Qm],by simpa[Qm]using h2.1,h2.2⟩,by simpa[Qm]using h1.1,fun x hx hm=> ?_⟩;rcases h1.2 _ _ hm with⟨e1,e2⟩|hlt
 ·left;unfold Qm;rw[e1,e2,show((x.ty.toNat:Nat):Int)=x.ty by have:=hx.1;omega]
 ·right;have:=g0d hlt;have e:(⟨(x.ty.toNat:Int),x.num⟩:Sy)=x:=by rw[show((x.ty.toNat:Nat):Int)=x.ty by have:=hx.1;omega]
  rw[e]at this;exact this
theorem A4{a b:Aut}(ha:Dfa a)(hb:Dfa b)(ht:b.types=a.types){s:Int×Int}(h1:inS a s.1)(h2:inS b s.2):
  (∀e∈Ws a b s,Ru a e.1∧e.2=Tn a b s e.1)∧∀y,Ru a y→∃e∈Ws a b s,e.2=Tn a b s y∧(e.1=y∨sLt e.1 y):=by
 have z1:∀x,Ru a x→Ru b x:=fun x hx=>by unfold Ru at *;rw[ht];exact hx
 have z7:∀ {m n:Mv},m∈a.mv→n∈b.mv→PWf a.types.toNat m.on∧PWf a.types.toNat n.on:=fun hm hn=>⟨ha.ok.wfA.on _ hm,by rw[←ht];exact hb.ok.wfA.on _ hn⟩
 constructor
 ·intro e he;obtain⟨m,hm,n,hn,hv,rfl⟩:=S7.1 he;obtain⟨m1,m2,_⟩:=Rm.1 hm;obtain⟨n1,n2,_⟩:=Rm.1 hn;obtain⟨w1,w2⟩:=z7 m1 n1;have hw:=Tp w1 w2.1;obtain⟨k1,k2,_⟩:=Px hw ((Ut hw).1 hv);have hk:=Z6.1 k1;obtain⟨p1,p2⟩:=(Er w1.1 w2.1 _ _).1 k2;refine⟨hk,?_⟩;unfold Tn;rw[←m2,←n2,ha.to_of m1 hk ((R5 w1.1 _ hk.1.1).2 p1),hb.to_of n1 (z1 _ hk) ((R5 w2.1 _ hk.1.1).2 p2)]
 ·intro y hy;obtain⟨m,m1,m2,m3,m4⟩:=ha.move h1 hy;obtain⟨n,n1,n2,n3,n4⟩:=hb.move h2 (z1 y hy);obtain⟨w1,w2⟩:=z7 m1 n1;have hw:=Tp w1 w2.1;have p1:=(R5 w1.1 y hy.1.1).1 m3;have p2:=(R5 w2.1 y hy.1.1).1 n3;have z6:=(Er w1.1 w2.1 _ _).2 ⟨p1,p2⟩;have hv:=(Ut hw).2 ⟨_,_,z6⟩;refine⟨_,S7.2 ⟨m,Rm.2 ⟨m1,m2,(Ut w1).2 ⟨_,_,p1⟩⟩,n,Rm.2 ⟨n1,n2,(Ut w2).2 ⟨_,_,p2⟩⟩,hv,rfl⟩,?_,(Px hw ⟨_,_,z6⟩).2.2 y (Z6.2 hy) z6⟩;unfold Tn;rw[m4,n4]
def lkN(near:List ((Int×Int)×Nat))(s:Int×Int):Option Nat:=(near.find? fun e=>decide (e.1=s)).map (·.2)
def Gm(a:Aut)(near:List ((Int×Int)×Nat))(d:Nat)(s:Int×Int):Bool:=match d with
 |0=>Rs a a s
 |d+1=>(Ws a a s).any fun e=>decide (lkN near e.2=some d)
def Tl(a:Aut)(near:List ((Int×Int)×Nat))(d:Nat):List (Int×Int):=(Pr a a).filter fun s=>decide (lkN near s=none) && Gm a near d s
def J2(a:Aut):Nat→Nat→List ((Int×Int)×Nat)→List ((Int×Int)×Nat)
 |0,_,near=>near
 |f+1,d,near=>if Tl a near d=[]then near else J2 a f (d+1) (near++(Tl a near d).map fun s=>(s,d))
def Ts(a:Aut):List ((Int×Int)×Nat):=J2 a (a.fin.length * a.fin.length+1) 1 ((Tl a [] 0).map fun s=>(s,0))
def inP(a:Aut)(s:Int×Int):Prop:=inS a s.1∧inS a s.2
def Vg(a:Aut)(s:Int×Int)(d:Nat):Prop:=∃w:List Sy,w.length=d∧(∀x∈w,Ru a x)∧Rs a a (Y6 (Tn a a) s w)=true
def O8(a:Aut)(s:Int×Int)(d:Nat):Prop:=Vg a s d∧∀k,k<d→¬Vg a s k
theorem Hx{a:Aut}{s:Int×Int}:Vg a s 0↔Rs a a s=true:=by
 constructor
 ·rintro⟨w,hw,_,h⟩;obtain rfl:=List.length_eq_zero_iff.1 hw;exact h
 ·intro h;exact⟨[],rfl,by simp,h⟩
theorem A5{a:Aut}{s:Int×Int}{d:Nat}:Vg a s (d+1)↔∃y,Ru a y∧Vg a (Tn a a s y) d:=by
 constructor
 ·rintro⟨w,hw,ho,h⟩;cases w with
  |nil=>cases hw
  |cons y w=>exact⟨y,ho y (by simp),w,by simpa using hw,fun x hx=>ho x (by simp[hx]),h⟩
 ·rintro⟨y,hy,w,hw,ho,h⟩;exact⟨y::w,by simp[hw],fun x hx=>(yE.1 hx).elim (fun e=>by rw[e];exact hy) (ho x),h⟩
theorem Lu{a:Aut}{s:Int×Int}{d k:Nat}(h:O8 a s d)(h':O8 a s k):d=k:=by
 rcases Nat.lt_trichotomy d k with hlt|e|hlt
 ·exact absurd h.1 (h'.2 d hlt)
 ·exact e
 ·exact absurd h'.1 (h.2 k hlt)
theorem w0e{a:Aut}{s:Int×Int}:∀(d:Nat),Vg a s d→∃k,k≤d∧O8 a s k:=by
 intro d;induction d using Nat.strongRecOn with
 |_ d ih=>
  intro h;by_cases hk:∃k,k<d∧Vg a s k
  ·obtain⟨k,h1,h2⟩:=hk;obtain⟨j,h3,h4⟩:=ih k h1 h2;exact⟨j,by omega,h4⟩
  ·exact⟨d,zQ _,h,fun k h1 h2=>hk ⟨k,h1,h2⟩⟩
theorem De{a:Aut}{s:Int×Int}{d:Nat}(h:O8 a s (d+1)):∃y,Ru a y∧O8 a (Tn a a s y) d:=by obtain⟨y,hy,h1⟩:=A5.1 h.1;refine⟨y,hy,h1,fun k hk h2=> ?_⟩;exact h.2 (k+1) (by omega) (A5.2 ⟨y,hy,h2⟩)
theorem Sq{a:Aut}(ha:Dfa a){s:Int×Int}(hs:inP a s){y:Sy}(hy:Ru a y):inP a (Tn a a s y):=⟨(ha.next hs.1 hy).1,(ha.next hs.2 hy).1⟩
structure NInv (a:Aut) (d:Nat) (near:List ((Int×Int)×Nat)):Prop where
 lk:∀s,inP a s→∀k,lkN near s=some k↔(k<d∧O8 a s k)
 keys:(near.map (·.1)).Nodup
 dom:∀e∈near,e.1∈Pr a a
theorem f1h(A:List ((Int×Int)×Nat))(B:List (Int×Int))(d:Nat)(s:Int×Int):lkN (A++B.map fun t=>(t,d)) s=match lkN A s with|some k=>some k|none=>if s∈B then some d else none:=by
 unfold lkN;rw[List.find?_append];cases hA:A.find? fun e=>decide (e.1=s)with
 |some e=>rfl
 |none=>
  simp only[Option.none_or,Option.map_none];by_cases hs:s∈B
  ·rw[if_pos hs];obtain⟨e,he⟩:=Option.isSome_iff_exists.1 (List.find?_isSome.2 ⟨(s,d),zR.2 ⟨s,hs,rfl⟩,by simp⟩:(List.find? (fun e:(Int×Int)×Nat=>decide (e.1=s)) (B.map fun t=>(t,d))).isSome);rw[he];obtain⟨t,_,rfl⟩:=zR.1 (uF he);rfl
  ·rw[if_neg hs];rw[uh.2 (fun e he=>by
    obtain⟨t,ht,rfl⟩:=zR.1 he;simp only[decide_eq_true_eq];rintro rfl;exact hs ht)]
   rfl
theorem Fl{A:List ((Int×Int)×Nat)}{s:Int×Int}:lkN A s=none↔s∉A.map (·.1):=by
 unfold lkN;rw[Option.map_eq_none_iff,uh];constructor
 ·intro h hs;obtain⟨e,he,rfl⟩:=zR.1 hs;exact h e he (by simp)
 ·intro h e he;simp only[decide_eq_true_eq];rintro rfl;exact h (zR.2 ⟨e,he,rfl⟩)
theorem d0x{a:Aut}{s:Int×Int}(h:s∈Pr a a):inP a s:=by obtain⟨i,hi,hs⟩:=wS.1 h;obtain⟨j,hj,rfl⟩:=zR.1 hs;exact⟨Ty.1 hi,Ty.1 hj⟩
theorem K4(a:Aut):(Pr a a).Nodup:=by have hr:∀n,(En n).Nodup:=fun n=>(H8 n).imp (fun h e=>by omega);unfold Pr List.Nodup;rw[List.pairwise_flatMap];refine⟨fun i _=>wJ.2 ((hr _).imp fun h e=>h (Prod.mk.inj e).2),(hr _).imp fun {i j} hij x hx y hy e=> ?_⟩;obtain⟨u,_,rfl⟩:=zR.1 hx;obtain⟨v,_,rfl⟩:=zR.1 hy;exact hij (Prod.mk.inj e).1
theorem Jg{a:Aut}(ha:Dfa a){d:Nat}{near:List ((Int×Int)×Nat)}(h:NInv a d near){s:Int×Int}:s∈Tl a near d↔inP a s∧O8 a s d:=by
 unfold Tl;rw[xL];simp only[yL,decide_eq_true_eq];have z1:∀s,inP a s→(lkN near s=none↔∀k,k<d→¬Vg a s k):=fun s hs=>by
  constructor
  ·intro hn k hk hd;obtain⟨j,h1,h2⟩:=w0e k hd;have:=(h.lk s hs j).2 ⟨by omega,h2⟩;rw[hn]at this;cases this
  ·intro hk;cases hl:lkN near s with
   |none=>rfl
   |some k=>obtain⟨h1,h2⟩:=(h.lk s hs k).1 hl;exact absurd h2.1 (hk k h1)
 constructor
 ·rintro⟨h1,h2,h3⟩;have hs:=d0x h1;have hk:=(z1 s hs).1 h2;refine⟨hs,?_,hk⟩;cases d with
  |zero=>exact Hx.2 h3
  |succ d=>simp only[Gm,wN,decide_eq_true_eq]at h3;obtain⟨e,he,hl⟩:=h3;obtain⟨e1,e2⟩:=(A4 ha ha rfl hs.1 hs.2).1 e he;rw[e2]at hl;exact A5.2 ⟨e.1,e1,((h.lk _ (Sq ha hs e1) d).1 hl).2.1⟩
 ·rintro⟨hs,h2⟩;refine⟨A7 hs.1 hs.2,(z1 s hs).2 h2.2,?_⟩;cases d with
  |zero=>exact Hx.1 h2.1
  |succ d=>obtain⟨y,hy,hm⟩:=De h2;obtain⟨e,he,e1,_⟩:=(A4 ha ha rfl hs.1 hs.2).2 y hy;simp only[Gm,wN,decide_eq_true_eq];exact⟨e,he,by rw[e1];exact(h.lk _ (Sq ha hs hy) d).2 ⟨by omega,hm⟩⟩
theorem NInv.step{a:Aut}(ha:Dfa a){d:Nat}{near:List ((Int×Int)×Nat)}(h:NInv a d near):NInv a (d+1) (near++(Tl a near d).map fun s=>(s,d)):=by
 refine⟨fun s hs k=> ?_,?_,fun e he=> ?_⟩
 ·rw[f1h];cases hl:lkN near s with
  |some j=>
   obtain⟨h1,h2⟩:=(h.lk s hs j).1 hl;simp only[Option.some.injEq];constructor
   ·rintro rfl;exact⟨by omega,h2⟩
   ·rintro⟨_,h3⟩;exact Lu h2 h3
  |none=>
   simp only;have z1:∀k,k<d→¬O8 a s k:=fun k hk hm=>by have:=(h.lk s hs k).2 ⟨hk,hm⟩;rw[hl]at this;cases this
   by_cases hf:s∈Tl a near d
   ·rw[if_pos hf];have hm:=((Jg ha h).1 hf).2;simp only[Option.some.injEq];constructor
    ·rintro rfl;exact⟨by omega,hm⟩
    ·rintro⟨_,h3⟩;exact Lu hm h3
   ·rw[if_neg hf];constructor
    ·intro hc;cases hc
    ·rintro⟨h1,h3⟩;by_cases hkd:k<d
     ·exact absurd h3 (z1 k hkd)
     ·have:k=d:=by omega
      subst this;exact absurd ((Jg ha h).2 ⟨hs,h3⟩) hf
 ·rw[yF,List.map_map,vB];refine⟨h.keys,?_,fun x hx y hy e=> ?_⟩
  ·have:(Tl a near d).map ((·.1)∘fun s=>(s,d))=Tl a near d:=by exact(xT (g:=id) (fun _ _=>rfl)).trans (List.map_id _)
   rw[this];exact(K4 a).filter _
  ·subst e;obtain⟨t,ht,rfl⟩:=zR.1 hy;have:=(xL.1 ht).2;simp only[yL,decide_eq_true_eq]at this;exact Fl.1 this.1 hx
 ·rcases zV.1 he with he|he
  ·exact h.dom e he
  ·obtain⟨t,ht,rfl⟩:=zR.1 he;exact(xL.1 ht).1
theorem z0n{a:Aut}(ha:Dfa a):∀(k d:Nat) (s:Int×Int),inP a s→O8 a s (d+k)→∃t,inP a t∧O8 a t d
 |0,_,s,hs,h=>⟨s,hs,h⟩
 |k+1,d,s,hs,h=>by obtain⟨y,hy,hm⟩:=De (d:=d+k) h;exact z0n ha k d _ (Sq ha hs hy) hm
theorem c0g{a:Aut}(ha:Dfa a):∀(f d:Nat) (near:List ((Int×Int)×Nat)),a.fin.length * a.fin.length+1≤near.length+f→NInv a d near→∀s,inP a s→∀k,lkN (J2 a f d near) s=some k↔O8 a s k
 |0,d,near,hf,h=>by
  exfalso;have:=Yh _ (Pr a a) h.keys (fun s hs=>by
   obtain⟨e,he,rfl⟩:=zR.1 hs;exact h.dom e he)
  rw[Ob,zZ]at this;omega
 |f+1,d,near,hf,h=>by
  rw[J2];by_cases he:Tl a near d=[]
  ·rw[if_pos he];intro s hs k;rw[h.lk s hs k];refine⟨fun hk=>hk.2,fun hm=>⟨?_,hm⟩⟩;by_cases hkd:k<d
   ·exact hkd
   ·exfalso;obtain⟨t,ht,z1⟩:=z0n ha (k - d) d s hs (by rw[show d+(k - d)=k by omega];exact hm);have:=(Jg ha h).2 ⟨ht,z1⟩;rw[he]at this;cases this
  ·rw[if_neg he];have hl:=List.length_pos_iff.2 he;exact c0g ha f (d+1) _ (by simp;omega) (h.step ha)
theorem g0t{a:Aut}(ha:Dfa a):∀s,inP a s→∀k,lkN (Ts a) s=some k↔O8 a s k:=by
 have h0:NInv a 0 []:=⟨fun s _ k=>by simp[lkN],by simp,by simp⟩
 have h1:=h0.step ha;rw[xY]at h1;exact c0g ha _ 1 _ (by omega) h1
def Kz(x y:Sy):Bool:=decide (x.ty<y.ty) || (decide (x.ty=y.ty) && decide (x.num<y.num))
def c05(es:List (Sy×(Int×Int))):Option (Sy×(Int×Int)):=es.foldl (fun b e=>match b with|none=>some e|some c=>if Kz e.1 c.1 then some e else some c) none
theorem u1s(x y:Sy):Kz x y=true↔sLt x y:=by simp[Kz,sLt]
theorem Jt:∀(es:List (Sy×(Int×Int))) (c:Sy×(Int×Int)),∃e,es.foldl (fun b e=>match b with|none=>some e|some c=>if Kz e.1 c.1 then some e else some c) (some c)=some e∧(e=c∨e∈es)∧(e.1=c.1∨sLt e.1 c.1)∧∀f∈es,e.1=f.1∨sLt e.1 f.1
 |[],c=>⟨c,rfl,.inl rfl,.inl rfl,by simp⟩
 |f::es,c=>by
  rw[List.foldl_cons];simp only;cases hb:Kz f.1 c.1 with
  |true=>
   rw[if_pos rfl];have z6:=(u1s _ _).1 hb;obtain⟨e,h1,h2,h3,h4⟩:=Jt es f;refine⟨e,h1,.inr ?_,.inr ?_,fun g hg=> ?_⟩
   ·rcases h2 with rfl|h2
    ·simp
    ·simp[h2]
   ·rcases h3 with h3|h3
    ·rw[h3];exact z6
    ·exact h3.trans z6
   ·rcases yE.1 hg with rfl|hg
    ·exact h3
    ·exact h4 g hg
  |false=>
   rw[if_neg (by simp)];obtain⟨e,h1,h2,h3,h4⟩:=Jt es c;refine⟨e,h1,h2.imp id (fun h=>List.mem_cons_of_mem _ h),h3,fun g hg=> ?_⟩;rcases yE.1 hg with rfl|hg
   ·have hn:¬sLt g.1 c.1:=fun h=>by rw[(u1s _ _).2 h]at hb;cases hb
    have z1:c.1=g.1∨sLt c.1 g.1:=by
     rcases sLt.tri g.1 c.1 with h|h|h
     ·exact absurd h hn
     ·exact .inl h.symm
     ·exact .inr h
    rcases h3 with h3|h3
    ·rw[h3];exact z1
    ·rcases z1 with z1|z1
     ·rw[←z1];exact .inr h3
     ·exact .inr (h3.trans z1)
   ·exact h4 g hg
theorem Bj{es:List (Sy×(Int×Int))}(h:es≠[]):∃e,c05 es=some e∧e∈es∧∀f∈es,e.1=f.1∨sLt e.1 f.1:=by
 cases es with
 |nil=>exact absurd rfl h
 |cons c es=>
  obtain⟨e,h1,h2,h3,h4⟩:=Jt es c;refine⟨e,h1,by rcases h2 with rfl|h2<;>simp[*],fun f hf=> ?_⟩;rcases yE.1 hf with rfl|hf
  ·exact h3
  ·exact h4 f hf
def Ub(a:Aut)(near:List ((Int×Int)×Nat)):Nat→Int×Int→List Sy
 |0,_=>[]
 |d+1,s=>match c05 ((Ws a a s).filter fun e=>decide (lkN near e.2=some d))with
  |some e=>e.1::Ub a near d e.2
  |none=>⟨0,0⟩::Ub a near d (0,0)
theorem j1u{x y:Sy}{v w:List Sy}(h:x=y∨sLt x y)(hl:v.length=w.length)(hv:x=y→lle v w):lle (x::v) (y::w):=by
 rcases h with rfl|h
 ·rcases hv rfl with rfl|hv
  ·exact .inl rfl
  ·rcases hv with hv|⟨h1,h2⟩
   ·omega
   ·exact .inr (.inr ⟨by simp[h1],.inr ⟨rfl,h2⟩⟩)
 ·exact .inr (.inr ⟨by simp[hl],.inl h⟩)
theorem B8{a:Aut}(ha:Dfa a){near:List ((Int×Int)×Nat)}(hn:∀s,inP a s→∀k,lkN near s=some k↔O8 a s k):∀(d:Nat) (s:Int×Int),inP a s→O8 a s d→(Ub a near d s).length=d∧u10 a a s.1 s.2 (Ub a near d s)
 |0,s,hs,h=>⟨rfl,by simp[Ub],Hx.1 h.1,fun v hv hg=>by
   cases v with
   |nil=>exact .inl rfl
   |cons x v=>exact .inr (.inl (by simp[Ub]))⟩
 |d+1,s,hs,h=>by
  obtain⟨y,hy,hm⟩:=De h;obtain⟨e0,z8,za,_⟩:=(A4 ha ha rfl hs.1 hs.2).2 y hy;have zb:(Ws a a s).filter (fun e=>decide (lkN near e.2=some d))≠[]:=List.ne_nil_of_mem (xL.2 ⟨z8,by
   rw[za];simpa using(hn _ (Sq ha hs hy) d).2 hm⟩)
  obtain⟨e,h1,h2,h3⟩:=Bj zb;obtain⟨zc,zd⟩:=xL.1 h2;obtain⟨e1,e2⟩:=(A4 ha ha rfl hs.1 hs.2).1 e zc;have z1:inP a e.2:=by rw[e2];exact Sq ha hs e1
  have ze:O8 a e.2 d:=(hn _ z1 d).1 (by simpa using zd);obtain⟨i1,i2⟩:=B8 ha hn d e.2 z1 ze;rw[Ub,h1];simp only;refine⟨by simp[i1],fun x hx=> ?_,?_,fun v hv hg=> ?_⟩
  ·rcases yE.1 hx with rfl|hx
   ·exact e1
   ·exact i2.okw x hx
  ·have:=i2.goodw;show Rs a a (Y6 (Tn a a) (Tn a a s e.1) (Ub a near d e.2))=true;rw[←e2];exact this
  ·by_cases hlen:v.length=d+1
   ·cases v with
    |nil=>cases hlen
    |cons z v=>
     have hz:=hv z (by simp);have z6:v.length=d:=by simpa using hlen
     have z7:Rs a a (Y6 (Tn a a) (Tn a a s z) v)=true:=hg;have zf:O8 a (Tn a a s z) d:=by refine⟨⟨v,z6,fun x hx=>hv x (by simp[hx]),z7⟩,fun k hk hd=> ?_⟩;exact h.2 (k+1) (by omega) (A5.2 ⟨z,hz,hd⟩)
     obtain⟨f,hf,f1,f2⟩:=(A4 ha ha rfl hs.1 hs.2).2 z hz;have zg:f∈(Ws a a s).filter (fun e=>decide (lkN near e.2=some d)):=xL.2 ⟨hf,by
      rw[f1];simpa using(hn _ (Sq ha hs hz) d).2 zf⟩
     have hle:e.1=z∨sLt e.1 z:=by
      rcases h3 f zg with h4|h4
      ·rcases f2 with f2|f2
       ·exact .inl (h4.trans f2)
       ·rw[h4];exact .inr f2
      ·rcases f2 with f2|f2
       ·rw[←f2];exact .inr h4
       ·exact .inr (h4.trans f2)
     refine j1u hle (by rw[i1,z6]) fun zh=> ?_;refine i2.least v (fun x hx=>hv x (by simp[hx])) ?_;show Rs a a (Y6 (Tn a a) e.2 v)=true;rw[e2,zh];exact z7
   ·have zi:d+1≤v.length:=by
     by_cases hlt:v.length<d+1
     ·exact absurd ⟨v,rfl,hv,hg⟩ (h.2 _ hlt)
     ·omega
    exact .inr (.inl (by simp[i1];omega))
theorem q0o{a:Aut}(ha:Dfa a){p q:Int}(hp:inS a p)(hq:inS a q):(Pb a a p q).1=(lkN (Ts a) (p,q)).map fun d=>Ub a (Ts a) d (p,q):=by
 have hn:=g0t ha;have z1:inP a (p,q):=⟨hp,hq⟩
 rcases B2 ha ha rfl hp hq with⟨w,h1,h2⟩|⟨h1,h2⟩
 ·obtain⟨d,_,hm⟩:=w0e (a:=a) (s:=(p,q)) w.length ⟨w,rfl,h2.okw,h2.goodw⟩;rw[h1,(hn _ z1 d).2 hm,Option.map_some,h2.unique (B8 ha hn d _ z1 hm).2]
 ·rw[h1];cases hl:lkN (Ts a) (p,q)with
  |none=>rfl
  |some d=>exfalso;obtain⟨w,_,hw,hg⟩:=((hn _ z1 d).1 hl).1;exact(Xw a a p q w).1 hg (h2 w hw)
end Go.Abs
namespace Go.Abs
open Go Go.Proofs
theorem v1i{T:Nat}{p:Prd}(h:PWf T p){s:List Iv}(hs:s∈p):∀x∈s,U7 x:=z0e (h.2 s hs).1 (h.2 s hs).2
attribute [local irreducible] Rp W4
theorem Uf(p:Prd):PC Tryz.prog 76 [encP p] (fun r=>r= .bool (Wd p)):=by
 refine Ql tOk Tryz.func76 rfl Tryz.results76 rfl (by simp[Tryz.ntmps76]) ?_;rw[Tryz.ntmps76];simp only[Qg];simp only[encP];refine W1 0 0 rfl rfl (fun hlen=> ?_);rw[zZ]at hlen;obtain⟨R,hR⟩:∃R,Wd p=R:=⟨_,rfl⟩
 rw[hR];repeat first|(refine r_ ?_;simp)|refine q_ ?_
 refine Qr p.length (fun j=>Wd (p.drop j)=R) (fun j=>[(1,.vptr 0 0),(3,.i j)]) (fun _=>[.vars [.list (p.map encL)]]) rfl (by simp) (by simp) (by simp) (by simp) (by simpa using hR) ?_;intro j hj hI ih;repeat first|(refine r_ ?_;simp)|refine q_ ?_
 refine Qb rfl (fun z7=> ?_) (fun z8=> ?_)
 ·have z1:j<p.length:=by simpa using z7
  have hw:IntKind.i64.wrap ((j:Int)+1)=j+1:=wrap_i64 _ (by omega) (by omega);rw[Ee z1,Wd,List.all_cons]at hI;repeat first|(refine r_ ?_;simp[z1])|refine q_ ?_
  refine Qb rfl (fun h3=> ?_) (fun h3=> ?_)
  ·repeat first|(refine r_ ?_;simp)|refine q_ ?_
   have:p[j].isEmpty=false:=by simp at h3;cases hp:p[j]with|nil=>rw[hp]at h3;simp at h3|cons _ _=>rfl
   rw[this,uD]at hI;exact hI.symm
  ·have:p[j].isEmpty=true:=by simp at h3;simp[h3]
   rw[this,vW]at hI;repeat first|(refine r_ ?_;simp[hw])|refine q_ ?_
   refine Qq _ (ih z1 hI) rfl (by simp) ?_ (by simp) (by simp);simp
 ·have z6:j=p.length:=by simp at z8;omega
  subst z6;repeat first|(refine r_ ?_;simp)|refine q_ ?_
  rw[←hI,xX];rfl
theorem Po:∀(p:Prd) (i:Nat),(∃s∈p,s≠[])→∃t x r,p[t]? =some (x::r)∧Qw p i=(i+t,x.lo)∧∀j,j<t→p[j]? =some []
 |[],i,h=>by obtain⟨s,hs,_⟩:=h;cases hs
 |[]::p,i,h=>by
  obtain⟨t,x,r,h1,h2,h3⟩:=Po p (i+1) (by obtain⟨s,hs,hn⟩:=h;rcases yE.1 hs with rfl|hs;exact absurd rfl hn;exact⟨s,hs,hn⟩);refine⟨t+1,x,r,by simpa using h1,by rw[Qw,h2];congr 1;omega,fun j hj=> ?_⟩;cases j with
  |zero=>rfl
  |succ j=>simpa using h3 j (by omega)
 |(x::r)::p,i,_=>⟨0,x,r,rfl,by simp[Qw],fun j hj=>by omega⟩
theorem Te(p:Prd)(hn:Wd p=false):PC Tryz.prog 67 [encP p] (fun r=>r=encSy (Qm p)):=by
 refine Ql tOk Tryz.func67 rfl Tryz.results67 rfl (by simp[Tryz.ntmps67]) ?_;rw[Tryz.ntmps67];simp only[Qg];simp only[encP];refine W1 0 0 rfl rfl (fun hlen=> ?_);rw[zZ]at hlen;obtain⟨t,x,r,h1,h2,h3⟩:=Po p 0 (by
  unfold Wd at hn;rw[vU]at hn;obtain⟨s,hs,he⟩:=hn;exact⟨s,hs,fun e=>by rw[e]at he;simp at he⟩)
 have hL:Qm p=⟨(t:Int),x.lo⟩:=by rw[Qm,h2];simp
 rw[hL];have ht:=(zE.1 h1).1;have z6:p[t]=x::r:=(zE.1 h1).2;repeat first|(refine r_ ?_;simp)|refine q_ ?_
 refine Qr t (fun _=>True) (fun j=>[(1,.vptr 0 0),(2,.vptr 1 0),(3,.i j)]) (fun _=>[.vars [.list (p.map encL)],.vars [.i 0,.i 0]]) rfl (by simp) (by simp) (by simp) (by simp) trivial ?_;intro j hj _ ih;have z1:j<p.length:=by omega
 have hw:IntKind.i64.wrap ((j:Int)+1)=j+1:=wrap_i64 _ (by omega) (by omega);repeat first|(refine r_ ?_;simp[z1])|refine q_ ?_
 refine Qk rfl ?_;simp[z1];repeat first|(refine r_ ?_;simp[z1])|refine q_ ?_
 by_cases hjt:j=t
 ·subst hjt;have z8:¬(p[j].length=0):=by rw[z6];simp
  have zb:0<p[j].length:=by omega
  repeat first|(refine r_ ?_;simp[z1,z6])|refine q_ ?_
  refine Qb rfl (fun h=> ?_) (fun h=> ?_)
  ·repeat first|(refine r_ ?_;simp[z1,z6])|refine q_ ?_
  ·exfalso;rw[z6]at h;simp at h
 ·have za:=h3 j (by omega);have z7:p[j]=[]:=(zE.1 za).2;repeat first|(refine r_ ?_;simp[z1,z7])|refine q_ ?_
  refine Qb rfl (fun h=> ?_) (fun h=> ?_)
  ·exfalso;rw[z7]at h;simp at h
  ·repeat first|(refine r_ ?_;simp[hw])|refine q_ ?_
   refine Qq _ (ih (by omega) trivial) rfl (by simp) ?_ (by simp) (by simp);simp
theorem Hh(x y:Sy):PC Tryz.prog 191 [encSy x,encSy y] (fun r=>r= .bool (Kz x y)):=by
 refine Ql tOk Tryz.func191 rfl Tryz.results191 rfl (by simp[Tryz.ntmps191]) ?_;rw[Tryz.ntmps191];simp only[Qg];simp only[encSy];repeat first|(refine r_ ?_;simp)|refine q_ ?_
 by_cases h:x.ty=y.ty<;>simp[Kz,h]
end Go.Abs
namespace Go.Abs
open Go Go.Proofs
attribute [local irreducible] Rp W4 upL W2
theorem x15{c p:Prd}(h:c.length=p.length):(yJ c.length).map (fun i=>Rp (c.getD i []) (p.getD i []))=Wg c p:=by
 refine wK (by simp[Wg,h]) fun i h1 h2=> ?_;have hc:i<c.length:=by simpa using h1
 have hp:i<p.length:=by omega
 simp[Wg,yV,hc,hp]
theorem Gp(T:Nat)(c p:Prd)(hc:PWf T c)(hp:PWf T p)(zf:∀s∈c,∀t∈p,s.length+t.length≤1000000000)(hT:T≤1000):PC Tryz.prog 109 [encP c,encP p] (fun r=>r=encP (Wg c p)):=by
 refine Ql tOk Tryz.func109 rfl Tryz.results109 rfl (by simp[Tryz.ntmps109]) ?_;rw[Tryz.ntmps109];simp only[Qg];simp only[encP];have hlen:c.length=p.length:=by rw[hc.1,hp.1]
 have zm:=hc.1;repeat first|(refine r_ ?_;simp)|refine q_ ?_
 refine Wt 3 0 171 1 rfl rfl ?_;simp;obtain⟨K,hK⟩:∃K,K=[AObj.vars [.list (c.map encL)],AObj.vars [.list (p.map encL)],AObj.vars [AV.nils],AObj.vars [AV.nils]]:=⟨_,rfl⟩
 have zg:=GL.start (K:=K) (S:=3) [] [] 171 1 (by rw[hK];simp);refine Qp (Qc (sl':=[(2,.vptr 0 0),(3,.vptr 1 0),(4,.vptr 2 0),(5,.vptr 3 0),(6,.i 0)]) ?_ (by simp));refine Qo (F:=fun(u:Nat×Nat×List AObj)=>⟨[(2,.vptr 0 0),(3,.vptr 1 0),(4,.vptr 2 0),(5,.vptr 3 0),(6,.i u.1)],u.2.2⟩)
  (fun u=>u.1≤c.length∧GL K u.2.2 3 u.2.1 [] [] 171 1 (upL (fun i=>Rp (c.getD i []) (p.getD i [])) u.1)) (fun u=>c.length - u.1) ?_ (0,K.length,_) ⟨by simp,by rw[Oi,hK]at *;exact zg⟩
 rintro⟨j,q,H2⟩ ⟨hj,g⟩ ih;simp only[vT,xY]at hj g ih ⊢;have g0:H2[0]? =some (AObj.vars [.list (c.map encL)]):=g.kp (by decide) (by rw[hK];rfl);have g1:H2[1]? =some (AObj.vars [.list (p.map encL)]):=g.kp (by decide) (by rw[hK];rfl);have gR:H2[2]? =some (AObj.vars [AV.nils]):=g.kp (by decide) (by rw[hK];rfl);have g2:=g.cell;have g3:=g.arr;rw[Wy]at g2;simp only[xY]at g2;repeat first|(refine r_ ?_;simp[g0])|refine q_ ?_
 refine Qb rfl (fun zh=> ?_) (fun zi=> ?_)
 ·have z1:j<c.length:=by simpa using zh
  have hw:IntKind.i64.wrap ((j:Int)+1)=j+1:=wrap_i64 _ (by omega) (by omega);have z7:∀L:List AObj,(H2.set q .dead++L)[3]? =some (AObj.vars [AV.sl q 1 0 j]):=fun L=>by have:=g.at L;rw[Wy]at this;exact this
  have zb:∀(L:List AObj) (h:3<(H2.set q .dead++L).length),(H2.set q .dead++L)[3]'h=AObj.vars [AV.sl q 1 0 j]:=fun L h=>by have:=z7 L;rw[zI h]at this;exact Option.some.inj this
  have zc:=fun A y=>g.put A y (Wy _ _).symm;have zj:upL (fun i=>Rp (c.getD i []) (p.getD i [])) j++[encL ((fun i=>Rp (c.getD i []) (p.getD i [])) j)]=upL (fun i=>Rp (c.getD i []) (p.getD i [])) (j+1):=(Og _ _).symm;have z6:=fun H=>ih (j+1,H2.length+1,H);have z8:=Wy (fun i=>Rp (c.getD i []) (p.getD i [])) j;simp only[←zj]at z6;have za:j<p.length:=by omega
  have hs:=hc.2 _ (zK z1);have zk:=hp.2 _ (zK za);simp only[Wo z1,Wo za]at *
  repeat first|(refine r_ ?_;simp[g0,g1,g2])|refine q_ ?_
  refine Qn tOk mixed [14,16] (.val 0 (.val 1 (.val 2 (.val 3 (.val 4 (.val 5 (.val 6 (.val 7 (.val 8 (.val 9 (.val 10 (.val 11 (.one 12 (.one 13 (.one 14 (.val 15 (.one 16 (.done)))))))))))))))))) rfl (by kernel_rfl) ?_;simp[z1,za,g0,g1,g2];refine Qf rfl rfl (by simp) (c01 c[j] p[j] hs.1 zk.1 (zf _ (zK z1) _ (zK za)) (v1i hc (zK z1))) rfl ?_;rintro _ rfl;simp;repeat first|(refine r_ ?_;simp[g0,g1,g2])|refine q_ ?_
  generalize upL (fun i=>Rp (c.getD i []) (p.getD i [])) j=xs at *
  refine Qe tOk rfl rfl T74 rfl U6 rfl (by decide) (by decide) rfl rfl rfl ?_;simp[Qa g3,Qi g3,z8,z7,zb];refine⟨by simp[Wa,Qa g3,Qi g3,z8,z7,zb]<;>omega,?_⟩;repeat first|(refine r_ ?_;simp[g0,g2,hw,z7,zb])|refine q_ ?_
  refine Qc (sl':=[(2,.vptr 0 0),(3,.vptr 1 0),(4,.vptr 2 0),(5,.vptr 3 0),(6,.i (j+1:Nat))]) (z6 _ ⟨by omega,zc _ _⟩ (by omega)) ?_;simp
 ·have zd:j=c.length:=by(simp at zi;omega)
  subst zd;have hS:=(zE.1 g2).1;have zl:q≠2∧q≠3:=by have:=g.ge;rw[hK]at this;simp at this;omega
  have z8:=Wy (fun i=>Rp (c.getD i []) (p.getD i [])) (c.length);have ze: .list (upL (fun i=>Rp (c.getD i []) (p.getD i [])) (c.length))=AV.list ((Wg c p).map encL):=by rw[Dd];rw[x15 hlen]
  generalize upL (fun i=>Rp (c.getD i []) (p.getD i [])) (c.length)=xs at *
  refine Q1 q g3 3 g2 ?_;have k1:∀X,((H2.set q .dead).set 3 X)[2]? =some (AObj.vars [AV.nils]):=fun X=>Qd (by decide) (Qd zl.1 gR _) _;have k2:∀X,((H2.set q .dead).set 3 X)[3]? =some X:=fun X=>zL (by simpa using hS);have k3:∀X Y,(((H2.set q .dead).set 3 X).set 2 Y)[2]? =some Y:=fun X Y=>Qj (k1 X) _;simp[z8];rw[zO (by omega)];repeat first|(refine r_ ?_;simp[k1,k2,k3])|refine q_ ?_
  exact AV.list.inj ze
end Go.Abs
namespace Go.Abs
open Go Go.Proofs
attribute [local irreducible] Pj
theorem w0s(p:Prd)(x:Sy)(hl:∀s∈p,s.length≤1000000000):PC Tryz.prog 127 [encP p,encSy x] (fun r=>r= .bool (T0 p x)):=by
 refine Ql tOk Tryz.func127 rfl Tryz.results127 rfl (by simp[Tryz.ntmps127]) ?_;rw[Tryz.ntmps127];simp only[Qg];simp only[encP,encSy];repeat first|(refine r_ ?_;simp)|refine q_ ?_
 by_cases h0:0≤x.ty
 ·by_cases h1:x.ty<p.length
  ·have h2:x.ty.toNat<p.length:=by omega
   refine Qn tOk mixed [] (.val 0 (.val 1 (.val 2 (.val 3 (.val 4 (.val 5 (.val 6 (.val 7 (.val 8 (.val 9 (.val 10 (.val 11 (.val 12 (.val 13 (.val 14 (.val 15 (.val 16 (.val 17 (.val 18 (.val 19 (.one 20 (.val 21 (.val 22 (.done)))))))))))))))))))))))) rfl (by kernel_rfl) ?_;simp[h0,h1,h2];refine Qf rfl rfl (by simp) (f1d p[x.ty.toNat] x.num (hl _ (zK h2))) rfl ?_;rintro _ rfl;simp;repeat first|(refine r_ ?_;simp[h0,h1,h2])|refine q_ ?_
   simp[T0,h0,h1,yV,h2]
  ·refine Qn tOk mixed [] (.val 0 (.val 1 (.val 2 (.val 3 (.val 4 (.val 5 (.val 6 (.val 7 (.val 8 (.val 9 (.val 10 (.val 11 (.val 12 (.val 13 (.val 14 (.val 15 (.val 16 (.val 17 (.val 18 (.val 19 (.one 20 (.val 21 (.val 22 (.done)))))))))))))))))))))))) rfl (by kernel_rfl) ?_;simp[h0,h1];refine Q6 rfl rfl ?_;simp[h0,h1];repeat first|(refine r_ ?_;simp[h0,h1])|refine q_ ?_
   simp[T0,h0,h1]
 ·refine Qn tOk mixed [] (.val 0 (.val 1 (.val 2 (.val 3 (.val 4 (.val 5 (.val 6 (.val 7 (.val 8 (.val 9 (.val 10 (.val 11 (.val 12 (.val 13 (.val 14 (.val 15 (.val 16 (.val 17 (.val 18 (.val 19 (.one 20 (.val 21 (.val 22 (.done)))))))))))))))))))))))) rfl (by kernel_rfl) ?_;simp[h0];refine Q6 rfl rfl ?_;simp[h0];repeat first|(refine r_ ?_;simp[h0])|refine q_ ?_
  simp[T0,h0]
def k0j(a:Aut)(i k:Nat):Bool:=decide ((a.mv.getD i default).src=(a.mv.getD k default).src) && k0k (a.mv.getD i default).on (a.mv.getD k default).on
theorem k0v{a:Aut}{i k:Nat}(hi:i<a.mv.length)(hk:k<i)(h:k0j a i k=true):x00 a=false:=by unfold x00;rw[vU];refine⟨i,yW.2 hi,?_⟩;rw[Bool.not_eq_true,vU];exact⟨k,yW.2 hk,by unfold k0j at h;rw[h];simp⟩
theorem x14{a:Aut}(h:∀i,i<a.mv.length→∀k,k<i→k0j a i k=false):x00 a=true:=by unfold x00;rw[zW];intro i hi;rw[zW];intro k hk;have:=h i (yW.1 hi) k (yW.1 hk);unfold k0j at this;rw[this];rfl
theorem z13{a:Aut}{i k:Nat}(hi:i<a.mv.length)(hk:k<a.mv.length):k0j a i k=(decide (a.mv[i].src=a.mv[k].src) && k0k a.mv[i].on a.mv[k].on):=by simp[k0j,yV,hi,hk]
theorem A2{a:Aut}(h:OkA a){m:Mv}(hm:m∈a.mv):∀s∈m.on,s.length≤256:=fun s hs=>((h.mv m hm).on.2 s hs).len
attribute [local irreducible] k0j k0k Wg Wd
def w12(a:Aut):Bool×Int:=if Wq a=0 then(x00 a,0)else(false,Wq a)
end Go.Abs
namespace Go.Abs
open Go Go.Proofs
def ovl(x y:Iv):Bool:=decide (x.lo≤y.hi) && decide (y.lo≤x.hi)
def noC(p q:Prd)(i:Nat):Prop:=∀x∈p.getD i [],∀y∈q.getD i [],ovl x y=false
theorem j06{T:Nat}{p q:Prd}(hp:PWf T p)(hq:PWf T q)(h:∀i,i<p.length→noC p q i):k0k p q=false:=by rw[vJ,Ne,Zl hp hq];rintro⟨t,n,⟨s,hs,x,hx,h1,h2⟩,⟨s',z1,y,hy,h3,h4⟩⟩;have ht:=(zE.1 hs).1;have:=h t ht x (by rw[yV,hs];exact hx) y (by rw[yV,z1];exact hy);simp only[ovl,Bool.and_eq_false_iff,decide_eq_false_iff_not]at this;omega
theorem v1j{T:Nat}{p q:Prd}(hp:PWf T p)(hq:PWf T q){i:Nat}(hi:i<p.length)(z1:i<q.length){x y:Iv}(hx:x∈p[i])(hy:y∈q[i])(h:ovl x y=true):k0k p q=true:=by
 rw[Zl hp hq];simp only[ovl,yL,decide_eq_true_eq]at h;have h1:=(hp.2 _ (zK hi)).1.1 x hx;have h2:=(hq.2 _ (zK z1)).1.1 y hy;by_cases hl:x.lo≤y.lo
 ·exact⟨i,y.lo,⟨p[i],zI hi,x,hx,hl,h.2⟩,⟨q[i],zI z1,y,hy,xH _,h2⟩⟩
 ·exact⟨i,x.lo,⟨p[i],zI hi,x,hx,xH _,h1⟩,⟨q[i],zI z1,y,hy,by omega,h.1⟩⟩
attribute [local irreducible] k0k
theorem g0j(T:Nat)(p q:Prd)(hp:PWf T p)(hq:PWf T q)(zj:∀s∈p,s.length≤1000000000)(zk:∀s∈q,s.length≤1000000000)(hT:T≤1000):PC Tryz.prog 114 [encP p,encP q] (fun r=>r= .bool (k0k p q)):=by
 refine Ql tOk Tryz.func114 rfl Tryz.results114 rfl (by simp[Tryz.ntmps114]) ?_;rw[Tryz.ntmps114];simp only[Qg];simp only[encP];have hlen:=hp.1;have zg:=hq.1;repeat first|(refine r_ ?_;simp)|refine q_ ?_
 refine Qr p.length (fun i=>∀i',i'<i→noC p q i') (fun i=>[(3,.vptr 1 0),(12,.list (p.map encL)),(13,.i p.length),(14,.i i)]) (fun _=>[.vars [.list (p.map encL)],.vars [.list (q.map encL)]]) rfl (by simp) (by simp) (by simp) (by simp) (by simp) ?_;intro i hi hI ih;repeat first|(refine r_ ?_;simp)|refine q_ ?_
 refine Qb rfl (fun zl=> ?_) (fun zm=> ?_)
 ·have z1:i<p.length:=by simpa using zl
  have z6:i<q.length:=by omega
  have hw:IntKind.i64.wrap ((i:Int)+1)=i+1:=wrap_i64 _ (by omega) (by omega);have zx:=zj _ (zK z1);have zy:=zk _ (zK z6);repeat first|(refine r_ ?_;simp[z1])|refine q_ ?_
  refine Qr p[i].length (fun u=>∀u',u'<u→∀h:u'<p[i].length,∀y∈q[i],ovl p[i][u'] y=false) (fun u=>[(3,.vptr 1 0),(5,.i i),(12,.list (p.map encL)),(13,.i p.length),(14,.i i),(19,LIv p[i]),(20,.i p[i].length),(21,.i u)]) (fun _=>[.vars [.list (p.map encL)],.vars [.list (q.map encL)]]) rfl (by simp) (by simp) (by simp) (by simp) (by simp) ?_;intro u hu zh zn;repeat first|(refine r_ ?_;simp)|refine q_ ?_
  refine Qb rfl (fun z7=> ?_) (fun z8=> ?_)
  ·have za:u<p[i].length:=by simpa using z7
   have zo:IntKind.i64.wrap ((u:Int)+1)=u+1:=wrap_i64 _ (by omega) (by omega);repeat first|(refine r_ ?_;simp[za,z6])|refine q_ ?_
   refine Qr q[i].length (fun v=>∀v',v'<v→∀h:v'<q[i].length,ovl p[i][u] q[i][v']=false) (fun v=>[(3,.vptr 1 0),(5,.i i),(8,.vptr 2 0),(12,.list (p.map encL)),(13,.i p.length),(14,.i i),(19,LIv p[i]),(20,.i p[i].length),(21,.i u),(29,LIv q[i]),(30,.i q[i].length),(31,.i v)]) (fun _=>[.vars [.list (p.map encL)],.vars [.list (q.map encL)],.vars [.i p[i][u].lo,.i p[i][u].hi]]) rfl (by simp) (by simp) (by simp) (by simp) (by simp) ?_;intro v hv zi zp;repeat first|(refine r_ ?_;simp)|refine q_ ?_
   refine Qb rfl (fun zb=> ?_) (fun zc=> ?_)
   ·have zd:v<q[i].length:=by simpa using zb
    have zq:IntKind.i64.wrap ((v:Int)+1)=v+1:=wrap_i64 _ (by omega) (by omega);repeat first|(refine r_ ?_;simp[zd])|refine q_ ?_
    refine Qb rfl (fun h=> ?_) (fun h=> ?_)
    ·repeat first|(refine r_ ?_;simp)|refine q_ ?_
     rw[v1j hp hq z1 z6 (zK za) (zK zd) (by simpa[ovl]using h)]
    ·repeat first|(refine r_ ?_;simp[zq])|refine q_ ?_
     refine Qq _ (zp zd (fun v' ze zr=> ?_)) rfl (by simp) ?_ (by simp) (by simp)
     ·by_cases e:v'=v
      ·subst e;simpa[ovl]using h
      ·exact zi v' (by omega) zr
     ·simp
   ·have zt:v=q[i].length:=by simp at zc;omega
    subst zt;repeat first|(refine r_ ?_;simp[zo])|refine q_ ?_
    refine Qq _ (zn za (fun u' zf zu y hy=> ?_)) rfl (by simp) ?_ (by simp) (by simp)
    ·by_cases e:u'=u
     ·subst e;obtain⟨v',ze,rfl⟩:=y_ hy;exact zi v' ze ze
     ·exact zh u' (by omega) zu y hy
    ·simp
  ·have zv:u=p[i].length:=by simp at z8;omega
   subst zv;repeat first|(refine r_ ?_;simp[hw])|refine q_ ?_
   refine Qq _ (ih z1 (fun i' zz=> ?_)) rfl (by simp) ?_ (by simp) (by simp)
   ·by_cases e:i'=i
    ·subst e;intro x hx y hy;rw[Wo z1]at hx;rw[Wo z6]at hy;obtain⟨u',zf,rfl⟩:=y_ hx;exact zh u' zf zf y hy
    ·exact hI i' (by omega)
   ·simp
 ·have zw:i=p.length:=by simp at zm;omega
  subst zw;repeat first|(refine r_ ?_;simp)|refine q_ ?_
  rw[j06 hp hq hI]
attribute [local irreducible] k0j
theorem q2g(a:Aut):PC Tryz.prog 49 [encA a] (fun r=>r= .tup [.bool (w12 a).1,.i (w12 a).2]):=by
 refine Ql tOk Tryz.func49 rfl Tryz.results49 rfl (by simp[Tryz.ntmps49]) ?_;rw[Tryz.ntmps49];simp only[Qg];simp only[encA];repeat first|(refine r_ ?_;simp)|refine q_ ?_
 refine Qf rfl rfl (by simp) (Is a) rfl ?_;rintro _ rfl;simp;repeat first|(refine r_ ?_;simp)|refine q_ ?_
 refine Qb rfl (fun h=> ?_) (fun h=> ?_)
 ·repeat first|(refine r_ ?_;simp)|refine q_ ?_
  rw[w12,if_neg (by simpa using h)];exact⟨rfl,rfl⟩
 have h0:Wq a=0:=by simpa using h
 have z8:=(O5 a).1 h0;have zt:=z8.mvs;rw[w12,if_pos h0];repeat first|(refine r_ ?_;simp)|refine q_ ?_
 refine Qr a.mv.length (fun j=>∀i,i<j→∀k,k<i→k0j a i k=false) (fun j=>[(1,.vptr 0 0),(15,.list (a.mv.map encMv)),(16,.i a.mv.length),(17,.i j)]) (fun _=>[.vars (Qu a)]) rfl (by simp) (by simp) (by simp) (by simp) (by simp) ?_;intro j hj hI ih;repeat first|(refine r_ ?_;simp)|refine q_ ?_
 refine Qb rfl (fun zq=> ?_) (fun zr=> ?_)
 ·have z1:j<a.mv.length:=by simpa using zq
  have hw:IntKind.i64.wrap ((j:Int)+1)=j+1:=wrap_i64 _ (by omega) (by omega);have ze:j≤a.mv.length:=hj;have z7:min j a.mv.length=j:=by omega
  repeat first|(refine r_ ?_;simp[z1,ze,z7])|refine q_ ?_
  refine Qr j (fun k=>∀k',k'<k→k0j a j k'=false) (fun k=>[(1,.vptr 0 0),(6,.vptr 1 0),(15,.list (a.mv.map encMv)),(16,.i a.mv.length),(17,.i j),(25,.list (v_ j (a.mv.map encMv))),(26,.i j),(27,.i k)]) (fun _=>[.vars (Qu a),.vars [.i a.mv[j].src,.i a.mv[j].dst,.list (a.mv[j].on.map encL)]]) rfl (by simp) (by simp) (by simp) (by simp) (by simp) ?_;intro k hk zj zk;repeat first|(refine r_ ?_;simp)|refine q_ ?_
  refine Qb rfl (fun zf=> ?_) (fun zg=> ?_)
  ·have za:k<j:=by simpa using zf
   have zb:k<a.mv.length:=by omega
   have zl:IntKind.i64.wrap ((k:Int)+1)=k+1:=wrap_i64 _ (by omega) (by omega);have z6:=z13 (a:=a) z1 zb;have zm:k0j a j k=false→∀k',k'<k+1→k0j a j k'=false:=fun hb k' zh=>by
    by_cases e:k'=k
    ·rw[e];exact hb
    ·exact zj k' (by omega)
   have zn:(v_ j (a.mv.map encMv))[k]? =some (encMv a.mv[k]):=by rw[List.getElem?_take_of_lt za];simp[zb]
   by_cases he:a.mv[j].src=a.mv[k].src
   ·rw[decide_eq_true he,vW]at z6;have zc:(a.mv[j].src==a.mv[k].src)=true:=by simpa using he
    repeat first|(refine r_ ?_;simp[zn,za,zb,z7,zc])|refine q_ ?_
    have zo:=zK z1;have zp:=zK zb;refine Qf rfl rfl (by simp) (g0j a.types.toNat a.mv[j].on a.mv[k].on (z8.mv _ zo).on.wf (z8.mv _ zp).on.wf (fun s hs=>by have:=A2 z8 zo s hs;omega) (fun s hs=>by have:=A2 z8 zp s hs;omega) (by have:=z8.types;omega)) rfl ?_;rintro _ rfl;simp;repeat first|(refine r_ ?_;simp)|refine q_ ?_
    refine Qb rfl (fun h3=> ?_) (fun h3=> ?_)
    ·repeat first|(refine r_ ?_;simp)|refine q_ ?_
     rw[k0v z1 za (by rw[z6];simpa using h3)]
    ·repeat first|(refine r_ ?_;simp[zl])|refine q_ ?_
     refine Qq _ (zk za (zm (by rw[z6];simpa using h3))) rfl (by simp) ?_ (by simp) (by simp);simp
   ·rw[decide_eq_false he,uD]at z6;have zc:(a.mv[j].src==a.mv[k].src)=false:=beq_eq_false_iff_ne.2 he;repeat first|(refine r_ ?_;simp[zn,za,zb,z7,zc])|refine q_ ?_
    refine Q6 rfl rfl ?_;simp[zc];repeat first|(refine r_ ?_;simp[zc])|refine q_ ?_
    refine Qk rfl ?_;repeat first|(refine r_ ?_;simp[zl])|refine q_ ?_
    refine Qq _ (zk za (zm z6)) rfl (by simp) ?_ (by simp) (by simp);simp
  ·have zd:k=j:=by simp at zg;omega
   subst zd;repeat first|(refine r_ ?_;simp[hw])|refine q_ ?_
   refine Qq _ (ih z1 (fun i hi k' zh=> ?_)) rfl (by simp) ?_ (by simp) (by simp)
   ·by_cases e:i=k
    ·subst e;exact zj k' zh
    ·exact hI i (by omega) k' zh
   ·simp
 ·have zi:j=a.mv.length:=by simp at zr;omega
  subst zi;repeat first|(refine r_ ?_;simp)|refine q_ ?_
  rw[x14 hI]
end Go.Abs
namespace Go.Abs
open Go Go.Proofs
abbrev LI (l:List Int):AV:= .list (l.map (AV.int .i64))
def Db{α:Type}(f:α→Bool)(l:List α):Int:=match l.findIdx? f with|some i=>i|none=> -1
theorem Uw{α:Type}{f:α→Bool}{l:List α}{j:Nat}(hj:j<l.length)(h:f l[j]=true)(hb:∀i,∀hi:i<l.length,i<j→f l[i]=false):Db f l=j:=by unfold Db;rw[xA.2 ⟨hj,h,fun i hi=>by rw[hb i (by omega) hi];simp⟩]
theorem Tt{α:Type}{f:α→Bool}{l:List α}(hb:∀i,∀hi:i<l.length,i<l.length→f l[i]=false):Db f l= -1:=by unfold Db;rw[wL.2 (fun x hx=>by obtain⟨i,hi,rfl⟩:=y_ hx;exact hb i hi hi)]
theorem z0x{α:Type}(f:α→Bool)(l:List α):decide (0≤Db f l)=l.any f:=by
 unfold Db;cases h:l.findIdx? f with
 |none=>
  rw[wL]at h;have:l.any f=false:=by rw[List.any_eq_false];intro x hx;rw[h x hx];simp
  rw[this];rfl
 |some i=>obtain⟨h1,h2,_⟩:=xA.1 h;have:l.any f=true:=wN.2 ⟨_,zK h1,h2⟩;rw[this];simp
theorem z0b(l:List Int)(v:Int):PC Tryz.prog 137 [LI l,.i v] (fun r=>r= .i (Db (fun y=>v==y) l)):=by
 refine Ql tOk Tryz.func137 rfl Tryz.results137 rfl (by simp[Tryz.ntmps137]) ?_;rw[Tryz.ntmps137];simp only[Qg];refine Ry 0 rfl (fun hlen=> ?_);rw[zZ]at hlen;repeat first|(refine r_ ?_;simp)|refine q_ ?_
 refine Qr l.length (fun j=>∀i,∀hi:i<l.length,i<j→(v==l[i])=false) (fun j=>[(0,LI l),(1,.i v),(7,.i l.length),(8,.i j)]) (fun _=>[]) rfl (by simp) (by simp) (by simp) (by simp) (by simp) ?_;intro j hj hI ih;repeat first|(refine r_ ?_;simp)|refine q_ ?_
 refine Qb rfl (fun z7=> ?_) (fun z8=> ?_)
 ·have z1:j<l.length:=by simpa using z7
  have hw:IntKind.i64.wrap ((j:Int)+1)=j+1:=wrap_i64 _ (by omega) (by omega);repeat first|(refine r_ ?_;simp[z1])|refine q_ ?_
  refine Qb rfl (fun h=> ?_) (fun h=> ?_)
  ·repeat first|(refine r_ ?_;simp)|refine q_ ?_
   rw[Uw (f:=fun y=>v==y) z1 h hI]
  ·repeat first|(refine r_ ?_;simp[hw])|refine q_ ?_
   refine Qq _ (ih z1 (fun i hi za=> ?_)) rfl (by simp) ?_ (by simp) (by simp)
   ·by_cases e:i=j
    ·subst e;exact h
    ·exact hI i hi (by omega)
   ·simp
 ·have z6:j=l.length:=by simp at z8;omega
  subst z6;repeat first|(refine r_ ?_;simp)|refine q_ ?_
  rw[Tt (f:=fun y=>v==y) hI]
theorem D0(l:List Int)(v:Int):PC Tryz.prog 174 [LI l,.i v] (fun r=>r= .bool (l.contains v)):=by
 refine Ql tOk Tryz.func174 rfl Tryz.results174 rfl (by simp[Tryz.ntmps174]) ?_;rw[Tryz.ntmps174];simp only[Qg];repeat first|(refine r_ ?_;simp)|refine q_ ?_
 refine Qf rfl rfl (by simp) (z0b l v) rfl ?_;rintro _ rfl;simp;repeat first|(refine r_ ?_;simp)|refine q_ ?_
 have:=z0x (fun y=>v==y) l;rw[xU]at this;simpa using this
structure SL (K G:List AObj) (p e sz:Nat) (xs:List AV):Prop where
 arr:G[p]? =some (.arr e sz xs)
 ge:K.length≤p
 keep:∀j,j<K.length→G[j]? =K[j]?
theorem SL.kp{K G:List AObj}{p e sz:Nat}{xs:List AV}(h:SL K G p e sz xs){j:Nat}{x:AObj}(hx:K[j]? =some x):G[j]? =some x:=by rw[h.keep j (zE.1 hx).1];exact hx
theorem SL.start(K:List AObj)(e sz:Nat):SL K (K++[AObj.arr e sz []]) K.length e sz []:=
 ⟨by simp,zQ _,fun j hj=>zF hj⟩
theorem SL.add{K G:List AObj}{p e sz:Nat}{xs:List AV}(h:SL K G p e sz xs)(L:List AObj):SL K (G++L) p e sz xs:=
 ⟨by rw[zF (zE.1 h.arr).1];exact h.arr,h.ge,fun j hj=>by
  rw[zF (by have:=(zE.1 h.arr).1;have:=h.ge;omega)];exact h.keep j hj⟩
theorem SL.put{K G:List AObj}{p e sz:Nat}{xs:List AV}(h:SL K G p e sz xs)(L:List AObj)(ys:List AV){n:Nat}(hn:n=G.length+L.length):SL K (G.set p .dead++(L++[AObj.arr e sz ys])) n e sz ys:=by have hp:=(zE.1 h.arr).1;have z1:=h.ge;subst hn;refine⟨by rw[zH (by simp),zH (by simp)];simp,by omega,fun j hj=> ?_⟩;rw[zF (by simp;omega),zB (by omega)];exact h.keep j hj
theorem SL.at{K G:List AObj}{p e sz:Nat}{xs:List AV}(h:SL K G p e sz xs){j:Nat}{x:AObj}(hx:K[j]? =some x)(L:List AObj):(G.set p .dead++L)[j]? =some x:=by have hj:=(zE.1 hx).1;have hp:=(zE.1 h.arr).1;have z1:=h.ge;rw[zF (by simp;omega),zB (by omega),h.keep j hj];exact hx
theorem SL.at'{K G:List AObj}{p e sz:Nat}{xs:List AV}(h:SL K G p e sz xs){j:Nat}{x:AObj}(hx:K[j]? =some x)(L:List AObj):(G++L)[j]? =some x:=(h.add L).kp hx
def z1e(l:List Int)(x:Sy)(m:Mv):Bool:=l.contains m.src && T0 m.on x
def Ck(l:List Int)(x:Sy)(ms:List Mv):List Int:=(ms.filter (z1e l x)).map (·.dst)
theorem d04(l:List Int)(x:Sy)(ms:List Mv)(j:Nat)(h:j<ms.length):Ck l x (ms.take (j+1))=Ck l x (ms.take j)++(if z1e l x ms[j]then [ms[j].dst]else []):=by unfold Ck;rw[zP h,wY,yF];cases h:z1e l x ms[j]<;>simp[h]
theorem q02(l:List Int)(x:Sy)(ms:List Mv):(Ck l x ms).length≤ms.length:=by unfold Ck;rw[zZ];exact xM _ _
theorem y16(a:Aut)(l:List Int)(x:Sy):Lib.compact (Rw (Ck l x a.mv))=f1s a l x:=rfl
theorem v1q(l:List Int)(x:Sy):Ck l x []=[]:=rfl
attribute [local irreducible] Ck v07 Rw Lib.compact
theorem Ba(a:Aut)(ha:OkA a)(l:List Int)(x:Sy)(hx:Ru a x):PC Tryz.prog 122 [encA a,LI l,encSy x] (fun r=>r=LI (Wb a l x)):=by
 refine Ql tOk Tryz.func122 rfl Tryz.results122 rfl (by simp[Tryz.ntmps122]) ?_;rw[Tryz.ntmps122];simp only[Qg];simp only[encA,encSy];have zi:=ha.mvs;have hF:∀m∈a.mv,v07 m.on x=(T0 m.on x,0):=fun m hm=>by rw[d1g ((Ek a.types m.on).2 ⟨ha.types,(ha.mv m hm).on⟩),if_neg (fun k=>k ((w1q _ _).2 hx))]
 repeat first|(refine r_ ?_;simp)|refine q_ ?_
 refine Q3 7 3 1 rfl ?_;simp;refine Qp (Qc (sl':=[(1,LI l),(3,.vptr 0 0),(5,.vptr 1 0),(7,.sl 2 1 0 (Ck l x (a.mv.take 0)).length),(11,.list (a.mv.map encMv)),(12,.i a.mv.length),(13,.i 0)]) ?_ (by simp[Ck]));obtain⟨K,hK⟩:∃K,K=[AObj.vars (Qu a),AObj.vars [AV.i x.ty,AV.i x.num]]:=⟨_,rfl⟩
 have z8:K[1]? =some (AObj.vars [AV.i x.ty,AV.i x.num]):=by rw[hK];rfl
 have za:=SL.start K 3 1;refine Qo (F:=fun(u:Nat×Nat×List AObj)=>⟨[(1,LI l),(3,.vptr 0 0),(5,.vptr 1 0),(7,.sl u.2.1 1 0 (Ck l x (a.mv.take u.1)).length),(11,.list (a.mv.map encMv)),(12,.i a.mv.length),(13,.i u.1)],u.2.2⟩)
  (fun u=>u.1≤a.mv.length∧SL K u.2.2 u.2.1 3 1 ((Ck l x (a.mv.take u.1)).map (AV.int .i64))) (fun u=>a.mv.length - u.1) ?_ (0,2,_) ⟨by simp,by rw[ww,v1q];rw[hK]at za ⊢;exact za⟩
 rintro⟨j,q,H2⟩ ⟨hj,g⟩ ih;simp only at hj g ih ⊢;have g1:=g.kp z8;repeat first|(refine r_ ?_;simp)|refine q_ ?_
 refine Qb rfl (fun zc=> ?_) (fun zd=> ?_)
 ·have z1:j<a.mv.length:=by simpa using zc
  have hw:IntKind.i64.wrap ((j:Int)+1)=j+1:=wrap_i64 _ (by omega) (by omega);have ze:=d04 l x a.mv j z1;have zb:=q02 l x (a.mv.take j);rw[List.length_take]at zb;have zf:=hF _ (zK z1);have z6:=fun q' H'=>ih (j+1,q',H');simp only[ze]at z6;generalize Ck l x (a.mv.take j)=acc at *
  have gL:=fun L=>g.at' z8 L;repeat first|(refine r_ ?_;simp[z1])|refine q_ ?_
  by_cases hb:a.mv[j].src∈l
  ·have zg:l.contains a.mv[j].src=true:=by simpa using hb
   refine Qf rfl rfl (by simp) (D0 l a.mv[j].src) rfl ?_;rintro _ rfl;simp[hb,gL];repeat first|(refine r_ ?_;simp[gL])|refine q_ ?_
   refine Qf rfl rfl (by simp) (k1i a.mv[j].on x) rfl ?_;rintro _ rfl;simp[zf];repeat first|(refine r_ ?_;simp)|refine q_ ?_
   cases hb2:T0 a.mv[j].on x with
   |false=>
    have hh:z1e l x a.mv[j]=false:=by rw[z1e,hb2];simp
    refine Qk rfl ?_;simp[hb2];repeat first|(refine r_ ?_;simp[hw])|refine q_ ?_
    refine Qc (sl':=[(1,LI l),(3,.vptr 0 0),(5,.vptr 1 0),(7,.sl q 1 0 acc.length),(11,.list (a.mv.map encMv)),(12,.i a.mv.length),(13,.i (j+1:Nat))]) ?_ (by simp);have:=z6 q _ ⟨by omega,by rw[hh];simpa using g.add [AObj.vars [AV.i a.mv[j].src,AV.i a.mv[j].dst,AV.list (a.mv[j].on.map encL)]]⟩ (by omega);rw[hh]at this;simpa using this
   |true=>
    have hh:z1e l x a.mv[j]=true:=by rw[z1e,zg,hb2];rfl
    refine Qk rfl ?_;simp[hb2];repeat first|(refine r_ ?_;simp)|refine q_ ?_
    refine Qe tOk rfl rfl T40 rfl T3 rfl (by decide) (by decide) rfl rfl rfl ?_;simp[Qa g.arr,Qi g.arr];refine⟨by simp[Wa,Qa g.arr,Qi g.arr]<;>omega,?_⟩;repeat first|(refine r_ ?_;simp[hw])|refine q_ ?_
    refine Qc (sl':=[(1,LI l),(3,.vptr 0 0),(5,.vptr 1 0),(7,.sl (H2.length+2) 1 0 (acc.length+1)),(11,.list (a.mv.map encMv)),(12,.i a.mv.length),(13,.i (j+1:Nat))]) ?_ (by simp);have:=z6 (H2.length+2) _ ⟨by omega,by rw[hh];exact g.put [AObj.vars [AV.i a.mv[j].src,AV.i a.mv[j].dst,AV.list (a.mv[j].on.map encL)],AObj.arr 3 1 [AV.i a.mv[j].dst]] _ rfl⟩ (by omega);rw[hh]at this;simpa using this
  ·have hh:z1e l x a.mv[j]=false:=by simp[z1e,hb]
   refine Qf rfl rfl (by simp) (D0 l a.mv[j].src) rfl ?_;rintro _ rfl;simp[hb,gL];refine Q6 rfl rfl ?_;simp[hb];refine Qk rfl ?_;repeat first|(refine r_ ?_;simp[hw])|refine q_ ?_
   refine Qc (sl':=[(1,LI l),(3,.vptr 0 0),(5,.vptr 1 0),(7,.sl q 1 0 acc.length),(11,.list (a.mv.map encMv)),(12,.i a.mv.length),(13,.i (j+1:Nat))]) ?_ (by simp);have:=z6 q _ ⟨by omega,by rw[hh];simpa using g.add [AObj.vars [AV.i a.mv[j].src,AV.i a.mv[j].dst,AV.list (a.mv[j].on.map encL)]]⟩ (by omega);rw[hh]at this;simpa using this
 ·have z7:j=a.mv.length:=by simp at zd;omega
  subst z7;rw[yP]at g ⊢;have zb:=q02 l x a.mv;repeat first|(refine r_ ?_;simp)|refine q_ ?_
  refine Q9 rfl rfl (Lt H2 q (Ck l x a.mv) g.arr (by omega)) rfl ?_;rintro r H' ⟨rfl,rfl⟩;simp;repeat first|(refine r_ ?_;simp)|refine q_ ?_
  have g2:=Qj g.arr (.arr 3 1 ((Rw (Ck l x a.mv)).map (AV.int .i64)));have zh:=I8 (Ck l x a.mv);rw[←zh];refine Q9 rfl rfl (P5 _ q (Rw (Ck l x a.mv)) g2 (by omega) (Uv _)) rfl ?_;rintro r H' ⟨rfl,G,rfl⟩;simp;have g3:=Qj g.arr (.arr 3 1 ((Lib.compact (Rw (Ck l x a.mv))++G).map (AV.int .i64)));rw[y16,g1h (fun m hm=>(ha.mv m hm).dst)]at *
  repeat first|(refine r_ ?_;simp)|refine q_ ?_
  rw[yF]at g3;simp[g3]
end Go.Abs
namespace Go.Abs
open Go Go.Proofs
theorem f0s(H:List AObj)(l:List Int)(g:Nat)(cap:AV)(f:Int→Bool)(hl:l.length≤1000000000)(hg:∀z∈l,FC Tryz.prog g [.i z,cap] H (fun r H'=>r= .bool (f z)∧H'=H)):
  FC Tryz.prog 119 [LI l,.fn (.func g) [] [cap]] H (fun r H'=>r= .i (Db f l)∧H'=H):=by
 refine Ea tOk Tryz.func119 rfl Tryz.results119 rfl (by simp[Tryz.ntmps119]) ?_;rw[Tryz.ntmps119];simp only[Qg];repeat first|(refine r_ ?_;simp)|refine q_ ?_
 refine Qp (Qc (sl':=[(0,LI l),(1,.fn (.func g) [] [cap]),(7,.i l.length),(8,.i 0)]) ?_ (by simp));refine Qo (F:=fun(j:Nat)=>⟨[(0,LI l),(1,.fn (.func g) [] [cap]),(7,.i l.length),(8,.i j)],H⟩)
  (fun j=>j≤l.length∧∀i,∀hi:i<l.length,i<j→f l[i]=false) (fun j=>l.length - j) ?_ 0 ⟨by simp,by simp⟩
 rintro j ⟨hj,hI⟩ ih;repeat first|(refine r_ ?_;simp)|refine q_ ?_
 refine Qb rfl (fun z7=> ?_) (fun z8=> ?_)
 ·have z1:j<l.length:=by simpa using z7
  have hw:IntKind.i64.wrap ((j:Int)+1)=j+1:=wrap_i64 _ (by omega) (by omega);repeat first|(refine r_ ?_;simp[z1])|refine q_ ?_
  refine Q9 rfl rfl (hg _ (zK z1)) rfl ?_;rintro r H' ⟨rfl,rfl⟩;simp;repeat first|(refine r_ ?_;simp)|refine q_ ?_
  refine Qb rfl (fun h=> ?_) (fun h=> ?_)
  ·repeat first|(refine r_ ?_;simp)|refine q_ ?_
   rw[Uw z1 h hI]
  ·repeat first|(refine r_ ?_;simp[hw])|refine q_ ?_
   refine Qc (sl':=[(0,LI l),(1,.fn (.func g) [] [cap]),(7,.i l.length),(8,.i (j+1:Nat))]) (ih (j+1) ⟨by omega,fun i hi za=> ?_⟩ (by omega)) (by simp);by_cases e:i=j
   ·subst e;exact h
   ·exact hI i hi (by omega)
 ·have z6:j=l.length:=by simp at z8;omega
  subst z6;repeat first|(refine r_ ?_;simp)|refine q_ ?_
  rw[Tt hI]
theorem Vz(H:List AObj)(l:List Int)(g:Nat)(cap:AV)(f:Int→Bool)(hl:l.length≤1000000000)(hg:∀z∈l,FC Tryz.prog g [.i z,cap] H (fun r H'=>r= .bool (f z)∧H'=H)):
  FC Tryz.prog 54 [LI l,.fn (.func g) [] [cap]] H (fun r H'=>r= .bool (l.any f)∧H'=H):=by
 refine Ea tOk Tryz.func54 rfl Tryz.results54 rfl (by simp[Tryz.ntmps54]) ?_;rw[Tryz.ntmps54];simp only[Qg];repeat first|(refine r_ ?_;simp)|refine q_ ?_
 refine Q9 rfl rfl (f0s H l g cap f hl hg) rfl ?_;rintro r H' ⟨rfl,rfl⟩;simp;repeat first|(refine r_ ?_;simp)|refine q_ ?_
 rw[←z0x]
def x2x(a:Aut)(s:Int):Bool:=decide (s<0) || decide ((a.fin.length:Int)≤s)
attribute [local irreducible] x2x
end Go.Abs
namespace Go.Abs
open Go Go.Proofs
attribute [simp] T4
def Y0(n:Nat)(f:Int→Bool):List AV:=(En n).map fun z=>AV.bool (f z)
theorem Yb(n:Nat)(f:Int→Bool):(Y0 n f).length=n:=by simp[Y0,En]
theorem Gt(n:Nat)(f:Int→Bool){i:Nat}(h:i<n):(Y0 n f)[i]? =some (AV.bool (f i)):=by simp[Y0,En,h]
theorem F6(n:Nat)(f:Int→Bool){i:Nat}(h:i<(Y0 n f).length):(Y0 n f)[i]=AV.bool (f i):=by have h2:=Gt n f (i:=i) (by rw[Yb]at h;exact h);rw[zI h]at h2;exact Option.some.inj h2
theorem y0u(n:Nat):yH n (AV.bool false)=Y0 n (fun _=>false):=by
 refine xO fun i=> ?_;by_cases h:i<n
 ·rw[Gt n _ h];simp[h]
 ·rw[yZ (by simp;omega),yZ (by rw[Yb];omega)]
theorem f0e(n:Nat)(f:Int→Bool)(s:Int)(h0:0≤s)(h1:s<n):(Y0 n f).set s.toNat (AV.bool true)=Y0 n (fun z=>f z || z==s):=by
 refine xO fun i=> ?_;by_cases h:i<n
 ·rw[Gt n _ h];by_cases e:s.toNat=i
  ·rw[e,zL (by rw[Yb];exact h)];have:((i:Int)==s)=true:=by simp;omega
   rw[this,Bool.or_true]
  ·rw[zB e,Gt n _ h];have:((i:Int)==s)=false:=beq_eq_false_iff_ne.2 (by omega);rw[this,Bool.or_false]
 ·rw[yZ (by simp[Yb];omega),yZ (by rw[Yb];omega)]
theorem A0(n:Nat){f g:Int→Bool}(h:∀z,f z=g z):Y0 n f=Y0 n g:=by rw[show f=g from funext h]
attribute [local irreducible] Y0
theorem d0v(a:Aut)(ha:OkA a)(l:List Int)(hl:∀s∈l,0≤s∧s<a.fin.length)(zf:l.length≤1000000):PC Tryz.prog 66 [encA a,LI l] (fun r=>r= .list (Y0 a.fin.length fun z=>decide (z∈l))):=by
 refine Ql tOk Tryz.func66 rfl Tryz.results66 rfl (by simp[Tryz.ntmps66]) ?_;rw[Tryz.ntmps66];simp only[Qg];simp only[encA];have hf:=ha.fin;repeat first|(refine r_ ?_;simp)|refine q_ ?_
 refine Ec tOk rfl rfl rfl T22 rfl T4 rfl rfl rfl (n:=a.fin.length) (by simp;omega) (by unfold maxLen;omega) (.bool false) rfl ?_;simp;rw[y0u];repeat first|(refine r_ ?_;simp)|refine q_ ?_
 refine Qp (Qc (sl':=[(1,LI l),(5,.sl 1 1 0 a.fin.length),(6,.i 0)]) ?_ (by simp));refine Qo (F:=fun(j:Nat)=>⟨[(1,LI l),(5,.sl 1 1 0 a.fin.length),(6,.i j)],[.vars (Qu a),.arr 4 1 (Y0 a.fin.length fun z=>decide (z∈l.take j))]⟩)
  (fun j=>j≤l.length) (fun j=>l.length - j) ?_ 0 (by simp)
 rintro j hj ih;repeat first|(refine r_ ?_;simp)|refine q_ ?_
 refine Qb rfl (fun zb=> ?_) (fun zc=> ?_)
 ·have z1:j<l.length:=by simpa using zb
  have hw:IntKind.i64.wrap ((j:Int)+1)=j+1:=wrap_i64 _ (by omega) (by omega);obtain⟨s0,s1⟩:=hl _ (zK z1);have za:=ih (j+1) (by omega) (by omega);have z6:=f0e a.fin.length (fun z=>decide (z∈l.take j)) l[j] s0 s1;have zd:Y0 a.fin.length (fun z=>decide (z∈l.take (j+1)))=(Y0 a.fin.length fun z=>decide (z∈l.take j)).set l[j].toNat (AV.bool true):=by rw[z6];exact A0 _ fun z=>by rw[zP z1,xU];simp[-List.take_append_getElem]
  rw[zd]at za;have z7:=Yb a.fin.length (fun z=>decide (z∈l.take j));have s2:l[j].toNat<a.fin.length:=by omega
  have ze:=fun(hh:l[j].toNat<(Y0 a.fin.length (fun z=>decide (z∈l.take j))).length)=>F6 a.fin.length (fun z=>decide (z∈l.take j)) (i:=l[j].toNat) hh;generalize Y0 a.fin.length (fun z=>decide (z∈l.take j))=bs at *
  repeat first|(refine r_ ?_;simp[z1,s0,s1,s2,z7,hw,ze])|refine q_ ?_
  exact Qc (sl':=[(1,LI l),(5,.sl 1 1 0 a.fin.length),(6,.i (j+1:Nat))]) za (by simp)
 ·have z8:j=l.length:=by simp at zc;omega
  subst z8;rw[yP];have z7:=Yb a.fin.length (fun z=>decide (z∈l));generalize Y0 a.fin.length (fun z=>decide (z∈l))=bs at *
  repeat first|(refine r_ ?_;simp[z7])|refine q_ ?_
  rw[zO (by omega)]
theorem Mu(n:Nat)(f:Int→Bool):(En (n+1)).filter f=(En n).filter f++(if f n then [(n:Int)]else []):=by
 have:En (n+1)=En n++[(n:Int)]:=by simp[En,wp]
 rw[this,wY];cases h:f n<;>simp[h]
theorem u01(n:Nat)(f:Int→Bool):((En n).filter f).length≤n:=by have:=xM f (En n);simpa[En]using this
def U9(n:Nat)(f:Int→Bool):List Int:=(En n).filter f
attribute [local irreducible] U9
theorem w07(n:Nat)(f:Int→Bool)(hn:n≤1000000):PC Tryz.prog 64 [.list (Y0 n f)] (fun r=>r=LI (U9 n f)):=by
 refine Ql tOk Tryz.func64 rfl Tryz.results64 rfl (by simp[Tryz.ntmps64]) ?_;rw[Tryz.ntmps64];simp only[Qg];have z7:=Yb n f;repeat first|(refine r_ ?_;simp)|refine q_ ?_
 refine Q3 3 3 1 rfl ?_;simp;have h0:U9 0 f=[]:=by unfold U9;rfl
 refine Qp (Qc (sl':=[(0,.list (Y0 n f)),(3,.sl 0 1 0 (U9 0 f).length),(4,.i 0)]) ?_ (by simp[h0]));refine Qo (F:=fun(u:Nat×Nat×List AObj)=>⟨[(0,.list (Y0 n f)),(3,.sl u.2.1 1 0 (U9 u.1 f).length),(4,.i u.1)],u.2.2⟩)
  (fun u=>u.1≤n∧u.2.2[u.2.1]? =some (.arr 3 1 ((U9 u.1 f).map (AV.int .i64)))) (fun u=>n - u.1) ?_ (0,0,[.arr 3 1 []]) ⟨by simp,by simp[h0]⟩
 rintro⟨j,q,H2⟩ ⟨hj,g⟩ ih;simp only at hj g ih ⊢;repeat first|(refine r_ ?_;simp[z7])|refine q_ ?_
 refine Qb rfl (fun za=> ?_) (fun zb=> ?_)
 ·have z1:j<n:=by simpa[z7]using za
  have hw:IntKind.i64.wrap ((j:Int)+1)=j+1:=wrap_i64 _ (by omega) (by omega);have hg:=Gt n f z1;have zc:U9 (j+1) f=U9 j f++(if f j then [(j:Int)]else []):=by unfold U9;exact Mu j f
  have ze:(U9 j f).length≤j:=by unfold U9;exact u01 j f
  have z6:=fun q' H'=>ih (j+1,q',H');simp only[zc]at z6;generalize U9 j f=acc at *
  have zd:=fun h=>F6 n f (i:=j) h;repeat first|(refine r_ ?_;simp[z7,z1,hg,zd])|refine q_ ?_
  cases hb:f j with
  |false=>
   rw[hb]at z6;refine Qk rfl ?_;simp[hb];repeat first|(refine r_ ?_;simp[hw])|refine q_ ?_
   exact Qc (sl':=[(0,.list (Y0 n f)),(3,.sl q 1 0 acc.length),(4,.i (j+1:Nat))]) (by
    have:=z6 q H2 ⟨by omega,by simpa using g⟩ (by omega);simpa using this) (by simp)
  |true=>
   rw[hb]at z6;refine Qk rfl ?_;simp[hb];repeat first|(refine r_ ?_;simp)|refine q_ ?_
   refine Qe tOk rfl rfl T40 rfl T3 rfl (by decide) (by decide) rfl rfl rfl ?_;simp[Qa g,Qi g];refine⟨by simp[Wa,Qa g,Qi g]<;>omega,?_⟩;repeat first|(refine r_ ?_;simp[hw])|refine q_ ?_
   exact Qc (sl':=[(0,.list (Y0 n f)),(3,.sl (H2.length+1) 1 0 (acc.length+1)),(4,.i (j+1:Nat))]) (by
    have:=z6 (H2.length+1) (H2.set q .dead++[.arr 3 1 [.i j],.arr 3 1 ((acc++[(j:Int)]).map (AV.int .i64))]) ⟨by omega,by simp only;rw[zH (by simp)];simp⟩ (by omega);simpa using this) (by simp)
 ·have z8:j=n:=by simp[z7]at zb;omega
  subst z8;repeat first|(refine r_ ?_;simp[g])|refine q_ ?_
  rw[zO (by simp)]
end Go.Abs
namespace Go.Abs
open Go Go.Proofs
def nxB(ms:List Mv)(f:Int→Bool)(x:Sy)(z:Int):Bool:=ms.any fun m=>f m.src && T0 m.on x && m.dst==z
theorem w0d(ms:List Mv)(f:Int→Bool)(x:Sy)(j:Nat)(h:j<ms.length)(z:Int):nxB (ms.take (j+1)) f x z=(nxB (ms.take j) f x z || (f ms[j].src && T0 ms[j].on x && ms[j].dst==z)):=by unfold nxB;rw[zP h,List.any_append];simp
theorem u1b(a:Aut)(l:List Int)(x:Sy):nxB a.mv (fun z=>decide (z∈l)) x=z1s a l x:=by
 funext z;unfold nxB z1s
 congr 1
 funext m;rw[xU];simp
attribute [local irreducible] T0 nxB
theorem Zf(a:Aut)(ha:OkA a)(f:Int→Bool)(x:Sy):PC Tryz.prog 65 [encA a,.list (Y0 a.fin.length f),encSy x] (fun r=>r= .list (Y0 a.fin.length (nxB a.mv f x))):=by
 refine Ql tOk Tryz.func65 rfl Tryz.results65 rfl (by simp[Tryz.ntmps65]) ?_;rw[Tryz.ntmps65];simp only[Qg];simp only[encA,encSy];have hf:=ha.fin;have hm:=ha.mvs;have zb:=Yb a.fin.length f;repeat first|(refine r_ ?_;simp[zb])|refine q_ ?_
 refine Ec tOk rfl rfl rfl T22 rfl T4 rfl rfl rfl (n:=a.fin.length) (by simp;omega) (by unfold maxLen;omega) (.bool false) rfl ?_;simp;rw[y0u];repeat first|(refine r_ ?_;simp)|refine q_ ?_
 have h0:Y0 a.fin.length (fun _=>false)=Y0 a.fin.length (nxB (a.mv.take 0) f x):=A0 _ fun z=>by rw[ww];unfold nxB;rfl
 rw[h0];refine Qp (Qc (sl':=[(1,.list (Y0 a.fin.length f)),(3,.vptr 0 0),(5,.vptr 1 0),(7,.sl 2 1 0 a.fin.length),(8,.i 0)]) ?_ (by simp));refine Qo (F:=fun(u:Nat×List AObj)=>⟨[(1,.list (Y0 a.fin.length f)),(3,.vptr 0 0),(5,.vptr 1 0),(7,.sl 2 1 0 a.fin.length),(8,.i u.1)],u.2⟩)
  (fun u=>u.1≤a.mv.length∧u.2[0]? =some (.vars (Qu a))∧u.2[1]? =some (.vars [.i x.ty,.i x.num])∧u.2[2]? =some (.arr 4 1 (Y0 a.fin.length (nxB (a.mv.take u.1) f x)))) (fun u=>a.mv.length - u.1) ?_ (0,_) ⟨by simp,rfl,rfl,rfl⟩
 rintro⟨j,H2⟩ ⟨hj,g0,g1,g2⟩ ih;simp only at hj g0 g1 g2 ih ⊢;repeat first|(refine r_ ?_;simp[g0])|refine q_ ?_
 refine Qb rfl (fun zg=> ?_) (fun zh=> ?_)
 ·have z1:j<a.mv.length:=by simpa using zg
  have hw:IntKind.i64.wrap ((j:Int)+1)=j+1:=wrap_i64 _ (by omega) (by omega);have zf:=ha.mv _ (zK z1);obtain⟨s0,s1⟩:=zf.src;obtain⟨d0,d1⟩:=zf.dst;have s2:a.mv[j].src.toNat<a.fin.length:=by omega
  have d2:a.mv[j].dst.toNat<a.fin.length:=by omega
  have zc:=f0e a.fin.length (nxB (a.mv.take j) f x) a.mv[j].dst d0 d1;have zd:((a.mv[j].src.toNat:Nat):Int)=a.mv[j].src:=by omega
  have z8:=fun(hh:a.mv[j].src.toNat<(Y0 a.fin.length f).length)=>(F6 a.fin.length f (i:=a.mv[j].src.toNat) hh).trans (by rw[zd]);have zi:=fun(hh:a.mv[j].dst.toNat<(Y0 a.fin.length (nxB (a.mv.take j) f x)).length)=>F6 a.fin.length (nxB (a.mv.take j) f x) (i:=a.mv[j].dst.toNat) hh;have zj:Y0 a.fin.length (nxB (a.mv.take (j+1)) f x)=if f a.mv[j].src && T0 a.mv[j].on x then(Y0 a.fin.length (nxB (a.mv.take j) f x)).set a.mv[j].dst.toNat (AV.bool true)else Y0 a.fin.length (nxB (a.mv.take j) f x):=by
   split
   ·rename_i hc;rw[zc];exact A0 _ fun z=>by rw[w0d _ _ _ _ z1,hc,vW];rw[show(a.mv[j].dst==z)=(z==a.mv[j].dst) from xU.2 (by simp only[beq_iff_eq];exact eq_comm)]
   ·rename_i hc;exact A0 _ fun z=>by rw[w0d _ _ _ _ z1,show(f a.mv[j].src && T0 a.mv[j].on x)=false by simpa using hc];simp
  have z6:=fun G'=>ih (j+1,G');simp only[zj]at z6;have z7:=Yb a.fin.length (nxB (a.mv.take j) f x);generalize Y0 a.fin.length (nxB (a.mv.take j) f x)=bs at *
  have gL1:=fun L=>Qa g1 L;have gL2:=fun L=>Qa g2 L;have gL0:=fun L=>Qa g0 L;cases hb:f a.mv[j].src with
  |false=>
   rw[hb]at z8;repeat first|(refine r_ ?_;simp[g0,z1,s0,s1,s2,zb,z8,gL1])|refine q_ ?_
   refine Q6 rfl rfl ?_;simp;refine Qk rfl ?_;repeat first|(refine r_ ?_;simp[hw])|refine q_ ?_
   rw[hb,uD,if_neg (by simp)]at z6;exact Qc (sl':=[(1,.list (Y0 a.fin.length f)),(3,.vptr 0 0),(5,.vptr 1 0),(7,.sl 2 1 0 a.fin.length),(8,.i (j+1:Nat))]) (z6 _ ⟨by omega,gL0 _,gL1 _,gL2 _⟩ (by omega)) (by simp)
  |true=>
   rw[hb]at z8;repeat first|(refine r_ ?_;simp[g0,z1,s0,s1,s2,zb,z8,gL1])|refine q_ ?_
   refine Qf rfl rfl (by simp) (w0s a.mv[j].on x (fun s hs=>by have:=A2 ha (zK z1) s hs;omega)) rfl ?_;rintro _ rfl;simp;cases za:T0 a.mv[j].on x with
   |false=>
    rw[hb,za,vW,if_neg (by simp)]at z6;repeat first|(refine r_ ?_;simp[za])|refine q_ ?_
    refine Qk rfl ?_;repeat first|(refine r_ ?_;simp[hw])|refine q_ ?_
    exact Qc (sl':=[(1,.list (Y0 a.fin.length f)),(3,.vptr 0 0),(5,.vptr 1 0),(7,.sl 2 1 0 a.fin.length),(8,.i (j+1:Nat))]) (z6 _ ⟨by omega,gL0 _,gL1 _,gL2 _⟩ (by omega)) (by simp)
   |true=>
    rw[hb,za,vW,if_pos rfl]at z6;repeat first|(refine r_ ?_;simp[za])|refine q_ ?_
    refine Qk rfl ?_;repeat first|(refine r_ ?_;simp[gL1,gL2,d0,d1,d2,z7,zi,hw])|refine q_ ?_
    exact Qc (sl':=[(1,.list (Y0 a.fin.length f)),(3,.vptr 0 0),(5,.vptr 1 0),(7,.sl 2 1 0 a.fin.length),(8,.i (j+1:Nat))]) (z6 _ ⟨by omega,Qd (by decide) (gL0 _) _,Qd (by decide) (gL1 _) _,Qj (gL2 _) _⟩ (by omega)) (by simp)
 ·have ze:j=a.mv.length:=by simp at zh;omega
  subst ze;rw[yP]at g2;have z7:=Yb a.fin.length (nxB a.mv f x);repeat first|(refine r_ ?_;simp[g2,z7])|refine q_ ?_
  rw[zO (by omega)]
end Go.Abs
namespace Go.Abs
open Go Go.Proofs
theorem Vh(a:Aut)(l:List Int)(x:Sy):U9 a.fin.length (nxB a.mv (fun z=>decide (z∈l)) x)=Wb a l x:=by rw[u1b];unfold U9 Wb;rfl
attribute [local irreducible] nxB U9 Va
attribute [local irreducible] Ej
theorem G4(a:Aut)(hl:a.mv.length≤1000000):PC Tryz.prog 118 [encA a] (fun r=>r=LP (onA a)):=by
 refine Ql tOk Tryz.func118 rfl Tryz.results118 rfl (by simp[Tryz.ntmps118]) ?_;rw[Tryz.ntmps118];simp only[Qg];simp only[encA];repeat first|(refine r_ ?_;simp)|refine q_ ?_
 refine Q3 3 76 1 rfl ?_;simp;refine Qp (Qc (sl':=[(1,.vptr 0 0),(3,.sl 1 1 0 0),(4,.i 0)]) ?_ (by simp));obtain⟨K,hK⟩:∃K,K=[AObj.vars (Qu a)]:=⟨_,rfl⟩
 have za:K[0]? =some (AObj.vars (Qu a)):=by rw[hK];rfl
 have zb:=SL.start K 76 1;refine Qo (F:=fun(u:Nat×Nat×List AObj)=>⟨[(1,.vptr 0 0),(3,.sl u.2.1 1 0 u.1),(4,.i u.1)],u.2.2⟩)
  (fun u=>u.1≤a.mv.length∧SL K u.2.2 u.2.1 76 1 ((onA { a with mv:=a.mv.take u.1 }).map encP)) (fun u=>a.mv.length - u.1) ?_ (0,1,_) ⟨by simp,by rw[hK]at zb ⊢;exact zb⟩
 rintro⟨j,q,H2⟩ ⟨hj,g⟩ ih;simp only at hj g ih ⊢;have g0:=g.kp za;repeat first|(refine r_ ?_;simp[g0])|refine q_ ?_
 refine Qb rfl (fun zd=> ?_) (fun ze=> ?_)
 ·have z1:j<a.mv.length:=by simpa using zd
  have hw:IntKind.i64.wrap ((j:Int)+1)=j+1:=wrap_i64 _ (by omega) (by omega);have zf:(onA { a with mv:=a.mv.take (j+1) }).map encP=(onA { a with mv:=a.mv.take j }).map encP++[encP a.mv[j].on]:=by
   have e:onA { a with mv:=a.mv.take (j+1) }=onA { a with mv:=a.mv.take j }++[a.mv[j].on]:=by
    show(a.mv.take (j+1)).map (·.on)=(a.mv.take j).map (·.on)++[a.mv[j].on]
    rw[zP z1,yF];rfl
   rw[e,yF];rfl
  have z6:((onA { a with mv:=a.mv.take j }).map encP).length=j:=by unfold onA;simp;omega
  have zc:=fun q' H'=>ih (j+1,q',H');simp only[zf]at zc;generalize (onA { a with mv:=a.mv.take j }).map encP=acc at *
  have gL:=fun L=>g.at za L;repeat first|(refine r_ ?_;simp[g0,z1])|refine q_ ?_
  refine Qe tOk rfl rfl T91 rfl T76 rfl (by decide) (by decide) rfl rfl rfl ?_;simp[Qa g.arr,Qi g.arr,z6];refine⟨by simp[Wa,Qa g.arr,Qi g.arr,z6]<;>omega,?_⟩;repeat first|(refine r_ ?_;simp[gL,hw])|refine q_ ?_
  exact Qc (sl':=[(1,.vptr 0 0),(3,.sl (H2.length+1) 1 0 (j+1)),(4,.i (j+1:Nat))]) (zc (H2.length+1) _ ⟨by omega,g.put [AObj.arr 76 1 [encP a.mv[j].on]] _ rfl⟩ (by omega)) (by simp)
 ·have z8:j=a.mv.length:=by simp at ze;omega
  subst z8;have e:({ a with mv:=a.mv.take a.mv.length }:Aut)=a:=by rw[yP]
  rw[e]at g;have z6:((onA a).map encP).length=a.mv.length:=by simp[onA]
  have ga:=g.arr;obtain⟨acc,z7⟩:∃acc,acc=(onA a).map encP:=⟨_,rfl⟩
  rw[←z7]at ga z6;repeat first|(refine r_ ?_;simp[ga,z6])|refine q_ ?_
  rw[zO (by omega),z7]
end Go.Abs
namespace Go.Abs
open Go Go.Proofs
theorem V6{α:Type}{a b:List α}(h:a.length=b.length)(hi:∀i,∀h1:i<a.length,∀h2:i<b.length,a[i]=b[i]):a=b:=wK h hi
theorem v14(a b:List Int):PC Tryz.prog 53 [LI a,LI b] (fun r=>r= .bool (decide (a=b))):=by
 refine Ql tOk Tryz.func53 rfl Tryz.results53 rfl (by simp[Tryz.ntmps53]) ?_;rw[Tryz.ntmps53];simp only[Qg];refine Ry 0 rfl (fun hlen=> ?_);rw[zZ]at hlen;repeat first|(refine r_ ?_;simp)|refine q_ ?_
 refine Qb rfl (fun h=> ?_) (fun h=> ?_)
 ·repeat first|(refine r_ ?_;simp)|refine q_ ?_
  intro e;subst e;simp at h
 have hl:a.length=b.length:=by simp at h;omega
 repeat first|(refine r_ ?_;simp)|refine q_ ?_
 refine Qr a.length (fun j=>∀i,i<j→∀h1:i<a.length,∀h2:i<b.length,a[i]=b[i]) (fun j=>[(0,LI a),(1,LI b),(5,.i j)]) (fun _=>[]) rfl (by simp) (by simp) (by simp) (by simp) (by simp) ?_;intro j hj hI ih;repeat first|(refine r_ ?_;simp)|refine q_ ?_
 refine Qb rfl (fun z7=> ?_) (fun z8=> ?_)
 ·have z1:j<a.length:=by simpa using z7
  have za:j<b.length:=by omega
  have hw:IntKind.i64.wrap ((j:Int)+1)=j+1:=wrap_i64 _ (by omega) (by omega);repeat first|(refine r_ ?_;simp)|refine q_ ?_
  refine Qn tOk mixed [] (.val 0 (.val 1 (.val 2 (.val 3 (.val 4 (.val 5 (.val 6 (.val 7 (.val 8 (.done)))))))))) rfl (by kernel_rfl) ?_;simp[z1,za];refine Qb rfl (fun h3=> ?_) (fun h3=> ?_)
  ·repeat first|(refine r_ ?_;simp)|refine q_ ?_
   intro e;subst e;simp at h3
  ·repeat first|(refine r_ ?_;simp[hw])|refine q_ ?_
   refine Qq _ (ih z1 (fun i hi h1 h2=> ?_)) rfl (by simp) ?_ (by simp) (by simp)
   ·by_cases e:i=j
    ·subst e;simpa using h3
    ·exact hI i (by omega) h1 h2
   ·simp
 ·have z6:j=a.length:=by simp at z8;omega
  subst z6;repeat first|(refine r_ ?_;simp)|refine q_ ?_
  exact V6 hl (fun i h1 h2=>hI i h1 h1 h2)
abbrev LLI (l:List (List Int)):AV:= .list (l.map fun x=>LI x)
theorem z08(l:List (List Int))(x:List Int):PC Tryz.prog 63 [LLI l,LI x] (fun r=>r= .i (Db (fun y=>decide (y=x)) l)):=by
 refine Ql tOk Tryz.func63 rfl Tryz.results63 rfl (by simp[Tryz.ntmps63]) ?_;rw[Tryz.ntmps63];simp only[Qg];refine Ry 0 rfl (fun hlen=> ?_);rw[zZ]at hlen;repeat first|(refine r_ ?_;simp)|refine q_ ?_
 refine Qr l.length (fun j=>∀i,∀hi:i<l.length,i<j→decide (l[i]=x)=false) (fun j=>[(0,LLI l),(1,LI x),(5,.i j)]) (fun _=>[]) rfl (by simp) (by simp) (by simp) (by simp) (by simp) ?_;intro j hj hI ih;repeat first|(refine r_ ?_;simp)|refine q_ ?_
 refine Qb rfl (fun z7=> ?_) (fun z8=> ?_)
 ·have z1:j<l.length:=by simpa using z7
  have hw:IntKind.i64.wrap ((j:Int)+1)=j+1:=wrap_i64 _ (by omega) (by omega);repeat first|(refine r_ ?_;simp[z1])|refine q_ ?_
  refine Qf rfl rfl (by simp) (v14 l[j] x) rfl ?_;rintro _ rfl;simp;repeat first|(refine r_ ?_;simp)|refine q_ ?_
  refine Qb rfl (fun h=> ?_) (fun h=> ?_)
  ·repeat first|(refine r_ ?_;simp)|refine q_ ?_
   rw[Uw (f:=fun y=>decide (y=x)) z1 h hI]
  ·repeat first|(refine r_ ?_;simp[hw])|refine q_ ?_
   refine Qq _ (ih z1 (fun i hi za=> ?_)) rfl (by simp) ?_ (by simp) (by simp)
   ·by_cases e:i=j
    ·subst e;exact h
    ·exact hI i hi (by omega)
   ·simp
 ·have z6:j=l.length:=by simp at z8;omega
  subst z6;repeat first|(refine r_ ?_;simp)|refine q_ ?_
  rw[Tt (f:=fun y=>decide (y=x)) hI]
end Go.Abs
namespace Go.Abs
open Go Go.Proofs
theorem M0(l:List Mv)(to:Int):PC Tryz.prog 68 [.list (l.map encMv),.i to] (fun r=>r= .i (Db (fun m:Mv=>m.dst==to) l)):=by
 refine Ql tOk Tryz.func68 rfl Tryz.results68 rfl (by simp[Tryz.ntmps68]) ?_;rw[Tryz.ntmps68];simp only[Qg];refine Ry 0 rfl (fun hlen=> ?_);rw[zZ]at hlen;repeat first|(refine r_ ?_;simp)|refine q_ ?_
 refine Qr l.length (fun j=>∀i,∀hi:i<l.length,i<j→(l[i].dst==to)=false) (fun j=>[(0,.list (l.map encMv)),(1,.i to),(5,.i j)]) (fun _=>[]) rfl (by simp) (by simp) (by simp) (by simp) (by simp) ?_;intro j hj hI ih;repeat first|(refine r_ ?_;simp)|refine q_ ?_
 refine Qb rfl (fun z7=> ?_) (fun z8=> ?_)
 ·have z1:j<l.length:=by simpa using z7
  have hw:IntKind.i64.wrap ((j:Int)+1)=j+1:=wrap_i64 _ (by omega) (by omega);repeat first|(refine r_ ?_;simp[z1])|refine q_ ?_
  refine Qb rfl (fun h=> ?_) (fun h=> ?_)
  ·repeat first|(refine r_ ?_;simp)|refine q_ ?_
   rw[Uw (f:=fun m:Mv=>m.dst==to) z1 h hI]
  ·repeat first|(refine r_ ?_;simp[hw])|refine q_ ?_
   refine Qq _ (ih z1 (fun i hi za=> ?_)) rfl (by simp) ?_ (by simp) (by simp)
   ·by_cases e:i=j
    ·subst e;exact h
    ·exact hI i hi (by omega)
   ·simp
 ·have z6:j=l.length:=by simp at z8;omega
  subst z6;repeat first|(refine r_ ?_;simp)|refine q_ ?_
  rw[Tt (f:=fun m:Mv=>m.dst==to) hI]
theorem q0d(a:Aut):PC Tryz.prog 70 [encA a] (fun r=>r= .tup [encA (Nr a).2,.i (Nr a).1]):=by
 refine Ql tOk Tryz.func70 rfl Tryz.results70 rfl (by simp[Tryz.ntmps70]) ?_;rw[Tryz.ntmps70];simp only[Qg];simp only[encA];repeat first|(refine r_ ?_;simp)|refine q_ ?_
 refine Qf rfl rfl (by simp) (Ua a) rfl ?_;rintro _ rfl;simp;repeat first|(refine r_ ?_;simp)|refine q_ ?_
 refine Qb rfl (fun h=> ?_) (fun h=> ?_)
 ·repeat first|(refine r_ ?_;simp)|refine q_ ?_
  rw[Nr,if_pos (by simpa using h)];simp[Ys]
 ·repeat first|(refine r_ ?_;simp)|refine q_ ?_
  rw[Nr,if_neg (by simpa using h)];simp
theorem j08(a:Aut)(l:List Int)(hl:∀s∈l,0≤s∧s<a.fin.length)(zb:l.length≤1000000):PC Tryz.prog 62 [encA a,LI l] (fun r=>r= .bool (Ib a l)):=by
 refine Ql tOk Tryz.func62 rfl Tryz.results62 rfl (by simp[Tryz.ntmps62]) ?_;rw[Tryz.ntmps62];simp only[Qg];simp only[encA];obtain⟨R,hR⟩:∃R,Ib a l=R:=⟨_,rfl⟩
 rw[hR];repeat first|(refine r_ ?_;simp)|refine q_ ?_
 refine Qr l.length (fun j=>Ib a (l.drop j)=R) (fun j=>[(1,LI l),(2,.vptr 0 0),(5,.i j)]) (fun _=>[.vars (Qu a)]) rfl (by simp) (by simp) (by simp) (by simp) (by simpa using hR) ?_;intro j hj hI ih;repeat first|(refine r_ ?_;simp)|refine q_ ?_
 refine Qb rfl (fun z8=> ?_) (fun za=> ?_)
 ·have z1:j<l.length:=by simpa using z8
  have hw:IntKind.i64.wrap ((j:Int)+1)=j+1:=wrap_i64 _ (by omega) (by omega);obtain⟨s0,s1⟩:=hl _ (zK z1);have s2:l[j].toNat<a.fin.length:=by omega
  rw[Ee z1]at hI;have z6:(a.fin[l[j].toNat] || Ib a (l.drop (j+1)))=R:=by
   have h1:Ib a (l[j]::l.drop (j+1))=(a.fin.getD l[j].toNat false || Ib a (l.drop (j+1))):=rfl;have h2:a.fin.getD l[j].toNat false=a.fin[l[j].toNat]:=by simp[yV,s2]
   rw[←h2,←h1];exact hI
  repeat first|(refine r_ ?_;simp)|refine q_ ?_
  refine Qn tOk mixed [] (.val 0 (.val 1 (.val 2 (.val 3 (.val 4 (.val 5 (.val 6 (.val 7 (.done))))))))) rfl (by kernel_rfl) ?_;simp[z1,s0,s1,s2];refine Qb rfl (fun h=> ?_) (fun h=> ?_)
  ·repeat first|(refine r_ ?_;simp)|refine q_ ?_
   rw[h,tD]at z6;exact z6.symm
  ·rw[h,um]at z6;repeat first|(refine r_ ?_;simp[hw])|refine q_ ?_
   refine Qq _ (ih z1 z6) rfl (by simp) ?_ (by simp) (by simp);simp
 ·have z7:j=l.length:=by simp at za;omega
  subst z7;repeat first|(refine r_ ?_;simp)|refine q_ ?_
  rw[←hI,xX];rfl
end Go.Abs
namespace Go.Abs
open Go Go.Proofs
def Fb(a:Aut)(s:Int)(j:Nat):Prd:=(H6 { a with mv:=a.mv.take j } s).foldl (fun r p=>Wg r (W8 p)) (W3 a.types.toNat)
theorem z1q(a:Aut)(s:Int)(j:Nat)(h:j<a.mv.length):H6 { a with mv:=a.mv.take (j+1) } s=H6 { a with mv:=a.mv.take j } s++(if a.mv[j].src=s then [a.mv[j].on]else []):=by unfold H6;simp only;rw[zP h,wY,yF];by_cases e:a.mv[j].src=s<;>simp[e]
theorem Zj(a:Aut)(s:Int)(j:Nat)(h:j<a.mv.length):Fb a s (j+1)=if a.mv[j].src=s then Wg (Fb a s j) (W8 a.mv[j].on)else Fb a s j:=by unfold Fb;rw[z1q a s j h,wG];by_cases e:a.mv[j].src=s<;>simp[e]
theorem Kr(a:Aut)(s:Int):Fb a s 0=W3 a.types.toNat:=rfl
theorem d05(a:Aut)(s:Int):Fb a s a.mv.length=O6 a s:=by unfold Fb O6;rw[yP]
theorem z15{T:Nat}{c p:Prd}(hc:PWf T c)(hp:PWf T p){n m:Nat}(h1:∀s∈c,s.length≤n)(h2:∀t∈p,t.length≤m):∀x∈Wg c p,x.length≤n+m:=fun x hx=>by
 obtain⟨i,hi⟩:=yK.1 hx;unfold Wg at hi;rw[List.getElem?_zipWith]at hi;cases h3:c[i]? with
 |none=>rw[h3]at hi;simp at hi
 |some a=>
  cases h4:p[i]? with
  |none=>rw[h3,h4]at hi;simp at hi
  |some b=>rw[h3,h4]at hi;simp at hi;subst hi;have ha:=zJ h3;have hb:=zJ h4;have k1:=z07 (E8 a b);have k2:=C6 a b (hc.2 a ha).1 (hp.2 b hb).1;have:=h1 a ha;have:=h2 b hb;rw[Rp];omega
theorem Zk{T:Nat}{p:Prd}(hp:PWf T p){m:Nat}(h2:∀t∈p,t.length≤m):∀x∈W8 p,x.length≤m+1:=fun x hx=>by obtain⟨y,hy,rfl⟩:=zR.1 hx;have:=x1f (hp.2 y hy).1 (hp.2 y hy).2;have:=h2 y hy;omega
theorem w0x{a:Aut}(h:OkA a)(s:Int):∀j,j≤a.mv.length→PWf a.types.toNat (Fb a s j)∧∀x∈Fb a s j,x.length≤1+257 * j
 |0,_=>by rw[Kr];exact⟨Au _,fun x hx=>by rw[q1b _ x hx];omega⟩
 |j+1,hj=>by
  obtain⟨h1,h2⟩:=w0x h s j (by omega);have z1:j<a.mv.length:=by omega
  have hm:=zK z1;rw[Zj a s j z1];split
  ·have hw:=(h.mv _ hm).on.wf;refine⟨Tp h1 (Pn hw).1,fun x hx=> ?_⟩;have:=z15 h1 (Pn hw) h2 (Zk hw (A2 h hm)) x hx;omega
  ·exact⟨h1,fun x hx=>by have:=h2 x hx;omega⟩
attribute [local irreducible] Fb Wg W8 W3 Wd
theorem He(a:Aut)(h:OkA a)(s:Int):PC Tryz.prog 75 [encA a,.i s] (fun r=>r=encP (O6 a s)):=by
 refine Ql tOk Tryz.func75 rfl Tryz.results75 rfl (by simp[Tryz.ntmps75]) ?_;rw[Tryz.ntmps75];simp only[Qg];simp only[encA];have zd:=h.mvs;have ze:=h.types;repeat first|(refine r_ ?_;simp)|refine q_ ?_
 refine Qf rfl rfl (by simp) (S5 a.types (by omega) (by omega)) rfl ?_;rintro _ rfl;simp;repeat first|(refine r_ ?_;simp)|refine q_ ?_
 refine Qr a.mv.length (fun _=>True) (fun j=>[(1,.i s),(2,.vptr 0 0),(4,.vptr 1 0),(5,.vptr 2 0),(6,.i j)]) (fun j=>[.vars (Qu a),.vars [.nils],.vars [.list ((Fb a s j).map encL)]]) (by rw[Kr];rfl) (by simp) (by simp) (by simp) (by simp) trivial ?_;intro j hj _ ih;repeat first|(refine r_ ?_;simp)|refine q_ ?_
 refine Qb rfl (fun zb=> ?_) (fun zc=> ?_)
 ·have z1:j<a.mv.length:=by simpa using zb
  have hw:IntKind.i64.wrap ((j:Int)+1)=j+1:=wrap_i64 _ (by omega) (by omega);obtain⟨k1,k2⟩:=w0x h s j hj;have z6:=Zj a s j z1;have hm:=zK z1;have z7:=(h.mv _ hm).on.wf;repeat first|(refine r_ ?_;simp[z1])|refine q_ ?_
  refine Qb rfl (fun he=> ?_) (fun he=> ?_)
  ·have z8:a.mv[j].src=s:=by simpa using he
   rw[if_pos z8]at z6;repeat first|(refine r_ ?_;simp)|refine q_ ?_
   refine Qn tOk mixed [9] (.val 0 (.val 1 (.val 2 (.val 3 (.val 4 (.val 5 (.val 6 (.one 7 (.one 8 (.one 9 (.done))))))))))) rfl (by kernel_rfl) ?_;simp[z1];refine Qf rfl rfl (by simp) (Vt a.types.toNat a.mv[j].on z7 (fun t ht=>by have:=A2 h hm t ht;omega) (by omega)) rfl ?_;rintro _ rfl;simp;refine Qf rfl rfl (by simp) (Gp a.types.toNat (Fb a s j) (W8 a.mv[j].on) k1 (Pn z7) (fun x hx y hy=>by have:=k2 x hx;have:=Zk z7 (A2 h hm) y hy;omega) (by omega)) rfl ?_;rintro _ rfl;simp;repeat first|(refine r_ ?_;simp[hw])|refine q_ ?_
   refine Qq [] (ih z1 trivial) ?_ (by simp) ?_ (by simp) (by simp)
   ·rw[z6];rfl
   ·simp
  ·have z8:¬a.mv[j].src=s:=by simpa using he
   rw[if_neg z8]at z6;repeat first|(refine r_ ?_;simp[hw])|refine q_ ?_
   refine Qq [] (ih z1 trivial) ?_ (by simp) ?_ (by simp) (by simp)
   ·rw[z6];rfl
   ·simp
 ·have za:j=a.mv.length:=by simp at zc;omega
  subst za;repeat first|(refine r_ ?_;simp)|refine q_ ?_
  rw[d05]
end Go.Abs
namespace Go.Abs
open Go Go.Proofs
theorem u0k{a:Aut}{i:Nat}(h:i<a.fin.length)(hv:Wd (O6 a i)=false):Yt a=false:=by unfold Yt;rw[vU];exact⟨i,yW.2 h,by rw[hv];simp⟩
theorem q1o{a:Aut}(h:∀i:Nat,i<a.fin.length→Wd (O6 a i)=true):Yt a=true:=by unfold Yt;rw[zW];exact fun i hi=>h i (yW.1 hi)
attribute [local irreducible] O6 Wd
theorem z18(a:Aut)(h:OkA a):PC Tryz.prog 74 [encA a] (fun r=>r= .bool (Yt a)):=by
 refine Ql tOk Tryz.func74 rfl Tryz.results74 rfl (by simp[Tryz.ntmps74]) ?_;rw[Tryz.ntmps74];simp only[Qg];simp only[encA];have hf:=h.fin;repeat first|(refine r_ ?_;simp)|refine q_ ?_
 refine Qr a.fin.length (fun j=>∀i:Nat,i<j→Wd (O6 a i)=true) (fun j=>[(1,.vptr 0 0),(3,.i j)]) (fun _=>[.vars (Qu a)]) rfl (by simp) (by simp) (by simp) (by simp) (by simp) ?_;intro j hj hI ih;repeat first|(refine r_ ?_;simp)|refine q_ ?_
 refine Qb rfl (fun z7=> ?_) (fun z8=> ?_)
 ·have z1:j<a.fin.length:=by simpa using z7
  have hw:IntKind.i64.wrap ((j:Int)+1)=j+1:=wrap_i64 _ (by omega) (by omega);repeat first|(refine r_ ?_;simp)|refine q_ ?_
  refine Qf rfl rfl (by simp) (He a h j) rfl ?_;rintro _ rfl;simp;repeat first|(refine r_ ?_;simp)|refine q_ ?_
  refine Qf rfl rfl (by simp) (Uf (O6 a j)) rfl ?_;rintro _ rfl;simp;repeat first|(refine r_ ?_;simp)|refine q_ ?_
  refine Qb rfl (fun he=> ?_) (fun he=> ?_)
  ·repeat first|(refine r_ ?_;simp)|refine q_ ?_
   rw[u0k z1 (by simpa using he)]
  ·repeat first|(refine r_ ?_;simp[hw])|refine q_ ?_
   refine Qq [] (ih z1 (fun i hi=> ?_)) rfl (by simp) ?_ (by simp) (by simp)
   ·by_cases e:i=j
    ·subst e;simpa using he
    ·exact hI i (by omega)
   ·simp
 ·have z6:j=a.fin.length:=by simp at z8;omega
  subst z6;repeat first|(refine r_ ?_;simp)|refine q_ ?_
  rw[q1o hI]
end Go.Abs
namespace Go.Abs
open Go Go.Proofs
theorem u0h{p:Prd}{i:Nat}(h:i<p.length)(hv:¬(p[i].length≤12)):u17 p=false:=by rw[vJ,Ne,z0y];exact fun k=>hv (k.2 _ (zK h))
theorem x1d(p:Prd):PC Tryz.prog 46 [encP p] (fun r=>r= .bool (u17 p)):=by
 refine Ql tOk Tryz.func46 rfl Tryz.results46 rfl (by simp[Tryz.ntmps46]) ?_;rw[Tryz.ntmps46];simp only[Qg];simp only[encP];refine W1 0 0 rfl rfl (fun hlen=> ?_);rw[zZ]at hlen;repeat first|(refine r_ ?_;simp)|refine q_ ?_
 refine Qr p.length (fun j=>j≤5∧∀i,∀hi:i<p.length,i<j→p[i].length≤12) (fun j=>[(1,.vptr 0 0),(3,.i j)]) (fun _=>[.vars [.list (p.map encL)]]) rfl (by simp) (by simp) (by simp) (by simp) (by simp) ?_;rintro j hj ⟨za,hI⟩ ih;repeat first|(refine r_ ?_;simp)|refine q_ ?_
 refine Qb rfl (fun z6=> ?_) (fun z7=> ?_)
 ·have z1:j<p.length:=by simp at z6;omega
  have zb:j<5:=by simp at z6;omega
  have hw:IntKind.i64.wrap ((j:Int)+1)=j+1:=wrap_i64 _ (by omega) (by omega);repeat first|(refine r_ ?_;simp[z1])|refine q_ ?_
  refine Qf rfl rfl (by simp) (q2n p[j]) rfl ?_;rintro _ rfl;simp;repeat first|(refine r_ ?_;simp)|refine q_ ?_
  refine Qb rfl (fun he=> ?_) (fun he=> ?_)
  ·repeat first|(refine r_ ?_;simp)|refine q_ ?_
   rw[u0h z1 (by simp at he;omega)]
  ·repeat first|(refine r_ ?_;simp[hw])|refine q_ ?_
   refine Qq [] (ih z1 ⟨by omega,fun i hi zc=> ?_⟩) rfl (by simp) ?_ (by simp) (by simp)
   ·by_cases e:i=j
    ·subst e;simp at he;omega
    ·exact hI i hi (by omega)
   ·simp
 ·have z8:p.length≤j∨5≤j:=by simp at z7;omega
  repeat first|(refine r_ ?_;simp)|refine q_ ?_
  rw[xU,z0y,decide_eq_true_eq];constructor
  ·intro h4;refine⟨by omega,fun s hs=> ?_⟩;obtain⟨i,hi,rfl⟩:=y_ hs;exact hI i hi (by omega)
  ·intro h4;omega
end Go.Abs
namespace Go.Abs
open Go Go.Proofs
theorem Vb{a:Aut}:k17 a=true↔a.fin.length≤8∧a.mv.length≤16∧∀m∈a.mv,u17 m.on=true:=by simp only[k17,yL,decide_eq_true_eq,zW,and_assoc]
attribute [local irreducible] u17
theorem g1p(a:Aut):PC Tryz.prog 13 [encA a] (fun r=>r= .bool (k17 a)):=by
 refine Ql tOk Tryz.func13 rfl Tryz.results13 rfl (by simp[Tryz.ntmps13]) ?_;rw[Tryz.ntmps13];simp only[Qg];simp only[encA];refine W1 0 2 rfl rfl (fun hlen=> ?_);rw[zZ]at hlen;repeat first|(refine r_ ?_;simp)|refine q_ ?_
 refine Qr a.mv.length (fun j=>j≤20∧∀i,∀hi:i<a.mv.length,i<j→u17 a.mv[i].on=true) (fun j=>[(1,.vptr 0 0),(3,.i j)]) (fun _=>[.vars (Qu a)]) rfl (by simp) (by simp) (by simp) (by simp) (by simp) ?_;rintro j hj ⟨za,hI⟩ ih;repeat first|(refine r_ ?_;simp)|refine q_ ?_
 refine Qb rfl (fun z6=> ?_) (fun z7=> ?_)
 ·have z1:j<a.mv.length:=by simp at z6;omega
  have zb:j<20:=by simp at z6;omega
  have hw:IntKind.i64.wrap ((j:Int)+1)=j+1:=wrap_i64 _ (by omega) (by omega);repeat first|(refine r_ ?_;simp[z1])|refine q_ ?_
  refine Qf rfl rfl (by simp) (x1d a.mv[j].on) rfl ?_;rintro _ rfl;simp;repeat first|(refine r_ ?_;simp)|refine q_ ?_
  refine Qb rfl (fun he=> ?_) (fun he=> ?_)
  ·repeat first|(refine r_ ?_;simp)|refine q_ ?_
   have:k17 a=false:=by rw[vJ,Ne,Vb];intro k;have:=k.2.2 _ (zK z1);rw[this]at he;cases he
   rw[this]
  ·repeat first|(refine r_ ?_;simp[hw])|refine q_ ?_
   refine Qq [] (ih z1 ⟨by omega,fun i hi zc=> ?_⟩) rfl (by simp) ?_ (by simp) (by simp)
   ·by_cases e:i=j
    ·subst e;simpa using he
    ·exact hI i hi (by omega)
   ·simp
 ·have z8:a.mv.length≤j∨20≤j:=by simp at z7;omega
  repeat first|(refine r_ ?_;simp)|refine q_ ?_
  rw[xU,Vb];simp;constructor
  ·rintro⟨h4,h5⟩;refine⟨by omega,by omega,fun m hm=> ?_⟩;obtain⟨i,hi,rfl⟩:=y_ hm;exact hI i hi (by omega)
  ·rintro⟨h4,h5,_⟩;omega
end Go.Abs
namespace Go.Abs
open Go Go.Proofs
theorem f0b(a b:Prd):PC Tryz.prog 72 [encP a,encP b] (fun r=>r= .bool (decide (a=b))):=by
 refine Ql tOk Tryz.func72 rfl Tryz.results72 rfl (by simp[Tryz.ntmps72]) ?_;rw[Tryz.ntmps72];simp only[Qg];simp only[encP];refine W1 0 0 rfl rfl (fun hlen=> ?_);rw[zZ]at hlen;repeat first|(refine r_ ?_;simp)|refine q_ ?_
 refine Qb rfl (fun h=> ?_) (fun h=> ?_)
 ·repeat first|(refine r_ ?_;simp)|refine q_ ?_
  intro e;subst e;simp at h
 have hl:a.length=b.length:=by simp at h;omega
 repeat first|(refine r_ ?_;simp)|refine q_ ?_
 refine Qr a.length (fun j=>∀i,i<j→∀h1:i<a.length,∀h2:i<b.length,a[i]=b[i]) (fun j=>[(2,.vptr 0 0),(3,.vptr 1 0),(5,.i j)]) (fun _=>[.vars [.list (a.map encL)],.vars [.list (b.map encL)]]) rfl (by simp) (by simp) (by simp) (by simp) (by simp) ?_;intro j hj hI ih;repeat first|(refine r_ ?_;simp)|refine q_ ?_
 refine Qb rfl (fun z7=> ?_) (fun z8=> ?_)
 ·have z1:j<a.length:=by simpa using z7
  have za:j<b.length:=by omega
  have hw:IntKind.i64.wrap ((j:Int)+1)=j+1:=wrap_i64 _ (by omega) (by omega);repeat first|(refine r_ ?_;simp)|refine q_ ?_
  refine Qn tOk mixed [] (.val 0 (.val 1 (.val 2 (.val 3 (.val 4 (.val 5 (.val 6 (.val 7 (.val 8 (.val 9 (.one 10 (.val 11 (.done))))))))))))) rfl (by kernel_rfl) ?_;simp[z1,za];refine Qf rfl rfl (by simp) (g1j a[j] b[j]) rfl ?_;rintro _ rfl;simp;repeat first|(refine r_ ?_;simp)|refine q_ ?_
  refine Qb rfl (fun h3=> ?_) (fun h3=> ?_)
  ·repeat first|(refine r_ ?_;simp)|refine q_ ?_
   intro e;subst e;simp at h3
  ·repeat first|(refine r_ ?_;simp[hw])|refine q_ ?_
   refine Qq [] (ih z1 (fun i hi h1 h2=> ?_)) rfl (by simp) ?_ (by simp) (by simp)
   ·by_cases e:i=j
    ·subst e;simpa using h3
    ·exact hI i (by omega) h1 h2
   ·simp
 ·have z6:j=a.length:=by simp at z8;omega
  subst z6;repeat first|(refine r_ ?_;simp)|refine q_ ?_
  exact V6 hl (fun i h1 h2=>hI i h1 h1 h2)
end Go.Abs
namespace Go.Abs
open Go Go.Proofs
theorem q1n(p:Prd)(g:Nat)(f:List Iv→Bool)(hg:∀s,PC Tryz.prog g [LIv s] (fun r=>r= .bool (f s))):
  PC Tryz.prog 182 [.list (p.map encL),.fn (.func g) [] []] (fun r=>r= .i (Db f p)):=by
 refine Ql tOk Tryz.func182 rfl Tryz.results182 rfl (by simp[Tryz.ntmps182]) ?_;rw[Tryz.ntmps182];simp only[Qg];refine Ry 0 rfl (fun hlen=> ?_);rw[zZ]at hlen;repeat first|(refine r_ ?_;simp)|refine q_ ?_
 refine Qr p.length (fun j=>∀i,∀hi:i<p.length,i<j→f p[i]=false) (fun j=>[(0,.list (p.map encL)),(1,.fn (.func g) [] []),(7,.i p.length),(8,.i j)]) (fun _=>[]) rfl (by simp) (by simp) (by simp) (by simp) (by simp) ?_;intro j hj hI ih;repeat first|(refine r_ ?_;simp)|refine q_ ?_
 refine Qb rfl (fun z7=> ?_) (fun z8=> ?_)
 ·have z1:j<p.length:=by simpa using z7
  have hw:IntKind.i64.wrap ((j:Int)+1)=j+1:=wrap_i64 _ (by omega) (by omega);repeat first|(refine r_ ?_;simp[z1])|refine q_ ?_
  refine Qf rfl rfl (by simp) (hg p[j]) rfl ?_;rintro _ rfl;simp;repeat first|(refine r_ ?_;simp)|refine q_ ?_
  refine Qb rfl (fun h=> ?_) (fun h=> ?_)
  ·repeat first|(refine r_ ?_;simp)|refine q_ ?_
   rw[Uw z1 h hI]
  ·repeat first|(refine r_ ?_;simp[hw])|refine q_ ?_
   refine Qq [] (ih z1 (fun i hi za=> ?_)) rfl (by simp) ?_ (by simp) (by simp)
   ·by_cases e:i=j
    ·subst e;exact h
    ·exact hI i hi (by omega)
   ·simp
 ·have z6:j=p.length:=by simp at z8;omega
  subst z6;repeat first|(refine r_ ?_;simp)|refine q_ ?_
  rw[Tt hI]
theorem D5(p:Prd)(g:Nat)(f:List Iv→Bool)(hg:∀s,PC Tryz.prog g [LIv s] (fun r=>r= .bool (f s))):
  PC Tryz.prog 125 [.list (p.map encL),.fn (.func g) [] []] (fun r=>r= .bool (p.any f)):=by
 refine Ql tOk Tryz.func125 rfl Tryz.results125 rfl (by simp[Tryz.ntmps125]) ?_;rw[Tryz.ntmps125];simp only[Qg];repeat first|(refine r_ ?_;simp)|refine q_ ?_
 refine Qf rfl rfl (by simp) (q1n p g f hg) rfl ?_;rintro _ rfl;simp;repeat first|(refine r_ ?_;simp)|refine q_ ?_
 rw[←z0x]
theorem y1y(s:List Iv):PC Tryz.prog 185 [LIv s] (fun r=>r= .bool (decide (0<s.length))):=by refine Ql tOk Tryz.func185 rfl Tryz.results185 rfl (by simp[Tryz.ntmps185]) ?_;rw[Tryz.ntmps185];simp only[Qg];repeat first|(refine r_ ?_;simp)|refine q_ ?_
theorem g1a(s:List Iv):PC Tryz.prog 126 [LIv s] (fun r=>r= .bool (decide (256<s.length))):=by
 refine Ql tOk Tryz.func126 rfl Tryz.results126 rfl (by simp[Tryz.ntmps126]) ?_;rw[Tryz.ntmps126];simp only[Qg];repeat first|(refine r_ ?_;simp)|refine q_ ?_
 omega
theorem x1j(p:Prd):(!p.any fun s=>decide (0<s.length))=Wd p:=by
 unfold Wd;rw[List.not_any_eq_all_not]
 congr 1
 funext s;cases s<;>simp
theorem z19(p:Prd):PC Tryz.prog 132 [encP p] (fun r=>r= .bool (Wd p)):=by
 refine Ql tOk Tryz.func132 rfl Tryz.results132 rfl (by simp[Tryz.ntmps132]) ?_;rw[Tryz.ntmps132];simp only[Qg];simp only[encP];repeat first|(refine r_ ?_;simp)|refine q_ ?_
 refine Qf rfl rfl (by simp) (D5 p 185 (fun s=>decide (0<s.length)) y1y) rfl ?_;rintro _ rfl;simp;repeat first|(refine r_ ?_;simp)|refine q_ ?_
 rw[←x1j p,Bool.not_not]
def u18(m:Mv):Bool:=m.on.any fun s=>decide (256<s.length)
theorem q00(a:Aut):Ch a=(decide (256<a.fin.length) || decide (2048<a.mv.length) || a.mv.any u18):=rfl
attribute [local irreducible] u18
end Go.Abs
namespace Go.Abs
open Go Go.Proofs
abbrev LSy (w:List Sy):AV:= .list (w.map encSy)
def v2p(a:Aut)(w:List Sy)(z:Int):Bool:=decide (z∈Cm a [0] w)
attribute [local irreducible] Y0 nxB
end Go.Abs
namespace Go.Abs
open Go Go.Proofs
def x2j(T:Int):List Sy→Int
 |[]=>0
 |x::r=>if Va T x≠0 then Va T x else x2j T r
def x2u(a:Aut)(w:List Sy):Int:=if Wq a≠0 then Wq a else if 4096<w.length then 5 else x2j a.types w
def x2s(a:Aut)(w:List Sy):Bool×Int:=if x2u a w≠0 then(false,x2u a w)else(M4 a w,0)
attribute [local irreducible] Va M4
end Go.Abs
namespace Go.Abs
open Go Go.Proofs
def U8:List Iv:=[⟨-1099511627776,1099511627776⟩]
theorem v04:W2 []=U8:=by simp[W2,Re,U8]
theorem w13:PC Tryz.prog 156 [] (fun r=>r=LIv U8):=by
 refine Ql tOk Tryz.func156 rfl Tryz.results156 rfl (by simp[Tryz.ntmps156]) ?_;rw[Tryz.ntmps156];simp only[Qg];repeat first|(refine r_ ?_;simp)|refine q_ ?_
 simp[U8]
theorem f1y(n:Int):PC Tryz.prog 155 [.i n] (fun r=>r= .tup [LIv U8,.i 0]):=by
 refine Ql tOk Tryz.func155 rfl Tryz.results155 rfl (by simp[Tryz.ntmps155]) ?_;rw[Tryz.ntmps155];simp only[Qg];repeat first|(refine r_ ?_;simp)|refine q_ ?_
 refine Qf rfl rfl (by simp) (w13) rfl ?_;rintro _ rfl;simp;repeat first|(refine r_ ?_;simp)|refine q_ ?_
end Go.Abs
namespace Go.Abs
open Go Go.Proofs
attribute [local irreducible] upL U8
theorem v0x(T:Nat)(hT:T≤1000):PC Tryz.prog 154 [.i T,.fn (.func 155) [] []] (fun r=>r= .tup [encP (yH T U8),.i 0]):=by
 refine Ql tOk Tryz.func154 rfl Tryz.results154 rfl (by simp[Tryz.ntmps154]) ?_;rw[Tryz.ntmps154];simp only[Qg];simp only[encP];repeat first|(refine r_ ?_;simp)|refine q_ ?_
 refine Wt 1 0 171 1 rfl rfl ?_;simp;obtain⟨K,hK⟩:∃K,K=[AObj.vars [AV.nils],AObj.vars [AV.nils]]:=⟨_,rfl⟩
 have zd:=GL.start (K:=K) (S:=1) [] [] 171 1 (by rw[hK];simp);refine Qp (Qc (sl':=[(1,.fn (.func 155) [] []),(4,.vptr 0 0),(6,.vptr 1 0),(10,.i T),(11,.i 0)]) ?_ (by simp));refine Qo (F:=fun(u:Nat×Nat×List AObj)=>⟨[(1,.fn (.func 155) [] []),(4,.vptr 0 0),(6,.vptr 1 0),(10,.i T),(11,.i u.1)],u.2.2⟩)
  (fun u=>u.1≤T∧GL K u.2.2 1 u.2.1 [] [] 171 1 (upL (fun _=>U8) u.1)) (fun u=>T - u.1) ?_ (0,K.length,_) ⟨by simp,by rw[Oi,hK]at *;exact zd⟩
 rintro⟨j,q,H2⟩ ⟨hj,g⟩ ih;simp only at hj g ih ⊢;have gR:H2[0]? =some (AObj.vars [AV.nils]):=g.kp (by decide) (by rw[hK];rfl);have g2:=g.cell;have g3:=g.arr;rw[Wy]at g2;simp only[xY]at g2;repeat first|(refine r_ ?_;simp)|refine q_ ?_
 refine Qb rfl (fun ze=> ?_) (fun zf=> ?_)
 ·have zg:j<T:=by simpa using ze
  have hw:IntKind.i64.wrap ((j:Int)+1)=j+1:=wrap_i64 _ (by omega) (by omega);repeat first|(refine r_ ?_;simp)|refine q_ ?_
  refine Qf rfl rfl (by simp) (f1y j) rfl ?_;rintro _ rfl;simp;repeat first|(refine r_ ?_;simp)|refine q_ ?_
  refine Qk rfl ?_;have z6:∀L:List AObj,(H2.set q .dead++L)[1]? =some (AObj.vars [AV.sl q 1 0 j]):=fun L=>by have:=g.at L;rw[Wy]at this;exact this
  have z8:∀(L:List AObj) (h:1<(H2.set q .dead++L).length),(H2.set q .dead++L)[1]'h=AObj.vars [AV.sl q 1 0 j]:=fun L h=>by have:=z6 L;rw[zI h]at this;exact Option.some.inj this
  have za:=fun A y=>g.put A y (Wy _ _).symm;have zh:upL (fun _=>U8) j++[encL U8]=upL (fun _=>U8) (j+1):=(Og _ _).symm;have z1:=fun H=>ih (j+1,H2.length+1,H);have z7:=Wy (fun _=>U8) j;simp only[←zh]at z1;repeat first|(refine r_ ?_;simp[g2])|refine q_ ?_
  generalize upL (fun _=>U8) j=xs at *
  refine Qe tOk rfl rfl T74 rfl U6 rfl (by decide) (by decide) rfl rfl rfl ?_;simp[Qa g3,Qi g3,z7,z6,z8];refine⟨by simp[Wa,Qa g3,Qi g3,z7,z6,z8]<;>omega,?_⟩;repeat first|(refine r_ ?_;simp[g2,hw,z6,z8])|refine q_ ?_
  refine Qc (sl':=[(1,.fn (.func 155) [] []),(4,.vptr 0 0),(6,.vptr 1 0),(10,.i T),(11,.i (j+1:Nat))]) (z1 _ ⟨by omega,za _ _⟩ (by omega)) ?_;simp
 ·have zb:j=T:=by simp at zf;omega
  subst zb;have hS:=(zE.1 g2).1;have zi:q≠0∧q≠1:=by have:=g.ge;rw[hK]at this;simp at this;omega
  have z7:=Wy (fun _=>U8) j;have zc: .list (upL (fun _=>U8) j)=AV.list ((yH j U8).map encL):=by rw[Dd];simp[Function.comp_def,ut]
  generalize upL (fun _=>U8) j=xs at *
  refine Q1 q g3 1 g2 ?_;have k1:∀X,((H2.set q .dead).set 1 X)[0]? =some (AObj.vars [AV.nils]):=fun X=>Qd (by decide) (Qd zi.1 gR _) _;have k2:∀X,((H2.set q .dead).set 1 X)[1]? =some X:=fun X=>zL (by simpa using hS);have k3:∀X Y,(((H2.set q .dead).set 1 X).set 0 Y)[0]? =some Y:=fun X Y=>Qj (k1 X) _;simp[z7];rw[zO (by omega)];repeat first|(refine r_ ?_;simp[k1,k2,k3])|refine q_ ?_
  have h2:=AV.list.inj zc;rw[List.map_replicate]at h2;exact h2
theorem q26(T:Int)(h1:1≤T)(h2:T≤16):PC Tryz.prog 98 [.i T] (fun r=>r= .tup [encP (W3 T.toNat),.i 0]):=by
 refine Ql tOk Tryz.func98 rfl Tryz.results98 rfl (by simp[Tryz.ntmps98]) ?_;rw[Tryz.ntmps98];simp only[Qg];simp only[encP];have hw:W3 T.toNat=yH T.toNat U8:=by rw[W3,v04]
 have hT:((T.toNat:Nat):Int)=T:=by omega
 have hc:=v0x T.toNat (by omega);rw[hT]at hc;have n1:¬T<1:=by omega
 have n2:¬16<T:=by omega
 rw[hw];repeat first|(refine r_ ?_;simp[n1,n2])|refine q_ ?_
 refine Qb rfl (fun h=> ?_) (fun h=> ?_)
 ·simp at h
 repeat first|(refine r_ ?_;simp)|refine q_ ?_
 refine Qf rfl rfl (by simp) (hc) rfl ?_;rintro _ rfl;simp;repeat first|(refine r_ ?_;simp)|refine q_ ?_
end Go.Abs
