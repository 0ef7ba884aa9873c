/- Part Re of the proof: an abstract machine over the model, and what the functions of the program hand back in its terms. No condition. -/
import Derived.Test.YteghceocnldccaaGreatDoorRd
import Derived.Test.YteghceocnldccaaGreatDoorRc
set_option linter.all false
open Bool renaming eq_false_iff→vO,false_or→tg,eq_iff_iff→wt,and_eq_true→yR,false_and→uJ,true_and→uP
open List renaming drop_length→xF,length→vZ,length_append→zZ,getElem?_append_right→zH,nil_append→ww,append_nil→xB,take_of_length_le→zR,getElem_mem→zL,getElem?_eq_some_iff→zB,getElem?_set_self→zO,getElem?_set_ne→zE,getElem?_append_left→zF,range→yO,ext_getElem→wQ,getD→yX,cons_append→vY,getElem?_eq_getElem→zK,map_const'→uA,pairwise_iff_getElem→yU,mem_map→zT,mem_append→zW,mem_singleton→zQ,mem_append_left→xA,mem_of_getElem?→zJ,foldl_append→wL,pairwise_append→yF,map_append→yP,nodup_append→vv,mem_append_right→uj,reverse_cons→up,mem_iff_getElem?→yJ,reverse_reverse→ug,find?_eq_none→u5,mem_of_find?_eq_some→uM,find?_cons→uO,pairwise_map→wP,map_congr_left→xX,mem_flatMap→wU,mem_filter→xW,mem_filterMap→vN,mem_cons→yE,any_eq_true→vz,length_map→yB,all_eq_false→v_,mem_range→y_,all_eq_true→zX,getElem_of_mem→xH,take→vu,findIdx?_eq_some_iff_getElem→xG,findIdx?_eq_none_iff→wY,take_succ_eq_append_getElem→zU,filter_append→vQ,take_length→yW,replicate→yL
open Int renaming le_refl→xN
open Nat renaming le_refl→zP,zero_le→xD,le_trans→yH
set_option maxHeartbeats 4000000
set_option linter.unusedSimpArgs false
set_option maxRecDepth 100000
namespace Go.Abs
open Go Go.Proofs
attribute [local irreducible] ckR Pj
theorem g1z(l:List Iv)(n:Int)(hl:l.length≤1000000000):PC Tryz.prog 183 [LIv l,.i n] (fun r=>r= .bool (Pj l n)):=by
 refine Qk tOk Tryz.func183 rfl Tryz.results183 rfl (by simp[Tryz.ntmps183]) ?_;rw[Tryz.ntmps183];simp only[Qg];obtain⟨R,hR⟩:∃R,Pj l n=R:=⟨_,rfl⟩
 rw[hR];repeat first|(refine r_ ?_;simp)|refine q_ ?_
 refine Qt l.length (fun j=>Pj (l.drop j) n=R) (fun j=>[(0,LIv l),(1,.i n),(5,.i j)]) (fun _=>[]) rfl (by simp) (by simp) (by simp) (by simp) (by simpa using hR) ?_;intro j hj hI ih;repeat first|(refine r_ ?_;simp)|refine q_ ?_
 refine Qa rfl (fun z7=> ?_) (fun z8=> ?_)
 ·have z1:j<l.length:=by simpa using z7
  have hw:IntKind.i64.wrap ((j:Int)+1)=j+1:=wrap_i64 _ (by omega) (by omega);rw[W3 z1,w1f]at hI;by_cases h1:l[j].lo≤n
  ·by_cases h2:n≤l[j].hi
   ·rw[(M0 ..).2 ⟨h1,h2⟩,Bool.true_or]at hI;repeat first|(refine r_ ?_;simp[z1,h1,h2])|refine q_ ?_
    refine Ql rfl ?_;repeat first|(refine r_ ?_;simp)|refine q_ ?_
    exact hI.symm
   ·have h3:inI l[j].lo l[j].hi n=false:=by rw[vO,Ne,M0];omega
    rw[h3,tg]at hI;repeat first|(refine r_ ?_;simp[z1,h1,h2])|refine q_ ?_
    refine Ql rfl ?_;repeat first|(refine r_ ?_;simp[hw])|refine q_ ?_
    exact Qr _ (ih z1 hI) rfl (by simp) (by simp) (by simp) (by simp)
  ·have h3:inI l[j].lo l[j].hi n=false:=by rw[vO,Ne,M0];omega
   rw[h3,tg]at hI;repeat first|(refine r_ ?_;simp[z1,h1])|refine q_ ?_
   refine Ql rfl ?_;repeat first|(refine r_ ?_;simp[hw])|refine q_ ?_
   exact Qr _ (ih z1 hI) rfl (by simp) (by simp) (by simp) (by simp)
 ·have z6:j=l.length:=by simp at z8;omega
  subst z6;rw[xF]at hI;repeat first|(refine r_ ?_;simp)|refine q_ ?_
  rw[←hI];unfold Pj;rfl
theorem g1j(x y:Iv)(b:List Iv):(y::b).filterMap (O8 x)=(O8 x y).toList++b.filterMap (O8 x):=by cases h:O8 x y<;>simp[h]
def f1y(x:Iv)(b:List Iv):List Iv:=b.filterMap (O8 x)
theorem Mp(x:Iv)(a b:List Iv):E8 (x::a) b=f1y x b++E8 a b:=rfl
theorem y1d(x y:Iv)(b:List Iv):f1y x (y::b)=(O8 x y).toList++f1y x b:=g1j x y b
theorem j11(x:Iv):f1y x []=[]:=rfl
theorem c0v(b:List Iv):E8 [] b=[]:=rfl
attribute [local irreducible] E8 f1y Ej
theorem q15(a b:List Iv)(ha:a.length≤1000000000)(hb:b.length≤1000000000)(hP:(E8 a b).length≤1000000000)(ze:∀y∈E8 a b,Ia y):PC Tryz.prog 166 [LIv a,LIv b] (fun r=>r=LIv (Ej (E8 a b))):=by
 refine Qk tOk Tryz.func166 rfl Tryz.results166 rfl (by simp[Tryz.ntmps166]) ?_;rw[Tryz.ntmps166];simp only[Qg];repeat first|(refine r_ ?_;simp)|refine q_ ?_
 refine Q8 5 187 2 rfl ?_;simp;repeat first|(refine r_ ?_;simp)|refine q_ ?_
 refine Qo (Qc (sl':=[(0,LIv a),(1,LIv b),(5,.sl 0 2 0 0),(6,.i 0)]) ?_ (by simp));refine Qn (F:=fun(u:Nat×Nat×List Iv×List AObj)=>⟨[(0,LIv a),(1,LIv b),(5,.sl u.2.1 2 0 u.2.2.1.length),(6,.i u.1)],u.2.2.2⟩)
  (fun u=>u.1≤a.length∧u.2.2.2[u.2.1]? =some (.arr 187 2 (u.2.2.1.map encIv))∧u.2.2.1++E8 (a.drop u.1) b=E8 a b) (fun u=>a.length - u.1) ?_ (0,0,[],[.arr 187 2 []]) ⟨by simp,rfl,by simp⟩
 rintro⟨j,q,acc,H2⟩ ⟨hj,g1,g2⟩ ih;simp only at hj g1 g2 ih ⊢;repeat first|(refine r_ ?_;simp)|refine q_ ?_
 refine Qa rfl (fun zf=> ?_) (fun zg=> ?_)
 ·have z6:j<a.length:=by simpa using zf
  have hw:IntKind.i64.wrap ((j:Int)+1)=j+1:=wrap_i64 _ (by omega) (by omega);rw[W3 z6,Mp]at g2;repeat first|(refine r_ ?_;simp)|refine q_ ?_
  refine Qo (Qc (sl':=[(0,LIv a),(1,LIv b),(5,.sl q 2 0 acc.length),(6,.i j),(7,.i 0)]) ?_ (by simp));refine Qn (F:=fun(u:Nat×Nat×List Iv×List AObj)=>⟨[(0,LIv a),(1,LIv b),(5,.sl u.2.1 2 0 u.2.2.1.length),(6,.i j),(7,.i u.1)],u.2.2.2⟩)
   (fun u=>u.1≤b.length∧u.2.2.2[u.2.1]? =some (.arr 187 2 (u.2.2.1.map encIv))∧u.2.2.1++(f1y a[j] (b.drop u.1)++E8 (a.drop (j+1)) b)=E8 a b) (fun u=>b.length - u.1) ?_ (0,q,acc,H2) ⟨by simp,g1,by simpa using g2⟩
  rintro⟨k,q1,acc1,H3⟩ ⟨hk,e1,e2⟩ ih1;simp only at hk e1 e2 ih1 ⊢;repeat first|(refine r_ ?_;simp)|refine q_ ?_
  refine Qa rfl (fun z8=> ?_) (fun za=> ?_)
  ·have z1:k<b.length:=by simpa using z8
   have zc:IntKind.i64.wrap ((k:Int)+1)=k+1:=wrap_i64 _ (by omega) (by omega);rw[W3 z1,y1d]at e2;have zh:acc1.length≤1000000000:=by have:=congrArg vZ e2;simp only[zZ]at this;omega
   obtain⟨lo,hlo⟩:∃z,(if a[j].lo<b[k].lo then b[k].lo else a[j].lo)=z:=⟨_,rfl⟩
   obtain⟨hi,zd⟩:∃z,(if b[k].hi<a[j].hi then b[k].hi else a[j].hi)=z:=⟨_,rfl⟩
   have hm:O8 a[j] b[k]=if lo≤hi then some ⟨lo,hi⟩else none:=by simp only[O8,hlo,zd]
   rw[hm]at e2;repeat first|(refine r_ ?_;simp[z6,z1])|refine q_ ?_
   refine Qm tOk mixed [] (.val 0 (.val 1 (.val 2 (.val 3 (.val 4 (.val 5 (.val 6 (.val 7 (.val 8 (.val 9 (.val 10 (.val 11 (.val 12 (.val 13 (.val 14 (.val 15 (.val 16 (.val 17 (.val 18 (.val 19 (.val 20 (.val 21 (.val 22 (.val 23 (.done))))))))))))))))))))))))) rfl (by kernel_rfl) ?_;simp[z6,z1,hlo,zd];repeat first|(refine r_ ?_;simp)|refine q_ ?_
   refine Qa rfl (fun h3=> ?_) (fun h3=> ?_)
   ·rw[if_pos (by simpa using h3)]at e2;repeat first|(refine r_ ?_;simp)|refine q_ ?_
    refine Qf tOk rfl rfl Ig rfl Sz rfl (by decide) (by decide) rfl rfl rfl ?_;simp[Qb e1,Qj e1];refine⟨by simp[Wi,Qb e1,Qj e1]<;>omega,?_⟩;repeat first|(refine r_ ?_;simp[zc])|refine q_ ?_
    exact Qc (sl':=[(0,LIv a),(1,LIv b),(5,.sl (H3.length+1) 2 0 (acc1.length+1)),(6,.i j),(7,.i (k+1:Nat))]) (by
     have:=ih1 (k+1,H3.length+1,acc1++[(⟨lo,hi⟩:Iv)],H3.set q1 .dead++[.arr 187 2 [encIv (⟨lo,hi⟩:Iv)],.arr 187 2 ((acc1++[(⟨lo,hi⟩:Iv)]).map encIv)]) ⟨by simp;omega,by simp only;rw[zH (by simp)];simp,by simpa using e2⟩ (by simp;omega);simpa using this) (by simp)
   ·rw[if_neg (by simpa using h3)]at e2;repeat first|(refine r_ ?_;simp[zc])|refine q_ ?_
    exact Qc (sl':=[(0,LIv a),(1,LIv b),(5,.sl q1 2 0 acc1.length),(6,.i j),(7,.i (k+1:Nat))]) (by
     have:=ih1 (k+1,q1,acc1,H3) ⟨by simp;omega,e1,by simpa using e2⟩ (by simp;omega);simpa using this) (by simp)
  ·have z7:k=b.length:=by simp at za;omega
   subst z7;rw[xF,j11,ww]at e2;repeat first|(refine r_ ?_;simp[hw])|refine q_ ?_
   exact Qc (sl':=[(0,LIv a),(1,LIv b),(5,.sl q1 2 0 acc1.length),(6,.i (j+1:Nat))]) (by
    have:=ih (j+1,q1,acc1,H3) ⟨by simp;omega,e1,e2⟩ (by simp;omega);simpa using this) (by simp)
 ·have zb:j=a.length:=by simp at zg;omega
  subst zb;rw[xF,c0v,xB]at g2;subst g2;repeat first|(refine r_ ?_;simp)|refine q_ ?_
  refine Iz q g1 ?_;simp;rw[zR (by simp)];refine Qe rfl rfl (by simp) (f0o (E8 a b) hP ze) rfl ?_;rintro _ rfl;simp;repeat first|(refine r_ ?_;simp)|refine q_ ?_
theorem Af(x:Iv)(r:List Iv)(n:Int):Ru (x::r) n=(if n<x.lo then [⟨n,x.lo - 1⟩]else [])++Ru r (x.hi+1):=rfl
theorem D7(n:Int):Ru [] n=if n≤1099511627776 then [⟨n,1099511627776⟩]else []:=rfl
theorem q06(l:List Iv):Ru l (-1099511627776)=Wv l:=rfl
attribute [local irreducible] Wv Ru
theorem Cf(l:List Iv)(hs:Sep l)(hb:∀n,M l n→inR n)(hlen:l.length≤1000000000):PC Tryz.prog 136 [LIv l] (fun r=>r=LIv (Wv l)):=by
 refine Qk tOk Tryz.func136 rfl Tryz.results136 rfl (by simp[Tryz.ntmps136]) ?_;rw[Tryz.ntmps136];simp only[Qg];have ze:=(Ps hs hb).2.2;repeat first|(refine r_ ?_;simp)|refine q_ ?_
 refine Q8 3 187 2 rfl ?_;simp;repeat first|(refine r_ ?_;simp)|refine q_ ?_
 refine Qo (Qc (sl':=[(0,LIv l),(3,.sl 0 2 0 0),(4,.i (-1099511627776)),(5,.i 0)]) ?_ (by simp));refine Qn (F:=fun(u:Nat×Nat×List Iv×Int×List AObj)=>⟨[(0,LIv l),(3,.sl u.2.1 2 0 u.2.2.1.length),(4,.i u.2.2.2.1),(5,.i u.1)],u.2.2.2.2⟩)
  (fun u=>u.1≤l.length∧u.2.2.2.2[u.2.1]? =some (.arr 187 2 (u.2.2.1.map encIv))∧u.2.2.1++Ru (l.drop u.1) u.2.2.2.1=Wv l) (fun u=>l.length - u.1) ?_ (0,0,[],-1099511627776,[.arr 187 2 []]) ⟨by simp,rfl,by simp[q06]⟩
 rintro⟨j,q,acc,n,H2⟩ ⟨hj,g1,g2⟩ ih;simp only at hj g1 g2 ih ⊢;have zf:acc.length≤1000000001:=by have:=congrArg vZ g2;simp only[zZ]at this;omega
 repeat first|(refine r_ ?_;simp)|refine q_ ?_
 refine Qa rfl (fun z8=> ?_) (fun za=> ?_)
 ·have z1:j<l.length:=by simpa using z8
  have zb:=hb _ ⟨l[j],zL z1,xN _,hs.1 _ (zL z1)⟩;have zc:=hb _ ⟨l[j],zL z1,hs.1 _ (zL z1),xN _⟩;unfold inR at zb zc;have hw:IntKind.i64.wrap ((j:Int)+1)=j+1:=wrap_i64 _ (by omega) (by omega);have zd:IntKind.i64.wrap (l[j].lo - 1)=l[j].lo - 1:=wrap_i64 _ (by omega) (by omega);have z7:IntKind.i64.wrap (l[j].hi+1)=l[j].hi+1:=wrap_i64 _ (by omega) (by omega);rw[W3 z1,Af]at g2;repeat first|(refine r_ ?_;simp[z1])|refine q_ ?_
  refine Qa rfl (fun h3=> ?_) (fun h3=> ?_)
  ·rw[if_pos (by simpa using h3)]at g2;repeat first|(refine r_ ?_;simp[z1,zd])|refine q_ ?_
   refine Qf tOk rfl rfl Ig rfl Sz rfl (by decide) (by decide) rfl rfl rfl ?_;simp[Qb g1,Qj g1];refine⟨by simp[Wi,Qb g1,Qj g1]<;>omega,?_⟩;repeat first|(refine r_ ?_;simp[z1,hw,z7])|refine q_ ?_
   exact Qc (sl':=[(0,LIv l),(3,.sl (H2.length+1) 2 0 (acc.length+1)),(4,.i (l[j].hi+1)),(5,.i (j+1:Nat))]) (by
    have:=ih (j+1,H2.length+1,acc++[(⟨n,l[j].lo - 1⟩:Iv)],l[j].hi+1,H2.set q .dead++[.arr 187 2 [encIv (⟨n,l[j].lo - 1⟩:Iv)],.arr 187 2 ((acc++[(⟨n,l[j].lo - 1⟩:Iv)]).map encIv)]) ⟨by simp;omega,by simp only;rw[zH (by simp)];simp,by simpa using g2⟩ (by simp;omega);simpa using this) (by simp)
  ·rw[if_neg (by simpa using h3)]at g2;repeat first|(refine r_ ?_;simp[z1,hw,z7])|refine q_ ?_
   exact Qc (sl':=[(0,LIv l),(3,.sl q 2 0 acc.length),(4,.i (l[j].hi+1)),(5,.i (j+1:Nat))]) (by
    have:=ih (j+1,q,acc,l[j].hi+1,H2) ⟨by simp;omega,g1,by simpa using g2⟩ (by simp;omega);simpa using this) (by simp)
 ·have z6:j=l.length:=by simp at za;omega
  subst z6;rw[xF,D7]at g2;repeat first|(refine r_ ?_;simp)|refine q_ ?_
  refine Qa rfl (fun h3=> ?_) (fun h3=> ?_)
  ·rw[if_pos (by simpa using h3)]at g2;rw[←g2];repeat first|(refine r_ ?_;simp)|refine q_ ?_
   refine Qf tOk rfl rfl Ig rfl Sz rfl (by decide) (by decide) rfl rfl rfl ?_;simp[Qb g1,Qj g1];refine⟨by simp[Wi,Qb g1,Qj g1]<;>omega,?_⟩;repeat first|(refine r_ ?_;simp)|refine q_ ?_
   rw[zR (by simp)]
  ·rw[if_neg (by simpa using h3),xB]at g2;subst g2;repeat first|(refine r_ ?_;simp[g1])|refine q_ ?_
   rw[zR (by simp)]
theorem f07(a b:List Iv)(ha:Sep a)(hb:Sep b)(z1:a.length+b.length≤1000000000)(hi:∀x∈a,Ia x):PC Tryz.prog 166 [LIv a,LIv b] (fun r=>r=LIv (R9 a b)):=
 (q15 a b (by omega) (by omega) (by have:=Vz a b ha hb;omega) (y1o (.inl hi))).mono fun r h=>by rw[h,R9]
end Go.Abs
namespace Go.Abs
open Go Go.Proofs
structure GL (K G:List AObj) (S p:Nat) (pre post:List AV) (e sz:Nat) (xs:List AV):Prop where
 cell:G[S]? =some (.vars (pre++ .sl p sz 0 xs.length::post))
 arr:G[p]? =some (.arr e sz xs)
 ge:K.length≤p
 lt:S<K.length
 len:K.length≤G.length
 keep:∀j,j<K.length→j≠S→G[j]? =K[j]?
theorem GL.kp{K G:List AObj}{S p:Nat}{pre post:List AV}{e sz:Nat}{xs:List AV}(h:GL K G S p pre post e sz xs){j:Nat}{x:AObj}(hj:j≠S)(hx:K[j]? =some x):G[j]? =some x:=by rw[h.keep j (zB.1 hx).1 hj];exact hx
theorem GL.start{K:List AObj}{S:Nat}(pre post:List AV)(e sz:Nat)(h:S<K.length):GL K ((K++[AObj.arr e sz []]).set S (.vars (pre++ .sl K.length sz 0 0::post))) S K.length pre post e sz []:=
 ⟨zO (by simp;omega),by rw[zE (by omega)];simp,zP _,h,by simp,fun j hj z1=>by
  rw[zE (fun e=>z1 e.symm),zF hj]⟩
theorem GL.put{K G:List AObj}{S p:Nat}{pre post:List AV}{e sz:Nat}{xs:List AV}(h:GL K G S p pre post e sz xs)(A:AObj)(y:AV){n:Nat}(hn:n=xs.length):
  GL K ((G.set p .dead++[A,AObj.arr e sz (xs++[y])]).set S (.vars (pre++ .sl (G.length+1) sz 0 (n+1)::post))) S (G.length+1) pre post e sz (xs++[y]):=by
 have hl:=h.len;have z6:=h.lt;have z7:=h.ge;subst hn;refine⟨by rw[zO (by simp;omega)];simp,by rw[zE (by omega),zH (by simp)];simp,by omega,z6,by simp;omega,fun j hj z1=> ?_⟩;rw[zE (fun e=>z1 e.symm),zF (by simp;omega),zE (by omega)];exact h.keep j hj z1
theorem GL.at{K G:List AObj}{S p:Nat}{pre post:List AV}{e sz:Nat}{xs:List AV}(h:GL K G S p pre post e sz xs)(L:List AObj):(G.set p .dead++L)[S]? =some (.vars (pre++ .sl p sz 0 xs.length::post)):=by have hl:=h.len;have z1:=h.lt;have z6:=h.ge;rw[zF (by simp;omega),zE (by omega)];exact h.cell
def upL(F:Nat→List Iv)(j:Nat):List AV:=(yO j).map fun i=>encL (F i)
theorem Ac(F:Nat→List Iv)(j:Nat):upL F (j+1)=upL F j++[encL (F j)]:=by simp[upL,List.range_succ]
theorem W9(F:Nat→List Iv)(j:Nat):(upL F j).length=j:=by simp[upL]
theorem Gy(F:Nat→List Iv)(n:Nat):upL F n=((yO n).map F).map encL:=by simp[upL]
theorem Ks{α β:Type}(d:α)(f:α→β)(p:List α):(yO p.length).map (fun i=>f (p.getD i d))=p.map f:=by
 refine wQ (by simp) fun i h1 h2=> ?_;have h:i<p.length:=by simpa using h1
 simp[yX,h]
theorem Se(F:Nat→List Iv):upL F 0=[]:=rfl
attribute [local irreducible] upL
theorem Bh(T:Nat)(p:Prd)(hp:PWf T p)(hl:∀s∈p,s.length≤1000000000)(hT:T≤1000):PC Tryz.prog 135 [encP p] (fun r=>r=encP (W5 p)):=by
 refine Qk tOk Tryz.func135 rfl Tryz.results135 rfl (by simp[Tryz.ntmps135]) ?_;rw[Tryz.ntmps135];simp only[Qg];simp only[encP];have hlen:=hp.1;repeat first|(refine r_ ?_;simp)|refine q_ ?_
 refine Eg 2 0 171 1 rfl rfl ?_;simp;obtain⟨K,hK⟩:∃K,K=[AObj.vars [.list (p.map encL)],AObj.vars [AV.nils],AObj.vars [AV.nils]]:=⟨_,rfl⟩
 have ze:=GL.start (K:=K) (S:=2) [] [] 171 1 (by rw[hK];simp);refine Qo (Qc (sl':=[(1,.vptr 0 0),(2,.vptr 1 0),(3,.vptr 2 0),(4,.i 0)]) ?_ (by simp));refine Qn (F:=fun(u:Nat×Nat×List AObj)=>⟨[(1,.vptr 0 0),(2,.vptr 1 0),(3,.vptr 2 0),(4,.i u.1)],u.2.2⟩)
  (fun u=>u.1≤p.length∧GL K u.2.2 2 u.2.1 [] [] 171 1 (upL (fun i=>Wv (p.getD i [])) u.1)) (fun u=>p.length - u.1) ?_ (0,K.length,_) ⟨by simp,by rw[Se,hK]at *;exact ze⟩
 rintro⟨j,q,H2⟩ ⟨hj,g⟩ ih;simp only[vY,ww]at hj g ih ⊢;have g0:H2[0]? =some (AObj.vars [.list (p.map encL)]):=g.kp (by decide) (by rw[hK];rfl);have gR:H2[1]? =some (AObj.vars [AV.nils]):=g.kp (by decide) (by rw[hK];rfl);have g2:=g.cell;have g3:=g.arr;rw[W9]at g2;simp only[ww]at g2;repeat first|(refine r_ ?_;simp[g0])|refine q_ ?_
 refine Qa rfl (fun zf=> ?_) (fun zg=> ?_)
 ·have z1:j<p.length:=by simpa using zf
  have hw:IntKind.i64.wrap ((j:Int)+1)=j+1:=wrap_i64 _ (by omega) (by omega);have z7:∀L:List AObj,(H2.set q .dead++L)[2]? =some (AObj.vars [AV.sl q 1 0 j]):=fun L=>by have:=g.at L;rw[W9]at this;exact this
  have za:∀(L:List AObj) (h:2<(H2.set q .dead++L).length),(H2.set q .dead++L)[2]'h=AObj.vars [AV.sl q 1 0 j]:=fun L h=>by have:=z7 L;rw[zK h]at this;exact Option.some.inj this
  have zb:=fun A y=>g.put A y (W9 _ _).symm;have zh:upL (fun i=>Wv (p.getD i [])) j++[encL ((fun i=>Wv (p.getD i [])) j)]=upL (fun i=>Wv (p.getD i [])) (j+1):=(Ac _ _).symm;have z6:=fun H=>ih (j+1,H2.length+1,H);have z8:=W9 (fun i=>Wv (p.getD i [])) j;simp only[←zh]at z6;have hs:=hp.2 _ (zL z1);simp only[Wu z1]at *
  repeat first|(refine r_ ?_;simp[g0,g2])|refine q_ ?_
  refine Qm tOk mixed [9,11] (.val 0 (.val 1 (.val 2 (.val 3 (.val 4 (.val 5 (.val 6 (.one 7 (.one 8 (.one 9 (.val 10 (.one 11 (.done))))))))))))) rfl (by kernel_rfl) ?_;simp[z1,g0,g2];refine Qe rfl rfl (by simp) (Cf p[j] hs.1 hs.2 (hl _ (zL z1))) rfl ?_;rintro _ rfl;simp;repeat first|(refine r_ ?_;simp[g0,g2])|refine q_ ?_
  generalize upL (fun i=>Wv (p.getD i [])) j=xs at *
  refine Qf tOk rfl rfl T74 rfl Ig rfl (by decide) (by decide) rfl rfl rfl ?_;simp[Qb g3,Qj g3,z8,z7,za];refine⟨by simp[Wi,Qb g3,Qj g3,z8,z7,za]<;>omega,?_⟩;repeat first|(refine r_ ?_;simp[g0,g2,hw,z7,za])|refine q_ ?_
  refine Qc (sl':=[(1,.vptr 0 0),(2,.vptr 1 0),(3,.vptr 2 0),(4,.i (j+1:Nat))]) (z6 _ ⟨by omega,zb _ _⟩ (by omega)) ?_;simp
 ·have zc:j=p.length:=by(simp at zg;omega)
  subst zc;have hS:=(zB.1 g2).1;have zi:q≠1∧q≠2:=by have:=g.ge;rw[hK]at this;simp at this;omega
  have z8:=W9 (fun i=>Wv (p.getD i [])) (p.length);have zd: .list (upL (fun i=>Wv (p.getD i [])) (p.length))=AV.list ((W5 p).map encL):=by rw[Gy];rw[Ks];rfl
  generalize upL (fun i=>Wv (p.getD i [])) (p.length)=xs at *
  refine Wg q g3 2 g2 ?_;have k1:∀X,((H2.set q .dead).set 2 X)[1]? =some (AObj.vars [AV.nils]):=fun X=>Qd (by decide) (Qd zi.1 gR _) _;have k2:∀X,((H2.set q .dead).set 2 X)[2]? =some X:=fun X=>zO (by simpa using hS);have k3:∀X Y,(((H2.set q .dead).set 2 X).set 1 Y)[1]? =some Y:=fun X Y=>Qi (k1 X) _;simp[z8];rw[zR (by omega)];repeat first|(refine r_ ?_;simp[k1,k2,k3])|refine q_ ?_
  exact AV.list.inj zd
theorem Kv(T:Int)(h0:0≤T)(hT:T≤1000):PC Tryz.prog 77 [.i T] (fun r=>r=encP (Ws T.toNat)):=by
 refine Qk tOk Tryz.func77 rfl Tryz.results77 rfl (by simp[Tryz.ntmps77]) ?_;rw[Tryz.ntmps77];simp only[Qg];simp only[encP];repeat first|(refine r_ ?_;simp)|refine q_ ?_
 refine Eg 1 0 171 1 rfl rfl ?_;simp;obtain⟨K,hK⟩:∃K,K=[AObj.vars [AV.nils],AObj.vars [AV.nils]]:=⟨_,rfl⟩
 have zd:=GL.start (K:=K) (S:=1) [] [] 171 1 (by rw[hK];simp);refine Qo (Qc (sl':=[(0,.i T),(2,.vptr 0 0),(3,.vptr 1 0),(4,.i 0)]) ?_ (by simp));refine Qn (F:=fun(u:Nat×Nat×List AObj)=>⟨[(0,.i T),(2,.vptr 0 0),(3,.vptr 1 0),(4,.i u.1)],u.2.2⟩)
  (fun u=>u.1≤T.toNat∧GL K u.2.2 1 u.2.1 [] [] 171 1 (upL (fun _=>Wv []) u.1)) (fun u=>T.toNat - u.1) ?_ (0,K.length,_) ⟨by simp,by rw[Se,hK]at *;exact zd⟩
 rintro⟨j,q,H2⟩ ⟨hj,g⟩ ih;simp only[vY,ww]at hj g ih ⊢;have g0:True:=trivial;have gR:H2[0]? =some (AObj.vars [AV.nils]):=g.kp (by decide) (by rw[hK];rfl);have g2:=g.cell;have g3:=g.arr;rw[W9]at g2;simp only[ww]at g2;repeat first|(refine r_ ?_;simp[g0])|refine q_ ?_
 refine Qa rfl (fun ze=> ?_) (fun zf=> ?_)
 ·have zg:j<T.toNat:=by(have:(j:Int)<T:=(by simpa using ze);omega)
  have hw:IntKind.i64.wrap ((j:Int)+1)=j+1:=wrap_i64 _ (by omega) (by omega);have z6:∀L:List AObj,(H2.set q .dead++L)[1]? =some (AObj.vars [AV.sl q 1 0 j]):=fun L=>by have:=g.at L;rw[W9]at this;exact this
  have z8:∀(L:List AObj) (h:1<(H2.set q .dead++L).length),(H2.set q .dead++L)[1]'h=AObj.vars [AV.sl q 1 0 j]:=fun L h=>by have:=z6 L;rw[zK h]at this;exact Option.some.inj this
  have za:=fun A y=>g.put A y (W9 _ _).symm;have zh:upL (fun _=>Wv []) j++[encL ((fun _=>Wv []) j)]=upL (fun _=>Wv []) (j+1):=(Ac _ _).symm;have z1:=fun H=>ih (j+1,H2.length+1,H);have z7:=W9 (fun _=>Wv []) j;simp only[←zh]at z1;repeat first|(refine r_ ?_;simp[g2])|refine q_ ?_
  refine Qm tOk mixed [4,6] (.val 0 (.val 1 (.one 2 (.one 3 (.one 4 (.val 5 (.one 6 (.done)))))))) rfl (by kernel_rfl) ?_;simp[g2];refine Qe rfl rfl (by simp) (Cf [] Ls (by simp[M]) (by simp)) rfl ?_;rintro _ rfl;simp;repeat first|(refine r_ ?_;simp[g2])|refine q_ ?_
  generalize upL (fun _=>Wv []) j=xs at *
  refine Qf tOk rfl rfl T74 rfl Ig rfl (by decide) (by decide) rfl rfl rfl ?_;simp[Qb g3,Qj g3,z7,z6,z8];refine⟨by simp[Wi,Qb g3,Qj g3,z7,z6,z8]<;>omega,?_⟩;repeat first|(refine r_ ?_;simp[g0,g2,hw,z6,z8])|refine q_ ?_
  refine Qc (sl':=[(0,.i T),(2,.vptr 0 0),(3,.vptr 1 0),(4,.i (j+1:Nat))]) (z1 _ ⟨by omega,za _ _⟩ (by omega)) ?_;simp
 ·have zb:j=T.toNat:=by(have:¬(j:Int)<T:=(by simpa using zf);omega)
  subst zb;have hS:=(zB.1 g2).1;have zi:q≠0∧q≠1:=by have:=g.ge;rw[hK]at this;simp at this;omega
  have z7:=W9 (fun _=>Wv []) (T.toNat);have zc: .list (upL (fun _=>Wv []) (T.toNat))=AV.list ((Ws T.toNat).map encL):=by rw[Gy];simp[Ws,Function.comp_def,uA]
  generalize upL (fun _=>Wv []) (T.toNat)=xs at *
  refine Wg q g3 1 g2 ?_;have k1:∀X,((H2.set q .dead).set 1 X)[0]? =some (AObj.vars [AV.nils]):=fun X=>Qd (by decide) (Qd zi.1 gR _) _;have k2:∀X,((H2.set q .dead).set 1 X)[1]? =some X:=fun X=>zO (by simpa using hS);have k3:∀X Y,(((H2.set q .dead).set 1 X).set 0 Y)[0]? =some Y:=fun X Y=>Qi (k1 X) _;simp[z7];rw[zR (by omega)];repeat first|(refine r_ ?_;simp[k1,k2,k3])|refine q_ ?_
  exact AV.list.inj zc
end Go.Abs
namespace Go.Abs
def sLt(x y:Sy):Prop:=x.ty<y.ty∨(x.ty=y.ty∧x.num<y.num)
theorem sLt.irr{x:Sy}(h:sLt x x):False:=by unfold sLt at h;omega
theorem sLt.trans{x y z:Sy}(h:sLt x y)(k:sLt y z):sLt x z:=by unfold sLt at *;omega
theorem sLt.tri(x y:Sy):sLt x y∨x=y∨sLt y x:=by cases x;cases y;unfold sLt;simp only[Sy.mk.injEq];omega
def z0j:List Sy→List Sy→Prop
 |x::v,y::w=>sLt x y∨(x=y∧z0j v w)
 |_,_=>False
def ll(v w:List Sy):Prop:=v.length<w.length∨(v.length=w.length∧z0j v w)
def lle(v w:List Sy):Prop:=v=w∨ll v w
theorem z0j.irr:∀ {v:List Sy},¬z0j v v
 |[],h=>h
 |x::v,h=>by
  rcases h with h|⟨_,h⟩
  ·exact h.irr
  ·exact z0j.irr h
theorem z0j.trans:∀ {u v w:List Sy},z0j u v→z0j v w→z0j u w
 |[],_,_,h,_=>h.elim
 |_::_,[],_,h,_=>h.elim
 |_::_,_::_,[],_,k=>k.elim
 |x::u,y::v,z::w,h,k=>by
  rcases h with h|⟨rfl,h⟩
  ·rcases k with k|⟨rfl,k⟩
   ·exact .inl (h.trans k)
   ·exact .inl h
  ·rcases k with k|⟨rfl,k⟩
   ·exact .inl k
   ·exact .inr ⟨rfl,h.trans k⟩
theorem ll.irr{v:List Sy}(h:ll v v):False:=by
 rcases h with h|⟨_,h⟩
 ·omega
 ·exact z0j.irr h
theorem ll.trans{u v w:List Sy}(h:ll u v)(k:ll v w):ll u w:=by
 rcases h with h|⟨h1,h2⟩
 ·rcases k with k|⟨k1,_⟩
  ·exact .inl (by omega)
  ·exact .inl (by omega)
 ·rcases k with k|⟨k1,k2⟩
  ·exact .inl (by omega)
  ·exact .inr ⟨by omega,h2.trans k2⟩
theorem lle.refl(v:List Sy):lle v v:= .inl rfl
theorem lle.trans{u v w:List Sy}(h:lle u v)(k:lle v w):lle u w:=by
 rcases h with rfl|h
 ·exact k
 ·rcases k with rfl|k
  ·exact .inr h
  ·exact .inr (h.trans k)
theorem ll.lle{u v w:List Sy}(h:ll u v)(k:lle v w):ll u w:=by
 rcases k with rfl|k
 ·exact h
 ·exact h.trans k
theorem lle.anti{u v:List Sy}(h:lle u v)(k:lle v u):u=v:=by
 rcases h with rfl|h
 ·rfl
 ·exact((h.lle k).irr).elim
theorem w0i:∀ {u v:List Sy} (a b:List Sy),u.length=v.length→z0j u v→z0j (u++a) (v++b)
 |[],_,_,_,_,h=>h.elim
 |_::_,[],_,_,_,h=>h.elim
 |x::u,y::v,a,b,e,h=>by
  rcases h with h|⟨rfl,h⟩
  ·exact .inl h
  ·exact .inr ⟨rfl,w0i a b (by simpa using e) h⟩
theorem w03:∀(u:List Sy) {a b:List Sy},z0j a b→z0j (u++a) (u++b)
 |[],_,_,h=>h
 |_::u,_,_,h=> .inr ⟨rfl,w03 u h⟩
theorem f0n{u v:List Sy}(h:ll u v)(x y:Sy):ll (u++[x]) (v++[y]):=by
 rcases h with h|⟨h1,h2⟩
 ·exact .inl (by simp;omega)
 ·exact .inr ⟨by simp;omega,w0i _ _ h1 h2⟩
theorem w0y(u:List Sy){x y:Sy}(h:sLt x y):ll (u++[x]) (u++[y]):= .inr ⟨by simp,w03 u (.inl h)⟩
theorem w1x{u v:List Sy}(h:lle u v){x y:Sy}(k:x=y∨sLt x y):lle (u++[x]) (v++[y]):=by
 rcases h with rfl|h
 ·rcases k with rfl|k
  ·exact .inl rfl
  ·exact .inr (w0y _ k)
 ·exact .inr (f0n h x y)
theorem k1z(u:List Sy)(x:Sy):ll u (u++[x]):= .inl (by simp)
theorem Un{α:Type}[DecidableEq α]:∀(l U:List α),l.Nodup→(∀x∈l,x∈U)→l.length≤U.length
 |[],_,_,_=>xD _
 |x::l,U,hn,h=>by have hx:=h x (by simp);have hc:=List.nodup_cons.1 hn;have ih:=Un l (U.erase x) hc.2 (fun y hy=>(List.mem_erase_of_ne (fun e=>hc.1 (by rw[←e];exact hy))).2 (h y (by simp[hy])));rw[List.length_erase_of_mem hx]at ih;have:=List.length_pos_of_mem hx;simp only[List.length_cons];omega
section
variable {σ:Type} [DecidableEq σ] (ok:Sy→Prop) (step:σ→Sy→σ) (good:σ→Bool)
def Ua(s:σ)(w:List Sy):σ:=w.foldl step s
structure FirstW (s:σ) (w:List Sy):Prop where
 okw:∀x∈w,ok x
 goodw:good (Ua step s w)=true
 least:∀v,(∀x∈v,ok x)→good (Ua step s v)=true→lle w v
variable {ok step good}
theorem FirstW.unique{s:σ}{v w:List Sy}(h:FirstW ok step good s v)(k:FirstW ok step good s w):v=w:=
 (h.least w k.okw k.goodw).anti (k.least v h.okw h.goodw)
variable (ok step good)
structure SuccOk (s:σ) (l:List (Sy×σ)):Prop where
 asc:l.Pairwise (fun a b=>sLt a.1 b.1)
 mem:∀e∈l,ok e.1∧e.2=step s e.1
 cov:∀y,ok y→∃e∈l,e.2=step s y∧(e.1=y∨sLt e.1 y)
variable (succ:σ→List (Sy×σ))
def z1z(l:List (σ×List Sy))(t:σ)(w:List Sy):List (σ×List Sy):=if t∈l.map (·.1)then l else l++[(t,w)]
def Uk(l:List (σ×List Sy))(w:List Sy)(es:List (Sy×σ)):List (σ×List Sy):=es.foldl (fun l e=>z1z l e.2 (w++[e.1])) l
def Bz:Nat→Nat→List (σ×List Sy)→Option (List Sy)×List (σ×List Sy)
 |0,_,l=>(none,l)
 |f+1,n,l=>match l[n]? with
  |none=>(none,l)
  |some (s,w)=>if good s then(some w,l)else Bz f (n+1) (Uk l w (succ s))
variable (s0:σ) (G:σ→Prop)
structure BInv (n:Nat) (L:List (σ×List Sy)) (done:List (Sy×σ)):Prop where
 first:L[0]? =some (s0,[])
 mem:∀e∈L,(∀x∈e.2,ok x)∧Ua step s0 e.2=e.1∧G e.1
 asc:L.Pairwise (fun a b=>ll a.2 b.2)
 nd:(L.map (·.1)).Nodup
 bad:∀i s w,i<n→L[i]? =some (s,w)→good s=false
 cls:∀i s w,i<n→L[i]? =some (s,w)→∀e∈succ s,∃v,(e.2,v)∈L∧lle v (w++[e.1])
 cur:∀s w,L[n]? =some (s,w)→∀e∈done,∃v,(e.2,v)∈L∧lle v (w++[e.1])
 org:∀d∈L,d.2=[]∨∃i s w x,L[i]? =some (s,w)∧d.2=w++[x]∧(i<n∨(i=n∧∃e∈done,e.1=x))
variable {ok step good succ s0 G}
theorem BInv.low{n:Nat}{L:List (σ×List Sy)}{done:List (Sy×σ)}(h:BInv ok step good succ s0 G n L done){s:σ}{w:List Sy}(hn:L[n]? =some (s,w))(x:Sy)(hx:∀e∈done,sLt e.1 x):∀e∈L,ll e.2 (w++[x]):=by
 intro d hd;rcases h.org d hd with e|⟨i,s',w',y,hi,e,hc⟩
 ·rw[e];exact .inl (by simp)
 ·rw[e];rcases hc with hc|⟨rfl,c,hc,rfl⟩
  ·obtain⟨h1,h2⟩:=zB.1 hi;obtain⟨h3,h4⟩:=zB.1 hn;have:=yU.1 h.asc i n h1 h3 hc;rw[h2,h4]at this;exact f0n this _ _
  ·rw[hn]at hi;cases hi;exact w0y _ (hx c hc)
theorem BInv.add {n:Nat} {L:List (σ×List Sy)} {done:List (Sy×σ)} (h:BInv ok step good succ s0 G n L done) {s:σ} {w:List Sy} (hn:L[n]? =some (s,w)) {e:Sy×σ} (he:ok e.1∧e.2=step s e.1) (hG:G e.2)
  (z8:∀d∈done,sLt d.1 e.1):BInv ok step good succ s0 G n (z1z L e.2 (w++[e.1])) (done++[e])∧(z1z L e.2 (w++[e.1]))[n]? =some (s,w):=by
 have zb:=(zB.1 hn).1;have z7:=h.low hn e.1 z8;unfold z1z;by_cases hin:e.2∈L.map (·.1)
 ·rw[if_pos hin];obtain⟨⟨t,v⟩,hv,ht⟩:=zT.1 hin;simp only at ht;subst ht;refine⟨⟨h.first,h.mem,h.asc,h.nd,h.bad,h.cls,fun s' w' z6 d hd=> ?_,fun d hd=> ?_⟩,hn⟩
  ·rw[hn]at z6;cases z6;rcases zW.1 hd with hd|hd
   ·exact h.cur s w hn d hd
   ·obtain rfl:=zQ.1 hd;exact⟨v,hv,.inr (z7 _ hv)⟩
  ·rcases h.org d hd with e'|⟨i,s',w',y,hi,e',hc⟩
   ·exact .inl e'
   ·exact .inr ⟨i,s',w',y,hi,e',hc.imp id fun⟨k1,c,k2,k3⟩=>⟨k1,c,xA _ k2,k3⟩⟩
 ·rw[if_neg hin];have z1:∀i,i≤n→(L++[(e.2,w++[e.1])])[i]? =L[i]? :=fun i hi=>zF (by omega);have hw:=h.mem _ (zJ hn);refine⟨⟨by rw[z1 0 (xD _)];exact h.first,fun d hd=> ?_,?_,?_,fun i s' w' hi z6=>h.bad i s' w' hi (by rw[←z1 i (by omega)];exact z6),fun i s' w' hi z6 d hd=> ?_,fun s' w' z6 d hd=> ?_,fun d hd=> ?_⟩,by rw[z1 n (zP _)];exact hn⟩
  ·rcases zW.1 hd with hd|hd
   ·exact h.mem d hd
   ·obtain rfl:=zQ.1 hd;refine⟨fun x hx=> ?_,?_,hG⟩
    ·rcases zW.1 hx with hx|hx
     ·exact hw.1 x hx
     ·obtain rfl:=zQ.1 hx;exact he.1
    ·show Ua step s0 (w++[e.1])=e.2;have h2:Ua step s0 w=s:=hw.2.1;rw[Ua,wL];show step (Ua step s0 w) e.1=e.2;rw[h2,he.2]
  ·exact yF.2 ⟨h.asc,by simp,fun a ha b hb=>by obtain rfl:=zQ.1 hb;exact z7 a ha⟩
  ·rw[yP];exact vv.2 ⟨h.nd,by simp,fun a ha b hb e'=>by
    simp at hb;subst hb;subst e';exact hin ha⟩
  ·rw[z1 i (by omega)]at z6;obtain⟨v,hv,hl⟩:=h.cls i s' w' hi z6 d hd;exact⟨v,xA _ hv,hl⟩
  ·rw[z1 n (zP _),hn]at z6;cases z6;rcases zW.1 hd with hd|hd
   ·obtain⟨v,hv,hl⟩:=h.cur s w hn d hd;exact⟨v,xA _ hv,hl⟩
   ·obtain rfl:=zQ.1 hd;exact⟨_,uj _ (by simp),.inl rfl⟩
  ·rcases zW.1 hd with hd|hd
   ·rcases h.org d hd with e'|⟨i,s',w',y,hi,e',hc⟩
    ·exact .inl e'
    ·have za:i≤n:=by rcases hc with hc|hc<;>omega
     exact .inr ⟨i,s',w',y,by rw[z1 i za];exact hi,e',hc.imp id fun⟨k1,c,k2,k3⟩=>⟨k1,c,xA _ k2,k3⟩⟩
   ·obtain rfl:=zQ.1 hd;exact .inr ⟨n,s,w,e.1,by rw[z1 n (zP _)];exact hn,rfl,.inr ⟨rfl,e,by simp,rfl⟩⟩
theorem BInv.round{n:Nat}:∀(es:List (Sy×σ)) (done:List (Sy×σ)) (L:List (σ×List Sy)) {s:σ} {w:List Sy},BInv ok step good succ s0 G n L done→L[n]? =some (s,w)→(∀e∈es,ok e.1∧e.2=step s e.1)→(∀e∈es,G e.2)→
  (done++es).Pairwise (fun a b=>sLt a.1 b.1)→BInv ok step good succ s0 G n (Uk L w es) (done++es)∧(Uk L w es)[n]? =some (s,w)
 |[],done,L,s,w,h,hn,_,_,_=>by simpa[Uk]using⟨h,hn⟩
 |e::es,done,L,s,w,h,hn,hm,hG,hp=>by have z1:∀d∈done,sLt d.1 e.1:=fun d hd=>(yF.1 hp).2.2 d hd e (by simp);obtain⟨h1,h2⟩:=h.add hn (hm e (by simp)) (hG e (by simp)) z1;have:=BInv.round es (done++[e]) _ h1 h2 (fun d hd=>hm d (by simp[hd])) (fun d hd=>hG d (by simp[hd])) (by simpa using hp);simpa[Uk]using this
theorem BInv.next{n:Nat}{L:List (σ×List Sy)}{s:σ}{w:List Sy}(h:BInv ok step good succ s0 G n L [])(hn:L[n]? =some (s,w))(hg:good s=false)(hs:SuccOk ok step s (succ s))(hG:∀e∈succ s,G e.2):
  BInv ok step good succ s0 G (n+1) (Uk L w (succ s)) []:=by
 obtain⟨h1,h2⟩:=h.round (succ s) [] L hn hs.mem hG (by simpa using hs.asc);rw[ww]at h1;refine⟨h1.first,h1.mem,h1.asc,h1.nd,fun i s' w' hi z1=> ?_,fun i s' w' hi z1 d hd=> ?_,fun _ _ _ _ hd=>(by cases hd),fun d hd=> ?_⟩
 ·by_cases hin:i<n
  ·exact h1.bad i s' w' hin z1
  ·have:i=n:=by omega
   subst this;rw[h2]at z1;cases z1;exact hg
 ·by_cases hin:i<n
  ·exact h1.cls i s' w' hin z1 d hd
  ·have:i=n:=by omega
   subst this;rw[h2]at z1;cases z1;exact h1.cur s w h2 d hd
 ·rcases h1.org d hd with e'|⟨i,s',w',y,hi,e',hc⟩
  ·exact .inl e'
  ·exact .inr ⟨i,s',w',y,hi,e',.inl (by rcases hc with hc|hc<;>omega)⟩
theorem BInv.reach{n:Nat}{L:List (σ×List Sy)}(h:BInv ok step good succ s0 G n L [])(hs:∀s,G s→SuccOk ok step s (succ s)):∀(r:List Sy),(∀x∈r,ok x)→
  (∃v,(Ua step s0 r.reverse,v)∈L∧lle v r.reverse)∨∃i s w,n≤i∧L[i]? =some (s,w)∧lle w r.reverse
 |[],_=> .inl ⟨[],zJ h.first,lle.refl _⟩
 |x::r,hx=>by
  have z1:ll r.reverse (x::r).reverse:=by rw[up];exact k1z _ _
  rcases BInv.reach h hs r (fun y hy=>hx y (by simp[hy]))with⟨v,hv,hl⟩|⟨i,s,w,h1,h2,h3⟩
  ·obtain⟨i,hi⟩:=yJ.1 hv;by_cases hin:i<n
   ·obtain⟨e,he,e1,e2⟩:=(hs _ (h.mem _ hv).2.2).cov x (hx x (by simp));obtain⟨u,hu,z6⟩:=h.cls i _ _ hin hi e he;refine .inl ⟨u,?_,?_⟩
    ·rw[up,Ua,wL];show(step (Ua step s0 r.reverse) x,u)∈L;rw[←e1];exact hu
    ·rw[up];exact z6.trans (w1x hl e2)
   ·exact .inr ⟨i,_,v,by omega,hi,hl.trans (.inr z1)⟩
  ·exact .inr ⟨i,s,w,h1,h2,h3.trans (.inr z1)⟩
theorem BInv.found{n:Nat}{L:List (σ×List Sy)}{s:σ}{w:List Sy}(h:BInv ok step good succ s0 G n L [])(hs:∀s,G s→SuccOk ok step s (succ s))(hn:L[n]? =some (s,w))(hg:good s=true):FirstW ok step good s0 w:=by
 have hm:=h.mem _ (zJ hn);refine⟨hm.1,by rw[hm.2.1];exact hg,fun v hv z1=> ?_⟩;have hle:∀i s' w',n≤i→L[i]? =some (s',w')→lle w w':=fun i s' w' hi hl=>by
  obtain⟨h1,h2⟩:=zB.1 hn;obtain⟨h3,h4⟩:=zB.1 hl;rcases Nat.lt_or_eq_of_le hi with hlt|rfl
  ·have:=yU.1 h.asc n i h1 h3 hlt;rw[h2,h4]at this;exact .inr this
  ·rw[hn]at hl;cases hl;exact .inl rfl
 rcases h.reach hs v.reverse (fun x hx=>hv x (by simpa using hx))with⟨u,hu,hl⟩|⟨i,s',w',h1,h2,h3⟩
 ·rw[ug]at hu hl;obtain⟨i,hi⟩:=yJ.1 hu;by_cases hin:i<n
  ·have:=h.bad i _ _ hin hi;rw[this]at z1;cases z1
  ·exact(hle i _ _ (by omega) hi).trans hl
 ·rw[ug]at h3;exact(hle i _ _ h1 h2).trans h3
theorem BInv.none{n:Nat}{L:List (σ×List Sy)}(h:BInv ok step good succ s0 G n L [])(hs:∀s,G s→SuccOk ok step s (succ s))(hn:L[n]? =none):
  (∀v,(∀x∈v,ok x)→Ua step s0 v∈L.map (·.1)∧good (Ua step s0 v)=false):=by
 intro v hv;have hlen:=List.getElem?_eq_none_iff.1 hn;rcases h.reach hs v.reverse (fun x hx=>hv x (by simpa using hx))with⟨u,hu,_⟩|⟨i,s',w',h1,h2,_⟩
 ·rw[ug]at hu;obtain⟨i,hi⟩:=yJ.1 hu;have:=(zB.1 hi).1;exact⟨zT.2 ⟨_,hu,rfl⟩,h.bad i _ _ (by omega) hi⟩
 ·have:=(zB.1 h2).1;omega
theorem z0h(hs:∀s,G s→SuccOk ok step s (succ s))(hG:∀s,G s→∀e∈succ s,G e.2)(U:List σ)(hU:∀s,G s→s∈U):∀(f n:Nat) (L:List (σ×List Sy)),U.length+1≤n+f→n≤L.length→BInv ok step good succ s0 G n L []→
  (∃w L',Bz good succ f n L=(some w,L')∧FirstW ok step good s0 w)∨
  (∃L',Bz good succ f n L=(Option.none,L')∧(L'.map (·.1)).Nodup∧(∀e∈L',(∀x∈e.2,ok x)∧Ua step s0 e.2=e.1∧G e.1)∧∀v,(∀x∈v,ok x)→Ua step s0 v∈L'.map (·.1)∧good (Ua step s0 v)=false)
 |0,n,L,hf,hn,h=>by
  exfalso;have:=Un _ U h.nd (fun s hs=>by
   obtain⟨e,he,rfl⟩:=zT.1 hs;exact hU _ (h.mem e he).2.2)
  simp at this;omega
 |f+1,n,L,hf,hn,h=>by
  rw[Bz];cases hl:L[n]? with
  |none=>exact .inr ⟨L,rfl,h.nd,h.mem,h.none hs hl⟩
  |some e=>
   obtain⟨s,w⟩:=e;simp only;cases hg:good s with
   |true=>rw[if_pos rfl];exact .inl ⟨w,L,rfl,h.found hs hl hg⟩
   |false=>
    rw[if_neg (by simp)];have z1:=(h.mem _ (zJ hl)).2.2;have h':=h.next hl hg (hs s z1) (hG s z1);refine z0h hs hG U hU f (n+1) _ (by omega) ?_ h';have z6:=(zB.1 hl).1;have z7:∀(es:List (Sy×σ)) (L:List (σ×List Sy)),L.length≤(Uk L w es).length:=by
     intro es;induction es with
     |nil=>intro L;exact zP _
     |cons e es ih=>
      intro L;refine yH ?_ (ih (z1z L e.2 (w++[e.1])));unfold z1z;split
      ·exact zP _
      ·simp
    exact yH z6 (z7 _ _)
theorem z0x(z1:G s0):BInv ok step good succ s0 G 0 [(s0,[])] []:=
 ⟨rfl,fun e he=>by obtain rfl:=zQ.1 he;exact⟨by simp,rfl,z1⟩,by simp,by simp,fun i _ _ hi=>by omega,fun i _ _ hi=>by omega,fun _ _ _ _ hd=>(by cases hd),fun d hd=>by obtain rfl:=zQ.1 hd;exact .inl rfl⟩
end
end Go.Abs
namespace Go.Abs
structure Dfa (a:Aut):Prop where
 ok:OkA a
 det:S7 a
 full:x0f a
def toL(a:Aut)(s:Int)(x:Sy):Int:=match a.mv.find? (fun m=>decide (m.src=s) && R7 m.on x)with|some m=>m.dst|none=> -1
def inS(a:Aut)(s:Int):Prop:=0≤s∧s<a.fin.length
theorem Dfa.next{a:Aut}(h:Dfa a){s:Int}(hs:inS a s){x:Sy}(hx:Rm a x):inS a (toL a s x)∧Wh a [s] x=[toL a s x]:=by
 obtain⟨t,t0,t1,e⟩:=w1n h.ok.wfA h.det h.full hs.1 hs.2 hx;obtain⟨m,hm,h1,h2⟩:=h.full s hs.1 hs.2 x hx;have hf:toL a s x=t:=by
  unfold toL;cases hq:a.mv.find? (fun m=>decide (m.src=s) && R7 m.on x)with
  |none=>have:=u5.1 hq m hm;simp[h1,h2]at this
  |some k=>have hk:=uM hq;have hp:=List.find?_some hq;simp at hp;have z1:k.dst∈Wh a [s] x:=E7.2 ⟨h.ok.wfA.dst k hk,k,hk,by rw[hp.1];simp,hp.2,rfl⟩;rw[e]at z1;exact zQ.1 z1
 rw[hf];exact⟨⟨t0,t1⟩,e⟩
theorem Dfa.to_of{a:Aut}(h:Dfa a){m:Mv}(hm:m∈a.mv){x:Sy}(hx:Rm a x)(hh:R7 m.on x=true):toL a m.src x=m.dst:=by have hs:inS a m.src:=h.ok.wfA.src m hm;have h1:=(h.next hs hx).2;have z1:m.dst∈Wh a [m.src] x:=E7.2 ⟨h.ok.wfA.dst m hm,m,hm,by simp,hh,rfl⟩;rw[h1]at z1;exact(zQ.1 z1).symm
theorem Dfa.move{a:Aut}(h:Dfa a){s:Int}(hs:inS a s){x:Sy}(hx:Rm a x):∃m∈a.mv,m.src=s∧R7 m.on x=true∧m.dst=toL a s x:=by obtain⟨m,hm,h1,h2⟩:=h.full s hs.1 hs.2 x hx;exact⟨m,hm,h1,h2,by rw[←h1,h.to_of hm hx h2]⟩
theorem q0x{a:Aut}{x y:Sy}(h:∀m∈a.mv,R7 m.on x=R7 m.on y)(s:Int):toL a s x=toL a s y:=by
 unfold toL;have:a.mv.find? (fun m=>decide (m.src=s) && R7 m.on x)=a.mv.find? (fun m=>decide (m.src=s) && R7 m.on y):=by
  generalize a.mv=l at h;induction l with
  |nil=>rfl
  |cons m l ih=>rw[uO,uO,h m (by simp),ih (fun k hk=>h k (by simp[hk]))]
 rw[this]
def stF(a:Aut)(s:Int)(w:List Sy):Int:=w.foldl (toL a) s
def z13(a:Aut)(s:Int)(w:List Sy):Bool:=a.fin.getD (stF a s w).toNat false
theorem Dfa.zero{a:Aut}(h:Dfa a):inS a 0:=⟨xN _,by have:=h.ok.fin;omega⟩
structure Ltr (T:Nat) (l cl:List Prd):Prop where
 prts:Prts T l cl
 asc:cl.Pairwise v0z
 len:∀p∈l,p.length=T
def okT(T:Nat)(x:Sy):Prop:=0≤x.ty∧x.ty.toNat<T∧inR x.num
theorem c1q{T:Nat}(hT:0<T){l:List Prd}(hl:∀p∈l,PCk T p):Ltr T l (Q5 T l):=by obtain⟨h1,h2⟩:=U5 hT hl;exact⟨h1,h2,fun p hp=>(hl p hp).1⟩
theorem g0l{p:Prd}{t:Nat}{n:Int}(h:Ib (Qy p 0).1 (Qy p 0).2 t n):sLt (Qp p) ⟨t,n⟩:=by unfold Ib at h;unfold sLt Qp;simp only;omega
theorem Ltr.least{T:Nat}{l cl:List Prd}(h:Ltr T l cl){c:Prd}(hc:c∈cl):okT T (Qp c)∧PM c (Qp c).ty.toNat (Qp c).num:=by have h1:=(Wz (h.prts.wf c hc) (h.prts.ne c hc)).1;have h2:=(h.prts.wf c hc).lt h1;exact⟨⟨by simp[Qp],by simpa[Qp]using h2.1,h2.2⟩,by simpa[Qp]using h1⟩
theorem Ltr.sig{T:Nat}{l cl:List Prd}(h:Ltr T l cl){c:Prd}(hc:c∈cl){x y:Sy}(hx:okT T x)(hy:okT T y)(z1:PM c x.ty.toNat x.num)(z6:PM c y.ty.toNat y.num):∀p∈l,R7 p x=R7 p y:=fun p hp=>by have h2:=((h.prts.cls c hc _ _ z1 _ _).1 z6).2.2 p hp;rw[wt,Tk (h.len p hp) x hx.1,Tk (h.len p hp) y hy.1];exact h2
theorem Ltr.cov{T:Nat}{l cl:List Prd}(h:Ltr T l cl){x:Sy}(hx:okT T x):∃c∈cl,PM c x.ty.toNat x.num∧(Qp c=x∨sLt (Qp c) x)∧∀p∈l,R7 p x=R7 p (Qp c):=by
 obtain⟨c,hc,hm⟩:=h.prts.all x.ty.toNat x.num hx.2.1 hx.2.2;obtain⟨h1,h2⟩:=h.least hc;refine⟨c,hc,hm,?_,h.sig hc hx h1 hm h2⟩;rcases(Wz (h.prts.wf c hc) (h.prts.ne c hc)).2 _ _ hm with⟨e1,e2⟩|hlt
 ·left;unfold Qp;rw[e1,e2,show((x.ty.toNat:Nat):Int)=x.ty by have:=hx.1;omega]
 ·right;have:=g0l hlt;have e:(⟨(x.ty.toNat:Int),x.num⟩:Sy)=x:=by rw[show((x.ty.toNat:Nat):Int)=x.ty by have:=hx.1;omega]
  rw[e]at this;exact this
theorem Ltr.ascS{T:Nat}{l cl:List Prd}(h:Ltr T l cl):(cl.map Qp).Pairwise sLt:=by
 refine wP.2 (h.asc.imp_of_mem fun {p q} hp hq hlt=> ?_);obtain⟨t,n,hm,z1⟩:=hlt;have h1:=z1 _ _ (Wz (h.prts.wf q hq) (h.prts.ne q hq)).1;have h2:Ib (Qy p 0).1 (Qy p 0).2 (Qy q 0).1 (Qy q 0).2:=by
  rcases(Wz (h.prts.wf p hp) (h.prts.ne p hp)).2 t n hm with⟨e1,e2⟩|h3
  ·rw[e1,e2];exact h1
  ·exact h3.trans h1
 exact g0l h2
def Eb(a b:Aut):List Sy:=(Q5 a.types.toNat (onA a++onA b)).map Qp
def Ts(a b:Aut)(s:Int×Int)(x:Sy):Int×Int:=(toL a s.1 x,toL b s.2 x)
def Ut(a b:Aut)(s:Int×Int):List (Sy×(Int×Int)):=(Eb a b).map fun x=>(x,Ts a b s x)
theorem Xg{a:Aut}{x:Sy}:okT a.types.toNat x↔Rm a x:=by
 unfold okT Rm;constructor
 ·rintro⟨h1,h2,h3⟩;exact⟨⟨h1,by omega⟩,h3⟩
 ·rintro⟨⟨h1,h2⟩,h3⟩;exact⟨h1,by omega,h3⟩
theorem q2b{a b:Aut}(ha:OkA a)(hb:OkA b)(ht:b.types=a.types):Ltr a.types.toNat (onA a++onA b) (Q5 a.types.toNat (onA a++onA b)):=
 c1q (by have:=ha.types;omega) fun p hp=>by
  rcases zW.1 hp with hp|hp
  ·exact Kr ha p hp
  ·rw[←ht];exact Kr hb p hp
theorem g0r{a:Aut}{m:Mv}(h:m∈a.mv):m.on∈onA a:=zT.2 ⟨m,h,rfl⟩
theorem Z4{a b:Aut}(ha:OkA a)(hb:OkA b)(ht:b.types=a.types)(s:Int×Int):SuccOk (Rm a) (Ts a b) s (Ut a b s):=by
 have hl:=q2b ha hb ht;refine⟨?_,fun e he=> ?_,fun y hy=> ?_⟩
 ·unfold Ut;exact wP.2 (hl.ascS.imp fun h=>h)
 ·obtain⟨x,hx,rfl⟩:=zT.1 he;obtain⟨c,hc,rfl⟩:=zT.1 hx;exact⟨Xg.1 (hl.least hc).1,rfl⟩
 ·obtain⟨c,hc,hm,hle,z1⟩:=hl.cov (Xg.2 hy);refine⟨(Qp c,Ts a b s (Qp c)),zT.2 ⟨Qp c,zT.2 ⟨c,hc,rfl⟩,rfl⟩,?_,hle⟩;unfold Ts;rw[q0x (fun m hm=>(z1 m.on (xA _ (g0r hm))).symm),q0x (a:=b) (fun m hm=>(z1 m.on (uj _ (g0r hm))).symm)]
def R0(a b:Aut)(s:Int×Int):Bool:=a.fin.getD s.1.toNat false != b.fin.getD s.2.toNat false
def I8(a b:Aut)(p q:Int):Option (List Sy)×List ((Int×Int)×List Sy):=Bz (R0 a b) (Ut a b) (a.fin.length * b.fin.length+1) 0 [((p,q),[])]
theorem X1(a b:Aut):∀(w:List Sy) (p q:Int),Ua (Ts a b) (p,q) w=(stF a p w,stF b q w)
 |[],_,_=>rfl
 |x::w,p,q=>X1 a b w (toL a p x) (toL b q x)
def Pl(a b:Aut):List (Int×Int):=(Ey a.fin.length).flatMap fun i=>(Ey b.fin.length).map fun j=>(i,j)
theorem Ob(a b:Aut):(Pl a b).length=a.fin.length * b.fin.length:=by unfold Pl;rw[List.length_flatMap,xX (g:=fun _=>b.fin.length) (fun i _=>by simp[Ey]),uA,List.sum_replicate_nat];simp[Ey]
theorem Au{a b:Aut}{s:Int×Int}(h1:inS a s.1)(h2:inS b s.2):s∈Pl a b:=by unfold Pl;rw[wU];exact⟨s.1,Ew.2 h1,zT.2 ⟨s.2,Ew.2 h2,rfl⟩⟩
def u1r(a b:Aut)(p q:Int)(w:List Sy):Prop:=FirstW (Rm a) (Ts a b) (R0 a b) (p,q) w
theorem Zk(a b:Aut)(p q:Int)(w:List Sy):R0 a b (Ua (Ts a b) (p,q) w)=true↔z13 a p w≠z13 b q w:=by rw[X1];simp[R0,z13]
theorem Cj{a b:Aut}(ha:Dfa a)(hb:Dfa b)(ht:b.types=a.types){p q:Int}(hp:inS a p)(hq:inS b q):
  (∃w,(I8 a b p q).1=some w∧u1r a b p q w)∨((I8 a b p q).1=none∧∀w,(∀x∈w,Rm a x)→z13 a p w=z13 b q w):=by
 have z1:∀x,Rm a x→Rm b x:=fun x hx=>by unfold Rm at *;rw[ht];exact hx
 rcases z0h (ok:=Rm a) (step:=Ts a b) (good:=R0 a b) (succ:=Ut a b) (s0:=(p,q)) (G:=fun s=>inS a s.1∧inS b s.2) (fun s _=>Z4 ha.ok hb.ok ht s)
  (fun s hs e he=>by
   obtain⟨h1,h2⟩:=(Z4 ha.ok hb.ok ht s).mem e he;rw[h2];exact⟨(ha.next hs.1 h1).1,(hb.next hs.2 (z1 _ h1)).1⟩) (Pl a b) (fun s hs=>Au hs.1 hs.2) (a.fin.length * b.fin.length+1) 0 [((p,q),[])] (by rw[Ob];omega) (by simp) (z0x ⟨hp,hq⟩)with⟨w,L,h1,h2⟩|⟨L,h1,_,_,h2⟩
 ·exact .inl ⟨w,by rw[I8,h1],h2⟩
 ·refine .inr ⟨by rw[I8,h1],fun w hw=> ?_⟩;have:=(h2 w hw).2;by_cases hd:z13 a p w=z13 b q w
  ·exact hd
  ·rw[(Zk a b p q w).2 hd]at this;cases this
end Go.Abs
namespace Go.Abs
def Q1(a:Aut)(s:Int):List Mv:=a.mv.filter fun m=>decide (m.src=s) && !Wf m.on
def Wo(a b:Aut)(s:Int×Int):List (Sy×(Int×Int)):=(Q1 a s.1).flatMap fun m=>(Q1 b s.2).filterMap fun n=>if Wf (Wc m.on n.on)then none else some (Qp (Wc m.on n.on),(m.dst,n.dst))
theorem En{a:Aut}{s:Int}{m:Mv}:m∈Q1 a s↔m∈a.mv∧m.src=s∧Wf m.on=false:=by unfold Q1;rw[xW];simp
theorem Sq{a b:Aut}{s:Int×Int}{e:Sy×(Int×Int)}:e∈Wo a b s↔∃m∈Q1 a s.1,∃n∈Q1 b s.2,Wf (Wc m.on n.on)=false∧e=(Qp (Wc m.on n.on),(m.dst,n.dst)):=by
 unfold Wo;rw[wU];constructor
 ·rintro⟨m,hm,h⟩;obtain⟨n,hn,h⟩:=vN.1 h;cases hv:Wf (Wc m.on n.on)
  ·rw[hv,if_neg (by simp)]at h;cases h;exact⟨m,hm,n,hn,hv,rfl⟩
  ·rw[hv,if_pos rfl]at h;cases h
 ·rintro⟨m,hm,n,hn,hv,rfl⟩;exact⟨m,hm,vN.2 ⟨n,hn,by rw[hv,if_neg (by simp)]⟩⟩
theorem Yp{T:Nat}{p:Prd}(h:PWf T p):Wf p=false↔∃t n,PM p t n:=by
 cases hv:Wf p
 ·simp only[true_iff];apply Classical.byContradiction;intro hn;have:=(Rz h).2 (fun t n hm=>hn ⟨t,n,hm⟩);rw[hv]at this;cases this
 ·simp only[Bool.true_eq_false,false_iff];rintro⟨t,n,hm⟩;exact(Rz h).1 hv t n hm
theorem Pu{T:Nat}{p:Prd}(h:PWf T p)(hn:∃t n,PM p t n):okT T (Qp p)∧PM p (Qp p).ty.toNat (Qp p).num∧∀x,okT T x→PM p x.ty.toNat x.num→Qp p=x∨sLt (Qp p) x:=by
 have h1:=Wz h hn;have h2:=h.lt h1.1;refine⟨⟨by simp[Qp],by simpa[Qp]using h2.1,h2.2⟩,by simpa[Qp]using h1.1,fun x hx hm=> ?_⟩;rcases h1.2 _ _ hm with⟨e1,e2⟩|hlt
 ·left;unfold Qp;rw[e1,e2,show((x.ty.toNat:Nat):Int)=x.ty by have:=hx.1;omega]
 ·right;have:=g0l hlt;have e:(⟨(x.ty.toNat:Int),x.num⟩:Sy)=x:=by rw[show((x.ty.toNat:Nat):Int)=x.ty by have:=hx.1;omega]
  rw[e]at this;exact this
theorem A7{a b:Aut}(ha:Dfa a)(hb:Dfa b)(ht:b.types=a.types){s:Int×Int}(h1:inS a s.1)(h2:inS b s.2):
  (∀e∈Wo a b s,Rm a e.1∧e.2=Ts a b s e.1)∧∀y,Rm a y→∃e∈Wo a b s,e.2=Ts a b s y∧(e.1=y∨sLt e.1 y):=by
 have z1:∀x,Rm a x→Rm b x:=fun x hx=>by unfold Rm at *;rw[ht];exact hx
 have z7:∀ {m n:Mv},m∈a.mv→n∈b.mv→PWf a.types.toNat m.on∧PWf a.types.toNat n.on:=fun hm hn=>⟨ha.ok.wfA.on _ hm,by rw[←ht];exact hb.ok.wfA.on _ hn⟩
 constructor
 ·intro e he;obtain⟨m,hm,n,hn,hv,rfl⟩:=Sq.1 he;obtain⟨m1,m2,_⟩:=En.1 hm;obtain⟨n1,n2,_⟩:=En.1 hn;obtain⟨w1,w2⟩:=z7 m1 n1;have hw:=Ya w1 w2.1;obtain⟨k1,k2,_⟩:=Pu hw ((Yp hw).1 hv);have hk:=Xg.1 k1;obtain⟨p1,p2⟩:=(Em w1.1 w2.1 _ _).1 k2;refine⟨hk,?_⟩;unfold Ts;rw[←m2,←n2,ha.to_of m1 hk ((Tk w1.1 _ hk.1.1).2 p1),hb.to_of n1 (z1 _ hk) ((Tk w2.1 _ hk.1.1).2 p2)]
 ·intro y hy;obtain⟨m,m1,m2,m3,m4⟩:=ha.move h1 hy;obtain⟨n,n1,n2,n3,n4⟩:=hb.move h2 (z1 y hy);obtain⟨w1,w2⟩:=z7 m1 n1;have hw:=Ya w1 w2.1;have p1:=(Tk w1.1 y hy.1.1).1 m3;have p2:=(Tk w2.1 y hy.1.1).1 n3;have z6:=(Em w1.1 w2.1 _ _).2 ⟨p1,p2⟩;have hv:=(Yp hw).2 ⟨_,_,z6⟩;refine⟨_,Sq.2 ⟨m,En.2 ⟨m1,m2,(Yp w1).2 ⟨_,_,p1⟩⟩,n,En.2 ⟨n1,n2,(Yp w2).2 ⟨_,_,p2⟩⟩,hv,rfl⟩,?_,(Pu hw ⟨_,_,z6⟩).2.2 y (Xg.2 hy) z6⟩;unfold Ts;rw[m4,n4]
def lkN(near:List ((Int×Int)×Nat))(s:Int×Int):Option Nat:=(near.find? fun e=>decide (e.1=s)).map (·.2)
def Gz(a:Aut)(near:List ((Int×Int)×Nat))(d:Nat)(s:Int×Int):Bool:=match d with
 |0=>R0 a a s
 |d+1=>(Wo a a s).any fun e=>decide (lkN near e.2=some d)
def T8(a:Aut)(near:List ((Int×Int)×Nat))(d:Nat):List (Int×Int):=(Pl a a).filter fun s=>decide (lkN near s=none) && Gz a near d s
def Jy(a:Aut):Nat→Nat→List ((Int×Int)×Nat)→List ((Int×Int)×Nat)
 |0,_,near=>near
 |f+1,d,near=>if T8 a near d=[]then near else Jy a f (d+1) (near++(T8 a near d).map fun s=>(s,d))
def Es(a:Aut):List ((Int×Int)×Nat):=Jy a (a.fin.length * a.fin.length+1) 1 ((T8 a [] 0).map fun s=>(s,0))
def inP(a:Aut)(s:Int×Int):Prop:=inS a s.1∧inS a s.2
def X8(a:Aut)(s:Int×Int)(d:Nat):Prop:=∃w:List Sy,w.length=d∧(∀x∈w,Rm a x)∧R0 a a (Ua (Ts a a) s w)=true
def O9(a:Aut)(s:Int×Int)(d:Nat):Prop:=X8 a s d∧∀k,k<d→¬X8 a s k
theorem Gu{a:Aut}{s:Int×Int}:X8 a s 0↔R0 a a s=true:=by
 constructor
 ·rintro⟨w,hw,_,h⟩;obtain rfl:=List.length_eq_zero_iff.1 hw;exact h
 ·intro h;exact⟨[],rfl,by simp,h⟩
theorem Ap{a:Aut}{s:Int×Int}{d:Nat}:X8 a s (d+1)↔∃y,Rm a y∧X8 a (Ts a a s y) d:=by
 constructor
 ·rintro⟨w,hw,ho,h⟩;cases w with
  |nil=>cases hw
  |cons y w=>exact⟨y,ho y (by simp),w,by simpa using hw,fun x hx=>ho x (by simp[hx]),h⟩
 ·rintro⟨y,hy,w,hw,ho,h⟩;exact⟨y::w,by simp[hw],fun x hx=>(yE.1 hx).elim (fun e=>by rw[e];exact hy) (ho x),h⟩
theorem Kj{a:Aut}{s:Int×Int}{d k:Nat}(h:O9 a s d)(h':O9 a s k):d=k:=by
 rcases Nat.lt_trichotomy d k with hlt|e|hlt
 ·exact absurd h.1 (h'.2 d hlt)
 ·exact e
 ·exact absurd h'.1 (h.2 k hlt)
theorem q0g{a:Aut}{s:Int×Int}:∀(d:Nat),X8 a s d→∃k,k≤d∧O9 a s k:=by
 intro d;induction d using Nat.strongRecOn with
 |_ d ih=>
  intro h;by_cases hk:∃k,k<d∧X8 a s k
  ·obtain⟨k,h1,h2⟩:=hk;obtain⟨j,h3,h4⟩:=ih k h1 h2;exact⟨j,by omega,h4⟩
  ·exact⟨d,zP _,h,fun k h1 h2=>hk ⟨k,h1,h2⟩⟩
theorem S8{a:Aut}{s:Int×Int}{d:Nat}(h:O9 a s (d+1)):∃y,Rm a y∧O9 a (Ts a a s y) d:=by obtain⟨y,hy,h1⟩:=Ap.1 h.1;refine⟨y,hy,h1,fun k hk h2=> ?_⟩;exact h.2 (k+1) (by omega) (Ap.2 ⟨y,hy,h2⟩)
theorem S9{a:Aut}(ha:Dfa a){s:Int×Int}(hs:inP a s){y:Sy}(hy:Rm a y):inP a (Ts a a s y):=⟨(ha.next hs.1 hy).1,(ha.next hs.2 hy).1⟩
structure NInv (a:Aut) (d:Nat) (near:List ((Int×Int)×Nat)):Prop where
 lk:∀s,inP a s→∀k,lkN near s=some k↔(k<d∧O9 a s k)
 keys:(near.map (·.1)).Nodup
 dom:∀e∈near,e.1∈Pl a a
theorem k1w(A:List ((Int×Int)×Nat))(B:List (Int×Int))(d:Nat)(s:Int×Int):lkN (A++B.map fun t=>(t,d)) s=match lkN A s with|some k=>some k|none=>if s∈B then some d else none:=by
 unfold lkN;rw[List.find?_append];cases hA:A.find? fun e=>decide (e.1=s)with
 |some e=>rfl
 |none=>
  simp only[Option.none_or,Option.map_none];by_cases hs:s∈B
  ·rw[if_pos hs];obtain⟨e,he⟩:=Option.isSome_iff_exists.1 (List.find?_isSome.2 ⟨(s,d),zT.2 ⟨s,hs,rfl⟩,by simp⟩:(List.find? (fun e:(Int×Int)×Nat=>decide (e.1=s)) (B.map fun t=>(t,d))).isSome);rw[he];obtain⟨t,_,rfl⟩:=zT.1 (uM he);rfl
  ·rw[if_neg hs];rw[u5.2 (fun e he=>by
    obtain⟨t,ht,rfl⟩:=zT.1 he;simp only[decide_eq_true_eq];rintro rfl;exact hs ht)]
   rfl
theorem Fk{A:List ((Int×Int)×Nat)}{s:Int×Int}:lkN A s=none↔s∉A.map (·.1):=by
 unfold lkN;rw[Option.map_eq_none_iff,u5];constructor
 ·intro h hs;obtain⟨e,he,rfl⟩:=zT.1 hs;exact h e he (by simp)
 ·intro h e he;simp only[decide_eq_true_eq];rintro rfl;exact h (zT.2 ⟨e,he,rfl⟩)
theorem f0y{a:Aut}{s:Int×Int}(h:s∈Pl a a):inP a s:=by obtain⟨i,hi,hs⟩:=wU.1 h;obtain⟨j,hj,rfl⟩:=zT.1 hs;exact⟨Ew.1 hi,Ew.1 hj⟩
theorem J4(a:Aut):(Pl a a).Nodup:=by have hr:∀n,(Ey n).Nodup:=fun n=>(Hp n).imp (fun h e=>by omega);unfold Pl List.Nodup;rw[List.pairwise_flatMap];refine⟨fun i _=>wP.2 ((hr _).imp fun h e=>h (Prod.mk.inj e).2),(hr _).imp fun {i j} hij x hx y hy e=> ?_⟩;obtain⟨u,_,rfl⟩:=zT.1 hx;obtain⟨v,_,rfl⟩:=zT.1 hy;exact hij (Prod.mk.inj e).1
theorem Je{a:Aut}(ha:Dfa a){d:Nat}{near:List ((Int×Int)×Nat)}(h:NInv a d near){s:Int×Int}:s∈T8 a near d↔inP a s∧O9 a s d:=by
 unfold T8;rw[xW];simp only[yR,decide_eq_true_eq];have z1:∀s,inP a s→(lkN near s=none↔∀k,k<d→¬X8 a s k):=fun s hs=>by
  constructor
  ·intro hn k hk hd;obtain⟨j,h1,h2⟩:=q0g k hd;have:=(h.lk s hs j).2 ⟨by omega,h2⟩;rw[hn]at this;cases this
  ·intro hk;cases hl:lkN near s with
   |none=>rfl
   |some k=>obtain⟨h1,h2⟩:=(h.lk s hs k).1 hl;exact absurd h2.1 (hk k h1)
 constructor
 ·rintro⟨h1,h2,h3⟩;have hs:=f0y h1;have hk:=(z1 s hs).1 h2;refine⟨hs,?_,hk⟩;cases d with
  |zero=>exact Gu.2 h3
  |succ d=>simp only[Gz,vz,decide_eq_true_eq]at h3;obtain⟨e,he,hl⟩:=h3;obtain⟨e1,e2⟩:=(A7 ha ha rfl hs.1 hs.2).1 e he;rw[e2]at hl;exact Ap.2 ⟨e.1,e1,((h.lk _ (S9 ha hs e1) d).1 hl).2.1⟩
 ·rintro⟨hs,h2⟩;refine⟨Au hs.1 hs.2,(z1 s hs).2 h2.2,?_⟩;cases d with
  |zero=>exact Gu.1 h2.1
  |succ d=>obtain⟨y,hy,hm⟩:=S8 h2;obtain⟨e,he,e1,_⟩:=(A7 ha ha rfl hs.1 hs.2).2 y hy;simp only[Gz,vz,decide_eq_true_eq];exact⟨e,he,by rw[e1];exact(h.lk _ (S9 ha hs hy) d).2 ⟨by omega,hm⟩⟩
theorem NInv.step{a:Aut}(ha:Dfa a){d:Nat}{near:List ((Int×Int)×Nat)}(h:NInv a d near):NInv a (d+1) (near++(T8 a near d).map fun s=>(s,d)):=by
 refine⟨fun s hs k=> ?_,?_,fun e he=> ?_⟩
 ·rw[k1w];cases hl:lkN near s with
  |some j=>
   obtain⟨h1,h2⟩:=(h.lk s hs j).1 hl;simp only[Option.some.injEq];constructor
   ·rintro rfl;exact⟨by omega,h2⟩
   ·rintro⟨_,h3⟩;exact Kj h2 h3
  |none=>
   simp only;have z1:∀k,k<d→¬O9 a s k:=fun k hk hm=>by have:=(h.lk s hs k).2 ⟨hk,hm⟩;rw[hl]at this;cases this
   by_cases hf:s∈T8 a near d
   ·rw[if_pos hf];have hm:=((Je ha h).1 hf).2;simp only[Option.some.injEq];constructor
    ·rintro rfl;exact⟨by omega,hm⟩
    ·rintro⟨_,h3⟩;exact Kj hm h3
   ·rw[if_neg hf];constructor
    ·intro hc;cases hc
    ·rintro⟨h1,h3⟩;by_cases hkd:k<d
     ·exact absurd h3 (z1 k hkd)
     ·have:k=d:=by omega
      subst this;exact absurd ((Je ha h).2 ⟨hs,h3⟩) hf
 ·rw[yP,List.map_map,vv];refine⟨h.keys,?_,fun x hx y hy e=> ?_⟩
  ·have:(T8 a near d).map ((·.1)∘fun s=>(s,d))=T8 a near d:=by exact(xX (g:=id) (fun _ _=>rfl)).trans (List.map_id _)
   rw[this];exact(J4 a).filter _
  ·subst e;obtain⟨t,ht,rfl⟩:=zT.1 hy;have:=(xW.1 ht).2;simp only[yR,decide_eq_true_eq]at this;exact Fk.1 this.1 hx
 ·rcases zW.1 he with he|he
  ·exact h.dom e he
  ·obtain⟨t,ht,rfl⟩:=zT.1 he;exact(xW.1 ht).1
theorem z0d{a:Aut}(ha:Dfa a):∀(k d:Nat) (s:Int×Int),inP a s→O9 a s (d+k)→∃t,inP a t∧O9 a t d
 |0,_,s,hs,h=>⟨s,hs,h⟩
 |k+1,d,s,hs,h=>by obtain⟨y,hy,hm⟩:=S8 (d:=d+k) h;exact z0d ha k d _ (S9 ha hs hy) hm
theorem q1l{a:Aut}(ha:Dfa a):∀(f d:Nat) (near:List ((Int×Int)×Nat)),a.fin.length * a.fin.length+1≤near.length+f→NInv a d near→∀s,inP a s→∀k,lkN (Jy a f d near) s=some k↔O9 a s k
 |0,d,near,hf,h=>by
  exfalso;have:=Un _ (Pl a a) h.keys (fun s hs=>by
   obtain⟨e,he,rfl⟩:=zT.1 hs;exact h.dom e he)
  rw[Ob,yB]at this;omega
 |f+1,d,near,hf,h=>by
  rw[Jy];by_cases he:T8 a near d=[]
  ·rw[if_pos he];intro s hs k;rw[h.lk s hs k];refine⟨fun hk=>hk.2,fun hm=>⟨?_,hm⟩⟩;by_cases hkd:k<d
   ·exact hkd
   ·exfalso;obtain⟨t,ht,z1⟩:=z0d ha (k - d) d s hs (by rw[show d+(k - d)=k by omega];exact hm);have:=(Je ha h).2 ⟨ht,z1⟩;rw[he]at this;cases this
  ·rw[if_neg he];have hl:=List.length_pos_iff.2 he;exact q1l ha f (d+1) _ (by simp;omega) (h.step ha)
theorem k0j{a:Aut}(ha:Dfa a):∀s,inP a s→∀k,lkN (Es a) s=some k↔O9 a s k:=by
 have h0:NInv a 0 []:=⟨fun s _ k=>by simp[lkN],by simp,by simp⟩
 have h1:=h0.step ha;rw[ww]at h1;exact q1l ha _ 1 _ (by omega) h1
def Zg(x y:Sy):Bool:=decide (x.ty<y.ty) || (decide (x.ty=y.ty) && decide (x.num<y.num))
def j0h(es:List (Sy×(Int×Int))):Option (Sy×(Int×Int)):=es.foldl (fun b e=>match b with|none=>some e|some c=>if Zg e.1 c.1 then some e else some c) none
theorem u1m(x y:Sy):Zg x y=true↔sLt x y:=by simp[Zg,sLt]
theorem Hg:∀(es:List (Sy×(Int×Int))) (c:Sy×(Int×Int)),∃e,es.foldl (fun b e=>match b with|none=>some e|some c=>if Zg e.1 c.1 then some e else some c) (some c)=some e∧(e=c∨e∈es)∧(e.1=c.1∨sLt e.1 c.1)∧∀f∈es,e.1=f.1∨sLt e.1 f.1
 |[],c=>⟨c,rfl,.inl rfl,.inl rfl,by simp⟩
 |f::es,c=>by
  rw[List.foldl_cons];simp only;cases hb:Zg f.1 c.1 with
  |true=>
   rw[if_pos rfl];have z6:=(u1m _ _).1 hb;obtain⟨e,h1,h2,h3,h4⟩:=Hg es f;refine⟨e,h1,.inr ?_,.inr ?_,fun g hg=> ?_⟩
   ·rcases h2 with rfl|h2
    ·simp
    ·simp[h2]
   ·rcases h3 with h3|h3
    ·rw[h3];exact z6
    ·exact h3.trans z6
   ·rcases yE.1 hg with rfl|hg
    ·exact h3
    ·exact h4 g hg
  |false=>
   rw[if_neg (by simp)];obtain⟨e,h1,h2,h3,h4⟩:=Hg es c;refine⟨e,h1,h2.imp id (fun h=>List.mem_cons_of_mem _ h),h3,fun g hg=> ?_⟩;rcases yE.1 hg with rfl|hg
   ·have hn:¬sLt g.1 c.1:=fun h=>by rw[(u1m _ _).2 h]at hb;cases hb
    have z1:c.1=g.1∨sLt c.1 g.1:=by
     rcases sLt.tri g.1 c.1 with h|h|h
     ·exact absurd h hn
     ·exact .inl h.symm
     ·exact .inr h
    rcases h3 with h3|h3
    ·rw[h3];exact z1
    ·rcases z1 with z1|z1
     ·rw[←z1];exact .inr h3
     ·exact .inr (h3.trans z1)
   ·exact h4 g hg
theorem Bj{es:List (Sy×(Int×Int))}(h:es≠[]):∃e,j0h es=some e∧e∈es∧∀f∈es,e.1=f.1∨sLt e.1 f.1:=by
 cases es with
 |nil=>exact absurd rfl h
 |cons c es=>
  obtain⟨e,h1,h2,h3,h4⟩:=Hg es c;refine⟨e,h1,by rcases h2 with rfl|h2<;>simp[*],fun f hf=> ?_⟩;rcases yE.1 hf with rfl|hf
  ·exact h3
  ·exact h4 f hf
def Yo(a:Aut)(near:List ((Int×Int)×Nat)):Nat→Int×Int→List Sy
 |0,_=>[]
 |d+1,s=>match j0h ((Wo a a s).filter fun e=>decide (lkN near e.2=some d))with
  |some e=>e.1::Yo a near d e.2
  |none=>⟨0,0⟩::Yo a near d (0,0)
theorem u15{x y:Sy}{v w:List Sy}(h:x=y∨sLt x y)(hl:v.length=w.length)(hv:x=y→lle v w):lle (x::v) (y::w):=by
 rcases h with rfl|h
 ·rcases hv rfl with rfl|hv
  ·exact .inl rfl
  ·rcases hv with hv|⟨h1,h2⟩
   ·omega
   ·exact .inr (.inr ⟨by simp[h1],.inr ⟨rfl,h2⟩⟩)
 ·exact .inr (.inr ⟨by simp[hl],.inl h⟩)
theorem Vt{a:Aut}(ha:Dfa a){near:List ((Int×Int)×Nat)}(hn:∀s,inP a s→∀k,lkN near s=some k↔O9 a s k):∀(d:Nat) (s:Int×Int),inP a s→O9 a s d→(Yo a near d s).length=d∧u1r a a s.1 s.2 (Yo a near d s)
 |0,s,hs,h=>⟨rfl,by simp[Yo],Gu.1 h.1,fun v hv hg=>by
   cases v with
   |nil=>exact .inl rfl
   |cons x v=>exact .inr (.inl (by simp[Yo]))⟩
 |d+1,s,hs,h=>by
  obtain⟨y,hy,hm⟩:=S8 h;obtain⟨e0,z8,za,_⟩:=(A7 ha ha rfl hs.1 hs.2).2 y hy;have zb:(Wo a a s).filter (fun e=>decide (lkN near e.2=some d))≠[]:=List.ne_nil_of_mem (xW.2 ⟨z8,by
   rw[za];simpa using(hn _ (S9 ha hs hy) d).2 hm⟩)
  obtain⟨e,h1,h2,h3⟩:=Bj zb;obtain⟨zc,zd⟩:=xW.1 h2;obtain⟨e1,e2⟩:=(A7 ha ha rfl hs.1 hs.2).1 e zc;have z1:inP a e.2:=by rw[e2];exact S9 ha hs e1
  have ze:O9 a e.2 d:=(hn _ z1 d).1 (by simpa using zd);obtain⟨i1,i2⟩:=Vt ha hn d e.2 z1 ze;rw[Yo,h1];simp only;refine⟨by simp[i1],fun x hx=> ?_,?_,fun v hv hg=> ?_⟩
  ·rcases yE.1 hx with rfl|hx
   ·exact e1
   ·exact i2.okw x hx
  ·have:=i2.goodw;show R0 a a (Ua (Ts a a) (Ts a a s e.1) (Yo a near d e.2))=true;rw[←e2];exact this
  ·by_cases hlen:v.length=d+1
   ·cases v with
    |nil=>cases hlen
    |cons z v=>
     have hz:=hv z (by simp);have z6:v.length=d:=by simpa using hlen
     have z7:R0 a a (Ua (Ts a a) (Ts a a s z) v)=true:=hg;have zf:O9 a (Ts a a s z) d:=by refine⟨⟨v,z6,fun x hx=>hv x (by simp[hx]),z7⟩,fun k hk hd=> ?_⟩;exact h.2 (k+1) (by omega) (Ap.2 ⟨z,hz,hd⟩)
     obtain⟨f,hf,f1,f2⟩:=(A7 ha ha rfl hs.1 hs.2).2 z hz;have zg:f∈(Wo a a s).filter (fun e=>decide (lkN near e.2=some d)):=xW.2 ⟨hf,by
      rw[f1];simpa using(hn _ (S9 ha hs hz) d).2 zf⟩
     have hle:e.1=z∨sLt e.1 z:=by
      rcases h3 f zg with h4|h4
      ·rcases f2 with f2|f2
       ·exact .inl (h4.trans f2)
       ·rw[h4];exact .inr f2
      ·rcases f2 with f2|f2
       ·rw[←f2];exact .inr h4
       ·exact .inr (h4.trans f2)
     refine u15 hle (by rw[i1,z6]) fun zh=> ?_;refine i2.least v (fun x hx=>hv x (by simp[hx])) ?_;show R0 a a (Ua (Ts a a) e.2 v)=true;rw[e2,zh];exact z7
   ·have zi:d+1≤v.length:=by
     by_cases hlt:v.length<d+1
     ·exact absurd ⟨v,rfl,hv,hg⟩ (h.2 _ hlt)
     ·omega
    exact .inr (.inl (by simp[i1];omega))
theorem Nj{a:Aut}(ha:Dfa a){p q:Int}(hp:inS a p)(hq:inS a q):(I8 a a p q).1=(lkN (Es a) (p,q)).map fun d=>Yo a (Es a) d (p,q):=by
 have hn:=k0j ha;have z1:inP a (p,q):=⟨hp,hq⟩
 rcases Cj ha ha rfl hp hq with⟨w,h1,h2⟩|⟨h1,h2⟩
 ·obtain⟨d,_,hm⟩:=q0g (a:=a) (s:=(p,q)) w.length ⟨w,rfl,h2.okw,h2.goodw⟩;rw[h1,(hn _ z1 d).2 hm,Option.map_some,h2.unique (Vt ha hn d _ z1 hm).2]
 ·rw[h1];cases hl:lkN (Es a) (p,q)with
  |none=>rfl
  |some d=>exfalso;obtain⟨w,_,hw,hg⟩:=((hn _ z1 d).1 hl).1;exact(Zk a a p q w).1 hg (h2 w hw)
end Go.Abs
namespace Go.Abs
open Go Go.Proofs
theorem c1y{T:Nat}{p:Prd}(h:PWf T p){s:List Iv}(hs:s∈p):∀x∈s,Ia x:=q0k (h.2 s hs).1 (h.2 s hs).2
attribute [local irreducible] R9 Ej
theorem Oc(p:Prd):PC Tryz.prog 76 [encP p] (fun r=>r= .bool (Wf p)):=by
 refine Qk tOk Tryz.func76 rfl Tryz.results76 rfl (by simp[Tryz.ntmps76]) ?_;rw[Tryz.ntmps76];simp only[Qg];simp only[encP];refine W2 0 0 rfl rfl (fun hlen=> ?_);rw[yB]at hlen;obtain⟨R,hR⟩:∃R,Wf p=R:=⟨_,rfl⟩
 rw[hR];repeat first|(refine r_ ?_;simp)|refine q_ ?_
 refine Qt p.length (fun j=>Wf (p.drop j)=R) (fun j=>[(1,.vptr 0 0),(3,.i j)]) (fun _=>[.vars [.list (p.map encL)]]) rfl (by simp) (by simp) (by simp) (by simp) (by simpa using hR) ?_;intro j hj hI ih;repeat first|(refine r_ ?_;simp)|refine q_ ?_
 refine Qa rfl (fun z7=> ?_) (fun z8=> ?_)
 ·have z1:j<p.length:=by simpa using z7
  have hw:IntKind.i64.wrap ((j:Int)+1)=j+1:=wrap_i64 _ (by omega) (by omega);rw[W3 z1,Wf,List.all_cons]at hI;repeat first|(refine r_ ?_;simp[z1])|refine q_ ?_
  refine Qa rfl (fun h3=> ?_) (fun h3=> ?_)
  ·repeat first|(refine r_ ?_;simp)|refine q_ ?_
   have:p[j].isEmpty=false:=by simp at h3;cases hp:p[j]with|nil=>rw[hp]at h3;simp at h3|cons _ _=>rfl
   rw[this,uJ]at hI;exact hI.symm
  ·have:p[j].isEmpty=true:=by simp at h3;simp[h3]
   rw[this,uP]at hI;repeat first|(refine r_ ?_;simp[hw])|refine q_ ?_
   refine Qr _ (ih z1 hI) rfl (by simp) ?_ (by simp) (by simp);simp
 ·have z6:j=p.length:=by simp at z8;omega
  subst z6;repeat first|(refine r_ ?_;simp)|refine q_ ?_
  rw[←hI,xF];rfl
theorem Po:∀(p:Prd) (i:Nat),(∃s∈p,s≠[])→∃t x r,p[t]? =some (x::r)∧Qy p i=(i+t,x.lo)∧∀j,j<t→p[j]? =some []
 |[],i,h=>by obtain⟨s,hs,_⟩:=h;cases hs
 |[]::p,i,h=>by
  obtain⟨t,x,r,h1,h2,h3⟩:=Po p (i+1) (by obtain⟨s,hs,hn⟩:=h;rcases yE.1 hs with rfl|hs;exact absurd rfl hn;exact⟨s,hs,hn⟩);refine⟨t+1,x,r,by simpa using h1,by rw[Qy,h2];congr 1;omega,fun j hj=> ?_⟩;cases j with
  |zero=>rfl
  |succ j=>simpa using h3 j (by omega)
 |(x::r)::p,i,_=>⟨0,x,r,rfl,by simp[Qy],fun j hj=>by omega⟩
theorem Dd(p:Prd)(hn:Wf p=false):PC Tryz.prog 67 [encP p] (fun r=>r=encSy (Qp p)):=by
 refine Qk tOk Tryz.func67 rfl Tryz.results67 rfl (by simp[Tryz.ntmps67]) ?_;rw[Tryz.ntmps67];simp only[Qg];simp only[encP];refine W2 0 0 rfl rfl (fun hlen=> ?_);rw[yB]at hlen;obtain⟨t,x,r,h1,h2,h3⟩:=Po p 0 (by
  unfold Wf at hn;rw[v_]at hn;obtain⟨s,hs,he⟩:=hn;exact⟨s,hs,fun e=>by rw[e]at he;simp at he⟩)
 have hL:Qp p=⟨(t:Int),x.lo⟩:=by rw[Qp,h2];simp
 rw[hL];have ht:=(zB.1 h1).1;have z6:p[t]=x::r:=(zB.1 h1).2;repeat first|(refine r_ ?_;simp)|refine q_ ?_
 refine Qt t (fun _=>True) (fun j=>[(1,.vptr 0 0),(2,.vptr 1 0),(3,.i j)]) (fun _=>[.vars [.list (p.map encL)],.vars [.i 0,.i 0]]) rfl (by simp) (by simp) (by simp) (by simp) trivial ?_;intro j hj _ ih;have z1:j<p.length:=by omega
 have hw:IntKind.i64.wrap ((j:Int)+1)=j+1:=wrap_i64 _ (by omega) (by omega);repeat first|(refine r_ ?_;simp[z1])|refine q_ ?_
 refine Ql rfl ?_;simp[z1];repeat first|(refine r_ ?_;simp[z1])|refine q_ ?_
 by_cases hjt:j=t
 ·subst hjt;have z8:¬(p[j].length=0):=by rw[z6];simp
  have zb:0<p[j].length:=by omega
  repeat first|(refine r_ ?_;simp[z1,z6])|refine q_ ?_
  refine Qa rfl (fun h=> ?_) (fun h=> ?_)
  ·repeat first|(refine r_ ?_;simp[z1,z6])|refine q_ ?_
  ·exfalso;rw[z6]at h;simp at h
 ·have za:=h3 j (by omega);have z7:p[j]=[]:=(zB.1 za).2;repeat first|(refine r_ ?_;simp[z1,z7])|refine q_ ?_
  refine Qa rfl (fun h=> ?_) (fun h=> ?_)
  ·exfalso;rw[z7]at h;simp at h
  ·repeat first|(refine r_ ?_;simp[hw])|refine q_ ?_
   refine Qr _ (ih (by omega) trivial) rfl (by simp) ?_ (by simp) (by simp);simp
theorem M4(x y:Sy):PC Tryz.prog 191 [encSy x,encSy y] (fun r=>r= .bool (Zg x y)):=by
 refine Qk tOk Tryz.func191 rfl Tryz.results191 rfl (by simp[Tryz.ntmps191]) ?_;rw[Tryz.ntmps191];simp only[Qg];simp only[encSy];repeat first|(refine r_ ?_;simp)|refine q_ ?_
 by_cases h:x.ty=y.ty<;>simp[Zg,h]
theorem q17(T:Int)(x:Sy):PC Tryz.prog 150 [.i T,encSy x] (fun r=>r= .i (P6 T x)):=by
 refine Qk tOk Tryz.func150 rfl Tryz.results150 rfl (by simp[Tryz.ntmps150]) ?_;rw[Tryz.ntmps150];simp only[Qg];simp only[encSy];repeat first|(refine r_ ?_;simp)|refine q_ ?_
 refine Qa rfl (fun h=> ?_) (fun h=> ?_)
 ·repeat first|(refine r_ ?_;simp)|refine q_ ?_
  rw[P6,if_pos (by simpa using h)]
 have h1:¬(x.ty<0∨T≤x.ty):=by simpa using h
 repeat first|(refine r_ ?_;simp)|refine q_ ?_
 refine Qa rfl (fun h=> ?_) (fun h=> ?_)
 ·repeat first|(refine r_ ?_;simp)|refine q_ ?_
  rw[P6,if_neg h1,if_pos (by simpa using h)]
 have h2:¬(x.num< -1099511627776∨1099511627776<x.num):=by simpa using h
 repeat first|(refine r_ ?_;simp)|refine q_ ?_
 rw[P6,if_neg h1,if_neg h2]
end Go.Abs
namespace Go.Abs
open Go Go.Proofs
attribute [local irreducible] R9 Ej upL Wv
theorem w1z{c p:Prd}(h:c.length=p.length):(yO c.length).map (fun i=>R9 (c.getD i []) (p.getD i []))=Wc c p:=by
 refine wQ (by simp[Wc,h]) fun i h1 h2=> ?_;have hc:i<c.length:=by simpa using h1
 have hp:i<p.length:=by omega
 simp[Wc,yX,hc,hp]
theorem A3(T:Nat)(c p:Prd)(hc:PWf T c)(hp:PWf T p)(zf:∀s∈c,∀t∈p,s.length+t.length≤1000000000)(hT:T≤1000):PC Tryz.prog 109 [encP c,encP p] (fun r=>r=encP (Wc c p)):=by
 refine Qk tOk Tryz.func109 rfl Tryz.results109 rfl (by simp[Tryz.ntmps109]) ?_;rw[Tryz.ntmps109];simp only[Qg];simp only[encP];have hlen:c.length=p.length:=by rw[hc.1,hp.1]
 have zm:=hc.1;repeat first|(refine r_ ?_;simp)|refine q_ ?_
 refine Eg 3 0 171 1 rfl rfl ?_;simp;obtain⟨K,hK⟩:∃K,K=[AObj.vars [.list (c.map encL)],AObj.vars [.list (p.map encL)],AObj.vars [AV.nils],AObj.vars [AV.nils]]:=⟨_,rfl⟩
 have zg:=GL.start (K:=K) (S:=3) [] [] 171 1 (by rw[hK];simp);refine Qo (Qc (sl':=[(2,.vptr 0 0),(3,.vptr 1 0),(4,.vptr 2 0),(5,.vptr 3 0),(6,.i 0)]) ?_ (by simp));refine Qn (F:=fun(u:Nat×Nat×List AObj)=>⟨[(2,.vptr 0 0),(3,.vptr 1 0),(4,.vptr 2 0),(5,.vptr 3 0),(6,.i u.1)],u.2.2⟩)
  (fun u=>u.1≤c.length∧GL K u.2.2 3 u.2.1 [] [] 171 1 (upL (fun i=>R9 (c.getD i []) (p.getD i [])) u.1)) (fun u=>c.length - u.1) ?_ (0,K.length,_) ⟨by simp,by rw[Se,hK]at *;exact zg⟩
 rintro⟨j,q,H2⟩ ⟨hj,g⟩ ih;simp only[vY,ww]at hj g ih ⊢;have g0:H2[0]? =some (AObj.vars [.list (c.map encL)]):=g.kp (by decide) (by rw[hK];rfl);have g1:H2[1]? =some (AObj.vars [.list (p.map encL)]):=g.kp (by decide) (by rw[hK];rfl);have gR:H2[2]? =some (AObj.vars [AV.nils]):=g.kp (by decide) (by rw[hK];rfl);have g2:=g.cell;have g3:=g.arr;rw[W9]at g2;simp only[ww]at g2;repeat first|(refine r_ ?_;simp[g0])|refine q_ ?_
 refine Qa rfl (fun zh=> ?_) (fun zi=> ?_)
 ·have z1:j<c.length:=by simpa using zh
  have hw:IntKind.i64.wrap ((j:Int)+1)=j+1:=wrap_i64 _ (by omega) (by omega);have z7:∀L:List AObj,(H2.set q .dead++L)[3]? =some (AObj.vars [AV.sl q 1 0 j]):=fun L=>by have:=g.at L;rw[W9]at this;exact this
  have zb:∀(L:List AObj) (h:3<(H2.set q .dead++L).length),(H2.set q .dead++L)[3]'h=AObj.vars [AV.sl q 1 0 j]:=fun L h=>by have:=z7 L;rw[zK h]at this;exact Option.some.inj this
  have zc:=fun A y=>g.put A y (W9 _ _).symm;have zj:upL (fun i=>R9 (c.getD i []) (p.getD i [])) j++[encL ((fun i=>R9 (c.getD i []) (p.getD i [])) j)]=upL (fun i=>R9 (c.getD i []) (p.getD i [])) (j+1):=(Ac _ _).symm;have z6:=fun H=>ih (j+1,H2.length+1,H);have z8:=W9 (fun i=>R9 (c.getD i []) (p.getD i [])) j;simp only[←zj]at z6;have za:j<p.length:=by omega
  have hs:=hc.2 _ (zL z1);have zk:=hp.2 _ (zL za);simp only[Wu z1,Wu za]at *
  repeat first|(refine r_ ?_;simp[g0,g1,g2])|refine q_ ?_
  refine Qm tOk mixed [14,16] (.val 0 (.val 1 (.val 2 (.val 3 (.val 4 (.val 5 (.val 6 (.val 7 (.val 8 (.val 9 (.val 10 (.val 11 (.one 12 (.one 13 (.one 14 (.val 15 (.one 16 (.done)))))))))))))))))) rfl (by kernel_rfl) ?_;simp[z1,za,g0,g1,g2];refine Qe rfl rfl (by simp) (f07 c[j] p[j] hs.1 zk.1 (zf _ (zL z1) _ (zL za)) (c1y hc (zL z1))) rfl ?_;rintro _ rfl;simp;repeat first|(refine r_ ?_;simp[g0,g1,g2])|refine q_ ?_
  generalize upL (fun i=>R9 (c.getD i []) (p.getD i [])) j=xs at *
  refine Qf tOk rfl rfl T74 rfl Ig rfl (by decide) (by decide) rfl rfl rfl ?_;simp[Qb g3,Qj g3,z8,z7,zb];refine⟨by simp[Wi,Qb g3,Qj g3,z8,z7,zb]<;>omega,?_⟩;repeat first|(refine r_ ?_;simp[g0,g2,hw,z7,zb])|refine q_ ?_
  refine Qc (sl':=[(2,.vptr 0 0),(3,.vptr 1 0),(4,.vptr 2 0),(5,.vptr 3 0),(6,.i (j+1:Nat))]) (z6 _ ⟨by omega,zc _ _⟩ (by omega)) ?_;simp
 ·have zd:j=c.length:=by(simp at zi;omega)
  subst zd;have hS:=(zB.1 g2).1;have zl:q≠2∧q≠3:=by have:=g.ge;rw[hK]at this;simp at this;omega
  have z8:=W9 (fun i=>R9 (c.getD i []) (p.getD i [])) (c.length);have ze: .list (upL (fun i=>R9 (c.getD i []) (p.getD i [])) (c.length))=AV.list ((Wc c p).map encL):=by rw[Gy];rw[w1z hlen]
  generalize upL (fun i=>R9 (c.getD i []) (p.getD i [])) (c.length)=xs at *
  refine Wg q g3 3 g2 ?_;have k1:∀X,((H2.set q .dead).set 3 X)[2]? =some (AObj.vars [AV.nils]):=fun X=>Qd (by decide) (Qd zl.1 gR _) _;have k2:∀X,((H2.set q .dead).set 3 X)[3]? =some X:=fun X=>zO (by simpa using hS);have k3:∀X Y,(((H2.set q .dead).set 3 X).set 2 Y)[2]? =some Y:=fun X Y=>Qi (k1 X) _;simp[z8];rw[zR (by omega)];repeat first|(refine r_ ?_;simp[k1,k2,k3])|refine q_ ?_
  exact AV.list.inj ze
end Go.Abs
namespace Go.Abs
open Go Go.Proofs
attribute [local irreducible] Pj
theorem z1r(p:Prd)(x:Sy)(hl:∀s∈p,s.length≤1000000000):PC Tryz.prog 127 [encP p,encSy x] (fun r=>r= .bool (R7 p x)):=by
 refine Qk tOk Tryz.func127 rfl Tryz.results127 rfl (by simp[Tryz.ntmps127]) ?_;rw[Tryz.ntmps127];simp only[Qg];simp only[encP,encSy];repeat first|(refine r_ ?_;simp)|refine q_ ?_
 by_cases h0:0≤x.ty
 ·by_cases h1:x.ty<p.length
  ·have h2:x.ty.toNat<p.length:=by omega
   refine Qm tOk mixed [] (.val 0 (.val 1 (.val 2 (.val 3 (.val 4 (.val 5 (.val 6 (.val 7 (.val 8 (.val 9 (.val 10 (.val 11 (.val 12 (.val 13 (.val 14 (.val 15 (.val 16 (.val 17 (.val 18 (.val 19 (.one 20 (.val 21 (.val 22 (.done)))))))))))))))))))))))) rfl (by kernel_rfl) ?_;simp[h0,h1,h2];refine Qe rfl rfl (by simp) (g1z p[x.ty.toNat] x.num (hl _ (zL h2))) rfl ?_;rintro _ rfl;simp;repeat first|(refine r_ ?_;simp[h0,h1,h2])|refine q_ ?_
   simp[R7,h0,h1,yX,h2]
  ·refine Qm tOk mixed [] (.val 0 (.val 1 (.val 2 (.val 3 (.val 4 (.val 5 (.val 6 (.val 7 (.val 8 (.val 9 (.val 10 (.val 11 (.val 12 (.val 13 (.val 14 (.val 15 (.val 16 (.val 17 (.val 18 (.val 19 (.one 20 (.val 21 (.val 22 (.done)))))))))))))))))))))))) rfl (by kernel_rfl) ?_;simp[h0,h1];refine Q9 rfl rfl ?_;simp[h0,h1];repeat first|(refine r_ ?_;simp[h0,h1])|refine q_ ?_
   simp[R7,h0,h1]
 ·refine Qm tOk mixed [] (.val 0 (.val 1 (.val 2 (.val 3 (.val 4 (.val 5 (.val 6 (.val 7 (.val 8 (.val 9 (.val 10 (.val 11 (.val 12 (.val 13 (.val 14 (.val 15 (.val 16 (.val 17 (.val 18 (.val 19 (.one 20 (.val 21 (.val 22 (.done)))))))))))))))))))))))) rfl (by kernel_rfl) ?_;simp[h0];refine Q9 rfl rfl ?_;simp[h0];repeat first|(refine r_ ?_;simp[h0])|refine q_ ?_
  simp[R7,h0]
def B0(a:Aut)(i k:Nat):Bool:=decide ((a.mv.getD i default).src=(a.mv.getD k default).src) && z0n (a.mv.getD i default).on (a.mv.getD k default).on
theorem Bf{a:Aut}{i k:Nat}(hi:i<a.mv.length)(hk:k<i)(h:B0 a i k=true):Ny a=false:=by unfold Ny;rw[v_];refine⟨i,y_.2 hi,?_⟩;rw[Bool.not_eq_true,v_];exact⟨k,y_.2 hk,by unfold B0 at h;rw[h];simp⟩
theorem w0z{a:Aut}(h:∀i,i<a.mv.length→∀k,k<i→B0 a i k=false):Ny a=true:=by unfold Ny;rw[zX];intro i hi;rw[zX];intro k hk;have:=h i (y_.1 hi) k (y_.1 hk);unfold B0 at this;rw[this];rfl
theorem z0o{a:Aut}{i k:Nat}(hi:i<a.mv.length)(hk:k<a.mv.length):B0 a i k=(decide (a.mv[i].src=a.mv[k].src) && z0n a.mv[i].on a.mv[k].on):=by simp[B0,yX,hi,hk]
theorem Pd{a:Aut}(h:OkA a){m:Mv}(hm:m∈a.mv):∀s∈m.on,s.length≤256:=fun s hs=>((h.mv m hm).on.2 s hs).len
attribute [local irreducible] B0 z0n Wc Wf
theorem x0k(a:Aut)(h:OkA a):PC Tryz.prog 43 [encA a] (fun r=>r= .bool (Ny a)):=by
 refine Qk tOk Tryz.func43 rfl Tryz.results43 rfl (by simp[Tryz.ntmps43]) ?_;rw[Tryz.ntmps43];simp only[Qg];simp only[encA];have zo:=h.mvs;repeat first|(refine r_ ?_;simp)|refine q_ ?_
 refine Qt a.mv.length (fun j=>∀i,i<j→∀k,k<i→B0 a i k=false) (fun j=>[(1,.vptr 0 0),(3,.i j)]) (fun _=>[.vars (Q4 a)]) rfl (by simp) (by simp) (by simp) (by simp) (by simp) ?_;intro j hj hI ih;repeat first|(refine r_ ?_;simp)|refine q_ ?_
 refine Qa rfl (fun zm=> ?_) (fun zn=> ?_)
 ·have z1:j<a.mv.length:=by simpa using zm
  have hw:IntKind.i64.wrap ((j:Int)+1)=j+1:=wrap_i64 _ (by omega) (by omega);repeat first|(refine r_ ?_;simp)|refine q_ ?_
  refine Qt j (fun k=>∀k',k'<k→B0 a j k'=false) (fun k=>[(1,.vptr 0 0),(3,.i j),(4,.i k)]) (fun _=>[.vars (Q4 a)]) rfl (by simp) (by simp) (by simp) (by simp) (by simp) ?_;intro k hk zg zh;repeat first|(refine r_ ?_;simp)|refine q_ ?_
  refine Qa rfl (fun zb=> ?_) (fun zc=> ?_)
  ·have zd:k<j:=by simpa using zb
   have za:k<a.mv.length:=by omega
   have zi:IntKind.i64.wrap ((k:Int)+1)=k+1:=wrap_i64 _ (by omega) (by omega);have z6:=z0o (a:=a) z1 za;have zj:B0 a j k=false→∀k',k'<k+1→B0 a j k'=false:=fun hb k' ze=>by
    by_cases e:k'=k
    ·rw[e];exact hb
    ·exact zg k' (by omega)
   by_cases he:a.mv[j].src=a.mv[k].src
   ·rw[decide_eq_true he,uP]at z6;repeat first|(refine r_ ?_;simp)|refine q_ ?_
    refine Qm tOk mixed [] (.val 0 (.val 1 (.val 2 (.val 3 (.val 4 (.val 5 (.val 6 (.val 7 (.val 8 (.val 9 (.val 10 (.val 11 (.val 12 (.val 13 (.val 14 (.val 15 (.val 16 (.val 17 (.val 18 (.val 19 (.val 20 (.val 21 (.val 22 (.val 23 (.val 24 (.val 25 (.one 26 (.one 27 (.val 28 (.val 29 (.done))))))))))))))))))))))))))))))) rfl (by kernel_rfl) ?_;simp[z1,za,he];have zk:=zL z1;have zl:=zL za;refine Qe rfl rfl (by simp) (A3 a.types.toNat a.mv[j].on a.mv[k].on (h.mv _ zk).on.wf (h.mv _ zl).on.wf (fun s hs t ht=>by have:=Pd h zk s hs;have:=Pd h zl t ht;omega) (by have:=h.types;omega)) rfl ?_;rintro _ rfl;simp;repeat first|(refine r_ ?_;simp)|refine q_ ?_
    refine Qe rfl rfl (by simp) (Oc (Wc a.mv[j].on a.mv[k].on)) rfl ?_;rintro _ rfl;simp;repeat first|(refine r_ ?_;simp)|refine q_ ?_
    refine Qa rfl (fun h3=> ?_) (fun h3=> ?_)
    ·repeat first|(refine r_ ?_;simp)|refine q_ ?_
     rw[Bf z1 zd (by rw[z6,z0n];simpa using h3)]
    ·repeat first|(refine r_ ?_;simp[zi])|refine q_ ?_
     refine Qr _ (zh zd (zj (by rw[z6,z0n];simpa using h3))) rfl (by simp) ?_ (by simp) (by simp);simp
   ·rw[decide_eq_false he,uJ]at z6;have z7:(a.mv[j].src==a.mv[k].src)=false:=beq_eq_false_iff_ne.2 he;repeat first|(refine r_ ?_;simp)|refine q_ ?_
    refine Qm tOk mixed [] (.val 0 (.val 1 (.val 2 (.val 3 (.val 4 (.val 5 (.val 6 (.val 7 (.val 8 (.val 9 (.val 10 (.val 11 (.val 12 (.val 13 (.val 14 (.val 15 (.val 16 (.val 17 (.val 18 (.val 19 (.val 20 (.val 21 (.val 22 (.val 23 (.val 24 (.val 25 (.one 26 (.one 27 (.val 28 (.val 29 (.done))))))))))))))))))))))))))))))) rfl (by kernel_rfl) ?_;simp[z1,za,z7];refine Q9 rfl rfl ?_;simp[z7];repeat first|(refine r_ ?_;simp[z7])|refine q_ ?_
    refine Q9 rfl rfl ?_;simp[z7];repeat first|(refine r_ ?_;simp[z7])|refine q_ ?_
    refine Ql rfl ?_;repeat first|(refine r_ ?_;simp[zi])|refine q_ ?_
    refine Qr _ (zh zd (zj z6)) rfl (by simp) ?_ (by simp) (by simp);simp
  ·have z8:k=j:=by simp at zc;omega
   subst z8;repeat first|(refine r_ ?_;simp[hw])|refine q_ ?_
   refine Qr _ (ih z1 (fun i hi k' ze=> ?_)) rfl (by simp) ?_ (by simp) (by simp)
   ·by_cases e:i=k
    ·subst e;exact zg k' ze
    ·exact hI i (by omega) k' ze
   ·simp
 ·have zf:j=a.mv.length:=by simp at zn;omega
  subst zf;repeat first|(refine r_ ?_;simp)|refine q_ ?_
  rw[w0z hI]
def x1i(a:Aut):Bool×Int:=if Wx a=0 then(Ny a,0)else(false,Wx a)
end Go.Abs
namespace Go.Abs
open Go Go.Proofs
def ovl(x y:Iv):Bool:=decide (x.lo≤y.hi) && decide (y.lo≤x.hi)
def noC(p q:Prd)(i:Nat):Prop:=∀x∈p.getD i [],∀y∈q.getD i [],ovl x y=false
theorem g01{T:Nat}{p q:Prd}(hp:PWf T p)(hq:PWf T q)(h:∀i,i<p.length→noC p q i):z0n p q=false:=by rw[vO,Ne,Xb hp hq];rintro⟨t,n,⟨s,hs,x,hx,h1,h2⟩,⟨s',z1,y,hy,h3,h4⟩⟩;have ht:=(zB.1 hs).1;have:=h t ht x (by rw[yX,hs];exact hx) y (by rw[yX,z1];exact hy);simp only[ovl,Bool.and_eq_false_iff,decide_eq_false_iff_not]at this;omega
theorem z1s{T:Nat}{p q:Prd}(hp:PWf T p)(hq:PWf T q){i:Nat}(hi:i<p.length)(z1:i<q.length){x y:Iv}(hx:x∈p[i])(hy:y∈q[i])(h:ovl x y=true):z0n p q=true:=by
 rw[Xb hp hq];simp only[ovl,yR,decide_eq_true_eq]at h;have h1:=(hp.2 _ (zL hi)).1.1 x hx;have h2:=(hq.2 _ (zL z1)).1.1 y hy;by_cases hl:x.lo≤y.lo
 ·exact⟨i,y.lo,⟨p[i],zK hi,x,hx,hl,h.2⟩,⟨q[i],zK z1,y,hy,xN _,h2⟩⟩
 ·exact⟨i,x.lo,⟨p[i],zK hi,x,hx,xN _,h1⟩,⟨q[i],zK z1,y,hy,by omega,h.1⟩⟩
attribute [local irreducible] z0n
theorem d0z(T:Nat)(p q:Prd)(hp:PWf T p)(hq:PWf T q)(zj:∀s∈p,s.length≤1000000000)(zk:∀s∈q,s.length≤1000000000)(hT:T≤1000):PC Tryz.prog 114 [encP p,encP q] (fun r=>r= .bool (z0n p q)):=by
 refine Qk tOk Tryz.func114 rfl Tryz.results114 rfl (by simp[Tryz.ntmps114]) ?_;rw[Tryz.ntmps114];simp only[Qg];simp only[encP];have hlen:=hp.1;have zg:=hq.1;repeat first|(refine r_ ?_;simp)|refine q_ ?_
 refine Qt p.length (fun i=>∀i',i'<i→noC p q i') (fun i=>[(3,.vptr 1 0),(12,.list (p.map encL)),(13,.i p.length),(14,.i i)]) (fun _=>[.vars [.list (p.map encL)],.vars [.list (q.map encL)]]) rfl (by simp) (by simp) (by simp) (by simp) (by simp) ?_;intro i hi hI ih;repeat first|(refine r_ ?_;simp)|refine q_ ?_
 refine Qa rfl (fun zl=> ?_) (fun zm=> ?_)
 ·have z1:i<p.length:=by simpa using zl
  have z6:i<q.length:=by omega
  have hw:IntKind.i64.wrap ((i:Int)+1)=i+1:=wrap_i64 _ (by omega) (by omega);have zx:=zj _ (zL z1);have zy:=zk _ (zL z6);repeat first|(refine r_ ?_;simp[z1])|refine q_ ?_
  refine Qt p[i].length (fun u=>∀u',u'<u→∀h:u'<p[i].length,∀y∈q[i],ovl p[i][u'] y=false) (fun u=>[(3,.vptr 1 0),(5,.i i),(12,.list (p.map encL)),(13,.i p.length),(14,.i i),(19,LIv p[i]),(20,.i p[i].length),(21,.i u)]) (fun _=>[.vars [.list (p.map encL)],.vars [.list (q.map encL)]]) rfl (by simp) (by simp) (by simp) (by simp) (by simp) ?_;intro u hu zh zn;repeat first|(refine r_ ?_;simp)|refine q_ ?_
  refine Qa rfl (fun z7=> ?_) (fun z8=> ?_)
  ·have za:u<p[i].length:=by simpa using z7
   have zo:IntKind.i64.wrap ((u:Int)+1)=u+1:=wrap_i64 _ (by omega) (by omega);repeat first|(refine r_ ?_;simp[za,z6])|refine q_ ?_
   refine Qt q[i].length (fun v=>∀v',v'<v→∀h:v'<q[i].length,ovl p[i][u] q[i][v']=false) (fun v=>[(3,.vptr 1 0),(5,.i i),(8,.vptr 2 0),(12,.list (p.map encL)),(13,.i p.length),(14,.i i),(19,LIv p[i]),(20,.i p[i].length),(21,.i u),(29,LIv q[i]),(30,.i q[i].length),(31,.i v)]) (fun _=>[.vars [.list (p.map encL)],.vars [.list (q.map encL)],.vars [.i p[i][u].lo,.i p[i][u].hi]]) rfl (by simp) (by simp) (by simp) (by simp) (by simp) ?_;intro v hv zi zp;repeat first|(refine r_ ?_;simp)|refine q_ ?_
   refine Qa rfl (fun zb=> ?_) (fun zc=> ?_)
   ·have zd:v<q[i].length:=by simpa using zb
    have zq:IntKind.i64.wrap ((v:Int)+1)=v+1:=wrap_i64 _ (by omega) (by omega);repeat first|(refine r_ ?_;simp[zd])|refine q_ ?_
    refine Qa rfl (fun h=> ?_) (fun h=> ?_)
    ·repeat first|(refine r_ ?_;simp)|refine q_ ?_
     rw[z1s hp hq z1 z6 (zL za) (zL zd) (by simpa[ovl]using h)]
    ·repeat first|(refine r_ ?_;simp[zq])|refine q_ ?_
     refine Qr _ (zp zd (fun v' ze zr=> ?_)) rfl (by simp) ?_ (by simp) (by simp)
     ·by_cases e:v'=v
      ·subst e;simpa[ovl]using h
      ·exact zi v' (by omega) zr
     ·simp
   ·have zt:v=q[i].length:=by simp at zc;omega
    subst zt;repeat first|(refine r_ ?_;simp[zo])|refine q_ ?_
    refine Qr _ (zn za (fun u' zf zu y hy=> ?_)) rfl (by simp) ?_ (by simp) (by simp)
    ·by_cases e:u'=u
     ·subst e;obtain⟨v',ze,rfl⟩:=xH hy;exact zi v' ze ze
     ·exact zh u' (by omega) zu y hy
    ·simp
  ·have zv:u=p[i].length:=by simp at z8;omega
   subst zv;repeat first|(refine r_ ?_;simp[hw])|refine q_ ?_
   refine Qr _ (ih z1 (fun i' zz=> ?_)) rfl (by simp) ?_ (by simp) (by simp)
   ·by_cases e:i'=i
    ·subst e;intro x hx y hy;rw[Wu z1]at hx;rw[Wu z6]at hy;obtain⟨u',zf,rfl⟩:=xH hx;exact zh u' zf zf y hy
    ·exact hI i' (by omega)
   ·simp
 ·have zw:i=p.length:=by simp at zm;omega
  subst zw;repeat first|(refine r_ ?_;simp)|refine q_ ?_
  rw[g01 hp hq hI]
attribute [local irreducible] B0
theorem c1h(a:Aut):PC Tryz.prog 49 [encA a] (fun r=>r= .tup [.bool (x1i a).1,.i (x1i a).2]):=by
 refine Qk tOk Tryz.func49 rfl Tryz.results49 rfl (by simp[Tryz.ntmps49]) ?_;rw[Tryz.ntmps49];simp only[Qg];simp only[encA];repeat first|(refine r_ ?_;simp)|refine q_ ?_
 refine Qe rfl rfl (by simp) (I9 a) rfl ?_;rintro _ rfl;simp;repeat first|(refine r_ ?_;simp)|refine q_ ?_
 refine Qa rfl (fun h=> ?_) (fun h=> ?_)
 ·repeat first|(refine r_ ?_;simp)|refine q_ ?_
  rw[x1i,if_neg (by simpa using h)];exact⟨rfl,rfl⟩
 have h0:Wx a=0:=by simpa using h
 have z8:=(A8 a).1 h0;have zt:=z8.mvs;rw[x1i,if_pos h0];repeat first|(refine r_ ?_;simp)|refine q_ ?_
 refine Qt a.mv.length (fun j=>∀i,i<j→∀k,k<i→B0 a i k=false) (fun j=>[(1,.vptr 0 0),(15,.list (a.mv.map encMv)),(16,.i a.mv.length),(17,.i j)]) (fun _=>[.vars (Q4 a)]) rfl (by simp) (by simp) (by simp) (by simp) (by simp) ?_;intro j hj hI ih;repeat first|(refine r_ ?_;simp)|refine q_ ?_
 refine Qa rfl (fun zq=> ?_) (fun zr=> ?_)
 ·have z1:j<a.mv.length:=by simpa using zq
  have hw:IntKind.i64.wrap ((j:Int)+1)=j+1:=wrap_i64 _ (by omega) (by omega);have ze:j≤a.mv.length:=hj;have z7:min j a.mv.length=j:=by omega
  repeat first|(refine r_ ?_;simp[z1,ze,z7])|refine q_ ?_
  refine Qt j (fun k=>∀k',k'<k→B0 a j k'=false) (fun k=>[(1,.vptr 0 0),(6,.vptr 1 0),(15,.list (a.mv.map encMv)),(16,.i a.mv.length),(17,.i j),(25,.list (vu j (a.mv.map encMv))),(26,.i j),(27,.i k)]) (fun _=>[.vars (Q4 a),.vars [.i a.mv[j].src,.i a.mv[j].dst,.list (a.mv[j].on.map encL)]]) rfl (by simp) (by simp) (by simp) (by simp) (by simp) ?_;intro k hk zj zk;repeat first|(refine r_ ?_;simp)|refine q_ ?_
  refine Qa rfl (fun zf=> ?_) (fun zg=> ?_)
  ·have za:k<j:=by simpa using zf
   have zb:k<a.mv.length:=by omega
   have zl:IntKind.i64.wrap ((k:Int)+1)=k+1:=wrap_i64 _ (by omega) (by omega);have z6:=z0o (a:=a) z1 zb;have zm:B0 a j k=false→∀k',k'<k+1→B0 a j k'=false:=fun hb k' zh=>by
    by_cases e:k'=k
    ·rw[e];exact hb
    ·exact zj k' (by omega)
   have zn:(vu j (a.mv.map encMv))[k]? =some (encMv a.mv[k]):=by rw[List.getElem?_take_of_lt za];simp[zb]
   by_cases he:a.mv[j].src=a.mv[k].src
   ·rw[decide_eq_true he,uP]at z6;have zc:(a.mv[j].src==a.mv[k].src)=true:=by simpa using he
    repeat first|(refine r_ ?_;simp[zn,za,zb,z7,zc])|refine q_ ?_
    have zo:=zL z1;have zp:=zL zb;refine Qe rfl rfl (by simp) (d0z a.types.toNat a.mv[j].on a.mv[k].on (z8.mv _ zo).on.wf (z8.mv _ zp).on.wf (fun s hs=>by have:=Pd z8 zo s hs;omega) (fun s hs=>by have:=Pd z8 zp s hs;omega) (by have:=z8.types;omega)) rfl ?_;rintro _ rfl;simp;repeat first|(refine r_ ?_;simp)|refine q_ ?_
    refine Qa rfl (fun h3=> ?_) (fun h3=> ?_)
    ·repeat first|(refine r_ ?_;simp)|refine q_ ?_
     rw[Bf z1 za (by rw[z6];simpa using h3)]
    ·repeat first|(refine r_ ?_;simp[zl])|refine q_ ?_
     refine Qr _ (zk za (zm (by rw[z6];simpa using h3))) rfl (by simp) ?_ (by simp) (by simp);simp
   ·rw[decide_eq_false he,uJ]at z6;have zc:(a.mv[j].src==a.mv[k].src)=false:=beq_eq_false_iff_ne.2 he;repeat first|(refine r_ ?_;simp[zn,za,zb,z7,zc])|refine q_ ?_
    refine Q9 rfl rfl ?_;simp[zc];repeat first|(refine r_ ?_;simp[zc])|refine q_ ?_
    refine Ql rfl ?_;repeat first|(refine r_ ?_;simp[zl])|refine q_ ?_
    refine Qr _ (zk za (zm z6)) rfl (by simp) ?_ (by simp) (by simp);simp
  ·have zd:k=j:=by simp at zg;omega
   subst zd;repeat first|(refine r_ ?_;simp[hw])|refine q_ ?_
   refine Qr _ (ih z1 (fun i hi k' zh=> ?_)) rfl (by simp) ?_ (by simp) (by simp)
   ·by_cases e:i=k
    ·subst e;exact zj k' zh
    ·exact hI i (by omega) k' zh
   ·simp
 ·have zi:j=a.mv.length:=by simp at zr;omega
  subst zi;repeat first|(refine r_ ?_;simp)|refine q_ ?_
  rw[w0z hI]
end Go.Abs
namespace Go.Abs
open Go Go.Proofs
abbrev LI (l:List Int):AV:= .list (l.map (AV.int .i64))
def Js{α:Type}(f:α→Bool)(l:List α):Int:=match l.findIdx? f with|some i=>i|none=> -1
theorem Hx{α:Type}{f:α→Bool}{l:List α}{j:Nat}(hj:j<l.length)(h:f l[j]=true)(hb:∀i,∀hi:i<l.length,i<j→f l[i]=false):Js f l=j:=by unfold Js;rw[xG.2 ⟨hj,h,fun i hi=>by rw[hb i (by omega) hi];simp⟩]
theorem Sl{α:Type}{f:α→Bool}{l:List α}(hb:∀i,∀hi:i<l.length,i<l.length→f l[i]=false):Js f l= -1:=by unfold Js;rw[wY.2 (fun x hx=>by obtain⟨i,hi,rfl⟩:=xH hx;exact hb i hi hi)]
theorem z0b{α:Type}(f:α→Bool)(l:List α):decide (0≤Js f l)=l.any f:=by
 unfold Js;cases h:l.findIdx? f with
 |none=>
  rw[wY]at h;have:l.any f=false:=by rw[List.any_eq_false];intro x hx;rw[h x hx];simp
  rw[this];rfl
 |some i=>obtain⟨h1,h2,_⟩:=xG.1 h;have:l.any f=true:=vz.2 ⟨_,zL h1,h2⟩;rw[this];simp
theorem w0m(l:List Int)(v:Int):PC Tryz.prog 137 [LI l,.i v] (fun r=>r= .i (Js (fun y=>v==y) l)):=by
 refine Qk tOk Tryz.func137 rfl Tryz.results137 rfl (by simp[Tryz.ntmps137]) ?_;rw[Tryz.ntmps137];simp only[Qg];refine Ys 0 rfl (fun hlen=> ?_);rw[yB]at hlen;repeat first|(refine r_ ?_;simp)|refine q_ ?_
 refine Qt l.length (fun j=>∀i,∀hi:i<l.length,i<j→(v==l[i])=false) (fun j=>[(0,LI l),(1,.i v),(7,.i l.length),(8,.i j)]) (fun _=>[]) rfl (by simp) (by simp) (by simp) (by simp) (by simp) ?_;intro j hj hI ih;repeat first|(refine r_ ?_;simp)|refine q_ ?_
 refine Qa rfl (fun z7=> ?_) (fun z8=> ?_)
 ·have z1:j<l.length:=by simpa using z7
  have hw:IntKind.i64.wrap ((j:Int)+1)=j+1:=wrap_i64 _ (by omega) (by omega);repeat first|(refine r_ ?_;simp[z1])|refine q_ ?_
  refine Qa rfl (fun h=> ?_) (fun h=> ?_)
  ·repeat first|(refine r_ ?_;simp)|refine q_ ?_
   rw[Hx (f:=fun y=>v==y) z1 h hI]
  ·repeat first|(refine r_ ?_;simp[hw])|refine q_ ?_
   refine Qr _ (ih z1 (fun i hi za=> ?_)) rfl (by simp) ?_ (by simp) (by simp)
   ·by_cases e:i=j
    ·subst e;exact h
    ·exact hI i hi (by omega)
   ·simp
 ·have z6:j=l.length:=by simp at z8;omega
  subst z6;repeat first|(refine r_ ?_;simp)|refine q_ ?_
  rw[Sl (f:=fun y=>v==y) hI]
theorem Dw(l:List Int)(v:Int):PC Tryz.prog 174 [LI l,.i v] (fun r=>r= .bool (l.contains v)):=by
 refine Qk tOk Tryz.func174 rfl Tryz.results174 rfl (by simp[Tryz.ntmps174]) ?_;rw[Tryz.ntmps174];simp only[Qg];repeat first|(refine r_ ?_;simp)|refine q_ ?_
 refine Qe rfl rfl (by simp) (w0m l v) rfl ?_;rintro _ rfl;simp;repeat first|(refine r_ ?_;simp)|refine q_ ?_
 have:=z0b (fun y=>v==y) l;rw[wt]at this;simpa using this
structure SL (K G:List AObj) (p e sz:Nat) (xs:List AV):Prop where
 arr:G[p]? =some (.arr e sz xs)
 ge:K.length≤p
 keep:∀j,j<K.length→G[j]? =K[j]?
theorem SL.kp{K G:List AObj}{p e sz:Nat}{xs:List AV}(h:SL K G p e sz xs){j:Nat}{x:AObj}(hx:K[j]? =some x):G[j]? =some x:=by rw[h.keep j (zB.1 hx).1];exact hx
theorem SL.start(K:List AObj)(e sz:Nat):SL K (K++[AObj.arr e sz []]) K.length e sz []:=
 ⟨by simp,zP _,fun j hj=>zF hj⟩
theorem SL.add{K G:List AObj}{p e sz:Nat}{xs:List AV}(h:SL K G p e sz xs)(L:List AObj):SL K (G++L) p e sz xs:=
 ⟨by rw[zF (zB.1 h.arr).1];exact h.arr,h.ge,fun j hj=>by
  rw[zF (by have:=(zB.1 h.arr).1;have:=h.ge;omega)];exact h.keep j hj⟩
theorem SL.put{K G:List AObj}{p e sz:Nat}{xs:List AV}(h:SL K G p e sz xs)(L:List AObj)(ys:List AV){n:Nat}(hn:n=G.length+L.length):SL K (G.set p .dead++(L++[AObj.arr e sz ys])) n e sz ys:=by have hp:=(zB.1 h.arr).1;have z1:=h.ge;subst hn;refine⟨by rw[zH (by simp),zH (by simp)];simp,by omega,fun j hj=> ?_⟩;rw[zF (by simp;omega),zE (by omega)];exact h.keep j hj
theorem SL.at{K G:List AObj}{p e sz:Nat}{xs:List AV}(h:SL K G p e sz xs){j:Nat}{x:AObj}(hx:K[j]? =some x)(L:List AObj):(G.set p .dead++L)[j]? =some x:=by have hj:=(zB.1 hx).1;have hp:=(zB.1 h.arr).1;have z1:=h.ge;rw[zF (by simp;omega),zE (by omega),h.keep j hj];exact hx
theorem SL.at'{K G:List AObj}{p e sz:Nat}{xs:List AV}(h:SL K G p e sz xs){j:Nat}{x:AObj}(hx:K[j]? =some x)(L:List AObj):(G++L)[j]? =some x:=(h.add L).kp hx
def y1h(l:List Int)(x:Sy)(m:Mv):Bool:=l.contains m.src && R7 m.on x
def Xy(l:List Int)(x:Sy)(ms:List Mv):List Int:=(ms.filter (y1h l x)).map (·.dst)
theorem c0n(l:List Int)(x:Sy)(ms:List Mv)(j:Nat)(h:j<ms.length):Xy l x (ms.take (j+1))=Xy l x (ms.take j)++(if y1h l x ms[j]then [ms[j].dst]else []):=by unfold Xy;rw[zU h,vQ,yP];cases h:y1h l x ms[j]<;>simp[h]
theorem w0p(l:List Int)(x:Sy)(ms:List Mv):(Xy l x ms).length≤ms.length:=by unfold Xy;rw[yB];exact List.length_filter_le _ _
theorem w11(a:Aut)(l:List Int)(x:Sy):Lib.compact (Tj (Xy l x a.mv))=j15 a l x:=rfl
theorem z1u(l:List Int)(x:Sy):Xy l x []=[]:=rfl
attribute [local irreducible] Xy X4 Tj Lib.compact
theorem Bq(a:Aut)(ha:OkA a)(l:List Int)(x:Sy)(hx:Rm a x):PC Tryz.prog 122 [encA a,LI l,encSy x] (fun r=>r=LI (Wh a l x)):=by
 refine Qk tOk Tryz.func122 rfl Tryz.results122 rfl (by simp[Tryz.ntmps122]) ?_;rw[Tryz.ntmps122];simp only[Qg];simp only[encA,encSy];have zi:=ha.mvs;have hF:∀m∈a.mv,X4 m.on x=(R7 m.on x,0):=fun m hm=>by rw[Md ((Ec a.types m.on).2 ⟨ha.types,(ha.mv m hm).on⟩),if_neg (fun k=>k ((Fp _ _).2 hx))]
 repeat first|(refine r_ ?_;simp)|refine q_ ?_
 refine Q8 7 3 1 rfl ?_;simp;refine Qo (Qc (sl':=[(1,LI l),(3,.vptr 0 0),(5,.vptr 1 0),(7,.sl 2 1 0 (Xy l x (a.mv.take 0)).length),(11,.list (a.mv.map encMv)),(12,.i a.mv.length),(13,.i 0)]) ?_ (by simp[Xy]));obtain⟨K,hK⟩:∃K,K=[AObj.vars (Q4 a),AObj.vars [AV.i x.ty,AV.i x.num]]:=⟨_,rfl⟩
 have z8:K[1]? =some (AObj.vars [AV.i x.ty,AV.i x.num]):=by rw[hK];rfl
 have za:=SL.start K 3 1;refine Qn (F:=fun(u:Nat×Nat×List AObj)=>⟨[(1,LI l),(3,.vptr 0 0),(5,.vptr 1 0),(7,.sl u.2.1 1 0 (Xy l x (a.mv.take u.1)).length),(11,.list (a.mv.map encMv)),(12,.i a.mv.length),(13,.i u.1)],u.2.2⟩)
  (fun u=>u.1≤a.mv.length∧SL K u.2.2 u.2.1 3 1 ((Xy l x (a.mv.take u.1)).map (AV.int .i64))) (fun u=>a.mv.length - u.1) ?_ (0,2,_) ⟨by simp,by rw[List.take_zero,z1u];rw[hK]at za ⊢;exact za⟩
 rintro⟨j,q,H2⟩ ⟨hj,g⟩ ih;simp only at hj g ih ⊢;have g1:=g.kp z8;repeat first|(refine r_ ?_;simp)|refine q_ ?_
 refine Qa rfl (fun zc=> ?_) (fun zd=> ?_)
 ·have z1:j<a.mv.length:=by simpa using zc
  have hw:IntKind.i64.wrap ((j:Int)+1)=j+1:=wrap_i64 _ (by omega) (by omega);have ze:=c0n l x a.mv j z1;have zb:=w0p l x (a.mv.take j);rw[List.length_take]at zb;have zf:=hF _ (zL z1);have z6:=fun q' H'=>ih (j+1,q',H');simp only[ze]at z6;generalize Xy l x (a.mv.take j)=acc at *
  have gL:=fun L=>g.at' z8 L;repeat first|(refine r_ ?_;simp[z1])|refine q_ ?_
  by_cases hb:a.mv[j].src∈l
  ·have zg:l.contains a.mv[j].src=true:=by simpa using hb
   refine Qe rfl rfl (by simp) (Dw l a.mv[j].src) rfl ?_;rintro _ rfl;simp[hb,gL];repeat first|(refine r_ ?_;simp[gL])|refine q_ ?_
   refine Qe rfl rfl (by simp) (g1m a.mv[j].on x) rfl ?_;rintro _ rfl;simp[zf];repeat first|(refine r_ ?_;simp)|refine q_ ?_
   cases hb2:R7 a.mv[j].on x with
   |false=>
    have hh:y1h l x a.mv[j]=false:=by rw[y1h,hb2];simp
    refine Ql rfl ?_;simp[hb2];repeat first|(refine r_ ?_;simp[hw])|refine q_ ?_
    refine Qc (sl':=[(1,LI l),(3,.vptr 0 0),(5,.vptr 1 0),(7,.sl q 1 0 acc.length),(11,.list (a.mv.map encMv)),(12,.i a.mv.length),(13,.i (j+1:Nat))]) ?_ (by simp);have:=z6 q _ ⟨by omega,by rw[hh];simpa using g.add [AObj.vars [AV.i a.mv[j].src,AV.i a.mv[j].dst,AV.list (a.mv[j].on.map encL)]]⟩ (by omega);rw[hh]at this;simpa using this
   |true=>
    have hh:y1h l x a.mv[j]=true:=by rw[y1h,zg,hb2];rfl
    refine Ql rfl ?_;simp[hb2];repeat first|(refine r_ ?_;simp)|refine q_ ?_
    refine Qf tOk rfl rfl T40 rfl T3 rfl (by decide) (by decide) rfl rfl rfl ?_;simp[Qb g.arr,Qj g.arr];refine⟨by simp[Wi,Qb g.arr,Qj g.arr]<;>omega,?_⟩;repeat first|(refine r_ ?_;simp[hw])|refine q_ ?_
    refine Qc (sl':=[(1,LI l),(3,.vptr 0 0),(5,.vptr 1 0),(7,.sl (H2.length+2) 1 0 (acc.length+1)),(11,.list (a.mv.map encMv)),(12,.i a.mv.length),(13,.i (j+1:Nat))]) ?_ (by simp);have:=z6 (H2.length+2) _ ⟨by omega,by rw[hh];exact g.put [AObj.vars [AV.i a.mv[j].src,AV.i a.mv[j].dst,AV.list (a.mv[j].on.map encL)],AObj.arr 3 1 [AV.i a.mv[j].dst]] _ rfl⟩ (by omega);rw[hh]at this;simpa using this
  ·have hh:y1h l x a.mv[j]=false:=by simp[y1h,hb]
   refine Qe rfl rfl (by simp) (Dw l a.mv[j].src) rfl ?_;rintro _ rfl;simp[hb,gL];refine Q9 rfl rfl ?_;simp[hb];refine Ql rfl ?_;repeat first|(refine r_ ?_;simp[hw])|refine q_ ?_
   refine Qc (sl':=[(1,LI l),(3,.vptr 0 0),(5,.vptr 1 0),(7,.sl q 1 0 acc.length),(11,.list (a.mv.map encMv)),(12,.i a.mv.length),(13,.i (j+1:Nat))]) ?_ (by simp);have:=z6 q _ ⟨by omega,by rw[hh];simpa using g.add [AObj.vars [AV.i a.mv[j].src,AV.i a.mv[j].dst,AV.list (a.mv[j].on.map encL)]]⟩ (by omega);rw[hh]at this;simpa using this
 ·have z7:j=a.mv.length:=by simp at zd;omega
  subst z7;rw[yW]at g ⊢;have zb:=w0p l x a.mv;repeat first|(refine r_ ?_;simp)|refine q_ ?_
  refine Q7 rfl rfl (Kg H2 q (Xy l x a.mv) g.arr (by omega)) rfl ?_;rintro r H' ⟨rfl,rfl⟩;simp;repeat first|(refine r_ ?_;simp)|refine q_ ?_
  have g2:=Qi g.arr (.arr 3 1 ((Tj (Xy l x a.mv)).map (AV.int .i64)));have zh:=Iw (Xy l x a.mv);rw[←zh];refine Q7 rfl rfl (A9 _ q (Tj (Xy l x a.mv)) g2 (by omega) (Uw _)) rfl ?_;rintro r H' ⟨rfl,G,rfl⟩;simp;have g3:=Qi g.arr (.arr 3 1 ((Lib.compact (Tj (Xy l x a.mv))++G).map (AV.int .i64)));rw[w11,k1y (fun m hm=>(ha.mv m hm).dst)]at *
  repeat first|(refine r_ ?_;simp)|refine q_ ?_
  rw[yP]at g3;simp[g3]
end Go.Abs
namespace Go.Abs
open Go Go.Proofs
theorem k0y(H:List AObj)(l:List Int)(g:Nat)(cap:AV)(f:Int→Bool)(hl:l.length≤1000000000)(hg:∀z∈l,FC Tryz.prog g [.i z,cap] H (fun r H'=>r= .bool (f z)∧H'=H)):
  FC Tryz.prog 119 [LI l,.fn (.func g) [] [cap]] H (fun r H'=>r= .i (Js f l)∧H'=H):=by
 refine W6 tOk Tryz.func119 rfl Tryz.results119 rfl (by simp[Tryz.ntmps119]) ?_;rw[Tryz.ntmps119];simp only[Qg];repeat first|(refine r_ ?_;simp)|refine q_ ?_
 refine Qo (Qc (sl':=[(0,LI l),(1,.fn (.func g) [] [cap]),(7,.i l.length),(8,.i 0)]) ?_ (by simp));refine Qn (F:=fun(j:Nat)=>⟨[(0,LI l),(1,.fn (.func g) [] [cap]),(7,.i l.length),(8,.i j)],H⟩)
  (fun j=>j≤l.length∧∀i,∀hi:i<l.length,i<j→f l[i]=false) (fun j=>l.length - j) ?_ 0 ⟨by simp,by simp⟩
 rintro j ⟨hj,hI⟩ ih;repeat first|(refine r_ ?_;simp)|refine q_ ?_
 refine Qa rfl (fun z7=> ?_) (fun z8=> ?_)
 ·have z1:j<l.length:=by simpa using z7
  have hw:IntKind.i64.wrap ((j:Int)+1)=j+1:=wrap_i64 _ (by omega) (by omega);repeat first|(refine r_ ?_;simp[z1])|refine q_ ?_
  refine Q7 rfl rfl (hg _ (zL z1)) rfl ?_;rintro r H' ⟨rfl,rfl⟩;simp;repeat first|(refine r_ ?_;simp)|refine q_ ?_
  refine Qa rfl (fun h=> ?_) (fun h=> ?_)
  ·repeat first|(refine r_ ?_;simp)|refine q_ ?_
   rw[Hx z1 h hI]
  ·repeat first|(refine r_ ?_;simp[hw])|refine q_ ?_
   refine Qc (sl':=[(0,LI l),(1,.fn (.func g) [] [cap]),(7,.i l.length),(8,.i (j+1:Nat))]) (ih (j+1) ⟨by omega,fun i hi za=> ?_⟩ (by omega)) (by simp);by_cases e:i=j
   ·subst e;exact h
   ·exact hI i hi (by omega)
 ·have z6:j=l.length:=by simp at z8;omega
  subst z6;repeat first|(refine r_ ?_;simp)|refine q_ ?_
  rw[Sl hI]
theorem Va(H:List AObj)(l:List Int)(g:Nat)(cap:AV)(f:Int→Bool)(hl:l.length≤1000000000)(hg:∀z∈l,FC Tryz.prog g [.i z,cap] H (fun r H'=>r= .bool (f z)∧H'=H)):
  FC Tryz.prog 54 [LI l,.fn (.func g) [] [cap]] H (fun r H'=>r= .bool (l.any f)∧H'=H):=by
 refine W6 tOk Tryz.func54 rfl Tryz.results54 rfl (by simp[Tryz.ntmps54]) ?_;rw[Tryz.ntmps54];simp only[Qg];repeat first|(refine r_ ?_;simp)|refine q_ ?_
 refine Q7 rfl rfl (k0y H l g cap f hl hg) rfl ?_;rintro r H' ⟨rfl,rfl⟩;simp;repeat first|(refine r_ ?_;simp)|refine q_ ?_
 rw[←z0b]
def v2c(a:Aut)(s:Int):Bool:=decide (s<0) || decide ((a.fin.length:Int)≤s)
attribute [local irreducible] v2c
end Go.Abs
namespace Go.Abs
open Go Go.Proofs
attribute [simp] T4
def z2b(n:Nat)(f:Int→Bool):List AV:=(Ey n).map fun z=>AV.bool (f z)
attribute [local irreducible] z2b
def v1n(n:Nat)(f:Int→Bool):List Int:=(Ey n).filter f
attribute [local irreducible] v1n
end Go.Abs
namespace Go.Abs
open Go Go.Proofs
def nxB(ms:List Mv)(f:Int→Bool)(x:Sy)(z:Int):Bool:=ms.any fun m=>f m.src && R7 m.on x && m.dst==z
attribute [local irreducible] R7 nxB
end Go.Abs
namespace Go.Abs
open Go Go.Proofs
attribute [local irreducible] nxB v1n P6
attribute [local irreducible] E5
theorem Cm(a:Aut)(hl:a.mv.length≤1000000):PC Tryz.prog 118 [encA a] (fun r=>r=LP (onA a)):=by
 refine Qk tOk Tryz.func118 rfl Tryz.results118 rfl (by simp[Tryz.ntmps118]) ?_;rw[Tryz.ntmps118];simp only[Qg];simp only[encA];repeat first|(refine r_ ?_;simp)|refine q_ ?_
 refine Q8 3 76 1 rfl ?_;simp;refine Qo (Qc (sl':=[(1,.vptr 0 0),(3,.sl 1 1 0 0),(4,.i 0)]) ?_ (by simp));obtain⟨K,hK⟩:∃K,K=[AObj.vars (Q4 a)]:=⟨_,rfl⟩
 have za:K[0]? =some (AObj.vars (Q4 a)):=by rw[hK];rfl
 have zb:=SL.start K 76 1;refine Qn (F:=fun(u:Nat×Nat×List AObj)=>⟨[(1,.vptr 0 0),(3,.sl u.2.1 1 0 u.1),(4,.i u.1)],u.2.2⟩)
  (fun u=>u.1≤a.mv.length∧SL K u.2.2 u.2.1 76 1 ((onA { a with mv:=a.mv.take u.1 }).map encP)) (fun u=>a.mv.length - u.1) ?_ (0,1,_) ⟨by simp,by rw[hK]at zb ⊢;exact zb⟩
 rintro⟨j,q,H2⟩ ⟨hj,g⟩ ih;simp only at hj g ih ⊢;have g0:=g.kp za;repeat first|(refine r_ ?_;simp[g0])|refine q_ ?_
 refine Qa rfl (fun zd=> ?_) (fun ze=> ?_)
 ·have z1:j<a.mv.length:=by simpa using zd
  have hw:IntKind.i64.wrap ((j:Int)+1)=j+1:=wrap_i64 _ (by omega) (by omega);have zf:(onA { a with mv:=a.mv.take (j+1) }).map encP=(onA { a with mv:=a.mv.take j }).map encP++[encP a.mv[j].on]:=by
   have e:onA { a with mv:=a.mv.take (j+1) }=onA { a with mv:=a.mv.take j }++[a.mv[j].on]:=by
    show(a.mv.take (j+1)).map (·.on)=(a.mv.take j).map (·.on)++[a.mv[j].on]
    rw[zU z1,yP];rfl
   rw[e,yP];rfl
  have z6:((onA { a with mv:=a.mv.take j }).map encP).length=j:=by unfold onA;simp;omega
  have zc:=fun q' H'=>ih (j+1,q',H');simp only[zf]at zc;generalize (onA { a with mv:=a.mv.take j }).map encP=acc at *
  have gL:=fun L=>g.at za L;repeat first|(refine r_ ?_;simp[g0,z1])|refine q_ ?_
  refine Qf tOk rfl rfl T91 rfl T76 rfl (by decide) (by decide) rfl rfl rfl ?_;simp[Qb g.arr,Qj g.arr,z6];refine⟨by simp[Wi,Qb g.arr,Qj g.arr,z6]<;>omega,?_⟩;repeat first|(refine r_ ?_;simp[gL,hw])|refine q_ ?_
  exact Qc (sl':=[(1,.vptr 0 0),(3,.sl (H2.length+1) 1 0 (j+1)),(4,.i (j+1:Nat))]) (zc (H2.length+1) _ ⟨by omega,g.put [AObj.arr 76 1 [encP a.mv[j].on]] _ rfl⟩ (by omega)) (by simp)
 ·have z8:j=a.mv.length:=by simp at ze;omega
  subst z8;have e:({ a with mv:=a.mv.take a.mv.length }:Aut)=a:=by rw[yW]
  rw[e]at g;have z6:((onA a).map encP).length=a.mv.length:=by simp[onA]
  have ga:=g.arr;obtain⟨acc,z7⟩:∃acc,acc=(onA a).map encP:=⟨_,rfl⟩
  rw[←z7]at ga z6;repeat first|(refine r_ ?_;simp[ga,z6])|refine q_ ?_
  rw[zR (by omega),z7]
end Go.Abs
namespace Go.Abs
open Go Go.Proofs
theorem f0m{α:Type}{a b:List α}(h:a.length=b.length)(hi:∀i,∀h1:i<a.length,∀h2:i<b.length,a[i]=b[i]):a=b:=wQ h hi
abbrev LLI (l:List (List Int)):AV:= .list (l.map fun x=>LI x)
end Go.Abs
namespace Go.Abs
open Go Go.Proofs
end Go.Abs
namespace Go.Abs
open Go Go.Proofs
def Fh(a:Aut)(s:Int)(j:Nat):Prd:=(Gc { a with mv:=a.mv.take j } s).foldl (fun r p=>Wc r (W5 p)) (Ws a.types.toNat)
theorem y1p(a:Aut)(s:Int)(j:Nat)(h:j<a.mv.length):Gc { a with mv:=a.mv.take (j+1) } s=Gc { a with mv:=a.mv.take j } s++(if a.mv[j].src=s then [a.mv[j].on]else []):=by unfold Gc;simp only;rw[zU h,vQ,yP];by_cases e:a.mv[j].src=s<;>simp[e]
theorem Km(a:Aut)(s:Int)(j:Nat)(h:j<a.mv.length):Fh a s (j+1)=if a.mv[j].src=s then Wc (Fh a s j) (W5 a.mv[j].on)else Fh a s j:=by unfold Fh;rw[y1p a s j h,wL];by_cases e:a.mv[j].src=s<;>simp[e]
theorem Lg(a:Aut)(s:Int):Fh a s 0=Ws a.types.toNat:=rfl
theorem g0k(a:Aut)(s:Int):Fh a s a.mv.length=Sp a s:=by unfold Fh Sp;rw[yW]
theorem v1d{T:Nat}{c p:Prd}(hc:PWf T c)(hp:PWf T p){n m:Nat}(h1:∀s∈c,s.length≤n)(h2:∀t∈p,t.length≤m):∀x∈Wc c p,x.length≤n+m:=fun x hx=>by
 obtain⟨i,hi⟩:=yJ.1 hx;unfold Wc at hi;rw[List.getElem?_zipWith]at hi;cases h3:c[i]? with
 |none=>rw[h3]at hi;simp at hi
 |some a=>
  cases h4:p[i]? with
  |none=>rw[h3,h4]at hi;simp at hi
  |some b=>rw[h3,h4]at hi;simp at hi;subst hi;have ha:=zJ h3;have hb:=zJ h4;have k1:=w0q (E8 a b);have k2:=Vz a b (hc.2 a ha).1 (hp.2 b hb).1;have:=h1 a ha;have:=h2 b hb;rw[R9];omega
theorem Xd{T:Nat}{p:Prd}(hp:PWf T p){m:Nat}(h2:∀t∈p,t.length≤m):∀x∈W5 p,x.length≤m+1:=fun x hx=>by obtain⟨y,hy,rfl⟩:=zT.1 hx;have:=v1j (hp.2 y hy).1 (hp.2 y hy).2;have:=h2 y hy;omega
theorem w07{a:Aut}(h:OkA a)(s:Int):∀j,j≤a.mv.length→PWf a.types.toNat (Fh a s j)∧∀x∈Fh a s j,x.length≤1+257 * j
 |0,_=>by rw[Lg];exact⟨Sg _,fun x hx=>by rw[q1a _ x hx];omega⟩
 |j+1,hj=>by
  obtain⟨h1,h2⟩:=w07 h s j (by omega);have z1:j<a.mv.length:=by omega
  have hm:=zL z1;rw[Km a s j z1];split
  ·have hw:=(h.mv _ hm).on.wf;refine⟨Ya h1 (Pm hw).1,fun x hx=> ?_⟩;have:=v1d h1 (Pm hw) h2 (Xd hw (Pd h hm)) x hx;omega
  ·exact⟨h1,fun x hx=>by have:=h2 x hx;omega⟩
attribute [local irreducible] Fh Wc W5 Ws Wf
theorem Mx(a:Aut)(h:OkA a)(s:Int):PC Tryz.prog 75 [encA a,.i s] (fun r=>r=encP (Sp a s)):=by
 refine Qk tOk Tryz.func75 rfl Tryz.results75 rfl (by simp[Tryz.ntmps75]) ?_;rw[Tryz.ntmps75];simp only[Qg];simp only[encA];have zd:=h.mvs;have ze:=h.types;repeat first|(refine r_ ?_;simp)|refine q_ ?_
 refine Qe rfl rfl (by simp) (Kv a.types (by omega) (by omega)) rfl ?_;rintro _ rfl;simp;repeat first|(refine r_ ?_;simp)|refine q_ ?_
 refine Qt a.mv.length (fun _=>True) (fun j=>[(1,.i s),(2,.vptr 0 0),(4,.vptr 1 0),(5,.vptr 2 0),(6,.i j)]) (fun j=>[.vars (Q4 a),.vars [.nils],.vars [.list ((Fh a s j).map encL)]]) (by rw[Lg];rfl) (by simp) (by simp) (by simp) (by simp) trivial ?_;intro j hj _ ih;repeat first|(refine r_ ?_;simp)|refine q_ ?_
 refine Qa rfl (fun zb=> ?_) (fun zc=> ?_)
 ·have z1:j<a.mv.length:=by simpa using zb
  have hw:IntKind.i64.wrap ((j:Int)+1)=j+1:=wrap_i64 _ (by omega) (by omega);obtain⟨k1,k2⟩:=w07 h s j hj;have z6:=Km a s j z1;have hm:=zL z1;have z7:=(h.mv _ hm).on.wf;repeat first|(refine r_ ?_;simp[z1])|refine q_ ?_
  refine Qa rfl (fun he=> ?_) (fun he=> ?_)
  ·have z8:a.mv[j].src=s:=by simpa using he
   rw[if_pos z8]at z6;repeat first|(refine r_ ?_;simp)|refine q_ ?_
   refine Qm tOk mixed [9] (.val 0 (.val 1 (.val 2 (.val 3 (.val 4 (.val 5 (.val 6 (.one 7 (.one 8 (.one 9 (.done))))))))))) rfl (by kernel_rfl) ?_;simp[z1];refine Qe rfl rfl (by simp) (Bh a.types.toNat a.mv[j].on z7 (fun t ht=>by have:=Pd h hm t ht;omega) (by omega)) rfl ?_;rintro _ rfl;simp;refine Qe rfl rfl (by simp) (A3 a.types.toNat (Fh a s j) (W5 a.mv[j].on) k1 (Pm z7) (fun x hx y hy=>by have:=k2 x hx;have:=Xd z7 (Pd h hm) y hy;omega) (by omega)) rfl ?_;rintro _ rfl;simp;repeat first|(refine r_ ?_;simp[hw])|refine q_ ?_
   refine Qr [] (ih z1 trivial) ?_ (by simp) ?_ (by simp) (by simp)
   ·rw[z6];rfl
   ·simp
  ·have z8:¬a.mv[j].src=s:=by simpa using he
   rw[if_neg z8]at z6;repeat first|(refine r_ ?_;simp[hw])|refine q_ ?_
   refine Qr [] (ih z1 trivial) ?_ (by simp) ?_ (by simp) (by simp)
   ·rw[z6];rfl
   ·simp
 ·have za:j=a.mv.length:=by simp at zc;omega
  subst za;repeat first|(refine r_ ?_;simp)|refine q_ ?_
  rw[g0k]
end Go.Abs
namespace Go.Abs
open Go Go.Proofs
theorem v02{a:Aut}{i:Nat}(h:i<a.fin.length)(hv:Wf (Sp a i)=false):Y6 a=false:=by unfold Y6;rw[v_];exact⟨i,y_.2 h,by rw[hv];simp⟩
theorem f08{a:Aut}(h:∀i:Nat,i<a.fin.length→Wf (Sp a i)=true):Y6 a=true:=by unfold Y6;rw[zX];exact fun i hi=>h i (y_.1 hi)
attribute [local irreducible] Sp Wf
theorem w1v(a:Aut)(h:OkA a):PC Tryz.prog 74 [encA a] (fun r=>r= .bool (Y6 a)):=by
 refine Qk tOk Tryz.func74 rfl Tryz.results74 rfl (by simp[Tryz.ntmps74]) ?_;rw[Tryz.ntmps74];simp only[Qg];simp only[encA];have hf:=h.fin;repeat first|(refine r_ ?_;simp)|refine q_ ?_
 refine Qt a.fin.length (fun j=>∀i:Nat,i<j→Wf (Sp a i)=true) (fun j=>[(1,.vptr 0 0),(3,.i j)]) (fun _=>[.vars (Q4 a)]) rfl (by simp) (by simp) (by simp) (by simp) (by simp) ?_;intro j hj hI ih;repeat first|(refine r_ ?_;simp)|refine q_ ?_
 refine Qa rfl (fun z7=> ?_) (fun z8=> ?_)
 ·have z1:j<a.fin.length:=by simpa using z7
  have hw:IntKind.i64.wrap ((j:Int)+1)=j+1:=wrap_i64 _ (by omega) (by omega);repeat first|(refine r_ ?_;simp)|refine q_ ?_
  refine Qe rfl rfl (by simp) (Mx a h j) rfl ?_;rintro _ rfl;simp;repeat first|(refine r_ ?_;simp)|refine q_ ?_
  refine Qe rfl rfl (by simp) (Oc (Sp a j)) rfl ?_;rintro _ rfl;simp;repeat first|(refine r_ ?_;simp)|refine q_ ?_
  refine Qa rfl (fun he=> ?_) (fun he=> ?_)
  ·repeat first|(refine r_ ?_;simp)|refine q_ ?_
   rw[v02 z1 (by simpa using he)]
  ·repeat first|(refine r_ ?_;simp[hw])|refine q_ ?_
   refine Qr [] (ih z1 (fun i hi=> ?_)) rfl (by simp) ?_ (by simp) (by simp)
   ·by_cases e:i=j
    ·subst e;simpa using he
    ·exact hI i (by omega)
   ·simp
 ·have z6:j=a.fin.length:=by simp at z8;omega
  subst z6;repeat first|(refine r_ ?_;simp)|refine q_ ?_
  rw[f08 hI]
end Go.Abs
namespace Go.Abs
open Go Go.Proofs
theorem v0e{p:Prd}{i:Nat}(h:i<p.length)(hv:¬(p[i].length≤12)):v14 p=false:=by rw[vO,Ne,z0q];exact fun k=>hv (k.2 _ (zL h))
theorem z1e(p:Prd):PC Tryz.prog 46 [encP p] (fun r=>r= .bool (v14 p)):=by
 refine Qk tOk Tryz.func46 rfl Tryz.results46 rfl (by simp[Tryz.ntmps46]) ?_;rw[Tryz.ntmps46];simp only[Qg];simp only[encP];refine W2 0 0 rfl rfl (fun hlen=> ?_);rw[yB]at hlen;repeat first|(refine r_ ?_;simp)|refine q_ ?_
 refine Qt p.length (fun j=>j≤5∧∀i,∀hi:i<p.length,i<j→p[i].length≤12) (fun j=>[(1,.vptr 0 0),(3,.i j)]) (fun _=>[.vars [.list (p.map encL)]]) rfl (by simp) (by simp) (by simp) (by simp) (by simp) ?_;rintro j hj ⟨za,hI⟩ ih;repeat first|(refine r_ ?_;simp)|refine q_ ?_
 refine Qa rfl (fun z6=> ?_) (fun z7=> ?_)
 ·have z1:j<p.length:=by simp at z6;omega
  have zb:j<5:=by simp at z6;omega
  have hw:IntKind.i64.wrap ((j:Int)+1)=j+1:=wrap_i64 _ (by omega) (by omega);repeat first|(refine r_ ?_;simp[z1])|refine q_ ?_
  refine Qe rfl rfl (by simp) (q2v p[j]) rfl ?_;rintro _ rfl;simp;repeat first|(refine r_ ?_;simp)|refine q_ ?_
  refine Qa rfl (fun he=> ?_) (fun he=> ?_)
  ·repeat first|(refine r_ ?_;simp)|refine q_ ?_
   rw[v0e z1 (by simp at he;omega)]
  ·repeat first|(refine r_ ?_;simp[hw])|refine q_ ?_
   refine Qr [] (ih z1 ⟨by omega,fun i hi zc=> ?_⟩) rfl (by simp) ?_ (by simp) (by simp)
   ·by_cases e:i=j
    ·subst e;simp at he;omega
    ·exact hI i hi (by omega)
   ·simp
 ·have z8:p.length≤j∨5≤j:=by simp at z7;omega
  repeat first|(refine r_ ?_;simp)|refine q_ ?_
  rw[wt,z0q,decide_eq_true_eq];constructor
  ·intro h4;refine⟨by omega,fun s hs=> ?_⟩;obtain⟨i,hi,rfl⟩:=xH hs;exact hI i hi (by omega)
  ·intro h4;omega
end Go.Abs
namespace Go.Abs
open Go Go.Proofs
theorem Cw{a:Aut}:u1v a=true↔a.fin.length≤8∧a.mv.length≤16∧∀m∈a.mv,v14 m.on=true:=by simp only[u1v,yR,decide_eq_true_eq,zX,and_assoc]
attribute [local irreducible] v14
theorem g1v(a:Aut):PC Tryz.prog 13 [encA a] (fun r=>r= .bool (u1v a)):=by
 refine Qk tOk Tryz.func13 rfl Tryz.results13 rfl (by simp[Tryz.ntmps13]) ?_;rw[Tryz.ntmps13];simp only[Qg];simp only[encA];refine W2 0 2 rfl rfl (fun hlen=> ?_);rw[yB]at hlen;repeat first|(refine r_ ?_;simp)|refine q_ ?_
 refine Qt a.mv.length (fun j=>j≤20∧∀i,∀hi:i<a.mv.length,i<j→v14 a.mv[i].on=true) (fun j=>[(1,.vptr 0 0),(3,.i j)]) (fun _=>[.vars (Q4 a)]) rfl (by simp) (by simp) (by simp) (by simp) (by simp) ?_;rintro j hj ⟨za,hI⟩ ih;repeat first|(refine r_ ?_;simp)|refine q_ ?_
 refine Qa rfl (fun z6=> ?_) (fun z7=> ?_)
 ·have z1:j<a.mv.length:=by simp at z6;omega
  have zb:j<20:=by simp at z6;omega
  have hw:IntKind.i64.wrap ((j:Int)+1)=j+1:=wrap_i64 _ (by omega) (by omega);repeat first|(refine r_ ?_;simp[z1])|refine q_ ?_
  refine Qe rfl rfl (by simp) (z1e a.mv[j].on) rfl ?_;rintro _ rfl;simp;repeat first|(refine r_ ?_;simp)|refine q_ ?_
  refine Qa rfl (fun he=> ?_) (fun he=> ?_)
  ·repeat first|(refine r_ ?_;simp)|refine q_ ?_
   have:u1v a=false:=by rw[vO,Ne,Cw];intro k;have:=k.2.2 _ (zL z1);rw[this]at he;cases he
   rw[this]
  ·repeat first|(refine r_ ?_;simp[hw])|refine q_ ?_
   refine Qr [] (ih z1 ⟨by omega,fun i hi zc=> ?_⟩) rfl (by simp) ?_ (by simp) (by simp)
   ·by_cases e:i=j
    ·subst e;simpa using he
    ·exact hI i hi (by omega)
   ·simp
 ·have z8:a.mv.length≤j∨20≤j:=by simp at z7;omega
  repeat first|(refine r_ ?_;simp)|refine q_ ?_
  rw[wt,Cw];simp;constructor
  ·rintro⟨h4,h5⟩;refine⟨by omega,by omega,fun m hm=> ?_⟩;obtain⟨i,hi,rfl⟩:=xH hm;exact hI i hi (by omega)
  ·rintro⟨h4,h5,_⟩;omega
end Go.Abs
namespace Go.Abs
open Go Go.Proofs
theorem c0o(a b:Prd):PC Tryz.prog 72 [encP a,encP b] (fun r=>r= .bool (decide (a=b))):=by
 refine Qk tOk Tryz.func72 rfl Tryz.results72 rfl (by simp[Tryz.ntmps72]) ?_;rw[Tryz.ntmps72];simp only[Qg];simp only[encP];refine W2 0 0 rfl rfl (fun hlen=> ?_);rw[yB]at hlen;repeat first|(refine r_ ?_;simp)|refine q_ ?_
 refine Qa rfl (fun h=> ?_) (fun h=> ?_)
 ·repeat first|(refine r_ ?_;simp)|refine q_ ?_
  intro e;subst e;simp at h
 have hl:a.length=b.length:=by simp at h;omega
 repeat first|(refine r_ ?_;simp)|refine q_ ?_
 refine Qt a.length (fun j=>∀i,i<j→∀h1:i<a.length,∀h2:i<b.length,a[i]=b[i]) (fun j=>[(2,.vptr 0 0),(3,.vptr 1 0),(5,.i j)]) (fun _=>[.vars [.list (a.map encL)],.vars [.list (b.map encL)]]) rfl (by simp) (by simp) (by simp) (by simp) (by simp) ?_;intro j hj hI ih;repeat first|(refine r_ ?_;simp)|refine q_ ?_
 refine Qa rfl (fun z7=> ?_) (fun z8=> ?_)
 ·have z1:j<a.length:=by simpa using z7
  have za:j<b.length:=by omega
  have hw:IntKind.i64.wrap ((j:Int)+1)=j+1:=wrap_i64 _ (by omega) (by omega);repeat first|(refine r_ ?_;simp)|refine q_ ?_
  refine Qm tOk mixed [] (.val 0 (.val 1 (.val 2 (.val 3 (.val 4 (.val 5 (.val 6 (.val 7 (.val 8 (.val 9 (.one 10 (.val 11 (.done))))))))))))) rfl (by kernel_rfl) ?_;simp[z1,za];refine Qe rfl rfl (by simp) (g1k a[j] b[j]) rfl ?_;rintro _ rfl;simp;repeat first|(refine r_ ?_;simp)|refine q_ ?_
  refine Qa rfl (fun h3=> ?_) (fun h3=> ?_)
  ·repeat first|(refine r_ ?_;simp)|refine q_ ?_
   intro e;subst e;simp at h3
  ·repeat first|(refine r_ ?_;simp[hw])|refine q_ ?_
   refine Qr [] (ih z1 (fun i hi h1 h2=> ?_)) rfl (by simp) ?_ (by simp) (by simp)
   ·by_cases e:i=j
    ·subst e;simpa using h3
    ·exact hI i (by omega) h1 h2
   ·simp
 ·have z6:j=a.length:=by simp at z8;omega
  subst z6;repeat first|(refine r_ ?_;simp)|refine q_ ?_
  exact f0m hl (fun i h1 h2=>hI i h1 h1 h2)
end Go.Abs
namespace Go.Abs
open Go Go.Proofs
theorem d0f(p:Prd)(g:Nat)(f:List Iv→Bool)(hg:∀s,PC Tryz.prog g [LIv s] (fun r=>r= .bool (f s))):
  PC Tryz.prog 182 [.list (p.map encL),.fn (.func g) [] []] (fun r=>r= .i (Js f p)):=by
 refine Qk tOk Tryz.func182 rfl Tryz.results182 rfl (by simp[Tryz.ntmps182]) ?_;rw[Tryz.ntmps182];simp only[Qg];refine Ys 0 rfl (fun hlen=> ?_);rw[yB]at hlen;repeat first|(refine r_ ?_;simp)|refine q_ ?_
 refine Qt p.length (fun j=>∀i,∀hi:i<p.length,i<j→f p[i]=false) (fun j=>[(0,.list (p.map encL)),(1,.fn (.func g) [] []),(7,.i p.length),(8,.i j)]) (fun _=>[]) rfl (by simp) (by simp) (by simp) (by simp) (by simp) ?_;intro j hj hI ih;repeat first|(refine r_ ?_;simp)|refine q_ ?_
 refine Qa rfl (fun z7=> ?_) (fun z8=> ?_)
 ·have z1:j<p.length:=by simpa using z7
  have hw:IntKind.i64.wrap ((j:Int)+1)=j+1:=wrap_i64 _ (by omega) (by omega);repeat first|(refine r_ ?_;simp[z1])|refine q_ ?_
  refine Qe rfl rfl (by simp) (hg p[j]) rfl ?_;rintro _ rfl;simp;repeat first|(refine r_ ?_;simp)|refine q_ ?_
  refine Qa rfl (fun h=> ?_) (fun h=> ?_)
  ·repeat first|(refine r_ ?_;simp)|refine q_ ?_
   rw[Hx z1 h hI]
  ·repeat first|(refine r_ ?_;simp[hw])|refine q_ ?_
   refine Qr [] (ih z1 (fun i hi za=> ?_)) rfl (by simp) ?_ (by simp) (by simp)
   ·by_cases e:i=j
    ·subst e;exact h
    ·exact hI i hi (by omega)
   ·simp
 ·have z6:j=p.length:=by simp at z8;omega
  subst z6;repeat first|(refine r_ ?_;simp)|refine q_ ?_
  rw[Sl hI]
theorem Dx(p:Prd)(g:Nat)(f:List Iv→Bool)(hg:∀s,PC Tryz.prog g [LIv s] (fun r=>r= .bool (f s))):
  PC Tryz.prog 125 [.list (p.map encL),.fn (.func g) [] []] (fun r=>r= .bool (p.any f)):=by
 refine Qk tOk Tryz.func125 rfl Tryz.results125 rfl (by simp[Tryz.ntmps125]) ?_;rw[Tryz.ntmps125];simp only[Qg];repeat first|(refine r_ ?_;simp)|refine q_ ?_
 refine Qe rfl rfl (by simp) (d0f p g f hg) rfl ?_;rintro _ rfl;simp;repeat first|(refine r_ ?_;simp)|refine q_ ?_
 rw[←z0b]
theorem y11(s:List Iv):PC Tryz.prog 185 [LIv s] (fun r=>r= .bool (decide (0<s.length))):=by refine Qk tOk Tryz.func185 rfl Tryz.results185 rfl (by simp[Tryz.ntmps185]) ?_;rw[Tryz.ntmps185];simp only[Qg];repeat first|(refine r_ ?_;simp)|refine q_ ?_
theorem j1g(s:List Iv):PC Tryz.prog 126 [LIv s] (fun r=>r= .bool (decide (256<s.length))):=by
 refine Qk tOk Tryz.func126 rfl Tryz.results126 rfl (by simp[Tryz.ntmps126]) ?_;rw[Tryz.ntmps126];simp only[Qg];repeat first|(refine r_ ?_;simp)|refine q_ ?_
 omega
theorem w1b(p:Prd):(!p.any fun s=>decide (0<s.length))=Wf p:=by
 unfold Wf;rw[List.not_any_eq_all_not]
 congr 1
 funext s;cases s<;>simp
theorem w1q(p:Prd):PC Tryz.prog 132 [encP p] (fun r=>r= .bool (Wf p)):=by
 refine Qk tOk Tryz.func132 rfl Tryz.results132 rfl (by simp[Tryz.ntmps132]) ?_;rw[Tryz.ntmps132];simp only[Qg];simp only[encP];repeat first|(refine r_ ?_;simp)|refine q_ ?_
 refine Qe rfl rfl (by simp) (Dx p 185 (fun s=>decide (0<s.length)) y11) rfl ?_;rintro _ rfl;simp;repeat first|(refine r_ ?_;simp)|refine q_ ?_
 rw[←w1b p,Bool.not_not]
def u1u(m:Mv):Bool:=m.on.any fun s=>decide (256<s.length)
theorem Mn(a:Aut):N1 a=(decide (256<a.fin.length) || decide (2048<a.mv.length) || a.mv.any u1u):=rfl
attribute [local irreducible] u1u
end Go.Abs
namespace Go.Abs
open Go Go.Proofs
abbrev LSy (w:List Sy):AV:= .list (w.map encSy)
def v2k(a:Aut)(w:List Sy)(z:Int):Bool:=decide (z∈Xw a [0] w)
attribute [local irreducible] z2b nxB
end Go.Abs
namespace Go.Abs
open Go Go.Proofs
def Lm(T:Int):List Sy→Int
 |[]=>0
 |x::r=>if P6 T x≠0 then P6 T x else Lm T r
def x2l(a:Aut)(w:List Sy):Int:=if Wx a≠0 then Wx a else if 4096<w.length then 5 else Lm a.types w
def x2f(a:Aut)(w:List Sy):Bool×Int:=if x2l a w≠0 then(false,x2l a w)else(N2 a w,0)
theorem Zn{T:Int}:∀(w:List Sy),Lm T w=0↔∀x∈w,P6 T x=0
 |[]=>by simp[Lm]
 |x::r=>by
  rw[Lm];by_cases h:P6 T x=0
  ·rw[if_neg (fun k=>k h),Zn r];simp[h]
  ·rw[if_pos h];exact⟨fun k=>absurd k h,fun k=>absurd (k x (by simp)) h⟩
attribute [local irreducible] P6 N2
end Go.Abs
namespace Go.Abs
open Go Go.Proofs
def Ic:List Iv:=[⟨-1099511627776,1099511627776⟩]
theorem v0s:Wv []=Ic:=by simp[Wv,Ru,Ic]
theorem y1l:PC Tryz.prog 156 [] (fun r=>r=LIv Ic):=by
 refine Qk tOk Tryz.func156 rfl Tryz.results156 rfl (by simp[Tryz.ntmps156]) ?_;rw[Tryz.ntmps156];simp only[Qg];repeat first|(refine r_ ?_;simp)|refine q_ ?_
 simp[Ic]
theorem k1t(n:Int):PC Tryz.prog 155 [.i n] (fun r=>r= .tup [LIv Ic,.i 0]):=by
 refine Qk tOk Tryz.func155 rfl Tryz.results155 rfl (by simp[Tryz.ntmps155]) ?_;rw[Tryz.ntmps155];simp only[Qg];repeat first|(refine r_ ?_;simp)|refine q_ ?_
 refine Qe rfl rfl (by simp) (y1l) rfl ?_;rintro _ rfl;simp;repeat first|(refine r_ ?_;simp)|refine q_ ?_
end Go.Abs
namespace Go.Abs
open Go Go.Proofs
attribute [local irreducible] upL Ic
theorem y0g(T:Nat)(hT:T≤1000):PC Tryz.prog 154 [.i T,.fn (.func 155) [] []] (fun r=>r= .tup [encP (yL T Ic),.i 0]):=by
 refine Qk tOk Tryz.func154 rfl Tryz.results154 rfl (by simp[Tryz.ntmps154]) ?_;rw[Tryz.ntmps154];simp only[Qg];simp only[encP];repeat first|(refine r_ ?_;simp)|refine q_ ?_
 refine Eg 1 0 171 1 rfl rfl ?_;simp;obtain⟨K,hK⟩:∃K,K=[AObj.vars [AV.nils],AObj.vars [AV.nils]]:=⟨_,rfl⟩
 have zd:=GL.start (K:=K) (S:=1) [] [] 171 1 (by rw[hK];simp);refine Qo (Qc (sl':=[(1,.fn (.func 155) [] []),(4,.vptr 0 0),(6,.vptr 1 0),(10,.i T),(11,.i 0)]) ?_ (by simp));refine Qn (F:=fun(u:Nat×Nat×List AObj)=>⟨[(1,.fn (.func 155) [] []),(4,.vptr 0 0),(6,.vptr 1 0),(10,.i T),(11,.i u.1)],u.2.2⟩)
  (fun u=>u.1≤T∧GL K u.2.2 1 u.2.1 [] [] 171 1 (upL (fun _=>Ic) u.1)) (fun u=>T - u.1) ?_ (0,K.length,_) ⟨by simp,by rw[Se,hK]at *;exact zd⟩
 rintro⟨j,q,H2⟩ ⟨hj,g⟩ ih;simp only at hj g ih ⊢;have gR:H2[0]? =some (AObj.vars [AV.nils]):=g.kp (by decide) (by rw[hK];rfl);have g2:=g.cell;have g3:=g.arr;rw[W9]at g2;simp only[ww]at g2;repeat first|(refine r_ ?_;simp)|refine q_ ?_
 refine Qa rfl (fun ze=> ?_) (fun zf=> ?_)
 ·have zg:j<T:=by simpa using ze
  have hw:IntKind.i64.wrap ((j:Int)+1)=j+1:=wrap_i64 _ (by omega) (by omega);repeat first|(refine r_ ?_;simp)|refine q_ ?_
  refine Qe rfl rfl (by simp) (k1t j) rfl ?_;rintro _ rfl;simp;repeat first|(refine r_ ?_;simp)|refine q_ ?_
  refine Ql rfl ?_;have z6:∀L:List AObj,(H2.set q .dead++L)[1]? =some (AObj.vars [AV.sl q 1 0 j]):=fun L=>by have:=g.at L;rw[W9]at this;exact this
  have z8:∀(L:List AObj) (h:1<(H2.set q .dead++L).length),(H2.set q .dead++L)[1]'h=AObj.vars [AV.sl q 1 0 j]:=fun L h=>by have:=z6 L;rw[zK h]at this;exact Option.some.inj this
  have za:=fun A y=>g.put A y (W9 _ _).symm;have zh:upL (fun _=>Ic) j++[encL Ic]=upL (fun _=>Ic) (j+1):=(Ac _ _).symm;have z1:=fun H=>ih (j+1,H2.length+1,H);have z7:=W9 (fun _=>Ic) j;simp only[←zh]at z1;repeat first|(refine r_ ?_;simp[g2])|refine q_ ?_
  generalize upL (fun _=>Ic) j=xs at *
  refine Qf tOk rfl rfl T74 rfl Ig rfl (by decide) (by decide) rfl rfl rfl ?_;simp[Qb g3,Qj g3,z7,z6,z8];refine⟨by simp[Wi,Qb g3,Qj g3,z7,z6,z8]<;>omega,?_⟩;repeat first|(refine r_ ?_;simp[g2,hw,z6,z8])|refine q_ ?_
  refine Qc (sl':=[(1,.fn (.func 155) [] []),(4,.vptr 0 0),(6,.vptr 1 0),(10,.i T),(11,.i (j+1:Nat))]) (z1 _ ⟨by omega,za _ _⟩ (by omega)) ?_;simp
 ·have zb:j=T:=by simp at zf;omega
  subst zb;have hS:=(zB.1 g2).1;have zi:q≠0∧q≠1:=by have:=g.ge;rw[hK]at this;simp at this;omega
  have z7:=W9 (fun _=>Ic) j;have zc: .list (upL (fun _=>Ic) j)=AV.list ((yL j Ic).map encL):=by rw[Gy];simp[Function.comp_def,uA]
  generalize upL (fun _=>Ic) j=xs at *
  refine Wg q g3 1 g2 ?_;have k1:∀X,((H2.set q .dead).set 1 X)[0]? =some (AObj.vars [AV.nils]):=fun X=>Qd (by decide) (Qd zi.1 gR _) _;have k2:∀X,((H2.set q .dead).set 1 X)[1]? =some X:=fun X=>zO (by simpa using hS);have k3:∀X Y,(((H2.set q .dead).set 1 X).set 0 Y)[0]? =some Y:=fun X Y=>Qi (k1 X) _;simp[z7];rw[zR (by omega)];repeat first|(refine r_ ?_;simp[k1,k2,k3])|refine q_ ?_
  have h2:=AV.list.inj zc;rw[List.map_replicate]at h2;exact h2
theorem u1j(T:Int)(h1:1≤T)(h2:T≤16):PC Tryz.prog 98 [.i T] (fun r=>r= .tup [encP (Ws T.toNat),.i 0]):=by
 refine Qk tOk Tryz.func98 rfl Tryz.results98 rfl (by simp[Tryz.ntmps98]) ?_;rw[Tryz.ntmps98];simp only[Qg];simp only[encP];have hw:Ws T.toNat=yL T.toNat Ic:=by rw[Ws,v0s]
 have hT:((T.toNat:Nat):Int)=T:=by omega
 have hc:=y0g T.toNat (by omega);rw[hT]at hc;have n1:¬T<1:=by omega
 have n2:¬16<T:=by omega
 rw[hw];repeat first|(refine r_ ?_;simp[n1,n2])|refine q_ ?_
 refine Qa rfl (fun h=> ?_) (fun h=> ?_)
 ·simp at h
 repeat first|(refine r_ ?_;simp)|refine q_ ?_
 refine Qe rfl rfl (by simp) (hc) rfl ?_;rintro _ rfl;simp;repeat first|(refine r_ ?_;simp)|refine q_ ?_
end Go.Abs
